/-
  Merged by program: XIxMerge XBig XIxBkW.
-/
import Derived.Test.YtehlipgmkinfbaaGreatDoorU0at
import Derived.Test.YtehlipgmkinfbaaGreatDoorU0au
import Derived.Test.YtehlipgmkinfbaaGreatDoorU0av
import Derived.Test.YtehlipgmkinfbaaGreatDoorU0aj
import Derived.Test.YtehlipgmkinfbaaGreatDoorU0aa
import Derived.Test.YtehlipgmkinfbaaGreatDoorU0ay
import Derived.Test.YtehlipgmkinfbaaGreatDoorU0aw
set_option linter.unusedSimpArgs false
set_option maxRecDepth 100000
set_option maxHeartbeats 8000000
namespace Go.Proofs.YtehlipgmkinfbaaGreatDoor
open Go Go.RowKit Go.Q
attribute [local go_sem] Oper.semAt_some
theorem ixMerge_any (va vb:Value) (L M:List RowP) (w:World) (ha:IxAt w va L) (hb:IxAt w vb M) (hfL:∀ r∈L,fitR r) (hfM:∀ r∈M,fitR r) (hl:L.length+M.length≤100000) :
  Calls Tryz.prog 18 #[va,vb] w fun e w'=>(∃ b,e=.returned (pt b)∧IxAt w' (pt b) ((mergeS L M).map nrow))∧Fr (fun _=>False) w w':=by
 obtain ⟨aL,cL,ha⟩:=ha.sl;obtain ⟨aM,cM,hb⟩:=hb.sl;obtain ⟨z,hz⟩:∃ z,z=w.heap.size:=⟨_,rfl⟩
 have HZ:=Hi hz;have F0:Fr (fun _=>False) w ((w.alloc (.cells #[.slice none 0 0] 73)).alloc (.cells #[pt w.heap.size] 26)):=((Fr.refl w).alloc _).alloc _
 have BO:=(Blk.new w 73 #[.slice none 0 0]).alloc (.cells #[pt w.heap.size] 26);have BV:=Blk.new (w.alloc (.cells #[.slice none 0 0] 73)) 26 #[pt w.heap.size];rw [World.size_alloc,←hz] at BV;rw [←hz] at BO F0;have HSD:=Hi (side_any va vb aL aM cL cM L M w _ F0 ha hb (fun r hr=>(hfL r hr).2.2) (fun r hr=>(hfM r hr).2.2));have HSL:=Hi ha.slots;have HSM:=Hi hb.slots;have HFL:=Hi hfL;have HFM:=Hi hfM;have HF0:=Hi F0;have hsl:(sideR L M).length≤100000:=Nat.le_trans (side_len L M) hl
 have HLN:=Hi hsl;have h3:∃ p,va=.pointer p:=by
  rcases ha with ⟨rfl,-⟩ | ⟨b,rfl,-⟩
  ·exact ⟨_,rfl⟩
  ·exact ⟨_,rfl⟩
 have h4:∃ p,vb=.pointer p:=by
  rcases hb with ⟨rfl,-⟩ | ⟨b,rfl,-⟩
  ·exact ⟨_,rfl⟩
  ·exact ⟨_,rfl⟩
 clear ha hb hfL hfM F0 h3 h4 hz hl hsl;refine (callsIn_wide (n:=3)).1 ?_
 refine callsIn_of_wp_marks Tryz.func18 rfl trivial ?_ rfl
 simp only [Tryz.ntmps18,List.size_toArray,List.length_cons,List.length_nil,Nat.reduceAdd,Nat.reduceSub,Array.replicate_succ,Array.replicate_zero,List.push_toArray,List.append_toArray,List.nil_append,List.cons_append];gi_upto_region 2 with fail
 rw [←HZ.out];generalize ((w.alloc (.cells #[.slice none 0 0] 73)).alloc (.cells #[pt z] 26))=w0 at *
 gi_wp2_with (refine ⟨trivial,?_⟩;gi_at_call 49;refine (callsIn_wide.2 HSD.out).mono ?_;rintro e w2 ⟨⟨ba,bb,rfl,h1,h2,h3,h4,hit⟩,F2⟩)
 have lz:=BV.lt;have BO2:=BO.fr F2 (fun h=>h);have BV2:=BV.fr F2 (fun h=>h);have HF2:=Hi (HF0.out.trans F2);have HBA:=Hi (show z+1<ba∧z+1<bb∧ba<w2.heap.size∧bb<w2.heap.size from ⟨by omega,by omega,h3,h4⟩);have HIT:=Hi hit;clear HSD hit h1 h2 h3 h4 F2 BO BV lz;refine range_lawW (gf:=81) (lb:=#[pt ba,pt bb]) rfl (enters_of Tryz.func81 (by kernel_rfl) rfl) (C:=fun k=>k=ba∨k=bb) (base:=w.heap.size) (fun k hk=>by have:=HBA.out;rcases hk with hk | hk<;>omega) HF2.out.size HIT.out rfl
  (fun pre W=>Blk W (z+1) 26 #[pt z]∧IxOwn W z (w2.heap.size+2) ((((sideR L M).take pre.length).filterMap mergeG).map nrow)∧Fr (fun _=>False) w W)
  (fun _ _ _=>False)
  (fun s A B h f=>⟨h.1.fr f (by have:=HBA.out;omega),h.2.1.fr f (fun k hk=>by have:=HBA.out;omega),h.2.2.trans' f (fun i hi e=>by have:=HBA.out;have:=HZ.out;have:=HF2.out.size;omega)⟩)
  (fun c s A B h f=>h)
  ⟨BV2,⟨none,0,by have:=HBA.out;omega,by simpa using BO2,by simpa using GRow.nil _ _ _ _ _ _⟩,HF2.out⟩
  (fun x W=>{ tmps:=#[va,vb,undef,undef,.pointer none,.pointer (some ⟨z+1,0,none⟩),.pointer (some ⟨W.heap.size,0,none⟩),.agg #[.slice none 0 0],pt z,va,vb,.func (.func 81) #[] #[pt ba,pt bb],x,undef,undef,undef,undef,undef,undef,undef,undef,undef,undef,undef,undef,undef,undef,undef,undef,undef,undef,undef,undef,undef,undef,undef,undef,undef],defers:=[] }) (fun x W=>W.alloc (.cells x.cells 95)) (fun x W=>(Fr.refl W).alloc _) ?assign ?body ?done ?stop
 case assign=>
  intro l pre x rest W K hx hK
  obtain ⟨p,q,rfl⟩:=pair_form hx;gi_wp2
  exact hK
 case body=>
  rintro l pre x rest W W2 hx ⟨BV,hown,F⟩ hE F2
  obtain ⟨p,hp1,rfl,hp2,hcase⟩:=pair_at hx;obtain ⟨y,hy⟩:∃ y,y=W.heap.size:=⟨_,rfl⟩
  have HY:=Hi hy;have FA:Fr (fun _=>False) W (W.alloc (.cells (pairV aL aM p).cells 95)):=(Fr.refl W).alloc _
  have BY:Blk W2 W.heap.size 95 (pairV aL aM p).cells:=(Blk.new W 95 _).fr F2 (by omega)
  have hz2:=HF2.out.size;have FW2:Fr (fun _=>False) w W2:=(F.trans FA).trans' F2 (fun i hi e=>by have e2:i=w2.heap.size+1:=e;omega)
  have BV2:Blk W2 (z+1) 26 #[pt z]:=(BV.fr FA (fun h=>h)).fr F2 (by have:=HBA.out;omega)
  have hot:=(hown.top.fr FA (fun k h=>h.elim)).fr F2 (fun k e=>by have e2:k=w2.heap.size+1:=e;have:=HBA.out;omega);rw [←hy] at BY hot ⊢;have hWs:y<W2.heap.size:=BY.lt
  have HTK:=Hi (take_more hp2);obtain ⟨gs,hgs⟩:∃ gs,gs=(((sideR L M).take pre.length).filterMap mergeG).map nrow:=⟨_,rfl⟩
  have hgl:gs.length≤100000:=by
   rw [hgs,List.length_map];refine Nat.le_trans (List.length_filterMap_le _ _) ?_
   rw [List.length_take];have:=HLN.out
   omega
  rw [←hgs] at hot;have HNEXT:=Hi (fun (g:Option RowP) (hg:mergeG (atP L M p)=g)=>show ((((sideR L M).take (pre.length+1)).filterMap mergeG).map nrow)=gs++(match g with | some r=>[nrow r] | none=>[]) from by
   rw [HTK.out,List.filterMap_append,List.map_append,←hgs];cases g with
   | none=>simp [hg]
   | some r=>simp [hg])
  have HOT:=Hi hot;have HGL:=Hi hgl;have HE2:=Hi (show w2.heap.size+2≤y∧y<W2.heap.size∧w.heap.size≤w2.heap.size from ⟨by omega,hWs,hz2⟩);have HV2:=Hi BV2;have HFW:=Hi FW2;clear hx hp2 F FA F2 hE HIT hy hown hot hgs hgl hWs hz2 BV BV2 FW2 HTK;rcases hcase with ⟨i,r,rfl,hi⟩ | ⟨j,s,rfl,hj⟩ | ⟨i,j,r,s,rfl,hi,hj⟩
  ·have hat:mergeG (atP L M (some i,none))=some r:=by simp [atP,hi,mergeG]
   have HNX:Hid (((((sideR L M).take (pre.length+1)).filterMap mergeG).map nrow)=gs++[nrow r]):=Hi (HNEXT.out _ hat)
   have HFIT:=Hi (HFL.out r (List.mem_of_getElem? hi));obtain ⟨b,o,us,haL,hus,hRx,hRs,hk0,hcx⟩:=slot_row HSL.out hi;have HLOW:=Hi (show b<w.heap.size from World.block_lt_of_cell? w _ hk0);obtain ⟨e1,e2,e3,e4,e5,he,-⟩:=hRx.form;subst he;obtain ⟨ks,hks⟩:∃ ks,str (nameKeyS r.iss)=.string ks:=⟨_,rfl⟩
   rw [hks] at hk0 hRs;have HRS:=Hi (fun W (F:Fr (fun _=>False) w W)=>RSlot.old _ _ _ _ hRs F);have x0:=HFW.out.cell hk0 (fun h=>h);have x1:W2.cell? ⟨b,o+i*7+1,none⟩=some (.slice e1 r.iss.length e2):=HFW.out.cell (hcx 0 _ rfl) (fun h=>h)
   have x2:W2.cell? ⟨b,o+i*7+2,none⟩=some (.bool r.num.below):=HFW.out.cell (hcx 1 _ rfl) (fun h=>h)
   have x3:W2.cell? ⟨b,o+i*7+3,none⟩=some (.slice e3 r.num.size.length e4):=HFW.out.cell (hcx 2 _ rfl) (fun h=>h)
   have x4:W2.cell? ⟨b,o+i*7+4,none⟩=some (.int .i64 r.date):=HFW.out.cell (hcx 3 _ rfl) (fun h=>h)
   have x5:W2.cell? ⟨b,o+i*7+5,none⟩=some (.int .i64 r.reason):=HFW.out.cell (hcx 4 _ rfl) (fun h=>h)
   have x6:W2.cell? ⟨b,o+i*7+6,none⟩=some (.pointer e5):=HFW.out.cell (hcx 5 _ rfl) (fun h=>h)
   clear hRx hRs hk0 hcx hks hus;rw [pairV_l haL] at BY ⊢;simp only [Value.cells] at BY;have p0:=BY.cell 0;have p1:=BY.cell 1;simp only [SG] at p0 p1;have FC:Fr (fun _=>False) W2 W2.drew:=(Fr.refl W2).drew
   have HADD:=Hi (ixAdd_any z (w2.heap.size+2) y [.string ks,.slice e1 r.iss.length e2,.bool r.num.below,.slice e3 r.num.size.length e4,.int .i64 r.date,.int .i64 r.reason,.pointer e5] r gs W2.drew (HOT.out.fr FC (fun k h=>h.elim)) (by have:=HE2.out;have:=FC.size;omega) (HRS.out _ (HFW.out.trans FC)) HFIT.out (by have:=HGL.out;omega));have v0:=(HV2.out.fr FC (fun h=>h)).cell 0;simp only [List.getElem?_toArray,List.getElem?_cons_zero] at v0;have c0:=FC.cell p0 (fun h=>h);have hx0:=HLOW.out
   have hS1:(W2.drew.cell? ⟨z+1,0,none⟩=some (pt z)∧W2.drew.cell? ⟨y,0,none⟩=some (.pointer (some ⟨b,o+i*7,none⟩)))∧W2.drew.cell? ⟨b,o+i*7,none⟩=some (.string ks)∧W2.drew.cell? ⟨b,o+i*7+1,none⟩=some (.slice e1 r.iss.length e2)∧W2.drew.cell? ⟨b,o+i*7+2,none⟩=some (.bool r.num.below)∧W2.drew.cell? ⟨b,o+i*7+3,none⟩=some (.slice e3 r.num.size.length e4)∧W2.drew.cell? ⟨b,o+i*7+4,none⟩=some (.int .i64 r.date)∧W2.drew.cell? ⟨b,o+i*7+5,none⟩=some (.int .i64 r.reason)∧W2.drew.cell? ⟨b,o+i*7+6,none⟩=some (.pointer e5):=⟨⟨v0,c0⟩,FC.cell x0 (fun h=>h),FC.cell x1 (fun h=>h),FC.cell x2 (fun h=>h),FC.cell x3 (fun h=>h),FC.cell x4 (fun h=>h),FC.cell x5 (fun h=>h),FC.cell x6 (fun h=>h)⟩
   have HKD:=Hi (And.intro hS1 (fun W (F:Fr (fun k=>k=z∨(w2.heap.size+2≤k∧k<y)) W2.drew W)=>show (W.cell? ⟨z+1,0,none⟩=some (pt z)∧W.cell? ⟨y,0,none⟩=some (.pointer (some ⟨b,o+i*7,none⟩)))∧W.cell? ⟨b,o+i*7,none⟩=some (.string ks)∧W.cell? ⟨b,o+i*7+1,none⟩=some (.slice e1 r.iss.length e2)∧W.cell? ⟨b,o+i*7+2,none⟩=some (.bool r.num.below)∧W.cell? ⟨b,o+i*7+3,none⟩=some (.slice e3 r.num.size.length e4)∧W.cell? ⟨b,o+i*7+4,none⟩=some (.int .i64 r.date)∧W.cell? ⟨b,o+i*7+5,none⟩=some (.int .i64 r.reason)∧W.cell? ⟨b,o+i*7+6,none⟩=some (.pointer e5) from by
    have nz:¬(z+1=z∨(w2.heap.size+2≤z+1∧z+1<y)):=by have:=HBA.out;omega
    have ny:¬(y=z∨(w2.heap.size+2≤y∧y<y)):=by have:=HBA.out;have:=HE2.out;omega
    have nb:¬(b=z∨(w2.heap.size+2≤b∧b<y)):=by have:=HE2.out;have:=HZ.out;omega
    obtain ⟨⟨s1,s2⟩,s3,s4,s5,s6,s7,s8,s9⟩:=hS1;exact ⟨⟨F.cell s1 nz,F.cell s2 ny⟩,F.cell s3 nb,F.cell s4 nb,F.cell s5 nb,F.cell s6 nb,F.cell s7 nb,F.cell s8 nb,F.cell s9 nb⟩))
   have HFC:=Hi FC;clear hS1 c0 v0 FC hx0;clear hat hi haL HNEXT BY x0 x1 x2 x3 x4 x5 x6;gi_upto_region 5 with fail
   refine wpIn_region_N 6 (S:=fun w'=>(w'.cell? ⟨z+1,0,none⟩=some (pt z)∧w'.cell? ⟨y,0,none⟩=some (.pointer (some ⟨b,o+i*7,none⟩)))∧w'.cell? ⟨b,o+i*7,none⟩=some (.string ks)∧w'.cell? ⟨b,o+i*7+1,none⟩=some (.slice e1 r.iss.length e2)∧w'.cell? ⟨b,o+i*7+2,none⟩=some (.bool r.num.below)∧w'.cell? ⟨b,o+i*7+3,none⟩=some (.slice e3 r.num.size.length e4)∧w'.cell? ⟨b,o+i*7+4,none⟩=some (.int .i64 r.date)∧w'.cell? ⟨b,o+i*7+5,none⟩=some (.int .i64 r.reason)∧w'.cell? ⟨b,o+i*7+6,none⟩=some (.pointer e5)) (by kernel_rfl) (by kernel_rfl) (by rintro ⟨a,w,h⟩;exact h) ?_ (fun hHeld=>?_)
   ·exact HKD.out.1
   refine tkN (i:=0) rfl hHeld ?_
   (try simp only [Act.put,SS])
   refine tkN (i:=1) rfl hHeld ?_
   (try simp only [Act.put,SS])
   refine tkN (i:=2) rfl hHeld ?_
   (try simp only [Act.put,SS])
   refine tkN (i:=3) rfl hHeld ?_
   (try simp only [Act.put,SS])
   refine tkN (i:=4) rfl hHeld ?_
   (try simp only [Act.put,SS])
   refine wpAnyN_step (i:=5) (by kernel_rfl) (o:=_) rfl (fun KK hKK=>?_)
   go_simp
   (go_at_call 50;(with_reducible refine HADD.out.mono ?_);rintro e W5 ⟨rfl,hown5,F5⟩;go_wp2_with fail)
   refine hKK.out _ _ ?_ (fun hHeld=>?_)
   ·exact HKD.out.2 _ F5
   clear hKK KK
   (try simp only [Act.put,SS])
   refine wpAnyN_done (by kernel_rfl) ?_ _
   have HF5:=Hi F5;have HO5:=Hi hown5;clear F5 hown5 HADD HKD;gi_wp2
   exact ⟨(HFC.out.mono (fun _ _ h=>h.elim)).trans (HF5.out.mono (fun k _ e=>by have:=HBA.out;have:=HZ.out;have:=HE2.out;rcases e with e | e<;>exact ⟨by omega,by omega,by omega,by omega⟩)),HV2.out.fr HFC.out (fun h=>h) |>.fr HF5.out (by have:=HBA.out;omega),by rw [List.length_append];show IxOwn _ _ _ ((((sideR L M).take (pre.length+1)).filterMap mergeG).map nrow);rw [HNX.out];exact HO5.out,(HFW.out.trans HFC.out).trans' HF5.out (fun i hi e=>by have:=HZ.out;have:=HE2.out;have:=HBA.out;rcases e with e | e<;>omega)⟩
  ·have hat:mergeG (atP L M (none,some j))=if s.reason=8 then none else some s:=by simp [atP,hj,mergeG]
   have HFIT:=Hi (HFM.out s (List.mem_of_getElem? hj));obtain ⟨b,o,us,haM,hus,hRx,hRs,hk0,hcx⟩:=slot_row HSM.out hj;have HLOW:=Hi (show b<w.heap.size from World.block_lt_of_cell? w _ hk0);obtain ⟨e1,e2,e3,e4,e5,he,-⟩:=hRx.form;subst he;obtain ⟨ks,hks⟩:∃ ks,str (nameKeyS s.iss)=.string ks:=⟨_,rfl⟩
   rw [hks] at hk0 hRs;have HRS:=Hi (fun W (F:Fr (fun _=>False) w W)=>RSlot.old _ _ _ _ hRs F);have x0:=HFW.out.cell hk0 (fun h=>h);have x1:W2.cell? ⟨b,o+j*7+1,none⟩=some (.slice e1 s.iss.length e2):=HFW.out.cell (hcx 0 _ rfl) (fun h=>h)
   have x2:W2.cell? ⟨b,o+j*7+2,none⟩=some (.bool s.num.below):=HFW.out.cell (hcx 1 _ rfl) (fun h=>h)
   have x3:W2.cell? ⟨b,o+j*7+3,none⟩=some (.slice e3 s.num.size.length e4):=HFW.out.cell (hcx 2 _ rfl) (fun h=>h)
   have x4:W2.cell? ⟨b,o+j*7+4,none⟩=some (.int .i64 s.date):=HFW.out.cell (hcx 3 _ rfl) (fun h=>h)
   have x5:W2.cell? ⟨b,o+j*7+5,none⟩=some (.int .i64 s.reason):=HFW.out.cell (hcx 4 _ rfl) (fun h=>h)
   have x6:W2.cell? ⟨b,o+j*7+6,none⟩=some (.pointer e5):=HFW.out.cell (hcx 5 _ rfl) (fun h=>h)
   clear hRx hRs hk0 hcx hks hus;rw [pairV_r haM] at BY ⊢;simp only [Value.cells] at BY;have p0:=BY.cell 0;have p1:=BY.cell 1;simp only [SG] at p0 p1;have FC:Fr (fun _=>False) W2 W2.drew:=(Fr.refl W2).drew
   have HADD:=Hi (ixAdd_any z (w2.heap.size+2) y [.string ks,.slice e1 s.iss.length e2,.bool s.num.below,.slice e3 s.num.size.length e4,.int .i64 s.date,.int .i64 s.reason,.pointer e5] s gs W2.drew (HOT.out.fr FC (fun k h=>h.elim)) (by have:=HE2.out;have:=FC.size;omega) (HRS.out _ (HFW.out.trans FC)) HFIT.out (by have:=HGL.out;omega));have v0:=(HV2.out.fr FC (fun h=>h)).cell 0;simp only [List.getElem?_toArray,List.getElem?_cons_zero] at v0;have c0:=FC.cell p1 (fun h=>h);have hx0:=HLOW.out
   have hS1:(W2.drew.cell? ⟨z+1,0,none⟩=some (pt z)∧W2.drew.cell? ⟨y,1,none⟩=some (.pointer (some ⟨b,o+j*7,none⟩)))∧W2.drew.cell? ⟨b,o+j*7,none⟩=some (.string ks)∧W2.drew.cell? ⟨b,o+j*7+1,none⟩=some (.slice e1 s.iss.length e2)∧W2.drew.cell? ⟨b,o+j*7+2,none⟩=some (.bool s.num.below)∧W2.drew.cell? ⟨b,o+j*7+3,none⟩=some (.slice e3 s.num.size.length e4)∧W2.drew.cell? ⟨b,o+j*7+4,none⟩=some (.int .i64 s.date)∧W2.drew.cell? ⟨b,o+j*7+5,none⟩=some (.int .i64 s.reason)∧W2.drew.cell? ⟨b,o+j*7+6,none⟩=some (.pointer e5):=⟨⟨v0,c0⟩,FC.cell x0 (fun h=>h),FC.cell x1 (fun h=>h),FC.cell x2 (fun h=>h),FC.cell x3 (fun h=>h),FC.cell x4 (fun h=>h),FC.cell x5 (fun h=>h),FC.cell x6 (fun h=>h)⟩
   have HKD:=Hi (And.intro hS1 (fun W (F:Fr (fun k=>k=z∨(w2.heap.size+2≤k∧k<y)) W2.drew W)=>show (W.cell? ⟨z+1,0,none⟩=some (pt z)∧W.cell? ⟨y,1,none⟩=some (.pointer (some ⟨b,o+j*7,none⟩)))∧W.cell? ⟨b,o+j*7,none⟩=some (.string ks)∧W.cell? ⟨b,o+j*7+1,none⟩=some (.slice e1 s.iss.length e2)∧W.cell? ⟨b,o+j*7+2,none⟩=some (.bool s.num.below)∧W.cell? ⟨b,o+j*7+3,none⟩=some (.slice e3 s.num.size.length e4)∧W.cell? ⟨b,o+j*7+4,none⟩=some (.int .i64 s.date)∧W.cell? ⟨b,o+j*7+5,none⟩=some (.int .i64 s.reason)∧W.cell? ⟨b,o+j*7+6,none⟩=some (.pointer e5) from by
    have nz:¬(z+1=z∨(w2.heap.size+2≤z+1∧z+1<y)):=by have:=HBA.out;omega
    have ny:¬(y=z∨(w2.heap.size+2≤y∧y<y)):=by have:=HBA.out;have:=HE2.out;omega
    have nb:¬(b=z∨(w2.heap.size+2≤b∧b<y)):=by have:=HE2.out;have:=HZ.out;omega
    obtain ⟨⟨s1,s2⟩,s3,s4,s5,s6,s7,s8,s9⟩:=hS1;exact ⟨⟨F.cell s1 nz,F.cell s2 ny⟩,F.cell s3 nb,F.cell s4 nb,F.cell s5 nb,F.cell s6 nb,F.cell s7 nb,F.cell s8 nb,F.cell s9 nb⟩))
   have HFC:=Hi FC;clear hS1 c0 v0 FC hx0;clear hj haM BY;by_cases h8:s.reason=8
   ·have HNX:Hid (((((sideR L M).take (pre.length+1)).filterMap mergeG).map nrow)=gs):=Hi (by have:=HNEXT.out none (by rw [hat,if_pos h8]);simpa using this)
    have g1:(s.reason==8)=true:=by simp [h8]
    have g2:(s.reason != 8)=false:=by simp [h8]
    have g3:decide (s.reason=8)=true:=decide_eq_true h8
    clear hat HNEXT h8 HADD HKD;gi_wp2
    have hown3:IxOwn W2 z (w2.heap.size+2) gs:=by
     obtain ⟨a,c,h0,h1,h2,-⟩:=HOT.out;exact ⟨a,c,h0,h1,h2⟩
    exact ⟨Fr.refl _,HV2.out,by rw [List.length_append];show IxOwn _ _ _ ((((sideR L M).take (pre.length+1)).filterMap mergeG).map nrow);rw [HNX.out];exact hown3,HFW.out⟩
   ·have HNX:Hid (((((sideR L M).take (pre.length+1)).filterMap mergeG).map nrow)=gs++[nrow s]):=Hi (HNEXT.out (some s) (by rw [hat,if_neg h8]))
    have g1:(s.reason==8)=false:=by simp [h8]
    have g2:(s.reason != 8)=true:=by simp [h8]
    have g3:decide (s.reason=8)=false:=decide_eq_false h8
    clear hat HNEXT;gi_upto_region 7 with fail
    clear x0 x1 x2 x3 x4 x5 x6;refine wpIn_region_N 6 (S:=fun w'=>(w'.cell? ⟨z+1,0,none⟩=some (pt z)∧w'.cell? ⟨y,1,none⟩=some (.pointer (some ⟨b,o+j*7,none⟩)))∧w'.cell? ⟨b,o+j*7,none⟩=some (.string ks)∧w'.cell? ⟨b,o+j*7+1,none⟩=some (.slice e1 s.iss.length e2)∧w'.cell? ⟨b,o+j*7+2,none⟩=some (.bool s.num.below)∧w'.cell? ⟨b,o+j*7+3,none⟩=some (.slice e3 s.num.size.length e4)∧w'.cell? ⟨b,o+j*7+4,none⟩=some (.int .i64 s.date)∧w'.cell? ⟨b,o+j*7+5,none⟩=some (.int .i64 s.reason)∧w'.cell? ⟨b,o+j*7+6,none⟩=some (.pointer e5)) (by kernel_rfl) (by kernel_rfl) (by rintro ⟨a,w,h⟩;exact h) ?_ (fun hHeld=>?_)
    ·exact HKD.out.1
    refine tkN (i:=0) rfl hHeld ?_
    (try simp only [Act.put,SS])
    refine tkN (i:=1) rfl hHeld ?_
    (try simp only [Act.put,SS])
    refine tkN (i:=2) rfl hHeld ?_
    (try simp only [Act.put,SS])
    refine tkN (i:=3) rfl hHeld ?_
    (try simp only [Act.put,SS])
    refine tkN (i:=4) rfl hHeld ?_
    (try simp only [Act.put,SS])
    refine wpAnyN_step (i:=5) (by kernel_rfl) (o:=_) rfl (fun KK hKK=>?_)
    go_simp
    (go_at_call 50;(with_reducible refine HADD.out.mono ?_);rintro e W5 ⟨rfl,hown5,F5⟩;go_wp2_with fail)
    refine hKK.out _ _ ?_ (fun hHeld=>?_)
    ·exact HKD.out.2 _ F5
    clear hKK KK
    (try simp only [Act.put,SS])
    refine wpAnyN_done (by kernel_rfl) ?_ _
    have HF5:=Hi F5;have HO5:=Hi hown5;clear F5 hown5 HADD HKD;gi_wp2
    exact ⟨(HFC.out.mono (fun _ _ h=>h.elim)).trans (HF5.out.mono (fun k _ e=>by have:=HBA.out;have:=HZ.out;have:=HE2.out;rcases e with e | e<;>exact ⟨by omega,by omega,by omega,by omega⟩)),HV2.out.fr HFC.out (fun h=>h) |>.fr HF5.out (by have:=HBA.out;omega),by rw [List.length_append];show IxOwn _ _ _ ((((sideR L M).take (pre.length+1)).filterMap mergeG).map nrow);rw [HNX.out];exact HO5.out,(HFW.out.trans HFC.out).trans' HF5.out (fun i hi e=>by have:=HZ.out;have:=HE2.out;have:=HBA.out;rcases e with e | e<;>omega)⟩
  ·have hat:mergeG (atP L M (some i,some j))=if s.reason=8 then none else some s:=by simp [atP,hi,hj,mergeG]
   have HFIT:=Hi (HFM.out s (List.mem_of_getElem? hj));obtain ⟨b',o',us',haL,-⟩:=slot_row HSL.out hi;obtain ⟨b,o,us,haM,hus,hRx,hRs,hk0,hcx⟩:=slot_row HSM.out hj;have HLOW:=Hi (show b<w.heap.size from World.block_lt_of_cell? w _ hk0);obtain ⟨e1,e2,e3,e4,e5,he,-⟩:=hRx.form;subst he;obtain ⟨ks,hks⟩:∃ ks,str (nameKeyS s.iss)=.string ks:=⟨_,rfl⟩
   rw [hks] at hk0 hRs;have HRS:=Hi (fun W (F:Fr (fun _=>False) w W)=>RSlot.old _ _ _ _ hRs F);have x0:=HFW.out.cell hk0 (fun h=>h);have x1:W2.cell? ⟨b,o+j*7+1,none⟩=some (.slice e1 s.iss.length e2):=HFW.out.cell (hcx 0 _ rfl) (fun h=>h)
   have x2:W2.cell? ⟨b,o+j*7+2,none⟩=some (.bool s.num.below):=HFW.out.cell (hcx 1 _ rfl) (fun h=>h)
   have x3:W2.cell? ⟨b,o+j*7+3,none⟩=some (.slice e3 s.num.size.length e4):=HFW.out.cell (hcx 2 _ rfl) (fun h=>h)
   have x4:W2.cell? ⟨b,o+j*7+4,none⟩=some (.int .i64 s.date):=HFW.out.cell (hcx 3 _ rfl) (fun h=>h)
   have x5:W2.cell? ⟨b,o+j*7+5,none⟩=some (.int .i64 s.reason):=HFW.out.cell (hcx 4 _ rfl) (fun h=>h)
   have x6:W2.cell? ⟨b,o+j*7+6,none⟩=some (.pointer e5):=HFW.out.cell (hcx 5 _ rfl) (fun h=>h)
   clear hRx hRs hk0 hcx hks hus;rw [pairV_b haL haM] at BY ⊢;simp only [Value.cells] at BY;have p0:=BY.cell 0;have p1:=BY.cell 1;simp only [SG] at p0 p1;have FC:Fr (fun _=>False) W2 W2.drew:=(Fr.refl W2).drew
   have HADD:=Hi (ixAdd_any z (w2.heap.size+2) y [.string ks,.slice e1 s.iss.length e2,.bool s.num.below,.slice e3 s.num.size.length e4,.int .i64 s.date,.int .i64 s.reason,.pointer e5] s gs W2.drew (HOT.out.fr FC (fun k h=>h.elim)) (by have:=HE2.out;have:=FC.size;omega) (HRS.out _ (HFW.out.trans FC)) HFIT.out (by have:=HGL.out;omega));have v0:=(HV2.out.fr FC (fun h=>h)).cell 0;simp only [List.getElem?_toArray,List.getElem?_cons_zero] at v0;have c0:=FC.cell p1 (fun h=>h);have hx0:=HLOW.out
   have hS1:(W2.drew.cell? ⟨z+1,0,none⟩=some (pt z)∧W2.drew.cell? ⟨y,1,none⟩=some (.pointer (some ⟨b,o+j*7,none⟩)))∧W2.drew.cell? ⟨b,o+j*7,none⟩=some (.string ks)∧W2.drew.cell? ⟨b,o+j*7+1,none⟩=some (.slice e1 s.iss.length e2)∧W2.drew.cell? ⟨b,o+j*7+2,none⟩=some (.bool s.num.below)∧W2.drew.cell? ⟨b,o+j*7+3,none⟩=some (.slice e3 s.num.size.length e4)∧W2.drew.cell? ⟨b,o+j*7+4,none⟩=some (.int .i64 s.date)∧W2.drew.cell? ⟨b,o+j*7+5,none⟩=some (.int .i64 s.reason)∧W2.drew.cell? ⟨b,o+j*7+6,none⟩=some (.pointer e5):=⟨⟨v0,c0⟩,FC.cell x0 (fun h=>h),FC.cell x1 (fun h=>h),FC.cell x2 (fun h=>h),FC.cell x3 (fun h=>h),FC.cell x4 (fun h=>h),FC.cell x5 (fun h=>h),FC.cell x6 (fun h=>h)⟩
   have HKD:=Hi (And.intro hS1 (fun W (F:Fr (fun k=>k=z∨(w2.heap.size+2≤k∧k<y)) W2.drew W)=>show (W.cell? ⟨z+1,0,none⟩=some (pt z)∧W.cell? ⟨y,1,none⟩=some (.pointer (some ⟨b,o+j*7,none⟩)))∧W.cell? ⟨b,o+j*7,none⟩=some (.string ks)∧W.cell? ⟨b,o+j*7+1,none⟩=some (.slice e1 s.iss.length e2)∧W.cell? ⟨b,o+j*7+2,none⟩=some (.bool s.num.below)∧W.cell? ⟨b,o+j*7+3,none⟩=some (.slice e3 s.num.size.length e4)∧W.cell? ⟨b,o+j*7+4,none⟩=some (.int .i64 s.date)∧W.cell? ⟨b,o+j*7+5,none⟩=some (.int .i64 s.reason)∧W.cell? ⟨b,o+j*7+6,none⟩=some (.pointer e5) from by
    have nz:¬(z+1=z∨(w2.heap.size+2≤z+1∧z+1<y)):=by have:=HBA.out;omega
    have ny:¬(y=z∨(w2.heap.size+2≤y∧y<y)):=by have:=HBA.out;have:=HE2.out;omega
    have nb:¬(b=z∨(w2.heap.size+2≤b∧b<y)):=by have:=HE2.out;have:=HZ.out;omega
    obtain ⟨⟨s1,s2⟩,s3,s4,s5,s6,s7,s8,s9⟩:=hS1;exact ⟨⟨F.cell s1 nz,F.cell s2 ny⟩,F.cell s3 nb,F.cell s4 nb,F.cell s5 nb,F.cell s6 nb,F.cell s7 nb,F.cell s8 nb,F.cell s9 nb⟩))
   have HFC:=Hi FC;clear hS1 c0 v0 FC hx0;clear hj haM BY hi haL;by_cases h8:s.reason=8
   ·have HNX:Hid (((((sideR L M).take (pre.length+1)).filterMap mergeG).map nrow)=gs):=Hi (by have:=HNEXT.out none (by rw [hat,if_pos h8]);simpa using this)
    have g1:(s.reason==8)=true:=by simp [h8]
    have g2:(s.reason != 8)=false:=by simp [h8]
    have g3:decide (s.reason=8)=true:=decide_eq_true h8
    clear hat HNEXT h8 HADD HKD;gi_wp2
    have hown3:IxOwn W2 z (w2.heap.size+2) gs:=by
     obtain ⟨a,c,h0,h1,h2,-⟩:=HOT.out;exact ⟨a,c,h0,h1,h2⟩
    exact ⟨Fr.refl _,HV2.out,by rw [List.length_append];show IxOwn _ _ _ ((((sideR L M).take (pre.length+1)).filterMap mergeG).map nrow);rw [HNX.out];exact hown3,HFW.out⟩
   ·have HNX:Hid (((((sideR L M).take (pre.length+1)).filterMap mergeG).map nrow)=gs++[nrow s]):=Hi (HNEXT.out (some s) (by rw [hat,if_neg h8]))
    have g1:(s.reason==8)=false:=by simp [h8]
    have g2:(s.reason != 8)=true:=by simp [h8]
    have g3:decide (s.reason=8)=false:=decide_eq_false h8
    clear hat HNEXT;gi_upto_region 7 with fail
    clear x0 x1 x2 x3 x4 x5 x6;refine wpIn_region_N 6 (S:=fun w'=>(w'.cell? ⟨z+1,0,none⟩=some (pt z)∧w'.cell? ⟨y,1,none⟩=some (.pointer (some ⟨b,o+j*7,none⟩)))∧w'.cell? ⟨b,o+j*7,none⟩=some (.string ks)∧w'.cell? ⟨b,o+j*7+1,none⟩=some (.slice e1 s.iss.length e2)∧w'.cell? ⟨b,o+j*7+2,none⟩=some (.bool s.num.below)∧w'.cell? ⟨b,o+j*7+3,none⟩=some (.slice e3 s.num.size.length e4)∧w'.cell? ⟨b,o+j*7+4,none⟩=some (.int .i64 s.date)∧w'.cell? ⟨b,o+j*7+5,none⟩=some (.int .i64 s.reason)∧w'.cell? ⟨b,o+j*7+6,none⟩=some (.pointer e5)) (by kernel_rfl) (by kernel_rfl) (by rintro ⟨a,w,h⟩;exact h) ?_ (fun hHeld=>?_)
    ·exact HKD.out.1
    refine tkN (i:=0) rfl hHeld ?_
    (try simp only [Act.put,SS])
    refine tkN (i:=1) rfl hHeld ?_
    (try simp only [Act.put,SS])
    refine tkN (i:=2) rfl hHeld ?_
    (try simp only [Act.put,SS])
    refine tkN (i:=3) rfl hHeld ?_
    (try simp only [Act.put,SS])
    refine tkN (i:=4) rfl hHeld ?_
    (try simp only [Act.put,SS])
    refine wpAnyN_step (i:=5) (by kernel_rfl) (o:=_) rfl (fun KK hKK=>?_)
    go_simp
    (go_at_call 50;(with_reducible refine HADD.out.mono ?_);rintro e W5 ⟨rfl,hown5,F5⟩;go_wp2_with fail)
    refine hKK.out _ _ ?_ (fun hHeld=>?_)
    ·exact HKD.out.2 _ F5
    clear hKK KK
    (try simp only [Act.put,SS])
    refine wpAnyN_done (by kernel_rfl) ?_ _
    have HF5:=Hi F5;have HO5:=Hi hown5;clear F5 hown5 HADD HKD;gi_wp2
    exact ⟨(HFC.out.mono (fun _ _ h=>h.elim)).trans (HF5.out.mono (fun k _ e=>by have:=HBA.out;have:=HZ.out;have:=HE2.out;rcases e with e | e<;>exact ⟨by omega,by omega,by omega,by omega⟩)),HV2.out.fr HFC.out (fun h=>h) |>.fr HF5.out (by have:=HBA.out;omega),by rw [List.length_append];show IxOwn _ _ _ ((((sideR L M).take (pre.length+1)).filterMap mergeG).map nrow);rw [HNX.out];exact HO5.out,(HFW.out.trans HFC.out).trans' HF5.out (fun i hi e=>by have:=HZ.out;have:=HE2.out;have:=HBA.out;rcases e with e | e<;>omega)⟩
 case done=>
  rintro D W hD ⟨BV,hown,F⟩ hK
  have hix:=hown.at;rw [pairsV_len,List.take_length] at hix;have r0:=BV.cell 0;simp only [List.getElem?_toArray,List.getElem?_cons_zero] at r0;have hdw:w.heap.size≤D:=by have:=HF2.out.size;omega
  have HF5:=Hi (F.trans' (Fr.putObj (S:=fun k=>k=D) (Fr.refl W) D (fun _=>rfl) (.deferred none)) (fun i hi e=>by have e2:i=D:=e;omega));have HIX:=Hi (show IxAt (W.putObj D (.deferred none)) (pt z) ((mergeS L M).map nrow) from by
   have hfr:IxOwn (W.putObj D (.deferred none)) z (w2.heap.size+2) ((((sideR L M).take (pairsV aL aM L M 0 0).length).filterMap mergeG).map nrow):=hown.fr (Fr.putObj (S:=fun k=>k=D) (Fr.refl W) D (fun _=>rfl) (.deferred none)) (fun k e=>by have e2:k=D:=e;have:=HBA.out;omega)
   have:=hfr.at
   rw [pairsV_len,List.take_length] at this;exact this)
  clear HIT hown hix F;gi_wp2
  refine ⟨by simp,.inl ⟨_,_,rfl,run_takeDeferred hK,?_⟩⟩
  exact ⟨pt z,by simp [results,Tryz.results18,go_sem],⟨z,rfl,HIX.out⟩,HF5.out⟩
 case stop=>
  rintro D c pre W hD hpre h hK
  exact h.elim
end Go.Proofs.YtehlipgmkinfbaaGreatDoor

namespace Go.Q
open Go Go.RowKit
section
variable {P:Program}
theorem append_big {w:World}{base n:Nat}{t e:TypeId}{v:Value}{xs:List Value}{z:Value}{size bytes:Nat}(hu:P.underlying t=some (.slice e)) (hinf:Info P e z size bytes) (hzs:z.cells.size=size) (hs0:0<size)
  (hown:w.ownsRow base e size v n xs) (hb:base≤w.heap.size) (a:Addr) (m c:Nat) (news:List Value) (hl:news.length=m*size) (hnews:∀ j u,news[j]? = some u→w.cell? (a.add j)=some u) (h1:∀ u∈news,u.oneCell'=true) (hm63:n+m≤maxLen) (hsz:(n+m)*bytes≤140737488355328) :
  ∃ a' c' w',(Builtin.append_ #[t,t] t #[v,.slice (some a) m c]).run P w=.ok (.slice a' (n+m) c') w'∧w'.ownsRow base e size (.slice a' (n+m) c') (n+m) (xs++news)∧Fr (fun k=>v.ownBlock=some k) w w'∧(∀ k,(Value.slice a' (n+m) c').ownBlock=some k→v.ownBlock=some k∨w.heap.size≤k):=by
 obtain ⟨i0,hi0,hz0,hz1,hz2⟩:=info_parts hinf;obtain ⟨v',w',hr,h2,h3,_,h4⟩:=run_append_own_at (P:=P) w base t t e i0 z size bytes hu hi0 hz0 hz1 hz2 hzs hs0 v n xs hown a m c news hl hnews h1 hm63 hsz hb;obtain ⟨a',m',c',rfl,rfl⟩:=own_shape h2;refine ⟨a',c',w',hr,h2,Fr.of_grown h3,fun k hk=>?_⟩
 rcases h4 with h | h
 ·exact .inl (h.symm.trans hk)
 ·rw [h] at hk
  simp only [Option.some.injEq] at hk;exact .inr (by omega)
theorem add_big {w wa:World}{base n:Nat}{t e:TypeId}{v:Value}{xs:List Value}{z:Value}{size bytes:Nat}(hu:P.underlying t=some (.slice e)) (hinf:Info P e z size bytes) (hzs:z.cells.size=size) (hs0:0<size)
  (hown:w.ownsRow base e size v n xs) (hb:base≤w.heap.size) (F1:Fr (fun _=>False) w wa) (g:Nat) (cs:List Value) (hcs:cs.length=size) (BX:Blk wa g e cs.toArray) (h1:∀ u∈cs,u.oneCell'=true) (hm63:n+1≤maxLen) (hn:(n+1)*bytes≤140737488355328) :
  ∃ a' c' w',(Builtin.append_ #[t,t] t #[v,.slice (some ⟨g,0,none⟩) 1 1]).run P wa=.ok (.slice a' (n+1) c') w'∧w'.ownsRow base e size (.slice a' (n+1) c') (n+1) (xs++cs)∧Fr (fun k=>v.ownBlock=some k) w w'∧(∀ k,(Value.slice a' (n+1) c').ownBlock=some k→v.ownBlock=some k∨w.heap.size≤k):=by
 obtain ⟨a',c',w',hr,h2,F2,h3⟩:=append_big hu hinf hzs hs0 (Go.Proofs.YtehlipgmkinfbaaGreatDoor.ownsRow_fr hown F1 (fun _ _ h=>h)) (Nat.le_trans hb F1.size) ⟨g,0,none⟩ 1 1 cs (by rw [hcs,Nat.one_mul]) (fun j u hj=>by
  rw [show (⟨g,0,none⟩:Addr).add j=⟨g,0+j,none⟩ from by unfold Addr.add;split<;>simp_all,BX.cell,Nat.zero_add];simpa using hj) h1 hm63 hn
 refine ⟨a',c',w',hr,h2,(F1.mono (fun _ _ h=>h.elim)).trans F2,fun k hk=>?_⟩
 rcases h3 k hk with h | h
 ·exact .inl h
 ·exact .inr (Nat.le_trans F1.size h)
end
section
variable {α:Type}{sz:Nat}{R:World→List Value→α→Prop}{K:Nat→Prop}{t:TypeId}{w:World}{base:Nat}{v:Value}{l:List α}
theorem GRow.addB {P:Program}{s:TypeId}{z:Value}{bytes:Nat}(hu0:P.underlying s=some (.slice t)) (hinf:Info P t z sz bytes) (hzs:z.cells.size=sz) (hs0:0<sz) {wa:World}(h:GRow sz R K t w base v l) (hb:base≤w.heap.size) (F1:Fr (fun _=>False) w wa) (g:Nat) (us:List Value) (hus:us.length=sz) (BX:Blk wa g t us.toArray) (h1:∀ u∈us,u.oneCell'=true) (x:α) (hk:Kept (fun W=>R W us x) (fun k=>v.ownBlock=some k∨K k) w) (hm63:l.length+1≤maxLen) (hn:(l.length+1)*bytes≤140737488355328) :
  ∃ a c w',(Builtin.append_ #[s,s] s #[v,.slice (some ⟨g,0,none⟩) 1 1]).run P wa=.ok (.slice a (l.length+1) c) w'∧GRow sz R K t w' base (.slice a (l.length+1) c) (l++[x])∧Fr (fun k=>v.ownBlock=some k) w w'∧(∀ k,(Value.slice a (l.length+1) c).ownBlock=some k→v.ownBlock=some k∨w.heap.size≤k):=by
 obtain ⟨cs,g1,g2⟩:=h;have hcl:cs.length=l.length*sz:=g1.1
 obtain ⟨a,c,w',hrun,h4,F2,h5⟩:=add_big hu0 hinf hzs hs0 g1 hb F1 g us hus BX h1 hm63 hn;have hst:∀ (us:List Value) (y:α),Kept (fun W=>R W us y) (fun k=>v.ownBlock=some k∨K k) w→Kept (fun W=>R W us y) (fun k=>(Value.slice a (l.length+1) c).ownBlock=some k∨K k) w':=fun us y hq=>
  hq.step F2 (fun _ _ h=>.inl h) (fun k hk=>by
   rcases hk with h | h
   ·rcases h5 k h with h | h
    ·exact .inl (.inl h)
    ·exact .inr h
   ·exact .inl (.inr h))
 refine ⟨a,c,w',hrun,⟨cs++us,by rw [List.length_append];exact h4,fun i y hy=>?_⟩,F2,h5⟩
 rcases Nat.lt_or_ge i l.length with hi | hi
 ·rw [List.getElem?_append_left hi] at hy
  obtain ⟨us',e1,e2,e3⟩:=g2 i y hy;refine ⟨us',e1,fun j u hu=>?_,hst _ _ e3⟩
  have:=e2 j u hu
  rw [List.getElem?_append_left (List.getElem?_eq_some_iff.1 this).1];exact this
 ·obtain rfl:i=l.length:=by
   have:=(List.getElem?_eq_some_iff.1 hy).1
   simp at this
   omega
  rw [List.getElem?_append_right (Nat.le_refl _)] at hy;simp at hy
  subst hy;refine ⟨us,hus,fun j u hu=>?_,hst _ _ hk⟩
  rw [Nat.mul_comm,List.getElem?_append_right (by rw [hcl];exact Nat.le_add_right _ _),hcl,Nat.add_sub_cancel_left];exact hu
end
end Go.Q

namespace Go.Proofs.YtehlipgmkinfbaaGreatDoor
open Go Go.RowKit Go.Q
theorem bkWalk_any (va vb:Value) (A B:List RowI) (w:World) (ha:RefsI w va A) (hb:RefsI w vb B) (hE:Env w) (hB:B.length*88≤140737488355328) :
  Calls Tryz.prog 5 #[va,vb] w fun e w'=>e=.returned (.bool true)∧Fr (fun _=>False) w w':=by
 have hfa:∀ (l:List RowI),∀ r∈toRows l,fitN r.iss∧r.num.size.length≤1000000:=fun l r hr=>by
  obtain ⟨x,-,rfl⟩:=List.mem_map.1 hr;exact ⟨toRow_fit x,toRow_size x⟩
 have l1:=least_ix (toRows A) (hfa A);have l2:=least_ix (toRows (left8 B)) (hfa (left8 B));obtain ⟨O1,hO1⟩:∃ O,O=(leastL (toRows A) [] []).2:=⟨_,rfl⟩
 obtain ⟨O2,hO2⟩:∃ O,O=(leastL (toRows (left8 B)) [] []).2:=⟨_,rfl⟩
 rw [←hO1] at l1;rw [←hO2] at l2;have HL1:=Hi (leastIx_any va A w O1 hO1 ha hE);have HO2:=Hi hO2;obtain ⟨X,hX⟩:∃ X,X=O1.map nrow:=⟨_,rfl⟩
 obtain ⟨Y,hY⟩:∃ Y,Y=O2.map nrow:=⟨_,rfl⟩
 have hix:Ixed X:=by rw [hX];exact l1.2.2.2.1
 have hiy:Ixed Y:=by rw [hY];exact l2.2.2.2.1
 have hlx:X.length≤8:=by rw [hX,List.length_map];have:=l1.2.2.2.2.1;have:=toRows_len A;omega
 have hly:Y.length≤8:=by rw [hY,List.length_map];have:=l2.2.2.2.2.1;have:=toRows_len (left8 B);omega
 have h8:∀ r∈Y,r.reason≠8:=fun r hr=>by
  rw [hY] at hr;obtain ⟨z,hz,rfl⟩:=List.mem_map.1 hr;exact left8_rows B z (l2.2.2.1 z hz).2
 have HIX:=Hi hix;have HIY:=Hi hiy;have HID:=Hi (ixed_delta hix hiy);have HLX:=Hi hlx;have HLY:=Hi hly;have HND:=Hi (nrow_all (ixed_delta hix hiy).2.1);have HNM:=Hi (nrow_all (ixed_merge hix (ixed_delta hix hiy)).2.1);have HIM:=Hi (ixed_merge hix (ixed_delta hix hiy));have HLD:=Hi (show (deltaS X Y).length≤16 from by have:=delta_len X Y;omega);have HBK:=Hi (back_law hix.1 hiy.1 h8);have HDS:=Hi (delta_self hix.1);have HMN:=Hi (merge_nil hiy.1);have HNN:=Hi (nil_merge hiy.1 h8);have HSS:=Hi (same_self hiy.1);have HNY:=Hi (nrow_all hiy.2.1);have HXE:=Hi hX;have HYE:=Hi hY;have HE:=Hi hE
 have HBB:=Hi hb;have hbl:B.length≤1599289640401:=by omega
 have HBL:=Hi hbl;have HB8:=Hi hB;obtain ⟨D,hD⟩:∃ D,D=deltaS X Y:=⟨_,rfl⟩
 rw [←hD] at HID HND HNM HIM HLD HBK;obtain ⟨M,hM⟩:∃ M,M=mergeS X D:=⟨_,rfl⟩
 rw [←hM] at HNM HIM HBK;have HDE:=Hi hD;have HME:=Hi hM;obtain ⟨b0,c0,rfl,-⟩:=hb;clear hfa l1 l2 hO1 hO2 hX hY hix hiy hlx hly h8 ha hE hB hD hM hbl;go_enter Tryz.func5,Tryz.ntmps5
 go_wp2_with fail
 refine HL1.out.mono ?_
 rintro e w1 ⟨⟨x1,a1,c1,rfl,hx1,-⟩,F1⟩
 rw [←HXE.out] at hx1;have HX1:=Hi hx1;have HF1:=Hi F1;clear hx1 F1 HL1;go_wp2_with fail
 go_loopg [8,9] B.length (fun g u i wr=>∃ (j:Nat) (a:Option Addr) (c:Nat) (gs:List RowI),g=B.length-j∧j≤B.length∧u=.slice a gs.length c∧i=.int .i64 j∧Hid (gs=left8 (B.take j))∧Hid (gs.length≤j)∧Hid (GRow 7 (fun _ us x=>RRefI w us x) (fun _=>True) 56 wr w1.heap.size (.slice a gs.length c) gs)∧Hid (Fr (fun _=>False) w1 wr))
 case atStart=>exact ⟨0,none,0,[],rfl,Nat.zero_le _,rfl,rfl,Hi rfl,Hi (Nat.le_refl _),Hi (GRow.nil _ _ _ _ _ _),Hi (Fr.refl _)⟩
 case round=>
  obtain ⟨j,a,c,gs,hg,hj,rfl,rfl,HGS,HGL,HRW,HF⟩:=hrel;have HG:=Hi hg;have hbl:=HBL.out;clear hg;by_cases hjl:j<B.length
  ·obtain ⟨x,hx⟩:∃ x,B[j]? = some x:=⟨_,List.getElem?_eq_getElem hjl⟩
   obtain ⟨b,o,cs,rfl,-,-,hR,hcell⟩:=LAt.get HBB.out hx;obtain ⟨p1,p2,p3,p4,rfl,-⟩:=hR.form;have HRX:=Hi hR;have HF1r:=Hi (HF1.out.trans HF.out);have e0:=HF1r.out.cell (hcell 0 _ rfl) (fun h=>h);have e1:=HF1r.out.cell (hcell 1 _ rfl) (fun h=>h);have e2:=HF1r.out.cell (hcell 2 _ rfl) (fun h=>h);have e3:=HF1r.out.cell (hcell 3 _ rfl) (fun h=>h);have e4:=HF1r.out.cell (hcell 4 _ rfl) (fun h=>h);have e5:=HF1r.out.cell (hcell 5 _ rfl) (fun h=>h);have e6:=HF1r.out.cell (hcell 6 _ rfl) (fun h=>h);simp only [Nat.add_zero] at e0;have p6:(0:Int)≤(j:Int):=by omega
   have p7:(j:Int)<(B.length:Int):=by omega
   have HTK:=Hi (show left8 (B.take (j+1))=left8 (B.take j)++left8 [x] by rw [List.take_add_one,hx];unfold left8;rw [List.filter_append];rfl);clear hx hR hcell;by_cases h8:x.reason=8
   ·have q1:(x.reason==8)=true:=by rw [h8];rfl
    have q2:(x.reason != 8)=false:=by rw [h8];rfl
    have HGS2:=Hi (show gs=left8 (B.take (j+1)) from by
     rw [HTK.out,HGS.out];unfold left8
     simp [h8])
    clear h8;go_wp2_with fail
    go_roundg (B.length-(j+1))
    case measure=>rw [HG.out];omega
    case rel=>exact ⟨j+1,a,c,gs,rfl,by omega,rfl,by go_num,HGS2,Hi (by have:=HGL.out;omega),HRW,HF⟩
   ·have q1:(x.reason==8)=false:=beq_eq_false_iff_ne.2 h8
    have q2:(x.reason != 8)=true:=by rw [bne,q1];rfl
    have HGS2:=Hi (show gs++[x]=left8 (B.take (j+1)) from by
     rw [HTK.out,HGS.out];unfold left8
     simp [h8])
    clear h8
    obtain ⟨a7,c7,w7,hrun,hrow7,F7,-⟩:=HRW.out.addB (s:=22) Tryz.underlying22 info56 rfl (by decide) HF.out.size ((Fr.refl wr).alloc (.cells [.slice p1 x.iss.length p2,.bool x.num.below,.slice p3 x.num.size.length p4,.int .i64 x.date,.int .i64 x.reason,.bool x.dated,.int .i64 x.inv].toArray 56)) wr.heap.size [.slice p1 x.iss.length p2,.bool x.num.below,.slice p3 x.num.size.length p4,.int .i64 x.date,.int .i64 x.reason,.bool x.dated,.int .i64 x.inv] rfl (Blk.new wr 56 [.slice p1 x.iss.length p2,.bool x.num.below,.slice p3 x.num.size.length p4,.int .i64 x.date,.int .i64 x.reason,.bool x.dated,.int .i64 x.inv].toArray) (by simp [Value.oneCell']) x (fun _ _=>HRX.out) (by have:=HGL.out;unfold maxLen;omega) (by have:=HGL.out;have:=HB8.out;omega)
    have HRUN:=Hi hrun;have HKP:=Hi HRW.out.keep;have HF7:=Hi (HF.out.trans' F7 (fun i hi e=>absurd hi (by have:=(HKP.out i e).1;omega)));have HRW7:=Hi hrow7;have HLL:Hid ((gs++[x]).length=gs.length+1):=Hi (by rw [List.length_append];rfl)
    clear hrun hrow7 F7;go_wp2_with ((at_builtin;refine wpList_append_run (by rfl) (.tmp 31) (.tmp 36) 22 (by rfl) _ w7 (by exact HRUN.out) ?_))
    go_roundg (B.length-(j+1))
    case measure=>rw [HG.out];omega
    case rel=>exact ⟨j+1,a7,c7,gs++[x],rfl,by omega,by rw [HLL.out],by go_num,HGS2,Hi (by rw [HLL.out];have:=HGL.out;omega),Hi (by rw [HLL.out];exact HRW7.out),HF7⟩
  ·have p7:¬(j:Int)<(B.length:Int):=by omega
   have HGE:=Hi (show gs=left8 B from by rw [HGS.out,List.take_of_length_le (by omega)]);have HFR:=Hi (HF1.out.trans HF.out);have HL2:=Hi (leastIx_any (.slice a gs.length c) gs wr O2 (by rw [HGE.out];exact HO2.out) ((HRW.out.at (by decide)).move (Fr.refl wr) (fun cs x hx=>RRefI.old _ _ _ _ hx HFR.out)) (HE.out.old HFR.out));go_wp2_with fail
   refine HL2.out.mono ?_
   rintro e w2 ⟨⟨x2,a2,c2,rfl,hx2,-⟩,F2⟩
   rw [←HYE.out] at hx2;have HX2:=Hi hx2;have HFA:=Hi (HFR.out.trans F2);have HFX:=Hi (HF.out.trans F2);clear hx2 F2 HL2;go_wp2_with fail
   refine (ixKnown_any _ (HE.out.old HFA.out)).mono ?_
   rintro e w3 ⟨rfl,F3⟩
   have HX13:=Hi (HX1.out.old (HFX.out.trans F3));have HX23:=Hi (HX2.out.old F3);have HF3:=Hi (HFA.out.trans F3);clear F3;go_wp2_with fail
   refine (ixDelta_any _ _ X Y w3 HX13.out HX23.out HIX.out.2.2 HIY.out.2.2 (by have:=HLX.out;have:=HLY.out;omega)).mono ?_
   rintro e w4 ⟨⟨d1,rfl,hd⟩,F4⟩
   rw [←HDE.out,HND.out] at hd;have HD4:=Hi hd;have HX14:=Hi (HX13.out.old F4);have HX24:=Hi (HX23.out.old F4);have HF4:=Hi (HF3.out.trans F4);clear F4 hd;go_wp2_with fail
   refine (ixMerge_any _ _ X D w4 HX14.out HD4.out HIX.out.2.2 HID.out.2.2 (by have:=HLX.out;have:=HLD.out;omega)).mono ?_
   rintro e w5 ⟨⟨d2,rfl,hd⟩,F5⟩
   rw [←HME.out,HNM.out] at hd;have HD5:=Hi hd;have HX15:=Hi (HX14.out.old F5);have HX25:=Hi (HX24.out.old F5);have HF5:=Hi (HF4.out.trans F5);clear F5 hd;go_wp2_with fail
   refine (ixSame_any _ _ M Y w5 HD5.out HX25.out (fun r hr=>(HIM.out.2.2 r hr).2.2) (fun r hr=>(HIY.out.2.2 r hr).2.2)).mono ?_
   rintro e w6 ⟨rfl,F6⟩
   rw [HBK.out];have HX16:=Hi (HX15.out.old F6);have HX26:=Hi (HX25.out.old F6);have HF6:=Hi (HF5.out.trans F6);clear F6;go_wp2_with fail
   refine (ixDelta_any _ _ X X w6 HX16.out HX16.out HIX.out.2.2 HIX.out.2.2 (by have:=HLX.out;omega)).mono ?_
   rintro e w7 ⟨⟨d3,rfl,hd⟩,F7⟩
   rw [HDS.out,List.map_nil] at hd;have HD7:=Hi hd;have HX27:=Hi (HX26.out.old F7);have HF7:=Hi (HF6.out.trans F7);clear F7 hd;go_wp2_with fail
   refine (ixLen_any _ [] w7 HD7.out).mono ?_
   rintro e w8 ⟨rfl,F8⟩
   simp only [List.length_nil];have HX28:=Hi (HX27.out.old F8);have HF8:=Hi (HF7.out.trans F8);clear F8;go_wp2_with fail
   refine (ixMerge_any _ (.pointer none) Y [] w8 HX28.out (.inl ⟨rfl,rfl⟩) HIY.out.2.2 (fun r hr=>by cases hr) (by have:=HLY.out;simp only [List.length_nil];omega)).mono ?_
   rintro e w9 ⟨⟨d4,rfl,hd⟩,F9⟩
   rw [HMN.out,HNY.out] at hd;have HD9:=Hi hd;have HX29:=Hi (HX28.out.old F9);have HF9:=Hi (HF8.out.trans F9);clear F9 hd;go_wp2_with fail
   refine (ixSame_any _ _ Y Y w9 HD9.out HX29.out (fun r hr=>(HIY.out.2.2 r hr).2.2) (fun r hr=>(HIY.out.2.2 r hr).2.2)).mono ?_
   rintro e w10 ⟨rfl,F10⟩
   rw [HSS.out];have HX210:=Hi (HX29.out.old F10);have HF10:=Hi (HF9.out.trans F10);clear F10;go_wp2_with fail
   refine (ixMerge_any (.pointer none) _ [] Y w10 (.inl ⟨rfl,rfl⟩) HX210.out (fun r hr=>by cases hr) HIY.out.2.2 (by have:=HLY.out;simp only [List.length_nil];omega)).mono ?_
   rintro e w11 ⟨⟨d5,rfl,hd⟩,F11⟩
   rw [HNN.out,HNY.out] at hd;have HD11:=Hi hd;have HX211:=Hi (HX210.out.old F11);have HF11:=Hi (HF10.out.trans F11);clear F11 hd;go_wp2_with fail
   refine (ixSame_any _ _ Y Y w11 HD11.out HX211.out (fun r hr=>(HIY.out.2.2 r hr).2.2) (fun r hr=>(HIY.out.2.2 r hr).2.2)).mono ?_
   rintro e w12 ⟨rfl,F12⟩
   rw [HSS.out];have HF12:=Hi (HF11.out.trans F12);clear F12;go_wp2_with fail
   go_ret
   exact ⟨rfl,HF12.out⟩
end Go.Proofs.YtehlipgmkinfbaaGreatDoor
