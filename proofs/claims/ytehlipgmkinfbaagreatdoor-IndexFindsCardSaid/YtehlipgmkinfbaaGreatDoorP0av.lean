/-
  Merged by program: XIxDelta XWh6 XWh7.
-/
import Derived.Test.YtehlipgmkinfbaaGreatDoorP0au
set_option linter.unusedSimpArgs false
set_option maxRecDepth 100000
set_option maxHeartbeats 8000000
namespace Go.Q
theorem gone_slot {W:World}{k a b c d e f:Value}{r:RowP}(h:RSlot W [k,a,b,c,d,e,f] r):RSlot W [k,a,b,c,d,.int .i64 8,.pointer none] (goneR r):=by
 obtain⟨us,h1,vi,vs,vp,h2,h3,h4,-⟩:=h
 subst h2;simp only[List.cons.injEq,and_true]at h1
 obtain⟨rfl,rfl,rfl,rfl,rfl,-,-⟩:=h1
 exact⟨_,rfl,a,c,.pointer none,rfl,h3,h4,rfl⟩
section
variable {α κ:Type} [DecidableEq κ] {lt:κ→κ→Bool}{key:α→κ}
theorem sideS_len:∀ (l m:List α),(sideS lt key l m).length≤l.length+m.length
 | [],[]=>by rw[sideS];simp
 |x::l,[]=>by
  have:=sideS_len l [];rw[sideS];simp only[List.length_cons,List.length_nil] at *;omega
 | [],y::m=>by
  have:=sideS_len [] m;rw[sideS];simp only[List.length_cons,List.length_nil] at *;omega
 |x::l,y::m=>by
  have h1:=sideS_len l (y::m);have h2:=sideS_len l m;have h3:=sideS_len (x::l) m;rw[sideS]
  split
  ·simp only[List.length_cons] at *;omega
  ·split
   ·simp only[List.length_cons] at *;omega
   ·simp only[List.length_cons] at *;omega
termination_by l m=>l.length+m.length
end
theorem side_len (L M:List RowP):(sideR L M).length≤L.length+M.length:=sideS_len L M
end Go.Q
namespace Go.Proofs.YtehlipgmkinfbaaGreatDoor
open Go Go.RowKit Go.Q
attribute [local go_sem] Oper.semAt_some
theorem ixDelta_any (va vb:Value)(L M:List RowP)(w:World)(ha:IxAt w va L)(hb:IxAt w vb M)(hfL:∀ r∈L,fitR r)(hfM:∀ r∈M,fitR r)(hl:L.length+M.length≤100000) :
  Calls Tryz.prog 19 #[va,vb] w fun e w'=>(∃ b,e=.returned (pt b)∧IxAt w' (pt b) ((deltaS L M).map nrow))∧Fz w w':=by
 obtain⟨aL,cL,ha⟩:=ha.sl
 obtain⟨aM,cM,hb⟩:=hb.sl
 obtain⟨z,hz⟩:∃ z,z=w.heap.size:=⟨_,rfl⟩
 have HZ:=Hi hz;have F0:Fz w ((w.alloc (.cells #[.slice none 0 0] 73)).alloc (.cells #[pt w.heap.size] 26)):=((Fr.refl w).alloc _).alloc _;have BO:=(Blk.new w 73 #[.slice none 0 0]).alloc (.cells #[pt w.heap.size] 26);have BV:=Blk.new (w.alloc (.cells #[.slice none 0 0] 73)) 26 #[pt w.heap.size];rw[World.size_alloc,←hz]at BV
 rw[←hz]at BO F0
 have HSD:=Hi (side_any va vb aL aM cL cM L M w _ F0 ha hb (fun r hr=>(hfL r hr).2.2) (fun r hr=>(hfM r hr).2.2));have HSL:=Hi ha.slots;have HSM:=Hi hb.slots;have HFL:=Hi hfL;have HFM:=Hi hfM;have HF0:=Hi F0;have hsl:(sideR L M).length≤100000:=Nat.le_trans (side_len L M) hl;have HLN:=Hi hsl;have h3:∃ p,va=.pointer p:=by
  rcases ha with ⟨rfl,-⟩|⟨b,rfl,-⟩
  ·exact⟨_,rfl⟩
  ·exact⟨_,rfl⟩
 have h4:∃ p,vb=.pointer p:=by
  rcases hb with ⟨rfl,-⟩|⟨b,rfl,-⟩
  ·exact⟨_,rfl⟩
  ·exact⟨_,rfl⟩
 clear ha hb hfL hfM F0 h3 h4 hz hl hsl;refine(callsIn_wide (n:=3)).1 ?_
 refine callsIn_of_wp_marks Tryz.func19 rfl trivial ?_ rfl;simp only[Tryz.ntmps19,List.size_toArray,List.length_cons,List.length_nil,Nat.reduceAdd,Nat.reduceSub,Array.replicate_succ,Array.replicate_zero,List.push_toArray,List.append_toArray,List.nil_append,List.cons_append]
 gi_upto_region 2 with fail
 rw[←HZ.out]
 generalize ((w.alloc (.cells #[.slice none 0 0] 73)).alloc (.cells #[pt z] 26))=w0 at *
 gi_wp2_with (refine⟨trivial,?_⟩;gi_at_call 49;refine(callsIn_wide.2 HSD.out).mono ?_;rintro e w2 ⟨⟨ba,bb,rfl,h1,h2,h3,h4,hit⟩,F2⟩)
 have lz:=BV.lt;have BO2:=BO.fr F2 (fun h=>h);have BV2:=BV.fr F2 (fun h=>h);have HF2:=Hi (HF0.out.trans F2);have HBA:=Hi (show z+1<ba∧z+1<bb∧ba<w2.heap.size∧bb<w2.heap.size from ⟨by omega,by omega,h3,h4⟩);have HIT:=Hi hit;clear HSD hit h1 h2 h3 h4 F2 BO BV lz;refine range_lawW (gf:=81) (lb:=#[pt ba,pt bb]) rfl (enters_of Tryz.func81 (by kernel_rfl) rfl) (C:=fun k=>k=ba∨k=bb) (base:=w.heap.size) (fun k hk=>by have:=HBA.out;rcases hk with hk|hk<;>omega) HF2.out.size HIT.out rfl
  (fun pre W=>Blk W (z+1) 26 #[pt z]∧IxOwn W z (w2.heap.size+2) ((((sideR L M).take pre.length).filterMap deltaG).map nrow)∧Fz w W)
  (fun _ _ _=>False)
  (fun s A B h f=>⟨h.1.fr f (by have:=HBA.out;omega),h.2.1.fr f (fun k hk=>by have:=HBA.out;omega),h.2.2.trans' f (fun i hi e=>by have:=HBA.out;have:=HZ.out;have:=HF2.out.size;omega)⟩)
  (fun c s A B h f=>h)
  ⟨BV2,⟨none,0,by have:=HBA.out;omega,by simpa using BO2,by simpa using GRow.nil _ _ _ _ _ _⟩,HF2.out⟩
  (fun x W=>{ tmps:=#[va,vb,undef,undef,.pointer none,.pointer (some ⟨z+1,0,none⟩),.pointer (some ⟨W.heap.size,0,none⟩),undef,.agg #[.slice none 0 0],pt z,va,vb,.func (.func 81) #[] #[pt ba,pt bb],x,undef,undef,undef,undef,undef,undef,undef,undef,undef,undef,undef,undef,undef,undef,undef,undef,undef,undef,undef,undef,undef,undef,undef,undef,undef,undef,undef,undef,undef,undef,undef,undef,undef,undef,undef,undef,undef,undef,undef,undef],defers:=[] }) (fun x W=>W.alloc (.cells x.cells 95)) (fun x W=>(Fr.refl W).alloc _) ?assign ?body ?done ?stop
 case assign=>
  intro l pre x rest W K hx hK;obtain⟨p,q,rfl⟩:=pair_form hx
  gi_wp2
  exact hK
 case body=>
  rintro l pre x rest W W2 hx ⟨BV,hown,F⟩ hE F2;obtain⟨p,hp1,rfl,hp2,hcase⟩:=pair_at hx
  obtain⟨y,hy⟩:∃ y,y=W.heap.size:=⟨_,rfl⟩
  have HY:=Hi hy;have FA:Fz W (W.alloc (.cells (pairV aL aM p).cells 95)):=(Fr.refl W).alloc _;have BY:Blk W2 W.heap.size 95 (pairV aL aM p).cells:=(Blk.new W 95 _).fr F2 (by omega);have hz2:=HF2.out.size;have FW2:Fz w W2:=(F.trans FA).trans' F2 (fun i hi e=>by have e2:i=w2.heap.size+1:=e;omega);have BV2:Blk W2 (z+1) 26 #[pt z]:=(BV.fr FA (fun h=>h)).fr F2 (by have:=HBA.out;omega);have hot:=(hown.top.fr FA (fun k h=>h.elim)).fr F2 (fun k e=>by have e2:k=w2.heap.size+1:=e;have:=HBA.out;omega);rw[←hy]at BY hot ⊢
  have hWs:y<W2.heap.size:=BY.lt;have HTK:=Hi (take_more hp2);obtain⟨gs,hgs⟩:∃ gs,gs=(((sideR L M).take pre.length).filterMap deltaG).map nrow:=⟨_,rfl⟩
  have hgl:gs.length≤100000:=by
   rw[hgs,List.length_map]
   refine Nat.le_trans (List.length_filterMap_le _ _) ?_;rw[List.length_take]
   have:=HLN.out;omega
  rw[←hgs]at hot
  have HNEXT:=Hi (fun (g:Option RowP) (hg:deltaG (atP L M p)=g)=>show ((((sideR L M).take (pre.length+1)).filterMap deltaG).map nrow)=gs++(match g with|some r=>[nrow r]|none=>[]) from by
   rw[HTK.out,List.filterMap_append,List.map_append,←hgs]
   cases g with
   |none=>simp[hg]
   |some r=>simp[hg])
  have HOT:=Hi hot;have HGL:=Hi hgl;have HE2:=Hi (show w2.heap.size+2≤y∧y<W2.heap.size∧w.heap.size≤w2.heap.size from ⟨by omega,hWs,hz2⟩);have HV2:=Hi BV2;have HFW:=Hi FW2;clear hx hp2 F FA F2 hE HIT hy hown hot hgs hgl hWs hz2 BV BV2 FW2 HTK;rcases hcase with ⟨i,r,rfl,hi⟩|⟨j,s,rfl,hj⟩|⟨i,j,r,s,rfl,hi,hj⟩
  ·have hat:deltaG (atP L M (some i,none))=some (goneR r):=by simp[atP,hi,deltaG]
   have HNX:Hid (((((sideR L M).take (pre.length+1)).filterMap deltaG).map nrow)=gs++[nrow (goneR r)]):=Hi (HNEXT.out _ hat);have HFIT:=Hi (show fitR (goneR r) from HFL.out r (List.mem_of_getElem? hi));obtain⟨b,o,us,haL,hus,hRx,hRs,hk0,hcx⟩:=slot_row HSL.out hi
   have HLOW:=Hi (show b<w.heap.size from World.block_lt_of_cell? w _ hk0);obtain⟨e1,e2,e3,e4,e5,he,-⟩:=hRx.form
   subst he;obtain⟨ks,hks⟩:∃ ks,str (nameKeyS r.iss)=.string ks:=⟨_,rfl⟩
   rw[hks]at hk0 hRs
   have HRS:=Hi (fun W (F:Fz w W)=>RSlot.old _ _ _ _ hRs F);have x0:=HFW.out.cell hk0 (fun h=>h);have x1:W2.cell? ⟨b,o+i*7+1,none⟩=some (.slice e1 r.iss.length e2):=HFW.out.cell (hcx 0 _ rfl) (fun h=>h);have x2:W2.cell? ⟨b,o+i*7+2,none⟩=some (.bool r.num.below):=HFW.out.cell (hcx 1 _ rfl) (fun h=>h);have x3:W2.cell? ⟨b,o+i*7+3,none⟩=some (.slice e3 r.num.size.length e4):=HFW.out.cell (hcx 2 _ rfl) (fun h=>h);have x4:W2.cell? ⟨b,o+i*7+4,none⟩=some (.int .i64 r.date):=HFW.out.cell (hcx 3 _ rfl) (fun h=>h)
   have x5:W2.cell? ⟨b,o+i*7+5,none⟩=some (.int .i64 r.reason):=HFW.out.cell (hcx 4 _ rfl) (fun h=>h);have x6:W2.cell? ⟨b,o+i*7+6,none⟩=some (.pointer e5):=HFW.out.cell (hcx 5 _ rfl) (fun h=>h);clear hRx hRs hk0 hcx hks hus;rw[pairV_l haL]at BY ⊢
   simp only[Value.cells]at BY
   have p0:=BY.cell 0;have p1:=BY.cell 1;simp only[SG]at p0 p1
   obtain⟨q,hq⟩:∃ q,q=W2.heap.size:=⟨_,rfl⟩
   have HQ:=Hi hq;have BQ:=Blk.new W2 78 #[.string ks,.slice e1 r.iss.length e2,.bool r.num.below,.slice e3 r.num.size.length e4,.int .i64 r.date,.int .i64 r.reason,.pointer e5];rw[←hq]at BQ
   have FQ:Fz W2 (W2.alloc (.cells #[.string ks,.slice e1 r.iss.length e2,.bool r.num.below,.slice e3 r.num.size.length e4,.int .i64 r.date,.int .i64 r.reason,.pointer e5] 78)):=(Fr.refl W2).alloc _;clear hq hat hi haL HNEXT;gi_upto_region 6 with fail
   rw[←HQ.out]
   generalize (W2.alloc (.cells #[.string ks,.slice e1 r.iss.length e2,.bool r.num.below,.slice e3 r.num.size.length e4,.int .i64 r.date,.int .i64 r.reason,.pointer e5] 78))=W3 at *
   have q5:=BQ.cell 5;have q6:=BQ.cell 6;have f5:=BQ.frozen 5;have f6:=BQ.frozen 6;simp only[SG]at q5 q6
   have BQ2:Blk ((W3.setCell ⟨q,5,none⟩ (.int .i64 8)).setCell ⟨q,6,none⟩ (.pointer none)) q 78 #[.string ks,.slice e1 r.iss.length e2,.bool r.num.below,.slice e3 r.num.size.length e4,.int .i64 r.date,.int .i64 8,.pointer none]:=(BQ.set 5 (.int .i64 8)).set 6 (.pointer none);have FQ2:Fz W2 ((W3.setCell ⟨q,5,none⟩ (.int .i64 8)).setCell ⟨q,6,none⟩ (.pointer none)):=(FQ.setCell (p:=⟨q,5,none⟩) (fun h=>by have:=HQ.out;have h2:q<W2.heap.size:=h;omega) _).setCell (p:=⟨q,6,none⟩) (fun h=>by have:=HQ.out;have h2:q<W2.heap.size:=h;omega) _;gi_upto_region 7 with fail
   clear q5 q6 f5 f6 x0 x1 x2 x3 x4 x5 x6 p0 p1 BQ FQ;generalize ((W3.setCell ⟨q,5,none⟩ (.int .i64 8)).setCell ⟨q,6,none⟩ (.pointer none))=W4 at *
   have q0:=BQ2.cell 0;have q1:=BQ2.cell 1;have q2:=BQ2.cell 2;have q3:=BQ2.cell 3;have q4:=BQ2.cell 4;have q5:=BQ2.cell 5;have q6:=BQ2.cell 6;simp only[SG]at q0 q1 q2 q3 q4 q5 q6
   have v0:=(HV2.out.fr FQ2 (fun h=>h)).cell 0;simp only[List.getElem?_toArray,List.getElem?_cons_zero]at v0
   have HADD:=Hi (ixAdd_any z (w2.heap.size+2) y [.string ks,.slice e1 r.iss.length e2,.bool r.num.below,.slice e3 r.num.size.length e4,.int .i64 r.date,.int .i64 8,.pointer none] (goneR r) gs W4 (HOT.out.fr FQ2 (fun k h=>h.elim)) (by have:=HE2.out;have:=FQ2.size;omega) (gone_slot (HRS.out _ (HFW.out.trans FQ2))) HFIT.out (by have:=HGL.out;omega));have HFC:=Hi FQ2;clear FQ2 BQ2;gi_wp2_with (refine⟨trivial,?_⟩;gi_at_call 50;refine(CallsIn.inRound l (callsIn_wide.2 HADD.out)).mono ?_;rintro e W5 ⟨rfl,hown5,F5⟩)
   have HF5:=Hi F5;have HO5:=Hi hown5;clear F5 hown5;exact⟨(HFC.out.mono (fun _ _ h=>h.elim)).trans (HF5.out.mono (fun k _ e=>by have:=HBA.out;have:=HZ.out;have:=HE2.out;rcases e with e|e<;>exact⟨by omega,by omega,by omega,by omega⟩)),HV2.out.fr HFC.out (fun h=>h) |>.fr HF5.out (by have:=HBA.out;omega),by rw[List.length_append];show IxOwn _ _ _ ((((sideR L M).take (pre.length+1)).filterMap deltaG).map nrow);rw[HNX.out];exact HO5.out,(HFW.out.trans HFC.out).trans' HF5.out (fun i hi e=>by have:=HZ.out;have:=HE2.out;have:=HBA.out;rcases e with e|e<;>omega)⟩
  ·have hat:deltaG (atP L M (none,some j))=some s:=by simp[atP,hj,deltaG]
   have HNX:Hid (((((sideR L M).take (pre.length+1)).filterMap deltaG).map nrow)=gs++[nrow s]):=Hi (HNEXT.out _ hat);have HFIT:=Hi (HFM.out s (List.mem_of_getElem? hj));obtain⟨b,o,us,haM,hus,hRx,hRs,hk0,hcx⟩:=slot_row HSM.out hj
   have HLOW:=Hi (show b<w.heap.size from World.block_lt_of_cell? w _ hk0);obtain⟨e1,e2,e3,e4,e5,he,-⟩:=hRx.form
   subst he;obtain⟨ks,hks⟩:∃ ks,str (nameKeyS s.iss)=.string ks:=⟨_,rfl⟩
   rw[hks]at hk0 hRs
   have HRS:=Hi (fun W (F:Fz w W)=>RSlot.old _ _ _ _ hRs F);have x0:=HFW.out.cell hk0 (fun h=>h);have x1:W2.cell? ⟨b,o+j*7+1,none⟩=some (.slice e1 s.iss.length e2):=HFW.out.cell (hcx 0 _ rfl) (fun h=>h);have x2:W2.cell? ⟨b,o+j*7+2,none⟩=some (.bool s.num.below):=HFW.out.cell (hcx 1 _ rfl) (fun h=>h);have x3:W2.cell? ⟨b,o+j*7+3,none⟩=some (.slice e3 s.num.size.length e4):=HFW.out.cell (hcx 2 _ rfl) (fun h=>h);have x4:W2.cell? ⟨b,o+j*7+4,none⟩=some (.int .i64 s.date):=HFW.out.cell (hcx 3 _ rfl) (fun h=>h)
   have x5:W2.cell? ⟨b,o+j*7+5,none⟩=some (.int .i64 s.reason):=HFW.out.cell (hcx 4 _ rfl) (fun h=>h);have x6:W2.cell? ⟨b,o+j*7+6,none⟩=some (.pointer e5):=HFW.out.cell (hcx 5 _ rfl) (fun h=>h);clear hRx hRs hk0 hcx hks hus;rw[pairV_r haM]at BY ⊢
   simp only[Value.cells]at BY
   have p0:=BY.cell 0;have p1:=BY.cell 1;simp only[SG]at p0 p1
   have FC:Fz W2 W2.drew.drew:=(Fr.refl W2).drew.drew;have HADD:=Hi (ixAdd_any z (w2.heap.size+2) y [.string ks,.slice e1 s.iss.length e2,.bool s.num.below,.slice e3 s.num.size.length e4,.int .i64 s.date,.int .i64 s.reason,.pointer e5] s gs W2.drew.drew (HOT.out.fr FC (fun k h=>h.elim)) (by have:=HE2.out;have:=FC.size;omega) (HRS.out _ (HFW.out.trans FC)) HFIT.out (by have:=HGL.out;omega));have v0:=(HV2.out.fr FC (fun h=>h)).cell 0;simp only[List.getElem?_toArray,List.getElem?_cons_zero]at v0
   have c0:=FC.cell p1 (fun h=>h);have hx0:=HLOW.out
   have hS1:(W2.drew.drew.cell? ⟨z+1,0,none⟩=some (pt z)∧W2.drew.drew.cell? ⟨y,1,none⟩=some (.pointer (some ⟨b,o+j*7,none⟩)))∧W2.drew.drew.cell? ⟨b,o+j*7,none⟩=some (.string ks)∧W2.drew.drew.cell? ⟨b,o+j*7+1,none⟩=some (.slice e1 s.iss.length e2)∧W2.drew.drew.cell? ⟨b,o+j*7+2,none⟩=some (.bool s.num.below)∧W2.drew.drew.cell? ⟨b,o+j*7+3,none⟩=some (.slice e3 s.num.size.length e4)∧W2.drew.drew.cell? ⟨b,o+j*7+4,none⟩=some (.int .i64 s.date)∧W2.drew.drew.cell? ⟨b,o+j*7+5,none⟩=some (.int .i64 s.reason)∧W2.drew.drew.cell? ⟨b,o+j*7+6,none⟩=some (.pointer e5):=⟨⟨v0,c0⟩,FC.cell x0 (fun h=>h),FC.cell x1 (fun h=>h),FC.cell x2 (fun h=>h),FC.cell x3 (fun h=>h),FC.cell x4 (fun h=>h),FC.cell x5 (fun h=>h),FC.cell x6 (fun h=>h)⟩
   have HKD:=Hi (And.intro hS1 (fun W (F:Fr (fun k=>k=z∨(w2.heap.size+2≤k∧k<y)) W2.drew.drew W)=>show (W.cell? ⟨z+1,0,none⟩=some (pt z)∧W.cell? ⟨y,1,none⟩=some (.pointer (some ⟨b,o+j*7,none⟩)))∧W.cell? ⟨b,o+j*7,none⟩=some (.string ks)∧W.cell? ⟨b,o+j*7+1,none⟩=some (.slice e1 s.iss.length e2)∧W.cell? ⟨b,o+j*7+2,none⟩=some (.bool s.num.below)∧W.cell? ⟨b,o+j*7+3,none⟩=some (.slice e3 s.num.size.length e4)∧W.cell? ⟨b,o+j*7+4,none⟩=some (.int .i64 s.date)∧W.cell? ⟨b,o+j*7+5,none⟩=some (.int .i64 s.reason)∧W.cell? ⟨b,o+j*7+6,none⟩=some (.pointer e5) from by
    have nz:¬(z+1=z∨(w2.heap.size+2≤z+1∧z+1<y)):=by have:=HBA.out;omega
    have ny:¬(y=z∨(w2.heap.size+2≤y∧y<y)):=by have:=HBA.out;have:=HE2.out;omega
    have nb:¬(b=z∨(w2.heap.size+2≤b∧b<y)):=by have:=HE2.out;have:=HZ.out;omega
    obtain⟨⟨s1,s2⟩,s3,s4,s5,s6,s7,s8,s9⟩:=hS1
    exact⟨⟨F.cell s1 nz,F.cell s2 ny⟩,F.cell s3 nb,F.cell s4 nb,F.cell s5 nb,F.cell s6 nb,F.cell s7 nb,F.cell s8 nb,F.cell s9 nb⟩))
   have HFC:=Hi FC;clear hS1 c0 v0 FC hx0;clear hat hj haM HNEXT BY x0 x1 x2 x3 x4 x5 x6;have p0d:=p0;have p1d:=p1;gi_upto_region 8 with fail
   refine wpIn_region_N 18 (S:=fun w'=>w'.cell? ⟨y,0,none⟩=some (.pointer none)∧w'.cell? ⟨y,1,none⟩=some (.pointer (some ⟨b,o+j*7,none⟩))) (by kernel_rfl) (by kernel_rfl) (by rintro ⟨a,w,h⟩;exact h) ?_ (fun hHeld=>?_)
   ·exact⟨by simpa using p0,by simpa using p1⟩
   refine tkN 0 rfl hHeld ?_;(try simp only[Act.put,SS]);refine tkN 1 rfl hHeld ?_;(try simp only[Act.put,SS]);refine tkN 2 rfl hHeld ?_;(try simp only[Act.put,SS]);refine tkN 3 rfl hHeld ?_;(try simp only[Act.put,SS]);refine tkS 4 rfl hHeld ?_;(try simp only[Act.put,SK,SS]);refine tkS 5 rfl hHeld ?_;(try simp only[Act.put,SK,SS]);refine tkS 6 rfl hHeld ?_;(try simp only[Act.put,SK,SS]);refine tkS 7 rfl hHeld ?_;(try simp only[Act.put,SK,SS]);refine tkS 8 rfl hHeld ?_;(try simp only[Act.put,SK,SS]);refine tkS 9 rfl hHeld ?_;(try simp only[Act.put,SK,SS]);refine tkS 10 rfl hHeld ?_
   (try simp only[Act.put,SK,SS]);refine tkS 11 rfl hHeld ?_;(try simp only[Act.put,SK,SS]);refine tkS 12 rfl hHeld ?_;(try simp only[Act.put,SK,SS]);refine tkS 13 rfl hHeld ?_;(try simp only[Act.put,SK,SS]);refine tkS 14 rfl hHeld ?_;(try simp only[Act.put,SK,SS]);refine tkS 15 rfl hHeld ?_;(try simp only[Act.put,SK,SS]);refine tkG 16 rfl hHeld ?_;(try simp only[Act.put,SK,SS]);refine tkG 17 rfl hHeld ?_;(try simp only[Act.put,SK,SS]);refine wpAnyN_done (by kernel_rfl) ?_ _;clear p0 p1 p0d p1d;gi_wp2
   gi_upto_region 9 with fail
   refine wpIn_region_N 6 (S:=fun w'=>(w'.cell? ⟨z+1,0,none⟩=some (pt z)∧w'.cell? ⟨y,1,none⟩=some (.pointer (some ⟨b,o+j*7,none⟩)))∧w'.cell? ⟨b,o+j*7,none⟩=some (.string ks)∧w'.cell? ⟨b,o+j*7+1,none⟩=some (.slice e1 s.iss.length e2)∧w'.cell? ⟨b,o+j*7+2,none⟩=some (.bool s.num.below)∧w'.cell? ⟨b,o+j*7+3,none⟩=some (.slice e3 s.num.size.length e4)∧w'.cell? ⟨b,o+j*7+4,none⟩=some (.int .i64 s.date)∧w'.cell? ⟨b,o+j*7+5,none⟩=some (.int .i64 s.reason)∧w'.cell? ⟨b,o+j*7+6,none⟩=some (.pointer e5)) (by kernel_rfl) (by kernel_rfl) (by rintro ⟨a,w,h⟩;exact h) ?_ (fun hHeld=>?_)
   ·exact HKD.out.1
   refine tkN 0 rfl hHeld ?_;(try simp only[Act.put,SS]);refine tkN 1 rfl hHeld ?_;(try simp only[Act.put,SS]);refine tkN 2 rfl hHeld ?_;(try simp only[Act.put,SS]);refine tkN 3 rfl hHeld ?_;(try simp only[Act.put,SS]);refine tkN 4 rfl hHeld ?_;(try simp only[Act.put,SS]);refine stN 5 (fun KK hKK=>?_);go_simp
   (go_at_call 50;(with_reducible refine HADD.out.mono ?_);rintro e W5 ⟨rfl,hown5,F5⟩;go_wp2_with fail)
   refine hKK.out _ _ ?_ (fun hHeld=>?_)
   ·exact HKD.out.2 _ F5
   clear hKK KK;(try simp only[Act.put,SS]);refine wpAnyN_done (by kernel_rfl) ?_ _;have HF5:=Hi F5;have HO5:=Hi hown5;clear F5 hown5 HADD HKD;gi_wp2
   exact⟨(HFC.out.mono (fun _ _ h=>h.elim)).trans (HF5.out.mono (fun k _ e=>by have:=HBA.out;have:=HZ.out;have:=HE2.out;rcases e with e|e<;>exact⟨by omega,by omega,by omega,by omega⟩)),HV2.out.fr HFC.out (fun h=>h) |>.fr HF5.out (by have:=HBA.out;omega),by rw[List.length_append];show IxOwn _ _ _ ((((sideR L M).take (pre.length+1)).filterMap deltaG).map nrow);rw[HNX.out];exact HO5.out,(HFW.out.trans HFC.out).trans' HF5.out (fun i hi e=>by have:=HZ.out;have:=HE2.out;have:=HBA.out;rcases e with e|e<;>omega)⟩
  ·skip
   obtain⟨m,hm⟩:∃ m,m=likeR r s:=⟨_,rfl⟩
   have hat:deltaG (atP L M (some i,some j))=if m=true then none else some s:=by simp[atP,hi,hj,deltaG,hm]
   have HFIT:=Hi (HFM.out s (List.mem_of_getElem? hj));obtain⟨b',o',vs,haL,hvs,hRy,-,-,hcy⟩:=slot_row HSL.out hi
   obtain⟨b,o,us,haM,hus,hRx,hRs,hk0,hcx⟩:=slot_row HSM.out hj
   have HLOW:=Hi (show b<w.heap.size from World.block_lt_of_cell? w _ hk0);have HLK:=Hi (like_any _ _ r s W2.drew (RRow.old _ _ _ _ hRy HFW.out.drew) (RRow.old _ _ _ _ hRx HFW.out.drew));rw[←hm]at HLK
   obtain⟨e1,e2,e3,e4,e5,he,-⟩:=hRx.form
   subst he;obtain⟨ks,hks⟩:∃ ks,str (nameKeyS s.iss)=.string ks:=⟨_,rfl⟩
   rw[hks]at hk0 hRs
   have HRS:=Hi (fun W (F:Fz w W)=>RSlot.old _ _ _ _ hRs F);have x0:=HFW.out.cell hk0 (fun h=>h);have x1:W2.cell? ⟨b,o+j*7+1,none⟩=some (.slice e1 s.iss.length e2):=HFW.out.cell (hcx 0 _ rfl) (fun h=>h);have x2:W2.cell? ⟨b,o+j*7+2,none⟩=some (.bool s.num.below):=HFW.out.cell (hcx 1 _ rfl) (fun h=>h);have x3:W2.cell? ⟨b,o+j*7+3,none⟩=some (.slice e3 s.num.size.length e4):=HFW.out.cell (hcx 2 _ rfl) (fun h=>h);have x4:W2.cell? ⟨b,o+j*7+4,none⟩=some (.int .i64 s.date):=HFW.out.cell (hcx 3 _ rfl) (fun h=>h)
   have x5:W2.cell? ⟨b,o+j*7+5,none⟩=some (.int .i64 s.reason):=HFW.out.cell (hcx 4 _ rfl) (fun h=>h);have x6:W2.cell? ⟨b,o+j*7+6,none⟩=some (.pointer e5):=HFW.out.cell (hcx 5 _ rfl) (fun h=>h);clear hRx hRs hk0 hcx hks hus;obtain⟨u0,u1,u2,u3,u4,u5,rfl⟩:=six_of hvs
   have y0:=HFW.out.drew.cell (S:=fun _=>False) (hcy 0 _ rfl) (fun h=>h);have y1:=HFW.out.drew.cell (S:=fun _=>False) (hcy 1 _ rfl) (fun h=>h);have y2:=HFW.out.drew.cell (S:=fun _=>False) (hcy 2 _ rfl) (fun h=>h);have y3:=HFW.out.drew.cell (S:=fun _=>False) (hcy 3 _ rfl) (fun h=>h);have y4:=HFW.out.drew.cell (S:=fun _=>False) (hcy 4 _ rfl) (fun h=>h);have y5:=HFW.out.drew.cell (S:=fun _=>False) (hcy 5 _ rfl) (fun h=>h);simp only[Nat.add_zero]at y0
   rw[pairV_b haL haM]at BY ⊢
   simp only[Value.cells]at BY
   have p0:=BY.cell 0;have p1:=BY.cell 1;simp only[SG]at p0 p1
   have HX:=Hi (And.intro (And.intro p0 p1) (And.intro x0 (And.intro x1 (And.intro x2 (And.intro x3 (And.intro x4 (And.intro x5 x6)))))));clear hRy hcy hvs hi hj haL haM BY hm;gi_upto_region 8 with fail
   have hS:(W2.drew.cell? ⟨y,0,none⟩=some (.pointer (some ⟨b',o'+i*7,none⟩))∧W2.drew.cell? ⟨y,1,none⟩=some (.pointer (some ⟨b,o+j*7,none⟩)))∧(W2.drew.cell? ⟨b',o'+i*7+1,none⟩=some (u0)∧W2.drew.cell? ⟨b',o'+i*7+1+1,none⟩=some (u1)∧W2.drew.cell? ⟨b',o'+i*7+1+2,none⟩=some (u2)∧W2.drew.cell? ⟨b',o'+i*7+1+3,none⟩=some (u3)∧W2.drew.cell? ⟨b',o'+i*7+1+4,none⟩=some (u4)∧W2.drew.cell? ⟨b',o'+i*7+1+5,none⟩=some (u5))∧W2.drew.cell? ⟨b,o+j*7+1,none⟩=some (.slice e1 s.iss.length e2)∧W2.drew.cell? ⟨b,o+j*7+1+1,none⟩=some (.bool s.num.below)∧W2.drew.cell? ⟨b,o+j*7+1+2,none⟩=some (.slice e3 s.num.size.length e4)∧W2.drew.cell? ⟨b,o+j*7+1+3,none⟩=some (.int .i64 s.date)∧W2.drew.cell? ⟨b,o+j*7+1+4,none⟩=some (.int .i64 s.reason)∧W2.drew.cell? ⟨b,o+j*7+1+5,none⟩=some (.pointer e5):=⟨⟨p0,p1⟩,⟨y0,y1,y2,y3,y4,y5⟩,x1,x2,x3,x4,x5,x6⟩
   have HKE:=Hi (And.intro hS (fun W (F:Fz W2.drew W)=>show (W.cell? ⟨y,0,none⟩=some (.pointer (some ⟨b',o'+i*7,none⟩))∧W.cell? ⟨y,1,none⟩=some (.pointer (some ⟨b,o+j*7,none⟩)))∧(W.cell? ⟨b',o'+i*7+1,none⟩=some (u0)∧W.cell? ⟨b',o'+i*7+1+1,none⟩=some (u1)∧W.cell? ⟨b',o'+i*7+1+2,none⟩=some (u2)∧W.cell? ⟨b',o'+i*7+1+3,none⟩=some (u3)∧W.cell? ⟨b',o'+i*7+1+4,none⟩=some (u4)∧W.cell? ⟨b',o'+i*7+1+5,none⟩=some (u5))∧W.cell? ⟨b,o+j*7+1,none⟩=some (.slice e1 s.iss.length e2)∧W.cell? ⟨b,o+j*7+1+1,none⟩=some (.bool s.num.below)∧W.cell? ⟨b,o+j*7+1+2,none⟩=some (.slice e3 s.num.size.length e4)∧W.cell? ⟨b,o+j*7+1+3,none⟩=some (.int .i64 s.date)∧W.cell? ⟨b,o+j*7+1+4,none⟩=some (.int .i64 s.reason)∧W.cell? ⟨b,o+j*7+1+5,none⟩=some (.pointer e5) from by
    obtain⟨⟨s1,s2⟩,⟨s3,s4,s5,s6,s7,s8⟩,s9,s10,s11,s12,s13,s14⟩:=hS
    exact⟨⟨F.cell s1 (fun h=>h),F.cell s2 (fun h=>h)⟩,⟨F.cell s3 (fun h=>h),F.cell s4 (fun h=>h),F.cell s5 (fun h=>h),F.cell s6 (fun h=>h),F.cell s7 (fun h=>h),F.cell s8 (fun h=>h)⟩,F.cell s9 (fun h=>h),F.cell s10 (fun h=>h),F.cell s11 (fun h=>h),F.cell s12 (fun h=>h),F.cell s13 (fun h=>h),F.cell s14 (fun h=>h)⟩))
   clear hS p0 p1 x0 x1 x2 x3 x4 x5 x6 y0 y1 y2 y3 y4 y5;cases m with
   |false=>
    have HNX:Hid (((((sideR L M).take (pre.length+1)).filterMap deltaG).map nrow)=gs++[nrow s]):=Hi (HNEXT.out (some s) (by rw[hat];rfl));clear hat
    refine wpIn_region_N 18 (S:=fun w'=>(w'.cell? ⟨y,0,none⟩=some (.pointer (some ⟨b',o'+i*7,none⟩))∧w'.cell? ⟨y,1,none⟩=some (.pointer (some ⟨b,o+j*7,none⟩)))∧(w'.cell? ⟨b',o'+i*7+1,none⟩=some (u0)∧w'.cell? ⟨b',o'+i*7+1+1,none⟩=some (u1)∧w'.cell? ⟨b',o'+i*7+1+2,none⟩=some (u2)∧w'.cell? ⟨b',o'+i*7+1+3,none⟩=some (u3)∧w'.cell? ⟨b',o'+i*7+1+4,none⟩=some (u4)∧w'.cell? ⟨b',o'+i*7+1+5,none⟩=some (u5))∧w'.cell? ⟨b,o+j*7+1,none⟩=some (.slice e1 s.iss.length e2)∧w'.cell? ⟨b,o+j*7+1+1,none⟩=some (.bool s.num.below)∧w'.cell? ⟨b,o+j*7+1+2,none⟩=some (.slice e3 s.num.size.length e4)∧w'.cell? ⟨b,o+j*7+1+3,none⟩=some (.int .i64 s.date)∧w'.cell? ⟨b,o+j*7+1+4,none⟩=some (.int .i64 s.reason)∧w'.cell? ⟨b,o+j*7+1+5,none⟩=some (.pointer e5)) (by kernel_rfl) (by kernel_rfl) (by rintro ⟨a,w,h⟩;exact h) ?_ (fun hHeld=>?_)
    ·exact HKE.out.1
    refine tkN 0 rfl hHeld ?_;(try simp only[Act.put,SS]);refine tkN 1 rfl hHeld ?_;(try simp only[Act.put,SS]);refine tkN 2 rfl hHeld ?_;(try simp only[Act.put,SS]);refine tkN 3 rfl hHeld ?_;(try simp only[Act.put,SS]);refine tkG 4 rfl hHeld ?_;(try simp only[Act.put,SK,SS]);refine tkG 5 rfl hHeld ?_;(try simp only[Act.put,SK,SS]);refine tkG 6 rfl hHeld ?_;(try simp only[Act.put,SK,SS]);refine tkG 7 rfl hHeld ?_;(try simp only[Act.put,SK,SS]);refine tkG 8 rfl hHeld ?_;(try simp only[Act.put,SK,SS]);refine tkG 9 rfl hHeld ?_;(try simp only[Act.put,SK,SS]);refine tkG 10 rfl hHeld ?_
    (try simp only[Act.put,SK,SS]);refine tkG 11 rfl hHeld ?_;(try simp only[Act.put,SK,SS]);refine tkG 12 rfl hHeld ?_;(try simp only[Act.put,SK,SS]);refine tkG 13 rfl hHeld ?_;(try simp only[Act.put,SK,SS]);refine stN 14 (fun KK hKK=>?_);go_simp
    (go_at_call 51;(with_reducible refine HLK.out.mono ?_);rintro e W3 ⟨rfl,F3⟩;go_wp2_with fail)
    refine hKK.out _ _ ?_ (fun hHeld=>?_)
    ·exact HKE.out.2 _ F3
    clear hKK KK;(try simp only[Act.put,SS]);refine tkG 15 rfl hHeld ?_;(try simp only[Act.put,SK,SS]);refine tkG 16 rfl hHeld ?_;(try simp only[Act.put,SK,SS]);refine tkG 17 rfl hHeld ?_;(try simp only[Act.put,SK,SS]);refine wpAnyN_done (by kernel_rfl) ?_ _;have HF3:=Hi (((Fr.refl W2).drew:Fz W2 W2.drew).trans F3);clear F3 HLK HKE;obtain⟨⟨p0,p1⟩,x0,x1,x2,x3,x4,x5,x6⟩:=HX.out
    have FC:Fz W2 W3.drew:=HF3.out.drew;have HADD:=Hi (ixAdd_any z (w2.heap.size+2) y [.string ks,.slice e1 s.iss.length e2,.bool s.num.below,.slice e3 s.num.size.length e4,.int .i64 s.date,.int .i64 s.reason,.pointer e5] s gs W3.drew (HOT.out.fr FC (fun k h=>h.elim)) (by have:=HE2.out;have:=FC.size;omega) (HRS.out _ (HFW.out.trans FC)) HFIT.out (by have:=HGL.out;omega));have v0:=(HV2.out.fr FC (fun h=>h)).cell 0;simp only[List.getElem?_toArray,List.getElem?_cons_zero]at v0
    have c0:=FC.cell p1 (fun h=>h);have hx0:=HLOW.out
    have hS1:(W3.drew.cell? ⟨z+1,0,none⟩=some (pt z)∧W3.drew.cell? ⟨y,1,none⟩=some (.pointer (some ⟨b,o+j*7,none⟩)))∧W3.drew.cell? ⟨b,o+j*7,none⟩=some (.string ks)∧W3.drew.cell? ⟨b,o+j*7+1,none⟩=some (.slice e1 s.iss.length e2)∧W3.drew.cell? ⟨b,o+j*7+2,none⟩=some (.bool s.num.below)∧W3.drew.cell? ⟨b,o+j*7+3,none⟩=some (.slice e3 s.num.size.length e4)∧W3.drew.cell? ⟨b,o+j*7+4,none⟩=some (.int .i64 s.date)∧W3.drew.cell? ⟨b,o+j*7+5,none⟩=some (.int .i64 s.reason)∧W3.drew.cell? ⟨b,o+j*7+6,none⟩=some (.pointer e5):=⟨⟨v0,c0⟩,FC.cell x0 (fun h=>h),FC.cell x1 (fun h=>h),FC.cell x2 (fun h=>h),FC.cell x3 (fun h=>h),FC.cell x4 (fun h=>h),FC.cell x5 (fun h=>h),FC.cell x6 (fun h=>h)⟩
    have HKD:=Hi (And.intro hS1 (fun W (F:Fr (fun k=>k=z∨(w2.heap.size+2≤k∧k<y)) W3.drew W)=>show (W.cell? ⟨z+1,0,none⟩=some (pt z)∧W.cell? ⟨y,1,none⟩=some (.pointer (some ⟨b,o+j*7,none⟩)))∧W.cell? ⟨b,o+j*7,none⟩=some (.string ks)∧W.cell? ⟨b,o+j*7+1,none⟩=some (.slice e1 s.iss.length e2)∧W.cell? ⟨b,o+j*7+2,none⟩=some (.bool s.num.below)∧W.cell? ⟨b,o+j*7+3,none⟩=some (.slice e3 s.num.size.length e4)∧W.cell? ⟨b,o+j*7+4,none⟩=some (.int .i64 s.date)∧W.cell? ⟨b,o+j*7+5,none⟩=some (.int .i64 s.reason)∧W.cell? ⟨b,o+j*7+6,none⟩=some (.pointer e5) from by
     have nz:¬(z+1=z∨(w2.heap.size+2≤z+1∧z+1<y)):=by have:=HBA.out;omega
     have ny:¬(y=z∨(w2.heap.size+2≤y∧y<y)):=by have:=HBA.out;have:=HE2.out;omega
     have nb:¬(b=z∨(w2.heap.size+2≤b∧b<y)):=by have:=HE2.out;have:=HZ.out;omega
     obtain⟨⟨s1,s2⟩,s3,s4,s5,s6,s7,s8,s9⟩:=hS1
     exact⟨⟨F.cell s1 nz,F.cell s2 ny⟩,F.cell s3 nb,F.cell s4 nb,F.cell s5 nb,F.cell s6 nb,F.cell s7 nb,F.cell s8 nb,F.cell s9 nb⟩))
    have HFC:=Hi FC;clear hS1 c0 v0 FC hx0;clear x0 x1 x2 x3 x4 x5 x6 p0 p1 HX HNEXT;gi_wp2
    gi_upto_region 9 with fail
    refine wpIn_region_N 6 (S:=fun w'=>(w'.cell? ⟨z+1,0,none⟩=some (pt z)∧w'.cell? ⟨y,1,none⟩=some (.pointer (some ⟨b,o+j*7,none⟩)))∧w'.cell? ⟨b,o+j*7,none⟩=some (.string ks)∧w'.cell? ⟨b,o+j*7+1,none⟩=some (.slice e1 s.iss.length e2)∧w'.cell? ⟨b,o+j*7+2,none⟩=some (.bool s.num.below)∧w'.cell? ⟨b,o+j*7+3,none⟩=some (.slice e3 s.num.size.length e4)∧w'.cell? ⟨b,o+j*7+4,none⟩=some (.int .i64 s.date)∧w'.cell? ⟨b,o+j*7+5,none⟩=some (.int .i64 s.reason)∧w'.cell? ⟨b,o+j*7+6,none⟩=some (.pointer e5)) (by kernel_rfl) (by kernel_rfl) (by rintro ⟨a,w,h⟩;exact h) ?_ (fun hHeld=>?_)
    ·exact HKD.out.1
    refine tkN 0 rfl hHeld ?_;(try simp only[Act.put,SS]);refine tkN 1 rfl hHeld ?_;(try simp only[Act.put,SS]);refine tkN 2 rfl hHeld ?_;(try simp only[Act.put,SS]);refine tkN 3 rfl hHeld ?_;(try simp only[Act.put,SS]);refine tkN 4 rfl hHeld ?_;(try simp only[Act.put,SS]);refine stN 5 (fun KK hKK=>?_);go_simp
    (go_at_call 50;(with_reducible refine HADD.out.mono ?_);rintro e W5 ⟨rfl,hown5,F5⟩;go_wp2_with fail)
    refine hKK.out _ _ ?_ (fun hHeld=>?_)
    ·exact HKD.out.2 _ F5
    clear hKK KK;(try simp only[Act.put,SS]);refine wpAnyN_done (by kernel_rfl) ?_ _;have HF5:=Hi F5;have HO5:=Hi hown5;clear F5 hown5 HADD HKD;gi_wp2
    exact⟨(HFC.out.mono (fun _ _ h=>h.elim)).trans (HF5.out.mono (fun k _ e=>by have:=HBA.out;have:=HZ.out;have:=HE2.out;rcases e with e|e<;>exact⟨by omega,by omega,by omega,by omega⟩)),HV2.out.fr HFC.out (fun h=>h) |>.fr HF5.out (by have:=HBA.out;omega),by rw[List.length_append];show IxOwn _ _ _ ((((sideR L M).take (pre.length+1)).filterMap deltaG).map nrow);rw[HNX.out];exact HO5.out,(HFW.out.trans HFC.out).trans' HF5.out (fun i hi e=>by have:=HZ.out;have:=HE2.out;have:=HBA.out;rcases e with e|e<;>omega)⟩
   |true=>
    have HNX:Hid (((((sideR L M).take (pre.length+1)).filterMap deltaG).map nrow)=gs):=Hi (by have:=HNEXT.out _ hat;simpa using this);clear hat HNEXT HX
    refine wpIn_region_N 18 (S:=fun w'=>(w'.cell? ⟨y,0,none⟩=some (.pointer (some ⟨b',o'+i*7,none⟩))∧w'.cell? ⟨y,1,none⟩=some (.pointer (some ⟨b,o+j*7,none⟩)))∧(w'.cell? ⟨b',o'+i*7+1,none⟩=some (u0)∧w'.cell? ⟨b',o'+i*7+1+1,none⟩=some (u1)∧w'.cell? ⟨b',o'+i*7+1+2,none⟩=some (u2)∧w'.cell? ⟨b',o'+i*7+1+3,none⟩=some (u3)∧w'.cell? ⟨b',o'+i*7+1+4,none⟩=some (u4)∧w'.cell? ⟨b',o'+i*7+1+5,none⟩=some (u5))∧w'.cell? ⟨b,o+j*7+1,none⟩=some (.slice e1 s.iss.length e2)∧w'.cell? ⟨b,o+j*7+1+1,none⟩=some (.bool s.num.below)∧w'.cell? ⟨b,o+j*7+1+2,none⟩=some (.slice e3 s.num.size.length e4)∧w'.cell? ⟨b,o+j*7+1+3,none⟩=some (.int .i64 s.date)∧w'.cell? ⟨b,o+j*7+1+4,none⟩=some (.int .i64 s.reason)∧w'.cell? ⟨b,o+j*7+1+5,none⟩=some (.pointer e5)) (by kernel_rfl) (by kernel_rfl) (by rintro ⟨a,w,h⟩;exact h) ?_ (fun hHeld=>?_)
    ·exact HKE.out.1
    refine tkN 0 rfl hHeld ?_;(try simp only[Act.put,SS]);refine tkN 1 rfl hHeld ?_;(try simp only[Act.put,SS]);refine tkN 2 rfl hHeld ?_;(try simp only[Act.put,SS]);refine tkN 3 rfl hHeld ?_;(try simp only[Act.put,SS]);refine tkG 4 rfl hHeld ?_;(try simp only[Act.put,SK,SS]);refine tkG 5 rfl hHeld ?_;(try simp only[Act.put,SK,SS]);refine tkG 6 rfl hHeld ?_;(try simp only[Act.put,SK,SS]);refine tkG 7 rfl hHeld ?_;(try simp only[Act.put,SK,SS]);refine tkG 8 rfl hHeld ?_;(try simp only[Act.put,SK,SS]);refine tkG 9 rfl hHeld ?_;(try simp only[Act.put,SK,SS]);refine tkG 10 rfl hHeld ?_
    (try simp only[Act.put,SK,SS]);refine tkG 11 rfl hHeld ?_;(try simp only[Act.put,SK,SS]);refine tkG 12 rfl hHeld ?_;(try simp only[Act.put,SK,SS]);refine tkG 13 rfl hHeld ?_;(try simp only[Act.put,SK,SS]);refine stN 14 (fun KK hKK=>?_);go_simp
    (go_at_call 51;(with_reducible refine HLK.out.mono ?_);rintro e W3 ⟨rfl,F3⟩;go_wp2_with fail)
    refine hKK.out _ _ ?_ (fun hHeld=>?_)
    ·exact HKE.out.2 _ F3
    clear hKK KK;(try simp only[Act.put,SS]);refine tkG 15 rfl hHeld ?_;(try simp only[Act.put,SK,SS]);refine tkG 16 rfl hHeld ?_;(try simp only[Act.put,SK,SS]);refine tkG 17 rfl hHeld ?_;(try simp only[Act.put,SK,SS]);refine wpAnyN_done (by kernel_rfl) ?_ _;have HF3:=Hi (((Fr.refl W2).drew:Fz W2 W2.drew).trans F3);clear F3 HLK HKE;gi_wp2
    have hown3:IxOwn W3 z (w2.heap.size+2) gs:=by
     obtain⟨a,c,h0,h1,h2,-⟩:=HOT.out.fr HF3.out (fun k h=>h.elim)
     exact⟨a,c,h0,h1,h2⟩
    exact⟨HF3.out.mono (fun _ _ h=>h.elim),HV2.out.fr HF3.out (fun h=>h),by rw[List.length_append];show IxOwn _ _ _ ((((sideR L M).take (pre.length+1)).filterMap deltaG).map nrow);rw[HNX.out];exact hown3,HFW.out.trans HF3.out⟩
 case done=>
  rintro D W hD ⟨BV,hown,F⟩ hK;have hix:=hown.at;rw[pairsV_len,List.take_length]at hix
  have r0:=BV.cell 0;simp only[List.getElem?_toArray,List.getElem?_cons_zero]at r0
  have hdw:w.heap.size≤D:=by have:=HF2.out.size;omega
  have HF5:=Hi (F.trans' (Fr.putObj (S:=fun k=>k=D) (Fr.refl W) D (fun _=>rfl) (.deferred none)) (fun i hi e=>by have e2:i=D:=e;omega));have HIX:=Hi (show IxAt (W.putObj D (.deferred none)) (pt z) ((deltaS L M).map nrow) from by
   have hfr:IxOwn (W.putObj D (.deferred none)) z (w2.heap.size+2) ((((sideR L M).take (pairsV aL aM L M 0 0).length).filterMap deltaG).map nrow):=hown.fr (Fr.putObj (S:=fun k=>k=D) (Fr.refl W) D (fun _=>rfl) (.deferred none)) (fun k e=>by have e2:k=D:=e;have:=HBA.out;omega);have:=hfr.at;rw[pairsV_len,List.take_length]at this
   exact this)
  clear HIT hown hix F;gi_wp2
  refine⟨by simp,.inl ⟨_,_,rfl,run_takeDeferred hK,?_⟩⟩
  exact⟨pt z,by simp[results,Tryz.results19,go_sem],⟨z,rfl,HIX.out⟩,HF5.out⟩
 case stop=>
  rintro D c pre W hD hpre h hK;exact h.elim
theorem wPattern_any (k:Nat)(hk:k=3∨k=5)(w:World) :
  Calls Tryz.prog 74 #[.int .u64 k] w fun e w'=>(e=.returned (.slice (some ⟨w.heap.size,0,none⟩) 8 8)∧Bytes w' (.slice (some ⟨w.heap.size,0,none⟩) 8 8) [0,0,0,0,0,0,0,UInt8.ofNat k])∧Fz w w':=by
 obtain⟨z,hz⟩:∃ z,z=w.heap.size:=⟨_,rfl⟩
 have HZ:=Hi hz;have hmk:(Instr.makeSlice 38 (.int .i64 8) (.int .i64 8)).run Tryz.prog w=.ok (.slice (some ⟨w.heap.size,0,none⟩) 8 8) (w.alloc (.cells #[.int .u8 0,.int .u8 0,.int .u8 0,.int .u8 0,.int .u8 0,.int .u8 0,.int .u8 0,.int .u8 0] 5)):=by
  have h:=make_bytes 8 (by decide) w;have e:madeCells #[.int .u8 0] 8=#[.int .u8 0,.int .u8 0,.int .u8 0,.int .u8 0,.int .u8 0,.int .u8 0,.int .u8 0,.int .u8 0]:=Array.toList_inj.1 (by rw[made_zero];rfl);rw[e]at h
  exact h
 rw[←hz]at hmk ⊢
 have B0:=Blk.new w 5 #[.int .u8 0,.int .u8 0,.int .u8 0,.int .u8 0,.int .u8 0,.int .u8 0,.int .u8 0,.int .u8 0];rw[←hz]at B0
 have HB0:=Hi B0;have HF0:=Hi ((Fr.refl w).alloc (.cells #[.int .u8 0,.int .u8 0,.int .u8 0,.int .u8 0,.int .u8 0,.int .u8 0,.int .u8 0,.int .u8 0] 5):Fz w _);have hkk:(k:Int)=3∨(k:Int)=5:=by omega
 clear B0 hz;go_enter Tryz.func74,Tryz.ntmps74
 go_wp2_with fail
 go_loopg [8] 8 (fun g i wr=>∃ j:Nat,g=8-j∧j≤8∧i=.int .i64 j∧Blk wr z 5 (if j=8 then #[.int .u8 0,.int .u8 0,.int .u8 0,.int .u8 0,.int .u8 0,.int .u8 0,.int .u8 0,.int .u8 k] else #[.int .u8 0,.int .u8 0,.int .u8 0,.int .u8 0,.int .u8 0,.int .u8 0,.int .u8 0,.int .u8 0])∧Fz w wr)
 case atStart=>exact⟨0,rfl,by decide,rfl,HB0.out,HF0.out⟩
 case round=>
  obtain⟨j,hg,hj,rfl,B,F⟩:=hrel
  have HG:=Hi hg;clear hg hmk;rcases (by omega:j=0∨j=1∨j=2∨j=3∨j=4∨j=5∨j=6∨j=7∨j=8) with rfl|rfl|rfl|rfl|rfl|rfl|rfl|rfl|rfl
  ·rcases hk with rfl|rfl
   ·have e0:=B.cell 0
    have f0:=B.frozen 0;simp only[show ¬(0:Nat)=8 by decide,if_false]at B
    have B1:Blk (wr.setCell ⟨z,0,none⟩ (.int .u8 0)) z 5 #[.int .u8 0,.int .u8 0,.int .u8 0,.int .u8 0,.int .u8 0,.int .u8 0,.int .u8 0,.int .u8 0]:=B.set 0 _;have HB1:=Hi B1;have HF1:=Hi (F.trans' (Fr.setCell (S:=fun k=>k=z) (p:=⟨z,0,none⟩) (Fr.refl wr) (fun _=>rfl) (.int .u8 0)) (fun i hi e=>by have e2:i=z:=e;have:=HZ.out;omega));simp only[show ¬(0:Nat)=8 by decide,if_false,SG]at e0
    clear B B1 F;go_wp2_with fail
    go_roundg (8-1)
    case measure=>rw[HG.out];decide
    case rel=>exact⟨1,rfl,by decide,by go_num,HB1.out,HF1.out⟩
   ·have e0:=B.cell 0
    have f0:=B.frozen 0;simp only[show ¬(0:Nat)=8 by decide,if_false]at B
    have B1:Blk (wr.setCell ⟨z,0,none⟩ (.int .u8 0)) z 5 #[.int .u8 0,.int .u8 0,.int .u8 0,.int .u8 0,.int .u8 0,.int .u8 0,.int .u8 0,.int .u8 0]:=B.set 0 _;have HB1:=Hi B1;have HF1:=Hi (F.trans' (Fr.setCell (S:=fun k=>k=z) (p:=⟨z,0,none⟩) (Fr.refl wr) (fun _=>rfl) (.int .u8 0)) (fun i hi e=>by have e2:i=z:=e;have:=HZ.out;omega));simp only[show ¬(0:Nat)=8 by decide,if_false,SG]at e0
    clear B B1 F;go_wp2_with fail
    go_roundg (8-1)
    case measure=>rw[HG.out];decide
    case rel=>exact⟨1,rfl,by decide,by go_num,HB1.out,HF1.out⟩
  ·rcases hk with rfl|rfl
   ·have e0:=B.cell 1
    have f0:=B.frozen 1;simp only[show ¬(1:Nat)=8 by decide,if_false]at B
    have B1:Blk (wr.setCell ⟨z,1,none⟩ (.int .u8 0)) z 5 #[.int .u8 0,.int .u8 0,.int .u8 0,.int .u8 0,.int .u8 0,.int .u8 0,.int .u8 0,.int .u8 0]:=B.set 1 _;have HB1:=Hi B1;have HF1:=Hi (F.trans' (Fr.setCell (S:=fun k=>k=z) (p:=⟨z,1,none⟩) (Fr.refl wr) (fun _=>rfl) (.int .u8 0)) (fun i hi e=>by have e2:i=z:=e;have:=HZ.out;omega));simp only[show ¬(1:Nat)=8 by decide,if_false,SG]at e0
    clear B B1 F;go_wp2_with fail
    go_roundg (8-2)
    case measure=>rw[HG.out];decide
    case rel=>exact⟨2,rfl,by decide,by go_num,HB1.out,HF1.out⟩
   ·have e0:=B.cell 1
    have f0:=B.frozen 1;simp only[show ¬(1:Nat)=8 by decide,if_false]at B
    have B1:Blk (wr.setCell ⟨z,1,none⟩ (.int .u8 0)) z 5 #[.int .u8 0,.int .u8 0,.int .u8 0,.int .u8 0,.int .u8 0,.int .u8 0,.int .u8 0,.int .u8 0]:=B.set 1 _;have HB1:=Hi B1;have HF1:=Hi (F.trans' (Fr.setCell (S:=fun k=>k=z) (p:=⟨z,1,none⟩) (Fr.refl wr) (fun _=>rfl) (.int .u8 0)) (fun i hi e=>by have e2:i=z:=e;have:=HZ.out;omega));simp only[show ¬(1:Nat)=8 by decide,if_false,SG]at e0
    clear B B1 F;go_wp2_with fail
    go_roundg (8-2)
    case measure=>rw[HG.out];decide
    case rel=>exact⟨2,rfl,by decide,by go_num,HB1.out,HF1.out⟩
  ·rcases hk with rfl|rfl
   ·have e0:=B.cell 2
    have f0:=B.frozen 2;simp only[show ¬(2:Nat)=8 by decide,if_false]at B
    have B1:Blk (wr.setCell ⟨z,2,none⟩ (.int .u8 0)) z 5 #[.int .u8 0,.int .u8 0,.int .u8 0,.int .u8 0,.int .u8 0,.int .u8 0,.int .u8 0,.int .u8 0]:=B.set 2 _;have HB1:=Hi B1;have HF1:=Hi (F.trans' (Fr.setCell (S:=fun k=>k=z) (p:=⟨z,2,none⟩) (Fr.refl wr) (fun _=>rfl) (.int .u8 0)) (fun i hi e=>by have e2:i=z:=e;have:=HZ.out;omega));simp only[show ¬(2:Nat)=8 by decide,if_false,SG]at e0
    clear B B1 F;go_wp2_with fail
    go_roundg (8-3)
    case measure=>rw[HG.out];decide
    case rel=>exact⟨3,rfl,by decide,by go_num,HB1.out,HF1.out⟩
   ·have e0:=B.cell 2
    have f0:=B.frozen 2;simp only[show ¬(2:Nat)=8 by decide,if_false]at B
    have B1:Blk (wr.setCell ⟨z,2,none⟩ (.int .u8 0)) z 5 #[.int .u8 0,.int .u8 0,.int .u8 0,.int .u8 0,.int .u8 0,.int .u8 0,.int .u8 0,.int .u8 0]:=B.set 2 _;have HB1:=Hi B1;have HF1:=Hi (F.trans' (Fr.setCell (S:=fun k=>k=z) (p:=⟨z,2,none⟩) (Fr.refl wr) (fun _=>rfl) (.int .u8 0)) (fun i hi e=>by have e2:i=z:=e;have:=HZ.out;omega));simp only[show ¬(2:Nat)=8 by decide,if_false,SG]at e0
    clear B B1 F;go_wp2_with fail
    go_roundg (8-3)
    case measure=>rw[HG.out];decide
    case rel=>exact⟨3,rfl,by decide,by go_num,HB1.out,HF1.out⟩
  ·rcases hk with rfl|rfl
   ·have e0:=B.cell 3
    have f0:=B.frozen 3;simp only[show ¬(3:Nat)=8 by decide,if_false]at B
    have B1:Blk (wr.setCell ⟨z,3,none⟩ (.int .u8 0)) z 5 #[.int .u8 0,.int .u8 0,.int .u8 0,.int .u8 0,.int .u8 0,.int .u8 0,.int .u8 0,.int .u8 0]:=B.set 3 _;have HB1:=Hi B1;have HF1:=Hi (F.trans' (Fr.setCell (S:=fun k=>k=z) (p:=⟨z,3,none⟩) (Fr.refl wr) (fun _=>rfl) (.int .u8 0)) (fun i hi e=>by have e2:i=z:=e;have:=HZ.out;omega));simp only[show ¬(3:Nat)=8 by decide,if_false,SG]at e0
    clear B B1 F;go_wp2_with fail
    go_roundg (8-4)
    case measure=>rw[HG.out];decide
    case rel=>exact⟨4,rfl,by decide,by go_num,HB1.out,HF1.out⟩
   ·have e0:=B.cell 3
    have f0:=B.frozen 3;simp only[show ¬(3:Nat)=8 by decide,if_false]at B
    have B1:Blk (wr.setCell ⟨z,3,none⟩ (.int .u8 0)) z 5 #[.int .u8 0,.int .u8 0,.int .u8 0,.int .u8 0,.int .u8 0,.int .u8 0,.int .u8 0,.int .u8 0]:=B.set 3 _;have HB1:=Hi B1;have HF1:=Hi (F.trans' (Fr.setCell (S:=fun k=>k=z) (p:=⟨z,3,none⟩) (Fr.refl wr) (fun _=>rfl) (.int .u8 0)) (fun i hi e=>by have e2:i=z:=e;have:=HZ.out;omega));simp only[show ¬(3:Nat)=8 by decide,if_false,SG]at e0
    clear B B1 F;go_wp2_with fail
    go_roundg (8-4)
    case measure=>rw[HG.out];decide
    case rel=>exact⟨4,rfl,by decide,by go_num,HB1.out,HF1.out⟩
  ·rcases hk with rfl|rfl
   ·have e0:=B.cell 4
    have f0:=B.frozen 4;simp only[show ¬(4:Nat)=8 by decide,if_false]at B
    have B1:Blk (wr.setCell ⟨z,4,none⟩ (.int .u8 0)) z 5 #[.int .u8 0,.int .u8 0,.int .u8 0,.int .u8 0,.int .u8 0,.int .u8 0,.int .u8 0,.int .u8 0]:=B.set 4 _;have HB1:=Hi B1;have HF1:=Hi (F.trans' (Fr.setCell (S:=fun k=>k=z) (p:=⟨z,4,none⟩) (Fr.refl wr) (fun _=>rfl) (.int .u8 0)) (fun i hi e=>by have e2:i=z:=e;have:=HZ.out;omega));simp only[show ¬(4:Nat)=8 by decide,if_false,SG]at e0
    clear B B1 F;go_wp2_with fail
    go_roundg (8-5)
    case measure=>rw[HG.out];decide
    case rel=>exact⟨5,rfl,by decide,by go_num,HB1.out,HF1.out⟩
   ·have e0:=B.cell 4
    have f0:=B.frozen 4;simp only[show ¬(4:Nat)=8 by decide,if_false]at B
    have B1:Blk (wr.setCell ⟨z,4,none⟩ (.int .u8 0)) z 5 #[.int .u8 0,.int .u8 0,.int .u8 0,.int .u8 0,.int .u8 0,.int .u8 0,.int .u8 0,.int .u8 0]:=B.set 4 _;have HB1:=Hi B1;have HF1:=Hi (F.trans' (Fr.setCell (S:=fun k=>k=z) (p:=⟨z,4,none⟩) (Fr.refl wr) (fun _=>rfl) (.int .u8 0)) (fun i hi e=>by have e2:i=z:=e;have:=HZ.out;omega));simp only[show ¬(4:Nat)=8 by decide,if_false,SG]at e0
    clear B B1 F;go_wp2_with fail
    go_roundg (8-5)
    case measure=>rw[HG.out];decide
    case rel=>exact⟨5,rfl,by decide,by go_num,HB1.out,HF1.out⟩
  ·rcases hk with rfl|rfl
   ·have e0:=B.cell 5
    have f0:=B.frozen 5;simp only[show ¬(5:Nat)=8 by decide,if_false]at B
    have B1:Blk (wr.setCell ⟨z,5,none⟩ (.int .u8 0)) z 5 #[.int .u8 0,.int .u8 0,.int .u8 0,.int .u8 0,.int .u8 0,.int .u8 0,.int .u8 0,.int .u8 0]:=B.set 5 _;have HB1:=Hi B1;have HF1:=Hi (F.trans' (Fr.setCell (S:=fun k=>k=z) (p:=⟨z,5,none⟩) (Fr.refl wr) (fun _=>rfl) (.int .u8 0)) (fun i hi e=>by have e2:i=z:=e;have:=HZ.out;omega));simp only[show ¬(5:Nat)=8 by decide,if_false,SG]at e0
    clear B B1 F;go_wp2_with fail
    go_roundg (8-6)
    case measure=>rw[HG.out];decide
    case rel=>exact⟨6,rfl,by decide,by go_num,HB1.out,HF1.out⟩
   ·have e0:=B.cell 5
    have f0:=B.frozen 5;simp only[show ¬(5:Nat)=8 by decide,if_false]at B
    have B1:Blk (wr.setCell ⟨z,5,none⟩ (.int .u8 0)) z 5 #[.int .u8 0,.int .u8 0,.int .u8 0,.int .u8 0,.int .u8 0,.int .u8 0,.int .u8 0,.int .u8 0]:=B.set 5 _;have HB1:=Hi B1;have HF1:=Hi (F.trans' (Fr.setCell (S:=fun k=>k=z) (p:=⟨z,5,none⟩) (Fr.refl wr) (fun _=>rfl) (.int .u8 0)) (fun i hi e=>by have e2:i=z:=e;have:=HZ.out;omega));simp only[show ¬(5:Nat)=8 by decide,if_false,SG]at e0
    clear B B1 F;go_wp2_with fail
    go_roundg (8-6)
    case measure=>rw[HG.out];decide
    case rel=>exact⟨6,rfl,by decide,by go_num,HB1.out,HF1.out⟩
  ·rcases hk with rfl|rfl
   ·have e0:=B.cell 6
    have f0:=B.frozen 6;simp only[show ¬(6:Nat)=8 by decide,if_false]at B
    have B1:Blk (wr.setCell ⟨z,6,none⟩ (.int .u8 0)) z 5 #[.int .u8 0,.int .u8 0,.int .u8 0,.int .u8 0,.int .u8 0,.int .u8 0,.int .u8 0,.int .u8 0]:=B.set 6 _;have HB1:=Hi B1;have HF1:=Hi (F.trans' (Fr.setCell (S:=fun k=>k=z) (p:=⟨z,6,none⟩) (Fr.refl wr) (fun _=>rfl) (.int .u8 0)) (fun i hi e=>by have e2:i=z:=e;have:=HZ.out;omega));simp only[show ¬(6:Nat)=8 by decide,if_false,SG]at e0
    clear B B1 F;go_wp2_with fail
    go_roundg (8-7)
    case measure=>rw[HG.out];decide
    case rel=>exact⟨7,rfl,by decide,by go_num,HB1.out,HF1.out⟩
   ·have e0:=B.cell 6
    have f0:=B.frozen 6;simp only[show ¬(6:Nat)=8 by decide,if_false]at B
    have B1:Blk (wr.setCell ⟨z,6,none⟩ (.int .u8 0)) z 5 #[.int .u8 0,.int .u8 0,.int .u8 0,.int .u8 0,.int .u8 0,.int .u8 0,.int .u8 0,.int .u8 0]:=B.set 6 _;have HB1:=Hi B1;have HF1:=Hi (F.trans' (Fr.setCell (S:=fun k=>k=z) (p:=⟨z,6,none⟩) (Fr.refl wr) (fun _=>rfl) (.int .u8 0)) (fun i hi e=>by have e2:i=z:=e;have:=HZ.out;omega));simp only[show ¬(6:Nat)=8 by decide,if_false,SG]at e0
    clear B B1 F;go_wp2_with fail
    go_roundg (8-7)
    case measure=>rw[HG.out];decide
    case rel=>exact⟨7,rfl,by decide,by go_num,HB1.out,HF1.out⟩
  ·rcases hk with rfl|rfl
   ·have e0:=B.cell 7
    have f0:=B.frozen 7;simp only[show ¬(7:Nat)=8 by decide,if_false]at B
    have B1:Blk (wr.setCell ⟨z,7,none⟩ (.int .u8 3)) z 5 #[.int .u8 0,.int .u8 0,.int .u8 0,.int .u8 0,.int .u8 0,.int .u8 0,.int .u8 0,.int .u8 3]:=B.set 7 _;have HB1:=Hi B1;have HF1:=Hi (F.trans' (Fr.setCell (S:=fun k=>k=z) (p:=⟨z,7,none⟩) (Fr.refl wr) (fun _=>rfl) (.int .u8 3)) (fun i hi e=>by have e2:i=z:=e;have:=HZ.out;omega));simp only[show ¬(7:Nat)=8 by decide,if_false,SG]at e0
    clear B B1 F;go_wp2_with fail
    go_roundg (8-8)
    case measure=>rw[HG.out];decide
    case rel=>exact⟨8,rfl,by decide,by go_num,HB1.out,HF1.out⟩
   ·have e0:=B.cell 7
    have f0:=B.frozen 7;simp only[show ¬(7:Nat)=8 by decide,if_false]at B
    have B1:Blk (wr.setCell ⟨z,7,none⟩ (.int .u8 5)) z 5 #[.int .u8 0,.int .u8 0,.int .u8 0,.int .u8 0,.int .u8 0,.int .u8 0,.int .u8 0,.int .u8 5]:=B.set 7 _;have HB1:=Hi B1;have HF1:=Hi (F.trans' (Fr.setCell (S:=fun k=>k=z) (p:=⟨z,7,none⟩) (Fr.refl wr) (fun _=>rfl) (.int .u8 5)) (fun i hi e=>by have e2:i=z:=e;have:=HZ.out;omega));simp only[show ¬(7:Nat)=8 by decide,if_false,SG]at e0
    clear B B1 F;go_wp2_with fail
    go_roundg (8-8)
    case measure=>rw[HG.out];decide
    case rel=>exact⟨8,rfl,by decide,by go_num,HB1.out,HF1.out⟩
  ·have HF1:=Hi F
   have HB1:=Hi (show Bytes wr (.slice (some ⟨z,0,none⟩) 8 8) [0,0,0,0,0,0,0,UInt8.ofNat k] from ⟨_,8,rfl,Nat.le_refl _,by unfold maxLen;omega,fun _=>⟨z,0,rfl,fun i u hu=>by
    have:=B.cell (0+i);rw[this]
    rcases hk with rfl|rfl<;>simpa [Lib.byteCells] using hu⟩⟩)
   clear B F;go_wp2_with fail
   go_ret;exact⟨⟨rfl,HB1.out⟩,HF1.out⟩
theorem wOf_any (k:Nat)(hk:k=3∨k=5)(w:World) :
  Calls Tryz.prog 43 #[.int .i64 k] w fun e w'=>(∃ a c,e=.returned (.agg #[.bool false,.slice a 1 c])∧Kept (fun W=>Bytes W (.slice a 1 c) [UInt8.ofNat k]) (fun j=>j<w.heap.size) w')∧Fz w w':=by
 obtain⟨z,hz⟩:∃ z,z=w.heap.size:=⟨_,rfl⟩
 have HZ:=Hi hz;have B0:=Blk.new w 40 #[.bool false,.slice none 0 0];rw[←hz]at B0
 have HB0:=Hi B0;have F0:Fz w (w.alloc (.cells #[.bool false,.slice none 0 0] 40)):=(Fr.refl w).alloc _;have hs0:(w.alloc (.cells #[.bool false,.slice none 0 0] 40)).heap.size=z+1:=by rw[World.size_alloc,hz]
 have HS0:=Hi hs0;have HF0:=Hi F0;have HP:=Hi (fun W=>wPattern_any k hk W);have hx:(⟨false,[UInt8.ofNat k]⟩:NumT)=madeS ⟨false,[0,0,0,0,0,0,0,UInt8.ofNat k]⟩:=by rcases hk with rfl|rfl<;>rfl
 have HM:=Hi (fun (v:Value) W (h:Bytes W v [0,0,0,0,0,0,0,UInt8.ofNat k])=>wMade_as false v [0,0,0,0,0,0,0,UInt8.ofNat k] _ hx W h (by simp));have q1:¬(k:Int)<0:=by omega
 have q2:IntKind.u64.wrap (k:Int)=(k:Int):=by simp[IntKind.wrap,IntKind.signed,IntKind.bits];omega
 clear hz B0 F0 hs0 hx;go_enter Tryz.func43,Tryz.ntmps43
 go_upto_region 1 with fail
 rw[←HZ.out]
 generalize (w.alloc (.cells #[.bool false,.slice none 0 0] 40))=w0 at *
 go_wp2_with fail
 refine(HP.out w0).mono ?_
 rintro e w1 ⟨⟨rfl,hb⟩,F1⟩;have H2:=Hi (HM.out _ w1 hb);have HF1:=Hi F1;clear hb HM HP F1;go_wp2_with fail
 refine H2.out.mono ?_;rintro e w2 ⟨⟨a,c,rfl,hk2⟩,F2⟩;have D2:=(HB0.out.fr HF1.out (fun h=>h)).fr F2 (fun h=>h);have D5:=set2 D2 (.bool false) (.slice a 1 c);have d0:=D2.cell 0;have d1:=D2.cell 1;have f0:=D2.frozen 0;have f1:=D2.frozen 1;have n0:=D5.1.cell 0;have n1:=D5.1.cell 1;simp only[SG]at d0 d1 n0 n1
 have HK:=Hi (hk2.step (K':=fun j=>j<w.heap.size) D5.2 (fun j hj e=>by have:=HZ.out;have:=HS0.out;have:=HF1.out.size;omega) (fun j hj=>by have:=HS0.out;have:=HZ.out;have:=HF1.out.size;exact .inl (by omega)));have HF:=Hi (((HF0.out.trans HF1.out).trans F2).trans' D5.2 (fun i hi e=>by have:=HZ.out;omega));clear hk2 F2 D2 D5 H2;go_wp2_with fail
 exact bodyPost_ret (v:=.agg #[.bool false,.slice a 1 c]) (by simp[results,Tryz.results43,go_sem,n0,n1]) rfl ⟨⟨a,c,rfl,HK.out⟩,HF.out⟩
theorem wMadeOwn_any (v:Value)(l s:List UInt8)(hs:s=trimS l)(w:World)(h:Bytes w v l)(hl:l.length≤10000000000) :
  Calls Tryz.prog 73 #[.bool false,v] w fun e w'=>(∃ a c,e=.returned (.agg #[.bool false,.slice a s.length c])∧∃ base,w.heap.size≤base∧w'.ownsRow base 5 1 (.slice a s.length c) s.length (Lib.byteCells s))∧Fz w w':=by
 obtain⟨z,hz⟩:∃ z,z=w.heap.size:=⟨_,rfl⟩
 have HZ:=Hi hz;have F0:Fz w (w.alloc (.cells #[.bool false,.slice none 0 0] 40)):=(Fr.refl w).alloc _;have D:=Blk.new w 40 #[.bool false,.slice none 0 0];rw[←hz]at D
 have HT:=Hi (wTrim_any v l _ (h.old F0));rw[←hs]at HT
 have HF0:=Hi F0;have hs0:w.heap.size+1=(w.alloc (.cells #[.bool false,.slice none 0 0] 40)).heap.size:=by rw[World.size_alloc]
 have hsl:s.length≤10000000000:=by have:=trimS_le l;rw[←hs]at this;omega
 have HS0:=Hi hs0;have HSL:=Hi hsl;obtain⟨a0,c0,rfl,-⟩:=h.form
 clear hz F0 hs h hs0 hsl;go_enter Tryz.func73,Tryz.ntmps73
 go_upto_region 1 with fail
 rw[←HZ.out]
 generalize (w.alloc (.cells #[.bool false,.slice none 0 0] 40))=w0 at *
 go_wp2_with fail
 refine HT.out.mono ?_;rintro e w1 ⟨⟨a1,c1,rfl,hb1⟩,F1⟩;have HC:=Hi (cloneByte_any _ s w1 (hb1.old F1) (by have:=HSL.out;omega));have HF1:=Hi F1;clear HT hb1 F1;go_wp2_with fail
 refine HC.out.mono ?_;rintro e w2 ⟨⟨u,rfl,hu⟩,F2⟩;obtain⟨a2,m,c2,rfl,rfl⟩:=own_shape hu
 have hF:=HF0.out.trans (HF1.out.trans F2);have D2:=D.fr (HF1.out.trans F2) (fun h=>h);have hsz:=HF1.out.size;have d0:=D2.cell 0;have d1:=D2.cell 1;have f0:=D2.frozen 0;have f1:=D2.frozen 1;have D5:=set2 D2 (.bool false) (.slice a2 s.length c2);have n0:=D5.1.cell 0;have n1:=D5.1.cell 1;simp only[SG]at d0 d1 n0 n1
 have HOW:=Hi (ownsRow_fr hu D5.2 (fun k hk e=>by have:=(hu.lt k hk).1;have:=HZ.out;have:=HS0.out;have e2:k=z:=e;omega));have HFF:=Hi (hF.trans' D5.2 (fun i hi e=>by have:=HZ.out;omega));have HSZ:=Hi (show w.heap.size≤w1.heap.size from by have:=HS0.out;omega);clear HC F2 hu hF D D2 D5 hsz;go_wp2_with fail
 exact bodyPost_ret (v:=.agg #[.bool false,.slice a2 s.length c2]) (by simp[results,Tryz.results73,go_sem,n0,n1]) rfl ⟨⟨a2,c2,rfl,w1.heap.size,HSZ.out,HOW.out⟩,HFF.out⟩
theorem tenth3_any (g c:Nat)(w:World)(cur:Array Value)(B:Blk w g 5 cur)(hc:cur[0]? = some (.int .u8 3)) :
  Calls Tryz.prog 76 #[.slice (some ⟨g,0,none⟩) 1 c] w fun e w'=>(e=.returned (.int .u8 3)∧Blk w' g 5 (cur.setIfInBounds 0 (.int .u8 0)))∧Fr (fun k=>k=g) w w':=by
 have e0:=B.cell 0;have f0:=B.frozen 0;rw[hc]at e0
 have HB:=Hi B;have hbo:bits .or .i64 0 3=3:=by first|rfl|kernel_rfl|(unfold bits;decide)|(simp[bits];done)
 clear B hc;go_enter Tryz.func76,Tryz.ntmps76
 go_wp2_with fail
 go_loopg [3,9] 1 (fun q lf i wr=>(q=1∧lf=.int .i64 0∧i=.int .i64 0∧wr=w)∨(q=0∧lf=.int .i64 3∧i=.int .i64 1∧wr=w.setCell ⟨g,0,none⟩ (.int .u8 0)))
 case atStart=>exact .inl ⟨rfl,rfl,rfl,rfl⟩
 case round=>
  rcases hrel with ⟨hg,rfl,rfl,rfl⟩|⟨hg,rfl,rfl,rfl⟩
  ·have HG:=Hi hg
   clear hg;go_wp2_with fail
   go_roundg 0
   case measure=>rw[HG.out];decide
   case rel=>exact .inr ⟨rfl,by go_num,by go_num,by first|rfl|(rw[show (wrap64 ((3:Int).tdiv 10) % 256:Int)=0 from by decide])⟩
  ·have HB2:=Hi (HB.out.set 0 (.int .u8 0))
   have HF:=Hi (Fr.setCell (S:=fun k=>k=g) (p:=⟨g,0,none⟩) (Fr.refl w) (fun _=>rfl) (.int .u8 0));clear hg e0 f0;go_wp2_with fail
   go_ret;exact⟨⟨rfl,HB2.out⟩,HF.out⟩
theorem wText3_any (a:Option Addr)(c:Nat)(w:World)(h:Bytes w (.slice a 1 c) [3]) :
  Calls Tryz.prog 44 #[.agg #[.bool false,.slice a 1 c]] w fun e w'=>e=.returned (str [51])∧Fz w w':=by
 obtain⟨z,hz⟩:∃ z,z=w.heap.size:=⟨_,rfl⟩
 have HZ:=Hi hz;have F0:Fz w (w.alloc (.cells #[.bool false,.slice a 1 c] 40)):=(Fr.refl w).alloc _;have D:=Blk.new w 40 #[.bool false,.slice a 1 c];rw[←hz]at D
 have hs0:w.heap.size+1=(w.alloc (.cells #[.bool false,.slice a 1 c] 40)).heap.size:=by rw[World.size_alloc]
 have HS0:=Hi hs0;have HF0:=Hi F0;have HM:=Hi (wMadeOwn_any _ [3] [3] (by rfl) _ (h.old F0) (by decide));clear hz F0 h hs0;go_enter Tryz.func44,Tryz.ntmps44
 go_upto_region 1 with fail
 rw[←HZ.out]
 generalize (w.alloc (.cells #[.bool false,.slice a 1 c] 40))=w0 at *
 have x0:=D.cell 0;have x1:=D.cell 1;simp only[SG]at x0 x1
 go_wp2_with fail
 refine HM.out.mono ?_;rintro e w1 ⟨⟨a1,c1,rfl,base,hb,hu⟩,F1⟩;rcases hu.2 with ⟨-,h0⟩|⟨g,cap,cur,hv,hg,hh,hnc,hcm,hcs,htk⟩
 ·exact absurd h0 (by decide)
 ·simp only[Value.slice.injEq]at hv
  obtain⟨rfl,-,rfl⟩:=hv
  have BG:Blk w1 g 5 cur:=hh;have hc0:cur[0]? = some (.int .u8 3):=by
   have:=congrArg (fun q:List Value=>q[0]?) htk;simpa [List.getElem?_take,Lib.byteCells] using this
  have D1:=D.fr F1 (fun h=>h);have D5:=set2 D1 (.bool false) (.slice (some ⟨g,0,none⟩) 1 c1);have hgz:z+1≤g:=by have:=HZ.out;have:=HS0.out;omega
  have d0:=D1.cell 0;have d1:=D1.cell 1;have f0:=D1.frozen 0;have f1:=D1.frozen 1;have BG2:=BG.fr D5.2 (by omega);have HF2:=Hi ((HF0.out.trans F1).trans' D5.2 (fun i hi e=>by have:=HZ.out;omega));simp only[SG]at d0 d1
  have HD5:=Hi D5.1;have hsz:((w1.setCell ⟨z,0,none⟩ (.bool false)).setCell ⟨z,1,none⟩ (.slice (some ⟨g,0,none⟩) 1 c1)).heap.size=w1.heap.size:=by simp[World.setCell]
  have HNC:=Hi hnc;have HGZ:=Hi hgz;clear F1 hu hh x0 x1 D D1 D5 BG hsz hnc;simp only[List.length_cons,List.length_nil,Nat.zero_add] at *
  go_upto_region 2 with fail
  clear d0 d1 f0 f1;generalize ((w1.setCell ⟨z,0,none⟩ (.bool false)).setCell ⟨z,1,none⟩ (.slice (some ⟨g,0,none⟩) 1 c1))=w3 at *
  have x0:=HD5.out.cell 0;have x1:=HD5.out.cell 1;simp only[SG]at x0 x1
  have HT:=Hi (tenth3_any g c1 w3 cur BG2 hc0);have HLT:=Hi BG2.lt;clear BG2;go_wp2_with fail
  go_loopg [3,4] 2 (fun q o b wr=>(q=2∧o=.slice none 0 0∧b=.slice (some ⟨g,0,none⟩) 1 c1∧wr=w3)∨(q=1∧∃ a7 c7 a8 c8,o=.slice a7 1 c7∧b=.slice a8 0 c8∧Hid (wr.ownsRow w3.heap.size 5 1 (.slice a7 1 c7) 1 (Lib.byteCells [51]))∧Hid (Fr (fun k=>k=g) w3 wr)))
  case atStart=>exact .inl ⟨rfl,rfl,rfl,rfl⟩
  case round=>
   rcases hrel with ⟨hg,rfl,rfl,rfl⟩|⟨hg,a7,c7,a8,c8,rfl,rfl,HO,HF⟩
   ·have HG:=Hi hg
    clear hg;go_wp2_with fail
    refine HT.out.mono ?_;rintro e w4 ⟨⟨rfl,B4⟩,F4⟩;have hw4:=F4.size;have FA:Fz w4 (w4.alloc (.cells #[.int .u8 51] 5)):=(Fr.refl w4).alloc _;have hsrc:Bytes (w4.alloc (.cells #[.int .u8 51] 5)) (.slice (some ⟨w4.heap.size,0,none⟩) 1 1) [51]:=by
     refine⟨_,1,rfl,Nat.le_refl _,by unfold maxLen;omega,fun _=>⟨w4.heap.size,0,rfl,fun i u hu=>?_⟩⟩
     have:=(Blk.new w4 5 #[.int .u8 51]).cell (0+i);rw[this]
     simpa [Lib.byteCells] using hu
    obtain⟨v5,w5,hrun,hown,F5,hat⟩:=append_bytes (w:=w4.alloc (.cells #[.int .u8 51] 5)) (base:=w4.heap.size) (n:=0) (v:=.slice none 0 0) (xs:=[]) ⟨rfl,.inl ⟨rfl,rfl⟩⟩ _ 1 1 [51] hsrc (by decide) (by rw[World.size_alloc];omega)
    obtain⟨a7,m7,c7,rfl,hm7⟩:=own_shape hown
    have F45:Fz w4 w5:=FA.trans' F5 (fun i hi e=>by simp[Value.ownBlock]at e);have B5:=B4.fr F45 (fun h=>h);have hb0:Bytes w5 (.slice (some ⟨g,0,none⟩) 1 c1) [0]:=by
     refine⟨_,c1,rfl,by have:=HNC.out;exact this,hcm,fun _=>⟨g,0,rfl,fun i u hu=>?_⟩⟩
     have:=B5.cell (0+i);rw[this]
     have hi:i=0:=by
      have:=(List.getElem?_eq_some_iff.1 hu).1;simp[Lib.byteCells]at this
      omega
     subst hi;have hcl:0<cur.size:=(Array.getElem?_eq_some_iff.1 hc0).1;simp[Lib.byteCells]at hu
     simp[Array.getElem?_setIfInBounds,hcl,hu]
    have HTR:=Hi (wTrim_any _ [0] w5 hb0);have hm71:m7=1:=by omega
    subst hm71;have HRUN:=Hi hrun;have HOW:=Hi (show w5.ownsRow wr.heap.size 5 1 (.slice a7 1 c7) 1 (Lib.byteCells [51]) from by
     refine⟨hown.1,?_⟩
     rcases hown.2 with q|⟨g2,cap2,cur2,q1,q2,q3⟩
     ·exact .inl q
     ·exact .inr ⟨g2,cap2,cur2,q1,by omega,q3⟩)
    have HF5:=Hi (F4.trans (F45.mono (fun _ _ h=>h.elim)));clear B4 F4 FA hsrc hrun hown F5 hat F45 B5 hb0 HT x0 x1 hw4;go_wp2_with (at_builtin;refine wpList_append_run (by rfl) (.tmp 17) (.tmp 21) 38 (by rfl) _ w5 (by exact HRUN.out) ?_)
    refine HTR.out.mono ?_;rintro e w6 ⟨⟨a8,c8,rfl,-⟩,F6⟩;have HF6:=Hi (HF5.out.trans (F6.mono (fun _ _ h=>h.elim)));have HOW6:=Hi (ownsRow_fr HOW.out F6 (fun _ _ h=>h));clear F6;go_wp2_with fail
    go_roundg 1
    case measure=>rw[HG.out];decide
    case rel=>exact .inr ⟨rfl,a7,c7,a8,c8,rfl,rfl,HOW6,HF6⟩
   ·have HD9:=HD5.out.fr HF.out (by have:=HGZ.out;omega)
    have y0:=HD9.cell 0;simp only[SG]at y0
    have HR:=Hi (rev_ok wr w3.heap.size _ 1 [51] HO.out (by decide));have HFW:=Hi (HF2.out.trans' HF.out (fun i hi e=>by have:=HGZ.out;have:=HZ.out;omega));have HOL:=Hi (fun k (hk:(Value.slice a7 1 c7).ownBlock=some k)=>(HO.out.lt k hk).1);clear hg HD9 x0 x1 HT;go_wp2_with fail
    refine HR.out.mono ?_;rintro e w9 ⟨rfl,ho9,F9⟩;have hst:=str_of (Vals.of_own ho9).1;have hlen:(Lib.byteCells ([51]:List UInt8).reverse).length=1:=rfl;have HF9:=Hi (HFW.out.trans' F9 (fun i hi e=>by have:=HOL.out i e;have:=HF2.out.size;omega));clear ho9 F9;go_wp2_with fail
    go_ret;exact⟨rfl,HF9.out⟩
end Go.Proofs.YtehlipgmkinfbaaGreatDoor
