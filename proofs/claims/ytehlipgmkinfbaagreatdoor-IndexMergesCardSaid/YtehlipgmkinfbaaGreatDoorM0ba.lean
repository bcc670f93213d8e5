/-
  Merged by program: XIxMerge XIxMgP XR22M XR22S.
-/
import Derived.Test.YtehlipgmkinfbaaGreatDoorM0az
set_option linter.unusedSimpArgs false
set_option maxRecDepth 100000
set_option maxHeartbeats 8000000
namespace Go.Q
theorem side_map {α κ:Type}[DecidableEq κ](lt:κ→κ→Bool)(key:α→κ)(f:α→α)(hf:∀ x,key (f x)=key x):∀ (n:Nat) (l m:List α),l.length+m.length=n→sideS lt key (l.map f) (m.map f)=(sideS lt key l m).map (fun p=>(p.1.map f,p.2.map f)):=by
 intro n;induction n using Nat.strongRecOn with
 |ind n ih=>
  intro l m h;match l,m with
  | [],[]=>simp[sideS]
  |x::l,[]=>
   have:=ih (l.length) (by simp only[List.length_cons,List.length_nil]at h;omega) l [] (by simp);simp only[List.map_cons,List.map_nil]at this ⊢
   rw[sideS,sideS,this]
   rfl
  | [],y::m=>
   have:=ih (m.length) (by simp only[List.length_cons,List.length_nil]at h;omega) [] m (by simp);simp only[List.map_cons,List.map_nil]at this ⊢
   rw[sideS,sideS,this]
   rfl
  |x::l,y::m=>
   simp only[List.length_cons]at h
   have h1:=ih (l.length+(m.length+1)) (by omega) l (y::m) (by simp);have h2:=ih (l.length+m.length) (by omega) l m rfl;have h3:=ih (l.length+1+m.length) (by omega) (x::l) m (by simp);simp only[List.map_cons]at h1 h2 h3 ⊢
   rw[sideS,sideS,hf,hf]
   split
   ·rw[h1];rfl
   ·split
    ·rw[h2];rfl
    ·rw[h3];rfl
theorem sideR_map (L M:List RowP):sideR (L.map nrow) (M.map nrow)=(sideR L M).map (fun p=>(p.1.map nrow,p.2.map nrow)):=side_map ltK rowK nrow rowK_nrow _ L M rfl
theorem filterMap_map {α β:Type}(f:α→α)(g:α→Option β)(k:β→β)(h:∀ x,g (f x)=(g x).map k):∀ l:List α,(l.map f).filterMap g=(l.filterMap g).map k
 | []=>rfl
 |x::t=>by
  rw[List.map_cons,List.filterMap_cons,List.filterMap_cons,h,filterMap_map f g k h t]
  cases g x<;>rfl
theorem merge_map (L M:List RowP):mergeS (L.map nrow) (M.map nrow)=(mergeS L M).map nrow:=by
 unfold mergeS;rw[sideR_map]
 refine filterMap_map _ mergeG nrow (fun p=>?_) _;obtain⟨a,b⟩:=p
 cases a<;>cases b<;>simp[mergeG,nrow]<;>split<;>rfl
theorem delta_map (L M:List RowP):deltaS (L.map nrow) (M.map nrow)=(deltaS L M).map nrow:=by
 unfold deltaS;rw[sideR_map]
 refine filterMap_map _ deltaG nrow (fun p=>?_) _;match p with
 |(none,none)=>rfl
 |(some a,none)=>rfl
 |(none,some b)=>rfl
 |(some a,some b)=>
   show (if likeR (nrow a) (nrow b)=true then none else some (nrow b))=Option.map nrow (if likeR a b=true then none else some b)
   rw[likeR_nrow]
   by_cases h:likeR a b=true
   ·rw[if_pos h,if_pos h];rfl
   ·rw[if_neg h,if_neg h];rfl
theorem same_map (L M:List RowP):sameS (L.map nrow) (M.map nrow)=sameS L M:=by
 unfold sameS;rw[sideR_map,List.all_map]
 congr 1
 funext p
 obtain⟨a,b⟩:=p
 cases a<;>cases b<;>simp[sameP,likeR_nrow]
theorem merge_fit {X Y:List RowP}(hx:UpR X∧∀ r∈X,fitR r)(hy:UpR Y∧∀ r∈Y,fitR r):∀ r∈mergeS X Y,fitR r:=fun r hr=>by
 rcases (merge_mem hx.1 hy.1 r).1 hr with ⟨h,-⟩|⟨h,-⟩
 ·exact hx.2 r h
 ·exact hy.2 r h
theorem delta_fit {X Y:List RowP}(hx:UpR X∧∀ r∈X,fitR r)(hy:UpR Y∧∀ r∈Y,fitR r):∀ r∈deltaS X Y,fitR r:=fun r hr=>by
 rcases (delta_mem hx.1 hy.1 r).1 hr with ⟨h,-⟩|⟨x,hm,-,rfl⟩
 ·exact hy.2 r h
 ·exact hx.2 x hm
theorem refMerge_fit {L M:List RowP}(h1:∀ r∈L,fitR r)(h2:∀ r∈M,fitR r):∀ r∈refMergeL L M,fitR r:=fun r hr=>by
 unfold refMergeL at hr;rcases List.mem_append.1 hr with h|h
 ·exact h1 r (List.mem_filter.1 h).1
 ·exact h2 r (List.mem_filter.1 h).1
theorem likeR_parts (x y:RowP):likeR x y=((x.date==y.date)&&((x.reason==y.reason)&&((x.inv.isSome==y.inv.isSome)&&(x.inv.getD 0==y.inv.getD 0)))):=by
 rw[Bool.eq_iff_iff]
 unfold likeR;simp only[Bool.and_eq_true,decide_eq_true_eq,beq_iff_eq]
 cases x.inv<;>cases y.inv<;>simp
theorem refSame_len:∀ {l m:List RowP},¬l.length=m.length→refSame l m=false
 | [],[],h=>absurd rfl h
 | [],y::m,_=>rfl
 |x::l,[],_=>rfl
 |x::l,y::m,h=>by
  unfold refSame;rw[refSame_len (l:=l) (m:=m) (fun e=>h (by rw[List.length_cons,List.length_cons,e])),Bool.and_false,Bool.and_false]
end Go.Q
namespace Go.Proofs.YtehlipgmkinfbaaGreatDoor
open Go Go.RowKit Go.Q
attribute [local go_sem] Oper.semAt_some
theorem ixMerge_any (va vb:Value)(L M:List RowP)(w:World)(ha:IxAt w va L)(hb:IxAt w vb M)(hfL:∀ r∈L,fitR r)(hfM:∀ r∈M,fitR r)(hl:L.length+M.length≤100000) :
  Calls Tryz.prog 18 #[va,vb] w fun e w'=>(∃ b,e=.returned (pt b)∧IxAt w' (pt b) ((mergeS L M).map nrow))∧Fz w w':=by
 obtain⟨aL,cL,ha⟩:=ha.sl
 obtain⟨aM,cM,hb⟩:=hb.sl
 obtain⟨z,hz⟩:∃ z,z=w.heap.size:=⟨_,rfl⟩
 have HZ:=Hi hz;have F0:Fz w ((w.alloc (.cells #[.slice none 0 0] 73)).alloc (.cells #[pt w.heap.size] 26)):=((Fr.refl w).alloc _).alloc _;have BO:=(Blk.new w 73 #[.slice none 0 0]).alloc (.cells #[pt w.heap.size] 26);have BV:=Blk.new (w.alloc (.cells #[.slice none 0 0] 73)) 26 #[pt w.heap.size];rw[World.size_alloc,←hz]at BV
 rw[←hz]at BO F0
 have HSD:=Hi (side_any va vb aL aM cL cM L M w _ F0 ha hb (fun r hr=>(hfL r hr).2.2) (fun r hr=>(hfM r hr).2.2));have HSL:=Hi ha.slots;have HSM:=Hi hb.slots;have HFL:=Hi hfL;have HFM:=Hi hfM;have HF0:=Hi F0;have hsl:(sideR L M).length≤100000:=Nat.le_trans (side_len L M) hl;have HLN:=Hi hsl;have h3:∃ p,va=.pointer p:=by
  rcases ha with ⟨rfl,-⟩|⟨b,rfl,-⟩
  ·exact⟨_,rfl⟩
  ·exact⟨_,rfl⟩
 have h4:∃ p,vb=.pointer p:=by
  rcases hb with ⟨rfl,-⟩|⟨b,rfl,-⟩
  ·exact⟨_,rfl⟩
  ·exact⟨_,rfl⟩
 clear ha hb hfL hfM F0 h3 h4 hz hl hsl;refine(callsIn_wide (n:=3)).1 ?_
 refine callsIn_of_wp_marks Tryz.func18 rfl trivial ?_ rfl;simp only[Tryz.ntmps18,List.size_toArray,List.length_cons,List.length_nil,Nat.reduceAdd,Nat.reduceSub,Array.replicate_succ,Array.replicate_zero,List.push_toArray,List.append_toArray,List.nil_append,List.cons_append]
 gi_upto_region 2 with fail
 rw[←HZ.out]
 generalize ((w.alloc (.cells #[.slice none 0 0] 73)).alloc (.cells #[pt z] 26))=w0 at *
 gi_wp2_with (refine⟨trivial,?_⟩;gi_at_call 49;refine(callsIn_wide.2 HSD.out).mono ?_;rintro e w2 ⟨⟨ba,bb,rfl,h1,h2,h3,h4,hit⟩,F2⟩)
 have lz:=BV.lt;have BO2:=BO.fr F2 (fun h=>h);have BV2:=BV.fr F2 (fun h=>h);have HF2:=Hi (HF0.out.trans F2);have HBA:=Hi (show z+1<ba∧z+1<bb∧ba<w2.heap.size∧bb<w2.heap.size from ⟨by omega,by omega,h3,h4⟩);have HIT:=Hi hit;clear HSD hit h1 h2 h3 h4 F2 BO BV lz;refine range_lawW (gf:=81) (lb:=#[pt ba,pt bb]) rfl (enters_of Tryz.func81 (by kernel_rfl) rfl) (C:=fun k=>k=ba∨k=bb) (base:=w.heap.size) (fun k hk=>by have:=HBA.out;rcases hk with hk|hk<;>omega) HF2.out.size HIT.out rfl
  (fun pre W=>Blk W (z+1) 26 #[pt z]∧IxOwn W z (w2.heap.size+2) ((((sideR L M).take pre.length).filterMap mergeG).map nrow)∧Fz w W)
  (fun _ _ _=>False)
  (fun s A B h f=>⟨h.1.fr f (by have:=HBA.out;omega),h.2.1.fr f (fun k hk=>by have:=HBA.out;omega),h.2.2.trans' f (fun i hi e=>by have:=HBA.out;have:=HZ.out;have:=HF2.out.size;omega)⟩)
  (fun c s A B h f=>h)
  ⟨BV2,⟨none,0,by have:=HBA.out;omega,by simpa using BO2,by simpa using GRow.nil _ _ _ _ _ _⟩,HF2.out⟩
  (fun x W=>{ tmps:=#[va,vb,undef,undef,.pointer none,.pointer (some ⟨z+1,0,none⟩),.pointer (some ⟨W.heap.size,0,none⟩),.agg #[.slice none 0 0],pt z,va,vb,.func (.func 81) #[] #[pt ba,pt bb],x,undef,undef,undef,undef,undef,undef,undef,undef,undef,undef,undef,undef,undef,undef,undef,undef,undef,undef,undef,undef,undef,undef,undef,undef,undef],defers:=[] }) (fun x W=>W.alloc (.cells x.cells 95)) (fun x W=>(Fr.refl W).alloc _) ?assign ?body ?done ?stop
 case assign=>
  intro l pre x rest W K hx hK;obtain⟨p,q,rfl⟩:=pair_form hx
  gi_wp2
  exact hK
 case body=>
  rintro l pre x rest W W2 hx ⟨BV,hown,F⟩ hE F2;obtain⟨p,hp1,rfl,hp2,hcase⟩:=pair_at hx
  obtain⟨y,hy⟩:∃ y,y=W.heap.size:=⟨_,rfl⟩
  have HY:=Hi hy;have FA:Fz W (W.alloc (.cells (pairV aL aM p).cells 95)):=(Fr.refl W).alloc _;have BY:Blk W2 W.heap.size 95 (pairV aL aM p).cells:=(Blk.new W 95 _).fr F2 (by omega);have hz2:=HF2.out.size;have FW2:Fz w W2:=(F.trans FA).trans' F2 (fun i hi e=>by have e2:i=w2.heap.size+1:=e;omega);have BV2:Blk W2 (z+1) 26 #[pt z]:=(BV.fr FA (fun h=>h)).fr F2 (by have:=HBA.out;omega);have hot:=(hown.top.fr FA (fun k h=>h.elim)).fr F2 (fun k e=>by have e2:k=w2.heap.size+1:=e;have:=HBA.out;omega);rw[←hy]at BY hot ⊢
  have hWs:y<W2.heap.size:=BY.lt;have HTK:=Hi (take_more hp2);obtain⟨gs,hgs⟩:∃ gs,gs=(((sideR L M).take pre.length).filterMap mergeG).map nrow:=⟨_,rfl⟩
  have hgl:gs.length≤100000:=by
   rw[hgs,List.length_map]
   refine Nat.le_trans (List.length_filterMap_le _ _) ?_;rw[List.length_take]
   have:=HLN.out;omega
  rw[←hgs]at hot
  have HNEXT:=Hi (fun (g:Option RowP) (hg:mergeG (atP L M p)=g)=>show ((((sideR L M).take (pre.length+1)).filterMap mergeG).map nrow)=gs++(match g with|some r=>[nrow r]|none=>[]) from by
   rw[HTK.out,List.filterMap_append,List.map_append,←hgs]
   cases g with
   |none=>simp[hg]
   |some r=>simp[hg])
  have HOT:=Hi hot;have HGL:=Hi hgl;have HE2:=Hi (show w2.heap.size+2≤y∧y<W2.heap.size∧w.heap.size≤w2.heap.size from ⟨by omega,hWs,hz2⟩);have HV2:=Hi BV2;have HFW:=Hi FW2;clear hx hp2 F FA F2 hE HIT hy hown hot hgs hgl hWs hz2 BV BV2 FW2 HTK;rcases hcase with ⟨i,r,rfl,hi⟩|⟨j,s,rfl,hj⟩|⟨i,j,r,s,rfl,hi,hj⟩
  ·have hat:mergeG (atP L M (some i,none))=some r:=by simp[atP,hi,mergeG]
   have HNX:Hid (((((sideR L M).take (pre.length+1)).filterMap mergeG).map nrow)=gs++[nrow r]):=Hi (HNEXT.out _ hat);have HFIT:=Hi (HFL.out r (List.mem_of_getElem? hi));obtain⟨b,o,us,haL,hus,hRx,hRs,hk0,hcx⟩:=slot_row HSL.out hi
   have HLOW:=Hi (show b<w.heap.size from World.block_lt_of_cell? w _ hk0);obtain⟨e1,e2,e3,e4,e5,he,-⟩:=hRx.form
   subst he;obtain⟨ks,hks⟩:∃ ks,str (nameKeyS r.iss)=.string ks:=⟨_,rfl⟩
   rw[hks]at hk0 hRs
   have HRS:=Hi (fun W (F:Fz w W)=>RSlot.old _ _ _ _ hRs F);have x0:=HFW.out.cell hk0 (fun h=>h);have x1:W2.cell? ⟨b,o+i*7+1,none⟩=some (.slice e1 r.iss.length e2):=HFW.out.cell (hcx 0 _ rfl) (fun h=>h);have x2:W2.cell? ⟨b,o+i*7+2,none⟩=some (.bool r.num.below):=HFW.out.cell (hcx 1 _ rfl) (fun h=>h);have x3:W2.cell? ⟨b,o+i*7+3,none⟩=some (.slice e3 r.num.size.length e4):=HFW.out.cell (hcx 2 _ rfl) (fun h=>h);have x4:W2.cell? ⟨b,o+i*7+4,none⟩=some (.int .i64 r.date):=HFW.out.cell (hcx 3 _ rfl) (fun h=>h)
   have x5:W2.cell? ⟨b,o+i*7+5,none⟩=some (.int .i64 r.reason):=HFW.out.cell (hcx 4 _ rfl) (fun h=>h);have x6:W2.cell? ⟨b,o+i*7+6,none⟩=some (.pointer e5):=HFW.out.cell (hcx 5 _ rfl) (fun h=>h);clear hRx hRs hk0 hcx hks hus;rw[pairV_l haL]at BY ⊢
   simp only[Value.cells]at BY
   have p0:=BY.cell 0;have p1:=BY.cell 1;simp only[SG]at p0 p1
   have FC:Fz W2 W2.drew:=(Fr.refl W2).drew;have HADD:=Hi (ixAdd_any z (w2.heap.size+2) y [.string ks,.slice e1 r.iss.length e2,.bool r.num.below,.slice e3 r.num.size.length e4,.int .i64 r.date,.int .i64 r.reason,.pointer e5] r gs W2.drew (HOT.out.fr FC (fun k h=>h.elim)) (by have:=HE2.out;have:=FC.size;omega) (HRS.out _ (HFW.out.trans FC)) HFIT.out (by have:=HGL.out;omega));have v0:=(HV2.out.fr FC (fun h=>h)).cell 0;simp only[List.getElem?_toArray,List.getElem?_cons_zero]at v0
   have c0:=FC.cell p0 (fun h=>h);have hx0:=HLOW.out
   have hS1:(W2.drew.cell? ⟨z+1,0,none⟩=some (pt z)∧W2.drew.cell? ⟨y,0,none⟩=some (.pointer (some ⟨b,o+i*7,none⟩)))∧W2.drew.cell? ⟨b,o+i*7,none⟩=some (.string ks)∧W2.drew.cell? ⟨b,o+i*7+1,none⟩=some (.slice e1 r.iss.length e2)∧W2.drew.cell? ⟨b,o+i*7+2,none⟩=some (.bool r.num.below)∧W2.drew.cell? ⟨b,o+i*7+3,none⟩=some (.slice e3 r.num.size.length e4)∧W2.drew.cell? ⟨b,o+i*7+4,none⟩=some (.int .i64 r.date)∧W2.drew.cell? ⟨b,o+i*7+5,none⟩=some (.int .i64 r.reason)∧W2.drew.cell? ⟨b,o+i*7+6,none⟩=some (.pointer e5):=⟨⟨v0,c0⟩,FC.cell x0 (fun h=>h),FC.cell x1 (fun h=>h),FC.cell x2 (fun h=>h),FC.cell x3 (fun h=>h),FC.cell x4 (fun h=>h),FC.cell x5 (fun h=>h),FC.cell x6 (fun h=>h)⟩
   have HKD:=Hi (And.intro hS1 (fun W (F:Fr (fun k=>k=z∨(w2.heap.size+2≤k∧k<y)) W2.drew W)=>show (W.cell? ⟨z+1,0,none⟩=some (pt z)∧W.cell? ⟨y,0,none⟩=some (.pointer (some ⟨b,o+i*7,none⟩)))∧W.cell? ⟨b,o+i*7,none⟩=some (.string ks)∧W.cell? ⟨b,o+i*7+1,none⟩=some (.slice e1 r.iss.length e2)∧W.cell? ⟨b,o+i*7+2,none⟩=some (.bool r.num.below)∧W.cell? ⟨b,o+i*7+3,none⟩=some (.slice e3 r.num.size.length e4)∧W.cell? ⟨b,o+i*7+4,none⟩=some (.int .i64 r.date)∧W.cell? ⟨b,o+i*7+5,none⟩=some (.int .i64 r.reason)∧W.cell? ⟨b,o+i*7+6,none⟩=some (.pointer e5) from by
    have nz:¬(z+1=z∨(w2.heap.size+2≤z+1∧z+1<y)):=by have:=HBA.out;omega
    have ny:¬(y=z∨(w2.heap.size+2≤y∧y<y)):=by have:=HBA.out;have:=HE2.out;omega
    have nb:¬(b=z∨(w2.heap.size+2≤b∧b<y)):=by have:=HE2.out;have:=HZ.out;omega
    obtain⟨⟨s1,s2⟩,s3,s4,s5,s6,s7,s8,s9⟩:=hS1
    exact⟨⟨F.cell s1 nz,F.cell s2 ny⟩,F.cell s3 nb,F.cell s4 nb,F.cell s5 nb,F.cell s6 nb,F.cell s7 nb,F.cell s8 nb,F.cell s9 nb⟩))
   have HFC:=Hi FC;clear hS1 c0 v0 FC hx0;clear hat hi haL HNEXT BY x0 x1 x2 x3 x4 x5 x6;gi_upto_region 5 with fail
   refine wpIn_region_N 6 (S:=fun w'=>(w'.cell? ⟨z+1,0,none⟩=some (pt z)∧w'.cell? ⟨y,0,none⟩=some (.pointer (some ⟨b,o+i*7,none⟩)))∧w'.cell? ⟨b,o+i*7,none⟩=some (.string ks)∧w'.cell? ⟨b,o+i*7+1,none⟩=some (.slice e1 r.iss.length e2)∧w'.cell? ⟨b,o+i*7+2,none⟩=some (.bool r.num.below)∧w'.cell? ⟨b,o+i*7+3,none⟩=some (.slice e3 r.num.size.length e4)∧w'.cell? ⟨b,o+i*7+4,none⟩=some (.int .i64 r.date)∧w'.cell? ⟨b,o+i*7+5,none⟩=some (.int .i64 r.reason)∧w'.cell? ⟨b,o+i*7+6,none⟩=some (.pointer e5)) (by kernel_rfl) (by kernel_rfl) (by rintro ⟨a,w,h⟩;exact h) ?_ (fun hHeld=>?_)
   ·exact HKD.out.1
   refine tkN 0 rfl hHeld ?_;(try simp only[Act.put,SS]);refine tkN 1 rfl hHeld ?_;(try simp only[Act.put,SS]);refine tkN 2 rfl hHeld ?_;(try simp only[Act.put,SS]);refine tkN 3 rfl hHeld ?_;(try simp only[Act.put,SS]);refine tkN 4 rfl hHeld ?_;(try simp only[Act.put,SS]);refine stN 5 (fun KK hKK=>?_);go_simp
   (go_at_call 50;(with_reducible refine HADD.out.mono ?_);rintro e W5 ⟨rfl,hown5,F5⟩;go_wp2_with fail)
   refine hKK.out _ _ ?_ (fun hHeld=>?_)
   ·exact HKD.out.2 _ F5
   clear hKK KK;(try simp only[Act.put,SS]);refine wpAnyN_done (by kernel_rfl) ?_ _;have HF5:=Hi F5;have HO5:=Hi hown5;clear F5 hown5 HADD HKD;gi_wp2
   exact⟨(HFC.out.mono (fun _ _ h=>h.elim)).trans (HF5.out.mono (fun k _ e=>by have:=HBA.out;have:=HZ.out;have:=HE2.out;rcases e with e|e<;>exact⟨by omega,by omega,by omega,by omega⟩)),HV2.out.fr HFC.out (fun h=>h) |>.fr HF5.out (by have:=HBA.out;omega),by rw[List.length_append];show IxOwn _ _ _ ((((sideR L M).take (pre.length+1)).filterMap mergeG).map nrow);rw[HNX.out];exact HO5.out,(HFW.out.trans HFC.out).trans' HF5.out (fun i hi e=>by have:=HZ.out;have:=HE2.out;have:=HBA.out;rcases e with e|e<;>omega)⟩
  ·have hat:mergeG (atP L M (none,some j))=if s.reason=8 then none else some s:=by simp[atP,hj,mergeG]
   have HFIT:=Hi (HFM.out s (List.mem_of_getElem? hj));obtain⟨b,o,us,haM,hus,hRx,hRs,hk0,hcx⟩:=slot_row HSM.out hj
   have HLOW:=Hi (show b<w.heap.size from World.block_lt_of_cell? w _ hk0);obtain⟨e1,e2,e3,e4,e5,he,-⟩:=hRx.form
   subst he;obtain⟨ks,hks⟩:∃ ks,str (nameKeyS s.iss)=.string ks:=⟨_,rfl⟩
   rw[hks]at hk0 hRs
   have HRS:=Hi (fun W (F:Fz w W)=>RSlot.old _ _ _ _ hRs F);have x0:=HFW.out.cell hk0 (fun h=>h);have x1:W2.cell? ⟨b,o+j*7+1,none⟩=some (.slice e1 s.iss.length e2):=HFW.out.cell (hcx 0 _ rfl) (fun h=>h);have x2:W2.cell? ⟨b,o+j*7+2,none⟩=some (.bool s.num.below):=HFW.out.cell (hcx 1 _ rfl) (fun h=>h);have x3:W2.cell? ⟨b,o+j*7+3,none⟩=some (.slice e3 s.num.size.length e4):=HFW.out.cell (hcx 2 _ rfl) (fun h=>h);have x4:W2.cell? ⟨b,o+j*7+4,none⟩=some (.int .i64 s.date):=HFW.out.cell (hcx 3 _ rfl) (fun h=>h)
   have x5:W2.cell? ⟨b,o+j*7+5,none⟩=some (.int .i64 s.reason):=HFW.out.cell (hcx 4 _ rfl) (fun h=>h);have x6:W2.cell? ⟨b,o+j*7+6,none⟩=some (.pointer e5):=HFW.out.cell (hcx 5 _ rfl) (fun h=>h);clear hRx hRs hk0 hcx hks hus;rw[pairV_r haM]at BY ⊢
   simp only[Value.cells]at BY
   have p0:=BY.cell 0;have p1:=BY.cell 1;simp only[SG]at p0 p1
   have FC:Fz W2 W2.drew:=(Fr.refl W2).drew;have HADD:=Hi (ixAdd_any z (w2.heap.size+2) y [.string ks,.slice e1 s.iss.length e2,.bool s.num.below,.slice e3 s.num.size.length e4,.int .i64 s.date,.int .i64 s.reason,.pointer e5] s gs W2.drew (HOT.out.fr FC (fun k h=>h.elim)) (by have:=HE2.out;have:=FC.size;omega) (HRS.out _ (HFW.out.trans FC)) HFIT.out (by have:=HGL.out;omega));have v0:=(HV2.out.fr FC (fun h=>h)).cell 0;simp only[List.getElem?_toArray,List.getElem?_cons_zero]at v0
   have c0:=FC.cell p1 (fun h=>h);have hx0:=HLOW.out
   have hS1:(W2.drew.cell? ⟨z+1,0,none⟩=some (pt z)∧W2.drew.cell? ⟨y,1,none⟩=some (.pointer (some ⟨b,o+j*7,none⟩)))∧W2.drew.cell? ⟨b,o+j*7,none⟩=some (.string ks)∧W2.drew.cell? ⟨b,o+j*7+1,none⟩=some (.slice e1 s.iss.length e2)∧W2.drew.cell? ⟨b,o+j*7+2,none⟩=some (.bool s.num.below)∧W2.drew.cell? ⟨b,o+j*7+3,none⟩=some (.slice e3 s.num.size.length e4)∧W2.drew.cell? ⟨b,o+j*7+4,none⟩=some (.int .i64 s.date)∧W2.drew.cell? ⟨b,o+j*7+5,none⟩=some (.int .i64 s.reason)∧W2.drew.cell? ⟨b,o+j*7+6,none⟩=some (.pointer e5):=⟨⟨v0,c0⟩,FC.cell x0 (fun h=>h),FC.cell x1 (fun h=>h),FC.cell x2 (fun h=>h),FC.cell x3 (fun h=>h),FC.cell x4 (fun h=>h),FC.cell x5 (fun h=>h),FC.cell x6 (fun h=>h)⟩
   have HKD:=Hi (And.intro hS1 (fun W (F:Fr (fun k=>k=z∨(w2.heap.size+2≤k∧k<y)) W2.drew W)=>show (W.cell? ⟨z+1,0,none⟩=some (pt z)∧W.cell? ⟨y,1,none⟩=some (.pointer (some ⟨b,o+j*7,none⟩)))∧W.cell? ⟨b,o+j*7,none⟩=some (.string ks)∧W.cell? ⟨b,o+j*7+1,none⟩=some (.slice e1 s.iss.length e2)∧W.cell? ⟨b,o+j*7+2,none⟩=some (.bool s.num.below)∧W.cell? ⟨b,o+j*7+3,none⟩=some (.slice e3 s.num.size.length e4)∧W.cell? ⟨b,o+j*7+4,none⟩=some (.int .i64 s.date)∧W.cell? ⟨b,o+j*7+5,none⟩=some (.int .i64 s.reason)∧W.cell? ⟨b,o+j*7+6,none⟩=some (.pointer e5) from by
    have nz:¬(z+1=z∨(w2.heap.size+2≤z+1∧z+1<y)):=by have:=HBA.out;omega
    have ny:¬(y=z∨(w2.heap.size+2≤y∧y<y)):=by have:=HBA.out;have:=HE2.out;omega
    have nb:¬(b=z∨(w2.heap.size+2≤b∧b<y)):=by have:=HE2.out;have:=HZ.out;omega
    obtain⟨⟨s1,s2⟩,s3,s4,s5,s6,s7,s8,s9⟩:=hS1
    exact⟨⟨F.cell s1 nz,F.cell s2 ny⟩,F.cell s3 nb,F.cell s4 nb,F.cell s5 nb,F.cell s6 nb,F.cell s7 nb,F.cell s8 nb,F.cell s9 nb⟩))
   have HFC:=Hi FC;clear hS1 c0 v0 FC hx0;clear hj haM BY;by_cases h8:s.reason=8
   ·have HNX:Hid (((((sideR L M).take (pre.length+1)).filterMap mergeG).map nrow)=gs):=Hi (by have:=HNEXT.out none (by rw[hat,if_pos h8]);simpa using this)
    have g1:(s.reason==8)=true:=by simp[h8]
    have g2:(s.reason != 8)=false:=by simp[h8]
    have g3:decide (s.reason=8)=true:=decide_eq_true h8;clear hat HNEXT h8 HADD HKD;gi_wp2
    have hown3:IxOwn W2 z (w2.heap.size+2) gs:=by
     obtain⟨a,c,h0,h1,h2,-⟩:=HOT.out
     exact⟨a,c,h0,h1,h2⟩
    exact⟨Fr.refl _,HV2.out,by rw[List.length_append];show IxOwn _ _ _ ((((sideR L M).take (pre.length+1)).filterMap mergeG).map nrow);rw[HNX.out];exact hown3,HFW.out⟩
   ·have HNX:Hid (((((sideR L M).take (pre.length+1)).filterMap mergeG).map nrow)=gs++[nrow s]):=Hi (HNEXT.out (some s) (by rw[hat,if_neg h8]))
    have g1:(s.reason==8)=false:=by simp[h8]
    have g2:(s.reason != 8)=true:=by simp[h8]
    have g3:decide (s.reason=8)=false:=decide_eq_false h8;clear hat HNEXT;gi_upto_region 7 with fail
    clear x0 x1 x2 x3 x4 x5 x6;refine wpIn_region_N 6 (S:=fun w'=>(w'.cell? ⟨z+1,0,none⟩=some (pt z)∧w'.cell? ⟨y,1,none⟩=some (.pointer (some ⟨b,o+j*7,none⟩)))∧w'.cell? ⟨b,o+j*7,none⟩=some (.string ks)∧w'.cell? ⟨b,o+j*7+1,none⟩=some (.slice e1 s.iss.length e2)∧w'.cell? ⟨b,o+j*7+2,none⟩=some (.bool s.num.below)∧w'.cell? ⟨b,o+j*7+3,none⟩=some (.slice e3 s.num.size.length e4)∧w'.cell? ⟨b,o+j*7+4,none⟩=some (.int .i64 s.date)∧w'.cell? ⟨b,o+j*7+5,none⟩=some (.int .i64 s.reason)∧w'.cell? ⟨b,o+j*7+6,none⟩=some (.pointer e5)) (by kernel_rfl) (by kernel_rfl) (by rintro ⟨a,w,h⟩;exact h) ?_ (fun hHeld=>?_)
    ·exact HKD.out.1
    refine tkN 0 rfl hHeld ?_;(try simp only[Act.put,SS]);refine tkN 1 rfl hHeld ?_;(try simp only[Act.put,SS]);refine tkN 2 rfl hHeld ?_;(try simp only[Act.put,SS]);refine tkN 3 rfl hHeld ?_;(try simp only[Act.put,SS]);refine tkN 4 rfl hHeld ?_;(try simp only[Act.put,SS]);refine stN 5 (fun KK hKK=>?_);go_simp
    (go_at_call 50;(with_reducible refine HADD.out.mono ?_);rintro e W5 ⟨rfl,hown5,F5⟩;go_wp2_with fail)
    refine hKK.out _ _ ?_ (fun hHeld=>?_)
    ·exact HKD.out.2 _ F5
    clear hKK KK;(try simp only[Act.put,SS]);refine wpAnyN_done (by kernel_rfl) ?_ _;have HF5:=Hi F5;have HO5:=Hi hown5;clear F5 hown5 HADD HKD;gi_wp2
    exact⟨(HFC.out.mono (fun _ _ h=>h.elim)).trans (HF5.out.mono (fun k _ e=>by have:=HBA.out;have:=HZ.out;have:=HE2.out;rcases e with e|e<;>exact⟨by omega,by omega,by omega,by omega⟩)),HV2.out.fr HFC.out (fun h=>h) |>.fr HF5.out (by have:=HBA.out;omega),by rw[List.length_append];show IxOwn _ _ _ ((((sideR L M).take (pre.length+1)).filterMap mergeG).map nrow);rw[HNX.out];exact HO5.out,(HFW.out.trans HFC.out).trans' HF5.out (fun i hi e=>by have:=HZ.out;have:=HE2.out;have:=HBA.out;rcases e with e|e<;>omega)⟩
  ·have hat:mergeG (atP L M (some i,some j))=if s.reason=8 then none else some s:=by simp[atP,hi,hj,mergeG]
   have HFIT:=Hi (HFM.out s (List.mem_of_getElem? hj));obtain⟨b',o',us',haL,-⟩:=slot_row HSL.out hi
   obtain⟨b,o,us,haM,hus,hRx,hRs,hk0,hcx⟩:=slot_row HSM.out hj
   have HLOW:=Hi (show b<w.heap.size from World.block_lt_of_cell? w _ hk0);obtain⟨e1,e2,e3,e4,e5,he,-⟩:=hRx.form
   subst he;obtain⟨ks,hks⟩:∃ ks,str (nameKeyS s.iss)=.string ks:=⟨_,rfl⟩
   rw[hks]at hk0 hRs
   have HRS:=Hi (fun W (F:Fz w W)=>RSlot.old _ _ _ _ hRs F);have x0:=HFW.out.cell hk0 (fun h=>h);have x1:W2.cell? ⟨b,o+j*7+1,none⟩=some (.slice e1 s.iss.length e2):=HFW.out.cell (hcx 0 _ rfl) (fun h=>h);have x2:W2.cell? ⟨b,o+j*7+2,none⟩=some (.bool s.num.below):=HFW.out.cell (hcx 1 _ rfl) (fun h=>h);have x3:W2.cell? ⟨b,o+j*7+3,none⟩=some (.slice e3 s.num.size.length e4):=HFW.out.cell (hcx 2 _ rfl) (fun h=>h);have x4:W2.cell? ⟨b,o+j*7+4,none⟩=some (.int .i64 s.date):=HFW.out.cell (hcx 3 _ rfl) (fun h=>h)
   have x5:W2.cell? ⟨b,o+j*7+5,none⟩=some (.int .i64 s.reason):=HFW.out.cell (hcx 4 _ rfl) (fun h=>h);have x6:W2.cell? ⟨b,o+j*7+6,none⟩=some (.pointer e5):=HFW.out.cell (hcx 5 _ rfl) (fun h=>h);clear hRx hRs hk0 hcx hks hus;rw[pairV_b haL haM]at BY ⊢
   simp only[Value.cells]at BY
   have p0:=BY.cell 0;have p1:=BY.cell 1;simp only[SG]at p0 p1
   have FC:Fz W2 W2.drew:=(Fr.refl W2).drew;have HADD:=Hi (ixAdd_any z (w2.heap.size+2) y [.string ks,.slice e1 s.iss.length e2,.bool s.num.below,.slice e3 s.num.size.length e4,.int .i64 s.date,.int .i64 s.reason,.pointer e5] s gs W2.drew (HOT.out.fr FC (fun k h=>h.elim)) (by have:=HE2.out;have:=FC.size;omega) (HRS.out _ (HFW.out.trans FC)) HFIT.out (by have:=HGL.out;omega));have v0:=(HV2.out.fr FC (fun h=>h)).cell 0;simp only[List.getElem?_toArray,List.getElem?_cons_zero]at v0
   have c0:=FC.cell p1 (fun h=>h);have hx0:=HLOW.out
   have hS1:(W2.drew.cell? ⟨z+1,0,none⟩=some (pt z)∧W2.drew.cell? ⟨y,1,none⟩=some (.pointer (some ⟨b,o+j*7,none⟩)))∧W2.drew.cell? ⟨b,o+j*7,none⟩=some (.string ks)∧W2.drew.cell? ⟨b,o+j*7+1,none⟩=some (.slice e1 s.iss.length e2)∧W2.drew.cell? ⟨b,o+j*7+2,none⟩=some (.bool s.num.below)∧W2.drew.cell? ⟨b,o+j*7+3,none⟩=some (.slice e3 s.num.size.length e4)∧W2.drew.cell? ⟨b,o+j*7+4,none⟩=some (.int .i64 s.date)∧W2.drew.cell? ⟨b,o+j*7+5,none⟩=some (.int .i64 s.reason)∧W2.drew.cell? ⟨b,o+j*7+6,none⟩=some (.pointer e5):=⟨⟨v0,c0⟩,FC.cell x0 (fun h=>h),FC.cell x1 (fun h=>h),FC.cell x2 (fun h=>h),FC.cell x3 (fun h=>h),FC.cell x4 (fun h=>h),FC.cell x5 (fun h=>h),FC.cell x6 (fun h=>h)⟩
   have HKD:=Hi (And.intro hS1 (fun W (F:Fr (fun k=>k=z∨(w2.heap.size+2≤k∧k<y)) W2.drew W)=>show (W.cell? ⟨z+1,0,none⟩=some (pt z)∧W.cell? ⟨y,1,none⟩=some (.pointer (some ⟨b,o+j*7,none⟩)))∧W.cell? ⟨b,o+j*7,none⟩=some (.string ks)∧W.cell? ⟨b,o+j*7+1,none⟩=some (.slice e1 s.iss.length e2)∧W.cell? ⟨b,o+j*7+2,none⟩=some (.bool s.num.below)∧W.cell? ⟨b,o+j*7+3,none⟩=some (.slice e3 s.num.size.length e4)∧W.cell? ⟨b,o+j*7+4,none⟩=some (.int .i64 s.date)∧W.cell? ⟨b,o+j*7+5,none⟩=some (.int .i64 s.reason)∧W.cell? ⟨b,o+j*7+6,none⟩=some (.pointer e5) from by
    have nz:¬(z+1=z∨(w2.heap.size+2≤z+1∧z+1<y)):=by have:=HBA.out;omega
    have ny:¬(y=z∨(w2.heap.size+2≤y∧y<y)):=by have:=HBA.out;have:=HE2.out;omega
    have nb:¬(b=z∨(w2.heap.size+2≤b∧b<y)):=by have:=HE2.out;have:=HZ.out;omega
    obtain⟨⟨s1,s2⟩,s3,s4,s5,s6,s7,s8,s9⟩:=hS1
    exact⟨⟨F.cell s1 nz,F.cell s2 ny⟩,F.cell s3 nb,F.cell s4 nb,F.cell s5 nb,F.cell s6 nb,F.cell s7 nb,F.cell s8 nb,F.cell s9 nb⟩))
   have HFC:=Hi FC;clear hS1 c0 v0 FC hx0;clear hj haM BY hi haL;by_cases h8:s.reason=8
   ·have HNX:Hid (((((sideR L M).take (pre.length+1)).filterMap mergeG).map nrow)=gs):=Hi (by have:=HNEXT.out none (by rw[hat,if_pos h8]);simpa using this)
    have g1:(s.reason==8)=true:=by simp[h8]
    have g2:(s.reason != 8)=false:=by simp[h8]
    have g3:decide (s.reason=8)=true:=decide_eq_true h8;clear hat HNEXT h8 HADD HKD;gi_wp2
    have hown3:IxOwn W2 z (w2.heap.size+2) gs:=by
     obtain⟨a,c,h0,h1,h2,-⟩:=HOT.out
     exact⟨a,c,h0,h1,h2⟩
    exact⟨Fr.refl _,HV2.out,by rw[List.length_append];show IxOwn _ _ _ ((((sideR L M).take (pre.length+1)).filterMap mergeG).map nrow);rw[HNX.out];exact hown3,HFW.out⟩
   ·have HNX:Hid (((((sideR L M).take (pre.length+1)).filterMap mergeG).map nrow)=gs++[nrow s]):=Hi (HNEXT.out (some s) (by rw[hat,if_neg h8]))
    have g1:(s.reason==8)=false:=by simp[h8]
    have g2:(s.reason != 8)=true:=by simp[h8]
    have g3:decide (s.reason=8)=false:=decide_eq_false h8;clear hat HNEXT;gi_upto_region 7 with fail
    clear x0 x1 x2 x3 x4 x5 x6;refine wpIn_region_N 6 (S:=fun w'=>(w'.cell? ⟨z+1,0,none⟩=some (pt z)∧w'.cell? ⟨y,1,none⟩=some (.pointer (some ⟨b,o+j*7,none⟩)))∧w'.cell? ⟨b,o+j*7,none⟩=some (.string ks)∧w'.cell? ⟨b,o+j*7+1,none⟩=some (.slice e1 s.iss.length e2)∧w'.cell? ⟨b,o+j*7+2,none⟩=some (.bool s.num.below)∧w'.cell? ⟨b,o+j*7+3,none⟩=some (.slice e3 s.num.size.length e4)∧w'.cell? ⟨b,o+j*7+4,none⟩=some (.int .i64 s.date)∧w'.cell? ⟨b,o+j*7+5,none⟩=some (.int .i64 s.reason)∧w'.cell? ⟨b,o+j*7+6,none⟩=some (.pointer e5)) (by kernel_rfl) (by kernel_rfl) (by rintro ⟨a,w,h⟩;exact h) ?_ (fun hHeld=>?_)
    ·exact HKD.out.1
    refine tkN 0 rfl hHeld ?_;(try simp only[Act.put,SS]);refine tkN 1 rfl hHeld ?_;(try simp only[Act.put,SS]);refine tkN 2 rfl hHeld ?_;(try simp only[Act.put,SS]);refine tkN 3 rfl hHeld ?_;(try simp only[Act.put,SS]);refine tkN 4 rfl hHeld ?_;(try simp only[Act.put,SS]);refine stN 5 (fun KK hKK=>?_);go_simp
    (go_at_call 50;(with_reducible refine HADD.out.mono ?_);rintro e W5 ⟨rfl,hown5,F5⟩;go_wp2_with fail)
    refine hKK.out _ _ ?_ (fun hHeld=>?_)
    ·exact HKD.out.2 _ F5
    clear hKK KK;(try simp only[Act.put,SS]);refine wpAnyN_done (by kernel_rfl) ?_ _;have HF5:=Hi F5;have HO5:=Hi hown5;clear F5 hown5 HADD HKD;gi_wp2
    exact⟨(HFC.out.mono (fun _ _ h=>h.elim)).trans (HF5.out.mono (fun k _ e=>by have:=HBA.out;have:=HZ.out;have:=HE2.out;rcases e with e|e<;>exact⟨by omega,by omega,by omega,by omega⟩)),HV2.out.fr HFC.out (fun h=>h) |>.fr HF5.out (by have:=HBA.out;omega),by rw[List.length_append];show IxOwn _ _ _ ((((sideR L M).take (pre.length+1)).filterMap mergeG).map nrow);rw[HNX.out];exact HO5.out,(HFW.out.trans HFC.out).trans' HF5.out (fun i hi e=>by have:=HZ.out;have:=HE2.out;have:=HBA.out;rcases e with e|e<;>omega)⟩
 case done=>
  rintro D W hD ⟨BV,hown,F⟩ hK;have hix:=hown.at;rw[pairsV_len,List.take_length]at hix
  have r0:=BV.cell 0;simp only[List.getElem?_toArray,List.getElem?_cons_zero]at r0
  have hdw:w.heap.size≤D:=by have:=HF2.out.size;omega
  have HF5:=Hi (F.trans' (Fr.putObj (S:=fun k=>k=D) (Fr.refl W) D (fun _=>rfl) (.deferred none)) (fun i hi e=>by have e2:i=D:=e;omega));have HIX:=Hi (show IxAt (W.putObj D (.deferred none)) (pt z) ((mergeS L M).map nrow) from by
   have hfr:IxOwn (W.putObj D (.deferred none)) z (w2.heap.size+2) ((((sideR L M).take (pairsV aL aM L M 0 0).length).filterMap mergeG).map nrow):=hown.fr (Fr.putObj (S:=fun k=>k=D) (Fr.refl W) D (fun _=>rfl) (.deferred none)) (fun k e=>by have e2:k=D:=e;have:=HBA.out;omega);have:=hfr.at;rw[pairsV_len,List.take_length]at this
   exact this)
  clear HIT hown hix F;gi_wp2
  refine⟨by simp,.inl ⟨_,_,rfl,run_takeDeferred hK,?_⟩⟩
  exact⟨pt z,by simp[results,Tryz.results18,go_sem],⟨z,rfl,HIX.out⟩,HF5.out⟩
 case stop=>
  rintro D c pre W hD hpre h hK;exact h.elim
theorem r22Merge_any (va vb:Value)(L M:List RowP)(w:World)(ha:Refs w va L)(hb:Refs w vb M)(hfL:∀ r∈L,fitR r)(hfM:∀ r∈M,fitR r)(hl:L.length+M.length≤1000)(huL:UpR L)(huM:UpR M) :
  Calls Tryz.prog 20 #[va,vb] w fun e w'=>(∃ a c,e=.returned (.slice a (mergeS L M).length c)∧Refs w' (.slice a (mergeS L M).length c) (mergeS L M))∧Fz w w':=by
 have HA:=Hi ha;have HB:=Hi hb;have HFL:=Hi hfL;have HFM:=Hi hfM;have HLEN:=Hi hl;have HUL:=Hi huL;have HUM:=Hi huM;obtain⟨aa,ca,rfl,-⟩:=ha
 obtain⟨ab,cb,rfl,-⟩:=hb
 clear hfL hfM hl huL huM;go_enter Tryz.func20,Tryz.ntmps20
 go_wp2_with fail
 go_loopg [5,6] L.length (fun g u i wr=>∃ (j:Nat) (a:Option Addr) (c:Nat) (gs:List RowP),g=L.length-j∧j≤L.length∧u=.slice a gs.length c∧i=.int .i64 j∧Hid (gs=(L.take j).filter (fun r=>!(placeR r M 0).2))∧Hid (gs.length≤j)∧Hid (GRow 7 (fun _ us x=>RRef w us x) (fun _=>False) 56 wr w.heap.size (.slice a gs.length c) gs)∧Hid (Fz w wr))
 case atStart=>exact⟨0,none,0,[],rfl,Nat.zero_le _,rfl,rfl,Hi rfl,Hi (Nat.le_refl _),Hi (GRow.nil _ _ _ _ _ _),Hi (Fr.refl _)⟩
 case round=>
  obtain⟨j,a,c,gs,hg,hj,rfl,rfl,HGS,HGL,HRW,HF⟩:=hrel
  have HG:=Hi hg;have hlb:=HLEN.out;clear hg;by_cases hjl:j<L.length
  ·obtain⟨x,hx⟩:∃ x,L[j]? = some x:=⟨_,List.getElem?_eq_getElem hjl⟩
   obtain⟨b,o,cs,rfl,-,-,hR,hcell⟩:=LAt.get HA.out hx
   obtain⟨a1,c1,b1,d1,rfl,hn1,hb1⟩:=hR.form
   have HRX:=Hi hR;have HN1:=Hi hn1;have HB1:=Hi hb1
   have HSX:=Hi (fun W (F:Fz wr W)=>show W.cell? ⟨b,o+j*7,none⟩=some (.slice a1 x.iss.length c1)∧W.cell? ⟨b,o+j*7+1,none⟩=some (.bool x.num.below)∧W.cell? ⟨b,o+j*7+2,none⟩=some (.slice b1 x.num.size.length d1)∧W.cell? ⟨b,o+j*7+3,none⟩=some (.int .i64 x.date)∧W.cell? ⟨b,o+j*7+4,none⟩=some (.int .i64 x.reason)∧W.cell? ⟨b,o+j*7+5,none⟩=some (.bool x.inv.isSome)∧W.cell? ⟨b,o+j*7+6,none⟩=some (.int .i64 (x.inv.getD 0)) from ⟨by have:=(HF.out.trans F).cell (hcell 0 _ rfl) (fun h=>h);rwa[Nat.add_zero]at this,(HF.out.trans F).cell (hcell 1 _ rfl) (fun h=>h),(HF.out.trans F).cell (hcell 2 _ rfl) (fun h=>h),(HF.out.trans F).cell (hcell 3 _ rfl) (fun h=>h),(HF.out.trans F).cell (hcell 4 _ rfl) (fun h=>h),(HF.out.trans F).cell (hcell 5 _ rfl) (fun h=>h),(HF.out.trans F).cell (hcell 6 _ rfl) (fun h=>h)⟩)
   have hfx:=HFL.out x (List.mem_of_getElem? hx);have HFX:=Hi hfx;have HXM:=Hi (List.mem_of_getElem? hx);have HXG:=Hi hx;have r1:(0:Int)≤(j:Int):=by omega
   have r2:(j:Int)<(L.length:Int):=by omega
   have HTK:=Hi (show L.take (j+1)=L.take j++[x] by rw[List.take_add_one,hx];rfl);obtain⟨pn,hpn⟩:∃ pn,pn=(placeR x M 0).1:=⟨_,rfl⟩
   obtain⟨pin,hpin⟩:∃ pin,pin=(placeR x M 0).2:=⟨_,rfl⟩
   have HPL:=Hi (fun W (F:Fz wr W)=>r22Place_any x _ (.slice a1 x.iss.length c1) (.slice b1 x.num.size.length d1) M W (Refs.old HB.out (HF.out.trans F)) (HN1.out.old (HF.out.trans F)) (HB1.out.old (HF.out.trans F)) HFM.out HFX.out (by have:=HLEN.out;omega));rw[←hpn,←hpin]at HPL
   have HPN:=Hi hpn;have HPI:=Hi hpin;clear hx hR hcell hn1 hb1 hfx hpn hpin;go_upto_region 5 with fail
   have GD:Fz wr wr.drew:=(Fr.refl wr).drew;refine wp_region_N 17 (S:=fun w'=>w'.cell? ⟨b,o+j*7,none⟩=some (.slice a1 x.iss.length c1)∧w'.cell? ⟨b,o+j*7+1,none⟩=some (.bool x.num.below)∧w'.cell? ⟨b,o+j*7+2,none⟩=some (.slice b1 x.num.size.length d1)∧w'.cell? ⟨b,o+j*7+3,none⟩=some (.int .i64 x.date)∧w'.cell? ⟨b,o+j*7+4,none⟩=some (.int .i64 x.reason)∧w'.cell? ⟨b,o+j*7+5,none⟩=some (.bool x.inv.isSome)∧w'.cell? ⟨b,o+j*7+6,none⟩=some (.int .i64 (x.inv.getD 0))) (by kernel_rfl) ?_ (fun hHeld=>?_)
   ·exact HSX.out _ GD
   refine tkN 0 rfl hHeld ?_;refine tkN 1 rfl hHeld ?_;refine tkN 2 rfl hHeld ?_;(try simp only[Act.put,SS]);refine tkN 3 rfl hHeld ?_;refine tkN 4 rfl hHeld ?_;refine tkN 5 rfl hHeld ?_;(try simp only[Act.put,SS]);refine tkN 6 rfl hHeld ?_;refine tkN 7 rfl hHeld ?_;refine tkN 8 rfl hHeld ?_;(try simp only[Act.put,SS]);refine tkN 9 rfl hHeld ?_;refine tkN 10 rfl hHeld ?_;(try simp only[Act.put,SS]);refine stN 11 (fun KK hKK=>?_);go_simp
   (go_at_call 31;(with_reducible refine(HPL.out _ GD).mono ?_);rintro e w' ⟨rfl,F⟩;have G2:=GD.trans F;clear F HPL;go_wp2_with fail)
   refine hKK.out _ _ ?_ (fun hHeld=>?_)
   ·exact HSX.out _ G2
   clear hKK KK;(try simp only[Act.put,SS]);refine tkN 12 rfl hHeld ?_;refine tkN 13 rfl hHeld ?_;refine tkN 14 rfl hHeld ?_;(try simp only[Act.put,SS]);refine tkN 15 rfl hHeld ?_;refine tkN 16 rfl hHeld ?_;(try simp only[Act.put,SS]);refine wpAnyN_done (by kernel_rfl) ?_ _;clear hHeld;have HF2:=Hi G2;obtain⟨m0,m1,m2,m3,m4,m5,m6⟩:=HSX.out _ G2
   clear GD G2;cases hq:pin with
   |true=>
    have HGS2:=Hi (show gs=(L.take (j+1)).filter (fun r=>!(placeR r M 0).2) from by
     rw[HTK.out,List.filter_append,HGS.out]
     simp[←HPI.out,hq])
    subst hq;clear m0 m1 m2 m3 m4 m5 m6;go_wp2_with fail
    go_roundg (L.length-(j+1))
    case measure=>rw[HG.out];omega
    case rel=>exact⟨j+1,a,c,gs,rfl,by omega,rfl,by go_num,HGS2,Hi (by have:=HGL.out;omega),Hi (HRW.out.old HF2.out),Hi (HF.out.trans HF2.out)⟩
   |false=>
    have HGS2:=Hi (show gs++[x]=(L.take (j+1)).filter (fun r=>!(placeR r M 0).2) from by
     rw[HTK.out,List.filter_append,HGS.out]
     simp[←HPI.out,hq])
    subst hq
    obtain⟨a7,c7,w7,hrun,hrow7,F7,-⟩:=(HRW.out.old HF2.out).add (s:=22) Tryz.underlying22 info56 rfl (by decide) (by decide) (by have:=HF.out.size;have:=(HF2.out).size;omega) ((Fr.refl w').alloc (.cells [(.slice a1 x.iss.length c1),(.bool x.num.below),(.slice b1 x.num.size.length d1),(.int .i64 x.date),(.int .i64 x.reason),(.bool x.inv.isSome),(.int .i64 (x.inv.getD 0))].toArray 56)) w'.heap.size [(.slice a1 x.iss.length c1),(.bool x.num.below),(.slice b1 x.num.size.length d1),(.int .i64 x.date),(.int .i64 x.reason),(.bool x.inv.isSome),(.int .i64 (x.inv.getD 0))] rfl (Blk.new w' 56 [(.slice a1 x.iss.length c1),(.bool x.num.below),(.slice b1 x.num.size.length d1),(.int .i64 x.date),(.int .i64 x.reason),(.bool x.inv.isSome),(.int .i64 (x.inv.getD 0))].toArray) (by simp[Value.oneCell']) (x) (fun _ _=>HRX.out) (by have:=HGL.out;have:=HLEN.out;omega)
    have HRUN:=Hi hrun;have HKP:=Hi HRW.out.keep;have HRW7:=Hi hrow7;have HF7:=Hi ((HF.out.trans HF2.out).trans' F7 (fun i hi e=>absurd hi (by have:=(HKP.out i e).1;omega)));have HLL:Hid ((gs++[x]).length=gs.length+1):=Hi (by rw[List.length_append];rfl);skip
    clear hrun hrow7 F7;go_wp2_with ((at_builtin;refine wpList_append_run (by rfl) (.tmp 35) (.tmp 40) 22 (by rfl) _ w7 (by exact HRUN.out) ?_))
    go_roundg (L.length-(j+1))
    case measure=>rw[HG.out];omega
    case rel=>exact⟨j+1,a7,c7,gs++[x],rfl,by omega,by rw[HLL.out],by go_num,HGS2,Hi (by rw[HLL.out];have:=HGL.out;omega),Hi (by rw[HLL.out];exact HRW7.out),HF7⟩
  ·have r2:¬(j:Int)<(L.length:Int):=by omega
   have HGA:=Hi (show gs=L.filter (fun r=>!(placeR r M 0).2) from by rw[HGS.out,List.take_of_length_le (by omega)]);have HGB:=Hi (show gs.length≤L.length from by rw[HGA.out];exact List.length_filter_le _ _);go_wp2_with fail
   clear r2 hjl hj HG;go_loopg [5,9] M.length (fun g u i wr=>∃ (j:Nat) (a:Option Addr) (c:Nat) (gs:List RowP),g=M.length-j∧j≤M.length∧u=.slice a gs.length c∧i=.int .i64 j∧Hid (gs=L.filter (fun r=>!(placeR r M 0).2)++(M.take j).filter (fun r=>decide (r.reason≠8)))∧Hid (gs.length≤L.length+j)∧Hid (GRow 7 (fun _ us x=>RRef w us x) (fun _=>False) 56 wr w.heap.size (.slice a gs.length c) gs)∧Hid (Fz w wr))
   case atStart=>exact⟨0,a,c,gs,rfl,Nat.zero_le _,rfl,rfl,Hi (by rw[HGA.out];simp),Hi HGB.out,HRW,HF⟩
   case round=>
    clear HRW HF HGS HGL HGA HGB;obtain⟨j,a,c,gs,hg,hj,rfl,rfl,HGS,HGL,HRW,HF⟩:=hrel
    have HG:=Hi hg;have hlb:=HLEN.out;clear hg;by_cases hjl:j<M.length
    ·obtain⟨x,hx⟩:∃ x,M[j]? = some x:=⟨_,List.getElem?_eq_getElem hjl⟩
     obtain⟨b,o,cs,rfl,-,-,hR,hcell⟩:=LAt.get HB.out hx
     obtain⟨a1,c1,b1,d1,rfl,hn1,hb1⟩:=hR.form
     have HRX:=Hi hR;have HN1:=Hi hn1;have HB1:=Hi hb1
     have HSX:=Hi (fun W (F:Fz wr W)=>show W.cell? ⟨b,o+j*7,none⟩=some (.slice a1 x.iss.length c1)∧W.cell? ⟨b,o+j*7+1,none⟩=some (.bool x.num.below)∧W.cell? ⟨b,o+j*7+2,none⟩=some (.slice b1 x.num.size.length d1)∧W.cell? ⟨b,o+j*7+3,none⟩=some (.int .i64 x.date)∧W.cell? ⟨b,o+j*7+4,none⟩=some (.int .i64 x.reason)∧W.cell? ⟨b,o+j*7+5,none⟩=some (.bool x.inv.isSome)∧W.cell? ⟨b,o+j*7+6,none⟩=some (.int .i64 (x.inv.getD 0)) from ⟨by have:=(HF.out.trans F).cell (hcell 0 _ rfl) (fun h=>h);rwa[Nat.add_zero]at this,(HF.out.trans F).cell (hcell 1 _ rfl) (fun h=>h),(HF.out.trans F).cell (hcell 2 _ rfl) (fun h=>h),(HF.out.trans F).cell (hcell 3 _ rfl) (fun h=>h),(HF.out.trans F).cell (hcell 4 _ rfl) (fun h=>h),(HF.out.trans F).cell (hcell 5 _ rfl) (fun h=>h),(HF.out.trans F).cell (hcell 6 _ rfl) (fun h=>h)⟩)
     have hfx:=HFM.out x (List.mem_of_getElem? hx);have HFX:=Hi hfx;have HXM:=Hi (List.mem_of_getElem? hx);have HXG:=Hi hx;have r1:(0:Int)≤(j:Int):=by omega
     have r2:(j:Int)<(M.length:Int):=by omega
     have HTK:=Hi (show M.take (j+1)=M.take j++[x] by rw[List.take_add_one,hx];rfl);clear hx hR hcell hn1 hb1 hfx;obtain⟨m0,m1,m2,m3,m4,m5,m6⟩:=HSX.out wr (Fr.refl _)
     have HF2:=Hi (Fr.refl wr:Fz wr wr);by_cases h8:x.reason=8
     ·have q1:(x.reason==8)=true:=by rw[h8];rfl
      have q2:(x.reason != 8)=false:=by rw[h8];rfl
      have HGS2:=Hi (show gs=L.filter (fun r=>!(placeR r M 0).2)++(M.take (j+1)).filter (fun r=>decide (r.reason≠8)) from by
       rw[HTK.out,List.filter_append,←List.append_assoc,←HGS.out]
       simp[h8])
      clear h8;go_wp2_with fail
      go_roundg (M.length-(j+1))
      case measure=>rw[HG.out];omega
      case rel=>exact⟨j+1,a,c,gs,rfl,by omega,rfl,by go_num,HGS2,Hi (by have:=HGL.out;omega),HRW,HF⟩
     ·have q1:(x.reason==8)=false:=beq_eq_false_iff_ne.2 h8
      have q2:(x.reason != 8)=true:=by rw[bne,q1];rfl
      have HGS2:=Hi (show gs++[x]=L.filter (fun r=>!(placeR r M 0).2)++(M.take (j+1)).filter (fun r=>decide (r.reason≠8)) from by
       rw[HTK.out,List.filter_append,←List.append_assoc,←HGS.out]
       simp[h8])
      clear h8
      obtain⟨a7,c7,w7,hrun,hrow7,F7,-⟩:=(HRW.out.old HF2.out).add (s:=22) Tryz.underlying22 info56 rfl (by decide) (by decide) (by have:=HF.out.size;have:=(HF2.out).size;omega) ((Fr.refl wr).alloc (.cells [(.slice a1 x.iss.length c1),(.bool x.num.below),(.slice b1 x.num.size.length d1),(.int .i64 x.date),(.int .i64 x.reason),(.bool x.inv.isSome),(.int .i64 (x.inv.getD 0))].toArray 56)) wr.heap.size [(.slice a1 x.iss.length c1),(.bool x.num.below),(.slice b1 x.num.size.length d1),(.int .i64 x.date),(.int .i64 x.reason),(.bool x.inv.isSome),(.int .i64 (x.inv.getD 0))] rfl (Blk.new wr 56 [(.slice a1 x.iss.length c1),(.bool x.num.below),(.slice b1 x.num.size.length d1),(.int .i64 x.date),(.int .i64 x.reason),(.bool x.inv.isSome),(.int .i64 (x.inv.getD 0))].toArray) (by simp[Value.oneCell']) (x) (fun _ _=>HRX.out) (by have:=HGL.out;have:=HLEN.out;omega)
      have HRUN:=Hi hrun;have HKP:=Hi HRW.out.keep;have HRW7:=Hi hrow7;have HF7:=Hi ((HF.out.trans HF2.out).trans' F7 (fun i hi e=>absurd hi (by have:=(HKP.out i e).1;omega)));have HLL:Hid ((gs++[x]).length=gs.length+1):=Hi (by rw[List.length_append];rfl);skip
      clear hrun hrow7 F7;go_wp2_with ((at_builtin;refine wpList_append_run (by rfl) (.tmp 54) (.tmp 59) 22 (by rfl) _ w7 (by exact HRUN.out) ?_))
      go_roundg (M.length-(j+1))
      case measure=>rw[HG.out];omega
      case rel=>exact⟨j+1,a7,c7,gs++[x],rfl,by omega,by rw[HLL.out],by go_num,HGS2,Hi (by rw[HLL.out];have:=HGL.out;omega),Hi (by rw[HLL.out];exact HRW7.out),HF7⟩
    ·skip
     have HNE:=Hi (show gs=refMergeL L M from by rw[HGS.out,List.take_of_length_le (by omega)];unfold refMergeL;rfl);have HFG:=Hi (show ∀ r∈gs,fitR r from by rw[HNE.out];exact refMerge_fit HFL.out HFM.out);have HNR:=Hi (show newRef gs=.ok (mergeS L M) from by
      unfold newRef;rw[if_pos (show okRows gs=true from by unfold okRows;rw[List.all_eq_true];exact fun r hr=>(HFG.out r hr).2.1),HNE.out]
      rw[merge_law HUL.out HUM.out])
     have HN:=Hi (r22New_any (fun us x=>RRef w us x) (.slice a gs.length c) gs wr (fun us x h=>RRef.old _ _ _ _ h HF.out) ((HRW.out.at (by decide)).move (Fr.refl wr) (fun _ _ h=>h)) (fun r hr=>⟨(HFG.out r hr).1,(HFG.out r hr).2.2⟩) (by have:=HGL.out;have:=HLEN.out;omega));have r2:¬(j:Int)<(M.length:Int):=by omega
     go_wp2_with fail
     refine HN.out.mono ?_;rintro e w9 ⟨ho,F9⟩;unfold RefNew at ho;rw[HNR.out]at ho
     obtain⟨a9,c9,rfl,row9⟩:=ho
     have HF9:=Hi (HF.out.trans F9);have HR9:=Hi ((row9.at (by decide)).move (R':=RRef) (Fr.refl w9) (fun _ _ h=>RRef.old _ _ _ _ h HF9.out));clear row9 F9;go_wp2_with fail
     go_ret;exact⟨⟨a9,c9,rfl,HR9.out⟩,HF9.out⟩
theorem r22Just_gen (a1 b1 a2 b2:Option Addr)(n1 c1 m1 d1 n2 c2 m2 d2:Nat)(g1 g2:Bool)(t1 r1 i1 t2 r2 i2:Int)(q1 q2:Bool)(w:World)(r:Bool)(hr:r=((t1==t2)&&((r1==r2)&&((q1==q2)&&(i1==i2))))) :
  Calls Tryz.prog 52 #[.agg #[.slice a1 n1 c1,.bool g1,.slice b1 m1 d1,.int .i64 t1,.int .i64 r1,.bool q1,.int .i64 i1],.agg #[.slice a2 n2 c2,.bool g2,.slice b2 m2 d2,.int .i64 t2,.int .i64 r2,.bool q2,.int .i64 i2]] w fun e w'=>e=.returned (.bool r)∧Fz w w':=by
 have HR:=Hi hr;clear hr;have F0:Fz w ((w.alloc (.cells #[.slice a1 n1 c1,.bool g1,.slice b1 m1 d1,.int .i64 t1,.int .i64 r1,.bool q1,.int .i64 i1] 56)).alloc (.cells #[.slice a2 n2 c2,.bool g2,.slice b2 m2 d2,.int .i64 t2,.int .i64 r2,.bool q2,.int .i64 i2] 56)):=((Fr.refl w).alloc _).alloc _;have HF0:=Hi F0;clear F0;by_cases e0:t1=t2
 ·have k0:(t1==t2)=true:=beq_iff_eq.2 e0
  have l0:decide (t1=t2)=true:=decide_eq_true e0;by_cases e1:r1=r2
  ·have k1:(r1==r2)=true:=beq_iff_eq.2 e1
   have l1:decide (r1=r2)=true:=decide_eq_true e1;by_cases e2:q1=q2
   ·have k2:(q1==q2)=true:=beq_iff_eq.2 e2
    have l2:decide (q1=q2)=true:=decide_eq_true e2;by_cases e3:i1=i2
    ·have k3:(i1==i2)=true:=beq_iff_eq.2 e3
     have l3:decide (i1=i2)=true:=decide_eq_true e3;have hr:r=true:=by rw[HR.out];simp[e0,e1,e2,e3]
     subst hr;clear e0 e1 e2 e3;go_enter Tryz.func52,Tryz.ntmps52
     go_wp2_with fail
     go_ret;exact⟨rfl,HF0.out⟩
    ·have k3:(i1==i2)=false:=beq_eq_false_iff_ne.2 e3
     have l3:decide (i1=i2)=false:=decide_eq_false e3;have hr:r=false:=by rw[HR.out];simp[e0,e1,e2,e3]
     subst hr;clear e0 e1 e2 e3;go_enter Tryz.func52,Tryz.ntmps52
     go_wp2_with fail
     go_ret;exact⟨rfl,HF0.out⟩
   ·have k2:(q1==q2)=false:=beq_eq_false_iff_ne.2 e2
    have l2:decide (q1=q2)=false:=decide_eq_false e2;have hr:r=false:=by rw[HR.out];simp[e0,e1,e2]
    subst hr;clear e0 e1 e2;go_enter Tryz.func52,Tryz.ntmps52
    go_wp2_with fail
    go_ret;exact⟨rfl,HF0.out⟩
  ·have k1:(r1==r2)=false:=beq_eq_false_iff_ne.2 e1
   have l1:decide (r1=r2)=false:=decide_eq_false e1;have hr:r=false:=by rw[HR.out];simp[e0,e1]
   subst hr;clear e0 e1;go_enter Tryz.func52,Tryz.ntmps52
   go_wp2_with fail
   go_ret;exact⟨rfl,HF0.out⟩
 ·have k0:(t1==t2)=false:=beq_eq_false_iff_ne.2 e0
  have l0:decide (t1=t2)=false:=decide_eq_false e0;have hr:r=false:=by rw[HR.out];simp[e0]
  subst hr;clear e0;go_enter Tryz.func52,Tryz.ntmps52
  go_wp2_with fail
  go_ret;exact⟨rfl,HF0.out⟩
theorem r22Just_any (x y:RowP)(a1 b1 a2 b2:Option Addr)(c1 d1 c2 d2:Nat)(w:World) :
  Calls Tryz.prog 52 #[.agg #[(.slice a1 x.iss.length c1),(.bool x.num.below),(.slice b1 x.num.size.length d1),(.int .i64 x.date),(.int .i64 x.reason),(.bool x.inv.isSome),(.int .i64 (x.inv.getD 0))],.agg #[(.slice a2 y.iss.length c2),(.bool y.num.below),(.slice b2 y.num.size.length d2),(.int .i64 y.date),(.int .i64 y.reason),(.bool y.inv.isSome),(.int .i64 (y.inv.getD 0))]] w fun e w'=>e=.returned (.bool (likeR x y))∧Fz w w':=
 r22Just_gen a1 b1 a2 b2 _ c1 _ d1 _ c2 _ d2 _ _ _ _ _ _ _ _ _ _ w _ (likeR_parts x y)
theorem r22Same_any (va vb:Value)(L M:List RowP)(w:World)(ha:Refs w va L)(hb:Refs w vb M)(hfL:∀ r∈L,fitR r)(hfM:∀ r∈M,fitR r)(hl:L.length≤1000000) :
  Calls Tryz.prog 23 #[va,vb] w fun e w'=>e=.returned (.bool (refSame L M))∧Fz w w':=by
 have HA:=Hi ha;have HB:=Hi hb;have HFL:=Hi hfL;have HFM:=Hi hfM;obtain⟨aa,ca,rfl,-⟩:=ha
 obtain⟨ab,cb,rfl,-⟩:=hb
 obtain⟨r,hr⟩:∃ r,refSame L M=r:=⟨_,rfl⟩
 rw[hr]
 have HR:=Hi hr;clear hfL hfM hr;by_cases hlen:L.length=M.length
 ·have k1:((L.length:Int)==(M.length:Int))=true:=by rw[hlen];simp
  have k2:((L.length:Int) != (M.length:Int))=false:=by rw[hlen];simp
  have HLE:=Hi hlen;clear hlen;go_enter Tryz.func23,Tryz.ntmps23
  go_wp2_with fail
  go_loopg [5] L.length (fun g i wr=>∃ j:Nat,g=L.length-j∧j≤L.length∧i=.int .i64 j∧Hid (refSame (L.drop j) (M.drop j)=r)∧Hid (Fz w wr))
  case atStart=>exact⟨0,rfl,Nat.zero_le _,rfl,HR,Hi (Fr.refl _)⟩
  case round=>
   obtain⟨j,hg,hj,rfl,HS,HF⟩:=hrel
   have HG:=Hi hg;clear hg;by_cases hjl:j<L.length
   ·obtain⟨x,hx⟩:∃ x,L[j]? = some x:=⟨_,List.getElem?_eq_getElem hjl⟩
    obtain⟨y,hy⟩:∃ y,M[j]? = some y:=⟨_,List.getElem?_eq_getElem (by have:=HLE.out;omega)⟩
    have hd1:=drop_at hx;have hd2:=drop_at hy;have hs:=HS.out;rw[hd1,hd2]at hs
    unfold refSame at hs;obtain⟨b,o,cs,rfl,-,-,hRx,hcx⟩:=LAt.get HA.out hx
    obtain⟨a1,c1,b1,d1,rfl,hn1,hb1⟩:=hRx.form
    obtain⟨p,q,ds,rfl,-,-,hRy,hcy⟩:=LAt.get HB.out hy
    obtain⟨a2,c2,b2,d2,rfl,hn2,hb2⟩:=hRy.form
    have HSX:=Hi (fun W (F:Fz wr W)=>show (W.cell? ⟨b,o+j*7,none⟩=some (.slice a1 x.iss.length c1)∧W.cell? ⟨b,o+j*7+1,none⟩=some (.bool x.num.below)∧W.cell? ⟨b,o+j*7+2,none⟩=some (.slice b1 x.num.size.length d1)∧W.cell? ⟨b,o+j*7+3,none⟩=some (.int .i64 x.date)∧W.cell? ⟨b,o+j*7+4,none⟩=some (.int .i64 x.reason)∧W.cell? ⟨b,o+j*7+5,none⟩=some (.bool x.inv.isSome)∧W.cell? ⟨b,o+j*7+6,none⟩=some (.int .i64 (x.inv.getD 0)))∧W.cell? ⟨p,q+j*7,none⟩=some (.slice a2 y.iss.length c2)∧W.cell? ⟨p,q+j*7+1,none⟩=some (.bool y.num.below)∧W.cell? ⟨p,q+j*7+2,none⟩=some (.slice b2 y.num.size.length d2)∧W.cell? ⟨p,q+j*7+3,none⟩=some (.int .i64 y.date)∧W.cell? ⟨p,q+j*7+4,none⟩=some (.int .i64 y.reason)∧W.cell? ⟨p,q+j*7+5,none⟩=some (.bool y.inv.isSome)∧W.cell? ⟨p,q+j*7+6,none⟩=some (.int .i64 (y.inv.getD 0)) from ⟨⟨by have:=(HF.out.trans F).cell (hcx 0 _ rfl) (fun h=>h);rwa[Nat.add_zero]at this,(HF.out.trans F).cell (hcx 1 _ rfl) (fun h=>h),(HF.out.trans F).cell (hcx 2 _ rfl) (fun h=>h),(HF.out.trans F).cell (hcx 3 _ rfl) (fun h=>h),(HF.out.trans F).cell (hcx 4 _ rfl) (fun h=>h),(HF.out.trans F).cell (hcx 5 _ rfl) (fun h=>h),(HF.out.trans F).cell (hcx 6 _ rfl) (fun h=>h)⟩,by have:=(HF.out.trans F).cell (hcy 0 _ rfl) (fun h=>h);rwa[Nat.add_zero]at this,(HF.out.trans F).cell (hcy 1 _ rfl) (fun h=>h),(HF.out.trans F).cell (hcy 2 _ rfl) (fun h=>h),(HF.out.trans F).cell (hcy 3 _ rfl) (fun h=>h),(HF.out.trans F).cell (hcy 4 _ rfl) (fun h=>h),(HF.out.trans F).cell (hcy 5 _ rfl) (fun h=>h),(HF.out.trans F).cell (hcy 6 _ rfl) (fun h=>h)⟩)
    obtain⟨rc,hrc⟩:∃ rc,rc=rowC x y:=⟨_,rfl⟩
    obtain⟨m,hm⟩:∃ m,m=likeR x y:=⟨_,rfl⟩
    have hfx:=HFL.out x (List.mem_of_getElem? hx);have hfy:=HFM.out y (List.mem_of_getElem? hy);have HAH:=Hi (fun W (F:Fz wr W)=>r22Ahead_any x y a1 b1 a2 b2 c1 d1 c2 d2 x.date x.reason (x.inv.getD 0) y.date y.reason (y.inv.getD 0) x.inv.isSome y.inv.isSome W (hn1.old (HF.out.trans F)) (hb1.old (HF.out.trans F)) (hn2.old (HF.out.trans F)) (hb2.old (HF.out.trans F)) hfx hfy);have HJU:=Hi (fun W=>r22Just_any x y a1 b1 a2 b2 c1 d1 c2 d2 W);rw[←hrc]at HAH hs
    rw[←hm]at HJU hs
    have HSS:=Hi hs;have p1:(0:Int)≤(j:Int):=by omega
    have p2:(j:Int)<(L.length:Int):=by omega
    have p3:(j:Int)<(M.length:Int):=by have:=HLE.out;omega
    have p4:j<M.length:=by have:=HLE.out;omega
    have GD:Fz wr wr.drew:=(Fr.refl wr).drew;clear hx hy hd1 hd2 hs hRx hRy hcx hcy hn1 hn2 hb1 hb2 hfx hfy hrc hm;by_cases h0:rc=0
    ·have z1:(rc==0)=true:=by rw[h0];rfl
     have z2:(rc != 0)=false:=by rw[h0];rfl
     have hs:=HSS.out;rw[decide_eq_true h0,Bool.true_and]at hs
     have HS2:=Hi hs;clear hs HSS h0;go_upto_region 6 with fail
     refine wp_region_N 22 (S:=fun w'=>(w'.cell? ⟨b,o+j*7,none⟩=some (.slice a1 x.iss.length c1)∧w'.cell? ⟨b,o+j*7+1,none⟩=some (.bool x.num.below)∧w'.cell? ⟨b,o+j*7+2,none⟩=some (.slice b1 x.num.size.length d1)∧w'.cell? ⟨b,o+j*7+3,none⟩=some (.int .i64 x.date)∧w'.cell? ⟨b,o+j*7+4,none⟩=some (.int .i64 x.reason)∧w'.cell? ⟨b,o+j*7+5,none⟩=some (.bool x.inv.isSome)∧w'.cell? ⟨b,o+j*7+6,none⟩=some (.int .i64 (x.inv.getD 0)))∧w'.cell? ⟨p,q+j*7,none⟩=some (.slice a2 y.iss.length c2)∧w'.cell? ⟨p,q+j*7+1,none⟩=some (.bool y.num.below)∧w'.cell? ⟨p,q+j*7+2,none⟩=some (.slice b2 y.num.size.length d2)∧w'.cell? ⟨p,q+j*7+3,none⟩=some (.int .i64 y.date)∧w'.cell? ⟨p,q+j*7+4,none⟩=some (.int .i64 y.reason)∧w'.cell? ⟨p,q+j*7+5,none⟩=some (.bool y.inv.isSome)∧w'.cell? ⟨p,q+j*7+6,none⟩=some (.int .i64 (y.inv.getD 0))) (by kernel_rfl) ?_ (fun hHeld=>?_)
     ·exact HSX.out _ GD
     refine tkN 0 rfl hHeld ?_;refine tkN 1 rfl hHeld ?_;refine tkN 2 rfl hHeld ?_;(try simp only[Act.put,SS]);refine tkN 3 rfl hHeld ?_;refine tkN 4 rfl hHeld ?_;refine tkN 5 rfl hHeld ?_;(try simp only[Act.put,SS]);refine tkN 6 rfl hHeld ?_;refine tkN 7 rfl hHeld ?_;(try simp only[Act.put,SS]);refine stN 8 (fun KK hKK=>?_);go_simp
     (go_at_call 40;(with_reducible refine(HAH.out _ GD).mono ?_);rintro e w8 ⟨rfl,F8⟩;have G8:=GD.trans F8;clear F8;go_wp2_with fail)
     refine hKK.out _ _ ?_ (fun hHeld=>?_)
     ·exact HSX.out _ G8
     clear hKK KK;(try simp only[Act.put,SS]);refine tkN 9 rfl hHeld ?_;refine tkN 10 rfl hHeld ?_;refine tkG 11 rfl hHeld ?_;(try simp only[Act.put,SK,SS]);refine tkG 12 rfl hHeld ?_;refine tkG 13 rfl hHeld ?_;refine tkG 14 rfl hHeld ?_;(try simp only[Act.put,SK,SS]);refine tkG 15 rfl hHeld ?_;refine tkG 16 rfl hHeld ?_;refine tkG 17 rfl hHeld ?_;(try simp only[Act.put,SK,SS]);refine tkG 18 rfl hHeld ?_;(try simp only[Act.put,SK,SS]);refine stN 19 (fun KK hKK=>?_);go_simp
     (go_at_call 52;(with_reducible refine(HJU.out _).mono ?_);rintro e w9 ⟨rfl,F9⟩;have G9:=G8.trans F9;clear F9;go_wp2_with fail)
     refine hKK.out _ _ ?_ (fun hHeld=>?_)
     ·exact HSX.out _ G9
     clear hKK KK;(try simp only[Act.put,SS]);refine tkG 20 rfl hHeld ?_;refine tkN 21 rfl hHeld ?_;(try simp only[Act.put,SK,SS]);refine wpAnyN_done (by kernel_rfl) ?_ _;clear hHeld;have HF9:=Hi (HF.out.trans G9);clear GD G8 G9;cases m with
     |true=>
      have HS3:=Hi (show refSame (L.drop (j+1)) (M.drop (j+1))=r from by have:=HS2.out;rwa[Bool.true_and]at this);go_wp2_with fail
      go_roundg (L.length-(j+1))
      case measure=>rw[HG.out];omega
      case rel=>exact⟨j+1,rfl,by omega,by go_num,HS3,HF9⟩
     |false=>
      have hr:r=false:=by have:=HS2.out;rw[Bool.false_and]at this;exact this.symm
      subst hr;go_wp2_with fail
      go_ret;exact⟨rfl,HF9.out⟩
    ·have z1:(rc==0)=false:=beq_eq_false_iff_ne.2 h0
     have z2:(rc != 0)=true:=by rw[bne,z1];rfl
     have hr:r=false:=by have:=HSS.out;rw[decide_eq_false h0,Bool.false_and]at this;exact this.symm
     subst hr;clear h0 HSS HJU;go_upto_region 6 with fail
     refine wp_region_N 22 (S:=fun w'=>(w'.cell? ⟨b,o+j*7,none⟩=some (.slice a1 x.iss.length c1)∧w'.cell? ⟨b,o+j*7+1,none⟩=some (.bool x.num.below)∧w'.cell? ⟨b,o+j*7+2,none⟩=some (.slice b1 x.num.size.length d1)∧w'.cell? ⟨b,o+j*7+3,none⟩=some (.int .i64 x.date)∧w'.cell? ⟨b,o+j*7+4,none⟩=some (.int .i64 x.reason)∧w'.cell? ⟨b,o+j*7+5,none⟩=some (.bool x.inv.isSome)∧w'.cell? ⟨b,o+j*7+6,none⟩=some (.int .i64 (x.inv.getD 0)))∧w'.cell? ⟨p,q+j*7,none⟩=some (.slice a2 y.iss.length c2)∧w'.cell? ⟨p,q+j*7+1,none⟩=some (.bool y.num.below)∧w'.cell? ⟨p,q+j*7+2,none⟩=some (.slice b2 y.num.size.length d2)∧w'.cell? ⟨p,q+j*7+3,none⟩=some (.int .i64 y.date)∧w'.cell? ⟨p,q+j*7+4,none⟩=some (.int .i64 y.reason)∧w'.cell? ⟨p,q+j*7+5,none⟩=some (.bool y.inv.isSome)∧w'.cell? ⟨p,q+j*7+6,none⟩=some (.int .i64 (y.inv.getD 0))) (by kernel_rfl) ?_ (fun hHeld=>?_)
     ·exact HSX.out _ GD
     refine tkN 0 rfl hHeld ?_;refine tkN 1 rfl hHeld ?_;refine tkN 2 rfl hHeld ?_;(try simp only[Act.put,SS]);refine tkN 3 rfl hHeld ?_;refine tkN 4 rfl hHeld ?_;refine tkN 5 rfl hHeld ?_;(try simp only[Act.put,SS]);refine tkN 6 rfl hHeld ?_;refine tkN 7 rfl hHeld ?_;(try simp only[Act.put,SS]);refine stN 8 (fun KK hKK=>?_);go_simp
     (go_at_call 40;(with_reducible refine(HAH.out _ GD).mono ?_);rintro e w8 ⟨rfl,F8⟩;have G8:=GD.trans F8;clear F8;go_wp2_with fail)
     refine hKK.out _ _ ?_ (fun hHeld=>?_)
     ·exact HSX.out _ G8
     clear hKK KK;(try simp only[Act.put,SS]);refine tkN 9 rfl hHeld ?_;refine tkN 10 rfl hHeld ?_;refine tkS 11 rfl hHeld ?_;(try simp only[Act.put,SK,SS]);refine tkS 12 rfl hHeld ?_;refine tkS 13 rfl hHeld ?_;refine tkS 14 rfl hHeld ?_;(try simp only[Act.put,SK,SS]);refine tkS 15 rfl hHeld ?_;refine tkS 16 rfl hHeld ?_;refine tkS 17 rfl hHeld ?_;(try simp only[Act.put,SK,SS]);refine tkS 18 rfl hHeld ?_;refine tkS 19 rfl hHeld ?_;refine tkS 20 rfl hHeld ?_;(try simp only[Act.put,SK,SS]);refine tkN 21 rfl hHeld ?_;(try simp only[Act.put,SK,SS]);refine wpAnyN_done (by kernel_rfl) ?_ _;clear hHeld
     have HF9:=Hi (HF.out.trans G8);clear GD G8;go_wp2_with fail
     go_ret;exact⟨rfl,HF9.out⟩
   ·have p2:¬(j:Int)<(L.length:Int):=by omega
    have hr:r=true:=by
     have:=HS.out;rw[List.drop_eq_nil_of_le (by omega),List.drop_eq_nil_of_le (by have:=HLE.out;omega)]at this
     exact this.symm
    subst hr;go_wp2_with fail
    go_ret;exact⟨rfl,HF.out⟩
 ·have k1:((L.length:Int)==(M.length:Int))=false:=beq_eq_false_iff_ne.2 (by omega)
  have k2:((L.length:Int) != (M.length:Int))=true:=by rw[bne,k1];rfl
  have hr:r=false:=by
   rw[←HR.out]
   exact refSame_len hlen
  subst hr;go_enter Tryz.func23,Tryz.ntmps23
  go_wp2_with fail
  go_ret;exact⟨rfl,Fr.refl _⟩
end Go.Proofs.YtehlipgmkinfbaaGreatDoor
