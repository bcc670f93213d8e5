/-
  Merged by program: XIxSame XIxDelta.
-/
import Derived.Test.YtehlipgmkinfbaaGreatDoorU0at
import Derived.Test.YtehlipgmkinfbaaGreatDoorU0au
import Derived.Sort.QuietTacIn
import Derived.Sort.CutIn
import Derived.Shelf.RegionOpen
set_option linter.unusedSimpArgs false
set_option maxRecDepth 100000
set_option maxHeartbeats 8000000
namespace Go.Proofs.YtehlipgmkinfbaaGreatDoor
open Go Go.RowKit Go.Q
attribute [local go_sem] Oper.semAt_some
theorem six_of {l:List Value}(h:l.length=6):∃ a b c d e f,l=[a,b,c,d,e,f]:=by
 match l,h with
 | [a,b,c,d,e,f],_=>exact ⟨a,b,c,d,e,f,rfl⟩
theorem ixSame_any (va vb:Value) (L M:List RowP) (w:World) (ha:IxAt w va L) (hb:IxAt w vb M) (hsL:∀ r∈L,r.num.size.length≤1000000) (hsM:∀ r∈M,r.num.size.length≤1000000) :
  Calls Tryz.prog 22 #[va,vb] w fun e w'=>e=.returned (.bool (sameS L M))∧Fr (fun _=>False) w w':=by
 obtain ⟨aL,cL,ha⟩:=ha.sl;obtain ⟨aM,cM,hb⟩:=hb.sl;obtain ⟨z,hz⟩:∃ z,z=w.heap.size:=⟨_,rfl⟩
 have HZ:=Hi hz;have F0:Fr (fun _=>False) w (w.alloc (.cells #[.bool false] 4)):=(Fr.refl w).alloc _
 have BZ:=Blk.new w 4 #[.bool false];rw [←hz] at BZ;have HSD:=Hi (side_any va vb aL aM cL cM L M w _ F0 ha hb hsL hsM);have HSL:=Hi ha.slots;have HSM:=Hi hb.slots;have HF0:=Hi F0;have h3:∃ p,va=.pointer p:=by
  rcases ha with ⟨rfl,-⟩ | ⟨b,rfl,-⟩
  ·exact ⟨_,rfl⟩
  ·exact ⟨_,rfl⟩
 have h4:∃ p,vb=.pointer p:=by
  rcases hb with ⟨rfl,-⟩ | ⟨b,rfl,-⟩
  ·exact ⟨_,rfl⟩
  ·exact ⟨_,rfl⟩
 have HEQ:Hid (sameS L M=(sideR L M).all sameP):=Hi rfl
 clear ha hb hsL hsM F0 h3 h4 hz;refine (callsIn_wide (n:=3)).1 ?_
 refine callsIn_of_wp_marks Tryz.func22 rfl trivial ?_ rfl
 simp only [Tryz.ntmps22,List.size_toArray,List.length_cons,List.length_nil,Nat.reduceAdd,Nat.reduceSub,Array.replicate_succ,Array.replicate_zero,List.push_toArray,List.append_toArray,List.nil_append,List.cons_append];gi_upto_region 1 with fail
 rw [←HZ.out];generalize (w.alloc (.cells #[.bool false] 4))=w0 at *
 gi_wp2_with (refine ⟨trivial,?_⟩;gi_at_call 49;refine (callsIn_wide.2 HSD.out).mono ?_;rintro e w2 ⟨⟨ba,bb,rfl,h1,h2,h3,h4,hit⟩,F2⟩)
 have lz:=BZ.lt;have BZ2:=BZ.fr F2 (fun h=>h);have HF2:=Hi (HF0.out.trans F2);have HBA:=Hi (show z<ba∧z<bb∧ba<w2.heap.size∧bb<w2.heap.size from ⟨by omega,by omega,h3,h4⟩);have HIT:=Hi hit;clear HSD hit h1 h2 h3 h4 F2 BZ lz;refine range_lawW (gf:=81) (lb:=#[pt ba,pt bb]) rfl (enters_of Tryz.func81 (by kernel_rfl) rfl) (C:=fun k=>k=ba∨k=bb) (base:=w.heap.size) (fun k hk=>by have:=HBA.out;rcases hk with hk | hk<;>omega) HF2.out.size HIT.out rfl
  (fun pre W=>Blk W z 4 #[.bool false]∧Fr (fun _=>False) w W∧((sideR L M).take pre.length).all sameP=true)
  (fun c pre W=>c=.ret∧Blk W z 4 #[.bool false]∧Fr (fun _=>False) w W∧sameS L M=false)
  (fun s A B h f=>⟨h.1.fr f (by have:=HBA.out;omega),h.2.1.trans' f (fun i hi e=>by have:=HBA.out;have:=HZ.out;have:=HF2.out.size;omega),h.2.2⟩)
  (fun c s A B h f=>⟨h.1,h.2.1.fr f (by have:=HBA.out;omega),h.2.2.1.trans' f (fun i hi e=>by have:=HBA.out;have:=HZ.out;have:=HF2.out.size;omega),h.2.2.2⟩)
  ⟨BZ2,HF2.out,by simp⟩
  (fun x W=>{ tmps:=#[va,vb,undef,undef,.pointer (some ⟨z,0,none⟩),.pointer (some ⟨W.heap.size,0,none⟩),va,vb,.func (.func 81) #[] #[pt ba,pt bb],x,undef,undef,undef,undef,undef,undef,undef,undef,undef,undef,undef,undef,undef,undef,undef,undef,undef,undef,undef,undef,undef,undef],defers:=[] }) (fun x W=>W.alloc (.cells x.cells 95)) (fun x W=>(Fr.refl W).alloc _) ?assign ?body ?done ?stop
 case assign=>
  intro l pre x rest W K hx hK
  obtain ⟨p,q,rfl⟩:=pair_form hx;gi_wp2
  exact hK
 case body=>
  rintro l pre x rest W W2 hx ⟨BZ,F,hall⟩ hE F2
  obtain ⟨p,hp1,rfl,hp2,hcase⟩:=pair_at hx;obtain ⟨y,hy⟩:∃ y,y=W.heap.size:=⟨_,rfl⟩
  have HY:=Hi hy;have FA:Fr (fun _=>False) W (W.alloc (.cells (pairV aL aM p).cells 95)):=(Fr.refl W).alloc _
  have BY:Blk W2 W.heap.size 95 (pairV aL aM p).cells:=(Blk.new W 95 _).fr F2 (by omega)
  have hz2:=HF2.out.size;have FW2:Fr (fun _=>False) w W2:=(F.trans FA).trans' F2 (fun i hi e=>by have e2:i=w2.heap.size+1:=e;omega)
  have BZ2:Blk W2 z 4 #[.bool false]:=(BZ.fr FA (fun h=>h)).fr F2 (by have:=HBA.out;omega)
  have hmem:=List.mem_of_getElem? hp2;have HMEM:=Hi hmem;have HTK:=Hi (take_more hp2);have HALL:=Hi hall;have HPL:=Hi (show (pre++[pairV aL aM p]).length=pre.length+1 by rw [List.length_append];rfl);have HFP:Hid (sameP (atP L M p)=false→sameS L M=false):=Hi (fun h=>by rw [HEQ.out,List.all_eq_false];exact ⟨_,HMEM.out,by rw [h];simp⟩)
  rw [←hy] at BY ⊢;clear hx hp2 hmem hall F FA F2 hz2 hE HIT hy;rcases hcase with ⟨i,r,rfl,hi⟩ | ⟨j,s,rfl,hj⟩ | ⟨i,j,r,s,rfl,hi,hj⟩
  ·obtain ⟨b,o,us,haL,-⟩:=slot_row HSL.out hi
   have HFS:=Hi (HFP.out (by simp [atP,hi,sameP]));rw [pairV_l haL] at BY ⊢;clear hi haL HFP HALL HTK hp1;simp only [Value.cells] at BY;have p0:=BY.drew.cell 0;have p1:=BY.drew.cell 1;simp only [SG] at p0 p1;have HB2:=Hi BZ2.drew;have HG:=Hi (FW2.drew (S:=fun _=>False));have z0:=HB2.out.cell 0;have f0:=HB2.out.frozen 0;simp only [SG] at z0;clear BZ BZ2 BY FW2;gi_upto_region 3 with fail
   refine wpIn_region_N 22 (S:=fun w'=>w'.cell? ⟨y,0,none⟩=some (.pointer (some ⟨b,o+i*7,none⟩))∧w'.cell? ⟨y,1,none⟩=some (.pointer none)) (by kernel_rfl) (by kernel_rfl) (by rintro ⟨a,w,h⟩;exact h) ?_ (fun hHeld=>?_)
   ·exact ⟨p0,p1⟩
   refine tkN (i:=0) rfl hHeld ?_
   (try simp only [Act.put,SS])
   refine tkN (i:=1) rfl hHeld ?_
   (try simp only [Act.put,SS])
   refine tkN (i:=2) rfl hHeld ?_
   (try simp only [Act.put,SS])
   refine tkN (i:=3) rfl hHeld ?_
   (try simp only [Act.put,SS])
   refine tkN (i:=4) rfl hHeld ?_
   (try simp only [Act.put,SS])
   refine tkN (i:=5) rfl hHeld ?_
   (try simp only [Act.put,SS])
   refine tkN (i:=6) rfl hHeld ?_
   (try simp only [Act.put,SS])
   refine tkN (i:=7) rfl hHeld ?_
   (try simp only [Act.put,SS])
   refine tkN (i:=8) rfl hHeld ?_
   (try simp only [Act.put,SS])
   refine tkS (i:=9) rfl hHeld ?_
   (try simp only [Act.put,SK,SS])
   refine tkS (i:=10) rfl hHeld ?_
   (try simp only [Act.put,SK,SS])
   refine tkS (i:=11) rfl hHeld ?_
   (try simp only [Act.put,SK,SS])
   refine tkS (i:=12) rfl hHeld ?_
   (try simp only [Act.put,SK,SS])
   refine tkS (i:=13) rfl hHeld ?_
   (try simp only [Act.put,SK,SS])
   refine tkS (i:=14) rfl hHeld ?_
   (try simp only [Act.put,SK,SS])
   refine tkS (i:=15) rfl hHeld ?_
   (try simp only [Act.put,SK,SS])
   refine tkS (i:=16) rfl hHeld ?_
   (try simp only [Act.put,SK,SS])
   refine tkS (i:=17) rfl hHeld ?_
   (try simp only [Act.put,SK,SS])
   refine tkS (i:=18) rfl hHeld ?_
   (try simp only [Act.put,SK,SS])
   refine tkS (i:=19) rfl hHeld ?_
   (try simp only [Act.put,SK,SS])
   refine tkS (i:=20) rfl hHeld ?_
   (try simp only [Act.put,SK,SS])
   refine tkN (i:=21) rfl hHeld ?_
   (try simp only [Act.put,SS])
   refine wpAnyN_done (by kernel_rfl) ?_ _
   gi_wp2
   have F4:Fr (fun k=>k=z) W2.drew (W2.drew.setCell ⟨z,0,none⟩ (.bool false)):=Fr.setCell (S:=fun k=>k=z) (p:=⟨z,0,none⟩) (Fr.refl _) (fun _=>rfl) _
   have B4:=HB2.out.set 0 (.bool false);simp at B4
   exact ⟨((Fr.refl W2).drew).trans (F4.mono (fun k _ e=>by have:=HBA.out;have:=HZ.out;have e2:k=z:=e;exact ⟨by omega,by omega,by omega,by omega⟩)),rfl,B4,HG.out.trans' F4 (fun i hi e=>by have e2:i=z:=e;have:=HZ.out;omega),HFS.out⟩
  ·obtain ⟨b,o,us,haM,-⟩:=slot_row HSM.out hj
   have HFS:=Hi (HFP.out (by simp [atP,hj,sameP]));rw [pairV_r haM] at BY ⊢;clear hj haM HFP HALL HTK hp1;simp only [Value.cells] at BY;have p0:=BY.drew.cell 0;have p1:=BY.drew.cell 1;simp only [SG] at p0 p1;have HB2:=Hi BZ2.drew;have HG:=Hi (FW2.drew (S:=fun _=>False));have z0:=HB2.out.cell 0;have f0:=HB2.out.frozen 0;simp only [SG] at z0;clear BZ BZ2 BY FW2;gi_upto_region 3 with fail
   refine wpIn_region_N 22 (S:=fun w'=>w'.cell? ⟨y,0,none⟩=some (.pointer none)∧w'.cell? ⟨y,1,none⟩=some (.pointer (some ⟨b,o+j*7,none⟩))) (by kernel_rfl) (by kernel_rfl) (by rintro ⟨a,w,h⟩;exact h) ?_ (fun hHeld=>?_)
   ·exact ⟨p0,p1⟩
   refine tkN (i:=0) rfl hHeld ?_
   (try simp only [Act.put,SS])
   refine tkN (i:=1) rfl hHeld ?_
   (try simp only [Act.put,SS])
   refine tkN (i:=2) rfl hHeld ?_
   (try simp only [Act.put,SS])
   refine tkN (i:=3) rfl hHeld ?_
   (try simp only [Act.put,SS])
   refine tkS (i:=4) rfl hHeld ?_
   (try simp only [Act.put,SK,SS])
   refine tkS (i:=5) rfl hHeld ?_
   (try simp only [Act.put,SK,SS])
   refine tkS (i:=6) rfl hHeld ?_
   (try simp only [Act.put,SK,SS])
   refine tkN (i:=7) rfl hHeld ?_
   (try simp only [Act.put,SS])
   refine tkN (i:=8) rfl hHeld ?_
   (try simp only [Act.put,SS])
   refine tkS (i:=9) rfl hHeld ?_
   (try simp only [Act.put,SK,SS])
   refine tkS (i:=10) rfl hHeld ?_
   (try simp only [Act.put,SK,SS])
   refine tkS (i:=11) rfl hHeld ?_
   (try simp only [Act.put,SK,SS])
   refine tkS (i:=12) rfl hHeld ?_
   (try simp only [Act.put,SK,SS])
   refine tkS (i:=13) rfl hHeld ?_
   (try simp only [Act.put,SK,SS])
   refine tkS (i:=14) rfl hHeld ?_
   (try simp only [Act.put,SK,SS])
   refine tkS (i:=15) rfl hHeld ?_
   (try simp only [Act.put,SK,SS])
   refine tkS (i:=16) rfl hHeld ?_
   (try simp only [Act.put,SK,SS])
   refine tkS (i:=17) rfl hHeld ?_
   (try simp only [Act.put,SK,SS])
   refine tkS (i:=18) rfl hHeld ?_
   (try simp only [Act.put,SK,SS])
   refine tkS (i:=19) rfl hHeld ?_
   (try simp only [Act.put,SK,SS])
   refine tkS (i:=20) rfl hHeld ?_
   (try simp only [Act.put,SK,SS])
   refine tkN (i:=21) rfl hHeld ?_
   (try simp only [Act.put,SS])
   refine wpAnyN_done (by kernel_rfl) ?_ _
   gi_wp2
   have F4:Fr (fun k=>k=z) W2.drew (W2.drew.setCell ⟨z,0,none⟩ (.bool false)):=Fr.setCell (S:=fun k=>k=z) (p:=⟨z,0,none⟩) (Fr.refl _) (fun _=>rfl) _
   have B4:=HB2.out.set 0 (.bool false);simp at B4
   exact ⟨((Fr.refl W2).drew).trans (F4.mono (fun k _ e=>by have:=HBA.out;have:=HZ.out;have e2:k=z:=e;exact ⟨by omega,by omega,by omega,by omega⟩)),rfl,B4,HG.out.trans' F4 (fun i hi e=>by have e2:i=z:=e;have:=HZ.out;omega),HFS.out⟩
  ·obtain ⟨b,o,us,haL,hus,hRx,-,-,hcx⟩:=slot_row HSL.out hi
   obtain ⟨b',o',vs,haM,hvs,hRy,-,-,hcy⟩:=slot_row HSM.out hj;have hat:atP L M (some i,some j)=(some r,some s):=by simp [atP,hi,hj]
   rw [hat] at HFP HTK;obtain ⟨m,hm⟩:∃ m,m=likeR r s:=⟨_,rfl⟩
   have HFP2:Hid (m=false→sameS L M=false):=Hi (fun h=>HFP.out (by simp only [sameP];rw [←hm];exact h))
   have HTK2:Hid (m=true→((sideR L M).take (pre.length+1)).all sameP=true):=Hi (fun h=>by rw [HTK.out,List.all_append,HALL.out];simp [sameP,←hm,h])
   rw [pairV_b haL haM] at BY ⊢;simp only [Value.cells] at BY;obtain ⟨u0,u1,u2,u3,u4,u5,rfl⟩:=six_of hus;obtain ⟨v0,v1,v2,v3,v4,v5,rfl⟩:=six_of hvs;have HLK:=Hi (like_any _ _ r s W2.drew (RRow.old _ _ _ _ hRx FW2.drew) (RRow.old _ _ _ _ hRy FW2.drew));rw [←hm] at HLK;have HFW:=Hi (FW2.drew (S:=fun _=>False));have x0:=HFW.out.cell (hcx 0 _ rfl) (fun h=>h);have x1:=HFW.out.cell (hcx 1 _ rfl) (fun h=>h);have x2:=HFW.out.cell (hcx 2 _ rfl) (fun h=>h);have x3:=HFW.out.cell (hcx 3 _ rfl) (fun h=>h);have x4:=HFW.out.cell (hcx 4 _ rfl) (fun h=>h);have x5:=HFW.out.cell (hcx 5 _ rfl) (fun h=>h)
   have y0:=HFW.out.cell (hcy 0 _ rfl) (fun h=>h);have y1:=HFW.out.cell (hcy 1 _ rfl) (fun h=>h);have y2:=HFW.out.cell (hcy 2 _ rfl) (fun h=>h);have y3:=HFW.out.cell (hcy 3 _ rfl) (fun h=>h);have y4:=HFW.out.cell (hcy 4 _ rfl) (fun h=>h);have y5:=HFW.out.cell (hcy 5 _ rfl) (fun h=>h);simp only [Nat.add_zero] at x0 y0;have p0:=BY.drew.cell 0;have p1:=BY.drew.cell 1;simp only [SG] at p0 p1;have HB2:=Hi BZ2.drew
   have HKE:=Hi (fun W (F:Fr (fun _=>False) W2.drew W)=>show (W.cell? ⟨y,0,none⟩=some (.pointer (some ⟨b,o+i*7,none⟩))∧W.cell? ⟨y,1,none⟩=some (.pointer (some ⟨b',o'+j*7,none⟩)))∧(W.cell? ⟨b,o+i*7+1,none⟩=some u0∧W.cell? ⟨b,o+i*7+1+1,none⟩=some u1∧W.cell? ⟨b,o+i*7+1+2,none⟩=some u2∧W.cell? ⟨b,o+i*7+1+3,none⟩=some u3∧W.cell? ⟨b,o+i*7+1+4,none⟩=some u4∧W.cell? ⟨b,o+i*7+1+5,none⟩=some u5)∧W.cell? ⟨b',o'+j*7+1,none⟩=some v0∧W.cell? ⟨b',o'+j*7+1+1,none⟩=some v1∧W.cell? ⟨b',o'+j*7+1+2,none⟩=some v2∧W.cell? ⟨b',o'+j*7+1+3,none⟩=some v3∧W.cell? ⟨b',o'+j*7+1+4,none⟩=some v4∧W.cell? ⟨b',o'+j*7+1+5,none⟩=some v5 from ⟨⟨F.cell p0 (fun h=>h),F.cell p1 (fun h=>h)⟩,⟨F.cell x0 (fun h=>h),F.cell x1 (fun h=>h),F.cell x2 (fun h=>h),F.cell x3 (fun h=>h),F.cell x4 (fun h=>h),F.cell x5 (fun h=>h)⟩,F.cell y0 (fun h=>h),F.cell y1 (fun h=>h),F.cell y2 (fun h=>h),F.cell y3 (fun h=>h),F.cell y4 (fun h=>h),F.cell y5 (fun h=>h)⟩)
   clear BZ BZ2 BY FW2 hm hat HFP HTK HALL hRx hRy hcx hcy hus hvs hi hj hp1 haL haM;gi_upto_region 3 with fail
   cases m with
   | false=>
    refine wpIn_region_N 22 (S:=fun w'=>(w'.cell? ⟨y,0,none⟩=some (.pointer (some ⟨b,o+i*7,none⟩))∧w'.cell? ⟨y,1,none⟩=some (.pointer (some ⟨b',o'+j*7,none⟩)))∧(w'.cell? ⟨b,o+i*7+1,none⟩=some u0∧w'.cell? ⟨b,o+i*7+1+1,none⟩=some u1∧w'.cell? ⟨b,o+i*7+1+2,none⟩=some u2∧w'.cell? ⟨b,o+i*7+1+3,none⟩=some u3∧w'.cell? ⟨b,o+i*7+1+4,none⟩=some u4∧w'.cell? ⟨b,o+i*7+1+5,none⟩=some u5)∧w'.cell? ⟨b',o'+j*7+1,none⟩=some v0∧w'.cell? ⟨b',o'+j*7+1+1,none⟩=some v1∧w'.cell? ⟨b',o'+j*7+1+2,none⟩=some v2∧w'.cell? ⟨b',o'+j*7+1+3,none⟩=some v3∧w'.cell? ⟨b',o'+j*7+1+4,none⟩=some v4∧w'.cell? ⟨b',o'+j*7+1+5,none⟩=some v5) (by kernel_rfl) (by kernel_rfl) (by rintro ⟨a,w,h⟩;exact h) ?_ (fun hHeld=>?_)
    ·exact ⟨⟨p0,p1⟩,⟨x0,x1,x2,x3,x4,x5⟩,y0,y1,y2,y3,y4,y5⟩
    refine tkN (i:=0) rfl hHeld ?_
    (try simp only [Act.put,SS])
    refine tkN (i:=1) rfl hHeld ?_
    (try simp only [Act.put,SS])
    refine tkN (i:=2) rfl hHeld ?_
    (try simp only [Act.put,SS])
    refine tkN (i:=3) rfl hHeld ?_
    (try simp only [Act.put,SS])
    refine tkN (i:=4) rfl hHeld ?_
    (try simp only [Act.put,SS])
    refine tkN (i:=5) rfl hHeld ?_
    (try simp only [Act.put,SS])
    refine tkN (i:=6) rfl hHeld ?_
    (try simp only [Act.put,SS])
    refine tkN (i:=7) rfl hHeld ?_
    (try simp only [Act.put,SS])
    refine tkN (i:=8) rfl hHeld ?_
    (try simp only [Act.put,SS])
    refine tkG (i:=9) rfl hHeld ?_
    (try simp only [Act.put,SK,SS])
    refine tkG (i:=10) rfl hHeld ?_
    (try simp only [Act.put,SK,SS])
    refine tkG (i:=11) rfl hHeld ?_
    (try simp only [Act.put,SK,SS])
    refine tkG (i:=12) rfl hHeld ?_
    (try simp only [Act.put,SK,SS])
    refine tkG (i:=13) rfl hHeld ?_
    (try simp only [Act.put,SK,SS])
    refine tkG (i:=14) rfl hHeld ?_
    (try simp only [Act.put,SK,SS])
    refine tkG (i:=15) rfl hHeld ?_
    (try simp only [Act.put,SK,SS])
    refine tkG (i:=16) rfl hHeld ?_
    (try simp only [Act.put,SK,SS])
    refine tkG (i:=17) rfl hHeld ?_
    (try simp only [Act.put,SK,SS])
    refine tkG (i:=18) rfl hHeld ?_
    (try simp only [Act.put,SK,SS])
    refine wpAnyN_step (i:=19) (by kernel_rfl) (o:=_) rfl (fun KK hKK=>?_)
    go_simp
    (go_at_call 51;(with_reducible refine HLK.out.mono ?_);rintro e W3 ⟨rfl,F3⟩;go_wp2_with fail)
    refine hKK.out _ _ ?_ (fun hHeld=>?_)
    ·exact HKE.out _ F3
    clear hKK KK
    (try simp only [Act.put,SS])
    refine tkG (i:=20) rfl hHeld ?_
    (try simp only [Act.put,SK,SS])
    refine tkN (i:=21) rfl hHeld ?_
    (try simp only [Act.put,SS])
    refine wpAnyN_done (by kernel_rfl) ?_ _
    have B3:=HB2.out.fr F3 (fun h=>h);have z0:=B3.cell 0;have f0:=B3.frozen 0;simp only [SG] at z0;have HG:=Hi (HFW.out.trans F3);have HF3:=Hi F3;have HB3:=Hi B3;clear x0 x1 x2 x3 x4 x5 y0 y1 y2 y3 y4 y5 p0 p1 B3 F3;gi_wp2
    have F4:Fr (fun k=>k=z) W3 (W3.setCell ⟨z,0,none⟩ (.bool false)):=Fr.setCell (S:=fun k=>k=z) (p:=⟨z,0,none⟩) (Fr.refl _) (fun _=>rfl) _
    have B4:=HB3.out.set 0 (.bool false);simp at B4
    exact ⟨((((Fr.refl W2).drew:Fr (fun _=>False) W2 W2.drew).trans HF3.out).mono (fun _ _ h=>h.elim)).trans (F4.mono (fun k _ e=>by have:=HBA.out;have:=HZ.out;have e2:k=z:=e;exact ⟨by omega,by omega,by omega,by omega⟩)),rfl,B4,HG.out.trans' F4 (fun i hi e=>by have e2:i=z:=e;have:=HZ.out;omega),HFP2.out (by first | rfl | trivial)⟩
   | true=>
    refine wpIn_region_N 22 (S:=fun w'=>(w'.cell? ⟨y,0,none⟩=some (.pointer (some ⟨b,o+i*7,none⟩))∧w'.cell? ⟨y,1,none⟩=some (.pointer (some ⟨b',o'+j*7,none⟩)))∧(w'.cell? ⟨b,o+i*7+1,none⟩=some u0∧w'.cell? ⟨b,o+i*7+1+1,none⟩=some u1∧w'.cell? ⟨b,o+i*7+1+2,none⟩=some u2∧w'.cell? ⟨b,o+i*7+1+3,none⟩=some u3∧w'.cell? ⟨b,o+i*7+1+4,none⟩=some u4∧w'.cell? ⟨b,o+i*7+1+5,none⟩=some u5)∧w'.cell? ⟨b',o'+j*7+1,none⟩=some v0∧w'.cell? ⟨b',o'+j*7+1+1,none⟩=some v1∧w'.cell? ⟨b',o'+j*7+1+2,none⟩=some v2∧w'.cell? ⟨b',o'+j*7+1+3,none⟩=some v3∧w'.cell? ⟨b',o'+j*7+1+4,none⟩=some v4∧w'.cell? ⟨b',o'+j*7+1+5,none⟩=some v5) (by kernel_rfl) (by kernel_rfl) (by rintro ⟨a,w,h⟩;exact h) ?_ (fun hHeld=>?_)
    ·exact ⟨⟨p0,p1⟩,⟨x0,x1,x2,x3,x4,x5⟩,y0,y1,y2,y3,y4,y5⟩
    refine tkN (i:=0) rfl hHeld ?_
    (try simp only [Act.put,SS])
    refine tkN (i:=1) rfl hHeld ?_
    (try simp only [Act.put,SS])
    refine tkN (i:=2) rfl hHeld ?_
    (try simp only [Act.put,SS])
    refine tkN (i:=3) rfl hHeld ?_
    (try simp only [Act.put,SS])
    refine tkN (i:=4) rfl hHeld ?_
    (try simp only [Act.put,SS])
    refine tkN (i:=5) rfl hHeld ?_
    (try simp only [Act.put,SS])
    refine tkN (i:=6) rfl hHeld ?_
    (try simp only [Act.put,SS])
    refine tkN (i:=7) rfl hHeld ?_
    (try simp only [Act.put,SS])
    refine tkN (i:=8) rfl hHeld ?_
    (try simp only [Act.put,SS])
    refine tkG (i:=9) rfl hHeld ?_
    (try simp only [Act.put,SK,SS])
    refine tkG (i:=10) rfl hHeld ?_
    (try simp only [Act.put,SK,SS])
    refine tkG (i:=11) rfl hHeld ?_
    (try simp only [Act.put,SK,SS])
    refine tkG (i:=12) rfl hHeld ?_
    (try simp only [Act.put,SK,SS])
    refine tkG (i:=13) rfl hHeld ?_
    (try simp only [Act.put,SK,SS])
    refine tkG (i:=14) rfl hHeld ?_
    (try simp only [Act.put,SK,SS])
    refine tkG (i:=15) rfl hHeld ?_
    (try simp only [Act.put,SK,SS])
    refine tkG (i:=16) rfl hHeld ?_
    (try simp only [Act.put,SK,SS])
    refine tkG (i:=17) rfl hHeld ?_
    (try simp only [Act.put,SK,SS])
    refine tkG (i:=18) rfl hHeld ?_
    (try simp only [Act.put,SK,SS])
    refine wpAnyN_step (i:=19) (by kernel_rfl) (o:=_) rfl (fun KK hKK=>?_)
    go_simp
    (go_at_call 51;(with_reducible refine HLK.out.mono ?_);rintro e W3 ⟨rfl,F3⟩;go_wp2_with fail)
    refine hKK.out _ _ ?_ (fun hHeld=>?_)
    ·exact HKE.out _ F3
    clear hKK KK
    (try simp only [Act.put,SS])
    refine tkG (i:=20) rfl hHeld ?_
    (try simp only [Act.put,SK,SS])
    refine tkN (i:=21) rfl hHeld ?_
    (try simp only [Act.put,SS])
    refine wpAnyN_done (by kernel_rfl) ?_ _
    have B3:=HB2.out.fr F3 (fun h=>h);have HG:=Hi (HFW.out.trans F3);have HF3:=Hi F3;have HB3:=Hi B3;clear x0 x1 x2 x3 x4 x5 y0 y1 y2 y3 y4 y5 p0 p1 B3 F3;gi_wp2
    exact ⟨(((Fr.refl W2).drew:Fr (fun _=>False) W2 W2.drew).trans HF3.out).mono (fun _ _ h=>h.elim),HB3.out,HG.out,by rw [List.length_append];exact HTK2.out (by first | rfl | trivial)⟩
 case done=>
  rintro D W hD ⟨BR,F,hall⟩ hK
  have hr:sameS L M=true:=by
   rw [pairsV_len,List.take_length] at hall;rw [HEQ.out];exact hall
  have HRR:=Hi hr;have r0:=BR.cell 0;have f0:=BR.frozen 0;simp at r0
  have F4:Fr (fun k=>k=z) W (W.setCell ⟨z,0,none⟩ (.bool true)):=Fr.setCell (S:=fun k=>k=z) (p:=⟨z,0,none⟩) (Fr.refl W) (fun _=>rfl) _
  have B4:=BR.set 0 (.bool true);simp at B4
  have hzd:D≠z:=by have:=HBA.out;omega
  have hdw:w.heap.size≤D:=by have:=HF2.out.size;omega
  have hK4:=(F4.block D (Array.getElem?_eq_some_iff.1 hK).1 hzd).trans hK;have F5:Fr (fun k=>k=D) (W.setCell ⟨z,0,none⟩ (.bool true)) ((W.setCell ⟨z,0,none⟩ (.bool true)).putObj D (.deferred none)):=Fr.putObj (S:=fun k=>k=D) (Fr.refl _) D (fun _=>rfl) _
  have r5:=(B4.fr F5 (fun e=>hzd e.symm)).cell 0;simp at r5
  clear hr HIT hall;gi_wp2
  refine ⟨by simp,.inl ⟨_,_,rfl,run_takeDeferred hK4,?_⟩⟩
  exact ⟨.bool true,by simp [results,Tryz.results22,go_sem,r5],by rw [HRR.out],(F.trans' F4 (fun i hi e=>by have e2:i=z:=e;have:=HZ.out;omega)).trans' F5 (fun i hi e=>by have e2:i=D:=e;omega)⟩
 case stop=>
  rintro D c pre W hD hpre ⟨rfl,BR,F,hr⟩ hK
  have HRR:=Hi hr;have r0:=BR.cell 0;simp at r0
  have hzd:D≠z:=by have:=HBA.out;omega
  have hdw:w.heap.size≤D:=by have:=HF2.out.size;omega
  have F5:Fr (fun k=>k=D) W (W.putObj D (.deferred none)):=Fr.putObj (S:=fun k=>k=D) (Fr.refl _) D (fun _=>rfl) _
  have r5:=(BR.fr F5 (fun e=>hzd e.symm)).cell 0;simp at r5
  clear hr HIT;gi_wp2
  refine ⟨by simp,.inl ⟨_,_,rfl,run_takeDeferred hK,?_⟩⟩
  exact ⟨.bool false,by simp [results,Tryz.results22,go_sem,r5],by rw [HRR.out],F.trans' F5 (fun i hi e=>by have e2:i=D:=e;omega)⟩
end Go.Proofs.YtehlipgmkinfbaaGreatDoor

namespace Go.Q
theorem gone_slot {W:World}{k a b c d e f:Value}{r:RowP}(h:RSlot W [k,a,b,c,d,e,f] r):RSlot W [k,a,b,c,d,.int .i64 8,.pointer none] (goneR r):=by
 obtain ⟨us,h1,vi,vs,vp,h2,h3,h4,-⟩:=h;subst h2;simp only [List.cons.injEq,and_true] at h1;obtain ⟨rfl,rfl,rfl,rfl,rfl,-,-⟩:=h1;exact ⟨_,rfl,a,c,.pointer none,rfl,h3,h4,rfl⟩
section
variable {α κ:Type} [DecidableEq κ] {lt:κ→κ→Bool}{key:α→κ}
theorem sideS_len:∀ (l m:List α),(sideS lt key l m).length≤l.length+m.length
 | [],[]=>by rw [sideS];simp
 | x::l,[]=>by
  have:=sideS_len l []
  rw [sideS];simp only [List.length_cons,List.length_nil] at *;omega
 | [],y::m=>by
  have:=sideS_len [] m
  rw [sideS];simp only [List.length_cons,List.length_nil] at *;omega
 | x::l,y::m=>by
  have h1:=sideS_len l (y::m);have h2:=sideS_len l m;have h3:=sideS_len (x::l) m;rw [sideS];split
  ·simp only [List.length_cons] at *;omega
  ·split
   ·simp only [List.length_cons] at *;omega
   ·simp only [List.length_cons] at *;omega
termination_by l m=>l.length+m.length
end
theorem side_len (L M:List RowP):(sideR L M).length≤L.length+M.length:=sideS_len L M
end Go.Q
namespace Go.Proofs.YtehlipgmkinfbaaGreatDoor
open Go Go.RowKit Go.Q
attribute [local go_sem] Oper.semAt_some
theorem ixDelta_any (va vb:Value) (L M:List RowP) (w:World) (ha:IxAt w va L) (hb:IxAt w vb M) (hfL:∀ r∈L,fitR r) (hfM:∀ r∈M,fitR r) (hl:L.length+M.length≤100000) :
  Calls Tryz.prog 19 #[va,vb] w fun e w'=>(∃ b,e=.returned (pt b)∧IxAt w' (pt b) ((deltaS L M).map nrow))∧Fr (fun _=>False) w w':=by
 obtain ⟨aL,cL,ha⟩:=ha.sl;obtain ⟨aM,cM,hb⟩:=hb.sl;obtain ⟨z,hz⟩:∃ z,z=w.heap.size:=⟨_,rfl⟩
 have HZ:=Hi hz;have F0:Fr (fun _=>False) w ((w.alloc (.cells #[.slice none 0 0] 73)).alloc (.cells #[pt w.heap.size] 26)):=((Fr.refl w).alloc _).alloc _
 have BO:=(Blk.new w 73 #[.slice none 0 0]).alloc (.cells #[pt w.heap.size] 26);have BV:=Blk.new (w.alloc (.cells #[.slice none 0 0] 73)) 26 #[pt w.heap.size];rw [World.size_alloc,←hz] at BV;rw [←hz] at BO F0;have HSD:=Hi (side_any va vb aL aM cL cM L M w _ F0 ha hb (fun r hr=>(hfL r hr).2.2) (fun r hr=>(hfM r hr).2.2));have HSL:=Hi ha.slots;have HSM:=Hi hb.slots;have HFL:=Hi hfL;have HFM:=Hi hfM;have HF0:=Hi F0;have hsl:(sideR L M).length≤100000:=Nat.le_trans (side_len L M) hl
 have HLN:=Hi hsl;have h3:∃ p,va=.pointer p:=by
  rcases ha with ⟨rfl,-⟩ | ⟨b,rfl,-⟩
  ·exact ⟨_,rfl⟩
  ·exact ⟨_,rfl⟩
 have h4:∃ p,vb=.pointer p:=by
  rcases hb with ⟨rfl,-⟩ | ⟨b,rfl,-⟩
  ·exact ⟨_,rfl⟩
  ·exact ⟨_,rfl⟩
 clear ha hb hfL hfM F0 h3 h4 hz hl hsl;refine (callsIn_wide (n:=3)).1 ?_
 refine callsIn_of_wp_marks Tryz.func19 rfl trivial ?_ rfl
 simp only [Tryz.ntmps19,List.size_toArray,List.length_cons,List.length_nil,Nat.reduceAdd,Nat.reduceSub,Array.replicate_succ,Array.replicate_zero,List.push_toArray,List.append_toArray,List.nil_append,List.cons_append];gi_upto_region 2 with fail
 rw [←HZ.out];generalize ((w.alloc (.cells #[.slice none 0 0] 73)).alloc (.cells #[pt z] 26))=w0 at *
 gi_wp2_with (refine ⟨trivial,?_⟩;gi_at_call 49;refine (callsIn_wide.2 HSD.out).mono ?_;rintro e w2 ⟨⟨ba,bb,rfl,h1,h2,h3,h4,hit⟩,F2⟩)
 have lz:=BV.lt;have BO2:=BO.fr F2 (fun h=>h);have BV2:=BV.fr F2 (fun h=>h);have HF2:=Hi (HF0.out.trans F2);have HBA:=Hi (show z+1<ba∧z+1<bb∧ba<w2.heap.size∧bb<w2.heap.size from ⟨by omega,by omega,h3,h4⟩);have HIT:=Hi hit;clear HSD hit h1 h2 h3 h4 F2 BO BV lz;refine range_lawW (gf:=81) (lb:=#[pt ba,pt bb]) rfl (enters_of Tryz.func81 (by kernel_rfl) rfl) (C:=fun k=>k=ba∨k=bb) (base:=w.heap.size) (fun k hk=>by have:=HBA.out;rcases hk with hk | hk<;>omega) HF2.out.size HIT.out rfl
  (fun pre W=>Blk W (z+1) 26 #[pt z]∧IxOwn W z (w2.heap.size+2) ((((sideR L M).take pre.length).filterMap deltaG).map nrow)∧Fr (fun _=>False) w W)
  (fun _ _ _=>False)
  (fun s A B h f=>⟨h.1.fr f (by have:=HBA.out;omega),h.2.1.fr f (fun k hk=>by have:=HBA.out;omega),h.2.2.trans' f (fun i hi e=>by have:=HBA.out;have:=HZ.out;have:=HF2.out.size;omega)⟩)
  (fun c s A B h f=>h)
  ⟨BV2,⟨none,0,by have:=HBA.out;omega,by simpa using BO2,by simpa using GRow.nil _ _ _ _ _ _⟩,HF2.out⟩
  (fun x W=>{ tmps:=#[va,vb,undef,undef,.pointer none,.pointer (some ⟨z+1,0,none⟩),.pointer (some ⟨W.heap.size,0,none⟩),undef,.agg #[.slice none 0 0],pt z,va,vb,.func (.func 81) #[] #[pt ba,pt bb],x,undef,undef,undef,undef,undef,undef,undef,undef,undef,undef,undef,undef,undef,undef,undef,undef,undef,undef,undef,undef,undef,undef,undef,undef,undef,undef,undef,undef,undef,undef,undef,undef,undef,undef,undef,undef,undef,undef,undef,undef],defers:=[] }) (fun x W=>W.alloc (.cells x.cells 95)) (fun x W=>(Fr.refl W).alloc _) ?assign ?body ?done ?stop
 case assign=>
  intro l pre x rest W K hx hK
  obtain ⟨p,q,rfl⟩:=pair_form hx;gi_wp2
  exact hK
 case body=>
  rintro l pre x rest W W2 hx ⟨BV,hown,F⟩ hE F2
  obtain ⟨p,hp1,rfl,hp2,hcase⟩:=pair_at hx;obtain ⟨y,hy⟩:∃ y,y=W.heap.size:=⟨_,rfl⟩
  have HY:=Hi hy;have FA:Fr (fun _=>False) W (W.alloc (.cells (pairV aL aM p).cells 95)):=(Fr.refl W).alloc _
  have BY:Blk W2 W.heap.size 95 (pairV aL aM p).cells:=(Blk.new W 95 _).fr F2 (by omega)
  have hz2:=HF2.out.size;have FW2:Fr (fun _=>False) w W2:=(F.trans FA).trans' F2 (fun i hi e=>by have e2:i=w2.heap.size+1:=e;omega)
  have BV2:Blk W2 (z+1) 26 #[pt z]:=(BV.fr FA (fun h=>h)).fr F2 (by have:=HBA.out;omega)
  have hot:=(hown.top.fr FA (fun k h=>h.elim)).fr F2 (fun k e=>by have e2:k=w2.heap.size+1:=e;have:=HBA.out;omega);rw [←hy] at BY hot ⊢;have hWs:y<W2.heap.size:=BY.lt
  have HTK:=Hi (take_more hp2);obtain ⟨gs,hgs⟩:∃ gs,gs=(((sideR L M).take pre.length).filterMap deltaG).map nrow:=⟨_,rfl⟩
  have hgl:gs.length≤100000:=by
   rw [hgs,List.length_map];refine Nat.le_trans (List.length_filterMap_le _ _) ?_
   rw [List.length_take];have:=HLN.out
   omega
  rw [←hgs] at hot;have HNEXT:=Hi (fun (g:Option RowP) (hg:deltaG (atP L M p)=g)=>show ((((sideR L M).take (pre.length+1)).filterMap deltaG).map nrow)=gs++(match g with | some r=>[nrow r] | none=>[]) from by
   rw [HTK.out,List.filterMap_append,List.map_append,←hgs];cases g with
   | none=>simp [hg]
   | some r=>simp [hg])
  have HOT:=Hi hot;have HGL:=Hi hgl;have HE2:=Hi (show w2.heap.size+2≤y∧y<W2.heap.size∧w.heap.size≤w2.heap.size from ⟨by omega,hWs,hz2⟩);have HV2:=Hi BV2;have HFW:=Hi FW2;clear hx hp2 F FA F2 hE HIT hy hown hot hgs hgl hWs hz2 BV BV2 FW2 HTK;rcases hcase with ⟨i,r,rfl,hi⟩ | ⟨j,s,rfl,hj⟩ | ⟨i,j,r,s,rfl,hi,hj⟩
  ·have hat:deltaG (atP L M (some i,none))=some (goneR r):=by simp [atP,hi,deltaG]
   have HNX:Hid (((((sideR L M).take (pre.length+1)).filterMap deltaG).map nrow)=gs++[nrow (goneR r)]):=Hi (HNEXT.out _ hat)
   have HFIT:=Hi (show fitR (goneR r) from HFL.out r (List.mem_of_getElem? hi));obtain ⟨b,o,us,haL,hus,hRx,hRs,hk0,hcx⟩:=slot_row HSL.out hi;have HLOW:=Hi (show b<w.heap.size from World.block_lt_of_cell? w _ hk0);obtain ⟨e1,e2,e3,e4,e5,he,-⟩:=hRx.form;subst he;obtain ⟨ks,hks⟩:∃ ks,str (nameKeyS r.iss)=.string ks:=⟨_,rfl⟩
   rw [hks] at hk0 hRs;have HRS:=Hi (fun W (F:Fr (fun _=>False) w W)=>RSlot.old _ _ _ _ hRs F);have x0:=HFW.out.cell hk0 (fun h=>h);have x1:W2.cell? ⟨b,o+i*7+1,none⟩=some (.slice e1 r.iss.length e2):=HFW.out.cell (hcx 0 _ rfl) (fun h=>h)
   have x2:W2.cell? ⟨b,o+i*7+2,none⟩=some (.bool r.num.below):=HFW.out.cell (hcx 1 _ rfl) (fun h=>h)
   have x3:W2.cell? ⟨b,o+i*7+3,none⟩=some (.slice e3 r.num.size.length e4):=HFW.out.cell (hcx 2 _ rfl) (fun h=>h)
   have x4:W2.cell? ⟨b,o+i*7+4,none⟩=some (.int .i64 r.date):=HFW.out.cell (hcx 3 _ rfl) (fun h=>h)
   have x5:W2.cell? ⟨b,o+i*7+5,none⟩=some (.int .i64 r.reason):=HFW.out.cell (hcx 4 _ rfl) (fun h=>h)
   have x6:W2.cell? ⟨b,o+i*7+6,none⟩=some (.pointer e5):=HFW.out.cell (hcx 5 _ rfl) (fun h=>h)
   clear hRx hRs hk0 hcx hks hus;rw [pairV_l haL] at BY ⊢;simp only [Value.cells] at BY;have p0:=BY.cell 0;have p1:=BY.cell 1;simp only [SG] at p0 p1;obtain ⟨q,hq⟩:∃ q,q=W2.heap.size:=⟨_,rfl⟩
   have HQ:=Hi hq;have BQ:=Blk.new W2 78 #[.string ks,.slice e1 r.iss.length e2,.bool r.num.below,.slice e3 r.num.size.length e4,.int .i64 r.date,.int .i64 r.reason,.pointer e5];rw [←hq] at BQ;have FQ:Fr (fun _=>False) W2 (W2.alloc (.cells #[.string ks,.slice e1 r.iss.length e2,.bool r.num.below,.slice e3 r.num.size.length e4,.int .i64 r.date,.int .i64 r.reason,.pointer e5] 78)):=(Fr.refl W2).alloc _
   clear hq hat hi haL HNEXT;gi_upto_region 6 with fail
   rw [←HQ.out];generalize (W2.alloc (.cells #[.string ks,.slice e1 r.iss.length e2,.bool r.num.below,.slice e3 r.num.size.length e4,.int .i64 r.date,.int .i64 r.reason,.pointer e5] 78))=W3 at *
   have q5:=BQ.cell 5;have q6:=BQ.cell 6;have f5:=BQ.frozen 5;have f6:=BQ.frozen 6;simp only [SG] at q5 q6;have BQ2:Blk ((W3.setCell ⟨q,5,none⟩ (.int .i64 8)).setCell ⟨q,6,none⟩ (.pointer none)) q 78 #[.string ks,.slice e1 r.iss.length e2,.bool r.num.below,.slice e3 r.num.size.length e4,.int .i64 r.date,.int .i64 8,.pointer none]:=(BQ.set 5 (.int .i64 8)).set 6 (.pointer none)
   have FQ2:Fr (fun _=>False) W2 ((W3.setCell ⟨q,5,none⟩ (.int .i64 8)).setCell ⟨q,6,none⟩ (.pointer none)):=(FQ.setCell (p:=⟨q,5,none⟩) (fun h=>by have:=HQ.out;have h2:q<W2.heap.size:=h;omega) _).setCell (p:=⟨q,6,none⟩) (fun h=>by have:=HQ.out;have h2:q<W2.heap.size:=h;omega) _
   gi_upto_region 7 with fail
   clear q5 q6 f5 f6 x0 x1 x2 x3 x4 x5 x6 p0 p1 BQ FQ;generalize ((W3.setCell ⟨q,5,none⟩ (.int .i64 8)).setCell ⟨q,6,none⟩ (.pointer none))=W4 at *
   have q0:=BQ2.cell 0;have q1:=BQ2.cell 1;have q2:=BQ2.cell 2;have q3:=BQ2.cell 3;have q4:=BQ2.cell 4;have q5:=BQ2.cell 5;have q6:=BQ2.cell 6;simp only [SG] at q0 q1 q2 q3 q4 q5 q6;have v0:=(HV2.out.fr FQ2 (fun h=>h)).cell 0;simp only [List.getElem?_toArray,List.getElem?_cons_zero] at v0
   have HADD:=Hi (ixAdd_any z (w2.heap.size+2) y [.string ks,.slice e1 r.iss.length e2,.bool r.num.below,.slice e3 r.num.size.length e4,.int .i64 r.date,.int .i64 8,.pointer none] (goneR r) gs W4 (HOT.out.fr FQ2 (fun k h=>h.elim)) (by have:=HE2.out;have:=FQ2.size;omega) (gone_slot (HRS.out _ (HFW.out.trans FQ2))) HFIT.out (by have:=HGL.out;omega));have HFC:=Hi FQ2;clear FQ2 BQ2;gi_wp2_with (refine ⟨trivial,?_⟩;gi_at_call 50;refine (CallsIn.inRound l (callsIn_wide.2 HADD.out)).mono ?_;rintro e W5 ⟨rfl,hown5,F5⟩)
   have HF5:=Hi F5;have HO5:=Hi hown5;clear F5 hown5;exact ⟨(HFC.out.mono (fun _ _ h=>h.elim)).trans (HF5.out.mono (fun k _ e=>by have:=HBA.out;have:=HZ.out;have:=HE2.out;rcases e with e | e<;>exact ⟨by omega,by omega,by omega,by omega⟩)),HV2.out.fr HFC.out (fun h=>h) |>.fr HF5.out (by have:=HBA.out;omega),by rw [List.length_append];show IxOwn _ _ _ ((((sideR L M).take (pre.length+1)).filterMap deltaG).map nrow);rw [HNX.out];exact HO5.out,(HFW.out.trans HFC.out).trans' HF5.out (fun i hi e=>by have:=HZ.out;have:=HE2.out;have:=HBA.out;rcases e with e | e<;>omega)⟩
  ·have hat:deltaG (atP L M (none,some j))=some s:=by simp [atP,hj,deltaG]
   have HNX:Hid (((((sideR L M).take (pre.length+1)).filterMap deltaG).map nrow)=gs++[nrow s]):=Hi (HNEXT.out _ hat)
   have HFIT:=Hi (HFM.out s (List.mem_of_getElem? hj));obtain ⟨b,o,us,haM,hus,hRx,hRs,hk0,hcx⟩:=slot_row HSM.out hj;have HLOW:=Hi (show b<w.heap.size from World.block_lt_of_cell? w _ hk0);obtain ⟨e1,e2,e3,e4,e5,he,-⟩:=hRx.form;subst he;obtain ⟨ks,hks⟩:∃ ks,str (nameKeyS s.iss)=.string ks:=⟨_,rfl⟩
   rw [hks] at hk0 hRs;have HRS:=Hi (fun W (F:Fr (fun _=>False) w W)=>RSlot.old _ _ _ _ hRs F);have x0:=HFW.out.cell hk0 (fun h=>h);have x1:W2.cell? ⟨b,o+j*7+1,none⟩=some (.slice e1 s.iss.length e2):=HFW.out.cell (hcx 0 _ rfl) (fun h=>h)
   have x2:W2.cell? ⟨b,o+j*7+2,none⟩=some (.bool s.num.below):=HFW.out.cell (hcx 1 _ rfl) (fun h=>h)
   have x3:W2.cell? ⟨b,o+j*7+3,none⟩=some (.slice e3 s.num.size.length e4):=HFW.out.cell (hcx 2 _ rfl) (fun h=>h)
   have x4:W2.cell? ⟨b,o+j*7+4,none⟩=some (.int .i64 s.date):=HFW.out.cell (hcx 3 _ rfl) (fun h=>h)
   have x5:W2.cell? ⟨b,o+j*7+5,none⟩=some (.int .i64 s.reason):=HFW.out.cell (hcx 4 _ rfl) (fun h=>h)
   have x6:W2.cell? ⟨b,o+j*7+6,none⟩=some (.pointer e5):=HFW.out.cell (hcx 5 _ rfl) (fun h=>h)
   clear hRx hRs hk0 hcx hks hus;rw [pairV_r haM] at BY ⊢;simp only [Value.cells] at BY;have p0:=BY.cell 0;have p1:=BY.cell 1;simp only [SG] at p0 p1;have FC:Fr (fun _=>False) W2 W2.drew.drew:=(Fr.refl W2).drew.drew
   have HADD:=Hi (ixAdd_any z (w2.heap.size+2) y [.string ks,.slice e1 s.iss.length e2,.bool s.num.below,.slice e3 s.num.size.length e4,.int .i64 s.date,.int .i64 s.reason,.pointer e5] s gs W2.drew.drew (HOT.out.fr FC (fun k h=>h.elim)) (by have:=HE2.out;have:=FC.size;omega) (HRS.out _ (HFW.out.trans FC)) HFIT.out (by have:=HGL.out;omega));have v0:=(HV2.out.fr FC (fun h=>h)).cell 0;simp only [List.getElem?_toArray,List.getElem?_cons_zero] at v0;have c0:=FC.cell p1 (fun h=>h);have hx0:=HLOW.out
   have hS1:(W2.drew.drew.cell? ⟨z+1,0,none⟩=some (pt z)∧W2.drew.drew.cell? ⟨y,1,none⟩=some (.pointer (some ⟨b,o+j*7,none⟩)))∧W2.drew.drew.cell? ⟨b,o+j*7,none⟩=some (.string ks)∧W2.drew.drew.cell? ⟨b,o+j*7+1,none⟩=some (.slice e1 s.iss.length e2)∧W2.drew.drew.cell? ⟨b,o+j*7+2,none⟩=some (.bool s.num.below)∧W2.drew.drew.cell? ⟨b,o+j*7+3,none⟩=some (.slice e3 s.num.size.length e4)∧W2.drew.drew.cell? ⟨b,o+j*7+4,none⟩=some (.int .i64 s.date)∧W2.drew.drew.cell? ⟨b,o+j*7+5,none⟩=some (.int .i64 s.reason)∧W2.drew.drew.cell? ⟨b,o+j*7+6,none⟩=some (.pointer e5):=⟨⟨v0,c0⟩,FC.cell x0 (fun h=>h),FC.cell x1 (fun h=>h),FC.cell x2 (fun h=>h),FC.cell x3 (fun h=>h),FC.cell x4 (fun h=>h),FC.cell x5 (fun h=>h),FC.cell x6 (fun h=>h)⟩
   have HKD:=Hi (And.intro hS1 (fun W (F:Fr (fun k=>k=z∨(w2.heap.size+2≤k∧k<y)) W2.drew.drew W)=>show (W.cell? ⟨z+1,0,none⟩=some (pt z)∧W.cell? ⟨y,1,none⟩=some (.pointer (some ⟨b,o+j*7,none⟩)))∧W.cell? ⟨b,o+j*7,none⟩=some (.string ks)∧W.cell? ⟨b,o+j*7+1,none⟩=some (.slice e1 s.iss.length e2)∧W.cell? ⟨b,o+j*7+2,none⟩=some (.bool s.num.below)∧W.cell? ⟨b,o+j*7+3,none⟩=some (.slice e3 s.num.size.length e4)∧W.cell? ⟨b,o+j*7+4,none⟩=some (.int .i64 s.date)∧W.cell? ⟨b,o+j*7+5,none⟩=some (.int .i64 s.reason)∧W.cell? ⟨b,o+j*7+6,none⟩=some (.pointer e5) from by
    have nz:¬(z+1=z∨(w2.heap.size+2≤z+1∧z+1<y)):=by have:=HBA.out;omega
    have ny:¬(y=z∨(w2.heap.size+2≤y∧y<y)):=by have:=HBA.out;have:=HE2.out;omega
    have nb:¬(b=z∨(w2.heap.size+2≤b∧b<y)):=by have:=HE2.out;have:=HZ.out;omega
    obtain ⟨⟨s1,s2⟩,s3,s4,s5,s6,s7,s8,s9⟩:=hS1;exact ⟨⟨F.cell s1 nz,F.cell s2 ny⟩,F.cell s3 nb,F.cell s4 nb,F.cell s5 nb,F.cell s6 nb,F.cell s7 nb,F.cell s8 nb,F.cell s9 nb⟩))
   have HFC:=Hi FC;clear hS1 c0 v0 FC hx0;clear hat hj haM HNEXT BY x0 x1 x2 x3 x4 x5 x6;have p0d:=p0;have p1d:=p1;gi_upto_region 8 with fail
   refine wpIn_region_N 18 (S:=fun w'=>w'.cell? ⟨y,0,none⟩=some (.pointer none)∧w'.cell? ⟨y,1,none⟩=some (.pointer (some ⟨b,o+j*7,none⟩))) (by kernel_rfl) (by kernel_rfl) (by rintro ⟨a,w,h⟩;exact h) ?_ (fun hHeld=>?_)
   ·exact ⟨by simpa using p0,by simpa using p1⟩
   refine tkN (i:=0) rfl hHeld ?_
   (try simp only [Act.put,SS])
   refine tkN (i:=1) rfl hHeld ?_
   (try simp only [Act.put,SS])
   refine tkN (i:=2) rfl hHeld ?_
   (try simp only [Act.put,SS])
   refine tkN (i:=3) rfl hHeld ?_
   (try simp only [Act.put,SS])
   refine tkS (i:=4) rfl hHeld ?_
   (try simp only [Act.put,SK,SS])
   refine tkS (i:=5) rfl hHeld ?_
   (try simp only [Act.put,SK,SS])
   refine tkS (i:=6) rfl hHeld ?_
   (try simp only [Act.put,SK,SS])
   refine tkS (i:=7) rfl hHeld ?_
   (try simp only [Act.put,SK,SS])
   refine tkS (i:=8) rfl hHeld ?_
   (try simp only [Act.put,SK,SS])
   refine tkS (i:=9) rfl hHeld ?_
   (try simp only [Act.put,SK,SS])
   refine tkS (i:=10) rfl hHeld ?_
   (try simp only [Act.put,SK,SS])
   refine tkS (i:=11) rfl hHeld ?_
   (try simp only [Act.put,SK,SS])
   refine tkS (i:=12) rfl hHeld ?_
   (try simp only [Act.put,SK,SS])
   refine tkS (i:=13) rfl hHeld ?_
   (try simp only [Act.put,SK,SS])
   refine tkS (i:=14) rfl hHeld ?_
   (try simp only [Act.put,SK,SS])
   refine tkS (i:=15) rfl hHeld ?_
   (try simp only [Act.put,SK,SS])
   refine tkG (i:=16) rfl hHeld ?_
   (try simp only [Act.put,SK,SS])
   refine tkG (i:=17) rfl hHeld ?_
   (try simp only [Act.put,SK,SS])
   refine wpAnyN_done (by kernel_rfl) ?_ _
   clear p0 p1 p0d p1d;gi_wp2
   gi_upto_region 9 with fail
   refine wpIn_region_N 6 (S:=fun w'=>(w'.cell? ⟨z+1,0,none⟩=some (pt z)∧w'.cell? ⟨y,1,none⟩=some (.pointer (some ⟨b,o+j*7,none⟩)))∧w'.cell? ⟨b,o+j*7,none⟩=some (.string ks)∧w'.cell? ⟨b,o+j*7+1,none⟩=some (.slice e1 s.iss.length e2)∧w'.cell? ⟨b,o+j*7+2,none⟩=some (.bool s.num.below)∧w'.cell? ⟨b,o+j*7+3,none⟩=some (.slice e3 s.num.size.length e4)∧w'.cell? ⟨b,o+j*7+4,none⟩=some (.int .i64 s.date)∧w'.cell? ⟨b,o+j*7+5,none⟩=some (.int .i64 s.reason)∧w'.cell? ⟨b,o+j*7+6,none⟩=some (.pointer e5)) (by kernel_rfl) (by kernel_rfl) (by rintro ⟨a,w,h⟩;exact h) ?_ (fun hHeld=>?_)
   ·exact HKD.out.1
   refine tkN (i:=0) rfl hHeld ?_
   (try simp only [Act.put,SS])
   refine tkN (i:=1) rfl hHeld ?_
   (try simp only [Act.put,SS])
   refine tkN (i:=2) rfl hHeld ?_
   (try simp only [Act.put,SS])
   refine tkN (i:=3) rfl hHeld ?_
   (try simp only [Act.put,SS])
   refine tkN (i:=4) rfl hHeld ?_
   (try simp only [Act.put,SS])
   refine wpAnyN_step (i:=5) (by kernel_rfl) (o:=_) rfl (fun KK hKK=>?_)
   go_simp
   (go_at_call 50;(with_reducible refine HADD.out.mono ?_);rintro e W5 ⟨rfl,hown5,F5⟩;go_wp2_with fail)
   refine hKK.out _ _ ?_ (fun hHeld=>?_)
   ·exact HKD.out.2 _ F5
   clear hKK KK
   (try simp only [Act.put,SS])
   refine wpAnyN_done (by kernel_rfl) ?_ _
   have HF5:=Hi F5;have HO5:=Hi hown5;clear F5 hown5 HADD HKD;gi_wp2
   exact ⟨(HFC.out.mono (fun _ _ h=>h.elim)).trans (HF5.out.mono (fun k _ e=>by have:=HBA.out;have:=HZ.out;have:=HE2.out;rcases e with e | e<;>exact ⟨by omega,by omega,by omega,by omega⟩)),HV2.out.fr HFC.out (fun h=>h) |>.fr HF5.out (by have:=HBA.out;omega),by rw [List.length_append];show IxOwn _ _ _ ((((sideR L M).take (pre.length+1)).filterMap deltaG).map nrow);rw [HNX.out];exact HO5.out,(HFW.out.trans HFC.out).trans' HF5.out (fun i hi e=>by have:=HZ.out;have:=HE2.out;have:=HBA.out;rcases e with e | e<;>omega)⟩
  ·skip
   obtain ⟨m,hm⟩:∃ m,m=likeR r s:=⟨_,rfl⟩
   have hat:deltaG (atP L M (some i,some j))=if m=true then none else some s:=by simp [atP,hi,hj,deltaG,hm]
   have HFIT:=Hi (HFM.out s (List.mem_of_getElem? hj));obtain ⟨b',o',vs,haL,hvs,hRy,-,-,hcy⟩:=slot_row HSL.out hi;obtain ⟨b,o,us,haM,hus,hRx,hRs,hk0,hcx⟩:=slot_row HSM.out hj;have HLOW:=Hi (show b<w.heap.size from World.block_lt_of_cell? w _ hk0);have HLK:=Hi (like_any _ _ r s W2.drew (RRow.old _ _ _ _ hRy HFW.out.drew) (RRow.old _ _ _ _ hRx HFW.out.drew));rw [←hm] at HLK;obtain ⟨e1,e2,e3,e4,e5,he,-⟩:=hRx.form;subst he;obtain ⟨ks,hks⟩:∃ ks,str (nameKeyS s.iss)=.string ks:=⟨_,rfl⟩
   rw [hks] at hk0 hRs;have HRS:=Hi (fun W (F:Fr (fun _=>False) w W)=>RSlot.old _ _ _ _ hRs F);have x0:=HFW.out.cell hk0 (fun h=>h);have x1:W2.cell? ⟨b,o+j*7+1,none⟩=some (.slice e1 s.iss.length e2):=HFW.out.cell (hcx 0 _ rfl) (fun h=>h)
   have x2:W2.cell? ⟨b,o+j*7+2,none⟩=some (.bool s.num.below):=HFW.out.cell (hcx 1 _ rfl) (fun h=>h)
   have x3:W2.cell? ⟨b,o+j*7+3,none⟩=some (.slice e3 s.num.size.length e4):=HFW.out.cell (hcx 2 _ rfl) (fun h=>h)
   have x4:W2.cell? ⟨b,o+j*7+4,none⟩=some (.int .i64 s.date):=HFW.out.cell (hcx 3 _ rfl) (fun h=>h)
   have x5:W2.cell? ⟨b,o+j*7+5,none⟩=some (.int .i64 s.reason):=HFW.out.cell (hcx 4 _ rfl) (fun h=>h)
   have x6:W2.cell? ⟨b,o+j*7+6,none⟩=some (.pointer e5):=HFW.out.cell (hcx 5 _ rfl) (fun h=>h)
   clear hRx hRs hk0 hcx hks hus;obtain ⟨u0,u1,u2,u3,u4,u5,rfl⟩:=six_of hvs;have y0:=HFW.out.drew.cell (S:=fun _=>False) (hcy 0 _ rfl) (fun h=>h);have y1:=HFW.out.drew.cell (S:=fun _=>False) (hcy 1 _ rfl) (fun h=>h);have y2:=HFW.out.drew.cell (S:=fun _=>False) (hcy 2 _ rfl) (fun h=>h);have y3:=HFW.out.drew.cell (S:=fun _=>False) (hcy 3 _ rfl) (fun h=>h);have y4:=HFW.out.drew.cell (S:=fun _=>False) (hcy 4 _ rfl) (fun h=>h);have y5:=HFW.out.drew.cell (S:=fun _=>False) (hcy 5 _ rfl) (fun h=>h);simp only [Nat.add_zero] at y0;rw [pairV_b haL haM] at BY ⊢;simp only [Value.cells] at BY
   have p0:=BY.cell 0;have p1:=BY.cell 1;simp only [SG] at p0 p1;have HX:=Hi (And.intro (And.intro p0 p1) (And.intro x0 (And.intro x1 (And.intro x2 (And.intro x3 (And.intro x4 (And.intro x5 x6)))))));clear hRy hcy hvs hi hj haL haM BY hm;gi_upto_region 8 with fail
   have hS:(W2.drew.cell? ⟨y,0,none⟩=some (.pointer (some ⟨b',o'+i*7,none⟩))∧W2.drew.cell? ⟨y,1,none⟩=some (.pointer (some ⟨b,o+j*7,none⟩)))∧(W2.drew.cell? ⟨b',o'+i*7+1,none⟩=some (u0)∧W2.drew.cell? ⟨b',o'+i*7+1+1,none⟩=some (u1)∧W2.drew.cell? ⟨b',o'+i*7+1+2,none⟩=some (u2)∧W2.drew.cell? ⟨b',o'+i*7+1+3,none⟩=some (u3)∧W2.drew.cell? ⟨b',o'+i*7+1+4,none⟩=some (u4)∧W2.drew.cell? ⟨b',o'+i*7+1+5,none⟩=some (u5))∧W2.drew.cell? ⟨b,o+j*7+1,none⟩=some (.slice e1 s.iss.length e2)∧W2.drew.cell? ⟨b,o+j*7+1+1,none⟩=some (.bool s.num.below)∧W2.drew.cell? ⟨b,o+j*7+1+2,none⟩=some (.slice e3 s.num.size.length e4)∧W2.drew.cell? ⟨b,o+j*7+1+3,none⟩=some (.int .i64 s.date)∧W2.drew.cell? ⟨b,o+j*7+1+4,none⟩=some (.int .i64 s.reason)∧W2.drew.cell? ⟨b,o+j*7+1+5,none⟩=some (.pointer e5):=⟨⟨p0,p1⟩,⟨y0,y1,y2,y3,y4,y5⟩,x1,x2,x3,x4,x5,x6⟩
   have HKE:=Hi (And.intro hS (fun W (F:Fr (fun _=>False) W2.drew W)=>show (W.cell? ⟨y,0,none⟩=some (.pointer (some ⟨b',o'+i*7,none⟩))∧W.cell? ⟨y,1,none⟩=some (.pointer (some ⟨b,o+j*7,none⟩)))∧(W.cell? ⟨b',o'+i*7+1,none⟩=some (u0)∧W.cell? ⟨b',o'+i*7+1+1,none⟩=some (u1)∧W.cell? ⟨b',o'+i*7+1+2,none⟩=some (u2)∧W.cell? ⟨b',o'+i*7+1+3,none⟩=some (u3)∧W.cell? ⟨b',o'+i*7+1+4,none⟩=some (u4)∧W.cell? ⟨b',o'+i*7+1+5,none⟩=some (u5))∧W.cell? ⟨b,o+j*7+1,none⟩=some (.slice e1 s.iss.length e2)∧W.cell? ⟨b,o+j*7+1+1,none⟩=some (.bool s.num.below)∧W.cell? ⟨b,o+j*7+1+2,none⟩=some (.slice e3 s.num.size.length e4)∧W.cell? ⟨b,o+j*7+1+3,none⟩=some (.int .i64 s.date)∧W.cell? ⟨b,o+j*7+1+4,none⟩=some (.int .i64 s.reason)∧W.cell? ⟨b,o+j*7+1+5,none⟩=some (.pointer e5) from by
    obtain ⟨⟨s1,s2⟩,⟨s3,s4,s5,s6,s7,s8⟩,s9,s10,s11,s12,s13,s14⟩:=hS;exact ⟨⟨F.cell s1 (fun h=>h),F.cell s2 (fun h=>h)⟩,⟨F.cell s3 (fun h=>h),F.cell s4 (fun h=>h),F.cell s5 (fun h=>h),F.cell s6 (fun h=>h),F.cell s7 (fun h=>h),F.cell s8 (fun h=>h)⟩,F.cell s9 (fun h=>h),F.cell s10 (fun h=>h),F.cell s11 (fun h=>h),F.cell s12 (fun h=>h),F.cell s13 (fun h=>h),F.cell s14 (fun h=>h)⟩))
   clear hS p0 p1 x0 x1 x2 x3 x4 x5 x6 y0 y1 y2 y3 y4 y5;cases m with
   | false=>
    have HNX:Hid (((((sideR L M).take (pre.length+1)).filterMap deltaG).map nrow)=gs++[nrow s]):=Hi (HNEXT.out (some s) (by rw [hat];rfl))
    clear hat
    refine wpIn_region_N 18 (S:=fun w'=>(w'.cell? ⟨y,0,none⟩=some (.pointer (some ⟨b',o'+i*7,none⟩))∧w'.cell? ⟨y,1,none⟩=some (.pointer (some ⟨b,o+j*7,none⟩)))∧(w'.cell? ⟨b',o'+i*7+1,none⟩=some (u0)∧w'.cell? ⟨b',o'+i*7+1+1,none⟩=some (u1)∧w'.cell? ⟨b',o'+i*7+1+2,none⟩=some (u2)∧w'.cell? ⟨b',o'+i*7+1+3,none⟩=some (u3)∧w'.cell? ⟨b',o'+i*7+1+4,none⟩=some (u4)∧w'.cell? ⟨b',o'+i*7+1+5,none⟩=some (u5))∧w'.cell? ⟨b,o+j*7+1,none⟩=some (.slice e1 s.iss.length e2)∧w'.cell? ⟨b,o+j*7+1+1,none⟩=some (.bool s.num.below)∧w'.cell? ⟨b,o+j*7+1+2,none⟩=some (.slice e3 s.num.size.length e4)∧w'.cell? ⟨b,o+j*7+1+3,none⟩=some (.int .i64 s.date)∧w'.cell? ⟨b,o+j*7+1+4,none⟩=some (.int .i64 s.reason)∧w'.cell? ⟨b,o+j*7+1+5,none⟩=some (.pointer e5)) (by kernel_rfl) (by kernel_rfl) (by rintro ⟨a,w,h⟩;exact h) ?_ (fun hHeld=>?_)
    ·exact HKE.out.1
    refine tkN (i:=0) rfl hHeld ?_
    (try simp only [Act.put,SS])
    refine tkN (i:=1) rfl hHeld ?_
    (try simp only [Act.put,SS])
    refine tkN (i:=2) rfl hHeld ?_
    (try simp only [Act.put,SS])
    refine tkN (i:=3) rfl hHeld ?_
    (try simp only [Act.put,SS])
    refine tkG (i:=4) rfl hHeld ?_
    (try simp only [Act.put,SK,SS])
    refine tkG (i:=5) rfl hHeld ?_
    (try simp only [Act.put,SK,SS])
    refine tkG (i:=6) rfl hHeld ?_
    (try simp only [Act.put,SK,SS])
    refine tkG (i:=7) rfl hHeld ?_
    (try simp only [Act.put,SK,SS])
    refine tkG (i:=8) rfl hHeld ?_
    (try simp only [Act.put,SK,SS])
    refine tkG (i:=9) rfl hHeld ?_
    (try simp only [Act.put,SK,SS])
    refine tkG (i:=10) rfl hHeld ?_
    (try simp only [Act.put,SK,SS])
    refine tkG (i:=11) rfl hHeld ?_
    (try simp only [Act.put,SK,SS])
    refine tkG (i:=12) rfl hHeld ?_
    (try simp only [Act.put,SK,SS])
    refine tkG (i:=13) rfl hHeld ?_
    (try simp only [Act.put,SK,SS])
    refine wpAnyN_step (i:=14) (by kernel_rfl) (o:=_) rfl (fun KK hKK=>?_)
    go_simp
    (go_at_call 51;(with_reducible refine HLK.out.mono ?_);rintro e W3 ⟨rfl,F3⟩;go_wp2_with fail)
    refine hKK.out _ _ ?_ (fun hHeld=>?_)
    ·exact HKE.out.2 _ F3
    clear hKK KK
    (try simp only [Act.put,SS])
    refine tkG (i:=15) rfl hHeld ?_
    (try simp only [Act.put,SK,SS])
    refine tkG (i:=16) rfl hHeld ?_
    (try simp only [Act.put,SK,SS])
    refine tkG (i:=17) rfl hHeld ?_
    (try simp only [Act.put,SK,SS])
    refine wpAnyN_done (by kernel_rfl) ?_ _
    have HF3:=Hi (((Fr.refl W2).drew:Fr (fun _=>False) W2 W2.drew).trans F3);clear F3 HLK HKE;obtain ⟨⟨p0,p1⟩,x0,x1,x2,x3,x4,x5,x6⟩:=HX.out;have FC:Fr (fun _=>False) W2 W3.drew:=HF3.out.drew
    have HADD:=Hi (ixAdd_any z (w2.heap.size+2) y [.string ks,.slice e1 s.iss.length e2,.bool s.num.below,.slice e3 s.num.size.length e4,.int .i64 s.date,.int .i64 s.reason,.pointer e5] s gs W3.drew (HOT.out.fr FC (fun k h=>h.elim)) (by have:=HE2.out;have:=FC.size;omega) (HRS.out _ (HFW.out.trans FC)) HFIT.out (by have:=HGL.out;omega));have v0:=(HV2.out.fr FC (fun h=>h)).cell 0;simp only [List.getElem?_toArray,List.getElem?_cons_zero] at v0;have c0:=FC.cell p1 (fun h=>h);have hx0:=HLOW.out
    have hS1:(W3.drew.cell? ⟨z+1,0,none⟩=some (pt z)∧W3.drew.cell? ⟨y,1,none⟩=some (.pointer (some ⟨b,o+j*7,none⟩)))∧W3.drew.cell? ⟨b,o+j*7,none⟩=some (.string ks)∧W3.drew.cell? ⟨b,o+j*7+1,none⟩=some (.slice e1 s.iss.length e2)∧W3.drew.cell? ⟨b,o+j*7+2,none⟩=some (.bool s.num.below)∧W3.drew.cell? ⟨b,o+j*7+3,none⟩=some (.slice e3 s.num.size.length e4)∧W3.drew.cell? ⟨b,o+j*7+4,none⟩=some (.int .i64 s.date)∧W3.drew.cell? ⟨b,o+j*7+5,none⟩=some (.int .i64 s.reason)∧W3.drew.cell? ⟨b,o+j*7+6,none⟩=some (.pointer e5):=⟨⟨v0,c0⟩,FC.cell x0 (fun h=>h),FC.cell x1 (fun h=>h),FC.cell x2 (fun h=>h),FC.cell x3 (fun h=>h),FC.cell x4 (fun h=>h),FC.cell x5 (fun h=>h),FC.cell x6 (fun h=>h)⟩
    have HKD:=Hi (And.intro hS1 (fun W (F:Fr (fun k=>k=z∨(w2.heap.size+2≤k∧k<y)) W3.drew W)=>show (W.cell? ⟨z+1,0,none⟩=some (pt z)∧W.cell? ⟨y,1,none⟩=some (.pointer (some ⟨b,o+j*7,none⟩)))∧W.cell? ⟨b,o+j*7,none⟩=some (.string ks)∧W.cell? ⟨b,o+j*7+1,none⟩=some (.slice e1 s.iss.length e2)∧W.cell? ⟨b,o+j*7+2,none⟩=some (.bool s.num.below)∧W.cell? ⟨b,o+j*7+3,none⟩=some (.slice e3 s.num.size.length e4)∧W.cell? ⟨b,o+j*7+4,none⟩=some (.int .i64 s.date)∧W.cell? ⟨b,o+j*7+5,none⟩=some (.int .i64 s.reason)∧W.cell? ⟨b,o+j*7+6,none⟩=some (.pointer e5) from by
     have nz:¬(z+1=z∨(w2.heap.size+2≤z+1∧z+1<y)):=by have:=HBA.out;omega
     have ny:¬(y=z∨(w2.heap.size+2≤y∧y<y)):=by have:=HBA.out;have:=HE2.out;omega
     have nb:¬(b=z∨(w2.heap.size+2≤b∧b<y)):=by have:=HE2.out;have:=HZ.out;omega
     obtain ⟨⟨s1,s2⟩,s3,s4,s5,s6,s7,s8,s9⟩:=hS1;exact ⟨⟨F.cell s1 nz,F.cell s2 ny⟩,F.cell s3 nb,F.cell s4 nb,F.cell s5 nb,F.cell s6 nb,F.cell s7 nb,F.cell s8 nb,F.cell s9 nb⟩))
    have HFC:=Hi FC;clear hS1 c0 v0 FC hx0;clear x0 x1 x2 x3 x4 x5 x6 p0 p1 HX HNEXT;gi_wp2
    gi_upto_region 9 with fail
    refine wpIn_region_N 6 (S:=fun w'=>(w'.cell? ⟨z+1,0,none⟩=some (pt z)∧w'.cell? ⟨y,1,none⟩=some (.pointer (some ⟨b,o+j*7,none⟩)))∧w'.cell? ⟨b,o+j*7,none⟩=some (.string ks)∧w'.cell? ⟨b,o+j*7+1,none⟩=some (.slice e1 s.iss.length e2)∧w'.cell? ⟨b,o+j*7+2,none⟩=some (.bool s.num.below)∧w'.cell? ⟨b,o+j*7+3,none⟩=some (.slice e3 s.num.size.length e4)∧w'.cell? ⟨b,o+j*7+4,none⟩=some (.int .i64 s.date)∧w'.cell? ⟨b,o+j*7+5,none⟩=some (.int .i64 s.reason)∧w'.cell? ⟨b,o+j*7+6,none⟩=some (.pointer e5)) (by kernel_rfl) (by kernel_rfl) (by rintro ⟨a,w,h⟩;exact h) ?_ (fun hHeld=>?_)
    ·exact HKD.out.1
    refine tkN (i:=0) rfl hHeld ?_
    (try simp only [Act.put,SS])
    refine tkN (i:=1) rfl hHeld ?_
    (try simp only [Act.put,SS])
    refine tkN (i:=2) rfl hHeld ?_
    (try simp only [Act.put,SS])
    refine tkN (i:=3) rfl hHeld ?_
    (try simp only [Act.put,SS])
    refine tkN (i:=4) rfl hHeld ?_
    (try simp only [Act.put,SS])
    refine wpAnyN_step (i:=5) (by kernel_rfl) (o:=_) rfl (fun KK hKK=>?_)
    go_simp
    (go_at_call 50;(with_reducible refine HADD.out.mono ?_);rintro e W5 ⟨rfl,hown5,F5⟩;go_wp2_with fail)
    refine hKK.out _ _ ?_ (fun hHeld=>?_)
    ·exact HKD.out.2 _ F5
    clear hKK KK
    (try simp only [Act.put,SS])
    refine wpAnyN_done (by kernel_rfl) ?_ _
    have HF5:=Hi F5;have HO5:=Hi hown5;clear F5 hown5 HADD HKD;gi_wp2
    exact ⟨(HFC.out.mono (fun _ _ h=>h.elim)).trans (HF5.out.mono (fun k _ e=>by have:=HBA.out;have:=HZ.out;have:=HE2.out;rcases e with e | e<;>exact ⟨by omega,by omega,by omega,by omega⟩)),HV2.out.fr HFC.out (fun h=>h) |>.fr HF5.out (by have:=HBA.out;omega),by rw [List.length_append];show IxOwn _ _ _ ((((sideR L M).take (pre.length+1)).filterMap deltaG).map nrow);rw [HNX.out];exact HO5.out,(HFW.out.trans HFC.out).trans' HF5.out (fun i hi e=>by have:=HZ.out;have:=HE2.out;have:=HBA.out;rcases e with e | e<;>omega)⟩
   | true=>
    have HNX:Hid (((((sideR L M).take (pre.length+1)).filterMap deltaG).map nrow)=gs):=Hi (by have:=HNEXT.out _ hat;simpa using this)
    clear hat HNEXT HX
    refine wpIn_region_N 18 (S:=fun w'=>(w'.cell? ⟨y,0,none⟩=some (.pointer (some ⟨b',o'+i*7,none⟩))∧w'.cell? ⟨y,1,none⟩=some (.pointer (some ⟨b,o+j*7,none⟩)))∧(w'.cell? ⟨b',o'+i*7+1,none⟩=some (u0)∧w'.cell? ⟨b',o'+i*7+1+1,none⟩=some (u1)∧w'.cell? ⟨b',o'+i*7+1+2,none⟩=some (u2)∧w'.cell? ⟨b',o'+i*7+1+3,none⟩=some (u3)∧w'.cell? ⟨b',o'+i*7+1+4,none⟩=some (u4)∧w'.cell? ⟨b',o'+i*7+1+5,none⟩=some (u5))∧w'.cell? ⟨b,o+j*7+1,none⟩=some (.slice e1 s.iss.length e2)∧w'.cell? ⟨b,o+j*7+1+1,none⟩=some (.bool s.num.below)∧w'.cell? ⟨b,o+j*7+1+2,none⟩=some (.slice e3 s.num.size.length e4)∧w'.cell? ⟨b,o+j*7+1+3,none⟩=some (.int .i64 s.date)∧w'.cell? ⟨b,o+j*7+1+4,none⟩=some (.int .i64 s.reason)∧w'.cell? ⟨b,o+j*7+1+5,none⟩=some (.pointer e5)) (by kernel_rfl) (by kernel_rfl) (by rintro ⟨a,w,h⟩;exact h) ?_ (fun hHeld=>?_)
    ·exact HKE.out.1
    refine tkN (i:=0) rfl hHeld ?_
    (try simp only [Act.put,SS])
    refine tkN (i:=1) rfl hHeld ?_
    (try simp only [Act.put,SS])
    refine tkN (i:=2) rfl hHeld ?_
    (try simp only [Act.put,SS])
    refine tkN (i:=3) rfl hHeld ?_
    (try simp only [Act.put,SS])
    refine tkG (i:=4) rfl hHeld ?_
    (try simp only [Act.put,SK,SS])
    refine tkG (i:=5) rfl hHeld ?_
    (try simp only [Act.put,SK,SS])
    refine tkG (i:=6) rfl hHeld ?_
    (try simp only [Act.put,SK,SS])
    refine tkG (i:=7) rfl hHeld ?_
    (try simp only [Act.put,SK,SS])
    refine tkG (i:=8) rfl hHeld ?_
    (try simp only [Act.put,SK,SS])
    refine tkG (i:=9) rfl hHeld ?_
    (try simp only [Act.put,SK,SS])
    refine tkG (i:=10) rfl hHeld ?_
    (try simp only [Act.put,SK,SS])
    refine tkG (i:=11) rfl hHeld ?_
    (try simp only [Act.put,SK,SS])
    refine tkG (i:=12) rfl hHeld ?_
    (try simp only [Act.put,SK,SS])
    refine tkG (i:=13) rfl hHeld ?_
    (try simp only [Act.put,SK,SS])
    refine wpAnyN_step (i:=14) (by kernel_rfl) (o:=_) rfl (fun KK hKK=>?_)
    go_simp
    (go_at_call 51;(with_reducible refine HLK.out.mono ?_);rintro e W3 ⟨rfl,F3⟩;go_wp2_with fail)
    refine hKK.out _ _ ?_ (fun hHeld=>?_)
    ·exact HKE.out.2 _ F3
    clear hKK KK
    (try simp only [Act.put,SS])
    refine tkG (i:=15) rfl hHeld ?_
    (try simp only [Act.put,SK,SS])
    refine tkG (i:=16) rfl hHeld ?_
    (try simp only [Act.put,SK,SS])
    refine tkG (i:=17) rfl hHeld ?_
    (try simp only [Act.put,SK,SS])
    refine wpAnyN_done (by kernel_rfl) ?_ _
    have HF3:=Hi (((Fr.refl W2).drew:Fr (fun _=>False) W2 W2.drew).trans F3);clear F3 HLK HKE;gi_wp2
    have hown3:IxOwn W3 z (w2.heap.size+2) gs:=by
     obtain ⟨a,c,h0,h1,h2,-⟩:=HOT.out.fr HF3.out (fun k h=>h.elim);exact ⟨a,c,h0,h1,h2⟩
    exact ⟨HF3.out.mono (fun _ _ h=>h.elim),HV2.out.fr HF3.out (fun h=>h),by rw [List.length_append];show IxOwn _ _ _ ((((sideR L M).take (pre.length+1)).filterMap deltaG).map nrow);rw [HNX.out];exact hown3,HFW.out.trans HF3.out⟩
 case done=>
  rintro D W hD ⟨BV,hown,F⟩ hK
  have hix:=hown.at;rw [pairsV_len,List.take_length] at hix;have r0:=BV.cell 0;simp only [List.getElem?_toArray,List.getElem?_cons_zero] at r0;have hdw:w.heap.size≤D:=by have:=HF2.out.size;omega
  have HF5:=Hi (F.trans' (Fr.putObj (S:=fun k=>k=D) (Fr.refl W) D (fun _=>rfl) (.deferred none)) (fun i hi e=>by have e2:i=D:=e;omega));have HIX:=Hi (show IxAt (W.putObj D (.deferred none)) (pt z) ((deltaS L M).map nrow) from by
   have hfr:IxOwn (W.putObj D (.deferred none)) z (w2.heap.size+2) ((((sideR L M).take (pairsV aL aM L M 0 0).length).filterMap deltaG).map nrow):=hown.fr (Fr.putObj (S:=fun k=>k=D) (Fr.refl W) D (fun _=>rfl) (.deferred none)) (fun k e=>by have e2:k=D:=e;have:=HBA.out;omega)
   have:=hfr.at
   rw [pairsV_len,List.take_length] at this;exact this)
  clear HIT hown hix F;gi_wp2
  refine ⟨by simp,.inl ⟨_,_,rfl,run_takeDeferred hK,?_⟩⟩
  exact ⟨pt z,by simp [results,Tryz.results19,go_sem],⟨z,rfl,HIX.out⟩,HF5.out⟩
 case stop=>
  rintro D c pre W hD hpre h hK
  exact h.elim
end Go.Proofs.YtehlipgmkinfbaaGreatDoor
