/-
  Merged by program: XIxKn XIxOrW XIxBkP XIxFiP XR03M XR03C.
-/
import Derived.Test.YtehlipgmkinfbaaGreatDoorP0av
import Derived.Test.YtehlipgmkinfbaaGreatDoorP0at
set_option linter.unusedSimpArgs false
set_option maxRecDepth 100000
set_option maxHeartbeats 8000000
namespace Go.Q
open Go Go.RowKit
def knN:List (List Part):=knA.take 1
theorem knN_of:nameOfS [knT1]=.ok knN:=by kernel_rfl
theorem knN_ok:nameOk knN=true:=knA1_ok
theorem knN_fit:fitN knN:=⟨by decide,fun r hr=>⟨kn_few r (List.mem_of_mem_take hr),by
 simp only[knN,knA,List.take_succ_cons,List.take_zero,List.mem_singleton]at hr
 subst hr;exact⟨by decide,fun p hp=>by rw[List.mem_singleton.1 hp];decide⟩⟩⟩
theorem kn_fitW (k:UInt8):fitW (kRow knN k):=⟨knN_fit,by show (1:Nat)≤_;decide⟩
theorem kn_fitR (k:UInt8):fitR (kRow knN k):=⟨knN_fit,knN_ok,by show (1:Nat)≤_;decide⟩
theorem rows_one {W:World}{g:Nat}{t:TypeId}{us:List Value}{r:RowP}(B:Blk W g t us.toArray)(h1:us.length=6)(hr:RRow W us r):Go.Q.Rows W (.slice (some ⟨g,0,none⟩) 1 1) [r]:=
 ⟨_,1,rfl,Nat.le_refl _,by unfold maxLen;omega,fun _=>⟨g,0,rfl,fun i x hi=>by
  have h0:i=0:=by
   have:=(List.getElem?_eq_some_iff.1 hi).1;simp at this
   omega
  subst h0;simp only[List.getElem?_cons_zero,Option.some.injEq]at hi
  subst hi;exact⟨us,h1,fun j u hu=>by have:=B.cell (0+6*0+j);rw[this,List.getElem?_toArray];simpa using hu,hr⟩⟩⟩
theorem rows_two {W:World}{g:Nat}{t:TypeId}{us vs:List Value}{r s:RowP}(B:Blk W g t (us++vs).toArray)(h1:us.length=6)(h2:vs.length=6)(hr:RRow W us r)(hs:RRow W vs s):Go.Q.Rows W (.slice (some ⟨g,0,none⟩) 2 2) [r,s]:=
 ⟨_,2,rfl,Nat.le_refl _,by unfold maxLen;omega,fun _=>⟨g,0,rfl,fun i x hi=>by
  have h0:i=0∨i=1:=by
   have:=(List.getElem?_eq_some_iff.1 hi).1;simp at this
   omega
  rcases h0 with rfl|rfl
  ·simp only[List.getElem?_cons_zero,Option.some.injEq]at hi
   subst hi;exact⟨us,h1,fun j u hu=>by
    have hj:=(List.getElem?_eq_some_iff.1 hu).1;have:=B.cell (0+6*0+j);rw[this,List.getElem?_toArray,List.getElem?_append_left (by omega)]
    simpa using hu,hr⟩
  ·simp only[List.getElem?_cons_succ,List.getElem?_cons_zero,Option.some.injEq]at hi
   subst hi;exact⟨vs,h2,fun j u hu=>by
    have:=B.cell (0+6*1+j);rw[this,List.getElem?_toArray,List.getElem?_append_right (by omega),show 0+6*1+j-us.length=j by omega]
    exact hu,hs⟩⟩⟩
theorem LAt.move {α:Type}{sz:Nat}{R R':World→List Value→α→Prop}{w w':World}{v:Value}{l:List α}(h:LAt sz R w v l)(f:Fz w w')(hR:∀ cs x,R w cs x→R' w' cs x):LAt sz R' w' v l:=by
 obtain⟨a,c,rfl,h1,h2,h3⟩:=h
 refine⟨a,c,rfl,h1,h2,fun h0=>?_⟩
 obtain⟨b,o,rfl,hy⟩:=h3 h0
 refine⟨b,o,rfl,fun i x hx=>?_⟩
 obtain⟨cs,e1,e2,e3⟩:=hy i x hx
 exact⟨cs,e1,fun j u hu=>f.cell (e2 j u hu) (fun h=>h),hR cs x e3⟩
def Ixed (o:List RowP):Prop:=UpR o∧(∀ r∈o,nrow r=r)∧∀ r∈o,fitR r
theorem nrow_all {l:List RowP}(h:∀ r∈l,nrow r=r):l.map nrow=l:=by
 conv=>rhs;rw[←List.map_id l]
 exact List.map_congr_left h
theorem leastL_len:∀ (t l o:List RowP),(leastL t l o).1.length≤l.length+t.length
 | [],l,o=>by simp[leastL]
 |r::t,l,o=>by
  unfold leastL;split
  ·have:=leastL_len t (l++[r]) ((newR [] (o++[r])).getD [])
   simp only[List.length_append,List.length_cons,List.length_nil]at this ⊢
   omega
  ·have:=leastL_len t l o
   simp only[List.length_cons]
   omega
theorem ins_len {α κ:Type}[DecidableEq κ]{lt:κ→κ→Bool}{key:α→κ}:∀ {l:List α}{r:α}{o:List α},insS lt key l r=some o→o.length=l.length+1
 | [],r,o,h=>by
  simp only[insS,Option.some.injEq]at h
  rw[←h];rfl
 |x::t,r,o,h=>by
  unfold insS at h;split at h
  ·cases hq:insS lt key t r with
   |none=>rw[hq]at h;cases h
   |some q=>
    rw[hq]at h
    simp only[Option.map_some,Option.some.injEq]at h
    rw[←h,List.length_cons,List.length_cons,ins_len hq]
  ·split at h
   ·cases h
   ·simp only[Option.some.injEq]at h
    rw[←h];rfl
theorem new_len {α κ:Type}[DecidableEq κ]{lt:κ→κ→Bool}{key:α→κ}:∀ {l out o:List α},newS lt key out l=some o→o.length=out.length+l.length
 | [],out,o,h=>by
  simp only[newS,Option.some.injEq]at h
  rw[←h];rfl
 |r::t,out,o,h=>by
  unfold newS at h;split at h
  ·cases h
  ·rename_i q hq
   have:=new_len h;rw[this,ins_len hq,List.length_cons]
   omega
theorem least_ix (t:List RowP)(hf:∀ r∈t,fitN r.iss∧r.num.size.length≤1000000):newIx (leastL t [] []).1=.ok ((leastL t [] []).2.map nrow)∧UpR (leastL t [] []).2∧(∀ r∈(leastL t [] []).2,fitR r∧r∈t)∧Ixed ((leastL t [] []).2.map nrow)∧(leastL t [] []).2.length≤t.length∧(∀ r∈(leastL t [] []).1,r∈t):=by
 obtain⟨h1,h2,h3⟩:=least_spec t [] [] rfl rfl
 have h4:=leastL_len t [] [];generalize leastL t [] []=p at *
 obtain⟨ls,o⟩:=p
 simp only at *
 have hu:=new_some ordK (List.Pairwise.nil) h2;have hm:∀ r∈o,fitR r∧r∈t:=fun r hr=>by
  rcases (hu.2 r).1 hr with h|h
  ·cases h
  ·have ht:r∈t:=by
    rcases h3 r h with q|q
    ·cases q
    ·exact q
   refine⟨⟨(hf r ht).1,?_,(hf r ht).2⟩,ht⟩
   unfold okRows at h1;rw[List.all_eq_true]at h1
   exact h1 r h
 refine⟨?_,hu.1,hm,⟨up_map hu.1,fun r hr=>?_,fun r hr=>?_⟩,?_,fun r hr=>?_⟩
 ·unfold newIx
  rw[if_pos h1,h2]
 ·obtain⟨x,-,rfl⟩:=List.mem_map.1 hr
  exact nrow_nrow x
 ·obtain⟨x,hx,rfl⟩:=List.mem_map.1 hr
  exact fitR_nrow (hm x hx).1
 ·have hl:=new_len h2
  simp only[List.length_nil,Nat.zero_add]at hl h4
  omega
 ·rcases h3 r hr with q|q
  ·cases q
  ·exact q
def left8 (l:List RowI):List RowI:=l.filter (fun r=>decide (r.reason≠8))
theorem ahead_map (O:List RowP)(s:RowP):aheadR (O.map nrow) s=aheadR O s:=by
 unfold aheadR;rw[List.takeWhile_map,List.length_map]
 congr 2
 funext x
 show ltK (rowK (nrow x)) (rowK s)=_
 rw[rowK_nrow]
theorem rowC_nrow (x s:RowP):rowC (nrow x) s=rowC x s:=by unfold rowC;rw[rowK_nrow]
theorem place_fst {O:List RowP}(hu:UpR O)(s:RowP):(placeR s O 0).1=aheadR O s:=by
 have:=(place_at s O 0 hu).1;rwa[Nat.zero_add]at this
theorem find_law {O:List RowP}(hu:UpR O)(s:RowP)(hok:nameOk s.iss=true):(∃ x,O[aheadR O s]? = some x∧(placeR s O 0).2=true∧findR (O.map nrow) s=some (nrow x))∨((placeR s O 0).2=false∧findR (O.map nrow) s=none):=by
 have h2:=(place_at s O 0 hu).2;have hf:findR (O.map nrow) s=(match (O.map nrow)[aheadR O s]? with
  |some x=>if rowC x s=0 then some x else none
  |none=>none):=by unfold findR;rw[if_pos hok,ahead_map];cases (O.map nrow)[aheadR O s]? <;> rfl
 rw[hf,List.getElem?_map]
 cases hx:O[aheadR O s]? with
 |none=>
  refine .inr ⟨?_,rfl⟩;cases hp:(placeR s O 0).2 with
  |false=>rfl
  |true=>
   obtain⟨x,h,-⟩:=h2.1 hp
   rw[hx]at h;cases h
 |some x=>
  simp only[Option.map_some,rowC_nrow]
  by_cases hk:rowK x=rowK s
  ·rw[if_pos (rowC_zero.2 hk)]
   exact .inl ⟨x,rfl,h2.2 ⟨x,hx,hk⟩,rfl⟩
  ·rw[if_neg (fun h=>hk (rowC_zero.1 h))]
   refine .inr ⟨?_,rfl⟩;cases hp:(placeR s O 0).2 with
   |false=>rfl
   |true=>
    obtain⟨y,h,e⟩:=h2.1 hp
    rw[hx]at h
    rw[Option.some.inj h]at hk
    exact absurd e hk
theorem find_bad (X:List RowP)(s:RowP)(hok:nameOk s.iss=false):findR X s=none:=by unfold findR;rw[hok];rfl
theorem iss_map (O:List RowP)(nm:List (List Part)):issS (O.map nrow) nm=(issS O nm).map nrow:=by
 unfold issS;split
 ·rw[List.filter_map]
  rfl
 ·rfl
theorem want_iss {O:List RowP}(hf:∀ r∈O,fitR r){nm:List (List Part)}(hok:nameOk nm=true):O.filter (fun r=>nameSameS r.iss nm)=issS O nm:=by
 unfold issS;rw[if_pos hok]
 refine List.filter_congr (fun r hr=>?_);unfold nameSameS;rw[(hf r hr).2.1,hok]
 rfl
theorem iss_mem {O:List RowP}{nm:List (List Part)}:∀ r∈issS O nm,r∈O:=fun r hr=>by
 unfold issS at hr;split at hr
 ·exact(List.mem_filter.1 hr).1
 ·cases hr
theorem iss_len (O:List RowP)(nm:List (List Part)):(issS O nm).length≤O.length:=by
 unfold issS;split
 ·exact List.length_filter_le _ _
 ·exact Nat.zero_le _
theorem trim_at:∀ (l:List UInt8) (j:Nat),j≤l.length→(∀ i,i<j→l[i]? = some 0)→(∀ x,l[j]? = some x→x≠0)→trimS l=l.drop j
 | [],j,hj,_,_=>by
  have h0:j=0:=by simpa using hj
  subst h0;rfl
 |x::t,0,_,_,h2=>by
  have hx:=h2 x rfl;unfold trimS;simp[hx]
 |x::t,j+1,hj,h1,h2=>by
  have hx:x=0:=by have:=h1 0 (Nat.zero_lt_succ _);simpa using this
  subst hx;have:=trim_at t j (by simpa using hj) (fun i hi=>by have:=h1 (i+1) (by omega);rwa[List.getElem?_cons_succ]at this) (fun x hx=>h2 x (by rw[List.getElem?_cons_succ];exact hx));rw[List.drop_succ_cons,←this]
  conv=>lhs;unfold trimS
  simp
theorem natOf_pad (l:List UInt8):∀ k,natOf (List.replicate k 0++l)=natOf l
 |0=>rfl
 |k+1=>by
  rw[List.replicate_succ,List.cons_append]
  have:=natOf_pad l k;simp[natOf,this]
end Go.Q
namespace Go.Proofs.YtehlipgmkinfbaaGreatDoor
open Go Go.RowKit Go.Q
theorem kn1_any (k:Nat)(hk:k=3∨k=5)(bn:Nat)(va:Option Addr)(vc:Nat)(n:List (List Part))(w:World)(hc:w.cell? ⟨bn,0,none⟩=some (.slice va n.length vc)) :
  Calls Tryz.prog 42 #[.int .i64 k,pt bn] w fun e w'=>(∃ a c,e=.returned (.agg #[.slice va n.length vc,.bool false,.slice a 1 c,.int .i64 0,.int .i64 0,.pointer none])∧Kept (fun W=>Bytes W (.slice a 1 c) [UInt8.ofNat k]) (fun j=>j<w.heap.size) w')∧Fz w w':=by
 obtain⟨z,hz⟩:∃ z,z=w.heap.size:=⟨_,rfl⟩
 have HZ:=Hi hz;have F0:Fz w (w.alloc (.cells #[.slice none 0 0,.bool false,.slice none 0 0,.int .i64 0,.int .i64 0,.pointer none] 43)):=(Fr.refl w).alloc _;have D:=Blk.new w 43 #[.slice none 0 0,.bool false,.slice none 0 0,.int .i64 0,.int .i64 0,.pointer none];rw[←hz]at D
 have hs0:(w.alloc (.cells #[.slice none 0 0,.bool false,.slice none 0 0,.int .i64 0,.int .i64 0,.pointer none] 43)).heap.size=z+1:=by rw[World.size_alloc,hz]
 have hlow:bn<w.heap.size:=World.block_lt_of_cell? w _ hc;have HC:=Hi (F0.cell hc (fun h=>h));have HLOW:=Hi hlow;have HS0:=Hi hs0;have HF0:=Hi F0;have HOF:=Hi (fun W=>wOf_any k hk W);clear hz F0 hs0 hc hlow;go_enter Tryz.func42,Tryz.ntmps42
 go_upto_region 1 with fail
 rw[←HZ.out]
 generalize (w.alloc (.cells #[.slice none 0 0,.bool false,.slice none 0 0,.int .i64 0,.int .i64 0,.pointer none] 43))=w0 at *
 have cb:=HC.out;have G:Fz w0 w0.drew:=(Fr.refl w0).drew;refine wp_region_N 4 (S:=fun w'=>w'.cell? ⟨bn,0,none⟩=some (.slice va n.length vc)) (by kernel_rfl) ?_ (fun hHeld=>?_)
 ·exact G.cell cb (fun h=>h)
 refine tkN 0 rfl hHeld ?_;refine tkN 1 rfl hHeld ?_;(try simp only[Act.put,SS]);refine stN 2 (fun KK hKK=>?_);go_simp
 (go_at_call 43;(with_reducible refine(HOF.out _).mono ?_);rintro e w' ⟨⟨a,c,rfl,hq⟩,F⟩;have hsz:=G.size;replace G:=G.trans F;clear F;go_wp2_with fail)
 refine hKK.out _ _ ?_ (fun hHeld=>?_)
 ·exact G.cell cb (fun h=>h)
 clear hKK KK;(try simp only[Act.put,SS]);refine tkN 3 rfl hHeld ?_;(try simp only[Act.put,SS]);have D1:=D.fr G (fun h=>h);have P:=putL_all (Z:=[.slice none 0 0,.bool false,.slice none 0 0,.int .i64 0,.int .i64 0,.pointer none]) D1 (l:=[.slice va n.length vc,.bool false,.slice a 1 c,.int .i64 0,.int .i64 0,.pointer none]) rfl;have d0:=D1.cell 0;have d1:=D1.cell 1;have d2:=D1.cell 2;have d3:=D1.cell 3;have d4:=D1.cell 4;have d5:=D1.cell 5;have f0:=D1.frozen 0;have f1:=D1.frozen 1;have f2:=D1.frozen 2;have f3:=D1.frozen 3;have f4:=D1.frozen 4;have f5:=D1.frozen 5;simp only[SG]at d0 d1 d2 d3 d4 d5
 have HK:=Hi (hq.step (K':=fun j=>j<w.heap.size) P.2 (fun j hj e=>by have e2:j=z:=e;have hd:w0.drew.heap.size=w0.heap.size:=rfl;have:=HS0.out;omega) (fun j hj=>by have hd:w0.drew.heap.size=w0.heap.size:=rfl;have:=HS0.out;have:=HZ.out;exact .inl (by omega)));have HPF:=Hi ((HF0.out.trans G).trans' P.2 (fun i hi e=>by have e2:i=z:=e;have:=HZ.out;omega));have HPB:=Hi P.1;simp only[putL]at HPF HPB HK
 clear P D D1 hq;refine wpAnyN_last (i:=4) (by kernel_rfl) (by decide) (o:=_) rfl (fun KK hKK=>?_);go_simp
 skip
 refine hKK.out _ _ ?_;clear hKK KK;(try simp only[Act.put,SS]);refine wpAnyN_done (by kernel_rfl) ?_ _;clear d0 d1 d2 d3 d4 d5 f0 f1 f2 f3 f4 f5;have u0:=HPB.out.cell 0;have u1:=HPB.out.cell 1;have u2:=HPB.out.cell 2;have u3:=HPB.out.cell 3;have u4:=HPB.out.cell 4;have u5:=HPB.out.cell 5;simp only[SG]at u0 u1 u2 u3 u4 u5
 go_wp2_with fail
 exact bodyPost_ret (v:=.agg #[.slice va n.length vc,.bool false,.slice a 1 c,.int .i64 0,.int .i64 0,.pointer none]) (by simp[results,Tryz.results42,go_sem,u0,u1,u2,u3,u4,u5]) rfl ⟨⟨a,c,rfl,HK.out⟩,HPF.out⟩
theorem kn_row {W:World}{va a:Option Addr}{vc c:Nat}(k:UInt8)(h:NameAt W (.slice va knN.length vc) knN)(hb:Bytes W (.slice a 1 c) [k]):RRow W [.slice va knN.length vc,.bool false,.slice a 1 c,.int .i64 0,.int .i64 0,.pointer none] (kRow knN k):=⟨_,_,.pointer none,rfl,h,hb,rfl⟩
theorem ixKnown_any (w:World)(hE:Env w) :
  Calls Tryz.prog 12 #[] w fun e w'=>e=.returned (.bool true)∧Fz w w':=by
 have HE:=Hi hE;have F0:Fz w (w.alloc (.cells #[str knT1] 9)):=(Fr.refl w).alloc _;have hst:Strs (w.alloc (.cells #[str knT1] 9)) (.slice (some ⟨w.heap.size,0,none⟩) 1 1) [knT1]:=Vals.of_block (Blk.new w 9 #[str knT1]) (by unfold maxLen;simp);have HNO:=Hi (nameOf_any _ [knT1] _ hst (hE.old F0) (fun k hk=>by rw[List.mem_singleton.1 hk];decide) (by simp));have HF0:=Hi F0;clear hE F0 hst;go_enter Tryz.func12,Tryz.ntmps12
 go_wp2_with fail
 refine HNO.out.mono ?_;rintro e w1 ⟨hout,F1⟩;unfold NameOfOut at hout;rw[knN_of]at hout
 obtain⟨vA,rfl,hA⟩:=hout
 have hAt:=hA.at;obtain⟨va,vc,rfl⟩:=hA.shape
 have HA:=Hi hAt;have HF1:=Hi (HF0.out.trans F1);obtain⟨bn,hbn⟩:∃ bn,bn=w1.heap.size:=⟨_,rfl⟩
 have HBN:=Hi hbn;have B2:=Blk.new w1 37 #[.slice va knN.length vc];rw[←hbn]at B2
 have HB2:=Hi B2;have F2:Fz w1 (w1.alloc (.cells #[.slice va knN.length vc] 37)):=(Fr.refl w1).alloc _;have HF2:=Hi F2;clear hA hAt F1 hbn B2 F2 HNO;go_upto_region 2 with fail
 rw[←HBN.out]
 generalize (w1.alloc (.cells #[.slice va knN.length vc] 37))=w2 at *
 have HC:=Hi (fun (k:Nat) (hk:k=3∨k=5) W (F:Fz w2 W)=>kn1_any k hk bn va vc knN W (F.cell (HB2.out.cell 0) (fun h=>h)));have HN:=Hi (fun W (F:Fz w2 W)=>HA.out.old (HF2.out.trans F));have HEE:=Hi (fun W (F:Fz w2 W)=>HE.out.old ((HF1.out.trans HF2.out).trans F));clear HA HB2 HE;go_wp2_with fail
 refine(HC.out 5 (by decide) w2 (Fr.refl w2)).mono ?_
 rintro e w3 ⟨⟨a1,c1,rfl,hq1⟩,F1⟩;have HQ1:=Hi hq1;have HG1:=Hi (((Fr.refl w2)).trans F1);have HR1:=Hi F1;clear hq1 F1;go_wp2_with fail
 refine(HC.out 3 (by decide) w3 HG1.out).mono ?_
 rintro e w4 ⟨⟨a2,c2,rfl,hq2⟩,F2⟩;have FA:Fz w4 (w4.alloc (.cells #[.slice va knN.length vc,.bool false,.slice a1 1 c1,.int .i64 0,.int .i64 0,.pointer none,.slice va knN.length vc,.bool false,.slice a2 1 c2,.int .i64 0,.int .i64 0,.pointer none] 43)):=(Fr.refl w4).alloc _;have HG2:=Hi ((HG1.out.trans F2).trans FA);have HR2:=Hi ((HR1.out.trans F2).trans FA)
 have HRS:Hid (Go.Q.Rows (w4.alloc (.cells #[.slice va knN.length vc,.bool false,.slice a1 1 c1,.int .i64 0,.int .i64 0,.pointer none,.slice va knN.length vc,.bool false,.slice a2 1 c2,.int .i64 0,.int .i64 0,.pointer none] 43)) (.slice (some ⟨w4.heap.size,0,none⟩) 2 2) [kRow knN 5,kRow knN 3]):=Hi (rows_two (us:=[.slice va knN.length vc,.bool false,.slice a1 1 c1,.int .i64 0,.int .i64 0,.pointer none]) (vs:=[.slice va knN.length vc,.bool false,.slice a2 1 c2,.int .i64 0,.int .i64 0,.pointer none]) (Blk.new w4 43 #[.slice va knN.length vc,.bool false,.slice a1 1 c1,.int .i64 0,.int .i64 0,.pointer none,.slice va knN.length vc,.bool false,.slice a2 1 c2,.int .i64 0,.int .i64 0,.pointer none]) rfl rfl (kn_row 5 (HN.out _ HG2.out) ((HQ1.out.old F2).old FA).now) (kn_row 3 (HN.out _ HG2.out) (hq2.old FA).now))
 have HNW:=Hi (ixNew_any _ [kRow knN 5,kRow knN 3] _ HRS.out (fun r hr=>by simp only[List.mem_cons,List.not_mem_nil,or_false]at hr;rcases hr with rfl|rfl<;>exact kn_fitW _) (by decide) (HEE.out _ HG2.out));clear hq2 F2 FA HQ1 HRS;go_wp2_with fail
 refine HNW.out.mono ?_;rintro e w6 ⟨hout,F3⟩;unfold NewOut at hout;rw[kn_two knN_ok]at hout
 obtain⟨bA,rfl,hix⟩:=hout
 have HIA:=Hi hix;have HF6:=Hi (HG2.out.trans F3);clear hix F3 HG1 HG2 HNW HR1 HR2;go_wp2_with fail
 refine(HC.out 5 (by decide) w6 HF6.out).mono ?_
 rintro e w7 ⟨⟨a1,c1,rfl,hq1⟩,F1⟩;have FA:Fz w7 (w7.alloc (.cells #[.slice va knN.length vc,.bool false,.slice a1 1 c1,.int .i64 0,.int .i64 0,.pointer none] 43)):=(Fr.refl w7).alloc _;have HG2:=Hi ((HF6.out.trans F1).trans FA);have HG67:=Hi (F1.trans FA)
 have HRS:Hid (Go.Q.Rows (w7.alloc (.cells #[.slice va knN.length vc,.bool false,.slice a1 1 c1,.int .i64 0,.int .i64 0,.pointer none] 43)) (.slice (some ⟨w7.heap.size,0,none⟩) 1 1) [kRow knN 5]):=Hi (rows_one (us:=[.slice va knN.length vc,.bool false,.slice a1 1 c1,.int .i64 0,.int .i64 0,.pointer none]) (Blk.new w7 43 #[.slice va knN.length vc,.bool false,.slice a1 1 c1,.int .i64 0,.int .i64 0,.pointer none]) rfl (kn_row 5 (HN.out _ HG2.out) (hq1.old FA).now))
 have HNW:=Hi (ixNew_any _ [kRow knN 5] _ HRS.out (fun r hr=>by rw[List.mem_singleton.1 hr];exact kn_fitW _) (by decide) (HEE.out _ HG2.out));clear hq1 F1 FA HRS;go_wp2_with fail
 refine HNW.out.mono ?_;rintro e w8 ⟨hout,F3⟩;unfold NewOut at hout;rw[kn_one knN_ok]at hout
 obtain⟨bB,rfl,hix⟩:=hout
 have HIB:=Hi hix;have HF8:=Hi (HG2.out.trans F3);replace HIA:=Hi (HIA.out.old (HG67.out.trans F3));clear hix F3 HG2 HNW HG67;go_wp2_with fail
 refine(HC.out 5 (by decide) w8 HF8.out).mono ?_
 rintro e w9 ⟨⟨a1,c1,rfl,hq1⟩,F1⟩;have HQ1:=Hi hq1;have HG1:=Hi ((HF8.out).trans F1);have HR1:=Hi F1;clear hq1 F1;go_wp2_with fail
 refine(HC.out 5 (by decide) w9 HG1.out).mono ?_
 rintro e w10 ⟨⟨a2,c2,rfl,hq2⟩,F2⟩;have FA:Fz w10 (w10.alloc (.cells #[.slice va knN.length vc,.bool false,.slice a1 1 c1,.int .i64 0,.int .i64 0,.pointer none,.slice va knN.length vc,.bool false,.slice a2 1 c2,.int .i64 0,.int .i64 0,.pointer none] 43)):=(Fr.refl w10).alloc _;have HG2:=Hi ((HG1.out.trans F2).trans FA);have HR2:=Hi ((HR1.out.trans F2).trans FA)
 have HRS:Hid (Go.Q.Rows (w10.alloc (.cells #[.slice va knN.length vc,.bool false,.slice a1 1 c1,.int .i64 0,.int .i64 0,.pointer none,.slice va knN.length vc,.bool false,.slice a2 1 c2,.int .i64 0,.int .i64 0,.pointer none] 43)) (.slice (some ⟨w10.heap.size,0,none⟩) 2 2) [kRow knN 5,kRow knN 5]):=Hi (rows_two (us:=[.slice va knN.length vc,.bool false,.slice a1 1 c1,.int .i64 0,.int .i64 0,.pointer none]) (vs:=[.slice va knN.length vc,.bool false,.slice a2 1 c2,.int .i64 0,.int .i64 0,.pointer none]) (Blk.new w10 43 #[.slice va knN.length vc,.bool false,.slice a1 1 c1,.int .i64 0,.int .i64 0,.pointer none,.slice va knN.length vc,.bool false,.slice a2 1 c2,.int .i64 0,.int .i64 0,.pointer none]) rfl rfl (kn_row 5 (HN.out _ HG2.out) ((HQ1.out.old F2).old FA).now) (kn_row 5 (HN.out _ HG2.out) (hq2.old FA).now))
 have HNW:=Hi (ixNew_any _ [kRow knN 5,kRow knN 5] _ HRS.out (fun r hr=>by simp only[List.mem_cons,List.not_mem_nil,or_false]at hr;rcases hr with rfl|rfl<;>exact kn_fitW _) (by decide) (HEE.out _ HG2.out));clear hq2 F2 FA HQ1 HRS;go_wp2_with fail
 refine HNW.out.mono ?_;rintro e w12 ⟨hout,F3⟩;unfold NewOut at hout;rw[kn_twice knN_ok]at hout
 subst hout;have HF12:=Hi (HG2.out.trans F3);replace HIA:=Hi (HIA.out.old (HR2.out.trans F3));replace HIB:=Hi (HIB.out.old (HR2.out.trans F3));have HFA:=Hi (show ∀ r∈[kRow knN 3,kRow knN 5],fitR r from fun r hr=>by simp only[List.mem_cons,List.not_mem_nil,or_false]at hr;rcases hr with rfl|rfl<;>exact kn_fitR _);have HFB:=Hi (show ∀ r∈[kRow knN 5],fitR r from fun r hr=>by rw[List.mem_singleton.1 hr];exact kn_fitR _);have HFD:=Hi (show ∀ r∈[goneR (kRow knN 3)],fitR r from fun r hr=>by rw[List.mem_singleton.1 hr];exact kn_fitR 3);clear F3 HG1 HG2 HR1 HR2 HNW;go_wp2_with fail
 refine(ixAll_any _ _ w12 HIA.out HFA.out (by decide)).mono ?_
 rintro e w13 ⟨⟨aA,cA,rfl,hrA⟩,F13⟩;have HRA:=Hi hrA;have HDE:=Hi (ixDelta_any _ _ _ _ w13 (HIA.out.old F13) (HIB.out.old F13) HFA.out HFB.out (by decide));have HF13:=Hi (HF12.out.trans F13);clear hrA F13 HIA HIB;go_wp2_with fail
 refine HDE.out.mono ?_;rintro e w14 ⟨⟨bD,rfl,hix⟩,F14⟩;rw[kn_nrow]at hix
 have HID:=Hi (ixAll_any _ _ w14 hix HFD.out (by decide));have HF14:=Hi (HF13.out.trans F14);replace HRA:=Hi (HRA.out.old F14);clear hix F14 HDE;go_wp2_with fail
 refine HID.out.mono ?_;rintro e w15 ⟨⟨aD,cD,rfl,hrD⟩,F15⟩;have hrA:=HRA.out.old F15;have HF15:=Hi (HF14.out.trans F15);have e3:[kRow knN 3,kRow knN 5].map nrow=[kRow knN 3,kRow knN 5]:=by rw[List.map_cons,List.map_cons,List.map_nil,nrow_k _ _ rfl,nrow_k _ _ rfl]
 have e4:[goneR (kRow knN 3)].map nrow=[goneR (kRow knN 3)]:=by simp[nrow,goneR,kRow,madeS,trimS]
 rw[e3]at hrA
 rw[e4]at hrD
 obtain⟨b1,o1,cs,rfl,-,-,hR1,hc1⟩:=LAt.get hrA (i:=0) rfl
 obtain⟨b2,o2,ds,rfl,-,-,hR2,hc2⟩:=LAt.get hrD (i:=0) rfl
 obtain⟨p1,p2,p3,p4,p5,rfl,-,hb1,-⟩:=hR1.form
 obtain⟨r1,r2,r3,r4,r5,rfl,-,hb2,-⟩:=hR2.form
 have x1:w15.cell? ⟨b1,o1+1,none⟩=some (.bool false):=by have:=hc1 1 _ rfl;rw[show o1+0*6+1=o1+1 by omega]at this;exact this
 have x2:w15.cell? ⟨b1,o1+2,none⟩=some (.slice p3 1 p4):=by have:=hc1 2 _ rfl;rw[show o1+0*6+2=o1+2 by omega]at this;exact this
 have y1:w15.cell? ⟨b2,o2+1,none⟩=some (.bool false):=by have:=hc2 1 _ rfl;rw[show o2+0*6+1=o2+1 by omega]at this;exact this
 have y2:w15.cell? ⟨b2,o2+2,none⟩=some (.slice r3 1 r4):=by have:=hc2 2 _ rfl;rw[show o2+0*6+2=o2+2 by omega]at this;exact this
 have y4:w15.cell? ⟨b2,o2+4,none⟩=some (.int .i64 8):=by have:=hc2 4 _ rfl;rw[show o2+0*6+4=o2+4 by omega]at this;exact this
 have HT1:=Hi (wText3_any p3 p4 w15 hb1);have HT2:=Hi (fun W (F:Fz w15 W)=>wText3_any r3 r4 W (Vals.old hb2 F));have HY:=Hi (fun W (F:Fz w15 W)=>And.intro (F.cell y1 (fun h=>h)) (And.intro (F.cell y2 (fun h=>h)) (F.cell y4 (fun h=>h))));clear hrA hrD hR1 hR2 hc1 hc2 hb1 hb2 F15 e3 e4 y1 y2 y4 HRA HID;simp only[List.length_cons,List.length_nil,Nat.zero_add,Nat.reduceAdd] at *
 go_wp2_with fail
 refine HT1.out.mono ?_;rintro e w16 ⟨rfl,F16⟩;obtain⟨y1,y2,y4⟩:=HY.out w16 F16
 have HT3:=Hi (HT2.out w16 F16);have HF16:=Hi (HF15.out.trans F16);clear F16 x1 x2 HT1 HT2;go_wp2_with fail
 refine HT3.out.mono ?_;rintro e w17 ⟨rfl,F17⟩;have HF17:=Hi (HF1.out.trans (HF2.out.trans (HF16.out.trans F17)));clear F17 y1 y2 y4 HT3;go_wp2_with fail
 go_ret;exact⟨rfl,HF17.out⟩
theorem r03MadeG_any (b:Bool)(v:Value)(l:List UInt8)(w:World)(h:Bytes w v l)(hl:l.length≤1000000) :
  Calls Tryz.prog 78 #[.agg #[.bool b,v]] w fun e w'=>(∃ a c,e=.returned (.agg #[.bool (madeS ⟨b,l⟩).below,.slice a (trimS l).length c])∧Kept (fun W=>Bytes W (.slice a (trimS l).length c) (trimS l)) (fun k=>k<w.heap.size) w')∧Fz w w':=by
 obtain⟨a,cap,rfl,hcap,hcm,hx⟩:=h.form
 obtain⟨z,hz⟩:∃ z,z=w.heap.size:=⟨_,rfl⟩
 have HZ:=Hi hz;have F0:Fz w ((w.alloc (.cells #[.bool b,.slice a l.length cap] 54)).alloc (.cells #[.bool false,.slice none 0 0] 54)):=((Fr.refl w).alloc _).alloc _;have BA:=(Blk.new w 54 #[.bool b,.slice a l.length cap]).alloc (.cells #[.bool false,.slice none 0 0] 54);have BR:=Blk.new (w.alloc (.cells #[.bool b,.slice a l.length cap] 54)) 54 #[.bool false,.slice none 0 0];rw[World.size_alloc,←hz]at BR
 rw[←hz]at BA
 have hs0:((w.alloc (.cells #[.bool b,.slice a l.length cap] 54)).alloc (.cells #[.bool false,.slice none 0 0] 54)).heap.size=z+2:=by rw[World.size_alloc,World.size_alloc,hz]
 have HS0:=Hi hs0;have HF0:=Hi F0;have HB:=Hi (h.old F0);have HBA:=Hi BA;have HBR:=Hi BR;have HX:=Hi hx;clear h hz F0 hs0 BA BR hx;go_enter Tryz.func78,Tryz.ntmps78
 go_upto_region 1 with fail
 rw[←HZ.out]
 generalize ((w.alloc (.cells #[.bool b,.slice a l.length cap] 54)).alloc (.cells #[.bool false,.slice none 0 0] 54))=w0 at *
 have x0:=HBA.out.cell 0;have x1:=HBA.out.cell 1;simp only[SG]at x0 x1
 go_wp2_with fail
 go_loopg [3] l.length (fun g i wr=>∃ j:Nat,g=l.length-j∧j≤l.length∧i=.int .i64 j∧Hid (∀ i,i<j→l[i]? = some 0)∧wr=w0)
 case atStart=>exact⟨0,rfl,Nat.zero_le _,rfl,Hi (fun i hi=>absurd hi (Nat.not_lt_zero _)),rfl⟩
 case round=>
  obtain⟨j,hg,hj,rfl,HJ,rfl⟩:=hrel
  have HG:=Hi hg;clear hg;have hj1:(0:Int)≤(j:Int):=by omega
  have hj2:(j:Int)≤(l.length:Int):=by omega
  by_cases hjl:j<l.length
  ·obtain⟨x,hx⟩:∃ x,l[j]? = some x:=⟨_,List.getElem?_eq_getElem hjl⟩
   obtain⟨bb,o,rfl,hcell⟩:=HX.out (by omega)
   have e1:=HF0.out.cell (hcell j x hx) (fun h=>h);have q1:(j:Int)<(l.length:Int):=by omega
   by_cases h0:x=0
   ·have q2:((x.toNat:Int)==0)=true:=by rw[h0];rfl
    have HJ2:=Hi (show ∀ i,i<j+1→l[i]? = some 0 from fun i hi=>by
     rcases Nat.lt_or_ge i j with h|h
     ·exact HJ.out i h
     ·obtain rfl:i=j:=by omega
      rw[hx,h0])
    clear hx hcell h0;go_wp2_with fail
    go_roundg (l.length-(j+1))
    case measure=>rw[HG.out];omega
    case rel=>exact⟨j+1,rfl,by omega,by go_num,HJ2,rfl⟩
   ·have hx0:x.toNat≠0:=fun e=>h0 (UInt8.toNat_inj.1 e)
    have q2:((x.toNat:Int)==0)=false:=beq_eq_false_iff_ne.2 (by omega);have HT:=Hi (trim_at l j hj HJ.out (fun y hy=>by rw[hx]at hy;obtain rfl:=Option.some.inj hy;exact h0));clear hx hcell h0 hx0;obtain⟨A,hsl,hbr⟩:=bytes_rest HB.out j hj
    have FA:Fz wr (wr.alloc (.cells #[] 5)):=(Fr.refl wr).alloc _;have BG:=Blk.new wr 5 #[];have xa:=(HBA.out.alloc (.cells #[] 5)).cell 1;simp only[SG]at xa
    obtain⟨v5,w5,hrun,hown,F5,hat⟩:=append_bytes (w:=wr.alloc (.cells #[] 5)) (base:=wr.heap.size) (n:=0) (v:=.slice (some ⟨wr.heap.size,0,none⟩) 0 0) (xs:=[]) ⟨rfl,.inr ⟨wr.heap.size,0,#[],rfl,Nat.le_refl _,BG,Nat.le_refl _,by unfold maxLen;omega,rfl,rfl⟩⟩ A (l.length-j) (cap-j) (l.drop j) (hbr _ (HB.out.old FA)) (by omega) (by rw[World.size_alloc];omega)
    obtain⟨a7,m7,c7,rfl,hm7⟩:=own_shape hown
    have F15:Fz wr w5:=FA.trans' F5 (fun i hi e=>by simp only[Value.ownBlock,Option.some.injEq]at e;omega);simp only[List.nil_append]at hown
    obtain⟨s,hs⟩:∃ s,s=trimS l:=⟨_,rfl⟩
    have hsd:s=l.drop j:=by rw[hs];exact HT.out
    rw[←hsd]at hown
    have hsl2:s.length=m7:=by have:=hown.1;rw[byteCells_len]at this;omega
    have HRUN:=Hi hrun;have HOW:=Hi hown;have HF15:=Hi F15;have HSL:=Hi hsl2;have HSS:=Hi hs;have HMB:=Hi (show (madeS ⟨b,l⟩).below=(b&&decide (0<m7)) from by rw[←hsl2,hs];rfl);clear FA BG hrun hown F5 hat F15 hbr hsd hsl2 hs hm7;go_upto_region 5 with (at_builtin;refine wpList_append_run (by rfl) (.tmp 20) (.tmp 24) 38 (by rfl) _ w5 (by exact HRUN.out) ?_)
    obtain⟨y,hy⟩:∃ y,y=w5.heap.size:=⟨_,rfl⟩
    have HYY:=Hi hy;have BY:=Blk.new w5 54 #[.bool false,.slice a7 m7 c7];rw[←hy]at BY
    have hw5:=HF15.out.size;have hk5:Kept (fun W=>Bytes W (.slice a7 m7 c7) s) (fun k=>k<wr.heap.size∨w5.heap.size≤k) w5:=fun W f=>by have:=(Vals.of_own (ownsRow_fr HOW.out f (fun k hk e=>by have:=HOW.out.lt k hk;omega))).1;exact this
    have FY:Fz w5 (w5.alloc (.cells #[.bool false,.slice a7 m7 c7] 54)):=(Fr.refl w5).alloc _;have hk6:=hk5.old FY;have D6:=(HBR.out.fr HF15.out (fun h=>h)).fr FY (fun h=>h);have A6:=(HBA.out.fr HF15.out (fun h=>h)).fr FY (fun h=>h);have HF6:=Hi ((HF0.out.trans HF15.out).trans FY);have hzz:=HZ.out;have hss:=HS0.out;clear hy FY hk5 x0 x1 xa;rw[←HYY.out]
    generalize (w5.alloc (.cells #[.bool false,.slice a7 m7 c7] 54))=w6 at *
    have key:∀ cc:Bool,Blk (((w6.setCell ⟨y,0,none⟩ (.bool cc)).setCell ⟨z+1,0,none⟩ (.bool cc)).setCell ⟨z+1,1,none⟩ (.slice a7 m7 c7)) (z+1) 54 #[.bool cc,.slice a7 m7 c7]∧Kept (fun W=>Bytes W (.slice a7 m7 c7) s) (fun k=>k<w.heap.size) (((w6.setCell ⟨y,0,none⟩ (.bool cc)).setCell ⟨z+1,0,none⟩ (.bool cc)).setCell ⟨z+1,1,none⟩ (.slice a7 m7 c7))∧Fz w (((w6.setCell ⟨y,0,none⟩ (.bool cc)).setCell ⟨z+1,0,none⟩ (.bool cc)).setCell ⟨z+1,1,none⟩ (.slice a7 m7 c7))∧Blk (w6.setCell ⟨y,0,none⟩ (.bool cc)) y 54 #[.bool cc,.slice a7 m7 c7]∧Blk (w6.setCell ⟨y,0,none⟩ (.bool cc)) (z+1) 54 #[.bool false,.slice none 0 0]:=fun cc=>by
     have hyy:=HYY.out;have E1:=Fr.setCell (S:=fun k=>k=y) (p:=⟨y,0,none⟩) (Fr.refl w6) (fun _=>rfl) (.bool cc);have D7:=D6.fr E1 (by omega);have D8:=set2 D7 (.bool cc) (.slice a7 m7 c7);refine⟨D8.1,(hk6.step E1 (K':=fun k=>k<wr.heap.size∨w5.heap.size≤k) (fun k _ e=>.inr (by have e2:k=y:=e;omega)) (fun k hk=>.inl hk)).step D8.2 (fun k hk e=>.inl (by omega)) (fun k hk=>.inl (.inl (by omega))),(HF6.out.trans' E1 (fun i hi e=>by have e2:i=y:=e;omega)).trans' D8.2 (fun i hi e=>by omega),BY.set 0 _,D7⟩
    have HKEY:=Hi key;have y0:=BY.cell 0;have y1:=BY.cell 1;have fy:=BY.frozen 0;have a0:=A6.cell 0;simp only[SG]at y0 y1 a0
    clear key hk6 D6 A6 BY HRUN hzz hss hw5;cases hb0:b with
    |false=>
     rw[hb0]at a0
     have HB0:=Hi hb0;clear hb0;obtain⟨R1,R2,R3,R4,R5⟩:=HKEY.out false
     have m0:=R4.cell 0;have m1:=R4.cell 1;have d0:=R5.cell 0;have d1:=R5.cell 1;have g0:=R5.frozen 0;have g1:=R5.frozen 1;have n0:=R1.cell 0;have n1:=R1.cell 1;simp only[SG]at m0 m1 d0 d1 n0 n1
     have HR2:=Hi R2;have HR3:=Hi R3;clear R1 R2 R3 R4 R5;go_wp2_with fail
     refine bodyPost_ret (v:=.agg #[.bool false,.slice a7 m7 c7]) (by simp[results,Tryz.results78,go_sem,n0,n1]) rfl ⟨⟨a7,c7,?_,?_⟩,HR3.out⟩
     ·rw[HMB.out,←HSS.out,HSL.out,HB0.out];first|rfl|(simp[HM0.out];done)|(simp;done)
     ·rw[←HSS.out,HSL.out];exact HR2.out
    |true=>
     rw[hb0]at a0
     have HB0:=Hi hb0;rcases Nat.eq_zero_or_pos m7 with hm0|hm0
     ·skip
      have e1:¬(0:Int)<(m7:Int):=by omega
      have e2:¬0<m7:=by omega
      have e3:decide (0<m7)=false:=decide_eq_false e2;have HM0:=Hi hm0;clear hm0 hb0;obtain⟨R1,R2,R3,R4,R5⟩:=HKEY.out false
      have m0:=R4.cell 0;have m1:=R4.cell 1;have d0:=R5.cell 0;have d1:=R5.cell 1;have g0:=R5.frozen 0;have g1:=R5.frozen 1;have n0:=R1.cell 0;have n1:=R1.cell 1;simp only[SG]at m0 m1 d0 d1 n0 n1
      have HR2:=Hi R2;have HR3:=Hi R3;clear R1 R2 R3 R4 R5;go_wp2_with fail
      refine bodyPost_ret (v:=.agg #[.bool false,.slice a7 m7 c7]) (by simp[results,Tryz.results78,go_sem,n0,n1]) rfl ⟨⟨a7,c7,?_,?_⟩,HR3.out⟩
      ·rw[HMB.out,←HSS.out,HSL.out,HB0.out];first|rfl|(simp[HM0.out];done)|(simp;done)
      ·rw[←HSS.out,HSL.out];exact HR2.out
     ·skip
      have e1:(0:Int)<(m7:Int):=by omega
      have e2:0<m7:=hm0;have e3:decide (0<m7)=true:=decide_eq_true hm0;have HM0:=Hi hm0;clear hm0 hb0;obtain⟨R1,R2,R3,R4,R5⟩:=HKEY.out true
      have m0:=R4.cell 0;have m1:=R4.cell 1;have d0:=R5.cell 0;have d1:=R5.cell 1;have g0:=R5.frozen 0;have g1:=R5.frozen 1;have n0:=R1.cell 0;have n1:=R1.cell 1;simp only[SG]at m0 m1 d0 d1 n0 n1
      have HR2:=Hi R2;have HR3:=Hi R3;clear R1 R2 R3 R4 R5;go_wp2_with fail
      refine bodyPost_ret (v:=.agg #[.bool true,.slice a7 m7 c7]) (by simp[results,Tryz.results78,go_sem,n0,n1]) rfl ⟨⟨a7,c7,?_,?_⟩,HR3.out⟩
      ·rw[HMB.out,←HSS.out,HSL.out,HB0.out];first|rfl|(simp[HM0.out];done)|(simp;done)
      ·rw[←HSS.out,HSL.out];exact HR2.out
  ·have q1:¬(j:Int)<(l.length:Int):=by omega
   have HT:=Hi (trim_at l j hj HJ.out (fun y hy=>absurd (List.getElem?_eq_some_iff.1 hy).1 hjl));obtain⟨A,hsl,hbr⟩:=bytes_rest HB.out j hj
   have FA:Fz wr (wr.alloc (.cells #[] 5)):=(Fr.refl wr).alloc _;have BG:=Blk.new wr 5 #[];have xa:=(HBA.out.alloc (.cells #[] 5)).cell 1;simp only[SG]at xa
   obtain⟨v5,w5,hrun,hown,F5,hat⟩:=append_bytes (w:=wr.alloc (.cells #[] 5)) (base:=wr.heap.size) (n:=0) (v:=.slice (some ⟨wr.heap.size,0,none⟩) 0 0) (xs:=[]) ⟨rfl,.inr ⟨wr.heap.size,0,#[],rfl,Nat.le_refl _,BG,Nat.le_refl _,by unfold maxLen;omega,rfl,rfl⟩⟩ A (l.length-j) (cap-j) (l.drop j) (hbr _ (HB.out.old FA)) (by omega) (by rw[World.size_alloc];omega)
   obtain⟨a7,m7,c7,rfl,hm7⟩:=own_shape hown
   have F15:Fz wr w5:=FA.trans' F5 (fun i hi e=>by simp only[Value.ownBlock,Option.some.injEq]at e;omega);simp only[List.nil_append]at hown
   obtain⟨s,hs⟩:∃ s,s=trimS l:=⟨_,rfl⟩
   have hsd:s=l.drop j:=by rw[hs];exact HT.out
   rw[←hsd]at hown
   have hsl2:s.length=m7:=by have:=hown.1;rw[byteCells_len]at this;omega
   have HRUN:=Hi hrun;have HOW:=Hi hown;have HF15:=Hi F15;have HSL:=Hi hsl2;have HSS:=Hi hs;have HMB:=Hi (show (madeS ⟨b,l⟩).below=(b&&decide (0<m7)) from by rw[←hsl2,hs];rfl);clear FA BG hrun hown F5 hat F15 hbr hsd hsl2 hs hm7;go_upto_region 5 with (at_builtin;refine wpList_append_run (by rfl) (.tmp 20) (.tmp 24) 38 (by rfl) _ w5 (by exact HRUN.out) ?_)
   obtain⟨y,hy⟩:∃ y,y=w5.heap.size:=⟨_,rfl⟩
   have HYY:=Hi hy;have BY:=Blk.new w5 54 #[.bool false,.slice a7 m7 c7];rw[←hy]at BY
   have hw5:=HF15.out.size;have hk5:Kept (fun W=>Bytes W (.slice a7 m7 c7) s) (fun k=>k<wr.heap.size∨w5.heap.size≤k) w5:=fun W f=>by have:=(Vals.of_own (ownsRow_fr HOW.out f (fun k hk e=>by have:=HOW.out.lt k hk;omega))).1;exact this
   have FY:Fz w5 (w5.alloc (.cells #[.bool false,.slice a7 m7 c7] 54)):=(Fr.refl w5).alloc _;have hk6:=hk5.old FY;have D6:=(HBR.out.fr HF15.out (fun h=>h)).fr FY (fun h=>h);have A6:=(HBA.out.fr HF15.out (fun h=>h)).fr FY (fun h=>h);have HF6:=Hi ((HF0.out.trans HF15.out).trans FY);have hzz:=HZ.out;have hss:=HS0.out;clear hy FY hk5 x0 x1 xa;rw[←HYY.out]
   generalize (w5.alloc (.cells #[.bool false,.slice a7 m7 c7] 54))=w6 at *
   have key:∀ cc:Bool,Blk (((w6.setCell ⟨y,0,none⟩ (.bool cc)).setCell ⟨z+1,0,none⟩ (.bool cc)).setCell ⟨z+1,1,none⟩ (.slice a7 m7 c7)) (z+1) 54 #[.bool cc,.slice a7 m7 c7]∧Kept (fun W=>Bytes W (.slice a7 m7 c7) s) (fun k=>k<w.heap.size) (((w6.setCell ⟨y,0,none⟩ (.bool cc)).setCell ⟨z+1,0,none⟩ (.bool cc)).setCell ⟨z+1,1,none⟩ (.slice a7 m7 c7))∧Fz w (((w6.setCell ⟨y,0,none⟩ (.bool cc)).setCell ⟨z+1,0,none⟩ (.bool cc)).setCell ⟨z+1,1,none⟩ (.slice a7 m7 c7))∧Blk (w6.setCell ⟨y,0,none⟩ (.bool cc)) y 54 #[.bool cc,.slice a7 m7 c7]∧Blk (w6.setCell ⟨y,0,none⟩ (.bool cc)) (z+1) 54 #[.bool false,.slice none 0 0]:=fun cc=>by
    have hyy:=HYY.out;have E1:=Fr.setCell (S:=fun k=>k=y) (p:=⟨y,0,none⟩) (Fr.refl w6) (fun _=>rfl) (.bool cc);have D7:=D6.fr E1 (by omega);have D8:=set2 D7 (.bool cc) (.slice a7 m7 c7);refine⟨D8.1,(hk6.step E1 (K':=fun k=>k<wr.heap.size∨w5.heap.size≤k) (fun k _ e=>.inr (by have e2:k=y:=e;omega)) (fun k hk=>.inl hk)).step D8.2 (fun k hk e=>.inl (by omega)) (fun k hk=>.inl (.inl (by omega))),(HF6.out.trans' E1 (fun i hi e=>by have e2:i=y:=e;omega)).trans' D8.2 (fun i hi e=>by omega),BY.set 0 _,D7⟩
   have HKEY:=Hi key;have y0:=BY.cell 0;have y1:=BY.cell 1;have fy:=BY.frozen 0;have a0:=A6.cell 0;simp only[SG]at y0 y1 a0
   clear key hk6 D6 A6 BY HRUN hzz hss hw5;cases hb0:b with
   |false=>
    rw[hb0]at a0
    have HB0:=Hi hb0;clear hb0;obtain⟨R1,R2,R3,R4,R5⟩:=HKEY.out false
    have m0:=R4.cell 0;have m1:=R4.cell 1;have d0:=R5.cell 0;have d1:=R5.cell 1;have g0:=R5.frozen 0;have g1:=R5.frozen 1;have n0:=R1.cell 0;have n1:=R1.cell 1;simp only[SG]at m0 m1 d0 d1 n0 n1
    have HR2:=Hi R2;have HR3:=Hi R3;clear R1 R2 R3 R4 R5;go_wp2_with fail
    refine bodyPost_ret (v:=.agg #[.bool false,.slice a7 m7 c7]) (by simp[results,Tryz.results78,go_sem,n0,n1]) rfl ⟨⟨a7,c7,?_,?_⟩,HR3.out⟩
    ·rw[HMB.out,←HSS.out,HSL.out,HB0.out];first|rfl|(simp[HM0.out];done)|(simp;done)
    ·rw[←HSS.out,HSL.out];exact HR2.out
   |true=>
    rw[hb0]at a0
    have HB0:=Hi hb0;rcases Nat.eq_zero_or_pos m7 with hm0|hm0
    ·skip
     have e1:¬(0:Int)<(m7:Int):=by omega
     have e2:¬0<m7:=by omega
     have e3:decide (0<m7)=false:=decide_eq_false e2;have HM0:=Hi hm0;clear hm0 hb0;obtain⟨R1,R2,R3,R4,R5⟩:=HKEY.out false
     have m0:=R4.cell 0;have m1:=R4.cell 1;have d0:=R5.cell 0;have d1:=R5.cell 1;have g0:=R5.frozen 0;have g1:=R5.frozen 1;have n0:=R1.cell 0;have n1:=R1.cell 1;simp only[SG]at m0 m1 d0 d1 n0 n1
     have HR2:=Hi R2;have HR3:=Hi R3;clear R1 R2 R3 R4 R5;go_wp2_with fail
     refine bodyPost_ret (v:=.agg #[.bool false,.slice a7 m7 c7]) (by simp[results,Tryz.results78,go_sem,n0,n1]) rfl ⟨⟨a7,c7,?_,?_⟩,HR3.out⟩
     ·rw[HMB.out,←HSS.out,HSL.out,HB0.out];first|rfl|(simp[HM0.out];done)|(simp;done)
     ·rw[←HSS.out,HSL.out];exact HR2.out
    ·skip
     have e1:(0:Int)<(m7:Int):=by omega
     have e2:0<m7:=hm0;have e3:decide (0<m7)=true:=decide_eq_true hm0;have HM0:=Hi hm0;clear hm0 hb0;obtain⟨R1,R2,R3,R4,R5⟩:=HKEY.out true
     have m0:=R4.cell 0;have m1:=R4.cell 1;have d0:=R5.cell 0;have d1:=R5.cell 1;have g0:=R5.frozen 0;have g1:=R5.frozen 1;have n0:=R1.cell 0;have n1:=R1.cell 1;simp only[SG]at m0 m1 d0 d1 n0 n1
     have HR2:=Hi R2;have HR3:=Hi R3;clear R1 R2 R3 R4 R5;go_wp2_with fail
     refine bodyPost_ret (v:=.agg #[.bool true,.slice a7 m7 c7]) (by simp[results,Tryz.results78,go_sem,n0,n1]) rfl ⟨⟨a7,c7,?_,?_⟩,HR3.out⟩
     ·rw[HMB.out,←HSS.out,HSL.out,HB0.out];first|rfl|(simp[HM0.out];done)|(simp;done)
     ·rw[←HSS.out,HSL.out];exact HR2.out
theorem pad_one {w:World}{l:List UInt8}{n c:Nat}{a:Option Addr}(h:Bytes w (.slice a n c) l)(hl:l.length≤1000000) :
  ∃ a' c' w',(Builtin.append_ #[38,38] 38 #[.slice (some ⟨w.heap.size,0,none⟩) 1 1,.slice a n c]).run Tryz.prog (w.alloc (.cells #[.int .u8 0] 5))=.ok (.slice a' (n+1) c') w'∧Bytes w' (.slice a' (n+1) c') (0::l)∧Fz w w':=by
 have FA:Fz w (w.alloc (.cells #[.int .u8 0] 5)):=(Fr.refl w).alloc _;have BG:=Blk.new w 5 #[.int .u8 0];have hn:n=l.length:=by
  obtain⟨_,_,he,-⟩:=Vals.form h
  simp only[Value.slice.injEq]at he
  exact he.2.1
 obtain⟨v5,w5,hrun,hown,F5,hat⟩:=append_bytes (w:=w.alloc (.cells #[.int .u8 0] 5)) (base:=w.heap.size) (n:=1) (v:=.slice (some ⟨w.heap.size,0,none⟩) 1 1) (xs:=[0]) ⟨rfl,.inr ⟨w.heap.size,1,#[.int .u8 0],rfl,Nat.le_refl _,BG,Nat.le_refl _,by unfold maxLen;omega,rfl,rfl⟩⟩ a n c l (h.old FA) (by omega) (by rw[World.size_alloc];omega)
 obtain⟨a7,m7,c7,rfl,hm7⟩:=own_shape hown
 have hv:=(Vals.of_own hown).1;have hm:m7=n+1:=by have:=hown.1;rw[byteCells_len]at this;simp at this;omega
 subst hm;exact⟨a7,c7,w5,hrun,hv,FA.trans' F5 (fun i hi e=>by simp only[Value.ownBlock,Option.some.injEq]at e;omega)⟩
theorem r03Sizes_any (v u:Value)(a b:List UInt8)(w:World)(h:Bytes w v a)(hu:Bytes w u b)(ha:a.length≤1000000)(hb:b.length≤1000000) :
  Calls Tryz.prog 109 #[v,u] w fun e w'=>e=.returned (.int .i64 (cmpZ (natOf a) (natOf b)))∧Fz w w':=by
 obtain⟨a1,c1,rfl,-⟩:=h.form
 obtain⟨a2,c2,rfl,-⟩:=hu.form
 have HA:=Hi h;have HU:=Hi hu;clear h hu;go_enter Tryz.func109,Tryz.ntmps109
 go_wp2_with fail
 go_loopg [0] (b.length-a.length) (fun g s wr=>∃ (k:Nat) (l:List UInt8) (p:Option Addr) (c:Nat),g=b.length-l.length∧l.length≤1000000∧s=.slice p l.length c∧Hid (l=List.replicate k 0++a)∧Hid (k=0∨l.length≤b.length)∧Hid (Bytes wr (.slice p l.length c) l)∧Hid (Fz w wr))
 case atStart=>exact⟨0,a,a1,c1,rfl,ha,rfl,Hi rfl,Hi (.inl rfl),HA,Hi (Fr.refl _)⟩
 case round=>
  obtain⟨k,l,p,c,hg,hl,rfl,HL,HK,HB,HF⟩:=hrel
  have HG:=Hi hg;clear hg;by_cases hlt:l.length<b.length
  ·have q1:(l.length:Int)<(b.length:Int):=by omega
   obtain⟨p',c',w',hrun,hv,F⟩:=pad_one HB.out (by omega)
   have HRUN:=Hi hrun;have HV:=Hi hv;have HF2:=Hi (HF.out.trans F);have HL2:=Hi (show 0::l=List.replicate (k+1) 0++a from by rw[HL.out,List.replicate_succ];rfl);have hbb:=hb;clear hrun hv F;go_wp2_with (at_builtin;refine wpList_append_run (by rfl) (.tmp 11) (.tmp 12) 38 (by rfl) _ w' (by exact HRUN.out) ?_)
   go_roundg (b.length-(l.length+1))
   case measure=>rw[HG.out];omega
   case rel=>exact⟨k+1,0::l,p',c',by rw[List.length_cons],by rw[List.length_cons];omega,by rw[List.length_cons],HL2,Hi (.inr (by rw[List.length_cons];omega)),Hi (by rw[List.length_cons];exact HV.out),HF2⟩
  ·have q1:¬(l.length:Int)<(b.length:Int):=by omega
   go_wp2_with fail
   clear q1;have HGE:=Hi (show b.length≤l.length from by omega);have HL1:=Hi hl;clear hl hlt HG;go_loopg [1] (l.length-b.length) (fun g s wr=>∃ (j:Nat) (m:List UInt8) (p':Option Addr) (c':Nat),g=l.length-m.length∧m.length≤1000000∧s=.slice p' m.length c'∧Hid (m=List.replicate j 0++b)∧Hid (j=0∨m.length≤l.length)∧Hid (Bytes wr (.slice p' m.length c') m)∧Hid (Bytes wr (.slice p l.length c) l)∧Hid (Fz w wr))
   case atStart=>exact⟨0,b,a2,c2,rfl,hb,rfl,Hi rfl,Hi (.inl rfl),Hi (HU.out.old HF.out),HB,HF⟩
   case round=>
    obtain⟨j,m,p',c',hg,hm,rfl,HM,HJ,HBM,HB,HF⟩:=hrel
    have HG:=Hi hg;clear hg;by_cases hlt:m.length<l.length
    ·have q1:(m.length:Int)<(l.length:Int):=by omega
     obtain⟨p'',c'',w',hrun,hv,F⟩:=pad_one HBM.out (by omega)
     have HRUN:=Hi hrun;have HV:=Hi hv;have HB2:=Hi (HB.out.old F);have HF2:=Hi (HF.out.trans F);have HM2:=Hi (show 0::m=List.replicate (j+1) 0++b from by rw[HM.out,List.replicate_succ];rfl);have hll:=HL1.out;clear hrun hv F;go_wp2_with (at_builtin;refine wpList_append_run (by rfl) (.tmp 19) (.tmp 20) 38 (by rfl) _ w' (by exact HRUN.out) ?_)
     go_roundg (l.length-(m.length+1))
     case measure=>rw[HG.out];omega
     case rel=>exact⟨j+1,0::m,p'',c'',by rw[List.length_cons],by rw[List.length_cons];omega,by rw[List.length_cons],HM2,Hi (.inr (by rw[List.length_cons];omega)),Hi (by rw[List.length_cons];exact HV.out),HB2,HF2⟩
    ·have q1:¬(m.length:Int)<(l.length:Int):=by omega
     have hlm:l.length=m.length:=by
      rcases HJ.out with h|h
      ·have:m=b:=by rw[HM.out,h];rfl
       rw[this]at hlt ⊢
       have:=HGE.out;omega
      ·omega
     have HLM:=Hi hlm;have HCZ:=Hi (show cmpS l m=cmpZ (natOf a) (natOf b) from by rw[cmpS_nat hlm,HL.out,HM.out,natOf_pad,natOf_pad]);have hmx:m.length≤1000000:=hm;clear q1 hlt hm hlm HG;have q1:¬(m.length:Int)<(l.length:Int):=by have:=HLM.out;omega
     go_wp2_with fail
     clear q1;go_loopg [5] l.length (fun g s wr=>∃ i:Nat,g=l.length-i∧i≤l.length∧s=.int .i64 i∧Hid (cmpS (l.drop i) (m.drop i)=cmpZ (natOf a) (natOf b))∧Hid (Bytes wr (.slice p' m.length c') m)∧Hid (Bytes wr (.slice p l.length c) l)∧Hid (Fz w wr))
     case atStart=>exact⟨0,rfl,Nat.zero_le _,rfl,HCZ,HBM,HB,HF⟩
     case round=>
      obtain⟨i,hg,hi,rfl,HC,HBM,HB,HF⟩:=hrel
      have HG:=Hi hg;clear hg;have hj1:(0:Int)≤(i:Int):=by omega
      by_cases hil:i<l.length
      ·have hiL:(i:Int)<(l.length:Int):=by omega
       have hiM:(i:Int)<(m.length:Int):=by have:=HLM.out;omega
       have hi2:i<m.length:=by omega
       obtain⟨x,hx⟩:∃ x,l[i]? = some x:=⟨_,List.getElem?_eq_getElem hil⟩
       obtain⟨y,hy⟩:∃ y,m[i]? = some y:=⟨_,List.getElem?_eq_getElem hi2⟩
       obtain⟨p0,c0,he,-,-,hX⟩:=HB.out.form
       simp only[Value.slice.injEq]at he
       obtain⟨rfl,-,rfl⟩:=he
       obtain⟨p1,c1',he,-,-,hY⟩:=HBM.out.form
       simp only[Value.slice.injEq]at he
       obtain⟨rfl,-,rfl⟩:=he
       obtain⟨b1,o1,rfl,hcx⟩:=hX (by omega)
       obtain⟨b2,o2,rfl,hcy⟩:=hY (by omega)
       have e1:=hcx i x hx;have e2:=hcy i y hy;have hdx:l.drop i=x::l.drop (i+1):=by rw[List.drop_eq_getElem_cons hil];rw[List.getElem?_eq_getElem hil]at hx;rw[Option.some.inj hx]
       have hdy:m.drop i=y::m.drop (i+1):=by rw[List.drop_eq_getElem_cons hi2];rw[List.getElem?_eq_getElem hi2]at hy;rw[Option.some.inj hy]
       have HCC:=HC.out;rw[hdx,hdy]at HCC
       unfold cmpS at HCC;clear hx hy hcx hcy hX hY hdx hdy;by_cases hxy:x=y
       ·subst hxy
        rw[if_pos rfl]at HCC
        have HC2:=Hi HCC;have r1:¬(x.toNat:Int)<(x.toNat:Int):=by omega
        clear HCC;go_wp2_with fail
        go_quiet (fail)
        go_wp2_with fail
        go_quiet (fail)
        go_wp2_with fail
        go_roundg (l.length-(i+1))
        case measure=>rw[HG.out];omega
        case rel=>exact⟨i+1,rfl,by omega,by go_num,HC2,Hi (HBM.out.old ((Fr.refl _).drewN _)),Hi (HB.out.old ((Fr.refl _).drewN _)),Hi (HF.out.drewN _)⟩
       ·rw[if_neg hxy]at HCC
        have hne:x.toNat≠y.toNat:=fun e=>hxy (UInt8.toNat_inj.1 e)
        by_cases hlt:x.toNat<y.toNat
        ·rw[if_pos hlt]at HCC
         have HC2:=Hi HCC;have r1:(x.toNat:Int)<(y.toNat:Int):=by omega
         clear HCC hne hxy hlt;go_wp2_with fail
         go_quiet (fail)
         go_wp2_with fail
         go_ret;exact⟨by rw[←HC2.out]<;>rfl,by first|exact HF.out.drewN _|exact(HF.out.drewN _).drewN _⟩
        ·rw[if_neg hlt]at HCC
         have HC2:=Hi HCC;have r1:¬(x.toNat:Int)<(y.toNat:Int):=by omega
         have r2:(y.toNat:Int)<(x.toNat:Int):=by omega
         clear HCC hne hxy hlt;go_wp2_with fail
         go_quiet (fail)
         go_wp2_with fail
         go_quiet (fail)
         go_wp2_with fail
         go_ret;exact⟨by rw[←HC2.out]<;>rfl,by first|exact HF.out.drewN _|exact(HF.out.drewN _).drewN _⟩
      ·have hiL:¬(i:Int)<(l.length:Int):=by omega
       have HC2:=Hi (show (0:Int)=cmpZ (natOf a) (natOf b) from by
        have h:=HC.out;rw[List.drop_eq_nil_of_le (by omega),List.drop_eq_nil_of_le (by have:=HLM.out;omega)]at h
        exact h)
       go_wp2_with fail
       go_ret;exact⟨by rw[←HC2.out]<;>rfl,HF.out⟩
theorem r03Made_as (b:Bool)(v:Value)(l:List UInt8)(x:NumT)(hx:x=madeS ⟨b,l⟩)(w:World)(h:Bytes w v l)(hl:l.length≤1000000) :
  Calls Tryz.prog 78 #[.agg #[.bool b,v]] w fun e w'=>(∃ a c,e=.returned (.agg #[.bool x.below,.slice a x.size.length c])∧Kept (fun W=>Bytes W (.slice a x.size.length c) x.size) (fun k=>k<w.heap.size) w')∧Fz w w':=by
 subst hx;exact r03MadeG_any b v l w h (by omega)
theorem r03Sizes_as (v u:Value)(a b:List UInt8)(la:Lean0 a)(lb:Lean0 b)(w:World)(h:Bytes w v a)(hu:Bytes w u b)(ha:a.length≤1000000)(hb:b.length≤1000000) :
  Calls Tryz.prog 109 #[v,u] w fun e w'=>e=.returned (.int .i64 (sizesS a b))∧Fz w w':=by
 rw[sizes_nat la lb]
 exact r03Sizes_any v u a b w h hu ha hb
theorem r03Compare_any (b1 b2:Bool)(v u:Value)(s1 s2:List UInt8)(w:World)(h:Bytes w v s1)(hu:Bytes w u s2)(h1:s1.length≤1000000)(h2:s2.length≤1000000) :
  Calls Tryz.prog 71 #[.agg #[.bool b1,v],.agg #[.bool b2,u]] w fun e w'=>e=.returned (.int .i64 (numC ⟨b1,s1⟩ ⟨b2,s2⟩))∧Fz w w':=by
 rw[numC_made]
 obtain⟨x,hx⟩:∃ x,x=madeS ⟨b1,s1⟩:=⟨_,rfl⟩
 obtain⟨y,hy⟩:∃ y,y=madeS ⟨b2,s2⟩:=⟨_,rfl⟩
 rw[←hx,←hy]
 have hxl:x.size.length≤1000000:=by rw[hx];have:=trimS_le s1;show (trimS s1).length≤_;omega
 have hyl:y.size.length≤1000000:=by rw[hy];have:=trimS_le s2;show (trimS s2).length≤_;omega
 obtain⟨r,hr⟩:∃ r,r=(if x.below&&!y.below then (-1:Int) else if !x.below&&y.below then 1 else if x.below then sizesS y.size x.size else sizesS x.size y.size):=⟨_,rfl⟩
 have HR:=Hi hr;rw[←hr]
 clear hr;obtain⟨a1,c1,rfl,-⟩:=h.form
 obtain⟨a2,c2,rfl,-⟩:=hu.form
 obtain⟨z,hz⟩:∃ z,z=w.heap.size:=⟨_,rfl⟩
 have HZ:=Hi hz;have F0:Fz w ((w.alloc (.cells #[.bool b1,.slice a1 s1.length c1] 54)).alloc (.cells #[.bool b2,.slice a2 s2.length c2] 54)):=((Fr.refl w).alloc _).alloc _;have BA:=(Blk.new w 54 #[.bool b1,.slice a1 s1.length c1]).alloc (.cells #[.bool b2,.slice a2 s2.length c2] 54);have BB:=Blk.new (w.alloc (.cells #[.bool b1,.slice a1 s1.length c1] 54)) 54 #[.bool b2,.slice a2 s2.length c2];rw[World.size_alloc,←hz]at BB
 rw[←hz]at BA
 have HM1:=Hi (fun W (F:Fz ((w.alloc (.cells #[.bool b1,.slice a1 s1.length c1] 54)).alloc (.cells #[.bool b2,.slice a2 s2.length c2] 54)) W)=>r03Made_as b1 _ s1 x hx W ((h.old F0).old F) h1);have HM2:=Hi (fun W (F:Fz ((w.alloc (.cells #[.bool b1,.slice a1 s1.length c1] 54)).alloc (.cells #[.bool b2,.slice a2 s2.length c2] 54)) W)=>r03Made_as b2 _ s2 y hy W ((hu.old F0).old F) h2);have HS0:=Hi (show ((w.alloc (.cells #[.bool b1,.slice a1 s1.length c1] 54)).alloc (.cells #[.bool b2,.slice a2 s2.length c2] 54)).heap.size=z+2 from by rw[World.size_alloc,World.size_alloc,hz]);have HF0:=Hi F0
 have HLX:=Hi (show Lean0 x.size from by rw[hx];exact trim_lean _);have HLY:=Hi (show Lean0 y.size from by rw[hy];exact trim_lean _);clear h hu hz F0 hx hy;go_enter Tryz.func71,Tryz.ntmps71
 go_upto_region 1 with fail
 rw[←HZ.out]
 generalize ((w.alloc (.cells #[.bool b1,.slice a1 s1.length c1] 54)).alloc (.cells #[.bool b2,.slice a2 s2.length c2] 54))=w0 at *
 replace BA:=BA.drew;replace BB:=BB.drew;have G:Fz w0 w0.drew:=(Fr.refl w0).drew;refine wp_region_2 4 5 (C1:=fun w'=>∀ j,w'.cell? ⟨z,j,none⟩=(#[.bool b1,.slice a1 s1.length c1]:Array Value)[j]?) (C2:=fun w'=>∀ j,w'.cell? ⟨z+1,j,none⟩=(#[.bool b2,.slice a2 s2.length c2]:Array Value)[j]?) (by kernel_rfl) (BA.cell) (BB.cell) (fun hTwo=>?_);refine wpAny2_takeA (i:=0) (oi:=_) (v:=?_) rfl (by kernel_rfl) (by kernel_rfl) (by kernel_rfl) (by kernel_rfl) (by decide) (by kernel_rfl) (fun _ _ _ h=>h) (Or.inl ⟨by rfl,?_⟩) (by assumption) (fun hT2=>?_);rotate_left
 ·(intro W hSw;(try dsimp only at hSw);go_simp;try with_reducible rfl)
 replace hTwo:=hT2;clear hT2;(try simp only[Act.put,SS]);refine wpAny2_takeB (i:=2) (oi:=_) (v:=?_) rfl (by kernel_rfl) (by kernel_rfl) (by kernel_rfl) (by kernel_rfl) (by decide) (by kernel_rfl) (fun _ _ _ h=>h) (Or.inl ⟨by rfl,?_⟩) (by assumption) (fun hT2=>?_);rotate_left
 ·(intro W hSw;(try dsimp only at hSw);go_simp;try with_reducible rfl)
 replace hTwo:=hT2;clear hT2;(try simp only[Act.put,SS]);refine wpAny2_ready (rs:=[1]) (by kernel_rfl) (by simp) ?_;refine All2.cons (o:=_) rfl (fun KK hKK=>?_) All2.nil;go_simp
 (go_at_call 78;(with_reducible refine(HM1.out _ G).mono ?_);rintro e w' ⟨⟨p1,q1,rfl,hk1⟩,F⟩;have hsz:=G.size;replace BA:=BA.fr F (fun h=>h);replace BB:=BB.fr F (fun h=>h);replace G:=G.trans F;clear F HM1;go_wp2_with fail)
 refine hKK.out _ _ ?_ (fun hT2=>?_)
 ·exact⟨fun _=>BA.cell,fun _=>BB.cell⟩
 clear hKK KK;replace hTwo:=hT2;clear hT2;(try simp only[Act.put,SS]);refine wpAny2_ready (rs:=[3]) (by kernel_rfl) (by simp) ?_;refine All2.cons (o:=_) rfl (fun KK hKK=>?_) All2.nil;go_simp
 (go_at_call 78;(with_reducible refine(HM2.out _ G).mono ?_);rintro e w' ⟨⟨p2,q2,rfl,hk2⟩,F⟩;have hsz2:=G.size;replace BA:=BA.fr F (fun h=>h);replace BB:=BB.fr F (fun h=>h);replace hk1:=hk1.old F;replace G:=G.trans F;clear F HM2;go_wp2_with fail)
 refine hKK.out _ _ ?_ (fun hT2=>?_)
 ·exact⟨fun _=>BA.cell,fun _=>BB.cell⟩
 clear hKK KK;replace hTwo:=hT2;clear hT2;(try simp only[Act.put,SS]);have X1:=set2 BA (.bool x.below) (.slice p1 x.size.length q1);have Y0:=BB.fr X1.2 (by omega);have Y1:=set2 Y0 (.bool y.below) (.slice p2 y.size.length q2);have X2:=X1.1.fr Y1.2 (by omega);have d0:=BA.cell 0;have d1:=BA.cell 1;have f0:=BA.frozen 0;have f1:=BA.frozen 1;have e0:=Y0.cell 0;have e1:=Y0.cell 1;have g0:=Y0.frozen 0;have g1:=Y0.frozen 1;simp only[SG]at d0 d1 e0 e1
 refine wpAny2_ready (rs:=[4]) (by kernel_rfl) (by simp) ?_;refine All2.cons (o:=_) rfl (fun KK hKK=>?_) All2.nil;go_simp
 skip
 refine hKK.out _ _ ?_ (fun hT2=>?_)
 ·exact⟨(fun h=>absurd (h.symm.trans (by kernel_rfl:_=true)) (by decide)),fun _=>Y0.cell⟩
 clear hKK KK;replace hTwo:=hT2;clear hT2;(try simp only[Act.put,SS]);refine wpAny2_ready (rs:=[5]) (by kernel_rfl) (by simp) ?_;refine All2.cons (o:=_) rfl (fun KK hKK=>?_) All2.nil;go_simp
 skip
 refine hKK.out _ _ ?_ (fun hT2=>?_)
 ·exact⟨(fun h=>absurd (h.symm.trans (by kernel_rfl:_=true)) (by decide)),(fun h=>absurd (h.symm.trans (by kernel_rfl:_=true)) (by decide))⟩
 clear hKK KK;replace hTwo:=hT2;clear hT2;(try simp only[Act.put,SS]);refine wpAny2_done (by kernel_rfl) ?_ _;have hsd:w0.drew.heap.size=w0.heap.size:=rfl;obtain⟨w3,hw3⟩:∃ w3,w3=((((w'.setCell ⟨z,0,none⟩ (.bool x.below)).setCell ⟨z,1,none⟩ (.slice p1 x.size.length q1)).setCell ⟨z+1,0,none⟩ (.bool y.below)).setCell ⟨z+1,1,none⟩ (.slice p2 y.size.length q2)):=⟨_,rfl⟩
 have F3:Fr (fun k=>k=z∨k=z+1) w' w3:=by rw[hw3];exact(X1.2.mono (fun k _ e=>.inl e)).trans (Y1.2.mono (fun k _ e=>.inr e))
 have hb1:=hk1 w3 (F3.mono (fun k _ e=>by have:=HS0.out;omega));have hb2:=hk2 w3 (F3.mono (fun k _ e=>by have:=HS0.out;omega));have HF3:=Hi ((HF0.out.trans G).trans' F3 (fun i hi e=>by have:=HZ.out;omega));rw[←hw3]at X2
 have Y3:=Y1.1;rw[←hw3]at Y3
 rw[←hw3]
 have HC1:=Hi (r03Sizes_as _ _ x.size y.size HLX.out HLY.out w3 hb1 hb2 (by omega) (by omega));have HC2:=Hi (r03Sizes_as _ _ y.size x.size HLY.out HLX.out w3 hb2 hb1 (by omega) (by omega));clear d0 d1 f0 f1 e0 e1 g0 g1 hTwo X1 Y0 Y1 hk1 hk2 hb1 hb2 F3 hw3 BA BB G hsz hsz2;try clear hTwo
 have d0:=X2.cell 0;have d1:=X2.cell 1;have e0:=Y3.cell 0;have e1:=Y3.cell 1;simp only[SG]at d0 d1 e0 e1
 obtain⟨p,hp⟩:∃ p,p=x.below:=⟨_,rfl⟩
 obtain⟨q,hq⟩:∃ q,q=y.below:=⟨_,rfl⟩
 rw[←hp]at d0 HR
 rw[←hq]at e0 HR
 clear hp hq X2 Y3 hxl hyl;cases p with
 |false=>
  cases q with
  |false=>
   go_wp2_with fail
   refine HC1.out.mono ?_;rintro e w4 ⟨rfl,F4⟩;clear d0 d1 e0 e1;go_wp2_with fail
   go_ret;exact⟨by rw[HR.out];rfl,HF3.out.trans F4⟩
  |true=>
   go_wp2_with fail
   go_ret;exact⟨by rw[HR.out];rfl,HF3.out⟩
 |true=>
  cases q with
  |false=>
   go_wp2_with fail
   go_ret;exact⟨by rw[HR.out];rfl,HF3.out⟩
  |true=>
   go_wp2_with fail
   refine HC2.out.mono ?_;rintro e w4 ⟨rfl,F4⟩;clear d0 d1 e0 e1;go_wp2_with fail
   go_ret;exact⟨by rw[HR.out];rfl,HF3.out.trans F4⟩
end Go.Proofs.YtehlipgmkinfbaaGreatDoor
