/-
  Merged by program: XIxFnd2 XIxTurn XIxSort XIxKnP XIxNew XIxOf XR02O XR04P XR15 XR14R XR14P.
-/
import Derived.Test.YtehlipgmkinfbaaGreatDoorP0ar
set_option linter.unusedSimpArgs false
set_option maxRecDepth 100000
set_option maxHeartbeats 8000000
namespace Go.Q
def findR (X:List RowP)(s:RowP):Option RowP:=if nameOk s.iss=true then (match X[aheadR X s]? with
 |some x=>if rowC x s=0 then some x else none
 |none=>none) else none
open Go Go.RowKit
section
variable {P:Program}
theorem append_zero {w:World}{t ty e:TypeId}{i:TypeInfo}(ht:P.underlying t=some (.slice e))(hi:P.info? e=some i)(base:Option Addr)(n cap:Nat)(hle:n≤cap)(sp:Option Addr)(c:Nat) :
  (Builtin.append_ #[t,t] ty #[.slice base n cap,.slice sp 0 c]).run P w=.ok (.slice base n cap) w:=by
 cases base<;>cases sp<;>simp[Builtin.append_,run_underlying ht,sizeOf,typeInfo,hi,Builtin.lenOf,Builtin.firstCells,hle,storeCells,loadCells,loadCellsFrom]
end
section
variable {α:Type}{sz:Nat}{R:World→List Value→α→Prop}{K:Nat→Prop}{t:TypeId}{w:World}{base:Nat}{v:Value}{l:List α}
theorem LAt.rest {a:Option Addr}{n c:Nat}(h:LAt sz R w (.slice a n c) l)(i:Nat)(hi:i≤l.length)(A:Option Addr)(hA:i<l.length→∀ b o,a=some ⟨b,o,none⟩→A=some ⟨b,o+i*sz,none⟩):LAt sz R w (.slice A (l.drop i).length (c-i)) (l.drop i):=by
 obtain⟨_,_,he,h1,h2,h3⟩:=h
 simp only[Value.slice.injEq]at he
 obtain⟨rfl,-,rfl⟩:=he
 have hl:(l.drop i).length=l.length-i:=List.length_drop;refine⟨A,c-i,rfl,by omega,by omega,fun h0=>?_⟩
 obtain⟨b,o,rfl,hy⟩:=h3 (by omega)
 refine⟨b,o+i*sz,hA (by omega) b o rfl,fun j x hx=>?_⟩
 rw[List.getElem?_drop]at hx
 obtain⟨cs,e1,e2,e3⟩:=hy (i+j) x hx
 refine⟨cs,e1,fun m u hu=>?_,e3⟩
 have:=e2 m u hu;rwa[show o+sz*(i+j)+m=o+i*sz+sz*j+m by rw[Nat.mul_add,Nat.mul_comm sz i];omega]at this
theorem LAt.upto {a:Option Addr}{n c:Nat}(h:LAt sz R w (.slice a n c) l)(i:Nat)(hi:i≤l.length)(A:Option Addr)(hA:0<i→∀ b o,a=some ⟨b,o,none⟩→A=some ⟨b,o,none⟩):LAt sz R w (.slice A (l.take i).length c) (l.take i):=by
 obtain⟨_,_,he,h1,h2,h3⟩:=h
 simp only[Value.slice.injEq]at he
 obtain⟨rfl,-,rfl⟩:=he
 have hl:(l.take i).length=i:=by rw[List.length_take];omega
 refine⟨A,c,rfl,by omega,by omega,fun h0=>?_⟩
 obtain⟨b,o,rfl,hy⟩:=h3 (by omega)
 refine⟨b,o,hA (by omega) b o rfl,fun j x hx=>?_⟩
 rw[List.getElem?_take]at hx
 split at hx
 ·exact hy j x hx
 ·cases hx
theorem GRow.addSlice0 {P:Program}{s:TypeId}{z:Value}{bytes:Nat}(hu0:P.underlying s=some (.slice t))(hinf:Info P t z sz bytes)(hzs:z.cells.size=sz)(hs0:0<sz)(hby:bytes≤128)(h:GRow sz R K t w base v l)(hb:base≤w.heap.size){ay:Option Addr}{cy:Nat}{r:List α}(hy:LAt sz R w (.slice ay r.length cy) r)(h1:∀ W cs x,R W cs x→∀ u∈cs,u.oneCell'=true)(hk:∀ us x,R w us x→Kept (fun W=>R W us x) (fun k=>v.ownBlock=some k∨K k) w)(hn:l.length+r.length≤109951162777) :
  ∃ a c w',(Builtin.append_ #[s,s] s #[v,.slice ay r.length cy]).run P w=.ok (.slice a (l.length+r.length) c) w'∧GRow sz R K t w' base (.slice a (l.length+r.length) c) (l++r)∧Fr (fun k=>v.ownBlock=some k) w w':=by
 rcases Nat.eq_zero_or_pos r.length with h0|h0
 ·obtain rfl:r=[]:=List.length_eq_zero_iff.1 h0
  obtain⟨i0,hi0,-⟩:=info_parts hinf
  have hg:=h;obtain⟨cs,⟨g1,g2⟩,g3⟩:=h
  rcases g2 with ⟨rfl,hz⟩|⟨g,cap,cur,rfl,hgb,hh,hnc,hcm,hcs,htk⟩
  ·have hl:l=[]:=List.length_eq_zero_iff.1 hz
   subst hl;exact⟨none,0,w,append_zero hu0 hi0 none 0 0 (Nat.le_refl _) ay cy,by simpa using hg,Fr.refl _⟩
  ·refine⟨some ⟨g,0,none⟩,cap,w,?_,by simpa using hg,Fr.refl _⟩
   rw[List.length_nil,Nat.add_zero]
   exact append_zero hu0 hi0 _ _ cap hnc ay cy
 ·obtain⟨a,c,w',q1,q2,q3,-⟩:=h.addSlice hu0 hinf hzs hs0 hby hb hy h0 h1 hk hn
  exact⟨a,c,w',q1,q2,q3⟩
end
def kRow (n:List (List Part))(k:UInt8):RowP:=⟨n,⟨false,[k]⟩,0,0,none⟩
theorem rowK_k (n:List (List Part))(k:UInt8):rowK (kRow n k)=(nameKeyS n,(k.toNat:Int)):=by
 simp[rowK,kRow,numV,natOf]
theorem ltK_35 (n:List (List Part)):ltK (rowK (kRow n 3)) (rowK (kRow n 5))=true:=by
 rw[rowK_k,rowK_k]
 simp[ltK]
theorem nrow_k (n:List (List Part))(k:UInt8)(hk:(k==0)=false):nrow (kRow n k)=kRow n k:=by
 have hk':¬k=0:=by simpa using hk
 simp[nrow,kRow,madeS,trimS,hk']
theorem kn_two {n:List (List Part)}(h:nameOk n=true):newIx [kRow n 5,kRow n 3]=.ok [kRow n 3,kRow n 5]:=by
 have h35:=ltK_35 n;have h53:ltK (rowK (kRow n 5)) (rowK (kRow n 3))=false:=ordK.asym h35;have hne:¬rowK (kRow n 5)=rowK (kRow n 3):=fun e=>ordK.ne h35 e.symm
 have ho:okRows [kRow n 5,kRow n 3]=true:=by simp[okRows,kRow,h]
 have hn:newR [] [kRow n 5,kRow n 3]=some [kRow n 3,kRow n 5]:=by
  simp[newR,newS,insS,h53,hne]
 unfold newIx;rw[if_pos ho,hn]
 simp only[List.map_cons,List.map_nil]
 rw[nrow_k n 3 rfl,nrow_k n 5 rfl]
theorem kn_one {n:List (List Part)}(h:nameOk n=true):newIx [kRow n 5]=.ok [kRow n 5]:=by
 have ho:okRows [kRow n 5]=true:=by simp[okRows,kRow,h]
 have hn:newR [] [kRow n 5]=some [kRow n 5]:=by simp[newR,newS,insS]
 unfold newIx;rw[if_pos ho,hn]
 simp only[List.map_cons,List.map_nil]
 rw[nrow_k n 5 rfl]
theorem kn_twice {n:List (List Part)}(h:nameOk n=true):newIx [kRow n 5,kRow n 5]=.error 10:=by
 have ho:okRows [kRow n 5,kRow n 5]=true:=by simp[okRows,kRow,h]
 have hn:newR [] [kRow n 5,kRow n 5]=none:=by simp[newR,newS,insS,ordK.irr]
 unfold newIx;rw[if_pos ho,hn]
theorem kn_delta (n:List (List Part)):deltaS [kRow n 3,kRow n 5] [kRow n 5]=[goneR (kRow n 3)]:=by
 have h35:=ltK_35 n;unfold deltaS sideR;rw[sideS,if_pos h35,sideS,if_neg (by rw[ordK.irr];decide),if_pos rfl,sideS]
 simp[deltaG,likeR]
theorem kn_nrow (n:List (List Part)):(deltaS [kRow n 3,kRow n 5] [kRow n 5]).map nrow=[goneR (kRow n 3)]:=by
 rw[kn_delta]
 simp[nrow,goneR,kRow,madeS,trimS]
theorem newIx_sorted {l s:List RowP}(hok:okRows l=true)(hp:s.Perm (l.map nrow))(hs:Upw ltK rowK s):newIx l=if apartB rowK s=true then .ok s else .error 10:=by
 have h1:=new_sorted ordK hp hs;have h2:=newR_map l;unfold newR at h2;rw[h1]at h2
 unfold newIx newR;rw[if_pos hok]
 cases hn:newS ltK rowK [] l with
 |none=>
  rw[hn]at h2
  split at h2
  ·cases h2
  ·rename_i g
   rw[if_neg g]
 |some o=>
  rw[hn]at h2
  split at h2
  ·rename_i g
   simp only[Option.map_some,Option.some.injEq]at h2
   rw[if_pos g,h2]
  ·cases h2
theorem newIx_bad {l:List RowP}(h:okRows l=false):newIx l=.error 1:=by
 unfold newIx;rw[h]
 rfl
open Go
theorem stN (i:Nat){P:Program}{ops:Array Oper}{Q:Exit→Act→World→Prop}{md:Region.Mode}{S:World→Prop}{n f:Nat}{o:Oper}{listed:Array Bool}{a:Act}{w:World}(h:∀ K:Act→World→Prop,Shut (∀ a w,S w→(S w→wpAnyN P md ops Q S n f (listed.setIfInBounds i true) a w)→K a w)→if Region.wanted o (yielded ops a.tmps)=true then Oper.wp P o a w K Q else K (a.put o.dst undef) w)(hr:Region.ready md ops listed=[i]:=by kernel_rfl)(ho:ops[i]? = some o:=by rfl):wpAnyN P md ops Q S n (f+1) listed a w:=wpAnyN_step hr ho h
def fitW (r:RowP):Prop:=fitN r.iss∧r.num.size.length≤1000000
theorem apart_iff {α κ:Type}[DecidableEq κ]{key:α→κ}:∀ {l:List α},apartB key l=true↔∀ (j:Nat) (x y:α),l[j]? = some x→l[j+1]? = some y→key x≠key y
 | []=>by simp[apartB]
 | [x]=>by simp[apartB]
 |x::y::t=>by
  unfold apartB;rw[Bool.and_eq_true,decide_eq_true_eq,apart_iff (l:=y::t)]
  constructor
  ·rintro ⟨h1,h2⟩ j a b ha hb
   cases j with
   |zero=>
    simp only[List.getElem?_cons_zero,List.getElem?_cons_succ,Nat.zero_add,Option.some.injEq]at ha hb
    rw[←ha,←hb];exact h1
   |succ j=>
    rw[List.getElem?_cons_succ]at ha hb
    exact h2 j a b ha hb
  ·intro h
   exact⟨h 0 x y rfl rfl,fun j a b ha hb=>h (j+1) a b (by rw[List.getElem?_cons_succ];exact ha) (by rw[List.getElem?_cons_succ];exact hb)⟩
def issS (X:List RowP)(nm:List (List Part)):List RowP:=if nameOk nm=true then X.filter (fun r=>decide (nameKeyS r.iss=nameKeyS nm)) else []
def atLeast (X:List RowP)(k:List UInt8)(h:Nat):Bool:=match X[h]? with
 |some x=>!decide (nameKeyS x.iss<k)
 |none=>false
def above (X:List RowP)(k:List UInt8)(h:Nat):Bool:=match X[h]? with
 |some x=>decide (k<nameKeyS x.iss)
 |none=>false
theorem key_le {X:List RowP}(hu:UpR X){i j:Nat}(hij:i≤j){x y:RowP}(hx:X[i]? = some x)(hy:X[j]? = some y):¬nameKeyS y.iss<nameKeyS x.iss:=by
 rcases Nat.lt_or_ge i j with h|h
 ·have hi:=(List.getElem?_eq_some_iff.1 hx).1
  have hj:=(List.getElem?_eq_some_iff.1 hy).1;have h1:=List.pairwise_iff_getElem.1 hu i j hi hj h;rw[List.getElem?_eq_getElem hi]at hx
  rw[List.getElem?_eq_getElem hj]at hy
  rw[Option.some.inj hx,Option.some.inj hy]at h1
  unfold ltK rowK at h1;simp only[Bool.or_eq_true,Bool.and_eq_true,decide_eq_true_eq]at h1
  intro h2;rcases h1 with h1|⟨h1,-⟩
  ·exact Std.lt_irrefl (Std.lt_trans h1 h2)
  ·rw[h1]at h2;exact Std.lt_irrefl h2
 ·obtain rfl:i=j:=by omega
  rw[hx]at hy
  rw[Option.some.inj hy]
  exact Std.lt_irrefl
theorem atLeast_mono {X:List RowP}{k:List UInt8}(hu:UpR X):∀ i j,i≤j→j<X.length→atLeast X k i=true→atLeast X k j=true:=fun i j hij hj hp=>by
 unfold atLeast at *
 have hx:=List.getElem?_eq_getElem (by omega:i<X.length);have hy:=List.getElem?_eq_getElem hj;rw[hx]at hp
 rw[hy]
 simp only[Bool.not_eq_eq_eq_not,Bool.not_true,decide_eq_false_iff_not]at hp ⊢
 intro h;have hle:=key_le hu hij hx hy;rcases Std.lt_trichotomy (nameKeyS X[i].iss) (nameKeyS X[j].iss) with q|q|q
 ·exact hp (Std.lt_trans q h)
 ·rw[q]at hp;exact hp h
 ·exact hle q
theorem above_mono {X:List RowP}{k:List UInt8}(hu:UpR X):∀ i j,i≤j→j<X.length→above X k i=true→above X k j=true:=fun i j hij hj hp=>by
 unfold above at *
 have hx:=List.getElem?_eq_getElem (by omega:i<X.length);have hy:=List.getElem?_eq_getElem hj;rw[hx]at hp
 rw[hy]
 simp only[decide_eq_true_eq]at hp ⊢
 have hle:=key_le hu hij hx hy;rcases Std.lt_trichotomy (nameKeyS X[i].iss) (nameKeyS X[j].iss) with q|q|q
 ·exact Std.lt_trans hp q
 ·rw[←q];exact hp
 ·exact absurd q hle
theorem from_of {X:List RowP}{k:List UInt8}{r:Nat}(hr:r≤X.length)(h1:∀ i,i<r→atLeast X k i=false)(h2:r<X.length→atLeast X k r=true):r=(X.takeWhile (fun x=>decide (nameKeyS x.iss<k))).length:=by
 refine(takeWhile_at _ X r hr (fun i x hx hi=>?_) (fun x hx=>?_)).symm
 ·have:=h1 i hi
  unfold atLeast at this;rw[hx]at this
  simpa using this
 ·have:=h2 (List.getElem?_eq_some_iff.1 hx).1
  unfold atLeast at this;rw[hx]at this
  simpa using this
theorem to_of {X:List RowP}{k:List UInt8}{r:Nat}(hr:r≤X.length)(h1:∀ i,i<r→above X k i=false)(h2:r<X.length→above X k r=true):r=(X.takeWhile (fun x=>!decide (k<nameKeyS x.iss))).length:=by
 refine(takeWhile_at _ X r hr (fun i x hx hi=>?_) (fun x hx=>?_)).symm
 ·have:=h1 i hi
  unfold above at this;rw[hx]at this
  simpa using this
 ·have:=h2 (List.getElem?_eq_some_iff.1 hx).1
  unfold above at this;rw[hx]at this
  simpa using this
theorem takeWhile_le {α:Type}{p q:α→Bool}(h:∀ x,p x=true→q x=true):∀ l:List α,(l.takeWhile p).length≤(l.takeWhile q).length
 | []=>Nat.le_refl _
 |x::t=>by
  cases hp:p x with
  |false=>rw[List.takeWhile_cons,hp];exact Nat.zero_le _
  |true=>
   rw[List.takeWhile_cons,List.takeWhile_cons,hp,h x hp]
   exact Nat.succ_le_succ (takeWhile_le h t)
end Go.Q
namespace Go.Proofs.YtehlipgmkinfbaaGreatDoor
open Go Go.RowKit Go.Q
def FindOut (X:List RowP)(s:RowP)(e:Ending)(w':World):Prop:=match findR X s with
 |none=>e=.returned (.tuple #[.agg #[.slice none 0 0,.bool false,.slice none 0 0,.int .i64 0,.int .i64 0,.pointer none],.bool false])
 |some x=>∃ a2 c2 b2 d2 q2,e=.returned (.tuple #[.agg #[.slice a2 x.iss.length c2,.bool (madeS x.num).below,.slice b2 (madeS x.num).size.length d2,.int .i64 x.date,.int .i64 x.reason,.pointer q2],.bool true])∧RRow w' [.slice a2 x.iss.length c2,.bool (madeS x.num).below,.slice b2 (madeS x.num).size.length d2,.int .i64 x.date,.int .i64 x.reason,.pointer q2] (nrow x)
theorem ixFind_any (v vn:Value)(X:List RowP)(s:RowP)(sa:Option Addr)(sc:Nat)(w:World)(h:IxAt w v X)(hn:NameAt w vn s.iss)(hfn:∀ r∈s.iss,fewB r)(hb:Bytes w (.slice sa s.num.size.length sc) s.num.size)(hu:UpR X)(hf:∀ r∈X,fitR r)(hs:s.num.size.length≤1000000)(hl:X.length≤1000000)(hE:Env w) :
  Calls Tryz.prog 27 #[v,vn,.agg #[.bool s.num.below,.slice sa s.num.size.length sc]] w fun e w'=>FindOut X s e w'∧Fz w w':=by
 obtain⟨z,hz⟩:∃ z,z=w.heap.size:=⟨_,rfl⟩
 have HZ:=Hi hz;have F0:Fz w ((w.alloc (.cells #[.bool s.num.below,.slice sa s.num.size.length sc] 40)).alloc (.cells #[.slice none 0 0,.bool false,.slice none 0 0,.int .i64 0,.int .i64 0,.pointer none] 43)):=((Fr.refl w).alloc _).alloc _;have BN:=(Blk.new w 40 #[.bool s.num.below,.slice sa s.num.size.length sc]).alloc (.cells #[.slice none 0 0,.bool false,.slice none 0 0,.int .i64 0,.int .i64 0,.pointer none] 43);have BR:=Blk.new (w.alloc (.cells #[.bool s.num.below,.slice sa s.num.size.length sc] 40)) 43 #[.slice none 0 0,.bool false,.slice none 0 0,.int .i64 0,.int .i64 0,.pointer none]
 rw[World.size_alloc,←hz]at BR
 rw[←hz]at BN
 have HH:=Hi h;have HBB:=Hi hb;have HU:=Hi hu;have HFX:=Hi hf;have HF:=Hi F0;obtain⟨kk,hkk⟩:∃ kk,kk=nameKeyS s.iss:=⟨_,rfl⟩
 cases hno:nameOk s.iss with
 |false=>
  have HS:=Hi (sought_bad vn s.iss s.num.below sa s.num.size.length sc _ (hn.old F0) hfn hno);have HFN:=Hi (show findR X s=none from by unfold findR;rw[hno];rfl);clear h hn hfn hb hu hf hE F0 hz hno hkk;go_enter Tryz.func27,Tryz.ntmps27
  go_upto_region 1 with fail
  rw[←HZ.out]
  generalize ((w.alloc (.cells #[.bool s.num.below,.slice sa s.num.size.length sc] 40)).alloc (.cells #[.slice none 0 0,.bool false,.slice none 0 0,.int .i64 0,.int .i64 0,.pointer none] 43))=w0 at *
  have x0:=BN.cell 0;have x1:=BN.cell 1;simp only[SG]at x0 x1
  go_wp2_with fail
  refine HS.out.mono ?_;rintro e w1 ⟨rfl,F1⟩;have BY:=Blk.new w1 78 #[str [],.slice none 0 0,.bool s.num.below,.slice sa s.num.size.length sc,.int .i64 0,.int .i64 0,.pointer none];have BR1:=(BR.fr F1 (fun h=>h)).alloc (.cells #[str [],.slice none 0 0,.bool s.num.below,.slice sa s.num.size.length sc,.int .i64 0,.int .i64 0,.pointer none] 78);have G:=(HF.out.trans F1).alloc (.cells #[str [],.slice none 0 0,.bool s.num.below,.slice sa s.num.size.length sc,.int .i64 0,.int .i64 0,.pointer none] 78);clear x0 x1 F1 BN BR HS;go_upto_region 2 with fail
  generalize (w1.alloc (.cells #[str [],.slice none 0 0,.bool s.num.below,.slice sa s.num.size.length sc,.int .i64 0,.int .i64 0,.pointer none] 78))=w3 at *
  have P:=putL_all (Z:=[.slice none 0 0,.bool false,.slice none 0 0,.int .i64 0,.int .i64 0,.pointer none]) BR1 (l:=[.slice none 0 0,.bool false,.slice none 0 0,.int .i64 0,.int .i64 0,.pointer none]) rfl;have HPF:=Hi ((G).trans' P.2 (fun i hi e=>by have e2:i=z+1:=e;have:=HZ.out;omega));have HPB:=Hi P.1;have HP2:=Hi P.2;simp only[putL]at HPF HPB HP2
  clear P;have m0:=(BR1).cell 0;have f0:=(BR1).frozen 0;have m1:=(BR1).cell 1;have f1:=(BR1).frozen 1;have m2:=(BR1).cell 2;have f2:=(BR1).frozen 2;have m3:=(BR1).cell 3;have f3:=(BR1).frozen 3;have m4:=(BR1).cell 4;have f4:=(BR1).frozen 4;have m5:=(BR1).cell 5;have f5:=(BR1).frozen 5;simp only[SG]at m0 m1 m2 m3 m4 m5
  clear G BY BR1;go_wp2_with fail
  clear m0 m1 m2 m3 m4 m5 f0 f1 f2 f3 f4 f5;have u0:=HPB.out.cell 0;have u1:=HPB.out.cell 1;have u2:=HPB.out.cell 2;have u3:=HPB.out.cell 3;have u4:=HPB.out.cell 4;have u5:=HPB.out.cell 5;simp only[SG]at u0 u1 u2 u3 u4 u5
  exact bodyPost_ret (v:=.tuple #[.agg #[.slice none 0 0,.bool false,.slice none 0 0,.int .i64 0,.int .i64 0,.pointer none],.bool false]) (by simp[results,Tryz.results27,go_sem,u0,u1,u2,u3,u4,u5]) rfl ⟨by unfold FindOut;rw[HFN.out],HPF.out⟩
 |true=>
  have HS:=Hi (sought_ok vn s.iss s.num.below sa s.num.size.length sc _ (hn.old F0) hfn hno (hE.old F0));obtain⟨n,hnn⟩:∃ n,n=aheadR X s:=⟨_,rfl⟩
  have HFD:=Hi (show findR X s=(match X[n]? with
   |some x=>if rowC x s=0 then some x else none
   |none=>none) from by unfold findR;rw[if_pos hno,hnn])
  have HPL:=Hi (fun W (F:Fz w W)=>ixPlaceS_any v X s sa sc W (h.old F) (hb.old F) hu (fun r hr=>(hf r hr).2.2) hs hl);have HSL:=Hi (fun W (F:Fz w W)=>slots_any v X W (h.old F));rw[←hkk]at HS HPL
  rw[←hnn]at HPL
  have hnl:n≤X.length:=by rw[hnn];exact(List.takeWhile_prefix _).length_le
  have HKK:=Hi hkk;clear h hn hfn hb hu hf hE F0 hz hno hkk hnn;go_enter Tryz.func27,Tryz.ntmps27
  go_upto_region 1 with fail
  rw[←HZ.out]
  generalize ((w.alloc (.cells #[.bool s.num.below,.slice sa s.num.size.length sc] 40)).alloc (.cells #[.slice none 0 0,.bool false,.slice none 0 0,.int .i64 0,.int .i64 0,.pointer none] 43))=w0 at *
  have x0:=BN.cell 0;have x1:=BN.cell 1;simp only[SG]at x0 x1
  go_wp2_with fail
  refine HS.out.mono ?_;rintro e w1 ⟨rfl,F1⟩;obtain⟨y,hy⟩:∃ y,y=w1.heap.size:=⟨_,rfl⟩
  have HY:=Hi hy;have BY:=Blk.new w1 78 #[str kk,.slice none 0 0,.bool s.num.below,.slice sa s.num.size.length sc,.int .i64 0,.int .i64 0,.pointer none];rw[←hy]at BY
  have BR1:=(BR.fr F1 (fun h=>h)).alloc (.cells #[str kk,.slice none 0 0,.bool s.num.below,.slice sa s.num.size.length sc,.int .i64 0,.int .i64 0,.pointer none] 78);have HF1:=(HF.out.trans F1).alloc (.cells #[str kk,.slice none 0 0,.bool s.num.below,.slice sa s.num.size.length sc,.int .i64 0,.int .i64 0,.pointer none] 78);clear x0 x1 F1 hy BN BR HS;go_upto_region 4 with fail
  rw[←HY.out]
  generalize (w1.alloc (.cells #[str kk,.slice none 0 0,.bool s.num.below,.slice sa s.num.size.length sc,.int .i64 0,.int .i64 0,.pointer none] 78))=w3 at *
  replace BY:=BY.drew;replace BR1:=BR1.drew;have G:Fz w w3.drew:=HF1.drew;clear HF1;go_region_held3 (fun w'=>∀ j,w'.cell? ⟨y,j,none⟩=(#[str kk,.slice none 0 0,.bool s.num.below,.slice sa s.num.size.length sc,.int .i64 0,.int .i64 0,.pointer none]:Array Value)[j]?) (first|(with_reducible exact BY.cell)|fail) (first
   |(go_at_call 45;(with_reducible refine(HSL.out _ G).mono ?_);rintro e w' ⟨⟨a,c,rfl,hsl⟩,F⟩;replace hsl:=Slots.old hsl F;replace BY:=BY.fr F (fun h=>h);replace BR1:=BR1.fr F (fun h=>h);replace G:=G.trans F;clear F HSL)
   |(go_at_call 55;(with_reducible refine(HPL.out _ G).mono ?_);rintro e w' ⟨rfl,F⟩;(try replace hsl:=Slots.old hsl F);replace BY:=BY.fr F (fun h=>h);replace BR1:=BR1.fr F (fun h=>h);replace G:=G.trans F;clear F HPL)
   |fail)
  all_goals
   rcases Nat.lt_or_ge n X.length with hnx|hnx
   rotate_left
   ·obtain rfl:n=X.length:=by omega
    have HFN:=Hi (show findR X s=none from by rw[HFD.out,List.getElem?_eq_none (Nat.le_refl _)]);have q1:((X.length:Int)==(X.length:Int))=true:=by simp
    go_upto_region 5 with fail
    go_quiet (fail)
    go_upto_region 6 with fail
    have BR2:Blk (w'.drewN nq) (z+1) 43 #[.slice none 0 0,.bool false,.slice none 0 0,.int .i64 0,.int .i64 0,.pointer none]:=BR1;have G2:Fz w (w'.drewN nq):=G.drewN nq;clear G BR1 BY;generalize w'.drewN nq=w5 at *
    have P:=putL_all (Z:=[.slice none 0 0,.bool false,.slice none 0 0,.int .i64 0,.int .i64 0,.pointer none]) BR2 (l:=[.slice none 0 0,.bool false,.slice none 0 0,.int .i64 0,.int .i64 0,.pointer none]) rfl;have HPF:=Hi ((G2).trans' P.2 (fun i hi e=>by have e2:i=z+1:=e;have:=HZ.out;omega));have HPB:=Hi P.1;have HP2:=Hi P.2;simp only[putL]at HPF HPB HP2
    clear P;have m0:=(BR2).cell 0;have f0:=(BR2).frozen 0;have m1:=(BR2).cell 1;have f1:=(BR2).frozen 1;have m2:=(BR2).cell 2;have f2:=(BR2).frozen 2;have m3:=(BR2).cell 3;have f3:=(BR2).frozen 3;have m4:=(BR2).cell 4;have f4:=(BR2).frozen 4;have m5:=(BR2).cell 5;have f5:=(BR2).frozen 5;simp only[SG]at m0 m1 m2 m3 m4 m5
    clear G2 BR2;go_wp2_with fail
    clear m0 m1 m2 m3 m4 m5 f0 f1 f2 f3 f4 f5;have u0:=HPB.out.cell 0;have u1:=HPB.out.cell 1;have u2:=HPB.out.cell 2;have u3:=HPB.out.cell 3;have u4:=HPB.out.cell 4;have u5:=HPB.out.cell 5;simp only[SG]at u0 u1 u2 u3 u4 u5
    exact bodyPost_ret (v:=.tuple #[.agg #[.slice none 0 0,.bool false,.slice none 0 0,.int .i64 0,.int .i64 0,.pointer none],.bool false]) (by simp[results,Tryz.results27,go_sem,u0,u1,u2,u3,u4,u5]) rfl ⟨by unfold FindOut;rw[HFN.out],HPF.out⟩
   ·obtain⟨x,hx⟩:∃ x,X[n]? = some x:=⟨_,List.getElem?_eq_getElem hnx⟩
    obtain⟨b,o,cs,rfl,-,-,hR,hcell⟩:=LAt.get hsl hx
    obtain⟨us,rfl,hrr⟩:=hR
    obtain⟨a1,c1,d1,e1,q1,rfl,hni,hbx,-⟩:=hrr.form
    have HRR:=Hi hrr;obtain⟨kx,hkx⟩:∃ kx,kx=nameKeyS x.iss:=⟨_,rfl⟩
    rw[←hkx]at hcell
    obtain⟨rc,hrc⟩:∃ rc,rc=rowC x s:=⟨_,rfl⟩
    have hrk:=rowC_keys x s;rw[←hrc,←hkx,←HKK.out]at hrk
    have HFD2:=Hi (show findR X s=if rc=0 then some x else none from by rw[HFD.out,hx,hrc]);have HFR:=Hi (show fitN x.iss∧nameOk x.iss=true∧x.num.size.length≤1000000 from HFX.out x (List.mem_of_getElem? hx));have HBY:=Hi BY;generalize w'=wq at *
    have HSS:=Hi (fun W (F:Fz wq W)=>show (W.cell? ⟨b,o+n*7,none⟩=some (str kx)∧W.cell? ⟨b,o+n*7+1,none⟩=some (.slice a1 x.iss.length c1)∧W.cell? ⟨b,o+n*7+2,none⟩=some (.bool x.num.below)∧W.cell? ⟨b,o+n*7+3,none⟩=some (.slice d1 x.num.size.length e1)∧W.cell? ⟨b,o+n*7+4,none⟩=some (.int .i64 x.date)∧W.cell? ⟨b,o+n*7+5,none⟩=some (.int .i64 x.reason)∧W.cell? ⟨b,o+n*7+6,none⟩=some (.pointer q1))∧∀ j,W.cell? ⟨y,j,none⟩=(#[str kk,.slice none 0 0,.bool s.num.below,.slice sa s.num.size.length sc,.int .i64 0,.int .i64 0,.pointer none]:Array Value)[j]? from ⟨⟨by have:=F.cell (hcell 0 _ rfl) (fun h=>h);rwa[Nat.add_zero]at this,F.cell (hcell 1 _ rfl) (fun h=>h),F.cell (hcell 2 _ rfl) (fun h=>h),F.cell (hcell 3 _ rfl) (fun h=>h),F.cell (hcell 4 _ rfl) (fun h=>h),F.cell (hcell 5 _ rfl) (fun h=>h),F.cell (hcell 6 _ rfl) (fun h=>h)⟩,(HBY.out.fr F (fun h=>h)).cell⟩)
    have HSB:=Hi (HBB.out.old G);have HO:=Hi (fun W (F:Fz wq W)=>order_any kx kk x.num s.num a1 d1 none sa x.iss.length 0 c1 e1 0 sc x.date 0 x.reason 0 q1 none W (hbx.old F) (HSB.out.old F) (by have:=HFR.out.2.2;omega) (by omega));rw[←hrk]at HO
    have p1:(n:Int)<(X.length:Int):=by omega
    have p2:(0:Int)≤(n:Int):=by omega
    have p3:((n:Int)==(X.length:Int))=false:=beq_eq_false_iff_ne.2 (by omega);have p4:¬(n:Int)=(X.length:Int):=by omega
    have HG:=Hi G;have HBR:=Hi BR1;clear hx hcell hrr hni hbx hkx hrc hrk hsl BY BR1 G HFD;go_upto_region 5 with fail
    have GE:Fz wq wq.drew:=(Fr.refl wq).drew
    refine wp_region_N 13 (S:=fun w'=>(w'.cell? ⟨b,o+n*7,none⟩=some (str kx)∧w'.cell? ⟨b,o+n*7+1,none⟩=some (.slice a1 x.iss.length c1)∧w'.cell? ⟨b,o+n*7+2,none⟩=some (.bool x.num.below)∧w'.cell? ⟨b,o+n*7+3,none⟩=some (.slice d1 x.num.size.length e1)∧w'.cell? ⟨b,o+n*7+4,none⟩=some (.int .i64 x.date)∧w'.cell? ⟨b,o+n*7+5,none⟩=some (.int .i64 x.reason)∧w'.cell? ⟨b,o+n*7+6,none⟩=some (.pointer q1))∧∀ j,w'.cell? ⟨y,j,none⟩=(#[str kk,.slice none 0 0,.bool s.num.below,.slice sa s.num.size.length sc,.int .i64 0,.int .i64 0,.pointer none]:Array Value)[j]?) (by kernel_rfl) ?_ (fun hHeld=>?_)
    ·exact HSS.out _ GE
    refine tkN 0 rfl hHeld ?_;refine tkN 1 rfl hHeld ?_;refine tkN 2 rfl hHeld ?_;(try simp only[Act.put,SS]);refine tkN 3 rfl hHeld ?_;refine tkN 4 rfl hHeld ?_;refine tkG 5 rfl hHeld ?_;(try simp only[Act.put,SK,SS]);refine tkG 6 rfl hHeld ?_;refine tkG 7 rfl hHeld ?_;refine tkG 8 rfl hHeld ?_;(try simp only[Act.put,SK,SS]);refine tkG 9 rfl hHeld ?_;(try simp only[Act.put,SK,SS]);refine wpAnyN_step (i:=10) (by kernel_rfl) (o:=_) rfl (fun KK hKK=>?_);go_simp
    (go_at_call 39;(with_reducible refine(HO.out _ GE).mono ?_);rintro e w6 ⟨rfl,F6⟩;have G6:=GE.trans F6;clear F6;go_wp2_with fail)
    refine hKK.out _ _ ?_ (fun hHeld=>?_)
    ·exact HSS.out _ G6
    clear hKK KK;(try simp only[Act.put,SS]);refine tkG 11 rfl hHeld ?_;refine tkN 12 rfl hHeld ?_;(try simp only[Act.put,SK,SS]);refine wpAnyN_done (by kernel_rfl) ?_ _;clear hHeld;by_cases h0:rc=0
    ·have k1:(rc==0)=true:=by rw[h0];rfl
     have k2:(rc != 0)=false:=by rw[h0];rfl
     have HFN:=Hi (show findR X s=some x from by rw[HFD2.out,if_pos h0]);obtain⟨⟨-,v1,v2,v3,v4,v5,v6⟩,-⟩:=HSS.out _ G6
     have HC:=Hi (ixCopied_any _ x w6 (RRow.old _ _ _ _ HRR.out G6) HFR.out.1 HFR.out.2.1 HFR.out.2.2);obtain⟨m,hm⟩:∃ m,m=madeS x.num:=⟨_,rfl⟩
     have HM:=Hi hm;rw[←hm]at HC
     have HB6:=Hi (HBR.out.fr G6 (fun h=>h));have HF6:=Hi (HG.out.trans G6);clear G6 GE hm h0;go_wp2_with fail
     refine HC.out.mono ?_;rintro e w7 ⟨⟨a2,c2,b2,d2,q2,rfl,hk⟩,F7⟩;have HK:=Hi hk;have HLT:=Hi HB6.out.lt;have B7:=HB6.out.fr F7 (fun h=>h);have F8:=HF6.out.trans F7;clear v1 v2 v3 v4 v5 v6 hk HC F7;have P:=putL_all (Z:=[.slice none 0 0,.bool false,.slice none 0 0,.int .i64 0,.int .i64 0,.pointer none]) B7 (l:=[.slice a2 x.iss.length c2,.bool m.below,.slice b2 m.size.length d2,.int .i64 x.date,.int .i64 x.reason,.pointer q2]) rfl;have HPF:=Hi ((F8).trans' P.2 (fun i hi e=>by have e2:i=z+1:=e;have:=HZ.out;omega));have HPB:=Hi P.1;have HP2:=Hi P.2;simp only[putL]at HPF HPB HP2
     clear P;have m0:=(B7).cell 0;have f0:=(B7).frozen 0;have m1:=(B7).cell 1;have f1:=(B7).frozen 1;have m2:=(B7).cell 2;have f2:=(B7).frozen 2;have m3:=(B7).cell 3;have f3:=(B7).frozen 3;have m4:=(B7).cell 4;have f4:=(B7).frozen 4;have m5:=(B7).cell 5;have f5:=(B7).frozen 5;simp only[SG]at m0 m1 m2 m3 m4 m5
     have HKK7:=Hi (HK.out _ (HP2.out.mono (fun k _ e=>by have e2:k=z+1:=e;have:=HLT.out;show k<w6.heap.size;omega)));clear B7 F8;go_wp2_with fail
     clear m0 m1 m2 m3 m4 m5 f0 f1 f2 f3 f4 f5;have u0:=HPB.out.cell 0;have u1:=HPB.out.cell 1;have u2:=HPB.out.cell 2;have u3:=HPB.out.cell 3;have u4:=HPB.out.cell 4;have u5:=HPB.out.cell 5;simp only[SG]at u0 u1 u2 u3 u4 u5
     exact bodyPost_ret (v:=.tuple #[.agg #[.slice a2 x.iss.length c2,.bool m.below,.slice b2 m.size.length d2,.int .i64 x.date,.int .i64 x.reason,.pointer q2],.bool true]) (by simp[results,Tryz.results27,go_sem,u0,u1,u2,u3,u4,u5]) rfl ⟨by unfold FindOut;rw[HFN.out];dsimp only;rw[←HM.out];exact⟨a2,c2,b2,d2,q2,rfl,HKK7.out⟩,HPF.out⟩
    ·have k1:(rc==0)=false:=beq_eq_false_iff_ne.2 h0
     have k2:(rc != 0)=true:=by rw[bne,k1];rfl
     have HFN:=Hi (show findR X s=none from by rw[HFD2.out,if_neg h0]);go_upto_region 6 with fail
     have BR1:=HBR.out.fr G6 (fun h=>h);have G:=HG.out.trans G6;have BY:=HBR;clear G6 GE h0;have P:=putL_all (Z:=[.slice none 0 0,.bool false,.slice none 0 0,.int .i64 0,.int .i64 0,.pointer none]) BR1 (l:=[.slice none 0 0,.bool false,.slice none 0 0,.int .i64 0,.int .i64 0,.pointer none]) rfl;have HPF:=Hi ((G).trans' P.2 (fun i hi e=>by have e2:i=z+1:=e;have:=HZ.out;omega));have HPB:=Hi P.1;have HP2:=Hi P.2;simp only[putL]at HPF HPB HP2
     clear P;have m0:=(BR1).cell 0;have f0:=(BR1).frozen 0;have m1:=(BR1).cell 1;have f1:=(BR1).frozen 1;have m2:=(BR1).cell 2;have f2:=(BR1).frozen 2;have m3:=(BR1).cell 3;have f3:=(BR1).frozen 3;have m4:=(BR1).cell 4;have f4:=(BR1).frozen 4;have m5:=(BR1).cell 5;have f5:=(BR1).frozen 5;simp only[SG]at m0 m1 m2 m3 m4 m5
     clear G BY BR1;go_wp2_with fail
     clear m0 m1 m2 m3 m4 m5 f0 f1 f2 f3 f4 f5;have u0:=HPB.out.cell 0;have u1:=HPB.out.cell 1;have u2:=HPB.out.cell 2;have u3:=HPB.out.cell 3;have u4:=HPB.out.cell 4;have u5:=HPB.out.cell 5;simp only[SG]at u0 u1 u2 u3 u4 u5
     exact bodyPost_ret (v:=.tuple #[.agg #[.slice none 0 0,.bool false,.slice none 0 0,.int .i64 0,.int .i64 0,.pointer none],.bool false]) (by simp[results,Tryz.results27,go_sem,u0,u1,u2,u3,u4,u5]) rfl ⟨by unfold FindOut;rw[HFN.out],HPF.out⟩
theorem bitsLen64_any (n:Nat)(hn:n≤12)(w:World) :
  Calls Tryz.prog 107 #[.int .u64 n] w fun e w'=>(∃ k,e=.returned (.int .i64 k))∧Fz w w':=by
 rcases (by omega:n=0∨n=1∨n=2∨n=3∨n=4∨n=5∨n=6∨n=7∨n=8∨n=9∨n=10∨n=11∨n=12) with rfl|rfl|rfl|rfl|rfl|rfl|rfl|rfl|rfl|rfl|rfl|rfl|rfl
 all_goals
  go_enter Tryz.func107,Tryz.ntmps107
  go_wp2_with fail
  go_ret;exact⟨⟨_,rfl⟩,Fr.refl w⟩
theorem bitsLen_any (n:Nat)(hn:n≤12)(w:World) :
  Calls Tryz.prog 67 #[.int .u64 n] w fun e w'=>(∃ k,e=.returned (.int .i64 k))∧Fz w w':=by
 have H:=Hi (bitsLen64_any n hn w);go_enter Tryz.func67,Tryz.ntmps67
 go_wp2_with fail
 refine H.out.mono ?_;rintro e w1 ⟨⟨k,rfl⟩,F1⟩;go_wp2_with fail
 go_ret;exact⟨⟨_,rfl⟩,F1⟩
theorem pdqSort_any (v:Value)(k:Int)(l:List RowP)(base:Nat)(K:Nat→Prop)(w:World)(h:GRow 7 RSlot K 78 w base v l)(hl:l.length≤12)(hs:∀ r∈l,r.num.size.length≤1000000) :
  Calls Tryz.prog 66 #[v,.int .i64 0,.int .i64 l.length,.int .i64 k,.func (.func 39) #[] #[]] w fun e w'=>e=.returned (.tuple #[])∧(∃ s,s.Perm l∧Upw ltK rowK s∧GRow 7 RSlot K 78 w' base v s)∧Fr (fun k=>v.ownBlock=some k) w w':=by
 have H:=Hi (insSort_any v l base K w h hl hs);obtain⟨a,c,rfl⟩:=h.shape
 have q1:(l.length:Int)≤12:=by omega
 have q2:IntKind.i64.wrap ((l.length:Int)-0)=(l.length:Int):=by simp[IntKind.wrap,IntKind.signed,IntKind.bits];omega
 have q3:(l.length:Int)-0=(l.length:Int):=by omega
 clear h hs;go_enter Tryz.func66,Tryz.ntmps66
 go_wp2_with fail
 go_loopg [1,2] 1 (fun g x y wr=>g=1∧x=.int .i64 0∧y=.int .i64 l.length∧wr=w)
 case atStart=>exact⟨rfl,rfl,rfl,rfl⟩
 case round=>
  obtain⟨hg,rfl,rfl,rfl⟩:=hrel
  clear hg;go_wp2_with fail
  refine H.out.mono ?_;rintro e w1 ⟨rfl,hq,F1⟩;have HQ:=Hi hq;clear hq;go_wp2_with fail
  refine bodyPost_ret (results_none rfl _ _ _) rfl ?_;exact⟨rfl,HQ.out,F1⟩
theorem sortFunc_any (v:Value)(l:List RowP)(base:Nat)(K:Nat→Prop)(w:World)(h:GRow 7 RSlot K 78 w base v l)(hl:l.length≤12)(hs:∀ r∈l,r.num.size.length≤1000000) :
  Calls Tryz.prog 38 #[v,.func (.func 39) #[] #[]] w fun e w'=>e=.returned (.tuple #[])∧(∃ s,s.Perm l∧Upw ltK rowK s∧GRow 7 RSlot K 78 w' base v s)∧Fr (fun k=>v.ownBlock=some k) w w':=by
 have H:=Hi (fun (k:Int) (W:World) (F:Fz w W)=>pdqSort_any v k l base K W (h.old F) hl hs);have HL:=Hi (bitsLen_any l.length hl w);obtain⟨a,c,rfl⟩:=h.shape
 have q1:IntKind.u64.wrap (l.length:Int)=(l.length:Int):=by simp[IntKind.wrap,IntKind.signed,IntKind.bits];omega
 clear h hs;go_enter Tryz.func38,Tryz.ntmps38
 go_wp2_with fail
 refine HL.out.mono ?_;rintro e w1 ⟨⟨k,rfl⟩,F1⟩;go_wp2_with fail
 refine(H.out k w1 F1).mono ?_
 rintro e w2 ⟨rfl,hq,F2⟩;have HQ:=Hi hq;have HF:=Hi ((F1.mono (fun _ _ h=>h.elim)).trans F2);clear hq F1 F2;go_wp2_with fail
 go_end0
 exact⟨rfl,HQ.out,HF.out⟩
theorem info78:(Tryz.prog.info? 78).map (fun i=>(i.zero,i.size,i.bytes))=some (some (.agg #[.string ⟨#[]⟩,.slice none 0 0,.bool false,.slice none 0 0,.int .i64 0,.int .i64 0,.pointer none]),7,96):=by kernel_rfl
def NewOut (l:List RowP)(e:Ending)(w':World):Prop:=
 match newIx l with
 |.ok o=>∃ b,e=.returned (.tuple #[pt b,.int .i64 0])∧IxAt w' (pt b) o
 |.error k=>e=.returned (.tuple #[.pointer none,.int .i64 k])
theorem ixNew_any (v:Value)(l:List RowP)(w:World)(h:Go.Q.Rows w v l)(hf:∀ r∈l,fitW r)(hl:l.length≤12)(hE:Env w) :
  Calls Tryz.prog 10 #[v] w fun e w'=>NewOut l e w'∧Fz w w':=by
 have H:=Hi h;have HFT:=Hi hf;have HEN:=Hi hE;obtain⟨a0,c0,rfl,-⟩:=h
 obtain⟨z,hz⟩:∃ z,z=w.heap.size:=⟨_,rfl⟩
 have HZ:=Hi hz;have BZ:=Blk.new w 73 #[.slice none 0 0];rw[←hz]at BZ
 have F0:Fz w (w.alloc (.cells #[.slice none 0 0] 73)):=(Fr.refl w).alloc _;have HF0:=Hi F0;have HBZ:=Hi BZ;clear hf hE hz BZ F0;go_enter Tryz.func10,Tryz.ntmps10
 go_upto_region 2 with fail
 rw[←HZ.out]
 generalize (w.alloc (.cells #[.slice none 0 0] 73))=w0 at *
 go_wp2_with fail
 go_loopg [14] l.length (fun g i wr=>∃ (j:Nat) (a:Option Addr) (c:Nat) (gs:List RowP),g=l.length-j∧j≤l.length∧i=.int .i64 j∧gs.length=j∧Hid (okRows (l.take j)=true)∧Hid (gs=(l.take j).map nrow)∧Hid (Blk wr z 73 #[.slice a gs.length c])∧Hid (GRow 7 RSlot (fun k=>k=z) 78 wr (z+1) (.slice a gs.length c) gs)∧Hid (Fz w wr))
 case atStart=>exact⟨0,none,0,[],rfl,Nat.zero_le _,rfl,rfl,Hi rfl,Hi rfl,HBZ,Hi (GRow.nil _ _ _ _ _ _),HF0⟩
 case round=>
  obtain⟨j,a,c,gs,hg,hj,rfl,hgl,HOK,HGS,HB,HRW,HF⟩:=hrel
  have HG:=Hi hg;have HGL:=Hi hgl;clear hg hgl;by_cases hjl:j<l.length
  ·obtain⟨r,hr⟩:∃ r,l[j]? = some r:=⟨_,List.getElem?_eq_getElem hjl⟩
   obtain⟨b,o,cs,rfl,-,hcs,hR,hcell⟩:=LAt.get (Go.Q.Rows.old H.out HF.out) hr
   obtain⟨a1,c1,b1,d1,q1,rfl,hni,-⟩:=hR.form
   have e0:=hcell 0 _ rfl;have e1:=hcell 1 _ rfl;have e2:=hcell 2 _ rfl;have e3:=hcell 3 _ rfl;have e4:=hcell 4 _ rfl;have e5:=hcell 5 _ rfl;simp only[Nat.add_zero]at e0
   have p1:(j:Int)<(l.length:Int):=by omega
   have p2:(0:Int)≤(j:Int):=by omega
   have HTK:=Hi (show (l.take (j+1)).map nrow=(l.take j).map nrow++[nrow r] by rw[List.take_add_one,hr,List.map_append];rfl);have HTO:=Hi (show okRows (l.take (j+1))=(okRows (l.take j)&&nameOk r.iss) by rw[List.take_add_one,hr];simp[okRows]);have hft:=HFT.out r (List.mem_of_getElem? hr);have hfb:∀ s∈r.iss,fewB s:=fun s hs=>(hft.1.2 s hs).1
   obtain⟨y,hy⟩:∃ y,y=wr.heap.size:=⟨_,rfl⟩
   have HY:=Hi hy;have BY:=Blk.new wr 43 #[.slice a1 r.iss.length c1,.bool r.num.below,.slice b1 r.num.size.length d1,.int .i64 r.date,.int .i64 r.reason,.pointer q1];have FA:Fz wr (wr.alloc (.cells #[.slice a1 r.iss.length c1,.bool r.num.below,.slice b1 r.num.size.length d1,.int .i64 r.date,.int .i64 r.reason,.pointer q1] 43)):=(Fr.refl wr).alloc _;have HFA:=Hi FA;rw[←hy]at BY
   have HBY:=Hi BY;have HRR:=Hi hR;have HNI:=Hi hni;have hmem:=List.mem_of_getElem? hr;have HMEM:=Hi hmem;have HFTR:=Hi hft;have HFB:=Hi hfb;clear hcell hR hni FA BY hy hft hfb hr hmem;go_upto_region 5 with fail
   rw[←HY.out]
   generalize (wr.alloc (.cells #[.slice a1 r.iss.length c1,.bool r.num.below,.slice b1 r.num.size.length d1,.int .i64 r.date,.int .i64 r.reason,.pointer q1] 43))=w2 at *
   clear e0 e1 e2 e3 e4 e5;have y0:=HBY.out.cell 0;simp only[SG]at y0
   cases hno:nameOk r.iss with
   |false=>
    have HN:=Hi (nameKey_bad _ r.iss w2 (HNI.out.old HFA.out) HFB.out hno);have HNO:=Hi (show newIx l=.error 1 from newIx_bad (by
     cases hq:okRows l with
     |false=>rfl
     |true=>
      unfold okRows at hq;rw[List.all_eq_true]at hq
      have:=hq r HMEM.out;rw[hno]at this;exact this.symm))
    clear hno;go_wp2_with fail
    refine HN.out.mono ?_;rintro e w3 ⟨rfl,F3⟩;go_wp2_with fail
    refine bodyPost_ret (v:=.tuple #[.pointer none,.int .i64 1]) (by simp[results,Tryz.results10,go_sem]) rfl ⟨by unfold NewOut;rw[HNO.out],(HF.out.trans HFA.out).trans F3⟩
   |true=>
    have HN:=Hi (nameKey_any _ r.iss w2 (HNI.out.old HFA.out) HFB.out hno ((HEN.out.old HF.out).old HFA.out));have HNO:=Hi hno;clear hno;go_wp2_with fail
    refine HN.out.mono ?_;rintro e w3 ⟨rfl,F3⟩;have HF3:=Hi (HFA.out.trans F3);have BZ:=(HB.out.fr (HFA.out.trans F3) (fun h=>h)).drew;have BY:=(HBY.out.fr F3 (fun h=>h)).drew;have HC:=Hi (fun W (F:Fz w3 W)=>ixCopied_any _ r W (RRow.old _ _ _ _ HRR.out (HF3.out.trans F)) HFTR.out.1 HNO.out HFTR.out.2);have HR3:=Hi (HRW.out.old (HFA.out.trans F3));have hzy:z<y:=by have:=HF.out.size;have:=HY.out;have:=HB.out.lt;omega
    have HZY:=Hi hzy;have G:Fz w3 w3.drew:=(Fr.refl w3).drew;have hsz3:y<w3.heap.size:=(HBY.out.fr F3 (fun h=>h)).lt;have HS3:=Hi hsz3;have hwr3:wr.heap.size≤w3.heap.size:=(HFA.out.trans F3).size;have HWR:=Hi hwr3;clear F3 y0 hzy hsz3 hwr3 HN;obtain⟨x,hx⟩:∃ x,x=madeS r.num:=⟨_,rfl⟩
    rw[←hx]at HC
    have HXR:=Hi (fun (W:World) (vi vs vp:Value) (g:RRow W [vi,.bool x.below,vs,.int .i64 r.date,.int .i64 r.reason,vp] (nrow r))=>show RSlot W [str (nameKeyS r.iss),vi,.bool x.below,vs,.int .i64 r.date,.int .i64 r.reason,vp] (nrow r) from ⟨_,rfl,g⟩);clear hx;go_upto_region 8 with fail
    refine wp_region_N 11 (S:=fun w'=>w'.cell? ⟨z,0,none⟩=some (.slice a gs.length c)∧∀ j,w'.cell? ⟨y,j,none⟩=(#[.slice a1 r.iss.length c1,.bool r.num.below,.slice b1 r.num.size.length d1,.int .i64 r.date,.int .i64 r.reason,.pointer q1]:Array Value)[j]?) (by kernel_rfl) ?_ (fun hHeld=>?_)
    ·exact⟨BZ.cell 0,BY.cell⟩
    refine tkN 0 rfl hHeld ?_;refine tkN 1 rfl hHeld ?_;refine tkN 2 rfl hHeld ?_;(try simp only[Act.put,SS]);refine tkN 3 rfl hHeld ?_;refine tkN 4 rfl hHeld ?_;refine tkN 5 rfl hHeld ?_;(try simp only[Act.put,SS]);refine tkN 6 rfl hHeld ?_;(try simp only[Act.put,SS]);refine wpAnyN_step (i:=7) (by kernel_rfl) (o:=_) rfl (fun KK hKK=>?_);go_simp
    (go_at_call 37;(with_reducible refine(HC.out _ G).mono ?_);rintro e w' ⟨⟨a2,c2,b2,d2,q2,rfl,hk⟩,F⟩;replace BZ:=BZ.fr F (fun h=>h);replace BY:=BY.fr F (fun h=>h);have hsz:=G.size;replace G:=G.trans F;clear F HC;go_wp2_with fail)
    refine hKK.out _ _ ?_ (fun hHeld=>?_)
    ·exact⟨BZ.cell 0,BY.cell⟩
    clear hKK KK;(try simp only[Act.put,SS]);refine tkN 8 rfl hHeld ?_;(try simp only[Act.put,SS]);have BZA:=BZ.alloc (.cells [str (nameKeyS r.iss),.slice a2 r.iss.length c2,.bool x.below,.slice b2 x.size.length d2,.int .i64 r.date,.int .i64 r.reason,.pointer q2].toArray 78);have BYA:=BY.alloc (.cells [str (nameKeyS r.iss),.slice a2 r.iss.length c2,.bool x.below,.slice b2 x.size.length d2,.int .i64 r.date,.int .i64 r.reason,.pointer q2].toArray 78)
    obtain⟨a7,c7,w7,hrun,hrow7,F7,hown⟩:=(HR3.out.old G).add (s:=71) Tryz.underlying71 info78 rfl (by decide) (by decide) (by have:=HZY.out;have:=HS3.out;have:=G.size;omega) ((Fr.refl w').alloc (.cells [str (nameKeyS r.iss),.slice a2 r.iss.length c2,.bool x.below,.slice b2 x.size.length d2,.int .i64 r.date,.int .i64 r.reason,.pointer q2].toArray 78)) w'.heap.size [str (nameKeyS r.iss),.slice a2 r.iss.length c2,.bool x.below,.slice b2 x.size.length d2,.int .i64 r.date,.int .i64 r.reason,.pointer q2] rfl (Blk.new w' 78 [str (nameKeyS r.iss),.slice a2 r.iss.length c2,.bool x.below,.slice b2 x.size.length d2,.int .i64 r.date,.int .i64 r.reason,.pointer q2].toArray) (by simp[Value.oneCell',str]) (nrow r) ((hk.weaken (fun k hk=>by
      have hd:w3.drew.heap.size=w3.heap.size:=rfl;rcases hk with hk|hk
      ·have:=(HRW.out.keep k hk).2;have:=HWR.out;omega
      ·have hk2:k=z:=hk
       have:=HZY.out;have:=HS3.out;omega)).imp (fun W g=>HXR.out W _ _ _ g)) (by have:=HGL.out;omega)
    have hk7:=HRW.out.keep;have BZ7:=BZ.fr F7 (fun e=>by have:=(hk7 _ e).1;omega);have BY7:=BY.fr F7 (fun e=>by have:=(hk7 _ e).2;have:=HY.out;omega);have F7w:=(G.mono (T:=fun k=>(Value.slice a gs.length c).ownBlock=some k) (fun _ _ h=>h.elim)).trans F7;have z0:=BZ7.cell 0;have f0:=BZ7.frozen 0;have z0s:w7.cell? ⟨z,0,none⟩=some (.slice a gs.length c):=z0;have HRUN:=Hi hrun;refine wpAnyN_step (i:=9) (by kernel_rfl) (o:=_) rfl (fun KK hKK=>?_);go_simp
    skip
    refine hKK.out _ _ ?_ (fun hHeld=>?_)
    ·exact⟨BZA.cell 0,BYA.cell⟩
    clear hKK KK;(try simp only[Act.put,SS]);refine wpAnyN_step (i:=10) (by kernel_rfl) (o:=_) rfl (fun KK hKK=>?_);refine step_append_run (by rfl) (.tmp 30) (.tmp 35) 71 (by rfl) _ w7 (by exact HRUN.out) ?_;refine hKK.out _ _ ?_ (fun hHeld=>?_)
    ·exact⟨BZ7.cell 0,BY7.cell⟩
    clear hKK KK;(try simp only[Act.put,SS]);refine wpAnyN_last (i:=11) (by kernel_rfl) (by decide) (o:=_) rfl (fun KK hKK=>?_);go_simp
    skip
    refine hKK.out _ _ ?_;clear hKK KK;(try simp only[Act.put,SS]);refine wpAnyN_last (i:=12) (by kernel_rfl) (by decide) (o:=_) rfl (fun KK hKK=>?_);go_simp
    skip
    refine hKK.out _ _ ?_;clear hKK KK;(try simp only[Act.put,SS]);refine wpAnyN_last (i:=13) (by kernel_rfl) (by decide) (o:=_) rfl (fun KK hKK=>?_);go_simp
    skip
    refine hKK.out _ _ ?_;clear hKK KK;(try simp only[Act.put,SS]);refine wpAnyN_done (by kernel_rfl) ?_ _;have B8:Blk (w7.setCell ⟨z,0,none⟩ (.slice a7 (gs.length+1) c7)) z 73 #[.slice a7 (gs.length+1) c7]:=BZ7.set 0 _;have F8:Fr (fun k=>k=z) w7 (w7.setCell ⟨z,0,none⟩ (.slice a7 (gs.length+1) c7)):=Fr.setCell (S:=fun k=>k=z) (p:=⟨z,0,none⟩) (Fr.refl w7) (fun _=>rfl) _;have hk8:=hrow7.keep;have R8:=hrow7.fr F8 (fun _ _ h=>h) (fun k hk e=>by have:=(hk8 k hk).1;have e2:k=z:=e;omega);have HR8:=Hi R8;have HB8:=Hi B8
    have HF8:=Hi (((HF.out.trans HF3.out).trans' F7w (fun i hi e=>by have:=(hk7 i e).1;have:=HZ.out;omega)).trans' F8 (fun i hi e=>by have e2:i=z:=e;have:=HZ.out;omega));have HGS7:=Hi (show gs++[nrow r]=(l.take (j+1)).map nrow by rw[HTK.out,HGS.out]);have HOK7:=Hi (show okRows (l.take (j+1))=true by rw[HTO.out,HOK.out,HNO.out];rfl);clear B8 F8 hk8 R8 F7w hk7 BZ7 BY7 BZA BYA z0 z0s f0 hrun hrow7 F7 hown hk G BZ BY hsz;go_wp2_with fail
    go_roundg (l.length-(j+1))
    case measure=>rw[HG.out];omega
    case rel=>exact⟨j+1,a7,c7,gs++[nrow r],rfl,by omega,by go_num,by rw[List.length_append,HGL.out];rfl,HOK7,HGS7,Hi (by rw[List.length_append];exact HB8.out),Hi (by rw[List.length_append];exact HR8.out),HF8⟩
  ·have HOA:Hid (okRows l=true):=Hi (by have:=HOK.out;rwa[List.take_of_length_le (by omega)]at this)
   have hgs:=HGS.out;rw[List.take_of_length_le (by omega)]at hgs
   have hgl:gs.length=l.length:=by rw[hgs,List.length_map]
   have HGE:=Hi hgs;have HFS:=Hi (show ∀ r∈gs,r.num.size.length≤1000000 from fun r hr=>by
    rw[hgs]at hr
    obtain⟨x,hx,rfl⟩:=List.mem_map.1 hr
    have:=trimS_le x.num.size;have:=(HFT.out x hx).2;show (trimS x.num.size).length≤_
    omega)
   have z0:=HB.out.cell 0;simp only[SG]at z0
   have HSO:=Hi (sortFunc_any _ gs (z+1) (fun k=>k=z) wr HRW.out (by omega) HFS.out);have p1:¬(j:Int)<(l.length:Int):=by omega
   have hkp:=HRW.out.keep;have HKP:=Hi hkp;have HGN:=Hi hgl;have hgn:gs.length≤12:=by omega
   clear hgs hgl hkp;go_wp2_with fail
   refine HSO.out.mono ?_;rintro e w5 ⟨rfl,⟨s,hsp,hsu,hsr⟩,F5⟩;have hsl:s.length=gs.length:=hsp.length_eq;have HSL:=Hi hsl;have B5:=HB.out.fr F5 (fun e=>by have:=(HKP.out _ e).1;omega);have HB5:=Hi B5;have HF5:=Hi (HF.out.trans' F5 (fun i hi e=>by have:=(HKP.out _ e).1;have:=HZ.out;omega));have HS5:=Hi hsr;have HNS:=Hi (newIx_sorted HOA.out (by rw[←HGE.out];exact hsp) hsu);have HFZ:=Hi (show ∀ r∈s,r.num.size.length≤1000000 from fun r hr=>HFS.out r (hsp.mem_iff.1 hr));clear hsl B5 F5 hsr hsp hsu z0 HSO;go_wp2_with fail
   go_loopg [9] gs.length (fun g ii wx=>∃ q:Nat,g=gs.length-q∧q≤1000∧ii=.int .i64 ((q:Int)+1)∧Hid (∀ (j:Nat) (x y:RowP),j<q→s[j]? = some x→s[j+1]? = some y→rowK x≠rowK y)∧Hid (Fz w5 wx))
   case atStart=>exact⟨0,rfl,by omega,rfl,Hi (fun j x y hj=>absurd hj (Nat.not_lt_zero _)),Hi (Fr.refl _)⟩
   case round=>
    obtain⟨q,hg,hq,rfl,HAP,HFX⟩:=hrel
    have HG2:=Hi hg;clear hg;have BX:=HB5.out.fr HFX.out (fun h=>h);have z0:=BX.cell 0;simp only[List.getElem?_toArray,List.getElem?_cons_zero]at z0
    by_cases hql:q+1<gs.length
    ·obtain⟨rx,hrx⟩:∃ rx,s[q]? = some rx:=⟨_,List.getElem?_eq_getElem (by have:=HSL.out;omega)⟩
     obtain⟨ry,hry⟩:∃ ry,s[q+1]? = some ry:=⟨_,List.getElem?_eq_getElem (by have:=HSL.out;omega)⟩
     have hat:=((HS5.out.old HFX.out).at (by decide):Slots wr _ s);obtain⟨b,o,us,rfl,-,hus,hRx,hcx⟩:=LAt.get hat hrx
     obtain⟨b',o',vs,hbo,-,hvs,hRy,hcy⟩:=LAt.get hat hry
     simp only[Option.some.injEq,Addr.mk.injEq,and_true]at hbo
     obtain⟨rfl,rfl⟩:=hbo
     obtain⟨u0,u1,u2,u3,u4,u5,u6,rfl⟩:=seven_of hus
     obtain⟨v0,v1,v2,v3,v4,v5,v6,rfl⟩:=seven_of hvs
     have HCE:=Hi (fun W (F:Fz wr W)=>orderSlots_any _ _ rx ry W (RSlot.old _ _ _ _ hRx F) (RSlot.old _ _ _ _ hRy F) (HFZ.out rx (List.mem_of_getElem? hrx)) (HFZ.out ry (List.mem_of_getElem? hry)));obtain⟨k,hk⟩:∃ k,k=rowC rx ry:=⟨_,rfl⟩
     rw[←hk]at HCE
     have HK:=Hi hk
     have hE:∀ w',Fz wr w'→(w'.cell? ⟨z,0,none⟩=some (.slice (some ⟨b,o,none⟩) gs.length c))∧(w'.cell? ⟨b,o+q*7,none⟩=some u0∧w'.cell? ⟨b,o+q*7+1,none⟩=some u1∧w'.cell? ⟨b,o+q*7+2,none⟩=some u2∧w'.cell? ⟨b,o+q*7+3,none⟩=some u3∧w'.cell? ⟨b,o+q*7+4,none⟩=some u4∧w'.cell? ⟨b,o+q*7+5,none⟩=some u5∧w'.cell? ⟨b,o+q*7+6,none⟩=some u6)∧w'.cell? ⟨b,o+(q+1)*7,none⟩=some v0∧w'.cell? ⟨b,o+(q+1)*7+1,none⟩=some v1∧w'.cell? ⟨b,o+(q+1)*7+2,none⟩=some v2∧w'.cell? ⟨b,o+(q+1)*7+3,none⟩=some v3∧w'.cell? ⟨b,o+(q+1)*7+4,none⟩=some v4∧w'.cell? ⟨b,o+(q+1)*7+5,none⟩=some v5∧w'.cell? ⟨b,o+(q+1)*7+6,none⟩=some v6:=fun w' F=>
      ⟨F.cell z0 (fun h=>h),⟨F.cell (hcx 0 _ rfl) (fun h=>h),F.cell (hcx 1 _ rfl) (fun h=>h),F.cell (hcx 2 _ rfl) (fun h=>h),F.cell (hcx 3 _ rfl) (fun h=>h),F.cell (hcx 4 _ rfl) (fun h=>h),F.cell (hcx 5 _ rfl) (fun h=>h),F.cell (hcx 6 _ rfl) (fun h=>h)⟩,F.cell (hcy 0 _ rfl) (fun h=>h),F.cell (hcy 1 _ rfl) (fun h=>h),F.cell (hcy 2 _ rfl) (fun h=>h),F.cell (hcy 3 _ rfl) (fun h=>h),F.cell (hcy 4 _ rfl) (fun h=>h),F.cell (hcy 5 _ rfl) (fun h=>h),F.cell (hcy 6 _ rfl) (fun h=>h)⟩
     have HEE:=Hi hE;have HFD:=Hi (Fr.refl wr:Fz wr wr).drew;have HSX:=Hi hrx;have HSY:=Hi hry;have c1:(q:Int)+1<(gs.length:Int):=by omega
     have c3:(0:Int)≤(q:Int):=by omega
     have c4:(q:Int)<(gs.length:Int):=by omega
     have c5:(0:Int)≤(q:Int)+1:=by omega
     have c7:((q:Int)+1).toNat=q+1:=by omega
     have c8:q<gs.length:=by omega
     have hw1:IntKind.i64.wrap ((q:Int)+1-1)=(q:Int):=by simp[IntKind.wrap,IntKind.signed,IntKind.bits];omega
     have hw2:IntKind.i64.wrap (q:Int)=(q:Int):=by simp[IntKind.wrap,IntKind.signed,IntKind.bits];omega
     clear hat hcx hcy hRx hRy hk hE hrx hry BX;by_cases hkk:k=0
     ·have c9:decide (k=0)=true:=decide_eq_true hkk
      have c10:(k==0)=true:=by rw[hkk];rfl
      have HNO:=Hi (show newIx l=.error 10 from by
       rw[HNS.out,if_neg]
       intro h;exact apart_iff.1 h q rx ry HSX.out HSY.out (rowC_zero.1 (by rw[←HK.out];exact hkk)))
      clear hkk;go_upto_region 14 with fail
      clear z0
      go_region_held3 (fun w'=>(w'.cell? ⟨z,0,none⟩=some (.slice (some ⟨b,o,none⟩) gs.length c))∧(w'.cell? ⟨b,o+q*7,none⟩=some u0∧w'.cell? ⟨b,o+q*7+1,none⟩=some u1∧w'.cell? ⟨b,o+q*7+2,none⟩=some u2∧w'.cell? ⟨b,o+q*7+3,none⟩=some u3∧w'.cell? ⟨b,o+q*7+4,none⟩=some u4∧w'.cell? ⟨b,o+q*7+5,none⟩=some u5∧w'.cell? ⟨b,o+q*7+6,none⟩=some u6)∧w'.cell? ⟨b,o+(q+1)*7,none⟩=some v0∧w'.cell? ⟨b,o+(q+1)*7+1,none⟩=some v1∧w'.cell? ⟨b,o+(q+1)*7+2,none⟩=some v2∧w'.cell? ⟨b,o+(q+1)*7+3,none⟩=some v3∧w'.cell? ⟨b,o+(q+1)*7+4,none⟩=some v4∧w'.cell? ⟨b,o+(q+1)*7+5,none⟩=some v5∧w'.cell? ⟨b,o+(q+1)*7+6,none⟩=some v6) (first|(with_reducible exact HEE.out _ HFD.out)|(with_reducible exact HEE.out _ (HFD.out.trans F2))|fail) (first
       |(go_at_call 39;(with_reducible refine(HCE.out _ HFD.out).mono ?_);rintro e w2 ⟨rfl,F2⟩)
       |fail)
      all_goals
       have HF9:=Hi (HF5.out.trans (HFX.out.trans (HFD.out.trans F2)));clear F2 HCE;go_wp2_with fail
       refine bodyPost_ret (v:=.tuple #[.pointer none,.int .i64 10]) (by simp[results,Tryz.results10,go_sem]) rfl ⟨by unfold NewOut;rw[HNO.out],HF9.out⟩
     ·have c9:decide (k=0)=false:=decide_eq_false hkk
      have c10:(k==0)=false:=beq_eq_false_iff_ne.2 hkk;have HAP2:=Hi (show ∀ (j:Nat) (x y:RowP),j<q+1→s[j]? = some x→s[j+1]? = some y→rowK x≠rowK y from fun j x y hj hx hy=>by
       rcases Nat.lt_or_ge j q with h|h
       ·exact HAP.out j x y h hx hy
       ·obtain rfl:j=q:=by omega
        rw[HSX.out]at hx
        rw[HSY.out]at hy
        obtain rfl:=Option.some.inj hx
        obtain rfl:=Option.some.inj hy
        exact fun e=>hkk (by rw[HK.out];exact rowC_zero.2 e))
      clear hkk;go_upto_region 14 with fail
      clear z0
      go_region_held3 (fun w'=>(w'.cell? ⟨z,0,none⟩=some (.slice (some ⟨b,o,none⟩) gs.length c))∧(w'.cell? ⟨b,o+q*7,none⟩=some u0∧w'.cell? ⟨b,o+q*7+1,none⟩=some u1∧w'.cell? ⟨b,o+q*7+2,none⟩=some u2∧w'.cell? ⟨b,o+q*7+3,none⟩=some u3∧w'.cell? ⟨b,o+q*7+4,none⟩=some u4∧w'.cell? ⟨b,o+q*7+5,none⟩=some u5∧w'.cell? ⟨b,o+q*7+6,none⟩=some u6)∧w'.cell? ⟨b,o+(q+1)*7,none⟩=some v0∧w'.cell? ⟨b,o+(q+1)*7+1,none⟩=some v1∧w'.cell? ⟨b,o+(q+1)*7+2,none⟩=some v2∧w'.cell? ⟨b,o+(q+1)*7+3,none⟩=some v3∧w'.cell? ⟨b,o+(q+1)*7+4,none⟩=some v4∧w'.cell? ⟨b,o+(q+1)*7+5,none⟩=some v5∧w'.cell? ⟨b,o+(q+1)*7+6,none⟩=some v6) (first|(with_reducible exact HEE.out _ HFD.out)|(with_reducible exact HEE.out _ (HFD.out.trans F2))|fail) (first
       |(go_at_call 39;(with_reducible refine(HCE.out _ HFD.out).mono ?_);rintro e w2 ⟨rfl,F2⟩)
       |fail)
      all_goals
       have HF9:=Hi (HFX.out.trans (HFD.out.trans F2));clear F2 HCE;go_wp2_with fail
       go_roundg (gs.length-(q+1))
       case measure=>rw[HG2.out];omega
       case rel=>exact⟨q+1,rfl,by omega,by go_num,HAP2,HF9⟩
    ·have HNO:=Hi (show newIx l=.ok s from by
      rw[HNS.out,if_pos]
      exact apart_iff.2 (fun j x y hx hy=>HAP.out j x y (by have:=(List.getElem?_eq_some_iff.1 hy).1;have:=HSL.out;omega) hx hy))
     have HIX:=Hi (show IxAt wr (pt z) s from .inr ⟨z,_,rfl,z0,(HS5.out.old HFX.out).at (by decide)⟩);have HF9:=Hi (HF5.out.trans HFX.out);have c1:¬(q:Int)+1<(gs.length:Int):=by omega
     clear BX;go_wp2_with fail
     refine bodyPost_ret (v:=.tuple #[pt z,.int .i64 0]) (by simp[results,Tryz.results10,go_sem]) rfl ⟨by unfold NewOut;rw[HNO.out];exact⟨z,rfl,HIX.out⟩,HF9.out⟩
theorem slotsSlice (a:Option Addr)(m cap f t:Nat)(hft:f≤t)(htm:t≤m)(hm:m≤cap) :
  ∃ A,(∀ w,(Instr.slice 71 (.slice a m cap) (some (.int .i64 (f:Int))) (some (.int .i64 (t:Int))) none).run Tryz.prog w=.ok (.slice A (t-f) (cap-f)) w)∧(f<t→∀ b o,a=some ⟨b,o,none⟩→A=some ⟨b,o+f*7,none⟩):=by
 obtain⟨i0,hi0,-,hz1,-⟩:=info_parts info78
 have h1:(0:Int)≤(f:Int):=by omega
 have h2:(f:Int)≤(t:Int):=by omega
 have h3:(t:Int)≤(cap:Int):=by omega
 have h4:(f:Int)≤(cap:Int):=by omega
 have h5:(0:Int)≤(t:Int):=by omega
 by_cases hc:cap-f=0
 ·refine⟨a,fun w=>?_,fun h=>by omega⟩
  simp[go_sem,h1,h2,h3,h4,h5,hc,Tryz.underlying71,sizeOf,typeInfo,hi0,hz1]
  try (intro h;omega)
 ·refine⟨a.map fun x=>x.add (f*7),fun w=>?_,fun h b o e=>by rw[e];unfold Addr.add;simp⟩
  simp[go_sem,h1,h2,h3,h4,h5,hc,Tryz.underlying71,sizeOf,typeInfo,hi0,hz1]
  try (intro h;omega)
theorem ixOf_any (v vn:Value)(X:List RowP)(nm:List (List Part))(w:World)(h:IxAt w v X)(hn:NameAt w vn nm)(hfn:∀ r∈nm,fewB r)(hu:UpR X)(hf:∀ r∈X,fitR r)(hl:X.length≤1000000)(hE:Env w) :
  Calls Tryz.prog 28 #[v,vn] w fun e w'=>(∃ a c,e=.returned (.slice a (issS X nm).length c)∧Go.Q.Rows w' (.slice a (issS X nm).length c) ((issS X nm).map nrow))∧Fz w w':=by
 have HH:=Hi h;have HU:=Hi hu;have HFX:=Hi hf;cases hno:nameOk nm with
 |false=>
  have HS:=Hi (nameKey_bad vn nm w hn hfn hno);have HOF:=Hi (show issS X nm=[] from by unfold issS;rw[hno];rfl);clear h hn hfn hu hf hE hno;go_enter Tryz.func28,Tryz.ntmps28
  go_wp2_with fail
  refine HS.out.mono ?_;rintro e w1 ⟨rfl,F1⟩;have HF1:=Hi (F1.alloc (.cells #[str []] 9));clear F1;go_wp2_with fail
  go_ret;rw[HOF.out]
  exact⟨⟨none,0,rfl,none,0,rfl,Nat.le_refl _,by unfold maxLen;omega,fun h=>absurd h (Nat.lt_irrefl 0)⟩,HF1.out⟩
 |true=>
  have HS:=Hi (nameKey_any vn nm w hn hfn hno hE);obtain⟨kk,hkk⟩:∃ kk,kk=nameKeyS nm:=⟨_,rfl⟩
  have HOF:=Hi (show issS X nm=(X.take (X.takeWhile (fun r=>!decide (kk<nameKeyS r.iss))).length).drop (X.takeWhile (fun r=>decide (nameKeyS r.iss<kk))).length from by
   unfold issS;rw[if_pos hno,of_law kk hu,hkk])
  rw[←hkk]at HS
  clear h hn hfn hu hf hE hno hkk;go_enter Tryz.func28,Tryz.ntmps28
  go_wp2_with fail
  refine HS.out.mono ?_;rintro e w1 ⟨rfl,F1⟩;obtain⟨z,hz⟩:∃ z,z=w1.heap.size:=⟨_,rfl⟩
  have HZ:=Hi hz;have BZ:=Blk.new w1 9 #[str kk];rw[←hz]at BZ
  have FA:Fz w1 (w1.alloc (.cells #[str kk] 9)):=(Fr.refl w1).alloc _;have HBZ:=Hi BZ;have HF1:=Hi (F1.trans FA);clear F1 FA BZ hz HS;go_upto_region 4 with fail
  rw[←HZ.out]
  generalize (w1.alloc (.cells #[str kk] 9))=w2 at *
  have HSL:=Hi (slots_any v X w2 (HH.out.old HF1.out));go_wp2_with fail
  refine HSL.out.mono ?_;rintro e w3 ⟨⟨a,c,rfl,hsl⟩,F3⟩;have hmc:X.length≤c∧c≤maxLen:=by
   obtain⟨_,_,he,q1,q2,-⟩:=hsl
   simp only[Value.slice.injEq]at he
   obtain⟨-,-,rfl⟩:=he
   exact⟨q1,q2⟩
  obtain⟨y,hy⟩:∃ y,y=w3.heap.size:=⟨_,rfl⟩
  have HY:=Hi hy;have BY:=Blk.new w3 71 #[.slice a X.length c];rw[←hy]at BY
  have FA:Fz w3 (w3.alloc (.cells #[.slice a X.length c] 71)):=(Fr.refl w3).alloc _;have HBZ3:=Hi (HBZ.out.fr (F3.trans FA) (fun h=>h));have HBY:=Hi BY;have HSW:=Hi (Slots.old hsl (F3.trans FA));have HF3:=Hi (HF1.out.trans (F3.trans FA));have HMC:=Hi hmc;clear F3 FA BY hy hsl hmc HSL HBZ;go_upto_region 5 with fail
  rw[←HY.out]
  generalize (w3.alloc (.cells #[.slice a X.length c] 71))=w4 at *
  have HQA:=Hi (searchA_any X.length y z (atLeast X kk) w4 hl (atLeast_mono HU.out) (fun W F q hq=>by
   obtain⟨x,hx⟩:∃ x,X[q]? = some x:=⟨_,List.getElem?_eq_getElem hq⟩
   have:=ofA_any X kk y z a c q x W ((HBY.out.fr F (fun h=>h)).cell 0) ((HBZ3.out.fr F (fun h=>h)).cell 0) (Slots.old HSW.out F) hx;unfold atLeast;rw[hx]
   exact this))
  have HQB:=Hi (fun W0 (F0:Fz w4 W0)=>searchB_any X.length y z (above X kk) W0 hl (above_mono HU.out) (fun W F q hq=>by
   obtain⟨x,hx⟩:∃ x,X[q]? = some x:=⟨_,List.getElem?_eq_getElem hq⟩
   have:=ofB_any X kk y z a c q x W ((HBY.out.fr (F0.trans F) (fun h=>h)).cell 0) ((HBZ3.out.fr (F0.trans F) (fun h=>h)).cell 0) (Slots.old HSW.out (F0.trans F)) hx;unfold above;rw[hx]
   exact this))
  have y0:=HBY.out.cell 0;simp only[SG]at y0
  go_wp2_with fail
  refine HQA.out.mono ?_;rintro e w5 ⟨⟨f,rfl,f1,f2,f3⟩,F5⟩;have HFE:=Hi (from_of f1 f2 f3);have HF5:=Hi F5;clear y0 f1 f2 f3 F5 HQA;have y0:=(HBY.out.fr HF5.out (fun h=>h)).cell 0;simp only[SG]at y0
  go_wp2_with fail
  refine(HQB.out w5 HF5.out).mono ?_
  rintro e w6 ⟨⟨t,rfl,t1,t2,t3⟩,F6⟩;have HTE:=Hi (to_of t1 t2 t3);have hft:f≤t:=by
   rw[HFE.out,HTE.out]
   exact takeWhile_le (fun x hx=>by
    simp only[decide_eq_true_eq]at hx
    simp only[Bool.not_eq_eq_eq_not,Bool.not_true,decide_eq_false_iff_not]
    exact fun h=>Std.lt_irrefl (Std.lt_trans hx h)) X
  have HF6:=Hi (HF5.out.trans F6);obtain⟨A,hs,hA⟩:=slotsSlice a X.length c f t hft t1 HMC.out.1
  have hSW6:=Slots.old HSW.out HF6.out;have hup:=(hSW6.upto t t1 a (fun _ b o e=>e));have htk:(X.take t).length=t:=by rw[List.length_take];omega
  rw[htk]at hup
  have hre:=hup.rest f (by rw[htk];exact hft) A (fun hlt b o e=>hA (by rw[htk]at hlt;exact hlt) b o e);have hdl:((X.take t).drop f).length=t-f:=by rw[List.length_drop,htk]
  rw[hdl]at hre
  have HOF2:=Hi (show issS X nm=(X.take t).drop f from by rw[HOF.out,HFE.out,HTE.out]);have HLEN:=Hi (show (issS X nm).length=t-f from by rw[HOF2.out,hdl]);rw[←HOF2.out]at hre
  have HRO:=Hi (rows_any (.slice A (t-f) (c-f)) (issS X nm) w6 hre (fun r hr=>HFX.out r (by rw[HOF2.out]at hr;exact List.mem_of_mem_take (List.mem_of_mem_drop hr))) (by rw[HLEN.out];omega));clear y0 t2 t3 F6 hA hSW6 hup htk hre hdl HQB;have y0:=(HBY.out.fr HF6.out (fun h=>h)).cell 0;simp only[SG]at y0
  have p1:(f:Int)≤(t:Int):=by omega
  have p2:(t:Int)≤(X.length:Int):=by omega
  go_wp2_with fail
  refine HRO.out.mono ?_;rintro e w7 ⟨⟨a7,c7,rfl,hr7⟩,F7⟩;have HR7:=Hi hr7;have HF7:=Hi (HF3.out.trans (HF6.out.trans F7));clear hr7 F7 hs;go_wp2_with fail
  go_ret;exact⟨⟨a7,c7,rfl,HR7.out⟩,HF7.out⟩
def rOpenOut (v:Value)(l:List UInt8)(p:Nat)(r:Except Int (List UInt8 × Nat))(e:Ending):Prop:=
 match r with
 |.error x=>e=.returned (.tuple #[.slice none 0 0,.int .i64 p,.int .i64 x])
 |.ok (y,k)=>∃ A c,e=.returned (.tuple #[.slice A y.length c,.int .i64 ((p+k:Nat):Int),.int .i64 0])∧∀ W,Bytes W v l→Bytes W (.slice A y.length c) y
def rOidOut (w w':World)(p:Nat)(r:Except Int (List Int × Nat))(e:Ending):Prop:=
 match r with
 |.error x=>e=.returned (.tuple #[.slice none 0 0,.int .i64 p,.int .i64 x])
 |.ok (o,k)=>∃ a c,e=.returned (.tuple #[.slice a o.length c,.int .i64 ((p+k:Nat):Int),.int .i64 0])∧w'.ownsRow w.heap.size 3 1 (.slice a o.length c) o.length (intCells o)
def rStepOut (K:Nat→Prop)(w':World)(p:Nat)(r:Except Int (List Part × Nat))(e:Ending):Prop:=
 match r with
 |.error x=>e=.returned (.tuple #[.slice none 0 0,.int .i64 p,.int .i64 x])
 |.ok (l,k)=>∃ a c,e=.returned (.tuple #[.slice a l.length c,.int .i64 ((p+k:Nat):Int),.int .i64 0])∧Kept (fun W=>Attrs W (.slice a l.length c) l) K w'
end Go.Proofs.YtehlipgmkinfbaaGreatDoor
