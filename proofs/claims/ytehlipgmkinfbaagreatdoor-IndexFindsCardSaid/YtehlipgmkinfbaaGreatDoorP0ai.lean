/-
  Merged by program: XKyS XIxLaw XNLeast XNOidN XNOidF XNStep XGRow.
-/
import Derived.Test.YtehlipgmkinfbaaGreatDoorP0ah
set_option linter.unusedSimpArgs false
set_option maxRecDepth 100000
set_option maxHeartbeats 8000000
namespace Go.Q
open Go
abbrev Key1:=List UInt8
theorem k_lt_of {a b:Key1}(h:a≤b)(hn:a≠b):a<b:=Std.lt_of_le_of_ne h hn
def behindB (last:Option Key1)(k:Key1):Bool:=match last with|none=>true|some l=>decide (l<k)
def betterB (best:Option Key1)(k:Key1):Bool:=match best with|none=>true|some b=>decide (k<b)
def pickStep (last best:Option Key1)(k:Key1):Option Key1:=if (behindB last k&&betterB best k)=true then some k else best
def pickS (last:Option Key1)(ks:List Key1):Option Key1:=ks.foldl (pickStep last) none
theorem pickS_snoc (last:Option Key1)(ks:List Key1)(k:Key1):pickS last (ks++[k])=pickStep last (pickS last ks) k:=by
 unfold pickS;simp[List.foldl_append]
theorem pickS_spec (last:Option Key1):∀ ks:List Key1,match pickS last ks with
  |none=>∀ k∈ks,behindB last k=false
  |some m=>m∈ks∧behindB last m=true∧∀ k∈ks,behindB last k=true→m≤k:=by
 intro ks;induction hn:ks.length generalizing ks with
 |zero=>
  obtain rfl:=List.length_eq_zero_iff.1 hn
  intro k hk;cases hk
 |succ n ih=>
  have hne:ks≠[]:=fun e=>by simp[e]at hn
  obtain⟨ts,k,rfl⟩:∃ ts k,ks=ts++[k]:=⟨ks.dropLast,ks.getLast hne,(List.dropLast_concat_getLast hne).symm⟩
  have hi:=ih ts (by simpa using hn);rw[pickS_snoc]
  cases hp:pickS last ts with
  |none=>
   rw[hp]at hi
   simp only at hi
   unfold pickStep betterB;cases hb:behindB last k with
   |true=>
    simp only[Bool.and_self,if_true]
    refine⟨by simp,hb,fun x hx hxb=>?_⟩
    rcases List.mem_append.1 hx with h|h
    ·rw[hi x h]at hxb;cases hxb
    ·rw[List.mem_singleton.1 h];exact Std.le_refl k
   |false=>
    simp only[Bool.false_and,Bool.false_eq_true,if_false]
    intro x hx;rcases List.mem_append.1 hx with h|h
    ·exact hi x h
    ·rw[List.mem_singleton.1 h];exact hb
  |some m=>
   rw[hp]at hi
   simp only at hi
   obtain⟨h1,h2,h3⟩:=hi
   unfold pickStep betterB;by_cases hc:(behindB last k&&decide (k<m))=true
   ·simp only[hc,if_true]
    rw[Bool.and_eq_true,decide_eq_true_eq]at hc
    refine⟨by simp,hc.1,fun x hx hxb=>?_⟩
    rcases List.mem_append.1 hx with h|h
    ·exact Std.le_of_lt (Std.lt_of_lt_of_le hc.2 (h3 x h hxb))
    ·rw[List.mem_singleton.1 h];exact Std.le_refl k
   ·simp only[if_neg hc]
    refine⟨List.mem_append_left _ h1,h2,fun x hx hxb=>?_⟩
    rcases List.mem_append.1 hx with h|h
    ·exact h3 x h hxb
    ·rw[List.mem_singleton.1 h]at hxb ⊢
     rw[hxb,Bool.true_and,decide_eq_true_eq]at hc
     exact Std.not_lt.1 hc
theorem up_get {D:List Key1}(hD:D.Pairwise (·<·)){i j:Nat}{x y:Key1}(hx:D[i]? = some x)(hy:D[j]? = some y)(h:x<y):i<j:=by
 rcases Nat.lt_or_ge i j with hl|hl
 ·exact hl
 ·obtain⟨hi,rfl⟩:=List.getElem?_eq_some_iff.1 hx
  obtain⟨hj,rfl⟩:=List.getElem?_eq_some_iff.1 hy
  rcases Nat.lt_or_ge j i with h2|h2
  ·exact absurd (Std.lt_trans h (List.pairwise_iff_getElem.1 hD j i hj hi h2)) (Std.lt_irrefl)
  ·have:i=j:=by omega
   subst this;exact absurd h (Std.lt_irrefl)
def lastOf (D:List Key1)(j:Nat):Option Key1:=if j=0 then none else D[j-1]?
theorem pick_next {D ks:List Key1}(hD:D.Pairwise (·<·))(hm:∀ x,x∈D↔x∈ks)(j:Nat)(hj:j≤D.length):pickS (lastOf D j) ks=D[j]?:=by
 have hbeh:∀ i x,D[i]? = some x→(behindB (lastOf D j) x=true↔j≤i):=by
  intro i x hx;unfold lastOf;by_cases h0:j=0
  ·subst h0;simp[behindB]
  ·rw[if_neg h0]
   obtain⟨y,hy⟩:∃ y,D[j-1]? = some y:=⟨_,List.getElem?_eq_getElem (by omega)⟩
   rw[hy]
   simp only[behindB,decide_eq_true_eq]
   constructor
   ·intro h
    have:=up_get hD hy hx h;omega
   ·intro h
    obtain⟨hi,rfl⟩:=List.getElem?_eq_some_iff.1 hx
    obtain⟨hj1,rfl⟩:=List.getElem?_eq_some_iff.1 hy
    exact List.pairwise_iff_getElem.1 hD (j-1) i hj1 hi (by omega)
 have hs:=pickS_spec (lastOf D j) ks;rcases Nat.lt_or_ge j D.length with hl|hl
 ·obtain⟨y,hy⟩:∃ y,D[j]? = some y:=⟨_,List.getElem?_eq_getElem hl⟩
  have hyk:=(hm y).1 (List.mem_of_getElem? hy);have hyb:=(hbeh j y hy).2 (Nat.le_refl _);cases hp:pickS (lastOf D j) ks with
  |none=>
   rw[hp]at hs
   rw[hs y hyk]at hyb
   cases hyb
  |some m=>
   rw[hp]at hs
   obtain⟨h1,h2,h3⟩:=hs
   obtain⟨i,hi⟩:=List.mem_iff_getElem?.1 ((hm m).2 h1)
   have hji:=(hbeh i m hi).1 h2;have hle:=h3 y hyk hyb;rcases Nat.lt_or_ge j i with h4|h4
   ·obtain⟨hi',rfl⟩:=List.getElem?_eq_some_iff.1 hi
    obtain⟨hj',rfl⟩:=List.getElem?_eq_some_iff.1 hy
    have:=List.pairwise_iff_getElem.1 hD j i hj' hi' h4;exact absurd (Std.lt_of_lt_of_le this hle) (Std.lt_irrefl)
   ·have:i=j:=by omega
    rw[←this,hi]
 ·rw[List.getElem?_eq_none hl]
  cases hp:pickS (lastOf D j) ks with
  |none=>rfl
  |some m=>
   rw[hp]at hs
   obtain⟨h1,h2,-⟩:=hs
   obtain⟨i,hi⟩:=List.mem_iff_getElem?.1 ((hm m).2 h1)
   have:=(hbeh i m hi).1 h2;have:=(List.getElem?_eq_some_iff.1 hi).1;omega
theorem sortS_up (ks:List Key1):(sortS ks).Pairwise (·≤·):=by
 have:=List.pairwise_mergeSort (le:=fun x y:Key1=>decide (x≤y)) (fun a b c h1 h2=>by
  simp only[decide_eq_true_eq]at h1 h2 ⊢
  exact Std.le_trans h1 h2) (fun a b=>by
  rcases Std.le_total (a:=a) (b:=b) with h|h
  ·simp[h]
  ·simp[h]) ks
 exact this.imp (fun h=>by simpa using h)
theorem get_bang {S:List Key1}{m:Nat}(h:m<S.length):S.toArray[m]! = S[m]:=by simp[getElem!_pos,h]
theorem compact_up {S:List Key1}(hS:S.Pairwise (·≤·)):∀ m,m≤S.length→(Lib.compactUpTo S.toArray m).Pairwise (·<·)∧∀ x,x∈Lib.compactUpTo S.toArray m↔x∈S.take m
 |0,_=>by simp[Lib.compactUpTo]
 |m+1,hm=>by
  obtain⟨h1,h2⟩:=compact_up hS m (by omega)
  rw[Lib.compactUpTo_succ]
  have hml:m<S.length:=by omega
  have ht:S.take (m+1)=S.take m++[S[m]]:=by rw[List.take_add_one,List.getElem?_eq_getElem hml];rfl
  rw[ht,get_bang hml]
  by_cases hk:Lib.keeps S.toArray m=true
  ·rw[if_pos hk]
   refine⟨?_,fun x=>by simp only[List.mem_append,h2]⟩
   refine List.pairwise_append.2 ⟨h1,by simp,fun x hx y hy=>?_⟩;rw[List.mem_singleton.1 hy]
   have hx2:=(h2 x).1 hx;obtain⟨i,hi⟩:=List.mem_iff_getElem?.1 hx2
   rw[List.getElem?_take]at hi
   split at hi
   ·rename_i him
    obtain⟨hil,rfl⟩:=List.getElem?_eq_some_iff.1 hi
    unfold Lib.keeps at hk;have hm0:m≠0:=by omega
    simp only[decide_eq_true_eq,hm0,false_or]at hk
    rw[get_bang hml,get_bang (show m-1<S.length by omega)]at hk
    have hle:S[i]≤S[m-1]:=by
     rcases Nat.lt_or_ge i (m-1) with h|h
     ·exact List.pairwise_iff_getElem.1 hS i (m-1) hil (by omega) h
     ·have:i=m-1:=by omega
      subst this;exact Std.le_refl _
    have hle2:S[m-1]≤S[m]:=List.pairwise_iff_getElem.1 hS (m-1) m (by omega) hml (by omega);exact Std.lt_of_le_of_lt hle (k_lt_of hle2 (fun e=>hk e.symm))
   ·cases hi
  ·rw[if_neg hk,List.append_nil]
   refine⟨h1,fun x=>?_⟩
   rw[h2,List.mem_append,List.mem_singleton]
   constructor
   ·exact .inl
   ·rintro (h|rfl)
    ·exact h
    ·unfold Lib.keeps at hk
     simp only[decide_eq_true_eq,not_or,Classical.not_not]at hk
     obtain⟨hm0,he⟩:=hk
     rw[get_bang hml,get_bang (show m-1<S.length by omega)]at he
     rw[he]
     exact List.mem_iff_getElem?.2 ⟨m-1,by rw[List.getElem?_take,if_pos (by omega),List.getElem?_eq_getElem (by omega)]⟩
def keysS (l:List Part):List Key1:=Lib.compact (sortS (partKeys l))
theorem keysS_up (l:List Part):(keysS l).Pairwise (·<·)∧∀ x,x∈keysS l↔x∈partKeys l:=by
 obtain⟨h1,h2⟩:=compact_up (sortS_up (partKeys l)) (sortS (partKeys l)).length (Nat.le_refl _)
 refine⟨h1,fun x=>?_⟩
 have:=h2 x;rw[List.take_length]at this
 exact this.trans (by simp[sortS])
theorem keysS_next (l:List Part)(j:Nat)(hj:j≤(keysS l).length):pickS (lastOf (keysS l) j) (partKeys l)=(keysS l)[j]?:=pick_next (keysS_up l).1 (keysS_up l).2 j hj
theorem join_take (c:UInt8){ks:List Key1}{j:Nat}{k:Key1}(h:ks[j]? = some k):Lib.join (ks.take (j+1)) [c]=(if j=0 then [] else Lib.join (ks.take j) [c]++[c])++k:=by
 induction ks generalizing j with
 |nil=>simp at h
 |cons x t ih=>
  cases j with
  |zero=>
   simp at h
   subst h;simp[Lib.join]
  |succ j=>
   rw[List.getElem?_cons_succ]at h
   have e:=ih h;rw[List.take_succ_cons,List.take_succ_cons]
   cases t with
   |nil=>simp at h
   |cons y s=>
    rw[List.take_succ_cons]at e ⊢
    have e1:∀ z,Lib.join (x::y::z) [c]=x++([c]++Lib.join (y::z) [c]):=fun z=>by simp[Lib.join,List.intercalate]
    rw[e1,e,if_neg (Nat.succ_ne_zero j)]
    cases j with
    |zero=>simp[Lib.join]
    |succ j=>
     rw[List.take_succ_cons,e1,if_neg (Nat.succ_ne_zero j)]
     simp
structure RowP where
 iss:List (List Part)
 num:NumT
 date:Int
 reason:Int
 inv:Option Int
def rowK (r:RowP):List UInt8 × Int:=(nameKeyS r.iss,numV r.num)
def ltK (p q:List UInt8 × Int):Bool:=decide (p.1<q.1)||(decide (p.1=q.1)&&decide (p.2<q.2))
theorem ordK:Ord3 ltK where
 irr a:=by
  unfold ltK;rw[decide_eq_false (Std.lt_irrefl (a:=a.1)),decide_eq_false (Int.lt_irrefl a.2)]
  simp
 tr a b c h1 h2:=by
  unfold ltK at *
  simp only[Bool.or_eq_true,Bool.and_eq_true,decide_eq_true_eq] at *
  rcases h1 with h1|⟨e1,h1⟩<;>rcases h2 with h2|⟨e2,h2⟩
  ·exact .inl (Std.lt_trans h1 h2)
  ·exact .inl (e2▸h1)
  ·exact .inl (e1▸h2)
  ·exact .inr ⟨e1.trans e2,by omega⟩
 tot a b:=by
  unfold ltK;simp only[Bool.or_eq_true,Bool.and_eq_true,decide_eq_true_eq]
  rcases Std.lt_trichotomy a.1 b.1 with h|h|h
  ·exact .inl (.inl h)
  ·rcases Int.lt_trichotomy a.2 b.2 with g|g|g
   ·exact .inl (.inr ⟨h,g⟩)
   ·exact .inr (.inl (Prod.ext h g))
   ·exact .inr (.inr (.inr ⟨h.symm,g⟩))
  ·exact .inr (.inr (.inl h))
abbrev UpR (l:List RowP):Prop:=Up ltK rowK l
def cmpL (a b:List UInt8):Int:=if a<b then -1 else if b<a then 1 else 0
def rowC (a b:RowP):Int:=if ltK (rowK a) (rowK b)=true then -1 else if rowK a=rowK b then 0 else 1
theorem rowC_keys (a b:RowP):rowC a b=if cmpL (nameKeyS a.iss) (nameKeyS b.iss)=0 then numC a.num b.num else cmpL (nameKeyS a.iss) (nameKeyS b.iss):=by
 unfold rowC cmpL numC cmpZ ltK rowK;simp only[Bool.or_eq_true,Bool.and_eq_true,decide_eq_true_eq,Prod.mk.injEq]
 generalize nameKeyS a.iss=x;generalize nameKeyS b.iss=y;generalize numV a.num=p;generalize numV b.num=q;rcases Std.lt_trichotomy x y with h|h|h
 ·simp[h]
 ·subst h
  have hn:=Std.lt_irrefl (a:=x);simp[hn]
 ·have h1:¬x<y:=fun g=>Std.lt_irrefl (Std.lt_trans g h)
  have h2:¬x=y:=fun g=>by rw[g]at h;exact Std.lt_irrefl h
  simp[h1,h2,h]
theorem rowC_neg {a b:RowP}:rowC a b<0↔ltK (rowK a) (rowK b)=true:=by
 unfold rowC;by_cases h:ltK (rowK a) (rowK b)=true
 ·simp[h]
 ·rw[if_neg h]
  by_cases h2:rowK a=rowK b
  ·rw[if_pos h2];simp[h]
  ·rw[if_neg h2];simp[h]
theorem rowC_zero {a b:RowP}:rowC a b=0↔rowK a=rowK b:=by
 unfold rowC;by_cases h:ltK (rowK a) (rowK b)=true
 ·simp[h,ordK.ne h]
 ·rw[if_neg h]
  by_cases h2:rowK a=rowK b
  ·rw[if_pos h2];simp[h2]
  ·rw[if_neg h2];simp[h2]
def nrow (r:RowP):RowP:={ r with num:=madeS r.num }
theorem rowK_nrow (r:RowP):rowK (nrow r)=rowK r:=by unfold rowK nrow;rw[numV_made]
theorem nrow_nrow (r:RowP):nrow (nrow r)=nrow r:=by unfold nrow;rw[made_made]
theorem up_map {l:List RowP}(h:UpR l):UpR (l.map nrow):=List.pairwise_map.2 (h.imp (fun e=>by rw[rowK_nrow,rowK_nrow];exact e))
abbrev newR (out l:List RowP):Option (List RowP):=newS ltK rowK out l
theorem newR_map (l:List RowP):newR [] (l.map nrow)=(newR [] l).map (List.map nrow):=new_map (lt:=ltK) nrow rowK_nrow l []
def likeR (a b:RowP):Bool:=decide (a.date=b.date)&&(decide (a.reason=b.reason)&&decide (a.inv=b.inv))
def placeR (s:RowP):List RowP→Nat→Nat × Bool
 | [],n=>(n,false)
 |x::t,n=>if rowC x s=0 then (n,true) else placeR s t (if rowC x s<0 then n+1 else n)
theorem place_none (s:RowP):∀ (l:List RowP) (n:Nat),(placeR s l n).2=false↔∀ x∈l,rowK x≠rowK s
 | [],n=>by simp[placeR]
 |x::t,n=>by
  unfold placeR;by_cases h:rowC x s=0
  ·rw[if_pos h]
   simp only[Bool.true_eq_false,List.mem_cons,forall_eq_or_imp,false_iff]
   exact fun g=>g.1 (rowC_zero.1 h)
  ·rw[if_neg h,place_none s t]
   simp only[List.mem_cons,forall_eq_or_imp]
   exact⟨fun g=>⟨fun e=>h (rowC_zero.2 e),g⟩,fun g=>g.2⟩
def aheadR (l:List RowP)(s:RowP):Nat:=(l.takeWhile (fun x=>ltK (rowK x) (rowK s))).length
theorem place_behind (s:RowP):∀ (l:List RowP) (n:Nat),(∀ x∈l,ltK (rowK s) (rowK x)=true)→placeR s l n=(n,false)
 | [],n,_=>rfl
 |x::t,n,h=>by
  have h1:=h x (by simp);have h2:¬rowC x s=0:=fun e=>ordK.ne h1 (rowC_zero.1 e).symm
  have h3:¬rowC x s<0:=fun e=>by have:=ordK.asym h1;rw[rowC_neg.1 e]at this;cases this
  unfold placeR;rw[if_neg h2,if_neg h3,place_behind s t n (fun y hy=>h y (by simp[hy]))]
theorem place_at (s:RowP):∀ (l:List RowP) (n:Nat),UpR l→(placeR s l n).1=n+aheadR l s∧((placeR s l n).2=true↔∃ x,l[aheadR l s]? = some x∧rowK x=rowK s)
 | [],n,_=>by simp[placeR,aheadR]
 |x::t,n,h=>by
  have h':=List.pairwise_cons.1 h;unfold placeR aheadR;by_cases h1:ltK (rowK x) (rowK s)=true
  ·have h2:¬rowC x s=0:=fun e=>ordK.ne h1 (rowC_zero.1 e)
   have h3:rowC x s<0:=rowC_neg.2 h1;obtain⟨g1,g2⟩:=place_at s t (n+1) h'.2
   rw[if_neg h2,if_pos h3,List.takeWhile_cons,if_pos h1,List.length_cons]
   refine⟨by rw[g1];unfold aheadR;omega,?_⟩
   rw[g2,List.getElem?_cons_succ]
   rfl
  ·rw[List.takeWhile_cons,if_neg h1]
   simp only[List.length_nil,List.getElem?_cons_zero,Nat.add_zero,Option.some.injEq,exists_eq_left']
   by_cases h2:rowC x s=0
   ·rw[if_pos h2]
    exact⟨rfl,by simp[rowC_zero.1 h2]⟩
   ·have h3:¬rowC x s<0:=fun e=>h1 (rowC_neg.1 e)
    have h4:ltK (rowK s) (rowK x)=true:=by
     rcases ordK.tot (rowK x) (rowK s) with q|q|q
     ·exact absurd q h1
     ·exact absurd (rowC_zero.2 q) h2
     ·exact q
    rw[if_neg h2,if_neg h3,place_behind s t n (fun y hy=>ordK.tr _ _ _ h4 (h'.1 y hy))]
    exact⟨rfl,Iff.intro (fun e=>nomatch e) (fun e=>absurd (rowC_zero.2 e) h2)⟩
def mergeG:Option RowP × Option RowP→Option RowP
 |(a,none)=>a
 |(_,some b)=>if b.reason=8 then none else some b
def goneR (r:RowP):RowP:={ r with reason:=8,inv:=none }
def deltaG:Option RowP × Option RowP→Option RowP
 |(some a,none)=>some (goneR a)
 |(none,none)=>none
 |(none,some b)=>some b
 |(some a,some b)=>if likeR a b=true then none else some b
abbrev sideR (l m:List RowP):List (Option RowP × Option RowP):=sideS ltK rowK l m
def mergeS (l m:List RowP):List RowP:=(sideR l m).filterMap mergeG
def deltaS (l m:List RowP):List RowP:=(sideR l m).filterMap deltaG
def sameP:Option RowP × Option RowP→Bool
 |(some a,some b)=>likeR a b
 |_=>false
def sameS (l m:List RowP):Bool:=(sideR l m).all sameP
def refMergeL (base delta:List RowP):List RowP:=base.filter (fun r=>!(placeR r delta 0).2)++delta.filter (fun r=>decide (r.reason≠8))
def refDeltaL (fr tt:List RowP):List RowP:=tt.filter (fun r=>!(placeR r fr 0).2||!(match fr[(placeR r fr 0).1]? with|some x=>likeR x r|none=>false))++(fr.filter (fun r=>!(placeR r tt 0).2)).map goneR
def refSame:List RowP→List RowP→Bool
 | [],[]=>true
 |x::l,y::m=>decide (rowC x y=0)&&(likeR x y&&refSame l m)
 |_,_=>false
open Go Go.RowKit
def leastK (l:List UInt8):Int:=if rightS 19 l=true then 19 else if rightS 12 l=true then 12 else 20
def digB (x:UInt8):Bool:=decide (48≤x.toNat∧x.toNat≤57)
def numVal (l:List UInt8):Nat:=l.foldl (fun n x=>10*n+(x.toNat-48)) 0
def numTextS (l:List UInt8):Option Nat:=
 if l.length=0∨10<l.length∨(l.head? = some 48∧1<l.length) then none else if l.all digB=true then some (numVal l) else none
def numOut:Option Nat→Value
 |none=>.tuple #[.int .i64 0,.bool false]
 |some n=>.tuple #[.int .i64 n,.bool true]
theorem numVal_take {l:List UInt8}{j:Nat}{x:UInt8}(h:l[j]? = some x):numVal (l.take (j+1))=10*numVal (l.take j)+(x.toNat-48):=by
 unfold numVal;rw[List.take_add_one,h]
 simp[List.foldl_append]
theorem numVal_lt:∀ (l:List UInt8),l.all digB=true→numVal l<10 ^ l.length:=by
 have:∀ (l:List UInt8) (n k:Nat),n<10 ^ k→l.all digB=true→l.foldl (fun n x=>10*n+(x.toNat-48)) n<10 ^ (k+l.length):=by
  intro l;induction l with
  |nil=>intro n k h _;simpa using h
  |cons x t ih=>
   intro n k h ha;simp only[List.all_cons,Bool.and_eq_true]at ha
   have hx:=of_decide_eq_true ha.1;have:=ih (10*n+(x.toNat-48)) (k+1) (by rw[Nat.pow_succ];omega) ha.2;simp only[List.foldl_cons,List.length_cons]
   rw[show k+(t.length+1)=k+1+t.length from by omega]
   exact this
 intro l h;have:=this l 0 0 (by decide) h;rw[Nat.zero_add]at this
 exact this
theorem numVal_small {l:List UInt8}(h:l.all digB=true)(hl:l.length≤10):numVal l<10000000000:=by
 have h1:=numVal_lt l h;have h2:(10:Nat) ^ l.length≤10 ^ 10:=Nat.pow_le_pow_right (by decide) hl;exact Nat.lt_of_lt_of_le h1 h2
def numsOf:List (List UInt8)→Option (List Int)
 | []=>some []
 |p::t=>match numTextS p with
  |none=>none
  |some n=>(numsOf t).map ((n:Int)::·)
def fromTextS (l:List UInt8):Except Int (List Int):=
 match numsOf (cutAt 46 l) with
 |none=>.error 6
 |some o=>if oidOk o=true then .ok o else .error 1
theorem cutAt_len (c:UInt8):∀ l:List UInt8,(cutAt c l).length≤l.length+1∧∀ p∈cutAt c l,p.length≤l.length
 | []=>by simp[cutAt]
 |x::t=>by
  obtain⟨h1,h2⟩:=cutAt_len c t
  unfold cutAt;split
  ·refine⟨by simp;omega,fun p hp=>?_⟩
   rcases List.mem_cons.1 hp with rfl|h
   ·simp
   ·have:=h2 p h;simp;omega
  ·split
   ·refine⟨by simp,fun p hp=>?_⟩
    rw[List.mem_singleton.1 hp]
    simp
   ·rename_i h r he
    rw[he]at h1 h2
    refine⟨by simp at h1 ⊢;omega,fun p hp=>?_⟩
    rcases List.mem_cons.1 hp with rfl|h
    ·have:=h2 h (by simp);simp;omega
    ·have:=h2 p (by simp[h]);simp;omega
theorem numsOf_next {ps:List (List UInt8)}{os:List Int}{j n:Nat}{p:List UInt8}(hR:numsOf ps=(numsOf (ps.drop j)).map (os++·))(hp:ps[j]? = some p)(hn:numTextS p=some n):numsOf ps=(numsOf (ps.drop (j+1))).map ((os++[(n:Int)])++·):=by
 have hd:ps.drop j=p::ps.drop (j+1):=by
  obtain⟨h,rfl⟩:=List.getElem?_eq_some_iff.1 hp
  exact List.drop_eq_getElem_cons h
 rw[hR,hd]
 simp only[numsOf,hn,Option.map_map]
 congr 1
 funext y
 simp
theorem numsOf_none {ps:List (List UInt8)}{os:List Int}{j:Nat}{p:List UInt8}(hR:numsOf ps=(numsOf (ps.drop j)).map (os++·))(hp:ps[j]? = some p)(hn:numTextS p=none):numsOf ps=none:=by
 have hd:ps.drop j=p::ps.drop (j+1):=by
  obtain⟨h,rfl⟩:=List.getElem?_eq_some_iff.1 hp
  exact List.drop_eq_getElem_cons h
 rw[hR,hd]
 simp only[numsOf,hn,Option.map_none]
def Kept (R:World→Prop)(K:Nat→Prop)(w:World):Prop:=∀ w',Fr K w w'→R w'
theorem Kept.now {R:World→Prop}{K:Nat→Prop}{w:World}(h:Kept R K w):R w:=h w (Fr.refl w)
theorem Kept.step {R:World→Prop}{K K' S:Nat→Prop}{w w':World}(h:Kept R K w)(f:Fr S w w')(hS:∀ k,k<w.heap.size→S k→K k)(hK:∀ k,K' k→K k∨w.heap.size≤k):Kept R K' w':=fun w2 f2=>
 h w2 ((f.mono hS).trans' f2 (fun i hi e=>(hK i e).elim id (fun h=>by omega)))
theorem Kept.old {R:World→Prop}{K:Nat→Prop}{w w':World}(h:Kept R K w)(f:Fz w w'):Kept R K w':=h.step f (fun _ _ h=>h.elim) (fun _ h=>.inl h)
theorem right20 (l:List UInt8):rightS 20 l=true:=by
 unfold rightS;rw[Bool.and_eq_true]
 refine⟨rfl,?_⟩
 rw[List.all_eq_true]
 intro n hn;unfold signsS at hn;rw[if_neg (by decide),if_neg (by decide)]at hn
 obtain⟨x,_,rfl⟩:=List.mem_map.1 hn
 have:=x.toNat_lt;unfold mayS;rw[if_neg (by decide),if_neg (by decide),if_pos rfl]
 exact decide_eq_true (by omega)
theorem least_right (l:List UInt8):rightS (leastK l) l=true:=by
 unfold leastK;split
 ·assumption
 ·split
  ·assumption
  ·exact right20 l
def leastWhole (l:List UInt8):List UInt8:=wrapS (tagOf (leastK l)) l
def stepS (l:List UInt8):Option Part:=
 if (cut1 61 l).2.2=false then none else match fromTextS (cut1 61 l).1 with
  |.error _=>none
  |.ok o=>some ⟨o,leastWhole (cut1 61 l).2.1⟩
theorem cut1_len (c:UInt8):∀ l:List UInt8,(cut1 c l).1.length≤l.length∧(cut1 c l).2.1.length≤l.length
 | []=>by simp[cut1]
 |x::t=>by
  have ih:=cut1_len c t;unfold cut1;split
  ·simp
  ·simp only[List.length_cons];omega
theorem Attrs.of_block {w:World}{g:Nat}{x y:Value}{p:Part}(B:Blk w g 105 #[x,y])(hx:Vals w x (intCells p.o))(hy:Bytes w y p.b):Attrs w (.slice (some ⟨g,0,none⟩) 1 1) [p]:=
 ⟨_,1,rfl,Nat.le_refl _,by unfold maxLen;omega,fun _=>⟨g,0,rfl,fun i q hq=>by
  match i,hq with
  |0,hq=>
   simp only[List.getElem?_cons_zero,Option.some.injEq]at hq
   subst hq;exact⟨x,y,B.cell 0,B.cell 1,hx,hy⟩
  |i+1,hq=>simp at hq⟩⟩
def LAt {α:Type}(sz:Nat)(R:World→List Value→α→Prop)(w:World)(v:Value)(l:List α):Prop:=
 ∃ a cap,v=.slice a l.length cap∧l.length≤cap∧cap≤maxLen∧(0<l.length→∃ b o,a=some ⟨b,o,none⟩∧∀ i x,l[i]? = some x→∃ cs,cs.length=sz∧(∀ j u,cs[j]? = some u→w.cell? ⟨b,o+sz*i+j,none⟩=some u)∧R w cs x)
def GRow {α:Type}(sz:Nat)(R:World→List Value→α→Prop)(K:Nat→Prop)(t:TypeId)(w:World)(base:Nat)(v:Value)(l:List α):Prop:=
 ∃ cs:List Value,w.ownsRow base t sz v l.length cs∧∀ i x,l[i]? = some x→∃ us,us.length=sz∧(∀ j u,us[j]? = some u→cs[sz*i+j]? = some u)∧Kept (fun W=>R W us x) (fun k=>v.ownBlock=some k∨K k) w
section
variable {α:Type}{sz:Nat}{R:World→List Value→α→Prop}{K:Nat→Prop}{t:TypeId}{w:World}{base:Nat}{v:Value}{l:List α}
theorem LAt.old (hR:∀ w w' cs x,R w cs x→Fz w w'→R w' cs x){w':World}(h:LAt sz R w v l)(f:Fz w w'):LAt sz R w' v l:=by
 obtain⟨a,cap,rfl,h1,h2,h3⟩:=h
 refine⟨a,cap,rfl,h1,h2,fun h0=>?_⟩
 obtain⟨b,o,rfl,hy⟩:=h3 h0
 refine⟨b,o,rfl,fun i p hp=>?_⟩
 obtain⟨cs,e1,e2,e3⟩:=hy i p hp
 exact⟨cs,e1,fun j u hu=>f.cell (e2 j u hu) (fun h=>h),hR _ _ _ _ e3 f⟩
theorem GRow.nil (sz:Nat)(R:World→List Value→α→Prop)(K:Nat→Prop)(t:TypeId)(w:World)(base:Nat):GRow sz R K t w base (.slice none 0 0) []:=⟨[],⟨by simp,.inl ⟨rfl,rfl⟩⟩,fun i p hp=>by simp at hp⟩
theorem GRow.keep (h:GRow sz R K t w base v l):∀ k,v.ownBlock=some k→base≤k∧k<w.heap.size:=fun k hk=>by
 obtain⟨us,h1,-⟩:=h
 exact h1.lt k hk
theorem GRow.shape (h:GRow sz R K t w base v l):∃ a c,v=.slice a l.length c:=by
 obtain⟨us,h1,-⟩:=h
 obtain⟨a,m,c,rfl,rfl⟩:=own_shape h1
 exact⟨a,c,rfl⟩
theorem GRow.at (h:GRow sz R K t w base v l)(_hs:0<sz):LAt sz R w v l:=by
 obtain⟨cs,⟨h1,h2⟩,h3⟩:=h
 rcases h2 with ⟨rfl,h0⟩|⟨g,cap,cur,rfl,hg,hh,hnc,hcm,hcs,htk⟩
 ·exact⟨none,0,by rw[h0],by omega,by unfold maxLen;omega,fun h=>by omega⟩
 ·refine⟨_,cap,rfl,hnc,hcm,fun _=>⟨g,0,rfl,fun i p hp=>?_⟩⟩
  obtain⟨us,e1,e2,e3⟩:=h3 i p hp
  refine⟨us,e1,fun j u hu=>?_,e3.now⟩
  have hi:=(List.getElem?_eq_some_iff.1 hp).1;have hc:=e2 j u hu;have hj:=(List.getElem?_eq_some_iff.1 hc).1;have:=congrArg (fun z:List Value=>z[sz*i+j]?) htk;simp only[List.getElem?_take,if_pos (show sz*i+j<l.length*sz by omega),Array.getElem?_toList]at this
  rw[Nat.zero_add]
  simp only[World.cell?,hh]
  exact this.trans hc
theorem GRow.fr {S:Nat→Prop}{w':World}(h:GRow sz R K t w base v l)(f:Fr S w w')(hS:∀ k,k<w.heap.size→S k→K k)(hv:∀ k,v.ownBlock=some k→¬S k):GRow sz R K t w' base v l:=by
 obtain⟨cs,h1,h2⟩:=h
 refine⟨cs,Go.Proofs.YtehlipgmkinfbaaGreatDoor.ownsRow_fr h1 f hv,fun i p hp=>?_⟩
 obtain⟨us,e1,e2,e3⟩:=h2 i p hp
 exact⟨us,e1,e2,e3.step f (fun k hk hs=>.inr (hS k hk hs)) (fun k hk=>.inl hk)⟩
theorem GRow.old {w':World}(h:GRow sz R K t w base v l)(f:Fz w w'):GRow sz R K t w' base v l:=h.fr f (fun _ _ h=>h.elim) (fun _ _ h=>h)
theorem GRow.kept (h:GRow sz R K t w base v l)(hs:0<sz)(K':Nat→Prop)(hK:∀ k,K' k→K k∧k<base):Kept (fun W=>LAt sz R W v l) K' w:=fun W f=>
 (h.fr f (fun k _ hk=>(hK k hk).1) (fun k hk hs=>by have:=(h.keep k hk).1;have:=(hK k hs).2;omega)).at hs
theorem GRow.add {P:Program}{s:TypeId}{z:Value}{bytes:Nat}(hu0:P.underlying s=some (.slice t))(hinf:Info P t z sz bytes)(hzs:z.cells.size=sz)(hs0:0<sz)(hby:bytes≤128){wa:World}(h:GRow sz R K t w base v l)(hb:base≤w.heap.size)(F1:Fz w wa)(g:Nat)(us:List Value)(hus:us.length=sz)(BX:Blk wa g t us.toArray)(h1:∀ u∈us,u.oneCell'=true)(x:α)(hk:Kept (fun W=>R W us x) (fun k=>v.ownBlock=some k∨K k) w)(hn:l.length≤109951162777) :
  ∃ a c w',(Builtin.append_ #[s,s] s #[v,.slice (some ⟨g,0,none⟩) 1 1]).run P wa=.ok (.slice a (l.length+1) c) w'∧GRow sz R K t w' base (.slice a (l.length+1) c) (l++[x])∧Fr (fun k=>v.ownBlock=some k) w w'∧(∀ k,(Value.slice a (l.length+1) c).ownBlock=some k→v.ownBlock=some k∨w.heap.size≤k):=by
 obtain⟨cs,g1,g2⟩:=h
 have hcl:cs.length=l.length*sz:=g1.1;obtain⟨a,c,w',hrun,h4,F2,h5⟩:=add_gen hu0 hinf hzs hs0 hby g1 hb F1 g us hus BX h1 hn
 have hst:∀ (us:List Value) (y:α),Kept (fun W=>R W us y) (fun k=>v.ownBlock=some k∨K k) w→Kept (fun W=>R W us y) (fun k=>(Value.slice a (l.length+1) c).ownBlock=some k∨K k) w':=fun us y hq=>
  hq.step F2 (fun _ _ h=>.inl h) (fun k hk=>by
   rcases hk with h|h
   ·rcases h5 k h with h|h
    ·exact .inl (.inl h)
    ·exact .inr h
   ·exact .inl (.inr h))
 refine⟨a,c,w',hrun,⟨cs++us,by rw[List.length_append];exact h4,fun i y hy=>?_⟩,F2,h5⟩
 rcases Nat.lt_or_ge i l.length with hi|hi
 ·rw[List.getElem?_append_left hi]at hy
  obtain⟨us',e1,e2,e3⟩:=g2 i y hy
  refine⟨us',e1,fun j u hu=>?_,hst _ _ e3⟩
  have:=e2 j u hu;rw[List.getElem?_append_left (List.getElem?_eq_some_iff.1 this).1]
  exact this
 ·obtain rfl:i=l.length:=by
   have:=(List.getElem?_eq_some_iff.1 hy).1;simp at this
   omega
  rw[List.getElem?_append_right (Nat.le_refl _)]at hy
  simp at hy
  subst hy;refine⟨us,hus,fun j u hu=>?_,hst _ _ hk⟩
  rw[Nat.mul_comm,List.getElem?_append_right (by rw[hcl];exact Nat.le_add_right _ _),hcl,Nat.add_sub_cancel_left]
  exact hu
end
def RPart (W:World)(cs:List Value)(p:Part):Prop:=∃ x y,cs=[x,y]∧Ints W x p.o∧Bytes W y p.b
def RStep (W:World)(cs:List Value)(r:List Part):Prop:=∃ u,cs=[u]∧Attrs W u r
theorem LAt.name {w:World}{v:Value}{n:List (List Part)}(h:LAt 1 RStep w v n):NameAt w v n:=by
 obtain⟨a,cap,rfl,h1,h2,h3⟩:=h
 refine⟨a,cap,rfl,h1,h2,fun h0=>?_⟩
 obtain⟨b,o,rfl,hy⟩:=h3 h0
 refine⟨b,o,rfl,fun i r hr=>?_⟩
 obtain⟨cs,-,e2,u,rfl,g1⟩:=hy i r hr
 exact⟨u,by have:=e2 0 u rfl;rw[Nat.one_mul]at this;exact this,g1⟩
theorem Kept.imp {A B:World→Prop}{K:Nat→Prop}{w:World}(h:Kept A K w)(f:∀ W,A W→B W):Kept B K w:=fun W g=>f W (h W g)
theorem Kept.both {A B:World→Prop}{K:Nat→Prop}{w:World}(h:Kept A K w)(g:Kept B K w):Kept (fun W=>A W∧B W) K w:=fun W f=>⟨h W f,g W f⟩
end Go.Q
namespace Go.Proofs.YtehlipgmkinfbaaGreatDoor
open Go Go.RowKit Go.Q
theorem least_any (l:List UInt8)(w:World)(hT:Tabs w)(hl:l.length≤1099511627776) :
  Calls Tryz.prog 113 #[str l] w fun e w'=>(∃ u,e=.returned (.agg #[.int .i64 (leastK l),u])∧Bytes w' u l∧∀ k,u.ownBlock=some k→w.heap.size≤k)∧Fz w w':=by
 obtain⟨z,hz⟩:∃ z,z=w.heap.size:=⟨_,rfl⟩
 have F0:Fz w ((w.alloc (.cells #[.int .i64 0,.slice none 0 0] 176)).alloc (.cells #[.int .i64 19,.int .i64 12] 3)):=((Fr.refl w).alloc _).alloc _;have BZ:=(Blk.new w 176 #[.int .i64 0,.slice none 0 0]).alloc (.cells #[.int .i64 19,.int .i64 12] 3);have BY:=Blk.new (w.alloc (.cells #[.int .i64 0,.slice none 0 0] 176)) 3 #[.int .i64 19,.int .i64 12];rw[World.size_alloc,←hz]at BY
 rw[←hz]at BZ
 have HZ:=Hi hz;have HF0:=Hi F0;have HT:=Hi hT;clear hz F0 hT;go_enter Tryz.func113,Tryz.ntmps113
 go_upto_region 2 with fail
 rw[←HZ.out]
 generalize ((w.alloc (.cells #[.int .i64 0,.slice none 0 0] 176)).alloc (.cells #[.int .i64 19,.int .i64 12] 3))=w1 at *
 go_loopg [8] 2 (fun g i wr=>∃ j:Nat,g=2-j∧j≤2∧i=.int .i64 j∧((1≤j→rightS 19 l=false)∧(2≤j→rightS 12 l=false))∧Blk wr z 176 #[.int .i64 0,.slice none 0 0]∧Blk wr (z+1) 3 #[.int .i64 19,.int .i64 12]∧Fz w wr)
 case atStart=>exact⟨0,rfl,by omega,rfl,⟨fun h=>absurd h (by omega),fun h=>absurd h (by omega)⟩,BZ,BY,HF0.out⟩
 case round=>
  obtain⟨j,hg,hj,rfl,hno,BZ,BY,F⟩:=hrel
  have HG:=Hi hg;have HNO:=Hi hno;obtain⟨cp,wc,hcv,hbv,FC,-⟩:=bytes_of_str wr l hl
  have HB:=Hi hbv;have HCV:=Hi hcv;have hss:(ByteArray.mk l.toArray).size=l.length:=by simp[ByteArray.size]
  clear hg hno hbv;by_cases hj2:j<2
  ·obtain⟨kd,hk1,hk2,hk3⟩:∃ kd:Int,(#[Value.int .i64 19,.int .i64 12]:Array Value)[j]? = some (.int .i64 kd)∧(rightS kd l=true→leastK l=kd)∧(rightS kd l=false→(1≤j+1→rightS 19 l=false)∧(2≤j+1→rightS 12 l=false)):=by
    rcases (show j=0∨j=1 by omega) with rfl|rfl
    ·exact⟨19,rfl,fun h=>by unfold leastK;rw[if_pos h],fun h=>⟨fun _=>h,fun h=>absurd h (by omega)⟩⟩
    ·have h19:=HNO.out.1 (by omega)
     exact⟨12,rfl,fun h=>by unfold leastK;rw[h19,if_neg (by simp),if_pos h],fun h=>⟨fun _=>h19,fun _=>h⟩⟩
   have e1:=BY.cell j;rw[hk1]at e1
   have HK2:=Hi hk2;have HK3:=Hi hk3;have r1:(0:Int)≤(j:Int):=by omega
   have r2:(j:Int)<2:=by omega
   have BZC:=BZ.fr FC (fun h=>h);have BYC:=BY.fr FC (fun h=>h);clear hk1 hk2 hk3;go_upto_region 5 with fail
   obtain⟨y,hy⟩:∃ y,y=wc.heap.size:=⟨_,rfl⟩
   have BX:=Blk.new wc 176 #[.int .i64 kd,.slice (some ⟨wr.heap.size,0,none⟩) l.length cp];have F5:Fz wc (wc.alloc (.cells #[.int .i64 kd,.slice (some ⟨wr.heap.size,0,none⟩) l.length cp] 176)):=(Fr.refl wc).alloc _;have HR:=rightText_any kd _ l _ (HB.out.old F5) (((HT.out.old F).old FC).old F5);have HB5:=Hi (HB.out.old F5);have BZ5:=BZC.fr F5 (fun h=>h);have BY5:=BYC.fr F5 (fun h=>h);have HF5:=Hi ((F.trans FC).trans F5);have hbs:w.heap.size≤wr.heap.size:=F.size;have hyz:z<y:=by have:=BZC.lt;omega
   rw[←hy]at BX ⊢
   have hq:wr.heap.size=wr.heap.size:=rfl;clear FC F5 BZC BYC hy F hcv HCV e1 HB;generalize (wc.alloc (.cells #[.int .i64 kd,.slice (some ⟨wr.heap.size,0,none⟩) l.length cp] 176))=w5 at *
   have x0:=BX.cell 0;have x1:=BX.cell 1;simp at x0 x1
   cases hrt:rightS kd l with
   |false=>
    rw[hrt]at HR
    have HR:=Hi HR;have hno':=HK3.out hrt;have HNO':=Hi hno';clear hno' hrt HNO;go_wp2_with (first|(go_at_call 148;refine HR.out.mono ?_;rintro e w6 ⟨rfl,F6⟩))
    go_roundg (2-(j+1))
    case measure=>rw[HG.out];omega
    case rel=>exact⟨j+1,rfl,by omega,by go_num,HNO'.out,BZ5.fr F6 (fun h=>h),BY5.fr F6 (fun h=>h),HF5.out.trans F6⟩
   |true=>
    rw[hrt]at HR
    have HR:=Hi HR;have HLK:=Hi (HK2.out hrt);clear hrt HNO;go_wp2_with (first|(go_at_call 148;refine HR.out.mono ?_;rintro e w6 ⟨rfl,F6⟩;have BX6:=BX.fr F6 (fun h=>h);have BZ6:=BZ5.fr F6 (fun h=>h);have x0':=BX6.cell 0;have x1':=BX6.cell 1;have z0':=BZ6.cell 0;have z1':=BZ6.cell 1;have f0':=BZ6.frozen 0;have f1':=BZ6.frozen 1;simp only[SG]at x0' x1' z0' z1'))
    obtain⟨BZ7,F7⟩:=set2 (BZ5.fr F6 (fun h=>h)) (.int .i64 kd) (.slice (some ⟨wr.heap.size,0,none⟩) l.length cp)
    have n0:=BZ7.cell 0;have n1:=BZ7.cell 1;simp at n0 n1
    have hzr:z<wr.heap.size:=BZ.lt;refine bodyPost_ret (v:=.agg #[.int .i64 kd,.slice (some ⟨wr.heap.size,0,none⟩) l.length cp]) (by simp[results,Tryz.results113,go_sem,n0,n1]) rfl ⟨⟨_,by rw[HLK.out],(HB5.out.old F6).fr F7 (fun _ q hq e=>by simp only[Value.ownBlock,Option.some.injEq]at hq;omega),fun q hq=>by simp only[Value.ownBlock,Option.some.injEq]at hq;omega⟩,(HF5.out.trans F6).trans' F7 (fun i hi e=>by have:=HZ.out;omega)⟩
  ·have h2:=HNO.out
   have hlk:leastK l=20:=by unfold leastK;rw[h2.1 (by omega),h2.2 (by omega)];rfl
   have HLK:=Hi hlk;have BZC:=BZ.fr FC (fun h=>h);have z0:=BZC.cell 0;have z1:=BZC.cell 1;have f0:=BZC.frozen 0;have f1:=BZC.frozen 1;simp at z0 z1
   obtain⟨BZ7,F7⟩:=set2 BZC (.int .i64 20) (.slice (some ⟨wr.heap.size,0,none⟩) l.length cp)
   have n0:=BZ7.cell 0;have n1:=BZ7.cell 1;simp at n0 n1
   have hzr:z<wr.heap.size:=BZ.lt;have HF7:=Hi ((F.trans FC).trans' F7 (fun i hi e=>by have:=HZ.out;omega));have hbs:w.heap.size≤wr.heap.size:=F.size;have HB7:=Hi (HB.out.fr F7 (fun _ q hq e=>by simp only[Value.ownBlock,Option.some.injEq]at hq;omega));clear h2 hlk BZ7 F7 F FC HB HNO;go_wp2_with fail
   refine bodyPost_ret (v:=.agg #[.int .i64 20,.slice (some ⟨wr.heap.size,0,none⟩) l.length cp]) (by simp[results,Tryz.results113,go_sem,n0,n1]) rfl ⟨⟨_,by rw[HLK.out],HB7.out,fun q hq=>by simp only[Value.ownBlock,Option.some.injEq]at hq;omega⟩,HF7.out⟩
theorem oidNumber_any (l:List UInt8)(w:World)(hlim:l.length≤1099511627776) :
  Calls Tryz.prog 146 #[str l] w fun e w'=>e=.returned (numOut (numTextS l))∧Fz w w':=by
 have hsz:(ByteArray.mk l.toArray).size=l.length:=by simp[ByteArray.size]
 by_cases hbad:l.length=0∨10<l.length∨(l.head? = some 48∧1<l.length)
 ·have hN:numTextS l=none:=by unfold numTextS;rw[if_pos hbad]
  have HN:=Hi hN;clear hN;by_cases h0:l.length=0
  ·have q0:((l.length:Int)==0)=true:=by rw[h0];rfl
   have q0':(l.length==0)=true:=by rw[h0];rfl
   clear hbad h0;go_enter Tryz.func146,Tryz.ntmps146
   go_wp2_with fail
   exact bodyPost_ret (v:=.tuple #[.int .i64 0,.bool false]) (by simp[results,Tryz.results146,go_sem]) rfl ⟨by rw[HN.out];rfl,Fr.refl _⟩
  ·have q0:((l.length:Int)==0)=false:=beq_eq_false_iff_ne.2 (by omega)
   have q0':(l.length==0)=false:=beq_eq_false_iff_ne.2 h0;by_cases h10:10<l.length
   ·have q1:(10:Int)<(l.length:Int):=by omega
    clear hbad h0;go_enter Tryz.func146,Tryz.ntmps146
    go_wp2_with fail
    exact bodyPost_ret (v:=.tuple #[.int .i64 0,.bool false]) (by simp[results,Tryz.results146,go_sem]) rfl ⟨by rw[HN.out];rfl,Fr.refl _⟩
   ·have q1:¬(10:Int)<(l.length:Int):=by omega
    have h48:l.head? = some 48∧1<l.length:=by
     rcases hbad with h|h|h
     ·exact absurd h h0
     ·exact absurd h h10
     ·exact h
    obtain⟨h48,h1⟩:=h48
    have q2:(1:Int)<(l.length:Int):=by omega
    have hix:∀ w,(Instr.index 9 (str l) (.int .i64 0)).run Tryz.prog w=.ok (.int .u8 48) w:=fun w=>by
     obtain⟨x,t,rfl⟩:∃ x t,l=x::t:=by
      cases l with
      |nil=>simp at h0
      |cons x t=>exact⟨x,t,rfl⟩
     simp only[List.head?_cons,Option.some.injEq]at h48
     subst h48;rw[run_index_string w 9 _ .i64 0 Tryz.underlying9,dif_pos ⟨by omega,by rw[hsz];simp only[List.length_cons];omega⟩]
     rfl
    clear hbad h0 h48;go_enter Tryz.func146,Tryz.ntmps146
    go_wp2_with fail
    exact bodyPost_ret (v:=.tuple #[.int .i64 0,.bool false]) (by simp[results,Tryz.results146,go_sem]) rfl ⟨by rw[HN.out];rfl,Fr.refl _⟩
 ·have hN:numTextS l=if l.all digB=true then some (numVal l) else none:=by unfold numTextS;rw[if_neg hbad]
  have HN:=Hi hN;have h0:l.length≠0:=fun h=>hbad (.inl h)
  have h10:l.length≤10:=by
   rcases Nat.lt_or_ge 10 l.length with h|h
   ·exact absurd (.inr (.inl h)) hbad
   ·exact h
  have q0:((l.length:Int)==0)=false:=beq_eq_false_iff_ne.2 (by omega);have q0':(l.length==0)=false:=beq_eq_false_iff_ne.2 h0;have q1:¬(10:Int)<(l.length:Int):=by omega
  obtain⟨x0,t0,hl0⟩:∃ x t,l=x::t:=by
   cases l with
   |nil=>simp at h0
   |cons x t=>exact⟨x,t,rfl⟩
  have hix:∀ w,(Instr.index 9 (str l) (.int .i64 0)).run Tryz.prog w=.ok (.int .u8 x0.toNat) w:=fun w=>by
   rw[run_index_string w 9 _ .i64 0 Tryz.underlying9,dif_pos ⟨by omega,by rw[hsz];omega⟩]
   subst hl0;rfl
  have hcase:((x0.toNat:Int)==48)=false∨(((x0.toNat:Int)==48)=true∧¬(1:Int)<(l.length:Int)):=by
   by_cases h:x0=48
   ·subst h
    refine .inr ⟨rfl,fun h1=>hbad (.inr (.inr ⟨by rw[hl0];rfl,by omega⟩))⟩
   ·refine .inl (beq_eq_false_iff_ne.2 (fun e=>h ?_))
    have:x0.toNat=48:=by omega
    exact UInt8.toNat_inj.1 this
  obtain⟨cp,wc,hcv,hbv,FC,-⟩:=bytes_of_str w l hlim
  have HB:=Hi hbv;clear hbad hN hl0 hbv h0;generalize x0.toNat=y0 at *
  rcases hcase with h48|⟨h48,h1⟩
  all_goals
   go_enter Tryz.func146,Tryz.ntmps146
   go_wp2_with fail
   go_loopg [4,28] l.length (fun g u i wr=>∃ j:Nat,g=l.length-j∧j≤l.length∧u=.int .i64 (numVal (l.take j))∧i=.int .i64 j∧(l.take j).all digB=true∧wr=wc)
   case atStart=>exact⟨0,rfl,Nat.zero_le _,rfl,rfl,rfl,rfl⟩
   case round=>
    obtain⟨j,hg,hj,rfl,rfl,had,rfl⟩:=hrel
    have HG:=Hi hg;have HAD:=Hi had;have hv0:=numVal_small had (by rw[List.length_take];omega);clear hg had;by_cases hjl:j<l.length
    ·obtain⟨a0,cap0,he,_,_,hx⟩:=HB.out.form
     simp only[Value.slice.injEq,true_and]at he
     obtain⟨he1,he2⟩:=he
     obtain⟨b,off,hbo,hy⟩:=hx (by omega)
     rw[←he1]at hbo
     simp only[Option.some.injEq,Addr.mk.injEq,and_true]at hbo
     obtain⟨x,hxj⟩:∃ n,l[j]? = some n:=⟨_,List.getElem?_eq_getElem hjl⟩
     have e1:=hy j x hxj;rw[←hbo.1,←hbo.2,Nat.zero_add]at e1
     have hnt:=numVal_take hxj;have hall:(l.take (j+1)).all digB=digB x:=by
      rw[List.take_add_one,hxj]
      simp[HAD.out]
     have hdx:digB x=decide (48≤x.toNat∧x.toNat≤57):=rfl;have hxl:=x.toNat_lt;have hmem:=List.mem_of_getElem? hxj;have HM:=Hi hmem;obtain⟨y,hye⟩:∃ y:Nat,y=x.toNat:=⟨_,rfl⟩
     rw[←hye]at e1 hnt hdx hxl
     have hyl:y<256:=hxl;have r1:(0:Int)≤(j:Int):=by omega
     have r2:(j:Int)<(l.length:Int):=by omega
     have HNT:=Hi hnt;have HALL:=Hi hall;have HDX:=Hi hdx;clear he1 he2 hx hy hbo hxj hnt hall hdx hye hxl hmem;generalize numVal (l.take j)=v0 at *
     by_cases hd:48≤y∧y≤57
     ·have d1:¬(y:Int)<48:=by omega
      have d2:¬(57:Int)<(y:Int):=by omega
      have hw8:IntKind.u8.wrap ((y:Int)-48)=(y:Int)-48:=by simp[IntKind.wrap,IntKind.signed,IntKind.bits];omega
      have hok:digB x=true:=by rw[HDX.out];exact decide_eq_true hd
      have HOK:=Hi hok;clear hok;go_wp2_with fail
      go_roundg (l.length-(j+1))
      case measure=>rw[HG.out];omega
      case rel=>exact⟨j+1,rfl,by omega,by rw[HNT.out];congr 1;omega,by go_num,by rw[HALL.out,HOK.out],rfl⟩
     ·have hno:numTextS l=none:=by
       rw[HN.out,if_neg]
       intro h;have:=List.all_eq_true.1 h x HM.out;rw[HDX.out]at this
       exact hd (of_decide_eq_true this)
      have HNO:=Hi hno;clear hno;by_cases hd1:y<48
      ·have d1:(y:Int)<48:=by omega
       go_wp2_with fail
       exact bodyPost_ret (v:=.tuple #[.int .i64 0,.bool false]) (by simp[results,Tryz.results146,go_sem]) rfl ⟨by rw[HNO.out];rfl,FC⟩
      ·have d1:¬(y:Int)<48:=by omega
       have d2:(57:Int)<(y:Int):=by omega
       go_wp2_with fail
       exact bodyPost_ret (v:=.tuple #[.int .i64 0,.bool false]) (by simp[results,Tryz.results146,go_sem]) rfl ⟨by rw[HNO.out];rfl,FC⟩
    ·have hall:l.take j=l:=List.take_of_length_le (by omega)
     have hres:numTextS l=some (numVal l):=by rw[HN.out,if_pos (by have:=HAD.out;rwa[hall]at this)]
     have HRES:=Hi hres;rw[hall]
     clear hall hres hv0;go_wp2_with fail
     exact bodyPost_ret (v:=.tuple #[.int .i64 (numVal l),.bool true]) (by simp[results,Tryz.results146,go_sem]) rfl ⟨by rw[HRES.out];rfl,FC⟩
def fromTextOut (w w':World)(l:List UInt8)(e:Ending):Prop:=
 match fromTextS l with
 |.error x=>e=.returned (.tuple #[.slice none 0 0,.int .i64 x])∧x≠0
 |.ok o=>∃ u,e=.returned (.tuple #[u,.int .i64 0])∧w'.ownsRow w.heap.size 3 1 u o.length (intCells o)
theorem fromText_any (l:List UInt8)(w:World)(hE:Env w)(hl:l.length≤1000000000) :
  Calls Tryz.prog 111 #[str l] w fun e w'=>fromTextOut w w' l e∧Fz w w':=by
 have HS:=Hi (strSplit_any l 46 w hE (by omega));obtain⟨hpl,hpm⟩:=cutAt_len 46 l
 have hft:fromTextS l=match numsOf (cutAt 46 l) with|none=>.error 6|some o=>if oidOk o=true then .ok o else .error 1:=rfl
 have HFT:=Hi hft;have HPM:=Hi hpm;clear hE hft hpm;generalize cutAt 46 l=ps at *
 go_enter Tryz.func111,Tryz.ntmps111
 go_wp2_with fail
 refine HS.out.mono ?_;rintro e w1 ⟨rfl,hS,F1⟩;have HSS:=Hi hS;clear HS hS;go_wp2_with fail
 go_loopg [4,12] ps.length (fun g u i wr=>∃ (j:Nat) (os:List Int) (a:Option Addr) (c:Nat),g=ps.length-j∧j≤ps.length∧u=.slice a j c∧i=.int .i64 j∧os.length=j∧wr.ownsRow w1.heap.size 3 1 (.slice a j c) j (intCells os)∧Fz w1 wr∧numsOf ps=(numsOf (ps.drop j)).map (os++·))
 case atStart=>exact⟨0,[],none,0,rfl,Nat.zero_le _,rfl,rfl,rfl,⟨rfl,.inl ⟨rfl,rfl⟩⟩,Fr.refl _,by simp⟩
 case round=>
  obtain⟨j,os,a,c,hg,hj,rfl,rfl,hos,hown,F,hR⟩:=hrel
  have HG:=Hi hg;have HOS:=Hi hos;have HOW:=Hi hown;have HR:=Hi hR;clear hg hos hown hR;by_cases hjl:j<ps.length
  ·obtain⟨a0,cap0,he,_,_,hx⟩:=Strs.form (HSS.out.old F)
   simp only[Value.slice.injEq,true_and]at he
   obtain⟨he1,he2⟩:=he
   obtain⟨b,off,hbo,hy⟩:=hx (by omega)
   rw[←he1]at hbo
   simp only[Option.some.injEq,Addr.mk.injEq,and_true]at hbo
   obtain⟨p,hp⟩:∃ p,ps[j]? = some p:=⟨_,List.getElem?_eq_getElem hjl⟩
   have e1:=hy j p hp;rw[←hbo.1,←hbo.2,Nat.zero_add]at e1
   have hpp:=HPM.out p (List.mem_of_getElem? hp);have r1:(0:Int)≤(j:Int):=by omega
   have r2:(j:Int)<(ps.length:Int):=by omega
   have HP:=Hi hp;clear he1 he2 hx hy hbo hp;go_wp2_with fail
   refine(oidNumber_any p wr (by omega)).mono ?_
   rintro e w2 ⟨rfl,F2⟩;cases hn:numTextS p with
   |none=>
    have hno:=numsOf_none HR.out HP.out hn;have hres:fromTextS l=.error 6:=by rw[HFT.out,hno]
    have HRES:=Hi hres;have hnv:numOut none=.tuple #[.int .i64 0,.bool false]:=rfl;rw[hnv]
    clear hno hres hn hnv;go_wp2_with fail
    refine bodyPost_ret (v:=.tuple #[.slice none 0 0,.int .i64 6]) (by simp[results,Tryz.results111,go_sem]) rfl ⟨?_,(F1.trans F).trans F2⟩;unfold fromTextOut;rw[HRES.out]
    exact⟨rfl,by decide⟩
   |some n=>
    have hnx:=numsOf_next HR.out HP.out hn;have HNX:=Hi hnx;have hnv:numOut (some n)=.tuple #[.int .i64 n,.bool true]:=rfl;rw[hnv]
    have F3:Fz w2 (w2.alloc (.cells #[.int .i64 n] 3)):=(Fr.refl w2).alloc _;have hs1:=F1.size;have hs2:=F.size;have hs3:=F2.size;have hbk:=(Vals.of_own HOW.out).2;obtain⟨a',c',w4,hrun,hown4,F4,hk4⟩:=add_int (ownsRow_fr HOW.out F2 (fun _ _ h=>h)) (by omega) (by omega) (n:Int) w2.heap.size F3 (Blk.new w2 3 #[.int .i64 n])
    have HRUN:=Hi hrun;have HOW4:=Hi hown4;have HF4:=Hi ((F.trans F2).trans' F4 (fun i hi e=>by have:=(hbk i e).1;omega));clear hnx hn hnv F3 hrun hown4 F4 hbk hk4;go_wp2_with (at_builtin;refine wpList_append_run (by rfl) (.tmp 23) (.tmp 25) 103 (by rfl) _ w4 (by exact HRUN.out) ?_)
    go_roundg (ps.length-(j+1))
    case measure=>rw[HG.out];omega
    case rel=>exact⟨j+1,os++[(n:Int)],a',c',rfl,by omega,rfl,by go_num,by simp[HOS.out],HOW4.out,HF4.out,HNX.out⟩
  ·obtain rfl:j=ps.length:=by omega
   have hd:ps.drop ps.length=[]:=List.drop_length;have hno:numsOf ps=some os:=by rw[HR.out,hd];simp[numsOf]
   have hri:=(Vals.of_own HOW.out).1;have HRG:=Hi (oidRight_any _ os _ hri);have hres:fromTextS l=if oidOk os=true then .ok os else .error 1:=by rw[HFT.out,hno]
   have HRES:=Hi hres;clear hd hno hri hres;cases hok:oidOk os with
   |false=>
    rw[hok]at HRG
    have HOK:=Hi hok;clear hok;go_wp2_with fail
    refine HRG.out.mono ?_;rintro e w5 ⟨rfl,rfl⟩;go_wp2_with fail
    refine bodyPost_ret (v:=.tuple #[.slice none 0 0,.int .i64 1]) (by simp[results,Tryz.results111,go_sem]) rfl ⟨?_,F1.trans F⟩;unfold fromTextOut;rw[HRES.out,HOK.out]
    exact⟨rfl,by decide⟩
   |true=>
    rw[hok]at HRG
    have HOK:=Hi hok;clear hok;go_wp2_with fail
    refine HRG.out.mono ?_;rintro e w5 ⟨rfl,rfl⟩;go_wp2_with fail
    refine bodyPost_ret (v:=.tuple #[.slice a ps.length c,.int .i64 0]) (by simp[results,Tryz.results111,go_sem]) rfl ⟨?_,F1.trans F⟩;unfold fromTextOut;rw[HRES.out,HOK.out]
    exact⟨_,rfl,by rw[HOS.out];exact own_le HOW.out F1.size⟩
def StepOut (w w':World)(l:List UInt8)(e:Ending):Prop:=
 match stepS l with
 |none=>e=.returned (.tuple #[.slice none 0 0,.int .i64 6])
 |some p=>∃ a c,e=.returned (.tuple #[.slice a 1 c,.int .i64 0])∧Kept (fun W=>Attrs W (.slice a 1 c) [p]) (fun k=>k<w.heap.size) w'
theorem nameStep_any (l:List UInt8)(w:World)(hE:Env w)(hl:l.length≤10000000) :
  Calls Tryz.prog 72 #[str l] w fun e w'=>StepOut w w' l e∧Fz w w':=by
 have hc:=strCut_any l 61 w hE (by omega);obtain⟨hcl1,hcl2⟩:=cut1_len 61 l
 have hs:stepS l=if (cut1 61 l).2.2=false then none else match fromTextS (cut1 61 l).1 with|.error _=>none|.ok o=>some ⟨o,leastWhole (cut1 61 l).2.1⟩:=rfl
 have HC:=Hi hc;have HS:=Hi hs;have HE:=Hi hE;clear hc hs hE;generalize cut1 61 l=cc at *
 obtain⟨kd,vl,ok⟩:=cc
 replace hcl1:kd.length≤l.length:=hcl1;replace hcl2:vl.length≤l.length:=hcl2;go_enter Tryz.func72,Tryz.ntmps72
 go_wp2_with fail
 refine HC.out.mono ?_;rintro e w1 ⟨rfl,F1⟩;have HFT:=Hi (fromText_any kd w1 (HE.out.old F1) (by omega));clear HC;go_wp2_with fail
 refine HFT.out.mono ?_;rintro e w2 ⟨hout,F2⟩;have HF2:=Hi (F1.trans F2);unfold fromTextOut at hout;have hss:=HS.out;cases hft:fromTextS kd with
 |error x=>
  rw[hft]at hout hss
  obtain⟨rfl,hx⟩:=hout
  have hx1:(x==0)=false:=beq_eq_false_iff_ne.2 hx;have hx2:(x != 0)=true:=by simpa using hx
  have hnone:stepS l=none:=by
   rw[hss]
   split<;>rfl
  have HN:=Hi hnone;clear hnone hss hft HFT hx;cases ok
  all_goals
   go_wp2_with fail
   refine bodyPost_ret (v:=.tuple #[.slice none 0 0,.int .i64 6]) (by simp[results,Tryz.results72,go_sem]) rfl ⟨?_,HF2.out⟩;unfold StepOut;rw[HN.out]
 |ok o=>
  rw[hft]at hout hss
  obtain⟨u,rfl,hown⟩:=hout
  cases ok with
  |false=>
   have hnone:stepS l=none:=by rw[hss];rfl
   have HN:=Hi hnone;obtain⟨au,mu,cu,rfl,-⟩:=own_shape hown
   clear hnone hss hft HFT hown;go_wp2_with fail
   refine bodyPost_ret (v:=.tuple #[.slice none 0 0,.int .i64 6]) (by simp[results,Tryz.results72,go_sem]) rfl ⟨?_,HF2.out⟩;unfold StepOut;rw[HN.out]
  |true=>
   have hsome:stepS l=some ⟨o,leastWhole vl⟩:=by rw[hss];rfl
   have HN:=Hi hsome;obtain⟨au,mu,cu,rfl,-⟩:=own_shape hown
   have HOW:=Hi hown;have HL:=Hi (least_any vl w2 ((HE.out.old HF2.out).tabs) (by omega));clear hsome hss hft HFT hown;go_wp2_with fail
   refine HL.out.mono ?_;rintro e w3 ⟨⟨u3,rfl,hb3,hk3⟩,F3⟩;have HW:=Hi (writeText_any (leastK vl) u3 vl w3 hb3 ((HE.out.old HF2.out).tabs.old F3) (least_right vl) (by omega));have HF3:=Hi F3;obtain⟨a3,c3,rfl,-⟩:=hb3.form
   clear HL hb3 hk3 F3;go_wp2_with fail
   refine HW.out.mono ?_;rintro e w4 ⟨⟨u4,rfl,ho4⟩,F4⟩;have hlw:wrapS (tagOf (leastK vl)) vl=leastWhole vl:=rfl;rw[hlw]at ho4
   obtain⟨a4,m4,c4,rfl,-⟩:=own_shape ho4
   have F5:Fz w4 (w4.alloc (.cells #[.slice au mu cu,.slice a4 m4 c4] 105)):=(Fr.refl w4).alloc _;have BX:=Blk.new w4 105 #[.slice au mu cu,.slice a4 m4 c4];have hs2:=HF2.out.size;have hs1:=F1.size;have hs3:=HF3.out.size;have hs4:=F4.size;have hown5:=ownsRow_fr (ownsRow_fr (ownsRow_fr HOW.out HF3.out (fun _ _ h=>h)) F4 (fun _ _ h=>h)) F5 (fun _ _ h=>h);have ho5:=ownsRow_fr ho4 F5 (fun _ _ h=>h);have HKP:=Hi (show Kept (fun W=>Attrs W (.slice (some ⟨w4.heap.size,0,none⟩) 1 1) [⟨o,leastWhole vl⟩]) (fun k=>k<w.heap.size) (w4.alloc (.cells #[.slice au mu cu,.slice a4 m4 c4] 105)) from fun W f=>by
    refine Attrs.of_block (BX.fr f (by omega)) (Vals.fr (Vals.of_own hown5).1 f (fun h0 k hk hs=>?_)) (Vals.fr (Vals.of_own ho5).1 f (fun h0 k hk hs=>?_))
    ·have:=((Vals.of_own hown5).2 k hk).1
     omega
    ·have:=((Vals.of_own ho5).2 k hk).1
     omega)
   have HF5:=Hi (((HF2.out.trans HF3.out).trans F4).trans F5);clear HW ho4 F4 F5 BX hown5 ho5 HOW HF2 HF3;go_wp2_with fail
   refine bodyPost_ret (v:=.tuple #[.slice (some ⟨w4.heap.size,0,none⟩) 1 1,.int .i64 0]) (by simp[results,Tryz.results72,go_sem]) rfl ⟨?_,HF5.out⟩;unfold StepOut;rw[HN.out]
   exact⟨_,_,rfl,HKP.out⟩
end Go.Proofs.YtehlipgmkinfbaaGreatDoor
