/-
  Merged by program: XR03S XR03 XR03T XR04T XR13S XR13 XR13K.
-/
import Derived.Test.YtehlipgmkinfbaaGreatDoorP0al
import Derived.Deep.CutBlock
import Derived.Deep.CutRange
import Derived.Deep.Cut
set_option linter.unusedSimpArgs false
set_option maxRecDepth 100000
set_option maxHeartbeats 8000000
namespace Go.Q
open Go
def b256:Nat→Nat→List UInt8
 |0,_=>[]
 |f+1,n=>if n=0 then [] else b256 f (n / 256)++[UInt8.ofNat (n % 256)]
theorem beS_snoc (l:List UInt8)(x:UInt8):beS (l++[x])=beS l*256+x.toNat:=by simp[beS,List.foldl_append]
theorem b256_val:∀ (f n:Nat),n<256 ^ f→beS (b256 f n)=n
 |0,n,h=>by simp at h;subst h;rfl
 |f+1,n,h=>by
  unfold b256;split
  ·rename_i h0;subst h0;rfl
  ·rw[beS_snoc,b256_val f (n / 256) (by rw[Nat.pow_succ]at h;omega),u8 (n % 256) (by omega)]
   omega
theorem b256_len:∀ (f n:Nat),(b256 f n).length≤f
 |0,_=>by simp[b256]
 |f+1,n=>by
  unfold b256;split
  ·simp
  ·have:=b256_len f (n / 256)
   rw[List.length_append,List.length_singleton]
   omega
theorem b256_head:∀ (f n:Nat),n<256 ^ f→∀ x,(b256 f n)[0]? = some x→x≠0
 |0,n,h,x,hx=>by simp[b256]at hx
 |f+1,n,h,x,hx=>by
  unfold b256 at hx;split at hx
  ·simp at hx
  ·rename_i hn
   by_cases h0:n / 256=0
   ·rw[h0]at hx
    have e:b256 f 0=[]:=by cases f<;>simp[b256]
    rw[e]at hx
    simp at hx
    subst hx;intro e;have:=congrArg UInt8.toNat e;rw[u8 (n % 256) (by omega)]at this
    simp at this
    omega
   ·have hl:0<(b256 f (n / 256)).length:=by
     rcases Nat.eq_zero_or_pos (b256 f (n / 256)).length with h1|h1
     ·have:=b256_val f (n / 256) (by rw[Nat.pow_succ]at h;omega)
      rw[List.length_eq_zero_iff.1 h1]at this
      exact absurd this.symm h0
     ·exact h1
    rw[List.getElem?_append_left hl]at hx
    exact b256_head f (n / 256) (by rw[Nat.pow_succ]at h;omega) x hx
def decVal:List Nat→Nat
 | []=>0
 |x::t=>x+10*decVal t
theorem decVal_append:∀ a b:List Nat,decVal (a++b)=decVal a+10 ^ a.length*decVal b
 | [],b=>by simp[decVal]
 |x::t,b=>by
  have ih:=decVal_append t b;simp only[List.cons_append,decVal,ih,List.length_cons,Nat.pow_succ,Nat.mul_add]
  rw[←Nat.mul_assoc,Nat.mul_comm (10 ^ t.length) 10]
  omega
def mulGo:Nat→List Nat→List Nat × Nat
 |c,[]=>([],c)
 |c,x::t=>(((256*x+c) % 10)::(mulGo ((256*x+c) / 10) t).1,(mulGo ((256*x+c) / 10) t).2)
theorem mulGo_snoc:∀ (c:Nat) (l:List Nat) (x:Nat),mulGo c (l++[x])=((mulGo c l).1++[(256*x+(mulGo c l).2) % 10],(256*x+(mulGo c l).2) / 10)
 |c,[],x=>by simp[mulGo]
 |c,y::t,x=>by
  have ih:=mulGo_snoc ((256*y+c) / 10) t x;simp only[List.cons_append,mulGo,ih]
theorem mulGo_len:∀ (c:Nat) (l:List Nat),(mulGo c l).1.length=l.length
 |c,[]=>rfl
 |c,x::t=>by simp only[mulGo,List.length_cons,mulGo_len]
theorem mulGo_val:∀ (c:Nat) (l:List Nat),decVal (mulGo c l).1+10 ^ l.length*(mulGo c l).2=256*decVal l+c
 |c,[]=>by simp[mulGo,decVal]
 |c,x::t=>by
  have ih:=mulGo_val ((256*x+c) / 10) t;simp only[mulGo,decVal,List.length_cons,Nat.pow_succ]
  rw[show 10 ^ t.length*10*(mulGo ((256*x+c) / 10) t).2=10*(10 ^ t.length*(mulGo ((256*x+c) / 10) t).2) from by rw[Nat.mul_comm (10 ^ t.length) 10,Nat.mul_assoc]]
  generalize 10 ^ t.length*(mulGo ((256*x+c) / 10) t).2=y at *
  omega
theorem mulGo_small:∀ (c:Nat) (l:List Nat),c≤255→(∀ x∈l,x<10)→(mulGo c l).2≤255∧∀ x∈(mulGo c l).1,x<10
 |c,[],hc,_=>⟨hc,fun x hx=>by cases hx⟩
 |c,x::t,hc,h=>by
  have hx:=h x (by simp);obtain⟨h1,h2⟩:=mulGo_small ((256*x+c) / 10) t (by omega) (fun y hy=>h y (by simp[hy]))
  refine⟨h1,fun y hy=>?_⟩
  simp only[mulGo,List.mem_cons]at hy
  rcases hy with rfl|hy
  ·omega
  ·exact h2 y hy
def tailD:Nat→Nat→List Nat
 |0,_=>[]
 |f+1,c=>if c=0 then [] else c % 10::tailD f (c / 10)
theorem tail_val (c:Nat)(h:c≤255):decVal (tailD 3 c)=c:=by
 simp only[tailD]
 split
 ·simp[decVal];omega
 ·split
  ·simp[decVal];omega
  ·split
   ·simp[decVal];omega
   ·simp[decVal];omega
theorem tail_digits:∀ (f c:Nat),∀ x∈tailD f c,x<10
 |0,_,x,hx=>by cases hx
 |f+1,c,x,hx=>by
  unfold tailD at hx;split at hx
  ·cases hx
  ·rcases List.mem_cons.1 hx with rfl|hx
   ·omega
   ·exact tail_digits f (c / 10) x hx
theorem tail_len:∀ (f c:Nat),(tailD f c).length≤f
 |0,_=>by simp[tailD]
 |f+1,c=>by
  unfold tailD;split
  ·simp
  ·have:=tail_len f (c / 10)
   simp only[List.length_cons]
   omega
theorem tail_last (c:Nat)(h:c≤255):∀ x,(tailD 3 c).getLast? = some x→x≠0:=by
 intro x hx;simp only[tailD]at hx
 split at hx
 ·cases hx
 ·split at hx
  ·simp at hx;omega
  ·split at hx
   ·simp at hx;omega
   ·simp at hx;omega
def stepD (d:List Nat)(x:UInt8):List Nat:=(mulGo x.toNat d).1++tailD 3 (mulGo x.toNat d).2
def decGood (d:List Nat):Prop:=(∀ x∈d,x<10)∧d≠[]∧(d=[0]∨∀ x,d.getLast? = some x→x≠0)
theorem stepD_good {d:List Nat}(h:decGood d)(x:UInt8):decGood (stepD d x)∧decVal (stepD d x)=256*decVal d+x.toNat∧(stepD d x).length≤d.length+3:=by
 obtain⟨h1,h2,h3⟩:=h
 have hx:=x.toNat_lt;obtain⟨g1,g2⟩:=mulGo_small x.toNat d (by omega) h1
 have hv:=mulGo_val x.toNat d;have hl:=mulGo_len x.toNat d;refine⟨⟨?_,?_,?_⟩,?_,?_⟩
 ·intro y hy
  rcases List.mem_append.1 hy with hy|hy
  ·exact g2 y hy
  ·exact tail_digits _ _ y hy
 ·intro e
  have:=congrArg List.length e;simp only[stepD,List.length_append,hl,List.length_nil]at this
  have h4:=List.length_pos_iff.2 h2;omega
 ·obtain⟨t,z,rfl⟩:∃ t z,d=t++[z]:=⟨d.dropLast,d.getLast h2,(List.dropLast_concat_getLast h2).symm⟩
  by_cases h0:(mulGo x.toNat (t++[z])).2=0
  ·have e:stepD (t++[z]) x=(mulGo x.toNat (t++[z])).1:=by unfold stepD;rw[h0];simp[tailD]
   rw[e]
   rw[mulGo_snoc]at h0 ⊢
   simp only at h0 ⊢
   have hz:z=0:=by omega
   rcases h3 with h3|h3
   ·have ht:t=[]:=by
     have:=congrArg List.length h3;simp at this
     exact this
    subst ht;subst hz;simp only[mulGo,List.nil_append]at h0 ⊢
    by_cases hx0:x.toNat=0
    ·exact .inl (by simp[hx0])
    ·exact .inr (fun y hy=>by simp at hy;omega)
   ·exact absurd hz (h3 z (by simp))
  ·refine .inr (fun y hy=>?_)
   unfold stepD at hy;have hne:tailD 3 (mulGo x.toNat (t++[z])).2≠[]:=by
    simp only[tailD,if_neg h0]
    exact List.cons_ne_nil _ _
   rw[List.getLast?_append]at hy
   cases hq:(tailD 3 (mulGo x.toNat (t++[z])).2).getLast? with
   |none=>exact absurd (List.getLast?_eq_none_iff.1 hq) hne
   |some q=>
    rw[hq]at hy
    simp only[Option.some_or,Option.some.injEq]at hy
    subst hy;exact tail_last _ g1 _ hq
 ·unfold stepD
  rw[decVal_append,tail_val _ g1,hl]
  exact hv
 ·unfold stepD
  rw[List.length_append,hl]
  have:=tail_len 3 (mulGo x.toNat d).2;omega
def digsS (b:List UInt8):List Nat:=b.foldl stepD [0]
theorem digs_good (b:List UInt8):decGood (digsS b)∧decVal (digsS b)=beS b∧(digsS b).length≤1+3*b.length:=by
 induction hn:b.length generalizing b with
 |zero=>
  obtain rfl:=List.length_eq_zero_iff.1 hn
  exact⟨⟨by simp[digsS],by simp[digsS],.inl rfl⟩,rfl,by simp[digsS]⟩
 |succ n ih=>
  have hne:b≠[]:=fun e=>by simp[e]at hn
  obtain⟨t,x,rfl⟩:∃ t x,b=t++[x]:=⟨b.dropLast,b.getLast hne,(List.dropLast_concat_getLast hne).symm⟩
  obtain⟨h1,h2,h3⟩:=ih t (by simpa using hn)
  have e:digsS (t++[x])=stepD (digsS t) x:=by simp[digsS,List.foldl_append]
  rw[e]
  obtain⟨g1,g2,g3⟩:=stepD_good h1 x
  refine⟨g1,by rw[g2,h2,beS_snoc];omega,by simp at hn;omega⟩
theorem digsS_take {b:List UInt8}{j:Nat}{x:UInt8}(h:b[j]? = some x):digsS (b.take (j+1))=stepD (digsS (b.take j)) x:=by
 unfold digsS;rw[List.take_add_one,h]
 simp[List.foldl_append]
def decText (d:List Nat):List UInt8:=d.reverse.map fun x=>UInt8.ofNat (48+x)
theorem dec_small {n:Nat}(h:n<10):Lib.decDigits n=[UInt8.ofNat (48+n)]:=by rw[Lib.decDigits,dif_pos h]
theorem dec_big {n:Nat}(h:¬n<10):Lib.decDigits n=Lib.decDigits (n / 10)++[UInt8.ofNat (48+n % 10)]:=by rw[Lib.decDigits,dif_neg h]
theorem decText_val:∀ d:List Nat,decGood d→decText d=Lib.decDigits (decVal d)
 | [],h=>absurd rfl h.2.1
 | [x],h=>by
  have hx:=h.1 x (by simp);have e:decVal [x]=x:=by simp[decVal]
  rw[e,dec_small hx]
  rfl
 |x::y::t,h=>by
  have hx:=h.1 x (by simp);have hl:∀ z,(x::y::t).getLast? = some z→z≠0:=by
   rcases h.2.2 with h3|h3
   ·cases h3
   ·exact h3
  have hg:decGood (y::t):=⟨fun z hz=>h.1 z (by simp[List.mem_cons.1 hz]),by simp,.inr (fun z hz=>hl z (by rw[List.getLast?_cons_cons];exact hz))⟩;have ih:=decText_val (y::t) hg;have hpos:decVal (y::t)≠0:=by
   have:∀ l:List Nat,l≠[]→(∀ z,l.getLast? = some z→z≠0)→decVal l≠0:=by
    intro l;induction l with
    |nil=>intro h;exact absurd rfl h
    |cons a s ih=>
     intro _ h;cases s with
     |nil=>simp only[decVal];have:=h a rfl;omega
     |cons b r=>
      have:=ih (by simp) (fun z hz=>h z (by rw[List.getLast?_cons_cons];exact hz));simp only[decVal]at this ⊢
      omega
   exact this _ (by simp) (fun z hz=>hl z (by rw[List.getLast?_cons_cons];exact hz))
  have e1:decText (x::y::t)=decText (y::t)++[UInt8.ofNat (48+x)]:=by simp[decText]
  have e2:decVal (x::y::t)=x+10*decVal (y::t):=rfl;rw[e1,ih,e2]
  generalize decVal (y::t)=v at *
  rw[dec_big (n:=x+10*v) (by omega),show (x+10*v) / 10=v from by omega,show (x+10*v) % 10=x from by omega]
theorem num_text {n:Int}(h0:0≤n)(h1:n≤4294967295):decText (digsS (b256 8 n.toNat))=Lib.itoa n:=by
 obtain⟨g1,g2,-⟩:=digs_good (b256 8 n.toNat)
 rw[decText_val _ g1,g2,b256_val 8 n.toNat (Nat.lt_of_le_of_lt (by omega:n.toNat≤4294967295) (by decide))]
 unfold Lib.itoa;rw[if_neg (by omega)]
open Go Go.RowKit
theorem b256_snoc {f n:Nat}(h:n≠0):b256 (f+1) n=b256 f (n / 256)++[UInt8.ofNat (n % 256)]:=by rw[b256,if_neg h]
theorem b256_zero (f:Nat):b256 f 0=[]:=by cases f<;>simp[b256]
theorem mulGo_take {c:Nat}{d:List Nat}{j x:Nat}(h:d[j]? = some x):mulGo c (d.take (j+1))=((mulGo c (d.take j)).1++[(256*x+(mulGo c (d.take j)).2) % 10],(256*x+(mulGo c (d.take j)).2) / 10):=by
 rw[List.take_add_one,h]
 exact mulGo_snoc c (d.take j) x
def mulRow (c:Nat)(d:List Nat)(j:Nat):List Nat:=(mulGo c (d.take j)).1++d.drop j
theorem mulRow_get {c:Nat}{d:List Nat}{j x:Nat}(h:d[j]? = some x):(mulRow c d j)[j]? = some x:=by
 have hj:=(List.getElem?_eq_some_iff.1 h).1;have hl:(mulGo c (d.take j)).1.length=j:=by rw[mulGo_len,List.length_take];omega
 unfold mulRow;rw[List.getElem?_append_right (by omega),hl,Nat.sub_self,List.getElem?_drop]
 exact h
theorem mulRow_set {c:Nat}{d:List Nat}{j x:Nat}(h:d[j]? = some x):(mulRow c d j).set j ((256*x+(mulGo c (d.take j)).2) % 10)=mulRow c d (j+1):=by
 have hj:=(List.getElem?_eq_some_iff.1 h).1;have hl:(mulGo c (d.take j)).1.length=j:=by rw[mulGo_len,List.length_take];omega
 have hd:d.drop j=x::d.drop (j+1):=by
  obtain⟨h1,rfl⟩:=List.getElem?_eq_some_iff.1 h
  exact List.drop_eq_getElem_cons h1
 unfold mulRow;rw[mulGo_take h,List.set_append_right _ _ (by omega),hl,Nat.sub_self,hd]
 simp
theorem mulRow_all (c:Nat)(d:List Nat):mulRow c d d.length=(mulGo c d).1:=by
 unfold mulRow;rw[List.take_length,List.drop_length,List.append_nil]
theorem fold_blank {s:List Int × Bool}{n:Int}(h:blankB n=true):foldStep s n=(s.1,decide (0<s.1.length)):=by unfold foldStep;rw[if_pos h]
theorem fold_sign {s:List Int × Bool}{n:Int}(h:blankB n=false):foldStep s n=((if s.2=true then s.1++[32] else s.1)++[smallS n],false):=by unfold foldStep;rw[if_neg (by rw[h];decide)]
theorem fold_front (l:List Int):∀ j,j≤l.length→(∀ (k:Nat) (n:Int),k<j→l[k]? = some n→blankB n=true)→foldAcc (l.take j)=([],false)
 |0,_,_=>rfl
 |j+1,hj,h=>by
  obtain⟨n,hn⟩:∃ n,l[j]? = some n:=⟨_,List.getElem?_eq_getElem (by omega)⟩
  rw[foldAcc_take hn,fold_front l j (by omega) (fun k n hk=>h k n (by omega)),fold_blank (h j n (by omega) hn)]
  rfl
theorem fold_back (l:List Int)(t:Nat):∀ d,t+d≤l.length→(∀ (k:Nat) (n:Int),t≤k→l[k]? = some n→blankB n=true)→(foldAcc (l.take (t+d))).1=(foldAcc (l.take t)).1
 |0,_,_=>rfl
 |d+1,hd,h=>by
  obtain⟨n,hn⟩:∃ n,l[t+d]? = some n:=⟨_,List.getElem?_eq_getElem (by omega)⟩
  rw[←Nat.add_assoc,foldAcc_take hn,fold_blank (h (t+d) n (by omega) hn)]
  exact fold_back l t d (by omega) h
def fOut (l:List Int)(i:Nat):List Int:=(foldAcc (l.take i)).1++(if (foldAcc (l.take i)).2=true then [32] else [])
def fAt (l:List Int)(fr i:Nat):Prop:=(i=fr∧foldAcc (l.take i)=([],false))∨(fr<i∧(foldAcc (l.take i)).1≠[]∧∀ p,l[i-1]? = some p→(foldAcc (l.take i)).2=blankB p)
theorem fOut_front {l:List Int}{fr:Nat}(h:foldAcc (l.take fr)=([],false)):fOut l fr=[]:=by unfold fOut;rw[h];rfl
theorem fOut_sign {l:List Int}{fr i:Nat}{n:Int}(_h:fAt l fr i)(hfr:fr≤i)(hn:l[i]? = some n)(hb:blankB n=false):fOut l (i+1)=fOut l i++[smallS n]∧fAt l fr (i+1):=by
 have e:=foldAcc_take hn;rw[fold_sign hb]at e
 refine⟨?_,.inr ⟨by omega,by rw[e];simp,fun p hp=>?_⟩⟩
 ·unfold fOut
  rw[e]
  simp only[Bool.false_eq_true,if_false,List.append_nil]
  split<;>simp
 ·rw[Nat.add_sub_cancel,hn]at hp
  cases hp
  rw[e,hb]
theorem fOut_blank {l:List Int}{fr i:Nat}{n p:Int}(h:fAt l fr i)(hfr:fr<i)(hn:l[i]? = some n)(hp:l[i-1]? = some p)(hb:blankB n=true):fOut l (i+1)=fOut l i++(if blankB p=true then [] else [32])∧fAt l fr (i+1):=by
 have e:=foldAcc_take hn;rw[fold_blank hb]at e
 rcases h with ⟨h1,-⟩|⟨-,h2,h3⟩
 ·omega
 ·have hlen:0<(foldAcc (l.take i)).1.length:=List.length_pos_iff.2 h2
  have hd:decide (0<(foldAcc (l.take i)).1.length)=true:=decide_eq_true hlen;rw[hd]at e
  have h3p:=h3 p hp;refine⟨?_,.inr ⟨by omega,by rw[e];exact h2,fun q hq=>?_⟩⟩
  ·unfold fOut
   rw[e,h3p]
   cases hbp:blankB p<;>simp
  ·rw[Nat.add_sub_cancel,hn]at hq
   cases hq
   rw[e,hb]
theorem fOut_all {l:List Int}{fr t:Nat}(h:fAt l fr t)(ht:t≤l.length)(hl:fr<t→∀ p,l[t-1]? = some p→blankB p=false)(hb:∀ (k:Nat) (n:Int),t≤k→l[k]? = some n→blankB n=true):foldS l=fOut l t:=by
 have e:=fold_back l t (l.length-t) (by omega) hb;rw[show t+(l.length-t)=l.length from by omega,List.take_length]at e
 have e2:foldS l=(foldAcc l).1:=rfl;rw[e2,e]
 unfold fOut;rcases h with ⟨-,h1⟩|⟨h1,h2,h3⟩
 ·rw[h1];rfl
 ·obtain⟨p,hp⟩:∃ p,l[t-1]? = some p:=⟨_,List.getElem?_eq_getElem (by omega)⟩
  rw[h3 p hp,hl h1 p hp]
  simp
theorem fOut_len (l:List Int)(i:Nat):(fOut l i).length≤2*i+1:=by
 unfold fOut;have h1:=foldAcc_len (l.take i);have h2:(l.take i).length≤i:=by rw[List.length_take];omega
 rw[List.length_append]
 split<;>simp only[List.length_cons,List.length_nil]<;>omega
theorem may_nats {l:List Int}(h:∀ n∈l,mayS 12 n=true):l=natInts (l.map Int.toNat)∧(∀ n∈l.map Int.toNat,n<1114112)∧encAll (l.map Int.toNat)=ofS 12 l:=by
 refine⟨?_,?_,?_⟩
 ·unfold natInts
  rw[List.map_map]
  refine((List.map_congr_left (fun m hm=>?_)).trans (List.map_id l)).symm
  have:=h m hm;simp[mayS,surr]at this
  simp
  omega
 ·intro n hn
  obtain⟨m,hm,rfl⟩:=List.mem_map.1 hn
  have:=h m hm;simp[mayS,surr]at this
  omega
 ·simp only[ofS,encAll,List.flatMap_map]
  rfl
end Go.Q
namespace Go.Proofs.YtehlipgmkinfbaaGreatDoor
open Go Go.RowKit Go.Q
theorem r03Of_any (n:Nat)(hn:n≤2147483647)(w:World) :
  Calls Tryz.prog 156 #[.int .i64 n] w fun e w'=>∃ v,e=.returned (.agg #[.bool false,v])∧Bytes w' v (b256 8 n)∧Fz w w':=by
 obtain⟨z,hz⟩:∃ z,z=w.heap.size:=⟨_,rfl⟩
 have BZ:=Blk.new w 54 #[.bool false,.slice none 0 0];have F0:Fz w (w.alloc (.cells #[.bool false,.slice none 0 0] 54)):=(Fr.refl w).alloc _;rw[←hz]at BZ
 have hzw:∀ k,k<w.heap.size→k=z→False:=fun k hk e=>by omega
 have HZ:=Hi hz;have HF0:=Hi F0;have HZW:=Hi hzw;have q0:¬(n:Int)<0:=by omega
 clear hz F0 hzw;go_enter Tryz.func156,Tryz.ntmps156
 go_upto_region 1 with fail
 rw[←HZ.out]
 generalize (w.alloc (.cells #[.bool false,.slice none 0 0] 54))=w0 at *
 have HBZ:=Hi BZ;clear BZ;go_wp2_with fail
 go_loopg [0,3] n (fun g k s wr=>∃ (m f:Nat) (l:List UInt8) (a:Option Addr) (c:Nat),g=m∧k=.int .i64 m∧m≤n∧l.length+f=8∧m<256 ^ f∧s=.slice a l.length c∧wr.ownsRow w0.heap.size 5 1 (.slice a l.length c) l.length (Lib.byteCells l)∧b256 8 n=b256 f m++l∧Fz w0 wr)
 case atStart=>exact⟨n,8,[],none,0,rfl,rfl,Nat.le_refl _,rfl,Nat.lt_of_le_of_lt hn (by decide),rfl,⟨rfl,.inl ⟨rfl,rfl⟩⟩,by simp,Fr.refl _⟩
 case round=>
  obtain⟨m,f,l,a,c,hg,rfl,hmn,hlf,hmf,rfl,hB,hN,F⟩:=hrel
  have HG:=Hi hg;have HN:=Hi hN;have HB:=Hi hB;have HF:=Hi F;have HMF:=Hi hmf;clear hg hN hB hmf;by_cases h0:m=0
  ·subst h0
   have hres:b256 8 n=l:=by rw[HN.out,b256_zero];rfl
   have HR:=Hi hres;have BZ:=HBZ.out.fr F (fun h=>h);have SZ:=BZ.cell;have ZZ:=BZ.frozen;clear hres F;go_wp2_with fail
   obtain⟨B5,F5⟩:=set2 BZ (.bool false) (.slice a l.length c)
   generalize ((wr.setCell ⟨z,0,none⟩ (.bool false)).setCell ⟨z,1,none⟩ (.slice a l.length c))=w5 at *
   have n0:=B5.cell 0;have n1:=B5.cell 1;simp at n0 n1
   refine bodyPost_ret (v:=.agg #[.bool false,.slice a l.length c]) (by simp[results,Tryz.results156,go_sem,n0,n1]) rfl ?_;refine⟨_,rfl,?_,(HF0.out.trans HF.out).trans' F5 HZW.out⟩
   rw[HR.out]
   exact(Vals.of_own HB.out).1.fr F5 (fun _ k hk e=>by have:=((Vals.of_own HB.out).2 k hk).1;have:=HBZ.out.lt;omega)
  ·have q1:((m:Int)==0)=false:=beq_eq_false_iff_ne.2 (by omega)
   have q1b:((m:Int) != 0)=true:=by simp;omega
   obtain⟨r,hr⟩:∃ r,r=m % 256:=⟨_,rfl⟩
   have hrl:r<256:=by omega
   have hri:(m:Int) % 256=(r:Int):=by omega
   have q2:¬(r:Int)<0:=by omega
   have hw8:IntKind.u8.wrap (r:Int)=(r:Int):=by simp[IntKind.wrap,IntKind.signed,IntKind.bits];omega
   obtain⟨f,rfl⟩:∃ f',f=f'+1:=by
    cases f with
    |zero=>have:=HMF.out;simp at this;omega
    |succ f=>exact⟨f,rfl⟩
   have hnx:b256 8 n=b256 f (m / 256)++(UInt8.ofNat r::l):=by rw[HN.out,b256_snoc h0,hr];simp
   have hmf2:m / 256<256 ^ f:=by have:=HMF.out;rw[Nat.pow_succ]at this;omega
   have HNX:=Hi hnx;have HMF2:=Hi hmf2;have hmi:(m:Int) / 256=((m / 256:Nat):Int):=by omega
   obtain⟨m2,hm2⟩:∃ m2,m2=m / 256:=⟨_,rfl⟩
   rw[←hm2]at HNX HMF2 hmi
   have hm2l:m2<m:=by omega
   have BX:=Blk.new wr 5 #[.int .u8 r];have F3:Fz wr (wr.alloc (.cells #[.int .u8 r] 5)):=(Fr.refl wr).alloc _;have ho1:(wr.alloc (.cells #[.int .u8 r] 5)).ownsRow wr.heap.size 5 1 (.slice (some ⟨wr.heap.size,0,none⟩) 1 1) 1 (Lib.byteCells [UInt8.ofNat r]):=by
    have e8:=Go.Q.u8 r (by omega);have BX':Blk (wr.alloc (.cells #[.int .u8 r] 5)) wr.heap.size 5 (Lib.byteCells [UInt8.ofNat r]).toArray:=by
     simpa [Lib.byteCells,e8] using BX
    exact own_bytes BX' (by simp) wr.heap.size (Nat.le_refl _)
   obtain⟨v4,w4,hr4,ho4,F4,_⟩:=append_bytes ho1 a l.length c l ((Vals.of_own HB.out).1.old F3) (by omega) F3.size
   obtain⟨a4,m4,c4,rfl,rfl⟩:=own_shape ho4
   have hs:=F.size;have HF4:=Hi ((HF.out.trans F3).trans' F4 (fun i hi e=>by have:=((Vals.of_own ho1).2 i e).1;omega));have e4:1+l.length=(UInt8.ofNat r::l).length:=by simp;omega
   have ho5:=own_le ho4 hs;rw[e4]at ho5 hr4
   have HO5:=Hi ho5;have HRUN:=Hi hr4;clear hr hnx hmf2 hm2 BX F3 ho1 hr4 ho4 F4 ho5 F hs HN HMF;go_wp2_with (at_builtin;refine wpList_append_run (by rfl) (.tmp 18) (.tmp 19) 38 (by rfl) _ w4 (by exact HRUN.out) ?_)
   go_roundg m2
   case measure=>rw[HG.out];omega
   case rel=>exact⟨m2,f,UInt8.ofNat r::l,a4,c4,rfl,by go_num,by omega,by simp;omega,HMF2.out,rfl,HO5.out,HNX.out,HF4.out⟩
theorem r03Made_any (v:Value)(l:List UInt8)(w:World)(h:Bytes w v l)(hh:∀ x,l[0]? = some x→x≠0)(hl:l.length≤1000000) :
  Calls Tryz.prog 78 #[.agg #[.bool false,v]] w fun e w'=>∃ u,e=.returned (.agg #[.bool false,u])∧Bytes w' u l∧(∀ k,u.ownBlock=some k→w.heap.size<k)∧Fz w w':=by
 obtain⟨a,cap,rfl,hcap,hcm,hx⟩:=h.form
 obtain⟨z,hz⟩:∃ z,z=w.heap.size:=⟨_,rfl⟩
 have BZ:=(Blk.new w 54 #[.bool false,.slice a l.length cap]).alloc (.cells #[.bool false,.slice none 0 0] 54);have BR:=Blk.new (w.alloc (.cells #[.bool false,.slice a l.length cap] 54)) 54 #[.bool false,.slice none 0 0];have F0:Fz w ((w.alloc (.cells #[.bool false,.slice a l.length cap] 54)).alloc (.cells #[.bool false,.slice none 0 0] 54)):=((Fr.refl w).alloc _).alloc _;rw[World.size_alloc]at BR
 rw[←hz]at BZ BR
 have hzw:∀ k,k<w.heap.size→k=z+1→False:=fun k hk e=>by omega
 have HZW:=Hi hzw;have HX:=Hi hx;have HF0:=Hi F0;have HB:=Hi (h.old F0);unfold maxLen at hcm;have HZ:=Hi hz;have q1:(0:Int)≤(l.length:Int):=by omega
 have q2:(l.length:Int)≤(cap:Int):=by omega
 clear h hx hz F0 hzw;go_enter Tryz.func78,Tryz.ntmps78
 go_upto_region 1 with fail
 rw[←HZ.out]
 generalize ((w.alloc (.cells #[.bool false,.slice a l.length cap] 54)).alloc (.cells #[.bool false,.slice none 0 0] 54))=w0 at *
 have SZ:=BZ.cell;have SR:=BR.cell;have ZR:=BR.frozen;go_wp2_with fail
 go_loopg [3] 1 (fun g k wr=>g=1∧k=.int .i64 0∧wr=w0)
 case atStart=>exact⟨rfl,rfl,rfl⟩
 case round=>
  obtain⟨-,rfl,rfl⟩:=hrel
  have hlz:=BR.lt;have SA:=(BZ.alloc (.cells #[] 5)).cell;have ho0:=own_block (Blk.new wr 5 #[]) 0 (Nat.le_refl _) (Nat.zero_le _) wr.heap.size (Nat.le_refl _);have F3:Fz wr (wr.alloc (.cells #[] 5)):=(Fr.refl wr).alloc _;obtain⟨v4,w4,hr4,ho4,F4,_⟩:=append_bytes (xs:=[]) ho0 a l.length cap l (HB.out.old F3) (by omega) F3.size
  obtain⟨a4,m4,c4,rfl,rfl⟩:=own_shape ho4
  rw[Nat.zero_add]at hr4 ho4
  simp only[List.nil_append]at ho4
  have F4':=F3.trans' F4 (fun i hi e=>by have:=((Vals.of_own ho0).2 i e).1;omega);have HBZ4:=Hi (BZ.fr F4' (fun h=>h));have HBR4:=Hi (BR.fr F4' (fun h=>h));have HF4:=Hi (HF0.out.trans F4');have HOB:=Hi (show ∀ k,(Value.slice a4 l.length c4).ownBlock=some k→z+1<k∧k<w4.heap.size from fun k hk=>by have:=(Vals.of_own ho4).2 k hk;omega);have HO4:=Hi (Vals.of_own ho4).1;have HRUN:=Hi hr4;clear hr4 ho4 F4 F4' F3 ho0 BZ BR SR ZR;rcases Nat.eq_zero_or_pos l.length with h0|h0
  ·obtain rfl:l=[]:=List.length_eq_zero_iff.1 h0
   simp only[List.length_nil] at *
   go_upto_region 5 with (at_builtin;refine wpList_append_run (by rfl) (.tmp 20) (.tmp 24) 38 (by rfl) _ w4 (by exact HRUN.out) ?_)
   obtain⟨d,hd⟩:∃ d,d=w4.heap.size:=⟨_,rfl⟩
   have BD:=Blk.new w4 54 #[.bool false,.slice a4 0 c4];have F5:Fz w4 (w4.alloc (.cells #[.bool false,.slice a4 0 c4] 54)):=(Fr.refl w4).alloc _;have BZ5:=HBZ4.out.fr F5 (fun h=>h);have BR5:=HBR4.out.fr F5 (fun h=>h);have hrl:=HBR4.out.lt;have HF5:=Hi (HF4.out.trans F5);have HO5:=Hi (HO4.out.old F5);rw[←hd]at BD ⊢
   have hdz:d≠z+1:=by omega
   have HDL:=Hi (show w4.heap.size≤d by omega);have HDW:=Hi (show ∀ k,k<w.heap.size→k=d→False from fun k hk e=>by have:=HF4.out.size;omega);clear F5 HF4 HO4 hrl hd;generalize (w4.alloc (.cells #[.bool false,.slice a4 0 c4] 54))=w5 at *
   have s0:=BZ5.cell 0;simp at s0
   have SD:=BD.cell;have ZD:=BD.frozen;go_upto_region 6 with fail
   have BD6:=BD.set 0 (.bool false);simp at BD6
   have F6:Fr (fun q=>q=d) w5 (w5.setCell ⟨d,0,none⟩ (.bool false)):=Fr.setCell (S:=fun q=>q=d) (p:=⟨d,0,none⟩) (Fr.refl w5) (fun _=>rfl) _;have BR6:=BR5.fr F6 (fun e=>hdz e.symm);have HO6:=Hi (HO5.out.fr F6 (fun h0 k hk e=>by have:=HOB.out k hk;have:=HDL.out;omega));have HF6:=Hi (HF5.out.trans' F6 HDW.out);clear s0 SD ZD F6 BR5 BZ5 BD;generalize (w5.setCell ⟨d,0,none⟩ (.bool false))=w6 at *
   have SD:=BD6.cell;have SR:=BR6.cell;have ZR:=BR6.frozen;go_wp2_with fail
   obtain⟨B7,F7⟩:=set2 BR6 (.bool false) (.slice a4 0 c4)
   generalize ((w6.setCell ⟨z+1,0,none⟩ (.bool false)).setCell ⟨z+1,1,none⟩ (.slice a4 0 c4))=w7 at *
   have n0:=B7.cell 0;have n1:=B7.cell 1;simp at n0 n1
   refine bodyPost_ret (v:=.agg #[.bool false,.slice a4 0 c4]) (by simp[results,Tryz.results78,go_sem,n0,n1]) rfl ?_;exact⟨_,rfl,HO6.out.fr F7 (fun h0 k hk e=>by have:=HOB.out k hk;omega),fun k hk=>by have:=HOB.out k hk;have:=HZ.out;omega,HF6.out.trans' F7 HZW.out⟩
  ·obtain⟨b,o,rfl,hy⟩:=HX.out h0
   obtain⟨x,hxx⟩:∃ x,l[0]? = some x:=⟨_,List.getElem?_eq_getElem h0⟩
   have e1:=HF0.out.cell (hy 0 x hxx) (fun h=>h);have hx0:=hh x hxx;have hx1:((x.toNat:Int)==0)=false:=beq_eq_false_iff_ne.2 (fun e=>hx0 (UInt8.toNat_inj.1 (by simpa using e)));generalize x.toNat=y at *
   simp only[Nat.add_zero]at e1
   have q3:(0:Int)<(l.length:Int):=by omega
   clear hy hxx hx0;go_upto_region 5 with (at_builtin;refine wpList_append_run (by rfl) (.tmp 20) (.tmp 24) 38 (by rfl) _ w4 (by exact HRUN.out) ?_)
   obtain⟨d,hd⟩:∃ d,d=w4.heap.size:=⟨_,rfl⟩
   have BD:=Blk.new w4 54 #[.bool false,.slice a4 l.length c4];have F5:Fz w4 (w4.alloc (.cells #[.bool false,.slice a4 l.length c4] 54)):=(Fr.refl w4).alloc _;have BZ5:=HBZ4.out.fr F5 (fun h=>h);have BR5:=HBR4.out.fr F5 (fun h=>h);have hrl:=HBR4.out.lt;have HF5:=Hi (HF4.out.trans F5);have HO5:=Hi (HO4.out.old F5);rw[←hd]at BD ⊢
   have hdz:d≠z+1:=by omega
   have HDL:=Hi (show w4.heap.size≤d by omega);have HDW:=Hi (show ∀ k,k<w.heap.size→k=d→False from fun k hk e=>by have:=HF4.out.size;omega);clear F5 HF4 HO4 hrl hd;generalize (w4.alloc (.cells #[.bool false,.slice a4 l.length c4] 54))=w5 at *
   have s0:=BZ5.cell 0;simp at s0
   have SD:=BD.cell;have ZD:=BD.frozen;go_upto_region 6 with fail
   have BD6:=BD.set 0 (.bool false);simp at BD6
   have F6:Fr (fun q=>q=d) w5 (w5.setCell ⟨d,0,none⟩ (.bool false)):=Fr.setCell (S:=fun q=>q=d) (p:=⟨d,0,none⟩) (Fr.refl w5) (fun _=>rfl) _;have BR6:=BR5.fr F6 (fun e=>hdz e.symm);have HO6:=Hi (HO5.out.fr F6 (fun h0 k hk e=>by have:=HOB.out k hk;have:=HDL.out;omega));have HF6:=Hi (HF5.out.trans' F6 HDW.out);clear s0 SD ZD F6 BR5 BZ5 BD;generalize (w5.setCell ⟨d,0,none⟩ (.bool false))=w6 at *
   have SD:=BD6.cell;have SR:=BR6.cell;have ZR:=BR6.frozen;go_wp2_with fail
   obtain⟨B7,F7⟩:=set2 BR6 (.bool false) (.slice a4 l.length c4)
   generalize ((w6.setCell ⟨z+1,0,none⟩ (.bool false)).setCell ⟨z+1,1,none⟩ (.slice a4 l.length c4))=w7 at *
   have n0:=B7.cell 0;have n1:=B7.cell 1;simp at n0 n1
   refine bodyPost_ret (v:=.agg #[.bool false,.slice a4 l.length c4]) (by simp[results,Tryz.results78,go_sem,n0,n1]) rfl ?_;exact⟨_,rfl,HO6.out.fr F7 (fun h0 k hk e=>by have:=HOB.out k hk;omega),fun k hk=>by have:=HOB.out k hk;have:=HZ.out;omega,HF6.out.trans' F7 HZW.out⟩
theorem r03Text_any (v:Value)(l:List UInt8)(w:World)(h:Bytes w v l)(hh:∀ x,l[0]? = some x→x≠0)(hl:l.length≤8) :
  Calls Tryz.prog 155 #[.agg #[.bool false,v]] w fun e w'=>e=.returned (str (decText (digsS l)))∧Fz w w':=by
 obtain⟨a,cap,rfl,-⟩:=h.form
 obtain⟨z,hz⟩:∃ z,z=w.heap.size:=⟨_,rfl⟩
 have BZ:=Blk.new w 54 #[.bool false,.slice a l.length cap];have F0:Fz w (w.alloc (.cells #[.bool false,.slice a l.length cap] 54)):=(Fr.refl w).alloc _;rw[←hz]at BZ
 have hzw:∀ k,k<w.heap.size→k=z→False:=fun k hk e=>by omega
 have HZW:=Hi hzw;have HM:=Hi (r03Made_any _ l _ (h.old F0) hh (by omega));have HF0:=Hi F0;have HZ:=Hi hz;clear h hz F0 hzw;go_enter Tryz.func155,Tryz.ntmps155
 go_upto_region 1 with fail
 rw[←HZ.out]
 generalize (w.alloc (.cells #[.bool false,.slice a l.length cap] 54))=w0 at *
 have SZ:=BZ.cell;go_wp2_with fail
 refine HM.out.mono ?_;rintro e w1 ⟨u,rfl,hu,hub,F1⟩;obtain⟨au,cu,rfl,-⟩:=hu.form
 have BZ1:=BZ.fr F1 (fun h=>h);have HB1:=Hi hu;have HF1:=Hi (HF0.out.trans F1);have SZ:=BZ1.cell;have ZZ:=BZ1.frozen;have hs0:=BZ.lt;obtain⟨BZ2,F2⟩:=set2 BZ1 (.bool false) (.slice au l.length cu)
 have HB2:=Hi (hu.fr F2 (fun _ k hk e=>by have:=hub k hk;omega));have HF2:=Hi (HF1.out.trans' F2 HZW.out);clear hu F1 HM hub hs0 F2 HB1 HF1;go_upto_region 2 with fail
 generalize ((w1.setCell ⟨z,0,none⟩ (.bool false)).setCell ⟨z,1,none⟩ (.slice au l.length cu))=w2 at *
 clear SZ ZZ BZ1;have B0:=Blk.new w2 3 #[.int .i64 0];have F3:Fz w2 (w2.alloc (.cells #[.int .i64 0] 3)):=(Fr.refl w2).alloc _;have ho0:(w2.alloc (.cells #[.int .i64 0] 3)).ownsRow w2.heap.size 3 1 (.slice (some ⟨w2.heap.size,0,none⟩) 1 1) 1 (intCells (natInts [0])):=own_block B0 1 (by simp) (by unfold maxLen;simp) w2.heap.size (Nat.le_refl _);have HO0:=Hi ho0;have HF3:=Hi F3;have HBZ:=Hi BZ2;obtain⟨base,hbase⟩:∃ b,b=w2.heap.size:=⟨_,rfl⟩
 rw[←hbase]at HO0
 have hbz:z<base:=by have:=BZ2.lt;omega
 have HBASE:=Hi hbase;clear B0 F3 ho0 BZ2;go_upto_region 4 with fail
 rw[←HBASE.out]
 generalize (w2.alloc (.cells #[.int .i64 0] 3))=w3 at *
 clear hbase;go_loopg [3,4] l.length (fun g dd i wr=>∃ (j:Nat) (D:List Nat) (a1:Option Addr) (c1:Nat),g=l.length-j∧j≤l.length∧i=.int .i64 j∧dd=.slice a1 D.length c1∧D=digsS (l.take j)∧wr.ownsRow base 3 1 (.slice a1 D.length c1) D.length (intCells (natInts D))∧Fz w2 wr)
 case atStart=>exact⟨0,[0],some ⟨base,0,none⟩,1,rfl,Nat.zero_le _,rfl,rfl,rfl,HO0.out,HF3.out⟩
 case round=>
  obtain⟨j,D,a1,c1,hg,hj,rfl,rfl,hD,hO1,F4⟩:=hrel
  have HG:=Hi hg;have HD:=Hi hD;have HO1:=Hi hO1;have HF4:=Hi F4;have hgood:=digs_good (l.take j);rw[←hD]at hgood
  obtain⟨hg1,hg2,hg3⟩:=hgood
  have hDl:D.length≤25:=by rw[List.length_take]at hg3;omega
  have HGD:=Hi hg1;have BZ4:=HBZ.out.fr F4 (fun h=>h);have s1:=BZ4.cell 1;simp at s1
  clear hg hD hO1 hg1 hg2 hg3;by_cases hjl:j<l.length
  ·obtain⟨x,hxj⟩:∃ x,l[j]? = some x:=⟨_,List.getElem?_eq_getElem hjl⟩
   obtain⟨b,o,rfl,hy⟩:∃ b o,au=some ⟨b,o,none⟩∧∀ i x,l[i]? = some x→w2.cell? ⟨b,o+i,none⟩=some (.int .u8 x.toNat):=by
    obtain⟨a0,c0,he,-,-,hy⟩:=HB2.out.form
    simp only[Value.slice.injEq]at he
    obtain⟨rfl,-,-⟩:=he
    exact hy (by omega)
   have e1:=F4.cell (hy j x hxj) (fun h=>h);have HDN:=Hi (digsS_take hxj);have hx256:=x.toNat_lt;obtain⟨y,hyx⟩:∃ y,y=x.toNat:=⟨_,rfl⟩
   have HYX:=Hi hyx;rw[←hyx]at e1 hx256
   have hy256:y≤255:=by omega
   have q1:(0:Int)≤(j:Int):=by omega
   have q2:(j:Int)<(l.length:Int):=by omega
   clear hy hyx hxj hx256 F4 BZ4;go_upto_region 8 with fail
   clear s1 e1;go_loopg [5,6] D.length (fun g c k wi=>∃ (j2:Nat),g=D.length-j2∧j2≤D.length∧c=.int .i64 (mulGo y (D.take j2)).2∧k=.int .i64 j2∧wi.ownsRow base 3 1 (.slice a1 D.length c1) D.length (intCells (natInts (mulRow y D j2)))∧Fz w2 wi)
   case atStart=>exact⟨0,rfl,Nat.zero_le _,rfl,rfl,HO1.out,HF4.out⟩
   case round=>
    obtain⟨j2,hg,hj2,rfl,rfl,hO2,F5⟩:=hrel
    have HG2:=Hi hg;have HF5:=Hi F5;have hcs:=(mulGo_small y (D.take j2) hy256 (fun t ht=>HGD.out.1 t (List.mem_of_mem_take ht))).1;obtain⟨cc,hcc⟩:∃ cc,cc=(mulGo y (D.take j2)).2:=⟨_,rfl⟩
    have HCC:=Hi hcc;rw[←hcc]at hcs ⊢
    clear hg hcc;by_cases hjl2:j2<D.length
    ·obtain⟨t,ht⟩:∃ t,D[j2]? = some t:=⟨_,List.getElem?_eq_getElem hjl2⟩
     have ht10:=HGD.out.1 t (List.mem_of_getElem? ht);obtain⟨n,hn⟩:∃ n,n=256*t+cc:=⟨_,rfl⟩
     have hni:256*(t:Int)+(cc:Int)=(n:Int):=by omega
     have hset:=mulRow_set (c:=y) ht;rw[←HCC.out,←hn]at hset
     have hget:=mulRow_get (c:=y) ht;have hmt:=mulGo_take (c:=y) ht;rw[←HCC.out,←hn]at hmt
     obtain⟨g,rfl,hg1,hg2,-,hlc,hcm,hfz,hcell,hset2,F6⟩:=own_set hO2 j2 hjl2 (.int .i64 ((n % 10:Nat):Int))
     have hcell2:(intCells (natInts (mulRow y D j2)))[j2]? = some (.int .i64 (t:Int)):=by rw[intCells_get,List.getElem?_map,hget];rfl
     rw[hcell2]at hcell
     have hset3:(intCells (natInts (mulRow y D j2))).set j2 (.int .i64 ((n % 10:Nat):Int))=intCells (natInts (mulRow y D (j2+1))):=by
      rw[←hset]
      simp only[intCells,natInts,List.map_set]
     rw[hset3]at hset2
     have q3:(0:Int)≤(j2:Int):=by omega
     have q4:(j2:Int)<(D.length:Int):=by omega
     have hnl:n≤2559:=by omega
     obtain⟨r,hr⟩:∃ r,r=n % 10:=⟨_,rfl⟩
     obtain⟨qq,hqq⟩:∃ qq,qq=n / 10:=⟨_,rfl⟩
     have hn1:(n:Int) % 10=(r:Int):=by omega
     have hn2:(n:Int) / 10=(qq:Int):=by omega
     rw[←hr]at hset2
     rw[←hqq]at hmt
     have hrl:r<10:=by omega
     have hql:qq≤255:=by omega
     rw[←hr]at F6
     have HSET:=Hi hset2;have HMT:=Hi hmt;have HF6:=Hi (F5.trans' F6 (fun i hi e=>by have:=HBASE.out;omega));clear hr hqq;have hcx:D.length≤c1:=hlc;clear hset hset2 hset3 hget hmt hcell2 ht hn F5 F6 hO2 hcm;go_wp2_with fail
     go_roundg (D.length-(j2+1))
     case measure=>rw[HG2.out];omega
     case rel=>exact⟨j2+1,rfl,by omega,by rw[HMT.out],by go_num,HSET.out,HF6.out⟩
    ·obtain rfl:j2=D.length:=by omega
     have q4:¬(D.length:Int)<(D.length:Int):=by omega
     rw[mulRow_all]at hO2
     have hcc2:=HCC.out;rw[List.take_length]at hcc2
     obtain⟨M,hM⟩:∃ M,M=(mulGo y D).1:=⟨_,rfl⟩
     have hMl:M.length=D.length:=by rw[hM,mulGo_len]
     have hstep:digsS (l.take (j+1))=M++tailD 3 cc:=by rw[HDN.out,←HD.out];unfold stepD;rw[←HYX.out,←hM,←hcc2]
     rw[←hM,←hMl]at hO2
     rw[←hMl]at hDl q4 ⊢
     have HO2:=Hi hO2;have HSTEP:=Hi hstep;have hcc3:cc≤255:=hcs;clear hcc2 hM hstep hO2 F5 HCC;go_upto_region 13 with fail
     go_loopg [3,5] cc (fun g dd c wi=>∃ (m f:Nat) (dn:List Nat) (a3:Option Addr) (c3:Nat),g=m∧m≤255∧c=.int .i64 m∧dd=.slice a3 (M++dn).length c3∧dn++tailD f m=tailD 3 cc∧dn.length+f=3∧m<10 ^ f∧wi.ownsRow base 3 1 (.slice a3 (M++dn).length c3) (M++dn).length (intCells (natInts (M++dn)))∧Fz w2 wi)
     case atStart=>exact⟨cc,3,[],a1,c1,rfl,hcc3,rfl,by rw[List.append_nil,hMl],rfl,rfl,Nat.lt_of_le_of_lt hcc3 (by decide),by rw[List.append_nil];exact HO2.out,HF5.out⟩
     case round=>
      obtain⟨m,f,dn,a3,c3,hg,hm,rfl,rfl,hT,hdf,hmf,hO3,F7⟩:=hrel
      have HG3:=Hi hg;have HT:=Hi hT;have HO3:=Hi hO3;have HMF:=Hi hmf;have HF7:=Hi F7;clear hg hT hO3 hmf;obtain⟨L3,hL3⟩:∃ L3,L3=(M++dn).length:=⟨_,rfl⟩
      have hL3l:L3≤30:=by rw[hL3,List.length_append];omega
      rw[←hL3]at HO3 ⊢
      have HL3:=Hi hL3;clear hL3;by_cases h0:m=0
      ·subst h0
       have hend:dn=tailD 3 cc:=by
        have:=HT.out;rw[show tailD f 0=[] from by cases f<;>simp[tailD],List.append_nil]at this
        exact this
       have hnx:digsS (l.take (j+1))=M++dn:=by rw[HSTEP.out,hend]
       have HNX:=Hi hnx;clear hend hnx F7;go_wp2_with fail
       go_roundg (l.length-(j+1))
       case measure=>rw[HG.out];omega
       case rel=>exact⟨j+1,M++dn,a3,c3,rfl,by omega,by go_num,by rw[HL3.out],HNX.out.symm,by rw[←HL3.out];exact HO3.out,HF7.out⟩
      ·have q5:(0:Int)<(m:Int):=by omega
       obtain⟨f,rfl⟩:∃ f',f=f'+1:=by
        cases f with
        |zero=>have:=HMF.out;simp at this;omega
        |succ f=>exact⟨f,rfl⟩
       obtain⟨r,hr⟩:∃ r,r=m % 10:=⟨_,rfl⟩
       obtain⟨qq,hqq⟩:∃ qq,qq=m / 10:=⟨_,rfl⟩
       have hn1:(m:Int) % 10=(r:Int):=by omega
       have hn2:(m:Int) / 10=(qq:Int):=by omega
       have hmf2:qq<10 ^ f:=by have:=HMF.out;rw[Nat.pow_succ]at this;omega
       have hT2:(dn++[r])++tailD f qq=tailD 3 cc:=by
        rw[←HT.out,tailD,if_neg h0,←hr,←hqq]
        simp
       have HMF2:=Hi hmf2;have HT2:=Hi hT2;have hql:qq<m:=by omega
       obtain⟨a7,c7,w7,hr7,ho7,F8,-⟩:=add_int (xs:=natInts (M++dn)) HO3.out (by have:=HBASE.out;have:=F7.size;omega) (by omega) (r:Int) wr.heap.size ((Fr.refl (S:=fun _=>False) wr).alloc (.cells #[.int .i64 (r:Int)] 3)) (Blk.new wr 3 #[.int .i64 (r:Int)])
       have hvb:=(Vals.of_own HO3.out).2;have HF8:=Hi (F7.trans' F8 (fun i hi e=>by have:=hvb i e;have:=HBASE.out;omega));have hcat:natInts (M++dn)++[(r:Int)]=natInts (M++(dn++[r])):=by simp[natInts]
       have hlen:L3+1=(M++(dn++[r])).length:=by rw[HL3.out];simp;omega
       rw[hcat]at ho7
       rw[hlen]at ho7 hr7
       have HO7:=Hi ho7;have HRUN:=Hi hr7;clear hr hqq hmf2 hT2 ho7 hr7 F8 hvb hcat hlen F7;obtain⟨L4,hL4⟩:∃ L4,L4=(M++(dn++[r])).length:=⟨_,rfl⟩
       rw[←hL4]at HO7 HRUN
       have HL4:=Hi hL4;clear hL4;go_wp2_with (at_builtin;refine wpList_append_run (by rfl) (.tmp 48) (.tmp 51) 103 (by rfl) _ w7 (by exact HRUN.out) ?_)
       go_roundg qq
       case measure=>rw[HG3.out];omega
       case rel=>exact⟨qq,f,dn++[r],a7,c7,rfl,by omega,by go_num,by rw[HL4.out],HT2.out,by simp;omega,HMF2.out,by rw[←HL4.out];exact HO7.out,HF8.out⟩
  ·obtain rfl:j=l.length:=by omega
   have q2:¬(l.length:Int)<(l.length:Int):=by omega
   have hDD:=HD.out;rw[List.take_length]at hDD
   have HDD:=Hi hDD;have HGD10:=Hi HGD.out.1;have s0:=BZ4.cell 0;simp at s0
   clear hDD HD;obtain⟨wo,hwo⟩:∃ wo:World,wo=wr:=⟨_,rfl⟩
   obtain rfl:=hwo
   have HINT:=Hi (Vals.of_own HO1.out).1;go_upto_region 18 with fail
   clear s0 s1;go_loopg [8,9] D.length (fun g s i wi=>∃ j:Nat,g=D.length-j∧j≤D.length∧s=str (decText (D.take j))∧i=.int .i64 j∧Fz wo wi)
   case atStart=>exact⟨0,rfl,Nat.zero_le _,rfl,rfl,Fr.refl _⟩
   case round=>
    obtain⟨j,hg,hj,rfl,rfl,F5⟩:=hrel
    have HG5:=Hi hg;have HF5:=Hi F5;clear hg;by_cases hjl:j<D.length
    ·obtain⟨x,hx⟩:∃ x,D[j]? = some x:=⟨_,List.getElem?_eq_getElem hjl⟩
     have hx10:=HGD10.out x (List.mem_of_getElem? hx);obtain⟨b1,o1,rfl,hy⟩:∃ b o,a1=some ⟨b,o,none⟩∧∀ i x,(natInts D)[i]? = some x→wr.cell? ⟨b,o+i,none⟩=some (.int .i64 x):=by
      obtain⟨a0,c0,he,-,-,hy⟩:=Ints.form (HINT.out.old F5)
      simp only[Value.slice.injEq]at he
      obtain⟨rfl,-,-⟩:=he
      exact hy (by simp[natInts];omega)
     have e1:=hy j (x:Int) (by rw[List.getElem?_map,hx];rfl);have hdt:decText (D.take (j+1))=UInt8.ofNat (48+x)::decText (D.take j):=by
      unfold decText;rw[List.take_add_one,hx]
      simp
     have HDT:=Hi hdt;obtain⟨T,hT⟩:∃ T,T=decText (D.take j):=⟨_,rfl⟩
     have hTl:T.length≤30:=by rw[hT];simp[decText];omega
     rw[←hT]at HDT ⊢
     obtain⟨q,hq⟩:∃ q,q=48+x:=⟨_,rfl⟩
     rw[←hq]at HDT
     have hqi:48+(x:Int)=(q:Int):=by omega
     have hql:q<256:=by omega
     have hw8:IntKind.u8.wrap (q:Int)=(q:Int):=by simp[IntKind.wrap,IntKind.signed,IntKind.bits];omega
     have hsb:Bytes (wr.alloc (.cells #[.int .u8 q] 5)) (.slice (some ⟨wr.heap.size,0,none⟩) 1 1) [UInt8.ofNat q]:=by
      have e8:=Go.Q.u8 q hql;have BX:=Blk.new wr 5 #[.int .u8 q];have BX':Blk (wr.alloc (.cells #[.int .u8 q] 5)) wr.heap.size 5 (Lib.byteCells [UInt8.ofNat q]).toArray:=by
       simpa [Lib.byteCells,e8] using BX
      exact Vals.of_block BX' (by simp[Lib.byteCells];unfold maxLen;omega)
     have hcv:=str_of hsb;have hs1:(ByteArray.mk [UInt8.ofNat q].toArray).size=1:=rfl;have hs2:(ByteArray.mk T.toArray).size=T.length:=by simp[ByteArray.size]
     have q3:(0:Int)≤(j:Int):=by omega
     have q4:(j:Int)<(D.length:Int):=by omega
     have F6:=F5.alloc (.cells #[.int .u8 q] 5);have HF6:=Hi F6;clear hy hx hdt hq hsb F5 F6 hT;go_wp2_with fail
     go_roundg (D.length-(j+1))
     case measure=>rw[HG5.out];omega
     case rel=>exact⟨j+1,rfl,by omega,by rw[HDT.out,show UInt8.ofNat q::T=[UInt8.ofNat q]++T from rfl];exact congrArg Value.string (ba_cat _ _),by go_num,HF6.out⟩
    ·obtain rfl:j=D.length:=by omega
     have q4:¬(D.length:Int)<(D.length:Int):=by omega
     obtain⟨T,hT⟩:∃ T,T=decText (D.take D.length):=⟨_,rfl⟩
     have hres:decText (digsS l)=T:=by rw[hT,List.take_length,HDD.out]
     have HRES:=Hi hres;rw[←hT]
     have BZ6:=BZ4.fr F5 (fun h=>h);have s0:=BZ6.cell 0;simp at s0
     have HG6:=Hi ((HF2.out.trans HF4.out).trans F5);clear hres BZ6 F5 hT;go_wp2_with fail
     go_ret;exact⟨by rw[HRES.out];rfl,HG6.out⟩
theorem r03num_any (n:Nat)(hn:n≤2147483647)(v:Value)(w:World)(h:Bytes w v (b256 8 n)) :
  Calls Tryz.prog 155 #[.agg #[.bool false,v]] w fun e w'=>e=.returned (str (Lib.itoa n))∧Fz w w':=by
 have e:=num_text (n:=(n:Int)) (by omega) (by omega);rw[show ((n:Int)).toNat=n from by omega]at e
 rw[←e]
 exact r03Text_any v (b256 8 n) w h (b256_head 8 n (Nat.lt_of_le_of_lt hn (by decide))) (b256_len 8 n)
theorem r04Text_any (v:Value)(o:List Int)(w:World)(h:Ints w v o)(ho:∀ n∈o,0≤n∧n≤2147483647)(hl:o.length≤100) :
  Calls Tryz.prog 121 #[v] w fun e w'=>e=.returned (str (oidTextS o))∧Fz w w':=by
 obtain⟨a,cap,rfl,-,-,hx⟩:=Ints.form h
 have HX:=Hi hx;have HO:=Hi ho;obtain⟨R,hR⟩:∃ R,R=oidTextS o:=⟨_,rfl⟩
 have HR:=Hi hR;rw[←hR]
 clear h hx ho hR;go_enter Tryz.func121,Tryz.ntmps121
 go_wp2_with fail
 go_loopg [3,4] o.length (fun g s i wr=>∃ (j:Nat) (T:List UInt8),g=o.length-j∧j≤o.length∧T=oidTextS (o.take j)∧s=str T∧i=.int .i64 j∧Fz w wr)
 case atStart=>exact⟨0,[],rfl,Nat.zero_le _,rfl,rfl,rfl,Fr.refl _⟩
 case round=>
  obtain⟨j,T,hg,hj,hT,rfl,rfl,F⟩:=hrel
  have HG:=Hi hg;have HT:=Hi hT;have HF:=Hi F;have hTl:T.length≤3000:=by
   have:=oidText_len (o:=o.take j) (fun n hn=>by have:=HO.out n (List.mem_of_mem_take hn);omega);rw[←hT,List.length_take]at this
   omega
  have hs2:(ByteArray.mk T.toArray).size=T.length:=by simp[ByteArray.size]
  clear hg hT;by_cases hjl:j<o.length
  ·obtain⟨b,off,rfl,hy⟩:=HX.out (by omega)
   obtain⟨x,hxj⟩:∃ x,o[j]? = some x:=⟨_,List.getElem?_eq_getElem hjl⟩
   have ex:=F.cell (hy j x hxj) (fun h=>h);have hx0:=HO.out x (List.mem_of_getElem? hxj);obtain⟨y,hyx⟩:∃ y:Nat,x=(y:Int):=⟨x.toNat,by omega⟩
   subst hyx;have hyl:y≤2147483647:=by omega
   have HC:=Hi (r03Of_any y hyl wr);have q1:(0:Int)≤(j:Int):=by omega
   have q2:(j:Int)<(o.length:Int):=by omega
   obtain⟨I,hI⟩:∃ I,I=Lib.itoa (y:Int):=⟨_,rfl⟩
   have hIl:I.length≤20:=by rw[hI];exact itoa_len (by omega) (by omega)
   have hs3:(ByteArray.mk I.toArray).size=I.length:=by simp[ByteArray.size]
   have HI:=Hi hI;rcases Nat.eq_zero_or_pos j with h0|h0
   ·subst h0
    rw[Nat.add_zero]at ex
    have hnx:oidTextS (o.take 1)=I:=by rw[oidText_first hxj,hI]
    have hT0:T=[]:=by rw[HT.out];rfl
    subst hT0;have HNX:=Hi hnx;clear hy hxj hnx hI F hs2;go_wp2_with fail
    refine HC.out.mono ?_;rintro e w1 ⟨v1,rfl,hv1,F1⟩;obtain⟨a1,c1,rfl,-⟩:=hv1.form
    have HC2:=r03num_any y hyl _ w1 hv1;rw[←HI.out]at HC2
    have HCC:=Hi HC2;have HF1:=Hi (HF.out.trans F1);clear HC HC2 hv1 F1;go_wp2_with fail
    refine HCC.out.mono ?_;rintro e w2 ⟨rfl,F2⟩;have HF2:=Hi (HF1.out.trans F2);clear F2 HCC HF1;go_wp2_with fail
    go_roundg (o.length-1)
    case measure=>rw[HG.out];omega
    case rel=>exact⟨1,I,rfl,by omega,HNX.out.symm,by first|rfl|exact congrArg Value.string (ba_cat [] I),by go_num,HF2.out⟩
   ·have q3:(0:Int)<(j:Int):=by omega
    obtain⟨j,rfl⟩:∃ j',j=j'+1:=⟨j-1,by omega⟩
    have hnx:oidTextS (o.take (j+1+1))=T++[46]++I:=by rw[oidText_next hxj,hI,HT.out]
    have HNX:=Hi hnx;have hs4:(ByteArray.mk (T++[46]).toArray).size=T.length+1:=by simp[ByteArray.size]
    have hcat:(ByteArray.mk T.toArray)++(ByteArray.mk #[46])=ByteArray.mk (T++[46]).toArray:=ba_cat T [46];clear hy hxj hnx hI F;go_wp2_with fail
    refine HC.out.mono ?_;rintro e w1 ⟨v1,rfl,hv1,F1⟩;obtain⟨a1,c1,rfl,-⟩:=hv1.form
    have HC2:=r03num_any y hyl _ w1 hv1;rw[←HI.out]at HC2
    have HCC:=Hi HC2;have HF1:=Hi (HF.out.trans F1);clear HC HC2 hv1 F1;go_wp2_with fail
    refine HCC.out.mono ?_;rintro e w2 ⟨rfl,F2⟩;have HF2:=Hi (HF1.out.trans F2);clear F2 HCC HF1;go_wp2_with fail
    go_roundg (o.length-(j+1+1))
    case measure=>rw[HG.out];omega
    case rel=>exact⟨j+1+1,T++[46]++I,rfl,by omega,HNX.out.symm,by first|exact congrArg Value.string (ba_cat (T++[46]) I)|(rw[List.append_assoc,←ba_cat,←ba_cat])|(rw[←ba_cat,←ba_cat]),by go_num,HF2.out⟩
  ·obtain rfl:j=o.length:=by omega
   have q2:¬(o.length:Int)<(o.length:Int):=by omega
   have hres:R=T:=by rw[HR.out,HT.out,List.take_length]
   have HRES:=Hi hres;clear hres;go_wp2_with fail
   go_ret;exact⟨by rw[HRES.out];rfl,HF.out⟩
theorem r13blank_any (n:Int)(w:World) :
  Calls Tryz.prog 198 #[.int .i64 n] w fun e w'=>e=.returned (.bool (blankB n))∧w=w':=by
 have hc:n=32∨n=9∨n=10∨n=11∨n=12∨n=13∨(n≠32∧n≠9∧n≠10∧n≠11∧n≠12∧n≠13):=by omega
 rcases hc with rfl|rfl|rfl|rfl|rfl|rfl|⟨h0,h1,h2,h3,h4,h5⟩
 case' inr.inr.inr.inr.inr.inr=>
  have hb:blankB n=false:=decide_eq_false (by omega);rw[hb]
  have q0:(n==32)=false:=beq_eq_false_iff_ne.2 h0;have q1:(n==9)=false:=beq_eq_false_iff_ne.2 h1;have q2:(n==10)=false:=beq_eq_false_iff_ne.2 h2;have q3:(n==11)=false:=beq_eq_false_iff_ne.2 h3;have q4:(n==12)=false:=beq_eq_false_iff_ne.2 h4;have q5:(n==13)=false:=beq_eq_false_iff_ne.2 h5;clear hb h0 h1 h2 h3 h4 h5
 all_goals
  go_enter Tryz.func198,Tryz.ntmps198
  go_wp2_with fail
  go_ret;exact⟨rfl,rfl⟩
theorem r13Signs_any (v:Value)(l:List Int)(w:World)(h:Ints w v l)(hl:l.length≤1099511627) :
  Calls Tryz.prog 160 #[v] w fun e w'=>∃ u,e=.returned u∧w'.ownsRow w.heap.size 3 1 u (foldS l).length (intCells (foldS l))∧Fz w w':=by
 obtain⟨a,cap,rfl,-,-,hx⟩:=Ints.form h
 have HX:=Hi hx;have HBL:=Hi r13blank_any;obtain⟨R,hR⟩:∃ R,R=foldS l:=⟨_,rfl⟩
 rw[←hR]
 have HR:=Hi hR;clear h hx hR;go_enter Tryz.func160,Tryz.ntmps160
 go_upto_block 0 with fail
 go_cut [3] from 10 to 21 (fun s wc=>∃ j:Nat,s=.int .i64 j∧j≤l.length∧(∀ (k:Nat) (n:Int),k<j→l[k]? = some n→blankB n=true)∧(∀ n,l[j]? = some n→blankB n=false)∧wc=w)
 case first=>
  go_wp2_with fail
  go_loopg [3] l.length (fun g s wr=>∃ j:Nat,g=l.length-j∧j≤l.length∧s=.int .i64 j∧(∀ (k:Nat) (n:Int),k<j→l[k]? = some n→blankB n=true)∧wr=w)
  case atStart=>exact⟨0,rfl,Nat.zero_le _,rfl,fun k n hk=>absurd hk (Nat.not_lt_zero _),rfl⟩
  case round=>
   obtain⟨j,hg,hj,rfl,hall,rfl⟩:=hrel
   have HG:=Hi hg;have HA:=Hi hall;clear hg hall;by_cases hjl:j<l.length
   ·obtain⟨b,off,rfl,hy⟩:=HX.out (by omega)
    obtain⟨x,hxj⟩:∃ x,l[j]? = some x:=⟨_,List.getElem?_eq_getElem hjl⟩
    have ex:=hy j x hxj;have HXJ:=Hi hxj;have q1:(0:Int)≤(j:Int):=by omega
    have q2:(j:Int)<(l.length:Int):=by omega
    clear hy hxj;rcases Bool.eq_false_or_eq_true (blankB x) with hb|hb
    ·have HC:=HBL.out x wr
     rw[hb]at HC
     have HCC:=Hi HC;have HB:=Hi hb;clear HC hb;go_wp2_with fail
     refine HCC.out.mono ?_;rintro e w' ⟨rfl,rfl⟩;go_wp2_with fail
     go_roundg (l.length-(j+1))
     case measure=>rw[HG.out];omega
     case rel=>
      refine⟨j+1,rfl,by omega,by go_num,fun k n hk hn=>?_,rfl⟩
      rcases Nat.lt_or_ge k j with h|h
      ·exact HA.out k n h hn
      ·obtain rfl:k=j:=by omega
       rw[HXJ.out]at hn
       cases hn
       exact HB.out
    ·have HC:=HBL.out x wr
     rw[hb]at HC
     have HCC:=Hi HC;have HB:=Hi hb;clear HC hb;go_wp2_with fail
     refine HCC.out.mono ?_;rintro e w' ⟨rfl,rfl⟩;go_wp2_with fail
     go_meet
     exact⟨j,rfl,hj,HA.out,fun n hn=>by rw[HXJ.out]at hn;cases hn;exact HB.out,rfl⟩
   ·obtain rfl:j=l.length:=by omega
    have q2:¬(l.length:Int)<(l.length:Int):=by omega
    go_wp2_with fail
    go_meet
    exact⟨l.length,rfl,Nat.le_refl _,HA.out,fun n hn=>by simp at hn,rfl⟩
 case rest=>
  obtain⟨fr,rfl,hfl,hfa,hfn,rfl⟩:=hcut
  have HFA:=Hi hfa;have HFN:=Hi hfn;clear hfa hfn;go_upto_block 2 with fail
  go_cut [4] from 22 to 34 (fun s wx=>∃ t:Nat,s=.int .i64 t∧fr≤t∧t≤l.length∧(∀ (k:Nat) (n:Int),t≤k→l[k]? = some n→blankB n=true)∧(fr<t→∀ p,l[t-1]? = some p→blankB p=false)∧wx=wc)
  case first=>
   go_wp2_with fail
   go_loopg [4] l.length (fun g s wr=>∃ t:Nat,g=t∧fr≤t∧t≤l.length∧s=.int .i64 t∧(∀ (k:Nat) (n:Int),t≤k→l[k]? = some n→blankB n=true)∧wr=wc)
   case atStart=>
    have hn0:∀ (k:Nat) (n:Int),l.length≤k→l[k]? = some n→blankB n=true:=fun k n hk hn=>by
     rw[List.getElem?_eq_none hk]at hn
     cases hn
    refine⟨l.length,rfl,hfl,Nat.le_refl _,?_⟩
    first|exact⟨rfl,hn0,rfl⟩|exact⟨hn0,rfl⟩
   case round=>
    obtain⟨t,hg,hft,htl,rfl,hall,rfl⟩:=hrel
    have HG:=Hi hg;have HA:=Hi hall;clear hg hall;by_cases hlt:fr<t
    ·obtain⟨b,off,rfl,hy⟩:=HX.out (by omega)
     obtain⟨x,hxj⟩:∃ x,l[t-1]? = some x:=⟨_,List.getElem?_eq_getElem (by omega)⟩
     have ex:=hy (t-1) x hxj;have HXJ:=Hi hxj;have q1:(0:Int)≤(t:Int)-1:=by omega
     have q2:(t:Int)-1<(l.length:Int):=by omega
     have q3:(fr:Int)<(t:Int):=by omega
     have hin:((t:Int)-1).toNat=t-1:=by omega
     clear hy hxj;rcases Bool.eq_false_or_eq_true (blankB x) with hb|hb
     ·have HC:=HBL.out x wr
      rw[hb]at HC
      have HCC:=Hi HC;have HB:=Hi hb;clear HC hb;go_wp2_with fail
      refine HCC.out.mono ?_;rintro e w' ⟨rfl,rfl⟩;go_wp2_with fail
      go_roundg (t-1)
      case measure=>rw[HG.out];omega
      case rel=>
       refine⟨t-1,rfl,by omega,by omega,by congr 1;omega,fun k n hk hn=>?_,rfl⟩
       rcases Nat.lt_or_ge k t with h|h
       ·obtain rfl:k=t-1:=by omega
        rw[HXJ.out]at hn
        cases hn
        exact HB.out
       ·exact HA.out k n h hn
     ·have HC:=HBL.out x wr
      rw[hb]at HC
      have HCC:=Hi HC;have HB:=Hi hb;clear HC hb;go_wp2_with fail
      refine HCC.out.mono ?_;rintro e w' ⟨rfl,rfl⟩;go_wp2_with fail
      go_meet
      exact⟨t,rfl,hft,htl,HA.out,fun _ p hp=>by rw[HXJ.out]at hp;cases hp;exact HB.out,rfl⟩
    ·have q3:¬(fr:Int)<(t:Int):=by omega
     go_wp2_with fail
     go_meet
     exact⟨t,rfl,hft,htl,HA.out,fun h=>absurd h hlt,rfl⟩
  case rest=>
   obtain⟨t,rfl,hft,htl,hback,hlast,rfl⟩:=hcut
   have HBK:=Hi hback;have HLS:=Hi hlast;have hf0:=fold_front l fr hfl HFA.out;have HF0:=Hi hf0;clear hback hlast hf0;go_wp2_with fail
   go_loopg [5,6] (t-fr) (fun g u i wr=>∃ (j:Nat) (L:Nat) (a1:Option Addr) (c1:Nat),g=t-j∧fr≤j∧j≤t∧u=.slice a1 L c1∧i=.int .i64 j∧L=(fOut l j).length∧fAt l fr j∧wr.ownsRow wc.heap.size 3 1 (.slice a1 L c1) L (intCells (fOut l j))∧Fz wc wr)
   case atStart=>exact⟨fr,0,none,0,rfl,Nat.le_refl _,hft,rfl,rfl,by rw[fOut_front HF0.out];rfl,.inl ⟨rfl,HF0.out⟩,by rw[fOut_front HF0.out];exact⟨rfl,.inl ⟨rfl,rfl⟩⟩,Fr.refl _⟩
   case round=>
    obtain⟨j,L,a1,c1,hg,hfj,hjt,rfl,rfl,hL,hA,hO,F⟩:=hrel
    have HG:=Hi hg;have HL:=Hi hL;have HA:=Hi hA;have HO:=Hi hO;have HF:=Hi F;have hLl:L≤3000000000:=by have:=fOut_len l j;omega
    clear hg hL hA hO;by_cases hjl:j<t
    ·obtain⟨b,off,rfl,hy⟩:=HX.out (by omega)
     obtain⟨x,hxj⟩:∃ x,l[j]? = some x:=⟨_,List.getElem?_eq_getElem (by omega)⟩
     have ex:=F.cell (hy j x hxj) (fun h=>h);have HXJ:=Hi hxj;have q1:(0:Int)≤(j:Int):=by omega
     have q2:(j:Int)<(l.length:Int):=by omega
     have q3:(j:Int)<(t:Int):=by omega
     have hbase:wc.heap.size≤wr.heap.size:=F.size;have hvb:=(Vals.of_own HO.out).2;clear hxj;rcases Bool.eq_false_or_eq_true (blankB x) with hb|hb
     ·have hfr:fr<j:=by
       rcases Nat.lt_or_ge fr j with h|h
       ·exact h
       ·obtain rfl:fr=j:=by omega
        have:=HFN.out x HXJ.out;rw[hb]at this
        cases this
      obtain⟨p,hp⟩:∃ p,l[j-1]? = some p:=⟨_,List.getElem?_eq_getElem (by omega)⟩
      have ep:=F.cell (hy (j-1) p hp) (fun h=>h);obtain⟨hn1,hn2⟩:=fOut_blank HA.out hfr HXJ.out hp hb
      have HC:=HBL.out x wr;rw[hb]at HC
      have HCC:=Hi HC;have q4:(0:Int)≤(j:Int)-1:=by omega
      have q5:(j:Int)-1<(l.length:Int):=by omega
      have hin:((j:Int)-1).toNat=j-1:=by omega
      have HN1:=Hi hn1;have HN2:=Hi hn2;clear HC hy hn1 hn2 hp;rcases Bool.eq_false_or_eq_true (blankB p) with hbp|hbp
      ·have HP:=HBL.out p wr
       rw[hbp]at HP
       have HPP:=Hi HP;have hnx:fOut l (j+1)=fOut l j:=by rw[HN1.out,if_pos hbp,List.append_nil]
       have HNX:=Hi hnx;clear HP hbp hb hnx hvb F;go_wp2_with fail
       refine HCC.out.mono ?_;rintro e w' ⟨rfl,rfl⟩;go_wp2_with fail
       refine HPP.out.mono ?_;rintro e w' ⟨rfl,rfl⟩;go_wp2_with fail
       go_roundg (t-(j+1))
       case measure=>rw[HG.out];omega
       case rel=>exact⟨j+1,L,a1,c1,rfl,by omega,by omega,rfl,by go_num,by rw[HNX.out];exact HL.out,HN2.out,by rw[HNX.out];exact HO.out,HF.out⟩
      ·have HP:=HBL.out p wr
       rw[hbp]at HP
       have HPP:=Hi HP;have hnx:fOut l (j+1)=fOut l j++[32]:=by rw[HN1.out,if_neg (by rw[hbp];decide)]
       have HNX:=Hi hnx;obtain⟨a7,c7,w7,hr7,ho7,F7,-⟩:=add_int HO.out hbase (by omega) (32:Int) wr.heap.size ((Fr.refl (S:=fun _=>False) wr).alloc (.cells #[.int .i64 (32:Int)] 3)) (Blk.new wr 3 #[.int .i64 (32:Int)])
       have HF7:=Hi (F.trans' F7 (fun i hi e=>by have:=hvb i e;omega));rw[←hnx]at ho7
       have HO7:=Hi ho7;have HRUN:=Hi hr7;clear HP hbp hb hnx hvb F ho7 hr7 F7;go_wp2_with fail
       refine HCC.out.mono ?_;rintro e w' ⟨rfl,rfl⟩;go_wp2_with fail
       refine HPP.out.mono ?_;rintro e w' ⟨rfl,rfl⟩;go_wp2_with (at_builtin;refine wpList_append_run (by rfl) (.tmp 54) (.tmp 55) 103 (by rfl) _ w7 (by exact HRUN.out) ?_)
       go_roundg (t-(j+1))
       case measure=>rw[HG.out];omega
       case rel=>exact⟨j+1,L+1,a7,c7,rfl,by omega,by omega,rfl,by go_num,by rw[HNX.out,List.length_append,←HL.out];rfl,HN2.out,HO7.out,HF7.out⟩
     ·obtain⟨hn1,hn2⟩:=fOut_sign HA.out hfj HXJ.out hb
      have HC:=HBL.out x wr;rw[hb]at HC
      have HCC:=Hi HC;obtain⟨y,hyx⟩:∃ y,y=smallS x:=⟨_,rfl⟩
      rw[←hyx]at hn1
      obtain⟨a7,c7,w7,hr7,ho7,F7,-⟩:=add_int HO.out hbase (by omega) y wr.heap.size ((Fr.refl (S:=fun _=>False) wr).alloc (.cells #[.int .i64 y] 3)) (Blk.new wr 3 #[.int .i64 y])
      have HF7:=Hi (F.trans' F7 (fun i hi e=>by have:=hvb i e;omega));rw[←hn1]at ho7
      have HO7:=Hi ho7;have HRUN:=Hi hr7;have HN1:=Hi hn1;have HN2:=Hi hn2;have hcase:((64:Int)<x∧x<91∧x+32=y)∨((64:Int)<x∧¬x<91∧x=y)∨(¬(64:Int)<x∧x=y):=by
       unfold smallS at hyx;split at hyx<;>omega
      clear HC hb hn1 hn2 hvb F ho7 hr7 F7 hyx hy;rcases hcase with ⟨g1,g2,g3⟩|⟨g1,g2,g3⟩|⟨g1,g3⟩
      all_goals
       subst g3;go_wp2_with fail
       refine HCC.out.mono ?_;rintro e w' ⟨rfl,rfl⟩;go_wp2_with (at_builtin;refine wpList_append_run (by rfl) (.tmp 65) (.tmp 67) 103 (by rfl) _ w7 (by exact HRUN.out) ?_)
       go_roundg (t-(j+1))
       case measure=>rw[HG.out];omega
       case rel=>exact⟨j+1,L+1,a7,c7,rfl,by omega,by omega,rfl,by go_num,by rw[HN1.out,List.length_append,←HL.out];rfl,HN2.out,HO7.out,HF7.out⟩
    ·obtain rfl:j=t:=by omega
     have q3:¬(j:Int)<(j:Int):=by omega
     have hres:R=fOut l j:=by rw[HR.out];exact fOut_all HA.out htl HLS.out HBK.out
     have HRES:=Hi hres;clear hres;go_wp2_with fail
     exact bodyPost_ret (v:=.slice a1 L c1) (by simp[results,Tryz.results160,go_sem]) rfl ⟨_,rfl,by rw[HRES.out,←HL.out];exact HO.out,HF.out⟩
theorem r06Utf8_may (v:Value)(l:List Int)(w:World)(h:Ints w v l)(hm:∀ n∈l,mayS 12 n=true)(hl:l.length≤100000000) :
  Calls Tryz.prog 159 #[v] w fun e w'=>∃ v',e=.returned v'∧w'.ownsRow w.heap.size 5 1 v' (ofS 12 l).length (Lib.byteCells (ofS 12 l))∧Fz w w':=by
 obtain⟨h1,h2,h3⟩:=may_nats hm
 rw[h1]at h
 have:=r06Utf8_any v (l.map Int.toNat) w h h2 (by simpa using hl);rw[h3]at this
 exact this
theorem r13Key_any (k:Int)(v:Value)(b:List UInt8)(w:World)(h:Bytes w v b)(hr:rightS k b=true)(hl:b.length≤16777216) :
  Calls Tryz.prog 123 #[.agg #[.int .i64 k,v]] w fun e w'=>e=.returned (.tuple #[str (foldKeyS k b),.bool true])∧Fz w w':=by
 obtain⟨a,cap,rfl,-⟩:=h.form
 have F0:Fz w (w.alloc (.cells #[.int .i64 k,.slice a b.length cap] 188)):=(Fr.refl w).alloc _;obtain⟨z,hz⟩:∃ z,z=w.heap.size:=⟨_,rfl⟩
 have BZ:=Blk.new w 188 #[.int .i64 k,.slice a b.length cap];rw[←hz]at BZ
 have HZ:=Hi hz;have hS:=r06Signs_any k _ b _ (h.old F0) hl;unfold RSigOut at hS;rw[sigR_right hr]at hS
 simp only[Option.isSome_some,Option.getD_some]at hS
 have HS:=Hi hS;have hsl:=signsS_len k b;have HM:=Hi (fun n hn=>may12 (right_all hr n hn));have hfk:foldKeyS k b=ofS 12 (foldS (signsS k b)):=rfl;rw[hfk]
 obtain⟨S,hSS⟩:∃ S,S=signsS k b:=⟨_,rfl⟩
 rw[←hSS]at HS HM hsl ⊢
 have hfl:(foldS S).length≤2*S.length:=foldAcc_len S;have HFM:=Hi (fold_may HM.out);obtain⟨R,hR⟩:∃ R,R=foldS S:=⟨_,rfl⟩
 rw[←hR]at hfl HFM ⊢
 have HR:=Hi hR;have HF0:=Hi F0;clear h hz hS hfk hSS hR F0 hr HM;go_enter Tryz.func123,Tryz.ntmps123
 go_upto_region 1 with fail
 rw[←HZ.out]
 generalize (w.alloc (.cells #[.int .i64 k,.slice a b.length cap] 188))=w0 at *
 have z0:=BZ.cell 0;have z1:=BZ.cell 1;simp only[SG]at z0 z1
 go_wp2_with fail
 refine HS.out.mono ?_;rintro e w1 ⟨v1,rfl,h1,F1⟩;obtain⟨a1,c1,rfl,-⟩:=Ints.form h1
 have HG:=Hi (r13Signs_any _ S w1 h1 (by omega));rw[←HR.out]at HG
 have HF1:=Hi (HF0.out.trans F1);clear h1 F1 HS z0 z1;go_wp2_with fail
 refine HG.out.mono ?_;rintro e w2 ⟨v2,rfl,ho2,F2⟩;have hI2:=(Vals.of_own ho2).1;obtain⟨a2,c2,rfl,-⟩:=Ints.form hI2
 have HU:=Hi (r06Utf8_may _ R w2 hI2 HFM.out (by omega));have HF2:=Hi (HF1.out.trans F2);clear ho2 hI2 F2 HG;go_wp2_with fail
 refine HU.out.mono ?_;rintro e w3 ⟨v3,rfl,ho3,F3⟩;have hB3:=(Vals.of_own ho3).1;obtain⟨a3,c3,rfl,-⟩:=Vals.form hB3
 have hcv:=str_of hB3;have HF3:=Hi (HF2.out.trans F3);clear ho3 hB3 F3 HU;go_wp2_with fail
 exact bodyPost_ret (v:=.tuple #[str (ofS 12 R),.bool true]) (by simp[results,Tryz.results123,go_sem]) rfl ⟨rfl,HF3.out⟩
end Go.Proofs.YtehlipgmkinfbaaGreatDoor
