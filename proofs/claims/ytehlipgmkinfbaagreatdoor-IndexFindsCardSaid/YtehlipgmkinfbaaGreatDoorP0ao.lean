/-
  Merged by program: XWh2 XKyT XIxOrder XIxIns XBag XIxSwap XIxIns2 XIxBack XPartEq XIxLik XIxIx1 XIxSideI.
-/
import Derived.Test.YtehlipgmkinfbaaGreatDoorP0an
import Derived.Sort.Walk0
set_option linter.unusedSimpArgs false
set_option maxRecDepth 100000
set_option maxHeartbeats 8000000
namespace Go.Q
open Go
theorem behind_eq (o:Option Key1)(p:Key1):behindB o p=(!o.isSome||decide (o.getD []<p)):=by cases o<;>rfl
theorem better_eq (o:Option Key1)(p:Key1):betterB o p=(!o.isSome||decide (p<o.getD [])):=by cases o<;>rfl
theorem partKeys_snoc {r:List Part}{k:Nat}{p:Part}(h:r[k]? = some p):partKeys (r.take (k+1))=partKeys (r.take k)++[attrKeyS p.o p.b]:=by
 unfold partKeys;rw[List.take_add_one,h]
 simp
theorem keysS_len (r:List Part):(keysS r).length≤r.length:=by
 have hcl:=Lib.compact_length_le (sortS (partKeys r));have hsl:(sortS (partKeys r)).length=r.length:=by simp[sortS,partKeys]
 unfold keysS;omega
theorem keysS_mem {r:List Part}{x:Key1}(h:x∈keysS r):∃ p∈r,x=attrKeyS p.o p.b:=by
 have h3:=sort_mem (compact_mem h);obtain⟨p,hp,rfl⟩:=List.mem_map.1 h3
 exact⟨p,hp,rfl⟩
theorem lastOf_isSome {D:List Key1}{c:Nat}(hc:c≤D.length):(lastOf D c).isSome=decide (c≠0):=by
 unfold lastOf;by_cases h0:c=0
 ·rw[if_pos h0,decide_eq_false (fun h=>h h0)]
  rfl
 ·rw[if_neg h0,decide_eq_true h0,List.getElem?_eq_getElem (by omega)]
  rfl
theorem lastOf_succ {D:List Key1}{c:Nat}:lastOf D (c+1)=D[c]?:=by
 unfold lastOf;rw[if_neg (Nat.succ_ne_zero c),Nat.add_sub_cancel]
theorem joinF_len (c:UInt8)(M N:Nat){ks:List Key1}(h:∀ k∈ks,k.length≤M)(hn:ks.length≤N)(j:Nat):(Lib.join (ks.take j) [c]).length≤N*(M+1):=by
 have:=join_len c M (ks.take j) (fun k hk=>h k (List.mem_of_mem_take hk));have h2:(ks.take j).length*(M+1)≤N*(M+1):=Nat.mul_le_mul_right _ (by rw[List.length_take];omega);omega
theorem less_of {x y:Key1}:Op.bytesLess x y=decide (x<y):=Go.Proofs.bytesLess_eq x y
theorem greater_of (x y:Key1):(!(Op.bytesLess x y||x==y))=decide (y<x):=by
 rw[less_of]
 by_cases h:y<x
 ·rw[decide_eq_true h]
  have h1:¬x<y:=fun h2=>absurd (Std.lt_trans h h2) (Std.lt_irrefl)
  have h2:x≠y:=fun e=>absurd (e▸h) (Std.lt_irrefl)
  rw[decide_eq_false h1,Bool.false_or]
  simpa using h2
 ·rw[decide_eq_false h]
  rcases Classical.em (x=y) with rfl|hne
  ·simp
  ·have:=k_lt_of (Std.not_lt.1 h) hne
   rw[decide_eq_true this]
   rfl
section
variable {α κ:Type}{lt:κ→κ→Bool}{key:α→κ}
theorem Ord3.nlt (ho:Ord3 lt){a b c:κ}(h1:lt b a=false)(h2:lt c b=false):lt c a=false:=by
 cases h:lt c a with
 |false=>rfl
 |true=>
  rcases ho.tot a b with e|e|e
  ·have:=ho.tr _ _ _ h e
   rw[h2]at this;cases this
  ·subst e
   rw[h2]at h;cases h
  ·rw[h1]at e;cases e
def Mid (lt:κ→κ→Bool)(key:α→κ)(P:List α)(x:α)(Q:List α):Prop:=Upw lt key (P++Q)∧∀ q∈Q,lt (key x) (key q)=true
theorem mid_start {P:List α}(x:α)(h:Upw lt key P):Mid lt key P x []:=⟨by rwa[List.append_nil],fun q hq=>by cases hq⟩
theorem mid_step {P Q:List α}{p x:α}(h:Mid lt key (P++[p]) x Q)(hx:lt (key x) (key p)=true):Mid lt key P x (p::Q):=by
 obtain⟨h1,h2⟩:=h
 rw[List.append_assoc]at h1
 refine⟨h1,fun q hq=>?_⟩
 rcases List.mem_cons.1 hq with e|e
 ·rw[e];exact hx
 ·exact h2 q e
theorem mid_end (ho:Ord3 lt){P Q:List α}{x:α}(h:Mid lt key P x Q)(hx:∀ p,P.getLast? = some p→lt (key x) (key p)=false):Upw lt key (P++x::Q):=by
 obtain⟨h1,h2⟩:=h
 have g:=List.pairwise_append.1 h1;refine List.pairwise_append.2 ⟨g.1,List.pairwise_cons.2 ⟨fun q hq=>ho.asym (h2 q hq),g.2.1⟩,fun a ha b hb=>?_⟩;rcases List.mem_cons.1 hb with e|e
 ·subst e
  rcases List.eq_nil_or_concat P with e2|⟨P',p,e2⟩
  ·rw[e2]at ha;cases ha
  ·rw[List.concat_eq_append]at e2
   have hp:=hx p (by rw[e2];simp);rw[e2]at ha
   rcases List.mem_append.1 ha with h3|h3
   ·have hw:=g.1
    rw[e2]at hw
    have:=(List.pairwise_append.1 hw).2.2 a h3 p (by simp);exact ho.nlt this hp
   ·rw[List.mem_singleton]at h3
    rw[h3];exact hp
 ·exact g.2.2 a ha b e
end
open Go Go.RowKit
def putL (W:World)(z:Nat):Nat→List Value→World
 |_,[]=>W
 |i,v::l=>putL (W.setCell ⟨z,i,none⟩ v) z (i+1) l
theorem setL_take {cs:Array Value}{pre:List Value}{v:Value}{rest:List Value}{x:Value}(h:cs.toList=pre++x::rest):(cs.setIfInBounds pre.length v).toList=(pre++[v])++rest:=by
 rw[Array.toList_setIfInBounds,h,List.set_append_right _ _ (Nat.le_refl _),Nat.sub_self,List.set_cons_zero,List.append_assoc]
 rfl
theorem putL_blk {t:TypeId}{z:Nat}:∀ (l rest pre:List Value) (W:World) (cs:Array Value),Blk W z t cs→cs.toList=pre++rest→rest.length=l.length→Blk (putL W z pre.length l) z t (pre++l).toArray∧Fr (fun k=>k=z) W (putL W z pre.length l)
 | [],rest,pre,W,cs,h,he,hl=>by
  have hr:rest=[]:=List.length_eq_zero_iff.1 hl;rw[hr,List.append_nil]at he
  have hc:cs=pre.toArray:=by rw[←he]
  rw[List.append_nil,←hc]
  exact⟨h,Fr.refl W⟩
 |v::l,rest,pre,W,cs,h,he,hl=>by
  match rest,hl with
  |x::rest,hl=>
   have h1:=h.set pre.length v;have h2:=setL_take (v:=v) he;have h3:=putL_blk l rest (pre++[v]) _ _ h1 h2 (by simpa using hl);rw[List.length_append,List.length_singleton,List.append_assoc]at h3
   exact⟨h3.1,(Fr.setCell (S:=fun k=>k=z) (p:=⟨z,pre.length,none⟩) (Fr.refl W) (fun _=>rfl) v).trans h3.2⟩
theorem putL_all {t:TypeId}{z:Nat}{W:World}{Z:List Value}(h:Blk W z t Z.toArray){l:List Value}(hl:Z.length=l.length):Blk (putL W z 0 l) z t l.toArray∧Fr (fun k=>k=z) W (putL W z 0 l):=
 putL_blk l Z [] W Z.toArray h (by simp) hl
def BagZ (Z:List Value)(t:TypeId)(w0 W:World)(l:List Nat):Prop:=Fz w0 W∧l.Nodup∧∀ z∈l,w0.heap.size≤z∧Blk W z t Z.toArray
section
variable {Z:List Value}{t:TypeId}{w0 W W':World}{l:List Nat}
theorem BagZ.nil (Z:List Value)(t:TypeId)(w:World):BagZ Z t w w []:=⟨Fr.refl w,List.nodup_nil,fun z hz=>by simp at hz⟩
theorem BagZ.lt (h:BagZ Z t w0 W l):∀ z∈l,z<W.heap.size:=fun z hz=>(h.2.2 z hz).2.lt
theorem BagZ.more (h:BagZ Z t w0 W l):BagZ Z t w0 (W.alloc (.cells Z.toArray t)) (W.heap.size::l):=by
 refine⟨h.1.alloc _,List.nodup_cons.2 ⟨fun hm=>Nat.lt_irrefl _ (h.lt _ hm),h.2.1⟩,fun z hz=>?_⟩
 rcases List.mem_cons.1 hz with rfl|hz
 ·exact⟨h.1.size,Blk.new _ _ _⟩
 ·exact⟨(h.2.2 z hz).1,(h.2.2 z hz).2.alloc _⟩
theorem BagZ.two (h:BagZ Z t w0 W l):BagZ Z t w0 ((W.alloc (.cells Z.toArray t)).alloc (.cells Z.toArray t)) ((W.heap.size+1)::W.heap.size::l):=by
 have:=h.more.more;rwa[World.size_alloc]at this
theorem BagZ.call (h:BagZ Z t w0 W l)(F:Fz W W'):BagZ Z t w0 W' l:=⟨h.1.trans F,h.2.1,fun z hz=>⟨(h.2.2 z hz).1,(h.2.2 z hz).2.fr F (fun h=>h)⟩⟩
theorem BagZ.drew (h:BagZ Z t w0 W l):BagZ Z t w0 W.drew l:=⟨h.1.drew,h.2.1,fun z hz=>⟨(h.2.2 z hz).1,(h.2.2 z hz).2.drew⟩⟩
abbrev HeldL (R:World→Prop)(l:List Nat)(W:World):Prop:=Kept R (fun k=>k∈l) W
theorem HeldL.more {R:World→Prop}(h:HeldL R l W)(o:Obj):HeldL R (W.heap.size::l) (W.alloc o):=Kept.step h (S:=fun _=>False) ((Fr.refl W).alloc o) (fun _ _ h=>h.elim) (fun k hk=>by
 rcases List.mem_cons.1 hk with rfl|hk
 ·exact .inr (Nat.le_refl _)
 ·exact .inl hk)
theorem HeldL.two {R:World→Prop}(h:HeldL R l W)(o q:Obj):HeldL R ((W.heap.size+1)::W.heap.size::l) ((W.alloc o).alloc q):=by
 have:=(h.more o).more q;rwa[World.size_alloc]at this
theorem BagZ.held (h:BagZ Z t w0 W l){R:World→Prop}{w':World}(hk:Kept R (fun k=>k<W.heap.size) w'):HeldL R l w':=fun V f=>hk V (f.mono (fun k _ hm=>h.lt k hm))
end
def DoneL (t:TypeId)(w0:World)(R:World→Prop)(a d:List Value)(V:World)(p q:Nat):Prop:=Blk V p t a.toArray∧Blk V q t d.toArray∧R V∧Fz w0 V
section
variable {Z:List Value}{t:TypeId}{w0 W:World}{R:World→Prop}{a d:List Value}
end
theorem putL_mid {t:TypeId}{z:Nat}:∀ (l mid post pre:List Value) (W:World) (cs:Array Value),Blk W z t cs→cs.toList=pre++(mid++post)→mid.length=l.length→Blk (putL W z pre.length l) z t (pre++(l++post)).toArray∧Fr (fun k=>k=z) W (putL W z pre.length l)
 | [],mid,post,pre,W,cs,h,he,hl=>by
  have hr:mid=[]:=List.length_eq_zero_iff.1 hl;subst hr;have hc:cs=(pre++([]++post)).toArray:=by rw[←he]
  rw[←hc]
  exact⟨h,Fr.refl W⟩
 |v::l,mid,post,pre,W,cs,h,he,hl=>by
  match mid,hl with
  |x::mid,hl=>
   have h1:=h.set pre.length v;have h2:=setL_take (v:=v) he;have h3:=putL_mid l mid post (pre++[v]) _ _ h1 h2 (by simpa using hl);rw[List.length_append,List.length_singleton,List.append_assoc]at h3
   exact⟨h3.1,(Fr.setCell (S:=fun k=>k=z) (p:=⟨z,pre.length,none⟩) (Fr.refl W) (fun _=>rfl) v).trans h3.2⟩
theorem seg_of {cs us:List Value}{k n:Nat}(hn:us.length=n)(h:∀ j u,us[j]? = some u→cs[k+j]? = some u):(cs.drop k).take n=us:=by
 refine List.ext_getElem? (fun j=>?_);rw[List.getElem?_take]
 by_cases hj:j<n
 ·rw[if_pos hj,List.getElem?_drop]
  have hu:=List.getElem?_eq_getElem (l:=us) (i:=j) (by omega);rw[hu]
  exact h j _ hu
 ·rw[if_neg hj,List.getElem?_eq_none (by omega)]
theorem seg_split {cs us:List Value}{k n:Nat}(hn:us.length=n)(h:∀ j u,us[j]? = some u→cs[k+j]? = some u):cs=cs.take k++(us++cs.drop (k+n)):=by
 rw[←seg_of hn h,←List.drop_drop,List.take_append_drop,List.take_append_drop]
section
variable {α:Type}{sz:Nat}{R:World→List Value→α→Prop}{K:Nat→Prop}{t:TypeId}{w:World}{base:Nat}{v:Value}{p q:List α}{x y:α}
theorem GRow.swap (h:GRow sz R K t w base v (p++x::y::q)):∃ g c us vs,v=.slice (some ⟨g,0,none⟩) (p++x::y::q).length c∧us.length=sz∧vs.length=sz∧Kept (fun W=>R W us x) (fun k=>v.ownBlock=some k∨K k) w∧Kept (fun W=>R W vs y) (fun k=>v.ownBlock=some k∨K k) w∧(∀ j u,us[j]? = some u→w.cell? ⟨g,sz*p.length+j,none⟩=some u)∧(∀ j u,vs[j]? = some u→w.cell? ⟨g,sz*(p.length+1)+j,none⟩=some u)∧(∀ W,Fz w W→∀ i,W.frozen? ⟨g,i,none⟩=false)∧∀ W,Fz w W→∀ W',(W'=putL (putL W g (sz*(p.length+1)) us) g (sz*p.length) vs∨W'=putL (putL W g (sz*p.length) vs) g (sz*(p.length+1)) us)→GRow sz R K t W' base v (p++y::x::q)∧Fr (fun k=>k=g) W W':=by
 obtain⟨cs,⟨h1,h2⟩,h3⟩:=h
 have hlen:(p++x::y::q).length=p.length+(q.length+2):=by simp
 rcases h2 with ⟨-,h0⟩|⟨g,cap,cur,rfl,hg,hh,hnc,hcm,hcs,htk⟩
 ·omega
 ·obtain⟨us,u1,u2,u3⟩:=h3 p.length x (by simp)
  obtain⟨vs,v1,v2,v3⟩:=h3 (p.length+1) y (by simp)
  have hA:(cs.take (sz*p.length)).length=sz*p.length:=by
   rw[List.length_take,h1,hlen,Nat.add_mul,Nat.mul_comm sz]
   omega
  have hcur:cur.toList=cs++cur.toList.drop ((p++x::y::q).length*sz):=by rw[←htk,List.take_append_drop]
  have s1:=seg_split u1 u2;have s2:cs.drop (sz*p.length+sz)=vs++cs.drop (sz*p.length+sz+sz):=by
   have:=seg_split (cs:=cs.drop (sz*p.length+sz)) (k:=0) v1 (fun j u hu=>by
    rw[List.getElem?_drop,Nat.zero_add]
    have:=v2 j u hu;rwa[Nat.mul_add,Nat.mul_one]at this)
   rw[List.take_zero,List.nil_append,Nat.zero_add,List.drop_drop]at this
   exact this
  obtain⟨A,hAe⟩:∃ A,A=cs.take (sz*p.length):=⟨_,rfl⟩
  obtain⟨B,hBe⟩:∃ B,B=cs.drop (sz*p.length+sz+sz):=⟨_,rfl⟩
  obtain⟨D,hDe⟩:∃ D,D=cur.toList.drop ((p++x::y::q).length*sz):=⟨_,rfl⟩
  rw[s2,←hAe,←hBe]at s1
  rw[←hDe,s1]at hcur
  rw[←hAe]at hA
  have hcell:∀ m u,cs[m]? = some u→w.cell? ⟨g,m,none⟩=some u:=fun m u hu=>by
   have hm:=(List.getElem?_eq_some_iff.1 hu).1;have:=congrArg (fun z:List Value=>z[m]?) htk;simp only[List.getElem?_take,if_pos (show m<(p++x::y::q).length*sz by omega),Array.getElem?_toList]at this
   simp only[World.cell?,hh]
   exact this.trans hu
  have hB:Blk w g t cur:=hh;have o1:∀ W,Blk W g t cur→∀ W',(W'=putL (putL W g (sz*(p.length+1)) us) g (sz*p.length) vs∨W'=putL (putL W g (sz*p.length) vs) g (sz*(p.length+1)) us)→Blk W' g t (A++(vs++(us++(B++D)))).toArray∧Fr (fun k=>k=g) W W':=by
   intro W hB W' hW;rcases hW with rfl|rfl
   ·have b1:=putL_mid us vs (B++D) (A++us) W cur hB (by rw[hcur];simp only[List.append_assoc]) (by rw[u1,v1])
    rw[List.length_append,hA,u1,show sz*p.length+sz=sz*(p.length+1) by rw[Nat.mul_add,Nat.mul_one]]at b1
    have b2:=putL_mid vs us (us++(B++D)) A _ _ b1.1 (by simp only[List.append_assoc]) (by rw[u1,v1]);rw[hA]at b2
    exact⟨b2.1,b1.2.trans b2.2⟩
   ·have b1:=putL_mid vs us (vs++(B++D)) A W cur hB (by rw[hcur];simp only[List.append_assoc]) (by rw[u1,v1])
    rw[hA]at b1
    have b2:=putL_mid us vs (B++D) (A++vs) _ _ b1.1 (by simp only[List.append_assoc]) (by rw[u1,v1]);rw[List.length_append,hA,v1,show sz*p.length+sz=sz*(p.length+1) by rw[Nat.mul_add,Nat.mul_one]]at b2
    refine⟨?_,b1.2.trans b2.2⟩
    have:=b2.1;simp only[List.append_assoc]at this
    exact this
  refine⟨g,cap,us,vs,rfl,u1,v1,u3,v3,fun j u hu=>hcell _ _ (u2 j u hu),fun j u hu=>hcell _ _ (v2 j u hu),fun W F=>(hB.fr F (fun h=>h)).frozen,fun W F W' hW=>?_⟩
  obtain⟨b1,b2⟩:=o1 W (hB.fr F (fun h=>h)) W' hW
  refine⟨⟨A++(vs++(us++B)),⟨?_,.inr ⟨g,cap,_,?_,hg,b1,?_,hcm,?_,?_⟩⟩,?_⟩,b2⟩
  ·have:=congrArg List.length s1
   simp only[List.length_append,u1,v1,List.length_cons]at this h1 ⊢
   omega
  ·simp
  ·simp only[List.length_append,List.length_cons]at hnc ⊢
   exact hnc
  ·have hc:=congrArg List.length hcur
   rw[Array.length_toList,hcs]at hc
   simp only[List.size_toArray,List.length_append,u1,v1]at hc ⊢
   omega
  ·have hs1:=congrArg List.length s1
   simp only[List.length_append,u1,v1,List.length_cons]at hs1 h1
   have e1:(A++(vs++(us++(B++D))))=(A++(vs++(us++B)))++D:=by simp only[List.append_assoc]
   show (A++(vs++(us++(B++D)))).take _=_
   rw[e1]
   refine List.take_left' ?_;simp only[List.length_append,u1,v1,List.length_cons]
   omega
  ·intro i z hz
   have stepK:∀ {cs:List Value}{z:α},Kept (fun W=>R W cs z) (fun k=>(Value.slice (some ⟨g,0,none⟩) (p++x::y::q).length cap).ownBlock=some k∨K k) w→Kept (fun W=>R W cs z) (fun k=>(Value.slice (some ⟨g,0,none⟩) (p++x::y::q).length cap).ownBlock=some k∨K k) W':=fun h=>
    (h.old F).step b2 (fun k _ e=>.inl (by rw[e];rfl)) (fun k hk=>.inl hk)
   rcases Nat.lt_trichotomy i p.length with hi|hi|hi
   ·rw[List.getElem?_append_left hi]at hz
    obtain⟨es,e1,e2,e3⟩:=h3 i z (by rw[List.getElem?_append_left hi];exact hz)
    refine⟨es,e1,fun j u hu=>?_,stepK e3⟩
    have hj:j<sz:=by rw[←e1];exact(List.getElem?_eq_some_iff.1 hu).1
    have hlt:sz*i+j<A.length:=by
     have:sz*(i+1)≤sz*p.length:=Nat.mul_le_mul_left _ hi;rw[Nat.mul_add,Nat.mul_one]at this
     omega
    have:=e2 j u hu;rw[s1,List.getElem?_append_left hlt]at this
    rw[List.getElem?_append_left hlt]
    exact this
   ·subst hi
    rw[List.getElem?_append_right (Nat.le_refl _),Nat.sub_self,List.getElem?_cons_zero]at hz
    obtain rfl:=Option.some.inj hz
    refine⟨vs,v1,fun j u hu=>?_,stepK v3⟩
    rw[List.getElem?_append_right (by omega),hA,Nat.add_sub_cancel_left,List.getElem?_append_left (List.getElem?_eq_some_iff.1 hu).1]
    exact hu
   ·rcases Nat.lt_or_ge (p.length+1) i with h4|h4
    ·rw[List.getElem?_append_right (by omega),show i-p.length=(i-p.length-2)+1+1 by omega,List.getElem?_cons_succ,List.getElem?_cons_succ]at hz
     obtain⟨es,e1,e2,e3⟩:=h3 i z (by rw[List.getElem?_append_right (by omega),show i-p.length=(i-p.length-2)+1+1 by omega,List.getElem?_cons_succ,List.getElem?_cons_succ];exact hz)
     refine⟨es,e1,fun j u hu=>?_,stepK e3⟩
     have:=e2 j u hu;have hge:sz*p.length+(sz+sz)≤sz*i+j:=by
      have:sz*(p.length+2)≤sz*i:=Nat.mul_le_mul_left _ h4;rw[Nat.mul_add]at this
      omega
     rw[s1,List.getElem?_append_right (by omega),List.getElem?_append_right (by omega),List.getElem?_append_right (by omega)]at this
     rw[List.getElem?_append_right (by omega),List.getElem?_append_right (by omega),List.getElem?_append_right (by omega)]
     rw[u1,v1] at *
     exact this
    ·obtain rfl:i=p.length+1:=by omega
     rw[List.getElem?_append_right (by omega),show p.length+1-p.length=0+1 by omega,List.getElem?_cons_succ,List.getElem?_cons_zero]at hz
     obtain rfl:=Option.some.inj hz
     refine⟨us,u1,fun j u hu=>?_,stepK u3⟩
     rw[Nat.mul_add,Nat.mul_one,List.getElem?_append_right (by omega),List.getElem?_append_right (by omega),List.getElem?_append_left (by rw[v1,hA];have:=(List.getElem?_eq_some_iff.1 hu).1;omega),v1,hA,show sz*p.length+sz+j-sz*p.length-sz=j by omega]
     exact hu
theorem GRow.swap7 {R:World→List Value→α→Prop}(h:GRow 7 R K t w base v (p++x::y::q)):∃ g c us vs,v=.slice (some ⟨g,0,none⟩) (p++x::y::q).length c∧us.length=7∧vs.length=7∧Kept (fun W=>R W us x) (fun k=>v.ownBlock=some k∨K k) w∧Kept (fun W=>R W vs y) (fun k=>v.ownBlock=some k∨K k) w∧(∀ j u,us[j]? = some u→w.cell? ⟨g,p.length*7+j,none⟩=some u)∧(∀ j u,vs[j]? = some u→w.cell? ⟨g,(p.length+1)*7+j,none⟩=some u)∧(∀ W,Fz w W→∀ i,W.frozen? ⟨g,i,none⟩=false)∧∀ W,Fz w W→∀ W',(W'=putL (putL W g ((p.length+1)*7) us) g (p.length*7) vs∨W'=putL (putL W g (p.length*7) vs) g ((p.length+1)*7) us)→GRow 7 R K t W' base v (p++y::x::q)∧Fr (fun k=>k=g) W W':=by
 obtain⟨g,c,us,vs,h1,h2,h3,h4,h5,h6,h7,h8,h9⟩:=h.swap
 exact⟨g,c,us,vs,h1,h2,h3,h4,h5,fun j u hu=>by rw[Nat.mul_comm];exact h6 j u hu,fun j u hu=>by rw[Nat.mul_comm];exact h7 j u hu,h8,fun W F W' hW=>h9 W F W' (by rw[Nat.mul_comm 7,Nat.mul_comm 7];exact hW)⟩
end
theorem of_law (k:List UInt8):∀ {l:List RowP},UpR l→(l.take (l.takeWhile (fun r=>!decide (k<nameKeyS r.iss))).length).drop (l.takeWhile (fun r=>decide (nameKeyS r.iss<k))).length=l.filter (fun r=>decide (nameKeyS r.iss=k))
 | [],_=>rfl
 |x::t,h=>by
  have h':=List.pairwise_cons.1 h;have ih:=of_law k h'.2;have hle:∀ y∈t,¬nameKeyS y.iss<nameKeyS x.iss:=fun y hy e=>by
   have:=h'.1 y hy;unfold ltK rowK at this;simp only[Bool.or_eq_true,Bool.and_eq_true,decide_eq_true_eq]at this
   rcases this with q|⟨q,-⟩
   ·exact Std.lt_irrefl (Std.lt_trans q e)
   ·rw[q]at e;exact Std.lt_irrefl e
  rcases Std.lt_trichotomy (nameKeyS x.iss) k with q|q|q
  ·have h1:¬k<nameKeyS x.iss:=fun e=>Std.lt_irrefl (Std.lt_trans q e)
   have h2:¬nameKeyS x.iss=k:=fun e=>by rw[e]at q;exact Std.lt_irrefl q
   rw[List.takeWhile_cons,List.takeWhile_cons,List.filter_cons]
   simp only[h1,q,h2,decide_false,decide_true,Bool.not_false,if_true,Bool.false_eq_true,if_false,List.length_cons,List.take_succ_cons,List.drop_succ_cons]
   exact ih
  ·have h1:¬k<nameKeyS x.iss:=fun e=>by rw[q]at e;exact Std.lt_irrefl e
   have h2:¬nameKeyS x.iss<k:=fun e=>by rw[q]at e;exact Std.lt_irrefl e
   have h0:(t.takeWhile (fun r=>decide (nameKeyS r.iss<k))).length=0:=by
    cases t with
    |nil=>rfl
    |cons y t=>
     have:=hle y (by simp);rw[q]at this
     rw[List.takeWhile_cons]
     simp[this]
   rw[h0,List.drop_zero]at ih
   rw[List.takeWhile_cons,List.takeWhile_cons,List.filter_cons,decide_eq_false h1,decide_eq_false h2,decide_eq_true q]
   simp only[Bool.not_false,if_true,Bool.false_eq_true,if_false,List.length_cons,List.length_nil,List.take_succ_cons,List.drop_zero]
   rw[ih]
  ·have h1:¬nameKeyS x.iss<k:=fun e=>Std.lt_irrefl (Std.lt_trans q e)
   have h2:¬nameKeyS x.iss=k:=fun e=>by rw[e]at q;exact Std.lt_irrefl q
   rw[List.takeWhile_cons,List.takeWhile_cons,List.filter_cons]
   simp only[h1,h2,q,decide_false,decide_true,Bool.not_true,Bool.false_eq_true,if_false,List.length_nil,List.take_zero,List.drop_zero]
   symm
   rw[List.filter_eq_nil_iff]
   intro y hy;simp only[decide_eq_true_eq]
   intro e;have:=hle y hy;rw[e]at this
   exact this q
theorem takeWhile_at {α:Type}(q:α→Bool):∀ (l:List α) (r:Nat),r≤l.length→(∀ i x,l[i]? = some x→i<r→q x=true)→(∀ x,l[r]? = some x→q x=false)→(l.takeWhile q).length=r
 | [],r,h,_,_=>by simp at h;simp[h]
 |x::t,0,_,_,h2=>by
  have:=h2 x rfl;simp[this]
 |x::t,r+1,h,h1,h2=>by
  have h0:=h1 0 x rfl (by omega);rw[List.takeWhile_cons,if_pos h0,List.length_cons,takeWhile_at q t r (by simpa using h) (fun i y hy hi=>h1 (i+1) y (by simpa using hy) (by omega)) (fun y hy=>h2 y (by simpa using hy))]
instance:DecidableEq Part:=fun p q=>if h:p.o=q.o∧p.b=q.b then isTrue (by cases p;cases q;simp_all) else isFalse (fun e=>h (by rw[e];exact⟨rfl,rfl⟩))
def likeRow (a b:RowP):Bool:=decide (madeS a.num=madeS b.num)&&(decide (a.date=b.date)&&(decide (a.reason=b.reason)&&(decide (a.inv=b.inv)&&decide (a.iss=b.iss))))
def likeRows:List RowP→List RowP→Bool
 | [],[]=>true
 |x::l,y::m=>likeRow x y&&likeRows l m
 |_,_=>false
theorem likeRow_n (r:RowP):likeRow (nrow r) r=true:=by simp[likeRow,nrow,made_made]
theorem likeRows_n:∀ l:List RowP,likeRows (l.map nrow) l=true
 | []=>rfl
 |x::l=>by
  rw[List.map_cons]
  unfold likeRows;rw[likeRow_n,likeRows_n l]
  rfl
def okRows (l:List RowP):Bool:=l.all (fun r=>nameOk r.iss)
def newIx (l:List RowP):Except Int (List RowP):=if okRows l=true then (match newR [] l with|none=>.error 10|some o=>.ok (o.map nrow)) else .error 1
def newRef (l:List RowP):Except Int (List RowP):=if okRows l=true then (match newR [] l with|none=>.error 10|some o=>.ok o) else .error 1
def leastStep (o:List RowP)(r:RowP):List RowP:=if nameOk r.iss=true then (if (placeR r o 0).2=true then o else ((newR [] (o++[r])).getD [])) else o
def leastL:List RowP→List RowP→List RowP→List RowP × List RowP
 | [],l,o=>(l,o)
 |r::t,l,o=>if nameOk r.iss=true∧(placeR r o 0).2=false then leastL t (l++[r]) ((newR [] (o++[r])).getD []) else leastL t l o
theorem new_more {o:List RowP}{r:RowP}(ho:UpR o)(hr:(placeR r o 0).2=false):∃ o',newR [] (o++[r])=some o'∧UpR o'∧(∀ y,y∈o'↔y=r∨y∈o)∧insS ltK rowK o r=some o':=by
 have hn:insS ltK rowK o r≠none:=fun e=>by
  obtain⟨x,hx,ex⟩:=(ins_none ordK ho).1 e
  exact(place_none r o 0).1 hr x hx ex
 obtain⟨o',h⟩:=Option.ne_none_iff_exists'.1 hn
 obtain⟨h1,h2⟩:=ins_some ordK ho h
 refine⟨o',?_,h1,h2,h⟩
 unfold newR;rw[new_snoc,new_up ordK ho]
 exact h
theorem least_spec:∀ (t l o:List RowP),okRows l=true→newR [] l=some o→okRows (leastL t l o).1=true∧newR [] (leastL t l o).1=some (leastL t l o).2∧∀ y∈(leastL t l o).1,y∈l∨y∈t
 | [],l,o,h1,h2=>⟨h1,h2,fun y hy=>.inl hy⟩
 |r::t,l,o,h1,h2=>by
  have hu:=(new_some ordK (List.Pairwise.nil) h2).1;unfold leastL;split
  ·rename_i hr
   obtain⟨o',g1,g2,g3,g4⟩:=new_more hu hr.2
   rw[g1]
   have ih:=least_spec t (l++[r]) o' (by unfold okRows at *;rw[List.all_append,h1];simp[hr.1]) (by unfold newR at *;rw[new_snoc,h2];exact g4);refine⟨ih.1,ih.2.1,fun y hy=>?_⟩
   rcases ih.2.2 y hy with q|q
   ·rcases List.mem_append.1 q with q|q
    ·exact .inl q
    ·rw[List.mem_singleton]at q;exact .inr (by simp[q])
   ·exact .inr (by simp[q])
  ·have ih:=least_spec t l o h1 h2
   refine⟨ih.1,ih.2.1,fun y hy=>?_⟩
   rcases ih.2.2 y hy with q|q
   ·exact .inl q
   ·exact .inr (by simp[q])
section
variable {α κ:Type} [DecidableEq κ] {lt:κ→κ→Bool}{key:α→κ}
def sideI (lt:κ→κ→Bool)(key:α→κ):List α→List α→Nat→Nat→List (Option Nat × Option Nat)
 | [],[],_,_=>[]
 |_::l,[],i,j=>(some i,none)::sideI lt key l [] (i+1) j
 | [],_::m,i,j=>(none,some j)::sideI lt key [] m i (j+1)
 |x::l,y::m,i,j=>if lt (key x) (key y)=true then (some i,none)::sideI lt key l (y::m) (i+1) j else if key x=key y then (some i,some j)::sideI lt key l m (i+1) (j+1) else (none,some j)::sideI lt key (x::l) m i (j+1)
termination_by l m=>l.length+m.length
def atP (L M:List α)(p:Option Nat × Option Nat):Option α × Option α:=(p.1.bind (fun i=>L[i]?),p.2.bind (fun j=>M[j]?))
theorem drop_next {L l:List α}{x:α}{i:Nat}(h:L.drop i=x::l):L[i]? = some x∧L.drop (i+1)=l:=by
 have h1:=congrArg (fun z:List α=>z[0]?) h;simp only[List.getElem?_drop,Nat.add_zero,List.getElem?_cons_zero]at h1
 refine⟨h1,?_⟩
 rw[←List.drop_drop,h]
 rfl
theorem sideI_map {L M:List α}:∀ (l m:List α) (i j:Nat),L.drop i=l→M.drop j=m→(sideI lt key l m i j).map (atP L M)=sideS lt key l m
 | [],[],i,j,_,_=>by rw[sideI,sideS];rfl
 |x::l,[],i,j,h1,h2=>by
  obtain⟨g1,g2⟩:=drop_next h1
  rw[sideI,sideS,List.map_cons,sideI_map l [] (i+1) j g2 h2]
  simp[atP,g1]
 | [],y::m,i,j,h1,h2=>by
  obtain⟨g1,g2⟩:=drop_next h2
  rw[sideI,sideS,List.map_cons,sideI_map [] m i (j+1) h1 g2]
  simp[atP,g1]
 |x::l,y::m,i,j,h1,h2=>by
  obtain⟨a1,a2⟩:=drop_next h1
  obtain⟨b1,b2⟩:=drop_next h2
  rw[sideI,sideS]
  by_cases c1:lt (key x) (key y)=true
  ·rw[if_pos c1,if_pos c1,List.map_cons,sideI_map l (y::m) (i+1) j a2 h2]
   simp[atP,a1]
  ·rw[if_neg c1,if_neg c1]
   by_cases c2:key x=key y
   ·rw[if_pos c2,if_pos c2,List.map_cons,sideI_map l m (i+1) (j+1) a2 b2]
    simp[atP,a1,b1]
   ·rw[if_neg c2,if_neg c2,List.map_cons,sideI_map (x::l) m i (j+1) h1 b2]
    simp[atP,b1]
termination_by l m=>l.length+m.length
end
end Go.Q
namespace Go.Proofs.YtehlipgmkinfbaaGreatDoor
open Go Go.RowKit Go.Q
theorem wMade_as (b:Bool)(v:Value)(l:List UInt8)(x:NumT)(hx:x=madeS ⟨b,l⟩)(w:World)(h:Bytes w v l)(hl:l.length≤10000000000) :
  Calls Tryz.prog 73 #[.bool b,v] w fun e w'=>(∃ a c,e=.returned (.agg #[.bool x.below,.slice a x.size.length c])∧Kept (fun W=>Bytes W (.slice a x.size.length c) x.size) (fun k=>k<w.heap.size) w')∧Fz w w':=by
 subst hx;exact wMade_any b v l w h hl
theorem wCompare_any (b1 b2:Bool)(v u:Value)(s1 s2:List UInt8)(w:World)(h:Bytes w v s1)(hu:Bytes w u s2)(h1:s1.length≤10000000000)(h2:s2.length≤10000000000) :
  Calls Tryz.prog 70 #[.agg #[.bool b1,v],.agg #[.bool b2,u]] w fun e w'=>e=.returned (.int .i64 (numC ⟨b1,s1⟩ ⟨b2,s2⟩))∧Fz w w':=by
 rw[numC_made]
 obtain⟨x,hx⟩:∃ x,x=madeS ⟨b1,s1⟩:=⟨_,rfl⟩
 obtain⟨y,hy⟩:∃ y,y=madeS ⟨b2,s2⟩:=⟨_,rfl⟩
 rw[←hx,←hy]
 have hxl:x.size.length≤10000000000:=by rw[hx];have:=trimS_le s1;show (trimS s1).length≤_;omega
 have hyl:y.size.length≤10000000000:=by rw[hy];have:=trimS_le s2;show (trimS s2).length≤_;omega
 obtain⟨r,hr⟩:∃ r,r=(if x.below&&!y.below then (-1:Int) else if !x.below&&y.below then 1 else if x.below then sizesS y.size x.size else sizesS x.size y.size):=⟨_,rfl⟩
 have HR:=Hi hr;rw[←hr]
 clear hr;obtain⟨a1,c1,rfl,-⟩:=h.form
 obtain⟨a2,c2,rfl,-⟩:=hu.form
 obtain⟨z,hz⟩:∃ z,z=w.heap.size:=⟨_,rfl⟩
 have HZ:=Hi hz;have F0:Fz w ((w.alloc (.cells #[.bool b1,.slice a1 s1.length c1] 40)).alloc (.cells #[.bool b2,.slice a2 s2.length c2] 40)):=((Fr.refl w).alloc _).alloc _;have BA:=(Blk.new w 40 #[.bool b1,.slice a1 s1.length c1]).alloc (.cells #[.bool b2,.slice a2 s2.length c2] 40);have BB:=Blk.new (w.alloc (.cells #[.bool b1,.slice a1 s1.length c1] 40)) 40 #[.bool b2,.slice a2 s2.length c2];rw[World.size_alloc,←hz]at BB
 rw[←hz]at BA
 have HM1:=Hi (fun W (F:Fz ((w.alloc (.cells #[.bool b1,.slice a1 s1.length c1] 40)).alloc (.cells #[.bool b2,.slice a2 s2.length c2] 40)) W)=>wMade_as b1 _ s1 x hx W ((h.old F0).old F) h1);have HM2:=Hi (fun W (F:Fz ((w.alloc (.cells #[.bool b1,.slice a1 s1.length c1] 40)).alloc (.cells #[.bool b2,.slice a2 s2.length c2] 40)) W)=>wMade_as b2 _ s2 y hy W ((hu.old F0).old F) h2);have HS0:=Hi (show ((w.alloc (.cells #[.bool b1,.slice a1 s1.length c1] 40)).alloc (.cells #[.bool b2,.slice a2 s2.length c2] 40)).heap.size=z+2 from by rw[World.size_alloc,World.size_alloc,hz]);have HF0:=Hi F0
 clear h hu hz F0 hx hy;go_enter Tryz.func70,Tryz.ntmps70
 go_upto_region 1 with fail
 rw[←HZ.out]
 generalize ((w.alloc (.cells #[.bool b1,.slice a1 s1.length c1] 40)).alloc (.cells #[.bool b2,.slice a2 s2.length c2] 40))=w0 at *
 replace BA:=BA.drew;replace BB:=BB.drew;have G:Fz w0 w0.drew:=(Fr.refl w0).drew;refine wp_region_2 10 11 (C1:=fun w'=>∀ j,w'.cell? ⟨z,j,none⟩=(#[.bool b1,.slice a1 s1.length c1]:Array Value)[j]?) (C2:=fun w'=>∀ j,w'.cell? ⟨z+1,j,none⟩=(#[.bool b2,.slice a2 s2.length c2]:Array Value)[j]?) (by kernel_rfl) (BA.cell) (BB.cell) (fun hTwo=>?_);refine wpAny2_takeA (i:=0) (oi:=_) (v:=?_) rfl (by kernel_rfl) (by kernel_rfl) (by kernel_rfl) (by kernel_rfl) (by decide) (by kernel_rfl) (fun _ _ _ h=>h) (Or.inl ⟨by rfl,?_⟩) (by assumption) (fun hT2=>?_);rotate_left
 ·(intro W hSw;(try dsimp only at hSw);go_simp;try with_reducible rfl)
 replace hTwo:=hT2;clear hT2;(try simp only[Act.put,SS]);refine wpAny2_takeA (i:=1) (oi:=_) (v:=?_) rfl (by kernel_rfl) (by kernel_rfl) (by kernel_rfl) (by kernel_rfl) (by decide) (by kernel_rfl) (fun _ _ _ h=>h) (Or.inl ⟨by rfl,?_⟩) (by assumption) (fun hT2=>?_);rotate_left
 ·(intro W hSw;(try dsimp only at hSw);go_simp;try with_reducible rfl)
 replace hTwo:=hT2;clear hT2;(try simp only[Act.put,SS]);refine wpAny2_takeA (i:=2) (oi:=_) (v:=?_) rfl (by kernel_rfl) (by kernel_rfl) (by kernel_rfl) (by kernel_rfl) (by decide) (by kernel_rfl) (fun _ _ _ h=>h) (Or.inl ⟨by rfl,?_⟩) (by assumption) (fun hT2=>?_);rotate_left
 ·(intro W hSw;(try dsimp only at hSw);go_simp;try with_reducible rfl)
 replace hTwo:=hT2;clear hT2;(try simp only[Act.put,SS]);refine wpAny2_takeA (i:=3) (oi:=_) (v:=?_) rfl (by kernel_rfl) (by kernel_rfl) (by kernel_rfl) (by kernel_rfl) (by decide) (by kernel_rfl) (fun _ _ _ h=>h) (Or.inl ⟨by rfl,?_⟩) (by assumption) (fun hT2=>?_);rotate_left
 ·(intro W hSw;(try dsimp only at hSw);go_simp;try with_reducible rfl)
 replace hTwo:=hT2;clear hT2;(try simp only[Act.put,SS]);refine wpAny2_takeB (i:=5) (oi:=_) (v:=?_) rfl (by kernel_rfl) (by kernel_rfl) (by kernel_rfl) (by kernel_rfl) (by decide) (by kernel_rfl) (fun _ _ _ h=>h) (Or.inl ⟨by rfl,?_⟩) (by assumption) (fun hT2=>?_);rotate_left
 ·(intro W hSw;(try dsimp only at hSw);go_simp;try with_reducible rfl)
 replace hTwo:=hT2;clear hT2;(try simp only[Act.put,SS]);refine wpAny2_takeB (i:=6) (oi:=_) (v:=?_) rfl (by kernel_rfl) (by kernel_rfl) (by kernel_rfl) (by kernel_rfl) (by decide) (by kernel_rfl) (fun _ _ _ h=>h) (Or.inl ⟨by rfl,?_⟩) (by assumption) (fun hT2=>?_);rotate_left
 ·(intro W hSw;(try dsimp only at hSw);go_simp;try with_reducible rfl)
 replace hTwo:=hT2;clear hT2;(try simp only[Act.put,SS]);refine wpAny2_takeB (i:=7) (oi:=_) (v:=?_) rfl (by kernel_rfl) (by kernel_rfl) (by kernel_rfl) (by kernel_rfl) (by decide) (by kernel_rfl) (fun _ _ _ h=>h) (Or.inl ⟨by rfl,?_⟩) (by assumption) (fun hT2=>?_);rotate_left
 ·(intro W hSw;(try dsimp only at hSw);go_simp;try with_reducible rfl)
 replace hTwo:=hT2;clear hT2;(try simp only[Act.put,SS]);refine wpAny2_takeB (i:=8) (oi:=_) (v:=?_) rfl (by kernel_rfl) (by kernel_rfl) (by kernel_rfl) (by kernel_rfl) (by decide) (by kernel_rfl) (fun _ _ _ h=>h) (Or.inl ⟨by rfl,?_⟩) (by assumption) (fun hT2=>?_);rotate_left
 ·(intro W hSw;(try dsimp only at hSw);go_simp;try with_reducible rfl)
 replace hTwo:=hT2;clear hT2;(try simp only[Act.put,SS]);refine wpAny2_ready (rs:=[4]) (by kernel_rfl) (by simp) ?_;refine All2.cons (o:=_) rfl (fun KK hKK=>?_) All2.nil;go_simp
 (go_at_call 73;(with_reducible refine(HM1.out _ G).mono ?_);rintro e w' ⟨⟨p1,q1,rfl,hk1⟩,F⟩;have hsz:=G.size;replace BA:=BA.fr F (fun h=>h);replace BB:=BB.fr F (fun h=>h);replace G:=G.trans F;clear F HM1;go_wp2_with fail)
 refine hKK.out _ _ ?_ (fun hT2=>?_)
 ·exact⟨fun _=>BA.cell,fun _=>BB.cell⟩
 clear hKK KK;replace hTwo:=hT2;clear hT2;(try simp only[Act.put,SS]);refine wpAny2_ready (rs:=[9]) (by kernel_rfl) (by simp) ?_;refine All2.cons (o:=_) rfl (fun KK hKK=>?_) All2.nil;go_simp
 (go_at_call 73;(with_reducible refine(HM2.out _ G).mono ?_);rintro e w' ⟨⟨p2,q2,rfl,hk2⟩,F⟩;have hsz2:=G.size;replace BA:=BA.fr F (fun h=>h);replace BB:=BB.fr F (fun h=>h);replace hk1:=hk1.old F;replace G:=G.trans F;clear F HM2;go_wp2_with fail)
 refine hKK.out _ _ ?_ (fun hT2=>?_)
 ·exact⟨fun _=>BA.cell,fun _=>BB.cell⟩
 clear hKK KK;replace hTwo:=hT2;clear hT2;(try simp only[Act.put,SS]);have X1:=set2 BA (.bool x.below) (.slice p1 x.size.length q1);have Y0:=BB.fr X1.2 (by omega);have Y1:=set2 Y0 (.bool y.below) (.slice p2 y.size.length q2);have X2:=X1.1.fr Y1.2 (by omega);have d0:=BA.cell 0;have d1:=BA.cell 1;have f0:=BA.frozen 0;have f1:=BA.frozen 1;have e0:=Y0.cell 0;have e1:=Y0.cell 1;have g0:=Y0.frozen 0;have g1:=Y0.frozen 1;simp only[SG]at d0 d1 e0 e1
 refine wpAny2_ready (rs:=[10]) (by kernel_rfl) (by simp) ?_;refine All2.cons (o:=_) rfl (fun KK hKK=>?_) All2.nil;go_simp
 skip
 refine hKK.out _ _ ?_ (fun hT2=>?_)
 ·exact⟨(fun h=>absurd (h.symm.trans (by kernel_rfl:_=true)) (by decide)),fun _=>Y0.cell⟩
 clear hKK KK;replace hTwo:=hT2;clear hT2;(try simp only[Act.put,SS]);refine wpAny2_ready (rs:=[11]) (by kernel_rfl) (by simp) ?_;refine All2.cons (o:=_) rfl (fun KK hKK=>?_) All2.nil;go_simp
 skip
 refine hKK.out _ _ ?_ (fun hT2=>?_)
 ·exact⟨(fun h=>absurd (h.symm.trans (by kernel_rfl:_=true)) (by decide)),(fun h=>absurd (h.symm.trans (by kernel_rfl:_=true)) (by decide))⟩
 clear hKK KK;replace hTwo:=hT2;clear hT2;(try simp only[Act.put,SS]);refine wpAny2_done (by kernel_rfl) ?_ _;have hsd:w0.drew.heap.size=w0.heap.size:=rfl;obtain⟨w3,hw3⟩:∃ w3,w3=((((w'.setCell ⟨z,0,none⟩ (.bool x.below)).setCell ⟨z,1,none⟩ (.slice p1 x.size.length q1)).setCell ⟨z+1,0,none⟩ (.bool y.below)).setCell ⟨z+1,1,none⟩ (.slice p2 y.size.length q2)):=⟨_,rfl⟩
 have F3:Fr (fun k=>k=z∨k=z+1) w' w3:=by rw[hw3];exact(X1.2.mono (fun k _ e=>.inl e)).trans (Y1.2.mono (fun k _ e=>.inr e))
 have hb1:=hk1 w3 (F3.mono (fun k _ e=>by have:=HS0.out;omega));have hb2:=hk2 w3 (F3.mono (fun k _ e=>by have:=HS0.out;omega));have HF3:=Hi ((HF0.out.trans G).trans' F3 (fun i hi e=>by have:=HZ.out;omega));rw[←hw3]at X2
 have Y3:=Y1.1;rw[←hw3]at Y3
 rw[←hw3]
 have HC1:=Hi (wSizes_any _ _ x.size y.size w3 hb1 hb2 (by omega) (by omega));have HC2:=Hi (wSizes_any _ _ y.size x.size w3 hb2 hb1 (by omega) (by omega));clear d0 d1 f0 f1 e0 e1 g0 g1 hTwo X1 Y0 Y1 hk1 hk2 hb1 hb2 F3 hw3 BA BB G hsz hsz2;try clear hTwo
 have d0:=X2.cell 0;have d1:=X2.cell 1;have e0:=Y3.cell 0;have e1:=Y3.cell 1;simp only[SG]at d0 d1 e0 e1
 obtain⟨p,hp⟩:∃ p,p=x.below:=⟨_,rfl⟩
 obtain⟨q,hq⟩:∃ q,q=y.below:=⟨_,rfl⟩
 rw[←hp]at d0 HR
 rw[←hq]at e0 HR
 clear hp hq X2 Y3 hxl hyl;cases p with
 |false=>
  cases q with
  |false=>
   go_wp2_with fail
   refine HC1.out.mono ?_;rintro e w4 ⟨rfl,F4⟩;clear d0 d1 e0 e1;go_wp2_with fail
   go_ret;exact⟨by rw[HR.out];rfl,HF3.out.trans F4⟩
  |true=>
   go_wp2_with fail
   go_ret;exact⟨by rw[HR.out];rfl,HF3.out⟩
 |true=>
  cases q with
  |false=>
   go_wp2_with fail
   go_ret;exact⟨by rw[HR.out];rfl,HF3.out⟩
  |true=>
   go_wp2_with fail
   refine HC2.out.mono ?_;rintro e w4 ⟨rfl,F4⟩;clear d0 d1 e0 e1;go_wp2_with fail
   go_ret;exact⟨by rw[HR.out];rfl,HF3.out.trans F4⟩
theorem str_list (a:List UInt8):(ByteArray.mk a.toArray).toList=a:=by
 rw[ByteArray.toList_eq]
theorem run_gtr (t:TypeId)(a b:List UInt8)(W:World):(binOp .gtr t (str a) (str b)).run Tryz.prog W=.ok (.bool (decide (b<a))) W:=by
 rw[←greater_of a b]
 simp[binOp,Op.stringOp,str,str_list]
theorem run_geq (t:TypeId)(a b:List UInt8)(W:World):(binOp .geq t (str a) (str b)).run Tryz.prog W=.ok (.bool (!decide (a<b))) W:=by
 rw[←less_of (x:=a) (y:=b)]
 simp[binOp,Op.stringOp,str,str_list]
theorem isNaN_any (a:List UInt8)(w:World) :
  Calls Tryz.prog 108 #[str a] w fun e w'=>e=.returned (.bool false)∧Fz w w':=by
 have q1:(a==a)=true:=by simp
 have q2:(a != a)=false:=by simp
 go_enter Tryz.func108,Tryz.ntmps108
 go_wp2_with fail
 go_ret;exact⟨rfl,Fr.refl w⟩
theorem cmpStr_any (a b:List UInt8)(w:World) :
  Calls Tryz.prog 69 #[str a,str b] w fun e w'=>e=.returned (.int .i64 (cmpL a b))∧Fz w w':=by
 have hl:Op.bytesLess a b=decide (a<b):=less_of;have hg:(!(Op.bytesLess a b||a==b))=decide (b<a):=greater_of a b;obtain⟨p,hp⟩:∃ p,p=decide (a<b):=⟨_,rfl⟩
 obtain⟨q,hq⟩:∃ q,q=decide (b<a):=⟨_,rfl⟩
 have HP:=Hi hp;have HQ:=Hi hq;rw[←hp]at hl
 rw[←hq]at hg
 clear hp hq;go_enter Tryz.func69,Tryz.ntmps69
 go_wp2_with fail
 refine(isNaN_any a w).mono ?_
 rintro e w1 ⟨rfl,F1⟩;go_wp2_with fail
 refine(isNaN_any b w1).mono ?_
 rintro e w2 ⟨rfl,F2⟩;have HF:=Hi (F1.trans F2);clear F1 F2;cases p with
 |true=>
  have h1:a<b:=of_decide_eq_true HP.out.symm;have HE:=Hi (show cmpL a b=-1 from by unfold cmpL;rw[if_pos h1]);clear h1 hg;go_wp2_with fail
  go_ret;exact⟨by first|rfl|(rw[HE.out];done)|(rw[HE.out];rfl),HF.out⟩
 |false=>
  have h1:¬a<b:=of_decide_eq_false HP.out.symm;have hgt:=fun W=>run_gtr 9 a b W
  rw[←HQ.out]at hgt
  clear hg;cases q with
  |true=>
   have h2:b<a:=of_decide_eq_true HQ.out.symm;have HE:=Hi (show cmpL a b=1 from by unfold cmpL;rw[if_neg h1,if_pos h2]);clear h1 h2;go_wp2_with fail
   go_ret;exact⟨by first|rfl|(rw[HE.out];done)|(rw[HE.out];rfl),HF.out⟩
  |false=>
   have h2:¬b<a:=of_decide_eq_false HQ.out.symm;have HE:=Hi (show cmpL a b=0 from by unfold cmpL;rw[if_neg h1,if_neg h2]);clear h1 h2;go_wp2_with fail
   go_ret;exact⟨by first|rfl|(rw[HE.out];done)|(rw[HE.out];rfl),HF.out⟩
theorem cmpOr_any (b:Nat)(x y r:Int)(hr:r=(if x=0 then y else x))(w:World)(B:Blk w b 3 #[.int .i64 x,.int .i64 y]) :
  Calls Tryz.prog 68 #[.slice (some ⟨b,0,none⟩) 2 2] w fun e w'=>e=.returned (.int .i64 r)∧Fz w w':=by
 have HB:=Hi B;have HR:=Hi hr;clear B hr;go_enter Tryz.func68,Tryz.ntmps68
 go_wp2_with fail
 go_loopg [8] 2 (fun g i wr=>∃ j:Nat,g=2-j∧j≤2∧i=.int .i64 j∧Hid (0<j→x=0)∧Hid (1<j→y=0)∧Fz w wr)
 case atStart=>exact⟨0,rfl,by omega,rfl,Hi (fun h=>absurd h (by omega)),Hi (fun h=>absurd h (by omega)),Fr.refl _⟩
 case round=>
  obtain⟨j,hg,hj,rfl,H0,H1,F⟩:=hrel
  have HG:=Hi hg;have HF:=Hi F;have e0:=(HB.out.fr F (fun h=>h)).cell 0;have e1:=(HB.out.fr F (fun h=>h)).cell 1;simp only[SG]at e0 e1
  clear hg F;rcases (by omega:j=0∨j=1∨j=2) with rfl|rfl|rfl
  ·by_cases hx:x=0
   ·have q1:(x==0)=true:=by simp[hx]
    have q2:(x != 0)=false:=by simp[hx]
    have HX:=Hi hx;clear hx;go_wp2_with fail
    go_roundg (2-1)
    case measure=>rw[HG.out];omega
    case rel=>exact⟨1,rfl,by omega,by go_num,Hi (fun _=>HX.out),Hi (fun h=>absurd h (by omega)),HF.out⟩
   ·have q1:(x==0)=false:=by simp[hx]
    have q2:(x != 0)=true:=by simp[hx]
    have HE:=Hi (show r=x from by rw[HR.out,if_neg hx]);clear hx;go_wp2_with fail
    go_ret;exact⟨by first|rfl|(rw[HE.out];done)|(rw[HE.out];rfl),HF.out⟩
  ·have hx:=H0.out (by omega)
   by_cases hy:y=0
   ·have q1:(y==0)=true:=by simp[hy]
    have q2:(y != 0)=false:=by simp[hy]
    have HY:=Hi hy;have HX:=Hi hx;clear hy hx;go_wp2_with fail
    go_roundg (2-2)
    case measure=>rw[HG.out];omega
    case rel=>exact⟨2,rfl,by omega,by go_num,Hi (fun _=>HX.out),Hi (fun _=>HY.out),HF.out⟩
   ·have q1:(y==0)=false:=by simp[hy]
    have q2:(y != 0)=true:=by simp[hy]
    have HE:=Hi (show r=y from by rw[HR.out,if_pos hx]);clear hy hx;go_wp2_with fail
    go_ret;exact⟨by first|rfl|(rw[HE.out];done)|(rw[HE.out];rfl),HF.out⟩
  ·have hx:=H0.out (by omega)
   have hy:=H1.out (by omega);have HE:=Hi (show r=0 from by rw[HR.out,if_pos hx,hy]);clear hx hy;go_wp2_with fail
   go_ret;exact⟨by first|rfl|(rw[HE.out];done)|(rw[HE.out];rfl),HF.out⟩
theorem order_any (ka kb:List UInt8)(x y:NumT)(a1 a2 b1 b2:Option Addr)(n1 n2 c1 c2 e1 e2:Nat)(d1 d2 r1 r2:Int)(p1 p2:Option Addr)(w:World)(h:Bytes w (.slice a2 x.size.length c2) x.size)(hu:Bytes w (.slice b2 y.size.length e2) y.size)(h1:x.size.length≤10000000000)(h2:y.size.length≤10000000000) :
  Calls Tryz.prog 39 #[.agg #[str ka,.slice a1 n1 c1,.bool x.below,.slice a2 x.size.length c2,.int .i64 d1,.int .i64 r1,.pointer p1],.agg #[str kb,.slice b1 n2 e1,.bool y.below,.slice b2 y.size.length e2,.int .i64 d2,.int .i64 r2,.pointer p2]] w fun e w'=>e=.returned (.int .i64 (if cmpL ka kb=0 then numC x y else cmpL ka kb))∧Fz w w':=by
 obtain⟨r,hr⟩:∃ r,r=(if cmpL ka kb=0 then numC x y else cmpL ka kb):=⟨_,rfl⟩
 have HR:=Hi hr;rw[←hr]
 clear hr;obtain⟨z,hz⟩:∃ z,z=w.heap.size:=⟨_,rfl⟩
 have HZ:=Hi hz;have F0:Fz w ((w.alloc (.cells #[str ka,.slice a1 n1 c1,.bool x.below,.slice a2 x.size.length c2,.int .i64 d1,.int .i64 r1,.pointer p1] 78)).alloc (.cells #[str kb,.slice b1 n2 e1,.bool y.below,.slice b2 y.size.length e2,.int .i64 d2,.int .i64 r2,.pointer p2] 78)):=((Fr.refl w).alloc _).alloc _;have BA:=(Blk.new w 78 #[str ka,.slice a1 n1 c1,.bool x.below,.slice a2 x.size.length c2,.int .i64 d1,.int .i64 r1,.pointer p1]).alloc (.cells #[str kb,.slice b1 n2 e1,.bool y.below,.slice b2 y.size.length e2,.int .i64 d2,.int .i64 r2,.pointer p2] 78)
 have BB:=Blk.new (w.alloc (.cells #[str ka,.slice a1 n1 c1,.bool x.below,.slice a2 x.size.length c2,.int .i64 d1,.int .i64 r1,.pointer p1] 78)) 78 #[str kb,.slice b1 n2 e1,.bool y.below,.slice b2 y.size.length e2,.int .i64 d2,.int .i64 r2,.pointer p2];rw[World.size_alloc,←hz]at BB
 rw[←hz]at BA
 have HC:=Hi (fun W (F:Fz ((w.alloc (.cells #[str ka,.slice a1 n1 c1,.bool x.below,.slice a2 x.size.length c2,.int .i64 d1,.int .i64 r1,.pointer p1] 78)).alloc (.cells #[str kb,.slice b1 n2 e1,.bool y.below,.slice b2 y.size.length e2,.int .i64 d2,.int .i64 r2,.pointer p2] 78)) W)=>wCompare_any x.below y.below _ _ x.size y.size W ((h.old F0).old F) ((hu.old F0).old F) h1 h2);rw[show (⟨x.below,x.size⟩:NumT)=x from rfl,show (⟨y.below,y.size⟩:NumT)=y from rfl]at HC
 have HF0:=Hi F0;clear h hu hz F0 h1 h2;go_enter Tryz.func39,Tryz.ntmps39
 go_upto_region 1 with fail
 rw[←HZ.out]
 generalize ((w.alloc (.cells #[str ka,.slice a1 n1 c1,.bool x.below,.slice a2 x.size.length c2,.int .i64 d1,.int .i64 r1,.pointer p1] 78)).alloc (.cells #[str kb,.slice b1 n2 e1,.bool y.below,.slice b2 y.size.length e2,.int .i64 d2,.int .i64 r2,.pointer p2] 78))=w0 at *
 replace BA:=BA.drew;replace BB:=BB.drew;have G:Fz w0 w0.drew:=(Fr.refl w0).drew;go_region_held3 (fun w'=>(∀ j,w'.cell? ⟨z,j,none⟩=(#[str ka,.slice a1 n1 c1,.bool x.below,.slice a2 x.size.length c2,.int .i64 d1,.int .i64 r1,.pointer p1]:Array Value)[j]?)∧∀ j,w'.cell? ⟨z+1,j,none⟩=(#[str kb,.slice b1 n2 e1,.bool y.below,.slice b2 y.size.length e2,.int .i64 d2,.int .i64 r2,.pointer p2]:Array Value)[j]?) (first|(with_reducible exact⟨BA.cell,BB.cell⟩)|(with_reducible exact⟨(BA.alloc _).cell,(BB.alloc _).cell⟩)|fail) (first
  |(go_at_call 69;refine(cmpStr_any ka kb _).mono ?_;rintro e w' ⟨rfl,F⟩;replace BA:=BA.fr F (fun h=>h);replace BB:=BB.fr F (fun h=>h);replace G:=G.trans F;clear F)
  |(go_at_call 70;(with_reducible refine(HC.out _ G).mono ?_);rintro e w' ⟨rfl,F⟩;replace BA:=BA.fr F (fun h=>h);replace BB:=BB.fr F (fun h=>h);replace G:=G.trans F;clear F HC;have BO:=Blk.new w' 3 #[.int .i64 (cmpL ka kb),.int .i64 (numC x y)];have GO:=G.alloc (.cells #[.int .i64 (cmpL ka kb),.int .i64 (numC x y)] 3);have HO:=Hi (cmpOr_any _ (cmpL ka kb) (numC x y) r HR.out _ BO);clear BO)
  |(go_at_call 68;refine HO.out.mono ?_;rintro e w2 ⟨rfl,F⟩;replace BA:=(BA.alloc (.cells #[.int .i64 (cmpL ka kb),.int .i64 (numC x y)] 3)).fr F (fun h=>h);replace BB:=(BB.alloc (.cells #[.int .i64 (cmpL ka kb),.int .i64 (numC x y)] 3)).fr F (fun h=>h);have GE:=GO.trans F;clear F HO GO)
  |fail)
 all_goals
  have HGE:=Hi (HF0.out.trans GE);clear GE G BA BB;go_wp2_with fail
  go_ret;exact⟨rfl,HGE.out⟩
theorem orderSlots_any (cs ds:List Value)(r q:RowP)(w:World)(h:RSlot w cs r)(hu:RSlot w ds q)(h1:r.num.size.length≤1000000)(h2:q.num.size.length≤1000000) :
  Calls Tryz.prog 39 #[.agg cs.toArray,.agg ds.toArray] w fun e w'=>e=.returned (.int .i64 (rowC r q))∧Fz w w':=by
 obtain⟨us,rfl,g1⟩:=h
 obtain⟨vs,rfl,g2⟩:=hu
 obtain⟨a1,c1,a2,c2,q1,rfl,-,b1,-⟩:=g1.form
 obtain⟨d1,e1,d2,e2,q2,rfl,-,b2,-⟩:=g2.form
 rw[rowC_keys]
 exact order_any _ _ r.num q.num _ _ _ _ _ _ _ _ _ _ _ _ _ _ _ _ w b1 b2 (by omega) (by omega)
theorem seven_of {l:List Value}(h:l.length=7):∃ a b c d e f g,l=[a,b,c,d,e,f,g]:=by
 match l,h with
 | [a,b,c,d,e,f,g],_=>exact⟨a,b,c,d,e,f,g,rfl⟩
theorem insSort_any (v:Value)(l:List RowP)(base:Nat)(K:Nat→Prop)(w:World)(h:GRow 7 RSlot K 78 w base v l)(hl:l.length≤12)(hs:∀ r∈l,r.num.size.length≤1000000) :
  Calls Tryz.prog 98 #[v,.int .i64 0,.int .i64 l.length,.func (.func 39) #[] #[]] w fun e w'=>e=.returned (.tuple #[])∧(∃ s,s.Perm l∧Upw ltK rowK s∧GRow 7 RSlot K 78 w' base v s)∧Fr (fun k=>v.ownBlock=some k) w w':=by
 obtain⟨a,c,rfl⟩:=h.shape
 have H:=Hi h;have HS:=Hi hs;clear h hs;go_enter Tryz.func98,Tryz.ntmps98
 go_wp2_with fail
 go_loopg [8] l.length (fun g ii wr=>∃ (q:Nat) (s:List RowP),g=l.length-q∧q≤1000∧ii=.int .i64 ((q:Int)+1)∧Hid (s.Perm (l.take (q+1)))∧Hid (Upw ltK rowK s)∧Hid (GRow 7 RSlot K 78 wr base (.slice a l.length c) (s++l.drop (q+1)))∧Hid (Fr (fun k=>(Value.slice a l.length c).ownBlock=some k) w wr))
 case atStart=>
  refine⟨0,l.take 1,rfl,by omega,rfl,Hi (List.Perm.refl _),Hi ?_,Hi (by rw[List.take_append_drop];exact H.out),Hi (Fr.refl _)⟩
  cases l with
  |nil=>exact List.Pairwise.nil
  |cons x t=>exact List.pairwise_singleton _ _
 case round=>
  obtain⟨q,s,hg,hq,rfl,HP,HU,HGR,HF⟩:=hrel
  have HG:=Hi hg;clear hg;generalize wr=w1 at *
  by_cases hql:q+1<l.length
  ·have q1:(q:Int)+1<(l.length:Int):=by omega
   obtain⟨x,hx⟩:∃ x,l[q+1]? = some x:=⟨_,List.getElem?_eq_getElem hql⟩
   have HX:=Hi hx;have hd:l.drop (q+1)=x::l.drop (q+1+1):=by
    rw[List.drop_eq_getElem_cons hql]
    rw[List.getElem?_eq_getElem hql,Option.some.injEq]at hx
    rw[hx]
   have HD:=Hi hd;have hxm:=List.mem_of_getElem? hx;have hsx:=HS.out x hxm;have hsl:s.length=q+1:=by
    have:=HP.out.length_eq;rw[List.length_take]at this
    omega
   have HSL:=Hi hsl;clear hx hd hsl hxm;go_wp2_with fail
   go_loopg [9] (q+1) (fun g jj wx=>∃ (P Q:List RowP),g=P.length∧jj=.int .i64 P.length∧P.length+Q.length=q+1∧Hid ((P++x::Q).Perm (l.take (q+1+1)))∧Hid (Mid ltK rowK P x Q)∧Hid (GRow 7 RSlot K 78 wx base (.slice a l.length c) (P++x::(Q++l.drop (q+1+1))))∧Hid (Fr (fun k=>(Value.slice a l.length c).ownBlock=some k) w wx))
   case atStart=>
    have hsl:=HSL.out;refine⟨s,[],hsl.symm,by rw[hsl];rfl,by rw[hsl];rfl,Hi ?_,Hi (mid_start x HU.out),Hi ?_,HF⟩
    ·rw[List.take_add_one,HX.out]
     exact HP.out.append_right [x]
    ·have:=HGR.out
     rw[HD.out]at this
     exact this
   case round=>
    obtain⟨P,Q,hg2,rfl,hPQ,HP2,HM,HG2,HF2⟩:=hrel
    have HGM:=Hi hg2;clear hg2;have HNX:=Hi (fun (hp:∀ p,P.getLast? = some p→ltK (rowK x) (rowK p)=false)=>show (P++x::Q).Perm (l.take (q+1+1))∧Upw ltK rowK (P++x::Q) from ⟨HP2.out,mid_end ordK HM.out hp⟩);rcases List.eq_nil_or_concat P with rfl|⟨P',p,hPe⟩
    ·have c1:decide ((0:Int)<0)=false:=rfl
     have HFD:=Hi (fun k=>HF2.out.drewN (S:=fun k=>(Value.slice a l.length c).ownBlock=some k) k);have HGD:=Hi (fun k=>HG2.out.old ((Fr.refl wr).drewN (S:=fun _=>False) k));go_upto_region 4 with fail
     go_quiet (fail)
     go_wp2_with fail
     go_roundg (l.length-(q+1))
     case measure=>rw[HG.out];omega
     case rel=>exact⟨q+1,[]++x::Q,rfl,by omega,by go_num,Hi (HNX.out (fun p hp=>by cases hp)).1,Hi (HNX.out (fun p hp=>by cases hp)).2,Hi (by have:=HGD.out nq;simp only[List.append_assoc,List.cons_append,List.nil_append]at this ⊢;exact this),Hi (HFD.out nq)⟩
    ·rw[List.concat_eq_append]at hPe
     subst hPe;obtain⟨m,hm⟩:∃ m,m=P'.length:=⟨_,rfl⟩
     have hpl:(P'++[p]).length=m+1:=by rw[List.length_append,hm];rfl
     have hg3:=HG2.out;rw[List.append_assoc,List.singleton_append]at hg3
     obtain⟨g,cg,us,vs,hv,u1,v1,ku,kv,eu,ev,fz,hsw⟩:=hg3.swap7
     simp only[Value.slice.injEq]at hv
     obtain⟨rfl,hln,rfl⟩:=hv
     rw[←hm]at eu ev hsw
     have hsp:=HS.out p (by
      have:p∈l.take (q+1+1):=HP2.out.mem_iff.1 (by simp);exact List.mem_of_mem_take this)
     have HC:=Hi (fun W (F:Fz wr W)=>orderSlots_any vs us x p W (kv.old F).now (ku.old F).now hsx hsp);have HSW:=Hi hsw;obtain⟨k,hk⟩:∃ k,k=rowC x p:=⟨_,rfl⟩
     rw[←hk]at HC
     have HK:=Hi hk;obtain⟨us',hus,hpr⟩:=ku.now
     obtain⟨ks,hks⟩:∃ ks,str (nameKeyS p.iss)=.string ks:=⟨_,rfl⟩
     rw[hks]at hus
     obtain⟨e1,e2,e3,e4,e5,he,-⟩:=hpr.form
     subst he;subst hus;obtain⟨vs',hvs,hpr'⟩:=kv.now
     obtain⟨ls,hls⟩:∃ ls,str (nameKeyS x.iss)=.string ls:=⟨_,rfl⟩
     rw[hls]at hvs
     obtain⟨d1,d2,d3,d4,d5,he,-⟩:=hpr'.form
     subst he;subst hvs;clear hks hls hpr hpr';have HFZ:=Hi fz;have HPL:=Hi hm
     have hE:∀ W,Fz wr W→(W.cell? ⟨g,m*7,none⟩=some (.string ks)∧W.cell? ⟨g,m*7+1,none⟩=some (.slice e1 p.iss.length e2)∧W.cell? ⟨g,m*7+2,none⟩=some (.bool p.num.below)∧W.cell? ⟨g,m*7+3,none⟩=some (.slice e3 p.num.size.length e4)∧W.cell? ⟨g,m*7+4,none⟩=some (.int .i64 p.date)∧W.cell? ⟨g,m*7+5,none⟩=some (.int .i64 p.reason)∧W.cell? ⟨g,m*7+6,none⟩=some (.pointer e5))∧(W.cell? ⟨g,(m+1)*7,none⟩=some (.string ls)∧W.cell? ⟨g,(m+1)*7+1,none⟩=some (.slice d1 x.iss.length d2)∧W.cell? ⟨g,(m+1)*7+2,none⟩=some (.bool x.num.below)∧W.cell? ⟨g,(m+1)*7+3,none⟩=some (.slice d3 x.num.size.length d4)∧W.cell? ⟨g,(m+1)*7+4,none⟩=some (.int .i64 x.date)∧W.cell? ⟨g,(m+1)*7+5,none⟩=some (.int .i64 x.reason)∧W.cell? ⟨g,(m+1)*7+6,none⟩=some (.pointer d5)):=fun W F=>
      ⟨⟨F.cell (eu 0 _ rfl) (fun h=>h),F.cell (eu 1 _ rfl) (fun h=>h),F.cell (eu 2 _ rfl) (fun h=>h),F.cell (eu 3 _ rfl) (fun h=>h),F.cell (eu 4 _ rfl) (fun h=>h),F.cell (eu 5 _ rfl) (fun h=>h),F.cell (eu 6 _ rfl) (fun h=>h)⟩,F.cell (ev 0 _ rfl) (fun h=>h),F.cell (ev 1 _ rfl) (fun h=>h),F.cell (ev 2 _ rfl) (fun h=>h),F.cell (ev 3 _ rfl) (fun h=>h),F.cell (ev 4 _ rfl) (fun h=>h),F.cell (ev 5 _ rfl) (fun h=>h),F.cell (ev 6 _ rfl) (fun h=>h)⟩
     have HEE:=Hi hE;have hml:m+1<l.length:=by omega
     have HML:=Hi hln;rw[hpl] at *
     have c0:decide ((0:Int)<(m:Int)+1)=true:=decide_eq_true (by omega);have c3:(0:Int)≤(m:Int):=by omega
     have c4:(m:Int)<(l.length:Int):=by omega
     have c5:(0:Int)≤(m:Int)+1:=by omega
     have c6:(m:Int)+1<(l.length:Int):=by omega
     have c7:((m:Int)+1).toNat=m+1:=by omega
     have hw1:IntKind.i64.wrap ((m:Int)+1-1)=(m:Int):=by simp[IntKind.wrap,IntKind.signed,IntKind.bits];omega
     have hw2:IntKind.i64.wrap (m:Int)=(m:Int):=by simp[IntKind.wrap,IntKind.signed,IntKind.bits];omega
     have HFD:=Hi ((Fr.refl wr).drew:Fz wr wr.drew);clear hk eu ev hsw ku kv fz hg3 hE hln hm;by_cases hlt:k<0
     ·have c1:decide (k<0)=true:=decide_eq_true hlt
      have HLT:=Hi (show ltK (rowK x) (rowK p)=true from rowC_neg.1 (by rw[←HK.out];exact hlt));clear hlt;go_upto_region 4 with fail
      go_region_held3 (fun w'=>(w'.cell? ⟨g,m*7,none⟩=some (.string ks)∧w'.cell? ⟨g,m*7+1,none⟩=some (.slice e1 p.iss.length e2)∧w'.cell? ⟨g,m*7+2,none⟩=some (.bool p.num.below)∧w'.cell? ⟨g,m*7+3,none⟩=some (.slice e3 p.num.size.length e4)∧w'.cell? ⟨g,m*7+4,none⟩=some (.int .i64 p.date)∧w'.cell? ⟨g,m*7+5,none⟩=some (.int .i64 p.reason)∧w'.cell? ⟨g,m*7+6,none⟩=some (.pointer e5))∧w'.cell? ⟨g,(m+1)*7,none⟩=some (.string ls)∧w'.cell? ⟨g,(m+1)*7+1,none⟩=some (.slice d1 x.iss.length d2)∧w'.cell? ⟨g,(m+1)*7+2,none⟩=some (.bool x.num.below)∧w'.cell? ⟨g,(m+1)*7+3,none⟩=some (.slice d3 x.num.size.length d4)∧w'.cell? ⟨g,(m+1)*7+4,none⟩=some (.int .i64 x.date)∧w'.cell? ⟨g,(m+1)*7+5,none⟩=some (.int .i64 x.reason)∧w'.cell? ⟨g,(m+1)*7+6,none⟩=some (.pointer d5)) (first|(with_reducible exact HEE.out _ HFD.out)|(with_reducible exact HEE.out _ (HFD.out.trans F2))|fail) (first
       |(go_at_call 39;(with_reducible refine(HC.out _ HFD.out).mono ?_);rintro e w2 ⟨rfl,F2⟩)
       |fail)
      all_goals
       have HF3:=Hi (HFD.out.trans F2);have HF4:=Hi ((HFD.out.trans F2).drew);obtain⟨⟨y0,y1,y2,y3,y4,y5,y6⟩,y7,y8,y9,y10,y11,y12,y13⟩:=HEE.out _ HF4.out
       have fzz:=HFZ.out _ HF4.out;have f0:=fzz (m*7);have f1:=fzz (m*7+1);have f2:=fzz (m*7+2);have f3:=fzz (m*7+3);have f4:=fzz (m*7+4);have f5:=fzz (m*7+5);have f6:=fzz (m*7+6);have f7:=fzz ((m+1)*7);have f8:=fzz ((m+1)*7+1);have f9:=fzz ((m+1)*7+2);have f10:=fzz ((m+1)*7+3);have f11:=fzz ((m+1)*7+4);have f12:=fzz ((m+1)*7+5);have f13:=fzz ((m+1)*7+6);have gzz:=HFZ.out _ HF3.out;have g0:=gzz (m*7);have g1:=gzz (m*7+1);have g2:=gzz (m*7+2);have g3:=gzz (m*7+3);have g4:=gzz (m*7+4);have g5:=gzz (m*7+5);have g6:=gzz (m*7+6);have g7:=gzz ((m+1)*7);have g8:=gzz ((m+1)*7+1);have g9:=gzz ((m+1)*7+2)
       have g10:=gzz ((m+1)*7+3);have g11:=gzz ((m+1)*7+4);have g12:=gzz ((m+1)*7+5);have g13:=gzz ((m+1)*7+6);have hsA:=HSW.out _ HF3.out _ (.inl rfl);simp only[putL,Nat.add_assoc,Nat.reduceAdd]at hsA
       have HSA:=Hi hsA;clear F2 fzz gzz hsA HC;go_upto_region 6 with fail
       go_region_law fail
       all_goals
        clear y0 y1 y2 y3 y4 y5 y6 y7 y8 y9 y10 y11 y12 y13 f0 f1 f2 f3 f4 f5 f6 f7 f8 f9 f10 f11 f12 f13 g0 g1 g2 g3 g4 g5 g6 g7 g8 g9 g10 g11 g12 g13;have HGX:=Hi (HSA.out.1.old ((Fr.refl _).drew));have HFX:=Hi ((HF2.out.trans (HF3.out.mono (T:=fun k=>(Value.slice (some ⟨g,0,none⟩) l.length c).ownBlock=some k) (fun _ _ h=>h.elim))).trans ((HSA.out.2.mono (T:=fun k=>(Value.slice (some ⟨g,0,none⟩) l.length c).ownBlock=some k) (fun k _ e=>by rw[e];rfl)).drew));clear HSA;go_wp2_with fail
        go_roundg m
        case measure=>have:=HPL.out;have:=HGM.out;simp only[List.length_append,List.length_singleton] at *;omega
        case rel=>exact⟨P',p::Q,HPL.out,by first|(rw[←HPL.out];done)|(rw[←HPL.out];go_num),by have:=HPL.out;simp only[List.length_append,List.length_cons,List.length_nil]at hPQ ⊢;omega,Hi ((List.Perm.append_left P' (List.Perm.swap p x Q)).trans (by have:=HP2.out;rw[List.append_assoc]at this;exact this)),Hi (mid_step HM.out HLT.out),HGX,HFX⟩
     ·have c1:decide (k<0)=false:=decide_eq_false hlt
      have HLT:=Hi (show ltK (rowK x) (rowK p)=false from by
       cases h:ltK (rowK x) (rowK p) with
       |false=>rfl
       |true=>exact absurd (by rw[HK.out];exact rowC_neg.2 h) hlt)
      clear hlt;go_upto_region 4 with fail
      go_region_held3 (fun w'=>(w'.cell? ⟨g,m*7,none⟩=some (.string ks)∧w'.cell? ⟨g,m*7+1,none⟩=some (.slice e1 p.iss.length e2)∧w'.cell? ⟨g,m*7+2,none⟩=some (.bool p.num.below)∧w'.cell? ⟨g,m*7+3,none⟩=some (.slice e3 p.num.size.length e4)∧w'.cell? ⟨g,m*7+4,none⟩=some (.int .i64 p.date)∧w'.cell? ⟨g,m*7+5,none⟩=some (.int .i64 p.reason)∧w'.cell? ⟨g,m*7+6,none⟩=some (.pointer e5))∧w'.cell? ⟨g,(m+1)*7,none⟩=some (.string ls)∧w'.cell? ⟨g,(m+1)*7+1,none⟩=some (.slice d1 x.iss.length d2)∧w'.cell? ⟨g,(m+1)*7+2,none⟩=some (.bool x.num.below)∧w'.cell? ⟨g,(m+1)*7+3,none⟩=some (.slice d3 x.num.size.length d4)∧w'.cell? ⟨g,(m+1)*7+4,none⟩=some (.int .i64 x.date)∧w'.cell? ⟨g,(m+1)*7+5,none⟩=some (.int .i64 x.reason)∧w'.cell? ⟨g,(m+1)*7+6,none⟩=some (.pointer d5)) (first|(with_reducible exact HEE.out _ HFD.out)|(with_reducible exact HEE.out _ (HFD.out.trans F2))|fail) (first
       |(go_at_call 39;(with_reducible refine(HC.out _ HFD.out).mono ?_);rintro e w2 ⟨rfl,F2⟩)
       |fail)
      all_goals
       have HF3:=Hi (HFD.out.trans F2);clear F2 HC;go_wp2_with fail
       go_roundg (l.length-(q+1))
       case measure=>rw[HG.out];omega
       case rel=>exact⟨q+1,(P'++[p])++x::Q,rfl,by omega,by go_num,Hi (HNX.out (fun p' hp=>by simp at hp;subst hp;exact HLT.out)).1,Hi (HNX.out (fun p' hp=>by simp at hp;subst hp;exact HLT.out)).2,Hi (by have:=HG2.out.old HF3.out;simp only[List.append_assoc,List.cons_append,List.nil_append]at this ⊢;exact this),Hi (HF2.out.trans (HF3.out.mono (fun _ _ h=>h.elim)))⟩
  ·have HE:=Hi (show s.Perm l from by have:=HP.out;rwa[List.take_of_length_le (by omega)]at this)
   have HGE:=HGR.out;rw[List.drop_eq_nil_of_le (by omega),List.append_nil]at HGE
   replace HGE:=Hi HGE;have q1:¬(q:Int)+1<(l.length:Int):=by omega
   go_wp2_with fail
   go_end0
   exact⟨rfl,⟨s,HE.out,HU.out,HGE.out⟩,HF.out⟩
theorem slots_any (v:Value)(l:List RowP)(w:World)(h:IxAt w v l) :
  Calls Tryz.prog 45 #[v] w fun e w'=>(∃ a c,e=.returned (.slice a l.length c)∧Slots w (.slice a l.length c) l)∧Fz w w':=by
 rcases h with ⟨rfl,rfl⟩|⟨b,u,rfl,hc,hs⟩
 ·go_enter Tryz.func45,Tryz.ntmps45
  go_wp2_with fail
  go_ret;exact⟨⟨none,0,rfl,none,0,rfl,Nat.le_refl _,by unfold maxLen;omega,fun h=>absurd h (by decide)⟩,Fr.refl w⟩
 ·have hs0:=hs
  obtain⟨a,c,rfl,-⟩:=hs0
  have HS:=Hi hs;clear hs;go_enter Tryz.func45,Tryz.ntmps45
  go_wp2_with fail
  go_ret;exact⟨⟨a,c,rfl,HS.out⟩,Fr.refl w⟩
end Go.Proofs.YtehlipgmkinfbaaGreatDoor
