/-
  Merged by program: XIxIns XIxSwap XIxIns2 XIxSideI XIxSeq XIxSdA XIxSd XIxSide2.
-/
import Derived.Test.YtehlipgmkinfbaaGreatDoorN0aq
import Derived.Sort.QuietIn
import Derived.Sort.QuietTacIn
import Derived.Sort.CutIn
set_option linter.unusedSimpArgs false
set_option maxRecDepth 100000
set_option maxHeartbeats 8000000
namespace Go.Q
section
variable {α κ:Type}{lt:κ→κ→Bool}{key:α→κ}
theorem Ord3.nlt (ho:Ord3 lt){a b c:κ}(h1:lt b a=false)(h2:lt c b=false):lt c a=false:=by
 cases h:lt c a with
 |false=>rfl
 |true=>
  rcases ho.tot a b with e|e|e
  ·have:=ho.tr _ _ _ h e
   rw[h2]at this;cases this
  ·subst e
   rw[h2]at h;cases h
  ·rw[h1]at e;cases e
def Mid (lt:κ→κ→Bool)(key:α→κ)(P:List α)(x:α)(Q:List α):Prop:=Upw lt key (P++Q)∧∀ q∈Q,lt (key x) (key q)=true
theorem mid_start {P:List α}(x:α)(h:Upw lt key P):Mid lt key P x []:=⟨by rwa[List.append_nil],fun q hq=>by cases hq⟩
theorem mid_step {P Q:List α}{p x:α}(h:Mid lt key (P++[p]) x Q)(hx:lt (key x) (key p)=true):Mid lt key P x (p::Q):=by
 obtain⟨h1,h2⟩:=h
 rw[List.append_assoc]at h1
 refine⟨h1,fun q hq=>?_⟩
 rcases List.mem_cons.1 hq with e|e
 ·rw[e];exact hx
 ·exact h2 q e
theorem mid_end (ho:Ord3 lt){P Q:List α}{x:α}(h:Mid lt key P x Q)(hx:∀ p,P.getLast? = some p→lt (key x) (key p)=false):Upw lt key (P++x::Q):=by
 obtain⟨h1,h2⟩:=h
 have g:=List.pairwise_append.1 h1;refine List.pairwise_append.2 ⟨g.1,List.pairwise_cons.2 ⟨fun q hq=>ho.asym (h2 q hq),g.2.1⟩,fun a ha b hb=>?_⟩;rcases List.mem_cons.1 hb with e|e
 ·subst e
  rcases List.eq_nil_or_concat P with e2|⟨P',p,e2⟩
  ·rw[e2]at ha;cases ha
  ·rw[List.concat_eq_append]at e2
   have hp:=hx p (by rw[e2];simp);rw[e2]at ha
   rcases List.mem_append.1 ha with h3|h3
   ·have hw:=g.1
    rw[e2]at hw
    have:=(List.pairwise_append.1 hw).2.2 a h3 p (by simp);exact ho.nlt this hp
   ·rw[List.mem_singleton]at h3
    rw[h3];exact hp
 ·exact g.2.2 a ha b e
end
open Go Go.RowKit
theorem putL_mid {t:TypeId}{z:Nat}:∀ (l mid post pre:List Value) (W:World) (cs:Array Value),Blk W z t cs→cs.toList=pre++(mid++post)→mid.length=l.length→Blk (putL W z pre.length l) z t (pre++(l++post)).toArray∧Fr (fun k=>k=z) W (putL W z pre.length l)
 | [],mid,post,pre,W,cs,h,he,hl=>by
  have hr:mid=[]:=List.length_eq_zero_iff.1 hl;subst hr;have hc:cs=(pre++([]++post)).toArray:=by rw[←he]
  rw[←hc]
  exact⟨h,Fr.refl W⟩
 |v::l,mid,post,pre,W,cs,h,he,hl=>by
  match mid,hl with
  |x::mid,hl=>
   have h1:=h.set pre.length v;have h2:=setL_take (v:=v) he;have h3:=putL_mid l mid post (pre++[v]) _ _ h1 h2 (by simpa using hl);rw[List.length_append,List.length_singleton,List.append_assoc]at h3
   exact⟨h3.1,(Fr.setCell (S:=fun k=>k=z) (p:=⟨z,pre.length,none⟩) (Fr.refl W) (fun _=>rfl) v).trans h3.2⟩
theorem seg_of {cs us:List Value}{k n:Nat}(hn:us.length=n)(h:∀ j u,us[j]? = some u→cs[k+j]? = some u):(cs.drop k).take n=us:=by
 refine List.ext_getElem? (fun j=>?_);rw[List.getElem?_take]
 by_cases hj:j<n
 ·rw[if_pos hj,List.getElem?_drop]
  have hu:=List.getElem?_eq_getElem (l:=us) (i:=j) (by omega);rw[hu]
  exact h j _ hu
 ·rw[if_neg hj,List.getElem?_eq_none (by omega)]
theorem seg_split {cs us:List Value}{k n:Nat}(hn:us.length=n)(h:∀ j u,us[j]? = some u→cs[k+j]? = some u):cs=cs.take k++(us++cs.drop (k+n)):=by
 rw[←seg_of hn h,←List.drop_drop,List.take_append_drop,List.take_append_drop]
section
variable {α:Type}{sz:Nat}{R:World→List Value→α→Prop}{K:Nat→Prop}{t:TypeId}{w:World}{base:Nat}{v:Value}{p q:List α}{x y:α}
theorem GRow.swap (h:GRow sz R K t w base v (p++x::y::q)):∃ g c us vs,v=.slice (some ⟨g,0,none⟩) (p++x::y::q).length c∧us.length=sz∧vs.length=sz∧Kept (fun W=>R W us x) (fun k=>v.ownBlock=some k∨K k) w∧Kept (fun W=>R W vs y) (fun k=>v.ownBlock=some k∨K k) w∧(∀ j u,us[j]? = some u→w.cell? ⟨g,sz*p.length+j,none⟩=some u)∧(∀ j u,vs[j]? = some u→w.cell? ⟨g,sz*(p.length+1)+j,none⟩=some u)∧(∀ W,Fz w W→∀ i,W.frozen? ⟨g,i,none⟩=false)∧∀ W,Fz w W→∀ W',(W'=putL (putL W g (sz*(p.length+1)) us) g (sz*p.length) vs∨W'=putL (putL W g (sz*p.length) vs) g (sz*(p.length+1)) us)→GRow sz R K t W' base v (p++y::x::q)∧Fr (fun k=>k=g) W W':=by
 obtain⟨cs,⟨h1,h2⟩,h3⟩:=h
 have hlen:(p++x::y::q).length=p.length+(q.length+2):=by simp
 rcases h2 with ⟨-,h0⟩|⟨g,cap,cur,rfl,hg,hh,hnc,hcm,hcs,htk⟩
 ·omega
 ·obtain⟨us,u1,u2,u3⟩:=h3 p.length x (by simp)
  obtain⟨vs,v1,v2,v3⟩:=h3 (p.length+1) y (by simp)
  have hA:(cs.take (sz*p.length)).length=sz*p.length:=by
   rw[List.length_take,h1,hlen,Nat.add_mul,Nat.mul_comm sz]
   omega
  have hcur:cur.toList=cs++cur.toList.drop ((p++x::y::q).length*sz):=by rw[←htk,List.take_append_drop]
  have s1:=seg_split u1 u2;have s2:cs.drop (sz*p.length+sz)=vs++cs.drop (sz*p.length+sz+sz):=by
   have:=seg_split (cs:=cs.drop (sz*p.length+sz)) (k:=0) v1 (fun j u hu=>by
    rw[List.getElem?_drop,Nat.zero_add]
    have:=v2 j u hu;rwa[Nat.mul_add,Nat.mul_one]at this)
   rw[List.take_zero,List.nil_append,Nat.zero_add,List.drop_drop]at this
   exact this
  obtain⟨A,hAe⟩:∃ A,A=cs.take (sz*p.length):=⟨_,rfl⟩
  obtain⟨B,hBe⟩:∃ B,B=cs.drop (sz*p.length+sz+sz):=⟨_,rfl⟩
  obtain⟨D,hDe⟩:∃ D,D=cur.toList.drop ((p++x::y::q).length*sz):=⟨_,rfl⟩
  rw[s2,←hAe,←hBe]at s1
  rw[←hDe,s1]at hcur
  rw[←hAe]at hA
  have hcell:∀ m u,cs[m]? = some u→w.cell? ⟨g,m,none⟩=some u:=fun m u hu=>by
   have hm:=(List.getElem?_eq_some_iff.1 hu).1;have:=congrArg (fun z:List Value=>z[m]?) htk;simp only[List.getElem?_take,if_pos (show m<(p++x::y::q).length*sz by omega),Array.getElem?_toList]at this
   simp only[World.cell?,hh]
   exact this.trans hu
  have hB:Blk w g t cur:=hh;have o1:∀ W,Blk W g t cur→∀ W',(W'=putL (putL W g (sz*(p.length+1)) us) g (sz*p.length) vs∨W'=putL (putL W g (sz*p.length) vs) g (sz*(p.length+1)) us)→Blk W' g t (A++(vs++(us++(B++D)))).toArray∧Fr (fun k=>k=g) W W':=by
   intro W hB W' hW;rcases hW with rfl|rfl
   ·have b1:=putL_mid us vs (B++D) (A++us) W cur hB (by rw[hcur];simp only[List.append_assoc]) (by rw[u1,v1])
    rw[List.length_append,hA,u1,show sz*p.length+sz=sz*(p.length+1) by rw[Nat.mul_add,Nat.mul_one]]at b1
    have b2:=putL_mid vs us (us++(B++D)) A _ _ b1.1 (by simp only[List.append_assoc]) (by rw[u1,v1]);rw[hA]at b2
    exact⟨b2.1,b1.2.trans b2.2⟩
   ·have b1:=putL_mid vs us (vs++(B++D)) A W cur hB (by rw[hcur];simp only[List.append_assoc]) (by rw[u1,v1])
    rw[hA]at b1
    have b2:=putL_mid us vs (B++D) (A++vs) _ _ b1.1 (by simp only[List.append_assoc]) (by rw[u1,v1]);rw[List.length_append,hA,v1,show sz*p.length+sz=sz*(p.length+1) by rw[Nat.mul_add,Nat.mul_one]]at b2
    refine⟨?_,b1.2.trans b2.2⟩
    have:=b2.1;simp only[List.append_assoc]at this
    exact this
  refine⟨g,cap,us,vs,rfl,u1,v1,u3,v3,fun j u hu=>hcell _ _ (u2 j u hu),fun j u hu=>hcell _ _ (v2 j u hu),fun W F=>(hB.fr F (fun h=>h)).frozen,fun W F W' hW=>?_⟩
  obtain⟨b1,b2⟩:=o1 W (hB.fr F (fun h=>h)) W' hW
  refine⟨⟨A++(vs++(us++B)),⟨?_,.inr ⟨g,cap,_,?_,hg,b1,?_,hcm,?_,?_⟩⟩,?_⟩,b2⟩
  ·have:=congrArg List.length s1
   simp only[List.length_append,u1,v1,List.length_cons]at this h1 ⊢
   omega
  ·simp
  ·simp only[List.length_append,List.length_cons]at hnc ⊢
   exact hnc
  ·have hc:=congrArg List.length hcur
   rw[Array.length_toList,hcs]at hc
   simp only[List.size_toArray,List.length_append,u1,v1]at hc ⊢
   omega
  ·have hs1:=congrArg List.length s1
   simp only[List.length_append,u1,v1,List.length_cons]at hs1 h1
   have e1:(A++(vs++(us++(B++D))))=(A++(vs++(us++B)))++D:=by simp only[List.append_assoc]
   show (A++(vs++(us++(B++D)))).take _=_
   rw[e1]
   refine List.take_left' ?_;simp only[List.length_append,u1,v1,List.length_cons]
   omega
  ·intro i z hz
   have stepK:∀ {cs:List Value}{z:α},Kept (fun W=>R W cs z) (fun k=>(Value.slice (some ⟨g,0,none⟩) (p++x::y::q).length cap).ownBlock=some k∨K k) w→Kept (fun W=>R W cs z) (fun k=>(Value.slice (some ⟨g,0,none⟩) (p++x::y::q).length cap).ownBlock=some k∨K k) W':=fun h=>
    (h.old F).step b2 (fun k _ e=>.inl (by rw[e];rfl)) (fun k hk=>.inl hk)
   rcases Nat.lt_trichotomy i p.length with hi|hi|hi
   ·rw[List.getElem?_append_left hi]at hz
    obtain⟨es,e1,e2,e3⟩:=h3 i z (by rw[List.getElem?_append_left hi];exact hz)
    refine⟨es,e1,fun j u hu=>?_,stepK e3⟩
    have hj:j<sz:=by rw[←e1];exact(List.getElem?_eq_some_iff.1 hu).1
    have hlt:sz*i+j<A.length:=by
     have:sz*(i+1)≤sz*p.length:=Nat.mul_le_mul_left _ hi;rw[Nat.mul_add,Nat.mul_one]at this
     omega
    have:=e2 j u hu;rw[s1,List.getElem?_append_left hlt]at this
    rw[List.getElem?_append_left hlt]
    exact this
   ·subst hi
    rw[List.getElem?_append_right (Nat.le_refl _),Nat.sub_self,List.getElem?_cons_zero]at hz
    obtain rfl:=Option.some.inj hz
    refine⟨vs,v1,fun j u hu=>?_,stepK v3⟩
    rw[List.getElem?_append_right (by omega),hA,Nat.add_sub_cancel_left,List.getElem?_append_left (List.getElem?_eq_some_iff.1 hu).1]
    exact hu
   ·rcases Nat.lt_or_ge (p.length+1) i with h4|h4
    ·rw[List.getElem?_append_right (by omega),show i-p.length=(i-p.length-2)+1+1 by omega,List.getElem?_cons_succ,List.getElem?_cons_succ]at hz
     obtain⟨es,e1,e2,e3⟩:=h3 i z (by rw[List.getElem?_append_right (by omega),show i-p.length=(i-p.length-2)+1+1 by omega,List.getElem?_cons_succ,List.getElem?_cons_succ];exact hz)
     refine⟨es,e1,fun j u hu=>?_,stepK e3⟩
     have:=e2 j u hu;have hge:sz*p.length+(sz+sz)≤sz*i+j:=by
      have:sz*(p.length+2)≤sz*i:=Nat.mul_le_mul_left _ h4;rw[Nat.mul_add]at this
      omega
     rw[s1,List.getElem?_append_right (by omega),List.getElem?_append_right (by omega),List.getElem?_append_right (by omega)]at this
     rw[List.getElem?_append_right (by omega),List.getElem?_append_right (by omega),List.getElem?_append_right (by omega)]
     rw[u1,v1] at *
     exact this
    ·obtain rfl:i=p.length+1:=by omega
     rw[List.getElem?_append_right (by omega),show p.length+1-p.length=0+1 by omega,List.getElem?_cons_succ,List.getElem?_cons_zero]at hz
     obtain rfl:=Option.some.inj hz
     refine⟨us,u1,fun j u hu=>?_,stepK u3⟩
     rw[Nat.mul_add,Nat.mul_one,List.getElem?_append_right (by omega),List.getElem?_append_right (by omega),List.getElem?_append_left (by rw[v1,hA];have:=(List.getElem?_eq_some_iff.1 hu).1;omega),v1,hA,show sz*p.length+sz+j-sz*p.length-sz=j by omega]
     exact hu
theorem GRow.swap7 {R:World→List Value→α→Prop}(h:GRow 7 R K t w base v (p++x::y::q)):∃ g c us vs,v=.slice (some ⟨g,0,none⟩) (p++x::y::q).length c∧us.length=7∧vs.length=7∧Kept (fun W=>R W us x) (fun k=>v.ownBlock=some k∨K k) w∧Kept (fun W=>R W vs y) (fun k=>v.ownBlock=some k∨K k) w∧(∀ j u,us[j]? = some u→w.cell? ⟨g,p.length*7+j,none⟩=some u)∧(∀ j u,vs[j]? = some u→w.cell? ⟨g,(p.length+1)*7+j,none⟩=some u)∧(∀ W,Fz w W→∀ i,W.frozen? ⟨g,i,none⟩=false)∧∀ W,Fz w W→∀ W',(W'=putL (putL W g ((p.length+1)*7) us) g (p.length*7) vs∨W'=putL (putL W g (p.length*7) vs) g ((p.length+1)*7) us)→GRow 7 R K t W' base v (p++y::x::q)∧Fr (fun k=>k=g) W W':=by
 obtain⟨g,c,us,vs,h1,h2,h3,h4,h5,h6,h7,h8,h9⟩:=h.swap
 exact⟨g,c,us,vs,h1,h2,h3,h4,h5,fun j u hu=>by rw[Nat.mul_comm];exact h6 j u hu,fun j u hu=>by rw[Nat.mul_comm];exact h7 j u hu,h8,fun W F W' hW=>h9 W F W' (by rw[Nat.mul_comm 7,Nat.mul_comm 7];exact hW)⟩
end
section
variable {α κ:Type} [DecidableEq κ] {lt:κ→κ→Bool}{key:α→κ}
def sideI (lt:κ→κ→Bool)(key:α→κ):List α→List α→Nat→Nat→List (Option Nat × Option Nat)
 | [],[],_,_=>[]
 |_::l,[],i,j=>(some i,none)::sideI lt key l [] (i+1) j
 | [],_::m,i,j=>(none,some j)::sideI lt key [] m i (j+1)
 |x::l,y::m,i,j=>if lt (key x) (key y)=true then (some i,none)::sideI lt key l (y::m) (i+1) j else if key x=key y then (some i,some j)::sideI lt key l m (i+1) (j+1) else (none,some j)::sideI lt key (x::l) m i (j+1)
termination_by l m=>l.length+m.length
def atP (L M:List α)(p:Option Nat × Option Nat):Option α × Option α:=(p.1.bind (fun i=>L[i]?),p.2.bind (fun j=>M[j]?))
theorem drop_next {L l:List α}{x:α}{i:Nat}(h:L.drop i=x::l):L[i]? = some x∧L.drop (i+1)=l:=by
 have h1:=congrArg (fun z:List α=>z[0]?) h;simp only[List.getElem?_drop,Nat.add_zero,List.getElem?_cons_zero]at h1
 refine⟨h1,?_⟩
 rw[←List.drop_drop,h]
 rfl
theorem sideI_map {L M:List α}:∀ (l m:List α) (i j:Nat),L.drop i=l→M.drop j=m→(sideI lt key l m i j).map (atP L M)=sideS lt key l m
 | [],[],i,j,_,_=>by rw[sideI,sideS];rfl
 |x::l,[],i,j,h1,h2=>by
  obtain⟨g1,g2⟩:=drop_next h1
  rw[sideI,sideS,List.map_cons,sideI_map l [] (i+1) j g2 h2]
  simp[atP,g1]
 | [],y::m,i,j,h1,h2=>by
  obtain⟨g1,g2⟩:=drop_next h2
  rw[sideI,sideS,List.map_cons,sideI_map [] m i (j+1) h1 g2]
  simp[atP,g1]
 |x::l,y::m,i,j,h1,h2=>by
  obtain⟨a1,a2⟩:=drop_next h1
  obtain⟨b1,b2⟩:=drop_next h2
  rw[sideI,sideS]
  by_cases c1:lt (key x) (key y)=true
  ·rw[if_pos c1,if_pos c1,List.map_cons,sideI_map l (y::m) (i+1) j a2 h2]
   simp[atP,a1]
  ·rw[if_neg c1,if_neg c1]
   by_cases c2:key x=key y
   ·rw[if_pos c2,if_pos c2,List.map_cons,sideI_map l m (i+1) (j+1) a2 b2]
    simp[atP,a1,b1]
   ·rw[if_neg c2,if_neg c2,List.map_cons,sideI_map (x::l) m i (j+1) h1 b2]
    simp[atP,b1]
termination_by l m=>l.length+m.length
end
def IterV (P:Program)(gf:Nat)(lb:Array Value)(xs:List Value)(C:Nat→Prop)(base:Nat)(w:World):Prop:=
 ∀ (l:Nat) (J Jx:List Value→World→Prop) (W:World),Fz w W→
  (∀ s A B,J s A→Fr C A B→J s B)→(∀ s A B,Jx s A→Fr C A B→Jx s B)→
  (∀ pre x rest W1,xs=pre++x::rest→J pre W1→YieldAt Fence.wide 1 P l #[x] W1 fun e W'=>
    (e=.returned (.bool true)∧J (pre++[x]) W'∧Fr (fun k=>base≤k∧¬C k) W1 W')∨(e=.returned (.bool false)∧Jx (pre++[x]) W'))→
  J [] W→
  CallsIn Fence.wide 2 P gf (#[.func (.yield l) #[] #[]]++lb) W fun e W'=>(∃ v,e=.returned v)∧(J xs W'∨∃ pre,pre <+: xs∧Jx pre W')
def seqPostV (I:List Value→World→Prop)(Ix:Code→List Value→World→Prop)(base:Nat)(C:Nat→Prop)(E:Nat)(xs:List Value)(W:World):Exit→Act→World→Prop
 |.normal,_,W'=>Fr (fun k=>base≤k∧¬C k∧k≠E∧k≠E+1) W W'∧I xs W'
 |.ret,_,W'=>Fr (fun k=>base≤k∧¬C k∧k≠E∧k≠E+1) W W'∧Ix .ret xs W'
 |.exit id,_,W'=>Fr (fun k=>base≤k∧¬C k∧k≠E∧k≠E+1) W W'∧Ix (.exit id) xs W'
 |.goto t,_,W'=>Fr (fun k=>base≤k∧¬C k∧k≠E∧k≠E+1) W W'∧Ix (.goto t) xs W'
 |.panic _,_,_=>False
 |.outgrown,_,_=>False
variable {P:Program}
def IxSl (W:World)(v:Value)(a:Option Addr)(c:Nat)(l:List RowP):Prop:=(v=.pointer none∧l=[]∧a=none∧c=0)∨∃ b,v=pt b∧W.cell? ⟨b,0,none⟩=some (.slice a l.length c)∧Slots W (.slice a l.length c) l
theorem IxAt.sl {W:World}{v:Value}{l:List RowP}(h:IxAt W v l):∃ a c,IxSl W v a c l:=by
 rcases h with ⟨rfl,rfl⟩|⟨b,u,rfl,h1,h2⟩
 ·exact⟨none,0,.inl ⟨rfl,rfl,rfl,rfl⟩⟩
 ·have h3:=h2
  obtain⟨a,c,rfl,-⟩:=h3
  exact⟨a,c,.inr ⟨b,rfl,h1,h2⟩⟩
theorem IxSl.old {w w':World}{v:Value}{a:Option Addr}{c:Nat}{l:List RowP}(h:IxSl w v a c l)(f:Fz w w'):IxSl w' v a c l:=by
 rcases h with h|⟨b,rfl,h1,h2⟩
 ·exact .inl h
 ·exact .inr ⟨b,rfl,f.cell h1 (fun h=>h),Slots.old h2 f⟩
theorem IxSl.slots {w:World}{v:Value}{a:Option Addr}{c:Nat}{l:List RowP}(h:IxSl w v a c l):Slots w (.slice a l.length c) l:=by
 rcases h with ⟨rfl,rfl,rfl,rfl⟩|⟨b,rfl,h1,h2⟩
 ·exact⟨none,0,rfl,Nat.le_refl _,by unfold maxLen;omega,fun h=>absurd h (by decide)⟩
 ·exact h2
def ptrAt (a:Option Addr)(i:Option Nat):Value:=match a,i with
 |some ⟨b,o,_⟩,some i=>.pointer (some ⟨b,o+i*7,none⟩)
 |_,_=>.pointer none
def pairV (a b:Option Addr)(p:Option Nat × Option Nat):Value:=.agg #[ptrAt a p.1,ptrAt b p.2]
theorem ptrAt_none (a:Option Addr):ptrAt a none=.pointer none:=by cases a<;>rfl
theorem pairV_l {a c:Option Addr}{b o i:Nat}(h:a=some ⟨b,o,none⟩):pairV a c (some i,none)=.agg #[.pointer (some ⟨b,o+i*7,none⟩),.pointer none]:=by
 subst h;unfold pairV;rw[ptrAt_none]
 rfl
theorem pairV_r {a c:Option Addr}{b o j:Nat}(h:c=some ⟨b,o,none⟩):pairV a c (none,some j)=.agg #[.pointer none,.pointer (some ⟨b,o+j*7,none⟩)]:=by
 subst h;unfold pairV;rw[ptrAt_none]
 rfl
theorem pairV_b {a c:Option Addr}{b o i b' o' j:Nat}(h:a=some ⟨b,o,none⟩)(h':c=some ⟨b',o',none⟩):pairV a c (some i,some j)=.agg #[.pointer (some ⟨b,o+i*7,none⟩),.pointer (some ⟨b',o'+j*7,none⟩)]:=by
 subst h h';rfl
def pairsV (a b:Option Addr)(L M:List RowP)(i j:Nat):List Value:=(sideI ltK rowK (L.drop i) (M.drop j) i j).map (pairV a b)
def lenV:Value→Nat
 |.slice _ n _=>n
 |_=>0
def Rest7 (a:Option Addr)(l:List RowP)(i:Nat)(u:Value):Prop:=∃ x n c,u=.slice x n c∧n+i=l.length∧n≤c∧c≤maxLen∧(0<n→∃ b o,a=some ⟨b,o,none⟩∧x=some ⟨b,o+i*7,none⟩)
theorem rest_next {a:Option Addr}{l:List RowP}{i b o n c:Nat}(h1:n+i=l.length)(hn:0<n)(h2:n≤c)(h3:c≤maxLen)(ha:a=some ⟨b,o,none⟩)(x:Option Addr)(hx:c≠1→x=some ⟨b,o+i*7+7,none⟩):Rest7 a l (i+1) (.slice x (n-1) (c-1)):=
 ⟨x,n-1,c-1,rfl,by omega,by omega,by omega,fun h=>⟨b,o,ha,by rw[hx (by omega),Nat.add_mul,Nat.one_mul,Nat.add_assoc]⟩⟩
theorem rest_start {W:World}{a:Option Addr}{c:Nat}{l:List RowP}(h:Slots W (.slice a l.length c) l):Rest7 a l 0 (.slice a l.length c):=by
 obtain⟨_,_,he,h1,h2,h3⟩:=h
 simp only[Value.slice.injEq]at he
 obtain⟨rfl,-,rfl⟩:=he
 exact⟨a,l.length,c,rfl,rfl,h1,h2,fun h0=>by
  obtain⟨b,o,rfl,-⟩:=h3 h0
  exact⟨b,o,rfl,by simp⟩⟩
theorem pairs_l {a b:Option Addr}{L M:List RowP}{i j:Nat}{r:RowP}(h1:L[i]? = some r)(h2:M.length≤j):pairsV a b L M i j=pairV a b (some i,none)::pairsV a b L M (i+1) j:=by
 have hi:=(List.getElem?_eq_some_iff.1 h1).1;unfold pairsV;rw[List.drop_eq_getElem_cons hi,List.drop_eq_nil_of_le h2,sideI]
 rfl
theorem pairs_r {a b:Option Addr}{L M:List RowP}{i j:Nat}{r:RowP}(h1:L.length≤i)(h2:M[j]? = some r):pairsV a b L M i j=pairV a b (none,some j)::pairsV a b L M i (j+1):=by
 have hj:=(List.getElem?_eq_some_iff.1 h2).1;unfold pairsV;rw[List.drop_eq_getElem_cons hj,List.drop_eq_nil_of_le h1,sideI]
 rfl
theorem pairs_end {a b:Option Addr}{L M:List RowP}{i j:Nat}(h1:L.length≤i)(h2:M.length≤j):pairsV a b L M i j=[]:=by
 unfold pairsV;rw[List.drop_eq_nil_of_le h1,List.drop_eq_nil_of_le h2,sideI]
 rfl
theorem pairs_both {a b:Option Addr}{L M:List RowP}{i j:Nat}{r s:RowP}(h1:L[i]? = some r)(h2:M[j]? = some s):pairsV a b L M i j=if rowC r s<0 then pairV a b (some i,none)::pairsV a b L M (i+1) j else if rowC r s=0 then pairV a b (some i,some j)::pairsV a b L M (i+1) (j+1) else pairV a b (none,some j)::pairsV a b L M i (j+1):=by
 have hi:=(List.getElem?_eq_some_iff.1 h1).1;have hj:=(List.getElem?_eq_some_iff.1 h2).1;have hr:L[i]=r:=(List.getElem?_eq_some_iff.1 h1).2;have hs:M[j]=s:=(List.getElem?_eq_some_iff.1 h2).2;unfold pairsV;by_cases c1:rowC r s<0
 ·have g:=rowC_neg.1 c1
  rw[if_pos c1,List.drop_eq_getElem_cons hi,List.drop_eq_getElem_cons hj,sideI,hr,hs,if_pos g]
  rfl
 ·have g:¬ltK (rowK r) (rowK s)=true:=fun h=>c1 (rowC_neg.2 h)
  rw[if_neg c1]
  by_cases c2:rowC r s=0
  ·rw[if_pos c2,List.drop_eq_getElem_cons hi,List.drop_eq_getElem_cons hj,sideI,hr,hs,if_neg g,if_pos (rowC_zero.1 c2)]
   rfl
  ·rw[if_neg c2,List.drop_eq_getElem_cons hi,List.drop_eq_getElem_cons hj,sideI,hr,hs,if_neg g,if_neg (fun h=>c2 (rowC_zero.2 h))]
   rfl
end Go.Q
namespace Go.Proofs.YtehlipgmkinfbaaGreatDoor
open Go Go.RowKit Go.Q
theorem orderSlots_any (cs ds:List Value)(r q:RowP)(w:World)(h:RSlot w cs r)(hu:RSlot w ds q)(h1:r.num.size.length≤1000000)(h2:q.num.size.length≤1000000) :
  Calls Tryz.prog 39 #[.agg cs.toArray,.agg ds.toArray] w fun e w'=>e=.returned (.int .i64 (rowC r q))∧Fz w w':=by
 obtain⟨us,rfl,g1⟩:=h
 obtain⟨vs,rfl,g2⟩:=hu
 obtain⟨a1,c1,a2,c2,q1,rfl,-,b1,-⟩:=g1.form
 obtain⟨d1,e1,d2,e2,q2,rfl,-,b2,-⟩:=g2.form
 rw[rowC_keys]
 exact order_any _ _ r.num q.num _ _ _ _ _ _ _ _ _ _ _ _ _ _ _ _ w b1 b2 (by omega) (by omega)
theorem seven_of {l:List Value}(h:l.length=7):∃ a b c d e f g,l=[a,b,c,d,e,f,g]:=by
 match l,h with
 | [a,b,c,d,e,f,g],_=>exact⟨a,b,c,d,e,f,g,rfl⟩
theorem insSort_any (v:Value)(l:List RowP)(base:Nat)(K:Nat→Prop)(w:World)(h:GRow 7 RSlot K 78 w base v l)(hl:l.length≤12)(hs:∀ r∈l,r.num.size.length≤1000000) :
  Calls Tryz.prog 98 #[v,.int .i64 0,.int .i64 l.length,.func (.func 39) #[] #[]] w fun e w'=>e=.returned (.tuple #[])∧(∃ s,s.Perm l∧Upw ltK rowK s∧GRow 7 RSlot K 78 w' base v s)∧Fr (fun k=>v.ownBlock=some k) w w':=by
 obtain⟨a,c,rfl⟩:=h.shape
 have H:=Hi h;have HS:=Hi hs;clear h hs;go_enter Tryz.func98,Tryz.ntmps98
 go_wp2_with fail
 go_loopg [8] l.length (fun g ii wr=>∃ (q:Nat) (s:List RowP),g=l.length-q∧q≤1000∧ii=.int .i64 ((q:Int)+1)∧Hid (s.Perm (l.take (q+1)))∧Hid (Upw ltK rowK s)∧Hid (GRow 7 RSlot K 78 wr base (.slice a l.length c) (s++l.drop (q+1)))∧Hid (Fr (fun k=>(Value.slice a l.length c).ownBlock=some k) w wr))
 case atStart=>
  refine⟨0,l.take 1,rfl,by omega,rfl,Hi (List.Perm.refl _),Hi ?_,Hi (by rw[List.take_append_drop];exact H.out),Hi (Fr.refl _)⟩
  cases l with
  |nil=>exact List.Pairwise.nil
  |cons x t=>exact List.pairwise_singleton _ _
 case round=>
  obtain⟨q,s,hg,hq,rfl,HP,HU,HGR,HF⟩:=hrel
  have HG:=Hi hg;clear hg;generalize wr=w1 at *
  by_cases hql:q+1<l.length
  ·have q1:(q:Int)+1<(l.length:Int):=by omega
   obtain⟨x,hx⟩:∃ x,l[q+1]? = some x:=⟨_,List.getElem?_eq_getElem hql⟩
   have HX:=Hi hx;have hd:l.drop (q+1)=x::l.drop (q+1+1):=by
    rw[List.drop_eq_getElem_cons hql]
    rw[List.getElem?_eq_getElem hql,Option.some.injEq]at hx
    rw[hx]
   have HD:=Hi hd;have hxm:=List.mem_of_getElem? hx;have hsx:=HS.out x hxm;have hsl:s.length=q+1:=by
    have:=HP.out.length_eq;rw[List.length_take]at this
    omega
   have HSL:=Hi hsl;clear hx hd hsl hxm;go_wp2_with fail
   go_loopg [9] (q+1) (fun g jj wx=>∃ (P Q:List RowP),g=P.length∧jj=.int .i64 P.length∧P.length+Q.length=q+1∧Hid ((P++x::Q).Perm (l.take (q+1+1)))∧Hid (Mid ltK rowK P x Q)∧Hid (GRow 7 RSlot K 78 wx base (.slice a l.length c) (P++x::(Q++l.drop (q+1+1))))∧Hid (Fr (fun k=>(Value.slice a l.length c).ownBlock=some k) w wx))
   case atStart=>
    have hsl:=HSL.out;refine⟨s,[],hsl.symm,by rw[hsl];rfl,by rw[hsl];rfl,Hi ?_,Hi (mid_start x HU.out),Hi ?_,HF⟩
    ·rw[List.take_add_one,HX.out]
     exact HP.out.append_right [x]
    ·have:=HGR.out
     rw[HD.out]at this
     exact this
   case round=>
    obtain⟨P,Q,hg2,rfl,hPQ,HP2,HM,HG2,HF2⟩:=hrel
    have HGM:=Hi hg2;clear hg2;have HNX:=Hi (fun (hp:∀ p,P.getLast? = some p→ltK (rowK x) (rowK p)=false)=>show (P++x::Q).Perm (l.take (q+1+1))∧Upw ltK rowK (P++x::Q) from ⟨HP2.out,mid_end ordK HM.out hp⟩);rcases List.eq_nil_or_concat P with rfl|⟨P',p,hPe⟩
    ·have c1:decide ((0:Int)<0)=false:=rfl
     have HFD:=Hi (fun k=>HF2.out.drewN (S:=fun k=>(Value.slice a l.length c).ownBlock=some k) k);have HGD:=Hi (fun k=>HG2.out.old ((Fr.refl wr).drewN (S:=fun _=>False) k));go_upto_region 4 with fail
     go_quiet (fail)
     go_wp2_with fail
     go_roundg (l.length-(q+1))
     case measure=>rw[HG.out];omega
     case rel=>exact⟨q+1,[]++x::Q,rfl,by omega,by go_num,Hi (HNX.out (fun p hp=>by cases hp)).1,Hi (HNX.out (fun p hp=>by cases hp)).2,Hi (by have:=HGD.out nq;simp only[List.append_assoc,List.cons_append,List.nil_append]at this ⊢;exact this),Hi (HFD.out nq)⟩
    ·rw[List.concat_eq_append]at hPe
     subst hPe;obtain⟨m,hm⟩:∃ m,m=P'.length:=⟨_,rfl⟩
     have hpl:(P'++[p]).length=m+1:=by rw[List.length_append,hm];rfl
     have hg3:=HG2.out;rw[List.append_assoc,List.singleton_append]at hg3
     obtain⟨g,cg,us,vs,hv,u1,v1,ku,kv,eu,ev,fz,hsw⟩:=hg3.swap7
     simp only[Value.slice.injEq]at hv
     obtain⟨rfl,hln,rfl⟩:=hv
     rw[←hm]at eu ev hsw
     have hsp:=HS.out p (by
      have:p∈l.take (q+1+1):=HP2.out.mem_iff.1 (by simp);exact List.mem_of_mem_take this)
     have HC:=Hi (fun W (F:Fz wr W)=>orderSlots_any vs us x p W (kv.old F).now (ku.old F).now hsx hsp);have HSW:=Hi hsw;obtain⟨k,hk⟩:∃ k,k=rowC x p:=⟨_,rfl⟩
     rw[←hk]at HC
     have HK:=Hi hk;obtain⟨us',hus,hpr⟩:=ku.now
     obtain⟨ks,hks⟩:∃ ks,str (nameKeyS p.iss)=.string ks:=⟨_,rfl⟩
     rw[hks]at hus
     obtain⟨e1,e2,e3,e4,e5,he,-⟩:=hpr.form
     subst he;subst hus;obtain⟨vs',hvs,hpr'⟩:=kv.now
     obtain⟨ls,hls⟩:∃ ls,str (nameKeyS x.iss)=.string ls:=⟨_,rfl⟩
     rw[hls]at hvs
     obtain⟨d1,d2,d3,d4,d5,he,-⟩:=hpr'.form
     subst he;subst hvs;clear hks hls hpr hpr';have HFZ:=Hi fz;have HPL:=Hi hm
     have hE:∀ W,Fz wr W→(W.cell? ⟨g,m*7,none⟩=some (.string ks)∧W.cell? ⟨g,m*7+1,none⟩=some (.slice e1 p.iss.length e2)∧W.cell? ⟨g,m*7+2,none⟩=some (.bool p.num.below)∧W.cell? ⟨g,m*7+3,none⟩=some (.slice e3 p.num.size.length e4)∧W.cell? ⟨g,m*7+4,none⟩=some (.int .i64 p.date)∧W.cell? ⟨g,m*7+5,none⟩=some (.int .i64 p.reason)∧W.cell? ⟨g,m*7+6,none⟩=some (.pointer e5))∧(W.cell? ⟨g,(m+1)*7,none⟩=some (.string ls)∧W.cell? ⟨g,(m+1)*7+1,none⟩=some (.slice d1 x.iss.length d2)∧W.cell? ⟨g,(m+1)*7+2,none⟩=some (.bool x.num.below)∧W.cell? ⟨g,(m+1)*7+3,none⟩=some (.slice d3 x.num.size.length d4)∧W.cell? ⟨g,(m+1)*7+4,none⟩=some (.int .i64 x.date)∧W.cell? ⟨g,(m+1)*7+5,none⟩=some (.int .i64 x.reason)∧W.cell? ⟨g,(m+1)*7+6,none⟩=some (.pointer d5)):=fun W F=>
      ⟨⟨F.cell (eu 0 _ rfl) (fun h=>h),F.cell (eu 1 _ rfl) (fun h=>h),F.cell (eu 2 _ rfl) (fun h=>h),F.cell (eu 3 _ rfl) (fun h=>h),F.cell (eu 4 _ rfl) (fun h=>h),F.cell (eu 5 _ rfl) (fun h=>h),F.cell (eu 6 _ rfl) (fun h=>h)⟩,F.cell (ev 0 _ rfl) (fun h=>h),F.cell (ev 1 _ rfl) (fun h=>h),F.cell (ev 2 _ rfl) (fun h=>h),F.cell (ev 3 _ rfl) (fun h=>h),F.cell (ev 4 _ rfl) (fun h=>h),F.cell (ev 5 _ rfl) (fun h=>h),F.cell (ev 6 _ rfl) (fun h=>h)⟩
     have HEE:=Hi hE;have hml:m+1<l.length:=by omega
     have HML:=Hi hln;rw[hpl] at *
     have c0:decide ((0:Int)<(m:Int)+1)=true:=decide_eq_true (by omega);have c3:(0:Int)≤(m:Int):=by omega
     have c4:(m:Int)<(l.length:Int):=by omega
     have c5:(0:Int)≤(m:Int)+1:=by omega
     have c6:(m:Int)+1<(l.length:Int):=by omega
     have c7:((m:Int)+1).toNat=m+1:=by omega
     have hw1:IntKind.i64.wrap ((m:Int)+1-1)=(m:Int):=by simp[IntKind.wrap,IntKind.signed,IntKind.bits];omega
     have hw2:IntKind.i64.wrap (m:Int)=(m:Int):=by simp[IntKind.wrap,IntKind.signed,IntKind.bits];omega
     have HFD:=Hi ((Fr.refl wr).drew:Fz wr wr.drew);clear hk eu ev hsw ku kv fz hg3 hE hln hm;by_cases hlt:k<0
     ·have c1:decide (k<0)=true:=decide_eq_true hlt
      have HLT:=Hi (show ltK (rowK x) (rowK p)=true from rowC_neg.1 (by rw[←HK.out];exact hlt));clear hlt;go_upto_region 4 with fail
      go_region_held3 (fun w'=>(w'.cell? ⟨g,m*7,none⟩=some (.string ks)∧w'.cell? ⟨g,m*7+1,none⟩=some (.slice e1 p.iss.length e2)∧w'.cell? ⟨g,m*7+2,none⟩=some (.bool p.num.below)∧w'.cell? ⟨g,m*7+3,none⟩=some (.slice e3 p.num.size.length e4)∧w'.cell? ⟨g,m*7+4,none⟩=some (.int .i64 p.date)∧w'.cell? ⟨g,m*7+5,none⟩=some (.int .i64 p.reason)∧w'.cell? ⟨g,m*7+6,none⟩=some (.pointer e5))∧w'.cell? ⟨g,(m+1)*7,none⟩=some (.string ls)∧w'.cell? ⟨g,(m+1)*7+1,none⟩=some (.slice d1 x.iss.length d2)∧w'.cell? ⟨g,(m+1)*7+2,none⟩=some (.bool x.num.below)∧w'.cell? ⟨g,(m+1)*7+3,none⟩=some (.slice d3 x.num.size.length d4)∧w'.cell? ⟨g,(m+1)*7+4,none⟩=some (.int .i64 x.date)∧w'.cell? ⟨g,(m+1)*7+5,none⟩=some (.int .i64 x.reason)∧w'.cell? ⟨g,(m+1)*7+6,none⟩=some (.pointer d5)) (first|(with_reducible exact HEE.out _ HFD.out)|(with_reducible exact HEE.out _ (HFD.out.trans F2))|fail) (first
       |(go_at_call 39;(with_reducible refine(HC.out _ HFD.out).mono ?_);rintro e w2 ⟨rfl,F2⟩)
       |fail)
      all_goals
       have HF3:=Hi (HFD.out.trans F2);have HF4:=Hi ((HFD.out.trans F2).drew);obtain⟨⟨y0,y1,y2,y3,y4,y5,y6⟩,y7,y8,y9,y10,y11,y12,y13⟩:=HEE.out _ HF4.out
       have fzz:=HFZ.out _ HF4.out;have f0:=fzz (m*7);have f1:=fzz (m*7+1);have f2:=fzz (m*7+2);have f3:=fzz (m*7+3);have f4:=fzz (m*7+4);have f5:=fzz (m*7+5);have f6:=fzz (m*7+6);have f7:=fzz ((m+1)*7);have f8:=fzz ((m+1)*7+1);have f9:=fzz ((m+1)*7+2);have f10:=fzz ((m+1)*7+3);have f11:=fzz ((m+1)*7+4);have f12:=fzz ((m+1)*7+5);have f13:=fzz ((m+1)*7+6);have gzz:=HFZ.out _ HF3.out;have g0:=gzz (m*7);have g1:=gzz (m*7+1);have g2:=gzz (m*7+2);have g3:=gzz (m*7+3);have g4:=gzz (m*7+4);have g5:=gzz (m*7+5);have g6:=gzz (m*7+6);have g7:=gzz ((m+1)*7);have g8:=gzz ((m+1)*7+1);have g9:=gzz ((m+1)*7+2)
       have g10:=gzz ((m+1)*7+3);have g11:=gzz ((m+1)*7+4);have g12:=gzz ((m+1)*7+5);have g13:=gzz ((m+1)*7+6);have hsA:=HSW.out _ HF3.out _ (.inl rfl);simp only[putL,Nat.add_assoc,Nat.reduceAdd]at hsA
       have HSA:=Hi hsA;clear F2 fzz gzz hsA HC;go_upto_region 6 with fail
       go_region_law fail
       all_goals
        clear y0 y1 y2 y3 y4 y5 y6 y7 y8 y9 y10 y11 y12 y13 f0 f1 f2 f3 f4 f5 f6 f7 f8 f9 f10 f11 f12 f13 g0 g1 g2 g3 g4 g5 g6 g7 g8 g9 g10 g11 g12 g13;have HGX:=Hi (HSA.out.1.old ((Fr.refl _).drew));have HFX:=Hi ((HF2.out.trans (HF3.out.mono (T:=fun k=>(Value.slice (some ⟨g,0,none⟩) l.length c).ownBlock=some k) (fun _ _ h=>h.elim))).trans ((HSA.out.2.mono (T:=fun k=>(Value.slice (some ⟨g,0,none⟩) l.length c).ownBlock=some k) (fun k _ e=>by rw[e];rfl)).drew));clear HSA;go_wp2_with fail
        go_roundg m
        case measure=>have:=HPL.out;have:=HGM.out;simp only[List.length_append,List.length_singleton] at *;omega
        case rel=>exact⟨P',p::Q,HPL.out,by first|(rw[←HPL.out];done)|(rw[←HPL.out];go_num),by have:=HPL.out;simp only[List.length_append,List.length_cons,List.length_nil]at hPQ ⊢;omega,Hi ((List.Perm.append_left P' (List.Perm.swap p x Q)).trans (by have:=HP2.out;rw[List.append_assoc]at this;exact this)),Hi (mid_step HM.out HLT.out),HGX,HFX⟩
     ·have c1:decide (k<0)=false:=decide_eq_false hlt
      have HLT:=Hi (show ltK (rowK x) (rowK p)=false from by
       cases h:ltK (rowK x) (rowK p) with
       |false=>rfl
       |true=>exact absurd (by rw[HK.out];exact rowC_neg.2 h) hlt)
      clear hlt;go_upto_region 4 with fail
      go_region_held3 (fun w'=>(w'.cell? ⟨g,m*7,none⟩=some (.string ks)∧w'.cell? ⟨g,m*7+1,none⟩=some (.slice e1 p.iss.length e2)∧w'.cell? ⟨g,m*7+2,none⟩=some (.bool p.num.below)∧w'.cell? ⟨g,m*7+3,none⟩=some (.slice e3 p.num.size.length e4)∧w'.cell? ⟨g,m*7+4,none⟩=some (.int .i64 p.date)∧w'.cell? ⟨g,m*7+5,none⟩=some (.int .i64 p.reason)∧w'.cell? ⟨g,m*7+6,none⟩=some (.pointer e5))∧w'.cell? ⟨g,(m+1)*7,none⟩=some (.string ls)∧w'.cell? ⟨g,(m+1)*7+1,none⟩=some (.slice d1 x.iss.length d2)∧w'.cell? ⟨g,(m+1)*7+2,none⟩=some (.bool x.num.below)∧w'.cell? ⟨g,(m+1)*7+3,none⟩=some (.slice d3 x.num.size.length d4)∧w'.cell? ⟨g,(m+1)*7+4,none⟩=some (.int .i64 x.date)∧w'.cell? ⟨g,(m+1)*7+5,none⟩=some (.int .i64 x.reason)∧w'.cell? ⟨g,(m+1)*7+6,none⟩=some (.pointer d5)) (first|(with_reducible exact HEE.out _ HFD.out)|(with_reducible exact HEE.out _ (HFD.out.trans F2))|fail) (first
       |(go_at_call 39;(with_reducible refine(HC.out _ HFD.out).mono ?_);rintro e w2 ⟨rfl,F2⟩)
       |fail)
      all_goals
       have HF3:=Hi (HFD.out.trans F2);clear F2 HC;go_wp2_with fail
       go_roundg (l.length-(q+1))
       case measure=>rw[HG.out];omega
       case rel=>exact⟨q+1,(P'++[p])++x::Q,rfl,by omega,by go_num,Hi (HNX.out (fun p' hp=>by simp at hp;subst hp;exact HLT.out)).1,Hi (HNX.out (fun p' hp=>by simp at hp;subst hp;exact HLT.out)).2,Hi (by have:=HG2.out.old HF3.out;simp only[List.append_assoc,List.cons_append,List.nil_append]at this ⊢;exact this),Hi (HF2.out.trans (HF3.out.mono (fun _ _ h=>h.elim)))⟩
  ·have HE:=Hi (show s.Perm l from by have:=HP.out;rwa[List.take_of_length_le (by omega)]at this)
   have HGE:=HGR.out;rw[List.drop_eq_nil_of_le (by omega),List.append_nil]at HGE
   replace HGE:=Hi HGE;have q1:¬(q:Int)+1<(l.length:Int):=by omega
   go_wp2_with fail
   go_end0
   exact⟨rfl,⟨s,HE.out,HU.out,HGE.out⟩,HF.out⟩
theorem slotsX_any (v:Value)(a:Option Addr)(c:Nat)(l:List RowP)(w:World)(h:IxSl w v a c l) :
  Calls Tryz.prog 45 #[v] w fun e w'=>e=.returned (.slice a l.length c)∧w'=w:=by
 rcases h with ⟨rfl,rfl,rfl,rfl⟩|⟨b,rfl,hc,hs⟩
 ·go_enter Tryz.func45,Tryz.ntmps45
  go_wp2_with fail
  go_ret;exact⟨rfl,rfl⟩
 ·clear hs
  go_enter Tryz.func45,Tryz.ntmps45
  go_wp2_with fail
  go_ret;exact⟨rfl,rfl⟩
attribute [local go_sem] Oper.semAt_some
theorem side1_iter (ba bb:Nat)(va vb:Value)(aL aM:Option Addr)(cL cM:Nat)(L M:List RowP)(wb w:World)(F:Fz wb w)(hca:w.cell? ⟨ba,0,none⟩=some va)(hcb:w.cell? ⟨bb,0,none⟩=some vb)(ha:IxSl wb va aL cL L)(hb:IxSl wb vb aM cM M)(hsL:∀ r∈L,r.num.size.length≤1000000)(hsM:∀ r∈M,r.num.size.length≤1000000) :
  IterV Tryz.prog 81 #[pt ba,pt bb] (pairsV aL aM L M 0 0) (fun k=>k=ba∨k=bb) wb.heap.size w:=by
 intro lp J Jx W hW hJ hJx hY h0;have F0:=F.trans hW;have ca:=hW.cell hca (fun h=>h);have cb:=hW.cell hcb (fun h=>h);have HL:=Hi (fun k=>slotsX_any va aL cL L (W.drewN k) (ha.old (F0.drewN k)));have HM:=Hi (fun k=>slotsX_any vb aM cM M (W.drewN k) (hb.old (F0.drewN k)));have HSL:=Hi ha.slots;have HSM:=Hi hb.slots;have HFL:=Hi hsL;have HFM:=Hi hsM;have HF0:=Hi (F0.mono (T:=fun k=>wb.heap.size≤k) (fun _ _ h=>h.elim));obtain⟨xs,hxs⟩:∃ xs,xs=pairsV aL aM L M 0 0:=⟨_,rfl⟩
 rw[←hxs]at hY ⊢
 have HXS:=Hi hxs;have hgL:=HSL.out;obtain⟨_,_,he,hLc,hLm,-⟩:=hgL
 simp only[Value.slice.injEq]at he
 obtain⟨rfl,-,rfl⟩:=he
 have hgM:=HSM.out;obtain⟨_,_,he,hMc,hMm,-⟩:=hgM
 simp only[Value.slice.injEq]at he
 obtain⟨rfl,-,rfl⟩:=he
 clear ha hb hsL hsM F F0 hca hcb hxs;refine callsIn_of_wp Tryz.func81 rfl trivial ?_ rfl;simp only[Tryz.ntmps81,List.size_toArray,List.length_cons,List.length_nil,Nat.reduceAdd,Nat.reduceSub,Array.replicate_succ,Array.replicate_zero,List.push_toArray,List.append_toArray,List.nil_append,List.cons_append]
 gi_upto_region 0 with fail
 refine wpIn_region_quiet_lit rfl (by kernel_rfl) (by kernel_rfl) ?_;repeat (refine wpQuietIn_step (fun _ _ _ _=>trivial) (fun K hK=>?_);go_simp;first|(refine hK _ ?_;clear hK K)|(apply Exists.intro;refine⟨fun _=>?_,hK _ ?_⟩;(first|(gi_at_call 45;exact CallsIn.quiet_of_same (callsIn_wide.2 (HL.out _)))|(gi_at_call 45;exact CallsIn.quiet_of_same (callsIn_wide.2 (HM.out _))));clear hK K))
 refine wpQuietIn_nil ?_;intro _ hw';obtain⟨nq,hw''⟩:=hw'
 subst hw'';gi_wp2
 gi_loopw [4,5] (fun u v wr=>∃ (pre:List Value) (i j:Nat),Rest7 aL L i u∧Rest7 aM M j v∧Hid (xs=pre++pairsV aL aM L M i j)∧Hid (Fr (fun k=>wb.heap.size≤k) wb wr)∧Hid (J pre wr)) (fun u v _=>lenV u+lenV v)
 case atStart=>exact⟨[],0,0,rest_start HSL.out,rest_start HSM.out,HXS,Hi (HF0.out.drewN _),Hi (hJ _ _ _ h0 ((Fr.refl W).drewN _))⟩
 case round=>
  obtain⟨pre,i,j,⟨x4,n,c4,rfl,hn,hnc,hcm,hx⟩,⟨x5,m,c5,rfl,hm,hmc,hcm2,hy⟩,HPX,HFR,HJP⟩:=hrel
  have HFK:=Hi (show Fz wb wr from HFR.out.mono (fun k hk h=>by omega));have HHX:=Hi hx;have HHY:=Hi hy;have HHN:=Hi hn;have HHM:=Hi hm;obtain⟨y,hyz⟩:∃ y,y=wr.heap.size:=⟨_,rfl⟩
  have HY:=Hi hyz;have BP:=Blk.new wr 95 #[.pointer none,.pointer none];rw[←hyz]at BP
  have HBP:=Hi BP;clear hx hy hyz BP h0;have hmx:Tryz.prog.follows .mixedOrders=true:=by kernel_rfl
  rcases Nat.eq_zero_or_pos n with hn0|hn0
  ·rcases Nat.eq_zero_or_pos m with hm0|hm0
   ·have HE:=Hi (show xs=pre from by rw[HPX.out,pairs_end (by have:=HHN.out;omega) (by have:=HHM.out;omega),List.append_nil])
    subst hn0;subst hm0;clear hn hm;gi_wp2
    go_end0
    exact⟨⟨_,rfl⟩,.inl (by rw[HE.out];exact HJP.out)⟩
   ·skip
    subst hn0;obtain⟨b',o',haM,rfl⟩:=HHY.out hm0
    obtain⟨r',hr'⟩:∃ r',M[j]? = some r':=⟨_,List.getElem?_eq_getElem (by have:=HHM.out;omega)⟩
    have HR2:=Hi hr';have HAM:=Hi haM;have e1:(0:Int)<(m:Int):=by omega
    have e2:((m:Int)==0)=false:=beq_eq_false_iff_ne.2 (by omega);have e3:(1:Int)≤(m:Int):=by omega
    have e4:(m:Int)≤(c5:Int):=by omega
    have e5:(1:Int)≤(c5:Int):=by omega
    have e6:1≤m:=hm0;have e7:1≤c5:=by omega
    clear hr' haM;gi_upto_region 3 with fail
    rw[←HY.out]
    have HFT:=Hi ((Fr.refl wr).alloc (.cells #[.pointer none,.pointer none] 95):Fz wr (wr.alloc (.cells #[.pointer none,.pointer none] 95)));have B4:=HBP.out;generalize (wr.alloc (.cells #[.pointer none,.pointer none] 95))=w4 at *
    have p0:=B4.drew.cell 0;have p1:=B4.drew.cell 1;have f0:=B4.drew.frozen 0;have f1:=B4.drew.frozen 1;have g0:=B4.frozen 0;have g1:=B4.frozen 1;simp only[SG]at p0 p1
    gi_upto_if 43 with fail
    gi_cut [5] from 44 (fun ux wx=>Rest7 aM M (j+1) ux∧Blk wx y 95 #[.pointer none,.pointer (some ⟨b',o'+j*7,none⟩)]∧Fz wr wx)
    case first=>
     gi_upto_region 12 with fail
     gi_region_with_o fail
     all_goals
      have FX:=(HFT.out.setCell (p:=⟨y,1,none⟩) (fun h=>by have:=HY.out;have h2:y<wr.heap.size:=h;omega) (.pointer (some ⟨b',o'+j*7,none⟩))).drew;have BX:Blk (w4.setCell ⟨y,1,none⟩ (.pointer (some ⟨b',o'+j*7,none⟩))) y 95 #[.pointer none,.pointer (some ⟨b',o'+j*7,none⟩)]:=B4.set 1 _;gi_wp2
      all_goals
       rcases Nat.lt_or_ge c5 2 with hc1|hc1
       ·have hc2:c5=1:=by omega
        subst hc2;first|(exfalso;omega)|(gi_meet;exact⟨rest_next HHM.out hm0 hmc hcm2 HAM.out _ (fun h=>absurd rfl h),BX.drew,FX⟩)
       ·first|(exfalso;omega)|(gi_meet;exact⟨rest_next HHM.out hm0 hmc hcm2 HAM.out _ (fun _=>rfl),BX.drew,FX⟩)
    case rest=>
     obtain⟨HRN6,B6,F6⟩:=hcut
     replace HFT:=Hi F6;obtain⟨xn6,nn6,cn6,rfl,hn6,hc6,hm6,hx6⟩:=HRN6
     clear p0 p1 f0 f1 g0 g1 F6;have HX2:=Hi (show xs=pre++(.agg #[.pointer none,.pointer (some ⟨b',o'+j*7,none⟩)])::pairsV aL aM L M i (j+1) from by rw[HPX.out,pairs_r (by have:=HHN.out;omega) HR2.out,pairV_r HAM.out]);have p0:=B6.cell 0;have p1:=B6.cell 1;simp only[SG]at p0 p1
     gi_upto_region 13 with fail
     obtain⟨fn,tmps,assign,body,hyy,hR⟩:=hY pre _ _ wc HX2.out (hJ _ _ _ HJP.out (HFT.out.mono (fun _ _ h=>h.elim)))
     have HR:=Hi hR;clear hR;gi_wp2
     refine HR.out.mono ?_;rintro e W3 (⟨rfl,hJ3,F3⟩|⟨rfl,hJx3⟩)
     ·have HJ3:=Hi hJ3
      have HF3:=Hi ((HFR.out.trans (HFT.out.mono (fun _ _ h=>h.elim))).trans (F3.mono (fun _ _ h=>h.1)));clear hJ3 F3 p0 p1 hyy;gi_wp2
      go_roundw
      case rel=>exact⟨pre++[(.agg #[.pointer none,.pointer (some ⟨b',o'+j*7,none⟩)])],i,(j+1),⟨_,_,_,rfl,HHN.out,hnc,hcm,HHX.out⟩,⟨_,_,_,rfl,hn6,hc6,hm6,hx6⟩,Hi (by rw[HX2.out];simp),HF3,HJ3⟩
      case measure=>simp only[lenV];omega
     ·have HJ3:=Hi hJx3
      clear hJx3 p0 p1 hyy;gi_wp2
      refine bodyPost_ret (results_none rfl _ _ _) rfl ?_;exact⟨⟨_,rfl⟩,.inr ⟨_,⟨pairsV aL aM L M i (j+1),by rw[HX2.out];simp⟩,HJ3.out⟩⟩
  ·rcases Nat.eq_zero_or_pos m with hm0|hm0
   ·skip
    have hm1:m=0:=hm0;subst hm1;obtain⟨b,o,haL,rfl⟩:=HHX.out hn0
    obtain⟨r,hr⟩:∃ r,L[i]? = some r:=⟨_,List.getElem?_eq_getElem (by have:=HHN.out;omega)⟩
    have HR1:=Hi hr;have HAL:=Hi haL;have a1:(0:Int)<(n:Int):=by omega
    have a2:((n:Int)==0)=false:=beq_eq_false_iff_ne.2 (by omega);have a3:(1:Int)≤(n:Int):=by omega
    have a4:(n:Int)≤(c4:Int):=by omega
    have a5:(1:Int)≤(c4:Int):=by omega
    have a6:1≤n:=hn0;have a7:1≤c4:=by omega
    clear hr haL;gi_upto_region 3 with fail
    rw[←HY.out]
    have HFT:=Hi ((Fr.refl wr).alloc (.cells #[.pointer none,.pointer none] 95):Fz wr (wr.alloc (.cells #[.pointer none,.pointer none] 95)));have B4:=HBP.out;generalize (wr.alloc (.cells #[.pointer none,.pointer none] 95))=w4 at *
    have p0:=B4.drew.cell 0;have p1:=B4.drew.cell 1;have f0:=B4.drew.frozen 0;have f1:=B4.drew.frozen 1;have g0:=B4.frozen 0;have g1:=B4.frozen 1;simp only[SG]at p0 p1
    gi_upto_if 36 with fail
    gi_cut [4] from 37 (fun ux wx=>Rest7 aL L (i+1) ux∧Blk wx y 95 #[.pointer (some ⟨b,o+i*7,none⟩),.pointer none]∧Fz wr wx)
    case first=>
     gi_upto_region 10 with fail
     gi_region_with_o fail
     all_goals
      have FX:=(HFT.out.setCell (p:=⟨y,0,none⟩) (fun h=>by have:=HY.out;have h2:y<wr.heap.size:=h;omega) (.pointer (some ⟨b,o+i*7,none⟩))).drew;have BX:Blk (w4.setCell ⟨y,0,none⟩ (.pointer (some ⟨b,o+i*7,none⟩))) y 95 #[.pointer (some ⟨b,o+i*7,none⟩),.pointer none]:=B4.set 0 _;gi_wp2
      all_goals
       rcases Nat.lt_or_ge c4 2 with hc1|hc1
       ·have hc2:c4=1:=by omega
        subst hc2;first|(exfalso;omega)|(gi_meet;exact⟨rest_next HHN.out hn0 hnc hcm HAL.out _ (fun h=>absurd rfl h),BX.drew,FX⟩)
       ·first|(exfalso;omega)|(gi_meet;exact⟨rest_next HHN.out hn0 hnc hcm HAL.out _ (fun _=>rfl),BX.drew,FX⟩)
    case rest=>
     obtain⟨HRN5,B5,F5⟩:=hcut
     replace HFT:=Hi F5;obtain⟨xn5,nn5,cn5,rfl,hn5,hc5,hm5,hx5⟩:=HRN5
     clear p0 p1 f0 f1 g0 g1 F5;have HX2:=Hi (show xs=pre++(.agg #[.pointer (some ⟨b,o+i*7,none⟩),.pointer none])::pairsV aL aM L M (i+1) j from by rw[HPX.out,pairs_l HR1.out (by have:=HHM.out;omega),pairV_l HAL.out]);have p0:=B5.cell 0;have p1:=B5.cell 1;simp only[SG]at p0 p1
     gi_upto_region 13 with fail
     obtain⟨fn,tmps,assign,body,hyy,hR⟩:=hY pre _ _ wc HX2.out (hJ _ _ _ HJP.out (HFT.out.mono (fun _ _ h=>h.elim)))
     have HR:=Hi hR;clear hR;gi_wp2
     refine HR.out.mono ?_;rintro e W3 (⟨rfl,hJ3,F3⟩|⟨rfl,hJx3⟩)
     ·have HJ3:=Hi hJ3
      have HF3:=Hi ((HFR.out.trans (HFT.out.mono (fun _ _ h=>h.elim))).trans (F3.mono (fun _ _ h=>h.1)));clear hJ3 F3 p0 p1 hyy;gi_wp2
      go_roundw
      case rel=>exact⟨pre++[(.agg #[.pointer (some ⟨b,o+i*7,none⟩),.pointer none])],(i+1),j,⟨_,_,_,rfl,hn5,hc5,hm5,hx5⟩,⟨_,_,_,rfl,HHM.out,hmc,hcm2,HHY.out⟩,Hi (by rw[HX2.out];simp),HF3,HJ3⟩
      case measure=>simp only[lenV];omega
     ·have HJ3:=Hi hJx3
      clear hJx3 p0 p1 hyy;gi_wp2
      refine bodyPost_ret (results_none rfl _ _ _) rfl ?_;exact⟨⟨_,rfl⟩,.inr ⟨_,⟨pairsV aL aM L M (i+1) j,by rw[HX2.out];simp⟩,HJ3.out⟩⟩
   ·skip
    obtain⟨b,o,haL,rfl⟩:=HHX.out hn0
    obtain⟨r,hr⟩:∃ r,L[i]? = some r:=⟨_,List.getElem?_eq_getElem (by have:=HHN.out;omega)⟩
    have HR1:=Hi hr;have HAL:=Hi haL;have a1:(0:Int)<(n:Int):=by omega
    have a2:((n:Int)==0)=false:=beq_eq_false_iff_ne.2 (by omega);have a3:(1:Int)≤(n:Int):=by omega
    have a4:(n:Int)≤(c4:Int):=by omega
    have a5:(1:Int)≤(c4:Int):=by omega
    have a6:1≤n:=hn0;have a7:1≤c4:=by omega
    clear hr haL;obtain⟨b',o',haM,rfl⟩:=HHY.out hm0
    obtain⟨r',hr'⟩:∃ r',M[j]? = some r':=⟨_,List.getElem?_eq_getElem (by have:=HHM.out;omega)⟩
    have HR2:=Hi hr';have HAM:=Hi haM;have e1:(0:Int)<(m:Int):=by omega
    have e2:((m:Int)==0)=false:=beq_eq_false_iff_ne.2 (by omega);have e3:(1:Int)≤(m:Int):=by omega
    have e4:(m:Int)≤(c5:Int):=by omega
    have e5:(1:Int)≤(c5:Int):=by omega
    have e6:1≤m:=hm0;have e7:1≤c5:=by omega
    clear hr' haM;have hgL:=HSL.out;obtain⟨b0,o0,us,hbo,-,hus,hRx,hcx⟩:=LAt.get hgL HR1.out
    rw[HAL.out]at hbo
    simp only[Option.some.injEq,Addr.mk.injEq,and_true]at hbo
    obtain⟨rfl,rfl⟩:=hbo
    have hgM:=HSM.out;obtain⟨b1,o1,vs,hbo,-,hvs,hRy,hcy⟩:=LAt.get hgM HR2.out
    rw[HAM.out]at hbo
    simp only[Option.some.injEq,Addr.mk.injEq,and_true]at hbo
    obtain⟨rfl,rfl⟩:=hbo
    obtain⟨u0,u1,u2,u3,u4,u5,u6,rfl⟩:=seven_of hus
    obtain⟨v0,v1,v2,v3,v4,v5,v6,rfl⟩:=seven_of hvs
    have HO:=Hi (fun W (F:Fz wb W)=>orderSlots_any _ _ r r' W (RSlot.old _ _ _ _ hRx F) (RSlot.old _ _ _ _ hRy F) (HFL.out r (List.mem_of_getElem? HR1.out)) (HFM.out r' (List.mem_of_getElem? HR2.out)));obtain⟨k,hk⟩:∃ k,k=rowC r r':=⟨_,rfl⟩
    rw[←hk]at HO
    have HK:=Hi hk;have HCX:=Hi hcx;have HCY:=Hi hcy;clear hgL hgM hcx hcy hk hRx hRy;gi_upto_region 3 with fail
    rw[←HY.out]
    have HFT:=Hi ((Fr.refl wr).alloc (.cells #[.pointer none,.pointer none] 95):Fz wr (wr.alloc (.cells #[.pointer none,.pointer none] 95)));have B4:=HBP.out;generalize (wr.alloc (.cells #[.pointer none,.pointer none] 95))=w4 at *
    have HFG:=Hi ((HFK.out.trans HFT.out).drew);have x0:=HFG.out.cell (HCX.out 0 _ rfl) (fun h=>h);have x1:=HFG.out.cell (HCX.out 1 _ rfl) (fun h=>h);have x2:=HFG.out.cell (HCX.out 2 _ rfl) (fun h=>h);have x3:=HFG.out.cell (HCX.out 3 _ rfl) (fun h=>h);have x4:=HFG.out.cell (HCX.out 4 _ rfl) (fun h=>h);have x5:=HFG.out.cell (HCX.out 5 _ rfl) (fun h=>h);have x6:=HFG.out.cell (HCX.out 6 _ rfl) (fun h=>h);have y0:=HFG.out.cell (HCY.out 0 _ rfl) (fun h=>h);have y1:=HFG.out.cell (HCY.out 1 _ rfl) (fun h=>h);have y2:=HFG.out.cell (HCY.out 2 _ rfl) (fun h=>h)
    have y3:=HFG.out.cell (HCY.out 3 _ rfl) (fun h=>h);have y4:=HFG.out.cell (HCY.out 4 _ rfl) (fun h=>h);have y5:=HFG.out.cell (HCY.out 5 _ rfl) (fun h=>h);have y6:=HFG.out.cell (HCY.out 6 _ rfl) (fun h=>h);simp only[Nat.add_zero]at x0 y0
    gi_upto_region 4 with fail
    gi_region_with_o (refine⟨trivial,?_⟩;gi_at_call 39;(with_reducible refine(callsIn_wide.2 (HO.out _ HFG.out)).mono ?_);rintro e w3 ⟨rfl,F3⟩)
    all_goals
     replace B4:=B4.drew.fr F3 (fun h=>h);replace HFT:=Hi (HFT.out.drew.trans F3);clear x0 x1 x2 x3 x4 x5 x6 y0 y1 y2 y3 y4 y5 y6 F3;rcases Int.lt_trichotomy k 0 with hk|hk|hk
     ·skip
      have k1:k≤0:=by omega
      have k2:¬0≤k:=by omega
      have HKK:=Hi hk;clear hk;have p0:=B4.drew.cell 0;have p1:=B4.drew.cell 1;have f0:=B4.drew.frozen 0;have f1:=B4.drew.frozen 1;have g0:=B4.frozen 0;have g1:=B4.frozen 1;simp only[SG]at p0 p1
      gi_upto_if 36 with fail
      gi_cut [4] from 37 (fun ux wx=>Rest7 aL L (i+1) ux∧Blk wx y 95 #[.pointer (some ⟨b,o+i*7,none⟩),.pointer none]∧Fz wr wx)
      case first=>
       gi_upto_region 10 with fail
       gi_region_with_o fail
       all_goals
        have FX:=(HFT.out.setCell (p:=⟨y,0,none⟩) (fun h=>by have:=HY.out;have h2:y<wr.heap.size:=h;omega) (.pointer (some ⟨b,o+i*7,none⟩))).drew;have BX:Blk (w3.setCell ⟨y,0,none⟩ (.pointer (some ⟨b,o+i*7,none⟩))) y 95 #[.pointer (some ⟨b,o+i*7,none⟩),.pointer none]:=B4.set 0 _;gi_wp2
        all_goals
         rcases Nat.lt_or_ge c4 2 with hc1|hc1
         ·have hc2:c4=1:=by omega
          subst hc2;first|(exfalso;omega)|(gi_meet;exact⟨rest_next HHN.out hn0 hnc hcm HAL.out _ (fun h=>absurd rfl h),BX.drew,FX⟩)
         ·first|(exfalso;omega)|(gi_meet;exact⟨rest_next HHN.out hn0 hnc hcm HAL.out _ (fun _=>rfl),BX.drew,FX⟩)
      case rest=>
       obtain⟨HRN5,B5,F5⟩:=hcut
       replace HFT:=Hi F5;obtain⟨xn5,nn5,cn5,rfl,hn5,hc5,hm5,hx5⟩:=HRN5
       clear p0 p1 f0 f1 g0 g1 F5;have HX2:=Hi (show xs=pre++(.agg #[.pointer (some ⟨b,o+i*7,none⟩),.pointer none])::pairsV aL aM L M (i+1) j from by rw[HPX.out,pairs_both HR1.out HR2.out,←HK.out,if_pos HKK.out,pairV_l HAL.out]);have p0:=B5.cell 0;have p1:=B5.cell 1;simp only[SG]at p0 p1
       gi_upto_region 13 with fail
       obtain⟨fn,tmps,assign,body,hyy,hR⟩:=hY pre _ _ wc HX2.out (hJ _ _ _ HJP.out (HFT.out.mono (fun _ _ h=>h.elim)))
       have HR:=Hi hR;clear hR;gi_wp2
       refine HR.out.mono ?_;rintro e W3 (⟨rfl,hJ3,F3⟩|⟨rfl,hJx3⟩)
       ·have HJ3:=Hi hJ3
        have HF3:=Hi ((HFR.out.trans (HFT.out.mono (fun _ _ h=>h.elim))).trans (F3.mono (fun _ _ h=>h.1)));clear hJ3 F3 p0 p1 hyy;gi_wp2
        go_roundw
        case rel=>exact⟨pre++[(.agg #[.pointer (some ⟨b,o+i*7,none⟩),.pointer none])],(i+1),j,⟨_,_,_,rfl,hn5,hc5,hm5,hx5⟩,⟨_,_,_,rfl,HHM.out,hmc,hcm2,HHY.out⟩,Hi (by rw[HX2.out];simp),HF3,HJ3⟩
        case measure=>simp only[lenV];omega
       ·have HJ3:=Hi hJx3
        clear hJx3 p0 p1 hyy;gi_wp2
        refine bodyPost_ret (results_none rfl _ _ _) rfl ?_;exact⟨⟨_,rfl⟩,.inr ⟨_,⟨pairsV aL aM L M (i+1) j,by rw[HX2.out];simp⟩,HJ3.out⟩⟩
     ·skip
      subst hk;have p0:=B4.drew.cell 0;have p1:=B4.drew.cell 1;have f0:=B4.drew.frozen 0;have f1:=B4.drew.frozen 1;have g0:=B4.frozen 0;have g1:=B4.frozen 1;simp only[SG]at p0 p1
      gi_upto_if 36 with fail
      gi_cut [4] from 37 (fun ux wx=>Rest7 aL L (i+1) ux∧Blk wx y 95 #[.pointer (some ⟨b,o+i*7,none⟩),.pointer none]∧Fz wr wx)
      case first=>
       gi_upto_region 10 with fail
       gi_region_with_o fail
       all_goals
        have FX:=(HFT.out.setCell (p:=⟨y,0,none⟩) (fun h=>by have:=HY.out;have h2:y<wr.heap.size:=h;omega) (.pointer (some ⟨b,o+i*7,none⟩))).drew;have BX:Blk (w3.setCell ⟨y,0,none⟩ (.pointer (some ⟨b,o+i*7,none⟩))) y 95 #[.pointer (some ⟨b,o+i*7,none⟩),.pointer none]:=B4.set 0 _;gi_wp2
        all_goals
         rcases Nat.lt_or_ge c4 2 with hc1|hc1
         ·have hc2:c4=1:=by omega
          subst hc2;first|(exfalso;omega)|(gi_meet;exact⟨rest_next HHN.out hn0 hnc hcm HAL.out _ (fun h=>absurd rfl h),BX.drew,FX⟩)
         ·first|(exfalso;omega)|(gi_meet;exact⟨rest_next HHN.out hn0 hnc hcm HAL.out _ (fun _=>rfl),BX.drew,FX⟩)
      case rest=>
       obtain⟨HRN5,B5,F5⟩:=hcut
       replace HFT:=Hi F5;obtain⟨xn5,nn5,cn5,rfl,hn5,hc5,hm5,hx5⟩:=HRN5
       clear p0 p1 f0 f1 g0 g1 F5;have p0:=B5.drew.cell 0;have p1:=B5.drew.cell 1;have f0:=B5.drew.frozen 0;have f1:=B5.drew.frozen 1;have g0:=B5.frozen 0;have g1:=B5.frozen 1;simp only[SG]at p0 p1
       gi_upto_if 43 with fail
       gi_cut [5] from 44 (fun ux wx=>Rest7 aM M (j+1) ux∧Blk wx y 95 #[.pointer (some ⟨b,o+i*7,none⟩),.pointer (some ⟨b',o'+j*7,none⟩)]∧Fz wr wx)
       case first=>
        gi_upto_region 12 with fail
        gi_region_with_o fail
        all_goals
         have FX:=(HFT.out.setCell (p:=⟨y,1,none⟩) (fun h=>by have:=HY.out;have h2:y<wr.heap.size:=h;omega) (.pointer (some ⟨b',o'+j*7,none⟩))).drew;have BX:Blk (wc.setCell ⟨y,1,none⟩ (.pointer (some ⟨b',o'+j*7,none⟩))) y 95 #[.pointer (some ⟨b,o+i*7,none⟩),.pointer (some ⟨b',o'+j*7,none⟩)]:=B5.set 1 _;gi_wp2
         all_goals
          rcases Nat.lt_or_ge c5 2 with hc1|hc1
          ·have hc2:c5=1:=by omega
           subst hc2;first|(exfalso;omega)|(gi_meet;exact⟨rest_next HHM.out hm0 hmc hcm2 HAM.out _ (fun h=>absurd rfl h),BX.drew,FX⟩)
          ·first|(exfalso;omega)|(gi_meet;exact⟨rest_next HHM.out hm0 hmc hcm2 HAM.out _ (fun _=>rfl),BX.drew,FX⟩)
       case rest=>
        obtain⟨HRN6,B6,F6⟩:=hcut
        replace HFT:=Hi F6;obtain⟨xn6,nn6,cn6,rfl,hn6,hc6,hm6,hx6⟩:=HRN6
        clear p0 p1 f0 f1 g0 g1 F6;have HX2:=Hi (show xs=pre++(.agg #[.pointer (some ⟨b,o+i*7,none⟩),.pointer (some ⟨b',o'+j*7,none⟩)])::pairsV aL aM L M (i+1) (j+1) from by rw[HPX.out,pairs_both HR1.out HR2.out,←HK.out,if_neg (by decide),if_pos rfl,pairV_b HAL.out HAM.out]);have p0:=B6.cell 0;have p1:=B6.cell 1;simp only[SG]at p0 p1
        gi_upto_region 13 with fail
        obtain⟨fn,tmps,assign,body,hyy,hR⟩:=hY pre _ _ wc HX2.out (hJ _ _ _ HJP.out (HFT.out.mono (fun _ _ h=>h.elim)))
        have HR:=Hi hR;clear hR;gi_wp2
        refine HR.out.mono ?_;rintro e W3 (⟨rfl,hJ3,F3⟩|⟨rfl,hJx3⟩)
        ·have HJ3:=Hi hJ3
         have HF3:=Hi ((HFR.out.trans (HFT.out.mono (fun _ _ h=>h.elim))).trans (F3.mono (fun _ _ h=>h.1)));clear hJ3 F3 p0 p1 hyy;gi_wp2
         go_roundw
         case rel=>exact⟨pre++[(.agg #[.pointer (some ⟨b,o+i*7,none⟩),.pointer (some ⟨b',o'+j*7,none⟩)])],(i+1),(j+1),⟨_,_,_,rfl,hn5,hc5,hm5,hx5⟩,⟨_,_,_,rfl,hn6,hc6,hm6,hx6⟩,Hi (by rw[HX2.out];simp),HF3,HJ3⟩
         case measure=>simp only[lenV];omega
        ·have HJ3:=Hi hJx3
         clear hJx3 p0 p1 hyy;gi_wp2
         refine bodyPost_ret (results_none rfl _ _ _) rfl ?_;exact⟨⟨_,rfl⟩,.inr ⟨_,⟨pairsV aL aM L M (i+1) (j+1),by rw[HX2.out];simp⟩,HJ3.out⟩⟩
     ·skip
      have k1:¬k≤0:=by omega
      have k2:0≤k:=by omega
      have HKK:=Hi hk;clear hk;have p0:=B4.drew.cell 0;have p1:=B4.drew.cell 1;have f0:=B4.drew.frozen 0;have f1:=B4.drew.frozen 1;have g0:=B4.frozen 0;have g1:=B4.frozen 1;simp only[SG]at p0 p1
      gi_upto_if 43 with fail
      gi_cut [5] from 44 (fun ux wx=>Rest7 aM M (j+1) ux∧Blk wx y 95 #[.pointer none,.pointer (some ⟨b',o'+j*7,none⟩)]∧Fz wr wx)
      case first=>
       gi_upto_region 12 with fail
       gi_region_with_o fail
       all_goals
        have FX:=(HFT.out.setCell (p:=⟨y,1,none⟩) (fun h=>by have:=HY.out;have h2:y<wr.heap.size:=h;omega) (.pointer (some ⟨b',o'+j*7,none⟩))).drew;have BX:Blk (w3.setCell ⟨y,1,none⟩ (.pointer (some ⟨b',o'+j*7,none⟩))) y 95 #[.pointer none,.pointer (some ⟨b',o'+j*7,none⟩)]:=B4.set 1 _;gi_wp2
        all_goals
         rcases Nat.lt_or_ge c5 2 with hc1|hc1
         ·have hc2:c5=1:=by omega
          subst hc2;first|(exfalso;omega)|(gi_meet;exact⟨rest_next HHM.out hm0 hmc hcm2 HAM.out _ (fun h=>absurd rfl h),BX.drew,FX⟩)
         ·first|(exfalso;omega)|(gi_meet;exact⟨rest_next HHM.out hm0 hmc hcm2 HAM.out _ (fun _=>rfl),BX.drew,FX⟩)
      case rest=>
       obtain⟨HRN6,B6,F6⟩:=hcut
       replace HFT:=Hi F6;obtain⟨xn6,nn6,cn6,rfl,hn6,hc6,hm6,hx6⟩:=HRN6
       clear p0 p1 f0 f1 g0 g1 F6;have HX2:=Hi (show xs=pre++(.agg #[.pointer none,.pointer (some ⟨b',o'+j*7,none⟩)])::pairsV aL aM L M i (j+1) from by rw[HPX.out,pairs_both HR1.out HR2.out,←HK.out,if_neg (by have:=HKK.out;omega),if_neg (by have:=HKK.out;omega),pairV_r HAM.out]);have p0:=B6.cell 0;have p1:=B6.cell 1;simp only[SG]at p0 p1
       gi_upto_region 13 with fail
       obtain⟨fn,tmps,assign,body,hyy,hR⟩:=hY pre _ _ wc HX2.out (hJ _ _ _ HJP.out (HFT.out.mono (fun _ _ h=>h.elim)))
       have HR:=Hi hR;clear hR;gi_wp2
       refine HR.out.mono ?_;rintro e W3 (⟨rfl,hJ3,F3⟩|⟨rfl,hJx3⟩)
       ·have HJ3:=Hi hJ3
        have HF3:=Hi ((HFR.out.trans (HFT.out.mono (fun _ _ h=>h.elim))).trans (F3.mono (fun _ _ h=>h.1)));clear hJ3 F3 p0 p1 hyy;gi_wp2
        go_roundw
        case rel=>exact⟨pre++[(.agg #[.pointer none,.pointer (some ⟨b',o'+j*7,none⟩)])],i,(j+1),⟨_,_,_,rfl,HHN.out,hnc,hcm,HHX.out⟩,⟨_,_,_,rfl,hn6,hc6,hm6,hx6⟩,Hi (by rw[HX2.out];simp),HF3,HJ3⟩
        case measure=>simp only[lenV];omega
       ·have HJ3:=Hi hJx3
        clear hJx3 p0 p1 hyy;gi_wp2
        refine bodyPost_ret (results_none rfl _ _ _) rfl ?_;exact⟨⟨_,rfl⟩,.inr ⟨_,⟨pairsV aL aM L M i (j+1),by rw[HX2.out];simp⟩,HJ3.out⟩⟩
theorem side_any (va vb:Value)(aL aM:Option Addr)(cL cM:Nat)(L M:List RowP)(wb w:World)(F:Fz wb w)(ha:IxSl wb va aL cL L)(hb:IxSl wb vb aM cM M)(hsL:∀ r∈L,r.num.size.length≤1000000)(hsM:∀ r∈M,r.num.size.length≤1000000) :
  Calls Tryz.prog 49 #[va,vb] w fun e w'=>(∃ ba bb,e=.returned (.func (.func 81) #[] #[pt ba,pt bb])∧w.heap.size≤ba∧w.heap.size≤bb∧ba<w'.heap.size∧bb<w'.heap.size∧IterV Tryz.prog 81 #[pt ba,pt bb] (pairsV aL aM L M 0 0) (fun k=>k=ba∨k=bb) wb.heap.size w')∧Fz w w':=by
 have FA:Fz w ((w.alloc (.cells #[va] 26)).alloc (.cells #[vb] 26)):=((Fr.refl w).alloc _).alloc _;have BA:=(Blk.new w 26 #[va]).alloc (.cells #[vb] 26);have BB:=Blk.new (w.alloc (.cells #[va] 26)) 26 #[vb];rw[World.size_alloc]at BB
 have hs:((w.alloc (.cells #[va] 26)).alloc (.cells #[vb] 26)).heap.size=w.heap.size+2:=by rw[World.size_alloc,World.size_alloc]
 have HI:=Hi (side1_iter w.heap.size (w.heap.size+1) va vb aL aM cL cM L M wb _ (F.trans FA) (BA.cell 0) (BB.cell 0) ha hb hsL hsM);have HF:=Hi FA;have HS:=Hi hs;have h1:va.oneCell'=true:=by
  rcases ha with ⟨rfl,-⟩|⟨b,rfl,-⟩<;>rfl
 have h2:vb.oneCell'=true:=by
  rcases hb with ⟨rfl,-⟩|⟨b,rfl,-⟩<;>rfl
 have h3:∃ p,va=.pointer p:=by
  rcases ha with ⟨rfl,-⟩|⟨b,rfl,-⟩
  ·exact⟨_,rfl⟩
  ·exact⟨_,rfl⟩
 have h4:∃ p,vb=.pointer p:=by
  rcases hb with ⟨rfl,-⟩|⟨b,rfl,-⟩
  ·exact⟨_,rfl⟩
  ·exact⟨_,rfl⟩
 clear ha hb hsL hsM F FA BA BB hs;obtain⟨p,rfl⟩:=h3
 obtain⟨q,rfl⟩:=h4
 go_enter Tryz.func49,Tryz.ntmps49
 go_wp2_with fail
 go_ret;exact⟨⟨w.heap.size,w.heap.size+1,rfl,Nat.le_refl _,Nat.le_succ _,by rw[HS.out];omega,by rw[HS.out];omega,HI.out⟩,HF.out⟩
end Go.Proofs.YtehlipgmkinfbaaGreatDoor
