/-
  Merged by program: XR22P XIxTurn XIxIns XIxSwap XIxIns2 XIxSideI XIxSeq XIxSdA.
-/
import Derived.Test.YtehlipgmkinfbaaGreatDoorM0as
import Derived.Sort.QuietIn
import Derived.Sort.QuietTacIn
import Derived.Sort.CutIn
set_option linter.unusedSimpArgs false
set_option maxRecDepth 100000
set_option maxHeartbeats 8000000
namespace Go.Q
open Go Go.RowKit
section
variable {P:Program}
theorem append_zero {w:World}{t ty e:TypeId}{i:TypeInfo}(ht:P.underlying t=some (.slice e))(hi:P.info? e=some i)(base:Option Addr)(n cap:Nat)(hle:n≤cap)(sp:Option Addr)(c:Nat) :
  (Builtin.append_ #[t,t] ty #[.slice base n cap,.slice sp 0 c]).run P w=.ok (.slice base n cap) w:=by
 cases base<;>cases sp<;>simp[Builtin.append_,run_underlying ht,sizeOf,typeInfo,hi,Builtin.lenOf,Builtin.firstCells,hle,storeCells,loadCells,loadCellsFrom]
end
section
variable {α:Type}{sz:Nat}{R:World→List Value→α→Prop}{K:Nat→Prop}{t:TypeId}{w:World}{base:Nat}{v:Value}{l:List α}
theorem LAt.rest {a:Option Addr}{n c:Nat}(h:LAt sz R w (.slice a n c) l)(i:Nat)(hi:i≤l.length)(A:Option Addr)(hA:i<l.length→∀ b o,a=some ⟨b,o,none⟩→A=some ⟨b,o+i*sz,none⟩):LAt sz R w (.slice A (l.drop i).length (c-i)) (l.drop i):=by
 obtain⟨_,_,he,h1,h2,h3⟩:=h
 simp only[Value.slice.injEq]at he
 obtain⟨rfl,-,rfl⟩:=he
 have hl:(l.drop i).length=l.length-i:=List.length_drop;refine⟨A,c-i,rfl,by omega,by omega,fun h0=>?_⟩
 obtain⟨b,o,rfl,hy⟩:=h3 (by omega)
 refine⟨b,o+i*sz,hA (by omega) b o rfl,fun j x hx=>?_⟩
 rw[List.getElem?_drop]at hx
 obtain⟨cs,e1,e2,e3⟩:=hy (i+j) x hx
 refine⟨cs,e1,fun m u hu=>?_,e3⟩
 have:=e2 m u hu;rwa[show o+sz*(i+j)+m=o+i*sz+sz*j+m by rw[Nat.mul_add,Nat.mul_comm sz i];omega]at this
theorem LAt.upto {a:Option Addr}{n c:Nat}(h:LAt sz R w (.slice a n c) l)(i:Nat)(hi:i≤l.length)(A:Option Addr)(hA:0<i→∀ b o,a=some ⟨b,o,none⟩→A=some ⟨b,o,none⟩):LAt sz R w (.slice A (l.take i).length c) (l.take i):=by
 obtain⟨_,_,he,h1,h2,h3⟩:=h
 simp only[Value.slice.injEq]at he
 obtain⟨rfl,-,rfl⟩:=he
 have hl:(l.take i).length=i:=by rw[List.length_take];omega
 refine⟨A,c,rfl,by omega,by omega,fun h0=>?_⟩
 obtain⟨b,o,rfl,hy⟩:=h3 (by omega)
 refine⟨b,o,hA (by omega) b o rfl,fun j x hx=>?_⟩
 rw[List.getElem?_take]at hx
 split at hx
 ·exact hy j x hx
 ·cases hx
theorem GRow.addSlice0 {P:Program}{s:TypeId}{z:Value}{bytes:Nat}(hu0:P.underlying s=some (.slice t))(hinf:Info P t z sz bytes)(hzs:z.cells.size=sz)(hs0:0<sz)(hby:bytes≤128)(h:GRow sz R K t w base v l)(hb:base≤w.heap.size){ay:Option Addr}{cy:Nat}{r:List α}(hy:LAt sz R w (.slice ay r.length cy) r)(h1:∀ W cs x,R W cs x→∀ u∈cs,u.oneCell'=true)(hk:∀ us x,R w us x→Kept (fun W=>R W us x) (fun k=>v.ownBlock=some k∨K k) w)(hn:l.length+r.length≤109951162777) :
  ∃ a c w',(Builtin.append_ #[s,s] s #[v,.slice ay r.length cy]).run P w=.ok (.slice a (l.length+r.length) c) w'∧GRow sz R K t w' base (.slice a (l.length+r.length) c) (l++r)∧Fr (fun k=>v.ownBlock=some k) w w':=by
 rcases Nat.eq_zero_or_pos r.length with h0|h0
 ·obtain rfl:r=[]:=List.length_eq_zero_iff.1 h0
  obtain⟨i0,hi0,-⟩:=info_parts hinf
  have hg:=h;obtain⟨cs,⟨g1,g2⟩,g3⟩:=h
  rcases g2 with ⟨rfl,hz⟩|⟨g,cap,cur,rfl,hgb,hh,hnc,hcm,hcs,htk⟩
  ·have hl:l=[]:=List.length_eq_zero_iff.1 hz
   subst hl;exact⟨none,0,w,append_zero hu0 hi0 none 0 0 (Nat.le_refl _) ay cy,by simpa using hg,Fr.refl _⟩
  ·refine⟨some ⟨g,0,none⟩,cap,w,?_,by simpa using hg,Fr.refl _⟩
   rw[List.length_nil,Nat.add_zero]
   exact append_zero hu0 hi0 _ _ cap hnc ay cy
 ·obtain⟨a,c,w',q1,q2,q3,-⟩:=h.addSlice hu0 hinf hzs hs0 hby hb hy h0 h1 hk hn
  exact⟨a,c,w',q1,q2,q3⟩
end
section
variable {α κ:Type}{lt:κ→κ→Bool}{key:α→κ}
theorem Ord3.nlt (ho:Ord3 lt){a b c:κ}(h1:lt b a=false)(h2:lt c b=false):lt c a=false:=by
 cases h:lt c a with
 |false=>rfl
 |true=>
  rcases ho.tot a b with e|e|e
  ·have:=ho.tr _ _ _ h e
   rw[h2]at this;cases this
  ·subst e
   rw[h2]at h;cases h
  ·rw[h1]at e;cases e
def Mid (lt:κ→κ→Bool)(key:α→κ)(P:List α)(x:α)(Q:List α):Prop:=Upw lt key (P++Q)∧∀ q∈Q,lt (key x) (key q)=true
theorem mid_start {P:List α}(x:α)(h:Upw lt key P):Mid lt key P x []:=⟨by rwa[List.append_nil],fun q hq=>by cases hq⟩
theorem mid_step {P Q:List α}{p x:α}(h:Mid lt key (P++[p]) x Q)(hx:lt (key x) (key p)=true):Mid lt key P x (p::Q):=by
 obtain⟨h1,h2⟩:=h
 rw[List.append_assoc]at h1
 refine⟨h1,fun q hq=>?_⟩
 rcases List.mem_cons.1 hq with e|e
 ·rw[e];exact hx
 ·exact h2 q e
theorem mid_end (ho:Ord3 lt){P Q:List α}{x:α}(h:Mid lt key P x Q)(hx:∀ p,P.getLast? = some p→lt (key x) (key p)=false):Upw lt key (P++x::Q):=by
 obtain⟨h1,h2⟩:=h
 have g:=List.pairwise_append.1 h1;refine List.pairwise_append.2 ⟨g.1,List.pairwise_cons.2 ⟨fun q hq=>ho.asym (h2 q hq),g.2.1⟩,fun a ha b hb=>?_⟩;rcases List.mem_cons.1 hb with e|e
 ·subst e
  rcases List.eq_nil_or_concat P with e2|⟨P',p,e2⟩
  ·rw[e2]at ha;cases ha
  ·rw[List.concat_eq_append]at e2
   have hp:=hx p (by rw[e2];simp);rw[e2]at ha
   rcases List.mem_append.1 ha with h3|h3
   ·have hw:=g.1
    rw[e2]at hw
    have:=(List.pairwise_append.1 hw).2.2 a h3 p (by simp);exact ho.nlt this hp
   ·rw[List.mem_singleton]at h3
    rw[h3];exact hp
 ·exact g.2.2 a ha b e
end
theorem putL_mid {t:TypeId}{z:Nat}:∀ (l mid post pre:List Value) (W:World) (cs:Array Value),Blk W z t cs→cs.toList=pre++(mid++post)→mid.length=l.length→Blk (putL W z pre.length l) z t (pre++(l++post)).toArray∧Fr (fun k=>k=z) W (putL W z pre.length l)
 | [],mid,post,pre,W,cs,h,he,hl=>by
  have hr:mid=[]:=List.length_eq_zero_iff.1 hl;subst hr;have hc:cs=(pre++([]++post)).toArray:=by rw[←he]
  rw[←hc]
  exact⟨h,Fr.refl W⟩
 |v::l,mid,post,pre,W,cs,h,he,hl=>by
  match mid,hl with
  |x::mid,hl=>
   have h1:=h.set pre.length v;have h2:=setL_take (v:=v) he;have h3:=putL_mid l mid post (pre++[v]) _ _ h1 h2 (by simpa using hl);rw[List.length_append,List.length_singleton,List.append_assoc]at h3
   exact⟨h3.1,(Fr.setCell (S:=fun k=>k=z) (p:=⟨z,pre.length,none⟩) (Fr.refl W) (fun _=>rfl) v).trans h3.2⟩
theorem seg_of {cs us:List Value}{k n:Nat}(hn:us.length=n)(h:∀ j u,us[j]? = some u→cs[k+j]? = some u):(cs.drop k).take n=us:=by
 refine List.ext_getElem? (fun j=>?_);rw[List.getElem?_take]
 by_cases hj:j<n
 ·rw[if_pos hj,List.getElem?_drop]
  have hu:=List.getElem?_eq_getElem (l:=us) (i:=j) (by omega);rw[hu]
  exact h j _ hu
 ·rw[if_neg hj,List.getElem?_eq_none (by omega)]
theorem seg_split {cs us:List Value}{k n:Nat}(hn:us.length=n)(h:∀ j u,us[j]? = some u→cs[k+j]? = some u):cs=cs.take k++(us++cs.drop (k+n)):=by
 rw[←seg_of hn h,←List.drop_drop,List.take_append_drop,List.take_append_drop]
section
variable {α:Type}{sz:Nat}{R:World→List Value→α→Prop}{K:Nat→Prop}{t:TypeId}{w:World}{base:Nat}{v:Value}{p q:List α}{x y:α}
theorem GRow.swap (h:GRow sz R K t w base v (p++x::y::q)):∃ g c us vs,v=.slice (some ⟨g,0,none⟩) (p++x::y::q).length c∧us.length=sz∧vs.length=sz∧Kept (fun W=>R W us x) (fun k=>v.ownBlock=some k∨K k) w∧Kept (fun W=>R W vs y) (fun k=>v.ownBlock=some k∨K k) w∧(∀ j u,us[j]? = some u→w.cell? ⟨g,sz*p.length+j,none⟩=some u)∧(∀ j u,vs[j]? = some u→w.cell? ⟨g,sz*(p.length+1)+j,none⟩=some u)∧(∀ W,Fz w W→∀ i,W.frozen? ⟨g,i,none⟩=false)∧∀ W,Fz w W→∀ W',(W'=putL (putL W g (sz*(p.length+1)) us) g (sz*p.length) vs∨W'=putL (putL W g (sz*p.length) vs) g (sz*(p.length+1)) us)→GRow sz R K t W' base v (p++y::x::q)∧Fr (fun k=>k=g) W W':=by
 obtain⟨cs,⟨h1,h2⟩,h3⟩:=h
 have hlen:(p++x::y::q).length=p.length+(q.length+2):=by simp
 rcases h2 with ⟨-,h0⟩|⟨g,cap,cur,rfl,hg,hh,hnc,hcm,hcs,htk⟩
 ·omega
 ·obtain⟨us,u1,u2,u3⟩:=h3 p.length x (by simp)
  obtain⟨vs,v1,v2,v3⟩:=h3 (p.length+1) y (by simp)
  have hA:(cs.take (sz*p.length)).length=sz*p.length:=by
   rw[List.length_take,h1,hlen,Nat.add_mul,Nat.mul_comm sz]
   omega
  have hcur:cur.toList=cs++cur.toList.drop ((p++x::y::q).length*sz):=by rw[←htk,List.take_append_drop]
  have s1:=seg_split u1 u2;have s2:cs.drop (sz*p.length+sz)=vs++cs.drop (sz*p.length+sz+sz):=by
   have:=seg_split (cs:=cs.drop (sz*p.length+sz)) (k:=0) v1 (fun j u hu=>by
    rw[List.getElem?_drop,Nat.zero_add]
    have:=v2 j u hu;rwa[Nat.mul_add,Nat.mul_one]at this)
   rw[List.take_zero,List.nil_append,Nat.zero_add,List.drop_drop]at this
   exact this
  obtain⟨A,hAe⟩:∃ A,A=cs.take (sz*p.length):=⟨_,rfl⟩
  obtain⟨B,hBe⟩:∃ B,B=cs.drop (sz*p.length+sz+sz):=⟨_,rfl⟩
  obtain⟨D,hDe⟩:∃ D,D=cur.toList.drop ((p++x::y::q).length*sz):=⟨_,rfl⟩
  rw[s2,←hAe,←hBe]at s1
  rw[←hDe,s1]at hcur
  rw[←hAe]at hA
  have hcell:∀ m u,cs[m]? = some u→w.cell? ⟨g,m,none⟩=some u:=fun m u hu=>by
   have hm:=(List.getElem?_eq_some_iff.1 hu).1;have:=congrArg (fun z:List Value=>z[m]?) htk;simp only[List.getElem?_take,if_pos (show m<(p++x::y::q).length*sz by omega),Array.getElem?_toList]at this
   simp only[World.cell?,hh]
   exact this.trans hu
  have hB:Blk w g t cur:=hh;have o1:∀ W,Blk W g t cur→∀ W',(W'=putL (putL W g (sz*(p.length+1)) us) g (sz*p.length) vs∨W'=putL (putL W g (sz*p.length) vs) g (sz*(p.length+1)) us)→Blk W' g t (A++(vs++(us++(B++D)))).toArray∧Fr (fun k=>k=g) W W':=by
   intro W hB W' hW;rcases hW with rfl|rfl
   ·have b1:=putL_mid us vs (B++D) (A++us) W cur hB (by rw[hcur];simp only[List.append_assoc]) (by rw[u1,v1])
    rw[List.length_append,hA,u1,show sz*p.length+sz=sz*(p.length+1) by rw[Nat.mul_add,Nat.mul_one]]at b1
    have b2:=putL_mid vs us (us++(B++D)) A _ _ b1.1 (by simp only[List.append_assoc]) (by rw[u1,v1]);rw[hA]at b2
    exact⟨b2.1,b1.2.trans b2.2⟩
   ·have b1:=putL_mid vs us (vs++(B++D)) A W cur hB (by rw[hcur];simp only[List.append_assoc]) (by rw[u1,v1])
    rw[hA]at b1
    have b2:=putL_mid us vs (B++D) (A++vs) _ _ b1.1 (by simp only[List.append_assoc]) (by rw[u1,v1]);rw[List.length_append,hA,v1,show sz*p.length+sz=sz*(p.length+1) by rw[Nat.mul_add,Nat.mul_one]]at b2
    refine⟨?_,b1.2.trans b2.2⟩
    have:=b2.1;simp only[List.append_assoc]at this
    exact this
  refine⟨g,cap,us,vs,rfl,u1,v1,u3,v3,fun j u hu=>hcell _ _ (u2 j u hu),fun j u hu=>hcell _ _ (v2 j u hu),fun W F=>(hB.fr F (fun h=>h)).frozen,fun W F W' hW=>?_⟩
  obtain⟨b1,b2⟩:=o1 W (hB.fr F (fun h=>h)) W' hW
  refine⟨⟨A++(vs++(us++B)),⟨?_,.inr ⟨g,cap,_,?_,hg,b1,?_,hcm,?_,?_⟩⟩,?_⟩,b2⟩
  ·have:=congrArg List.length s1
   simp only[List.length_append,u1,v1,List.length_cons]at this h1 ⊢
   omega
  ·simp
  ·simp only[List.length_append,List.length_cons]at hnc ⊢
   exact hnc
  ·have hc:=congrArg List.length hcur
   rw[Array.length_toList,hcs]at hc
   simp only[List.size_toArray,List.length_append,u1,v1]at hc ⊢
   omega
  ·have hs1:=congrArg List.length s1
   simp only[List.length_append,u1,v1,List.length_cons]at hs1 h1
   have e1:(A++(vs++(us++(B++D))))=(A++(vs++(us++B)))++D:=by simp only[List.append_assoc]
   show (A++(vs++(us++(B++D)))).take _=_
   rw[e1]
   refine List.take_left' ?_;simp only[List.length_append,u1,v1,List.length_cons]
   omega
  ·intro i z hz
   have stepK:∀ {cs:List Value}{z:α},Kept (fun W=>R W cs z) (fun k=>(Value.slice (some ⟨g,0,none⟩) (p++x::y::q).length cap).ownBlock=some k∨K k) w→Kept (fun W=>R W cs z) (fun k=>(Value.slice (some ⟨g,0,none⟩) (p++x::y::q).length cap).ownBlock=some k∨K k) W':=fun h=>
    (h.old F).step b2 (fun k _ e=>.inl (by rw[e];rfl)) (fun k hk=>.inl hk)
   rcases Nat.lt_trichotomy i p.length with hi|hi|hi
   ·rw[List.getElem?_append_left hi]at hz
    obtain⟨es,e1,e2,e3⟩:=h3 i z (by rw[List.getElem?_append_left hi];exact hz)
    refine⟨es,e1,fun j u hu=>?_,stepK e3⟩
    have hj:j<sz:=by rw[←e1];exact(List.getElem?_eq_some_iff.1 hu).1
    have hlt:sz*i+j<A.length:=by
     have:sz*(i+1)≤sz*p.length:=Nat.mul_le_mul_left _ hi;rw[Nat.mul_add,Nat.mul_one]at this
     omega
    have:=e2 j u hu;rw[s1,List.getElem?_append_left hlt]at this
    rw[List.getElem?_append_left hlt]
    exact this
   ·subst hi
    rw[List.getElem?_append_right (Nat.le_refl _),Nat.sub_self,List.getElem?_cons_zero]at hz
    obtain rfl:=Option.some.inj hz
    refine⟨vs,v1,fun j u hu=>?_,stepK v3⟩
    rw[List.getElem?_append_right (by omega),hA,Nat.add_sub_cancel_left,List.getElem?_append_left (List.getElem?_eq_some_iff.1 hu).1]
    exact hu
   ·rcases Nat.lt_or_ge (p.length+1) i with h4|h4
    ·rw[List.getElem?_append_right (by omega),show i-p.length=(i-p.length-2)+1+1 by omega,List.getElem?_cons_succ,List.getElem?_cons_succ]at hz
     obtain⟨es,e1,e2,e3⟩:=h3 i z (by rw[List.getElem?_append_right (by omega),show i-p.length=(i-p.length-2)+1+1 by omega,List.getElem?_cons_succ,List.getElem?_cons_succ];exact hz)
     refine⟨es,e1,fun j u hu=>?_,stepK e3⟩
     have:=e2 j u hu;have hge:sz*p.length+(sz+sz)≤sz*i+j:=by
      have:sz*(p.length+2)≤sz*i:=Nat.mul_le_mul_left _ h4;rw[Nat.mul_add]at this
      omega
     rw[s1,List.getElem?_append_right (by omega),List.getElem?_append_right (by omega),List.getElem?_append_right (by omega)]at this
     rw[List.getElem?_append_right (by omega),List.getElem?_append_right (by omega),List.getElem?_append_right (by omega)]
     rw[u1,v1] at *
     exact this
    ·obtain rfl:i=p.length+1:=by omega
     rw[List.getElem?_append_right (by omega),show p.length+1-p.length=0+1 by omega,List.getElem?_cons_succ,List.getElem?_cons_zero]at hz
     obtain rfl:=Option.some.inj hz
     refine⟨us,u1,fun j u hu=>?_,stepK u3⟩
     rw[Nat.mul_add,Nat.mul_one,List.getElem?_append_right (by omega),List.getElem?_append_right (by omega),List.getElem?_append_left (by rw[v1,hA];have:=(List.getElem?_eq_some_iff.1 hu).1;omega),v1,hA,show sz*p.length+sz+j-sz*p.length-sz=j by omega]
     exact hu
theorem GRow.swap7 {R:World→List Value→α→Prop}(h:GRow 7 R K t w base v (p++x::y::q)):∃ g c us vs,v=.slice (some ⟨g,0,none⟩) (p++x::y::q).length c∧us.length=7∧vs.length=7∧Kept (fun W=>R W us x) (fun k=>v.ownBlock=some k∨K k) w∧Kept (fun W=>R W vs y) (fun k=>v.ownBlock=some k∨K k) w∧(∀ j u,us[j]? = some u→w.cell? ⟨g,p.length*7+j,none⟩=some u)∧(∀ j u,vs[j]? = some u→w.cell? ⟨g,(p.length+1)*7+j,none⟩=some u)∧(∀ W,Fz w W→∀ i,W.frozen? ⟨g,i,none⟩=false)∧∀ W,Fz w W→∀ W',(W'=putL (putL W g ((p.length+1)*7) us) g (p.length*7) vs∨W'=putL (putL W g (p.length*7) vs) g ((p.length+1)*7) us)→GRow 7 R K t W' base v (p++y::x::q)∧Fr (fun k=>k=g) W W':=by
 obtain⟨g,c,us,vs,h1,h2,h3,h4,h5,h6,h7,h8,h9⟩:=h.swap
 exact⟨g,c,us,vs,h1,h2,h3,h4,h5,fun j u hu=>by rw[Nat.mul_comm];exact h6 j u hu,fun j u hu=>by rw[Nat.mul_comm];exact h7 j u hu,h8,fun W F W' hW=>h9 W F W' (by rw[Nat.mul_comm 7,Nat.mul_comm 7];exact hW)⟩
end
section
variable {α κ:Type} [DecidableEq κ] {lt:κ→κ→Bool}{key:α→κ}
def sideI (lt:κ→κ→Bool)(key:α→κ):List α→List α→Nat→Nat→List (Option Nat × Option Nat)
 | [],[],_,_=>[]
 |_::l,[],i,j=>(some i,none)::sideI lt key l [] (i+1) j
 | [],_::m,i,j=>(none,some j)::sideI lt key [] m i (j+1)
 |x::l,y::m,i,j=>if lt (key x) (key y)=true then (some i,none)::sideI lt key l (y::m) (i+1) j else if key x=key y then (some i,some j)::sideI lt key l m (i+1) (j+1) else (none,some j)::sideI lt key (x::l) m i (j+1)
termination_by l m=>l.length+m.length
def atP (L M:List α)(p:Option Nat × Option Nat):Option α × Option α:=(p.1.bind (fun i=>L[i]?),p.2.bind (fun j=>M[j]?))
theorem drop_next {L l:List α}{x:α}{i:Nat}(h:L.drop i=x::l):L[i]? = some x∧L.drop (i+1)=l:=by
 have h1:=congrArg (fun z:List α=>z[0]?) h;simp only[List.getElem?_drop,Nat.add_zero,List.getElem?_cons_zero]at h1
 refine⟨h1,?_⟩
 rw[←List.drop_drop,h]
 rfl
theorem sideI_map {L M:List α}:∀ (l m:List α) (i j:Nat),L.drop i=l→M.drop j=m→(sideI lt key l m i j).map (atP L M)=sideS lt key l m
 | [],[],i,j,_,_=>by rw[sideI,sideS];rfl
 |x::l,[],i,j,h1,h2=>by
  obtain⟨g1,g2⟩:=drop_next h1
  rw[sideI,sideS,List.map_cons,sideI_map l [] (i+1) j g2 h2]
  simp[atP,g1]
 | [],y::m,i,j,h1,h2=>by
  obtain⟨g1,g2⟩:=drop_next h2
  rw[sideI,sideS,List.map_cons,sideI_map [] m i (j+1) h1 g2]
  simp[atP,g1]
 |x::l,y::m,i,j,h1,h2=>by
  obtain⟨a1,a2⟩:=drop_next h1
  obtain⟨b1,b2⟩:=drop_next h2
  rw[sideI,sideS]
  by_cases c1:lt (key x) (key y)=true
  ·rw[if_pos c1,if_pos c1,List.map_cons,sideI_map l (y::m) (i+1) j a2 h2]
   simp[atP,a1]
  ·rw[if_neg c1,if_neg c1]
   by_cases c2:key x=key y
   ·rw[if_pos c2,if_pos c2,List.map_cons,sideI_map l m (i+1) (j+1) a2 b2]
    simp[atP,a1,b1]
   ·rw[if_neg c2,if_neg c2,List.map_cons,sideI_map (x::l) m i (j+1) h1 b2]
    simp[atP,b1]
termination_by l m=>l.length+m.length
end
def IterV (P:Program)(gf:Nat)(lb:Array Value)(xs:List Value)(C:Nat→Prop)(base:Nat)(w:World):Prop:=
 ∀ (l:Nat) (J Jx:List Value→World→Prop) (W:World),Fz w W→
  (∀ s A B,J s A→Fr C A B→J s B)→(∀ s A B,Jx s A→Fr C A B→Jx s B)→
  (∀ pre x rest W1,xs=pre++x::rest→J pre W1→YieldAt Fence.wide 1 P l #[x] W1 fun e W'=>
    (e=.returned (.bool true)∧J (pre++[x]) W'∧Fr (fun k=>base≤k∧¬C k) W1 W')∨(e=.returned (.bool false)∧Jx (pre++[x]) W'))→
  J [] W→
  CallsIn Fence.wide 2 P gf (#[.func (.yield l) #[] #[]]++lb) W fun e W'=>(∃ v,e=.returned v)∧(J xs W'∨∃ pre,pre <+: xs∧Jx pre W')
def seqPostV (I:List Value→World→Prop)(Ix:Code→List Value→World→Prop)(base:Nat)(C:Nat→Prop)(E:Nat)(xs:List Value)(W:World):Exit→Act→World→Prop
 |.normal,_,W'=>Fr (fun k=>base≤k∧¬C k∧k≠E∧k≠E+1) W W'∧I xs W'
 |.ret,_,W'=>Fr (fun k=>base≤k∧¬C k∧k≠E∧k≠E+1) W W'∧Ix .ret xs W'
 |.exit id,_,W'=>Fr (fun k=>base≤k∧¬C k∧k≠E∧k≠E+1) W W'∧Ix (.exit id) xs W'
 |.goto t,_,W'=>Fr (fun k=>base≤k∧¬C k∧k≠E∧k≠E+1) W W'∧Ix (.goto t) xs W'
 |.panic _,_,_=>False
 |.outgrown,_,_=>False
variable {P:Program}
def IxSl (W:World)(v:Value)(a:Option Addr)(c:Nat)(l:List RowP):Prop:=(v=.pointer none∧l=[]∧a=none∧c=0)∨∃ b,v=pt b∧W.cell? ⟨b,0,none⟩=some (.slice a l.length c)∧Slots W (.slice a l.length c) l
theorem IxAt.sl {W:World}{v:Value}{l:List RowP}(h:IxAt W v l):∃ a c,IxSl W v a c l:=by
 rcases h with ⟨rfl,rfl⟩|⟨b,u,rfl,h1,h2⟩
 ·exact⟨none,0,.inl ⟨rfl,rfl,rfl,rfl⟩⟩
 ·have h3:=h2
  obtain⟨a,c,rfl,-⟩:=h3
  exact⟨a,c,.inr ⟨b,rfl,h1,h2⟩⟩
theorem IxSl.old {w w':World}{v:Value}{a:Option Addr}{c:Nat}{l:List RowP}(h:IxSl w v a c l)(f:Fz w w'):IxSl w' v a c l:=by
 rcases h with h|⟨b,rfl,h1,h2⟩
 ·exact .inl h
 ·exact .inr ⟨b,rfl,f.cell h1 (fun h=>h),Slots.old h2 f⟩
theorem IxSl.slots {w:World}{v:Value}{a:Option Addr}{c:Nat}{l:List RowP}(h:IxSl w v a c l):Slots w (.slice a l.length c) l:=by
 rcases h with ⟨rfl,rfl,rfl,rfl⟩|⟨b,rfl,h1,h2⟩
 ·exact⟨none,0,rfl,Nat.le_refl _,by unfold maxLen;omega,fun h=>absurd h (by decide)⟩
 ·exact h2
def ptrAt (a:Option Addr)(i:Option Nat):Value:=match a,i with
 |some ⟨b,o,_⟩,some i=>.pointer (some ⟨b,o+i*7,none⟩)
 |_,_=>.pointer none
def pairV (a b:Option Addr)(p:Option Nat × Option Nat):Value:=.agg #[ptrAt a p.1,ptrAt b p.2]
theorem ptrAt_none (a:Option Addr):ptrAt a none=.pointer none:=by cases a<;>rfl
theorem pairV_l {a c:Option Addr}{b o i:Nat}(h:a=some ⟨b,o,none⟩):pairV a c (some i,none)=.agg #[.pointer (some ⟨b,o+i*7,none⟩),.pointer none]:=by
 subst h;unfold pairV;rw[ptrAt_none]
 rfl
theorem pairV_r {a c:Option Addr}{b o j:Nat}(h:c=some ⟨b,o,none⟩):pairV a c (none,some j)=.agg #[.pointer none,.pointer (some ⟨b,o+j*7,none⟩)]:=by
 subst h;unfold pairV;rw[ptrAt_none]
 rfl
theorem pairV_b {a c:Option Addr}{b o i b' o' j:Nat}(h:a=some ⟨b,o,none⟩)(h':c=some ⟨b',o',none⟩):pairV a c (some i,some j)=.agg #[.pointer (some ⟨b,o+i*7,none⟩),.pointer (some ⟨b',o'+j*7,none⟩)]:=by
 subst h h';rfl
def pairsV (a b:Option Addr)(L M:List RowP)(i j:Nat):List Value:=(sideI ltK rowK (L.drop i) (M.drop j) i j).map (pairV a b)
def lenV:Value→Nat
 |.slice _ n _=>n
 |_=>0
def Rest7 (a:Option Addr)(l:List RowP)(i:Nat)(u:Value):Prop:=∃ x n c,u=.slice x n c∧n+i=l.length∧n≤c∧c≤maxLen∧(0<n→∃ b o,a=some ⟨b,o,none⟩∧x=some ⟨b,o+i*7,none⟩)
theorem rest_next {a:Option Addr}{l:List RowP}{i b o n c:Nat}(h1:n+i=l.length)(hn:0<n)(h2:n≤c)(h3:c≤maxLen)(ha:a=some ⟨b,o,none⟩)(x:Option Addr)(hx:c≠1→x=some ⟨b,o+i*7+7,none⟩):Rest7 a l (i+1) (.slice x (n-1) (c-1)):=
 ⟨x,n-1,c-1,rfl,by omega,by omega,by omega,fun h=>⟨b,o,ha,by rw[hx (by omega),Nat.add_mul,Nat.one_mul,Nat.add_assoc]⟩⟩
theorem rest_start {W:World}{a:Option Addr}{c:Nat}{l:List RowP}(h:Slots W (.slice a l.length c) l):Rest7 a l 0 (.slice a l.length c):=by
 obtain⟨_,_,he,h1,h2,h3⟩:=h
 simp only[Value.slice.injEq]at he
 obtain⟨rfl,-,rfl⟩:=he
 exact⟨a,l.length,c,rfl,rfl,h1,h2,fun h0=>by
  obtain⟨b,o,rfl,-⟩:=h3 h0
  exact⟨b,o,rfl,by simp⟩⟩
theorem pairs_l {a b:Option Addr}{L M:List RowP}{i j:Nat}{r:RowP}(h1:L[i]? = some r)(h2:M.length≤j):pairsV a b L M i j=pairV a b (some i,none)::pairsV a b L M (i+1) j:=by
 have hi:=(List.getElem?_eq_some_iff.1 h1).1;unfold pairsV;rw[List.drop_eq_getElem_cons hi,List.drop_eq_nil_of_le h2,sideI]
 rfl
theorem pairs_r {a b:Option Addr}{L M:List RowP}{i j:Nat}{r:RowP}(h1:L.length≤i)(h2:M[j]? = some r):pairsV a b L M i j=pairV a b (none,some j)::pairsV a b L M i (j+1):=by
 have hj:=(List.getElem?_eq_some_iff.1 h2).1;unfold pairsV;rw[List.drop_eq_getElem_cons hj,List.drop_eq_nil_of_le h1,sideI]
 rfl
theorem pairs_end {a b:Option Addr}{L M:List RowP}{i j:Nat}(h1:L.length≤i)(h2:M.length≤j):pairsV a b L M i j=[]:=by
 unfold pairsV;rw[List.drop_eq_nil_of_le h1,List.drop_eq_nil_of_le h2,sideI]
 rfl
theorem pairs_both {a b:Option Addr}{L M:List RowP}{i j:Nat}{r s:RowP}(h1:L[i]? = some r)(h2:M[j]? = some s):pairsV a b L M i j=if rowC r s<0 then pairV a b (some i,none)::pairsV a b L M (i+1) j else if rowC r s=0 then pairV a b (some i,some j)::pairsV a b L M (i+1) (j+1) else pairV a b (none,some j)::pairsV a b L M i (j+1):=by
 have hi:=(List.getElem?_eq_some_iff.1 h1).1;have hj:=(List.getElem?_eq_some_iff.1 h2).1;have hr:L[i]=r:=(List.getElem?_eq_some_iff.1 h1).2;have hs:M[j]=s:=(List.getElem?_eq_some_iff.1 h2).2;unfold pairsV;by_cases c1:rowC r s<0
 ·have g:=rowC_neg.1 c1
  rw[if_pos c1,List.drop_eq_getElem_cons hi,List.drop_eq_getElem_cons hj,sideI,hr,hs,if_pos g]
  rfl
 ·have g:¬ltK (rowK r) (rowK s)=true:=fun h=>c1 (rowC_neg.2 h)
  rw[if_neg c1]
  by_cases c2:rowC r s=0
  ·rw[if_pos c2,List.drop_eq_getElem_cons hi,List.drop_eq_getElem_cons hj,sideI,hr,hs,if_neg g,if_pos (rowC_zero.1 c2)]
   rfl
  ·rw[if_neg c2,List.drop_eq_getElem_cons hi,List.drop_eq_getElem_cons hj,sideI,hr,hs,if_neg g,if_neg (fun h=>c2 (rowC_zero.2 h))]
   rfl
end Go.Q
namespace Go.Proofs.YtehlipgmkinfbaaGreatDoor
open Go Go.RowKit Go.Q
theorem r22Place_any (s:RowP)(v vi vs:Value)(l:List RowP)(w:World)(h:Refs w v l)(h1:NameAt w vi s.iss)(h2:Bytes w vs s.num.size)(hf:∀ r∈l,fitR r)(hs:fitR s)(hl:l.length≤1000000) :
  Calls Tryz.prog 31 #[v,vi,.agg #[.bool s.num.below,vs]] w fun e w'=>e=.returned (.tuple #[.int .i64 (placeR s l 0).1,.bool (placeR s l 0).2])∧Fz w w':=by
 have H:=Hi h;have HFT:=Hi hf;obtain⟨a0,cap0,rfl,-⟩:=h
 obtain⟨a2,c2,rfl⟩:=NameAt.shape h1
 obtain⟨b2,d2,rfl,-⟩:=h2.form
 obtain⟨z,hz⟩:∃ z,z=w.heap.size:=⟨_,rfl⟩
 have HZ:=Hi hz;obtain⟨n0,b0,hr0⟩:∃ n0 b0,placeR s l 0=(n0,b0):=⟨_,_,rfl⟩
 rw[hr0]
 have HR:=Hi hr0;have HS:=Hi hs;have HN:=Hi h1;have HB:=Hi h2;clear hf h1 h2 hz hr0 hs;go_enter Tryz.func31,Tryz.ntmps31
 go_wp2_with fail
 rw[←HZ.out]
 have F0:Fz w ((w.alloc (.cells #[.bool s.num.below,.slice b2 s.num.size.length d2] 54)).alloc (.cells #[.slice a2 s.iss.length c2,.bool s.num.below,.slice b2 s.num.size.length d2,.int .i64 0,.int .i64 0,.bool false,.int .i64 0] 56)):=((Fr.refl w).alloc _).alloc _;have BA:=Blk.new (w.alloc (.cells #[.bool s.num.below,.slice b2 s.num.size.length d2] 54)) 56 #[.slice a2 s.iss.length c2,.bool s.num.below,.slice b2 s.num.size.length d2,.int .i64 0,.int .i64 0,.bool false,.int .i64 0];rw[World.size_alloc,←HZ.out]at BA
 have HF0:=Hi F0;have HBA:=Hi BA;clear F0 BA;generalize ((w.alloc (.cells #[.bool s.num.below,.slice b2 s.num.size.length d2] 54)).alloc (.cells #[.slice a2 s.iss.length c2,.bool s.num.below,.slice b2 s.num.size.length d2,.int .i64 0,.int .i64 0,.bool false,.int .i64 0] 56))=w0 at *
 go_loopg [9,10] l.length (fun g u i wr=>∃ j n:Nat,g=l.length-j∧j≤l.length∧n≤j∧u=.int .i64 n∧i=.int .i64 j∧Hid (placeR s (l.drop j) n=(n0,b0))∧Hid (Fz w0 wr))
 case atStart=>exact⟨0,0,rfl,Nat.zero_le _,Nat.le_refl _,rfl,rfl,HR,Hi (Fr.refl _)⟩
 case round=>
  obtain⟨j,n,hg,hj,hnj,rfl,rfl,HP,HF⟩:=hrel
  have HG:=Hi hg;clear hg;have r1:(0:Int)≤(j:Int):=by omega
  by_cases hjl:j<l.length
  ·obtain⟨x,hx⟩:∃ x,l[j]? = some x:=⟨_,List.getElem?_eq_getElem hjl⟩
   have hdx:l.drop j=x::l.drop (j+1):=by
    rw[List.drop_eq_getElem_cons hjl]
    rw[List.getElem?_eq_getElem hjl]at hx
    rw[Option.some.inj hx]
   have hp:=HP.out;rw[hdx]at hp
   unfold placeR at hp;have HPP:=Hi hp;have HFW:=Hi (HF0.out.trans HF.out);obtain⟨b,o,cs,rfl,-,-,hR,hcell⟩:=LAt.get H.out hx
   obtain⟨a1,c1,b1,d1,rfl,hn1,hb1⟩:=hR.form
   have HSX:=Hi (fun W (F:Fz wr W)=>show W.cell? ⟨b,o+j*7,none⟩=some (.slice a1 x.iss.length c1)∧W.cell? ⟨b,o+j*7+1,none⟩=some (.bool x.num.below)∧W.cell? ⟨b,o+j*7+2,none⟩=some (.slice b1 x.num.size.length d1)∧W.cell? ⟨b,o+j*7+3,none⟩=some (.int .i64 x.date)∧W.cell? ⟨b,o+j*7+4,none⟩=some (.int .i64 x.reason)∧W.cell? ⟨b,o+j*7+5,none⟩=some (.bool x.inv.isSome)∧W.cell? ⟨b,o+j*7+6,none⟩=some (.int .i64 (x.inv.getD 0))∧∀ jj,W.cell? ⟨z+1,jj,none⟩=(#[.slice a2 s.iss.length c2,.bool s.num.below,.slice b2 s.num.size.length d2,.int .i64 0,.int .i64 0,.bool false,.int .i64 0]:Array Value)[jj]? from ⟨by have:=(HFW.out.trans F).cell (hcell 0 _ rfl) (fun h=>h);rwa[Nat.add_zero]at this,(HFW.out.trans F).cell (hcell 1 _ rfl) (fun h=>h),(HFW.out.trans F).cell (hcell 2 _ rfl) (fun h=>h),(HFW.out.trans F).cell (hcell 3 _ rfl) (fun h=>h),(HFW.out.trans F).cell (hcell 4 _ rfl) (fun h=>h),(HFW.out.trans F).cell (hcell 5 _ rfl) (fun h=>h),(HFW.out.trans F).cell (hcell 6 _ rfl) (fun h=>h),(HBA.out.fr (HF.out.trans F) (fun h=>h)).cell⟩)
   obtain⟨rc,hrc⟩:∃ rc,rc=rowC x s:=⟨_,rfl⟩
   have hfx:=HFT.out x (List.mem_of_getElem? hx);have HAH:=Hi (fun W (F:Fz wr W)=>r22Ahead_any x s a1 b1 a2 b2 c1 d1 c2 d2 x.date x.reason (x.inv.getD 0) 0 0 0 x.inv.isSome false W (hn1.old (HFW.out.trans F)) (hb1.old (HFW.out.trans F)) (HN.out.old (HFW.out.trans F)) (HB.out.old (HFW.out.trans F)) hfx HS.out);rw[←hrc]at HAH HPP
   have r2:(j:Int)<(l.length:Int):=by omega
   clear hx hdx hp hR hcell hn1 hb1 hfx hrc;go_upto_region 6 with fail
   have GD:Fz wr wr.drew:=(Fr.refl wr).drew
   refine wp_region_N 7 (S:=fun w'=>w'.cell? ⟨b,o+j*7,none⟩=some (.slice a1 x.iss.length c1)∧w'.cell? ⟨b,o+j*7+1,none⟩=some (.bool x.num.below)∧w'.cell? ⟨b,o+j*7+2,none⟩=some (.slice b1 x.num.size.length d1)∧w'.cell? ⟨b,o+j*7+3,none⟩=some (.int .i64 x.date)∧w'.cell? ⟨b,o+j*7+4,none⟩=some (.int .i64 x.reason)∧w'.cell? ⟨b,o+j*7+5,none⟩=some (.bool x.inv.isSome)∧w'.cell? ⟨b,o+j*7+6,none⟩=some (.int .i64 (x.inv.getD 0))∧∀ jj,w'.cell? ⟨z+1,jj,none⟩=(#[.slice a2 s.iss.length c2,.bool s.num.below,.slice b2 s.num.size.length d2,.int .i64 0,.int .i64 0,.bool false,.int .i64 0]:Array Value)[jj]?) (by kernel_rfl) ?_ (fun hHeld=>?_)
   ·exact HSX.out _ GD
   refine tkN 0 rfl hHeld ?_;refine tkN 1 rfl hHeld ?_;refine tkN 2 rfl hHeld ?_;(try simp only[Act.put,SS]);refine tkN 3 rfl hHeld ?_;refine tkN 4 rfl hHeld ?_;(try simp only[Act.put,SS]);refine wpAnyN_step (i:=5) (by kernel_rfl) (o:=_) rfl (fun KK hKK=>?_);go_simp
   (go_at_call 40;(with_reducible refine(HAH.out _ GD).mono ?_);rintro e w' ⟨rfl,F⟩;have G2:=GD.trans F;clear F HAH;go_wp2_with fail)
   refine hKK.out _ _ ?_ (fun hHeld=>?_)
   ·exact HSX.out _ G2
   clear hKK KK;(try simp only[Act.put,SS]);refine tkN 6 rfl hHeld ?_;(try simp only[Act.put,SS]);refine wpAnyN_done (by kernel_rfl) ?_ _;have HF2:=Hi (HF.out.trans G2);clear GD G2 hHeld;by_cases h0:rc=0
   ·have q1:(rc==0)=true:=by simp[h0]
    have hpp:=HPP.out;rw[if_pos h0]at hpp
    have HQ:=Hi hpp;clear hpp h0;go_wp2_with fail
    refine bodyPost_ret (v:=.tuple #[.int .i64 n,.bool true]) (by simp[results,Tryz.results31,go_sem]) rfl ⟨?_,HF0.out.trans HF2.out⟩;have hq:=HQ.out;simp only[Prod.mk.injEq]at hq
    rw[hq.1,hq.2]
   ·have q1:(rc==0)=false:=beq_eq_false_iff_ne.2 h0
    have hpp:=HPP.out;rw[if_neg h0]at hpp
    by_cases hneg:rc<0
    ·rw[if_pos hneg]at hpp
     have HQ:=Hi hpp;clear hpp h0;go_wp2_with fail
     go_roundg (l.length-(j+1))
     case measure=>rw[HG.out];omega
     case rel=>exact⟨j+1,n+1,rfl,by omega,by omega,by go_num,by go_num,HQ,HF2⟩
    ·rw[if_neg hneg]at hpp
     have HQ:=Hi hpp;clear hpp h0;go_wp2_with fail
     go_roundg (l.length-(j+1))
     case measure=>rw[HG.out];omega
     case rel=>exact⟨j+1,n,rfl,by omega,by omega,rfl,by go_num,HQ,HF2⟩
  ·have r2:¬(j:Int)<(l.length:Int):=by omega
   have hp:=HP.out;rw[List.drop_eq_nil_of_le (by omega)]at hp
   unfold placeR at hp;have HQ:=Hi hp;clear hp;go_wp2_with fail
   refine bodyPost_ret (v:=.tuple #[.int .i64 n,.bool false]) (by simp[results,Tryz.results31,go_sem]) rfl ⟨?_,HF0.out.trans HF.out⟩;have hq:=HQ.out;simp only[Prod.mk.injEq]at hq
   rw[hq.1,hq.2]
theorem orderSlots_any (cs ds:List Value)(r q:RowP)(w:World)(h:RSlot w cs r)(hu:RSlot w ds q)(h1:r.num.size.length≤1000000)(h2:q.num.size.length≤1000000) :
  Calls Tryz.prog 39 #[.agg cs.toArray,.agg ds.toArray] w fun e w'=>e=.returned (.int .i64 (rowC r q))∧Fz w w':=by
 obtain⟨us,rfl,g1⟩:=h
 obtain⟨vs,rfl,g2⟩:=hu
 obtain⟨a1,c1,a2,c2,q1,rfl,-,b1,-⟩:=g1.form
 obtain⟨d1,e1,d2,e2,q2,rfl,-,b2,-⟩:=g2.form
 rw[rowC_keys]
 exact order_any _ _ r.num q.num _ _ _ _ _ _ _ _ _ _ _ _ _ _ _ _ w b1 b2 (by omega) (by omega)
theorem seven_of {l:List Value}(h:l.length=7):∃ a b c d e f g,l=[a,b,c,d,e,f,g]:=by
 match l,h with
 | [a,b,c,d,e,f,g],_=>exact⟨a,b,c,d,e,f,g,rfl⟩
theorem insSort_any (v:Value)(l:List RowP)(base:Nat)(K:Nat→Prop)(w:World)(h:GRow 7 RSlot K 78 w base v l)(hl:l.length≤12)(hs:∀ r∈l,r.num.size.length≤1000000) :
  Calls Tryz.prog 98 #[v,.int .i64 0,.int .i64 l.length,.func (.func 39) #[] #[]] w fun e w'=>e=.returned (.tuple #[])∧(∃ s,s.Perm l∧Upw ltK rowK s∧GRow 7 RSlot K 78 w' base v s)∧Fr (fun k=>v.ownBlock=some k) w w':=by
 obtain⟨a,c,rfl⟩:=h.shape
 have H:=Hi h;have HS:=Hi hs;clear h hs;go_enter Tryz.func98,Tryz.ntmps98
 go_wp2_with fail
 go_loopg [8] l.length (fun g ii wr=>∃ (q:Nat) (s:List RowP),g=l.length-q∧q≤1000∧ii=.int .i64 ((q:Int)+1)∧Hid (s.Perm (l.take (q+1)))∧Hid (Upw ltK rowK s)∧Hid (GRow 7 RSlot K 78 wr base (.slice a l.length c) (s++l.drop (q+1)))∧Hid (Fr (fun k=>(Value.slice a l.length c).ownBlock=some k) w wr))
 case atStart=>
  refine⟨0,l.take 1,rfl,by omega,rfl,Hi (List.Perm.refl _),Hi ?_,Hi (by rw[List.take_append_drop];exact H.out),Hi (Fr.refl _)⟩
  cases l with
  |nil=>exact List.Pairwise.nil
  |cons x t=>exact List.pairwise_singleton _ _
 case round=>
  obtain⟨q,s,hg,hq,rfl,HP,HU,HGR,HF⟩:=hrel
  have HG:=Hi hg;clear hg;generalize wr=w1 at *
  by_cases hql:q+1<l.length
  ·have q1:(q:Int)+1<(l.length:Int):=by omega
   obtain⟨x,hx⟩:∃ x,l[q+1]? = some x:=⟨_,List.getElem?_eq_getElem hql⟩
   have HX:=Hi hx;have hd:l.drop (q+1)=x::l.drop (q+1+1):=by
    rw[List.drop_eq_getElem_cons hql]
    rw[List.getElem?_eq_getElem hql,Option.some.injEq]at hx
    rw[hx]
   have HD:=Hi hd;have hxm:=List.mem_of_getElem? hx;have hsx:=HS.out x hxm;have hsl:s.length=q+1:=by
    have:=HP.out.length_eq;rw[List.length_take]at this
    omega
   have HSL:=Hi hsl;clear hx hd hsl hxm;go_wp2_with fail
   go_loopg [9] (q+1) (fun g jj wx=>∃ (P Q:List RowP),g=P.length∧jj=.int .i64 P.length∧P.length+Q.length=q+1∧Hid ((P++x::Q).Perm (l.take (q+1+1)))∧Hid (Mid ltK rowK P x Q)∧Hid (GRow 7 RSlot K 78 wx base (.slice a l.length c) (P++x::(Q++l.drop (q+1+1))))∧Hid (Fr (fun k=>(Value.slice a l.length c).ownBlock=some k) w wx))
   case atStart=>
    have hsl:=HSL.out;refine⟨s,[],hsl.symm,by rw[hsl];rfl,by rw[hsl];rfl,Hi ?_,Hi (mid_start x HU.out),Hi ?_,HF⟩
    ·rw[List.take_add_one,HX.out]
     exact HP.out.append_right [x]
    ·have:=HGR.out
     rw[HD.out]at this
     exact this
   case round=>
    obtain⟨P,Q,hg2,rfl,hPQ,HP2,HM,HG2,HF2⟩:=hrel
    have HGM:=Hi hg2;clear hg2;have HNX:=Hi (fun (hp:∀ p,P.getLast? = some p→ltK (rowK x) (rowK p)=false)=>show (P++x::Q).Perm (l.take (q+1+1))∧Upw ltK rowK (P++x::Q) from ⟨HP2.out,mid_end ordK HM.out hp⟩);rcases List.eq_nil_or_concat P with rfl|⟨P',p,hPe⟩
    ·have c1:decide ((0:Int)<0)=false:=rfl
     have HFD:=Hi (fun k=>HF2.out.drewN (S:=fun k=>(Value.slice a l.length c).ownBlock=some k) k);have HGD:=Hi (fun k=>HG2.out.old ((Fr.refl wr).drewN (S:=fun _=>False) k));go_upto_region 4 with fail
     go_quiet (fail)
     go_wp2_with fail
     go_roundg (l.length-(q+1))
     case measure=>rw[HG.out];omega
     case rel=>exact⟨q+1,[]++x::Q,rfl,by omega,by go_num,Hi (HNX.out (fun p hp=>by cases hp)).1,Hi (HNX.out (fun p hp=>by cases hp)).2,Hi (by have:=HGD.out nq;simp only[List.append_assoc,List.cons_append,List.nil_append]at this ⊢;exact this),Hi (HFD.out nq)⟩
    ·rw[List.concat_eq_append]at hPe
     subst hPe;obtain⟨m,hm⟩:∃ m,m=P'.length:=⟨_,rfl⟩
     have hpl:(P'++[p]).length=m+1:=by rw[List.length_append,hm];rfl
     have hg3:=HG2.out;rw[List.append_assoc,List.singleton_append]at hg3
     obtain⟨g,cg,us,vs,hv,u1,v1,ku,kv,eu,ev,fz,hsw⟩:=hg3.swap7
     simp only[Value.slice.injEq]at hv
     obtain⟨rfl,hln,rfl⟩:=hv
     rw[←hm]at eu ev hsw
     have hsp:=HS.out p (by
      have:p∈l.take (q+1+1):=HP2.out.mem_iff.1 (by simp);exact List.mem_of_mem_take this)
     have HC:=Hi (fun W (F:Fz wr W)=>orderSlots_any vs us x p W (kv.old F).now (ku.old F).now hsx hsp);have HSW:=Hi hsw;obtain⟨k,hk⟩:∃ k,k=rowC x p:=⟨_,rfl⟩
     rw[←hk]at HC
     have HK:=Hi hk;obtain⟨us',hus,hpr⟩:=ku.now
     obtain⟨ks,hks⟩:∃ ks,str (nameKeyS p.iss)=.string ks:=⟨_,rfl⟩
     rw[hks]at hus
     obtain⟨e1,e2,e3,e4,e5,he,-⟩:=hpr.form
     subst he;subst hus;obtain⟨vs',hvs,hpr'⟩:=kv.now
     obtain⟨ls,hls⟩:∃ ls,str (nameKeyS x.iss)=.string ls:=⟨_,rfl⟩
     rw[hls]at hvs
     obtain⟨d1,d2,d3,d4,d5,he,-⟩:=hpr'.form
     subst he;subst hvs;clear hks hls hpr hpr';have HFZ:=Hi fz;have HPL:=Hi hm
     have hE:∀ W,Fz wr W→(W.cell? ⟨g,m*7,none⟩=some (.string ks)∧W.cell? ⟨g,m*7+1,none⟩=some (.slice e1 p.iss.length e2)∧W.cell? ⟨g,m*7+2,none⟩=some (.bool p.num.below)∧W.cell? ⟨g,m*7+3,none⟩=some (.slice e3 p.num.size.length e4)∧W.cell? ⟨g,m*7+4,none⟩=some (.int .i64 p.date)∧W.cell? ⟨g,m*7+5,none⟩=some (.int .i64 p.reason)∧W.cell? ⟨g,m*7+6,none⟩=some (.pointer e5))∧(W.cell? ⟨g,(m+1)*7,none⟩=some (.string ls)∧W.cell? ⟨g,(m+1)*7+1,none⟩=some (.slice d1 x.iss.length d2)∧W.cell? ⟨g,(m+1)*7+2,none⟩=some (.bool x.num.below)∧W.cell? ⟨g,(m+1)*7+3,none⟩=some (.slice d3 x.num.size.length d4)∧W.cell? ⟨g,(m+1)*7+4,none⟩=some (.int .i64 x.date)∧W.cell? ⟨g,(m+1)*7+5,none⟩=some (.int .i64 x.reason)∧W.cell? ⟨g,(m+1)*7+6,none⟩=some (.pointer d5)):=fun W F=>
      ⟨⟨F.cell (eu 0 _ rfl) (fun h=>h),F.cell (eu 1 _ rfl) (fun h=>h),F.cell (eu 2 _ rfl) (fun h=>h),F.cell (eu 3 _ rfl) (fun h=>h),F.cell (eu 4 _ rfl) (fun h=>h),F.cell (eu 5 _ rfl) (fun h=>h),F.cell (eu 6 _ rfl) (fun h=>h)⟩,F.cell (ev 0 _ rfl) (fun h=>h),F.cell (ev 1 _ rfl) (fun h=>h),F.cell (ev 2 _ rfl) (fun h=>h),F.cell (ev 3 _ rfl) (fun h=>h),F.cell (ev 4 _ rfl) (fun h=>h),F.cell (ev 5 _ rfl) (fun h=>h),F.cell (ev 6 _ rfl) (fun h=>h)⟩
     have HEE:=Hi hE;have hml:m+1<l.length:=by omega
     have HML:=Hi hln;rw[hpl] at *
     have c0:decide ((0:Int)<(m:Int)+1)=true:=decide_eq_true (by omega);have c3:(0:Int)≤(m:Int):=by omega
     have c4:(m:Int)<(l.length:Int):=by omega
     have c5:(0:Int)≤(m:Int)+1:=by omega
     have c6:(m:Int)+1<(l.length:Int):=by omega
     have c7:((m:Int)+1).toNat=m+1:=by omega
     have hw1:IntKind.i64.wrap ((m:Int)+1-1)=(m:Int):=by simp[IntKind.wrap,IntKind.signed,IntKind.bits];omega
     have hw2:IntKind.i64.wrap (m:Int)=(m:Int):=by simp[IntKind.wrap,IntKind.signed,IntKind.bits];omega
     have HFD:=Hi ((Fr.refl wr).drew:Fz wr wr.drew);clear hk eu ev hsw ku kv fz hg3 hE hln hm;by_cases hlt:k<0
     ·have c1:decide (k<0)=true:=decide_eq_true hlt
      have HLT:=Hi (show ltK (rowK x) (rowK p)=true from rowC_neg.1 (by rw[←HK.out];exact hlt));clear hlt;go_upto_region 4 with fail
      go_region_held3 (fun w'=>(w'.cell? ⟨g,m*7,none⟩=some (.string ks)∧w'.cell? ⟨g,m*7+1,none⟩=some (.slice e1 p.iss.length e2)∧w'.cell? ⟨g,m*7+2,none⟩=some (.bool p.num.below)∧w'.cell? ⟨g,m*7+3,none⟩=some (.slice e3 p.num.size.length e4)∧w'.cell? ⟨g,m*7+4,none⟩=some (.int .i64 p.date)∧w'.cell? ⟨g,m*7+5,none⟩=some (.int .i64 p.reason)∧w'.cell? ⟨g,m*7+6,none⟩=some (.pointer e5))∧w'.cell? ⟨g,(m+1)*7,none⟩=some (.string ls)∧w'.cell? ⟨g,(m+1)*7+1,none⟩=some (.slice d1 x.iss.length d2)∧w'.cell? ⟨g,(m+1)*7+2,none⟩=some (.bool x.num.below)∧w'.cell? ⟨g,(m+1)*7+3,none⟩=some (.slice d3 x.num.size.length d4)∧w'.cell? ⟨g,(m+1)*7+4,none⟩=some (.int .i64 x.date)∧w'.cell? ⟨g,(m+1)*7+5,none⟩=some (.int .i64 x.reason)∧w'.cell? ⟨g,(m+1)*7+6,none⟩=some (.pointer d5)) (first|(with_reducible exact HEE.out _ HFD.out)|(with_reducible exact HEE.out _ (HFD.out.trans F2))|fail) (first
       |(go_at_call 39;(with_reducible refine(HC.out _ HFD.out).mono ?_);rintro e w2 ⟨rfl,F2⟩)
       |fail)
      all_goals
       have HF3:=Hi (HFD.out.trans F2);have HF4:=Hi ((HFD.out.trans F2).drew);obtain⟨⟨y0,y1,y2,y3,y4,y5,y6⟩,y7,y8,y9,y10,y11,y12,y13⟩:=HEE.out _ HF4.out
       have fzz:=HFZ.out _ HF4.out;have f0:=fzz (m*7);have f1:=fzz (m*7+1);have f2:=fzz (m*7+2);have f3:=fzz (m*7+3);have f4:=fzz (m*7+4);have f5:=fzz (m*7+5);have f6:=fzz (m*7+6);have f7:=fzz ((m+1)*7);have f8:=fzz ((m+1)*7+1);have f9:=fzz ((m+1)*7+2);have f10:=fzz ((m+1)*7+3);have f11:=fzz ((m+1)*7+4);have f12:=fzz ((m+1)*7+5);have f13:=fzz ((m+1)*7+6);have gzz:=HFZ.out _ HF3.out;have g0:=gzz (m*7);have g1:=gzz (m*7+1);have g2:=gzz (m*7+2);have g3:=gzz (m*7+3);have g4:=gzz (m*7+4);have g5:=gzz (m*7+5);have g6:=gzz (m*7+6);have g7:=gzz ((m+1)*7);have g8:=gzz ((m+1)*7+1);have g9:=gzz ((m+1)*7+2)
       have g10:=gzz ((m+1)*7+3);have g11:=gzz ((m+1)*7+4);have g12:=gzz ((m+1)*7+5);have g13:=gzz ((m+1)*7+6);have hsA:=HSW.out _ HF3.out _ (.inl rfl);simp only[putL,Nat.add_assoc,Nat.reduceAdd]at hsA
       have HSA:=Hi hsA;clear F2 fzz gzz hsA HC;go_upto_region 6 with fail
       go_region_law fail
       all_goals
        clear y0 y1 y2 y3 y4 y5 y6 y7 y8 y9 y10 y11 y12 y13 f0 f1 f2 f3 f4 f5 f6 f7 f8 f9 f10 f11 f12 f13 g0 g1 g2 g3 g4 g5 g6 g7 g8 g9 g10 g11 g12 g13;have HGX:=Hi (HSA.out.1.old ((Fr.refl _).drew));have HFX:=Hi ((HF2.out.trans (HF3.out.mono (T:=fun k=>(Value.slice (some ⟨g,0,none⟩) l.length c).ownBlock=some k) (fun _ _ h=>h.elim))).trans ((HSA.out.2.mono (T:=fun k=>(Value.slice (some ⟨g,0,none⟩) l.length c).ownBlock=some k) (fun k _ e=>by rw[e];rfl)).drew));clear HSA;go_wp2_with fail
        go_roundg m
        case measure=>have:=HPL.out;have:=HGM.out;simp only[List.length_append,List.length_singleton] at *;omega
        case rel=>exact⟨P',p::Q,HPL.out,by first|(rw[←HPL.out];done)|(rw[←HPL.out];go_num),by have:=HPL.out;simp only[List.length_append,List.length_cons,List.length_nil]at hPQ ⊢;omega,Hi ((List.Perm.append_left P' (List.Perm.swap p x Q)).trans (by have:=HP2.out;rw[List.append_assoc]at this;exact this)),Hi (mid_step HM.out HLT.out),HGX,HFX⟩
     ·have c1:decide (k<0)=false:=decide_eq_false hlt
      have HLT:=Hi (show ltK (rowK x) (rowK p)=false from by
       cases h:ltK (rowK x) (rowK p) with
       |false=>rfl
       |true=>exact absurd (by rw[HK.out];exact rowC_neg.2 h) hlt)
      clear hlt;go_upto_region 4 with fail
      go_region_held3 (fun w'=>(w'.cell? ⟨g,m*7,none⟩=some (.string ks)∧w'.cell? ⟨g,m*7+1,none⟩=some (.slice e1 p.iss.length e2)∧w'.cell? ⟨g,m*7+2,none⟩=some (.bool p.num.below)∧w'.cell? ⟨g,m*7+3,none⟩=some (.slice e3 p.num.size.length e4)∧w'.cell? ⟨g,m*7+4,none⟩=some (.int .i64 p.date)∧w'.cell? ⟨g,m*7+5,none⟩=some (.int .i64 p.reason)∧w'.cell? ⟨g,m*7+6,none⟩=some (.pointer e5))∧w'.cell? ⟨g,(m+1)*7,none⟩=some (.string ls)∧w'.cell? ⟨g,(m+1)*7+1,none⟩=some (.slice d1 x.iss.length d2)∧w'.cell? ⟨g,(m+1)*7+2,none⟩=some (.bool x.num.below)∧w'.cell? ⟨g,(m+1)*7+3,none⟩=some (.slice d3 x.num.size.length d4)∧w'.cell? ⟨g,(m+1)*7+4,none⟩=some (.int .i64 x.date)∧w'.cell? ⟨g,(m+1)*7+5,none⟩=some (.int .i64 x.reason)∧w'.cell? ⟨g,(m+1)*7+6,none⟩=some (.pointer d5)) (first|(with_reducible exact HEE.out _ HFD.out)|(with_reducible exact HEE.out _ (HFD.out.trans F2))|fail) (first
       |(go_at_call 39;(with_reducible refine(HC.out _ HFD.out).mono ?_);rintro e w2 ⟨rfl,F2⟩)
       |fail)
      all_goals
       have HF3:=Hi (HFD.out.trans F2);clear F2 HC;go_wp2_with fail
       go_roundg (l.length-(q+1))
       case measure=>rw[HG.out];omega
       case rel=>exact⟨q+1,(P'++[p])++x::Q,rfl,by omega,by go_num,Hi (HNX.out (fun p' hp=>by simp at hp;subst hp;exact HLT.out)).1,Hi (HNX.out (fun p' hp=>by simp at hp;subst hp;exact HLT.out)).2,Hi (by have:=HG2.out.old HF3.out;simp only[List.append_assoc,List.cons_append,List.nil_append]at this ⊢;exact this),Hi (HF2.out.trans (HF3.out.mono (fun _ _ h=>h.elim)))⟩
  ·have HE:=Hi (show s.Perm l from by have:=HP.out;rwa[List.take_of_length_le (by omega)]at this)
   have HGE:=HGR.out;rw[List.drop_eq_nil_of_le (by omega),List.append_nil]at HGE
   replace HGE:=Hi HGE;have q1:¬(q:Int)+1<(l.length:Int):=by omega
   go_wp2_with fail
   go_end0
   exact⟨rfl,⟨s,HE.out,HU.out,HGE.out⟩,HF.out⟩
theorem slotsX_any (v:Value)(a:Option Addr)(c:Nat)(l:List RowP)(w:World)(h:IxSl w v a c l) :
  Calls Tryz.prog 45 #[v] w fun e w'=>e=.returned (.slice a l.length c)∧w'=w:=by
 rcases h with ⟨rfl,rfl,rfl,rfl⟩|⟨b,rfl,hc,hs⟩
 ·go_enter Tryz.func45,Tryz.ntmps45
  go_wp2_with fail
  go_ret;exact⟨rfl,rfl⟩
 ·clear hs
  go_enter Tryz.func45,Tryz.ntmps45
  go_wp2_with fail
  go_ret;exact⟨rfl,rfl⟩
end Go.Proofs.YtehlipgmkinfbaaGreatDoor
