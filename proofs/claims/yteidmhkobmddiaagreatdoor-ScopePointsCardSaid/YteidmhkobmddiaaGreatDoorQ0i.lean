/-
  Merged by program: XNRdnK XNSame XNTexts XR04 XR14W XR01 XR14S XNRow XNClone XGRow XGAll XNSort XNSheet XNSheet2 XNSheet3 XNSheet4 XNWrite XR14B XNbLaw XMany.
-/
import Derived.Test.YteidmhkobmddiaaGreatDoorQ0h
import Derived.Deep.CutRange
import Derived.Deep.Cut
set_option linter.unusedSimpArgs false
set_option maxRecDepth 100000
set_option maxHeartbeats 8000000
namespace Go.Q
open Go Go.RowKit
def partKeys (r:List Part):List (List UInt8):=r.map fun p=>attrKeyS p.o p.b
def rdnKeyS (r:List Part):List UInt8:=Lib.join (Lib.compact (sortS (partKeys r))) [43]
theorem join_len (c:UInt8)(M:Nat):∀ ks:List (List UInt8),(∀ k∈ks,k.length≤M)→(Lib.join ks [c]).length≤ks.length*(M+1)
 | [],_=>by simp[Lib.join]
 | [k],h=>by
  have:=h k (by simp);simp[Lib.join]
  omega
 |k::l::t,h=>by
  have h1:=h k (by simp);have ih:=join_len c M (l::t) (fun x hx=>h x (by simp[List.mem_cons.1 hx]));have e:Lib.join (k::l::t) [c]=k++([c]++Lib.join (l::t) [c]):=by simp[Lib.join,List.intercalate]
  rw[e]
  simp only[List.length_append,List.length_cons,List.length_nil]at ih ⊢
  rw[Nat.add_mul (t.length+1) 1 (M+1)]
  omega
theorem compact_mem {zs:List (List UInt8)}{x:List UInt8}(h:x∈Lib.compact zs):x∈zs:=by
 unfold Lib.compact Lib.compactUpTo at h;obtain⟨i,hi,rfl⟩:=List.mem_map.1 h
 have hi2:=List.mem_range.1 (List.mem_filter.1 hi).1;simp[hi2]
theorem sort_mem {zs:List (List UInt8)}{x:List UInt8}(h:x∈sortS zs):x∈zs:=by
 unfold sortS at h;simpa using h
theorem attrKey_len {o:List Int}{b:List UInt8}(ho:oidOk o=true)(hb:b.length≤10000000):(attrKeyS o b).length≤160001100:=by
 have hol:=(Go.Proofs.YteidmhkobmddiaaGreatDoor.nums_ok ho).2.1;have h1:=oidText_len (o:=o) (fun n hn=>by
  simp only[oidOk,Bool.and_eq_true,decide_eq_true_eq]at ho
  have:=List.all_eq_true.1 ho.1.2 n hn;simp only[arcOk,decide_eq_true_eq]at this
  omega)
 unfold attrKeyS;rw[List.length_append]
 cases hr:textReadS b with
 |error e=>
  simp only[List.length_append,List.length_cons,List.length_nil,hexS_len]
  omega
 |ok kbn=>
  obtain⟨k,t,n⟩:=kbn
  have h2:=(textRead_ok hr).2;have h3:=foldKey_len k t;simp only[List.length_append,List.length_cons,List.length_nil,hexS_len]
  omega
def nameKeyS (n:List (List Part)):List UInt8:=Lib.join (n.map rdnKeyS) [47]
theorem steps_oids:∀ (l:List Part) (last:Option (List UInt8)),(stepsS last l).isSome=true→∀ p∈l,oidOk p.o=true
 | [],_,_,p,hp=>by cases hp
 |q::t,last,h,p,hp=>by
  simp only[stepsS]at h
  cases hq:attrS q.o q.b with
  |none=>rw[hq]at h;cases h
  |some x=>
   rw[hq]at h
   have hqo:oidOk q.o=true:=by
    unfold attrS at hq;split at hq
    ·rename_i hh;rw[Bool.and_eq_true]at hh;exact hh.1
    ·cases hq
   have ht:(stepsS (some x) t).isSome=true:=by
    cases last with
    |none=>simpa using h
    |some y=>
     by_cases hc:0≤cmpS y x
     ·simp[hc]at h
     ·simpa [hc] using h
   rcases List.mem_cons.1 hp with rfl|hm
   ·exact hqo
   ·exact steps_oids t (some x) ht p hm
theorem rdn_oids {l:List Part}(h:(rdnS l).isSome=true):l.length≤16∧∀ p∈l,oidOk p.o=true:=by
 unfold rdnS at h;split at h
 ·cases h
 ·exact⟨by omega,steps_oids l none h⟩
theorem rdnKey_len {l:List Part}(hf:fewB l)(h:(rdnS l).isSome=true):(rdnKeyS l).length≤2560017616:=by
 obtain⟨h1,h2⟩:=rdn_oids h
 have hcl:=Lib.compact_length_le (sortS (partKeys l));have hsl:(sortS (partKeys l)).length=l.length:=by simp[sortS,partKeys]
 rw[hsl]at hcl
 have:=join_len 43 160001100 (Lib.compact (sortS (partKeys l))) (fun k hk=>by
  have h3:=sort_mem (compact_mem hk);obtain⟨p,hp,rfl⟩:=List.mem_map.1 h3
  exact attrKey_len (h2 p hp) (hf p hp))
 unfold rdnKeyS;have h4:(Lib.compact (sortS (partKeys l))).length*(160001100+1)≤16*(160001100+1):=Nat.mul_le_mul_right _ (by omega);omega
theorem name_rdns {n:List (List Part)}(h:nameOk n=true):n.length≤64∧∀ r∈n,(rdnS r).isSome=true:=by
 unfold nameOk at h;rw[Bool.and_eq_true]at h
 exact⟨of_decide_eq_true h.1,fun r hr=>List.all_eq_true.1 h.2 r hr⟩
def nameSameS (a b:List (List Part)):Bool:=nameOk a&&(nameOk b&&decide (nameKeyS a=nameKeyS b))
theorem cmpI_drop {o p:List Int}{j:Nat}{x y:Int}(hx:o[j]? = some x)(hy:p[j]? = some y):cmpI (o.drop j) (p.drop j)=if x<y then -1 else if y<x then 1 else cmpI (o.drop (j+1)) (p.drop (j+1)):=by
 have h1:o.drop j=x::o.drop (j+1):=by
  obtain⟨h,rfl⟩:=List.getElem?_eq_some_iff.1 hx
  exact List.drop_eq_getElem_cons h
 have h2:p.drop j=y::p.drop (j+1):=by
  obtain⟨h,rfl⟩:=List.getElem?_eq_some_iff.1 hy
  exact List.drop_eq_getElem_cons h
 rw[h1,h2]
 rfl
def partTextS (ks:List Int)(p:Part):Option (List UInt8):=
 if ks≠[]∧p.o≠ks then none else match textReadS p.b with
  |.ok (k,t,_)=>some (utf8S k t)
  |.error _=>none
def textsS (n:List (List Part))(ks:List Int):List (List UInt8):=if nameOk n=true then n.flatten.filterMap (partTextS ks) else []
theorem cmpS_drop {a b:List UInt8}{j:Nat}{x y:UInt8}(hx:a[j]? = some x)(hy:b[j]? = some y):cmpS (a.drop j) (b.drop j)=if x.toNat<y.toNat then -1 else if y.toNat<x.toNat then 1 else cmpS (a.drop (j+1)) (b.drop (j+1)):=by
 have h1:a.drop j=x::a.drop (j+1):=by
  obtain⟨h,rfl⟩:=List.getElem?_eq_some_iff.1 hx
  exact List.drop_eq_getElem_cons h
 have h2:b.drop j=y::b.drop (j+1):=by
  obtain⟨h,rfl⟩:=List.getElem?_eq_some_iff.1 hy
  exact List.drop_eq_getElem_cons h
 rw[h1,h2]
 simp only[cmpS]
 by_cases h:x=y
 ·subst h;simp
 ·rw[if_neg h]
  by_cases h3:x.toNat<y.toNat
  ·rw[if_pos h3,if_pos h3]
  ·rw[if_neg h3,if_neg h3,if_pos]
   rcases Nat.lt_or_ge y.toNat x.toNat with h4|h4
   ·exact h4
   ·exact absurd (UInt8.toNat_inj.1 (by omega)) h
theorem cmpS_zero:∀ (s t:List UInt8),cmpS s t=0↔s=t
 | [],[]=>by simp[cmpS]
 | [],_::_=>by simp[cmpS]
 |_::_,[]=>by simp[cmpS]
 |x::s,y::t=>by
  have ih:=cmpS_zero s t;unfold cmpS;split
  ·rename_i h;subst h;rw[ih];simp
  ·rename_i h
   split<;>simp[h]
def ARow (t:TypeId)(w wr:World)(base:Nat)(v:Value)(l:List Part):Prop:=
 ∃ cs:List Value,wr.ownsRow base t 2 v l.length cs∧∀ (i:Nat) (p:Part),l[i]? = some p→∃ x y,cs[2*i]? = some x∧cs[2*i+1]? = some y∧Vals w x (intCells p.o)∧Bytes w y p.b
theorem ARow.at {t:TypeId}{w wr:World}{base:Nat}{v:Value}{l:List Part}(h:ARow t w wr base v l)(F:Fz w wr):Attrs wr v l:=by
 obtain⟨cs,⟨h1,h2⟩,h3⟩:=h
 rcases h2 with ⟨rfl,h0⟩|⟨g,cap,cur,rfl,hg,hh,hnc,hcm,hcs,htk⟩
 ·exact⟨none,0,by rw[h0],by omega,by unfold maxLen;omega,fun h=>by omega⟩
 ·refine⟨_,cap,rfl,hnc,hcm,fun _=>⟨g,0,rfl,fun i p hp=>?_⟩⟩
  obtain⟨x,y,e1,e2,e3,e4⟩:=h3 i p hp
  have hi:=(List.getElem?_eq_some_iff.1 hp).1;have gc:∀ k,k<l.length*2→wr.cell? ⟨g,0+k,none⟩=cs[k]?:=fun k hk=>by
   have:=congrArg (fun z:List Value=>z[k]?) htk;simp only[List.getElem?_take,if_pos hk,Array.getElem?_toList]at this
   rw[Nat.zero_add]
   simp only[World.cell?,hh]
   exact this
  refine⟨x,y,?_,?_,e3.old F,e4.old F⟩
  ·rw[gc (2*i) (by omega)];exact e1
  ·rw[Nat.add_assoc,gc (2*i+1) (by omega)];exact e2
theorem ARow.nil (t:TypeId)(w wr:World)(base:Nat):ARow t w wr base (.slice none 0 0) []:=⟨[],⟨rfl,.inl ⟨rfl,rfl⟩⟩,fun i p hp=>by simp at hp⟩
theorem ARow.shape {t:TypeId}{w wr:World}{base:Nat}{v:Value}{l:List Part}(h:ARow t w wr base v l):∃ a c,v=.slice a l.length c:=by
 obtain⟨us,h1,-⟩:=h
 obtain⟨a,m,c,rfl,rfl⟩:=own_shape h1
 exact⟨a,c,rfl⟩
theorem ARow.keep {t:TypeId}{w wr:World}{base:Nat}{v:Value}{l:List Part}(h:ARow t w wr base v l):∀ k,v.ownBlock=some k→base≤k∧k<wr.heap.size:=fun k hk=>by
 obtain⟨us,h1,-⟩:=h
 exact h1.lt k hk
theorem ARow.fr {t:TypeId}{S:Nat→Prop}{w wr w':World}{base:Nat}{v:Value}{l:List Part}(h:ARow t w wr base v l)(f:Fr S wr w')(hS:∀ k,v.ownBlock=some k→¬S k):ARow t w w' base v l:=by
 obtain⟨us,h1,h2⟩:=h
 exact⟨us,Go.Proofs.YteidmhkobmddiaaGreatDoor.ownsRow_fr h1 f hS,h2⟩
theorem ARow.kept {t:TypeId}{w wr:World}{base:Nat}{v:Value}{l:List Part}(h:ARow t w wr base v l)(F:Fz w wr)(K:Nat→Prop)(hK:∀ k,K k→w.heap.size≤k∧k<base):Kept (fun W=>Attrs W v l) K wr:=fun W f=>
 (h.fr f (fun k hk h1=>by have:=(h.keep k hk).1;have:=(hK k h1).2;omega)).at (F.trans' f (fun i hi h1=>by have:=(hK i h1).1;omega))
theorem ARow.add {P:Program}{t s:TypeId}(hu0:P.underlying s=some (.slice t))(hinf:Info P t (.agg #[.slice none 0 0,.slice none 0 0]) 2 48){w wr wa:World}{base:Nat}{v x y:Value}{l:List Part}(h:ARow t w wr base v l)(hb:base≤wr.heap.size)(F1:Fz wr wa)(g:Nat)(BX:Blk wa g t #[x,y])(p:Part)(hx:Ints w x p.o)(hy:Bytes w y p.b)(hn:l.length≤109951162777) :
  ∃ a c w',(Builtin.append_ #[s,s] s #[v,.slice (some ⟨g,0,none⟩) 1 1]).run P wa=.ok (.slice a (l.length+1) c) w'∧ARow t w w' base (.slice a (l.length+1) c) (l++[p])∧Fr (fun k=>v.ownBlock=some k) wr w':=by
 obtain⟨cs,h1,h2⟩:=h
 have hcl:cs.length=l.length*2:=h1.1;obtain⟨ax,cx,rfl,-⟩:=Ints.form hx
 obtain⟨ay,cy,rfl,-⟩:=Vals.form hy
 obtain⟨a,c,w',hrun,h4,F2,h5⟩:=add_gen hu0 hinf rfl (by decide) (by decide) h1 hb F1 g [.slice ax p.o.length cx,.slice ay p.b.length cy] rfl BX (by intro u hu;simp at hu;rcases hu with rfl|rfl<;>rfl) hn
 refine⟨a,c,w',hrun,⟨cs++[.slice ax p.o.length cx,.slice ay p.b.length cy],by rw[List.length_append];exact h4,fun i q hq=>?_⟩,F2⟩
 rcases Nat.lt_or_ge i l.length with hi|hi
 ·rw[List.getElem?_append_left hi]at hq
  obtain⟨x,y,e1,e2,e3⟩:=h2 i q hq
  exact⟨x,y,by rw[List.getElem?_append_left (by omega)];exact e1,by rw[List.getElem?_append_left (by omega)];exact e2,e3⟩
 ·obtain rfl:i=l.length:=by
   have:=(List.getElem?_eq_some_iff.1 hq).1;simp at this
   omega
  rw[List.getElem?_append_right (Nat.le_refl _)]at hq
  simp at hq
  subst hq;refine⟨_,_,?_,?_,hx,hy⟩
  ·rw[List.getElem?_append_right (by omega),show 2*l.length-cs.length=0 from by omega];rfl
  ·rw[List.getElem?_append_right (by omega),show 2*l.length+1-cs.length=1 from by omega];rfl
def NRow (t:TypeId)(w:World)(base:Nat)(v:Value)(n:List (List Part)):Prop:=
 ∃ us:List Value,w.ownsRow base t 1 v n.length us∧us.length=n.length∧∀ (i:Nat) (u:Value) (r:List Part),us[i]? = some u→n[i]? = some r→Kept (fun W=>Attrs W u r) (fun k=>v.ownBlock=some k) w
theorem NRow.at {t:TypeId}{w:World}{base:Nat}{v:Value}{n:List (List Part)}(h:NRow t w base v n):NameAt w v n:=by
 obtain⟨us,h1,h2,h3⟩:=h
 obtain⟨a,cap,he,hc,hm,hx⟩:=(Vals.of_own h1).1
 rw[h2]at he hc hx
 refine⟨a,cap,he,hc,hm,fun h0=>?_⟩
 obtain⟨b,o,rfl,hy⟩:=hx h0
 refine⟨b,o,rfl,fun i r hr=>?_⟩
 have hi:i<us.length:=by rw[h2];exact(List.getElem?_eq_some_iff.1 hr).1
 exact⟨us[i],hy i _ (List.getElem?_eq_getElem hi),(h3 i _ r (List.getElem?_eq_getElem hi) hr).now⟩
theorem NRow.old {t:TypeId}{w w':World}{base:Nat}{v:Value}{n:List (List Part)}(h:NRow t w base v n)(f:Fz w w'):NRow t w' base v n:=by
 obtain⟨us,h1,h2,h3⟩:=h
 exact⟨us,Go.Proofs.YteidmhkobmddiaaGreatDoor.ownsRow_fr h1 f (fun _ _ h=>h),h2,fun i u r hu hr=>(h3 i u r hu hr).old f⟩
theorem NRow.keep {t:TypeId}{w:World}{base:Nat}{v:Value}{n:List (List Part)}(h:NRow t w base v n):∀ k,v.ownBlock=some k→base≤k∧k<w.heap.size:=by
 obtain⟨us,h1,-⟩:=h
 exact(Vals.of_own h1).2
theorem NRow.shape {t:TypeId}{w:World}{base:Nat}{v:Value}{n:List (List Part)}(h:NRow t w base v n):∃ a c,v=.slice a n.length c:=by
 obtain⟨us,h1,-⟩:=h
 obtain⟨a,m,c,rfl,rfl⟩:=own_shape h1
 exact⟨a,c,rfl⟩
theorem NRow.nil (t:TypeId)(w:World)(base:Nat):NRow t w base (.slice none 0 0) []:=⟨[],⟨rfl,.inl ⟨rfl,rfl⟩⟩,rfl,fun i u r h=>by simp at h⟩
theorem NRow.add {P:Program}{t s:TypeId}(hu0:P.underlying s=some (.slice t))(hinf:Info P t (.slice none 0 0) 1 24){w wa:World}{base:Nat}{v:Value}{n:List (List Part)}(h:NRow t w base v n)(hb:base≤w.heap.size)(F1:Fz w wa)(g:Nat)(u:Value)(r:List Part)(BX:Blk wa g t #[u])(hu1:u.oneCell'=true)(hu:Kept (fun W=>Attrs W u r) (fun k=>v.ownBlock=some k) w)(hn:n.length≤109951162777) :
  ∃ a c w',(Builtin.append_ #[s,s] s #[v,.slice (some ⟨g,0,none⟩) 1 1]).run P wa=.ok (.slice a (n.length+1) c) w'∧NRow t w' base (.slice a (n.length+1) c) (n++[r])∧Fr (fun k=>v.ownBlock=some k) w w':=by
 obtain⟨us,h1,h2,h3⟩:=h
 obtain⟨a,c,w',hrun,h4,F2,h5⟩:=add_gen hu0 hinf rfl (by decide) (by decide) h1 hb F1 g [u] rfl BX (by simpa using hu1) hn
 refine⟨a,c,w',hrun,⟨us++[u],?_,by simp[h2],fun i x s hx hs=>?_⟩,F2⟩
 ·rw[List.length_append]
  exact h4
 ·rcases Nat.lt_or_ge i us.length with hi|hi
  ·rw[List.getElem?_append_left hi]at hx
   rw[List.getElem?_append_left (by omega)]at hs
   exact(h3 i x s hx hs).step F2 (fun _ _ h=>h) h5
  ·obtain rfl:i=us.length:=by
    have:=(List.getElem?_eq_some_iff.1 hx).1;simp at this
    omega
   rw[List.getElem?_append_right (Nat.le_refl _)]at hx
   rw[List.getElem?_append_right (by omega)]at hs
   simp at hx
   simp[h2]at hs
   subst hx;subst hs;exact hu.step F2 (fun _ _ h=>h) h5
section
variable {P:Program}
theorem append_none {w:World}{base n:Nat}{t e:TypeId}{v:Value}{xs:List Value}{z:Value}{size bytes:Nat}(hu:P.underlying t=some (.slice e))(hinf:Info P e z size bytes)(hown:w.ownsRow base e size v n xs)(c:Nat) :
  (Builtin.append_ #[t,t] t #[v,.slice none 0 c]).run P w=.ok v w:=by
 obtain⟨i0,hi0,hz0,hz1,hz2⟩:=info_parts hinf
 rcases hown.2 with ⟨rfl,rfl⟩|⟨g,cap,cur,rfl,_,_,hnc,_⟩
 ·simp[Builtin.append_,run_underlying hu,sizeOf,typeInfo,hi0,Builtin.lenOf,Builtin.firstCells]
 ·simp[Builtin.append_,run_underlying hu,sizeOf,typeInfo,hi0,Builtin.lenOf,Builtin.firstCells,hnc,storeCells]
theorem append_vals {w:World}{base n:Nat}{t e:TypeId}{v y:Value}{xs news:List Value}{z:Value}{bytes:Nat}(hu:P.underlying t=some (.slice e))(hinf:Info P e z 1 bytes)(hzs:z.cells.size=1)(hby:bytes≤128)
  (hown:w.ownsRow base e 1 v n xs) (hb:base≤w.heap.size) (hy:Vals w y news) (h1:∀ u∈news,u.oneCell'=true) (hsz:n+news.length≤1099511627776) :
  ∃ a' c' w',(Builtin.append_ #[t,t] t #[v,y]).run P w=.ok (.slice a' (n+news.length) c') w'∧w'.ownsRow base e 1 (.slice a' (n+news.length) c') (n+news.length) (xs++news)∧Fr (fun k=>v.ownBlock=some k) w w'∧(∀ k,(Value.slice a' (n+news.length) c').ownBlock=some k→v.ownBlock=some k∨w.heap.size≤k):=by
 obtain⟨a,cap,rfl,hc,hm,hx⟩:=hy
 cases a with
 |none=>
  have h0:news=[]:=by
   cases news with
   |nil=>rfl
   |cons u s=>obtain⟨b,o,e,-⟩:=hx (by simp);cases e
  subst h0;obtain⟨av,m,cv,rfl,rfl⟩:=own_shape hown
  exact⟨av,cv,w,append_none hu hinf hown cap,by simpa using hown,Fr.refl _,fun k hk=>.inl hk⟩
 |some ad=>
  refine append_gen hu hinf hzs (by decide) hby hown hb ad news.length cap news (by omega) (fun j u hj=>?_) h1 hsz;have hj2:=(List.getElem?_eq_some_iff.1 hj).1;obtain⟨b,o,e,hy⟩:=hx (by omega)
  simp only[Option.some.injEq]at e
  subst e;rw[show (⟨b,o,none⟩:Addr).add j=⟨b,o+j,none⟩ from by unfold Addr.add;split<;>simp_all]
  exact hy j u hj
end
def LAt {α:Type}(sz:Nat)(R:World→List Value→α→Prop)(w:World)(v:Value)(l:List α):Prop:=
 ∃ a cap,v=.slice a l.length cap∧l.length≤cap∧cap≤maxLen∧(0<l.length→∃ b o,a=some ⟨b,o,none⟩∧∀ i x,l[i]? = some x→∃ cs,cs.length=sz∧(∀ j u,cs[j]? = some u→w.cell? ⟨b,o+sz*i+j,none⟩=some u)∧R w cs x)
def GRow {α:Type}(sz:Nat)(R:World→List Value→α→Prop)(K:Nat→Prop)(t:TypeId)(w:World)(base:Nat)(v:Value)(l:List α):Prop:=
 ∃ cs:List Value,w.ownsRow base t sz v l.length cs∧∀ i x,l[i]? = some x→∃ us,us.length=sz∧(∀ j u,us[j]? = some u→cs[sz*i+j]? = some u)∧Kept (fun W=>R W us x) (fun k=>v.ownBlock=some k∨K k) w
section
variable {α:Type}{sz:Nat}{R:World→List Value→α→Prop}{K:Nat→Prop}{t:TypeId}{w:World}{base:Nat}{v:Value}{l:List α}
theorem LAt.old (hR:∀ w w' cs x,R w cs x→Fz w w'→R w' cs x){w':World}(h:LAt sz R w v l)(f:Fz w w'):LAt sz R w' v l:=by
 obtain⟨a,cap,rfl,h1,h2,h3⟩:=h
 refine⟨a,cap,rfl,h1,h2,fun h0=>?_⟩
 obtain⟨b,o,rfl,hy⟩:=h3 h0
 refine⟨b,o,rfl,fun i p hp=>?_⟩
 obtain⟨cs,e1,e2,e3⟩:=hy i p hp
 exact⟨cs,e1,fun j u hu=>f.cell (e2 j u hu) (fun h=>h),hR _ _ _ _ e3 f⟩
theorem GRow.nil (sz:Nat)(R:World→List Value→α→Prop)(K:Nat→Prop)(t:TypeId)(w:World)(base:Nat):GRow sz R K t w base (.slice none 0 0) []:=⟨[],⟨by simp,.inl ⟨rfl,rfl⟩⟩,fun i p hp=>by simp at hp⟩
theorem GRow.keep (h:GRow sz R K t w base v l):∀ k,v.ownBlock=some k→base≤k∧k<w.heap.size:=fun k hk=>by
 obtain⟨us,h1,-⟩:=h
 exact h1.lt k hk
theorem GRow.shape (h:GRow sz R K t w base v l):∃ a c,v=.slice a l.length c:=by
 obtain⟨us,h1,-⟩:=h
 obtain⟨a,m,c,rfl,rfl⟩:=own_shape h1
 exact⟨a,c,rfl⟩
theorem GRow.at (h:GRow sz R K t w base v l)(_hs:0<sz):LAt sz R w v l:=by
 obtain⟨cs,⟨h1,h2⟩,h3⟩:=h
 rcases h2 with ⟨rfl,h0⟩|⟨g,cap,cur,rfl,hg,hh,hnc,hcm,hcs,htk⟩
 ·exact⟨none,0,by rw[h0],by omega,by unfold maxLen;omega,fun h=>by omega⟩
 ·refine⟨_,cap,rfl,hnc,hcm,fun _=>⟨g,0,rfl,fun i p hp=>?_⟩⟩
  obtain⟨us,e1,e2,e3⟩:=h3 i p hp
  refine⟨us,e1,fun j u hu=>?_,e3.now⟩
  have hi:=(List.getElem?_eq_some_iff.1 hp).1;have hc:=e2 j u hu;have hj:=(List.getElem?_eq_some_iff.1 hc).1;have:=congrArg (fun z:List Value=>z[sz*i+j]?) htk;simp only[List.getElem?_take,if_pos (show sz*i+j<l.length*sz by omega),Array.getElem?_toList]at this
  rw[Nat.zero_add]
  simp only[World.cell?,hh]
  exact this.trans hc
theorem GRow.fr {S:Nat→Prop}{w':World}(h:GRow sz R K t w base v l)(f:Fr S w w')(hS:∀ k,k<w.heap.size→S k→K k)(hv:∀ k,v.ownBlock=some k→¬S k):GRow sz R K t w' base v l:=by
 obtain⟨cs,h1,h2⟩:=h
 refine⟨cs,Go.Proofs.YteidmhkobmddiaaGreatDoor.ownsRow_fr h1 f hv,fun i p hp=>?_⟩
 obtain⟨us,e1,e2,e3⟩:=h2 i p hp
 exact⟨us,e1,e2,e3.step f (fun k hk hs=>.inr (hS k hk hs)) (fun k hk=>.inl hk)⟩
theorem GRow.old {w':World}(h:GRow sz R K t w base v l)(f:Fz w w'):GRow sz R K t w' base v l:=h.fr f (fun _ _ h=>h.elim) (fun _ _ h=>h)
theorem GRow.kept (h:GRow sz R K t w base v l)(hs:0<sz)(K':Nat→Prop)(hK:∀ k,K' k→K k∧k<base):Kept (fun W=>LAt sz R W v l) K' w:=fun W f=>
 (h.fr f (fun k _ hk=>(hK k hk).1) (fun k hk hs=>by have:=(h.keep k hk).1;have:=(hK k hs).2;omega)).at hs
theorem GRow.add {P:Program}{s:TypeId}{z:Value}{bytes:Nat}(hu0:P.underlying s=some (.slice t))(hinf:Info P t z sz bytes)(hzs:z.cells.size=sz)(hs0:0<sz)(hby:bytes≤128){wa:World}(h:GRow sz R K t w base v l)(hb:base≤w.heap.size)(F1:Fz w wa)(g:Nat)(us:List Value)(hus:us.length=sz)(BX:Blk wa g t us.toArray)(h1:∀ u∈us,u.oneCell'=true)(x:α)(hk:Kept (fun W=>R W us x) (fun k=>v.ownBlock=some k∨K k) w)(hn:l.length≤109951162777) :
  ∃ a c w',(Builtin.append_ #[s,s] s #[v,.slice (some ⟨g,0,none⟩) 1 1]).run P wa=.ok (.slice a (l.length+1) c) w'∧GRow sz R K t w' base (.slice a (l.length+1) c) (l++[x])∧Fr (fun k=>v.ownBlock=some k) w w'∧(∀ k,(Value.slice a (l.length+1) c).ownBlock=some k→v.ownBlock=some k∨w.heap.size≤k):=by
 obtain⟨cs,g1,g2⟩:=h
 have hcl:cs.length=l.length*sz:=g1.1;obtain⟨a,c,w',hrun,h4,F2,h5⟩:=add_gen hu0 hinf hzs hs0 hby g1 hb F1 g us hus BX h1 hn
 have hst:∀ (us:List Value) (y:α),Kept (fun W=>R W us y) (fun k=>v.ownBlock=some k∨K k) w→Kept (fun W=>R W us y) (fun k=>(Value.slice a (l.length+1) c).ownBlock=some k∨K k) w':=fun us y hq=>
  hq.step F2 (fun _ _ h=>.inl h) (fun k hk=>by
   rcases hk with h|h
   ·rcases h5 k h with h|h
    ·exact .inl (.inl h)
    ·exact .inr h
   ·exact .inl (.inr h))
 refine⟨a,c,w',hrun,⟨cs++us,by rw[List.length_append];exact h4,fun i y hy=>?_⟩,F2,h5⟩
 rcases Nat.lt_or_ge i l.length with hi|hi
 ·rw[List.getElem?_append_left hi]at hy
  obtain⟨us',e1,e2,e3⟩:=g2 i y hy
  refine⟨us',e1,fun j u hu=>?_,hst _ _ e3⟩
  have:=e2 j u hu;rw[List.getElem?_append_left (List.getElem?_eq_some_iff.1 this).1]
  exact this
 ·obtain rfl:i=l.length:=by
   have:=(List.getElem?_eq_some_iff.1 hy).1;simp at this
   omega
  rw[List.getElem?_append_right (Nat.le_refl _)]at hy
  simp at hy
  subst hy;refine⟨us,hus,fun j u hu=>?_,hst _ _ hk⟩
  rw[Nat.mul_comm,List.getElem?_append_right (by rw[hcl];exact Nat.le_add_right _ _),hcl,Nat.add_sub_cancel_left]
  exact hu
end
def RPart (W:World)(cs:List Value)(p:Part):Prop:=∃ x y,cs=[x,y]∧Ints W x p.o∧Bytes W y p.b
def RStep (W:World)(cs:List Value)(r:List Part):Prop:=∃ u,cs=[u]∧Attrs W u r
theorem LAt.attrs {w:World}{v:Value}{l:List Part}(h:LAt 2 RPart w v l):Attrs w v l:=by
 obtain⟨a,cap,rfl,h1,h2,h3⟩:=h
 refine⟨a,cap,rfl,h1,h2,fun h0=>?_⟩
 obtain⟨b,o,rfl,hy⟩:=h3 h0
 refine⟨b,o,rfl,fun i p hp=>?_⟩
 obtain⟨cs,-,e2,x,y,rfl,g1,g2⟩:=hy i p hp
 exact⟨x,y,e2 0 x rfl,e2 1 y rfl,g1,g2⟩
theorem LAt.name {w:World}{v:Value}{n:List (List Part)}(h:LAt 1 RStep w v n):NameAt w v n:=by
 obtain⟨a,cap,rfl,h1,h2,h3⟩:=h
 refine⟨a,cap,rfl,h1,h2,fun h0=>?_⟩
 obtain⟨b,o,rfl,hy⟩:=h3 h0
 refine⟨b,o,rfl,fun i r hr=>?_⟩
 obtain⟨cs,-,e2,u,rfl,g1⟩:=hy i r hr
 exact⟨u,by have:=e2 0 u rfl;rw[Nat.one_mul]at this;exact this,g1⟩
theorem Kept.imp {A B:World→Prop}{K:Nat→Prop}{w:World}(h:Kept A K w)(f:∀ W,A W→B W):Kept B K w:=fun W g=>f W (h W g)
theorem Kept.both {A B:World→Prop}{K:Nat→Prop}{w:World}(h:Kept A K w)(g:Kept B K w):Kept (fun W=>A W∧B W) K w:=fun W f=>⟨h W f,g W f⟩
theorem step_of {u:Value}{r:List Part}{K:Nat→Prop}{w:World}(h:Kept (fun W=>Attrs W u r) K w):Kept (fun W=>RStep W [u] r) K w:=fun W f=>⟨u,rfl,h W f⟩
def Upward (ls:List (List UInt8)):Prop:=∀ (j:Nat) (x y:List UInt8),ls[j]? = some x→ls[j+1]? = some y→0≤cmpS y x
def rdnWhole (ws:List (List UInt8)):List UInt8:=wrapS (tagOf 17) ws.flatten
def wholesN (n:List (List Part)):List (List UInt8):=n.map fun r=>rdnWhole ((rdnS r).getD [])
def nameWhole (n:List (List Part)):List UInt8:=wrapS (tagOf 16) (wholesN n).flatten
open Go.Proofs.YteidmhkobmddiaaGreatDoor
open Go
section
variable {α:Type}(rd:List UInt8→Except Int (α × Nat)) (mx:Nat)
def manyGo:Nat→List α→List UInt8→Except Int (List α)
 |_,out,[]=>.ok out
 |0,_,_::_=>.error 3
 |f+1,out,x::t=>
  if out.length=mx then .error 2 else
  match rd (x::t) with
  |.error e=>.error e
  |.ok (g,k)=>manyGo f (out++[g]) ((x::t).drop k)
def manySt (out:List α)(l:List UInt8):Except Int (List α):=manyGo rd mx l.length out l
variable {rd mx}
end
end Go.Q
namespace Go.Proofs.YteidmhkobmddiaaGreatDoor
open Go Go.RowKit Go.Q
theorem rdnKey_any (v:Value)(l:List Part)(w:World)(h:Attrs w v l)(hf:fewB l)(ho:∀ p∈l,oidOk p.o=true)(hln:l.length≤100)(hE:Env w) :
  Calls Tryz.prog 172 #[v] w fun e w'=>e=.returned (str (rdnKeyS l))∧Fz w w':=by
 have H:=Hi h;have HE:=Hi hE;have HO:=Hi ho;obtain⟨a,cap,rfl,hc,hm,-⟩:=h
 have hkl:∀ k∈Lib.compact (sortS (partKeys l)),k.length≤160001100:=fun k hk=>by
  have h1:=sort_mem (compact_mem hk);obtain⟨p,hp,rfl⟩:=List.mem_map.1 h1
  exact attrKey_len (ho p hp) (hf p hp)
 have HKL:=Hi hkl;clear hE ho hkl;go_enter Tryz.func172,Tryz.ntmps172
 go_wp2_with fail
 go_loopg [3,8] l.length (fun g u i wr=>∃ (j:Nat) (au:Option Addr) (cu:Nat),g=l.length-j∧j≤l.length∧u=.slice au j cu∧i=.int .i64 j∧wr.ownsRow w.heap.size 9 1 (.slice au j cu) j ((partKeys (l.take j)).map str)∧Fz w wr)
 case atStart=>exact⟨0,none,0,rfl,Nat.zero_le _,rfl,rfl,⟨rfl,.inl ⟨rfl,rfl⟩⟩,Fr.refl _⟩
 case round=>
  obtain⟨j,au,cu,hg,hj,rfl,rfl,hown,F⟩:=hrel
  have HG:=Hi hg;have HOW:=Hi hown;have HF:=Hi F;clear hg hown;by_cases hjl:j<l.length
  ·obtain⟨a0,cap0,he,_,_,hx⟩:=H.out.old F
   simp only[Value.slice.injEq,true_and]at he
   obtain⟨rfl,rfl⟩:=he
   obtain⟨b,off,rfl,hy⟩:=hx (by omega)
   obtain⟨p,hp⟩:∃ p,l[j]? = some p:=⟨_,List.getElem?_eq_getElem hjl⟩
   obtain⟨x,y,e1,e2,hpx,hpy⟩:=hy j p hp
   have hpb:=hf p (List.mem_of_getElem? hp);have hpo:=HO.out p (List.mem_of_getElem? hp);have r1:(0:Int)≤(j:Int):=by omega
   have r2:(j:Int)<(l.length:Int):=by omega
   obtain⟨ax,cx,rfl,-⟩:=Ints.form hpx
   obtain⟨ay,cy,rfl,-⟩:=Vals.form hpy
   have e1':wr.cell? ⟨b,off+j*2,none⟩=some (.slice ax p.o.length cx):=by rw[Nat.mul_comm];exact e1
   have e2':wr.cell? ⟨b,off+j*2+1,none⟩=some (.slice ay p.b.length cy):=by rw[Nat.mul_comm];exact e2
   have HP:=Hi hp;have HPX:=Hi hpx;have HPY:=Hi hpy;clear hx hy hp F hpx hpy;go_upto_region 5 with fail
   have BZ:=Blk.new wr 145 #[.slice ax p.o.length cx,.slice ay p.b.length cy];have F1:Fz wr (wr.alloc (.cells #[.slice ax p.o.length cx,.slice ay p.b.length cy] 145)):=(Fr.refl wr).alloc _;have HK:=Hi (attrKey_any _ _ p.o p.b _ (HPX.out.old F1) (HPY.out.old F1) hpo hpb ((HE.out.old HF.out).old F1));have HOW1:=Hi (ownsRow_fr HOW.out F1 (fun _ _ h=>h));have HF1:=Hi (HF.out.trans F1);clear e1 e2 e1' e2' HPX HPY HF F1 HOW;generalize (wr.alloc (.cells #[.slice ax p.o.length cx,.slice ay p.b.length cy] 145))=w1 at *
   have z0:=BZ.cell 0;have z1:=BZ.cell 1;simp at z0 z1
   have hpk:partKeys (l.take (j+1))=partKeys (l.take j)++[attrKeyS p.o p.b]:=by
    unfold partKeys;rw[List.take_add_one,HP.out]
    simp
   have HPK:=Hi hpk;clear hpk;generalize attrKeyS p.o p.b=ky at *
   go_wp2_with fail
   refine HK.out.mono ?_;rintro e w2 ⟨rfl,F2⟩;have F3:Fz w2 (w2.alloc (.cells #[str ky] 9)):=(Fr.refl w2).alloc _;have hs1:=HF1.out.size;have hs2:=F2.size;have hbk:=(Vals.of_own HOW1.out).2;obtain⟨a',c',w4,hrun,hown4,F4,hk4⟩:=add_gen Tryz.underlying181 info9 rfl (by decide) (by decide) (ownsRow_fr HOW1.out F2 (fun _ _ h=>h)) (by omega) F3 w2.heap.size [str ky] rfl (Blk.new w2 9 #[str ky]) (by simp[Value.oneCell']) (by omega)
   have HRUN:=Hi hrun;have HOW4:=Hi hown4;have HF4:=Hi ((HF1.out.trans F2).trans' F4 (fun i hi e=>by have:=(hbk i e).1;omega));clear F2 F3 hrun hown4 F4 hk4 hbk BZ z0 z1 HOW1 HF1;go_wp2_with (at_builtin;refine wpList_append_run (by rfl) (.tmp 12) (.tmp 15) 181 (by rfl) _ w4 (by exact HRUN.out) ?_)
   go_roundg (l.length-(j+1))
   case measure=>rw[HG.out];omega
   case rel=>exact⟨j+1,a',c',rfl,by omega,rfl,by go_num,by rw[HPK.out,List.map_append];exact HOW4.out,HF4.out⟩
  ·obtain rfl:j=l.length:=by omega
   have hown:=HOW.out;rw[List.take_length]at hown
   have hpl:(partKeys l).length=l.length:=by simp[partKeys]
   have hres:rdnKeyS l=Lib.join (Lib.compact (sortS (partKeys l))) [43]:=rfl;have HRES:=Hi hres;have HS:=Hi (strSort_any (partKeys l) (by rw[hpl];exact hown) (by omega));have hsl:(sortS (partKeys l)).length=l.length:=by simp[sortS,hpl]
   have hbk:=(Vals.of_own hown).2;have HSL:=Hi hsl;clear hpl hres hown HOW hsl;generalize partKeys l=pk at *
   go_wp2_with fail
   refine HS.out.mono ?_;rintro e w2 ⟨rfl,hown2,F2⟩;have HF2:=Hi (F.trans' F2 (fun i hi e=>by have:=(hbk i e).1;omega));have HC:=Hi (strCompact_any (sortS pk) hown2 (by rw[HSL.out];omega));have hbk2:=(Vals.of_own hown2).2;have hcl:=Lib.compact_length_le (sortS pk);rw[HSL.out]at hcl
   clear F2 hown2 HS hbk;generalize sortS pk=sk at *
   go_wp2_with fail
   refine HC.out.mono ?_;rintro e w3 ⟨⟨v3,rfl,hown3⟩,F3⟩;have HF3:=Hi (HF2.out.trans' F3 (fun i hi e=>by have:=(hbk2 i e).1;omega));have hv3:=(Vals.of_own hown3).1;have hjl2:=join_len 43 160001100 (Lib.compact sk) HKL.out;have HJ:=Hi (strJoin_any (Lib.compact sk) 43 v3 w3 hv3 (by omega) (by
    have:(Lib.compact sk).length*(160001100+1)≤100*(160001100+1):=Nat.mul_le_mul_right _ (by omega);omega))
   obtain⟨a3,m3,c3,rfl,-⟩:=own_shape hown3
   clear F3 hown3 HC hbk2 hv3 hjl2;generalize Lib.compact sk=ck at *
   go_wp2_with fail
   refine HJ.out.mono ?_;rintro e w4 ⟨rfl,F4⟩;go_wp2_with fail
   go_ret;exact⟨by rw[HRES.out];rfl,HF3.out.trans F4⟩
theorem nameKey_any (v:Value)(n:List (List Part))(w:World)(h:NameAt w v n)(hf:∀ r∈n,fewB r)(hok:nameOk n=true)(hE:Env w) :
  Calls Tryz.prog 120 #[v] w fun e w'=>e=.returned (.tuple #[str (nameKeyS n),.int .i64 0])∧Fz w w':=by
 have H:=Hi h;have HR:=right_any v n w h hf;rw[hok]at HR
 have HRI:=Hi HR;obtain⟨hn64,hrd⟩:=name_rdns hok
 have HRD:=Hi hrd;have HE:=Hi hE;obtain⟨a,cap,rfl,hc,hm,-⟩:=h
 have hkl:∀ k∈n.map rdnKeyS,k.length≤2560017616:=fun k hk=>by
  obtain⟨r,hr,rfl⟩:=List.mem_map.1 hk
  exact rdnKey_len (hf r hr) (hrd r hr)
 have hjl:=join_len 47 2560017616 (n.map rdnKeyS) hkl;rw[List.length_map]at hjl
 have hjl2:n.length*(2560017616+1)≤64*(2560017616+1):=Nat.mul_le_mul_right _ hn64;have hjl3:(Lib.join (n.map rdnKeyS) [47]).length≤100000000000000:=by omega
 have HJL:=Hi hjl3;clear hE hkl hjl hjl2 hjl3 hok HR hrd;go_enter Tryz.func120,Tryz.ntmps120
 go_wp2_with fail
 refine HRI.out.mono ?_;rintro e w0 ⟨rfl,F0⟩;have HF0:=Hi F0;clear F0 HRI;go_wp2_with fail
 go_loopg [4,12] n.length (fun g u i wr=>∃ (j:Nat) (au:Option Addr) (cu:Nat),g=n.length-j∧j≤n.length∧u=.slice au j cu∧i=.int .i64 j∧wr.ownsRow w0.heap.size 9 1 (.slice au j cu) j (((n.take j).map rdnKeyS).map str)∧Fz w0 wr)
 case atStart=>exact⟨0,none,0,rfl,Nat.zero_le _,rfl,rfl,⟨rfl,.inl ⟨rfl,rfl⟩⟩,Fr.refl _⟩
 case round=>
  obtain⟨j,au,cu,hg,hj,rfl,rfl,hown,F⟩:=hrel
  have HG:=Hi hg;have HOW:=Hi hown;have HF:=Hi F;have HFF:=Hi (HF0.out.trans F);clear hg hown;by_cases hjl:j<n.length
  ·obtain⟨a0,cap0,he,_,_,hx⟩:=H.out.old HFF.out
   simp only[Value.slice.injEq,true_and]at he
   obtain⟨rfl,rfl⟩:=he
   obtain⟨b,off,rfl,hy⟩:=hx (by omega)
   obtain⟨r,hr⟩:∃ r,n[j]? = some r:=⟨_,List.getElem?_eq_getElem hjl⟩
   obtain⟨x,e1,hA⟩:=hy j r hr
   have hmem:=List.mem_of_getElem? hr;have hri:=HRD.out r hmem;obtain⟨hr16,hro⟩:=rdn_oids hri
   have HK:=Hi (rdnKey_any x r wr hA (hf r hmem) hro (by omega) (HE.out.old HFF.out));have hpk:(n.take (j+1)).map rdnKeyS=(n.take j).map rdnKeyS++[rdnKeyS r]:=by
    rw[List.take_add_one,hr]
    simp
   have HPK:=Hi hpk;have r1:(0:Int)≤(j:Int):=by omega
   have r2:(j:Int)<(n.length:Int):=by omega
   clear hx hy hr hA hmem hri hro F hpk;generalize rdnKeyS r=ky at *
   go_wp2_with fail
   refine HK.out.mono ?_;rintro e w2 ⟨rfl,F2⟩;have F3:Fz w2 (w2.alloc (.cells #[str ky] 9)):=(Fr.refl w2).alloc _;have hs1:=HF.out.size;have hs2:=F2.size;have hbk:=(Vals.of_own HOW.out).2;obtain⟨a',c',w4,hrun,hown4,F4,hk4⟩:=add_gen Tryz.underlying181 info9 rfl (by decide) (by decide) (ownsRow_fr HOW.out F2 (fun _ _ h=>h)) (by omega) F3 w2.heap.size [str ky] rfl (Blk.new w2 9 #[str ky]) (by simp[Value.oneCell']) (by omega)
   have HRUN:=Hi hrun;have HOW4:=Hi hown4;have HF4:=Hi ((HF.out.trans F2).trans' F4 (fun i hi e=>by have:=(hbk i e).1;omega));clear F2 F3 hrun hown4 F4 hk4 hbk HOW HF HK;go_wp2_with (at_builtin;refine wpList_append_run (by rfl) (.tmp 16) (.tmp 19) 181 (by rfl) _ w4 (by exact HRUN.out) ?_)
   go_roundg (n.length-(j+1))
   case measure=>rw[HG.out];omega
   case rel=>exact⟨j+1,a',c',rfl,by omega,rfl,by go_num,by rw[HPK.out,List.map_append];exact HOW4.out,HF4.out⟩
  ·obtain rfl:j=n.length:=by omega
   have hown:=HOW.out;rw[List.take_length]at hown
   have hv3:=(Vals.of_own hown).1;have HJ:=Hi (strJoin_any (n.map rdnKeyS) 47 _ wr hv3 (by rw[List.length_map];omega) HJL.out);have hres:nameKeyS n=Lib.join (n.map rdnKeyS) [47]:=rfl;have HRES:=Hi hres;clear hown hv3 hres HOW;go_wp2_with fail
   refine HJ.out.mono ?_;rintro e w4 ⟨rfl,F4⟩;go_wp2_with fail
   refine bodyPost_ret (v:=.tuple #[str (Lib.join (n.map rdnKeyS) [47]),.int .i64 0]) (by simp[results,Tryz.results120,go_sem]) rfl ⟨by rw[HRES.out],HFF.out.trans F4⟩
theorem nameKey_bad (v:Value)(n:List (List Part))(w:World)(h:NameAt w v n)(hf:∀ r∈n,fewB r)(hok:nameOk n=false) :
  Calls Tryz.prog 120 #[v] w fun e w'=>e=.returned (.tuple #[str [],.int .i64 1])∧Fz w w':=by
 have HR:=right_any v n w h hf;rw[hok]at HR
 have HRI:=Hi HR;clear h hok HR;go_enter Tryz.func120,Tryz.ntmps120
 go_wp2_with fail
 refine HRI.out.mono ?_;rintro e w0 ⟨rfl,F0⟩;go_wp2_with fail
 exact bodyPost_ret (v:=.tuple #[str [],.int .i64 1]) (by simp[results,Tryz.results120,go_sem]) rfl ⟨rfl,F0⟩
def keyOut (n:List (List Part)):Value:=if nameOk n=true then .tuple #[str (nameKeyS n),.int .i64 0] else .tuple #[str [],.int .i64 1]
theorem nameKeyAll_any (v:Value)(n:List (List Part))(w:World)(h:NameAt w v n)(hf:∀ r∈n,fewB r)(hE:Env w) :
  Calls Tryz.prog 120 #[v] w fun e w'=>e=.returned (keyOut n)∧Fz w w':=by
 cases hok:nameOk n with
 |true=>
  have e:keyOut n=.tuple #[str (nameKeyS n),.int .i64 0]:=if_pos hok;rw[e]
  exact nameKey_any v n w h hf hok hE
 |false=>
  have e:keyOut n=.tuple #[str [],.int .i64 1]:=if_neg (by rw[hok];simp);rw[e]
  exact nameKey_bad v n w h hf hok
theorem nameSame_any (v u:Value)(n m:List (List Part))(w:World)(h:NameAt w v n)(hm:NameAt w u m)(hf:∀ r∈n,fewB r)(hfm:∀ r∈m,fewB r)(hE:Env w) :
  Calls Tryz.prog 69 #[v,u] w fun e w'=>e=.returned (.bool (nameSameS n m))∧Fz w w':=by
 have HK:=Hi (nameKeyAll_any v n w h hf hE);have HM:=Hi hm;have HE:=Hi hE;have hs:nameSameS n m=(nameOk n&&(nameOk m&&decide (nameKeyS n=nameKeyS m))):=rfl;have HS:=Hi hs;clear h hm hE hs;go_enter Tryz.func69,Tryz.ntmps69
 go_wp2_with fail
 refine HK.out.mono ?_;rintro e w1 ⟨rfl,F1⟩;have HK2:=Hi (nameKeyAll_any u m w1 (HM.out.old F1) hfm (HE.out.old F1));clear HK;cases hok:nameOk n with
 |false=>
  have e:keyOut n=.tuple #[str [],.int .i64 1]:=if_neg (by rw[hok];simp);rw[e]
  rw[hok]at HS
  clear hok e;go_wp2_with fail
  refine HK2.out.mono ?_;rintro e w2 ⟨rfl,F2⟩;cases hok2:nameOk m with
  |false=>
   have e:keyOut m=.tuple #[str [],.int .i64 1]:=if_neg (by rw[hok2];simp);rw[e]
   clear hok2 e;go_wp2_with fail
   go_ret;exact⟨by rw[HS.out];rfl,F1.trans F2⟩
  |true=>
   have e:keyOut m=.tuple #[str (nameKeyS m),.int .i64 0]:=if_pos hok2;rw[e]
   clear hok2 e;go_wp2_with fail
   go_ret;exact⟨by rw[HS.out];rfl,F1.trans F2⟩
 |true=>
  have e:keyOut n=.tuple #[str (nameKeyS n),.int .i64 0]:=if_pos hok;rw[e]
  rw[hok]at HS
  clear hok e;go_wp2_with fail
  refine HK2.out.mono ?_;rintro e w2 ⟨rfl,F2⟩;cases hok2:nameOk m with
  |false=>
   have e:keyOut m=.tuple #[str [],.int .i64 1]:=if_neg (by rw[hok2];simp);rw[e]
   rw[hok2]at HS
   clear hok2 e;go_wp2_with fail
   go_ret;exact⟨by rw[HS.out];rfl,F1.trans F2⟩
  |true=>
   have e:keyOut m=.tuple #[str (nameKeyS m),.int .i64 0]:=if_pos hok2;rw[e]
   rw[hok2]at HS
   clear hok2 e;generalize nameKeyS n=kn at *
   generalize nameKeyS m=km at *
   by_cases hkk:kn=km
   ·have hq2:(kn==km)=true:=by simpa using hkk
    have HKK:=Hi (decide_eq_true hkk);clear hkk;go_wp2_with fail
    go_ret;exact⟨by rw[HS.out,HKK.out];rfl,F1.trans F2⟩
   ·have hq2:(kn==km)=false:=by simpa using hkk
    have HKK:=Hi (decide_eq_false hkk);clear hkk;go_wp2_with fail
    go_ret;exact⟨by rw[HS.out,HKK.out];rfl,F1.trans F2⟩
theorem r04Compare_any (v u:Value)(o p:List Int)(w:World)(h:Ints w v o)(hu:Ints w u p) :
  Calls Tryz.prog 118 #[v,u] w fun e w'=>e=.returned (.int .i64 (cmpI o p))∧Fz w w':=by
 obtain⟨a,cap,rfl,hc1,hm1,hx⟩:=Ints.form h
 obtain⟨b,cbp,rfl,hc2,hm2,hy⟩:=Ints.form hu
 have HX:=Hi hx;have HY:=Hi hy;unfold maxLen at hm1 hm2;clear h hu hx hy;go_enter Tryz.func118,Tryz.ntmps118
 go_wp2_with fail
 go_loopg [5] (o.length+p.length) (fun g i wr=>∃ j:Nat,g=o.length+p.length-j∧j≤o.length∧j≤p.length∧i=.int .i64 j∧cmpI o p=cmpI (o.drop j) (p.drop j)∧Fz w wr)
 case atStart=>exact⟨0,rfl,Nat.zero_le _,Nat.zero_le _,rfl,rfl,Fr.refl _⟩
 case round=>
  obtain⟨j,hg,hj,hjp,rfl,hE,F⟩:=hrel
  have HG:=Hi hg;have HE:=Hi hE;have HF:=Hi F;clear hg hE;by_cases hjl:j<o.length
  ·obtain⟨ba,oa,rfl,ha⟩:=HX.out (by omega)
   obtain⟨x,hxj⟩:∃ x,o[j]? = some x:=⟨_,List.getElem?_eq_getElem hjl⟩
   have e1:=F.cell (ha j x hxj) (fun h=>h);have r1:(0:Int)≤(j:Int):=by omega
   have r2:(j:Int)<(o.length:Int):=by omega
   have r5:decide ((o.length:Int)≤(j:Int))=false:=decide_eq_false (by omega);have r5N:decide (o.length≤j)=false:=decide_eq_false (by omega);have r5':decide ((j:Int)<(o.length:Int))=true:=decide_eq_true (by omega);have r5'N:decide (j<o.length)=true:=decide_eq_true (by omega);by_cases hjl2:j<p.length
   ·obtain⟨bb,ob,rfl,hb⟩:=HY.out (by omega)
    obtain⟨y,hyj⟩:∃ y,p[j]? = some y:=⟨_,List.getElem?_eq_getElem hjl2⟩
    have e2:=F.cell (hb j y hyj) (fun h=>h);have r4:(j:Int)<(p.length:Int):=by omega
    have r3:decide ((p.length:Int)≤(j:Int))=false:=decide_eq_false (by omega);have r3N:decide (p.length≤j)=false:=decide_eq_false (by omega);have r4':decide ((j:Int)<(p.length:Int))=true:=decide_eq_true (by omega);have r4'N:decide (j<p.length)=true:=decide_eq_true (by omega);have hcd:=Hi (cmpI_drop hxj hyj);clear ha hb hxj hyj F;by_cases h1:x<y
    ·have hres:cmpI o p=-1:=by rw[HE.out,hcd.out,if_pos h1]
     have HRES:=Hi hres;have q1:decide (x<y)=true:=decide_eq_true h1;clear hres;go_wp2_with fail
     go_quiet (fail)
     go_wp2_with fail
     go_ret;refine⟨by rw[HRES.out];rfl,?_⟩;(first|with_reducible exact HF.out|with_reducible exact Fr.drewN HF.out _|with_reducible exact Fr.drewN (Fr.drewN HF.out _) _|with_reducible exact Fr.drewN (Fr.drewN (Fr.drewN HF.out _) _) _)
    ·have q1:decide (x<y)=false:=decide_eq_false h1
     by_cases h2:y<x
     ·have hres:cmpI o p=1:=by rw[HE.out,hcd.out,if_neg h1,if_pos h2]
      have HRES:=Hi hres;have q2:decide (y<x)=true:=decide_eq_true h2;clear hres;go_wp2_with fail
      go_quiet (fail)
      go_wp2_with fail
      go_quiet (fail)
      go_wp2_with fail
      go_ret;refine⟨by rw[HRES.out];rfl,?_⟩;(first|with_reducible exact HF.out|with_reducible exact Fr.drewN HF.out _|with_reducible exact Fr.drewN (Fr.drewN HF.out _) _|with_reducible exact Fr.drewN (Fr.drewN (Fr.drewN HF.out _) _) _)
     ·have hres:cmpI o p=cmpI (o.drop (j+1)) (p.drop (j+1)):=by rw[HE.out,hcd.out,if_neg h1,if_neg h2]
      have HRES:=Hi hres;have q2:decide (y<x)=false:=decide_eq_false h2;clear hres;go_wp2_with fail
      go_quiet (fail)
      go_wp2_with fail
      go_quiet (fail)
      go_wp2_with fail
      go_roundg (o.length+p.length-(j+1))
      case measure=>rw[HG.out];omega
      case rel=>refine⟨j+1,rfl,by omega,by omega,by go_num,HRES.out,?_⟩;(first|with_reducible exact HF.out|with_reducible exact Fr.drewN HF.out _|with_reducible exact Fr.drewN (Fr.drewN HF.out _) _|with_reducible exact Fr.drewN (Fr.drewN (Fr.drewN HF.out _) _) _)
   ·have r3:decide ((p.length:Int)≤(j:Int))=true:=decide_eq_true (by omega)
    have r3N:decide (p.length≤j)=true:=decide_eq_true (by omega);have r4:decide ((j:Int)<(p.length:Int))=false:=decide_eq_false (by omega);have r4N:decide (j<p.length)=false:=decide_eq_false (by omega);have hres:cmpI o p=1:=by
     have h1:o.drop j=x::o.drop (j+1):=by
      obtain⟨h,rfl⟩:=List.getElem?_eq_some_iff.1 hxj
      exact List.drop_eq_getElem_cons h
     have h2:p.drop j=[]:=List.drop_eq_nil_of_le (by omega);rw[HE.out,h1,h2]
     rfl
    have HRES:=Hi hres;clear hres ha hxj F;go_wp2_with fail
    go_quiet (fail)
    go_wp2_with fail
    go_quiet (fail)
    go_wp2_with fail
    go_ret;refine⟨by rw[HRES.out];rfl,?_⟩;(first|with_reducible exact HF.out|with_reducible exact Fr.drewN HF.out _|with_reducible exact Fr.drewN (Fr.drewN HF.out _) _|with_reducible exact Fr.drewN (Fr.drewN (Fr.drewN HF.out _) _) _)
  ·obtain rfl:j=o.length:=by omega
   have h1:o.drop o.length=[]:=List.drop_length;have r5:decide ((o.length:Int)≤(o.length:Int))=true:=decide_eq_true (by omega);have r5N:decide (o.length≤o.length)=true:=decide_eq_true (by omega);by_cases hlt:o.length<p.length
   ·have r3:(o.length:Int)<(p.length:Int):=by omega
    have r3N:decide (o.length<p.length)=true:=decide_eq_true hlt;have hres:cmpI o p=-1:=by
     rw[HE.out,h1]
     have:p.drop o.length≠[]:=fun e=>by have:=drop_nil e;omega
     cases hd:p.drop o.length with
     |nil=>exact absurd hd this
     |cons y t=>rfl
    have HRES:=Hi hres;clear hres h1 F;go_wp2_with fail
    go_quiet (fail)
    go_wp2_with fail
    go_ret;refine⟨by rw[HRES.out];rfl,?_⟩;(first|with_reducible exact HF.out|with_reducible exact Fr.drewN HF.out _|with_reducible exact Fr.drewN (Fr.drewN HF.out _) _|with_reducible exact Fr.drewN (Fr.drewN (Fr.drewN HF.out _) _) _)
   ·have r3:¬(o.length:Int)<(p.length:Int):=by omega
    have r3N:decide (o.length<p.length)=false:=decide_eq_false hlt;have hres:cmpI o p=0:=by
     have h2:p.drop o.length=[]:=List.drop_eq_nil_of_le (by omega);rw[HE.out,h1,h2]
     rfl
    have HRES:=Hi hres;clear hres h1;go_wp2_with fail
    go_ret;exact⟨by rw[HRES.out];rfl,F⟩
theorem r04Same_any (v u:Value)(o p:List Int)(w:World)(h:Ints w v o)(hu:Ints w u p) :
  Calls Tryz.prog 67 #[v,u] w fun e w'=>e=.returned (.bool (decide (o=p)))∧Fz w w':=by
 have H:=Hi (r04Compare_any v u o p w h hu);clear h hu;have hq:(cmpI o p==0)=decide (o=p):=by
  rw[Bool.eq_iff_iff]
  simp[cmpI_zero]
 have HQ:=Hi hq;clear hq;generalize cmpI o p=c at *
 go_enter Tryz.func67,Tryz.ntmps67
 go_wp2_with fail
 refine H.out.mono ?_;rintro e w' ⟨rfl,F⟩;go_wp2_with fail
 go_ret;exact⟨by rw[←HQ.out];rfl,F⟩
def rWholeOut (w w':World)(o:List Int)(b:List UInt8)(e:Ending):Prop:=
 match attrS o b with
 |none=>e=.returned (.tuple #[.slice none 0 0,.bool false])
 |some x=>∃ v,e=.returned (.tuple #[v,.bool true])∧w'.ownsRow w.heap.size 5 1 v x.length (Lib.byteCells x)
theorem r01Compare_any (v u:Value)(o p:List UInt8)(w:World)(h:Bytes w v o)(hu:Bytes w u p) :
  Calls Tryz.prog 119 #[v,u] w fun e w'=>e=.returned (.int .i64 (cmpS o p))∧Fz w w':=by
 obtain⟨a,cap,rfl,hc1,hm1,hx⟩:=Vals.form h
 obtain⟨b,cbp,rfl,hc2,hm2,hy⟩:=Vals.form hu
 have HX:=Hi hx;have HY:=Hi hy;unfold maxLen at hm1 hm2;clear h hu hx hy;go_enter Tryz.func119,Tryz.ntmps119
 go_wp2_with fail
 go_loopg [5] (o.length+p.length) (fun g i wr=>∃ j:Nat,g=o.length+p.length-j∧j≤o.length∧j≤p.length∧i=.int .i64 j∧cmpS o p=cmpS (o.drop j) (p.drop j)∧Fz w wr)
 case atStart=>exact⟨0,rfl,Nat.zero_le _,Nat.zero_le _,rfl,rfl,Fr.refl _⟩
 case round=>
  obtain⟨j,hg,hj,hjp,rfl,hE,F⟩:=hrel
  have HG:=Hi hg;have HE:=Hi hE;have HF:=Hi F;clear hg hE;by_cases hjl:j<o.length
  ·obtain⟨ba,oa,rfl,ha⟩:=HX.out (by omega)
   obtain⟨x,hxj⟩:∃ x,o[j]? = some x:=⟨_,List.getElem?_eq_getElem hjl⟩
   have e1:=F.cell (ha j x hxj) (fun h=>h);have r1:(0:Int)≤(j:Int):=by omega
   have r2:(j:Int)<(o.length:Int):=by omega
   have r5:decide ((o.length:Int)≤(j:Int))=false:=decide_eq_false (by omega);have r5N:decide (o.length≤j)=false:=decide_eq_false (by omega);have r5':decide ((j:Int)<(o.length:Int))=true:=decide_eq_true (by omega);have r5'N:decide (j<o.length)=true:=decide_eq_true (by omega);by_cases hjl2:j<p.length
   ·obtain⟨bb,ob,rfl,hb⟩:=HY.out (by omega)
    obtain⟨y,hyj⟩:∃ y,p[j]? = some y:=⟨_,List.getElem?_eq_getElem hjl2⟩
    have e2:=F.cell (hb j y hyj) (fun h=>h);have r4:(j:Int)<(p.length:Int):=by omega
    have r3:decide ((p.length:Int)≤(j:Int))=false:=decide_eq_false (by omega);have r3N:decide (p.length≤j)=false:=decide_eq_false (by omega);have r4':decide ((j:Int)<(p.length:Int))=true:=decide_eq_true (by omega);have r4'N:decide (j<p.length)=true:=decide_eq_true (by omega);have hcd:=Hi (cmpS_drop hxj hyj);clear ha hb hxj hyj F;generalize x.toNat=x at *
    generalize y.toNat=y at *
    by_cases h1:x<y
    ·have hres:cmpS o p=-1:=by rw[HE.out,hcd.out,if_pos h1]
     have HRES:=Hi hres;have q1:decide ((x:Int)<(y:Int))=true:=decide_eq_true (by omega);have q1N:decide (x<y)=true:=decide_eq_true h1;clear hres;go_wp2_with fail
     go_quiet (fail)
     go_wp2_with fail
     go_ret;refine⟨by rw[HRES.out];rfl,?_⟩;(first|with_reducible exact HF.out|with_reducible exact Fr.drewN HF.out _|with_reducible exact Fr.drewN (Fr.drewN HF.out _) _|with_reducible exact Fr.drewN (Fr.drewN (Fr.drewN HF.out _) _) _)
    ·have q1:decide ((x:Int)<(y:Int))=false:=decide_eq_false (by omega)
     have q1N:decide (x<y)=false:=decide_eq_false h1;by_cases h2:y<x
     ·have hres:cmpS o p=1:=by rw[HE.out,hcd.out,if_neg h1,if_pos h2]
      have HRES:=Hi hres;have q2:decide ((y:Int)<(x:Int))=true:=decide_eq_true (by omega);have q2N:decide (y<x)=true:=decide_eq_true h2;clear hres;go_wp2_with fail
      go_quiet (fail)
      go_wp2_with fail
      go_quiet (fail)
      go_wp2_with fail
      go_ret;refine⟨by rw[HRES.out];rfl,?_⟩;(first|with_reducible exact HF.out|with_reducible exact Fr.drewN HF.out _|with_reducible exact Fr.drewN (Fr.drewN HF.out _) _|with_reducible exact Fr.drewN (Fr.drewN (Fr.drewN HF.out _) _) _)
     ·have hres:cmpS o p=cmpS (o.drop (j+1)) (p.drop (j+1)):=by rw[HE.out,hcd.out,if_neg h1,if_neg h2]
      have HRES:=Hi hres;have q2:decide ((y:Int)<(x:Int))=false:=decide_eq_false (by omega);have q2N:decide (y<x)=false:=decide_eq_false h2;clear hres;go_wp2_with fail
      go_quiet (fail)
      go_wp2_with fail
      go_quiet (fail)
      go_wp2_with fail
      go_roundg (o.length+p.length-(j+1))
      case measure=>rw[HG.out];omega
      case rel=>refine⟨j+1,rfl,by omega,by omega,by go_num,HRES.out,?_⟩;(first|with_reducible exact HF.out|with_reducible exact Fr.drewN HF.out _|with_reducible exact Fr.drewN (Fr.drewN HF.out _) _|with_reducible exact Fr.drewN (Fr.drewN (Fr.drewN HF.out _) _) _)
   ·have r3:decide ((p.length:Int)≤(j:Int))=true:=decide_eq_true (by omega)
    have r3N:decide (p.length≤j)=true:=decide_eq_true (by omega);have r4:decide ((j:Int)<(p.length:Int))=false:=decide_eq_false (by omega);have r4N:decide (j<p.length)=false:=decide_eq_false (by omega);have hres:cmpS o p=1:=by
     have h1:o.drop j=x::o.drop (j+1):=by
      obtain⟨h,rfl⟩:=List.getElem?_eq_some_iff.1 hxj
      exact List.drop_eq_getElem_cons h
     have h2:p.drop j=[]:=List.drop_eq_nil_of_le (by omega);rw[HE.out,h1,h2]
     rfl
    have HRES:=Hi hres;clear hres ha hxj F;go_wp2_with fail
    go_quiet (fail)
    go_wp2_with fail
    go_quiet (fail)
    go_wp2_with fail
    go_ret;refine⟨by rw[HRES.out];rfl,?_⟩;(first|with_reducible exact HF.out|with_reducible exact Fr.drewN HF.out _|with_reducible exact Fr.drewN (Fr.drewN HF.out _) _|with_reducible exact Fr.drewN (Fr.drewN (Fr.drewN HF.out _) _) _)
  ·obtain rfl:j=o.length:=by omega
   have h1:o.drop o.length=[]:=List.drop_length;have r5:decide ((o.length:Int)≤(o.length:Int))=true:=decide_eq_true (by omega);have r5N:decide (o.length≤o.length)=true:=decide_eq_true (by omega);by_cases hlt:o.length<p.length
   ·have r3:(o.length:Int)<(p.length:Int):=by omega
    have r3N:decide (o.length<p.length)=true:=decide_eq_true hlt;have hres:cmpS o p=-1:=by
     rw[HE.out,h1]
     have:p.drop o.length≠[]:=fun e=>by have:=drop_nil e;omega
     cases hd:p.drop o.length with
     |nil=>exact absurd hd this
     |cons y t=>rfl
    have HRES:=Hi hres;clear hres h1 F;go_wp2_with fail
    go_quiet (fail)
    go_wp2_with fail
    go_ret;refine⟨by rw[HRES.out];rfl,?_⟩;(first|with_reducible exact HF.out|with_reducible exact Fr.drewN HF.out _|with_reducible exact Fr.drewN (Fr.drewN HF.out _) _|with_reducible exact Fr.drewN (Fr.drewN (Fr.drewN HF.out _) _) _)
   ·have r3:¬(o.length:Int)<(p.length:Int):=by omega
    have r3N:decide (o.length<p.length)=false:=decide_eq_false hlt;have hres:cmpS o p=0:=by
     have h2:p.drop o.length=[]:=List.drop_eq_nil_of_le (by omega);rw[HE.out,h1,h2]
     rfl
    have HRES:=Hi hres;clear hres h1;go_wp2_with fail
    go_ret;exact⟨by rw[HRES.out];rfl,F⟩
theorem r01Same_any (v u:Value)(o p:List UInt8)(w:World)(h:Bytes w v o)(hu:Bytes w u p) :
  Calls Tryz.prog 68 #[v,u] w fun e w'=>e=.returned (.bool (decide (o=p)))∧Fz w w':=by
 have H:=Hi (r01Compare_any v u o p w h hu);clear h hu;have hq:(cmpS o p==0)=decide (o=p):=by
  rw[Bool.eq_iff_iff]
  simp[cmpS_zero]
 have HQ:=Hi hq;clear hq;generalize cmpS o p=c at *
 go_enter Tryz.func68,Tryz.ntmps68
 go_wp2_with fail
 refine H.out.mono ?_;rintro e w' ⟨rfl,F⟩;go_wp2_with fail
 go_ret;exact⟨by rw[←HQ.out];rfl,F⟩
theorem cloneInt_any (v:Value)(o:List Int)(w:World)(h:Ints w v o)(hl:o.length≤100000000000) :
  Calls Tryz.prog 113 #[v] w fun e w'=>(∃ u,e=.returned u∧w'.ownsRow w.heap.size 3 1 u o.length (intCells o))∧Fz w w':=by
 obtain⟨a,cap,rfl,-⟩:=Ints.form h
 have qT:∀ (w:World) (a:Option Addr) (n c n' c':Nat),(binOp .eql 27 (.slice a n c) (.slice none n' c')).run Tryz.prog w=.ok (.bool a.isNone) w:=fun w a n c n' c'=>Lib.run_eql_slice_nil w _ _ a n c n' c' Tryz.underlying27
 cases a with
 |none=>
  have h0:o=[]:=by
   obtain⟨a0,c0,he,_,_,hx⟩:=Ints.form h
   cases o with
   |nil=>rfl
   |cons u s=>
    obtain⟨b,o,e,-⟩:=hx (by simp)
    simp only[Value.slice.injEq]at he
    rw[e]at he
    cases he.1
  subst h0;clear h;go_enter Tryz.func113,Tryz.ntmps113
  go_wp2_with fail
  go_ret;exact⟨⟨_,rfl,rfl,.inl ⟨rfl,rfl⟩⟩,Fr.refl _⟩
 |some ad=>
  have B0:=Blk.new w 3 #[];have F0:Fz w (w.alloc (.cells #[] 3)):=(Fr.refl w).alloc _;have hl2:(intCells o).length=o.length:=intCells_len o;obtain⟨a',c',w',hrun,hown,F1,-⟩:=append_vals Tryz.underlying27 info3 rfl (by decide) (own_block B0 0 (Nat.le_refl _) (Nat.zero_le _) w.heap.size (Nat.le_refl _)) F0.size (h.old F0) (intCells_one o) (by rw[hl2];omega)
  rw[hl2,Nat.zero_add]at hrun hown
  have HF:=Hi (F0.trans' F1 (fun i hi e=>by simp[Value.ownBlock]at e;omega));have HRUN:=Hi hrun;have HOW:=Hi hown;clear hrun hown F1 B0 F0 h hl2;go_enter Tryz.func113,Tryz.ntmps113
  go_wp2_with (at_builtin;refine wpList_append_run (by rfl) (.tmp 5) (.tmp 6) 27 (by rfl) _ w' (by exact HRUN.out) ?_)
  go_ret;exact⟨⟨_,rfl,HOW.out⟩,HF.out⟩
theorem cloneByte_any (v:Value)(o:List UInt8)(w:World)(h:Bytes w v o)(hl:o.length≤100000000000) :
  Calls Tryz.prog 114 #[v] w fun e w'=>(∃ u,e=.returned u∧w'.ownsRow w.heap.size 5 1 u o.length (Lib.byteCells o))∧Fz w w':=by
 obtain⟨a,cap,rfl,-⟩:=Vals.form h
 have qT:∀ (w:World) (a:Option Addr) (n c n' c':Nat),(binOp .eql 32 (.slice a n c) (.slice none n' c')).run Tryz.prog w=.ok (.bool a.isNone) w:=fun w a n c n' c'=>Lib.run_eql_slice_nil w _ _ a n c n' c' Tryz.underlying32
 cases a with
 |none=>
  have h0:o=[]:=by
   obtain⟨a0,c0,he,_,_,hx⟩:=Vals.form h
   cases o with
   |nil=>rfl
   |cons u s=>
    obtain⟨b,o,e,-⟩:=hx (by simp)
    simp only[Value.slice.injEq]at he
    rw[e]at he
    cases he.1
  subst h0;clear h;go_enter Tryz.func114,Tryz.ntmps114
  go_wp2_with fail
  go_ret;exact⟨⟨_,rfl,rfl,.inl ⟨rfl,rfl⟩⟩,Fr.refl _⟩
 |some ad=>
  have B0:=Blk.new w 5 #[];have F0:Fz w (w.alloc (.cells #[] 5)):=(Fr.refl w).alloc _;have hl2:(Lib.byteCells o).length=o.length:=byteCells_len o;obtain⟨a',c',w',hrun,hown,F1,-⟩:=append_vals Tryz.underlying32 info5 rfl (by decide) (own_block B0 0 (Nat.le_refl _) (Nat.zero_le _) w.heap.size (Nat.le_refl _)) F0.size (h.old F0) (byteCells_one o) (by rw[hl2];omega)
  rw[hl2,Nat.zero_add]at hrun hown
  have HF:=Hi (F0.trans' F1 (fun i hi e=>by simp[Value.ownBlock]at e;omega));have HRUN:=Hi hrun;have HOW:=Hi hown;clear hrun hown F1 B0 F0 h hl2;go_enter Tryz.func114,Tryz.ntmps114
  go_wp2_with (at_builtin;refine wpList_append_run (by rfl) (.tmp 5) (.tmp 6) 32 (by rfl) _ w' (by exact HRUN.out) ?_)
  go_ret;exact⟨⟨_,rfl,HOW.out⟩,HF.out⟩
def writeRdnOut (w w':World)(r:Option (List (List UInt8)))(e:Ending):Prop:=
 match r with
 |none=>e=.returned (.tuple #[.slice none 0 0,.int .i64 1])
 |some ws=>∃ a c,e=.returned (.tuple #[.slice a (rdnWhole ws).length c,.int .i64 0])∧w'.ownsRow w.heap.size 5 1 (.slice a (rdnWhole ws).length c) (rdnWhole ws).length (Lib.byteCells (rdnWhole ws))
structure Frm where
 tag:Tag
 set:Bool
 b:List UInt8
def frmCells (f:Frm)(bv:Value):List Value:=[.int .i64 f.tag.cls,.int .i64 f.tag.num,.bool f.tag.made,.bool f.set,bv]
def Frm.more (f:Frm)(l:List UInt8):Frm:=⟨f.tag,f.set,f.b++l⟩
end Go.Proofs.YteidmhkobmddiaaGreatDoor
