/-
  Merged by program: XNOidQ XNAttrR XNRdnR XNNameR XHeld XR14L XNkLaw XNkKnown XNkWalk1 XNbW XGenRd XGenRl XR13H XGenU XNAdd XGenN.
-/
import Derived.Test.YtehlipgmkinfbaaGreatDoorP0ap
import Derived.Deep.CutBlock
import Derived.Lib.SlBytesConst
set_option linter.unusedSimpArgs false
set_option maxRecDepth 100000
set_option maxHeartbeats 8000000
namespace Go.Q
open Go Go.RowKit

theorem Part.ext2 {p q:Part}(h1:p.o=q.o)(h2:p.b=q.b):p=q:=by cases p;cases q;simp_all
theorem take_next {α:Type}{l m:List α}{i:Nat}{x:α}(h:l.take i=m.take i)(h1:l[i]? = some x)(h2:m[i]? = some x):l.take (i+1)=m.take (i+1):=by
 rw[List.take_add_one,List.take_add_one,h,h1,h2]
theorem ne_at {α:Type}{l m:List α}{i:Nat}{x y:α}(h1:l[i]? = some x)(h2:m[i]? = some y)(h:x≠y):l≠m:=fun e=>by
 subst e;rw[h1]at h2
 exact h (Option.some.inj h2)
theorem eq_of_take {α:Type}{l m:List α}(h:l.length=m.length)(h1:l.take l.length=m.take l.length):l=m:=by
 rw[List.take_length]at h1
 rw[h1,h,List.take_length]
abbrev oneN (o:List Int)(v:List UInt8):List (List Part):=[[⟨o,v⟩]]
def knT1:List UInt8:=[50,46,53,46,52,46,51,61,67,65]
def knT2:List UInt8:=[50,46,53,46,52,46,49,48,61,32,70,111,111,32,32,66,97,114,32]
def knT3:List UInt8:=[50,46,53,46,52,46,51,61,99,97]
def knT4:List UInt8:=[50,46,53,46,52,46,49,48,61,102,111,111,32,98,97,114]
def knV1:List UInt8:=wrapS (tagOf 19) ([67,65])
def knV2:List UInt8:=wrapS (tagOf 19) ([32,70,111,111,32,32,66,97,114,32])
def knV3:List UInt8:=wrapS (tagOf 19) ([99,97])
def knV4:List UInt8:=wrapS (tagOf 19) ([102,111,111,32,98,97,114])
def knA:List (List Part):=[[⟨[2,5,4,3],knV1⟩],[⟨[2,5,4,10],knV2⟩]]
def knB:List (List Part):=[[⟨[2,5,4,3],knV3⟩],[⟨[2,5,4,10],knV4⟩]]
theorem knA1_ok:nameOk (knA.take 1)=true:=by kernel_rfl
theorem kn_few:∀ r∈knA,fewB r:=by
 intro r hr p hp;simp only[knA,List.mem_cons,List.not_mem_nil,or_false]at hr
 rcases hr with rfl|rfl<;>(rw[List.mem_singleton.1 hp];exact of_decide_eq_true (by kernel_rfl))
theorem NameAt.take {w:World}{a:Option Addr}{m cap:Nat}{n:List (List Part)}(h:NameAt w (.slice a m cap) n)(k:Nat)(hk:k≤n.length)(cap':Nat)(hc:k≤cap')(hm:cap'≤maxLen):NameAt w (.slice a k cap') (n.take k):=by
 obtain⟨a0,cap0,he,h1,h2,h3⟩:=h
 simp only[Value.slice.injEq]at he
 obtain⟨rfl,rfl,rfl⟩:=he
 have hl:(n.take k).length=k:=by rw[List.length_take];omega
 refine⟨a,cap',by rw[hl],by omega,hm,fun h0=>?_⟩
 obtain⟨b,o,rfl,hy⟩:=h3 (by omega)
 refine⟨b,o,rfl,fun i r hr=>hy i r ?_⟩
 rw[List.getElem?_take]at hr
 split at hr
 ·exact hr
 ·cases hr
def urisS (l:List Gen):List (List UInt8):=(l.filter fun g=>decide (g.k=6)&&genOk g).map (·.b)
def KRow (t:TypeId)(w:World)(base:Nat)(v:Value)(l:List Part):Prop:=
 ∃ cs:List Value,w.ownsRow base t 2 v l.length cs∧∀ (i:Nat) (p:Part),l[i]? = some p→∃ x y,cs[2*i]? = some x∧cs[2*i+1]? = some y∧Kept (fun W=>Ints W x p.o∧Bytes W y p.b) (fun k=>v.ownBlock=some k∨k<base) w
theorem KRow.nil (t:TypeId)(w:World)(base:Nat):KRow t w base (.slice none 0 0) []:=⟨[],⟨rfl,.inl ⟨rfl,rfl⟩⟩,fun i p hp=>by simp at hp⟩
theorem KRow.keep {t:TypeId}{w:World}{base:Nat}{v:Value}{l:List Part}(h:KRow t w base v l):∀ k,v.ownBlock=some k→base≤k∧k<w.heap.size:=fun k hk=>by
 obtain⟨us,h1,-⟩:=h
 exact h1.lt k hk
theorem KRow.at {t:TypeId}{w:World}{base:Nat}{v:Value}{l:List Part}(h:KRow t w base v l):Attrs w v l:=by
 obtain⟨cs,h1,h2⟩:=h
 exact ARow.at (t:=t) (w:=w) (base:=base) ⟨cs,h1,fun i p hp=>by
  obtain⟨x,y,e1,e2,e3⟩:=h2 i p hp
  exact⟨x,y,e1,e2,e3.now.1,e3.now.2⟩⟩ (Fr.refl w)
theorem KRow.fr {t:TypeId}{S:Nat→Prop}{w w':World}{base:Nat}{v:Value}{l:List Part}(h:KRow t w base v l)(f:Fr S w w')(hS:∀ k,S k→k<base):KRow t w' base v l:=by
 have hk:=h.keep;obtain⟨cs,h1,h2⟩:=h
 refine⟨cs,Go.Proofs.YtehlipgmkinfbaaGreatDoor.ownsRow_fr h1 f (fun k e hs=>by have:=(hk k e).1;have:=hS k hs;omega),fun i p hp=>?_⟩
 obtain⟨x,y,e1,e2,e3⟩:=h2 i p hp
 exact⟨x,y,e1,e2,e3.step f (fun k _ hs=>.inr (hS k hs)) (fun k hk=>.inl hk)⟩
theorem KRow.kept {t:TypeId}{w:World}{base:Nat}{v:Value}{l:List Part}(h:KRow t w base v l):Kept (fun W=>Attrs W v l) (fun k=>k<base) w:=fun _ f=>(h.fr f (fun _ hk=>hk)).at
theorem KRow.add {P:Program}{t s:TypeId}(hu0:P.underlying s=some (.slice t))(hinf:Info P t (.agg #[.slice none 0 0,.slice none 0 0]) 2 48){w wa:World}{base:Nat}{v x y:Value}{l:List Part}(h:KRow t w base v l)(hb:base≤w.heap.size)(F1:Fz w wa)(g:Nat)(BX:Blk wa g t #[x,y])(p:Part)(hk:Kept (fun W=>Ints W x p.o∧Bytes W y p.b) (fun k=>v.ownBlock=some k∨k<base) w)(hn:l.length≤109951162777) :
  ∃ a c w',(Builtin.append_ #[s,s] s #[v,.slice (some ⟨g,0,none⟩) 1 1]).run P wa=.ok (.slice a (l.length+1) c) w'∧KRow t w' base (.slice a (l.length+1) c) (l++[p])∧Fr (fun k=>v.ownBlock=some k) w w':=by
 obtain⟨cs,h1,h2⟩:=h
 have hcl:cs.length=l.length*2:=h1.1;obtain⟨ax,cx,rfl,-⟩:=Ints.form hk.now.1
 obtain⟨ay,cy,rfl,-⟩:=Vals.form hk.now.2
 obtain⟨a,c,w',hrun,h4,F2,h5⟩:=add_gen hu0 hinf rfl (by decide) (by decide) h1 hb F1 g [.slice ax p.o.length cx,.slice ay p.b.length cy] rfl BX (by intro u hu;simp at hu;rcases hu with rfl|rfl<;>rfl) hn
 have hst:∀ (x y:Value) (q:Part),Kept (fun W=>Ints W x q.o∧Bytes W y q.b) (fun k=>v.ownBlock=some k∨k<base) w→Kept (fun W=>Ints W x q.o∧Bytes W y q.b) (fun k=>(Value.slice a (l.length+1) c).ownBlock=some k∨k<base) w':=fun x y q hq=>
  hq.step F2 (fun _ _ h=>.inl h) (fun k hk=>by
   rcases hk with h|h
   ·rcases h5 k h with h|h
    ·exact .inl (.inl h)
    ·exact .inr h
   ·exact .inl (.inr h))
 refine⟨a,c,w',hrun,⟨cs++[.slice ax p.o.length cx,.slice ay p.b.length cy],by rw[List.length_append];exact h4,fun i q hq=>?_⟩,F2⟩
 rcases Nat.lt_or_ge i l.length with hi|hi
 ·rw[List.getElem?_append_left hi]at hq
  obtain⟨x,y,e1,e2,e3⟩:=h2 i q hq
  exact⟨x,y,by rw[List.getElem?_append_left (by omega)];exact e1,by rw[List.getElem?_append_left (by omega)];exact e2,hst _ _ _ e3⟩
 ·obtain rfl:i=l.length:=by
   have:=(List.getElem?_eq_some_iff.1 hq).1;simp at this
   omega
  rw[List.getElem?_append_right (Nat.le_refl _)]at hq
  simp at hq
  subst hq;refine⟨_,_,?_,?_,hst _ _ _ hk⟩
  ·rw[List.getElem?_append_right (by omega),show 2*l.length-cs.length=0 from by omega];rfl
  ·rw[List.getElem?_append_right (by omega),show 2*l.length+1-cs.length=1 from by omega];rfl
theorem listOf {α:Type}{p:Nat→α→Prop}:∀ n,(∀ i,i<n→∃ a,p i a)→∃ l:List α,l.length=n∧∀ i a,l[i]? = some a→p i a
 |0,_=>⟨[],rfl,fun i a h=>by simp at h⟩
 |n+1,h=>by
  obtain⟨l,hl,hp⟩:=listOf n (fun i hi=>h i (by omega))
  obtain⟨a,ha⟩:=h n (by omega)
  refine⟨l++[a],by simp[hl],fun i b hb=>?_⟩
  rcases Nat.lt_or_ge i l.length with hi|hi
  ·rw[List.getElem?_append_left hi]at hb
   exact hp i b hb
  ·rw[List.getElem?_append_right hi]at hb
   have h0:i-l.length=0:=by
    have:=(List.getElem?_eq_some_iff.1 hb).1;simp at this
    omega
   rw[h0]at hb
   simp only[List.getElem?_cons_zero,Option.some.injEq]at hb
   subst hb;obtain rfl:i=n:=by omega
   exact ha
theorem NameAt.vals {w:World}{v:Value}{n:List (List Part)}(h:NameAt w v n):∃ us,Vals w v us∧us.length=n.length∧(∀ u∈us,u.oneCell'=true)∧∀ (i:Nat) (u:Value) (r:List Part),us[i]? = some u→n[i]? = some r→Attrs w u r:=by
 obtain⟨a,cap,rfl,h1,h2,h3⟩:=h
 rcases Nat.eq_zero_or_pos n.length with h0|h0
 ·exact⟨[],⟨a,cap,by rw[h0];rfl,by simp,h2,fun h=>by simp at h⟩,by rw[h0];rfl,by simp,fun i u r h=>by simp at h⟩
 ·obtain⟨b,o,rfl,hy⟩:=h3 h0
  obtain⟨us,hl,hp⟩:=listOf (p:=fun i u=>w.cell? ⟨b,o+i,none⟩=some u∧∀ r,n[i]? = some r→Attrs w u r) n.length (fun i hi=>by
   obtain⟨x,e1,e2⟩:=hy i _ (List.getElem?_eq_getElem hi)
   exact⟨x,e1,fun r hr=>by rw[List.getElem?_eq_getElem hi]at hr;cases hr;exact e2⟩)
  refine⟨us,⟨_,cap,by rw[hl],by omega,h2,fun _=>⟨b,o,rfl,fun i u hu=>(hp i u hu).1⟩⟩,hl,fun u hu=>?_,fun i u r hu hr=>(hp i u hu).2 r hr⟩
  obtain⟨i,hi⟩:=List.mem_iff_getElem?.1 hu
  have hil:i<n.length:=by have:=(List.getElem?_eq_some_iff.1 hi).1;omega
  obtain⟨ax,cx,rfl⟩:=((hp i u hi).2 _ (List.getElem?_eq_getElem hil)).form
  rfl
def NamesAt (wb w:World)(v:Value)(L:List (List (List Part))):Prop:=
 ∃ a cap,v=.slice a L.length cap∧(0<L.length→∃ b o,a=some ⟨b,o,none⟩∧∀ i n,L[i]? = some n→∃ x,w.cell? ⟨b,o+i,none⟩=some x∧NameAt wb x n)
def CRow (t:TypeId)(w wr:World)(base:Nat)(v:Value)(n:List (List Part)):Prop:=
 ∃ us:List Value,wr.ownsRow base t 1 v n.length us∧us.length=n.length∧∀ (i:Nat) (u:Value) (r:List Part),us[i]? = some u→n[i]? = some r→Attrs w u r
theorem CRow.at {t:TypeId}{w wr:World}{base:Nat}{v:Value}{n:List (List Part)}(h:CRow t w wr base v n)(F:Fz w wr):NameAt wr v n:=by
 obtain⟨us,h1,h2,h3⟩:=h
 obtain⟨a,cap,he,hc,hm,hx⟩:=(Vals.of_own h1).1
 rw[h2]at he hc hx
 refine⟨a,cap,he,hc,hm,fun h0=>?_⟩
 obtain⟨b,o,rfl,hy⟩:=hx h0
 refine⟨b,o,rfl,fun i r hr=>?_⟩
 have hi:i<us.length:=by rw[h2];exact(List.getElem?_eq_some_iff.1 hr).1
 exact⟨us[i],hy i _ (List.getElem?_eq_getElem hi),(h3 i _ r (List.getElem?_eq_getElem hi) hr).old F⟩
theorem CRow.keep {t:TypeId}{w wr:World}{base:Nat}{v:Value}{n:List (List Part)}(h:CRow t w wr base v n):∀ k,v.ownBlock=some k→base≤k∧k<wr.heap.size:=fun k hk=>by
 obtain⟨us,h1,-⟩:=h
 exact h1.lt k hk
theorem CRow.fr {t:TypeId}{S:Nat→Prop}{w wr w':World}{base:Nat}{v:Value}{n:List (List Part)}(h:CRow t w wr base v n)(f:Fr S wr w')(hS:∀ k,v.ownBlock=some k→¬S k):CRow t w w' base v n:=by
 obtain⟨us,h1,h2⟩:=h
 exact⟨us,Go.Proofs.YtehlipgmkinfbaaGreatDoor.ownsRow_fr h1 f hS,h2⟩
theorem CRow.shape {t:TypeId}{w wr:World}{base:Nat}{v:Value}{n:List (List Part)}(h:CRow t w wr base v n):∃ a c,v=.slice a n.length c:=by
 obtain⟨us,h1,-⟩:=h
 obtain⟨a,m,c,rfl,rfl⟩:=own_shape h1
 exact⟨a,c,rfl⟩
theorem CRow.add {P:Program}{t s:TypeId}(hu0:P.underlying s=some (.slice t))(hinf:Info P t (.slice none 0 0) 1 24){w wr:World}{base:Nat}{v u:Value}{n r:List (List Part)}(h:CRow t w wr base v n)(hb:base≤wr.heap.size)(F:Fz w wr)(hr:NameAt w u r)(hn:n.length+r.length≤1099511627776) :
  ∃ a c w',(Builtin.append_ #[s,s] s #[v,u]).run P wr=.ok (.slice a (n.length+r.length) c) w'∧CRow t w w' base (.slice a (n.length+r.length) c) (n++r)∧Fr (fun k=>v.ownBlock=some k) wr w':=by
 obtain⟨us,h1,h2,h3⟩:=h
 obtain⟨ns,g1,g2,g3,g4⟩:=hr.vals
 obtain⟨a,c,w',hrun,h4,F2,-⟩:=append_vals hu0 hinf rfl (by decide) h1 hb (g1.old F) g3 (by rw[g2];exact hn)
 rw[g2]at hrun h4
 refine⟨a,c,w',hrun,⟨us++ns,by rw[List.length_append];exact h4,by rw[List.length_append,List.length_append,h2,g2],fun i x q hx hq=>?_⟩,F2⟩
 rcases Nat.lt_or_ge i us.length with hi|hi
 ·rw[List.getElem?_append_left hi]at hx
  rw[List.getElem?_append_left (by omega)]at hq
  exact h3 i x q hx hq
 ·rw[List.getElem?_append_right hi]at hx
  rw[List.getElem?_append_right (by omega)]at hq
  rw[h2]at hx
  exact g4 _ x q hx hq
def RName (W:World)(cs:List Value)(n:List (List Part)):Prop:=∃ u,cs=[u]∧NameAt W u n
abbrev NamesL (W:World)(v:Value)(l:List (List (List Part))):Prop:=LAt 1 RName W v l
theorem RName.old (w w':World)(cs:List Value)(n:List (List Part))(h:RName w cs n)(f:Fz w w'):RName w' cs n:=by
 obtain⟨u,rfl,h1⟩:=h
 exact⟨u,rfl,h1.old f⟩
theorem NamesL.old {w w':World}{v:Value}{l:List (List (List Part))}(h:NamesL w v l)(f:Fz w w'):NamesL w' v l:=LAt.old RName.old h f
def namesS (l:List Gen):List (List (List Part)):=(l.filter fun g=>decide (g.k=4)&&genOk g).map (·.n)
def fitN (n:List (List Part)):Prop:=n.length≤1000∧∀ r∈n,fewB r∧r.length≤1000000∧∀ p∈r,p.o.length≤100000000000
end Go.Q
namespace Go.Proofs.YtehlipgmkinfbaaGreatDoor
open Go Go.RowKit Go.Q
def oidReadOut (w w':World)(c:Nat)(K:Nat→Prop)(bs:List UInt8)(p:Nat)(r:Except Int (List Int × Nat))(e:Ending):Prop:=
 match r with
 |.ok (o,k)=>∃ a cc,e=.returned (.tuple #[.slice a o.length cc,.int .i64 0])∧w'.ownsRow w.heap.size 3 1 (.slice a o.length cc) o.length (intCells o)∧CurAt w' c K bs (p+k)
 |.error x=>e=.returned (.tuple #[.slice none 0 0,.int .i64 x])∧CurAt w' c K bs p
def valueOut (w w':World)(c:Nat)(K:Nat→Prop)(bs:List UInt8)(p:Nat)(r:Except Int (Tag × Nat × Nat))(e:Ending):Prop:=
 match r with
 |.ok (_,_,n)=>∃ a cc,e=.returned (.tuple #[.slice a n cc,.int .i64 0])∧w'.ownsRow w.heap.size 5 1 (.slice a n cc) n (Lib.byteCells ((bs.drop p).take n))∧CurAt w' c K bs (p+n)
 |.error x=>e=.returned (.tuple #[.slice none 0 0,.int .i64 x])∧∃ q,p≤q∧CurAt w' c K bs q
def attrOut (w w':World)(c:Nat)(K:Nat→Prop)(bs:List UInt8)(p:Nat)(r:Except Int (Part × Nat))(e:Ending):Prop:=
 match r with
 |.ok (q,m)=>∃ ao co av cv,e=.returned (.tuple #[.agg #[.slice ao q.o.length co,.slice av q.b.length cv],.int .i64 0])∧Kept (fun W=>Ints W (.slice ao q.o.length co) q.o∧Bytes W (.slice av q.b.length cv) q.b) (fun k=>k<w.heap.size) w'∧CurAt w' c K bs (p+m)
 |.error x=>e=.returned (.tuple #[.agg #[.slice none 0 0,.slice none 0 0],.int .i64 x])∧x≠0∧∃ q,p≤q∧CurAt w' c K bs q
def rdnOut (w w':World)(c:Nat)(K:Nat→Prop)(bs:List UInt8)(p:Nat)(r:Except Int (List Part × Nat))(e:Ending):Prop:=
 match r with
 |.ok (l,m)=>∃ a cc,e=.returned (.tuple #[.slice a l.length cc,.int .i64 0])∧Kept (fun W=>Attrs W (.slice a l.length cc) l) (fun k=>k<w.heap.size) w'∧CurAt w' c K bs (p+m)
 |.error x=>e=.returned (.tuple #[.slice none 0 0,.int .i64 x])∧x≠0∧∃ q,p≤q∧CurAt w' c K bs q
def nameOut (w w':World)(c:Nat)(K:Nat→Prop)(bs:List UInt8)(p:Nat)(r:Except Int (List (List Part) × Nat))(e:Ending):Prop:=
 match r with
 |.ok (l,m)=>∃ a cc,e=.returned (.tuple #[.slice a l.length cc,.int .i64 0])∧Kept (fun W=>NameAt W (.slice a l.length cc) l) (fun k=>k<w.heap.size) w'∧CurAt w' c K bs (p+m)
 |.error x=>e=.returned (.tuple #[.slice none 0 0,.int .i64 x])∧x≠0∧∃ q,p≤q∧CurAt w' c K bs q
def nameReadOut (w w':World)(c:Nat)(K:Nat→Prop)(bs:List UInt8)(p:Nat)(r:Except Int (List (List Part) × Nat))(e:Ending):Prop:=
 match r with
 |.ok (l,m)=>∃ a cc,e=.returned (.tuple #[.slice a l.length cc,.int .i64 0])∧Kept (fun W=>NameAt W (.slice a l.length cc) l) (fun k=>k<w.heap.size) w'∧CurAt w' c K bs (p+m)
 |.error x=>e=.returned (.tuple #[.slice none 0 0,.int .i64 x])∧x≠0∧CurAt w' c K bs p
def nameParseOut (w w':World)(r:Except Int (List (List Part)))(e:Ending):Prop:=
 match r with
 |.ok l=>∃ a cc,e=.returned (.tuple #[.slice a l.length cc,.int .i64 0])∧Kept (fun W=>NameAt W (.slice a l.length cc) l) (fun k=>k<w.heap.size) w'
 |.error x=>e=.returned (.tuple #[.slice none 0 0,.int .i64 x])∧x≠0
theorem r14Like_any (v u:Value)(n m:List (List Part))(w:World)(h:NameAt w v n)(hu:NameAt w u m) :
  Calls Tryz.prog 47 #[v,u] w fun e w'=>e=.returned (.bool (decide (n=m)))∧Fz w w':=by
 have H:=Hi h;have HU:=Hi hu;obtain⟨a,cap,rfl,hc,hm,-⟩:=h
 obtain⟨a',cap',rfl,hc',hm',-⟩:=hu
 have hcm:cap≤9223372036854775807:=by unfold maxLen at hm;omega
 have hcm':cap'≤9223372036854775807:=by unfold maxLen at hm';omega
 clear hm hm';by_cases hlen:n.length=m.length
 ·have q1:((n.length:Int) != (m.length:Int))=false:=by simp[hlen]
  have q2:(n.length != m.length)=false:=by simp[hlen]
  have q3:((n.length:Int)==(m.length:Int))=true:=by simp[hlen]
  have q4:(n.length==m.length)=true:=by simp[hlen]
  have HLEN:=Hi hlen;clear hlen;go_enter Tryz.func47,Tryz.ntmps47
  go_wp2_with fail
  clear q1 q2 q3 q4;go_loopg [5] n.length (fun g ii wr=>∃ i:Nat,g=n.length-i∧i≤n.length∧ii=.int .i64 i∧n.take i=m.take i∧Fz w wr)
  case atStart=>exact⟨0,rfl,Nat.zero_le _,rfl,rfl,Fr.refl _⟩
  case round=>
   obtain⟨i,hg,hi,rfl,ht,F⟩:=hrel
   have HG:=Hi hg;have HT:=Hi ht;have HF:=Hi F;clear hg ht;by_cases hil:i<n.length
   ·have him:i<m.length:=by have:=HLEN.out;omega
    obtain⟨a0,cap0,he,_,_,hx⟩:=H.out
    simp only[Value.slice.injEq,true_and]at he
    obtain⟨rfl,rfl⟩:=he
    obtain⟨b,off,rfl,hy⟩:=hx (by omega)
    obtain⟨r,hr⟩:∃ r,n[i]? = some r:=⟨_,List.getElem?_eq_getElem hil⟩
    obtain⟨x,e0,hA⟩:=hy i r hr
    clear hx hy;obtain⟨a0,cap0,he,_,_,hx⟩:=HU.out
    simp only[Value.slice.injEq,true_and]at he
    obtain⟨rfl,rfl⟩:=he
    obtain⟨b',off',rfl,hy⟩:=hx (by omega)
    obtain⟨s,hs⟩:∃ s,m[i]? = some s:=⟨_,List.getElem?_eq_getElem him⟩
    obtain⟨y,e0',hA'⟩:=hy i s hs
    clear hx hy;have HRI:=Hi hr;have HSI:=Hi hs;have HA:=Hi hA;have HA':=Hi hA';obtain⟨ar,cr,rfl,hcr,hmr,-⟩:=hA
    obtain⟨a2,cs,rfl,hcs,hms,-⟩:=hA'
    have hcr2:cr≤9223372036854775807:=by unfold maxLen at hmr;omega
    have hcs2:cs≤9223372036854775807:=by unfold maxLen at hms;omega
    have HE0:=Hi e0;have HE0':=Hi e0';have e0w:=F.cell e0 (fun h=>h);have e0w':=F.cell e0' (fun h=>h);have r1:(0:Int)≤(i:Int):=by omega
    have r2:(i:Int)<(n.length:Int):=by omega
    have r3:(i:Int)<(m.length:Int):=by omega
    clear hr hs F hmr hms e0 e0';by_cases hl2:r.length=s.length
    ·have q1:((r.length:Int) != (s.length:Int))=false:=by simp[hl2]
     have q2:(r.length != s.length)=false:=by simp[hl2]
     have q3:((r.length:Int)==(s.length:Int))=true:=by simp[hl2]
     have q4:(r.length==s.length)=true:=by simp[hl2]
     have HL2:=Hi hl2;clear hl2;go_upto_region 6 with fail
     go_quiet (fail)
     have HF1:=Hi (HF.out.drewN nq);generalize (wr.drewN nq)=w1 at *
     go_wp2_with fail
     clear q1 q2 q3 q4 e0w e0w';go_loopg [6] r.length (fun g kk wr=>∃ k:Nat,g=r.length-k∧k≤r.length∧kk=.int .i64 k∧r.take k=s.take k∧Fz w wr)
     case atStart=>exact⟨0,rfl,Nat.zero_le _,rfl,rfl,HF1.out⟩
     case round=>
      obtain⟨k,hg,hk,rfl,ht,F⟩:=hrel
      have HG2:=Hi hg;have HT2:=Hi ht;have HF2:=Hi F;have e0w:=F.cell HE0.out (fun h=>h);have e0w':=F.cell HE0'.out (fun h=>h);clear hg ht;by_cases hkl:k<r.length
      ·have hks:k<s.length:=by have:=HL2.out;omega
       obtain⟨a0,cap0,he,_,_,hx⟩:=HA.out
       simp only[Value.slice.injEq,true_and]at he
       obtain⟨rfl,rfl⟩:=he
       obtain⟨b1,o1,rfl,hy⟩:=hx (by omega)
       obtain⟨p,hp⟩:∃ p,r[k]? = some p:=⟨_,List.getElem?_eq_getElem hkl⟩
       obtain⟨x,y,e1,e2,hpx,hpy⟩:=hy k p hp
       clear hx hy;obtain⟨a0,cap0,he,_,_,hx⟩:=HA'.out
       simp only[Value.slice.injEq,true_and]at he
       obtain⟨rfl,rfl⟩:=he
       obtain⟨b2,o2,rfl,hy⟩:=hx (by omega)
       obtain⟨q,hq⟩:∃ q,s[k]? = some q:=⟨_,List.getElem?_eq_getElem hks⟩
       obtain⟨x',y',e1',e2',hqx,hqy⟩:=hy k q hq
       clear hx hy;rw[Nat.mul_comm]at e1 e2 e1' e2'
       obtain⟨ax,cx,rfl,-⟩:=Ints.form hpx
       obtain⟨ay,cy,rfl,-⟩:=Vals.form hpy
       obtain⟨ax',cx',rfl,-⟩:=Ints.form hqx
       obtain⟨ay',cy',rfl,-⟩:=Vals.form hqy
       have hS:∀ w',Fz w w'→w'.cell? ⟨b,off+i,none⟩=some (.slice (some ⟨b1,o1,none⟩) r.length cr)∧w'.cell? ⟨b',off'+i,none⟩=some (.slice (some ⟨b2,o2,none⟩) s.length cs)∧w'.cell? ⟨b1,o1+k*2,none⟩=some (.slice ax p.o.length cx)∧w'.cell? ⟨b1,o1+k*2+1,none⟩=some (.slice ay p.b.length cy)∧w'.cell? ⟨b2,o2+k*2,none⟩=some (.slice ax' q.o.length cx')∧w'.cell? ⟨b2,o2+k*2+1,none⟩=some (.slice ay' q.b.length cy'):=fun w' f=>⟨f.cell HE0.out (fun h=>h),f.cell HE0'.out (fun h=>h),f.cell e1 (fun h=>h),f.cell e2 (fun h=>h),f.cell e1' (fun h=>h),f.cell e2' (fun h=>h)⟩
       have HS:=Hi hS;obtain⟨d1,hd1⟩:∃ d1,decide (p.o=q.o)=d1:=⟨_,rfl⟩
       obtain⟨d2,hd2⟩:∃ d2,decide (p.b=q.b)=d2:=⟨_,rfl⟩
       have hc1:∀ W,Fz w W→Calls Tryz.prog 79 #[.slice ax p.o.length cx,.slice ax' q.o.length cx'] W fun e w'=>e=.returned (.bool d1)∧Fz W w':=fun W f=>by
        have:=r04Same_any _ _ p.o q.o W (hpx.old f) (hqx.old f);rw[hd1]at this
        exact this
       have hc2:∀ W,Fz w W→Calls Tryz.prog 80 #[.slice ay p.b.length cy,.slice ay' q.b.length cy'] W fun e w'=>e=.returned (.bool d2)∧Fz W w':=fun W f=>by
        have:=r01Same_any _ _ p.b q.b W (hpy.old f) (hqy.old f);rw[hd2]at this
        exact this
       have HC1:=Hi hc1;have HC2:=Hi hc2;have HD1:=Hi hd1;have HD2:=Hi hd2;have HPI:=Hi hp;have HQI:=Hi hq;have s1:(0:Int)≤(k:Int):=by omega
       have s2:(k:Int)<(r.length:Int):=by omega
       have s3:(k:Int)<(s.length:Int):=by omega
       clear hp hq e1 e2 e1' e2' hpx hpy hqx hqy hS hc1 hc2 hd1 hd2;go_upto_region 11 with fail
       clear e0w e0w';have G:Fz w wr.drew:=F.drew;clear F;cases d1 with
       |false=>
        have hne:n≠m:=ne_at HRI.out HSI.out (ne_at HPI.out HQI.out (fun e=>by have:=of_decide_eq_false HD1.out;rw[e]at this;exact this rfl));have HNE:=Hi (decide_eq_false hne);clear hne
        refine wp_region_N 38 (S:=(fun w'=>w'.cell? ⟨b,off+i,none⟩=some (.slice (some ⟨b1,o1,none⟩) r.length cr)∧w'.cell? ⟨b',off'+i,none⟩=some (.slice (some ⟨b2,o2,none⟩) s.length cs)∧w'.cell? ⟨b1,o1+k*2,none⟩=some (.slice ax p.o.length cx)∧w'.cell? ⟨b1,o1+k*2+1,none⟩=some (.slice ay p.b.length cy)∧w'.cell? ⟨b2,o2+k*2,none⟩=some (.slice ax' q.o.length cx')∧w'.cell? ⟨b2,o2+k*2+1,none⟩=some (.slice ay' q.b.length cy'))) (by kernel_rfl) ?_ (fun hHeld=>?_)
        ·exact HS.out _ G
        refine tkN 0 rfl hHeld ?_;refine tkN 1 rfl hHeld ?_;refine tkN 2 rfl hHeld ?_;(try simp only[Act.put,SS]);refine tkN 3 rfl hHeld ?_;refine tkN 4 rfl hHeld ?_;refine tkN 5 rfl hHeld ?_;(try simp only[Act.put,SS]);refine tkN 6 rfl hHeld ?_;refine tkN 7 rfl hHeld ?_;refine tkN 8 rfl hHeld ?_;(try simp only[Act.put,SS]);refine tkN 9 rfl hHeld ?_;refine tkN 10 rfl hHeld ?_;refine tkN 11 rfl hHeld ?_;(try simp only[Act.put,SS]);refine tkN 12 rfl hHeld ?_;refine tkN 13 rfl hHeld ?_;refine tkN 14 rfl hHeld ?_;(try simp only[Act.put,SS]);refine tkN 15 rfl hHeld ?_;(try simp only[Act.put,SS])
        refine wpAnyN_step (i:=16) (by kernel_rfl) (o:=_) rfl (fun KK hKK=>?_);go_simp
        (go_at_call 79;(with_reducible refine(HC1.out _ G).mono ?_);rintro e w' ⟨rfl,F⟩;replace G:=G.trans F;clear F;(try go_wp2_with fail))
        refine hKK.out _ _ ?_ (fun hHeld=>?_)
        ·exact HS.out _ G
        clear hKK KK;(try simp only[Act.put,SS]);refine tkN 17 rfl hHeld ?_;refine tkN 18 rfl hHeld ?_;refine tkS 19 rfl hHeld ?_;(try simp only[Act.put,SK,SS]);refine tkS 20 rfl hHeld ?_;refine tkS 21 rfl hHeld ?_;refine tkS 22 rfl hHeld ?_;(try simp only[Act.put,SK,SS]);refine tkS 23 rfl hHeld ?_;refine tkS 24 rfl hHeld ?_;refine tkS 25 rfl hHeld ?_;(try simp only[Act.put,SK,SS]);refine tkS 26 rfl hHeld ?_;refine tkS 27 rfl hHeld ?_;refine tkS 28 rfl hHeld ?_;(try simp only[Act.put,SK,SS]);refine tkS 29 rfl hHeld ?_;refine tkS 30 rfl hHeld ?_;refine tkS 31 rfl hHeld ?_;(try simp only[Act.put,SK,SS])
        refine tkS 32 rfl hHeld ?_;refine tkS 33 rfl hHeld ?_;refine tkS 34 rfl hHeld ?_;(try simp only[Act.put,SK,SS]);refine tkS 35 rfl hHeld ?_;refine tkS 36 rfl hHeld ?_;refine tkN 37 rfl hHeld ?_;(try simp only[Act.put,SK,SS]);refine wpAnyN_done (by kernel_rfl) ?_ _;clear hHeld;all_goals
         go_wp2_with fail
         go_ret;exact⟨by rw[HNE.out];rfl,G⟩
       |true=>
        cases d2 with
        |false=>
         have hne:n≠m:=ne_at HRI.out HSI.out (ne_at HPI.out HQI.out (fun e=>by have:=of_decide_eq_false HD2.out;rw[e]at this;exact this rfl));have HNE:=Hi (decide_eq_false hne);clear hne
         go_region_held3 (fun w'=>w'.cell? ⟨b,off+i,none⟩=some (.slice (some ⟨b1,o1,none⟩) r.length cr)∧w'.cell? ⟨b',off'+i,none⟩=some (.slice (some ⟨b2,o2,none⟩) s.length cs)∧w'.cell? ⟨b1,o1+k*2,none⟩=some (.slice ax p.o.length cx)∧w'.cell? ⟨b1,o1+k*2+1,none⟩=some (.slice ay p.b.length cy)∧w'.cell? ⟨b2,o2+k*2,none⟩=some (.slice ax' q.o.length cx')∧w'.cell? ⟨b2,o2+k*2+1,none⟩=some (.slice ay' q.b.length cy')) (exact HS.out _ G) (first
          |(go_at_call 79;refine(HC1.out _ G).mono ?_;rintro e w' ⟨rfl,F⟩;replace G:=G.trans F)
          |(go_at_call 80;refine(HC2.out _ G).mono ?_;rintro e w' ⟨rfl,F⟩;replace G:=G.trans F))
         all_goals
          go_wp2_with fail
          go_ret;exact⟨by rw[HNE.out];rfl,G⟩
        |true=>
         have hpq:p=q:=Part.ext2 (of_decide_eq_true HD1.out) (of_decide_eq_true HD2.out);have HNT:=Hi (take_next HT2.out HPI.out (by rw[hpq];exact HQI.out));clear hpq;go_region_held3 (fun w'=>w'.cell? ⟨b,off+i,none⟩=some (.slice (some ⟨b1,o1,none⟩) r.length cr)∧w'.cell? ⟨b',off'+i,none⟩=some (.slice (some ⟨b2,o2,none⟩) s.length cs)∧w'.cell? ⟨b1,o1+k*2,none⟩=some (.slice ax p.o.length cx)∧w'.cell? ⟨b1,o1+k*2+1,none⟩=some (.slice ay p.b.length cy)∧w'.cell? ⟨b2,o2+k*2,none⟩=some (.slice ax' q.o.length cx')∧w'.cell? ⟨b2,o2+k*2+1,none⟩=some (.slice ay' q.b.length cy')) (exact HS.out _ G) (first
          |(go_at_call 79;refine(HC1.out _ G).mono ?_;rintro e w' ⟨rfl,F⟩;replace G:=G.trans F)
          |(go_at_call 80;refine(HC2.out _ G).mono ?_;rintro e w' ⟨rfl,F⟩;replace G:=G.trans F))
         all_goals
          go_wp2_with fail
          go_roundg (r.length-(k+1))
          case measure=>rw[HG2.out];omega
          case rel=>exact⟨k+1,rfl,by omega,by go_num,HNT.out,G⟩
      ·obtain rfl:k=r.length:=by omega
       have hrs:r=s:=eq_of_take HL2.out HT2.out;have HNT:=Hi (take_next HT.out HRI.out (by rw[hrs];exact HSI.out));clear hrs;go_wp2_with fail
       go_roundg (n.length-(i+1))
       case measure=>rw[HG.out];omega
       case rel=>exact⟨i+1,rfl,by omega,by go_num,HNT.out,F⟩
    ·have q1:((r.length:Int) != (s.length:Int))=true:=by simp;omega
     have q2:(r.length != s.length)=true:=by simpa using hl2
     have q3:((r.length:Int)==(s.length:Int))=false:=by simp;omega
     have q4:(r.length==s.length)=false:=by simpa using hl2
     have hne:n≠m:=ne_at HRI.out HSI.out (fun e=>hl2 (by rw[e]));have HNE:=Hi (decide_eq_false hne);clear hne hl2;go_upto_region 6 with fail
     go_quiet (fail)
     have HF1:=Hi (HF.out.drewN nq);generalize (wr.drewN nq)=w1 at *
     go_wp2_with fail
     go_ret;exact⟨by rw[HNE.out];rfl,HF1.out⟩
   ·obtain rfl:i=n.length:=by omega
    have hnm:n=m:=eq_of_take HLEN.out HT.out;have HNM:=Hi (decide_eq_true hnm);clear hnm;go_wp2_with fail
    go_ret;exact⟨by rw[HNM.out];rfl,F⟩
 ·have q1:((n.length:Int) != (m.length:Int))=true:=by simp;omega
  have q2:(n.length != m.length)=true:=by simpa using hlen
  have q3:((n.length:Int)==(m.length:Int))=false:=by simp;omega
  have q4:(n.length==m.length)=false:=by simpa using hlen
  have hne:n≠m:=fun e=>hlen (by rw[e])
  have HNE:=Hi (decide_eq_false hne);clear hne hlen;go_enter Tryz.func47,Tryz.ntmps47
  go_wp2_with fail
  go_ret;exact⟨by rw[HNE.out];rfl,Fr.refl _⟩
def genOut (w w':World)(c:Nat)(K:Nat→Prop)(bs:List UInt8)(p:Nat)(r:Except Int (Gen × Nat))(e:Ending):Prop:=
 match r with
 |.ok (g,m)=>∃ ab cb an cn,e=.returned (.tuple #[.agg #[.int .i64 g.k,.slice ab g.b.length cb,.slice an g.n.length cn],.int .i64 0])∧Kept (fun W=>Bytes W (.slice ab g.b.length cb) g.b∧NameAt W (.slice an g.n.length cn) g.n) (fun k=>k<w.heap.size) w'∧CurAt w' c K bs (p+m)
 |.error x=>e=.returned (.tuple #[.agg #[.int .i64 0,.slice none 0 0,.slice none 0 0],.int .i64 x])∧x≠0∧∃ q,p≤q∧CurAt w' c K bs q
theorem name_nil (K:Nat→Prop)(w:World):Kept (fun W=>NameAt W (.slice none 0 0) []) K w:=fun _ _=>⟨none,0,rfl,Nat.le_refl _,Nat.zero_le _,fun h=>absurd h (Nat.lt_irrefl _)⟩
def genReadOut (w w':World)(c:Nat)(K:Nat→Prop)(bs:List UInt8)(p:Nat)(r:Except Int (Gen × Nat))(e:Ending):Prop:=
 match r with
 |.ok (g,m)=>∃ ab cb an cn,e=.returned (.tuple #[.agg #[.int .i64 g.k,.slice ab g.b.length cb,.slice an g.n.length cn],.int .i64 0])∧Kept (fun W=>Bytes W (.slice ab g.b.length cb) g.b∧NameAt W (.slice an g.n.length cn) g.n) (fun k=>k<w.heap.size) w'∧CurAt w' c K bs (p+m)
 |.error x=>e=.returned (.tuple #[.agg #[.int .i64 0,.slice none 0 0,.slice none 0 0],.int .i64 x])∧x≠0∧CurAt w' c K bs p
def gensOut (w w':World)(c:Nat)(K:Nat→Prop)(bs:List UInt8)(p:Nat)(r:Except Int (List Gen × Nat))(e:Ending):Prop:=
 match r with
 |.ok (l,m)=>∃ a cc,e=.returned (.tuple #[.slice a l.length cc,.int .i64 0])∧Kept (fun W=>Gens W (.slice a l.length cc) l) (fun k=>k<w.heap.size) w'∧CurAt w' c K bs (p+m)
 |.error x=>e=.returned (.tuple #[.slice none 0 0,.int .i64 x])∧x≠0∧∃ q,p≤q∧CurAt w' c K bs q
def gensReadOut (w w':World)(c:Nat)(K:Nat→Prop)(bs:List UInt8)(p:Nat)(r:Except Int (List Gen × Nat))(e:Ending):Prop:=
 match r with
 |.ok (l,m)=>∃ a cc,e=.returned (.tuple #[.slice a l.length cc,.int .i64 0])∧Kept (fun W=>Gens W (.slice a l.length cc) l) (fun k=>k<w.heap.size) w'∧CurAt w' c K bs (p+m)
 |.error x=>e=.returned (.tuple #[.slice none 0 0,.int .i64 x])∧x≠0∧CurAt w' c K bs p
def genAllR (l:List UInt8):Except Int (List Gen × Nat):=match genAllS l with|.error e=>.error e|.ok gs=>.ok (gs,l.length)
def labelsOut (w':World)(base:Nat)(r:Option (List (List UInt8)))(e:Ending):Prop:=
 match r with
 |some ks=>∃ a c,e=.returned (.tuple #[.slice a ks.length c,.bool true])∧w'.ownsRow base 9 1 (.slice a ks.length c) ks.length (ks.map str)
 |none=>e=.returned (.tuple #[.slice none 0 0,.bool false])
theorem growRdn_any (n:Nat)(w:World)(hn:n≤1000000000) :
  Calls Tryz.prog 134 #[.slice none 0 0,.int .i64 n] w fun e w'=>(∃ a c,e=.returned (.slice a 0 c)∧w'.ownsRow w.heap.size 100 1 (.slice a 0 c) 0 [])∧Fz w w':=by
 obtain⟨i0,hi0,hz0,hz1,hz2⟩:=info_parts info100
 have w0:wrap64 ((n:Int)-0)=(n:Int):=by unfold wrap64;omega
 rcases Nat.eq_zero_or_pos n with rfl|h0
 ·go_enter Tryz.func134,Tryz.ntmps134
  go_wp2_with fail
  go_ret;exact⟨⟨none,0,rfl,rfl,.inl ⟨rfl,rfl⟩⟩,Fr.refl _⟩
 ·have hrz:=fun ty=>Lib.run_append_grow_zeros (P:=Tryz.prog) w 37 3 ty 100 i0 _ .i64 .i64 Tryz.underlying37 Tryz.underlying3 hi0 hz0 none 0 0 [] (by rw[hz1];rfl) n h0 (by rw[hz1];decide) (by omega) (by omega) (by rw[hz2];omega) (growslice_fits (by omega) (by rw[hz2];omega))
  have hG:=grownCap_ge w (0+n) 0 100;have hG2:=grownCap_le_maxLen w (0+n) 0 100 (by unfold maxLen;omega);have hcsz:(([]:List Value).toArray++Builtin.zeroCells (Value.slice none 0 0).cells n++Builtin.zeroCells (Value.slice none 0 0).cells (grownCap w (0+n) 0 100-(0+n))).size=grownCap w (0+n) 0 100*1:=by
   simp only[Array.size_append,size_zeroCells,List.size_toArray,List.length_nil]
   have:(Value.slice none 0 0).cells.size=1:=rfl;rw[this]
   omega
  generalize ([]:List Value).toArray++Builtin.zeroCells (Value.slice none 0 0).cells n++Builtin.zeroCells (Value.slice none 0 0).cells (grownCap w (0+n) 0 100-(0+n))=cs at *
  generalize grownCap w (0+n) 0 100=G at *
  rw[Nat.zero_add]at hrz hG
  have BX:=(Blk.new w.drew 100 cs);have F:Fz w (w.drew.alloc (.cells cs 100)):=(Fr.refl w).drew.alloc _;have hown:(w.drew.alloc (.cells cs 100)).ownsRow w.heap.size 100 1 (.slice (some ⟨w.heap.size,0,none⟩) 0 G) 0 []:=⟨rfl,.inr ⟨w.heap.size,G,cs,rfl,Nat.le_refl _,BX,Nat.zero_le _,hG2,hcsz,rfl⟩⟩;have HO:=Hi hown;have HF:=Hi F;have HRZ:=Hi hrz;have hG63:(G:Int)≤9223372036854775807:=by unfold maxLen at hG2;omega
  have h1:(0:Int)<(n:Int):=by omega
  have hgn:(n:Int)≤(G:Int):=by omega
  clear hown F BX hrz hi0 hz0 hz1 hz2 hcsz hG2;go_enter Tryz.func134,Tryz.ntmps134
  go_wp2_with (at_builtin;refine Lib.wpList_append_run _ rfl _ _ _ _ rfl _ _ rfl rfl _ _ (HRZ.out _) ?_)
  all_goals
   go_ret;exact⟨⟨_,_,rfl,HO.out⟩,HF.out⟩
theorem concatName_any (v:Value)(L:List (List (List Part)))(wb w:World)(h:NamesAt wb w v L)(Fb:Fz wb w)(hn:L.length≤1000)(hr:∀ n∈L,n.length≤1000) :
  Calls Tryz.prog 93 #[v] w fun e w'=>(∃ a c,e=.returned (.slice a L.flatten.length c)∧CRow 100 wb w' w.heap.size (.slice a L.flatten.length c) L.flatten)∧Fz w w':=by
 have H:=Hi h;have HR:=Hi hr;have HFB:=Hi Fb;obtain⟨a,cap,rfl,-⟩:=h
 have hfl:∀ j,((L.take j).flatten).length≤1000*1000:=fun j=>by
  have:∀ m:List (List (List Part)),(∀ r∈m,r.length≤1000)→m.flatten.length≤m.length*1000:=by
   intro m;induction m with
   |nil=>intro _;simp
   |cons x t ih=>
    intro hm;have h1:=hm x (by simp);have h2:=ih (fun r hr=>hm r (by simp[hr]));simp only[List.flatten_cons,List.length_append,List.length_cons,Nat.add_mul]
    omega
  have h1:=this (L.take j) (fun r hm=>HR.out r (List.mem_of_mem_take hm));have h2:(L.take j).length*1000≤1000*1000:=Nat.mul_le_mul_right _ (by rw[List.length_take];omega);omega
 have hft:∀ j n,L[j]? = some n→(L.take (j+1)).flatten=(L.take j).flatten++n:=fun j n h=>by
  rw[List.take_add_one,h]
  simp
 have HFL:=Hi hfl;have HFT0:=Hi hft;clear hr hfl hft Fb;go_enter Tryz.func93,Tryz.ntmps93
 go_wp2_with fail
 go_loopg [3,11] L.length (fun g s i wr=>∃ (j m:Nat),g=L.length-j∧j≤L.length∧s=.int .i64 m∧i=.int .i64 j∧m=((L.take j).flatten).length∧wr=w)
 case atStart=>exact⟨0,0,rfl,Nat.zero_le _,rfl,rfl,rfl,rfl⟩
 case round=>
  obtain⟨j,m,hg,hj,rfl,rfl,hm,rfl⟩:=hrel
  have HG:=Hi hg;have hml:m≤1000*1000:=by rw[hm];exact HFL.out j
  have HM:=Hi hm;clear hg hm;by_cases hjl:j<L.length
  ·obtain⟨a0,cap0,he,hx⟩:=H.out
   simp only[Value.slice.injEq,true_and]at he
   obtain⟨rfl,rfl⟩:=he
   obtain⟨b,off,rfl,hy⟩:=hx (by omega)
   obtain⟨r,hr⟩:∃ r,L[j]? = some r:=⟨_,List.getElem?_eq_getElem hjl⟩
   obtain⟨x,e1,hA⟩:=hy j r hr
   obtain⟨ax,cx,rfl,-⟩:=hA
   have HFT:=Hi (HFT0.out j r hr);have b2:=HR.out r (List.mem_of_getElem? hr);have r1:(0:Int)≤(j:Int):=by omega
   have r2:(j:Int)<(L.length:Int):=by omega
   clear hx hy hr;have hnn:¬((m:Int)+(r.length:Int))<0:=by omega
   go_wp2_with fail
   go_roundg (L.length-(j+1))
   case measure=>rw[HG.out];omega
   case rel=>exact⟨j+1,m+r.length,rfl,by omega,by go_num,by go_num,by rw[HFT.out,HM.out,List.length_append],rfl⟩
  ·obtain rfl:j=L.length:=by omega
   obtain⟨wo,rfl⟩:∃ wo:World,wo=wr:=⟨_,rfl⟩
   have HGR:=Hi (growRdn_any m wo (by omega));clear hjl;go_wp2_with fail
   refine HGR.out.mono ?_;rintro e w1 ⟨⟨a1,c1,rfl,hown1⟩,F1⟩;have HO1:=Hi hown1;have HF1:=Hi F1;clear HGR hown1 F1;go_wp2_with fail
   go_loopg [6,27] L.length (fun g s i w2=>∃ (j:Nat) (l:List (List Part)) (a2:Option Addr) (c2:Nat),g=L.length-j∧j≤L.length∧s=.slice a2 l.length c2∧i=.int .i64 j∧l=(L.take j).flatten∧CRow 100 wb w2 wo.heap.size (.slice a2 l.length c2) l∧Fz wo w2)
   case atStart=>exact⟨0,[],a1,c1,rfl,Nat.zero_le _,rfl,rfl,rfl,⟨[],HO1.out,rfl,fun i u r h=>by simp at h⟩,HF1.out⟩
   case round=>
    obtain⟨j,l,a2,c2,hg,hj,rfl,rfl,hl,hrow,F2⟩:=hrel
    have HG:=Hi hg;have HRW:=Hi hrow;have HF2:=Hi F2;have hll:l.length≤1000*1000:=by rw[hl];exact HFL.out j
    have HL:=Hi hl;clear hg hrow hl;by_cases hjl:j<L.length
    ·obtain⟨a0,cap0,he,hx⟩:=H.out
     simp only[Value.slice.injEq,true_and]at he
     obtain⟨rfl,rfl⟩:=he
     obtain⟨b,off,rfl,hy⟩:=hx (by omega)
     obtain⟨r,hr⟩:∃ r,L[j]? = some r:=⟨_,List.getElem?_eq_getElem hjl⟩
     obtain⟨x,e0,hA⟩:=hy j r hr
     have e1:=F2.cell e0 (fun h=>h);have hrr:=HR.out r (List.mem_of_getElem? hr);have HFT:=Hi (HFT0.out j r hr);have hs2:=F2.size;obtain⟨a4,c4,w4,hrun,hrow4,F4⟩:=CRow.add Tryz.underlying37 info100 HRW.out hs2 (HFB.out.trans F2) hA (by omega)
     obtain⟨ax,cx,rfl,-⟩:=hA
     have hbk:=HRW.out.keep;have HF4:=Hi (F2.trans' F4 (fun i hi e=>by have:=(hbk i e).1;omega));have HRUN:=Hi hrun;have HRW4:=Hi hrow4;have r1:(0:Int)≤(j:Int):=by omega
     have r2:(j:Int)<(L.length:Int):=by omega
     clear hx hy hr hbk F4 hrun hrow4 F2 HRW HF2 e0;go_wp2_with (at_builtin;refine wpList_append_run (by rfl) (.tmp 31) (.tmp 32) 37 (by rfl) _ w4 (by exact HRUN.out) ?_)
     go_roundg (L.length-(j+1))
     case measure=>rw[HG.out];omega
     case rel=>exact⟨j+1,l++r,a4,c4,rfl,by omega,by rw[List.length_append],by go_num,by rw[HFT.out,HL.out],by rw[List.length_append];exact HRW4.out,HF4.out⟩
    ·obtain rfl:j=L.length:=by omega
     have hl2:=HL.out;rw[List.take_length]at hl2
     have hrw:=HRW.out;rw[hl2]at hrw
     have HAT:=Hi hrw;have hln:l.length=L.flatten.length:=by rw[hl2]
     have HLN:=Hi hln;have HL2:=Hi hl2;clear hl2 HRW hrw hln;go_wp2_with fail
     go_ret;exact⟨⟨a2,c2,by rw[←HLN.out];rfl,HAT.out⟩,HF2.out⟩
theorem copied_any (v:Value)(l:List Part)(w:World)(h:Attrs w v l)(hl:l.length≤1000000)(ho:∀ p∈l,p.o.length≤100000000000∧p.b.length≤100000000000) :
  Calls Tryz.prog 94 #[v] w fun e w'=>(∃ a c,e=.returned (.slice a l.length c)∧KRow 105 w' w.heap.size (.slice a l.length c) l)∧Fz w w':=by
 have H:=Hi h;have HO:=Hi ho;obtain⟨a,cap,rfl,-⟩:=h
 clear ho;go_enter Tryz.func94,Tryz.ntmps94
 go_wp2_with fail
 go_loopg [3,8] l.length (fun g u i wr=>∃ (j:Nat) (au:Option Addr) (cu:Nat),g=l.length-j∧j≤l.length∧u=.slice au j cu∧i=.int .i64 j∧KRow 105 wr w.heap.size (.slice au j cu) (l.take j)∧Fz w wr)
 case atStart=>exact⟨0,none,0,rfl,Nat.zero_le _,rfl,rfl,KRow.nil _ _ _,Fr.refl _⟩
 case round=>
  obtain⟨j,au,cu,hg,hj,rfl,rfl,hrow,F⟩:=hrel
  have HG:=Hi hg;have HRW:=Hi hrow;have HF:=Hi F;have hml:(l.take j).length=j:=by rw[List.length_take];omega
  have HML:=Hi hml;clear hg hrow hml;by_cases hjl:j<l.length
  ·obtain⟨a0,cap0,he,_,_,hx⟩:=H.out.old F
   simp only[Value.slice.injEq,true_and]at he
   obtain⟨rfl,rfl⟩:=he
   obtain⟨b,off,rfl,hy⟩:=hx (by omega)
   obtain⟨p,hp⟩:∃ p,l[j]? = some p:=⟨_,List.getElem?_eq_getElem hjl⟩
   obtain⟨x,y,e1,e2,hpx,hpy⟩:=hy j p hp
   have HPL:=Hi (HO.out p (List.mem_of_getElem? hp));obtain⟨ax,cx,rfl,-⟩:=Ints.form hpx
   obtain⟨ay,cy,rfl,-⟩:=Vals.form hpy
   have e1':wr.cell? ⟨b,off+j*2,none⟩=some (.slice ax p.o.length cx):=by rw[Nat.mul_comm];exact e1
   have e2':wr.cell? ⟨b,off+j*2+1,none⟩=some (.slice ay p.b.length cy):=by rw[Nat.mul_comm];exact e2
   have HPX:=Hi hpx;have HPY:=Hi hpy;have HMT:=Hi (show l.take (j+1)=l.take j++[p] from by rw[List.take_add_one,hp];rfl);have r1:(0:Int)≤(j:Int):=by omega
   have r2:(j:Int)<(l.length:Int):=by omega
   clear hx hy hp e1 e2 hpx hpy F;go_upto_region 5 with fail
   obtain⟨z,hz⟩:∃ z,z=wr.heap.size:=⟨_,rfl⟩
   have BA:=Blk.new wr 105 #[.slice ax p.o.length cx,.slice ay p.b.length cy];have F1:Fz wr (wr.alloc (.cells #[.slice ax p.o.length cx,.slice ay p.b.length cy] 105)):=(Fr.refl wr).alloc _;rw[←hz]at BA ⊢
   have HZ:=Hi hz;have HKL:=Hi (show ∀ k,((Value.slice au j cu).ownBlock=some k∨k<w.heap.size)→k<wr.heap.size from fun k hk=>by
    rcases hk with h|h
    ·exact(HRW.out.keep k h).2
    ·have:=HF.out.size;omega)
   clear hz e1' e2';generalize (wr.alloc (.cells #[.slice ax p.o.length cx,.slice ay p.b.length cy] 105))=w1 at *
   have B:=BA.drew;have G:Fz wr w1.drew:=F1.drew;clear BA F1;go_region_held3 (fun w'=>∀ j,w'.cell? ⟨z,j,none⟩=(#[.slice ax p.o.length cx,.slice ay p.b.length cy]:Array Value)[j]?) (first|exact B.cell|exact(B.alloc _).cell) (first
    |(go_at_call 135;refine(cloneInt_any _ p.o _ (HPX.out.old G) HPL.out.1).mono ?_;rintro e w' ⟨⟨u,rfl,hu⟩,F⟩;obtain⟨ai,mi,ci,rfl,rfl⟩:=own_shape hu;have hkI:=own_kept hu (fun k=>(Value.slice au j cu).ownBlock=some k∨k<w.heap.size) (fun k hk=>Nat.lt_of_lt_of_le (HKL.out k hk) G.size);(try replace hkB:=hkB.old F);replace B:=B.fr F (fun h=>h);replace G:=G.trans F;clear hu F)
    |(go_at_call 114;refine(cloneByte_any _ p.b _ (HPY.out.old G) HPL.out.2).mono ?_;rintro e w' ⟨⟨u,rfl,hu⟩,F⟩;obtain⟨ab,mb,cb,rfl,rfl⟩:=own_shape hu;have hkB:=own_kept hu (fun k=>(Value.slice au j cu).ownBlock=some k∨k<w.heap.size) (fun k hk=>Nat.lt_of_lt_of_le (HKL.out k hk) G.size);(try replace hkI:=hkI.old F);replace B:=B.fr F (fun h=>h);replace G:=G.trans F;clear hu F)
    |(obtain⟨a7,c7,w7,hrun,hrow7,F7⟩:=KRow.add Tryz.underlying100 info105 (HRW.out.fr G (fun _ h=>h.elim)) (HF.out.trans G).size ((Fr.refl w').alloc (.cells #[.slice ai p.o.length ci,.slice ab p.b.length cb] 105)) w'.heap.size (Blk.new w' 105 #[.slice ai p.o.length ci,.slice ab p.b.length cb]) p (fun W f=>⟨hkI W f,hkB W f⟩) (by rw[HML.out];omega);rw[HML.out]at hrun hrow7;refine step_append_run (by rfl) (.tmp 12) (.tmp 20) 100 (by rfl) _ w7 (by exact hrun) ?_;have hG7:=(HF.out.trans G).trans' F7 (fun i hi e=>absurd hi (by have:=(HRW.out.keep i e).1;omega));replace B:=B.fr F7 (fun e=>by have:=(HRW.out.keep z e).2;have:=HZ.out;omega);clear hrun F7))
   all_goals
    have HG7:=Hi hG7;have HROW7:=Hi hrow7;clear hG7 hrow7 G B hkI hkB;go_wp2_with fail
    go_roundg (l.length-(j+1))
    case measure=>rw[HG.out];omega
    case rel=>exact⟨j+1,a7,c7,rfl,by omega,rfl,by go_num,by rw[HMT.out];exact HROW7.out,HG7.out⟩
  ·obtain rfl:j=l.length:=by omega
   have hrow:=HRW.out;rw[List.take_length]at hrow
   have HROW:=Hi hrow;clear hrow;go_wp2_with fail
   go_ret;exact⟨⟨au,cu,rfl,HROW.out⟩,F⟩
def AddOut (w':World)(n:List (List Part))(e:Ending):Prop:=
 if nameOk n=true then ∃ a c,e=.returned (.tuple #[.slice a n.length c,.int .i64 0])∧NameAt w' (.slice a n.length c) n else e=.returned (.tuple #[.slice none 0 0,.int .i64 1])
def AddKeep (K:Nat→Prop)(w':World)(n:List (List Part))(e:Ending):Prop:=
 if nameOk n=true then ∃ a c,e=.returned (.tuple #[.slice a n.length c,.int .i64 0])∧Kept (fun W=>NameAt W (.slice a n.length c) n) K w' else e=.returned (.tuple #[.slice none 0 0,.int .i64 1])
theorem AddKeep.out {K:Nat→Prop}{w':World}{n:List (List Part)}{e:Ending}(h:AddKeep K w' n e):AddOut w' n e:=by
 unfold AddKeep at h;unfold AddOut;split at h
 ·obtain⟨a,c,h1,h2⟩:=h
  rw[if_pos (by assumption)]
  exact⟨a,c,h1,h2.now⟩
 ·rw[if_neg (by assumption)]
  exact h
theorem nameAddK_any (v u:Value)(n m:List (List Part))(w:World)(h:NameAt w v n)(hm:NameAt w u m)(hnl:n.length≤1000)(hml:m.length≤1000)(hs:∀ r∈n++m,fewB r∧r.length≤1000000∧∀ p∈r,p.o.length≤100000000000) :
  Calls Tryz.prog 64 #[v,u] w fun e w'=>AddKeep (fun k=>k<w.heap.size) w' (n++m) e∧Fz w w':=by
 obtain⟨av,cv,rfl,-⟩:=h.form
 obtain⟨au,cu,rfl,-⟩:=hm.form
 have H:=Hi h;have HM:=Hi hm;have HS:=Hi hs;obtain⟨L,hL⟩:∃ L,L=n++m:=⟨_,rfl⟩
 have hLl:L.length≤2000:=by rw[hL,List.length_append];omega
 rw[←hL]at HS ⊢
 have HLL:=Hi hL;clear h hm hs hL;go_enter Tryz.func64,Tryz.ntmps64
 go_upto_region 2 with fail
 have B0:=Blk.new w 100 #[];have F0:Fz w (w.alloc (.cells #[] 100)):=(Fr.refl w).alloc _;have N0:GRow 1 RStep (fun k=>k<w.heap.size) 100 (w.alloc (.cells #[] 100)) w.heap.size (.slice (some ⟨w.heap.size,0,none⟩) 0 0) []:=⟨[],own_block B0 0 (Nat.le_refl _) (Nat.zero_le _) w.heap.size (Nat.le_refl _),fun i r h=>by simp at h⟩;have F1:Fz (w.alloc (.cells #[] 100)) ((w.alloc (.cells #[] 100)).alloc (.cells #[.slice av n.length cv,.slice au m.length cu] 37)):=(Fr.refl _).alloc _;have B1:=Blk.new (w.alloc (.cells #[] 100)) 37 #[.slice av n.length cv,.slice au m.length cu]
 have hNA:NamesAt w ((w.alloc (.cells #[] 100)).alloc (.cells #[.slice av n.length cv,.slice au m.length cu] 37)) (.slice (some ⟨w.heap.size+1,0,none⟩) 2 2) [n,m]:=by
  refine⟨_,2,rfl,fun _=>⟨w.heap.size+1,0,rfl,fun i q hq=>?_⟩⟩
  rw[World.size_alloc]at B1
  match i,hq with
  |0,hq=>
   simp only[List.getElem?_cons_zero,Option.some.injEq]at hq
   subst hq;exact⟨_,B1.cell 0,H.out⟩
  |1,hq=>
   simp only[List.getElem?_cons_succ,List.getElem?_cons_zero,Option.some.injEq]at hq
   subst hq;exact⟨_,B1.cell 1,HM.out⟩
  |i+2,hq=>simp at hq
 have HC:=Hi (concatName_any _ [n,m] w _ hNA (F0.trans F1) (by simp) (by simp;omega));rw[show ([n,m]:List (List (List Part))).flatten=L from by rw[HLL.out];simp]at HC
 have HN0:=Hi (N0.old F1);have HF1:=Hi (F0.trans F1);clear N0 B0 B1 F0 F1 hNA;go_wp2_with fail
 refine HC.out.mono ?_;rintro e w2 ⟨⟨ac,cc,rfl,hat⟩,F2⟩;have hs1:w.heap.size+2≤w2.heap.size:=by have:=F2.size;simp only[World.size_alloc]at this;omega
 have HN2:=Hi (HN0.out.old F2);have HF2:=Hi (HF1.out.trans F2);have hbk:=hat.keep;simp only[World.size_alloc]at hbk
 have HBK:=Hi hbk;have HAT:=Hi hat;clear HC F2 hat HN0 HF1 hbk;go_wp2_with fail
 go_loopg [6,15] L.length (fun g s i wr=>∃ (j:Nat) (a3:Option Addr) (c3:Nat) (base:Nat),g=L.length-j∧j≤L.length∧s=.slice a3 j c3∧i=.int .i64 j∧GRow 1 RStep (fun k=>k<w.heap.size) 100 wr w.heap.size (.slice a3 j c3) (L.take j)∧Fz w wr∧w2.heap.size≤wr.heap.size∧CRow 100 w wr base (.slice ac L.length cc) L∧(∀ k,(Value.slice a3 j c3).ownBlock=some k→k=w.heap.size∨w2.heap.size≤k))
 case atStart=>exact⟨0,_,0,_,rfl,Nat.zero_le _,rfl,rfl,HN2.out,HF2.out,Nat.le_refl _,HAT.out,fun k hk=>.inl (by simpa [Value.ownBlock] using hk.symm)⟩
 case round=>
  obtain⟨j,a3,c3,base,hg,hj,rfl,rfl,hrow,F,hsz,hcr,hown⟩:=hrel
  have HG:=Hi hg;have HRW:=Hi hrow;have HF:=Hi F;have HCR:=Hi hcr;have HOWN:=Hi hown;have hml:(L.take j).length=j:=by rw[List.length_take];omega
  have HML:=Hi hml;clear hg hrow hml hcr hown;by_cases hjl:j<L.length
  ·obtain⟨us,g1,g2,g3⟩:=HCR.out
   obtain⟨a0,cap0,he,_,_,hx⟩:=(Vals.of_own g1).1
   rw[g2]at he hx
   simp only[Value.slice.injEq,true_and]at he
   obtain⟨rfl,rfl⟩:=he
   obtain⟨b,off,rfl,hy⟩:=hx (by omega)
   obtain⟨r,hr⟩:∃ r,L[j]? = some r:=⟨_,List.getElem?_eq_getElem hjl⟩
   obtain⟨x,hxu⟩:∃ x,us[j]? = some x:=⟨_,List.getElem?_eq_getElem (by omega)⟩
   have e1:=hy j x hxu;have hA:=(g3 j x r hxu hr).old F;obtain⟨ar,cr,rfl⟩:=hA.form
   have hmem:=List.mem_of_getElem? hr;obtain⟨h1,h2,h3⟩:=HS.out r hmem
   have HCP:=Hi (copied_any _ r wr hA h2 (fun p hp=>⟨h3 p hp,by have:=h1 p hp;omega⟩));have HMT:=Hi (show L.take (j+1)=L.take j++[r] from by rw[List.take_add_one,hr];rfl);have r1:(0:Int)≤(j:Int):=by omega
   have r2:(j:Int)<(L.length:Int):=by omega
   clear g1 g2 g3 hx hy hr hxu hA hmem h1 h3 F;obtain⟨wo,hwo⟩:∃ wo:World,wo=wr:=⟨_,rfl⟩
   obtain rfl:=hwo
   go_wp2_with fail
   refine HCP.out.mono ?_;rintro e w3 ⟨⟨a2,c2,rfl,hrow2⟩,F3⟩;have hkp:=HRW.out.keep;have hk2:Kept (fun W=>RStep W [.slice a2 r.length c2] r) (fun k=>(Value.slice a3 j c3).ownBlock=some k∨k<w.heap.size) w3:=step_of (hrow2.kept.weaken (fun k e=>by
    rcases e with e|e
    ·exact(hkp k e).2
    ·exact Nat.lt_of_lt_of_le e HF.out.size))
   obtain⟨a7,c7,w7,hrun,hrow7,F7,hown7⟩:=GRow.add Tryz.underlying37 info100 rfl (by decide) (by decide) (HRW.out.old F3) (HF.out.trans F3).size ((Fr.refl w3).alloc (.cells #[.slice a2 r.length c2] 100)) w3.heap.size [.slice a2 r.length c2] rfl (Blk.new w3 100 #[.slice a2 r.length c2]) (by intro u hu;simp at hu;subst hu;rfl) r hk2 (by rw[HML.out];omega)
   have HG7:=Hi ((HF.out.trans F3).trans' F7 (fun i hi e=>absurd hi (by have:=(hkp i e).1;omega)));have hs7:w2.heap.size≤w7.heap.size:=by have:=F3.size;have:=F7.size;omega
   have hcr7:=(HCR.out.fr F3 (fun _ _ h=>h)).fr F7 (fun k hk e=>by
    have:=HBK.out k hk;rcases HOWN.out k e with h|h<;>omega)
   rw[HML.out]at hrun hrow7 hown7
   have HRUN:=Hi hrun;have HROW7:=Hi hrow7;have HCR7:=Hi hcr7;have HOWN7:=Hi (show ∀ k,(Value.slice a7 (j+1) c7).ownBlock=some k→k=w.heap.size∨w2.heap.size≤k from fun k hk=>by
    rcases hown7 k hk with h|h
    ·exact HOWN.out k h
    ·have:=F3.size;exact .inr (by omega))
   clear hrun hrow7 F7 hk2 hkp hrow2 F3 e1 HCP hcr7 hown7;go_wp2_with (at_builtin;refine wpList_append_run (by rfl) (.tmp 19) (.tmp 22) 37 (by rfl) _ w7 (by exact HRUN.out) ?_)
   go_roundg (L.length-(j+1))
   case measure=>rw[HG.out];omega
   case rel=>exact⟨j+1,a7,c7,base,rfl,by omega,rfl,by go_num,by rw[HMT.out];exact HROW7.out,HG7.out,hs7,HCR7.out,HOWN7.out⟩
  ·obtain rfl:j=L.length:=by omega
   have hrow:=HRW.out;rw[List.take_length]at hrow
   have HAT2:=Hi (hrow.at (by decide)).name;have HKP:=Hi ((hrow.kept (by decide) (fun k=>k<w.heap.size) (fun k h=>⟨h,h⟩)).imp (fun W h=>h.name));have hfw:∀ r∈L,fewB r:=fun r hr=>(HS.out r hr).1
   have HFW:=Hi hfw;have HRI:=Hi (right_any _ L wr HAT2.out hfw);clear hrow hfw;go_wp2_with fail
   refine HRI.out.mono ?_;rintro e w3 ⟨rfl,F3⟩;have HG3:=Hi (HF.out.trans F3);have HAT3:=Hi (HKP.out.old F3);clear F3 HRI;cases hok:nameOk L with
   |false=>
    have HK:=Hi hok;clear hok;go_wp2_with fail
    refine bodyPost_ret (v:=.tuple #[.slice none 0 0,.int .i64 1]) (by simp[results,Tryz.results64,go_sem]) rfl ⟨?_,HG3.out⟩;unfold AddKeep;rw[if_neg (by rw[HK.out];simp)]
   |true=>
    have HK:=Hi hok;clear hok;go_wp2_with fail
    refine bodyPost_ret (v:=.tuple #[.slice a3 L.length c3,.int .i64 0]) (by simp[results,Tryz.results64,go_sem]) rfl ⟨?_,HG3.out⟩;unfold AddKeep;rw[if_pos HK.out]
    exact⟨_,_,rfl,HAT3.out⟩
theorem nameAdd_ok (v:Value)(n:List (List Part))(w:World)(h:NameAt w v n)(hf:fitN n)(hok:nameOk n=true) :
  Calls Tryz.prog 64 #[v,.slice none 0 0] w fun e w'=>(∃ a c,e=.returned (.tuple #[.slice a n.length c,.int .i64 0])∧Kept (fun W=>NameAt W (.slice a n.length c) n) (fun k=>k<w.heap.size) w')∧Fz w w':=
 (nameAddK_any v (.slice none 0 0) n [] w h (name_nil (fun _=>True) w).now hf.1 (by simp) (by rw[List.append_nil];exact hf.2)).mono fun e w' ⟨h1,h2⟩=>by
   unfold AddKeep at h1;rw[List.append_nil,if_pos hok]at h1
   exact⟨h1,h2⟩
end Go.Proofs.YtehlipgmkinfbaaGreatDoor
