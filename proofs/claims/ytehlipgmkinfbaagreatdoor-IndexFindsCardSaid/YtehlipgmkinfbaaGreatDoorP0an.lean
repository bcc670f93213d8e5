/-
  Merged by program: XNsTo XNKept XNaOf XGenAt XIxAt XStruct6 XRdI XRSlice XGMore XWh1 XHeld2.
-/
import Derived.Test.YtehlipgmkinfbaaGreatDoorP0am
import Derived.ChangeSame
import Derived.Deep.Strs
import Derived.OrdersHeld
import Derived.Deep.RegionHeld
set_option linter.unusedSimpArgs false
set_option maxRecDepth 100000
set_option maxHeartbeats 8000000
namespace Go.Q
open Go Go.RowKit
theorem Ints.cut {w:World}{a:Option Addr}{c:Nat}{l:List Int}(h:Ints w (.slice a l.length c) l)(N m:Nat)(hm:m=min l.length N):Ints w (.slice a m c) (l.take N):=by
 obtain⟨a0,c0,he,h1,h2,-⟩:=Ints.form h
 simp only[Value.slice.injEq]at he
 obtain⟨rfl,-,rfl⟩:=he
 have:=Vals.sub h 0 m (Nat.zero_le _) (by omega) a c (fun _ b o e=>by simpa using e) (by omega) h2;simp only[Nat.sub_zero,List.drop_zero]at this
 have e:l.take N=l.take m:=by
  rw[hm,←List.take_take,List.take_of_length_le (l:=l.take N) (by rw[List.length_take];omega)]
 unfold Ints intCells;rw[e,List.map_take]
 exact this
theorem Vals.cut {w:World}{a:Option Addr}{c:Nat}{l:List UInt8}(h:Bytes w (.slice a l.length c) l)(N m:Nat)(hm:m=min l.length N):Bytes w (.slice a m c) (l.take N):=by
 obtain⟨a0,c0,he,h1,h2,-⟩:=Vals.form h
 simp only[Value.slice.injEq]at he
 obtain⟨rfl,-,rfl⟩:=he
 have:=Vals.sub h 0 m (Nat.zero_le _) (by omega) a c (fun _ b o e=>by simpa using e) (by omega) h2;simp only[Nat.sub_zero,List.drop_zero]at this
 have e:l.take N=l.take m:=by
  rw[hm,←List.take_take,List.take_of_length_le (l:=l.take N) (by rw[List.length_take];omega)]
 unfold Bytes Lib.byteCells;rw[e,List.map_take]
 exact this
theorem map_take_succ {α β:Type}(f:α→β){l:List α}{j:Nat}{x:α}(h:l[j]? = some x):(l.take (j+1)).map f=(l.take j).map f++[f x]:=by
 rw[List.take_add_one,h]
 simp
theorem Kept.weaken {R:World→Prop}{K K':Nat→Prop}{w:World}(h:Kept R K w)(hK:∀ k,K' k→K k):Kept R K' w:=fun W f=>h W (f.mono (fun k _ hs=>hK k hs))
theorem own_kept {w:World}{base n:Nat}{e:TypeId}{v:Value}{xs:List Value}(h:w.ownsRow base e 1 v n xs)(K:Nat→Prop)(hK:∀ k,K k→k<base):Kept (fun W=>Vals W v xs) K w:=fun W f=>
 (Vals.of_own (Go.Proofs.YtehlipgmkinfbaaGreatDoor.ownsRow_fr h f (fun k hk hs=>by have:=((Vals.of_own h).2 k hk).1;have:=hK k hs;omega))).1
def FRow (K:Nat→Prop)(t:TypeId)(w:World)(base:Nat)(v:Value)(n:List (List Part)):Prop:=
 ∃ us:List Value,w.ownsRow base t 1 v n.length us∧us.length=n.length∧∀ (i:Nat) (u:Value) (r:List Part),us[i]? = some u→n[i]? = some r→Kept (fun W=>Attrs W u r) (fun k=>v.ownBlock=some k∨K k) w
theorem FRow.old {K:Nat→Prop}{t:TypeId}{w w':World}{base:Nat}{v:Value}{n:List (List Part)}(h:FRow K t w base v n)(f:Fz w w'):FRow K t w' base v n:=by
 obtain⟨us,h1,h2,h3⟩:=h
 exact⟨us,Go.Proofs.YtehlipgmkinfbaaGreatDoor.ownsRow_fr h1 f (fun _ _ h=>h),h2,fun i u r hu hr=>(h3 i u r hu hr).old f⟩
theorem FRow.keep {K:Nat→Prop}{t:TypeId}{w:World}{base:Nat}{v:Value}{n:List (List Part)}(h:FRow K t w base v n):∀ k,v.ownBlock=some k→base≤k∧k<w.heap.size:=by
 obtain⟨us,h1,-⟩:=h
 exact(Vals.of_own h1).2
theorem FRow.nil (K:Nat→Prop)(t:TypeId)(w:World)(base:Nat):FRow K t w base (.slice none 0 0) []:=⟨[],⟨rfl,.inl ⟨rfl,rfl⟩⟩,rfl,fun i u r h=>by simp at h⟩
theorem FRow.add {P:Program}{K:Nat→Prop}{t s:TypeId}(hu0:P.underlying s=some (.slice t))(hinf:Info P t (.slice none 0 0) 1 24){w wa:World}{base:Nat}{v:Value}{n:List (List Part)}(h:FRow K t w base v n)(hb:base≤w.heap.size)(F1:Fz w wa)(g:Nat)(u:Value)(r:List Part)(BX:Blk wa g t #[u])(hu1:u.oneCell'=true)(hu:Kept (fun W=>Attrs W u r) (fun k=>v.ownBlock=some k∨K k) w)(hn:n.length≤109951162777) :
  ∃ a c w',(Builtin.append_ #[s,s] s #[v,.slice (some ⟨g,0,none⟩) 1 1]).run P wa=.ok (.slice a (n.length+1) c) w'∧FRow K t w' base (.slice a (n.length+1) c) (n++[r])∧Fr (fun k=>v.ownBlock=some k) w w':=by
 obtain⟨us,h1,h2,h3⟩:=h
 obtain⟨a,c,w',hrun,h4,F2,h5⟩:=add_gen hu0 hinf rfl (by decide) (by decide) h1 hb F1 g [u] rfl BX (by simpa using hu1) hn
 have hst:∀ (x:Value) (q:List Part),Kept (fun W=>Attrs W x q) (fun k=>v.ownBlock=some k∨K k) w→Kept (fun W=>Attrs W x q) (fun k=>(Value.slice a (n.length+1) c).ownBlock=some k∨K k) w':=fun x q hq=>
  hq.step F2 (fun _ _ h=>.inl h) (fun k hk=>by
   rcases hk with h|h
   ·rcases h5 k h with h|h
    ·exact .inl (.inl h)
    ·exact .inr h
   ·exact .inl (.inr h))
 refine⟨a,c,w',hrun,⟨us++[u],?_,by simp[h2],fun i x s hx hs=>?_⟩,F2⟩
 ·rw[List.length_append]
  exact h4
 ·rcases Nat.lt_or_ge i us.length with hi|hi
  ·rw[List.getElem?_append_left hi]at hx
   rw[List.getElem?_append_left (by omega)]at hs
   exact hst _ _ (h3 i x s hx hs)
  ·obtain rfl:i=us.length:=by
    have:=(List.getElem?_eq_some_iff.1 hx).1;simp at this
    omega
   rw[List.getElem?_append_right (Nat.le_refl _)]at hx
   rw[List.getElem?_append_right (by omega)]at hs
   simp at hx
   simp[h2]at hs
   subst hx;subst hs;exact hst _ _ hu
def RGen (W:World)(cs:List Value)(g:Gen):Prop:=∃ vb vn,cs=[.int .i64 g.k,vb,vn]∧Bytes W vb g.b∧NameAt W vn g.n
def GenAt (W:World)(u:Value)(g:Gen):Prop:=∃ vb vn,u=.agg #[.int .i64 g.k,vb,vn]∧Bytes W vb g.b∧NameAt W vn g.n
abbrev Gens (W:World)(v:Value)(l:List Gen):Prop:=LAt 3 RGen W v l
theorem RGen.old (w w':World)(cs:List Value)(g:Gen)(h:RGen w cs g)(f:Fz w w'):RGen w' cs g:=by
 obtain⟨vb,vn,rfl,h1,h2⟩:=h
 exact⟨vb,vn,rfl,h1.old f,h2.old f⟩
theorem GenAt.old {w w':World}{u:Value}{g:Gen}(h:GenAt w u g)(f:Fz w w'):GenAt w' u g:=by
 obtain⟨vb,vn,rfl,h1,h2⟩:=h
 exact⟨vb,vn,rfl,h1.old f,h2.old f⟩
theorem Gens.old {w w':World}{v:Value}{l:List Gen}(h:Gens w v l)(f:Fz w w'):Gens w' v l:=LAt.old RGen.old h f
theorem GenAt.form {w:World}{u:Value}{g:Gen}(h:GenAt w u g):∃ ab cb an cn,u=.agg #[.int .i64 g.k,.slice ab g.b.length cb,.slice an g.n.length cn]∧Bytes w (.slice ab g.b.length cb) g.b∧NameAt w (.slice an g.n.length cn) g.n:=by
 obtain⟨vb,vn,rfl,h1,h2⟩:=h
 obtain⟨ab,cb,rfl,-⟩:=h1.form
 have h3:=h2;obtain⟨an,cn,rfl,-⟩:=h3
 exact⟨ab,cb,an,cn,rfl,h1,h2⟩
theorem Gens.get {w:World}{a:Option Addr}{n c:Nat}{l:List Gen}(h:Gens w (.slice a n c) l){i:Nat}{g:Gen}(hi:l[i]? = some g):∃ b o ab cb an cn,a=some ⟨b,o,none⟩∧n=l.length∧GenAt w (.agg #[.int .i64 g.k,.slice ab g.b.length cb,.slice an g.n.length cn]) g∧w.cell? ⟨b,o+i*3,none⟩=some (.int .i64 g.k)∧w.cell? ⟨b,o+i*3+1,none⟩=some (.slice ab g.b.length cb)∧w.cell? ⟨b,o+i*3+2,none⟩=some (.slice an g.n.length cn):=by
 obtain⟨a0,c0,he,h1,h2,h3⟩:=h
 simp only[Value.slice.injEq]at he
 obtain⟨rfl,rfl,rfl⟩:=he
 have hil:=(List.getElem?_eq_some_iff.1 hi).1;obtain⟨b,o,rfl,hy⟩:=h3 (by omega)
 obtain⟨cs,-,e2,vb,vn,rfl,g1,g2⟩:=hy i g hi
 obtain⟨ab,cb,rfl,-⟩:=g1.form
 have g3:=g2;obtain⟨an,cn,rfl,-⟩:=g3
 rw[Nat.mul_comm]at e2
 exact⟨b,o,ab,cb,an,cn,rfl,rfl,⟨_,_,rfl,g1,g2⟩,e2 0 _ rfl,e2 1 _ rfl,e2 2 _ rfl⟩
theorem NameAt.cut {w:World}{a:Option Addr}{c:Nat}{n:List (List Part)}(h:NameAt w (.slice a n.length c) n)(N m:Nat)(hm:m=min n.length N):NameAt w (.slice a m c) (n.take N):=by
 obtain⟨a0,c0,he,h1,h2,h3⟩:=h
 simp only[Value.slice.injEq]at he
 obtain⟨rfl,-,rfl⟩:=he
 have hl:(n.take N).length=m:=by rw[List.length_take];omega
 refine⟨a,c,by rw[hl],by omega,h2,fun h0=>?_⟩
 obtain⟨b,o,rfl,hy⟩:=h3 (by omega)
 refine⟨b,o,rfl,fun i r hr=>hy i r ?_⟩
 rw[List.getElem?_take]at hr
 split at hr
 ·exact hr
 ·cases hr
theorem NameAt.shape {w:World}{v:Value}{n:List (List Part)}(h:NameAt w v n):∃ a c,v=.slice a n.length c:=by
 obtain⟨a,c,rfl,-⟩:=h
 exact⟨a,c,rfl⟩
theorem FRow.at {K:Nat→Prop}{t:TypeId}{w:World}{base:Nat}{v:Value}{n:List (List Part)}(h:FRow K t w base v n):NameAt w v n:=by
 obtain⟨us,h1,h2,h3⟩:=h
 obtain⟨a,cap,he,hc,hm,hx⟩:=(Vals.of_own h1).1
 rw[h2]at he hc hx
 refine⟨a,cap,he,hc,hm,fun h0=>?_⟩
 obtain⟨b,o,rfl,hy⟩:=hx h0
 refine⟨b,o,rfl,fun i r hr=>?_⟩
 have hi:i<us.length:=by rw[h2];exact(List.getElem?_eq_some_iff.1 hr).1
 have hu:us[i]? = some us[i]:=List.getElem?_eq_getElem hi;exact⟨_,hy i _ hu,(h3 i _ r hu hr).now⟩
theorem FRow.kept {K:Nat→Prop}{t:TypeId}{w:World}{base:Nat}{v:Value}{n:List (List Part)}(h:FRow K t w base v n)(K':Nat→Prop)(hK:∀ k,K' k→K k∧k<base):Kept (fun W=>NameAt W v n) K' w:=fun W f=>by
 obtain⟨us,h1,h2,h3⟩:=h
 have hk:=(Vals.of_own h1).2;refine FRow.at (K:=K') (t:=t) (base:=base) ⟨us,Go.Proofs.YtehlipgmkinfbaaGreatDoor.ownsRow_fr h1 f (fun k hk2 hs=>by have:=(hk k hk2).1;have:=(hK k hs).2;omega),h2,fun i u r hu hr=>(h3 i u r hu hr).step f (fun k _ hs=>.inr (hK k hs).1) (fun k hs=>?_)⟩;rcases hs with hs|hs
 ·exact .inl (.inl hs)
 ·exact .inl (.inr (hK k hs).1)
def InvAt (W:World)(v:Value):Option Int→Prop
 |none=>v=.pointer none
 |some t=>∃ b o,v=.pointer (some ⟨b,o,none⟩)∧W.cell? ⟨b,o,none⟩=some (.int .i64 t)
theorem InvAt.old {w w':World}{v:Value}{i:Option Int}(h:InvAt w v i)(f:Fz w w'):InvAt w' v i:=by
 cases i with
 |none=>exact h
 |some t=>
  obtain⟨b,o,rfl,hc⟩:=h
  exact⟨b,o,rfl,f.cell hc (fun h=>h)⟩
theorem InvAt.form {w:World}{v:Value}{i:Option Int}(h:InvAt w v i):∃ q,v=.pointer q:=by
 cases i with
 |none=>exact⟨none,h⟩
 |some t=>obtain⟨b,o,rfl,-⟩:=h;exact⟨_,rfl⟩
def RRow (W:World)(cs:List Value)(r:RowP):Prop:=∃ vi vs vp,cs=[vi,.bool r.num.below,vs,.int .i64 r.date,.int .i64 r.reason,vp]∧NameAt W vi r.iss∧Bytes W vs r.num.size∧InvAt W vp r.inv
def RSlot (W:World)(cs:List Value)(r:RowP):Prop:=∃ us,cs=str (nameKeyS r.iss)::us∧RRow W us r
def RRef (W:World)(cs:List Value)(r:RowP):Prop:=∃ vi vs,cs=[vi,.bool r.num.below,vs,.int .i64 r.date,.int .i64 r.reason,.bool r.inv.isSome,.int .i64 (r.inv.getD 0)]∧NameAt W vi r.iss∧Bytes W vs r.num.size
structure RowI where
 iss:List (List Part)
 num:NumT
 date:Int
 reason:Int
 dated:Bool
 inv:Int
def RRefI (W:World)(cs:List Value)(r:RowI):Prop:=∃ vi vs,cs=[vi,.bool r.num.below,vs,.int .i64 r.date,.int .i64 r.reason,.bool r.dated,.int .i64 r.inv]∧NameAt W vi r.iss∧Bytes W vs r.num.size
abbrev Rows (W:World)(v:Value)(l:List RowP):Prop:=LAt 6 RRow W v l
abbrev Slots (W:World)(v:Value)(l:List RowP):Prop:=LAt 7 RSlot W v l
abbrev Refs (W:World)(v:Value)(l:List RowP):Prop:=LAt 7 RRef W v l
abbrev RefsI (W:World)(v:Value)(l:List RowI):Prop:=LAt 7 RRefI W v l
theorem RRow.old (w w':World)(cs:List Value)(r:RowP)(h:RRow w cs r)(f:Fz w w'):RRow w' cs r:=by
 obtain⟨vi,vs,vp,rfl,h1,h2,h3⟩:=h
 exact⟨vi,vs,vp,rfl,h1.old f,h2.old f,h3.old f⟩
theorem RSlot.old (w w':World)(cs:List Value)(r:RowP)(h:RSlot w cs r)(f:Fz w w'):RSlot w' cs r:=by
 obtain⟨us,rfl,h1⟩:=h
 exact⟨us,rfl,RRow.old _ _ _ _ h1 f⟩
theorem RRef.old (w w':World)(cs:List Value)(r:RowP)(h:RRef w cs r)(f:Fz w w'):RRef w' cs r:=by
 obtain⟨vi,vs,rfl,h1,h2⟩:=h
 exact⟨vi,vs,rfl,h1.old f,h2.old f⟩
theorem RRefI.old (w w':World)(cs:List Value)(r:RowI)(h:RRefI w cs r)(f:Fz w w'):RRefI w' cs r:=by
 obtain⟨vi,vs,rfl,h1,h2⟩:=h
 exact⟨vi,vs,rfl,h1.old f,h2.old f⟩
theorem Rows.old {w w':World}{v:Value}{l:List RowP}(h:Rows w v l)(f:Fz w w'):Rows w' v l:=LAt.old RRow.old h f
theorem Slots.old {w w':World}{v:Value}{l:List RowP}(h:Slots w v l)(f:Fz w w'):Slots w' v l:=LAt.old RSlot.old h f
theorem Refs.old {w w':World}{v:Value}{l:List RowP}(h:Refs w v l)(f:Fz w w'):Refs w' v l:=LAt.old RRef.old h f
theorem RefsI.old {w w':World}{v:Value}{l:List RowI}(h:RefsI w v l)(f:Fz w w'):RefsI w' v l:=LAt.old RRefI.old h f
theorem RRow.form {w:World}{cs:List Value}{r:RowP}(h:RRow w cs r):∃ a c b d q,cs=[.slice a r.iss.length c,.bool r.num.below,.slice b r.num.size.length d,.int .i64 r.date,.int .i64 r.reason,.pointer q]∧NameAt w (.slice a r.iss.length c) r.iss∧Bytes w (.slice b r.num.size.length d) r.num.size∧InvAt w (.pointer q) r.inv:=by
 obtain⟨vi,vs,vp,rfl,h1,h2,h3⟩:=h
 obtain⟨a,c,rfl⟩:=NameAt.shape h1
 obtain⟨b,d,rfl,-⟩:=h2.form
 obtain⟨q,rfl⟩:=h3.form
 exact⟨a,c,b,d,q,rfl,h1,h2,h3⟩
theorem RRef.form {w:World}{cs:List Value}{r:RowP}(h:RRef w cs r):∃ a c b d,cs=[.slice a r.iss.length c,.bool r.num.below,.slice b r.num.size.length d,.int .i64 r.date,.int .i64 r.reason,.bool r.inv.isSome,.int .i64 (r.inv.getD 0)]∧NameAt w (.slice a r.iss.length c) r.iss∧Bytes w (.slice b r.num.size.length d) r.num.size:=by
 obtain⟨vi,vs,rfl,h1,h2⟩:=h
 obtain⟨a,c,rfl⟩:=NameAt.shape h1
 obtain⟨b,d,rfl,-⟩:=h2.form
 exact⟨a,c,b,d,rfl,h1,h2⟩
theorem RRefI.form {w:World}{cs:List Value}{r:RowI}(h:RRefI w cs r):∃ a c b d,cs=[.slice a r.iss.length c,.bool r.num.below,.slice b r.num.size.length d,.int .i64 r.date,.int .i64 r.reason,.bool r.dated,.int .i64 r.inv]∧NameAt w (.slice a r.iss.length c) r.iss∧Bytes w (.slice b r.num.size.length d) r.num.size:=by
 obtain⟨vi,vs,rfl,h1,h2⟩:=h
 obtain⟨a,c,rfl⟩:=NameAt.shape h1
 obtain⟨b,d,rfl,-⟩:=h2.form
 exact⟨a,c,b,d,rfl,h1,h2⟩
theorem RRow.one {w:World}{cs:List Value}{r:RowP}(h:RRow w cs r):∀ u∈cs,u.oneCell'=true:=by
 obtain⟨a,c,b,d,q,rfl,-⟩:=h.form
 simp[Value.oneCell']
theorem RSlot.one {w:World}{cs:List Value}{r:RowP}(h:RSlot w cs r):∀ u∈cs,u.oneCell'=true:=by
 obtain⟨us,rfl,h1⟩:=h
 intro u hu;rcases List.mem_cons.1 hu with q|q
 ·rw[q];simp[Value.oneCell']
 ·exact h1.one u q
theorem RRef.one {w:World}{cs:List Value}{r:RowP}(h:RRef w cs r):∀ u∈cs,u.oneCell'=true:=by
 obtain⟨a,c,b,d,rfl,-⟩:=h.form
 simp[Value.oneCell']
theorem LAt.get {α:Type}{sz:Nat}{R:World→List Value→α→Prop}{w:World}{a:Option Addr}{n c:Nat}{l:List α}(h:LAt sz R w (.slice a n c) l){i:Nat}{x:α}(hi:l[i]? = some x):∃ b o cs,a=some ⟨b,o,none⟩∧n=l.length∧cs.length=sz∧R w cs x∧∀ j u,cs[j]? = some u→w.cell? ⟨b,o+i*sz+j,none⟩=some u:=by
 obtain⟨a0,c0,he,h1,h2,h3⟩:=h
 simp only[Value.slice.injEq]at he
 obtain⟨rfl,rfl,rfl⟩:=he
 have hil:=(List.getElem?_eq_some_iff.1 hi).1;obtain⟨b,o,rfl,hy⟩:=h3 (by omega)
 obtain⟨cs,e1,e2,e3⟩:=hy i x hi
 refine⟨b,o,cs,rfl,rfl,e1,e3,fun j u hu=>?_⟩
 have:=e2 j u hu;rwa[Nat.mul_comm sz i]at this
def IxAt (W:World)(v:Value)(l:List RowP):Prop:=(v=.pointer none∧l=[])∨∃ b u,v=.pointer (some ⟨b,0,none⟩)∧W.cell? ⟨b,0,none⟩=some u∧Slots W u l
theorem IxAt.old {w w':World}{v:Value}{l:List RowP}(h:IxAt w v l)(f:Fz w w'):IxAt w' v l:=by
 rcases h with h|⟨b,u,rfl,h1,h2⟩
 ·exact .inl h
 ·exact .inr ⟨b,u,rfl,f.cell h1 (fun h=>h),Slots.old h2 f⟩
open Go Go.RowKit Go.ChangeShapes
variable {H:Type}{enc:TypeId × Value→H}{P:Program}{w:World}{base:Nat}{spare:Nat→Bool}{held:Bool}
theorem trod_struct6 {t:TypeId}{f0 f1 f2 f3 f4 f5:Field}{fuel:Nat}{cs:List Value}{x:DataW H × List MemPlace}(ht:P.underlying t=some (.struct #[f0,f1,f2,f3,f4,f5]))(h:DataW.trod enc P w base spare held fuel t cs=some x) :
  ∃ y0 y1 y2 y3 y4 y5 n,cs.length=P.cellsOf t∧DataW.trod enc P w base spare held n f0.type ((cs.drop f0.offset).take (P.cellsOf f0.type))=some y0∧
   DataW.trod enc P w base spare held n f1.type ((cs.drop f1.offset).take (P.cellsOf f1.type))=some y1∧DataW.trod enc P w base spare held n f2.type ((cs.drop f2.offset).take (P.cellsOf f2.type))=some y2∧
   DataW.trod enc P w base spare held n f3.type ((cs.drop f3.offset).take (P.cellsOf f3.type))=some y3∧DataW.trod enc P w base spare held n f4.type ((cs.drop f4.offset).take (P.cellsOf f4.type))=some y4∧
   DataW.trod enc P w base spare held n f5.type ((cs.drop f5.offset).take (P.cellsOf f5.type))=some y5:=by
 obtain⟨xs,n,_,rfl,hl,hlen,hf⟩:=DataW.trod_struct ht h
 match xs,hlen with
 | [y0,y1,y2,y3,y4,y5],_=>exact⟨y0,y1,y2,y3,y4,y5,n,hl,by simpa using hf 0 f0 rfl,by simpa using hf 1 f1 rfl,by simpa using hf 2 f2 rfl,by simpa using hf 3 f3 rfl,by simpa using hf 4 f4 rfl,by simpa using hf 5 f5 rfl⟩
theorem seven_of {α:Type}{l:List α}(h:l.length=7):∃ a b c d e f g,l=[a,b,c,d,e,f,g]:=by
 match l,h with
 | [a,b,c,d,e,f,g],_=>exact⟨a,b,c,d,e,f,g,rfl⟩
theorem Vals.piece {w:World}{a:Option Addr}{m cap:Nat}{l:List UInt8}(h:Bytes w (.slice a m cap) l)(i n:Nat)(hij:i+n≤l.length)(a':Option Addr)(cap':Nat)(ha:0<n→∀ b o,a=some ⟨b,o,none⟩→a'=some ⟨b,o+i,none⟩)(hc:n≤cap')(hm:cap'≤maxLen):Bytes w (.slice a' n cap') ((l.drop i).take n):=by
 obtain⟨a0,c0,he,-⟩:=Vals.form h
 simp only[Value.slice.injEq]at he
 obtain⟨rfl,rfl,rfl⟩:=he
 have:=Vals.sub h i (i+n) (by omega) hij a' cap' (fun h0=>ha (by omega)) (by omega) hm;rw[show i+n-i=n from by omega]at this
 unfold Bytes Lib.byteCells;rw[List.map_take,List.map_drop]
 exact this
section
variable {α:Type}{sz:Nat}{R:World→List Value→α→Prop}
theorem LAt.flat {w:World}{v:Value}{l:List α}(h:LAt sz R w v l)(h0:0<l.length):∃ (b o c:Nat) (news:List Value),v=.slice (some ⟨b,o,none⟩) l.length c∧news.length=l.length*sz∧(∀ j u,news[j]? = some u→w.cell? ⟨b,o+j,none⟩=some u)∧(∀ u∈news,∃ cs x,R w cs x∧u∈cs)∧∀ i x,l[i]? = some x→∃ us,us.length=sz∧R w us x∧∀ j u,us[j]? = some u→news[sz*i+j]? = some u:=by
 obtain⟨a,c,rfl,h1,h2,h3⟩:=h
 obtain⟨b,o,rfl,hy⟩:=h3 h0
 clear h1 h2;have main:∀ (k:Nat),k≤l.length→∃ news:List Value,news.length=k*sz∧(∀ j u,news[j]? = some u→w.cell? ⟨b,o+j,none⟩=some u)∧(∀ u∈news,∃ cs x,R w cs x∧u∈cs)∧∀ i x,i<k→l[i]? = some x→∃ us,us.length=sz∧R w us x∧∀ j u,us[j]? = some u→news[sz*i+j]? = some u:=by
  intro k;induction k with
  |zero=>exact fun _=>⟨[],by simp,fun j u hu=>by simp at hu,fun u hu=>by simp at hu,fun i x hi=>absurd hi (Nat.not_lt_zero _)⟩
  |succ k ih=>
   intro hk;obtain⟨news,g1,g2,g3,g4⟩:=ih (by omega)
   obtain⟨x,hx⟩:∃ x,l[k]? = some x:=⟨_,List.getElem?_eq_getElem (by omega)⟩
   obtain⟨cs,e1,e2,e3⟩:=hy k x hx
   refine⟨news++cs,by rw[List.length_append,g1,e1,Nat.add_mul,Nat.one_mul],fun j u hu=>?_,fun u hu=>?_,fun i y hi hiy=>?_⟩
   ·rcases Nat.lt_or_ge j news.length with q|q
    ·rw[List.getElem?_append_left q]at hu
     exact g2 j u hu
    ·rw[List.getElem?_append_right q]at hu
     have:=e2 (j-news.length) u hu;rw[show o+sz*k+(j-news.length)=o+j from by rw[g1,Nat.mul_comm k sz]at q ⊢;omega]at this
     exact this
   ·rcases List.mem_append.1 hu with q|q
    ·exact g3 u q
    ·exact⟨cs,x,e3,q⟩
   ·rcases Nat.lt_or_ge i k with q|q
    ·obtain⟨us,f1,f2,f3⟩:=g4 i y q hiy
     refine⟨us,f1,f2,fun j u hu=>?_⟩
     have:=f3 j u hu;rw[List.getElem?_append_left (List.getElem?_eq_some_iff.1 this).1]
     exact this
    ·obtain rfl:i=k:=by omega
     rw[hx]at hiy
     obtain rfl:=Option.some.inj hiy
     refine⟨cs,e1,e3,fun j u hu=>?_⟩
     rw[Nat.mul_comm,List.getElem?_append_right (by rw[g1];exact Nat.le_add_right _ _),g1,Nat.add_sub_cancel_left]
     exact hu
 obtain⟨news,g1,g2,g3,g4⟩:=main l.length (Nat.le_refl _)
 exact⟨b,o,c,news,rfl,g1,g2,g3,fun i x hx=>g4 i x (List.getElem?_eq_some_iff.1 hx).1 hx⟩
variable {K:Nat→Prop}{t:TypeId}{w:World}{base:Nat}{v:Value}{l:List α}
theorem GRow.addSlice {P:Program}{s:TypeId}{z:Value}{bytes:Nat}(hu0:P.underlying s=some (.slice t))(hinf:Info P t z sz bytes)(hzs:z.cells.size=sz)(hs0:0<sz)(hby:bytes≤128)(h:GRow sz R K t w base v l)(hb:base≤w.heap.size){y:Value}{r:List α}(hy:LAt sz R w y r)(h0:0<r.length)(h1:∀ W cs x,R W cs x→∀ u∈cs,u.oneCell'=true)(hk:∀ us x,R w us x→Kept (fun W=>R W us x) (fun k=>v.ownBlock=some k∨K k) w)(hn:l.length+r.length≤109951162777) :
  ∃ a c w',(Builtin.append_ #[s,s] s #[v,y]).run P w=.ok (.slice a (l.length+r.length) c) w'∧GRow sz R K t w' base (.slice a (l.length+r.length) c) (l++r)∧Fr (fun k=>v.ownBlock=some k) w w'∧(∀ k,(Value.slice a (l.length+r.length) c).ownBlock=some k→v.ownBlock=some k∨w.heap.size≤k):=by
 obtain⟨cs,g1,g2⟩:=h
 have hcl:cs.length=l.length*sz:=g1.1;obtain⟨b,o,cy,news,rfl,f1,f2,f3,f4⟩:=hy.flat h0
 obtain⟨a,c,w',hrun,h4,F2,h5⟩:=append_gen hu0 hinf hzs hs0 hby g1 hb ⟨b,o,none⟩ r.length cy news f1 (fun j u hj=>by
  rw[show (⟨b,o,none⟩:Addr).add j=⟨b,o+j,none⟩ from by unfold Addr.add;split<;>simp_all]
  exact f2 j u hj) (fun u hu=>by
  obtain⟨us,x,q1,q2⟩:=f3 u hu
  exact h1 _ _ _ q1 u q2) (by omega)
 have hst:∀ (us:List Value) (y:α),Kept (fun W=>R W us y) (fun k=>v.ownBlock=some k∨K k) w→Kept (fun W=>R W us y) (fun k=>(Value.slice a (l.length+r.length) c).ownBlock=some k∨K k) w':=fun us y hq=>
  hq.step F2 (fun _ _ h=>.inl h) (fun k hk=>by
   rcases hk with h|h
   ·rcases h5 k h with h|h
    ·exact .inl (.inl h)
    ·exact .inr h
   ·exact .inl (.inr h))
 refine⟨a,c,w',hrun,⟨cs++news,by rw[List.length_append];exact h4,fun i y hy=>?_⟩,F2,h5⟩
 rcases Nat.lt_or_ge i l.length with hi|hi
 ·rw[List.getElem?_append_left hi]at hy
  obtain⟨us',e1,e2,e3⟩:=g2 i y hy
  refine⟨us',e1,fun j u hu=>?_,hst _ _ e3⟩
  have:=e2 j u hu;rw[List.getElem?_append_left (List.getElem?_eq_some_iff.1 this).1]
  exact this
 ·rw[List.getElem?_append_right hi]at hy
  obtain⟨us,e1,e2,e3⟩:=f4 _ y hy
  refine⟨us,e1,fun j u hu=>?_,hst _ _ (hk us y e2)⟩
  have:=e3 j u hu;have hc:cs.length=sz*l.length:=by rw[hcl,Nat.mul_comm]
  have hm:sz*i=sz*l.length+sz*(i-l.length):=by rw[←Nat.mul_add];congr 1;omega
  rw[hm,List.getElem?_append_right (by rw[hc];omega),hc,show sz*l.length+sz*(i-l.length)+j-sz*l.length=sz*(i-l.length)+j from by omega]
  exact this
end
open Go
section
variable {P:Program}{ops:Array Oper}{Q:Exit→Act→World→Prop}{md:Region.Mode}{k1 k2:Nat}{C1 C2:World→Prop}
def Two (k1 k2:Nat)(C1 C2:World→Prop)(L:Array Bool)(w:World):Prop:=(L.getD k1 true=false→C1 w)∧(L.getD k2 true=false→C2 w)
def wpAny2 (P:Program)(md:Region.Mode)(ops:Array Oper)(Q:Exit→Act→World→Prop)(k1 k2:Nat)(C1 C2:World→Prop):Nat→Array Bool→Act→World→Prop
 |0,listed,a,w=>Region.ready md ops listed=[]∧Q .normal a w
 |f+1,listed,a,w=>(Region.ready md ops listed=[]→Q .normal a w)∧
  ∀ i∈Region.ready md ops listed,wpOp P ops Q i (fun b u=>Two k1 k2 C1 C2 (listed.setIfInBounds i true) u∧wpAny2 P md ops Q k1 k2 C1 C2 f (listed.setIfInBounds i true) b u) a w
theorem wpAny_of2:∀ (f:Nat) (listed:Array Bool) (a:Act) (w:World),wpAny2 P md ops Q k1 k2 C1 C2 f listed a w→wpAny P md ops Q f listed a w
 |0,_,_,_,h=>h
 |f+1,_,_,_,h=>⟨h.1,fun i hi=>wpOp_mono (fun b u g=>wpAny_of2 f _ b u g.2) (h.2 i hi)⟩
def waitOn (md:Region.Mode)(ops:Array Oper)(k i:Nat):Bool:=match ops[k]? with|some o=>o.after.any (fun e=>Region.binds md e&&e.on==i)|none=>false
theorem waitOn_spec {k i:Nat}(h:waitOn md ops k i=true){o:Oper}(hk:ops[k]? = some o):∃ e∈o.after,Region.binds md e=true∧e.on=i:=by
 unfold waitOn at h;rw[hk]at h
 obtain⟨e,he,hb⟩:=Array.any_eq_true'.1 h
 rw[Bool.and_eq_true,beq_iff_eq]at hb
 exact⟨e,he,hb.1,hb.2⟩
theorem two_more {L:Array Bool}{w:World}(i:Nat)(h:Two k1 k2 C1 C2 L w):Two k1 k2 C1 C2 (L.setIfInBounds i true) w:=by
 have key:∀ k,(L.setIfInBounds i true).getD k true=false→L.getD k true=false:=fun k hk=>by
  by_cases e:i=k
  ·subst e
   rcases Nat.lt_or_ge i L.size with q|q
   ·simp[q]at hk
   ·simp at hk ⊢
  ·rw[getD_set_ne true e]at hk;exact hk
 exact⟨fun e=>h.1 (key _ e),fun e=>h.2 (key _ e)⟩
theorem wpAny2_take1 {i k:Nat}{C:World→Prop}{oi:Oper}{v:Value}(hi:ops[i]? = some oi)(hsel:∀ (j:Nat) (o:Oper) cs b,ops[j]? = some o→o.op≠.select cs b)
  (hQ:∀ c a w,Q (.panic c) (a.put oi.dst v) w→Q (.panic c) a w) (hw:waitOn md ops k i=true) (hN:k1≠i∧k2≠i) (hC:∀ L w,L.getD k true=false→Two k1 k2 C1 C2 L w→C w) :
  ∀ (f:Nat) (listed:Array Bool) (a:Act) (w:World),
   (∀ j oj,ops[j]? = some oj→j≠i→listed.getD j true=false→(∀ e∈oj.after,Region.binds md e=true→e.on≠i)→oi.apart ops oj=true)→
   i∈Region.ready md ops listed→listed.getD k true=false→YieldsIf P ops C oi v a→Two k1 k2 C1 C2 listed w→
   wpAny2 P md ops Q k1 k2 C1 C2 f (listed.setIfInBounds i true) (a.put oi.dst v) w→wpAny2 P md ops Q k1 k2 C1 C2 (f+1) listed a w:=by
 intro f;induction f with
 |zero=>
  intro listed a w _ hr hk hy hS H;refine⟨fun h=>(by rw[h]at hr;cases hr),fun j hj=>?_⟩
  by_cases hji:j=i
  ·subst hji;exact hy.wpOp hi (hC _ _ hk hS) ⟨two_more _ hS,H⟩
  ·have:=ready_mono hj hji
   rw[H.1]at this
   cases this
 |succ f ih=>
  intro listed a w hfree hr hk hy hS H;refine⟨fun h=>(by rw[h]at hr;cases hr),fun j hj=>?_⟩
  by_cases hji:j=i
  ·subst hji;exact hy.wpOp hi (hC _ _ hk hS) ⟨two_more _ hS,H⟩
  ·have h1:=H.2 j (ready_mono hj hji)
   obtain⟨hjun,oj,hoj,hall⟩:=mem_ready.1 hj
   have hun:listed.getD i true=false:=(mem_ready.1 hr).1;have hnot:∀ e∈oj.after,Region.binds md e=true→e.on≠i:=fun e he hb heq=>by
    have g1:=hall e he hb;have g0:=hun;rw[heq]at g1
    rcases Nat.lt_or_ge i listed.size with h'|h'
    ·simp[h']at g0 g1;rw[g0]at g1;cases g1
    ·simp[Array.getElem?_eq_none h']at g1
   have hjk:j≠k:=fun e=>by
    subst e;obtain⟨e,he,hb,hon⟩:=waitOn_spec hw hoj
    exact hnot e he hb hon
   have hk2:(listed.setIfInBounds j true).getD k true=false:=by rw[getD_set_ne true hjk];exact hk
   have h2:=wpOp_putIf hoj (hfree j oj hoj hji hjun hnot) (fun cs b=>hsel i oi cs b hi) (fun cs b=>hsel j oj cs b hoj) hQ hy h1;have hfree':∀ k ok,ops[k]? = some ok→k≠i→(listed.setIfInBounds j true).getD k true=false→(∀ e∈ok.after,Region.binds md e=true→e.on≠i)→oi.apart ops ok=true:=fun k ok hk hki hu hno=>by
    refine hfree k ok hk hki ?_ hno;by_cases hjk:j=k
    ·subst hjk;exact hjun
    ·rw[getD_set_ne true hjk]at hu;exact hu
   have back:∀ u,Two k1 k2 C1 C2 ((listed.setIfInBounds i true).setIfInBounds j true) u→k1≠i→k2≠i→Two k1 k2 C1 C2 (listed.setIfInBounds j true) u:=fun u h n1 n2=>by
    rw[←Array.setIfInBounds_comm _ _ hji]at h
    exact⟨fun e=>h.1 (by rw[getD_set_ne true (Ne.symm n1)];exact e),fun e=>h.2 (by rw[getD_set_ne true (Ne.symm n2)];exact e)⟩
   refine wpOp_mono (fun b u g=>⟨back u g.2.1 hN.1 hN.2,ih (listed.setIfInBounds j true) b u hfree' (ready_mono hr (Ne.symm hji)) hk2 g.1 (back u g.2.1 hN.1 hN.2) ?_⟩) h2;rw[Array.setIfInBounds_comm _ _ hji]
   exact g.2.2
theorem wpAny2_takeA {i:Nat}{oi:Oper}{v:Value}{f:Nat}{listed:Array Bool}{a:Act}{w:World}(hi:ops[i]? = some oi)
  (hs:Region.noSelect ops=true) (hf:Region.free md ops listed i=true) (hr:(Region.ready md ops listed).contains i=true) (hw:waitOn md ops k1 i=true) (hN:k1≠i∧k2≠i) (hk:listed.getD k1 true=false)
  (hQ:∀ c a w,Q (.panic c) (a.put oi.dst v) w→Q (.panic c) a w) (hy:YieldsIf P ops C1 oi v a) (hS:Two k1 k2 C1 C2 listed w)
  (h:Two k1 k2 C1 C2 (listed.setIfInBounds i true) w→wpAny2 P md ops Q k1 k2 C1 C2 f (listed.setIfInBounds i true) (a.put oi.dst v) w):wpAny2 P md ops Q k1 k2 C1 C2 (f+1) listed a w:=
 wpAny2_take1 hi (Region.noSelect_spec hs) hQ hw hN (fun _ _ e g=>g.1 e) f listed a w (Region.free_spec hi hf) (by simpa using hr) hk hy hS (h (two_more _ hS))
theorem wpAny2_takeB {i:Nat}{oi:Oper}{v:Value}{f:Nat}{listed:Array Bool}{a:Act}{w:World}(hi:ops[i]? = some oi)
  (hs:Region.noSelect ops=true) (hf:Region.free md ops listed i=true) (hr:(Region.ready md ops listed).contains i=true) (hw:waitOn md ops k2 i=true) (hN:k1≠i∧k2≠i) (hk:listed.getD k2 true=false)
  (hQ:∀ c a w,Q (.panic c) (a.put oi.dst v) w→Q (.panic c) a w) (hy:YieldsIf P ops C2 oi v a) (hS:Two k1 k2 C1 C2 listed w)
  (h:Two k1 k2 C1 C2 (listed.setIfInBounds i true) w→wpAny2 P md ops Q k1 k2 C1 C2 f (listed.setIfInBounds i true) (a.put oi.dst v) w):wpAny2 P md ops Q k1 k2 C1 C2 (f+1) listed a w:=
 wpAny2_take1 hi (Region.noSelect_spec hs) hQ hw hN (fun _ _ e g=>g.2 e) f listed a w (Region.free_spec hi hf) (by simpa using hr) hk hy hS (h (two_more _ hS))
def All2 (P:Program)(md:Region.Mode)(ops:Array Oper)(Q:Exit→Act→World→Prop)(k1 k2:Nat)(C1 C2:World→Prop)(f:Nat)(listed:Array Bool)(a:Act)(w:World)(rs:List Nat):Prop:=
 ∀ i∈rs,wpOp P ops Q i (fun b u=>Two k1 k2 C1 C2 (listed.setIfInBounds i true) u∧wpAny2 P md ops Q k1 k2 C1 C2 f (listed.setIfInBounds i true) b u) a w
theorem All2.nil {f:Nat}{listed:Array Bool}{a:Act}{w:World}:All2 P md ops Q k1 k2 C1 C2 f listed a w []:=fun _ h=>by cases h
theorem All2.cons {f:Nat}{listed:Array Bool}{a:Act}{w:World}{i:Nat}{o:Oper}{rs:List Nat}(ho:ops[i]? = some o)
  (h:∀ K:Act→World→Prop,Shut (∀ a w,Two k1 k2 C1 C2 (listed.setIfInBounds i true) w→(Two k1 k2 C1 C2 (listed.setIfInBounds i true) w→wpAny2 P md ops Q k1 k2 C1 C2 f (listed.setIfInBounds i true) a w)→K a w)→if Region.wanted o (yielded ops a.tmps)=true then Oper.wp P o a w K Q else K (a.put o.dst undef) w)
  (hs:All2 P md ops Q k1 k2 C1 C2 f listed a w rs):All2 P md ops Q k1 k2 C1 C2 f listed a w (i::rs):=fun j hj=>by
 rcases List.mem_cons.1 hj with rfl|hj
 ·exact wpOp_step ho (fun K hK=>h K (fun a w hS hW=>hK a w ⟨hS,hW hS⟩))
 ·exact hs j hj
theorem wpAny2_ready {rs:List Nat}{f:Nat}{listed:Array Bool}{a:Act}{w:World}(hr:Region.ready md ops listed=rs)(hne:rs≠[])
  (h:All2 P md ops Q k1 k2 C1 C2 f listed a w rs):wpAny2 P md ops Q k1 k2 C1 C2 (f+1) listed a w:=
 ⟨fun e=>absurd (hr.symm.trans e) hne,fun i hi=>h i (hr▸hi)⟩
theorem wpAny2_done {listed:Array Bool}{a:Act}{w:World}(hr:Region.ready md ops listed=[])(h:Q .normal a w):∀ f,wpAny2 P md ops Q k1 k2 C1 C2 f listed a w
 |0=>⟨hr,h⟩
 |_+1=>⟨fun _=>h,by rw[hr];simp⟩
theorem wp_region_2 (k1 k2:Nat){id:Nat}{a:Act}{w:World}(hm:P.follows .mixedOrders=true)(h1:C1 w.drew)(h2:C2 w.drew)
  (h:Two k1 k2 C1 C2 (Array.replicate ops.size false) w.drew→wpAny2 P .any ops Q k1 k2 C1 C2 ops.size (Array.replicate ops.size false) a w.drew):(Code.region id ops true).wp P Q a w:=
 wp_region_any hm (wpAny_of2 _ _ _ _ (h ⟨fun _=>h1,fun _=>h2⟩))
end
end Go.Q
namespace Go.Proofs.YtehlipgmkinfbaaGreatDoor
open Go Go.RowKit Go.Q
theorem lawStep_any (v:Value)(l:List Part)(w0 w:World)(h:Attrs w0 v l)(F0:Fz w0 w) :
  Calls Tryz.prog 53 #[v] w fun e w'=>(∃ a c,e=.returned (.slice a (cutStep l).length c)∧ARow 105 w0 w' w.heap.size (.slice a (cutStep l).length c) (cutStep l))∧Fz w w':=by
 have H:=Hi h;have HF0:=Hi F0;obtain⟨a,cap,rfl,-⟩:=h
 have hcs:cutStep l=(l.take 20).map cutPart:=rfl;have HCS:=Hi hcs;clear hcs F0;go_enter Tryz.func53,Tryz.ntmps53
 go_wp2_with fail
 go_loopg [3,4] l.length (fun g u i wr=>∃ (j:Nat) (au:Option Addr) (cu:Nat),g=l.length-j∧j≤l.length∧j≤20∧u=.slice au j cu∧i=.int .i64 j∧ARow 105 w0 wr w.heap.size (.slice au j cu) ((l.take j).map cutPart)∧Fz w wr)
 case atStart=>exact⟨0,none,0,rfl,Nat.zero_le _,by omega,rfl,rfl,ARow.nil _ _ _ _,Fr.refl _⟩
 case round=>
  obtain⟨j,au,cu,hg,hj,hj20,rfl,rfl,hrow,F⟩:=hrel
  have HG:=Hi hg;have HRW:=Hi hrow;have HF:=Hi F;have hml:((l.take j).map cutPart).length=j:=by rw[List.length_map,List.length_take];omega
  have HML:=Hi hml;clear hg hrow hml;by_cases hjl:j<l.length
  ·have q1:(j:Int)<(l.length:Int):=by omega
   by_cases h20:j<20
   ·have q2:(j:Int)<20:=by omega
    obtain⟨a0,cap0,he,_,_,hx⟩:=H.out
    simp only[Value.slice.injEq,true_and]at he
    obtain⟨rfl,rfl⟩:=he
    obtain⟨b,off,rfl,hy⟩:=hx (by omega)
    obtain⟨p,hp⟩:∃ p,l[j]? = some p:=⟨_,List.getElem?_eq_getElem hjl⟩
    obtain⟨x,y,e1,e2,hpx,hpy⟩:=hy j p hp
    obtain⟨ax,cx,rfl,hcx,hmx,-⟩:=Ints.form hpx
    obtain⟨ay,cy,rfl,hcy,hmy,-⟩:=Vals.form hpy
    have e1':wr.cell? ⟨b,off+j*2,none⟩=some (.slice ax p.o.length cx):=by rw[Nat.mul_comm];exact(HF0.out.trans F).cell e1 (fun h=>h)
    have e2':wr.cell? ⟨b,off+j*2+1,none⟩=some (.slice ay p.b.length cy):=by rw[Nat.mul_comm];exact(HF0.out.trans F).cell e2 (fun h=>h)
    obtain⟨mo,hmo⟩:∃ m:Nat,m=min p.o.length 40:=⟨_,rfl⟩
    obtain⟨mb,hmb⟩:∃ m:Nat,m=min p.b.length 200:=⟨_,rfl⟩
    have HPX:=Hi (Ints.cut hpx 40 mo hmo);have HPY:=Hi (Vals.cut hpy 200 mb hmb);have HMT:=Hi (map_take_succ cutPart hp);unfold maxLen at hmx hmy;have c1:min (p.o.length:Int) 40=(mo:Int):=by omega
    have c2:min (p.b.length:Int) 200=(mb:Int):=by omega
    have c3:(mo:Int)≤(cx:Int):=by omega
    have c4:(mb:Int)≤(cy:Int):=by omega
    have c5:(0:Int)≤(mo:Int):=by omega
    have c6:(0:Int)≤(mb:Int):=by omega
    have r1:(0:Int)≤(j:Int):=by omega
    clear hx hy hp e1 e2 hpx hpy hmo hmb;go_upto_region 6 with fail
    obtain⟨z,hz⟩:∃ z,z=wr.heap.size:=⟨_,rfl⟩
    have BA:=Blk.new wr 106 #[.slice ax p.o.length cx,.slice ay p.b.length cy];have F1:Fz wr (wr.alloc (.cells #[.slice ax p.o.length cx,.slice ay p.b.length cy] 106)):=(Fr.refl wr).alloc _;rw[←hz]at BA ⊢
    have HZ:=Hi hz;clear hz e1' e2';generalize (wr.alloc (.cells #[.slice ax p.o.length cx,.slice ay p.b.length cy] 106))=w1 at *
    obtain⟨wa,hwa⟩:∃ wa,wa=w1.drew.alloc (.cells #[.slice ax mo cx,.slice ay mb cy] 105):=⟨_,rfl⟩
    have Fa:Fz wr wa:=by rw[hwa];exact F1.drew.alloc _
    have BAa:Blk wa z 106 #[.slice ax p.o.length cx,.slice ay p.b.length cy]:=by rw[hwa];exact BA.drew.alloc _
    have BX:Blk wa w1.heap.size 105 #[.slice ax mo cx,.slice ay mb cy]:=by rw[hwa];exact Blk.new w1.drew _ _
    obtain⟨a7,c7,w7,hrun,hrow7,F7⟩:=ARow.add Tryz.underlying100 info105 (HRW.out.fr Fa (fun _ _ h=>h)) (HF.out.trans Fa).size (Fr.refl wa) w1.heap.size BX (cutPart p) HPX.out HPY.out (by rw[HML.out];omega)
    have HG7:=Hi ((HF.out.trans Fa).trans' F7 (fun i hi e=>absurd hi (by have:=(HRW.out.keep i e).1;omega)));have BA7:=BAa.fr F7 (fun e=>by have:=(HRW.out.keep z e).2;have:=HZ.out;omega);rw[HML.out]at hrun hrow7
    have HRUN:=Hi hrun;have HROW7:=Hi hrow7;have HC0:=Hi BA.drew.cell;have HCa:=Hi BAa.cell;have HC7:=Hi BA7.cell;rw[hwa]at HCa HRUN
    clear hrun hrow7 F7 BA7 BAa BX Fa F1 BA hwa;go_region_held3 (fun w'=>∀ j,w'.cell? ⟨z,j,none⟩=(#[.slice ax p.o.length cx,.slice ay p.b.length cy]:Array Value)[j]?) (first|exact HC0.out|exact HCa.out|exact HC7.out) (first
     |(refine step_append_run (by rfl) (.tmp 20) (.tmp 36) 100 (by rfl) _ w7 (by exact HRUN.out) ?_)
     |fail)
    all_goals
     go_wp2_with fail
     go_roundg (l.length-(j+1))
     case measure=>rw[HG.out];omega
     case rel=>exact⟨j+1,a7,c7,rfl,by omega,by omega,rfl,by go_num,by rw[HMT.out];exact HROW7.out,HG7.out⟩
   ·obtain rfl:j=20:=by omega
    have q2:¬((20:Nat):Int)<20:=by omega
    have hres:(l.take 20).map cutPart=cutStep l:=HCS.out.symm;have hrow:=HRW.out;rw[hres]at hrow
    have hlen:20=(cutStep l).length:=by rw[←hres,HML.out]
    have HL:=Hi hlen;have HROW:=Hi hrow;clear hres hrow hlen;go_wp2_with fail
    go_ret;exact⟨⟨au,cu,by rw[←HL.out];rfl,by rw[←HL.out];exact HROW.out⟩,F⟩
  ·obtain rfl:j=l.length:=by omega
   have hres:(l.take l.length).map cutPart=cutStep l:=by rw[HCS.out,List.take_of_length_le hj20,List.take_length]
   have hrow:=HRW.out;rw[hres]at hrow
   have hlen:l.length=(cutStep l).length:=by rw[←hres,HML.out]
   have HL:=Hi hlen;have HROW:=Hi hrow;clear hres hrow hlen;go_wp2_with fail
   go_ret;exact⟨⟨au,cu,by rw[←HL.out];rfl,by rw[←HL.out];exact HROW.out⟩,F⟩
theorem info106:(Tryz.prog.info? 106).map (fun i=>(i.zero,i.size,i.bytes))=some (some (.agg #[.slice none 0 0,.slice none 0 0]),2,48):=by kernel_rfl
theorem info102:(Tryz.prog.info? 102).map (fun i=>(i.zero,i.size,i.bytes))=some (some (.slice none 0 0),1,24):=by kernel_rfl
theorem lawOfK_any (v:Value)(n:List (List Part))(wb w:World)(h:NameAt wb v n)(Fb:Fz wb w)(hn:n.length≤1000000)(hr0:∀ r∈n,r.length≤1000000) :
  Calls Tryz.prog 25 #[v] w fun e w'=>(∃ a c,e=.returned (.slice a n.length c)∧FRow (fun k=>wb.heap.size≤k∧k<w.heap.size) 102 w' w.heap.size (.slice a n.length c) n)∧Fz w w':=by
 have H:=Hi h;have HFB:=Hi Fb;have HR0:=Hi hr0;obtain⟨a,cap,rfl,-⟩:=h
 clear hr0 Fb;go_enter Tryz.func25,Tryz.ntmps25
 go_wp2_with fail
 go_loopg [3,4] n.length (fun g u i wr=>∃ (j:Nat) (au:Option Addr) (cu:Nat),g=n.length-j∧j≤n.length∧u=.slice au j cu∧i=.int .i64 j∧FRow (fun k=>wb.heap.size≤k∧k<w.heap.size) 102 wr w.heap.size (.slice au j cu) (n.take j)∧Fz w wr)
 case atStart=>exact⟨0,none,0,rfl,Nat.zero_le _,rfl,rfl,FRow.nil _ _ _ _,Fr.refl _⟩
 case round=>
  obtain⟨j,au,cu,hg,hj,rfl,rfl,hrow,F⟩:=hrel
  have HG:=Hi hg;have HRW:=Hi hrow;have HF:=Hi F;have hml:(n.take j).length=j:=by rw[List.length_take];omega
  have HML:=Hi hml;clear hg hrow hml;by_cases hjl:j<n.length
  ·have q1:(j:Int)<(n.length:Int):=by omega
   obtain⟨a0,cap0,he,_,_,hx⟩:=H.out
   simp only[Value.slice.injEq,true_and]at he
   obtain⟨rfl,rfl⟩:=he
   obtain⟨b,off,rfl,hy⟩:=hx (by omega)
   obtain⟨r,hr⟩:∃ r,n[j]? = some r:=⟨_,List.getElem?_eq_getElem hjl⟩
   obtain⟨x,e0,hA⟩:=hy j r hr
   have hrl:=HR0.out r (List.mem_of_getElem? hr);have HE0:=Hi e0;have HMT:=Hi (show n.take (j+1)=n.take j++[r] from by rw[List.take_add_one,hr];rfl);have HA:=Hi hA;obtain⟨ar,cr,rfl,-⟩:=hA
   have r1:(0:Int)≤(j:Int):=by omega
   have r2:(j:Int)<(n.length:Int):=by omega
   clear hx hy hr e0 F;obtain⟨wo,hwo⟩:∃ wo:World,wo=wr:=⟨_,rfl⟩
   obtain rfl:=hwo
   go_wp2_with fail
   go_loopg [5,6] r.length (fun g u k wr=>∃ (i:Nat) (a2:Option Addr) (c2:Nat),g=r.length-i∧i≤r.length∧u=.slice a2 i c2∧k=.int .i64 i∧ARow 106 wb wr wo.heap.size (.slice a2 i c2) (r.take i)∧Fz wo wr)
   case atStart=>exact⟨0,none,0,rfl,Nat.zero_le _,rfl,rfl,ARow.nil _ _ _ _,Fr.refl _⟩
   case round=>
    obtain⟨i,a2,c2,hg,hi,rfl,rfl,hrow2,F2⟩:=hrel
    have HG2:=Hi hg;have HRW2:=Hi hrow2;have HF2:=Hi F2;have hml:(r.take i).length=i:=by rw[List.length_take];omega
    have HML2:=Hi hml;have e0:=((HFB.out.trans HF.out).trans F2).cell HE0.out (fun h=>h);clear hg hrow2 hml;by_cases hil:i<r.length
    ·have q2:(i:Int)<(r.length:Int):=by omega
     obtain⟨a1,cap1,he,_,_,hx⟩:=HA.out
     simp only[Value.slice.injEq,true_and]at he
     obtain⟨rfl,rfl⟩:=he
     obtain⟨b1,o1,rfl,hy⟩:=hx (by omega)
     obtain⟨p,hp⟩:∃ p,r[i]? = some p:=⟨_,List.getElem?_eq_getElem hil⟩
     obtain⟨x,y,e1,e2,hpx,hpy⟩:=hy i p hp
     obtain⟨ax,cx,rfl,-⟩:=Ints.form hpx
     obtain⟨ay,cy,rfl,-⟩:=Vals.form hpy
     have e1':wb.cell? ⟨b1,o1+i*2,none⟩=some (.slice ax p.o.length cx):=by rw[Nat.mul_comm];exact e1
     have e2':wb.cell? ⟨b1,o1+i*2+1,none⟩=some (.slice ay p.b.length cy):=by rw[Nat.mul_comm];exact e2
     have HMT2:=Hi (show r.take (i+1)=r.take i++[p] from by rw[List.take_add_one,hp];rfl);have s1:(0:Int)≤(i:Int):=by omega
     obtain⟨wa,hwa⟩:∃ wa,wa=wr.drew.alloc (.cells #[.slice ax p.o.length cx,.slice ay p.b.length cy] 106):=⟨_,rfl⟩
     have Fa:Fz wr wa:=by rw[hwa];exact(Fr.refl wr).drew.alloc _
     have BX:Blk wa wr.heap.size 106 #[.slice ax p.o.length cx,.slice ay p.b.length cy]:=by rw[hwa];exact Blk.new wr.drew _ _
     obtain⟨a7,c7,w7,hrun,hrow7,F7⟩:=ARow.add Tryz.underlying102 info106 (HRW2.out.fr Fa (fun _ _ h=>h)) (HF2.out.trans Fa).size (Fr.refl wa) wr.heap.size BX p hpx hpy (by rw[HML2.out];omega)
     have G7:Fz wo w7:=(HF2.out.trans Fa).trans' F7 (fun i hi e=>absurd hi (by have:=(HRW2.out.keep i e).1;omega));have HG7:=Hi G7;rw[HML2.out]at hrun hrow7
     have HRUN:=Hi hrun;have HROW7:=Hi hrow7;have hS:∀ w',Fz wb w'→w'.cell? ⟨b,off+j,none⟩=some (.slice (some ⟨b1,o1,none⟩) r.length cr)∧w'.cell? ⟨b1,o1+i*2,none⟩=some (.slice ax p.o.length cx)∧w'.cell? ⟨b1,o1+i*2+1,none⟩=some (.slice ay p.b.length cy):=fun w' f=>⟨f.cell HE0.out (fun h=>h),f.cell e1' (fun h=>h),f.cell e2' (fun h=>h)⟩
     have HC0:=Hi (hS wr.drew (((HFB.out.trans HF.out).trans HF2.out).drew));have HCa:=Hi (hS wa (((HFB.out.trans HF.out).trans HF2.out).trans Fa));have HC7:=Hi (hS w7 ((HFB.out.trans HF.out).trans G7));rw[hwa]at HCa HRUN
     clear hrun hrow7 F7 G7 BX Fa hwa hx hy hp e1 e2 e1' e2' hpx hpy hS;go_upto_region 9 with fail
     go_region_held3 (fun w'=>w'.cell? ⟨b,off+j,none⟩=some (.slice (some ⟨b1,o1,none⟩) r.length cr)∧w'.cell? ⟨b1,o1+i*2,none⟩=some (.slice ax p.o.length cx)∧w'.cell? ⟨b1,o1+i*2+1,none⟩=some (.slice ay p.b.length cy)) (first|exact HC0.out|exact HCa.out|exact HC7.out) (first
      |(refine step_append_run (by rfl) (.tmp 22) (.tmp 40) 102 (by rfl) _ w7 (by exact HRUN.out) ?_)
      |fail)
     all_goals
      go_wp2_with fail
      go_roundg (r.length-(i+1))
      case measure=>rw[HG2.out];omega
      case rel=>exact⟨i+1,a7,c7,rfl,by omega,rfl,by go_num,by rw[HMT2.out];exact HROW7.out,HG7.out⟩
    ·obtain rfl:i=r.length:=by omega
     have hrow2:=HRW2.out;rw[List.take_length]at hrow2
     have hkp:=HRW.out.keep;have hsw:=HFB.out.size;have hsf:=HF.out.size;have hk2:Kept (fun W=>Attrs W (.slice a2 r.length c2) r) (fun k=>(Value.slice au j cu).ownBlock=some k∨(wb.heap.size≤k∧k<w.heap.size)) wr:=hrow2.kept ((HFB.out.trans HF.out).trans HF2.out) _ (fun k e=>by
      rcases e with e|e
      ·have:=hkp k e;omega
      ·omega)
     obtain⟨a7,c7,w7,hrun,hrow7,F7⟩:=FRow.add Tryz.underlying53 info102 (HRW.out.old HF2.out) (HF.out.trans HF2.out).size ((Fr.refl wr).alloc (.cells #[.slice a2 r.length c2] 102)) wr.heap.size _ r (Blk.new wr 102 #[.slice a2 r.length c2]) rfl hk2 (by rw[HML.out];omega)
     have HG7:=Hi ((HF.out.trans HF2.out).trans' F7 (fun i hi e=>absurd hi (by have:=(hkp i e).1;omega)));rw[HML.out]at hrun hrow7
     have HRUN:=Hi hrun;have HROW7:=Hi hrow7;clear hrun hrow7 F7 hk2 hkp hrow2;go_wp2_with (at_builtin;refine wpList_append_run (by rfl) (.tmp 42) (.tmp 44) 53 (by rfl) _ w7 (by exact HRUN.out) ?_)
     go_roundg (n.length-(j+1))
     case measure=>rw[HG.out];omega
     case rel=>exact⟨j+1,a7,c7,rfl,by omega,rfl,by go_num,by rw[HMT.out];exact HROW7.out,HG7.out⟩
  ·obtain rfl:j=n.length:=by omega
   have hrow:=HRW.out;rw[List.take_length]at hrow
   have HROW:=Hi hrow;clear hrow;go_wp2_with fail
   go_ret;exact⟨⟨au,cu,rfl,HROW.out⟩,F⟩
open Go Go.RowKit Go.Q Go.ChangeShapes Go.WideShapes Go.ChangeAt
section
variable {H:Type}{enc:TypeId × Value→H}{w:World}{base fuel:Nat}{spare:Nat→Bool}{held:Bool}{cs:List Value}{x:DataW H × List MemPlace}
theorem rc4:Tryz.prog.cellsOf 4=1:=by kernel_rfl
theorem rc53:Tryz.prog.cellsOf 53=1:=by kernel_rfl
theorem rc54:Tryz.prog.cellsOf 54=2:=by kernel_rfl
theorem rc56:Tryz.prog.cellsOf 56=7:=by kernel_rfl
theorem rd_num (h:DataW.trod enc Tryz.prog w base spare held fuel 54 cs=some x):∃ b v l,cs=[.bool b,v]∧Bytes w v l:=by
 obtain⟨y0,y1,n,_,hl,h0,h1⟩:=Go.ChangeShapes.trod_struct2 Tryz.underlying54 h
 rw[rc54]at hl
 obtain⟨c0,c1,rfl⟩:=two_of hl
 have g0:DataW.trod enc Tryz.prog w base spare held n 4 [c0]=some y0:=by rw[←show ([c0,c1].drop 0).take (Tryz.prog.cellsOf 4)=[c0] from by rw[rc4];rfl];exact h0
 have g1:DataW.trod enc Tryz.prog w base spare held n 38 [c1]=some y1:=by rw[←show ([c0,c1].drop 1).take (Tryz.prog.cellsOf 38)=[c1] from by rw[rc38];rfl];exact h1
 obtain⟨b,e,-⟩:=DataW.trod_bool Tryz.underlying4 g0
 obtain⟨v,l,e1,hb⟩:=rd_bytes g1
 simp only[List.cons.injEq,and_true]at e e1
 subst e;subst e1;exact⟨b,c1,l,rfl,hb⟩
theorem rd_row (h:DataW.trod enc Tryz.prog w base spare held fuel 56 cs=some x):∃ y:RowI,RRefI w cs y:=by
 obtain⟨y0,y1,y2,y3,y4,y5,n,hl,h0,h1,h2,h3,h4,h5⟩:=trod_struct6 Tryz.underlying56 h
 rw[rc56]at hl
 obtain⟨c0,c1,c2,c3,c4,c5,c6,rfl⟩:=seven_of hl
 have g0:DataW.trod enc Tryz.prog w base spare held n 53 [c0]=some y0:=by rw[←show ([c0,c1,c2,c3,c4,c5,c6].drop 0).take (Tryz.prog.cellsOf 53)=[c0] from by rw[rc53];rfl];exact h0
 have g1:DataW.trod enc Tryz.prog w base spare held n 54 [c1,c2]=some y1:=by rw[←show ([c0,c1,c2,c3,c4,c5,c6].drop 1).take (Tryz.prog.cellsOf 54)=[c1,c2] from by rw[rc54];rfl];exact h1
 have g2:DataW.trod enc Tryz.prog w base spare held n 3 [c3]=some y2:=by rw[←show ([c0,c1,c2,c3,c4,c5,c6].drop 3).take (Tryz.prog.cellsOf 3)=[c3] from by rw[rc3];rfl];exact h2
 have g3:DataW.trod enc Tryz.prog w base spare held n 3 [c4]=some y3:=by rw[←show ([c0,c1,c2,c3,c4,c5,c6].drop 4).take (Tryz.prog.cellsOf 3)=[c4] from by rw[rc3];rfl];exact h3
 have g4:DataW.trod enc Tryz.prog w base spare held n 4 [c5]=some y4:=by rw[←show ([c0,c1,c2,c3,c4,c5,c6].drop 5).take (Tryz.prog.cellsOf 4)=[c5] from by rw[rc4];rfl];exact h4
 have g5:DataW.trod enc Tryz.prog w base spare held n 3 [c6]=some y5:=by rw[←show ([c0,c1,c2,c3,c4,c5,c6].drop 6).take (Tryz.prog.cellsOf 3)=[c6] from by rw[rc3];rfl];exact h5
 obtain⟨vi,ni,e0,hi⟩:=rd_name g0
 obtain⟨b,vs,sz,e1,hs⟩:=rd_num g1
 obtain⟨t0,e2,-,-⟩:=DataW.trod_int Tryz.underlying3 g2
 obtain⟨t1,e3,-,-⟩:=DataW.trod_int Tryz.underlying3 g3
 obtain⟨d,e4,-⟩:=DataW.trod_bool Tryz.underlying4 g4
 obtain⟨t2,e5,-,-⟩:=DataW.trod_int Tryz.underlying3 g5
 simp only[List.cons.injEq,and_true]at e0 e1 e2 e3 e4 e5
 obtain⟨rfl,rfl⟩:=e1
 subst e0;subst e2;subst e3;subst e4;subst e5;exact⟨⟨ni,⟨b,sz⟩,t0,t1,d,t2⟩,c0,c2,rfl,hi,hs⟩
theorem rd_rows (h:DataW.trod enc Tryz.prog w base spare held fuel 22 cs=some x):∃ v l,cs=[v]∧RefsI w v l:=by
 obtain⟨a,cap,l,rfl,h1,h2,h3⟩:=rd_slice Tryz.underlying22 rc56 (by decide) (fun (g:RowI) ds=>RRefI w ds g) (fun n ds y hy _=>rd_row hy) h
 refine⟨_,l,rfl,a,cap,rfl,h1,h2,fun h0=>?_⟩
 obtain⟨b,o,rfl,hy⟩:=h3 h0
 refine⟨b,o,rfl,fun i g hg=>?_⟩
 obtain⟨ds,hd,hr,hj⟩:=hy i g hg
 exact⟨ds,hd,hj,hr⟩
end
theorem slice_rest (a:Option Addr)(m cap:Nat)(hm:m≤cap)(i:Nat)(hi:i≤m) :
  ∃ A,(∀ w,(Instr.slice 38 (.slice a m cap) (some (.int .i64 (i:Int))) none none).run Tryz.prog w=.ok (.slice A (m-i) (cap-i)) w)∧(i<m→∀ b o,a=some ⟨b,o,none⟩→A=some ⟨b,o+i,none⟩):=by
 have h1:(0:Int)≤(i:Int):=by omega
 have h2:(i:Int)≤(m:Int):=by omega
 have h3:(m:Int)≤(cap:Int):=by omega
 by_cases hc:cap-i=0
 ·refine⟨a,fun w=>?_,fun h=>by omega⟩
  simp[go_sem,h1,h2,h3,hc,Tryz.underlying38]
  intro h;omega
 ·refine⟨a.map fun x=>x.add i,fun w=>?_,fun h b o e=>by rw[e];unfold Addr.add;simp⟩
  simp[go_sem,h1,h2,h3,hc,Tryz.underlying38]
  intro h;omega
theorem bytes_rest {w:World}{a:Option Addr}{m cap:Nat}{l:List UInt8}(h:Bytes w (.slice a m cap) l)(i:Nat)(hi:i≤l.length) :
  ∃ A,(∀ w,(Instr.slice 38 (.slice a m cap) (some (.int .i64 (i:Int))) none none).run Tryz.prog w=.ok (.slice A (l.length-i) (cap-i)) w)∧∀ W,Bytes W (.slice a m cap) l→Bytes W (.slice A (l.length-i) (cap-i)) (l.drop i):=by
 obtain⟨a0,c0,he,hc,hm,-⟩:=Vals.form h
 simp only[Value.slice.injEq]at he
 obtain⟨rfl,rfl,rfl⟩:=he
 obtain⟨A,h1,h2⟩:=slice_rest a l.length cap hc i hi
 refine⟨A,h1,fun W hW=>?_⟩
 have:=hW.piece i (l.length-i) (by omega) A (cap-i) (fun h0=>h2 (by omega)) (by omega) (by omega);rwa[List.take_of_length_le (by rw[List.length_drop];exact Nat.le_refl _)]at this
theorem wTrim_any (v:Value)(l:List UInt8)(w:World)(h:Bytes w v l) :
  Calls Tryz.prog 75 #[v] w fun e w'=>(∃ a c,e=.returned (.slice a (trimS l).length c)∧Bytes w (.slice a (trimS l).length c) (trimS l))∧Fz w w':=by
 have H:=Hi h;obtain⟨a0,c0,rfl,-⟩:=h.form
 clear h;go_enter Tryz.func75,Tryz.ntmps75
 go_wp2_with fail
 go_loopg [0] l.length (fun g u wr=>∃ (s:List UInt8) (a:Option Addr) (c:Nat),g=s.length∧u=.slice a s.length c∧Hid (trimS s=trimS l)∧Hid (Bytes w (.slice a s.length c) s)∧Fz w wr)
 case atStart=>exact⟨l,a0,c0,rfl,rfl,Hi rfl,H,Fr.refl _⟩
 case round=>
  obtain⟨s,a,c,hg,rfl,HT,HB,F⟩:=hrel
  have HG:=Hi hg;have HF:=Hi F;clear hg F;cases s with
  |nil=>
   have HE:=Hi (show trimS l=[] from HT.out.symm);simp only[List.length_nil] at *
   go_wp2_with fail
   go_ret;rw[HE.out]
   exact⟨⟨a,c,rfl,HB.out⟩,HF.out⟩
  |cons x t=>
   obtain⟨_,_,he,hcap,hmax,hx⟩:=Vals.form HB.out
   simp only[Value.slice.injEq,true_and]at he
   obtain⟨rfl,rfl⟩:=he
   obtain⟨b,o,rfl,hy⟩:=hx (by simp)
   have e0:=HF.out.cell (hy 0 x rfl) (fun h=>h);simp only[Nat.add_zero]at e0
   obtain⟨n,hn⟩:∃ n:Nat,n=(x::t).length:=⟨_,rfl⟩
   have HN:=Hi hn;have hpos:0<(n:Int):=by rw[hn,List.length_cons];omega
   have hxs:=hy 0 x rfl;rw[←hn]at hcap ⊢
   have HB0:=Hi HB.out;rw[←hn]at HB0
   clear hy hx hxs HB hn;by_cases h0:x=0
   ·have q1:((x.toNat:Int)==0)=true:=by rw[h0];rfl
    obtain⟨A,hrun,hrest⟩:=bytes_rest HB0.out 1 (by simp)
    simp only[List.length_cons,Nat.add_sub_cancel]at hrest
    have HR:=Hi (hrest w HB0.out);simp only[List.drop_succ_cons,List.drop_zero]at HR
    have HT2:=Hi (show trimS t=trimS l from by rw[←HT.out];unfold trimS;rw[if_pos h0];cases t<;>rfl);have hl1:(x::t).length-1=t.length:=by simp
    have hrun2:∀ W:World,(Instr.slice 38 (.slice (some ⟨b,o,none⟩) n c) (some (.int .i64 1)) none none).run Tryz.prog W=.ok (.slice A t.length (c-1)) W:=fun W=>by
     rw[←hl1]
     exact hrun W
    clear hrun hrest h0 hl1 HB0 HT;go_wp2_with fail
    go_roundg t.length
    case measure=>rw[HG.out];simp
    case rel=>exact⟨t,A,c-1,rfl,rfl,HT2,HR,HF.out⟩
   ·have q1:((x.toNat:Int)==0)=false:=by
     have:x.toNat≠0:=fun e=>h0 (UInt8.toNat_inj.1 (by simpa using e))
     simp[this]
    have HE:=Hi (show trimS l=x::t from by rw[←HT.out];unfold trimS;rw[if_neg h0]);clear h0;go_wp2_with fail
    go_ret;rw[HE.out,←HN.out]
    exact⟨⟨_,c,rfl,HB0.out⟩,HF.out⟩
theorem wMade_any (b:Bool)(v:Value)(l:List UInt8)(w:World)(h:Bytes w v l)(hl:l.length≤10000000000) :
  Calls Tryz.prog 73 #[.bool b,v] w fun e w'=>(∃ a c,e=.returned (.agg #[.bool (madeS ⟨b,l⟩).below,.slice a (trimS l).length c])∧Kept (fun W=>Bytes W (.slice a (trimS l).length c) (trimS l)) (fun k=>k<w.heap.size) w')∧Fz w w':=by
 obtain⟨z,hz⟩:∃ z,z=w.heap.size:=⟨_,rfl⟩
 have HZ:=Hi hz;have F0:Fz w (w.alloc (.cells #[.bool false,.slice none 0 0] 40)):=(Fr.refl w).alloc _;have D:=Blk.new w 40 #[.bool false,.slice none 0 0];rw[←hz]at D
 have HT:=Hi (wTrim_any v l _ (h.old F0));have HF0:=Hi F0;have hs0:w.heap.size+1=(w.alloc (.cells #[.bool false,.slice none 0 0] 40)).heap.size:=by rw[World.size_alloc]
 obtain⟨s,hs⟩:∃ s,s=trimS l:=⟨_,rfl⟩
 have hsl:s.length≤10000000000:=by have:=trimS_le l;rw[←hs]at this;omega
 have hmb:(madeS ⟨b,l⟩).below=(b&&decide (0<s.length)):=by rw[hs];rfl
 rw[←hs]at HT
 rw[←hs,hmb]
 obtain⟨n,hn⟩:∃ n,n=s.length:=⟨_,rfl⟩
 rw[←hn]at HT hsl ⊢
 have HN:=Hi hn;have HS0:=Hi hs0;obtain⟨a0,c0,rfl,-⟩:=h.form
 clear hz F0 hs hmb h hn hs0;go_enter Tryz.func73,Tryz.ntmps73
 go_upto_region 1 with fail
 rw[←HZ.out]
 generalize (w.alloc (.cells #[.bool false,.slice none 0 0] 40))=w0 at *
 go_wp2_with fail
 refine HT.out.mono ?_;rintro e w1 ⟨⟨a1,c1,rfl,hb1⟩,F1⟩;have HC:=Hi (cloneByte_any _ s w1 (hb1.old F1) (by have:=HN.out;omega));have HF1:=Hi F1;clear HT hb1 F1;go_wp2_with fail
 refine HC.out.mono ?_;rintro e w2 ⟨⟨u,rfl,hu⟩,F2⟩;obtain⟨a2,m,c2,rfl,rfl⟩:=own_shape hu
 have hk:Kept (fun W=>Bytes W (.slice a2 s.length c2) s) (fun k=>k<w1.heap.size) w2:=fun W f=>(Vals.of_own (ownsRow_fr hu f (fun k hk hl=>by have:=(hu.lt k hk).1;omega))).1
 rw[←HN.out]at hk ⊢
 have hF:=HF0.out.trans (HF1.out.trans F2);have D2:=D.fr (HF1.out.trans F2) (fun h=>h);have hsz:=HF1.out.size;have d0:=D2.cell 0;have d1:=D2.cell 1;have f0:=D2.frozen 0;have f1:=D2.frozen 1;simp only[SG]at d0 d1
 have key:∀ c:Bool,Blk ((w2.setCell ⟨z,0,none⟩ (.bool c)).setCell ⟨z,1,none⟩ (.slice a2 n c2)) z 40 #[.bool c,.slice a2 n c2]∧Kept (fun W=>Bytes W (.slice a2 n c2) s) (fun k=>k<w.heap.size) ((w2.setCell ⟨z,0,none⟩ (.bool c)).setCell ⟨z,1,none⟩ (.slice a2 n c2))∧Fz w ((w2.setCell ⟨z,0,none⟩ (.bool c)).setCell ⟨z,1,none⟩ (.slice a2 n c2)):=fun c=>by
  have D5:=set2 D2 (.bool c) (.slice a2 n c2);exact⟨D5.1,hk.step D5.2 (fun k hk e=>by have:=HZ.out;have:=HS0.out;omega) (fun k hk=>by have:=HS0.out;exact .inl (by omega)),hF.trans' D5.2 (fun i hi e=>by have:=HZ.out;omega)⟩
 have HKEY:=Hi key;clear HC F2 hu hk hF D D2 hsz key HF0 HF1;cases b with
 |false=>
  have n0:=(HKEY.out false).1.cell 0;have n1:=(HKEY.out false).1.cell 1;simp only[SG]at n0 n1
  go_wp2_with fail
  exact bodyPost_ret (v:=.agg #[.bool false,.slice a2 n c2]) (by simp[results,Tryz.results73,go_sem,n0,n1]) rfl ⟨⟨a2,c2,rfl,(HKEY.out false).2.1⟩,(HKEY.out false).2.2⟩
 |true=>
  rcases Nat.eq_zero_or_pos n with h0|h0
  ·have n0:=(HKEY.out false).1.cell 0
   have n1:=(HKEY.out false).1.cell 1;simp only[SG]at n0 n1
   have q1:decide (0<n)=false:=decide_eq_false (by omega);have q2:¬(0:Int)<(n:Int):=by omega
   have HK:=Hi (HKEY.out false);clear HKEY h0;go_wp2_with fail
   refine bodyPost_ret (v:=.agg #[.bool false,.slice a2 n c2]) (by simp[results,Tryz.results73,go_sem,n0,n1]) rfl ⟨⟨a2,c2,?_,HK.out.2.1⟩,HK.out.2.2⟩;rw[q1]
   rfl
  ·have n0:=(HKEY.out true).1.cell 0
   have n1:=(HKEY.out true).1.cell 1;simp only[SG]at n0 n1
   have q1:decide (0<n)=true:=decide_eq_true h0;have q2:(0:Int)<(n:Int):=by omega
   have HK:=Hi (HKEY.out true);clear HKEY;go_wp2_with fail
   refine bodyPost_ret (v:=.agg #[.bool true,.slice a2 n c2]) (by simp[results,Tryz.results73,go_sem,n0,n1]) rfl ⟨⟨a2,c2,?_,HK.out.2.1⟩,HK.out.2.2⟩;rw[q1]
   rfl
theorem wSizes_any (v u:Value)(a b:List UInt8)(w:World)(h:Bytes w v a)(hu:Bytes w u b)(ha:a.length≤1099511627776)(hb:b.length≤1099511627776) :
  Calls Tryz.prog 96 #[v,u] w fun e w'=>e=.returned (.int .i64 (sizesS a b))∧Fz w w':=by
 have HC:=Hi (compare_any v u a b w h hu ha hb);obtain⟨av,cv,rfl,-⟩:=h.form
 obtain⟨au,cu,rfl,-⟩:=hu.form
 have hz:sizesS a b=if a.length=b.length then cmpS a b else if a.length<b.length then -1 else 1:=rfl
 rw[hz]
 obtain⟨n,hn⟩:∃ n,n=a.length:=⟨_,rfl⟩
 obtain⟨m,hm⟩:∃ n,n=b.length:=⟨_,rfl⟩
 rw[←hn,←hm]at HC ⊢
 clear h hu ha hb hz hn hm;by_cases h1:n=m
 ·subst h1
  go_enter Tryz.func96,Tryz.ntmps96
  go_wp2_with fail
  refine HC.out.mono ?_;rintro e w1 ⟨rfl,F1⟩;go_wp2_with fail
  go_ret;exact⟨rfl,F1⟩
 ·rw[if_neg h1]
  have q1:((n:Int)==(m:Int))=false:=beq_eq_false_iff_ne.2 (by omega);have q2:((n:Int) != (m:Int))=true:=by simp[q1,bne]
  by_cases h2:n<m
  ·have q3:(n:Int)<(m:Int):=by omega
   rw[if_pos h2]
   clear h1;go_enter Tryz.func96,Tryz.ntmps96
   go_wp2_with fail
   go_ret;exact⟨rfl,Fr.refl _⟩
  ·have q3:¬(n:Int)<(m:Int):=by omega
   rw[if_neg h2]
   clear h1;go_enter Tryz.func96,Tryz.ntmps96
   go_wp2_with fail
   go_ret;exact⟨rfl,Fr.refl _⟩
end Go.Proofs.YtehlipgmkinfbaaGreatDoor
