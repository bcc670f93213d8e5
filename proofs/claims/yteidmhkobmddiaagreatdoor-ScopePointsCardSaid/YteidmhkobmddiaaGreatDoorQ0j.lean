/-
  Merged by program: XGenSpec XNsLaw XNsTo XNKept XNaOf XGenAt XExt XStruct7 XRdG XRdC XPartEq XHeld XHeldN.
-/
import Derived.Test.YteidmhkobmddiaaGreatDoorQ0i
import Derived.ChangeSame
import Derived.Deep.Strs
import Derived.OrdersHeld
import Derived.Deep.RegionHeld
set_option linter.unusedSimpArgs false
set_option maxRecDepth 100000
set_option maxHeartbeats 8000000
namespace Go.Q
open Go Go.RowKit
structure Gen where
 k:Int
 b:List UInt8
 n:List (List Part)
def madeG (k:Int):Bool:=k==0||k==3||k==4||k==5
def tagAt (k:Int)(m:Bool):Tag:=⟨2,k,m⟩
def genTag (k:Int):Tag:=tagAt k (madeG k)
def plainB (b:List UInt8):Bool:=decide (0<b.length)&&b.all (fun c=>decide (c.toNat≤127))
def wholesB (b:List UInt8):Bool:=match allS b with|.ok ls=>decide (0<ls.length)|.error _=>false
def oidB (b:List UInt8):Bool:=match oidParseS b with|.ok _=>true|.error _=>false
def contB (k:Int)(b:List UInt8):Bool:=
 if k=1∨k=2∨k=6 then plainB b else if k=7 then decide (b.length=4∨b.length=16) else if k=8 then oidB b else if k=0∨k=3∨k=5 then wholesB b else false
def genOk (g:Gen):Bool:=if g.k=4 then decide (g.b.length=0)&&nameOk g.n else decide (g.n.length=0)&&contB g.k g.b
def genBody (g:Gen):List UInt8:=if g.k=4 then nameWhole g.n else g.b
def genWhole (g:Gen):List UInt8:=wrapS (genTag g.k) (genBody g)
def fewG (g:Gen):Prop:=g.b.length≤10000000∧∀ r∈g.n,fewB r
def genReadS (l:List UInt8):Except Int (Gen × Nat):=
 match readS l with
 |.error e=>.error e
 |.ok (t,n,k)=>
  if t.cls≠2∨8<t.num∨t.made≠madeG t.num then .error 4 else
  if l.length-k<n then .error 3 else
  if t.num=4 then (match nameParseS ((l.drop k).take n) with
   |.error e=>.error e
   |.ok m=>.ok (⟨4,[],m⟩,k+n)) else
  if contB t.num ((l.drop k).take n) then .ok (⟨t.num,(l.drop k).take n,[]⟩,k+n) else .error 6
def genSt (out:List Gen)(l:List UInt8):Except Int (List Gen):=manySt genReadS 10000 out l
def genAllS (l:List UInt8):Except Int (List Gen):=if l=[] then .error 6 else genSt [] l
def genListS (l:List UInt8):Except Int (List Gen × Nat):=
 match openS (tagOf 16) l with
 |.error e=>.error e
 |.ok (y,k)=>match genAllS y with
  |.error e=>.error e
  |.ok gs=>.ok (gs,k)
def lowB (c:UInt8):UInt8:=if 65≤c.toNat∧c.toNat≤90 then c+32 else c
def lowerS (l:List UInt8):List UInt8:=l.map lowB
def labelC (c:UInt8):Bool:=decide ((97≤c.toNat∧c.toNat≤122)∨(48≤c.toNat∧c.toNat≤57)∨c.toNat=45∨c.toNat=95)
def labelB (l:List UInt8):Bool:=decide (1≤l.length∧l.length≤63)&&(lowerS l).all labelC
def dotS (l:List UInt8):List UInt8:=if l.getLast? = some 46 then l.dropLast else l
def hostS (l:List UInt8):Option (List UInt8):=if 253<(dotS l).length then none else if (cutAt 46 (dotS l)).all labelB then some (lowerS (dotS l)) else none
def lastTo (c:UInt8)(l:List UInt8):Nat→Int
 |0=>-1
 |j+1=>if l[j]? = some c then (j:Int) else lastTo c l j
def lastS (c:UInt8)(l:List UInt8):Int:=lastTo c l l.length
def mailS (l:List UInt8):List UInt8:=if lastS 64 l<0 then l else l.take (lastS 64 l).toNat++lowerS (l.drop (lastS 64 l).toNat)
def meanS (g:Gen):List UInt8:=if g.k=4 then nameKeyS g.n else if g.k=2 then (match hostS g.b with|some h=>h|none=>35::hexS g.b) else if g.k=1 then mailS g.b else hexS g.b
def genKeyS (g:Gen):List UInt8:=Lib.itoa g.k++meanS g
def genSameS (a b:Gen):Bool:=genOk a&&genOk b&&decide (genKeyS a=genKeyS b)
def genMeetS (a b:List Gen):Bool:=a.any fun x=>b.any fun y=>genSameS x y
open Go
def cutPart (p:Part):Part:=⟨p.o.take 40,p.b.take 200⟩
def cutStep (l:List Part):List Part:=(l.take 20).map cutPart
def cutName (n:List (List Part)):List (List Part):=(n.take 70).map cutStep
theorem NameAt.form {w:World}{v:Value}{n:List (List Part)}(h:NameAt w v n):∃ a c,v=.slice a n.length c∧n.length≤c∧c≤maxLen:=by
 obtain⟨a,c,rfl,h1,h2,-⟩:=h
 exact⟨a,c,rfl,h1,h2⟩
theorem nameSame_self (n:List (List Part)):nameSameS n n=nameOk n:=by
 unfold nameSameS;rw[decide_eq_true rfl,Bool.and_true,Bool.and_self]
def underS (n m:List (List Part)):Bool:=nameOk n&&(decide (m.length≤n.length)&&nameSameS (n.take m.length) m)
theorem Ints.cut {w:World}{a:Option Addr}{c:Nat}{l:List Int}(h:Ints w (.slice a l.length c) l)(N m:Nat)(hm:m=min l.length N):Ints w (.slice a m c) (l.take N):=by
 obtain⟨a0,c0,he,h1,h2,-⟩:=Ints.form h
 simp only[Value.slice.injEq]at he
 obtain⟨rfl,-,rfl⟩:=he
 have:=Vals.sub h 0 m (Nat.zero_le _) (by omega) a c (fun _ b o e=>by simpa using e) (by omega) h2;simp only[Nat.sub_zero,List.drop_zero]at this
 have e:l.take N=l.take m:=by
  rw[hm,←List.take_take,List.take_of_length_le (l:=l.take N) (by rw[List.length_take];omega)]
 unfold Ints intCells;rw[e,List.map_take]
 exact this
theorem Vals.cut {w:World}{a:Option Addr}{c:Nat}{l:List UInt8}(h:Bytes w (.slice a l.length c) l)(N m:Nat)(hm:m=min l.length N):Bytes w (.slice a m c) (l.take N):=by
 obtain⟨a0,c0,he,h1,h2,-⟩:=Vals.form h
 simp only[Value.slice.injEq]at he
 obtain⟨rfl,-,rfl⟩:=he
 have:=Vals.sub h 0 m (Nat.zero_le _) (by omega) a c (fun _ b o e=>by simpa using e) (by omega) h2;simp only[Nat.sub_zero,List.drop_zero]at this
 have e:l.take N=l.take m:=by
  rw[hm,←List.take_take,List.take_of_length_le (l:=l.take N) (by rw[List.length_take];omega)]
 unfold Bytes Lib.byteCells;rw[e,List.map_take]
 exact this
theorem map_take_succ {α β:Type}(f:α→β){l:List α}{j:Nat}{x:α}(h:l[j]? = some x):(l.take (j+1)).map f=(l.take j).map f++[f x]:=by
 rw[List.take_add_one,h]
 simp
theorem Kept.weaken {R:World→Prop}{K K':Nat→Prop}{w:World}(h:Kept R K w)(hK:∀ k,K' k→K k):Kept R K' w:=fun W f=>h W (f.mono (fun k _ hs=>hK k hs))
theorem own_kept {w:World}{base n:Nat}{e:TypeId}{v:Value}{xs:List Value}(h:w.ownsRow base e 1 v n xs)(K:Nat→Prop)(hK:∀ k,K k→k<base):Kept (fun W=>Vals W v xs) K w:=fun W f=>
 (Vals.of_own (Go.Proofs.YteidmhkobmddiaaGreatDoor.ownsRow_fr h f (fun k hk hs=>by have:=((Vals.of_own h).2 k hk).1;have:=hK k hs;omega))).1
def FRow (K:Nat→Prop)(t:TypeId)(w:World)(base:Nat)(v:Value)(n:List (List Part)):Prop:=
 ∃ us:List Value,w.ownsRow base t 1 v n.length us∧us.length=n.length∧∀ (i:Nat) (u:Value) (r:List Part),us[i]? = some u→n[i]? = some r→Kept (fun W=>Attrs W u r) (fun k=>v.ownBlock=some k∨K k) w
theorem FRow.old {K:Nat→Prop}{t:TypeId}{w w':World}{base:Nat}{v:Value}{n:List (List Part)}(h:FRow K t w base v n)(f:Fz w w'):FRow K t w' base v n:=by
 obtain⟨us,h1,h2,h3⟩:=h
 exact⟨us,Go.Proofs.YteidmhkobmddiaaGreatDoor.ownsRow_fr h1 f (fun _ _ h=>h),h2,fun i u r hu hr=>(h3 i u r hu hr).old f⟩
theorem FRow.keep {K:Nat→Prop}{t:TypeId}{w:World}{base:Nat}{v:Value}{n:List (List Part)}(h:FRow K t w base v n):∀ k,v.ownBlock=some k→base≤k∧k<w.heap.size:=by
 obtain⟨us,h1,-⟩:=h
 exact(Vals.of_own h1).2
theorem FRow.nil (K:Nat→Prop)(t:TypeId)(w:World)(base:Nat):FRow K t w base (.slice none 0 0) []:=⟨[],⟨rfl,.inl ⟨rfl,rfl⟩⟩,rfl,fun i u r h=>by simp at h⟩
theorem FRow.add {P:Program}{K:Nat→Prop}{t s:TypeId}(hu0:P.underlying s=some (.slice t))(hinf:Info P t (.slice none 0 0) 1 24){w wa:World}{base:Nat}{v:Value}{n:List (List Part)}(h:FRow K t w base v n)(hb:base≤w.heap.size)(F1:Fz w wa)(g:Nat)(u:Value)(r:List Part)(BX:Blk wa g t #[u])(hu1:u.oneCell'=true)(hu:Kept (fun W=>Attrs W u r) (fun k=>v.ownBlock=some k∨K k) w)(hn:n.length≤109951162777) :
  ∃ a c w',(Builtin.append_ #[s,s] s #[v,.slice (some ⟨g,0,none⟩) 1 1]).run P wa=.ok (.slice a (n.length+1) c) w'∧FRow K t w' base (.slice a (n.length+1) c) (n++[r])∧Fr (fun k=>v.ownBlock=some k) w w':=by
 obtain⟨us,h1,h2,h3⟩:=h
 obtain⟨a,c,w',hrun,h4,F2,h5⟩:=add_gen hu0 hinf rfl (by decide) (by decide) h1 hb F1 g [u] rfl BX (by simpa using hu1) hn
 have hst:∀ (x:Value) (q:List Part),Kept (fun W=>Attrs W x q) (fun k=>v.ownBlock=some k∨K k) w→Kept (fun W=>Attrs W x q) (fun k=>(Value.slice a (n.length+1) c).ownBlock=some k∨K k) w':=fun x q hq=>
  hq.step F2 (fun _ _ h=>.inl h) (fun k hk=>by
   rcases hk with h|h
   ·rcases h5 k h with h|h
    ·exact .inl (.inl h)
    ·exact .inr h
   ·exact .inl (.inr h))
 refine⟨a,c,w',hrun,⟨us++[u],?_,by simp[h2],fun i x s hx hs=>?_⟩,F2⟩
 ·rw[List.length_append]
  exact h4
 ·rcases Nat.lt_or_ge i us.length with hi|hi
  ·rw[List.getElem?_append_left hi]at hx
   rw[List.getElem?_append_left (by omega)]at hs
   exact hst _ _ (h3 i x s hx hs)
  ·obtain rfl:i=us.length:=by
    have:=(List.getElem?_eq_some_iff.1 hx).1;simp at this
    omega
   rw[List.getElem?_append_right (Nat.le_refl _)]at hx
   rw[List.getElem?_append_right (by omega)]at hs
   simp at hx
   simp[h2]at hs
   subst hx;subst hs;exact hst _ _ hu
def RGen (W:World)(cs:List Value)(g:Gen):Prop:=∃ vb vn,cs=[.int .i64 g.k,vb,vn]∧Bytes W vb g.b∧NameAt W vn g.n
def GenAt (W:World)(u:Value)(g:Gen):Prop:=∃ vb vn,u=.agg #[.int .i64 g.k,vb,vn]∧Bytes W vb g.b∧NameAt W vn g.n
abbrev Gens (W:World)(v:Value)(l:List Gen):Prop:=LAt 3 RGen W v l
theorem RGen.old (w w':World)(cs:List Value)(g:Gen)(h:RGen w cs g)(f:Fz w w'):RGen w' cs g:=by
 obtain⟨vb,vn,rfl,h1,h2⟩:=h
 exact⟨vb,vn,rfl,h1.old f,h2.old f⟩
theorem GenAt.old {w w':World}{u:Value}{g:Gen}(h:GenAt w u g)(f:Fz w w'):GenAt w' u g:=by
 obtain⟨vb,vn,rfl,h1,h2⟩:=h
 exact⟨vb,vn,rfl,h1.old f,h2.old f⟩
theorem Gens.old {w w':World}{v:Value}{l:List Gen}(h:Gens w v l)(f:Fz w w'):Gens w' v l:=LAt.old RGen.old h f
theorem GenAt.form {w:World}{u:Value}{g:Gen}(h:GenAt w u g):∃ ab cb an cn,u=.agg #[.int .i64 g.k,.slice ab g.b.length cb,.slice an g.n.length cn]∧Bytes w (.slice ab g.b.length cb) g.b∧NameAt w (.slice an g.n.length cn) g.n:=by
 obtain⟨vb,vn,rfl,h1,h2⟩:=h
 obtain⟨ab,cb,rfl,-⟩:=h1.form
 have h3:=h2;obtain⟨an,cn,rfl,-⟩:=h3
 exact⟨ab,cb,an,cn,rfl,h1,h2⟩
theorem Gens.get {w:World}{a:Option Addr}{n c:Nat}{l:List Gen}(h:Gens w (.slice a n c) l){i:Nat}{g:Gen}(hi:l[i]? = some g):∃ b o ab cb an cn,a=some ⟨b,o,none⟩∧n=l.length∧GenAt w (.agg #[.int .i64 g.k,.slice ab g.b.length cb,.slice an g.n.length cn]) g∧w.cell? ⟨b,o+i*3,none⟩=some (.int .i64 g.k)∧w.cell? ⟨b,o+i*3+1,none⟩=some (.slice ab g.b.length cb)∧w.cell? ⟨b,o+i*3+2,none⟩=some (.slice an g.n.length cn):=by
 obtain⟨a0,c0,he,h1,h2,h3⟩:=h
 simp only[Value.slice.injEq]at he
 obtain⟨rfl,rfl,rfl⟩:=he
 have hil:=(List.getElem?_eq_some_iff.1 hi).1;obtain⟨b,o,rfl,hy⟩:=h3 (by omega)
 obtain⟨cs,-,e2,vb,vn,rfl,g1,g2⟩:=hy i g hi
 obtain⟨ab,cb,rfl,-⟩:=g1.form
 have g3:=g2;obtain⟨an,cn,rfl,-⟩:=g3
 rw[Nat.mul_comm]at e2
 exact⟨b,o,ab,cb,an,cn,rfl,rfl,⟨_,_,rfl,g1,g2⟩,e2 0 _ rfl,e2 1 _ rfl,e2 2 _ rfl⟩
theorem NameAt.cut {w:World}{a:Option Addr}{c:Nat}{n:List (List Part)}(h:NameAt w (.slice a n.length c) n)(N m:Nat)(hm:m=min n.length N):NameAt w (.slice a m c) (n.take N):=by
 obtain⟨a0,c0,he,h1,h2,h3⟩:=h
 simp only[Value.slice.injEq]at he
 obtain⟨rfl,-,rfl⟩:=he
 have hl:(n.take N).length=m:=by rw[List.length_take];omega
 refine⟨a,c,by rw[hl],by omega,h2,fun h0=>?_⟩
 obtain⟨b,o,rfl,hy⟩:=h3 (by omega)
 refine⟨b,o,rfl,fun i r hr=>hy i r ?_⟩
 rw[List.getElem?_take]at hr
 split at hr
 ·exact hr
 ·cases hr
theorem NameAt.shape {w:World}{v:Value}{n:List (List Part)}(h:NameAt w v n):∃ a c,v=.slice a n.length c:=by
 obtain⟨a,c,rfl,-⟩:=h
 exact⟨a,c,rfl⟩
theorem FRow.at {K:Nat→Prop}{t:TypeId}{w:World}{base:Nat}{v:Value}{n:List (List Part)}(h:FRow K t w base v n):NameAt w v n:=by
 obtain⟨us,h1,h2,h3⟩:=h
 obtain⟨a,cap,he,hc,hm,hx⟩:=(Vals.of_own h1).1
 rw[h2]at he hc hx
 refine⟨a,cap,he,hc,hm,fun h0=>?_⟩
 obtain⟨b,o,rfl,hy⟩:=hx h0
 refine⟨b,o,rfl,fun i r hr=>?_⟩
 have hi:i<us.length:=by rw[h2];exact(List.getElem?_eq_some_iff.1 hr).1
 have hu:us[i]? = some us[i]:=List.getElem?_eq_getElem hi;exact⟨_,hy i _ hu,(h3 i _ r hu hr).now⟩
theorem FRow.kept {K:Nat→Prop}{t:TypeId}{w:World}{base:Nat}{v:Value}{n:List (List Part)}(h:FRow K t w base v n)(K':Nat→Prop)(hK:∀ k,K' k→K k∧k<base):Kept (fun W=>NameAt W v n) K' w:=fun W f=>by
 obtain⟨us,h1,h2,h3⟩:=h
 have hk:=(Vals.of_own h1).2;refine FRow.at (K:=K') (t:=t) (base:=base) ⟨us,Go.Proofs.YteidmhkobmddiaaGreatDoor.ownsRow_fr h1 f (fun k hk2 hs=>by have:=(hk k hk2).1;have:=(hK k hs).2;omega),h2,fun i u r hu hr=>(h3 i u r hu hr).step f (fun k _ hs=>.inr (hK k hs).1) (fun k hs=>?_)⟩;rcases hs with hs|hs
 ·exact .inl (.inl hs)
 ·exact .inl (.inr (hK k hs).1)
structure Ext where
 o:List Int
 c:Bool
 v:List UInt8
def RExt (W:World)(cs:List Value)(x:Ext):Prop:=∃ vo vv,cs=[vo,.bool x.c,vv]∧Ints W vo x.o∧Bytes W vv x.v
abbrev Exts (W:World)(v:Value)(l:List Ext):Prop:=LAt 3 RExt W v l
theorem RExt.old (w w':World)(cs:List Value)(x:Ext)(h:RExt w cs x)(f:Fz w w'):RExt w' cs x:=by
 obtain⟨vo,vv,rfl,h1,h2⟩:=h
 exact⟨vo,vv,rfl,h1.old f,h2.old f⟩
theorem Exts.old {w w':World}{v:Value}{l:List Ext}(h:Exts w v l)(f:Fz w w'):Exts w' v l:=LAt.old RExt.old h f
def ExtAt (W:World)(u:Value)(x:Ext):Prop:=∃ vo vv,u=.agg #[vo,.bool x.c,vv]∧Ints W vo x.o∧Bytes W vv x.v
theorem ExtAt.old {w w':World}{u:Value}{x:Ext}(h:ExtAt w u x)(f:Fz w w'):ExtAt w' u x:=by
 obtain⟨vo,vv,rfl,h1,h2⟩:=h
 exact⟨vo,vv,rfl,h1.old f,h2.old f⟩
theorem ExtAt.form {w:World}{u:Value}{x:Ext}(h:ExtAt w u x):∃ ao co av cv,u=.agg #[.slice ao x.o.length co,.bool x.c,.slice av x.v.length cv]∧Ints w (.slice ao x.o.length co) x.o∧Bytes w (.slice av x.v.length cv) x.v:=by
 obtain⟨vo,vv,rfl,h1,h2⟩:=h
 obtain⟨ao,co,rfl,-⟩:=Ints.form h1
 obtain⟨av,cv,rfl,-⟩:=h2.form
 exact⟨ao,co,av,cv,rfl,h1,h2⟩
theorem Exts.get {w:World}{a:Option Addr}{n c:Nat}{l:List Ext}(h:Exts w (.slice a n c) l){i:Nat}{x:Ext}(hi:l[i]? = some x):∃ b o ao co av cv,a=some ⟨b,o,none⟩∧n=l.length∧ExtAt w (.agg #[.slice ao x.o.length co,.bool x.c,.slice av x.v.length cv]) x∧w.cell? ⟨b,o+i*3,none⟩=some (.slice ao x.o.length co)∧w.cell? ⟨b,o+i*3+1,none⟩=some (.bool x.c)∧w.cell? ⟨b,o+i*3+2,none⟩=some (.slice av x.v.length cv):=by
 obtain⟨a0,c0,he,h1,h2,h3⟩:=h
 simp only[Value.slice.injEq]at he
 obtain⟨rfl,rfl,rfl⟩:=he
 have hil:=(List.getElem?_eq_some_iff.1 hi).1;obtain⟨b,o,rfl,hy⟩:=h3 (by omega)
 obtain⟨cs,-,e2,vo,vv,rfl,g1,g2⟩:=hy i x hi
 obtain⟨ao,co,rfl,-⟩:=Ints.form g1
 obtain⟨av,cv,rfl,-⟩:=g2.form
 rw[Nat.mul_comm]at e2
 exact⟨b,o,ao,co,av,cv,rfl,rfl,⟨_,_,rfl,g1,g2⟩,e2 0 _ rfl,e2 1 _ rfl,e2 2 _ rfl⟩
theorem Exts.cut {w:World}{a:Option Addr}{c:Nat}{l:List Ext}(h:Exts w (.slice a l.length c) l)(N m:Nat)(hm:m=min l.length N):Exts w (.slice a m c) (l.take N):=by
 obtain⟨a0,c0,he,h1,h2,h3⟩:=h
 simp only[Value.slice.injEq]at he
 obtain⟨rfl,-,rfl⟩:=he
 have hl:(l.take N).length=m:=by rw[List.length_take];omega
 refine⟨a,c,by rw[hl],by omega,h2,fun h0=>?_⟩
 obtain⟨b,o,rfl,hy⟩:=h3 (by omega)
 refine⟨b,o,rfl,fun i r hr=>hy i r ?_⟩
 rw[List.getElem?_take]at hr
 split at hr
 ·exact hr
 ·cases hr
structure CertT where
 below:Bool
 size:List UInt8
 iss:List (List Part)
 sub:List (List Part)
 t0:Int
 t1:Int
 ao:List Int
 ap:List UInt8
 kn:List UInt8
 ex:List Ext
def CertIn (W:World)(x:CertT)(vs vi vj va vp vk ve:Value):Prop:=Bytes W vs x.size∧NameAt W vi x.iss∧NameAt W vj x.sub∧Ints W va x.ao∧Bytes W vp x.ap∧Bytes W vk x.kn∧Exts W ve x.ex
def CertAt (W:World)(u:Value)(x:CertT):Prop:=∃ vs vi vj va vp vk ve,u=.agg #[.bool x.below,vs,vi,vj,.int .i64 x.t0,.int .i64 x.t1,va,vp,vk,ve]∧CertIn W x vs vi vj va vp vk ve
theorem CertIn.old {w w':World}{x:CertT}{vs vi vj va vp vk ve:Value}(h:CertIn w x vs vi vj va vp vk ve)(f:Fz w w'):CertIn w' x vs vi vj va vp vk ve:=by
 obtain⟨h1,h2,h3,h4,h5,h6,h7⟩:=h
 exact⟨h1.old f,h2.old f,h3.old f,h4.old f,h5.old f,h6.old f,h7.old f⟩
theorem CertAt.old {w w':World}{u:Value}{x:CertT}(h:CertAt w u x)(f:Fz w w'):CertAt w' u x:=by
 obtain⟨vs,vi,vj,va,vp,vk,ve,rfl,h1⟩:=h
 exact⟨vs,vi,vj,va,vp,vk,ve,rfl,h1.old f⟩
def cutExt (x:Ext):Ext:=⟨x.o.take 40,x.c,x.v.take 200⟩
def cutCert (x:CertT):CertT:=⟨x.below,x.size.take 100,cutName (x.iss.take 5),cutName (x.sub.take 5),x.t0,x.t1,x.ao.take 40,x.ap.take 200,x.kn.take 100,((x.ex.take 10).take 70).map cutExt⟩
open Go Go.RowKit Go.ChangeShapes
variable {H:Type}{enc:TypeId × Value→H}{P:Program}{w:World}{base:Nat}{spare:Nat→Bool}{held:Bool}
theorem trod_struct7 {t:TypeId}{f0 f1 f2 f3 f4 f5 f6:Field}{fuel:Nat}{cs:List Value}{x:DataW H × List MemPlace}(ht:P.underlying t=some (.struct #[f0,f1,f2,f3,f4,f5,f6]))(h:DataW.trod enc P w base spare held fuel t cs=some x) :
  ∃ y0 y1 y2 y3 y4 y5 y6 n,cs.length=P.cellsOf t∧DataW.trod enc P w base spare held n f0.type ((cs.drop f0.offset).take (P.cellsOf f0.type))=some y0∧
   DataW.trod enc P w base spare held n f1.type ((cs.drop f1.offset).take (P.cellsOf f1.type))=some y1∧DataW.trod enc P w base spare held n f2.type ((cs.drop f2.offset).take (P.cellsOf f2.type))=some y2∧
   DataW.trod enc P w base spare held n f3.type ((cs.drop f3.offset).take (P.cellsOf f3.type))=some y3∧DataW.trod enc P w base spare held n f4.type ((cs.drop f4.offset).take (P.cellsOf f4.type))=some y4∧
   DataW.trod enc P w base spare held n f5.type ((cs.drop f5.offset).take (P.cellsOf f5.type))=some y5∧DataW.trod enc P w base spare held n f6.type ((cs.drop f6.offset).take (P.cellsOf f6.type))=some y6:=by
 obtain⟨xs,n,_,rfl,hl,hlen,hf⟩:=DataW.trod_struct ht h
 match xs,hlen with
 | [y0,y1,y2,y3,y4,y5,y6],_=>exact⟨y0,y1,y2,y3,y4,y5,y6,n,hl,by simpa using hf 0 f0 rfl,by simpa using hf 1 f1 rfl,by simpa using hf 2 f2 rfl,by simpa using hf 3 f3 rfl,by simpa using hf 4 f4 rfl,by simpa using hf 5 f5 rfl,by simpa using hf 6 f6 rfl⟩
theorem ten_of {α:Type}{l:List α}(h:l.length=10):∃ a b c d e f g i j k,l=[a,b,c,d,e,f,g,i,j,k]:=by
 match l,h with
 | [a,b,c,d,e,f,g,i,j,k],_=>exact⟨a,b,c,d,e,f,g,i,j,k,rfl⟩
instance:DecidableEq Part:=fun p q=>if h:p.o=q.o∧p.b=q.b then isTrue (by cases p;cases q;simp_all) else isFalse (fun e=>h (by rw[e];exact⟨rfl,rfl⟩))
theorem held_z {α:Type}{o:α}{l:List α}:(o::l)[0]? = some o:=rfl
theorem held_s {α:Type}{a o:α}{l:List α}{i:Nat}(h:l[i]? = some o):(a::l)[i+1]? = some o:=h
theorem held_at {α:Type}{o:α}{l:List α}{i:Nat}(h:l[i]? = some o):l.toArray[i]? = some o:=by simpa using h
section
variable {P:Program}{ops:Array Oper}{Q:Exit→Act→World→Prop}{md:Region.Mode}{S:World→Prop}{n:Nat}
def wpAnyN (P:Program)(md:Region.Mode)(ops:Array Oper)(Q:Exit→Act→World→Prop)(S:World→Prop)(n:Nat):Nat→Array Bool→Act→World→Prop
 |0,listed,a,w=>Region.ready md ops listed=[]∧Q .normal a w
 |f+1,listed,a,w=>(Region.ready md ops listed=[]→Q .normal a w)∧
  ∀ i∈Region.ready md ops listed,wpOp P ops Q i (fun b u=>(i<n→S u)∧wpAnyN P md ops Q S n f (listed.setIfInBounds i true) b u) a w
theorem wpAny_ofN:∀ (f:Nat) (listed:Array Bool) (a:Act) (w:World),wpAnyN P md ops Q S n f listed a w→wpAny P md ops Q f listed a w
 |0,_,_,_,h=>h
 |f+1,_,_,_,h=>⟨h.1,fun i hi=>wpOp_mono (fun b u g=>wpAny_ofN f _ b u g.2) (h.2 i hi)⟩
def waitB (md:Region.Mode)(ops:Array Oper)(n i:Nat):Bool:=(ops.toList.drop n).all (fun o=>o.after.any (fun e=>Region.binds md e&&e.on==i))
theorem wait_spec {i:Nat}(h:waitB md ops n i=true){j:Nat}{o:Oper}(hj:ops[j]? = some o)(hn:n≤j):∃ e∈o.after,Region.binds md e=true∧e.on=i:=by
 have hm:o∈ops.toList.drop n:=by
  have:(ops.toList.drop n)[j-n]? = some o:=by
   rw[List.getElem?_drop,show n+(j-n)=j from by omega,Array.getElem?_toList]
   exact hj
  exact List.mem_of_getElem? this
 have:=List.all_eq_true.1 h o hm;obtain⟨e,he,hb⟩:=Array.any_eq_true'.1 this
 rw[Bool.and_eq_true,beq_iff_eq]at hb
 exact⟨e,he,hb.1,hb.2⟩
theorem wpAnyN_take1 {i:Nat}{oi:Oper}{v:Value}(hi:ops[i]? = some oi)(hsel:∀ (j:Nat) (o:Oper) cs b,ops[j]? = some o→o.op≠.select cs b)
  (hQ:∀ c a w,Q (.panic c) (a.put oi.dst v) w→Q (.panic c) a w) (hw:waitB md ops n i=true) :
  ∀ (f:Nat) (listed:Array Bool) (a:Act) (w:World),
   (∀ j oj,ops[j]? = some oj→j≠i→listed.getD j true=false→(∀ e∈oj.after,Region.binds md e=true→e.on≠i)→oi.apart ops oj=true)→
   i∈Region.ready md ops listed→YieldsIf P ops S oi v a→S w→
   wpAnyN P md ops Q S n f (listed.setIfInBounds i true) (a.put oi.dst v) w→wpAnyN P md ops Q S n (f+1) listed a w:=by
 intro f;induction f with
 |zero=>
  intro listed a w _ hr hy hS H;refine⟨fun h=>(by rw[h]at hr;cases hr),fun j hj=>?_⟩
  by_cases hji:j=i
  ·subst hji;exact hy.wpOp hi hS ⟨fun _=>hS,H⟩
  ·have:=ready_mono hj hji
   rw[H.1]at this
   cases this
 |succ f ih=>
  intro listed a w hfree hr hy hS H;refine⟨fun h=>(by rw[h]at hr;cases hr),fun j hj=>?_⟩
  by_cases hji:j=i
  ·subst hji;exact hy.wpOp hi hS ⟨fun _=>hS,H⟩
  ·have h1:=H.2 j (ready_mono hj hji)
   obtain⟨hjun,oj,hoj,hall⟩:=mem_ready.1 hj
   have hun:listed.getD i true=false:=(mem_ready.1 hr).1;have hnot:∀ e∈oj.after,Region.binds md e=true→e.on≠i:=fun e he hb heq=>by
    have g1:=hall e he hb;have g0:=hun;rw[heq]at g1
    rcases Nat.lt_or_ge i listed.size with h'|h'
    ·simp[h']at g0 g1;rw[g0]at g1;cases g1
    ·simp[Array.getElem?_eq_none h']at g1
   have hjn:j<n:=by
    rcases Nat.lt_or_ge j n with q|q
    ·exact q
    ·obtain⟨e,he,hb,hon⟩:=wait_spec hw hoj q
     exact absurd hon (hnot e he hb)
   have h2:=wpOp_putIf hoj (hfree j oj hoj hji hjun hnot) (fun cs b=>hsel i oi cs b hi) (fun cs b=>hsel j oj cs b hoj) hQ hy h1;have hfree':∀ k ok,ops[k]? = some ok→k≠i→(listed.setIfInBounds j true).getD k true=false→(∀ e∈ok.after,Region.binds md e=true→e.on≠i)→oi.apart ops ok=true:=fun k ok hk hki hu hno=>by
    refine hfree k ok hk hki ?_ hno;by_cases hjk:j=k
    ·subst hjk;exact hjun
    ·rw[getD_set_ne true hjk]at hu;exact hu
   refine wpOp_mono (fun b u g=>⟨g.2.1,ih (listed.setIfInBounds j true) b u hfree' (ready_mono hr (Ne.symm hji)) g.1 (g.2.1 hjn) ?_⟩) h2;rw[Array.setIfInBounds_comm _ _ hji]
   exact g.2.2
theorem wpAnyN_take {i:Nat}{oi:Oper}{v:Value}{f:Nat}{listed:Array Bool}{a:Act}{w:World}(hi:ops[i]? = some oi)
  (hs:Region.noSelect ops=true) (hf:Region.free md ops listed i=true) (hr:(Region.ready md ops listed).contains i=true) (hw:waitB md ops n i=true)
  (hQ:∀ c a w,Q (.panic c) (a.put oi.dst v) w→Q (.panic c) a w) (hy:YieldsIf P ops S oi v a) (hS:S w)
  (h:wpAnyN P md ops Q S n f (listed.setIfInBounds i true) (a.put oi.dst v) w):wpAnyN P md ops Q S n (f+1) listed a w:=
 wpAnyN_take1 hi (Region.noSelect_spec hs) hQ hw f listed a w (Region.free_spec hi hf) (by simpa using hr) hy hS h
theorem tkN (i:Nat){oi:Oper}{v:Value}{f:Nat}{listed:Array Bool}{a:Act}{w:World}(hi:ops[i]? = some oi)(hS:S w)(h:wpAnyN P md ops Q S n f (listed.setIfInBounds i true) (a.put oi.dst v) w)(hy:YieldsIf P ops S oi v a:=by exact Or.inl ⟨by rfl,by intro W hSw;(try dsimp only at hSw);go_simp;try with_reducible rfl⟩)(hs:Region.noSelect ops=true:=by kernel_rfl)(hf:Region.free md ops listed i=true:=by kernel_rfl)(hr:(Region.ready md ops listed).contains i=true:=by kernel_rfl)(hw:waitB md ops n i=true:=by kernel_rfl)(hQ:∀ c a w,Q (.panic c) (a.put oi.dst v) w→Q (.panic c) a w:=by exact fun _ _ _ h=>h):wpAnyN P md ops Q S n (f+1) listed a w:=wpAnyN_take hi hs hf hr hw hQ hy hS h
theorem tkG (i:Nat){oi:Oper}{v:Value}{f:Nat}{listed:Array Bool}{a:Act}{w:World}(hi:ops[i]? = some oi)(hS:S w)(h:wpAnyN P md ops Q S n f (listed.setIfInBounds i true) (a.put oi.dst v) w)(hy:YieldsIf P ops S oi v a:=by exact Or.inl ⟨by kernel_rfl,by intro W hSw;(try dsimp only at hSw);go_simp;try with_reducible rfl⟩)(hs:Region.noSelect ops=true:=by kernel_rfl)(hf:Region.free md ops listed i=true:=by kernel_rfl)(hr:(Region.ready md ops listed).contains i=true:=by kernel_rfl)(hw:waitB md ops n i=true:=by kernel_rfl)(hQ:∀ c a w,Q (.panic c) (a.put oi.dst v) w→Q (.panic c) a w:=by exact fun _ _ _ h=>h):wpAnyN P md ops Q S n (f+1) listed a w:=wpAnyN_take hi hs hf hr hw hQ hy hS h
theorem tkS (i:Nat){oi:Oper}{f:Nat}{listed:Array Bool}{a:Act}{w:World}(hi:ops[i]? = some oi)(hS:S w)(h:wpAnyN P md ops Q S n f (listed.setIfInBounds i true) (a.put oi.dst undef) w)(hy:YieldsIf P ops S oi undef a:=by exact Or.inr ⟨by kernel_rfl,rfl⟩)(hs:Region.noSelect ops=true:=by kernel_rfl)(hf:Region.free md ops listed i=true:=by kernel_rfl)(hr:(Region.ready md ops listed).contains i=true:=by kernel_rfl)(hw:waitB md ops n i=true:=by kernel_rfl)(hQ:∀ c a w,Q (.panic c) (a.put oi.dst undef) w→Q (.panic c) a w:=by exact fun _ _ _ h=>h):wpAnyN P md ops Q S n (f+1) listed a w:=wpAnyN_take hi hs hf hr hw hQ hy hS h
theorem wpAnyN_step {i:Nat}{o:Oper}{f:Nat}{listed:Array Bool}{a:Act}{w:World}(hr:Region.ready md ops listed=[i])(ho:ops[i]? = some o)
  (h:∀ K:Act→World→Prop,Shut (∀ a w,S w→(S w→wpAnyN P md ops Q S n f (listed.setIfInBounds i true) a w)→K a w)→if Region.wanted o (yielded ops a.tmps)=true then Oper.wp P o a w K Q else K (a.put o.dst undef) w):wpAnyN P md ops Q S n (f+1) listed a w:=by
 refine⟨fun e=>(by rw[e]at hr;cases hr),fun j hj=>?_⟩
 rw[hr,List.mem_singleton]at hj
 subst hj;exact wpOp_step ho (fun K hK=>h K (fun a w hS hW=>hK a w ⟨fun _=>hS,hW hS⟩))
theorem wpAnyN_last {i:Nat}{o:Oper}{f:Nat}{listed:Array Bool}{a:Act}{w:World}(hr:Region.ready md ops listed=[i])(hn:n≤i)(ho:ops[i]? = some o)
  (h:∀ K:Act→World→Prop,Shut (∀ a w,wpAnyN P md ops Q S n f (listed.setIfInBounds i true) a w→K a w)→if Region.wanted o (yielded ops a.tmps)=true then Oper.wp P o a w K Q else K (a.put o.dst undef) w):wpAnyN P md ops Q S n (f+1) listed a w:=by
 refine⟨fun e=>(by rw[e]at hr;cases hr),fun j hj=>?_⟩
 rw[hr,List.mem_singleton]at hj
 subst hj;exact wpOp_step ho (fun K hK=>h K (fun a w hW=>hK a w ⟨fun q=>absurd q (by omega),hW⟩))
theorem wpAnyN_done {listed:Array Bool}{a:Act}{w:World}(hr:Region.ready md ops listed=[])(h:Q .normal a w):∀ f,wpAnyN P md ops Q S n f listed a w
 |0=>⟨hr,h⟩
 |_+1=>⟨fun _=>h,by rw[hr];simp⟩
theorem wp_region_N (n:Nat){id:Nat}{a:Act}{w:World}(hm:P.follows .mixedOrders=true)(hS:S w.drew)
  (h:S w.drew→wpAnyN P .any ops Q S n ops.size (Array.replicate ops.size false) a w.drew):(Code.region id ops true).wp P Q a w:=
 wp_region_any hm (wpAny_ofN _ _ _ _ (h hS))
end
end Go.Q
namespace Go.Proofs.YteidmhkobmddiaaGreatDoor
open Go Go.RowKit Go.Q
theorem lawStep_any (v:Value)(l:List Part)(w0 w:World)(h:Attrs w0 v l)(F0:Fz w0 w) :
  Calls Tryz.prog 110 #[v] w fun e w'=>(∃ a c,e=.returned (.slice a (cutStep l).length c)∧ARow 145 w0 w' w.heap.size (.slice a (cutStep l).length c) (cutStep l))∧Fz w w':=by
 have H:=Hi h;have HF0:=Hi F0;obtain⟨a,cap,rfl,-⟩:=h
 have hcs:cutStep l=(l.take 20).map cutPart:=rfl;have HCS:=Hi hcs;clear hcs F0;go_enter Tryz.func110,Tryz.ntmps110
 go_wp2_with fail
 go_loopg [3,4] l.length (fun g u i wr=>∃ (j:Nat) (au:Option Addr) (cu:Nat),g=l.length-j∧j≤l.length∧j≤20∧u=.slice au j cu∧i=.int .i64 j∧ARow 145 w0 wr w.heap.size (.slice au j cu) ((l.take j).map cutPart)∧Fz w wr)
 case atStart=>exact⟨0,none,0,rfl,Nat.zero_le _,by omega,rfl,rfl,ARow.nil _ _ _ _,Fr.refl _⟩
 case round=>
  obtain⟨j,au,cu,hg,hj,hj20,rfl,rfl,hrow,F⟩:=hrel
  have HG:=Hi hg;have HRW:=Hi hrow;have HF:=Hi F;have hml:((l.take j).map cutPart).length=j:=by rw[List.length_map,List.length_take];omega
  have HML:=Hi hml;clear hg hrow hml;by_cases hjl:j<l.length
  ·have q1:(j:Int)<(l.length:Int):=by omega
   by_cases h20:j<20
   ·have q2:(j:Int)<20:=by omega
    obtain⟨a0,cap0,he,_,_,hx⟩:=H.out
    simp only[Value.slice.injEq,true_and]at he
    obtain⟨rfl,rfl⟩:=he
    obtain⟨b,off,rfl,hy⟩:=hx (by omega)
    obtain⟨p,hp⟩:∃ p,l[j]? = some p:=⟨_,List.getElem?_eq_getElem hjl⟩
    obtain⟨x,y,e1,e2,hpx,hpy⟩:=hy j p hp
    obtain⟨ax,cx,rfl,hcx,hmx,-⟩:=Ints.form hpx
    obtain⟨ay,cy,rfl,hcy,hmy,-⟩:=Vals.form hpy
    have e1':wr.cell? ⟨b,off+j*2,none⟩=some (.slice ax p.o.length cx):=by rw[Nat.mul_comm];exact(HF0.out.trans F).cell e1 (fun h=>h)
    have e2':wr.cell? ⟨b,off+j*2+1,none⟩=some (.slice ay p.b.length cy):=by rw[Nat.mul_comm];exact(HF0.out.trans F).cell e2 (fun h=>h)
    obtain⟨mo,hmo⟩:∃ m:Nat,m=min p.o.length 40:=⟨_,rfl⟩
    obtain⟨mb,hmb⟩:∃ m:Nat,m=min p.b.length 200:=⟨_,rfl⟩
    have HPX:=Hi (Ints.cut hpx 40 mo hmo);have HPY:=Hi (Vals.cut hpy 200 mb hmb);have HMT:=Hi (map_take_succ cutPart hp);unfold maxLen at hmx hmy;have c1:min (p.o.length:Int) 40=(mo:Int):=by omega
    have c2:min (p.b.length:Int) 200=(mb:Int):=by omega
    have c3:(mo:Int)≤(cx:Int):=by omega
    have c4:(mb:Int)≤(cy:Int):=by omega
    have c5:(0:Int)≤(mo:Int):=by omega
    have c6:(0:Int)≤(mb:Int):=by omega
    have r1:(0:Int)≤(j:Int):=by omega
    clear hx hy hp e1 e2 hpx hpy hmo hmb;go_upto_region 6 with fail
    obtain⟨z,hz⟩:∃ z,z=wr.heap.size:=⟨_,rfl⟩
    have BA:=Blk.new wr 146 #[.slice ax p.o.length cx,.slice ay p.b.length cy];have F1:Fz wr (wr.alloc (.cells #[.slice ax p.o.length cx,.slice ay p.b.length cy] 146)):=(Fr.refl wr).alloc _;rw[←hz]at BA ⊢
    have HZ:=Hi hz;clear hz e1' e2';generalize (wr.alloc (.cells #[.slice ax p.o.length cx,.slice ay p.b.length cy] 146))=w1 at *
    obtain⟨wa,hwa⟩:∃ wa,wa=w1.drew.alloc (.cells #[.slice ax mo cx,.slice ay mb cy] 145):=⟨_,rfl⟩
    have Fa:Fz wr wa:=by rw[hwa];exact F1.drew.alloc _
    have BAa:Blk wa z 146 #[.slice ax p.o.length cx,.slice ay p.b.length cy]:=by rw[hwa];exact BA.drew.alloc _
    have BX:Blk wa w1.heap.size 145 #[.slice ax mo cx,.slice ay mb cy]:=by rw[hwa];exact Blk.new w1.drew _ _
    obtain⟨a7,c7,w7,hrun,hrow7,F7⟩:=ARow.add Tryz.underlying143 info145 (HRW.out.fr Fa (fun _ _ h=>h)) (HF.out.trans Fa).size (Fr.refl wa) w1.heap.size BX (cutPart p) HPX.out HPY.out (by rw[HML.out];omega)
    have HG7:=Hi ((HF.out.trans Fa).trans' F7 (fun i hi e=>absurd hi (by have:=(HRW.out.keep i e).1;omega)));have BA7:=BAa.fr F7 (fun e=>by have:=(HRW.out.keep z e).2;have:=HZ.out;omega);rw[HML.out]at hrun hrow7
    have HRUN:=Hi hrun;have HROW7:=Hi hrow7;have HC0:=Hi BA.drew.cell;have HCa:=Hi BAa.cell;have HC7:=Hi BA7.cell;rw[hwa]at HCa HRUN
    clear hrun hrow7 F7 BA7 BAa BX Fa F1 BA hwa;go_region_held3 (fun w'=>∀ j,w'.cell? ⟨z,j,none⟩=(#[.slice ax p.o.length cx,.slice ay p.b.length cy]:Array Value)[j]?) (first|exact HC0.out|exact HCa.out|exact HC7.out) (first
     |(refine step_append_run (by rfl) (.tmp 20) (.tmp 36) 143 (by rfl) _ w7 (by exact HRUN.out) ?_)
     |fail)
    all_goals
     go_wp2_with fail
     go_roundg (l.length-(j+1))
     case measure=>rw[HG.out];omega
     case rel=>exact⟨j+1,a7,c7,rfl,by omega,by omega,rfl,by go_num,by rw[HMT.out];exact HROW7.out,HG7.out⟩
   ·obtain rfl:j=20:=by omega
    have q2:¬((20:Nat):Int)<20:=by omega
    have hres:(l.take 20).map cutPart=cutStep l:=HCS.out.symm;have hrow:=HRW.out;rw[hres]at hrow
    have hlen:20=(cutStep l).length:=by rw[←hres,HML.out]
    have HL:=Hi hlen;have HROW:=Hi hrow;clear hres hrow hlen;go_wp2_with fail
    go_ret;exact⟨⟨au,cu,by rw[←HL.out];rfl,by rw[←HL.out];exact HROW.out⟩,F⟩
  ·obtain rfl:j=l.length:=by omega
   have hres:(l.take l.length).map cutPart=cutStep l:=by rw[HCS.out,List.take_of_length_le hj20,List.take_length]
   have hrow:=HRW.out;rw[hres]at hrow
   have hlen:l.length=(cutStep l).length:=by rw[←hres,HML.out]
   have HL:=Hi hlen;have HROW:=Hi hrow;clear hres hrow hlen;go_wp2_with fail
   go_ret;exact⟨⟨au,cu,by rw[←HL.out];rfl,by rw[←HL.out];exact HROW.out⟩,F⟩
theorem info146:(Tryz.prog.info? 146).map (fun i=>(i.zero,i.size,i.bytes))=some (some (.agg #[.slice none 0 0,.slice none 0 0]),2,48):=by kernel_rfl
theorem info24:(Tryz.prog.info? 24).map (fun i=>(i.zero,i.size,i.bytes))=some (some (.slice none 0 0),1,24):=by kernel_rfl
theorem lawOf_any (v:Value)(n:List (List Part))(w:World)(h:NameAt w v n)(hn:n.length≤1000000)(hr0:∀ r∈n,r.length≤1000000) :
  Calls Tryz.prog 21 #[v] w fun e w'=>(∃ a c,e=.returned (.slice a n.length c)∧NRow 24 w' w.heap.size (.slice a n.length c) n)∧Fz w w':=by
 have H:=Hi h;have HR0:=Hi hr0;obtain⟨a,cap,rfl,-⟩:=h
 clear hr0;go_enter Tryz.func21,Tryz.ntmps21
 go_wp2_with fail
 go_loopg [3,4] n.length (fun g u i wr=>∃ (j:Nat) (au:Option Addr) (cu:Nat),g=n.length-j∧j≤n.length∧u=.slice au j cu∧i=.int .i64 j∧NRow 24 wr w.heap.size (.slice au j cu) (n.take j)∧Fz w wr)
 case atStart=>exact⟨0,none,0,rfl,Nat.zero_le _,rfl,rfl,NRow.nil _ _ _,Fr.refl _⟩
 case round=>
  obtain⟨j,au,cu,hg,hj,rfl,rfl,hrow,F⟩:=hrel
  have HG:=Hi hg;have HRW:=Hi hrow;have HF:=Hi F;have hml:(n.take j).length=j:=by rw[List.length_take];omega
  have HML:=Hi hml;clear hg hrow hml;by_cases hjl:j<n.length
  ·have q1:(j:Int)<(n.length:Int):=by omega
   obtain⟨a0,cap0,he,_,_,hx⟩:=H.out
   simp only[Value.slice.injEq,true_and]at he
   obtain⟨rfl,rfl⟩:=he
   obtain⟨b,off,rfl,hy⟩:=hx (by omega)
   obtain⟨r,hr⟩:∃ r,n[j]? = some r:=⟨_,List.getElem?_eq_getElem hjl⟩
   obtain⟨x,e0,hA⟩:=hy j r hr
   have hrl:=HR0.out r (List.mem_of_getElem? hr);have HE0:=Hi e0;have HMT:=Hi (show n.take (j+1)=n.take j++[r] from by rw[List.take_add_one,hr];rfl);have HA:=Hi hA;obtain⟨ar,cr,rfl,-⟩:=hA
   have r1:(0:Int)≤(j:Int):=by omega
   have r2:(j:Int)<(n.length:Int):=by omega
   clear hx hy hr e0 F;obtain⟨wo,hwo⟩:∃ wo:World,wo=wr:=⟨_,rfl⟩
   obtain rfl:=hwo
   go_wp2_with fail
   go_loopg [5,6] r.length (fun g u k wr=>∃ (i:Nat) (a2:Option Addr) (c2:Nat),g=r.length-i∧i≤r.length∧u=.slice a2 i c2∧k=.int .i64 i∧ARow 146 w wr wo.heap.size (.slice a2 i c2) (r.take i)∧Fz wo wr)
   case atStart=>exact⟨0,none,0,rfl,Nat.zero_le _,rfl,rfl,ARow.nil _ _ _ _,Fr.refl _⟩
   case round=>
    obtain⟨i,a2,c2,hg,hi,rfl,rfl,hrow2,F2⟩:=hrel
    have HG2:=Hi hg;have HRW2:=Hi hrow2;have HF2:=Hi F2;have hml:(r.take i).length=i:=by rw[List.length_take];omega
    have HML2:=Hi hml;have e0:=(HF.out.trans F2).cell HE0.out (fun h=>h);clear hg hrow2 hml;by_cases hil:i<r.length
    ·have q2:(i:Int)<(r.length:Int):=by omega
     obtain⟨a1,cap1,he,_,_,hx⟩:=HA.out
     simp only[Value.slice.injEq,true_and]at he
     obtain⟨rfl,rfl⟩:=he
     obtain⟨b1,o1,rfl,hy⟩:=hx (by omega)
     obtain⟨p,hp⟩:∃ p,r[i]? = some p:=⟨_,List.getElem?_eq_getElem hil⟩
     obtain⟨x,y,e1,e2,hpx,hpy⟩:=hy i p hp
     obtain⟨ax,cx,rfl,-⟩:=Ints.form hpx
     obtain⟨ay,cy,rfl,-⟩:=Vals.form hpy
     have e1':w.cell? ⟨b1,o1+i*2,none⟩=some (.slice ax p.o.length cx):=by rw[Nat.mul_comm];exact e1
     have e2':w.cell? ⟨b1,o1+i*2+1,none⟩=some (.slice ay p.b.length cy):=by rw[Nat.mul_comm];exact e2
     have HMT2:=Hi (show r.take (i+1)=r.take i++[p] from by rw[List.take_add_one,hp];rfl);have s1:(0:Int)≤(i:Int):=by omega
     obtain⟨wa,hwa⟩:∃ wa,wa=wr.drew.alloc (.cells #[.slice ax p.o.length cx,.slice ay p.b.length cy] 146):=⟨_,rfl⟩
     have Fa:Fz wr wa:=by rw[hwa];exact(Fr.refl wr).drew.alloc _
     have BX:Blk wa wr.heap.size 146 #[.slice ax p.o.length cx,.slice ay p.b.length cy]:=by rw[hwa];exact Blk.new wr.drew _ _
     obtain⟨a7,c7,w7,hrun,hrow7,F7⟩:=ARow.add Tryz.underlying24 info146 (HRW2.out.fr Fa (fun _ _ h=>h)) (HF2.out.trans Fa).size (Fr.refl wa) wr.heap.size BX p hpx hpy (by rw[HML2.out];omega)
     have G7:Fz wo w7:=(HF2.out.trans Fa).trans' F7 (fun i hi e=>absurd hi (by have:=(HRW2.out.keep i e).1;omega));have HG7:=Hi G7;rw[HML2.out]at hrun hrow7
     have HRUN:=Hi hrun;have HROW7:=Hi hrow7;have hS:∀ w',Fz w w'→w'.cell? ⟨b,off+j,none⟩=some (.slice (some ⟨b1,o1,none⟩) r.length cr)∧w'.cell? ⟨b1,o1+i*2,none⟩=some (.slice ax p.o.length cx)∧w'.cell? ⟨b1,o1+i*2+1,none⟩=some (.slice ay p.b.length cy):=fun w' f=>⟨f.cell HE0.out (fun h=>h),f.cell e1' (fun h=>h),f.cell e2' (fun h=>h)⟩
     have HC0:=Hi (hS wr.drew ((HF.out.trans HF2.out).drew));have HCa:=Hi (hS wa ((HF.out.trans HF2.out).trans Fa));have HC7:=Hi (hS w7 (HF.out.trans G7));rw[hwa]at HCa HRUN
     clear hrun hrow7 F7 G7 BX Fa hwa hx hy hp e1 e2 e1' e2' hpx hpy hS;go_upto_region 9 with fail
     go_region_held3 (fun w'=>w'.cell? ⟨b,off+j,none⟩=some (.slice (some ⟨b1,o1,none⟩) r.length cr)∧w'.cell? ⟨b1,o1+i*2,none⟩=some (.slice ax p.o.length cx)∧w'.cell? ⟨b1,o1+i*2+1,none⟩=some (.slice ay p.b.length cy)) (first|exact HC0.out|exact HCa.out|exact HC7.out) (first
      |(refine step_append_run (by rfl) (.tmp 22) (.tmp 40) 24 (by rfl) _ w7 (by exact HRUN.out) ?_)
      |fail)
     all_goals
      go_wp2_with fail
      go_roundg (r.length-(i+1))
      case measure=>rw[HG2.out];omega
      case rel=>exact⟨i+1,a7,c7,rfl,by omega,rfl,by go_num,by rw[HMT2.out];exact HROW7.out,HG7.out⟩
    ·obtain rfl:i=r.length:=by omega
     have hrow2:=HRW2.out;rw[List.take_length]at hrow2
     have hkp:=HRW.out.keep;have hk2:Kept (fun W=>Attrs W (.slice a2 r.length c2) r) (fun k=>(Value.slice au j cu).ownBlock=some k) wr:=hrow2.kept (HF.out.trans HF2.out) _ (fun k e=>hkp k e);obtain⟨a7,c7,w7,hrun,hrow7,F7⟩:=NRow.add Tryz.underlying22 info24 (HRW.out.old HF2.out) (HF.out.trans HF2.out).size ((Fr.refl wr).alloc (.cells #[.slice a2 r.length c2] 24)) wr.heap.size _ r (Blk.new wr 24 #[.slice a2 r.length c2]) rfl hk2 (by rw[HML.out];omega)
     have HG7:=Hi ((HF.out.trans HF2.out).trans' F7 (fun i hi e=>absurd hi (by have:=(hkp i e).1;omega)));rw[HML.out]at hrun hrow7
     have HRUN:=Hi hrun;have HROW7:=Hi hrow7;clear hrun hrow7 F7 hk2 hkp hrow2;go_wp2_with (at_builtin;refine wpList_append_run (by rfl) (.tmp 42) (.tmp 44) 22 (by rfl) _ w7 (by exact HRUN.out) ?_)
     go_roundg (n.length-(j+1))
     case measure=>rw[HG.out];omega
     case rel=>exact⟨j+1,a7,c7,rfl,by omega,rfl,by go_num,by rw[HMT.out];exact HROW7.out,HG7.out⟩
  ·obtain rfl:j=n.length:=by omega
   have hrow:=HRW.out;rw[List.take_length]at hrow
   have HROW:=Hi hrow;clear hrow;go_wp2_with fail
   go_ret;exact⟨⟨au,cu,rfl,HROW.out⟩,F⟩
theorem lawOfK_any (v:Value)(n:List (List Part))(wb w:World)(h:NameAt wb v n)(Fb:Fz wb w)(hn:n.length≤1000000)(hr0:∀ r∈n,r.length≤1000000) :
  Calls Tryz.prog 21 #[v] w fun e w'=>(∃ a c,e=.returned (.slice a n.length c)∧FRow (fun k=>wb.heap.size≤k∧k<w.heap.size) 24 w' w.heap.size (.slice a n.length c) n)∧Fz w w':=by
 have H:=Hi h;have HFB:=Hi Fb;have HR0:=Hi hr0;obtain⟨a,cap,rfl,-⟩:=h
 clear hr0 Fb;go_enter Tryz.func21,Tryz.ntmps21
 go_wp2_with fail
 go_loopg [3,4] n.length (fun g u i wr=>∃ (j:Nat) (au:Option Addr) (cu:Nat),g=n.length-j∧j≤n.length∧u=.slice au j cu∧i=.int .i64 j∧FRow (fun k=>wb.heap.size≤k∧k<w.heap.size) 24 wr w.heap.size (.slice au j cu) (n.take j)∧Fz w wr)
 case atStart=>exact⟨0,none,0,rfl,Nat.zero_le _,rfl,rfl,FRow.nil _ _ _ _,Fr.refl _⟩
 case round=>
  obtain⟨j,au,cu,hg,hj,rfl,rfl,hrow,F⟩:=hrel
  have HG:=Hi hg;have HRW:=Hi hrow;have HF:=Hi F;have hml:(n.take j).length=j:=by rw[List.length_take];omega
  have HML:=Hi hml;clear hg hrow hml;by_cases hjl:j<n.length
  ·have q1:(j:Int)<(n.length:Int):=by omega
   obtain⟨a0,cap0,he,_,_,hx⟩:=H.out
   simp only[Value.slice.injEq,true_and]at he
   obtain⟨rfl,rfl⟩:=he
   obtain⟨b,off,rfl,hy⟩:=hx (by omega)
   obtain⟨r,hr⟩:∃ r,n[j]? = some r:=⟨_,List.getElem?_eq_getElem hjl⟩
   obtain⟨x,e0,hA⟩:=hy j r hr
   have hrl:=HR0.out r (List.mem_of_getElem? hr);have HE0:=Hi e0;have HMT:=Hi (show n.take (j+1)=n.take j++[r] from by rw[List.take_add_one,hr];rfl);have HA:=Hi hA;obtain⟨ar,cr,rfl,-⟩:=hA
   have r1:(0:Int)≤(j:Int):=by omega
   have r2:(j:Int)<(n.length:Int):=by omega
   clear hx hy hr e0 F;obtain⟨wo,hwo⟩:∃ wo:World,wo=wr:=⟨_,rfl⟩
   obtain rfl:=hwo
   go_wp2_with fail
   go_loopg [5,6] r.length (fun g u k wr=>∃ (i:Nat) (a2:Option Addr) (c2:Nat),g=r.length-i∧i≤r.length∧u=.slice a2 i c2∧k=.int .i64 i∧ARow 146 wb wr wo.heap.size (.slice a2 i c2) (r.take i)∧Fz wo wr)
   case atStart=>exact⟨0,none,0,rfl,Nat.zero_le _,rfl,rfl,ARow.nil _ _ _ _,Fr.refl _⟩
   case round=>
    obtain⟨i,a2,c2,hg,hi,rfl,rfl,hrow2,F2⟩:=hrel
    have HG2:=Hi hg;have HRW2:=Hi hrow2;have HF2:=Hi F2;have hml:(r.take i).length=i:=by rw[List.length_take];omega
    have HML2:=Hi hml;have e0:=((HFB.out.trans HF.out).trans F2).cell HE0.out (fun h=>h);clear hg hrow2 hml;by_cases hil:i<r.length
    ·have q2:(i:Int)<(r.length:Int):=by omega
     obtain⟨a1,cap1,he,_,_,hx⟩:=HA.out
     simp only[Value.slice.injEq,true_and]at he
     obtain⟨rfl,rfl⟩:=he
     obtain⟨b1,o1,rfl,hy⟩:=hx (by omega)
     obtain⟨p,hp⟩:∃ p,r[i]? = some p:=⟨_,List.getElem?_eq_getElem hil⟩
     obtain⟨x,y,e1,e2,hpx,hpy⟩:=hy i p hp
     obtain⟨ax,cx,rfl,-⟩:=Ints.form hpx
     obtain⟨ay,cy,rfl,-⟩:=Vals.form hpy
     have e1':wb.cell? ⟨b1,o1+i*2,none⟩=some (.slice ax p.o.length cx):=by rw[Nat.mul_comm];exact e1
     have e2':wb.cell? ⟨b1,o1+i*2+1,none⟩=some (.slice ay p.b.length cy):=by rw[Nat.mul_comm];exact e2
     have HMT2:=Hi (show r.take (i+1)=r.take i++[p] from by rw[List.take_add_one,hp];rfl);have s1:(0:Int)≤(i:Int):=by omega
     obtain⟨wa,hwa⟩:∃ wa,wa=wr.drew.alloc (.cells #[.slice ax p.o.length cx,.slice ay p.b.length cy] 146):=⟨_,rfl⟩
     have Fa:Fz wr wa:=by rw[hwa];exact(Fr.refl wr).drew.alloc _
     have BX:Blk wa wr.heap.size 146 #[.slice ax p.o.length cx,.slice ay p.b.length cy]:=by rw[hwa];exact Blk.new wr.drew _ _
     obtain⟨a7,c7,w7,hrun,hrow7,F7⟩:=ARow.add Tryz.underlying24 info146 (HRW2.out.fr Fa (fun _ _ h=>h)) (HF2.out.trans Fa).size (Fr.refl wa) wr.heap.size BX p hpx hpy (by rw[HML2.out];omega)
     have G7:Fz wo w7:=(HF2.out.trans Fa).trans' F7 (fun i hi e=>absurd hi (by have:=(HRW2.out.keep i e).1;omega));have HG7:=Hi G7;rw[HML2.out]at hrun hrow7
     have HRUN:=Hi hrun;have HROW7:=Hi hrow7;have hS:∀ w',Fz wb w'→w'.cell? ⟨b,off+j,none⟩=some (.slice (some ⟨b1,o1,none⟩) r.length cr)∧w'.cell? ⟨b1,o1+i*2,none⟩=some (.slice ax p.o.length cx)∧w'.cell? ⟨b1,o1+i*2+1,none⟩=some (.slice ay p.b.length cy):=fun w' f=>⟨f.cell HE0.out (fun h=>h),f.cell e1' (fun h=>h),f.cell e2' (fun h=>h)⟩
     have HC0:=Hi (hS wr.drew (((HFB.out.trans HF.out).trans HF2.out).drew));have HCa:=Hi (hS wa (((HFB.out.trans HF.out).trans HF2.out).trans Fa));have HC7:=Hi (hS w7 ((HFB.out.trans HF.out).trans G7));rw[hwa]at HCa HRUN
     clear hrun hrow7 F7 G7 BX Fa hwa hx hy hp e1 e2 e1' e2' hpx hpy hS;go_upto_region 9 with fail
     go_region_held3 (fun w'=>w'.cell? ⟨b,off+j,none⟩=some (.slice (some ⟨b1,o1,none⟩) r.length cr)∧w'.cell? ⟨b1,o1+i*2,none⟩=some (.slice ax p.o.length cx)∧w'.cell? ⟨b1,o1+i*2+1,none⟩=some (.slice ay p.b.length cy)) (first|exact HC0.out|exact HCa.out|exact HC7.out) (first
      |(refine step_append_run (by rfl) (.tmp 22) (.tmp 40) 24 (by rfl) _ w7 (by exact HRUN.out) ?_)
      |fail)
     all_goals
      go_wp2_with fail
      go_roundg (r.length-(i+1))
      case measure=>rw[HG2.out];omega
      case rel=>exact⟨i+1,a7,c7,rfl,by omega,rfl,by go_num,by rw[HMT2.out];exact HROW7.out,HG7.out⟩
    ·obtain rfl:i=r.length:=by omega
     have hrow2:=HRW2.out;rw[List.take_length]at hrow2
     have hkp:=HRW.out.keep;have hsw:=HFB.out.size;have hsf:=HF.out.size;have hk2:Kept (fun W=>Attrs W (.slice a2 r.length c2) r) (fun k=>(Value.slice au j cu).ownBlock=some k∨(wb.heap.size≤k∧k<w.heap.size)) wr:=hrow2.kept ((HFB.out.trans HF.out).trans HF2.out) _ (fun k e=>by
      rcases e with e|e
      ·have:=hkp k e;omega
      ·omega)
     obtain⟨a7,c7,w7,hrun,hrow7,F7⟩:=FRow.add Tryz.underlying22 info24 (HRW.out.old HF2.out) (HF.out.trans HF2.out).size ((Fr.refl wr).alloc (.cells #[.slice a2 r.length c2] 24)) wr.heap.size _ r (Blk.new wr 24 #[.slice a2 r.length c2]) rfl hk2 (by rw[HML.out];omega)
     have HG7:=Hi ((HF.out.trans HF2.out).trans' F7 (fun i hi e=>absurd hi (by have:=(hkp i e).1;omega)));rw[HML.out]at hrun hrow7
     have HRUN:=Hi hrun;have HROW7:=Hi hrow7;clear hrun hrow7 F7 hk2 hkp hrow2;go_wp2_with (at_builtin;refine wpList_append_run (by rfl) (.tmp 42) (.tmp 44) 22 (by rfl) _ w7 (by exact HRUN.out) ?_)
     go_roundg (n.length-(j+1))
     case measure=>rw[HG.out];omega
     case rel=>exact⟨j+1,a7,c7,rfl,by omega,rfl,by go_num,by rw[HMT.out];exact HROW7.out,HG7.out⟩
  ·obtain rfl:j=n.length:=by omega
   have hrow:=HRW.out;rw[List.take_length]at hrow
   have HROW:=Hi hrow;clear hrow;go_wp2_with fail
   go_ret;exact⟨⟨au,cu,rfl,HROW.out⟩,F⟩
open Go Go.RowKit Go.Q Go.ChangeShapes Go.WideShapes Go.ChangeAt
theorem three_of {α:Type}{l:List α}(h:l.length=3):∃ a b c,l=[a,b,c]:=by
 match l,h with
 | [a,b,c],_=>exact⟨a,b,c,rfl⟩
section
variable {H:Type}{enc:TypeId × Value→H}{w:World}{base fuel:Nat}{spare:Nat→Bool}{held:Bool}{cs:List Value}{x:DataW H × List MemPlace}
theorem rc123:Tryz.prog.cellsOf 123=3:=by kernel_rfl
theorem rc22:Tryz.prog.cellsOf 22=1:=by kernel_rfl
theorem rd_gen (h:DataW.trod enc Tryz.prog w base spare held fuel 123 cs=some x):∃ g:Gen,RGen w cs g:=by
 obtain⟨y0,y1,y2,n,_,hl,h0,h1,h2⟩:=Go.Deep.trod_struct3 Tryz.underlying123 h
 rw[rc123]at hl
 obtain⟨c0,c1,c2,rfl⟩:=three_of hl
 have g0:DataW.trod enc Tryz.prog w base spare held n 3 [c0]=some y0:=by rw[←show ([c0,c1,c2].drop 0).take (Tryz.prog.cellsOf 3)=[c0] from by rw[rc3];rfl];exact h0
 have g1:DataW.trod enc Tryz.prog w base spare held n 32 [c1]=some y1:=by rw[←show ([c0,c1,c2].drop 1).take (Tryz.prog.cellsOf 32)=[c1] from by rw[rc32];rfl];exact h1
 have g2:DataW.trod enc Tryz.prog w base spare held n 22 [c2]=some y2:=by rw[←show ([c0,c1,c2].drop 2).take (Tryz.prog.cellsOf 22)=[c2] from by rw[rc22];rfl];exact h2
 obtain⟨k,e,-,-⟩:=DataW.trod_int Tryz.underlying3 g0
 obtain⟨v,b,e1,hb⟩:=rd_bytes g1
 obtain⟨u,m,e2,hm⟩:=rd_name g2
 simp only[List.cons.injEq,and_true]at e e1 e2
 subst e;subst e1;subst e2;exact⟨⟨k,b,m⟩,c1,c2,rfl,hb,hm⟩
theorem rd_gens (h:DataW.trod enc Tryz.prog w base spare held fuel 23 cs=some x):∃ v l,cs=[v]∧Gens w v l:=by
 obtain⟨a,cap,l,rfl,h1,h2,h3⟩:=rd_slice Tryz.underlying23 rc123 (by decide) (fun (g:Gen) ds=>RGen w ds g) (fun n ds y hy _=>rd_gen hy) h
 refine⟨_,l,rfl,a,cap,rfl,h1,h2,fun h0=>?_⟩
 obtain⟨b,o,rfl,hy⟩:=h3 h0
 refine⟨b,o,rfl,fun i g hg=>?_⟩
 obtain⟨ds,hd,hr,hj⟩:=hy i g hg
 exact⟨ds,hd,hj,hr⟩
end
section
variable {H:Type}{enc:TypeId × Value→H}{w:World}{base fuel:Nat}{spare:Nat→Bool}{held:Bool}{cs:List Value}{x:DataW H × List MemPlace}
theorem rc4:Tryz.prog.cellsOf 4=1:=by kernel_rfl
theorem rc34:Tryz.prog.cellsOf 34=2:=by kernel_rfl
theorem rc213:Tryz.prog.cellsOf 213=3:=by kernel_rfl
theorem rc80:Tryz.prog.cellsOf 80=1:=by kernel_rfl
theorem rc77:Tryz.prog.cellsOf 77=2:=by kernel_rfl
theorem rc79:Tryz.prog.cellsOf 79=3:=by kernel_rfl
theorem rc82:Tryz.prog.cellsOf 82=10:=by kernel_rfl
theorem rd_num (h:DataW.trod enc Tryz.prog w base spare held fuel 34 cs=some x):∃ b v l,cs=[.bool b,v]∧Bytes w v l:=by
 obtain⟨y0,y1,n,_,hl,h0,h1⟩:=Go.ChangeShapes.trod_struct2 Tryz.underlying34 h
 rw[rc34]at hl
 obtain⟨c0,c1,rfl⟩:=two_of hl
 have g0:DataW.trod enc Tryz.prog w base spare held n 4 [c0]=some y0:=by rw[←show ([c0,c1].drop 0).take (Tryz.prog.cellsOf 4)=[c0] from by rw[rc4];rfl];exact h0
 have g1:DataW.trod enc Tryz.prog w base spare held n 32 [c1]=some y1:=by rw[←show ([c0,c1].drop 1).take (Tryz.prog.cellsOf 32)=[c1] from by rw[rc32];rfl];exact h1
 obtain⟨b,e,-⟩:=DataW.trod_bool Tryz.underlying4 g0
 obtain⟨v,l,e1,hb⟩:=rd_bytes g1
 simp only[List.cons.injEq,and_true]at e e1
 subst e;subst e1;exact⟨b,c1,l,rfl,hb⟩
theorem rd_ext (h:DataW.trod enc Tryz.prog w base spare held fuel 213 cs=some x):∃ y:Ext,RExt w cs y:=by
 obtain⟨y0,y1,y2,n,_,hl,h0,h1,h2⟩:=Go.Deep.trod_struct3 Tryz.underlying213 h
 rw[rc213]at hl
 obtain⟨c0,c1,c2,rfl⟩:=three_of hl
 have g0:DataW.trod enc Tryz.prog w base spare held n 27 [c0]=some y0:=by rw[←show ([c0,c1,c2].drop 0).take (Tryz.prog.cellsOf 27)=[c0] from by rw[rc27];rfl];exact h0
 have g1:DataW.trod enc Tryz.prog w base spare held n 4 [c1]=some y1:=by rw[←show ([c0,c1,c2].drop 1).take (Tryz.prog.cellsOf 4)=[c1] from by rw[rc4];rfl];exact h1
 have g2:DataW.trod enc Tryz.prog w base spare held n 32 [c2]=some y2:=by rw[←show ([c0,c1,c2].drop 2).take (Tryz.prog.cellsOf 32)=[c2] from by rw[rc32];rfl];exact h2
 obtain⟨v,o,e0,ho⟩:=rd_ints g0
 obtain⟨b,e1,-⟩:=DataW.trod_bool Tryz.underlying4 g1
 obtain⟨u,l,e2,hb⟩:=rd_bytes g2
 simp only[List.cons.injEq,and_true]at e0 e1 e2
 subst e0;subst e1;subst e2;exact⟨⟨o,b,l⟩,c0,c2,rfl,ho,hb⟩
theorem rd_exts (h:DataW.trod enc Tryz.prog w base spare held fuel 80 cs=some x):∃ v l,cs=[v]∧Exts w v l:=by
 obtain⟨a,cap,l,rfl,h1,h2,h3⟩:=rd_slice Tryz.underlying80 rc213 (by decide) (fun (g:Ext) ds=>RExt w ds g) (fun n ds y hy _=>rd_ext hy) h
 refine⟨_,l,rfl,a,cap,rfl,h1,h2,fun h0=>?_⟩
 obtain⟨b,o,rfl,hy⟩:=h3 h0
 refine⟨b,o,rfl,fun i g hg=>?_⟩
 obtain⟨ds,hd,hr,hj⟩:=hy i g hg
 exact⟨ds,hd,hj,hr⟩
theorem rd_alg (h:DataW.trod enc Tryz.prog w base spare held fuel 77 cs=some x):∃ v u o b,cs=[v,u]∧Ints w v o∧Bytes w u b:=by
 obtain⟨y0,y1,n,_,hl,h0,h1⟩:=Go.ChangeShapes.trod_struct2 Tryz.underlying77 h
 rw[rc77]at hl
 obtain⟨c0,c1,rfl⟩:=two_of hl
 have g0:DataW.trod enc Tryz.prog w base spare held n 27 [c0]=some y0:=by rw[←show ([c0,c1].drop 0).take (Tryz.prog.cellsOf 27)=[c0] from by rw[rc27];rfl];exact h0
 have g1:DataW.trod enc Tryz.prog w base spare held n 32 [c1]=some y1:=by rw[←show ([c0,c1].drop 1).take (Tryz.prog.cellsOf 32)=[c1] from by rw[rc32];rfl];exact h1
 obtain⟨v,o,e0,ho⟩:=rd_ints g0
 obtain⟨u,l,e1,hb⟩:=rd_bytes g1
 simp only[List.cons.injEq,and_true]at e0 e1
 subst e0;subst e1;exact⟨c0,c1,o,l,rfl,ho,hb⟩
theorem rd_pub (h:DataW.trod enc Tryz.prog w base spare held fuel 79 cs=some x):∃ v u k o b m,cs=[v,u,k]∧Ints w v o∧Bytes w u b∧Bytes w k m:=by
 obtain⟨y0,y1,n,_,hl,h0,h1⟩:=Go.ChangeShapes.trod_struct2 Tryz.underlying79 h
 rw[rc79]at hl
 obtain⟨c0,c1,c2,rfl⟩:=three_of hl
 have g0:DataW.trod enc Tryz.prog w base spare held n 77 [c0,c1]=some y0:=by rw[←show ([c0,c1,c2].drop 0).take (Tryz.prog.cellsOf 77)=[c0,c1] from by rw[rc77];rfl];exact h0
 have g1:DataW.trod enc Tryz.prog w base spare held n 32 [c2]=some y1:=by rw[←show ([c0,c1,c2].drop 2).take (Tryz.prog.cellsOf 32)=[c2] from by rw[rc32];rfl];exact h1
 obtain⟨v,u,o,b,e0,ho,hb⟩:=rd_alg g0
 obtain⟨k,m,e1,hk⟩:=rd_bytes g1
 simp only[List.cons.injEq,and_true]at e0 e1
 obtain⟨rfl,rfl⟩:=e0
 subst e1;exact⟨c0,c1,c2,o,b,m,rfl,ho,hb,hk⟩
theorem rd_cert (h:DataW.trod enc Tryz.prog w base spare held fuel 82 cs=some x):∃ (y:CertT) (vs vi vj va vp vk ve:Value),cs=[.bool y.below,vs,vi,vj,.int .i64 y.t0,.int .i64 y.t1,va,vp,vk,ve]∧CertIn w y vs vi vj va vp vk ve:=by
 obtain⟨y0,y1,y2,y3,y4,y5,y6,n,hl,h0,h1,h2,h3,h4,h5,h6⟩:=trod_struct7 Tryz.underlying82 h
 rw[rc82]at hl
 obtain⟨c0,c1,c2,c3,c4,c5,c6,c7,c8,c9,rfl⟩:=ten_of hl
 have g0:DataW.trod enc Tryz.prog w base spare held n 34 [c0,c1]=some y0:=by rw[←show ([c0,c1,c2,c3,c4,c5,c6,c7,c8,c9].drop 0).take (Tryz.prog.cellsOf 34)=[c0,c1] from by rw[rc34];rfl];exact h0
 have g1:DataW.trod enc Tryz.prog w base spare held n 22 [c2]=some y1:=by rw[←show ([c0,c1,c2,c3,c4,c5,c6,c7,c8,c9].drop 2).take (Tryz.prog.cellsOf 22)=[c2] from by rw[rc22];rfl];exact h1
 have g2:DataW.trod enc Tryz.prog w base spare held n 22 [c3]=some y2:=by rw[←show ([c0,c1,c2,c3,c4,c5,c6,c7,c8,c9].drop 3).take (Tryz.prog.cellsOf 22)=[c3] from by rw[rc22];rfl];exact h2
 have g3:DataW.trod enc Tryz.prog w base spare held n 3 [c4]=some y3:=by rw[←show ([c0,c1,c2,c3,c4,c5,c6,c7,c8,c9].drop 4).take (Tryz.prog.cellsOf 3)=[c4] from by rw[rc3];rfl];exact h3
 have g4:DataW.trod enc Tryz.prog w base spare held n 3 [c5]=some y4:=by rw[←show ([c0,c1,c2,c3,c4,c5,c6,c7,c8,c9].drop 5).take (Tryz.prog.cellsOf 3)=[c5] from by rw[rc3];rfl];exact h4
 have g5:DataW.trod enc Tryz.prog w base spare held n 79 [c6,c7,c8]=some y5:=by rw[←show ([c0,c1,c2,c3,c4,c5,c6,c7,c8,c9].drop 6).take (Tryz.prog.cellsOf 79)=[c6,c7,c8] from by rw[rc79];rfl];exact h5
 have g6:DataW.trod enc Tryz.prog w base spare held n 80 [c9]=some y6:=by rw[←show ([c0,c1,c2,c3,c4,c5,c6,c7,c8,c9].drop 9).take (Tryz.prog.cellsOf 80)=[c9] from by rw[rc80];rfl];exact h6
 obtain⟨b,vs,sz,e0,hs⟩:=rd_num g0
 obtain⟨vi,ni,e1,hi⟩:=rd_name g1
 obtain⟨vj,nj,e2,hj⟩:=rd_name g2
 obtain⟨t0,e3,-,-⟩:=DataW.trod_int Tryz.underlying3 g3
 obtain⟨t1,e4,-,-⟩:=DataW.trod_int Tryz.underlying3 g4
 obtain⟨va,vp,vk,o,p,k,e5,ha,hp,hk⟩:=rd_pub g5
 obtain⟨ve,ex,e6,he⟩:=rd_exts g6
 simp only[List.cons.injEq,and_true]at e0 e1 e2 e3 e4 e5 e6
 obtain⟨rfl,rfl⟩:=e0
 obtain⟨rfl,rfl,rfl⟩:=e5
 subst e1;subst e2;subst e3;subst e4;subst e6;exact⟨⟨b,sz,ni,nj,t0,t1,o,p,k,ex⟩,c1,c2,c3,c6,c7,c8,c9,rfl,hs,hi,hj,ha,hp,hk,he⟩
end
end Go.Proofs.YteidmhkobmddiaaGreatDoor
