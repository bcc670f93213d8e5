/-
  Merged by program: XR04 XR14W XR01 XR14S XNRow XNClone XGAll XNSort XNSheet XNSheet2 XNSheet3 XNSheet4 XNWrite XR14B XNbLaw XMany XGenSpec XNsLaw.
-/
import Derived.Test.YtehlipgmkinfbaaGreatDoorP0al
import Derived.Deep.CutRange
import Derived.Deep.Cut
set_option linter.unusedSimpArgs false
set_option maxRecDepth 100000
set_option maxHeartbeats 8000000
namespace Go.Q
open Go Go.RowKit
theorem cmpS_drop {a b:List UInt8}{j:Nat}{x y:UInt8}(hx:a[j]? = some x)(hy:b[j]? = some y):cmpS (a.drop j) (b.drop j)=if x.toNat<y.toNat then -1 else if y.toNat<x.toNat then 1 else cmpS (a.drop (j+1)) (b.drop (j+1)):=by
 have h1:a.drop j=x::a.drop (j+1):=by
  obtain⟨h,rfl⟩:=List.getElem?_eq_some_iff.1 hx
  exact List.drop_eq_getElem_cons h
 have h2:b.drop j=y::b.drop (j+1):=by
  obtain⟨h,rfl⟩:=List.getElem?_eq_some_iff.1 hy
  exact List.drop_eq_getElem_cons h
 rw[h1,h2]
 simp only[cmpS]
 by_cases h:x=y
 ·subst h;simp
 ·rw[if_neg h]
  by_cases h3:x.toNat<y.toNat
  ·rw[if_pos h3,if_pos h3]
  ·rw[if_neg h3,if_neg h3,if_pos]
   rcases Nat.lt_or_ge y.toNat x.toNat with h4|h4
   ·exact h4
   ·exact absurd (UInt8.toNat_inj.1 (by omega)) h
theorem cmpS_zero:∀ (s t:List UInt8),cmpS s t=0↔s=t
 | [],[]=>by simp[cmpS]
 | [],_::_=>by simp[cmpS]
 |_::_,[]=>by simp[cmpS]
 |x::s,y::t=>by
  have ih:=cmpS_zero s t;unfold cmpS;split
  ·rename_i h;subst h;rw[ih];simp
  ·rename_i h
   split<;>simp[h]
def ARow (t:TypeId)(w wr:World)(base:Nat)(v:Value)(l:List Part):Prop:=
 ∃ cs:List Value,wr.ownsRow base t 2 v l.length cs∧∀ (i:Nat) (p:Part),l[i]? = some p→∃ x y,cs[2*i]? = some x∧cs[2*i+1]? = some y∧Vals w x (intCells p.o)∧Bytes w y p.b
theorem ARow.at {t:TypeId}{w wr:World}{base:Nat}{v:Value}{l:List Part}(h:ARow t w wr base v l)(F:Fz w wr):Attrs wr v l:=by
 obtain⟨cs,⟨h1,h2⟩,h3⟩:=h
 rcases h2 with ⟨rfl,h0⟩|⟨g,cap,cur,rfl,hg,hh,hnc,hcm,hcs,htk⟩
 ·exact⟨none,0,by rw[h0],by omega,by unfold maxLen;omega,fun h=>by omega⟩
 ·refine⟨_,cap,rfl,hnc,hcm,fun _=>⟨g,0,rfl,fun i p hp=>?_⟩⟩
  obtain⟨x,y,e1,e2,e3,e4⟩:=h3 i p hp
  have hi:=(List.getElem?_eq_some_iff.1 hp).1;have gc:∀ k,k<l.length*2→wr.cell? ⟨g,0+k,none⟩=cs[k]?:=fun k hk=>by
   have:=congrArg (fun z:List Value=>z[k]?) htk;simp only[List.getElem?_take,if_pos hk,Array.getElem?_toList]at this
   rw[Nat.zero_add]
   simp only[World.cell?,hh]
   exact this
  refine⟨x,y,?_,?_,e3.old F,e4.old F⟩
  ·rw[gc (2*i) (by omega)];exact e1
  ·rw[Nat.add_assoc,gc (2*i+1) (by omega)];exact e2
theorem ARow.nil (t:TypeId)(w wr:World)(base:Nat):ARow t w wr base (.slice none 0 0) []:=⟨[],⟨rfl,.inl ⟨rfl,rfl⟩⟩,fun i p hp=>by simp at hp⟩
theorem ARow.shape {t:TypeId}{w wr:World}{base:Nat}{v:Value}{l:List Part}(h:ARow t w wr base v l):∃ a c,v=.slice a l.length c:=by
 obtain⟨us,h1,-⟩:=h
 obtain⟨a,m,c,rfl,rfl⟩:=own_shape h1
 exact⟨a,c,rfl⟩
theorem ARow.keep {t:TypeId}{w wr:World}{base:Nat}{v:Value}{l:List Part}(h:ARow t w wr base v l):∀ k,v.ownBlock=some k→base≤k∧k<wr.heap.size:=fun k hk=>by
 obtain⟨us,h1,-⟩:=h
 exact h1.lt k hk
theorem ARow.fr {t:TypeId}{S:Nat→Prop}{w wr w':World}{base:Nat}{v:Value}{l:List Part}(h:ARow t w wr base v l)(f:Fr S wr w')(hS:∀ k,v.ownBlock=some k→¬S k):ARow t w w' base v l:=by
 obtain⟨us,h1,h2⟩:=h
 exact⟨us,Go.Proofs.YtehlipgmkinfbaaGreatDoor.ownsRow_fr h1 f hS,h2⟩
theorem ARow.kept {t:TypeId}{w wr:World}{base:Nat}{v:Value}{l:List Part}(h:ARow t w wr base v l)(F:Fz w wr)(K:Nat→Prop)(hK:∀ k,K k→w.heap.size≤k∧k<base):Kept (fun W=>Attrs W v l) K wr:=fun W f=>
 (h.fr f (fun k hk h1=>by have:=(h.keep k hk).1;have:=(hK k h1).2;omega)).at (F.trans' f (fun i hi h1=>by have:=(hK i h1).1;omega))
theorem ARow.add {P:Program}{t s:TypeId}(hu0:P.underlying s=some (.slice t))(hinf:Info P t (.agg #[.slice none 0 0,.slice none 0 0]) 2 48){w wr wa:World}{base:Nat}{v x y:Value}{l:List Part}(h:ARow t w wr base v l)(hb:base≤wr.heap.size)(F1:Fz wr wa)(g:Nat)(BX:Blk wa g t #[x,y])(p:Part)(hx:Ints w x p.o)(hy:Bytes w y p.b)(hn:l.length≤109951162777) :
  ∃ a c w',(Builtin.append_ #[s,s] s #[v,.slice (some ⟨g,0,none⟩) 1 1]).run P wa=.ok (.slice a (l.length+1) c) w'∧ARow t w w' base (.slice a (l.length+1) c) (l++[p])∧Fr (fun k=>v.ownBlock=some k) wr w':=by
 obtain⟨cs,h1,h2⟩:=h
 have hcl:cs.length=l.length*2:=h1.1;obtain⟨ax,cx,rfl,-⟩:=Ints.form hx
 obtain⟨ay,cy,rfl,-⟩:=Vals.form hy
 obtain⟨a,c,w',hrun,h4,F2,h5⟩:=add_gen hu0 hinf rfl (by decide) (by decide) h1 hb F1 g [.slice ax p.o.length cx,.slice ay p.b.length cy] rfl BX (by intro u hu;simp at hu;rcases hu with rfl|rfl<;>rfl) hn
 refine⟨a,c,w',hrun,⟨cs++[.slice ax p.o.length cx,.slice ay p.b.length cy],by rw[List.length_append];exact h4,fun i q hq=>?_⟩,F2⟩
 rcases Nat.lt_or_ge i l.length with hi|hi
 ·rw[List.getElem?_append_left hi]at hq
  obtain⟨x,y,e1,e2,e3⟩:=h2 i q hq
  exact⟨x,y,by rw[List.getElem?_append_left (by omega)];exact e1,by rw[List.getElem?_append_left (by omega)];exact e2,e3⟩
 ·obtain rfl:i=l.length:=by
   have:=(List.getElem?_eq_some_iff.1 hq).1;simp at this
   omega
  rw[List.getElem?_append_right (Nat.le_refl _)]at hq
  simp at hq
  subst hq;refine⟨_,_,?_,?_,hx,hy⟩
  ·rw[List.getElem?_append_right (by omega),show 2*l.length-cs.length=0 from by omega];rfl
  ·rw[List.getElem?_append_right (by omega),show 2*l.length+1-cs.length=1 from by omega];rfl
def NRow (t:TypeId)(w:World)(base:Nat)(v:Value)(n:List (List Part)):Prop:=
 ∃ us:List Value,w.ownsRow base t 1 v n.length us∧us.length=n.length∧∀ (i:Nat) (u:Value) (r:List Part),us[i]? = some u→n[i]? = some r→Kept (fun W=>Attrs W u r) (fun k=>v.ownBlock=some k) w
theorem NRow.at {t:TypeId}{w:World}{base:Nat}{v:Value}{n:List (List Part)}(h:NRow t w base v n):NameAt w v n:=by
 obtain⟨us,h1,h2,h3⟩:=h
 obtain⟨a,cap,he,hc,hm,hx⟩:=(Vals.of_own h1).1
 rw[h2]at he hc hx
 refine⟨a,cap,he,hc,hm,fun h0=>?_⟩
 obtain⟨b,o,rfl,hy⟩:=hx h0
 refine⟨b,o,rfl,fun i r hr=>?_⟩
 have hi:i<us.length:=by rw[h2];exact(List.getElem?_eq_some_iff.1 hr).1
 exact⟨us[i],hy i _ (List.getElem?_eq_getElem hi),(h3 i _ r (List.getElem?_eq_getElem hi) hr).now⟩
theorem NRow.old {t:TypeId}{w w':World}{base:Nat}{v:Value}{n:List (List Part)}(h:NRow t w base v n)(f:Fz w w'):NRow t w' base v n:=by
 obtain⟨us,h1,h2,h3⟩:=h
 exact⟨us,Go.Proofs.YtehlipgmkinfbaaGreatDoor.ownsRow_fr h1 f (fun _ _ h=>h),h2,fun i u r hu hr=>(h3 i u r hu hr).old f⟩
theorem NRow.keep {t:TypeId}{w:World}{base:Nat}{v:Value}{n:List (List Part)}(h:NRow t w base v n):∀ k,v.ownBlock=some k→base≤k∧k<w.heap.size:=by
 obtain⟨us,h1,-⟩:=h
 exact(Vals.of_own h1).2
theorem NRow.shape {t:TypeId}{w:World}{base:Nat}{v:Value}{n:List (List Part)}(h:NRow t w base v n):∃ a c,v=.slice a n.length c:=by
 obtain⟨us,h1,-⟩:=h
 obtain⟨a,m,c,rfl,rfl⟩:=own_shape h1
 exact⟨a,c,rfl⟩
theorem NRow.nil (t:TypeId)(w:World)(base:Nat):NRow t w base (.slice none 0 0) []:=⟨[],⟨rfl,.inl ⟨rfl,rfl⟩⟩,rfl,fun i u r h=>by simp at h⟩
theorem NRow.add {P:Program}{t s:TypeId}(hu0:P.underlying s=some (.slice t))(hinf:Info P t (.slice none 0 0) 1 24){w wa:World}{base:Nat}{v:Value}{n:List (List Part)}(h:NRow t w base v n)(hb:base≤w.heap.size)(F1:Fz w wa)(g:Nat)(u:Value)(r:List Part)(BX:Blk wa g t #[u])(hu1:u.oneCell'=true)(hu:Kept (fun W=>Attrs W u r) (fun k=>v.ownBlock=some k) w)(hn:n.length≤109951162777) :
  ∃ a c w',(Builtin.append_ #[s,s] s #[v,.slice (some ⟨g,0,none⟩) 1 1]).run P wa=.ok (.slice a (n.length+1) c) w'∧NRow t w' base (.slice a (n.length+1) c) (n++[r])∧Fr (fun k=>v.ownBlock=some k) w w':=by
 obtain⟨us,h1,h2,h3⟩:=h
 obtain⟨a,c,w',hrun,h4,F2,h5⟩:=add_gen hu0 hinf rfl (by decide) (by decide) h1 hb F1 g [u] rfl BX (by simpa using hu1) hn
 refine⟨a,c,w',hrun,⟨us++[u],?_,by simp[h2],fun i x s hx hs=>?_⟩,F2⟩
 ·rw[List.length_append]
  exact h4
 ·rcases Nat.lt_or_ge i us.length with hi|hi
  ·rw[List.getElem?_append_left hi]at hx
   rw[List.getElem?_append_left (by omega)]at hs
   exact(h3 i x s hx hs).step F2 (fun _ _ h=>h) h5
  ·obtain rfl:i=us.length:=by
    have:=(List.getElem?_eq_some_iff.1 hx).1;simp at this
    omega
   rw[List.getElem?_append_right (Nat.le_refl _)]at hx
   rw[List.getElem?_append_right (by omega)]at hs
   simp at hx
   simp[h2]at hs
   subst hx;subst hs;exact hu.step F2 (fun _ _ h=>h) h5
section
variable {P:Program}
theorem append_none {w:World}{base n:Nat}{t e:TypeId}{v:Value}{xs:List Value}{z:Value}{size bytes:Nat}(hu:P.underlying t=some (.slice e))(hinf:Info P e z size bytes)(hown:w.ownsRow base e size v n xs)(c:Nat) :
  (Builtin.append_ #[t,t] t #[v,.slice none 0 c]).run P w=.ok v w:=by
 obtain⟨i0,hi0,hz0,hz1,hz2⟩:=info_parts hinf
 rcases hown.2 with ⟨rfl,rfl⟩|⟨g,cap,cur,rfl,_,_,hnc,_⟩
 ·simp[Builtin.append_,run_underlying hu,sizeOf,typeInfo,hi0,Builtin.lenOf,Builtin.firstCells]
 ·simp[Builtin.append_,run_underlying hu,sizeOf,typeInfo,hi0,Builtin.lenOf,Builtin.firstCells,hnc,storeCells]
theorem append_vals {w:World}{base n:Nat}{t e:TypeId}{v y:Value}{xs news:List Value}{z:Value}{bytes:Nat}(hu:P.underlying t=some (.slice e))(hinf:Info P e z 1 bytes)(hzs:z.cells.size=1)(hby:bytes≤128)
  (hown:w.ownsRow base e 1 v n xs) (hb:base≤w.heap.size) (hy:Vals w y news) (h1:∀ u∈news,u.oneCell'=true) (hsz:n+news.length≤1099511627776) :
  ∃ a' c' w',(Builtin.append_ #[t,t] t #[v,y]).run P w=.ok (.slice a' (n+news.length) c') w'∧w'.ownsRow base e 1 (.slice a' (n+news.length) c') (n+news.length) (xs++news)∧Fr (fun k=>v.ownBlock=some k) w w'∧(∀ k,(Value.slice a' (n+news.length) c').ownBlock=some k→v.ownBlock=some k∨w.heap.size≤k):=by
 obtain⟨a,cap,rfl,hc,hm,hx⟩:=hy
 cases a with
 |none=>
  have h0:news=[]:=by
   cases news with
   |nil=>rfl
   |cons u s=>obtain⟨b,o,e,-⟩:=hx (by simp);cases e
  subst h0;obtain⟨av,m,cv,rfl,rfl⟩:=own_shape hown
  exact⟨av,cv,w,append_none hu hinf hown cap,by simpa using hown,Fr.refl _,fun k hk=>.inl hk⟩
 |some ad=>
  refine append_gen hu hinf hzs (by decide) hby hown hb ad news.length cap news (by omega) (fun j u hj=>?_) h1 hsz;have hj2:=(List.getElem?_eq_some_iff.1 hj).1;obtain⟨b,o,e,hy⟩:=hx (by omega)
  simp only[Option.some.injEq]at e
  subst e;rw[show (⟨b,o,none⟩:Addr).add j=⟨b,o+j,none⟩ from by unfold Addr.add;split<;>simp_all]
  exact hy j u hj
end
theorem step_of {u:Value}{r:List Part}{K:Nat→Prop}{w:World}(h:Kept (fun W=>Attrs W u r) K w):Kept (fun W=>RStep W [u] r) K w:=fun W f=>⟨u,rfl,h W f⟩
def Upward (ls:List (List UInt8)):Prop:=∀ (j:Nat) (x y:List UInt8),ls[j]? = some x→ls[j+1]? = some y→0≤cmpS y x
def rdnWhole (ws:List (List UInt8)):List UInt8:=wrapS (tagOf 17) ws.flatten
def wholesN (n:List (List Part)):List (List UInt8):=n.map fun r=>rdnWhole ((rdnS r).getD [])
def nameWhole (n:List (List Part)):List UInt8:=wrapS (tagOf 16) (wholesN n).flatten
open Go.Proofs.YtehlipgmkinfbaaGreatDoor
open Go
section
variable {α:Type}(rd:List UInt8→Except Int (α × Nat)) (mx:Nat)
def manyGo:Nat→List α→List UInt8→Except Int (List α)
 |_,out,[]=>.ok out
 |0,_,_::_=>.error 3
 |f+1,out,x::t=>
  if out.length=mx then .error 2 else
  match rd (x::t) with
  |.error e=>.error e
  |.ok (g,k)=>manyGo f (out++[g]) ((x::t).drop k)
def manySt (out:List α)(l:List UInt8):Except Int (List α):=manyGo rd mx l.length out l
variable {rd mx}
end
structure Gen where
 k:Int
 b:List UInt8
 n:List (List Part)
def madeG (k:Int):Bool:=k==0||k==3||k==4||k==5
def tagAt (k:Int)(m:Bool):Tag:=⟨2,k,m⟩
def genTag (k:Int):Tag:=tagAt k (madeG k)
def plainB (b:List UInt8):Bool:=decide (0<b.length)&&b.all (fun c=>decide (c.toNat≤127))
def wholesB (b:List UInt8):Bool:=match allS b with|.ok ls=>decide (0<ls.length)|.error _=>false
def oidB (b:List UInt8):Bool:=match oidParseS b with|.ok _=>true|.error _=>false
def contB (k:Int)(b:List UInt8):Bool:=
 if k=1∨k=2∨k=6 then plainB b else if k=7 then decide (b.length=4∨b.length=16) else if k=8 then oidB b else if k=0∨k=3∨k=5 then wholesB b else false
def genOk (g:Gen):Bool:=if g.k=4 then decide (g.b.length=0)&&nameOk g.n else decide (g.n.length=0)&&contB g.k g.b
def genBody (g:Gen):List UInt8:=if g.k=4 then nameWhole g.n else g.b
def genWhole (g:Gen):List UInt8:=wrapS (genTag g.k) (genBody g)
def fewG (g:Gen):Prop:=g.b.length≤10000000∧∀ r∈g.n,fewB r
def genReadS (l:List UInt8):Except Int (Gen × Nat):=
 match readS l with
 |.error e=>.error e
 |.ok (t,n,k)=>
  if t.cls≠2∨8<t.num∨t.made≠madeG t.num then .error 4 else
  if l.length-k<n then .error 3 else
  if t.num=4 then (match nameParseS ((l.drop k).take n) with
   |.error e=>.error e
   |.ok m=>.ok (⟨4,[],m⟩,k+n)) else
  if contB t.num ((l.drop k).take n) then .ok (⟨t.num,(l.drop k).take n,[]⟩,k+n) else .error 6
def genSt (out:List Gen)(l:List UInt8):Except Int (List Gen):=manySt genReadS 10000 out l
def genAllS (l:List UInt8):Except Int (List Gen):=if l=[] then .error 6 else genSt [] l
def genListS (l:List UInt8):Except Int (List Gen × Nat):=
 match openS (tagOf 16) l with
 |.error e=>.error e
 |.ok (y,k)=>match genAllS y with
  |.error e=>.error e
  |.ok gs=>.ok (gs,k)
def lowB (c:UInt8):UInt8:=if 65≤c.toNat∧c.toNat≤90 then c+32 else c
def lowerS (l:List UInt8):List UInt8:=l.map lowB
def labelC (c:UInt8):Bool:=decide ((97≤c.toNat∧c.toNat≤122)∨(48≤c.toNat∧c.toNat≤57)∨c.toNat=45∨c.toNat=95)
def labelB (l:List UInt8):Bool:=decide (1≤l.length∧l.length≤63)&&(lowerS l).all labelC
def dotS (l:List UInt8):List UInt8:=if l.getLast? = some 46 then l.dropLast else l
def hostS (l:List UInt8):Option (List UInt8):=if 253<(dotS l).length then none else if (cutAt 46 (dotS l)).all labelB then some (lowerS (dotS l)) else none
def lastTo (c:UInt8)(l:List UInt8):Nat→Int
 |0=>-1
 |j+1=>if l[j]? = some c then (j:Int) else lastTo c l j
def lastS (c:UInt8)(l:List UInt8):Int:=lastTo c l l.length
def mailS (l:List UInt8):List UInt8:=if lastS 64 l<0 then l else l.take (lastS 64 l).toNat++lowerS (l.drop (lastS 64 l).toNat)
def meanS (g:Gen):List UInt8:=if g.k=4 then nameKeyS g.n else if g.k=2 then (match hostS g.b with|some h=>h|none=>35::hexS g.b) else if g.k=1 then mailS g.b else hexS g.b
def genKeyS (g:Gen):List UInt8:=Lib.itoa g.k++meanS g
def genSameS (a b:Gen):Bool:=genOk a&&genOk b&&decide (genKeyS a=genKeyS b)
def genMeetS (a b:List Gen):Bool:=a.any fun x=>b.any fun y=>genSameS x y
def cutPart (p:Part):Part:=⟨p.o.take 40,p.b.take 200⟩
def cutStep (l:List Part):List Part:=(l.take 20).map cutPart
def cutName (n:List (List Part)):List (List Part):=(n.take 70).map cutStep
theorem cutPart_few (p:Part):(cutPart p).b.length≤10000000:=by
 show (p.b.take 200).length≤10000000
 rw[List.length_take]
 omega
theorem cutStep_few (l:List Part):fewB (cutStep l):=fun p hp=>by
 obtain⟨q,-,rfl⟩:=List.mem_map.1 hp
 exact cutPart_few q
theorem cutName_few (n:List (List Part)):∀ r∈cutName n,fewB r:=fun r hr=>by
 obtain⟨q,-,rfl⟩:=List.mem_map.1 hr
 exact cutStep_few q
theorem cutStep_len (l:List Part):(cutStep l).length≤20:=by
 unfold cutStep;rw[List.length_map,List.length_take]
 omega
theorem cutName_len (n:List (List Part)):(cutName n).length≤70:=by
 unfold cutName;rw[List.length_map,List.length_take]
 omega
theorem NameAt.form {w:World}{v:Value}{n:List (List Part)}(h:NameAt w v n):∃ a c,v=.slice a n.length c∧n.length≤c∧c≤maxLen:=by
 obtain⟨a,c,rfl,h1,h2,-⟩:=h
 exact⟨a,c,rfl,h1,h2⟩
def underS (n m:List (List Part)):Bool:=nameOk n&&(decide (m.length≤n.length)&&nameSameS (n.take m.length) m)
end Go.Q
namespace Go.Proofs.YtehlipgmkinfbaaGreatDoor
open Go Go.RowKit Go.Q
theorem r04Right_any (v:Value)(o:List Int)(w:World)(h:Ints w v o) :
  Calls Tryz.prog 117 #[v] w fun e w'=>e=.returned (.bool (oidOk o))∧w=w':=by
 obtain⟨a,cap,rfl,hc,hm,hx⟩:=Ints.form h
 have HX:=Hi hx;clear h hx;rcases Classical.em (2≤o.length∧o.length≤32) with hl|hl
 ·obtain⟨hl1,hl2⟩:=hl
  have q1:decide ((o.length:Int)<2)=false:=decide_eq_false (by omega);have q2:decide ((32:Int)<(o.length:Int))=false:=decide_eq_false (by omega);go_enter Tryz.func117,Tryz.ntmps117
  go_wp2_with fail
  go_loopg [3] o.length (fun g i wr=>∃ j:Nat,g=o.length-j∧j≤o.length∧i=.int .i64 j∧(o.take j).all arcOk=true∧wr=w)
  case atStart=>exact⟨0,rfl,by omega,rfl,rfl,rfl⟩
  case round=>
   obtain⟨j,hg,hj,rfl,hall,rfl⟩:=hrel
   have HG:=Hi hg;have HA:=Hi hall;clear hg hall;obtain⟨b,off,rfl,hy⟩:=HX.out (by omega)
   by_cases hjl:j<o.length
   ·obtain⟨x,hxj⟩:∃ x,o[j]? = some x:=⟨_,List.getElem?_eq_getElem hjl⟩
    have ex:=hy j x hxj;have hat:(o.take (j+1)).all arcOk=((o.take j).all arcOk&&arcOk x):=by
     rw[List.take_add_one,hxj]
     simp
    have HAT:=Hi hat;have q3:(0:Int)≤(j:Int):=by omega
    have q4:(j:Int)<(o.length:Int):=by omega
    have hbad:arcOk x=false→oidOk o=false:=fun hb=>by
     have:o.all arcOk=false:=by
      rw[List.all_eq_false]
      exact⟨x,List.mem_of_getElem? hxj,by simp[hb]⟩
     simp[oidOk,this]
    have HB:=Hi hbad;clear hy hxj hat hbad;rcases Classical.em (x<0) with h0|h0
    ·have q5:decide (x<0)=true:=decide_eq_true h0
     go_wp2_with fail
     go_ret;exact⟨by rw[HB.out (by simp[arcOk];omega)];rfl,rfl⟩
    ·have q5:decide (x<0)=false:=decide_eq_false h0
     rcases Classical.em ((2147483647:Int)<x) with h1|h1
     ·have q6:decide ((2147483647:Int)<x)=true:=decide_eq_true h1
      go_wp2_with fail
      go_ret;exact⟨by rw[HB.out (by simp[arcOk];omega)];rfl,rfl⟩
     ·have q6:decide ((2147483647:Int)<x)=false:=decide_eq_false h1
      go_wp2_with fail
      go_roundg (o.length-(j+1))
      case measure=>rw[HG.out];omega
      case rel=>exact⟨j+1,rfl,by omega,by go_num,by rw[HAT.out,HA.out];simp[arcOk];omega,rfl⟩
   ·have hall:o.all arcOk=true:=by
     have:=HA.out;rwa[List.take_of_length_le (by omega)]at this
    obtain⟨x0,hx0⟩:∃ x,o[0]? = some x:=⟨_,List.getElem?_eq_getElem (by omega)⟩
    obtain⟨x1,hx1⟩:∃ x,o[1]? = some x:=⟨_,List.getElem?_eq_getElem (by omega)⟩
    have e0:=hy 0 x0 hx0;have e1:=hy 1 x1 hx1;have hE:oidOk o=twoOk x0 x1:=by
     simp[oidOk,hall,hl1,hl2,List.getD,hx0,hx1]
    have hp0:0≤x0:=by
     have:=List.all_eq_true.1 hall x0 (List.mem_of_getElem? hx0);simp only[arcOk,decide_eq_true_eq]at this
     exact this.1
    have HE:=Hi hE;have z1:(1:Int)<(o.length:Int):=by omega
    have z0:(0:Int)<(o.length:Int):=by omega
    simp only[Nat.add_zero]at e0
    clear hy hx0 hx1 hall hE HA HX;by_cases h2:x0<2
    ·by_cases h40:x1<40
     ·have hv:twoOk x0 x1=true:=by unfold twoOk;rw[decide_eq_true (show x0=0∨x0=1 by omega),decide_eq_true h40];rfl
      have HV:=Hi hv;clear hv;go_wp2_with fail
      go_ret;exact⟨by rw[HE.out,HV.out];rfl,rfl⟩
     ·have hv:twoOk x0 x1=false:=by unfold twoOk;rw[decide_eq_false h40,decide_eq_false (show ¬x0=2 by omega),Bool.and_false];rfl
      have HV:=Hi hv;have p2:(x0==2)=false:=beq_eq_false_iff_ne.2 (by omega);clear hv;go_wp2_with fail
      go_ret;exact⟨by rw[HE.out,HV.out];rfl,rfl⟩
    ·by_cases h22:x0=2
     ·subst h22
      by_cases hm1:x1≤2147483567
      ·have hv:twoOk 2 x1=true:=by unfold twoOk;rw[decide_eq_true hm1];simp
       have HV:=Hi hv;clear hv;go_wp2_with fail
       go_ret;exact⟨by rw[HE.out,HV.out];rfl,rfl⟩
      ·have hv:twoOk 2 x1=false:=by unfold twoOk;rw[decide_eq_false hm1];simp
       have HV:=Hi hv;clear hv;go_wp2_with fail
       go_ret;exact⟨by rw[HE.out,HV.out];rfl,rfl⟩
     ·have hv:twoOk x0 x1=false:=by unfold twoOk;rw[decide_eq_false h22,decide_eq_false (show ¬(x0=0∨x0=1) by omega)];rfl
      have HV:=Hi hv;have p2:(x0==2)=false:=beq_eq_false_iff_ne.2 h22;clear hv;go_wp2_with fail
      go_ret;exact⟨by rw[HE.out,HV.out];rfl,rfl⟩
 ·have hE:oidOk o=false:=by simp[oidOk];omega
  have HE:=Hi hE;rcases Classical.em (o.length<2) with h2|h2
  case' inl=>have q1:decide ((o.length:Int)<2)=true:=decide_eq_true (by omega)
  case' inr=>
   have q1:decide ((o.length:Int)<2)=false:=decide_eq_false (by omega);have q2:decide ((32:Int)<(o.length:Int))=true:=decide_eq_true (by omega)
  all_goals
   clear hE;go_enter Tryz.func117,Tryz.ntmps117
   go_wp2_with fail
   go_ret;exact⟨by rw[HE.out];rfl,rfl⟩
theorem r04Compare_any (v u:Value)(o p:List Int)(w:World)(h:Ints w v o)(hu:Ints w u p) :
  Calls Tryz.prog 115 #[v,u] w fun e w'=>e=.returned (.int .i64 (cmpI o p))∧Fz w w':=by
 obtain⟨a,cap,rfl,hc1,hm1,hx⟩:=Ints.form h
 obtain⟨b,cbp,rfl,hc2,hm2,hy⟩:=Ints.form hu
 have HX:=Hi hx;have HY:=Hi hy;unfold maxLen at hm1 hm2;clear h hu hx hy;go_enter Tryz.func115,Tryz.ntmps115
 go_wp2_with fail
 go_loopg [5] (o.length+p.length) (fun g i wr=>∃ j:Nat,g=o.length+p.length-j∧j≤o.length∧j≤p.length∧i=.int .i64 j∧cmpI o p=cmpI (o.drop j) (p.drop j)∧Fz w wr)
 case atStart=>exact⟨0,rfl,Nat.zero_le _,Nat.zero_le _,rfl,rfl,Fr.refl _⟩
 case round=>
  obtain⟨j,hg,hj,hjp,rfl,hE,F⟩:=hrel
  have HG:=Hi hg;have HE:=Hi hE;have HF:=Hi F;clear hg hE;by_cases hjl:j<o.length
  ·obtain⟨ba,oa,rfl,ha⟩:=HX.out (by omega)
   obtain⟨x,hxj⟩:∃ x,o[j]? = some x:=⟨_,List.getElem?_eq_getElem hjl⟩
   have e1:=F.cell (ha j x hxj) (fun h=>h);have r1:(0:Int)≤(j:Int):=by omega
   have r2:(j:Int)<(o.length:Int):=by omega
   have r5:decide ((o.length:Int)≤(j:Int))=false:=decide_eq_false (by omega);have r5N:decide (o.length≤j)=false:=decide_eq_false (by omega);have r5':decide ((j:Int)<(o.length:Int))=true:=decide_eq_true (by omega);have r5'N:decide (j<o.length)=true:=decide_eq_true (by omega);by_cases hjl2:j<p.length
   ·obtain⟨bb,ob,rfl,hb⟩:=HY.out (by omega)
    obtain⟨y,hyj⟩:∃ y,p[j]? = some y:=⟨_,List.getElem?_eq_getElem hjl2⟩
    have e2:=F.cell (hb j y hyj) (fun h=>h);have r4:(j:Int)<(p.length:Int):=by omega
    have r3:decide ((p.length:Int)≤(j:Int))=false:=decide_eq_false (by omega);have r3N:decide (p.length≤j)=false:=decide_eq_false (by omega);have r4':decide ((j:Int)<(p.length:Int))=true:=decide_eq_true (by omega);have r4'N:decide (j<p.length)=true:=decide_eq_true (by omega);have hcd:=Hi (cmpI_drop hxj hyj);clear ha hb hxj hyj F;by_cases h1:x<y
    ·have hres:cmpI o p=-1:=by rw[HE.out,hcd.out,if_pos h1]
     have HRES:=Hi hres;have q1:decide (x<y)=true:=decide_eq_true h1;clear hres;go_wp2_with fail
     go_quiet (fail)
     go_wp2_with fail
     go_ret;refine⟨by rw[HRES.out];rfl,?_⟩;(first|with_reducible exact HF.out|with_reducible exact Fr.drewN HF.out _|with_reducible exact Fr.drewN (Fr.drewN HF.out _) _|with_reducible exact Fr.drewN (Fr.drewN (Fr.drewN HF.out _) _) _)
    ·have q1:decide (x<y)=false:=decide_eq_false h1
     by_cases h2:y<x
     ·have hres:cmpI o p=1:=by rw[HE.out,hcd.out,if_neg h1,if_pos h2]
      have HRES:=Hi hres;have q2:decide (y<x)=true:=decide_eq_true h2;clear hres;go_wp2_with fail
      go_quiet (fail)
      go_wp2_with fail
      go_quiet (fail)
      go_wp2_with fail
      go_ret;refine⟨by rw[HRES.out];rfl,?_⟩;(first|with_reducible exact HF.out|with_reducible exact Fr.drewN HF.out _|with_reducible exact Fr.drewN (Fr.drewN HF.out _) _|with_reducible exact Fr.drewN (Fr.drewN (Fr.drewN HF.out _) _) _)
     ·have hres:cmpI o p=cmpI (o.drop (j+1)) (p.drop (j+1)):=by rw[HE.out,hcd.out,if_neg h1,if_neg h2]
      have HRES:=Hi hres;have q2:decide (y<x)=false:=decide_eq_false h2;clear hres;go_wp2_with fail
      go_quiet (fail)
      go_wp2_with fail
      go_quiet (fail)
      go_wp2_with fail
      go_roundg (o.length+p.length-(j+1))
      case measure=>rw[HG.out];omega
      case rel=>refine⟨j+1,rfl,by omega,by omega,by go_num,HRES.out,?_⟩;(first|with_reducible exact HF.out|with_reducible exact Fr.drewN HF.out _|with_reducible exact Fr.drewN (Fr.drewN HF.out _) _|with_reducible exact Fr.drewN (Fr.drewN (Fr.drewN HF.out _) _) _)
   ·have r3:decide ((p.length:Int)≤(j:Int))=true:=decide_eq_true (by omega)
    have r3N:decide (p.length≤j)=true:=decide_eq_true (by omega);have r4:decide ((j:Int)<(p.length:Int))=false:=decide_eq_false (by omega);have r4N:decide (j<p.length)=false:=decide_eq_false (by omega);have hres:cmpI o p=1:=by
     have h1:o.drop j=x::o.drop (j+1):=by
      obtain⟨h,rfl⟩:=List.getElem?_eq_some_iff.1 hxj
      exact List.drop_eq_getElem_cons h
     have h2:p.drop j=[]:=List.drop_eq_nil_of_le (by omega);rw[HE.out,h1,h2]
     rfl
    have HRES:=Hi hres;clear hres ha hxj F;go_wp2_with fail
    go_quiet (fail)
    go_wp2_with fail
    go_quiet (fail)
    go_wp2_with fail
    go_ret;refine⟨by rw[HRES.out];rfl,?_⟩;(first|with_reducible exact HF.out|with_reducible exact Fr.drewN HF.out _|with_reducible exact Fr.drewN (Fr.drewN HF.out _) _|with_reducible exact Fr.drewN (Fr.drewN (Fr.drewN HF.out _) _) _)
  ·obtain rfl:j=o.length:=by omega
   have h1:o.drop o.length=[]:=List.drop_length;have r5:decide ((o.length:Int)≤(o.length:Int))=true:=decide_eq_true (by omega);have r5N:decide (o.length≤o.length)=true:=decide_eq_true (by omega);by_cases hlt:o.length<p.length
   ·have r3:(o.length:Int)<(p.length:Int):=by omega
    have r3N:decide (o.length<p.length)=true:=decide_eq_true hlt;have hres:cmpI o p=-1:=by
     rw[HE.out,h1]
     have:p.drop o.length≠[]:=fun e=>by have:=drop_nil e;omega
     cases hd:p.drop o.length with
     |nil=>exact absurd hd this
     |cons y t=>rfl
    have HRES:=Hi hres;clear hres h1 F;go_wp2_with fail
    go_quiet (fail)
    go_wp2_with fail
    go_ret;refine⟨by rw[HRES.out];rfl,?_⟩;(first|with_reducible exact HF.out|with_reducible exact Fr.drewN HF.out _|with_reducible exact Fr.drewN (Fr.drewN HF.out _) _|with_reducible exact Fr.drewN (Fr.drewN (Fr.drewN HF.out _) _) _)
   ·have r3:¬(o.length:Int)<(p.length:Int):=by omega
    have r3N:decide (o.length<p.length)=false:=decide_eq_false hlt;have hres:cmpI o p=0:=by
     have h2:p.drop o.length=[]:=List.drop_eq_nil_of_le (by omega);rw[HE.out,h1,h2]
     rfl
    have HRES:=Hi hres;clear hres h1;go_wp2_with fail
    go_ret;exact⟨by rw[HRES.out];rfl,F⟩
theorem r04Same_any (v u:Value)(o p:List Int)(w:World)(h:Ints w v o)(hu:Ints w u p) :
  Calls Tryz.prog 79 #[v,u] w fun e w'=>e=.returned (.bool (decide (o=p)))∧Fz w w':=by
 have H:=Hi (r04Compare_any v u o p w h hu);clear h hu;have hq:(cmpI o p==0)=decide (o=p):=by
  rw[Bool.eq_iff_iff]
  simp[cmpI_zero]
 have HQ:=Hi hq;clear hq;generalize cmpI o p=c at *
 go_enter Tryz.func79,Tryz.ntmps79
 go_wp2_with fail
 refine H.out.mono ?_;rintro e w' ⟨rfl,F⟩;go_wp2_with fail
 go_ret;exact⟨by rw[←HQ.out];rfl,F⟩
def rWholeOut (w w':World)(o:List Int)(b:List UInt8)(e:Ending):Prop:=
 match attrS o b with
 |none=>e=.returned (.tuple #[.slice none 0 0,.bool false])
 |some x=>∃ v,e=.returned (.tuple #[v,.bool true])∧w'.ownsRow w.heap.size 5 1 v x.length (Lib.byteCells x)
theorem r14Whole_any (x y:Value)(o:List Int)(b:List UInt8)(w:World)(hx:Ints w x o)(hy:Bytes w y b)(hl:b.length≤10000000) :
  Calls Tryz.prog 83 #[.agg #[x,y]] w fun e w'=>rWholeOut w w' o b e∧Fz w w':=by
 obtain⟨ax,cx,rfl,-⟩:=Ints.form hx
 obtain⟨ay,cy,rfl,-⟩:=Vals.form hy
 obtain⟨z,hz⟩:∃ z,z=w.heap.size:=⟨_,rfl⟩
 have BZ:=Blk.new w 106 #[.slice ax o.length cx,.slice ay b.length cy];have F0:Fz w (w.alloc (.cells #[.slice ax o.length cx,.slice ay b.length cy] 106)):=(Fr.refl w).alloc _;have HX:=Hi (hx.old F0);have HY:=Hi (hy.old F0);rw[←hz]at BZ
 have HF0:=Hi F0;have HZ:=Hi hz;clear hx hy F0 hz;go_enter Tryz.func83,Tryz.ntmps83
 go_upto_region 1 with fail
 rw[←HZ.out]
 generalize (w.alloc (.cells #[.slice ax o.length cx,.slice ay b.length cy] 106))=w0 at *
 have z1:=BZ.cell 1;simp only[SG]at z1
 go_wp2_with fail
 refine(r08Wholes_any _ b w0 HY.out (by omega)).mono ?_
 rintro e w1 ⟨hout,F1⟩;have BZ1:=BZ.fr F1 (fun h=>h);have HF1:=Hi (HF0.out.trans F1);have HX1:=Hi (HX.out.old F1);have HY1:=Hi (HY.out.old F1);unfold wholesOut at hout;clear HX HY HF0 F1 BZ z1;cases hr:allS b with
 |error x=>
  rw[hr]at hout
  subst hout;have hx0:x≠0:=allS_pos hr;have hx1:(x==0)=false:=beq_eq_false_iff_ne.2 hx0;have hx2:(x != 0)=true:=by simpa using hx0
  have hn:attrS o b=none:=by unfold attrS singleB;rw[hr,Bool.and_false];rfl
  have HN:=Hi hn;clear hn hr hx0;go_wp2_with fail
  refine bodyPost_ret (v:=.tuple #[.slice none 0 0,.bool false]) (by simp[results,Tryz.results83,go_sem]) rfl ⟨?_,HF1.out⟩;unfold rWholeOut;rw[HN.out]
 |ok ls=>
  rw[hr]at hout
  obtain⟨al,cl,rfl⟩:=hout
  by_cases h1:ls.length=1
  ·have hs:singleB b=true:=by unfold singleB;rw[hr];simp[h1]
   have q1:((ls.length:Int)==1)=true:=by rw[h1];rfl
   have q2:((ls.length:Int) != 1)=false:=by rw[h1];rfl
   have q3:(ls.length==1)=true:=by rw[h1];rfl
   have q4:(ls.length != 1)=false:=by rw[h1];rfl
   have HRI:=Hi (r04Right_any _ o w1 HX1.out);have z0:=BZ1.cell 0;simp only[SG]at z0
   clear hr h1;cases ho:oidOk o with
   |false=>
    rw[ho]at HRI
    have hn:attrS o b=none:=by unfold attrS;rw[ho];rfl
    have HN:=Hi hn;clear hn ho;go_wp2_with fail
    refine HRI.out.mono ?_;rintro e w2 ⟨rfl,rfl⟩;go_wp2_with fail
    refine bodyPost_ret (v:=.tuple #[.slice none 0 0,.bool false]) (by simp[results,Tryz.results83,go_sem]) rfl ⟨?_,HF1.out⟩;unfold rWholeOut;rw[HN.out]
   |true=>
    rw[ho]at HRI
    have hn:attrS o b=some (wrapS (tagOf 16) (oidWhole o++b)):=by unfold attrS;rw[ho,hs];rfl
    have HN:=Hi hn;have hol:=oidWhole_len (nums_ok ho).2.1;have HO:=Hi ho;clear hn ho hs;go_wp2_with fail
    refine HRI.out.mono ?_;rintro e w2 ⟨rfl,rfl⟩;clear z0 HRI q1 q2 q3 q4;go_upto_region 4 with fail
    have G:Fz w1 w1.drew:=(Fr.refl w1).drew;have B:=BZ1.drew;have hB1:=BZ1.lt;obtain⟨T,hT⟩:∃ T,T=tagOf 16:=⟨_,rfl⟩
    have HTG:=Hi (show tagGood T from by rw[hT];exact good_of (n:=16) (by decide) (by decide));have HOF:=Hi (fun w=>r02Of_any 16 w);have HWH:=Hi (fun (W:World) (hW:Ints W (.slice ax o.length cx) o)=>r04Whole_any (.slice ax o.length cx) o W hW HO.out);rw[←hT]at HN HOF
    generalize oidWhole o=ow at *
    clear hT;have GS:w.heap.size≤w1.heap.size:=HF1.out.size;go_region_held3 (fun w'=>∀ j,w'.cell? ⟨z,j,none⟩=(#[.slice ax o.length cx,.slice ay b.length cy]:Array Value)[j]?) (first|exact B.cell) (first
     |(go_at_call 119;refine(HOF.out _).mono ?_;rintro e w' ⟨rfl,F⟩;replace B:=B.fr F (fun h=>h);replace G:=G.trans F;(try replace hv:=ownsRow_fr hv F (fun _ _ h=>h)))
     |(go_at_call 120;refine(HWH.out _ (HX1.out.old G)).mono ?_;rintro e w' ⟨v,rfl,hv0,F⟩;have hv:=own_le hv0 (show w1.heap.size≤_ from G.size);obtain⟨av,mv,cv,rfl,rfl⟩:=own_shape hv;replace B:=B.fr F (fun h=>h);replace G:=G.trans F)
     |(obtain⟨v7,w7,hrun,ho7,F7,hat⟩:=append_bytes hv ay b.length cy b (HY1.out.old G) (by omega) (show w1.heap.size≤_ from G.size);obtain⟨a7,m7,c7,rfl,rfl⟩:=own_shape ho7;refine step_append_run (by rfl) (.tmp 28) (.tmp 30) 38 (by rfl) _ w7 (by exact hrun) ?_;have hbk:=(Vals.of_own hv).2;replace B:=B.fr F7 (fun e=>by have:=(hbk z e).1;omega);replace G:=G.trans' F7 (fun i hi e=>absurd hi (by have:=(hbk i e).1;omega));have hs7:w1.heap.size≤w7.heap.size:=G.size;have hml:(ow++b).length≤16777216:=(by rw[List.length_append];omega);clear hv hrun F7 hat)
     |(go_at_call 118;refine(r02Wrap_any T HTG.out (.slice a7 (ow.length+b.length) c7) (ow++b) _ (Vals.of_own ho7).1 hml).mono ?_;rintro e w' ⟨v,rfl,hv9,F⟩;obtain⟨av,mv,cv,rfl,rfl⟩:=own_shape hv9;replace B:=B.fr F (fun h=>h);replace G:=G.trans F))
    all_goals
     have HO9:=Hi (own_le hv9 (show w.heap.size≤w7.heap.size from by omega));have HG9:=Hi (HF1.out.trans G);clear hv9 ho7 B G F hbk hml;generalize wrapS T (ow++b)=wx at *
     go_wp2_with fail
     refine bodyPost_ret (v:=.tuple #[.slice av wx.length cv,.bool true]) (by simp[results,Tryz.results83,go_sem]) rfl ⟨?_,HG9.out⟩;unfold rWholeOut;rw[HN.out]
     exact⟨_,rfl,HO9.out⟩
  ·have hs:singleB b=false:=by unfold singleB;rw[hr];simp[h1]
   have q1:((ls.length:Int)==1)=false:=beq_eq_false_iff_ne.2 (by omega);have q2:((ls.length:Int) != 1)=true:=by simpa using (by omega:(ls.length:Int)≠1)
   have q3:(ls.length==1)=false:=beq_eq_false_iff_ne.2 (by omega);have q4:(ls.length != 1)=true:=by simpa using h1
   have hn:attrS o b=none:=by unfold attrS;rw[hs,Bool.and_false];rfl
   have HN:=Hi hn;clear hn hr hs h1;go_wp2_with fail
   refine bodyPost_ret (v:=.tuple #[.slice none 0 0,.bool false]) (by simp[results,Tryz.results83,go_sem]) rfl ⟨?_,HF1.out⟩;unfold rWholeOut;rw[HN.out]
theorem r01Compare_any (v u:Value)(o p:List UInt8)(w:World)(h:Bytes w v o)(hu:Bytes w u p) :
  Calls Tryz.prog 84 #[v,u] w fun e w'=>e=.returned (.int .i64 (cmpS o p))∧Fz w w':=by
 obtain⟨a,cap,rfl,hc1,hm1,hx⟩:=Vals.form h
 obtain⟨b,cbp,rfl,hc2,hm2,hy⟩:=Vals.form hu
 have HX:=Hi hx;have HY:=Hi hy;unfold maxLen at hm1 hm2;clear h hu hx hy;go_enter Tryz.func84,Tryz.ntmps84
 go_wp2_with fail
 go_loopg [5] (o.length+p.length) (fun g i wr=>∃ j:Nat,g=o.length+p.length-j∧j≤o.length∧j≤p.length∧i=.int .i64 j∧cmpS o p=cmpS (o.drop j) (p.drop j)∧Fz w wr)
 case atStart=>exact⟨0,rfl,Nat.zero_le _,Nat.zero_le _,rfl,rfl,Fr.refl _⟩
 case round=>
  obtain⟨j,hg,hj,hjp,rfl,hE,F⟩:=hrel
  have HG:=Hi hg;have HE:=Hi hE;have HF:=Hi F;clear hg hE;by_cases hjl:j<o.length
  ·obtain⟨ba,oa,rfl,ha⟩:=HX.out (by omega)
   obtain⟨x,hxj⟩:∃ x,o[j]? = some x:=⟨_,List.getElem?_eq_getElem hjl⟩
   have e1:=F.cell (ha j x hxj) (fun h=>h);have r1:(0:Int)≤(j:Int):=by omega
   have r2:(j:Int)<(o.length:Int):=by omega
   have r5:decide ((o.length:Int)≤(j:Int))=false:=decide_eq_false (by omega);have r5N:decide (o.length≤j)=false:=decide_eq_false (by omega);have r5':decide ((j:Int)<(o.length:Int))=true:=decide_eq_true (by omega);have r5'N:decide (j<o.length)=true:=decide_eq_true (by omega);by_cases hjl2:j<p.length
   ·obtain⟨bb,ob,rfl,hb⟩:=HY.out (by omega)
    obtain⟨y,hyj⟩:∃ y,p[j]? = some y:=⟨_,List.getElem?_eq_getElem hjl2⟩
    have e2:=F.cell (hb j y hyj) (fun h=>h);have r4:(j:Int)<(p.length:Int):=by omega
    have r3:decide ((p.length:Int)≤(j:Int))=false:=decide_eq_false (by omega);have r3N:decide (p.length≤j)=false:=decide_eq_false (by omega);have r4':decide ((j:Int)<(p.length:Int))=true:=decide_eq_true (by omega);have r4'N:decide (j<p.length)=true:=decide_eq_true (by omega);have hcd:=Hi (cmpS_drop hxj hyj);clear ha hb hxj hyj F;generalize x.toNat=x at *
    generalize y.toNat=y at *
    by_cases h1:x<y
    ·have hres:cmpS o p=-1:=by rw[HE.out,hcd.out,if_pos h1]
     have HRES:=Hi hres;have q1:decide ((x:Int)<(y:Int))=true:=decide_eq_true (by omega);have q1N:decide (x<y)=true:=decide_eq_true h1;clear hres;go_wp2_with fail
     go_quiet (fail)
     go_wp2_with fail
     go_ret;refine⟨by rw[HRES.out];rfl,?_⟩;(first|with_reducible exact HF.out|with_reducible exact Fr.drewN HF.out _|with_reducible exact Fr.drewN (Fr.drewN HF.out _) _|with_reducible exact Fr.drewN (Fr.drewN (Fr.drewN HF.out _) _) _)
    ·have q1:decide ((x:Int)<(y:Int))=false:=decide_eq_false (by omega)
     have q1N:decide (x<y)=false:=decide_eq_false h1;by_cases h2:y<x
     ·have hres:cmpS o p=1:=by rw[HE.out,hcd.out,if_neg h1,if_pos h2]
      have HRES:=Hi hres;have q2:decide ((y:Int)<(x:Int))=true:=decide_eq_true (by omega);have q2N:decide (y<x)=true:=decide_eq_true h2;clear hres;go_wp2_with fail
      go_quiet (fail)
      go_wp2_with fail
      go_quiet (fail)
      go_wp2_with fail
      go_ret;refine⟨by rw[HRES.out];rfl,?_⟩;(first|with_reducible exact HF.out|with_reducible exact Fr.drewN HF.out _|with_reducible exact Fr.drewN (Fr.drewN HF.out _) _|with_reducible exact Fr.drewN (Fr.drewN (Fr.drewN HF.out _) _) _)
     ·have hres:cmpS o p=cmpS (o.drop (j+1)) (p.drop (j+1)):=by rw[HE.out,hcd.out,if_neg h1,if_neg h2]
      have HRES:=Hi hres;have q2:decide ((y:Int)<(x:Int))=false:=decide_eq_false (by omega);have q2N:decide (y<x)=false:=decide_eq_false h2;clear hres;go_wp2_with fail
      go_quiet (fail)
      go_wp2_with fail
      go_quiet (fail)
      go_wp2_with fail
      go_roundg (o.length+p.length-(j+1))
      case measure=>rw[HG.out];omega
      case rel=>refine⟨j+1,rfl,by omega,by omega,by go_num,HRES.out,?_⟩;(first|with_reducible exact HF.out|with_reducible exact Fr.drewN HF.out _|with_reducible exact Fr.drewN (Fr.drewN HF.out _) _|with_reducible exact Fr.drewN (Fr.drewN (Fr.drewN HF.out _) _) _)
   ·have r3:decide ((p.length:Int)≤(j:Int))=true:=decide_eq_true (by omega)
    have r3N:decide (p.length≤j)=true:=decide_eq_true (by omega);have r4:decide ((j:Int)<(p.length:Int))=false:=decide_eq_false (by omega);have r4N:decide (j<p.length)=false:=decide_eq_false (by omega);have hres:cmpS o p=1:=by
     have h1:o.drop j=x::o.drop (j+1):=by
      obtain⟨h,rfl⟩:=List.getElem?_eq_some_iff.1 hxj
      exact List.drop_eq_getElem_cons h
     have h2:p.drop j=[]:=List.drop_eq_nil_of_le (by omega);rw[HE.out,h1,h2]
     rfl
    have HRES:=Hi hres;clear hres ha hxj F;go_wp2_with fail
    go_quiet (fail)
    go_wp2_with fail
    go_quiet (fail)
    go_wp2_with fail
    go_ret;refine⟨by rw[HRES.out];rfl,?_⟩;(first|with_reducible exact HF.out|with_reducible exact Fr.drewN HF.out _|with_reducible exact Fr.drewN (Fr.drewN HF.out _) _|with_reducible exact Fr.drewN (Fr.drewN (Fr.drewN HF.out _) _) _)
  ·obtain rfl:j=o.length:=by omega
   have h1:o.drop o.length=[]:=List.drop_length;have r5:decide ((o.length:Int)≤(o.length:Int))=true:=decide_eq_true (by omega);have r5N:decide (o.length≤o.length)=true:=decide_eq_true (by omega);by_cases hlt:o.length<p.length
   ·have r3:(o.length:Int)<(p.length:Int):=by omega
    have r3N:decide (o.length<p.length)=true:=decide_eq_true hlt;have hres:cmpS o p=-1:=by
     rw[HE.out,h1]
     have:p.drop o.length≠[]:=fun e=>by have:=drop_nil e;omega
     cases hd:p.drop o.length with
     |nil=>exact absurd hd this
     |cons y t=>rfl
    have HRES:=Hi hres;clear hres h1 F;go_wp2_with fail
    go_quiet (fail)
    go_wp2_with fail
    go_ret;refine⟨by rw[HRES.out];rfl,?_⟩;(first|with_reducible exact HF.out|with_reducible exact Fr.drewN HF.out _|with_reducible exact Fr.drewN (Fr.drewN HF.out _) _|with_reducible exact Fr.drewN (Fr.drewN (Fr.drewN HF.out _) _) _)
   ·have r3:¬(o.length:Int)<(p.length:Int):=by omega
    have r3N:decide (o.length<p.length)=false:=decide_eq_false hlt;have hres:cmpS o p=0:=by
     have h2:p.drop o.length=[]:=List.drop_eq_nil_of_le (by omega);rw[HE.out,h1,h2]
     rfl
    have HRES:=Hi hres;clear hres h1;go_wp2_with fail
    go_ret;exact⟨by rw[HRES.out];rfl,F⟩
theorem r01Same_any (v u:Value)(o p:List UInt8)(w:World)(h:Bytes w v o)(hu:Bytes w u p) :
  Calls Tryz.prog 80 #[v,u] w fun e w'=>e=.returned (.bool (decide (o=p)))∧Fz w w':=by
 have H:=Hi (r01Compare_any v u o p w h hu);clear h hu;have hq:(cmpS o p==0)=decide (o=p):=by
  rw[Bool.eq_iff_iff]
  simp[cmpS_zero]
 have HQ:=Hi hq;clear hq;generalize cmpS o p=c at *
 go_enter Tryz.func80,Tryz.ntmps80
 go_wp2_with fail
 refine H.out.mono ?_;rintro e w' ⟨rfl,F⟩;go_wp2_with fail
 go_ret;exact⟨by rw[←HQ.out];rfl,F⟩
theorem r14Step_any (v:Value)(l:List Part)(w:World)(h:Attrs w v l)(hf:fewB l) :
  Calls Tryz.prog 59 #[v] w fun e w'=>e=.returned (.bool (rdnS l).isSome)∧Fz w w':=by
 have H:=Hi h;obtain⟨a,cap,rfl,hc,hm,-⟩:=h
 rcases Classical.em (l.length=0∨16<l.length) with hl|hl
 ·have hn:rdnS l=none:=by unfold rdnS;rw[if_pos hl]
  have HN:=Hi hn;clear hn;rcases hl with hl|hl
  ·have q1:(l.length:Int)<1:=by omega
   go_enter Tryz.func59,Tryz.ntmps59
   go_wp2_with fail
   go_ret;exact⟨by rw[HN.out];rfl,Fr.refl _⟩
  ·have q1:¬(l.length:Int)<1:=by omega
   have q3:(16:Int)<(l.length:Int):=by omega
   go_enter Tryz.func59,Tryz.ntmps59
   go_wp2_with fail
   go_ret;exact⟨by rw[HN.out];rfl,Fr.refl _⟩
 ·have hn:rdnS l=stepsS none l:=by unfold rdnS;rw[if_neg hl]
  have HN:=Hi hn;have q1:¬(l.length:Int)<1:=by omega
  have q3:¬(16:Int)<(l.length:Int):=by omega
  clear hn;go_enter Tryz.func59,Tryz.ntmps59
  go_wp2_with fail
  go_loopg [3,4] l.length (fun g u i wr=>∃ (j:Nat) (ws:List (List UInt8)),g=l.length-j∧j≤l.length∧i=.int .i64 j∧ws.length=j∧(∀ y,ws.getLast? = some y→Bytes wr u y)∧Fz w wr∧(stepsS none l=(stepsS ws.getLast? (l.drop j)).map (ws++·)))
  case atStart=>first|exact⟨0,[],rfl,Nat.zero_le _,rfl,rfl,fun y e=>by simp at e,Fr.refl _,by simp⟩|exact⟨0,[],rfl,Nat.zero_le _,rfl,fun y e=>by simp at e,Fr.refl _,by simp⟩
  case round=>
   obtain⟨j,ws,hg,hj,rfl,hws,hwl,F,hS⟩:=hrel
   have HG:=Hi hg;have HS:=Hi hS;have HF:=Hi F;have HWS:=Hi hws;have HWL:=Hi hwl;clear hg hS hws hwl;by_cases hjl:j<l.length
   ·obtain⟨a0,cap0,he,_,_,hx⟩:=H.out.old F
    simp only[Value.slice.injEq,true_and]at he
    obtain⟨rfl,rfl⟩:=he
    obtain⟨b,off,rfl,hy⟩:=hx (by omega)
    obtain⟨p,hp⟩:∃ p,l[j]? = some p:=⟨_,List.getElem?_eq_getElem hjl⟩
    obtain⟨x,y,e1,e2,hpx,hpy⟩:=hy j p hp
    have hsp:=Hi (stepsS_split l j p hp ws.getLast?);have hpb:=hf p (List.mem_of_getElem? hp);have r1:(0:Int)≤(j:Int):=by omega
    have r2:(j:Int)<(l.length:Int):=by omega
    obtain⟨ax,cx,rfl,-⟩:=Ints.form hpx
    obtain⟨ay,cy,rfl,-⟩:=Vals.form hpy
    have HW:=Hi (r14Whole_any _ _ p.o p.b wr hpx hpy hpb);have e1':wr.cell? ⟨b,off+j*2,none⟩=some (.slice ax p.o.length cx):=by rw[Nat.mul_comm];exact e1
    have e2':wr.cell? ⟨b,off+j*2+1,none⟩=some (.slice ay p.b.length cy):=by rw[Nat.mul_comm];exact e2
    clear hx hy hp hpx hpy F e1 e2;go_wp2_with fail
    refine HW.out.mono ?_;rintro e w2 ⟨hout,F2⟩;have HF2:=Hi (HF.out.trans F2);have HWL2:=Hi (fun y h=>(HWL.out y h).old F2);unfold rWholeOut at hout;clear e1' e2' HF F2 HW HWL;cases hq:attrS p.o p.b with
    |none=>
     rw[hq]at hout
     subst hout;have hn:rdnS l=none:=by rw[HN.out,HS.out,hsp.out,hq];rfl
     have HNN:=Hi hn;clear hn hq;go_wp2_with fail
     go_ret;exact⟨by rw[HNN.out];rfl,HF2.out⟩
    |some x=>
     rw[hq]at hout
     obtain⟨v2,rfl,ho2⟩:=hout
     have hb2:=(Vals.of_own ho2).1;have HB2:=Hi hb2;obtain⟨a2,c2,rfl,-⟩:=hb2.form
     have hsp1:=hsp.out;rw[hq]at hsp1
     have HSP:=Hi hsp1;have hlen:(ws++[x]).length=j+1:=by simp[HWS.out]
     have HLEN:=Hi hlen;clear hb2 ho2 hsp hsp1 hq hlen;by_cases hj0:j=0
     ·subst hj0
      have hw0:ws=[]:=List.length_eq_zero_iff.1 HWS.out;have hnx:=steps_next HS.out HSP.out (by rw[hw0];rfl);have HNX:=Hi hnx;clear hnx hw0;go_wp2_with fail
      go_roundg (l.length-(0+1))
      case measure=>rw[HG.out];omega
      case rel=>exact⟨0+1,ws++[x],rfl,by omega,by go_num,HLEN.out,fun y e=>by rw[List.getLast?_concat]at e;cases e;exact HB2.out,HF2.out,HNX.out⟩
     ·obtain⟨k,rfl⟩:∃ k,j=k+1:=⟨j-1,by omega⟩
      have hws2:=HWS.out;obtain⟨xk,hxk⟩:∃ x,ws[k]? = some x:=⟨_,List.getElem?_eq_getElem (by omega)⟩
      have hlast:ws.getLast? = some xk:=by rw[List.getLast?_eq_getElem?,hws2];exact hxk
      have hbk:=HWL2.out xk hlast;have hsp2:=HSP.out;rw[hlast]at hsp2
      have t2:(0:Int)<((k+1:Nat):Int):=by omega
      have HCM:=Hi (r01Compare_any _ _ xk x w2 hbk HB2.out);obtain⟨cm,hcm⟩:∃ cm,cm=cmpS xk x:=⟨_,rfl⟩
      have HCC:=Hi hcm;rw[←hcm]at HCM
      have HLA:=Hi hlast;clear hsp2 hxk hlast hcm hbk;by_cases hge:0≤cm
      ·have hn:rdnS l=none:=by
        rw[HN.out,HS.out,HSP.out,HLA.out]
        simp[←HCC.out,hge]
       have HNN:=Hi hn;clear hn;go_wp2_with fail
       refine HCM.out.mono ?_;rintro e w3 ⟨rfl,F3⟩;go_wp2_with fail
       go_ret;exact⟨by rw[HNN.out];rfl,HF2.out.trans F3⟩
      ·have hcond:(match ws.getLast? with|some y=>decide (0≤cmpS y x)|none=>false)=false:=by
        rw[HLA.out]
        simp only[←HCC.out]
        exact decide_eq_false hge
       have HNX:=Hi (steps_next HS.out HSP.out hcond);clear hcond;go_wp2_with fail
       refine HCM.out.mono ?_;rintro e w3 ⟨rfl,F3⟩;go_wp2_with fail
       go_roundg (l.length-(k+1+1))
       case measure=>rw[HG.out];omega
       case rel=>exact⟨k+1+1,ws++[x],rfl,by omega,by go_num,HLEN.out,fun y e=>by rw[List.getLast?_concat]at e;cases e;exact HB2.out.old F3,HF2.out.trans F3,HNX.out⟩
   ·have hd:l.drop j=[]:=List.drop_eq_nil_of_le (by omega)
    have hres:rdnS l=some ws:=by rw[HN.out,HS.out,hd];simp[stepsS]
    have HRES:=Hi hres;clear hd hres;go_wp2_with fail
    go_ret;exact⟨by rw[HRES.out];rfl,F⟩
theorem r14Right_any (v:Value)(n:List (List Part))(w:World)(h:NameAt w v n)(hf:∀ r∈n,fewB r) :
  Calls Tryz.prog 30 #[v] w fun e w'=>e=.returned (.bool (nameOk n))∧Fz w w':=by
 have H:=Hi h;obtain⟨a,cap,rfl,hc,hm,-⟩:=h
 have hcm:cap≤9223372036854775807:=by unfold maxLen at hm;omega
 have hn:nameOk n=(decide (n.length≤64)&&n.all (fun r=>(rdnS r).isSome)):=rfl;have HN:=Hi hn;clear hn;go_enter Tryz.func30,Tryz.ntmps30
 go_wp2_with fail
 go_loopg [3] n.length (fun g i wr=>∃ j:Nat,g=n.length-j∧j≤n.length∧i=.int .i64 j∧(∀ r∈n.take j,(rdnS r).isSome=true)∧Fz w wr)
 case atStart=>exact⟨0,rfl,Nat.zero_le _,rfl,by simp,Fr.refl _⟩
 case round=>
  obtain⟨j,hg,hj,rfl,he,F⟩:=hrel
  have HG:=Hi hg;have HE:=Hi he;have HF:=Hi F;clear hg he;by_cases hjl:j<n.length
  ·obtain⟨a0,cap0,he,_,_,hx⟩:=H.out.old F
   simp only[Value.slice.injEq,true_and]at he
   obtain⟨rfl,rfl⟩:=he
   obtain⟨b,off,rfl,hy⟩:=hx (by omega)
   obtain⟨r,hr⟩:∃ r,n[j]? = some r:=⟨_,List.getElem?_eq_getElem hjl⟩
   obtain⟨x,e1,hA⟩:=hy j r hr
   have r1:(0:Int)≤(j:Int):=by omega
   have r2:(j:Int)<(n.length:Int):=by omega
   have HW:=Hi (r14Step_any x r wr hA (hf r (List.mem_of_getElem? hr)));have HR:=Hi hr;clear hx hy hr hA F;obtain⟨o,ho⟩:∃ o,o=(rdnS r).isSome:=⟨_,rfl⟩
   have HO:=Hi ho;rw[←ho]at HW
   clear ho;go_wp2_with fail
   refine HW.out.mono ?_;rintro e w2 ⟨rfl,F2⟩;have G2:=HF.out.trans F2;clear HF F2;cases o with
   |false=>
    have hn:n.all (fun r=>(rdnS r).isSome)=false:=by
     rw[List.all_eq_false]
     exact⟨r,List.mem_of_getElem? HR.out,by rw[←HO.out];simp⟩
    have HNN:=Hi hn;clear hn;go_wp2_with fail
    go_ret;exact⟨by rw[HN.out,HNN.out,Bool.and_false];rfl,G2⟩
   |true=>
    go_wp2_with fail
    go_roundg (n.length-(j+1))
    case measure=>rw[HG.out];omega
    case rel=>
     refine⟨j+1,rfl,by omega,by go_num,fun s hs=>?_,G2⟩
     rw[List.take_add_one,HR.out]at hs
     rcases List.mem_append.1 hs with h|h
     ·exact HE.out s h
     ·simp at h
      rw[h,←HO.out]
  ·have hall:n.all (fun r=>(rdnS r).isSome)=true:=by
    rw[List.all_eq_true]
    have:=HE.out;rwa[List.take_of_length_le (by omega)]at this
   have HNN:=Hi hall;clear hall;by_cases h64:n.length≤64
   ·have q1:¬(64:Int)<(n.length:Int):=by omega
    have q2:(n.length:Int)≤64:=by omega
    have HD:=Hi (decide_eq_true h64);clear h64;go_wp2_with fail
    go_ret;exact⟨by rw[HN.out,HNN.out,HD.out];rfl,F⟩
   ·have q1:(64:Int)<(n.length:Int):=by omega
    have q2:¬(n.length:Int)≤64:=by omega
    have HD:=Hi (decide_eq_false h64);clear h64;go_wp2_with fail
    go_ret;exact⟨by rw[HN.out,HNN.out,HD.out];rfl,F⟩
theorem cloneInt_any (v:Value)(o:List Int)(w:World)(h:Ints w v o)(hl:o.length≤100000000000) :
  Calls Tryz.prog 135 #[v] w fun e w'=>(∃ u,e=.returned u∧w'.ownsRow w.heap.size 3 1 u o.length (intCells o))∧Fz w w':=by
 obtain⟨a,cap,rfl,-⟩:=Ints.form h
 have qT:∀ (w:World) (a:Option Addr) (n c n' c':Nat),(binOp .eql 103 (.slice a n c) (.slice none n' c')).run Tryz.prog w=.ok (.bool a.isNone) w:=fun w a n c n' c'=>Lib.run_eql_slice_nil w _ _ a n c n' c' Tryz.underlying103
 cases a with
 |none=>
  have h0:o=[]:=by
   obtain⟨a0,c0,he,_,_,hx⟩:=Ints.form h
   cases o with
   |nil=>rfl
   |cons u s=>
    obtain⟨b,o,e,-⟩:=hx (by simp)
    simp only[Value.slice.injEq]at he
    rw[e]at he
    cases he.1
  subst h0;clear h;go_enter Tryz.func135,Tryz.ntmps135
  go_wp2_with fail
  go_ret;exact⟨⟨_,rfl,rfl,.inl ⟨rfl,rfl⟩⟩,Fr.refl _⟩
 |some ad=>
  have B0:=Blk.new w 3 #[];have F0:Fz w (w.alloc (.cells #[] 3)):=(Fr.refl w).alloc _;have hl2:(intCells o).length=o.length:=intCells_len o;obtain⟨a',c',w',hrun,hown,F1,-⟩:=append_vals Tryz.underlying103 info3 rfl (by decide) (own_block B0 0 (Nat.le_refl _) (Nat.zero_le _) w.heap.size (Nat.le_refl _)) F0.size (h.old F0) (intCells_one o) (by rw[hl2];omega)
  rw[hl2,Nat.zero_add]at hrun hown
  have HF:=Hi (F0.trans' F1 (fun i hi e=>by simp[Value.ownBlock]at e;omega));have HRUN:=Hi hrun;have HOW:=Hi hown;clear hrun hown F1 B0 F0 h hl2;go_enter Tryz.func135,Tryz.ntmps135
  go_wp2_with (at_builtin;refine wpList_append_run (by rfl) (.tmp 5) (.tmp 6) 103 (by rfl) _ w' (by exact HRUN.out) ?_)
  go_ret;exact⟨⟨_,rfl,HOW.out⟩,HF.out⟩
theorem cloneByte_any (v:Value)(o:List UInt8)(w:World)(h:Bytes w v o)(hl:o.length≤100000000000) :
  Calls Tryz.prog 114 #[v] w fun e w'=>(∃ u,e=.returned u∧w'.ownsRow w.heap.size 5 1 u o.length (Lib.byteCells o))∧Fz w w':=by
 obtain⟨a,cap,rfl,-⟩:=Vals.form h
 have qT:∀ (w:World) (a:Option Addr) (n c n' c':Nat),(binOp .eql 38 (.slice a n c) (.slice none n' c')).run Tryz.prog w=.ok (.bool a.isNone) w:=fun w a n c n' c'=>Lib.run_eql_slice_nil w _ _ a n c n' c' Tryz.underlying38
 cases a with
 |none=>
  have h0:o=[]:=by
   obtain⟨a0,c0,he,_,_,hx⟩:=Vals.form h
   cases o with
   |nil=>rfl
   |cons u s=>
    obtain⟨b,o,e,-⟩:=hx (by simp)
    simp only[Value.slice.injEq]at he
    rw[e]at he
    cases he.1
  subst h0;clear h;go_enter Tryz.func114,Tryz.ntmps114
  go_wp2_with fail
  go_ret;exact⟨⟨_,rfl,rfl,.inl ⟨rfl,rfl⟩⟩,Fr.refl _⟩
 |some ad=>
  have B0:=Blk.new w 5 #[];have F0:Fz w (w.alloc (.cells #[] 5)):=(Fr.refl w).alloc _;have hl2:(Lib.byteCells o).length=o.length:=byteCells_len o;obtain⟨a',c',w',hrun,hown,F1,-⟩:=append_vals Tryz.underlying38 info5 rfl (by decide) (own_block B0 0 (Nat.le_refl _) (Nat.zero_le _) w.heap.size (Nat.le_refl _)) F0.size (h.old F0) (byteCells_one o) (by rw[hl2];omega)
  rw[hl2,Nat.zero_add]at hrun hown
  have HF:=Hi (F0.trans' F1 (fun i hi e=>by simp[Value.ownBlock]at e;omega));have HRUN:=Hi hrun;have HOW:=Hi hown;clear hrun hown F1 B0 F0 h hl2;go_enter Tryz.func114,Tryz.ntmps114
  go_wp2_with (at_builtin;refine wpList_append_run (by rfl) (.tmp 5) (.tmp 6) 38 (by rfl) _ w' (by exact HRUN.out) ?_)
  go_ret;exact⟨⟨_,rfl,HOW.out⟩,HF.out⟩
def writeRdnOut (w w':World)(r:Option (List (List UInt8)))(e:Ending):Prop:=
 match r with
 |none=>e=.returned (.tuple #[.slice none 0 0,.int .i64 1])
 |some ws=>∃ a c,e=.returned (.tuple #[.slice a (rdnWhole ws).length c,.int .i64 0])∧w'.ownsRow w.heap.size 5 1 (.slice a (rdnWhole ws).length c) (rdnWhole ws).length (Lib.byteCells (rdnWhole ws))
structure Frm where
 tag:Tag
 set:Bool
 b:List UInt8
def frmCells (f:Frm)(bv:Value):List Value:=[.int .i64 f.tag.cls,.int .i64 f.tag.num,.bool f.tag.made,.bool f.set,bv]
def Frm.more (f:Frm)(l:List UInt8):Frm:=⟨f.tag,f.set,f.b++l⟩
end Go.Proofs.YtehlipgmkinfbaaGreatDoor
