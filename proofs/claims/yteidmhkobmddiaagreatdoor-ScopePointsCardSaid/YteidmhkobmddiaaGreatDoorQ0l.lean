/-
  Merged by program: XGenTo XGenF XGenFe XIxNum XIxOrd XIxSide XKyS XIxLaw XIxAt XGMore XPtAt XRdP XNAdd XScStep XWh1 XHeld2 XWh2 XWh3.
-/
import Derived.Test.YteidmhkobmddiaaGreatDoorQ0k
set_option linter.unusedSimpArgs false
set_option maxRecDepth 100000
set_option maxHeartbeats 8000000
namespace Go.Q
open Go Go.RowKit
theorem bytes_keeps {wb w:World}{v:Value}{l:List UInt8}(h:Bytes wb v l)(F:Fr (fun k=>wb.heap.size≤k) wb w)(K:Nat→Prop)(hK:∀ k,K k→wb.heap.size≤k):Kept (fun W=>Bytes W v l) K w:=fun W f=>
 h.fr (F.trans (f.mono (fun k _ hk=>hK k hk))) (fun h0 k hk hs=>by have:=h.lt h0 k hk;omega)
def cutGen (g:Gen):Gen:=⟨g.k,g.b.take 300,cutName (g.n.take 5)⟩
def fewS (l:List Gen):List Gen:=(l.take 20).map cutGen
theorem few_take {l:List Gen}{j:Nat}{x:Gen}(h:l[j]? = some x):(l.take (j+1)).map cutGen=(l.take j).map cutGen++[cutGen x]:=by
 rw[List.take_add_one,h,List.map_append]
 rfl
open Go
def trimS:List UInt8→List UInt8
 | []=>[]
 |x::t=>if x=0 then trimS t else x::t
def natOf:List UInt8→Nat
 | []=>0
 |x::t=>x.toNat * 256 ^ t.length+natOf t
def Lean0:List UInt8→Prop
 | []=>True
 |x::_=>x≠0
def cmpZ (x y:Int):Int:=if x<y then -1 else if x=y then 0 else 1
def sizesS (a b:List UInt8):Int:=if a.length=b.length then cmpS a b else if a.length<b.length then -1 else 1
structure NumT where
 below:Bool
 size:List UInt8
deriving DecidableEq
def madeS (n:NumT):NumT:=⟨n.below&&decide (0<(trimS n.size).length),trimS n.size⟩
def numV (n:NumT):Int:=if n.below then -(natOf n.size:Int) else natOf n.size
def numC (a b:NumT):Int:=cmpZ (numV a) (numV b)
structure Ord3 {κ:Type}(lt:κ→κ→Bool):Prop where
 irr:∀ a,lt a a=false
 tr:∀ a b c,lt a b=true→lt b c=true→lt a c=true
 tot:∀ a b,lt a b=true∨a=b∨lt b a=true
section
variable {α κ:Type}{lt:κ→κ→Bool}{key:α→κ}
def Up (lt:κ→κ→Bool)(key:α→κ)(l:List α):Prop:=l.Pairwise (fun x y=>lt (key x) (key y)=true)
def freeL (key:α→κ)(out l:List α):Prop:=l.Pairwise (fun x y=>key x≠key y)∧∀ x∈out,∀ y∈l,key x≠key y
variable [DecidableEq κ]
def Upw (lt:κ→κ→Bool)(key:α→κ)(l:List α):Prop:=l.Pairwise (fun x y=>lt (key y) (key x)=false)
def apartB (key:α→κ):List α→Bool
 |x::y::t=>decide (key x≠key y)&&apartB key (y::t)
 |_=>true
def insS (lt:κ→κ→Bool)(key:α→κ):List α→α→Option (List α)
 | [],r=>some [r]
 |x::t,r=>if lt (key x) (key r)=true then (insS lt key t r).map (x::·) else if key x=key r then none else some (r::x::t)
def newS (lt:κ→κ→Bool)(key:α→κ)(out:List α):List α→Option (List α)
 | []=>some out
 |r::t=>match insS lt key out r with
  |none=>none
  |some o=>newS lt key o t
end
section
variable {α κ:Type}{lt:κ→κ→Bool}{key:α→κ}
def pairK (key:α→κ):Option α × Option α→Option κ
 |(some x,_)=>some (key x)
 |(none,some y)=>some (key y)
 |(none,none)=>none
def PairOf (key:α→κ)(l m:List α)(p:Option α × Option α):Prop:=
 (∃ x∈l,p=(some x,none)∧∀ z∈m,key z≠key x)∨(∃ y∈m,p=(none,some y)∧∀ z∈l,key z≠key y)∨∃ x∈l,∃ y∈m,p=(some x,some y)∧key x=key y
def upP (lt:κ→κ→Bool)(key:α→κ)(ps:List (Option α × Option α)):Prop:=ps.Pairwise (fun p q=>∃ a b,pairK key p=some a∧pairK key q=some b∧lt a b=true)
variable [DecidableEq κ]
def sideS (lt:κ→κ→Bool)(key:α→κ):List α→List α→List (Option α × Option α)
 | [],[]=>[]
 |x::l,[]=>(some x,none)::sideS lt key l []
 | [],y::m=>(none,some y)::sideS lt key [] m
 |x::l,y::m=>if lt (key x) (key y)=true then (some x,none)::sideS lt key l (y::m) else if key x=key y then (some x,some y)::sideS lt key l m else (none,some y)::sideS lt key (x::l) m
termination_by l m=>l.length+m.length
end
abbrev Key1:=List UInt8
def behindB (last:Option Key1)(k:Key1):Bool:=match last with|none=>true|some l=>decide (l<k)
def betterB (best:Option Key1)(k:Key1):Bool:=match best with|none=>true|some b=>decide (k<b)
def pickStep (last best:Option Key1)(k:Key1):Option Key1:=if (behindB last k&&betterB best k)=true then some k else best
def pickS (last:Option Key1)(ks:List Key1):Option Key1:=ks.foldl (pickStep last) none
def lastOf (D:List Key1)(j:Nat):Option Key1:=if j=0 then none else D[j-1]?
def keysS (l:List Part):List Key1:=Lib.compact (sortS (partKeys l))
structure RowP where
 iss:List (List Part)
 num:NumT
 date:Int
 reason:Int
 inv:Option Int
def rowK (r:RowP):List UInt8 × Int:=(nameKeyS r.iss,numV r.num)
def ltK (p q:List UInt8 × Int):Bool:=decide (p.1<q.1)||(decide (p.1=q.1)&&decide (p.2<q.2))
abbrev UpR (l:List RowP):Prop:=Up ltK rowK l
def cmpL (a b:List UInt8):Int:=if a<b then -1 else if b<a then 1 else 0
def rowC (a b:RowP):Int:=if ltK (rowK a) (rowK b)=true then -1 else if rowK a=rowK b then 0 else 1
def nrow (r:RowP):RowP:={ r with num:=madeS r.num }
abbrev newR (out l:List RowP):Option (List RowP):=newS ltK rowK out l
def likeR (a b:RowP):Bool:=decide (a.date=b.date)&&(decide (a.reason=b.reason)&&decide (a.inv=b.inv))
def placeR (s:RowP):List RowP→Nat→Nat × Bool
 | [],n=>(n,false)
 |x::t,n=>if rowC x s=0 then (n,true) else placeR s t (if rowC x s<0 then n+1 else n)
def aheadR (l:List RowP)(s:RowP):Nat:=(l.takeWhile (fun x=>ltK (rowK x) (rowK s))).length
def mergeG:Option RowP × Option RowP→Option RowP
 |(a,none)=>a
 |(_,some b)=>if b.reason=8 then none else some b
def goneR (r:RowP):RowP:={ r with reason:=8,inv:=none }
def deltaG:Option RowP × Option RowP→Option RowP
 |(some a,none)=>some (goneR a)
 |(none,none)=>none
 |(none,some b)=>some b
 |(some a,some b)=>if likeR a b=true then none else some b
abbrev sideR (l m:List RowP):List (Option RowP × Option RowP):=sideS ltK rowK l m
def mergeS (l m:List RowP):List RowP:=(sideR l m).filterMap mergeG
def deltaS (l m:List RowP):List RowP:=(sideR l m).filterMap deltaG
def sameP:Option RowP × Option RowP→Bool
 |(some a,some b)=>likeR a b
 |_=>false
def sameS (l m:List RowP):Bool:=(sideR l m).all sameP
def refMergeL (base delta:List RowP):List RowP:=base.filter (fun r=>!(placeR r delta 0).2)++delta.filter (fun r=>decide (r.reason≠8))
def refDeltaL (fr tt:List RowP):List RowP:=tt.filter (fun r=>!(placeR r fr 0).2||!(match fr[(placeR r fr 0).1]? with|some x=>likeR x r|none=>false))++(fr.filter (fun r=>!(placeR r tt 0).2)).map goneR
def refSame:List RowP→List RowP→Bool
 | [],[]=>true
 |x::l,y::m=>decide (rowC x y=0)&&(likeR x y&&refSame l m)
 |_,_=>false
def InvAt (W:World)(v:Value):Option Int→Prop
 |none=>v=.pointer none
 |some t=>∃ b o,v=.pointer (some ⟨b,o,none⟩)∧W.cell? ⟨b,o,none⟩=some (.int .i64 t)
theorem InvAt.old {w w':World}{v:Value}{i:Option Int}(h:InvAt w v i)(f:Fz w w'):InvAt w' v i:=by
 cases i with
 |none=>exact h
 |some t=>
  obtain⟨b,o,rfl,hc⟩:=h
  exact⟨b,o,rfl,f.cell hc (fun h=>h)⟩
theorem InvAt.form {w:World}{v:Value}{i:Option Int}(h:InvAt w v i):∃ q,v=.pointer q:=by
 cases i with
 |none=>exact⟨none,h⟩
 |some t=>obtain⟨b,o,rfl,-⟩:=h;exact⟨_,rfl⟩
def RRow (W:World)(cs:List Value)(r:RowP):Prop:=∃ vi vs vp,cs=[vi,.bool r.num.below,vs,.int .i64 r.date,.int .i64 r.reason,vp]∧NameAt W vi r.iss∧Bytes W vs r.num.size∧InvAt W vp r.inv
def RSlot (W:World)(cs:List Value)(r:RowP):Prop:=∃ us,cs=str (nameKeyS r.iss)::us∧RRow W us r
def RRef (W:World)(cs:List Value)(r:RowP):Prop:=∃ vi vs,cs=[vi,.bool r.num.below,vs,.int .i64 r.date,.int .i64 r.reason,.bool r.inv.isSome,.int .i64 (r.inv.getD 0)]∧NameAt W vi r.iss∧Bytes W vs r.num.size
structure RowI where
 iss:List (List Part)
 num:NumT
 date:Int
 reason:Int
 dated:Bool
 inv:Int
def RRefI (W:World)(cs:List Value)(r:RowI):Prop:=∃ vi vs,cs=[vi,.bool r.num.below,vs,.int .i64 r.date,.int .i64 r.reason,.bool r.dated,.int .i64 r.inv]∧NameAt W vi r.iss∧Bytes W vs r.num.size
abbrev Rows (W:World)(v:Value)(l:List RowP):Prop:=LAt 6 RRow W v l
abbrev Slots (W:World)(v:Value)(l:List RowP):Prop:=LAt 7 RSlot W v l
abbrev Refs (W:World)(v:Value)(l:List RowP):Prop:=LAt 7 RRef W v l
abbrev RefsI (W:World)(v:Value)(l:List RowI):Prop:=LAt 7 RRefI W v l
theorem RRow.old (w w':World)(cs:List Value)(r:RowP)(h:RRow w cs r)(f:Fz w w'):RRow w' cs r:=by
 obtain⟨vi,vs,vp,rfl,h1,h2,h3⟩:=h
 exact⟨vi,vs,vp,rfl,h1.old f,h2.old f,h3.old f⟩
theorem RSlot.old (w w':World)(cs:List Value)(r:RowP)(h:RSlot w cs r)(f:Fz w w'):RSlot w' cs r:=by
 obtain⟨us,rfl,h1⟩:=h
 exact⟨us,rfl,RRow.old _ _ _ _ h1 f⟩
theorem RRef.old (w w':World)(cs:List Value)(r:RowP)(h:RRef w cs r)(f:Fz w w'):RRef w' cs r:=by
 obtain⟨vi,vs,rfl,h1,h2⟩:=h
 exact⟨vi,vs,rfl,h1.old f,h2.old f⟩
theorem RRefI.old (w w':World)(cs:List Value)(r:RowI)(h:RRefI w cs r)(f:Fz w w'):RRefI w' cs r:=by
 obtain⟨vi,vs,rfl,h1,h2⟩:=h
 exact⟨vi,vs,rfl,h1.old f,h2.old f⟩
theorem Rows.old {w w':World}{v:Value}{l:List RowP}(h:Rows w v l)(f:Fz w w'):Rows w' v l:=LAt.old RRow.old h f
theorem Slots.old {w w':World}{v:Value}{l:List RowP}(h:Slots w v l)(f:Fz w w'):Slots w' v l:=LAt.old RSlot.old h f
theorem Refs.old {w w':World}{v:Value}{l:List RowP}(h:Refs w v l)(f:Fz w w'):Refs w' v l:=LAt.old RRef.old h f
theorem RefsI.old {w w':World}{v:Value}{l:List RowI}(h:RefsI w v l)(f:Fz w w'):RefsI w' v l:=LAt.old RRefI.old h f
theorem RRow.form {w:World}{cs:List Value}{r:RowP}(h:RRow w cs r):∃ a c b d q,cs=[.slice a r.iss.length c,.bool r.num.below,.slice b r.num.size.length d,.int .i64 r.date,.int .i64 r.reason,.pointer q]∧NameAt w (.slice a r.iss.length c) r.iss∧Bytes w (.slice b r.num.size.length d) r.num.size∧InvAt w (.pointer q) r.inv:=by
 obtain⟨vi,vs,vp,rfl,h1,h2,h3⟩:=h
 obtain⟨a,c,rfl⟩:=NameAt.shape h1
 obtain⟨b,d,rfl,-⟩:=h2.form
 obtain⟨q,rfl⟩:=h3.form
 exact⟨a,c,b,d,q,rfl,h1,h2,h3⟩
theorem RRef.form {w:World}{cs:List Value}{r:RowP}(h:RRef w cs r):∃ a c b d,cs=[.slice a r.iss.length c,.bool r.num.below,.slice b r.num.size.length d,.int .i64 r.date,.int .i64 r.reason,.bool r.inv.isSome,.int .i64 (r.inv.getD 0)]∧NameAt w (.slice a r.iss.length c) r.iss∧Bytes w (.slice b r.num.size.length d) r.num.size:=by
 obtain⟨vi,vs,rfl,h1,h2⟩:=h
 obtain⟨a,c,rfl⟩:=NameAt.shape h1
 obtain⟨b,d,rfl,-⟩:=h2.form
 exact⟨a,c,b,d,rfl,h1,h2⟩
theorem RRefI.form {w:World}{cs:List Value}{r:RowI}(h:RRefI w cs r):∃ a c b d,cs=[.slice a r.iss.length c,.bool r.num.below,.slice b r.num.size.length d,.int .i64 r.date,.int .i64 r.reason,.bool r.dated,.int .i64 r.inv]∧NameAt w (.slice a r.iss.length c) r.iss∧Bytes w (.slice b r.num.size.length d) r.num.size:=by
 obtain⟨vi,vs,rfl,h1,h2⟩:=h
 obtain⟨a,c,rfl⟩:=NameAt.shape h1
 obtain⟨b,d,rfl,-⟩:=h2.form
 exact⟨a,c,b,d,rfl,h1,h2⟩
theorem RRow.one {w:World}{cs:List Value}{r:RowP}(h:RRow w cs r):∀ u∈cs,u.oneCell'=true:=by
 obtain⟨a,c,b,d,q,rfl,-⟩:=h.form
 simp[Value.oneCell']
theorem RSlot.one {w:World}{cs:List Value}{r:RowP}(h:RSlot w cs r):∀ u∈cs,u.oneCell'=true:=by
 obtain⟨us,rfl,h1⟩:=h
 intro u hu;rcases List.mem_cons.1 hu with q|q
 ·rw[q];simp[Value.oneCell']
 ·exact h1.one u q
theorem RRef.one {w:World}{cs:List Value}{r:RowP}(h:RRef w cs r):∀ u∈cs,u.oneCell'=true:=by
 obtain⟨a,c,b,d,rfl,-⟩:=h.form
 simp[Value.oneCell']
theorem LAt.get {α:Type}{sz:Nat}{R:World→List Value→α→Prop}{w:World}{a:Option Addr}{n c:Nat}{l:List α}(h:LAt sz R w (.slice a n c) l){i:Nat}{x:α}(hi:l[i]? = some x):∃ b o cs,a=some ⟨b,o,none⟩∧n=l.length∧cs.length=sz∧R w cs x∧∀ j u,cs[j]? = some u→w.cell? ⟨b,o+i*sz+j,none⟩=some u:=by
 obtain⟨a0,c0,he,h1,h2,h3⟩:=h
 simp only[Value.slice.injEq]at he
 obtain⟨rfl,rfl,rfl⟩:=he
 have hil:=(List.getElem?_eq_some_iff.1 hi).1;obtain⟨b,o,rfl,hy⟩:=h3 (by omega)
 obtain⟨cs,e1,e2,e3⟩:=hy i x hi
 refine⟨b,o,cs,rfl,rfl,e1,e3,fun j u hu=>?_⟩
 have:=e2 j u hu;rwa[Nat.mul_comm sz i]at this
def IxAt (W:World)(v:Value)(l:List RowP):Prop:=(v=.pointer none∧l=[])∨∃ b u,v=.pointer (some ⟨b,0,none⟩)∧W.cell? ⟨b,0,none⟩=some u∧Slots W u l
theorem IxAt.old {w w':World}{v:Value}{l:List RowP}(h:IxAt w v l)(f:Fz w w'):IxAt w' v l:=by
 rcases h with h|⟨b,u,rfl,h1,h2⟩
 ·exact .inl h
 ·exact .inr ⟨b,u,rfl,f.cell h1 (fun h=>h),Slots.old h2 f⟩
theorem kept_old {wb w:World}{R:World→Prop}(hR:∀ W,Fz wb W→R W)(F:Fr (fun k=>wb.heap.size≤k) wb w)(K:Nat→Prop)(hK:∀ k,K k→wb.heap.size≤k):Kept R K w:=fun W f=>
 hR W ((F.trans (f.mono (fun k _ h=>hK k h))).mono (fun i hi h=>absurd h (by omega)))
section
variable {α:Type}{sz:Nat}{R:World→List Value→α→Prop}
variable {K:Nat→Prop}{t:TypeId}{w:World}{base:Nat}{v:Value}{l:List α}
end
structure WhereT where
 ns:List Gen
 st:List Part
structure PointT where
 pl:Option WhereT
 rs:List Int
 is:List Gen
structure PointD where
 has:Bool
 ns:List Gen
 st:List Part
 rs:List Int
 is:List Gen
def nsOf:Option WhereT→List Gen
 |none=>[]
 |some x=>x.ns
def stOf:Option WhereT→List Part
 |none=>[]
 |some x=>x.st
def ofPt (p:PointT):PointD:=⟨p.pl.isSome,nsOf p.pl,stOf p.pl,p.rs,p.is⟩
def cutPlace (p:PointD):Option WhereT:=if p.has then some ⟨fewS p.ns,cutStep p.st⟩ else none
def cutPt (p:PointD):PointT:=⟨cutPlace p,p.rs.take 20,fewS p.is⟩
def PlaceAt (W:World)(v:Value):Option WhereT→Prop
 |none=>v=.pointer none
 |some x=>∃ b a c d e,v=pt b∧Blk W b 151 #[.slice a x.ns.length c,.slice d x.st.length e]∧Gens W (.slice a x.ns.length c) x.ns∧Attrs W (.slice d x.st.length e) x.st
theorem PlaceAt.old {w w':World}{v:Value}{o:Option WhereT}(h:PlaceAt w v o)(f:Fz w w'):PlaceAt w' v o:=by
 cases o with
 |none=>exact h
 |some x=>
  obtain⟨b,a,c,d,e,rfl,h1,h2,h3⟩:=h
  exact⟨b,a,c,d,e,rfl,h1.fr f (fun h=>h),h2.old f,h3.old f⟩
theorem PlaceAt.form {w:World}{v:Value}{o:Option WhereT}(h:PlaceAt w v o):∃ q,v=.pointer q:=by
 cases o with
 |none=>exact⟨none,h⟩
 |some x=>obtain⟨b,a,c,d,e,rfl,-⟩:=h;exact⟨_,rfl⟩
def PtIn (W:World)(vp vr vi:Value)(p:PointT):Prop:=PlaceAt W vp p.pl∧Ints W vr p.rs∧Gens W vi p.is
theorem PtIn.old {w w':World}{vp vr vi:Value}{p:PointT}(h:PtIn w vp vr vi p)(f:Fz w w'):PtIn w' vp vr vi p:=⟨h.1.old f,h.2.1.old f,h.2.2.old f⟩
theorem Gens.shape {w:World}{v:Value}{l:List Gen}(h:Gens w v l):∃ a c,v=.slice a l.length c:=by
 obtain⟨a,c,rfl,-⟩:=h
 exact⟨a,c,rfl⟩
theorem PtIn.form {w:World}{vp vr vi:Value}{p:PointT}(h:PtIn w vp vr vi p):∃ q a c d e,vp=.pointer q∧vr=.slice a p.rs.length c∧vi=.slice d p.is.length e:=by
 obtain⟨h1,h2,h3⟩:=h
 obtain⟨q,rfl⟩:=h1.form
 obtain⟨a,c,rfl,-⟩:=Ints.form h2
 obtain⟨d,e,rfl⟩:=Gens.shape h3
 exact⟨q,a,c,d,e,rfl,rfl,rfl⟩
def RPt (W:World)(cs:List Value)(p:PointT):Prop:=∃ vp vr vi,cs=[vp,vr,vi]∧PtIn W vp vr vi p
abbrev Pts (W:World)(v:Value)(l:List PointT):Prop:=LAt 3 RPt W v l
theorem RPt.old (w w':World)(cs:List Value)(p:PointT)(h:RPt w cs p)(f:Fz w w'):RPt w' cs p:=by
 obtain⟨vp,vr,vi,rfl,h1⟩:=h
 exact⟨vp,vr,vi,rfl,h1.old f⟩
theorem Pts.old {w w':World}{v:Value}{l:List PointT}(h:Pts w v l)(f:Fz w w'):Pts w' v l:=LAt.old RPt.old h f
theorem RPt.form {w:World}{cs:List Value}{p:PointT}(h:RPt w cs p):∃ q a c d e,cs=[.pointer q,.slice a p.rs.length c,.slice d p.is.length e]∧PtIn w (.pointer q) (.slice a p.rs.length c) (.slice d p.is.length e) p:=by
 obtain⟨vp,vr,vi,rfl,h1⟩:=h
 obtain⟨q,a,c,d,e,rfl,rfl,rfl⟩:=h1.form
 exact⟨q,a,c,d,e,rfl,h1⟩
theorem RPt.one {w:World}{cs:List Value}{p:PointT}(h:RPt w cs p):∀ u∈cs,u.oneCell'=true:=by
 obtain⟨q,a,c,d,e,rfl,-⟩:=h.form
 simp[Value.oneCell']
theorem LAt.shape {α:Type}{sz:Nat}{R:World→List Value→α→Prop}{w:World}{v:Value}{l:List α}(h:LAt sz R w v l):∃ a c,v=.slice a l.length c:=by
 obtain⟨a,c,rfl,-⟩:=h
 exact⟨a,c,rfl⟩
def PdIn (W:World)(vn vs vr vi:Value)(p:PointD):Prop:=Gens W vn p.ns∧Attrs W vs p.st∧Ints W vr p.rs∧Gens W vi p.is
theorem PdIn.old {w w':World}{vn vs vr vi:Value}{p:PointD}(h:PdIn w vn vs vr vi p)(f:Fz w w'):PdIn w' vn vs vr vi p:=⟨h.1.old f,h.2.1.old f,h.2.2.1.old f,h.2.2.2.old f⟩
theorem PdIn.form {w:World}{vn vs vr vi:Value}{p:PointD}(h:PdIn w vn vs vr vi p):∃ a1 c1 a2 c2 a3 c3 a4 c4,vn=.slice a1 p.ns.length c1∧vs=.slice a2 p.st.length c2∧vr=.slice a3 p.rs.length c3∧vi=.slice a4 p.is.length c4:=by
 obtain⟨h1,h2,h3,h4⟩:=h
 obtain⟨a1,c1,rfl⟩:=Gens.shape h1
 obtain⟨a2,c2,rfl,-⟩:=h2
 obtain⟨a3,c3,rfl,-⟩:=Ints.form h3
 obtain⟨a4,c4,rfl⟩:=Gens.shape h4
 exact⟨a1,c1,a2,c2,a3,c3,a4,c4,rfl,rfl,rfl,rfl⟩
def RPd (W:World)(cs:List Value)(p:PointD):Prop:=∃ vn vs vr vi,cs=[.bool p.has,vn,vs,vr,vi]∧PdIn W vn vs vr vi p
abbrev Pds (W:World)(v:Value)(l:List PointD):Prop:=LAt 5 RPd W v l
theorem RPd.old (w w':World)(cs:List Value)(p:PointD)(h:RPd w cs p)(f:Fz w w'):RPd w' cs p:=by
 obtain⟨vn,vs,vr,vi,rfl,h1⟩:=h
 exact⟨vn,vs,vr,vi,rfl,h1.old f⟩
theorem Pds.old {w w':World}{v:Value}{l:List PointD}(h:Pds w v l)(f:Fz w w'):Pds w' v l:=LAt.old RPd.old h f
theorem RPd.form {w:World}{cs:List Value}{p:PointD}(h:RPd w cs p):∃ a1 c1 a2 c2 a3 c3 a4 c4,cs=[.bool p.has,.slice a1 p.ns.length c1,.slice a2 p.st.length c2,.slice a3 p.rs.length c3,.slice a4 p.is.length c4]∧PdIn w (.slice a1 p.ns.length c1) (.slice a2 p.st.length c2) (.slice a3 p.rs.length c3) (.slice a4 p.is.length c4) p:=by
 obtain⟨vn,vs,vr,vi,rfl,h1⟩:=h
 obtain⟨a1,c1,a2,c2,a3,c3,a4,c4,rfl,rfl,rfl,rfl⟩:=h1.form
 exact⟨a1,c1,a2,c2,a3,c3,a4,c4,rfl,h1⟩
theorem RPd.one {w:World}{cs:List Value}{p:PointD}(h:RPd w cs p):∀ u∈cs,u.oneCell'=true:=by
 obtain⟨a1,c1,a2,c2,a3,c3,a4,c4,rfl,-⟩:=h.form
 simp[Value.oneCell']
def ROid (W:World)(cs:List Value)(o:List Int):Prop:=∃ u,cs=[u]∧Ints W u o
abbrev Oids (W:World)(v:Value)(l:List (List Int)):Prop:=LAt 1 ROid W v l
theorem ROid.old (w w':World)(cs:List Value)(o:List Int)(h:ROid w cs o)(f:Fz w w'):ROid w' cs o:=by
 obtain⟨u,rfl,h1⟩:=h
 exact⟨u,rfl,h1.old f⟩
theorem Oids.old {w w':World}{v:Value}{l:List (List Int)}(h:Oids w v l)(f:Fz w w'):Oids w' v l:=LAt.old ROid.old h f
structure ViewT where
 kid:List UInt8
 ak:List UInt8
 us:List Int
 au:Bool
 pa:Int
 ps:List PointT
 fs:List PointT
 pu:List (List Int)
 nc:Bool
structure ViewD where
 kid:List UInt8
 ak:List UInt8
 us:List Int
 au:Bool
 pa:Int
 ps:List PointD
 fs:List PointD
 pu:List (List Int)
 nc:Bool
def ofView (v:ViewT):ViewD:=⟨v.kid,v.ak,v.us,v.au,v.pa,v.ps.map ofPt,v.fs.map ofPt,v.pu,v.nc⟩
def cutView (v:ViewD):ViewT:=⟨v.kid.take 50,v.ak.take 50,v.us.take 12,v.au,v.pa,(v.ps.take 4).map cutPt,(v.fs.take 4).map cutPt,(v.pu.take 6).map (·.take 40),v.nc⟩
def ViewIn (W:World)(vk va vu vp vf vo:Value)(x:ViewT):Prop:=Bytes W vk x.kid∧Bytes W va x.ak∧Ints W vu x.us∧Pts W vp x.ps∧Pts W vf x.fs∧Oids W vo x.pu
def ViewDIn (W:World)(vk va vu vp vf vo:Value)(x:ViewD):Prop:=Bytes W vk x.kid∧Bytes W va x.ak∧Ints W vu x.us∧Pds W vp x.ps∧Pds W vf x.fs∧Oids W vo x.pu
theorem ViewIn.old {w w':World}{vk va vu vp vf vo:Value}{x:ViewT}(h:ViewIn w vk va vu vp vf vo x)(f:Fz w w'):ViewIn w' vk va vu vp vf vo x:=⟨h.1.old f,h.2.1.old f,h.2.2.1.old f,Pts.old h.2.2.2.1 f,Pts.old h.2.2.2.2.1 f,Oids.old h.2.2.2.2.2 f⟩
theorem ViewDIn.old {w w':World}{vk va vu vp vf vo:Value}{x:ViewD}(h:ViewDIn w vk va vu vp vf vo x)(f:Fz w w'):ViewDIn w' vk va vu vp vf vo x:=⟨h.1.old f,h.2.1.old f,h.2.2.1.old f,Pds.old h.2.2.2.1 f,Pds.old h.2.2.2.2.1 f,Oids.old h.2.2.2.2.2 f⟩
open Go Go.RowKit Go.ChangeShapes
section
variable {H:Type}{enc:TypeId × Value→H}{P:Program}{w:World}{base:Nat}{spare:Nat→Bool}{held:Bool}
theorem trod_struct9 {t:TypeId}{f0 f1 f2 f3 f4 f5 f6 f7 f8:Field}{fuel:Nat}{cs:List Value}{x:DataW H × List MemPlace}(ht:P.underlying t=some (.struct #[f0,f1,f2,f3,f4,f5,f6,f7,f8]))(h:DataW.trod enc P w base spare held fuel t cs=some x) :
  ∃ y0 y1 y2 y3 y4 y5 y6 y7 y8 n,cs.length=P.cellsOf t∧DataW.trod enc P w base spare held n f0.type ((cs.drop f0.offset).take (P.cellsOf f0.type))=some y0∧DataW.trod enc P w base spare held n f1.type ((cs.drop f1.offset).take (P.cellsOf f1.type))=some y1∧DataW.trod enc P w base spare held n f2.type ((cs.drop f2.offset).take (P.cellsOf f2.type))=some y2∧DataW.trod enc P w base spare held n f3.type ((cs.drop f3.offset).take (P.cellsOf f3.type))=some y3∧DataW.trod enc P w base spare held n f4.type ((cs.drop f4.offset).take (P.cellsOf f4.type))=some y4∧DataW.trod enc P w base spare held n f5.type ((cs.drop f5.offset).take (P.cellsOf f5.type))=some y5∧DataW.trod enc P w base spare held n f6.type ((cs.drop f6.offset).take (P.cellsOf f6.type))=some y6∧DataW.trod enc P w base spare held n f7.type ((cs.drop f7.offset).take (P.cellsOf f7.type))=some y7∧DataW.trod enc P w base spare held n f8.type ((cs.drop f8.offset).take (P.cellsOf f8.type))=some y8:=by
 obtain⟨xs,n,_,rfl,hl,hlen,hf⟩:=DataW.trod_struct ht h
 match xs,hlen with
 | [y0,y1,y2,y3,y4,y5,y6,y7,y8],_=>exact⟨y0,y1,y2,y3,y4,y5,y6,y7,y8,n,hl,by simpa using hf 0 f0 rfl,by simpa using hf 1 f1 rfl,by simpa using hf 2 f2 rfl,by simpa using hf 3 f3 rfl,by simpa using hf 4 f4 rfl,by simpa using hf 5 f5 rfl,by simpa using hf 6 f6 rfl,by simpa using hf 7 f7 rfl,by simpa using hf 8 f8 rfl⟩
theorem nine_of {α:Type}{l:List α}(h:l.length=9):∃ c0 c1 c2 c3 c4 c5 c6 c7 c8,l=[c0,c1,c2,c3,c4,c5,c6,c7,c8]:=by
 match l,h with
 | [c0,c1,c2,c3,c4,c5,c6,c7,c8],_=>exact⟨c0,c1,c2,c3,c4,c5,c6,c7,c8,rfl⟩
theorem five_of {α:Type}{l:List α}(h:l.length=5):∃ c0 c1 c2 c3 c4,l=[c0,c1,c2,c3,c4]:=by
 match l,h with
 | [c0,c1,c2,c3,c4],_=>exact⟨c0,c1,c2,c3,c4,rfl⟩
end
def KRow (t:TypeId)(w:World)(base:Nat)(v:Value)(l:List Part):Prop:=
 ∃ cs:List Value,w.ownsRow base t 2 v l.length cs∧∀ (i:Nat) (p:Part),l[i]? = some p→∃ x y,cs[2*i]? = some x∧cs[2*i+1]? = some y∧Kept (fun W=>Ints W x p.o∧Bytes W y p.b) (fun k=>v.ownBlock=some k∨k<base) w
theorem KRow.nil (t:TypeId)(w:World)(base:Nat):KRow t w base (.slice none 0 0) []:=⟨[],⟨rfl,.inl ⟨rfl,rfl⟩⟩,fun i p hp=>by simp at hp⟩
theorem KRow.keep {t:TypeId}{w:World}{base:Nat}{v:Value}{l:List Part}(h:KRow t w base v l):∀ k,v.ownBlock=some k→base≤k∧k<w.heap.size:=fun k hk=>by
 obtain⟨us,h1,-⟩:=h
 exact h1.lt k hk
theorem KRow.at {t:TypeId}{w:World}{base:Nat}{v:Value}{l:List Part}(h:KRow t w base v l):Attrs w v l:=by
 obtain⟨cs,h1,h2⟩:=h
 exact ARow.at (t:=t) (w:=w) (base:=base) ⟨cs,h1,fun i p hp=>by
  obtain⟨x,y,e1,e2,e3⟩:=h2 i p hp
  exact⟨x,y,e1,e2,e3.now.1,e3.now.2⟩⟩ (Fr.refl w)
theorem KRow.fr {t:TypeId}{S:Nat→Prop}{w w':World}{base:Nat}{v:Value}{l:List Part}(h:KRow t w base v l)(f:Fr S w w')(hS:∀ k,S k→k<base):KRow t w' base v l:=by
 have hk:=h.keep;obtain⟨cs,h1,h2⟩:=h
 refine⟨cs,Go.Proofs.YteidmhkobmddiaaGreatDoor.ownsRow_fr h1 f (fun k e hs=>by have:=(hk k e).1;have:=hS k hs;omega),fun i p hp=>?_⟩
 obtain⟨x,y,e1,e2,e3⟩:=h2 i p hp
 exact⟨x,y,e1,e2,e3.step f (fun k _ hs=>.inr (hS k hs)) (fun k hk=>.inl hk)⟩
theorem KRow.kept {t:TypeId}{w:World}{base:Nat}{v:Value}{l:List Part}(h:KRow t w base v l):Kept (fun W=>Attrs W v l) (fun k=>k<base) w:=fun _ f=>(h.fr f (fun _ hk=>hk)).at
theorem KRow.add {P:Program}{t s:TypeId}(hu0:P.underlying s=some (.slice t))(hinf:Info P t (.agg #[.slice none 0 0,.slice none 0 0]) 2 48){w wa:World}{base:Nat}{v x y:Value}{l:List Part}(h:KRow t w base v l)(hb:base≤w.heap.size)(F1:Fz w wa)(g:Nat)(BX:Blk wa g t #[x,y])(p:Part)(hk:Kept (fun W=>Ints W x p.o∧Bytes W y p.b) (fun k=>v.ownBlock=some k∨k<base) w)(hn:l.length≤109951162777) :
  ∃ a c w',(Builtin.append_ #[s,s] s #[v,.slice (some ⟨g,0,none⟩) 1 1]).run P wa=.ok (.slice a (l.length+1) c) w'∧KRow t w' base (.slice a (l.length+1) c) (l++[p])∧Fr (fun k=>v.ownBlock=some k) w w':=by
 obtain⟨cs,h1,h2⟩:=h
 have hcl:cs.length=l.length*2:=h1.1;obtain⟨ax,cx,rfl,-⟩:=Ints.form hk.now.1
 obtain⟨ay,cy,rfl,-⟩:=Vals.form hk.now.2
 obtain⟨a,c,w',hrun,h4,F2,h5⟩:=add_gen hu0 hinf rfl (by decide) (by decide) h1 hb F1 g [.slice ax p.o.length cx,.slice ay p.b.length cy] rfl BX (by intro u hu;simp at hu;rcases hu with rfl|rfl<;>rfl) hn
 have hst:∀ (x y:Value) (q:Part),Kept (fun W=>Ints W x q.o∧Bytes W y q.b) (fun k=>v.ownBlock=some k∨k<base) w→Kept (fun W=>Ints W x q.o∧Bytes W y q.b) (fun k=>(Value.slice a (l.length+1) c).ownBlock=some k∨k<base) w':=fun x y q hq=>
  hq.step F2 (fun _ _ h=>.inl h) (fun k hk=>by
   rcases hk with h|h
   ·rcases h5 k h with h|h
    ·exact .inl (.inl h)
    ·exact .inr h
   ·exact .inl (.inr h))
 refine⟨a,c,w',hrun,⟨cs++[.slice ax p.o.length cx,.slice ay p.b.length cy],by rw[List.length_append];exact h4,fun i q hq=>?_⟩,F2⟩
 rcases Nat.lt_or_ge i l.length with hi|hi
 ·rw[List.getElem?_append_left hi]at hq
  obtain⟨x,y,e1,e2,e3⟩:=h2 i q hq
  exact⟨x,y,by rw[List.getElem?_append_left (by omega)];exact e1,by rw[List.getElem?_append_left (by omega)];exact e2,hst _ _ _ e3⟩
 ·obtain rfl:i=l.length:=by
   have:=(List.getElem?_eq_some_iff.1 hq).1;simp at this
   omega
  rw[List.getElem?_append_right (Nat.le_refl _)]at hq
  simp at hq
  subst hq;refine⟨_,_,?_,?_,hst _ _ _ hk⟩
  ·rw[List.getElem?_append_right (by omega),show 2*l.length-cs.length=0 from by omega];rfl
  ·rw[List.getElem?_append_right (by omega),show 2*l.length+1-cs.length=1 from by omega];rfl
theorem listOf {α:Type}{p:Nat→α→Prop}:∀ n,(∀ i,i<n→∃ a,p i a)→∃ l:List α,l.length=n∧∀ i a,l[i]? = some a→p i a
 |0,_=>⟨[],rfl,fun i a h=>by simp at h⟩
 |n+1,h=>by
  obtain⟨l,hl,hp⟩:=listOf n (fun i hi=>h i (by omega))
  obtain⟨a,ha⟩:=h n (by omega)
  refine⟨l++[a],by simp[hl],fun i b hb=>?_⟩
  rcases Nat.lt_or_ge i l.length with hi|hi
  ·rw[List.getElem?_append_left hi]at hb
   exact hp i b hb
  ·rw[List.getElem?_append_right hi]at hb
   have h0:i-l.length=0:=by
    have:=(List.getElem?_eq_some_iff.1 hb).1;simp at this
    omega
   rw[h0]at hb
   simp only[List.getElem?_cons_zero,Option.some.injEq]at hb
   subst hb;obtain rfl:i=n:=by omega
   exact ha
theorem NameAt.vals {w:World}{v:Value}{n:List (List Part)}(h:NameAt w v n):∃ us,Vals w v us∧us.length=n.length∧(∀ u∈us,u.oneCell'=true)∧∀ (i:Nat) (u:Value) (r:List Part),us[i]? = some u→n[i]? = some r→Attrs w u r:=by
 obtain⟨a,cap,rfl,h1,h2,h3⟩:=h
 rcases Nat.eq_zero_or_pos n.length with h0|h0
 ·exact⟨[],⟨a,cap,by rw[h0];rfl,by simp,h2,fun h=>by simp at h⟩,by rw[h0];rfl,by simp,fun i u r h=>by simp at h⟩
 ·obtain⟨b,o,rfl,hy⟩:=h3 h0
  obtain⟨us,hl,hp⟩:=listOf (p:=fun i u=>w.cell? ⟨b,o+i,none⟩=some u∧∀ r,n[i]? = some r→Attrs w u r) n.length (fun i hi=>by
   obtain⟨x,e1,e2⟩:=hy i _ (List.getElem?_eq_getElem hi)
   exact⟨x,e1,fun r hr=>by rw[List.getElem?_eq_getElem hi]at hr;cases hr;exact e2⟩)
  refine⟨us,⟨_,cap,by rw[hl],by omega,h2,fun _=>⟨b,o,rfl,fun i u hu=>(hp i u hu).1⟩⟩,hl,fun u hu=>?_,fun i u r hu hr=>(hp i u hu).2 r hr⟩
  obtain⟨i,hi⟩:=List.mem_iff_getElem?.1 hu
  have hil:i<n.length:=by have:=(List.getElem?_eq_some_iff.1 hi).1;omega
  obtain⟨ax,cx,rfl⟩:=((hp i u hi).2 _ (List.getElem?_eq_getElem hil)).form
  rfl
def NamesAt (wb w:World)(v:Value)(L:List (List (List Part))):Prop:=
 ∃ a cap,v=.slice a L.length cap∧(0<L.length→∃ b o,a=some ⟨b,o,none⟩∧∀ i n,L[i]? = some n→∃ x,w.cell? ⟨b,o+i,none⟩=some x∧NameAt wb x n)
def CRow (t:TypeId)(w wr:World)(base:Nat)(v:Value)(n:List (List Part)):Prop:=
 ∃ us:List Value,wr.ownsRow base t 1 v n.length us∧us.length=n.length∧∀ (i:Nat) (u:Value) (r:List Part),us[i]? = some u→n[i]? = some r→Attrs w u r
theorem CRow.at {t:TypeId}{w wr:World}{base:Nat}{v:Value}{n:List (List Part)}(h:CRow t w wr base v n)(F:Fz w wr):NameAt wr v n:=by
 obtain⟨us,h1,h2,h3⟩:=h
 obtain⟨a,cap,he,hc,hm,hx⟩:=(Vals.of_own h1).1
 rw[h2]at he hc hx
 refine⟨a,cap,he,hc,hm,fun h0=>?_⟩
 obtain⟨b,o,rfl,hy⟩:=hx h0
 refine⟨b,o,rfl,fun i r hr=>?_⟩
 have hi:i<us.length:=by rw[h2];exact(List.getElem?_eq_some_iff.1 hr).1
 exact⟨us[i],hy i _ (List.getElem?_eq_getElem hi),(h3 i _ r (List.getElem?_eq_getElem hi) hr).old F⟩
theorem CRow.keep {t:TypeId}{w wr:World}{base:Nat}{v:Value}{n:List (List Part)}(h:CRow t w wr base v n):∀ k,v.ownBlock=some k→base≤k∧k<wr.heap.size:=fun k hk=>by
 obtain⟨us,h1,-⟩:=h
 exact h1.lt k hk
theorem CRow.fr {t:TypeId}{S:Nat→Prop}{w wr w':World}{base:Nat}{v:Value}{n:List (List Part)}(h:CRow t w wr base v n)(f:Fr S wr w')(hS:∀ k,v.ownBlock=some k→¬S k):CRow t w w' base v n:=by
 obtain⟨us,h1,h2⟩:=h
 exact⟨us,Go.Proofs.YteidmhkobmddiaaGreatDoor.ownsRow_fr h1 f hS,h2⟩
theorem CRow.shape {t:TypeId}{w wr:World}{base:Nat}{v:Value}{n:List (List Part)}(h:CRow t w wr base v n):∃ a c,v=.slice a n.length c:=by
 obtain⟨us,h1,-⟩:=h
 obtain⟨a,m,c,rfl,rfl⟩:=own_shape h1
 exact⟨a,c,rfl⟩
theorem CRow.add {P:Program}{t s:TypeId}(hu0:P.underlying s=some (.slice t))(hinf:Info P t (.slice none 0 0) 1 24){w wr:World}{base:Nat}{v u:Value}{n r:List (List Part)}(h:CRow t w wr base v n)(hb:base≤wr.heap.size)(F:Fz w wr)(hr:NameAt w u r)(hn:n.length+r.length≤1099511627776) :
  ∃ a c w',(Builtin.append_ #[s,s] s #[v,u]).run P wr=.ok (.slice a (n.length+r.length) c) w'∧CRow t w w' base (.slice a (n.length+r.length) c) (n++r)∧Fr (fun k=>v.ownBlock=some k) wr w':=by
 obtain⟨us,h1,h2,h3⟩:=h
 obtain⟨ns,g1,g2,g3,g4⟩:=hr.vals
 obtain⟨a,c,w',hrun,h4,F2,-⟩:=append_vals hu0 hinf rfl (by decide) h1 hb (g1.old F) g3 (by rw[g2];exact hn)
 rw[g2]at hrun h4
 refine⟨a,c,w',hrun,⟨us++ns,by rw[List.length_append];exact h4,by rw[List.length_append,List.length_append,h2,g2],fun i x q hx hq=>?_⟩,F2⟩
 rcases Nat.lt_or_ge i us.length with hi|hi
 ·rw[List.getElem?_append_left hi]at hx
  rw[List.getElem?_append_left (by omega)]at hq
  exact h3 i x q hx hq
 ·rw[List.getElem?_append_right hi]at hx
  rw[List.getElem?_append_right (by omega)]at hq
  rw[h2]at hx
  exact g4 _ x q hx hq
section
variable {P:Program}{ops:Array Oper}{Q:Exit→Act→World→Prop}{md:Region.Mode}{k1 k2:Nat}{C1 C2:World→Prop}
def Two (k1 k2:Nat)(C1 C2:World→Prop)(L:Array Bool)(w:World):Prop:=(L.getD k1 true=false→C1 w)∧(L.getD k2 true=false→C2 w)
def wpAny2 (P:Program)(md:Region.Mode)(ops:Array Oper)(Q:Exit→Act→World→Prop)(k1 k2:Nat)(C1 C2:World→Prop):Nat→Array Bool→Act→World→Prop
 |0,listed,a,w=>Region.ready md ops listed=[]∧Q .normal a w
 |f+1,listed,a,w=>(Region.ready md ops listed=[]→Q .normal a w)∧
  ∀ i∈Region.ready md ops listed,wpOp P ops Q i (fun b u=>Two k1 k2 C1 C2 (listed.setIfInBounds i true) u∧wpAny2 P md ops Q k1 k2 C1 C2 f (listed.setIfInBounds i true) b u) a w
def waitOn (md:Region.Mode)(ops:Array Oper)(k i:Nat):Bool:=match ops[k]? with|some o=>o.after.any (fun e=>Region.binds md e&&e.on==i)|none=>false
def All2 (P:Program)(md:Region.Mode)(ops:Array Oper)(Q:Exit→Act→World→Prop)(k1 k2:Nat)(C1 C2:World→Prop)(f:Nat)(listed:Array Bool)(a:Act)(w:World)(rs:List Nat):Prop:=
 ∀ i∈rs,wpOp P ops Q i (fun b u=>Two k1 k2 C1 C2 (listed.setIfInBounds i true) u∧wpAny2 P md ops Q k1 k2 C1 C2 f (listed.setIfInBounds i true) b u) a w
theorem All2.nil {f:Nat}{listed:Array Bool}{a:Act}{w:World}:All2 P md ops Q k1 k2 C1 C2 f listed a w []:=fun _ h=>by cases h
theorem All2.cons {f:Nat}{listed:Array Bool}{a:Act}{w:World}{i:Nat}{o:Oper}{rs:List Nat}(ho:ops[i]? = some o)
  (h:∀ K:Act→World→Prop,Shut (∀ a w,Two k1 k2 C1 C2 (listed.setIfInBounds i true) w→(Two k1 k2 C1 C2 (listed.setIfInBounds i true) w→wpAny2 P md ops Q k1 k2 C1 C2 f (listed.setIfInBounds i true) a w)→K a w)→if Region.wanted o (yielded ops a.tmps)=true then Oper.wp P o a w K Q else K (a.put o.dst undef) w)
  (hs:All2 P md ops Q k1 k2 C1 C2 f listed a w rs):All2 P md ops Q k1 k2 C1 C2 f listed a w (i::rs):=fun j hj=>by
 rcases List.mem_cons.1 hj with rfl|hj
 ·exact wpOp_step ho (fun K hK=>h K (fun a w hS hW=>hK a w ⟨hS,hW hS⟩))
 ·exact hs j hj
end
end Go.Q
namespace Go.Proofs.YteidmhkobmddiaaGreatDoor
open Go Go.RowKit Go.Q
theorem lawToK_any (v:Value)(n:List (List Part))(wb w:World)(h:NameAt wb v n)(Fb:Fz wb w) :
  Calls Tryz.prog 55 #[v] w fun e w'=>(∃ a c,e=.returned (.slice a (cutName n).length c)∧FRow (fun k=>wb.heap.size≤k∧k<w.heap.size) 143 w' w.heap.size (.slice a (cutName n).length c) (cutName n))∧Fz w w':=by
 have H:=Hi h;have HFB:=Hi Fb;obtain⟨a,cap,rfl,-⟩:=h
 have hcs:cutName n=(n.take 70).map cutStep:=rfl;have HCS:=Hi hcs;clear hcs Fb;go_enter Tryz.func55,Tryz.ntmps55
 go_wp2_with fail
 go_loopg [3,4] n.length (fun g u i wr=>∃ (j:Nat) (au:Option Addr) (cu:Nat),g=n.length-j∧j≤n.length∧j≤70∧u=.slice au j cu∧i=.int .i64 j∧FRow (fun k=>wb.heap.size≤k∧k<w.heap.size) 143 wr w.heap.size (.slice au j cu) ((n.take j).map cutStep)∧Fz w wr)
 case atStart=>exact⟨0,none,0,rfl,Nat.zero_le _,by omega,rfl,rfl,FRow.nil _ _ _ _,Fr.refl _⟩
 case round=>
  obtain⟨j,au,cu,hg,hj,hj70,rfl,rfl,hrow,F⟩:=hrel
  have HG:=Hi hg;have HRW:=Hi hrow;have HF:=Hi F;have hml:((n.take j).map cutStep).length=j:=by rw[List.length_map,List.length_take];omega
  have HML:=Hi hml;clear hg hrow hml;by_cases hjl:j<n.length
  ·have q1:(j:Int)<(n.length:Int):=by omega
   by_cases h70:j<70
   ·have q2:(j:Int)<70:=by omega
    obtain⟨a0,cap0,he,_,_,hx⟩:=H.out
    simp only[Value.slice.injEq,true_and]at he
    obtain⟨rfl,rfl⟩:=he
    obtain⟨b,off,rfl,hy⟩:=hx (by omega)
    obtain⟨r,hr⟩:∃ r,n[j]? = some r:=⟨_,List.getElem?_eq_getElem hjl⟩
    obtain⟨x,e0,hA⟩:=hy j r hr
    have e1:=(HFB.out.trans F).cell e0 (fun h=>h);have HS:=Hi (lawStep_any x r wb wr hA (HFB.out.trans F));have HMT:=Hi (map_take_succ cutStep hr);have r1:(0:Int)≤(j:Int):=by omega
    clear hx hy hr e0 hA;obtain⟨wo,hwo⟩:∃ wo:World,wo=wr:=⟨_,rfl⟩
    obtain rfl:=hwo
    go_wp2_with fail
    refine HS.out.mono ?_;rintro e w2 ⟨⟨a2,c2,rfl,hrow2⟩,F2⟩;have hkp:=HRW.out.keep;have hk2:Kept (fun W=>Attrs W (.slice a2 (cutStep r).length c2) (cutStep r)) (fun k=>(Value.slice au j cu).ownBlock=some k∨(wb.heap.size≤k∧k<w.heap.size)) w2:=hrow2.kept ((HFB.out.trans HF.out).trans F2) _ (fun k e=>by
     have g1:=HFB.out.size;have g2:=HF.out.size;rcases e with e|e
     ·have:=hkp k e
      omega
     ·omega)
    obtain⟨a7,c7,w7,hrun,hrow7,F7⟩:=FRow.add Tryz.underlying43 info143 (HRW.out.old F2) (HF.out.trans F2).size ((Fr.refl w2).alloc (.cells #[.slice a2 (cutStep r).length c2] 143)) w2.heap.size _ (cutStep r) (Blk.new w2 143 #[.slice a2 (cutStep r).length c2]) rfl hk2 (by rw[HML.out];omega)
    have HG7:=Hi ((HF.out.trans F2).trans' F7 (fun i hi e=>absurd hi (by have:=(hkp i e).1;omega)));rw[HML.out]at hrun hrow7
    have HRUN:=Hi hrun;have HROW7:=Hi hrow7;clear hrun hrow7 F7 hk2 hkp hrow2 F2 e1 HS;go_wp2_with (at_builtin;refine wpList_append_run (by rfl) (.tmp 15) (.tmp 21) 43 (by rfl) _ w7 (by exact HRUN.out) ?_)
    go_roundg (n.length-(j+1))
    case measure=>rw[HG.out];omega
    case rel=>exact⟨j+1,a7,c7,rfl,by omega,by omega,rfl,by go_num,by rw[HMT.out];exact HROW7.out,HG7.out⟩
   ·obtain rfl:j=70:=by omega
    have q2:¬((70:Nat):Int)<70:=by omega
    have hres:(n.take 70).map cutStep=cutName n:=HCS.out.symm;have hrow:=HRW.out;rw[hres]at hrow
    have hlen:70=(cutName n).length:=by rw[←hres,HML.out]
    have HL:=Hi hlen;have HROW:=Hi hrow;clear hres hrow hlen;go_wp2_with fail
    go_ret;exact⟨⟨au,cu,by rw[←HL.out];rfl,by rw[←HL.out];exact HROW.out⟩,F⟩
  ·obtain rfl:j=n.length:=by omega
   have hres:(n.take n.length).map cutStep=cutName n:=by rw[HCS.out,List.take_of_length_le hj70,List.take_length]
   have hrow:=HRW.out;rw[hres]at hrow
   have hlen:n.length=(cutName n).length:=by rw[←hres,HML.out]
   have HL:=Hi hlen;have HROW:=Hi hrow;clear hres hrow hlen;go_wp2_with fail
   go_ret;exact⟨⟨au,cu,by rw[←HL.out];rfl,by rw[←HL.out];exact HROW.out⟩,F⟩
theorem lawGOf_any (u:Value)(g:Gen)(wb w:World)(h:GenAt wb u g)(Fb:Fz wb w)(hn:g.n.length≤1000000)(hr:∀ r∈g.n,r.length≤1000000) :
  Calls Tryz.prog 117 #[u] w fun e w'=>(∃ ab cb an cn,e=.returned (.agg #[.int .i64 g.k,.slice ab g.b.length cb,.slice an g.n.length cn])∧Kept (fun W=>Bytes W (.slice ab g.b.length cb) g.b∧NameAt W (.slice an g.n.length cn) g.n) (fun k=>wb.heap.size≤k∧k<w.heap.size) w')∧Fz w w':=by
 obtain⟨ab,cb,an,cn,rfl,hb,hnm⟩:=h.form
 obtain⟨z,hz⟩:∃ z,z=w.heap.size:=⟨_,rfl⟩
 have HZ:=Hi hz;have F0:Fz w ((w.alloc (.cells #[.int .i64 g.k,.slice ab g.b.length cb,.slice an g.n.length cn] 148)).alloc (.cells #[.int .i64 0,.slice none 0 0,.slice none 0 0] 123)):=((Fr.refl w).alloc _).alloc _;have B:=(Blk.new w 148 #[.int .i64 g.k,.slice ab g.b.length cb,.slice an g.n.length cn]).alloc (.cells #[.int .i64 0,.slice none 0 0,.slice none 0 0] 123);have D:=Blk.new (w.alloc (.cells #[.int .i64 g.k,.slice ab g.b.length cb,.slice an g.n.length cn] 148)) 123 #[.int .i64 0,.slice none 0 0,.slice none 0 0];rw[World.size_alloc,←hz]at D
 rw[←hz]at B
 have HF0:=Hi F0;have hs0:w.heap.size+2=((w.alloc (.cells #[.int .i64 g.k,.slice ab g.b.length cb,.slice an g.n.length cn] 148)).alloc (.cells #[.int .i64 0,.slice none 0 0,.slice none 0 0] 123)).heap.size:=by rw[World.size_alloc,World.size_alloc]
 have HFB:=Hi Fb;have HBB:=Hi hb;have HO:=Hi (fun W (F:Fz wb W)=>lawOfK_any _ g.n wb W hnm F hn hr);clear h hz F0 Fb hb hnm hn hr;go_enter Tryz.func117,Tryz.ntmps117
 go_upto_region 1 with fail
 rw[←HZ.out]
 have HS0:=Hi hs0;clear hs0;generalize ((w.alloc (.cells #[.int .i64 g.k,.slice ab g.b.length cb,.slice an g.n.length cn] 148)).alloc (.cells #[.int .i64 0,.slice none 0 0,.slice none 0 0] 123))=w0 at *
 replace B:=B.drew;replace D:=D.drew;have G:Fz w w0.drew:=HF0.out.drew;have HSD:w0.drew.heap.size=w0.heap.size:=rfl;have HSS:=Hi HSD;clear HSD;go_region_held3 (fun w'=>∀ j,w'.cell? ⟨z,j,none⟩=(#[.int .i64 g.k,.slice ab g.b.length cb,.slice an g.n.length cn]:Array Value)[j]?) (first|exact B.cell|exact B5.cell) (first
  |(go_at_call 21;refine(HO.out _ (HFB.out.trans G)).mono ?_;rintro e w' ⟨⟨a9,c9,rfl,hq⟩,F⟩;replace B:=B.fr F (fun h=>h);replace D:=D.fr F (fun h=>h);have hkq:=hq.kept (fun k=>wb.heap.size≤k∧k<w0.heap.size) (fun k hk=>by have h2:=HSS.out;omega);replace G:=G.trans F;clear F hq;have d0:=D.cell 0;have d1:=D.cell 1;have d2:=D.cell 2;have f0:=D.frozen 0;have f1:=D.frozen 1;have f2:=D.frozen 2;have D5:=set3 D (.int .i64 g.k) (.slice ab g.b.length cb) (.slice a9 g.n.length c9);have B5:=B.fr D5.2 (by omega);simp only[SG]at d0 d1 d2))
 all_goals
  have n0:=D5.1.cell 0;have n1:=D5.1.cell 1;have n2:=D5.1.cell 2;simp only[SG]at n0 n1 n2
  have hbk:=bytes_keeps HBB.out ((HFB.out.trans G).mono (T:=fun k=>wb.heap.size≤k) (fun _ _ h=>h.elim)) (fun k=>wb.heap.size≤k∧k<w0.heap.size) (fun k hk=>hk.1);have hsb:=HFB.out.size;have HK:=Hi ((Kept.both hbk hkq).step (K':=fun k=>wb.heap.size≤k∧k<w.heap.size) D5.2 (fun k hk e=>by have:=HZ.out;have:=HS0.out;omega) (fun k hk=>by have:=HS0.out;exact .inl (by omega)));have HF:=Hi (G.trans' D5.2 (fun i hi e=>by have:=HZ.out;omega));clear hbk hkq B D B5 D5 G;go_wp2_with fail
  exact bodyPost_ret (v:=.agg #[.int .i64 g.k,.slice ab g.b.length cb,.slice a9 g.n.length c9]) (by simp[results,Tryz.results117,go_sem,n0,n1,n2]) rfl ⟨⟨ab,cb,a9,c9,rfl,HK.out⟩,HF.out⟩
theorem lawGTo_any (u:Value)(g:Gen)(wb w:World)(h:GenAt wb u g)(Fb:Fz wb w) :
  Calls Tryz.prog 131 #[u] w fun e w'=>(∃ ab cb an cn,e=.returned (.agg #[.int .i64 (cutGen g).k,.slice ab (cutGen g).b.length cb,.slice an (cutGen g).n.length cn])∧Kept (fun W=>Bytes W (.slice ab (cutGen g).b.length cb) (cutGen g).b∧NameAt W (.slice an (cutGen g).n.length cn) (cutGen g).n) (fun k=>wb.heap.size≤k∧k<w.heap.size) w')∧Fz w w':=by
 obtain⟨ab,cb,an,cn,rfl,hb,hnm⟩:=h.form
 obtain⟨_,_,he,hc1,hm1,-⟩:=Vals.form hb
 simp only[Value.slice.injEq]at he
 obtain⟨rfl,-,rfl⟩:=he
 have hnm0:=hnm;obtain⟨_,_,he,hc2,hm2,-⟩:=hnm0
 simp only[Value.slice.injEq]at he
 obtain⟨rfl,-,rfl⟩:=he
 unfold maxLen at hm1 hm2;obtain⟨mb,hmb⟩:∃ m:Nat,m=min g.b.length 300:=⟨_,rfl⟩
 obtain⟨mn,hmn⟩:∃ m:Nat,m=min g.n.length 5:=⟨_,rfl⟩
 have HBB:=Hi (Vals.cut hb 300 mb hmb);have hnc:=NameAt.cut hnm 5 mn hmn;have hbl:(g.b.take 300).length=mb:=by rw[List.length_take,hmb,Nat.min_comm]
 have HBL:=Hi hbl;have c1:min (g.b.length:Int) 300=(mb:Int):=by omega
 have c2:min (g.n.length:Int) 5=(mn:Int):=by omega
 have c3:(mb:Int)≤(cb:Int):=by omega
 have c4:(mn:Int)≤(cn:Int):=by omega
 have c5:(0:Int)≤(mb:Int):=by omega
 have c6:(0:Int)≤(mn:Int):=by omega
 obtain⟨z,hz⟩:∃ z,z=w.heap.size:=⟨_,rfl⟩
 have HZ:=Hi hz;have F0:Fz w ((w.alloc (.cells #[.int .i64 g.k,.slice ab g.b.length cb,.slice an g.n.length cn] 123)).alloc (.cells #[.int .i64 0,.slice none 0 0,.slice none 0 0] 148)):=((Fr.refl w).alloc _).alloc _;have B:=(Blk.new w 123 #[.int .i64 g.k,.slice ab g.b.length cb,.slice an g.n.length cn]).alloc (.cells #[.int .i64 0,.slice none 0 0,.slice none 0 0] 148);have D:=Blk.new (w.alloc (.cells #[.int .i64 g.k,.slice ab g.b.length cb,.slice an g.n.length cn] 123)) 148 #[.int .i64 0,.slice none 0 0,.slice none 0 0];rw[World.size_alloc,←hz]at D
 rw[←hz]at B
 have HF0:=Hi F0;have hs0:w.heap.size+2=((w.alloc (.cells #[.int .i64 g.k,.slice ab g.b.length cb,.slice an g.n.length cn] 123)).alloc (.cells #[.int .i64 0,.slice none 0 0,.slice none 0 0] 148)).heap.size:=by rw[World.size_alloc,World.size_alloc]
 have HFB:=Hi Fb;have HO:=Hi (fun W (F:Fz wb W)=>lawToK_any _ (g.n.take 5) wb W hnc F);obtain⟨q,hq0⟩:∃ q,q=cutName (g.n.take 5):=⟨_,rfl⟩
 have HCG:=Hi (show cutGen g=⟨g.k,g.b.take 300,q⟩ by rw[hq0];rfl);rw[←hq0]at HO
 clear h hz F0 Fb hb hnm hnc hbl hmb hmn hq0 hc1 hc2;go_enter Tryz.func131,Tryz.ntmps131
 go_upto_region 1 with fail
 rw[←HZ.out]
 have HS0:=Hi hs0;clear hs0;generalize ((w.alloc (.cells #[.int .i64 g.k,.slice ab g.b.length cb,.slice an g.n.length cn] 123)).alloc (.cells #[.int .i64 0,.slice none 0 0,.slice none 0 0] 148))=w0 at *
 replace B:=B.drew;replace D:=D.drew;have G:Fz w w0.drew:=HF0.out.drew;have HSD:w0.drew.heap.size=w0.heap.size:=rfl;have HSS:=Hi HSD;clear HSD;go_region_held3 (fun w'=>∀ j,w'.cell? ⟨z,j,none⟩=(#[.int .i64 g.k,.slice ab g.b.length cb,.slice an g.n.length cn]:Array Value)[j]?) (first|exact B.cell|exact B5.cell) (first
  |(go_at_call 55;refine(HO.out _ (HFB.out.trans G)).mono ?_;rintro e w' ⟨⟨a9,c9,rfl,hq⟩,F⟩;replace B:=B.fr F (fun h=>h);replace D:=D.fr F (fun h=>h);have hkq:=hq.kept (fun k=>wb.heap.size≤k∧k<w0.heap.size) (fun k hk=>by have h2:=HSS.out;omega);replace G:=G.trans F;clear F hq;have d0:=D.cell 0;have d1:=D.cell 1;have d2:=D.cell 2;have f0:=D.frozen 0;have f1:=D.frozen 1;have f2:=D.frozen 2;have D5:=set3 D (.int .i64 g.k) (.slice ab mb cb) (.slice a9 q.length c9);have B5:=B.fr D5.2 (by omega);simp only[SG]at d0 d1 d2))
 all_goals
  have n0:=D5.1.cell 0;have n1:=D5.1.cell 1;have n2:=D5.1.cell 2;simp only[SG]at n0 n1 n2
  have hbk:=bytes_keeps HBB.out ((HFB.out.trans G).mono (T:=fun k=>wb.heap.size≤k) (fun _ _ h=>h.elim)) (fun k=>wb.heap.size≤k∧k<w0.heap.size) (fun k hk=>hk.1);have hsb:=HFB.out.size;have HK:=Hi ((Kept.both hbk hkq).step (K':=fun k=>wb.heap.size≤k∧k<w.heap.size) D5.2 (fun k hk e=>by have:=HZ.out;have:=HS0.out;omega) (fun k hk=>by have:=HS0.out;exact .inl (by omega)));have HF:=Hi (G.trans' D5.2 (fun i hi e=>by have:=HZ.out;omega));clear hbk hkq B D B5 D5 G;go_wp2_with fail
  refine bodyPost_ret (v:=.agg #[.int .i64 g.k,.slice ab mb cb,.slice a9 q.length c9]) (by simp[results,Tryz.results131,go_sem,n0,n1,n2]) rfl ⟨⟨ab,cb,a9,c9,?_,?_⟩,HF.out⟩
  ·rw[HCG.out,HBL.out]
  ·rw[HCG.out]
   show Kept (fun W=>Bytes W (.slice ab (g.b.take 300).length cb) (g.b.take 300)∧NameAt W (.slice a9 q.length c9) q) _ _
   rw[HBL.out]
   exact HK.out
open Go Go.RowKit Go.Q Go.ChangeShapes Go.WideShapes Go.ChangeAt
section
variable {H:Type}{enc:TypeId × Value→H}{w:World}{base fuel:Nat}{spare:Nat→Bool}{held:Bool}{cs:List Value}{x:DataW H × List MemPlace}
theorem rc23:Tryz.prog.cellsOf 23=1:=by kernel_rfl
theorem rc26:Tryz.prog.cellsOf 26=3:=by kernel_rfl
theorem rc29:Tryz.prog.cellsOf 29=5:=by kernel_rfl
theorem rc37:Tryz.prog.cellsOf 37=1:=by kernel_rfl
theorem rc83:Tryz.prog.cellsOf 83=1:=by kernel_rfl
theorem rc85:Tryz.prog.cellsOf 85=9:=by kernel_rfl
theorem rd_where (h:DataW.trod enc Tryz.prog w base spare held fuel 26 cs=some x):∃ (b:Bool) (v u:Value) (l:List Gen) (r:List Part),cs=[.bool b,v,u]∧Gens w v l∧Attrs w u r:=by
 obtain⟨y0,y1,y2,n,_,hl,h0,h1,h2⟩:=Go.Deep.trod_struct3 Tryz.underlying26 h
 rw[rc26]at hl
 obtain⟨c0,c1,c2,rfl⟩:=three_of hl
 have g0:DataW.trod enc Tryz.prog w base spare held n 4 [c0]=some y0:=by rw[←show ([c0,c1,c2].drop 0).take (Tryz.prog.cellsOf 4)=[c0] from by rw[rc4];rfl];exact h0
 have g1:DataW.trod enc Tryz.prog w base spare held n 23 [c1]=some y1:=by rw[←show ([c0,c1,c2].drop 1).take (Tryz.prog.cellsOf 23)=[c1] from by rw[rc23];rfl];exact h1
 have g2:DataW.trod enc Tryz.prog w base spare held n 24 [c2]=some y2:=by rw[←show ([c0,c1,c2].drop 2).take (Tryz.prog.cellsOf 24)=[c2] from by rw[rc24];rfl];exact h2
 obtain⟨b,e0,-⟩:=DataW.trod_bool Tryz.underlying4 g0
 obtain⟨v,l,e1,hl1⟩:=rd_gens g1
 obtain⟨u,r,e2,hr⟩:=rd_attrs g2
 simp only[List.cons.injEq,and_true]at e0 e1 e2
 subst e0;subst e1;subst e2;exact⟨b,c1,c2,l,r,rfl,hl1,hr⟩
theorem rd_point (h:DataW.trod enc Tryz.prog w base spare held fuel 29 cs=some x):∃ y:PointD,RPd w cs y:=by
 obtain⟨y0,y1,y2,n,_,hl,h0,h1,h2⟩:=Go.Deep.trod_struct3 Tryz.underlying29 h
 rw[rc29]at hl
 obtain⟨c0,c1,c2,c3,c4,rfl⟩:=five_of hl
 have g0:DataW.trod enc Tryz.prog w base spare held n 26 [c0,c1,c2]=some y0:=by rw[←show ([c0,c1,c2,c3,c4].drop 0).take (Tryz.prog.cellsOf 26)=[c0,c1,c2] from by rw[rc26];rfl];exact h0
 have g1:DataW.trod enc Tryz.prog w base spare held n 27 [c3]=some y1:=by rw[←show ([c0,c1,c2,c3,c4].drop 3).take (Tryz.prog.cellsOf 27)=[c3] from by rw[rc27];rfl];exact h1
 have g2:DataW.trod enc Tryz.prog w base spare held n 23 [c4]=some y2:=by rw[←show ([c0,c1,c2,c3,c4].drop 4).take (Tryz.prog.cellsOf 23)=[c4] from by rw[rc23];rfl];exact h2
 obtain⟨b,v,u,l,r,e0,hl1,hr⟩:=rd_where g0
 obtain⟨vi,is,e1,hi⟩:=rd_ints g1
 obtain⟨vg,gs,e2,hg⟩:=rd_gens g2
 simp only[List.cons.injEq,and_true]at e0 e1 e2
 obtain⟨rfl,rfl,rfl⟩:=e0
 subst e1;subst e2;exact⟨⟨b,l,r,is,gs⟩,c1,c2,c3,c4,rfl,hl1,hr,hi,hg⟩
theorem rd_points (h:DataW.trod enc Tryz.prog w base spare held fuel 37 cs=some x):∃ v l,cs=[v]∧Pds w v l:=by
 obtain⟨a,cap,l,rfl,h1,h2,h3⟩:=rd_slice Tryz.underlying37 rc29 (by decide) (fun (g:PointD) ds=>RPd w ds g) (fun n ds y hy _=>rd_point hy) h
 refine⟨_,l,rfl,a,cap,rfl,h1,h2,fun h0=>?_⟩
 obtain⟨b,o,rfl,hy⟩:=h3 h0
 refine⟨b,o,rfl,fun i g hg=>?_⟩
 obtain⟨ds,hd,hr,hj⟩:=hy i g hg
 exact⟨ds,hd,hj,hr⟩
theorem rd_oids (h:DataW.trod enc Tryz.prog w base spare held fuel 83 cs=some x):∃ v l,cs=[v]∧Oids w v l:=by
 obtain⟨a,cap,l,rfl,h1,h2,h3⟩:=rd_slice Tryz.underlying83 rc27 (by decide) (fun (g:List Int) ds=>ROid w ds g) (fun n ds y hy _=>by obtain⟨v,l,e,hv⟩:=rd_ints hy;exact⟨l,v,e,hv⟩) h
 refine⟨_,l,rfl,a,cap,rfl,h1,h2,fun h0=>?_⟩
 obtain⟨b,o,rfl,hy⟩:=h3 h0
 refine⟨b,o,rfl,fun i g hg=>?_⟩
 obtain⟨ds,hd,hr,hj⟩:=hy i g hg
 exact⟨ds,hd,hj,hr⟩
theorem rd_view (h:DataW.trod enc Tryz.prog w base spare held fuel 85 cs=some x):∃ (y:ViewD) (vk va vu vp vf vo:Value),cs=[vk,va,vu,.bool y.au,.int .i64 y.pa,vp,vf,vo,.bool y.nc]∧ViewDIn w vk va vu vp vf vo y:=by
 obtain⟨y0,y1,y2,y3,y4,y5,y6,y7,y8,n,hl,h0,h1,h2,h3,h4,h5,h6,h7,h8⟩:=trod_struct9 Tryz.underlying85 h
 rw[rc85]at hl
 obtain⟨c0,c1,c2,c3,c4,c5,c6,c7,c8,rfl⟩:=nine_of hl
 have g0:DataW.trod enc Tryz.prog w base spare held n 32 [c0]=some y0:=by rw[←show ([c0,c1,c2,c3,c4,c5,c6,c7,c8].drop 0).take (Tryz.prog.cellsOf 32)=[c0] from by rw[rc32];rfl];exact h0
 have g1:DataW.trod enc Tryz.prog w base spare held n 32 [c1]=some y1:=by rw[←show ([c0,c1,c2,c3,c4,c5,c6,c7,c8].drop 1).take (Tryz.prog.cellsOf 32)=[c1] from by rw[rc32];rfl];exact h1
 have g2:DataW.trod enc Tryz.prog w base spare held n 27 [c2]=some y2:=by rw[←show ([c0,c1,c2,c3,c4,c5,c6,c7,c8].drop 2).take (Tryz.prog.cellsOf 27)=[c2] from by rw[rc27];rfl];exact h2
 have g3:DataW.trod enc Tryz.prog w base spare held n 4 [c3]=some y3:=by rw[←show ([c0,c1,c2,c3,c4,c5,c6,c7,c8].drop 3).take (Tryz.prog.cellsOf 4)=[c3] from by rw[rc4];rfl];exact h3
 have g4:DataW.trod enc Tryz.prog w base spare held n 3 [c4]=some y4:=by rw[←show ([c0,c1,c2,c3,c4,c5,c6,c7,c8].drop 4).take (Tryz.prog.cellsOf 3)=[c4] from by rw[rc3];rfl];exact h4
 have g5:DataW.trod enc Tryz.prog w base spare held n 37 [c5]=some y5:=by rw[←show ([c0,c1,c2,c3,c4,c5,c6,c7,c8].drop 5).take (Tryz.prog.cellsOf 37)=[c5] from by rw[rc37];rfl];exact h5
 have g6:DataW.trod enc Tryz.prog w base spare held n 37 [c6]=some y6:=by rw[←show ([c0,c1,c2,c3,c4,c5,c6,c7,c8].drop 6).take (Tryz.prog.cellsOf 37)=[c6] from by rw[rc37];rfl];exact h6
 have g7:DataW.trod enc Tryz.prog w base spare held n 83 [c7]=some y7:=by rw[←show ([c0,c1,c2,c3,c4,c5,c6,c7,c8].drop 7).take (Tryz.prog.cellsOf 83)=[c7] from by rw[rc83];rfl];exact h7
 have g8:DataW.trod enc Tryz.prog w base spare held n 4 [c8]=some y8:=by rw[←show ([c0,c1,c2,c3,c4,c5,c6,c7,c8].drop 8).take (Tryz.prog.cellsOf 4)=[c8] from by rw[rc4];rfl];exact h8
 obtain⟨vk,k,e0,hk⟩:=rd_bytes g0
 obtain⟨va,a,e1,ha⟩:=rd_bytes g1
 obtain⟨vu,u,e2,hu⟩:=rd_ints g2
 obtain⟨b,e3,-⟩:=DataW.trod_bool Tryz.underlying4 g3
 obtain⟨p,e4,-,-⟩:=DataW.trod_int Tryz.underlying3 g4
 obtain⟨vp,ps,e5,hp⟩:=rd_points g5
 obtain⟨vf,fs,e6,hf⟩:=rd_points g6
 obtain⟨vo,os,e7,ho⟩:=rd_oids g7
 obtain⟨nc,e8,-⟩:=DataW.trod_bool Tryz.underlying4 g8
 simp only[List.cons.injEq,and_true]at e0 e1 e2 e3 e4 e5 e6 e7 e8
 subst e0;subst e1;subst e2;subst e3;subst e4;subst e5;subst e6;subst e7;subst e8;exact⟨⟨k,a,u,b,p,ps,fs,os,nc⟩,c0,c1,c2,c5,c6,c7,rfl,hk,ha,hu,hp,hf,ho⟩
end
def AddOut (w':World)(n:List (List Part))(e:Ending):Prop:=
 if nameOk n=true then ∃ a c,e=.returned (.tuple #[.slice a n.length c,.int .i64 0])∧NameAt w' (.slice a n.length c) n else e=.returned (.tuple #[.slice none 0 0,.int .i64 1])
def AddKeep (K:Nat→Prop)(w':World)(n:List (List Part))(e:Ending):Prop:=
 if nameOk n=true then ∃ a c,e=.returned (.tuple #[.slice a n.length c,.int .i64 0])∧Kept (fun W=>NameAt W (.slice a n.length c) n) K w' else e=.returned (.tuple #[.slice none 0 0,.int .i64 1])
theorem AddKeep.out {K:Nat→Prop}{w':World}{n:List (List Part)}{e:Ending}(h:AddKeep K w' n e):AddOut w' n e:=by
 unfold AddKeep at h;unfold AddOut;split at h
 ·obtain⟨a,c,h1,h2⟩:=h
  rw[if_pos (by assumption)]
  exact⟨a,c,h1,h2.now⟩
 ·rw[if_neg (by assumption)]
  exact h
theorem scStep_any (v:Value)(l:List Part)(w:World)(h:Attrs w v l)(hl:l.length≤1000000)(ho:∀ p∈l,p.o.length≤100000000000∧p.b.length≤100000000000) :
  Calls Tryz.prog 116 #[v] w fun e w'=>(∃ a c,e=.returned (.slice a l.length c)∧KRow 145 w' w.heap.size (.slice a l.length c) l)∧Fz w w':=by
 have H:=Hi h;have HO:=Hi ho;obtain⟨a,cap,rfl,-⟩:=h
 clear ho;go_enter Tryz.func116,Tryz.ntmps116
 go_wp2_with fail
 go_loopg [3,8] l.length (fun g u i wr=>∃ (j:Nat) (au:Option Addr) (cu:Nat),g=l.length-j∧j≤l.length∧u=.slice au j cu∧i=.int .i64 j∧KRow 145 wr w.heap.size (.slice au j cu) (l.take j)∧Fz w wr)
 case atStart=>exact⟨0,none,0,rfl,Nat.zero_le _,rfl,rfl,KRow.nil _ _ _,Fr.refl _⟩
 case round=>
  obtain⟨j,au,cu,hg,hj,rfl,rfl,hrow,F⟩:=hrel
  have HG:=Hi hg;have HRW:=Hi hrow;have HF:=Hi F;have hml:(l.take j).length=j:=by rw[List.length_take];omega
  have HML:=Hi hml;clear hg hrow hml;by_cases hjl:j<l.length
  ·obtain⟨a0,cap0,he,_,_,hx⟩:=H.out.old F
   simp only[Value.slice.injEq,true_and]at he
   obtain⟨rfl,rfl⟩:=he
   obtain⟨b,off,rfl,hy⟩:=hx (by omega)
   obtain⟨p,hp⟩:∃ p,l[j]? = some p:=⟨_,List.getElem?_eq_getElem hjl⟩
   obtain⟨x,y,e1,e2,hpx,hpy⟩:=hy j p hp
   have HPL:=Hi (HO.out p (List.mem_of_getElem? hp));obtain⟨ax,cx,rfl,-⟩:=Ints.form hpx
   obtain⟨ay,cy,rfl,-⟩:=Vals.form hpy
   have e1':wr.cell? ⟨b,off+j*2,none⟩=some (.slice ax p.o.length cx):=by rw[Nat.mul_comm];exact e1
   have e2':wr.cell? ⟨b,off+j*2+1,none⟩=some (.slice ay p.b.length cy):=by rw[Nat.mul_comm];exact e2
   have HPX:=Hi hpx;have HPY:=Hi hpy;have HMT:=Hi (show l.take (j+1)=l.take j++[p] from by rw[List.take_add_one,hp];rfl);have r1:(0:Int)≤(j:Int):=by omega
   have r2:(j:Int)<(l.length:Int):=by omega
   clear hx hy hp e1 e2 hpx hpy F;go_upto_region 5 with fail
   obtain⟨z,hz⟩:∃ z,z=wr.heap.size:=⟨_,rfl⟩
   have BA:=Blk.new wr 145 #[.slice ax p.o.length cx,.slice ay p.b.length cy];have F1:Fz wr (wr.alloc (.cells #[.slice ax p.o.length cx,.slice ay p.b.length cy] 145)):=(Fr.refl wr).alloc _;rw[←hz]at BA ⊢
   have HZ:=Hi hz;have HKL:=Hi (show ∀ k,((Value.slice au j cu).ownBlock=some k∨k<w.heap.size)→k<wr.heap.size from fun k hk=>by
    rcases hk with h|h
    ·exact(HRW.out.keep k h).2
    ·have:=HF.out.size;omega)
   clear hz e1' e2';generalize (wr.alloc (.cells #[.slice ax p.o.length cx,.slice ay p.b.length cy] 145))=w1 at *
   have B:=BA.drew;have G:Fz wr w1.drew:=F1.drew;clear BA F1;go_region_held3 (fun w'=>∀ j,w'.cell? ⟨z,j,none⟩=(#[.slice ax p.o.length cx,.slice ay p.b.length cy]:Array Value)[j]?) (first|exact B.cell|exact(B.alloc _).cell) (first
    |(go_at_call 113;refine(cloneInt_any _ p.o _ (HPX.out.old G) HPL.out.1).mono ?_;rintro e w' ⟨⟨u,rfl,hu⟩,F⟩;obtain⟨ai,mi,ci,rfl,rfl⟩:=own_shape hu;have hkI:=own_kept hu (fun k=>(Value.slice au j cu).ownBlock=some k∨k<w.heap.size) (fun k hk=>Nat.lt_of_lt_of_le (HKL.out k hk) G.size);(try replace hkB:=hkB.old F);replace B:=B.fr F (fun h=>h);replace G:=G.trans F;clear hu F)
    |(go_at_call 114;refine(cloneByte_any _ p.b _ (HPY.out.old G) HPL.out.2).mono ?_;rintro e w' ⟨⟨u,rfl,hu⟩,F⟩;obtain⟨ab,mb,cb,rfl,rfl⟩:=own_shape hu;have hkB:=own_kept hu (fun k=>(Value.slice au j cu).ownBlock=some k∨k<w.heap.size) (fun k hk=>Nat.lt_of_lt_of_le (HKL.out k hk) G.size);(try replace hkI:=hkI.old F);replace B:=B.fr F (fun h=>h);replace G:=G.trans F;clear hu F)
    |(obtain⟨a7,c7,w7,hrun,hrow7,F7⟩:=KRow.add Tryz.underlying143 info145 (HRW.out.fr G (fun _ h=>h.elim)) (HF.out.trans G).size ((Fr.refl w').alloc (.cells #[.slice ai p.o.length ci,.slice ab p.b.length cb] 145)) w'.heap.size (Blk.new w' 145 #[.slice ai p.o.length ci,.slice ab p.b.length cb]) p (fun W f=>⟨hkI W f,hkB W f⟩) (by rw[HML.out];omega);rw[HML.out]at hrun hrow7;refine step_append_run (by rfl) (.tmp 12) (.tmp 20) 143 (by rfl) _ w7 (by exact hrun) ?_;have hG7:=(HF.out.trans G).trans' F7 (fun i hi e=>absurd hi (by have:=(HRW.out.keep i e).1;omega));replace B:=B.fr F7 (fun e=>by have:=(HRW.out.keep z e).2;have:=HZ.out;omega);clear hrun F7))
   all_goals
    have HG7:=Hi hG7;have HROW7:=Hi hrow7;clear hG7 hrow7 G B hkI hkB;go_wp2_with fail
    go_roundg (l.length-(j+1))
    case measure=>rw[HG.out];omega
    case rel=>exact⟨j+1,a7,c7,rfl,by omega,rfl,by go_num,by rw[HMT.out];exact HROW7.out,HG7.out⟩
  ·obtain rfl:j=l.length:=by omega
   have hrow:=HRW.out;rw[List.take_length]at hrow
   have HROW:=Hi hrow;clear hrow;go_wp2_with fail
   go_ret;exact⟨⟨au,cu,rfl,HROW.out⟩,F⟩
end Go.Proofs.YteidmhkobmddiaaGreatDoor
