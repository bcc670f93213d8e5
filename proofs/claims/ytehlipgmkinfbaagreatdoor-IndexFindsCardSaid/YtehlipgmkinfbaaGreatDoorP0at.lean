/-
  Merged by program: XR14N XR15R XR15L XGenTo XExt XCe17 XCe18 XCeTo XIxLw1 XGenF XGenFe XGpLaw XIxLw2.
-/
import Derived.Test.YtehlipgmkinfbaaGreatDoorP0as
set_option linter.unusedSimpArgs false
set_option maxRecDepth 100000
set_option maxHeartbeats 8000000
namespace Go.Q
open Go Go.RowKit
structure Ext where
 o:List Int
 c:Bool
 v:List UInt8
def RExt (W:World)(cs:List Value)(x:Ext):Prop:=∃ vo vv,cs=[vo,.bool x.c,vv]∧Ints W vo x.o∧Bytes W vv x.v
abbrev Exts (W:World)(v:Value)(l:List Ext):Prop:=LAt 3 RExt W v l
theorem RExt.old (w w':World)(cs:List Value)(x:Ext)(h:RExt w cs x)(f:Fz w w'):RExt w' cs x:=by
 obtain⟨vo,vv,rfl,h1,h2⟩:=h
 exact⟨vo,vv,rfl,h1.old f,h2.old f⟩
theorem Exts.old {w w':World}{v:Value}{l:List Ext}(h:Exts w v l)(f:Fz w w'):Exts w' v l:=LAt.old RExt.old h f
def ExtAt (W:World)(u:Value)(x:Ext):Prop:=∃ vo vv,u=.agg #[vo,.bool x.c,vv]∧Ints W vo x.o∧Bytes W vv x.v
theorem ExtAt.old {w w':World}{u:Value}{x:Ext}(h:ExtAt w u x)(f:Fz w w'):ExtAt w' u x:=by
 obtain⟨vo,vv,rfl,h1,h2⟩:=h
 exact⟨vo,vv,rfl,h1.old f,h2.old f⟩
theorem ExtAt.form {w:World}{u:Value}{x:Ext}(h:ExtAt w u x):∃ ao co av cv,u=.agg #[.slice ao x.o.length co,.bool x.c,.slice av x.v.length cv]∧Ints w (.slice ao x.o.length co) x.o∧Bytes w (.slice av x.v.length cv) x.v:=by
 obtain⟨vo,vv,rfl,h1,h2⟩:=h
 obtain⟨ao,co,rfl,-⟩:=Ints.form h1
 obtain⟨av,cv,rfl,-⟩:=h2.form
 exact⟨ao,co,av,cv,rfl,h1,h2⟩
theorem Exts.get {w:World}{a:Option Addr}{n c:Nat}{l:List Ext}(h:Exts w (.slice a n c) l){i:Nat}{x:Ext}(hi:l[i]? = some x):∃ b o ao co av cv,a=some ⟨b,o,none⟩∧n=l.length∧ExtAt w (.agg #[.slice ao x.o.length co,.bool x.c,.slice av x.v.length cv]) x∧w.cell? ⟨b,o+i*3,none⟩=some (.slice ao x.o.length co)∧w.cell? ⟨b,o+i*3+1,none⟩=some (.bool x.c)∧w.cell? ⟨b,o+i*3+2,none⟩=some (.slice av x.v.length cv):=by
 obtain⟨a0,c0,he,h1,h2,h3⟩:=h
 simp only[Value.slice.injEq]at he
 obtain⟨rfl,rfl,rfl⟩:=he
 have hil:=(List.getElem?_eq_some_iff.1 hi).1;obtain⟨b,o,rfl,hy⟩:=h3 (by omega)
 obtain⟨cs,-,e2,vo,vv,rfl,g1,g2⟩:=hy i x hi
 obtain⟨ao,co,rfl,-⟩:=Ints.form g1
 obtain⟨av,cv,rfl,-⟩:=g2.form
 rw[Nat.mul_comm]at e2
 exact⟨b,o,ao,co,av,cv,rfl,rfl,⟨_,_,rfl,g1,g2⟩,e2 0 _ rfl,e2 1 _ rfl,e2 2 _ rfl⟩
theorem Exts.cut {w:World}{a:Option Addr}{c:Nat}{l:List Ext}(h:Exts w (.slice a l.length c) l)(N m:Nat)(hm:m=min l.length N):Exts w (.slice a m c) (l.take N):=by
 obtain⟨a0,c0,he,h1,h2,h3⟩:=h
 simp only[Value.slice.injEq]at he
 obtain⟨rfl,-,rfl⟩:=he
 have hl:(l.take N).length=m:=by rw[List.length_take];omega
 refine⟨a,c,by rw[hl],by omega,h2,fun h0=>?_⟩
 obtain⟨b,o,rfl,hy⟩:=h3 (by omega)
 refine⟨b,o,rfl,fun i r hr=>hy i r ?_⟩
 rw[List.getElem?_take]at hr
 split at hr
 ·exact hr
 ·cases hr
structure CertT where
 below:Bool
 size:List UInt8
 iss:List (List Part)
 sub:List (List Part)
 t0:Int
 t1:Int
 ao:List Int
 ap:List UInt8
 kn:List UInt8
 ex:List Ext
def CertIn (W:World)(x:CertT)(vs vi vj va vp vk ve:Value):Prop:=Bytes W vs x.size∧NameAt W vi x.iss∧NameAt W vj x.sub∧Ints W va x.ao∧Bytes W vp x.ap∧Bytes W vk x.kn∧Exts W ve x.ex
def CertAt (W:World)(u:Value)(x:CertT):Prop:=∃ vs vi vj va vp vk ve,u=.agg #[.bool x.below,vs,vi,vj,.int .i64 x.t0,.int .i64 x.t1,va,vp,vk,ve]∧CertIn W x vs vi vj va vp vk ve
theorem CertIn.old {w w':World}{x:CertT}{vs vi vj va vp vk ve:Value}(h:CertIn w x vs vi vj va vp vk ve)(f:Fz w w'):CertIn w' x vs vi vj va vp vk ve:=by
 obtain⟨h1,h2,h3,h4,h5,h6,h7⟩:=h
 exact⟨h1.old f,h2.old f,h3.old f,h4.old f,h5.old f,h6.old f,h7.old f⟩
theorem CertAt.old {w w':World}{u:Value}{x:CertT}(h:CertAt w u x)(f:Fz w w'):CertAt w' u x:=by
 obtain⟨vs,vi,vj,va,vp,vk,ve,rfl,h1⟩:=h
 exact⟨vs,vi,vj,va,vp,vk,ve,rfl,h1.old f⟩
def cutExt (x:Ext):Ext:=⟨x.o.take 40,x.c,x.v.take 200⟩
def cutCert (x:CertT):CertT:=⟨x.below,x.size.take 100,cutName (x.iss.take 5),cutName (x.sub.take 5),x.t0,x.t1,x.ao.take 40,x.ap.take 200,x.kn.take 100,((x.ex.take 10).take 70).map cutExt⟩
theorem vals_keeps {wb w:World}{v:Value}{xs:List Value}(h:Vals wb v xs)(F:Fr (fun k=>wb.heap.size≤k) wb w)(K:Nat→Prop)(hK:∀ k,K k→wb.heap.size≤k):Kept (fun W=>Vals W v xs) K w:=fun W f=>
 h.fr (F.trans (f.mono (fun k _ hk=>hK k hk))) (fun h0 k hk hs=>by have:=h.lt h0 k hk;omega)
def AlgIn (W:World)(vo vp:Value)(o:List Int)(p:List UInt8):Prop:=Ints W vo o∧Bytes W vp p
def PubIn (W:World)(vo vp vk:Value)(o:List Int)(p k:List UInt8):Prop:=Ints W vo o∧Bytes W vp p∧Bytes W vk k
def cutGen (g:Gen):Gen:=⟨g.k,g.b.take 300,cutName (g.n.take 5)⟩
def fewS (l:List Gen):List Gen:=(l.take 20).map cutGen
theorem NamesL.get {w:World}{a:Option Addr}{n c:Nat}{l:List (List (List Part))}(h:NamesL w (.slice a n c) l){i:Nat}{x:List (List Part)}(hi:l[i]? = some x):∃ b o an cn,a=some ⟨b,o,none⟩∧n=l.length∧NameAt w (.slice an x.length cn) x∧w.cell? ⟨b,o+i,none⟩=some (.slice an x.length cn):=by
 obtain⟨a0,c0,he,h1,h2,h3⟩:=h
 simp only[Value.slice.injEq]at he
 obtain⟨rfl,rfl,rfl⟩:=he
 have hil:=(List.getElem?_eq_some_iff.1 hi).1;obtain⟨b,o,rfl,hy⟩:=h3 (by omega)
 obtain⟨cs,-,e2,u,rfl,g1⟩:=hy i x hi
 have g2:=g1;obtain⟨an,cn,rfl,-⟩:=g2
 have:=e2 0 _ rfl;rw[Nat.one_mul]at this
 exact⟨b,o,an,cn,rfl,rfl,g1,this⟩
theorem cutName_fit (n:List (List Part)):fitN (cutName n):=by
 refine⟨by have:=cutName_len n;omega,fun r hr=>⟨cutName_few n r hr,?_,fun p hp=>?_⟩⟩
 ·obtain⟨s,-,rfl⟩:=List.mem_map.1 hr
  have:=cutStep_len s;omega
 ·obtain⟨s,-,rfl⟩:=List.mem_map.1 hr
  obtain⟨q,-,rfl⟩:=List.mem_map.1 hp
  show (q.o.take 40).length≤_
  rw[List.length_take]
  omega
def Bag (t:TypeId)(w0 W:World)(l:List Nat):Prop:=Fz w0 W∧l.Nodup∧∀ z∈l,w0.heap.size≤z∧Blk W z t #[.int .i64 0,.slice none 0 0,.slice none 0 0]
theorem Bag.lt {t:TypeId}{w0 W:World}{l:List Nat}(h:Bag t w0 W l):∀ z∈l,z<W.heap.size:=fun z hz=>(h.2.2 z hz).2.lt
theorem Bag.more {t:TypeId}{w0 W:World}{l:List Nat}(h:Bag t w0 W l):Bag t w0 (W.alloc (.cells #[.int .i64 0,.slice none 0 0,.slice none 0 0] t)) (W.heap.size::l):=by
 refine⟨h.1.alloc _,List.nodup_cons.2 ⟨fun hm=>Nat.lt_irrefl _ (h.lt _ hm),h.2.1⟩,fun z hz=>?_⟩
 rcases List.mem_cons.1 hz with rfl|hz
 ·exact⟨h.1.size,Blk.new _ _ _⟩
 ·exact⟨(h.2.2 z hz).1,(h.2.2 z hz).2.alloc _⟩
theorem Bag.call {t:TypeId}{w0 W W':World}{l:List Nat}(h:Bag t w0 W l)(F:Fz W W'):Bag t w0 W' l:=⟨h.1.trans F,h.2.1,fun z hz=>⟨(h.2.2 z hz).1,(h.2.2 z hz).2.fr F (fun h=>h)⟩⟩
theorem Bag.drew {t:TypeId}{w0 W:World}{l:List Nat}(h:Bag t w0 W l):Bag t w0 W.drew l:=⟨h.1.drew,h.2.1,fun z hz=>⟨(h.2.2 z hz).1,(h.2.2 z hz).2.drew⟩⟩
abbrev Held (R:World→Prop)(l:List Nat)(W:World):Prop:=Kept R (fun k=>k∈l) W
theorem Held.more {R:World→Prop}{l:List Nat}{W:World}(h:Held R l W)(o:Obj):Held R (W.heap.size::l) (W.alloc o):=Kept.step h (S:=fun _=>False) ((Fr.refl W).alloc o) (fun _ _ h=>h.elim) (fun k hk=>by
 rcases List.mem_cons.1 hk with rfl|hk
 ·exact .inr (Nat.le_refl _)
 ·exact .inl hk)
theorem Bag.held {t:TypeId}{w0 W:World}{l:List Nat}(h:Bag t w0 W l){R:World→Prop}{w':World}(hk:Kept R (fun k=>k<W.heap.size) w'):Held R l w':=fun V f=>hk V (f.mono (fun k _ hm=>h.lt k hm))
def put3 (W:World)(z:Nat)(a b c:Value):World:=((W.setCell ⟨z,0,none⟩ a).setCell ⟨z,1,none⟩ b).setCell ⟨z,2,none⟩ c
def Done (t:TypeId)(w0:World)(R:World→Prop)(a b c d e f:Value)(V:World)(p q:Nat):Prop:=Blk V p t #[a,b,c]∧Blk V q t #[d,e,f]∧R V∧Fz w0 V
def toRow (r:RowI):RowP:=⟨cutName (r.iss.take 4),⟨r.num.below,r.num.size.take 100⟩,r.date,r.reason,if r.dated=true then some r.inv else none⟩
def toRows (l:List RowI):List RowP:=(l.take 8).map toRow
theorem toRows_len (l:List RowI):(toRows l).length≤8:=by
 unfold toRows;rw[List.length_map,List.length_take]
 omega
theorem toRow_size (r:RowI):(toRow r).num.size.length≤1000000:=by
 show (r.num.size.take 100).length≤_
 rw[List.length_take]
 omega
theorem toRow_fit (r:RowI):fitN (toRow r).iss:=cutName_fit _
end Go.Q
namespace Go.Proofs.YtehlipgmkinfbaaGreatDoor
open Go Go.RowKit Go.Q
def rNameOut (K:Nat→Prop)(w':World)(p:Nat)(r:Except Int (List (List Part) × Nat))(e:Ending):Prop:=
 match r with
 |.error x=>e=.returned (.tuple #[.slice none 0 0,.int .i64 p,.int .i64 x])
 |.ok (l,k)=>∃ a c,e=.returned (.tuple #[.slice a l.length c,.int .i64 ((p+k:Nat):Int),.int .i64 0])∧Kept (fun W=>NameAt W (.slice a l.length c) l) K w'
def rParseOut (K:Nat→Prop)(w':World)(r:Except Int (List (List Part)))(e:Ending):Prop:=
 match r with
 |.error x=>e=.returned (.tuple #[.slice none 0 0,.int .i64 x])
 |.ok l=>∃ a c,e=.returned (.tuple #[.slice a l.length c,.int .i64 0])∧Kept (fun W=>NameAt W (.slice a l.length c) l) K w'
def rGenOut (K:Nat→Prop)(w':World)(p:Nat)(r:Except Int (Gen × Nat))(e:Ending):Prop:=
 match r with
 |.error x=>e=.returned (.tuple #[.agg #[.int .i64 0,.slice none 0 0,.slice none 0 0],.int .i64 p,.int .i64 x])
 |.ok (g,k)=>∃ ab cb an cn,e=.returned (.tuple #[.agg #[.int .i64 g.k,.slice ab g.b.length cb,.slice an g.n.length cn],.int .i64 ((p+k:Nat):Int),.int .i64 0])∧Kept (fun W=>Bytes W (.slice ab g.b.length cb) g.b∧NameAt W (.slice an g.n.length cn) g.n) K w'
def rGensOut (K:Nat→Prop)(w':World)(r:Except Int (List Gen))(e:Ending):Prop:=
 match r with
 |.error x=>e=.returned (.tuple #[.slice none 0 0,.int .i64 x])
 |.ok gs=>∃ a c,e=.returned (.tuple #[.slice a gs.length c,.int .i64 0])∧Kept (fun W=>Gens W (.slice a gs.length c) gs) K w'
def rListOut (K:Nat→Prop)(w':World)(p:Nat)(r:Except Int (List Gen × Nat))(e:Ending):Prop:=
 match r with
 |.error x=>e=.returned (.tuple #[.slice none 0 0,.int .i64 p,.int .i64 x])
 |.ok (gs,k)=>∃ a c,e=.returned (.tuple #[.slice a gs.length c,.int .i64 ((p+k:Nat):Int),.int .i64 0])∧Kept (fun W=>Gens W (.slice a gs.length c) gs) K w'
theorem lawToK_any (v:Value)(n:List (List Part))(wb w:World)(h:NameAt wb v n)(Fb:Fz wb w) :
  Calls Tryz.prog 24 #[v] w fun e w'=>(∃ a c,e=.returned (.slice a (cutName n).length c)∧FRow (fun k=>wb.heap.size≤k∧k<w.heap.size) 100 w' w.heap.size (.slice a (cutName n).length c) (cutName n))∧Fz w w':=by
 have H:=Hi h;have HFB:=Hi Fb;obtain⟨a,cap,rfl,-⟩:=h
 have hcs:cutName n=(n.take 70).map cutStep:=rfl;have HCS:=Hi hcs;clear hcs Fb;go_enter Tryz.func24,Tryz.ntmps24
 go_wp2_with fail
 go_loopg [3,4] n.length (fun g u i wr=>∃ (j:Nat) (au:Option Addr) (cu:Nat),g=n.length-j∧j≤n.length∧j≤70∧u=.slice au j cu∧i=.int .i64 j∧FRow (fun k=>wb.heap.size≤k∧k<w.heap.size) 100 wr w.heap.size (.slice au j cu) ((n.take j).map cutStep)∧Fz w wr)
 case atStart=>exact⟨0,none,0,rfl,Nat.zero_le _,by omega,rfl,rfl,FRow.nil _ _ _ _,Fr.refl _⟩
 case round=>
  obtain⟨j,au,cu,hg,hj,hj70,rfl,rfl,hrow,F⟩:=hrel
  have HG:=Hi hg;have HRW:=Hi hrow;have HF:=Hi F;have hml:((n.take j).map cutStep).length=j:=by rw[List.length_map,List.length_take];omega
  have HML:=Hi hml;clear hg hrow hml;by_cases hjl:j<n.length
  ·have q1:(j:Int)<(n.length:Int):=by omega
   by_cases h70:j<70
   ·have q2:(j:Int)<70:=by omega
    obtain⟨a0,cap0,he,_,_,hx⟩:=H.out
    simp only[Value.slice.injEq,true_and]at he
    obtain⟨rfl,rfl⟩:=he
    obtain⟨b,off,rfl,hy⟩:=hx (by omega)
    obtain⟨r,hr⟩:∃ r,n[j]? = some r:=⟨_,List.getElem?_eq_getElem hjl⟩
    obtain⟨x,e0,hA⟩:=hy j r hr
    have e1:=(HFB.out.trans F).cell e0 (fun h=>h);have HS:=Hi (lawStep_any x r wb wr hA (HFB.out.trans F));have HMT:=Hi (map_take_succ cutStep hr);have r1:(0:Int)≤(j:Int):=by omega
    clear hx hy hr e0 hA;obtain⟨wo,hwo⟩:∃ wo:World,wo=wr:=⟨_,rfl⟩
    obtain rfl:=hwo
    go_wp2_with fail
    refine HS.out.mono ?_;rintro e w2 ⟨⟨a2,c2,rfl,hrow2⟩,F2⟩;have hkp:=HRW.out.keep;have hk2:Kept (fun W=>Attrs W (.slice a2 (cutStep r).length c2) (cutStep r)) (fun k=>(Value.slice au j cu).ownBlock=some k∨(wb.heap.size≤k∧k<w.heap.size)) w2:=hrow2.kept ((HFB.out.trans HF.out).trans F2) _ (fun k e=>by
     have g1:=HFB.out.size;have g2:=HF.out.size;rcases e with e|e
     ·have:=hkp k e
      omega
     ·omega)
    obtain⟨a7,c7,w7,hrun,hrow7,F7⟩:=FRow.add Tryz.underlying37 info100 (HRW.out.old F2) (HF.out.trans F2).size ((Fr.refl w2).alloc (.cells #[.slice a2 (cutStep r).length c2] 100)) w2.heap.size _ (cutStep r) (Blk.new w2 100 #[.slice a2 (cutStep r).length c2]) rfl hk2 (by rw[HML.out];omega)
    have HG7:=Hi ((HF.out.trans F2).trans' F7 (fun i hi e=>absurd hi (by have:=(hkp i e).1;omega)));rw[HML.out]at hrun hrow7
    have HRUN:=Hi hrun;have HROW7:=Hi hrow7;clear hrun hrow7 F7 hk2 hkp hrow2 F2 e1 HS;go_wp2_with (at_builtin;refine wpList_append_run (by rfl) (.tmp 15) (.tmp 21) 37 (by rfl) _ w7 (by exact HRUN.out) ?_)
    go_roundg (n.length-(j+1))
    case measure=>rw[HG.out];omega
    case rel=>exact⟨j+1,a7,c7,rfl,by omega,by omega,rfl,by go_num,by rw[HMT.out];exact HROW7.out,HG7.out⟩
   ·obtain rfl:j=70:=by omega
    have q2:¬((70:Nat):Int)<70:=by omega
    have hres:(n.take 70).map cutStep=cutName n:=HCS.out.symm;have hrow:=HRW.out;rw[hres]at hrow
    have hlen:70=(cutName n).length:=by rw[←hres,HML.out]
    have HL:=Hi hlen;have HROW:=Hi hrow;clear hres hrow hlen;go_wp2_with fail
    go_ret;exact⟨⟨au,cu,by rw[←HL.out];rfl,by rw[←HL.out];exact HROW.out⟩,F⟩
  ·obtain rfl:j=n.length:=by omega
   have hres:(n.take n.length).map cutStep=cutName n:=by rw[HCS.out,List.take_of_length_le hj70,List.take_length]
   have hrow:=HRW.out;rw[hres]at hrow
   have hlen:n.length=(cutName n).length:=by rw[←hres,HML.out]
   have HL:=Hi hlen;have HROW:=Hi hrow;clear hres hrow hlen;go_wp2_with fail
   go_ret;exact⟨⟨au,cu,by rw[←HL.out];rfl,by rw[←HL.out];exact HROW.out⟩,F⟩
def fewExts (l:List Ext):List Ext:=(l.take 70).map cutExt
theorem lawNumTo_any (b:Bool)(vp:Value)(p:List UInt8)(wb w:World)(h:Bytes wb vp p)(Fb:Fz wb w) :
  Calls Tryz.prog 26 #[.agg #[.bool b,vp]] w fun e w'=>(∃ a c,e=.returned (.agg #[.bool b,.slice a p.length c])∧Kept (fun W=>Bytes W (.slice a p.length c) p) (fun k=>wb.heap.size≤k∧k<w.heap.size) w')∧Fz w w':=by
 obtain⟨ap,cp,rfl,-⟩:=Vals.form h
 have HP:=Hi h;obtain⟨z,hz⟩:∃ z,z=w.heap.size:=⟨_,rfl⟩
 have HZ:=Hi hz;have F0:Fz w ((w.alloc (.cells #[.bool b,.slice ap p.length cp] 54)).alloc (.cells #[.bool false,.slice none 0 0] 40)):=((Fr.refl w).alloc _).alloc _;have B:=(Blk.new w 54 #[.bool b,.slice ap p.length cp]).alloc (.cells #[.bool false,.slice none 0 0] 40);have D:=Blk.new (w.alloc (.cells #[.bool b,.slice ap p.length cp] 54)) 40 #[.bool false,.slice none 0 0];rw[World.size_alloc,←hz]at D
 rw[←hz]at B
 have HF0:=Hi F0;have hs0:w.heap.size+2=((w.alloc (.cells #[.bool b,.slice ap p.length cp] 54)).alloc (.cells #[.bool false,.slice none 0 0] 40)).heap.size:=by rw[World.size_alloc,World.size_alloc]
 have HFB:=Hi Fb;clear hz F0 Fb h;go_enter Tryz.func26,Tryz.ntmps26
 go_upto_region 1 with fail
 rw[←HZ.out]
 have HS0:=Hi hs0;clear hs0;generalize ((w.alloc (.cells #[.bool b,.slice ap p.length cp] 54)).alloc (.cells #[.bool false,.slice none 0 0] 40))=w0 at *
 have G:Fz w w0:=HF0.out;have e0:=B.cell 0;have e1:=B.cell 1;have d0:=D.cell 0;have d1:=D.cell 1;have f0:=D.frozen 0;have f1:=D.frozen 1;have D5:=set2 D (.bool b) (.slice ap p.length cp);have B5:=B.fr D5.2 (by omega);simp only[SG]at d0 d1 e0 e1
 all_goals
  have n0:=D5.1.cell 0;have n1:=D5.1.cell 1;simp only[SG]at n0 n1
  have hw1:=(HFB.out.trans G).mono (T:=fun k=>wb.heap.size≤k) (fun _ _ h=>h.elim);have hkp:=vals_keeps HP.out hw1 (fun k=>wb.heap.size≤k∧k<w0.heap.size) (fun k hk=>hk.1);have hsb:=HFB.out.size;have HK:=Hi (hkp.step (K':=fun k=>wb.heap.size≤k∧k<w.heap.size) D5.2 (fun k hk e=>by have:=HZ.out;have:=HS0.out;omega) (fun k hk=>by have:=HS0.out;exact .inl (by omega)));have HF:=Hi (G.trans' D5.2 (fun i hi e=>by have:=HZ.out;omega));clear hkp B D B5 D5 G hw1;go_wp2_with fail
  exact bodyPost_ret (v:=.agg #[.bool b,.slice ap p.length cp]) (by simp[results,Tryz.results26,go_sem,n0,n1]) rfl ⟨⟨ap,cp,rfl,HK.out⟩,HF.out⟩
theorem lawNumOf_any (b:Bool)(vp:Value)(p:List UInt8)(wb w:World)(h:Bytes wb vp p)(Fb:Fz wb w) :
  Calls Tryz.prog 35 #[.agg #[.bool b,vp]] w fun e w'=>(∃ a c,e=.returned (.agg #[.bool b,.slice a p.length c])∧Kept (fun W=>Bytes W (.slice a p.length c) p) (fun k=>wb.heap.size≤k∧k<w.heap.size) w')∧Fz w w':=by
 obtain⟨ap,cp,rfl,-⟩:=Vals.form h
 have HP:=Hi h;obtain⟨z,hz⟩:∃ z,z=w.heap.size:=⟨_,rfl⟩
 have HZ:=Hi hz;have F0:Fz w ((w.alloc (.cells #[.bool b,.slice ap p.length cp] 40)).alloc (.cells #[.bool false,.slice none 0 0] 54)):=((Fr.refl w).alloc _).alloc _;have B:=(Blk.new w 40 #[.bool b,.slice ap p.length cp]).alloc (.cells #[.bool false,.slice none 0 0] 54);have D:=Blk.new (w.alloc (.cells #[.bool b,.slice ap p.length cp] 40)) 54 #[.bool false,.slice none 0 0];rw[World.size_alloc,←hz]at D
 rw[←hz]at B
 have HF0:=Hi F0;have hs0:w.heap.size+2=((w.alloc (.cells #[.bool b,.slice ap p.length cp] 40)).alloc (.cells #[.bool false,.slice none 0 0] 54)).heap.size:=by rw[World.size_alloc,World.size_alloc]
 have HFB:=Hi Fb;clear hz F0 Fb h;go_enter Tryz.func35,Tryz.ntmps35
 go_upto_region 1 with fail
 rw[←HZ.out]
 have HS0:=Hi hs0;clear hs0;generalize ((w.alloc (.cells #[.bool b,.slice ap p.length cp] 40)).alloc (.cells #[.bool false,.slice none 0 0] 54))=w0 at *
 have G:Fz w w0:=HF0.out;have e0:=B.cell 0;have e1:=B.cell 1;have d0:=D.cell 0;have d1:=D.cell 1;have f0:=D.frozen 0;have f1:=D.frozen 1;have D5:=set2 D (.bool b) (.slice ap p.length cp);have B5:=B.fr D5.2 (by omega);simp only[SG]at d0 d1 e0 e1
 all_goals
  have n0:=D5.1.cell 0;have n1:=D5.1.cell 1;simp only[SG]at n0 n1
  have hw1:=(HFB.out.trans G).mono (T:=fun k=>wb.heap.size≤k) (fun _ _ h=>h.elim);have hkp:=vals_keeps HP.out hw1 (fun k=>wb.heap.size≤k∧k<w0.heap.size) (fun k hk=>hk.1);have hsb:=HFB.out.size;have HK:=Hi (hkp.step (K':=fun k=>wb.heap.size≤k∧k<w.heap.size) D5.2 (fun k hk e=>by have:=HZ.out;have:=HS0.out;omega) (fun k hk=>by have:=HS0.out;exact .inl (by omega)));have HF:=Hi (G.trans' D5.2 (fun i hi e=>by have:=HZ.out;omega));clear hkp B D B5 D5 G hw1;go_wp2_with fail
  exact bodyPost_ret (v:=.agg #[.bool b,.slice ap p.length cp]) (by simp[results,Tryz.results35,go_sem,n0,n1]) rfl ⟨⟨ap,cp,rfl,HK.out⟩,HF.out⟩
theorem short_any (v:Value)(n:List (List Part))(wb w:World)(h:NameAt wb v n)(Fb:Fz wb w) :
  Calls Tryz.prog 33 #[v] w fun e w'=>(∃ a c,e=.returned (.slice a (cutName (n.take 4)).length c)∧FRow (fun k=>wb.heap.size≤k∧k<w.heap.size) 100 w' w.heap.size (.slice a (cutName (n.take 4)).length c) (cutName (n.take 4)))∧Fz w w':=by
 obtain⟨a,c,rfl,hc,hm⟩:=NameAt.form h
 unfold maxLen at hm;obtain⟨m,hmm⟩:∃ m:Nat,m=min n.length 4:=⟨_,rfl⟩
 have c1:min (n.length:Int) 4=(m:Int):=by omega
 have c2:(m:Int)≤(c:Int):=by omega
 have c3:(0:Int)≤(m:Int):=by omega
 have H:=Hi (lawToK_any _ (n.take 4) wb w (NameAt.cut h 4 m hmm) Fb);obtain⟨q,hq⟩:∃ q,q=cutName (n.take 4):=⟨_,rfl⟩
 rw[←hq]at H ⊢
 clear h Fb hmm hq;go_enter Tryz.func33,Tryz.ntmps33
 go_wp2_with fail
 refine H.out.mono ?_;rintro e w1 ⟨⟨a1,k1,rfl,hr⟩,F1⟩;have HR:=Hi hr;clear hr;go_wp2_with fail
 go_ret;exact⟨⟨a1,k1,rfl,HR.out⟩,F1⟩
theorem num_any (b:Bool)(v:Value)(s:List UInt8)(wb w:World)(h:Bytes wb v s)(Fb:Fz wb w) :
  Calls Tryz.prog 34 #[.agg #[.bool b,v]] w fun e w'=>(∃ a c,e=.returned (.agg #[.bool b,.slice a (s.take 100).length c])∧Kept (fun W=>Bytes W (.slice a (s.take 100).length c) (s.take 100)) (fun k=>wb.heap.size≤k∧k<w.heap.size) w')∧Fz w w':=by
 obtain⟨a,c,rfl,hc,hm,-⟩:=Vals.form h
 unfold maxLen at hm;obtain⟨m,hmm⟩:∃ m:Nat,m=min s.length 100:=⟨_,rfl⟩
 have c1:min (s.length:Int) 100=(m:Int):=by omega
 have c2:(m:Int)≤(c:Int):=by omega
 have c3:(0:Int)≤(m:Int):=by omega
 obtain⟨z,hz⟩:∃ z,z=w.heap.size:=⟨_,rfl⟩
 have HZ:=Hi hz;have F0:Fz w ((w.alloc (.cells #[.bool b,.slice a s.length c] 54)).alloc (.cells #[.bool false,.slice none 0 0] 40)):=((Fr.refl w).alloc _).alloc _;have B:=(Blk.new w 54 #[.bool b,.slice a s.length c]).alloc (.cells #[.bool false,.slice none 0 0] 40);have D:=Blk.new (w.alloc (.cells #[.bool b,.slice a s.length c] 54)) 40 #[.bool false,.slice none 0 0];rw[World.size_alloc,←hz]at D
 rw[←hz]at B
 have hs0:w.heap.size+2=((w.alloc (.cells #[.bool b,.slice a s.length c] 54)).alloc (.cells #[.bool false,.slice none 0 0] 40)).heap.size:=by rw[World.size_alloc,World.size_alloc]
 have HS0:=Hi hs0;have HF0:=Hi F0;have HFB:=Hi Fb;have HSC:=Hi (Vals.cut h 100 m hmm);obtain⟨q,hq⟩:∃ q,q=s.take 100:=⟨_,rfl⟩
 rw[←hq]at HSC ⊢
 clear hz F0 Fb h hmm hs0 hq hc;go_enter Tryz.func34,Tryz.ntmps34
 go_upto_region 1 with fail
 rw[←HZ.out]
 generalize ((w.alloc (.cells #[.bool b,.slice a s.length c] 54)).alloc (.cells #[.bool false,.slice none 0 0] 40))=w0 at *
 have e1:=B.cell 1;have f1:=B.frozen 1;simp only[SG]at e1
 go_upto_region 2 with fail
 have B1:Blk (w0.setCell ⟨z,1,none⟩ (.slice a m c)) z 54 #[.bool b,.slice a m c]:=B.set 1 (.slice a m c);have D1:=D.set_other (a:=⟨z,1,none⟩) (show z+1≠z by omega) (.slice a m c);have F1:Fr (fun k=>k=z) w0 (w0.setCell ⟨z,1,none⟩ (.slice a m c)):=(Fr.refl w0).setCell (S:=fun k=>k=z) (p:=⟨z,1,none⟩) (fun _=>rfl) _;have F1w:Fz w (w0.setCell ⟨z,1,none⟩ (.slice a m c)):=HF0.out.trans' F1 (fun i hi e=>by have:=HZ.out;omega);have hs1:(w0.setCell ⟨z,1,none⟩ (.slice a m c)).heap.size=w0.heap.size:=by simp[World.setCell]
 generalize w0.setCell ⟨z,1,none⟩ (.slice a m c)=w1 at *
 have HO:=Hi (lawNumTo_any b _ q wb w1 HSC.out (HFB.out.trans F1w));have HF1:=Hi F1w;have g0:=B1.cell 0;have g1:=B1.cell 1;simp only[SG]at g0 g1
 have HD1:=Hi D1;have HS1:=Hi hs1;clear e1 f1 F1 F1w D1 B D hs1 B1
 go_wp2_with (go_at_call 26;refine HO.out.mono ?_;rintro e w2 ⟨⟨a2,k2,rfl,hk⟩,F2⟩;have D2:=HD1.out.fr F2 (fun h=>h);have d0:=D2.cell 0;have d1:=D2.cell 1;have t0:=D2.frozen 0;have t1:=D2.frozen 1;have D5:=set2 D2 (.bool b) (.slice a2 q.length k2);have n0:=D5.1.cell 0;have n1:=D5.1.cell 1;simp only[SG]at d0 d1 n0 n1;have hsb:=HFB.out.size;have HK:=Hi (hk.step (K':=fun k=>wb.heap.size≤k∧k<w.heap.size) D5.2 (fun k hk e=>by have:=HZ.out;have:=HS0.out;have:=HS1.out;omega) (fun k hk=>by have:=HS0.out;have:=HS1.out;exact .inl (by omega)));have HF:=Hi ((HF1.out.trans F2).trans' D5.2 (fun i hi e=>by have:=HZ.out;omega));clear hk F2 D2 D5 g0 g1)
 exact bodyPost_ret (v:=.agg #[.bool b,.slice a2 q.length k2]) (by simp[results,Tryz.results34,go_sem,n0,n1]) rfl ⟨⟨a2,k2,rfl,HK.out⟩,HF.out⟩
theorem toRows_any (v:Value)(l:List RowI)(w:World)(h:RefsI w v l) :
  Calls Tryz.prog 8 #[v] w fun e w'=>(∃ a c,e=.returned (.slice a (toRows l).length c)∧Go.Q.Rows w' (.slice a (toRows l).length c) (toRows l))∧Fz w w':=by
 have H:=Hi h;have HDF:=Hi (show toRows l=(l.take 8).map toRow from rfl);obtain⟨a0,cap0,rfl,-⟩:=h
 go_enter Tryz.func8,Tryz.ntmps8
 go_wp2_with fail
 go_loopg [3,4] l.length (fun g u i wr=>∃ (j:Nat) (a:Option Addr) (c:Nat) (gs:List RowP),g=l.length-j∧j≤l.length∧j≤8∧u=.slice a gs.length c∧i=.int .i64 j∧gs.length=j∧Hid (gs=(l.take j).map toRow)∧Hid (GRow 6 RRow (fun _=>False) 43 wr w.heap.size (.slice a gs.length c) gs)∧Hid (Fz w wr))
 case atStart=>exact⟨0,none,0,[],rfl,Nat.zero_le _,by omega,rfl,rfl,rfl,Hi rfl,Hi (GRow.nil _ _ _ _ _ _),Hi (Fr.refl _)⟩
 case round=>
  obtain⟨j,a,c,gs,hg,hj,hj8,rfl,rfl,hgl,HGS,HRW,HF⟩:=hrel
  have HG:=Hi hg;have HGL:=Hi hgl;clear hg;by_cases hjl:j<l.length
  ·by_cases h8:j<8
   ·obtain⟨x,hx⟩:∃ x,l[j]? = some x:=⟨_,List.getElem?_eq_getElem hjl⟩
    obtain⟨b,o,cs,rfl,-,hcs,hR,hcell⟩:=LAt.get H.out hx
    obtain⟨p1,p2,p3,p4,rfl,hni,hsi⟩:=hR.form
    have HLOW:=Hi (show b<w.heap.size from World.block_lt_of_cell? w _ (hcell 0 _ rfl))
    have HS:=Hi (fun W (F:Fz wr W)=>show W.cell? ⟨b,o+j*7,none⟩=some (.slice p1 x.iss.length p2)∧W.cell? ⟨b,o+j*7+1,none⟩=some (.bool x.num.below)∧W.cell? ⟨b,o+j*7+1+1,none⟩=some (.slice p3 x.num.size.length p4)∧W.cell? ⟨b,o+j*7+3,none⟩=some (.int .i64 x.date)∧W.cell? ⟨b,o+j*7+4,none⟩=some (.int .i64 x.reason) from ⟨by have:=(HF.out.trans F).cell (hcell 0 _ rfl) (fun h=>h);rwa[Nat.add_zero]at this,(HF.out.trans F).cell (hcell 1 _ rfl) (fun h=>h),(HF.out.trans F).cell (hcell 2 _ rfl) (fun h=>h),(HF.out.trans F).cell (hcell 3 _ rfl) (fun h=>h),(HF.out.trans F).cell (hcell 4 _ rfl) (fun h=>h)⟩)
    have HS2:=Hi (fun W (F:Fz wr W)=>show W.cell? ⟨b,o+j*7+5,none⟩=some (.bool x.dated)∧W.cell? ⟨b,o+j*7+6,none⟩=some (.int .i64 x.inv) from ⟨(HF.out.trans F).cell (hcell 5 _ rfl) (fun h=>h),(HF.out.trans F).cell (hcell 6 _ rfl) (fun h=>h)⟩);have r1:(0:Int)≤(j:Int):=by omega
    have r2:(j:Int)<(l.length:Int):=by omega
    have r3:(j:Int)<8:=by omega
    obtain⟨nn,hnn⟩:∃ nn,nn=cutName (x.iss.take 4):=⟨_,rfl⟩
    obtain⟨ss,hss⟩:∃ ss,ss=x.num.size.take 100:=⟨_,rfl⟩
    have HSH:=Hi (fun W (F:Fz wr W)=>short_any _ x.iss w W hni (HF.out.trans F));have HNM:=Hi (fun W (F:Fz wr W)=>num_any x.num.below _ x.num.size w W hsi (HF.out.trans F));rw[←hnn]at HSH
    rw[←hss]at HNM
    have HRT:=Hi (fun (W:World) (vi vs vp:Value) (g1:NameAt W vi nn) (g2:Bytes W vs ss) (g3:InvAt W vp (if x.dated=true then some x.inv else none))=>show RRow W [vi,.bool x.num.below,vs,.int .i64 x.date,.int .i64 x.reason,vp] (toRow x) from by
     subst hnn hss;exact⟨vi,vs,vp,rfl,g1,g2,g3⟩)
    have HTK:=Hi (show (l.take (j+1)).map toRow=(l.take j).map toRow++[toRow x] by rw[List.take_add_one,hx,List.map_append];rfl);clear hx hcell hR hni hsi hnn hss hcs h8 hgl;go_upto_region 5 with fail
    have hwr:=HF.out.size;have HWR:=Hi hwr;go_cut [5] from 17 to 40 (fun s5 wc=>∃ y a1 k1 b2 d2,s5=pt y∧wr.heap.size≤y∧Blk wc y 43 #[.slice a1 nn.length k1,.bool x.num.below,.slice b2 ss.length d2,.int .i64 x.date,.int .i64 x.reason,.pointer none]∧Kept (fun W=>NameAt W (.slice a1 nn.length k1) nn∧Bytes W (.slice b2 ss.length d2) ss) (fun k=>(w.heap.size≤k∧k<wr.heap.size)∨k=y) wc∧Fz wr wc)
    case first=>
     have hsd:wr.drew.heap.size=wr.heap.size:=rfl;have hsa:(wr.alloc (.cells #[.slice none 0 0,.bool false,.slice none 0 0,.int .i64 0,.int .i64 0,.pointer none] 43)).drew.heap.size=wr.heap.size+1:=World.size_alloc _ _;have GD:Fz wr wr.drew:=(Fr.refl wr).drew;have GA:Fz wr (wr.alloc (.cells #[.slice none 0 0,.bool false,.slice none 0 0,.int .i64 0,.int .i64 0,.pointer none] 43)).drew:=((Fr.refl wr).alloc _).drew
     go_region_held3 (fun w'=>w'.cell? ⟨b,o+j*7,none⟩=some (.slice p1 x.iss.length p2)∧w'.cell? ⟨b,o+j*7+1,none⟩=some (.bool x.num.below)∧w'.cell? ⟨b,o+j*7+1+1,none⟩=some (.slice p3 x.num.size.length p4)∧w'.cell? ⟨b,o+j*7+3,none⟩=some (.int .i64 x.date)∧w'.cell? ⟨b,o+j*7+4,none⟩=some (.int .i64 x.reason)) (first|(with_reducible exact HS.out _ GD)|(with_reducible exact HS.out _ GA)|(with_reducible exact HS.out _ G1)|(with_reducible exact HS.out _ GB)|(with_reducible exact HS.out _ G3)|(with_reducible exact HS.out _ G4)|(with_reducible exact HS.out _ GC)|fail) (first
      |(go_at_call 33;(with_reducible refine(HSH.out _ GD).mono ?_);rintro e w' ⟨⟨a1,k1,rfl,hr⟩,F⟩;have hw2:=F.size;have G1:=GD.trans F;have kn:=hr.kept (fun k=>w.heap.size≤k∧k<wr.heap.size) (fun k hk=>⟨⟨hk.1,by omega⟩,by omega⟩);have GB:=G1.alloc (.cells #[.slice none 0 0,.bool false,.slice none 0 0,.int .i64 0,.int .i64 0,.pointer none] 43);clear hr F HSH)
      |(go_at_call 33;(with_reducible refine(HSH.out _ GA).mono ?_);rintro e w' ⟨⟨a1,k1,rfl,hr⟩,F⟩;have hw2:=F.size;have G1:=GA.trans F;have BN:=(Blk.new wr 43 #[.slice none 0 0,.bool false,.slice none 0 0,.int .i64 0,.int .i64 0,.pointer none]).drew.fr F (fun h=>h);have kn:=hr.kept (fun k=>(w.heap.size≤k∧k<wr.heap.size)∨k=wr.heap.size) (fun k hk=>⟨⟨by rcases hk with hk|hk<;>omega,by rcases hk with hk|hk<;>omega⟩,by rcases hk with hk|hk<;>omega⟩);clear hr F HSH)
      |(go_at_call 34;(with_reducible refine(HNM.out _ GB).mono ?_);rintro e w3 ⟨⟨b2,d2,rfl,hq⟩,F⟩;have hsb:(w'.alloc (.cells #[.slice none 0 0,.bool false,.slice none 0 0,.int .i64 0,.int .i64 0,.pointer none] 43)).heap.size=w'.heap.size+1:=World.size_alloc _ _;have BN:=(Blk.new w' 43 #[.slice none 0 0,.bool false,.slice none 0 0,.int .i64 0,.int .i64 0,.pointer none]).fr F (fun h=>h);have G3:=GB.trans F;have kk:Kept (fun W=>NameAt W (.slice a1 nn.length k1) nn∧Bytes W (.slice b2 ss.length d2) ss) (fun k=>(w.heap.size≤k∧k<wr.heap.size)∨k=w'.heap.size) w3:=Kept.both (kn.step (((Fr.refl w').alloc (.cells #[.slice none 0 0,.bool false,.slice none 0 0,.int .i64 0,.int .i64 0,.pointer none] 43):Fz w' _).trans F) (fun _ _ h=>h.elim) (fun k hk=>by rcases hk with hk|hk;exact .inl hk;exact .inr (by omega))) (hq.weaken (fun k hk=>by rcases hk with hk|hk<;>omega));have hle:wr.heap.size≤w'.heap.size:=by omega
        have HE:=one_put [.slice a1 nn.length k1,.bool x.num.below,.slice b2 ss.length d2,.int .i64 x.date,.int .i64 x.reason,.pointer none] BN rfl G3 (by omega) kk (.inr rfl);(simp only[putL]at HE);have G4:=HE.2.2;have d0:=BN.cell 0;have d1:=BN.cell 1;have d2':=BN.cell 2;have d3:=BN.cell 3;have d4:=BN.cell 4;have d5:=BN.cell 5;have f0:=BN.frozen 0;have f1:=BN.frozen 1;have f2:=BN.frozen 2;have f3:=BN.frozen 3;have f4:=BN.frozen 4;have f5:=BN.frozen 5;(simp only[SG]at d0 d1 d2' d3 d4 d5);clear F hq kk BN kn HNM)
      |(go_at_call 34;(with_reducible refine(HNM.out _ G1).mono ?_);rintro e w3 ⟨⟨b2,d2,rfl,hq⟩,F⟩;replace BN:=BN.fr F (fun h=>h);have G3:=G1.trans F;have kk:Kept (fun W=>NameAt W (.slice a1 nn.length k1) nn∧Bytes W (.slice b2 ss.length d2) ss) (fun k=>(w.heap.size≤k∧k<wr.heap.size)∨k=wr.heap.size) w3:=Kept.both (kn.old F) (hq.weaken (fun k hk=>by rcases hk with hk|hk<;>omega));have hle:wr.heap.size≤wr.heap.size:=Nat.le_refl _
        have HE:=one_put [.slice a1 nn.length k1,.bool x.num.below,.slice b2 ss.length d2,.int .i64 x.date,.int .i64 x.reason,.pointer none] BN rfl G3 (by omega) kk (.inr rfl);(simp only[putL]at HE);have G4:=HE.2.2;have d0:=BN.cell 0;have d1:=BN.cell 1;have d2':=BN.cell 2;have d3:=BN.cell 3;have d4:=BN.cell 4;have d5:=BN.cell 5;have f0:=BN.frozen 0;have f1:=BN.frozen 1;have f2:=BN.frozen 2;have f3:=BN.frozen 3;have f4:=BN.frozen 4;have f5:=BN.frozen 5;(simp only[SG]at d0 d1 d2' d3 d4 d5);clear F hq kk BN kn HNM)
      |(go_at_call 34;(with_reducible refine(HNM.out _ G1).mono ?_);rintro e w3 ⟨⟨b2,d2,rfl,hq⟩,F⟩;have hw3:=F.size;have G3:=G1.trans F;have kk:Kept (fun W=>NameAt W (.slice a1 nn.length k1) nn∧Bytes W (.slice b2 ss.length d2) ss) (fun k=>w.heap.size≤k∧k<wr.heap.size) w3:=Kept.both (kn.old F) (hq.weaken (fun k hk=>by omega));have hle:wr.heap.size≤w3.heap.size:=by omega
        have HE:=one_new 43 [.slice a1 nn.length k1,.bool x.num.below,.slice b2 ss.length d2,.int .i64 x.date,.int .i64 x.reason,.pointer none] G3 kk (K':=(fun k=>(w.heap.size≤k∧k<wr.heap.size)∨k=w3.heap.size)) (fun k hk=>by rcases hk with hk|hk;exact .inl hk;exact .inr (by omega));have G4:=HE.2.2;have GC:=G3.alloc (.cells #[.slice none 0 0,.bool false,.slice none 0 0,.int .i64 0,.int .i64 0,.pointer none] 43);clear F hq kk kn HNM GB)
      |fail)
     all_goals
      try clear d0 d1 d2' d3 d4 d5 f0 f1 f2 f3 f4 f5
      have h1:=Hi HE;clear HE G4;go_wp2_with fail
      go_meet
      refine⟨_,a1,k1,b2,d2,rfl,?_,?_⟩
      ·exact hle
      ·with_reducible exact h1.out
    case rest=>
     obtain⟨y,a1,k1,b2,d2,rfl,hy,B5,hk,F5⟩:=hcut
     obtain⟨e5,e6⟩:=HS2.out wc F5
     have HY:=Hi hy;have HB5:=Hi B5;have HK:=Hi hk;have HF5:=Hi F5;clear hy B5 hk F5 HS HS2 HSH HNM;cases hd:x.dated with
     |false=>
      rw[hd]at e5
      have hkr:=HK.out.imp (fun W g=>HRT.out W _ _ (.pointer none) g.1 g.2 (by rw[hd];rfl));have m0:=HB5.out.cell 0;have m1:=HB5.out.cell 1;have m2:=HB5.out.cell 2;have m3:=HB5.out.cell 3;have m4:=HB5.out.cell 4;have m5:=HB5.out.cell 5;simp only[SG]at m0 m1 m2 m3 m4 m5
      obtain⟨a7,c7,w7,hrun,hrow7,F7,-⟩:=(HRW.out.old HF5.out).add (s:=23) Tryz.underlying23 info43 rfl (by decide) (by decide) (by have:=HWR.out;have:=(HF5.out).size;omega) ((Fr.refl wc).alloc (.cells [.slice a1 nn.length k1,.bool x.num.below,.slice b2 ss.length d2,.int .i64 x.date,.int .i64 x.reason,.pointer none].toArray 43)) wc.heap.size [.slice a1 nn.length k1,.bool x.num.below,.slice b2 ss.length d2,.int .i64 x.date,.int .i64 x.reason,.pointer none] rfl (Blk.new wc 43 [.slice a1 nn.length k1,.bool x.num.below,.slice b2 ss.length d2,.int .i64 x.date,.int .i64 x.reason,.pointer none].toArray) (by simp[Value.oneCell']) (toRow x) (hkr.weaken (fun k hk=>by
        rcases hk with hk|hk
        ·exact .inl (HRW.out.keep k hk)
        ·exact hk.elim)) (by have:=HGL.out;omega)
      have HRUN:=Hi hrun;have HRW7:=Hi hrow7;have HKP:=Hi HRW.out.keep;have HF7:=Hi ((HF.out.trans (HF5.out)).trans' F7 (fun i hi e=>absurd hi (by have:=(HKP.out i e).1;omega)));have HGS7:=Hi (show gs++[toRow x]=(l.take (j+1)).map toRow by rw[HTK.out,HGS.out]);clear hkr hrun hrow7 F7 hd HRT HK;go_wp2_with (at_builtin;refine wpList_append_run (by rfl) (.tmp 51) (.tmp 53) 23 (by rfl) _ w7 (by exact HRUN.out) ?_)
      go_roundg (l.length-(j+1))
      case measure=>rw[HG.out];omega
      case rel=>exact⟨j+1,a7,c7,gs++[toRow x],rfl,by omega,by omega,by rw[List.length_append];rfl,by go_num,by rw[List.length_append,HGL.out];rfl,HGS7,Hi (by rw[List.length_append];exact HRW7.out),HF7⟩
     |true=>
      rw[hd]at e5
      go_upto_region 8 with fail
      obtain⟨q,hq⟩:∃ q,q=wc.heap.size:=⟨_,rfl⟩
      have N6:=Blk.new wc 3 #[.int .i64 x.inv];have M5:=HB5.out.alloc (.cells #[.int .i64 x.inv] 3);have hyl:=HB5.out.lt;have hyw:=HY.out;have m5:=M5.cell 5;have f5:=M5.frozen 5;simp only[SG]at m5
      have FE:=Fr.setCell (S:=fun k=>k=y) (p:=⟨y,5,none⟩) ((Fr.refl wc).alloc (.cells #[.int .i64 x.inv] 3)) (fun _=>rfl) (.pointer (some ⟨q,0,none⟩));rw[←hq]at N6
      have N6s:=N6.set_other (a:=⟨y,5,none⟩) (by show q≠y;omega) (.pointer (some ⟨q,0,none⟩));have M5s:Blk ((wc.alloc (.cells #[.int .i64 x.inv] 3)).setCell ⟨y,5,none⟩ (.pointer (some ⟨q,0,none⟩))) y 43 #[.slice a1 nn.length k1,.bool x.num.below,.slice b2 ss.length d2,.int .i64 x.date,.int .i64 x.reason,.pointer (some ⟨q,0,none⟩)]:=M5.set 5 (.pointer (some ⟨q,0,none⟩))
      have hke:Kept (fun W=>RRow W [.slice a1 nn.length k1,.bool x.num.below,.slice b2 ss.length d2,.int .i64 x.date,.int .i64 x.reason,.pointer (some ⟨q,0,none⟩)] (toRow x)) (fun k=>(w.heap.size≤k∧k<wr.heap.size)∨k=y) ((wc.alloc (.cells #[.int .i64 x.inv] 3)).setCell ⟨y,5,none⟩ (.pointer (some ⟨q,0,none⟩))):=by
       have g1:=HK.out.step FE (K':=(fun k=>(w.heap.size≤k∧k<wr.heap.size)∨k=y)) (fun k _ e=>.inr e) (fun k hk=>.inl hk);have g2:Kept (fun W=>W.cell? ⟨q,0,none⟩=some (.int .i64 x.inv)) (fun k=>(w.heap.size≤k∧k<wr.heap.size)∨k=y) ((wc.alloc (.cells #[.int .i64 x.inv] 3)).setCell ⟨y,5,none⟩ (.pointer (some ⟨q,0,none⟩))):=fun V f=>f.cell (N6s.cell 0) (fun h=>by rcases h with h|h<;>(simp only at h;omega))
       exact(Kept.both g1 g2).imp (fun W g=>HRT.out W _ _ (.pointer (some ⟨q,0,none⟩)) g.1.1 g.1.2 (by rw[hd];exact⟨_,_,rfl,g.2⟩))
      have hfe:Fz wr ((wc.alloc (.cells #[.int .i64 x.inv] 3)).setCell ⟨y,5,none⟩ (.pointer (some ⟨q,0,none⟩))):=HF5.out.trans' FE (fun i hi e=>by have e2:i=y:=e;omega);have HKE:=Hi hke;have HFE:=Hi hfe;have HM:=Hi M5s;have HQ:=Hi hq;clear hke hfe FE N6 N6s M5 M5s hq hyl hyw hd HRT HK;go_upto_region 9 with fail
      clear m5 f5 e5 e6;rw[←HQ.out]
      generalize ((wc.alloc (.cells #[.int .i64 x.inv] 3)).setCell ⟨y,5,none⟩ (.pointer (some ⟨q,0,none⟩)))=we at *
      have m0:=HM.out.cell 0;have m1:=HM.out.cell 1;have m2:=HM.out.cell 2;have m3:=HM.out.cell 3;have m4:=HM.out.cell 4;have m5:=HM.out.cell 5;simp only[SG]at m0 m1 m2 m3 m4 m5
      obtain⟨a7,c7,w7,hrun,hrow7,F7,-⟩:=(HRW.out.old HFE.out).add (s:=23) Tryz.underlying23 info43 rfl (by decide) (by decide) (by have:=HWR.out;have:=(HFE.out).size;omega) ((Fr.refl we).alloc (.cells [.slice a1 nn.length k1,.bool x.num.below,.slice b2 ss.length d2,.int .i64 x.date,.int .i64 x.reason,.pointer (some ⟨q,0,none⟩)].toArray 43)) we.heap.size [.slice a1 nn.length k1,.bool x.num.below,.slice b2 ss.length d2,.int .i64 x.date,.int .i64 x.reason,.pointer (some ⟨q,0,none⟩)] rfl (Blk.new we 43 [.slice a1 nn.length k1,.bool x.num.below,.slice b2 ss.length d2,.int .i64 x.date,.int .i64 x.reason,.pointer (some ⟨q,0,none⟩)].toArray) (by simp[Value.oneCell']) (toRow x) (HKE.out.weaken (fun k hk=>by
        rcases hk with hk|hk
        ·exact .inl (HRW.out.keep k hk)
        ·exact hk.elim)) (by have:=HGL.out;omega)
      have HRUN:=Hi hrun;have HRW7:=Hi hrow7;have HKP:=Hi HRW.out.keep;have HF7:=Hi ((HF.out.trans (HFE.out)).trans' F7 (fun i hi e=>absurd hi (by have:=(HKP.out i e).1;omega)));have HGS7:=Hi (show gs++[toRow x]=(l.take (j+1)).map toRow by rw[HTK.out,HGS.out]);clear hrun hrow7 F7;go_wp2_with (at_builtin;refine wpList_append_run (by rfl) (.tmp 51) (.tmp 53) 23 (by rfl) _ w7 (by exact HRUN.out) ?_)
      go_roundg (l.length-(j+1))
      case measure=>rw[HG.out];omega
      case rel=>exact⟨j+1,a7,c7,gs++[toRow x],rfl,by omega,by omega,by rw[List.length_append];rfl,by go_num,by rw[List.length_append,HGL.out];rfl,HGS7,Hi (by rw[List.length_append];exact HRW7.out),HF7⟩
   ·obtain rfl:j=8:=by omega
    have q2:¬((8:Nat):Int)<8:=by omega
    have q1:((8:Nat):Int)<(l.length:Int):=by omega
    have HE:=Hi (show gs=toRows l by rw[HGS.out,HDF.out]);clear hgl hj8 h8;go_wp2_with fail
    go_ret;rw[←HE.out]
    exact⟨⟨a,c,rfl,HRW.out.at (by decide)⟩,HF.out⟩
  ·have HE:=Hi (show gs=toRows l by rw[HGS.out,HDF.out,List.take_of_length_le (by omega),List.take_of_length_le (by omega)])
   clear hgl;go_wp2_with fail
   go_ret;rw[←HE.out]
   exact⟨⟨a,c,rfl,HRW.out.at (by decide)⟩,HF.out⟩
end Go.Proofs.YtehlipgmkinfbaaGreatDoor
