/-
  Merged by program: XIxKn XIxNil XR02O XR04P XR15 XR14R XR14P XR14N XR15R XR15L XGenTo XExt XCe17 XCe18 XCeTo XIxLw1 XGenF XGenFe XGpLaw.
-/
import Derived.Test.YtehlipgmkinfbaaGreatDoorN0av
set_option linter.unusedSimpArgs false
set_option maxRecDepth 100000
set_option maxHeartbeats 8000000
namespace Go.Q
open Go Go.RowKit
def knN:List (List Part):=knA.take 1
theorem knN_of:nameOfS [knT1]=.ok knN:=by kernel_rfl
theorem knN_ok:nameOk knN=true:=knA1_ok
theorem knN_fit:fitN knN:=⟨by decide,fun r hr=>⟨kn_few r (List.mem_of_mem_take hr),by
 simp only[knN,knA,List.take_succ_cons,List.take_zero,List.mem_singleton]at hr
 subst hr;exact⟨by decide,fun p hp=>by rw[List.mem_singleton.1 hp];decide⟩⟩⟩
theorem kn_fitW (k:UInt8):fitW (kRow knN k):=⟨knN_fit,by show (1:Nat)≤_;decide⟩
theorem kn_fitR (k:UInt8):fitR (kRow knN k):=⟨knN_fit,knN_ok,by show (1:Nat)≤_;decide⟩
theorem rows_one {W:World}{g:Nat}{t:TypeId}{us:List Value}{r:RowP}(B:Blk W g t us.toArray)(h1:us.length=6)(hr:RRow W us r):Go.Q.Rows W (.slice (some ⟨g,0,none⟩) 1 1) [r]:=
 ⟨_,1,rfl,Nat.le_refl _,by unfold maxLen;omega,fun _=>⟨g,0,rfl,fun i x hi=>by
  have h0:i=0:=by
   have:=(List.getElem?_eq_some_iff.1 hi).1;simp at this
   omega
  subst h0;simp only[List.getElem?_cons_zero,Option.some.injEq]at hi
  subst hi;exact⟨us,h1,fun j u hu=>by have:=B.cell (0+6*0+j);rw[this,List.getElem?_toArray];simpa using hu,hr⟩⟩⟩
theorem rows_two {W:World}{g:Nat}{t:TypeId}{us vs:List Value}{r s:RowP}(B:Blk W g t (us++vs).toArray)(h1:us.length=6)(h2:vs.length=6)(hr:RRow W us r)(hs:RRow W vs s):Go.Q.Rows W (.slice (some ⟨g,0,none⟩) 2 2) [r,s]:=
 ⟨_,2,rfl,Nat.le_refl _,by unfold maxLen;omega,fun _=>⟨g,0,rfl,fun i x hi=>by
  have h0:i=0∨i=1:=by
   have:=(List.getElem?_eq_some_iff.1 hi).1;simp at this
   omega
  rcases h0 with rfl|rfl
  ·simp only[List.getElem?_cons_zero,Option.some.injEq]at hi
   subst hi;exact⟨us,h1,fun j u hu=>by
    have hj:=(List.getElem?_eq_some_iff.1 hu).1;have:=B.cell (0+6*0+j);rw[this,List.getElem?_toArray,List.getElem?_append_left (by omega)]
    simpa using hu,hr⟩
  ·simp only[List.getElem?_cons_succ,List.getElem?_cons_zero,Option.some.injEq]at hi
   subst hi;exact⟨vs,h2,fun j u hu=>by
    have:=B.cell (0+6*1+j);rw[this,List.getElem?_toArray,List.getElem?_append_right (by omega),show 0+6*1+j-us.length=j by omega]
    exact hu,hs⟩⟩⟩
structure Ext where
 o:List Int
 c:Bool
 v:List UInt8
def RExt (W:World)(cs:List Value)(x:Ext):Prop:=∃ vo vv,cs=[vo,.bool x.c,vv]∧Ints W vo x.o∧Bytes W vv x.v
abbrev Exts (W:World)(v:Value)(l:List Ext):Prop:=LAt 3 RExt W v l
theorem RExt.old (w w':World)(cs:List Value)(x:Ext)(h:RExt w cs x)(f:Fz w w'):RExt w' cs x:=by
 obtain⟨vo,vv,rfl,h1,h2⟩:=h
 exact⟨vo,vv,rfl,h1.old f,h2.old f⟩
theorem Exts.old {w w':World}{v:Value}{l:List Ext}(h:Exts w v l)(f:Fz w w'):Exts w' v l:=LAt.old RExt.old h f
def ExtAt (W:World)(u:Value)(x:Ext):Prop:=∃ vo vv,u=.agg #[vo,.bool x.c,vv]∧Ints W vo x.o∧Bytes W vv x.v
theorem ExtAt.old {w w':World}{u:Value}{x:Ext}(h:ExtAt w u x)(f:Fz w w'):ExtAt w' u x:=by
 obtain⟨vo,vv,rfl,h1,h2⟩:=h
 exact⟨vo,vv,rfl,h1.old f,h2.old f⟩
theorem ExtAt.form {w:World}{u:Value}{x:Ext}(h:ExtAt w u x):∃ ao co av cv,u=.agg #[.slice ao x.o.length co,.bool x.c,.slice av x.v.length cv]∧Ints w (.slice ao x.o.length co) x.o∧Bytes w (.slice av x.v.length cv) x.v:=by
 obtain⟨vo,vv,rfl,h1,h2⟩:=h
 obtain⟨ao,co,rfl,-⟩:=Ints.form h1
 obtain⟨av,cv,rfl,-⟩:=h2.form
 exact⟨ao,co,av,cv,rfl,h1,h2⟩
theorem Exts.get {w:World}{a:Option Addr}{n c:Nat}{l:List Ext}(h:Exts w (.slice a n c) l){i:Nat}{x:Ext}(hi:l[i]? = some x):∃ b o ao co av cv,a=some ⟨b,o,none⟩∧n=l.length∧ExtAt w (.agg #[.slice ao x.o.length co,.bool x.c,.slice av x.v.length cv]) x∧w.cell? ⟨b,o+i*3,none⟩=some (.slice ao x.o.length co)∧w.cell? ⟨b,o+i*3+1,none⟩=some (.bool x.c)∧w.cell? ⟨b,o+i*3+2,none⟩=some (.slice av x.v.length cv):=by
 obtain⟨a0,c0,he,h1,h2,h3⟩:=h
 simp only[Value.slice.injEq]at he
 obtain⟨rfl,rfl,rfl⟩:=he
 have hil:=(List.getElem?_eq_some_iff.1 hi).1;obtain⟨b,o,rfl,hy⟩:=h3 (by omega)
 obtain⟨cs,-,e2,vo,vv,rfl,g1,g2⟩:=hy i x hi
 obtain⟨ao,co,rfl,-⟩:=Ints.form g1
 obtain⟨av,cv,rfl,-⟩:=g2.form
 rw[Nat.mul_comm]at e2
 exact⟨b,o,ao,co,av,cv,rfl,rfl,⟨_,_,rfl,g1,g2⟩,e2 0 _ rfl,e2 1 _ rfl,e2 2 _ rfl⟩
theorem Exts.cut {w:World}{a:Option Addr}{c:Nat}{l:List Ext}(h:Exts w (.slice a l.length c) l)(N m:Nat)(hm:m=min l.length N):Exts w (.slice a m c) (l.take N):=by
 obtain⟨a0,c0,he,h1,h2,h3⟩:=h
 simp only[Value.slice.injEq]at he
 obtain⟨rfl,-,rfl⟩:=he
 have hl:(l.take N).length=m:=by rw[List.length_take];omega
 refine⟨a,c,by rw[hl],by omega,h2,fun h0=>?_⟩
 obtain⟨b,o,rfl,hy⟩:=h3 (by omega)
 refine⟨b,o,rfl,fun i r hr=>hy i r ?_⟩
 rw[List.getElem?_take]at hr
 split at hr
 ·exact hr
 ·cases hr
structure CertT where
 below:Bool
 size:List UInt8
 iss:List (List Part)
 sub:List (List Part)
 t0:Int
 t1:Int
 ao:List Int
 ap:List UInt8
 kn:List UInt8
 ex:List Ext
def CertIn (W:World)(x:CertT)(vs vi vj va vp vk ve:Value):Prop:=Bytes W vs x.size∧NameAt W vi x.iss∧NameAt W vj x.sub∧Ints W va x.ao∧Bytes W vp x.ap∧Bytes W vk x.kn∧Exts W ve x.ex
def CertAt (W:World)(u:Value)(x:CertT):Prop:=∃ vs vi vj va vp vk ve,u=.agg #[.bool x.below,vs,vi,vj,.int .i64 x.t0,.int .i64 x.t1,va,vp,vk,ve]∧CertIn W x vs vi vj va vp vk ve
theorem CertIn.old {w w':World}{x:CertT}{vs vi vj va vp vk ve:Value}(h:CertIn w x vs vi vj va vp vk ve)(f:Fz w w'):CertIn w' x vs vi vj va vp vk ve:=by
 obtain⟨h1,h2,h3,h4,h5,h6,h7⟩:=h
 exact⟨h1.old f,h2.old f,h3.old f,h4.old f,h5.old f,h6.old f,h7.old f⟩
theorem CertAt.old {w w':World}{u:Value}{x:CertT}(h:CertAt w u x)(f:Fz w w'):CertAt w' u x:=by
 obtain⟨vs,vi,vj,va,vp,vk,ve,rfl,h1⟩:=h
 exact⟨vs,vi,vj,va,vp,vk,ve,rfl,h1.old f⟩
def cutExt (x:Ext):Ext:=⟨x.o.take 40,x.c,x.v.take 200⟩
def cutCert (x:CertT):CertT:=⟨x.below,x.size.take 100,cutName (x.iss.take 5),cutName (x.sub.take 5),x.t0,x.t1,x.ao.take 40,x.ap.take 200,x.kn.take 100,((x.ex.take 10).take 70).map cutExt⟩
theorem vals_keeps {wb w:World}{v:Value}{xs:List Value}(h:Vals wb v xs)(F:Fr (fun k=>wb.heap.size≤k) wb w)(K:Nat→Prop)(hK:∀ k,K k→wb.heap.size≤k):Kept (fun W=>Vals W v xs) K w:=fun W f=>
 h.fr (F.trans (f.mono (fun k _ hk=>hK k hk))) (fun h0 k hk hs=>by have:=h.lt h0 k hk;omega)
def AlgIn (W:World)(vo vp:Value)(o:List Int)(p:List UInt8):Prop:=Ints W vo o∧Bytes W vp p
def PubIn (W:World)(vo vp vk:Value)(o:List Int)(p k:List UInt8):Prop:=Ints W vo o∧Bytes W vp p∧Bytes W vk k
def cutGen (g:Gen):Gen:=⟨g.k,g.b.take 300,cutName (g.n.take 5)⟩
def fewS (l:List Gen):List Gen:=(l.take 20).map cutGen
theorem NamesL.get {w:World}{a:Option Addr}{n c:Nat}{l:List (List (List Part))}(h:NamesL w (.slice a n c) l){i:Nat}{x:List (List Part)}(hi:l[i]? = some x):∃ b o an cn,a=some ⟨b,o,none⟩∧n=l.length∧NameAt w (.slice an x.length cn) x∧w.cell? ⟨b,o+i,none⟩=some (.slice an x.length cn):=by
 obtain⟨a0,c0,he,h1,h2,h3⟩:=h
 simp only[Value.slice.injEq]at he
 obtain⟨rfl,rfl,rfl⟩:=he
 have hil:=(List.getElem?_eq_some_iff.1 hi).1;obtain⟨b,o,rfl,hy⟩:=h3 (by omega)
 obtain⟨cs,-,e2,u,rfl,g1⟩:=hy i x hi
 have g2:=g1;obtain⟨an,cn,rfl,-⟩:=g2
 have:=e2 0 _ rfl;rw[Nat.one_mul]at this
 exact⟨b,o,an,cn,rfl,rfl,g1,this⟩
theorem cutName_fit (n:List (List Part)):fitN (cutName n):=by
 refine⟨by have:=cutName_len n;omega,fun r hr=>⟨cutName_few n r hr,?_,fun p hp=>?_⟩⟩
 ·obtain⟨s,-,rfl⟩:=List.mem_map.1 hr
  have:=cutStep_len s;omega
 ·obtain⟨s,-,rfl⟩:=List.mem_map.1 hr
  obtain⟨q,-,rfl⟩:=List.mem_map.1 hp
  show (q.o.take 40).length≤_
  rw[List.length_take]
  omega
def Bag (t:TypeId)(w0 W:World)(l:List Nat):Prop:=Fz w0 W∧l.Nodup∧∀ z∈l,w0.heap.size≤z∧Blk W z t #[.int .i64 0,.slice none 0 0,.slice none 0 0]
theorem Bag.lt {t:TypeId}{w0 W:World}{l:List Nat}(h:Bag t w0 W l):∀ z∈l,z<W.heap.size:=fun z hz=>(h.2.2 z hz).2.lt
theorem Bag.more {t:TypeId}{w0 W:World}{l:List Nat}(h:Bag t w0 W l):Bag t w0 (W.alloc (.cells #[.int .i64 0,.slice none 0 0,.slice none 0 0] t)) (W.heap.size::l):=by
 refine⟨h.1.alloc _,List.nodup_cons.2 ⟨fun hm=>Nat.lt_irrefl _ (h.lt _ hm),h.2.1⟩,fun z hz=>?_⟩
 rcases List.mem_cons.1 hz with rfl|hz
 ·exact⟨h.1.size,Blk.new _ _ _⟩
 ·exact⟨(h.2.2 z hz).1,(h.2.2 z hz).2.alloc _⟩
theorem Bag.call {t:TypeId}{w0 W W':World}{l:List Nat}(h:Bag t w0 W l)(F:Fz W W'):Bag t w0 W' l:=⟨h.1.trans F,h.2.1,fun z hz=>⟨(h.2.2 z hz).1,(h.2.2 z hz).2.fr F (fun h=>h)⟩⟩
theorem Bag.drew {t:TypeId}{w0 W:World}{l:List Nat}(h:Bag t w0 W l):Bag t w0 W.drew l:=⟨h.1.drew,h.2.1,fun z hz=>⟨(h.2.2 z hz).1,(h.2.2 z hz).2.drew⟩⟩
abbrev Held (R:World→Prop)(l:List Nat)(W:World):Prop:=Kept R (fun k=>k∈l) W
theorem Held.more {R:World→Prop}{l:List Nat}{W:World}(h:Held R l W)(o:Obj):Held R (W.heap.size::l) (W.alloc o):=Kept.step h (S:=fun _=>False) ((Fr.refl W).alloc o) (fun _ _ h=>h.elim) (fun k hk=>by
 rcases List.mem_cons.1 hk with rfl|hk
 ·exact .inr (Nat.le_refl _)
 ·exact .inl hk)
theorem Bag.held {t:TypeId}{w0 W:World}{l:List Nat}(h:Bag t w0 W l){R:World→Prop}{w':World}(hk:Kept R (fun k=>k<W.heap.size) w'):Held R l w':=fun V f=>hk V (f.mono (fun k _ hm=>h.lt k hm))
def put3 (W:World)(z:Nat)(a b c:Value):World:=((W.setCell ⟨z,0,none⟩ a).setCell ⟨z,1,none⟩ b).setCell ⟨z,2,none⟩ c
def Done (t:TypeId)(w0:World)(R:World→Prop)(a b c d e f:Value)(V:World)(p q:Nat):Prop:=Blk V p t #[a,b,c]∧Blk V q t #[d,e,f]∧R V∧Fz w0 V
end Go.Q
namespace Go.Proofs.YtehlipgmkinfbaaGreatDoor
open Go Go.RowKit Go.Q
theorem kn1_any (k:Nat)(hk:k=3∨k=5)(bn:Nat)(va:Option Addr)(vc:Nat)(n:List (List Part))(w:World)(hc:w.cell? ⟨bn,0,none⟩=some (.slice va n.length vc)) :
  Calls Tryz.prog 42 #[.int .i64 k,pt bn] w fun e w'=>(∃ a c,e=.returned (.agg #[.slice va n.length vc,.bool false,.slice a 1 c,.int .i64 0,.int .i64 0,.pointer none])∧Kept (fun W=>Bytes W (.slice a 1 c) [UInt8.ofNat k]) (fun j=>j<w.heap.size) w')∧Fz w w':=by
 obtain⟨z,hz⟩:∃ z,z=w.heap.size:=⟨_,rfl⟩
 have HZ:=Hi hz;have F0:Fz w (w.alloc (.cells #[.slice none 0 0,.bool false,.slice none 0 0,.int .i64 0,.int .i64 0,.pointer none] 43)):=(Fr.refl w).alloc _;have D:=Blk.new w 43 #[.slice none 0 0,.bool false,.slice none 0 0,.int .i64 0,.int .i64 0,.pointer none];rw[←hz]at D
 have hs0:(w.alloc (.cells #[.slice none 0 0,.bool false,.slice none 0 0,.int .i64 0,.int .i64 0,.pointer none] 43)).heap.size=z+1:=by rw[World.size_alloc,hz]
 have hlow:bn<w.heap.size:=World.block_lt_of_cell? w _ hc;have HC:=Hi (F0.cell hc (fun h=>h));have HLOW:=Hi hlow;have HS0:=Hi hs0;have HF0:=Hi F0;have HOF:=Hi (fun W=>wOf_any k hk W);clear hz F0 hs0 hc hlow;go_enter Tryz.func42,Tryz.ntmps42
 go_upto_region 1 with fail
 rw[←HZ.out]
 generalize (w.alloc (.cells #[.slice none 0 0,.bool false,.slice none 0 0,.int .i64 0,.int .i64 0,.pointer none] 43))=w0 at *
 have cb:=HC.out;have G:Fz w0 w0.drew:=(Fr.refl w0).drew;refine wp_region_N 4 (S:=fun w'=>w'.cell? ⟨bn,0,none⟩=some (.slice va n.length vc)) (by kernel_rfl) ?_ (fun hHeld=>?_)
 ·exact G.cell cb (fun h=>h)
 refine tkN 0 rfl hHeld ?_;refine tkN 1 rfl hHeld ?_;(try simp only[Act.put,SS]);refine stN 2 (fun KK hKK=>?_);go_simp
 (go_at_call 43;(with_reducible refine(HOF.out _).mono ?_);rintro e w' ⟨⟨a,c,rfl,hq⟩,F⟩;have hsz:=G.size;replace G:=G.trans F;clear F;go_wp2_with fail)
 refine hKK.out _ _ ?_ (fun hHeld=>?_)
 ·exact G.cell cb (fun h=>h)
 clear hKK KK;(try simp only[Act.put,SS]);refine tkN 3 rfl hHeld ?_;(try simp only[Act.put,SS]);have D1:=D.fr G (fun h=>h);have P:=putL_all (Z:=[.slice none 0 0,.bool false,.slice none 0 0,.int .i64 0,.int .i64 0,.pointer none]) D1 (l:=[.slice va n.length vc,.bool false,.slice a 1 c,.int .i64 0,.int .i64 0,.pointer none]) rfl;have d0:=D1.cell 0;have d1:=D1.cell 1;have d2:=D1.cell 2;have d3:=D1.cell 3;have d4:=D1.cell 4;have d5:=D1.cell 5;have f0:=D1.frozen 0;have f1:=D1.frozen 1;have f2:=D1.frozen 2;have f3:=D1.frozen 3;have f4:=D1.frozen 4;have f5:=D1.frozen 5;simp only[SG]at d0 d1 d2 d3 d4 d5
 have HK:=Hi (hq.step (K':=fun j=>j<w.heap.size) P.2 (fun j hj e=>by have e2:j=z:=e;have hd:w0.drew.heap.size=w0.heap.size:=rfl;have:=HS0.out;omega) (fun j hj=>by have hd:w0.drew.heap.size=w0.heap.size:=rfl;have:=HS0.out;have:=HZ.out;exact .inl (by omega)));have HPF:=Hi ((HF0.out.trans G).trans' P.2 (fun i hi e=>by have e2:i=z:=e;have:=HZ.out;omega));have HPB:=Hi P.1;simp only[putL]at HPF HPB HK
 clear P D D1 hq;refine wpAnyN_last (i:=4) (by kernel_rfl) (by decide) (o:=_) rfl (fun KK hKK=>?_);go_simp
 skip
 refine hKK.out _ _ ?_;clear hKK KK;(try simp only[Act.put,SS]);refine wpAnyN_done (by kernel_rfl) ?_ _;clear d0 d1 d2 d3 d4 d5 f0 f1 f2 f3 f4 f5;have u0:=HPB.out.cell 0;have u1:=HPB.out.cell 1;have u2:=HPB.out.cell 2;have u3:=HPB.out.cell 3;have u4:=HPB.out.cell 4;have u5:=HPB.out.cell 5;simp only[SG]at u0 u1 u2 u3 u4 u5
 go_wp2_with fail
 exact bodyPost_ret (v:=.agg #[.slice va n.length vc,.bool false,.slice a 1 c,.int .i64 0,.int .i64 0,.pointer none]) (by simp[results,Tryz.results42,go_sem,u0,u1,u2,u3,u4,u5]) rfl ⟨⟨a,c,rfl,HK.out⟩,HPF.out⟩
theorem kn_row {W:World}{va a:Option Addr}{vc c:Nat}(k:UInt8)(h:NameAt W (.slice va knN.length vc) knN)(hb:Bytes W (.slice a 1 c) [k]):RRow W [.slice va knN.length vc,.bool false,.slice a 1 c,.int .i64 0,.int .i64 0,.pointer none] (kRow knN k):=⟨_,_,.pointer none,rfl,h,hb,rfl⟩
theorem ixKnown_any (w:World)(hE:Env w) :
  Calls Tryz.prog 12 #[] w fun e w'=>e=.returned (.bool true)∧Fz w w':=by
 have HE:=Hi hE;have F0:Fz w (w.alloc (.cells #[str knT1] 9)):=(Fr.refl w).alloc _;have hst:Strs (w.alloc (.cells #[str knT1] 9)) (.slice (some ⟨w.heap.size,0,none⟩) 1 1) [knT1]:=Vals.of_block (Blk.new w 9 #[str knT1]) (by unfold maxLen;simp);have HNO:=Hi (nameOf_any _ [knT1] _ hst (hE.old F0) (fun k hk=>by rw[List.mem_singleton.1 hk];decide) (by simp));have HF0:=Hi F0;clear hE F0 hst;go_enter Tryz.func12,Tryz.ntmps12
 go_wp2_with fail
 refine HNO.out.mono ?_;rintro e w1 ⟨hout,F1⟩;unfold NameOfOut at hout;rw[knN_of]at hout
 obtain⟨vA,rfl,hA⟩:=hout
 have hAt:=hA.at;obtain⟨va,vc,rfl⟩:=hA.shape
 have HA:=Hi hAt;have HF1:=Hi (HF0.out.trans F1);obtain⟨bn,hbn⟩:∃ bn,bn=w1.heap.size:=⟨_,rfl⟩
 have HBN:=Hi hbn;have B2:=Blk.new w1 37 #[.slice va knN.length vc];rw[←hbn]at B2
 have HB2:=Hi B2;have F2:Fz w1 (w1.alloc (.cells #[.slice va knN.length vc] 37)):=(Fr.refl w1).alloc _;have HF2:=Hi F2;clear hA hAt F1 hbn B2 F2 HNO;go_upto_region 2 with fail
 rw[←HBN.out]
 generalize (w1.alloc (.cells #[.slice va knN.length vc] 37))=w2 at *
 have HC:=Hi (fun (k:Nat) (hk:k=3∨k=5) W (F:Fz w2 W)=>kn1_any k hk bn va vc knN W (F.cell (HB2.out.cell 0) (fun h=>h)));have HN:=Hi (fun W (F:Fz w2 W)=>HA.out.old (HF2.out.trans F));have HEE:=Hi (fun W (F:Fz w2 W)=>HE.out.old ((HF1.out.trans HF2.out).trans F));clear HA HB2 HE;go_wp2_with fail
 refine(HC.out 5 (by decide) w2 (Fr.refl w2)).mono ?_
 rintro e w3 ⟨⟨a1,c1,rfl,hq1⟩,F1⟩;have HQ1:=Hi hq1;have HG1:=Hi (((Fr.refl w2)).trans F1);have HR1:=Hi F1;clear hq1 F1;go_wp2_with fail
 refine(HC.out 3 (by decide) w3 HG1.out).mono ?_
 rintro e w4 ⟨⟨a2,c2,rfl,hq2⟩,F2⟩;have FA:Fz w4 (w4.alloc (.cells #[.slice va knN.length vc,.bool false,.slice a1 1 c1,.int .i64 0,.int .i64 0,.pointer none,.slice va knN.length vc,.bool false,.slice a2 1 c2,.int .i64 0,.int .i64 0,.pointer none] 43)):=(Fr.refl w4).alloc _;have HG2:=Hi ((HG1.out.trans F2).trans FA);have HR2:=Hi ((HR1.out.trans F2).trans FA)
 have HRS:Hid (Go.Q.Rows (w4.alloc (.cells #[.slice va knN.length vc,.bool false,.slice a1 1 c1,.int .i64 0,.int .i64 0,.pointer none,.slice va knN.length vc,.bool false,.slice a2 1 c2,.int .i64 0,.int .i64 0,.pointer none] 43)) (.slice (some ⟨w4.heap.size,0,none⟩) 2 2) [kRow knN 5,kRow knN 3]):=Hi (rows_two (us:=[.slice va knN.length vc,.bool false,.slice a1 1 c1,.int .i64 0,.int .i64 0,.pointer none]) (vs:=[.slice va knN.length vc,.bool false,.slice a2 1 c2,.int .i64 0,.int .i64 0,.pointer none]) (Blk.new w4 43 #[.slice va knN.length vc,.bool false,.slice a1 1 c1,.int .i64 0,.int .i64 0,.pointer none,.slice va knN.length vc,.bool false,.slice a2 1 c2,.int .i64 0,.int .i64 0,.pointer none]) rfl rfl (kn_row 5 (HN.out _ HG2.out) ((HQ1.out.old F2).old FA).now) (kn_row 3 (HN.out _ HG2.out) (hq2.old FA).now))
 have HNW:=Hi (ixNew_any _ [kRow knN 5,kRow knN 3] _ HRS.out (fun r hr=>by simp only[List.mem_cons,List.not_mem_nil,or_false]at hr;rcases hr with rfl|rfl<;>exact kn_fitW _) (by decide) (HEE.out _ HG2.out));clear hq2 F2 FA HQ1 HRS;go_wp2_with fail
 refine HNW.out.mono ?_;rintro e w6 ⟨hout,F3⟩;unfold NewOut at hout;rw[kn_two knN_ok]at hout
 obtain⟨bA,rfl,hix⟩:=hout
 have HIA:=Hi hix;have HF6:=Hi (HG2.out.trans F3);clear hix F3 HG1 HG2 HNW HR1 HR2;go_wp2_with fail
 refine(HC.out 5 (by decide) w6 HF6.out).mono ?_
 rintro e w7 ⟨⟨a1,c1,rfl,hq1⟩,F1⟩;have FA:Fz w7 (w7.alloc (.cells #[.slice va knN.length vc,.bool false,.slice a1 1 c1,.int .i64 0,.int .i64 0,.pointer none] 43)):=(Fr.refl w7).alloc _;have HG2:=Hi ((HF6.out.trans F1).trans FA);have HG67:=Hi (F1.trans FA)
 have HRS:Hid (Go.Q.Rows (w7.alloc (.cells #[.slice va knN.length vc,.bool false,.slice a1 1 c1,.int .i64 0,.int .i64 0,.pointer none] 43)) (.slice (some ⟨w7.heap.size,0,none⟩) 1 1) [kRow knN 5]):=Hi (rows_one (us:=[.slice va knN.length vc,.bool false,.slice a1 1 c1,.int .i64 0,.int .i64 0,.pointer none]) (Blk.new w7 43 #[.slice va knN.length vc,.bool false,.slice a1 1 c1,.int .i64 0,.int .i64 0,.pointer none]) rfl (kn_row 5 (HN.out _ HG2.out) (hq1.old FA).now))
 have HNW:=Hi (ixNew_any _ [kRow knN 5] _ HRS.out (fun r hr=>by rw[List.mem_singleton.1 hr];exact kn_fitW _) (by decide) (HEE.out _ HG2.out));clear hq1 F1 FA HRS;go_wp2_with fail
 refine HNW.out.mono ?_;rintro e w8 ⟨hout,F3⟩;unfold NewOut at hout;rw[kn_one knN_ok]at hout
 obtain⟨bB,rfl,hix⟩:=hout
 have HIB:=Hi hix;have HF8:=Hi (HG2.out.trans F3);replace HIA:=Hi (HIA.out.old (HG67.out.trans F3));clear hix F3 HG2 HNW HG67;go_wp2_with fail
 refine(HC.out 5 (by decide) w8 HF8.out).mono ?_
 rintro e w9 ⟨⟨a1,c1,rfl,hq1⟩,F1⟩;have HQ1:=Hi hq1;have HG1:=Hi ((HF8.out).trans F1);have HR1:=Hi F1;clear hq1 F1;go_wp2_with fail
 refine(HC.out 5 (by decide) w9 HG1.out).mono ?_
 rintro e w10 ⟨⟨a2,c2,rfl,hq2⟩,F2⟩;have FA:Fz w10 (w10.alloc (.cells #[.slice va knN.length vc,.bool false,.slice a1 1 c1,.int .i64 0,.int .i64 0,.pointer none,.slice va knN.length vc,.bool false,.slice a2 1 c2,.int .i64 0,.int .i64 0,.pointer none] 43)):=(Fr.refl w10).alloc _;have HG2:=Hi ((HG1.out.trans F2).trans FA);have HR2:=Hi ((HR1.out.trans F2).trans FA)
 have HRS:Hid (Go.Q.Rows (w10.alloc (.cells #[.slice va knN.length vc,.bool false,.slice a1 1 c1,.int .i64 0,.int .i64 0,.pointer none,.slice va knN.length vc,.bool false,.slice a2 1 c2,.int .i64 0,.int .i64 0,.pointer none] 43)) (.slice (some ⟨w10.heap.size,0,none⟩) 2 2) [kRow knN 5,kRow knN 5]):=Hi (rows_two (us:=[.slice va knN.length vc,.bool false,.slice a1 1 c1,.int .i64 0,.int .i64 0,.pointer none]) (vs:=[.slice va knN.length vc,.bool false,.slice a2 1 c2,.int .i64 0,.int .i64 0,.pointer none]) (Blk.new w10 43 #[.slice va knN.length vc,.bool false,.slice a1 1 c1,.int .i64 0,.int .i64 0,.pointer none,.slice va knN.length vc,.bool false,.slice a2 1 c2,.int .i64 0,.int .i64 0,.pointer none]) rfl rfl (kn_row 5 (HN.out _ HG2.out) ((HQ1.out.old F2).old FA).now) (kn_row 5 (HN.out _ HG2.out) (hq2.old FA).now))
 have HNW:=Hi (ixNew_any _ [kRow knN 5,kRow knN 5] _ HRS.out (fun r hr=>by simp only[List.mem_cons,List.not_mem_nil,or_false]at hr;rcases hr with rfl|rfl<;>exact kn_fitW _) (by decide) (HEE.out _ HG2.out));clear hq2 F2 FA HQ1 HRS;go_wp2_with fail
 refine HNW.out.mono ?_;rintro e w12 ⟨hout,F3⟩;unfold NewOut at hout;rw[kn_twice knN_ok]at hout
 subst hout;have HF12:=Hi (HG2.out.trans F3);replace HIA:=Hi (HIA.out.old (HR2.out.trans F3));replace HIB:=Hi (HIB.out.old (HR2.out.trans F3));have HFA:=Hi (show ∀ r∈[kRow knN 3,kRow knN 5],fitR r from fun r hr=>by simp only[List.mem_cons,List.not_mem_nil,or_false]at hr;rcases hr with rfl|rfl<;>exact kn_fitR _);have HFB:=Hi (show ∀ r∈[kRow knN 5],fitR r from fun r hr=>by rw[List.mem_singleton.1 hr];exact kn_fitR _);have HFD:=Hi (show ∀ r∈[goneR (kRow knN 3)],fitR r from fun r hr=>by rw[List.mem_singleton.1 hr];exact kn_fitR 3);clear F3 HG1 HG2 HR1 HR2 HNW;go_wp2_with fail
 refine(ixAll_any _ _ w12 HIA.out HFA.out (by decide)).mono ?_
 rintro e w13 ⟨⟨aA,cA,rfl,hrA⟩,F13⟩;have HRA:=Hi hrA;have HDE:=Hi (ixDelta_any _ _ _ _ w13 (HIA.out.old F13) (HIB.out.old F13) HFA.out HFB.out (by decide));have HF13:=Hi (HF12.out.trans F13);clear hrA F13 HIA HIB;go_wp2_with fail
 refine HDE.out.mono ?_;rintro e w14 ⟨⟨bD,rfl,hix⟩,F14⟩;rw[kn_nrow]at hix
 have HID:=Hi (ixAll_any _ _ w14 hix HFD.out (by decide));have HF14:=Hi (HF13.out.trans F14);replace HRA:=Hi (HRA.out.old F14);clear hix F14 HDE;go_wp2_with fail
 refine HID.out.mono ?_;rintro e w15 ⟨⟨aD,cD,rfl,hrD⟩,F15⟩;have hrA:=HRA.out.old F15;have HF15:=Hi (HF14.out.trans F15);have e3:[kRow knN 3,kRow knN 5].map nrow=[kRow knN 3,kRow knN 5]:=by rw[List.map_cons,List.map_cons,List.map_nil,nrow_k _ _ rfl,nrow_k _ _ rfl]
 have e4:[goneR (kRow knN 3)].map nrow=[goneR (kRow knN 3)]:=by simp[nrow,goneR,kRow,madeS,trimS]
 rw[e3]at hrA
 rw[e4]at hrD
 obtain⟨b1,o1,cs,rfl,-,-,hR1,hc1⟩:=LAt.get hrA (i:=0) rfl
 obtain⟨b2,o2,ds,rfl,-,-,hR2,hc2⟩:=LAt.get hrD (i:=0) rfl
 obtain⟨p1,p2,p3,p4,p5,rfl,-,hb1,-⟩:=hR1.form
 obtain⟨r1,r2,r3,r4,r5,rfl,-,hb2,-⟩:=hR2.form
 have x1:w15.cell? ⟨b1,o1+1,none⟩=some (.bool false):=by have:=hc1 1 _ rfl;rw[show o1+0*6+1=o1+1 by omega]at this;exact this
 have x2:w15.cell? ⟨b1,o1+2,none⟩=some (.slice p3 1 p4):=by have:=hc1 2 _ rfl;rw[show o1+0*6+2=o1+2 by omega]at this;exact this
 have y1:w15.cell? ⟨b2,o2+1,none⟩=some (.bool false):=by have:=hc2 1 _ rfl;rw[show o2+0*6+1=o2+1 by omega]at this;exact this
 have y2:w15.cell? ⟨b2,o2+2,none⟩=some (.slice r3 1 r4):=by have:=hc2 2 _ rfl;rw[show o2+0*6+2=o2+2 by omega]at this;exact this
 have y4:w15.cell? ⟨b2,o2+4,none⟩=some (.int .i64 8):=by have:=hc2 4 _ rfl;rw[show o2+0*6+4=o2+4 by omega]at this;exact this
 have HT1:=Hi (wText3_any p3 p4 w15 hb1);have HT2:=Hi (fun W (F:Fz w15 W)=>wText3_any r3 r4 W (Vals.old hb2 F));have HY:=Hi (fun W (F:Fz w15 W)=>And.intro (F.cell y1 (fun h=>h)) (And.intro (F.cell y2 (fun h=>h)) (F.cell y4 (fun h=>h))));clear hrA hrD hR1 hR2 hc1 hc2 hb1 hb2 F15 e3 e4 y1 y2 y4 HRA HID;simp only[List.length_cons,List.length_nil,Nat.zero_add,Nat.reduceAdd] at *
 go_wp2_with fail
 refine HT1.out.mono ?_;rintro e w16 ⟨rfl,F16⟩;obtain⟨y1,y2,y4⟩:=HY.out w16 F16
 have HT3:=Hi (HT2.out w16 F16);have HF16:=Hi (HF15.out.trans F16);clear F16 x1 x2 HT1 HT2;go_wp2_with fail
 refine HT3.out.mono ?_;rintro e w17 ⟨rfl,F17⟩;have HF17:=Hi (HF1.out.trans (HF2.out.trans (HF16.out.trans F17)));clear F17 y1 y2 y4 HT3;go_wp2_with fail
 go_ret;exact⟨rfl,HF17.out⟩
def rOpenOut (v:Value)(l:List UInt8)(p:Nat)(r:Except Int (List UInt8 × Nat))(e:Ending):Prop:=
 match r with
 |.error x=>e=.returned (.tuple #[.slice none 0 0,.int .i64 p,.int .i64 x])
 |.ok (y,k)=>∃ A c,e=.returned (.tuple #[.slice A y.length c,.int .i64 ((p+k:Nat):Int),.int .i64 0])∧∀ W,Bytes W v l→Bytes W (.slice A y.length c) y
def rOidOut (w w':World)(p:Nat)(r:Except Int (List Int × Nat))(e:Ending):Prop:=
 match r with
 |.error x=>e=.returned (.tuple #[.slice none 0 0,.int .i64 p,.int .i64 x])
 |.ok (o,k)=>∃ a c,e=.returned (.tuple #[.slice a o.length c,.int .i64 ((p+k:Nat):Int),.int .i64 0])∧w'.ownsRow w.heap.size 3 1 (.slice a o.length c) o.length (intCells o)
def rStepOut (K:Nat→Prop)(w':World)(p:Nat)(r:Except Int (List Part × Nat))(e:Ending):Prop:=
 match r with
 |.error x=>e=.returned (.tuple #[.slice none 0 0,.int .i64 p,.int .i64 x])
 |.ok (l,k)=>∃ a c,e=.returned (.tuple #[.slice a l.length c,.int .i64 ((p+k:Nat):Int),.int .i64 0])∧Kept (fun W=>Attrs W (.slice a l.length c) l) K w'
def rNameOut (K:Nat→Prop)(w':World)(p:Nat)(r:Except Int (List (List Part) × Nat))(e:Ending):Prop:=
 match r with
 |.error x=>e=.returned (.tuple #[.slice none 0 0,.int .i64 p,.int .i64 x])
 |.ok (l,k)=>∃ a c,e=.returned (.tuple #[.slice a l.length c,.int .i64 ((p+k:Nat):Int),.int .i64 0])∧Kept (fun W=>NameAt W (.slice a l.length c) l) K w'
def rParseOut (K:Nat→Prop)(w':World)(r:Except Int (List (List Part)))(e:Ending):Prop:=
 match r with
 |.error x=>e=.returned (.tuple #[.slice none 0 0,.int .i64 x])
 |.ok l=>∃ a c,e=.returned (.tuple #[.slice a l.length c,.int .i64 0])∧Kept (fun W=>NameAt W (.slice a l.length c) l) K w'
def rGenOut (K:Nat→Prop)(w':World)(p:Nat)(r:Except Int (Gen × Nat))(e:Ending):Prop:=
 match r with
 |.error x=>e=.returned (.tuple #[.agg #[.int .i64 0,.slice none 0 0,.slice none 0 0],.int .i64 p,.int .i64 x])
 |.ok (g,k)=>∃ ab cb an cn,e=.returned (.tuple #[.agg #[.int .i64 g.k,.slice ab g.b.length cb,.slice an g.n.length cn],.int .i64 ((p+k:Nat):Int),.int .i64 0])∧Kept (fun W=>Bytes W (.slice ab g.b.length cb) g.b∧NameAt W (.slice an g.n.length cn) g.n) K w'
def rGensOut (K:Nat→Prop)(w':World)(r:Except Int (List Gen))(e:Ending):Prop:=
 match r with
 |.error x=>e=.returned (.tuple #[.slice none 0 0,.int .i64 x])
 |.ok gs=>∃ a c,e=.returned (.tuple #[.slice a gs.length c,.int .i64 0])∧Kept (fun W=>Gens W (.slice a gs.length c) gs) K w'
def rListOut (K:Nat→Prop)(w':World)(p:Nat)(r:Except Int (List Gen × Nat))(e:Ending):Prop:=
 match r with
 |.error x=>e=.returned (.tuple #[.slice none 0 0,.int .i64 p,.int .i64 x])
 |.ok (gs,k)=>∃ a c,e=.returned (.tuple #[.slice a gs.length c,.int .i64 ((p+k:Nat):Int),.int .i64 0])∧Kept (fun W=>Gens W (.slice a gs.length c) gs) K w'
theorem lawToK_any (v:Value)(n:List (List Part))(wb w:World)(h:NameAt wb v n)(Fb:Fz wb w) :
  Calls Tryz.prog 24 #[v] w fun e w'=>(∃ a c,e=.returned (.slice a (cutName n).length c)∧FRow (fun k=>wb.heap.size≤k∧k<w.heap.size) 100 w' w.heap.size (.slice a (cutName n).length c) (cutName n))∧Fz w w':=by
 have H:=Hi h;have HFB:=Hi Fb;obtain⟨a,cap,rfl,-⟩:=h
 have hcs:cutName n=(n.take 70).map cutStep:=rfl;have HCS:=Hi hcs;clear hcs Fb;go_enter Tryz.func24,Tryz.ntmps24
 go_wp2_with fail
 go_loopg [3,4] n.length (fun g u i wr=>∃ (j:Nat) (au:Option Addr) (cu:Nat),g=n.length-j∧j≤n.length∧j≤70∧u=.slice au j cu∧i=.int .i64 j∧FRow (fun k=>wb.heap.size≤k∧k<w.heap.size) 100 wr w.heap.size (.slice au j cu) ((n.take j).map cutStep)∧Fz w wr)
 case atStart=>exact⟨0,none,0,rfl,Nat.zero_le _,by omega,rfl,rfl,FRow.nil _ _ _ _,Fr.refl _⟩
 case round=>
  obtain⟨j,au,cu,hg,hj,hj70,rfl,rfl,hrow,F⟩:=hrel
  have HG:=Hi hg;have HRW:=Hi hrow;have HF:=Hi F;have hml:((n.take j).map cutStep).length=j:=by rw[List.length_map,List.length_take];omega
  have HML:=Hi hml;clear hg hrow hml;by_cases hjl:j<n.length
  ·have q1:(j:Int)<(n.length:Int):=by omega
   by_cases h70:j<70
   ·have q2:(j:Int)<70:=by omega
    obtain⟨a0,cap0,he,_,_,hx⟩:=H.out
    simp only[Value.slice.injEq,true_and]at he
    obtain⟨rfl,rfl⟩:=he
    obtain⟨b,off,rfl,hy⟩:=hx (by omega)
    obtain⟨r,hr⟩:∃ r,n[j]? = some r:=⟨_,List.getElem?_eq_getElem hjl⟩
    obtain⟨x,e0,hA⟩:=hy j r hr
    have e1:=(HFB.out.trans F).cell e0 (fun h=>h);have HS:=Hi (lawStep_any x r wb wr hA (HFB.out.trans F));have HMT:=Hi (map_take_succ cutStep hr);have r1:(0:Int)≤(j:Int):=by omega
    clear hx hy hr e0 hA;obtain⟨wo,hwo⟩:∃ wo:World,wo=wr:=⟨_,rfl⟩
    obtain rfl:=hwo
    go_wp2_with fail
    refine HS.out.mono ?_;rintro e w2 ⟨⟨a2,c2,rfl,hrow2⟩,F2⟩;have hkp:=HRW.out.keep;have hk2:Kept (fun W=>Attrs W (.slice a2 (cutStep r).length c2) (cutStep r)) (fun k=>(Value.slice au j cu).ownBlock=some k∨(wb.heap.size≤k∧k<w.heap.size)) w2:=hrow2.kept ((HFB.out.trans HF.out).trans F2) _ (fun k e=>by
     have g1:=HFB.out.size;have g2:=HF.out.size;rcases e with e|e
     ·have:=hkp k e
      omega
     ·omega)
    obtain⟨a7,c7,w7,hrun,hrow7,F7⟩:=FRow.add Tryz.underlying37 info100 (HRW.out.old F2) (HF.out.trans F2).size ((Fr.refl w2).alloc (.cells #[.slice a2 (cutStep r).length c2] 100)) w2.heap.size _ (cutStep r) (Blk.new w2 100 #[.slice a2 (cutStep r).length c2]) rfl hk2 (by rw[HML.out];omega)
    have HG7:=Hi ((HF.out.trans F2).trans' F7 (fun i hi e=>absurd hi (by have:=(hkp i e).1;omega)));rw[HML.out]at hrun hrow7
    have HRUN:=Hi hrun;have HROW7:=Hi hrow7;clear hrun hrow7 F7 hk2 hkp hrow2 F2 e1 HS;go_wp2_with (at_builtin;refine wpList_append_run (by rfl) (.tmp 15) (.tmp 21) 37 (by rfl) _ w7 (by exact HRUN.out) ?_)
    go_roundg (n.length-(j+1))
    case measure=>rw[HG.out];omega
    case rel=>exact⟨j+1,a7,c7,rfl,by omega,by omega,rfl,by go_num,by rw[HMT.out];exact HROW7.out,HG7.out⟩
   ·obtain rfl:j=70:=by omega
    have q2:¬((70:Nat):Int)<70:=by omega
    have hres:(n.take 70).map cutStep=cutName n:=HCS.out.symm;have hrow:=HRW.out;rw[hres]at hrow
    have hlen:70=(cutName n).length:=by rw[←hres,HML.out]
    have HL:=Hi hlen;have HROW:=Hi hrow;clear hres hrow hlen;go_wp2_with fail
    go_ret;exact⟨⟨au,cu,by rw[←HL.out];rfl,by rw[←HL.out];exact HROW.out⟩,F⟩
  ·obtain rfl:j=n.length:=by omega
   have hres:(n.take n.length).map cutStep=cutName n:=by rw[HCS.out,List.take_of_length_le hj70,List.take_length]
   have hrow:=HRW.out;rw[hres]at hrow
   have hlen:n.length=(cutName n).length:=by rw[←hres,HML.out]
   have HL:=Hi hlen;have HROW:=Hi hrow;clear hres hrow hlen;go_wp2_with fail
   go_ret;exact⟨⟨au,cu,by rw[←HL.out];rfl,by rw[←HL.out];exact HROW.out⟩,F⟩
def fewExts (l:List Ext):List Ext:=(l.take 70).map cutExt
theorem lawNumTo_any (b:Bool)(vp:Value)(p:List UInt8)(wb w:World)(h:Bytes wb vp p)(Fb:Fz wb w) :
  Calls Tryz.prog 26 #[.agg #[.bool b,vp]] w fun e w'=>(∃ a c,e=.returned (.agg #[.bool b,.slice a p.length c])∧Kept (fun W=>Bytes W (.slice a p.length c) p) (fun k=>wb.heap.size≤k∧k<w.heap.size) w')∧Fz w w':=by
 obtain⟨ap,cp,rfl,-⟩:=Vals.form h
 have HP:=Hi h;obtain⟨z,hz⟩:∃ z,z=w.heap.size:=⟨_,rfl⟩
 have HZ:=Hi hz;have F0:Fz w ((w.alloc (.cells #[.bool b,.slice ap p.length cp] 54)).alloc (.cells #[.bool false,.slice none 0 0] 40)):=((Fr.refl w).alloc _).alloc _;have B:=(Blk.new w 54 #[.bool b,.slice ap p.length cp]).alloc (.cells #[.bool false,.slice none 0 0] 40);have D:=Blk.new (w.alloc (.cells #[.bool b,.slice ap p.length cp] 54)) 40 #[.bool false,.slice none 0 0];rw[World.size_alloc,←hz]at D
 rw[←hz]at B
 have HF0:=Hi F0;have hs0:w.heap.size+2=((w.alloc (.cells #[.bool b,.slice ap p.length cp] 54)).alloc (.cells #[.bool false,.slice none 0 0] 40)).heap.size:=by rw[World.size_alloc,World.size_alloc]
 have HFB:=Hi Fb;clear hz F0 Fb h;go_enter Tryz.func26,Tryz.ntmps26
 go_upto_region 1 with fail
 rw[←HZ.out]
 have HS0:=Hi hs0;clear hs0;generalize ((w.alloc (.cells #[.bool b,.slice ap p.length cp] 54)).alloc (.cells #[.bool false,.slice none 0 0] 40))=w0 at *
 have G:Fz w w0:=HF0.out;have e0:=B.cell 0;have e1:=B.cell 1;have d0:=D.cell 0;have d1:=D.cell 1;have f0:=D.frozen 0;have f1:=D.frozen 1;have D5:=set2 D (.bool b) (.slice ap p.length cp);have B5:=B.fr D5.2 (by omega);simp only[SG]at d0 d1 e0 e1
 all_goals
  have n0:=D5.1.cell 0;have n1:=D5.1.cell 1;simp only[SG]at n0 n1
  have hw1:=(HFB.out.trans G).mono (T:=fun k=>wb.heap.size≤k) (fun _ _ h=>h.elim);have hkp:=vals_keeps HP.out hw1 (fun k=>wb.heap.size≤k∧k<w0.heap.size) (fun k hk=>hk.1);have hsb:=HFB.out.size;have HK:=Hi (hkp.step (K':=fun k=>wb.heap.size≤k∧k<w.heap.size) D5.2 (fun k hk e=>by have:=HZ.out;have:=HS0.out;omega) (fun k hk=>by have:=HS0.out;exact .inl (by omega)));have HF:=Hi (G.trans' D5.2 (fun i hi e=>by have:=HZ.out;omega));clear hkp B D B5 D5 G hw1;go_wp2_with fail
  exact bodyPost_ret (v:=.agg #[.bool b,.slice ap p.length cp]) (by simp[results,Tryz.results26,go_sem,n0,n1]) rfl ⟨⟨ap,cp,rfl,HK.out⟩,HF.out⟩
theorem lawNumOf_any (b:Bool)(vp:Value)(p:List UInt8)(wb w:World)(h:Bytes wb vp p)(Fb:Fz wb w) :
  Calls Tryz.prog 35 #[.agg #[.bool b,vp]] w fun e w'=>(∃ a c,e=.returned (.agg #[.bool b,.slice a p.length c])∧Kept (fun W=>Bytes W (.slice a p.length c) p) (fun k=>wb.heap.size≤k∧k<w.heap.size) w')∧Fz w w':=by
 obtain⟨ap,cp,rfl,-⟩:=Vals.form h
 have HP:=Hi h;obtain⟨z,hz⟩:∃ z,z=w.heap.size:=⟨_,rfl⟩
 have HZ:=Hi hz;have F0:Fz w ((w.alloc (.cells #[.bool b,.slice ap p.length cp] 40)).alloc (.cells #[.bool false,.slice none 0 0] 54)):=((Fr.refl w).alloc _).alloc _;have B:=(Blk.new w 40 #[.bool b,.slice ap p.length cp]).alloc (.cells #[.bool false,.slice none 0 0] 54);have D:=Blk.new (w.alloc (.cells #[.bool b,.slice ap p.length cp] 40)) 54 #[.bool false,.slice none 0 0];rw[World.size_alloc,←hz]at D
 rw[←hz]at B
 have HF0:=Hi F0;have hs0:w.heap.size+2=((w.alloc (.cells #[.bool b,.slice ap p.length cp] 40)).alloc (.cells #[.bool false,.slice none 0 0] 54)).heap.size:=by rw[World.size_alloc,World.size_alloc]
 have HFB:=Hi Fb;clear hz F0 Fb h;go_enter Tryz.func35,Tryz.ntmps35
 go_upto_region 1 with fail
 rw[←HZ.out]
 have HS0:=Hi hs0;clear hs0;generalize ((w.alloc (.cells #[.bool b,.slice ap p.length cp] 40)).alloc (.cells #[.bool false,.slice none 0 0] 54))=w0 at *
 have G:Fz w w0:=HF0.out;have e0:=B.cell 0;have e1:=B.cell 1;have d0:=D.cell 0;have d1:=D.cell 1;have f0:=D.frozen 0;have f1:=D.frozen 1;have D5:=set2 D (.bool b) (.slice ap p.length cp);have B5:=B.fr D5.2 (by omega);simp only[SG]at d0 d1 e0 e1
 all_goals
  have n0:=D5.1.cell 0;have n1:=D5.1.cell 1;simp only[SG]at n0 n1
  have hw1:=(HFB.out.trans G).mono (T:=fun k=>wb.heap.size≤k) (fun _ _ h=>h.elim);have hkp:=vals_keeps HP.out hw1 (fun k=>wb.heap.size≤k∧k<w0.heap.size) (fun k hk=>hk.1);have hsb:=HFB.out.size;have HK:=Hi (hkp.step (K':=fun k=>wb.heap.size≤k∧k<w.heap.size) D5.2 (fun k hk e=>by have:=HZ.out;have:=HS0.out;omega) (fun k hk=>by have:=HS0.out;exact .inl (by omega)));have HF:=Hi (G.trans' D5.2 (fun i hi e=>by have:=HZ.out;omega));clear hkp B D B5 D5 G hw1;go_wp2_with fail
  exact bodyPost_ret (v:=.agg #[.bool b,.slice ap p.length cp]) (by simp[results,Tryz.results35,go_sem,n0,n1]) rfl ⟨⟨ap,cp,rfl,HK.out⟩,HF.out⟩
theorem short_any (v:Value)(n:List (List Part))(wb w:World)(h:NameAt wb v n)(Fb:Fz wb w) :
  Calls Tryz.prog 33 #[v] w fun e w'=>(∃ a c,e=.returned (.slice a (cutName (n.take 4)).length c)∧FRow (fun k=>wb.heap.size≤k∧k<w.heap.size) 100 w' w.heap.size (.slice a (cutName (n.take 4)).length c) (cutName (n.take 4)))∧Fz w w':=by
 obtain⟨a,c,rfl,hc,hm⟩:=NameAt.form h
 unfold maxLen at hm;obtain⟨m,hmm⟩:∃ m:Nat,m=min n.length 4:=⟨_,rfl⟩
 have c1:min (n.length:Int) 4=(m:Int):=by omega
 have c2:(m:Int)≤(c:Int):=by omega
 have c3:(0:Int)≤(m:Int):=by omega
 have H:=Hi (lawToK_any _ (n.take 4) wb w (NameAt.cut h 4 m hmm) Fb);obtain⟨q,hq⟩:∃ q,q=cutName (n.take 4):=⟨_,rfl⟩
 rw[←hq]at H ⊢
 clear h Fb hmm hq;go_enter Tryz.func33,Tryz.ntmps33
 go_wp2_with fail
 refine H.out.mono ?_;rintro e w1 ⟨⟨a1,k1,rfl,hr⟩,F1⟩;have HR:=Hi hr;clear hr;go_wp2_with fail
 go_ret;exact⟨⟨a1,k1,rfl,HR.out⟩,F1⟩
theorem num_any (b:Bool)(v:Value)(s:List UInt8)(wb w:World)(h:Bytes wb v s)(Fb:Fz wb w) :
  Calls Tryz.prog 34 #[.agg #[.bool b,v]] w fun e w'=>(∃ a c,e=.returned (.agg #[.bool b,.slice a (s.take 100).length c])∧Kept (fun W=>Bytes W (.slice a (s.take 100).length c) (s.take 100)) (fun k=>wb.heap.size≤k∧k<w.heap.size) w')∧Fz w w':=by
 obtain⟨a,c,rfl,hc,hm,-⟩:=Vals.form h
 unfold maxLen at hm;obtain⟨m,hmm⟩:∃ m:Nat,m=min s.length 100:=⟨_,rfl⟩
 have c1:min (s.length:Int) 100=(m:Int):=by omega
 have c2:(m:Int)≤(c:Int):=by omega
 have c3:(0:Int)≤(m:Int):=by omega
 obtain⟨z,hz⟩:∃ z,z=w.heap.size:=⟨_,rfl⟩
 have HZ:=Hi hz;have F0:Fz w ((w.alloc (.cells #[.bool b,.slice a s.length c] 54)).alloc (.cells #[.bool false,.slice none 0 0] 40)):=((Fr.refl w).alloc _).alloc _;have B:=(Blk.new w 54 #[.bool b,.slice a s.length c]).alloc (.cells #[.bool false,.slice none 0 0] 40);have D:=Blk.new (w.alloc (.cells #[.bool b,.slice a s.length c] 54)) 40 #[.bool false,.slice none 0 0];rw[World.size_alloc,←hz]at D
 rw[←hz]at B
 have hs0:w.heap.size+2=((w.alloc (.cells #[.bool b,.slice a s.length c] 54)).alloc (.cells #[.bool false,.slice none 0 0] 40)).heap.size:=by rw[World.size_alloc,World.size_alloc]
 have HS0:=Hi hs0;have HF0:=Hi F0;have HFB:=Hi Fb;have HSC:=Hi (Vals.cut h 100 m hmm);obtain⟨q,hq⟩:∃ q,q=s.take 100:=⟨_,rfl⟩
 rw[←hq]at HSC ⊢
 clear hz F0 Fb h hmm hs0 hq hc;go_enter Tryz.func34,Tryz.ntmps34
 go_upto_region 1 with fail
 rw[←HZ.out]
 generalize ((w.alloc (.cells #[.bool b,.slice a s.length c] 54)).alloc (.cells #[.bool false,.slice none 0 0] 40))=w0 at *
 have e1:=B.cell 1;have f1:=B.frozen 1;simp only[SG]at e1
 go_upto_region 2 with fail
 have B1:Blk (w0.setCell ⟨z,1,none⟩ (.slice a m c)) z 54 #[.bool b,.slice a m c]:=B.set 1 (.slice a m c);have D1:=D.set_other (a:=⟨z,1,none⟩) (show z+1≠z by omega) (.slice a m c);have F1:Fr (fun k=>k=z) w0 (w0.setCell ⟨z,1,none⟩ (.slice a m c)):=(Fr.refl w0).setCell (S:=fun k=>k=z) (p:=⟨z,1,none⟩) (fun _=>rfl) _;have F1w:Fz w (w0.setCell ⟨z,1,none⟩ (.slice a m c)):=HF0.out.trans' F1 (fun i hi e=>by have:=HZ.out;omega);have hs1:(w0.setCell ⟨z,1,none⟩ (.slice a m c)).heap.size=w0.heap.size:=by simp[World.setCell]
 generalize w0.setCell ⟨z,1,none⟩ (.slice a m c)=w1 at *
 have HO:=Hi (lawNumTo_any b _ q wb w1 HSC.out (HFB.out.trans F1w));have HF1:=Hi F1w;have g0:=B1.cell 0;have g1:=B1.cell 1;simp only[SG]at g0 g1
 have HD1:=Hi D1;have HS1:=Hi hs1;clear e1 f1 F1 F1w D1 B D hs1 B1
 go_wp2_with (go_at_call 26;refine HO.out.mono ?_;rintro e w2 ⟨⟨a2,k2,rfl,hk⟩,F2⟩;have D2:=HD1.out.fr F2 (fun h=>h);have d0:=D2.cell 0;have d1:=D2.cell 1;have t0:=D2.frozen 0;have t1:=D2.frozen 1;have D5:=set2 D2 (.bool b) (.slice a2 q.length k2);have n0:=D5.1.cell 0;have n1:=D5.1.cell 1;simp only[SG]at d0 d1 n0 n1;have hsb:=HFB.out.size;have HK:=Hi (hk.step (K':=fun k=>wb.heap.size≤k∧k<w.heap.size) D5.2 (fun k hk e=>by have:=HZ.out;have:=HS0.out;have:=HS1.out;omega) (fun k hk=>by have:=HS0.out;have:=HS1.out;exact .inl (by omega)));have HF:=Hi ((HF1.out.trans F2).trans' D5.2 (fun i hi e=>by have:=HZ.out;omega));clear hk F2 D2 D5 g0 g1)
 exact bodyPost_ret (v:=.agg #[.bool b,.slice a2 q.length k2]) (by simp[results,Tryz.results34,go_sem,n0,n1]) rfl ⟨⟨a2,k2,rfl,HK.out⟩,HF.out⟩
end Go.Proofs.YtehlipgmkinfbaaGreatDoor
