/-
  Merged by program: XCe18 XCeTo XCeT2 XScPl.
-/
import Derived.Test.YteidmhkobmddiaaGreatDoorQ0p
set_option linter.unusedSimpArgs false
set_option maxRecDepth 100000
set_option maxHeartbeats 8000000
namespace Go.Q
open Go Go.RowKit
def AlgIn (W:World)(vo vp:Value)(o:List Int)(p:List UInt8):Prop:=Ints W vo o∧Bytes W vp p
def PubIn (W:World)(vo vp vk:Value)(o:List Int)(p k:List UInt8):Prop:=Ints W vo o∧Bytes W vp p∧Bytes W vk k
end Go.Q
namespace Go.Proofs.YteidmhkobmddiaaGreatDoor
open Go Go.RowKit Go.Q
theorem lawToAlg_any (vo vp:Value)(o:List Int)(p:List UInt8)(wb w:World)(h:AlgIn wb vo vp o p)(Fb:Fz wb w) :
  Calls Tryz.prog 111 #[.agg #[vo,vp]] w fun e w'=>(∃ ao co ap cp,e=.returned (.agg #[.slice ao (o.take 40).length co,.slice ap (p.take 200).length cp])∧Kept (fun W=>AlgIn W (.slice ao (o.take 40).length co) (.slice ap (p.take 200).length cp) (o.take 40) (p.take 200)) (fun k=>wb.heap.size≤k∧k<w.heap.size) w')∧Fz w w':=by
 obtain⟨ho,hp⟩:=h
 obtain⟨ao,co,rfl,hc1,hm1,-⟩:=Ints.form ho
 obtain⟨ap,cp,rfl,hc2,hm2,-⟩:=Vals.form hp
 unfold maxLen at hm1 hm2;obtain⟨mo,hmo⟩:∃ m:Nat,m=min o.length 40:=⟨_,rfl⟩
 obtain⟨mp,hmp⟩:∃ m:Nat,m=min p.length 200:=⟨_,rfl⟩
 have HOC:=Hi (Ints.cut ho 40 mo hmo);have HPC:=Hi (Vals.cut hp 200 mp hmp);have HOL:=Hi (show (o.take 40).length=mo by rw[List.length_take,hmo,Nat.min_comm]);have HPL:=Hi (show (p.take 200).length=mp by rw[List.length_take,hmp,Nat.min_comm]);have c1:min (o.length:Int) 40=(mo:Int):=by omega
 have c2:min (p.length:Int) 200=(mp:Int):=by omega
 have c3:(mo:Int)≤(co:Int):=by omega
 have c4:(mp:Int)≤(cp:Int):=by omega
 have c5:(0:Int)≤(mo:Int):=by omega
 have c6:(0:Int)≤(mp:Int):=by omega
 clear hmo hmp;obtain⟨z,hz⟩:∃ z,z=w.heap.size:=⟨_,rfl⟩
 have HZ:=Hi hz;have F0:Fz w ((w.alloc (.cells #[.slice ao o.length co,.slice ap p.length cp] 77)).alloc (.cells #[.slice none 0 0,.slice none 0 0] 87)):=((Fr.refl w).alloc _).alloc _;have B:=(Blk.new w 77 #[.slice ao o.length co,.slice ap p.length cp]).alloc (.cells #[.slice none 0 0,.slice none 0 0] 87);have D:=Blk.new (w.alloc (.cells #[.slice ao o.length co,.slice ap p.length cp] 77)) 87 #[.slice none 0 0,.slice none 0 0];rw[World.size_alloc,←hz]at D
 rw[←hz]at B
 have HF0:=Hi F0;have hs0:w.heap.size+2=((w.alloc (.cells #[.slice ao o.length co,.slice ap p.length cp] 77)).alloc (.cells #[.slice none 0 0,.slice none 0 0] 87)).heap.size:=by rw[World.size_alloc,World.size_alloc]
 have HFB:=Hi Fb;clear hz F0 Fb ho hp hc1 hc2;go_enter Tryz.func111,Tryz.ntmps111
 go_upto_region 1 with fail
 rw[←HZ.out]
 have HS0:=Hi hs0;clear hs0;generalize ((w.alloc (.cells #[.slice ao o.length co,.slice ap p.length cp] 77)).alloc (.cells #[.slice none 0 0,.slice none 0 0] 87))=w0 at *
 have G:Fz w w0:=HF0.out;have d0:=D.cell 0;have d1:=D.cell 1;have e0:=B.cell 0;have e1:=B.cell 1;have f0:=D.frozen 0;have f1:=D.frozen 1;have D5:=set2 D (.slice ao mo co) (.slice ap mp cp);have B5:=B.fr D5.2 (by omega);simp only[SG]at d0 d1 e0 e1
 clear e0 e1;go_region_held3 (fun w'=>∀ j,w'.cell? ⟨z,j,none⟩=(#[.slice ao o.length co,.slice ap p.length cp]:Array Value)[j]?) (first|exact B.cell|exact B5.cell) (first|fail)
 all_goals
  have n0:=D5.1.cell 0;have n1:=D5.1.cell 1;simp only[SG]at n0 n1
  have hw1:=(HFB.out.trans G).mono (T:=fun k=>wb.heap.size≤k) (fun _ _ h=>h.elim);have hko:=vals_keeps HOC.out hw1 (fun k=>wb.heap.size≤k∧k<w0.heap.size) (fun k hk=>hk.1);have hkp:=vals_keeps HPC.out hw1 (fun k=>wb.heap.size≤k∧k<w0.heap.size) (fun k hk=>hk.1);have hsb:=HFB.out.size;have HK:=Hi ((Kept.both hko hkp).step (K':=fun k=>wb.heap.size≤k∧k<w.heap.size) D5.2 (fun k hk e=>by have:=HZ.out;have:=HS0.out;omega) (fun k hk=>by have:=HS0.out;exact .inl (by omega)));have HF:=Hi (G.trans' D5.2 (fun i hi e=>by have:=HZ.out;omega));clear hko hkp B D B5 D5 G hw1;go_wp2_with fail
  refine bodyPost_ret (v:=.agg #[.slice ao mo co,.slice ap mp cp]) (by simp[results,Tryz.results111,go_sem,n0,n1]) rfl ⟨⟨ao,co,ap,cp,?_,?_⟩,HF.out.drew⟩
  ·rw[HOL.out,HPL.out]
  ·rw[HOL.out,HPL.out]
   exact HK.out.old (Fr.refl _).drew
theorem lawPubTo_any (vo vp vk:Value)(o:List Int)(p k:List UInt8)(wb w:World)(h:PubIn wb vo vp vk o p k)(Fb:Fz wb w) :
  Calls Tryz.prog 56 #[.agg #[vo,vp,vk]] w fun e w'=>(∃ a1 c1 a2 c2 a3 c3,e=.returned (.agg #[.slice a1 (o.take 40).length c1,.slice a2 (p.take 200).length c2,.slice a3 (k.take 100).length c3])∧Kept (fun W=>PubIn W (.slice a1 (o.take 40).length c1) (.slice a2 (p.take 200).length c2) (.slice a3 (k.take 100).length c3) (o.take 40) (p.take 200) (k.take 100)) (fun q=>wb.heap.size≤q∧q<w.heap.size) w')∧Fz w w':=by
 obtain⟨ho,hp,hk⟩:=h
 obtain⟨ao,co,rfl,-⟩:=Ints.form ho
 obtain⟨ap,cp,rfl,-⟩:=Vals.form hp
 obtain⟨ak,ck,rfl,hc1,hm1,-⟩:=Vals.form hk
 unfold maxLen at hm1;obtain⟨mk,hmk⟩:∃ m:Nat,m=min k.length 100:=⟨_,rfl⟩
 have HKC:=Hi (Vals.cut hk 100 mk hmk);have HKL:=Hi (show (k.take 100).length=mk by rw[List.length_take,hmk,Nat.min_comm]);have c1:min (k.length:Int) 100=(mk:Int):=by omega
 have c2:(mk:Int)≤(ck:Int):=by omega
 have c3:(0:Int)≤(mk:Int):=by omega
 clear hmk;obtain⟨z,hz⟩:∃ z,z=w.heap.size:=⟨_,rfl⟩
 have HZ:=Hi hz;have F0:Fz w ((w.alloc (.cells #[.slice ao o.length co,.slice ap p.length cp,.slice ak k.length ck] 79)).alloc (.cells #[.slice none 0 0,.slice none 0 0,.slice none 0 0] 89)):=((Fr.refl w).alloc _).alloc _;have B:=(Blk.new w 79 #[.slice ao o.length co,.slice ap p.length cp,.slice ak k.length ck]).alloc (.cells #[.slice none 0 0,.slice none 0 0,.slice none 0 0] 89);have D:=Blk.new (w.alloc (.cells #[.slice ao o.length co,.slice ap p.length cp,.slice ak k.length ck] 79)) 89 #[.slice none 0 0,.slice none 0 0,.slice none 0 0];rw[World.size_alloc,←hz]at D
 rw[←hz]at B
 have HF0:=Hi F0;have hs0:w.heap.size+2=((w.alloc (.cells #[.slice ao o.length co,.slice ap p.length cp,.slice ak k.length ck] 79)).alloc (.cells #[.slice none 0 0,.slice none 0 0,.slice none 0 0] 89)).heap.size:=by rw[World.size_alloc,World.size_alloc]
 have HFB:=Hi Fb;have HO:=Hi (fun W (F:Fz wb W)=>lawToAlg_any _ _ o p wb W ⟨ho,hp⟩ F);obtain⟨o1,ho1⟩:∃ x,x=o.take 40:=⟨_,rfl⟩
 obtain⟨p1,hp1⟩:∃ x,x=p.take 200:=⟨_,rfl⟩
 rw[←ho1,←hp1]at HO ⊢
 clear ho1 hp1;clear hz F0 Fb ho hp hk hc1;go_enter Tryz.func56,Tryz.ntmps56
 go_upto_region 1 with fail
 rw[←HZ.out]
 have HS0:=Hi hs0;clear hs0;generalize ((w.alloc (.cells #[.slice ao o.length co,.slice ap p.length cp,.slice ak k.length ck] 79)).alloc (.cells #[.slice none 0 0,.slice none 0 0,.slice none 0 0] 89))=w0 at *
 replace B:=B.drew;replace D:=D.drew;have G:Fz w w0.drew:=HF0.out.drew;have HSS:=Hi (show w0.drew.heap.size=w0.heap.size from rfl);go_region_held3 (fun w'=>∀ j,w'.cell? ⟨z,j,none⟩=(#[.slice ao o.length co,.slice ap p.length cp,.slice ak k.length ck]:Array Value)[j]?) (first|exact B.cell|exact B5.cell) (first
  |(go_at_call 111;refine(HO.out _ (HFB.out.trans G)).mono ?_;rintro e w' ⟨⟨a7,c7,a8,c8,rfl,hq⟩,F⟩;replace B:=B.fr F (fun h=>h);replace D:=D.fr F (fun h=>h);have hkq:=hq.weaken (K':=fun q=>wb.heap.size≤q∧q<w0.heap.size) (fun q hq=>by have h2:=HSS.out;omega);replace G:=G.trans F;clear F hq;have d0:=D.cell 0;have d1:=D.cell 1;have d2:=D.cell 2;have f0:=D.frozen 0;have f1:=D.frozen 1;have f2:=D.frozen 2;have D5:=set3 D (.slice a7 o1.length c7) (.slice a8 p1.length c8) (.slice ak mk ck);have B5:=B.fr D5.2 (by omega);simp only[SG]at d0 d1 d2))
 all_goals
  have n0:=D5.1.cell 0;have n1:=D5.1.cell 1;have n2:=D5.1.cell 2;simp only[SG]at n0 n1 n2
  have hw1:=(HFB.out.trans G).mono (T:=fun q=>wb.heap.size≤q) (fun _ _ h=>h.elim);have hkk:=vals_keeps HKC.out hw1 (fun q=>wb.heap.size≤q∧q<w0.heap.size) (fun q hq=>hq.1);have hsb:=HFB.out.size;have HK:=Hi (((Kept.both hkq hkk).imp (fun W h=>⟨h.1.1,h.1.2,h.2⟩):Kept (fun W=>PubIn W _ _ _ _ _ _) _ _).step (K':=fun q=>wb.heap.size≤q∧q<w.heap.size) D5.2 (fun q hq e=>by have:=HZ.out;have:=HS0.out;omega) (fun q hq=>by have:=HS0.out;exact .inl (by omega)));have HF:=Hi (G.trans' D5.2 (fun i hi e=>by have:=HZ.out;omega));clear hkq hkk B D B5 D5 G hw1;go_wp2_with fail
  refine bodyPost_ret (v:=.agg #[.slice a7 o1.length c7,.slice a8 p1.length c8,.slice ak mk ck]) (by simp[results,Tryz.results56,go_sem,n0,n1,n2]) rfl ⟨⟨a7,c7,a8,c8,ak,ck,?_,?_⟩,HF.out⟩
  ·rw[HKL.out]
  ·rw[HKL.out]
   exact HK.out
theorem lawNumTo_any (b:Bool)(vp:Value)(p:List UInt8)(wb w:World)(h:Bytes wb vp p)(Fb:Fz wb w) :
  Calls Tryz.prog 54 #[.agg #[.bool b,vp]] w fun e w'=>(∃ a c,e=.returned (.agg #[.bool b,.slice a p.length c])∧Kept (fun W=>Bytes W (.slice a p.length c) p) (fun k=>wb.heap.size≤k∧k<w.heap.size) w')∧Fz w w':=by
 obtain⟨ap,cp,rfl,-⟩:=Vals.form h
 have HP:=Hi h;obtain⟨z,hz⟩:∃ z,z=w.heap.size:=⟨_,rfl⟩
 have HZ:=Hi hz;have F0:Fz w ((w.alloc (.cells #[.bool b,.slice ap p.length cp] 34)).alloc (.cells #[.bool false,.slice none 0 0] 86)):=((Fr.refl w).alloc _).alloc _;have B:=(Blk.new w 34 #[.bool b,.slice ap p.length cp]).alloc (.cells #[.bool false,.slice none 0 0] 86);have D:=Blk.new (w.alloc (.cells #[.bool b,.slice ap p.length cp] 34)) 86 #[.bool false,.slice none 0 0];rw[World.size_alloc,←hz]at D
 rw[←hz]at B
 have HF0:=Hi F0;have hs0:w.heap.size+2=((w.alloc (.cells #[.bool b,.slice ap p.length cp] 34)).alloc (.cells #[.bool false,.slice none 0 0] 86)).heap.size:=by rw[World.size_alloc,World.size_alloc]
 have HFB:=Hi Fb;clear hz F0 Fb h;go_enter Tryz.func54,Tryz.ntmps54
 go_upto_region 1 with fail
 rw[←HZ.out]
 have HS0:=Hi hs0;clear hs0;generalize ((w.alloc (.cells #[.bool b,.slice ap p.length cp] 34)).alloc (.cells #[.bool false,.slice none 0 0] 86))=w0 at *
 have G:Fz w w0:=HF0.out;have e0:=B.cell 0;have e1:=B.cell 1;have d0:=D.cell 0;have d1:=D.cell 1;have f0:=D.frozen 0;have f1:=D.frozen 1;have D5:=set2 D (.bool b) (.slice ap p.length cp);have B5:=B.fr D5.2 (by omega);simp only[SG]at d0 d1 e0 e1
 all_goals
  have n0:=D5.1.cell 0;have n1:=D5.1.cell 1;simp only[SG]at n0 n1
  have hw1:=(HFB.out.trans G).mono (T:=fun k=>wb.heap.size≤k) (fun _ _ h=>h.elim);have hkp:=vals_keeps HP.out hw1 (fun k=>wb.heap.size≤k∧k<w0.heap.size) (fun k hk=>hk.1);have hsb:=HFB.out.size;have HK:=Hi (hkp.step (K':=fun k=>wb.heap.size≤k∧k<w.heap.size) D5.2 (fun k hk e=>by have:=HZ.out;have:=HS0.out;omega) (fun k hk=>by have:=HS0.out;exact .inl (by omega)));have HF:=Hi (G.trans' D5.2 (fun i hi e=>by have:=HZ.out;omega));clear hkp B D B5 D5 G hw1;go_wp2_with fail
  exact bodyPost_ret (v:=.agg #[.bool b,.slice ap p.length cp]) (by simp[results,Tryz.results54,go_sem,n0,n1]) rfl ⟨⟨ap,cp,rfl,HK.out⟩,HF.out⟩
theorem lawCertTo_any (u:Value)(x:CertT)(wb w:World)(h:CertAt wb u x)(Fb:Fz wb w) :
  Calls Tryz.prog 19 #[u] w fun e w'=>(∃ a1 c1 a2 c2 a3 c3 a4 c4 a5 c5 a6 c6 a7 c7,e=.returned (.agg #[.bool x.below,.slice a1 (x.size.take 100).length c1,.slice a2 (cutName (x.iss.take 5)).length c2,.slice a3 (cutName (x.sub.take 5)).length c3,.int .i64 x.t0,.int .i64 x.t1,.slice a4 (x.ao.take 40).length c4,.slice a5 (x.ap.take 200).length c5,.slice a6 (x.kn.take 100).length c6,.slice a7 (fewExts (x.ex.take 10)).length c7])∧Kept (fun W=>CertIn W (cutCert x) (.slice a1 (x.size.take 100).length c1) (.slice a2 (cutName (x.iss.take 5)).length c2) (.slice a3 (cutName (x.sub.take 5)).length c3) (.slice a4 (x.ao.take 40).length c4) (.slice a5 (x.ap.take 200).length c5) (.slice a6 (x.kn.take 100).length c6) (.slice a7 (fewExts (x.ex.take 10)).length c7)) (fun k=>wb.heap.size≤k∧k<w.heap.size) w')∧Fz w w':=by
 obtain⟨vs,vi,vj,va,vp,vk,ve,rfl,hs,hni,hnj,ho,hp,hk,hx⟩:=h
 obtain⟨asz,csz,rfl,hc1,hm1,-⟩:=Vals.form hs
 obtain⟨ai,ci,rfl,hc2,hm2⟩:=NameAt.form hni
 obtain⟨aj,cj,rfl,hc3,hm3⟩:=NameAt.form hnj
 obtain⟨ao,co,rfl,-⟩:=Ints.form ho
 obtain⟨ap,cp,rfl,-⟩:=Vals.form hp
 obtain⟨ak,ck,rfl,-⟩:=Vals.form hk
 have hx0:=hx;obtain⟨ae,ce,rfl,hc4,hm4,-⟩:=hx0
 unfold maxLen at hm1 hm2 hm3 hm4;obtain⟨ms,hms⟩:∃ m:Nat,m=min x.size.length 100:=⟨_,rfl⟩
 have cms:min (x.size.length:Int) 100=(ms:Int):=by omega
 have gms:(ms:Int)≤(csz:Int):=by omega
 have pms:(0:Int)≤(ms:Int):=by omega
 obtain⟨mi,hmi⟩:∃ m:Nat,m=min x.iss.length 5:=⟨_,rfl⟩
 have cmi:min (x.iss.length:Int) 5=(mi:Int):=by omega
 have gmi:(mi:Int)≤(ci:Int):=by omega
 have pmi:(0:Int)≤(mi:Int):=by omega
 obtain⟨mj,hmj⟩:∃ m:Nat,m=min x.sub.length 5:=⟨_,rfl⟩
 have cmj:min (x.sub.length:Int) 5=(mj:Int):=by omega
 have gmj:(mj:Int)≤(cj:Int):=by omega
 have pmj:(0:Int)≤(mj:Int):=by omega
 obtain⟨me,hme⟩:∃ m:Nat,m=min x.ex.length 10:=⟨_,rfl⟩
 have cme:min (x.ex.length:Int) 10=(me:Int):=by omega
 have gme:(me:Int)≤(ce:Int):=by omega
 have pme:(0:Int)≤(me:Int):=by omega
 obtain⟨z,hz⟩:∃ z,z=w.heap.size:=⟨_,rfl⟩
 have HZ:=Hi hz;have F0:Fz w ((w.alloc (.cells #[.bool x.below,.slice asz x.size.length csz,.slice ai x.iss.length ci,.slice aj x.sub.length cj,.int .i64 x.t0,.int .i64 x.t1,.slice ao x.ao.length co,.slice ap x.ap.length cp,.slice ak x.kn.length ck,.slice ae x.ex.length ce] 82)).alloc (.cells #[.bool false,.slice none 0 0,.slice none 0 0,.slice none 0 0,.int .i64 0,.int .i64 0,.slice none 0 0,.slice none 0 0,.slice none 0 0,.slice none 0 0] 92)):=((Fr.refl w).alloc _).alloc _
 have B:=(Blk.new w 82 #[.bool x.below,.slice asz x.size.length csz,.slice ai x.iss.length ci,.slice aj x.sub.length cj,.int .i64 x.t0,.int .i64 x.t1,.slice ao x.ao.length co,.slice ap x.ap.length cp,.slice ak x.kn.length ck,.slice ae x.ex.length ce]).alloc (.cells #[.bool false,.slice none 0 0,.slice none 0 0,.slice none 0 0,.int .i64 0,.int .i64 0,.slice none 0 0,.slice none 0 0,.slice none 0 0,.slice none 0 0] 92)
 have D:=Blk.new (w.alloc (.cells #[.bool x.below,.slice asz x.size.length csz,.slice ai x.iss.length ci,.slice aj x.sub.length cj,.int .i64 x.t0,.int .i64 x.t1,.slice ao x.ao.length co,.slice ap x.ap.length cp,.slice ak x.kn.length ck,.slice ae x.ex.length ce] 82)) 92 #[.bool false,.slice none 0 0,.slice none 0 0,.slice none 0 0,.int .i64 0,.int .i64 0,.slice none 0 0,.slice none 0 0,.slice none 0 0,.slice none 0 0];rw[World.size_alloc,←hz]at D
 rw[←hz]at B
 have hs0:w.heap.size+2=((w.alloc (.cells #[.bool x.below,.slice asz x.size.length csz,.slice ai x.iss.length ci,.slice aj x.sub.length cj,.int .i64 x.t0,.int .i64 x.t1,.slice ao x.ao.length co,.slice ap x.ap.length cp,.slice ak x.kn.length ck,.slice ae x.ex.length ce] 82)).alloc (.cells #[.bool false,.slice none 0 0,.slice none 0 0,.slice none 0 0,.int .i64 0,.int .i64 0,.slice none 0 0,.slice none 0 0,.slice none 0 0,.slice none 0 0] 92)).heap.size:=by rw[World.size_alloc,World.size_alloc]
 have HFB:=Hi Fb;have H1:=Hi (fun W (F:Fz wb W)=>lawNumTo_any x.below _ (x.size.take 100) wb W (Vals.cut hs 100 ms hms) F);have H2:=Hi (fun W (F:Fz wb W)=>lawToK_any _ (x.iss.take 5) wb W (NameAt.cut hni 5 mi hmi) F);have H3:=Hi (fun W (F:Fz wb W)=>lawToK_any _ (x.sub.take 5) wb W (NameAt.cut hnj 5 mj hmj) F);have H4:=Hi (fun W (F:Fz wb W)=>lawPubTo_any _ _ _ x.ao x.ap x.kn wb W ⟨ho,hp,hk⟩ F);have H5:=Hi (fun W (F:Fz wb W)=>lawExtFew_any _ (x.ex.take 10) wb W (Exts.cut hx 10 me hme) F);obtain⟨s1,hs1⟩:∃ y,y=x.size.take 100:=⟨_,rfl⟩
 obtain⟨u1,hn1⟩:∃ y,y=cutName (x.iss.take 5):=⟨_,rfl⟩
 obtain⟨u2,hn2⟩:∃ y,y=cutName (x.sub.take 5):=⟨_,rfl⟩
 obtain⟨o1,ho1⟩:∃ y,y=x.ao.take 40:=⟨_,rfl⟩
 obtain⟨p1,hp1⟩:∃ y,y=x.ap.take 200:=⟨_,rfl⟩
 obtain⟨k0,hk0⟩:∃ y,y=x.kn.take 100:=⟨_,rfl⟩
 obtain⟨x1,hx1⟩:∃ y,y=fewExts (x.ex.take 10):=⟨_,rfl⟩
 have HCC:cutCert x=⟨x.below,s1,u1,u2,x.t0,x.t1,o1,p1,k0,x1⟩:=by rw[hs1,hn1,hn2,ho1,hp1,hk0,hx1];rfl
 rw[HCC]
 rw[←hs1]at H1 ⊢
 rw[←hn1]at H2 ⊢
 rw[←hn2]at H3 ⊢
 rw[←ho1,←hp1,←hk0]at H4 ⊢
 rw[←hx1]at H5 ⊢
 clear HCC hs1 hn1 hn2 ho1 hp1 hk0 hx1;have HF00:=Hi F0;clear hz Fb hs hni hnj ho hp hk hx F0 hms hmi hmj hme hc1 hc2 hc3 hc4;go_enter Tryz.func19,Tryz.ntmps19
 go_upto_region 1 with fail
 rw[←HZ.out]
 generalize ((w.alloc (.cells #[.bool x.below,.slice asz x.size.length csz,.slice ai x.iss.length ci,.slice aj x.sub.length cj,.int .i64 x.t0,.int .i64 x.t1,.slice ao x.ao.length co,.slice ap x.ap.length cp,.slice ak x.kn.length ck,.slice ae x.ex.length ce] 82)).alloc (.cells #[.bool false,.slice none 0 0,.slice none 0 0,.slice none 0 0,.int .i64 0,.int .i64 0,.slice none 0 0,.slice none 0 0,.slice none 0 0,.slice none 0 0] 92))=w0 at *
 have e0:=B.cell 0;have e1:=B.cell 1;have oo0:=alloc_old w0 (.cells #[.bool false,.slice none 0 0] 34) z 0 B.lt;have oo1:=alloc_old w0 (.cells #[.bool false,.slice none 0 0] 34) z 1 B.lt;simp only[SG]at e0 e1
 have hz0:w0.heap.size=z+2:=by rw[←hs0,←HZ.out]
 go_upto_region 3 with fail
 have N:=Blk.new w0 34 #[.bool x.below,.slice asz ms csz];rw[hz0]at N
 replace B:=B.alloc (.cells #[.bool x.below,.slice asz ms csz] 34);replace D:=D.alloc (.cells #[.bool x.below,.slice asz ms csz] 34);have HF0:=Hi (HF00.out.alloc (.cells #[.bool x.below,.slice asz ms csz] 34)).drew;have HS0:=Hi (show w.heap.size+3=(w0.alloc (.cells #[.bool x.below,.slice asz ms csz] 34)).drew.heap.size from by
  have:(w0.alloc (.cells #[.bool x.below,.slice asz ms csz] 34)).drew.heap.size=w0.heap.size+1:=World.size_alloc _ _;omega)
 clear oo0 oo1 e0 e1 hs0 hz0 HF00;generalize w0.alloc (.cells #[.bool x.below,.slice asz ms csz] 34)=w1 at *
 replace B:=B.drew;replace D:=D.drew;replace N:=N.drew;have G:Fz w1.drew w1.drew:=Fr.refl _;refine wp_region_noPanic ?_;refine wp_region_held_drew (S:=(fun w'=>(∀ j,w'.cell? ⟨z,j,none⟩=(#[.bool x.below,.slice asz x.size.length csz,.slice ai x.iss.length ci,.slice aj x.sub.length cj,.int .i64 x.t0,.int .i64 x.t1,.slice ao x.ao.length co,.slice ap x.ap.length cp,.slice ak x.kn.length ck,.slice ae x.ex.length ce]:Array Value)[j]?)∧∀ j,w'.cell? ⟨z+2,j,none⟩=(#[.bool x.below,.slice asz ms csz]:Array Value)[j]?)) (by kernel_rfl) ?_ (fun hHeld=>?_)
 ·exact⟨B.cell,N.cell⟩
 refine wpAnyH_take (i:=0) (oi:=_) (v:=?_) rfl (by kernel_rfl) (by kernel_rfl) (by kernel_rfl) (fun _ _ _ h=>h) (Or.inl ⟨by rfl,?_⟩) (by assumption) ?_;rotate_left
 ·(intro W hSw;(try dsimp only at hSw);go_simp;try with_reducible rfl)
 (try simp only[Act.put,SS]);refine wpAnyH_take (i:=2) (oi:=_) (v:=?_) rfl (by kernel_rfl) (by kernel_rfl) (by kernel_rfl) (fun _ _ _ h=>h) (Or.inl ⟨by rfl,?_⟩) (by assumption) ?_;rotate_left
 ·(intro W hSw;(try dsimp only at hSw);go_simp;try with_reducible rfl)
 (try simp only[Act.put,SS]);refine wpAnyH_take (i:=3) (oi:=_) (v:=?_) rfl (by kernel_rfl) (by kernel_rfl) (by kernel_rfl) (fun _ _ _ h=>h) (Or.inl ⟨by rfl,?_⟩) (by assumption) ?_;rotate_left
 ·(intro W hSw;(try dsimp only at hSw);go_simp;try with_reducible rfl)
 (try simp only[Act.put,SS]);refine wpAnyH_take (i:=4) (oi:=_) (v:=?_) rfl (by kernel_rfl) (by kernel_rfl) (by kernel_rfl) (fun _ _ _ h=>h) (Or.inl ⟨by rfl,?_⟩) (by assumption) ?_;rotate_left
 ·(intro W hSw;(try dsimp only at hSw);go_simp;try with_reducible rfl)
 (try simp only[Act.put,SS]);refine wpAnyH_take (i:=5) (oi:=_) (v:=?_) rfl (by kernel_rfl) (by kernel_rfl) (by kernel_rfl) (fun _ _ _ h=>h) (Or.inl ⟨by rfl,?_⟩) (by assumption) ?_;rotate_left
 ·(intro W hSw;(try dsimp only at hSw);go_simp;try with_reducible rfl)
 (try simp only[Act.put,SS]);refine wpAnyH_take (i:=6) (oi:=_) (v:=?_) rfl (by kernel_rfl) (by kernel_rfl) (by kernel_rfl) (fun _ _ _ h=>h) (Or.inl ⟨by rfl,?_⟩) (by assumption) ?_;rotate_left
 ·(intro W hSw;(try dsimp only at hSw);go_simp;try with_reducible rfl)
 (try simp only[Act.put,SS]);refine wpAnyH_take (i:=7) (oi:=_) (v:=?_) rfl (by kernel_rfl) (by kernel_rfl) (by kernel_rfl) (fun _ _ _ h=>h) (Or.inl ⟨by rfl,?_⟩) (by assumption) ?_;rotate_left
 ·(intro W hSw;(try dsimp only at hSw);go_simp;try with_reducible rfl)
 (try simp only[Act.put,SS]);refine wpAnyH_take (i:=8) (oi:=_) (v:=?_) rfl (by kernel_rfl) (by kernel_rfl) (by kernel_rfl) (fun _ _ _ h=>h) (Or.inl ⟨by rfl,?_⟩) (by assumption) ?_;rotate_left
 ·(intro W hSw;(try dsimp only at hSw);go_simp;try with_reducible rfl)
 (try simp only[Act.put,SS]);refine wpAnyH_take (i:=10) (oi:=_) (v:=?_) rfl (by kernel_rfl) (by kernel_rfl) (by kernel_rfl) (fun _ _ _ h=>h) (Or.inl ⟨by rfl,?_⟩) (by assumption) ?_;rotate_left
 ·(intro W hSw;(try dsimp only at hSw);go_simp;try with_reducible rfl)
 (try simp only[Act.put,SS]);refine wpAnyH_take (i:=11) (oi:=_) (v:=?_) rfl (by kernel_rfl) (by kernel_rfl) (by kernel_rfl) (fun _ _ _ h=>h) (Or.inl ⟨by rfl,?_⟩) (by assumption) ?_;rotate_left
 ·(intro W hSw;(try dsimp only at hSw);go_simp;try with_reducible rfl)
 (try simp only[Act.put,SS]);refine wpAnyH_take (i:=12) (oi:=_) (v:=?_) rfl (by kernel_rfl) (by kernel_rfl) (by kernel_rfl) (fun _ _ _ h=>h) (Or.inl ⟨by rfl,?_⟩) (by assumption) ?_;rotate_left
 ·(intro W hSw;(try dsimp only at hSw);go_simp;try with_reducible rfl)
 (try simp only[Act.put,SS]);refine wpAnyH_take (i:=13) (oi:=_) (v:=?_) rfl (by kernel_rfl) (by kernel_rfl) (by kernel_rfl) (fun _ _ _ h=>h) (Or.inl ⟨by rfl,?_⟩) (by assumption) ?_;rotate_left
 ·(intro W hSw;(try dsimp only at hSw);go_simp;try with_reducible rfl)
 (try simp only[Act.put,SS]);refine wpAnyH_take (i:=14) (oi:=_) (v:=?_) rfl (by kernel_rfl) (by kernel_rfl) (by kernel_rfl) (fun _ _ _ h=>h) (Or.inl ⟨by rfl,?_⟩) (by assumption) ?_;rotate_left
 ·(intro W hSw;(try dsimp only at hSw);go_simp;try with_reducible rfl)
 (try simp only[Act.put,SS]);refine wpAnyH_take (i:=15) (oi:=_) (v:=?_) rfl (by kernel_rfl) (by kernel_rfl) (by kernel_rfl) (fun _ _ _ h=>h) (Or.inl ⟨by rfl,?_⟩) (by assumption) ?_;rotate_left
 ·(intro W hSw;(try dsimp only at hSw);go_simp;try with_reducible rfl)
 (try simp only[Act.put,SS]);refine wpAnyH_take (i:=16) (oi:=_) (v:=?_) rfl (by kernel_rfl) (by kernel_rfl) (by kernel_rfl) (fun _ _ _ h=>h) (Or.inl ⟨by rfl,?_⟩) (by assumption) ?_;rotate_left
 ·(intro W hSw;(try dsimp only at hSw);go_simp;try with_reducible rfl)
 (try simp only[Act.put,SS]);refine wpAnyH_take (i:=18) (oi:=_) (v:=?_) rfl (by kernel_rfl) (by kernel_rfl) (by kernel_rfl) (fun _ _ _ h=>h) (Or.inl ⟨by rfl,?_⟩) (by assumption) ?_;rotate_left
 ·(intro W hSw;(try dsimp only at hSw);go_simp;try with_reducible rfl)
 (try simp only[Act.put,SS]);refine wpAnyH_take (i:=19) (oi:=_) (v:=?_) rfl (by kernel_rfl) (by kernel_rfl) (by kernel_rfl) (fun _ _ _ h=>h) (Or.inl ⟨by rfl,?_⟩) (by assumption) ?_;rotate_left
 ·(intro W hSw;(try dsimp only at hSw);go_simp;try with_reducible rfl)
 (try simp only[Act.put,SS]);refine wpAnyH_take (i:=20) (oi:=_) (v:=?_) rfl (by kernel_rfl) (by kernel_rfl) (by kernel_rfl) (fun _ _ _ h=>h) (Or.inl ⟨by rfl,?_⟩) (by assumption) ?_;rotate_left
 ·(intro W hSw;(try dsimp only at hSw);go_simp;try with_reducible rfl)
 (try simp only[Act.put,SS]);refine wpAnyH_take (i:=21) (oi:=_) (v:=?_) rfl (by kernel_rfl) (by kernel_rfl) (by kernel_rfl) (fun _ _ _ h=>h) (Or.inl ⟨by rfl,?_⟩) (by assumption) ?_;rotate_left
 ·(intro W hSw;(try dsimp only at hSw);go_simp;try with_reducible rfl)
 (try simp only[Act.put,SS]);refine wpAnyH_take (i:=22) (oi:=_) (v:=?_) rfl (by kernel_rfl) (by kernel_rfl) (by kernel_rfl) (fun _ _ _ h=>h) (Or.inl ⟨by rfl,?_⟩) (by assumption) ?_;rotate_left
 ·(intro W hSw;(try dsimp only at hSw);go_simp;try with_reducible rfl)
 (try simp only[Act.put,SS]);refine wpAnyH_take (i:=23) (oi:=_) (v:=?_) rfl (by kernel_rfl) (by kernel_rfl) (by kernel_rfl) (fun _ _ _ h=>h) (Or.inl ⟨by rfl,?_⟩) (by assumption) ?_;rotate_left
 ·(intro W hSw;(try dsimp only at hSw);go_simp;try with_reducible rfl)
 (try simp only[Act.put,SS]);refine wpAnyH_take (i:=25) (oi:=_) (v:=?_) rfl (by kernel_rfl) (by kernel_rfl) (by kernel_rfl) (fun _ _ _ h=>h) (Or.inl ⟨by rfl,?_⟩) (by assumption) ?_;rotate_left
 ·(intro W hSw;(try dsimp only at hSw);go_simp;try with_reducible rfl)
 (try simp only[Act.put,SS]);refine wpAnyH_take (i:=26) (oi:=_) (v:=?_) rfl (by kernel_rfl) (by kernel_rfl) (by kernel_rfl) (fun _ _ _ h=>h) (Or.inl ⟨by rfl,?_⟩) (by assumption) ?_;rotate_left
 ·(intro W hSw;(try dsimp only at hSw);go_simp;try with_reducible rfl)
 (try simp only[Act.put,SS]);refine wpAnyH_take (i:=27) (oi:=_) (v:=?_) rfl (by kernel_rfl) (by kernel_rfl) (by kernel_rfl) (fun _ _ _ h=>h) (Or.inl ⟨by rfl,?_⟩) (by assumption) ?_;rotate_left
 ·(intro W hSw;(try dsimp only at hSw);go_simp;try with_reducible rfl)
 (try simp only[Act.put,SS]);refine wpAnyH_take (i:=28) (oi:=_) (v:=?_) rfl (by kernel_rfl) (by kernel_rfl) (by kernel_rfl) (fun _ _ _ h=>h) (Or.inl ⟨by rfl,?_⟩) (by assumption) ?_;rotate_left
 ·(intro W hSw;(try dsimp only at hSw);go_simp;try with_reducible rfl)
 (try simp only[Act.put,SS]);refine wpAnyH_take (i:=29) (oi:=_) (v:=?_) rfl (by kernel_rfl) (by kernel_rfl) (by kernel_rfl) (fun _ _ _ h=>h) (Or.inl ⟨by rfl,?_⟩) (by assumption) ?_;rotate_left
 ·(intro W hSw;(try dsimp only at hSw);go_simp;try with_reducible rfl)
 (try simp only[Act.put,SS]);refine wpAnyH_take (i:=30) (oi:=_) (v:=?_) rfl (by kernel_rfl) (by kernel_rfl) (by kernel_rfl) (fun _ _ _ h=>h) (Or.inl ⟨by rfl,?_⟩) (by assumption) ?_;rotate_left
 ·(intro W hSw;(try dsimp only at hSw);go_simp;try with_reducible rfl)
 (try simp only[Act.put,SS]);refine wpAnyH_take (i:=31) (oi:=_) (v:=?_) rfl (by kernel_rfl) (by kernel_rfl) (by kernel_rfl) (fun _ _ _ h=>h) (Or.inl ⟨by rfl,?_⟩) (by assumption) ?_;rotate_left
 ·(intro W hSw;(try dsimp only at hSw);go_simp;try with_reducible rfl)
 (try simp only[Act.put,SS]);refine wpAnyH_ready (rs:=[1]) (by kernel_rfl) (by simp) ?_;refine AllReadyH.cons (o:=_) rfl (fun KK hKK=>?_) AllReadyH.nil;go_simp
 (go_at_call 54;with_reducible refine(H1.out _ (HFB.out.trans (HF0.out.trans G))).mono ?_;rintro e w' ⟨⟨a1,c1,rfl,hq⟩,F⟩;have hsz:=G.size;have k1:=hq.weaken (K':=(fun k=>wb.heap.size≤k∧k<w.heap.size+3)) (fun k hk=>⟨hk.1,by have:=HS0.out;omega⟩);(try replace k2:=k2.old F);(try replace k3:=k3.old F);(try replace k4:=k4.old F);(try replace k5:=k5.old F);replace B:=B.fr F (fun h=>h);replace N:=N.fr F (fun h=>h);replace D:=D.fr F (fun h=>h);replace G:=G.trans F;clear hq F H1;go_wp2_with fail)
 refine hKK.out _ _ ?_ (fun hHeld=>?_)
 ·exact⟨B.cell,N.cell⟩
 clear hKK KK;(try simp only[Act.put,SS]);refine wpAnyH_ready (rs:=[9]) (by kernel_rfl) (by simp) ?_;refine AllReadyH.cons (o:=_) rfl (fun KK hKK=>?_) AllReadyH.nil;go_simp
 (go_at_call 55;with_reducible refine(H2.out _ (HFB.out.trans (HF0.out.trans G))).mono ?_;rintro e w' ⟨⟨a2,c2,rfl,hq⟩,F⟩;have hsz:=G.size;have k2:=hq.kept (fun k=>wb.heap.size≤k∧k<w.heap.size+3) (fun k hk=>by have:=HS0.out;exact⟨⟨hk.1,by omega⟩,by omega⟩);(try replace k1:=k1.old F);(try replace k3:=k3.old F);(try replace k4:=k4.old F);(try replace k5:=k5.old F);replace B:=B.fr F (fun h=>h);replace N:=N.fr F (fun h=>h);replace D:=D.fr F (fun h=>h);replace G:=G.trans F;clear hq F H2;go_wp2_with fail)
 refine hKK.out _ _ ?_ (fun hHeld=>?_)
 ·exact⟨B.cell,N.cell⟩
 clear hKK KK;(try simp only[Act.put,SS]);refine wpAnyH_ready (rs:=[17]) (by kernel_rfl) (by simp) ?_;refine AllReadyH.cons (o:=_) rfl (fun KK hKK=>?_) AllReadyH.nil;go_simp
 (go_at_call 55;with_reducible refine(H3.out _ (HFB.out.trans (HF0.out.trans G))).mono ?_;rintro e w' ⟨⟨a3,c3,rfl,hq⟩,F⟩;have hsz:=G.size;have k3:=hq.kept (fun k=>wb.heap.size≤k∧k<w.heap.size+3) (fun k hk=>by have:=HS0.out;exact⟨⟨hk.1,by omega⟩,by omega⟩);(try replace k1:=k1.old F);(try replace k2:=k2.old F);(try replace k4:=k4.old F);(try replace k5:=k5.old F);replace B:=B.fr F (fun h=>h);replace N:=N.fr F (fun h=>h);replace D:=D.fr F (fun h=>h);replace G:=G.trans F;clear hq F H3;go_wp2_with fail)
 refine hKK.out _ _ ?_ (fun hHeld=>?_)
 ·exact⟨B.cell,N.cell⟩
 clear hKK KK;(try simp only[Act.put,SS]);refine wpAnyH_ready (rs:=[24]) (by kernel_rfl) (by simp) ?_;refine AllReadyH.cons (o:=_) rfl (fun KK hKK=>?_) AllReadyH.nil;go_simp
 (go_at_call 56;with_reducible refine(H4.out _ (HFB.out.trans (HF0.out.trans G))).mono ?_;rintro e w' ⟨⟨a4,c4,a5,c5,a6,c6,rfl,hq⟩,F⟩;have hsz:=G.size;have k4:=hq.weaken (K':=(fun k=>wb.heap.size≤k∧k<w.heap.size+3)) (fun k hk=>⟨hk.1,by have:=HS0.out;omega⟩);(try replace k1:=k1.old F);(try replace k2:=k2.old F);(try replace k3:=k3.old F);(try replace k5:=k5.old F);replace B:=B.fr F (fun h=>h);replace N:=N.fr F (fun h=>h);replace D:=D.fr F (fun h=>h);replace G:=G.trans F;clear hq F H4;go_wp2_with fail)
 refine hKK.out _ _ ?_ (fun hHeld=>?_)
 ·exact⟨B.cell,N.cell⟩
 clear hKK KK;(try simp only[Act.put,SS]);refine wpAnyH_ready (rs:=[32]) (by kernel_rfl) (by simp) ?_;refine AllReadyH.cons (o:=_) rfl (fun KK hKK=>?_) AllReadyH.nil;go_simp
 (go_at_call 57;with_reducible refine(H5.out _ (HFB.out.trans (HF0.out.trans G))).mono ?_;rintro e w' ⟨⟨a7,c7,rfl,hq⟩,F⟩;have hsz:=G.size;have k5:=hq.weaken (K':=(fun k=>wb.heap.size≤k∧k<w.heap.size+3)) (fun k hk=>⟨hk.1,by have:=HS0.out;omega⟩);(try replace k1:=k1.old F);(try replace k2:=k2.old F);(try replace k3:=k3.old F);(try replace k4:=k4.old F);replace B:=B.fr F (fun h=>h);replace N:=N.fr F (fun h=>h);replace D:=D.fr F (fun h=>h);replace G:=G.trans F;clear hq F H5;have d0:=D.cell 0;have f0:=D.frozen 0;have d1:=D.cell 1;have f1:=D.frozen 1;have d2:=D.cell 2;have f2:=D.frozen 2;have d3:=D.cell 3;have f3:=D.frozen 3;have d4:=D.cell 4;have f4:=D.frozen 4;have d5:=D.cell 5;have f5:=D.frozen 5;have d6:=D.cell 6;have f6:=D.frozen 6;have d7:=D.cell 7;have f7:=D.frozen 7;have d8:=D.cell 8;have f8:=D.frozen 8;have d9:=D.cell 9;have f9:=D.frozen 9;have D5:=putL_all (Z:=[.bool false,.slice none 0 0,.slice none 0 0,.slice none 0 0,.int .i64 0,.int .i64 0,.slice none 0 0,.slice none 0 0,.slice none 0 0,.slice none 0 0]) D (l:=[.bool x.below,.slice a1 s1.length c1,.slice a2 u1.length c2,.slice a3 u2.length c3,.int .i64 x.t0,.int .i64 x.t1,.slice a4 o1.length c4,.slice a5 p1.length c5,.slice a6 k0.length c6,.slice a7 x1.length c7]) rfl;simp only[putL]at D5;have B5:=B.fr D5.2 (by omega);have N5:=N.fr D5.2 (by omega);simp only[SG]at d0 d1 d2 d3 d4 d5 d6 d7 d8 d9;go_wp2_with fail)
 refine hKK.out _ _ ?_ (fun hHeld=>?_)
 ·exact⟨B.cell,N.cell⟩
 clear hKK KK;(try simp only[Act.put,SS]);refine wpAnyH_take (i:=33) (oi:=_) (v:=?_) rfl (by kernel_rfl) (by kernel_rfl) (by kernel_rfl) (fun _ _ _ h=>h) (Or.inl ⟨by rfl,?_⟩) (by assumption) ?_;rotate_left
 ·(intro W hSw;(try dsimp only at hSw);go_simp;try with_reducible rfl)
 (try simp only[Act.put,SS]);refine wpAnyH_ready (rs:=[34]) (by kernel_rfl) (by simp) ?_;refine AllReadyH.cons (o:=_) rfl (fun KK hKK=>?_) AllReadyH.nil;go_simp
 skip
 refine hKK.out _ _ ?_ (fun hHeld=>?_)
 ·with_reducible exact⟨B5.cell,N5.cell⟩
 clear hKK KK;(try simp only[Act.put,SS]);refine wpAnyH_done (by kernel_rfl) ?_ _;refine NoPanic.normal ?_;all_goals
  have k:=(show Kept (fun W=>CertIn W ⟨x.below,s1,u1,u2,x.t0,x.t1,o1,p1,k0,x1⟩ (.slice a1 s1.length c1) (.slice a2 u1.length c2) (.slice a3 u2.length c3) (.slice a4 o1.length c4) (.slice a5 p1.length c5) (.slice a6 k0.length c6) (.slice a7 x1.length c7)) (fun k=>wb.heap.size≤k∧k<w.heap.size+3) _ from fun W f=>⟨k1 W f,k2 W f,k3 W f,(k4 W f).1,(k4 W f).2.1,(k4 W f).2.2,k5 W f⟩);have hsb:=HFB.out.size;have HK:=Hi (k.step (K':=(fun k=>wb.heap.size≤k∧k<w.heap.size)) D5.2 (fun k hk e=>by have:=HZ.out;omega) (fun k hk=>.inl (by omega)))
  have HF:=Hi ((HF0.out.trans G).trans' D5.2 (fun i hi e=>by have:=HZ.out;omega));have n0:=D5.1.cell 0;have n1:=D5.1.cell 1;have n2:=D5.1.cell 2;have n3:=D5.1.cell 3;have n4:=D5.1.cell 4;have n5:=D5.1.cell 5;have n6:=D5.1.cell 6;have n7:=D5.1.cell 7;have n8:=D5.1.cell 8;have n9:=D5.1.cell 9;simp only[SG]at n0 n1 n2 n3 n4 n5 n6 n7 n8 n9
  clear k k1 k2 k3 k4 k5 B D B5 D5 N N5 G;go_wp2_with fail
  exact bodyPost_ret (v:=.agg #[.bool x.below,.slice a1 s1.length c1,.slice a2 u1.length c2,.slice a3 u2.length c3,.int .i64 x.t0,.int .i64 x.t1,.slice a4 o1.length c4,.slice a5 p1.length c5,.slice a6 k0.length c6,.slice a7 x1.length c7]) (by simp[results,Tryz.results19,go_sem,n0,n1,n2,n3,n4,n5,n6,n7,n8,n9]) rfl ⟨⟨a1,c1,a2,c2,a3,c3,a4,c4,a5,c5,a6,c6,a7,c7,rfl,HK.out⟩,HF.out⟩
theorem cutStep_copy (l:List Part):copyR (cutStep l):=by
 refine⟨?_,fun p hp=>?_⟩
 ·show ((l.take 20).map cutPart).length≤1000000
  rw[List.length_map,List.length_take]
  omega
 ·obtain⟨q,-,rfl⟩:=List.mem_map.1 hp
  refine⟨?_,?_⟩
  ·show (q.o.take 40).length≤100000000000
   rw[List.length_take]
   omega
  ·show (q.b.take 200).length≤100000000000
   rw[List.length_take]
   omega
theorem cutName_copy (n:List (List Part)):(cutName n).length≤70∧∀ r∈cutName n,copyR r:=by
 refine⟨?_,fun r hr=>?_⟩
 ·show ((n.take 70).map cutStep).length≤70
  rw[List.length_map,List.length_take]
  omega
 ·obtain⟨q,-,rfl⟩:=List.mem_map.1 hr
  exact cutStep_copy q
theorem cutGen_copy (g:Gen):copyG (cutGen g):=by
 refine⟨?_,?_,?_⟩
 ·show (g.b.take 300).length≤100000000000
  rw[List.length_take]
  omega
 ·have:=(cutName_copy (g.n.take 5)).1
  show (cutName (g.n.take 5)).length≤1000000
  omega
 ·exact(cutName_copy (g.n.take 5)).2
theorem fewS_copy (l:List Gen):(fewS l).length≤1000000∧(∀ g∈fewS l,copyG g)∧∀ g∈fewS l,g.n.length≤1000000∧∀ r∈g.n,r.length≤1000000:=by
 have h:∀ g∈fewS l,copyG g:=fun g hg=>by
  obtain⟨q,-,rfl⟩:=List.mem_map.1 hg
  exact cutGen_copy q
 refine⟨?_,h,fun g hg=>⟨(h g hg).2.1,fun r hr=>((h g hg).2.2 r hr).1⟩⟩
 show ((l.take 20).map cutGen).length≤1000000
 rw[List.length_map,List.length_take]
 omega
theorem cutPt_small (p:PointD):smallPt (cutPt p):=by
 have hi:=fewS_copy p.is;have hn:=fewS_copy p.ns;refine⟨?_,hi.2.2,hi.1⟩
 show smallPl (cutPlace p)
 unfold cutPlace;split
 ·exact⟨hn.2.2,hn.1,(cutStep_copy p.st).1⟩
 ·exact⟨(fun g hg=>by cases hg),Nat.zero_le _,Nat.zero_le _⟩
theorem cutPt_copy (p:PointD):copyPt (cutPt p):=by
 have hi:=fewS_copy p.is;have hn:=fewS_copy p.ns;refine⟨?_,?_,hi.1,hi.2.1⟩
 ·show copyPl (cutPlace p)
  unfold cutPlace;split
  ·exact⟨⟨hn.1,hn.2.1⟩,cutStep_copy p.st⟩
  ·exact⟨⟨Nat.zero_le _,(fun g hg=>by cases hg)⟩,Nat.zero_le _,(fun q hq=>by cases hq)⟩
 ·show (p.rs.take 20).length≤100000000000
  rw[List.length_take]
  omega
theorem dirPt_small {n:List (List Part)}(h:dirN n):smallPt (dirPt n):=by
 refine⟨⟨fun g hg=>?_,?_,Nat.zero_le _⟩,(fun g hg=>by cases hg),Nat.zero_le _⟩
 ·have e:g=⟨4,[],n⟩:=List.mem_singleton.1 hg
  rw[e]
  exact⟨by have:=h.1;show n.length≤1000000;omega,fun r hr=>(h.2 r hr).1⟩
 ·show (1:Nat)≤1000000
  omega
theorem cutName_dir (n:List (List Part)):dirN (cutName (n.take 5)):=by
 have h:=cutName_copy (n.take 5);exact⟨by omega,fun r hr=>⟨(h.2 r hr).1,(h.2 r hr).2⟩⟩
end Go.Proofs.YteidmhkobmddiaaGreatDoor
