/-
  Merged by program: XIxFiW.
-/
import Derived.Test.YtehlipgmkinfbaaGreatDoorP0ba
set_option linter.unusedSimpArgs false
set_option maxRecDepth 100000
set_option maxHeartbeats 8000000
namespace Go.Proofs.YtehlipgmkinfbaaGreatDoor
open Go Go.RowKit Go.Q
theorem fiWalk_any (v vi vs:Value)(A:List RowI)(n0:List (List Part))(sb:Bool)(z0:List UInt8)(w:World)(h:RefsI w v A)(hi:NameAt w vi n0)(hb:Bytes w vs z0)(hE:Env w) :
  Calls Tryz.prog 6 #[v,vi,.agg #[.bool sb,vs]] w fun e w'=>e=.returned (.bool true)∧Fz w w':=by
 obtain⟨ai,ci,rfl,hci,hmi⟩:=NameAt.form hi
 obtain⟨as0,cs0,rfl,hcs,hms,-⟩:=Vals.form hb
 unfold maxLen at hmi hms;obtain⟨m4,hm4⟩:∃ m:Nat,m=min n0.length 4:=⟨_,rfl⟩
 obtain⟨m100,hm100⟩:∃ m:Nat,m=min z0.length 100:=⟨_,rfl⟩
 have k1:min (n0.length:Int) 4=(m4:Int):=by omega
 have k2:(m4:Int)≤(ci:Int):=by omega
 have k3:(0:Int)≤(m4:Int):=by omega
 have k4:min (z0.length:Int) 100=(m100:Int):=by omega
 have k5:(m100:Int)≤(cs0:Int):=by omega
 have k6:(0:Int)≤(m100:Int):=by omega
 have HNC:=Hi (NameAt.cut hi 4 m4 hm4);have HBC:=Hi (Vals.cut hb 100 m100 hm100);obtain⟨nm,hnm⟩:∃ n,n=cutName (n0.take 4):=⟨_,rfl⟩
 obtain⟨sz,hsz⟩:∃ z,z=z0.take 100:=⟨_,rfl⟩
 have hszl:sz.length≤100:=by rw[hsz,List.length_take];omega
 have hm1:m100=sz.length:=by rw[hsz,List.length_take,hm100];omega
 rw[←hsz,hm1]at HBC
 have hmz:z0.length=0→sz.length=0:=fun h=>by rw[←hm1,hm100];omega
 rw[hm1]at k4 k5 k6
 have hfit:fitN nm:=by rw[hnm];exact cutName_fit _
 have hfa:∀ (l:List RowI),∀ r∈toRows l,fitN r.iss∧r.num.size.length≤1000000:=fun l r hr=>by
  obtain⟨x,-,rfl⟩:=List.mem_map.1 hr
  exact⟨toRow_fit x,toRow_size x⟩
 have l1:=least_ix (toRows A) (hfa A);obtain⟨O,hO⟩:∃ O,O=(leastL (toRows A) [] []).2:=⟨_,rfl⟩
 rw[←hO]at l1
 have F0:Fz w (w.alloc (.cells #[.bool sb,.slice as0 z0.length cs0] 54)):=(Fr.refl w).alloc _;have HL1:=Hi (leastIx_any v A _ O hO (RefsI.old h F0) (hE.old F0));obtain⟨X,hX⟩:∃ X,X=O.map nrow:=⟨_,rfl⟩
 have hix:Ixed X:=by rw[hX];exact l1.2.2.2.1
 have hol:O.length≤8:=by have:=l1.2.2.2.2.1;have:=toRows_len A;omega
 have HU:=Hi (And.intro l1.2.1 (fun r hr=>(l1.2.2.1 r hr).1));have HIX:=Hi hix;have HOL:=Hi hol;have hxl:X.length≤8:=by rw[hX,List.length_map];exact hol
 have HXL:=Hi hxl;have HX:=Hi hX;obtain⟨s,hs⟩:∃ s:RowP,s=⟨nm,⟨sb,sz⟩,0,0,none⟩:=⟨_,rfl⟩
 have e1:nm=s.iss:=by rw[hs]
 have e2:sb=s.num.below:=by rw[hs]
 have e3:sz=s.num.size:=by rw[hs]
 have HFN:=Hi (show ∀ r∈s.iss,fewB r from by rw[←e1];exact fun r hr=>(hfit.2 r hr).1);have HSL:=Hi (show s.num.size.length≤100 from by rw[←e3];exact hszl);have HFT:=Hi (show fitN s.iss from by rw[←e1];exact hfit);have HTO:=Hi (fun W (F:Fz w W)=>lawToK_any _ (n0.take 4) w W HNC.out F);rw[←hnm,e1]at HTO
 have HE:=Hi hE;have HF0:=Hi F0;obtain⟨z,hz⟩:∃ z,z=w.heap.size:=⟨_,rfl⟩
 have HZ:=Hi hz;have BZ:=Blk.new w 54 #[.bool sb,.slice as0 z0.length cs0];rw[←hz]at BZ
 have HBZ:=Hi BZ;rw[e3]at HBC k4 k5 k6 hmz
 have HMZ:=Hi hmz;have HBZ0:=Hi hb;subst e2;have HE1:=Hi e1;have HE3:=Hi e3;obtain⟨a0,c0,rfl,-⟩:=h
 clear hi hb hE hnm hsz hszl hmz hm1 hfit hfa l1 hO F0 hX hix hol hxl hs e1 e3 hm4 hm100 hci hmi hcs hms hz BZ;go_enter Tryz.func6,Tryz.ntmps6
 go_wp2_with fail
 rw[←HZ.out]
 refine HL1.out.mono ?_;rintro e w1 ⟨⟨x1,a1,c1,rfl,hx1,hr1⟩,F1⟩;rw[←HX.out]at hx1
 have HX1:=Hi hx1;have HR1:=Hi hr1;have HB1:=Hi (HBZ.out.fr F1 (fun h=>h));have HF1:=Hi (HF0.out.trans F1);clear hx1 hr1 F1 HL1 HBZ HF0;go_wp2_with fail
 refine(HTO.out w1 HF1.out).mono ?_
 rintro e w2 ⟨⟨an,cn,rfl,hnr⟩,F2⟩;have HN2:=Hi hnr.at;have HF2:=Hi F2;clear hnr F2 HTO;go_wp2_with fail
 refine(lawOfK_any _ s.iss w2 w2 HN2.out (Fr.refl w2) (by have:=HFT.out.1;omega) (fun r hr=>(HFT.out.2 r hr).2.1)).mono ?_
 rintro e w3 ⟨⟨aw,cw,rfl,hwr⟩,F3⟩;have HW3:=Hi hwr.at;have HN3:=Hi (HN2.out.old F3);have HF3:=Hi (HF2.out.trans F3);have B3:=HB1.out.fr HF3.out (fun h=>h);have g1:=B3.cell 1;have f1:=B3.frozen 1;simp only[SG]at g1
 clear hwr F3;go_upto_region 5 with fail
 have F31:=HF1.out.trans HF3.out;have hbox:BoxOf w3 z 54 s.num.below as0 z0.length cs0 z0:=⟨B3,HBZ0.out.old F31,rfl⟩;have B4:Blk (w3.setCell ⟨z,1,none⟩ (.slice as0 s.num.size.length cs0)) z 54 #[.bool s.num.below,.slice as0 s.num.size.length cs0]:=B3.set 1 _;have FS:Fr (fun k=>k=z) w3 (w3.setCell ⟨z,1,none⟩ (.slice as0 s.num.size.length cs0)):=(Fr.refl w3).setCell (S:=fun k=>k=z) (p:=⟨z,1,none⟩) (fun _=>rfl) _;have HF4:=Hi (F31.trans' FS (fun i hi e=>by have e2:i=z:=e;have:=HZ.out;omega));have HX4:=Hi (cut_ix (m:=s.num.size.length) hbox HMZ.out (HX1.out.old HF3.out))
 have HR4:=Hi (cut_refs (m:=s.num.size.length) hbox HMZ.out (Refs.old HR1.out HF3.out));have HN4:=Hi (cut_name (m:=s.num.size.length) hbox HMZ.out HN3.out);have HW4:=Hi (cut_name (m:=s.num.size.length) hbox HMZ.out HW3.out);have HB4:=Hi B4;have HS4:=Hi (cut_bytes (m:=s.num.size.length) hbox (HBC.out.old F31));clear B3 g1 f1 F31 hbox B4 FS HX1 HR1 HN2 HW3 HN3 HF2 HF3 HF1 HB1 HBC HNC;generalize w3.setCell ⟨z,1,none⟩ (.slice as0 s.num.size.length cs0)=w4 at *
 have g0:=HB4.out.cell 0;have g1:=HB4.out.cell 1;simp only[SG]at g0 g1
 go_wp2_with fail
 refine(lawNumTo_any s.num.below _ s.num.size w4 w4 HS4.out (Fr.refl w4)).mono ?_
 rintro e w5 ⟨⟨as5,cs5,rfl,hk5⟩,F5⟩;obtain⟨y12,hy12⟩:∃ y,y=w5.heap.size:=⟨_,rfl⟩
 have HY12:=Hi hy12;have BY12:=Blk.new w5 40 #[.bool s.num.below,.slice as5 s.num.size.length cs5];rw[←hy12]at BY12
 have FA5:Fz w5 (w5.alloc (.cells #[.bool s.num.below,.slice as5 s.num.size.length cs5] 40)):=(Fr.refl w5).alloc _;have HS6:=Hi (hk5.now.old FA5);have HBY:=Hi BY12;have HG6:=Hi (F5.trans FA5);clear g0 g1 hk5 F5 FA5 BY12 hy12;go_upto_region 6 with fail
 rw[←HY12.out]
 generalize (w5.alloc (.cells #[.bool s.num.below,.slice as5 s.num.size.length cs5] 40))=w6 at *
 have HFI:=Hi (ixFind_any (pt x1) (.slice an s.iss.length cn) X s as5 cs5 w6 (HX4.out.old HG6.out) (HN4.out.old HG6.out) HFN.out HS6.out HIX.out.1 HIX.out.2.2 (by have:=HSL.out;omega) (by have:=HXL.out;omega) (HE.out.old (HF4.out.trans HG6.out)));have g0:=HBY.out.cell 0;have g1:=HBY.out.cell 1;simp only[SG]at g0 g1
 go_wp2_with fail
 refine HFI.out.mono ?_;rintro e w7 ⟨hfo,F7⟩;have HG7:=Hi (HG6.out.trans F7);have HBY7:=Hi (HBY.out.fr F7 (fun h=>h));have HS7:=Hi (HS6.out.old F7);clear g0 g1 F7 HFI HBY HS6 HG6;unfold FindOut at hfo;have HNA:=Hi (show ∀ r∈issS X s.iss,nrow r=r from fun r hr=>HIX.out.2.1 r (iss_mem r hr));cases hno:nameOk s.iss with
 |false=>
  rw[find_bad X s hno]at hfo
  subst hfo;have HA0:=Hi (show issS X s.iss=[] from by unfold issS;rw[hno];rfl);have HNO:=Hi hno;clear hno;obtain⟨z13,hz13⟩:∃ y,y=w7.heap.size:=⟨_,rfl⟩
  have HZ13:=Hi hz13;have BZ13:=Blk.new w7 43 #[.slice none 0 0,.bool false,.slice none 0 0,.int .i64 0,.int .i64 0,.pointer none];rw[←hz13]at BZ13
  have FA7:Fz w7 (w7.alloc (.cells #[.slice none 0 0,.bool false,.slice none 0 0,.int .i64 0,.int .i64 0,.pointer none] 43)):=(Fr.refl w7).alloc _;have HBF:=Hi BZ13;have HG8:=Hi (HG7.out.trans FA7);have HBY8:=Hi (HBY7.out.fr FA7 (fun h=>h));have HS8:=Hi (HS7.out.old FA7);clear hz13 FA7 BZ13;go_upto_region 7 with fail
  rw[←HZ13.out]
  generalize (w7.alloc (.cells #[.slice none 0 0,.bool false,.slice none 0 0,.int .i64 0,.int .i64 0,.pointer none] 43))=w8 at *
  have HOF:=Hi (ixOf_any (pt x1) (.slice an s.iss.length cn) X s.iss w8 (HX4.out.old HG8.out) (HN4.out.old HG8.out) HFN.out HIX.out.1 HIX.out.2.2 (by have:=HXL.out;omega) (HE.out.old (HF4.out.trans HG8.out)));rw[nrow_all HNA.out]at HOF
  go_wp2_with fail
  refine HOF.out.mono ?_;rintro e w9 ⟨⟨s9,t9,rfl,hs9⟩,F9⟩;have HG9:=Hi (HG8.out.trans F9);have HC9:=Hi F9;have HRS:=Hi hs9;clear hs9 F9 HOF;go_wp2_with fail
  refine(ofRows_any _ (issS X s.iss) w9 HRS.out (fun r hr=>(HIX.out.2.2 r (iss_mem r hr)).1) (by have:=iss_len X s.iss;have:=HXL.out;omega)).mono ?_
  rintro e w10 ⟨⟨s10,t10,rfl,hs10⟩,F10⟩;have HAL:=Hi hs10;have HG10:=Hi (HG9.out.trans F10);have HC10:=Hi (HC9.out.trans F10);clear hs10 F10 HRS;have B10:=HBY8.out.fr HC10.out (fun h=>h);have g0:=B10.cell 0;have g1:=B10.cell 1;simp only[SG]at g0 g1
  have HPL:=Hi (ixPlaceN_any (pt x1) (.slice an s.iss.length cn) X s as5 cs5 w10 (HX4.out.old HG10.out) (HN4.out.old HG10.out) HFN.out (HS8.out.old HC10.out) HIX.out.1 (fun r hr=>(HIX.out.2.2 r hr).2.2) (by have:=HSL.out;omega) (by have:=HXL.out;omega) (HE.out.old (HF4.out.trans HG10.out)));rw[HNO.out,if_neg (by decide)]at HPL
  go_wp2_with fail
  refine HPL.out.mono ?_;rintro e w11 ⟨rfl,F11⟩;have HG11:=Hi (HG10.out.trans F11);have HC11:=Hi F11;clear g0 g1 B10 F11 HPL;go_wp2_with fail
  refine(ixKnown_any _ (HE.out.old (HF4.out.trans HG11.out))).mono ?_
  rintro e w12 ⟨rfl,F12⟩;have HG12:=Hi (HG11.out.trans F12);have HC12:=Hi (HC11.out.trans F12);clear F12;go_wp2_with fail
  refine(r14Right_any _ s.iss w12 (HW4.out.old HG12.out) HFN.out).mono ?_
  rintro e w13 ⟨rfl,F13⟩;have HG13:=Hi (HG12.out.trans F13);have HC13:=Hi (HC12.out.trans F13);rw[HNO.out]
  clear F13;have q1:(((issS X s.iss).length:Int)==0)=true:=by rw[HA0.out];rfl
  go_wp2_with fail
  go_ret;exact⟨rfl,HF4.out.trans HG13.out⟩
 |true=>
  have HNO:=Hi hno;obtain⟨n,hn⟩:∃ n,n=aheadR X s:=⟨_,rfl⟩
  have HNN:=Hi hn;have HPF:=Hi (show (placeR s O 0).1=n from by rw[place_fst HU.out.1,hn,HX.out,ahead_map]);have hfl:=find_law HU.out.1 s hno;rw[←HX.out]at hfl
  have han:aheadR O s=n:=by rw[hn,HX.out,ahead_map]
  rw[han]at hfl
  rcases hfl with ⟨x,hx,hp,hf⟩|⟨hp,hf⟩
  ·rw[hf]at hfo
   dsimp only at hfo;have HPS:=Hi hp;have HXN:=Hi hx;obtain⟨y,hy⟩:∃ y,y=nrow x:=⟨_,rfl⟩
   have hyx:y∈X:=by rw[HX.out,hy];exact List.mem_map_of_mem (List.mem_of_getElem? hx)
   have hny:nrow y=y:=HIX.out.2.1 y hyx;have hmy:madeS y.num=y.num:=congrArg RowP.num hny;have HLK:=Hi (show likeRows [y] [x]=true from by rw[hy];exact likeRows_n [x]);have HFY:=Hi (show fitN y.iss∧nameOk y.iss=true∧y.num.size.length≤1000000 from HIX.out.2.2 y hyx);have HFXX:=Hi (show fitN x.iss∧nameOk x.iss=true∧x.num.size.length≤1000000 from HU.out.2 x (List.mem_of_getElem? hx));rw[←hy,hmy,hny]at hfo
   obtain⟨a2,c2,b2,d2,q2,rfl,hry⟩:=hfo
   clear hno hn han hx hp hf hy hyx hny hmy;obtain⟨z13,hz13⟩:∃ y,y=w7.heap.size:=⟨_,rfl⟩
   have HZ13:=Hi hz13;have BZ13:=Blk.new w7 43 #[.slice a2 y.iss.length c2,.bool y.num.below,.slice b2 y.num.size.length d2,.int .i64 y.date,.int .i64 y.reason,.pointer q2];rw[←hz13]at BZ13
   have FA7:Fz w7 (w7.alloc (.cells #[.slice a2 y.iss.length c2,.bool y.num.below,.slice b2 y.num.size.length d2,.int .i64 y.date,.int .i64 y.reason,.pointer q2] 43)):=(Fr.refl w7).alloc _;have HBF:=Hi BZ13;have HG8:=Hi (HG7.out.trans FA7);have HBY8:=Hi (HBY7.out.fr FA7 (fun h=>h));have HS8:=Hi (HS7.out.old FA7);have HRY:=Hi (RRow.old _ _ _ _ hry FA7);clear hry;clear hz13 FA7 BZ13;go_upto_region 7 with fail
   rw[←HZ13.out]
   generalize (w7.alloc (.cells #[.slice a2 y.iss.length c2,.bool y.num.below,.slice b2 y.num.size.length d2,.int .i64 y.date,.int .i64 y.reason,.pointer q2] 43))=w8 at *
   have HOF:=Hi (ixOf_any (pt x1) (.slice an s.iss.length cn) X s.iss w8 (HX4.out.old HG8.out) (HN4.out.old HG8.out) HFN.out HIX.out.1 HIX.out.2.2 (by have:=HXL.out;omega) (HE.out.old (HF4.out.trans HG8.out)));rw[nrow_all HNA.out]at HOF
   go_wp2_with fail
   refine HOF.out.mono ?_;rintro e w9 ⟨⟨s9,t9,rfl,hs9⟩,F9⟩;have HG9:=Hi (HG8.out.trans F9);have HC9:=Hi F9;have HRS:=Hi hs9;clear hs9 F9 HOF;go_wp2_with fail
   refine(ofRows_any _ (issS X s.iss) w9 HRS.out (fun r hr=>(HIX.out.2.2 r (iss_mem r hr)).1) (by have:=iss_len X s.iss;have:=HXL.out;omega)).mono ?_
   rintro e w10 ⟨⟨s10,t10,rfl,hs10⟩,F10⟩;have HAL:=Hi hs10;have HG10:=Hi (HG9.out.trans F10);have HC10:=Hi (HC9.out.trans F10);clear hs10 F10 HRS;have B10:=HBY8.out.fr HC10.out (fun h=>h);have g0:=B10.cell 0;have g1:=B10.cell 1;simp only[SG]at g0 g1
   have HPL:=Hi (ixPlaceN_any (pt x1) (.slice an s.iss.length cn) X s as5 cs5 w10 (HX4.out.old HG10.out) (HN4.out.old HG10.out) HFN.out (HS8.out.old HC10.out) HIX.out.1 (fun r hr=>(HIX.out.2.2 r hr).2.2) (by have:=HSL.out;omega) (by have:=HXL.out;omega) (HE.out.old (HF4.out.trans HG10.out)));rw[if_pos HNO.out,←HNN.out]at HPL
   go_wp2_with fail
   refine HPL.out.mono ?_;rintro e w11 ⟨rfl,F11⟩;have HG11:=Hi (HG10.out.trans F11);have HC11:=Hi F11;clear g0 g1 B10 F11 HPL;go_wp2_with fail
   refine(ixKnown_any _ (HE.out.old (HF4.out.trans HG11.out))).mono ?_
   rintro e w12 ⟨rfl,F12⟩;have HG12:=Hi (HG11.out.trans F12);have HC12:=Hi (HC11.out.trans F12);clear F12;go_wp2_with fail
   refine(r14Right_any _ s.iss w12 (HW4.out.old HG12.out) HFN.out).mono ?_
   rintro e w13 ⟨rfl,F13⟩;have HG13:=Hi (HG12.out.trans F13);have HC13:=Hi (HC12.out.trans F13);rw[HNO.out]
   clear F13;have g0:=(HB4.out.fr HG13.out (fun h=>h)).cell 0;have g1:=(HB4.out.fr HG13.out (fun h=>h)).cell 1;simp only[SG]at g0 g1
   have HPR:=Hi (r22Place_any s (.slice a1 O.length c1) (.slice aw s.iss.length cw) (.slice as0 s.num.size.length cs0) O w13 (Refs.old HR4.out HG13.out) (HW4.out.old HG13.out) (HS4.out.old HG13.out) HU.out.2 ⟨HFT.out,HNO.out,by have:=HSL.out;omega⟩ (by have:=HOL.out;omega));rw[HPF.out,HPS.out]at HPR
   go_wp2_with fail
   refine HPR.out.mono ?_;rintro e w14 ⟨rfl,F14⟩;have HG14:=Hi (HG13.out.trans F14);have HC14:=Hi (HC13.out.trans F14);clear F14 g0 g1 HPR;go_wp2_with fail
   go_loopg [19,20] O.length (fun g u i wr=>∃ (j:Nat) (a:Option Addr) (c:Nat) (gs:List RowP),g=O.length-j∧j≤O.length∧u=.slice a gs.length c∧i=.int .i64 j∧Hid (gs=(O.take j).filter (fun r=>nameSameS r.iss s.iss))∧Hid (gs.length≤j)∧Hid (GRow 7 (fun _ us x=>RRef w4 us x) (fun _=>True) 56 wr w14.heap.size (.slice a gs.length c) gs)∧Hid (Fz w14 wr))
   case atStart=>exact⟨0,none,0,[],rfl,Nat.zero_le _,rfl,rfl,Hi rfl,Hi (Nat.le_refl _),Hi (GRow.nil _ _ _ _ _ _),Hi (Fr.refl _)⟩
   case round=>
    obtain⟨j,a,c,gs,hg,hj,rfl,rfl,HGS,HGL,HRW,HF⟩:=hrel
    have HG:=Hi hg;have hob:=HOL.out;clear hg;by_cases hjl:j<O.length
    ·obtain⟨x,hx⟩:∃ x,O[j]? = some x:=⟨_,List.getElem?_eq_getElem hjl⟩
     obtain⟨b,o,cs,hbo,-,-,hR,hcell⟩:=LAt.get HR4.out hx
     subst hbo;obtain⟨xa1,xc1,xb1,xd1,rfl,hxn,-⟩:=hR.form
     have HRX:=Hi hR;have HGR:=Hi (HG14.out.trans HF.out);have v0:=HGR.out.cell (hcell 0 _ rfl) (fun h=>h);have v1:=HGR.out.cell (hcell 1 _ rfl) (fun h=>h);have v2:=HGR.out.cell (hcell 2 _ rfl) (fun h=>h);have v3:=HGR.out.cell (hcell 3 _ rfl) (fun h=>h);have v4:=HGR.out.cell (hcell 4 _ rfl) (fun h=>h);have v5:=HGR.out.cell (hcell 5 _ rfl) (fun h=>h);have v6:=HGR.out.cell (hcell 6 _ rfl) (fun h=>h);simp only[Nat.add_zero]at v0
     have p1:(0:Int)≤(j:Int):=by omega
     have p2:(j:Int)<(O.length:Int):=by omega
     have HTK:=Hi (show O.take (j+1)=O.take j++[x] by rw[List.take_add_one,hx];rfl);have HSA:=Hi (r14Same_any _ _ x.iss s.iss wr (hxn.old HGR.out) (HW4.out.old HGR.out) (fun r hr=>((HU.out.2 x (List.mem_of_getElem? hx)).1.2 r hr).1) HFN.out);have HCE:=Hi hcell;obtain⟨sm,hsm⟩:∃ sm,sm=nameSameS x.iss s.iss:=⟨_,rfl⟩
     rw[←hsm]at HSA
     have HSM:=Hi hsm;clear hx hR hcell hxn hsm;go_wp2_with fail
     refine HSA.out.mono ?_;rintro e w15 ⟨rfl,F15⟩;have HF15:=Hi F15;clear v0 v1 v2 v3 v4 v5 v6 F15 HSA;cases hq:sm with
     |false=>
      have HGS2:=Hi (show gs=(O.take (j+1)).filter (fun r=>nameSameS r.iss s.iss) from by
       rw[HTK.out,List.filter_append,HGS.out]
       simp[←HSM.out,hq])
      subst hq;go_wp2_with fail
      go_roundg (O.length-(j+1))
      case measure=>rw[HG.out];omega
      case rel=>exact⟨j+1,a,c,gs,rfl,by omega,rfl,by go_num,HGS2,Hi (by have:=HGL.out;omega),Hi (HRW.out.old HF15.out),Hi (HF.out.trans HF15.out)⟩
     |true=>
      have HGS2:=Hi (show gs++[x]=(O.take (j+1)).filter (fun r=>nameSameS r.iss s.iss) from by
       rw[HTK.out,List.filter_append,HGS.out]
       simp[←HSM.out,hq])
      subst hq
      obtain⟨a7,c7,w17,hrun,hrow7,F17,-⟩:=(HRW.out.old HF15.out).add (s:=22) Tryz.underlying22 info56 rfl (by decide) (by decide) (by have:=HF.out.size;have:=HF15.out.size;omega) ((Fr.refl w15).alloc (.cells [.slice xa1 x.iss.length xc1,.bool x.num.below,.slice xb1 x.num.size.length xd1,.int .i64 x.date,.int .i64 x.reason,.bool x.inv.isSome,.int .i64 (x.inv.getD 0)].toArray 56)) w15.heap.size [.slice xa1 x.iss.length xc1,.bool x.num.below,.slice xb1 x.num.size.length xd1,.int .i64 x.date,.int .i64 x.reason,.bool x.inv.isSome,.int .i64 (x.inv.getD 0)] rfl (Blk.new w15 56 [.slice xa1 x.iss.length xc1,.bool x.num.below,.slice xb1 x.num.size.length xd1,.int .i64 x.date,.int .i64 x.reason,.bool x.inv.isSome,.int .i64 (x.inv.getD 0)].toArray) (by simp[Value.oneCell']) x (fun _ _=>HRX.out) (by have:=HGL.out;omega)
      have HRUN:=Hi hrun;have HKP:=Hi HRW.out.keep;have HRW7:=Hi hrow7;have HF17:=Hi ((HF.out.trans HF15.out).trans' F17 (fun i hi e=>absurd hi (by have:=(HKP.out i e).1;omega)));have HLL:Hid ((gs++[x]).length=gs.length+1):=Hi (by rw[List.length_append];rfl);have HG15:=Hi (HGR.out.trans HF15.out);have v0:=HG15.out.cell (HCE.out 0 _ rfl) (fun h=>h);have v1:=HG15.out.cell (HCE.out 1 _ rfl) (fun h=>h);have v2:=HG15.out.cell (HCE.out 2 _ rfl) (fun h=>h);have v3:=HG15.out.cell (HCE.out 3 _ rfl) (fun h=>h);have v4:=HG15.out.cell (HCE.out 4 _ rfl) (fun h=>h)
      have v5:=HG15.out.cell (HCE.out 5 _ rfl) (fun h=>h);have v6:=HG15.out.cell (HCE.out 6 _ rfl) (fun h=>h);simp only[Nat.add_zero]at v0
      clear hrun hrow7 F17;go_wp2_with ((at_builtin;refine wpList_append_run (by rfl) (.tmp 100) (.tmp 105) 22 (by rfl) _ w17 (by exact HRUN.out) ?_))
      go_roundg (O.length-(j+1))
      case measure=>rw[HG.out];omega
      case rel=>exact⟨j+1,a7,c7,gs++[x],rfl,by omega,by rw[HLL.out],by go_num,HGS2,Hi (by rw[HLL.out];have:=HGL.out;omega),Hi (by rw[HLL.out];exact HRW7.out),HF17⟩
    ·have p2:¬(j:Int)<(O.length:Int):=by omega
     have HGE:=Hi (show gs=issS O s.iss from by rw[HGS.out,List.take_of_length_le (by omega)];exact want_iss HU.out.2 HNO.out);have HGR:=Hi (HG14.out.trans HF.out);have HWT:=Hi (show Refs wr (.slice a gs.length c) gs from (HRW.out.at (by decide)).move (Fr.refl wr) (fun _ _ h=>RRef.old _ _ _ _ h HGR.out))
     have HLR:=Hi (likeRows_any (.slice s10 (issS X s.iss).length t10) (.slice a gs.length c) (issS X s.iss) gs wr (Refs.old HAL.out (HC14.out.trans HF.out)) HWT.out (fun r hr=>(HIX.out.2.2 r (iss_mem r hr)).2.2) (fun r hr=>(HU.out.2 r (by rw[HGE.out]at hr;exact iss_mem r hr)).2.2) (by have:=iss_len X s.iss;have:=HXL.out;omega));rw[show likeRows (issS X s.iss) gs=true from by rw[HGE.out,HX.out,iss_map];exact likeRows_n _]at HLR
     have q3:((n:Int)==(n:Int))=true:=by simp
     have q4:((n:Int) != (n:Int))=false:=by simp
     go_wp2_with fail
     refine HLR.out.mono ?_;rintro e w18 ⟨rfl,F18⟩;have HG18:=Hi (HGR.out.trans F18);have HD18:=Hi (HC10.out.trans (HC14.out.trans (HF.out.trans F18)));clear F18 HLR;obtain⟨b,o,us,hbo,-,-,-,-⟩:=LAt.get HR4.out HXN.out
     subst hbo;have hnl:=(List.getElem?_eq_some_iff.1 HXN.out).1;have hcm:O.length≤c1:=by
      obtain⟨_,_,he,g1,-,-⟩:=HR4.out
      simp only[Value.slice.injEq]at he
      obtain⟨-,-,rfl⟩:=he
      exact g1
     have HONE2:=Hi (LAt.one HR4.out HXN.out);have hs:=fun w=>refsSlice_mid b o O.length c1 hcm n hnl w
     have p6:(0:Int)≤(n:Int):=by omega
     have p7:(n:Int)<(O.length:Int):=by omega
     have hob:=HOL.out;have hw1:IntKind.i64.wrap ((n:Int)+1)=(n:Int)+1:=by simp[IntKind.wrap,IntKind.signed,IntKind.bits];omega
     have hw2:wrap64 ((n:Int)+1)=(n:Int)+1:=by unfold wrap64;omega
     have HBZ:=Hi (HBF.out.fr HD18.out (fun h=>h));have HRZ:=Hi (RRow.old _ _ _ _ HRY.out HD18.out);have HONE:=Hi (fun W (F:Fz w18 W)=>Refs.old HONE2.out (HG18.out.trans F));have HFF:=Hi (HF4.out.trans HG18.out);clear hcm;go_upto_region 22 with fail
     have G:Fz w18 w18.drew:=(Fr.refl w18).drew;refine wp_region_N 14 (S:=fun w'=>∀ j,w'.cell? ⟨z13,j,none⟩=(#[.slice a2 y.iss.length c2,.bool y.num.below,.slice b2 y.num.size.length d2,.int .i64 y.date,.int .i64 y.reason,.pointer q2]:Array Value)[j]?) (by kernel_rfl) ?_ (fun hHeld=>?_)
     ·exact(HBZ.out.fr G (fun h=>h)).cell
     generalize w18.drew=wd at *
     refine tkN 0 rfl hHeld ?_;refine tkN 1 rfl hHeld ?_;refine tkN 2 rfl hHeld ?_;(try simp only[Act.put,SS]);refine tkG 3 rfl hHeld ?_;refine tkG 6 rfl hHeld ?_;refine tkG 7 rfl hHeld ?_;(try simp only[Act.put,SK,SS]);refine tkG 8 rfl hHeld ?_;refine tkG 9 rfl hHeld ?_;refine tkG 10 rfl hHeld ?_;(try simp only[Act.put,SK,SS]);refine stN 4 (fun KK hKK=>?_);go_simp
     skip
     refine hKK.out _ _ ?_ (fun hHeld=>?_)
     ·exact(HBZ.out.fr (G.alloc (.cells #[.slice a2 y.iss.length c2,.bool y.num.below,.slice b2 y.num.size.length d2,.int .i64 y.date,.int .i64 y.reason,.pointer q2] 43)) (fun h=>h)).cell
     clear hKK KK;(try simp only[Act.put,SS]);have GA:=G.alloc (.cells #[.slice a2 y.iss.length c2,.bool y.num.below,.slice b2 y.num.size.length d2,.int .i64 y.date,.int .i64 y.reason,.pointer q2] 43);have BN:=Blk.new wd 43 [.slice a2 y.iss.length c2,.bool y.num.below,.slice b2 y.num.size.length d2,.int .i64 y.date,.int .i64 y.reason,.pointer q2].toArray;have HRO:=Hi (rows_one BN rfl (RRow.old _ _ _ _ HRZ.out GA));clear BN;refine stN 5 (fun KK hKK=>?_);go_simp
     (go_at_call 9;(with_reducible refine(ofRows_any _ [y] _ HRO.out (fun r hr=>by rw[List.mem_singleton]at hr;rw[hr];exact HFY.out.1) (by simp)).mono ?_);rintro e w19 ⟨⟨s8,t8,rfl,hs8⟩,F8⟩;replace hs8:Refs w19 (.slice s8 1 t8) [y]:=hs8;have G8:=GA.trans F8;clear F8;(try simp only[List.length_singleton]);go_wp2_with fail)
     refine hKK.out _ _ ?_ (fun hHeld=>?_)
     ·exact(HBZ.out.fr G8 (fun h=>h)).cell
     clear hKK KK;(try simp only[Act.put,SS]);refine stN 11 (fun KK hKK=>?_);go_simp
     (go_at_call 14;(with_reducible refine(likeRows_any _ _ [y] [x] w19 hs8 (HONE.out _ G8) (fun r hr=>by rw[List.mem_singleton]at hr;rw[hr];exact HFY.out.2.2) (fun r hr=>by rw[List.mem_singleton]at hr;rw[hr];exact HFXX.out.2.2) (by simp)).mono ?_);rintro e w20 ⟨rfl,F9⟩;rw[HLK.out];have G9:=G8.trans F9;clear F9;go_wp2_with fail)
     refine hKK.out _ _ ?_ (fun hHeld=>?_)
     ·exact(HBZ.out.fr G9 (fun h=>h)).cell
     clear hKK KK;(try simp only[Act.put,SS]);refine tkN 12 rfl hHeld ?_;refine tkN 13 rfl hHeld ?_;(try simp only[Act.put,SK,SS]);refine wpAnyN_done (by kernel_rfl) ?_ _;clear hHeld;have HF9:=Hi (HFF.out.trans G9);clear G GA G8 G9 hs8 hs;go_wp2_with fail
     go_ret;exact⟨rfl,HF9.out⟩
  ·rw[hf]at hfo
   subst hfo;have HPS:=Hi hp;clear hno hn han hp hf;obtain⟨z13,hz13⟩:∃ y,y=w7.heap.size:=⟨_,rfl⟩
   have HZ13:=Hi hz13;have BZ13:=Blk.new w7 43 #[.slice none 0 0,.bool false,.slice none 0 0,.int .i64 0,.int .i64 0,.pointer none];rw[←hz13]at BZ13
   have FA7:Fz w7 (w7.alloc (.cells #[.slice none 0 0,.bool false,.slice none 0 0,.int .i64 0,.int .i64 0,.pointer none] 43)):=(Fr.refl w7).alloc _;have HBF:=Hi BZ13;have HG8:=Hi (HG7.out.trans FA7);have HBY8:=Hi (HBY7.out.fr FA7 (fun h=>h));have HS8:=Hi (HS7.out.old FA7);clear hz13 FA7 BZ13;go_upto_region 7 with fail
   rw[←HZ13.out]
   generalize (w7.alloc (.cells #[.slice none 0 0,.bool false,.slice none 0 0,.int .i64 0,.int .i64 0,.pointer none] 43))=w8 at *
   have HOF:=Hi (ixOf_any (pt x1) (.slice an s.iss.length cn) X s.iss w8 (HX4.out.old HG8.out) (HN4.out.old HG8.out) HFN.out HIX.out.1 HIX.out.2.2 (by have:=HXL.out;omega) (HE.out.old (HF4.out.trans HG8.out)));rw[nrow_all HNA.out]at HOF
   go_wp2_with fail
   refine HOF.out.mono ?_;rintro e w9 ⟨⟨s9,t9,rfl,hs9⟩,F9⟩;have HG9:=Hi (HG8.out.trans F9);have HC9:=Hi F9;have HRS:=Hi hs9;clear hs9 F9 HOF;go_wp2_with fail
   refine(ofRows_any _ (issS X s.iss) w9 HRS.out (fun r hr=>(HIX.out.2.2 r (iss_mem r hr)).1) (by have:=iss_len X s.iss;have:=HXL.out;omega)).mono ?_
   rintro e w10 ⟨⟨s10,t10,rfl,hs10⟩,F10⟩;have HAL:=Hi hs10;have HG10:=Hi (HG9.out.trans F10);have HC10:=Hi (HC9.out.trans F10);clear hs10 F10 HRS;have B10:=HBY8.out.fr HC10.out (fun h=>h);have g0:=B10.cell 0;have g1:=B10.cell 1;simp only[SG]at g0 g1
   have HPL:=Hi (ixPlaceN_any (pt x1) (.slice an s.iss.length cn) X s as5 cs5 w10 (HX4.out.old HG10.out) (HN4.out.old HG10.out) HFN.out (HS8.out.old HC10.out) HIX.out.1 (fun r hr=>(HIX.out.2.2 r hr).2.2) (by have:=HSL.out;omega) (by have:=HXL.out;omega) (HE.out.old (HF4.out.trans HG10.out)));rw[if_pos HNO.out,←HNN.out]at HPL
   go_wp2_with fail
   refine HPL.out.mono ?_;rintro e w11 ⟨rfl,F11⟩;have HG11:=Hi (HG10.out.trans F11);have HC11:=Hi F11;clear g0 g1 B10 F11 HPL;go_wp2_with fail
   refine(ixKnown_any _ (HE.out.old (HF4.out.trans HG11.out))).mono ?_
   rintro e w12 ⟨rfl,F12⟩;have HG12:=Hi (HG11.out.trans F12);have HC12:=Hi (HC11.out.trans F12);clear F12;go_wp2_with fail
   refine(r14Right_any _ s.iss w12 (HW4.out.old HG12.out) HFN.out).mono ?_
   rintro e w13 ⟨rfl,F13⟩;have HG13:=Hi (HG12.out.trans F13);have HC13:=Hi (HC12.out.trans F13);rw[HNO.out]
   clear F13;have g0:=(HB4.out.fr HG13.out (fun h=>h)).cell 0;have g1:=(HB4.out.fr HG13.out (fun h=>h)).cell 1;simp only[SG]at g0 g1
   have HPR:=Hi (r22Place_any s (.slice a1 O.length c1) (.slice aw s.iss.length cw) (.slice as0 s.num.size.length cs0) O w13 (Refs.old HR4.out HG13.out) (HW4.out.old HG13.out) (HS4.out.old HG13.out) HU.out.2 ⟨HFT.out,HNO.out,by have:=HSL.out;omega⟩ (by have:=HOL.out;omega));rw[HPF.out,HPS.out]at HPR
   go_wp2_with fail
   refine HPR.out.mono ?_;rintro e w14 ⟨rfl,F14⟩;have HG14:=Hi (HG13.out.trans F14);have HC14:=Hi (HC13.out.trans F14);clear F14 g0 g1 HPR;go_wp2_with fail
   go_loopg [19,20] O.length (fun g u i wr=>∃ (j:Nat) (a:Option Addr) (c:Nat) (gs:List RowP),g=O.length-j∧j≤O.length∧u=.slice a gs.length c∧i=.int .i64 j∧Hid (gs=(O.take j).filter (fun r=>nameSameS r.iss s.iss))∧Hid (gs.length≤j)∧Hid (GRow 7 (fun _ us x=>RRef w4 us x) (fun _=>True) 56 wr w14.heap.size (.slice a gs.length c) gs)∧Hid (Fz w14 wr))
   case atStart=>exact⟨0,none,0,[],rfl,Nat.zero_le _,rfl,rfl,Hi rfl,Hi (Nat.le_refl _),Hi (GRow.nil _ _ _ _ _ _),Hi (Fr.refl _)⟩
   case round=>
    obtain⟨j,a,c,gs,hg,hj,rfl,rfl,HGS,HGL,HRW,HF⟩:=hrel
    have HG:=Hi hg;have hob:=HOL.out;clear hg;by_cases hjl:j<O.length
    ·obtain⟨x,hx⟩:∃ x,O[j]? = some x:=⟨_,List.getElem?_eq_getElem hjl⟩
     obtain⟨b,o,cs,hbo,-,-,hR,hcell⟩:=LAt.get HR4.out hx
     subst hbo;obtain⟨xa1,xc1,xb1,xd1,rfl,hxn,-⟩:=hR.form
     have HRX:=Hi hR;have HGR:=Hi (HG14.out.trans HF.out);have v0:=HGR.out.cell (hcell 0 _ rfl) (fun h=>h);have v1:=HGR.out.cell (hcell 1 _ rfl) (fun h=>h);have v2:=HGR.out.cell (hcell 2 _ rfl) (fun h=>h);have v3:=HGR.out.cell (hcell 3 _ rfl) (fun h=>h);have v4:=HGR.out.cell (hcell 4 _ rfl) (fun h=>h);have v5:=HGR.out.cell (hcell 5 _ rfl) (fun h=>h);have v6:=HGR.out.cell (hcell 6 _ rfl) (fun h=>h);simp only[Nat.add_zero]at v0
     have p1:(0:Int)≤(j:Int):=by omega
     have p2:(j:Int)<(O.length:Int):=by omega
     have HTK:=Hi (show O.take (j+1)=O.take j++[x] by rw[List.take_add_one,hx];rfl);have HSA:=Hi (r14Same_any _ _ x.iss s.iss wr (hxn.old HGR.out) (HW4.out.old HGR.out) (fun r hr=>((HU.out.2 x (List.mem_of_getElem? hx)).1.2 r hr).1) HFN.out);have HCE:=Hi hcell;obtain⟨sm,hsm⟩:∃ sm,sm=nameSameS x.iss s.iss:=⟨_,rfl⟩
     rw[←hsm]at HSA
     have HSM:=Hi hsm;clear hx hR hcell hxn hsm;go_wp2_with fail
     refine HSA.out.mono ?_;rintro e w15 ⟨rfl,F15⟩;have HF15:=Hi F15;clear v0 v1 v2 v3 v4 v5 v6 F15 HSA;cases hq:sm with
     |false=>
      have HGS2:=Hi (show gs=(O.take (j+1)).filter (fun r=>nameSameS r.iss s.iss) from by
       rw[HTK.out,List.filter_append,HGS.out]
       simp[←HSM.out,hq])
      subst hq;go_wp2_with fail
      go_roundg (O.length-(j+1))
      case measure=>rw[HG.out];omega
      case rel=>exact⟨j+1,a,c,gs,rfl,by omega,rfl,by go_num,HGS2,Hi (by have:=HGL.out;omega),Hi (HRW.out.old HF15.out),Hi (HF.out.trans HF15.out)⟩
     |true=>
      have HGS2:=Hi (show gs++[x]=(O.take (j+1)).filter (fun r=>nameSameS r.iss s.iss) from by
       rw[HTK.out,List.filter_append,HGS.out]
       simp[←HSM.out,hq])
      subst hq
      obtain⟨a7,c7,w17,hrun,hrow7,F17,-⟩:=(HRW.out.old HF15.out).add (s:=22) Tryz.underlying22 info56 rfl (by decide) (by decide) (by have:=HF.out.size;have:=HF15.out.size;omega) ((Fr.refl w15).alloc (.cells [.slice xa1 x.iss.length xc1,.bool x.num.below,.slice xb1 x.num.size.length xd1,.int .i64 x.date,.int .i64 x.reason,.bool x.inv.isSome,.int .i64 (x.inv.getD 0)].toArray 56)) w15.heap.size [.slice xa1 x.iss.length xc1,.bool x.num.below,.slice xb1 x.num.size.length xd1,.int .i64 x.date,.int .i64 x.reason,.bool x.inv.isSome,.int .i64 (x.inv.getD 0)] rfl (Blk.new w15 56 [.slice xa1 x.iss.length xc1,.bool x.num.below,.slice xb1 x.num.size.length xd1,.int .i64 x.date,.int .i64 x.reason,.bool x.inv.isSome,.int .i64 (x.inv.getD 0)].toArray) (by simp[Value.oneCell']) x (fun _ _=>HRX.out) (by have:=HGL.out;omega)
      have HRUN:=Hi hrun;have HKP:=Hi HRW.out.keep;have HRW7:=Hi hrow7;have HF17:=Hi ((HF.out.trans HF15.out).trans' F17 (fun i hi e=>absurd hi (by have:=(HKP.out i e).1;omega)));have HLL:Hid ((gs++[x]).length=gs.length+1):=Hi (by rw[List.length_append];rfl);have HG15:=Hi (HGR.out.trans HF15.out);have v0:=HG15.out.cell (HCE.out 0 _ rfl) (fun h=>h);have v1:=HG15.out.cell (HCE.out 1 _ rfl) (fun h=>h);have v2:=HG15.out.cell (HCE.out 2 _ rfl) (fun h=>h);have v3:=HG15.out.cell (HCE.out 3 _ rfl) (fun h=>h);have v4:=HG15.out.cell (HCE.out 4 _ rfl) (fun h=>h)
      have v5:=HG15.out.cell (HCE.out 5 _ rfl) (fun h=>h);have v6:=HG15.out.cell (HCE.out 6 _ rfl) (fun h=>h);simp only[Nat.add_zero]at v0
      clear hrun hrow7 F17;go_wp2_with ((at_builtin;refine wpList_append_run (by rfl) (.tmp 100) (.tmp 105) 22 (by rfl) _ w17 (by exact HRUN.out) ?_))
      go_roundg (O.length-(j+1))
      case measure=>rw[HG.out];omega
      case rel=>exact⟨j+1,a7,c7,gs++[x],rfl,by omega,by rw[HLL.out],by go_num,HGS2,Hi (by rw[HLL.out];have:=HGL.out;omega),Hi (by rw[HLL.out];exact HRW7.out),HF17⟩
    ·have p2:¬(j:Int)<(O.length:Int):=by omega
     have HGE:=Hi (show gs=issS O s.iss from by rw[HGS.out,List.take_of_length_le (by omega)];exact want_iss HU.out.2 HNO.out);have HGR:=Hi (HG14.out.trans HF.out);have HWT:=Hi (show Refs wr (.slice a gs.length c) gs from (HRW.out.at (by decide)).move (Fr.refl wr) (fun _ _ h=>RRef.old _ _ _ _ h HGR.out))
     have HLR:=Hi (likeRows_any (.slice s10 (issS X s.iss).length t10) (.slice a gs.length c) (issS X s.iss) gs wr (Refs.old HAL.out (HC14.out.trans HF.out)) HWT.out (fun r hr=>(HIX.out.2.2 r (iss_mem r hr)).2.2) (fun r hr=>(HU.out.2 r (by rw[HGE.out]at hr;exact iss_mem r hr)).2.2) (by have:=iss_len X s.iss;have:=HXL.out;omega));rw[show likeRows (issS X s.iss) gs=true from by rw[HGE.out,HX.out,iss_map];exact likeRows_n _]at HLR
     have q3:((n:Int)==(n:Int))=true:=by simp
     have q4:((n:Int) != (n:Int))=false:=by simp
     go_wp2_with fail
     refine HLR.out.mono ?_;rintro e w18 ⟨rfl,F18⟩;have HG18:=Hi (HGR.out.trans F18);have HD18:=Hi (HC10.out.trans (HC14.out.trans (HF.out.trans F18)));clear F18 HLR;have HFQ:=Hi (fun k=>(HF4.out.trans HG18.out).drewN (S:=fun _=>False) k);go_upto_region 22 with fail
     go_quiet (fail)
     go_wp2_with fail
     go_ret;exact⟨rfl,HFQ.out _⟩
end Go.Proofs.YtehlipgmkinfbaaGreatDoor
