/-
  Merged by program: XIxMgW.
-/
import Derived.Test.YtehlipgmkinfbaaGreatDoorM0bb
set_option linter.unusedSimpArgs false
set_option maxRecDepth 100000
set_option maxHeartbeats 8000000
namespace Go.Proofs.YtehlipgmkinfbaaGreatDoor
open Go Go.RowKit Go.Q
theorem mgWalk_any (va vb:Value)(A B:List RowI)(w:World)(ha:RefsI w va A)(hb:RefsI w vb B)(hE:Env w) :
  Calls Tryz.prog 4 #[va,vb] w fun e w'=>e=.returned (.bool true)∧Fz w w':=by
 have hfa:∀ (l:List RowI),∀ r∈toRows l,fitN r.iss∧r.num.size.length≤1000000:=fun l r hr=>by
  obtain⟨x,-,rfl⟩:=List.mem_map.1 hr
  exact⟨toRow_fit x,toRow_size x⟩
 have l1:=least_ix (toRows A) (hfa A);have l2:=least_ix (toRows B) (hfa B);obtain⟨O1,hO1⟩:∃ O,O=(leastL (toRows A) [] []).2:=⟨_,rfl⟩
 obtain⟨O2,hO2⟩:∃ O,O=(leastL (toRows B) [] []).2:=⟨_,rfl⟩
 rw[←hO1]at l1
 rw[←hO2]at l2
 have HL1:=Hi (leastIx_any va A w O1 hO1 ha hE);have HL2:=Hi (fun W (F:Fz w W)=>leastIx_any vb B W O2 hO2 (RefsI.old hb F) (hE.old F));obtain⟨X,hX⟩:∃ X,X=O1.map nrow:=⟨_,rfl⟩
 obtain⟨Y,hY⟩:∃ Y,Y=O2.map nrow:=⟨_,rfl⟩
 have hix:Ixed X:=by rw[hX];exact l1.2.2.2.1
 have hiy:Ixed Y:=by rw[hY];exact l2.2.2.2.1
 have hl1:O1.length≤8:=by have:=l1.2.2.2.2.1;have:=toRows_len A;omega
 have hl2:O2.length≤8:=by have:=l2.2.2.2.2.1;have:=toRows_len B;omega
 have hlx:X.length≤8:=by rw[hX,List.length_map];exact hl1
 have hly:Y.length≤8:=by rw[hY,List.length_map];exact hl2
 have HU1:=Hi (And.intro l1.2.1 (fun r hr=>(l1.2.2.1 r hr).1));have HU2:=Hi (And.intro l2.2.1 (fun r hr=>(l2.2.2.1 r hr).1));obtain⟨Z,hZ⟩:∃ Z,Z=mergeS X Y:=⟨_,rfl⟩
 obtain⟨V,hV⟩:∃ V,V=deltaS X Y:=⟨_,rfl⟩
 obtain⟨RZ,hRZ⟩:∃ Z,Z=mergeS O1 O2:=⟨_,rfl⟩
 obtain⟨RV,hRV⟩:∃ V,V=deltaS O1 O2:=⟨_,rfl⟩
 have HIZ:=Hi (show Ixed Z from by rw[hZ];exact ixed_merge hix hiy);have HIV:=Hi (show Ixed V from by rw[hV];exact ixed_delta hix hiy);have HZR:=Hi (show Z=RZ.map nrow from by rw[hZ,hRZ,hX,hY];exact merge_map O1 O2);have HVR:=Hi (show V=RV.map nrow from by rw[hV,hRV,hX,hY];exact delta_map O1 O2);have HZL:=Hi (show Z.length≤16 from by rw[hZ];have:=merge_len X Y;omega);have HVL:=Hi (show V.length≤16 from by rw[hV];have:=delta_len X Y;omega);have HXY:=Hi (show sameS X Y=refSame O1 O2 from by rw[hX,hY,same_map,same_law O1 O2 l1.2.1 l2.2.1]);have HXX:=Hi (same_self hix.1);have HZE:=Hi hZ
 have HVE:=Hi hV;have HRZ:=Hi hRZ;have HRV:=Hi hRV;have HIX:=Hi hix;have HIY:=Hi hiy;have HLX:=Hi hlx;have HLY:=Hi hly;have HL8:=Hi (And.intro hl1 hl2);have HXE:=Hi hX;have HYE:=Hi hY;have HE:=Hi hE;clear hfa l1 l2 hO1 hO2 hX hY hix hiy hl1 hl2 hlx hly hZ hV hRZ hRV ha hb hE;go_enter Tryz.func4,Tryz.ntmps4
 go_wp2_with fail
 refine HL1.out.mono ?_;rintro e w1 ⟨⟨x1,a1,c1,rfl,hx1,hr1⟩,F1⟩;rw[←HXE.out]at hx1
 have HX1:=Hi hx1;have HR1:=Hi hr1;have HF1:=Hi F1;clear hx1 hr1 F1 HL1;go_wp2_with fail
 refine(HL2.out w1 HF1.out).mono ?_
 rintro e w2 ⟨⟨x2,a2,c2,rfl,hx2,hr2⟩,F2⟩;rw[←HYE.out]at hx2
 have HX2:=Hi hx2;have HX12:=Hi (HX1.out.old F2);have HR2:=Hi hr2;have HR12:=Hi (Refs.old HR1.out F2);have HF2:=Hi (HF1.out.trans F2);clear hx2 hr2 F2 HL2;go_wp2_with fail
 refine(ixMerge_any _ _ X Y w2 HX12.out HX2.out HIX.out.2.2 HIY.out.2.2 (by have:=HLX.out;have:=HLY.out;omega)).mono ?_
 rintro e w3 ⟨⟨z1,rfl,hz⟩,F3⟩;rw[←HZE.out,nrow_all HIZ.out.2.1]at hz
 have HZ3:=Hi hz;have HB3:=Hi F3;clear hz F3;go_wp2_with fail
 refine(ixDelta_any _ _ X Y w3 (HX12.out.old HB3.out) (HX2.out.old HB3.out) HIX.out.2.2 HIY.out.2.2 (by have:=HLX.out;have:=HLY.out;omega)).mono ?_
 rintro e w4 ⟨⟨d1,rfl,hz⟩,F4⟩;rw[←HVE.out,nrow_all HIV.out.2.1]at hz
 have HV4:=Hi hz;have HZ4:=Hi (HZ3.out.old F4);have HX4:=Hi (HX12.out.old (HB3.out.trans F4));have HY4:=Hi (HX2.out.old (HB3.out.trans F4));have HP4:=Hi (Refs.old HR12.out (HB3.out.trans F4));have HQ4:=Hi (Refs.old HR2.out (HB3.out.trans F4));have HF4:=Hi (HF2.out.trans (HB3.out.trans F4));clear hz F4 HZ3 HB3 HX12 HX2 HR12 HR2 HX1 HR1 HF1 HF2;go_wp2_with fail
 refine(ixKnown_any _ (HE.out.old HF4.out)).mono ?_
 rintro e w5 ⟨rfl,F5⟩;have HB5:=Hi F5;clear F5;go_wp2_with fail
 refine(ixAll_any _ Z w5 (HZ4.out.old HB5.out) HIZ.out.2.2 (by have:=HZL.out;omega)).mono ?_
 rintro e w6 ⟨⟨s6,t6,rfl,hs⟩,F6⟩;rw[nrow_all HIZ.out.2.1]at hs
 have HS6:=Hi hs;clear hs;have HB6:=Hi (HB5.out.trans F6);clear F6;go_wp2_with fail
 refine(ofRows_any _ Z w6 HS6.out (fun r hr=>(HIZ.out.2.2 r hr).1) (by have:=HZL.out;omega)).mono ?_
 rintro e w7 ⟨⟨s7,t7,rfl,hs⟩,F7⟩;have HS7:=Hi hs;clear hs HS6;have HB7:=Hi (HB6.out.trans F7);clear F7;go_wp2_with fail
 refine(r22Merge_any _ _ O1 O2 w7 (Refs.old HP4.out HB7.out) (Refs.old HQ4.out HB7.out) HU1.out.2 HU2.out.2 (by have:=HL8.out;omega) HU1.out.1 HU2.out.1).mono ?_
 rintro e w8 ⟨⟨s8,t8,rfl,hs⟩,F8⟩;rw[←HRZ.out]at hs ⊢
 have HS8:=Hi hs;have HT8:=Hi (Refs.old HS7.out F8);clear hs HS7;have HB8:=Hi (HB7.out.trans F8);clear F8;go_wp2_with fail
 have HFZ:=Hi (show ∀ r∈RZ,fitR r from by rw[HRZ.out];exact merge_fit HU1.out HU2.out);refine(likeRows_any _ _ Z RZ w8 HT8.out HS8.out (fun r hr=>(HIZ.out.2.2 r hr).2.2) (fun r hr=>(HFZ.out r hr).2.2) (by have:=HZL.out;omega)).mono ?_
 rintro e w9 ⟨rfl,F9⟩;rw[show likeRows Z RZ=true from by rw[HZR.out];exact likeRows_n RZ]
 clear HS8 HT8;have HB9:=Hi (HB8.out.trans F9);clear F9;go_wp2_with fail
 refine(ixAll_any _ V w9 (HV4.out.old HB9.out) HIV.out.2.2 (by have:=HVL.out;omega)).mono ?_
 rintro e w10 ⟨⟨s10,t10,rfl,hs⟩,F10⟩;rw[nrow_all HIV.out.2.1]at hs
 have HS10:=Hi hs;clear hs;have HB10:=Hi (HB9.out.trans F10);clear F10;go_wp2_with fail
 refine(ofRows_any _ V w10 HS10.out (fun r hr=>(HIV.out.2.2 r hr).1) (by have:=HVL.out;omega)).mono ?_
 rintro e w11 ⟨⟨s11,t11,rfl,hs⟩,F11⟩;have HS11:=Hi hs;clear hs HS10;have HB11:=Hi (HB10.out.trans F11);clear F11;go_wp2_with fail
 refine(r22Delta_any _ _ O1 O2 w11 (Refs.old HP4.out HB11.out) (Refs.old HQ4.out HB11.out) HU1.out.2 HU2.out.2 (by have:=HL8.out;omega) HU1.out.1 HU2.out.1).mono ?_
 rintro e w12 ⟨⟨s12,t12,rfl,hs⟩,F12⟩;rw[←HRV.out]at hs ⊢
 have HS12:=Hi hs;have HT12:=Hi (Refs.old HS11.out F12);clear hs HS11;have HB12:=Hi (HB11.out.trans F12);clear F12;go_wp2_with fail
 have HFV:=Hi (show ∀ r∈RV,fitR r from by rw[HRV.out];exact delta_fit HU1.out HU2.out);refine(likeRows_any _ _ V RV w12 HT12.out HS12.out (fun r hr=>(HIV.out.2.2 r hr).2.2) (fun r hr=>(HFV.out r hr).2.2) (by have:=HVL.out;omega)).mono ?_
 rintro e w13 ⟨rfl,F13⟩;rw[show likeRows V RV=true from by rw[HVR.out];exact likeRows_n RV]
 clear HS12 HT12;have HB13:=Hi (HB12.out.trans F13);clear F13;go_wp2_with fail
 obtain⟨sb,hsb⟩:∃ sb,sb=sameS X Y:=⟨_,rfl⟩
 have HSB:=Hi hsb;have HRB:=Hi (show refSame O1 O2=sb from by rw[hsb,HXY.out]);have hbb:(sb==sb)=true:=by simp
 clear hsb;refine(ixSame_any _ _ X Y w13 (HX4.out.old HB13.out) (HY4.out.old HB13.out) (fun r hr=>(HIX.out.2.2 r hr).2.2) (fun r hr=>(HIY.out.2.2 r hr).2.2)).mono ?_
 rintro e w14 ⟨rfl,F14⟩;rw[←HSB.out]
 have HB14:=Hi (HB13.out.trans F14);clear F14;go_wp2_with fail
 refine(r22Same_any _ _ O1 O2 w14 (Refs.old HP4.out HB14.out) (Refs.old HQ4.out HB14.out) HU1.out.2 HU2.out.2 (by have:=HL8.out;omega)).mono ?_
 rintro e w15 ⟨rfl,F15⟩;rw[HRB.out]
 have HB15:=Hi (HB14.out.trans F15);clear F15;go_wp2_with fail
 refine(ixSame_any _ _ X X w15 (HX4.out.old HB15.out) (HX4.out.old HB15.out) (fun r hr=>(HIX.out.2.2 r hr).2.2) (fun r hr=>(HIX.out.2.2 r hr).2.2)).mono ?_
 rintro e w16 ⟨rfl,F16⟩;rw[HXX.out]
 have HB16:=Hi (HB15.out.trans F16);clear F16;go_wp2_with fail
 refine(ixAll_any _ X w16 (HX4.out.old HB16.out) HIX.out.2.2 (by have:=HLX.out;omega)).mono ?_
 rintro e w17 ⟨⟨s17,t17,rfl,hs⟩,F17⟩;rw[nrow_all HIX.out.2.1]at hs
 have HS17:=Hi hs;clear hs;have HB17:=Hi (HB16.out.trans F17);clear F17;go_wp2_with fail
 refine(ofRows_any _ X w17 HS17.out (fun r hr=>(HIX.out.2.2 r hr).1) (by have:=HLX.out;omega)).mono ?_
 rintro e w18 ⟨⟨s18,t18,rfl,hs⟩,F18⟩;have HS18:=Hi hs;clear hs HS17;have HB18:=Hi (HB17.out.trans F18);clear F18;go_wp2_with fail
 refine(likeRows_any _ _ X O1 w18 HS18.out (Refs.old HP4.out HB18.out) (fun r hr=>(HIX.out.2.2 r hr).2.2) (fun r hr=>(HU1.out.2 r hr).2.2) (by have:=HLX.out;omega)).mono ?_
 rintro e w19 ⟨rfl,F19⟩;rw[show likeRows X O1=true from by rw[HXE.out];exact likeRows_n O1]
 clear HS18;have HB19:=Hi (HB18.out.trans F19);clear F19;go_wp2_with fail
 refine(ixAll_any _ Y w19 (HY4.out.old HB19.out) HIY.out.2.2 (by have:=HLY.out;omega)).mono ?_
 rintro e w20 ⟨⟨s20,t20,rfl,hs⟩,F20⟩;rw[nrow_all HIY.out.2.1]at hs
 have HS20:=Hi hs;clear hs;have HB20:=Hi (HB19.out.trans F20);clear F20;go_wp2_with fail
 refine(ofRows_any _ Y w20 HS20.out (fun r hr=>(HIY.out.2.2 r hr).1) (by have:=HLY.out;omega)).mono ?_
 rintro e w21 ⟨⟨s21,t21,rfl,hs⟩,F21⟩;have HS21:=Hi hs;clear hs HS20;have HB21:=Hi (HB20.out.trans F21);clear F21;go_wp2_with fail
 refine(likeRows_any _ _ Y O2 w21 HS21.out (Refs.old HQ4.out HB21.out) (fun r hr=>(HIY.out.2.2 r hr).2.2) (fun r hr=>(HU2.out.2 r hr).2.2) (by have:=HLY.out;omega)).mono ?_
 rintro e w22 ⟨rfl,F22⟩;rw[show likeRows Y O2=true from by rw[HYE.out];exact likeRows_n O2]
 clear HS21;have HB22:=Hi (HB21.out.trans F22);clear F22;go_wp2_with fail
 go_ret;exact⟨rfl,HF4.out.trans HB22.out⟩
end Go.Proofs.YtehlipgmkinfbaaGreatDoor
