/-
  Merged by program: XIxMkW.
-/
import Derived.Test.YtehlipgmkinfbaaGreatDoorN0ay
set_option linter.unusedSimpArgs false
set_option maxRecDepth 100000
set_option maxHeartbeats 8000000
namespace Go.Q
open Go Go.RowKit
def codeOf (l:List RowP):Int:=match newRef l with
 |.ok _=>0
 |.error k=>k
def rowsOf (l:List RowP):List RowP:=match newRef l with
 |.ok o=>o
 |.error _=>[]
theorem rowsOf_spec {l:List RowP}(hf:∀ r∈l,fitN r.iss∧r.num.size.length≤1000000):(∀ r∈rowsOf l,fitR r)∧Ixed ((rowsOf l).map nrow)∧(rowsOf l).length≤l.length:=by
 unfold rowsOf newRef;by_cases hok:okRows l=true
 ·rw[if_pos hok]
  cases hn:newR [] l with
  |none=>exact⟨fun r hr=>absurd hr List.not_mem_nil,ixed_nil,Nat.zero_le _⟩
  |some o=>
   have hu:=new_some ordK (List.Pairwise.nil) hn;have hm:∀ r∈o,fitR r:=fun r hr=>by
    rcases (hu.2 r).1 hr with h|h
    ·cases h
    ·refine⟨(hf r h).1,?_,(hf r h).2⟩
     unfold okRows at hok;rw[List.all_eq_true]at hok
     exact hok r h
   have hl:=new_len hn;refine⟨hm,⟨up_map hu.1,fun r hr=>?_,fun r hr=>?_⟩,by simp only[List.length_nil,Nat.zero_add]at hl;exact Nat.le_of_eq hl⟩
   ·obtain⟨x,-,rfl⟩:=List.mem_map.1 hr
    exact nrow_nrow x
   ·obtain⟨x,hx,rfl⟩:=List.mem_map.1 hr
    exact fitR_nrow (hm x hx)
 ·rw[if_neg hok]
  exact⟨fun r hr=>absurd hr List.not_mem_nil,ixed_nil,Nat.zero_le _⟩
theorem LAt.none {α:Type}(sz:Nat)(R:World→List Value→α→Prop)(w:World):LAt sz R w (.slice none 0 0) ([]:List α):=⟨Option.none,0,rfl,Nat.le_refl _,by unfold maxLen;omega,fun h=>absurd h (Nat.lt_irrefl 0)⟩
end Go.Q
namespace Go.Proofs.YtehlipgmkinfbaaGreatDoor
open Go Go.RowKit Go.Q
theorem newOut_of {l:List RowP}{e:Ending}{w':World}(h:NewOut l e w'):∃ p,e=.returned (.tuple #[.pointer p,.int .i64 (codeOf l)])∧IxAt w' (.pointer p) ((rowsOf l).map nrow):=by
 unfold NewOut at h;rw[newIx_ref]at h
 unfold codeOf rowsOf;cases hn:newRef l with
 |ok o=>
  rw[hn]at h
  obtain⟨b,he,hi⟩:=h
  exact⟨_,he,hi⟩
 |error k=>
  rw[hn]at h
  exact⟨Option.none,h,.inl ⟨rfl,rfl⟩⟩
theorem refNew_of {w:World}{Q:List Value→RowP→Prop}{l:List RowP}{e:Ending}{w':World}(h:RefNew w Q l e w'):∃ a c,e=.returned (.tuple #[.slice a (rowsOf l).length c,.int .i64 (codeOf l)])∧LAt 7 (fun _ us x=>Q us x) w' (.slice a (rowsOf l).length c) (rowsOf l):=by
 unfold RefNew at h;unfold codeOf rowsOf;cases hn:newRef l with
 |ok o=>
  rw[hn]at h
  obtain⟨a,c,he,hi⟩:=h
  exact⟨a,c,he,hi.at (by decide)⟩
 |error k=>
  rw[hn]at h
  exact⟨Option.none,0,h,LAt.none _ _ _⟩
theorem refsSlice_mid (b o m cap:Nat)(hm:m≤cap)(i:Nat)(hi:i<m)(w:World) :
  (Instr.slice 22 (.slice (some ⟨b,o,none⟩) m cap) (some (.int .i64 (i:Int))) (some (.int .i64 ((i:Int)+1))) none).run Tryz.prog w=.ok (.slice (some ⟨b,o+i*7,none⟩) 1 (cap-i)) w:=by
 obtain⟨i0,hi0,-,hz1,-⟩:=info_parts info56
 have h1:(0:Int)≤(i:Int):=by omega
 have h2:(i:Int)≤(i:Int)+1:=by omega
 have h3:(i:Int)+1≤(cap:Int):=by omega
 have h4:(i:Int)≤(cap:Int):=by omega
 have h5:(0:Int)≤(i:Int)+1:=by omega
 have h6:((i:Int)+1).toNat=i+1:=by omega
 have hc:¬cap-i=0:=by omega
 simp[go_sem,h1,h2,h3,h4,h5,h6,hc,Tryz.underlying22,sizeOf,typeInfo,hi0,hz1,Addr.add]
 rw[if_neg (show ¬cap=i by omega)]
 by_cases h0:i=0
 ·subst h0;simp
 ·rw[if_neg (show ¬i*7=0 by omega)]
theorem mkWalk_any (v:Value)(l:List RowI)(i:Int)(w:World)(h:RefsI w v l)(hE:Env w) :
  Calls Tryz.prog 3 #[v,.int .i64 i] w fun e w'=>e=.returned (.bool true)∧Fz w w':=by
 obtain⟨L,hL⟩:∃ L,L=toRows l:=⟨_,rfl⟩
 have HTR:=Hi (toRows_any v l w h);rw[←hL]at HTR
 have hlen:L.length≤8:=by rw[hL];exact toRows_len l
 have hfw:∀ r∈L,fitN r.iss∧r.num.size.length≤1000000:=fun r hr=>by
  rw[hL]at hr
  obtain⟨x,-,rfl⟩:=List.mem_map.1 hr
  exact⟨toRow_fit x,toRow_size x⟩
 have HFW:=Hi hfw;obtain⟨O,hO⟩:∃ O,O=rowsOf L:=⟨_,rfl⟩
 obtain⟨cc,hcc⟩:∃ c,c=codeOf L:=⟨_,rfl⟩
 have hsp:=rowsOf_spec hfw;rw[←hO]at hsp
 obtain⟨X,hX⟩:∃ X,X=O.map nrow:=⟨_,rfl⟩
 rw[←hX]at hsp
 have hol:O.length≤8:=by have:=hsp.2.2;omega
 have HFO:=Hi hsp.1;have HIX:=Hi hsp.2.1;have HXL:=Hi (show X.length=O.length from by rw[hX,List.length_map]);have HOL:=Hi hol;have HO:=Hi hO;have HC:=Hi hcc;have HX:=Hi hX;have HE:=Hi hE;have HLEN:=Hi hlen;obtain⟨a0,c0,rfl,-⟩:=h
 have q1:(cc==cc)=true:=by simp
 have q2:(cc != cc)=false:=by simp
 clear hE hL hlen hfw hO hcc hsp hX hol;go_enter Tryz.func3,Tryz.ntmps3
 go_wp2_with fail
 refine HTR.out.mono ?_;rintro e w1 ⟨⟨am,cm,rfl,hm⟩,F1⟩;have HM:=Hi hm;have HF1:=Hi F1;clear hm F1 HTR;go_wp2_with fail
 refine(ofRows_any _ L w1 HM.out (fun r hr=>(HFW.out r hr).1) (by have:=HLEN.out;omega)).mono ?_
 rintro e w2 ⟨⟨s2,t2,rfl,hs⟩,F2⟩;have HW2:=Hi hs;have HM2:=Hi (Go.Q.Rows.old HM.out F2);have HF2:=Hi (HF1.out.trans F2);clear hs F2;go_wp2_with fail
 refine(ixNew_any _ L w2 HM2.out HFW.out (by have:=HLEN.out;omega) (HE.out.old HF2.out)).mono ?_
 rintro e w3 ⟨ho,F3⟩;obtain⟨p,rfl,hix⟩:=newOut_of ho
 rw[←HO.out,←HX.out]at hix
 rw[←HC.out]
 have HI3:=Hi hix;have HW3:=Hi (Refs.old HW2.out F3);have HM3:=Hi (Go.Q.Rows.old HM2.out F3);have HF3:=Hi (HF2.out.trans F3);clear ho hix F3;go_wp2_with fail
 refine(r22New_any (fun us x=>RRef w3 us x) _ L w3 (fun _ _ h=>h) (HW3.out.move (Fr.refl w3) (fun _ _ h=>h)) HFW.out (by have:=HLEN.out;omega)).mono ?_
 rintro e w4 ⟨ho,F4⟩;obtain⟨a4,c4,rfl,hr4⟩:=refNew_of ho
 rw[←HO.out]at hr4 ⊢
 rw[←HC.out]
 have HR4:=Hi (show Refs w4 (.slice a4 O.length c4) O from hr4.move (Fr.refl w4) (fun _ _ h=>RRef.old _ _ _ _ h F4));have HI4:=Hi (HI3.out.old F4);have HW4:=Hi (Refs.old HW3.out F4);have HM4:=Hi (Go.Q.Rows.old HM3.out F4);have HF4:=Hi (HF3.out.trans F4);clear ho hr4 F4 HM HM2 HM3 HW2 HW3 HI3;go_wp2_with fail
 refine(ixKnown_any _ (HE.out.old HF4.out)).mono ?_
 rintro e w5 ⟨rfl,F5⟩;have HB5:=Hi F5;clear F5;go_wp2_with fail
 refine(ixLen_any _ X w5 (HI4.out.old HB5.out)).mono ?_
 rintro e w6 ⟨rfl,F6⟩;rw[HXL.out]
 have HB6:=Hi (HB5.out.trans F6);have q3:((O.length:Int)==(O.length:Int))=true:=by simp
 have q4:((O.length:Int) != (O.length:Int))=false:=by simp
 clear F6;go_wp2_with fail
 refine(ixAll_any _ X w6 (HI4.out.old HB6.out) HIX.out.2.2 (by have:=HXL.out;have:=HOL.out;omega)).mono ?_
 rintro e w7 ⟨⟨s7,t7,rfl,hs⟩,F7⟩;rw[nrow_all HIX.out.2.1]at hs
 have HS7:=Hi hs;have HB7:=Hi (HB6.out.trans F7);clear hs F7;go_wp2_with fail
 refine(ofRows_any _ X w7 HS7.out (fun r hr=>(HIX.out.2.2 r hr).1) (by have:=HXL.out;have:=HOL.out;omega)).mono ?_
 rintro e w8 ⟨⟨s8,t8,rfl,hs⟩,F8⟩;have HS8:=Hi hs;have HB8:=Hi (HB7.out.trans F8);clear hs F8 HS7;go_wp2_with fail
 refine(likeRows_any _ _ X O w8 HS8.out (Refs.old HR4.out HB8.out) (fun r hr=>(HIX.out.2.2 r hr).2.2) (fun r hr=>(HFO.out r hr).2.2) (by have:=HXL.out;have:=HOL.out;omega)).mono ?_
 rintro e w9 ⟨rfl,F9⟩;rw[show likeRows X O=true from by rw[HX.out];exact likeRows_n O]
 have HB9:=Hi (HB8.out.trans F9);clear F9 HS8;go_wp2_with fail
 refine(ofRows_any _ L w9 (Go.Q.Rows.old HM4.out HB9.out) (fun r hr=>(HFW.out r hr).1) (by have:=HLEN.out;omega)).mono ?_
 rintro e w10 ⟨⟨s10,t10,rfl,hs⟩,F10⟩;have HS10:=Hi hs;have HB10:=Hi (HB9.out.trans F10);clear hs F10;go_wp2_with fail
 refine(likeRows_any _ _ L L w10 HS10.out (Refs.old HW4.out HB10.out) (fun r hr=>(HFW.out r hr).2) (fun r hr=>(HFW.out r hr).2) (by have:=HLEN.out;omega)).mono ?_
 rintro e w11 ⟨rfl,F11⟩;rw[likeRows_self L]
 have HB11:=Hi (HB10.out.trans F11);clear F11 HS10;go_wp2_with fail
 go_loopg [11] O.length (fun g u wr=>∃ k:Nat,g=O.length-k∧k≤O.length∧u=.int .i64 k∧Hid (Fz w4 wr))
 case atStart=>exact⟨0,rfl,Nat.zero_le _,rfl,HB11⟩
 case round=>
  obtain⟨k,hg,hk,rfl,HB⟩:=hrel
  have HG:=Hi hg;clear hg;by_cases hkl:k<O.length
  ·obtain⟨r,hr⟩:∃ r,O[k]? = some r:=⟨_,List.getElem?_eq_getElem hkl⟩
   obtain⟨y,hy⟩:∃ y,y=nrow r:=⟨_,rfl⟩
   have hyx:X[k]? = some y:=by rw[HX.out,List.getElem?_map,hr,hy];rfl
   have hny:nrow y=y:=HIX.out.2.1 y (List.mem_of_getElem? hyx);have hmy:madeS y.num=y.num:=congrArg RowP.num hny;have HLK:=Hi (show likeRows [y] [r]=true from by rw[hy];exact likeRows_n [r]);have HFY:=Hi (show fitN y.iss∧nameOk y.iss=true∧y.num.size.length≤1000000 from HIX.out.2.2 y (List.mem_of_getElem? hyx));have HFR:=Hi (show fitN r.iss∧nameOk r.iss=true∧r.num.size.length≤1000000 from HFO.out r (List.mem_of_getElem? hr));have hat:=ixAt_in (.pointer p) X k y wr (HI4.out.old HB.out) hyx HFY.out;rw[hmy,hny]at hat
   have HAT:=Hi hat;obtain⟨b,o,us,rfl,-,-,-,-⟩:=LAt.get HR4.out hr
   have hcm:O.length≤c4:=by
    obtain⟨_,_,he,g1,-,-⟩:=HR4.out
    simp only[Value.slice.injEq]at he
    obtain⟨-,-,rfl⟩:=he
    exact g1
   have HONE2:=Hi (LAt.one HR4.out hr);have hs:=fun w=>refsSlice_mid b o O.length c4 hcm k hkl w
   have p6:(0:Int)≤(k:Int):=by omega
   have p7:(k:Int)<(O.length:Int):=by omega
   have hw1:IntKind.i64.wrap ((k:Int)+1)=(k:Int)+1:=by have:=HOL.out;simp[IntKind.wrap,IntKind.signed,IntKind.bits];omega
   have hw2:wrap64 ((k:Int)+1)=(k:Int)+1:=by have:=HOL.out;unfold wrap64;omega
   clear hr hy hyx hny hmy hat hcm;go_wp2_with fail
   refine HAT.out.mono ?_;rintro e w6 ⟨⟨a2,c2,b2,d2,q2,rfl,hry⟩,F6⟩;obtain⟨z,hz⟩:∃ z,z=w6.heap.size:=⟨_,rfl⟩
   have BZ:=Blk.new w6 43 #[.slice a2 y.iss.length c2,.bool y.num.below,.slice b2 y.num.size.length d2,.int .i64 y.date,.int .i64 y.reason,.pointer q2];rw[←hz]at BZ
   have HZ:=Hi hz;have HBZ:=Hi BZ;have FA:Fz w6 (w6.alloc (.cells #[.slice a2 y.iss.length c2,.bool y.num.below,.slice b2 y.num.size.length d2,.int .i64 y.date,.int .i64 y.reason,.pointer q2] 43)):=(Fr.refl w6).alloc _;have HRY:=Hi (fun W (F:Fz (w6.alloc (.cells #[.slice a2 y.iss.length c2,.bool y.num.below,.slice b2 y.num.size.length d2,.int .i64 y.date,.int .i64 y.reason,.pointer q2] 43)) W)=>RRow.old _ _ _ _ (RRow.old _ _ _ _ hry FA) F);have HFA:=Hi (HB.out.trans (F6.trans FA));clear hz BZ hry F6 FA HAT;go_upto_region 11 with fail
   rw[←HZ.out]
   generalize (w6.alloc (.cells #[.slice a2 y.iss.length c2,.bool y.num.below,.slice b2 y.num.size.length d2,.int .i64 y.date,.int .i64 y.reason,.pointer q2] 43))=w7 at *
   have HONE:=Hi (fun W (F:Fz w7 W)=>Refs.old HONE2.out (HFA.out.trans F));have G:Fz w7 w7.drew:=(Fr.refl w7).drew;refine wp_region_N 14 (S:=fun w'=>∀ j,w'.cell? ⟨z,j,none⟩=(#[.slice a2 y.iss.length c2,.bool y.num.below,.slice b2 y.num.size.length d2,.int .i64 y.date,.int .i64 y.reason,.pointer q2]:Array Value)[j]?) (by kernel_rfl) ?_ (fun hHeld=>?_)
   ·exact(HBZ.out.fr G (fun h=>h)).cell
   generalize w7.drew=wd at *
   refine tkN 0 rfl hHeld ?_;refine tkN 1 rfl hHeld ?_;refine tkN 2 rfl hHeld ?_;(try simp only[Act.put,SS]);refine tkG 3 rfl hHeld ?_;refine tkG 6 rfl hHeld ?_;refine tkG 7 rfl hHeld ?_;(try simp only[Act.put,SK,SS]);refine tkG 8 rfl hHeld ?_;refine tkG 9 rfl hHeld ?_;refine tkG 10 rfl hHeld ?_;(try simp only[Act.put,SK,SS]);refine stN 4 (fun KK hKK=>?_);go_simp
   skip
   refine hKK.out _ _ ?_ (fun hHeld=>?_)
   ·exact(HBZ.out.fr (G.alloc (.cells #[.slice a2 y.iss.length c2,.bool y.num.below,.slice b2 y.num.size.length d2,.int .i64 y.date,.int .i64 y.reason,.pointer q2] 43)) (fun h=>h)).cell
   clear hKK KK;(try simp only[Act.put,SS]);have GA:=G.alloc (.cells #[.slice a2 y.iss.length c2,.bool y.num.below,.slice b2 y.num.size.length d2,.int .i64 y.date,.int .i64 y.reason,.pointer q2] 43);have BN:=Blk.new wd 43 [.slice a2 y.iss.length c2,.bool y.num.below,.slice b2 y.num.size.length d2,.int .i64 y.date,.int .i64 y.reason,.pointer q2].toArray;have HRO:=Hi (rows_one BN rfl (HRY.out _ GA));clear BN;refine stN 5 (fun KK hKK=>?_);go_simp
   (go_at_call 9;(with_reducible refine(ofRows_any _ [y] _ HRO.out (fun r hr=>by rw[List.mem_singleton]at hr;rw[hr];exact HFY.out.1) (by simp)).mono ?_);rintro e w8 ⟨⟨s8,t8,rfl,hs8⟩,F8⟩;replace hs8:Refs w8 (.slice s8 1 t8) [y]:=hs8;have G8:=GA.trans F8;clear F8;(try simp only[List.length_singleton]);go_wp2_with fail)
   refine hKK.out _ _ ?_ (fun hHeld=>?_)
   ·exact(HBZ.out.fr G8 (fun h=>h)).cell
   clear hKK KK;(try simp only[Act.put,SS]);refine stN 11 (fun KK hKK=>?_);go_simp
   (go_at_call 14;(with_reducible refine(likeRows_any _ _ [y] [r] w8 hs8 (HONE.out _ G8) (fun r hr=>by rw[List.mem_singleton]at hr;rw[hr];exact HFY.out.2.2) (fun r hr=>by rw[List.mem_singleton]at hr;rw[hr];exact HFR.out.2.2) (by simp)).mono ?_);rintro e w9 ⟨rfl,F9⟩;rw[HLK.out];have G9:=G8.trans F9;clear F9;go_wp2_with fail)
   refine hKK.out _ _ ?_ (fun hHeld=>?_)
   ·exact(HBZ.out.fr G9 (fun h=>h)).cell
   clear hKK KK;(try simp only[Act.put,SS]);refine tkG 12 rfl hHeld ?_;refine tkN 13 rfl hHeld ?_;(try simp only[Act.put,SK,SS]);refine wpAnyN_done (by kernel_rfl) ?_ _;clear hHeld;have HF9:=Hi (HFA.out.trans G9);clear G GA G8 G9 hs8 hs;go_wp2_with fail
   go_roundg (O.length-(k+1))
   case measure=>rw[HG.out];omega
   case rel=>exact⟨k+1,rfl,by omega,by go_num,HF9⟩
  ·have p7:¬(k:Int)<(O.length:Int):=by omega
   by_cases hin:0≤i∧i<O.length
   ·obtain⟨n,rfl⟩:=Int.eq_ofNat_of_zero_le hin.1
    have hnl:n<O.length:=by omega
    obtain⟨y,hy⟩:∃ y,X[n]? = some y:=⟨_,List.getElem?_eq_getElem (by have:=HXL.out;omega)⟩
    have HAT:=Hi (ixAt_in (.pointer p) X n y wr (HI4.out.old HB.out) hy (HIX.out.2.2 y (List.mem_of_getElem? hy)));obtain⟨x,hx⟩:∃ x,x=madeS y.num:=⟨_,rfl⟩
    rw[←hx]at HAT
    have p8:(0:Int)≤(n:Int):=by omega
    have p9:(n:Int)<(O.length:Int):=by omega
    clear hy hx hin;go_wp2_with fail
    refine HAT.out.mono ?_;rintro e w6 ⟨⟨a2,c2,b2,d2,q2,rfl,-⟩,F6⟩;have HF6:=Hi (HF4.out.trans (HB.out.trans (F6.alloc (.cells #[.slice a2 y.iss.length c2,.bool x.below,.slice b2 x.size.length d2,.int .i64 y.date,.int .i64 y.reason,.pointer q2] 43))));clear F6;go_wp2_with fail
    go_ret;exact⟨rfl,HF6.out⟩
   ·have hout:i<0∨(X.length:Int)≤i:=by have:=HXL.out;omega
    have HAT:=Hi (ixAt_out (.pointer p) X i wr (HI4.out.old HB.out) hout);clear hout;by_cases h0:0≤i
    ·have p8:¬i<(O.length:Int):=by omega
     clear hin;go_wp2_with fail
     refine HAT.out.mono ?_;rintro e w6 ⟨rfl,F6⟩;have HF6:=Hi (HF4.out.trans (HB.out.trans (F6.alloc (.cells #[.slice none 0 0,.bool false,.slice none 0 0,.int .i64 0,.int .i64 0,.pointer none] 43))));have p9:decide (i<(O.length:Int))=false:=by simp;omega
     clear F6;go_wp2_with fail
     go_ret;refine⟨?_,HF6.out⟩
     first|rfl|(show Ending.returned (Value.bool (!decide (i<(O.length:Int))))=_;rw[p9];rfl)
    ·clear hin
     go_wp2_with fail
     refine HAT.out.mono ?_;rintro e w6 ⟨rfl,F6⟩;have HF6:=Hi (HF4.out.trans (HB.out.trans (F6.alloc (.cells #[.slice none 0 0,.bool false,.slice none 0 0,.int .i64 0,.int .i64 0,.pointer none] 43))));clear F6;go_wp2_with fail
     go_ret;exact⟨rfl,HF6.out⟩
end Go.Proofs.YtehlipgmkinfbaaGreatDoor
