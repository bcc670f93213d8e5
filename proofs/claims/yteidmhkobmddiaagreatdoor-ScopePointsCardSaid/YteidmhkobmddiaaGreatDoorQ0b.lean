/-
  Merged by program: XNHead XNHead2 XNHead3 XNHead4 XNHead5 XNHead6 XNHead7 XNHead8 XNHead9.
-/
import Derived.Test.YteidmhkobmddiaaGreatDoorQ0a
set_option linter.unusedSimpArgs false
set_option maxRecDepth 100000
set_option maxHeartbeats 8000000
namespace Go.Proofs.YteidmhkobmddiaaGreatDoor
open Go Go.RowKit Go.Q
def numR:Except Int (Nat × Nat)→Value
 |.ok (n,_)=>.tuple #[.int .i64 n,.int .i64 0]
 |.error e=>.tuple #[.int .i64 0,.int .i64 e]
theorem num_lt {m r k:Nat}(hm:m<128 ^ k)(hr:r<128):m*128+r<128 ^ (k+1):=by
 rw[Nat.pow_succ]
 exact Nat.lt_of_lt_of_le (show m*128+r<(m+1)*128 by omega) (Nat.mul_le_mul_right 128 hm)
theorem num_small {m k:Nat}(hm:m<128 ^ k)(hk:k≤2):m<16384:=by
 have:k=0∨k=1∨k=2:=by omega
 rcases this with r|r|r<;>subst r<;>simp at hm<;>omega
theorem number_any {w:World}{c:Nat}{K:Nat→Prop}{bs:List UInt8}{p:Nat}(h:CurAt w c K bs p) :
  Calls Tryz.prog 390 #[pt c] w fun e w'=>e=.returned (numR (numS 0 0 (bs.drop p)))∧(∃ j,p≤j∧CurAt w' c K bs j∧∀ n k,numS 0 0 (bs.drop p)=.ok (n,k)→j=p+k)∧Fr (fun k=>k=c) w w':=by
 have H:=Hi h;clear h;go_enter Tryz.func390,Tryz.ntmps390
 go_wp2_with fail
 go_step3
 go_wp2_with fail
 go_step3
 go_wp2_with fail
 go_loopg [4,8] 4 (fun g n i wr=>∃ (k m:Nat),g=4-k∧k≤3∧m<128 ^ k∧n=.int .i64 m∧i=.int .i64 k∧CurAt wr c K bs (p+k)∧Fr (fun k=>k=c) w wr∧numS 0 0 (bs.drop p)=numS k m (bs.drop (p+k)))
 case atStart=>exact⟨0,0,rfl,by omega,by simp,rfl,rfl,H.out,Fr.refl _,rfl⟩
 case round=>
  obtain⟨k,m,hg,hk,hm,rfl,rfl,hC,hF,hN⟩:=hrel
  have HG:=Hi hg;have HC:=Hi hC;have HN:=Hi hN;clear hg hC hN;have q1:(k:Int)<4:=by omega
  cases hd:bs.drop (p+k) with
  |nil=>
   have HD:=Hi hd;clear hd;go_wp2_with fail
   refine(byte_end HC.out HD.out).mono ?_
   rintro e w1 ⟨rfl,F1⟩;go_wp2_with fail
   have hN:=HN.out;rw[HD.out]at hN
   simp only[numS]at hN
   rw[Exit.noGoto_ret]
   refine bodyPost_ret (v:=.tuple #[.int .i64 0,.int .i64 3]) (by simp[results,Tryz.results390,go_sem]) rfl ?_;rw[hN]
   exact⟨rfl,⟨_,Nat.le_add_right _ _,HC.out.old F1,by simp⟩,hF.trans (F1.mono (fun _ _ h=>h.elim))⟩
  |cons x t=>
   have HD:=Hi hd;clear hd;go_wp2_with fail
   refine(byte_on HC.out HD.out).mono ?_
   rintro e w1 ⟨rfl,C1,F1⟩;have hx:=x.toNat_lt;have hN:=HN.out;rw[HD.out]at hN
   simp only[numS]at hN
   by_cases h3:(k=0∧x.toNat=128)∨k=3
   ·rw[if_pos h3]at hN
    have HN2:=Hi hN;clear hN HN;rcases Classical.em (k=0) with h0|h0
    ·obtain⟨_,h128⟩:k=0∧x.toNat=128:=by omega
     subst h0;have h128':(x.toNat:Int)=128:=by omega
     go_wp2_with fail
     rw[Exit.noGoto_ret]
     refine bodyPost_ret (v:=.tuple #[.int .i64 0,.int .i64 4]) (by simp[results,Tryz.results390,go_sem]) rfl ?_;rw[HN2.out]
     exact⟨rfl,⟨_,by omega,C1,by simp⟩,hF.trans F1⟩
    ·obtain rfl:k=3:=by omega
     go_wp2_with fail
     rw[Exit.noGoto_ret]
     refine bodyPost_ret (v:=.tuple #[.int .i64 0,.int .i64 4]) (by simp[results,Tryz.results390,go_sem]) rfl ?_;rw[HN2.out]
     exact⟨rfl,⟨_,by omega,C1,by simp⟩,hF.trans F1⟩
   ·rw[if_neg h3]at hN
    have HN2:=Hi hN;clear hN HN;have hk3:((k:Int)==3)=false:=beq_eq_false_iff_ne.2 (by omega);have hm2:m<16384:=num_small hm (by omega);obtain⟨r,hr⟩:∃ r,r=x.toNat % 128:=⟨_,rfl⟩
    have hr2:r<128:=by omega
    have hb1:bits .and .u8 (x.toNat:Int) 127=(r:Int):=by rw[hr];exact and127 x
    obtain⟨v,hv⟩:∃ v,v=m*128+r:=⟨_,rfl⟩
    have hb2:bits .or .i64 ((m:Int)*128) (r:Int)=(v:Int):=by rw[hv];exact or7 m r (by omega) hr2
    have hw1:wrap64 ((m:Int)*128)=(m:Int)*128:=by unfold wrap64;omega
    have hw2:wrap64 (r:Int)=(r:Int):=wrap_nat r (by omega);have hv2:v<128 ^ (k+1):=by rw[hv];exact num_lt hm hr2
    rw[←hr,←hv]at HN2
    have HV:=Hi hv2;have hk2:k≤2:=by omega
    clear hr hv hm hv2;have fin:∀ wz,wz=w1→(numS 0 0 (bs.drop p)=.error 4→numR (numS 0 0 (bs.drop p))=.tuple #[.int .i64 0,.int .i64 4]∧(∃ j,p≤j∧CurAt wz c K bs j∧∀ n k,numS 0 0 (bs.drop p)=.ok (n,k)→j=p+k)∧Fr (fun k=>k=c) w wz)∧∀ n,numS 0 0 (bs.drop p)=.ok (n,k+1)→numR (numS 0 0 (bs.drop p))=.tuple #[.int .i64 n,.int .i64 0]∧(∃ j,p≤j∧CurAt wz c K bs j∧∀ n k,numS 0 0 (bs.drop p)=.ok (n,k)→j=p+k)∧Fr (fun k=>k=c) w wz:=by
     rintro wz rfl;refine⟨fun h=>?_,fun n h=>?_⟩
     ·rw[h]
      exact⟨rfl,⟨_,by omega,C1,by simp⟩,hF.trans F1⟩
     ·rw[h]
      refine⟨rfl,⟨_,by omega,C1,fun n' k' e=>?_⟩,hF.trans F1⟩
      simp only[Except.ok.injEq,Prod.mk.injEq]at e
      omega
    have FIN:=Hi fin;have HC1:=Hi C1;have HF1:=Hi (hF.trans F1);clear fin C1 hF F1 HC;by_cases hx7:x.toNat<128
    ·have hx8:(x.toNat:Int)<128:=by omega
     by_cases hv31:v<31
     ·have hv32:(v:Int)<31:=by omega
      have hE:numS 0 0 (bs.drop p)=.error 4:=by rw[HN2.out,if_pos hx7,if_pos hv31]
      have HE:=Hi hE;clear hE;rcases Classical.em (k=0) with h0|h0
      case' inl=>
       have h128':¬(x.toNat:Int)=128:=by omega
       have hk0:((k:Int)==0)=true:=by simpa using h0
      case' inr=>
       have hk0:((k:Int)==0)=false:=by simpa using h0
      all_goals
       go_wp2_with fail
       rw[Exit.noGoto_ret]
       obtain⟨e1,e2⟩:=(FIN.out _ rfl).1 HE.out
       refine bodyPost_ret (v:=.tuple #[.int .i64 0,.int .i64 4]) (by simp[results,Tryz.results390,go_sem]) rfl ?_;exact⟨by rw[e1],e2⟩
     ·have hv32:¬(v:Int)<31:=by omega
      have hE:numS 0 0 (bs.drop p)=.ok (v,k+1):=by rw[HN2.out,if_pos hx7,if_neg hv31]
      have HE:=Hi hE;clear hE;rcases Classical.em (k=0) with h0|h0
      case' inl=>
       have h128':¬(x.toNat:Int)=128:=by omega
       have hk0:((k:Int)==0)=true:=by simpa using h0
      case' inr=>
       have hk0:((k:Int)==0)=false:=by simpa using h0
      all_goals
       go_wp2_with fail
       rw[Exit.noGoto_ret]
       obtain⟨e1,e2⟩:=(FIN.out _ rfl).2 v HE.out
       refine bodyPost_ret (v:=.tuple #[.int .i64 v,.int .i64 0]) (by simp[results,Tryz.results390,go_sem]) rfl ?_;exact⟨by rw[e1],e2⟩
    ·have hx8:¬(x.toNat:Int)<128:=by omega
     have hdr:bs.drop (p+(k+1))=t:=by
      rw[←Nat.add_assoc,←List.drop_drop,HD.out]
      rfl
     have hE:numS 0 0 (bs.drop p)=numS (k+1) v (bs.drop (p+(k+1))):=by rw[HN2.out,if_neg hx7,hdr]
     have HE:=Hi hE;clear hE hdr;rcases Classical.em (k=0) with h0|h0
     case' inl=>
      have h128':¬(x.toNat:Int)=128:=by omega
      have hk0:((k:Int)==0)=true:=by simpa using h0
     case' inr=>
      have hk0:((k:Int)==0)=false:=by simpa using h0
     all_goals
      go_wp2_with fail
      go_roundg (4-(k+1))
      case measure=>rw[HG.out];omega
      case rel=>exact⟨k+1,v,rfl,by omega,HV.out,rfl,by go_num,HC1.out,HF1.out,HE.out⟩
theorem be_take {l:List UInt8}{j:Nat}{x:UInt8}(h:l[j]? = some x):beS (l.take (j+1))=beS (l.take j)*256+x.toNat:=by
 rw[List.take_add_one,h]
 simp[beS,List.foldl_append]
theorem be_lt:∀ (l:List UInt8),l.length≤4→beS l<4294967296:=by
 intro l h;have g:∀ x:UInt8,x.toNat<256:=fun x=>x.toNat_lt
 match l,h with
 | [],_=>decide
 | [a],_=>have:=g a;simp[beS];omega
 | [a,b],_=>have:=g a;have:=g b;simp[beS];omega
 | [a,b,c],_=>have:=g a;have:=g b;have:=g c;simp[beS];omega
 | [a,b,c,d],_=>have:=g a;have:=g b;have:=g c;have:=g d;simp[beS];omega
 |_::_::_::_::_::_,h=>simp at h
theorem long_any {w:World}{c:Nat}{K:Nat→Prop}{bs:List UInt8}{p:Nat}(h:CurAt w c K bs p)(n:Nat)(hn1:1≤n)(hn4:n≤4) :
  Calls Tryz.prog 393 #[pt c,.int .i64 n] w fun e w'=>e=.returned (numR (longS n (bs.drop p)))∧(∃ j,p≤j∧CurAt w' c K bs j∧∀ v k,longS n (bs.drop p)=.ok (v,k)→j+1=p+k)∧Fr (fun k=>k=c) w w':=by
 have H:=Hi h;have hle:=h.le;clear h;rcases Nat.lt_or_ge (bs.length-p) n with hs|hs
 ·have hL:longS n (bs.drop p)=.error 3:=by
   unfold longS;rw[if_pos (by rw[List.length_drop];exact hs)]
  have HL:=Hi hL;clear hL;go_enter Tryz.func393,Tryz.ntmps393
  go_wp2_with fail
  refine(take_end H.out n hs).mono ?_
  rintro e w1 ⟨rfl,F1⟩;go_wp2_with fail
  refine bodyPost_ret (v:=.tuple #[.int .i64 0,.int .i64 3]) (by simp[results,Tryz.results393,go_sem]) rfl ?_;rw[HL.out]
  exact⟨rfl,⟨p,Nat.le_refl _,H.out.old F1,by simp⟩,F1.mono (fun _ _ h=>h.elim)⟩
 ·obtain⟨D,hD⟩:∃ D,D=(bs.drop p).take n:=⟨_,rfl⟩
  have hDl:D.length=n:=by rw[hD,List.length_take,List.length_drop];omega
  have hlt:=be_lt D (by omega);obtain⟨x0,hx0⟩:∃ x,D[0]? = some x:=⟨_,List.getElem?_eq_getElem (by omega)⟩
  have hhead:(bs.drop p).head?.map (·.toNat)=some x0.toNat:=by
   have:D[0]? = (bs.drop p)[0]?:=by rw[hD,List.getElem?_take,if_pos (by omega)]
   rw[hx0]at this
   rw[List.head?_eq_getElem?,←this]
   rfl
  have hL:longS n (bs.drop p)=if x0.toNat=0∨beS D<128 then .error 5 else if 16777216<beS D then .error 2 else .ok (beS D,n+1):=by
   unfold longS;rw[if_neg (by rw[List.length_drop];omega),←hD,hhead]
   simp
  have HL:=Hi hL;have HD:=Hi hD;have hx0l:=x0.toNat_lt;clear hL hD hhead;go_enter Tryz.func393,Tryz.ntmps393
  go_wp2_with fail
  refine(take_ok H.out n hs).mono ?_
  rintro e w1 ⟨v,rfl,ho,C1,F1⟩;rw[←HD.out]at ho
  obtain⟨a,cap,rfl,hc,hm,hx⟩:=(Vals.of_own ho).1.form
  rw[hDl]at hc hx ⊢
  obtain⟨b,o,rfl,hxx⟩:=hx (by omega)
  have e0:=hxx 0 x0 hx0;have HX:=Hi hxx;have HC1:=Hi C1;have HF1:=Hi F1;simp only[Nat.add_zero]at e0
  clear ho hx hxx C1 F1 H hle hs;go_wp2_with fail
  go_loopg [8,22] n (fun g k i wr=>∃ j:Nat,g=n-j∧j≤n∧k=.int .i64 (beS (D.take j))∧i=.int .i64 j∧wr=w1)
  case atStart=>exact⟨0,rfl,by omega,rfl,rfl,rfl⟩
  case round=>
   obtain⟨j,hg,hj,rfl,rfl,rfl⟩:=hrel
   have HG:=Hi hg;clear hg;by_cases hjn:j<n
   ·obtain⟨x,hxj⟩:∃ x,D[j]? = some x:=⟨_,List.getElem?_eq_getElem (by omega)⟩
    have ex:=HX.out j x hxj;have hbe:=be_take hxj;have hlt1:=be_lt (D.take j) (by rw[List.length_take];omega);have hlt2:=be_lt (D.take (j+1)) (by rw[List.length_take];omega);have hxl:=x.toNat_lt;have q1:(j:Int)<(n:Int):=by omega
    have q2:(0:Int)≤(j:Int):=by omega
    generalize beS (D.take j)=v0 at *
    generalize hv1:beS (D.take (j+1))=v1 at *
    have HV:=Hi hv1;obtain⟨y,hy⟩:∃ y:Nat,y=x.toNat:=⟨_,rfl⟩
    rw[←hy]at ex hbe hxl
    have hb2:bits .or .i64 ((v0:Int)*256) (y:Int)=(v1:Int):=by rw[hbe];exact or8 v0 y (by omega) hxl
    have hw1:wrap64 ((v0:Int)*256)=(v0:Int)*256:=by unfold wrap64;omega
    have hw2:wrap64 (y:Int)=(y:Int):=wrap_nat y (by omega);have hxl2:y<256:=hxl;clear hv1 hxj hy hbe hlt1 hlt2 hlt hx0l hxl;go_wp2_with fail
    go_roundg (n-(j+1))
    case measure=>rw[HG.out];omega
    case rel=>exact⟨j+1,rfl,by omega,by rw[HV.out],by go_num,rfl⟩
   ·obtain rfl:j=n:=by omega
    have ht:D.take j=D:=List.take_of_length_le (by omega);rw[ht]
    obtain⟨B,hB⟩:∃ B,B=beS D:=⟨_,rfl⟩
    rw[←hB]at HL hlt ⊢
    clear HX ht hB;obtain⟨y0,hy0⟩:∃ y:Nat,y=x0.toNat:=⟨_,rfl⟩
    rw[←hy0]at HL e0 hx0l
    clear hy0 hx0;have fin:∀ wz,wz=wr→∀ r,longS j (bs.drop p)=r→(∃ q,p≤q∧CurAt wz c K bs q∧∀ v k,longS j (bs.drop p)=.ok (v,k)→q+1=p+k)∧Fr (fun k=>k=c) w wz:=by
     rintro wz rfl r hr;refine⟨⟨_,Nat.le_add_right p j,HC1.out,fun v k e=>?_⟩,HF1.out⟩
     rw[HL.out]at e
     split at e
     ·cases e
     split at e
     ·cases e
     ·simp only[Except.ok.injEq,Prod.mk.injEq]at e
      omega
    have FIN:=Hi fin;clear fin;by_cases h0:y0=0∨B<128
    ·have hE:longS j (bs.drop p)=.error 5:=by rw[HL.out,if_pos h0]
     have HE:=Hi hE;clear hE HL;rcases Classical.em (y0=0) with hy|hy
     case' inl=>subst hy
     case' inr=>
      have hy1:¬(y0:Int)=0:=by omega
      have hB1:(B:Int)<128:=by omega
     all_goals
      go_wp2_with fail
      refine bodyPost_ret (v:=.tuple #[.int .i64 0,.int .i64 5]) (by simp[results,Tryz.results393,go_sem]) rfl ?_;refine⟨?_,FIN.out _ rfl _ HE.out⟩
      rw[HE.out]
      rfl
    ·have hy1:¬(y0:Int)=0:=by omega
     have hB1:¬(B:Int)<128:=by omega
     by_cases hB2:16777216<B
     ·have hE:longS j (bs.drop p)=.error 2:=by rw[HL.out,if_neg h0,if_pos hB2]
      have hB3:(16777216:Int)<(B:Int):=by omega
      have HE:=Hi hE;clear hE HL;go_wp2_with fail
      refine bodyPost_ret (v:=.tuple #[.int .i64 0,.int .i64 2]) (by simp[results,Tryz.results393,go_sem]) rfl ?_;refine⟨?_,FIN.out _ rfl _ HE.out⟩
      rw[HE.out]
      rfl
     ·have hE:longS j (bs.drop p)=.ok (B,j+1):=by rw[HL.out,if_neg h0,if_neg hB2]
      have hB3:¬(16777216:Int)<(B:Int):=by omega
      have HE:=Hi hE;clear hE HL;go_wp2_with fail
      refine bodyPost_ret (v:=.tuple #[.int .i64 B,.int .i64 0]) (by simp[results,Tryz.results393,go_sem]) rfl ?_;refine⟨?_,FIN.out _ rfl _ HE.out⟩
      rw[HE.out]
      rfl
def posOf {α:Type}(p:Nat):Except Int (α × Nat)→Nat
 |.ok (_,k)=>p+k
 |.error _=>p
theorem readLength1_any {w:World}{c:Nat}{K:Nat→Prop}{bs:List UInt8}{p:Nat}(h:CurAt w c K bs p)(bx:Nat)(B:Blk w bx 236 #[pt c])(hbx:bx≠c) :
  Calls Tryz.prog 392 #[pt bx] w fun e w'=>e=.returned (numR (readLenS (bs.drop p)))∧(∃ q,p≤q∧CurAt w' c K bs q∧∀ v k,readLenS (bs.drop p)=.ok (v,k)→q=p+k)∧Fr (fun k=>k=c) w w':=by
 have H:=Hi h;have e0:=B.cell 0;simp at e0
 clear h;cases hd:bs.drop p with
 |nil=>
  have HD:=Hi hd;clear hd;go_enter Tryz.func392,Tryz.ntmps392
  go_wp2_with fail
  refine(byte_end H.out HD.out).mono ?_
  rintro e w1 ⟨rfl,F1⟩;go_wp2_with fail
  exact bodyPost_ret (v:=.tuple #[.int .i64 0,.int .i64 3]) (by simp[results,Tryz.results392,go_sem]) rfl ⟨rfl,⟨p,Nat.le_refl _,H.out.old F1,by simp[readLenS]⟩,F1.mono (fun _ _ h=>h.elim)⟩
 |cons x t=>
  have HD:=Hi hd;clear hd;obtain⟨y,hy⟩:∃ y:Nat,y=x.toNat:=⟨_,rfl⟩
  have hyl:y<256:=by rw[hy];exact x.toNat_lt
  have ht:bs.drop (p+1)=t:=by rw[←List.drop_drop,HD.out];rfl
  have HT:=Hi ht;have hL:readLenS (x::t)=if y<128 then .ok (y,1) else if y=128∨132<y then .error 5 else longS (y-128) t:=by rw[hy];rfl
  have HL:=Hi hL;have hBy:=Hi (byte_on H.out HD.out);rw[←hy]at hBy
  have hb1:bits .and .u8 (y:Int) 127=((y % 128:Nat):Int):=by rw[hy];exact and127 x
  clear hy ht hL;go_enter Tryz.func392,Tryz.ntmps392
  go_wp2_with fail
  refine hBy.out.mono ?_;rintro e w1 ⟨rfl,C1,F1⟩;have HC1:=Hi C1;have HF1:=Hi F1;replace e0:=F1.cell e0 hbx;clear C1 F1 hBy B;by_cases h1:y<128
  ·have h1':(y:Int)<128:=by omega
   have hE:readLenS (x::t)=.ok (y,1):=by rw[HL.out,if_pos h1]
   have HE:=Hi hE;have hw2:wrap64 (y:Int)=(y:Int):=wrap_nat y (by omega);clear hE HL hb1;go_wp2_with fail
   refine bodyPost_ret (v:=.tuple #[.int .i64 y,.int .i64 0]) (by simp[results,Tryz.results392,go_sem]) rfl ?_;rw[HE.out]
   refine⟨rfl,⟨p+1,by omega,HC1.out,fun v k e=>?_⟩,HF1.out⟩
   simp only[Except.ok.injEq,Prod.mk.injEq]at e
   omega
  ·have h1':¬(y:Int)<128:=by omega
   by_cases h2:y=128∨132<y
   ·have hE:readLenS (x::t)=.error 5:=by rw[HL.out,if_neg h1,if_pos h2]
    have HE:=Hi hE;clear hE HL hb1;rcases Classical.em (y=128) with hy|hy
    case' inl=>subst hy
    case' inr=>
     have hy1:((y:Int)==128)=false:=beq_eq_false_iff_ne.2 (by omega);have hy2:decide ((132:Int)<(y:Int))=true:=decide_eq_true (by omega)
    all_goals
     go_wp2_with fail
     refine bodyPost_ret (v:=.tuple #[.int .i64 0,.int .i64 5]) (by simp[results,Tryz.results392,go_sem]) rfl ?_;rw[HE.out]
     exact⟨rfl,⟨p+1,by omega,HC1.out,by simp⟩,HF1.out⟩
   ·have hE:readLenS (x::t)=longS (y-128) t:=by rw[HL.out,if_neg h1,if_neg h2]
    have hy1:((y:Int)==128)=false:=beq_eq_false_iff_ne.2 (by omega);have hy2:decide ((132:Int)<(y:Int))=false:=decide_eq_false (by omega);obtain⟨n,hn⟩:∃ n,n=y-128:=⟨_,rfl⟩
    have hb2:bits .and .u8 (y:Int) 127=(n:Int):=by rw[hb1];omega
    have hw2:wrap64 (n:Int)=(n:Int):=wrap_nat n (by omega);have hn1:1≤n:=by omega
    have hn4:n≤4:=by omega
    rw[←hn]at hE
    have HE:=Hi hE;have HLo:=Hi (long_any HC1.out n hn1 hn4);clear hE HL hb1 hn;go_wp2_with fail
    refine HLo.out.mono ?_;rintro e w2 ⟨rfl,⟨q,hq,C2,hpos⟩,F2⟩;rw[HT.out]at hpos ⊢
    have HP:=Hi hpos;cases hr:longS n t with
    |error e0=>
     have HR:=Hi hr;clear hr hpos;simp only[numR]
     go_wp2_with fail
     refine bodyPost_ret (v:=.tuple #[.int .i64 0,.int .i64 e0]) (by simp[results,Tryz.results392,go_sem]) rfl ?_;rw[HE.out,HR.out]
     exact⟨rfl,⟨q,by omega,C2,by simp⟩,HF1.out.trans F2⟩
    |ok vk=>
     obtain⟨v,k⟩:=vk
     have HR:=Hi hr;clear hr hpos;simp only[numR]
     go_wp2_with fail
     refine bodyPost_ret (v:=.tuple #[.int .i64 v,.int .i64 0]) (by simp[results,Tryz.results392,go_sem]) rfl ?_;rw[HE.out,HR.out]
     refine⟨rfl,⟨q,by omega,C2,fun v' k' e=>?_⟩,HF1.out.trans F2⟩
     have:=HP.out v k HR.out;simp only[Except.ok.injEq,Prod.mk.injEq]at e
     omega
theorem longS_err {n:Nat}{l:List UInt8}{e:Int}(h:longS n l=.error e):e≠0:=by
 unfold longS at h;split at h
 ·cases h;decide
 split at h
 ·cases h;decide
 split at h
 ·cases h;decide
 ·cases h
theorem readLenS_err {l:List UInt8}{e:Int}(h:readLenS l=.error e):e≠0:=by
 cases l with
 |nil=>simp only[readLenS,Except.error.injEq]at h;omega
 |cons x t=>
  simp only[readLenS]at h
  split at h
  ·cases h
  split at h
  ·cases h;decide
  ·exact longS_err h
theorem numS_err:∀ {l:List UInt8}{i n:Nat}{e:Int},numS i n l=.error e→e≠0
 | [],_,_,_,h=>by simp only[numS,Except.error.injEq]at h;omega
 |x::t,i,n,e,h=>by
  simp only[numS]at h
  split at h
  ·cases h;decide
  split at h
  ·split at h
   ·cases h;decide
   ·cases h
  ·exact numS_err h
theorem readTagS_err {l:List UInt8}{e:Int}(h:readTagS l=.error e):e≠0:=by
 cases l with
 |nil=>simp only[readTagS,Except.error.injEq]at h;omega
 |cons x t=>
  simp only[readTagS]at h
  split at h
  ·cases h
  ·split at h
   ·rename_i e' he
    cases h
    exact numS_err he
   ·cases h
theorem readLength_any {w:World}{c:Nat}{K:Nat→Prop}{bs:List UInt8}{p:Nat}(h:CurAt w c K bs p) :
  Calls Tryz.prog 374 #[pt c] w fun e w'=>e=.returned (numR (readLenS (bs.drop p)))∧CurAt w' c K bs (posOf p (readLenS (bs.drop p)))∧Fr (fun k=>k=c) w w':=by
 have hlt:=h.lt;obtain⟨bx,hbx⟩:∃ bx,bx=w.heap.size:=⟨_,rfl⟩
 have B:=Blk.new w 236 #[pt c];have F:Fz w (w.alloc (.cells #[pt c] 236)):=(Fr.refl w).alloc _;have H:=Hi (h.old F);rw[←hbx]at B
 have hbc:bx≠c:=by omega
 have HBX:=Hi hbx;have e0:=B.cell 0;simp at e0
 clear h hlt hbx;go_enter Tryz.func374,Tryz.ntmps374
 go_upto_region 1 with fail
 rw[←HBX.out]
 generalize (w.alloc (.cells #[pt c] 236))=w0 at *
 go_wp2_with (first|(go_at_call 391;go_in))
 refine(at_any H.out).mono ?_
 rintro e w1 ⟨rfl,rfl⟩;go_wp2_with fail
 refine(readLength1_any H.out bx B hbc).mono ?_
 rintro e w1 ⟨rfl,⟨q,hq,C1,hpos⟩,F1⟩;have HP:=Hi hpos;have HC1:=Hi C1;have HF1:=Hi ((F.mono (fun _ _ h=>h.elim)).trans F1);have HQ:=Hi hq;clear hpos C1 F1 F H B e0 hq;cases hr:readLenS (bs.drop p) with
 |error e0=>
  have he:=readLenS_err hr;have he1:(e0==0)=false:=beq_eq_false_iff_ne.2 he;have HR:=Hi hr;clear hr;simp only[numR]
  go_wp2_with fail
  refine(back_any HC1.out p HQ.out).mono ?_
  rintro e w2 ⟨rfl,C2,F2⟩;go_wp2_with fail
  refine bodyPost_ret (v:=.tuple #[.int .i64 0,.int .i64 e0]) (by simp[results,Tryz.results374,go_sem]) rfl ?_;rw[HR.out]
  exact⟨rfl,C2,HF1.out.trans F2⟩
 |ok vk=>
  obtain⟨v,k⟩:=vk
  have HR:=Hi hr;clear hr;simp only[numR]
  go_wp2_with fail
  refine bodyPost_ret (v:=.tuple #[.int .i64 v,.int .i64 0]) (by simp[results,Tryz.results374,go_sem]) rfl ?_;rw[HR.out]
  refine⟨rfl,?_,HF1.out⟩
  have:=HP.out v k HR.out;subst this;exact HC1.out
def tagV (t:Tag):Value:=.agg #[.int .i64 t.cls,.int .i64 t.num,.bool t.made]
def tagOut (r:Except Int (Tag × Nat))(t:Tag)(e:Int):Prop:=
 match r with
 |.ok (u,_)=>t=u∧e=0
 |.error x=>e=x
theorem set3 {w:World}{z:Nat}{t:TypeId}{x y u:Value}(h:Blk w z t #[x,y,u])(a b c:Value) :
  Blk (((w.setCell ⟨z,0,none⟩ a).setCell ⟨z,1,none⟩ b).setCell ⟨z,2,none⟩ c) z t #[a,b,c]∧Fr (fun k=>k=z) w (((w.setCell ⟨z,0,none⟩ a).setCell ⟨z,1,none⟩ b).setCell ⟨z,2,none⟩ c):=by
 have G:∀ {w':World},Fr (fun k=>k=z) w w'→∀ (i:Nat) (v:Value),Fr (fun k=>k=z) w (w'.setCell ⟨z,i,none⟩ v):=fun f i v=>Fr.setCell (S:=fun k=>k=z) (p:=⟨z,i,none⟩) f (fun _=>rfl) v
 refine⟨?_,G (G (G (Fr.refl w) _ _) _ _) _ _⟩
 have:=((h.set 0 a).set 1 b).set 2 c;simpa using this
theorem readTag1_any {w:World}{c:Nat}{K:Nat→Prop}{bs:List UInt8}{p:Nat}(h:CurAt w c K bs p)(bx:Nat)(B:Blk w bx 236 #[pt c])(hbx:bx≠c) :
  Calls Tryz.prog 389 #[pt bx] w fun e w'=>(∃ t x,e=.returned (.tuple #[tagV t,.int .i64 x])∧tagOut (readTagS (bs.drop p)) t x)∧(∃ q,p≤q∧CurAt w' c K bs q∧∀ v k,readTagS (bs.drop p)=.ok (v,k)→q=p+k)∧Fr (fun k=>k=c) w w':=by
 have hlc:=h.lt;have hlb:=B.lt;obtain⟨z,hz⟩:∃ z,z=w.heap.size:=⟨_,rfl⟩
 have BZ:=Blk.new w 201 #[.int .i64 0,.int .i64 0,.bool false];have F0:Fz w (w.alloc (.cells #[.int .i64 0,.int .i64 0,.bool false] 201)):=(Fr.refl w).alloc _;have H:=Hi (h.step (K':=fun k=>K k∨w.heap.size≤k) F0 (fun _ _ h=>h.elim) (fun _ h=>h));have e0:=(B.fr F0 (fun h=>h)).cell 0;simp at e0
 rw[←hz]at BZ
 have hzc:z≠c:=by omega
 have hzw:∀ k,k<w.heap.size→k=z→k=c:=fun k hk e=>by omega
 have HZ:=Hi hz;clear h B hz;cases hd:bs.drop p with
 |nil=>
  have HD:=Hi hd;clear hd;go_enter Tryz.func389,Tryz.ntmps389
  go_upto_region 1 with fail
  rw[←HZ.out]
  generalize (w.alloc (.cells #[.int .i64 0,.int .i64 0,.bool false] 201))=w0 at *
  go_wp2_with fail
  refine(byte_end H.out HD.out).mono ?_
  rintro e w1 ⟨rfl,F1⟩;replace BZ:=BZ.fr F1 (fun h=>h);have SZ:=BZ.cell;have ZZ:=BZ.frozen;go_wp2_with fail
  obtain⟨B5,F5⟩:=set3 BZ (.int .i64 0) (.int .i64 0) (.bool false)
  have C5:=(H.out.old F1).step (K':=K) F5 (fun k _ e=>.inr (by rw[e,HZ.out];exact Nat.le_refl _)) (fun _ h=>.inl (.inl h));have G5:Fr (fun k=>k=c) w _:=((F0.trans F1).mono (fun _ _ h=>h.elim)).trans' F5 hzw;generalize (((w1.setCell ⟨z,0,none⟩ (.int .i64 0)).setCell ⟨z,1,none⟩ (.int .i64 0)).setCell ⟨z,2,none⟩ (.bool false))=w5 at *
  have n0:=B5.cell 0;have n1:=B5.cell 1;have n2:=B5.cell 2;simp at n0 n1 n2
  refine bodyPost_ret (v:=.tuple #[tagV ⟨0,0,false⟩,.int .i64 3]) (by simp[results,Tryz.results389,go_sem,tagV,n0,n1,n2]) rfl ?_;exact⟨⟨_,_,rfl,by simp[tagOut,readTagS]⟩,⟨p,Nat.le_refl _,C5,by simp[readTagS]⟩,G5⟩
 |cons x t=>
  have HD:=Hi hd;clear hd;obtain⟨y,hy⟩:∃ y:Nat,y=x.toNat:=⟨_,rfl⟩
  have hyl:y<256:=by rw[hy];exact x.toNat_lt
  have ht:bs.drop (p+1)=t:=by rw[←List.drop_drop,HD.out];rfl
  have HT:=Hi ht;have hBy:=Hi (byte_on H.out HD.out);rw[←hy]at hBy
  obtain⟨r,hr⟩:∃ r,r=y % 32:=⟨_,rfl⟩
  obtain⟨m,hm⟩:∃ m,m=y / 32 % 2*32:=⟨_,rfl⟩
  have hb1:bits .and .u8 (y:Int) 31=(r:Int):=by rw[hr,hy];exact and31 x
  have hb2:bits .and .u8 (y:Int) 32=(m:Int):=by rw[hm,hy];exact and32 x
  have hw1:wrap64 (r:Int)=(r:Int):=wrap_nat r (by omega);have HY:=Hi hy;have HR:=Hi hr;have HM:=Hi hm;clear ht hy hr hm;go_enter Tryz.func389,Tryz.ntmps389
  go_upto_region 1 with fail
  rw[←HZ.out]
  generalize (w.alloc (.cells #[.int .i64 0,.int .i64 0,.bool false] 201))=w0 at *
  go_wp2_with fail
  refine hBy.out.mono ?_;rintro e w1 ⟨rfl,C1,F1⟩;have HC1:=Hi C1;replace BZ:=BZ.fr F1 hzc;replace e0:=F1.cell e0 hbx;go_upto_region 5 with fail
  obtain⟨mb,hmb⟩:∃ mb,mb=((m:Int) != 0):=⟨_,rfl⟩
  have hmade:mb=decide (x.toNat / 32 % 2=1):=by
   rw[hmb,HM.out,HY.out]
   have h2:x.toNat / 32 % 2=0∨x.toNat / 32 % 2=1:=by omega
   rcases h2 with h2|h2<;>rw[h2]<;>rfl
  have HMD:=Hi hmade;rw[←hmb]
  obtain⟨d,hd⟩:∃ d,d=w1.heap.size:=⟨_,rfl⟩
  have BD:=Blk.new w1 201 #[.int .i64 ((y:Int) / 64),.int .i64 r,.bool mb];have F2:Fz w1 (w1.alloc (.cells #[.int .i64 ((y:Int) / 64),.int .i64 r,.bool mb] 201)):=(Fr.refl w1).alloc _;have hzl:=BZ.lt;replace BZ:=BZ.fr F2 (fun h=>h);replace e0:=F2.cell e0 (fun h=>h);have C2:=C1.old F2;have G2:=(F0.mono (T:=fun k=>k=c) (fun _ _ h=>h.elim)).trans (F1.trans (F2.mono (fun _ _ h=>h.elim)));rw[←hd]at BD ⊢
  have hsz:w.heap.size≤d:=by rw[hd];exact Nat.le_trans F0.size F1.size
  have hdz:d≠z:=by omega
  have hdc:d≠c:=by omega
  have hdb:d≠bx:=by omega
  clear hd hmb C1 F1 F2 HC1 hBy F0 hb1 hb2 hw1 H hmade;generalize (w1.alloc (.cells #[.int .i64 ((y:Int) / 64),.int .i64 r,.bool mb] 201))=w2 at *
  have fin:∀ (w5:World) (tv:Tag),True→Blk w5 z 201 #[.int .i64 tv.cls,.int .i64 tv.num,.bool tv.made]→w5.cell? ⟨z,0,none⟩=some (.int .i64 tv.cls)∧w5.cell? ⟨z,1,none⟩=some (.int .i64 tv.num)∧w5.cell? ⟨z,2,none⟩=some (.bool tv.made):=fun w5 tv _ B=>by
   have n0:=B.cell 0;have n1:=B.cell 1;have n2:=B.cell 2;simp at n0 n1 n2
   exact⟨n0,n1,n2⟩
  by_cases h31:r=31
  ·subst h31
   have SD:=BD.cell;have FD:=BD.frozen;have HC2:=Hi C2;have HG2:=Hi G2;have HNU:=Hi (number_any C2);rw[HT.out]at HNU
   have hE:∀ e,numS 0 0 t=.error e→readTagS (x::t)=.error e:=fun e h=>by
    simp only[readTagS]
    rw[if_neg (by have:=HR.out;have:=HY.out;omega),h]
   have hE2:∀ n k,numS 0 0 t=.ok (n,k)→readTagS (x::t)=.ok (⟨(y:Int) / 64,n,mb⟩,k+1):=fun n k h=>by
    simp only[readTagS]
    rw[if_neg (by have:=HR.out;have:=HY.out;omega),h,HMD.out,HY.out]
   have HE:=Hi hE;have HE2:=Hi hE2;clear C2 G2 hE hE2;go_wp2_with fail
   refine HNU.out.mono ?_;rintro e w3 ⟨rfl,⟨q,hq,C3,hpos⟩,F3⟩;have HP:=Hi hpos;have HC3:=Hi C3;have HG3:=Hi (HG2.out.trans F3);replace BD:=BD.fr F3 hdc;replace BZ:=BZ.fr F3 hzc;replace SD:=BD.cell;replace FD:=BD.frozen;have SZ:=BZ.cell;have ZZ:=BZ.frozen;clear HC2 HG2 HNU C3 F3 hpos e0;cases hr:numS 0 0 t with
   |error e0=>
    have hE:=HE.out e0 hr;have HRR:=Hi hE;clear hr hE;simp only[numR]
    go_wp2_with fail
    have BZ4:=BZ.set_other (a:=⟨d,1,none⟩) (fun e=>hdz e.symm) (.int .i64 0);have F4:Fr (fun k=>k=d) w3 (w3.setCell ⟨d,1,none⟩ (.int .i64 0)):=Fr.setCell (S:=fun k=>k=d) (p:=⟨d,1,none⟩) (Fr.refl w3) (fun _=>rfl) _;have C4:=HC3.out.step (K':=fun k=>K k∨w.heap.size≤k) F4 (fun k _ e=>.inr (by rw[e];exact hsz)) (fun _ h=>.inl h);have G4:=HG3.out.trans' F4 (fun i hi e=>absurd hi (by omega));obtain⟨B5,F5⟩:=set3 BZ4 (.int .i64 ((y:Int) / 64)) (.int .i64 0) (.bool mb)
    have C5:=C4.step (K':=K) F5 (fun k _ e=>.inr (by rw[e,HZ.out];exact Nat.le_refl _)) (fun _ h=>.inl (.inl h));have G5:Fr (fun k=>k=c) w _:=G4.trans' F5 hzw;generalize ((((w3.setCell ⟨d,1,none⟩ (.int .i64 0)).setCell ⟨z,0,none⟩ (.int .i64 ((y:Int) / 64))).setCell ⟨z,1,none⟩ (.int .i64 0)).setCell ⟨z,2,none⟩ (.bool mb))=w5 at *
    obtain⟨n0,n1,n2⟩:=fin w5 ⟨(y:Int) / 64,0,mb⟩ trivial B5
    simp only at n0 n1 n2
    refine bodyPost_ret (v:=.tuple #[tagV ⟨(y:Int) / 64,0,mb⟩,.int .i64 e0]) (by simp[results,Tryz.results389,go_sem,tagV,n0,n1,n2]) rfl ?_;rw[HRR.out]
    exact⟨⟨_,_,rfl,rfl⟩,⟨q,by omega,C5,by simp⟩,G5⟩
   |ok nk=>
    obtain⟨n,k⟩:=nk
    have hE:=HE2.out n k hr;have hq2:=HP.out n k hr;have HRR:=Hi hE;clear hr hE;simp only[numR]
    go_wp2_with fail
    have BZ4:=BZ.set_other (a:=⟨d,1,none⟩) (fun e=>hdz e.symm) (.int .i64 n);have F4:Fr (fun k=>k=d) w3 (w3.setCell ⟨d,1,none⟩ (.int .i64 n)):=Fr.setCell (S:=fun k=>k=d) (p:=⟨d,1,none⟩) (Fr.refl w3) (fun _=>rfl) _;have C4:=HC3.out.step (K':=fun k=>K k∨w.heap.size≤k) F4 (fun k _ e=>.inr (by rw[e];exact hsz)) (fun _ h=>.inl h);have G4:=HG3.out.trans' F4 (fun i hi e=>absurd hi (by omega));obtain⟨B5,F5⟩:=set3 BZ4 (.int .i64 ((y:Int) / 64)) (.int .i64 n) (.bool mb)
    have C5:=C4.step (K':=K) F5 (fun k _ e=>.inr (by rw[e,HZ.out];exact Nat.le_refl _)) (fun _ h=>.inl (.inl h));have G5:Fr (fun k=>k=c) w _:=G4.trans' F5 hzw;generalize ((((w3.setCell ⟨d,1,none⟩ (.int .i64 n)).setCell ⟨z,0,none⟩ (.int .i64 ((y:Int) / 64))).setCell ⟨z,1,none⟩ (.int .i64 n)).setCell ⟨z,2,none⟩ (.bool mb))=w5 at *
    obtain⟨n0,n1,n2⟩:=fin w5 ⟨(y:Int) / 64,n,mb⟩ trivial B5
    simp only at n0 n1 n2
    refine bodyPost_ret (v:=.tuple #[tagV ⟨(y:Int) / 64,n,mb⟩,.int .i64 0]) (by simp[results,Tryz.results389,go_sem,tagV,n0,n1,n2]) rfl ?_;rw[HRR.out]
    refine⟨⟨_,_,rfl,rfl,rfl⟩,⟨q,by omega,C5,fun v' k' e=>?_⟩,G5⟩
    simp only[Except.ok.injEq,Prod.mk.injEq]at e
    omega
  ·have h31':((r:Int)==31)=false:=beq_eq_false_iff_ne.2 (by omega)
   have SD:=BD.cell;have SZ:=BZ.cell;have ZZ:=BZ.frozen;have HC2:=Hi C2;have HG2:=Hi G2;clear C2 G2;go_wp2_with fail
   obtain⟨B5,F5⟩:=set3 BZ (.int .i64 ((y:Int) / 64)) (.int .i64 r) (.bool mb)
   have C5:=HC2.out.step (K':=K) F5 (fun k _ e=>.inr (by rw[e,HZ.out];exact Nat.le_refl _)) (fun _ h=>.inl (.inl h));have G5:Fr (fun k=>k=c) w _:=HG2.out.trans' F5 hzw;generalize (((w2.setCell ⟨z,0,none⟩ (.int .i64 ((y:Int) / 64))).setCell ⟨z,1,none⟩ (.int .i64 r)).setCell ⟨z,2,none⟩ (.bool mb))=w5 at *
   obtain⟨n0,n1,n2⟩:=fin w5 ⟨(y:Int) / 64,r,mb⟩ trivial B5
   simp only at n0 n1 n2
   refine bodyPost_ret (v:=.tuple #[tagV ⟨(y:Int) / 64,r,mb⟩,.int .i64 0]) (by simp[results,Tryz.results389,go_sem,tagV,n0,n1,n2]) rfl ?_;have hE:readTagS (x::t)=.ok (⟨(y:Int) / 64,r,mb⟩,1):=by
    simp only[readTagS]
    rw[←HY.out,←HR.out,if_pos (by have:=HR.out;omega),HMD.out,HY.out,HR.out,HY.out]
    simp
   rw[hE]
   refine⟨⟨_,_,rfl,rfl,rfl⟩,⟨p+1,by omega,C5,fun v k e=>?_⟩,G5⟩
   simp only[Except.ok.injEq,Prod.mk.injEq]at e
   omega
theorem readTag_any {w:World}{c:Nat}{K:Nat→Prop}{bs:List UInt8}{p:Nat}(h:CurAt w c K bs p) :
  Calls Tryz.prog 373 #[pt c] w fun e w'=>(∃ t x,e=.returned (.tuple #[tagV t,.int .i64 x])∧tagOut (readTagS (bs.drop p)) t x)∧CurAt w' c K bs (posOf p (readTagS (bs.drop p)))∧Fr (fun k=>k=c) w w':=by
 have hlc:=h.lt;obtain⟨bx,hbx⟩:∃ bx,bx=w.heap.size:=⟨_,rfl⟩
 have B:=(Blk.new w 236 #[pt c]).alloc (.cells #[.int .i64 0,.int .i64 0,.bool false] 201);have BZ:=Blk.new (w.alloc (.cells #[pt c] 236)) 201 #[.int .i64 0,.int .i64 0,.bool false];rw[World.size_alloc]at BZ
 have F:Fz w ((w.alloc (.cells #[pt c] 236)).alloc (.cells #[.int .i64 0,.int .i64 0,.bool false] 201)):=((Fr.refl w).alloc _).alloc _;have H:=Hi (h.step (K':=fun k=>K k∨w.heap.size≤k) F (fun _ _ h=>h.elim) (fun _ h=>h));rw[←hbx]at B BZ
 have hbc:bx≠c:=by omega
 have hzc:bx+1≠c:=by omega
 have hnew:∀ k,bx≤k→(fun k=>K k∨w.heap.size≤k) k:=fun k hk=>.inr (by omega)
 have hold:∀ k i,k<w.heap.size→bx≤i→k=i→k=c:=fun k i hk hi e=>by omega
 have HBX:=Hi hbx;have HN:=Hi hnew;have HO:=Hi hold;have e0:=B.cell 0;simp at e0
 clear h hlc hbx hnew hold;go_enter Tryz.func373,Tryz.ntmps373
 go_upto_region 1 with fail
 rw[←HBX.out]
 generalize ((w.alloc (.cells #[pt c] 236)).alloc (.cells #[.int .i64 0,.int .i64 0,.bool false] 201))=w0 at *
 go_wp2_with (first|(go_at_call 388;go_in))
 obtain⟨r,hr⟩:∃ r,r=w0.heap.size:=⟨_,rfl⟩
 have BR:=Blk.new w0 201 #[.int .i64 0,.int .i64 0,.bool false];have F1:Fz w0 (w0.alloc (.cells #[.int .i64 0,.int .i64 0,.bool false] 201)):=(Fr.refl w0).alloc _;have H1:=Hi (H.out.old F1);have hlt:=BZ.lt;have hclt:=H.out.lt;rw[←hr]at BR ⊢
 replace B:=B.fr F1 (fun h=>h);replace BZ:=BZ.fr F1 (fun h=>h);have G1:=F.trans F1;have hrc:r≠c:=by omega
 have hrz:r≠bx+1:=by omega
 have hrb:bx≤r:=by omega
 have hrl:=BR.lt;have HRS:=Hi hr;clear hr F F1 H hlt hclt e0;generalize (w0.alloc (.cells #[.int .i64 0,.int .i64 0,.bool false] 201))=w1 at *
 refine(at_any H1.out).mono ?_
 rintro e w1' ⟨rfl,rfl⟩;go_wp2_with fail
 refine(readTag1_any H1.out bx B hbc).mono ?_
 rintro e w2 ⟨⟨t,x,rfl,ht⟩,⟨q,hq,C2,hpos⟩,F2⟩;have HP:=Hi hpos;have HT:=Hi ht;have HQ:=Hi hq;replace BZ:=BZ.fr F2 hzc;replace BR:=BR.fr F2 hrc;have HG2:=Hi ((G1.mono (T:=fun k=>k=c) (fun _ _ h=>h.elim)).trans F2);have HC2:=Hi C2;have hclt:=C2.lt;obtain⟨tc,tn,tm⟩:=t
 clear hpos F2 G1 ht hq C2 B H1 HRS;rw[show tagV ⟨tc,tn,tm⟩=.agg #[.int .i64 tc,.int .i64 tn,.bool tm] from rfl]
 go_upto_region 3 with fail
 obtain⟨d,hd⟩:∃ d,d=w2.heap.size:=⟨_,rfl⟩
 have BD:=Blk.new w2 201 #[.int .i64 tc,.int .i64 tn,.bool tm];have F3:Fz w2 (w2.alloc (.cells #[.int .i64 tc,.int .i64 tn,.bool tm] 201)):=(Fr.refl w2).alloc _;have hzl:=BZ.lt;have hrl2:=BR.lt;replace BZ:=BZ.fr F3 (fun h=>h);replace BR:=BR.fr F3 (fun h=>h);have HG3:=Hi (HG2.out.trans (F3.mono (fun _ _ h=>h.elim)));have HC3:=Hi (HC2.out.old F3);rw[←hd]at BD ⊢
 have hdz:d≠bx+1:=by omega
 have hdr:d≠r:=by omega
 have hdc:d≠c:=by omega
 have hdb:bx≤d:=by omega
 clear hd F3 HG2 HC2 hclt hzl hrl2;generalize (w2.alloc (.cells #[.int .i64 tc,.int .i64 tn,.bool tm] 201))=w3 at *
 by_cases hx:x=0
 ·subst hx
  have SZ:=BZ.cell;have ZZ:=BZ.frozen;have SR:=BR.cell;have ZR:=BR.frozen;have SD:=BD.cell;go_wp2_with fail
  obtain⟨B5,F5⟩:=set3 BR (.int .i64 tc) (.int .i64 tn) (.bool tm)
  have BZ5:=BZ.fr F5 (fun e=>hrz e.symm);have C5:=HC3.out.step (K':=fun k=>K k∨w.heap.size≤k) F5 (fun k _ e=>by rw[e];exact HN.out r hrb) (fun _ h=>.inl h);have G5:=HG3.out.trans' F5 (fun k hk e=>HO.out k r hk hrb e);generalize (((w3.setCell ⟨r,0,none⟩ (.int .i64 tc)).setCell ⟨r,1,none⟩ (.int .i64 tn)).setCell ⟨r,2,none⟩ (.bool tm))=w5 at *
  have n0:=B5.cell 0;have n1:=B5.cell 1;have n2:=B5.cell 2;simp at n0 n1 n2
  refine bodyPost_ret (v:=.tuple #[.agg #[.int .i64 tc,.int .i64 tn,.bool tm],.int .i64 0]) (by simp[results,Tryz.results388,go_sem,n0,n1,n2]) rfl ?_;clear SR ZR SZ ZZ B5 n0 n1 n2;have SZ:=BZ5.cell;have ZZ:=BZ5.frozen;go_wp2_with fail
  obtain⟨B6,F6⟩:=set3 BZ5 (.int .i64 tc) (.int .i64 tn) (.bool tm)
  have C6:=C5.step (K':=K) F6 (fun k _ e=>by rw[e];exact HN.out (bx+1) (by omega)) (fun _ h=>.inl (.inl h));have G6:=G5.trans' F6 (fun k hk e=>HO.out k (bx+1) hk (by omega) e);generalize (((w5.setCell ⟨bx+1,0,none⟩ (.int .i64 tc)).setCell ⟨bx+1,1,none⟩ (.int .i64 tn)).setCell ⟨bx+1,2,none⟩ (.bool tm))=w6 at *
  have n0:=B6.cell 0;have n1:=B6.cell 1;have n2:=B6.cell 2;simp at n0 n1 n2
  refine bodyPost_ret (v:=.tuple #[.agg #[.int .i64 tc,.int .i64 tn,.bool tm],.int .i64 0]) (by simp[results,Tryz.results373,go_sem,n0,n1,n2]) rfl ?_;cases hr:readTagS (bs.drop p) with
  |error e=>
   have ht:=HT.out;rw[hr]at ht
   exact absurd ht.symm (readTagS_err hr)
  |ok vk=>
   obtain⟨v,k⟩:=vk
   have ht:=HT.out;rw[hr]at ht
   have:=HP.out v k hr;subst this;exact⟨⟨_,_,rfl,ht⟩,C6,G6⟩
 ·have hx1:(x==0)=false:=beq_eq_false_iff_ne.2 hx
  go_upto_region 5 with fail
  obtain⟨u,hu⟩:∃ u,u=w3.heap.size:=⟨_,rfl⟩
  have BU:=Blk.new w3 201 #[.int .i64 0,.int .i64 0,.bool false];have F4:Fz w3 (w3.alloc (.cells #[.int .i64 0,.int .i64 0,.bool false] 201)):=(Fr.refl w3).alloc _;have hzl:=BZ.lt;have hrl2:=BR.lt;have hcl:=HC3.out.lt;replace BZ:=BZ.fr F4 (fun h=>h);replace BR:=BR.fr F4 (fun h=>h);have HG4:=Hi (HG3.out.trans (F4.mono (fun _ _ h=>h.elim)));have HC4:=Hi (HC3.out.old F4);rw[←hu]at BU ⊢
  have huz:u≠bx+1:=by omega
  have hur:u≠r:=by omega
  have huc:u≠c:=by omega
  clear hu F4 HG3 HC3 hcl hzl hrl2 BD;generalize (w3.alloc (.cells #[.int .i64 0,.int .i64 0,.bool false] 201))=w4 at *
  go_wp2_with fail
  refine(back_any HC4.out p HQ.out).mono ?_
  rintro e w4' ⟨rfl,C4,F4⟩;replace BZ:=BZ.fr F4 hzc;replace BR:=BR.fr F4 hrc;replace BU:=BU.fr F4 huc;have G4:=HG4.out.trans F4;have SZ:=BZ.cell;have ZZ:=BZ.frozen;have SR:=BR.cell;have ZR:=BR.frozen;have SU:=BU.cell;clear HG4 HC4 F4;go_wp2_with fail
  obtain⟨B5,F5⟩:=set3 BR (.int .i64 0) (.int .i64 0) (.bool false)
  have BZ5:=BZ.fr F5 (fun e=>hrz e.symm);have C5:=C4.step (K':=fun k=>K k∨w.heap.size≤k) F5 (fun k _ e=>by rw[e];exact HN.out r hrb) (fun _ h=>.inl h);have G5:=G4.trans' F5 (fun k hk e=>HO.out k r hk hrb e);generalize (((w4'.setCell ⟨r,0,none⟩ (.int .i64 0)).setCell ⟨r,1,none⟩ (.int .i64 0)).setCell ⟨r,2,none⟩ (.bool false))=w5 at *
  have n0:=B5.cell 0;have n1:=B5.cell 1;have n2:=B5.cell 2;simp at n0 n1 n2
  refine bodyPost_ret (v:=.tuple #[.agg #[.int .i64 0,.int .i64 0,.bool false],.int .i64 x]) (by simp[results,Tryz.results388,go_sem,n0,n1,n2]) rfl ?_;clear SR ZR SZ ZZ B5 n0 n1 n2;have SZ:=BZ5.cell;have ZZ:=BZ5.frozen;go_wp2_with fail
  obtain⟨B6,F6⟩:=set3 BZ5 (.int .i64 0) (.int .i64 0) (.bool false)
  have C6:=C5.step (K':=K) F6 (fun k _ e=>by rw[e];exact HN.out (bx+1) (by omega)) (fun _ h=>.inl (.inl h));have G6:=G5.trans' F6 (fun k hk e=>HO.out k (bx+1) hk (by omega) e);generalize (((w5.setCell ⟨bx+1,0,none⟩ (.int .i64 0)).setCell ⟨bx+1,1,none⟩ (.int .i64 0)).setCell ⟨bx+1,2,none⟩ (.bool false))=w6 at *
  have n0:=B6.cell 0;have n1:=B6.cell 1;have n2:=B6.cell 2;simp at n0 n1 n2
  refine bodyPost_ret (v:=.tuple #[.agg #[.int .i64 0,.int .i64 0,.bool false],.int .i64 x]) (by simp[results,Tryz.results373,go_sem,n0,n1,n2]) rfl ?_;cases hr:readTagS (bs.drop p) with
  |error e=>
   have ht:=HT.out;rw[hr]at ht
   exact⟨⟨⟨0,0,false⟩,_,rfl,ht⟩,C6,G6⟩
  |ok vk=>
   obtain⟨v,k⟩:=vk
   have ht:=HT.out;rw[hr]at ht
   exact absurd ht.2 hx
def frontOut (r:Except Int (Tag × Nat × Nat))(t:Tag)(n:Nat)(e:Int):Prop:=
 match r with
 |.ok (u,m,_)=>t=u∧n=m∧e=0
 |.error x=>e=x
def frontV (t:Tag)(n:Nat):Value:=.agg #[.int .i64 t.cls,.int .i64 t.num,.bool t.made,.int .i64 n]
def posR (p:Nat):Except Int (Tag × Nat × Nat)→Nat
 |.ok (_,_,k)=>p+k
 |.error _=>p
theorem readS_err {l:List UInt8}{e:Int}(h:readS l=.error e):e≠0:=by
 unfold readS at h;split at h
 ·rename_i e' he
  cases h
  exact readTagS_err he
 ·split at h
  ·rename_i e' he
   cases h
   exact readLenS_err he
  ·cases h
theorem readS_e1 {l:List UInt8}{e:Int}(h:readTagS l=.error e):readS l=.error e:=by
 unfold readS;simp only[h]
theorem readS_e2 {l:List UInt8}{t:Tag}{k:Nat}{e:Int}(h:readTagS l=.ok (t,k))(h2:readLenS (l.drop k)=.error e):readS l=.error e:=by
 unfold readS;simp only[h,h2]
theorem readS_ok {l:List UInt8}{t:Tag}{k n m:Nat}(h:readTagS l=.ok (t,k))(h2:readLenS (l.drop k)=.ok (n,m)):readS l=.ok (t,n,k+m):=by
 unfold readS;simp only[h,h2]
theorem set4 {w:World}{z:Nat}{t:TypeId}{x y u v:Value}(h:Blk w z t #[x,y,u,v])(a b c d:Value) :
  Blk ((((w.setCell ⟨z,0,none⟩ a).setCell ⟨z,1,none⟩ b).setCell ⟨z,2,none⟩ c).setCell ⟨z,3,none⟩ d) z t #[a,b,c,d]∧Fr (fun k=>k=z) w ((((w.setCell ⟨z,0,none⟩ a).setCell ⟨z,1,none⟩ b).setCell ⟨z,2,none⟩ c).setCell ⟨z,3,none⟩ d):=by
 have G:∀ {w':World},Fr (fun k=>k=z) w w'→∀ (i:Nat) (v:Value),Fr (fun k=>k=z) w (w'.setCell ⟨z,i,none⟩ v):=fun f i v=>Fr.setCell (S:=fun k=>k=z) (p:=⟨z,i,none⟩) f (fun _=>rfl) v
 refine⟨?_,G (G (G (G (Fr.refl w) _ _) _ _) _ _) _ _⟩
 have:=(((h.set 0 a).set 1 b).set 2 c).set 3 d;simpa using this
theorem read1_any {w:World}{c:Nat}{K:Nat→Prop}{bs:List UInt8}{p:Nat}(h:CurAt w c K bs p)(bx:Nat)(B:Blk w bx 236 #[pt c])(hbx:bx≠c) :
  Calls Tryz.prog 372 #[pt bx] w fun e w'=>(∃ t n x,e=.returned (.tuple #[frontV t n,.int .i64 x])∧frontOut (readS (bs.drop p)) t n x)∧(∃ q,p≤q∧CurAt w' c K bs q∧∀ t n k,readS (bs.drop p)=.ok (t,n,k)→q=p+k)∧Fr (fun k=>k=c) w w':=by
 have hlc:=h.lt;have hlb:=B.lt;obtain⟨z,hz⟩:∃ z,z=w.heap.size:=⟨_,rfl⟩
 have BZ:=Blk.new w 434 #[.int .i64 0,.int .i64 0,.bool false,.int .i64 0];have F0:Fz w (w.alloc (.cells #[.int .i64 0,.int .i64 0,.bool false,.int .i64 0] 434)):=(Fr.refl w).alloc _;have H:=Hi (h.step (K':=fun k=>K k∨w.heap.size≤k) F0 (fun _ _ h=>h.elim) (fun _ h=>h));replace B:=B.fr F0 (fun h=>h);have e0:=B.cell 0;simp at e0
 rw[←hz]at BZ
 have hzc:z≠c:=by omega
 have hzw:∀ k,k<w.heap.size→k=z→k=c:=fun k hk e=>by omega
 have hbz:bx≠z:=by omega
 have HZ:=Hi hz;clear h hz;go_enter Tryz.func372,Tryz.ntmps372
 go_upto_region 1 with fail
 rw[←HZ.out]
 generalize (w.alloc (.cells #[.int .i64 0,.int .i64 0,.bool false,.int .i64 0] 434))=w0 at *
 go_wp2_with fail
 refine(readTag_any H.out).mono ?_
 rintro e w1 ⟨⟨t,x,rfl,ht⟩,C1,F1⟩;obtain⟨tc,tn,tm⟩:=t
 rw[show tagV ⟨tc,tn,tm⟩=.agg #[.int .i64 tc,.int .i64 tn,.bool tm] from rfl]
 have HT:=Hi ht;replace BZ:=BZ.fr F1 hzc;replace B:=B.fr F1 hbx;have hzl:=BZ.lt;have hbl:=B.lt;have hcl:=C1.lt;go_upto_region 2 with fail
 obtain⟨d,hd⟩:∃ d,d=w1.heap.size:=⟨_,rfl⟩
 have BD:=Blk.new w1 201 #[.int .i64 tc,.int .i64 tn,.bool tm];have F2:Fz w1 (w1.alloc (.cells #[.int .i64 tc,.int .i64 tn,.bool tm] 201)):=(Fr.refl w1).alloc _;replace BZ:=BZ.fr F2 (fun h=>h);replace B:=B.fr F2 (fun h=>h);have HC2:=Hi (C1.old F2);have HG2:=Hi (((F0.mono (T:=fun k=>k=c) (fun _ _ h=>h.elim)).trans F1).trans (F2.mono (fun _ _ h=>h.elim)));rw[←hd]at BD ⊢
 have hdz:d≠z:=by omega
 have hdc:d≠c:=by omega
 have hdw:∀ k,k<w.heap.size→k=d→k=c:=fun k hk e=>by have:=HZ.out;omega
 replace e0:=B.cell 0;simp at e0
 clear hd F2 F1 C1 F0 H ht hzl hbl hcl;generalize (w1.alloc (.cells #[.int .i64 tc,.int .i64 tn,.bool tm] 201))=w2 at *
 by_cases hx:x=0
 ·subst hx
  have hok:∃ k,readTagS (bs.drop p)=.ok (⟨tc,tn,tm⟩,k):=by
   have ht:=HT.out;cases hr:readTagS (bs.drop p) with
   |error e=>rw[hr]at ht;exact absurd ht.symm (readTagS_err hr)
   |ok vk=>obtain⟨v,k⟩:=vk;rw[hr]at ht;exact⟨k,by rw[ht.1]⟩
  obtain⟨k,hk⟩:=hok
  have HK:=Hi hk;have hc2:=HC2.out;rw[hk]at hc2
  have HL:=Hi (readLength_any hc2);have SD:=BD.cell;clear HC2 hk hc2;go_wp2_with fail
  refine HL.out.mono ?_;rintro e w3 ⟨rfl,C3,F3⟩;have hdd:bs.drop (posOf p (.ok (⟨tc,tn,tm⟩,k):Except Int (Tag × Nat)))=(bs.drop p).drop k:=by rw[List.drop_drop];rfl
  rw[hdd]at C3 ⊢
  replace BZ:=BZ.fr F3 hzc;replace BD:=BD.fr F3 hdc;have HG3:=Hi (HG2.out.trans F3);have HC3:=Hi C3;have SZ:=BZ.cell;have ZZ:=BZ.frozen;replace SD:=BD.cell;clear F3 C3 HG2 HL e0 B;cases hr:readLenS ((bs.drop p).drop k) with
  |error e1=>
   have hE:=readS_e2 HK.out hr;have HE:=Hi hE;have HR:=Hi hr;clear hr hE;simp only[numR]
   go_wp2_with fail
   obtain⟨B5,F5⟩:=set4 BZ (.int .i64 tc) (.int .i64 tn) (.bool tm) (.int .i64 0)
   have C5:=HC3.out.step (K':=K) F5 (fun k _ e=>.inr (by rw[e,HZ.out];exact Nat.le_refl _)) (fun _ h=>.inl (.inl h));have G5:=HG3.out.trans' F5 hzw;generalize ((((w3.setCell ⟨z,0,none⟩ (.int .i64 tc)).setCell ⟨z,1,none⟩ (.int .i64 tn)).setCell ⟨z,2,none⟩ (.bool tm)).setCell ⟨z,3,none⟩ (.int .i64 0))=w5 at *
   have n0:=B5.cell 0;have n1:=B5.cell 1;have n2:=B5.cell 2;have n3:=B5.cell 3;simp at n0 n1 n2 n3
   refine bodyPost_ret (v:=.tuple #[.agg #[.int .i64 tc,.int .i64 tn,.bool tm,.int .i64 0],.int .i64 e1]) (by simp[results,Tryz.results372,go_sem,n0,n1,n2,n3]) rfl ?_;rw[HR.out]at C5
   rw[HE.out]
   exact⟨⟨⟨tc,tn,tm⟩,0,_,rfl,rfl⟩,⟨p+k,by omega,C5,by simp⟩,G5⟩
  |ok vk=>
   obtain⟨v,m⟩:=vk
   have hE:=readS_ok HK.out hr;have HE:=Hi hE;have HR:=Hi hr;clear hr hE;simp only[numR]
   go_wp2_with fail
   obtain⟨B5,F5⟩:=set4 BZ (.int .i64 tc) (.int .i64 tn) (.bool tm) (.int .i64 v)
   have C5:=HC3.out.step (K':=K) F5 (fun k _ e=>.inr (by rw[e,HZ.out];exact Nat.le_refl _)) (fun _ h=>.inl (.inl h));have G5:=HG3.out.trans' F5 hzw;generalize ((((w3.setCell ⟨z,0,none⟩ (.int .i64 tc)).setCell ⟨z,1,none⟩ (.int .i64 tn)).setCell ⟨z,2,none⟩ (.bool tm)).setCell ⟨z,3,none⟩ (.int .i64 v))=w5 at *
   have n0:=B5.cell 0;have n1:=B5.cell 1;have n2:=B5.cell 2;have n3:=B5.cell 3;simp at n0 n1 n2 n3
   refine bodyPost_ret (v:=.tuple #[.agg #[.int .i64 tc,.int .i64 tn,.bool tm,.int .i64 v],.int .i64 0]) (by simp[results,Tryz.results372,go_sem,n0,n1,n2,n3]) rfl ?_;rw[HR.out]at C5
   rw[HE.out]
   refine⟨⟨⟨tc,tn,tm⟩,v,_,rfl,rfl,rfl,rfl⟩,⟨p+k+m,by omega,C5,fun t' n' k' e=>?_⟩,G5⟩
   simp only[Except.ok.injEq,Prod.mk.injEq]at e
   omega
 ·have hx1:(x==0)=false:=beq_eq_false_iff_ne.2 hx
  have herr:readTagS (bs.drop p)=.error x:=by
   have ht:=HT.out;cases hr:readTagS (bs.drop p) with
   |error e=>rw[hr]at ht;rw[show x=e from ht]
   |ok vk=>obtain⟨v,k⟩:=vk;rw[hr]at ht;exact absurd ht.2 hx
  have hE:=readS_e1 herr;have HE:=Hi hE;have hc2:=HC2.out;rw[herr]at hc2
  have HC3:=Hi hc2;have SZ:=BZ.cell;have ZZ:=BZ.frozen;clear herr hE HC2 hc2;go_wp2_with fail
  obtain⟨B5,F5⟩:=set4 BZ (.int .i64 0) (.int .i64 0) (.bool false) (.int .i64 0)
  have C5:=HC3.out.step (K':=K) F5 (fun k _ e=>.inr (by rw[e,HZ.out];exact Nat.le_refl _)) (fun _ h=>.inl (.inl h));have G5:=HG2.out.trans' F5 hzw;generalize ((((w2.setCell ⟨z,0,none⟩ (.int .i64 0)).setCell ⟨z,1,none⟩ (.int .i64 0)).setCell ⟨z,2,none⟩ (.bool false)).setCell ⟨z,3,none⟩ (.int .i64 0))=w5 at *
  have n0:=B5.cell 0;have n1:=B5.cell 1;have n2:=B5.cell 2;have n3:=B5.cell 3;simp at n0 n1 n2 n3
  refine bodyPost_ret (v:=.tuple #[.agg #[.int .i64 0,.int .i64 0,.bool false,.int .i64 0],.int .i64 x]) (by simp[results,Tryz.results372,go_sem,n0,n1,n2,n3]) rfl ?_;rw[HE.out]
  exact⟨⟨⟨0,0,false⟩,0,_,rfl,rfl⟩,⟨p,Nat.le_refl _,C5,by simp⟩,G5⟩
theorem read_any {w:World}{c:Nat}{K:Nat→Prop}{bs:List UInt8}{p:Nat}(h:CurAt w c K bs p) :
  Calls Tryz.prog 335 #[pt c] w fun e w'=>(∃ t n x,e=.returned (.tuple #[frontV t n,.int .i64 x])∧frontOut (readS (bs.drop p)) t n x)∧CurAt w' c K bs (posR p (readS (bs.drop p)))∧Fr (fun k=>k=c) w w':=by
 have hlc:=h.lt;obtain⟨bx,hbx⟩:∃ bx,bx=w.heap.size:=⟨_,rfl⟩
 have B:=(Blk.new w 236 #[pt c]).alloc (.cells #[.int .i64 0,.int .i64 0,.bool false,.int .i64 0] 434);have BZ:=Blk.new (w.alloc (.cells #[pt c] 236)) 434 #[.int .i64 0,.int .i64 0,.bool false,.int .i64 0];rw[World.size_alloc]at BZ
 have F:Fz w ((w.alloc (.cells #[pt c] 236)).alloc (.cells #[.int .i64 0,.int .i64 0,.bool false,.int .i64 0] 434)):=((Fr.refl w).alloc _).alloc _;have H:=Hi (h.step (K':=fun k=>K k∨w.heap.size≤k) F (fun _ _ h=>h.elim) (fun _ h=>h));rw[←hbx]at B BZ
 have hbc:bx≠c:=by omega
 have hzc:bx+1≠c:=by omega
 have hnew:∀ k,bx≤k→(fun k=>K k∨w.heap.size≤k) k:=fun k hk=>.inr (by omega)
 have hold:∀ k i,k<w.heap.size→bx≤i→k=i→k=c:=fun k i hk hi e=>by omega
 have HBX:=Hi hbx;have HN:=Hi hnew;have HO:=Hi hold;have e0:=B.cell 0;simp at e0
 clear h hlc hbx hnew hold;go_enter Tryz.func335,Tryz.ntmps335
 go_upto_region 1 with fail
 rw[←HBX.out]
 generalize ((w.alloc (.cells #[pt c] 236)).alloc (.cells #[.int .i64 0,.int .i64 0,.bool false,.int .i64 0] 434))=w0 at *
 go_wp2_with (first|(go_at_call 371;go_in))
 obtain⟨r,hr⟩:∃ r,r=w0.heap.size:=⟨_,rfl⟩
 have BR:=Blk.new w0 434 #[.int .i64 0,.int .i64 0,.bool false,.int .i64 0];have F1:Fz w0 (w0.alloc (.cells #[.int .i64 0,.int .i64 0,.bool false,.int .i64 0] 434)):=(Fr.refl w0).alloc _;have H1:=Hi (H.out.old F1);have hlt:=BZ.lt;have hclt:=H.out.lt;rw[←hr]at BR ⊢
 replace B:=B.fr F1 (fun h=>h);replace BZ:=BZ.fr F1 (fun h=>h);have G1:=F.trans F1;have hrc:r≠c:=by omega
 have hrz:r≠bx+1:=by omega
 have hrb:bx≤r:=by omega
 have hrl:=BR.lt;have HRS:=Hi hr;clear hr F F1 H hlt hclt e0;generalize (w0.alloc (.cells #[.int .i64 0,.int .i64 0,.bool false,.int .i64 0] 434))=w1 at *
 refine(at_any H1.out).mono ?_
 rintro e w1' ⟨rfl,rfl⟩;go_wp2_with fail
 refine(read1_any H1.out bx B hbc).mono ?_
 rintro e w2 ⟨⟨t,fn,x,rfl,ht⟩,⟨q,hq,C2,hpos⟩,F2⟩;have HP:=Hi hpos;have HT:=Hi ht;have HQ:=Hi hq;replace BZ:=BZ.fr F2 hzc;replace BR:=BR.fr F2 hrc;have HG2:=Hi ((G1.mono (T:=fun k=>k=c) (fun _ _ h=>h.elim)).trans F2);have HC2:=Hi C2;have hclt:=C2.lt;obtain⟨tc,tn,tm⟩:=t
 clear hpos F2 G1 ht hq C2 B H1 HRS;rw[show frontV ⟨tc,tn,tm⟩ fn=.agg #[.int .i64 tc,.int .i64 tn,.bool tm,.int .i64 fn] from rfl]
 go_upto_region 3 with fail
 obtain⟨d,hd⟩:∃ d,d=w2.heap.size:=⟨_,rfl⟩
 have BD:=Blk.new w2 434 #[.int .i64 tc,.int .i64 tn,.bool tm,.int .i64 fn];have F3:Fz w2 (w2.alloc (.cells #[.int .i64 tc,.int .i64 tn,.bool tm,.int .i64 fn] 434)):=(Fr.refl w2).alloc _;have hzl:=BZ.lt;have hrl2:=BR.lt;replace BZ:=BZ.fr F3 (fun h=>h);replace BR:=BR.fr F3 (fun h=>h);have HG3:=Hi (HG2.out.trans (F3.mono (fun _ _ h=>h.elim)));have HC3:=Hi (HC2.out.old F3);rw[←hd]at BD ⊢
 have hdz:d≠bx+1:=by omega
 have hdr:d≠r:=by omega
 have hdc:d≠c:=by omega
 have hdb:bx≤d:=by omega
 clear hd F3 HG2 HC2 hclt hzl hrl2;generalize (w2.alloc (.cells #[.int .i64 tc,.int .i64 tn,.bool tm,.int .i64 fn] 434))=w3 at *
 by_cases hx:x=0
 ·subst hx
  have SZ:=BZ.cell;have ZZ:=BZ.frozen;have SR:=BR.cell;have ZR:=BR.frozen;have SD:=BD.cell;go_wp2_with fail
  obtain⟨B5,F5⟩:=set4 BR (.int .i64 tc) (.int .i64 tn) (.bool tm) (.int .i64 fn)
  have BZ5:=BZ.fr F5 (fun e=>hrz e.symm);have C5:=HC3.out.step (K':=fun k=>K k∨w.heap.size≤k) F5 (fun k _ e=>by rw[e];exact HN.out r hrb) (fun _ h=>.inl h);have G5:=HG3.out.trans' F5 (fun k hk e=>HO.out k r hk hrb e);generalize ((((w3.setCell ⟨r,0,none⟩ (.int .i64 tc)).setCell ⟨r,1,none⟩ (.int .i64 tn)).setCell ⟨r,2,none⟩ (.bool tm)).setCell ⟨r,3,none⟩ (.int .i64 fn))=w5 at *
  have n0:=B5.cell 0;have n1:=B5.cell 1;have n2:=B5.cell 2;have n3:=B5.cell 3;simp at n0 n1 n2 n3
  refine bodyPost_ret (v:=.tuple #[.agg #[.int .i64 tc,.int .i64 tn,.bool tm,.int .i64 fn],.int .i64 0]) (by simp[results,Tryz.results371,go_sem,n0,n1,n2,n3]) rfl ?_;clear SR ZR SZ ZZ B5 n0 n1 n2 n3;have SZ:=BZ5.cell;have ZZ:=BZ5.frozen;go_wp2_with fail
  obtain⟨B6,F6⟩:=set4 BZ5 (.int .i64 tc) (.int .i64 tn) (.bool tm) (.int .i64 fn)
  have C6:=C5.step (K':=K) F6 (fun k _ e=>by rw[e];exact HN.out (bx+1) (by omega)) (fun _ h=>.inl (.inl h));have G6:=G5.trans' F6 (fun k hk e=>HO.out k (bx+1) hk (by omega) e);generalize ((((w5.setCell ⟨bx+1,0,none⟩ (.int .i64 tc)).setCell ⟨bx+1,1,none⟩ (.int .i64 tn)).setCell ⟨bx+1,2,none⟩ (.bool tm)).setCell ⟨bx+1,3,none⟩ (.int .i64 fn))=w6 at *
  have n0:=B6.cell 0;have n1:=B6.cell 1;have n2:=B6.cell 2;have n3:=B6.cell 3;simp at n0 n1 n2 n3
  refine bodyPost_ret (v:=.tuple #[.agg #[.int .i64 tc,.int .i64 tn,.bool tm,.int .i64 fn],.int .i64 0]) (by simp[results,Tryz.results335,go_sem,n0,n1,n2,n3]) rfl ?_;cases hr:readS (bs.drop p) with
  |error e=>
   have ht:=HT.out;rw[hr]at ht
   exact absurd ht.symm (readS_err hr)
  |ok vk=>
   obtain⟨v,m,k⟩:=vk
   have ht:=HT.out;rw[hr]at ht
   have:=HP.out v m k hr;subst this;exact⟨⟨_,_,_,rfl,ht⟩,C6,G6⟩
 ·have hx1:(x==0)=false:=beq_eq_false_iff_ne.2 hx
  go_upto_region 5 with fail
  obtain⟨u,hu⟩:∃ u,u=w3.heap.size:=⟨_,rfl⟩
  have BU:=Blk.new w3 434 #[.int .i64 0,.int .i64 0,.bool false,.int .i64 0];have F4:Fz w3 (w3.alloc (.cells #[.int .i64 0,.int .i64 0,.bool false,.int .i64 0] 434)):=(Fr.refl w3).alloc _;have hzl:=BZ.lt;have hrl2:=BR.lt;have hcl:=HC3.out.lt;replace BZ:=BZ.fr F4 (fun h=>h);replace BR:=BR.fr F4 (fun h=>h);have HG4:=Hi (HG3.out.trans (F4.mono (fun _ _ h=>h.elim)));have HC4:=Hi (HC3.out.old F4);rw[←hu]at BU ⊢
  have huz:u≠bx+1:=by omega
  have hur:u≠r:=by omega
  have huc:u≠c:=by omega
  clear hu F4 HG3 HC3 hcl hzl hrl2 BD;generalize (w3.alloc (.cells #[.int .i64 0,.int .i64 0,.bool false,.int .i64 0] 434))=w4 at *
  go_wp2_with fail
  refine(back_any HC4.out p HQ.out).mono ?_
  rintro e w4' ⟨rfl,C4,F4⟩;replace BZ:=BZ.fr F4 hzc;replace BR:=BR.fr F4 hrc;replace BU:=BU.fr F4 huc;have G4:=HG4.out.trans F4;have SZ:=BZ.cell;have ZZ:=BZ.frozen;have SR:=BR.cell;have ZR:=BR.frozen;have SU:=BU.cell;clear HG4 HC4 F4;go_wp2_with fail
  obtain⟨B5,F5⟩:=set4 BR (.int .i64 0) (.int .i64 0) (.bool false) (.int .i64 0)
  have BZ5:=BZ.fr F5 (fun e=>hrz e.symm);have C5:=C4.step (K':=fun k=>K k∨w.heap.size≤k) F5 (fun k _ e=>by rw[e];exact HN.out r hrb) (fun _ h=>.inl h);have G5:=G4.trans' F5 (fun k hk e=>HO.out k r hk hrb e);generalize ((((w4'.setCell ⟨r,0,none⟩ (.int .i64 0)).setCell ⟨r,1,none⟩ (.int .i64 0)).setCell ⟨r,2,none⟩ (.bool false)).setCell ⟨r,3,none⟩ (.int .i64 0))=w5 at *
  have n0:=B5.cell 0;have n1:=B5.cell 1;have n2:=B5.cell 2;have n3:=B5.cell 3;simp at n0 n1 n2 n3
  refine bodyPost_ret (v:=.tuple #[.agg #[.int .i64 0,.int .i64 0,.bool false,.int .i64 0],.int .i64 x]) (by simp[results,Tryz.results371,go_sem,n0,n1,n2,n3]) rfl ?_;clear SR ZR SZ ZZ B5 n0 n1 n2 n3;have SZ:=BZ5.cell;have ZZ:=BZ5.frozen;go_wp2_with fail
  obtain⟨B6,F6⟩:=set4 BZ5 (.int .i64 0) (.int .i64 0) (.bool false) (.int .i64 0)
  have C6:=C5.step (K':=K) F6 (fun k _ e=>by rw[e];exact HN.out (bx+1) (by omega)) (fun _ h=>.inl (.inl h));have G6:=G5.trans' F6 (fun k hk e=>HO.out k (bx+1) hk (by omega) e);generalize ((((w5.setCell ⟨bx+1,0,none⟩ (.int .i64 0)).setCell ⟨bx+1,1,none⟩ (.int .i64 0)).setCell ⟨bx+1,2,none⟩ (.bool false)).setCell ⟨bx+1,3,none⟩ (.int .i64 0))=w6 at *
  have n0:=B6.cell 0;have n1:=B6.cell 1;have n2:=B6.cell 2;have n3:=B6.cell 3;simp at n0 n1 n2 n3
  refine bodyPost_ret (v:=.tuple #[.agg #[.int .i64 0,.int .i64 0,.bool false,.int .i64 0],.int .i64 x]) (by simp[results,Tryz.results335,go_sem,n0,n1,n2,n3]) rfl ?_;cases hr:readS (bs.drop p) with
  |error e=>
   have ht:=HT.out;rw[hr]at ht
   exact⟨⟨⟨0,0,false⟩,0,_,rfl,ht⟩,C6,G6⟩
  |ok vk=>
   obtain⟨v,m,k⟩:=vk
   have ht:=HT.out;rw[hr]at ht
   exact absurd ht.2.2 hx
theorem headRead_any {w:World}{c:Nat}{K:Nat→Prop}{bs:List UInt8}{p:Nat}(h:CurAt w c K bs p) :
  Calls Tryz.prog 280 #[pt c] w fun e w'=>(∃ t n x,e=.returned (.tuple #[tagV t,.int .i64 (n:Nat),.int .i64 x])∧frontOut (readS (bs.drop p)) t n x)∧CurAt w' c K bs (posR p (readS (bs.drop p)))∧Fr (fun k=>k=c) w w':=by
 have hlc:=h.lt;obtain⟨z,hz⟩:∃ z,z=w.heap.size:=⟨_,rfl⟩
 have BZ:=Blk.new w 201 #[.int .i64 0,.int .i64 0,.bool false];have F0:Fz w (w.alloc (.cells #[.int .i64 0,.int .i64 0,.bool false] 201)):=(Fr.refl w).alloc _;have H:=Hi (h.step (K':=fun k=>K k∨w.heap.size≤k) F0 (fun _ _ h=>h.elim) (fun _ h=>h));rw[←hz]at BZ
 have hzc:z≠c:=by omega
 have hzw:∀ k,k<w.heap.size→k=z→k=c:=fun k hk e=>by omega
 have HZ:=Hi hz;clear h hz;go_enter Tryz.func280,Tryz.ntmps280
 go_upto_region 1 with fail
 rw[←HZ.out]
 generalize (w.alloc (.cells #[.int .i64 0,.int .i64 0,.bool false] 201))=w0 at *
 go_wp2_with fail
 refine(read_any H.out).mono ?_
 rintro e w1 ⟨⟨t,n,x,rfl,ht⟩,C1,F1⟩;obtain⟨tc,tn,tm⟩:=t
 rw[show frontV ⟨tc,tn,tm⟩ n=.agg #[.int .i64 tc,.int .i64 tn,.bool tm,.int .i64 n] from rfl]
 have HT:=Hi ht;replace BZ:=BZ.fr F1 hzc;have hzl:=BZ.lt;go_upto_region 2 with fail
 obtain⟨d,hd⟩:∃ d,d=w1.heap.size:=⟨_,rfl⟩
 have BD:=Blk.new w1 434 #[.int .i64 tc,.int .i64 tn,.bool tm,.int .i64 n];have F2:Fz w1 (w1.alloc (.cells #[.int .i64 tc,.int .i64 tn,.bool tm,.int .i64 n] 434)):=(Fr.refl w1).alloc _;replace BZ:=BZ.fr F2 (fun h=>h);have HC2:=Hi (C1.old F2);have HG2:=Hi (((F0.mono (T:=fun k=>k=c) (fun _ _ h=>h.elim)).trans F1).trans (F2.mono (fun _ _ h=>h.elim)));rw[←hd]at BD ⊢
 have hdz:d≠z:=by omega
 clear hd F2 F1 C1 F0 H ht hzl;generalize (w1.alloc (.cells #[.int .i64 tc,.int .i64 tn,.bool tm,.int .i64 n] 434))=w2 at *
 have SZ:=BZ.cell;have ZZ:=BZ.frozen;have SD:=BD.cell;go_region
 all_goals
  go_wp2_with fail
  obtain⟨B5,F5⟩:=set3 BZ (.int .i64 tc) (.int .i64 tn) (.bool tm)
  have C5:=HC2.out.step (K':=K) F5 (fun k _ e=>.inr (by rw[e,HZ.out];exact Nat.le_refl _)) (fun _ h=>.inl (.inl h));have G5:=HG2.out.trans' F5 hzw;generalize (((w2.setCell ⟨z,0,none⟩ (.int .i64 tc)).setCell ⟨z,1,none⟩ (.int .i64 tn)).setCell ⟨z,2,none⟩ (.bool tm))=w5 at *
  have n0:=B5.cell 0;have n1:=B5.cell 1;have n2:=B5.cell 2;simp at n0 n1 n2
  refine bodyPost_ret (v:=.tuple #[.agg #[.int .i64 tc,.int .i64 tn,.bool tm],.int .i64 n,.int .i64 x]) (by simp[results,Tryz.results280,go_sem,n0,n1,n2]) rfl ?_;exact⟨⟨⟨tc,tn,tm⟩,n,x,rfl,HT.out⟩,C5.old (Fr.refl w5).drew,G5.drew⟩
end Go.Proofs.YteidmhkobmddiaaGreatDoor
