/-
  Merged by program: XIxIns2 XIxSideI XIxSeq XIxSdA XIxSd XIxSide2 XIxPairs XIxSeq2.
-/
import Derived.Test.YtehlipgmkinfbaaGreatDoorU0ao
import Derived.Test.YtehlipgmkinfbaaGreatDoorU0as
import Derived.Deep.RegionHeld3
import Derived.Test.YtehlipgmkinfbaaGreatDoorU0ae
import Derived.RangeFuncNested
import Derived.RangeFuncBound
import Derived.RangeFuncCalls
import Derived.RangeFuncLeaves
import Derived.Shelf.Abstract
import Derived.Shelf.RegionOpen
import Derived.OwnWalkIn
import Derived.TacticsInMore
import Derived.LoopNIn
import Derived.LoopIn
import Derived.Test.YtehlipgmkinfbaaGreatDoorU0af
import Derived.Test.YtehlipgmkinfbaaGreatDoorU0ap
import Derived.Sort.QuietIn
import Derived.Sort.QuietTacIn
import Derived.Sort.CutIn
set_option linter.unusedSimpArgs false
set_option maxRecDepth 100000
set_option maxHeartbeats 8000000
namespace Go.Proofs.YtehlipgmkinfbaaGreatDoor
open Go Go.RowKit Go.Q
theorem orderSlots_any (cs ds:List Value) (r q:RowP) (w:World) (h:RSlot w cs r) (hu:RSlot w ds q) (h1:r.num.size.length≤1000000) (h2:q.num.size.length≤1000000) :
  Calls Tryz.prog 39 #[.agg cs.toArray,.agg ds.toArray] w fun e w'=>e=.returned (.int .i64 (rowC r q))∧Fr (fun _=>False) w w':=by
 obtain ⟨us,rfl,g1⟩:=h;obtain ⟨vs,rfl,g2⟩:=hu;obtain ⟨a1,c1,a2,c2,q1,rfl,-,b1,-⟩:=g1.form;obtain ⟨d1,e1,d2,e2,q2,rfl,-,b2,-⟩:=g2.form;rw [rowC_keys];exact order_any _ _ r.num q.num _ _ _ _ _ _ _ _ _ _ _ _ _ _ _ _ w b1 b2 (by omega) (by omega)
theorem seven_of {l:List Value}(h:l.length=7):∃ a b c d e f g,l=[a,b,c,d,e,f,g]:=by
 match l,h with
 | [a,b,c,d,e,f,g],_=>exact ⟨a,b,c,d,e,f,g,rfl⟩
theorem insSort_any (v:Value) (l:List RowP) (base:Nat) (K:Nat→Prop) (w:World) (h:GRow 7 RSlot K 78 w base v l) (hl:l.length≤12) (hs:∀ r∈l,r.num.size.length≤1000000) :
  Calls Tryz.prog 98 #[v,.int .i64 0,.int .i64 l.length,.func (.func 39) #[] #[]] w fun e w'=>e=.returned (.tuple #[])∧(∃ s,s.Perm l∧Upw ltK rowK s∧GRow 7 RSlot K 78 w' base v s)∧Fr (fun k=>v.ownBlock=some k) w w':=by
 obtain ⟨a,c,rfl⟩:=h.shape;have H:=Hi h;have HS:=Hi hs;clear h hs;go_enter Tryz.func98,Tryz.ntmps98
 go_wp2_with fail
 go_loopg [8] l.length (fun g ii wr=>∃ (q:Nat) (s:List RowP),g=l.length-q∧q≤1000∧ii=.int .i64 ((q:Int)+1)∧Hid (s.Perm (l.take (q+1)))∧Hid (Upw ltK rowK s)∧Hid (GRow 7 RSlot K 78 wr base (.slice a l.length c) (s++l.drop (q+1)))∧Hid (Fr (fun k=>(Value.slice a l.length c).ownBlock=some k) w wr))
 case atStart=>
  refine ⟨0,l.take 1,rfl,by omega,rfl,Hi (List.Perm.refl _),Hi ?_,Hi (by rw [List.take_append_drop];exact H.out),Hi (Fr.refl _)⟩
  cases l with
  | nil=>exact List.Pairwise.nil
  | cons x t=>exact List.pairwise_singleton _ _
 case round=>
  obtain ⟨q,s,hg,hq,rfl,HP,HU,HGR,HF⟩:=hrel;have HG:=Hi hg;clear hg;generalize wr=w1 at *
  by_cases hql:q+1<l.length
  ·have q1:(q:Int)+1<(l.length:Int):=by omega
   obtain ⟨x,hx⟩:∃ x,l[q+1]? = some x:=⟨_,List.getElem?_eq_getElem hql⟩
   have HX:=Hi hx;have hd:l.drop (q+1)=x::l.drop (q+1+1):=by
    rw [List.drop_eq_getElem_cons hql];rw [List.getElem?_eq_getElem hql,Option.some.injEq] at hx;rw [hx]
   have HD:=Hi hd;have hxm:=List.mem_of_getElem? hx;have hsx:=HS.out x hxm;have hsl:s.length=q+1:=by
    have:=HP.out.length_eq
    rw [List.length_take] at this;omega
   have HSL:=Hi hsl;clear hx hd hsl hxm;go_wp2_with fail
   go_loopg [9] (q+1) (fun g jj wx=>∃ (P Q:List RowP),g=P.length∧jj=.int .i64 P.length∧P.length+Q.length=q+1∧Hid ((P++x::Q).Perm (l.take (q+1+1)))∧Hid (Mid ltK rowK P x Q)∧Hid (GRow 7 RSlot K 78 wx base (.slice a l.length c) (P++x::(Q++l.drop (q+1+1))))∧Hid (Fr (fun k=>(Value.slice a l.length c).ownBlock=some k) w wx))
   case atStart=>
    have hsl:=HSL.out;refine ⟨s,[],hsl.symm,by rw [hsl];rfl,by rw [hsl];rfl,Hi ?_,Hi (mid_start x HU.out),Hi ?_,HF⟩
    ·rw [List.take_add_one,HX.out]
     exact HP.out.append_right [x]
    ·have:=HGR.out
     rw [HD.out] at this;exact this
   case round=>
    obtain ⟨P,Q,hg2,rfl,hPQ,HP2,HM,HG2,HF2⟩:=hrel;have HGM:=Hi hg2;clear hg2;have HNX:=Hi (fun (hp:∀ p,P.getLast? = some p→ltK (rowK x) (rowK p)=false)=>show (P++x::Q).Perm (l.take (q+1+1))∧Upw ltK rowK (P++x::Q) from ⟨HP2.out,mid_end ordK HM.out hp⟩);rcases List.eq_nil_or_concat P with rfl | ⟨P',p,hPe⟩
    ·have c1:decide ((0:Int)<0)=false:=rfl
     have HFD:=Hi (fun k=>HF2.out.drewN (S:=fun k=>(Value.slice a l.length c).ownBlock=some k) k);have HGD:=Hi (fun k=>HG2.out.old ((Fr.refl wr).drewN (S:=fun _=>False) k));go_upto_region 4 with fail
     go_quiet (fail)
     go_wp2_with fail
     go_roundg (l.length-(q+1))
     case measure=>rw [HG.out];omega
     case rel=>exact ⟨q+1,[]++x::Q,rfl,by omega,by go_num,Hi (HNX.out (fun p hp=>by cases hp)).1,Hi (HNX.out (fun p hp=>by cases hp)).2,Hi (by have:=HGD.out nq;simp only [List.append_assoc,List.cons_append,List.nil_append] at this ⊢;exact this),Hi (HFD.out nq)⟩
    ·rw [List.concat_eq_append] at hPe
     subst hPe;obtain ⟨m,hm⟩:∃ m,m=P'.length:=⟨_,rfl⟩
     have hpl:(P'++[p]).length=m+1:=by rw [List.length_append,hm];rfl
     have hg3:=HG2.out;rw [List.append_assoc,List.singleton_append] at hg3;obtain ⟨g,cg,us,vs,hv,u1,v1,ku,kv,eu,ev,fz,hsw⟩:=hg3.swap7;simp only [Value.slice.injEq] at hv;obtain ⟨rfl,hln,rfl⟩:=hv;rw [←hm] at eu ev hsw;have hsp:=HS.out p (by
      have:p∈l.take (q+1+1):=HP2.out.mem_iff.1 (by simp)
      exact List.mem_of_mem_take this)
     have HC:=Hi (fun W (F:Fr (fun _=>False) wr W)=>orderSlots_any vs us x p W (kv.old F).now (ku.old F).now hsx hsp);have HSW:=Hi hsw;obtain ⟨k,hk⟩:∃ k,k=rowC x p:=⟨_,rfl⟩
     rw [←hk] at HC;have HK:=Hi hk;obtain ⟨us',hus,hpr⟩:=ku.now;obtain ⟨ks,hks⟩:∃ ks,str (nameKeyS p.iss)=.string ks:=⟨_,rfl⟩
     rw [hks] at hus;obtain ⟨e1,e2,e3,e4,e5,he,-⟩:=hpr.form;subst he;subst hus;obtain ⟨vs',hvs,hpr'⟩:=kv.now;obtain ⟨ls,hls⟩:∃ ls,str (nameKeyS x.iss)=.string ls:=⟨_,rfl⟩
     rw [hls] at hvs;obtain ⟨d1,d2,d3,d4,d5,he,-⟩:=hpr'.form;subst he;subst hvs;clear hks hls hpr hpr';have HFZ:=Hi fz;have HPL:=Hi hm
     have hE:∀ W,Fr (fun _=>False) wr W→(W.cell? ⟨g,m*7,none⟩=some (.string ks)∧W.cell? ⟨g,m*7+1,none⟩=some (.slice e1 p.iss.length e2)∧W.cell? ⟨g,m*7+2,none⟩=some (.bool p.num.below)∧W.cell? ⟨g,m*7+3,none⟩=some (.slice e3 p.num.size.length e4)∧W.cell? ⟨g,m*7+4,none⟩=some (.int .i64 p.date)∧W.cell? ⟨g,m*7+5,none⟩=some (.int .i64 p.reason)∧W.cell? ⟨g,m*7+6,none⟩=some (.pointer e5))∧(W.cell? ⟨g,(m+1)*7,none⟩=some (.string ls)∧W.cell? ⟨g,(m+1)*7+1,none⟩=some (.slice d1 x.iss.length d2)∧W.cell? ⟨g,(m+1)*7+2,none⟩=some (.bool x.num.below)∧W.cell? ⟨g,(m+1)*7+3,none⟩=some (.slice d3 x.num.size.length d4)∧W.cell? ⟨g,(m+1)*7+4,none⟩=some (.int .i64 x.date)∧W.cell? ⟨g,(m+1)*7+5,none⟩=some (.int .i64 x.reason)∧W.cell? ⟨g,(m+1)*7+6,none⟩=some (.pointer d5)):=fun W F=>
      ⟨⟨F.cell (eu 0 _ rfl) (fun h=>h),F.cell (eu 1 _ rfl) (fun h=>h),F.cell (eu 2 _ rfl) (fun h=>h),F.cell (eu 3 _ rfl) (fun h=>h),F.cell (eu 4 _ rfl) (fun h=>h),F.cell (eu 5 _ rfl) (fun h=>h),F.cell (eu 6 _ rfl) (fun h=>h)⟩,F.cell (ev 0 _ rfl) (fun h=>h),F.cell (ev 1 _ rfl) (fun h=>h),F.cell (ev 2 _ rfl) (fun h=>h),F.cell (ev 3 _ rfl) (fun h=>h),F.cell (ev 4 _ rfl) (fun h=>h),F.cell (ev 5 _ rfl) (fun h=>h),F.cell (ev 6 _ rfl) (fun h=>h)⟩
     have HEE:=Hi hE;have hml:m+1<l.length:=by omega
     have HML:=Hi hln;rw [hpl] at *
     have c0:decide ((0:Int)<(m:Int)+1)=true:=decide_eq_true (by omega)
     have c3:(0:Int)≤(m:Int):=by omega
     have c4:(m:Int)<(l.length:Int):=by omega
     have c5:(0:Int)≤(m:Int)+1:=by omega
     have c6:(m:Int)+1<(l.length:Int):=by omega
     have c7:((m:Int)+1).toNat=m+1:=by omega
     have hw1:IntKind.i64.wrap ((m:Int)+1-1)=(m:Int):=by simp [IntKind.wrap,IntKind.signed,IntKind.bits];omega
     have hw2:IntKind.i64.wrap (m:Int)=(m:Int):=by simp [IntKind.wrap,IntKind.signed,IntKind.bits];omega
     have HFD:=Hi ((Fr.refl wr).drew:Fr (fun _=>False) wr wr.drew);clear hk eu ev hsw ku kv fz hg3 hE hln hm;by_cases hlt:k<0
     ·have c1:decide (k<0)=true:=decide_eq_true hlt
      have HLT:=Hi (show ltK (rowK x) (rowK p)=true from rowC_neg.1 (by rw [←HK.out];exact hlt));clear hlt;go_upto_region 4 with fail
      go_region_held3 (fun w'=>(w'.cell? ⟨g,m*7,none⟩=some (.string ks)∧w'.cell? ⟨g,m*7+1,none⟩=some (.slice e1 p.iss.length e2)∧w'.cell? ⟨g,m*7+2,none⟩=some (.bool p.num.below)∧w'.cell? ⟨g,m*7+3,none⟩=some (.slice e3 p.num.size.length e4)∧w'.cell? ⟨g,m*7+4,none⟩=some (.int .i64 p.date)∧w'.cell? ⟨g,m*7+5,none⟩=some (.int .i64 p.reason)∧w'.cell? ⟨g,m*7+6,none⟩=some (.pointer e5))∧w'.cell? ⟨g,(m+1)*7,none⟩=some (.string ls)∧w'.cell? ⟨g,(m+1)*7+1,none⟩=some (.slice d1 x.iss.length d2)∧w'.cell? ⟨g,(m+1)*7+2,none⟩=some (.bool x.num.below)∧w'.cell? ⟨g,(m+1)*7+3,none⟩=some (.slice d3 x.num.size.length d4)∧w'.cell? ⟨g,(m+1)*7+4,none⟩=some (.int .i64 x.date)∧w'.cell? ⟨g,(m+1)*7+5,none⟩=some (.int .i64 x.reason)∧w'.cell? ⟨g,(m+1)*7+6,none⟩=some (.pointer d5)) (first | (with_reducible exact HEE.out _ HFD.out) | (with_reducible exact HEE.out _ (HFD.out.trans F2)) | fail) (first
       | (go_at_call 39;(with_reducible refine (HC.out _ HFD.out).mono ?_);rintro e w2 ⟨rfl,F2⟩)
       | fail)
      all_goals
       have HF3:=Hi (HFD.out.trans F2);have HF4:=Hi ((HFD.out.trans F2).drew);obtain ⟨⟨y0,y1,y2,y3,y4,y5,y6⟩,y7,y8,y9,y10,y11,y12,y13⟩:=HEE.out _ HF4.out;have fzz:=HFZ.out _ HF4.out;have f0:=fzz (m*7);have f1:=fzz (m*7+1);have f2:=fzz (m*7+2);have f3:=fzz (m*7+3);have f4:=fzz (m*7+4);have f5:=fzz (m*7+5);have f6:=fzz (m*7+6);have f7:=fzz ((m+1)*7);have f8:=fzz ((m+1)*7+1);have f9:=fzz ((m+1)*7+2);have f10:=fzz ((m+1)*7+3);have f11:=fzz ((m+1)*7+4);have f12:=fzz ((m+1)*7+5);have f13:=fzz ((m+1)*7+6);have gzz:=HFZ.out _ HF3.out;have g0:=gzz (m*7);have g1:=gzz (m*7+1);have g2:=gzz (m*7+2)
       have g3:=gzz (m*7+3);have g4:=gzz (m*7+4);have g5:=gzz (m*7+5);have g6:=gzz (m*7+6);have g7:=gzz ((m+1)*7);have g8:=gzz ((m+1)*7+1);have g9:=gzz ((m+1)*7+2);have g10:=gzz ((m+1)*7+3);have g11:=gzz ((m+1)*7+4);have g12:=gzz ((m+1)*7+5);have g13:=gzz ((m+1)*7+6);have hsA:=HSW.out _ HF3.out _ (.inl rfl);simp only [putL,Nat.add_assoc,Nat.reduceAdd] at hsA;have HSA:=Hi hsA;clear F2 fzz gzz hsA HC;go_upto_region 6 with fail
       go_region_law fail
       all_goals
        clear y0 y1 y2 y3 y4 y5 y6 y7 y8 y9 y10 y11 y12 y13 f0 f1 f2 f3 f4 f5 f6 f7 f8 f9 f10 f11 f12 f13 g0 g1 g2 g3 g4 g5 g6 g7 g8 g9 g10 g11 g12 g13;have HGX:=Hi (HSA.out.1.old ((Fr.refl _).drew));have HFX:=Hi ((HF2.out.trans (HF3.out.mono (T:=fun k=>(Value.slice (some ⟨g,0,none⟩) l.length c).ownBlock=some k) (fun _ _ h=>h.elim))).trans ((HSA.out.2.mono (T:=fun k=>(Value.slice (some ⟨g,0,none⟩) l.length c).ownBlock=some k) (fun k _ e=>by rw [e];rfl)).drew));clear HSA;go_wp2_with fail
        go_roundg m
        case measure=>have:=HPL.out;have:=HGM.out;simp only [List.length_append,List.length_singleton] at *;omega
        case rel=>exact ⟨P',p::Q,HPL.out,by first | (rw [←HPL.out];done) | (rw [←HPL.out];go_num),by have:=HPL.out;simp only [List.length_append,List.length_cons,List.length_nil] at hPQ ⊢;omega,Hi ((List.Perm.append_left P' (List.Perm.swap p x Q)).trans (by have:=HP2.out;rw [List.append_assoc] at this;exact this)),Hi (mid_step HM.out HLT.out),HGX,HFX⟩
     ·have c1:decide (k<0)=false:=decide_eq_false hlt
      have HLT:=Hi (show ltK (rowK x) (rowK p)=false from by
       cases h:ltK (rowK x) (rowK p) with
       | false=>rfl
       | true=>exact absurd (by rw [HK.out];exact rowC_neg.2 h) hlt)
      clear hlt;go_upto_region 4 with fail
      go_region_held3 (fun w'=>(w'.cell? ⟨g,m*7,none⟩=some (.string ks)∧w'.cell? ⟨g,m*7+1,none⟩=some (.slice e1 p.iss.length e2)∧w'.cell? ⟨g,m*7+2,none⟩=some (.bool p.num.below)∧w'.cell? ⟨g,m*7+3,none⟩=some (.slice e3 p.num.size.length e4)∧w'.cell? ⟨g,m*7+4,none⟩=some (.int .i64 p.date)∧w'.cell? ⟨g,m*7+5,none⟩=some (.int .i64 p.reason)∧w'.cell? ⟨g,m*7+6,none⟩=some (.pointer e5))∧w'.cell? ⟨g,(m+1)*7,none⟩=some (.string ls)∧w'.cell? ⟨g,(m+1)*7+1,none⟩=some (.slice d1 x.iss.length d2)∧w'.cell? ⟨g,(m+1)*7+2,none⟩=some (.bool x.num.below)∧w'.cell? ⟨g,(m+1)*7+3,none⟩=some (.slice d3 x.num.size.length d4)∧w'.cell? ⟨g,(m+1)*7+4,none⟩=some (.int .i64 x.date)∧w'.cell? ⟨g,(m+1)*7+5,none⟩=some (.int .i64 x.reason)∧w'.cell? ⟨g,(m+1)*7+6,none⟩=some (.pointer d5)) (first | (with_reducible exact HEE.out _ HFD.out) | (with_reducible exact HEE.out _ (HFD.out.trans F2)) | fail) (first
       | (go_at_call 39;(with_reducible refine (HC.out _ HFD.out).mono ?_);rintro e w2 ⟨rfl,F2⟩)
       | fail)
      all_goals
       have HF3:=Hi (HFD.out.trans F2);clear F2 HC;go_wp2_with fail
       go_roundg (l.length-(q+1))
       case measure=>rw [HG.out];omega
       case rel=>exact ⟨q+1,(P'++[p])++x::Q,rfl,by omega,by go_num,Hi (HNX.out (fun p' hp=>by simp at hp;subst hp;exact HLT.out)).1,Hi (HNX.out (fun p' hp=>by simp at hp;subst hp;exact HLT.out)).2,Hi (by have:=HG2.out.old HF3.out;simp only [List.append_assoc,List.cons_append,List.nil_append] at this ⊢;exact this),Hi (HF2.out.trans (HF3.out.mono (fun _ _ h=>h.elim)))⟩
  ·have HE:=Hi (show s.Perm l from by have:=HP.out;rwa [List.take_of_length_le (by omega)] at this)
   have HGE:=HGR.out;rw [List.drop_eq_nil_of_le (by omega),List.append_nil] at HGE;replace HGE:=Hi HGE;have q1:¬(q:Int)+1<(l.length:Int):=by omega
   go_wp2_with fail
   go_end0
   exact ⟨rfl,⟨s,HE.out,HU.out,HGE.out⟩,HF.out⟩
end Go.Proofs.YtehlipgmkinfbaaGreatDoor

namespace Go.Q
section
variable {α κ:Type} [DecidableEq κ] {lt:κ→κ→Bool}{key:α→κ}
def sideI (lt:κ→κ→Bool) (key:α→κ):List α→List α→Nat→Nat→List (Option Nat × Option Nat)
 | [],[],_,_=>[]
 | _::l,[],i,j=>(some i,none)::sideI lt key l [] (i+1) j
 | [],_::m,i,j=>(none,some j)::sideI lt key [] m i (j+1)
 | x::l,y::m,i,j=>if lt (key x) (key y)=true then (some i,none)::sideI lt key l (y::m) (i+1) j else if key x=key y then (some i,some j)::sideI lt key l m (i+1) (j+1) else (none,some j)::sideI lt key (x::l) m i (j+1)
termination_by l m=>l.length+m.length
def atP (L M:List α) (p:Option Nat × Option Nat):Option α × Option α:=(p.1.bind (fun i=>L[i]?),p.2.bind (fun j=>M[j]?))
theorem drop_next {L l:List α}{x:α}{i:Nat}(h:L.drop i=x::l):L[i]? = some x∧L.drop (i+1)=l:=by
 have h1:=congrArg (fun z:List α=>z[0]?) h;simp only [List.getElem?_drop,Nat.add_zero,List.getElem?_cons_zero] at h1;refine ⟨h1,?_⟩
 rw [←List.drop_drop,h];rfl
theorem sideI_map {L M:List α}:∀ (l m:List α) (i j:Nat),L.drop i=l→M.drop j=m→(sideI lt key l m i j).map (atP L M)=sideS lt key l m
 | [],[],i,j,_,_=>by rw [sideI,sideS];rfl
 | x::l,[],i,j,h1,h2=>by
  obtain ⟨g1,g2⟩:=drop_next h1;rw [sideI,sideS,List.map_cons,sideI_map l [] (i+1) j g2 h2];simp [atP,g1]
 | [],y::m,i,j,h1,h2=>by
  obtain ⟨g1,g2⟩:=drop_next h2;rw [sideI,sideS,List.map_cons,sideI_map [] m i (j+1) h1 g2];simp [atP,g1]
 | x::l,y::m,i,j,h1,h2=>by
  obtain ⟨a1,a2⟩:=drop_next h1;obtain ⟨b1,b2⟩:=drop_next h2;rw [sideI,sideS];by_cases c1:lt (key x) (key y)=true
  ·rw [if_pos c1,if_pos c1,List.map_cons,sideI_map l (y::m) (i+1) j a2 h2]
   simp [atP,a1]
  ·rw [if_neg c1,if_neg c1]
   by_cases c2:key x=key y
   ·rw [if_pos c2,if_pos c2,List.map_cons,sideI_map l m (i+1) (j+1) a2 b2]
    simp [atP,a1,b1]
   ·rw [if_neg c2,if_neg c2,List.map_cons,sideI_map (x::l) m i (j+1) h1 b2]
    simp [atP,b1]
termination_by l m=>l.length+m.length
end
open Go Go.RowKit
def IterV (P:Program) (gf:Nat) (lb:Array Value) (xs:List Value) (C:Nat→Prop) (base:Nat) (w:World):Prop:=
 ∀ (l:Nat) (J Jx:List Value→World→Prop) (W:World),Fr (fun _=>False) w W→
  (∀ s A B,J s A→Fr C A B→J s B)→(∀ s A B,Jx s A→Fr C A B→Jx s B)→
  (∀ pre x rest W1,xs=pre++x::rest→J pre W1→YieldAt Fence.wide 1 P l #[x] W1 fun e W'=>
    (e=.returned (.bool true)∧J (pre++[x]) W'∧Fr (fun k=>base≤k∧¬C k) W1 W')∨(e=.returned (.bool false)∧Jx (pre++[x]) W'))→
  J [] W→
  CallsIn Fence.wide 2 P gf (#[.func (.yield l) #[] #[]]++lb) W fun e W'=>(∃ v,e=.returned v)∧(J xs W'∨∃ pre,pre <+: xs∧Jx pre W')
def seqPostV (I:List Value→World→Prop) (Ix:Code→List Value→World→Prop) (base:Nat) (C:Nat→Prop) (E:Nat) (xs:List Value) (W:World):Exit→Act→World→Prop
 | .normal,_,W'=>Fr (fun k=>base≤k∧¬C k∧k≠E∧k≠E+1) W W'∧I xs W'
 | .ret,_,W'=>Fr (fun k=>base≤k∧¬C k∧k≠E∧k≠E+1) W W'∧Ix .ret xs W'
 | .exit id,_,W'=>Fr (fun k=>base≤k∧¬C k∧k≠E∧k≠E+1) W W'∧Ix (.exit id) xs W'
 | .goto t,_,W'=>Fr (fun k=>base≤k∧¬C k∧k≠E∧k≠E+1) W W'∧Ix (.goto t) xs W'
 | .panic _,_,_=>False
 | .outgrown,_,_=>False
variable {P:Program}
end Go.Q
namespace Go.Q
open Go Go.RowKit
def IxSl (W:World) (v:Value) (a:Option Addr) (c:Nat) (l:List RowP):Prop:=(v=.pointer none∧l=[]∧a=none∧c=0)∨∃ b,v=pt b∧W.cell? ⟨b,0,none⟩=some (.slice a l.length c)∧Slots W (.slice a l.length c) l
theorem IxAt.sl {W:World}{v:Value}{l:List RowP}(h:IxAt W v l):∃ a c,IxSl W v a c l:=by
 rcases h with ⟨rfl,rfl⟩ | ⟨b,u,rfl,h1,h2⟩
 ·exact ⟨none,0,.inl ⟨rfl,rfl,rfl,rfl⟩⟩
 ·have h3:=h2
  obtain ⟨a,c,rfl,-⟩:=h3;exact ⟨a,c,.inr ⟨b,rfl,h1,h2⟩⟩
theorem IxSl.old {w w':World}{v:Value}{a:Option Addr}{c:Nat}{l:List RowP}(h:IxSl w v a c l) (f:Fr (fun _=>False) w w'):IxSl w' v a c l:=by
 rcases h with h | ⟨b,rfl,h1,h2⟩
 ·exact .inl h
 ·exact .inr ⟨b,rfl,f.cell h1 (fun h=>h),Slots.old h2 f⟩
theorem IxSl.slots {w:World}{v:Value}{a:Option Addr}{c:Nat}{l:List RowP}(h:IxSl w v a c l):Slots w (.slice a l.length c) l:=by
 rcases h with ⟨rfl,rfl,rfl,rfl⟩ | ⟨b,rfl,h1,h2⟩
 ·exact ⟨none,0,rfl,Nat.le_refl _,by unfold maxLen;omega,fun h=>absurd h (by decide)⟩
 ·exact h2
def ptrAt (a:Option Addr) (i:Option Nat):Value:=match a,i with
 | some ⟨b,o,_⟩,some i=>.pointer (some ⟨b,o+i*7,none⟩)
 | _,_=>.pointer none
def pairV (a b:Option Addr) (p:Option Nat × Option Nat):Value:=.agg #[ptrAt a p.1,ptrAt b p.2]
theorem ptrAt_none (a:Option Addr):ptrAt a none=.pointer none:=by cases a<;>rfl
theorem pairV_l {a c:Option Addr}{b o i:Nat}(h:a=some ⟨b,o,none⟩):pairV a c (some i,none)=.agg #[.pointer (some ⟨b,o+i*7,none⟩),.pointer none]:=by
 subst h;unfold pairV
 rw [ptrAt_none];rfl
theorem pairV_r {a c:Option Addr}{b o j:Nat}(h:c=some ⟨b,o,none⟩):pairV a c (none,some j)=.agg #[.pointer none,.pointer (some ⟨b,o+j*7,none⟩)]:=by
 subst h;unfold pairV
 rw [ptrAt_none];rfl
theorem pairV_b {a c:Option Addr}{b o i b' o' j:Nat}(h:a=some ⟨b,o,none⟩) (h':c=some ⟨b',o',none⟩):pairV a c (some i,some j)=.agg #[.pointer (some ⟨b,o+i*7,none⟩),.pointer (some ⟨b',o'+j*7,none⟩)]:=by
 subst h h';rfl
def pairsV (a b:Option Addr) (L M:List RowP) (i j:Nat):List Value:=(sideI ltK rowK (L.drop i) (M.drop j) i j).map (pairV a b)
def lenV:Value→Nat
 | .slice _ n _=>n
 | _=>0
def Rest7 (a:Option Addr) (l:List RowP) (i:Nat) (u:Value):Prop:=∃ x n c,u=.slice x n c∧n+i=l.length∧n≤c∧c≤maxLen∧(0<n→∃ b o,a=some ⟨b,o,none⟩∧x=some ⟨b,o+i*7,none⟩)
theorem rest_next {a:Option Addr}{l:List RowP}{i b o n c:Nat}(h1:n+i=l.length) (hn:0<n) (h2:n≤c) (h3:c≤maxLen) (ha:a=some ⟨b,o,none⟩) (x:Option Addr) (hx:c≠1→x=some ⟨b,o+i*7+7,none⟩):Rest7 a l (i+1) (.slice x (n-1) (c-1)):=
 ⟨x,n-1,c-1,rfl,by omega,by omega,by omega,fun h=>⟨b,o,ha,by rw [hx (by omega),Nat.add_mul,Nat.one_mul,Nat.add_assoc]⟩⟩
theorem rest_start {W:World}{a:Option Addr}{c:Nat}{l:List RowP}(h:Slots W (.slice a l.length c) l):Rest7 a l 0 (.slice a l.length c):=by
 obtain ⟨_,_,he,h1,h2,h3⟩:=h;simp only [Value.slice.injEq] at he;obtain ⟨rfl,-,rfl⟩:=he;exact ⟨a,l.length,c,rfl,rfl,h1,h2,fun h0=>by
  obtain ⟨b,o,rfl,-⟩:=h3 h0;exact ⟨b,o,rfl,by simp⟩⟩
theorem pairs_l {a b:Option Addr}{L M:List RowP}{i j:Nat}{r:RowP}(h1:L[i]? = some r) (h2:M.length≤j):pairsV a b L M i j=pairV a b (some i,none)::pairsV a b L M (i+1) j:=by
 have hi:=(List.getElem?_eq_some_iff.1 h1).1;unfold pairsV
 rw [List.drop_eq_getElem_cons hi,List.drop_eq_nil_of_le h2,sideI];rfl
theorem pairs_r {a b:Option Addr}{L M:List RowP}{i j:Nat}{r:RowP}(h1:L.length≤i) (h2:M[j]? = some r):pairsV a b L M i j=pairV a b (none,some j)::pairsV a b L M i (j+1):=by
 have hj:=(List.getElem?_eq_some_iff.1 h2).1;unfold pairsV
 rw [List.drop_eq_getElem_cons hj,List.drop_eq_nil_of_le h1,sideI];rfl
theorem pairs_end {a b:Option Addr}{L M:List RowP}{i j:Nat}(h1:L.length≤i) (h2:M.length≤j):pairsV a b L M i j=[]:=by
 unfold pairsV
 rw [List.drop_eq_nil_of_le h1,List.drop_eq_nil_of_le h2,sideI];rfl
theorem pairs_both {a b:Option Addr}{L M:List RowP}{i j:Nat}{r s:RowP}(h1:L[i]? = some r) (h2:M[j]? = some s):pairsV a b L M i j=if rowC r s<0 then pairV a b (some i,none)::pairsV a b L M (i+1) j else if rowC r s=0 then pairV a b (some i,some j)::pairsV a b L M (i+1) (j+1) else pairV a b (none,some j)::pairsV a b L M i (j+1):=by
 have hi:=(List.getElem?_eq_some_iff.1 h1).1;have hj:=(List.getElem?_eq_some_iff.1 h2).1;have hr:L[i]=r:=(List.getElem?_eq_some_iff.1 h1).2
 have hs:M[j]=s:=(List.getElem?_eq_some_iff.1 h2).2
 unfold pairsV
 by_cases c1:rowC r s<0
 ·have g:=rowC_neg.1 c1
  rw [if_pos c1,List.drop_eq_getElem_cons hi,List.drop_eq_getElem_cons hj,sideI,hr,hs,if_pos g];rfl
 ·have g:¬ltK (rowK r) (rowK s)=true:=fun h=>c1 (rowC_neg.2 h)
  rw [if_neg c1];by_cases c2:rowC r s=0
  ·rw [if_pos c2,List.drop_eq_getElem_cons hi,List.drop_eq_getElem_cons hj,sideI,hr,hs,if_neg g,if_pos (rowC_zero.1 c2)]
   rfl
  ·rw [if_neg c2,List.drop_eq_getElem_cons hi,List.drop_eq_getElem_cons hj,sideI,hr,hs,if_neg g,if_neg (fun h=>c2 (rowC_zero.2 h))]
   rfl
end Go.Q
namespace Go.Proofs.YtehlipgmkinfbaaGreatDoor
open Go Go.RowKit Go.Q
theorem slotsX_any (v:Value) (a:Option Addr) (c:Nat) (l:List RowP) (w:World) (h:IxSl w v a c l) :
  Calls Tryz.prog 45 #[v] w fun e w'=>e=.returned (.slice a l.length c)∧w'=w:=by
 rcases h with ⟨rfl,rfl,rfl,rfl⟩ | ⟨b,rfl,hc,hs⟩
 ·go_enter Tryz.func45,Tryz.ntmps45
  go_wp2_with fail
  go_ret
  exact ⟨rfl,rfl⟩
 ·clear hs
  go_enter Tryz.func45,Tryz.ntmps45
  go_wp2_with fail
  go_ret
  exact ⟨rfl,rfl⟩
attribute [local go_sem] Oper.semAt_some
theorem side1_iter (ba bb:Nat) (va vb:Value) (aL aM:Option Addr) (cL cM:Nat) (L M:List RowP) (wb w:World) (F:Fr (fun _=>False) wb w) (hca:w.cell? ⟨ba,0,none⟩=some va) (hcb:w.cell? ⟨bb,0,none⟩=some vb) (ha:IxSl wb va aL cL L) (hb:IxSl wb vb aM cM M) (hsL:∀ r∈L,r.num.size.length≤1000000) (hsM:∀ r∈M,r.num.size.length≤1000000) :
  IterV Tryz.prog 81 #[pt ba,pt bb] (pairsV aL aM L M 0 0) (fun k=>k=ba∨k=bb) wb.heap.size w:=by
 intro lp J Jx W hW hJ hJx hY h0
 have F0:=F.trans hW;have ca:=hW.cell hca (fun h=>h);have cb:=hW.cell hcb (fun h=>h);have HL:=Hi (fun k=>slotsX_any va aL cL L (W.drewN k) (ha.old (F0.drewN k)));have HM:=Hi (fun k=>slotsX_any vb aM cM M (W.drewN k) (hb.old (F0.drewN k)));have HSL:=Hi ha.slots;have HSM:=Hi hb.slots;have HFL:=Hi hsL;have HFM:=Hi hsM;have HF0:=Hi (F0.mono (T:=fun k=>wb.heap.size≤k) (fun _ _ h=>h.elim));obtain ⟨xs,hxs⟩:∃ xs,xs=pairsV aL aM L M 0 0:=⟨_,rfl⟩
 rw [←hxs] at hY ⊢;have HXS:=Hi hxs;have hgL:=HSL.out;obtain ⟨_,_,he,hLc,hLm,-⟩:=hgL;simp only [Value.slice.injEq] at he;obtain ⟨rfl,-,rfl⟩:=he;have hgM:=HSM.out;obtain ⟨_,_,he,hMc,hMm,-⟩:=hgM;simp only [Value.slice.injEq] at he;obtain ⟨rfl,-,rfl⟩:=he;clear ha hb hsL hsM F F0 hca hcb hxs;refine callsIn_of_wp Tryz.func81 rfl trivial ?_ rfl
 simp only [Tryz.ntmps81,List.size_toArray,List.length_cons,List.length_nil,Nat.reduceAdd,Nat.reduceSub,Array.replicate_succ,Array.replicate_zero,List.push_toArray,List.append_toArray,List.nil_append,List.cons_append];gi_upto_region 0 with fail
 refine wpIn_region_quiet_lit rfl (by kernel_rfl) (by kernel_rfl) ?_
 repeat (refine wpQuietIn_step (fun _ _ _ _=>trivial) (fun K hK=>?_);go_simp;first | (refine hK _ ?_;clear hK K) | (apply Exists.intro;refine ⟨fun _=>?_,hK _ ?_⟩;(first | (gi_at_call 45;exact CallsIn.quiet_of_same (callsIn_wide.2 (HL.out _))) | (gi_at_call 45;exact CallsIn.quiet_of_same (callsIn_wide.2 (HM.out _))));clear hK K))
 refine wpQuietIn_nil ?_
 intro _ hw'
 obtain ⟨nq,hw''⟩:=hw';subst hw'';gi_wp2
 gi_loopw [4,5] (fun u v wr=>∃ (pre:List Value) (i j:Nat),Rest7 aL L i u∧Rest7 aM M j v∧Hid (xs=pre++pairsV aL aM L M i j)∧Hid (Fr (fun k=>wb.heap.size≤k) wb wr)∧Hid (J pre wr)) (fun u v _=>lenV u+lenV v)
 case atStart=>exact ⟨[],0,0,rest_start HSL.out,rest_start HSM.out,HXS,Hi (HF0.out.drewN _),Hi (hJ _ _ _ h0 ((Fr.refl W).drewN _))⟩
 case round=>
  obtain ⟨pre,i,j,⟨x4,n,c4,rfl,hn,hnc,hcm,hx⟩,⟨x5,m,c5,rfl,hm,hmc,hcm2,hy⟩,HPX,HFR,HJP⟩:=hrel;have HFK:=Hi (show Fr (fun _=>False) wb wr from HFR.out.mono (fun k hk h=>by omega));have HHX:=Hi hx;have HHY:=Hi hy;have HHN:=Hi hn;have HHM:=Hi hm;obtain ⟨y,hyz⟩:∃ y,y=wr.heap.size:=⟨_,rfl⟩
  have HY:=Hi hyz;have BP:=Blk.new wr 95 #[.pointer none,.pointer none];rw [←hyz] at BP;have HBP:=Hi BP;clear hx hy hyz BP h0;have hmx:Tryz.prog.follows .mixedOrders=true:=by kernel_rfl
  rcases Nat.eq_zero_or_pos n with hn0 | hn0
  ·rcases Nat.eq_zero_or_pos m with hm0 | hm0
   ·have HE:=Hi (show xs=pre from by rw [HPX.out,pairs_end (by have:=HHN.out;omega) (by have:=HHM.out;omega),List.append_nil])
    subst hn0;subst hm0;clear hn hm;gi_wp2
    go_end0
    exact ⟨⟨_,rfl⟩,.inl (by rw [HE.out];exact HJP.out)⟩
   ·skip
    subst hn0;obtain ⟨b',o',haM,rfl⟩:=HHY.out hm0;obtain ⟨r',hr'⟩:∃ r',M[j]? = some r':=⟨_,List.getElem?_eq_getElem (by have:=HHM.out;omega)⟩
    have HR2:=Hi hr';have HAM:=Hi haM;have e1:(0:Int)<(m:Int):=by omega
    have e2:((m:Int)==0)=false:=beq_eq_false_iff_ne.2 (by omega)
    have e3:(1:Int)≤(m:Int):=by omega
    have e4:(m:Int)≤(c5:Int):=by omega
    have e5:(1:Int)≤(c5:Int):=by omega
    have e6:1≤m:=hm0
    have e7:1≤c5:=by omega
    clear hr' haM;gi_upto_region 3 with fail
    rw [←HY.out];have HFT:=Hi ((Fr.refl wr).alloc (.cells #[.pointer none,.pointer none] 95):Fr (fun _=>False) wr (wr.alloc (.cells #[.pointer none,.pointer none] 95)));have B4:=HBP.out;generalize (wr.alloc (.cells #[.pointer none,.pointer none] 95))=w4 at *
    have p0:=B4.drew.cell 0;have p1:=B4.drew.cell 1;have f0:=B4.drew.frozen 0;have f1:=B4.drew.frozen 1;have g0:=B4.frozen 0;have g1:=B4.frozen 1;simp only [SG] at p0 p1;gi_upto_if 43 with fail
    gi_cut [5] from 44 (fun ux wx=>Rest7 aM M (j+1) ux∧Blk wx y 95 #[.pointer none,.pointer (some ⟨b',o'+j*7,none⟩)]∧Fr (fun _=>False) wr wx)
    case first=>
     gi_upto_region 12 with fail
     gi_region_with_o fail
     all_goals
      have FX:=(HFT.out.setCell (p:=⟨y,1,none⟩) (fun h=>by have:=HY.out;have h2:y<wr.heap.size:=h;omega) (.pointer (some ⟨b',o'+j*7,none⟩))).drew;have BX:Blk (w4.setCell ⟨y,1,none⟩ (.pointer (some ⟨b',o'+j*7,none⟩))) y 95 #[.pointer none,.pointer (some ⟨b',o'+j*7,none⟩)]:=B4.set 1 _
      gi_wp2
      all_goals
       rcases Nat.lt_or_ge c5 2 with hc1 | hc1
       ·have hc2:c5=1:=by omega
        subst hc2;first | (exfalso;omega) | (gi_meet;exact ⟨rest_next HHM.out hm0 hmc hcm2 HAM.out _ (fun h=>absurd rfl h),BX.drew,FX⟩)
       ·first | (exfalso;omega) | (gi_meet;exact ⟨rest_next HHM.out hm0 hmc hcm2 HAM.out _ (fun _=>rfl),BX.drew,FX⟩)
    case rest=>
     obtain ⟨HRN6,B6,F6⟩:=hcut;replace HFT:=Hi F6;obtain ⟨xn6,nn6,cn6,rfl,hn6,hc6,hm6,hx6⟩:=HRN6;clear p0 p1 f0 f1 g0 g1 F6;have HX2:=Hi (show xs=pre++(.agg #[.pointer none,.pointer (some ⟨b',o'+j*7,none⟩)])::pairsV aL aM L M i (j+1) from by rw [HPX.out,pairs_r (by have:=HHN.out;omega) HR2.out,pairV_r HAM.out]);have p0:=B6.cell 0;have p1:=B6.cell 1;simp only [SG] at p0 p1;gi_upto_region 13 with fail
     obtain ⟨fn,tmps,assign,body,hyy,hR⟩:=hY pre _ _ wc HX2.out (hJ _ _ _ HJP.out (HFT.out.mono (fun _ _ h=>h.elim)));have HR:=Hi hR;clear hR;gi_wp2
     refine HR.out.mono ?_
     rintro e W3 (⟨rfl,hJ3,F3⟩ | ⟨rfl,hJx3⟩)
     ·have HJ3:=Hi hJ3
      have HF3:=Hi ((HFR.out.trans (HFT.out.mono (fun _ _ h=>h.elim))).trans (F3.mono (fun _ _ h=>h.1)));clear hJ3 F3 p0 p1 hyy;gi_wp2
      go_roundw
      case rel=>exact ⟨pre++[(.agg #[.pointer none,.pointer (some ⟨b',o'+j*7,none⟩)])],i,(j+1),⟨_,_,_,rfl,HHN.out,hnc,hcm,HHX.out⟩,⟨_,_,_,rfl,hn6,hc6,hm6,hx6⟩,Hi (by rw [HX2.out];simp),HF3,HJ3⟩
      case measure=>simp only [lenV];omega
     ·have HJ3:=Hi hJx3
      clear hJx3 p0 p1 hyy;gi_wp2
      refine bodyPost_ret (results_none rfl _ _ _) rfl ?_
      exact ⟨⟨_,rfl⟩,.inr ⟨_,⟨pairsV aL aM L M i (j+1),by rw [HX2.out];simp⟩,HJ3.out⟩⟩
  ·rcases Nat.eq_zero_or_pos m with hm0 | hm0
   ·skip
    have hm1:m=0:=hm0
    subst hm1;obtain ⟨b,o,haL,rfl⟩:=HHX.out hn0;obtain ⟨r,hr⟩:∃ r,L[i]? = some r:=⟨_,List.getElem?_eq_getElem (by have:=HHN.out;omega)⟩
    have HR1:=Hi hr;have HAL:=Hi haL;have a1:(0:Int)<(n:Int):=by omega
    have a2:((n:Int)==0)=false:=beq_eq_false_iff_ne.2 (by omega)
    have a3:(1:Int)≤(n:Int):=by omega
    have a4:(n:Int)≤(c4:Int):=by omega
    have a5:(1:Int)≤(c4:Int):=by omega
    have a6:1≤n:=hn0
    have a7:1≤c4:=by omega
    clear hr haL;gi_upto_region 3 with fail
    rw [←HY.out];have HFT:=Hi ((Fr.refl wr).alloc (.cells #[.pointer none,.pointer none] 95):Fr (fun _=>False) wr (wr.alloc (.cells #[.pointer none,.pointer none] 95)));have B4:=HBP.out;generalize (wr.alloc (.cells #[.pointer none,.pointer none] 95))=w4 at *
    have p0:=B4.drew.cell 0;have p1:=B4.drew.cell 1;have f0:=B4.drew.frozen 0;have f1:=B4.drew.frozen 1;have g0:=B4.frozen 0;have g1:=B4.frozen 1;simp only [SG] at p0 p1;gi_upto_if 36 with fail
    gi_cut [4] from 37 (fun ux wx=>Rest7 aL L (i+1) ux∧Blk wx y 95 #[.pointer (some ⟨b,o+i*7,none⟩),.pointer none]∧Fr (fun _=>False) wr wx)
    case first=>
     gi_upto_region 10 with fail
     gi_region_with_o fail
     all_goals
      have FX:=(HFT.out.setCell (p:=⟨y,0,none⟩) (fun h=>by have:=HY.out;have h2:y<wr.heap.size:=h;omega) (.pointer (some ⟨b,o+i*7,none⟩))).drew;have BX:Blk (w4.setCell ⟨y,0,none⟩ (.pointer (some ⟨b,o+i*7,none⟩))) y 95 #[.pointer (some ⟨b,o+i*7,none⟩),.pointer none]:=B4.set 0 _
      gi_wp2
      all_goals
       rcases Nat.lt_or_ge c4 2 with hc1 | hc1
       ·have hc2:c4=1:=by omega
        subst hc2;first | (exfalso;omega) | (gi_meet;exact ⟨rest_next HHN.out hn0 hnc hcm HAL.out _ (fun h=>absurd rfl h),BX.drew,FX⟩)
       ·first | (exfalso;omega) | (gi_meet;exact ⟨rest_next HHN.out hn0 hnc hcm HAL.out _ (fun _=>rfl),BX.drew,FX⟩)
    case rest=>
     obtain ⟨HRN5,B5,F5⟩:=hcut;replace HFT:=Hi F5;obtain ⟨xn5,nn5,cn5,rfl,hn5,hc5,hm5,hx5⟩:=HRN5;clear p0 p1 f0 f1 g0 g1 F5;have HX2:=Hi (show xs=pre++(.agg #[.pointer (some ⟨b,o+i*7,none⟩),.pointer none])::pairsV aL aM L M (i+1) j from by rw [HPX.out,pairs_l HR1.out (by have:=HHM.out;omega),pairV_l HAL.out]);have p0:=B5.cell 0;have p1:=B5.cell 1;simp only [SG] at p0 p1;gi_upto_region 13 with fail
     obtain ⟨fn,tmps,assign,body,hyy,hR⟩:=hY pre _ _ wc HX2.out (hJ _ _ _ HJP.out (HFT.out.mono (fun _ _ h=>h.elim)));have HR:=Hi hR;clear hR;gi_wp2
     refine HR.out.mono ?_
     rintro e W3 (⟨rfl,hJ3,F3⟩ | ⟨rfl,hJx3⟩)
     ·have HJ3:=Hi hJ3
      have HF3:=Hi ((HFR.out.trans (HFT.out.mono (fun _ _ h=>h.elim))).trans (F3.mono (fun _ _ h=>h.1)));clear hJ3 F3 p0 p1 hyy;gi_wp2
      go_roundw
      case rel=>exact ⟨pre++[(.agg #[.pointer (some ⟨b,o+i*7,none⟩),.pointer none])],(i+1),j,⟨_,_,_,rfl,hn5,hc5,hm5,hx5⟩,⟨_,_,_,rfl,HHM.out,hmc,hcm2,HHY.out⟩,Hi (by rw [HX2.out];simp),HF3,HJ3⟩
      case measure=>simp only [lenV];omega
     ·have HJ3:=Hi hJx3
      clear hJx3 p0 p1 hyy;gi_wp2
      refine bodyPost_ret (results_none rfl _ _ _) rfl ?_
      exact ⟨⟨_,rfl⟩,.inr ⟨_,⟨pairsV aL aM L M (i+1) j,by rw [HX2.out];simp⟩,HJ3.out⟩⟩
   ·skip
    obtain ⟨b,o,haL,rfl⟩:=HHX.out hn0;obtain ⟨r,hr⟩:∃ r,L[i]? = some r:=⟨_,List.getElem?_eq_getElem (by have:=HHN.out;omega)⟩
    have HR1:=Hi hr;have HAL:=Hi haL;have a1:(0:Int)<(n:Int):=by omega
    have a2:((n:Int)==0)=false:=beq_eq_false_iff_ne.2 (by omega)
    have a3:(1:Int)≤(n:Int):=by omega
    have a4:(n:Int)≤(c4:Int):=by omega
    have a5:(1:Int)≤(c4:Int):=by omega
    have a6:1≤n:=hn0
    have a7:1≤c4:=by omega
    clear hr haL;obtain ⟨b',o',haM,rfl⟩:=HHY.out hm0;obtain ⟨r',hr'⟩:∃ r',M[j]? = some r':=⟨_,List.getElem?_eq_getElem (by have:=HHM.out;omega)⟩
    have HR2:=Hi hr';have HAM:=Hi haM;have e1:(0:Int)<(m:Int):=by omega
    have e2:((m:Int)==0)=false:=beq_eq_false_iff_ne.2 (by omega)
    have e3:(1:Int)≤(m:Int):=by omega
    have e4:(m:Int)≤(c5:Int):=by omega
    have e5:(1:Int)≤(c5:Int):=by omega
    have e6:1≤m:=hm0
    have e7:1≤c5:=by omega
    clear hr' haM;have hgL:=HSL.out;obtain ⟨b0,o0,us,hbo,-,hus,hRx,hcx⟩:=LAt.get hgL HR1.out;rw [HAL.out] at hbo;simp only [Option.some.injEq,Addr.mk.injEq,and_true] at hbo;obtain ⟨rfl,rfl⟩:=hbo;have hgM:=HSM.out;obtain ⟨b1,o1,vs,hbo,-,hvs,hRy,hcy⟩:=LAt.get hgM HR2.out;rw [HAM.out] at hbo;simp only [Option.some.injEq,Addr.mk.injEq,and_true] at hbo;obtain ⟨rfl,rfl⟩:=hbo;obtain ⟨u0,u1,u2,u3,u4,u5,u6,rfl⟩:=seven_of hus;obtain ⟨v0,v1,v2,v3,v4,v5,v6,rfl⟩:=seven_of hvs
    have HO:=Hi (fun W (F:Fr (fun _=>False) wb W)=>orderSlots_any _ _ r r' W (RSlot.old _ _ _ _ hRx F) (RSlot.old _ _ _ _ hRy F) (HFL.out r (List.mem_of_getElem? HR1.out)) (HFM.out r' (List.mem_of_getElem? HR2.out)));obtain ⟨k,hk⟩:∃ k,k=rowC r r':=⟨_,rfl⟩
    rw [←hk] at HO;have HK:=Hi hk;have HCX:=Hi hcx;have HCY:=Hi hcy;clear hgL hgM hcx hcy hk hRx hRy;gi_upto_region 3 with fail
    rw [←HY.out];have HFT:=Hi ((Fr.refl wr).alloc (.cells #[.pointer none,.pointer none] 95):Fr (fun _=>False) wr (wr.alloc (.cells #[.pointer none,.pointer none] 95)));have B4:=HBP.out;generalize (wr.alloc (.cells #[.pointer none,.pointer none] 95))=w4 at *
    have HFG:=Hi ((HFK.out.trans HFT.out).drew);have x0:=HFG.out.cell (HCX.out 0 _ rfl) (fun h=>h);have x1:=HFG.out.cell (HCX.out 1 _ rfl) (fun h=>h);have x2:=HFG.out.cell (HCX.out 2 _ rfl) (fun h=>h);have x3:=HFG.out.cell (HCX.out 3 _ rfl) (fun h=>h);have x4:=HFG.out.cell (HCX.out 4 _ rfl) (fun h=>h);have x5:=HFG.out.cell (HCX.out 5 _ rfl) (fun h=>h);have x6:=HFG.out.cell (HCX.out 6 _ rfl) (fun h=>h);have y0:=HFG.out.cell (HCY.out 0 _ rfl) (fun h=>h);have y1:=HFG.out.cell (HCY.out 1 _ rfl) (fun h=>h);have y2:=HFG.out.cell (HCY.out 2 _ rfl) (fun h=>h)
    have y3:=HFG.out.cell (HCY.out 3 _ rfl) (fun h=>h);have y4:=HFG.out.cell (HCY.out 4 _ rfl) (fun h=>h);have y5:=HFG.out.cell (HCY.out 5 _ rfl) (fun h=>h);have y6:=HFG.out.cell (HCY.out 6 _ rfl) (fun h=>h);simp only [Nat.add_zero] at x0 y0;gi_upto_region 4 with fail
    gi_region_with_o (refine ⟨trivial,?_⟩;gi_at_call 39;(with_reducible refine (callsIn_wide.2 (HO.out _ HFG.out)).mono ?_);rintro e w3 ⟨rfl,F3⟩)
    all_goals
     replace B4:=B4.drew.fr F3 (fun h=>h);replace HFT:=Hi (HFT.out.drew.trans F3);clear x0 x1 x2 x3 x4 x5 x6 y0 y1 y2 y3 y4 y5 y6 F3;rcases Int.lt_trichotomy k 0 with hk | hk | hk
     ·skip
      have k1:k≤0:=by omega
      have k2:¬0≤k:=by omega
      have HKK:=Hi hk;clear hk;have p0:=B4.drew.cell 0;have p1:=B4.drew.cell 1;have f0:=B4.drew.frozen 0;have f1:=B4.drew.frozen 1;have g0:=B4.frozen 0;have g1:=B4.frozen 1;simp only [SG] at p0 p1;gi_upto_if 36 with fail
      gi_cut [4] from 37 (fun ux wx=>Rest7 aL L (i+1) ux∧Blk wx y 95 #[.pointer (some ⟨b,o+i*7,none⟩),.pointer none]∧Fr (fun _=>False) wr wx)
      case first=>
       gi_upto_region 10 with fail
       gi_region_with_o fail
       all_goals
        have FX:=(HFT.out.setCell (p:=⟨y,0,none⟩) (fun h=>by have:=HY.out;have h2:y<wr.heap.size:=h;omega) (.pointer (some ⟨b,o+i*7,none⟩))).drew;have BX:Blk (w3.setCell ⟨y,0,none⟩ (.pointer (some ⟨b,o+i*7,none⟩))) y 95 #[.pointer (some ⟨b,o+i*7,none⟩),.pointer none]:=B4.set 0 _
        gi_wp2
        all_goals
         rcases Nat.lt_or_ge c4 2 with hc1 | hc1
         ·have hc2:c4=1:=by omega
          subst hc2;first | (exfalso;omega) | (gi_meet;exact ⟨rest_next HHN.out hn0 hnc hcm HAL.out _ (fun h=>absurd rfl h),BX.drew,FX⟩)
         ·first | (exfalso;omega) | (gi_meet;exact ⟨rest_next HHN.out hn0 hnc hcm HAL.out _ (fun _=>rfl),BX.drew,FX⟩)
      case rest=>
       obtain ⟨HRN5,B5,F5⟩:=hcut;replace HFT:=Hi F5;obtain ⟨xn5,nn5,cn5,rfl,hn5,hc5,hm5,hx5⟩:=HRN5;clear p0 p1 f0 f1 g0 g1 F5;have HX2:=Hi (show xs=pre++(.agg #[.pointer (some ⟨b,o+i*7,none⟩),.pointer none])::pairsV aL aM L M (i+1) j from by rw [HPX.out,pairs_both HR1.out HR2.out,←HK.out,if_pos HKK.out,pairV_l HAL.out]);have p0:=B5.cell 0;have p1:=B5.cell 1;simp only [SG] at p0 p1;gi_upto_region 13 with fail
       obtain ⟨fn,tmps,assign,body,hyy,hR⟩:=hY pre _ _ wc HX2.out (hJ _ _ _ HJP.out (HFT.out.mono (fun _ _ h=>h.elim)));have HR:=Hi hR;clear hR;gi_wp2
       refine HR.out.mono ?_
       rintro e W3 (⟨rfl,hJ3,F3⟩ | ⟨rfl,hJx3⟩)
       ·have HJ3:=Hi hJ3
        have HF3:=Hi ((HFR.out.trans (HFT.out.mono (fun _ _ h=>h.elim))).trans (F3.mono (fun _ _ h=>h.1)));clear hJ3 F3 p0 p1 hyy;gi_wp2
        go_roundw
        case rel=>exact ⟨pre++[(.agg #[.pointer (some ⟨b,o+i*7,none⟩),.pointer none])],(i+1),j,⟨_,_,_,rfl,hn5,hc5,hm5,hx5⟩,⟨_,_,_,rfl,HHM.out,hmc,hcm2,HHY.out⟩,Hi (by rw [HX2.out];simp),HF3,HJ3⟩
        case measure=>simp only [lenV];omega
       ·have HJ3:=Hi hJx3
        clear hJx3 p0 p1 hyy;gi_wp2
        refine bodyPost_ret (results_none rfl _ _ _) rfl ?_
        exact ⟨⟨_,rfl⟩,.inr ⟨_,⟨pairsV aL aM L M (i+1) j,by rw [HX2.out];simp⟩,HJ3.out⟩⟩
     ·skip
      subst hk;have p0:=B4.drew.cell 0;have p1:=B4.drew.cell 1;have f0:=B4.drew.frozen 0;have f1:=B4.drew.frozen 1;have g0:=B4.frozen 0;have g1:=B4.frozen 1;simp only [SG] at p0 p1;gi_upto_if 36 with fail
      gi_cut [4] from 37 (fun ux wx=>Rest7 aL L (i+1) ux∧Blk wx y 95 #[.pointer (some ⟨b,o+i*7,none⟩),.pointer none]∧Fr (fun _=>False) wr wx)
      case first=>
       gi_upto_region 10 with fail
       gi_region_with_o fail
       all_goals
        have FX:=(HFT.out.setCell (p:=⟨y,0,none⟩) (fun h=>by have:=HY.out;have h2:y<wr.heap.size:=h;omega) (.pointer (some ⟨b,o+i*7,none⟩))).drew;have BX:Blk (w3.setCell ⟨y,0,none⟩ (.pointer (some ⟨b,o+i*7,none⟩))) y 95 #[.pointer (some ⟨b,o+i*7,none⟩),.pointer none]:=B4.set 0 _
        gi_wp2
        all_goals
         rcases Nat.lt_or_ge c4 2 with hc1 | hc1
         ·have hc2:c4=1:=by omega
          subst hc2;first | (exfalso;omega) | (gi_meet;exact ⟨rest_next HHN.out hn0 hnc hcm HAL.out _ (fun h=>absurd rfl h),BX.drew,FX⟩)
         ·first | (exfalso;omega) | (gi_meet;exact ⟨rest_next HHN.out hn0 hnc hcm HAL.out _ (fun _=>rfl),BX.drew,FX⟩)
      case rest=>
       obtain ⟨HRN5,B5,F5⟩:=hcut;replace HFT:=Hi F5;obtain ⟨xn5,nn5,cn5,rfl,hn5,hc5,hm5,hx5⟩:=HRN5;clear p0 p1 f0 f1 g0 g1 F5;have p0:=B5.drew.cell 0;have p1:=B5.drew.cell 1;have f0:=B5.drew.frozen 0;have f1:=B5.drew.frozen 1;have g0:=B5.frozen 0;have g1:=B5.frozen 1;simp only [SG] at p0 p1;gi_upto_if 43 with fail
       gi_cut [5] from 44 (fun ux wx=>Rest7 aM M (j+1) ux∧Blk wx y 95 #[.pointer (some ⟨b,o+i*7,none⟩),.pointer (some ⟨b',o'+j*7,none⟩)]∧Fr (fun _=>False) wr wx)
       case first=>
        gi_upto_region 12 with fail
        gi_region_with_o fail
        all_goals
         have FX:=(HFT.out.setCell (p:=⟨y,1,none⟩) (fun h=>by have:=HY.out;have h2:y<wr.heap.size:=h;omega) (.pointer (some ⟨b',o'+j*7,none⟩))).drew;have BX:Blk (wc.setCell ⟨y,1,none⟩ (.pointer (some ⟨b',o'+j*7,none⟩))) y 95 #[.pointer (some ⟨b,o+i*7,none⟩),.pointer (some ⟨b',o'+j*7,none⟩)]:=B5.set 1 _
         gi_wp2
         all_goals
          rcases Nat.lt_or_ge c5 2 with hc1 | hc1
          ·have hc2:c5=1:=by omega
           subst hc2;first | (exfalso;omega) | (gi_meet;exact ⟨rest_next HHM.out hm0 hmc hcm2 HAM.out _ (fun h=>absurd rfl h),BX.drew,FX⟩)
          ·first | (exfalso;omega) | (gi_meet;exact ⟨rest_next HHM.out hm0 hmc hcm2 HAM.out _ (fun _=>rfl),BX.drew,FX⟩)
       case rest=>
        obtain ⟨HRN6,B6,F6⟩:=hcut;replace HFT:=Hi F6;obtain ⟨xn6,nn6,cn6,rfl,hn6,hc6,hm6,hx6⟩:=HRN6;clear p0 p1 f0 f1 g0 g1 F6;have HX2:=Hi (show xs=pre++(.agg #[.pointer (some ⟨b,o+i*7,none⟩),.pointer (some ⟨b',o'+j*7,none⟩)])::pairsV aL aM L M (i+1) (j+1) from by rw [HPX.out,pairs_both HR1.out HR2.out,←HK.out,if_neg (by decide),if_pos rfl,pairV_b HAL.out HAM.out]);have p0:=B6.cell 0;have p1:=B6.cell 1;simp only [SG] at p0 p1;gi_upto_region 13 with fail
        obtain ⟨fn,tmps,assign,body,hyy,hR⟩:=hY pre _ _ wc HX2.out (hJ _ _ _ HJP.out (HFT.out.mono (fun _ _ h=>h.elim)));have HR:=Hi hR;clear hR;gi_wp2
        refine HR.out.mono ?_
        rintro e W3 (⟨rfl,hJ3,F3⟩ | ⟨rfl,hJx3⟩)
        ·have HJ3:=Hi hJ3
         have HF3:=Hi ((HFR.out.trans (HFT.out.mono (fun _ _ h=>h.elim))).trans (F3.mono (fun _ _ h=>h.1)));clear hJ3 F3 p0 p1 hyy;gi_wp2
         go_roundw
         case rel=>exact ⟨pre++[(.agg #[.pointer (some ⟨b,o+i*7,none⟩),.pointer (some ⟨b',o'+j*7,none⟩)])],(i+1),(j+1),⟨_,_,_,rfl,hn5,hc5,hm5,hx5⟩,⟨_,_,_,rfl,hn6,hc6,hm6,hx6⟩,Hi (by rw [HX2.out];simp),HF3,HJ3⟩
         case measure=>simp only [lenV];omega
        ·have HJ3:=Hi hJx3
         clear hJx3 p0 p1 hyy;gi_wp2
         refine bodyPost_ret (results_none rfl _ _ _) rfl ?_
         exact ⟨⟨_,rfl⟩,.inr ⟨_,⟨pairsV aL aM L M (i+1) (j+1),by rw [HX2.out];simp⟩,HJ3.out⟩⟩
     ·skip
      have k1:¬k≤0:=by omega
      have k2:0≤k:=by omega
      have HKK:=Hi hk;clear hk;have p0:=B4.drew.cell 0;have p1:=B4.drew.cell 1;have f0:=B4.drew.frozen 0;have f1:=B4.drew.frozen 1;have g0:=B4.frozen 0;have g1:=B4.frozen 1;simp only [SG] at p0 p1;gi_upto_if 43 with fail
      gi_cut [5] from 44 (fun ux wx=>Rest7 aM M (j+1) ux∧Blk wx y 95 #[.pointer none,.pointer (some ⟨b',o'+j*7,none⟩)]∧Fr (fun _=>False) wr wx)
      case first=>
       gi_upto_region 12 with fail
       gi_region_with_o fail
       all_goals
        have FX:=(HFT.out.setCell (p:=⟨y,1,none⟩) (fun h=>by have:=HY.out;have h2:y<wr.heap.size:=h;omega) (.pointer (some ⟨b',o'+j*7,none⟩))).drew;have BX:Blk (w3.setCell ⟨y,1,none⟩ (.pointer (some ⟨b',o'+j*7,none⟩))) y 95 #[.pointer none,.pointer (some ⟨b',o'+j*7,none⟩)]:=B4.set 1 _
        gi_wp2
        all_goals
         rcases Nat.lt_or_ge c5 2 with hc1 | hc1
         ·have hc2:c5=1:=by omega
          subst hc2;first | (exfalso;omega) | (gi_meet;exact ⟨rest_next HHM.out hm0 hmc hcm2 HAM.out _ (fun h=>absurd rfl h),BX.drew,FX⟩)
         ·first | (exfalso;omega) | (gi_meet;exact ⟨rest_next HHM.out hm0 hmc hcm2 HAM.out _ (fun _=>rfl),BX.drew,FX⟩)
      case rest=>
       obtain ⟨HRN6,B6,F6⟩:=hcut;replace HFT:=Hi F6;obtain ⟨xn6,nn6,cn6,rfl,hn6,hc6,hm6,hx6⟩:=HRN6;clear p0 p1 f0 f1 g0 g1 F6;have HX2:=Hi (show xs=pre++(.agg #[.pointer none,.pointer (some ⟨b',o'+j*7,none⟩)])::pairsV aL aM L M i (j+1) from by rw [HPX.out,pairs_both HR1.out HR2.out,←HK.out,if_neg (by have:=HKK.out;omega),if_neg (by have:=HKK.out;omega),pairV_r HAM.out]);have p0:=B6.cell 0;have p1:=B6.cell 1;simp only [SG] at p0 p1;gi_upto_region 13 with fail
       obtain ⟨fn,tmps,assign,body,hyy,hR⟩:=hY pre _ _ wc HX2.out (hJ _ _ _ HJP.out (HFT.out.mono (fun _ _ h=>h.elim)));have HR:=Hi hR;clear hR;gi_wp2
       refine HR.out.mono ?_
       rintro e W3 (⟨rfl,hJ3,F3⟩ | ⟨rfl,hJx3⟩)
       ·have HJ3:=Hi hJ3
        have HF3:=Hi ((HFR.out.trans (HFT.out.mono (fun _ _ h=>h.elim))).trans (F3.mono (fun _ _ h=>h.1)));clear hJ3 F3 p0 p1 hyy;gi_wp2
        go_roundw
        case rel=>exact ⟨pre++[(.agg #[.pointer none,.pointer (some ⟨b',o'+j*7,none⟩)])],i,(j+1),⟨_,_,_,rfl,HHN.out,hnc,hcm,HHX.out⟩,⟨_,_,_,rfl,hn6,hc6,hm6,hx6⟩,Hi (by rw [HX2.out];simp),HF3,HJ3⟩
        case measure=>simp only [lenV];omega
       ·have HJ3:=Hi hJx3
        clear hJx3 p0 p1 hyy;gi_wp2
        refine bodyPost_ret (results_none rfl _ _ _) rfl ?_
        exact ⟨⟨_,rfl⟩,.inr ⟨_,⟨pairsV aL aM L M i (j+1),by rw [HX2.out];simp⟩,HJ3.out⟩⟩
theorem side_any (va vb:Value) (aL aM:Option Addr) (cL cM:Nat) (L M:List RowP) (wb w:World) (F:Fr (fun _=>False) wb w) (ha:IxSl wb va aL cL L) (hb:IxSl wb vb aM cM M) (hsL:∀ r∈L,r.num.size.length≤1000000) (hsM:∀ r∈M,r.num.size.length≤1000000) :
  Calls Tryz.prog 49 #[va,vb] w fun e w'=>(∃ ba bb,e=.returned (.func (.func 81) #[] #[pt ba,pt bb])∧w.heap.size≤ba∧w.heap.size≤bb∧ba<w'.heap.size∧bb<w'.heap.size∧IterV Tryz.prog 81 #[pt ba,pt bb] (pairsV aL aM L M 0 0) (fun k=>k=ba∨k=bb) wb.heap.size w')∧Fr (fun _=>False) w w':=by
 have FA:Fr (fun _=>False) w ((w.alloc (.cells #[va] 26)).alloc (.cells #[vb] 26)):=((Fr.refl w).alloc _).alloc _
 have BA:=(Blk.new w 26 #[va]).alloc (.cells #[vb] 26);have BB:=Blk.new (w.alloc (.cells #[va] 26)) 26 #[vb];rw [World.size_alloc] at BB;have hs:((w.alloc (.cells #[va] 26)).alloc (.cells #[vb] 26)).heap.size=w.heap.size+2:=by rw [World.size_alloc,World.size_alloc]
 have HI:=Hi (side1_iter w.heap.size (w.heap.size+1) va vb aL aM cL cM L M wb _ (F.trans FA) (BA.cell 0) (BB.cell 0) ha hb hsL hsM);have HF:=Hi FA;have HS:=Hi hs;have h1:va.oneCell'=true:=by
  rcases ha with ⟨rfl,-⟩ | ⟨b,rfl,-⟩<;>rfl
 have h2:vb.oneCell'=true:=by
  rcases hb with ⟨rfl,-⟩ | ⟨b,rfl,-⟩<;>rfl
 have h3:∃ p,va=.pointer p:=by
  rcases ha with ⟨rfl,-⟩ | ⟨b,rfl,-⟩
  ·exact ⟨_,rfl⟩
  ·exact ⟨_,rfl⟩
 have h4:∃ p,vb=.pointer p:=by
  rcases hb with ⟨rfl,-⟩ | ⟨b,rfl,-⟩
  ·exact ⟨_,rfl⟩
  ·exact ⟨_,rfl⟩
 clear ha hb hsL hsM F FA BA BB hs;obtain ⟨p,rfl⟩:=h3;obtain ⟨q,rfl⟩:=h4;go_enter Tryz.func49,Tryz.ntmps49
 go_wp2_with fail
 go_ret
 exact ⟨⟨w.heap.size,w.heap.size+1,rfl,Nat.le_refl _,Nat.le_succ _,by rw [HS.out];omega,by rw [HS.out];omega,HI.out⟩,HF.out⟩
end Go.Proofs.YtehlipgmkinfbaaGreatDoor

namespace Go.Q
open Go Go.RowKit
section
variable {α κ:Type} [DecidableEq κ] {lt:κ→κ→Bool}{key:α→κ}
theorem sideI_in {L M:List α}:∀ (l m:List α) (i j:Nat),L.drop i=l→M.drop j=m→∀ p∈sideI lt key l m i j,(∃ i' r,p=(some i',none)∧L[i']? = some r)∨(∃ j' s,p=(none,some j')∧M[j']? = some s)∨∃ i' j' r s,p=(some i',some j')∧L[i']? = some r∧M[j']? = some s
 | [],[],i,j,_,_,p,hp=>by rw [sideI] at hp;cases hp
 | x::l,[],i,j,h1,h2,p,hp=>by
  obtain ⟨g1,g2⟩:=drop_next h1;rw [sideI] at hp;rcases List.mem_cons.1 hp with e | e
  ·exact .inl ⟨i,x,e,g1⟩
  ·exact sideI_in l [] (i+1) j g2 h2 p e
 | [],y::m,i,j,h1,h2,p,hp=>by
  obtain ⟨g1,g2⟩:=drop_next h2;rw [sideI] at hp;rcases List.mem_cons.1 hp with e | e
  ·exact .inr (.inl ⟨j,y,e,g1⟩)
  ·exact sideI_in [] m i (j+1) h1 g2 p e
 | x::l,y::m,i,j,h1,h2,p,hp=>by
  obtain ⟨a1,a2⟩:=drop_next h1;obtain ⟨b1,b2⟩:=drop_next h2;rw [sideI] at hp;split at hp
  ·rcases List.mem_cons.1 hp with e | e
   ·exact .inl ⟨i,x,e,a1⟩
   ·exact sideI_in l (y::m) (i+1) j a2 h2 p e
  ·split at hp
   ·rcases List.mem_cons.1 hp with e | e
    ·exact .inr (.inr ⟨i,j,x,y,e,a1,b1⟩)
    ·exact sideI_in l m (i+1) (j+1) a2 b2 p e
   ·rcases List.mem_cons.1 hp with e | e
    ·exact .inr (.inl ⟨j,y,e,b1⟩)
    ·exact sideI_in (x::l) m i (j+1) h1 b2 p e
termination_by l m=>l.length+m.length
end
abbrev sideP (L M:List RowP):List (Option Nat × Option Nat):=sideI ltK rowK L M 0 0
theorem sideP_map (L M:List RowP):(sideP L M).map (atP L M)=sideR L M:=sideI_map L M 0 0 rfl rfl
theorem pairsV_0 (a b:Option Addr) (L M:List RowP):pairsV a b L M 0 0=(sideP L M).map (pairV a b):=rfl
theorem pair_at {a b:Option Addr}{L M:List RowP}{pre rest:List Value}{x:Value}(h:pairsV a b L M 0 0=pre++x::rest):∃ p,(sideP L M)[pre.length]? = some p∧x=pairV a b p∧(sideR L M)[pre.length]? = some (atP L M p)∧((∃ i' r,p=(some i',none)∧L[i']? = some r)∨(∃ j' s,p=(none,some j')∧M[j']? = some s)∨∃ i' j' r s,p=(some i',some j')∧L[i']? = some r∧M[j']? = some s):=by
 have h1:(pairsV a b L M 0 0)[pre.length]? = some x:=by rw [h,List.getElem?_append_right (Nat.le_refl _),Nat.sub_self];rfl
 rw [pairsV_0,List.getElem?_map] at h1;cases hp:(sideP L M)[pre.length]? with
 | none=>rw [hp] at h1;cases h1
 | some p=>
  rw [hp] at h1;refine ⟨p,rfl,(Option.some.inj h1).symm,?_,sideI_in L M 0 0 rfl rfl p (List.mem_of_getElem? hp)⟩
  rw [←sideP_map,List.getElem?_map,hp];rfl
theorem pair_form {a b:Option Addr}{L M:List RowP}{pre rest:List Value}{x:Value}(h:pairsV a b L M 0 0=pre++x::rest):∃ p q,x=.agg #[.pointer p,.pointer q]:=by
 obtain ⟨p,-,rfl,-⟩:=pair_at h;have:∀ (a:Option Addr) (i:Option Nat),∃ p,ptrAt a i=.pointer p:=fun a i=>by
  unfold ptrAt
  split
  ·exact ⟨_,rfl⟩
  ·exact ⟨_,rfl⟩
 obtain ⟨q1,h1⟩:=this a p.1;obtain ⟨q2,h2⟩:=this b p.2;exact ⟨q1,q2,by unfold pairV;rw [h1,h2]⟩
theorem pairsV_len (a b:Option Addr) (L M:List RowP):(pairsV a b L M 0 0).length=(sideR L M).length:=by
 rw [pairsV_0,List.length_map,←sideP_map,List.length_map]
theorem take_more {α:Type}{l:List α}{n:Nat}{x:α}(h:l[n]? = some x):l.take (n+1)=l.take n++[x]:=by
 rw [List.take_add_one,h];rfl
theorem slot_row {w:World}{a:Option Addr}{c:Nat}{l:List RowP}(h:Slots w (.slice a l.length c) l) {i:Nat}{r:RowP}(hi:l[i]? = some r):∃ b o us,a=some ⟨b,o,none⟩∧us.length=6∧RRow w us r∧RSlot w (str (nameKeyS r.iss)::us) r∧w.cell? ⟨b,o+i*7,none⟩=some (str (nameKeyS r.iss))∧∀ j u,us[j]? = some u→w.cell? ⟨b,o+i*7+1+j,none⟩=some u:=by
 obtain ⟨b,o,cs,rfl,-,h1,h2,h3⟩:=LAt.get h hi;have h20:=h2;obtain ⟨us,rfl,hR⟩:=h2;refine ⟨b,o,us,rfl,by simpa using h1,hR,h20,by simpa using h3 0 _ rfl,fun j u hu=>?_⟩
 have:=h3 (j+1) u (by rw [List.getElem?_cons_succ];exact hu)
 rwa [show o+i*7+(j+1)=o+i*7+1+j by omega] at this
variable {P:Program}
theorem range_lawW {g:Operand}{ps:Array Tmp}{assign body:Code}{Q:Exit→Act→World→Prop}{a:Act}{w:World}
  {gf:Nat}{lb:Array Value}(hg:a.eval g=.func (.func gf) #[] lb) (eg:∀ args w,(callFunc gf args).run P w=.ok (.enter gf args) w)
  {xs:List Value}{C:Nat→Prop}{base:Nat}(hcb:∀ k,C k→k<w.heap.size) (hbase:base≤w.heap.size) (hseq:IterV P gf lb xs C base w) (hps:ps.size=1)
  (I:List Value→World→Prop) (Ix:Code→List Value→World→Prop)
  (hI:∀ s A B,I s A→Fr (fun k=>C k∨k=w.heap.size∨k=w.heap.size+1) A B→I s B)
  (hIx:∀ c s A B,Ix c s A→Fr (fun k=>C k∨k=w.heap.size∨k=w.heap.size+1) A B→Ix c s B) (h0:I [] w) (a₁:Value→World→Act) (W₁:Value→World→World) (hW₁:∀ x W,Fr (fun _=>False) W (W₁ x W))
  (hassign:∀ (l:Nat) (pre:List Value) (x:Value) (rest:List Value) (W:World) (K:Act→World→Prop),xs=pre++x::rest→K (a₁ x W) (W₁ x W)→
    assign.wpIn (Fence.wide.inRound l) 1 P (Exit.then K (fun _ _ _=>False)) { tmps:=(ps.zip #[x]).foldl (fun t (p,v)=>t.setIfInBounds p v) a.tmps,defers:=[] } W)
  (hbody:∀ (l:Nat) (pre:List Value) (x:Value) (rest:List Value) (W W2:World),xs=pre++x::rest→I pre W→w.heap.size+2≤W.heap.size→Fr (fun k=>k=w.heap.size+1) (W₁ x W) W2→body.wpIn (Fence.wide.inRound l) 1 P (seqPostV I Ix base C w.heap.size (pre++[x]) W2) (a₁ x W) W2)
  (hdone:∀ (D:Nat) (W:World),D=w.heap.size→I xs W→W.heap[D]? = some (.deferred (some []))→Q .normal { a with defers:={ target:=.collected D,args:=#[] }::a.defers } W)
  (hstop:∀ (D:Nat) (c:Code) (pre:List Value) (W:World),D=w.heap.size→pre <+: xs→Ix c pre W→W.heap[D]? = some (.deferred (some []))→c.wpIn Fence.wide 3 P Q { a with defers:={ target:=.collected D,args:=#[] }::a.defers } W) :
  (Code.rangeFunc g ps assign body).wpIn Fence.wide 3 P Q a w:=by
 refine wpIn_rangeFunc ?_
 intro fn hfn
 obtain ⟨E,hE⟩:∃ E,E=w.heap.size:=⟨_,rfl⟩
 obtain ⟨rec,hrec⟩:∃ rec:LoopState→Option Code→Loop,rec=fun st pe=>{ state:=st,pending:=pe,fn,tmps:=a.tmps,params:=ps,assign,body,defers:=E }:=⟨_,rfl⟩
 obtain ⟨W1,hW1⟩:∃ W1,W1=(w.alloc (.deferred (some []))).alloc (.loop (rec .ready none)):=⟨_,rfl⟩
 have F1:Fr (fun _=>False) w W1:=by rw [hW1];exact ((Fr.refl w).alloc _).alloc _
 have hL1:W1.heap[E+1]? = some (.loop (rec .ready none)):=by
  rw [hW1,hE];have:=World.alloc_heap_new (w.alloc (.deferred (some []))) (.loop (rec .ready none))
  rwa [World.size_alloc] at this
 have hK1:W1.heap[E]? = some (.deferred (some [])):=by
  rw [hW1,hE];exact (Below.heap_alloc _ _ _ (by simp)).trans (World.alloc_heap_new w _)
 have hI1:I [] W1:=hI [] w W1 h0 (F1.mono (fun _ _ h=>h.elim))
 have keep:∀ {S:Nat→Prop}{A B:World}{k:Nat}{o:Obj},Fr S A B→A.heap[k]? = some o→¬S k→B.heap[k]? = some o:=fun f h hS=>
  (f.block _ (Array.getElem?_eq_some_iff.1 h).1 hS).trans h
 have hcbE:∀ k,C k→k<E:=fun k h=>by rw [hE];exact hcb k h
 refine ⟨E+1,[{ target:=.collected E,args:=#[] }],W1,{ target:=.fn (.func gf) lb,args:=#[.func (.yield (E+1)) #[] #[]] },W1,gf,
  #[.func (.yield (E+1)) #[] #[]]++lb,W1,?_,?_,fun _ _=>trivial,?_,fun _=>by decide,?_⟩
 ·rw [hW1,hrec,hE]
  exact run_enterLoop_outer _ _ _ _ _
 ·simp only [resolve,hg]
  simp [go_sem]
 ·simp [invoke,go_sem,eg]
 refine (hseq (E+1)
  (fun pre W=>I pre W∧W.heap[E+1]? = some (.loop (rec .ready none))∧W.heap[E]? = some (.deferred (some [])))
  (fun pre W=>∃ c,Ix c pre W∧W.heap[E+1]? = some (.loop (rec .done (some c)))∧W.heap[E]? = some (.deferred (some [])))
  W1 F1 ?_ ?_ ?_ ⟨hI1,hL1,hK1⟩).mono ?_
 ·rintro s A B ⟨hi,hl,hk⟩ f
  exact ⟨hI s A B hi (f.mono (fun _ _ h=>.inl h)),keep f hl (fun h=>by have:=hcbE _ h;omega),keep f hk (fun h=>by have:=hcbE _ h;omega)⟩
 ·rintro s A B ⟨c,hi,hl,hk⟩ f
  exact ⟨c,hIx c s A B hi (f.mono (fun _ _ h=>.inl h)),keep f hl (fun h=>by have:=hcbE _ h;omega),keep f hk (fun h=>by have:=hcbE _ h;omega)⟩
 ·rintro pre x rest W hxs ⟨hi,hl,hk⟩
  have hlt:E+1<W.heap.size:=(Array.getElem?_eq_some_iff.1 hl).1
  have hy:=run_yield (P:=P) (args:=#[x]) hl (by rw [hrec];simp [hps]);rw [hrec] at hy;have FA:=hW₁ x W;obtain ⟨WA,hWA⟩:∃ WA,WA=W₁ x W:=⟨_,rfl⟩
  have hlA:WA.heap[E+1]? = some (.loop (rec .ready none)):=by rw [hWA];exact keep FA hl (fun h=>h)
  have hkA:WA.heap[E]? = some (.deferred (some [])):=by rw [hWA];exact keep FA hk (fun h=>h)
  refine ⟨fn,_,assign,body,hy,roundIn_of_wpIn hfn (hassign _ pre x rest W _ hxs ?_)⟩
  rw [←hWA];refine ⟨_,run_beginRound hlA (by rw [hrec]),?_⟩
  obtain ⟨W2,hW2⟩:∃ W2,W2=WA.putObj (E+1) (.loop { rec .ready none with state:=.busy }):=⟨_,rfl⟩
  have F2A:Fr (fun k=>k=E+1) WA W2:=by rw [hW2];exact Fr.putObj (S:=fun k=>k=E+1) (Fr.refl WA) (E+1) (fun _=>rfl) _
  have F2:Fr (fun k=>k=E+1) W W2:=((by rw [hWA];exact FA:Fr (fun _=>False) W WA).mono (fun _ _ h=>h.elim)).trans F2A
  have hltA:E+1<WA.heap.size:=(Array.getElem?_eq_some_iff.1 hlA).1
  have hl2:W2.heap[E+1]? = some (.loop { rec .ready none with state:=.busy }):=by rw [hW2];exact World.putObj_heap_same hltA
  have hk2:W2.heap[E]? = some (.deferred (some [])):=keep F2A hkA (by omega)
  rw [←hW2];refine wpIn_mono (hbody _ pre x rest W W2 hxs hi (by rw [←hE];omega) (by rw [←hE,←hWA];exact F2A)) ?_
  have fin:∀ (jump:Option Code) (W3:World),Fr (fun k=>base≤k∧¬C k∧k≠E∧k≠E+1) W2 W3→
    (Instr.endRound (E+1) jump).run P W3=.ok (.bool jump.isNone) (W3.putObj (E+1) (.loop (rec (if jump.isNone then .ready else .done) jump)))∧
    (W3.putObj (E+1) (.loop (rec (if jump.isNone then .ready else .done) jump))).heap[E+1]? = some (.loop (rec (if jump.isNone then .ready else .done) jump))∧
    (W3.putObj (E+1) (.loop (rec (if jump.isNone then .ready else .done) jump))).heap[E]? = some (.deferred (some []))∧
    Fr (fun k=>C k∨k=w.heap.size∨k=w.heap.size+1) W3 (W3.putObj (E+1) (.loop (rec (if jump.isNone then .ready else .done) jump)))∧
    Fr (fun k=>base≤k∧¬C k) W (W3.putObj (E+1) (.loop (rec (if jump.isNone then .ready else .done) jump))):=fun jump W3 f3=>by
   have hl3:=keep f3 hl2 (by simp);have hk3:=keep f3 hk2 (by simp);have hr:=run_endRound (P:=P) jump hl3;have f4:Fr (fun k=>k=E+1) W3 (W3.putObj (E+1) (.loop (rec (if jump.isNone then .ready else .done) jump))):=Fr.putObj (S:=fun k=>k=E+1) (Fr.refl W3) (E+1) (fun _=>rfl) _
   have g:∀ k,k=E+1→base≤k∧¬C k:=fun k e=>⟨by omega,fun h=>by have:=hcbE k h;omega⟩
   refine ⟨?_,World.putObj_heap_same (Array.getElem?_eq_some_iff.1 hl3).1,keep f4 hk3 (by omega),f4.mono (fun _ _ h=>.inr (.inr (by rw [←hE];exact h))),?_⟩
   ·rw [hr,hrec]
   ·exact ((F2.mono (fun k _ h=>g k h)).trans (f3.mono (fun _ _ h=>⟨h.1,h.2.1⟩))).trans (f4.mono (fun k _ h=>g k h))
  rw [←hE];rintro e a3 W3 hp
  cases e with
  | normal=>
   obtain ⟨f3,hi3⟩:=hp;obtain ⟨hr,hl4,hk4,f4,f5⟩:=fin none W3 f3;exact ⟨_,_,hr,.inl ⟨rfl,⟨hI _ _ _ hi3 f4,hl4,hk4⟩,f5⟩⟩
  | ret=>
   obtain ⟨f3,hi3⟩:=hp;obtain ⟨hr,hl4,hk4,f4,f5⟩:=fin (some .ret) W3 f3;exact ⟨_,_,hr,.inr ⟨rfl,.ret,hIx _ _ _ _ hi3 f4,hl4,hk4⟩⟩
  | exit id=>
   obtain ⟨f3,hi3⟩:=hp;obtain ⟨hr,hl4,hk4,f4,f5⟩:=fin (some (.exit id)) W3 f3;exact ⟨_,_,hr,.inr ⟨rfl,.exit id,hIx _ _ _ _ hi3 f4,hl4,hk4⟩⟩
  | goto t=>
   obtain ⟨f3,hi3⟩:=hp;obtain ⟨hr,hl4,hk4,f4,f5⟩:=fin (some (.goto t)) W3 f3;exact ⟨_,_,hr,.inr ⟨rfl,.goto t,hIx _ _ _ _ hi3 f4,hl4,hk4⟩⟩
  | panic ch=>exact hp.elim
  | outgrown=>exact hp.elim
 ·rintro e W2 ⟨⟨v,rfl⟩,(⟨hi,hl,hk⟩ | ⟨pre,hpre,c,hi,hl,hk⟩)⟩
  ·have hr:=run_endLoop (P:=P) hl (by rw [hrec];simp)
   rw [hrec] at hr;refine ⟨none,_,hr,hdone E _ hE (hI _ _ _ hi ((Fr.refl W2).putObj _ (fun _=>.inr (.inr (by omega))) _)) ((World.putObj_heap_other (by omega)).trans hk)⟩
  ·have hr:=run_endLoop (P:=P) hl (by rw [hrec];simp)
   rw [hrec] at hr;refine ⟨some c,_,hr,hstop E c pre _ hE hpre (hIx c _ _ _ hi ((Fr.refl W2).putObj _ (fun _=>.inr (.inr (by omega))) _)) ((World.putObj_heap_other (by omega)).trans hk)⟩
end Go.Q
