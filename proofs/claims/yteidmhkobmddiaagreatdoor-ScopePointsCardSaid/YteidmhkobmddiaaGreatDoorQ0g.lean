/-
  Merged by program: XNTextR XR06R XR08 XR02 XR04D XNLeast XNBld XNOidT XNLibS XNOidN.
-/
import Derived.Test.YteidmhkobmddiaaGreatDoorQ0f
import Derived.Lib.Builder
import Derived.Lib.AppendStr
import Derived.Sort.OwnSorted
import Derived.Lib.Split
import Derived.Lib.RowBridge
set_option linter.unusedSimpArgs false
set_option maxRecDepth 100000
set_option maxHeartbeats 8000000
namespace Go.Q
open Go Go.RowKit
def textReadS (l:List UInt8):Except Int (Int × List UInt8 × Nat):=
 match readS l with
 |.error e=>.error e
 |.ok (t,n,k)=>if t.cls≠0∨t.made=true∨kindOk t.num=false then .error 4 else if l.length-k<n then .error 3 else
  if rightS t.num ((l.drop k).take n)=true then .ok (t.num,(l.drop k).take n,k+n) else .error 6
open Go
def leastK (l:List UInt8):Int:=if rightS 19 l=true then 19 else if rightS 12 l=true then 12 else 20
abbrev BldAt (w:World)(base b:Nat)(l:List UInt8):Prop:=Lib.IsBuilder 343 5 base b (Lib.byteCells l) w
theorem BldAt.old {w w':World}{base b:Nat}{l:List UInt8}(h:BldAt w base b l)(f:Fz w w'):BldAt w' base b l:=by
 have g:∀ p,Lib.BuilderAt 343 5 base b p (Lib.byteCells l) w→Lib.BuilderAt 343 5 base b p (Lib.byteCells l) w':=by
  rintro p ⟨hB,v,hb,hown,hne⟩;exact⟨hB,v,(f.block b (Array.getElem?_eq_some_iff.1 hb).1 (fun h=>h)).trans hb,Go.Proofs.YteidmhkobmddiaaGreatDoor.ownsRow_fr hown f (fun _ _ h=>h),hne⟩
 rcases h with h|h
 ·exact .inl (g _ h)
 ·exact .inr (g _ h)
theorem BldAt.new (w:World):BldAt (w.alloc (.cells #[.pointer none,.slice none 0 0] 343)) w.heap.size w.heap.size []:=
 .inl ⟨Nat.le_refl _,.slice none 0 0,Blk.new w _ _,⟨rfl,.inl ⟨rfl,rfl⟩⟩,by simp[Value.ownBlock]⟩
theorem Fr.of_below_at {B:Nat}{w w':World}(h:Below B w w'):Fr (fun k=>B≤k) w w':=⟨h.os,h.tape,h.output,h.size,fun k _ hk=>h.block k (by omega)⟩
abbrev Strs (w:World)(v:Value)(ks:List (List UInt8)):Prop:=Vals w v (ks.map str)
def cutAt (c:UInt8):List UInt8→List (List UInt8)
 | []=>[[]]
 |x::t=>if x=c then []::cutAt c t else match cutAt c t with
  | []=>[[x]]
  |h::r=>(x::h)::r
def cut1 (c:UInt8):List UInt8→List UInt8 × List UInt8 × Bool
 | []=>([],[],false)
 |x::t=>if x=c then ([],t,true) else (x::(cut1 c t).1,(cut1 c t).2)
theorem index1_nil (c:UInt8):Lib.index [] [c]=-1:=rfl
theorem index1_eq (c:UInt8)(t:List UInt8):Lib.index (c::t) [c]=0:=by simp[Lib.index]
theorem index1_ne {c x:UInt8}(h:x≠c)(t:List UInt8):Lib.index (x::t) [c]=if Lib.index t [c]=-1 then -1 else Lib.index t [c]+1:=by
 have h':¬c=x:=fun e=>h e.symm
 simp[Lib.index,h']
theorem cut_cut1 (c:UInt8):∀ l:List UInt8,Lib.cut l [c]=cut1 c l
 | []=>rfl
 |x::t=>by
  have ih:=cut_cut1 c t;unfold Lib.cut at ih ⊢;simp only[cut1]
  by_cases h:x=c
  ·subst h
   rw[index1_eq]
   simp
  ·rw[index1_ne h,if_neg h,←ih]
   have hg:=Lib.index_ge t [c];by_cases hm:Lib.index t [c]=-1
   ·rw[if_pos hm,if_neg (by omega),if_neg (by omega)]
   ·rw[if_neg hm,if_pos (by omega),if_pos (by omega)]
    have e:(Lib.index t [c]+1).toNat=(Lib.index t [c]).toNat+1:=by omega
    rw[e]
    simp
theorem split_cutAt (c:UInt8):∀ l:List UInt8,Lib.splitK [c] 0 (Lib.count l [c]) l=cutAt c l∧Lib.count l [c]+1=(cutAt c l).length
 | []=>⟨by rw[Lib.count_miss (index1_nil c)];rfl,by rw[Lib.count_miss (index1_nil c)];rfl⟩
 |x::t=>by
  obtain⟨ih1,ih2⟩:=split_cutAt c t
  have hne:([c]:List UInt8)≠[]:=by simp
  by_cases h:x=c
  ·subst h
   rw[Lib.count_hit (i:=0) hne (index1_eq x t)]
   have e:(x::t).drop (0+[x].length)=t:=rfl;rw[e,show 1+Lib.count t [x]=Lib.count t [x]+1 from by omega]
   unfold cutAt;rw[if_pos rfl]
   refine⟨?_,by simp[ih2]⟩
   unfold Lib.splitK;rw[index1_eq,if_neg (by decide)]
   simp[ih1]
  ·have hi:=index1_ne h t
   have hg:=Lib.index_ge t [c];unfold cutAt;rw[if_neg h]
   by_cases hm:Lib.index t [c]=-1
   ·rw[if_pos hm]at hi
    rw[Lib.count_miss hi]
    rw[Lib.count_miss hm]at ih1 ih2
    simp only[Lib.splitK]at ih1 ⊢
    rw[←ih1]
    exact⟨rfl,rfl⟩
   ·rw[if_neg hm]at hi
    obtain⟨i,hii⟩:∃ i:Nat,Lib.index t [c]=i:=⟨(Lib.index t [c]).toNat,by omega⟩
    rw[hii]at hi
    have hc1:=Lib.count_hit (i:=i+1) hne (show Lib.index (x::t) [c]=((i+1:Nat):Int) by rw[hi];omega);have hc2:=Lib.count_hit (i:=i) hne hii;have e:(x::t).drop (i+1+[c].length)=t.drop (i+[c].length):=by simp only[List.length_singleton];rfl
    rw[e,←hc2]at hc1
    rw[hc1]
    rw[hc2,Nat.add_comm 1]at ih1 ih2 ⊢
    unfold Lib.splitK at ih1 ⊢;rw[hii,if_neg (by simp)]at ih1
    rw[hi,if_neg (by simp;omega)]
    rw[←ih1]at ih2 ⊢
    have e2:((i:Int)+1).toNat=i+1:=by omega
    refine⟨?_,by simpa using ih2⟩
    simp[e2]
theorem Strs.form {w:World}{v:Value}{ks:List (List UInt8)}(h:Strs w v ks):∃ a cap,v=.slice a ks.length cap∧ks.length≤cap∧cap≤maxLen∧(0<ks.length→∃ b o,a=some ⟨b,o,none⟩∧∀ i x,ks[i]? = some x→w.cell? ⟨b,o+i,none⟩=some (str x)):=by
 obtain⟨a,cap,rfl,hc,hm,h⟩:=h
 rw[List.length_map]at hc h ⊢
 refine⟨a,cap,rfl,hc,hm,fun h0=>?_⟩
 obtain⟨b,o,rfl,hx⟩:=h h0
 exact⟨b,o,rfl,fun i x hxx=>hx i _ (by rw[List.getElem?_map,hxx];rfl)⟩
def sortS (ks:List (List UInt8)):List (List UInt8):=ks.mergeSort fun x y=>decide (x≤y)
def digB (x:UInt8):Bool:=decide (48≤x.toNat∧x.toNat≤57)
def numVal (l:List UInt8):Nat:=l.foldl (fun n x=>10*n+(x.toNat-48)) 0
def numTextS (l:List UInt8):Option Nat:=
 if l.length=0∨10<l.length∨(l.head? = some 48∧1<l.length) then none else if l.all digB=true then some (numVal l) else none
def numOut:Option Nat→Value
 |none=>.tuple #[.int .i64 0,.bool false]
 |some n=>.tuple #[.int .i64 n,.bool true]
theorem numVal_take {l:List UInt8}{j:Nat}{x:UInt8}(h:l[j]? = some x):numVal (l.take (j+1))=10*numVal (l.take j)+(x.toNat-48):=by
 unfold numVal;rw[List.take_add_one,h]
 simp[List.foldl_append]
theorem numVal_lt:∀ (l:List UInt8),l.all digB=true→numVal l<10 ^ l.length:=by
 have:∀ (l:List UInt8) (n k:Nat),n<10 ^ k→l.all digB=true→l.foldl (fun n x=>10*n+(x.toNat-48)) n<10 ^ (k+l.length):=by
  intro l;induction l with
  |nil=>intro n k h _;simpa using h
  |cons x t ih=>
   intro n k h ha;simp only[List.all_cons,Bool.and_eq_true]at ha
   have hx:=of_decide_eq_true ha.1;have:=ih (10*n+(x.toNat-48)) (k+1) (by rw[Nat.pow_succ];omega) ha.2;simp only[List.foldl_cons,List.length_cons]
   rw[show k+(t.length+1)=k+1+t.length from by omega]
   exact this
 intro l h;have:=this l 0 0 (by decide) h;rw[Nat.zero_add]at this
 exact this
theorem numVal_small {l:List UInt8}(h:l.all digB=true)(hl:l.length≤10):numVal l<10000000000:=by
 have h1:=numVal_lt l h;have h2:(10:Nat) ^ l.length≤10 ^ 10:=Nat.pow_le_pow_right (by decide) hl;exact Nat.lt_of_lt_of_le h1 h2
end Go.Q
namespace Go.Proofs.YteidmhkobmddiaaGreatDoor
open Go Go.RowKit Go.Q
def TextOut (w w':World)(c:Nat)(K:Nat→Prop)(bs:List UInt8)(p:Nat)(e:Ending):Prop:=
 match textReadS (bs.drop p) with
 |.error x=>e=.returned (.tuple #[.agg #[.int .i64 0,.slice none 0 0],.int .i64 x])∧x≠0∧CurAt w' c K bs p
 |.ok (k,b,n)=>(∃ u,e=.returned (.tuple #[.agg #[.int .i64 k,u],.int .i64 0])∧w'.ownsRow w.heap.size 5 1 u b.length (Lib.byteCells b))∧CurAt w' c K bs (p+n)
theorem textFail_any {w:World}{c b2 b6:Nat}{K:Nat→Prop}{bs:List UInt8}{p q:Nat}(x:Int)(h:CurAt w c K bs q)(hpq:p≤q)(B2:Blk w b2 236 #[pt c])(B6:Blk w b6 3 #[.int .i64 p]) :
  Calls Tryz.prog 361 #[.int .i64 x,pt b2,pt b6] w fun e w'=>e=.returned (.tuple #[.agg #[.int .i64 0,.slice none 0 0],.int .i64 x])∧CurAt w' c K bs p∧Fr (fun k=>k=c) w w':=by
 have hlc:=h.lt;obtain⟨z,hz⟩:∃ z,z=w.heap.size:=⟨_,rfl⟩
 have F0:Fz w (w.alloc (.cells #[.int .i64 0,.slice none 0 0] 251)):=(Fr.refl w).alloc _;have BZ:=Blk.new w 251 #[.int .i64 0,.slice none 0 0];rw[←hz]at BZ
 have H:=Hi (h.step (K':=fun k=>K k∨w.heap.size≤k) F0 (fun _ _ h=>h.elim) (fun _ h=>h));have e2:=(B2.fr F0 (fun h=>h)).cell 0;have e6:=(B6.fr F0 (fun h=>h)).cell 0;simp at e2 e6
 have HZ:=Hi hz;have HF:=Hi F0;have hzc:z≠c:=by omega
 clear h hz F0 B2 B6;go_enter Tryz.func361,Tryz.ntmps361
 go_upto_region 1 with fail
 rw[←HZ.out]
 generalize (w.alloc (.cells #[.int .i64 0,.slice none 0 0] 251))=w1 at *
 go_wp2_with fail
 refine(back_any H.out p hpq).mono ?_
 rintro e w2 ⟨rfl,C2,F2⟩;have BZ2:=BZ.fr F2 hzc;have z0:=BZ2.cell 0;have z1:=BZ2.cell 1;have f0:=BZ2.frozen 0;have f1:=BZ2.frozen 1;simp at z0 z1
 obtain⟨BZ3,F3⟩:=set2 BZ2 (.int .i64 0) (.slice none 0 0)
 have hlc2:=C2.lt;have HC3:=Hi (C2.step (K':=K) F3 (fun k hk e=>.inr (by have:=HZ.out;omega)) (fun _ h=>.inl (.inl h)));have HF3:=Hi (((HF.out.mono (T:=fun k=>k=c) (fun _ _ h=>h.elim)).trans F2).trans' F3 (fun i hi e=>by have:=HZ.out;omega));have n0:=BZ3.cell 0;have n1:=BZ3.cell 1;simp at n0 n1
 clear C2 F2 F3 BZ3 BZ2 BZ HF H;go_wp2_with fail
 exact bodyPost_ret (v:=.tuple #[.agg #[.int .i64 0,.slice none 0 0],.int .i64 x]) (by simp[results,Tryz.results361,go_sem,n0,n1]) rfl ⟨rfl,HC3.out,HF3.out⟩
theorem textRead_any {w:World}{c:Nat}{K:Nat→Prop}{bs:List UInt8}{p:Nat}(h:CurAt w c K bs p)(hT:Tabs w)(hK:¬(2=c∨3=c)) :
  Calls Tryz.prog 318 #[pt c,.slice none 0 0] w fun e w'=>TextOut w w' c K bs p e∧Fr (fun k=>k=c) w w':=by
 have hlc:=h.lt;have hle:=h.le;have hsm:=h.small;obtain⟨z,hz⟩:∃ z,z=w.heap.size:=⟨_,rfl⟩
 have F0:Fz w (((w.alloc (.cells #[pt c] 236)).alloc (.cells #[.int .i64 0,.slice none 0 0] 251)).alloc (.cells #[.int .i64 12,.int .i64 19,.int .i64 20,.int .i64 22,.int .i64 26,.int .i64 30] 3)):=(((Fr.refl w).alloc _).alloc _).alloc _;have BP:=((Blk.new w 236 #[pt c]).alloc (.cells #[.int .i64 0,.slice none 0 0] 251)).alloc (.cells #[.int .i64 12,.int .i64 19,.int .i64 20,.int .i64 22,.int .i64 26,.int .i64 30] 3)
 have BZ:=(Blk.new (w.alloc (.cells #[pt c] 236)) 251 #[.int .i64 0,.slice none 0 0]).alloc (.cells #[.int .i64 12,.int .i64 19,.int .i64 20,.int .i64 22,.int .i64 26,.int .i64 30] 3);have BY:=Blk.new ((w.alloc (.cells #[pt c] 236)).alloc (.cells #[.int .i64 0,.slice none 0 0] 251)) 3 #[.int .i64 12,.int .i64 19,.int .i64 20,.int .i64 22,.int .i64 26,.int .i64 30];have H:=Hi (h.step (K':=fun k=>K k∨w.heap.size≤k) F0 (fun _ _ h=>h.elim) (fun _ h=>h));rw[World.size_alloc,World.size_alloc]at BY
 rw[World.size_alloc]at BZ
 rw[←hz]at BP BZ BY
 have HZ:=Hi hz;have HF:=Hi (F0.mono (T:=fun k=>k=c) (fun _ _ h=>h.elim));have HT:=Hi (hT.old F0);have hzc:c<z:=by omega
 clear h hz F0 hT;go_enter Tryz.func318,Tryz.ntmps318
 go_upto_region 3 with (first|(go_at_call 301;go_in))
 rw[←HZ.out]
 generalize (((w.alloc (.cells #[pt c] 236)).alloc (.cells #[.int .i64 0,.slice none 0 0] 251)).alloc (.cells #[.int .i64 12,.int .i64 19,.int .i64 20,.int .i64 22,.int .i64 26,.int .i64 30] 3))=w0 at *
 have p0:=BP.cell 0;simp at p0
 have hy:=BY.lt;go_wp2_with fail
 refine(at_any H.out).mono ?_
 rintro e w' ⟨rfl,rfl⟩;go_upto_region 4 with fail
 obtain⟨t,ht⟩:∃ t,t=w0.heap.size:=⟨_,rfl⟩
 have BT:=Blk.new w0 3 #[.int .i64 p];have F1:Fz w0 (w0.alloc (.cells #[.int .i64 p] 3)):=(Fr.refl w0).alloc _;have BP1:=BP.fr F1 (fun h=>h);have BZ1:=BZ.fr F1 (fun h=>h);have BY1:=BY.fr F1 (fun h=>h);have HT1:=Hi (HT.out.old F1);have H1:=Hi (H.out.old F1);have HF1:=Hi (HF.out.trans (F1.mono (fun _ _ h=>h.elim)));rw[←ht]at BT ⊢
 have hzt:z+3≤t:=by omega
 clear p0 BP BZ BY HT H HF F1 ht;generalize (w0.alloc (.cells #[.int .i64 p] 3))=w1 at *
 have p0:=BP1.cell 0;simp at p0
 go_wp2_with fail
 refine(headRead_any H1.out).mono ?_
 rintro e w2 ⟨⟨tg,n,x,rfl,hout⟩,C2,F2⟩;obtain⟨tc,tn,tm⟩:=tg
 rw[show tagV ⟨tc,tn,tm⟩=.agg #[.int .i64 tc,.int .i64 tn,.bool tm] from rfl]
 have ht1:=BT.lt;have h1c:=H1.out.lt;have BP2:=BP1.fr F2 (by omega);have BZ2:=BZ1.fr F2 (by omega);have BY2:=BY1.fr F2 (by omega);have BT2:=BT.fr F2 (by omega);go_upto_region 5 with fail
 obtain⟨g,hg⟩:∃ g,g=w2.heap.size:=⟨_,rfl⟩
 have hgt:t<g:=by have:=BT2.lt;omega
 have BG:=Blk.new w2 201 #[.int .i64 tc,.int .i64 tn,.bool tm];have F3:Fz w2 (w2.alloc (.cells #[.int .i64 tc,.int .i64 tn,.bool tm] 201)):=(Fr.refl w2).alloc _;replace BP2:=BP2.fr F3 (fun h=>h);replace BZ2:=BZ2.fr F3 (fun h=>h);replace BY2:=BY2.fr F3 (fun h=>h);replace BT2:=BT2.fr F3 (fun h=>h);have HC3:=Hi (C2.old F3);have HF3:=Hi ((HF1.out.trans F2).trans (F3.mono (fun _ _ h=>h.elim)));have HT3:=Hi ((HT1.out.fr F2 (fun e=>hK (.inl e)) (fun e=>hK (.inr e))).old F3);have HO:=Hi hout;rw[←hg]at BG ⊢
 clear p0 BP1 BZ1 BY1 BT HT1 H1 HF1 F2 F3 C2 hg hout ht1 h1c;generalize (w2.alloc (.cells #[.int .i64 tc,.int .i64 tn,.bool tm] 201))=w3 at *
 have z0:=BZ2.cell 0;have z1:=BZ2.cell 1;have f0:=BZ2.frozen 0;have f1:=BZ2.frozen 1;have q0:=BP2.cell 0;have q1:=BT2.cell 0;simp at z0 z1 q0 q1
 by_cases hx:x=0
 ·subst hx
  obtain⟨k,hr⟩:∃ k,readS (bs.drop p)=.ok (⟨tc,tn,tm⟩,n,k):=by
   have ho:=HO.out;cases hr:readS (bs.drop p) with
   |error e=>rw[hr]at ho;exact absurd ho.symm (readS_err hr)
   |ok vk=>obtain⟨v,m,k⟩:=vk;rw[hr]at ho;exact⟨k,by rw[ho.1,ho.2.1]⟩
  have hc3:=HC3.out;rw[hr]at hc3
  have HC4:=Hi (show CurAt w3 c (fun k=>K k∨w.heap.size≤k) bs (p+k) from hc3);have hpk:p+k≤bs.length:=HC4.out.le;have hts:textReadS (bs.drop p)=if tc≠0∨tm=true∨Go.Q.kindOk tn=false then .error 4 else if (bs.drop p).length-k<n then .error 3 else if rightS tn (((bs.drop p).drop k).take n)=true then .ok (tn,((bs.drop p).drop k).take n,k+n) else .error 6:=by unfold textReadS;rw[hr]
  rw[List.length_drop,List.drop_drop]at hts
  have HTS:=Hi hts;have HTC:=Hi (show ∀ W,Fr (fun k=>k=c) w W→Blk W (z+1) 251 #[.int .i64 0,.slice none 0 0]→∀ er:Int,textReadS (bs.drop p)=.error er→er≠0→CurAt W c (fun k=>K k∨w.heap.size≤k) bs p→∃ W',W'=(W.setCell ⟨z+1,0,none⟩ (.int .i64 0)).setCell ⟨z+1,1,none⟩ (.slice none 0 0)∧Blk W' (z+1) 251 #[.int .i64 0,.slice none 0 0]∧TextOut w W' c K bs p (.returned (.tuple #[.agg #[.int .i64 0,.slice none 0 0],.int .i64 er]))∧Fr (fun k=>k=c) w W' from fun W FW BW er hs her hcw=>by
   obtain⟨BZ3,F4⟩:=set2 BW (.int .i64 0) (.slice none 0 0)
   refine⟨_,rfl,BZ3,?_,FW.trans' F4 (fun i hi e=>by have:=HZ.out;omega)⟩
   unfold TextOut;rw[hs]
   exact⟨rfl,her,hcw.step F4 (fun k hk e=>.inr (by have:=HZ.out;omega)) (fun _ h=>.inl (.inl h))⟩)
  clear hr hc3 hts HC3 HO;have HFAIL:=Hi (textFail_any (p:=p) 4 HC4.out (by omega) BP2 BT2);have hcn:=Go.Proofs.Tryz.slices_Contains_int (z+1+1) 0 6 6 [12,19,20,22,26,30] tn w3 (by simp) (by omega) (fun j hj=>by
   rw[Nat.zero_add,BY2.cell]
   match j,hj with
   |0,_=>rfl
   |1,_=>rfl
   |2,_=>rfl
   |3,_=>rfl
   |4,_=>rfl
   |5,_=>rfl
   |j+6,hj=>simp at hj;omega)
  rw[show ([12,19,20,22,26,30]:List Int).take 6=[12,19,20,22,26,30] from rfl,kind_contains]at hcn
  have HCN:=Hi (show Calls Tryz.prog 300 #[.slice (some ⟨z+1+1,0,none⟩) 6 6,.int .i64 tn] w3 fun e w'=>e=.returned (.bool (Go.Q.kindOk tn))∧w3=w' from hcn.mono (fun _ _ h=>⟨h.1,h.2.symm⟩));clear hcn;have g0:=BG.cell 0;have g1:=BG.cell 1;have g2:=BG.cell 2;simp at g0 g1 g2
  by_cases hb:tc≠0∨tm=true∨Go.Q.kindOk tn=false
  ·have hs:textReadS (bs.drop p)=.error 4:=by rw[HTS.out,if_pos hb]
   have HS:=Hi hs;clear hs;have hcase:((tc==0)=false∧(tc != 0)=true)∨(tc=0∧tm=true)∨(tc=0∧tm=false∧Go.Q.kindOk tn=false):=by
    by_cases h0:tc=0
    ·cases tm with
     |true=>exact .inr (.inl ⟨h0,rfl⟩)
     |false=>
           rcases hb with h|h|h
           ·exact absurd h0 h
           ·cases h
           ·exact .inr (.inr ⟨h0,rfl,h⟩)
    ·exact .inl ⟨beq_eq_false_iff_ne.2 h0,by simpa using h0⟩
   clear hb;rcases hcase with ⟨h,h'⟩|⟨rfl,rfl⟩|⟨rfl,rfl,hkn⟩
   all_goals
    go_wp2_with (first|(go_at_call 300;refine HCN.out.mono ?_;rintro e w' ⟨rfl,rfl⟩))
    refine HFAIL.out.mono ?_;rintro e w5 ⟨rfl,C5,F5⟩;have BZ5:=BZ2.fr F5 (by omega);obtain⟨W',hW',BW',hout,FW'⟩:=HTC.out w5 (HF3.out.trans F5) BZ5 4 HS.out (by decide) C5
    have HOUT:=Hi hout;have HFW:=Hi FW';have HWW:=Hi hW';have z0':=BZ5.cell 0;have z1':=BZ5.cell 1;have f0':=BZ5.frozen 0;have f1':=BZ5.frozen 1;simp at z0' z1'
    have n0:=BW'.cell 0;have n1:=BW'.cell 1;simp at n0 n1
    clear C5 F5 BZ5 hW' BW' hout FW';go_wp2_with fail
    rw[←HWW.out]
    refine bodyPost_ret (v:=.tuple #[.agg #[.int .i64 0,.slice none 0 0],.int .i64 4]) (by simp[results,Tryz.results318,go_sem,n0,n1]) rfl ⟨HOUT.out,HFW.out⟩
  ·have hb0:tc=0∧tm=false∧Go.Q.kindOk tn=true:=by
    refine⟨Classical.byContradiction fun h=>hb (.inl h),?_,?_⟩
    ·cases tm with
     |true=>exact absurd (.inr (.inl rfl)) hb
     |false=>rfl
    ·cases h:Go.Q.kindOk tn with
     |true=>rfl
     |false=>exact absurd (.inr (.inr h)) hb
   have hs1:=HTS.out;rw[if_neg hb]at hs1
   obtain⟨rfl,rfl,hkn⟩:=hb0
   clear hb;by_cases hn:bs.length-(p+k)<n
   ·rw[if_pos (by omega)]at hs1
    have HS:=Hi hs1;have HTK:=Hi (take_end HC4.out n hn);clear hs1;go_wp2_with (first|(go_at_call 300;refine HCN.out.mono ?_;rintro e w' ⟨rfl,rfl⟩))
    refine HTK.out.mono ?_;rintro e w4 ⟨rfl,F4⟩;have BP4:=BP2.fr F4 (fun h=>h);have BT4:=BT2.fr F4 (fun h=>h);have BZ4:=BZ2.fr F4 (fun h=>h);have HFAIL3:=Hi (textFail_any (p:=p) 3 (HC4.out.old F4) (by omega) BP4 BT4);have HF4:=Hi (HF3.out.trans (F4.mono (fun _ _ h=>h.elim)));clear F4 BP4 BT4 BP2 BT2 BY2 HCN g0 g1 g2 z0 z1 f0 f1 q0 q1 BZ2;go_wp2_with fail
    refine HFAIL3.out.mono ?_;rintro e w5 ⟨rfl,C5,F5⟩;have BZ5:=BZ4.fr F5 (by omega);obtain⟨W',hW',BW',hout,FW'⟩:=HTC.out w5 (HF4.out.trans F5) BZ5 3 HS.out (by decide) C5
    have HOUT:=Hi hout;have HFW:=Hi FW';have HWW:=Hi hW';have z0':=BZ5.cell 0;have z1':=BZ5.cell 1;have f0':=BZ5.frozen 0;have f1':=BZ5.frozen 1;simp at z0' z1'
    have n0:=BW'.cell 0;have n1:=BW'.cell 1;simp at n0 n1
    clear C5 F5 BZ5 hW' BW' hout FW';go_wp2_with fail
    rw[←HWW.out]
    refine bodyPost_ret (v:=.tuple #[.agg #[.int .i64 0,.slice none 0 0],.int .i64 3]) (by simp[results,Tryz.results318,go_sem,n0,n1]) rfl ⟨HOUT.out,HFW.out⟩
   ·rw[if_neg (by omega)]at hs1
    obtain⟨b,hbb⟩:∃ b,b=(bs.drop (p+k)).take n:=⟨_,rfl⟩
    have hbl:b.length=n:=by rw[hbb,List.length_take,List.length_drop];omega
    rw[←hbb]at hs1
    have HS:=Hi hs1;have HTK:=take_ok HC4.out n (by omega);rw[←hbb]at HTK
    have HTK:=Hi HTK;have hl3:=BG.lt;clear hs1 hbb;go_wp2_with (first|(go_at_call 300;refine HCN.out.mono ?_;rintro e w' ⟨rfl,rfl⟩))
    refine HTK.out.mono ?_;rintro e w4 ⟨v4,rfl,ho4,C4,F4⟩;have BP4:=BP2.fr F4 (by omega);have BT4:=BT2.fr F4 (by omega);have BZ4:=BZ2.fr F4 (by omega);have BG4:=BG.fr F4 (by omega);have HT4:=Hi (HT3.out.fr F4 (fun e=>hK (.inl e)) (fun e=>hK (.inr e)));obtain⟨a4,m4,c4,rfl,rfl⟩:=own_shape ho4
    have HF4:=Hi (HF3.out.trans F4);have HO4:=Hi ho4;have HC5:=Hi C4;have hv4:=(Vals.of_own ho4).1;clear HT3 HC4 F4 BP2 BT2 BY2 HCN g0 g1 g2 z0 z1 f0 f1 q0 q1 BZ2 BG C4 ho4 HTK;have g1:=BG4.cell 1;simp at g1
    go_upto_region 14 with fail
    obtain⟨y,hy⟩:∃ y,y=w4.heap.size:=⟨_,rfl⟩
    have BX:=Blk.new w4 251 #[.int .i64 tn,.slice a4 m4 c4];have F5:Fz w4 (w4.alloc (.cells #[.int .i64 tn,.slice a4 m4 c4] 251)):=(Fr.refl w4).alloc _;have hv5:=hv4.old F5;have HR:=Hi (rightText_any tn _ b _ hv5 (HT4.out.old F5));have BP5:=BP4.fr F5 (fun h=>h);have BT5:=BT4.fr F5 (fun h=>h);have BZ5:=BZ4.fr F5 (fun h=>h);have HC5':=Hi (HC5.out.old F5);have HO5:=Hi (ownsRow_fr HO4.out F5 (fun _ _ h=>h));have HF5:=Hi (HF4.out.trans (F5.mono (fun _ _ h=>h.elim)));rw[←hy]at BX ⊢
    clear HC5 HO4 HF4 F5 BP4 BT4 BZ4 BG4 hv4 hv5 g1 hy HT4;generalize (w4.alloc (.cells #[.int .i64 tn,.slice a4 m4 c4] 251))=w5 at *
    have x0:=BX.cell 0;have x1:=BX.cell 1;simp at x0 x1
    cases hrt:rightS tn b with
    |false=>
     have hs1:=HS.out;rw[hrt]at hs1
     simp only[Bool.false_eq_true,↓reduceIte]at hs1
     rw[hrt]at HR
     have HS6:=Hi hs1;clear hs1 HS hrt;go_wp2_with (first|(go_at_call 203;refine HR.out.mono ?_;rintro e w6 ⟨rfl,F6⟩))
     have HFAIL6:=Hi (textFail_any (p:=p) 6 (HC5'.out.old F6) (by omega) (BP5.fr F6 (fun h=>h)) (BT5.fr F6 (fun h=>h)));refine HFAIL6.out.mono ?_;rintro e w7 ⟨rfl,C7,F7⟩;have BZ7:=(BZ5.fr F6 (fun h=>h)).fr F7 (by omega);obtain⟨W',hW',BW',hout,FW'⟩:=HTC.out w7 ((HF5.out.trans (F6.mono (fun _ _ h=>h.elim))).trans F7) BZ7 6 HS6.out (by decide) C7
     have HOUT:=Hi hout;have HFW:=Hi FW';have HWW:=Hi hW';have z0':=BZ7.cell 0;have z1':=BZ7.cell 1;have f0':=BZ7.frozen 0;have f1':=BZ7.frozen 1;simp at z0' z1'
     have n0:=BW'.cell 0;have n1:=BW'.cell 1;simp at n0 n1
     clear C7 F7 BZ7 hW' BW' hout FW';go_wp2_with fail
     rw[←HWW.out]
     refine bodyPost_ret (v:=.tuple #[.agg #[.int .i64 0,.slice none 0 0],.int .i64 6]) (by simp[results,Tryz.results318,go_sem,n0,n1]) rfl ⟨HOUT.out,HFW.out⟩
    |true=>
     have hs1:=HS.out;rw[hrt]at hs1
     simp only[↓reduceIte]at hs1
     rw[hrt]at HR
     have HS6:=Hi hs1;clear hs1 HS hrt;go_wp2_with (first|(go_at_call 203;refine HR.out.mono ?_;rintro e w6 ⟨rfl,F6⟩;have BX6:=BX.fr F6 (fun h=>h);have BZ6:=BZ5.fr F6 (fun h=>h);have x0':=BX6.cell 0;have x1':=BX6.cell 1;have z0':=BZ6.cell 0;have z1':=BZ6.cell 1;have f0':=BZ6.frozen 0;have f1':=BZ6.frozen 1;simp only[SG]at x0' x1' z0' z1'))
     obtain⟨BZ7,F7⟩:=set2 (BZ5.fr F6 (fun h=>h)) (.int .i64 tn) (.slice a4 m4 c4)
     have n0:=BZ7.cell 0;have n1:=BZ7.cell 1;simp at n0 n1
     have hob:∀ q,(Value.slice a4 m4 c4).ownBlock=some q→w3.heap.size≤q:=fun q hq=>((Vals.of_own HO5.out).2 q hq).1
     have HO7:=Hi (own_le (ownsRow_fr (ownsRow_fr HO5.out F6 (fun _ _ h=>h)) F7 (fun q hq e=>by have:=hob q hq;omega)) (base':=w.heap.size) (by have:=HZ.out;omega));have HC7:=Hi ((HC5'.out.old F6).step (K':=K) F7 (fun q hq e=>.inr (by have:=HZ.out;omega)) (fun _ h=>.inl (.inl h)));have HF7:=Hi ((HF5.out.trans (F6.mono (fun _ _ h=>h.elim))).trans' F7 (fun i hi e=>by have:=HZ.out;omega));refine bodyPost_ret (v:=.tuple #[.agg #[.int .i64 tn,.slice a4 m4 c4],.int .i64 0]) (by simp[results,Tryz.results318,go_sem,n0,n1]) rfl ⟨?_,HF7.out⟩;unfold TextOut;rw[HS6.out]
     have hc7:=HC7.out;rw[Nat.add_assoc]at hc7
     simp only
     exact⟨⟨_,rfl,by rw[hbl];exact HO7.out⟩,hc7⟩
 ·have hx1:(x==0)=false:=beq_eq_false_iff_ne.2 hx
  have hr:readS (bs.drop p)=.error x:=by
   have ho:=HO.out;cases hr:readS (bs.drop p) with
   |error e=>rw[hr]at ho;rw[show x=e from ho]
   |ok vk=>obtain⟨v,m,k⟩:=vk;rw[hr]at ho;exact absurd ho.2.2 hx
  have hs:textReadS (bs.drop p)=.error x:=by unfold textReadS;rw[hr]
  have hc3:=HC3.out;rw[hr]at hc3
  obtain⟨BZ3,F4⟩:=set2 BZ2 (.int .i64 0) (.slice none 0 0)
  have HC4:=Hi (CurAt.step (K':=K) hc3 F4 (fun k hk e=>.inr (by have:=HZ.out;omega)) (fun _ h=>.inl (.inl h)));have HF4:=Hi (HF3.out.trans' F4 (fun i hi e=>by have:=HZ.out;omega));have HS:=Hi hs;have n0:=BZ3.cell 0;have n1:=BZ3.cell 1;simp at n0 n1
  have hxn:=Hi hx;clear hr hs hc3 F4 BZ3 BZ2 BP2 BY2 BT2 BG HC3 HF3 hx;go_wp2_with fail
  refine bodyPost_ret (v:=.tuple #[.agg #[.int .i64 0,.slice none 0 0],.int .i64 x]) (by simp[results,Tryz.results318,go_sem,n0,n1]) rfl ⟨?_,HF4.out⟩;unfold TextOut;rw[HS.out]
  exact⟨rfl,hxn.out,HC4.out⟩
def RTextOut (wb:World)(l:List UInt8)(p:Nat)(e:Ending):Prop:=
 match textReadS (l.drop p) with
 |.error x=>e=.returned (.tuple #[.agg #[.int .i64 0,.slice none 0 0],.int .i64 p,.int .i64 x])
 |.ok (k,b,n)=>∃ u,e=.returned (.tuple #[.agg #[.int .i64 k,u],.int .i64 ((p+n:Nat):Int),.int .i64 0])∧Bytes wb u b
theorem least_any (l:List UInt8)(w:World)(hT:Tabs w)(hl:l.length≤1099511627776) :
  Calls Tryz.prog 148 #[str l] w fun e w'=>(∃ u,e=.returned (.agg #[.int .i64 (leastK l),u])∧Bytes w' u l∧∀ k,u.ownBlock=some k→w.heap.size≤k)∧Fz w w':=by
 obtain⟨z,hz⟩:∃ z,z=w.heap.size:=⟨_,rfl⟩
 have F0:Fz w ((w.alloc (.cells #[.int .i64 0,.slice none 0 0] 251)).alloc (.cells #[.int .i64 19,.int .i64 12] 3)):=((Fr.refl w).alloc _).alloc _;have BZ:=(Blk.new w 251 #[.int .i64 0,.slice none 0 0]).alloc (.cells #[.int .i64 19,.int .i64 12] 3);have BY:=Blk.new (w.alloc (.cells #[.int .i64 0,.slice none 0 0] 251)) 3 #[.int .i64 19,.int .i64 12];rw[World.size_alloc,←hz]at BY
 rw[←hz]at BZ
 have HZ:=Hi hz;have HF0:=Hi F0;have HT:=Hi hT;clear hz F0 hT;go_enter Tryz.func148,Tryz.ntmps148
 go_upto_region 2 with fail
 rw[←HZ.out]
 generalize ((w.alloc (.cells #[.int .i64 0,.slice none 0 0] 251)).alloc (.cells #[.int .i64 19,.int .i64 12] 3))=w1 at *
 go_loopg [8] 2 (fun g i wr=>∃ j:Nat,g=2-j∧j≤2∧i=.int .i64 j∧((1≤j→rightS 19 l=false)∧(2≤j→rightS 12 l=false))∧Blk wr z 251 #[.int .i64 0,.slice none 0 0]∧Blk wr (z+1) 3 #[.int .i64 19,.int .i64 12]∧Fz w wr)
 case atStart=>exact⟨0,rfl,by omega,rfl,⟨fun h=>absurd h (by omega),fun h=>absurd h (by omega)⟩,BZ,BY,HF0.out⟩
 case round=>
  obtain⟨j,hg,hj,rfl,hno,BZ,BY,F⟩:=hrel
  have HG:=Hi hg;have HNO:=Hi hno;obtain⟨cp,wc,hcv,hbv,FC,-⟩:=bytes_of_str wr l hl
  have HB:=Hi hbv;have HCV:=Hi hcv;have hss:(ByteArray.mk l.toArray).size=l.length:=by simp[ByteArray.size]
  clear hg hno hbv;by_cases hj2:j<2
  ·obtain⟨kd,hk1,hk2,hk3⟩:∃ kd:Int,(#[Value.int .i64 19,.int .i64 12]:Array Value)[j]? = some (.int .i64 kd)∧(rightS kd l=true→leastK l=kd)∧(rightS kd l=false→(1≤j+1→rightS 19 l=false)∧(2≤j+1→rightS 12 l=false)):=by
    rcases (show j=0∨j=1 by omega) with rfl|rfl
    ·exact⟨19,rfl,fun h=>by unfold leastK;rw[if_pos h],fun h=>⟨fun _=>h,fun h=>absurd h (by omega)⟩⟩
    ·have h19:=HNO.out.1 (by omega)
     exact⟨12,rfl,fun h=>by unfold leastK;rw[h19,if_neg (by simp),if_pos h],fun h=>⟨fun _=>h19,fun _=>h⟩⟩
   have e1:=BY.cell j;rw[hk1]at e1
   have HK2:=Hi hk2;have HK3:=Hi hk3;have r1:(0:Int)≤(j:Int):=by omega
   have r2:(j:Int)<2:=by omega
   have BZC:=BZ.fr FC (fun h=>h);have BYC:=BY.fr FC (fun h=>h);clear hk1 hk2 hk3;go_upto_region 5 with fail
   obtain⟨y,hy⟩:∃ y,y=wc.heap.size:=⟨_,rfl⟩
   have BX:=Blk.new wc 251 #[.int .i64 kd,.slice (some ⟨wr.heap.size,0,none⟩) l.length cp];have F5:Fz wc (wc.alloc (.cells #[.int .i64 kd,.slice (some ⟨wr.heap.size,0,none⟩) l.length cp] 251)):=(Fr.refl wc).alloc _;have HR:=rightText_any kd _ l _ (HB.out.old F5) (((HT.out.old F).old FC).old F5);have HB5:=Hi (HB.out.old F5);have BZ5:=BZC.fr F5 (fun h=>h);have BY5:=BYC.fr F5 (fun h=>h);have HF5:=Hi ((F.trans FC).trans F5);have hbs:w.heap.size≤wr.heap.size:=F.size;have hyz:z<y:=by have:=BZC.lt;omega
   rw[←hy]at BX ⊢
   have hq:wr.heap.size=wr.heap.size:=rfl;clear FC F5 BZC BYC hy F hcv HCV e1 HB;generalize (wc.alloc (.cells #[.int .i64 kd,.slice (some ⟨wr.heap.size,0,none⟩) l.length cp] 251))=w5 at *
   have x0:=BX.cell 0;have x1:=BX.cell 1;simp at x0 x1
   cases hrt:rightS kd l with
   |false=>
    rw[hrt]at HR
    have HR:=Hi HR;have hno':=HK3.out hrt;have HNO':=Hi hno';clear hno' hrt HNO;go_wp2_with (first|(go_at_call 203;refine HR.out.mono ?_;rintro e w6 ⟨rfl,F6⟩))
    go_roundg (2-(j+1))
    case measure=>rw[HG.out];omega
    case rel=>exact⟨j+1,rfl,by omega,by go_num,HNO'.out,BZ5.fr F6 (fun h=>h),BY5.fr F6 (fun h=>h),HF5.out.trans F6⟩
   |true=>
    rw[hrt]at HR
    have HR:=Hi HR;have HLK:=Hi (HK2.out hrt);clear hrt HNO;go_wp2_with (first|(go_at_call 203;refine HR.out.mono ?_;rintro e w6 ⟨rfl,F6⟩;have BX6:=BX.fr F6 (fun h=>h);have BZ6:=BZ5.fr F6 (fun h=>h);have x0':=BX6.cell 0;have x1':=BX6.cell 1;have z0':=BZ6.cell 0;have z1':=BZ6.cell 1;have f0':=BZ6.frozen 0;have f1':=BZ6.frozen 1;simp only[SG]at x0' x1' z0' z1'))
    obtain⟨BZ7,F7⟩:=set2 (BZ5.fr F6 (fun h=>h)) (.int .i64 kd) (.slice (some ⟨wr.heap.size,0,none⟩) l.length cp)
    have n0:=BZ7.cell 0;have n1:=BZ7.cell 1;simp at n0 n1
    have hzr:z<wr.heap.size:=BZ.lt;refine bodyPost_ret (v:=.agg #[.int .i64 kd,.slice (some ⟨wr.heap.size,0,none⟩) l.length cp]) (by simp[results,Tryz.results148,go_sem,n0,n1]) rfl ⟨⟨_,by rw[HLK.out],(HB5.out.old F6).fr F7 (fun _ q hq e=>by simp only[Value.ownBlock,Option.some.injEq]at hq;omega),fun q hq=>by simp only[Value.ownBlock,Option.some.injEq]at hq;omega⟩,(HF5.out.trans F6).trans' F7 (fun i hi e=>by have:=HZ.out;omega)⟩
  ·have h2:=HNO.out
   have hlk:leastK l=20:=by unfold leastK;rw[h2.1 (by omega),h2.2 (by omega)];rfl
   have HLK:=Hi hlk;have BZC:=BZ.fr FC (fun h=>h);have z0:=BZC.cell 0;have z1:=BZC.cell 1;have f0:=BZC.frozen 0;have f1:=BZC.frozen 1;simp at z0 z1
   obtain⟨BZ7,F7⟩:=set2 BZC (.int .i64 20) (.slice (some ⟨wr.heap.size,0,none⟩) l.length cp)
   have n0:=BZ7.cell 0;have n1:=BZ7.cell 1;simp at n0 n1
   have hzr:z<wr.heap.size:=BZ.lt;have HF7:=Hi ((F.trans FC).trans' F7 (fun i hi e=>by have:=HZ.out;omega));have hbs:w.heap.size≤wr.heap.size:=F.size;have HB7:=Hi (HB.out.fr F7 (fun _ q hq e=>by simp only[Value.ownBlock,Option.some.injEq]at hq;omega));clear h2 hlk BZ7 F7 F FC HB HNO;go_wp2_with fail
   refine bodyPost_ret (v:=.agg #[.int .i64 20,.slice (some ⟨wr.heap.size,0,none⟩) l.length cp]) (by simp[results,Tryz.results148,go_sem,n0,n1]) rfl ⟨⟨_,by rw[HLK.out],HB7.out,fun q hq=>by simp only[Value.ownBlock,Option.some.injEq]at hq;omega⟩,HF7.out⟩
abbrev Pows (w:World):Prop:=Lib.TabIs Tryz.prog w "internal/strconv.uint64pow10" .u64 Lib.pow10Tab
theorem Pows.fr {S:Nat→Prop}{w w':World}(h:Pows w)(f:Fr S w w')(hS:¬S 1):Pows w':=by
 have hg:Tryz.prog.globalNamed "internal/strconv.uint64pow10" = some 1:=by kernel_rfl
 unfold Pows Lib.TabIs at *
 rw[←h]
 unfold World.var? at *
 rw[hg]at h ⊢
 simp only[Option.bind_some]at h ⊢
 have hlt:1<w.heap.size:=by
  rcases Nat.lt_or_ge 1 w.heap.size with h1|h1
  ·exact h1
  ·rw[Array.getElem?_eq_none h1]at h;cases h
 rw[f.block _ hlt hS]
theorem Pows.old {w w':World}(h:Pows w)(f:Fz w w'):Pows w':=h.fr f (fun h=>h)
theorem bldCheck_any {w:World}{base b:Nat}{l:List UInt8}(h:BldAt w base b l) :
  Calls Tryz.prog 272 #[pt b] w fun e w'=>e=.returned (.tuple #[])∧Lib.BuilderAt 343 5 base b (pt b) (Lib.byteCells l) w'∧Below base w w':=by
 have hsz:(Tryz.prog.info? 343).map (·.size)=some 2:=by kernel_rfl
 obtain⟨j,hj,hjs⟩:=Option.map_eq_some_iff.1 hsz
 rcases h with h|h
 ·have h0:=h.cell0
  have hsh:=h.shape;have hfz:=h.frozen0;have H:=Hi h;clear h hsz;have hl:liesAt Tryz.prog Tryz.prog.depth 343 (2 / Tryz.prog.cellsOf 343) 0 343 1=true:=by kernel_rfl
  have r1:=Lib.run_to_unsafe (P:=Tryz.prog) w ⟨b,0,none⟩ Tryz.underlying341 Tryz.underlying430 hj (by rw[hjs];decide) hsh (Nat.zero_lt_succ 1);have r3:=Lib.run_from_unsafe (P:=Tryz.prog) w ⟨b,0,none⟩ Tryz.underlying430 Tryz.underlying341 hj hsh hl;have r2:(callFunc 333 #[.pointer (some ⟨b,0,none⟩)]).run Tryz.prog w=.ok (.value (.pointer (some ⟨b,0,none⟩))) w:=by
   rw[run_callFunc_extern Tryz.func333 (by kernel_rfl) (by kernel_rfl) (by kernel_rfl) (e:=Extern.AbiNoEscape.same) (by kernel_rfl),Lib.run_noEscape]
   rfl
  go_enter Tryz.func272,Tryz.ntmps272
  go_wp2
  go_end0
  exact⟨rfl,H.out.used _,(Below.refl base w).setCell (p:=⟨b,0,none⟩) H.out.1 _⟩
 ·have h0:=h.cell0
  have H:=Hi h;have r1:=Lib.run_neq_ptr_same (P:=Tryz.prog) w (tp:=341) ⟨b,0,none⟩ Tryz.underlying341 hj;clear h hsz;go_enter Tryz.func272,Tryz.ntmps272
  go_wp2
  go_end0
  exact⟨rfl,H.out,Below.refl base w⟩
theorem info_u8:(Tryz.prog.info? 5).map (fun i=>(i.zero,i.size,i.bytes))=some (some (.int .u8 0),1,1):=by kernel_rfl
theorem bld_put {w w2:World}{base b:Nat}{l m:List UInt8}{v v':Value}(hB:base≤b)(hbk:w.heap[b]? = some (.cells #[pt b,v] 343 (0,0)))(hne:v.ownBlock≠some b)(F:Fr (fun k=>v.ownBlock=some k) w w2)(hown:w2.ownsRow base 5 1 v' (l++m).length (Lib.byteCells (l++m))) :
  w2.heap[b]? = some (.cells #[pt b,v] 343 (0,0))∧BldAt (w2.setCell ⟨b,1,none⟩ v') base b (l++m):=by
 have hb2:w2.heap[b]? = some (.cells #[pt b,v] 343 (0,0)):=(F.block b (Array.getElem?_eq_some_iff.1 hbk).1 hne).trans hbk;exact⟨hb2,.inr (Lib.BuilderAt.put (T:=343) (e:=5) hB hb2 (bs':=Lib.byteCells (l++m)) (by rw[byteCells_len];exact hown) (by decide))⟩
theorem bldByte_any {w:World}{base b:Nat}{l:List UInt8}(c:UInt8)(h:BldAt w base b l)(hl:l.length≤109951162777)(hbw:base≤w.heap.size) :
  Calls Tryz.prog 317 #[pt b,.int .u8 c.toNat] w fun e w'=>e=.returned .nilIface∧BldAt w' base b (l++[c])∧Below base w w':=by
 have HC:=Hi (bldCheck_any h);clear h;go_enter Tryz.func317,Tryz.ntmps317
 go_wp2_with fail
 refine HC.out.mono ?_;rintro e w1 ⟨rfl,⟨hB,v,hbk,hown,hne⟩,hb1⟩;rw[byteCells_len]at hown
 have c1:w1.cell? ⟨b,1,none⟩=some v:=by rw[Lib.cell_of_heap hbk];rfl
 have F1:Fz w1 (w1.alloc (.cells #[.int .u8 c.toNat] 5)):=(Fr.refl w1).alloc _;have hs1:=hb1.size;obtain⟨a',c',w2,hrun,hown2,F2,hk2⟩:=add_gen Tryz.underlying32 info_u8 rfl (by decide) (by decide) hown (by omega) F1 w1.heap.size [.int .u8 c.toNat] rfl (Blk.new w1 5 #[.int .u8 c.toNat]) (by simp[Value.oneCell']) (by omega)
 have hown2':w2.ownsRow base 5 1 (.slice a' (l.length+1) c') (l++[c]).length (Lib.byteCells (l++[c])):=by
  rw[byteCells_append,List.length_append]
  exact hown2
 obtain⟨hb2,hat⟩:=bld_put hB hbk hne F2 hown2'
 have HRUN:=Hi hrun;have HAT:=Hi hat;have d1:w2.cell? ⟨b,1,none⟩=some v:=by rw[Lib.cell_of_heap hb2];rfl
 have f1:w2.frozen? ⟨b,1,none⟩=false:=Lib.frozen_of_heap hb2 1;have hvb:=(Vals.of_own hown).2;have HBL:=Hi ((hb1.trans (Fr.below (B:=base) F2 (by omega) (fun i hi e=>by have:=(hvb i e).1;omega))).setCell (p:=⟨b,1,none⟩) hB (.slice a' (l.length+1) c'));clear HC hbk hown F1 F2 hrun hown2 hown2' hb2 hat hk2 hb1 hne hvb;go_wp2_with (at_builtin;refine wpList_append_run (by rfl) (.tmp 11) (.tmp 13) 32 (by rfl) _ w2 (by exact HRUN.out) ?_)
 go_ret;exact⟨rfl,HAT.out,HBL.out⟩
theorem bldString_any {w:World}{base b:Nat}{l:List UInt8}(m:List UInt8)(h:BldAt w base b l)(hl:l.length+m.length≤1099511627776)(hbw:base≤w.heap.size) :
  Calls Tryz.prog 228 #[pt b,str m] w fun e w'=>e=.returned (.tuple #[.int .i64 m.length,.nilIface])∧BldAt w' base b (l++m)∧Below base w w':=by
 have HC:=Hi (bldCheck_any h);obtain⟨i0,hi,hz0,hz1,hz2⟩:=info_parts info_u8
 have hms:(ByteArray.mk m.toArray).size=m.length:=by simp[ByteArray.size]
 clear h;go_enter Tryz.func228,Tryz.ntmps228
 go_wp2_with fail
 refine HC.out.mono ?_;rintro e w1 ⟨rfl,⟨hB,v,hbk,hown,hne⟩,hb1⟩;rw[byteCells_len]at hown
 have c1:w1.cell? ⟨b,1,none⟩=some v:=by rw[Lib.cell_of_heap hbk];rfl
 have hs1:=hb1.size;go_wp2_with (at_builtin;refine Lib.wpList_append_own_string _ (by rfl) (.tmp 12) (.tmp 13) 32 9 (by rfl) base 5 i0 Tryz.underlying32 Tryz.underlying9 hi hz0 hz1 hz2 _ _ _ (by rfl) hown ⟨m.toArray⟩ (by rfl) ?c3 ?c4 ?c5 ?_)
 case c3=>rw[hms];unfold maxLen;omega
 case c4=>rw[hms];omega
 case c5=>omega
 intro v' w2 hown2 hgrow _;have F2:=Fr.of_grown hgrow;have hsc:Lib.strCells ⟨m.toArray⟩=Lib.byteCells m:=rfl;have hown2':w2.ownsRow base 5 1 v' (l++m).length (Lib.byteCells (l++m)):=by
  rw[byteCells_append,List.length_append,←hsc,←hms]
  exact hown2
 obtain⟨hb2,hat⟩:=bld_put hB hbk hne F2 hown2'
 have HAT:=Hi hat;have d1:w2.cell? ⟨b,1,none⟩=some v:=by rw[Lib.cell_of_heap hb2];rfl
 have f1:w2.frozen? ⟨b,1,none⟩=false:=Lib.frozen_of_heap hb2 1;have hvb:=(Vals.of_own hown).2;have HBL:=Hi ((hb1.trans (Fr.below (B:=base) F2 (by omega) (fun i hi e=>by have:=(hvb i e).1;omega))).setCell (p:=⟨b,1,none⟩) hB v');have HMS:=Hi hms;obtain⟨ao,n',cap,rfl,hnn⟩:=own_shape hown2
 have HNN:=Hi hnn;clear HC hbk hown F2 hown2 hown2' hb2 hat hb1 hne hvb hgrow hsc hms hnn hi hz0 hz1 hz2;go_wp2_with fail
 go_ret2
 exact⟨by rw[←HMS.out];rfl,HAT.out,HBL.out⟩
theorem bldOut_any {w:World}{base b:Nat}{l:List UInt8}(h:BldAt w base b l)(hbw:base≤w.heap.size) :
  Calls Tryz.prog 229 #[pt b] w fun e w'=>e=.returned (str l)∧Below base w w':=
 Go.Proofs.Tryz.Builder_String_any base b l w h hbw
theorem itoa_any (n:Int)(h0:-9223372036854775808≤n)(h1:n≤9223372036854775807)(w:World)(hP:Pows w) :
  Calls Tryz.prog 188 #[.int .i64 n] w fun e w'=>e=.returned (str (Lib.itoa n))∧Fz w w':=by
 refine(Go.Proofs.Tryz.strconv_Itoa n h0 h1 w hP).mono ?_
 rintro e w' ⟨rfl,k,os,rfl⟩;exact⟨rfl,rfl,rfl,rfl,by simp[Sort.grow],fun i hi _=>by simp[Sort.grow,Array.getElem?_append_left hi]⟩
end Go.Proofs.YteidmhkobmddiaaGreatDoor
namespace Go.Q
open Go Go.RowKit
def gLim:Nat:=max (max 2 3) (max 1 0)+1
structure Env (w:World):Prop where
 tabs:Tabs w
 pows:Go.Proofs.YteidmhkobmddiaaGreatDoor.Pows w
 top:∃ m,w.cell? ⟨0,0,none⟩=some (.int .i64 m)
 size:gLim≤w.heap.size
theorem Env.fr {S:Nat→Prop}{w w':World}(h:Env w)(f:Fr S w w')(hS:∀ k,k<gLim→¬S k):Env w':=
 ⟨h.tabs.fr f (hS _ (by decide)) (hS _ (by decide)),h.pows.fr f (hS _ (by decide)),by
  obtain⟨m,hm⟩:=h.top
  exact⟨m,f.cell hm (hS 0 (by decide))⟩,Nat.le_trans h.size f.size⟩
theorem Env.old {w w':World}(h:Env w)(f:Fz w w'):Env w':=h.fr f (fun _ _ h=>h)
theorem Env.below {w w':World}{B:Nat}(h:Env w)(f:Below B w w')(hB:gLim≤B):Env w':=h.fr (Fr.of_below_at f) (fun k hk e=>by omega)
def oidTextS:List Int→List UInt8
 | []=>[]
 |n::t=>Lib.itoa n++t.flatMap (fun m=>46::Lib.itoa m)
theorem oidText_first {o:List Int}{n:Int}(h:o[0]? = some n):oidTextS (o.take 1)=Lib.itoa n:=by
 cases o with
 |nil=>cases h
 |cons x t=>simp at h;subst h;simp[oidTextS]
theorem oidText_next {o:List Int}{j:Nat}{n:Int}(h:o[j+1]? = some n):oidTextS (o.take (j+1+1))=oidTextS (o.take (j+1))++[46]++Lib.itoa n:=by
 cases o with
 |nil=>cases h
 |cons x t=>
  rw[List.getElem?_cons_succ]at h
  have e:t.take (j+1)=t.take j++[n]:=by rw[List.take_add_one,h];rfl
  rw[List.take_succ_cons,List.take_succ_cons,e]
  simp[oidTextS]
theorem nDigits_le:∀ (k u:Nat),u<10 ^ (k+1)→Lib.nDigits u≤k+1
 |0,u,h=>by rw[Lib.nDigits_small (by simpa using h)];exact Nat.le_refl _
 |k+1,u,h=>by
  by_cases hu:u<10
  ·rw[Lib.nDigits_small hu];omega
  ·rw[Lib.nDigits_big hu]
   have:=nDigits_le k (u / 10) (by rw[Nat.pow_succ]at h;omega);omega
theorem itoa_len {n:Int}(h0:0≤n)(h1:n≤9223372036854775807):(Lib.itoa n).length≤20:=by
 unfold Lib.itoa;rw[if_neg (by omega),Lib.decDigits_length]
 exact nDigits_le 19 n.toNat (by
  have e:(10:Nat) ^ (19+1)=100000000000000000000:=by decide
  rw[e]
  omega)
theorem oidText_len {o:List Int}(h:∀ n∈o,0≤n∧n≤9223372036854775807):(oidTextS o).length≤21*o.length:=by
 have g:∀ t:List Int,(∀ n∈t,0≤n∧n≤9223372036854775807)→(t.flatMap (fun m=>46::Lib.itoa m)).length≤21*t.length:=by
  intro t;induction t with
  |nil=>intro _;simp
  |cons x t ih=>
   intro h;have h1:=itoa_len (h x (by simp)).1 (h x (by simp)).2;have h2:=ih (fun n hn=>h n (by simp[hn]));simp only[List.flatMap_cons,List.length_append,List.length_cons]at h2 ⊢
   omega
 cases o with
 |nil=>simp[oidTextS]
 |cons x t=>
  have h1:=itoa_len (h x (by simp)).1 (h x (by simp)).2;have h2:=g t (fun n hn=>h n (by simp[hn]));simp only[oidTextS,List.length_append,List.length_cons]
  omega
end Go.Q
namespace Go.Proofs.YteidmhkobmddiaaGreatDoor
open Go Go.RowKit Go.Q
theorem oidText_any (v:Value)(o:List Int)(w:World)(h:Ints w v o)(ho:oidOk o=true)(hE:Env w) :
  Calls Tryz.prog 267 #[v] w fun e w'=>e=.returned (.tuple #[str (oidTextS o),.int .i64 0])∧Fz w w':=by
 have H:=Hi h;have HE:=Hi hE;have hR:=Hi (oidRight_any v o w h);rw[ho]at hR
 obtain⟨a,cap,rfl,-⟩:=Ints.form h
 have hok:=ho;simp only[oidOk,Bool.and_eq_true,decide_eq_true_eq]at hok
 obtain⟨⟨⟨hl1,hl2⟩,hall⟩,-⟩:=hok
 have harc:∀ n∈o,0≤n∧n≤9223372036854775807:=fun n hn=>by
  have:=List.all_eq_true.1 hall n hn;simp only[arcOk,decide_eq_true_eq]at this
  omega
 have HA:=Hi harc;have HBN:=Hi (BldAt.new w);obtain⟨z,hz⟩:∃ z,z=w.heap.size:=⟨_,rfl⟩
 have F0:Fz w (w.alloc (.cells #[.pointer none,.slice none 0 0] 343)):=(Fr.refl w).alloc _;rw[←hz]at HBN
 have HZ:=Hi hz;have HF0:=Hi (F0.below (B:=z) (by omega) (fun _ _ h=>h));have hs0:=F0.size;have hgl:gLim≤z:=by rw[hz];exact hE.size
 clear h hE ho hall harc hz F0;go_enter Tryz.func267,Tryz.ntmps267
 go_wp2_with fail
 refine hR.out.mono ?_;rintro e w' ⟨rfl,rfl⟩;go_upto_region 4 with fail
 rw[←HZ.out]
 generalize (w.alloc (.cells #[.pointer none,.slice none 0 0] 343))=w1 at *
 have HS0:=Hi hs0;rw[←HZ.out]at hs0
 go_wp2_with fail
 go_loopg [12] o.length (fun g i wr=>∃ j:Nat,g=o.length-j∧j≤o.length∧i=.int .i64 j∧BldAt wr z z (oidTextS (o.take j))∧Below z w wr∧z≤wr.heap.size)
 case atStart=>exact⟨0,rfl,Nat.zero_le _,rfl,HBN.out,HF0.out,hs0⟩
 case round=>
  obtain⟨j,hg,hj,rfl,hB,hBl,hsz⟩:=hrel
  have HG:=Hi hg;have HB:=Hi hB;have HBL:=Hi hBl;clear hg hB hBl;by_cases hjl:j<o.length
  ·have hFr:Fr (fun k=>z≤k) w wr:=Fr.of_below_at HBL.out
   have hoff:Off (.slice a o.length cap) (intCells o).length (fun k=>z≤k):=fun h0 k hk e=>by
    have:=H.out.lt h0 k hk;have:=HZ.out;omega
   obtain⟨a0,cap0,he,_,_,hx⟩:=Ints.form (H.out.fr hFr hoff)
   simp only[Value.slice.injEq,true_and]at he
   obtain⟨rfl,rfl⟩:=he
   obtain⟨b,off,rfl,hy⟩:=hx (by omega)
   obtain⟨n,hn⟩:∃ n,o[j]? = some n:=⟨_,List.getElem?_eq_getElem hjl⟩
   have e1:=hy j n hn;have hn0:=HA.out n (List.mem_of_getElem? hn);have hE1:=HE.out.below HBL.out hgl;have hlen:=oidText_len (o:=o.take j) (fun m hm=>HA.out m (List.mem_of_mem_take hm));rw[List.length_take]at hlen
   have r1:(0:Int)≤(j:Int):=by omega
   have r2:(j:Int)<(o.length:Int):=by omega
   have HEN:=Hi hE1;have HN:=Hi hn;have hil:=itoa_len hn0.1 hn0.2;clear hx hy hn hFr hoff hE1;cases j with
   |zero=>
    have hj0:¬(0:Int)<((0:Nat):Int):=by omega
    have hft:=Hi (oidText_first HN.out);simp only[Nat.add_zero]at e1
    go_wp2_with fail
    refine(itoa_any n (by omega) hn0.2 wr HEN.out.pows).mono ?_
    rintro e w2 ⟨rfl,F2⟩;have HB2:=Hi (HB.out.old F2);have HBL2:=Hi (HBL.out.trans (F2.below (B:=z) hsz (fun _ _ h=>h)));have hs2:=F2.size;clear F2;go_wp2_with fail
    refine(bldString_any _ HB2.out (by omega) (by omega)).mono ?_
    rintro e w3 ⟨rfl,hB3,hb3⟩;have HB3:=Hi hB3;have hs3:=hb3.size;have HBL3:=Hi (HBL2.out.trans hb3);clear hB3 hb3;go_wp2_with fail
    go_roundg (o.length-(0+1))
    case measure=>rw[HG.out];omega
    case rel=>exact⟨0+1,rfl,by omega,by go_num,by rw[show 0+1=1 from rfl,hft.out];simpa [oidTextS] using HB3.out,HBL3.out,by omega⟩
   |succ k=>
    have hj0:(0:Int)<((k+1:Nat):Int):=by omega
    have hft:=Hi (oidText_next HN.out);go_wp2_with fail
    have hc46:(46:Int)=((46:UInt8).toNat:Int):=rfl;refine(bldByte_any 46 HB.out (by omega) hsz).mono ?_
    rintro e w2 ⟨rfl,hB2,hb2⟩;have HB2:=Hi hB2;have hs2:=hb2.size;have HBL2:=Hi (HBL.out.trans hb2);clear hB2 hb2;go_wp2_with fail
    refine(itoa_any n (by omega) hn0.2 _ (HE.out.below HBL2.out hgl).pows).mono ?_
    rintro e w3 ⟨rfl,F3⟩;have HB3:=Hi (HB2.out.old F3);have HBL3:=Hi (HBL2.out.trans (F3.below (B:=z) (by omega) (fun _ _ h=>h)));have hs3:=F3.size;clear F3;go_wp2_with fail
    refine(bldString_any _ HB3.out (by rw[List.length_append];simp only[List.length_singleton];omega) (by omega)).mono ?_
    rintro e w4 ⟨rfl,hB4,hb4⟩;have HB4:=Hi hB4;have hs4:=hb4.size;have HBL4:=Hi (HBL3.out.trans hb4);clear hB4 hb4;go_wp2_with fail
    go_roundg (o.length-(k+1+1))
    case measure=>rw[HG.out];omega
    case rel=>exact⟨k+1+1,rfl,by omega,by go_num,by rw[hft.out];exact HB4.out,HBL4.out,by omega⟩
  ·have hall:o.take j=o:=List.take_of_length_le (by omega)
   have hB:=HB.out;rw[hall]at hB
   have HO:=Hi (bldOut_any hB hsz);clear hB hall;go_wp2_with fail
   refine HO.out.mono ?_;rintro e w2 ⟨rfl,hb2⟩;have HF:=Hi (HBL.out.trans hb2);clear hb2;go_wp2_with fail
   have hf:=HF.out;rw[HZ.out]at hf
   exact bodyPost_ret (v:=.tuple #[str (oidTextS o),.int .i64 0]) (by simp[results,Tryz.results267,go_sem]) rfl ⟨rfl,Fr.of_below hf⟩
theorem strCut_any (l:List UInt8)(c:UInt8)(w:World)(hE:Env w)(hl:l.length<4294967281) :
  Calls Tryz.prog 145 #[str l,str [c]] w fun e w'=>e=.returned (.tuple #[str (cut1 c l).1,str (cut1 c l).2.1,.bool (cut1 c l).2.2])∧Fz w w':=by
 obtain⟨m,hm⟩:=hE.top
 refine(Go.Proofs.Tryz.strings_Cut ⟨l.toArray⟩ ⟨[c].toArray⟩ m w (by simpa [ByteArray.size] using hl) hm).mono ?_
 rintro e w' ⟨rfl,n,rfl⟩;refine⟨?_,(Fr.refl w).drewN n⟩
 show _=Ending.returned (.tuple #[.string ⟨(cut1 c l).1.toArray⟩,.string ⟨(cut1 c l).2.1.toArray⟩,.bool (cut1 c l).2.2])
 rw[←cut_cut1]
theorem strSplit_any (l:List UInt8)(c:UInt8)(w:World)(hE:Env w)(hl:l.length<4294967281) :
  Calls Tryz.prog 200 #[str l,str [c]] w fun e w'=>e=.returned (.slice (some ⟨w.heap.size,0,none⟩) (cutAt c l).length (cutAt c l).length)∧Strs w' (.slice (some ⟨w.heap.size,0,none⟩) (cutAt c l).length (cutAt c l).length) (cutAt c l)∧Fz w w':=by
 obtain⟨m,hm⟩:=hE.top
 refine(Go.Proofs.Tryz.strings_Split ⟨l.toArray⟩ ⟨[c].toArray⟩ m w (by simpa [ByteArray.size] using hl) hm (by simp[ByteArray.size])).mono ?_
 rintro e w' ⟨rfl,rfl⟩;obtain⟨h1,h2⟩:=split_cutAt c l
 have hcb:Lib.countB ⟨l.toArray⟩ ⟨[c].toArray⟩=Lib.count l [c]:=rfl;have hd:=Lib.splitB_data ⟨[c].toArray⟩ 0 (Lib.count l [c]) ⟨l.toArray⟩;rw[show (ByteArray.mk [c].toArray).data.toList=[c] from rfl,show (ByteArray.mk l.toArray).data.toList=l from rfl,h1]at hd
 rw[hcb,h2]
 have hs:((Lib.splitB ⟨[c].toArray⟩ 0 (Lib.count l [c]) ⟨l.toArray⟩).map Value.string)=(cutAt c l).map str:=by
  rw[←hd,List.map_map]
  refine List.map_congr_left (fun x _=>?_);rfl
 rw[hs]
 have hln:(cutAt c l).length≤4294967290:=by
  have:=Lib.countB_le ⟨[c].toArray⟩ (by simp[ByteArray.size]) l.length ⟨l.toArray⟩ (by simp[ByteArray.size]);rw[hcb]at this
  have hz:(ByteArray.mk l.toArray).size=l.length:=by simp[ByteArray.size]
  omega
 refine⟨rfl,?_,(Fr.refl w).alloc _⟩
 have B:=Vals.of_block (Blk.new w 9 ((cutAt c l).map str).toArray) (by simp;unfold maxLen;omega);simpa using B
theorem strJoin_any (ks:List (List UInt8))(c:UInt8)(v:Value)(w:World)(h:Strs w v ks)(hn:ks.length≤109951162777)(hl:(Lib.join ks [c]).length≤100000000000000) :
  Calls Tryz.prog 173 #[v,str [c]] w fun e w'=>e=.returned (str (Lib.join ks [c]))∧Fz w w':=by
 obtain⟨a,cap,rfl,hc,hm,hx⟩:=Strs.form h
 rcases Nat.eq_zero_or_pos ks.length with h0|h0
 ·obtain rfl:ks=[]:=List.length_eq_zero_iff.1 h0
  refine(Go.Proofs.Tryz.strings_Join_none a cap ⟨[c].toArray⟩ w).mono ?_
  rintro e w' ⟨rfl,rfl⟩;exact⟨rfl,Fr.refl _⟩
 ·obtain⟨b,o,rfl,hy⟩:=hx h0
  have hmm:(ks.map (fun k=>(⟨k.toArray⟩:ByteArray))).map (·.data.toList)=ks:=by
   rw[List.map_map]
   exact(List.map_congr_left (fun x _=>rfl)).trans (List.map_id ks)
  have H:=Go.Proofs.Tryz.strings_Join b o cap (ks.map (fun k=>⟨k.toArray⟩)) ⟨[c].toArray⟩ w (fun j x hj=>by
   rw[List.getElem?_map]at hj
   cases hk:ks[j]? with
   |none=>rw[hk]at hj;cases hj
   |some y=>
    rw[hk]at hj
    simp only[Option.map_some,Option.some.injEq]at hj
    subst hj;exact hy j y hk) (World.block_lt_of_cell? w _ (hy 0 _ (List.getElem?_eq_getElem h0))) (by simpa using Nat.le_trans hn (by decide)) (by simpa using hc) (by rw[hmm];exact Nat.le_trans hl (by decide))
  rw[hmm,List.length_map]at H
  refine H.mono ?_;rintro e w' ⟨rfl,hb⟩;exact⟨rfl,Fr.of_below hb⟩
theorem strSort_any {w:World}{base:Nat}{v:Value}(ks:List (List UInt8))(hown:w.ownsRow base 9 1 v ks.length (ks.map str))(hn:ks.length≤109951162777) :
  Calls Tryz.prog 225 #[v] w fun e w'=>e=.returned (.tuple #[])∧w'.ownsRow base 9 1 v (sortS ks).length ((sortS ks).map str)∧Fr (fun k=>v.ownBlock=some k) w w':=by
 have hsl:(sortS ks).length=ks.length:=by simp[sortS]
 rcases hown.2 with ⟨rfl,h0⟩|⟨g,cap,cur,rfl,hg,hh,hnc,hcm,hcs,htk⟩
 ·refine(Go.Proofs.Tryz.slices_Sort_string_none none 0 w).mono ?_
  rintro e w' ⟨rfl,rfl⟩;obtain rfl:ks=[]:=List.length_eq_zero_iff.1 h0
  exact⟨rfl,by simpa [sortS] using hown,Fr.refl _⟩
 ·have hH:=Go.holds_of_block (ss:=ks) hh (by rw[Nat.mul_one]at htk;exact htk)
  refine(Go.Proofs.Tryz.slices_Sort_string g 0 cap ks w hH (Array.getElem?_eq_some_iff.1 hh).1 (by omega)).mono ?_
  rintro e w' ⟨rfl,n,os,rfl⟩;refine⟨rfl,?_,?_⟩
  ·rw[hsl]
   exact Go.ownsRow_sorted (ts:=sortS ks) hsl hg hh hnc hcm hcs
  ·have f:=Fr.of_grown (Go.grownBy_sorted (w:=w) (g:=g) (n:=n) (os:=os) (sortS ks).toArray)
   exact f
theorem strCompact_any {w:World}{base:Nat}{v:Value}(ks:List (List UInt8))(hown:w.ownsRow base 9 1 v ks.length (ks.map str))(hn:ks.length≤109951162777) :
  Calls Tryz.prog 226 #[v] w fun e w'=>(∃ v',e=.returned v'∧w'.ownsRow base 9 1 v' (Lib.compact ks).length ((Lib.compact ks).map str))∧Fr (fun k=>v.ownBlock=some k) w w':=by
 rcases hown.2 with ⟨rfl,h0⟩|⟨g,cap,cur,rfl,hg,hh,hnc,hcm,hcs,htk⟩
 ·refine(Go.Proofs.Tryz.slices_Compact_string_empty none 0 w).mono ?_
  rintro e w' ⟨rfl,rfl⟩;obtain rfl:ks=[]:=List.length_eq_zero_iff.1 h0
  exact⟨⟨_,rfl,hown⟩,Fr.refl _⟩
 ·rw[Nat.mul_one]at htk hcs
  have hH:=Go.holds_of_block (ss:=ks) hh htk;refine(Go.Proofs.Tryz.slices_Compact_string g 0 cap ks w hH (by omega) hnc).mono ?_
  rintro e w' ⟨rfl,q,rfl⟩;have hcl:=Lib.compact_length_le ks;have hl2:(Lib.compact ks++List.replicate (ks.length-(Lib.compact ks).length) ([]:List UInt8)).length=ks.length:=by
   rw[List.length_append,List.length_replicate];omega
  have hb:=Go.heap_sorted (n:=q) (os:=#[]) (Lib.compact ks++List.replicate (ks.length-(Lib.compact ks).length) ([]:List UInt8)).toArray hh;have f:=Fr.of_grown (Go.grownBy_sorted (w:=w) (g:=g) (n:=q) (os:=#[]) (Lib.compact ks++List.replicate (ks.length-(Lib.compact ks).length) ([]:List UInt8)).toArray);rw[Sort.grow_empty]at hb f
  have ht:=Go.take_putCells cur (Lib.compact ks++List.replicate (ks.length-(Lib.compact ks).length) ([]:List UInt8)) (by omega);refine⟨⟨_,rfl,by simp,.inr ⟨g,cap,_,rfl,hg,hb,by omega,hcm,by simp[Sort.putCells,hcs],?_⟩⟩,f⟩
  rw[Nat.mul_one]
  have h3:=congrArg (List.take (Lib.compact ks).length) ht;rw[List.take_take,hl2,Nat.min_eq_left hcl,←List.map_take,List.take_left]at h3
  exact h3
theorem oidNumber_any (l:List UInt8)(w:World)(hlim:l.length≤1099511627776) :
  Calls Tryz.prog 201 #[str l] w fun e w'=>e=.returned (numOut (numTextS l))∧Fz w w':=by
 have hsz:(ByteArray.mk l.toArray).size=l.length:=by simp[ByteArray.size]
 by_cases hbad:l.length=0∨10<l.length∨(l.head? = some 48∧1<l.length)
 ·have hN:numTextS l=none:=by unfold numTextS;rw[if_pos hbad]
  have HN:=Hi hN;clear hN;by_cases h0:l.length=0
  ·have q0:((l.length:Int)==0)=true:=by rw[h0];rfl
   have q0':(l.length==0)=true:=by rw[h0];rfl
   clear hbad h0;go_enter Tryz.func201,Tryz.ntmps201
   go_wp2_with fail
   exact bodyPost_ret (v:=.tuple #[.int .i64 0,.bool false]) (by simp[results,Tryz.results201,go_sem]) rfl ⟨by rw[HN.out];rfl,Fr.refl _⟩
  ·have q0:((l.length:Int)==0)=false:=beq_eq_false_iff_ne.2 (by omega)
   have q0':(l.length==0)=false:=beq_eq_false_iff_ne.2 h0;by_cases h10:10<l.length
   ·have q1:(10:Int)<(l.length:Int):=by omega
    clear hbad h0;go_enter Tryz.func201,Tryz.ntmps201
    go_wp2_with fail
    exact bodyPost_ret (v:=.tuple #[.int .i64 0,.bool false]) (by simp[results,Tryz.results201,go_sem]) rfl ⟨by rw[HN.out];rfl,Fr.refl _⟩
   ·have q1:¬(10:Int)<(l.length:Int):=by omega
    have h48:l.head? = some 48∧1<l.length:=by
     rcases hbad with h|h|h
     ·exact absurd h h0
     ·exact absurd h h10
     ·exact h
    obtain⟨h48,h1⟩:=h48
    have q2:(1:Int)<(l.length:Int):=by omega
    have hix:∀ w,(Instr.index 9 (str l) (.int .i64 0)).run Tryz.prog w=.ok (.int .u8 48) w:=fun w=>by
     obtain⟨x,t,rfl⟩:∃ x t,l=x::t:=by
      cases l with
      |nil=>simp at h0
      |cons x t=>exact⟨x,t,rfl⟩
     simp only[List.head?_cons,Option.some.injEq]at h48
     subst h48;rw[run_index_string w 9 _ .i64 0 Tryz.underlying9,dif_pos ⟨by omega,by rw[hsz];simp only[List.length_cons];omega⟩]
     rfl
    clear hbad h0 h48;go_enter Tryz.func201,Tryz.ntmps201
    go_wp2_with fail
    exact bodyPost_ret (v:=.tuple #[.int .i64 0,.bool false]) (by simp[results,Tryz.results201,go_sem]) rfl ⟨by rw[HN.out];rfl,Fr.refl _⟩
 ·have hN:numTextS l=if l.all digB=true then some (numVal l) else none:=by unfold numTextS;rw[if_neg hbad]
  have HN:=Hi hN;have h0:l.length≠0:=fun h=>hbad (.inl h)
  have h10:l.length≤10:=by
   rcases Nat.lt_or_ge 10 l.length with h|h
   ·exact absurd (.inr (.inl h)) hbad
   ·exact h
  have q0:((l.length:Int)==0)=false:=beq_eq_false_iff_ne.2 (by omega);have q0':(l.length==0)=false:=beq_eq_false_iff_ne.2 h0;have q1:¬(10:Int)<(l.length:Int):=by omega
  obtain⟨x0,t0,hl0⟩:∃ x t,l=x::t:=by
   cases l with
   |nil=>simp at h0
   |cons x t=>exact⟨x,t,rfl⟩
  have hix:∀ w,(Instr.index 9 (str l) (.int .i64 0)).run Tryz.prog w=.ok (.int .u8 x0.toNat) w:=fun w=>by
   rw[run_index_string w 9 _ .i64 0 Tryz.underlying9,dif_pos ⟨by omega,by rw[hsz];omega⟩]
   subst hl0;rfl
  have hcase:((x0.toNat:Int)==48)=false∨(((x0.toNat:Int)==48)=true∧¬(1:Int)<(l.length:Int)):=by
   by_cases h:x0=48
   ·subst h
    refine .inr ⟨rfl,fun h1=>hbad (.inr (.inr ⟨by rw[hl0];rfl,by omega⟩))⟩
   ·refine .inl (beq_eq_false_iff_ne.2 (fun e=>h ?_))
    have:x0.toNat=48:=by omega
    exact UInt8.toNat_inj.1 this
  obtain⟨cp,wc,hcv,hbv,FC,-⟩:=bytes_of_str w l hlim
  have HB:=Hi hbv;clear hbad hN hl0 hbv h0;generalize x0.toNat=y0 at *
  rcases hcase with h48|⟨h48,h1⟩
  all_goals
   go_enter Tryz.func201,Tryz.ntmps201
   go_wp2_with fail
   go_loopg [4,28] l.length (fun g u i wr=>∃ j:Nat,g=l.length-j∧j≤l.length∧u=.int .i64 (numVal (l.take j))∧i=.int .i64 j∧(l.take j).all digB=true∧wr=wc)
   case atStart=>exact⟨0,rfl,Nat.zero_le _,rfl,rfl,rfl,rfl⟩
   case round=>
    obtain⟨j,hg,hj,rfl,rfl,had,rfl⟩:=hrel
    have HG:=Hi hg;have HAD:=Hi had;have hv0:=numVal_small had (by rw[List.length_take];omega);clear hg had;by_cases hjl:j<l.length
    ·obtain⟨a0,cap0,he,_,_,hx⟩:=HB.out.form
     simp only[Value.slice.injEq,true_and]at he
     obtain⟨he1,he2⟩:=he
     obtain⟨b,off,hbo,hy⟩:=hx (by omega)
     rw[←he1]at hbo
     simp only[Option.some.injEq,Addr.mk.injEq,and_true]at hbo
     obtain⟨x,hxj⟩:∃ n,l[j]? = some n:=⟨_,List.getElem?_eq_getElem hjl⟩
     have e1:=hy j x hxj;rw[←hbo.1,←hbo.2,Nat.zero_add]at e1
     have hnt:=numVal_take hxj;have hall:(l.take (j+1)).all digB=digB x:=by
      rw[List.take_add_one,hxj]
      simp[HAD.out]
     have hdx:digB x=decide (48≤x.toNat∧x.toNat≤57):=rfl;have hxl:=x.toNat_lt;have hmem:=List.mem_of_getElem? hxj;have HM:=Hi hmem;obtain⟨y,hye⟩:∃ y:Nat,y=x.toNat:=⟨_,rfl⟩
     rw[←hye]at e1 hnt hdx hxl
     have hyl:y<256:=hxl;have r1:(0:Int)≤(j:Int):=by omega
     have r2:(j:Int)<(l.length:Int):=by omega
     have HNT:=Hi hnt;have HALL:=Hi hall;have HDX:=Hi hdx;clear he1 he2 hx hy hbo hxj hnt hall hdx hye hxl hmem;generalize numVal (l.take j)=v0 at *
     by_cases hd:48≤y∧y≤57
     ·have d1:¬(y:Int)<48:=by omega
      have d2:¬(57:Int)<(y:Int):=by omega
      have hw8:IntKind.u8.wrap ((y:Int)-48)=(y:Int)-48:=by simp[IntKind.wrap,IntKind.signed,IntKind.bits];omega
      have hok:digB x=true:=by rw[HDX.out];exact decide_eq_true hd
      have HOK:=Hi hok;clear hok;go_wp2_with fail
      go_roundg (l.length-(j+1))
      case measure=>rw[HG.out];omega
      case rel=>exact⟨j+1,rfl,by omega,by rw[HNT.out];congr 1;omega,by go_num,by rw[HALL.out,HOK.out],rfl⟩
     ·have hno:numTextS l=none:=by
       rw[HN.out,if_neg]
       intro h;have:=List.all_eq_true.1 h x HM.out;rw[HDX.out]at this
       exact hd (of_decide_eq_true this)
      have HNO:=Hi hno;clear hno;by_cases hd1:y<48
      ·have d1:(y:Int)<48:=by omega
       go_wp2_with fail
       exact bodyPost_ret (v:=.tuple #[.int .i64 0,.bool false]) (by simp[results,Tryz.results201,go_sem]) rfl ⟨by rw[HNO.out];rfl,FC⟩
      ·have d1:¬(y:Int)<48:=by omega
       have d2:(57:Int)<(y:Int):=by omega
       go_wp2_with fail
       exact bodyPost_ret (v:=.tuple #[.int .i64 0,.bool false]) (by simp[results,Tryz.results201,go_sem]) rfl ⟨by rw[HNO.out];rfl,FC⟩
    ·have hall:l.take j=l:=List.take_of_length_le (by omega)
     have hres:numTextS l=some (numVal l):=by rw[HN.out,if_pos (by have:=HAD.out;rwa[hall]at this)]
     have HRES:=Hi hres;rw[hall]
     clear hall hres hv0;go_wp2_with fail
     exact bodyPost_ret (v:=.tuple #[.int .i64 (numVal l),.bool true]) (by simp[results,Tryz.results201,go_sem]) rfl ⟨by rw[HRES.out];rfl,FC⟩
end Go.Proofs.YteidmhkobmddiaaGreatDoor
