/-
  Merged by program: XNTextR XNFold XNFold2 XNStr XNUtf8 XNHex XNBld.
-/
import Derived.Test.YtehlipgmkinfbaaGreatDoorP0af
import Derived.Laws.IdiomStrings
import Derived.Shelf.Bytes.SlSmallAll
import Derived.Lib.ConvBytes
import Derived.Lib.Builder
import Derived.Lib.AppendStr
set_option linter.unusedSimpArgs false
set_option maxRecDepth 100000
set_option maxHeartbeats 8000000
namespace Go.Q
open Go Go.RowKit
def textReadS (l:List UInt8):Except Int (Int × List UInt8 × Nat):=
 match readS l with
 |.error e=>.error e
 |.ok (t,n,k)=>if t.cls≠0∨t.made=true∨kindOk t.num=false then .error 4 else if l.length-k<n then .error 3 else
  if rightS t.num ((l.drop k).take n)=true then .ok (t.num,(l.drop k).take n,k+n) else .error 6
def blankB (n:Int):Bool:=decide (n=32∨(9≤n∧n≤13))
def smallS (n:Int):Int:=if 65≤n∧n≤90 then n+32 else n
def foldStep (s:List Int × Bool)(n:Int):List Int × Bool:=
 if blankB n=true then (s.1,decide (0<s.1.length)) else ((if s.2=true then s.1++[32] else s.1)++[smallS n],false)
def foldS (l:List Int):List Int:=(l.foldl foldStep ([],false)).1
def FoldAt (w:World)(g d base:Nat)(s:List Int × Bool):Prop:=
 ∃ v,Blk w g 103 #[v]∧Blk w d 4 #[.bool s.2]∧w.ownsRow base 3 1 v s.1.length (intCells s.1)∧(∀ k,v.ownBlock=some k→k≠g∧k≠d)
def foldAcc (l:List Int):List Int × Bool:=l.foldl foldStep ([],false)
theorem foldAcc_take {l:List Int}{j:Nat}{n:Int}(h:l[j]? = some n):foldAcc (l.take (j+1))=foldStep (foldAcc (l.take j)) n:=by
 unfold foldAcc;rw[List.take_add_one,h]
 simp[List.foldl_append]
theorem foldStep_len (s:List Int × Bool)(n:Int):(foldStep s n).1.length≤s.1.length+2:=by
 unfold foldStep;split
 ·simp
 ·split<;>simp
theorem foldAcc_len (l:List Int):(foldAcc l).1.length≤2*l.length:=by
 have:∀ (l:List Int) (s:List Int × Bool),(l.foldl foldStep s).1.length≤s.1.length+2*l.length:=by
  intro l;induction l with
  |nil=>intro s;simp
  |cons n l ih=>
   intro s;have h1:=ih (foldStep s n);have h2:=foldStep_len s n;simp only[List.foldl_cons,List.length_cons]
   omega
 have h:=this l ([],false);simpa [foldAcc] using h
abbrev str (l:List UInt8):Value:=.string ⟨l.toArray⟩
theorem ba_cat (a b:List UInt8):(ByteArray.mk a.toArray++ByteArray.mk b.toArray)=ByteArray.mk (a++b).toArray:=by
 apply ByteArray.ext
 rw[ByteArray.data_append]
 simp
theorem may12 {k n:Int}(h:mayS k n=true):mayS 12 n=true:=by
 unfold mayS at h ⊢;rw[if_pos rfl]
 have hs:surr n=decide (55296≤n∧n≤57343):=rfl;split at h
 ·exact h
 split at h
 ·rw[Bool.and_eq_true]at h
  have h1:=of_decide_eq_true h.1;rw[hs,decide_eq_true (by omega),decide_eq_false (by omega)]
  rfl
 split at h
 ·have h1:=of_decide_eq_true h
  rw[hs,decide_eq_true (by omega),decide_eq_false (by omega)]
  rfl
 split at h
 ·have h1:=of_decide_eq_true h
  rw[hs,decide_eq_true (by omega),decide_eq_false (by omega)]
  rfl
 split at h
 ·have h1:=of_decide_eq_true h
  rw[hs,decide_eq_true (by omega),decide_eq_false (by omega)]
  rfl
 split at h
 ·rw[Bool.and_eq_true]at h
  have h1:=of_decide_eq_true h.1;rw[h.2,decide_eq_true (by omega)]
  rfl
 ·cases h
theorem right_all {k:Int}{b:List UInt8}(h:rightS k b=true):∀ n∈signsS k b,mayS k n=true:=by
 unfold rightS at h;rw[Bool.and_eq_true]at h
 exact List.all_eq_true.1 h.2
def utf8S (k:Int)(b:List UInt8):List UInt8:=ofS 12 (signsS k b)
def foldKeyS (k:Int)(b:List UInt8):List UInt8:=ofS 12 (foldS (signsS k b))
theorem small_may {n:Int}(h:mayS 12 n=true):mayS 12 (smallS n)=true:=by
 unfold smallS;split
 ·unfold mayS surr
  rw[if_pos rfl,decide_eq_true (by omega),decide_eq_false (by omega)]
  rfl
 ·exact h
theorem fold_may {l:List Int}(h:∀ n∈l,mayS 12 n=true):∀ n∈foldS l,mayS 12 n=true:=by
 have:∀ (l:List Int) (s:List Int × Bool),(∀ n∈l,mayS 12 n=true)→(∀ n∈s.1,mayS 12 n=true)→∀ n∈(l.foldl foldStep s).1,mayS 12 n=true:=by
  intro l;induction l with
  |nil=>intro s _ h;exact h
  |cons m l ih=>
   intro s h1 h2;refine ih (foldStep s m) (fun n hn=>h1 n (List.mem_cons_of_mem _ hn)) (fun n hn=>?_);unfold foldStep at hn;split at hn
   ·exact h2 n hn
   ·have hm:=small_may (h1 m List.mem_cons_self)
    simp only[List.mem_append,List.mem_singleton]at hn
    rcases hn with hn|hn
    ·split at hn
     ·rcases List.mem_append.1 hn with h|h
      ·exact h2 n h
      ·rw[List.mem_singleton.1 h];rfl
     ·exact h2 n hn
    ·rw[hn];exact hm
 exact this l ([],false) h (by simp)
def hexN (n:Int):Int:=if n<10 then 48+n else 87+n
def hex1 (x:UInt8):List UInt8:=[UInt8.ofNat (hexN ((x.toNat:Int) / 16)).toNat,UInt8.ofNat (hexN ((x.toNat % 16:Nat):Int)).toNat]
def hexS (l:List UInt8):List UInt8:=l.flatMap hex1
theorem hexS_take {l:List UInt8}{j:Nat}{x:UInt8}(h:l[j]? = some x):hexS (l.take (j+1))=hexS (l.take j)++hex1 x:=by
 unfold hexS;rw[List.take_add_one,h]
 simp
theorem hexS_len (l:List UInt8):(hexS l).length=2*l.length:=by
 induction l with
 |nil=>rfl
 |cons x l ih=>
  have:hexS (x::l)=hex1 x++hexS l:=rfl;rw[this,List.length_append,ih]
  simp only[hex1,List.length_cons,List.length_nil]
  omega
theorem hexN_lt (n:Int)(h0:0≤n)(h1:n<16):48≤hexN n∧hexN n<103:=by unfold hexN;split<;>omega
abbrev BldAt (w:World)(base b:Nat)(l:List UInt8):Prop:=Lib.IsBuilder 149 5 base b (Lib.byteCells l) w
theorem BldAt.old {w w':World}{base b:Nat}{l:List UInt8}(h:BldAt w base b l)(f:Fz w w'):BldAt w' base b l:=by
 have g:∀ p,Lib.BuilderAt 149 5 base b p (Lib.byteCells l) w→Lib.BuilderAt 149 5 base b p (Lib.byteCells l) w':=by
  rintro p ⟨hB,v,hb,hown,hne⟩;exact⟨hB,v,(f.block b (Array.getElem?_eq_some_iff.1 hb).1 (fun h=>h)).trans hb,Go.Proofs.YtehlipgmkinfbaaGreatDoor.ownsRow_fr hown f (fun _ _ h=>h),hne⟩
 rcases h with h|h
 ·exact .inl (g _ h)
 ·exact .inr (g _ h)
theorem BldAt.new (w:World):BldAt (w.alloc (.cells #[.pointer none,.slice none 0 0] 149)) w.heap.size w.heap.size []:=
 .inl ⟨Nat.le_refl _,.slice none 0 0,Blk.new w _ _,⟨rfl,.inl ⟨rfl,rfl⟩⟩,by simp[Value.ownBlock]⟩
theorem Fr.of_below_at {B:Nat}{w w':World}(h:Below B w w'):Fr (fun k=>B≤k) w w':=⟨h.os,h.tape,h.output,h.size,fun k _ hk=>h.block k (by omega)⟩
end Go.Q
namespace Go.Proofs.YtehlipgmkinfbaaGreatDoor
open Go Go.RowKit Go.Q
def TextOut (w w':World)(c:Nat)(K:Nat→Prop)(bs:List UInt8)(p:Nat)(e:Ending):Prop:=
 match textReadS (bs.drop p) with
 |.error x=>e=.returned (.tuple #[.agg #[.int .i64 0,.slice none 0 0],.int .i64 x])∧x≠0∧CurAt w' c K bs p
 |.ok (k,b,n)=>(∃ u,e=.returned (.tuple #[.agg #[.int .i64 k,u],.int .i64 0])∧w'.ownsRow w.heap.size 5 1 u b.length (Lib.byteCells b))∧CurAt w' c K bs (p+n)
theorem textFail_any {w:World}{c b2 b6:Nat}{K:Nat→Prop}{bs:List UInt8}{p q:Nat}(x:Int)(h:CurAt w c K bs q)(hpq:p≤q)(B2:Blk w b2 233 #[pt c])(B6:Blk w b6 3 #[.int .i64 p]) :
  Calls Tryz.prog 205 #[.int .i64 x,pt b2,pt b6] w fun e w'=>e=.returned (.tuple #[.agg #[.int .i64 0,.slice none 0 0],.int .i64 x])∧CurAt w' c K bs p∧Fr (fun k=>k=c) w w':=by
 have hlc:=h.lt;obtain⟨z,hz⟩:∃ z,z=w.heap.size:=⟨_,rfl⟩
 have F0:Fz w (w.alloc (.cells #[.int .i64 0,.slice none 0 0] 176)):=(Fr.refl w).alloc _;have BZ:=Blk.new w 176 #[.int .i64 0,.slice none 0 0];rw[←hz]at BZ
 have H:=Hi (h.step (K':=fun k=>K k∨w.heap.size≤k) F0 (fun _ _ h=>h.elim) (fun _ h=>h));have e2:=(B2.fr F0 (fun h=>h)).cell 0;have e6:=(B6.fr F0 (fun h=>h)).cell 0;simp at e2 e6
 have HZ:=Hi hz;have HF:=Hi F0;have hzc:z≠c:=by omega
 clear h hz F0 B2 B6;go_enter Tryz.func205,Tryz.ntmps205
 go_upto_region 1 with fail
 rw[←HZ.out]
 generalize (w.alloc (.cells #[.int .i64 0,.slice none 0 0] 176))=w1 at *
 go_wp2_with fail
 refine(back_any H.out p hpq).mono ?_
 rintro e w2 ⟨rfl,C2,F2⟩;have BZ2:=BZ.fr F2 hzc;have z0:=BZ2.cell 0;have z1:=BZ2.cell 1;have f0:=BZ2.frozen 0;have f1:=BZ2.frozen 1;simp at z0 z1
 obtain⟨BZ3,F3⟩:=set2 BZ2 (.int .i64 0) (.slice none 0 0)
 have hlc2:=C2.lt;have HC3:=Hi (C2.step (K':=K) F3 (fun k hk e=>.inr (by have:=HZ.out;omega)) (fun _ h=>.inl (.inl h)));have HF3:=Hi (((HF.out.mono (T:=fun k=>k=c) (fun _ _ h=>h.elim)).trans F2).trans' F3 (fun i hi e=>by have:=HZ.out;omega));have n0:=BZ3.cell 0;have n1:=BZ3.cell 1;simp at n0 n1
 clear C2 F2 F3 BZ3 BZ2 BZ HF H;go_wp2_with fail
 exact bodyPost_ret (v:=.tuple #[.agg #[.int .i64 0,.slice none 0 0],.int .i64 x]) (by simp[results,Tryz.results205,go_sem,n0,n1]) rfl ⟨rfl,HC3.out,HF3.out⟩
theorem textRead_any {w:World}{c:Nat}{K:Nat→Prop}{bs:List UInt8}{p:Nat}(h:CurAt w c K bs p)(hT:Tabs w)(hK:¬(2=c∨3=c)) :
  Calls Tryz.prog 167 #[pt c,.slice none 0 0] w fun e w'=>TextOut w w' c K bs p e∧Fr (fun k=>k=c) w w':=by
 have hlc:=h.lt;have hle:=h.le;have hsm:=h.small;obtain⟨z,hz⟩:∃ z,z=w.heap.size:=⟨_,rfl⟩
 have F0:Fz w (((w.alloc (.cells #[pt c] 233)).alloc (.cells #[.int .i64 0,.slice none 0 0] 176)).alloc (.cells #[.int .i64 12,.int .i64 19,.int .i64 20,.int .i64 22,.int .i64 26,.int .i64 30] 3)):=(((Fr.refl w).alloc _).alloc _).alloc _;have BP:=((Blk.new w 233 #[pt c]).alloc (.cells #[.int .i64 0,.slice none 0 0] 176)).alloc (.cells #[.int .i64 12,.int .i64 19,.int .i64 20,.int .i64 22,.int .i64 26,.int .i64 30] 3)
 have BZ:=(Blk.new (w.alloc (.cells #[pt c] 233)) 176 #[.int .i64 0,.slice none 0 0]).alloc (.cells #[.int .i64 12,.int .i64 19,.int .i64 20,.int .i64 22,.int .i64 26,.int .i64 30] 3);have BY:=Blk.new ((w.alloc (.cells #[pt c] 233)).alloc (.cells #[.int .i64 0,.slice none 0 0] 176)) 3 #[.int .i64 12,.int .i64 19,.int .i64 20,.int .i64 22,.int .i64 26,.int .i64 30];have H:=Hi (h.step (K':=fun k=>K k∨w.heap.size≤k) F0 (fun _ _ h=>h.elim) (fun _ h=>h));rw[World.size_alloc,World.size_alloc]at BY
 rw[World.size_alloc]at BZ
 rw[←hz]at BP BZ BY
 have HZ:=Hi hz;have HF:=Hi (F0.mono (T:=fun k=>k=c) (fun _ _ h=>h.elim));have HT:=Hi (hT.old F0);have hzc:c<z:=by omega
 clear h hz F0 hT;go_enter Tryz.func167,Tryz.ntmps167
 go_upto_region 3 with (first|(go_at_call 202;go_in))
 rw[←HZ.out]
 generalize (((w.alloc (.cells #[pt c] 233)).alloc (.cells #[.int .i64 0,.slice none 0 0] 176)).alloc (.cells #[.int .i64 12,.int .i64 19,.int .i64 20,.int .i64 22,.int .i64 26,.int .i64 30] 3))=w0 at *
 have p0:=BP.cell 0;simp at p0
 have hy:=BY.lt;go_wp2_with fail
 refine(at_any H.out).mono ?_
 rintro e w' ⟨rfl,rfl⟩;go_upto_region 4 with fail
 obtain⟨t,ht⟩:∃ t,t=w0.heap.size:=⟨_,rfl⟩
 have BT:=Blk.new w0 3 #[.int .i64 p];have F1:Fz w0 (w0.alloc (.cells #[.int .i64 p] 3)):=(Fr.refl w0).alloc _;have BP1:=BP.fr F1 (fun h=>h);have BZ1:=BZ.fr F1 (fun h=>h);have BY1:=BY.fr F1 (fun h=>h);have HT1:=Hi (HT.out.old F1);have H1:=Hi (H.out.old F1);have HF1:=Hi (HF.out.trans (F1.mono (fun _ _ h=>h.elim)));rw[←ht]at BT ⊢
 have hzt:z+3≤t:=by omega
 clear p0 BP BZ BY HT H HF F1 ht;generalize (w0.alloc (.cells #[.int .i64 p] 3))=w1 at *
 have p0:=BP1.cell 0;simp at p0
 go_wp2_with fail
 refine(headRead_any H1.out).mono ?_
 rintro e w2 ⟨⟨tg,n,x,rfl,hout⟩,C2,F2⟩;obtain⟨tc,tn,tm⟩:=tg
 rw[show tagV ⟨tc,tn,tm⟩=.agg #[.int .i64 tc,.int .i64 tn,.bool tm] from rfl]
 have ht1:=BT.lt;have h1c:=H1.out.lt;have BP2:=BP1.fr F2 (by omega);have BZ2:=BZ1.fr F2 (by omega);have BY2:=BY1.fr F2 (by omega);have BT2:=BT.fr F2 (by omega);go_upto_region 5 with fail
 obtain⟨g,hg⟩:∃ g,g=w2.heap.size:=⟨_,rfl⟩
 have hgt:t<g:=by have:=BT2.lt;omega
 have BG:=Blk.new w2 214 #[.int .i64 tc,.int .i64 tn,.bool tm];have F3:Fz w2 (w2.alloc (.cells #[.int .i64 tc,.int .i64 tn,.bool tm] 214)):=(Fr.refl w2).alloc _;replace BP2:=BP2.fr F3 (fun h=>h);replace BZ2:=BZ2.fr F3 (fun h=>h);replace BY2:=BY2.fr F3 (fun h=>h);replace BT2:=BT2.fr F3 (fun h=>h);have HC3:=Hi (C2.old F3);have HF3:=Hi ((HF1.out.trans F2).trans (F3.mono (fun _ _ h=>h.elim)));have HT3:=Hi ((HT1.out.fr F2 (fun e=>hK (.inl e)) (fun e=>hK (.inr e))).old F3);have HO:=Hi hout;rw[←hg]at BG ⊢
 clear p0 BP1 BZ1 BY1 BT HT1 H1 HF1 F2 F3 C2 hg hout ht1 h1c;generalize (w2.alloc (.cells #[.int .i64 tc,.int .i64 tn,.bool tm] 214))=w3 at *
 have z0:=BZ2.cell 0;have z1:=BZ2.cell 1;have f0:=BZ2.frozen 0;have f1:=BZ2.frozen 1;have q0:=BP2.cell 0;have q1:=BT2.cell 0;simp at z0 z1 q0 q1
 by_cases hx:x=0
 ·subst hx
  obtain⟨k,hr⟩:∃ k,readS (bs.drop p)=.ok (⟨tc,tn,tm⟩,n,k):=by
   have ho:=HO.out;cases hr:readS (bs.drop p) with
   |error e=>rw[hr]at ho;exact absurd ho.symm (readS_err hr)
   |ok vk=>obtain⟨v,m,k⟩:=vk;rw[hr]at ho;exact⟨k,by rw[ho.1,ho.2.1]⟩
  have hc3:=HC3.out;rw[hr]at hc3
  have HC4:=Hi (show CurAt w3 c (fun k=>K k∨w.heap.size≤k) bs (p+k) from hc3);have hpk:p+k≤bs.length:=HC4.out.le;have hts:textReadS (bs.drop p)=if tc≠0∨tm=true∨Go.Q.kindOk tn=false then .error 4 else if (bs.drop p).length-k<n then .error 3 else if rightS tn (((bs.drop p).drop k).take n)=true then .ok (tn,((bs.drop p).drop k).take n,k+n) else .error 6:=by unfold textReadS;rw[hr]
  rw[List.length_drop,List.drop_drop]at hts
  have HTS:=Hi hts;have HTC:=Hi (show ∀ W,Fr (fun k=>k=c) w W→Blk W (z+1) 176 #[.int .i64 0,.slice none 0 0]→∀ er:Int,textReadS (bs.drop p)=.error er→er≠0→CurAt W c (fun k=>K k∨w.heap.size≤k) bs p→∃ W',W'=(W.setCell ⟨z+1,0,none⟩ (.int .i64 0)).setCell ⟨z+1,1,none⟩ (.slice none 0 0)∧Blk W' (z+1) 176 #[.int .i64 0,.slice none 0 0]∧TextOut w W' c K bs p (.returned (.tuple #[.agg #[.int .i64 0,.slice none 0 0],.int .i64 er]))∧Fr (fun k=>k=c) w W' from fun W FW BW er hs her hcw=>by
   obtain⟨BZ3,F4⟩:=set2 BW (.int .i64 0) (.slice none 0 0)
   refine⟨_,rfl,BZ3,?_,FW.trans' F4 (fun i hi e=>by have:=HZ.out;omega)⟩
   unfold TextOut;rw[hs]
   exact⟨rfl,her,hcw.step F4 (fun k hk e=>.inr (by have:=HZ.out;omega)) (fun _ h=>.inl (.inl h))⟩)
  clear hr hc3 hts HC3 HO;have HFAIL:=Hi (textFail_any (p:=p) 4 HC4.out (by omega) BP2 BT2);have hcn:=Go.Proofs.Tryz.slices_Contains_int (z+1+1) 0 6 6 [12,19,20,22,26,30] tn w3 (by simp) (by omega) (fun j hj=>by
   rw[Nat.zero_add,BY2.cell]
   match j,hj with
   |0,_=>rfl
   |1,_=>rfl
   |2,_=>rfl
   |3,_=>rfl
   |4,_=>rfl
   |5,_=>rfl
   |j+6,hj=>simp at hj;omega)
  rw[show ([12,19,20,22,26,30]:List Int).take 6=[12,19,20,22,26,30] from rfl,kind_contains]at hcn
  have HCN:=Hi (show Calls Tryz.prog 207 #[.slice (some ⟨z+1+1,0,none⟩) 6 6,.int .i64 tn] w3 fun e w'=>e=.returned (.bool (Go.Q.kindOk tn))∧w3=w' from hcn.mono (fun _ _ h=>⟨h.1,h.2.symm⟩));clear hcn;have g0:=BG.cell 0;have g1:=BG.cell 1;have g2:=BG.cell 2;simp at g0 g1 g2
  by_cases hb:tc≠0∨tm=true∨Go.Q.kindOk tn=false
  ·have hs:textReadS (bs.drop p)=.error 4:=by rw[HTS.out,if_pos hb]
   have HS:=Hi hs;clear hs;have hcase:((tc==0)=false∧(tc != 0)=true)∨(tc=0∧tm=true)∨(tc=0∧tm=false∧Go.Q.kindOk tn=false):=by
    by_cases h0:tc=0
    ·cases tm with
     |true=>exact .inr (.inl ⟨h0,rfl⟩)
     |false=>
           rcases hb with h|h|h
           ·exact absurd h0 h
           ·cases h
           ·exact .inr (.inr ⟨h0,rfl,h⟩)
    ·exact .inl ⟨beq_eq_false_iff_ne.2 h0,by simpa using h0⟩
   clear hb;rcases hcase with ⟨h,h'⟩|⟨rfl,rfl⟩|⟨rfl,rfl,hkn⟩
   all_goals
    go_wp2_with (first|(go_at_call 207;refine HCN.out.mono ?_;rintro e w' ⟨rfl,rfl⟩))
    refine HFAIL.out.mono ?_;rintro e w5 ⟨rfl,C5,F5⟩;have BZ5:=BZ2.fr F5 (by omega);obtain⟨W',hW',BW',hout,FW'⟩:=HTC.out w5 (HF3.out.trans F5) BZ5 4 HS.out (by decide) C5
    have HOUT:=Hi hout;have HFW:=Hi FW';have HWW:=Hi hW';have z0':=BZ5.cell 0;have z1':=BZ5.cell 1;have f0':=BZ5.frozen 0;have f1':=BZ5.frozen 1;simp at z0' z1'
    have n0:=BW'.cell 0;have n1:=BW'.cell 1;simp at n0 n1
    clear C5 F5 BZ5 hW' BW' hout FW';go_wp2_with fail
    rw[←HWW.out]
    refine bodyPost_ret (v:=.tuple #[.agg #[.int .i64 0,.slice none 0 0],.int .i64 4]) (by simp[results,Tryz.results167,go_sem,n0,n1]) rfl ⟨HOUT.out,HFW.out⟩
  ·have hb0:tc=0∧tm=false∧Go.Q.kindOk tn=true:=by
    refine⟨Classical.byContradiction fun h=>hb (.inl h),?_,?_⟩
    ·cases tm with
     |true=>exact absurd (.inr (.inl rfl)) hb
     |false=>rfl
    ·cases h:Go.Q.kindOk tn with
     |true=>rfl
     |false=>exact absurd (.inr (.inr h)) hb
   have hs1:=HTS.out;rw[if_neg hb]at hs1
   obtain⟨rfl,rfl,hkn⟩:=hb0
   clear hb;by_cases hn:bs.length-(p+k)<n
   ·rw[if_pos (by omega)]at hs1
    have HS:=Hi hs1;have HTK:=Hi (take_end HC4.out n hn);clear hs1;go_wp2_with (first|(go_at_call 207;refine HCN.out.mono ?_;rintro e w' ⟨rfl,rfl⟩))
    refine HTK.out.mono ?_;rintro e w4 ⟨rfl,F4⟩;have BP4:=BP2.fr F4 (fun h=>h);have BT4:=BT2.fr F4 (fun h=>h);have BZ4:=BZ2.fr F4 (fun h=>h);have HFAIL3:=Hi (textFail_any (p:=p) 3 (HC4.out.old F4) (by omega) BP4 BT4);have HF4:=Hi (HF3.out.trans (F4.mono (fun _ _ h=>h.elim)));clear F4 BP4 BT4 BP2 BT2 BY2 HCN g0 g1 g2 z0 z1 f0 f1 q0 q1 BZ2;go_wp2_with fail
    refine HFAIL3.out.mono ?_;rintro e w5 ⟨rfl,C5,F5⟩;have BZ5:=BZ4.fr F5 (by omega);obtain⟨W',hW',BW',hout,FW'⟩:=HTC.out w5 (HF4.out.trans F5) BZ5 3 HS.out (by decide) C5
    have HOUT:=Hi hout;have HFW:=Hi FW';have HWW:=Hi hW';have z0':=BZ5.cell 0;have z1':=BZ5.cell 1;have f0':=BZ5.frozen 0;have f1':=BZ5.frozen 1;simp at z0' z1'
    have n0:=BW'.cell 0;have n1:=BW'.cell 1;simp at n0 n1
    clear C5 F5 BZ5 hW' BW' hout FW';go_wp2_with fail
    rw[←HWW.out]
    refine bodyPost_ret (v:=.tuple #[.agg #[.int .i64 0,.slice none 0 0],.int .i64 3]) (by simp[results,Tryz.results167,go_sem,n0,n1]) rfl ⟨HOUT.out,HFW.out⟩
   ·rw[if_neg (by omega)]at hs1
    obtain⟨b,hbb⟩:∃ b,b=(bs.drop (p+k)).take n:=⟨_,rfl⟩
    have hbl:b.length=n:=by rw[hbb,List.length_take,List.length_drop];omega
    rw[←hbb]at hs1
    have HS:=Hi hs1;have HTK:=take_ok HC4.out n (by omega);rw[←hbb]at HTK
    have HTK:=Hi HTK;have hl3:=BG.lt;clear hs1 hbb;go_wp2_with (first|(go_at_call 207;refine HCN.out.mono ?_;rintro e w' ⟨rfl,rfl⟩))
    refine HTK.out.mono ?_;rintro e w4 ⟨v4,rfl,ho4,C4,F4⟩;have BP4:=BP2.fr F4 (by omega);have BT4:=BT2.fr F4 (by omega);have BZ4:=BZ2.fr F4 (by omega);have BG4:=BG.fr F4 (by omega);have HT4:=Hi (HT3.out.fr F4 (fun e=>hK (.inl e)) (fun e=>hK (.inr e)));obtain⟨a4,m4,c4,rfl,rfl⟩:=own_shape ho4
    have HF4:=Hi (HF3.out.trans F4);have HO4:=Hi ho4;have HC5:=Hi C4;have hv4:=(Vals.of_own ho4).1;clear HT3 HC4 F4 BP2 BT2 BY2 HCN g0 g1 g2 z0 z1 f0 f1 q0 q1 BZ2 BG C4 ho4 HTK;have g1:=BG4.cell 1;simp at g1
    go_upto_region 14 with fail
    obtain⟨y,hy⟩:∃ y,y=w4.heap.size:=⟨_,rfl⟩
    have BX:=Blk.new w4 176 #[.int .i64 tn,.slice a4 m4 c4];have F5:Fz w4 (w4.alloc (.cells #[.int .i64 tn,.slice a4 m4 c4] 176)):=(Fr.refl w4).alloc _;have hv5:=hv4.old F5;have HR:=Hi (rightText_any tn _ b _ hv5 (HT4.out.old F5));have BP5:=BP4.fr F5 (fun h=>h);have BT5:=BT4.fr F5 (fun h=>h);have BZ5:=BZ4.fr F5 (fun h=>h);have HC5':=Hi (HC5.out.old F5);have HO5:=Hi (ownsRow_fr HO4.out F5 (fun _ _ h=>h));have HF5:=Hi (HF4.out.trans (F5.mono (fun _ _ h=>h.elim)));rw[←hy]at BX ⊢
    clear HC5 HO4 HF4 F5 BP4 BT4 BZ4 BG4 hv4 hv5 g1 hy HT4;generalize (w4.alloc (.cells #[.int .i64 tn,.slice a4 m4 c4] 176))=w5 at *
    have x0:=BX.cell 0;have x1:=BX.cell 1;simp at x0 x1
    cases hrt:rightS tn b with
    |false=>
     have hs1:=HS.out;rw[hrt]at hs1
     simp only[Bool.false_eq_true,↓reduceIte]at hs1
     rw[hrt]at HR
     have HS6:=Hi hs1;clear hs1 HS hrt;go_wp2_with (first|(go_at_call 148;refine HR.out.mono ?_;rintro e w6 ⟨rfl,F6⟩))
     have HFAIL6:=Hi (textFail_any (p:=p) 6 (HC5'.out.old F6) (by omega) (BP5.fr F6 (fun h=>h)) (BT5.fr F6 (fun h=>h)));refine HFAIL6.out.mono ?_;rintro e w7 ⟨rfl,C7,F7⟩;have BZ7:=(BZ5.fr F6 (fun h=>h)).fr F7 (by omega);obtain⟨W',hW',BW',hout,FW'⟩:=HTC.out w7 ((HF5.out.trans (F6.mono (fun _ _ h=>h.elim))).trans F7) BZ7 6 HS6.out (by decide) C7
     have HOUT:=Hi hout;have HFW:=Hi FW';have HWW:=Hi hW';have z0':=BZ7.cell 0;have z1':=BZ7.cell 1;have f0':=BZ7.frozen 0;have f1':=BZ7.frozen 1;simp at z0' z1'
     have n0:=BW'.cell 0;have n1:=BW'.cell 1;simp at n0 n1
     clear C7 F7 BZ7 hW' BW' hout FW';go_wp2_with fail
     rw[←HWW.out]
     refine bodyPost_ret (v:=.tuple #[.agg #[.int .i64 0,.slice none 0 0],.int .i64 6]) (by simp[results,Tryz.results167,go_sem,n0,n1]) rfl ⟨HOUT.out,HFW.out⟩
    |true=>
     have hs1:=HS.out;rw[hrt]at hs1
     simp only[↓reduceIte]at hs1
     rw[hrt]at HR
     have HS6:=Hi hs1;clear hs1 HS hrt;go_wp2_with (first|(go_at_call 148;refine HR.out.mono ?_;rintro e w6 ⟨rfl,F6⟩;have BX6:=BX.fr F6 (fun h=>h);have BZ6:=BZ5.fr F6 (fun h=>h);have x0':=BX6.cell 0;have x1':=BX6.cell 1;have z0':=BZ6.cell 0;have z1':=BZ6.cell 1;have f0':=BZ6.frozen 0;have f1':=BZ6.frozen 1;simp only[SG]at x0' x1' z0' z1'))
     obtain⟨BZ7,F7⟩:=set2 (BZ5.fr F6 (fun h=>h)) (.int .i64 tn) (.slice a4 m4 c4)
     have n0:=BZ7.cell 0;have n1:=BZ7.cell 1;simp at n0 n1
     have hob:∀ q,(Value.slice a4 m4 c4).ownBlock=some q→w3.heap.size≤q:=fun q hq=>((Vals.of_own HO5.out).2 q hq).1
     have HO7:=Hi (own_le (ownsRow_fr (ownsRow_fr HO5.out F6 (fun _ _ h=>h)) F7 (fun q hq e=>by have:=hob q hq;omega)) (base':=w.heap.size) (by have:=HZ.out;omega));have HC7:=Hi ((HC5'.out.old F6).step (K':=K) F7 (fun q hq e=>.inr (by have:=HZ.out;omega)) (fun _ h=>.inl (.inl h)));have HF7:=Hi ((HF5.out.trans (F6.mono (fun _ _ h=>h.elim))).trans' F7 (fun i hi e=>by have:=HZ.out;omega));refine bodyPost_ret (v:=.tuple #[.agg #[.int .i64 tn,.slice a4 m4 c4],.int .i64 0]) (by simp[results,Tryz.results167,go_sem,n0,n1]) rfl ⟨?_,HF7.out⟩;unfold TextOut;rw[HS6.out]
     have hc7:=HC7.out;rw[Nat.add_assoc]at hc7
     simp only
     exact⟨⟨_,rfl,by rw[hbl];exact HO7.out⟩,hc7⟩
 ·have hx1:(x==0)=false:=beq_eq_false_iff_ne.2 hx
  have hr:readS (bs.drop p)=.error x:=by
   have ho:=HO.out;cases hr:readS (bs.drop p) with
   |error e=>rw[hr]at ho;rw[show x=e from ho]
   |ok vk=>obtain⟨v,m,k⟩:=vk;rw[hr]at ho;exact absurd ho.2.2 hx
  have hs:textReadS (bs.drop p)=.error x:=by unfold textReadS;rw[hr]
  have hc3:=HC3.out;rw[hr]at hc3
  obtain⟨BZ3,F4⟩:=set2 BZ2 (.int .i64 0) (.slice none 0 0)
  have HC4:=Hi (CurAt.step (K':=K) hc3 F4 (fun k hk e=>.inr (by have:=HZ.out;omega)) (fun _ h=>.inl (.inl h)));have HF4:=Hi (HF3.out.trans' F4 (fun i hi e=>by have:=HZ.out;omega));have HS:=Hi hs;have n0:=BZ3.cell 0;have n1:=BZ3.cell 1;simp at n0 n1
  have hxn:=Hi hx;clear hr hs hc3 F4 BZ3 BZ2 BP2 BY2 BT2 BG HC3 HF3 hx;go_wp2_with fail
  refine bodyPost_ret (v:=.tuple #[.agg #[.int .i64 0,.slice none 0 0],.int .i64 x]) (by simp[results,Tryz.results167,go_sem,n0,n1]) rfl ⟨?_,HF4.out⟩;unfold TextOut;rw[HS.out]
  exact⟨rfl,hxn.out,HC4.out⟩
theorem blank_any (n:Int)(w:World) :
  Calls Tryz.prog 211 #[.int .i64 n] w fun e w'=>e=.returned (.bool (blankB n))∧w=w':=by
 have hc:n=32∨(n≠32∧n<9)∨(9≤n∧n≤13)∨(n≠32∧13<n):=by omega
 rcases hc with rfl|⟨h1,h2⟩|⟨h1,h2⟩|⟨h1,h2⟩
 ·go_enter Tryz.func211,Tryz.ntmps211
  go_wp2_with fail
  go_ret;exact⟨rfl,rfl⟩
 ·have hb:blankB n=false:=decide_eq_false (by omega)
  have HB:=Hi hb;have q1:(n==32)=false:=beq_eq_false_iff_ne.2 h1;have q2:¬(9:Int)≤n:=by omega
  clear hb;go_enter Tryz.func211,Tryz.ntmps211
  go_wp2_with fail
  go_ret;exact⟨by rw[HB.out];rfl,rfl⟩
 ·have hb:blankB n=true:=decide_eq_true (by omega)
  have HB:=Hi hb;have q1:(n==32)=false:=beq_eq_false_iff_ne.2 (by omega);clear hb;go_enter Tryz.func211,Tryz.ntmps211
  go_wp2_with fail
  go_ret;exact⟨by rw[HB.out];rfl,rfl⟩
 ·have hb:blankB n=false:=decide_eq_false (by omega)
  have HB:=Hi hb;have q1:(n==32)=false:=beq_eq_false_iff_ne.2 h1;have q2:(9:Int)≤n:=by omega
  have q3:¬n≤(13:Int):=by omega
  clear hb;go_enter Tryz.func211,Tryz.ntmps211
  go_wp2_with fail
  go_ret;exact⟨by rw[HB.out];rfl,rfl⟩
theorem small_any (n:Int)(w:World) :
  Calls Tryz.prog 212 #[.int .i64 n] w fun e w'=>e=.returned (.int .i64 (smallS n))∧w=w':=by
 by_cases h1:(65:Int)≤n
 ·by_cases h2:n≤(90:Int)
  ·have hb:smallS n=n+32:=if_pos ⟨h1,h2⟩
   have HB:=Hi hb;clear hb;go_enter Tryz.func212,Tryz.ntmps212
   go_wp2_with fail
   go_ret;exact⟨by rw[HB.out];rfl,rfl⟩
  ·have hb:smallS n=n:=if_neg (by omega)
   have HB:=Hi hb;clear hb;go_enter Tryz.func212,Tryz.ntmps212
   go_wp2_with fail
   go_ret;exact⟨by rw[HB.out];rfl,rfl⟩
 ·have hb:smallS n=n:=if_neg (by omega)
  have HB:=Hi hb;clear hb;go_enter Tryz.func212,Tryz.ntmps212
  go_wp2_with fail
  go_ret;exact⟨by rw[HB.out];rfl,rfl⟩
theorem foldPut_any {w:World}{base:Nat}(n:Int)(g d:Nat)(s:List Int × Bool)(hgd:g≠d)(h:FoldAt w g d base s)(hb:base≤w.heap.size)(hm:s.1.length≤10995116277) :
  Calls Tryz.prog 210 #[.int .i64 n,pt g,pt d] w fun e w'=>e=.returned (.tuple #[])∧FoldAt w' g d base (foldStep s n)∧Fr (fun k=>k=g∨k=d∨base≤k) w w':=by
 obtain⟨xs,due⟩:=s
 obtain⟨v,BG,BD,hown,ho⟩:=h
 simp only at BG BD hown hm
 obtain⟨a,m,c,rfl,rfl⟩:=own_shape hown
 have HOWN:=Hi hown;have hbase:=(Vals.of_own hown).2;have HBA:=Hi hbase;have g0:=BG.cell 0;have g1:=BG.frozen 0;have d0:=BD.cell 0;have d1:=BD.frozen 0;simp at g0 d0
 cases hbl:blankB n with
 |true=>
  have HB:=Hi (blank_any n w);rw[hbl]at HB
  have hst:foldStep (xs,due) n=(xs,decide (0<xs.length)):=by unfold foldStep;rw[hbl];rfl
  have HST:=Hi hst;clear hst hown hbase hbl;have hd:∀ z:Bool,decide (0<xs.length)=z→FoldAt (w.setCell ⟨d,0,none⟩ (.bool z)) g d base (foldStep (xs,due) n)∧Fr (fun k=>k=g∨k=d∨base≤k) w (w.setCell ⟨d,0,none⟩ (.bool z)):=by
   intro z hz;have F:Fr (fun k=>k=d) w (w.setCell ⟨d,0,none⟩ (.bool z)):=Fr.setCell (S:=fun k=>k=d) (p:=⟨d,0,none⟩) (Fr.refl w) (fun _=>rfl) _;have BD2:=BD.set 0 (.bool z);simp at BD2
   rw[HST.out,hz]
   exact⟨⟨_,BG.fr F hgd,BD2,ownsRow_fr HOWN.out F (fun k hk e=>(ho k hk).2 e),ho⟩,F.mono (fun _ _ h=>.inr (.inl h))⟩
  have HD:=Hi hd;clear hd;go_enter Tryz.func210,Tryz.ntmps210
  go_wp2_with fail
  refine HB.out.mono ?_;rintro e w' ⟨rfl,rfl⟩;go_wp2_with fail
  refine bodyPost_ret (results_none rfl _ _ _) rfl ?_;exact⟨rfl,HD.out _ rfl⟩
 |false=>
  have HB:=Hi (blank_any n w);rw[hbl]at HB
  have last:∀ (w3:World) (v3:Value) (m3:Nat) (ys:List Int),Blk w3 g 103 #[v3]→Blk w3 d 4 #[.bool false]→w3.ownsRow base 3 1 v3 m3 (intCells ys)→(∀ k,v3.ownBlock=some k→k≠g∧k≠d)→base≤w3.heap.size→m3≤10995116278→Fr (fun k=>k=g∨k=d∨base≤k) w w3→foldStep (xs,due) n=(ys++[smallS n],false)→
    ∃ a c w',(Builtin.append_ #[103,103] 103 #[v3,.slice (some ⟨w3.heap.size,0,none⟩) 1 1]).run Tryz.prog ((w3.alloc (.cells #[.int .i64 (smallS n)] 3)).drew)=.ok (.slice a (m3+1) c) w'∧Blk w' g 103 #[v3]∧FoldAt (w'.setCell ⟨g,0,none⟩ (.slice a (m3+1) c)) g d base (foldStep (xs,due) n)∧Fr (fun k=>k=g∨k=d∨base≤k) w (w'.setCell ⟨g,0,none⟩ (.slice a (m3+1) c)):=by
   intro w3 v3 m3 ys BG3 BD3 own3 ho3 hb3 hm3 F3 hst;have F4:Fz w3 ((w3.alloc (.cells #[.int .i64 (smallS n)] 3)).drew):=((Fr.refl w3).alloc _).drew;obtain⟨a,c,w',hrun,own',F5,hk5⟩:=add_int own3 hb3 (by omega) (smallS n) w3.heap.size F4 (Blk.new w3 3 #[.int .i64 (smallS n)]).drew
   have BG5:=BG3.fr F5 (fun e=>(ho3 g e).1 rfl);have BD5:=BD3.fr F5 (fun e=>(ho3 d e).2 rfl);have lg:=BG3.lt;have ld:=BD3.lt;have hne:∀ k,(Value.slice a (m3+1) c).ownBlock=some k→k≠g∧k≠d:=fun k hk=>by
    rcases hk5 k hk with h|h
    ·exact ho3 k h
    ·exact⟨by omega,by omega⟩
   have F6:Fr (fun k=>k=g) w' (w'.setCell ⟨g,0,none⟩ (.slice a (m3+1) c)):=Fr.setCell (S:=fun k=>k=g) (p:=⟨g,0,none⟩) (Fr.refl w') (fun _=>rfl) _;have BG6:=BG5.set 0 (.slice a (m3+1) c);simp at BG6
   have hlen:m3+1=(ys++[smallS n]).length:=by
    have:=own3.1;rw[intCells_len,Nat.mul_one]at this
    simp[this]
   refine⟨a,c,w',hrun,BG5,?_,(F3.trans (F5.mono (fun k hk e=>?_))).trans (F6.mono (fun _ _ h=>.inl h))⟩
   ·rw[hst]
    refine⟨_,BG6,BD5.fr F6 (fun e=>hgd e.symm),?_,hne⟩
    simp only
    rw[←hlen]
    exact ownsRow_fr own' F6 (fun k hk e=>(hne k hk).1 e)
   ·exact .inr (.inr ((Vals.of_own own3).2 k e).1)
  have HL:=Hi last;clear last;cases due with
  |false=>
   have hst:foldStep (xs,false) n=(xs++[smallS n],false):=by unfold foldStep;rw[hbl];rfl
   obtain⟨a7,c7,w7,hrun,BG7,hfin,hF7⟩:=HL.out w _ xs.length xs BG BD HOWN.out ho hb (by omega) (Fr.refl w) hst
   have HRUN:=Hi hrun;have HFIN:=Hi hfin;have HF7:=Hi hF7;have g7:=BG7.cell 0;have f7:=BG7.frozen 0;have hal:=alloc_old;have lg:=BG.lt;simp at g7
   clear hst hrun hfin hF7 hown hbase hbl;go_enter Tryz.func210,Tryz.ntmps210
   go_wp2_with fail
   refine HB.out.mono ?_;rintro e w' ⟨rfl,rfl⟩;go_wp2_with fail
   go_region_law (first|(refine step_append_run (by rfl) (.tmp 13) (.tmp 16) 103 (by rfl) _ w7 (by exact HRUN.out) ?_)|(go_simp;go_at_call 212;refine(small_any n _).mono ?_;rintro e w' ⟨rfl,rfl⟩))
   all_goals
    go_wp2_with fail
    go_end0
    exact⟨rfl,HFIN.out,HF7.out⟩
  |true=>
   have hst:foldStep (xs,true) n=((xs++[32])++[smallS n],false):=by unfold foldStep;rw[hbl];rfl
   have F1:Fz w (w.alloc (.cells #[.int .i64 32] 3)):=(Fr.refl w).alloc _;obtain⟨a1,c1,w1,hrun1,own1,F2,hk1⟩:=add_int HOWN.out hb (by omega) 32 w.heap.size F1 (Blk.new w 3 #[.int .i64 32])
   have lg:=BG.lt;have ld:=BD.lt;have BG1:=BG.fr F2 (fun e=>(ho g e).1 rfl);have BD1:=BD.fr F2 (fun e=>(ho d e).2 rfl);have hne:∀ k,(Value.slice a1 (xs.length+1) c1).ownBlock=some k→k≠g∧k≠d:=fun k hk=>by
    rcases hk1 k hk with h|h
    ·exact ho k h
    ·exact⟨by omega,by omega⟩
   have F3:Fr (fun k=>k=g∨k=d) w1 ((w1.setCell ⟨g,0,none⟩ (.slice a1 (xs.length+1) c1)).setCell ⟨d,0,none⟩ (.bool false)):=((Fr.refl w1).setCell (p:=⟨g,0,none⟩) (fun _=>.inl rfl) _).setCell (p:=⟨d,0,none⟩) (fun _=>.inr rfl) _;have BG3:=(BG1.set 0 (.slice a1 (xs.length+1) c1)).set_other (a:=⟨d,0,none⟩) hgd (.bool false);have BD3:=(BD1.set_other (a:=⟨g,0,none⟩) (fun e=>hgd e.symm) (.slice a1 (xs.length+1) c1)).set 0 (.bool false);simp at BG3 BD3
   have own3:=ownsRow_fr own1 F3 (fun k hk e=>by have:=hne k hk;omega);have G3:Fr (fun k=>k=g∨k=d∨base≤k) w ((w1.setCell ⟨g,0,none⟩ (.slice a1 (xs.length+1) c1)).setCell ⟨d,0,none⟩ (.bool false)):=(F2.mono (fun k hk e=>.inr (.inr (HBA.out k e).1))).trans (F3.mono (fun k _ h=>h.elim .inl (fun h=>.inr (.inl h))));obtain⟨a7,c7,w7,hrun,BG7,hfin,hF7⟩:=HL.out _ _ (xs.length+1) (xs++[32]) BG3 BD3 own3 hne (Nat.le_trans hb G3.size) (by omega) G3 hst
   have HRUN1:=Hi hrun1;have HRUN:=Hi hrun;have HFIN:=Hi hfin;have HF7:=Hi hF7;have HBG3:=Hi BG3;have p0:=BG1.cell 0;have p1:=BG1.frozen 0;have r0:=BD1.cell 0;have r1:=BD1.frozen 0;have g7:=BG7.cell 0;have f7:=BG7.frozen 0;simp at g7 p0 r0
   clear hst hrun hrun1 hfin hF7 hown hbase hbl own1 own3 BG3 BD3 F3 G3 F2 F1 BG1 BD1 hk1 hne;go_enter Tryz.func210,Tryz.ntmps210
   go_wp2_with fail
   refine HB.out.mono ?_;rintro e w' ⟨rfl,rfl⟩;have hgd':d≠g:=fun e=>hgd e.symm
   go_upto_region 5 with (at_builtin;refine wpList_append_run (by rfl) (.tmp 10) (.tmp 11) 103 (by rfl) _ w1 (by exact HRUN1.out) ?_)
   generalize ((w1.setCell ⟨g,0,none⟩ (.slice a1 (xs.length+1) c1)).setCell ⟨d,0,none⟩ (.bool false))=w3 at *
   have g3:=HBG3.out.cell 0;have hal:=alloc_old;have lg3:=HBG3.out.lt;simp at g3
   go_region_law (first|(refine step_append_run (by rfl) (.tmp 13) (.tmp 16) 103 (by rfl) _ w7 (by exact HRUN.out) ?_)|(go_simp;go_at_call 212;refine(small_any n _).mono ?_;rintro e w' ⟨rfl,rfl⟩))
   all_goals
    go_wp2_with fail
    go_end0
    exact⟨rfl,HFIN.out,HF7.out⟩
theorem foldSigns_any (v:Value)(l:List Int)(w:World)(h:Ints w v l)(hl:l.length≤1099511627) :
  Calls Tryz.prog 171 #[v] w fun e w'=>(∃ u,e=.returned u∧w'.ownsRow w.heap.size 3 1 u (foldS l).length (intCells (foldS l)))∧Fz w w':=by
 have H:=Hi h;obtain⟨a,cap,rfl,-⟩:=Ints.form h
 obtain⟨z,hz⟩:∃ z,z=w.heap.size:=⟨_,rfl⟩
 have HZ:=Hi hz;have F0:Fz w ((w.alloc (.cells #[.slice none 0 0] 103)).alloc (.cells #[.bool false] 4)):=((Fr.refl w).alloc _).alloc _;have BG0:=(Blk.new w 103 #[.slice none 0 0]).alloc (.cells #[.bool false] 4);have BD0:=Blk.new (w.alloc (.cells #[.slice none 0 0] 103)) 4 #[.bool false];have hs0:((w.alloc (.cells #[.slice none 0 0] 103)).alloc (.cells #[.bool false] 4)).heap.size=z+2:=by rw[World.size_alloc,World.size_alloc,hz]
 rw[World.size_alloc,←hz]at BD0
 rw[←hz]at BG0
 have A0:FoldAt ((w.alloc (.cells #[.slice none 0 0] 103)).alloc (.cells #[.bool false] 4)) z (z+1) (z+2) ([],false):=⟨_,BG0,BD0,⟨rfl,.inl ⟨rfl,rfl⟩⟩,fun k hk=>by simp[Value.ownBlock]at hk⟩;have HA0:=Hi A0;have HF0:=Hi F0;have HS0:=Hi hs0;clear h hz F0 BG0 BD0 A0 hs0;go_enter Tryz.func171,Tryz.ntmps171
 go_upto_region 4 with fail
 rw[←HZ.out]
 generalize ((w.alloc (.cells #[.slice none 0 0] 103)).alloc (.cells #[.bool false] 4))=w1 at *
 go_wp2_with fail
 go_loopg [11] l.length (fun g i wr=>∃ j:Nat,g=l.length-j∧j≤l.length∧i=.int .i64 j∧FoldAt wr z (z+1) (z+2) (foldAcc (l.take j))∧Fz w wr∧z+2≤wr.heap.size)
 case atStart=>exact⟨0,rfl,Nat.zero_le _,rfl,HA0.out,HF0.out,by have:=HS0.out;omega⟩
 case round=>
  obtain⟨j,hg,hj,rfl,hA,F,hsz⟩:=hrel
  have HG:=Hi hg;have HA:=Hi hA;have HF:=Hi F;clear hg hA F;by_cases hjl:j<l.length
  ·obtain⟨a0,cap0,he,_,_,hx⟩:=Ints.form (H.out.old HF.out)
   simp only[Value.slice.injEq,true_and]at he
   obtain⟨rfl,rfl⟩:=he
   obtain⟨b,off,rfl,hy⟩:=hx (by omega)
   obtain⟨n,hn⟩:∃ n,l[j]? = some n:=⟨_,List.getElem?_eq_getElem hjl⟩
   have e1:=hy j n hn;have hft:=foldAcc_take hn;have HFT:=Hi hft;have r1:(0:Int)≤(j:Int):=by omega
   have r2:(j:Int)<(l.length:Int):=by omega
   have hlen:=foldAcc_len (l.take j);rw[List.length_take]at hlen
   have HP:=Hi (foldPut_any n z (z+1) _ (by omega) HA.out hsz (by omega));clear hx hy hn hft hlen;go_wp2_with fail
   refine HP.out.mono ?_;rintro e w2 ⟨rfl,hA2,F2⟩;rw[←HFT.out]at hA2
   have HA2:=Hi hA2;have HF2:=Hi (HF.out.trans' F2 (fun i hi e=>by have:=HZ.out;omega));have hs2:=F2.size;clear hA2 F2;go_wp2_with fail
   go_roundg (l.length-(j+1))
   case measure=>rw[HG.out];omega
   case rel=>exact⟨j+1,rfl,by omega,by go_num,HA2.out,HF2.out,by omega⟩
  ·have hall:l.take j=l:=List.take_of_length_le (by omega)
   obtain⟨u,BG,_,hown,_⟩:=HA.out
   rw[hall]at hown
   have hown:=own_le hown (base':=w.heap.size) (by have:=HZ.out;omega);have HO:=Hi hown;have g0:=BG.cell 0;simp at g0
   clear hown hall;go_wp2_with fail
   go_ret;exact⟨⟨_,rfl,HO.out⟩,HF.out⟩
theorem str_of {w:World}{v:Value}{l:List UInt8}(h:Bytes w v l):(Go.convert 38 9 v).run Tryz.prog w=.ok (str l) w:=by
 obtain⟨a,cap,rfl,hc,hm,hx⟩:=h.form
 rcases Nat.eq_zero_or_pos l.length with h0|h0
 ·obtain rfl:l=[]:=List.length_eq_zero_iff.1 h0
  exact run_convert_bytes_zero w 38 5 Tryz.underlying38 Tryz.underlying5 a cap 9 Tryz.underlying9
 ·obtain⟨b,o,rfl,hy⟩:=hx h0
  exact run_convert_bytes_back w 38 9 5 _ cap l Tryz.underlying38 Tryz.underlying5 Tryz.underlying9 (fun j hj=>by
   rw[show (⟨b,o,none⟩:Addr).add j=⟨b,o+j,none⟩ from by unfold Addr.add;split<;>simp_all]
   exact hy j _ (List.getElem?_eq_getElem hj))
theorem bytes_of_str (w:World)(l:List UInt8)(hl:l.length≤1099511627776):∃ c w',(Go.convert 9 38 (str l)).run Tryz.prog w=.ok (.slice (some ⟨w.heap.size,0,none⟩) l.length c) w'∧Bytes w' (.slice (some ⟨w.heap.size,0,none⟩) l.length c) l∧Fz w w'∧w'.heap.size=w.heap.size+1:=by
 have hr:=Lib.run_convert_string_bytes (P:=Tryz.prog) w 9 38 5 ⟨l.toArray⟩ Tryz.underlying9 Tryz.underlying38 Tryz.underlying5;have hs:(ByteArray.mk l.toArray).size=l.length:=by simp[ByteArray.size]
 rw[hs]at hr
 refine⟨_,_,hr,?_,⟨rfl,rfl,rfl,by rw[Lib.bytesWorld_size];omega,fun k hk _=>Lib.bytesWorld_at_old _ _ _ _ hk⟩,Lib.bytesWorld_size _ _ _⟩
 refine⟨_,_,by rw[byteCells_len],?_,?_,fun _=>⟨w.heap.size,0,rfl,fun i u hu=>?_⟩⟩
 ·rw[byteCells_len];exact grownCap_ge _ _ _ _
 ·exact grownCap_le_maxLen _ _ _ _ (by unfold maxLen;omega)
 ·rw[byteCells_get]at hu
  cases hli:l[i]? with
  |none=>rw[hli]at hu;cases hu
  |some x=>
   rw[hli]at hu
   simp only[Option.map_some,Option.some.injEq]at hu
   subst hu;have hi:=(List.getElem?_eq_some_iff.1 hli).1;rw[Nat.zero_add,Lib.bytesWorld_cell _ _ _ _ (by rw[hs];exact hi)]
   simp[List.getD_eq_getElem?_getD,hli]
theorem foldKey_any (k:Int)(v:Value)(b:List UInt8)(w:World)(hv:Bytes w v b)(hT:Tabs w)(hok:rightS k b=true)(hbl:b.length≤16777216) :
  Calls Tryz.prog 129 #[.agg #[.int .i64 k,v]] w fun e w'=>e=.returned (.tuple #[str (foldKeyS k b),.int .i64 0])∧Fz w w':=by
 obtain⟨a,cap,rfl,-⟩:=hv.form
 obtain⟨z,hz⟩:∃ z,z=w.heap.size:=⟨_,rfl⟩
 have F0:Fz w (w.alloc (.cells #[.int .i64 k,.slice a b.length cap] 176)):=(Fr.refl w).alloc _;have B0:=Blk.new w 176 #[.int .i64 k,.slice a b.length cap];rw[←hz]at B0
 have HS:=Hi (signsText_any k _ b _ (hv.old F0) (hT.old F0) (by omega) hok);have hm:=Hi (fold_may (fun n hn=>may12 (right_all hok n hn)));have hl:=signsS_len k b;have HZ:=Hi hz;have HF0:=Hi F0;have hu:foldKeyS k b=ofS 12 (foldS (signsS k b)):=rfl;have HU:=Hi hu;clear F0 hz hok hv hT hu;generalize signsS k b=sg at *
 have hfl:(foldS sg).length≤2*sg.length:=foldAcc_len sg;go_enter Tryz.func129,Tryz.ntmps129
 go_upto_region 1 with fail
 rw[←HZ.out]
 generalize (w.alloc (.cells #[.int .i64 k,.slice a b.length cap] 176))=w1 at *
 have t0:=B0.cell 0;have t1:=B0.cell 1;simp at t0 t1
 go_wp2_with fail
 refine HS.out.mono ?_;rintro e w2 ⟨⟨u2,rfl,ho2⟩,F2⟩;have hi2:=(Vals.of_own ho2).1;obtain⟨a2,m2,c2,rfl,rfl⟩:=own_shape ho2
 have HG:=Hi (foldSigns_any _ sg w2 hi2 (by omega));have HF2:=Hi (HF0.out.trans F2);clear HS HF0 F2 ho2 t0 t1 B0 hi2;go_wp2_with fail
 refine HG.out.mono ?_;rintro e w4 ⟨⟨u4,rfl,ho4⟩,F4⟩;have hi4:=(Vals.of_own ho4).1;obtain⟨a4,m4,c4,rfl,rfl⟩:=own_shape ho4
 have HO:=Hi (ofText_any 12 _ (foldS sg) w4 hi4 rfl hm.out (by omega));have HF4:=Hi (HF2.out.trans F4);clear HG HF2 F4 ho4 hi4;generalize foldS sg=fs at *
 go_wp2_with fail
 refine HO.out.mono ?_;rintro e w3 ⟨⟨u3,rfl,ho3⟩,F3⟩;have hb3:=(Vals.of_own ho3).1;obtain⟨a3,m3,c3,rfl,rfl⟩:=own_shape ho3
 have hs3:∀ o,(Go.convert 38 9 (.slice a3 (ofS 12 fs).length c3)).run Tryz.prog (w3.alloc o)=.ok (str (ofS 12 fs)) (w3.alloc o):=fun o=>str_of (hb3.old ((Fr.refl w3).alloc o))
 have HF3:=Hi ((HF4.out.trans F3).alloc (.cells #[.int .i64 12,.slice a3 (ofS 12 fs).length c3] 176));clear HO HF4 F3 ho3 hb3;go_wp2_with fail
 refine bodyPost_ret (v:=.tuple #[str (ofS 12 fs),.int .i64 0]) (by simp[results,Tryz.results129,go_sem]) rfl ⟨by rw[HU.out],HF3.out⟩
theorem digit_any (n:Int)(h0:0≤n)(h1:n<16)(w:World) :
  Calls Tryz.prog 172 #[.int .u8 n] w fun e w'=>e=.returned (.int .u8 (hexN n))∧w=w':=by
 by_cases hc:n<10
 ·have hb:hexN n=48+n:=if_pos hc
  have HB:=Hi hb;have hw:IntKind.u8.wrap (48+n)=48+n:=by simp[IntKind.wrap,IntKind.signed,IntKind.bits];omega
  clear hb;go_enter Tryz.func172,Tryz.ntmps172
  go_wp2_with fail
  go_ret;refine⟨?_,rfl⟩
  rw[HB.out]
  first|rfl|rw[hw]
 ·have hb:hexN n=87+n:=if_neg hc
  have HB:=Hi hb;have hw:IntKind.u8.wrap (97+n)=97+n:=by simp[IntKind.wrap,IntKind.signed,IntKind.bits];omega
  have hw2:IntKind.u8.wrap (97+n-10)=87+n:=by simp[IntKind.wrap,IntKind.signed,IntKind.bits];omega
  clear hb;go_enter Tryz.func172,Tryz.ntmps172
  go_wp2_with fail
  go_ret;refine⟨?_,rfl⟩
  rw[HB.out]
  first|rfl|(rw[hw,hw2])
theorem hex_any (v:Value)(l:List UInt8)(w:World)(h:Bytes w v l)(hl:l.length≤109951162) :
  Calls Tryz.prog 130 #[v] w fun e w'=>e=.returned (str (hexS l))∧Fz w w':=by
 have H:=Hi h;obtain⟨a,cap,rfl,-⟩:=h.form
 obtain⟨i0,hi0,hz0,hz1,hz2⟩:=info_parts info5
 have hmk:=run_make (P:=Tryz.prog) w 38 5 i0 _ Tryz.underlying38 hi0 hz0 .i64 .i64 0 (2*(l.length:Int)) (by omega) (by omega) (by rw[hz2];omega) (by omega);have hm2:(2*(l.length:Int)).toNat=2*l.length:=by omega
 rw[hm2,hz1,Nat.mul_one]at hmk
 have hms:(madeCells (Value.int .u8 0).cells (2*l.length)).size=2*l.length:=by simp[madeCells]
 have B0:=Blk.new w 5 (madeCells (Value.int .u8 0).cells (2*l.length));have own0:=own_block B0 0 (Nat.zero_le _) (by rw[hms];unfold maxLen;omega) w.heap.size (Nat.le_refl _);rw[hms,List.take_zero]at own0
 have F0:Fz w (w.alloc (.cells (madeCells (Value.int .u8 0).cells (2*l.length)) 5)):=(Fr.refl w).alloc _;have HO:=Hi own0;have HF:=Hi F0;generalize hwg:(w.alloc (.cells (madeCells (Value.int .u8 0).cells (2*l.length)) 5))=w1 at *
 have HM:=Hi hmk;clear h hi0 hz0 hz1 hz2 hm2 hms B0 own0 F0 hwg hmk;have hmk:=HM.out;go_enter Tryz.func130,Tryz.ntmps130
 go_wp2_with fail
 go_loopg [3,12] l.length (fun g u i wr=>∃ (j:Nat) (au:Option Addr) (cu:Nat),g=l.length-j∧j≤l.length∧u=.slice au (2*j) cu∧i=.int .i64 j∧wr.ownsRow w.heap.size 5 1 (.slice au (2*j) cu) (2*j) (Lib.byteCells (hexS (l.take j)))∧Fz w wr)
 case atStart=>exact⟨0,_,_,rfl,Nat.zero_le _,rfl,rfl,HO.out,HF.out⟩
 case round=>
  obtain⟨j,au,cu,hg,hj,rfl,rfl,hown,F⟩:=hrel
  have HG:=Hi hg;clear hg;by_cases hjl:j<l.length
  ·obtain⟨a0,cap0,he,_,_,hx⟩:=(H.out.old F).form
   simp only[Value.slice.injEq,true_and]at he
   obtain⟨rfl,rfl⟩:=he
   obtain⟨b,off,rfl,hy⟩:=hx (by omega)
   obtain⟨x,hn⟩:∃ n,l[j]? = some n:=⟨_,List.getElem?_eq_getElem hjl⟩
   have e1:=hy j x hn;have HFT:=Hi (hexS_take hn);have hxl:=x.toNat_lt;have h15:=and15 x;have hx1:hex1 x=[UInt8.ofNat (hexN ((x.toNat:Int) / 16)).toNat,UInt8.ofNat (hexN ((x.toNat % 16:Nat):Int)).toNat]:=rfl;obtain⟨y,hye⟩:∃ y:Nat,y=x.toNat:=⟨_,rfl⟩
   rw[←hye]at e1 hxl h15 hx1
   obtain⟨r,hr⟩:∃ r:Nat,r=y % 16:=⟨_,rfl⟩
   rw[←hr]at h15 hx1
   have hyl:y<256:=hxl;have hrl:r<16:=by omega
   have b1:=hexN_lt ((y:Int) / 16) (by omega) (by omega);have b2:=hexN_lt (r:Int) (by omega) (by omega);have F1:Fz wr (wr.alloc (.cells #[.int .u8 (hexN ((y:Int) / 16)),.int .u8 (hexN (r:Int))] 5)):=(Fr.refl wr).alloc _;have hsrc:Bytes (wr.alloc (.cells #[.int .u8 (hexN ((y:Int) / 16)),.int .u8 (hexN (r:Int))] 5)) (.slice (some ⟨wr.heap.size,0,none⟩) 2 2) (hex1 x):=by
    have h:=Vals.of_block (Blk.new wr 5 #[.int .u8 (hexN ((y:Int) / 16)),.int .u8 (hexN (r:Int))]) (by unfold maxLen;simp);have e:Lib.byteCells (hex1 x)=[.int .u8 (hexN ((y:Int) / 16)),.int .u8 (hexN (r:Int))]:=by
     rw[hx1]
     simp only[Lib.byteCells,List.map_cons,List.map_nil,u8 (hexN ((y:Int) / 16)).toNat (by omega),u8 (hexN (r:Int)).toNat (by omega)]
     rw[Int.toNat_of_nonneg (by omega),Int.toNat_of_nonneg (by omega)]
    show Vals _ _ (Lib.byteCells (hex1 x))
    rw[e]
    exact h
   obtain⟨v',w2,hrun,h1,F2,_⟩:=append_bytes (ownsRow_fr hown F1 (fun _ _ h=>h)) (some ⟨wr.heap.size,0,none⟩) 2 2 (hex1 x) hsrc (by omega) (Nat.le_trans F.size F1.size)
   obtain⟨a',m',c',rfl,rfl⟩:=own_shape h1
   have hbk:=(Vals.of_own hown).2;have HF2:=Hi ((F.trans F1).trans' F2 (fun i hi e=>by have:=(hbk i e).1;omega));have HRUN:=Hi hrun;have HOWN:=Hi h1;have r1:(0:Int)≤(j:Int):=by omega
   have r2:(j:Int)<(l.length:Int):=by omega
   clear hx hy hn hown F F1 F2 hsrc hrun h1 hbk hx1 hye hr hxl;go_wp2_with (first|(go_at_call 172;refine(digit_any _ (by omega) (by omega) _).mono ?_;rintro e w' ⟨rfl,rfl⟩)|(at_builtin;refine wpList_append_run (by rfl) (.tmp 16) (.tmp 23) 38 (by rfl) _ w2 (by exact HRUN.out) ?_))
   go_roundg (l.length-(j+1))
   case measure=>rw[HG.out];omega
   case rel=>exact⟨j+1,a',c',rfl,by omega,rfl,by go_num,by rw[HFT.out];exact HOWN.out,HF2.out⟩
  ·have hall:l.take j=l:=List.take_of_length_le (by omega)
   rw[hall]at hown
   have hs:=Hi (str_of (Vals.of_own hown).1);clear hown hall;have hs1:=hs.out;go_wp2_with fail
   go_ret;exact⟨rfl,F⟩
abbrev Pows (w:World):Prop:=Lib.TabIs Tryz.prog w "internal/strconv.uint64pow10" .u64 Lib.pow10Tab
theorem Pows.fr {S:Nat→Prop}{w w':World}(h:Pows w)(f:Fr S w w')(hS:¬S 1):Pows w':=by
 have hg:Tryz.prog.globalNamed "internal/strconv.uint64pow10" = some 1:=by kernel_rfl
 unfold Pows Lib.TabIs at *
 rw[←h]
 unfold World.var? at *
 rw[hg]at h ⊢
 simp only[Option.bind_some]at h ⊢
 have hlt:1<w.heap.size:=by
  rcases Nat.lt_or_ge 1 w.heap.size with h1|h1
  ·exact h1
  ·rw[Array.getElem?_eq_none h1]at h;cases h
 rw[f.block _ hlt hS]
theorem Pows.old {w w':World}(h:Pows w)(f:Fz w w'):Pows w':=h.fr f (fun h=>h)
theorem bldCheck_any {w:World}{base b:Nat}{l:List UInt8}(h:BldAt w base b l) :
  Calls Tryz.prog 132 #[pt b] w fun e w'=>e=.returned (.tuple #[])∧Lib.BuilderAt 149 5 base b (pt b) (Lib.byteCells l) w'∧Below base w w':=by
 have hsz:(Tryz.prog.info? 149).map (·.size)=some 2:=by kernel_rfl
 obtain⟨j,hj,hjs⟩:=Option.map_eq_some_iff.1 hsz
 rcases h with h|h
 ·have h0:=h.cell0
  have hsh:=h.shape;have hfz:=h.frozen0;have H:=Hi h;clear h hsz;have hl:liesAt Tryz.prog Tryz.prog.depth 149 (2 / Tryz.prog.cellsOf 149) 0 149 1=true:=by kernel_rfl
  have r1:=Lib.run_to_unsafe (P:=Tryz.prog) w ⟨b,0,none⟩ Tryz.underlying147 Tryz.underlying244 hj (by rw[hjs];decide) hsh (Nat.zero_lt_succ 1);have r3:=Lib.run_from_unsafe (P:=Tryz.prog) w ⟨b,0,none⟩ Tryz.underlying244 Tryz.underlying147 hj hsh hl;have r2:(callFunc 182 #[.pointer (some ⟨b,0,none⟩)]).run Tryz.prog w=.ok (.value (.pointer (some ⟨b,0,none⟩))) w:=by
   rw[run_callFunc_extern Tryz.func182 (by kernel_rfl) (by kernel_rfl) (by kernel_rfl) (e:=Extern.AbiNoEscape.same) (by kernel_rfl),Lib.run_noEscape]
   rfl
  go_enter Tryz.func132,Tryz.ntmps132
  go_wp2
  go_end0
  exact⟨rfl,H.out.used _,(Below.refl base w).setCell (p:=⟨b,0,none⟩) H.out.1 _⟩
 ·have h0:=h.cell0
  have H:=Hi h;have r1:=Lib.run_neq_ptr_same (P:=Tryz.prog) w (tp:=147) ⟨b,0,none⟩ Tryz.underlying147 hj;clear h hsz;go_enter Tryz.func132,Tryz.ntmps132
  go_wp2
  go_end0
  exact⟨rfl,H.out,Below.refl base w⟩
theorem info_u8:(Tryz.prog.info? 5).map (fun i=>(i.zero,i.size,i.bytes))=some (some (.int .u8 0),1,1):=by kernel_rfl
theorem bld_put {w w2:World}{base b:Nat}{l m:List UInt8}{v v':Value}(hB:base≤b)(hbk:w.heap[b]? = some (.cells #[pt b,v] 149 (0,0)))(hne:v.ownBlock≠some b)(F:Fr (fun k=>v.ownBlock=some k) w w2)(hown:w2.ownsRow base 5 1 v' (l++m).length (Lib.byteCells (l++m))) :
  w2.heap[b]? = some (.cells #[pt b,v] 149 (0,0))∧BldAt (w2.setCell ⟨b,1,none⟩ v') base b (l++m):=by
 have hb2:w2.heap[b]? = some (.cells #[pt b,v] 149 (0,0)):=(F.block b (Array.getElem?_eq_some_iff.1 hbk).1 hne).trans hbk;exact⟨hb2,.inr (Lib.BuilderAt.put (T:=149) (e:=5) hB hb2 (bs':=Lib.byteCells (l++m)) (by rw[byteCells_len];exact hown) (by decide))⟩
theorem bldByte_any {w:World}{base b:Nat}{l:List UInt8}(c:UInt8)(h:BldAt w base b l)(hl:l.length≤109951162777)(hbw:base≤w.heap.size) :
  Calls Tryz.prog 165 #[pt b,.int .u8 c.toNat] w fun e w'=>e=.returned .nilIface∧BldAt w' base b (l++[c])∧Below base w w':=by
 have HC:=Hi (bldCheck_any h);clear h;go_enter Tryz.func165,Tryz.ntmps165
 go_wp2_with fail
 refine HC.out.mono ?_;rintro e w1 ⟨rfl,⟨hB,v,hbk,hown,hne⟩,hb1⟩;rw[byteCells_len]at hown
 have c1:w1.cell? ⟨b,1,none⟩=some v:=by rw[Lib.cell_of_heap hbk];rfl
 have F1:Fz w1 (w1.alloc (.cells #[.int .u8 c.toNat] 5)):=(Fr.refl w1).alloc _;have hs1:=hb1.size;obtain⟨a',c',w2,hrun,hown2,F2,hk2⟩:=add_gen Tryz.underlying38 info_u8 rfl (by decide) (by decide) hown (by omega) F1 w1.heap.size [.int .u8 c.toNat] rfl (Blk.new w1 5 #[.int .u8 c.toNat]) (by simp[Value.oneCell']) (by omega)
 have hown2':w2.ownsRow base 5 1 (.slice a' (l.length+1) c') (l++[c]).length (Lib.byteCells (l++[c])):=by
  rw[byteCells_append,List.length_append]
  exact hown2
 obtain⟨hb2,hat⟩:=bld_put hB hbk hne F2 hown2'
 have HRUN:=Hi hrun;have HAT:=Hi hat;have d1:w2.cell? ⟨b,1,none⟩=some v:=by rw[Lib.cell_of_heap hb2];rfl
 have f1:w2.frozen? ⟨b,1,none⟩=false:=Lib.frozen_of_heap hb2 1;have hvb:=(Vals.of_own hown).2;have HBL:=Hi ((hb1.trans (Fr.below (B:=base) F2 (by omega) (fun i hi e=>by have:=(hvb i e).1;omega))).setCell (p:=⟨b,1,none⟩) hB (.slice a' (l.length+1) c'));clear HC hbk hown F1 F2 hrun hown2 hown2' hb2 hat hk2 hb1 hne hvb;go_wp2_with (at_builtin;refine wpList_append_run (by rfl) (.tmp 11) (.tmp 13) 38 (by rfl) _ w2 (by exact HRUN.out) ?_)
 go_ret;exact⟨rfl,HAT.out,HBL.out⟩
theorem bldString_any {w:World}{base b:Nat}{l:List UInt8}(m:List UInt8)(h:BldAt w base b l)(hl:l.length+m.length≤1099511627776)(hbw:base≤w.heap.size) :
  Calls Tryz.prog 91 #[pt b,str m] w fun e w'=>e=.returned (.tuple #[.int .i64 m.length,.nilIface])∧BldAt w' base b (l++m)∧Below base w w':=by
 have HC:=Hi (bldCheck_any h);obtain⟨i0,hi,hz0,hz1,hz2⟩:=info_parts info_u8
 have hms:(ByteArray.mk m.toArray).size=m.length:=by simp[ByteArray.size]
 clear h;go_enter Tryz.func91,Tryz.ntmps91
 go_wp2_with fail
 refine HC.out.mono ?_;rintro e w1 ⟨rfl,⟨hB,v,hbk,hown,hne⟩,hb1⟩;rw[byteCells_len]at hown
 have c1:w1.cell? ⟨b,1,none⟩=some v:=by rw[Lib.cell_of_heap hbk];rfl
 have hs1:=hb1.size;go_wp2_with (at_builtin;refine Lib.wpList_append_own_string _ (by rfl) (.tmp 12) (.tmp 13) 38 9 (by rfl) base 5 i0 Tryz.underlying38 Tryz.underlying9 hi hz0 hz1 hz2 _ _ _ (by rfl) hown ⟨m.toArray⟩ (by rfl) ?c3 ?c4 ?c5 ?_)
 case c3=>rw[hms];unfold maxLen;omega
 case c4=>rw[hms];omega
 case c5=>omega
 intro v' w2 hown2 hgrow _;have F2:=Fr.of_grown hgrow;have hsc:Lib.strCells ⟨m.toArray⟩=Lib.byteCells m:=rfl;have hown2':w2.ownsRow base 5 1 v' (l++m).length (Lib.byteCells (l++m)):=by
  rw[byteCells_append,List.length_append,←hsc,←hms]
  exact hown2
 obtain⟨hb2,hat⟩:=bld_put hB hbk hne F2 hown2'
 have HAT:=Hi hat;have d1:w2.cell? ⟨b,1,none⟩=some v:=by rw[Lib.cell_of_heap hb2];rfl
 have f1:w2.frozen? ⟨b,1,none⟩=false:=Lib.frozen_of_heap hb2 1;have hvb:=(Vals.of_own hown).2;have HBL:=Hi ((hb1.trans (Fr.below (B:=base) F2 (by omega) (fun i hi e=>by have:=(hvb i e).1;omega))).setCell (p:=⟨b,1,none⟩) hB v');have HMS:=Hi hms;obtain⟨ao,n',cap,rfl,hnn⟩:=own_shape hown2
 have HNN:=Hi hnn;clear HC hbk hown F2 hown2 hown2' hb2 hat hb1 hne hvb hgrow hsc hms hnn hi hz0 hz1 hz2;go_wp2_with fail
 go_ret2
 exact⟨by rw[←HMS.out];rfl,HAT.out,HBL.out⟩
theorem bldOut_any {w:World}{base b:Nat}{l:List UInt8}(h:BldAt w base b l)(hbw:base≤w.heap.size) :
  Calls Tryz.prog 92 #[pt b] w fun e w'=>e=.returned (str l)∧Below base w w':=
 Go.Proofs.Tryz.Builder_String_any base b l w h hbw
theorem itoa_any (n:Int)(h0:-9223372036854775808≤n)(h1:n≤9223372036854775807)(w:World)(hP:Pows w) :
  Calls Tryz.prog 166 #[.int .i64 n] w fun e w'=>e=.returned (str (Lib.itoa n))∧Fz w w':=by
 refine(Go.Proofs.Tryz.strconv_Itoa n h0 h1 w hP).mono ?_
 rintro e w' ⟨rfl,k,os,rfl⟩;exact⟨rfl,rfl,rfl,rfl,by simp[Sort.grow],fun i hi _=>by simp[Sort.grow,Array.getElem?_append_left hi]⟩
end Go.Proofs.YtehlipgmkinfbaaGreatDoor
