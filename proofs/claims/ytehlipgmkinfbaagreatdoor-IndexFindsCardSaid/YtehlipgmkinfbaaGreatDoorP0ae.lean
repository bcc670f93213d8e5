/-
  Merged by program: XNCmp XNAttrs XRd XNsRd XIxNum XIxOrd XIxSide XNText1 XNText2 XNSeq XNIter1.
-/
import Derived.Test.YtehlipgmkinfbaaGreatDoorP0ad
import Derived.Deep.Slices
import Derived.RangeFuncNested
import Derived.RangeFuncBound
import Derived.RangeFuncCalls
import Derived.RangeFuncLeaves
import Derived.Shelf.Abstract
import Derived.Shelf.RegionOpen
import Derived.OwnWalkIn
import Derived.TacticsInMore
import Derived.LoopNIn
import Derived.LoopIn
set_option linter.unusedSimpArgs false
set_option maxRecDepth 100000
set_option maxHeartbeats 8000000
namespace Go.Q
open Go Go.RowKit
def partS:List UInt8→List UInt8→Nat
 |x::a,y::b=>if x=y then partS a b+1 else 0
 |_,_=>0
theorem partS_le:∀ (a b:List UInt8),partS a b≤a.length∧partS a b≤b.length
 | [],b=>by simp[partS]
 |x::a,[]=>by simp[partS]
 |x::a,y::b=>by
  have:=partS_le a b;simp only[partS]
  split<;>simp only[List.length_cons]<;>omega
theorem partS_uniq:∀ (n:Nat) (a b:List UInt8),n≤a.length→n≤b.length→(∀ i,i<n→a[i]? = b[i]?)→(n<a.length→n<b.length→a[n]?≠b[n]?)→partS a b=n
 |0,[],b,_,_,_,_=>by simp[partS]
 |0,x::a,[],_,_,_,_=>by simp[partS]
 |0,x::a,y::b,_,_,_,h=>by
  have:=h (by simp) (by simp);simp only[List.getElem?_cons_zero,ne_eq,Option.some.injEq]at this
  simp only[partS,if_neg this]
 |n+1,[],b,h,_,_,_=>by simp at h
 |n+1,x::a,[],_,h,_,_=>by simp at h
 |n+1,x::a,y::b,h1,h2,h3,h4=>by
  have h0:=h3 0 (by omega);simp only[List.getElem?_cons_zero,Option.some.injEq]at h0
  simp only[List.length_cons]at h1 h2 h4
  have:=partS_uniq n a b (by omega) (by omega) (fun i hi=>by have:=h3 (i+1) (by omega);simpa only [List.getElem?_cons_succ] using this) (fun g1 g2=>by have:=h4 (by omega) (by omega);simpa only [List.getElem?_cons_succ] using this);simp only[partS,if_pos h0,this]
def cmpS:List UInt8→List UInt8→Int
 | [],[]=>0
 | [],_::_=>-1
 |_::_,[]=>1
 |x::a,y::b=>if x=y then cmpS a b else if x.toNat<y.toNat then -1 else 1
theorem cmpS_part:∀ (a b:List UInt8),cmpS a b=if partS a b<a.length∧partS a b<b.length then (if (a.getD (partS a b) 0).toNat<(b.getD (partS a b) 0).toNat then -1 else 1) else if partS a b<b.length then -1 else if partS a b<a.length then 1 else 0
 | [],[]=>by simp[partS,cmpS]
 | [],y::b=>by simp[partS,cmpS]
 |x::a,[]=>by simp[partS,cmpS]
 |x::a,y::b=>by
  have ih:=cmpS_part a b;simp only[partS,cmpS]
  by_cases h:x=y
  ·simp only[if_pos h,ih,List.length_cons,Nat.add_lt_add_iff_right,List.getD_cons_succ]
  ·simp[if_neg h]
structure Part where
 o:List Int
 b:List UInt8
def Attrs (w:World)(v:Value)(l:List Part):Prop:=
 ∃ a cap,v=.slice a l.length cap∧l.length≤cap∧cap≤maxLen∧(0<l.length→∃ b o,a=some ⟨b,o,none⟩∧∀ i p,l[i]? = some p→∃ x y,w.cell? ⟨b,o+2*i,none⟩=some x∧w.cell? ⟨b,o+2*i+1,none⟩=some y∧Vals w x (intCells p.o)∧Bytes w y p.b)
theorem Attrs.old {w w':World}{v:Value}{l:List Part}(h:Attrs w v l)(f:Fz w w'):Attrs w' v l:=by
 obtain⟨a,cap,rfl,h1,h2,h3⟩:=h
 refine⟨a,cap,rfl,h1,h2,fun h0=>?_⟩
 obtain⟨b,o,rfl,hy⟩:=h3 h0
 refine⟨b,o,rfl,fun i p hp=>?_⟩
 obtain⟨x,y,e1,e2,e3,e4⟩:=hy i p hp
 exact⟨x,y,f.cell e1 (fun h=>h),f.cell e2 (fun h=>h),e3.old f,e4.old f⟩
def NameAt (w:World)(v:Value)(l:List (List Part)):Prop:=
 ∃ a cap,v=.slice a l.length cap∧l.length≤cap∧cap≤maxLen∧(0<l.length→∃ b o,a=some ⟨b,o,none⟩∧∀ i r,l[i]? = some r→∃ x,w.cell? ⟨b,o+i,none⟩=some x∧Attrs w x r)
theorem NameAt.old {w w':World}{v:Value}{l:List (List Part)}(h:NameAt w v l)(f:Fz w w'):NameAt w' v l:=by
 obtain⟨a,cap,rfl,h1,h2,h3⟩:=h
 refine⟨a,cap,rfl,h1,h2,fun h0=>?_⟩
 obtain⟨b,o,rfl,hy⟩:=h3 h0
 refine⟨b,o,rfl,fun i p hp=>?_⟩
 obtain⟨x,e1,e2⟩:=hy i p hp
 exact⟨x,f.cell e1 (fun h=>h),e2.old f⟩
def stepsS (last:Option (List UInt8)):List Part→Option (List (List UInt8))
 | []=>some []
 |p::t=>
  match attrS p.o p.b with
  |none=>none
  |some x=>if (match last with|some y=>decide (0≤cmpS y x)|none=>false)=true then none else (stepsS (some x) t).map (x::·)
def rdnS (l:List Part):Option (List (List UInt8)):=if l.length=0∨16<l.length then none else stepsS none l
def fewB (l:List Part):Prop:=∀ p∈l,p.b.length≤10000000
theorem set2 {w:World}{z:Nat}{t:TypeId}{c1 c2:Value}(B:Blk w z t #[c1,c2])(v1 v2:Value):Blk ((w.setCell ⟨z,0,none⟩ v1).setCell ⟨z,1,none⟩ v2) z t #[v1,v2]∧Fr (fun k=>k=z) w ((w.setCell ⟨z,0,none⟩ v1).setCell ⟨z,1,none⟩ v2):=by
 refine⟨?_,?_⟩
 ·have:=(B.set 0 v1).set 1 v2
  simpa using this
 ·exact Fr.setCell (S:=fun k=>k=z) (p:=⟨z,1,none⟩) (Fr.setCell (S:=fun k=>k=z) (p:=⟨z,0,none⟩) (Fr.refl w) (fun _=>rfl) _) (fun _=>rfl) _
theorem two_of {α:Type}{l:List α}(h:l.length=2):∃ a b,l=[a,b]:=by
 match l,h with
 | [a,b],_=>exact⟨a,b,rfl⟩
theorem list_of {α:Type}{p:Nat→α→Prop}:∀ n,(∀ i,i<n→∃ a,p i a)→∃ l:List α,l.length=n∧∀ i a,l[i]? = some a→p i a
 |0,_=>⟨[],rfl,fun i a h=>by simp at h⟩
 |n+1,h=>by
  obtain⟨l,hl,hp⟩:=list_of n (fun i hi=>h i (by omega))
  obtain⟨a,ha⟩:=h n (by omega)
  refine⟨l++[a],by simp[hl],fun i b hb=>?_⟩
  rcases Nat.lt_or_ge i l.length with hi|hi
  ·rw[List.getElem?_append_left hi]at hb
   exact hp i b hb
  ·rw[List.getElem?_append_right hi]at hb
   have h0:i-l.length=0:=by
    have:=(List.getElem?_eq_some_iff.1 hb).1;simp at this
    omega
   rw[h0]at hb
   simp only[List.getElem?_cons_zero,Option.some.injEq]at hb
   subst hb;obtain rfl:i=n:=by omega
   exact ha
section
variable {α κ:Type}{lt:κ→κ→Bool}{key:α→κ}
def pairK (key:α→κ):Option α × Option α→Option κ
 |(some x,_)=>some (key x)
 |(none,some y)=>some (key y)
 |(none,none)=>none
def PairOf (key:α→κ)(l m:List α)(p:Option α × Option α):Prop:=
 (∃ x∈l,p=(some x,none)∧∀ z∈m,key z≠key x)∨(∃ y∈m,p=(none,some y)∧∀ z∈l,key z≠key y)∨∃ x∈l,∃ y∈m,p=(some x,some y)∧key x=key y
def upP (lt:κ→κ→Bool)(key:α→κ)(ps:List (Option α × Option α)):Prop:=ps.Pairwise (fun p q=>∃ a b,pairK key p=some a∧pairK key q=some b∧lt a b=true)
variable [DecidableEq κ]
def sideS (lt:κ→κ→Bool)(key:α→κ):List α→List α→List (Option α × Option α)
 | [],[]=>[]
 |x::l,[]=>(some x,none)::sideS lt key l []
 | [],y::m=>(none,some y)::sideS lt key [] m
 |x::l,y::m=>if lt (key x) (key y)=true then (some x,none)::sideS lt key l (y::m) else if key x=key y then (some x,some y)::sideS lt key l m else (none,some y)::sideS lt key (x::l) m
termination_by l m=>l.length+m.length
end
theorem kind_contains (k:Int):([12,19,20,22,26,30]:List Int).contains k=kindOk k:=by
 unfold kindOk;rw[Bool.eq_iff_iff]
 simp
def printB (n:Int):Bool:=(decide (97≤n∧n≤122)||decide (65≤n∧n≤90)||decide (48≤n∧n≤57))||(decide (0<n∧n<128)&&decide (0≤Lib.indexByte [32,39,40,41,43,44,45,46,47,58,61,63] (UInt8.ofNat n.toNat)))
theorem printB_small:∀ m:Fin 256,printB (m.val:Int)=printables.contains (UInt8.ofNat m.val):=by decide +kernel
theorem printB_eq (n:Int):printB n=mayS 19 n:=by
 simp only[mayS,show ¬((19:Int)=12) from by decide,if_false,if_true]
 by_cases h:0≤n∧n<256
 ·obtain⟨m,rfl⟩:∃ m:Nat,n=m:=⟨n.toNat,by omega⟩
  have:=printB_small ⟨m,by omega⟩;simp only at this
  rw[this,decide_eq_true h,Bool.true_and,Int.toNat_natCast]
 ·rw[decide_eq_false h,Bool.false_and]
  unfold printB;rw[decide_eq_false (by omega),decide_eq_false (by omega),decide_eq_false (by omega),decide_eq_false (by omega)]
  rfl
theorem Fr.putObj {S:Nat→Prop}{a w:World}(h:Fr S a w)(l:Nat)(hl:l<a.heap.size→S l)(o:Obj):Fr S a (w.putObj l o):=
 ⟨h.os,h.tape,h.output,by rw[World.putObj_size];exact h.size,fun k hk hS=>by
  rw[World.putObj_heap_other (fun e=>hS (by subst e;exact hl hk))]
  exact h.block k hk hS⟩
def Iter (P:Program)(gf:Nat)(lb:Array Value)(xs:List Int)(cb base:Nat)(w:World):Prop:=
 ∀ (l:Nat) (J Jx:List Int→World→Prop) (W:World),Fz w W→
  (∀ s A B,J s A→Fr (fun k=>k=cb) A B→J s B)→(∀ s A B,Jx s A→Fr (fun k=>k=cb) A B→Jx s B)→
  (∀ pre x rest W1,xs=pre++x::rest→J pre W1→YieldAt Fence.wide 1 P l #[.int .i64 x] W1 fun e W'=>
    (e=.returned (.bool true)∧J (pre++[x]) W'∧Fr (fun k=>base≤k∧k≠cb) W1 W')∨(e=.returned (.bool false)∧Jx (pre++[x]) W'))→
  J [] W→
  CallsIn Fence.wide 2 P gf (#[.func (.yield l) #[] #[]]++lb) W fun e W'=>(∃ v,e=.returned v)∧(J xs W'∨∃ pre,pre <+: xs∧Jx pre W')
def seqPost (I:List Int→World→Prop)(Ix:Code→List Int→World→Prop)(base cb:Nat)(E:Nat)(xs:List Int)(W:World):Exit→Act→World→Prop
 |.normal,_,W'=>Fr (fun k=>base≤k∧k≠cb∧k≠E∧k≠E+1) W W'∧I xs W'
 |.ret,_,W'=>Fr (fun k=>base≤k∧k≠cb∧k≠E∧k≠E+1) W W'∧Ix .ret xs W'
 |.exit id,_,W'=>Fr (fun k=>base≤k∧k≠cb∧k≠E∧k≠E+1) W W'∧Ix (.exit id) xs W'
 |.goto t,_,W'=>Fr (fun k=>base≤k∧k≠cb∧k≠E∧k≠E+1) W W'∧Ix (.goto t) xs W'
 |.panic _,_,_=>False
 |.outgrown,_,_=>False
variable {P:Program}
theorem range_law {g:Operand}{ps:Array Tmp}{assign body:Code}{Q:Exit→Act→World→Prop}{a:Act}{w:World}
  {gf:Nat}{lb:Array Value}(hg:a.eval g=.func (.func gf) #[] lb) (eg:∀ args w,(callFunc gf args).run P w=.ok (.enter gf args) w)
  {xs:List Int}{cb base:Nat}(hcb:cb<w.heap.size) (hbase:base≤w.heap.size) (hseq:Iter P gf lb xs cb base w) (hps:ps.size=1)
  (I:List Int→World→Prop) (Ix:Code→List Int→World→Prop)
  (hI:∀ s A B,I s A→Fr (fun k=>k=cb∨k=w.heap.size∨k=w.heap.size+1) A B→I s B)
  (hIx:∀ c s A B,Ix c s A→Fr (fun k=>k=cb∨k=w.heap.size∨k=w.heap.size+1) A B→Ix c s B) (h0:I [] w) (a₁:Int→Act)
  (hassign:∀ (l:Nat) (x:Int) (W:World) (K:Act→World→Prop),K (a₁ x) W→
    assign.wpIn (Fence.wide.inRound l) 1 P (Exit.then K (fun _ _ _=>False)) { tmps:=(ps.zip #[.int .i64 x]).foldl (fun t (p,v)=>t.setIfInBounds p v) a.tmps,defers:=[] } W)
  (hbody:∀ (l:Nat) (pre:List Int) (x:Int) (rest:List Int) (W:World),xs=pre++x::rest→I pre W→w.heap.size+2≤W.heap.size→body.wpIn (Fence.wide.inRound l) 1 P (seqPost I Ix base cb w.heap.size (pre++[x]) W) (a₁ x) W)
  (hdone:∀ (D:Nat) (W:World),D=w.heap.size→I xs W→W.heap[D]? = some (.deferred (some []))→Q .normal { a with defers:={ target:=.collected D,args:=#[] }::a.defers } W)
  (hstop:∀ (D:Nat) (c:Code) (pre:List Int) (W:World),D=w.heap.size→pre <+: xs→Ix c pre W→W.heap[D]? = some (.deferred (some []))→c.wpIn Fence.wide 3 P Q { a with defers:={ target:=.collected D,args:=#[] }::a.defers } W) :
  (Code.rangeFunc g ps assign body).wpIn Fence.wide 3 P Q a w:=by
 refine wpIn_rangeFunc ?_;intro fn hfn;obtain⟨E,hE⟩:∃ E,E=w.heap.size:=⟨_,rfl⟩
 obtain⟨rec,hrec⟩:∃ rec:LoopState→Option Code→Loop,rec=fun st pe=>{ state:=st,pending:=pe,fn,tmps:=a.tmps,params:=ps,assign,body,defers:=E }:=⟨_,rfl⟩
 obtain⟨W1,hW1⟩:∃ W1,W1=(w.alloc (.deferred (some []))).alloc (.loop (rec .ready none)):=⟨_,rfl⟩
 have F1:Fz w W1:=by rw[hW1];exact((Fr.refl w).alloc _).alloc _
 have hL1:W1.heap[E+1]? = some (.loop (rec .ready none)):=by
  rw[hW1,hE]
  have:=World.alloc_heap_new (w.alloc (.deferred (some []))) (.loop (rec .ready none));rwa[World.size_alloc]at this
 have hK1:W1.heap[E]? = some (.deferred (some [])):=by
  rw[hW1,hE]
  exact(Below.heap_alloc _ _ _ (by simp)).trans (World.alloc_heap_new w _)
 have hI1:I [] W1:=hI [] w W1 h0 (F1.mono (fun _ _ h=>h.elim));have keep:∀ {S:Nat→Prop}{A B:World}{k:Nat}{o:Obj},Fr S A B→A.heap[k]? = some o→¬S k→B.heap[k]? = some o:=fun f h hS=>
  (f.block _ (Array.getElem?_eq_some_iff.1 h).1 hS).trans h
 have hcbE:cb<E:=by rw[hE];exact hcb
 refine⟨E+1,[{ target:=.collected E,args:=#[] }],W1,{ target:=.fn (.func gf) lb,args:=#[.func (.yield (E+1)) #[] #[]] },W1,gf,
  #[.func (.yield (E+1)) #[] #[]]++lb,W1,?_,?_,fun _ _=>trivial,?_,fun _=>by decide,?_⟩
 ·rw[hW1,hrec,hE]
  exact run_enterLoop_outer _ _ _ _ _
 ·simp only[resolve,hg]
  simp[go_sem]
 ·simp[invoke,go_sem,eg]
 refine(hseq (E+1)
  (fun pre W=>I pre W∧W.heap[E+1]? = some (.loop (rec .ready none))∧W.heap[E]? = some (.deferred (some [])))
  (fun pre W=>∃ c,Ix c pre W∧W.heap[E+1]? = some (.loop (rec .done (some c)))∧W.heap[E]? = some (.deferred (some [])))
  W1 F1 ?_ ?_ ?_ ⟨hI1,hL1,hK1⟩).mono ?_
 ·rintro s A B ⟨hi,hl,hk⟩ f
  exact⟨hI s A B hi (f.mono (fun _ _ h=>.inl h)),keep f hl (by omega),keep f hk (by omega)⟩
 ·rintro s A B ⟨c,hi,hl,hk⟩ f
  exact⟨c,hIx c s A B hi (f.mono (fun _ _ h=>.inl h)),keep f hl (by omega),keep f hk (by omega)⟩
 ·rintro pre x rest W hxs ⟨hi,hl,hk⟩
  have hlt:E+1<W.heap.size:=(Array.getElem?_eq_some_iff.1 hl).1;have hy:=run_yield (P:=P) (args:=#[.int .i64 x]) hl (by rw[hrec];simp[hps]);rw[hrec]at hy
  refine⟨fn,_,assign,body,hy,roundIn_of_wpIn hfn (hassign _ x W _ ⟨_,run_beginRound hl (by rw[hrec]),?_⟩)⟩
  obtain⟨W2,hW2⟩:∃ W2,W2=W.putObj (E+1) (.loop { rec .ready none with state:=.busy }):=⟨_,rfl⟩
  have F2:Fr (fun k=>k=E+1) W W2:=by rw[hW2];exact Fr.putObj (S:=fun k=>k=E+1) (Fr.refl W) (E+1) (fun _=>rfl) _
  have hl2:W2.heap[E+1]? = some (.loop { rec .ready none with state:=.busy }):=by rw[hW2];exact World.putObj_heap_same hlt
  have hk2:W2.heap[E]? = some (.deferred (some [])):=keep F2 hk (by omega);rw[←hW2]
  refine wpIn_mono (hbody _ pre x rest W2 hxs (hI pre W W2 hi (F2.mono (fun _ _ h=>.inr (.inr (by rw[←hE];exact h))))) (by rw[←hE];have:=F2.size;omega)) ?_;have fin:∀ (jump:Option Code) (W3:World),Fr (fun k=>base≤k∧k≠cb∧k≠E∧k≠E+1) W2 W3→
    (Instr.endRound (E+1) jump).run P W3=.ok (.bool jump.isNone) (W3.putObj (E+1) (.loop (rec (if jump.isNone then .ready else .done) jump)))∧
    (W3.putObj (E+1) (.loop (rec (if jump.isNone then .ready else .done) jump))).heap[E+1]? = some (.loop (rec (if jump.isNone then .ready else .done) jump))∧
    (W3.putObj (E+1) (.loop (rec (if jump.isNone then .ready else .done) jump))).heap[E]? = some (.deferred (some []))∧
    Fr (fun k=>k=cb∨k=w.heap.size∨k=w.heap.size+1) W3 (W3.putObj (E+1) (.loop (rec (if jump.isNone then .ready else .done) jump)))∧
    Fr (fun k=>base≤k∧k≠cb) W (W3.putObj (E+1) (.loop (rec (if jump.isNone then .ready else .done) jump))):=fun jump W3 f3=>by
   have hl3:=keep f3 hl2 (by simp);have hk3:=keep f3 hk2 (by simp);have hr:=run_endRound (P:=P) jump hl3;have f4:Fr (fun k=>k=E+1) W3 (W3.putObj (E+1) (.loop (rec (if jump.isNone then .ready else .done) jump))):=Fr.putObj (S:=fun k=>k=E+1) (Fr.refl W3) (E+1) (fun _=>rfl) _;have g:∀ k,k=E+1→base≤k∧k≠cb:=fun k e=>by omega
   refine⟨?_,World.putObj_heap_same (Array.getElem?_eq_some_iff.1 hl3).1,keep f4 hk3 (by omega),f4.mono (fun _ _ h=>.inr (.inr (by rw[←hE];exact h))),?_⟩
   ·rw[hr,hrec]
   ·exact((F2.mono (fun k _ h=>g k h)).trans (f3.mono (fun _ _ h=>⟨h.1,h.2.1⟩))).trans (f4.mono (fun k _ h=>g k h))
  rw[←hE]
  rintro e a3 W3 hp;cases e with
  |normal=>
   obtain⟨f3,hi3⟩:=hp
   obtain⟨hr,hl4,hk4,f4,f5⟩:=fin none W3 f3
   exact⟨_,_,hr,.inl ⟨rfl,⟨hI _ _ _ hi3 f4,hl4,hk4⟩,f5⟩⟩
  |ret=>
   obtain⟨f3,hi3⟩:=hp
   obtain⟨hr,hl4,hk4,f4,f5⟩:=fin (some .ret) W3 f3
   exact⟨_,_,hr,.inr ⟨rfl,.ret,hIx _ _ _ _ hi3 f4,hl4,hk4⟩⟩
  |exit id=>
   obtain⟨f3,hi3⟩:=hp
   obtain⟨hr,hl4,hk4,f4,f5⟩:=fin (some (.exit id)) W3 f3
   exact⟨_,_,hr,.inr ⟨rfl,.exit id,hIx _ _ _ _ hi3 f4,hl4,hk4⟩⟩
  |goto t=>
   obtain⟨f3,hi3⟩:=hp
   obtain⟨hr,hl4,hk4,f4,f5⟩:=fin (some (.goto t)) W3 f3
   exact⟨_,_,hr,.inr ⟨rfl,.goto t,hIx _ _ _ _ hi3 f4,hl4,hk4⟩⟩
  |panic ch=>exact hp.elim
  |outgrown=>exact hp.elim
 ·rintro e W2 ⟨⟨v,rfl⟩,(⟨hi,hl,hk⟩|⟨pre,hpre,c,hi,hl,hk⟩)⟩
  ·have hr:=run_endLoop (P:=P) hl (by rw[hrec];simp)
   rw[hrec]at hr
   refine⟨none,_,hr,hdone E _ hE (hI _ _ _ hi ((Fr.refl W2).putObj _ (fun _=>.inr (.inr (by omega))) _)) ((World.putObj_heap_other (by omega)).trans hk)⟩
  ·have hr:=run_endLoop (P:=P) hl (by rw[hrec];simp)
   rw[hrec]at hr
   refine⟨some c,_,hr,hstop E c pre _ hE hpre (hIx c _ _ _ hi ((Fr.refl W2).putObj _ (fun _=>.inr (.inr (by omega))) _)) ((World.putObj_heap_other (by omega)).trans hk)⟩
def byteInts (l:List UInt8):List Int:=l.map (fun x=>(x.toNat:Int))
def idx (n:Nat):Value→Nat
 |.int _ k=>n-k.toNat
 |_=>0
end Go.Q
namespace Go.Proofs.YtehlipgmkinfbaaGreatDoor
open Go Go.RowKit Go.Q
theorem parted_any (x y:Value)(a b:List UInt8)(w:World)(hx:Bytes w x a)(hy:Bytes w y b)(ha:a.length≤1099511627776)(hb:b.length≤1099511627776) :
  Calls Tryz.prog 164 #[x,y] w fun e w'=>e=.returned (.int .i64 (partS a b))∧Fz w w':=by
 obtain⟨ax,cx,rfl,_,_,hx⟩:=Vals.form hx
 obtain⟨ay,cy,rfl,_,_,hy⟩:=Vals.form hy
 have HX:=Hi hx;have HY:=Hi hy;obtain⟨m,hm⟩:∃ m,m=min a.length b.length:=⟨_,rfl⟩
 have hmin:min (a.length:Int) (b.length:Int)=(m:Int):=by omega
 have HM:=Hi hm;clear hx hy hm;go_enter Tryz.func164,Tryz.ntmps164
 go_wp2_with fail
 all_goals
  go_loopg [13] m (fun g i wr=>∃ j:Nat,g=m-j∧j≤m∧i=.int .i64 j∧(∀ t,t<j→a[t]? = b[t]?)∧Fz w wr)
  case atStart=>exact⟨0,rfl,Nat.zero_le _,rfl,fun t ht=>absurd ht (Nat.not_lt_zero _),Fr.refl _⟩
  case round=>
   obtain⟨j,hg,hj,rfl,he,F⟩:=hrel
   have HG:=Hi hg;have HE:=Hi he;have hmm:=HM.out;clear hg he;by_cases hjm:j<m
   ·obtain⟨ba,oa,rfl,ga⟩:=HX.out (by omega)
    obtain⟨bb,ob,rfl,gb⟩:=HY.out (by omega)
    obtain⟨xa,hxa⟩:∃ x,a[j]? = some x:=⟨_,List.getElem?_eq_getElem (by omega)⟩
    obtain⟨xb,hxb⟩:∃ x,b[j]? = some x:=⟨_,List.getElem?_eq_getElem (by omega)⟩
    have ea:=F.cell (ga j xa hxa) (fun h=>h);have eb:=F.cell (gb j xb hxb) (fun h=>h);have HXA:=Hi hxa;have HXB:=Hi hxb;have q1:(j:Int)<(a.length:Int):=by omega
    have q2:(j:Int)<(b.length:Int):=by omega
    have q3:(0:Int)≤(j:Int):=by omega
    clear ga gb hxa hxb;by_cases hxx:xa=xb
    ·subst hxx
     go_wp2_with fail
     go_quiet (fail)
     go_wp2_with fail
     go_roundg (m-(j+1))
     case measure=>rw[HG.out];omega
     case rel=>
      refine⟨j+1,rfl,by omega,by go_num,fun t ht=>?_,F.drewN _⟩
      rcases Nat.lt_or_ge t j with h|h
      ·exact HE.out t h
      ·obtain rfl:t=j:=by omega
       rw[HXA.out,HXB.out]
    ·have q4:((xa.toNat:Int)==(xb.toNat:Int))=false:=beq_eq_false_iff_ne.2 (fun e=>hxx (UInt8.toNat_inj.1 (by omega)))
     go_wp2_with fail
     go_quiet (fail)
     go_wp2_with fail
     go_ret;have hp:=partS_uniq j a b (by omega) (by omega) HE.out (fun _ _=>by rw[HXA.out,HXB.out];intro e;exact hxx (Option.some.inj e));exact⟨by rw[hp];rfl,F.drewN _⟩
   ·obtain rfl:j=m:=by omega
    have hp:=partS_uniq j a b (by omega) (by omega) HE.out (fun h1 h2=>by omega);have HP:=Hi hp;clear hp;first|(have q:¬(j:Int)<(b.length:Int):=by omega)|(have q:¬(j:Int)<(a.length:Int):=by omega)|(have q:¬(j:Int)<((min a.length b.length:Nat):Int):=by omega)
    go_wp2_with fail
    go_ret;refine⟨?_,F⟩
    rw[HP.out]
    first|(rw[show (j:Int)=(b.length:Int) from by omega];rfl)|(rw[show (j:Int)=(a.length:Int) from by omega];rfl)|(rw[show (j:Int)=((min a.length b.length:Nat):Int) from by omega];rfl)
theorem compare_any (x y:Value)(a b:List UInt8)(w:World)(hx:Bytes w x a)(hy:Bytes w y b)(ha:a.length≤1099511627776)(hb:b.length≤1099511627776) :
  Calls Tryz.prog 126 #[x,y] w fun e w'=>e=.returned (.int .i64 (cmpS a b))∧Fz w w':=by
 have HP:=Hi (parted_any x y a b w hx hy ha hb);obtain⟨ax,cx,rfl,_,_,hx⟩:=Vals.form hx
 obtain⟨ay,cy,rfl,_,_,hy⟩:=Vals.form hy
 have HX:=Hi hx;have HY:=Hi hy;have hc:=cmpS_part a b;obtain⟨n,hn⟩:∃ n,n=partS a b:=⟨_,rfl⟩
 obtain⟨l1,l2⟩:=partS_le a b
 rw[←hn]at hc HP l1 l2
 clear hx hy hn;go_enter Tryz.func126,Tryz.ntmps126
 go_wp2_with fail
 refine HP.out.mono ?_;rintro e w1 ⟨rfl,F1⟩;have HF:=Hi F1;by_cases h1:n<a.length
 ·have q1:(n:Int)<(a.length:Int):=by omega
  by_cases h2:n<b.length
  ·have q2:(n:Int)<(b.length:Int):=by omega
   rw[if_pos ⟨h1,h2⟩]at hc
   obtain⟨ba,oa,rfl,ga⟩:=HX.out (by omega)
   obtain⟨bb,ob,rfl,gb⟩:=HY.out (by omega)
   obtain⟨xa,hxa⟩:∃ x,a[n]? = some x:=⟨_,List.getElem?_eq_getElem (by omega)⟩
   obtain⟨xb,hxb⟩:∃ x,b[n]? = some x:=⟨_,List.getElem?_eq_getElem (by omega)⟩
   have ea:=F1.cell (ga n xa hxa) (fun h=>h);have eb:=F1.cell (gb n xb hxb) (fun h=>h);rw[List.getD_eq_getElem?_getD,List.getD_eq_getElem?_getD,hxa,hxb,Option.getD_some,Option.getD_some]at hc
   have q3:(0:Int)≤(n:Int):=by omega
   by_cases h3:xa.toNat<xb.toNat
   ·rw[if_pos h3]at hc
    have HC:=Hi hc;have q4:(xa.toNat:Int)<(xb.toNat:Int):=by omega
    clear ga gb hxa hxb hc F1;go_wp2_with fail
    go_quiet (fail)
    go_wp2_with fail
    go_ret;exact⟨by rw[HC.out];rfl,HF.out.drewN _⟩
   ·rw[if_neg h3]at hc
    have HC:=Hi hc;have q4:¬(xa.toNat:Int)<(xb.toNat:Int):=by omega
    clear ga gb hxa hxb hc F1;go_wp2_with fail
    go_quiet (fail)
    go_wp2_with fail
    go_ret;exact⟨by rw[HC.out];rfl,HF.out.drewN _⟩
  ·have q2:¬(n:Int)<(b.length:Int):=by omega
   rw[if_neg (fun h=>h2 h.2),if_neg h2,if_pos h1]at hc
   have HC:=Hi hc;clear hc F1;go_wp2_with fail
   go_ret;exact⟨by rw[HC.out];rfl,HF.out⟩
 ·have q1:¬(n:Int)<(a.length:Int):=by omega
  rw[if_neg (fun h=>h1 h.1)]at hc
  by_cases h2:n<b.length
  ·have q2:(n:Int)<(b.length:Int):=by omega
   rw[if_pos h2]at hc
   have HC:=Hi hc;clear hc F1;go_wp2_with fail
   go_ret;exact⟨by rw[HC.out];rfl,HF.out⟩
  ·have q2:¬(n:Int)<(b.length:Int):=by omega
   rw[if_neg h2,if_neg h1]at hc
   have HC:=Hi hc;clear hc F1;go_wp2_with fail
   go_ret;exact⟨by rw[HC.out];rfl,HF.out⟩
def Row (w:World)(base:Nat)(v:Value)(ws:List (List UInt8)):Prop:=
 ∃ us,w.ownsRow base 38 1 v ws.length us∧us.length=ws.length∧∀ (i:Nat) (u:Value) (x:List UInt8),us[i]? = some u→ws[i]? = some x→BytesK w (fun k=>v.ownBlock=some k) u x
theorem Row.old {w w':World}{base:Nat}{v:Value}{ws:List (List UInt8)}(h:Row w base v ws)(f:Fz w w'):Row w' base v ws:=by
 obtain⟨us,h1,h2,h3⟩:=h
 exact⟨us,ownsRow_fr h1 f (fun _ _ h=>h),h2,fun i u l hu hl=>(h3 i u l hu hl).old f⟩
theorem Row.nil (w:World)(base:Nat):Row w base (.slice none 0 0) []:=⟨[],⟨rfl,.inl ⟨rfl,rfl⟩⟩,rfl,fun i u l hu=>by simp at hu⟩
theorem Row.add {w:World}{base:Nat}{v:Value}{ws:List (List UInt8)}(h:Row w base v ws)(g:Nat)(u:Value)(x:List UInt8)(B:Blk w g 38 #[u])(hu:Bytes w u x)(hou:∀ k,u.ownBlock=some k→v.ownBlock≠some k)(hsz:ws.length≤2000000000000)(hb:base≤w.heap.size) :
  ∃ a c w',(Builtin.append_ #[142,142] 142 #[v,.slice (some ⟨g,0,none⟩) 1 1]).run Tryz.prog w=.ok (.slice a (ws.length+1) c) w'∧Row w' base (.slice a (ws.length+1) c) (ws++[x])∧Fr (fun k=>v.ownBlock=some k) w w':=by
 obtain⟨us,h1,h2,h3⟩:=h
 obtain⟨a,c,rfl,hc⟩:=hu.form
 have hu1:Bytes w (.slice a x.length c) x:=hu;obtain⟨v',w',hr,h4,h5,h6⟩:=append_one h1 g _ B rfl hsz hb
 obtain⟨a',m',c',rfl,rfl⟩:=own_shape h4
 have hK:∀ k,(Value.slice a' (ws.length+1) c').ownBlock=some k→v.ownBlock=some k∨w.heap.size≤k:=fun k hk=>by
  rcases h6 with h|h
  ·exact .inl (by rw[←h];exact hk)
  ·rw[h]at hk
   cases hk
   exact .inr (Nat.le_refl _)
 refine⟨a',c',w',hr,⟨us++[.slice a x.length c],by simpa using h4,by simp[h2],fun i u y hi hy=>?_⟩,h5⟩
 have hlt:i<ws.length+1:=by have:=(List.getElem?_eq_some_iff.1 hy).1;simpa using this
 rcases Nat.lt_or_ge i ws.length with hi2|hi2
 ·rw[List.getElem?_append_left (by omega)]at hi hy
  exact(h3 i u y hi hy).fr h5 (fun _ _ h=>h) hK
 ·obtain rfl:i=ws.length:=by omega
  rw[List.getElem?_append_right (by omega)]at hi hy
  simp[h2]at hi
  simp at hy
  subst hi;subst hy;exact ValsK.fr (K:=fun k=>v.ownBlock=some k) ⟨hu1,fun _ k hk e=>hou k hk e⟩ h5 (fun _ _ h=>h) hK
theorem stepsS_split (l:List Part)(j:Nat)(p:Part)(hp:l[j]? = some p)(last:Option (List UInt8)):stepsS last (l.drop j)=match attrS p.o p.b with|none=>none|some x=>if (match last with|some y=>decide (0≤cmpS y x)|none=>false)=true then none else (stepsS (some x) (l.drop (j+1))).map (x::·):=by
 have:l.drop j=p::l.drop (j+1):=by
  obtain⟨h,rfl⟩:=List.getElem?_eq_some_iff.1 hp
  exact List.drop_eq_getElem_cons h
 rw[this]
 rfl
open Go Go.RowKit Go.Q Go.ChangeShapes Go.WideShapes Go.ChangeAt
section
variable {H:Type}{enc:TypeId × Value→H}{P:Program}{w:World}{base fuel:Nat}{spare:Nat→Bool}{held:Bool}{cs:List Value}{x:DataW H × List MemPlace}
theorem rd_slice {α:Type}{t e:TypeId}{c:Nat}(ht:P.underlying t=some (.slice e))(hc:P.cellsOf e=c)(hc0:0<c)(R:α→List Value→Prop)
  (hR:∀ n cs x,DataW.trod enc P w base spare held n e cs=some x→cs.length=c→∃ a,R a cs) (h:DataW.trod enc P w base spare held fuel t cs=some x) :
  ∃ (a:Option Addr) (cap:Nat) (l:List α),cs=[.slice a l.length cap]∧l.length≤cap∧cap≤maxLen∧(0<l.length→∃ b o,a=some ⟨b,o,none⟩∧∀ i u,l[i]? = some u→∃ ds,ds.length=c∧R u ds∧∀ j v,ds[j]? = some v→w.cell? ⟨b,o+c*i+j,none⟩=some v):=by
 rcases Go.Deep.open_slice ht h with ⟨rfl,_⟩|⟨a,len,cap,m,n,D,Pl,rfl,_,hl,hm,hmm,_,hx⟩
 ·exact⟨none,0,[],rfl,Nat.le_refl _,Nat.zero_le _,fun h=>absurd h (Nat.lt_irrefl _)⟩
 ·have hlm:len≤m:=by rw[hmm];split<;>omega
  obtain⟨l,hll,hp⟩:=list_of (p:=fun i u=>∃ ds:List Value,ds.length=c∧R u ds∧∀ j v,ds[j]? = some v→w.cell? ((a.add (i*c)).add j)=some v) len (fun i hi=>by
   obtain⟨ds,h1,h2⟩:=hx i (by omega)
   obtain⟨_,h3,h4⟩:=World.cells?_some h1
   rw[hc]at h1 h3 h4
   obtain⟨u,hu⟩:=hR n ds _ h2 h3
   refine⟨u,ds,h3,hu,fun j v hj=>?_⟩
   have hjl:j<c:=by rw[←h3];exact(List.getElem?_eq_some_iff.1 hj).1
   have:=h4 j hjl;rw[this,←hj])
  refine⟨some a,cap,l,by rw[hll],by omega,hm,fun h0=>?_⟩
  obtain⟨u,hu⟩:∃ u,l[0]? = some u:=⟨_,List.getElem?_eq_getElem h0⟩
  obtain⟨ds,hd1,_,hd2⟩:=hp 0 u hu
  obtain⟨v,hv⟩:∃ v,ds[0]? = some v:=⟨_,List.getElem?_eq_getElem (by omega)⟩
  have sp:a.spot=none:=by
   have:=World.cell?_spot (hd2 0 v hv);simpa [Addr.add] using this
  obtain⟨b,o,spt⟩:=a
  simp only at sp
  subst sp;refine⟨b,o,rfl,fun i u hu=>?_⟩
  obtain⟨ds,hd1,hd2,hd3⟩:=hp i u hu
  refine⟨ds,hd1,hd2,fun j v hj=>?_⟩
  have:=hd3 j v hj;rw[show ((⟨b,o,none⟩:Addr).add (i*c)).add j=⟨b,o+c*i+j,none⟩ from by unfold Addr.add;split<;>split<;>simp_all[Nat.mul_comm]]at this
  exact this
end
section
variable {H:Type}{enc:TypeId × Value→H}{w:World}{base fuel:Nat}{spare:Nat→Bool}{held:Bool}{cs:List Value}{x:DataW H × List MemPlace}
theorem rc3:Tryz.prog.cellsOf 3=1:=by kernel_rfl
theorem rc5:Tryz.prog.cellsOf 5=1:=by kernel_rfl
theorem rc103:Tryz.prog.cellsOf 103=1:=by kernel_rfl
theorem rc38:Tryz.prog.cellsOf 38=1:=by kernel_rfl
theorem rd_ints (h:DataW.trod enc Tryz.prog w base spare held fuel 103 cs=some x):∃ v l,cs=[v]∧Ints w v l:=by
 obtain⟨a,cap,l,rfl,h1,h2,h3⟩:=rd_slice Tryz.underlying103 rc3 (by decide) (fun (n:Int) ds=>ds=[.int .i64 n]) (fun n ds y hy _=>by
  obtain⟨k,e,-,-⟩:=DataW.trod_int Tryz.underlying3 hy
  exact⟨k,e⟩) h
 refine⟨_,l,rfl,a,cap,by rw[intCells_len],by rw[intCells_len];exact h1,h2,fun h0=>?_⟩
 rw[intCells_len]at h0
 obtain⟨b,o,rfl,hy⟩:=h3 h0
 refine⟨b,o,rfl,fun i u hu=>?_⟩
 unfold intCells at hu;rw[List.getElem?_map]at hu
 cases hl:l[i]? with
 |none=>rw[hl]at hu;cases hu
 |some n=>
  rw[hl]at hu
  simp only[Option.map_some,Option.some.injEq]at hu
  obtain⟨ds,_,rfl,hj⟩:=hy i n hl
  have:=hj 0 _ rfl;simp only[Nat.one_mul,Nat.add_zero]at this
  rw[this,hu]
theorem rd_bytes (h:DataW.trod enc Tryz.prog w base spare held fuel 38 cs=some x):∃ v l,cs=[v]∧Bytes w v l:=by
 obtain⟨a,cap,l,rfl,h1,h2,h3⟩:=rd_slice Tryz.underlying38 rc5 (by decide) (fun (n:UInt8) ds=>ds=[.int .u8 n.toNat]) (fun n ds y hy _=>by
  obtain⟨k,e,-,hw⟩:=DataW.trod_int Tryz.underlying5 hy
  have hb:=bounds_u8 hw;refine⟨UInt8.ofNat k.toNat,?_⟩
  rw[e,Go.Q.u8 k.toNat (by omega),show ((k.toNat:Nat):Int)=k from by omega]) h
 refine⟨_,l,rfl,a,cap,by rw[byteCells_len],by rw[byteCells_len];exact h1,h2,fun h0=>?_⟩
 rw[byteCells_len]at h0
 obtain⟨b,o,rfl,hy⟩:=h3 h0
 refine⟨b,o,rfl,fun i u hu=>?_⟩
 rw[byteCells_get]at hu
 cases hl:l[i]? with
 |none=>rw[hl]at hu;cases hu
 |some n=>
  rw[hl]at hu
  simp only[Option.map_some,Option.some.injEq]at hu
  obtain⟨ds,_,rfl,hj⟩:=hy i n hl
  have:=hj 0 _ rfl;simp only[Nat.one_mul,Nat.add_zero]at this
  rw[this,hu]
end
section
variable {H:Type}{enc:TypeId × Value→H}{w:World}{base fuel:Nat}{spare:Nat→Bool}{held:Bool}{cs:List Value}{x:DataW H × List MemPlace}
theorem rc106:Tryz.prog.cellsOf 106=2:=by kernel_rfl
theorem rc102:Tryz.prog.cellsOf 102=1:=by kernel_rfl
theorem rd_attr (h:DataW.trod enc Tryz.prog w base spare held fuel 106 cs=some x)(hl:cs.length=2):∃ p:Part,∃ v u,cs=[v,u]∧Ints w v p.o∧Bytes w u p.b:=by
 obtain⟨y0,y1,n,_,-,h0,h1⟩:=Go.ChangeShapes.trod_struct2 Tryz.underlying106 h
 obtain⟨c0,c1,rfl⟩:=two_of hl
 have g0:DataW.trod enc Tryz.prog w base spare held n 103 [c0]=some y0:=by rw[←show ([c0,c1].drop 0).take (Tryz.prog.cellsOf 103)=[c0] from by rw[rc103];rfl];exact h0
 have g1:DataW.trod enc Tryz.prog w base spare held n 38 [c1]=some y1:=by rw[←show ([c0,c1].drop 1).take (Tryz.prog.cellsOf 38)=[c1] from by rw[rc38];rfl];exact h1
 obtain⟨v,o,e0,ho⟩:=rd_ints g0
 obtain⟨u,b,e1,hb⟩:=rd_bytes g1
 simp only[List.cons.injEq,and_true]at e0 e1
 subst e0;subst e1;exact⟨⟨o,b⟩,c0,c1,rfl,ho,hb⟩
theorem rd_attrs (h:DataW.trod enc Tryz.prog w base spare held fuel 102 cs=some x):∃ v l,cs=[v]∧Attrs w v l:=by
 obtain⟨a,cap,l,rfl,h1,h2,h3⟩:=rd_slice Tryz.underlying102 rc106 (by decide) (fun (p:Part) ds=>∃ v u,ds=[v,u]∧Ints w v p.o∧Bytes w u p.b) (fun n ds y hy hl=>rd_attr hy hl) h
 refine⟨_,l,rfl,a,cap,rfl,h1,h2,fun h0=>?_⟩
 obtain⟨b,o,rfl,hy⟩:=h3 h0
 refine⟨b,o,rfl,fun i p hp=>?_⟩
 obtain⟨ds,_,⟨v,u,rfl,hv,hu⟩,hj⟩:=hy i p hp
 exact⟨v,u,hj 0 _ rfl,hj 1 _ rfl,hv,hu⟩
theorem rd_name (h:DataW.trod enc Tryz.prog w base spare held fuel 53 cs=some x):∃ v n,cs=[v]∧NameAt w v n:=by
 obtain⟨a,cap,l,rfl,h1,h2,h3⟩:=rd_slice Tryz.underlying53 rc102 (by decide) (fun (r:List Part) ds=>∃ v,ds=[v]∧Attrs w v r) (fun n ds y hy _=>by
  obtain⟨v,l,e,hl⟩:=rd_attrs hy
  exact⟨l,v,e,hl⟩) h
 refine⟨_,l,rfl,a,cap,rfl,h1,h2,fun h0=>?_⟩
 obtain⟨b,o,rfl,hy⟩:=h3 h0
 refine⟨b,o,rfl,fun i r hr=>?_⟩
 obtain⟨ds,_,⟨v,rfl,hv⟩,hj⟩:=hy i r hr
 have:=hj 0 _ rfl;rw[Nat.one_mul,Nat.add_zero]at this
 exact⟨v,this,hv⟩
end
end Go.Proofs.YtehlipgmkinfbaaGreatDoor
namespace Go.Q
open Go
def trimS:List UInt8→List UInt8
 | []=>[]
 |x::t=>if x=0 then trimS t else x::t
def natOf:List UInt8→Nat
 | []=>0
 |x::t=>x.toNat * 256 ^ t.length+natOf t
theorem trimS_le:∀ l:List UInt8,(trimS l).length≤l.length
 | []=>Nat.le_refl _
 |x::t=>by
  unfold trimS;split
  ·have:=trimS_le t
   rw[List.length_cons];omega
  ·exact Nat.le_refl _
theorem natOf_trim:∀ l:List UInt8,natOf (trimS l)=natOf l
 | []=>rfl
 |x::t=>by
  unfold trimS;split
  ·rename_i h
   rw[natOf_trim t,h]
   simp[natOf]
  ·rfl
theorem natOf_lt:∀ l:List UInt8,natOf l<256 ^ l.length
 | []=>by simp[natOf]
 |x::t=>by
  have h:=natOf_lt t;have hx:x.toNat≤255:=by have:=x.toNat_lt;omega
  have:x.toNat * 256 ^ t.length≤255*256 ^ t.length:=Nat.mul_le_mul_right _ hx;simp only[natOf,List.length_cons,Nat.pow_succ]
  omega
def Lean0:List UInt8→Prop
 | []=>True
 |x::_=>x≠0
theorem trim_lean:∀ l:List UInt8,Lean0 (trimS l)
 | []=>True.intro
 |x::t=>by
  unfold trimS;split
  ·exact trim_lean t
  ·rename_i h;exact h
theorem trim_of_lean {l:List UInt8}(h:Lean0 l):trimS l=l:=by
 cases l with
 |nil=>rfl
 |cons x t=>unfold trimS;rw[if_neg h]
theorem natOf_ge {l:List UInt8}(h:Lean0 l)(hl:l≠[]):256 ^ (l.length-1)≤natOf l:=by
 cases l with
 |nil=>exact absurd rfl hl
 |cons x t=>
  have hx:0<x.toNat:=by
   rcases Nat.eq_zero_or_pos x.toNat with e|e
   ·exact absurd (UInt8.toNat_inj.1 (by simpa using e)) h
   ·exact e
  have:1*256 ^ t.length≤x.toNat * 256 ^ t.length:=Nat.mul_le_mul_right _ hx;simp only[natOf,List.length_cons,Nat.add_sub_cancel]
  omega
theorem natOf_nil {l:List UInt8}(h:Lean0 l):natOf l=0↔l=[]:=by
 constructor
 ·intro e
  rcases Classical.em (l=[]) with e2|e2
  ·exact e2
  ·have:=natOf_ge h e2
   have:=Nat.pow_pos (n:=l.length-1) (show 0<256 by omega);omega
 ·rintro rfl;rfl
def cmpZ (x y:Int):Int:=if x<y then -1 else if x=y then 0 else 1
theorem cmpS_nat:∀ {a b:List UInt8},a.length=b.length→cmpS a b=cmpZ (natOf a) (natOf b)
 | [],[],_=>rfl
 |x::a,y::b,h=>by
  have h':a.length=b.length:=by simpa using h
  have ha:=natOf_lt a;have hb:=natOf_lt b;rw[h']at ha
  simp only[cmpS,natOf,h']
  by_cases e:x=y
  ·rw[if_pos e,cmpS_nat h',e]
   unfold cmpZ;generalize y.toNat * 256 ^ b.length=P;repeat' split
   all_goals first|rfl|omega
  ·rw[if_neg e]
   have hne:x.toNat≠y.toNat:=fun q=>e (UInt8.toNat_inj.1 q)
   unfold cmpZ;generalize hp:256 ^ b.length=P at *
   by_cases h1:x.toNat<y.toNat
   ·rw[if_pos h1]
    have:(x.toNat+1)*P≤y.toNat * P:=Nat.mul_le_mul_right _ h1;rw[Nat.add_mul]at this
    generalize x.toNat * P=p1 at *
    generalize y.toNat * P=p2 at *
    repeat' split
    all_goals first|rfl|omega
   ·rw[if_neg h1]
    have:(y.toNat+1)*P≤x.toNat * P:=Nat.mul_le_mul_right _ (by omega);rw[Nat.add_mul]at this
    generalize x.toNat * P=p1 at *
    generalize y.toNat * P=p2 at *
    repeat' split
    all_goals first|rfl|omega
def sizesS (a b:List UInt8):Int:=if a.length=b.length then cmpS a b else if a.length<b.length then -1 else 1
theorem sizes_nat {a b:List UInt8}(ha:Lean0 a)(hb:Lean0 b):sizesS a b=cmpZ (natOf a) (natOf b):=by
 unfold sizesS;by_cases h:a.length=b.length
 ·rw[if_pos h,cmpS_nat h]
 ·rw[if_neg h]
  have key:∀ {a b:List UInt8},Lean0 b→a.length<b.length→natOf a<natOf b:=fun {a b} hb h=>by
   have h1:=natOf_lt a;have h2:=natOf_ge hb (fun e=>by rw[e]at h;simp at h);have h3:256 ^ a.length≤256 ^ (b.length-1):=Nat.pow_le_pow_right (by omega) (by omega);omega
  unfold cmpZ;by_cases h1:a.length<b.length
  ·have:=key hb h1
   rw[if_pos h1,if_pos (by omega)]
  ·have:=key ha (show b.length<a.length by omega)
   rw[if_neg h1,if_neg (by omega),if_neg (by omega)]
structure NumT where
 below:Bool
 size:List UInt8
deriving DecidableEq
def madeS (n:NumT):NumT:=⟨n.below&&decide (0<(trimS n.size).length),trimS n.size⟩
def numV (n:NumT):Int:=if n.below then -(natOf n.size:Int) else natOf n.size
theorem numV_made (n:NumT):numV (madeS n)=numV n:=by
 unfold numV madeS;simp only[natOf_trim]
 cases hb:n.below with
 |false=>simp
 |true=>
  by_cases h:0<(trimS n.size).length
  ·simp[h]
  ·have e:trimS n.size=[]:=List.length_eq_zero_iff.1 (by omega)
   have:natOf n.size=0:=by rw[←natOf_trim,e];rfl
   simp[h,this]
theorem made_made (n:NumT):madeS (madeS n)=madeS n:=by
 unfold madeS;simp only[trim_of_lean (trim_lean n.size)]
 cases n.below<;>simp
def numC (a b:NumT):Int:=cmpZ (numV a) (numV b)
theorem numC_made (a b:NumT):numC a b=if (madeS a).below&&!(madeS b).below then -1 else if !(madeS a).below&&(madeS b).below then 1 else if (madeS a).below then sizesS (madeS b).size (madeS a).size else sizesS (madeS a).size (madeS b).size:=by
 unfold numC;rw[←numV_made a,←numV_made b]
 have key:∀ n:NumT,Lean0 (madeS n).size∧((madeS n).below=true→0<natOf (madeS n).size):=fun n=>⟨trim_lean _,fun e=>by
  rcases Nat.eq_zero_or_pos (natOf (madeS n).size) with h0|h0
  ·have e2:trimS n.size=[]:=(natOf_nil (trim_lean _)).1 h0
   simp only[madeS,Bool.and_eq_true,decide_eq_true_eq]at e
   rw[e2]at e
   simp at e
  ·exact h0⟩
 obtain⟨la,ba⟩:=key a
 obtain⟨lb,bb⟩:=key b
 rw[sizes_nat la lb,sizes_nat lb la]
 unfold numV cmpZ;generalize (madeS a).below=p at *
 generalize (madeS b).below=q at *
 generalize natOf (madeS a).size=x at *
 generalize natOf (madeS b).size=y at *
 clear la lb key;cases p<;>cases q<;>simp only[Bool.not_true,Bool.not_false,Bool.and_true,Bool.and_false,Bool.and_self,if_true,if_false,Bool.false_eq_true,true_implies,false_implies] at *
 all_goals
  repeat' split
  all_goals first|rfl|omega
structure Ord3 {κ:Type}(lt:κ→κ→Bool):Prop where
 irr:∀ a,lt a a=false
 tr:∀ a b c,lt a b=true→lt b c=true→lt a c=true
 tot:∀ a b,lt a b=true∨a=b∨lt b a=true
section
variable {α κ:Type}{lt:κ→κ→Bool}{key:α→κ}
theorem Ord3.asym (h:Ord3 lt){a b:κ}(h1:lt a b=true):lt b a=false:=by
 cases e:lt b a with
 |false=>rfl
 |true=>have:=h.tr a b a h1 e;rw[h.irr]at this;cases this
theorem Ord3.ne (h:Ord3 lt){a b:κ}(h1:lt a b=true):a≠b:=fun e=>by rw[e,h.irr]at h1;cases h1
def Up (lt:κ→κ→Bool)(key:α→κ)(l:List α):Prop:=l.Pairwise (fun x y=>lt (key x) (key y)=true)
theorem up_unique (ho:Ord3 lt):∀ {a b:List α},Up lt key a→Up lt key b→(∀ x,x∈a↔x∈b)→a=b
 | [],[],_,_,_=>rfl
 | [],y::b,_,_,h=>by have:=(h y).2 (by simp);cases this
 |x::a,[],_,_,h=>by have:=(h x).1 (by simp);cases this
 |x::a,y::b,ha,hb,h=>by
  have ha':=List.pairwise_cons.1 ha;have hb':=List.pairwise_cons.1 hb;have hxy:x=y:=by
   rcases List.mem_cons.1 ((h x).1 (by simp)) with e|e
   ·exact e
   rcases List.mem_cons.1 ((h y).2 (by simp)) with e2|e2
   ·exact e2.symm
   have h1:=hb'.1 x e;have h2:=ha'.1 y e2;rw[ho.asym h1]at h2
   cases h2
  subst hxy;have hn:∀ {l:List α},(∀ z∈l,lt (key x) (key z)=true)→x ∉ l:=fun hl hm=>by
   have:=hl x hm;rw[ho.irr]at this
   cases this
  rw[up_unique ho ha'.2 hb'.2 (fun z=>?_)]
  have:=h z;simp only[List.mem_cons]at this
  constructor
  ·intro hz
   rcases this.1 (.inr hz) with e|e
   ·subst e;exact absurd hz (hn ha'.1)
   ·exact e
  ·intro hz
   rcases this.2 (.inr hz) with e|e
   ·subst e;exact absurd hz (hn hb'.1)
   ·exact e
def freeL (key:α→κ)(out l:List α):Prop:=l.Pairwise (fun x y=>key x≠key y)∧∀ x∈out,∀ y∈l,key x≠key y
theorem free_of_up (ho:Ord3 lt){l:List α}(h:Up lt key l):freeL key [] l:=⟨h.imp (fun e=>ho.ne e),fun x hx=>by cases hx⟩
theorem free_perm {a b:List α}(hp:a.Perm b)(h:freeL key [] a):freeL key [] b:=⟨hp.pairwise h.1 (fun e q=>e q.symm),fun x hx=>by cases hx⟩
variable [DecidableEq κ]
def Upw (lt:κ→κ→Bool)(key:α→κ)(l:List α):Prop:=l.Pairwise (fun x y=>lt (key y) (key x)=false)
def apartB (key:α→κ):List α→Bool
 |x::y::t=>decide (key x≠key y)&&apartB key (y::t)
 |_=>true
theorem up_of_apart (ho:Ord3 lt):∀ {l:List α},Upw lt key l→apartB key l=true→Up lt key l
 | [],_,_=>List.Pairwise.nil
 | [x],_,_=>by simp[Up]
 |x::y::t,hw,ha=>by
  unfold apartB at ha;simp only[Bool.and_eq_true,decide_eq_true_eq]at ha
  have hw':=List.pairwise_cons.1 hw;have ih:=up_of_apart ho hw'.2 ha.2;have hxy:lt (key x) (key y)=true:=by
   rcases ho.tot (key x) (key y) with e|e|e
   ·exact e
   ·exact absurd e ha.1
   ·have:=hw'.1 y (by simp);rw[this]at e;cases e
  refine List.pairwise_cons.2 ⟨fun z hz=>?_,ih⟩;rcases List.mem_cons.1 hz with e|e
  ·rw[e];exact hxy
  ·exact ho.tr _ _ _ hxy ((List.pairwise_cons.1 ih).1 z e)
theorem up_apart (ho:Ord3 lt):∀ {l:List α},Up lt key l→apartB key l=true
 | [],_=>rfl
 | [_],_=>rfl
 |x::y::t,h=>by
  have h':=List.pairwise_cons.1 h;unfold apartB;rw[up_apart ho h'.2,decide_eq_true (ho.ne (h'.1 y (by simp)))]
  rfl
def insS (lt:κ→κ→Bool)(key:α→κ):List α→α→Option (List α)
 | [],r=>some [r]
 |x::t,r=>if lt (key x) (key r)=true then (insS lt key t r).map (x::·) else if key x=key r then none else some (r::x::t)
theorem ins_none (ho:Ord3 lt):∀ {l:List α}{r:α},Up lt key l→(insS lt key l r=none↔∃ x∈l,key x=key r)
 | [],r,_=>by simp[insS]
 |x::t,r,h=>by
  have h':=List.pairwise_cons.1 h;unfold insS;by_cases h1:lt (key x) (key r)=true
  ·rw[if_pos h1,Option.map_eq_none_iff,ins_none ho h'.2]
   constructor
   ·rintro ⟨y,hy,e⟩;exact⟨y,by simp[hy],e⟩
   ·rintro ⟨y,hy,e⟩
    rcases List.mem_cons.1 hy with q|q
    ·rw[q]at e;exact absurd e (ho.ne h1)
    ·exact⟨y,q,e⟩
  ·rw[if_neg h1]
   by_cases h2:key x=key r
   ·rw[if_pos h2]
    exact⟨fun _=>⟨x,by simp,h2⟩,fun _=>rfl⟩
   ·rw[if_neg h2]
    constructor
    ·intro e;cases e
    ·rintro ⟨y,hy,e⟩
     have hrx:lt (key r) (key x)=true:=by
      rcases ho.tot (key x) (key r) with q|q|q
      ·exact absurd q h1
      ·exact absurd q h2
      ·exact q
     rcases List.mem_cons.1 hy with q|q
     ·rw[q]at e;exact absurd e h2
     ·have:=ho.tr _ _ _ hrx (h'.1 y q)
      exact absurd e.symm (ho.ne this)
theorem ins_some (ho:Ord3 lt):∀ {l:List α}{r:α}{o:List α},Up lt key l→insS lt key l r=some o→Up lt key o∧∀ y,y∈o↔y=r∨y∈l
 | [],r,o,_,e=>by
  simp only[insS,Option.some.injEq]at e
  subst e;exact⟨by simp[Up],fun y=>by simp⟩
 |x::t,r,o,h,e=>by
  have h':=List.pairwise_cons.1 h;unfold insS at e;by_cases h1:lt (key x) (key r)=true
  ·rw[if_pos h1]at e
   obtain⟨o',e',rfl⟩:=Option.map_eq_some_iff.1 e
   obtain⟨hu,hm⟩:=ins_some ho h'.2 e'
   refine⟨List.pairwise_cons.2 ⟨fun y hy=>?_,hu⟩,fun y=>?_⟩
   ·rcases (hm y).1 hy with q|q
    ·rw[q];exact h1
    ·exact h'.1 y q
   ·simp only[List.mem_cons,hm y]
    constructor
    ·rintro (q|q|q)
     ·exact .inr (.inl q)
     ·exact .inl q
     ·exact .inr (.inr q)
    ·rintro (q|q|q)
     ·exact .inr (.inl q)
     ·exact .inl q
     ·exact .inr (.inr q)
  ·rw[if_neg h1]at e
   by_cases h2:key x=key r
   ·rw[if_pos h2]at e;cases e
   ·rw[if_neg h2]at e
    simp only[Option.some.injEq]at e
    subst e;have hrx:lt (key r) (key x)=true:=by
     rcases ho.tot (key x) (key r) with q|q|q
     ·exact absurd q h1
     ·exact absurd q h2
     ·exact q
    exact⟨List.pairwise_cons.2 ⟨fun y hy=>by
     rcases List.mem_cons.1 hy with q|q
     ·rw[q];exact hrx
     ·exact ho.tr _ _ _ hrx (h'.1 y q),h⟩,fun y=>by simp⟩
def newS (lt:κ→κ→Bool)(key:α→κ)(out:List α):List α→Option (List α)
 | []=>some out
 |r::t=>match insS lt key out r with
  |none=>none
  |some o=>newS lt key o t
theorem new_some (ho:Ord3 lt):∀ {l out o:List α},Up lt key out→newS lt key out l=some o→Up lt key o∧(∀ y,y∈o↔y∈out∨y∈l)
 | [],out,o,h,e=>by
  simp only[newS,Option.some.injEq]at e
  subst e;exact⟨h,fun y=>by simp⟩
 |r::t,out,o,h,e=>by
  simp only[newS]at e
  split at e
  ·cases e
  ·rename_i o1 h1
   obtain⟨hu,hm⟩:=ins_some ho h h1
   obtain⟨hu2,hm2⟩:=new_some ho hu e
   refine⟨hu2,fun y=>?_⟩
   rw[hm2,hm,List.mem_cons]
   constructor
   ·rintro ((q|q)|q)
    ·exact .inr (.inl q)
    ·exact .inl q
    ·exact .inr (.inr q)
   ·rintro (q|q|q)
    ·exact .inl (.inr q)
    ·exact .inl (.inl q)
    ·exact .inr q
theorem new_isSome (ho:Ord3 lt):∀ {l out:List α},Up lt key out→((∃ o,newS lt key out l=some o)↔freeL key out l)
 | [],out,h=>by simp[newS,freeL]
 |r::t,out,h=>by
  simp only[newS]
  cases h1:insS lt key out r with
  |none=>
   simp only[reduceCtorEq,exists_false,false_iff]
   rintro ⟨-,hf⟩;obtain⟨x,hx,e⟩:=(ins_none ho h).1 h1
   exact hf x hx r (by simp) e
  |some o=>
   obtain⟨hu,hm⟩:=ins_some ho h h1
   simp only
   rw[new_isSome ho hu]
   have hr:∀ x∈out,key x≠key r:=fun x hx e=>by
    have:=(ins_none ho h).2 ⟨x,hx,e⟩;rw[h1]at this
    cases this
   unfold freeL;rw[List.pairwise_cons]
   constructor
   ·rintro ⟨a,b⟩
    refine⟨⟨fun y hy=>b r ((hm r).2 (.inl rfl)) y hy,a⟩,fun x hx y hy=>?_⟩
    rcases List.mem_cons.1 hy with q|q
    ·rw[q];exact hr x hx
    ·exact b x ((hm x).2 (.inr hx)) y q
   ·rintro ⟨⟨a,b⟩,c⟩
    refine⟨b,fun x hx y hy=>?_⟩
    rcases (hm x).1 hx with q|q
    ·rw[q];exact a y hy
    ·exact c x q y (by simp[hy])
theorem new_snoc (r:α):∀ (l out:List α),newS lt key out (l++[r])=(newS lt key out l).bind (fun o=>insS lt key o r)
 | [],out=>by
  simp only[List.nil_append,newS,Option.bind_some]
  cases insS lt key out r<;>rfl
 |x::t,out=>by
  simp only[List.cons_append,newS]
  cases insS lt key out x with
  |none=>rfl
  |some o=>exact new_snoc r t o
theorem new_sorted (ho:Ord3 lt){l s:List α}(hp:s.Perm l)(hs:Upw lt key s):newS lt key [] l=if apartB key s=true then some s else none:=by
 by_cases ha:apartB key s=true
 ·rw[if_pos ha]
  have hu:=up_of_apart ho hs ha;obtain⟨o,hn⟩:=(new_isSome ho (lt:=lt) (key:=key) (out:=[]) (l:=l) List.Pairwise.nil).2 (free_perm hp (free_of_up ho hu))
  obtain⟨h1,h2⟩:=new_some ho List.Pairwise.nil hn
  rw[hn,up_unique ho h1 hu (fun x=>by rw[h2];simp[hp.mem_iff])]
 ·rw[if_neg ha]
  cases hn:newS lt key [] l with
  |none=>rfl
  |some o=>
   exfalso
   have hf:=(new_isSome ho (lt:=lt) (key:=key) (out:=[]) (l:=l) List.Pairwise.nil).1 ⟨o,hn⟩;have hf2:=(free_perm hp.symm hf).1;apply ha
   clear hn hf ha hp hs;induction s with
   |nil=>rfl
   |cons x t ih=>
    have h':=List.pairwise_cons.1 hf2;cases t with
    |nil=>rfl
    |cons y t=>
     unfold apartB;rw[ih h'.2,decide_eq_true (h'.1 y (by simp))]
     rfl
theorem new_up (ho:Ord3 lt){l:List α}(h:Up lt key l):newS lt key [] l=some l:=by
 rw[new_sorted ho (List.Perm.refl l) (h.imp (fun e=>ho.asym e)),if_pos (up_apart ho h)]
end
theorem ins_map {α β κ:Type}[DecidableEq κ]{lt:κ→κ→Bool}{key:α→κ}{key':β→κ}(f:α→β)(hf:∀ x,key' (f x)=key x):∀ (l:List α) (r:α),insS lt key' (l.map f) (f r)=(insS lt key l r).map (List.map f)
 | [],r=>rfl
 |x::t,r=>by
  simp only[List.map_cons,insS,hf]
  split
  ·rw[ins_map f hf t r]
   cases insS lt key t r<;>rfl
  ·split<;>rfl
theorem new_map {α β κ:Type}[DecidableEq κ]{lt:κ→κ→Bool}{key:α→κ}{key':β→κ}(f:α→β)(hf:∀ x,key' (f x)=key x):∀ (l out:List α),newS lt key' (out.map f) (l.map f)=(newS lt key out l).map (List.map f)
 | [],out=>rfl
 |r::t,out=>by
  simp only[List.map_cons,newS,ins_map (lt:=lt) f hf out r]
  cases h:insS lt key out r with
  |none=>rfl
  |some o=>exact new_map f hf t o
end Go.Q
namespace Go.Proofs.YtehlipgmkinfbaaGreatDoor
open Go Go.RowKit Go.Q
theorem known_any (k:Int)(w:World) :
  Calls Tryz.prog 187 #[.int .i64 k] w fun e w'=>e=.returned (.bool (Go.Q.kindOk k))∧Fz w w':=by
 have F:Fz w (w.alloc (.cells #[.int .i64 12,.int .i64 19,.int .i64 20,.int .i64 22,.int .i64 26,.int .i64 30] 3)):=(Fr.refl w).alloc _;have B:=Blk.new w 3 #[.int .i64 12,.int .i64 19,.int .i64 20,.int .i64 22,.int .i64 26,.int .i64 30];have H:=Go.Proofs.Tryz.slices_Contains_int w.heap.size 0 6 6 [12,19,20,22,26,30] k _ (by simp) (by omega) (fun j hj=>by
  rw[Nat.zero_add,B.cell]
  match j,hj with
  |0,_=>rfl
  |1,_=>rfl
  |2,_=>rfl
  |3,_=>rfl
  |4,_=>rfl
  |5,_=>rfl
  |j+6,hj=>simp at hj;omega)
 rw[show ([12,19,20,22,26,30]:List Int).take 6=[12,19,20,22,26,30] from rfl,kind_contains]at H
 have HH:=Hi H;have HF:=Hi F;clear H F B;go_enter Tryz.func187,Tryz.ntmps187
 go_wp2_with (first|(go_at_call 202;go_in))
 refine HH.out.mono ?_;rintro e w' ⟨rfl,rfl⟩;go_wp2_with fail
 go_ret;exact⟨rfl,HF.out⟩
theorem surr_any (n:Int)(w:World) :
  Calls Tryz.prog 226 #[.int .i64 n] w fun e w'=>e=.returned (.bool (surr n))∧w=w':=by
 have hs:surr n=if 55296≤n then (if n≤57343 then true else false) else false:=by
  unfold surr;split
  ·split
   ·exact decide_eq_true (by omega)
   ·exact decide_eq_false (by omega)
  ·exact decide_eq_false (by omega)
 have HS:=Hi hs;clear hs;rcases Int.lt_or_le n 55296 with h1|h1
 ·have q1:¬(55296:Int)≤n:=by omega
  go_enter Tryz.func226,Tryz.ntmps226
  go_wp2_with fail
  go_ret;exact⟨by rw[HS.out,if_neg (by omega)];rfl,rfl⟩
 ·rcases Int.lt_or_le 57343 n with h2|h2
  ·have q2:¬n≤(57343:Int):=by omega
   go_enter Tryz.func226,Tryz.ntmps226
   go_wp2_with fail
   go_ret;exact⟨by rw[HS.out,if_pos h1,if_neg (by omega)];rfl,rfl⟩
  ·go_enter Tryz.func226,Tryz.ntmps226
   go_wp2_with fail
   go_ret;exact⟨by rw[HS.out,if_pos h1,if_pos h2];rfl,rfl⟩
theorem printable_any (n:Int)(w:World) :
  Calls Tryz.prog 227 #[.int .i64 n] w fun e w'=>e=.returned (.bool (mayS 19 n))∧w=w':=by
 go_enter Tryz.func227,Tryz.ntmps227
 go_wp2_with (first|(go_at_call 252;refine(Go.Proofs.Tryz.strings_IndexByte _ _ w).mono ?_;rintro e w' ⟨rfl,rfl⟩))
 all_goals
  go_ret;refine⟨?_,rfl⟩
  rw[←printB_eq]
  first
  |(have e:printB n=true:=by unfold printB;rw[Bool.or_eq_true];left;simp only[Bool.or_eq_true,decide_eq_true_eq];omega
    rw[e];rfl)
  |(have e:printB n=false:=by unfold printB;rw[decide_eq_false (by omega),decide_eq_false (by omega),decide_eq_false (by omega),decide_eq_false (by omega)];rfl
    rw[e];rfl)
  |(have e:printB n=decide (0≤Lib.indexByte [32,39,40,41,43,44,45,46,47,58,61,63] (UInt8.ofNat n.toNat)):=by
     unfold printB;rw[decide_eq_false (by omega),decide_eq_false (by omega),decide_eq_false (by omega),decide_eq_true (by omega)];rfl
    have hw:IntKind.u8.wrap n=n:=by simp[IntKind.wrap,IntKind.signed,IntKind.bits];omega
    have e2:UInt8.ofNat n.toNat=(IntKind.u8.wrap n).toNat.toUInt8:=by rw[hw]
    rw[e,e2]
    rfl)
theorem may_any (k n:Int)(w:World) :
  Calls Tryz.prog 189 #[.int .i64 k,.int .i64 n] w fun e w'=>e=.returned (.bool (mayS k n))∧w=w':=by
 have hk:k=12∨k=19∨k=20∨k=22∨k=26∨k=30∨(k≠12∧k≠19∧k≠20∧k≠22∧k≠26∧k≠30):=by omega
 rcases hk with rfl|rfl|rfl|rfl|rfl|rfl|⟨h1,h2,h3,h4,h5,h6⟩
 case' inr.inr.inr.inr.inr.inr=>
  have q1:(k==12)=false:=beq_eq_false_iff_ne.2 h1;have q2:(k==19)=false:=beq_eq_false_iff_ne.2 h2;have q3:(k==20)=false:=beq_eq_false_iff_ne.2 h3;have q4:(k==22)=false:=beq_eq_false_iff_ne.2 h4;have q5:(k==26)=false:=beq_eq_false_iff_ne.2 h5;have q6:(k==30)=false:=beq_eq_false_iff_ne.2 h6
 all_goals
  go_enter Tryz.func189,Tryz.ntmps189
  go_wp2_with (first|(go_at_call 226;refine(surr_any _ w).mono ?_;rintro e w' ⟨rfl,rfl⟩)|(go_at_call 227;refine(printable_any _ w).mono ?_;rintro e w' ⟨rfl,rfl⟩))
  all_goals
   go_ret;refine⟨?_,rfl⟩
   refine congrArg (fun z=>Ending.returned (Value.bool z)) ?_;first
   |rfl
   |(unfold mayS;simp only[*,Int.reduceEq,if_false,if_true];done)
   |(simp[mayS, *];done)
   |(simp[mayS];omega)
attribute [local go_sem] Oper.semAt_some
theorem wrap64_next {m r n:Nat}(h:m+(r+1)=n)(hn:n≤maxLen):wrap64 ((m:Int)+1)=(m:Int)+1:=by
 have e:maxLen=9223372036854775807:=rfl;rw[e]at hn
 clear e;unfold wrap64;omega
theorem idx_next {m r n:Nat}(h:m+(r+1)=n):idx n (.int .i64 ((m:Int)+1))<idx n (.int .i64 (m:Int)):=by
 simp only[idx]
 omega
theorem wrap64_byte (y:UInt8):wrap64 (y.toNat:Int)=(y.toNat:Int):=by
 have:=y.toNat_lt;unfold wrap64;omega
theorem single1_iter (v:Value)(l:List UInt8)(cb base:Nat)(w:World)(hc:w.cell? ⟨cb,0,none⟩=some v)(hv:Bytes w v l)(hoff:Off v l.length (fun k=>base≤k)) :
  Iter Tryz.prog 251 #[pt cb] (byteInts l) cb base w:=by
 intro lp J Jx W hW hJ hJx hY h0;obtain⟨a,cap,rfl,hcap,hmax,hx⟩:=Vals.form hv
 have HX:=Hi hx;have hc1:=hW.cell hc (fun h=>h);refine callsIn_of_wp Tryz.func251 rfl trivial ?_ rfl;simp only[Tryz.ntmps251,List.size_toArray,List.length_cons,List.length_nil,Nat.reduceAdd,Nat.reduceSub,Array.replicate_succ,Array.replicate_zero,List.push_toArray,List.append_toArray,List.nil_append,List.cons_append]
 gi_wp2
 gi_loopw [7] (fun i wr=>∃ (pre rest:List Int),i=.int .i64 pre.length∧byteInts l=pre++rest∧Fr (fun k=>base≤k∧k≠cb) W wr∧J pre wr) (fun i _=>idx l.length i)
 case atStart=>exact⟨[],byteInts l,rfl,rfl,Fr.refl _,h0⟩
 case round=>
  obtain⟨pre,rest,rfl,hxs,F,hj⟩:=hrel
  have hlen:pre.length+rest.length=l.length:=by
   have:=congrArg List.length hxs;simp only[byteInts,List.length_map,List.length_append]at this
   omega
  cases rest with
  |nil=>
   have q1:¬(pre.length:Int)<(l.length:Int):=by simp only[List.length_nil]at hlen;omega
   gi_wp2
   go_end0
   exact⟨⟨_,rfl⟩,.inl hj⟩
  |cons x rest=>
   simp only[List.length_cons]at hlen
   obtain⟨y,hy,rfl⟩:∃ y:UInt8,l[pre.length]? = some y∧x=(y.toNat:Int):=by
    have h:(byteInts l)[pre.length]? = some x:=by rw[hxs,List.getElem?_append_right (Nat.le_refl _),Nat.sub_self];rfl
    unfold byteInts at h;rw[List.getElem?_map]at h
    cases hq:l[pre.length]? with
    |none=>rw[hq]at h;cases h
    |some y=>rw[hq]at h;simp only[Option.map_some,Option.some.injEq]at h;exact⟨y,rfl,h.symm⟩
   obtain⟨b,o,rfl,hcell⟩:=HX.out (by omega)
   have hb:¬base≤b:=hoff (by omega) b rfl;have e1:=F.cell (hW.cell (hcell _ y hy) (fun h=>h)) (fun h=>hb h.1);have q1:(pre.length:Int)<(l.length:Int):=by omega
   have q2:(0:Int)≤(pre.length:Int):=by omega
   have q4:wrap64 ((pre.length:Int)+1)=(pre.length:Int)+1:=wrap64_next hlen (Nat.le_trans hcap hmax);have q3:wrap64 (y.toNat:Int)=(y.toNat:Int):=wrap64_byte y;obtain⟨fn,tmps,assign,body,hyy,hR⟩:=hY pre _ rest wr hxs hj
   clear hx hcell;gi_wp2
   refine hR.mono ?_;rintro e W3 (⟨rfl,hJ3,F3⟩|⟨rfl,hJx3⟩)
   ·gi_wp2
    go_roundw
    case rel=>exact⟨pre++[(y.toNat:Int)],rest,by rw[q4];simp,by simp[hxs],F.trans F3,hJ3⟩
    case measure=>rw[q4];exact idx_next hlen
   ·gi_wp2
    refine bodyPost_ret (results_none rfl _ _ _) rfl ?_;exact⟨⟨_,rfl⟩,.inr ⟨_,⟨rest,by simp[hxs]⟩,hJx3⟩⟩
end Go.Proofs.YtehlipgmkinfbaaGreatDoor
