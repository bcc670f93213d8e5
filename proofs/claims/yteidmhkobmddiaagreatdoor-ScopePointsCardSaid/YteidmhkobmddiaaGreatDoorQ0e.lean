/-
  Merged by program: XNAttrs XRd XNsRd XR02R XR02L XR02D XR02S XR04S XNRdn XNRight XRdSpec XNStr XR06a XR06b XR06c XR06d XR06e XR06g XR06h XR06s XR06T XNText1 XNText2 XNSeq.
-/
import Derived.Test.YteidmhkobmddiaaGreatDoorQ0d
import Derived.Deep.Slices
import Derived.Lib.SliceRun
import Derived.Laws.IdiomStrings
import Derived.Shelf.Bytes.SlSmallAll
import Derived.Lib.ConvBytes
import Derived.RangeFuncNested
import Derived.RangeFuncBound
import Derived.RangeFuncCalls
import Derived.RangeFuncLeaves
import Derived.Shelf.Abstract
import Derived.Shelf.RegionOpen
import Derived.OwnWalkIn
import Derived.TacticsInMore
import Derived.LoopNIn
import Derived.LoopIn
set_option linter.unusedSimpArgs false
set_option maxRecDepth 100000
set_option maxHeartbeats 8000000
namespace Go.Q
open Go Go.RowKit
structure Part where
 o:List Int
 b:List UInt8
def Attrs (w:World)(v:Value)(l:List Part):Prop:=
 ∃ a cap,v=.slice a l.length cap∧l.length≤cap∧cap≤maxLen∧(0<l.length→∃ b o,a=some ⟨b,o,none⟩∧∀ i p,l[i]? = some p→∃ x y,w.cell? ⟨b,o+2*i,none⟩=some x∧w.cell? ⟨b,o+2*i+1,none⟩=some y∧Vals w x (intCells p.o)∧Bytes w y p.b)
theorem Attrs.old {w w':World}{v:Value}{l:List Part}(h:Attrs w v l)(f:Fz w w'):Attrs w' v l:=by
 obtain⟨a,cap,rfl,h1,h2,h3⟩:=h
 refine⟨a,cap,rfl,h1,h2,fun h0=>?_⟩
 obtain⟨b,o,rfl,hy⟩:=h3 h0
 refine⟨b,o,rfl,fun i p hp=>?_⟩
 obtain⟨x,y,e1,e2,e3,e4⟩:=hy i p hp
 exact⟨x,y,f.cell e1 (fun h=>h),f.cell e2 (fun h=>h),e3.old f,e4.old f⟩
def NameAt (w:World)(v:Value)(l:List (List Part)):Prop:=
 ∃ a cap,v=.slice a l.length cap∧l.length≤cap∧cap≤maxLen∧(0<l.length→∃ b o,a=some ⟨b,o,none⟩∧∀ i r,l[i]? = some r→∃ x,w.cell? ⟨b,o+i,none⟩=some x∧Attrs w x r)
theorem NameAt.old {w w':World}{v:Value}{l:List (List Part)}(h:NameAt w v l)(f:Fz w w'):NameAt w' v l:=by
 obtain⟨a,cap,rfl,h1,h2,h3⟩:=h
 refine⟨a,cap,rfl,h1,h2,fun h0=>?_⟩
 obtain⟨b,o,rfl,hy⟩:=h3 h0
 refine⟨b,o,rfl,fun i p hp=>?_⟩
 obtain⟨x,e1,e2⟩:=hy i p hp
 exact⟨x,f.cell e1 (fun h=>h),e2.old f⟩
def stepsS (last:Option (List UInt8)):List Part→Option (List (List UInt8))
 | []=>some []
 |p::t=>
  match attrS p.o p.b with
  |none=>none
  |some x=>if (match last with|some y=>decide (0≤cmpS y x)|none=>false)=true then none else (stepsS (some x) t).map (x::·)
def rdnS (l:List Part):Option (List (List UInt8)):=if l.length=0∨16<l.length then none else stepsS none l
def fewB (l:List Part):Prop:=∀ p∈l,p.b.length≤10000000
theorem set2 {w:World}{z:Nat}{t:TypeId}{c1 c2:Value}(B:Blk w z t #[c1,c2])(v1 v2:Value):Blk ((w.setCell ⟨z,0,none⟩ v1).setCell ⟨z,1,none⟩ v2) z t #[v1,v2]∧Fr (fun k=>k=z) w ((w.setCell ⟨z,0,none⟩ v1).setCell ⟨z,1,none⟩ v2):=by
 refine⟨?_,?_⟩
 ·have:=(B.set 0 v1).set 1 v2
  simpa using this
 ·exact Fr.setCell (S:=fun k=>k=z) (p:=⟨z,1,none⟩) (Fr.setCell (S:=fun k=>k=z) (p:=⟨z,0,none⟩) (Fr.refl w) (fun _=>rfl) _) (fun _=>rfl) _
theorem two_of {α:Type}{l:List α}(h:l.length=2):∃ a b,l=[a,b]:=by
 match l,h with
 | [a,b],_=>exact⟨a,b,rfl⟩
theorem list_of {α:Type}{p:Nat→α→Prop}:∀ n,(∀ i,i<n→∃ a,p i a)→∃ l:List α,l.length=n∧∀ i a,l[i]? = some a→p i a
 |0,_=>⟨[],rfl,fun i a h=>by simp at h⟩
 |n+1,h=>by
  obtain⟨l,hl,hp⟩:=list_of n (fun i hi=>h i (by omega))
  obtain⟨a,ha⟩:=h n (by omega)
  refine⟨l++[a],by simp[hl],fun i b hb=>?_⟩
  rcases Nat.lt_or_ge i l.length with hi|hi
  ·rw[List.getElem?_append_left hi]at hb
   exact hp i b hb
  ·rw[List.getElem?_append_right hi]at hb
   have h0:i-l.length=0:=by
    have:=(List.getElem?_eq_some_iff.1 hb).1;simp at this
    omega
   rw[h0]at hb
   simp only[List.getElem?_cons_zero,Option.some.injEq]at hb
   subst hb;obtain rfl:i=n:=by omega
   exact ha
open Go
theorem up7_ge:∀ (f m:Nat),m<128 ^ f→up7 (f+1) m=up7 f m
 |0,m,h=>by simp at h;subst h;simp[up7]
 |f+1,m,h=>by
  by_cases h0:m=0
  ·subst h0;simp[up7]
  ·have ih:=up7_ge f (m / 128) (by rw[Nat.pow_succ]at h;omega)
   rw[up7,if_neg h0,ih]
   rw[up7,if_neg h0]
def nameOk (n:List (List Part)):Bool:=decide (n.length≤64)&&n.all (fun r=>(rdnS r).isSome)
abbrev str (l:List UInt8):Value:=.string ⟨l.toArray⟩
theorem ba_cat (a b:List UInt8):(ByteArray.mk a.toArray++ByteArray.mk b.toArray)=ByteArray.mk (a++b).toArray:=by
 apply ByteArray.ext
 rw[ByteArray.data_append]
 simp
def amongB (n:Int)(l:List UInt8):Bool:=l.any fun x=>(x.toNat:Int)==n
abbrev printL:List UInt8:=[97,98,99,100,101,102,103,104,105,106,107,108,109,110,111,112,113,114,115,116,117,118,119,120,121,122,65,66,67,68,69,70,71,72,73,74,75,76,77,78,79,80,81,82,83,84,85,86,87,88,89,90,48,49,50,51,52,53,54,55,56,57,32,39,40,41,43,44,45,46,47,58,61,63]
abbrev natInts (ns:List Nat):List Int:=ns.map fun (n:Nat)=>(n:Int)
def looseHead (c:Nat):Nat × Nat:=if 240≤c then (c-240,3) else if 224≤c then (c-224,2) else if 192≤c then (c-192,1) else (c,0)
def looseAcc (n0:Nat)(l:List UInt8):Nat:=l.foldl (fun n y=>64*n+y.toNat % 64) n0
def looseS:Nat→List UInt8→Option (List Nat)
 |_,[]=>some []
 |0,_::_=>none
 |f+1,x::t=>if 1114111<looseAcc (looseHead x.toNat).1 (t.take (looseHead x.toNat).2) then none else (looseS f (t.drop (looseHead x.toNat).2)).map (looseAcc (looseHead x.toNat).1 (t.take (looseHead x.toNat).2)::·)
def looseL (l:List UInt8):Option (List Nat):=looseS l.length l
def wideR (b:List UInt8):Option (List Nat):=
 match looseL b with
 |none=>none
 |some ns=>if (natInts ns).all (mayS 12)=true∧encAll ns=b then some ns else none
def sigR (k:Int)(b:List UInt8):Option (List Int):=
 if kindOk k=true then
  (if k=12 then (wideR b).map natInts else
    if k=30∧b.length % 2=1 then none else if (signsS k b).all (mayS k)=true then some (signsS k b) else none)
 else none
theorem kind_contains (k:Int):([12,19,20,22,26,30]:List Int).contains k=kindOk k:=by
 unfold kindOk;rw[Bool.eq_iff_iff]
 simp
def printB (n:Int):Bool:=(decide (97≤n∧n≤122)||decide (65≤n∧n≤90)||decide (48≤n∧n≤57))||(decide (0<n∧n<128)&&decide (0≤Lib.indexByte [32,39,40,41,43,44,45,46,47,58,61,63] (UInt8.ofNat n.toNat)))
theorem printB_small:∀ m:Fin 256,printB (m.val:Int)=printables.contains (UInt8.ofNat m.val):=by decide +kernel
theorem printB_eq (n:Int):printB n=mayS 19 n:=by
 simp only[mayS,show ¬((19:Int)=12) from by decide,if_false,if_true]
 by_cases h:0≤n∧n<256
 ·obtain⟨m,rfl⟩:∃ m:Nat,n=m:=⟨n.toNat,by omega⟩
  have:=printB_small ⟨m,by omega⟩;simp only at this
  rw[this,decide_eq_true h,Bool.true_and,Int.toNat_natCast]
 ·rw[decide_eq_false h,Bool.false_and]
  unfold printB;rw[decide_eq_false (by omega),decide_eq_false (by omega),decide_eq_false (by omega),decide_eq_false (by omega)]
  rfl
theorem Fr.putObj {S:Nat→Prop}{a w:World}(h:Fr S a w)(l:Nat)(hl:l<a.heap.size→S l)(o:Obj):Fr S a (w.putObj l o):=
 ⟨h.os,h.tape,h.output,by rw[World.putObj_size];exact h.size,fun k hk hS=>by
  rw[World.putObj_heap_other (fun e=>hS (by subst e;exact hl hk))]
  exact h.block k hk hS⟩
def Iter (P:Program)(gf:Nat)(lb:Array Value)(xs:List Int)(cb base:Nat)(w:World):Prop:=
 ∀ (l:Nat) (J Jx:List Int→World→Prop) (W:World),Fz w W→
  (∀ s A B,J s A→Fr (fun k=>k=cb) A B→J s B)→(∀ s A B,Jx s A→Fr (fun k=>k=cb) A B→Jx s B)→
  (∀ pre x rest W1,xs=pre++x::rest→J pre W1→YieldAt Fence.wide 1 P l #[.int .i64 x] W1 fun e W'=>
    (e=.returned (.bool true)∧J (pre++[x]) W'∧Fr (fun k=>base≤k∧k≠cb) W1 W')∨(e=.returned (.bool false)∧Jx (pre++[x]) W'))→
  J [] W→
  CallsIn Fence.wide 2 P gf (#[.func (.yield l) #[] #[]]++lb) W fun e W'=>(∃ v,e=.returned v)∧(J xs W'∨∃ pre,pre <+: xs∧Jx pre W')
def seqPost (I:List Int→World→Prop)(Ix:Code→List Int→World→Prop)(base cb:Nat)(E:Nat)(xs:List Int)(W:World):Exit→Act→World→Prop
 |.normal,_,W'=>Fr (fun k=>base≤k∧k≠cb∧k≠E∧k≠E+1) W W'∧I xs W'
 |.ret,_,W'=>Fr (fun k=>base≤k∧k≠cb∧k≠E∧k≠E+1) W W'∧Ix .ret xs W'
 |.exit id,_,W'=>Fr (fun k=>base≤k∧k≠cb∧k≠E∧k≠E+1) W W'∧Ix (.exit id) xs W'
 |.goto t,_,W'=>Fr (fun k=>base≤k∧k≠cb∧k≠E∧k≠E+1) W W'∧Ix (.goto t) xs W'
 |.panic _,_,_=>False
 |.outgrown,_,_=>False
variable {P:Program}
theorem range_law {g:Operand}{ps:Array Tmp}{assign body:Code}{Q:Exit→Act→World→Prop}{a:Act}{w:World}
  {gf:Nat}{lb:Array Value}(hg:a.eval g=.func (.func gf) #[] lb) (eg:∀ args w,(callFunc gf args).run P w=.ok (.enter gf args) w)
  {xs:List Int}{cb base:Nat}(hcb:cb<w.heap.size) (hbase:base≤w.heap.size) (hseq:Iter P gf lb xs cb base w) (hps:ps.size=1)
  (I:List Int→World→Prop) (Ix:Code→List Int→World→Prop)
  (hI:∀ s A B,I s A→Fr (fun k=>k=cb∨k=w.heap.size∨k=w.heap.size+1) A B→I s B)
  (hIx:∀ c s A B,Ix c s A→Fr (fun k=>k=cb∨k=w.heap.size∨k=w.heap.size+1) A B→Ix c s B) (h0:I [] w) (a₁:Int→Act)
  (hassign:∀ (l:Nat) (x:Int) (W:World) (K:Act→World→Prop),K (a₁ x) W→
    assign.wpIn (Fence.wide.inRound l) 1 P (Exit.then K (fun _ _ _=>False)) { tmps:=(ps.zip #[.int .i64 x]).foldl (fun t (p,v)=>t.setIfInBounds p v) a.tmps,defers:=[] } W)
  (hbody:∀ (l:Nat) (pre:List Int) (x:Int) (rest:List Int) (W:World),xs=pre++x::rest→I pre W→w.heap.size+2≤W.heap.size→body.wpIn (Fence.wide.inRound l) 1 P (seqPost I Ix base cb w.heap.size (pre++[x]) W) (a₁ x) W)
  (hdone:∀ (D:Nat) (W:World),D=w.heap.size→I xs W→W.heap[D]? = some (.deferred (some []))→Q .normal { a with defers:={ target:=.collected D,args:=#[] }::a.defers } W)
  (hstop:∀ (D:Nat) (c:Code) (pre:List Int) (W:World),D=w.heap.size→pre <+: xs→Ix c pre W→W.heap[D]? = some (.deferred (some []))→c.wpIn Fence.wide 3 P Q { a with defers:={ target:=.collected D,args:=#[] }::a.defers } W) :
  (Code.rangeFunc g ps assign body).wpIn Fence.wide 3 P Q a w:=by
 refine wpIn_rangeFunc ?_;intro fn hfn;obtain⟨E,hE⟩:∃ E,E=w.heap.size:=⟨_,rfl⟩
 obtain⟨rec,hrec⟩:∃ rec:LoopState→Option Code→Loop,rec=fun st pe=>{ state:=st,pending:=pe,fn,tmps:=a.tmps,params:=ps,assign,body,defers:=E }:=⟨_,rfl⟩
 obtain⟨W1,hW1⟩:∃ W1,W1=(w.alloc (.deferred (some []))).alloc (.loop (rec .ready none)):=⟨_,rfl⟩
 have F1:Fz w W1:=by rw[hW1];exact((Fr.refl w).alloc _).alloc _
 have hL1:W1.heap[E+1]? = some (.loop (rec .ready none)):=by
  rw[hW1,hE]
  have:=World.alloc_heap_new (w.alloc (.deferred (some []))) (.loop (rec .ready none));rwa[World.size_alloc]at this
 have hK1:W1.heap[E]? = some (.deferred (some [])):=by
  rw[hW1,hE]
  exact(Below.heap_alloc _ _ _ (by simp)).trans (World.alloc_heap_new w _)
 have hI1:I [] W1:=hI [] w W1 h0 (F1.mono (fun _ _ h=>h.elim));have keep:∀ {S:Nat→Prop}{A B:World}{k:Nat}{o:Obj},Fr S A B→A.heap[k]? = some o→¬S k→B.heap[k]? = some o:=fun f h hS=>
  (f.block _ (Array.getElem?_eq_some_iff.1 h).1 hS).trans h
 have hcbE:cb<E:=by rw[hE];exact hcb
 refine⟨E+1,[{ target:=.collected E,args:=#[] }],W1,{ target:=.fn (.func gf) lb,args:=#[.func (.yield (E+1)) #[] #[]] },W1,gf,
  #[.func (.yield (E+1)) #[] #[]]++lb,W1,?_,?_,fun _ _=>trivial,?_,fun _=>by decide,?_⟩
 ·rw[hW1,hrec,hE]
  exact run_enterLoop_outer _ _ _ _ _
 ·simp only[resolve,hg]
  simp[go_sem]
 ·simp[invoke,go_sem,eg]
 refine(hseq (E+1)
  (fun pre W=>I pre W∧W.heap[E+1]? = some (.loop (rec .ready none))∧W.heap[E]? = some (.deferred (some [])))
  (fun pre W=>∃ c,Ix c pre W∧W.heap[E+1]? = some (.loop (rec .done (some c)))∧W.heap[E]? = some (.deferred (some [])))
  W1 F1 ?_ ?_ ?_ ⟨hI1,hL1,hK1⟩).mono ?_
 ·rintro s A B ⟨hi,hl,hk⟩ f
  exact⟨hI s A B hi (f.mono (fun _ _ h=>.inl h)),keep f hl (by omega),keep f hk (by omega)⟩
 ·rintro s A B ⟨c,hi,hl,hk⟩ f
  exact⟨c,hIx c s A B hi (f.mono (fun _ _ h=>.inl h)),keep f hl (by omega),keep f hk (by omega)⟩
 ·rintro pre x rest W hxs ⟨hi,hl,hk⟩
  have hlt:E+1<W.heap.size:=(Array.getElem?_eq_some_iff.1 hl).1;have hy:=run_yield (P:=P) (args:=#[.int .i64 x]) hl (by rw[hrec];simp[hps]);rw[hrec]at hy
  refine⟨fn,_,assign,body,hy,roundIn_of_wpIn hfn (hassign _ x W _ ⟨_,run_beginRound hl (by rw[hrec]),?_⟩)⟩
  obtain⟨W2,hW2⟩:∃ W2,W2=W.putObj (E+1) (.loop { rec .ready none with state:=.busy }):=⟨_,rfl⟩
  have F2:Fr (fun k=>k=E+1) W W2:=by rw[hW2];exact Fr.putObj (S:=fun k=>k=E+1) (Fr.refl W) (E+1) (fun _=>rfl) _
  have hl2:W2.heap[E+1]? = some (.loop { rec .ready none with state:=.busy }):=by rw[hW2];exact World.putObj_heap_same hlt
  have hk2:W2.heap[E]? = some (.deferred (some [])):=keep F2 hk (by omega);rw[←hW2]
  refine wpIn_mono (hbody _ pre x rest W2 hxs (hI pre W W2 hi (F2.mono (fun _ _ h=>.inr (.inr (by rw[←hE];exact h))))) (by rw[←hE];have:=F2.size;omega)) ?_;have fin:∀ (jump:Option Code) (W3:World),Fr (fun k=>base≤k∧k≠cb∧k≠E∧k≠E+1) W2 W3→
    (Instr.endRound (E+1) jump).run P W3=.ok (.bool jump.isNone) (W3.putObj (E+1) (.loop (rec (if jump.isNone then .ready else .done) jump)))∧
    (W3.putObj (E+1) (.loop (rec (if jump.isNone then .ready else .done) jump))).heap[E+1]? = some (.loop (rec (if jump.isNone then .ready else .done) jump))∧
    (W3.putObj (E+1) (.loop (rec (if jump.isNone then .ready else .done) jump))).heap[E]? = some (.deferred (some []))∧
    Fr (fun k=>k=cb∨k=w.heap.size∨k=w.heap.size+1) W3 (W3.putObj (E+1) (.loop (rec (if jump.isNone then .ready else .done) jump)))∧
    Fr (fun k=>base≤k∧k≠cb) W (W3.putObj (E+1) (.loop (rec (if jump.isNone then .ready else .done) jump))):=fun jump W3 f3=>by
   have hl3:=keep f3 hl2 (by simp);have hk3:=keep f3 hk2 (by simp);have hr:=run_endRound (P:=P) jump hl3;have f4:Fr (fun k=>k=E+1) W3 (W3.putObj (E+1) (.loop (rec (if jump.isNone then .ready else .done) jump))):=Fr.putObj (S:=fun k=>k=E+1) (Fr.refl W3) (E+1) (fun _=>rfl) _;have g:∀ k,k=E+1→base≤k∧k≠cb:=fun k e=>by omega
   refine⟨?_,World.putObj_heap_same (Array.getElem?_eq_some_iff.1 hl3).1,keep f4 hk3 (by omega),f4.mono (fun _ _ h=>.inr (.inr (by rw[←hE];exact h))),?_⟩
   ·rw[hr,hrec]
   ·exact((F2.mono (fun k _ h=>g k h)).trans (f3.mono (fun _ _ h=>⟨h.1,h.2.1⟩))).trans (f4.mono (fun k _ h=>g k h))
  rw[←hE]
  rintro e a3 W3 hp;cases e with
  |normal=>
   obtain⟨f3,hi3⟩:=hp
   obtain⟨hr,hl4,hk4,f4,f5⟩:=fin none W3 f3
   exact⟨_,_,hr,.inl ⟨rfl,⟨hI _ _ _ hi3 f4,hl4,hk4⟩,f5⟩⟩
  |ret=>
   obtain⟨f3,hi3⟩:=hp
   obtain⟨hr,hl4,hk4,f4,f5⟩:=fin (some .ret) W3 f3
   exact⟨_,_,hr,.inr ⟨rfl,.ret,hIx _ _ _ _ hi3 f4,hl4,hk4⟩⟩
  |exit id=>
   obtain⟨f3,hi3⟩:=hp
   obtain⟨hr,hl4,hk4,f4,f5⟩:=fin (some (.exit id)) W3 f3
   exact⟨_,_,hr,.inr ⟨rfl,.exit id,hIx _ _ _ _ hi3 f4,hl4,hk4⟩⟩
  |goto t=>
   obtain⟨f3,hi3⟩:=hp
   obtain⟨hr,hl4,hk4,f4,f5⟩:=fin (some (.goto t)) W3 f3
   exact⟨_,_,hr,.inr ⟨rfl,.goto t,hIx _ _ _ _ hi3 f4,hl4,hk4⟩⟩
  |panic ch=>exact hp.elim
  |outgrown=>exact hp.elim
 ·rintro e W2 ⟨⟨v,rfl⟩,(⟨hi,hl,hk⟩|⟨pre,hpre,c,hi,hl,hk⟩)⟩
  ·have hr:=run_endLoop (P:=P) hl (by rw[hrec];simp)
   rw[hrec]at hr
   refine⟨none,_,hr,hdone E _ hE (hI _ _ _ hi ((Fr.refl W2).putObj _ (fun _=>.inr (.inr (by omega))) _)) ((World.putObj_heap_other (by omega)).trans hk)⟩
  ·have hr:=run_endLoop (P:=P) hl (by rw[hrec];simp)
   rw[hrec]at hr
   refine⟨some c,_,hr,hstop E c pre _ hE hpre (hIx c _ _ _ hi ((Fr.refl W2).putObj _ (fun _=>.inr (.inr (by omega))) _)) ((World.putObj_heap_other (by omega)).trans hk)⟩
end Go.Q
namespace Go.Proofs.YteidmhkobmddiaaGreatDoor
open Go Go.RowKit Go.Q
def Row (w:World)(base:Nat)(v:Value)(ws:List (List UInt8)):Prop:=
 ∃ us,w.ownsRow base 32 1 v ws.length us∧us.length=ws.length∧∀ (i:Nat) (u:Value) (x:List UInt8),us[i]? = some u→ws[i]? = some x→BytesK w (fun k=>v.ownBlock=some k) u x
theorem Row.old {w w':World}{base:Nat}{v:Value}{ws:List (List UInt8)}(h:Row w base v ws)(f:Fz w w'):Row w' base v ws:=by
 obtain⟨us,h1,h2,h3⟩:=h
 exact⟨us,ownsRow_fr h1 f (fun _ _ h=>h),h2,fun i u l hu hl=>(h3 i u l hu hl).old f⟩
theorem Row.nil (w:World)(base:Nat):Row w base (.slice none 0 0) []:=⟨[],⟨rfl,.inl ⟨rfl,rfl⟩⟩,rfl,fun i u l hu=>by simp at hu⟩
theorem Row.add {w:World}{base:Nat}{v:Value}{ws:List (List UInt8)}(h:Row w base v ws)(g:Nat)(u:Value)(x:List UInt8)(B:Blk w g 32 #[u])(hu:Bytes w u x)(hou:∀ k,u.ownBlock=some k→v.ownBlock≠some k)(hsz:ws.length≤2000000000000)(hb:base≤w.heap.size) :
  ∃ a c w',(Builtin.append_ #[184,184] 184 #[v,.slice (some ⟨g,0,none⟩) 1 1]).run Tryz.prog w=.ok (.slice a (ws.length+1) c) w'∧Row w' base (.slice a (ws.length+1) c) (ws++[x])∧Fr (fun k=>v.ownBlock=some k) w w':=by
 obtain⟨us,h1,h2,h3⟩:=h
 obtain⟨a,c,rfl,hc⟩:=hu.form
 have hu1:Bytes w (.slice a x.length c) x:=hu;obtain⟨v',w',hr,h4,h5,h6⟩:=append_one h1 g _ B rfl hsz hb
 obtain⟨a',m',c',rfl,rfl⟩:=own_shape h4
 have hK:∀ k,(Value.slice a' (ws.length+1) c').ownBlock=some k→v.ownBlock=some k∨w.heap.size≤k:=fun k hk=>by
  rcases h6 with h|h
  ·exact .inl (by rw[←h];exact hk)
  ·rw[h]at hk
   cases hk
   exact .inr (Nat.le_refl _)
 refine⟨a',c',w',hr,⟨us++[.slice a x.length c],by simpa using h4,by simp[h2],fun i u y hi hy=>?_⟩,h5⟩
 have hlt:i<ws.length+1:=by have:=(List.getElem?_eq_some_iff.1 hy).1;simpa using this
 rcases Nat.lt_or_ge i ws.length with hi2|hi2
 ·rw[List.getElem?_append_left (by omega)]at hi hy
  exact(h3 i u y hi hy).fr h5 (fun _ _ h=>h) hK
 ·obtain rfl:i=ws.length:=by omega
  rw[List.getElem?_append_right (by omega)]at hi hy
  simp[h2]at hi
  simp at hy
  subst hi;subst hy;exact ValsK.fr (K:=fun k=>v.ownBlock=some k) ⟨hu1,fun _ k hk e=>hou k hk e⟩ h5 (fun _ _ h=>h) hK
theorem stepsS_split (l:List Part)(j:Nat)(p:Part)(hp:l[j]? = some p)(last:Option (List UInt8)):stepsS last (l.drop j)=match attrS p.o p.b with|none=>none|some x=>if (match last with|some y=>decide (0≤cmpS y x)|none=>false)=true then none else (stepsS (some x) (l.drop (j+1))).map (x::·):=by
 have:l.drop j=p::l.drop (j+1):=by
  obtain⟨h,rfl⟩:=List.getElem?_eq_some_iff.1 hp
  exact List.drop_eq_getElem_cons h
 rw[this]
 rfl
open Go Go.RowKit Go.Q Go.ChangeShapes Go.WideShapes Go.ChangeAt
section
variable {H:Type}{enc:TypeId × Value→H}{P:Program}{w:World}{base fuel:Nat}{spare:Nat→Bool}{held:Bool}{cs:List Value}{x:DataW H × List MemPlace}
theorem rd_slice {α:Type}{t e:TypeId}{c:Nat}(ht:P.underlying t=some (.slice e))(hc:P.cellsOf e=c)(hc0:0<c)(R:α→List Value→Prop)
  (hR:∀ n cs x,DataW.trod enc P w base spare held n e cs=some x→cs.length=c→∃ a,R a cs) (h:DataW.trod enc P w base spare held fuel t cs=some x) :
  ∃ (a:Option Addr) (cap:Nat) (l:List α),cs=[.slice a l.length cap]∧l.length≤cap∧cap≤maxLen∧(0<l.length→∃ b o,a=some ⟨b,o,none⟩∧∀ i u,l[i]? = some u→∃ ds,ds.length=c∧R u ds∧∀ j v,ds[j]? = some v→w.cell? ⟨b,o+c*i+j,none⟩=some v):=by
 rcases Go.Deep.open_slice ht h with ⟨rfl,_⟩|⟨a,len,cap,m,n,D,Pl,rfl,_,hl,hm,hmm,_,hx⟩
 ·exact⟨none,0,[],rfl,Nat.le_refl _,Nat.zero_le _,fun h=>absurd h (Nat.lt_irrefl _)⟩
 ·have hlm:len≤m:=by rw[hmm];split<;>omega
  obtain⟨l,hll,hp⟩:=list_of (p:=fun i u=>∃ ds:List Value,ds.length=c∧R u ds∧∀ j v,ds[j]? = some v→w.cell? ((a.add (i*c)).add j)=some v) len (fun i hi=>by
   obtain⟨ds,h1,h2⟩:=hx i (by omega)
   obtain⟨_,h3,h4⟩:=World.cells?_some h1
   rw[hc]at h1 h3 h4
   obtain⟨u,hu⟩:=hR n ds _ h2 h3
   refine⟨u,ds,h3,hu,fun j v hj=>?_⟩
   have hjl:j<c:=by rw[←h3];exact(List.getElem?_eq_some_iff.1 hj).1
   have:=h4 j hjl;rw[this,←hj])
  refine⟨some a,cap,l,by rw[hll],by omega,hm,fun h0=>?_⟩
  obtain⟨u,hu⟩:∃ u,l[0]? = some u:=⟨_,List.getElem?_eq_getElem h0⟩
  obtain⟨ds,hd1,_,hd2⟩:=hp 0 u hu
  obtain⟨v,hv⟩:∃ v,ds[0]? = some v:=⟨_,List.getElem?_eq_getElem (by omega)⟩
  have sp:a.spot=none:=by
   have:=World.cell?_spot (hd2 0 v hv);simpa [Addr.add] using this
  obtain⟨b,o,spt⟩:=a
  simp only at sp
  subst sp;refine⟨b,o,rfl,fun i u hu=>?_⟩
  obtain⟨ds,hd1,hd2,hd3⟩:=hp i u hu
  refine⟨ds,hd1,hd2,fun j v hj=>?_⟩
  have:=hd3 j v hj;rw[show ((⟨b,o,none⟩:Addr).add (i*c)).add j=⟨b,o+c*i+j,none⟩ from by unfold Addr.add;split<;>split<;>simp_all[Nat.mul_comm]]at this
  exact this
end
section
variable {H:Type}{enc:TypeId × Value→H}{w:World}{base fuel:Nat}{spare:Nat→Bool}{held:Bool}{cs:List Value}{x:DataW H × List MemPlace}
theorem rc3:Tryz.prog.cellsOf 3=1:=by kernel_rfl
theorem rc5:Tryz.prog.cellsOf 5=1:=by kernel_rfl
theorem rc27:Tryz.prog.cellsOf 27=1:=by kernel_rfl
theorem rc32:Tryz.prog.cellsOf 32=1:=by kernel_rfl
theorem rd_ints (h:DataW.trod enc Tryz.prog w base spare held fuel 27 cs=some x):∃ v l,cs=[v]∧Ints w v l:=by
 obtain⟨a,cap,l,rfl,h1,h2,h3⟩:=rd_slice Tryz.underlying27 rc3 (by decide) (fun (n:Int) ds=>ds=[.int .i64 n]) (fun n ds y hy _=>by
  obtain⟨k,e,-,-⟩:=DataW.trod_int Tryz.underlying3 hy
  exact⟨k,e⟩) h
 refine⟨_,l,rfl,a,cap,by rw[intCells_len],by rw[intCells_len];exact h1,h2,fun h0=>?_⟩
 rw[intCells_len]at h0
 obtain⟨b,o,rfl,hy⟩:=h3 h0
 refine⟨b,o,rfl,fun i u hu=>?_⟩
 unfold intCells at hu;rw[List.getElem?_map]at hu
 cases hl:l[i]? with
 |none=>rw[hl]at hu;cases hu
 |some n=>
  rw[hl]at hu
  simp only[Option.map_some,Option.some.injEq]at hu
  obtain⟨ds,_,rfl,hj⟩:=hy i n hl
  have:=hj 0 _ rfl;simp only[Nat.one_mul,Nat.add_zero]at this
  rw[this,hu]
theorem rd_bytes (h:DataW.trod enc Tryz.prog w base spare held fuel 32 cs=some x):∃ v l,cs=[v]∧Bytes w v l:=by
 obtain⟨a,cap,l,rfl,h1,h2,h3⟩:=rd_slice Tryz.underlying32 rc5 (by decide) (fun (n:UInt8) ds=>ds=[.int .u8 n.toNat]) (fun n ds y hy _=>by
  obtain⟨k,e,-,hw⟩:=DataW.trod_int Tryz.underlying5 hy
  have hb:=bounds_u8 hw;refine⟨UInt8.ofNat k.toNat,?_⟩
  rw[e,Go.Q.u8 k.toNat (by omega),show ((k.toNat:Nat):Int)=k from by omega]) h
 refine⟨_,l,rfl,a,cap,by rw[byteCells_len],by rw[byteCells_len];exact h1,h2,fun h0=>?_⟩
 rw[byteCells_len]at h0
 obtain⟨b,o,rfl,hy⟩:=h3 h0
 refine⟨b,o,rfl,fun i u hu=>?_⟩
 rw[byteCells_get]at hu
 cases hl:l[i]? with
 |none=>rw[hl]at hu;cases hu
 |some n=>
  rw[hl]at hu
  simp only[Option.map_some,Option.some.injEq]at hu
  obtain⟨ds,_,rfl,hj⟩:=hy i n hl
  have:=hj 0 _ rfl;simp only[Nat.one_mul,Nat.add_zero]at this
  rw[this,hu]
end
section
variable {H:Type}{enc:TypeId × Value→H}{w:World}{base fuel:Nat}{spare:Nat→Bool}{held:Bool}{cs:List Value}{x:DataW H × List MemPlace}
theorem rc146:Tryz.prog.cellsOf 146=2:=by kernel_rfl
theorem rc24:Tryz.prog.cellsOf 24=1:=by kernel_rfl
theorem rd_attr (h:DataW.trod enc Tryz.prog w base spare held fuel 146 cs=some x)(hl:cs.length=2):∃ p:Part,∃ v u,cs=[v,u]∧Ints w v p.o∧Bytes w u p.b:=by
 obtain⟨y0,y1,n,_,-,h0,h1⟩:=Go.ChangeShapes.trod_struct2 Tryz.underlying146 h
 obtain⟨c0,c1,rfl⟩:=two_of hl
 have g0:DataW.trod enc Tryz.prog w base spare held n 27 [c0]=some y0:=by rw[←show ([c0,c1].drop 0).take (Tryz.prog.cellsOf 27)=[c0] from by rw[rc27];rfl];exact h0
 have g1:DataW.trod enc Tryz.prog w base spare held n 32 [c1]=some y1:=by rw[←show ([c0,c1].drop 1).take (Tryz.prog.cellsOf 32)=[c1] from by rw[rc32];rfl];exact h1
 obtain⟨v,o,e0,ho⟩:=rd_ints g0
 obtain⟨u,b,e1,hb⟩:=rd_bytes g1
 simp only[List.cons.injEq,and_true]at e0 e1
 subst e0;subst e1;exact⟨⟨o,b⟩,c0,c1,rfl,ho,hb⟩
theorem rd_attrs (h:DataW.trod enc Tryz.prog w base spare held fuel 24 cs=some x):∃ v l,cs=[v]∧Attrs w v l:=by
 obtain⟨a,cap,l,rfl,h1,h2,h3⟩:=rd_slice Tryz.underlying24 rc146 (by decide) (fun (p:Part) ds=>∃ v u,ds=[v,u]∧Ints w v p.o∧Bytes w u p.b) (fun n ds y hy hl=>rd_attr hy hl) h
 refine⟨_,l,rfl,a,cap,rfl,h1,h2,fun h0=>?_⟩
 obtain⟨b,o,rfl,hy⟩:=h3 h0
 refine⟨b,o,rfl,fun i p hp=>?_⟩
 obtain⟨ds,_,⟨v,u,rfl,hv,hu⟩,hj⟩:=hy i p hp
 exact⟨v,u,hj 0 _ rfl,hj 1 _ rfl,hv,hu⟩
theorem rd_name (h:DataW.trod enc Tryz.prog w base spare held fuel 22 cs=some x):∃ v n,cs=[v]∧NameAt w v n:=by
 obtain⟨a,cap,l,rfl,h1,h2,h3⟩:=rd_slice Tryz.underlying22 rc24 (by decide) (fun (r:List Part) ds=>∃ v,ds=[v]∧Attrs w v r) (fun n ds y hy _=>by
  obtain⟨v,l,e,hl⟩:=rd_attrs hy
  exact⟨l,v,e,hl⟩) h
 refine⟨_,l,rfl,a,cap,rfl,h1,h2,fun h0=>?_⟩
 obtain⟨b,o,rfl,hy⟩:=h3 h0
 refine⟨b,o,rfl,fun i r hr=>?_⟩
 obtain⟨ds,_,⟨v,rfl,hv⟩,hj⟩:=hy i r hr
 have:=hj 0 _ rfl;rw[Nat.one_mul,Nat.add_zero]at this
 exact⟨v,this,hv⟩
end
def rTagV (p:Nat):Except Int (Tag × Nat)→Value
 |.error e=>.tuple #[tagV ⟨0,0,false⟩,.int .i64 p,.int .i64 e]
 |.ok (t,k)=>.tuple #[tagV t,.int .i64 ((p+k:Nat):Int),.int .i64 0]
def rLenV (p:Nat):Except Int (Nat × Nat)→Value
 |.error e=>.tuple #[.int .i64 0,.int .i64 p,.int .i64 e]
 |.ok (v,k)=>.tuple #[.int .i64 v,.int .i64 ((p+k:Nat):Int),.int .i64 0]
def rReadV (p:Nat):Except Int (Tag × Nat × Nat)→Value
 |.error e=>.tuple #[tagV ⟨0,0,false⟩,.int .i64 0,.int .i64 p,.int .i64 e]
 |.ok (t,n,k)=>.tuple #[tagV t,.int .i64 n,.int .i64 ((p+k:Nat):Int),.int .i64 0]
theorem steps_next {l:List Part}{ws:List (List UInt8)}{x:List UInt8}{j:Nat}(hS:stepsS none l=(stepsS ws.getLast? (l.drop j)).map (ws++·))
  (hsp:stepsS ws.getLast? (l.drop j)=if (match ws.getLast? with|some y=>decide (0≤cmpS y x)|none=>false)=true then none else (stepsS (some x) (l.drop (j+1))).map (x::·))
  (hc:(match ws.getLast? with|some y=>decide (0≤cmpS y x)|none=>false)=false):stepsS none l=(stepsS (ws++[x]).getLast? (l.drop (j+1))).map ((ws++[x])++·):=by
 rw[hS,hsp,hc,List.getLast?_concat]
 simp only[Bool.false_eq_true,↓reduceIte,Option.map_map]
 congr 1
 funext y
 simp
theorem attr_len {o:List Int}{b x:List UInt8}(h:attrS o b=some x)(hb:b.length≤10000000):0<x.length∧x.length≤1099511627776:=by
 unfold attrS at h;split at h
 ·rename_i h0
  simp only[Bool.and_eq_true]at h0
  simp only[Option.some.injEq]at h
  subst h;have h1:=oidWhole_len (nums_ok h0.1).2.1;have h2:(lenBytes (oidWhole o++b).length).length≤5:=by unfold lenBytes;(repeat' split)<;>simp
  rw[wrap_len,List.length_append] at *
  omega
 ·cases h
theorem wholesRdn_any (v:Value)(l:List Part)(w:World)(h:Attrs w v l)(hf:fewB l) :
  Calls Tryz.prog 94 #[v] w fun e w'=>(∃ v',e=.returned (.tuple #[v',.bool (rdnS l).isSome])∧∀ ls,rdnS l=some ls→Row w' w.heap.size v' ls)∧Fz w w':=by
 have H:=Hi h;obtain⟨a,cap,rfl,hc,hm,-⟩:=h
 rcases Classical.em (l.length=0∨16<l.length) with hl|hl
 ·have hn:rdnS l=none:=by unfold rdnS;rw[if_pos hl]
  rcases hl with hl|hl
  ·have HN:=Hi hn
   have q1:((l.length:Int)==0)=true:=by rw[hl];rfl
   have q2:(l.length==0)=true:=by rw[hl];rfl
   clear hn;go_enter Tryz.func94,Tryz.ntmps94
   go_wp2_with fail
   refine bodyPost_ret (v:=.tuple #[.slice none 0 0,.bool false]) (by simp[results,Tryz.results94,go_sem]) rfl ⟨⟨_,by rw[HN.out];rfl,fun ls e=>by rw[HN.out]at e;cases e⟩,Fr.refl _⟩
  ·have HN:=Hi hn
   have q1:((l.length:Int)==0)=false:=beq_eq_false_iff_ne.2 (by omega);have q2:(l.length==0)=false:=beq_eq_false_iff_ne.2 (by omega);have q3:(16:Int)<(l.length:Int):=by omega
   clear hn;go_enter Tryz.func94,Tryz.ntmps94
   go_wp2_with fail
   refine bodyPost_ret (v:=.tuple #[.slice none 0 0,.bool false]) (by simp[results,Tryz.results94,go_sem]) rfl ⟨⟨_,by rw[HN.out];rfl,fun ls e=>by rw[HN.out]at e;cases e⟩,Fr.refl _⟩
 ·have hn:rdnS l=stepsS none l:=by unfold rdnS;rw[if_neg hl]
  have HN:=Hi hn;have q1:((l.length:Int)==0)=false:=beq_eq_false_iff_ne.2 (by omega);have q2:(l.length==0)=false:=beq_eq_false_iff_ne.2 (by omega);have q3:¬(16:Int)<(l.length:Int):=by omega
  have qT:∀ (w:World) (a:Option Addr) (n c n' c':Nat),(binOp .eql 32 (.slice a n c) (.slice none n' c')).run Tryz.prog w=.ok (.bool a.isNone) w:=fun w a n c n' c'=>Lib.run_eql_slice_nil w _ _ a n c n' c' Tryz.underlying32
  clear hn;go_enter Tryz.func94,Tryz.ntmps94
  go_wp2_with fail
  go_loopg [4,18] l.length (fun g u i wr=>∃ (j:Nat) (ws:List (List UInt8)),g=l.length-j∧j≤l.length∧i=.int .i64 j∧ws.length=j∧(∀ y∈ws,y.length≤1099511627776)∧Row wr w.heap.size u ws∧Fz w wr∧(stepsS none l=(stepsS ws.getLast? (l.drop j)).map (ws++·)))
  case atStart=>exact⟨0,[],rfl,Nat.zero_le _,rfl,rfl,by simp,Row.nil _ _,Fr.refl _,by simp⟩
  case round=>
   obtain⟨j,ws,hg,hj,rfl,hws,hwl,hrow,F,hS⟩:=hrel
   have HG:=Hi hg;have HS:=Hi hS;have HF:=Hi F;obtain⟨au,cu,rfl⟩:∃ au cu,u4=.slice au j cu:=by
    obtain⟨us,h1,_⟩:=hrow
    obtain⟨a0,m0,c0,rfl,rfl⟩:=own_shape h1
    exact⟨_,_,by rw[hws]⟩
   have HR:=Hi hrow;have HWS:=Hi hws;clear hg hS hrow hws;by_cases hjl:j<l.length
   ·obtain⟨a0,cap0,he,_,_,hx⟩:=H.out.old F
    simp only[Value.slice.injEq,true_and]at he
    obtain⟨rfl,rfl⟩:=he
    obtain⟨b,off,rfl,hy⟩:=hx (by omega)
    obtain⟨p,hp⟩:∃ p,l[j]? = some p:=⟨_,List.getElem?_eq_getElem hjl⟩
    obtain⟨x,y,e1,e2,hpx,hpy⟩:=hy j p hp
    have hsp:=Hi (stepsS_split l j p hp ws.getLast?);have hpb:=hf p (List.mem_of_getElem? hp);have r1:(0:Int)≤(j:Int):=by omega
    have r2:(j:Int)<(l.length:Int):=by omega
    have HPX:=Hi hpx;have HPY:=Hi hpy;obtain⟨ax,cx,rfl,-⟩:=Ints.form hpx
    obtain⟨ay,cy,rfl,-⟩:=Vals.form hpy
    have e1':wr.cell? ⟨b,off+j*2,none⟩=some (.slice ax p.o.length cx):=by rw[Nat.mul_comm];exact e1
    have e2':wr.cell? ⟨b,off+j*2+1,none⟩=some (.slice ay p.b.length cy):=by rw[Nat.mul_comm];exact e2
    clear hx hy hp hpx hpy F;go_upto_region 7 with fail
    have BZ:=Blk.new wr 145 #[.slice ax p.o.length cx,.slice ay p.b.length cy];have F1:Fz wr (wr.alloc (.cells #[.slice ax p.o.length cx,.slice ay p.b.length cy] 145)):=(Fr.refl wr).alloc _;have HPX1:=Hi (HPX.out.old F1);have HPY1:=Hi (HPY.out.old F1);have HR1:=Hi (HR.out.old F1);have HF1:=Hi (HF.out.trans F1);clear e1 e2 e1' e2' HPX HPY HF F1 HR;generalize (wr.alloc (.cells #[.slice ax p.o.length cx,.slice ay p.b.length cy] 145))=w1 at *
    have z0:=BZ.cell 0;have z1:=BZ.cell 1;simp at z0 z1
    go_wp2_with fail
    refine(whole_any _ _ p.o p.b w1 HPX1.out HPY1.out hpb).mono ?_
    rintro e w2 ⟨v2,rfl,hout,F2⟩;have HR2:=Hi (HR1.out.old F2);have HF2:=Hi (HF1.out.trans F2);unfold wholeOut at hout;have hlw1:∀ k,(Value.slice au j cu).ownBlock=some k→k<w1.heap.size:=fun k hk=>by
     obtain⟨us,g1,_⟩:=HR1.out
     exact((Vals.of_own g1).2 k hk).2
    have HLW:=Hi hlw1;clear z0 z1 BZ HPX1 HPY1 HR1 HF1 F2 hlw1;cases hq:attrS p.o p.b with
    |none=>
     rw[hq]at hout
     subst hout;have hn:rdnS l=none:=by rw[HN.out,HS.out,hsp.out,hq];rfl
     have HNN:=Hi hn;clear hn;go_wp2_with fail
     refine bodyPost_ret (v:=.tuple #[.slice none 0 0,.bool false]) (by simp[results,Tryz.results94,go_sem]) rfl ⟨⟨_,by rw[HNN.out];rfl,fun ls e=>by rw[HNN.out]at e;cases e⟩,HF2.out⟩
    |some x=>
     rw[hq]at hout
     have hsp1:=hsp.out;rw[hq]at hsp1
     have hx0:0<x.length∧x.length≤1099511627776:=attr_len hq hpb;have HO:=Hi hout;obtain⟨g2,c2,hgc,hv2⟩:∃ g c,w1.heap.size≤g∧v2=.slice (some ⟨g,0,none⟩) x.length c:=by
      rcases hout.2 with ⟨rfl,h0⟩|⟨g,cap,cur,rfl,hg,_⟩
      ·omega
      ·exact⟨g,cap,hg,rfl⟩
     subst hv2;have HSP:=Hi hsp1;clear hout hsp hsp1;have hadd:∀ w3,Fz w2 w3→∃ a5 c5 w5,(Builtin.append_ #[184,184] 184 #[.slice au j cu,.slice (some ⟨w3.heap.size,0,none⟩) 1 1]).run Tryz.prog (w3.alloc (.cells #[.slice (some ⟨g2,0,none⟩) x.length c2] 32))=.ok (.slice a5 (j+1) c5) w5∧Row w5 w.heap.size (.slice a5 (j+1) c5) (ws++[x])∧Fz w w5:=fun w3 F23=>by
      have F3:Fz w2 (w3.alloc (.cells #[.slice (some ⟨g2,0,none⟩) x.length c2] 32)):=F23.alloc _;have hadd:=Row.add (HR2.out.old F3) w3.heap.size (.slice (some ⟨g2,0,none⟩) x.length c2) x (Blk.new w3 _ _) ((Vals.of_own HO.out).1.old F3) (fun k hk e=>by
       simp only[Value.ownBlock,Option.some.injEq]at hk
       have:=HLW.out k e;omega) (by rw[HWS.out];omega) (HF2.out.trans F3).size
      obtain⟨a5,c5,w5,hrun,hrow,F5⟩:=hadd
      have G5:=(HF2.out.trans F3).trans' F5 (fun i hi e=>by
       obtain⟨us,g1,_⟩:=HR2.out
       have:=((Vals.of_own g1).2 i e).1;omega)
      rw[HWS.out]at hrun hrow
      exact⟨a5,c5,w5,hrun,hrow,G5⟩
     have HADD:=Hi hadd;have hlen:(ws++[x]).length=j+1:=by simp[HWS.out]
     have HLEN:=Hi hlen;have hwl2:∀ y∈ws++[x],y.length≤1099511627776:=fun y hy=>by
      rcases List.mem_append.1 hy with h|h
      ·exact hwl y h
      ·rw[List.mem_singleton.1 h];exact hx0.2
     have HWL2:=Hi hwl2;clear hadd hlen hwl2;by_cases hj0:j=0
     ·subst hj0
      have hw0:ws=[]:=List.length_eq_zero_iff.1 HWS.out;have hnx:=steps_next HS.out HSP.out (by rw[hw0];rfl);have HNX:=Hi hnx;obtain⟨a5,c5,w5,hrun,hrow,G5⟩:=HADD.out w2 (Fr.refl _)
      have HRUN:=Hi hrun;have HROW:=Hi hrow;have HG5:=Hi G5;clear hnx hrun hrow G5;go_wp2_with (at_builtin;refine wpList_append_run (by rfl) (.tmp 41) (.tmp 43) 184 (by rfl) _ w5 (by exact HRUN.out) ?_)
      go_roundg (l.length-(0+1))
      case measure=>rw[HG.out];omega
      case rel=>
       exact⟨0+1,ws++[x],rfl,by omega,by go_num,HLEN.out,HWL2.out,HROW.out,HG5.out,HNX.out⟩
     ·obtain⟨us,g1,g2',g3⟩:=HR2.out
      obtain⟨aR,cR,heR,hcR,hmR,hxR⟩:=(Vals.of_own g1).1
      rw[g2',HWS.out]at heR hcR hxR
      simp only[Value.slice.injEq,true_and]at heR
      obtain⟨rfl,rfl⟩:=heR
      obtain⟨bR,oR,rfl,hyR⟩:=hxR (by omega)
      obtain⟨k,rfl⟩:∃ k,j=k+1:=⟨j-1,by omega⟩
      have hws2:=HWS.out;obtain⟨uk,huk⟩:∃ u,us[k]? = some u:=⟨_,List.getElem?_eq_getElem (by omega)⟩
      obtain⟨xk,hxk⟩:∃ x,ws[k]? = some x:=⟨_,List.getElem?_eq_getElem (by omega)⟩
      have ek:=hyR k uk huk;have hbk:=(g3 k uk xk huk hxk).1;have hlast:ws.getLast? = some xk:=by rw[List.getLast?_eq_getElem?,hws2];exact hxk
      have hsp2:=HSP.out;rw[hlast]at hsp2
      obtain⟨ak,ck,rfl,-⟩:=Vals.form hbk
      have t1:IntKind.i64.wrap (((k+1:Nat):Int)-1)=(k:Int):=by simp[IntKind.wrap,IntKind.signed,IntKind.bits];omega
      have t2:(0:Int)<((k+1:Nat):Int):=by omega
      have hck:xk.length≤1099511627776:=hwl xk (List.mem_of_getElem? hxk);have HCM:=Hi (compare_any _ _ xk x w2 hbk (Vals.of_own HO.out).1 hck hx0.2);obtain⟨cm,hcm⟩:∃ cm,cm=cmpS xk x:=⟨_,rfl⟩
      have HCC:=Hi hcm;rw[←hcm]at HCM
      have hr3:∀ w3,Fz w2 w3→True:=fun _ _=>trivial
      have HLA:=Hi hlast;clear hyR g1 g3 hxR hsp2 hwl hxk huk hlast hr3 hcm;by_cases hge:0≤cm
      ·have hn:rdnS l=none:=by
        rw[HN.out,HS.out,HSP.out,HLA.out]
        simp[←HCC.out,hge]
       have HNN:=Hi hn;clear hn;go_wp2_with fail
       refine HCM.out.mono ?_;rintro e w3 ⟨rfl,F3⟩;go_wp2_with fail
       refine bodyPost_ret (v:=.tuple #[.slice none 0 0,.bool false]) (by simp[results,Tryz.results94,go_sem]) rfl ⟨⟨_,by rw[HNN.out];rfl,fun ls e=>by rw[HNN.out]at e;cases e⟩,HF2.out.trans F3⟩
      ·have hcond:(match ws.getLast? with|some y=>decide (0≤cmpS y x)|none=>false)=false:=by
        rw[HLA.out]
        simp only[←HCC.out]
        exact decide_eq_false hge
       have HNX:=Hi (steps_next HS.out HSP.out hcond);clear hcond;go_wp2_with fail
       refine HCM.out.mono ?_;rintro e w3 ⟨rfl,F3⟩;obtain⟨a5,c5,w5,hrun,hrow,G5⟩:=HADD.out w3 F3
       have HRUN:=Hi hrun;have HROW:=Hi hrow;have HG5:=Hi G5;clear hrun hrow G5;go_wp2_with (at_builtin;refine wpList_append_run (by rfl) (.tmp 41) (.tmp 43) 184 (by rfl) _ w5 (by exact HRUN.out) ?_)
       go_roundg (l.length-(k+1+1))
       case measure=>rw[HG.out];omega
       case rel=>
        exact⟨k+1+1,ws++[x],rfl,by omega,by go_num,HLEN.out,HWL2.out,HROW.out,HG5.out,HNX.out⟩
   ·have hd:l.drop j=[]:=List.drop_eq_nil_of_le (by omega)
    have hres:rdnS l=some ws:=by rw[HN.out,HS.out,hd];simp[stepsS]
    have HRES:=Hi hres;clear hd hres;go_wp2_with fail
    refine bodyPost_ret (v:=.tuple #[.slice au j cu,.bool true]) (by simp[results,Tryz.results94,go_sem]) rfl ⟨⟨_,by rw[HRES.out];rfl,fun ls e=>?_⟩,HF.out⟩;rw[HRES.out]at e
    cases e
    exact HR.out
theorem right_any (v:Value)(n:List (List Part))(w:World)(h:NameAt w v n)(hf:∀ r∈n,fewB r) :
  Calls Tryz.prog 48 #[v] w fun e w'=>e=.returned (.bool (nameOk n))∧Fz w w':=by
 have H:=Hi h;obtain⟨a,cap,rfl,hc,hm,-⟩:=h
 rcases Nat.lt_or_ge 64 n.length with hl|hl
 ·have hn:nameOk n=false:=by unfold nameOk;rw[decide_eq_false (by omega),Bool.false_and]
  have HN:=Hi hn;have q1:(64:Int)<(n.length:Int):=by omega
  clear hn;go_enter Tryz.func48,Tryz.ntmps48
  go_wp2_with fail
  go_ret;exact⟨by rw[HN.out];rfl,Fr.refl _⟩
 ·have hn:nameOk n=n.all (fun r=>(rdnS r).isSome):=by unfold nameOk;rw[decide_eq_true hl,Bool.true_and]
  have HN:=Hi hn;have q1:¬(64:Int)<(n.length:Int):=by omega
  clear hn;go_enter Tryz.func48,Tryz.ntmps48
  go_wp2_with fail
  go_loopg [12] n.length (fun g i wr=>∃ j:Nat,g=n.length-j∧j≤n.length∧i=.int .i64 j∧(∀ r∈n.take j,(rdnS r).isSome=true)∧Fz w wr)
  case atStart=>exact⟨0,rfl,Nat.zero_le _,rfl,by simp,Fr.refl _⟩
  case round=>
   obtain⟨j,hg,hj,rfl,he,F⟩:=hrel
   have HG:=Hi hg;have HE:=Hi he;have HF:=Hi F;clear hg he;by_cases hjl:j<n.length
   ·obtain⟨a0,cap0,he,_,_,hx⟩:=H.out.old F
    simp only[Value.slice.injEq,true_and]at he
    obtain⟨rfl,rfl⟩:=he
    obtain⟨b,off,rfl,hy⟩:=hx (by omega)
    obtain⟨r,hr⟩:∃ r,n[j]? = some r:=⟨_,List.getElem?_eq_getElem hjl⟩
    obtain⟨x,e1,hA⟩:=hy j r hr
    have r1:(0:Int)≤(j:Int):=by omega
    have r2:(j:Int)<(n.length:Int):=by omega
    have HW:=Hi (wholesRdn_any x r wr hA (hf r (List.mem_of_getElem? hr)));have HR:=Hi hr;clear hx hy hr hA F;obtain⟨o,ho⟩:∃ o,o=(rdnS r).isSome:=⟨_,rfl⟩
    have HO:=Hi ho;rw[←ho]at HW
    clear ho;go_wp2_with fail
    refine HW.out.mono ?_;rintro e w2 ⟨⟨v2,rfl,-⟩,F2⟩;have G2:=HF.out.trans F2;clear HF F2;cases o with
    |false=>
     have hn:n.all (fun r=>(rdnS r).isSome)=false:=by
      rw[List.all_eq_false]
      exact⟨r,List.mem_of_getElem? HR.out,by rw[←HO.out];simp⟩
     have HNN:=Hi hn;clear hn;go_wp2_with fail
     go_ret;exact⟨by rw[HN.out,HNN.out];rfl,G2⟩
    |true=>
     go_wp2_with fail
     go_roundg (n.length-(j+1))
     case measure=>rw[HG.out];omega
     case rel=>
      refine⟨j+1,rfl,by omega,by go_num,fun s hs=>?_,G2⟩
      rw[List.take_add_one,HR.out]at hs
      rcases List.mem_append.1 hs with h|h
      ·exact HE.out s h
      ·simp at h
       rw[h,←HO.out]
   ·have hall:n.all (fun r=>(rdnS r).isSome)=true:=by
     rw[List.all_eq_true]
     have:=HE.out;rwa[List.take_of_length_le (by omega)]at this
    have HNN:=Hi hall;clear hall;go_wp2_with fail
    go_ret;exact⟨by rw[HN.out,HNN.out];rfl,F⟩
end Go.Proofs.YteidmhkobmddiaaGreatDoor
namespace Go.Q
open Go Go.RowKit
theorem ofNat_eq {x:UInt8}{n:Nat}(h:n=x.toNat):UInt8.ofNat n=x:=by subst h;simp
def numberS:Nat→Nat→List UInt8→Except Int (Nat × Nat)
 |_,_,[]=>.error 6
 |i,n,x::t=>if i=0∧x.toNat=128 then .error 6 else if 2147483647<n*128+x.toNat % 128 then .error 2 else if x.toNat<128 then .ok (n*128+x.toNat,i+1) else numberS (i+1) (n*128+x.toNat % 128) t
def addS (o:List Int)(m:Nat):List Int:=if o=[] then (if m<80 then [((m / 40:Nat):Int),((m % 40:Nat):Int)] else [2,(m:Int)-80]) else o++[(m:Int)]
def oidStS (o:List Int)(i n:Nat):List UInt8→Except Int (List Int)
 | []=>if i=0 then .ok o else .error 6
 |x::t=>if i=0∧x.toNat=128 then .error 6 else if 2147483647<n*128+x.toNat % 128 then .error 2 else if x.toNat<128 then (if o.length=32 then .error 2 else oidStS (addS o (n*128+x.toNat)) 0 0 t) else oidStS o (i+1) (n*128+x.toNat % 128) t
def oidParseS (l:List UInt8):Except Int (List Int):=if l=[] then .error 6 else oidStS [] 0 0 l
theorem oidSt_num (o:List Int):∀ (l:List UInt8) (i n:Nat),(i≠0∨l≠[])→oidStS o i n l=match numberS i n l with|.error e=>.error e|.ok (m,k)=>if o.length=32 then .error 2 else oidStS (addS o m) 0 0 (l.drop (k-i))
 | [],i,n,h=>by
  rcases h with h|h
  ·simp[oidStS,numberS,h]
  ·exact absurd rfl h
 |x::t,i,n,_=>by
  simp only[oidStS,numberS]
  split
  ·rfl
  split
  ·rfl
  split
  ·simp only[show i+1-i=1 from by omega,List.drop_succ_cons,List.drop_zero]
  ·have ih:=oidSt_num o t (i+1) (n*128+x.toNat % 128) (.inl (by omega))
   rw[ih]
   have hpos:∀ (l:List UInt8) (i n m k:Nat),numberS i n l=.ok (m,k)→i<k:=by
    intro l;induction l with
    |nil=>intro i n m k h;simp[numberS]at h
    |cons x t ih=>
     intro i n m k h;simp only[numberS]at h
     split at h
     ·cases h
     split at h
     ·cases h
     split at h
     ·simp only[Except.ok.injEq,Prod.mk.injEq]at h
      omega
     ·have:=ih _ _ _ _ h
      omega
   cases hn:numberS (i+1) (n*128+x.toNat % 128) t with
   |error e=>rfl
   |ok mk=>
    obtain⟨m,k⟩:=mk
    have:=hpos _ _ _ _ _ hn;simp only[show k-i=(k-(i+1))+1 from by omega,List.drop_succ_cons]
theorem numberS_back:∀ (l:List UInt8) (i n m k:Nat),(i=0→n=0)→(i≠0→n≠0)→numberS i n l=.ok (m,k)→∃ j,k=i+j∧base128 m=(up7 5 n).reverse++l.take j∧m≤2147483647∧1≤j∧j≤l.length
 | [],i,n,m,k,_,_,h=>by simp[numberS]at h
 |x::t,i,n,m,k,h1,h2,h=>by
  have hx:=x.toNat_lt;simp only[numberS]at h
  split at h
  ·cases h
  rename_i hf;split at h
  ·cases h
  rename_i hm;split at h
  ·rename_i hs
   simp only[Except.ok.injEq,Prod.mk.injEq]at h
   obtain⟨rfl,rfl⟩:=h
   refine⟨1,rfl,?_,by omega,Nat.le_refl _,by simp⟩
   unfold base128;rw[show (n*128+x.toNat) % 128=x.toNat from by omega,show (n*128+x.toNat) / 128=n from by omega,ofNat_eq rfl]
   simp
  ·rename_i hs
   have hn':n*128+x.toNat % 128≠0:=by
    rcases Nat.eq_zero_or_pos i with h0|h0
    ·have:=h1 h0
     omega
    ·have:=h2 (by omega)
     omega
   obtain⟨j,rfl,g1,g2,g3,g4⟩:=numberS_back t (i+1) _ m k (fun h=>by omega) (fun _=>hn') h
   refine⟨j+1,by omega,?_,g2,by omega,by simp;omega⟩
   rw[g1]
   have e:up7 5 (n*128+x.toNat % 128)=x::up7 5 n:=by
    rw[up7,if_neg hn',show (n*128+x.toNat % 128) / 128=n from by omega,ofNat_eq (x:=x) (by omega),up7_ge 4 n (Nat.lt_of_le_of_lt (show n≤16777216 by omega) (by decide))]
   rw[e]
   simp
def partBytes (o:List Int):List UInt8:=if o=[] then [] else oidBytes o
def goodO (o:List Int):Prop:=o.length≤32∧(o=[]∨oidOk o=true)
def oidReadS (l:List UInt8):Except Int (List Int × Nat):=
 match openS (tagOf 6) l with
 |.error e=>.error e
 |.ok (x,k)=>match oidParseS x with
  |.error e=>.error e
  |.ok o=>.ok (o,k)
def partReadS (l:List UInt8):Except Int (Part × Nat):=
 match openS (tagOf 16) l with
 |.error e=>.error e
 |.ok (y,m)=>match oidReadS y with
  |.error e=>.error e
  |.ok (o,q)=>match oneS (y.drop q) with
   |.error e=>.error e
   |.ok (_,_,n)=>if n<y.length-q then .error 7 else .ok (⟨o,y.drop q⟩,m)
def rdnGoS:Nat→List Part→List UInt8→List UInt8→Except Int (List Part)
 |_,out,_,[]=>if out.length=0 then .error 6 else .ok out
 |0,_,_,_::_=>.error 3
 |f+1,out,last,x::t=>
  if out.length=16 then .error 2 else
  match partReadS (x::t) with
  |.error e=>.error e
  |.ok (p,m)=>if out.length≠0∧cmpS last ((x::t).take m)=0 then .error 10 else if out.length≠0∧0<cmpS last ((x::t).take m) then .error 9 else rdnGoS f (out++[p]) ((x::t).take m) ((x::t).drop m)
def rdnSt (out:List Part)(last l:List UInt8):Except Int (List Part):=rdnGoS l.length out last l
def rdnReadS (l:List UInt8):Except Int (List Part × Nat):=
 match openS (tagOf 17) l with
 |.error e=>.error e
 |.ok (x,k)=>match rdnSt [] [] x with
  |.error e=>.error e
  |.ok r=>.ok (r,k)
def nameGoS:Nat→List (List Part)→List UInt8→Except Int (List (List Part))
 |_,out,[]=>.ok out
 |0,_,_::_=>.error 3
 |f+1,out,x::t=>
  if out.length=64 then .error 2 else
  match rdnReadS (x::t) with
  |.error e=>.error e
  |.ok (r,k)=>nameGoS f (out++[r]) ((x::t).drop k)
def nameSt (out:List (List Part))(l:List UInt8):Except Int (List (List Part)):=nameGoS l.length out l
def nameReadS (l:List UInt8):Except Int (List (List Part) × Nat):=
 match openS (tagOf 16) l with
 |.error e=>.error e
 |.ok (x,k)=>match nameSt [] x with
  |.error e=>.error e
  |.ok n=>.ok (n,k)
def nameParseS (l:List UInt8):Except Int (List (List Part)):=
 match nameReadS l with
 |.error e=>.error e
 |.ok (n,k)=>if k<l.length then .error 7 else .ok n
end Go.Q
namespace Go.Proofs.YteidmhkobmddiaaGreatDoor
open Go Go.RowKit Go.Q
theorem str_of {w:World}{v:Value}{l:List UInt8}(h:Bytes w v l):(Go.convert 32 9 v).run Tryz.prog w=.ok (str l) w:=by
 obtain⟨a,cap,rfl,hc,hm,hx⟩:=h.form
 rcases Nat.eq_zero_or_pos l.length with h0|h0
 ·obtain rfl:l=[]:=List.length_eq_zero_iff.1 h0
  exact run_convert_bytes_zero w 32 5 Tryz.underlying32 Tryz.underlying5 a cap 9 Tryz.underlying9
 ·obtain⟨b,o,rfl,hy⟩:=hx h0
  exact run_convert_bytes_back w 32 9 5 _ cap l Tryz.underlying32 Tryz.underlying5 Tryz.underlying9 (fun j hj=>by
   rw[show (⟨b,o,none⟩:Addr).add j=⟨b,o+j,none⟩ from by unfold Addr.add;split<;>simp_all]
   exact hy j _ (List.getElem?_eq_getElem hj))
theorem bytes_of_str (w:World)(l:List UInt8)(hl:l.length≤1099511627776):∃ c w',(Go.convert 9 32 (str l)).run Tryz.prog w=.ok (.slice (some ⟨w.heap.size,0,none⟩) l.length c) w'∧Bytes w' (.slice (some ⟨w.heap.size,0,none⟩) l.length c) l∧Fz w w'∧w'.heap.size=w.heap.size+1:=by
 have hr:=Lib.run_convert_string_bytes (P:=Tryz.prog) w 9 32 5 ⟨l.toArray⟩ Tryz.underlying9 Tryz.underlying32 Tryz.underlying5;have hs:(ByteArray.mk l.toArray).size=l.length:=by simp[ByteArray.size]
 rw[hs]at hr
 refine⟨_,_,hr,?_,⟨rfl,rfl,rfl,by rw[Lib.bytesWorld_size];omega,fun k hk _=>Lib.bytesWorld_at_old _ _ _ _ hk⟩,Lib.bytesWorld_size _ _ _⟩
 refine⟨_,_,by rw[byteCells_len],?_,?_,fun _=>⟨w.heap.size,0,rfl,fun i u hu=>?_⟩⟩
 ·rw[byteCells_len];exact grownCap_ge _ _ _ _
 ·exact grownCap_le_maxLen _ _ _ _ (by unfold maxLen;omega)
 ·rw[byteCells_get]at hu
  cases hli:l[i]? with
  |none=>rw[hli]at hu;cases hu
  |some x=>
   rw[hli]at hu
   simp only[Option.map_some,Option.some.injEq]at hu
   subst hu;have hi:=(List.getElem?_eq_some_iff.1 hli).1;rw[Nat.zero_add,Lib.bytesWorld_cell _ _ _ _ (by rw[hs];exact hi)]
   simp[List.getD_eq_getElem?_getD,hli]
def WideOut (w w':World)(b:List UInt8)(e:Ending):Prop:=
 ∃ v,e=.returned (.tuple #[v,.bool (wideR b).isSome])∧Ints w' v (natInts ((wideR b).getD []))∧Fz w w'
def RSigOut (w w':World)(k:Int)(b:List UInt8)(e:Ending):Prop:=
 ∃ v,e=.returned (.tuple #[v,.bool (sigR k b).isSome])∧Ints w' v ((sigR k b).getD [])∧Fz w w'
theorem known_any (k:Int)(w:World) :
  Calls Tryz.prog 252 #[.int .i64 k] w fun e w'=>e=.returned (.bool (Go.Q.kindOk k))∧Fz w w':=by
 have F:Fz w (w.alloc (.cells #[.int .i64 12,.int .i64 19,.int .i64 20,.int .i64 22,.int .i64 26,.int .i64 30] 3)):=(Fr.refl w).alloc _;have B:=Blk.new w 3 #[.int .i64 12,.int .i64 19,.int .i64 20,.int .i64 22,.int .i64 26,.int .i64 30];have H:=Go.Proofs.Tryz.slices_Contains_int w.heap.size 0 6 6 [12,19,20,22,26,30] k _ (by simp) (by omega) (fun j hj=>by
  rw[Nat.zero_add,B.cell]
  match j,hj with
  |0,_=>rfl
  |1,_=>rfl
  |2,_=>rfl
  |3,_=>rfl
  |4,_=>rfl
  |5,_=>rfl
  |j+6,hj=>simp at hj;omega)
 rw[show ([12,19,20,22,26,30]:List Int).take 6=[12,19,20,22,26,30] from rfl,kind_contains]at H
 have HH:=Hi H;have HF:=Hi F;clear H F B;go_enter Tryz.func252,Tryz.ntmps252
 go_wp2_with (first|(go_at_call 301;go_in))
 refine HH.out.mono ?_;rintro e w' ⟨rfl,rfl⟩;go_wp2_with fail
 go_ret;exact⟨rfl,HF.out⟩
theorem surr_any (n:Int)(w:World) :
  Calls Tryz.prog 305 #[.int .i64 n] w fun e w'=>e=.returned (.bool (surr n))∧w=w':=by
 have hs:surr n=if 55296≤n then (if n≤57343 then true else false) else false:=by
  unfold surr;split
  ·split
   ·exact decide_eq_true (by omega)
   ·exact decide_eq_false (by omega)
  ·exact decide_eq_false (by omega)
 have HS:=Hi hs;clear hs;rcases Int.lt_or_le n 55296 with h1|h1
 ·have q1:¬(55296:Int)≤n:=by omega
  go_enter Tryz.func305,Tryz.ntmps305
  go_wp2_with fail
  go_ret;exact⟨by rw[HS.out,if_neg (by omega)];rfl,rfl⟩
 ·rcases Int.lt_or_le 57343 n with h2|h2
  ·have q2:¬n≤(57343:Int):=by omega
   go_enter Tryz.func305,Tryz.ntmps305
   go_wp2_with fail
   go_ret;exact⟨by rw[HS.out,if_pos h1,if_neg (by omega)];rfl,rfl⟩
  ·go_enter Tryz.func305,Tryz.ntmps305
   go_wp2_with fail
   go_ret;exact⟨by rw[HS.out,if_pos h1,if_pos h2];rfl,rfl⟩
theorem printable_any (n:Int)(w:World) :
  Calls Tryz.prog 306 #[.int .i64 n] w fun e w'=>e=.returned (.bool (mayS 19 n))∧w=w':=by
 go_enter Tryz.func306,Tryz.ntmps306
 go_wp2_with (first|(go_at_call 357;refine(Go.Proofs.Tryz.strings_IndexByte _ _ w).mono ?_;rintro e w' ⟨rfl,rfl⟩))
 all_goals
  go_ret;refine⟨?_,rfl⟩
  rw[←printB_eq]
  first
  |(have e:printB n=true:=by unfold printB;rw[Bool.or_eq_true];left;simp only[Bool.or_eq_true,decide_eq_true_eq];omega
    rw[e];rfl)
  |(have e:printB n=false:=by unfold printB;rw[decide_eq_false (by omega),decide_eq_false (by omega),decide_eq_false (by omega),decide_eq_false (by omega)];rfl
    rw[e];rfl)
  |(have e:printB n=decide (0≤Lib.indexByte [32,39,40,41,43,44,45,46,47,58,61,63] (UInt8.ofNat n.toNat)):=by
     unfold printB;rw[decide_eq_false (by omega),decide_eq_false (by omega),decide_eq_false (by omega),decide_eq_true (by omega)];rfl
    have hw:IntKind.u8.wrap n=n:=by simp[IntKind.wrap,IntKind.signed,IntKind.bits];omega
    have e2:UInt8.ofNat n.toNat=(IntKind.u8.wrap n).toNat.toUInt8:=by rw[hw]
    rw[e,e2]
    rfl)
theorem may_any (k n:Int)(w:World) :
  Calls Tryz.prog 254 #[.int .i64 k,.int .i64 n] w fun e w'=>e=.returned (.bool (mayS k n))∧w=w':=by
 have hk:k=12∨k=19∨k=20∨k=22∨k=26∨k=30∨(k≠12∧k≠19∧k≠20∧k≠22∧k≠26∧k≠30):=by omega
 rcases hk with rfl|rfl|rfl|rfl|rfl|rfl|⟨h1,h2,h3,h4,h5,h6⟩
 case' inr.inr.inr.inr.inr.inr=>
  have q1:(k==12)=false:=beq_eq_false_iff_ne.2 h1;have q2:(k==19)=false:=beq_eq_false_iff_ne.2 h2;have q3:(k==20)=false:=beq_eq_false_iff_ne.2 h3;have q4:(k==22)=false:=beq_eq_false_iff_ne.2 h4;have q5:(k==26)=false:=beq_eq_false_iff_ne.2 h5;have q6:(k==30)=false:=beq_eq_false_iff_ne.2 h6
 all_goals
  go_enter Tryz.func254,Tryz.ntmps254
  go_wp2_with (first|(go_at_call 305;refine(surr_any _ w).mono ?_;rintro e w' ⟨rfl,rfl⟩)|(go_at_call 306;refine(printable_any _ w).mono ?_;rintro e w' ⟨rfl,rfl⟩))
  all_goals
   go_ret;refine⟨?_,rfl⟩
   refine congrArg (fun z=>Ending.returned (Value.bool z)) ?_;first
   |rfl
   |(unfold mayS;simp only[*,Int.reduceEq,if_false,if_true];done)
   |(simp[mayS, *];done)
   |(simp[mayS];omega)
end Go.Proofs.YteidmhkobmddiaaGreatDoor
