/-
  Merged by program: XIxSd XIxSide2 XIxPairs XIxSeq2 XIxLike XIxFence XIxAdd XIxSame.
-/
import Derived.Test.YtehlipgmkinfbaaGreatDoorP0as
import Derived.OrdersIn
set_option linter.unusedSimpArgs false
set_option maxRecDepth 100000
set_option maxHeartbeats 8000000
namespace Go.Q
open Go Go.RowKit
section
variable {α κ:Type} [DecidableEq κ] {lt:κ→κ→Bool}{key:α→κ}
theorem sideI_in {L M:List α}:∀ (l m:List α) (i j:Nat),L.drop i=l→M.drop j=m→∀ p∈sideI lt key l m i j,(∃ i' r,p=(some i',none)∧L[i']? = some r)∨(∃ j' s,p=(none,some j')∧M[j']? = some s)∨∃ i' j' r s,p=(some i',some j')∧L[i']? = some r∧M[j']? = some s
 | [],[],i,j,_,_,p,hp=>by rw[sideI]at hp;cases hp
 |x::l,[],i,j,h1,h2,p,hp=>by
  obtain⟨g1,g2⟩:=drop_next h1
  rw[sideI]at hp
  rcases List.mem_cons.1 hp with e|e
  ·exact .inl ⟨i,x,e,g1⟩
  ·exact sideI_in l [] (i+1) j g2 h2 p e
 | [],y::m,i,j,h1,h2,p,hp=>by
  obtain⟨g1,g2⟩:=drop_next h2
  rw[sideI]at hp
  rcases List.mem_cons.1 hp with e|e
  ·exact .inr (.inl ⟨j,y,e,g1⟩)
  ·exact sideI_in [] m i (j+1) h1 g2 p e
 |x::l,y::m,i,j,h1,h2,p,hp=>by
  obtain⟨a1,a2⟩:=drop_next h1
  obtain⟨b1,b2⟩:=drop_next h2
  rw[sideI]at hp
  split at hp
  ·rcases List.mem_cons.1 hp with e|e
   ·exact .inl ⟨i,x,e,a1⟩
   ·exact sideI_in l (y::m) (i+1) j a2 h2 p e
  ·split at hp
   ·rcases List.mem_cons.1 hp with e|e
    ·exact .inr (.inr ⟨i,j,x,y,e,a1,b1⟩)
    ·exact sideI_in l m (i+1) (j+1) a2 b2 p e
   ·rcases List.mem_cons.1 hp with e|e
    ·exact .inr (.inl ⟨j,y,e,b1⟩)
    ·exact sideI_in (x::l) m i (j+1) h1 b2 p e
termination_by l m=>l.length+m.length
end
abbrev sideP (L M:List RowP):List (Option Nat × Option Nat):=sideI ltK rowK L M 0 0
theorem sideP_map (L M:List RowP):(sideP L M).map (atP L M)=sideR L M:=sideI_map L M 0 0 rfl rfl
theorem pairsV_0 (a b:Option Addr)(L M:List RowP):pairsV a b L M 0 0=(sideP L M).map (pairV a b):=rfl
theorem pair_at {a b:Option Addr}{L M:List RowP}{pre rest:List Value}{x:Value}(h:pairsV a b L M 0 0=pre++x::rest):∃ p,(sideP L M)[pre.length]? = some p∧x=pairV a b p∧(sideR L M)[pre.length]? = some (atP L M p)∧((∃ i' r,p=(some i',none)∧L[i']? = some r)∨(∃ j' s,p=(none,some j')∧M[j']? = some s)∨∃ i' j' r s,p=(some i',some j')∧L[i']? = some r∧M[j']? = some s):=by
 have h1:(pairsV a b L M 0 0)[pre.length]? = some x:=by rw[h,List.getElem?_append_right (Nat.le_refl _),Nat.sub_self];rfl
 rw[pairsV_0,List.getElem?_map]at h1
 cases hp:(sideP L M)[pre.length]? with
 |none=>rw[hp]at h1;cases h1
 |some p=>
  rw[hp]at h1
  refine⟨p,rfl,(Option.some.inj h1).symm,?_,sideI_in L M 0 0 rfl rfl p (List.mem_of_getElem? hp)⟩
  rw[←sideP_map,List.getElem?_map,hp]
  rfl
theorem pair_form {a b:Option Addr}{L M:List RowP}{pre rest:List Value}{x:Value}(h:pairsV a b L M 0 0=pre++x::rest):∃ p q,x=.agg #[.pointer p,.pointer q]:=by
 obtain⟨p,-,rfl,-⟩:=pair_at h
 have:∀ (a:Option Addr) (i:Option Nat),∃ p,ptrAt a i=.pointer p:=fun a i=>by
  unfold ptrAt;split
  ·exact⟨_,rfl⟩
  ·exact⟨_,rfl⟩
 obtain⟨q1,h1⟩:=this a p.1
 obtain⟨q2,h2⟩:=this b p.2
 exact⟨q1,q2,by unfold pairV;rw[h1,h2]⟩
theorem pairsV_len (a b:Option Addr)(L M:List RowP):(pairsV a b L M 0 0).length=(sideR L M).length:=by
 rw[pairsV_0,List.length_map,←sideP_map,List.length_map]
theorem take_more {α:Type}{l:List α}{n:Nat}{x:α}(h:l[n]? = some x):l.take (n+1)=l.take n++[x]:=by
 rw[List.take_add_one,h]
 rfl
theorem slot_row {w:World}{a:Option Addr}{c:Nat}{l:List RowP}(h:Slots w (.slice a l.length c) l){i:Nat}{r:RowP}(hi:l[i]? = some r):∃ b o us,a=some ⟨b,o,none⟩∧us.length=6∧RRow w us r∧RSlot w (str (nameKeyS r.iss)::us) r∧w.cell? ⟨b,o+i*7,none⟩=some (str (nameKeyS r.iss))∧∀ j u,us[j]? = some u→w.cell? ⟨b,o+i*7+1+j,none⟩=some u:=by
 obtain⟨b,o,cs,rfl,-,h1,h2,h3⟩:=LAt.get h hi
 have h20:=h2;obtain⟨us,rfl,hR⟩:=h2
 refine⟨b,o,us,rfl,by simpa using h1,hR,h20,by simpa using h3 0 _ rfl,fun j u hu=>?_⟩
 have:=h3 (j+1) u (by rw[List.getElem?_cons_succ];exact hu);rwa[show o+i*7+(j+1)=o+i*7+1+j by omega]at this
variable {P:Program}
theorem range_lawW {g:Operand}{ps:Array Tmp}{assign body:Code}{Q:Exit→Act→World→Prop}{a:Act}{w:World}
  {gf:Nat}{lb:Array Value}(hg:a.eval g=.func (.func gf) #[] lb) (eg:∀ args w,(callFunc gf args).run P w=.ok (.enter gf args) w)
  {xs:List Value}{C:Nat→Prop}{base:Nat}(hcb:∀ k,C k→k<w.heap.size) (hbase:base≤w.heap.size) (hseq:IterV P gf lb xs C base w) (hps:ps.size=1)
  (I:List Value→World→Prop) (Ix:Code→List Value→World→Prop)
  (hI:∀ s A B,I s A→Fr (fun k=>C k∨k=w.heap.size∨k=w.heap.size+1) A B→I s B)
  (hIx:∀ c s A B,Ix c s A→Fr (fun k=>C k∨k=w.heap.size∨k=w.heap.size+1) A B→Ix c s B) (h0:I [] w) (a₁:Value→World→Act) (W₁:Value→World→World) (hW₁:∀ x W,Fz W (W₁ x W))
  (hassign:∀ (l:Nat) (pre:List Value) (x:Value) (rest:List Value) (W:World) (K:Act→World→Prop),xs=pre++x::rest→K (a₁ x W) (W₁ x W)→
    assign.wpIn (Fence.wide.inRound l) 1 P (Exit.then K (fun _ _ _=>False)) { tmps:=(ps.zip #[x]).foldl (fun t (p,v)=>t.setIfInBounds p v) a.tmps,defers:=[] } W)
  (hbody:∀ (l:Nat) (pre:List Value) (x:Value) (rest:List Value) (W W2:World),xs=pre++x::rest→I pre W→w.heap.size+2≤W.heap.size→Fr (fun k=>k=w.heap.size+1) (W₁ x W) W2→body.wpIn (Fence.wide.inRound l) 1 P (seqPostV I Ix base C w.heap.size (pre++[x]) W2) (a₁ x W) W2)
  (hdone:∀ (D:Nat) (W:World),D=w.heap.size→I xs W→W.heap[D]? = some (.deferred (some []))→Q .normal { a with defers:={ target:=.collected D,args:=#[] }::a.defers } W)
  (hstop:∀ (D:Nat) (c:Code) (pre:List Value) (W:World),D=w.heap.size→pre <+: xs→Ix c pre W→W.heap[D]? = some (.deferred (some []))→c.wpIn Fence.wide 3 P Q { a with defers:={ target:=.collected D,args:=#[] }::a.defers } W) :
  (Code.rangeFunc g ps assign body).wpIn Fence.wide 3 P Q a w:=by
 refine wpIn_rangeFunc ?_;intro fn hfn;obtain⟨E,hE⟩:∃ E,E=w.heap.size:=⟨_,rfl⟩
 obtain⟨rec,hrec⟩:∃ rec:LoopState→Option Code→Loop,rec=fun st pe=>{ state:=st,pending:=pe,fn,tmps:=a.tmps,params:=ps,assign,body,defers:=E }:=⟨_,rfl⟩
 obtain⟨W1,hW1⟩:∃ W1,W1=(w.alloc (.deferred (some []))).alloc (.loop (rec .ready none)):=⟨_,rfl⟩
 have F1:Fz w W1:=by rw[hW1];exact((Fr.refl w).alloc _).alloc _
 have hL1:W1.heap[E+1]? = some (.loop (rec .ready none)):=by
  rw[hW1,hE]
  have:=World.alloc_heap_new (w.alloc (.deferred (some []))) (.loop (rec .ready none));rwa[World.size_alloc]at this
 have hK1:W1.heap[E]? = some (.deferred (some [])):=by
  rw[hW1,hE]
  exact(Below.heap_alloc _ _ _ (by simp)).trans (World.alloc_heap_new w _)
 have hI1:I [] W1:=hI [] w W1 h0 (F1.mono (fun _ _ h=>h.elim));have keep:∀ {S:Nat→Prop}{A B:World}{k:Nat}{o:Obj},Fr S A B→A.heap[k]? = some o→¬S k→B.heap[k]? = some o:=fun f h hS=>
  (f.block _ (Array.getElem?_eq_some_iff.1 h).1 hS).trans h
 have hcbE:∀ k,C k→k<E:=fun k h=>by rw[hE];exact hcb k h
 refine⟨E+1,[{ target:=.collected E,args:=#[] }],W1,{ target:=.fn (.func gf) lb,args:=#[.func (.yield (E+1)) #[] #[]] },W1,gf,
  #[.func (.yield (E+1)) #[] #[]]++lb,W1,?_,?_,fun _ _=>trivial,?_,fun _=>by decide,?_⟩
 ·rw[hW1,hrec,hE]
  exact run_enterLoop_outer _ _ _ _ _
 ·simp only[resolve,hg]
  simp[go_sem]
 ·simp[invoke,go_sem,eg]
 refine(hseq (E+1)
  (fun pre W=>I pre W∧W.heap[E+1]? = some (.loop (rec .ready none))∧W.heap[E]? = some (.deferred (some [])))
  (fun pre W=>∃ c,Ix c pre W∧W.heap[E+1]? = some (.loop (rec .done (some c)))∧W.heap[E]? = some (.deferred (some [])))
  W1 F1 ?_ ?_ ?_ ⟨hI1,hL1,hK1⟩).mono ?_
 ·rintro s A B ⟨hi,hl,hk⟩ f
  exact⟨hI s A B hi (f.mono (fun _ _ h=>.inl h)),keep f hl (fun h=>by have:=hcbE _ h;omega),keep f hk (fun h=>by have:=hcbE _ h;omega)⟩
 ·rintro s A B ⟨c,hi,hl,hk⟩ f
  exact⟨c,hIx c s A B hi (f.mono (fun _ _ h=>.inl h)),keep f hl (fun h=>by have:=hcbE _ h;omega),keep f hk (fun h=>by have:=hcbE _ h;omega)⟩
 ·rintro pre x rest W hxs ⟨hi,hl,hk⟩
  have hlt:E+1<W.heap.size:=(Array.getElem?_eq_some_iff.1 hl).1;have hy:=run_yield (P:=P) (args:=#[x]) hl (by rw[hrec];simp[hps]);rw[hrec]at hy
  have FA:=hW₁ x W;obtain⟨WA,hWA⟩:∃ WA,WA=W₁ x W:=⟨_,rfl⟩
  have hlA:WA.heap[E+1]? = some (.loop (rec .ready none)):=by rw[hWA];exact keep FA hl (fun h=>h)
  have hkA:WA.heap[E]? = some (.deferred (some [])):=by rw[hWA];exact keep FA hk (fun h=>h)
  refine⟨fn,_,assign,body,hy,roundIn_of_wpIn hfn (hassign _ pre x rest W _ hxs ?_)⟩
  rw[←hWA]
  refine⟨_,run_beginRound hlA (by rw[hrec]),?_⟩
  obtain⟨W2,hW2⟩:∃ W2,W2=WA.putObj (E+1) (.loop { rec .ready none with state:=.busy }):=⟨_,rfl⟩
  have F2A:Fr (fun k=>k=E+1) WA W2:=by rw[hW2];exact Fr.putObj (S:=fun k=>k=E+1) (Fr.refl WA) (E+1) (fun _=>rfl) _
  have F2:Fr (fun k=>k=E+1) W W2:=((by rw[hWA];exact FA:Fz W WA).mono (fun _ _ h=>h.elim)).trans F2A;have hltA:E+1<WA.heap.size:=(Array.getElem?_eq_some_iff.1 hlA).1;have hl2:W2.heap[E+1]? = some (.loop { rec .ready none with state:=.busy }):=by rw[hW2];exact World.putObj_heap_same hltA
  have hk2:W2.heap[E]? = some (.deferred (some [])):=keep F2A hkA (by omega);rw[←hW2]
  refine wpIn_mono (hbody _ pre x rest W W2 hxs hi (by rw[←hE];omega) (by rw[←hE,←hWA];exact F2A)) ?_;have fin:∀ (jump:Option Code) (W3:World),Fr (fun k=>base≤k∧¬C k∧k≠E∧k≠E+1) W2 W3→
    (Instr.endRound (E+1) jump).run P W3=.ok (.bool jump.isNone) (W3.putObj (E+1) (.loop (rec (if jump.isNone then .ready else .done) jump)))∧
    (W3.putObj (E+1) (.loop (rec (if jump.isNone then .ready else .done) jump))).heap[E+1]? = some (.loop (rec (if jump.isNone then .ready else .done) jump))∧
    (W3.putObj (E+1) (.loop (rec (if jump.isNone then .ready else .done) jump))).heap[E]? = some (.deferred (some []))∧
    Fr (fun k=>C k∨k=w.heap.size∨k=w.heap.size+1) W3 (W3.putObj (E+1) (.loop (rec (if jump.isNone then .ready else .done) jump)))∧
    Fr (fun k=>base≤k∧¬C k) W (W3.putObj (E+1) (.loop (rec (if jump.isNone then .ready else .done) jump))):=fun jump W3 f3=>by
   have hl3:=keep f3 hl2 (by simp);have hk3:=keep f3 hk2 (by simp);have hr:=run_endRound (P:=P) jump hl3;have f4:Fr (fun k=>k=E+1) W3 (W3.putObj (E+1) (.loop (rec (if jump.isNone then .ready else .done) jump))):=Fr.putObj (S:=fun k=>k=E+1) (Fr.refl W3) (E+1) (fun _=>rfl) _;have g:∀ k,k=E+1→base≤k∧¬C k:=fun k e=>⟨by omega,fun h=>by have:=hcbE k h;omega⟩
   refine⟨?_,World.putObj_heap_same (Array.getElem?_eq_some_iff.1 hl3).1,keep f4 hk3 (by omega),f4.mono (fun _ _ h=>.inr (.inr (by rw[←hE];exact h))),?_⟩
   ·rw[hr,hrec]
   ·exact((F2.mono (fun k _ h=>g k h)).trans (f3.mono (fun _ _ h=>⟨h.1,h.2.1⟩))).trans (f4.mono (fun k _ h=>g k h))
  rw[←hE]
  rintro e a3 W3 hp;cases e with
  |normal=>
   obtain⟨f3,hi3⟩:=hp
   obtain⟨hr,hl4,hk4,f4,f5⟩:=fin none W3 f3
   exact⟨_,_,hr,.inl ⟨rfl,⟨hI _ _ _ hi3 f4,hl4,hk4⟩,f5⟩⟩
  |ret=>
   obtain⟨f3,hi3⟩:=hp
   obtain⟨hr,hl4,hk4,f4,f5⟩:=fin (some .ret) W3 f3
   exact⟨_,_,hr,.inr ⟨rfl,.ret,hIx _ _ _ _ hi3 f4,hl4,hk4⟩⟩
  |exit id=>
   obtain⟨f3,hi3⟩:=hp
   obtain⟨hr,hl4,hk4,f4,f5⟩:=fin (some (.exit id)) W3 f3
   exact⟨_,_,hr,.inr ⟨rfl,.exit id,hIx _ _ _ _ hi3 f4,hl4,hk4⟩⟩
  |goto t=>
   obtain⟨f3,hi3⟩:=hp
   obtain⟨hr,hl4,hk4,f4,f5⟩:=fin (some (.goto t)) W3 f3
   exact⟨_,_,hr,.inr ⟨rfl,.goto t,hIx _ _ _ _ hi3 f4,hl4,hk4⟩⟩
  |panic ch=>exact hp.elim
  |outgrown=>exact hp.elim
 ·rintro e W2 ⟨⟨v,rfl⟩,(⟨hi,hl,hk⟩|⟨pre,hpre,c,hi,hl,hk⟩)⟩
  ·have hr:=run_endLoop (P:=P) hl (by rw[hrec];simp)
   rw[hrec]at hr
   refine⟨none,_,hr,hdone E _ hE (hI _ _ _ hi ((Fr.refl W2).putObj _ (fun _=>.inr (.inr (by omega))) _)) ((World.putObj_heap_other (by omega)).trans hk)⟩
  ·have hr:=run_endLoop (P:=P) hl (by rw[hrec];simp)
   rw[hrec]at hr
   refine⟨some c,_,hr,hstop E c pre _ hE hpre (hIx c _ _ _ hi ((Fr.refl W2).putObj _ (fun _=>.inr (.inr (by omega))) _)) ((World.putObj_heap_other (by omega)).trans hk)⟩
open Go
def noDefer (ops:Array Oper):Bool:=ops.all (fun o=>match o.op with
 |.defer _=>false
 |_=>true)
theorem noDefer_spec {ops:Array Oper}(h:noDefer ops=true){i:Nat}{o:Oper}(ho:ops[i]? = some o):∀ c,o.op≠.defer c:=fun c e=>by
 have hm:=Array.mem_of_getElem? ho;have:=Array.all_eq_true'.1 h o hm;rw[e]at this
 cases this
section
variable {P:Program}{ops:Array Oper}{Q:Exit→Act→World→Prop}
theorem wpOps_wide {l n:Nat}(hQ:¬LetsOut Q)(hd:noDefer ops=true):∀ (s:List Nat) (a:Act) (w:World),wpOps P ops Q s a w→wpOpsIn (Fence.wide.inRound l) n P ops Q s a w
 | [],a,w,h=>h
 |i::rest,a,w,h=>by
  unfold wpOps at h;unfold wpOpsIn;split
  ·rename_i hn
   rw[hn]at h
   exact wpOps_wide hQ hd rest a w h
  ·rename_i o ho
   rw[ho]at h
   simp only at h
   split
   ·rename_i hw
    rw[if_pos hw]at h
    rcases h with h|⟨-,h⟩
    ·refine⟨fun _ _=>trivial,?_⟩
     rw[Oper.semAt_eq _ _ _ (noDefer_spec hd ho)]
     unfold Oper.wp at h;generalize (execOp a.eval o).run P w=r at *
     cases r with
     |ok x w'=>
      cases x<;>simp only[Oper.upon,Oper.uponIn]at h ⊢
      all_goals first
       |exact wpOps_wide hQ hd rest _ _ h
       |(refine⟨fun h=>by simp[Fence.wide,Fence.inRound]at h,(CallsIn.inRound l (callsIn_wide.2 h)).mono ?_⟩
         intro e w'' he;cases e with
         |returned v=>exact wpOps_wide hQ hd rest _ _ he
         |panicked ch=>exact he
         |outgrown=>exact he)
       |(refine⟨fun h=>by simp[Fence.wide,Fence.inRound]at h,fun c cs _=>?_⟩
         obtain⟨v,w'',r,s⟩:=h c cs
         exact⟨v,w'',wpOps_wide hQ hd rest _ _ r,stepsIn_wide.2 s⟩)
       |exact h.elim
     |halt x w'=>
      cases x<;>simp only[Oper.upon,Oper.uponIn]at h ⊢<;>first|exact h|exact h.elim
    ·exact absurd h hQ
   ·rename_i hw
    rw[if_neg hw]at h
    exact⟨fun _ _=>trivial,wpOps_wide hQ hd rest _ _ h⟩
theorem wpIn_region_wide {l n id:Nat}{a:Act}{w:World}(hm:P.follows .mixedOrders=true)(hd:noDefer ops=true)(hQ:¬LetsOut Q)
  (h:wpAny P .any ops Q ops.size (Array.replicate ops.size false) a w.drew):(Code.region id ops true).wpIn (Fence.wide.inRound l) n P Q a w:=
 wpIn_region_draw fun t=>by
  simp only[Region.schedule,hm,Bool.true_or,if_true]
  exact wpOps_wide hQ hd _ _ _ (wpAny_sound ops.size t _ a _ h)
theorem wpIn_region_N {md:Nat}{S:World→Prop}(n:Nat){l id:Nat}{a:Act}{w:World}(hm:P.follows .mixedOrders=true)(hd:noDefer ops=true)(hQ:¬LetsOut Q)(hS:S w.drew)
  (h:S w.drew→wpAnyN P .any ops Q S n ops.size (Array.replicate ops.size false) a w.drew):(Code.region id ops true).wpIn (Fence.wide.inRound l) md P Q a w:=
 wpIn_region_wide hm hd hQ (wpAny_ofN _ _ _ _ (h hS))
end
def IxOwn (W:World)(b base:Nat)(l:List RowP):Prop:=∃ a c,b<base∧Blk W b 73 #[.slice a l.length c]∧GRow 7 RSlot (fun k=>k<base) 78 W base (.slice a l.length c) l
theorem IxOwn.at {W:World}{b base:Nat}{l:List RowP}(h:IxOwn W b base l):IxAt W (pt b) l:=by
 obtain⟨a,c,-,h1,h2⟩:=h
 exact .inr ⟨b,_,rfl,h1.cell 0,h2.at (by decide)⟩
theorem IxOwn.fr {S:Nat→Prop}{W W':World}{b base:Nat}{l:List RowP}(h:IxOwn W b base l)(f:Fr S W W')(hS:∀ k,S k→k<base∧k≠b):IxOwn W' b base l:=by
 obtain⟨a,c,h0,h1,h2⟩:=h
 have hk:=h2.keep;exact⟨a,c,h0,h1.fr f (fun e=>(hS b e).2 rfl),h2.fr f (fun k _ e=>(hS k e).1) (fun k e hs=>by have:=(hk k e).1;have:=(hS k hs).1;omega)⟩
def IxOwnT (W:World)(b base top:Nat)(l:List RowP):Prop:=∃ a c,b<base∧Blk W b 73 #[.slice a l.length c]∧GRow 7 RSlot (fun k=>k<base) 78 W base (.slice a l.length c) l∧∀ k,(Value.slice a l.length c).ownBlock=some k→k<top
theorem IxOwn.top {W:World}{b base:Nat}{l:List RowP}(h:IxOwn W b base l):IxOwnT W b base W.heap.size l:=by
 obtain⟨a,c,h0,h1,h2⟩:=h
 exact⟨a,c,h0,h1,h2,fun k hk=>(h2.keep k hk).2⟩
theorem IxOwnT.fr {S:Nat→Prop}{W W':World}{b base top:Nat}{l:List RowP}(h:IxOwnT W b base top l)(f:Fr S W W')(hS:∀ k,S k→k<base∧k≠b):IxOwnT W' b base top l:=by
 obtain⟨a,c,h0,h1,h2,h3⟩:=h
 have hk:=h2.keep;exact⟨a,c,h0,h1.fr f (fun e=>(hS b e).2 rfl),h2.fr f (fun k _ e=>(hS k e).1) (fun k e hs=>by have:=(hk k e).1;have:=(hS k hs).1;omega),h3⟩
theorem IxOwn.old {W W':World}{b base:Nat}{l:List RowP}(h:IxOwn W b base l)(f:Fz W W'):IxOwn W' b base l:=h.fr f (fun _ e=>e.elim)
end Go.Q
namespace Go.Proofs.YtehlipgmkinfbaaGreatDoor
open Go Go.RowKit Go.Q
attribute [local go_sem] Oper.semAt_some
theorem side1_iter (ba bb:Nat)(va vb:Value)(aL aM:Option Addr)(cL cM:Nat)(L M:List RowP)(wb w:World)(F:Fz wb w)(hca:w.cell? ⟨ba,0,none⟩=some va)(hcb:w.cell? ⟨bb,0,none⟩=some vb)(ha:IxSl wb va aL cL L)(hb:IxSl wb vb aM cM M)(hsL:∀ r∈L,r.num.size.length≤1000000)(hsM:∀ r∈M,r.num.size.length≤1000000) :
  IterV Tryz.prog 81 #[pt ba,pt bb] (pairsV aL aM L M 0 0) (fun k=>k=ba∨k=bb) wb.heap.size w:=by
 intro lp J Jx W hW hJ hJx hY h0;have F0:=F.trans hW;have ca:=hW.cell hca (fun h=>h);have cb:=hW.cell hcb (fun h=>h);have HL:=Hi (fun k=>slotsX_any va aL cL L (W.drewN k) (ha.old (F0.drewN k)));have HM:=Hi (fun k=>slotsX_any vb aM cM M (W.drewN k) (hb.old (F0.drewN k)));have HSL:=Hi ha.slots;have HSM:=Hi hb.slots;have HFL:=Hi hsL;have HFM:=Hi hsM;have HF0:=Hi (F0.mono (T:=fun k=>wb.heap.size≤k) (fun _ _ h=>h.elim));obtain⟨xs,hxs⟩:∃ xs,xs=pairsV aL aM L M 0 0:=⟨_,rfl⟩
 rw[←hxs]at hY ⊢
 have HXS:=Hi hxs;have hgL:=HSL.out;obtain⟨_,_,he,hLc,hLm,-⟩:=hgL
 simp only[Value.slice.injEq]at he
 obtain⟨rfl,-,rfl⟩:=he
 have hgM:=HSM.out;obtain⟨_,_,he,hMc,hMm,-⟩:=hgM
 simp only[Value.slice.injEq]at he
 obtain⟨rfl,-,rfl⟩:=he
 clear ha hb hsL hsM F F0 hca hcb hxs;refine callsIn_of_wp Tryz.func81 rfl trivial ?_ rfl;simp only[Tryz.ntmps81,List.size_toArray,List.length_cons,List.length_nil,Nat.reduceAdd,Nat.reduceSub,Array.replicate_succ,Array.replicate_zero,List.push_toArray,List.append_toArray,List.nil_append,List.cons_append]
 gi_upto_region 0 with fail
 refine wpIn_region_quiet_lit rfl (by kernel_rfl) (by kernel_rfl) ?_;repeat (refine wpQuietIn_step (fun _ _ _ _=>trivial) (fun K hK=>?_);go_simp;first|(refine hK _ ?_;clear hK K)|(apply Exists.intro;refine⟨fun _=>?_,hK _ ?_⟩;(first|(gi_at_call 45;exact CallsIn.quiet_of_same (callsIn_wide.2 (HL.out _)))|(gi_at_call 45;exact CallsIn.quiet_of_same (callsIn_wide.2 (HM.out _))));clear hK K))
 refine wpQuietIn_nil ?_;intro _ hw';obtain⟨nq,hw''⟩:=hw'
 subst hw'';gi_wp2
 gi_loopw [4,5] (fun u v wr=>∃ (pre:List Value) (i j:Nat),Rest7 aL L i u∧Rest7 aM M j v∧Hid (xs=pre++pairsV aL aM L M i j)∧Hid (Fr (fun k=>wb.heap.size≤k) wb wr)∧Hid (J pre wr)) (fun u v _=>lenV u+lenV v)
 case atStart=>exact⟨[],0,0,rest_start HSL.out,rest_start HSM.out,HXS,Hi (HF0.out.drewN _),Hi (hJ _ _ _ h0 ((Fr.refl W).drewN _))⟩
 case round=>
  obtain⟨pre,i,j,⟨x4,n,c4,rfl,hn,hnc,hcm,hx⟩,⟨x5,m,c5,rfl,hm,hmc,hcm2,hy⟩,HPX,HFR,HJP⟩:=hrel
  have HFK:=Hi (show Fz wb wr from HFR.out.mono (fun k hk h=>by omega));have HHX:=Hi hx;have HHY:=Hi hy;have HHN:=Hi hn;have HHM:=Hi hm;obtain⟨y,hyz⟩:∃ y,y=wr.heap.size:=⟨_,rfl⟩
  have HY:=Hi hyz;have BP:=Blk.new wr 95 #[.pointer none,.pointer none];rw[←hyz]at BP
  have HBP:=Hi BP;clear hx hy hyz BP h0;have hmx:Tryz.prog.follows .mixedOrders=true:=by kernel_rfl
  rcases Nat.eq_zero_or_pos n with hn0|hn0
  ·rcases Nat.eq_zero_or_pos m with hm0|hm0
   ·have HE:=Hi (show xs=pre from by rw[HPX.out,pairs_end (by have:=HHN.out;omega) (by have:=HHM.out;omega),List.append_nil])
    subst hn0;subst hm0;clear hn hm;gi_wp2
    go_end0
    exact⟨⟨_,rfl⟩,.inl (by rw[HE.out];exact HJP.out)⟩
   ·skip
    subst hn0;obtain⟨b',o',haM,rfl⟩:=HHY.out hm0
    obtain⟨r',hr'⟩:∃ r',M[j]? = some r':=⟨_,List.getElem?_eq_getElem (by have:=HHM.out;omega)⟩
    have HR2:=Hi hr';have HAM:=Hi haM;have e1:(0:Int)<(m:Int):=by omega
    have e2:((m:Int)==0)=false:=beq_eq_false_iff_ne.2 (by omega);have e3:(1:Int)≤(m:Int):=by omega
    have e4:(m:Int)≤(c5:Int):=by omega
    have e5:(1:Int)≤(c5:Int):=by omega
    have e6:1≤m:=hm0;have e7:1≤c5:=by omega
    clear hr' haM;gi_upto_region 3 with fail
    rw[←HY.out]
    have HFT:=Hi ((Fr.refl wr).alloc (.cells #[.pointer none,.pointer none] 95):Fz wr (wr.alloc (.cells #[.pointer none,.pointer none] 95)));have B4:=HBP.out;generalize (wr.alloc (.cells #[.pointer none,.pointer none] 95))=w4 at *
    have p0:=B4.drew.cell 0;have p1:=B4.drew.cell 1;have f0:=B4.drew.frozen 0;have f1:=B4.drew.frozen 1;have g0:=B4.frozen 0;have g1:=B4.frozen 1;simp only[SG]at p0 p1
    gi_upto_if 43 with fail
    gi_cut [5] from 44 (fun ux wx=>Rest7 aM M (j+1) ux∧Blk wx y 95 #[.pointer none,.pointer (some ⟨b',o'+j*7,none⟩)]∧Fz wr wx)
    case first=>
     gi_upto_region 12 with fail
     gi_region_with_o fail
     all_goals
      have FX:=(HFT.out.setCell (p:=⟨y,1,none⟩) (fun h=>by have:=HY.out;have h2:y<wr.heap.size:=h;omega) (.pointer (some ⟨b',o'+j*7,none⟩))).drew;have BX:Blk (w4.setCell ⟨y,1,none⟩ (.pointer (some ⟨b',o'+j*7,none⟩))) y 95 #[.pointer none,.pointer (some ⟨b',o'+j*7,none⟩)]:=B4.set 1 _;gi_wp2
      all_goals
       rcases Nat.lt_or_ge c5 2 with hc1|hc1
       ·have hc2:c5=1:=by omega
        subst hc2;first|(exfalso;omega)|(gi_meet;exact⟨rest_next HHM.out hm0 hmc hcm2 HAM.out _ (fun h=>absurd rfl h),BX.drew,FX⟩)
       ·first|(exfalso;omega)|(gi_meet;exact⟨rest_next HHM.out hm0 hmc hcm2 HAM.out _ (fun _=>rfl),BX.drew,FX⟩)
    case rest=>
     obtain⟨HRN6,B6,F6⟩:=hcut
     replace HFT:=Hi F6;obtain⟨xn6,nn6,cn6,rfl,hn6,hc6,hm6,hx6⟩:=HRN6
     clear p0 p1 f0 f1 g0 g1 F6;have HX2:=Hi (show xs=pre++(.agg #[.pointer none,.pointer (some ⟨b',o'+j*7,none⟩)])::pairsV aL aM L M i (j+1) from by rw[HPX.out,pairs_r (by have:=HHN.out;omega) HR2.out,pairV_r HAM.out]);have p0:=B6.cell 0;have p1:=B6.cell 1;simp only[SG]at p0 p1
     gi_upto_region 13 with fail
     obtain⟨fn,tmps,assign,body,hyy,hR⟩:=hY pre _ _ wc HX2.out (hJ _ _ _ HJP.out (HFT.out.mono (fun _ _ h=>h.elim)))
     have HR:=Hi hR;clear hR;gi_wp2
     refine HR.out.mono ?_;rintro e W3 (⟨rfl,hJ3,F3⟩|⟨rfl,hJx3⟩)
     ·have HJ3:=Hi hJ3
      have HF3:=Hi ((HFR.out.trans (HFT.out.mono (fun _ _ h=>h.elim))).trans (F3.mono (fun _ _ h=>h.1)));clear hJ3 F3 p0 p1 hyy;gi_wp2
      go_roundw
      case rel=>exact⟨pre++[(.agg #[.pointer none,.pointer (some ⟨b',o'+j*7,none⟩)])],i,(j+1),⟨_,_,_,rfl,HHN.out,hnc,hcm,HHX.out⟩,⟨_,_,_,rfl,hn6,hc6,hm6,hx6⟩,Hi (by rw[HX2.out];simp),HF3,HJ3⟩
      case measure=>simp only[lenV];omega
     ·have HJ3:=Hi hJx3
      clear hJx3 p0 p1 hyy;gi_wp2
      refine bodyPost_ret (results_none rfl _ _ _) rfl ?_;exact⟨⟨_,rfl⟩,.inr ⟨_,⟨pairsV aL aM L M i (j+1),by rw[HX2.out];simp⟩,HJ3.out⟩⟩
  ·rcases Nat.eq_zero_or_pos m with hm0|hm0
   ·skip
    have hm1:m=0:=hm0;subst hm1;obtain⟨b,o,haL,rfl⟩:=HHX.out hn0
    obtain⟨r,hr⟩:∃ r,L[i]? = some r:=⟨_,List.getElem?_eq_getElem (by have:=HHN.out;omega)⟩
    have HR1:=Hi hr;have HAL:=Hi haL;have a1:(0:Int)<(n:Int):=by omega
    have a2:((n:Int)==0)=false:=beq_eq_false_iff_ne.2 (by omega);have a3:(1:Int)≤(n:Int):=by omega
    have a4:(n:Int)≤(c4:Int):=by omega
    have a5:(1:Int)≤(c4:Int):=by omega
    have a6:1≤n:=hn0;have a7:1≤c4:=by omega
    clear hr haL;gi_upto_region 3 with fail
    rw[←HY.out]
    have HFT:=Hi ((Fr.refl wr).alloc (.cells #[.pointer none,.pointer none] 95):Fz wr (wr.alloc (.cells #[.pointer none,.pointer none] 95)));have B4:=HBP.out;generalize (wr.alloc (.cells #[.pointer none,.pointer none] 95))=w4 at *
    have p0:=B4.drew.cell 0;have p1:=B4.drew.cell 1;have f0:=B4.drew.frozen 0;have f1:=B4.drew.frozen 1;have g0:=B4.frozen 0;have g1:=B4.frozen 1;simp only[SG]at p0 p1
    gi_upto_if 36 with fail
    gi_cut [4] from 37 (fun ux wx=>Rest7 aL L (i+1) ux∧Blk wx y 95 #[.pointer (some ⟨b,o+i*7,none⟩),.pointer none]∧Fz wr wx)
    case first=>
     gi_upto_region 10 with fail
     gi_region_with_o fail
     all_goals
      have FX:=(HFT.out.setCell (p:=⟨y,0,none⟩) (fun h=>by have:=HY.out;have h2:y<wr.heap.size:=h;omega) (.pointer (some ⟨b,o+i*7,none⟩))).drew;have BX:Blk (w4.setCell ⟨y,0,none⟩ (.pointer (some ⟨b,o+i*7,none⟩))) y 95 #[.pointer (some ⟨b,o+i*7,none⟩),.pointer none]:=B4.set 0 _;gi_wp2
      all_goals
       rcases Nat.lt_or_ge c4 2 with hc1|hc1
       ·have hc2:c4=1:=by omega
        subst hc2;first|(exfalso;omega)|(gi_meet;exact⟨rest_next HHN.out hn0 hnc hcm HAL.out _ (fun h=>absurd rfl h),BX.drew,FX⟩)
       ·first|(exfalso;omega)|(gi_meet;exact⟨rest_next HHN.out hn0 hnc hcm HAL.out _ (fun _=>rfl),BX.drew,FX⟩)
    case rest=>
     obtain⟨HRN5,B5,F5⟩:=hcut
     replace HFT:=Hi F5;obtain⟨xn5,nn5,cn5,rfl,hn5,hc5,hm5,hx5⟩:=HRN5
     clear p0 p1 f0 f1 g0 g1 F5;have HX2:=Hi (show xs=pre++(.agg #[.pointer (some ⟨b,o+i*7,none⟩),.pointer none])::pairsV aL aM L M (i+1) j from by rw[HPX.out,pairs_l HR1.out (by have:=HHM.out;omega),pairV_l HAL.out]);have p0:=B5.cell 0;have p1:=B5.cell 1;simp only[SG]at p0 p1
     gi_upto_region 13 with fail
     obtain⟨fn,tmps,assign,body,hyy,hR⟩:=hY pre _ _ wc HX2.out (hJ _ _ _ HJP.out (HFT.out.mono (fun _ _ h=>h.elim)))
     have HR:=Hi hR;clear hR;gi_wp2
     refine HR.out.mono ?_;rintro e W3 (⟨rfl,hJ3,F3⟩|⟨rfl,hJx3⟩)
     ·have HJ3:=Hi hJ3
      have HF3:=Hi ((HFR.out.trans (HFT.out.mono (fun _ _ h=>h.elim))).trans (F3.mono (fun _ _ h=>h.1)));clear hJ3 F3 p0 p1 hyy;gi_wp2
      go_roundw
      case rel=>exact⟨pre++[(.agg #[.pointer (some ⟨b,o+i*7,none⟩),.pointer none])],(i+1),j,⟨_,_,_,rfl,hn5,hc5,hm5,hx5⟩,⟨_,_,_,rfl,HHM.out,hmc,hcm2,HHY.out⟩,Hi (by rw[HX2.out];simp),HF3,HJ3⟩
      case measure=>simp only[lenV];omega
     ·have HJ3:=Hi hJx3
      clear hJx3 p0 p1 hyy;gi_wp2
      refine bodyPost_ret (results_none rfl _ _ _) rfl ?_;exact⟨⟨_,rfl⟩,.inr ⟨_,⟨pairsV aL aM L M (i+1) j,by rw[HX2.out];simp⟩,HJ3.out⟩⟩
   ·skip
    obtain⟨b,o,haL,rfl⟩:=HHX.out hn0
    obtain⟨r,hr⟩:∃ r,L[i]? = some r:=⟨_,List.getElem?_eq_getElem (by have:=HHN.out;omega)⟩
    have HR1:=Hi hr;have HAL:=Hi haL;have a1:(0:Int)<(n:Int):=by omega
    have a2:((n:Int)==0)=false:=beq_eq_false_iff_ne.2 (by omega);have a3:(1:Int)≤(n:Int):=by omega
    have a4:(n:Int)≤(c4:Int):=by omega
    have a5:(1:Int)≤(c4:Int):=by omega
    have a6:1≤n:=hn0;have a7:1≤c4:=by omega
    clear hr haL;obtain⟨b',o',haM,rfl⟩:=HHY.out hm0
    obtain⟨r',hr'⟩:∃ r',M[j]? = some r':=⟨_,List.getElem?_eq_getElem (by have:=HHM.out;omega)⟩
    have HR2:=Hi hr';have HAM:=Hi haM;have e1:(0:Int)<(m:Int):=by omega
    have e2:((m:Int)==0)=false:=beq_eq_false_iff_ne.2 (by omega);have e3:(1:Int)≤(m:Int):=by omega
    have e4:(m:Int)≤(c5:Int):=by omega
    have e5:(1:Int)≤(c5:Int):=by omega
    have e6:1≤m:=hm0;have e7:1≤c5:=by omega
    clear hr' haM;have hgL:=HSL.out;obtain⟨b0,o0,us,hbo,-,hus,hRx,hcx⟩:=LAt.get hgL HR1.out
    rw[HAL.out]at hbo
    simp only[Option.some.injEq,Addr.mk.injEq,and_true]at hbo
    obtain⟨rfl,rfl⟩:=hbo
    have hgM:=HSM.out;obtain⟨b1,o1,vs,hbo,-,hvs,hRy,hcy⟩:=LAt.get hgM HR2.out
    rw[HAM.out]at hbo
    simp only[Option.some.injEq,Addr.mk.injEq,and_true]at hbo
    obtain⟨rfl,rfl⟩:=hbo
    obtain⟨u0,u1,u2,u3,u4,u5,u6,rfl⟩:=seven_of hus
    obtain⟨v0,v1,v2,v3,v4,v5,v6,rfl⟩:=seven_of hvs
    have HO:=Hi (fun W (F:Fz wb W)=>orderSlots_any _ _ r r' W (RSlot.old _ _ _ _ hRx F) (RSlot.old _ _ _ _ hRy F) (HFL.out r (List.mem_of_getElem? HR1.out)) (HFM.out r' (List.mem_of_getElem? HR2.out)));obtain⟨k,hk⟩:∃ k,k=rowC r r':=⟨_,rfl⟩
    rw[←hk]at HO
    have HK:=Hi hk;have HCX:=Hi hcx;have HCY:=Hi hcy;clear hgL hgM hcx hcy hk hRx hRy;gi_upto_region 3 with fail
    rw[←HY.out]
    have HFT:=Hi ((Fr.refl wr).alloc (.cells #[.pointer none,.pointer none] 95):Fz wr (wr.alloc (.cells #[.pointer none,.pointer none] 95)));have B4:=HBP.out;generalize (wr.alloc (.cells #[.pointer none,.pointer none] 95))=w4 at *
    have HFG:=Hi ((HFK.out.trans HFT.out).drew);have x0:=HFG.out.cell (HCX.out 0 _ rfl) (fun h=>h);have x1:=HFG.out.cell (HCX.out 1 _ rfl) (fun h=>h);have x2:=HFG.out.cell (HCX.out 2 _ rfl) (fun h=>h);have x3:=HFG.out.cell (HCX.out 3 _ rfl) (fun h=>h);have x4:=HFG.out.cell (HCX.out 4 _ rfl) (fun h=>h);have x5:=HFG.out.cell (HCX.out 5 _ rfl) (fun h=>h);have x6:=HFG.out.cell (HCX.out 6 _ rfl) (fun h=>h);have y0:=HFG.out.cell (HCY.out 0 _ rfl) (fun h=>h);have y1:=HFG.out.cell (HCY.out 1 _ rfl) (fun h=>h);have y2:=HFG.out.cell (HCY.out 2 _ rfl) (fun h=>h)
    have y3:=HFG.out.cell (HCY.out 3 _ rfl) (fun h=>h);have y4:=HFG.out.cell (HCY.out 4 _ rfl) (fun h=>h);have y5:=HFG.out.cell (HCY.out 5 _ rfl) (fun h=>h);have y6:=HFG.out.cell (HCY.out 6 _ rfl) (fun h=>h);simp only[Nat.add_zero]at x0 y0
    gi_upto_region 4 with fail
    gi_region_with_o (refine⟨trivial,?_⟩;gi_at_call 39;(with_reducible refine(callsIn_wide.2 (HO.out _ HFG.out)).mono ?_);rintro e w3 ⟨rfl,F3⟩)
    all_goals
     replace B4:=B4.drew.fr F3 (fun h=>h);replace HFT:=Hi (HFT.out.drew.trans F3);clear x0 x1 x2 x3 x4 x5 x6 y0 y1 y2 y3 y4 y5 y6 F3;rcases Int.lt_trichotomy k 0 with hk|hk|hk
     ·skip
      have k1:k≤0:=by omega
      have k2:¬0≤k:=by omega
      have HKK:=Hi hk;clear hk;have p0:=B4.drew.cell 0;have p1:=B4.drew.cell 1;have f0:=B4.drew.frozen 0;have f1:=B4.drew.frozen 1;have g0:=B4.frozen 0;have g1:=B4.frozen 1;simp only[SG]at p0 p1
      gi_upto_if 36 with fail
      gi_cut [4] from 37 (fun ux wx=>Rest7 aL L (i+1) ux∧Blk wx y 95 #[.pointer (some ⟨b,o+i*7,none⟩),.pointer none]∧Fz wr wx)
      case first=>
       gi_upto_region 10 with fail
       gi_region_with_o fail
       all_goals
        have FX:=(HFT.out.setCell (p:=⟨y,0,none⟩) (fun h=>by have:=HY.out;have h2:y<wr.heap.size:=h;omega) (.pointer (some ⟨b,o+i*7,none⟩))).drew;have BX:Blk (w3.setCell ⟨y,0,none⟩ (.pointer (some ⟨b,o+i*7,none⟩))) y 95 #[.pointer (some ⟨b,o+i*7,none⟩),.pointer none]:=B4.set 0 _;gi_wp2
        all_goals
         rcases Nat.lt_or_ge c4 2 with hc1|hc1
         ·have hc2:c4=1:=by omega
          subst hc2;first|(exfalso;omega)|(gi_meet;exact⟨rest_next HHN.out hn0 hnc hcm HAL.out _ (fun h=>absurd rfl h),BX.drew,FX⟩)
         ·first|(exfalso;omega)|(gi_meet;exact⟨rest_next HHN.out hn0 hnc hcm HAL.out _ (fun _=>rfl),BX.drew,FX⟩)
      case rest=>
       obtain⟨HRN5,B5,F5⟩:=hcut
       replace HFT:=Hi F5;obtain⟨xn5,nn5,cn5,rfl,hn5,hc5,hm5,hx5⟩:=HRN5
       clear p0 p1 f0 f1 g0 g1 F5;have HX2:=Hi (show xs=pre++(.agg #[.pointer (some ⟨b,o+i*7,none⟩),.pointer none])::pairsV aL aM L M (i+1) j from by rw[HPX.out,pairs_both HR1.out HR2.out,←HK.out,if_pos HKK.out,pairV_l HAL.out]);have p0:=B5.cell 0;have p1:=B5.cell 1;simp only[SG]at p0 p1
       gi_upto_region 13 with fail
       obtain⟨fn,tmps,assign,body,hyy,hR⟩:=hY pre _ _ wc HX2.out (hJ _ _ _ HJP.out (HFT.out.mono (fun _ _ h=>h.elim)))
       have HR:=Hi hR;clear hR;gi_wp2
       refine HR.out.mono ?_;rintro e W3 (⟨rfl,hJ3,F3⟩|⟨rfl,hJx3⟩)
       ·have HJ3:=Hi hJ3
        have HF3:=Hi ((HFR.out.trans (HFT.out.mono (fun _ _ h=>h.elim))).trans (F3.mono (fun _ _ h=>h.1)));clear hJ3 F3 p0 p1 hyy;gi_wp2
        go_roundw
        case rel=>exact⟨pre++[(.agg #[.pointer (some ⟨b,o+i*7,none⟩),.pointer none])],(i+1),j,⟨_,_,_,rfl,hn5,hc5,hm5,hx5⟩,⟨_,_,_,rfl,HHM.out,hmc,hcm2,HHY.out⟩,Hi (by rw[HX2.out];simp),HF3,HJ3⟩
        case measure=>simp only[lenV];omega
       ·have HJ3:=Hi hJx3
        clear hJx3 p0 p1 hyy;gi_wp2
        refine bodyPost_ret (results_none rfl _ _ _) rfl ?_;exact⟨⟨_,rfl⟩,.inr ⟨_,⟨pairsV aL aM L M (i+1) j,by rw[HX2.out];simp⟩,HJ3.out⟩⟩
     ·skip
      subst hk;have p0:=B4.drew.cell 0;have p1:=B4.drew.cell 1;have f0:=B4.drew.frozen 0;have f1:=B4.drew.frozen 1;have g0:=B4.frozen 0;have g1:=B4.frozen 1;simp only[SG]at p0 p1
      gi_upto_if 36 with fail
      gi_cut [4] from 37 (fun ux wx=>Rest7 aL L (i+1) ux∧Blk wx y 95 #[.pointer (some ⟨b,o+i*7,none⟩),.pointer none]∧Fz wr wx)
      case first=>
       gi_upto_region 10 with fail
       gi_region_with_o fail
       all_goals
        have FX:=(HFT.out.setCell (p:=⟨y,0,none⟩) (fun h=>by have:=HY.out;have h2:y<wr.heap.size:=h;omega) (.pointer (some ⟨b,o+i*7,none⟩))).drew;have BX:Blk (w3.setCell ⟨y,0,none⟩ (.pointer (some ⟨b,o+i*7,none⟩))) y 95 #[.pointer (some ⟨b,o+i*7,none⟩),.pointer none]:=B4.set 0 _;gi_wp2
        all_goals
         rcases Nat.lt_or_ge c4 2 with hc1|hc1
         ·have hc2:c4=1:=by omega
          subst hc2;first|(exfalso;omega)|(gi_meet;exact⟨rest_next HHN.out hn0 hnc hcm HAL.out _ (fun h=>absurd rfl h),BX.drew,FX⟩)
         ·first|(exfalso;omega)|(gi_meet;exact⟨rest_next HHN.out hn0 hnc hcm HAL.out _ (fun _=>rfl),BX.drew,FX⟩)
      case rest=>
       obtain⟨HRN5,B5,F5⟩:=hcut
       replace HFT:=Hi F5;obtain⟨xn5,nn5,cn5,rfl,hn5,hc5,hm5,hx5⟩:=HRN5
       clear p0 p1 f0 f1 g0 g1 F5;have p0:=B5.drew.cell 0;have p1:=B5.drew.cell 1;have f0:=B5.drew.frozen 0;have f1:=B5.drew.frozen 1;have g0:=B5.frozen 0;have g1:=B5.frozen 1;simp only[SG]at p0 p1
       gi_upto_if 43 with fail
       gi_cut [5] from 44 (fun ux wx=>Rest7 aM M (j+1) ux∧Blk wx y 95 #[.pointer (some ⟨b,o+i*7,none⟩),.pointer (some ⟨b',o'+j*7,none⟩)]∧Fz wr wx)
       case first=>
        gi_upto_region 12 with fail
        gi_region_with_o fail
        all_goals
         have FX:=(HFT.out.setCell (p:=⟨y,1,none⟩) (fun h=>by have:=HY.out;have h2:y<wr.heap.size:=h;omega) (.pointer (some ⟨b',o'+j*7,none⟩))).drew;have BX:Blk (wc.setCell ⟨y,1,none⟩ (.pointer (some ⟨b',o'+j*7,none⟩))) y 95 #[.pointer (some ⟨b,o+i*7,none⟩),.pointer (some ⟨b',o'+j*7,none⟩)]:=B5.set 1 _;gi_wp2
         all_goals
          rcases Nat.lt_or_ge c5 2 with hc1|hc1
          ·have hc2:c5=1:=by omega
           subst hc2;first|(exfalso;omega)|(gi_meet;exact⟨rest_next HHM.out hm0 hmc hcm2 HAM.out _ (fun h=>absurd rfl h),BX.drew,FX⟩)
          ·first|(exfalso;omega)|(gi_meet;exact⟨rest_next HHM.out hm0 hmc hcm2 HAM.out _ (fun _=>rfl),BX.drew,FX⟩)
       case rest=>
        obtain⟨HRN6,B6,F6⟩:=hcut
        replace HFT:=Hi F6;obtain⟨xn6,nn6,cn6,rfl,hn6,hc6,hm6,hx6⟩:=HRN6
        clear p0 p1 f0 f1 g0 g1 F6;have HX2:=Hi (show xs=pre++(.agg #[.pointer (some ⟨b,o+i*7,none⟩),.pointer (some ⟨b',o'+j*7,none⟩)])::pairsV aL aM L M (i+1) (j+1) from by rw[HPX.out,pairs_both HR1.out HR2.out,←HK.out,if_neg (by decide),if_pos rfl,pairV_b HAL.out HAM.out]);have p0:=B6.cell 0;have p1:=B6.cell 1;simp only[SG]at p0 p1
        gi_upto_region 13 with fail
        obtain⟨fn,tmps,assign,body,hyy,hR⟩:=hY pre _ _ wc HX2.out (hJ _ _ _ HJP.out (HFT.out.mono (fun _ _ h=>h.elim)))
        have HR:=Hi hR;clear hR;gi_wp2
        refine HR.out.mono ?_;rintro e W3 (⟨rfl,hJ3,F3⟩|⟨rfl,hJx3⟩)
        ·have HJ3:=Hi hJ3
         have HF3:=Hi ((HFR.out.trans (HFT.out.mono (fun _ _ h=>h.elim))).trans (F3.mono (fun _ _ h=>h.1)));clear hJ3 F3 p0 p1 hyy;gi_wp2
         go_roundw
         case rel=>exact⟨pre++[(.agg #[.pointer (some ⟨b,o+i*7,none⟩),.pointer (some ⟨b',o'+j*7,none⟩)])],(i+1),(j+1),⟨_,_,_,rfl,hn5,hc5,hm5,hx5⟩,⟨_,_,_,rfl,hn6,hc6,hm6,hx6⟩,Hi (by rw[HX2.out];simp),HF3,HJ3⟩
         case measure=>simp only[lenV];omega
        ·have HJ3:=Hi hJx3
         clear hJx3 p0 p1 hyy;gi_wp2
         refine bodyPost_ret (results_none rfl _ _ _) rfl ?_;exact⟨⟨_,rfl⟩,.inr ⟨_,⟨pairsV aL aM L M (i+1) (j+1),by rw[HX2.out];simp⟩,HJ3.out⟩⟩
     ·skip
      have k1:¬k≤0:=by omega
      have k2:0≤k:=by omega
      have HKK:=Hi hk;clear hk;have p0:=B4.drew.cell 0;have p1:=B4.drew.cell 1;have f0:=B4.drew.frozen 0;have f1:=B4.drew.frozen 1;have g0:=B4.frozen 0;have g1:=B4.frozen 1;simp only[SG]at p0 p1
      gi_upto_if 43 with fail
      gi_cut [5] from 44 (fun ux wx=>Rest7 aM M (j+1) ux∧Blk wx y 95 #[.pointer none,.pointer (some ⟨b',o'+j*7,none⟩)]∧Fz wr wx)
      case first=>
       gi_upto_region 12 with fail
       gi_region_with_o fail
       all_goals
        have FX:=(HFT.out.setCell (p:=⟨y,1,none⟩) (fun h=>by have:=HY.out;have h2:y<wr.heap.size:=h;omega) (.pointer (some ⟨b',o'+j*7,none⟩))).drew;have BX:Blk (w3.setCell ⟨y,1,none⟩ (.pointer (some ⟨b',o'+j*7,none⟩))) y 95 #[.pointer none,.pointer (some ⟨b',o'+j*7,none⟩)]:=B4.set 1 _;gi_wp2
        all_goals
         rcases Nat.lt_or_ge c5 2 with hc1|hc1
         ·have hc2:c5=1:=by omega
          subst hc2;first|(exfalso;omega)|(gi_meet;exact⟨rest_next HHM.out hm0 hmc hcm2 HAM.out _ (fun h=>absurd rfl h),BX.drew,FX⟩)
         ·first|(exfalso;omega)|(gi_meet;exact⟨rest_next HHM.out hm0 hmc hcm2 HAM.out _ (fun _=>rfl),BX.drew,FX⟩)
      case rest=>
       obtain⟨HRN6,B6,F6⟩:=hcut
       replace HFT:=Hi F6;obtain⟨xn6,nn6,cn6,rfl,hn6,hc6,hm6,hx6⟩:=HRN6
       clear p0 p1 f0 f1 g0 g1 F6;have HX2:=Hi (show xs=pre++(.agg #[.pointer none,.pointer (some ⟨b',o'+j*7,none⟩)])::pairsV aL aM L M i (j+1) from by rw[HPX.out,pairs_both HR1.out HR2.out,←HK.out,if_neg (by have:=HKK.out;omega),if_neg (by have:=HKK.out;omega),pairV_r HAM.out]);have p0:=B6.cell 0;have p1:=B6.cell 1;simp only[SG]at p0 p1
       gi_upto_region 13 with fail
       obtain⟨fn,tmps,assign,body,hyy,hR⟩:=hY pre _ _ wc HX2.out (hJ _ _ _ HJP.out (HFT.out.mono (fun _ _ h=>h.elim)))
       have HR:=Hi hR;clear hR;gi_wp2
       refine HR.out.mono ?_;rintro e W3 (⟨rfl,hJ3,F3⟩|⟨rfl,hJx3⟩)
       ·have HJ3:=Hi hJ3
        have HF3:=Hi ((HFR.out.trans (HFT.out.mono (fun _ _ h=>h.elim))).trans (F3.mono (fun _ _ h=>h.1)));clear hJ3 F3 p0 p1 hyy;gi_wp2
        go_roundw
        case rel=>exact⟨pre++[(.agg #[.pointer none,.pointer (some ⟨b',o'+j*7,none⟩)])],i,(j+1),⟨_,_,_,rfl,HHN.out,hnc,hcm,HHX.out⟩,⟨_,_,_,rfl,hn6,hc6,hm6,hx6⟩,Hi (by rw[HX2.out];simp),HF3,HJ3⟩
        case measure=>simp only[lenV];omega
       ·have HJ3:=Hi hJx3
        clear hJx3 p0 p1 hyy;gi_wp2
        refine bodyPost_ret (results_none rfl _ _ _) rfl ?_;exact⟨⟨_,rfl⟩,.inr ⟨_,⟨pairsV aL aM L M i (j+1),by rw[HX2.out];simp⟩,HJ3.out⟩⟩
theorem side_any (va vb:Value)(aL aM:Option Addr)(cL cM:Nat)(L M:List RowP)(wb w:World)(F:Fz wb w)(ha:IxSl wb va aL cL L)(hb:IxSl wb vb aM cM M)(hsL:∀ r∈L,r.num.size.length≤1000000)(hsM:∀ r∈M,r.num.size.length≤1000000) :
  Calls Tryz.prog 49 #[va,vb] w fun e w'=>(∃ ba bb,e=.returned (.func (.func 81) #[] #[pt ba,pt bb])∧w.heap.size≤ba∧w.heap.size≤bb∧ba<w'.heap.size∧bb<w'.heap.size∧IterV Tryz.prog 81 #[pt ba,pt bb] (pairsV aL aM L M 0 0) (fun k=>k=ba∨k=bb) wb.heap.size w')∧Fz w w':=by
 have FA:Fz w ((w.alloc (.cells #[va] 26)).alloc (.cells #[vb] 26)):=((Fr.refl w).alloc _).alloc _;have BA:=(Blk.new w 26 #[va]).alloc (.cells #[vb] 26);have BB:=Blk.new (w.alloc (.cells #[va] 26)) 26 #[vb];rw[World.size_alloc]at BB
 have hs:((w.alloc (.cells #[va] 26)).alloc (.cells #[vb] 26)).heap.size=w.heap.size+2:=by rw[World.size_alloc,World.size_alloc]
 have HI:=Hi (side1_iter w.heap.size (w.heap.size+1) va vb aL aM cL cM L M wb _ (F.trans FA) (BA.cell 0) (BB.cell 0) ha hb hsL hsM);have HF:=Hi FA;have HS:=Hi hs;have h1:va.oneCell'=true:=by
  rcases ha with ⟨rfl,-⟩|⟨b,rfl,-⟩<;>rfl
 have h2:vb.oneCell'=true:=by
  rcases hb with ⟨rfl,-⟩|⟨b,rfl,-⟩<;>rfl
 have h3:∃ p,va=.pointer p:=by
  rcases ha with ⟨rfl,-⟩|⟨b,rfl,-⟩
  ·exact⟨_,rfl⟩
  ·exact⟨_,rfl⟩
 have h4:∃ p,vb=.pointer p:=by
  rcases hb with ⟨rfl,-⟩|⟨b,rfl,-⟩
  ·exact⟨_,rfl⟩
  ·exact⟨_,rfl⟩
 clear ha hb hsL hsM F FA BA BB hs;obtain⟨p,rfl⟩:=h3
 obtain⟨q,rfl⟩:=h4
 go_enter Tryz.func49,Tryz.ntmps49
 go_wp2_with fail
 go_ret;exact⟨⟨w.heap.size,w.heap.size+1,rfl,Nat.le_refl _,Nat.le_succ _,by rw[HS.out];omega,by rw[HS.out];omega,HI.out⟩,HF.out⟩
theorem like_any (cs ds:List Value)(r q:RowP)(w:World)(h:RRow w cs r)(hu:RRow w ds q) :
  Calls Tryz.prog 51 #[.agg cs.toArray,.agg ds.toArray] w fun e w'=>e=.returned (.bool (likeR r q))∧Fz w w':=by
 obtain⟨a1,c1,b1,d1,q1,rfl,-,-,i1⟩:=h.form
 obtain⟨a2,c2,b2,d2,q2,rfl,-,-,i2⟩:=hu.form
 obtain⟨z,hz⟩:∃ z,z=w.heap.size:=⟨_,rfl⟩
 have HZ:=Hi hz;have F0:Fz w ((w.alloc (.cells #[.slice a1 r.iss.length c1,.bool r.num.below,.slice b1 r.num.size.length d1,.int .i64 r.date,.int .i64 r.reason,.pointer q1] 43)).alloc (.cells #[.slice a2 q.iss.length c2,.bool q.num.below,.slice b2 q.num.size.length d2,.int .i64 q.date,.int .i64 q.reason,.pointer q2] 43)):=((Fr.refl w).alloc _).alloc _
 have BA:=(Blk.new w 43 #[.slice a1 r.iss.length c1,.bool r.num.below,.slice b1 r.num.size.length d1,.int .i64 r.date,.int .i64 r.reason,.pointer q1]).alloc (.cells #[.slice a2 q.iss.length c2,.bool q.num.below,.slice b2 q.num.size.length d2,.int .i64 q.date,.int .i64 q.reason,.pointer q2] 43);have BB:=Blk.new (w.alloc (.cells #[.slice a1 r.iss.length c1,.bool r.num.below,.slice b1 r.num.size.length d1,.int .i64 r.date,.int .i64 r.reason,.pointer q1] 43)) 43 #[.slice a2 q.iss.length c2,.bool q.num.below,.slice b2 q.num.size.length d2,.int .i64 q.date,.int .i64 q.reason,.pointer q2]
 rw[World.size_alloc,←hz]at BB
 rw[←hz]at BA
 have I1:=i1.old F0;have I2:=i2.old F0;have HF:=Hi F0;have HI1:=Hi I1;have HI2:=Hi I2;have HL:Hid (likeR r q=(decide (r.date=q.date)&&(decide (r.reason=q.reason)&&decide (r.inv=q.inv)))):=Hi rfl;clear h hu hz F0 i1 i2 I1 I2;go_enter Tryz.func51,Tryz.ntmps51
 go_upto_region 1 with fail
 rw[←HZ.out]
 generalize ((w.alloc (.cells #[.slice a1 r.iss.length c1,.bool r.num.below,.slice b1 r.num.size.length d1,.int .i64 r.date,.int .i64 r.reason,.pointer q1] 43)).alloc (.cells #[.slice a2 q.iss.length c2,.bool q.num.below,.slice b2 q.num.size.length d2,.int .i64 q.date,.int .i64 q.reason,.pointer q2] 43))=w0 at *
 have x3:=BA.cell 3;have x4:=BA.cell 4;have x5:=BA.cell 5;have y3:=BB.cell 3;have y4:=BB.cell 4;have y5:=BB.cell 5;simp only[SG]at x3 x4 x5 y3 y4 y5
 clear BA BB;by_cases hd:r.date=q.date
 ·have k1:(r.date==q.date)=true:=by simp[hd]
  have k2:(r.date != q.date)=false:=by simp[hd]
  have HD:=Hi hd;clear hd;by_cases hr:r.reason=q.reason
  ·have k3:(r.reason==q.reason)=true:=by simp[hr]
   have k4:(r.reason != q.reason)=false:=by simp[hr]
   have HR:=Hi hr;clear hr;have h1:=HI1.out;have h2:=HI2.out;cases hx:r.inv with
   |none=>
    rw[hx]at h1
    simp only[InvAt,Value.pointer.injEq]at h1
    subst h1;cases hy:q.inv with
    |none=>
     rw[hy]at h2
     simp only[InvAt,Value.pointer.injEq]at h2
     subst h2;have HE:=Hi (show likeR r q=true from by rw[HL.out,HD.out,HR.out,hx,hy];simp);clear hx hy;go_upto_region 3 with fail
     go_quiet (fail)
     go_wp2_with fail
     go_ret;exact⟨by first|(rw[HE.out];done)|(rw[HE.out];rfl),HF.out.drewN _⟩
    |some t=>
     rw[hy]at h2
     obtain⟨b,o,hq2,hc⟩:=h2
     simp only[Value.pointer.injEq]at hq2
     subst hq2;have HE:=Hi (show likeR r q=false from by rw[HL.out,hx,hy];simp);clear hx hy;go_wp2_with fail
     go_ret;exact⟨by first|(rw[HE.out];done)|(rw[HE.out];rfl),HF.out⟩
   |some s=>
    rw[hx]at h1
    obtain⟨b,o,hq1,hc⟩:=h1
    simp only[Value.pointer.injEq]at hq1
    subst hq1;cases hy:q.inv with
    |none=>
     rw[hy]at h2
     simp only[InvAt,Value.pointer.injEq]at h2
     subst h2;have HE:=Hi (show likeR r q=false from by rw[HL.out,hx,hy];simp);clear hx hy;go_wp2_with fail
     go_ret;exact⟨by first|(rw[HE.out];done)|(rw[HE.out];rfl),HF.out⟩
    |some t=>
     rw[hy]at h2
     obtain⟨b',o',hq2,hc'⟩:=h2
     simp only[Value.pointer.injEq]at hq2
     subst hq2;by_cases hst:s=t
     ·have k5:(s==t)=true:=by simp[hst]
      have HE:=Hi (show likeR r q=true from by rw[HL.out,HD.out,HR.out,hx,hy,hst];simp);clear hx hy hst;go_upto_region 3 with fail
      go_quiet (fail)
      go_wp2_with fail
      go_ret;exact⟨by first|(rw[HE.out];done)|(rw[HE.out];rfl),HF.out.drewN _⟩
     ·have k5:(s==t)=false:=by simp[hst]
      have HE:=Hi (show likeR r q=false from by rw[HL.out,hx,hy];simp[hst]);clear hx hy hst;go_upto_region 3 with fail
      go_quiet (fail)
      go_wp2_with fail
      go_ret;exact⟨by first|(rw[HE.out];done)|(rw[HE.out];rfl),HF.out.drewN _⟩
  ·have k3:(r.reason==q.reason)=false:=by simp[hr]
   have k4:(r.reason != q.reason)=true:=by simp[hr]
   have HE:=Hi (show likeR r q=false from by rw[HL.out];simp[hr]);clear hr;go_wp2_with fail
   go_ret;exact⟨by first|(rw[HE.out];done)|(rw[HE.out];rfl),HF.out⟩
 ·have k1:(r.date==q.date)=false:=by simp[hd]
  have k2:(r.date != q.date)=true:=by simp[hd]
  have HE:=Hi (show likeR r q=false from by rw[HL.out];simp[hd]);clear hd;go_wp2_with fail
  go_ret;exact⟨by first|(rw[HE.out];done)|(rw[HE.out];rfl),HF.out⟩
theorem ixAdd_any (b base top:Nat)(cs:List Value)(r:RowP)(gs:List RowP)(w:World)(h:IxOwnT w b base top gs)(hb:base≤w.heap.size)(hr:RSlot w cs r)(hf:fitR r)(hl:gs.length≤1000000) :
  Calls Tryz.prog 50 #[pt b,.agg cs.toArray] w fun e w'=>e=.returned (.tuple #[])∧IxOwn w' b base (gs++[nrow r])∧Fr (fun k=>k=b∨(base≤k∧k<top)) w w':=by
 obtain⟨a,c,hbb,BZ,hrow,htop⟩:=h
 have HTOP:=Hi htop;clear htop;obtain⟨us,rfl,hR⟩:=hr
 have HRR:=Hi hR;obtain⟨a1,c1,b1,d1,q1,rfl,-⟩:=hR.form
 obtain⟨y,hy⟩:∃ y,y=w.heap.size:=⟨_,rfl⟩
 have HY:=Hi hy;have FA:Fz w (w.alloc (.cells #[str (nameKeyS r.iss),.slice a1 r.iss.length c1,.bool r.num.below,.slice b1 r.num.size.length d1,.int .i64 r.date,.int .i64 r.reason,.pointer q1] 78)):=(Fr.refl w).alloc _;have BY:=Blk.new w 78 #[str (nameKeyS r.iss),.slice a1 r.iss.length c1,.bool r.num.below,.slice b1 r.num.size.length d1,.int .i64 r.date,.int .i64 r.reason,.pointer q1];rw[←hy]at BY
 have HFA:=Hi FA;have HBZ:=Hi BZ;have HRW:=Hi hrow;have HBB:=Hi hbb;have HB0:=Hi hb;have HFT:=Hi hf;have HL:=Hi hl;clear hR hy FA BZ hrow hbb hb hf hl;go_enter Tryz.func50,Tryz.ntmps50
 go_upto_region 1 with fail
 rw[←HY.out]
 have BZ:=(HBZ.out.fr HFA.out (fun h=>h)).drew;replace BY:=BY.drew;have hsz0:y<(w.alloc (.cells #[str (nameKeyS r.iss),.slice a1 r.iss.length c1,.bool r.num.below,.slice b1 r.num.size.length d1,.int .i64 r.date,.int .i64 r.reason,.pointer q1] 78)).heap.size:=BY.lt;generalize (w.alloc (.cells #[str (nameKeyS r.iss),.slice a1 r.iss.length c1,.bool r.num.below,.slice b1 r.num.size.length d1,.int .i64 r.date,.int .i64 r.reason,.pointer q1] 78))=w3 at *
 have HC:=Hi (fun W (F:Fz w3 W)=>ixCopied_any _ r W (RRow.old _ _ _ _ HRR.out (HFA.out.trans F)) HFT.out.1 HFT.out.2.1 HFT.out.2.2);have HR3:=Hi (HRW.out.old HFA.out);have HS3:=Hi hsz0;have G:Fz w3 w3.drew:=(Fr.refl w3).drew;obtain⟨x,hx⟩:∃ x,x=madeS r.num:=⟨_,rfl⟩
 rw[←hx]at HC
 have HXR:=Hi (fun (W:World) (vi vs vp:Value) (g:RRow W [vi,.bool x.below,vs,.int .i64 r.date,.int .i64 r.reason,vp] (nrow r))=>show RSlot W [str (nameKeyS r.iss),vi,.bool x.below,vs,.int .i64 r.date,.int .i64 r.reason,vp] (nrow r) from ⟨_,rfl,g⟩);clear hx hsz0;refine wp_region_N 13 (S:=fun w'=>w'.cell? ⟨b,0,none⟩=some (.slice a gs.length c)∧∀ j,w'.cell? ⟨y,j,none⟩=(#[str (nameKeyS r.iss),.slice a1 r.iss.length c1,.bool r.num.below,.slice b1 r.num.size.length d1,.int .i64 r.date,.int .i64 r.reason,.pointer q1]:Array Value)[j]?) (by kernel_rfl) ?_ (fun hHeld=>?_)
 ·exact⟨BZ.cell 0,BY.cell⟩
 refine tkN 0 rfl hHeld ?_;refine tkN 1 rfl hHeld ?_;refine tkN 2 rfl hHeld ?_;(try simp only[Act.put,SS]);refine tkN 3 rfl hHeld ?_;refine tkN 4 rfl hHeld ?_;refine tkN 5 rfl hHeld ?_;(try simp only[Act.put,SS]);refine tkN 6 rfl hHeld ?_;refine tkN 7 rfl hHeld ?_;refine tkN 8 rfl hHeld ?_;(try simp only[Act.put,SS]);refine stN 9 (fun KK hKK=>?_);go_simp
 (go_at_call 37;(with_reducible refine(HC.out _ G).mono ?_);rintro e w' ⟨⟨a2,c2,b2,d2,q2,rfl,hk⟩,F⟩;replace BZ:=BZ.fr F (fun h=>h);replace BY:=BY.fr F (fun h=>h);have hsz:=G.size;replace G:=G.trans F;clear F HC;go_wp2_with fail)
 refine hKK.out _ _ ?_ (fun hHeld=>?_)
 ·exact⟨BZ.cell 0,BY.cell⟩
 clear hKK KK;(try simp only[Act.put,SS]);refine tkN 10 rfl hHeld ?_;(try simp only[Act.put,SS]);have BZA:=BZ.alloc (.cells [str (nameKeyS r.iss),.slice a2 r.iss.length c2,.bool x.below,.slice b2 x.size.length d2,.int .i64 r.date,.int .i64 r.reason,.pointer q2].toArray 78);have BYA:=BY.alloc (.cells [str (nameKeyS r.iss),.slice a2 r.iss.length c2,.bool x.below,.slice b2 x.size.length d2,.int .i64 r.date,.int .i64 r.reason,.pointer q2].toArray 78)
 obtain⟨a7,c7,w7,hrun,hrow7,F7,hown⟩:=(HR3.out.old G).add (s:=71) Tryz.underlying71 info78 rfl (by decide) (by decide) (by have:=HB0.out;have:=HFA.out.size;have:=G.size;omega) ((Fr.refl w').alloc (.cells [str (nameKeyS r.iss),.slice a2 r.iss.length c2,.bool x.below,.slice b2 x.size.length d2,.int .i64 r.date,.int .i64 r.reason,.pointer q2].toArray 78)) w'.heap.size [str (nameKeyS r.iss),.slice a2 r.iss.length c2,.bool x.below,.slice b2 x.size.length d2,.int .i64 r.date,.int .i64 r.reason,.pointer q2] rfl (Blk.new w' 78 [str (nameKeyS r.iss),.slice a2 r.iss.length c2,.bool x.below,.slice b2 x.size.length d2,.int .i64 r.date,.int .i64 r.reason,.pointer q2].toArray) (by simp[Value.oneCell',str]) (nrow r) ((hk.weaken (fun k hk=>by
   have hd:w3.drew.heap.size=w3.heap.size:=rfl;have:=HFA.out.size;rcases hk with hk|hk
   ·have:=(HRW.out.keep k hk).2;omega
   ·have hk2:k<base:=hk
    have:=HB0.out;omega)).imp (fun W g=>HXR.out W _ _ _ g)) (by have:=HL.out;omega)
 have hk7:=HRW.out.keep;have hk8:=hrow7.keep;have BZ7:=BZ.fr F7 (fun e=>by have:=(hk7 _ e).1;have:=HBB.out;omega);have BY7:=BY.fr F7 (fun e=>by have:=(hk7 _ e).2;have:=HY.out;omega);have F7w:=(G.mono (T:=fun k=>(Value.slice a gs.length c).ownBlock=some k) (fun _ _ h=>h.elim)).trans F7;have z0:=BZ7.cell 0;have f0:=BZ7.frozen 0;have z0s:w7.cell? ⟨b,0,none⟩=some (.slice a gs.length c):=z0;have HRUN:=Hi hrun;refine stN 11 (fun KK hKK=>?_);go_simp
 skip
 refine hKK.out _ _ ?_ (fun hHeld=>?_)
 ·exact⟨BZA.cell 0,BYA.cell⟩
 clear hKK KK;(try simp only[Act.put,SS]);refine stN 12 (fun KK hKK=>?_);refine step_append_run (by rfl) (.tmp 8) (.tmp 15) 71 (by rfl) _ w7 (by exact HRUN.out) ?_;refine hKK.out _ _ ?_ (fun hHeld=>?_)
 ·exact⟨BZ7.cell 0,BY7.cell⟩
 clear hKK KK;(try simp only[Act.put,SS]);refine wpAnyN_last (i:=13) (by kernel_rfl) (by decide) (o:=_) rfl (fun KK hKK=>?_);go_simp
 skip
 refine hKK.out _ _ ?_;clear hKK KK;(try simp only[Act.put,SS]);refine wpAnyN_last (i:=14) (by kernel_rfl) (by decide) (o:=_) rfl (fun KK hKK=>?_);go_simp
 skip
 refine hKK.out _ _ ?_;clear hKK KK;(try simp only[Act.put,SS]);refine wpAnyN_last (i:=15) (by kernel_rfl) (by decide) (o:=_) rfl (fun KK hKK=>?_);go_simp
 skip
 refine hKK.out _ _ ?_;clear hKK KK;(try simp only[Act.put,SS]);refine wpAnyN_done (by kernel_rfl) ?_ _;have B8:Blk (w7.setCell ⟨b,0,none⟩ (.slice a7 (gs.length+1) c7)) b 73 #[.slice a7 (gs.length+1) c7]:=BZ7.set 0 _;have F8:Fr (fun k=>k=b) w7 (w7.setCell ⟨b,0,none⟩ (.slice a7 (gs.length+1) c7)):=Fr.setCell (S:=fun k=>k=b) (p:=⟨b,0,none⟩) (Fr.refl w7) (fun _=>rfl) _;have R8:=hrow7.fr F8 (fun k _ e=>by have e2:k=b:=e;have:=HBB.out;show k<base;omega) (fun k hk e=>by have:=(hk8 k hk).1;have e2:k=b:=e;have:=HBB.out;omega)
 have HOUT:=Hi (show IxOwn (w7.setCell ⟨b,0,none⟩ (.slice a7 (gs.length+1) c7)) b base (gs++[nrow r]) from ⟨a7,c7,HBB.out,by rw[List.length_append];exact B8,by rw[List.length_append];exact R8⟩);have HF8:=Hi (((HFA.out.mono (T:=fun k=>k=b∨(base≤k∧k<top)) (fun _ _ h=>h.elim)).trans' F7w (fun i hi e=>.inr ⟨(hk7 i e).1,HTOP.out i e⟩)).trans' F8 (fun i hi e=>.inl e));clear B8 F8 hk8 R8 F7w hk7 BZ7 BY7 BZA BYA z0 z0s f0 hrun hrow7 F7 hown hk G BZ BY hsz;go_end0
 exact⟨rfl,HOUT.out,HF8.out⟩
attribute [local go_sem] Oper.semAt_some
theorem six_of {l:List Value}(h:l.length=6):∃ a b c d e f,l=[a,b,c,d,e,f]:=by
 match l,h with
 | [a,b,c,d,e,f],_=>exact⟨a,b,c,d,e,f,rfl⟩
end Go.Proofs.YtehlipgmkinfbaaGreatDoor
