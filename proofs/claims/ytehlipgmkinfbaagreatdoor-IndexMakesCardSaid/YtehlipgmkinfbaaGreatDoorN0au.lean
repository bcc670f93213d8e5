/-
  Merged by program: XIxPairs XIxSeq2 XIxLike XIxFence XIxSort XIxKnP XIxNew XIxAdd XIxSame.
-/
import Derived.Test.YtehlipgmkinfbaaGreatDoorN0at
import Derived.Test.YtehlipgmkinfbaaGreatDoorN0ar
import Derived.OrdersIn
set_option linter.unusedSimpArgs false
set_option maxRecDepth 100000
set_option maxHeartbeats 8000000
namespace Go.Q
open Go Go.RowKit
section
variable {α κ:Type} [DecidableEq κ] {lt:κ→κ→Bool}{key:α→κ}
theorem sideI_in {L M:List α}:∀ (l m:List α) (i j:Nat),L.drop i=l→M.drop j=m→∀ p∈sideI lt key l m i j,(∃ i' r,p=(some i',none)∧L[i']? = some r)∨(∃ j' s,p=(none,some j')∧M[j']? = some s)∨∃ i' j' r s,p=(some i',some j')∧L[i']? = some r∧M[j']? = some s
 | [],[],i,j,_,_,p,hp=>by rw[sideI]at hp;cases hp
 |x::l,[],i,j,h1,h2,p,hp=>by
  obtain⟨g1,g2⟩:=drop_next h1
  rw[sideI]at hp
  rcases List.mem_cons.1 hp with e|e
  ·exact .inl ⟨i,x,e,g1⟩
  ·exact sideI_in l [] (i+1) j g2 h2 p e
 | [],y::m,i,j,h1,h2,p,hp=>by
  obtain⟨g1,g2⟩:=drop_next h2
  rw[sideI]at hp
  rcases List.mem_cons.1 hp with e|e
  ·exact .inr (.inl ⟨j,y,e,g1⟩)
  ·exact sideI_in [] m i (j+1) h1 g2 p e
 |x::l,y::m,i,j,h1,h2,p,hp=>by
  obtain⟨a1,a2⟩:=drop_next h1
  obtain⟨b1,b2⟩:=drop_next h2
  rw[sideI]at hp
  split at hp
  ·rcases List.mem_cons.1 hp with e|e
   ·exact .inl ⟨i,x,e,a1⟩
   ·exact sideI_in l (y::m) (i+1) j a2 h2 p e
  ·split at hp
   ·rcases List.mem_cons.1 hp with e|e
    ·exact .inr (.inr ⟨i,j,x,y,e,a1,b1⟩)
    ·exact sideI_in l m (i+1) (j+1) a2 b2 p e
   ·rcases List.mem_cons.1 hp with e|e
    ·exact .inr (.inl ⟨j,y,e,b1⟩)
    ·exact sideI_in (x::l) m i (j+1) h1 b2 p e
termination_by l m=>l.length+m.length
end
abbrev sideP (L M:List RowP):List (Option Nat × Option Nat):=sideI ltK rowK L M 0 0
theorem sideP_map (L M:List RowP):(sideP L M).map (atP L M)=sideR L M:=sideI_map L M 0 0 rfl rfl
theorem pairsV_0 (a b:Option Addr)(L M:List RowP):pairsV a b L M 0 0=(sideP L M).map (pairV a b):=rfl
theorem pair_at {a b:Option Addr}{L M:List RowP}{pre rest:List Value}{x:Value}(h:pairsV a b L M 0 0=pre++x::rest):∃ p,(sideP L M)[pre.length]? = some p∧x=pairV a b p∧(sideR L M)[pre.length]? = some (atP L M p)∧((∃ i' r,p=(some i',none)∧L[i']? = some r)∨(∃ j' s,p=(none,some j')∧M[j']? = some s)∨∃ i' j' r s,p=(some i',some j')∧L[i']? = some r∧M[j']? = some s):=by
 have h1:(pairsV a b L M 0 0)[pre.length]? = some x:=by rw[h,List.getElem?_append_right (Nat.le_refl _),Nat.sub_self];rfl
 rw[pairsV_0,List.getElem?_map]at h1
 cases hp:(sideP L M)[pre.length]? with
 |none=>rw[hp]at h1;cases h1
 |some p=>
  rw[hp]at h1
  refine⟨p,rfl,(Option.some.inj h1).symm,?_,sideI_in L M 0 0 rfl rfl p (List.mem_of_getElem? hp)⟩
  rw[←sideP_map,List.getElem?_map,hp]
  rfl
theorem pair_form {a b:Option Addr}{L M:List RowP}{pre rest:List Value}{x:Value}(h:pairsV a b L M 0 0=pre++x::rest):∃ p q,x=.agg #[.pointer p,.pointer q]:=by
 obtain⟨p,-,rfl,-⟩:=pair_at h
 have:∀ (a:Option Addr) (i:Option Nat),∃ p,ptrAt a i=.pointer p:=fun a i=>by
  unfold ptrAt;split
  ·exact⟨_,rfl⟩
  ·exact⟨_,rfl⟩
 obtain⟨q1,h1⟩:=this a p.1
 obtain⟨q2,h2⟩:=this b p.2
 exact⟨q1,q2,by unfold pairV;rw[h1,h2]⟩
theorem pairsV_len (a b:Option Addr)(L M:List RowP):(pairsV a b L M 0 0).length=(sideR L M).length:=by
 rw[pairsV_0,List.length_map,←sideP_map,List.length_map]
theorem take_more {α:Type}{l:List α}{n:Nat}{x:α}(h:l[n]? = some x):l.take (n+1)=l.take n++[x]:=by
 rw[List.take_add_one,h]
 rfl
theorem slot_row {w:World}{a:Option Addr}{c:Nat}{l:List RowP}(h:Slots w (.slice a l.length c) l){i:Nat}{r:RowP}(hi:l[i]? = some r):∃ b o us,a=some ⟨b,o,none⟩∧us.length=6∧RRow w us r∧RSlot w (str (nameKeyS r.iss)::us) r∧w.cell? ⟨b,o+i*7,none⟩=some (str (nameKeyS r.iss))∧∀ j u,us[j]? = some u→w.cell? ⟨b,o+i*7+1+j,none⟩=some u:=by
 obtain⟨b,o,cs,rfl,-,h1,h2,h3⟩:=LAt.get h hi
 have h20:=h2;obtain⟨us,rfl,hR⟩:=h2
 refine⟨b,o,us,rfl,by simpa using h1,hR,h20,by simpa using h3 0 _ rfl,fun j u hu=>?_⟩
 have:=h3 (j+1) u (by rw[List.getElem?_cons_succ];exact hu);rwa[show o+i*7+(j+1)=o+i*7+1+j by omega]at this
variable {P:Program}
theorem range_lawW {g:Operand}{ps:Array Tmp}{assign body:Code}{Q:Exit→Act→World→Prop}{a:Act}{w:World}
  {gf:Nat}{lb:Array Value}(hg:a.eval g=.func (.func gf) #[] lb) (eg:∀ args w,(callFunc gf args).run P w=.ok (.enter gf args) w)
  {xs:List Value}{C:Nat→Prop}{base:Nat}(hcb:∀ k,C k→k<w.heap.size) (hbase:base≤w.heap.size) (hseq:IterV P gf lb xs C base w) (hps:ps.size=1)
  (I:List Value→World→Prop) (Ix:Code→List Value→World→Prop)
  (hI:∀ s A B,I s A→Fr (fun k=>C k∨k=w.heap.size∨k=w.heap.size+1) A B→I s B)
  (hIx:∀ c s A B,Ix c s A→Fr (fun k=>C k∨k=w.heap.size∨k=w.heap.size+1) A B→Ix c s B) (h0:I [] w) (a₁:Value→World→Act) (W₁:Value→World→World) (hW₁:∀ x W,Fz W (W₁ x W))
  (hassign:∀ (l:Nat) (pre:List Value) (x:Value) (rest:List Value) (W:World) (K:Act→World→Prop),xs=pre++x::rest→K (a₁ x W) (W₁ x W)→
    assign.wpIn (Fence.wide.inRound l) 1 P (Exit.then K (fun _ _ _=>False)) { tmps:=(ps.zip #[x]).foldl (fun t (p,v)=>t.setIfInBounds p v) a.tmps,defers:=[] } W)
  (hbody:∀ (l:Nat) (pre:List Value) (x:Value) (rest:List Value) (W W2:World),xs=pre++x::rest→I pre W→w.heap.size+2≤W.heap.size→Fr (fun k=>k=w.heap.size+1) (W₁ x W) W2→body.wpIn (Fence.wide.inRound l) 1 P (seqPostV I Ix base C w.heap.size (pre++[x]) W2) (a₁ x W) W2)
  (hdone:∀ (D:Nat) (W:World),D=w.heap.size→I xs W→W.heap[D]? = some (.deferred (some []))→Q .normal { a with defers:={ target:=.collected D,args:=#[] }::a.defers } W)
  (hstop:∀ (D:Nat) (c:Code) (pre:List Value) (W:World),D=w.heap.size→pre <+: xs→Ix c pre W→W.heap[D]? = some (.deferred (some []))→c.wpIn Fence.wide 3 P Q { a with defers:={ target:=.collected D,args:=#[] }::a.defers } W) :
  (Code.rangeFunc g ps assign body).wpIn Fence.wide 3 P Q a w:=by
 refine wpIn_rangeFunc ?_;intro fn hfn;obtain⟨E,hE⟩:∃ E,E=w.heap.size:=⟨_,rfl⟩
 obtain⟨rec,hrec⟩:∃ rec:LoopState→Option Code→Loop,rec=fun st pe=>{ state:=st,pending:=pe,fn,tmps:=a.tmps,params:=ps,assign,body,defers:=E }:=⟨_,rfl⟩
 obtain⟨W1,hW1⟩:∃ W1,W1=(w.alloc (.deferred (some []))).alloc (.loop (rec .ready none)):=⟨_,rfl⟩
 have F1:Fz w W1:=by rw[hW1];exact((Fr.refl w).alloc _).alloc _
 have hL1:W1.heap[E+1]? = some (.loop (rec .ready none)):=by
  rw[hW1,hE]
  have:=World.alloc_heap_new (w.alloc (.deferred (some []))) (.loop (rec .ready none));rwa[World.size_alloc]at this
 have hK1:W1.heap[E]? = some (.deferred (some [])):=by
  rw[hW1,hE]
  exact(Below.heap_alloc _ _ _ (by simp)).trans (World.alloc_heap_new w _)
 have hI1:I [] W1:=hI [] w W1 h0 (F1.mono (fun _ _ h=>h.elim));have keep:∀ {S:Nat→Prop}{A B:World}{k:Nat}{o:Obj},Fr S A B→A.heap[k]? = some o→¬S k→B.heap[k]? = some o:=fun f h hS=>
  (f.block _ (Array.getElem?_eq_some_iff.1 h).1 hS).trans h
 have hcbE:∀ k,C k→k<E:=fun k h=>by rw[hE];exact hcb k h
 refine⟨E+1,[{ target:=.collected E,args:=#[] }],W1,{ target:=.fn (.func gf) lb,args:=#[.func (.yield (E+1)) #[] #[]] },W1,gf,
  #[.func (.yield (E+1)) #[] #[]]++lb,W1,?_,?_,fun _ _=>trivial,?_,fun _=>by decide,?_⟩
 ·rw[hW1,hrec,hE]
  exact run_enterLoop_outer _ _ _ _ _
 ·simp only[resolve,hg]
  simp[go_sem]
 ·simp[invoke,go_sem,eg]
 refine(hseq (E+1)
  (fun pre W=>I pre W∧W.heap[E+1]? = some (.loop (rec .ready none))∧W.heap[E]? = some (.deferred (some [])))
  (fun pre W=>∃ c,Ix c pre W∧W.heap[E+1]? = some (.loop (rec .done (some c)))∧W.heap[E]? = some (.deferred (some [])))
  W1 F1 ?_ ?_ ?_ ⟨hI1,hL1,hK1⟩).mono ?_
 ·rintro s A B ⟨hi,hl,hk⟩ f
  exact⟨hI s A B hi (f.mono (fun _ _ h=>.inl h)),keep f hl (fun h=>by have:=hcbE _ h;omega),keep f hk (fun h=>by have:=hcbE _ h;omega)⟩
 ·rintro s A B ⟨c,hi,hl,hk⟩ f
  exact⟨c,hIx c s A B hi (f.mono (fun _ _ h=>.inl h)),keep f hl (fun h=>by have:=hcbE _ h;omega),keep f hk (fun h=>by have:=hcbE _ h;omega)⟩
 ·rintro pre x rest W hxs ⟨hi,hl,hk⟩
  have hlt:E+1<W.heap.size:=(Array.getElem?_eq_some_iff.1 hl).1;have hy:=run_yield (P:=P) (args:=#[x]) hl (by rw[hrec];simp[hps]);rw[hrec]at hy
  have FA:=hW₁ x W;obtain⟨WA,hWA⟩:∃ WA,WA=W₁ x W:=⟨_,rfl⟩
  have hlA:WA.heap[E+1]? = some (.loop (rec .ready none)):=by rw[hWA];exact keep FA hl (fun h=>h)
  have hkA:WA.heap[E]? = some (.deferred (some [])):=by rw[hWA];exact keep FA hk (fun h=>h)
  refine⟨fn,_,assign,body,hy,roundIn_of_wpIn hfn (hassign _ pre x rest W _ hxs ?_)⟩
  rw[←hWA]
  refine⟨_,run_beginRound hlA (by rw[hrec]),?_⟩
  obtain⟨W2,hW2⟩:∃ W2,W2=WA.putObj (E+1) (.loop { rec .ready none with state:=.busy }):=⟨_,rfl⟩
  have F2A:Fr (fun k=>k=E+1) WA W2:=by rw[hW2];exact Fr.putObj (S:=fun k=>k=E+1) (Fr.refl WA) (E+1) (fun _=>rfl) _
  have F2:Fr (fun k=>k=E+1) W W2:=((by rw[hWA];exact FA:Fz W WA).mono (fun _ _ h=>h.elim)).trans F2A;have hltA:E+1<WA.heap.size:=(Array.getElem?_eq_some_iff.1 hlA).1;have hl2:W2.heap[E+1]? = some (.loop { rec .ready none with state:=.busy }):=by rw[hW2];exact World.putObj_heap_same hltA
  have hk2:W2.heap[E]? = some (.deferred (some [])):=keep F2A hkA (by omega);rw[←hW2]
  refine wpIn_mono (hbody _ pre x rest W W2 hxs hi (by rw[←hE];omega) (by rw[←hE,←hWA];exact F2A)) ?_;have fin:∀ (jump:Option Code) (W3:World),Fr (fun k=>base≤k∧¬C k∧k≠E∧k≠E+1) W2 W3→
    (Instr.endRound (E+1) jump).run P W3=.ok (.bool jump.isNone) (W3.putObj (E+1) (.loop (rec (if jump.isNone then .ready else .done) jump)))∧
    (W3.putObj (E+1) (.loop (rec (if jump.isNone then .ready else .done) jump))).heap[E+1]? = some (.loop (rec (if jump.isNone then .ready else .done) jump))∧
    (W3.putObj (E+1) (.loop (rec (if jump.isNone then .ready else .done) jump))).heap[E]? = some (.deferred (some []))∧
    Fr (fun k=>C k∨k=w.heap.size∨k=w.heap.size+1) W3 (W3.putObj (E+1) (.loop (rec (if jump.isNone then .ready else .done) jump)))∧
    Fr (fun k=>base≤k∧¬C k) W (W3.putObj (E+1) (.loop (rec (if jump.isNone then .ready else .done) jump))):=fun jump W3 f3=>by
   have hl3:=keep f3 hl2 (by simp);have hk3:=keep f3 hk2 (by simp);have hr:=run_endRound (P:=P) jump hl3;have f4:Fr (fun k=>k=E+1) W3 (W3.putObj (E+1) (.loop (rec (if jump.isNone then .ready else .done) jump))):=Fr.putObj (S:=fun k=>k=E+1) (Fr.refl W3) (E+1) (fun _=>rfl) _;have g:∀ k,k=E+1→base≤k∧¬C k:=fun k e=>⟨by omega,fun h=>by have:=hcbE k h;omega⟩
   refine⟨?_,World.putObj_heap_same (Array.getElem?_eq_some_iff.1 hl3).1,keep f4 hk3 (by omega),f4.mono (fun _ _ h=>.inr (.inr (by rw[←hE];exact h))),?_⟩
   ·rw[hr,hrec]
   ·exact((F2.mono (fun k _ h=>g k h)).trans (f3.mono (fun _ _ h=>⟨h.1,h.2.1⟩))).trans (f4.mono (fun k _ h=>g k h))
  rw[←hE]
  rintro e a3 W3 hp;cases e with
  |normal=>
   obtain⟨f3,hi3⟩:=hp
   obtain⟨hr,hl4,hk4,f4,f5⟩:=fin none W3 f3
   exact⟨_,_,hr,.inl ⟨rfl,⟨hI _ _ _ hi3 f4,hl4,hk4⟩,f5⟩⟩
  |ret=>
   obtain⟨f3,hi3⟩:=hp
   obtain⟨hr,hl4,hk4,f4,f5⟩:=fin (some .ret) W3 f3
   exact⟨_,_,hr,.inr ⟨rfl,.ret,hIx _ _ _ _ hi3 f4,hl4,hk4⟩⟩
  |exit id=>
   obtain⟨f3,hi3⟩:=hp
   obtain⟨hr,hl4,hk4,f4,f5⟩:=fin (some (.exit id)) W3 f3
   exact⟨_,_,hr,.inr ⟨rfl,.exit id,hIx _ _ _ _ hi3 f4,hl4,hk4⟩⟩
  |goto t=>
   obtain⟨f3,hi3⟩:=hp
   obtain⟨hr,hl4,hk4,f4,f5⟩:=fin (some (.goto t)) W3 f3
   exact⟨_,_,hr,.inr ⟨rfl,.goto t,hIx _ _ _ _ hi3 f4,hl4,hk4⟩⟩
  |panic ch=>exact hp.elim
  |outgrown=>exact hp.elim
 ·rintro e W2 ⟨⟨v,rfl⟩,(⟨hi,hl,hk⟩|⟨pre,hpre,c,hi,hl,hk⟩)⟩
  ·have hr:=run_endLoop (P:=P) hl (by rw[hrec];simp)
   rw[hrec]at hr
   refine⟨none,_,hr,hdone E _ hE (hI _ _ _ hi ((Fr.refl W2).putObj _ (fun _=>.inr (.inr (by omega))) _)) ((World.putObj_heap_other (by omega)).trans hk)⟩
  ·have hr:=run_endLoop (P:=P) hl (by rw[hrec];simp)
   rw[hrec]at hr
   refine⟨some c,_,hr,hstop E c pre _ hE hpre (hIx c _ _ _ hi ((Fr.refl W2).putObj _ (fun _=>.inr (.inr (by omega))) _)) ((World.putObj_heap_other (by omega)).trans hk)⟩
open Go
def noDefer (ops:Array Oper):Bool:=ops.all (fun o=>match o.op with
 |.defer _=>false
 |_=>true)
theorem noDefer_spec {ops:Array Oper}(h:noDefer ops=true){i:Nat}{o:Oper}(ho:ops[i]? = some o):∀ c,o.op≠.defer c:=fun c e=>by
 have hm:=Array.mem_of_getElem? ho;have:=Array.all_eq_true'.1 h o hm;rw[e]at this
 cases this
section
variable {P:Program}{ops:Array Oper}{Q:Exit→Act→World→Prop}
theorem wpOps_wide {l n:Nat}(hQ:¬LetsOut Q)(hd:noDefer ops=true):∀ (s:List Nat) (a:Act) (w:World),wpOps P ops Q s a w→wpOpsIn (Fence.wide.inRound l) n P ops Q s a w
 | [],a,w,h=>h
 |i::rest,a,w,h=>by
  unfold wpOps at h;unfold wpOpsIn;split
  ·rename_i hn
   rw[hn]at h
   exact wpOps_wide hQ hd rest a w h
  ·rename_i o ho
   rw[ho]at h
   simp only at h
   split
   ·rename_i hw
    rw[if_pos hw]at h
    rcases h with h|⟨-,h⟩
    ·refine⟨fun _ _=>trivial,?_⟩
     rw[Oper.semAt_eq _ _ _ (noDefer_spec hd ho)]
     unfold Oper.wp at h;generalize (execOp a.eval o).run P w=r at *
     cases r with
     |ok x w'=>
      cases x<;>simp only[Oper.upon,Oper.uponIn]at h ⊢
      all_goals first
       |exact wpOps_wide hQ hd rest _ _ h
       |(refine⟨fun h=>by simp[Fence.wide,Fence.inRound]at h,(CallsIn.inRound l (callsIn_wide.2 h)).mono ?_⟩
         intro e w'' he;cases e with
         |returned v=>exact wpOps_wide hQ hd rest _ _ he
         |panicked ch=>exact he
         |outgrown=>exact he)
       |(refine⟨fun h=>by simp[Fence.wide,Fence.inRound]at h,fun c cs _=>?_⟩
         obtain⟨v,w'',r,s⟩:=h c cs
         exact⟨v,w'',wpOps_wide hQ hd rest _ _ r,stepsIn_wide.2 s⟩)
       |exact h.elim
     |halt x w'=>
      cases x<;>simp only[Oper.upon,Oper.uponIn]at h ⊢<;>first|exact h|exact h.elim
    ·exact absurd h hQ
   ·rename_i hw
    rw[if_neg hw]at h
    exact⟨fun _ _=>trivial,wpOps_wide hQ hd rest _ _ h⟩
theorem wpIn_region_wide {l n id:Nat}{a:Act}{w:World}(hm:P.follows .mixedOrders=true)(hd:noDefer ops=true)(hQ:¬LetsOut Q)
  (h:wpAny P .any ops Q ops.size (Array.replicate ops.size false) a w.drew):(Code.region id ops true).wpIn (Fence.wide.inRound l) n P Q a w:=
 wpIn_region_draw fun t=>by
  simp only[Region.schedule,hm,Bool.true_or,if_true]
  exact wpOps_wide hQ hd _ _ _ (wpAny_sound ops.size t _ a _ h)
theorem wpIn_region_N {md:Nat}{S:World→Prop}(n:Nat){l id:Nat}{a:Act}{w:World}(hm:P.follows .mixedOrders=true)(hd:noDefer ops=true)(hQ:¬LetsOut Q)(hS:S w.drew)
  (h:S w.drew→wpAnyN P .any ops Q S n ops.size (Array.replicate ops.size false) a w.drew):(Code.region id ops true).wpIn (Fence.wide.inRound l) md P Q a w:=
 wpIn_region_wide hm hd hQ (wpAny_ofN _ _ _ _ (h hS))
end
def kRow (n:List (List Part))(k:UInt8):RowP:=⟨n,⟨false,[k]⟩,0,0,none⟩
theorem rowK_k (n:List (List Part))(k:UInt8):rowK (kRow n k)=(nameKeyS n,(k.toNat:Int)):=by
 simp[rowK,kRow,numV,natOf]
theorem ltK_35 (n:List (List Part)):ltK (rowK (kRow n 3)) (rowK (kRow n 5))=true:=by
 rw[rowK_k,rowK_k]
 simp[ltK]
theorem nrow_k (n:List (List Part))(k:UInt8)(hk:(k==0)=false):nrow (kRow n k)=kRow n k:=by
 have hk':¬k=0:=by simpa using hk
 simp[nrow,kRow,madeS,trimS,hk']
theorem kn_two {n:List (List Part)}(h:nameOk n=true):newIx [kRow n 5,kRow n 3]=.ok [kRow n 3,kRow n 5]:=by
 have h35:=ltK_35 n;have h53:ltK (rowK (kRow n 5)) (rowK (kRow n 3))=false:=ordK.asym h35;have hne:¬rowK (kRow n 5)=rowK (kRow n 3):=fun e=>ordK.ne h35 e.symm
 have ho:okRows [kRow n 5,kRow n 3]=true:=by simp[okRows,kRow,h]
 have hn:newR [] [kRow n 5,kRow n 3]=some [kRow n 3,kRow n 5]:=by
  simp[newR,newS,insS,h53,hne]
 unfold newIx;rw[if_pos ho,hn]
 simp only[List.map_cons,List.map_nil]
 rw[nrow_k n 3 rfl,nrow_k n 5 rfl]
theorem kn_one {n:List (List Part)}(h:nameOk n=true):newIx [kRow n 5]=.ok [kRow n 5]:=by
 have ho:okRows [kRow n 5]=true:=by simp[okRows,kRow,h]
 have hn:newR [] [kRow n 5]=some [kRow n 5]:=by simp[newR,newS,insS]
 unfold newIx;rw[if_pos ho,hn]
 simp only[List.map_cons,List.map_nil]
 rw[nrow_k n 5 rfl]
theorem kn_twice {n:List (List Part)}(h:nameOk n=true):newIx [kRow n 5,kRow n 5]=.error 10:=by
 have ho:okRows [kRow n 5,kRow n 5]=true:=by simp[okRows,kRow,h]
 have hn:newR [] [kRow n 5,kRow n 5]=none:=by simp[newR,newS,insS,ordK.irr]
 unfold newIx;rw[if_pos ho,hn]
theorem kn_delta (n:List (List Part)):deltaS [kRow n 3,kRow n 5] [kRow n 5]=[goneR (kRow n 3)]:=by
 have h35:=ltK_35 n;unfold deltaS sideR;rw[sideS,if_pos h35,sideS,if_neg (by rw[ordK.irr];decide),if_pos rfl,sideS]
 simp[deltaG,likeR]
theorem kn_nrow (n:List (List Part)):(deltaS [kRow n 3,kRow n 5] [kRow n 5]).map nrow=[goneR (kRow n 3)]:=by
 rw[kn_delta]
 simp[nrow,goneR,kRow,madeS,trimS]
theorem newIx_sorted {l s:List RowP}(hok:okRows l=true)(hp:s.Perm (l.map nrow))(hs:Upw ltK rowK s):newIx l=if apartB rowK s=true then .ok s else .error 10:=by
 have h1:=new_sorted ordK hp hs;have h2:=newR_map l;unfold newR at h2;rw[h1]at h2
 unfold newIx newR;rw[if_pos hok]
 cases hn:newS ltK rowK [] l with
 |none=>
  rw[hn]at h2
  split at h2
  ·cases h2
  ·rename_i g
   rw[if_neg g]
 |some o=>
  rw[hn]at h2
  split at h2
  ·rename_i g
   simp only[Option.map_some,Option.some.injEq]at h2
   rw[if_pos g,h2]
  ·cases h2
theorem newIx_bad {l:List RowP}(h:okRows l=false):newIx l=.error 1:=by
 unfold newIx;rw[h]
 rfl
theorem stN (i:Nat){P:Program}{ops:Array Oper}{Q:Exit→Act→World→Prop}{md:Region.Mode}{S:World→Prop}{n f:Nat}{o:Oper}{listed:Array Bool}{a:Act}{w:World}(h:∀ K:Act→World→Prop,Shut (∀ a w,S w→(S w→wpAnyN P md ops Q S n f (listed.setIfInBounds i true) a w)→K a w)→if Region.wanted o (yielded ops a.tmps)=true then Oper.wp P o a w K Q else K (a.put o.dst undef) w)(hr:Region.ready md ops listed=[i]:=by kernel_rfl)(ho:ops[i]? = some o:=by rfl):wpAnyN P md ops Q S n (f+1) listed a w:=wpAnyN_step hr ho h
def fitW (r:RowP):Prop:=fitN r.iss∧r.num.size.length≤1000000
theorem apart_iff {α κ:Type}[DecidableEq κ]{key:α→κ}:∀ {l:List α},apartB key l=true↔∀ (j:Nat) (x y:α),l[j]? = some x→l[j+1]? = some y→key x≠key y
 | []=>by simp[apartB]
 | [x]=>by simp[apartB]
 |x::y::t=>by
  unfold apartB;rw[Bool.and_eq_true,decide_eq_true_eq,apart_iff (l:=y::t)]
  constructor
  ·rintro ⟨h1,h2⟩ j a b ha hb
   cases j with
   |zero=>
    simp only[List.getElem?_cons_zero,List.getElem?_cons_succ,Nat.zero_add,Option.some.injEq]at ha hb
    rw[←ha,←hb];exact h1
   |succ j=>
    rw[List.getElem?_cons_succ]at ha hb
    exact h2 j a b ha hb
  ·intro h
   exact⟨h 0 x y rfl rfl,fun j a b ha hb=>h (j+1) a b (by rw[List.getElem?_cons_succ];exact ha) (by rw[List.getElem?_cons_succ];exact hb)⟩
def IxOwn (W:World)(b base:Nat)(l:List RowP):Prop:=∃ a c,b<base∧Blk W b 73 #[.slice a l.length c]∧GRow 7 RSlot (fun k=>k<base) 78 W base (.slice a l.length c) l
theorem IxOwn.at {W:World}{b base:Nat}{l:List RowP}(h:IxOwn W b base l):IxAt W (pt b) l:=by
 obtain⟨a,c,-,h1,h2⟩:=h
 exact .inr ⟨b,_,rfl,h1.cell 0,h2.at (by decide)⟩
theorem IxOwn.fr {S:Nat→Prop}{W W':World}{b base:Nat}{l:List RowP}(h:IxOwn W b base l)(f:Fr S W W')(hS:∀ k,S k→k<base∧k≠b):IxOwn W' b base l:=by
 obtain⟨a,c,h0,h1,h2⟩:=h
 have hk:=h2.keep;exact⟨a,c,h0,h1.fr f (fun e=>(hS b e).2 rfl),h2.fr f (fun k _ e=>(hS k e).1) (fun k e hs=>by have:=(hk k e).1;have:=(hS k hs).1;omega)⟩
def IxOwnT (W:World)(b base top:Nat)(l:List RowP):Prop:=∃ a c,b<base∧Blk W b 73 #[.slice a l.length c]∧GRow 7 RSlot (fun k=>k<base) 78 W base (.slice a l.length c) l∧∀ k,(Value.slice a l.length c).ownBlock=some k→k<top
theorem IxOwn.top {W:World}{b base:Nat}{l:List RowP}(h:IxOwn W b base l):IxOwnT W b base W.heap.size l:=by
 obtain⟨a,c,h0,h1,h2⟩:=h
 exact⟨a,c,h0,h1,h2,fun k hk=>(h2.keep k hk).2⟩
theorem IxOwnT.fr {S:Nat→Prop}{W W':World}{b base top:Nat}{l:List RowP}(h:IxOwnT W b base top l)(f:Fr S W W')(hS:∀ k,S k→k<base∧k≠b):IxOwnT W' b base top l:=by
 obtain⟨a,c,h0,h1,h2,h3⟩:=h
 have hk:=h2.keep;exact⟨a,c,h0,h1.fr f (fun e=>(hS b e).2 rfl),h2.fr f (fun k _ e=>(hS k e).1) (fun k e hs=>by have:=(hk k e).1;have:=(hS k hs).1;omega),h3⟩
theorem IxOwn.old {W W':World}{b base:Nat}{l:List RowP}(h:IxOwn W b base l)(f:Fz W W'):IxOwn W' b base l:=h.fr f (fun _ e=>e.elim)
end Go.Q
namespace Go.Proofs.YtehlipgmkinfbaaGreatDoor
open Go Go.RowKit Go.Q
theorem like_any (cs ds:List Value)(r q:RowP)(w:World)(h:RRow w cs r)(hu:RRow w ds q) :
  Calls Tryz.prog 51 #[.agg cs.toArray,.agg ds.toArray] w fun e w'=>e=.returned (.bool (likeR r q))∧Fz w w':=by
 obtain⟨a1,c1,b1,d1,q1,rfl,-,-,i1⟩:=h.form
 obtain⟨a2,c2,b2,d2,q2,rfl,-,-,i2⟩:=hu.form
 obtain⟨z,hz⟩:∃ z,z=w.heap.size:=⟨_,rfl⟩
 have HZ:=Hi hz;have F0:Fz w ((w.alloc (.cells #[.slice a1 r.iss.length c1,.bool r.num.below,.slice b1 r.num.size.length d1,.int .i64 r.date,.int .i64 r.reason,.pointer q1] 43)).alloc (.cells #[.slice a2 q.iss.length c2,.bool q.num.below,.slice b2 q.num.size.length d2,.int .i64 q.date,.int .i64 q.reason,.pointer q2] 43)):=((Fr.refl w).alloc _).alloc _
 have BA:=(Blk.new w 43 #[.slice a1 r.iss.length c1,.bool r.num.below,.slice b1 r.num.size.length d1,.int .i64 r.date,.int .i64 r.reason,.pointer q1]).alloc (.cells #[.slice a2 q.iss.length c2,.bool q.num.below,.slice b2 q.num.size.length d2,.int .i64 q.date,.int .i64 q.reason,.pointer q2] 43);have BB:=Blk.new (w.alloc (.cells #[.slice a1 r.iss.length c1,.bool r.num.below,.slice b1 r.num.size.length d1,.int .i64 r.date,.int .i64 r.reason,.pointer q1] 43)) 43 #[.slice a2 q.iss.length c2,.bool q.num.below,.slice b2 q.num.size.length d2,.int .i64 q.date,.int .i64 q.reason,.pointer q2]
 rw[World.size_alloc,←hz]at BB
 rw[←hz]at BA
 have I1:=i1.old F0;have I2:=i2.old F0;have HF:=Hi F0;have HI1:=Hi I1;have HI2:=Hi I2;have HL:Hid (likeR r q=(decide (r.date=q.date)&&(decide (r.reason=q.reason)&&decide (r.inv=q.inv)))):=Hi rfl;clear h hu hz F0 i1 i2 I1 I2;go_enter Tryz.func51,Tryz.ntmps51
 go_upto_region 1 with fail
 rw[←HZ.out]
 generalize ((w.alloc (.cells #[.slice a1 r.iss.length c1,.bool r.num.below,.slice b1 r.num.size.length d1,.int .i64 r.date,.int .i64 r.reason,.pointer q1] 43)).alloc (.cells #[.slice a2 q.iss.length c2,.bool q.num.below,.slice b2 q.num.size.length d2,.int .i64 q.date,.int .i64 q.reason,.pointer q2] 43))=w0 at *
 have x3:=BA.cell 3;have x4:=BA.cell 4;have x5:=BA.cell 5;have y3:=BB.cell 3;have y4:=BB.cell 4;have y5:=BB.cell 5;simp only[SG]at x3 x4 x5 y3 y4 y5
 clear BA BB;by_cases hd:r.date=q.date
 ·have k1:(r.date==q.date)=true:=by simp[hd]
  have k2:(r.date != q.date)=false:=by simp[hd]
  have HD:=Hi hd;clear hd;by_cases hr:r.reason=q.reason
  ·have k3:(r.reason==q.reason)=true:=by simp[hr]
   have k4:(r.reason != q.reason)=false:=by simp[hr]
   have HR:=Hi hr;clear hr;have h1:=HI1.out;have h2:=HI2.out;cases hx:r.inv with
   |none=>
    rw[hx]at h1
    simp only[InvAt,Value.pointer.injEq]at h1
    subst h1;cases hy:q.inv with
    |none=>
     rw[hy]at h2
     simp only[InvAt,Value.pointer.injEq]at h2
     subst h2;have HE:=Hi (show likeR r q=true from by rw[HL.out,HD.out,HR.out,hx,hy];simp);clear hx hy;go_upto_region 3 with fail
     go_quiet (fail)
     go_wp2_with fail
     go_ret;exact⟨by first|(rw[HE.out];done)|(rw[HE.out];rfl),HF.out.drewN _⟩
    |some t=>
     rw[hy]at h2
     obtain⟨b,o,hq2,hc⟩:=h2
     simp only[Value.pointer.injEq]at hq2
     subst hq2;have HE:=Hi (show likeR r q=false from by rw[HL.out,hx,hy];simp);clear hx hy;go_wp2_with fail
     go_ret;exact⟨by first|(rw[HE.out];done)|(rw[HE.out];rfl),HF.out⟩
   |some s=>
    rw[hx]at h1
    obtain⟨b,o,hq1,hc⟩:=h1
    simp only[Value.pointer.injEq]at hq1
    subst hq1;cases hy:q.inv with
    |none=>
     rw[hy]at h2
     simp only[InvAt,Value.pointer.injEq]at h2
     subst h2;have HE:=Hi (show likeR r q=false from by rw[HL.out,hx,hy];simp);clear hx hy;go_wp2_with fail
     go_ret;exact⟨by first|(rw[HE.out];done)|(rw[HE.out];rfl),HF.out⟩
    |some t=>
     rw[hy]at h2
     obtain⟨b',o',hq2,hc'⟩:=h2
     simp only[Value.pointer.injEq]at hq2
     subst hq2;by_cases hst:s=t
     ·have k5:(s==t)=true:=by simp[hst]
      have HE:=Hi (show likeR r q=true from by rw[HL.out,HD.out,HR.out,hx,hy,hst];simp);clear hx hy hst;go_upto_region 3 with fail
      go_quiet (fail)
      go_wp2_with fail
      go_ret;exact⟨by first|(rw[HE.out];done)|(rw[HE.out];rfl),HF.out.drewN _⟩
     ·have k5:(s==t)=false:=by simp[hst]
      have HE:=Hi (show likeR r q=false from by rw[HL.out,hx,hy];simp[hst]);clear hx hy hst;go_upto_region 3 with fail
      go_quiet (fail)
      go_wp2_with fail
      go_ret;exact⟨by first|(rw[HE.out];done)|(rw[HE.out];rfl),HF.out.drewN _⟩
  ·have k3:(r.reason==q.reason)=false:=by simp[hr]
   have k4:(r.reason != q.reason)=true:=by simp[hr]
   have HE:=Hi (show likeR r q=false from by rw[HL.out];simp[hr]);clear hr;go_wp2_with fail
   go_ret;exact⟨by first|(rw[HE.out];done)|(rw[HE.out];rfl),HF.out⟩
 ·have k1:(r.date==q.date)=false:=by simp[hd]
  have k2:(r.date != q.date)=true:=by simp[hd]
  have HE:=Hi (show likeR r q=false from by rw[HL.out];simp[hd]);clear hd;go_wp2_with fail
  go_ret;exact⟨by first|(rw[HE.out];done)|(rw[HE.out];rfl),HF.out⟩
theorem bitsLen64_any (n:Nat)(hn:n≤12)(w:World) :
  Calls Tryz.prog 107 #[.int .u64 n] w fun e w'=>(∃ k,e=.returned (.int .i64 k))∧Fz w w':=by
 rcases (by omega:n=0∨n=1∨n=2∨n=3∨n=4∨n=5∨n=6∨n=7∨n=8∨n=9∨n=10∨n=11∨n=12) with rfl|rfl|rfl|rfl|rfl|rfl|rfl|rfl|rfl|rfl|rfl|rfl|rfl
 all_goals
  go_enter Tryz.func107,Tryz.ntmps107
  go_wp2_with fail
  go_ret;exact⟨⟨_,rfl⟩,Fr.refl w⟩
theorem bitsLen_any (n:Nat)(hn:n≤12)(w:World) :
  Calls Tryz.prog 67 #[.int .u64 n] w fun e w'=>(∃ k,e=.returned (.int .i64 k))∧Fz w w':=by
 have H:=Hi (bitsLen64_any n hn w);go_enter Tryz.func67,Tryz.ntmps67
 go_wp2_with fail
 refine H.out.mono ?_;rintro e w1 ⟨⟨k,rfl⟩,F1⟩;go_wp2_with fail
 go_ret;exact⟨⟨_,rfl⟩,F1⟩
theorem pdqSort_any (v:Value)(k:Int)(l:List RowP)(base:Nat)(K:Nat→Prop)(w:World)(h:GRow 7 RSlot K 78 w base v l)(hl:l.length≤12)(hs:∀ r∈l,r.num.size.length≤1000000) :
  Calls Tryz.prog 66 #[v,.int .i64 0,.int .i64 l.length,.int .i64 k,.func (.func 39) #[] #[]] w fun e w'=>e=.returned (.tuple #[])∧(∃ s,s.Perm l∧Upw ltK rowK s∧GRow 7 RSlot K 78 w' base v s)∧Fr (fun k=>v.ownBlock=some k) w w':=by
 have H:=Hi (insSort_any v l base K w h hl hs);obtain⟨a,c,rfl⟩:=h.shape
 have q1:(l.length:Int)≤12:=by omega
 have q2:IntKind.i64.wrap ((l.length:Int)-0)=(l.length:Int):=by simp[IntKind.wrap,IntKind.signed,IntKind.bits];omega
 have q3:(l.length:Int)-0=(l.length:Int):=by omega
 clear h hs;go_enter Tryz.func66,Tryz.ntmps66
 go_wp2_with fail
 go_loopg [1,2] 1 (fun g x y wr=>g=1∧x=.int .i64 0∧y=.int .i64 l.length∧wr=w)
 case atStart=>exact⟨rfl,rfl,rfl,rfl⟩
 case round=>
  obtain⟨hg,rfl,rfl,rfl⟩:=hrel
  clear hg;go_wp2_with fail
  refine H.out.mono ?_;rintro e w1 ⟨rfl,hq,F1⟩;have HQ:=Hi hq;clear hq;go_wp2_with fail
  refine bodyPost_ret (results_none rfl _ _ _) rfl ?_;exact⟨rfl,HQ.out,F1⟩
theorem sortFunc_any (v:Value)(l:List RowP)(base:Nat)(K:Nat→Prop)(w:World)(h:GRow 7 RSlot K 78 w base v l)(hl:l.length≤12)(hs:∀ r∈l,r.num.size.length≤1000000) :
  Calls Tryz.prog 38 #[v,.func (.func 39) #[] #[]] w fun e w'=>e=.returned (.tuple #[])∧(∃ s,s.Perm l∧Upw ltK rowK s∧GRow 7 RSlot K 78 w' base v s)∧Fr (fun k=>v.ownBlock=some k) w w':=by
 have H:=Hi (fun (k:Int) (W:World) (F:Fz w W)=>pdqSort_any v k l base K W (h.old F) hl hs);have HL:=Hi (bitsLen_any l.length hl w);obtain⟨a,c,rfl⟩:=h.shape
 have q1:IntKind.u64.wrap (l.length:Int)=(l.length:Int):=by simp[IntKind.wrap,IntKind.signed,IntKind.bits];omega
 clear h hs;go_enter Tryz.func38,Tryz.ntmps38
 go_wp2_with fail
 refine HL.out.mono ?_;rintro e w1 ⟨⟨k,rfl⟩,F1⟩;go_wp2_with fail
 refine(H.out k w1 F1).mono ?_
 rintro e w2 ⟨rfl,hq,F2⟩;have HQ:=Hi hq;have HF:=Hi ((F1.mono (fun _ _ h=>h.elim)).trans F2);clear hq F1 F2;go_wp2_with fail
 go_end0
 exact⟨rfl,HQ.out,HF.out⟩
theorem info78:(Tryz.prog.info? 78).map (fun i=>(i.zero,i.size,i.bytes))=some (some (.agg #[.string ⟨#[]⟩,.slice none 0 0,.bool false,.slice none 0 0,.int .i64 0,.int .i64 0,.pointer none]),7,96):=by kernel_rfl
def NewOut (l:List RowP)(e:Ending)(w':World):Prop:=
 match newIx l with
 |.ok o=>∃ b,e=.returned (.tuple #[pt b,.int .i64 0])∧IxAt w' (pt b) o
 |.error k=>e=.returned (.tuple #[.pointer none,.int .i64 k])
theorem ixNew_any (v:Value)(l:List RowP)(w:World)(h:Go.Q.Rows w v l)(hf:∀ r∈l,fitW r)(hl:l.length≤12)(hE:Env w) :
  Calls Tryz.prog 10 #[v] w fun e w'=>NewOut l e w'∧Fz w w':=by
 have H:=Hi h;have HFT:=Hi hf;have HEN:=Hi hE;obtain⟨a0,c0,rfl,-⟩:=h
 obtain⟨z,hz⟩:∃ z,z=w.heap.size:=⟨_,rfl⟩
 have HZ:=Hi hz;have BZ:=Blk.new w 73 #[.slice none 0 0];rw[←hz]at BZ
 have F0:Fz w (w.alloc (.cells #[.slice none 0 0] 73)):=(Fr.refl w).alloc _;have HF0:=Hi F0;have HBZ:=Hi BZ;clear hf hE hz BZ F0;go_enter Tryz.func10,Tryz.ntmps10
 go_upto_region 2 with fail
 rw[←HZ.out]
 generalize (w.alloc (.cells #[.slice none 0 0] 73))=w0 at *
 go_wp2_with fail
 go_loopg [14] l.length (fun g i wr=>∃ (j:Nat) (a:Option Addr) (c:Nat) (gs:List RowP),g=l.length-j∧j≤l.length∧i=.int .i64 j∧gs.length=j∧Hid (okRows (l.take j)=true)∧Hid (gs=(l.take j).map nrow)∧Hid (Blk wr z 73 #[.slice a gs.length c])∧Hid (GRow 7 RSlot (fun k=>k=z) 78 wr (z+1) (.slice a gs.length c) gs)∧Hid (Fz w wr))
 case atStart=>exact⟨0,none,0,[],rfl,Nat.zero_le _,rfl,rfl,Hi rfl,Hi rfl,HBZ,Hi (GRow.nil _ _ _ _ _ _),HF0⟩
 case round=>
  obtain⟨j,a,c,gs,hg,hj,rfl,hgl,HOK,HGS,HB,HRW,HF⟩:=hrel
  have HG:=Hi hg;have HGL:=Hi hgl;clear hg hgl;by_cases hjl:j<l.length
  ·obtain⟨r,hr⟩:∃ r,l[j]? = some r:=⟨_,List.getElem?_eq_getElem hjl⟩
   obtain⟨b,o,cs,rfl,-,hcs,hR,hcell⟩:=LAt.get (Go.Q.Rows.old H.out HF.out) hr
   obtain⟨a1,c1,b1,d1,q1,rfl,hni,-⟩:=hR.form
   have e0:=hcell 0 _ rfl;have e1:=hcell 1 _ rfl;have e2:=hcell 2 _ rfl;have e3:=hcell 3 _ rfl;have e4:=hcell 4 _ rfl;have e5:=hcell 5 _ rfl;simp only[Nat.add_zero]at e0
   have p1:(j:Int)<(l.length:Int):=by omega
   have p2:(0:Int)≤(j:Int):=by omega
   have HTK:=Hi (show (l.take (j+1)).map nrow=(l.take j).map nrow++[nrow r] by rw[List.take_add_one,hr,List.map_append];rfl);have HTO:=Hi (show okRows (l.take (j+1))=(okRows (l.take j)&&nameOk r.iss) by rw[List.take_add_one,hr];simp[okRows]);have hft:=HFT.out r (List.mem_of_getElem? hr);have hfb:∀ s∈r.iss,fewB s:=fun s hs=>(hft.1.2 s hs).1
   obtain⟨y,hy⟩:∃ y,y=wr.heap.size:=⟨_,rfl⟩
   have HY:=Hi hy;have BY:=Blk.new wr 43 #[.slice a1 r.iss.length c1,.bool r.num.below,.slice b1 r.num.size.length d1,.int .i64 r.date,.int .i64 r.reason,.pointer q1];have FA:Fz wr (wr.alloc (.cells #[.slice a1 r.iss.length c1,.bool r.num.below,.slice b1 r.num.size.length d1,.int .i64 r.date,.int .i64 r.reason,.pointer q1] 43)):=(Fr.refl wr).alloc _;have HFA:=Hi FA;rw[←hy]at BY
   have HBY:=Hi BY;have HRR:=Hi hR;have HNI:=Hi hni;have hmem:=List.mem_of_getElem? hr;have HMEM:=Hi hmem;have HFTR:=Hi hft;have HFB:=Hi hfb;clear hcell hR hni FA BY hy hft hfb hr hmem;go_upto_region 5 with fail
   rw[←HY.out]
   generalize (wr.alloc (.cells #[.slice a1 r.iss.length c1,.bool r.num.below,.slice b1 r.num.size.length d1,.int .i64 r.date,.int .i64 r.reason,.pointer q1] 43))=w2 at *
   clear e0 e1 e2 e3 e4 e5;have y0:=HBY.out.cell 0;simp only[SG]at y0
   cases hno:nameOk r.iss with
   |false=>
    have HN:=Hi (nameKey_bad _ r.iss w2 (HNI.out.old HFA.out) HFB.out hno);have HNO:=Hi (show newIx l=.error 1 from newIx_bad (by
     cases hq:okRows l with
     |false=>rfl
     |true=>
      unfold okRows at hq;rw[List.all_eq_true]at hq
      have:=hq r HMEM.out;rw[hno]at this;exact this.symm))
    clear hno;go_wp2_with fail
    refine HN.out.mono ?_;rintro e w3 ⟨rfl,F3⟩;go_wp2_with fail
    refine bodyPost_ret (v:=.tuple #[.pointer none,.int .i64 1]) (by simp[results,Tryz.results10,go_sem]) rfl ⟨by unfold NewOut;rw[HNO.out],(HF.out.trans HFA.out).trans F3⟩
   |true=>
    have HN:=Hi (nameKey_any _ r.iss w2 (HNI.out.old HFA.out) HFB.out hno ((HEN.out.old HF.out).old HFA.out));have HNO:=Hi hno;clear hno;go_wp2_with fail
    refine HN.out.mono ?_;rintro e w3 ⟨rfl,F3⟩;have HF3:=Hi (HFA.out.trans F3);have BZ:=(HB.out.fr (HFA.out.trans F3) (fun h=>h)).drew;have BY:=(HBY.out.fr F3 (fun h=>h)).drew;have HC:=Hi (fun W (F:Fz w3 W)=>ixCopied_any _ r W (RRow.old _ _ _ _ HRR.out (HF3.out.trans F)) HFTR.out.1 HNO.out HFTR.out.2);have HR3:=Hi (HRW.out.old (HFA.out.trans F3));have hzy:z<y:=by have:=HF.out.size;have:=HY.out;have:=HB.out.lt;omega
    have HZY:=Hi hzy;have G:Fz w3 w3.drew:=(Fr.refl w3).drew;have hsz3:y<w3.heap.size:=(HBY.out.fr F3 (fun h=>h)).lt;have HS3:=Hi hsz3;have hwr3:wr.heap.size≤w3.heap.size:=(HFA.out.trans F3).size;have HWR:=Hi hwr3;clear F3 y0 hzy hsz3 hwr3 HN;obtain⟨x,hx⟩:∃ x,x=madeS r.num:=⟨_,rfl⟩
    rw[←hx]at HC
    have HXR:=Hi (fun (W:World) (vi vs vp:Value) (g:RRow W [vi,.bool x.below,vs,.int .i64 r.date,.int .i64 r.reason,vp] (nrow r))=>show RSlot W [str (nameKeyS r.iss),vi,.bool x.below,vs,.int .i64 r.date,.int .i64 r.reason,vp] (nrow r) from ⟨_,rfl,g⟩);clear hx;go_upto_region 8 with fail
    refine wp_region_N 11 (S:=fun w'=>w'.cell? ⟨z,0,none⟩=some (.slice a gs.length c)∧∀ j,w'.cell? ⟨y,j,none⟩=(#[.slice a1 r.iss.length c1,.bool r.num.below,.slice b1 r.num.size.length d1,.int .i64 r.date,.int .i64 r.reason,.pointer q1]:Array Value)[j]?) (by kernel_rfl) ?_ (fun hHeld=>?_)
    ·exact⟨BZ.cell 0,BY.cell⟩
    refine tkN 0 rfl hHeld ?_;refine tkN 1 rfl hHeld ?_;refine tkN 2 rfl hHeld ?_;(try simp only[Act.put,SS]);refine tkN 3 rfl hHeld ?_;refine tkN 4 rfl hHeld ?_;refine tkN 5 rfl hHeld ?_;(try simp only[Act.put,SS]);refine tkN 6 rfl hHeld ?_;(try simp only[Act.put,SS]);refine wpAnyN_step (i:=7) (by kernel_rfl) (o:=_) rfl (fun KK hKK=>?_);go_simp
    (go_at_call 37;(with_reducible refine(HC.out _ G).mono ?_);rintro e w' ⟨⟨a2,c2,b2,d2,q2,rfl,hk⟩,F⟩;replace BZ:=BZ.fr F (fun h=>h);replace BY:=BY.fr F (fun h=>h);have hsz:=G.size;replace G:=G.trans F;clear F HC;go_wp2_with fail)
    refine hKK.out _ _ ?_ (fun hHeld=>?_)
    ·exact⟨BZ.cell 0,BY.cell⟩
    clear hKK KK;(try simp only[Act.put,SS]);refine tkN 8 rfl hHeld ?_;(try simp only[Act.put,SS]);have BZA:=BZ.alloc (.cells [str (nameKeyS r.iss),.slice a2 r.iss.length c2,.bool x.below,.slice b2 x.size.length d2,.int .i64 r.date,.int .i64 r.reason,.pointer q2].toArray 78);have BYA:=BY.alloc (.cells [str (nameKeyS r.iss),.slice a2 r.iss.length c2,.bool x.below,.slice b2 x.size.length d2,.int .i64 r.date,.int .i64 r.reason,.pointer q2].toArray 78)
    obtain⟨a7,c7,w7,hrun,hrow7,F7,hown⟩:=(HR3.out.old G).add (s:=71) Tryz.underlying71 info78 rfl (by decide) (by decide) (by have:=HZY.out;have:=HS3.out;have:=G.size;omega) ((Fr.refl w').alloc (.cells [str (nameKeyS r.iss),.slice a2 r.iss.length c2,.bool x.below,.slice b2 x.size.length d2,.int .i64 r.date,.int .i64 r.reason,.pointer q2].toArray 78)) w'.heap.size [str (nameKeyS r.iss),.slice a2 r.iss.length c2,.bool x.below,.slice b2 x.size.length d2,.int .i64 r.date,.int .i64 r.reason,.pointer q2] rfl (Blk.new w' 78 [str (nameKeyS r.iss),.slice a2 r.iss.length c2,.bool x.below,.slice b2 x.size.length d2,.int .i64 r.date,.int .i64 r.reason,.pointer q2].toArray) (by simp[Value.oneCell',str]) (nrow r) ((hk.weaken (fun k hk=>by
      have hd:w3.drew.heap.size=w3.heap.size:=rfl;rcases hk with hk|hk
      ·have:=(HRW.out.keep k hk).2;have:=HWR.out;omega
      ·have hk2:k=z:=hk
       have:=HZY.out;have:=HS3.out;omega)).imp (fun W g=>HXR.out W _ _ _ g)) (by have:=HGL.out;omega)
    have hk7:=HRW.out.keep;have BZ7:=BZ.fr F7 (fun e=>by have:=(hk7 _ e).1;omega);have BY7:=BY.fr F7 (fun e=>by have:=(hk7 _ e).2;have:=HY.out;omega);have F7w:=(G.mono (T:=fun k=>(Value.slice a gs.length c).ownBlock=some k) (fun _ _ h=>h.elim)).trans F7;have z0:=BZ7.cell 0;have f0:=BZ7.frozen 0;have z0s:w7.cell? ⟨z,0,none⟩=some (.slice a gs.length c):=z0;have HRUN:=Hi hrun;refine wpAnyN_step (i:=9) (by kernel_rfl) (o:=_) rfl (fun KK hKK=>?_);go_simp
    skip
    refine hKK.out _ _ ?_ (fun hHeld=>?_)
    ·exact⟨BZA.cell 0,BYA.cell⟩
    clear hKK KK;(try simp only[Act.put,SS]);refine wpAnyN_step (i:=10) (by kernel_rfl) (o:=_) rfl (fun KK hKK=>?_);refine step_append_run (by rfl) (.tmp 30) (.tmp 35) 71 (by rfl) _ w7 (by exact HRUN.out) ?_;refine hKK.out _ _ ?_ (fun hHeld=>?_)
    ·exact⟨BZ7.cell 0,BY7.cell⟩
    clear hKK KK;(try simp only[Act.put,SS]);refine wpAnyN_last (i:=11) (by kernel_rfl) (by decide) (o:=_) rfl (fun KK hKK=>?_);go_simp
    skip
    refine hKK.out _ _ ?_;clear hKK KK;(try simp only[Act.put,SS]);refine wpAnyN_last (i:=12) (by kernel_rfl) (by decide) (o:=_) rfl (fun KK hKK=>?_);go_simp
    skip
    refine hKK.out _ _ ?_;clear hKK KK;(try simp only[Act.put,SS]);refine wpAnyN_last (i:=13) (by kernel_rfl) (by decide) (o:=_) rfl (fun KK hKK=>?_);go_simp
    skip
    refine hKK.out _ _ ?_;clear hKK KK;(try simp only[Act.put,SS]);refine wpAnyN_done (by kernel_rfl) ?_ _;have B8:Blk (w7.setCell ⟨z,0,none⟩ (.slice a7 (gs.length+1) c7)) z 73 #[.slice a7 (gs.length+1) c7]:=BZ7.set 0 _;have F8:Fr (fun k=>k=z) w7 (w7.setCell ⟨z,0,none⟩ (.slice a7 (gs.length+1) c7)):=Fr.setCell (S:=fun k=>k=z) (p:=⟨z,0,none⟩) (Fr.refl w7) (fun _=>rfl) _;have hk8:=hrow7.keep;have R8:=hrow7.fr F8 (fun _ _ h=>h) (fun k hk e=>by have:=(hk8 k hk).1;have e2:k=z:=e;omega);have HR8:=Hi R8;have HB8:=Hi B8
    have HF8:=Hi (((HF.out.trans HF3.out).trans' F7w (fun i hi e=>by have:=(hk7 i e).1;have:=HZ.out;omega)).trans' F8 (fun i hi e=>by have e2:i=z:=e;have:=HZ.out;omega));have HGS7:=Hi (show gs++[nrow r]=(l.take (j+1)).map nrow by rw[HTK.out,HGS.out]);have HOK7:=Hi (show okRows (l.take (j+1))=true by rw[HTO.out,HOK.out,HNO.out];rfl);clear B8 F8 hk8 R8 F7w hk7 BZ7 BY7 BZA BYA z0 z0s f0 hrun hrow7 F7 hown hk G BZ BY hsz;go_wp2_with fail
    go_roundg (l.length-(j+1))
    case measure=>rw[HG.out];omega
    case rel=>exact⟨j+1,a7,c7,gs++[nrow r],rfl,by omega,by go_num,by rw[List.length_append,HGL.out];rfl,HOK7,HGS7,Hi (by rw[List.length_append];exact HB8.out),Hi (by rw[List.length_append];exact HR8.out),HF8⟩
  ·have HOA:Hid (okRows l=true):=Hi (by have:=HOK.out;rwa[List.take_of_length_le (by omega)]at this)
   have hgs:=HGS.out;rw[List.take_of_length_le (by omega)]at hgs
   have hgl:gs.length=l.length:=by rw[hgs,List.length_map]
   have HGE:=Hi hgs;have HFS:=Hi (show ∀ r∈gs,r.num.size.length≤1000000 from fun r hr=>by
    rw[hgs]at hr
    obtain⟨x,hx,rfl⟩:=List.mem_map.1 hr
    have:=trimS_le x.num.size;have:=(HFT.out x hx).2;show (trimS x.num.size).length≤_
    omega)
   have z0:=HB.out.cell 0;simp only[SG]at z0
   have HSO:=Hi (sortFunc_any _ gs (z+1) (fun k=>k=z) wr HRW.out (by omega) HFS.out);have p1:¬(j:Int)<(l.length:Int):=by omega
   have hkp:=HRW.out.keep;have HKP:=Hi hkp;have HGN:=Hi hgl;have hgn:gs.length≤12:=by omega
   clear hgs hgl hkp;go_wp2_with fail
   refine HSO.out.mono ?_;rintro e w5 ⟨rfl,⟨s,hsp,hsu,hsr⟩,F5⟩;have hsl:s.length=gs.length:=hsp.length_eq;have HSL:=Hi hsl;have B5:=HB.out.fr F5 (fun e=>by have:=(HKP.out _ e).1;omega);have HB5:=Hi B5;have HF5:=Hi (HF.out.trans' F5 (fun i hi e=>by have:=(HKP.out _ e).1;have:=HZ.out;omega));have HS5:=Hi hsr;have HNS:=Hi (newIx_sorted HOA.out (by rw[←HGE.out];exact hsp) hsu);have HFZ:=Hi (show ∀ r∈s,r.num.size.length≤1000000 from fun r hr=>HFS.out r (hsp.mem_iff.1 hr));clear hsl B5 F5 hsr hsp hsu z0 HSO;go_wp2_with fail
   go_loopg [9] gs.length (fun g ii wx=>∃ q:Nat,g=gs.length-q∧q≤1000∧ii=.int .i64 ((q:Int)+1)∧Hid (∀ (j:Nat) (x y:RowP),j<q→s[j]? = some x→s[j+1]? = some y→rowK x≠rowK y)∧Hid (Fz w5 wx))
   case atStart=>exact⟨0,rfl,by omega,rfl,Hi (fun j x y hj=>absurd hj (Nat.not_lt_zero _)),Hi (Fr.refl _)⟩
   case round=>
    obtain⟨q,hg,hq,rfl,HAP,HFX⟩:=hrel
    have HG2:=Hi hg;clear hg;have BX:=HB5.out.fr HFX.out (fun h=>h);have z0:=BX.cell 0;simp only[List.getElem?_toArray,List.getElem?_cons_zero]at z0
    by_cases hql:q+1<gs.length
    ·obtain⟨rx,hrx⟩:∃ rx,s[q]? = some rx:=⟨_,List.getElem?_eq_getElem (by have:=HSL.out;omega)⟩
     obtain⟨ry,hry⟩:∃ ry,s[q+1]? = some ry:=⟨_,List.getElem?_eq_getElem (by have:=HSL.out;omega)⟩
     have hat:=((HS5.out.old HFX.out).at (by decide):Slots wr _ s);obtain⟨b,o,us,rfl,-,hus,hRx,hcx⟩:=LAt.get hat hrx
     obtain⟨b',o',vs,hbo,-,hvs,hRy,hcy⟩:=LAt.get hat hry
     simp only[Option.some.injEq,Addr.mk.injEq,and_true]at hbo
     obtain⟨rfl,rfl⟩:=hbo
     obtain⟨u0,u1,u2,u3,u4,u5,u6,rfl⟩:=seven_of hus
     obtain⟨v0,v1,v2,v3,v4,v5,v6,rfl⟩:=seven_of hvs
     have HCE:=Hi (fun W (F:Fz wr W)=>orderSlots_any _ _ rx ry W (RSlot.old _ _ _ _ hRx F) (RSlot.old _ _ _ _ hRy F) (HFZ.out rx (List.mem_of_getElem? hrx)) (HFZ.out ry (List.mem_of_getElem? hry)));obtain⟨k,hk⟩:∃ k,k=rowC rx ry:=⟨_,rfl⟩
     rw[←hk]at HCE
     have HK:=Hi hk
     have hE:∀ w',Fz wr w'→(w'.cell? ⟨z,0,none⟩=some (.slice (some ⟨b,o,none⟩) gs.length c))∧(w'.cell? ⟨b,o+q*7,none⟩=some u0∧w'.cell? ⟨b,o+q*7+1,none⟩=some u1∧w'.cell? ⟨b,o+q*7+2,none⟩=some u2∧w'.cell? ⟨b,o+q*7+3,none⟩=some u3∧w'.cell? ⟨b,o+q*7+4,none⟩=some u4∧w'.cell? ⟨b,o+q*7+5,none⟩=some u5∧w'.cell? ⟨b,o+q*7+6,none⟩=some u6)∧w'.cell? ⟨b,o+(q+1)*7,none⟩=some v0∧w'.cell? ⟨b,o+(q+1)*7+1,none⟩=some v1∧w'.cell? ⟨b,o+(q+1)*7+2,none⟩=some v2∧w'.cell? ⟨b,o+(q+1)*7+3,none⟩=some v3∧w'.cell? ⟨b,o+(q+1)*7+4,none⟩=some v4∧w'.cell? ⟨b,o+(q+1)*7+5,none⟩=some v5∧w'.cell? ⟨b,o+(q+1)*7+6,none⟩=some v6:=fun w' F=>
      ⟨F.cell z0 (fun h=>h),⟨F.cell (hcx 0 _ rfl) (fun h=>h),F.cell (hcx 1 _ rfl) (fun h=>h),F.cell (hcx 2 _ rfl) (fun h=>h),F.cell (hcx 3 _ rfl) (fun h=>h),F.cell (hcx 4 _ rfl) (fun h=>h),F.cell (hcx 5 _ rfl) (fun h=>h),F.cell (hcx 6 _ rfl) (fun h=>h)⟩,F.cell (hcy 0 _ rfl) (fun h=>h),F.cell (hcy 1 _ rfl) (fun h=>h),F.cell (hcy 2 _ rfl) (fun h=>h),F.cell (hcy 3 _ rfl) (fun h=>h),F.cell (hcy 4 _ rfl) (fun h=>h),F.cell (hcy 5 _ rfl) (fun h=>h),F.cell (hcy 6 _ rfl) (fun h=>h)⟩
     have HEE:=Hi hE;have HFD:=Hi (Fr.refl wr:Fz wr wr).drew;have HSX:=Hi hrx;have HSY:=Hi hry;have c1:(q:Int)+1<(gs.length:Int):=by omega
     have c3:(0:Int)≤(q:Int):=by omega
     have c4:(q:Int)<(gs.length:Int):=by omega
     have c5:(0:Int)≤(q:Int)+1:=by omega
     have c7:((q:Int)+1).toNat=q+1:=by omega
     have c8:q<gs.length:=by omega
     have hw1:IntKind.i64.wrap ((q:Int)+1-1)=(q:Int):=by simp[IntKind.wrap,IntKind.signed,IntKind.bits];omega
     have hw2:IntKind.i64.wrap (q:Int)=(q:Int):=by simp[IntKind.wrap,IntKind.signed,IntKind.bits];omega
     clear hat hcx hcy hRx hRy hk hE hrx hry BX;by_cases hkk:k=0
     ·have c9:decide (k=0)=true:=decide_eq_true hkk
      have c10:(k==0)=true:=by rw[hkk];rfl
      have HNO:=Hi (show newIx l=.error 10 from by
       rw[HNS.out,if_neg]
       intro h;exact apart_iff.1 h q rx ry HSX.out HSY.out (rowC_zero.1 (by rw[←HK.out];exact hkk)))
      clear hkk;go_upto_region 14 with fail
      clear z0
      go_region_held3 (fun w'=>(w'.cell? ⟨z,0,none⟩=some (.slice (some ⟨b,o,none⟩) gs.length c))∧(w'.cell? ⟨b,o+q*7,none⟩=some u0∧w'.cell? ⟨b,o+q*7+1,none⟩=some u1∧w'.cell? ⟨b,o+q*7+2,none⟩=some u2∧w'.cell? ⟨b,o+q*7+3,none⟩=some u3∧w'.cell? ⟨b,o+q*7+4,none⟩=some u4∧w'.cell? ⟨b,o+q*7+5,none⟩=some u5∧w'.cell? ⟨b,o+q*7+6,none⟩=some u6)∧w'.cell? ⟨b,o+(q+1)*7,none⟩=some v0∧w'.cell? ⟨b,o+(q+1)*7+1,none⟩=some v1∧w'.cell? ⟨b,o+(q+1)*7+2,none⟩=some v2∧w'.cell? ⟨b,o+(q+1)*7+3,none⟩=some v3∧w'.cell? ⟨b,o+(q+1)*7+4,none⟩=some v4∧w'.cell? ⟨b,o+(q+1)*7+5,none⟩=some v5∧w'.cell? ⟨b,o+(q+1)*7+6,none⟩=some v6) (first|(with_reducible exact HEE.out _ HFD.out)|(with_reducible exact HEE.out _ (HFD.out.trans F2))|fail) (first
       |(go_at_call 39;(with_reducible refine(HCE.out _ HFD.out).mono ?_);rintro e w2 ⟨rfl,F2⟩)
       |fail)
      all_goals
       have HF9:=Hi (HF5.out.trans (HFX.out.trans (HFD.out.trans F2)));clear F2 HCE;go_wp2_with fail
       refine bodyPost_ret (v:=.tuple #[.pointer none,.int .i64 10]) (by simp[results,Tryz.results10,go_sem]) rfl ⟨by unfold NewOut;rw[HNO.out],HF9.out⟩
     ·have c9:decide (k=0)=false:=decide_eq_false hkk
      have c10:(k==0)=false:=beq_eq_false_iff_ne.2 hkk;have HAP2:=Hi (show ∀ (j:Nat) (x y:RowP),j<q+1→s[j]? = some x→s[j+1]? = some y→rowK x≠rowK y from fun j x y hj hx hy=>by
       rcases Nat.lt_or_ge j q with h|h
       ·exact HAP.out j x y h hx hy
       ·obtain rfl:j=q:=by omega
        rw[HSX.out]at hx
        rw[HSY.out]at hy
        obtain rfl:=Option.some.inj hx
        obtain rfl:=Option.some.inj hy
        exact fun e=>hkk (by rw[HK.out];exact rowC_zero.2 e))
      clear hkk;go_upto_region 14 with fail
      clear z0
      go_region_held3 (fun w'=>(w'.cell? ⟨z,0,none⟩=some (.slice (some ⟨b,o,none⟩) gs.length c))∧(w'.cell? ⟨b,o+q*7,none⟩=some u0∧w'.cell? ⟨b,o+q*7+1,none⟩=some u1∧w'.cell? ⟨b,o+q*7+2,none⟩=some u2∧w'.cell? ⟨b,o+q*7+3,none⟩=some u3∧w'.cell? ⟨b,o+q*7+4,none⟩=some u4∧w'.cell? ⟨b,o+q*7+5,none⟩=some u5∧w'.cell? ⟨b,o+q*7+6,none⟩=some u6)∧w'.cell? ⟨b,o+(q+1)*7,none⟩=some v0∧w'.cell? ⟨b,o+(q+1)*7+1,none⟩=some v1∧w'.cell? ⟨b,o+(q+1)*7+2,none⟩=some v2∧w'.cell? ⟨b,o+(q+1)*7+3,none⟩=some v3∧w'.cell? ⟨b,o+(q+1)*7+4,none⟩=some v4∧w'.cell? ⟨b,o+(q+1)*7+5,none⟩=some v5∧w'.cell? ⟨b,o+(q+1)*7+6,none⟩=some v6) (first|(with_reducible exact HEE.out _ HFD.out)|(with_reducible exact HEE.out _ (HFD.out.trans F2))|fail) (first
       |(go_at_call 39;(with_reducible refine(HCE.out _ HFD.out).mono ?_);rintro e w2 ⟨rfl,F2⟩)
       |fail)
      all_goals
       have HF9:=Hi (HFX.out.trans (HFD.out.trans F2));clear F2 HCE;go_wp2_with fail
       go_roundg (gs.length-(q+1))
       case measure=>rw[HG2.out];omega
       case rel=>exact⟨q+1,rfl,by omega,by go_num,HAP2,HF9⟩
    ·have HNO:=Hi (show newIx l=.ok s from by
      rw[HNS.out,if_pos]
      exact apart_iff.2 (fun j x y hx hy=>HAP.out j x y (by have:=(List.getElem?_eq_some_iff.1 hy).1;have:=HSL.out;omega) hx hy))
     have HIX:=Hi (show IxAt wr (pt z) s from .inr ⟨z,_,rfl,z0,(HS5.out.old HFX.out).at (by decide)⟩);have HF9:=Hi (HF5.out.trans HFX.out);have c1:¬(q:Int)+1<(gs.length:Int):=by omega
     clear BX;go_wp2_with fail
     refine bodyPost_ret (v:=.tuple #[pt z,.int .i64 0]) (by simp[results,Tryz.results10,go_sem]) rfl ⟨by unfold NewOut;rw[HNO.out];exact⟨z,rfl,HIX.out⟩,HF9.out⟩
theorem ixAdd_any (b base top:Nat)(cs:List Value)(r:RowP)(gs:List RowP)(w:World)(h:IxOwnT w b base top gs)(hb:base≤w.heap.size)(hr:RSlot w cs r)(hf:fitR r)(hl:gs.length≤1000000) :
  Calls Tryz.prog 50 #[pt b,.agg cs.toArray] w fun e w'=>e=.returned (.tuple #[])∧IxOwn w' b base (gs++[nrow r])∧Fr (fun k=>k=b∨(base≤k∧k<top)) w w':=by
 obtain⟨a,c,hbb,BZ,hrow,htop⟩:=h
 have HTOP:=Hi htop;clear htop;obtain⟨us,rfl,hR⟩:=hr
 have HRR:=Hi hR;obtain⟨a1,c1,b1,d1,q1,rfl,-⟩:=hR.form
 obtain⟨y,hy⟩:∃ y,y=w.heap.size:=⟨_,rfl⟩
 have HY:=Hi hy;have FA:Fz w (w.alloc (.cells #[str (nameKeyS r.iss),.slice a1 r.iss.length c1,.bool r.num.below,.slice b1 r.num.size.length d1,.int .i64 r.date,.int .i64 r.reason,.pointer q1] 78)):=(Fr.refl w).alloc _;have BY:=Blk.new w 78 #[str (nameKeyS r.iss),.slice a1 r.iss.length c1,.bool r.num.below,.slice b1 r.num.size.length d1,.int .i64 r.date,.int .i64 r.reason,.pointer q1];rw[←hy]at BY
 have HFA:=Hi FA;have HBZ:=Hi BZ;have HRW:=Hi hrow;have HBB:=Hi hbb;have HB0:=Hi hb;have HFT:=Hi hf;have HL:=Hi hl;clear hR hy FA BZ hrow hbb hb hf hl;go_enter Tryz.func50,Tryz.ntmps50
 go_upto_region 1 with fail
 rw[←HY.out]
 have BZ:=(HBZ.out.fr HFA.out (fun h=>h)).drew;replace BY:=BY.drew;have hsz0:y<(w.alloc (.cells #[str (nameKeyS r.iss),.slice a1 r.iss.length c1,.bool r.num.below,.slice b1 r.num.size.length d1,.int .i64 r.date,.int .i64 r.reason,.pointer q1] 78)).heap.size:=BY.lt;generalize (w.alloc (.cells #[str (nameKeyS r.iss),.slice a1 r.iss.length c1,.bool r.num.below,.slice b1 r.num.size.length d1,.int .i64 r.date,.int .i64 r.reason,.pointer q1] 78))=w3 at *
 have HC:=Hi (fun W (F:Fz w3 W)=>ixCopied_any _ r W (RRow.old _ _ _ _ HRR.out (HFA.out.trans F)) HFT.out.1 HFT.out.2.1 HFT.out.2.2);have HR3:=Hi (HRW.out.old HFA.out);have HS3:=Hi hsz0;have G:Fz w3 w3.drew:=(Fr.refl w3).drew;obtain⟨x,hx⟩:∃ x,x=madeS r.num:=⟨_,rfl⟩
 rw[←hx]at HC
 have HXR:=Hi (fun (W:World) (vi vs vp:Value) (g:RRow W [vi,.bool x.below,vs,.int .i64 r.date,.int .i64 r.reason,vp] (nrow r))=>show RSlot W [str (nameKeyS r.iss),vi,.bool x.below,vs,.int .i64 r.date,.int .i64 r.reason,vp] (nrow r) from ⟨_,rfl,g⟩);clear hx hsz0;refine wp_region_N 13 (S:=fun w'=>w'.cell? ⟨b,0,none⟩=some (.slice a gs.length c)∧∀ j,w'.cell? ⟨y,j,none⟩=(#[str (nameKeyS r.iss),.slice a1 r.iss.length c1,.bool r.num.below,.slice b1 r.num.size.length d1,.int .i64 r.date,.int .i64 r.reason,.pointer q1]:Array Value)[j]?) (by kernel_rfl) ?_ (fun hHeld=>?_)
 ·exact⟨BZ.cell 0,BY.cell⟩
 refine tkN 0 rfl hHeld ?_;refine tkN 1 rfl hHeld ?_;refine tkN 2 rfl hHeld ?_;(try simp only[Act.put,SS]);refine tkN 3 rfl hHeld ?_;refine tkN 4 rfl hHeld ?_;refine tkN 5 rfl hHeld ?_;(try simp only[Act.put,SS]);refine tkN 6 rfl hHeld ?_;refine tkN 7 rfl hHeld ?_;refine tkN 8 rfl hHeld ?_;(try simp only[Act.put,SS]);refine stN 9 (fun KK hKK=>?_);go_simp
 (go_at_call 37;(with_reducible refine(HC.out _ G).mono ?_);rintro e w' ⟨⟨a2,c2,b2,d2,q2,rfl,hk⟩,F⟩;replace BZ:=BZ.fr F (fun h=>h);replace BY:=BY.fr F (fun h=>h);have hsz:=G.size;replace G:=G.trans F;clear F HC;go_wp2_with fail)
 refine hKK.out _ _ ?_ (fun hHeld=>?_)
 ·exact⟨BZ.cell 0,BY.cell⟩
 clear hKK KK;(try simp only[Act.put,SS]);refine tkN 10 rfl hHeld ?_;(try simp only[Act.put,SS]);have BZA:=BZ.alloc (.cells [str (nameKeyS r.iss),.slice a2 r.iss.length c2,.bool x.below,.slice b2 x.size.length d2,.int .i64 r.date,.int .i64 r.reason,.pointer q2].toArray 78);have BYA:=BY.alloc (.cells [str (nameKeyS r.iss),.slice a2 r.iss.length c2,.bool x.below,.slice b2 x.size.length d2,.int .i64 r.date,.int .i64 r.reason,.pointer q2].toArray 78)
 obtain⟨a7,c7,w7,hrun,hrow7,F7,hown⟩:=(HR3.out.old G).add (s:=71) Tryz.underlying71 info78 rfl (by decide) (by decide) (by have:=HB0.out;have:=HFA.out.size;have:=G.size;omega) ((Fr.refl w').alloc (.cells [str (nameKeyS r.iss),.slice a2 r.iss.length c2,.bool x.below,.slice b2 x.size.length d2,.int .i64 r.date,.int .i64 r.reason,.pointer q2].toArray 78)) w'.heap.size [str (nameKeyS r.iss),.slice a2 r.iss.length c2,.bool x.below,.slice b2 x.size.length d2,.int .i64 r.date,.int .i64 r.reason,.pointer q2] rfl (Blk.new w' 78 [str (nameKeyS r.iss),.slice a2 r.iss.length c2,.bool x.below,.slice b2 x.size.length d2,.int .i64 r.date,.int .i64 r.reason,.pointer q2].toArray) (by simp[Value.oneCell',str]) (nrow r) ((hk.weaken (fun k hk=>by
   have hd:w3.drew.heap.size=w3.heap.size:=rfl;have:=HFA.out.size;rcases hk with hk|hk
   ·have:=(HRW.out.keep k hk).2;omega
   ·have hk2:k<base:=hk
    have:=HB0.out;omega)).imp (fun W g=>HXR.out W _ _ _ g)) (by have:=HL.out;omega)
 have hk7:=HRW.out.keep;have hk8:=hrow7.keep;have BZ7:=BZ.fr F7 (fun e=>by have:=(hk7 _ e).1;have:=HBB.out;omega);have BY7:=BY.fr F7 (fun e=>by have:=(hk7 _ e).2;have:=HY.out;omega);have F7w:=(G.mono (T:=fun k=>(Value.slice a gs.length c).ownBlock=some k) (fun _ _ h=>h.elim)).trans F7;have z0:=BZ7.cell 0;have f0:=BZ7.frozen 0;have z0s:w7.cell? ⟨b,0,none⟩=some (.slice a gs.length c):=z0;have HRUN:=Hi hrun;refine stN 11 (fun KK hKK=>?_);go_simp
 skip
 refine hKK.out _ _ ?_ (fun hHeld=>?_)
 ·exact⟨BZA.cell 0,BYA.cell⟩
 clear hKK KK;(try simp only[Act.put,SS]);refine stN 12 (fun KK hKK=>?_);refine step_append_run (by rfl) (.tmp 8) (.tmp 15) 71 (by rfl) _ w7 (by exact HRUN.out) ?_;refine hKK.out _ _ ?_ (fun hHeld=>?_)
 ·exact⟨BZ7.cell 0,BY7.cell⟩
 clear hKK KK;(try simp only[Act.put,SS]);refine wpAnyN_last (i:=13) (by kernel_rfl) (by decide) (o:=_) rfl (fun KK hKK=>?_);go_simp
 skip
 refine hKK.out _ _ ?_;clear hKK KK;(try simp only[Act.put,SS]);refine wpAnyN_last (i:=14) (by kernel_rfl) (by decide) (o:=_) rfl (fun KK hKK=>?_);go_simp
 skip
 refine hKK.out _ _ ?_;clear hKK KK;(try simp only[Act.put,SS]);refine wpAnyN_last (i:=15) (by kernel_rfl) (by decide) (o:=_) rfl (fun KK hKK=>?_);go_simp
 skip
 refine hKK.out _ _ ?_;clear hKK KK;(try simp only[Act.put,SS]);refine wpAnyN_done (by kernel_rfl) ?_ _;have B8:Blk (w7.setCell ⟨b,0,none⟩ (.slice a7 (gs.length+1) c7)) b 73 #[.slice a7 (gs.length+1) c7]:=BZ7.set 0 _;have F8:Fr (fun k=>k=b) w7 (w7.setCell ⟨b,0,none⟩ (.slice a7 (gs.length+1) c7)):=Fr.setCell (S:=fun k=>k=b) (p:=⟨b,0,none⟩) (Fr.refl w7) (fun _=>rfl) _;have R8:=hrow7.fr F8 (fun k _ e=>by have e2:k=b:=e;have:=HBB.out;show k<base;omega) (fun k hk e=>by have:=(hk8 k hk).1;have e2:k=b:=e;have:=HBB.out;omega)
 have HOUT:=Hi (show IxOwn (w7.setCell ⟨b,0,none⟩ (.slice a7 (gs.length+1) c7)) b base (gs++[nrow r]) from ⟨a7,c7,HBB.out,by rw[List.length_append];exact B8,by rw[List.length_append];exact R8⟩);have HF8:=Hi (((HFA.out.mono (T:=fun k=>k=b∨(base≤k∧k<top)) (fun _ _ h=>h.elim)).trans' F7w (fun i hi e=>.inr ⟨(hk7 i e).1,HTOP.out i e⟩)).trans' F8 (fun i hi e=>.inl e));clear B8 F8 hk8 R8 F7w hk7 BZ7 BY7 BZA BYA z0 z0s f0 hrun hrow7 F7 hown hk G BZ BY hsz;go_end0
 exact⟨rfl,HOUT.out,HF8.out⟩
attribute [local go_sem] Oper.semAt_some
theorem six_of {l:List Value}(h:l.length=6):∃ a b c d e f,l=[a,b,c,d,e,f]:=by
 match l,h with
 | [a,b,c,d,e,f],_=>exact⟨a,b,c,d,e,f,rfl⟩
end Go.Proofs.YtehlipgmkinfbaaGreatDoor
