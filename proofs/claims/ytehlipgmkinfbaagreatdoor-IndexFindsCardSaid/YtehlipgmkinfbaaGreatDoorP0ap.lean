/-
  Merged by program: XIxSeq XIxSdA XWh3 XWh4 XHeldN XWh5 XNSub XNOpen XNOidR XGenB XGenR XHostS XNStrS XGenH XGenK.
-/
import Derived.Test.YtehlipgmkinfbaaGreatDoorP0ao
import Derived.Sort.QuietIn
import Derived.Sort.QuietTacIn
import Derived.Sort.CutIn
import Derived.IntWalk
import Derived.Laws.Strings3
set_option linter.unusedSimpArgs false
set_option maxRecDepth 100000
set_option maxHeartbeats 8000000
namespace Go.Q
open Go Go.RowKit
def IterV (P:Program)(gf:Nat)(lb:Array Value)(xs:List Value)(C:Nat→Prop)(base:Nat)(w:World):Prop:=
 ∀ (l:Nat) (J Jx:List Value→World→Prop) (W:World),Fz w W→
  (∀ s A B,J s A→Fr C A B→J s B)→(∀ s A B,Jx s A→Fr C A B→Jx s B)→
  (∀ pre x rest W1,xs=pre++x::rest→J pre W1→YieldAt Fence.wide 1 P l #[x] W1 fun e W'=>
    (e=.returned (.bool true)∧J (pre++[x]) W'∧Fr (fun k=>base≤k∧¬C k) W1 W')∨(e=.returned (.bool false)∧Jx (pre++[x]) W'))→
  J [] W→
  CallsIn Fence.wide 2 P gf (#[.func (.yield l) #[] #[]]++lb) W fun e W'=>(∃ v,e=.returned v)∧(J xs W'∨∃ pre,pre <+: xs∧Jx pre W')
def seqPostV (I:List Value→World→Prop)(Ix:Code→List Value→World→Prop)(base:Nat)(C:Nat→Prop)(E:Nat)(xs:List Value)(W:World):Exit→Act→World→Prop
 |.normal,_,W'=>Fr (fun k=>base≤k∧¬C k∧k≠E∧k≠E+1) W W'∧I xs W'
 |.ret,_,W'=>Fr (fun k=>base≤k∧¬C k∧k≠E∧k≠E+1) W W'∧Ix .ret xs W'
 |.exit id,_,W'=>Fr (fun k=>base≤k∧¬C k∧k≠E∧k≠E+1) W W'∧Ix (.exit id) xs W'
 |.goto t,_,W'=>Fr (fun k=>base≤k∧¬C k∧k≠E∧k≠E+1) W W'∧Ix (.goto t) xs W'
 |.panic _,_,_=>False
 |.outgrown,_,_=>False
variable {P:Program}
def IxSl (W:World)(v:Value)(a:Option Addr)(c:Nat)(l:List RowP):Prop:=(v=.pointer none∧l=[]∧a=none∧c=0)∨∃ b,v=pt b∧W.cell? ⟨b,0,none⟩=some (.slice a l.length c)∧Slots W (.slice a l.length c) l
theorem IxAt.sl {W:World}{v:Value}{l:List RowP}(h:IxAt W v l):∃ a c,IxSl W v a c l:=by
 rcases h with ⟨rfl,rfl⟩|⟨b,u,rfl,h1,h2⟩
 ·exact⟨none,0,.inl ⟨rfl,rfl,rfl,rfl⟩⟩
 ·have h3:=h2
  obtain⟨a,c,rfl,-⟩:=h3
  exact⟨a,c,.inr ⟨b,rfl,h1,h2⟩⟩
theorem IxSl.old {w w':World}{v:Value}{a:Option Addr}{c:Nat}{l:List RowP}(h:IxSl w v a c l)(f:Fz w w'):IxSl w' v a c l:=by
 rcases h with h|⟨b,rfl,h1,h2⟩
 ·exact .inl h
 ·exact .inr ⟨b,rfl,f.cell h1 (fun h=>h),Slots.old h2 f⟩
theorem IxSl.slots {w:World}{v:Value}{a:Option Addr}{c:Nat}{l:List RowP}(h:IxSl w v a c l):Slots w (.slice a l.length c) l:=by
 rcases h with ⟨rfl,rfl,rfl,rfl⟩|⟨b,rfl,h1,h2⟩
 ·exact⟨none,0,rfl,Nat.le_refl _,by unfold maxLen;omega,fun h=>absurd h (by decide)⟩
 ·exact h2
def ptrAt (a:Option Addr)(i:Option Nat):Value:=match a,i with
 |some ⟨b,o,_⟩,some i=>.pointer (some ⟨b,o+i*7,none⟩)
 |_,_=>.pointer none
def pairV (a b:Option Addr)(p:Option Nat × Option Nat):Value:=.agg #[ptrAt a p.1,ptrAt b p.2]
theorem ptrAt_none (a:Option Addr):ptrAt a none=.pointer none:=by cases a<;>rfl
theorem pairV_l {a c:Option Addr}{b o i:Nat}(h:a=some ⟨b,o,none⟩):pairV a c (some i,none)=.agg #[.pointer (some ⟨b,o+i*7,none⟩),.pointer none]:=by
 subst h;unfold pairV;rw[ptrAt_none]
 rfl
theorem pairV_r {a c:Option Addr}{b o j:Nat}(h:c=some ⟨b,o,none⟩):pairV a c (none,some j)=.agg #[.pointer none,.pointer (some ⟨b,o+j*7,none⟩)]:=by
 subst h;unfold pairV;rw[ptrAt_none]
 rfl
theorem pairV_b {a c:Option Addr}{b o i b' o' j:Nat}(h:a=some ⟨b,o,none⟩)(h':c=some ⟨b',o',none⟩):pairV a c (some i,some j)=.agg #[.pointer (some ⟨b,o+i*7,none⟩),.pointer (some ⟨b',o'+j*7,none⟩)]:=by
 subst h h';rfl
def pairsV (a b:Option Addr)(L M:List RowP)(i j:Nat):List Value:=(sideI ltK rowK (L.drop i) (M.drop j) i j).map (pairV a b)
def lenV:Value→Nat
 |.slice _ n _=>n
 |_=>0
def Rest7 (a:Option Addr)(l:List RowP)(i:Nat)(u:Value):Prop:=∃ x n c,u=.slice x n c∧n+i=l.length∧n≤c∧c≤maxLen∧(0<n→∃ b o,a=some ⟨b,o,none⟩∧x=some ⟨b,o+i*7,none⟩)
theorem rest_next {a:Option Addr}{l:List RowP}{i b o n c:Nat}(h1:n+i=l.length)(hn:0<n)(h2:n≤c)(h3:c≤maxLen)(ha:a=some ⟨b,o,none⟩)(x:Option Addr)(hx:c≠1→x=some ⟨b,o+i*7+7,none⟩):Rest7 a l (i+1) (.slice x (n-1) (c-1)):=
 ⟨x,n-1,c-1,rfl,by omega,by omega,by omega,fun h=>⟨b,o,ha,by rw[hx (by omega),Nat.add_mul,Nat.one_mul,Nat.add_assoc]⟩⟩
theorem rest_start {W:World}{a:Option Addr}{c:Nat}{l:List RowP}(h:Slots W (.slice a l.length c) l):Rest7 a l 0 (.slice a l.length c):=by
 obtain⟨_,_,he,h1,h2,h3⟩:=h
 simp only[Value.slice.injEq]at he
 obtain⟨rfl,-,rfl⟩:=he
 exact⟨a,l.length,c,rfl,rfl,h1,h2,fun h0=>by
  obtain⟨b,o,rfl,-⟩:=h3 h0
  exact⟨b,o,rfl,by simp⟩⟩
theorem pairs_l {a b:Option Addr}{L M:List RowP}{i j:Nat}{r:RowP}(h1:L[i]? = some r)(h2:M.length≤j):pairsV a b L M i j=pairV a b (some i,none)::pairsV a b L M (i+1) j:=by
 have hi:=(List.getElem?_eq_some_iff.1 h1).1;unfold pairsV;rw[List.drop_eq_getElem_cons hi,List.drop_eq_nil_of_le h2,sideI]
 rfl
theorem pairs_r {a b:Option Addr}{L M:List RowP}{i j:Nat}{r:RowP}(h1:L.length≤i)(h2:M[j]? = some r):pairsV a b L M i j=pairV a b (none,some j)::pairsV a b L M i (j+1):=by
 have hj:=(List.getElem?_eq_some_iff.1 h2).1;unfold pairsV;rw[List.drop_eq_getElem_cons hj,List.drop_eq_nil_of_le h1,sideI]
 rfl
theorem pairs_end {a b:Option Addr}{L M:List RowP}{i j:Nat}(h1:L.length≤i)(h2:M.length≤j):pairsV a b L M i j=[]:=by
 unfold pairsV;rw[List.drop_eq_nil_of_le h1,List.drop_eq_nil_of_le h2,sideI]
 rfl
theorem pairs_both {a b:Option Addr}{L M:List RowP}{i j:Nat}{r s:RowP}(h1:L[i]? = some r)(h2:M[j]? = some s):pairsV a b L M i j=if rowC r s<0 then pairV a b (some i,none)::pairsV a b L M (i+1) j else if rowC r s=0 then pairV a b (some i,some j)::pairsV a b L M (i+1) (j+1) else pairV a b (none,some j)::pairsV a b L M i (j+1):=by
 have hi:=(List.getElem?_eq_some_iff.1 h1).1;have hj:=(List.getElem?_eq_some_iff.1 h2).1;have hr:L[i]=r:=(List.getElem?_eq_some_iff.1 h1).2;have hs:M[j]=s:=(List.getElem?_eq_some_iff.1 h2).2;unfold pairsV;by_cases c1:rowC r s<0
 ·have g:=rowC_neg.1 c1
  rw[if_pos c1,List.drop_eq_getElem_cons hi,List.drop_eq_getElem_cons hj,sideI,hr,hs,if_pos g]
  rfl
 ·have g:¬ltK (rowK r) (rowK s)=true:=fun h=>c1 (rowC_neg.2 h)
  rw[if_neg c1]
  by_cases c2:rowC r s=0
  ·rw[if_pos c2,List.drop_eq_getElem_cons hi,List.drop_eq_getElem_cons hj,sideI,hr,hs,if_neg g,if_pos (rowC_zero.1 c2)]
   rfl
  ·rw[if_neg c2,List.drop_eq_getElem_cons hi,List.drop_eq_getElem_cons hj,sideI,hr,hs,if_neg g,if_neg (fun h=>c2 (rowC_zero.2 h))]
   rfl
open Go
section
variable {P:Program}{ops:Array Oper}{Q:Exit→Act→World→Prop}{md:Region.Mode}{S:World→Prop}{n:Nat}
def wpAnyN (P:Program)(md:Region.Mode)(ops:Array Oper)(Q:Exit→Act→World→Prop)(S:World→Prop)(n:Nat):Nat→Array Bool→Act→World→Prop
 |0,listed,a,w=>Region.ready md ops listed=[]∧Q .normal a w
 |f+1,listed,a,w=>(Region.ready md ops listed=[]→Q .normal a w)∧
  ∀ i∈Region.ready md ops listed,wpOp P ops Q i (fun b u=>(i<n→S u)∧wpAnyN P md ops Q S n f (listed.setIfInBounds i true) b u) a w
theorem wpAny_ofN:∀ (f:Nat) (listed:Array Bool) (a:Act) (w:World),wpAnyN P md ops Q S n f listed a w→wpAny P md ops Q f listed a w
 |0,_,_,_,h=>h
 |f+1,_,_,_,h=>⟨h.1,fun i hi=>wpOp_mono (fun b u g=>wpAny_ofN f _ b u g.2) (h.2 i hi)⟩
def waitB (md:Region.Mode)(ops:Array Oper)(n i:Nat):Bool:=(ops.toList.drop n).all (fun o=>o.after.any (fun e=>Region.binds md e&&e.on==i))
theorem wait_spec {i:Nat}(h:waitB md ops n i=true){j:Nat}{o:Oper}(hj:ops[j]? = some o)(hn:n≤j):∃ e∈o.after,Region.binds md e=true∧e.on=i:=by
 have hm:o∈ops.toList.drop n:=by
  have:(ops.toList.drop n)[j-n]? = some o:=by
   rw[List.getElem?_drop,show n+(j-n)=j from by omega,Array.getElem?_toList]
   exact hj
  exact List.mem_of_getElem? this
 have:=List.all_eq_true.1 h o hm;obtain⟨e,he,hb⟩:=Array.any_eq_true'.1 this
 rw[Bool.and_eq_true,beq_iff_eq]at hb
 exact⟨e,he,hb.1,hb.2⟩
theorem wpAnyN_take1 {i:Nat}{oi:Oper}{v:Value}(hi:ops[i]? = some oi)(hsel:∀ (j:Nat) (o:Oper) cs b,ops[j]? = some o→o.op≠.select cs b)
  (hQ:∀ c a w,Q (.panic c) (a.put oi.dst v) w→Q (.panic c) a w) (hw:waitB md ops n i=true) :
  ∀ (f:Nat) (listed:Array Bool) (a:Act) (w:World),
   (∀ j oj,ops[j]? = some oj→j≠i→listed.getD j true=false→(∀ e∈oj.after,Region.binds md e=true→e.on≠i)→oi.apart ops oj=true)→
   i∈Region.ready md ops listed→YieldsIf P ops S oi v a→S w→
   wpAnyN P md ops Q S n f (listed.setIfInBounds i true) (a.put oi.dst v) w→wpAnyN P md ops Q S n (f+1) listed a w:=by
 intro f;induction f with
 |zero=>
  intro listed a w _ hr hy hS H;refine⟨fun h=>(by rw[h]at hr;cases hr),fun j hj=>?_⟩
  by_cases hji:j=i
  ·subst hji;exact hy.wpOp hi hS ⟨fun _=>hS,H⟩
  ·have:=ready_mono hj hji
   rw[H.1]at this
   cases this
 |succ f ih=>
  intro listed a w hfree hr hy hS H;refine⟨fun h=>(by rw[h]at hr;cases hr),fun j hj=>?_⟩
  by_cases hji:j=i
  ·subst hji;exact hy.wpOp hi hS ⟨fun _=>hS,H⟩
  ·have h1:=H.2 j (ready_mono hj hji)
   obtain⟨hjun,oj,hoj,hall⟩:=mem_ready.1 hj
   have hun:listed.getD i true=false:=(mem_ready.1 hr).1;have hnot:∀ e∈oj.after,Region.binds md e=true→e.on≠i:=fun e he hb heq=>by
    have g1:=hall e he hb;have g0:=hun;rw[heq]at g1
    rcases Nat.lt_or_ge i listed.size with h'|h'
    ·simp[h']at g0 g1;rw[g0]at g1;cases g1
    ·simp[Array.getElem?_eq_none h']at g1
   have hjn:j<n:=by
    rcases Nat.lt_or_ge j n with q|q
    ·exact q
    ·obtain⟨e,he,hb,hon⟩:=wait_spec hw hoj q
     exact absurd hon (hnot e he hb)
   have h2:=wpOp_putIf hoj (hfree j oj hoj hji hjun hnot) (fun cs b=>hsel i oi cs b hi) (fun cs b=>hsel j oj cs b hoj) hQ hy h1;have hfree':∀ k ok,ops[k]? = some ok→k≠i→(listed.setIfInBounds j true).getD k true=false→(∀ e∈ok.after,Region.binds md e=true→e.on≠i)→oi.apart ops ok=true:=fun k ok hk hki hu hno=>by
    refine hfree k ok hk hki ?_ hno;by_cases hjk:j=k
    ·subst hjk;exact hjun
    ·rw[getD_set_ne true hjk]at hu;exact hu
   refine wpOp_mono (fun b u g=>⟨g.2.1,ih (listed.setIfInBounds j true) b u hfree' (ready_mono hr (Ne.symm hji)) g.1 (g.2.1 hjn) ?_⟩) h2;rw[Array.setIfInBounds_comm _ _ hji]
   exact g.2.2
theorem wpAnyN_take {i:Nat}{oi:Oper}{v:Value}{f:Nat}{listed:Array Bool}{a:Act}{w:World}(hi:ops[i]? = some oi)
  (hs:Region.noSelect ops=true) (hf:Region.free md ops listed i=true) (hr:(Region.ready md ops listed).contains i=true) (hw:waitB md ops n i=true)
  (hQ:∀ c a w,Q (.panic c) (a.put oi.dst v) w→Q (.panic c) a w) (hy:YieldsIf P ops S oi v a) (hS:S w)
  (h:wpAnyN P md ops Q S n f (listed.setIfInBounds i true) (a.put oi.dst v) w):wpAnyN P md ops Q S n (f+1) listed a w:=
 wpAnyN_take1 hi (Region.noSelect_spec hs) hQ hw f listed a w (Region.free_spec hi hf) (by simpa using hr) hy hS h
theorem tkN (i:Nat){oi:Oper}{v:Value}{f:Nat}{listed:Array Bool}{a:Act}{w:World}(hi:ops[i]? = some oi)(hS:S w)(h:wpAnyN P md ops Q S n f (listed.setIfInBounds i true) (a.put oi.dst v) w)(hy:YieldsIf P ops S oi v a:=by exact Or.inl ⟨by rfl,by intro W hSw;(try dsimp only at hSw);go_simp;try with_reducible rfl⟩)(hs:Region.noSelect ops=true:=by kernel_rfl)(hf:Region.free md ops listed i=true:=by kernel_rfl)(hr:(Region.ready md ops listed).contains i=true:=by kernel_rfl)(hw:waitB md ops n i=true:=by kernel_rfl)(hQ:∀ c a w,Q (.panic c) (a.put oi.dst v) w→Q (.panic c) a w:=by exact fun _ _ _ h=>h):wpAnyN P md ops Q S n (f+1) listed a w:=wpAnyN_take hi hs hf hr hw hQ hy hS h
theorem tkG (i:Nat){oi:Oper}{v:Value}{f:Nat}{listed:Array Bool}{a:Act}{w:World}(hi:ops[i]? = some oi)(hS:S w)(h:wpAnyN P md ops Q S n f (listed.setIfInBounds i true) (a.put oi.dst v) w)(hy:YieldsIf P ops S oi v a:=by exact Or.inl ⟨by kernel_rfl,by intro W hSw;(try dsimp only at hSw);go_simp;try with_reducible rfl⟩)(hs:Region.noSelect ops=true:=by kernel_rfl)(hf:Region.free md ops listed i=true:=by kernel_rfl)(hr:(Region.ready md ops listed).contains i=true:=by kernel_rfl)(hw:waitB md ops n i=true:=by kernel_rfl)(hQ:∀ c a w,Q (.panic c) (a.put oi.dst v) w→Q (.panic c) a w:=by exact fun _ _ _ h=>h):wpAnyN P md ops Q S n (f+1) listed a w:=wpAnyN_take hi hs hf hr hw hQ hy hS h
theorem tkS (i:Nat){oi:Oper}{f:Nat}{listed:Array Bool}{a:Act}{w:World}(hi:ops[i]? = some oi)(hS:S w)(h:wpAnyN P md ops Q S n f (listed.setIfInBounds i true) (a.put oi.dst undef) w)(hy:YieldsIf P ops S oi undef a:=by exact Or.inr ⟨by kernel_rfl,rfl⟩)(hs:Region.noSelect ops=true:=by kernel_rfl)(hf:Region.free md ops listed i=true:=by kernel_rfl)(hr:(Region.ready md ops listed).contains i=true:=by kernel_rfl)(hw:waitB md ops n i=true:=by kernel_rfl)(hQ:∀ c a w,Q (.panic c) (a.put oi.dst undef) w→Q (.panic c) a w:=by exact fun _ _ _ h=>h):wpAnyN P md ops Q S n (f+1) listed a w:=wpAnyN_take hi hs hf hr hw hQ hy hS h
theorem wpAnyN_step {i:Nat}{o:Oper}{f:Nat}{listed:Array Bool}{a:Act}{w:World}(hr:Region.ready md ops listed=[i])(ho:ops[i]? = some o)
  (h:∀ K:Act→World→Prop,Shut (∀ a w,S w→(S w→wpAnyN P md ops Q S n f (listed.setIfInBounds i true) a w)→K a w)→if Region.wanted o (yielded ops a.tmps)=true then Oper.wp P o a w K Q else K (a.put o.dst undef) w):wpAnyN P md ops Q S n (f+1) listed a w:=by
 refine⟨fun e=>(by rw[e]at hr;cases hr),fun j hj=>?_⟩
 rw[hr,List.mem_singleton]at hj
 subst hj;exact wpOp_step ho (fun K hK=>h K (fun a w hS hW=>hK a w ⟨fun _=>hS,hW hS⟩))
theorem wpAnyN_last {i:Nat}{o:Oper}{f:Nat}{listed:Array Bool}{a:Act}{w:World}(hr:Region.ready md ops listed=[i])(hn:n≤i)(ho:ops[i]? = some o)
  (h:∀ K:Act→World→Prop,Shut (∀ a w,wpAnyN P md ops Q S n f (listed.setIfInBounds i true) a w→K a w)→if Region.wanted o (yielded ops a.tmps)=true then Oper.wp P o a w K Q else K (a.put o.dst undef) w):wpAnyN P md ops Q S n (f+1) listed a w:=by
 refine⟨fun e=>(by rw[e]at hr;cases hr),fun j hj=>?_⟩
 rw[hr,List.mem_singleton]at hj
 subst hj;exact wpOp_step ho (fun K hK=>h K (fun a w hW=>hK a w ⟨fun q=>absurd q (by omega),hW⟩))
theorem wpAnyN_done {listed:Array Bool}{a:Act}{w:World}(hr:Region.ready md ops listed=[])(h:Q .normal a w):∀ f,wpAnyN P md ops Q S n f listed a w
 |0=>⟨hr,h⟩
 |_+1=>⟨fun _=>h,by rw[hr];simp⟩
theorem wp_region_N (n:Nat){id:Nat}{a:Act}{w:World}(hm:P.follows .mixedOrders=true)(hS:S w.drew)
  (h:S w.drew→wpAnyN P .any ops Q S n ops.size (Array.replicate ops.size false) a w.drew):(Code.region id ops true).wp P Q a w:=
 wp_region_any hm (wpAny_ofN _ _ _ _ (h hS))
end
def labGo (done:List (List UInt8))(one:List UInt8):List UInt8→Option (List (List UInt8))
 | []=>if 1≤one.length∧one.length≤63 then some (done++[one]) else none
 |c::t=>if c=46 then (if 1≤one.length∧one.length≤63 then labGo (done++[one]) [] t else none) else if labelC c then labGo done (one++[c]) t else none
def labL (l:List UInt8):Bool:=decide (1≤l.length∧l.length≤63)&&l.all labelC
def labelsS (l:List UInt8):Option (List (List UInt8)):=if 253<(dotS (lowerS l)).length then none else labGo [] [] (dotS (lowerS l))
def Blf (w:World)(b:Nat)(t:TypeId)(cs:Array Value):Prop:=w.heap[b]? = some (.cells cs t (cs.size,cs.size+1))
theorem Blf.cell {w:World}{b:Nat}{t:TypeId}{cs:Array Value}(h:Blf w b t cs)(i:Nat):w.cell? ⟨b,i,none⟩=cs[i]?:=by
 unfold Blf at h;simp[World.cell?,h]
theorem Blf.frozen {w:World}{b:Nat}{t:TypeId}{cs:Array Value}(h:Blf w b t cs){i:Nat}(hi:i<cs.size):w.frozen? ⟨b,i,none⟩=false:=by
 unfold Blf at h;simp only[World.frozen?,h]
 simp
 omega
theorem Blf.set {w:World}{b:Nat}{t:TypeId}{cs:Array Value}(h:Blf w b t cs)(i:Nat)(v:Value):Blf (w.setCell ⟨b,i,none⟩ v) b t (cs.setIfInBounds i v):=by
 unfold Blf at *;simp[World.setCell,Array.getElem?_modify,h]
theorem Blf.bytes {w:World}{b:Nat}{t:TypeId}{cs:Array Value}(h:Blf w b t cs){l:List UInt8}{n c:Nat}(hn:n=l.length)(hc:l.length≤c)(hm:c≤maxLen)(hl:∀ (i:Nat) (x:UInt8),l[i]? = some x→cs[i]? = some (Value.int .u8 x.toNat)):Bytes w (.slice (some ⟨b,0,none⟩) n c) l:=by
 subst hn;refine⟨_,c,by rw[byteCells_len],by rw[byteCells_len];exact hc,hm,fun _=>⟨b,0,rfl,fun i u hu=>?_⟩⟩
 rw[byteCells_get]at hu
 cases hli:l[i]? with
 |none=>rw[hli]at hu;cases hu
 |some x=>
  rw[hli]at hu
  simp only[Option.map_some,Option.some.injEq]at hu
  subst hu;rw[Nat.zero_add,h.cell i]
  exact hl i x hli
end Go.Q
namespace Go.Proofs.YtehlipgmkinfbaaGreatDoor
open Go Go.RowKit Go.Q
theorem slotsX_any (v:Value)(a:Option Addr)(c:Nat)(l:List RowP)(w:World)(h:IxSl w v a c l) :
  Calls Tryz.prog 45 #[v] w fun e w'=>e=.returned (.slice a l.length c)∧w'=w:=by
 rcases h with ⟨rfl,rfl,rfl,rfl⟩|⟨b,rfl,hc,hs⟩
 ·go_enter Tryz.func45,Tryz.ntmps45
  go_wp2_with fail
  go_ret;exact⟨rfl,rfl⟩
 ·clear hs
  go_enter Tryz.func45,Tryz.ntmps45
  go_wp2_with fail
  go_ret;exact⟨rfl,rfl⟩
theorem made_zero (n:Nat):(madeCells #[.int .u8 0] n).toList=Lib.byteCells (List.replicate n 0):=by
 apply List.ext_getElem?
 intro i;rw[byteCells_get]
 rcases Nat.lt_or_ge i n with h|h
 ·simp[madeCells,h,Nat.mod_one]
 ·rw[List.getElem?_eq_none (by simpa [madeCells] using h),List.getElem?_eq_none (by simpa using h)]
  rfl
theorem copy_end (w:World)(g n:Nat)(l:List UInt8)(hl:l.length≤n)(B:Blk w g 5 (Lib.byteCells (List.replicate n 0)).toArray)(A:Option Addr)(hA:n-l.length<n→A=some ⟨g,n-l.length,none⟩)(sp:Option Addr)(scap:Nat)
  (hsrc:0<l.length→∃ b o,sp=some ⟨b,o,none⟩∧∀ i x,l[i]? = some x→w.cell? ⟨b,o+i,none⟩=some (.int .u8 x.toNat)) :
  ∃ w2,(Builtin.copy_ #[38,38] 3 #[.slice A (n-(n-l.length)) (n-(n-l.length)),.slice sp l.length scap]).run Tryz.prog w=.ok (goInt l.length) w2∧Blk w2 g 5 (Lib.byteCells (List.replicate (n-l.length) 0++l)).toArray∧Fr (fun k=>k=g) w w2:=by
 have hu:Tryz.prog.underlying 38=some (.slice 5):=Tryz.underlying38;have hs:(Tryz.prog.info? 5).map (·.size)=some 1:=by kernel_rfl
 rcases Nat.eq_zero_or_pos l.length with h0|h0
 ·obtain rfl:l=[]:=List.length_eq_zero_iff.1 h0
  refine⟨w,?_,by simpa using B,Fr.refl w⟩
  rw[run_copy_none (P:=Tryz.prog) w 38 38 3 5 _ _ _ _ _ _ hu hs (by simp)]
  rfl
 ·obtain⟨b,o,rfl,hx⟩:=hsrc h0
  rw[hA (by omega)]
  have hr:=run_copy_row (P:=Tryz.prog) w 38 38 3 5 g (n-l.length) (n-(n-l.length)) (n-(n-l.length)) ⟨b,o,none⟩ l.length scap _ 5 (Lib.byteCells l) hu hs B (by rw[byteCells_len];show _=min _ _;omega) (fun j v hj=>by
    rw[byteCells_get]at hj
    cases hlj:l[j]? with
    |none=>rw[hlj]at hj;cases hj
    |some x=>
     rw[hlj]at hj
     simp only[Option.map_some,Option.some.injEq]at hj
     subst hj;have:=hx j x hlj;rw[show (⟨b,o,none⟩:Addr).add j=⟨b,o+j,none⟩ from by unfold Addr.add;split<;>simp_all]
     exact this) (by rw[byteCells_len,List.size_toArray,byteCells_len,List.length_replicate];omega) (byteCells_one l)
  rw[byteCells_len]at hr
  have he:(((Lib.byteCells (List.replicate n 0)).toArray).toList.take (n-l.length)++Lib.byteCells l++((Lib.byteCells (List.replicate n 0)).toArray).toList.drop (n-l.length+l.length)).toArray=(Lib.byteCells (List.replicate (n-l.length) 0++l)).toArray:=by
   rw[show n-l.length+l.length=n from by omega,List.toList_toArray,byteCells_take,byteCells_drop,List.drop_eq_nil_of_le (by simp),List.take_replicate,show min (n-l.length) n=n-l.length from by omega]
   simp[Lib.byteCells]
  rw[he]at hr
  exact⟨_,hr,setRow_heap w g _ _ _ (0,0) B,⟨rfl,rfl,rfl,by simp[World.setRow],fun k _ hk=>setRow_other w g k _ hk⟩⟩
theorem wWide_any (v:Value)(l:List UInt8)(n:Nat)(w:World)(h:Bytes w v l)(hl:l.length≤n)(hn:n≤1099511627776) :
  Calls Tryz.prog 136 #[v,.int .i64 n] w fun e w'=>(e=.returned (.slice (some ⟨w.heap.size,0,none⟩) n n)∧Blk w' w.heap.size 5 (Lib.byteCells (List.replicate (n-l.length) 0++l)).toArray)∧Fz w w':=by
 obtain⟨a,c,rfl,hc,hm,hx⟩:=h.form
 obtain⟨z,hz⟩:∃ z,z=w.heap.size:=⟨_,rfl⟩
 have hmk:=make_bytes n hn w;rw[show madeCells #[.int .u8 0] n=(Lib.byteCells (List.replicate n 0)).toArray from Array.toList_inj.1 (by rw[made_zero])]at hmk
 obtain⟨M,hM⟩:∃ M,M=(Lib.byteCells (List.replicate n 0)).toArray:=⟨_,rfl⟩
 rw[←hM,←hz]at hmk
 have B1:=Blk.new w 5 M;rw[←hz]at B1
 have F1:Fz w (w.alloc (.cells M 5)):=(Fr.refl w).alloc _;obtain⟨A,hsl,hA⟩:=slice_rest (some ⟨z,0,none⟩) n n (Nat.le_refl _) (n-l.length) (by omega)
 have hA2:n-l.length<n→A=some ⟨z,n-l.length,none⟩:=fun h0=>by
  have:=hA h0 z 0 rfl;rwa[Nat.zero_add]at this
 obtain⟨w2,hcp,B2,F2⟩:=copy_end (w.alloc (.cells M 5)) z n l hl (by rw[←hM];exact B1) A hA2 a c (fun h0=>by
  obtain⟨b,o,rfl,hy⟩:=hx h0
  exact⟨b,o,rfl,fun i x hi=>F1.cell (hy i x hi) (fun h=>h)⟩)
 have HB2:=Hi B2;have HF2:=Hi (F1.trans' F2 (fun k hk e=>by omega));have HZ:=Hi hz;have hi:((n-l.length:Nat):Int)=(n:Int)-(l.length:Int):=by omega
 have hw1:IntKind.i64.wrap ((n:Int)-(l.length:Int))=(n:Int)-(l.length:Int):=IntWalk.i64_in _ (by omega);rw[hi]at hsl
 clear hx hM B1 F1 hA hA2 B2 F2 h hz hi hc hm;go_enter Tryz.func136,Tryz.ntmps136
 go_wp2_with fail
 go_ret;rw[←HZ.out]
 exact⟨⟨rfl,HB2.out⟩,HF2.out⟩
def StepAt (W:World)(bx bz bc gx gz:Nat)(l:List UInt8):Prop:=
 Blk W bx 38 #[.slice (some ⟨gx,0,none⟩) l.length l.length]∧Blk W bz 38 #[.slice (some ⟨gz,0,none⟩) l.length l.length]∧Blk W bc 3 #[.int .i64 0]∧Blk W gx 5 (Lib.byteCells l).toArray∧Blk W gz 5 (Lib.byteCells (List.replicate l.length 0)).toArray
theorem blk_same {w:World}{b:Nat}{t:TypeId}{cs:Array Value}(h:Blk w b t cs){i:Nat}{v:Value}(hv:cs[i]? = some v):Blk (w.setCell ⟨b,i,none⟩ v) b t cs:=by
 have:=h.set i v;have e:cs.setIfInBounds i v=cs:=by
  apply Array.ext_getElem?
  intro j;rw[Array.getElem?_setIfInBounds]
  split
  ·rename_i e
   subst e;rw[hv]
   have:=(Array.getElem?_eq_some_iff.1 hv).1;simp[this]
  ·rfl
 rwa[e]at this
theorem step_x {W:World}{bx bz bc gx gz:Nat}{l:List UInt8}(h:StepAt W bx bz bc gx gz l)(hd:bx≠gx∧bx≠bc∧bz≠gx∧bz≠bc∧bc≠gx∧gz≠gx∧gz≠bc){i:Nat}{x:UInt8}(hx:l[i]? = some x):StepAt (W.setCell ⟨gx,i,none⟩ (.int .u8 x.toNat)) bx bz bc gx gz l:=
 ⟨h.1.set_other (a:=⟨gx,i,none⟩) hd.1 _,h.2.1.set_other (a:=⟨gx,i,none⟩) hd.2.2.1 _,h.2.2.1.set_other (a:=⟨gx,i,none⟩) hd.2.2.2.2.1 _,blk_same h.2.2.2.1 (by simp[byteCells_get,hx]),h.2.2.2.2.set_other (a:=⟨gx,i,none⟩) hd.2.2.2.2.2.1 _⟩
theorem step_c {W:World}{bx bz bc gx gz:Nat}{l:List UInt8}(h:StepAt W bx bz bc gx gz l)(hd:bx≠gx∧bx≠bc∧bz≠gx∧bz≠bc∧bc≠gx∧gz≠gx∧gz≠bc):StepAt (W.setCell ⟨bc,0,none⟩ (.int .i64 0)) bx bz bc gx gz l:=
 ⟨h.1.set_other (a:=⟨bc,0,none⟩) hd.2.1 _,h.2.1.set_other (a:=⟨bc,0,none⟩) hd.2.2.2.1 _,blk_same h.2.2.1 rfl,h.2.2.2.1.set_other (a:=⟨bc,0,none⟩) (Ne.symm hd.2.2.2.2.1) _,h.2.2.2.2.set_other (a:=⟨bc,0,none⟩) hd.2.2.2.2.2.2 _⟩
theorem step_q {W:World}{bx bz bc gx gz:Nat}{l:List UInt8}(h:StepAt W bx bz bc gx gz l)(n:Nat):StepAt (W.drewN n) bx bz bc gx gz l:=h
theorem plus1_any (bx bz bc gx gz:Nat)(l:List UInt8)(i:Nat)(w:World)(h:StepAt w bx bz bc gx gz l)(hi:i<l.length)(_hl:l.length≤1099511627776)(hd:bx≠gx∧bx≠bc∧bz≠gx∧bz≠bc∧bc≠gx∧gz≠gx∧gz≠bc) :
  Calls Tryz.prog 137 #[.int .i64 i,pt bx,pt bz,pt bc] w fun e w'=>(e=.returned (.tuple #[])∧StepAt w' bx bz bc gx gz l)∧Fr (fun k=>k=gx∨k=bc) w w':=by
 have HST:=Hi h;obtain⟨BX,BZ,BC,GX,GZ⟩:=h
 obtain⟨x,hx⟩:∃ x,l[i]? = some x:=⟨_,List.getElem?_eq_getElem hi⟩
 have HX:=Hi hx;have e0:=BX.cell 0;have e1:=BZ.cell 0;have e2:=BC.cell 0;have f2:=BC.frozen 0;have e3:=GX.cell i;have f3:=GX.frozen i;have e4:=GZ.cell i;simp only[SG,byteCells_get,hx,Option.map_some]at e0 e1 e2 e3
 rw[List.getElem?_toArray,byteCells_get,List.getElem?_replicate,if_pos hi]at e4
 simp only[Option.map_some]at e4
 have q1:(0:Int)≤(i:Int):=by omega
 have q2:(i:Int)<(l.length:Int):=by omega
 have hx8:x.toNat<256:=x.toNat_lt;have q3:IntKind.i64.wrap ((x.toNat:Int))=(x.toNat:Int):=IntWalk.i64_in _ (by omega);have q4:(x.toNat:Int) / 256=0:=by omega
 have HD:=Hi hd;have n1:bc≠gx:=hd.2.2.2.2.1;have n2:gx≠bc:=Ne.symm n1;have n3:bx≠gx:=hd.1;have n4:bx≠bc:=hd.2.1;clear hi hx8 hx BX BZ BC GX GZ hd;go_enter Tryz.func137,Tryz.ntmps137
 go_upto_region 0 with fail
 go_quiet (fail)
 go_wp2_with fail
 go_end0
 exact⟨⟨rfl,step_c (step_x (step_q HST.out _) HD.out HX.out) HD.out⟩,(((Fr.refl w).drewN _).setCell (S:=fun k=>k=gx∨k=bc) (p:=⟨gx,i,none⟩) (fun _=>.inl rfl) _).setCell (p:=⟨bc,0,none⟩) (fun _=>.inr rfl) _⟩
theorem minus1_any (bx bz bc gx gz:Nat)(l:List UInt8)(i:Nat)(w:World)(h:StepAt w bx bz bc gx gz l)(hi:i<l.length)(_hl:l.length≤1099511627776)(hd:bx≠gx∧bx≠bc∧bz≠gx∧bz≠bc∧bc≠gx∧gz≠gx∧gz≠bc) :
  Calls Tryz.prog 138 #[.int .i64 i,pt bx,pt bz,pt bc] w fun e w'=>(e=.returned (.tuple #[])∧StepAt w' bx bz bc gx gz l)∧Fr (fun k=>k=gx∨k=bc) w w':=by
 have HST:=Hi h;obtain⟨BX,BZ,BC,GX,GZ⟩:=h
 obtain⟨x,hx⟩:∃ x,l[i]? = some x:=⟨_,List.getElem?_eq_getElem hi⟩
 have HX:=Hi hx;have e0:=BX.cell 0;have e1:=BZ.cell 0;have e2:=BC.cell 0;have f2:=BC.frozen 0;have e3:=GX.cell i;have f3:=GX.frozen i;have e4:=GZ.cell i;simp only[SG,byteCells_get,hx,Option.map_some]at e0 e1 e2 e3
 rw[List.getElem?_toArray,byteCells_get,List.getElem?_replicate,if_pos hi]at e4
 simp only[Option.map_some]at e4
 have q1:(0:Int)≤(i:Int):=by omega
 have q2:(i:Int)<(l.length:Int):=by omega
 have hx8:x.toNat<256:=x.toNat_lt;have q3:IntKind.i64.wrap ((x.toNat:Int))=(x.toNat:Int):=IntWalk.i64_in _ (by omega);have q4:¬(x.toNat:Int)<0:=by omega
 have q5:(x.toNat:Int) % 256=(x.toNat:Int):=by omega
 have HD:=Hi hd;have n1:bc≠gx:=hd.2.2.2.2.1;have n2:gx≠bc:=Ne.symm n1;have n3:bx≠gx:=hd.1;have n4:bx≠bc:=hd.2.1;clear hi hx8 hx BX BZ BC GX GZ hd;go_enter Tryz.func138,Tryz.ntmps138
 go_upto_region 0 with fail
 go_quiet (fail)
 go_wp2_with fail
 go_end0
 exact⟨⟨rfl,step_x (step_c (step_q HST.out _) HD.out) HD.out HX.out⟩,(((Fr.refl w).drewN _).setCell (S:=fun k=>k=gx∨k=bc) (p:=⟨bc,0,none⟩) (fun _=>.inr rfl) _).setCell (p:=⟨gx,i,none⟩) (fun _=>.inl rfl) _⟩
theorem bytes_empty {w:World}{v:Value}(h:Bytes w v [])(W:World):Bytes W v []:=by
 obtain⟨a,c,rfl,h1,h2,-⟩:=h
 exact⟨a,c,rfl,h1,h2,fun h=>absurd h (by decide)⟩
theorem step_num (j:Nat)(h:j≤1000000000000):Value.int .i64 (wrap64 ((j:Int)+1))=.int .i64 ((j+1:Nat):Int):=by
 congr 1
 unfold wrap64;omega
theorem plus_start (w1:World)(gx gz n:Nat)(l:List UInt8)(hn:l.length=n)(GX:Blk w1 gx 5 (Lib.byteCells l).toArray)(GZ:Blk w1 gz 5 (Lib.byteCells (List.replicate n 0)).toArray) :
  StepAt (((w1.alloc (.cells #[.slice (some ⟨gx,0,none⟩) n n] 38)).alloc (.cells #[.slice (some ⟨gz,0,none⟩) n n] 38)).alloc (.cells #[.int .i64 0] 3)) w1.heap.size (w1.heap.size+1) (w1.heap.size+2) gx gz l:=by
 subst hn;have a1:=World.size_alloc w1 (.cells #[.slice (some ⟨gx,0,none⟩) l.length l.length] 38);have a2:=World.size_alloc (w1.alloc (.cells #[.slice (some ⟨gx,0,none⟩) l.length l.length] 38)) (.cells #[.slice (some ⟨gz,0,none⟩) l.length l.length] 38);refine⟨((Blk.new w1 _ _).alloc _).alloc _,?_,?_,((GX.alloc _).alloc _).alloc _,((GZ.alloc _).alloc _).alloc _⟩
 ·have:=(Blk.new (w1.alloc (.cells #[.slice (some ⟨gx,0,none⟩) l.length l.length] 38)) 38 #[.slice (some ⟨gz,0,none⟩) l.length l.length]).alloc (.cells #[.int .i64 0] 3)
  rwa[a1]at this
 ·have:=Blk.new ((w1.alloc (.cells #[.slice (some ⟨gx,0,none⟩) l.length l.length] 38)).alloc (.cells #[.slice (some ⟨gz,0,none⟩) l.length l.length] 38)) 3 #[.int .i64 0]
  rwa[a2,a1]at this
theorem plus0_any (v:Value)(s:List UInt8)(o2:Option Addr)(k2:Nat)(w:World)(h:Bytes w v s)(hu:Bytes w (.slice o2 0 k2) [])(hl:s.length≤10000000000) :
  Calls Tryz.prog 95 #[v,.slice o2 0 k2] w fun e w'=>(∃ a c,e=.returned (.slice a (0::s).length c)∧Bytes w' (.slice a (0::s).length c) (0::s))∧Fz w w':=by
 obtain⟨n,hn⟩:∃ n,n=s.length+1:=⟨_,rfl⟩
 have H:=Hi h;obtain⟨a,c,rfl,-⟩:=h.form
 have HW1:=Hi (wWide_any _ s n w h (by omega) (by omega));rw[show List.replicate (n-s.length) (0:UInt8)++s=0::s from by rw[hn,Nat.add_sub_cancel_left];rfl]at HW1
 have HW2:=Hi (fun W=>wWide_any (.slice o2 0 k2) [] n W (bytes_empty hu W) (Nat.zero_le _) (by omega));simp only[List.length_nil,Nat.sub_zero,List.append_nil]at HW2
 have q1:max (s.length:Int) 0=(s.length:Int):=by omega
 have q2:IntKind.i64.wrap ((s.length:Int)+1)=(n:Int):=by
  have:=IntWalk.i64_in ((s.length:Int)+1) (by omega);rw[this];omega
 have HN:=Hi hn;have HL:=Hi hl;clear h hu hn hl;go_enter Tryz.func95,Tryz.ntmps95
 go_wp2_with fail
 refine HW1.out.mono ?_;rintro e w1 ⟨⟨rfl,GX⟩,F1⟩;obtain⟨gx,hgx⟩:∃ g,g=w.heap.size:=⟨_,rfl⟩
 rw[←hgx]at GX ⊢
 have HGX:=Hi GX;have HF1:=Hi F1;have HGE:=Hi hgx;clear HW1 GX F1 hgx;go_wp2_with fail
 refine(HW2.out w1).mono ?_
 rintro e w2 ⟨⟨rfl,GZ⟩,F2⟩;obtain⟨gz,hgz⟩:∃ g,g=w1.heap.size:=⟨_,rfl⟩
 rw[←hgz]at GZ ⊢
 have hgxl:=HGX.out.lt;have hgzl:=GZ.lt;have HST:=Hi (plus_start w2 gx gz n (0::s) (by rw[HN.out];rfl) (HGX.out.fr F2 (fun h=>h)) GZ);have F3:Fz w (((w2.alloc (.cells #[.slice (some ⟨gx,0,none⟩) n n] 38)).alloc (.cells #[.slice (some ⟨gz,0,none⟩) n n] 38)).alloc (.cells #[.int .i64 0] 3)):=(((HF1.out.trans F2).alloc _).alloc _).alloc _;have HF3:=Hi F3;obtain⟨bx,hbx⟩:∃ b,b=w2.heap.size:=⟨_,rfl⟩
 have HBX:=Hi hbx;rw[←hbx]at HST
 have hw1:=HF1.out.size;have HD:=Hi (show bx≠gx∧bx≠bx+2∧bx+1≠gx∧bx+1≠bx+2∧bx+2≠gx∧gz≠gx∧gz≠bx+2 from by omega);have HNW:=Hi (show w.heap.size≤gx∧w.heap.size≤bx+2 from by have:=HGE.out;have:=F2.size;omega);clear GZ F2 F3 HW2 hgz hbx hgxl hgzl;go_upto_block 1 with fail
 rw[←HBX.out]
 generalize (((w2.alloc (.cells #[.slice (some ⟨gx,0,none⟩) n n] 38)).alloc (.cells #[.slice (some ⟨gz,0,none⟩) n n] 38)).alloc (.cells #[.int .i64 0] 3))=w3 at *
 go_loopg [25] n (fun g i wr=>∃ j:Nat,g=n-j∧j≤n∧i=.int .i64 j∧Hid (StepAt wr bx (bx+1) (bx+2) gx gz (0::s))∧Fr (fun k=>k=gx∨k=bx+2) w3 wr)
 case atStart=>exact⟨0,rfl,Nat.zero_le _,rfl,HST,Fr.refl _⟩
 case round=>
  obtain⟨j,hg,hj,rfl,HS,F⟩:=hrel
  have HG:=Hi hg;have HF:=Hi F;clear hg F;by_cases hjn:j<n
  ·have p1:(j:Int)<(n:Int):=by omega
   obtain⟨i,hi⟩:∃ i,i=n-1-j:=⟨_,rfl⟩
   have p2:IntKind.i64.wrap ((n:Int)-1)=(n:Int)-1:=IntWalk.i64_in _ (by have:=HN.out;have:=HL.out;omega);have p3:IntKind.i64.wrap ((n:Int)-1-(j:Int))=(i:Int):=by
    have:=IntWalk.i64_in ((n:Int)-1-(j:Int)) (by have:=HN.out;have:=HL.out;omega);rw[this];omega
   have HC:=Hi (plus1_any bx (bx+1) (bx+2) gx gz (0::s) i wr HS.out (by rw[List.length_cons,←HN.out];omega) (by rw[List.length_cons];have:=HL.out;omega) HD.out);clear hi;go_wp2_with fail
   refine HC.out.mono ?_;rintro e w5 ⟨⟨rfl,hs5⟩,F5⟩;have HS5:=Hi hs5;have HF5:=Hi (HF.out.trans F5);clear hs5 F5 HC;go_wp2_with fail
   go_roundg (n-(j+1))
   case measure=>rw[HG.out];omega
   case rel=>
    have hnb:n≤10000000001:=by have:=HN.out;have:=HL.out;omega
    clear p2 p3;exact⟨j+1,rfl,by omega,step_num j (by omega),HS5,HF5.out⟩
  ·have p1:¬(j:Int)<(n:Int):=by omega
   obtain⟨BX,-,-,GX,-⟩:=HS.out
   have e0:=BX.cell 0;simp only[List.getElem?_toArray,List.getElem?_cons_zero]at e0
   rw[List.length_cons,←HN.out]at e0
   have HB:=Hi (Vals.of_block GX (by rw[List.size_toArray,byteCells_len,List.length_cons];have:=HL.out;unfold maxLen;omega));have HFE:=Hi (HF3.out.trans' HF.out (fun i hi e=>by have:=HNW.out;omega));clear BX GX;go_wp2_with fail
   go_ret;refine⟨⟨some ⟨gx,0,none⟩,n,?_,?_⟩,HFE.out⟩
   ·rw[HN.out]
    rfl
   ·have:=HB.out
    simp only[List.size_toArray,byteCells_len,List.toList_toArray]at this
    rw[HN.out]
    exact this
theorem minus0_any (v:Value)(s:List UInt8)(o2:Option Addr)(k2:Nat)(w:World)(h:Bytes w v s)(hu:Bytes w (.slice o2 0 k2) [])(hl:s.length≤10000000000) :
  Calls Tryz.prog 97 #[v,.slice o2 0 k2] w fun e w'=>(∃ a c,e=.returned (.slice a s.length c)∧Bytes w' (.slice a s.length c) s)∧Fz w w':=by
 obtain⟨n,hn⟩:∃ n,n=s.length:=⟨_,rfl⟩
 have H:=Hi h;obtain⟨a,c,rfl,-⟩:=h.form
 have HW1:=Hi (wWide_any _ s n w h (by omega) (by omega));rw[show List.replicate (n-s.length) (0:UInt8)++s=s from by rw[hn,Nat.sub_self];rfl]at HW1
 have HW2:=Hi (fun W=>wWide_any (.slice o2 0 k2) [] n W (bytes_empty hu W) (Nat.zero_le _) (by omega));simp only[List.length_nil,Nat.sub_zero,List.append_nil]at HW2
 have HN:=Hi hn;have HL:=Hi hl;rw[←hn]at HW1 ⊢
 clear h hu hn hl;go_enter Tryz.func97,Tryz.ntmps97
 go_wp2_with fail
 refine HW1.out.mono ?_;rintro e w1 ⟨⟨rfl,GX⟩,F1⟩;obtain⟨gx,hgx⟩:∃ g,g=w.heap.size:=⟨_,rfl⟩
 rw[←hgx]at GX ⊢
 have HGX:=Hi GX;have HF1:=Hi F1;have HGE:=Hi hgx;clear HW1 GX F1 hgx;go_wp2_with fail
 refine(HW2.out w1).mono ?_
 rintro e w2 ⟨⟨rfl,GZ⟩,F2⟩;obtain⟨gz,hgz⟩:∃ g,g=w1.heap.size:=⟨_,rfl⟩
 rw[←hgz]at GZ ⊢
 have hgxl:=HGX.out.lt;have hgzl:=GZ.lt;have HST:=Hi (plus_start w2 gx gz n s HN.out.symm (HGX.out.fr F2 (fun h=>h)) GZ);have F3:Fz w (((w2.alloc (.cells #[.slice (some ⟨gx,0,none⟩) n n] 38)).alloc (.cells #[.slice (some ⟨gz,0,none⟩) n n] 38)).alloc (.cells #[.int .i64 0] 3)):=(((HF1.out.trans F2).alloc _).alloc _).alloc _;have HF3:=Hi F3;obtain⟨bx,hbx⟩:∃ b,b=w2.heap.size:=⟨_,rfl⟩
 have HBX:=Hi hbx;rw[←hbx]at HST
 have hw1:=HF1.out.size;have HD:=Hi (show bx≠gx∧bx≠bx+2∧bx+1≠gx∧bx+1≠bx+2∧bx+2≠gx∧gz≠gx∧gz≠bx+2 from by omega);have HNW:=Hi (show w.heap.size≤gx∧w.heap.size≤bx+2 from by have:=HGE.out;have:=F2.size;omega);clear GZ F2 F3 HW2 hgz hbx hgxl hgzl;go_upto_block 1 with fail
 rw[←HBX.out]
 generalize (((w2.alloc (.cells #[.slice (some ⟨gx,0,none⟩) n n] 38)).alloc (.cells #[.slice (some ⟨gz,0,none⟩) n n] 38)).alloc (.cells #[.int .i64 0] 3))=w3 at *
 go_loopg [21] n (fun g i wr=>∃ j:Nat,g=n-j∧j≤n∧i=.int .i64 j∧Hid (StepAt wr bx (bx+1) (bx+2) gx gz s)∧Fr (fun k=>k=gx∨k=bx+2) w3 wr)
 case atStart=>exact⟨0,rfl,Nat.zero_le _,rfl,HST,Fr.refl _⟩
 case round=>
  obtain⟨j,hg,hj,rfl,HS,F⟩:=hrel
  have HG:=Hi hg;have HF:=Hi F;clear hg F;by_cases hjn:j<n
  ·have p1:(j:Int)<(n:Int):=by omega
   obtain⟨i,hi⟩:∃ i,i=n-1-j:=⟨_,rfl⟩
   have p2:IntKind.i64.wrap ((n:Int)-1)=(n:Int)-1:=IntWalk.i64_in _ (by have:=HN.out;have:=HL.out;omega);have p3:IntKind.i64.wrap ((n:Int)-1-(j:Int))=(i:Int):=by
    have:=IntWalk.i64_in ((n:Int)-1-(j:Int)) (by have:=HN.out;have:=HL.out;omega);rw[this];omega
   have HC:=Hi (minus1_any bx (bx+1) (bx+2) gx gz s i wr HS.out (by rw[←HN.out];omega) (by have:=HL.out;omega) HD.out);clear hi;go_wp2_with fail
   refine HC.out.mono ?_;rintro e w5 ⟨⟨rfl,hs5⟩,F5⟩;have HS5:=Hi hs5;have HF5:=Hi (HF.out.trans F5);clear hs5 F5 HC;go_wp2_with fail
   go_roundg (n-(j+1))
   case measure=>rw[HG.out];omega
   case rel=>
    have hnb:n≤10000000001:=by have:=HN.out;have:=HL.out;omega
    clear p2 p3;exact⟨j+1,rfl,by omega,step_num j (by omega),HS5,HF5.out⟩
  ·have p1:¬(j:Int)<(n:Int):=by omega
   obtain⟨BX,-,-,GX,-⟩:=HS.out
   have e0:=BX.cell 0;simp only[List.getElem?_toArray,List.getElem?_cons_zero]at e0
   rw[←HN.out]at e0
   have HB:=Hi (Vals.of_block GX (by rw[List.size_toArray,byteCells_len];have:=HL.out;unfold maxLen;omega));have HFE:=Hi (HF3.out.trans' HF.out (fun i hi e=>by have:=HNW.out;omega));clear BX GX;go_wp2_with fail
   go_ret;refine⟨⟨some ⟨gx,0,none⟩,n,rfl,?_⟩,HFE.out⟩
   have:=HB.out;simp only[List.size_toArray,byteCells_len,List.toList_toArray]at this
   rw[←HN.out]at this
   exact this
theorem made_zero_ahead (x:NumT):madeS ⟨x.below,0::x.size⟩=madeS x:=rfl
theorem plus0_as (v:Value)(s zx:List UInt8)(hzx:zx=0::s)(o2:Option Addr)(k2:Nat)(w:World)(h:Bytes w v s)(hu:Bytes w (.slice o2 0 k2) [])(hl:s.length≤10000000000) :
  Calls Tryz.prog 95 #[v,.slice o2 0 k2] w fun e w'=>(∃ a c,e=.returned (.slice a zx.length c)∧Bytes w' (.slice a zx.length c) zx)∧Fz w w':=by
 subst hzx;exact plus0_any v s o2 k2 w h hu hl
theorem minus0_as (v:Value)(s zx:List UInt8)(hzx:zx=s)(o2:Option Addr)(k2:Nat)(w:World)(h:Bytes w v s)(hu:Bytes w (.slice o2 0 k2) [])(hl:s.length≤10000000000) :
  Calls Tryz.prog 97 #[v,.slice o2 0 k2] w fun e w'=>(∃ a c,e=.returned (.slice a zx.length c)∧Bytes w' (.slice a zx.length c) zx)∧Fz w w':=by
 subst hzx;exact minus0_any v _ o2 k2 w h hu hl
theorem sizes_pos {s:List UInt8}(h:0<s.length):sizesS s []=1:=by
 unfold sizesS;rw[if_neg (by rw[List.length_nil];omega),if_neg (by rw[List.length_nil];omega)]
theorem sizes1_any (v:Value)(s:List UInt8)(o2:Option Addr)(k2:Nat)(w:World)(h:Bytes w v s)(hu:Bytes w (.slice o2 0 k2) [])(hl:s.length≤1099511627776)(h0:0<s.length) :
  Calls Tryz.prog 96 #[v,.slice o2 0 k2] w fun e w'=>e=.returned (.int .i64 1)∧Fz w w':=by
 have:=wSizes_any v _ s [] w h hu hl (by decide);rw[sizes_pos h0]at this
 exact this
theorem wAdd0_any (b1:Bool)(v:Value)(s1:List UInt8)(x:NumT)(hx:x=madeS ⟨b1,s1⟩)(w:World)(h:Bytes w v s1)(h1:s1.length≤1000000000) :
  Calls Tryz.prog 65 #[.agg #[.bool b1,v],.agg #[.bool false,.slice none 0 0]] w fun e w'=>(∃ a c,e=.returned (.agg #[.bool x.below,.slice a x.size.length c])∧Kept (fun W=>Bytes W (.slice a x.size.length c) x.size) (fun k=>k<w.heap.size) w')∧Fz w w':=by
 have hxl:x.size.length≤1000000000:=by rw[hx];have:=trimS_le s1;show (trimS s1).length≤_;omega
 have hmx:madeS x=x:=by rw[hx,made_made]
 have hneg:x.below=true→0<x.size.length:=fun e=>by
  rw[←hmx]at e
  simp only[madeS,Bool.and_eq_true,decide_eq_true_eq]at e
  have:=e.2;rw[hx]at this ⊢
  simp only[madeS,trim_of_lean (trim_lean s1)]at this
  exact this
 obtain⟨y,hy⟩:∃ y:NumT,y=madeS ⟨false,[]⟩:=⟨_,rfl⟩
 have hu:=Vals.nil w;obtain⟨a1,c1,rfl,-⟩:=h.form
 obtain⟨z,hz⟩:∃ z,z=w.heap.size:=⟨_,rfl⟩
 have HZ:=Hi hz;have F0:Fz w (((w.alloc (.cells #[.bool b1,.slice a1 s1.length c1] 40)).alloc (.cells #[.bool false,.slice none 0 0] 40)).alloc (.cells #[.bool false,.slice none 0 0] 40)):=(((Fr.refl w).alloc _).alloc _).alloc _;have BA:=((Blk.new w 40 #[.bool b1,.slice a1 s1.length c1]).alloc (.cells #[.bool false,.slice none 0 0] 40)).alloc (.cells #[.bool false,.slice none 0 0] 40);have BB:=(Blk.new (w.alloc (.cells #[.bool b1,.slice a1 s1.length c1] 40)) 40 #[.bool false,.slice none 0 0]).alloc (.cells #[.bool false,.slice none 0 0] 40)
 have BD:=Blk.new ((w.alloc (.cells #[.bool b1,.slice a1 s1.length c1] 40)).alloc (.cells #[.bool false,.slice none 0 0] 40)) 40 #[.bool false,.slice none 0 0];rw[World.size_alloc,←hz]at BB
 rw[World.size_alloc,World.size_alloc,←hz]at BD
 rw[←hz]at BA
 have HM1:=Hi (fun W (F:Fz (((w.alloc (.cells #[.bool b1,.slice a1 s1.length c1] 40)).alloc (.cells #[.bool false,.slice none 0 0] 40)).alloc (.cells #[.bool false,.slice none 0 0] 40)) W)=>wMade_as b1 _ s1 x hx W ((h.old F0).old F) (by omega));have HM2:=Hi (fun W (F:Fz (((w.alloc (.cells #[.bool b1,.slice a1 s1.length c1] 40)).alloc (.cells #[.bool false,.slice none 0 0] 40)).alloc (.cells #[.bool false,.slice none 0 0] 40)) W)=>wMade_as false _ [] y hy W ((hu.old F0).old F) (by decide))
 have HS0:=Hi (show (((w.alloc (.cells #[.bool b1,.slice a1 s1.length c1] 40)).alloc (.cells #[.bool false,.slice none 0 0] 40)).alloc (.cells #[.bool false,.slice none 0 0] 40)).heap.size=z+3 from by rw[World.size_alloc,World.size_alloc,World.size_alloc,hz]);have HF0:=Hi F0;have HY:=Hi (show y=⟨false,[]⟩ from by rw[hy];rfl);have HMX:=Hi hmx;have HNG:=Hi hneg;clear h hu hz F0 hx hy hmx hneg;go_enter Tryz.func65,Tryz.ntmps65
 go_upto_region 1 with fail
 rw[←HZ.out]
 generalize (((w.alloc (.cells #[.bool b1,.slice a1 s1.length c1] 40)).alloc (.cells #[.bool false,.slice none 0 0] 40)).alloc (.cells #[.bool false,.slice none 0 0] 40))=w0 at *
 replace BA:=BA.drew;replace BB:=BB.drew;replace BD:=BD.drew;have G:Fz w0 w0.drew:=(Fr.refl w0).drew;refine wp_region_2 10 11 (C1:=fun w'=>∀ j,w'.cell? ⟨z,j,none⟩=(#[.bool b1,.slice a1 s1.length c1]:Array Value)[j]?) (C2:=fun w'=>∀ j,w'.cell? ⟨z+1,j,none⟩=(#[.bool false,.slice none 0 0]:Array Value)[j]?) (by kernel_rfl) (BA.cell) (BB.cell) (fun hTwo=>?_);refine wpAny2_takeA (i:=0) (oi:=_) (v:=?_) rfl (by kernel_rfl) (by kernel_rfl) (by kernel_rfl) (by kernel_rfl) (by decide) (by kernel_rfl) (fun _ _ _ h=>h) (Or.inl ⟨by rfl,?_⟩) (by assumption) (fun hT2=>?_);rotate_left
 ·(intro W hSw;(try dsimp only at hSw);go_simp;try with_reducible rfl)
 replace hTwo:=hT2;clear hT2;(try simp only[Act.put,SS]);refine wpAny2_takeA (i:=1) (oi:=_) (v:=?_) rfl (by kernel_rfl) (by kernel_rfl) (by kernel_rfl) (by kernel_rfl) (by decide) (by kernel_rfl) (fun _ _ _ h=>h) (Or.inl ⟨by rfl,?_⟩) (by assumption) (fun hT2=>?_);rotate_left
 ·(intro W hSw;(try dsimp only at hSw);go_simp;try with_reducible rfl)
 replace hTwo:=hT2;clear hT2;(try simp only[Act.put,SS]);refine wpAny2_takeA (i:=2) (oi:=_) (v:=?_) rfl (by kernel_rfl) (by kernel_rfl) (by kernel_rfl) (by kernel_rfl) (by decide) (by kernel_rfl) (fun _ _ _ h=>h) (Or.inl ⟨by rfl,?_⟩) (by assumption) (fun hT2=>?_);rotate_left
 ·(intro W hSw;(try dsimp only at hSw);go_simp;try with_reducible rfl)
 replace hTwo:=hT2;clear hT2;(try simp only[Act.put,SS]);refine wpAny2_takeA (i:=3) (oi:=_) (v:=?_) rfl (by kernel_rfl) (by kernel_rfl) (by kernel_rfl) (by kernel_rfl) (by decide) (by kernel_rfl) (fun _ _ _ h=>h) (Or.inl ⟨by rfl,?_⟩) (by assumption) (fun hT2=>?_);rotate_left
 ·(intro W hSw;(try dsimp only at hSw);go_simp;try with_reducible rfl)
 replace hTwo:=hT2;clear hT2;(try simp only[Act.put,SS]);refine wpAny2_takeB (i:=5) (oi:=_) (v:=?_) rfl (by kernel_rfl) (by kernel_rfl) (by kernel_rfl) (by kernel_rfl) (by decide) (by kernel_rfl) (fun _ _ _ h=>h) (Or.inl ⟨by rfl,?_⟩) (by assumption) (fun hT2=>?_);rotate_left
 ·(intro W hSw;(try dsimp only at hSw);go_simp;try with_reducible rfl)
 replace hTwo:=hT2;clear hT2;(try simp only[Act.put,SS]);refine wpAny2_takeB (i:=6) (oi:=_) (v:=?_) rfl (by kernel_rfl) (by kernel_rfl) (by kernel_rfl) (by kernel_rfl) (by decide) (by kernel_rfl) (fun _ _ _ h=>h) (Or.inl ⟨by rfl,?_⟩) (by assumption) (fun hT2=>?_);rotate_left
 ·(intro W hSw;(try dsimp only at hSw);go_simp;try with_reducible rfl)
 replace hTwo:=hT2;clear hT2;(try simp only[Act.put,SS]);refine wpAny2_takeB (i:=7) (oi:=_) (v:=?_) rfl (by kernel_rfl) (by kernel_rfl) (by kernel_rfl) (by kernel_rfl) (by decide) (by kernel_rfl) (fun _ _ _ h=>h) (Or.inl ⟨by rfl,?_⟩) (by assumption) (fun hT2=>?_);rotate_left
 ·(intro W hSw;(try dsimp only at hSw);go_simp;try with_reducible rfl)
 replace hTwo:=hT2;clear hT2;(try simp only[Act.put,SS]);refine wpAny2_takeB (i:=8) (oi:=_) (v:=?_) rfl (by kernel_rfl) (by kernel_rfl) (by kernel_rfl) (by kernel_rfl) (by decide) (by kernel_rfl) (fun _ _ _ h=>h) (Or.inl ⟨by rfl,?_⟩) (by assumption) (fun hT2=>?_);rotate_left
 ·(intro W hSw;(try dsimp only at hSw);go_simp;try with_reducible rfl)
 replace hTwo:=hT2;clear hT2;(try simp only[Act.put,SS]);refine wpAny2_ready (rs:=[4]) (by kernel_rfl) (by simp) ?_;refine All2.cons (o:=_) rfl (fun KK hKK=>?_) All2.nil;go_simp
 (go_at_call 73;(with_reducible refine(HM1.out _ G).mono ?_);rintro e w' ⟨⟨p1,q1,rfl,hk1⟩,F⟩;have hsz:=G.size;replace BA:=BA.fr F (fun h=>h);replace BB:=BB.fr F (fun h=>h);replace BD:=BD.fr F (fun h=>h);replace G:=G.trans F;clear F HM1;go_wp2_with fail)
 refine hKK.out _ _ ?_ (fun hT2=>?_)
 ·exact⟨fun _=>BA.cell,fun _=>BB.cell⟩
 clear hKK KK;replace hTwo:=hT2;clear hT2;(try simp only[Act.put,SS]);refine wpAny2_ready (rs:=[9]) (by kernel_rfl) (by simp) ?_;refine All2.cons (o:=_) rfl (fun KK hKK=>?_) All2.nil;go_simp
 (go_at_call 73;(with_reducible refine(HM2.out _ G).mono ?_);rintro e w' ⟨⟨p2,q2,rfl,hk2⟩,F⟩;have hsz2:=G.size;replace BA:=BA.fr F (fun h=>h);replace BB:=BB.fr F (fun h=>h);replace BD:=BD.fr F (fun h=>h);replace hk1:=hk1.old F;replace G:=G.trans F;clear F HM2;go_wp2_with fail)
 refine hKK.out _ _ ?_ (fun hT2=>?_)
 ·exact⟨fun _=>BA.cell,fun _=>BB.cell⟩
 clear hKK KK;replace hTwo:=hT2;clear hT2;(try simp only[Act.put,SS]);have X1:=set2 BA (.bool x.below) (.slice p1 x.size.length q1);have Y0:=BB.fr X1.2 (by omega);have Y1:=set2 Y0 (.bool y.below) (.slice p2 y.size.length q2);have X2:=X1.1.fr Y1.2 (by omega);have d0:=BA.cell 0;have d1:=BA.cell 1;have f0:=BA.frozen 0;have f1:=BA.frozen 1;have e0:=Y0.cell 0;have e1:=Y0.cell 1;have g0:=Y0.frozen 0;have g1:=Y0.frozen 1;simp only[SG]at d0 d1 e0 e1
 refine wpAny2_ready (rs:=[10]) (by kernel_rfl) (by simp) ?_;refine All2.cons (o:=_) rfl (fun KK hKK=>?_) All2.nil;go_simp
 skip
 refine hKK.out _ _ ?_ (fun hT2=>?_)
 ·exact⟨(fun h=>absurd (h.symm.trans (by kernel_rfl:_=true)) (by decide)),fun _=>Y0.cell⟩
 clear hKK KK;replace hTwo:=hT2;clear hT2;(try simp only[Act.put,SS]);refine wpAny2_ready (rs:=[11]) (by kernel_rfl) (by simp) ?_;refine All2.cons (o:=_) rfl (fun KK hKK=>?_) All2.nil;go_simp
 skip
 refine hKK.out _ _ ?_ (fun hT2=>?_)
 ·exact⟨(fun h=>absurd (h.symm.trans (by kernel_rfl:_=true)) (by decide)),(fun h=>absurd (h.symm.trans (by kernel_rfl:_=true)) (by decide))⟩
 clear hKK KK;replace hTwo:=hT2;clear hT2;(try simp only[Act.put,SS]);refine wpAny2_done (by kernel_rfl) ?_ _;have hsd:w0.drew.heap.size=w0.heap.size:=rfl;obtain⟨w3,hw3⟩:∃ w3,w3=((((w'.setCell ⟨z,0,none⟩ (.bool x.below)).setCell ⟨z,1,none⟩ (.slice p1 x.size.length q1)).setCell ⟨z+1,0,none⟩ (.bool y.below)).setCell ⟨z+1,1,none⟩ (.slice p2 y.size.length q2)):=⟨_,rfl⟩
 have F3:Fr (fun k=>k=z∨k=z+1) w' w3:=by rw[hw3];exact(X1.2.mono (fun k _ e=>.inl e)).trans (Y1.2.mono (fun k _ e=>.inr e))
 have hb1:=hk1 w3 (F3.mono (fun k _ e=>by have:=HS0.out;omega));have hb2:=hk2 w3 (F3.mono (fun k _ e=>by have:=HS0.out;omega));have HF3:=Hi ((HF0.out.trans G).trans' F3 (fun i hi e=>by have:=HZ.out;omega));rw[←hw3]at X2
 have Y3:=Y1.1;rw[←hw3]at Y3
 rw[←hw3]
 have D3:=BD.fr F3 (fun h=>by rcases h with h|h<;>omega);have hk1':=hk1.step F3 (K':=fun k=>k<z+3) (fun k hk e=>by have:=HS0.out;omega) (fun k hk=>by have:=HS0.out;exact .inl (by omega));have hk2':=hk2.step F3 (K':=fun k=>k<z+3) (fun k hk e=>by have:=HS0.out;omega) (fun k hk=>by have:=HS0.out;exact .inl (by omega));have HK1:=Hi hk1';have HK2:=Hi hk2';have HW3:=Hi (show z+3≤w3.heap.size from by have h1:=HF3.out.size;have h2:=D3.lt;omega);clear d0 d1 f0 f1 e0 e1 g0 g1 hTwo X1 Y0 Y1 hk1 hk2 hk1' hk2' hb1 hb2 F3 hw3 BA BB BD G hsz hsz2;try clear hTwo
 have HX2:=Hi X2;have HY3:=Hi Y3;have HD3:=Hi D3;have HZ2:=Hi hsd;have hy0:=HY.out;rw[hy0]at HY3 HK2
 simp only[List.length_nil]at HY3 HK2
 obtain⟨zx,hzx⟩:∃ zx,zx=0::x.size:=⟨_,rfl⟩
 obtain⟨zy,hzy⟩:∃ zy,zy=x.size:=⟨_,rfl⟩
 have HPL:=Hi (fun W (F:Fz w3 W)=>plus0_as _ x.size zx hzx p2 q2 W (HK1.out.now.old F) (HK2.out.now.old F) (by omega));have HMI:=Hi (fun W (F:Fz w3 W)=>minus0_as _ x.size zy hzy p2 q2 W (HK1.out.now.old F) (HK2.out.now.old F) (by omega));have HSZ:=Hi (fun (h0:0<x.size.length)=>sizes1_any _ x.size p2 q2 w3 HK1.out.now HK2.out.now (by omega) h0);have HLX:=Hi (show zx.length≤10000000000 from by rw[hzx,List.length_cons];omega);have HLY:=Hi (show zy.length≤10000000000 from by rw[hzy];omega);have HMX0:=Hi (fun (h0:false=x.below)=>show x=madeS ⟨false,zx⟩ from by rw[hzx,h0,made_zero_ahead,HMX.out])
 have HMY0:=Hi (fun (h0:true=x.below)=>show x=madeS ⟨true,zy⟩ from by rw[hzy,h0];exact HMX.out.symm);clear hzx hzy;have HXL:=Hi hxl;clear hy0 hsd hxl X2 Y3 D3;have d0:=HX2.out.cell 0;have d1:=HX2.out.cell 1;have e0:=HY3.out.cell 0;have e1:=HY3.out.cell 1;simp only[SG]at d0 d1 e0 e1
 obtain⟨p,hp⟩:∃ p,p=x.below:=⟨_,rfl⟩
 have HP:=Hi hp;rw[←hp]at d0
 clear hp;cases p with
 |false=>
  go_upto_region 3 with fail
  have BA:=HX2.out.drew;have BB:=HY3.out.drew;have BD:=HD3.out.drew;have G:Fz w3 w3.drew:=(Fr.refl w3).drew;clear d0 d1 e0 e1;rw[←HP.out]at BA
  have HX0:=Hi (HMX0.out HP.out);refine wp_region_N 8 (S:=fun w'=>(∀ j,w'.cell? ⟨z,j,none⟩=(#[.bool false,.slice p1 x.size.length q1]:Array Value)[j]?)∧∀ j,w'.cell? ⟨z+1,j,none⟩=(#[.bool false,.slice p2 0 q2]:Array Value)[j]?) (by kernel_rfl) ?_ (fun hHeld=>?_)
  ·exact⟨BA.cell,BB.cell⟩
  refine tkN 0 rfl hHeld ?_;refine tkN 1 rfl hHeld ?_;refine tkN 2 rfl hHeld ?_;(try simp only[Act.put,SS]);refine tkN 3 rfl hHeld ?_;refine tkN 4 rfl hHeld ?_;refine tkN 5 rfl hHeld ?_;(try simp only[Act.put,SS]);refine wpAnyN_step (i:=6) (by kernel_rfl) (o:=_) rfl (fun KK hKK=>?_);go_simp
  (go_at_call 95;(with_reducible refine(HPL.out _ G).mono ?_);rintro e w' ⟨⟨a7,c7,rfl,hb7⟩,F⟩;replace BA:=BA.fr F (fun h=>h);replace BB:=BB.fr F (fun h=>h);replace BD:=BD.fr F (fun h=>h);replace G:=G.trans F;clear F;have HM:=Hi (wMade_as false _ _ x HX0.out _ hb7 HLX.out);clear hb7;go_wp2_with fail)
  refine hKK.out _ _ ?_ (fun hHeld=>?_)
  ·exact⟨BA.cell,BB.cell⟩
  clear hKK KK;(try simp only[Act.put,SS]);refine wpAnyN_step (i:=7) (by kernel_rfl) (o:=_) rfl (fun KK hKK=>?_);go_simp
  (go_at_call 73;(with_reducible refine HM.out.mono ?_);rintro e w' ⟨⟨a8,c8,rfl,hk8⟩,F⟩;have hsz:=G.size;replace BA:=BA.fr F (fun h=>h);replace BB:=BB.fr F (fun h=>h);replace BD:=BD.fr F (fun h=>h);replace G:=G.trans F;clear F HM;go_wp2_with fail)
  refine hKK.out _ _ ?_ (fun hHeld=>?_)
  ·exact⟨BA.cell,BB.cell⟩
  clear hKK KK;(try simp only[Act.put,SS]);have d0:=BD.cell 0;have d1:=BD.cell 1;have f0:=BD.frozen 0;have f1:=BD.frozen 1;have D5:=set2 BD (.bool x.below) (.slice a8 x.size.length c8);simp only[SG]at d0 d1
  have HK8:=Hi hk8;have HG:=Hi G;have HSI:=Hi hsz;clear hk8 G hsz;refine wpAnyN_last (i:=8) (by kernel_rfl) (by decide) (o:=_) rfl (fun KK hKK=>?_);go_simp
  skip
  refine hKK.out _ _ ?_;clear hKK KK;(try simp only[Act.put,SS]);refine wpAnyN_done (by kernel_rfl) ?_ _;have hend:Kept (fun W=>Bytes W (.slice a8 x.size.length c8) x.size) (fun k=>k<w.heap.size) ((w'.setCell ⟨z+2,0,none⟩ (.bool x.below)).setCell ⟨z+2,1,none⟩ (.slice a8 x.size.length c8))∧Fz w ((w'.setCell ⟨z+2,0,none⟩ (.bool x.below)).setCell ⟨z+2,1,none⟩ (.slice a8 x.size.length c8)):=by
   have h1:=HZ.out;have h2:=HS0.out;have h3:=HSI.out;have h4:=HW3.out;exact⟨HK8.out.step D5.2 (fun k hk e=>by omega) (fun k hk=>.inl (by omega)),(HF3.out.trans HG.out).trans' D5.2 (fun i hi e=>by omega)⟩
  have HE:=Hi hend;have n0:=D5.1.cell 0;have n1:=D5.1.cell 1;clear hend;simp only[SG]at n0 n1
  generalize ((w'.setCell ⟨z+2,0,none⟩ (.bool x.below)).setCell ⟨z+2,1,none⟩ (.slice a8 x.size.length c8))=w9 at *
  try go_wp2_with fail
  exact bodyPost_ret (v:=.agg #[.bool x.below,.slice a8 x.size.length c8]) (by simp[results,Tryz.results65,go_sem,n0,n1]) rfl ⟨⟨a8,c8,rfl,HE.out.1⟩,HE.out.2⟩
 |true=>
  go_wp2_with fail
  refine(HSZ.out (HNG.out HP.out.symm)).mono ?_
  rintro e w4 ⟨rfl,F4⟩;have X4:=HX2.out.fr F4 (fun h=>h);have Y4:=HY3.out.fr F4 (fun h=>h);have D4:=HD3.out.fr F4 (fun h=>h);rw[←HP.out]at X4
  have d0:=X4.cell 0;have d1:=X4.cell 1;have e0:=Y4.cell 0;have e1:=Y4.cell 1;simp only[SG]at d0 d1 e0 e1
  rw[HP.out]at X4
  have HX4:=Hi X4;have HY4:=Hi Y4;have HD4:=Hi D4;have HF4:=Hi F4;clear X4 Y4 D4 F4;go_upto_region 5 with fail
  have BA:=HX4.out.drew;have BB:=HY4.out.drew;have BD:=HD4.out.drew;have G:Fz w3 w4.drew:=HF4.out.drew;clear d0 d1 e0 e1;rw[←HP.out]at BA
  have HX0:=Hi (HMY0.out HP.out);refine wp_region_N 8 (S:=fun w'=>(∀ j,w'.cell? ⟨z,j,none⟩=(#[.bool true,.slice p1 x.size.length q1]:Array Value)[j]?)∧∀ j,w'.cell? ⟨z+1,j,none⟩=(#[.bool false,.slice p2 0 q2]:Array Value)[j]?) (by kernel_rfl) ?_ (fun hHeld=>?_)
  ·exact⟨BA.cell,BB.cell⟩
  refine tkN 0 rfl hHeld ?_;refine tkN 1 rfl hHeld ?_;refine tkN 2 rfl hHeld ?_;(try simp only[Act.put,SS]);refine tkN 3 rfl hHeld ?_;refine tkN 4 rfl hHeld ?_;refine tkN 5 rfl hHeld ?_;(try simp only[Act.put,SS]);refine wpAnyN_step (i:=6) (by kernel_rfl) (o:=_) rfl (fun KK hKK=>?_);go_simp
  (go_at_call 97;(with_reducible refine(HMI.out _ G).mono ?_);rintro e w' ⟨⟨a7,c7,rfl,hb7⟩,F⟩;replace BA:=BA.fr F (fun h=>h);replace BB:=BB.fr F (fun h=>h);replace BD:=BD.fr F (fun h=>h);replace G:=G.trans F;clear F;have HM:=Hi (wMade_as true _ _ x HX0.out _ hb7 HLY.out);clear hb7;go_wp2_with fail)
  refine hKK.out _ _ ?_ (fun hHeld=>?_)
  ·exact⟨BA.cell,BB.cell⟩
  clear hKK KK;(try simp only[Act.put,SS]);refine wpAnyN_step (i:=7) (by kernel_rfl) (o:=_) rfl (fun KK hKK=>?_);go_simp
  (go_at_call 73;(with_reducible refine HM.out.mono ?_);rintro e w' ⟨⟨a8,c8,rfl,hk8⟩,F⟩;have hsz:=G.size;replace BA:=BA.fr F (fun h=>h);replace BB:=BB.fr F (fun h=>h);replace BD:=BD.fr F (fun h=>h);replace G:=G.trans F;clear F HM;go_wp2_with fail)
  refine hKK.out _ _ ?_ (fun hHeld=>?_)
  ·exact⟨BA.cell,BB.cell⟩
  clear hKK KK;(try simp only[Act.put,SS]);have d0:=BD.cell 0;have d1:=BD.cell 1;have f0:=BD.frozen 0;have f1:=BD.frozen 1;have D5:=set2 BD (.bool x.below) (.slice a8 x.size.length c8);simp only[SG]at d0 d1
  have HK8:=Hi hk8;have HG:=Hi G;have HSI:=Hi hsz;clear hk8 G hsz;refine wpAnyN_last (i:=8) (by kernel_rfl) (by decide) (o:=_) rfl (fun KK hKK=>?_);go_simp
  skip
  refine hKK.out _ _ ?_;clear hKK KK;(try simp only[Act.put,SS]);refine wpAnyN_done (by kernel_rfl) ?_ _;have hend:Kept (fun W=>Bytes W (.slice a8 x.size.length c8) x.size) (fun k=>k<w.heap.size) ((w'.setCell ⟨z+2,0,none⟩ (.bool x.below)).setCell ⟨z+2,1,none⟩ (.slice a8 x.size.length c8))∧Fz w ((w'.setCell ⟨z+2,0,none⟩ (.bool x.below)).setCell ⟨z+2,1,none⟩ (.slice a8 x.size.length c8)):=by
   have h1:=HZ.out;have h2:=HS0.out;have h3:=HSI.out;have h4:=HW3.out;exact⟨HK8.out.step D5.2 (fun k hk e=>by omega) (fun k hk=>.inl (by omega)),(HF3.out.trans HG.out).trans' D5.2 (fun i hi e=>by omega)⟩
  have HE:=Hi hend;have n0:=D5.1.cell 0;have n1:=D5.1.cell 1;clear hend;simp only[SG]at n0 n1
  generalize ((w'.setCell ⟨z+2,0,none⟩ (.bool x.below)).setCell ⟨z+2,1,none⟩ (.slice a8 x.size.length c8))=w9 at *
  try go_wp2_with fail
  exact bodyPost_ret (v:=.agg #[.bool x.below,.slice a8 x.size.length c8]) (by simp[results,Tryz.results65,go_sem,n0,n1]) rfl ⟨⟨a8,c8,rfl,HE.out.1⟩,HE.out.2⟩
def NewCur (w w':World)(g:Nat)(l:List UInt8):Prop:=w.heap.size≤g∧CurAt w' g (fun k=>k<w.heap.size) l 0
def OpenOut1 (w w':World)(c:Nat)(K:Nat→Prop)(bs:List UInt8)(p:Nat)(r:Except Int (List UInt8 × Nat))(e:Ending):Prop:=
 match r with
 |.ok (y,k)=>∃ g,e=.returned (.tuple #[pt g,.int .i64 0])∧NewCur w w' g y∧CurAt w' c K bs (p+k)
 |.error x=>e=.returned (.tuple #[.pointer none,.int .i64 x])∧∃ q,p≤q∧CurAt w' c K bs q
def OpenOut (w w':World)(c:Nat)(K:Nat→Prop)(bs:List UInt8)(p:Nat)(r:Except Int (List UInt8 × Nat))(e:Ending):Prop:=
 match r with
 |.ok (y,k)=>∃ g,e=.returned (.tuple #[pt g,.int .i64 0])∧NewCur w w' g y∧CurAt w' c K bs (p+k)
 |.error x=>e=.returned (.tuple #[.pointer none,.int .i64 x])∧CurAt w' c K bs p
def nextOut (w':World)(c:Nat)(K:Nat→Prop)(bs:List UInt8)(p:Nat)(r:Except Int (Nat × Nat))(e:Ending):Prop:=
 match r with
 |.ok (m,k)=>e=.returned (.tuple #[.int .i64 m,.int .i64 0])∧CurAt w' c K bs (p+k)
 |.error x=>e=.returned (.tuple #[.int .i64 0,.int .i64 x])∧∃ q,p≤q∧CurAt w' c K bs q
def oidParseOut (w w':World)(r:Except Int (List Int))(e:Ending):Prop:=
 match r with
 |.ok o=>∃ a c,e=.returned (.tuple #[.slice a o.length c,.int .i64 0])∧w'.ownsRow w.heap.size 3 1 (.slice a o.length c) o.length (intCells o)
 |.error x=>e=.returned (.tuple #[.slice none 0 0,.int .i64 x])
def hostV (r:Option (List UInt8)):Value:=match r with|some h=>.tuple #[str h,.int .i64 0]|none=>.tuple #[str [],.int .i64 6]
def gkOut (g:Gen):List UInt8:=if genOk g then genKeyS g else []
def gkErr (g:Gen):Int:=if genOk g then 0 else 1
end Go.Proofs.YtehlipgmkinfbaaGreatDoor
