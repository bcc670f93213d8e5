/-
  Merged by program: XWh2 XR03M XR03C XHeldN XKyT.
-/
import Derived.Test.YtehlipgmkinfbaaGreatDoorN0an
import Derived.Sort.Walk0
set_option linter.unusedSimpArgs false
set_option maxRecDepth 100000
set_option maxHeartbeats 8000000
namespace Go.Q
theorem trim_at:∀ (l:List UInt8) (j:Nat),j≤l.length→(∀ i,i<j→l[i]? = some 0)→(∀ x,l[j]? = some x→x≠0)→trimS l=l.drop j
 | [],j,hj,_,_=>by
  have h0:j=0:=by simpa using hj
  subst h0;rfl
 |x::t,0,_,_,h2=>by
  have hx:=h2 x rfl;unfold trimS;simp[hx]
 |x::t,j+1,hj,h1,h2=>by
  have hx:x=0:=by have:=h1 0 (Nat.zero_lt_succ _);simpa using this
  subst hx;have:=trim_at t j (by simpa using hj) (fun i hi=>by have:=h1 (i+1) (by omega);rwa[List.getElem?_cons_succ]at this) (fun x hx=>h2 x (by rw[List.getElem?_cons_succ];exact hx));rw[List.drop_succ_cons,←this]
  conv=>lhs;unfold trimS
  simp
theorem natOf_pad (l:List UInt8):∀ k,natOf (List.replicate k 0++l)=natOf l
 |0=>rfl
 |k+1=>by
  rw[List.replicate_succ,List.cons_append]
  have:=natOf_pad l k;simp[natOf,this]
open Go
section
variable {P:Program}{ops:Array Oper}{Q:Exit→Act→World→Prop}{md:Region.Mode}{S:World→Prop}{n:Nat}
def wpAnyN (P:Program)(md:Region.Mode)(ops:Array Oper)(Q:Exit→Act→World→Prop)(S:World→Prop)(n:Nat):Nat→Array Bool→Act→World→Prop
 |0,listed,a,w=>Region.ready md ops listed=[]∧Q .normal a w
 |f+1,listed,a,w=>(Region.ready md ops listed=[]→Q .normal a w)∧
  ∀ i∈Region.ready md ops listed,wpOp P ops Q i (fun b u=>(i<n→S u)∧wpAnyN P md ops Q S n f (listed.setIfInBounds i true) b u) a w
theorem wpAny_ofN:∀ (f:Nat) (listed:Array Bool) (a:Act) (w:World),wpAnyN P md ops Q S n f listed a w→wpAny P md ops Q f listed a w
 |0,_,_,_,h=>h
 |f+1,_,_,_,h=>⟨h.1,fun i hi=>wpOp_mono (fun b u g=>wpAny_ofN f _ b u g.2) (h.2 i hi)⟩
def waitB (md:Region.Mode)(ops:Array Oper)(n i:Nat):Bool:=(ops.toList.drop n).all (fun o=>o.after.any (fun e=>Region.binds md e&&e.on==i))
theorem wait_spec {i:Nat}(h:waitB md ops n i=true){j:Nat}{o:Oper}(hj:ops[j]? = some o)(hn:n≤j):∃ e∈o.after,Region.binds md e=true∧e.on=i:=by
 have hm:o∈ops.toList.drop n:=by
  have:(ops.toList.drop n)[j-n]? = some o:=by
   rw[List.getElem?_drop,show n+(j-n)=j from by omega,Array.getElem?_toList]
   exact hj
  exact List.mem_of_getElem? this
 have:=List.all_eq_true.1 h o hm;obtain⟨e,he,hb⟩:=Array.any_eq_true'.1 this
 rw[Bool.and_eq_true,beq_iff_eq]at hb
 exact⟨e,he,hb.1,hb.2⟩
theorem wpAnyN_take1 {i:Nat}{oi:Oper}{v:Value}(hi:ops[i]? = some oi)(hsel:∀ (j:Nat) (o:Oper) cs b,ops[j]? = some o→o.op≠.select cs b)
  (hQ:∀ c a w,Q (.panic c) (a.put oi.dst v) w→Q (.panic c) a w) (hw:waitB md ops n i=true) :
  ∀ (f:Nat) (listed:Array Bool) (a:Act) (w:World),
   (∀ j oj,ops[j]? = some oj→j≠i→listed.getD j true=false→(∀ e∈oj.after,Region.binds md e=true→e.on≠i)→oi.apart ops oj=true)→
   i∈Region.ready md ops listed→YieldsIf P ops S oi v a→S w→
   wpAnyN P md ops Q S n f (listed.setIfInBounds i true) (a.put oi.dst v) w→wpAnyN P md ops Q S n (f+1) listed a w:=by
 intro f;induction f with
 |zero=>
  intro listed a w _ hr hy hS H;refine⟨fun h=>(by rw[h]at hr;cases hr),fun j hj=>?_⟩
  by_cases hji:j=i
  ·subst hji;exact hy.wpOp hi hS ⟨fun _=>hS,H⟩
  ·have:=ready_mono hj hji
   rw[H.1]at this
   cases this
 |succ f ih=>
  intro listed a w hfree hr hy hS H;refine⟨fun h=>(by rw[h]at hr;cases hr),fun j hj=>?_⟩
  by_cases hji:j=i
  ·subst hji;exact hy.wpOp hi hS ⟨fun _=>hS,H⟩
  ·have h1:=H.2 j (ready_mono hj hji)
   obtain⟨hjun,oj,hoj,hall⟩:=mem_ready.1 hj
   have hun:listed.getD i true=false:=(mem_ready.1 hr).1;have hnot:∀ e∈oj.after,Region.binds md e=true→e.on≠i:=fun e he hb heq=>by
    have g1:=hall e he hb;have g0:=hun;rw[heq]at g1
    rcases Nat.lt_or_ge i listed.size with h'|h'
    ·simp[h']at g0 g1;rw[g0]at g1;cases g1
    ·simp[Array.getElem?_eq_none h']at g1
   have hjn:j<n:=by
    rcases Nat.lt_or_ge j n with q|q
    ·exact q
    ·obtain⟨e,he,hb,hon⟩:=wait_spec hw hoj q
     exact absurd hon (hnot e he hb)
   have h2:=wpOp_putIf hoj (hfree j oj hoj hji hjun hnot) (fun cs b=>hsel i oi cs b hi) (fun cs b=>hsel j oj cs b hoj) hQ hy h1;have hfree':∀ k ok,ops[k]? = some ok→k≠i→(listed.setIfInBounds j true).getD k true=false→(∀ e∈ok.after,Region.binds md e=true→e.on≠i)→oi.apart ops ok=true:=fun k ok hk hki hu hno=>by
    refine hfree k ok hk hki ?_ hno;by_cases hjk:j=k
    ·subst hjk;exact hjun
    ·rw[getD_set_ne true hjk]at hu;exact hu
   refine wpOp_mono (fun b u g=>⟨g.2.1,ih (listed.setIfInBounds j true) b u hfree' (ready_mono hr (Ne.symm hji)) g.1 (g.2.1 hjn) ?_⟩) h2;rw[Array.setIfInBounds_comm _ _ hji]
   exact g.2.2
theorem wpAnyN_take {i:Nat}{oi:Oper}{v:Value}{f:Nat}{listed:Array Bool}{a:Act}{w:World}(hi:ops[i]? = some oi)
  (hs:Region.noSelect ops=true) (hf:Region.free md ops listed i=true) (hr:(Region.ready md ops listed).contains i=true) (hw:waitB md ops n i=true)
  (hQ:∀ c a w,Q (.panic c) (a.put oi.dst v) w→Q (.panic c) a w) (hy:YieldsIf P ops S oi v a) (hS:S w)
  (h:wpAnyN P md ops Q S n f (listed.setIfInBounds i true) (a.put oi.dst v) w):wpAnyN P md ops Q S n (f+1) listed a w:=
 wpAnyN_take1 hi (Region.noSelect_spec hs) hQ hw f listed a w (Region.free_spec hi hf) (by simpa using hr) hy hS h
theorem tkN (i:Nat){oi:Oper}{v:Value}{f:Nat}{listed:Array Bool}{a:Act}{w:World}(hi:ops[i]? = some oi)(hS:S w)(h:wpAnyN P md ops Q S n f (listed.setIfInBounds i true) (a.put oi.dst v) w)(hy:YieldsIf P ops S oi v a:=by exact Or.inl ⟨by rfl,by intro W hSw;(try dsimp only at hSw);go_simp;try with_reducible rfl⟩)(hs:Region.noSelect ops=true:=by kernel_rfl)(hf:Region.free md ops listed i=true:=by kernel_rfl)(hr:(Region.ready md ops listed).contains i=true:=by kernel_rfl)(hw:waitB md ops n i=true:=by kernel_rfl)(hQ:∀ c a w,Q (.panic c) (a.put oi.dst v) w→Q (.panic c) a w:=by exact fun _ _ _ h=>h):wpAnyN P md ops Q S n (f+1) listed a w:=wpAnyN_take hi hs hf hr hw hQ hy hS h
theorem tkG (i:Nat){oi:Oper}{v:Value}{f:Nat}{listed:Array Bool}{a:Act}{w:World}(hi:ops[i]? = some oi)(hS:S w)(h:wpAnyN P md ops Q S n f (listed.setIfInBounds i true) (a.put oi.dst v) w)(hy:YieldsIf P ops S oi v a:=by exact Or.inl ⟨by kernel_rfl,by intro W hSw;(try dsimp only at hSw);go_simp;try with_reducible rfl⟩)(hs:Region.noSelect ops=true:=by kernel_rfl)(hf:Region.free md ops listed i=true:=by kernel_rfl)(hr:(Region.ready md ops listed).contains i=true:=by kernel_rfl)(hw:waitB md ops n i=true:=by kernel_rfl)(hQ:∀ c a w,Q (.panic c) (a.put oi.dst v) w→Q (.panic c) a w:=by exact fun _ _ _ h=>h):wpAnyN P md ops Q S n (f+1) listed a w:=wpAnyN_take hi hs hf hr hw hQ hy hS h
theorem tkS (i:Nat){oi:Oper}{f:Nat}{listed:Array Bool}{a:Act}{w:World}(hi:ops[i]? = some oi)(hS:S w)(h:wpAnyN P md ops Q S n f (listed.setIfInBounds i true) (a.put oi.dst undef) w)(hy:YieldsIf P ops S oi undef a:=by exact Or.inr ⟨by kernel_rfl,rfl⟩)(hs:Region.noSelect ops=true:=by kernel_rfl)(hf:Region.free md ops listed i=true:=by kernel_rfl)(hr:(Region.ready md ops listed).contains i=true:=by kernel_rfl)(hw:waitB md ops n i=true:=by kernel_rfl)(hQ:∀ c a w,Q (.panic c) (a.put oi.dst undef) w→Q (.panic c) a w:=by exact fun _ _ _ h=>h):wpAnyN P md ops Q S n (f+1) listed a w:=wpAnyN_take hi hs hf hr hw hQ hy hS h
theorem wpAnyN_step {i:Nat}{o:Oper}{f:Nat}{listed:Array Bool}{a:Act}{w:World}(hr:Region.ready md ops listed=[i])(ho:ops[i]? = some o)
  (h:∀ K:Act→World→Prop,Shut (∀ a w,S w→(S w→wpAnyN P md ops Q S n f (listed.setIfInBounds i true) a w)→K a w)→if Region.wanted o (yielded ops a.tmps)=true then Oper.wp P o a w K Q else K (a.put o.dst undef) w):wpAnyN P md ops Q S n (f+1) listed a w:=by
 refine⟨fun e=>(by rw[e]at hr;cases hr),fun j hj=>?_⟩
 rw[hr,List.mem_singleton]at hj
 subst hj;exact wpOp_step ho (fun K hK=>h K (fun a w hS hW=>hK a w ⟨fun _=>hS,hW hS⟩))
theorem wpAnyN_last {i:Nat}{o:Oper}{f:Nat}{listed:Array Bool}{a:Act}{w:World}(hr:Region.ready md ops listed=[i])(hn:n≤i)(ho:ops[i]? = some o)
  (h:∀ K:Act→World→Prop,Shut (∀ a w,wpAnyN P md ops Q S n f (listed.setIfInBounds i true) a w→K a w)→if Region.wanted o (yielded ops a.tmps)=true then Oper.wp P o a w K Q else K (a.put o.dst undef) w):wpAnyN P md ops Q S n (f+1) listed a w:=by
 refine⟨fun e=>(by rw[e]at hr;cases hr),fun j hj=>?_⟩
 rw[hr,List.mem_singleton]at hj
 subst hj;exact wpOp_step ho (fun K hK=>h K (fun a w hW=>hK a w ⟨fun q=>absurd q (by omega),hW⟩))
theorem wpAnyN_done {listed:Array Bool}{a:Act}{w:World}(hr:Region.ready md ops listed=[])(h:Q .normal a w):∀ f,wpAnyN P md ops Q S n f listed a w
 |0=>⟨hr,h⟩
 |_+1=>⟨fun _=>h,by rw[hr];simp⟩
theorem wp_region_N (n:Nat){id:Nat}{a:Act}{w:World}(hm:P.follows .mixedOrders=true)(hS:S w.drew)
  (h:S w.drew→wpAnyN P .any ops Q S n ops.size (Array.replicate ops.size false) a w.drew):(Code.region id ops true).wp P Q a w:=
 wp_region_any hm (wpAny_ofN _ _ _ _ (h hS))
end
theorem behind_eq (o:Option Key1)(p:Key1):behindB o p=(!o.isSome||decide (o.getD []<p)):=by cases o<;>rfl
theorem better_eq (o:Option Key1)(p:Key1):betterB o p=(!o.isSome||decide (p<o.getD [])):=by cases o<;>rfl
theorem partKeys_snoc {r:List Part}{k:Nat}{p:Part}(h:r[k]? = some p):partKeys (r.take (k+1))=partKeys (r.take k)++[attrKeyS p.o p.b]:=by
 unfold partKeys;rw[List.take_add_one,h]
 simp
theorem keysS_len (r:List Part):(keysS r).length≤r.length:=by
 have hcl:=Lib.compact_length_le (sortS (partKeys r));have hsl:(sortS (partKeys r)).length=r.length:=by simp[sortS,partKeys]
 unfold keysS;omega
theorem keysS_mem {r:List Part}{x:Key1}(h:x∈keysS r):∃ p∈r,x=attrKeyS p.o p.b:=by
 have h3:=sort_mem (compact_mem h);obtain⟨p,hp,rfl⟩:=List.mem_map.1 h3
 exact⟨p,hp,rfl⟩
theorem lastOf_isSome {D:List Key1}{c:Nat}(hc:c≤D.length):(lastOf D c).isSome=decide (c≠0):=by
 unfold lastOf;by_cases h0:c=0
 ·rw[if_pos h0,decide_eq_false (fun h=>h h0)]
  rfl
 ·rw[if_neg h0,decide_eq_true h0,List.getElem?_eq_getElem (by omega)]
  rfl
theorem lastOf_succ {D:List Key1}{c:Nat}:lastOf D (c+1)=D[c]?:=by
 unfold lastOf;rw[if_neg (Nat.succ_ne_zero c),Nat.add_sub_cancel]
theorem joinF_len (c:UInt8)(M N:Nat){ks:List Key1}(h:∀ k∈ks,k.length≤M)(hn:ks.length≤N)(j:Nat):(Lib.join (ks.take j) [c]).length≤N*(M+1):=by
 have:=join_len c M (ks.take j) (fun k hk=>h k (List.mem_of_mem_take hk));have h2:(ks.take j).length*(M+1)≤N*(M+1):=Nat.mul_le_mul_right _ (by rw[List.length_take];omega);omega
theorem less_of {x y:Key1}:Op.bytesLess x y=decide (x<y):=Go.Proofs.bytesLess_eq x y
theorem greater_of (x y:Key1):(!(Op.bytesLess x y||x==y))=decide (y<x):=by
 rw[less_of]
 by_cases h:y<x
 ·rw[decide_eq_true h]
  have h1:¬x<y:=fun h2=>absurd (Std.lt_trans h h2) (Std.lt_irrefl)
  have h2:x≠y:=fun e=>absurd (e▸h) (Std.lt_irrefl)
  rw[decide_eq_false h1,Bool.false_or]
  simpa using h2
 ·rw[decide_eq_false h]
  rcases Classical.em (x=y) with rfl|hne
  ·simp
  ·have:=k_lt_of (Std.not_lt.1 h) hne
   rw[decide_eq_true this]
   rfl
end Go.Q
namespace Go.Proofs.YtehlipgmkinfbaaGreatDoor
open Go Go.RowKit Go.Q
theorem wMade_as (b:Bool)(v:Value)(l:List UInt8)(x:NumT)(hx:x=madeS ⟨b,l⟩)(w:World)(h:Bytes w v l)(hl:l.length≤10000000000) :
  Calls Tryz.prog 73 #[.bool b,v] w fun e w'=>(∃ a c,e=.returned (.agg #[.bool x.below,.slice a x.size.length c])∧Kept (fun W=>Bytes W (.slice a x.size.length c) x.size) (fun k=>k<w.heap.size) w')∧Fz w w':=by
 subst hx;exact wMade_any b v l w h hl
theorem wCompare_any (b1 b2:Bool)(v u:Value)(s1 s2:List UInt8)(w:World)(h:Bytes w v s1)(hu:Bytes w u s2)(h1:s1.length≤10000000000)(h2:s2.length≤10000000000) :
  Calls Tryz.prog 70 #[.agg #[.bool b1,v],.agg #[.bool b2,u]] w fun e w'=>e=.returned (.int .i64 (numC ⟨b1,s1⟩ ⟨b2,s2⟩))∧Fz w w':=by
 rw[numC_made]
 obtain⟨x,hx⟩:∃ x,x=madeS ⟨b1,s1⟩:=⟨_,rfl⟩
 obtain⟨y,hy⟩:∃ y,y=madeS ⟨b2,s2⟩:=⟨_,rfl⟩
 rw[←hx,←hy]
 have hxl:x.size.length≤10000000000:=by rw[hx];have:=trimS_le s1;show (trimS s1).length≤_;omega
 have hyl:y.size.length≤10000000000:=by rw[hy];have:=trimS_le s2;show (trimS s2).length≤_;omega
 obtain⟨r,hr⟩:∃ r,r=(if x.below&&!y.below then (-1:Int) else if !x.below&&y.below then 1 else if x.below then sizesS y.size x.size else sizesS x.size y.size):=⟨_,rfl⟩
 have HR:=Hi hr;rw[←hr]
 clear hr;obtain⟨a1,c1,rfl,-⟩:=h.form
 obtain⟨a2,c2,rfl,-⟩:=hu.form
 obtain⟨z,hz⟩:∃ z,z=w.heap.size:=⟨_,rfl⟩
 have HZ:=Hi hz;have F0:Fz w ((w.alloc (.cells #[.bool b1,.slice a1 s1.length c1] 40)).alloc (.cells #[.bool b2,.slice a2 s2.length c2] 40)):=((Fr.refl w).alloc _).alloc _;have BA:=(Blk.new w 40 #[.bool b1,.slice a1 s1.length c1]).alloc (.cells #[.bool b2,.slice a2 s2.length c2] 40);have BB:=Blk.new (w.alloc (.cells #[.bool b1,.slice a1 s1.length c1] 40)) 40 #[.bool b2,.slice a2 s2.length c2];rw[World.size_alloc,←hz]at BB
 rw[←hz]at BA
 have HM1:=Hi (fun W (F:Fz ((w.alloc (.cells #[.bool b1,.slice a1 s1.length c1] 40)).alloc (.cells #[.bool b2,.slice a2 s2.length c2] 40)) W)=>wMade_as b1 _ s1 x hx W ((h.old F0).old F) h1);have HM2:=Hi (fun W (F:Fz ((w.alloc (.cells #[.bool b1,.slice a1 s1.length c1] 40)).alloc (.cells #[.bool b2,.slice a2 s2.length c2] 40)) W)=>wMade_as b2 _ s2 y hy W ((hu.old F0).old F) h2);have HS0:=Hi (show ((w.alloc (.cells #[.bool b1,.slice a1 s1.length c1] 40)).alloc (.cells #[.bool b2,.slice a2 s2.length c2] 40)).heap.size=z+2 from by rw[World.size_alloc,World.size_alloc,hz]);have HF0:=Hi F0
 clear h hu hz F0 hx hy;go_enter Tryz.func70,Tryz.ntmps70
 go_upto_region 1 with fail
 rw[←HZ.out]
 generalize ((w.alloc (.cells #[.bool b1,.slice a1 s1.length c1] 40)).alloc (.cells #[.bool b2,.slice a2 s2.length c2] 40))=w0 at *
 replace BA:=BA.drew;replace BB:=BB.drew;have G:Fz w0 w0.drew:=(Fr.refl w0).drew;refine wp_region_2 10 11 (C1:=fun w'=>∀ j,w'.cell? ⟨z,j,none⟩=(#[.bool b1,.slice a1 s1.length c1]:Array Value)[j]?) (C2:=fun w'=>∀ j,w'.cell? ⟨z+1,j,none⟩=(#[.bool b2,.slice a2 s2.length c2]:Array Value)[j]?) (by kernel_rfl) (BA.cell) (BB.cell) (fun hTwo=>?_);refine wpAny2_takeA (i:=0) (oi:=_) (v:=?_) rfl (by kernel_rfl) (by kernel_rfl) (by kernel_rfl) (by kernel_rfl) (by decide) (by kernel_rfl) (fun _ _ _ h=>h) (Or.inl ⟨by rfl,?_⟩) (by assumption) (fun hT2=>?_);rotate_left
 ·(intro W hSw;(try dsimp only at hSw);go_simp;try with_reducible rfl)
 replace hTwo:=hT2;clear hT2;(try simp only[Act.put,SS]);refine wpAny2_takeA (i:=1) (oi:=_) (v:=?_) rfl (by kernel_rfl) (by kernel_rfl) (by kernel_rfl) (by kernel_rfl) (by decide) (by kernel_rfl) (fun _ _ _ h=>h) (Or.inl ⟨by rfl,?_⟩) (by assumption) (fun hT2=>?_);rotate_left
 ·(intro W hSw;(try dsimp only at hSw);go_simp;try with_reducible rfl)
 replace hTwo:=hT2;clear hT2;(try simp only[Act.put,SS]);refine wpAny2_takeA (i:=2) (oi:=_) (v:=?_) rfl (by kernel_rfl) (by kernel_rfl) (by kernel_rfl) (by kernel_rfl) (by decide) (by kernel_rfl) (fun _ _ _ h=>h) (Or.inl ⟨by rfl,?_⟩) (by assumption) (fun hT2=>?_);rotate_left
 ·(intro W hSw;(try dsimp only at hSw);go_simp;try with_reducible rfl)
 replace hTwo:=hT2;clear hT2;(try simp only[Act.put,SS]);refine wpAny2_takeA (i:=3) (oi:=_) (v:=?_) rfl (by kernel_rfl) (by kernel_rfl) (by kernel_rfl) (by kernel_rfl) (by decide) (by kernel_rfl) (fun _ _ _ h=>h) (Or.inl ⟨by rfl,?_⟩) (by assumption) (fun hT2=>?_);rotate_left
 ·(intro W hSw;(try dsimp only at hSw);go_simp;try with_reducible rfl)
 replace hTwo:=hT2;clear hT2;(try simp only[Act.put,SS]);refine wpAny2_takeB (i:=5) (oi:=_) (v:=?_) rfl (by kernel_rfl) (by kernel_rfl) (by kernel_rfl) (by kernel_rfl) (by decide) (by kernel_rfl) (fun _ _ _ h=>h) (Or.inl ⟨by rfl,?_⟩) (by assumption) (fun hT2=>?_);rotate_left
 ·(intro W hSw;(try dsimp only at hSw);go_simp;try with_reducible rfl)
 replace hTwo:=hT2;clear hT2;(try simp only[Act.put,SS]);refine wpAny2_takeB (i:=6) (oi:=_) (v:=?_) rfl (by kernel_rfl) (by kernel_rfl) (by kernel_rfl) (by kernel_rfl) (by decide) (by kernel_rfl) (fun _ _ _ h=>h) (Or.inl ⟨by rfl,?_⟩) (by assumption) (fun hT2=>?_);rotate_left
 ·(intro W hSw;(try dsimp only at hSw);go_simp;try with_reducible rfl)
 replace hTwo:=hT2;clear hT2;(try simp only[Act.put,SS]);refine wpAny2_takeB (i:=7) (oi:=_) (v:=?_) rfl (by kernel_rfl) (by kernel_rfl) (by kernel_rfl) (by kernel_rfl) (by decide) (by kernel_rfl) (fun _ _ _ h=>h) (Or.inl ⟨by rfl,?_⟩) (by assumption) (fun hT2=>?_);rotate_left
 ·(intro W hSw;(try dsimp only at hSw);go_simp;try with_reducible rfl)
 replace hTwo:=hT2;clear hT2;(try simp only[Act.put,SS]);refine wpAny2_takeB (i:=8) (oi:=_) (v:=?_) rfl (by kernel_rfl) (by kernel_rfl) (by kernel_rfl) (by kernel_rfl) (by decide) (by kernel_rfl) (fun _ _ _ h=>h) (Or.inl ⟨by rfl,?_⟩) (by assumption) (fun hT2=>?_);rotate_left
 ·(intro W hSw;(try dsimp only at hSw);go_simp;try with_reducible rfl)
 replace hTwo:=hT2;clear hT2;(try simp only[Act.put,SS]);refine wpAny2_ready (rs:=[4]) (by kernel_rfl) (by simp) ?_;refine All2.cons (o:=_) rfl (fun KK hKK=>?_) All2.nil;go_simp
 (go_at_call 73;(with_reducible refine(HM1.out _ G).mono ?_);rintro e w' ⟨⟨p1,q1,rfl,hk1⟩,F⟩;have hsz:=G.size;replace BA:=BA.fr F (fun h=>h);replace BB:=BB.fr F (fun h=>h);replace G:=G.trans F;clear F HM1;go_wp2_with fail)
 refine hKK.out _ _ ?_ (fun hT2=>?_)
 ·exact⟨fun _=>BA.cell,fun _=>BB.cell⟩
 clear hKK KK;replace hTwo:=hT2;clear hT2;(try simp only[Act.put,SS]);refine wpAny2_ready (rs:=[9]) (by kernel_rfl) (by simp) ?_;refine All2.cons (o:=_) rfl (fun KK hKK=>?_) All2.nil;go_simp
 (go_at_call 73;(with_reducible refine(HM2.out _ G).mono ?_);rintro e w' ⟨⟨p2,q2,rfl,hk2⟩,F⟩;have hsz2:=G.size;replace BA:=BA.fr F (fun h=>h);replace BB:=BB.fr F (fun h=>h);replace hk1:=hk1.old F;replace G:=G.trans F;clear F HM2;go_wp2_with fail)
 refine hKK.out _ _ ?_ (fun hT2=>?_)
 ·exact⟨fun _=>BA.cell,fun _=>BB.cell⟩
 clear hKK KK;replace hTwo:=hT2;clear hT2;(try simp only[Act.put,SS]);have X1:=set2 BA (.bool x.below) (.slice p1 x.size.length q1);have Y0:=BB.fr X1.2 (by omega);have Y1:=set2 Y0 (.bool y.below) (.slice p2 y.size.length q2);have X2:=X1.1.fr Y1.2 (by omega);have d0:=BA.cell 0;have d1:=BA.cell 1;have f0:=BA.frozen 0;have f1:=BA.frozen 1;have e0:=Y0.cell 0;have e1:=Y0.cell 1;have g0:=Y0.frozen 0;have g1:=Y0.frozen 1;simp only[SG]at d0 d1 e0 e1
 refine wpAny2_ready (rs:=[10]) (by kernel_rfl) (by simp) ?_;refine All2.cons (o:=_) rfl (fun KK hKK=>?_) All2.nil;go_simp
 skip
 refine hKK.out _ _ ?_ (fun hT2=>?_)
 ·exact⟨(fun h=>absurd (h.symm.trans (by kernel_rfl:_=true)) (by decide)),fun _=>Y0.cell⟩
 clear hKK KK;replace hTwo:=hT2;clear hT2;(try simp only[Act.put,SS]);refine wpAny2_ready (rs:=[11]) (by kernel_rfl) (by simp) ?_;refine All2.cons (o:=_) rfl (fun KK hKK=>?_) All2.nil;go_simp
 skip
 refine hKK.out _ _ ?_ (fun hT2=>?_)
 ·exact⟨(fun h=>absurd (h.symm.trans (by kernel_rfl:_=true)) (by decide)),(fun h=>absurd (h.symm.trans (by kernel_rfl:_=true)) (by decide))⟩
 clear hKK KK;replace hTwo:=hT2;clear hT2;(try simp only[Act.put,SS]);refine wpAny2_done (by kernel_rfl) ?_ _;have hsd:w0.drew.heap.size=w0.heap.size:=rfl;obtain⟨w3,hw3⟩:∃ w3,w3=((((w'.setCell ⟨z,0,none⟩ (.bool x.below)).setCell ⟨z,1,none⟩ (.slice p1 x.size.length q1)).setCell ⟨z+1,0,none⟩ (.bool y.below)).setCell ⟨z+1,1,none⟩ (.slice p2 y.size.length q2)):=⟨_,rfl⟩
 have F3:Fr (fun k=>k=z∨k=z+1) w' w3:=by rw[hw3];exact(X1.2.mono (fun k _ e=>.inl e)).trans (Y1.2.mono (fun k _ e=>.inr e))
 have hb1:=hk1 w3 (F3.mono (fun k _ e=>by have:=HS0.out;omega));have hb2:=hk2 w3 (F3.mono (fun k _ e=>by have:=HS0.out;omega));have HF3:=Hi ((HF0.out.trans G).trans' F3 (fun i hi e=>by have:=HZ.out;omega));rw[←hw3]at X2
 have Y3:=Y1.1;rw[←hw3]at Y3
 rw[←hw3]
 have HC1:=Hi (wSizes_any _ _ x.size y.size w3 hb1 hb2 (by omega) (by omega));have HC2:=Hi (wSizes_any _ _ y.size x.size w3 hb2 hb1 (by omega) (by omega));clear d0 d1 f0 f1 e0 e1 g0 g1 hTwo X1 Y0 Y1 hk1 hk2 hb1 hb2 F3 hw3 BA BB G hsz hsz2;try clear hTwo
 have d0:=X2.cell 0;have d1:=X2.cell 1;have e0:=Y3.cell 0;have e1:=Y3.cell 1;simp only[SG]at d0 d1 e0 e1
 obtain⟨p,hp⟩:∃ p,p=x.below:=⟨_,rfl⟩
 obtain⟨q,hq⟩:∃ q,q=y.below:=⟨_,rfl⟩
 rw[←hp]at d0 HR
 rw[←hq]at e0 HR
 clear hp hq X2 Y3 hxl hyl;cases p with
 |false=>
  cases q with
  |false=>
   go_wp2_with fail
   refine HC1.out.mono ?_;rintro e w4 ⟨rfl,F4⟩;clear d0 d1 e0 e1;go_wp2_with fail
   go_ret;exact⟨by rw[HR.out];rfl,HF3.out.trans F4⟩
  |true=>
   go_wp2_with fail
   go_ret;exact⟨by rw[HR.out];rfl,HF3.out⟩
 |true=>
  cases q with
  |false=>
   go_wp2_with fail
   go_ret;exact⟨by rw[HR.out];rfl,HF3.out⟩
  |true=>
   go_wp2_with fail
   refine HC2.out.mono ?_;rintro e w4 ⟨rfl,F4⟩;clear d0 d1 e0 e1;go_wp2_with fail
   go_ret;exact⟨by rw[HR.out];rfl,HF3.out.trans F4⟩
theorem r03MadeG_any (b:Bool)(v:Value)(l:List UInt8)(w:World)(h:Bytes w v l)(hl:l.length≤1000000) :
  Calls Tryz.prog 78 #[.agg #[.bool b,v]] w fun e w'=>(∃ a c,e=.returned (.agg #[.bool (madeS ⟨b,l⟩).below,.slice a (trimS l).length c])∧Kept (fun W=>Bytes W (.slice a (trimS l).length c) (trimS l)) (fun k=>k<w.heap.size) w')∧Fz w w':=by
 obtain⟨a,cap,rfl,hcap,hcm,hx⟩:=h.form
 obtain⟨z,hz⟩:∃ z,z=w.heap.size:=⟨_,rfl⟩
 have HZ:=Hi hz;have F0:Fz w ((w.alloc (.cells #[.bool b,.slice a l.length cap] 54)).alloc (.cells #[.bool false,.slice none 0 0] 54)):=((Fr.refl w).alloc _).alloc _;have BA:=(Blk.new w 54 #[.bool b,.slice a l.length cap]).alloc (.cells #[.bool false,.slice none 0 0] 54);have BR:=Blk.new (w.alloc (.cells #[.bool b,.slice a l.length cap] 54)) 54 #[.bool false,.slice none 0 0];rw[World.size_alloc,←hz]at BR
 rw[←hz]at BA
 have hs0:((w.alloc (.cells #[.bool b,.slice a l.length cap] 54)).alloc (.cells #[.bool false,.slice none 0 0] 54)).heap.size=z+2:=by rw[World.size_alloc,World.size_alloc,hz]
 have HS0:=Hi hs0;have HF0:=Hi F0;have HB:=Hi (h.old F0);have HBA:=Hi BA;have HBR:=Hi BR;have HX:=Hi hx;clear h hz F0 hs0 BA BR hx;go_enter Tryz.func78,Tryz.ntmps78
 go_upto_region 1 with fail
 rw[←HZ.out]
 generalize ((w.alloc (.cells #[.bool b,.slice a l.length cap] 54)).alloc (.cells #[.bool false,.slice none 0 0] 54))=w0 at *
 have x0:=HBA.out.cell 0;have x1:=HBA.out.cell 1;simp only[SG]at x0 x1
 go_wp2_with fail
 go_loopg [3] l.length (fun g i wr=>∃ j:Nat,g=l.length-j∧j≤l.length∧i=.int .i64 j∧Hid (∀ i,i<j→l[i]? = some 0)∧wr=w0)
 case atStart=>exact⟨0,rfl,Nat.zero_le _,rfl,Hi (fun i hi=>absurd hi (Nat.not_lt_zero _)),rfl⟩
 case round=>
  obtain⟨j,hg,hj,rfl,HJ,rfl⟩:=hrel
  have HG:=Hi hg;clear hg;have hj1:(0:Int)≤(j:Int):=by omega
  have hj2:(j:Int)≤(l.length:Int):=by omega
  by_cases hjl:j<l.length
  ·obtain⟨x,hx⟩:∃ x,l[j]? = some x:=⟨_,List.getElem?_eq_getElem hjl⟩
   obtain⟨bb,o,rfl,hcell⟩:=HX.out (by omega)
   have e1:=HF0.out.cell (hcell j x hx) (fun h=>h);have q1:(j:Int)<(l.length:Int):=by omega
   by_cases h0:x=0
   ·have q2:((x.toNat:Int)==0)=true:=by rw[h0];rfl
    have HJ2:=Hi (show ∀ i,i<j+1→l[i]? = some 0 from fun i hi=>by
     rcases Nat.lt_or_ge i j with h|h
     ·exact HJ.out i h
     ·obtain rfl:i=j:=by omega
      rw[hx,h0])
    clear hx hcell h0;go_wp2_with fail
    go_roundg (l.length-(j+1))
    case measure=>rw[HG.out];omega
    case rel=>exact⟨j+1,rfl,by omega,by go_num,HJ2,rfl⟩
   ·have hx0:x.toNat≠0:=fun e=>h0 (UInt8.toNat_inj.1 e)
    have q2:((x.toNat:Int)==0)=false:=beq_eq_false_iff_ne.2 (by omega);have HT:=Hi (trim_at l j hj HJ.out (fun y hy=>by rw[hx]at hy;obtain rfl:=Option.some.inj hy;exact h0));clear hx hcell h0 hx0;obtain⟨A,hsl,hbr⟩:=bytes_rest HB.out j hj
    have FA:Fz wr (wr.alloc (.cells #[] 5)):=(Fr.refl wr).alloc _;have BG:=Blk.new wr 5 #[];have xa:=(HBA.out.alloc (.cells #[] 5)).cell 1;simp only[SG]at xa
    obtain⟨v5,w5,hrun,hown,F5,hat⟩:=append_bytes (w:=wr.alloc (.cells #[] 5)) (base:=wr.heap.size) (n:=0) (v:=.slice (some ⟨wr.heap.size,0,none⟩) 0 0) (xs:=[]) ⟨rfl,.inr ⟨wr.heap.size,0,#[],rfl,Nat.le_refl _,BG,Nat.le_refl _,by unfold maxLen;omega,rfl,rfl⟩⟩ A (l.length-j) (cap-j) (l.drop j) (hbr _ (HB.out.old FA)) (by omega) (by rw[World.size_alloc];omega)
    obtain⟨a7,m7,c7,rfl,hm7⟩:=own_shape hown
    have F15:Fz wr w5:=FA.trans' F5 (fun i hi e=>by simp only[Value.ownBlock,Option.some.injEq]at e;omega);simp only[List.nil_append]at hown
    obtain⟨s,hs⟩:∃ s,s=trimS l:=⟨_,rfl⟩
    have hsd:s=l.drop j:=by rw[hs];exact HT.out
    rw[←hsd]at hown
    have hsl2:s.length=m7:=by have:=hown.1;rw[byteCells_len]at this;omega
    have HRUN:=Hi hrun;have HOW:=Hi hown;have HF15:=Hi F15;have HSL:=Hi hsl2;have HSS:=Hi hs;have HMB:=Hi (show (madeS ⟨b,l⟩).below=(b&&decide (0<m7)) from by rw[←hsl2,hs];rfl);clear FA BG hrun hown F5 hat F15 hbr hsd hsl2 hs hm7;go_upto_region 5 with (at_builtin;refine wpList_append_run (by rfl) (.tmp 20) (.tmp 24) 38 (by rfl) _ w5 (by exact HRUN.out) ?_)
    obtain⟨y,hy⟩:∃ y,y=w5.heap.size:=⟨_,rfl⟩
    have HYY:=Hi hy;have BY:=Blk.new w5 54 #[.bool false,.slice a7 m7 c7];rw[←hy]at BY
    have hw5:=HF15.out.size;have hk5:Kept (fun W=>Bytes W (.slice a7 m7 c7) s) (fun k=>k<wr.heap.size∨w5.heap.size≤k) w5:=fun W f=>by have:=(Vals.of_own (ownsRow_fr HOW.out f (fun k hk e=>by have:=HOW.out.lt k hk;omega))).1;exact this
    have FY:Fz w5 (w5.alloc (.cells #[.bool false,.slice a7 m7 c7] 54)):=(Fr.refl w5).alloc _;have hk6:=hk5.old FY;have D6:=(HBR.out.fr HF15.out (fun h=>h)).fr FY (fun h=>h);have A6:=(HBA.out.fr HF15.out (fun h=>h)).fr FY (fun h=>h);have HF6:=Hi ((HF0.out.trans HF15.out).trans FY);have hzz:=HZ.out;have hss:=HS0.out;clear hy FY hk5 x0 x1 xa;rw[←HYY.out]
    generalize (w5.alloc (.cells #[.bool false,.slice a7 m7 c7] 54))=w6 at *
    have key:∀ cc:Bool,Blk (((w6.setCell ⟨y,0,none⟩ (.bool cc)).setCell ⟨z+1,0,none⟩ (.bool cc)).setCell ⟨z+1,1,none⟩ (.slice a7 m7 c7)) (z+1) 54 #[.bool cc,.slice a7 m7 c7]∧Kept (fun W=>Bytes W (.slice a7 m7 c7) s) (fun k=>k<w.heap.size) (((w6.setCell ⟨y,0,none⟩ (.bool cc)).setCell ⟨z+1,0,none⟩ (.bool cc)).setCell ⟨z+1,1,none⟩ (.slice a7 m7 c7))∧Fz w (((w6.setCell ⟨y,0,none⟩ (.bool cc)).setCell ⟨z+1,0,none⟩ (.bool cc)).setCell ⟨z+1,1,none⟩ (.slice a7 m7 c7))∧Blk (w6.setCell ⟨y,0,none⟩ (.bool cc)) y 54 #[.bool cc,.slice a7 m7 c7]∧Blk (w6.setCell ⟨y,0,none⟩ (.bool cc)) (z+1) 54 #[.bool false,.slice none 0 0]:=fun cc=>by
     have hyy:=HYY.out;have E1:=Fr.setCell (S:=fun k=>k=y) (p:=⟨y,0,none⟩) (Fr.refl w6) (fun _=>rfl) (.bool cc);have D7:=D6.fr E1 (by omega);have D8:=set2 D7 (.bool cc) (.slice a7 m7 c7);refine⟨D8.1,(hk6.step E1 (K':=fun k=>k<wr.heap.size∨w5.heap.size≤k) (fun k _ e=>.inr (by have e2:k=y:=e;omega)) (fun k hk=>.inl hk)).step D8.2 (fun k hk e=>.inl (by omega)) (fun k hk=>.inl (.inl (by omega))),(HF6.out.trans' E1 (fun i hi e=>by have e2:i=y:=e;omega)).trans' D8.2 (fun i hi e=>by omega),BY.set 0 _,D7⟩
    have HKEY:=Hi key;have y0:=BY.cell 0;have y1:=BY.cell 1;have fy:=BY.frozen 0;have a0:=A6.cell 0;simp only[SG]at y0 y1 a0
    clear key hk6 D6 A6 BY HRUN hzz hss hw5;cases hb0:b with
    |false=>
     rw[hb0]at a0
     have HB0:=Hi hb0;clear hb0;obtain⟨R1,R2,R3,R4,R5⟩:=HKEY.out false
     have m0:=R4.cell 0;have m1:=R4.cell 1;have d0:=R5.cell 0;have d1:=R5.cell 1;have g0:=R5.frozen 0;have g1:=R5.frozen 1;have n0:=R1.cell 0;have n1:=R1.cell 1;simp only[SG]at m0 m1 d0 d1 n0 n1
     have HR2:=Hi R2;have HR3:=Hi R3;clear R1 R2 R3 R4 R5;go_wp2_with fail
     refine bodyPost_ret (v:=.agg #[.bool false,.slice a7 m7 c7]) (by simp[results,Tryz.results78,go_sem,n0,n1]) rfl ⟨⟨a7,c7,?_,?_⟩,HR3.out⟩
     ·rw[HMB.out,←HSS.out,HSL.out,HB0.out];first|rfl|(simp[HM0.out];done)|(simp;done)
     ·rw[←HSS.out,HSL.out];exact HR2.out
    |true=>
     rw[hb0]at a0
     have HB0:=Hi hb0;rcases Nat.eq_zero_or_pos m7 with hm0|hm0
     ·skip
      have e1:¬(0:Int)<(m7:Int):=by omega
      have e2:¬0<m7:=by omega
      have e3:decide (0<m7)=false:=decide_eq_false e2;have HM0:=Hi hm0;clear hm0 hb0;obtain⟨R1,R2,R3,R4,R5⟩:=HKEY.out false
      have m0:=R4.cell 0;have m1:=R4.cell 1;have d0:=R5.cell 0;have d1:=R5.cell 1;have g0:=R5.frozen 0;have g1:=R5.frozen 1;have n0:=R1.cell 0;have n1:=R1.cell 1;simp only[SG]at m0 m1 d0 d1 n0 n1
      have HR2:=Hi R2;have HR3:=Hi R3;clear R1 R2 R3 R4 R5;go_wp2_with fail
      refine bodyPost_ret (v:=.agg #[.bool false,.slice a7 m7 c7]) (by simp[results,Tryz.results78,go_sem,n0,n1]) rfl ⟨⟨a7,c7,?_,?_⟩,HR3.out⟩
      ·rw[HMB.out,←HSS.out,HSL.out,HB0.out];first|rfl|(simp[HM0.out];done)|(simp;done)
      ·rw[←HSS.out,HSL.out];exact HR2.out
     ·skip
      have e1:(0:Int)<(m7:Int):=by omega
      have e2:0<m7:=hm0;have e3:decide (0<m7)=true:=decide_eq_true hm0;have HM0:=Hi hm0;clear hm0 hb0;obtain⟨R1,R2,R3,R4,R5⟩:=HKEY.out true
      have m0:=R4.cell 0;have m1:=R4.cell 1;have d0:=R5.cell 0;have d1:=R5.cell 1;have g0:=R5.frozen 0;have g1:=R5.frozen 1;have n0:=R1.cell 0;have n1:=R1.cell 1;simp only[SG]at m0 m1 d0 d1 n0 n1
      have HR2:=Hi R2;have HR3:=Hi R3;clear R1 R2 R3 R4 R5;go_wp2_with fail
      refine bodyPost_ret (v:=.agg #[.bool true,.slice a7 m7 c7]) (by simp[results,Tryz.results78,go_sem,n0,n1]) rfl ⟨⟨a7,c7,?_,?_⟩,HR3.out⟩
      ·rw[HMB.out,←HSS.out,HSL.out,HB0.out];first|rfl|(simp[HM0.out];done)|(simp;done)
      ·rw[←HSS.out,HSL.out];exact HR2.out
  ·have q1:¬(j:Int)<(l.length:Int):=by omega
   have HT:=Hi (trim_at l j hj HJ.out (fun y hy=>absurd (List.getElem?_eq_some_iff.1 hy).1 hjl));obtain⟨A,hsl,hbr⟩:=bytes_rest HB.out j hj
   have FA:Fz wr (wr.alloc (.cells #[] 5)):=(Fr.refl wr).alloc _;have BG:=Blk.new wr 5 #[];have xa:=(HBA.out.alloc (.cells #[] 5)).cell 1;simp only[SG]at xa
   obtain⟨v5,w5,hrun,hown,F5,hat⟩:=append_bytes (w:=wr.alloc (.cells #[] 5)) (base:=wr.heap.size) (n:=0) (v:=.slice (some ⟨wr.heap.size,0,none⟩) 0 0) (xs:=[]) ⟨rfl,.inr ⟨wr.heap.size,0,#[],rfl,Nat.le_refl _,BG,Nat.le_refl _,by unfold maxLen;omega,rfl,rfl⟩⟩ A (l.length-j) (cap-j) (l.drop j) (hbr _ (HB.out.old FA)) (by omega) (by rw[World.size_alloc];omega)
   obtain⟨a7,m7,c7,rfl,hm7⟩:=own_shape hown
   have F15:Fz wr w5:=FA.trans' F5 (fun i hi e=>by simp only[Value.ownBlock,Option.some.injEq]at e;omega);simp only[List.nil_append]at hown
   obtain⟨s,hs⟩:∃ s,s=trimS l:=⟨_,rfl⟩
   have hsd:s=l.drop j:=by rw[hs];exact HT.out
   rw[←hsd]at hown
   have hsl2:s.length=m7:=by have:=hown.1;rw[byteCells_len]at this;omega
   have HRUN:=Hi hrun;have HOW:=Hi hown;have HF15:=Hi F15;have HSL:=Hi hsl2;have HSS:=Hi hs;have HMB:=Hi (show (madeS ⟨b,l⟩).below=(b&&decide (0<m7)) from by rw[←hsl2,hs];rfl);clear FA BG hrun hown F5 hat F15 hbr hsd hsl2 hs hm7;go_upto_region 5 with (at_builtin;refine wpList_append_run (by rfl) (.tmp 20) (.tmp 24) 38 (by rfl) _ w5 (by exact HRUN.out) ?_)
   obtain⟨y,hy⟩:∃ y,y=w5.heap.size:=⟨_,rfl⟩
   have HYY:=Hi hy;have BY:=Blk.new w5 54 #[.bool false,.slice a7 m7 c7];rw[←hy]at BY
   have hw5:=HF15.out.size;have hk5:Kept (fun W=>Bytes W (.slice a7 m7 c7) s) (fun k=>k<wr.heap.size∨w5.heap.size≤k) w5:=fun W f=>by have:=(Vals.of_own (ownsRow_fr HOW.out f (fun k hk e=>by have:=HOW.out.lt k hk;omega))).1;exact this
   have FY:Fz w5 (w5.alloc (.cells #[.bool false,.slice a7 m7 c7] 54)):=(Fr.refl w5).alloc _;have hk6:=hk5.old FY;have D6:=(HBR.out.fr HF15.out (fun h=>h)).fr FY (fun h=>h);have A6:=(HBA.out.fr HF15.out (fun h=>h)).fr FY (fun h=>h);have HF6:=Hi ((HF0.out.trans HF15.out).trans FY);have hzz:=HZ.out;have hss:=HS0.out;clear hy FY hk5 x0 x1 xa;rw[←HYY.out]
   generalize (w5.alloc (.cells #[.bool false,.slice a7 m7 c7] 54))=w6 at *
   have key:∀ cc:Bool,Blk (((w6.setCell ⟨y,0,none⟩ (.bool cc)).setCell ⟨z+1,0,none⟩ (.bool cc)).setCell ⟨z+1,1,none⟩ (.slice a7 m7 c7)) (z+1) 54 #[.bool cc,.slice a7 m7 c7]∧Kept (fun W=>Bytes W (.slice a7 m7 c7) s) (fun k=>k<w.heap.size) (((w6.setCell ⟨y,0,none⟩ (.bool cc)).setCell ⟨z+1,0,none⟩ (.bool cc)).setCell ⟨z+1,1,none⟩ (.slice a7 m7 c7))∧Fz w (((w6.setCell ⟨y,0,none⟩ (.bool cc)).setCell ⟨z+1,0,none⟩ (.bool cc)).setCell ⟨z+1,1,none⟩ (.slice a7 m7 c7))∧Blk (w6.setCell ⟨y,0,none⟩ (.bool cc)) y 54 #[.bool cc,.slice a7 m7 c7]∧Blk (w6.setCell ⟨y,0,none⟩ (.bool cc)) (z+1) 54 #[.bool false,.slice none 0 0]:=fun cc=>by
    have hyy:=HYY.out;have E1:=Fr.setCell (S:=fun k=>k=y) (p:=⟨y,0,none⟩) (Fr.refl w6) (fun _=>rfl) (.bool cc);have D7:=D6.fr E1 (by omega);have D8:=set2 D7 (.bool cc) (.slice a7 m7 c7);refine⟨D8.1,(hk6.step E1 (K':=fun k=>k<wr.heap.size∨w5.heap.size≤k) (fun k _ e=>.inr (by have e2:k=y:=e;omega)) (fun k hk=>.inl hk)).step D8.2 (fun k hk e=>.inl (by omega)) (fun k hk=>.inl (.inl (by omega))),(HF6.out.trans' E1 (fun i hi e=>by have e2:i=y:=e;omega)).trans' D8.2 (fun i hi e=>by omega),BY.set 0 _,D7⟩
   have HKEY:=Hi key;have y0:=BY.cell 0;have y1:=BY.cell 1;have fy:=BY.frozen 0;have a0:=A6.cell 0;simp only[SG]at y0 y1 a0
   clear key hk6 D6 A6 BY HRUN hzz hss hw5;cases hb0:b with
   |false=>
    rw[hb0]at a0
    have HB0:=Hi hb0;clear hb0;obtain⟨R1,R2,R3,R4,R5⟩:=HKEY.out false
    have m0:=R4.cell 0;have m1:=R4.cell 1;have d0:=R5.cell 0;have d1:=R5.cell 1;have g0:=R5.frozen 0;have g1:=R5.frozen 1;have n0:=R1.cell 0;have n1:=R1.cell 1;simp only[SG]at m0 m1 d0 d1 n0 n1
    have HR2:=Hi R2;have HR3:=Hi R3;clear R1 R2 R3 R4 R5;go_wp2_with fail
    refine bodyPost_ret (v:=.agg #[.bool false,.slice a7 m7 c7]) (by simp[results,Tryz.results78,go_sem,n0,n1]) rfl ⟨⟨a7,c7,?_,?_⟩,HR3.out⟩
    ·rw[HMB.out,←HSS.out,HSL.out,HB0.out];first|rfl|(simp[HM0.out];done)|(simp;done)
    ·rw[←HSS.out,HSL.out];exact HR2.out
   |true=>
    rw[hb0]at a0
    have HB0:=Hi hb0;rcases Nat.eq_zero_or_pos m7 with hm0|hm0
    ·skip
     have e1:¬(0:Int)<(m7:Int):=by omega
     have e2:¬0<m7:=by omega
     have e3:decide (0<m7)=false:=decide_eq_false e2;have HM0:=Hi hm0;clear hm0 hb0;obtain⟨R1,R2,R3,R4,R5⟩:=HKEY.out false
     have m0:=R4.cell 0;have m1:=R4.cell 1;have d0:=R5.cell 0;have d1:=R5.cell 1;have g0:=R5.frozen 0;have g1:=R5.frozen 1;have n0:=R1.cell 0;have n1:=R1.cell 1;simp only[SG]at m0 m1 d0 d1 n0 n1
     have HR2:=Hi R2;have HR3:=Hi R3;clear R1 R2 R3 R4 R5;go_wp2_with fail
     refine bodyPost_ret (v:=.agg #[.bool false,.slice a7 m7 c7]) (by simp[results,Tryz.results78,go_sem,n0,n1]) rfl ⟨⟨a7,c7,?_,?_⟩,HR3.out⟩
     ·rw[HMB.out,←HSS.out,HSL.out,HB0.out];first|rfl|(simp[HM0.out];done)|(simp;done)
     ·rw[←HSS.out,HSL.out];exact HR2.out
    ·skip
     have e1:(0:Int)<(m7:Int):=by omega
     have e2:0<m7:=hm0;have e3:decide (0<m7)=true:=decide_eq_true hm0;have HM0:=Hi hm0;clear hm0 hb0;obtain⟨R1,R2,R3,R4,R5⟩:=HKEY.out true
     have m0:=R4.cell 0;have m1:=R4.cell 1;have d0:=R5.cell 0;have d1:=R5.cell 1;have g0:=R5.frozen 0;have g1:=R5.frozen 1;have n0:=R1.cell 0;have n1:=R1.cell 1;simp only[SG]at m0 m1 d0 d1 n0 n1
     have HR2:=Hi R2;have HR3:=Hi R3;clear R1 R2 R3 R4 R5;go_wp2_with fail
     refine bodyPost_ret (v:=.agg #[.bool true,.slice a7 m7 c7]) (by simp[results,Tryz.results78,go_sem,n0,n1]) rfl ⟨⟨a7,c7,?_,?_⟩,HR3.out⟩
     ·rw[HMB.out,←HSS.out,HSL.out,HB0.out];first|rfl|(simp[HM0.out];done)|(simp;done)
     ·rw[←HSS.out,HSL.out];exact HR2.out
theorem pad_one {w:World}{l:List UInt8}{n c:Nat}{a:Option Addr}(h:Bytes w (.slice a n c) l)(hl:l.length≤1000000) :
  ∃ a' c' w',(Builtin.append_ #[38,38] 38 #[.slice (some ⟨w.heap.size,0,none⟩) 1 1,.slice a n c]).run Tryz.prog (w.alloc (.cells #[.int .u8 0] 5))=.ok (.slice a' (n+1) c') w'∧Bytes w' (.slice a' (n+1) c') (0::l)∧Fz w w':=by
 have FA:Fz w (w.alloc (.cells #[.int .u8 0] 5)):=(Fr.refl w).alloc _;have BG:=Blk.new w 5 #[.int .u8 0];have hn:n=l.length:=by
  obtain⟨_,_,he,-⟩:=Vals.form h
  simp only[Value.slice.injEq]at he
  exact he.2.1
 obtain⟨v5,w5,hrun,hown,F5,hat⟩:=append_bytes (w:=w.alloc (.cells #[.int .u8 0] 5)) (base:=w.heap.size) (n:=1) (v:=.slice (some ⟨w.heap.size,0,none⟩) 1 1) (xs:=[0]) ⟨rfl,.inr ⟨w.heap.size,1,#[.int .u8 0],rfl,Nat.le_refl _,BG,Nat.le_refl _,by unfold maxLen;omega,rfl,rfl⟩⟩ a n c l (h.old FA) (by omega) (by rw[World.size_alloc];omega)
 obtain⟨a7,m7,c7,rfl,hm7⟩:=own_shape hown
 have hv:=(Vals.of_own hown).1;have hm:m7=n+1:=by have:=hown.1;rw[byteCells_len]at this;simp at this;omega
 subst hm;exact⟨a7,c7,w5,hrun,hv,FA.trans' F5 (fun i hi e=>by simp only[Value.ownBlock,Option.some.injEq]at e;omega)⟩
theorem r03Sizes_any (v u:Value)(a b:List UInt8)(w:World)(h:Bytes w v a)(hu:Bytes w u b)(ha:a.length≤1000000)(hb:b.length≤1000000) :
  Calls Tryz.prog 109 #[v,u] w fun e w'=>e=.returned (.int .i64 (cmpZ (natOf a) (natOf b)))∧Fz w w':=by
 obtain⟨a1,c1,rfl,-⟩:=h.form
 obtain⟨a2,c2,rfl,-⟩:=hu.form
 have HA:=Hi h;have HU:=Hi hu;clear h hu;go_enter Tryz.func109,Tryz.ntmps109
 go_wp2_with fail
 go_loopg [0] (b.length-a.length) (fun g s wr=>∃ (k:Nat) (l:List UInt8) (p:Option Addr) (c:Nat),g=b.length-l.length∧l.length≤1000000∧s=.slice p l.length c∧Hid (l=List.replicate k 0++a)∧Hid (k=0∨l.length≤b.length)∧Hid (Bytes wr (.slice p l.length c) l)∧Hid (Fz w wr))
 case atStart=>exact⟨0,a,a1,c1,rfl,ha,rfl,Hi rfl,Hi (.inl rfl),HA,Hi (Fr.refl _)⟩
 case round=>
  obtain⟨k,l,p,c,hg,hl,rfl,HL,HK,HB,HF⟩:=hrel
  have HG:=Hi hg;clear hg;by_cases hlt:l.length<b.length
  ·have q1:(l.length:Int)<(b.length:Int):=by omega
   obtain⟨p',c',w',hrun,hv,F⟩:=pad_one HB.out (by omega)
   have HRUN:=Hi hrun;have HV:=Hi hv;have HF2:=Hi (HF.out.trans F);have HL2:=Hi (show 0::l=List.replicate (k+1) 0++a from by rw[HL.out,List.replicate_succ];rfl);have hbb:=hb;clear hrun hv F;go_wp2_with (at_builtin;refine wpList_append_run (by rfl) (.tmp 11) (.tmp 12) 38 (by rfl) _ w' (by exact HRUN.out) ?_)
   go_roundg (b.length-(l.length+1))
   case measure=>rw[HG.out];omega
   case rel=>exact⟨k+1,0::l,p',c',by rw[List.length_cons],by rw[List.length_cons];omega,by rw[List.length_cons],HL2,Hi (.inr (by rw[List.length_cons];omega)),Hi (by rw[List.length_cons];exact HV.out),HF2⟩
  ·have q1:¬(l.length:Int)<(b.length:Int):=by omega
   go_wp2_with fail
   clear q1;have HGE:=Hi (show b.length≤l.length from by omega);have HL1:=Hi hl;clear hl hlt HG;go_loopg [1] (l.length-b.length) (fun g s wr=>∃ (j:Nat) (m:List UInt8) (p':Option Addr) (c':Nat),g=l.length-m.length∧m.length≤1000000∧s=.slice p' m.length c'∧Hid (m=List.replicate j 0++b)∧Hid (j=0∨m.length≤l.length)∧Hid (Bytes wr (.slice p' m.length c') m)∧Hid (Bytes wr (.slice p l.length c) l)∧Hid (Fz w wr))
   case atStart=>exact⟨0,b,a2,c2,rfl,hb,rfl,Hi rfl,Hi (.inl rfl),Hi (HU.out.old HF.out),HB,HF⟩
   case round=>
    obtain⟨j,m,p',c',hg,hm,rfl,HM,HJ,HBM,HB,HF⟩:=hrel
    have HG:=Hi hg;clear hg;by_cases hlt:m.length<l.length
    ·have q1:(m.length:Int)<(l.length:Int):=by omega
     obtain⟨p'',c'',w',hrun,hv,F⟩:=pad_one HBM.out (by omega)
     have HRUN:=Hi hrun;have HV:=Hi hv;have HB2:=Hi (HB.out.old F);have HF2:=Hi (HF.out.trans F);have HM2:=Hi (show 0::m=List.replicate (j+1) 0++b from by rw[HM.out,List.replicate_succ];rfl);have hll:=HL1.out;clear hrun hv F;go_wp2_with (at_builtin;refine wpList_append_run (by rfl) (.tmp 19) (.tmp 20) 38 (by rfl) _ w' (by exact HRUN.out) ?_)
     go_roundg (l.length-(m.length+1))
     case measure=>rw[HG.out];omega
     case rel=>exact⟨j+1,0::m,p'',c'',by rw[List.length_cons],by rw[List.length_cons];omega,by rw[List.length_cons],HM2,Hi (.inr (by rw[List.length_cons];omega)),Hi (by rw[List.length_cons];exact HV.out),HB2,HF2⟩
    ·have q1:¬(m.length:Int)<(l.length:Int):=by omega
     have hlm:l.length=m.length:=by
      rcases HJ.out with h|h
      ·have:m=b:=by rw[HM.out,h];rfl
       rw[this]at hlt ⊢
       have:=HGE.out;omega
      ·omega
     have HLM:=Hi hlm;have HCZ:=Hi (show cmpS l m=cmpZ (natOf a) (natOf b) from by rw[cmpS_nat hlm,HL.out,HM.out,natOf_pad,natOf_pad]);have hmx:m.length≤1000000:=hm;clear q1 hlt hm hlm HG;have q1:¬(m.length:Int)<(l.length:Int):=by have:=HLM.out;omega
     go_wp2_with fail
     clear q1;go_loopg [5] l.length (fun g s wr=>∃ i:Nat,g=l.length-i∧i≤l.length∧s=.int .i64 i∧Hid (cmpS (l.drop i) (m.drop i)=cmpZ (natOf a) (natOf b))∧Hid (Bytes wr (.slice p' m.length c') m)∧Hid (Bytes wr (.slice p l.length c) l)∧Hid (Fz w wr))
     case atStart=>exact⟨0,rfl,Nat.zero_le _,rfl,HCZ,HBM,HB,HF⟩
     case round=>
      obtain⟨i,hg,hi,rfl,HC,HBM,HB,HF⟩:=hrel
      have HG:=Hi hg;clear hg;have hj1:(0:Int)≤(i:Int):=by omega
      by_cases hil:i<l.length
      ·have hiL:(i:Int)<(l.length:Int):=by omega
       have hiM:(i:Int)<(m.length:Int):=by have:=HLM.out;omega
       have hi2:i<m.length:=by omega
       obtain⟨x,hx⟩:∃ x,l[i]? = some x:=⟨_,List.getElem?_eq_getElem hil⟩
       obtain⟨y,hy⟩:∃ y,m[i]? = some y:=⟨_,List.getElem?_eq_getElem hi2⟩
       obtain⟨p0,c0,he,-,-,hX⟩:=HB.out.form
       simp only[Value.slice.injEq]at he
       obtain⟨rfl,-,rfl⟩:=he
       obtain⟨p1,c1',he,-,-,hY⟩:=HBM.out.form
       simp only[Value.slice.injEq]at he
       obtain⟨rfl,-,rfl⟩:=he
       obtain⟨b1,o1,rfl,hcx⟩:=hX (by omega)
       obtain⟨b2,o2,rfl,hcy⟩:=hY (by omega)
       have e1:=hcx i x hx;have e2:=hcy i y hy;have hdx:l.drop i=x::l.drop (i+1):=by rw[List.drop_eq_getElem_cons hil];rw[List.getElem?_eq_getElem hil]at hx;rw[Option.some.inj hx]
       have hdy:m.drop i=y::m.drop (i+1):=by rw[List.drop_eq_getElem_cons hi2];rw[List.getElem?_eq_getElem hi2]at hy;rw[Option.some.inj hy]
       have HCC:=HC.out;rw[hdx,hdy]at HCC
       unfold cmpS at HCC;clear hx hy hcx hcy hX hY hdx hdy;by_cases hxy:x=y
       ·subst hxy
        rw[if_pos rfl]at HCC
        have HC2:=Hi HCC;have r1:¬(x.toNat:Int)<(x.toNat:Int):=by omega
        clear HCC;go_wp2_with fail
        go_quiet (fail)
        go_wp2_with fail
        go_quiet (fail)
        go_wp2_with fail
        go_roundg (l.length-(i+1))
        case measure=>rw[HG.out];omega
        case rel=>exact⟨i+1,rfl,by omega,by go_num,HC2,Hi (HBM.out.old ((Fr.refl _).drewN _)),Hi (HB.out.old ((Fr.refl _).drewN _)),Hi (HF.out.drewN _)⟩
       ·rw[if_neg hxy]at HCC
        have hne:x.toNat≠y.toNat:=fun e=>hxy (UInt8.toNat_inj.1 e)
        by_cases hlt:x.toNat<y.toNat
        ·rw[if_pos hlt]at HCC
         have HC2:=Hi HCC;have r1:(x.toNat:Int)<(y.toNat:Int):=by omega
         clear HCC hne hxy hlt;go_wp2_with fail
         go_quiet (fail)
         go_wp2_with fail
         go_ret;exact⟨by rw[←HC2.out]<;>rfl,by first|exact HF.out.drewN _|exact(HF.out.drewN _).drewN _⟩
        ·rw[if_neg hlt]at HCC
         have HC2:=Hi HCC;have r1:¬(x.toNat:Int)<(y.toNat:Int):=by omega
         have r2:(y.toNat:Int)<(x.toNat:Int):=by omega
         clear HCC hne hxy hlt;go_wp2_with fail
         go_quiet (fail)
         go_wp2_with fail
         go_quiet (fail)
         go_wp2_with fail
         go_ret;exact⟨by rw[←HC2.out]<;>rfl,by first|exact HF.out.drewN _|exact(HF.out.drewN _).drewN _⟩
      ·have hiL:¬(i:Int)<(l.length:Int):=by omega
       have HC2:=Hi (show (0:Int)=cmpZ (natOf a) (natOf b) from by
        have h:=HC.out;rw[List.drop_eq_nil_of_le (by omega),List.drop_eq_nil_of_le (by have:=HLM.out;omega)]at h
        exact h)
       go_wp2_with fail
       go_ret;exact⟨by rw[←HC2.out]<;>rfl,HF.out⟩
theorem r03Made_as (b:Bool)(v:Value)(l:List UInt8)(x:NumT)(hx:x=madeS ⟨b,l⟩)(w:World)(h:Bytes w v l)(hl:l.length≤1000000) :
  Calls Tryz.prog 78 #[.agg #[.bool b,v]] w fun e w'=>(∃ a c,e=.returned (.agg #[.bool x.below,.slice a x.size.length c])∧Kept (fun W=>Bytes W (.slice a x.size.length c) x.size) (fun k=>k<w.heap.size) w')∧Fz w w':=by
 subst hx;exact r03MadeG_any b v l w h (by omega)
theorem r03Sizes_as (v u:Value)(a b:List UInt8)(la:Lean0 a)(lb:Lean0 b)(w:World)(h:Bytes w v a)(hu:Bytes w u b)(ha:a.length≤1000000)(hb:b.length≤1000000) :
  Calls Tryz.prog 109 #[v,u] w fun e w'=>e=.returned (.int .i64 (sizesS a b))∧Fz w w':=by
 rw[sizes_nat la lb]
 exact r03Sizes_any v u a b w h hu ha hb
theorem r03Compare_any (b1 b2:Bool)(v u:Value)(s1 s2:List UInt8)(w:World)(h:Bytes w v s1)(hu:Bytes w u s2)(h1:s1.length≤1000000)(h2:s2.length≤1000000) :
  Calls Tryz.prog 71 #[.agg #[.bool b1,v],.agg #[.bool b2,u]] w fun e w'=>e=.returned (.int .i64 (numC ⟨b1,s1⟩ ⟨b2,s2⟩))∧Fz w w':=by
 rw[numC_made]
 obtain⟨x,hx⟩:∃ x,x=madeS ⟨b1,s1⟩:=⟨_,rfl⟩
 obtain⟨y,hy⟩:∃ y,y=madeS ⟨b2,s2⟩:=⟨_,rfl⟩
 rw[←hx,←hy]
 have hxl:x.size.length≤1000000:=by rw[hx];have:=trimS_le s1;show (trimS s1).length≤_;omega
 have hyl:y.size.length≤1000000:=by rw[hy];have:=trimS_le s2;show (trimS s2).length≤_;omega
 obtain⟨r,hr⟩:∃ r,r=(if x.below&&!y.below then (-1:Int) else if !x.below&&y.below then 1 else if x.below then sizesS y.size x.size else sizesS x.size y.size):=⟨_,rfl⟩
 have HR:=Hi hr;rw[←hr]
 clear hr;obtain⟨a1,c1,rfl,-⟩:=h.form
 obtain⟨a2,c2,rfl,-⟩:=hu.form
 obtain⟨z,hz⟩:∃ z,z=w.heap.size:=⟨_,rfl⟩
 have HZ:=Hi hz;have F0:Fz w ((w.alloc (.cells #[.bool b1,.slice a1 s1.length c1] 54)).alloc (.cells #[.bool b2,.slice a2 s2.length c2] 54)):=((Fr.refl w).alloc _).alloc _;have BA:=(Blk.new w 54 #[.bool b1,.slice a1 s1.length c1]).alloc (.cells #[.bool b2,.slice a2 s2.length c2] 54);have BB:=Blk.new (w.alloc (.cells #[.bool b1,.slice a1 s1.length c1] 54)) 54 #[.bool b2,.slice a2 s2.length c2];rw[World.size_alloc,←hz]at BB
 rw[←hz]at BA
 have HM1:=Hi (fun W (F:Fz ((w.alloc (.cells #[.bool b1,.slice a1 s1.length c1] 54)).alloc (.cells #[.bool b2,.slice a2 s2.length c2] 54)) W)=>r03Made_as b1 _ s1 x hx W ((h.old F0).old F) h1);have HM2:=Hi (fun W (F:Fz ((w.alloc (.cells #[.bool b1,.slice a1 s1.length c1] 54)).alloc (.cells #[.bool b2,.slice a2 s2.length c2] 54)) W)=>r03Made_as b2 _ s2 y hy W ((hu.old F0).old F) h2);have HS0:=Hi (show ((w.alloc (.cells #[.bool b1,.slice a1 s1.length c1] 54)).alloc (.cells #[.bool b2,.slice a2 s2.length c2] 54)).heap.size=z+2 from by rw[World.size_alloc,World.size_alloc,hz]);have HF0:=Hi F0
 have HLX:=Hi (show Lean0 x.size from by rw[hx];exact trim_lean _);have HLY:=Hi (show Lean0 y.size from by rw[hy];exact trim_lean _);clear h hu hz F0 hx hy;go_enter Tryz.func71,Tryz.ntmps71
 go_upto_region 1 with fail
 rw[←HZ.out]
 generalize ((w.alloc (.cells #[.bool b1,.slice a1 s1.length c1] 54)).alloc (.cells #[.bool b2,.slice a2 s2.length c2] 54))=w0 at *
 replace BA:=BA.drew;replace BB:=BB.drew;have G:Fz w0 w0.drew:=(Fr.refl w0).drew;refine wp_region_2 4 5 (C1:=fun w'=>∀ j,w'.cell? ⟨z,j,none⟩=(#[.bool b1,.slice a1 s1.length c1]:Array Value)[j]?) (C2:=fun w'=>∀ j,w'.cell? ⟨z+1,j,none⟩=(#[.bool b2,.slice a2 s2.length c2]:Array Value)[j]?) (by kernel_rfl) (BA.cell) (BB.cell) (fun hTwo=>?_);refine wpAny2_takeA (i:=0) (oi:=_) (v:=?_) rfl (by kernel_rfl) (by kernel_rfl) (by kernel_rfl) (by kernel_rfl) (by decide) (by kernel_rfl) (fun _ _ _ h=>h) (Or.inl ⟨by rfl,?_⟩) (by assumption) (fun hT2=>?_);rotate_left
 ·(intro W hSw;(try dsimp only at hSw);go_simp;try with_reducible rfl)
 replace hTwo:=hT2;clear hT2;(try simp only[Act.put,SS]);refine wpAny2_takeB (i:=2) (oi:=_) (v:=?_) rfl (by kernel_rfl) (by kernel_rfl) (by kernel_rfl) (by kernel_rfl) (by decide) (by kernel_rfl) (fun _ _ _ h=>h) (Or.inl ⟨by rfl,?_⟩) (by assumption) (fun hT2=>?_);rotate_left
 ·(intro W hSw;(try dsimp only at hSw);go_simp;try with_reducible rfl)
 replace hTwo:=hT2;clear hT2;(try simp only[Act.put,SS]);refine wpAny2_ready (rs:=[1]) (by kernel_rfl) (by simp) ?_;refine All2.cons (o:=_) rfl (fun KK hKK=>?_) All2.nil;go_simp
 (go_at_call 78;(with_reducible refine(HM1.out _ G).mono ?_);rintro e w' ⟨⟨p1,q1,rfl,hk1⟩,F⟩;have hsz:=G.size;replace BA:=BA.fr F (fun h=>h);replace BB:=BB.fr F (fun h=>h);replace G:=G.trans F;clear F HM1;go_wp2_with fail)
 refine hKK.out _ _ ?_ (fun hT2=>?_)
 ·exact⟨fun _=>BA.cell,fun _=>BB.cell⟩
 clear hKK KK;replace hTwo:=hT2;clear hT2;(try simp only[Act.put,SS]);refine wpAny2_ready (rs:=[3]) (by kernel_rfl) (by simp) ?_;refine All2.cons (o:=_) rfl (fun KK hKK=>?_) All2.nil;go_simp
 (go_at_call 78;(with_reducible refine(HM2.out _ G).mono ?_);rintro e w' ⟨⟨p2,q2,rfl,hk2⟩,F⟩;have hsz2:=G.size;replace BA:=BA.fr F (fun h=>h);replace BB:=BB.fr F (fun h=>h);replace hk1:=hk1.old F;replace G:=G.trans F;clear F HM2;go_wp2_with fail)
 refine hKK.out _ _ ?_ (fun hT2=>?_)
 ·exact⟨fun _=>BA.cell,fun _=>BB.cell⟩
 clear hKK KK;replace hTwo:=hT2;clear hT2;(try simp only[Act.put,SS]);have X1:=set2 BA (.bool x.below) (.slice p1 x.size.length q1);have Y0:=BB.fr X1.2 (by omega);have Y1:=set2 Y0 (.bool y.below) (.slice p2 y.size.length q2);have X2:=X1.1.fr Y1.2 (by omega);have d0:=BA.cell 0;have d1:=BA.cell 1;have f0:=BA.frozen 0;have f1:=BA.frozen 1;have e0:=Y0.cell 0;have e1:=Y0.cell 1;have g0:=Y0.frozen 0;have g1:=Y0.frozen 1;simp only[SG]at d0 d1 e0 e1
 refine wpAny2_ready (rs:=[4]) (by kernel_rfl) (by simp) ?_;refine All2.cons (o:=_) rfl (fun KK hKK=>?_) All2.nil;go_simp
 skip
 refine hKK.out _ _ ?_ (fun hT2=>?_)
 ·exact⟨(fun h=>absurd (h.symm.trans (by kernel_rfl:_=true)) (by decide)),fun _=>Y0.cell⟩
 clear hKK KK;replace hTwo:=hT2;clear hT2;(try simp only[Act.put,SS]);refine wpAny2_ready (rs:=[5]) (by kernel_rfl) (by simp) ?_;refine All2.cons (o:=_) rfl (fun KK hKK=>?_) All2.nil;go_simp
 skip
 refine hKK.out _ _ ?_ (fun hT2=>?_)
 ·exact⟨(fun h=>absurd (h.symm.trans (by kernel_rfl:_=true)) (by decide)),(fun h=>absurd (h.symm.trans (by kernel_rfl:_=true)) (by decide))⟩
 clear hKK KK;replace hTwo:=hT2;clear hT2;(try simp only[Act.put,SS]);refine wpAny2_done (by kernel_rfl) ?_ _;have hsd:w0.drew.heap.size=w0.heap.size:=rfl;obtain⟨w3,hw3⟩:∃ w3,w3=((((w'.setCell ⟨z,0,none⟩ (.bool x.below)).setCell ⟨z,1,none⟩ (.slice p1 x.size.length q1)).setCell ⟨z+1,0,none⟩ (.bool y.below)).setCell ⟨z+1,1,none⟩ (.slice p2 y.size.length q2)):=⟨_,rfl⟩
 have F3:Fr (fun k=>k=z∨k=z+1) w' w3:=by rw[hw3];exact(X1.2.mono (fun k _ e=>.inl e)).trans (Y1.2.mono (fun k _ e=>.inr e))
 have hb1:=hk1 w3 (F3.mono (fun k _ e=>by have:=HS0.out;omega));have hb2:=hk2 w3 (F3.mono (fun k _ e=>by have:=HS0.out;omega));have HF3:=Hi ((HF0.out.trans G).trans' F3 (fun i hi e=>by have:=HZ.out;omega));rw[←hw3]at X2
 have Y3:=Y1.1;rw[←hw3]at Y3
 rw[←hw3]
 have HC1:=Hi (r03Sizes_as _ _ x.size y.size HLX.out HLY.out w3 hb1 hb2 (by omega) (by omega));have HC2:=Hi (r03Sizes_as _ _ y.size x.size HLY.out HLX.out w3 hb2 hb1 (by omega) (by omega));clear d0 d1 f0 f1 e0 e1 g0 g1 hTwo X1 Y0 Y1 hk1 hk2 hb1 hb2 F3 hw3 BA BB G hsz hsz2;try clear hTwo
 have d0:=X2.cell 0;have d1:=X2.cell 1;have e0:=Y3.cell 0;have e1:=Y3.cell 1;simp only[SG]at d0 d1 e0 e1
 obtain⟨p,hp⟩:∃ p,p=x.below:=⟨_,rfl⟩
 obtain⟨q,hq⟩:∃ q,q=y.below:=⟨_,rfl⟩
 rw[←hp]at d0 HR
 rw[←hq]at e0 HR
 clear hp hq X2 Y3 hxl hyl;cases p with
 |false=>
  cases q with
  |false=>
   go_wp2_with fail
   refine HC1.out.mono ?_;rintro e w4 ⟨rfl,F4⟩;clear d0 d1 e0 e1;go_wp2_with fail
   go_ret;exact⟨by rw[HR.out];rfl,HF3.out.trans F4⟩
  |true=>
   go_wp2_with fail
   go_ret;exact⟨by rw[HR.out];rfl,HF3.out⟩
 |true=>
  cases q with
  |false=>
   go_wp2_with fail
   go_ret;exact⟨by rw[HR.out];rfl,HF3.out⟩
  |true=>
   go_wp2_with fail
   refine HC2.out.mono ?_;rintro e w4 ⟨rfl,F4⟩;clear d0 d1 e0 e1;go_wp2_with fail
   go_ret;exact⟨by rw[HR.out];rfl,HF3.out.trans F4⟩
end Go.Proofs.YtehlipgmkinfbaaGreatDoor
