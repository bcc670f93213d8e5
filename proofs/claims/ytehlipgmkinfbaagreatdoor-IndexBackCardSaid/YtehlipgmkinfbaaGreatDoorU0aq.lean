/-
  Merged by program: XR13H XGenU XNAdd XGenN XBag XIxCopy XIxIx2.
-/
import Derived.Test.YtehlipgmkinfbaaGreatDoorU0ap
import Derived.Test.YtehlipgmkinfbaaGreatDoorU0ao
import Derived.Test.YtehlipgmkinfbaaGreatDoorU0aj
import Derived.Deep.Slices
import Derived.Deep.CutBlock
import Derived.Deep.CutRange
import Derived.Deep.Cut
import Derived.Lib.SlBytesConst
import Derived.Test.YtehlipgmkinfbaaGreatDoorU0am
import Derived.Test.YtehlipgmkinfbaaGreatDoorU0al
import Derived.Test.YtehlipgmkinfbaaGreatDoorU0aa
import Derived.Test.YtehlipgmkinfbaaGreatDoorU0an
import Derived.Deep.RegionHeld3
set_option linter.unusedSimpArgs false
set_option maxRecDepth 100000
set_option maxHeartbeats 8000000
namespace Go.Proofs.YtehlipgmkinfbaaGreatDoor
open Go Go.RowKit Go.Q
def labelsOut (w':World) (base:Nat) (r:Option (List (List UInt8))) (e:Ending):Prop:=
 match r with
 | some ks=>∃ a c,e=.returned (.tuple #[.slice a ks.length c,.bool true])∧w'.ownsRow base 9 1 (.slice a ks.length c) ks.length (ks.map str)
 | none=>e=.returned (.tuple #[.slice none 0 0,.bool false])
end Go.Proofs.YtehlipgmkinfbaaGreatDoor

namespace Go.Q
open Go Go.RowKit
def urisS (l:List Gen):List (List UInt8):=(l.filter fun g=>decide (g.k=6)&&genOk g).map (·.b)
end Go.Q
namespace Go.Proofs.YtehlipgmkinfbaaGreatDoor
open Go Go.RowKit Go.Q
end Go.Proofs.YtehlipgmkinfbaaGreatDoor

namespace Go.Q
open Go Go.RowKit
def KRow (t:TypeId) (w:World) (base:Nat) (v:Value) (l:List Part):Prop:=
 ∃ cs:List Value,w.ownsRow base t 2 v l.length cs∧∀ (i:Nat) (p:Part),l[i]? = some p→∃ x y,cs[2*i]? = some x∧cs[2*i+1]? = some y∧Kept (fun W=>Ints W x p.o∧Bytes W y p.b) (fun k=>v.ownBlock=some k∨k<base) w
theorem KRow.nil (t:TypeId) (w:World) (base:Nat):KRow t w base (.slice none 0 0) []:=⟨[],⟨rfl,.inl ⟨rfl,rfl⟩⟩,fun i p hp=>by simp at hp⟩
theorem KRow.keep {t:TypeId}{w:World}{base:Nat}{v:Value}{l:List Part}(h:KRow t w base v l):∀ k,v.ownBlock=some k→base≤k∧k<w.heap.size:=fun k hk=>by
 obtain ⟨us,h1,-⟩:=h;exact h1.lt k hk
theorem KRow.at {t:TypeId}{w:World}{base:Nat}{v:Value}{l:List Part}(h:KRow t w base v l):Attrs w v l:=by
 obtain ⟨cs,h1,h2⟩:=h;exact ARow.at (t:=t) (w:=w) (base:=base) ⟨cs,h1,fun i p hp=>by
  obtain ⟨x,y,e1,e2,e3⟩:=h2 i p hp;exact ⟨x,y,e1,e2,e3.now.1,e3.now.2⟩⟩ (Fr.refl w)
theorem KRow.fr {t:TypeId}{S:Nat→Prop}{w w':World}{base:Nat}{v:Value}{l:List Part}(h:KRow t w base v l) (f:Fr S w w') (hS:∀ k,S k→k<base):KRow t w' base v l:=by
 have hk:=h.keep;obtain ⟨cs,h1,h2⟩:=h;refine ⟨cs,Go.Proofs.YtehlipgmkinfbaaGreatDoor.ownsRow_fr h1 f (fun k e hs=>by have:=(hk k e).1;have:=hS k hs;omega),fun i p hp=>?_⟩
 obtain ⟨x,y,e1,e2,e3⟩:=h2 i p hp;exact ⟨x,y,e1,e2,e3.step f (fun k _ hs=>.inr (hS k hs)) (fun k hk=>.inl hk)⟩
theorem KRow.kept {t:TypeId}{w:World}{base:Nat}{v:Value}{l:List Part}(h:KRow t w base v l):Kept (fun W=>Attrs W v l) (fun k=>k<base) w:=fun _ f=>(h.fr f (fun _ hk=>hk)).at
theorem KRow.add {P:Program}{t s:TypeId}(hu0:P.underlying s=some (.slice t)) (hinf:Info P t (.agg #[.slice none 0 0,.slice none 0 0]) 2 48) {w wa:World}{base:Nat}{v x y:Value}{l:List Part}(h:KRow t w base v l) (hb:base≤w.heap.size) (F1:Fr (fun _=>False) w wa) (g:Nat) (BX:Blk wa g t #[x,y]) (p:Part) (hk:Kept (fun W=>Ints W x p.o∧Bytes W y p.b) (fun k=>v.ownBlock=some k∨k<base) w) (hn:l.length≤109951162777) :
  ∃ a c w',(Builtin.append_ #[s,s] s #[v,.slice (some ⟨g,0,none⟩) 1 1]).run P wa=.ok (.slice a (l.length+1) c) w'∧KRow t w' base (.slice a (l.length+1) c) (l++[p])∧Fr (fun k=>v.ownBlock=some k) w w':=by
 obtain ⟨cs,h1,h2⟩:=h;have hcl:cs.length=l.length*2:=h1.1
 obtain ⟨ax,cx,rfl,-⟩:=Ints.form hk.now.1;obtain ⟨ay,cy,rfl,-⟩:=Vals.form hk.now.2;obtain ⟨a,c,w',hrun,h4,F2,h5⟩:=add_gen hu0 hinf rfl (by decide) (by decide) h1 hb F1 g [.slice ax p.o.length cx,.slice ay p.b.length cy] rfl BX (by intro u hu;simp at hu;rcases hu with rfl | rfl<;>rfl) hn;have hst:∀ (x y:Value) (q:Part),Kept (fun W=>Ints W x q.o∧Bytes W y q.b) (fun k=>v.ownBlock=some k∨k<base) w→Kept (fun W=>Ints W x q.o∧Bytes W y q.b) (fun k=>(Value.slice a (l.length+1) c).ownBlock=some k∨k<base) w':=fun x y q hq=>
  hq.step F2 (fun _ _ h=>.inl h) (fun k hk=>by
   rcases hk with h | h
   ·rcases h5 k h with h | h
    ·exact .inl (.inl h)
    ·exact .inr h
   ·exact .inl (.inr h))
 refine ⟨a,c,w',hrun,⟨cs++[.slice ax p.o.length cx,.slice ay p.b.length cy],by rw [List.length_append];exact h4,fun i q hq=>?_⟩,F2⟩
 rcases Nat.lt_or_ge i l.length with hi | hi
 ·rw [List.getElem?_append_left hi] at hq
  obtain ⟨x,y,e1,e2,e3⟩:=h2 i q hq;exact ⟨x,y,by rw [List.getElem?_append_left (by omega)];exact e1,by rw [List.getElem?_append_left (by omega)];exact e2,hst _ _ _ e3⟩
 ·obtain rfl:i=l.length:=by
   have:=(List.getElem?_eq_some_iff.1 hq).1
   simp at this
   omega
  rw [List.getElem?_append_right (Nat.le_refl _)] at hq;simp at hq
  subst hq;refine ⟨_,_,?_,?_,hst _ _ _ hk⟩
  ·rw [List.getElem?_append_right (by omega),show 2*l.length-cs.length=0 from by omega];rfl
  ·rw [List.getElem?_append_right (by omega),show 2*l.length+1-cs.length=1 from by omega];rfl
theorem listOf {α:Type}{p:Nat→α→Prop}:∀ n,(∀ i,i<n→∃ a,p i a)→∃ l:List α,l.length=n∧∀ i a,l[i]? = some a→p i a
 | 0,_=>⟨[],rfl,fun i a h=>by simp at h⟩
 | n+1,h=>by
  obtain ⟨l,hl,hp⟩:=listOf n (fun i hi=>h i (by omega));obtain ⟨a,ha⟩:=h n (by omega);refine ⟨l++[a],by simp [hl],fun i b hb=>?_⟩
  rcases Nat.lt_or_ge i l.length with hi | hi
  ·rw [List.getElem?_append_left hi] at hb
   exact hp i b hb
  ·rw [List.getElem?_append_right hi] at hb
   have h0:i-l.length=0:=by
    have:=(List.getElem?_eq_some_iff.1 hb).1
    simp at this
    omega
   rw [h0] at hb;simp only [List.getElem?_cons_zero,Option.some.injEq] at hb;subst hb;obtain rfl:i=n:=by omega
   exact ha
theorem NameAt.vals {w:World}{v:Value}{n:List (List Part)}(h:NameAt w v n):∃ us,Vals w v us∧us.length=n.length∧(∀ u∈us,u.oneCell'=true)∧∀ (i:Nat) (u:Value) (r:List Part),us[i]? = some u→n[i]? = some r→Attrs w u r:=by
 obtain ⟨a,cap,rfl,h1,h2,h3⟩:=h;rcases Nat.eq_zero_or_pos n.length with h0 | h0
 ·exact ⟨[],⟨a,cap,by rw [h0];rfl,by simp,h2,fun h=>by simp at h⟩,by rw [h0];rfl,by simp,fun i u r h=>by simp at h⟩
 ·obtain ⟨b,o,rfl,hy⟩:=h3 h0
  obtain ⟨us,hl,hp⟩:=listOf (p:=fun i u=>w.cell? ⟨b,o+i,none⟩=some u∧∀ r,n[i]? = some r→Attrs w u r) n.length (fun i hi=>by
   obtain ⟨x,e1,e2⟩:=hy i _ (List.getElem?_eq_getElem hi);exact ⟨x,e1,fun r hr=>by rw [List.getElem?_eq_getElem hi] at hr;cases hr;exact e2⟩)
  refine ⟨us,⟨_,cap,by rw [hl],by omega,h2,fun _=>⟨b,o,rfl,fun i u hu=>(hp i u hu).1⟩⟩,hl,fun u hu=>?_,fun i u r hu hr=>(hp i u hu).2 r hr⟩
  obtain ⟨i,hi⟩:=List.mem_iff_getElem?.1 hu;have hil:i<n.length:=by have:=(List.getElem?_eq_some_iff.1 hi).1;omega
  obtain ⟨ax,cx,rfl⟩:=((hp i u hi).2 _ (List.getElem?_eq_getElem hil)).form;rfl
def NamesAt (wb w:World) (v:Value) (L:List (List (List Part))):Prop:=
 ∃ a cap,v=.slice a L.length cap∧(0<L.length→∃ b o,a=some ⟨b,o,none⟩∧∀ i n,L[i]? = some n→∃ x,w.cell? ⟨b,o+i,none⟩=some x∧NameAt wb x n)
def CRow (t:TypeId) (w wr:World) (base:Nat) (v:Value) (n:List (List Part)):Prop:=
 ∃ us:List Value,wr.ownsRow base t 1 v n.length us∧us.length=n.length∧∀ (i:Nat) (u:Value) (r:List Part),us[i]? = some u→n[i]? = some r→Attrs w u r
theorem CRow.at {t:TypeId}{w wr:World}{base:Nat}{v:Value}{n:List (List Part)}(h:CRow t w wr base v n) (F:Fr (fun _=>False) w wr):NameAt wr v n:=by
 obtain ⟨us,h1,h2,h3⟩:=h;obtain ⟨a,cap,he,hc,hm,hx⟩:=(Vals.of_own h1).1;rw [h2] at he hc hx;refine ⟨a,cap,he,hc,hm,fun h0=>?_⟩
 obtain ⟨b,o,rfl,hy⟩:=hx h0;refine ⟨b,o,rfl,fun i r hr=>?_⟩
 have hi:i<us.length:=by rw [h2];exact (List.getElem?_eq_some_iff.1 hr).1
 exact ⟨us[i],hy i _ (List.getElem?_eq_getElem hi),(h3 i _ r (List.getElem?_eq_getElem hi) hr).old F⟩
theorem CRow.keep {t:TypeId}{w wr:World}{base:Nat}{v:Value}{n:List (List Part)}(h:CRow t w wr base v n):∀ k,v.ownBlock=some k→base≤k∧k<wr.heap.size:=fun k hk=>by
 obtain ⟨us,h1,-⟩:=h;exact h1.lt k hk
theorem CRow.fr {t:TypeId}{S:Nat→Prop}{w wr w':World}{base:Nat}{v:Value}{n:List (List Part)}(h:CRow t w wr base v n) (f:Fr S wr w') (hS:∀ k,v.ownBlock=some k→¬S k):CRow t w w' base v n:=by
 obtain ⟨us,h1,h2⟩:=h;exact ⟨us,Go.Proofs.YtehlipgmkinfbaaGreatDoor.ownsRow_fr h1 f hS,h2⟩
theorem CRow.shape {t:TypeId}{w wr:World}{base:Nat}{v:Value}{n:List (List Part)}(h:CRow t w wr base v n):∃ a c,v=.slice a n.length c:=by
 obtain ⟨us,h1,-⟩:=h;obtain ⟨a,m,c,rfl,rfl⟩:=own_shape h1;exact ⟨a,c,rfl⟩
theorem CRow.add {P:Program}{t s:TypeId}(hu0:P.underlying s=some (.slice t)) (hinf:Info P t (.slice none 0 0) 1 24) {w wr:World}{base:Nat}{v u:Value}{n r:List (List Part)}(h:CRow t w wr base v n) (hb:base≤wr.heap.size) (F:Fr (fun _=>False) w wr) (hr:NameAt w u r) (hn:n.length+r.length≤1099511627776) :
  ∃ a c w',(Builtin.append_ #[s,s] s #[v,u]).run P wr=.ok (.slice a (n.length+r.length) c) w'∧CRow t w w' base (.slice a (n.length+r.length) c) (n++r)∧Fr (fun k=>v.ownBlock=some k) wr w':=by
 obtain ⟨us,h1,h2,h3⟩:=h;obtain ⟨ns,g1,g2,g3,g4⟩:=hr.vals;obtain ⟨a,c,w',hrun,h4,F2,-⟩:=append_vals hu0 hinf rfl (by decide) h1 hb (g1.old F) g3 (by rw [g2];exact hn);rw [g2] at hrun h4;refine ⟨a,c,w',hrun,⟨us++ns,by rw [List.length_append];exact h4,by rw [List.length_append,List.length_append,h2,g2],fun i x q hx hq=>?_⟩,F2⟩
 rcases Nat.lt_or_ge i us.length with hi | hi
 ·rw [List.getElem?_append_left hi] at hx
  rw [List.getElem?_append_left (by omega)] at hq;exact h3 i x q hx hq
 ·rw [List.getElem?_append_right hi] at hx
  rw [List.getElem?_append_right (by omega)] at hq;rw [h2] at hx;exact g4 _ x q hx hq
end Go.Q
namespace Go.Proofs.YtehlipgmkinfbaaGreatDoor
open Go Go.RowKit Go.Q
theorem growRdn_any (n:Nat) (w:World) (hn:n≤1000000000) :
  Calls Tryz.prog 134 #[.slice none 0 0,.int .i64 n] w fun e w'=>(∃ a c,e=.returned (.slice a 0 c)∧w'.ownsRow w.heap.size 100 1 (.slice a 0 c) 0 [])∧Fr (fun _=>False) w w':=by
 obtain ⟨i0,hi0,hz0,hz1,hz2⟩:=info_parts info100;have w0:wrap64 ((n:Int)-0)=(n:Int):=by unfold wrap64;omega
 rcases Nat.eq_zero_or_pos n with rfl | h0
 ·go_enter Tryz.func134,Tryz.ntmps134
  go_wp2_with fail
  go_ret
  exact ⟨⟨none,0,rfl,rfl,.inl ⟨rfl,rfl⟩⟩,Fr.refl _⟩
 ·have hrz:=fun ty=>Lib.run_append_grow_zeros (P:=Tryz.prog) w 37 3 ty 100 i0 _ .i64 .i64 Tryz.underlying37 Tryz.underlying3 hi0 hz0 none 0 0 [] (by rw [hz1];rfl) n h0 (by rw [hz1];decide) (by omega) (by omega) (by rw [hz2];omega) (growslice_fits (by omega) (by rw [hz2];omega))
  have hG:=grownCap_ge w (0+n) 0 100;have hG2:=grownCap_le_maxLen w (0+n) 0 100 (by unfold maxLen;omega);have hcsz:(([]:List Value).toArray++Builtin.zeroCells (Value.slice none 0 0).cells n++Builtin.zeroCells (Value.slice none 0 0).cells (grownCap w (0+n) 0 100-(0+n))).size=grownCap w (0+n) 0 100*1:=by
   simp only [Array.size_append,size_zeroCells,List.size_toArray,List.length_nil];have:(Value.slice none 0 0).cells.size=1:=rfl
   rw [this];omega
  generalize ([]:List Value).toArray++Builtin.zeroCells (Value.slice none 0 0).cells n++Builtin.zeroCells (Value.slice none 0 0).cells (grownCap w (0+n) 0 100-(0+n))=cs at *
  generalize grownCap w (0+n) 0 100=G at *
  rw [Nat.zero_add] at hrz hG;have BX:=(Blk.new w.drew 100 cs);have F:Fr (fun _=>False) w (w.drew.alloc (.cells cs 100)):=(Fr.refl w).drew.alloc _
  have hown:(w.drew.alloc (.cells cs 100)).ownsRow w.heap.size 100 1 (.slice (some ⟨w.heap.size,0,none⟩) 0 G) 0 []:=⟨rfl,.inr ⟨w.heap.size,G,cs,rfl,Nat.le_refl _,BX,Nat.zero_le _,hG2,hcsz,rfl⟩⟩
  have HO:=Hi hown;have HF:=Hi F;have HRZ:=Hi hrz;have hG63:(G:Int)≤9223372036854775807:=by unfold maxLen at hG2;omega
  have h1:(0:Int)<(n:Int):=by omega
  have hgn:(n:Int)≤(G:Int):=by omega
  clear hown F BX hrz hi0 hz0 hz1 hz2 hcsz hG2;go_enter Tryz.func134,Tryz.ntmps134
  go_wp2_with (at_builtin;refine Lib.wpList_append_run _ rfl _ _ _ _ rfl _ _ rfl rfl _ _ (HRZ.out _) ?_)
  all_goals
   go_ret
   exact ⟨⟨_,_,rfl,HO.out⟩,HF.out⟩
theorem concatName_any (v:Value) (L:List (List (List Part))) (wb w:World) (h:NamesAt wb w v L) (Fb:Fr (fun _=>False) wb w) (hn:L.length≤1000) (hr:∀ n∈L,n.length≤1000) :
  Calls Tryz.prog 93 #[v] w fun e w'=>(∃ a c,e=.returned (.slice a L.flatten.length c)∧CRow 100 wb w' w.heap.size (.slice a L.flatten.length c) L.flatten)∧Fr (fun _=>False) w w':=by
 have H:=Hi h;have HR:=Hi hr;have HFB:=Hi Fb;obtain ⟨a,cap,rfl,-⟩:=h;have hfl:∀ j,((L.take j).flatten).length≤1000*1000:=fun j=>by
  have:∀ m:List (List (List Part)),(∀ r∈m,r.length≤1000)→m.flatten.length≤m.length*1000:=by
   intro m
   induction m with
   | nil=>intro _;simp
   | cons x t ih=>
    intro hm
    have h1:=hm x (by simp);have h2:=ih (fun r hr=>hm r (by simp [hr]));simp only [List.flatten_cons,List.length_append,List.length_cons,Nat.add_mul];omega
  have h1:=this (L.take j) (fun r hm=>HR.out r (List.mem_of_mem_take hm));have h2:(L.take j).length*1000≤1000*1000:=Nat.mul_le_mul_right _ (by rw [List.length_take];omega)
  omega
 have hft:∀ j n,L[j]? = some n→(L.take (j+1)).flatten=(L.take j).flatten++n:=fun j n h=>by
  rw [List.take_add_one,h];simp
 have HFL:=Hi hfl;have HFT0:=Hi hft;clear hr hfl hft Fb;go_enter Tryz.func93,Tryz.ntmps93
 go_wp2_with fail
 go_loopg [3,11] L.length (fun g s i wr=>∃ (j m:Nat),g=L.length-j∧j≤L.length∧s=.int .i64 m∧i=.int .i64 j∧m=((L.take j).flatten).length∧wr=w)
 case atStart=>exact ⟨0,0,rfl,Nat.zero_le _,rfl,rfl,rfl,rfl⟩
 case round=>
  obtain ⟨j,m,hg,hj,rfl,rfl,hm,rfl⟩:=hrel;have HG:=Hi hg;have hml:m≤1000*1000:=by rw [hm];exact HFL.out j
  have HM:=Hi hm;clear hg hm;by_cases hjl:j<L.length
  ·obtain ⟨a0,cap0,he,hx⟩:=H.out
   simp only [Value.slice.injEq,true_and] at he;obtain ⟨rfl,rfl⟩:=he;obtain ⟨b,off,rfl,hy⟩:=hx (by omega);obtain ⟨r,hr⟩:∃ r,L[j]? = some r:=⟨_,List.getElem?_eq_getElem hjl⟩
   obtain ⟨x,e1,hA⟩:=hy j r hr;obtain ⟨ax,cx,rfl,-⟩:=hA;have HFT:=Hi (HFT0.out j r hr);have b2:=HR.out r (List.mem_of_getElem? hr);have r1:(0:Int)≤(j:Int):=by omega
   have r2:(j:Int)<(L.length:Int):=by omega
   clear hx hy hr;have hnn:¬((m:Int)+(r.length:Int))<0:=by omega
   go_wp2_with fail
   go_roundg (L.length-(j+1))
   case measure=>rw [HG.out];omega
   case rel=>exact ⟨j+1,m+r.length,rfl,by omega,by go_num,by go_num,by rw [HFT.out,HM.out,List.length_append],rfl⟩
  ·obtain rfl:j=L.length:=by omega
   obtain ⟨wo,rfl⟩:∃ wo:World,wo=wr:=⟨_,rfl⟩
   have HGR:=Hi (growRdn_any m wo (by omega));clear hjl;go_wp2_with fail
   refine HGR.out.mono ?_
   rintro e w1 ⟨⟨a1,c1,rfl,hown1⟩,F1⟩
   have HO1:=Hi hown1;have HF1:=Hi F1;clear HGR hown1 F1;go_wp2_with fail
   go_loopg [6,27] L.length (fun g s i w2=>∃ (j:Nat) (l:List (List Part)) (a2:Option Addr) (c2:Nat),g=L.length-j∧j≤L.length∧s=.slice a2 l.length c2∧i=.int .i64 j∧l=(L.take j).flatten∧CRow 100 wb w2 wo.heap.size (.slice a2 l.length c2) l∧Fr (fun _=>False) wo w2)
   case atStart=>exact ⟨0,[],a1,c1,rfl,Nat.zero_le _,rfl,rfl,rfl,⟨[],HO1.out,rfl,fun i u r h=>by simp at h⟩,HF1.out⟩
   case round=>
    obtain ⟨j,l,a2,c2,hg,hj,rfl,rfl,hl,hrow,F2⟩:=hrel;have HG:=Hi hg;have HRW:=Hi hrow;have HF2:=Hi F2;have hll:l.length≤1000*1000:=by rw [hl];exact HFL.out j
    have HL:=Hi hl;clear hg hrow hl;by_cases hjl:j<L.length
    ·obtain ⟨a0,cap0,he,hx⟩:=H.out
     simp only [Value.slice.injEq,true_and] at he;obtain ⟨rfl,rfl⟩:=he;obtain ⟨b,off,rfl,hy⟩:=hx (by omega);obtain ⟨r,hr⟩:∃ r,L[j]? = some r:=⟨_,List.getElem?_eq_getElem hjl⟩
     obtain ⟨x,e0,hA⟩:=hy j r hr;have e1:=F2.cell e0 (fun h=>h);have hrr:=HR.out r (List.mem_of_getElem? hr);have HFT:=Hi (HFT0.out j r hr);have hs2:=F2.size;obtain ⟨a4,c4,w4,hrun,hrow4,F4⟩:=CRow.add Tryz.underlying37 info100 HRW.out hs2 (HFB.out.trans F2) hA (by omega);obtain ⟨ax,cx,rfl,-⟩:=hA;have hbk:=HRW.out.keep;have HF4:=Hi (F2.trans' F4 (fun i hi e=>by have:=(hbk i e).1;omega));have HRUN:=Hi hrun;have HRW4:=Hi hrow4;have r1:(0:Int)≤(j:Int):=by omega
     have r2:(j:Int)<(L.length:Int):=by omega
     clear hx hy hr hbk F4 hrun hrow4 F2 HRW HF2 e0;go_wp2_with (at_builtin;refine wpList_append_run (by rfl) (.tmp 31) (.tmp 32) 37 (by rfl) _ w4 (by exact HRUN.out) ?_)
     go_roundg (L.length-(j+1))
     case measure=>rw [HG.out];omega
     case rel=>exact ⟨j+1,l++r,a4,c4,rfl,by omega,by rw [List.length_append],by go_num,by rw [HFT.out,HL.out],by rw [List.length_append];exact HRW4.out,HF4.out⟩
    ·obtain rfl:j=L.length:=by omega
     have hl2:=HL.out;rw [List.take_length] at hl2;have hrw:=HRW.out;rw [hl2] at hrw;have HAT:=Hi hrw;have hln:l.length=L.flatten.length:=by rw [hl2]
     have HLN:=Hi hln;have HL2:=Hi hl2;clear hl2 HRW hrw hln;go_wp2_with fail
     go_ret
     exact ⟨⟨a2,c2,by rw [←HLN.out];rfl,HAT.out⟩,HF2.out⟩
theorem copied_any (v:Value) (l:List Part) (w:World) (h:Attrs w v l) (hl:l.length≤1000000) (ho:∀ p∈l,p.o.length≤100000000000∧p.b.length≤100000000000) :
  Calls Tryz.prog 94 #[v] w fun e w'=>(∃ a c,e=.returned (.slice a l.length c)∧KRow 105 w' w.heap.size (.slice a l.length c) l)∧Fr (fun _=>False) w w':=by
 have H:=Hi h;have HO:=Hi ho;obtain ⟨a,cap,rfl,-⟩:=h;clear ho;go_enter Tryz.func94,Tryz.ntmps94
 go_wp2_with fail
 go_loopg [3,8] l.length (fun g u i wr=>∃ (j:Nat) (au:Option Addr) (cu:Nat),g=l.length-j∧j≤l.length∧u=.slice au j cu∧i=.int .i64 j∧KRow 105 wr w.heap.size (.slice au j cu) (l.take j)∧Fr (fun _=>False) w wr)
 case atStart=>exact ⟨0,none,0,rfl,Nat.zero_le _,rfl,rfl,KRow.nil _ _ _,Fr.refl _⟩
 case round=>
  obtain ⟨j,au,cu,hg,hj,rfl,rfl,hrow,F⟩:=hrel;have HG:=Hi hg;have HRW:=Hi hrow;have HF:=Hi F;have hml:(l.take j).length=j:=by rw [List.length_take];omega
  have HML:=Hi hml;clear hg hrow hml;by_cases hjl:j<l.length
  ·obtain ⟨a0,cap0,he,_,_,hx⟩:=H.out.old F
   simp only [Value.slice.injEq,true_and] at he;obtain ⟨rfl,rfl⟩:=he;obtain ⟨b,off,rfl,hy⟩:=hx (by omega);obtain ⟨p,hp⟩:∃ p,l[j]? = some p:=⟨_,List.getElem?_eq_getElem hjl⟩
   obtain ⟨x,y,e1,e2,hpx,hpy⟩:=hy j p hp;have HPL:=Hi (HO.out p (List.mem_of_getElem? hp));obtain ⟨ax,cx,rfl,-⟩:=Ints.form hpx;obtain ⟨ay,cy,rfl,-⟩:=Vals.form hpy;have e1':wr.cell? ⟨b,off+j*2,none⟩=some (.slice ax p.o.length cx):=by rw [Nat.mul_comm];exact e1
   have e2':wr.cell? ⟨b,off+j*2+1,none⟩=some (.slice ay p.b.length cy):=by rw [Nat.mul_comm];exact e2
   have HPX:=Hi hpx;have HPY:=Hi hpy;have HMT:=Hi (show l.take (j+1)=l.take j++[p] from by rw [List.take_add_one,hp];rfl);have r1:(0:Int)≤(j:Int):=by omega
   have r2:(j:Int)<(l.length:Int):=by omega
   clear hx hy hp e1 e2 hpx hpy F;go_upto_region 5 with fail
   obtain ⟨z,hz⟩:∃ z,z=wr.heap.size:=⟨_,rfl⟩
   have BA:=Blk.new wr 105 #[.slice ax p.o.length cx,.slice ay p.b.length cy];have F1:Fr (fun _=>False) wr (wr.alloc (.cells #[.slice ax p.o.length cx,.slice ay p.b.length cy] 105)):=(Fr.refl wr).alloc _
   rw [←hz] at BA ⊢;have HZ:=Hi hz;have HKL:=Hi (show ∀ k,((Value.slice au j cu).ownBlock=some k∨k<w.heap.size)→k<wr.heap.size from fun k hk=>by
    rcases hk with h | h
    ·exact (HRW.out.keep k h).2
    ·have:=HF.out.size;omega)
   clear hz e1' e2';generalize (wr.alloc (.cells #[.slice ax p.o.length cx,.slice ay p.b.length cy] 105))=w1 at *
   have B:=BA.drew;have G:Fr (fun _=>False) wr w1.drew:=F1.drew
   clear BA F1;go_region_held3 (fun w'=>∀ j,w'.cell? ⟨z,j,none⟩=(#[.slice ax p.o.length cx,.slice ay p.b.length cy]:Array Value)[j]?) (first | exact B.cell | exact (B.alloc _).cell) (first
    | (go_at_call 135;refine (cloneInt_any _ p.o _ (HPX.out.old G) HPL.out.1).mono ?_;rintro e w' ⟨⟨u,rfl,hu⟩,F⟩;obtain ⟨ai,mi,ci,rfl,rfl⟩:=own_shape hu;have hkI:=own_kept hu (fun k=>(Value.slice au j cu).ownBlock=some k∨k<w.heap.size) (fun k hk=>Nat.lt_of_lt_of_le (HKL.out k hk) G.size);(try replace hkB:=hkB.old F);replace B:=B.fr F (fun h=>h);replace G:=G.trans F;clear hu F)
    | (go_at_call 114;refine (cloneByte_any _ p.b _ (HPY.out.old G) HPL.out.2).mono ?_;rintro e w' ⟨⟨u,rfl,hu⟩,F⟩;obtain ⟨ab,mb,cb,rfl,rfl⟩:=own_shape hu;have hkB:=own_kept hu (fun k=>(Value.slice au j cu).ownBlock=some k∨k<w.heap.size) (fun k hk=>Nat.lt_of_lt_of_le (HKL.out k hk) G.size);(try replace hkI:=hkI.old F);replace B:=B.fr F (fun h=>h);replace G:=G.trans F;clear hu F)
    | (obtain ⟨a7,c7,w7,hrun,hrow7,F7⟩:=KRow.add Tryz.underlying100 info105 (HRW.out.fr G (fun _ h=>h.elim)) (HF.out.trans G).size ((Fr.refl w').alloc (.cells #[.slice ai p.o.length ci,.slice ab p.b.length cb] 105)) w'.heap.size (Blk.new w' 105 #[.slice ai p.o.length ci,.slice ab p.b.length cb]) p (fun W f=>⟨hkI W f,hkB W f⟩) (by rw [HML.out];omega);rw [HML.out] at hrun hrow7;refine step_append_run (by rfl) (.tmp 12) (.tmp 20) 100 (by rfl) _ w7 (by exact hrun) ?_;have hG7:=(HF.out.trans G).trans' F7 (fun i hi e=>absurd hi (by have:=(HRW.out.keep i e).1;omega));replace B:=B.fr F7 (fun e=>by have:=(HRW.out.keep z e).2;have:=HZ.out;omega);clear hrun F7))
   all_goals
    have HG7:=Hi hG7;have HROW7:=Hi hrow7;clear hG7 hrow7 G B hkI hkB;go_wp2_with fail
    go_roundg (l.length-(j+1))
    case measure=>rw [HG.out];omega
    case rel=>exact ⟨j+1,a7,c7,rfl,by omega,rfl,by go_num,by rw [HMT.out];exact HROW7.out,HG7.out⟩
  ·obtain rfl:j=l.length:=by omega
   have hrow:=HRW.out;rw [List.take_length] at hrow;have HROW:=Hi hrow;clear hrow;go_wp2_with fail
   go_ret
   exact ⟨⟨au,cu,rfl,HROW.out⟩,F⟩
def AddOut (w':World) (n:List (List Part)) (e:Ending):Prop:=
 if nameOk n=true then ∃ a c,e=.returned (.tuple #[.slice a n.length c,.int .i64 0])∧NameAt w' (.slice a n.length c) n else e=.returned (.tuple #[.slice none 0 0,.int .i64 1])
def AddKeep (K:Nat→Prop) (w':World) (n:List (List Part)) (e:Ending):Prop:=
 if nameOk n=true then ∃ a c,e=.returned (.tuple #[.slice a n.length c,.int .i64 0])∧Kept (fun W=>NameAt W (.slice a n.length c) n) K w' else e=.returned (.tuple #[.slice none 0 0,.int .i64 1])
theorem AddKeep.out {K:Nat→Prop}{w':World}{n:List (List Part)}{e:Ending}(h:AddKeep K w' n e):AddOut w' n e:=by
 unfold AddKeep at h
 unfold AddOut
 split at h
 ·obtain ⟨a,c,h1,h2⟩:=h
  rw [if_pos (by assumption)];exact ⟨a,c,h1,h2.now⟩
 ·rw [if_neg (by assumption)]
  exact h
theorem nameAddK_any (v u:Value) (n m:List (List Part)) (w:World) (h:NameAt w v n) (hm:NameAt w u m) (hnl:n.length≤1000) (hml:m.length≤1000) (hs:∀ r∈n++m,fewB r∧r.length≤1000000∧∀ p∈r,p.o.length≤100000000000) :
  Calls Tryz.prog 64 #[v,u] w fun e w'=>AddKeep (fun k=>k<w.heap.size) w' (n++m) e∧Fr (fun _=>False) w w':=by
 obtain ⟨av,cv,rfl,-⟩:=h.form;obtain ⟨au,cu,rfl,-⟩:=hm.form;have H:=Hi h;have HM:=Hi hm;have HS:=Hi hs;obtain ⟨L,hL⟩:∃ L,L=n++m:=⟨_,rfl⟩
 have hLl:L.length≤2000:=by rw [hL,List.length_append];omega
 rw [←hL] at HS ⊢;have HLL:=Hi hL;clear h hm hs hL;go_enter Tryz.func64,Tryz.ntmps64
 go_upto_region 2 with fail
 have B0:=Blk.new w 100 #[];have F0:Fr (fun _=>False) w (w.alloc (.cells #[] 100)):=(Fr.refl w).alloc _
 have N0:GRow 1 RStep (fun k=>k<w.heap.size) 100 (w.alloc (.cells #[] 100)) w.heap.size (.slice (some ⟨w.heap.size,0,none⟩) 0 0) []:=⟨[],own_block B0 0 (Nat.le_refl _) (Nat.zero_le _) w.heap.size (Nat.le_refl _),fun i r h=>by simp at h⟩
 have F1:Fr (fun _=>False) (w.alloc (.cells #[] 100)) ((w.alloc (.cells #[] 100)).alloc (.cells #[.slice av n.length cv,.slice au m.length cu] 37)):=(Fr.refl _).alloc _
 have B1:=Blk.new (w.alloc (.cells #[] 100)) 37 #[.slice av n.length cv,.slice au m.length cu];have hNA:NamesAt w ((w.alloc (.cells #[] 100)).alloc (.cells #[.slice av n.length cv,.slice au m.length cu] 37)) (.slice (some ⟨w.heap.size+1,0,none⟩) 2 2) [n,m]:=by
  refine ⟨_,2,rfl,fun _=>⟨w.heap.size+1,0,rfl,fun i q hq=>?_⟩⟩
  rw [World.size_alloc] at B1;match i,hq with
  | 0,hq=>
   simp only [List.getElem?_cons_zero,Option.some.injEq] at hq;subst hq;exact ⟨_,B1.cell 0,H.out⟩
  | 1,hq=>
   simp only [List.getElem?_cons_succ,List.getElem?_cons_zero,Option.some.injEq] at hq;subst hq;exact ⟨_,B1.cell 1,HM.out⟩
  | i+2,hq=>simp at hq
 have HC:=Hi (concatName_any _ [n,m] w _ hNA (F0.trans F1) (by simp) (by simp;omega));rw [show ([n,m]:List (List (List Part))).flatten=L from by rw [HLL.out];simp] at HC;have HN0:=Hi (N0.old F1);have HF1:=Hi (F0.trans F1);clear N0 B0 B1 F0 F1 hNA;go_wp2_with fail
 refine HC.out.mono ?_
 rintro e w2 ⟨⟨ac,cc,rfl,hat⟩,F2⟩
 have hs1:w.heap.size+2≤w2.heap.size:=by have:=F2.size;simp only [World.size_alloc] at this;omega
 have HN2:=Hi (HN0.out.old F2);have HF2:=Hi (HF1.out.trans F2);have hbk:=hat.keep;simp only [World.size_alloc] at hbk;have HBK:=Hi hbk;have HAT:=Hi hat;clear HC F2 hat HN0 HF1 hbk;go_wp2_with fail
 go_loopg [6,15] L.length (fun g s i wr=>∃ (j:Nat) (a3:Option Addr) (c3:Nat) (base:Nat),g=L.length-j∧j≤L.length∧s=.slice a3 j c3∧i=.int .i64 j∧GRow 1 RStep (fun k=>k<w.heap.size) 100 wr w.heap.size (.slice a3 j c3) (L.take j)∧Fr (fun _=>False) w wr∧w2.heap.size≤wr.heap.size∧CRow 100 w wr base (.slice ac L.length cc) L∧(∀ k,(Value.slice a3 j c3).ownBlock=some k→k=w.heap.size∨w2.heap.size≤k))
 case atStart=>exact ⟨0,_,0,_,rfl,Nat.zero_le _,rfl,rfl,HN2.out,HF2.out,Nat.le_refl _,HAT.out,fun k hk=>.inl (by simpa [Value.ownBlock] using hk.symm)⟩
 case round=>
  obtain ⟨j,a3,c3,base,hg,hj,rfl,rfl,hrow,F,hsz,hcr,hown⟩:=hrel;have HG:=Hi hg;have HRW:=Hi hrow;have HF:=Hi F;have HCR:=Hi hcr;have HOWN:=Hi hown;have hml:(L.take j).length=j:=by rw [List.length_take];omega
  have HML:=Hi hml;clear hg hrow hml hcr hown;by_cases hjl:j<L.length
  ·obtain ⟨us,g1,g2,g3⟩:=HCR.out
   obtain ⟨a0,cap0,he,_,_,hx⟩:=(Vals.of_own g1).1;rw [g2] at he hx;simp only [Value.slice.injEq,true_and] at he;obtain ⟨rfl,rfl⟩:=he;obtain ⟨b,off,rfl,hy⟩:=hx (by omega);obtain ⟨r,hr⟩:∃ r,L[j]? = some r:=⟨_,List.getElem?_eq_getElem hjl⟩
   obtain ⟨x,hxu⟩:∃ x,us[j]? = some x:=⟨_,List.getElem?_eq_getElem (by omega)⟩
   have e1:=hy j x hxu;have hA:=(g3 j x r hxu hr).old F;obtain ⟨ar,cr,rfl⟩:=hA.form;have hmem:=List.mem_of_getElem? hr;obtain ⟨h1,h2,h3⟩:=HS.out r hmem;have HCP:=Hi (copied_any _ r wr hA h2 (fun p hp=>⟨h3 p hp,by have:=h1 p hp;omega⟩));have HMT:=Hi (show L.take (j+1)=L.take j++[r] from by rw [List.take_add_one,hr];rfl);have r1:(0:Int)≤(j:Int):=by omega
   have r2:(j:Int)<(L.length:Int):=by omega
   clear g1 g2 g3 hx hy hr hxu hA hmem h1 h3 F;obtain ⟨wo,hwo⟩:∃ wo:World,wo=wr:=⟨_,rfl⟩
   obtain rfl:=hwo
   go_wp2_with fail
   refine HCP.out.mono ?_
   rintro e w3 ⟨⟨a2,c2,rfl,hrow2⟩,F3⟩
   have hkp:=HRW.out.keep;have hk2:Kept (fun W=>RStep W [.slice a2 r.length c2] r) (fun k=>(Value.slice a3 j c3).ownBlock=some k∨k<w.heap.size) w3:=step_of (hrow2.kept.weaken (fun k e=>by
    rcases e with e | e
    ·exact (hkp k e).2
    ·exact Nat.lt_of_lt_of_le e HF.out.size))
   obtain ⟨a7,c7,w7,hrun,hrow7,F7,hown7⟩:=GRow.add Tryz.underlying37 info100 rfl (by decide) (by decide) (HRW.out.old F3) (HF.out.trans F3).size ((Fr.refl w3).alloc (.cells #[.slice a2 r.length c2] 100)) w3.heap.size [.slice a2 r.length c2] rfl (Blk.new w3 100 #[.slice a2 r.length c2]) (by intro u hu;simp at hu;subst hu;rfl) r hk2 (by rw [HML.out];omega);have HG7:=Hi ((HF.out.trans F3).trans' F7 (fun i hi e=>absurd hi (by have:=(hkp i e).1;omega)));have hs7:w2.heap.size≤w7.heap.size:=by have:=F3.size;have:=F7.size;omega
   have hcr7:=(HCR.out.fr F3 (fun _ _ h=>h)).fr F7 (fun k hk e=>by
    have:=HBK.out k hk
    rcases HOWN.out k e with h | h<;>omega)
   rw [HML.out] at hrun hrow7 hown7;have HRUN:=Hi hrun;have HROW7:=Hi hrow7;have HCR7:=Hi hcr7;have HOWN7:=Hi (show ∀ k,(Value.slice a7 (j+1) c7).ownBlock=some k→k=w.heap.size∨w2.heap.size≤k from fun k hk=>by
    rcases hown7 k hk with h | h
    ·exact HOWN.out k h
    ·have:=F3.size;exact .inr (by omega))
   clear hrun hrow7 F7 hk2 hkp hrow2 F3 e1 HCP hcr7 hown7;go_wp2_with (at_builtin;refine wpList_append_run (by rfl) (.tmp 19) (.tmp 22) 37 (by rfl) _ w7 (by exact HRUN.out) ?_)
   go_roundg (L.length-(j+1))
   case measure=>rw [HG.out];omega
   case rel=>exact ⟨j+1,a7,c7,base,rfl,by omega,rfl,by go_num,by rw [HMT.out];exact HROW7.out,HG7.out,hs7,HCR7.out,HOWN7.out⟩
  ·obtain rfl:j=L.length:=by omega
   have hrow:=HRW.out;rw [List.take_length] at hrow;have HAT2:=Hi (hrow.at (by decide)).name;have HKP:=Hi ((hrow.kept (by decide) (fun k=>k<w.heap.size) (fun k h=>⟨h,h⟩)).imp (fun W h=>h.name));have hfw:∀ r∈L,fewB r:=fun r hr=>(HS.out r hr).1
   have HFW:=Hi hfw;have HRI:=Hi (right_any _ L wr HAT2.out hfw);clear hrow hfw;go_wp2_with fail
   refine HRI.out.mono ?_
   rintro e w3 ⟨rfl,F3⟩
   have HG3:=Hi (HF.out.trans F3);have HAT3:=Hi (HKP.out.old F3);clear F3 HRI;cases hok:nameOk L with
   | false=>
    have HK:=Hi hok;clear hok;go_wp2_with fail
    refine bodyPost_ret (v:=.tuple #[.slice none 0 0,.int .i64 1]) (by simp [results,Tryz.results64,go_sem]) rfl ⟨?_,HG3.out⟩
    unfold AddKeep
    rw [if_neg (by rw [HK.out];simp)]
   | true=>
    have HK:=Hi hok;clear hok;go_wp2_with fail
    refine bodyPost_ret (v:=.tuple #[.slice a3 L.length c3,.int .i64 0]) (by simp [results,Tryz.results64,go_sem]) rfl ⟨?_,HG3.out⟩
    unfold AddKeep
    rw [if_pos HK.out];exact ⟨_,_,rfl,HAT3.out⟩
end Go.Proofs.YtehlipgmkinfbaaGreatDoor

namespace Go.Q
open Go Go.RowKit
def RName (W:World) (cs:List Value) (n:List (List Part)):Prop:=∃ u,cs=[u]∧NameAt W u n
abbrev NamesL (W:World) (v:Value) (l:List (List (List Part))):Prop:=LAt 1 RName W v l
theorem RName.old (w w':World) (cs:List Value) (n:List (List Part)) (h:RName w cs n) (f:Fr (fun _=>False) w w'):RName w' cs n:=by
 obtain ⟨u,rfl,h1⟩:=h;exact ⟨u,rfl,h1.old f⟩
theorem NamesL.old {w w':World}{v:Value}{l:List (List (List Part))}(h:NamesL w v l) (f:Fr (fun _=>False) w w'):NamesL w' v l:=LAt.old RName.old h f
def namesS (l:List Gen):List (List (List Part)):=(l.filter fun g=>decide (g.k=4)&&genOk g).map (·.n)
def fitN (n:List (List Part)):Prop:=n.length≤1000∧∀ r∈n,fewB r∧r.length≤1000000∧∀ p∈r,p.o.length≤100000000000
end Go.Q
namespace Go.Proofs.YtehlipgmkinfbaaGreatDoor
open Go Go.RowKit Go.Q
theorem nameAdd_ok (v:Value) (n:List (List Part)) (w:World) (h:NameAt w v n) (hf:fitN n) (hok:nameOk n=true) :
  Calls Tryz.prog 64 #[v,.slice none 0 0] w fun e w'=>(∃ a c,e=.returned (.tuple #[.slice a n.length c,.int .i64 0])∧Kept (fun W=>NameAt W (.slice a n.length c) n) (fun k=>k<w.heap.size) w')∧Fr (fun _=>False) w w':=
 (nameAddK_any v (.slice none 0 0) n [] w h (name_nil (fun _=>True) w).now hf.1 (by simp) (by rw [List.append_nil];exact hf.2)).mono fun e w' ⟨h1,h2⟩=>by
   unfold AddKeep at h1
   rw [List.append_nil,if_pos hok] at h1;exact ⟨h1,h2⟩
end Go.Proofs.YtehlipgmkinfbaaGreatDoor

namespace Go.Q
open Go Go.RowKit
def putL (W:World) (z:Nat):Nat→List Value→World
 | _,[]=>W
 | i,v::l=>putL (W.setCell ⟨z,i,none⟩ v) z (i+1) l
theorem setL_take {cs:Array Value}{pre:List Value}{v:Value}{rest:List Value}{x:Value}(h:cs.toList=pre++x::rest):(cs.setIfInBounds pre.length v).toList=(pre++[v])++rest:=by
 rw [Array.toList_setIfInBounds,h,List.set_append_right _ _ (Nat.le_refl _),Nat.sub_self,List.set_cons_zero,List.append_assoc];rfl
theorem putL_blk {t:TypeId}{z:Nat}:∀ (l rest pre:List Value) (W:World) (cs:Array Value),Blk W z t cs→cs.toList=pre++rest→rest.length=l.length→Blk (putL W z pre.length l) z t (pre++l).toArray∧Fr (fun k=>k=z) W (putL W z pre.length l)
 | [],rest,pre,W,cs,h,he,hl=>by
  have hr:rest=[]:=List.length_eq_zero_iff.1 hl
  rw [hr,List.append_nil] at he;have hc:cs=pre.toArray:=by rw [←he]
  rw [List.append_nil,←hc];exact ⟨h,Fr.refl W⟩
 | v::l,rest,pre,W,cs,h,he,hl=>by
  match rest,hl with
  | x::rest,hl=>
   have h1:=h.set pre.length v;have h2:=setL_take (v:=v) he;have h3:=putL_blk l rest (pre++[v]) _ _ h1 h2 (by simpa using hl);rw [List.length_append,List.length_singleton,List.append_assoc] at h3;exact ⟨h3.1,(Fr.setCell (S:=fun k=>k=z) (p:=⟨z,pre.length,none⟩) (Fr.refl W) (fun _=>rfl) v).trans h3.2⟩
theorem putL_all {t:TypeId}{z:Nat}{W:World}{Z:List Value}(h:Blk W z t Z.toArray) {l:List Value}(hl:Z.length=l.length):Blk (putL W z 0 l) z t l.toArray∧Fr (fun k=>k=z) W (putL W z 0 l):=
 putL_blk l Z [] W Z.toArray h (by simp) hl
def BagZ (Z:List Value) (t:TypeId) (w0 W:World) (l:List Nat):Prop:=Fr (fun _=>False) w0 W∧l.Nodup∧∀ z∈l,w0.heap.size≤z∧Blk W z t Z.toArray
section
variable {Z:List Value}{t:TypeId}{w0 W W':World}{l:List Nat}
theorem BagZ.nil (Z:List Value) (t:TypeId) (w:World):BagZ Z t w w []:=⟨Fr.refl w,List.nodup_nil,fun z hz=>by simp at hz⟩
theorem BagZ.lt (h:BagZ Z t w0 W l):∀ z∈l,z<W.heap.size:=fun z hz=>(h.2.2 z hz).2.lt
theorem BagZ.more (h:BagZ Z t w0 W l):BagZ Z t w0 (W.alloc (.cells Z.toArray t)) (W.heap.size::l):=by
 refine ⟨h.1.alloc _,List.nodup_cons.2 ⟨fun hm=>Nat.lt_irrefl _ (h.lt _ hm),h.2.1⟩,fun z hz=>?_⟩
 rcases List.mem_cons.1 hz with rfl | hz
 ·exact ⟨h.1.size,Blk.new _ _ _⟩
 ·exact ⟨(h.2.2 z hz).1,(h.2.2 z hz).2.alloc _⟩
theorem BagZ.two (h:BagZ Z t w0 W l):BagZ Z t w0 ((W.alloc (.cells Z.toArray t)).alloc (.cells Z.toArray t)) ((W.heap.size+1)::W.heap.size::l):=by
 have:=h.more.more
 rwa [World.size_alloc] at this
theorem BagZ.call (h:BagZ Z t w0 W l) (F:Fr (fun _=>False) W W'):BagZ Z t w0 W' l:=⟨h.1.trans F,h.2.1,fun z hz=>⟨(h.2.2 z hz).1,(h.2.2 z hz).2.fr F (fun h=>h)⟩⟩
theorem BagZ.drew (h:BagZ Z t w0 W l):BagZ Z t w0 W.drew l:=⟨h.1.drew,h.2.1,fun z hz=>⟨(h.2.2 z hz).1,(h.2.2 z hz).2.drew⟩⟩
abbrev HeldL (R:World→Prop) (l:List Nat) (W:World):Prop:=Kept R (fun k=>k∈l) W
theorem HeldL.more {R:World→Prop}(h:HeldL R l W) (o:Obj):HeldL R (W.heap.size::l) (W.alloc o):=Kept.step h (S:=fun _=>False) ((Fr.refl W).alloc o) (fun _ _ h=>h.elim) (fun k hk=>by
 rcases List.mem_cons.1 hk with rfl | hk
 ·exact .inr (Nat.le_refl _)
 ·exact .inl hk)
theorem HeldL.two {R:World→Prop}(h:HeldL R l W) (o q:Obj):HeldL R ((W.heap.size+1)::W.heap.size::l) ((W.alloc o).alloc q):=by
 have:=(h.more o).more q
 rwa [World.size_alloc] at this
theorem BagZ.held (h:BagZ Z t w0 W l) {R:World→Prop}{w':World}(hk:Kept R (fun k=>k<W.heap.size) w'):HeldL R l w':=fun V f=>hk V (f.mono (fun k _ hm=>h.lt k hm))
end
def DoneL (t:TypeId) (w0:World) (R:World→Prop) (a d:List Value) (V:World) (p q:Nat):Prop:=Blk V p t a.toArray∧Blk V q t d.toArray∧R V∧Fr (fun _=>False) w0 V
section
variable {Z:List Value}{t:TypeId}{w0 W:World}{R:World→Prop}{a d:List Value}
end
end Go.Q

namespace Go.Proofs.YtehlipgmkinfbaaGreatDoor
open Go Go.RowKit Go.Q
theorem one_new {w0 W:World}{R:World→Prop}{K K':Nat→Prop}(t:TypeId) (row:List Value) (F:Fr (fun _=>False) w0 W) (hk:Kept R K W) (hK:∀ k,K' k→K k∨W.heap.size≤k) :
  Blk (W.alloc (.cells row.toArray t)) W.heap.size t row.toArray∧Kept R K' (W.alloc (.cells row.toArray t))∧Fr (fun _=>False) w0 (W.alloc (.cells row.toArray t)):=
 ⟨Blk.new _ _ _,hk.step (S:=fun _=>False) ((Fr.refl W).alloc _) (fun _ _ h=>h.elim) hK,F.alloc _⟩
theorem one_put {w0 W:World}{R:World→Prop}{K:Nat→Prop}{t:TypeId}{Z:List Value}{z:Nat}(row:List Value) (hB:Blk W z t Z.toArray) (hl:Z.length=row.length) (F:Fr (fun _=>False) w0 W) (hz:w0.heap.size≤z) (hk:Kept R K W) (hK:K z) :
  Blk (putL W z 0 row) z t row.toArray∧Kept R K (putL W z 0 row)∧Fr (fun _=>False) w0 (putL W z 0 row):=by
 have h:=putL_all hB hl;exact ⟨h.1,hk.step h.2 (fun k _ e=>by rw [e];exact hK) (fun k hk=>.inl hk),F.trans' h.2 (fun i hi e=>by omega)⟩
theorem ixCopied_any (cs:List Value) (r:RowP) (w:World) (h:RRow w cs r) (hf:fitN r.iss) (hok:nameOk r.iss=true) (hs:r.num.size.length≤1000000) :
  Calls Tryz.prog 37 #[.agg cs.toArray] w fun e w'=>(∃ a c b d q,e=.returned (.agg #[.slice a r.iss.length c,.bool (madeS r.num).below,.slice b (madeS r.num).size.length d,.int .i64 r.date,.int .i64 r.reason,.pointer q])∧Kept (fun W=>RRow W [.slice a r.iss.length c,.bool (madeS r.num).below,.slice b (madeS r.num).size.length d,.int .i64 r.date,.int .i64 r.reason,.pointer q] (nrow r)) (fun k=>k<w.heap.size) w')∧Fr (fun _=>False) w w':=by
 obtain ⟨a,c,b,d,q,rfl,h1,h2,h3⟩:=h.form;obtain ⟨x,hx⟩:∃ x,x=madeS r.num:=⟨_,rfl⟩
 have HRR:=Hi (fun W (vi vs vp:Value) (g1:NameAt W vi r.iss) (g2:Bytes W vs x.size) (g3:InvAt W vp r.inv)=>show RRow W [vi,.bool x.below,vs,.int .i64 r.date,.int .i64 r.reason,vp] (nrow r) from by
  subst hx;exact ⟨vi,vs,vp,rfl,g1,g2,g3⟩)
 rw [←hx];obtain ⟨z,hz⟩:∃ z,z=w.heap.size:=⟨_,rfl⟩
 have HZ:=Hi hz;have F0:Fr (fun _=>False) w ((w.alloc (.cells #[.slice a r.iss.length c,.bool r.num.below,.slice b r.num.size.length d,.int .i64 r.date,.int .i64 r.reason,.pointer q] 43)).alloc (.cells #[.slice none 0 0,.bool false,.slice none 0 0,.int .i64 0,.int .i64 0,.pointer none] 43)):=((Fr.refl w).alloc _).alloc _
 have BA:=(Blk.new w 43 #[.slice a r.iss.length c,.bool r.num.below,.slice b r.num.size.length d,.int .i64 r.date,.int .i64 r.reason,.pointer q]).alloc (.cells #[.slice none 0 0,.bool false,.slice none 0 0,.int .i64 0,.int .i64 0,.pointer none] 43);have BD:=Blk.new (w.alloc (.cells #[.slice a r.iss.length c,.bool r.num.below,.slice b r.num.size.length d,.int .i64 r.date,.int .i64 r.reason,.pointer q] 43)) 43 #[.slice none 0 0,.bool false,.slice none 0 0,.int .i64 0,.int .i64 0,.pointer none]
 have hs0:((w.alloc (.cells #[.slice a r.iss.length c,.bool r.num.below,.slice b r.num.size.length d,.int .i64 r.date,.int .i64 r.reason,.pointer q] 43)).alloc (.cells #[.slice none 0 0,.bool false,.slice none 0 0,.int .i64 0,.int .i64 0,.pointer none] 43)).heap.size=z+2:=by rw [World.size_alloc,World.size_alloc,hz]
 rw [World.size_alloc,←hz] at BD;rw [←hz] at BA;have HAD:=Hi (fun W (F:Fr (fun _=>False) ((w.alloc (.cells #[.slice a r.iss.length c,.bool r.num.below,.slice b r.num.size.length d,.int .i64 r.date,.int .i64 r.reason,.pointer q] 43)).alloc (.cells #[.slice none 0 0,.bool false,.slice none 0 0,.int .i64 0,.int .i64 0,.pointer none] 43)) W)=>nameAdd_ok _ r.iss W ((h1.old F0).old F) hf hok)
 have HWA:=Hi (fun W (F:Fr (fun _=>False) ((w.alloc (.cells #[.slice a r.iss.length c,.bool r.num.below,.slice b r.num.size.length d,.int .i64 r.date,.int .i64 r.reason,.pointer q] 43)).alloc (.cells #[.slice none 0 0,.bool false,.slice none 0 0,.int .i64 0,.int .i64 0,.pointer none] 43)) W)=>wAdd0_any r.num.below _ r.num.size x hx W ((h2.old F0).old F) (by omega))
 have HIN:=Hi (fun W (F:Fr (fun _=>False) ((w.alloc (.cells #[.slice a r.iss.length c,.bool r.num.below,.slice b r.num.size.length d,.int .i64 r.date,.int .i64 r.reason,.pointer q] 43)).alloc (.cells #[.slice none 0 0,.bool false,.slice none 0 0,.int .i64 0,.int .i64 0,.pointer none] 43)) W)=>(h3.old F0).old F);have HF0:=Hi F0;have HS0:=Hi hs0;clear h h1 h2 h3 hx hz F0 hs0 hs;go_enter Tryz.func37,Tryz.ntmps37
 go_upto_region 1 with fail
 rw [←HZ.out];generalize ((w.alloc (.cells #[.slice a r.iss.length c,.bool r.num.below,.slice b r.num.size.length d,.int .i64 r.date,.int .i64 r.reason,.pointer q] 43)).alloc (.cells #[.slice none 0 0,.bool false,.slice none 0 0,.int .i64 0,.int .i64 0,.pointer none] 43))=w0 at *
 have d0:=BA.cell 0;simp only [SG] at d0;go_wp2_with fail
 refine (HAD.out _ (Fr.refl w0)).mono ?_
 rintro e w1 ⟨⟨a1,c1,rfl,hk1⟩,F1⟩
 have HF1:=Hi F1;replace BA:=BA.fr F1 (fun h=>h);replace BD:=BD.fr F1 (fun h=>h);have HK1:=Hi hk1;have HBA:=Hi BA;have HBD:=Hi BD;have hs1:z+2≤w1.heap.size:=by have:=F1.size;have:=HS0.out;omega
 have HS1:=Hi hs1;clear HAD hk1 F1 BA BD d0 hs1;go_upto_region 2 with fail
 go_cut [5] from 13 to 22 (fun s5 wc=>∃ z5 b2 d2,s5=.pointer (some ⟨z5,0,none⟩)∧w1.heap.size≤z5∧Blk wc z5 43 #[.slice a1 r.iss.length c1,.bool x.below,.slice b2 x.size.length d2,.int .i64 r.date,.int .i64 r.reason,.pointer none]∧Kept (fun W=>NameAt W (.slice a1 r.iss.length c1) r.iss∧Bytes W (.slice b2 x.size.length d2) x.size) (fun k=>k<z+2∨k=z5) wc∧Fr (fun _=>False) w1 wc)
 case first=>
  have BA:=HBA.out.drew;have hsd:w1.drew.heap.size=w1.heap.size:=rfl
  have G:Fr (fun _=>False) w1 w1.drew:=(Fr.refl w1).drew
  have HG1:=Hi (HF1.out.trans G);have GA:Fr (fun _=>False) w1 (w1.alloc (.cells #[.slice none 0 0,.bool false,.slice none 0 0,.int .i64 0,.int .i64 0,.pointer none] 43)).drew:=((Fr.refl w1).alloc (.cells #[.slice none 0 0,.bool false,.slice none 0 0,.int .i64 0,.int .i64 0,.pointer none] 43)).drew
  have HG2:=Hi (HF1.out.trans GA);have BZ:=(HBA.out.alloc (.cells #[.slice none 0 0,.bool false,.slice none 0 0,.int .i64 0,.int .i64 0,.pointer none] 43)).drew
  go_region_held3 (fun w'=>∀ j,w'.cell? ⟨z,j,none⟩=(#[.slice a r.iss.length c,.bool r.num.below,.slice b r.num.size.length d,.int .i64 r.date,.int .i64 r.reason,.pointer q]:Array Value)[j]?) (first | (with_reducible exact BA.cell) | (with_reducible exact BZ.cell) | (with_reducible exact PB.cell) | (refine (BA.fr (S:=fun _=>False) ?_ (fun h=>h)).cell<;>(repeat' (first | (with_reducible exact Fr.refl _) | (with_reducible refine Fr.alloc ?_ _)))) | fail) (first
   | (go_at_call 65;(with_reducible refine (HWA.out _ HG1.out).mono ?_);rintro e w' ⟨⟨b2,d2,rfl,hq⟩,F⟩;have hle:=F.size;have HE:=Hi (one_new 43 [.slice a1 r.iss.length c1,.bool x.below,.slice b2 x.size.length d2,.int .i64 r.date,.int .i64 r.reason,.pointer none] (G.trans F) (Kept.both ((HK1.out.old (G.trans F)).weaken (K':=fun k=>k<z+2) (fun k hk=>by have:=HS0.out;omega)) (hq.weaken (fun k hk=>by have:=HS1.out;omega))) (K':=fun k=>k<z+2∨k=w'.heap.size) (fun k hk=>by rcases hk with hk | hk;exact .inl hk;exact .inr (by omega)));replace BA:=BA.fr F (fun h=>h);replace hle:=Nat.le_trans (Nat.le_of_eq hsd.symm) hle;clear F hq)
   | (go_at_call 65;(with_reducible refine (HWA.out _ HG2.out).mono ?_);rintro e w' ⟨⟨b2,d2,rfl,hq⟩,F⟩;have hle:=hsd;have BN:=(Blk.new w1 43 #[.slice none 0 0,.bool false,.slice none 0 0,.int .i64 0,.int .i64 0,.pointer none]).drew.fr F (fun h=>h);have d0:=BN.cell 0;have d1:=BN.cell 1;have d2':=BN.cell 2;have d3:=BN.cell 3;have d4:=BN.cell 4;have d5:=BN.cell 5;have f0:=BN.frozen 0;have f1:=BN.frozen 1;have f2:=BN.frozen 2;have f3:=BN.frozen 3;have f4:=BN.frozen 4;have f5:=BN.frozen 5;simp only [SG] at d0 d1 d2' d3 d4 d5;have hk2:Kept (fun W=>NameAt W (.slice a1 r.iss.length c1) r.iss∧Bytes W (.slice b2 x.size.length d2) x.size) (fun k=>k<z+2∨k=w1.heap.size) w':=(Kept.both (HK1.out.step (GA.trans F) (K':=fun k=>k<z+2∨k=w1.heap.size) (fun _ _ h=>h.elim) (fun k hk=>by have:=HS0.out;rcases hk with hk | hk;exact .inl (by omega);exact .inr (by omega))) (hq.weaken (fun k hk=>by have:=HS1.out;have hq2:(w1.alloc (.cells #[.slice none 0 0,.bool false,.slice none 0 0,.int .i64 0,.int .i64 0,.pointer none] 43)).drew.heap.size=w1.heap.size+1:=World.size_alloc _ _;omega)));have HE:=Hi (one_put [.slice a1 r.iss.length c1,.bool x.below,.slice b2 x.size.length d2,.int .i64 r.date,.int .i64 r.reason,.pointer none] BN rfl (GA.trans F) (Nat.le_refl _) hk2 (.inr rfl));replace BA:=BZ.fr F (fun h=>h);have PB:=BA.fr (putL_all BN (l:=[.slice a1 r.iss.length c1,.bool x.below,.slice b2 x.size.length d2,.int .i64 r.date,.int .i64 r.reason,.pointer none]) rfl).2 (fun e=>by have e2:z=w1.heap.size:=e;have:=HS1.out;omega);simp only [putL] at PB;clear F hq hk2 BN)
   | fail)
  all_goals
   try clear d0 d1 d2' d3 d4 d5 f0 f1 f2 f3 f4 f5
   have h1:=HE.out;try simp only [putL] at h1
   replace h1:=Hi h1;clear HE;go_wp2_with fail
   go_meet
   refine ⟨_,b2,d2,rfl,?_,?_⟩
   ·first
    | exact hle
    | exact Nat.le_refl _
    | fail
   ·with_reducible exact h1.out
 case rest=>
  obtain ⟨z5,b2,d2,rfl,hz5,B5,hk,F5⟩:=hcut;have HK:=Hi hk;have HF5:=Hi F5;have HB5:=Hi B5;have HB1:=Hi (HBA.out.fr F5 (fun h=>h));have HB2:=Hi (HBD.out.fr F5 (fun h=>h));have HZ5:=Hi hz5;have HFI:=Hi (HF0.out.trans (HF1.out.trans F5));have hiv:=HIN.out _ (HF1.out.trans F5);clear hk F5 B5 hz5 HWA HBA HBD;have d5:=HB1.out.cell 5;simp only [SG] at d5;cases hri:r.inv with
  | none=>
   rw [hri] at hiv;simp only [InvAt,Value.pointer.injEq] at hiv;subst hiv;have hkr:=HK.out.imp (fun W g=>HRR.out W _ _ (.pointer none) g.1 g.2 (by rw [hri];rfl));have P:=putL_all HB2.out (l:=[.slice a1 r.iss.length c1,.bool x.below,.slice b2 x.size.length d2,.int .i64 r.date,.int .i64 r.reason,.pointer none]) rfl;have hkf:=hkr.step P.2 (K':=fun k=>k<w.heap.size) (fun k _ e=>by have e2:k=z+1:=e;omega) (fun k hk=>by have:=HZ.out;exact .inl (by omega));have hff:=HFI.out.trans' P.2 (fun i hi e=>by have e2:i=z+1:=e;have:=HZ.out;omega);have HKF:=Hi hkf;have HFF:=Hi hff;have HPB:=Hi P.1;clear P hkf hff
   simp only [putL] at HKF HFF HPB;have k0:=HB5.out.cell 0;have k1:=HB5.out.cell 1;have k2:=HB5.out.cell 2;have k3:=HB5.out.cell 3;have k4:=HB5.out.cell 4;have k5:=HB5.out.cell 5;have m0:=HB2.out.cell 0;have m1:=HB2.out.cell 1;have m2:=HB2.out.cell 2;have m3:=HB2.out.cell 3;have m4:=HB2.out.cell 4;have m5:=HB2.out.cell 5;have f0:=HB2.out.frozen 0;have f1:=HB2.out.frozen 1;have f2:=HB2.out.frozen 2;have f3:=HB2.out.frozen 3;have f4:=HB2.out.frozen 4;have f5:=HB2.out.frozen 5;simp only [SG] at k0 k1 k2 k3 k4 k5 m0 m1 m2 m3 m4 m5;go_wp2_with fail
   clear k0 k1 k2 k3 k4 k5 m0 m1 m2 m3 m4 m5 f0 f1 f2 f3 f4 f5;generalize ((((((wc.setCell ⟨z+1,0,none⟩ (.slice a1 r.iss.length c1)).setCell ⟨z+1,1,none⟩ (.bool x.below)).setCell ⟨z+1,2,none⟩ (.slice b2 x.size.length d2)).setCell ⟨z+1,3,none⟩ (.int .i64 r.date)).setCell ⟨z+1,4,none⟩ (.int .i64 r.reason)).setCell ⟨z+1,5,none⟩ (.pointer none))=w9 at *
   have PB:=HPB.out;have n0:=PB.cell 0;have n1:=PB.cell 1;have n2:=PB.cell 2;have n3:=PB.cell 3;have n4:=PB.cell 4;have n5:=PB.cell 5;simp only [SG] at n0 n1 n2 n3 n4 n5;refine bodyPost_ret (v:=.agg #[.slice a1 r.iss.length c1,.bool x.below,.slice b2 x.size.length d2,.int .i64 r.date,.int .i64 r.reason,.pointer none]) (by simp [results,Tryz.results37,go_sem,n0,n1,n2,n3,n4,n5]) rfl ⟨⟨a1,c1,b2,d2,none,rfl,HKF.out⟩,HFF.out⟩
  | some t=>
   rw [hri] at hiv;obtain ⟨bq,oq,hq,hcq⟩:=hiv;simp only [Value.pointer.injEq] at hq;subst hq;have HRI:=Hi hri;clear hri;go_upto_region 5 with fail
   obtain ⟨z6,hz6⟩:∃ z6,z6=wc.heap.size:=⟨_,rfl⟩
   have N6:=Blk.new wc 3 #[.int .i64 t];have M5:=HB5.out.alloc (.cells #[.int .i64 t] 3);have M2:=HB2.out.alloc (.cells #[.int .i64 t] 3);have hl5:=HB5.out.lt;have hl2:=HB2.out.lt;have hz5:=HZ5.out;have hs1:=HS1.out;have k5:=M5.cell 5;have f5:=M5.frozen 5;simp only [SG] at k5;have FE:=Fr.setCell (S:=fun k=>k=z5) (p:=⟨z5,5,none⟩) ((Fr.refl wc).alloc (.cells #[.int .i64 t] 3)) (fun _=>rfl) (.pointer (some ⟨z6,0,none⟩));rw [←hz6] at N6;have N6s:=N6.set_other (a:=⟨z5,5,none⟩) (by show z6≠z5;omega) (.pointer (some ⟨z6,0,none⟩))
   have M2s:=M2.set_other (a:=⟨z5,5,none⟩) (by show z+1≠z5;omega) (.pointer (some ⟨z6,0,none⟩));have M5s:=M5.set 5 (.pointer (some ⟨z6,0,none⟩));simp only [List.setIfInBounds_toArray,List.set_cons_succ,List.set_cons_zero] at M5s;have hke:Kept (fun W=>RRow W [.slice a1 r.iss.length c1,.bool x.below,.slice b2 x.size.length d2,.int .i64 r.date,.int .i64 r.reason,.pointer (some ⟨z6,0,none⟩)] (nrow r)) (fun k=>k<z+2∨k=z5) ((wc.alloc (.cells #[.int .i64 t] 3)).setCell ⟨z5,5,none⟩ (.pointer (some ⟨z6,0,none⟩))):=by
    have g1:=HK.out.step FE (K':=fun k=>k<z+2∨k=z5) (fun k _ e=>.inr e) (fun k hk=>.inl hk);have g2:Kept (fun W=>W.cell? ⟨z6,0,none⟩=some (.int .i64 t)) (fun k=>k<z+2∨k=z5) ((wc.alloc (.cells #[.int .i64 t] 3)).setCell ⟨z5,5,none⟩ (.pointer (some ⟨z6,0,none⟩))):=fun V f=>f.cell (N6s.cell 0) (fun h=>by rcases h with h | h<;>(simp only at h;omega))
    exact (Kept.both g1 g2).imp (fun W g=>HRR.out W _ _ (.pointer (some ⟨z6,0,none⟩)) g.1.1 g.1.2 (by rw [HRI.out];exact ⟨_,_,rfl,g.2⟩))
   have hfe:=HFI.out.trans' FE (fun i hi e=>by have e2:i=z5:=e;have:=HZ.out;omega);have HKE:=Hi hke;have HFE:=Hi hfe;replace M5:=Hi M5s;replace M2:=Hi M2s;have HZ6:=Hi hz6;clear hke hfe FE N6 N6s M5s M2s hz6 hl5 hl2 hz5 hs1;go_upto_region 6 with fail
   clear k5 f5;rw [←HZ6.out];generalize ((wc.alloc (.cells #[.int .i64 t] 3)).setCell ⟨z5,5,none⟩ (.pointer (some ⟨z6,0,none⟩)))=we at *
   have P:=putL_all M2.out (l:=[.slice a1 r.iss.length c1,.bool x.below,.slice b2 x.size.length d2,.int .i64 r.date,.int .i64 r.reason,.pointer (some ⟨z6,0,none⟩)]) rfl;have hkf:=HKE.out.step P.2 (K':=fun k=>k<w.heap.size) (fun k _ e=>by have e2:k=z+1:=e;omega) (fun k hk=>by have:=HZ.out;exact .inl (by omega));have hff:=HFE.out.trans' P.2 (fun i hi e=>by have e2:i=z+1:=e;have:=HZ.out;omega);have HKF:=Hi hkf;have HFF:=Hi hff;have HPB:=Hi P.1;clear P hkf hff;simp only [putL] at HKF HFF HPB;have k0:=M5.out.cell 0;have k1:=M5.out.cell 1;have k2:=M5.out.cell 2;have k3:=M5.out.cell 3
   have k4:=M5.out.cell 4;have k5:=M5.out.cell 5;have m0:=M2.out.cell 0;have m1:=M2.out.cell 1;have m2:=M2.out.cell 2;have m3:=M2.out.cell 3;have m4:=M2.out.cell 4;have m5:=M2.out.cell 5;have f0:=M2.out.frozen 0;have f1:=M2.out.frozen 1;have f2:=M2.out.frozen 2;have f3:=M2.out.frozen 3;have f4:=M2.out.frozen 4;have f5:=M2.out.frozen 5;simp only [SG] at k0 k1 k2 k3 k4 k5 m0 m1 m2 m3 m4 m5;go_wp2_with fail
   clear k0 k1 k2 k3 k4 k5 m0 m1 m2 m3 m4 m5 f0 f1 f2 f3 f4 f5;generalize ((((((we.setCell ⟨z+1,0,none⟩ (.slice a1 r.iss.length c1)).setCell ⟨z+1,1,none⟩ (.bool x.below)).setCell ⟨z+1,2,none⟩ (.slice b2 x.size.length d2)).setCell ⟨z+1,3,none⟩ (.int .i64 r.date)).setCell ⟨z+1,4,none⟩ (.int .i64 r.reason)).setCell ⟨z+1,5,none⟩ (.pointer (some ⟨z6,0,none⟩)))=w9 at *
   have PB:=HPB.out;have n0:=PB.cell 0;have n1:=PB.cell 1;have n2:=PB.cell 2;have n3:=PB.cell 3;have n4:=PB.cell 4;have n5:=PB.cell 5;simp only [SG] at n0 n1 n2 n3 n4 n5;refine bodyPost_ret (v:=.agg #[.slice a1 r.iss.length c1,.bool x.below,.slice b2 x.size.length d2,.int .i64 r.date,.int .i64 r.reason,.pointer (some ⟨z6,0,none⟩)]) (by simp [results,Tryz.results37,go_sem,n0,n1,n2,n3,n4,n5]) rfl ⟨⟨a1,c1,b2,d2,_,rfl,HKF.out⟩,HFF.out⟩
end Go.Proofs.YtehlipgmkinfbaaGreatDoor

namespace Go.Q
open Go Go.RowKit
def fitR (r:RowP):Prop:=fitN r.iss∧nameOk r.iss=true∧r.num.size.length≤1000000
theorem fitR_nrow {r:RowP}(h:fitR r):fitR (nrow r):=⟨h.1,h.2.1,by
 have:=trimS_le r.num.size
 have:=h.2.2
 show (trimS r.num.size).length≤_
 omega⟩
end Go.Q
namespace Go.Proofs.YtehlipgmkinfbaaGreatDoor
open Go Go.RowKit Go.Q
theorem info43:(Tryz.prog.info? 43).map (fun i=>(i.zero,i.size,i.bytes))=some (some (.agg #[.slice none 0 0,.bool false,.slice none 0 0,.int .i64 0,.int .i64 0,.pointer none]),6,80):=by kernel_rfl
theorem rows_any (v:Value) (l:List RowP) (w:World) (h:Slots w v l) (hf:∀ r∈l,fitR r) (hl:l.length≤1000000) :
  Calls Tryz.prog 48 #[v] w fun e w'=>(∃ a c,e=.returned (.slice a l.length c)∧Go.Q.Rows w' (.slice a l.length c) (l.map nrow))∧Fr (fun _=>False) w w':=by
 have H:=Hi h;have HFT:=Hi hf;obtain ⟨a0,c0,rfl,-⟩:=h;clear hf;go_enter Tryz.func48,Tryz.ntmps48
 go_wp2_with fail
 go_loopg [3,8] l.length (fun g u i wr=>∃ (j:Nat) (a:Option Addr) (c:Nat) (gs:List RowP),g=l.length-j∧j≤l.length∧u=.slice a gs.length c∧i=.int .i64 j∧gs.length=j∧Hid (gs=(l.take j).map nrow)∧GRow 6 RRow (fun _=>False) 43 wr w.heap.size (.slice a gs.length c) gs∧Fr (fun _=>False) w wr)
 case atStart=>exact ⟨0,none,0,[],rfl,Nat.zero_le _,rfl,rfl,rfl,Hi rfl,GRow.nil _ _ _ _ _ _,Fr.refl _⟩
 case round=>
  obtain ⟨j,a,c,gs,hg,hj,rfl,rfl,hgl,HGS,hrow,F⟩:=hrel;have HG:=Hi hg;have HGL:=Hi hgl;have HRW:=Hi hrow;have HF:=Hi F;clear hg hrow;by_cases hjl:j<l.length
  ·obtain ⟨r,hr⟩:∃ r,l[j]? = some r:=⟨_,List.getElem?_eq_getElem hjl⟩
   obtain ⟨b,o,cs,rfl,-,hcs,hR,hcell⟩:=LAt.get (Slots.old H.out F) hr;obtain ⟨us,rfl,hrr⟩:=hR;have hrr0:=hrr;obtain ⟨a1,c1,b1,d1,q1,rfl,-⟩:=hrr.form;have e0:=hcell 0 _ rfl;have e1:=hcell 1 _ rfl;have e2:=hcell 2 _ rfl;have e3:=hcell 3 _ rfl;have e4:=hcell 4 _ rfl;have e5:=hcell 5 _ rfl;have e6:=hcell 6 _ rfl;have p1:(j:Int)<(l.length:Int):=by omega
   have p2:(0:Int)≤(j:Int):=by omega
   have HTK:=Hi (show (l.take (j+1)).map nrow=(l.take j).map nrow++[nrow r] by rw [List.take_add_one,hr,List.map_append];rfl);have hft:=HFT.out r (List.mem_of_getElem? hr);have HC:=Hi (fun W (F:Fr (fun _=>False) wr W)=>ixCopied_any _ r W (RRow.old _ _ _ _ hrr0 F) hft.1 hft.2.1 hft.2.2);simp only [Nat.add_zero] at e0;have BN:=Blk.new wr 78 #[str (nameKeyS r.iss),.slice a1 r.iss.length c1,.bool r.num.below,.slice b1 r.num.size.length d1,.int .i64 r.date,.int .i64 r.reason,.pointer q1];have n1:=BN.cell 1;have n2:=BN.cell 2;have n3:=BN.cell 3;have n4:=BN.cell 4;have n5:=BN.cell 5;have n6:=BN.cell 6
   simp only [SG] at n1 n2 n3 n4 n5 n6;have FA:Fr (fun _=>False) wr (wr.alloc (.cells #[str (nameKeyS r.iss),.slice a1 r.iss.length c1,.bool r.num.below,.slice b1 r.num.size.length d1,.int .i64 r.date,.int .i64 r.reason,.pointer q1] 78)):=(Fr.refl wr).alloc _
   have hsa:(wr.alloc (.cells #[str (nameKeyS r.iss),.slice a1 r.iss.length c1,.bool r.num.below,.slice b1 r.num.size.length d1,.int .i64 r.date,.int .i64 r.reason,.pointer q1] 78)).heap.size=wr.heap.size+1:=World.size_alloc _ _
   have HFA:=Hi FA;have HSA:=Hi hsa;have hkp:=HRW.out.keep;have HKP:=Hi hkp;clear hr hcell hrr hrr0 hft F hgl FA hsa BN hkp;go_wp2_with fail
   refine (HC.out _ HFA.out).mono ?_
   rintro e w2 ⟨⟨a2,c2,b2,d2,q2,rfl,hk⟩,F2⟩
   have FX:=HFA.out.trans F2;obtain ⟨x,hx⟩:∃ x,x=madeS r.num:=⟨_,rfl⟩
   rw [←hx] at hk ⊢
   obtain ⟨a7,c7,w7,hrun,hrow7,F7,-⟩:=(HRW.out.old FX).add (s:=23) Tryz.underlying23 info43 rfl (by decide) (by decide) (HF.out.trans FX).size ((Fr.refl w2).alloc (.cells [.slice a2 r.iss.length c2,.bool x.below,.slice b2 x.size.length d2,.int .i64 r.date,.int .i64 r.reason,.pointer q2].toArray 43)) w2.heap.size [.slice a2 r.iss.length c2,.bool x.below,.slice b2 x.size.length d2,.int .i64 r.date,.int .i64 r.reason,.pointer q2] rfl (Blk.new w2 43 [.slice a2 r.iss.length c2,.bool x.below,.slice b2 x.size.length d2,.int .i64 r.date,.int .i64 r.reason,.pointer q2].toArray) (by simp [Value.oneCell']) (nrow r) (hk.weaken (fun k hk=>by
     rcases hk with hk | hk
     ·have:=(HKP.out k hk).2;have:=HSA.out;omega
     ·exact hk.elim)) (by have:=HGL.out;omega)
   have HRUN:=Hi hrun;have HRW7:=Hi hrow7;have HF7:=Hi ((HF.out.trans FX).trans' F7 (fun i hi e=>absurd hi (by have:=(HKP.out i e).1;omega)));have HGS7:=Hi (show gs++[nrow r]=(l.take (j+1)).map nrow by rw [HTK.out,HGS.out]);clear F2 hk hrun hrow7 F7 HC HRW FX hx n1 n2 n3 n4 n5 n6 e0 e1 e2 e3 e4 e5 e6;go_wp2_with (at_builtin;refine wpList_append_run (by rfl) (.tmp 12) (.tmp 16) 23 (by rfl) _ w7 (by exact HRUN.out) ?_)
   go_roundg (l.length-(j+1))
   case measure=>rw [HG.out];omega
   case rel=>exact ⟨j+1,a7,c7,gs++[nrow r],rfl,by omega,by rw [List.length_append];rfl,by go_num,by rw [List.length_append,HGL.out];rfl,HGS7,by rw [List.length_append];exact HRW7.out,HF7.out⟩
  ·have hgs:=HGS.out
   rw [List.take_of_length_le (by omega)] at hgs;have HE:=Hi hgs;clear hgs hgl;go_wp2_with fail
   go_ret
   have hx:=HRW.out.at (by decide);rw [HE.out] at hx ⊢;rw [List.length_map] at hx ⊢;exact ⟨⟨a,c,rfl,hx⟩,HF.out⟩
theorem ixAll_any (v:Value) (l:List RowP) (w:World) (h:IxAt w v l) (hf:∀ r∈l,fitR r) (hl:l.length≤1000000) :
  Calls Tryz.prog 15 #[v] w fun e w'=>(∃ a c,e=.returned (.slice a l.length c)∧Go.Q.Rows w' (.slice a l.length c) (l.map nrow))∧Fr (fun _=>False) w w':=by
 have H:=Hi (slots_any v l w h);have HF:=Hi hf;clear h hf;go_enter Tryz.func15,Tryz.ntmps15
 go_wp2_with fail
 refine H.out.mono ?_
 rintro e w1 ⟨⟨a,c,rfl,hs⟩,F1⟩
 have H2:=Hi (rows_any _ l w1 (Slots.old hs F1) HF.out hl);clear hs;go_wp2_with fail
 refine H2.out.mono ?_
 rintro e w2 ⟨⟨a2,c2,rfl,hr⟩,F2⟩
 have HR:=Hi hr;clear hr;go_wp2_with fail
 go_ret
 exact ⟨⟨a2,c2,rfl,HR.out⟩,F1.trans F2⟩
end Go.Proofs.YtehlipgmkinfbaaGreatDoor
