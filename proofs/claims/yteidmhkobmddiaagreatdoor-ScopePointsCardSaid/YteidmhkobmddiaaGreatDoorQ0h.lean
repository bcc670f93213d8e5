/-
  Merged by program: XNOidF XNFold XNFold2 XNUtf8 XNHex XNWords XNStep XNameOf XNConcat.
-/
import Derived.Test.YteidmhkobmddiaaGreatDoorQ0g
import Derived.Lib.AppendZerosOnto
import Derived.Lib.Walk
set_option linter.unusedSimpArgs false
set_option maxRecDepth 100000
set_option maxHeartbeats 8000000
namespace Go.Q
open Go Go.RowKit
def numsOf:List (List UInt8)→Option (List Int)
 | []=>some []
 |p::t=>match numTextS p with
  |none=>none
  |some n=>(numsOf t).map ((n:Int)::·)
def fromTextS (l:List UInt8):Except Int (List Int):=
 match numsOf (cutAt 46 l) with
 |none=>.error 6
 |some o=>if oidOk o=true then .ok o else .error 1
theorem cutAt_len (c:UInt8):∀ l:List UInt8,(cutAt c l).length≤l.length+1∧∀ p∈cutAt c l,p.length≤l.length
 | []=>by simp[cutAt]
 |x::t=>by
  obtain⟨h1,h2⟩:=cutAt_len c t
  unfold cutAt;split
  ·refine⟨by simp;omega,fun p hp=>?_⟩
   rcases List.mem_cons.1 hp with rfl|h
   ·simp
   ·have:=h2 p h;simp;omega
  ·split
   ·refine⟨by simp,fun p hp=>?_⟩
    rw[List.mem_singleton.1 hp]
    simp
   ·rename_i h r he
    rw[he]at h1 h2
    refine⟨by simp at h1 ⊢;omega,fun p hp=>?_⟩
    rcases List.mem_cons.1 hp with rfl|h
    ·have:=h2 h (by simp);simp;omega
    ·have:=h2 p (by simp[h]);simp;omega
theorem numsOf_next {ps:List (List UInt8)}{os:List Int}{j n:Nat}{p:List UInt8}(hR:numsOf ps=(numsOf (ps.drop j)).map (os++·))(hp:ps[j]? = some p)(hn:numTextS p=some n):numsOf ps=(numsOf (ps.drop (j+1))).map ((os++[(n:Int)])++·):=by
 have hd:ps.drop j=p::ps.drop (j+1):=by
  obtain⟨h,rfl⟩:=List.getElem?_eq_some_iff.1 hp
  exact List.drop_eq_getElem_cons h
 rw[hR,hd]
 simp only[numsOf,hn,Option.map_map]
 congr 1
 funext y
 simp
theorem numsOf_none {ps:List (List UInt8)}{os:List Int}{j:Nat}{p:List UInt8}(hR:numsOf ps=(numsOf (ps.drop j)).map (os++·))(hp:ps[j]? = some p)(hn:numTextS p=none):numsOf ps=none:=by
 have hd:ps.drop j=p::ps.drop (j+1):=by
  obtain⟨h,rfl⟩:=List.getElem?_eq_some_iff.1 hp
  exact List.drop_eq_getElem_cons h
 rw[hR,hd]
 simp only[numsOf,hn,Option.map_none]
def blankB (n:Int):Bool:=decide (n=32∨(9≤n∧n≤13))
def smallS (n:Int):Int:=if 65≤n∧n≤90 then n+32 else n
def foldStep (s:List Int × Bool)(n:Int):List Int × Bool:=
 if blankB n=true then (s.1,decide (0<s.1.length)) else ((if s.2=true then s.1++[32] else s.1)++[smallS n],false)
def foldS (l:List Int):List Int:=(l.foldl foldStep ([],false)).1
def FoldAt (w:World)(g d base:Nat)(s:List Int × Bool):Prop:=
 ∃ v,Blk w g 27 #[v]∧Blk w d 4 #[.bool s.2]∧w.ownsRow base 3 1 v s.1.length (intCells s.1)∧(∀ k,v.ownBlock=some k→k≠g∧k≠d)
def foldAcc (l:List Int):List Int × Bool:=l.foldl foldStep ([],false)
theorem foldAcc_take {l:List Int}{j:Nat}{n:Int}(h:l[j]? = some n):foldAcc (l.take (j+1))=foldStep (foldAcc (l.take j)) n:=by
 unfold foldAcc;rw[List.take_add_one,h]
 simp[List.foldl_append]
theorem foldStep_len (s:List Int × Bool)(n:Int):(foldStep s n).1.length≤s.1.length+2:=by
 unfold foldStep;split
 ·simp
 ·split<;>simp
theorem foldAcc_len (l:List Int):(foldAcc l).1.length≤2*l.length:=by
 have:∀ (l:List Int) (s:List Int × Bool),(l.foldl foldStep s).1.length≤s.1.length+2*l.length:=by
  intro l;induction l with
  |nil=>intro s;simp
  |cons n l ih=>
   intro s;have h1:=ih (foldStep s n);have h2:=foldStep_len s n;simp only[List.foldl_cons,List.length_cons]
   omega
 have h:=this l ([],false);simpa [foldAcc] using h
theorem may12 {k n:Int}(h:mayS k n=true):mayS 12 n=true:=by
 unfold mayS at h ⊢;rw[if_pos rfl]
 have hs:surr n=decide (55296≤n∧n≤57343):=rfl;split at h
 ·exact h
 split at h
 ·rw[Bool.and_eq_true]at h
  have h1:=of_decide_eq_true h.1;rw[hs,decide_eq_true (by omega),decide_eq_false (by omega)]
  rfl
 split at h
 ·have h1:=of_decide_eq_true h
  rw[hs,decide_eq_true (by omega),decide_eq_false (by omega)]
  rfl
 split at h
 ·have h1:=of_decide_eq_true h
  rw[hs,decide_eq_true (by omega),decide_eq_false (by omega)]
  rfl
 split at h
 ·have h1:=of_decide_eq_true h
  rw[hs,decide_eq_true (by omega),decide_eq_false (by omega)]
  rfl
 split at h
 ·rw[Bool.and_eq_true]at h
  have h1:=of_decide_eq_true h.1;rw[h.2,decide_eq_true (by omega)]
  rfl
 ·cases h
theorem right_all {k:Int}{b:List UInt8}(h:rightS k b=true):∀ n∈signsS k b,mayS k n=true:=by
 unfold rightS at h;rw[Bool.and_eq_true]at h
 exact List.all_eq_true.1 h.2
def utf8S (k:Int)(b:List UInt8):List UInt8:=ofS 12 (signsS k b)
def foldKeyS (k:Int)(b:List UInt8):List UInt8:=ofS 12 (foldS (signsS k b))
theorem small_may {n:Int}(h:mayS 12 n=true):mayS 12 (smallS n)=true:=by
 unfold smallS;split
 ·unfold mayS surr
  rw[if_pos rfl,decide_eq_true (by omega),decide_eq_false (by omega)]
  rfl
 ·exact h
theorem fold_may {l:List Int}(h:∀ n∈l,mayS 12 n=true):∀ n∈foldS l,mayS 12 n=true:=by
 have:∀ (l:List Int) (s:List Int × Bool),(∀ n∈l,mayS 12 n=true)→(∀ n∈s.1,mayS 12 n=true)→∀ n∈(l.foldl foldStep s).1,mayS 12 n=true:=by
  intro l;induction l with
  |nil=>intro s _ h;exact h
  |cons m l ih=>
   intro s h1 h2;refine ih (foldStep s m) (fun n hn=>h1 n (List.mem_cons_of_mem _ hn)) (fun n hn=>?_);unfold foldStep at hn;split at hn
   ·exact h2 n hn
   ·have hm:=small_may (h1 m List.mem_cons_self)
    simp only[List.mem_append,List.mem_singleton]at hn
    rcases hn with hn|hn
    ·split at hn
     ·rcases List.mem_append.1 hn with h|h
      ·exact h2 n h
      ·rw[List.mem_singleton.1 h];rfl
     ·exact h2 n hn
    ·rw[hn];exact hm
 exact this l ([],false) h (by simp)
def hexN (n:Int):Int:=if n<10 then 48+n else 87+n
def hex1 (x:UInt8):List UInt8:=[UInt8.ofNat (hexN ((x.toNat:Int) / 16)).toNat,UInt8.ofNat (hexN ((x.toNat % 16:Nat):Int)).toNat]
def hexS (l:List UInt8):List UInt8:=l.flatMap hex1
theorem hexS_take {l:List UInt8}{j:Nat}{x:UInt8}(h:l[j]? = some x):hexS (l.take (j+1))=hexS (l.take j)++hex1 x:=by
 unfold hexS;rw[List.take_add_one,h]
 simp
theorem hexS_len (l:List UInt8):(hexS l).length=2*l.length:=by
 induction l with
 |nil=>rfl
 |cons x l ih=>
  have:hexS (x::l)=hex1 x++hexS l:=rfl;rw[this,List.length_append,ih]
  simp only[hex1,List.length_cons,List.length_nil]
  omega
theorem hexN_lt (n:Int)(h0:0≤n)(h1:n<16):48≤hexN n∧hexN n<103:=by unfold hexN;split<;>omega
def attrKeyS (o:List Int)(b:List UInt8):List UInt8:=
 oidTextS o++(match textReadS b with
  |.ok (k,t,_)=>[61,116]++hexS (foldKeyS k t)
  |.error _=>[61,98]++hexS b)
theorem foldKey_len (k:Int)(b:List UInt8):(foldKeyS k b).length≤8*b.length:=by
 have h1:=ofS_le 12 (foldS (signsS k b));have h2:(foldS (signsS k b)).length≤2*(signsS k b).length:=foldAcc_len _;have h3:=signsS_len k b;unfold foldKeyS;omega
theorem textRead_ok {l b:List UInt8}{k:Int}{n:Nat}(h:textReadS l=.ok (k,b,n)):rightS k b=true∧b.length≤l.length:=by
 unfold textReadS at h;split at h
 ·cases h
 ·split at h
  ·cases h
  ·split at h
   ·cases h
   ·split at h
    ·rename_i hr
     simp only[Except.ok.injEq,Prod.mk.injEq]at h
     obtain⟨rfl,rfl,-⟩:=h
     refine⟨hr,?_⟩
     rw[List.length_take,List.length_drop]
     omega
    ·cases h
def Kept (R:World→Prop)(K:Nat→Prop)(w:World):Prop:=∀ w',Fr K w w'→R w'
theorem Kept.now {R:World→Prop}{K:Nat→Prop}{w:World}(h:Kept R K w):R w:=h w (Fr.refl w)
theorem Kept.step {R:World→Prop}{K K' S:Nat→Prop}{w w':World}(h:Kept R K w)(f:Fr S w w')(hS:∀ k,k<w.heap.size→S k→K k)(hK:∀ k,K' k→K k∨w.heap.size≤k):Kept R K' w':=fun w2 f2=>
 h w2 ((f.mono hS).trans' f2 (fun i hi e=>(hK i e).elim id (fun h=>by omega)))
theorem Kept.old {R:World→Prop}{K:Nat→Prop}{w w':World}(h:Kept R K w)(f:Fz w w'):Kept R K w':=h.step f (fun _ _ h=>h.elim) (fun _ h=>.inl h)
theorem right20 (l:List UInt8):rightS 20 l=true:=by
 unfold rightS;rw[Bool.and_eq_true]
 refine⟨rfl,?_⟩
 rw[List.all_eq_true]
 intro n hn;unfold signsS at hn;rw[if_neg (by decide),if_neg (by decide)]at hn
 obtain⟨x,_,rfl⟩:=List.mem_map.1 hn
 have:=x.toNat_lt;unfold mayS;rw[if_neg (by decide),if_neg (by decide),if_pos rfl]
 exact decide_eq_true (by omega)
theorem least_right (l:List UInt8):rightS (leastK l) l=true:=by
 unfold leastK;split
 ·assumption
 ·split
  ·assumption
  ·exact right20 l
def leastWhole (l:List UInt8):List UInt8:=wrapS (tagOf (leastK l)) l
def stepS (l:List UInt8):Option Part:=
 if (cut1 61 l).2.2=false then none else match fromTextS (cut1 61 l).1 with
  |.error _=>none
  |.ok o=>some ⟨o,leastWhole (cut1 61 l).2.1⟩
theorem cut1_len (c:UInt8):∀ l:List UInt8,(cut1 c l).1.length≤l.length∧(cut1 c l).2.1.length≤l.length
 | []=>by simp[cut1]
 |x::t=>by
  have ih:=cut1_len c t;unfold cut1;split
  ·simp
  ·simp only[List.length_cons];omega
theorem Attrs.of_block {w:World}{g:Nat}{x y:Value}{p:Part}(B:Blk w g 145 #[x,y])(hx:Vals w x (intCells p.o))(hy:Bytes w y p.b):Attrs w (.slice (some ⟨g,0,none⟩) 1 1) [p]:=
 ⟨_,1,rfl,Nat.le_refl _,by unfold maxLen;omega,fun _=>⟨g,0,rfl,fun i q hq=>by
  match i,hq with
  |0,hq=>
   simp only[List.getElem?_cons_zero,Option.some.injEq]at hq
   subst hq;exact⟨x,y,B.cell 0,B.cell 1,hx,hy⟩
  |i+1,hq=>simp at hq⟩⟩
def NmRow (w:World)(base:Nat)(v:Value)(n:List (List Part)):Prop:=
 ∃ us:List Value,w.ownsRow base 143 1 v n.length us∧us.length=n.length∧∀ (i:Nat) (u:Value) (r:List Part),us[i]? = some u→n[i]? = some r→Kept (fun W=>Attrs W u r) (fun k=>v.ownBlock=some k) w
theorem NmRow.at {w:World}{base:Nat}{v:Value}{n:List (List Part)}(h:NmRow w base v n):NameAt w v n:=by
 obtain⟨us,h1,h2,h3⟩:=h
 obtain⟨a,cap,he,hc,hm,hx⟩:=(Vals.of_own h1).1
 rw[h2]at he hc hx
 refine⟨a,cap,he,hc,hm,fun h0=>?_⟩
 obtain⟨b,o,rfl,hy⟩:=hx h0
 refine⟨b,o,rfl,fun i r hr=>?_⟩
 have hi:i<us.length:=by rw[h2];exact(List.getElem?_eq_some_iff.1 hr).1
 exact⟨us[i],hy i _ (List.getElem?_eq_getElem hi),(h3 i _ r (List.getElem?_eq_getElem hi) hr).now⟩
theorem NmRow.old {w w':World}{base:Nat}{v:Value}{n:List (List Part)}(h:NmRow w base v n)(f:Fz w w'):NmRow w' base v n:=by
 obtain⟨us,h1,h2,h3⟩:=h
 exact⟨us,Go.Proofs.YteidmhkobmddiaaGreatDoor.ownsRow_fr h1 f (fun _ _ h=>h),h2,fun i u r hu hr=>(h3 i u r hu hr).old f⟩
theorem NmRow.kept {w:World}{base:Nat}{v:Value}{n:List (List Part)}(h:NmRow w base v n):∀ k,v.ownBlock=some k→base≤k∧k<w.heap.size:=by
 obtain⟨us,h1,-⟩:=h
 exact(Vals.of_own h1).2
theorem NmRow.shape {w:World}{base:Nat}{v:Value}{n:List (List Part)}(h:NmRow w base v n):∃ a c,v=.slice a n.length c:=by
 obtain⟨us,h1,-⟩:=h
 obtain⟨a,m,c,rfl,rfl⟩:=own_shape h1
 exact⟨a,c,rfl⟩
theorem Attrs.form {w:World}{v:Value}{l:List Part}(h:Attrs w v l):∃ a cap,v=.slice a l.length cap:=by
 obtain⟨a,cap,rfl,-⟩:=h
 exact⟨a,cap,rfl⟩
theorem NmRow.nil (w:World)(base:Nat):NmRow w base (.slice none 0 0) []:=⟨[],⟨rfl,.inl ⟨rfl,rfl⟩⟩,rfl,fun i u r h=>by simp at h⟩
def stepsOfS:List (List UInt8)→Option (List (List Part))
 | []=>some []
 |s::t=>match stepS s with
  |none=>none
  |some p=>(stepsOfS t).map ([p]::·)
def nameOfS (l:List (List UInt8)):Except Int (List (List Part)):=
 match stepsOfS l with
 |none=>.error 6
 |some n=>if 64<n.length then .error 2 else .ok n
theorem stepsOf_next {ps:List (List UInt8)}{os:List (List Part)}{j:Nat}{s:List UInt8}{p:Part}(hR:stepsOfS ps=(stepsOfS (ps.drop j)).map (os++·))(hp:ps[j]? = some s)(hn:stepS s=some p):stepsOfS ps=(stepsOfS (ps.drop (j+1))).map ((os++[[p]])++·):=by
 have hd:ps.drop j=s::ps.drop (j+1):=by
  obtain⟨h,rfl⟩:=List.getElem?_eq_some_iff.1 hp
  exact List.drop_eq_getElem_cons h
 rw[hR,hd]
 simp only[stepsOfS,hn,Option.map_map]
 congr 1
 funext y
 simp
theorem stepsOf_none {ps:List (List UInt8)}{os:List (List Part)}{j:Nat}{s:List UInt8}(hR:stepsOfS ps=(stepsOfS (ps.drop j)).map (os++·))(hp:ps[j]? = some s)(hn:stepS s=none):stepsOfS ps=none:=by
 have hd:ps.drop j=s::ps.drop (j+1):=by
  obtain⟨h,rfl⟩:=List.getElem?_eq_some_iff.1 hp
  exact List.drop_eq_getElem_cons h
 rw[hR,hd]
 simp only[stepsOfS,hn,Option.map_none]
def cmpI:List Int→List Int→Int
 | [],[]=>0
 | [],_::_=>-1
 |_::_,[]=>1
 |x::s,y::t=>if x<y then -1 else if y<x then 1 else cmpI s t
theorem cmpI_zero:∀ (s t:List Int),cmpI s t=0↔s=t
 | [],[]=>by simp[cmpI]
 | [],_::_=>by simp[cmpI]
 |_::_,[]=>by simp[cmpI]
 |x::s,y::t=>by
  have ih:=cmpI_zero s t;unfold cmpI;split
  ·simp;intro h;omega
  ·split
   ·simp;intro h;omega
   ·rw[ih]
    simp
    intro _;omega
end Go.Q
namespace Go.Proofs.YteidmhkobmddiaaGreatDoor
open Go Go.RowKit Go.Q
def fromTextOut (w w':World)(l:List UInt8)(e:Ending):Prop:=
 match fromTextS l with
 |.error x=>e=.returned (.tuple #[.slice none 0 0,.int .i64 x])∧x≠0
 |.ok o=>∃ u,e=.returned (.tuple #[u,.int .i64 0])∧w'.ownsRow w.heap.size 3 1 u o.length (intCells o)
theorem fromText_any (l:List UInt8)(w:World)(hE:Env w)(hl:l.length≤1000000000) :
  Calls Tryz.prog 146 #[str l] w fun e w'=>fromTextOut w w' l e∧Fz w w':=by
 have HS:=Hi (strSplit_any l 46 w hE (by omega));obtain⟨hpl,hpm⟩:=cutAt_len 46 l
 have hft:fromTextS l=match numsOf (cutAt 46 l) with|none=>.error 6|some o=>if oidOk o=true then .ok o else .error 1:=rfl
 have HFT:=Hi hft;have HPM:=Hi hpm;clear hE hft hpm;generalize cutAt 46 l=ps at *
 go_enter Tryz.func146,Tryz.ntmps146
 go_wp2_with fail
 refine HS.out.mono ?_;rintro e w1 ⟨rfl,hS,F1⟩;have HSS:=Hi hS;clear HS hS;go_wp2_with fail
 go_loopg [4,12] ps.length (fun g u i wr=>∃ (j:Nat) (os:List Int) (a:Option Addr) (c:Nat),g=ps.length-j∧j≤ps.length∧u=.slice a j c∧i=.int .i64 j∧os.length=j∧wr.ownsRow w1.heap.size 3 1 (.slice a j c) j (intCells os)∧Fz w1 wr∧numsOf ps=(numsOf (ps.drop j)).map (os++·))
 case atStart=>exact⟨0,[],none,0,rfl,Nat.zero_le _,rfl,rfl,rfl,⟨rfl,.inl ⟨rfl,rfl⟩⟩,Fr.refl _,by simp⟩
 case round=>
  obtain⟨j,os,a,c,hg,hj,rfl,rfl,hos,hown,F,hR⟩:=hrel
  have HG:=Hi hg;have HOS:=Hi hos;have HOW:=Hi hown;have HR:=Hi hR;clear hg hos hown hR;by_cases hjl:j<ps.length
  ·obtain⟨a0,cap0,he,_,_,hx⟩:=Strs.form (HSS.out.old F)
   simp only[Value.slice.injEq,true_and]at he
   obtain⟨he1,he2⟩:=he
   obtain⟨b,off,hbo,hy⟩:=hx (by omega)
   rw[←he1]at hbo
   simp only[Option.some.injEq,Addr.mk.injEq,and_true]at hbo
   obtain⟨p,hp⟩:∃ p,ps[j]? = some p:=⟨_,List.getElem?_eq_getElem hjl⟩
   have e1:=hy j p hp;rw[←hbo.1,←hbo.2,Nat.zero_add]at e1
   have hpp:=HPM.out p (List.mem_of_getElem? hp);have r1:(0:Int)≤(j:Int):=by omega
   have r2:(j:Int)<(ps.length:Int):=by omega
   have HP:=Hi hp;clear he1 he2 hx hy hbo hp;go_wp2_with fail
   refine(oidNumber_any p wr (by omega)).mono ?_
   rintro e w2 ⟨rfl,F2⟩;cases hn:numTextS p with
   |none=>
    have hno:=numsOf_none HR.out HP.out hn;have hres:fromTextS l=.error 6:=by rw[HFT.out,hno]
    have HRES:=Hi hres;have hnv:numOut none=.tuple #[.int .i64 0,.bool false]:=rfl;rw[hnv]
    clear hno hres hn hnv;go_wp2_with fail
    refine bodyPost_ret (v:=.tuple #[.slice none 0 0,.int .i64 6]) (by simp[results,Tryz.results146,go_sem]) rfl ⟨?_,(F1.trans F).trans F2⟩;unfold fromTextOut;rw[HRES.out]
    exact⟨rfl,by decide⟩
   |some n=>
    have hnx:=numsOf_next HR.out HP.out hn;have HNX:=Hi hnx;have hnv:numOut (some n)=.tuple #[.int .i64 n,.bool true]:=rfl;rw[hnv]
    have F3:Fz w2 (w2.alloc (.cells #[.int .i64 n] 3)):=(Fr.refl w2).alloc _;have hs1:=F1.size;have hs2:=F.size;have hs3:=F2.size;have hbk:=(Vals.of_own HOW.out).2;obtain⟨a',c',w4,hrun,hown4,F4,hk4⟩:=add_int (ownsRow_fr HOW.out F2 (fun _ _ h=>h)) (by omega) (by omega) (n:Int) w2.heap.size F3 (Blk.new w2 3 #[.int .i64 n])
    have HRUN:=Hi hrun;have HOW4:=Hi hown4;have HF4:=Hi ((F.trans F2).trans' F4 (fun i hi e=>by have:=(hbk i e).1;omega));clear hnx hn hnv F3 hrun hown4 F4 hbk hk4;go_wp2_with (at_builtin;refine wpList_append_run (by rfl) (.tmp 23) (.tmp 25) 27 (by rfl) _ w4 (by exact HRUN.out) ?_)
    go_roundg (ps.length-(j+1))
    case measure=>rw[HG.out];omega
    case rel=>exact⟨j+1,os++[(n:Int)],a',c',rfl,by omega,rfl,by go_num,by simp[HOS.out],HOW4.out,HF4.out,HNX.out⟩
  ·obtain rfl:j=ps.length:=by omega
   have hd:ps.drop ps.length=[]:=List.drop_length;have hno:numsOf ps=some os:=by rw[HR.out,hd];simp[numsOf]
   have hri:=(Vals.of_own HOW.out).1;have HRG:=Hi (oidRight_any _ os _ hri);have hres:fromTextS l=if oidOk os=true then .ok os else .error 1:=by rw[HFT.out,hno]
   have HRES:=Hi hres;clear hd hno hri hres;cases hok:oidOk os with
   |false=>
    rw[hok]at HRG
    have HOK:=Hi hok;clear hok;go_wp2_with fail
    refine HRG.out.mono ?_;rintro e w5 ⟨rfl,rfl⟩;go_wp2_with fail
    refine bodyPost_ret (v:=.tuple #[.slice none 0 0,.int .i64 1]) (by simp[results,Tryz.results146,go_sem]) rfl ⟨?_,F1.trans F⟩;unfold fromTextOut;rw[HRES.out,HOK.out]
    exact⟨rfl,by decide⟩
   |true=>
    rw[hok]at HRG
    have HOK:=Hi hok;clear hok;go_wp2_with fail
    refine HRG.out.mono ?_;rintro e w5 ⟨rfl,rfl⟩;go_wp2_with fail
    refine bodyPost_ret (v:=.tuple #[.slice a ps.length c,.int .i64 0]) (by simp[results,Tryz.results146,go_sem]) rfl ⟨?_,F1.trans F⟩;unfold fromTextOut;rw[HRES.out,HOK.out]
    exact⟨_,rfl,by rw[HOS.out];exact own_le HOW.out F1.size⟩
theorem blank_any (n:Int)(w:World) :
  Calls Tryz.prog 364 #[.int .i64 n] w fun e w'=>e=.returned (.bool (blankB n))∧w=w':=by
 have hc:n=32∨(n≠32∧n<9)∨(9≤n∧n≤13)∨(n≠32∧13<n):=by omega
 rcases hc with rfl|⟨h1,h2⟩|⟨h1,h2⟩|⟨h1,h2⟩
 ·go_enter Tryz.func364,Tryz.ntmps364
  go_wp2_with fail
  go_ret;exact⟨rfl,rfl⟩
 ·have hb:blankB n=false:=decide_eq_false (by omega)
  have HB:=Hi hb;have q1:(n==32)=false:=beq_eq_false_iff_ne.2 h1;have q2:¬(9:Int)≤n:=by omega
  clear hb;go_enter Tryz.func364,Tryz.ntmps364
  go_wp2_with fail
  go_ret;exact⟨by rw[HB.out];rfl,rfl⟩
 ·have hb:blankB n=true:=decide_eq_true (by omega)
  have HB:=Hi hb;have q1:(n==32)=false:=beq_eq_false_iff_ne.2 (by omega);clear hb;go_enter Tryz.func364,Tryz.ntmps364
  go_wp2_with fail
  go_ret;exact⟨by rw[HB.out];rfl,rfl⟩
 ·have hb:blankB n=false:=decide_eq_false (by omega)
  have HB:=Hi hb;have q1:(n==32)=false:=beq_eq_false_iff_ne.2 h1;have q2:(9:Int)≤n:=by omega
  have q3:¬n≤(13:Int):=by omega
  clear hb;go_enter Tryz.func364,Tryz.ntmps364
  go_wp2_with fail
  go_ret;exact⟨by rw[HB.out];rfl,rfl⟩
theorem small_any (n:Int)(w:World) :
  Calls Tryz.prog 344 #[.int .i64 n] w fun e w'=>e=.returned (.int .i64 (smallS n))∧w=w':=by
 by_cases h1:(65:Int)≤n
 ·by_cases h2:n≤(90:Int)
  ·have hb:smallS n=n+32:=if_pos ⟨h1,h2⟩
   have HB:=Hi hb;clear hb;go_enter Tryz.func344,Tryz.ntmps344
   go_wp2_with fail
   go_ret;exact⟨by rw[HB.out];rfl,rfl⟩
  ·have hb:smallS n=n:=if_neg (by omega)
   have HB:=Hi hb;clear hb;go_enter Tryz.func344,Tryz.ntmps344
   go_wp2_with fail
   go_ret;exact⟨by rw[HB.out];rfl,rfl⟩
 ·have hb:smallS n=n:=if_neg (by omega)
  have HB:=Hi hb;clear hb;go_enter Tryz.func344,Tryz.ntmps344
  go_wp2_with fail
  go_ret;exact⟨by rw[HB.out];rfl,rfl⟩
theorem foldPut_any {w:World}{base:Nat}(n:Int)(g d:Nat)(s:List Int × Bool)(hgd:g≠d)(h:FoldAt w g d base s)(hb:base≤w.heap.size)(hm:s.1.length≤10995116277) :
  Calls Tryz.prog 363 #[.int .i64 n,pt g,pt d] w fun e w'=>e=.returned (.tuple #[])∧FoldAt w' g d base (foldStep s n)∧Fr (fun k=>k=g∨k=d∨base≤k) w w':=by
 obtain⟨xs,due⟩:=s
 obtain⟨v,BG,BD,hown,ho⟩:=h
 simp only at BG BD hown hm
 obtain⟨a,m,c,rfl,rfl⟩:=own_shape hown
 have HOWN:=Hi hown;have hbase:=(Vals.of_own hown).2;have HBA:=Hi hbase;have g0:=BG.cell 0;have g1:=BG.frozen 0;have d0:=BD.cell 0;have d1:=BD.frozen 0;simp at g0 d0
 cases hbl:blankB n with
 |true=>
  have HB:=Hi (blank_any n w);rw[hbl]at HB
  have hst:foldStep (xs,due) n=(xs,decide (0<xs.length)):=by unfold foldStep;rw[hbl];rfl
  have HST:=Hi hst;clear hst hown hbase hbl;have hd:∀ z:Bool,decide (0<xs.length)=z→FoldAt (w.setCell ⟨d,0,none⟩ (.bool z)) g d base (foldStep (xs,due) n)∧Fr (fun k=>k=g∨k=d∨base≤k) w (w.setCell ⟨d,0,none⟩ (.bool z)):=by
   intro z hz;have F:Fr (fun k=>k=d) w (w.setCell ⟨d,0,none⟩ (.bool z)):=Fr.setCell (S:=fun k=>k=d) (p:=⟨d,0,none⟩) (Fr.refl w) (fun _=>rfl) _;have BD2:=BD.set 0 (.bool z);simp at BD2
   rw[HST.out,hz]
   exact⟨⟨_,BG.fr F hgd,BD2,ownsRow_fr HOWN.out F (fun k hk e=>(ho k hk).2 e),ho⟩,F.mono (fun _ _ h=>.inr (.inl h))⟩
  have HD:=Hi hd;clear hd;go_enter Tryz.func363,Tryz.ntmps363
  go_wp2_with fail
  refine HB.out.mono ?_;rintro e w' ⟨rfl,rfl⟩;go_wp2_with fail
  refine bodyPost_ret (results_none rfl _ _ _) rfl ?_;exact⟨rfl,HD.out _ rfl⟩
 |false=>
  have HB:=Hi (blank_any n w);rw[hbl]at HB
  have last:∀ (w3:World) (v3:Value) (m3:Nat) (ys:List Int),Blk w3 g 27 #[v3]→Blk w3 d 4 #[.bool false]→w3.ownsRow base 3 1 v3 m3 (intCells ys)→(∀ k,v3.ownBlock=some k→k≠g∧k≠d)→base≤w3.heap.size→m3≤10995116278→Fr (fun k=>k=g∨k=d∨base≤k) w w3→foldStep (xs,due) n=(ys++[smallS n],false)→
    ∃ a c w',(Builtin.append_ #[27,27] 27 #[v3,.slice (some ⟨w3.heap.size,0,none⟩) 1 1]).run Tryz.prog ((w3.alloc (.cells #[.int .i64 (smallS n)] 3)).drew)=.ok (.slice a (m3+1) c) w'∧Blk w' g 27 #[v3]∧FoldAt (w'.setCell ⟨g,0,none⟩ (.slice a (m3+1) c)) g d base (foldStep (xs,due) n)∧Fr (fun k=>k=g∨k=d∨base≤k) w (w'.setCell ⟨g,0,none⟩ (.slice a (m3+1) c)):=by
   intro w3 v3 m3 ys BG3 BD3 own3 ho3 hb3 hm3 F3 hst;have F4:Fz w3 ((w3.alloc (.cells #[.int .i64 (smallS n)] 3)).drew):=((Fr.refl w3).alloc _).drew;obtain⟨a,c,w',hrun,own',F5,hk5⟩:=add_int own3 hb3 (by omega) (smallS n) w3.heap.size F4 (Blk.new w3 3 #[.int .i64 (smallS n)]).drew
   have BG5:=BG3.fr F5 (fun e=>(ho3 g e).1 rfl);have BD5:=BD3.fr F5 (fun e=>(ho3 d e).2 rfl);have lg:=BG3.lt;have ld:=BD3.lt;have hne:∀ k,(Value.slice a (m3+1) c).ownBlock=some k→k≠g∧k≠d:=fun k hk=>by
    rcases hk5 k hk with h|h
    ·exact ho3 k h
    ·exact⟨by omega,by omega⟩
   have F6:Fr (fun k=>k=g) w' (w'.setCell ⟨g,0,none⟩ (.slice a (m3+1) c)):=Fr.setCell (S:=fun k=>k=g) (p:=⟨g,0,none⟩) (Fr.refl w') (fun _=>rfl) _;have BG6:=BG5.set 0 (.slice a (m3+1) c);simp at BG6
   have hlen:m3+1=(ys++[smallS n]).length:=by
    have:=own3.1;rw[intCells_len,Nat.mul_one]at this
    simp[this]
   refine⟨a,c,w',hrun,BG5,?_,(F3.trans (F5.mono (fun k hk e=>?_))).trans (F6.mono (fun _ _ h=>.inl h))⟩
   ·rw[hst]
    refine⟨_,BG6,BD5.fr F6 (fun e=>hgd e.symm),?_,hne⟩
    simp only
    rw[←hlen]
    exact ownsRow_fr own' F6 (fun k hk e=>(hne k hk).1 e)
   ·exact .inr (.inr ((Vals.of_own own3).2 k e).1)
  have HL:=Hi last;clear last;cases due with
  |false=>
   have hst:foldStep (xs,false) n=(xs++[smallS n],false):=by unfold foldStep;rw[hbl];rfl
   obtain⟨a7,c7,w7,hrun,BG7,hfin,hF7⟩:=HL.out w _ xs.length xs BG BD HOWN.out ho hb (by omega) (Fr.refl w) hst
   have HRUN:=Hi hrun;have HFIN:=Hi hfin;have HF7:=Hi hF7;have g7:=BG7.cell 0;have f7:=BG7.frozen 0;have hal:=alloc_old;have lg:=BG.lt;simp at g7
   clear hst hrun hfin hF7 hown hbase hbl;go_enter Tryz.func363,Tryz.ntmps363
   go_wp2_with fail
   refine HB.out.mono ?_;rintro e w' ⟨rfl,rfl⟩;go_wp2_with fail
   go_region_law (first|(refine step_append_run (by rfl) (.tmp 13) (.tmp 16) 27 (by rfl) _ w7 (by exact HRUN.out) ?_)|(go_simp;go_at_call 344;refine(small_any n _).mono ?_;rintro e w' ⟨rfl,rfl⟩))
   all_goals
    go_wp2_with fail
    go_end0
    exact⟨rfl,HFIN.out,HF7.out⟩
  |true=>
   have hst:foldStep (xs,true) n=((xs++[32])++[smallS n],false):=by unfold foldStep;rw[hbl];rfl
   have F1:Fz w (w.alloc (.cells #[.int .i64 32] 3)):=(Fr.refl w).alloc _;obtain⟨a1,c1,w1,hrun1,own1,F2,hk1⟩:=add_int HOWN.out hb (by omega) 32 w.heap.size F1 (Blk.new w 3 #[.int .i64 32])
   have lg:=BG.lt;have ld:=BD.lt;have BG1:=BG.fr F2 (fun e=>(ho g e).1 rfl);have BD1:=BD.fr F2 (fun e=>(ho d e).2 rfl);have hne:∀ k,(Value.slice a1 (xs.length+1) c1).ownBlock=some k→k≠g∧k≠d:=fun k hk=>by
    rcases hk1 k hk with h|h
    ·exact ho k h
    ·exact⟨by omega,by omega⟩
   have F3:Fr (fun k=>k=g∨k=d) w1 ((w1.setCell ⟨g,0,none⟩ (.slice a1 (xs.length+1) c1)).setCell ⟨d,0,none⟩ (.bool false)):=((Fr.refl w1).setCell (p:=⟨g,0,none⟩) (fun _=>.inl rfl) _).setCell (p:=⟨d,0,none⟩) (fun _=>.inr rfl) _;have BG3:=(BG1.set 0 (.slice a1 (xs.length+1) c1)).set_other (a:=⟨d,0,none⟩) hgd (.bool false);have BD3:=(BD1.set_other (a:=⟨g,0,none⟩) (fun e=>hgd e.symm) (.slice a1 (xs.length+1) c1)).set 0 (.bool false);simp at BG3 BD3
   have own3:=ownsRow_fr own1 F3 (fun k hk e=>by have:=hne k hk;omega);have G3:Fr (fun k=>k=g∨k=d∨base≤k) w ((w1.setCell ⟨g,0,none⟩ (.slice a1 (xs.length+1) c1)).setCell ⟨d,0,none⟩ (.bool false)):=(F2.mono (fun k hk e=>.inr (.inr (HBA.out k e).1))).trans (F3.mono (fun k _ h=>h.elim .inl (fun h=>.inr (.inl h))));obtain⟨a7,c7,w7,hrun,BG7,hfin,hF7⟩:=HL.out _ _ (xs.length+1) (xs++[32]) BG3 BD3 own3 hne (Nat.le_trans hb G3.size) (by omega) G3 hst
   have HRUN1:=Hi hrun1;have HRUN:=Hi hrun;have HFIN:=Hi hfin;have HF7:=Hi hF7;have HBG3:=Hi BG3;have p0:=BG1.cell 0;have p1:=BG1.frozen 0;have r0:=BD1.cell 0;have r1:=BD1.frozen 0;have g7:=BG7.cell 0;have f7:=BG7.frozen 0;simp at g7 p0 r0
   clear hst hrun hrun1 hfin hF7 hown hbase hbl own1 own3 BG3 BD3 F3 G3 F2 F1 BG1 BD1 hk1 hne;go_enter Tryz.func363,Tryz.ntmps363
   go_wp2_with fail
   refine HB.out.mono ?_;rintro e w' ⟨rfl,rfl⟩;have hgd':d≠g:=fun e=>hgd e.symm
   go_upto_region 5 with (at_builtin;refine wpList_append_run (by rfl) (.tmp 10) (.tmp 11) 27 (by rfl) _ w1 (by exact HRUN1.out) ?_)
   generalize ((w1.setCell ⟨g,0,none⟩ (.slice a1 (xs.length+1) c1)).setCell ⟨d,0,none⟩ (.bool false))=w3 at *
   have g3:=HBG3.out.cell 0;have hal:=alloc_old;have lg3:=HBG3.out.lt;simp at g3
   go_region_law (first|(refine step_append_run (by rfl) (.tmp 13) (.tmp 16) 27 (by rfl) _ w7 (by exact HRUN.out) ?_)|(go_simp;go_at_call 344;refine(small_any n _).mono ?_;rintro e w' ⟨rfl,rfl⟩))
   all_goals
    go_wp2_with fail
    go_end0
    exact⟨rfl,HFIN.out,HF7.out⟩
theorem foldSigns_any (v:Value)(l:List Int)(w:World)(h:Ints w v l)(hl:l.length≤1099511627) :
  Calls Tryz.prog 321 #[v] w fun e w'=>(∃ u,e=.returned u∧w'.ownsRow w.heap.size 3 1 u (foldS l).length (intCells (foldS l)))∧Fz w w':=by
 have H:=Hi h;obtain⟨a,cap,rfl,-⟩:=Ints.form h
 obtain⟨z,hz⟩:∃ z,z=w.heap.size:=⟨_,rfl⟩
 have HZ:=Hi hz;have F0:Fz w ((w.alloc (.cells #[.slice none 0 0] 27)).alloc (.cells #[.bool false] 4)):=((Fr.refl w).alloc _).alloc _;have BG0:=(Blk.new w 27 #[.slice none 0 0]).alloc (.cells #[.bool false] 4);have BD0:=Blk.new (w.alloc (.cells #[.slice none 0 0] 27)) 4 #[.bool false];have hs0:((w.alloc (.cells #[.slice none 0 0] 27)).alloc (.cells #[.bool false] 4)).heap.size=z+2:=by rw[World.size_alloc,World.size_alloc,hz]
 rw[World.size_alloc,←hz]at BD0
 rw[←hz]at BG0
 have A0:FoldAt ((w.alloc (.cells #[.slice none 0 0] 27)).alloc (.cells #[.bool false] 4)) z (z+1) (z+2) ([],false):=⟨_,BG0,BD0,⟨rfl,.inl ⟨rfl,rfl⟩⟩,fun k hk=>by simp[Value.ownBlock]at hk⟩;have HA0:=Hi A0;have HF0:=Hi F0;have HS0:=Hi hs0;clear h hz F0 BG0 BD0 A0 hs0;go_enter Tryz.func321,Tryz.ntmps321
 go_upto_region 4 with fail
 rw[←HZ.out]
 generalize ((w.alloc (.cells #[.slice none 0 0] 27)).alloc (.cells #[.bool false] 4))=w1 at *
 go_wp2_with fail
 go_loopg [11] l.length (fun g i wr=>∃ j:Nat,g=l.length-j∧j≤l.length∧i=.int .i64 j∧FoldAt wr z (z+1) (z+2) (foldAcc (l.take j))∧Fz w wr∧z+2≤wr.heap.size)
 case atStart=>exact⟨0,rfl,Nat.zero_le _,rfl,HA0.out,HF0.out,by have:=HS0.out;omega⟩
 case round=>
  obtain⟨j,hg,hj,rfl,hA,F,hsz⟩:=hrel
  have HG:=Hi hg;have HA:=Hi hA;have HF:=Hi F;clear hg hA F;by_cases hjl:j<l.length
  ·obtain⟨a0,cap0,he,_,_,hx⟩:=Ints.form (H.out.old HF.out)
   simp only[Value.slice.injEq,true_and]at he
   obtain⟨rfl,rfl⟩:=he
   obtain⟨b,off,rfl,hy⟩:=hx (by omega)
   obtain⟨n,hn⟩:∃ n,l[j]? = some n:=⟨_,List.getElem?_eq_getElem hjl⟩
   have e1:=hy j n hn;have hft:=foldAcc_take hn;have HFT:=Hi hft;have r1:(0:Int)≤(j:Int):=by omega
   have r2:(j:Int)<(l.length:Int):=by omega
   have hlen:=foldAcc_len (l.take j);rw[List.length_take]at hlen
   have HP:=Hi (foldPut_any n z (z+1) _ (by omega) HA.out hsz (by omega));clear hx hy hn hft hlen;go_wp2_with fail
   refine HP.out.mono ?_;rintro e w2 ⟨rfl,hA2,F2⟩;rw[←HFT.out]at hA2
   have HA2:=Hi hA2;have HF2:=Hi (HF.out.trans' F2 (fun i hi e=>by have:=HZ.out;omega));have hs2:=F2.size;clear hA2 F2;go_wp2_with fail
   go_roundg (l.length-(j+1))
   case measure=>rw[HG.out];omega
   case rel=>exact⟨j+1,rfl,by omega,by go_num,HA2.out,HF2.out,by omega⟩
  ·have hall:l.take j=l:=List.take_of_length_le (by omega)
   obtain⟨u,BG,_,hown,_⟩:=HA.out
   rw[hall]at hown
   have hown:=own_le hown (base':=w.heap.size) (by have:=HZ.out;omega);have HO:=Hi hown;have g0:=BG.cell 0;simp at g0
   clear hown hall;go_wp2_with fail
   go_ret;exact⟨⟨_,rfl,HO.out⟩,HF.out⟩
theorem foldKey_any (k:Int)(v:Value)(b:List UInt8)(w:World)(hv:Bytes w v b)(hT:Tabs w)(hok:rightS k b=true)(hbl:b.length≤16777216) :
  Calls Tryz.prog 269 #[.agg #[.int .i64 k,v]] w fun e w'=>e=.returned (.tuple #[str (foldKeyS k b),.int .i64 0])∧Fz w w':=by
 obtain⟨a,cap,rfl,-⟩:=hv.form
 obtain⟨z,hz⟩:∃ z,z=w.heap.size:=⟨_,rfl⟩
 have F0:Fz w (w.alloc (.cells #[.int .i64 k,.slice a b.length cap] 251)):=(Fr.refl w).alloc _;have B0:=Blk.new w 251 #[.int .i64 k,.slice a b.length cap];rw[←hz]at B0
 have HS:=Hi (signsText_any k _ b _ (hv.old F0) (hT.old F0) (by omega) hok);have hm:=Hi (fold_may (fun n hn=>may12 (right_all hok n hn)));have hl:=signsS_len k b;have HZ:=Hi hz;have HF0:=Hi F0;have hu:foldKeyS k b=ofS 12 (foldS (signsS k b)):=rfl;have HU:=Hi hu;clear F0 hz hok hv hT hu;generalize signsS k b=sg at *
 have hfl:(foldS sg).length≤2*sg.length:=foldAcc_len sg;go_enter Tryz.func269,Tryz.ntmps269
 go_upto_region 1 with fail
 rw[←HZ.out]
 generalize (w.alloc (.cells #[.int .i64 k,.slice a b.length cap] 251))=w1 at *
 have t0:=B0.cell 0;have t1:=B0.cell 1;simp at t0 t1
 go_wp2_with fail
 refine HS.out.mono ?_;rintro e w2 ⟨⟨u2,rfl,ho2⟩,F2⟩;have hi2:=(Vals.of_own ho2).1;obtain⟨a2,m2,c2,rfl,rfl⟩:=own_shape ho2
 have HG:=Hi (foldSigns_any _ sg w2 hi2 (by omega));have HF2:=Hi (HF0.out.trans F2);clear HS HF0 F2 ho2 t0 t1 B0 hi2;go_wp2_with fail
 refine HG.out.mono ?_;rintro e w4 ⟨⟨u4,rfl,ho4⟩,F4⟩;have hi4:=(Vals.of_own ho4).1;obtain⟨a4,m4,c4,rfl,rfl⟩:=own_shape ho4
 have HO:=Hi (ofText_any 12 _ (foldS sg) w4 hi4 rfl hm.out (by omega));have HF4:=Hi (HF2.out.trans F4);clear HG HF2 F4 ho4 hi4;generalize foldS sg=fs at *
 go_wp2_with fail
 refine HO.out.mono ?_;rintro e w3 ⟨⟨u3,rfl,ho3⟩,F3⟩;have hb3:=(Vals.of_own ho3).1;obtain⟨a3,m3,c3,rfl,rfl⟩:=own_shape ho3
 have hs3:∀ o,(Go.convert 32 9 (.slice a3 (ofS 12 fs).length c3)).run Tryz.prog (w3.alloc o)=.ok (str (ofS 12 fs)) (w3.alloc o):=fun o=>str_of (hb3.old ((Fr.refl w3).alloc o))
 have HF3:=Hi ((HF4.out.trans F3).alloc (.cells #[.int .i64 12,.slice a3 (ofS 12 fs).length c3] 251));clear HO HF4 F3 ho3 hb3;go_wp2_with fail
 refine bodyPost_ret (v:=.tuple #[str (ofS 12 fs),.int .i64 0]) (by simp[results,Tryz.results269,go_sem]) rfl ⟨by rw[HU.out],HF3.out⟩
theorem digit_any (n:Int)(h0:0≤n)(h1:n<16)(w:World) :
  Calls Tryz.prog 287 #[.int .u8 n] w fun e w'=>e=.returned (.int .u8 (hexN n))∧w=w':=by
 by_cases hc:n<10
 ·have hb:hexN n=48+n:=if_pos hc
  have HB:=Hi hb;have hw:IntKind.u8.wrap (48+n)=48+n:=by simp[IntKind.wrap,IntKind.signed,IntKind.bits];omega
  clear hb;go_enter Tryz.func287,Tryz.ntmps287
  go_wp2_with fail
  go_ret;refine⟨?_,rfl⟩
  rw[HB.out]
  first|rfl|rw[hw]
 ·have hb:hexN n=87+n:=if_neg hc
  have HB:=Hi hb;have hw:IntKind.u8.wrap (97+n)=97+n:=by simp[IntKind.wrap,IntKind.signed,IntKind.bits];omega
  have hw2:IntKind.u8.wrap (97+n-10)=87+n:=by simp[IntKind.wrap,IntKind.signed,IntKind.bits];omega
  clear hb;go_enter Tryz.func287,Tryz.ntmps287
  go_wp2_with fail
  go_ret;refine⟨?_,rfl⟩
  rw[HB.out]
  first|rfl|(rw[hw,hw2])
theorem hex_any (v:Value)(l:List UInt8)(w:World)(h:Bytes w v l)(hl:l.length≤109951162) :
  Calls Tryz.prog 241 #[v] w fun e w'=>e=.returned (str (hexS l))∧Fz w w':=by
 have H:=Hi h;obtain⟨a,cap,rfl,-⟩:=h.form
 obtain⟨i0,hi0,hz0,hz1,hz2⟩:=info_parts info5
 have hmk:=run_make (P:=Tryz.prog) w 32 5 i0 _ Tryz.underlying32 hi0 hz0 .i64 .i64 0 (2*(l.length:Int)) (by omega) (by omega) (by rw[hz2];omega) (by omega);have hm2:(2*(l.length:Int)).toNat=2*l.length:=by omega
 rw[hm2,hz1,Nat.mul_one]at hmk
 have hms:(madeCells (Value.int .u8 0).cells (2*l.length)).size=2*l.length:=by simp[madeCells]
 have B0:=Blk.new w 5 (madeCells (Value.int .u8 0).cells (2*l.length));have own0:=own_block B0 0 (Nat.zero_le _) (by rw[hms];unfold maxLen;omega) w.heap.size (Nat.le_refl _);rw[hms,List.take_zero]at own0
 have F0:Fz w (w.alloc (.cells (madeCells (Value.int .u8 0).cells (2*l.length)) 5)):=(Fr.refl w).alloc _;have HO:=Hi own0;have HF:=Hi F0;generalize hwg:(w.alloc (.cells (madeCells (Value.int .u8 0).cells (2*l.length)) 5))=w1 at *
 have HM:=Hi hmk;clear h hi0 hz0 hz1 hz2 hm2 hms B0 own0 F0 hwg hmk;have hmk:=HM.out;go_enter Tryz.func241,Tryz.ntmps241
 go_wp2_with fail
 go_loopg [3,12] l.length (fun g u i wr=>∃ (j:Nat) (au:Option Addr) (cu:Nat),g=l.length-j∧j≤l.length∧u=.slice au (2*j) cu∧i=.int .i64 j∧wr.ownsRow w.heap.size 5 1 (.slice au (2*j) cu) (2*j) (Lib.byteCells (hexS (l.take j)))∧Fz w wr)
 case atStart=>exact⟨0,_,_,rfl,Nat.zero_le _,rfl,rfl,HO.out,HF.out⟩
 case round=>
  obtain⟨j,au,cu,hg,hj,rfl,rfl,hown,F⟩:=hrel
  have HG:=Hi hg;clear hg;by_cases hjl:j<l.length
  ·obtain⟨a0,cap0,he,_,_,hx⟩:=(H.out.old F).form
   simp only[Value.slice.injEq,true_and]at he
   obtain⟨rfl,rfl⟩:=he
   obtain⟨b,off,rfl,hy⟩:=hx (by omega)
   obtain⟨x,hn⟩:∃ n,l[j]? = some n:=⟨_,List.getElem?_eq_getElem hjl⟩
   have e1:=hy j x hn;have HFT:=Hi (hexS_take hn);have hxl:=x.toNat_lt;have h15:=and15 x;have hx1:hex1 x=[UInt8.ofNat (hexN ((x.toNat:Int) / 16)).toNat,UInt8.ofNat (hexN ((x.toNat % 16:Nat):Int)).toNat]:=rfl;obtain⟨y,hye⟩:∃ y:Nat,y=x.toNat:=⟨_,rfl⟩
   rw[←hye]at e1 hxl h15 hx1
   obtain⟨r,hr⟩:∃ r:Nat,r=y % 16:=⟨_,rfl⟩
   rw[←hr]at h15 hx1
   have hyl:y<256:=hxl;have hrl:r<16:=by omega
   have b1:=hexN_lt ((y:Int) / 16) (by omega) (by omega);have b2:=hexN_lt (r:Int) (by omega) (by omega);have F1:Fz wr (wr.alloc (.cells #[.int .u8 (hexN ((y:Int) / 16)),.int .u8 (hexN (r:Int))] 5)):=(Fr.refl wr).alloc _;have hsrc:Bytes (wr.alloc (.cells #[.int .u8 (hexN ((y:Int) / 16)),.int .u8 (hexN (r:Int))] 5)) (.slice (some ⟨wr.heap.size,0,none⟩) 2 2) (hex1 x):=by
    have h:=Vals.of_block (Blk.new wr 5 #[.int .u8 (hexN ((y:Int) / 16)),.int .u8 (hexN (r:Int))]) (by unfold maxLen;simp);have e:Lib.byteCells (hex1 x)=[.int .u8 (hexN ((y:Int) / 16)),.int .u8 (hexN (r:Int))]:=by
     rw[hx1]
     simp only[Lib.byteCells,List.map_cons,List.map_nil,u8 (hexN ((y:Int) / 16)).toNat (by omega),u8 (hexN (r:Int)).toNat (by omega)]
     rw[Int.toNat_of_nonneg (by omega),Int.toNat_of_nonneg (by omega)]
    show Vals _ _ (Lib.byteCells (hex1 x))
    rw[e]
    exact h
   obtain⟨v',w2,hrun,h1,F2,_⟩:=append_bytes (ownsRow_fr hown F1 (fun _ _ h=>h)) (some ⟨wr.heap.size,0,none⟩) 2 2 (hex1 x) hsrc (by omega) (Nat.le_trans F.size F1.size)
   obtain⟨a',m',c',rfl,rfl⟩:=own_shape h1
   have hbk:=(Vals.of_own hown).2;have HF2:=Hi ((F.trans F1).trans' F2 (fun i hi e=>by have:=(hbk i e).1;omega));have HRUN:=Hi hrun;have HOWN:=Hi h1;have r1:(0:Int)≤(j:Int):=by omega
   have r2:(j:Int)<(l.length:Int):=by omega
   clear hx hy hn hown F F1 F2 hsrc hrun h1 hbk hx1 hye hr hxl;go_wp2_with (first|(go_at_call 287;refine(digit_any _ (by omega) (by omega) _).mono ?_;rintro e w' ⟨rfl,rfl⟩)|(at_builtin;refine wpList_append_run (by rfl) (.tmp 16) (.tmp 23) 32 (by rfl) _ w2 (by exact HRUN.out) ?_))
   go_roundg (l.length-(j+1))
   case measure=>rw[HG.out];omega
   case rel=>exact⟨j+1,a',c',rfl,by omega,rfl,by go_num,by rw[HFT.out];exact HOWN.out,HF2.out⟩
  ·have hall:l.take j=l:=List.take_of_length_le (by omega)
   rw[hall]at hown
   have hs:=Hi (str_of (Vals.of_own hown).1);clear hown hall;have hs1:=hs.out;go_wp2_with fail
   go_ret;exact⟨rfl,F⟩
def WordsOut (w':World)(l:List UInt8)(e:Ending):Prop:=
 match textReadS l with
 |.error _=>e=.returned (.tuple #[.agg #[.int .i64 0,.slice none 0 0],.bool false])
 |.ok (k,b,_)=>∃ u,e=.returned (.tuple #[.agg #[.int .i64 k,u],.bool true])∧Bytes w' u b
theorem words_any (v:Value)(l:List UInt8)(w:World)(h:Bytes w v l)(hE:Env w)(hl:l.length≤1099511627776) :
  Calls Tryz.prog 268 #[v] w fun e w'=>WordsOut w' l e∧Fz w w':=by
 obtain⟨z,hz⟩:∃ z,z=w.heap.size:=⟨_,rfl⟩
 have F0:Fz w (w.alloc (.cells #[.int .i64 0,.slice none 0 0] 251)):=(Fr.refl w).alloc _;have BZ:=Blk.new w 251 #[.int .i64 0,.slice none 0 0];rw[←hz]at BZ
 have HN:=Hi (new_any _ v l (h.old F0) hl);have HE:=Hi (hE.old F0);have HZ:=Hi hz;have HF0:=Hi F0;have hgl:=hE.size;clear h hE hz F0;go_enter Tryz.func268,Tryz.ntmps268
 go_upto_region 1 with fail
 rw[←HZ.out]
 generalize (w.alloc (.cells #[.int .i64 0,.slice none 0 0] 251))=w1 at *
 go_wp2_with fail
 refine HN.out.mono ?_;rintro e w2 ⟨rfl,C2,F2⟩;have BZ2:=BZ.fr F2 (fun h=>h);have HE2:=HE.out.old F2;have hs1:=HF0.out.size;have hzl:=BZ.lt;obtain⟨c,hc⟩:∃ c,c=w1.heap.size:=⟨_,rfl⟩
 rw[←hc]at C2 ⊢
 have hk1:¬(2=c∨3=c):=by
  have:gLim=gLim:=rfl;have h1:2<gLim:=by decide
  have h2:3<gLim:=by decide
  omega
 have HR:=Hi (textRead_any C2 HE2.tabs hk1);have HF2:=Hi (HF0.out.trans F2);have hcz:z<c:=by omega
 have hcw:w.heap.size≤c:=by omega
 clear HN HF0 F2 BZ hc HE2 C2 hk1 HE;go_wp2_with fail
 refine HR.out.mono ?_;rintro e w3 ⟨hout,F3⟩;have BZ3:=BZ2.fr F3 (by omega);have hlt3:=BZ3.lt;have HF3:=Hi (HF2.out.trans' F3 (fun i hi e=>by omega));unfold TextOut at hout;rw[List.drop_zero]at hout
 cases hr:textReadS l with
 |error x=>
  rw[hr]at hout
  obtain⟨rfl,hx,C3⟩:=hout
  have hx1:(x==0)=false:=beq_eq_false_iff_ne.2 hx;have HRR:=Hi hr;go_upto_region 2 with fail
  have BZ4:=BZ3.alloc (.cells #[.int .i64 0,.slice none 0 0] 251);have BY4:=Blk.new w3 251 #[.int .i64 0,.slice none 0 0];have F4:Fz w3 (w3.alloc (.cells #[.int .i64 0,.slice none 0 0] 251)):=(Fr.refl w3).alloc _;obtain⟨y,hy⟩:∃ y,y=w3.heap.size:=⟨_,rfl⟩
  rw[←hy]at BY4 ⊢
  clear hy;generalize (w3.alloc (.cells #[.int .i64 0,.slice none 0 0] 251))=w4 at *
  have y0:=BY4.cell 0;have y1:=BY4.cell 1;simp only[SG]at y0 y1
  have z0:=BZ4.cell 0;have z1:=BZ4.cell 1;have f0:=BZ4.frozen 0;have f1:=BZ4.frozen 1;simp only[SG]at z0 z1
  obtain⟨BZ5,F5⟩:=set2 BZ4 (.int .i64 0) (.slice none 0 0)
  have n0:=BZ5.cell 0;have n1:=BZ5.cell 1;simp only[SG]at n0 n1
  have HF5:=Hi ((HF3.out.trans F4).trans' F5 (fun i hi e=>by have:=HZ.out;omega));clear hr C3 F3 F4 BZ2 BZ3 BZ4 BZ5 F5 BY4 HF2 HF3 HR hx;go_wp2_with fail
  refine bodyPost_ret (v:=.tuple #[.agg #[.int .i64 0,.slice none 0 0],.bool false]) (by simp[results,Tryz.results268,go_sem,n0,n1]) rfl ⟨?_,HF5.out⟩;unfold WordsOut;rw[HRR.out]
 |ok kbn=>
  obtain⟨k,b,n⟩:=kbn
  rw[hr]at hout
  obtain⟨⟨u,rfl,ho⟩,C3⟩:=hout
  have HRR:=Hi hr;obtain⟨au,mu,cu,rfl,rfl⟩:=own_shape ho
  go_upto_region 2 with fail
  have BZ4:=BZ3.alloc (.cells #[.int .i64 k,.slice au b.length cu] 251);have BY4:=Blk.new w3 251 #[.int .i64 k,.slice au b.length cu];have F4:Fz w3 (w3.alloc (.cells #[.int .i64 k,.slice au b.length cu] 251)):=(Fr.refl w3).alloc _;obtain⟨y,hy⟩:∃ y,y=w3.heap.size:=⟨_,rfl⟩
  rw[←hy]at BY4 ⊢
  clear hy;generalize (w3.alloc (.cells #[.int .i64 k,.slice au b.length cu] 251))=w4 at *
  have y0:=BY4.cell 0;have y1:=BY4.cell 1;simp only[SG]at y0 y1
  have z0:=BZ4.cell 0;have z1:=BZ4.cell 1;have f0:=BZ4.frozen 0;have f1:=BZ4.frozen 1;simp only[SG]at z0 z1
  obtain⟨BZ5,F5⟩:=set2 BZ4 (.int .i64 k) (.slice au b.length cu)
  have n0:=BZ5.cell 0;have n1:=BZ5.cell 1;simp only[SG]at n0 n1
  have HF5:=Hi ((HF3.out.trans F4).trans' F5 (fun i hi e=>by have:=HZ.out;omega));have hzs:=BZ2.lt;have ho2:=ownsRow_fr (ownsRow_fr ho F4 (fun _ _ h=>h)) F5 (fun q hq e=>by have:=((Vals.of_own ho).2 q hq).1;omega);have HB:=Hi (Vals.of_own ho2).1;clear hr C3 F3 F4 BZ2 BZ3 BZ4 BZ5 F5 BY4 HF2 HF3 HR ho ho2;go_wp2_with fail
  refine bodyPost_ret (v:=.tuple #[.agg #[.int .i64 k,.slice au b.length cu],.bool true]) (by simp[results,Tryz.results268,go_sem,n0,n1]) rfl ⟨?_,HF5.out⟩;unfold WordsOut;rw[HRR.out]
  exact⟨_,rfl,HB.out⟩
theorem attrKey_any (x y:Value)(o:List Int)(b:List UInt8)(w:World)(hx:Ints w x o)(hy:Bytes w y b)(ho:oidOk o=true)(hl:b.length≤10000000)(hE:Env w) :
  Calls Tryz.prog 224 #[.agg #[x,y]] w fun e w'=>e=.returned (str (attrKeyS o b))∧Fz w w':=by
 obtain⟨ax,cx,rfl,-⟩:=Ints.form hx
 obtain⟨ay,cy,rfl,-⟩:=Vals.form hy
 obtain⟨z,hz⟩:∃ z,z=w.heap.size:=⟨_,rfl⟩
 have BZ:=Blk.new w 145 #[.slice ax o.length cx,.slice ay b.length cy];have F0:Fz w (w.alloc (.cells #[.slice ax o.length cx,.slice ay b.length cy] 145)):=(Fr.refl w).alloc _;have HT:=Hi (oidText_any _ o _ (hx.old F0) ho (hE.old F0));have HY:=Hi (hy.old F0);have HE:=Hi (hE.old F0);rw[←hz]at BZ
 have HF0:=Hi F0;have HZ:=Hi hz;have hk:attrKeyS o b=oidTextS o++(match textReadS b with|.ok (k,t,_)=>[61,116]++hexS (foldKeyS k t)|.error _=>[61,98]++hexS b):=rfl;have HK:=Hi hk;have ho0:=Hi ho;clear hx hy F0 hz ho hE hk;have hol:o.length≤32:=(nums_ok ho0.out).2.1;have hot:(oidTextS o).length≤1000:=by
  have hall:=ho0.out;simp only[oidOk,Bool.and_eq_true,decide_eq_true_eq]at hall
  have:=oidText_len (o:=o) (fun n hn=>by
   have:=List.all_eq_true.1 hall.1.2 n hn;simp only[arcOk,decide_eq_true_eq]at this
   omega)
  omega
 have hos:(ByteArray.mk (oidTextS o).toArray).size=(oidTextS o).length:=by simp[ByteArray.size]
 generalize oidTextS o=ot at *
 go_enter Tryz.func224,Tryz.ntmps224
 go_upto_region 1 with fail
 rw[←HZ.out]
 generalize (w.alloc (.cells #[.slice ax o.length cx,.slice ay b.length cy] 145))=w0 at *
 have z0:=BZ.cell 0;simp at z0
 go_wp2_with fail
 refine HT.out.mono ?_;rintro e w1 ⟨rfl,F1⟩;have BZ1:=BZ.fr F1 (fun h=>h);have z1:=BZ1.cell 1;simp at z1
 have HY1:=Hi (HY.out.old F1);have HE1:=Hi (HE.out.old F1);have HF1:=Hi (HF0.out.trans F1);clear HT HY HE HF0 F1 z0 BZ;go_wp2_with fail
 refine(words_any _ b w1 HY1.out HE1.out (by omega)).mono ?_
 rintro e w2 ⟨hout,F2⟩;have BZ2:=BZ1.fr F2 (fun h=>h);have HY2:=Hi (HY1.out.old F2);have HE2:=Hi (HE1.out.old F2);have HF2:=Hi (HF1.out.trans F2);unfold WordsOut at hout;clear HY1 HE1 HF1 F2 z1 BZ1;cases hr:textReadS b with
 |error x=>
  rw[hr]at hout
  subst hout;have F3:Fz w2 (w2.alloc (.cells #[.int .i64 0,.slice none 0 0] 251)):=(Fr.refl w2).alloc _;have BZ3:=BZ2.fr F3 (fun h=>h);have z1:=BZ3.cell 1;simp only[SG]at z1
  have HX:=Hi (hex_any _ b _ (HY2.out.old F3) (by omega));have HF3:=Hi (HF2.out.trans F3);have hkk:=HK.out;rw[hr]at hkk
  have HKK:=Hi hkk;have hhl:=hexS_len b;have hhs:(ByteArray.mk (hexS b).toArray).size=(hexS b).length:=by simp[ByteArray.size]
  clear hr hkk HY2 HF2 F3 BZ2 BZ3;generalize hexS b=hb at *
  go_wp2_with fail
  refine HX.out.mono ?_;rintro e w4 ⟨rfl,F4⟩;go_wp2_with fail
  go_ret;refine⟨congrArg (fun x:ByteArray=>Ending.returned (.string x)) ?_,HF3.out.trans F4⟩
  rw[HKK.out,←List.append_assoc,←ba_cat,←ba_cat]
 |ok kbn=>
  obtain⟨k,t,n⟩:=kbn
  rw[hr]at hout
  obtain⟨u,rfl,hu⟩:=hout
  obtain⟨hrt,htl⟩:=textRead_ok hr
  obtain⟨au,cu,rfl,-⟩:=hu.form
  have F3:Fz w2 (w2.alloc (.cells #[.int .i64 k,.slice au t.length cu] 251)):=(Fr.refl w2).alloc _;have HX:=Hi (foldKey_any k _ t _ (hu.old F3) (HE2.out.old F3).tabs hrt (by omega));have HF3:=Hi (HF2.out.trans F3);have hkk:=HK.out;rw[hr]at hkk
  simp only at hkk
  have HKK:=Hi hkk;have hfl:=foldKey_len k t;clear hr hkk HY2 HF2 F3 BZ2 hu hrt;generalize foldKeyS k t=fk at *
  go_upto_region 4 with fail
  have BY:=Blk.new w2 251 #[.int .i64 k,.slice au t.length cu];obtain⟨y,hy⟩:∃ y,y=w2.heap.size:=⟨_,rfl⟩
  rw[←hy]at BY ⊢
  clear hy;generalize (w2.alloc (.cells #[.int .i64 k,.slice au t.length cu] 251))=w3 at *
  have y0:=BY.cell 0;have y1:=BY.cell 1;simp only[SG]at y0 y1
  go_wp2_with fail
  refine HX.out.mono ?_;rintro e w4 ⟨rfl,F4⟩;obtain⟨cp,wc,hcv,hbv,FC,-⟩:=bytes_of_str w4 fk (by omega)
  have HXX:=Hi (hex_any _ fk wc hbv (by omega));have HF4:=Hi ((HF3.out.trans F4).trans FC);have hhl:=hexS_len fk;have hhs:(ByteArray.mk (hexS fk).toArray).size=(hexS fk).length:=by simp[ByteArray.size]
  clear HX HF3 F4 hbv FC BY y0 y1;generalize hexS fk=hb at *
  go_wp2_with fail
  refine HXX.out.mono ?_;rintro e w5 ⟨rfl,F5⟩;go_wp2_with fail
  go_ret;refine⟨congrArg (fun x:ByteArray=>Ending.returned (.string x)) ?_,HF4.out.trans F5⟩
  rw[HKK.out,←List.append_assoc,←ba_cat,←ba_cat]
def StepOut (w w':World)(l:List UInt8)(e:Ending):Prop:=
 match stepS l with
 |none=>e=.returned (.tuple #[.slice none 0 0,.int .i64 6])
 |some p=>∃ a c,e=.returned (.tuple #[.slice a 1 c,.int .i64 0])∧Kept (fun W=>Attrs W (.slice a 1 c) [p]) (fun k=>k<w.heap.size) w'
theorem nameStep_any (l:List UInt8)(w:World)(hE:Env w)(hl:l.length≤10000000) :
  Calls Tryz.prog 93 #[str l] w fun e w'=>StepOut w w' l e∧Fz w w':=by
 have hc:=strCut_any l 61 w hE (by omega);obtain⟨hcl1,hcl2⟩:=cut1_len 61 l
 have hs:stepS l=if (cut1 61 l).2.2=false then none else match fromTextS (cut1 61 l).1 with|.error _=>none|.ok o=>some ⟨o,leastWhole (cut1 61 l).2.1⟩:=rfl
 have HC:=Hi hc;have HS:=Hi hs;have HE:=Hi hE;clear hc hs hE;generalize cut1 61 l=cc at *
 obtain⟨kd,vl,ok⟩:=cc
 replace hcl1:kd.length≤l.length:=hcl1;replace hcl2:vl.length≤l.length:=hcl2;go_enter Tryz.func93,Tryz.ntmps93
 go_wp2_with fail
 refine HC.out.mono ?_;rintro e w1 ⟨rfl,F1⟩;have HFT:=Hi (fromText_any kd w1 (HE.out.old F1) (by omega));clear HC;go_wp2_with fail
 refine HFT.out.mono ?_;rintro e w2 ⟨hout,F2⟩;have HF2:=Hi (F1.trans F2);unfold fromTextOut at hout;have hss:=HS.out;cases hft:fromTextS kd with
 |error x=>
  rw[hft]at hout hss
  obtain⟨rfl,hx⟩:=hout
  have hx1:(x==0)=false:=beq_eq_false_iff_ne.2 hx;have hx2:(x != 0)=true:=by simpa using hx
  have hnone:stepS l=none:=by
   rw[hss]
   split<;>rfl
  have HN:=Hi hnone;clear hnone hss hft HFT hx;cases ok
  all_goals
   go_wp2_with fail
   refine bodyPost_ret (v:=.tuple #[.slice none 0 0,.int .i64 6]) (by simp[results,Tryz.results93,go_sem]) rfl ⟨?_,HF2.out⟩;unfold StepOut;rw[HN.out]
 |ok o=>
  rw[hft]at hout hss
  obtain⟨u,rfl,hown⟩:=hout
  cases ok with
  |false=>
   have hnone:stepS l=none:=by rw[hss];rfl
   have HN:=Hi hnone;obtain⟨au,mu,cu,rfl,-⟩:=own_shape hown
   clear hnone hss hft HFT hown;go_wp2_with fail
   refine bodyPost_ret (v:=.tuple #[.slice none 0 0,.int .i64 6]) (by simp[results,Tryz.results93,go_sem]) rfl ⟨?_,HF2.out⟩;unfold StepOut;rw[HN.out]
  |true=>
   have hsome:stepS l=some ⟨o,leastWhole vl⟩:=by rw[hss];rfl
   have HN:=Hi hsome;obtain⟨au,mu,cu,rfl,-⟩:=own_shape hown
   have HOW:=Hi hown;have HL:=Hi (least_any vl w2 ((HE.out.old HF2.out).tabs) (by omega));clear hsome hss hft HFT hown;go_wp2_with fail
   refine HL.out.mono ?_;rintro e w3 ⟨⟨u3,rfl,hb3,hk3⟩,F3⟩;have HW:=Hi (writeText_any (leastK vl) u3 vl w3 hb3 ((HE.out.old HF2.out).tabs.old F3) (least_right vl) (by omega));have HF3:=Hi F3;obtain⟨a3,c3,rfl,-⟩:=hb3.form
   clear HL hb3 hk3 F3;go_wp2_with fail
   refine HW.out.mono ?_;rintro e w4 ⟨⟨u4,rfl,ho4⟩,F4⟩;have hlw:wrapS (tagOf (leastK vl)) vl=leastWhole vl:=rfl;rw[hlw]at ho4
   obtain⟨a4,m4,c4,rfl,-⟩:=own_shape ho4
   have F5:Fz w4 (w4.alloc (.cells #[.slice au mu cu,.slice a4 m4 c4] 145)):=(Fr.refl w4).alloc _;have BX:=Blk.new w4 145 #[.slice au mu cu,.slice a4 m4 c4];have hs2:=HF2.out.size;have hs1:=F1.size;have hs3:=HF3.out.size;have hs4:=F4.size;have hown5:=ownsRow_fr (ownsRow_fr (ownsRow_fr HOW.out HF3.out (fun _ _ h=>h)) F4 (fun _ _ h=>h)) F5 (fun _ _ h=>h);have ho5:=ownsRow_fr ho4 F5 (fun _ _ h=>h);have HKP:=Hi (show Kept (fun W=>Attrs W (.slice (some ⟨w4.heap.size,0,none⟩) 1 1) [⟨o,leastWhole vl⟩]) (fun k=>k<w.heap.size) (w4.alloc (.cells #[.slice au mu cu,.slice a4 m4 c4] 145)) from fun W f=>by
    refine Attrs.of_block (BX.fr f (by omega)) (Vals.fr (Vals.of_own hown5).1 f (fun h0 k hk hs=>?_)) (Vals.fr (Vals.of_own ho5).1 f (fun h0 k hk hs=>?_))
    ·have:=((Vals.of_own hown5).2 k hk).1
     omega
    ·have:=((Vals.of_own ho5).2 k hk).1
     omega)
   have HF5:=Hi (((HF2.out.trans HF3.out).trans F4).trans F5);clear HW ho4 F4 F5 BX hown5 ho5 HOW HF2 HF3;go_wp2_with fail
   refine bodyPost_ret (v:=.tuple #[.slice (some ⟨w4.heap.size,0,none⟩) 1 1,.int .i64 0]) (by simp[results,Tryz.results93,go_sem]) rfl ⟨?_,HF5.out⟩;unfold StepOut;rw[HN.out]
   exact⟨_,_,rfl,HKP.out⟩
theorem info143:(Tryz.prog.info? 143).map (fun i=>(i.zero,i.size,i.bytes))=some (some (.slice none 0 0),1,24):=by kernel_rfl
theorem NmRow.add {w wa:World}{base:Nat}{v:Value}{n:List (List Part)}(h:NmRow w base v n)(hb:base≤w.heap.size)(F1:Fz w wa)(g:Nat)(u:Value)(r:List Part)(BX:Blk wa g 143 #[u])(hu1:u.oneCell'=true)(hu:Kept (fun W=>Attrs W u r) (fun k=>v.ownBlock=some k) w)(hn:n.length≤109951162777) :
  ∃ a c w',(Builtin.append_ #[43,43] 43 #[v,.slice (some ⟨g,0,none⟩) 1 1]).run Tryz.prog wa=.ok (.slice a (n.length+1) c) w'∧NmRow w' base (.slice a (n.length+1) c) (n++[r])∧Fr (fun k=>v.ownBlock=some k) w w':=by
 obtain⟨us,h1,h2,h3⟩:=h
 obtain⟨a,c,w',hrun,h4,F2,h5⟩:=add_gen Tryz.underlying43 info143 rfl (by decide) (by decide) h1 hb F1 g [u] rfl BX (by simpa using hu1) hn
 refine⟨a,c,w',hrun,⟨us++[u],?_,by simp[h2],fun i x s hx hs=>?_⟩,F2⟩
 ·rw[List.length_append]
  exact h4
 ·rcases Nat.lt_or_ge i us.length with hi|hi
  ·rw[List.getElem?_append_left hi]at hx
   rw[List.getElem?_append_left (by omega)]at hs
   exact(h3 i x s hx hs).step F2 (fun _ _ h=>h) h5
  ·obtain rfl:i=us.length:=by
    have:=(List.getElem?_eq_some_iff.1 hx).1;simp at this
    omega
   rw[List.getElem?_append_right (Nat.le_refl _)]at hx
   rw[List.getElem?_append_right (by omega)]at hs
   simp at hx
   simp[h2]at hs
   subst hx;subst hs;exact hu.step F2 (fun _ _ h=>h) h5
def NameOfOut (w w':World)(l:List (List UInt8))(e:Ending):Prop:=
 match nameOfS l with
 |.error x=>e=.returned (.tuple #[.slice none 0 0,.int .i64 x])∧x≠0
 |.ok n=>∃ v,e=.returned (.tuple #[v,.int .i64 0])∧NmRow w' w.heap.size v n
theorem nameOf_any (v:Value)(ks:List (List UInt8))(w:World)(h:Strs w v ks)(hE:Env w)(hk:∀ k∈ks,k.length≤10000000)(hl:ks.length≤1000000) :
  Calls Tryz.prog 47 #[v] w fun e w'=>NameOfOut w w' ks e∧Fz w w':=by
 have H:=Hi h;have HE:=Hi hE;have HK:=Hi hk;obtain⟨a,cap,rfl,hc,hm,-⟩:=Strs.form h
 clear h hE hk;go_enter Tryz.func47,Tryz.ntmps47
 go_upto_region 2 with fail
 have B0:=Blk.new w 143 #[];have F0:Fz w (w.alloc (.cells #[] 143)):=(Fr.refl w).alloc _;have N0:NmRow (w.alloc (.cells #[] 143)) w.heap.size (.slice (some ⟨w.heap.size,0,none⟩) 0 0) []:=⟨[],own_block B0 0 (Nat.le_refl _) (Nat.zero_le _) w.heap.size (Nat.le_refl _),rfl,fun i u r h=>by simp at h⟩;have HN0:=Hi N0;have HF0:=Hi F0;have hno:nameOfS ks=match stepsOfS ks with|none=>.error 6|some n=>if 64<n.length then .error 2 else .ok n:=rfl
 have HNO:=Hi hno;clear B0 F0 N0 hno;generalize (w.alloc (.cells #[] 143))=w1 at *
 go_wp2_with fail
 go_loopg [4,12] ks.length (fun g u i wr=>∃ (j:Nat) (os:List (List Part)) (au:Option Addr) (cu:Nat),g=ks.length-j∧j≤ks.length∧u=.slice au os.length cu∧i=.int .i64 j∧os.length=j∧NmRow wr w.heap.size (.slice au os.length cu) os∧Fz w wr∧stepsOfS ks=(stepsOfS (ks.drop j)).map (os++·))
 case atStart=>exact⟨0,[],_,0,rfl,Nat.zero_le _,rfl,rfl,rfl,HN0.out,HF0.out,by simp⟩
 case round=>
  obtain⟨j,os,au,cu,hg,hj,rfl,rfl,hos,hrow,F,hR⟩:=hrel
  have HG:=Hi hg;have HOS:=Hi hos;have HRW:=Hi hrow;have HR:=Hi hR;have HF:=Hi F;clear hg hos hrow hR;by_cases hjl:j<ks.length
  ·obtain⟨a0,cap0,he,_,_,hx⟩:=Strs.form (H.out.old F)
   simp only[Value.slice.injEq,true_and]at he
   obtain⟨rfl,rfl⟩:=he
   obtain⟨b,off,rfl,hy⟩:=hx (by omega)
   obtain⟨s,hs⟩:∃ s,ks[j]? = some s:=⟨_,List.getElem?_eq_getElem hjl⟩
   have e1:=hy j s hs;have hsl:=HK.out s (List.mem_of_getElem? hs);have HSS:=Hi hs;have HST:=Hi (nameStep_any s wr (HE.out.old F) hsl);have r1:(0:Int)≤(j:Int):=by omega
   have r2:(j:Int)<(ks.length:Int):=by omega
   clear hx hy hs F;go_wp2_with fail
   refine HST.out.mono ?_;rintro e w2 ⟨hout,F2⟩;unfold StepOut at hout;cases hp:stepS s with
   |none=>
    rw[hp]at hout
    subst hout;have hnone:=stepsOf_none HR.out HSS.out hp;have hres:nameOfS ks=.error 6:=by rw[HNO.out,hnone]
    have HRES:=Hi hres;clear hp hnone hres;go_wp2_with fail
    refine bodyPost_ret (v:=.tuple #[.slice none 0 0,.int .i64 6]) (by simp[results,Tryz.results47,go_sem]) rfl ⟨?_,HF.out.trans F2⟩;unfold NameOfOut;rw[HRES.out]
    exact⟨rfl,by decide⟩
   |some p=>
    rw[hp]at hout
    obtain⟨ap,cp,rfl,hkp⟩:=hout
    have hnx:=stepsOf_next HR.out HSS.out hp;have HNX:=Hi hnx;have F3:Fz w2 (w2.alloc (.cells #[.slice ap 1 cp] 143)):=(Fr.refl w2).alloc _;have hs1:=HF.out.size;have hs2:=F2.size;have hbk:=HRW.out.kept;obtain⟨a',c',w4,hrun,hrow4,F4⟩:=NmRow.add (HRW.out.old F2) (by omega) F3 w2.heap.size (.slice ap 1 cp) [p] (Blk.new w2 143 #[.slice ap 1 cp]) rfl (hkp.step (Fr.refl w2) (fun _ _ h=>h) (fun k hk=>.inl (hbk k hk).2)) (by rw[HOS.out];omega)
    have HRUN:=Hi hrun;have HRW4:=Hi hrow4;have HF4:=Hi ((HF.out.trans F2).trans' F4 (fun i hi e=>by have:=(hbk i e).1;omega));clear hnx hp hkp F2 F3 hrun hrow4 F4 hbk HRW HF HST;go_wp2_with (at_builtin;refine wpList_append_run (by rfl) (.tmp 24) (.tmp 26) 43 (by rfl) _ w4 (by exact HRUN.out) ?_)
    go_roundg (ks.length-(j+1))
    case measure=>rw[HG.out];omega
    case rel=>exact⟨j+1,os++[[p]],a',c',rfl,by omega,by rw[List.length_append];rfl,by go_num,by simp[HOS.out],by rw[List.length_append];exact HRW4.out,HF4.out,HNX.out⟩
  ·obtain rfl:j=ks.length:=by omega
   have hd:ks.drop ks.length=[]:=List.drop_length;have hall:stepsOfS ks=some os:=by rw[HR.out,hd];simp[stepsOfS]
   have hres:nameOfS ks=if 64<os.length then .error 2 else .ok os:=by rw[HNO.out,hall]
   have HRES:=Hi hres;clear hd hall hres;by_cases h64:64<os.length
   ·have q1:(64:Int)<(os.length:Int):=by omega
    go_wp2_with fail
    refine bodyPost_ret (v:=.tuple #[.slice none 0 0,.int .i64 2]) (by simp[results,Tryz.results47,go_sem]) rfl ⟨?_,HF.out⟩;unfold NameOfOut;rw[HRES.out,if_pos h64]
    exact⟨rfl,by decide⟩
   ·have q1:¬(64:Int)<(os.length:Int):=by omega
    go_wp2_with fail
    refine bodyPost_ret (v:=.tuple #[.slice au os.length cu,.int .i64 0]) (by simp[results,Tryz.results47,go_sem]) rfl ⟨?_,HF.out⟩;unfold NameOfOut;rw[HRES.out,if_neg h64]
    exact⟨_,rfl,HRW.out⟩
theorem info145:(Tryz.prog.info? 145).map (fun i=>(i.zero,i.size,i.bytes))=some (some (.agg #[.slice none 0 0,.slice none 0 0]),2,48):=by kernel_rfl
end Go.Proofs.YteidmhkobmddiaaGreatDoor
