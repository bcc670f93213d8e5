/-
  Merged by program: XBase XFrm XVals XNOct XNApp XInts XNBits XNmSpec XNmText XNDig.
-/
import Derived.Test.YteidmhkobmddiaaGreatDoorRows
import Derived.WalkKit
import Derived.WalkSpells
import Derived.Lib.Hide
import Derived.Deep.QuietTactic
import Derived.BigQuiet
import Derived.Deep.RegionHeld3
import Derived.StillTailTactics
import Derived.Test.YteidmhkobmddiaaGreatDoorCards
import Derived.Test.YteidmhkobmddiaaGreatDoorTie
import Derived.PinnedBridge
import Derived.Lib.LaidU8T
import Derived.Shelf.Vars
import Derived.Lib.ItoaNum
import Derived.Handed
import Derived.Lay
import Derived.ProofKit
import Derived.OpenShut
import Derived.ShutString
import Derived.ChangeOld
import Derived.SevenTiedAt
import Derived.Lib.UnsafeStr
import Derived.Laws.AppendOwn
import Derived.Laws.CopyOwn
import Derived.Laws.MakeOwn
import Derived.Laws.OwnMore
import Derived.Deep.RegionWith
import Derived.Deep.DeepCutAuto
import Derived.Maps.AppendAt
import Derived.Deep.RegionLaw
import Derived.Laws.BitsLemmas
import Derived.Laws.BitsAllLaws
import Derived.Lib.DecodeN
import Derived.Lib.Itoa
set_option linter.unusedSimpArgs false
set_option maxRecDepth 100000
set_option maxHeartbeats 8000000
namespace Go.Q
open Go Go.RowKit
abbrev pt (b:Nat):Value:=.pointer (some ⟨b,0,none⟩)
structure Fr (S:Nat→Prop) (w w':World):Prop where
 os:w'.os=w.os
 tape:w'.tape=w.tape
 output:w'.output=w.output
 size:w.heap.size≤w'.heap.size
 block:∀ k,k<w.heap.size→¬S k→w'.heap[k]? = w.heap[k]?
theorem Fr.refl {S:Nat→Prop}(w:World):Fr S w w:=⟨rfl,rfl,rfl,Nat.le_refl _,fun _ _ _=>rfl⟩
theorem Fr.trans {S:Nat→Prop}{a b c:World}(h:Fr S a b)(k:Fr S b c):Fr S a c:=
 ⟨k.os.trans h.os,k.tape.trans h.tape,k.output.trans h.output,Nat.le_trans h.size k.size,
  fun i hi hS=>(k.block i (Nat.lt_of_lt_of_le hi h.size) hS).trans (h.block i hi hS)⟩
theorem Fr.trans' {S T:Nat→Prop}{a b c:World}(h:Fr S a b)(k:Fr T b c)(hT:∀ i,i<a.heap.size→T i→S i):Fr S a c:=
 ⟨k.os.trans h.os,k.tape.trans h.tape,k.output.trans h.output,Nat.le_trans h.size k.size,
  fun i hi hS=>(k.block i (Nat.lt_of_lt_of_le hi h.size) (fun ht=>hS (hT i hi ht))).trans (h.block i hi hS)⟩
theorem Fr.mono {S T:Nat→Prop}{w w':World}(h:Fr S w w')(hT:∀ i,i<w.heap.size→S i→T i):Fr T w w':=
 ⟨h.os,h.tape,h.output,h.size,fun k hk hS=>h.block k hk (fun s=>hS (hT k hk s))⟩
theorem Fr.drew {S:Nat→Prop}{a w:World}(h:Fr S a w):Fr S a w.drew:=⟨h.os,h.tape,h.output,h.size,h.block⟩
theorem Fr.drewN {S:Nat→Prop}{a w:World}(h:Fr S a w)(n:Nat):Fr S a (w.drewN n):=⟨h.os,h.tape,h.output,h.size,h.block⟩
theorem Fr.alloc {S:Nat→Prop}{a w:World}(h:Fr S a w)(o:Obj):Fr S a (w.alloc o):=
 h.trans ⟨rfl,rfl,rfl,by simp,fun k hk _=>Below.heap_alloc _ _ _ hk⟩
theorem Fr.setCell {S:Nat→Prop}{a w:World}(h:Fr S a w){p:Addr}(hp:p.block<a.heap.size→S p.block)(u:Value):Fr S a (w.setCell p u):=
 ⟨h.os,h.tape,h.output,by have:=h.size;simpa [World.setCell] using this,fun k hk hS=>
  (Below.heap_setCell _ _ _ _ (fun e=>hS (by subst e;exact hp hk))).trans (h.block k hk hS)⟩
theorem Fr.below {S:Nat→Prop}{B:Nat}{w w':World}(h:Fr S w w')(hB:B≤w.heap.size)(hS:∀ i,i<B→¬S i):Below B w w':=
 ⟨h.os,h.tape,h.output,h.size,fun k hk=>h.block k (by omega) (hS k hk)⟩
theorem Fr.of_below {w w':World}(h:Below w.heap.size w w'):Fr (fun _=>False) w w':=⟨h.os,h.tape,h.output,h.size,fun k hk _=>h.block k hk⟩
def Blk (w:World)(b:Nat)(t:TypeId)(cs:Array Value):Prop:=w.heap[b]? = some (.cells cs t (0,0))
theorem Blk.lt {w:World}{b:Nat}{t:TypeId}{cs:Array Value}(h:Blk w b t cs):b<w.heap.size:=(Array.getElem?_eq_some_iff.1 h).1
theorem Blk.cell {w:World}{b:Nat}{t:TypeId}{cs:Array Value}(h:Blk w b t cs)(i:Nat):w.cell? ⟨b,i,none⟩=cs[i]?:=by
 unfold Blk at h;simp[World.cell?,h]
theorem Blk.frozen {w:World}{b:Nat}{t:TypeId}{cs:Array Value}(h:Blk w b t cs)(i:Nat):w.frozen? ⟨b,i,none⟩=false:=by
 unfold Blk at h;simp[World.frozen?,h]
theorem Blk.fr {S:Nat→Prop}{w w':World}{b:Nat}{t:TypeId}{cs:Array Value}(h:Blk w b t cs)(f:Fr S w w')(hb:¬S b):Blk w' b t cs:=
 (f.block b h.lt hb).trans h
theorem Blk.drew {w:World}{b:Nat}{t:TypeId}{cs:Array Value}(h:Blk w b t cs):Blk w.drew b t cs:=h
theorem Blk.alloc {w:World}{b:Nat}{t:TypeId}{cs:Array Value}(h:Blk w b t cs)(o:Obj):Blk (w.alloc o) b t cs:=
 (Below.heap_alloc w o b h.lt).trans h
theorem Blk.new (w:World)(t:TypeId)(cs:Array Value):Blk (w.alloc (.cells cs t)) w.heap.size t cs:=by
 unfold Blk World.alloc;simp
theorem Blk.set_other {w:World}{b:Nat}{t:TypeId}{cs:Array Value}(h:Blk w b t cs){a:Addr}(hb:b≠a.block)(v:Value):Blk (w.setCell a v) b t cs:=
 (Below.heap_setCell w a v b hb).trans h
theorem Blk.set {w:World}{b:Nat}{t:TypeId}{cs:Array Value}(h:Blk w b t cs)(i:Nat)(v:Value):Blk (w.setCell ⟨b,i,none⟩ v) b t (cs.setIfInBounds i v):=by
 unfold Blk at *;simp[World.setCell,Array.getElem?_modify,h]
theorem Fr.cell {S:Nat→Prop}{w w':World}(f:Fr S w w'){a:Addr}{v:Value}(h:w.cell? a=some v)(hb:¬S a.block):w'.cell? a=some v:=by
 have e:w'.cell? a=w.cell? a:=World.cell?_of_block (w:=w) (f.block a.block (World.block_lt_of_cell? w a h) hb);exact e.trans h
theorem alloc_old (w:World)(o:Obj)(b i:Nat)(h:b<w.heap.size):(w.alloc o).cell? ⟨b,i,none⟩=w.cell? ⟨b,i,none⟩:=World.cell?_alloc_lt w o ⟨b,i,none⟩ h
open Go
abbrev Fz (w w':World):Prop:=Fr (fun _=>False) w w'
theorem fy {α:Type}{a:Option α}{b c:α}(h:a=some b)(e:b=c:=by kernel_rfl):a=some c:=h.trans (congrArg some e)
theorem Hi {p:Prop}(h:p):Hid p:=Lib.hid h
theorem SS {α:Type}:(∀ (l:List α) (i:Nat) (a:α),l.toArray.setIfInBounds i a=(l.set i a).toArray)∧(∀ (x y:α) (l:List α),(x::l).set 0 y=y::l)∧(∀ (x y:α) (l:List α) (n:Nat),(x::l).set (n+1) y=x::l.set n y):=⟨List.setIfInBounds_toArray,fun _ _ _=>rfl,fun _ _ _ _=>rfl⟩
theorem SG {α:Type}:(∀ (l:List α) (i:Nat),l.toArray[i]? = l[i]?)∧(∀ (a:α) (l:List α) (i:Nat),(a::l)[i+1]? = l[i]?)∧(∀ (a:α) (l:List α),(a::l)[0]? = some a):=⟨fun _ _=>by simp,fun _ _ _=>by simp,fun _ _=>by simp⟩
theorem SK {α:Type}:(∀ (l:List α) (i:Nat) (h:i<l.toArray.size),l.toArray[i]'h=l[i]'(by simpa using h))∧(∀ (a:α) (l:List α) (i:Nat) (h:i+1<(a::l).length),(a::l)[i+1]'h=l[i]'(by simpa using h))∧(∀ (a:α) (l:List α) (h:0<(a::l).length),(a::l)[0]'h=a):=⟨fun _ _ _=>rfl,fun _ _ _ _=>rfl,fun _ _ _=>rfl⟩
def Vals (w:World)(v:Value)(xs:List Value):Prop:=
 ∃ a cap,v=.slice a xs.length cap∧xs.length≤cap∧cap≤maxLen∧(0<xs.length→∃ b o,a=some ⟨b,o,none⟩∧∀ i u,xs[i]? = some u→w.cell? ⟨b,o+i,none⟩=some u)
def Off (v:Value)(n:Nat)(K:Nat→Prop):Prop:=0<n→∀ k,v.ownBlock=some k→¬K k
def ValsK (w:World)(K:Nat→Prop)(v:Value)(xs:List Value):Prop:=Vals w v xs∧Off v xs.length K
theorem Vals.lt {w:World}{v:Value}{xs:List Value}(h:Vals w v xs)(h0:0<xs.length):∀ k,v.ownBlock=some k→k<w.heap.size:=by
 intro k hk;obtain⟨a,cap,rfl,_,_,h⟩:=h
 obtain⟨b,o,rfl,hx⟩:=h h0
 simp only[Value.ownBlock,Option.some.injEq]at hk
 subst hk;exact World.block_lt_of_cell? w _ (hx 0 _ (List.getElem?_eq_getElem h0))
theorem Vals.nil (w:World):Vals w (.slice none 0 0) []:=⟨none,0,rfl,Nat.le_refl _,Nat.zero_le _,fun h=>absurd h (Nat.lt_irrefl _)⟩
theorem Vals.fr {S:Nat→Prop}{w w':World}{v:Value}{xs:List Value}(h:Vals w v xs)(f:Fr S w w')(hS:Off v xs.length S):Vals w' v xs:=by
 obtain⟨a,cap,rfl,hc,hm,h⟩:=h
 refine⟨a,cap,rfl,hc,hm,fun h0=>?_⟩
 obtain⟨b,o,rfl,hx⟩:=h h0
 exact⟨b,o,rfl,fun i u hu=>f.cell (hx i u hu) (hS h0 b rfl)⟩
theorem Vals.old {w w':World}{v:Value}{xs:List Value}(h:Vals w v xs)(f:Fz w w'):Vals w' v xs:=h.fr f (fun _ _ _ h=>h)
theorem ValsK.fr {S K K':Nat→Prop}{w w':World}{v:Value}{xs:List Value}(h:ValsK w K v xs)(f:Fr S w w')(hS:∀ k,k<w.heap.size→S k→K k)(hK:∀ k,K' k→K k∨w.heap.size≤k):ValsK w' K' v xs:=by
 refine⟨h.1.fr f (fun h0 k hk hs=>h.2 h0 k hk (hS k (h.1.lt h0 k hk) hs)),fun h0 k hk hk'=>?_⟩
 rcases hK k hk' with h1|h1
 ·exact h.2 h0 k hk h1
 ·have:=h.1.lt h0 k hk
  omega
theorem ValsK.old {K:Nat→Prop}{w w':World}{v:Value}{xs:List Value}(h:ValsK w K v xs)(f:Fz w w'):ValsK w' K v xs:=h.fr f (fun _ _ h=>h.elim) (fun _ h=>.inl h)
theorem ValsK.mono {K K':Nat→Prop}{w:World}{v:Value}{xs:List Value}(h:ValsK w K v xs)(hK:∀ k,K' k→K k):ValsK w K' v xs:=⟨h.1,fun h0 k hk hk'=>h.2 h0 k hk (hK k hk')⟩
theorem Vals.of_own {w:World}{base n:Nat}{e:TypeId}{v:Value}{xs:List Value}(h:w.ownsRow base e 1 v n xs):Vals w v xs∧∀ k,v.ownBlock=some k→base≤k∧k<w.heap.size:=by
 obtain⟨h1,h2⟩:=h
 simp only[Nat.mul_one]at h1
 rcases h2 with ⟨rfl,h2⟩|⟨g,cap,cur,rfl,hg,hh,hnc,hcm,hcs,htk⟩
 ·have:xs=[]:=by simpa [h2] using h1
  subst this;exact⟨Vals.nil w,by simp[Value.ownBlock]⟩
 ·refine⟨⟨_,cap,by rw[h1],by omega,hcm,fun _=>⟨g,0,rfl,fun i u hu=>?_⟩⟩,fun k hk=>?_⟩
  ·have hi:i<xs.length:=(List.getElem?_eq_some_iff.1 hu).1
   have e1:cur.toList[i]? = some u:=by
    rw[←hu,←htk,List.getElem?_take,if_pos (by omega)]
   simp only[World.cell?,hh,Nat.zero_add]
   simpa using e1
  ·simp only[Value.ownBlock,Option.some.injEq]at hk
   exact⟨by omega,by subst hk;exact(Array.getElem?_eq_some_iff.1 hh).1⟩
theorem own_block {w:World}{g:Nat}{e:TypeId}{cs:Array Value}(h:Blk w g e cs)(n:Nat)(hn:n≤cs.size)(hm:cs.size≤maxLen)(base:Nat)(hb:base≤g):w.ownsRow base e 1 (.slice (some ⟨g,0,none⟩) n cs.size) n (cs.toList.take n):=
 ⟨by simp;omega,.inr ⟨g,cs.size,cs,rfl,hb,h,hn,hm,by simp,by simp⟩⟩
abbrev Bytes (w:World)(v:Value)(l:List UInt8):Prop:=Vals w v (Lib.byteCells l)
abbrev BytesK (w:World)(K:Nat→Prop)(v:Value)(l:List UInt8):Prop:=ValsK w K v (Lib.byteCells l)
theorem byteCells_len (l:List UInt8):(Lib.byteCells l).length=l.length:=by simp[Lib.byteCells]
theorem byteCells_get (l:List UInt8)(i:Nat):(Lib.byteCells l)[i]? = l[i]?.map (fun b=>Value.int .u8 b.toNat):=by simp[Lib.byteCells]
theorem Vals.form {w:World}{v:Value}{l:List UInt8}(h:Bytes w v l):∃ a cap,v=.slice a l.length cap∧l.length≤cap∧cap≤maxLen∧(0<l.length→∃ b o,a=some ⟨b,o,none⟩∧∀ i x,l[i]? = some x→w.cell? ⟨b,o+i,none⟩=some (.int .u8 x.toNat)):=by
 obtain⟨a,cap,rfl,hc,hm,h⟩:=h
 rw[byteCells_len]at hc h ⊢
 refine⟨a,cap,rfl,hc,hm,fun h0=>?_⟩
 obtain⟨b,o,rfl,hx⟩:=h h0
 exact⟨b,o,rfl,fun i x hxx=>hx i _ (by rw[byteCells_get,hxx];rfl)⟩
theorem Vals.sub {w:World}{a:Option Addr}{n cap:Nat}{xs:List Value}(h:Vals w (.slice a n cap) xs)(i j:Nat)(hij:i≤j)(hj:j≤n)(a':Option Addr)(cap':Nat)(ha:i<j→∀ b o,a=some ⟨b,o,none⟩→a'=some ⟨b,o+i,none⟩)(hc:j-i≤cap')(hm:cap'≤maxLen):Vals w (.slice a' (j-i) cap') ((xs.drop i).take (j-i)):=by
 obtain⟨a0,cap0,he,hc0,hm0,h⟩:=h
 simp only[Value.slice.injEq]at he
 obtain⟨rfl,rfl,rfl⟩:=he
 have hl:((xs.drop i).take (j-i)).length=j-i:=by rw[List.length_take,List.length_drop];omega
 refine⟨a',cap',by rw[hl],by omega,hm,fun h0=>?_⟩
 obtain⟨b,o,rfl,hx⟩:=h (by omega)
 refine⟨b,o+i,ha (by omega) b o rfl,fun k u hu=>?_⟩
 rw[List.getElem?_take]at hu
 split at hu
 ·rw[List.getElem?_drop]at hu
  rw[Nat.add_assoc]
  exact hx (i+k) u hu
 ·cases hu
theorem Fr.of_grown {w w':World}{row:Option Nat}(h:w.grownBy w' row):Fr (fun k=>row=some k) w w':=
 ⟨h.os,h.tape,h.output,h.size,fun k hk hS=>h.block k hk (fun e=>hS e.symm)⟩
section
variable {P:Program}
theorem wpList_append_run {w:World}{ops:Array Oper}{rest:List Oper}{o:Oper}{a:Act}{Q:Exit→Act→World→Prop}(hgd:o.guard=none)(s x:Operand)(t:TypeId)
  (ho:o.op=.call { callee:=.builtin .append,args:=#[s,x],argTypes:=#[t,t] }) (v':Value) (w':World)
  (hr:(Builtin.append_ #[t,t] o.type #[a.eval s,a.eval x]).run P w=.ok v' w') (h:wpList P ops Q rest (a.put o.dst v') w'):wpList P ops Q (o::rest) a w:=by
 refine wpList_plain hgd fun K hK=>?_
 unfold Oper.wp;simp[execOp,ho,resolve,invoke,builtin,hr,Result.andThen]
 exact hK _ _ h
theorem step_append_run {ops:Array Oper}{o:Oper}{a:Act}{w:World}{K:Act→World→Prop}{Q:Exit→Act→World→Prop}{E:Prop}(hgd:o.guard=none)(s x:Operand)(t:TypeId)
  (ho:o.op=.call { callee:=.builtin .append,args:=#[s,x],argTypes:=#[t,t] }) (v':Value) (w':World)
  (hr:(Builtin.append_ #[t,t] o.type #[a.eval s,a.eval x]).run P w=.ok v' w') (h:K (a.put o.dst v') w'):if Region.wanted o (yielded ops a.tmps)=true then Oper.wp P o a w K Q else E:=by
 have hw:Region.wanted o (yielded ops a.tmps)=true:=by simp[Region.wanted,hgd]
 rw[if_pos hw]
 unfold Oper.wp;simp[execOp,ho,resolve,invoke,builtin,hr,Result.andThen]
 exact h
end
theorem and127 (x:UInt8):bits .and .u8 (x.toNat:Int) 127=((x.toNat % 128:Nat):Int):=by
 have:=x.toNat_lt;have h:=u8_and_nat x.toNat 127 (by omega) (by omega);rw[nat_mask7]at h
 exact h
theorem and31 (x:UInt8):bits .and .u8 (x.toNat:Int) 31=((x.toNat % 32:Nat):Int):=by
 have:=x.toNat_lt;have h:=u8_and_nat x.toNat 31 (by omega) (by omega);rw[nat_mask5]at h
 exact h
theorem and15 (x:UInt8):bits .and .u8 (x.toNat:Int) 15=((x.toNat % 16:Nat):Int):=by
 have:=x.toNat_lt;have h:=u8_and_nat x.toNat 15 (by omega) (by omega);rw[nat_mask4]at h
 exact h
theorem and32 (x:UInt8):bits .and .u8 (x.toNat:Int) 32=((x.toNat / 32 % 2*32:Nat):Int):=by
 have:=x.toNat_lt;have h:=u8_and_nat x.toNat 32 (by omega) (by omega);rw[show (32:Nat)=2 ^ 5 from rfl,nat_bit]at h
 exact h
theorem wraps_i62:∀ n:Int,0≤n→n<2 ^ 62→IntKind.i64.wrap n=n:=by
 intro n h0 h1;rw[IntKind.wrap_i64]
 omega
theorem or7 (m r:Nat)(hm:m*128<4611686018427387904)(hr:r<128):bits .or .i64 ((m:Int)*128) (r:Int)=((m*128+r:Nat):Int):=by
 have h:=(bits_nat .i64 62 (by decide) wraps_i62 (m*128) r (by omega) (by omega)).2;rw[nat_join 7 (m*128) r (by omega) (by omega)]at h
 rw[←h]
 simp
theorem or8 (m r:Nat)(hm:m*256<4611686018427387904)(hr:r<256):bits .or .i64 ((m:Int)*256) (r:Int)=((m*256+r:Nat):Int):=by
 have h:=(bits_nat .i64 62 (by decide) wraps_i62 (m*256) r (by omega) (by omega)).2;rw[nat_join 8 (m*256) r (by omega) (by omega)]at h
 rw[←h]
 simp
theorem wrap_nat (n:Nat)(h:n<9223372036854775808):wrap64 (n:Int)=(n:Int):=by unfold wrap64;omega
structure Tag where
 cls:Int
 num:Int
 made:Bool
 deriving DecidableEq
def tagOf (n:Int):Tag:=⟨0,n,n==16||n==17⟩
def numS:Nat→Nat→List UInt8→Except Int (Nat × Nat)
 |_,_,[]=>.error 3
 |i,n,x::t=>if (i=0∧x.toNat=128)∨i=3 then .error 4 else if x.toNat<128 then (if n*128+x.toNat % 128<31 then .error 4 else .ok (n*128+x.toNat % 128,i+1)) else numS (i+1) (n*128+x.toNat % 128) t
def readTagS:List UInt8→Except Int (Tag × Nat)
 | []=>.error 3
 |x::t=>if x.toNat % 32<31 then .ok (⟨x.toNat / 64,x.toNat % 32,decide (x.toNat / 32 % 2=1)⟩,1) else
  match numS 0 0 t with
  |.error e=>.error e
  |.ok (n,k)=>.ok (⟨x.toNat / 64,n,decide (x.toNat / 32 % 2=1)⟩,k+1)
def beS (l:List UInt8):Nat:=l.foldl (fun k x=>k*256+x.toNat) 0
def longS (n:Nat)(l:List UInt8):Except Int (Nat × Nat):=
 if l.length<n then .error 3 else if l.head?.map (·.toNat)=some 0∨beS (l.take n)<128 then .error 5 else if 16777216<beS (l.take n) then .error 2 else .ok (beS (l.take n),n+1)
def readLenS:List UInt8→Except Int (Nat × Nat)
 | []=>.error 3
 |x::t=>if x.toNat<128 then .ok (x.toNat,1) else if x.toNat=128∨132<x.toNat then .error 5 else longS (x.toNat-128) t
def readS (l:List UInt8):Except Int (Tag × Nat × Nat):=
 match readTagS l with
 |.error e=>.error e
 |.ok (t,k)=>
  match readLenS (l.drop k) with
  |.error e=>.error e
  |.ok (n,m)=>.ok (t,n,k+m)
def openS (t:Tag)(l:List UInt8):Except Int (List UInt8 × Nat):=
 match readS l with
 |.error e=>.error e
 |.ok (u,n,k)=>if u≠t then .error 4 else if l.length-k<n then .error 3 else .ok ((l.drop k).take n,k+n)
def oneS (l:List UInt8):Except Int (Tag × Nat × Nat):=
 match readS l with
 |.error e=>.error e
 |.ok (u,n,k)=>if l.length-k<n then .error 3 else .ok (u,k,k+n)
def wholesS:Nat→List UInt8→Except Int (List (List UInt8))
 |_,[]=>.ok []
 |0,_::_=>.error 3
 |fuel+1,x::t=>
  match oneS (x::t) with
  |.error e=>.error e
  |.ok (_,_,k)=>
   match wholesS fuel ((x::t).drop k) with
   |.error e=>.error e
   |.ok l=>.ok ((x::t).take k::l)
def tagByte (t:Tag):UInt8:=UInt8.ofNat ((t.cls*64+(if t.made then 32 else 0)+t.num).toNat)
def lenBytes (n:Nat):List UInt8:=
 if n<128 then [UInt8.ofNat n] else if n<256 then [129,UInt8.ofNat n] else if n<65536 then [130,UInt8.ofNat (n / 256),UInt8.ofNat (n % 256)] else
 if n<16777216 then [131,UInt8.ofNat (n / 65536),UInt8.ofNat (n / 256 % 256),UInt8.ofNat (n % 256)] else [132,UInt8.ofNat (n / 16777216),UInt8.ofNat (n / 65536 % 256),UInt8.ofNat (n / 256 % 256),UInt8.ofNat (n % 256)]
def wrapS (t:Tag)(l:List UInt8):List UInt8:=tagByte t::(lenBytes l.length++l)
def tagGood (t:Tag):Prop:=(0≤t.cls∧t.cls<4)∧0≤t.num∧t.num<31
theorem u8' (n:Nat)(h:n<256):(UInt8.ofNat n).toNat=n:=by simp;omega
theorem tag_read {t:Tag}(h:tagGood t)(l:List UInt8):readTagS (tagByte t::l)=.ok (t,1):=by
 obtain⟨⟨h1,h2⟩,h3,h4⟩:=h
 obtain⟨c,n,m⟩:=t
 simp only at h1 h2 h3 h4
 have e:(tagByte ⟨c,n,m⟩).toNat=(c*64+(if m then 32 else 0)+n).toNat:=by
  unfold tagByte;exact u8' _ (by cases m<;>simp<;>omega)
 simp only[readTagS]
 rw[e]
 rw[if_pos (by cases m<;>simp<;>omega)]
 refine congrArg _ (Prod.ext ?_ rfl);simp only[Tag.mk.injEq]
 cases m<;>simp<;>omega
theorem long_ok {d l:List UInt8}{v x:Nat}(hd:∃ y t,d=y::t∧y.toNat≠0)(hv:beS d=v)(h1:128≤v)(h2:v≤16777216)(hx:x=128+d.length)(hx2:d.length≤4) :
  readLenS (UInt8.ofNat x::(d++l))=.ok (v,d.length+1):=by
 obtain⟨y,t,rfl,hy⟩:=hd
 have e:=u8' x (by omega);have hl:0<(y::t).length:=by simp
 simp only[readLenS,e]
 rw[if_neg (by omega),if_neg (by omega),show x-128=(y::t).length from by omega]
 unfold longS;rw[List.take_left,hv,if_neg (by simp),if_neg (by simp[hy];omega),if_neg (by omega)]
theorem len_read {n:Nat}(h:n≤16777216)(l:List UInt8):readLenS (lenBytes n++l)=.ok (n,(lenBytes n).length):=by
 have key:∀ (x:Nat) (d:List UInt8),lenBytes n=UInt8.ofNat x::d→(∃ y t,d=y::t∧y.toNat≠0)→beS d=n→128≤n→x=128+d.length→d.length≤4→readLenS (lenBytes n++l)=.ok (n,(lenBytes n).length):=by
  intro x d e h1 h2 h3 h4 h5;rw[e,List.cons_append,long_ok h1 h2 h3 h h4 h5]
  rfl
 by_cases c1:n<128
 ·have e:=u8' n (by omega)
  simp only[lenBytes,if_pos c1,List.cons_append,List.nil_append,readLenS,e]
  rfl
 by_cases c2:n<256
 ·have e:=u8' n (by omega)
  exact key 129 [UInt8.ofNat n] (by simp only[lenBytes,if_neg c1,if_pos c2];rfl) ⟨_,_,rfl,by rw[e];omega⟩ (by simp only[beS,List.foldl_cons,List.foldl_nil,e];omega) (by omega) rfl (by simp)
 by_cases c3:n<65536
 ·have e1:=u8' (n / 256) (by omega)
  have e2:=u8' (n % 256) (by omega);exact key 130 [UInt8.ofNat (n / 256),UInt8.ofNat (n % 256)] (by simp only[lenBytes,if_neg c1,if_neg c2,if_pos c3];rfl) ⟨_,_,rfl,by rw[e1];omega⟩ (by simp only[beS,List.foldl_cons,List.foldl_nil,e1,e2];omega) (by omega) rfl (by simp)
 by_cases c4:n<16777216
 ·have e1:=u8' (n / 65536) (by omega)
  have e2:=u8' (n / 256 % 256) (by omega);have e3:=u8' (n % 256) (by omega);exact key 131 [UInt8.ofNat (n / 65536),UInt8.ofNat (n / 256 % 256),UInt8.ofNat (n % 256)] (by simp only[lenBytes,if_neg c1,if_neg c2,if_neg c3,if_pos c4];rfl) ⟨_,_,rfl,by rw[e1];omega⟩ (by simp only[beS,List.foldl_cons,List.foldl_nil,e1,e2,e3];omega) (by omega) rfl (by simp)
 ·obtain rfl:n=16777216:=by omega
  exact key 132 [UInt8.ofNat 1,UInt8.ofNat 0,UInt8.ofNat 0,UInt8.ofNat 0] rfl ⟨_,_,rfl,by decide⟩ (by decide) (by omega) rfl (by simp)
theorem wrap_read {t:Tag}(h:tagGood t){l:List UInt8}(hl:l.length≤16777216)(rest:List UInt8):readS (wrapS t l++rest)=.ok (t,l.length,1+(lenBytes l.length).length):=by
 unfold readS wrapS;rw[List.cons_append,tag_read h]
 simp only[List.drop_succ_cons,List.drop_zero,List.append_assoc,len_read hl]
theorem wrap_len (t:Tag)(l:List UInt8):(wrapS t l).length=1+(lenBytes l.length).length+l.length:=by
 simp[wrapS];omega
theorem wholes_nil (f:Nat):wholesS f []=.ok []:=by cases f<;>rfl
def enc (n:Nat):List UInt8:=
 if n<128 then [UInt8.ofNat n] else if n<2048 then [UInt8.ofNat (192+n / 64),UInt8.ofNat (128+n % 64)] else
 if n<65536 then [UInt8.ofNat (224+n / 4096),UInt8.ofNat (128+n / 64 % 64),UInt8.ofNat (128+n % 64)] else
 [UInt8.ofNat (240+n / 262144),UInt8.ofNat (128+n / 4096 % 64),UInt8.ofNat (128+n / 64 % 64),UInt8.ofNat (128+n % 64)]
def decS (l:List UInt8):Nat × Nat:=Lib.decodeN l.length (l.getD 0 0).toNat (l.getD 1 0).toNat (l.getD 2 0).toNat (l.getD 3 0).toNat
def okSign (n:Nat):Prop:=n<1114112∧¬(55296≤n∧n≤57343)
theorem u8 (n:Nat)(h:n<256):(UInt8.ofNat n).toNat=n:=by simp;omega
def wideS:Nat→List UInt8→List Int
 |_,[]=>[]
 |0,_::_=>[]
 |f+1,x::t=>(if (decS (x::t)).1=65533∧(decS (x::t)).2≤1 then -1 else ((decS (x::t)).1:Int))::wideS f ((x::t).drop (decS (x::t)).2)
def encAll (l:List Nat):List UInt8:=l.flatMap enc
def printables:List UInt8 := "abcdefghijklmnopqrstuvwxyzABCDEFGHIJKLMNOPQRSTUVWXYZ0123456789 '()+,-./:=?".toUTF8.data.toList
def surr (n:Int):Bool:=decide (55296≤n∧n≤57343)
def kindOk (k:Int):Bool:=decide (k=12∨k=19∨k=20∨k=22∨k=26∨k=30)
def mayS (k n:Int):Bool:=
 if k=12 then decide (0≤n∧n≤1114111)&&!surr n else
 if k=19 then decide (0≤n∧n<256)&&printables.contains (UInt8.ofNat n.toNat) else
 if k=20 then decide (0≤n∧n≤255) else
 if k=22 then decide (0≤n∧n<128) else
 if k=26 then decide (32≤n∧n≤126) else
 if k=30 then decide (0≤n∧n≤65535)&&!surr n else false
def pairsS:List UInt8→List Int
 | []=>[]
 | [_]=>[-1]
 |x::y::t=>((x.toNat * 256+y.toNat:Nat):Int)::pairsS t
def signsS (k:Int)(b:List UInt8):List Int:=if k=12 then wideS b.length b else if k=30 then pairsS b else b.map (fun x=>(x.toNat:Int))
def rightS (k:Int)(b:List UInt8):Bool:=kindOk k&&(signsS k b).all (mayS k)
def putS1 (k n:Int):List UInt8:=if k=12 then enc n.toNat else if k=30 then [UInt8.ofNat (n.toNat / 256),UInt8.ofNat (n.toNat % 256)] else [UInt8.ofNat n.toNat]
def ofS (k:Int)(l:List Int):List UInt8:=l.flatMap (putS1 k)
end Go.Q
namespace Go.Proofs.YteidmhkobmddiaaGreatDoor
open Go Go.RowKit Go.Q Go.Shelf Go.ChangeShapes Go.WideShapes Go.ChangeAt
theorem handed_both {H:Type}{enc:TypeId × Value→H}{a:Assume}{C:Checked}{os:Os}{f:FuncId}{fn:Func}{s:ChangeSpec}{conds:List PathCond}{apart fresh handsOn again:Bool}{X:World→Array Value→Prop}
  (hX:∀ (w w':World) (args:Array Value),w.heap=w'.heap→X w args→X w' args)
  (own:ownKnob C.prog.godebug=none) (started:os.Started) (noInit:C.prog.inits.idxOf? f=none) (hfn:C.prog.funcs[f]? = some fn)
  (witness:∃ (w:World) (tape:Tape) (i:Input),w.os=os∧(w.forCall tape i).Shaped C.prog∧i.vars=[]∧Input.okWide C.prog (w.forCall tape i) .any w.heap.size f i∧
    ((s.pre enc C.prog fn conds apart (w.forCall tape i).memory i.args∧X (w.forCall tape i).memory i.args)∧sizedMet enc C.prog fn (OpenSpec.ofChange s) apart (w.forCall tape i).memory i.args)∧a.holds C.prog (lone (Frame.enter C.prog f i.args .normal) [] (w.forCall tape i)))
  (contract:∀ (W:World) (base:Nat) (args:Array Value) (ds gs:List (DataW H)) (before:List MemPlace),
    (∀ (j:Nat) t v,fn.params[j]? = some t→args[j]? = some v→Value.okWide C.prog W .any base t v)→
    DataW.Whole enc C.prog fn.params.toList s.vars apart W args.toList ds gs before→X W args→W.ShapedOpen C.prog→
    Calls C.prog f args W fun e W'=>∃ v,e=.returned v∧s.post enc C.prog fn apart fresh handsOn again W args v W') :
  ReturnsInHanded a C os f .any (fun w args=>(s.pre enc C.prog fn conds apart w args∧X w args)∧sizedMet enc C.prog fn (OpenSpec.ofChange s) apart w args) (s.post enc C.prog fn apart fresh handsOn again):=by
 refine returnsInHanded_of_calls own started noInit witness ?_;intro w tape i _ hsh _ hok hpre _;obtain⟨_,_,_,fn',hfn',_,_,_,_,hval⟩:=hok
 have e:fn'=fn:=Option.some.inj (hfn'.symm.trans hfn);subst e;obtain⟨⟨⟨ds,gs,before,hw,_⟩,hx⟩,_⟩:=hpre
 have hw':=DataW.Whole.of_heap (w':=w.forCall tape i) (by rfl) hw;refine(contract (w.forCall tape i) w.heap.size i.args ds gs before hval hw' (hX _ _ _ (by rfl) hx) hsh).mono fun e W' ⟨v,he,hp⟩=>?_
 subst he;exact ChangeSpec.post_blind hp
theorem ownP:ownKnob Tryz.prog.godebug=none:=by kernel_rfl
theorem laidOutP:laidOutB Tryz.prog=true:=by kernel_rfl
def u8ren:Ren:=⟨fun n=>n,fun n=>if n=5 then 5 else if n=119 then 485 else if n=138 then 487 else 488,fun n=>if n=3 then 2 else 3⟩
theorem u8types:U8Types Tryz.prog u8ren:=⟨by kernel_rfl,by kernel_rfl,by kernel_rfl,by kernel_rfl⟩
theorem u8extra:U8Extra Tryz.prog u8ren:=⟨by kernel_rfl,by kernel_rfl,by kernel_rfl,by kernel_rfl,by kernel_rfl,by kernel_rfl,by kernel_rfl⟩
abbrev laidL:List (String × DataW Unit):=Rows.scopePointsRow.laid
theorem pow_data:(Rows.laid_internal_strconv_uint64pow10:DataW Unit)=Lib.tabData .u64 Lib.pow10Tab:=by kernel_rfl
theorem accept_data:(Rows.laid_unicode_utf8_acceptRanges:DataW Unit)=Lib.acceptData:=by kernel_rfl
theorem laid_facts {W:World}(h:laidMetH Tryz.prog laidL W)(hs:W.ShapedOpen Tryz.prog) :
  Lib.Utf8Tabs 2 3 W∧Lib.TabIs Tryz.prog W "internal/strconv.uint64pow10" .u64 Lib.pow10Tab∧∃ m,W.cell? ⟨0,0,none⟩=some (.int .i64 m):=by
 rw[MakeChecks.laidMetH_plain _ _ _ (by kernel_rfl)]at h
 have r1:Lib.VarReads Tryz.prog W "unicode/utf8.first" Lib.firstData:=Pinned.utf8First_eq▸Lib.laidMet.reads h (.tail _ (.tail _ (.tail _ (.tail _ (.head _)))))
 have r2:Lib.VarReads Tryz.prog W "unicode/utf8.acceptRanges" Lib.acceptData:=accept_data▸Lib.laidMet.reads h (.tail _ (.tail _ (.tail _ (.head _))))
 have r3:Lib.VarReads Tryz.prog W "internal/strconv.uint64pow10" (Lib.tabData .u64 Lib.pow10Tab):=pow_data▸Lib.laidMet.reads h (.tail _ (.tail _ (.head _)))
 refine⟨utf8Tabs_of_readsT u8types u8extra r1 r2,?_,cell_of_shapedOpen_int hs (of_decide_eq_true (by kernel_rfl)) (zero:=#[.int .i64 0]) (t:=3) (by kernel_rfl) rfl (by kernel_rfl) (by kernel_rfl) Tryz.underlying3⟩
 obtain⟨g,t,cs,fuel,p,hg,ht,hvar,hd⟩:=r3
 obtain rfl:=Option.some.inj ((show Tryz.prog.globalNamed "internal/strconv.uint64pow10" = some 1 by kernel_rfl).symm.trans hg)
 obtain rfl:=Option.some.inj ((show (Tryz.prog.globals[1]?).map (·.type)=some 470 by kernel_rfl).symm.trans ht)
 unfold Lib.TabIs;rw[hvar,←Lib.cells_of_tab (n:=20) (e:=429) (by kernel_rfl) (by kernel_rfl) (by kernel_rfl) (by kernel_rfl) hd]
theorem laid_world (os:Os)(args:Array Value):laidMetH Tryz.prog laidL ((World.laidAll Tryz.prog os laidL).forCall (fun _ _=>0) ⟨#[],args,[]⟩).memory:=by
 rw[MakeChecks.laidMetH_plain _ _ _ (by kernel_rfl)]
 exact laidMet_laidAll _ (by kernel_rfl) (by kernel_rfl)
theorem laid_shaped (os:Os)(args:Array Value):((World.laidAll Tryz.prog os laidL).forCall (fun _ _=>0) ⟨#[],args,[]⟩).Shaped Tryz.prog:=
 World.shaped_of_ZipB (by kernel_rfl) (by kernel_rfl)
open Go Go.RowKit Go.Q
theorem info5:(Tryz.prog.info? 5).map (fun i=>(i.zero,i.size,i.bytes))=some (some (.int .u8 0),1,1):=by kernel_rfl
def CurAt (w:World)(c:Nat)(K:Nat→Prop)(bs:List UInt8)(at_:Nat):Prop:=
 ∃ sl,Blk w c 295 #[sl,.int .i64 at_]∧Bytes w sl bs∧at_≤bs.length∧bs.length≤1099511627776∧¬K c∧Off sl bs.length (fun k=>k=c∨K k)
theorem CurAt.step {w w':World}{c:Nat}{K K' S:Nat→Prop}{bs:List UInt8}{i:Nat}(h:CurAt w c K bs i)(f:Fr S w w')(hS:∀ k,k<w.heap.size→S k→K k)(hK:∀ k,K' k→K k∨w.heap.size≤k):CurAt w' c K' bs i:=by
 obtain⟨sl,B,hv,hi,hl,hc,ho⟩:=h
 have hlt:=B.lt;have hb:BytesK w (fun k=>k=c∨K k) sl bs:=⟨hv,by rw[byteCells_len];exact ho⟩;have hb':=hb.fr (K':=fun k=>k=c∨K' k) f (fun k hk h=>.inr (hS k hk h)) (fun k h=>by
  rcases h with h|h
  ·exact .inl (.inl h)
  ·rcases hK k h with h|h
   ·exact .inl (.inr h)
   ·exact .inr h)
 refine⟨sl,B.fr f (fun h=>hc (hS c hlt h)),hb'.1,hi,hl,fun h=>?_,by have:=hb'.2;rwa[byteCells_len]at this⟩
 rcases hK c h with h|h
 ·exact hc h
 ·omega
theorem CurAt.old {w w':World}{c:Nat}{K:Nat→Prop}{bs:List UInt8}{i:Nat}(h:CurAt w c K bs i)(f:Fz w w'):CurAt w' c K bs i:=h.step f (fun _ _ h=>h.elim) (fun _ h=>.inl h)
theorem CurAt.lt {w:World}{c:Nat}{K:Nat→Prop}{bs:List UInt8}{i:Nat}(h:CurAt w c K bs i):c<w.heap.size:=by obtain⟨sl,B,_⟩:=h;exact B.lt
theorem CurAt.le {w:World}{c:Nat}{K:Nat→Prop}{bs:List UInt8}{i:Nat}(h:CurAt w c K bs i):i≤bs.length:=by obtain⟨sl,B,_,hi,_⟩:=h;exact hi
theorem CurAt.small {w:World}{c:Nat}{K:Nat→Prop}{bs:List UInt8}{i:Nat}(h:CurAt w c K bs i):bs.length≤1099511627776:=by obtain⟨sl,B,_,_,hl,_⟩:=h;exact hl
theorem CurAt.off {w:World}{c:Nat}{K:Nat→Prop}{bs:List UInt8}{i:Nat}(h:CurAt w c K bs i):¬K c:=by obtain⟨sl,B,_,_,_,hc,_⟩:=h;exact hc
theorem CurAt.set {w:World}{c:Nat}{K:Nat→Prop}{bs:List UInt8}{i:Nat}(h:CurAt w c K bs i)(j:Nat)(hj:j≤bs.length):CurAt (w.setCell ⟨c,1,none⟩ (.int .i64 j)) c K bs j∧Fr (fun k=>k=c) w (w.setCell ⟨c,1,none⟩ (.int .i64 j)):=by
 obtain⟨sl,B,hv,hi,hl,hc,ho⟩:=h
 have f:Fr (fun k=>k=c) w (w.setCell ⟨c,1,none⟩ (.int .i64 j)):=Fr.setCell (S:=fun k=>k=c) (p:=⟨c,1,none⟩) (Fr.refl w) (fun _=>rfl) _;exact⟨⟨sl,B.set 1 _,hv.fr f (fun h0 k hk e=>ho (by rwa[byteCells_len]at h0) k hk (.inl e)),hj,hl,hc,ho⟩,f⟩
theorem at_any {w:World}{c:Nat}{K:Nat→Prop}{bs:List UInt8}{i:Nat}(h:CurAt w c K bs i) :
  Calls Tryz.prog 235 #[pt c] w fun e w'=>e=.returned (.int .i64 i)∧w=w':=by
 obtain⟨sl,B,-⟩:=h
 have e1:=B.cell 1;simp at e1
 clear B;go_enter Tryz.func235,Tryz.ntmps235
 go_wp2_with fail
 go_ret;exact⟨rfl,rfl⟩
theorem size_any {w:World}{c:Nat}{K:Nat→Prop}{bs:List UInt8}{i:Nat}(h:CurAt w c K bs i) :
  Calls Tryz.prog 279 #[pt c] w fun e w'=>e=.returned (.int .i64 bs.length)∧w=w':=by
 obtain⟨sl,B,hv,-⟩:=h
 obtain⟨a,cap,rfl,-⟩:=hv.form
 have e1:=B.cell 0;simp at e1
 clear B;go_enter Tryz.func279,Tryz.ntmps279
 go_wp2_with fail
 go_ret;exact⟨rfl,rfl⟩
theorem left_any {w:World}{c:Nat}{K:Nat→Prop}{bs:List UInt8}{i:Nat}(h:CurAt w c K bs i) :
  Calls Tryz.prog 237 #[pt c] w fun e w'=>e=.returned (.int .i64 ((bs.length-i:Nat):Int))∧Fz w w':=by
 have H:=Hi h;have hle:=h.le;have hsm:=h.small;obtain⟨sl,B,-⟩:=h
 have e1:=B.cell 1;simp at e1
 clear B;have hw:IntKind.i64.wrap ((bs.length:Int)-(i:Int))=((bs.length-i:Nat):Int):=by simp[IntKind.wrap,IntKind.signed,IntKind.bits];omega
 go_enter Tryz.func237,Tryz.ntmps237
 go_wp2_with fail
 go_quiet ((go_at_call 279;exact Calls.quiet_of_same ((size_any (H.out.old ((Fr.refl w).drewN (S:=fun _=>False) _))).mono (fun _ _ ⟨h1,h2⟩=>⟨h1,h2.symm⟩))))
 go_wp2_with fail
 go_ret;exact⟨rfl,(Fr.refl w).drewN nq⟩
theorem drop_cons {α:Type}{l:List α}{i:Nat}{x:α}{t:List α}(h:l.drop i=x::t):l[i]? = some x∧i<l.length:=by
 have hi:i<l.length:=by
  rcases Nat.lt_or_ge i l.length with h1|h1
  ·exact h1
  ·rw[List.drop_eq_nil_of_le h1]at h;cases h
 have e:=List.drop_eq_getElem_cons hi;rw[h]at e
 simp only[List.cons.injEq]at e
 exact⟨by rw[List.getElem?_eq_getElem hi,e.1],hi⟩
theorem drop_nil {α:Type}{l:List α}{i:Nat}(h:l.drop i=[]):l.length≤i:=by simpa using h
theorem peek_on {w:World}{c:Nat}{K:Nat→Prop}{bs:List UInt8}{i:Nat}(h:CurAt w c K bs i){x:UInt8}{t:List UInt8}(hd:bs.drop i=x::t) :
  Calls Tryz.prog 383 #[pt c] w fun e w'=>e=.returned (.tuple #[.int .u8 x.toNat,.int .i64 0])∧Fz w w':=by
 have H:=Hi h;obtain⟨hxx,hi⟩:=drop_cons hd
 obtain⟨sl,B,hv,-⟩:=h
 obtain⟨a,cap,rfl,hc,hm,hx⟩:=hv.form
 have e0:=B.cell 0;have e1:=B.cell 1;simp at e0 e1
 clear B hv hd;obtain⟨b,o,rfl,hy⟩:=hx (by omega)
 have ex:=hy i x hxx;clear hx hy hxx;have q1:¬((bs.length-i:Nat):Int)=0:=by omega
 have q2:(0:Int)≤(i:Int):=by omega
 have q3:(i:Int)<(bs.length:Int):=by omega
 go_enter Tryz.func383,Tryz.ntmps383
 go_wp2_with fail
 refine(left_any H.out).mono ?_
 rintro e w' ⟨rfl,F⟩;replace e0:=F.cell e0 (fun h=>h);replace e1:=F.cell e1 (fun h=>h);replace ex:=F.cell ex (fun h=>h);clear H;go_wp2_with fail
 go_quiet (fail)
 go_wp2_with fail
 exact bodyPost_ret (v:=.tuple #[.int .u8 x.toNat,.int .i64 0]) (by simp[results,Tryz.results383,go_sem]) rfl ⟨rfl,F.drewN nq⟩
theorem peek_end {w:World}{c:Nat}{K:Nat→Prop}{bs:List UInt8}{i:Nat}(h:CurAt w c K bs i)(hd:bs.drop i=[]) :
  Calls Tryz.prog 383 #[pt c] w fun e w'=>e=.returned (.tuple #[.int .u8 0,.int .i64 3])∧Fz w w':=by
 have H:=Hi h;have hl:=drop_nil hd;have q1:((bs.length-i:Nat):Int)=0:=by omega
 clear hd h;go_enter Tryz.func383,Tryz.ntmps383
 go_wp2_with fail
 refine(left_any H.out).mono ?_
 rintro e w' ⟨rfl,F⟩;go_wp2_with fail
 exact bodyPost_ret (v:=.tuple #[.int .u8 0,.int .i64 3]) (by simp[results,Tryz.results383,go_sem]) rfl ⟨rfl,F⟩
theorem byte_on {w:World}{c:Nat}{K:Nat→Prop}{bs:List UInt8}{i:Nat}(h:CurAt w c K bs i){x:UInt8}{t:List UInt8}(hd:bs.drop i=x::t) :
  Calls Tryz.prog 359 #[pt c] w fun e w'=>e=.returned (.tuple #[.int .u8 x.toNat,.int .i64 0])∧CurAt w' c K bs (i+1)∧Fr (fun k=>k=c) w w':=by
 have H:=Hi h;have HD:=Hi hd;obtain⟨hxx,hi⟩:=drop_cons hd
 have hsm:=h.small;clear hd h hxx;go_enter Tryz.func359,Tryz.ntmps359
 go_wp2_with fail
 refine(peek_on H.out HD.out).mono ?_
 rintro e w' ⟨rfl,F⟩;have C:=H.out.old F;have HC:=Hi C;obtain⟨sl,B,-⟩:=C
 have e1:=B.cell 1;have f1:=B.frozen 1;simp at e1
 have hw:IntKind.i64.wrap ((i:Int)+1)=((i+1:Nat):Int):=by simp[IntKind.wrap,IntKind.signed,IntKind.bits];omega
 clear H HD B;go_wp2_with fail
 obtain⟨C2,F2⟩:=HC.out.set (i+1) (by omega)
 rw[Int.natCast_add,Int.natCast_one]at C2 F2
 exact bodyPost_ret (v:=.tuple #[.int .u8 x.toNat,.int .i64 0]) (by simp[results,Tryz.results359,go_sem]) rfl ⟨rfl,C2,(F.mono (fun _ _ h=>h.elim)).trans F2⟩
theorem byte_end {w:World}{c:Nat}{K:Nat→Prop}{bs:List UInt8}{i:Nat}(h:CurAt w c K bs i)(hd:bs.drop i=[]) :
  Calls Tryz.prog 359 #[pt c] w fun e w'=>e=.returned (.tuple #[.int .u8 0,.int .i64 3])∧Fz w w':=by
 have H:=Hi h;have HD:=Hi hd;clear hd h;go_enter Tryz.func359,Tryz.ntmps359
 go_wp2_with fail
 refine(peek_end H.out HD.out).mono ?_
 rintro e w' ⟨rfl,F⟩;go_wp2_with fail
 exact bodyPost_ret (v:=.tuple #[.int .u8 0,.int .i64 3]) (by simp[results,Tryz.results359,go_sem]) rfl ⟨rfl,F⟩
theorem may_ok {w:World}{c:Nat}{K:Nat→Prop}{bs:List UInt8}{i:Nat}(h:CurAt w c K bs i)(n:Nat)(hn:n≤bs.length-i) :
  Calls Tryz.prog 336 #[pt c,.int .i64 n] w fun e w'=>e=.returned (.int .i64 0)∧Fz w w':=by
 have H:=Hi h;have q1:¬(n:Int)<0:=by omega
 have q2:¬((bs.length-i:Nat):Int)<(n:Int):=by omega
 clear h;go_enter Tryz.func336,Tryz.ntmps336
 go_wp2_with fail
 refine(left_any H.out).mono ?_
 rintro e w' ⟨rfl,F⟩;go_wp2_with fail
 go_ret;exact⟨rfl,F⟩
theorem may_end {w:World}{c:Nat}{K:Nat→Prop}{bs:List UInt8}{i:Nat}(h:CurAt w c K bs i)(n:Nat)(hn:bs.length-i<n) :
  Calls Tryz.prog 336 #[pt c,.int .i64 n] w fun e w'=>e=.returned (.int .i64 3)∧Fz w w':=by
 have H:=Hi h;have q1:¬(n:Int)<0:=by omega
 have q2:((bs.length-i:Nat):Int)<(n:Int):=by omega
 clear h;go_enter Tryz.func336,Tryz.ntmps336
 go_wp2_with fail
 refine(left_any H.out).mono ?_
 rintro e w' ⟨rfl,F⟩;go_wp2_with fail
 go_ret;exact⟨rfl,F⟩
theorem back_any {w:World}{c:Nat}{K:Nat→Prop}{bs:List UInt8}{i:Nat}(h:CurAt w c K bs i)(j:Nat)(hj:j≤i) :
  Calls Tryz.prog 236 #[pt c,.int .i64 j] w fun e w'=>e=.returned (.int .i64 0)∧CurAt w' c K bs j∧Fr (fun k=>k=c) w w':=by
 have H:=Hi h;have hle:=h.le;obtain⟨sl,B,-⟩:=h
 have e1:=B.cell 1;have f1:=B.frozen 1;simp at e1
 have q1:¬(j:Int)<0:=by omega
 have q2:¬(i:Int)<(j:Int):=by omega
 clear B;go_enter Tryz.func236,Tryz.ntmps236
 go_wp2_with fail
 go_ret;obtain⟨C2,F2⟩:=H.out.set j (by omega)
 exact⟨rfl,C2,F2⟩
theorem byteCells_one (l:List UInt8):∀ u∈Lib.byteCells l,u.oneCell'=true:=by
 intro u hu;simp only[Lib.byteCells,List.mem_map]at hu
 obtain⟨x,_,rfl⟩:=hu
 rfl
theorem byteCells_drop (l:List UInt8)(i:Nat):(Lib.byteCells l).drop i=Lib.byteCells (l.drop i):=by simp[Lib.byteCells,List.map_drop]
theorem byteCells_take (l:List UInt8)(i:Nat):(Lib.byteCells l).take i=Lib.byteCells (l.take i):=by simp[Lib.byteCells,List.map_take]
theorem make_bytes (n:Nat)(hn:n≤1099511627776)(w:World):(Instr.makeSlice 32 (.int .i64 n) (.int .i64 n)).run Tryz.prog w=.ok (.slice (some ⟨w.heap.size,0,none⟩) n n) (w.alloc (.cells (madeCells #[.int .u8 0] n) 5)):=by
 obtain⟨i0,hi0,hz0,hz1,hz2⟩:=info_parts info5
 have:=run_make (P:=Tryz.prog) w 32 5 i0 _ Tryz.underlying32 hi0 hz0 .i64 .i64 (n:Int) (n:Int) (by omega) (by omega) (by rw[hz2];omega) (by omega);rw[this]
 simp only[Int.toNat_natCast,hz1,Nat.mul_one]
 rfl
theorem copy_bytes (w:World)(g:Nat)(M:Array Value)(B:Blk w g 5 M)(n:Nat)(hM:M.size=n)(sp:Option Addr)(scap:Nat)(l:List UInt8)(hl:l.length=n)
  (hsrc:0<n→∃ b o,sp=some ⟨b,o,none⟩∧∀ i x,l[i]? = some x→w.cell? ⟨b,o+i,none⟩=some (.int .u8 x.toNat)) :
  ∃ w2,(Builtin.copy_ #[32,32] 3 #[.slice (some ⟨g,0,none⟩) n n,.slice sp n scap]).run Tryz.prog w=.ok (goInt n) w2∧Blk w2 g 5 (Lib.byteCells l).toArray∧Fr (fun k=>k=g) w w2:=by
 have hu:Tryz.prog.underlying 32=some (.slice 5):=Tryz.underlying32;have hs:(Tryz.prog.info? 5).map (·.size)=some 1:=by kernel_rfl
 rcases Nat.eq_zero_or_pos n with h0|h0
 ·refine⟨w,?_,?_,Fr.refl w⟩
  ·rw[run_copy_none (P:=Tryz.prog) w 32 32 3 5 _ _ _ _ _ _ hu hs (by simp[h0]),h0]
   rfl
  ·obtain rfl:l=[]:=List.length_eq_zero_iff.1 (by omega)
   obtain rfl:M=#[]:=Array.size_eq_zero_iff.1 (by omega)
   exact B
 ·obtain⟨b,o,rfl,hx⟩:=hsrc h0
  have hr:=run_copy_row (P:=Tryz.prog) w 32 32 3 5 g 0 n n ⟨b,o,none⟩ n scap M 5 (Lib.byteCells l) hu hs B (by rw[byteCells_len,hl];simp) (fun j v hj=>by
    rw[byteCells_get]at hj
    cases hlj:l[j]? with
    |none=>rw[hlj]at hj;cases hj
    |some x=>
     rw[hlj]at hj
     simp only[Option.map_some,Option.some.injEq]at hj
     subst hj;have:=hx j x hlj;rw[show (⟨b,o,none⟩:Addr).add j=⟨b,o+j,none⟩ from by unfold Addr.add;split<;>simp_all]
     exact this) (by rw[byteCells_len];omega) (byteCells_one l)
  rw[byteCells_len,hl]at hr
  have he:(M.toList.take 0++Lib.byteCells l++M.toList.drop (0+n)).toArray=(Lib.byteCells l).toArray:=by
   rw[List.take_zero,List.nil_append,Nat.zero_add,List.drop_eq_nil_of_le (by simp[hM]),List.append_nil]
  rw[he]at hr
  exact⟨_,hr,setRow_heap w g M _ _ (0,0) B,⟨rfl,rfl,rfl,by simp[World.setRow],fun k _ hk=>setRow_other w g k _ hk⟩⟩
theorem own_le {w:World}{base base':Nat}{e:TypeId}{size n:Nat}{v:Value}{xs:List Value}(h:w.ownsRow base e size v n xs)(hb:base'≤base):w.ownsRow base' e size v n xs:=by
 refine⟨h.1,?_⟩
 rcases h.2 with h|⟨g,cap,cur,r,hg,h⟩
 ·exact .inl h
 ·exact .inr ⟨g,cap,cur,r,Nat.le_trans hb hg,h⟩
theorem ownsRow_fr {S:Nat→Prop}{w w':World}{base:Nat}{e:TypeId}{size n:Nat}{v:Value}{xs:List Value}(h:w.ownsRow base e size v n xs)(f:Fr S w w')(hS:∀ k,v.ownBlock=some k→¬S k):w'.ownsRow base e size v n xs:=by
 refine⟨h.1,?_⟩
 rcases h.2 with h|⟨g,cap,cur,rfl,hg,hh,h⟩
 ·exact .inl h
 ·exact .inr ⟨g,cap,cur,rfl,hg,(f.block g (Array.getElem?_eq_some_iff.1 hh).1 (hS g rfl)).trans hh,h⟩
theorem own_bytes {w:World}{g:Nat}{l:List UInt8}(B:Blk w g 5 (Lib.byteCells l).toArray)(hl:l.length≤1099511627776)(base:Nat)(hb:base≤g):w.ownsRow base 5 1 (.slice (some ⟨g,0,none⟩) l.length l.length) l.length (Lib.byteCells l):=by
 have hm:l.length≤maxLen:=by unfold maxLen;omega
 have:=own_block B l.length (by simp[byteCells_len]) (by simpa [byteCells_len] using hm) base hb;rw[List.toList_toArray,List.take_of_length_le (by rw[byteCells_len];exact Nat.le_refl _)]at this
 simpa [byteCells_len] using this
theorem cut_any {w:World}{c:Nat}{K:Nat→Prop}{bs:List UInt8}{k:Nat}(h:CurAt w c K bs k)(i n:Nat)(hj:i+n≤bs.length) :
  Calls Tryz.prog 337 #[pt c,.int .i64 i,.int .i64 ((i:Int)+(n:Int))] w fun e w'=>∃ v,e=.returned v∧w'.ownsRow w.heap.size 5 1 v n (Lib.byteCells ((bs.drop i).take n))∧Fz w w':=by
 have hle:=h.le;have hsm:=h.small;obtain⟨sl,B,hv,-⟩:=h
 obtain⟨a,cap,rfl,hc,hm,hx⟩:=hv.form
 have e0:=B.cell 0;have lb:=B.lt;simp at e0
 have hw:IntKind.i64.wrap ((i:Int)+(n:Int)-(i:Int))=(n:Int):=by simp[IntKind.wrap,IntKind.signed,IntKind.bits];omega
 have hw2:IntKind.i64.wrap (n:Int)=(n:Int):=by simp[IntKind.wrap,IntKind.signed,IntKind.bits];omega
 obtain⟨M,hM,hmk⟩:∃ M:Array Value,M.size=n∧(Instr.makeSlice 32 (.int .i64 (n:Int)) (.int .i64 (n:Int))).run Tryz.prog w=.ok (.slice (some ⟨w.heap.size,0,none⟩) n n) (w.alloc (.cells M 5)):=
  ⟨_,size_madeCells _ _,make_bytes n (by omega) w⟩
 have HM:=Hi hM;have q1:(0:Int)≤(i:Int):=by omega
 have q2:(i:Int)≤(i:Int)+(n:Int):=by omega
 have q3:(i:Int)+(n:Int)≤(cap:Int):=by omega
 have hal:=alloc_old;have HX:=Hi hx;clear hx B hv hM;go_enter Tryz.func337,Tryz.ntmps337
 go_upto_region 2 with fail
 have F1:Fz w (w.alloc (.cells M 5)):=(Fr.refl w).alloc _;have BM:Blk (w.alloc (.cells M 5)) w.heap.size 5 M:=Blk.new w _ _;replace e0:=F1.cell e0 (fun h=>h);have HB:=Hi BM;have HF:=Hi F1;obtain⟨g,hg⟩:∃ g,g=w.heap.size:=⟨_,rfl⟩
 rw[←hg]at HB ⊢
 have HGG:=Hi hg;clear hal hmk lb BM F1 hg;generalize (w.alloc (.cells M 5))=w1 at *
 obtain⟨l,hl⟩:∃ l,l=(bs.drop i).take n:=⟨_,rfl⟩
 have hll:l.length=n:=by rw[hl,List.length_take,List.length_drop];omega
 have hsrc:∀ sp:Option Addr,(0<n→sp=a.map fun x=>x.add i)→(0<n→∃ b o,sp=some ⟨b,o,none⟩∧∀ i x,l[i]? = some x→w1.cell? ⟨b,o+i,none⟩=some (.int .u8 x.toNat)):=fun sp hsp h0=>by
  obtain⟨b,o,rfl,hy⟩:=HX.out (by omega)
  refine⟨b,o+i,by rw[hsp h0];unfold Addr.add;simp,fun m x hm=>?_⟩
  rw[hl,List.getElem?_take]at hm
  split at hm
  ·rw[List.getElem?_drop]at hm
   rw[Nat.add_assoc]
   exact HF.out.cell (hy (i+m) x hm) (fun h=>h)
  ·cases hm
 have HS:=Hi hsrc;have HLL:=Hi hl;have HL:=Hi hll;clear hsrc hl hll;go_wp2_with fail
 case' inl h=>
  obtain⟨w2,hr,B2,F2⟩:=copy_bytes w1 g M HB.out n HM.out a 0 l HL.out (HS.out a (fun h=>by omega))
 case' inr h=>
  obtain⟨w2,hr,B2,F2⟩:=copy_bytes w1 g M HB.out n HM.out (a.map fun x=>x.add i) (cap-i) l HL.out (HS.out _ (fun _=>rfl))
 all_goals
  rw[hr]
  go_wp2_with fail
  go_ret;have ho:=own_bytes B2 (by rw[HL.out];omega) w.heap.size (by rw[HGG.out];exact Nat.le_refl _);rw[HL.out,HLL.out]at ho
  exact⟨_,rfl,ho,HF.out.trans' F2 (fun k hk e=>absurd hk (by rw[e,HGG.out];exact Nat.lt_irrefl _))⟩
theorem take_ok {w:World}{c:Nat}{K:Nat→Prop}{bs:List UInt8}{i:Nat}(h:CurAt w c K bs i)(n:Nat)(hn:n≤bs.length-i) :
  Calls Tryz.prog 281 #[pt c,.int .i64 n] w fun e w'=>∃ v,e=.returned (.tuple #[v,.int .i64 0])∧w'.ownsRow w.heap.size 5 1 v n (Lib.byteCells ((bs.drop i).take n))∧CurAt w' c K bs (i+n)∧Fr (fun k=>k=c) w w':=by
 have H:=Hi h;have hle:=h.le;have hsm:=h.small;obtain⟨r,hr⟩:∃ r,r=Lib.byteCells ((bs.drop i).take n):=⟨_,rfl⟩
 have HR:=Hi hr;have hw:IntKind.i64.wrap ((i:Int)+(n:Int))=(i:Int)+(n:Int):=by simp[IntKind.wrap,IntKind.signed,IntKind.bits];omega
 clear h hr;go_enter Tryz.func281,Tryz.ntmps281
 go_wp2_with fail
 refine(may_ok H.out n hn).mono ?_
 rintro e w1 ⟨rfl,F1⟩;go_upto_region 4 with fail
 have C1:=H.out.old F1;have HC:=Hi (C1.old (Fr.refl w1).drew);obtain⟨sl,B,-⟩:=C1
 replace B:=B.drew;have F2:Fz w w1.drew:=F1.drew;clear F1 H;go_region_held3 (fun w'=>∀ j,w'.cell? ⟨c,j,none⟩=(#[sl,.int .i64 i]:Array Value)[j]?) (exact B.cell) (first
  |(go_at_call 337;refine(cut_any HC.out i n (by omega)).mono ?_;rintro e w' ⟨v,rfl,ho,F⟩;replace B:=B.fr F (fun h=>h);have C3:=HC.out.old F))
 have HO:=Hi ho;have HC3:=Hi C3;have e1:=B.cell 1;have f1:=B.frozen 1;simp at e1
 have hv:=Hi (Vals.of_own ho);clear ho C3;go_wp2_with fail
 obtain⟨C4,F4⟩:=HC3.out.set (i+n) (by omega)
 rw[Int.natCast_add]at C4 F4
 have hne:∀ k,v.ownBlock=some k→k≠c:=fun k hk e=>by
  have h1:=(hv.out.2 k hk).1;have h2:=HC.out.lt;omega
 refine bodyPost_ret (v:=.tuple #[v,.int .i64 0]) (by simp[results,Tryz.results281,go_sem]) rfl ⟨v,rfl,?_,C4,((F2.trans F).mono (fun _ _ h=>h.elim)).trans F4⟩;have ho2:=ownsRow_fr HO.out F4 (fun k hk e=>hne k hk e);have hb:w.heap.size≤w1.drew.heap.size:=F2.size;exact own_le ho2 hb
theorem take_end {w:World}{c:Nat}{K:Nat→Prop}{bs:List UInt8}{i:Nat}(h:CurAt w c K bs i)(n:Nat)(hn:bs.length-i<n) :
  Calls Tryz.prog 281 #[pt c,.int .i64 n] w fun e w'=>e=.returned (.tuple #[.slice none 0 0,.int .i64 3])∧Fz w w':=by
 have H:=Hi h;clear h;go_enter Tryz.func281,Tryz.ntmps281
 go_wp2_with fail
 refine(may_end H.out n hn).mono ?_
 rintro e w1 ⟨rfl,F1⟩;go_wp2_with fail
 exact bodyPost_ret (v:=.tuple #[.slice none 0 0,.int .i64 3]) (by simp[results,Tryz.results281,go_sem]) rfl ⟨rfl,F1⟩
theorem new_any (w:World)(v:Value)(l:List UInt8)(h:Bytes w v l)(hl:l.length≤1099511627776) :
  Calls Tryz.prog 138 #[v] w fun e w'=>e=.returned (pt w.heap.size)∧CurAt w' w.heap.size (fun k=>k<w.heap.size) l 0∧Fz w w':=by
 obtain⟨a,cap,rfl,hc,hm,hx⟩:=h.form
 have HX:=Hi hx;obtain⟨M,hM,hmk⟩:∃ M:Array Value,M.size=l.length∧∀ w:World,(Instr.makeSlice 32 (.int .i64 (l.length:Int)) (.int .i64 (l.length:Int))).run Tryz.prog w=.ok (.slice (some ⟨w.heap.size,0,none⟩) l.length l.length) (w.alloc (.cells M 5)):=
  ⟨_,size_madeCells _ _,fun w=>make_bytes l.length hl w⟩
 have HM:=Hi hM;clear hx hM h;go_enter Tryz.func138,Tryz.ntmps138
 go_upto_region 3 with fail
 obtain⟨c,hcc⟩:∃ c,c=w.heap.size:=⟨_,rfl⟩
 have B1:=(Blk.new w 295 #[.slice (some ⟨w.heap.size+1,0,none⟩) l.length l.length,.int .i64 0]).alloc (.cells M 5);have B2:=Blk.new (w.alloc (.cells #[.slice (some ⟨w.heap.size+1,0,none⟩) l.length l.length,.int .i64 0] 295)) 5 M;have F1:Fz w ((w.alloc (.cells #[.slice (some ⟨w.heap.size+1,0,none⟩) l.length l.length,.int .i64 0] 295)).alloc (.cells M 5)):=((Fr.refl w).alloc _).alloc _;rw[World.size_alloc]at B2
 rw[←hcc]at B1 B2 F1 ⊢
 generalize ((w.alloc (.cells #[.slice (some ⟨c+1,0,none⟩) l.length l.length,.int .i64 0] 295)).alloc (.cells M 5))=w1 at *
 have e0:=B1.cell 0;simp at e0
 obtain⟨w2,hr,B3,F3⟩:=copy_bytes w1 (c+1) M B2 l.length HM.out a cap l rfl (fun h0=>by
  obtain⟨b,o,rfl,hy⟩:=HX.out h0
  exact⟨b,o,rfl,fun i x hx=>F1.cell (hy i x hx) (fun h=>h)⟩)
 have HCC:=Hi hcc;have B4:=B1.fr F3 (by omega);have HF:=Hi (F1.trans' F3 (fun k hk e=>absurd hk (by rw[e,hcc];omega)));have hm2:l.length≤maxLen:=by unfold maxLen;omega
 have hcur:CurAt w2 c (fun k=>k<w.heap.size) l 0:=by
  refine⟨_,B4,⟨_,l.length,by rw[byteCells_len],by rw[byteCells_len];exact Nat.le_refl _,hm2,fun _=>⟨c+1,0,rfl,fun i u hu=>?_⟩⟩,Nat.zero_le _,hl,by omega,fun _ k hk=>?_⟩
  ·rw[Nat.zero_add,B3.cell]
   simpa using hu
  ·simp only[Value.ownBlock,Option.some.injEq]at hk
   omega
 have HCU:=Hi hcur;clear hmk hcc B1 B2 F1 B3 F3 B4 hcur;go_wp2_with fail
 go_ret;have hcc:=HCC.out;subst hcc;exact⟨rfl,HCU.out,HF.out⟩
theorem byteCells_append (a b:List UInt8):Lib.byteCells (a++b)=Lib.byteCells a++Lib.byteCells b:=by simp[Lib.byteCells]
theorem append_bytes {w:World}{base n:Nat}{v:Value}{xs:List UInt8}(hown:w.ownsRow base 5 1 v n (Lib.byteCells xs))(sp:Option Addr)(m c:Nat)(l:List UInt8)(hsrc:Bytes w (.slice sp m c) l)(hsz:n+m≤4398046511104)(hb:base≤w.heap.size) :
  ∃ v' w',(Builtin.append_ #[32,32] 32 #[v,.slice sp m c]).run Tryz.prog w=.ok v' w'∧w'.ownsRow base 5 1 v' (n+m) (Lib.byteCells (xs++l))∧Fr (fun k=>v.ownBlock=some k) w w'∧(v'.ownBlock=v.ownBlock∨v'.ownBlock=some w.heap.size):=by
 obtain⟨i0,hi0,hz0,hz1,hz2⟩:=info_parts info5
 obtain⟨a,cap,he,hc,hm,hx⟩:=hsrc
 rw[byteCells_len]at he hc hx
 simp only[Value.slice.injEq]at he
 obtain⟨rfl,rfl,rfl⟩:=he
 rw[byteCells_append]
 cases sp with
 |none=>
  have hl:l.length=0:=by
   rcases Nat.eq_zero_or_pos l.length with h|h
   ·exact h
   ·obtain⟨b,o,h,_⟩:=hx h
    cases h
  obtain rfl:l=[]:=List.length_eq_zero_iff.1 hl
  have hr:(Builtin.append_ #[32,32] 32 #[v,.slice none 0 c]).run Tryz.prog w=.ok v w:=by
   rcases hown.2 with ⟨rfl,rfl⟩|⟨g,cap,cur,rfl,_,_,hnc,_⟩
   ·simp[Builtin.append_,run_underlying (P:=Tryz.prog) (w:=w) Tryz.underlying32,sizeOf,typeInfo,hi0,Builtin.lenOf,Builtin.firstCells]
   ·simp[Builtin.append_,run_underlying (P:=Tryz.prog) (w:=w) Tryz.underlying32,sizeOf,typeInfo,hi0,Builtin.lenOf,Builtin.firstCells,hnc,storeCells]
  refine⟨v,w,hr,?_,Fr.refl w,.inl rfl⟩
  simpa [Lib.byteCells] using hown
 |some ad=>
  obtain⟨v',w',hr,h1,h2,_,h3⟩:=run_append_own_at (P:=Tryz.prog) w base 32 32 5 i0 _ 1 1 Tryz.underlying32 hi0 hz0 hz1 hz2 rfl (by decide) v n (Lib.byteCells xs) hown ad l.length c (Lib.byteCells l) (by rw[byteCells_len,Nat.mul_one]) (fun j u hu=>by
   have hj:j<l.length:=by rw[←byteCells_len l];exact(List.getElem?_eq_some_iff.1 hu).1
   obtain⟨b,o,h,hy⟩:=hx (by omega)
   cases h
   rw[show (⟨b,o,none⟩:Addr).add j=⟨b,o+j,none⟩ from by unfold Addr.add;split<;>simp_all]
   exact hy j u hu) (byteCells_one l) (by unfold maxLen;omega) (by omega) hb
  exact⟨v',w',hr,h1,Fr.of_grown h2,h3⟩
end Go.Proofs.YteidmhkobmddiaaGreatDoor
namespace Go.Q
open Go Go.RowKit
def intCells (l:List Int):List Value:=l.map (Value.int .i64)
theorem intCells_len (l:List Int):(intCells l).length=l.length:=by simp[intCells]
theorem intCells_get (l:List Int)(i:Nat):(intCells l)[i]? = l[i]?.map (Value.int .i64):=by simp[intCells]
abbrev Ints (w:World)(v:Value)(l:List Int):Prop:=Vals w v (intCells l)
theorem Ints.form {w:World}{v:Value}{l:List Int}(h:Ints w v l):∃ a cap,v=.slice a l.length cap∧l.length≤cap∧cap≤maxLen∧(0<l.length→∃ b o,a=some ⟨b,o,none⟩∧∀ i x,l[i]? = some x→w.cell? ⟨b,o+i,none⟩=some (.int .i64 x)):=by
 obtain⟨a,cap,rfl,hc,hm,h⟩:=h
 rw[intCells_len]at hc h ⊢
 refine⟨a,cap,rfl,hc,hm,fun h0=>?_⟩
 obtain⟨b,o,rfl,hx⟩:=h h0
 exact⟨b,o,rfl,fun i x hxx=>hx i _ (by rw[intCells_get,hxx];rfl)⟩
theorem Vals.of_block {w:World}{g:Nat}{t:TypeId}{cs:Array Value}(B:Blk w g t cs)(hm:cs.size≤maxLen):Vals w (.slice (some ⟨g,0,none⟩) cs.size cs.size) cs.toList:=
 ⟨_,cs.size,by simp,by simp,hm,fun _=>⟨g,0,rfl,fun i u hu=>by rw[Nat.zero_add,B.cell];simpa using hu⟩⟩
theorem own_shape {w:World}{base n size:Nat}{e:TypeId}{v:Value}{xs:List Value}(h:w.ownsRow base e size v n xs):∃ a m c,v=.slice a m c∧m=n:=by
 rcases h.2 with ⟨rfl,h0⟩|⟨g,cap,cur,rfl,_⟩
 ·exact⟨none,0,0,rfl,h0.symm⟩
 ·exact⟨_,n,cap,rfl,rfl⟩
section
variable {P:Program}
abbrev Info (P:Program)(e:TypeId)(z:Value)(size bytes:Nat):Prop:=(P.info? e).map (fun i=>(i.zero,i.size,i.bytes))=some (some z,size,bytes)
theorem append_gen {w:World}{base n:Nat}{t e:TypeId}{v:Value}{xs:List Value}{z:Value}{size bytes:Nat}(hu:P.underlying t=some (.slice e))(hinf:Info P e z size bytes)(hzs:z.cells.size=size)(hs0:0<size)(hby:bytes≤128)
  (hown:w.ownsRow base e size v n xs) (hb:base≤w.heap.size) (a:Addr) (m c:Nat) (news:List Value) (hl:news.length=m*size) (hnews:∀ j u,news[j]? = some u→w.cell? (a.add j)=some u) (h1:∀ u∈news,u.oneCell'=true) (hsz:n+m≤1099511627776) :
  ∃ a' c' w',(Builtin.append_ #[t,t] t #[v,.slice (some a) m c]).run P w=.ok (.slice a' (n+m) c') w'∧w'.ownsRow base e size (.slice a' (n+m) c') (n+m) (xs++news)∧Fr (fun k=>v.ownBlock=some k) w w'∧(∀ k,(Value.slice a' (n+m) c').ownBlock=some k→v.ownBlock=some k∨w.heap.size≤k):=by
 obtain⟨i0,hi0,hz0,hz1,hz2⟩:=info_parts hinf
 obtain⟨v',w',hr,h2,h3,_,h4⟩:=run_append_own_at (P:=P) w base t t e i0 z size bytes hu hi0 hz0 hz1 hz2 hzs hs0 v n xs hown a m c news hl hnews h1 (by unfold maxLen;omega) (Nat.le_trans (Nat.mul_le_mul hsz hby) (by decide)) hb
 obtain⟨a',m',c',rfl,rfl⟩:=own_shape h2
 refine⟨a',c',w',hr,h2,Fr.of_grown h3,fun k hk=>?_⟩
 rcases h4 with h|h
 ·exact .inl (h.symm.trans hk)
 ·rw[h]at hk
  simp only[Option.some.injEq]at hk
  exact .inr (by omega)
theorem add_gen {w wa:World}{base n:Nat}{t e:TypeId}{v:Value}{xs:List Value}{z:Value}{size bytes:Nat}(hu:P.underlying t=some (.slice e))(hinf:Info P e z size bytes)(hzs:z.cells.size=size)(hs0:0<size)(hby:bytes≤128)
  (hown:w.ownsRow base e size v n xs) (hb:base≤w.heap.size) (F1:Fz w wa) (g:Nat) (cs:List Value) (hcs:cs.length=size) (BX:Blk wa g e cs.toArray) (h1:∀ u∈cs,u.oneCell'=true) (hn:n≤109951162777) :
  ∃ a' c' w',(Builtin.append_ #[t,t] t #[v,.slice (some ⟨g,0,none⟩) 1 1]).run P wa=.ok (.slice a' (n+1) c') w'∧w'.ownsRow base e size (.slice a' (n+1) c') (n+1) (xs++cs)∧Fr (fun k=>v.ownBlock=some k) w w'∧(∀ k,(Value.slice a' (n+1) c').ownBlock=some k→v.ownBlock=some k∨w.heap.size≤k):=by
 obtain⟨a',c',w',hr,h2,F2,h3⟩:=append_gen hu hinf hzs hs0 hby (Go.Proofs.YteidmhkobmddiaaGreatDoor.ownsRow_fr hown F1 (fun _ _ h=>h)) (Nat.le_trans hb F1.size) ⟨g,0,none⟩ 1 1 cs (by rw[hcs,Nat.one_mul]) (fun j u hj=>by
  rw[show (⟨g,0,none⟩:Addr).add j=⟨g,0+j,none⟩ from by unfold Addr.add;split<;>simp_all,BX.cell,Nat.zero_add]
  simpa using hj) h1 (by omega)
 refine⟨a',c',w',hr,h2,(F1.mono (fun _ _ h=>h.elim)).trans F2,fun k hk=>?_⟩
 rcases h3 k hk with h|h
 ·exact .inl h
 ·exact .inr (Nat.le_trans F1.size h)
end
theorem intCells_one (l:List Int):∀ u∈intCells l,u.oneCell'=true:=by
 intro u hu;simp only[intCells,List.mem_map]at hu
 obtain⟨x,_,rfl⟩:=hu
 rfl
theorem intCells_append (a b:List Int):intCells (a++b)=intCells a++intCells b:=by simp[intCells]
end Go.Q
namespace Go.Proofs.YteidmhkobmddiaaGreatDoor
open Go Go.RowKit Go.Q
theorem info3:(Tryz.prog.info? 3).map (fun i=>(i.zero,i.size,i.bytes))=some (some (.int .i64 0),1,8):=by kernel_rfl
theorem info9:(Tryz.prog.info? 9).map (fun i=>(i.zero,i.size,i.bytes))=some (some (.string ⟨#[]⟩),1,16):=by kernel_rfl
theorem add_int {w wa:World}{base m:Nat}{v:Value}{xs:List Int}(hown:w.ownsRow base 3 1 v m (intCells xs))(hb:base≤w.heap.size)(hm:m≤109951162777)(x:Int)(g:Nat)(F1:Fz w wa)(BX:Blk wa g 3 #[.int .i64 x]) :
  ∃ a c w',(Builtin.append_ #[27,27] 27 #[v,.slice (some ⟨g,0,none⟩) 1 1]).run Tryz.prog wa=.ok (.slice a (m+1) c) w'∧w'.ownsRow base 3 1 (.slice a (m+1) c) (m+1) (intCells (xs++[x]))∧Fr (fun k=>v.ownBlock=some k) w w'∧(∀ k,(Value.slice a (m+1) c).ownBlock=some k→v.ownBlock=some k∨w.heap.size≤k):=by
 rw[intCells_append]
 exact add_gen Tryz.underlying27 info3 rfl (by decide) (by decide) hown hb F1 g [.int .i64 x] rfl BX (by simp[Value.oneCell']) hm
theorem and255 (n:Nat)(h:n<4611686018427387904):bits .and .i64 (n:Int) 255=((n % 256:Nat):Int):=by
 have h:=(bits_nat .i64 62 (by decide) wraps_i62 n 255 (by omega) (by omega)).1;rw[nat_mask8]at h
 exact h
theorem digits1_any {w:World}{base m:Nat}(bb bn bk n:Nat)(v:Value)(xs:List UInt8)(BB:Blk w bb 32 #[v])(BN:Blk w bn 3 #[.int .i64 n])(BK:Blk w bk 3 #[.int .i64 8])
  (hown:w.ownsRow base 5 1 v m (Lib.byteCells xs)) (hb:base≤w.heap.size) (ho:∀ k,v.ownBlock=some k→k≠bb∧k≠bn∧k≠bk) (hm:m≤100) (hn:n<4611686018427387904) :
  Calls Tryz.prog 265 #[pt bb,pt bn,pt bk] w fun e w'=>e=.returned (.tuple #[])∧∃ v',Blk w' bb 32 #[v']∧w'.ownsRow base 5 1 v' (m+1) (Lib.byteCells (xs++[UInt8.ofNat (n % 256)]))∧(∀ k,v'.ownBlock=some k→k≠bb∧k≠bn∧k≠bk)∧Fr (fun k=>k=bb∨v.ownBlock=some k) w w':=by
 obtain⟨y,hy⟩:∃ y,y=n % 256:=⟨_,rfl⟩
 have hyl:y<256:=by omega
 have hb1:bits .and .i64 (n:Int) 255=(y:Int):=by rw[hy];exact and255 n hn
 have e0:=BB.cell 0;have f0:=BB.frozen 0;have e1:=BN.cell 0;have e2:=BK.cell 0;simp at e0 e1 e2
 have lb:=BB.lt;have l1:=BN.lt;have l2:=BK.lt;have F1:Fz w ((w.alloc (.cells #[.int .u8 y] 5)).drew):=((Fr.refl w).alloc _).drew;have own1:=ownsRow_fr hown F1 (fun _ _ h=>h);have hy8:(UInt8.ofNat y).toNat=y:=u8 y hyl;have hsrc:Bytes ((w.alloc (.cells #[.int .u8 y] 5)).drew) (.slice (some ⟨w.heap.size,0,none⟩) 1 1) [UInt8.ofNat y]:=by
  refine⟨_,1,rfl,Nat.le_refl _,by unfold maxLen;omega,fun _=>⟨w.heap.size,0,rfl,fun i u hu=>?_⟩⟩
  have:=(Blk.new w 5 #[.int .u8 y]).drew.cell (0+i);rw[this]
  simpa [Lib.byteCells,hy8] using hu
 obtain⟨v',w',hr,hown',hF,hat⟩:=append_bytes own1 _ 1 1 [UInt8.ofNat y] hsrc (by omega) (Nat.le_trans hb F1.size)
 have hw8:IntKind.u8.wrap (y:Int)=(y:Int):=by simp[IntKind.wrap,IntKind.signed,IntKind.bits];omega
 obtain⟨a7,c7,rfl,-⟩:=(Vals.of_own hown').1
 have hYe:IntKind.u8.wrap (bits BinOp.and IntKind.i64 (n:Int) (IntKind.i64.wrap (IntKind.i64.wrap 256-1)))=(y:Int):=by
  rw[show IntKind.i64.wrap (IntKind.i64.wrap 256-1)=255 from by decide,hb1,hw8]
 have HYE:=Hi hYe;clear hYe;have HO:=Hi hown';have HAT:=Hi hat;have HY:=Hi hy;have BB':=BB.fr F1 (fun h=>h);have BB2:=BB'.fr hF (fun e=>(ho bb e).1 rfl);have e0':=BB2.cell 0;have f0':=BB2.frozen 0;simp at e0'
 have HB2:=Hi BB2;have HF:=Hi hF;have HF1:=Hi F1;have HOO:=Hi ho;clear BB BN BK hown own1 hsrc hown' hat hy hF F1 BB' BB2 ho;go_enter Tryz.func265,Tryz.ntmps265
 go_wp2_with fail
 go_region_law (first|(refine step_append_run (by rfl) (.tmp 3) (.tmp 10) 32 (by rfl) _ w' (by rw[HYE.out];exact hr) ?_)|fail)
 all_goals
  go_wp2_with fail
  go_end0
  have hne:∀ k,(Value.slice a7 (Lib.byteCells (xs++[UInt8.ofNat y])).length c7).ownBlock=some k→k≠bb∧k≠bn∧k≠bk:=fun k hk=>by
   rcases HAT.out with h|h
   ·rw[h]at hk
    exact HOO.out k hk
   ·rw[h]at hk
    simp only[World.size_drew,World.size_alloc,Option.some.injEq]at hk
    omega
  have FS:Fr (fun k=>k=bb) w' (w'.setCell ⟨bb,0,none⟩ (.slice a7 (Lib.byteCells (xs++[UInt8.ofNat y])).length c7)):=Fr.setCell (S:=fun k=>k=bb) (p:=⟨bb,0,none⟩) (Fr.refl w') (fun _=>rfl) _;refine⟨rfl,_,HB2.out.set 0 _,?_,hne,?_⟩
  ·rw[←HY.out]
   exact ownsRow_fr HO.out FS (fun k hk e=>(hne k hk).1 e)
  ·exact((HF1.out.mono (T:=fun k=>k=bb∨v.ownBlock=some k) (fun _ _ h=>h.elim)).trans' HF.out (fun _ _ h=>.inr h)).trans (FS.mono (fun _ _ h=>.inl h))
end Go.Proofs.YteidmhkobmddiaaGreatDoor
