/-
  Merged by program: XNIter1 XNIter2 XShelf2 XNDec XNIter3 XNText3 XNText4 XNText5 XNPut XNTextOf XNTextW.
-/
import Derived.Test.YteidmhkobmddiaaGreatDoorQ0e
import Derived.Shelf.Spec.DecodeRune
import Derived.Shelf.Spec.NilArms
import Derived.Lib.RuneBytes
set_option linter.unusedSimpArgs false
set_option maxRecDepth 100000
set_option maxHeartbeats 8000000
namespace Go.Q
open Go Go.RowKit
def byteInts (l:List UInt8):List Int:=l.map (fun x=>(x.toNat:Int))
def idx (n:Nat):Value→Nat
 |.int _ k=>n-k.toNat
 |_=>0
def cellLen (w:World)(cb:Nat):Nat:=
 match w.cell? ⟨cb,0,none⟩ with
 |some (.slice _ n _)=>n
 |_=>0
theorem cellLen_of {w:World}{cb:Nat}{t:TypeId}{a:Option Addr}{n c:Nat}(B:Blk w cb t #[.slice a n c]):cellLen w cb=n:=by
 have:=B.cell 0;simp at this
 unfold cellLen;rw[this]
theorem slice_on {W:World}{cb base b o cap n:Nat}{ty:TypeId}{u0:Value}{r:List UInt8}(B:Blk W cb ty #[u0])(hr:Bytes W (.slice (some ⟨b,o,none⟩) n cap) r)(hb:¬base≤b)(hcb:base≤cb)(k m c':Nat)(a':Option Addr)(hm:m+k=n)
  (ha:0<m→a'=some ⟨b,o+k,none⟩) (hc:m≤c') (hmax:c'≤maxLen) :
  Blk (W.setCell ⟨cb,0,none⟩ (.slice a' m c')) cb ty #[.slice a' m c']∧Bytes (W.setCell ⟨cb,0,none⟩ (.slice a' m c')) (.slice a' m c') (r.drop k)∧Off (.slice a' m c') m (fun k=>base≤k)∧Fr (fun k=>k=cb) W (W.setCell ⟨cb,0,none⟩ (.slice a' m c')):=by
 have f:Fr (fun k=>k=cb) W (W.setCell ⟨cb,0,none⟩ (.slice a' m c')):=Fr.setCell (S:=fun k=>k=cb) (p:=⟨cb,0,none⟩) (Fr.refl W) (fun _=>rfl) _;have hoff:Off (.slice a' m c') m (fun k=>base≤k):=fun h0 j hj=>by
  rw[ha h0]at hj
  simp only[Value.ownBlock,Option.some.injEq]at hj
  omega
 have hlen:r.length=n:=by
  obtain⟨a,c,he,_⟩:=hr.form
  simp only[Value.slice.injEq]at he
  exact he.2.1.symm
 have hs:Bytes W (.slice a' m c') (r.drop k):=by
  have h:=Vals.sub hr k n (by omega) (Nat.le_refl _) a' c' (fun h b0 o0 e=>by
   simp only[Option.some.injEq,Addr.mk.injEq,and_true]at e
   obtain⟨rfl,rfl⟩:=e
   exact ha (by omega)) (by omega) hmax
  rw[Go.Proofs.YteidmhkobmddiaaGreatDoor.byteCells_drop,Go.Proofs.YteidmhkobmddiaaGreatDoor.byteCells_take,show n-k=m from by omega,List.take_of_length_le (by rw[List.length_drop];omega)]at h
  exact h
 have hrl:(r.drop k).length=m:=by rw[List.length_drop];omega
 refine⟨?_,hs.fr f (fun h0 j hj e=>?_),hoff,f⟩
 ·have:=B.set 0 (.slice a' m c')
  simpa using this
 ·rw[byteCells_len,hrl]at h0
  exact hoff h0 j hj (by omega)
abbrev Tabs (w:World):Prop:=Lib.Utf8Tabs 2 3 w
theorem Tabs.fr {S:Nat→Prop}{w w':World}(h:Tabs w)(f:Fr S w w')(h1:¬S 2)(h2:¬S 3):Tabs w':=
 ⟨fun c hc=>f.cell (h.1 c hc) h1,fun i hi=>⟨f.cell (h.2 i hi).1 h2,f.cell (h.2 i hi).2 h2⟩⟩
theorem Tabs.old {w w':World}(h:Tabs w)(f:Fz w w'):Tabs w':=h.fr f (fun h=>h) (fun h=>h)
theorem Tabs.size {w:World}(h:Tabs w):3<w.heap.size:=World.block_lt_of_cell? w _ (h.2 0 (by omega)).1
theorem bytes_get (l:List UInt8)(i:Nat):(ByteArray.mk l.toArray).get! i=l.getD i 0:=by
 show (l.toArray)[i]! = l.getD i 0
 rw[List.getElem!_toArray,List.getElem!_eq_getElem?_getD,List.getD_eq_getElem?_getD]
 rfl
theorem decodeGo_list {l:List UInt8}(h:l≠[]):Lib.decodeGo ⟨l.toArray⟩=decS l:=by
 have hs:(ByteArray.mk l.toArray).size=l.length:=by simp[ByteArray.size]
 have h0:l.length≠0:=fun e=>h (List.length_eq_zero_iff.1 e)
 unfold Lib.decodeGo decS;rw[hs,if_neg h0,Lib.decode_at,hs,bytes_get,bytes_get,bytes_get,bytes_get]
 rfl
theorem decN_bound (n b0 b1 b2 b3:Nat)(hn:1≤n):1≤(Lib.decodeN n b0 b1 b2 b3).2∧(Lib.decodeN n b0 b1 b2 b3).2≤n∧(Lib.decodeN n b0 b1 b2 b3).1<2147483648:=by
 unfold Lib.decodeN;repeat' split
 all_goals (simp only;omega)
theorem decS_bound {l:List UInt8}(h:l≠[]):1≤(decS l).2∧(decS l).2≤l.length∧(decS l).1<2147483648:=by
 have h0:l.length≠0:=fun e=>h (List.length_eq_zero_iff.1 e)
 exact decN_bound _ _ _ _ _ (by omega)
def signAt (l:List UInt8):Int:=if (decS l).1=65533∧(decS l).2≤1 then -1 else ((decS l).1:Int)
theorem wideS_cons (f:Nat)(x:UInt8)(t:List UInt8):wideS (f+1) (x::t)=signAt (x::t)::wideS f ((x::t).drop (decS (x::t)).2):=rfl
theorem wpListIn_append_run {P:Program}{F:Fence}{n:Nat}{w:World}{ops:Array Oper}{rest:List Oper}{o:Oper}{a:Act}{Q:Exit→Act→World→Prop}(hgd:o.guard=none)(s x:Operand)(t:TypeId)
  (ho:o.op=.call { callee:=.builtin .append,args:=#[s,x],argTypes:=#[t,t] }) (v':Value) (w':World)
  (hr:(Builtin.append_ #[t,t] o.type #[a.eval s,a.eval x]).run P w=.ok v' w') (h:wpListIn F n P ops Q rest (a.put o.dst v') w'):wpListIn F n P ops Q (o::rest) a w:=by
 refine wpListIn_plain hgd fun K hK=>?_
 unfold Oper.wpIn;refine⟨by simp[Oper.about,ho,resolve,Target.leads,Sem.run_pure],?_⟩
 rw[Oper.semAt_plain F _ _ (by rw[ho];intro c hc;cases hc)]
 simp[execOp,ho,resolve,invoke,builtin,hr,Result.andThen]
 exact hK _ _ h
theorem wideS_len:∀ (f:Nat) (l:List UInt8),(wideS f l).length≤f
 |0,[]=>by simp[wideS]
 |0,_::_=>by simp[wideS]
 |f+1,[]=>by simp[wideS]
 |f+1,x::t=>by
  have:=wideS_len f ((x::t).drop (decS (x::t)).2);simp only[wideS,List.length_cons]
  omega
theorem pairsS_len:∀ l:List UInt8,(pairsS l).length≤l.length
 | []=>by simp[pairsS]
 | [_]=>by simp[pairsS]
 |_::_::t=>by
  have:=pairsS_len t;simp only[pairsS,List.length_cons]
  omega
theorem signsS_len (k:Int)(b:List UInt8):(signsS k b).length≤b.length:=by
 unfold signsS;split
 ·exact wideS_len _ _
 split
 ·exact pairsS_len _
 ·simp
theorem enc_cells {n:Nat}(h:okSign n):Lib.runeCells (n:Int)=Lib.byteCells (enc n):=by
 obtain⟨h1,h2⟩:=h
 unfold Lib.runeCells enc Lib.byteCells;split
 ·rw[Lib.encodeRuneZ_one (by omega) (by omega)]
  simp only[List.map_cons,List.map_nil,u8 n (by omega)]
 split
 ·rw[Lib.encodeRuneZ_two (by omega) (by omega)]
  simp only[List.map_cons,List.map_nil,u8 (192+n / 64) (by omega),u8 (128+n % 64) (by omega)]
  rfl
 split
 ·rw[Lib.encodeRuneZ_three (by omega)]
  simp only[List.map_cons,List.map_nil,u8 (224+n / 4096) (by omega),u8 (128+n / 64 % 64) (by omega),u8 (128+n % 64) (by omega)]
  rfl
 ·rw[Lib.encodeRuneZ_four (by omega) (by omega)]
  simp only[List.map_cons,List.map_nil,u8 (240+n / 262144) (by omega),u8 (128+n / 4096 % 64) (by omega),u8 (128+n / 64 % 64) (by omega),u8 (128+n % 64) (by omega)]
  rfl
theorem enc_le (n:Nat):(enc n).length≤4:=by unfold enc;(repeat' split)<;>simp
theorem putS1_le (k n:Int):(putS1 k n).length≤4:=by
 unfold putS1;split
 ·exact enc_le _
 ·split<;>simp
theorem ofS_take {k:Int}{l:List Int}{j:Nat}{n:Int}(h:l[j]? = some n):ofS k (l.take (j+1))=ofS k (l.take j)++putS1 k n:=by
 rw[List.take_add_one,h]
 simp[ofS]
theorem ofS_le (k:Int)(l:List Int):(ofS k l).length≤4*l.length:=by
 induction l with
 |nil=>simp[ofS]
 |cons n l ih=>
  have:=putS1_le k n;simp only[ofS,List.flatMap_cons,List.length_append,List.length_cons]at ih ⊢
  omega
end Go.Q
namespace Go.Proofs.YteidmhkobmddiaaGreatDoor
open Go Go.RowKit Go.Q
attribute [local go_sem] Oper.semAt_some
theorem wrap64_next {m r n:Nat}(h:m+(r+1)=n)(hn:n≤maxLen):wrap64 ((m:Int)+1)=(m:Int)+1:=by
 have e:maxLen=9223372036854775807:=rfl;rw[e]at hn
 clear e;unfold wrap64;omega
theorem idx_next {m r n:Nat}(h:m+(r+1)=n):idx n (.int .i64 ((m:Int)+1))<idx n (.int .i64 (m:Int)):=by
 simp only[idx]
 omega
theorem wrap64_byte (y:UInt8):wrap64 (y.toNat:Int)=(y.toNat:Int):=by
 have:=y.toNat_lt;unfold wrap64;omega
theorem single1_iter (v:Value)(l:List UInt8)(cb base:Nat)(w:World)(hc:w.cell? ⟨cb,0,none⟩=some v)(hv:Bytes w v l)(hoff:Off v l.length (fun k=>base≤k)) :
  Iter Tryz.prog 356 #[pt cb] (byteInts l) cb base w:=by
 intro lp J Jx W hW hJ hJx hY h0;obtain⟨a,cap,rfl,hcap,hmax,hx⟩:=Vals.form hv
 have HX:=Hi hx;have hc1:=hW.cell hc (fun h=>h);refine callsIn_of_wp Tryz.func356 rfl trivial ?_ rfl;simp only[Tryz.ntmps356,List.size_toArray,List.length_cons,List.length_nil,Nat.reduceAdd,Nat.reduceSub,Array.replicate_succ,Array.replicate_zero,List.push_toArray,List.append_toArray,List.nil_append,List.cons_append]
 gi_wp2
 gi_loopw [7] (fun i wr=>∃ (pre rest:List Int),i=.int .i64 pre.length∧byteInts l=pre++rest∧Fr (fun k=>base≤k∧k≠cb) W wr∧J pre wr) (fun i _=>idx l.length i)
 case atStart=>exact⟨[],byteInts l,rfl,rfl,Fr.refl _,h0⟩
 case round=>
  obtain⟨pre,rest,rfl,hxs,F,hj⟩:=hrel
  have hlen:pre.length+rest.length=l.length:=by
   have:=congrArg List.length hxs;simp only[byteInts,List.length_map,List.length_append]at this
   omega
  cases rest with
  |nil=>
   have q1:¬(pre.length:Int)<(l.length:Int):=by simp only[List.length_nil]at hlen;omega
   gi_wp2
   go_end0
   exact⟨⟨_,rfl⟩,.inl hj⟩
  |cons x rest=>
   simp only[List.length_cons]at hlen
   obtain⟨y,hy,rfl⟩:∃ y:UInt8,l[pre.length]? = some y∧x=(y.toNat:Int):=by
    have h:(byteInts l)[pre.length]? = some x:=by rw[hxs,List.getElem?_append_right (Nat.le_refl _),Nat.sub_self];rfl
    unfold byteInts at h;rw[List.getElem?_map]at h
    cases hq:l[pre.length]? with
    |none=>rw[hq]at h;cases h
    |some y=>rw[hq]at h;simp only[Option.map_some,Option.some.injEq]at h;exact⟨y,rfl,h.symm⟩
   obtain⟨b,o,rfl,hcell⟩:=HX.out (by omega)
   have hb:¬base≤b:=hoff (by omega) b rfl;have e1:=F.cell (hW.cell (hcell _ y hy) (fun h=>h)) (fun h=>hb h.1);have q1:(pre.length:Int)<(l.length:Int):=by omega
   have q2:(0:Int)≤(pre.length:Int):=by omega
   have q4:wrap64 ((pre.length:Int)+1)=(pre.length:Int)+1:=wrap64_next hlen (Nat.le_trans hcap hmax);have q3:wrap64 (y.toNat:Int)=(y.toNat:Int):=wrap64_byte y;obtain⟨fn,tmps,assign,body,hyy,hR⟩:=hY pre _ rest wr hxs hj
   clear hx hcell;gi_wp2
   refine hR.mono ?_;rintro e W3 (⟨rfl,hJ3,F3⟩|⟨rfl,hJx3⟩)
   ·gi_wp2
    go_roundw
    case rel=>exact⟨pre++[(y.toNat:Int)],rest,by rw[q4];simp,by simp[hxs],F.trans F3,hJ3⟩
    case measure=>rw[q4];exact idx_next hlen
   ·gi_wp2
    refine bodyPost_ret (results_none rfl _ _ _) rfl ?_;exact⟨⟨_,rfl⟩,.inr ⟨_,⟨rest,by simp[hxs]⟩,hJx3⟩⟩
attribute [local go_sem] Oper.semAt_some
theorem pair_facts (x y:UInt8):IntKind.i64.wrap (x.toNat:Int)=(x.toNat:Int)∧IntKind.i64.wrap (y.toNat:Int)=(y.toNat:Int)∧IntKind.i64.wrap ((x.toNat:Int)*256)=(x.toNat:Int)*256∧bits .or .i64 ((x.toNat:Int)*256) (y.toNat:Int)=((x.toNat * 256+y.toNat:Nat):Int):=by
 have hx:=x.toNat_lt;have hy:=y.toNat_lt;generalize x.toNat=X at *
 generalize y.toNat=Y at *
 refine⟨by simp[IntKind.wrap,IntKind.signed,IntKind.bits];omega,by simp[IntKind.wrap,IntKind.signed,IntKind.bits];omega,by simp[IntKind.wrap,IntKind.signed,IntKind.bits];omega,?_⟩
 exact or8 X Y (by omega) (by omega)
theorem pairs1_iter (v:Value)(l:List UInt8)(cb base:Nat)(w:World)(hc:Blk w cb 32 #[v])(hv:Bytes w v l)(hoff:Off v l.length (fun k=>base≤k))(hcb:base≤cb) :
  Iter Tryz.prog 355 #[pt cb] (pairsS l) cb base w:=by
 intro lp J Jx W hW hJ hJx hY h0;have BW:=hc.fr hW (fun h=>h);have hv1:=hv.old hW;refine callsIn_of_wp Tryz.func355 rfl trivial ?_ rfl;simp only[Tryz.ntmps355,List.size_toArray,List.length_cons,List.length_nil,Nat.reduceAdd,Nat.reduceSub,Array.replicate_succ,Array.replicate_zero,List.push_toArray,List.append_toArray,List.nil_append,List.cons_append]
 gi_wp2
 gi_loopw [3] (fun _ wr=>∃ (pre:List Int) (r:List UInt8) (u:Value),pairsS l=pre++pairsS r∧Blk wr cb 32 #[u]∧Bytes wr u r∧Off u r.length (fun k=>base≤k)∧J pre wr) (fun _ wr=>cellLen wr cb)
 case atStart=>exact⟨[],l,v,rfl,BW,hv1,hoff,h0⟩
 case round=>
  obtain⟨pre,r,u,hxs,B,hr,ho,hj⟩:=hrel
  rcases r with _|⟨x,_|⟨y,t⟩⟩
  ·obtain⟨a,cap,rfl,hcap,hmax,hx⟩:=Vals.form hr
   have e0:=B.cell 0;simp at e0
   simp only[List.length_nil,pairsS,List.append_nil] at *
   gi_wp2
   go_end0
   exact⟨⟨_,rfl⟩,.inl (by rw[hxs];exact hj)⟩
  ·obtain⟨a,cap,rfl,hcap,hmax,hx⟩:=Vals.form hr
   have e0:=B.cell 0;simp at e0
   simp only[List.length_cons,List.length_nil,pairsS,Nat.zero_add] at *
   obtain⟨fn,tmps,assign,body,hyy,hR⟩:=hY pre _ [] wr hxs hj
   gi_wp2
   refine hR.mono ?_;rintro e W3 (⟨rfl,hJ3,F3⟩|⟨rfl,hJx3⟩)
   ·gi_wp2
    go_end0
    exact⟨⟨_,rfl⟩,.inl (by rw[hxs];exact hJ3)⟩
   ·gi_wp2
    go_end0
    exact⟨⟨_,rfl⟩,.inr ⟨_,⟨[],by simp[hxs]⟩,hJx3⟩⟩
  ·obtain⟨a,cap,rfl,hcap,hmax,hx⟩:=Vals.form hr
   have e0:=B.cell 0;have f0:=B.frozen 0;simp at e0
   simp only[List.length_cons,pairsS] at *
   obtain⟨b,o,rfl,hcell⟩:=hx (by omega)
   have c0:=hcell 0 x rfl;have c1:=hcell 1 y rfl;rw[Nat.add_zero]at c0
   have q1:(1:Int)<((t.length+1+1:Nat):Int):=by omega
   have q2:(0:Int)<((t.length+1+1:Nat):Int):=by omega
   obtain⟨fn,tmps,assign,body,hyy,hR⟩:=hY pre _ _ wr.drew hxs (hJ _ _ _ hj (Fr.refl wr).drew)
   rw[show ((x.toNat * 256+y.toNat:Nat):Int)=(x.toNat:Int)*256+(y.toNat:Int) from by omega]at hyy
   have hR2:=hR.mono (R':=fun e W'=>∃ z:Bool,e=.returned (.bool z)∧(z=true∧J (pre++[((x.toNat * 256+y.toNat:Nat):Int)]) W'∧Fr (fun k=>base≤k∧k≠cb) wr.drew W'∨z=false∧Jx (pre++[((x.toNat * 256+y.toNat:Nat):Int)]) W')) (by
    rintro e W' (⟨h1,h2⟩|⟨h1,h2⟩)
    ·exact⟨true,h1,.inl ⟨rfl,h2⟩⟩
    ·exact⟨false,h1,.inr ⟨rfl,h2⟩⟩)
   have HR2:=Hi hR2;obtain⟨q3,q4,q5,q6⟩:=pair_facts x y
   clear hR hR2;have hmx:Tryz.prog.follows .mixedOrders=true:=by kernel_rfl
   gi_wp2
   gi_region_with_o (refine HR2.out.mono ?_;rintro e W3 ⟨z,rfl,hz⟩)
   all_goals
    rcases hz with ⟨rfl,hJ3,F3⟩|⟨rfl,hJx3⟩
    ·have B3:=B.drew.fr F3 (fun h=>h.2 rfl)
     have e3:=B3.cell 0;have f3:=B3.frozen 0;simp at e3
     have hb:¬base≤b:=ho (by omega) b rfl;have hr3:Bytes W3 (.slice (some ⟨b,o,none⟩) (t.length+1+1) cap) (x::y::t):=(hr.old (Fr.refl wr).drew).fr F3 (fun h0 k hk hs=>by
      simp only[Value.ownBlock,Option.some.injEq]at hk
      subst hk;exact hb hs.1)
     have HJ3:=Hi hJ3;have z1:(2:Int)≤((t.length+1+1:Nat):Int):=by omega
     clear hyy hJ3 hx hcell;gi_wp2
     obtain⟨B4,hr4,ho4,F4⟩:=slice_on B3 hr3 hb hcb 2 t.length (cap-2) (if cap=2 then some ⟨b,o,none⟩ else some ⟨b,o+2,none⟩) rfl (fun h=>if_neg (by omega)) (by omega) (by omega)
     go_roundw
     case rel=>exact⟨pre++[((x.toNat * 256+y.toNat:Nat):Int)],t,_,by simp[hxs],B4,hr4,ho4,hJ _ _ _ HJ3.out F4⟩
     case measure=>
      rw[cellLen_of B4,cellLen_of B]
      omega
    ·gi_wp2
     refine bodyPost_ret (results_none rfl _ _ _) rfl ?_;exact⟨⟨_,rfl⟩,.inr ⟨_,⟨pairsS t,by simp[hxs]⟩,hJx3⟩⟩
end Go.Proofs.YteidmhkobmddiaaGreatDoor
namespace Go.Proofs
open Go.Shelf
def Tryz.lays7x32_ren:Go.Shelf.Ren:=⟨fun|32=>354|49=>382|n=>n,fun|30=>32|21=>21|3=>3|0=>0|5=>5|4=>4|33=>446|66=>485|25=>381|69=>488|68=>487|n=>n,fun|2=>2|3=>3|n=>n⟩
theorem Tryz.lays7x32:Go.Proofs.Lays7.n32 Tryz.prog Tryz.lays7x32_ren:={
 mixed:=by kernel_rfl
 f32:=Go.Q.fy Tryz.func354
 f49:=Go.Q.fy Tryz.func382
 t0:=Tryz.underlying0
 a0:=Tryz.isAgg0
 z0:=Tryz.sizeOf0
 v0:=Tryz.zeroValue0
 i0:=by kernel_rfl
 t3:=Tryz.underlying3
 a3:=Tryz.isAgg3
 z3:=Tryz.sizeOf3
 v3:=Tryz.zeroValue3
 i3:=by kernel_rfl
 t4:=Tryz.underlying4
 a4:=Tryz.isAgg4
 z4:=Tryz.sizeOf4
 v4:=Tryz.zeroValue4
 i4:=by kernel_rfl
 t5:=Tryz.underlying5
 a5:=Tryz.isAgg5
 z5:=Tryz.sizeOf5
 v5:=Tryz.zeroValue5
 i5:=by kernel_rfl
 t21:=Tryz.underlying21
 a21:=Tryz.isAgg21
 z21:=Tryz.sizeOf21
 v21:=Tryz.zeroValue21
 i21:=by kernel_rfl
 t25:=Tryz.underlying381
 a25:=Tryz.isAgg381
 z25:=Tryz.sizeOf381
 v25:=Tryz.zeroValue381
 i25:=by kernel_rfl
 t30:=Tryz.underlying32
 a30:=Tryz.isAgg32
 z30:=Tryz.sizeOf32
 v30:=Tryz.zeroValue32
 i30:=by kernel_rfl
 t33:=Tryz.underlying446
 a33:=Tryz.isAgg446
 z33:=Tryz.sizeOf446
 v33:=Tryz.zeroValue446
 i33:=by kernel_rfl
 t66:=Tryz.underlying485
 a66:=Tryz.isAgg485
 z66:=Tryz.sizeOf485
 t68:=Tryz.underlying487
 a68:=Tryz.isAgg487
 z68:=Tryz.sizeOf487
 v68:=Tryz.zeroValue487
 i68:=by kernel_rfl
 t69:=Tryz.underlying488
 a69:=Tryz.isAgg488
 z69:=Tryz.sizeOf488
 v69:=Tryz.zeroValue488
 i69:=by kernel_rfl
 g2:=by kernel_rfl
 g3:=by kernel_rfl }
open Go.RowKit Go.Lib in
theorem Tryz.utf8_DecodeRune (s:ByteArray)(b off cap:Nat)(w:World)(hT:Lib.Utf8Tabs 2 3 w)(hp:∀ j,j<s.size→w.cell? ⟨b,off+j,none⟩=some (.int .u8 (s.get! j).toNat)) :
  Calls Tryz.prog 354 #[.slice (some ⟨b,off,none⟩) s.size cap] w fun e w'=>e=.returned (.tuple #[.int .i32 (Lib.decodeGo s).1,.int .i64 (Lib.decodeGo s).2])∧Below w.heap.size w w':=Any7.utf8_DecodeRune Tryz.lays7x32 s b off cap w hT hp
end Go.Proofs
namespace Go.Proofs.YteidmhkobmddiaaGreatDoor
open Go Go.RowKit Go.Q
theorem decode_any (v:Value)(l:List UInt8)(w:World)(hv:Bytes w v l)(h:l≠[])(hT:Tabs w) :
  Calls Tryz.prog 354 #[v] w fun e w'=>e=.returned (.tuple #[.int .i32 (decS l).1,.int .i64 (decS l).2])∧Fz w w':=by
 have h0:l.length≠0:=fun e=>h (List.length_eq_zero_iff.1 e)
 obtain⟨a,cap,rfl,_,_,hx⟩:=hv.form
 obtain⟨b,o,rfl,hc⟩:=hx (by omega)
 have hs:(ByteArray.mk l.toArray).size=l.length:=by simp[ByteArray.size]
 have H:=Go.Proofs.Tryz.utf8_DecodeRune ⟨l.toArray⟩ b o cap w hT (fun j hj=>by
  rw[hs]at hj
  rw[bytes_get,List.getD_eq_getElem?_getD,List.getElem?_eq_getElem hj]
  exact hc j _ (List.getElem?_eq_getElem hj))
 rw[decodeGo_list h,hs]at H
 refine H.mono ?_;rintro e w' ⟨rfl,hb⟩;exact⟨rfl,Fr.of_below hb⟩
attribute [local go_sem] Oper.semAt_some
theorem wide1_iter (v:Value)(l:List UInt8)(cb base:Nat)(w:World)(hc:Blk w cb 32 #[v])(hv:Bytes w v l)(hoff:Off v l.length (fun k=>base≤k))(hcb:base≤cb)(hT:Tabs w)(h2:3<base) :
  Iter Tryz.prog 353 #[pt cb] (wideS l.length l) cb base w:=by
 intro lp J Jx W hW hJ hJx hY h0;have BW:=hc.fr hW (fun h=>h);have hv1:=hv.old hW;have hT1:=hT.old hW;refine callsIn_of_wp Tryz.func353 rfl trivial ?_ rfl;simp only[Tryz.ntmps353,List.size_toArray,List.length_cons,List.length_nil,Nat.reduceAdd,Nat.reduceSub,Array.replicate_succ,Array.replicate_zero,List.push_toArray,List.append_toArray,List.nil_append,List.cons_append]
 gi_wp2
 gi_loopw [6] (fun _ wr=>∃ (pre:List Int) (r:List UInt8) (u:Value) (f:Nat),wideS l.length l=pre++wideS f r∧r.length≤f∧Blk wr cb 32 #[u]∧Bytes wr u r∧Off u r.length (fun k=>base≤k)∧Tabs wr∧J pre wr) (fun _ wr=>cellLen wr cb)
 case atStart=>exact⟨[],l,v,l.length,rfl,Nat.le_refl _,BW,hv1,hoff,hT1,h0⟩
 case round=>
  obtain⟨pre,r,u,f,hxs,hf,B,hr,ho,hTr,hj⟩:=hrel
  rcases r with _|⟨x,t⟩
  ·obtain⟨a,cap,rfl,hcap,hmax,hx⟩:=Vals.form hr
   have e0:=B.cell 0;simp at e0
   simp only[List.length_nil] at *
   have hxn:wideS l.length l=pre:=by rw[hxs];cases f<;>simp[wideS]
   gi_wp2
   go_end0
   exact⟨⟨_,rfl⟩,.inl (by rw[hxn];exact hj)⟩
  ·obtain⟨f,rfl⟩:∃ g,f=g+1:=⟨f-1,by simp only[List.length_cons]at hf;omega⟩
   rw[wideS_cons]at hxs
   obtain⟨b1,b2,b3⟩:=decS_bound (l:=x::t) (by simp)
   have HD:=Hi (decode_any u (x::t) wr hr (by simp) hTr);obtain⟨a,cap,rfl,hcap,hmax,hx⟩:=Vals.form hr
   obtain⟨b,o,rfl,hcell⟩:=hx (by simp)
   obtain⟨k,hk⟩:∃ k,k=(decS (x::t)).2:=⟨_,rfl⟩
   obtain⟨R,hR⟩:∃ R,R=(decS (x::t)).1:=⟨_,rfl⟩
   have hsg:signAt (x::t)=if R=65533∧k≤1 then -1 else (R:Int):=by rw[hk,hR];rfl
   obtain⟨n,hn⟩:∃ n,n=(x::t).length:=⟨_,rfl⟩
   obtain⟨r,hr0⟩:∃ r,r=x::t:=⟨_,rfl⟩
   rw[←hk]at hxs b1 b2 HD
   rw[←hR]at b3 HD
   rw[←hn]at hf hcap B hr ho hx b2 HD
   rw[←hr0]at hxs hr hn hsg
   have e0:=B.cell 0;simp at e0
   have hn0:0<n:=by rw[hn,hr0];simp
   have q1:(0:Int)<(n:Int):=by omega
   have hwr:wrap64 (R:Int)=(R:Int):=wrap_nat R (by omega);have hz1:(k:Int)≤(n:Int):=by omega
   have hz2:(0:Int)≤(k:Int):=by omega
   have hz3:k≤n:=b2;have hz4:k≤cap:=by omega
   have hz5:(n:Int)≤(cap:Int):=by omega
   have HN:=Hi hn;clear hr0 hk hR hx hcell hn;have hcases:(R=65533∧k≤1∧signAt r=-1)∨(R=65533∧¬k≤1∧signAt r=65533)∨(R≠65533∧signAt r=(R:Int)):=by
    by_cases h1:R=65533
    ·by_cases h3:k≤1
     ·exact .inl ⟨h1,h3,by rw[hsg,if_pos ⟨h1,h3⟩]⟩
     ·exact .inr (.inl ⟨h1,h3,by rw[hsg,if_neg (fun h=>h3 h.2),h1];rfl⟩)
    ·exact .inr (.inr ⟨h1,by rw[hsg,if_neg (fun h=>h1 h.1)]⟩)
   have hb:¬base≤b:=ho hn0 b rfl;clear hsg;rcases hcases with ⟨h1,h3,hs⟩|⟨h1,h3,hs⟩|⟨h1,hs⟩
   case' inl=>
    subst h1;have q2:(k:Int)≤1:=by omega
   case' inr.inl=>
    subst h1;have q2:¬(k:Int)≤1:=by omega
   case' inr.inr=>
    have q2:((R:Int)==65533)=false:=beq_eq_false_iff_ne.2 (by omega);have q3:(R==65533)=false:=beq_eq_false_iff_ne.2 h1
   all_goals
    gi_wp2_with (refine⟨trivial,?_⟩;gi_at_call 354;refine(callsIn_wide.2 HD.out).mono ?_;rintro e w2 ⟨rfl,F2⟩;have B2:=B.fr F2 (fun h=>h);have e2:=B2.cell 0;have f2:=B2.frozen 0;simp at e2;obtain⟨fn,tmps,assign,body,hyy,hR⟩:=hY pre _ _ w2 hxs (hJ _ _ _ hj (F2.mono (fun _ _ h=>h.elim)));rw[hs]at hyy)
    refine hR.mono ?_;rintro e W3 (⟨rfl,hJ3,F3⟩|⟨rfl,hJx3⟩)
    ·have B3:=B2.fr F3 (fun h=>h.2 rfl)
     have e3:=B3.cell 0;have f3:=B3.frozen 0;simp at e3
     have hr3:Bytes W3 (.slice (some ⟨b,o,none⟩) n cap) r:=(hr.old F2).fr F3 (fun h0 k hk hs=>by
      simp only[Value.ownBlock,Option.some.injEq]at hk
      subst hk;exact hb hs.1)
     have hT3:=(hTr.old F2).fr F3 (fun h=>by omega) (fun h=>by omega);have HT3:=Hi hT3;have HJ3:=Hi hJ3;clear hyy hJ3 hT3;gi_wp2
     obtain⟨B4,hr4,ho4,F4⟩:=slice_on B3 hr3 hb hcb k (n-k) (cap-k) (if cap=k then some ⟨b,o,none⟩ else some ⟨b,o+k,none⟩) (by omega) (fun h=>if_neg (by omega)) (by omega) (by omega)
     have hdl:(r.drop k).length=n-k:=by rw[List.length_drop,←HN.out]
     go_roundw
     case rel=>exact⟨pre++[signAt r],r.drop k,_,f,by rw[hxs];simp,by rw[hdl];omega,B4,hr4,by rw[hdl];exact ho4,HT3.out.fr F4 (by omega) (by omega),hJ _ _ _ HJ3.out F4⟩
     case measure=>
      rw[cellLen_of B4,cellLen_of B]
      omega
    ·gi_wp2
     refine bodyPost_ret (results_none rfl _ _ _) rfl ?_;exact⟨⟨_,rfl⟩,.inr ⟨_,⟨wideS f (r.drop k),by simp[hxs]⟩,hJx3⟩⟩
attribute [local go_sem] Oper.semAt_some
def SigOut (w w':World)(l:List Int)(base:Nat)(e:Ending):Prop:=
 ∃ gf cb:Nat,e=.returned (.func (.func gf) #[] #[pt cb])∧base≤cb∧w.heap.size≤cb∧cb<w'.heap.size∧(∀ args w,(callFunc gf args).run Tryz.prog w=.ok (.enter gf args) w)∧Iter Tryz.prog gf #[pt cb] l cb base w'
theorem signs_any (k:Int)(v:Value)(b:List UInt8)(w:World)(base:Nat)(hv:Bytes w v b)(hoff:Off v b.length (fun k=>base≤k))(hb:base≤w.heap.size)(hT:Tabs w)(h2:3<base) :
  Calls Tryz.prog 253 #[.agg #[.int .i64 k,v]] w fun e w'=>SigOut w w' (signsS k b) base e∧Fz w w':=by
 have F:Fz w ((w.alloc (.cells #[.int .i64 k,v] 251)).alloc (.cells #[v] 32)):=((Fr.refl w).alloc _).alloc _;have B:=Blk.new (w.alloc (.cells #[.int .i64 k,v] 251)) 32 #[v];rw[World.size_alloc]at B
 have hv1:=hv.old F;have hT1:=hT.old F;have hcb:base≤w.heap.size+1:=by omega
 have hlt:w.heap.size+1<((w.alloc (.cells #[.int .i64 k,v] 251)).alloc (.cells #[v] 32)).heap.size:=by simp
 obtain⟨a,cap,rfl,-⟩:=hv.form
 have H12:=wide1_iter _ b _ base _ B hv1 hoff hcb hT1 h2;have H30:=pairs1_iter _ b _ base _ B hv1 hoff hcb;have h0:=B.cell 0;simp only[List.getElem?_toArray,List.getElem?_cons_zero]at h0
 have H0:=single1_iter _ b _ base _ h0 hv1 hoff;have HH12:=Hi H12;have HH30:=Hi H30;have HH0:=Hi H0;have HF:=Hi F;have HLT:=Hi hlt;clear H12 H30 H0 F hlt h0 B hv1 hv hoff hT1 hT;have hk:k=12∨k=30∨(k≠12∧k≠30):=by omega
 rcases hk with rfl|rfl|⟨h12,h30⟩
 ·go_enter Tryz.func253,Tryz.ntmps253
  go_wp2_with (first|(go_at_call 302;go_in))
  go_ret;exact⟨⟨353,w.heap.size+1,rfl,hcb,Nat.le_succ _,HLT.out,enters_of Tryz.func353 (by kernel_rfl) rfl,HH12.out⟩,HF.out⟩
 ·go_enter Tryz.func253,Tryz.ntmps253
  go_wp2_with (first|(go_at_call 303;go_in))
  go_ret;exact⟨⟨355,w.heap.size+1,rfl,hcb,Nat.le_succ _,HLT.out,enters_of Tryz.func355 (by kernel_rfl) rfl,HH30.out⟩,HF.out⟩
 ·have q1:(k==12)=false:=beq_eq_false_iff_ne.2 h12
  have q2:(k==30)=false:=beq_eq_false_iff_ne.2 h30;have hs:signsS k b=byteInts b:=by unfold signsS;rw[if_neg h12,if_neg h30];rfl
  have HS:=Hi hs;clear hs;go_enter Tryz.func253,Tryz.ntmps253
  go_wp2_with (first|(go_at_call 304;go_in))
  go_ret;exact⟨⟨356,w.heap.size+1,rfl,hcb,Nat.le_succ _,HLT.out,enters_of Tryz.func356 (by kernel_rfl) rfl,by rw[HS.out];exact HH0.out⟩,HF.out⟩
attribute [local go_sem] Oper.semAt_some
theorem rightText_any (k:Int)(v:Value)(b:List UInt8)(w:World)(hv:Bytes w v b)(hT:Tabs w) :
  Calls Tryz.prog 203 #[.agg #[.int .i64 k,v]] w fun e w'=>e=.returned (.bool (rightS k b))∧Fz w w':=by
 obtain⟨z,hz⟩:∃ z,z=w.heap.size:=⟨_,rfl⟩
 have h2:3<z:=by rw[hz];exact hT.size
 have hoff:Off v b.length (fun k=>z≤k):=fun h0 j hj hk=>by
  have:=hv.lt (by rw[byteCells_len];exact h0) j hj;omega
 obtain⟨a,cap,rfl,-⟩:=hv.form
 have F0:Fz w ((w.alloc (.cells #[.int .i64 k,.slice a b.length cap] 251)).alloc (.cells #[.bool false] 4)):=((Fr.refl w).alloc _).alloc _;have BT:=(Blk.new w 251 #[.int .i64 k,.slice a b.length cap]).alloc (.cells #[.bool false] 4);have BR:=Blk.new (w.alloc (.cells #[.int .i64 k,.slice a b.length cap] 251)) 4 #[.bool false];rw[World.size_alloc,←hz]at BR
 rw[←hz]at BT
 have hv0:=hv.old F0;have hT0:=hT.old F0;have hs0:=F0.size;have HF0:=Hi F0;have HZ:=Hi hz;refine(callsIn_wide (n:=3)).1 ?_
 refine callsIn_of_wp_marks Tryz.func203 rfl trivial ?_ rfl;simp only[Tryz.ntmps203,List.size_toArray,List.length_cons,List.length_nil,Nat.reduceAdd,Nat.reduceSub,Array.replicate_succ,Array.replicate_zero,List.push_toArray,List.append_toArray,List.nil_append,List.cons_append]
 gi_upto_region 1 with fail
 rw[←HZ.out]
 obtain⟨w1,hw1⟩:∃ w1,w1=((w.alloc (.cells #[.int .i64 k,.slice a b.length cap] 251)).alloc (.cells #[.bool false] 4)):=⟨_,rfl⟩
 rw[←hw1]at HF0 BT BR hv0 hT0 hs0 ⊢
 rw[←hz]at hs0
 clear hw1 F0 hv hT hz;have z0:=BT.cell 0;simp at z0
 cases hk:Go.Q.kindOk k with
 |false=>
  have hr:rightS k b=false:=by unfold rightS;rw[hk];rfl
  have HR:=Hi hr;have HK:=Hi (known_any k w1);rw[hk]at HK
  clear hr hk;gi_wp2_with (refine⟨trivial,?_⟩;gi_at_call 252;refine(callsIn_wide.2 HK.out).mono ?_;rintro e w2 ⟨rfl,F2⟩;have BR2:=BR.fr F2 (fun h=>h);have r0:=BR2.cell 0;have f0:=BR2.frozen 0;simp at r0)
  have F4:Fr (fun k=>k=z+1) w2 (w2.setCell ⟨z+1,0,none⟩ (.bool false)):=Fr.setCell (S:=fun k=>k=z+1) (p:=⟨z+1,0,none⟩) (Fr.refl w2) (fun _=>rfl) _;have r1:=(BR2.set 0 (.bool false)).cell 0;simp at r1
  exact⟨.bool false,by simp[results,Tryz.results203,go_sem,r1],by rw[HR.out],(HF0.out.trans F2).trans' F4 (fun i hi e=>absurd hi (by rw[←HZ.out];omega))⟩
 |true=>
  have hr:rightS k b=(signsS k b).all (mayS k):=by unfold rightS;rw[hk,Bool.true_and]
  have HR:=Hi hr;have HK:=Hi (known_any k w1);rw[hk]at HK
  obtain⟨xs,hxs⟩:∃ xs,xs=signsS k b:=⟨_,rfl⟩
  rw[←hxs]at HR
  have HXS:=Hi hxs;clear hr hk hxs;gi_wp2_with (refine⟨trivial,?_⟩;gi_at_call 252;refine(callsIn_wide.2 HK.out).mono ?_;rintro e w2 ⟨rfl,F2⟩;have BT2:=BT.fr F2 (fun h=>h);have BR2:=BR.fr F2 (fun h=>h);have t0:=BT2.cell 0;have t1:=BT2.cell 1;simp at t0 t1;have HG:=Hi (signs_any k _ b w2 z (hv0.old F2) hoff (Nat.le_trans hs0 F2.size) (hT0.old F2) h2))
  refine⟨trivial,(callsIn_wide.2 HG.out).mono ?_⟩
  rintro e w3 ⟨⟨gf,cb,rfl,hzc,hgc,hcl,heg,hit⟩,F3⟩;rw[←HXS.out]at hit
  have lr2:=BR2.lt;have BT3:=BT2.fr F3 (fun h=>h);have BR3:=BR2.fr F3 (fun h=>h);have HF3:=Hi ((HF0.out.trans F2).trans F3);have lr3:=BR3.lt;have HIT:=Hi hit;clear HG HK hv0 hT0 BT BR BT2 BR2 F2 F3 t0 t1 z0 hit;gi_wp2
  refine range_law (gf:=gf) (lb:=#[pt cb]) rfl heg hcl (Nat.le_of_lt (Nat.lt_of_lt_of_le (Nat.lt_succ_self z) (Nat.le_of_lt lr3))) HIT.out rfl
   (fun pre W=>Blk W z 251 #[.int .i64 k,.slice a b.length cap]∧Blk W (z+1) 4 #[.bool false]∧Fz w W∧∀ n∈pre,mayS k n=true)
   (fun c pre W=>c=.ret∧Blk W (z+1) 4 #[.bool false]∧Fz w W∧∃ n∈pre,mayS k n=false)
   (fun s A B h f=>⟨h.1.fr f (by omega),h.2.1.fr f (by omega),h.2.2.1.trans' f (fun i hi e=>by have:=HZ.out;omega),h.2.2.2⟩)
   (fun c s A B h f=>⟨h.1,h.2.1.fr f (by omega),h.2.2.1.trans' f (fun i hi e=>by have:=HZ.out;omega),h.2.2.2⟩)
   ⟨BT3,BR3,HF3.out,by simp⟩
   (fun x=>{ tmps:=#[.agg #[.int .i64 k,.slice a b.length cap],.pointer (some ⟨z,0,none⟩),.pointer (some ⟨z+1,0,none⟩),.int .i64 x,.pointer (some ⟨z,0,none⟩),.int .i64 k,.bool true,.bool false,.agg #[.int .i64 k,.slice a b.length cap],.func (.func gf) #[] #[pt cb],.int .i64 x,undef,undef,undef,undef,undef],defers:=[] }) ?assign ?body ?done ?stop
  case assign=>
   intro l x W K hK;gi_wp2
   exact hK
  case body=>
   rintro l pre x rest W hx ⟨BT,BR,F,hall⟩ hE;have t0:=BT.cell 0;have r0:=BR.cell 0;have f0:=BR.frozen 0;simp at t0 r0
   obtain⟨m,hm⟩:∃ m,m=mayS k x:=⟨_,rfl⟩
   have HM:=Hi hm;have HY:=Hi (may_any k x W);rw[←hm]at HY
   clear hm HIT;cases m with
   |false=>
    gi_wp2_with (refine⟨trivial,?_⟩;gi_at_call 254;refine(CallsIn.inRound l (callsIn_wide.2 HY.out)).mono ?_;rintro e W2 ⟨rfl,rfl⟩)
    have F4:Fr (fun k=>k=z+1) W (W.setCell ⟨z+1,0,none⟩ (.bool false)):=Fr.setCell (S:=fun k=>k=z+1) (p:=⟨z+1,0,none⟩) (Fr.refl W) (fun _=>rfl) _;have B4:=BR.set 0 (.bool false);simp at B4
    exact⟨F4.mono (fun k _ e=>⟨by omega,by omega,by omega,by omega⟩),rfl,B4,F.trans' F4 (fun i hi e=>by have:=HZ.out;omega),x,by simp,HM.out.symm⟩
   |true=>
    gi_wp2_with (refine⟨trivial,?_⟩;gi_at_call 254;refine(CallsIn.inRound l (callsIn_wide.2 HY.out)).mono ?_;rintro e W2 ⟨rfl,rfl⟩)
    refine⟨Fr.refl W,BT,BR,F,fun n hn=>?_⟩
    rcases List.mem_append.1 hn with h|h
    ·exact hall n h
    ·rw[List.mem_singleton.1 h];exact HM.out.symm
  case done=>
   rintro D W hD ⟨BT,BR,F,hall⟩ hK;have hr:rightS k b=true:=by rw[HR.out,List.all_eq_true];exact hall
   have HRR:=Hi hr;have r0:=BR.cell 0;have f0:=BR.frozen 0;simp at r0
   have F4:Fr (fun k=>k=z+1) W (W.setCell ⟨z+1,0,none⟩ (.bool true)):=Fr.setCell (S:=fun k=>k=z+1) (p:=⟨z+1,0,none⟩) (Fr.refl W) (fun _=>rfl) _;have B4:=BR.set 0 (.bool true);simp at B4
   have hK4:=(F4.block D (Array.getElem?_eq_some_iff.1 hK).1 (by omega)).trans hK;have F5:Fr (fun k=>k=D) (W.setCell ⟨z+1,0,none⟩ (.bool true)) ((W.setCell ⟨z+1,0,none⟩ (.bool true)).putObj D (.deferred none)):=Fr.putObj (S:=fun k=>k=D) (Fr.refl _) D (fun _=>rfl) _;have r5:=(B4.fr F5 (by omega)).cell 0;simp at r5
   clear hr HIT;gi_wp2
   refine⟨by simp,.inl ⟨_,_,rfl,run_takeDeferred hK4,?_⟩⟩
   exact⟨.bool true,by simp[results,Tryz.results203,go_sem,r5],by rw[HRR.out],(F.trans' F4 (fun i hi e=>by have:=HZ.out;omega)).trans' F5 (fun i hi e=>by have:=HZ.out;omega)⟩
  case stop=>
   rintro D c pre W hD hpre ⟨rfl,BR,F,n,hn,hm⟩ hK;have hr:rightS k b=false:=by rw[HR.out,List.all_eq_false];exact⟨n,hpre.subset hn,by rw[hm];simp⟩
   have HRR:=Hi hr;have r0:=BR.cell 0;simp at r0
   have F5:Fr (fun k=>k=D) W (W.putObj D (.deferred none)):=Fr.putObj (S:=fun k=>k=D) (Fr.refl _) D (fun _=>rfl) _;have r5:=(BR.fr F5 (by omega)).cell 0;simp at r5
   clear hr HIT;gi_wp2
   refine⟨by simp,.inl ⟨_,_,rfl,run_takeDeferred hK,?_⟩⟩
   exact⟨.bool false,by simp[results,Tryz.results203,go_sem,r5],by rw[HRR.out],F.trans' F5 (fun i hi e=>by have:=HZ.out;omega)⟩
attribute [local go_sem] Oper.semAt_some
theorem signsText_any (k:Int)(v:Value)(b:List UInt8)(w:World)(hv:Bytes w v b)(hT:Tabs w)(hbl:b.length≤1099511627)(hok:rightS k b=true) :
  Calls Tryz.prog 319 #[.agg #[.int .i64 k,v]] w fun e w'=>(∃ u,e=.returned (.tuple #[u,.int .i64 0])∧w'.ownsRow w.heap.size 3 1 u (signsS k b).length (intCells (signsS k b)))∧Fz w w':=by
 obtain⟨xs,hxs⟩:∃ xs,xs=signsS k b:=⟨_,rfl⟩
 have hxl:xs.length≤b.length:=by rw[hxs];exact signsS_len k b
 rw[←hxs]
 have HXS:=Hi hxs;clear hxs;obtain⟨z,hz⟩:∃ z,z=w.heap.size:=⟨_,rfl⟩
 have h2:3<z:=by rw[hz];exact hT.size
 have hoff:Off v b.length (fun k=>z≤k):=fun h0 j hj hk=>by
  have:=hv.lt (by rw[byteCells_len];exact h0) j hj;omega
 obtain⟨a,cap,rfl,-⟩:=hv.form
 have F0:Fz w (w.alloc (.cells #[.int .i64 k,.slice a b.length cap] 251)):=(Fr.refl w).alloc _;have BT:=Blk.new w 251 #[.int .i64 k,.slice a b.length cap];rw[←hz]at BT
 have hv0:=hv.old F0;have hT0:=hT.old F0;have hs0:=F0.size;have HF0:=Hi F0;have HZ:=Hi hz;refine(callsIn_wide (n:=3)).1 ?_
 refine callsIn_of_wp_marks Tryz.func319 rfl trivial ?_ rfl;simp only[Tryz.ntmps319,List.size_toArray,List.length_cons,List.length_nil,Nat.reduceAdd,Nat.reduceSub,Array.replicate_succ,Array.replicate_zero,List.push_toArray,List.append_toArray,List.nil_append,List.cons_append]
 gi_upto_region 1 with fail
 rw[←HZ.out]
 obtain⟨w1,hw1⟩:∃ w1,w1=w.alloc (.cells #[.int .i64 k,.slice a b.length cap] 251):=⟨_,rfl⟩
 rw[←hw1]at HF0 BT hv0 hT0 hs0 ⊢
 rw[←hz]at hs0
 clear hw1 F0 hv hT hz;have t0:=BT.cell 0;have t1:=BT.cell 1;simp at t0 t1
 have HK:=Hi (rightText_any k _ b w1 hv0 hT0);rw[hok]at HK
 clear hok;gi_upto_region 4 with (refine⟨trivial,?_⟩;gi_at_call 203;refine(callsIn_wide.2 HK.out).mono ?_;rintro e w2 ⟨rfl,F2⟩;have BT2:=BT.fr F2 (fun h=>h);have t0:=BT2.cell 0;have t1:=BT2.cell 1;simp at t0 t1)
 obtain⟨g,hg⟩:∃ g,g=w2.heap.size:=⟨_,rfl⟩
 have F3:Fz w2 (w2.alloc (.cells #[.slice none 0 0] 27)):=(Fr.refl w2).alloc _;have BT3:=BT2.fr F3 (fun h=>h);have BG3:=Blk.new w2 27 #[.slice none 0 0];have hs1:=F2.size;have HSG:=Hi (signs_any k _ b _ z ((hv0.old F2).old F3) hoff (Nat.le_trans hs0 (F2.trans F3).size) ((hT0.old F2).old F3) h2);have HF3:=Hi ((HF0.out.trans F2).trans F3);rw[←hg]at BG3 ⊢
 have hgz:z<g:=by have:=BT2.lt;omega
 have hgw:=BG3.lt;clear HK hv0 hT0 BT BT2 F2 F3 t0 t1 hg hs1;generalize (w2.alloc (.cells #[.slice none 0 0] 27))=w3 at *
 have t0:=BT3.cell 0;have t1:=BT3.cell 1;simp at t0 t1
 gi_wp2_with fail
 refine⟨trivial,(callsIn_wide.2 HSG.out).mono ?_⟩
 rintro e w4 ⟨⟨gf,cb,rfl,hzc,hgc,hcl,heg,hit⟩,F4⟩;rw[←HXS.out]at hit
 have BT4:=BT3.fr F4 (fun h=>h);have BG4:=BG3.fr F4 (fun h=>h);have HF4:=Hi (HF3.out.trans F4);have lg4:=BG4.lt;have HIT:=Hi hit;clear HSG BT3 BG3 F4 t0 t1 hit HF3;gi_wp2
 obtain⟨E,hE0⟩:∃ E,E=w4.heap.size:=⟨_,rfl⟩
 have HE:=Hi hE0;refine range_law (gf:=gf) (lb:=#[pt cb]) rfl heg hcl (base:=z) (Nat.le_of_lt (Nat.lt_trans hgz lg4)) HIT.out rfl
  (fun pre W=>∃ u,Blk W g 27 #[u]∧W.ownsRow (E+2) 3 1 u pre.length (intCells pre)∧Fz w W)
  (fun _ _ _=>False)
  (fun s A B h f=>by
    obtain⟨u,h1,h3,h4⟩:=h
    exact⟨u,h1.fr f (by omega),ownsRow_fr h3 f (fun j hj e=>by have:=((Vals.of_own h3).2 j hj).1;omega),h4.trans' f (fun i hi e=>by have:=HZ.out;omega)⟩)
  (fun c s A B h f=>h)
  ⟨_,BG4,⟨rfl,.inl ⟨rfl,rfl⟩⟩,HF4.out⟩
  (fun x=>{ tmps:=#[.agg #[.int .i64 k,.slice a b.length cap],.pointer (some ⟨z,0,none⟩),.slice none 0 0,.int .i64 0,.pointer (some ⟨g,0,none⟩),.int .i64 x,.agg #[.int .i64 k,.slice a b.length cap],.bool true,.bool false,.agg #[.int .i64 k,.slice a b.length cap],.func (.func gf) #[] #[pt cb],.int .i64 x,undef,undef,undef,undef,undef],defers:=[] }) ?assign ?body ?done ?stop
 case assign=>
  intro l x W K hK;gi_wp2
  exact hK
 case body=>
  rintro l pre x rest W hx ⟨u,BG,hown,F⟩ hE;have hpl:pre.length+(rest.length+1)=xs.length:=by rw[hx];simp
  have hgW:=BG.lt;have BX:=Blk.new W 3 #[.int .i64 x];have F1:Fz W (W.alloc (.cells #[.int .i64 x] 3)):=(Fr.refl W).alloc _;have hsrc:Ints (W.alloc (.cells #[.int .i64 x] 3)) (.slice (some ⟨W.heap.size,0,none⟩) 1 1) [x]:=Vals.of_block BX (by unfold maxLen;simp);obtain⟨u',W2,hrun,hown2,F2,hb2⟩:=append_ints (ownsRow_fr hown F1 (fun _ _ h=>h)) (some ⟨W.heap.size,0,none⟩) 1 1 [x] hsrc (by omega) (by rw[HE.out];have:=F1.size;omega)
  obtain⟨a',m',c',rfl,rfl⟩:=own_shape hown2
  have hug:∀ j,u.ownBlock=some j→E+2≤j∧j<W.heap.size:=(Vals.of_own hown).2;have BG2:=(BG.fr F1 (fun h=>h)).fr F2 (fun e=>by have:=(hug _ e).1;have:=HE.out;omega);have hug2:∀ j,(Value.slice a' (pre.length+1) c').ownBlock=some j→E+2≤j:=fun j hj=>((Vals.of_own hown2).2 j hj).1
  have G2:Fr (fun k=>E+2≤k) W W2:=(F1.mono (fun _ _ h=>h.elim)).trans (F2.mono (fun j _ e=>(hug j e).1));have t0:=BG.cell 0;have t2:=BG2.cell 0;have f2:=BG2.frozen 0;have hal:=alloc_old;simp at t0 t2
  have HRUN:=Hi hrun;have HOWN2:=Hi hown2;have HUG2:=Hi hug2;clear hrun hown2 hug2 hug HIT hE0 BX hsrc F1 F2;gi_wp2_with (gi_at_builtin;refine wpListIn_append_run (by rfl) (.tmp 12) (.tmp 14) 27 (by rfl) _ W2 (by exact HRUN.out) ?_)
  have F5:Fr (fun k=>k=g) W2 (W2.setCell ⟨g,0,none⟩ (.slice a' (pre.length+1) c')):=Fr.setCell (S:=fun k=>k=g) (p:=⟨g,0,none⟩) (Fr.refl W2) (fun _=>rfl) _;have B5:=BG2.set 0 (.slice a' (pre.length+1) c');simp at B5
  have hEe:=HE.out;have hZe:=HZ.out;refine⟨(G2.mono (fun j _ e=>⟨by omega,by omega,by omega,by omega⟩)).trans (F5.mono (fun j _ e=>⟨by omega,by omega,by omega,by omega⟩)),_,B5,?_,(F.trans' G2 (fun i hi e=>by omega)).trans' F5 (fun i hi e=>by omega)⟩
  rw[List.length_append]
  exact ownsRow_fr HOWN2.out F5 (fun j hj e=>by have:=HUG2.out j hj;omega)
 case done=>
  rintro D W hD ⟨u,BG,hown,F⟩ hK;have hEe:=HE.out;have F5:Fr (fun k=>k=D) W (W.putObj D (.deferred none)):=Fr.putObj (S:=fun k=>k=D) (Fr.refl _) D (fun _=>rfl) _;have t0:=BG.cell 0;simp at t0
  have hown5:=own_le (ownsRow_fr hown F5 (fun j hj e=>by have:=((Vals.of_own hown).2 j hj).1;omega)) (base':=w.heap.size) (by have:=HZ.out;omega);have HO5:=Hi hown5;have HF5:=Hi (F.trans' F5 (fun i hi e=>by have:=HZ.out;omega));have HE2:=Hi hEe;clear hown hown5 HIT hE0 hEe F F5;gi_wp2
  refine⟨by simp,.inl ⟨_,_,rfl,run_takeDeferred hK,?_⟩⟩
  exact⟨.tuple #[u,.int .i64 0],by simp[results,Tryz.results319,go_sem],⟨u,rfl,HO5.out⟩,HF5.out⟩
 case stop=>
  rintro D c pre W hD hpre h hK;exact h.elim
def PutOut (w w':World)(base:Nat)(v:Value)(n:Nat)(xs l:List UInt8)(e:Ending):Prop:=
 ∃ a c,e=.returned (.slice a (n+l.length) c)∧w'.ownsRow base 5 1 (.slice a (n+l.length) c) (n+l.length) (Lib.byteCells (xs++l))∧Fr (fun k=>v.ownBlock=some k) w w'
theorem putText_any {w:World}{base n:Nat}{v:Value}{xs:List UInt8}(k:Int)(m:Nat)(hown:w.ownsRow base 5 1 v n (Lib.byteCells xs))(hm:mayS k m=true)(hk:Go.Q.kindOk k=true)(hn:n≤1099511627776)(hb:base≤w.heap.size) :
  Calls Tryz.prog 362 #[v,.int .i64 k,.int .i64 m] w fun e w'=>PutOut w w' base v n xs (putS1 k m) e:=by
 have hk':k=12∨k=19∨k=20∨k=22∨k=26∨k=30:=by simpa [Go.Q.kindOk] using hk
 by_cases h12:k=12
 ·subst h12
  have hs:okSign m:=by
   simp[mayS,surr]at hm
   unfold okSign;omega
  have hp:putS1 12 m=enc m:=rfl;rw[hp]
  have hw:IntKind.i32.wrap (m:Int)=(m:Int):=by unfold okSign at hs;simp[IntKind.wrap,IntKind.signed,IntKind.bits];omega
  have H:=Hi (Go.Proofs.Tryz.utf8_AppendRune_plain base v n (Lib.byteCells xs) (m:Int) (by omega) (by unfold okSign at hs;omega) w hown (by omega) hb);have hl:=byteCells_len (enc m);rw[enc_cells hs,←byteCells_append,hl]at H
  clear hown hs hm hk hk' hp hl;go_enter Tryz.func362,Tryz.ntmps362
  go_wp2_with fail
  refine H.out.mono ?_;rintro e w' ⟨v',rfl,h1,o,h2⟩;obtain⟨a,m',c,rfl,rfl⟩:=own_shape h1
  go_wp2_with fail
  go_ret;refine⟨a,c,rfl,h1,?_⟩
  have f:=Fr.of_grown h2;exact((Fr.refl (S:=fun k=>v.ownBlock=some k) w).alloc o).trans f
 ·have q1:(k==12)=false:=beq_eq_false_iff_ne.2 h12
  by_cases h30:k=30
  ·subst h30
   have hb2:m<65536:=by simp[mayS,surr]at hm;omega
   obtain⟨y1,hy1⟩:∃ y,y=m / 256:=⟨_,rfl⟩
   obtain⟨y2,hy2⟩:∃ y,y=m % 256:=⟨_,rfl⟩
   have hw1:IntKind.u8.wrap ((m:Int) / 256)=(y1:Int):=by rw[hy1];simp[IntKind.wrap,IntKind.signed,IntKind.bits];omega
   have hw2:IntKind.u8.wrap (m:Int)=(y2:Int):=by rw[hy2];simp[IntKind.wrap,IntKind.signed,IntKind.bits]
   have hp:putS1 30 m=[UInt8.ofNat y1,UInt8.ofNat y2]:=by rw[hy1,hy2];rfl
   rw[hp]
   have BX:=Blk.new w 5 #[.int .u8 y1,.int .u8 y2];have F1:Fz w (w.alloc (.cells #[.int .u8 y1,.int .u8 y2] 5)):=(Fr.refl w).alloc _;have hsrc:Bytes (w.alloc (.cells #[.int .u8 y1,.int .u8 y2] 5)) (.slice (some ⟨w.heap.size,0,none⟩) 2 2) [UInt8.ofNat y1,UInt8.ofNat y2]:=by
    have h:=Vals.of_block BX (by unfold maxLen;simp);have e:Lib.byteCells [UInt8.ofNat y1,UInt8.ofNat y2]=[.int .u8 y1,.int .u8 y2]:=by simp only[Lib.byteCells,List.map_cons,List.map_nil,u8 y1 (by omega),u8 y2 (by omega)]
    show Vals _ _ (Lib.byteCells [UInt8.ofNat y1,UInt8.ofNat y2])
    rw[e]
    exact h
   obtain⟨v',w2,hrun,h1,F2,_⟩:=append_bytes (ownsRow_fr hown F1 (fun _ _ h=>h)) (some ⟨w.heap.size,0,none⟩) 2 2 [UInt8.ofNat y1,UInt8.ofNat y2] hsrc (by omega) (Nat.le_trans hb F1.size)
   obtain⟨a,m',c,rfl,rfl⟩:=own_shape h1
   have HRUN:=Hi hrun;have HOWN:=Hi h1;have HF:=Hi ((F1.mono (T:=fun k=>v.ownBlock=some k) (fun _ _ h=>h.elim)).trans F2);clear hrun h1 F1 F2 BX hsrc hp hm hk hk' hown hy1 hy2;go_enter Tryz.func362,Tryz.ntmps362
   go_wp2_with (at_builtin;refine wpList_append_run (by rfl) (.tmp 16) (.tmp 22) 32 (by rfl) _ w2 (by exact HRUN.out) ?_)
   go_ret;exact⟨a,c,rfl,HOWN.out,HF.out⟩
  ·have q2:(k==30)=false:=beq_eq_false_iff_ne.2 h30
   have hb:m<256:=by
    rcases hk' with r|r|r|r|r|r<;>subst r<;>simp[mayS]at hm<;>omega
   have hw:IntKind.u8.wrap (m:Int)=(m:Int):=by simp[IntKind.wrap,IntKind.signed,IntKind.bits];omega
   have hp:putS1 k m=[UInt8.ofNat m]:=by unfold putS1;rw[if_neg h12,if_neg h30];rfl
   rw[hp]
   have BX:=Blk.new w 5 #[.int .u8 m];have F1:Fz w (w.alloc (.cells #[.int .u8 m] 5)):=(Fr.refl w).alloc _;have hsrc:Bytes (w.alloc (.cells #[.int .u8 m] 5)) (.slice (some ⟨w.heap.size,0,none⟩) 1 1) [UInt8.ofNat m]:=by
    have h:=Vals.of_block BX (by unfold maxLen;simp);have e:Lib.byteCells [UInt8.ofNat m]=[.int .u8 m]:=by simp only[Lib.byteCells,List.map_cons,List.map_nil,u8 m hb]
    show Vals _ _ (Lib.byteCells [UInt8.ofNat m])
    rw[e]
    exact h
   obtain⟨v',w2,hrun,h1,F2,_⟩:=append_bytes (ownsRow_fr hown F1 (fun _ _ h=>h)) (some ⟨w.heap.size,0,none⟩) 1 1 [UInt8.ofNat m] hsrc (by omega) (Nat.le_trans ‹base≤w.heap.size› F1.size)
   obtain⟨a,m',c,rfl,rfl⟩:=own_shape h1
   have HRUN:=Hi hrun;have HOWN:=Hi h1;have HF:=Hi ((F1.mono (T:=fun k=>v.ownBlock=some k) (fun _ _ h=>h.elim)).trans F2);clear hrun h1 F1 F2 BX hsrc hp hm hk hk' hown;go_enter Tryz.func362,Tryz.ntmps362
   go_wp2_with (at_builtin;refine wpList_append_run (by rfl) (.tmp 24) (.tmp 27) 32 (by rfl) _ w2 (by exact HRUN.out) ?_)
   go_ret;exact⟨a,c,rfl,HOWN.out,HF.out⟩
theorem ofText_any (k:Int)(v:Value)(l:List Int)(w:World)(h:Ints w v l)(hk:Go.Q.kindOk k=true)(hm:∀ n∈l,mayS k n=true)(hl:l.length≤100000000) :
  Calls Tryz.prog 320 #[.int .i64 k,v] w fun e w'=>(∃ u,e=.returned (.tuple #[.agg #[.int .i64 k,u],.int .i64 0])∧w'.ownsRow w.heap.size 5 1 u (ofS k l).length (Lib.byteCells (ofS k l)))∧Fz w w':=by
 have H:=Hi h;have HM:=Hi hm;obtain⟨a,cap,rfl,-⟩:=Ints.form h
 obtain⟨z,hz⟩:∃ z,z=w.heap.size:=⟨_,rfl⟩
 have F0:Fz w (w.alloc (.cells #[.int .i64 0,.slice none 0 0] 251)):=(Fr.refl w).alloc _;have B0:=Blk.new w 251 #[.int .i64 0,.slice none 0 0];rw[←hz]at B0
 have HZ:=Hi hz;have HF0:=Hi F0;have HKN:=Hi (known_any k (w.alloc (.cells #[.int .i64 0,.slice none 0 0] 251)));rw[hk]at HKN
 have HK:=Hi hk;clear h F0 hz hk hm;go_enter Tryz.func320,Tryz.ntmps320
 go_upto_region 1 with fail
 rw[←HZ.out]
 generalize (w.alloc (.cells #[.int .i64 0,.slice none 0 0] 251))=w1 at *
 go_upto_region 4 with (first|(go_at_call 252;refine HKN.out.mono ?_;rintro e w2 ⟨rfl,F2⟩))
 obtain⟨y,hy⟩:∃ y,y=w2.heap.size:=⟨_,rfl⟩
 have F3:Fz w2 (w2.alloc (.cells #[.int .i64 k,.slice none 0 0] 251)):=(Fr.refl w2).alloc _;have BZ:=(B0.fr F2 (fun h=>h)).fr F3 (fun h=>h);have BY:=Blk.new w2 251 #[.int .i64 k,.slice none 0 0];have hzy:z<y:=by have:=(B0.fr F2 (fun h=>h)).lt;omega
 have hs3:y+1=(w2.alloc (.cells #[.int .i64 k,.slice none 0 0] 251)).heap.size:=by rw[hy,World.size_alloc]
 have HF3:=Hi ((HF0.out.trans F2).trans F3);rw[←hy]at BY ⊢
 clear HKN B0 HF0 F2 F3 hy;generalize (w2.alloc (.cells #[.int .i64 k,.slice none 0 0] 251))=w3 at *
 go_wp2_with fail
 go_loopg [17] l.length (fun g i wr=>∃ (j:Nat) (u:Value),g=l.length-j∧j≤l.length∧i=.int .i64 j∧Blk wr z 251 #[.int .i64 0,.slice none 0 0]∧Blk wr y 251 #[.int .i64 k,u]∧wr.ownsRow (y+1) 5 1 u (ofS k (l.take j)).length (Lib.byteCells (ofS k (l.take j)))∧Fz w wr∧y+1≤wr.heap.size)
 case atStart=>exact⟨0,_,rfl,Nat.zero_le _,rfl,BZ,BY,⟨rfl,.inl ⟨rfl,rfl⟩⟩,HF3.out,by omega⟩
 case round=>
  obtain⟨j,u,hg,hj,rfl,BZ,BY,hown,F,hsz⟩:=hrel
  have HG:=Hi hg;clear hg;by_cases hjl:j<l.length
  ·obtain⟨a0,cap0,he,_,_,hx⟩:=Ints.form (H.out.old F)
   simp only[Value.slice.injEq,true_and]at he
   obtain⟨rfl,rfl⟩:=he
   obtain⟨b,off,rfl,hy⟩:=hx (by omega)
   obtain⟨n,hn⟩:∃ n,l[j]? = some n:=⟨_,List.getElem?_eq_getElem hjl⟩
   have e1:=hy j n hn;have hmn:=HM.out n (List.mem_of_getElem? hn);have hn0:0≤n:=by
    have hk':k=12∨k=19∨k=20∨k=22∨k=26∨k=30:=by simpa [Go.Q.kindOk] using HK.out
    rcases hk' with r|r|r|r|r|r<;>subst r<;>simp[mayS]at hmn<;>omega
   obtain⟨m,rfl⟩:∃ m:Nat,n=m:=⟨n.toNat,by omega⟩
   have hle:=ofS_le k (l.take j);rw[List.length_take]at hle
   have hft:=ofS_take (k:=k) hn;have HFT:=Hi hft;have y0:=BY.cell 0;have y1:=BY.cell 1;have g1:=BY.frozen 1;simp at y0 y1
   have HP:=Hi (putText_any k m hown hmn HK.out (by omega) (by omega));have HMY:=Hi (may_any k m wr);rw[hmn]at HMY
   have r1:(0:Int)≤(j:Int):=by omega
   have r2:(j:Int)<(l.length:Int):=by omega
   have huy:∀ q,u.ownBlock=some q→y+1≤q:=fun q hq=>((Vals.of_own hown).2 q hq).1
   have HUY:=Hi huy;clear hx hy hn hmn hft hown huy;go_wp2_with (first|(go_at_call 254;refine HMY.out.mono ?_;rintro e w5 ⟨rfl,rfl⟩))
   refine HP.out.mono ?_;rintro e w5 ⟨a5,c5,rfl,h5,F5⟩;have BY5:=BY.fr F5 (fun e=>by have:=HUY.out _ e;omega);have BZ5:=BZ.fr F5 (fun e=>by have:=HUY.out _ e;omega);have g5:=BY5.frozen 1;have y5:=BY5.cell 1;simp at y5
   generalize (ofS k (l.take j)).length+(putS1 k m).length=N5 at *
   have F6:Fr (fun q=>q=y) w5 (w5.setCell ⟨y,1,none⟩ (.slice a5 N5 c5)):=Fr.setCell (S:=fun q=>q=y) (p:=⟨y,1,none⟩) (Fr.refl w5) (fun _=>rfl) _;have BY6:=BY5.set 1 (.slice a5 N5 c5);simp at BY6
   have BZ6:=BZ5.fr F6 (by omega);have h6:=ownsRow_fr h5 F6 (fun q hq e=>by have:=((Vals.of_own h5).2 q hq).1;omega);have G6:=(F.trans' F5 (fun i hi e=>by have:=HUY.out _ e;have:=HZ.out;omega)).trans' F6 (fun i hi e=>by have:=HZ.out;omega);have hs6:=F6.size;have hs5:=F5.size;have hlen:N5=(ofS k (l.take (j+1))).length:=by
    have:=h6.1;rw[byteCells_len,Nat.mul_one]at this
    rw[HFT.out,←this]
   have HLEN:=Hi hlen;have HG6:=Hi G6;have HH6:=Hi h6;clear hlen G6 h6 h5 F5 F6 F HP HMY;go_wp2_with fail
   go_roundg (l.length-(j+1))
   case measure=>rw[HG.out];omega
   case rel=>exact⟨j+1,_,rfl,by omega,by go_num,BZ6,BY6,by rw[HFT.out,←HFT.out,←HLEN.out];rw[HFT.out];exact HH6.out,HG6.out,by omega⟩
  ·have hall:l.take j=l:=List.take_of_length_le (by omega)
   rw[hall]at hown
   have y0:=BY.cell 0;have y1:=BY.cell 1;have z0:=BZ.frozen 0;have z1:=BZ.frozen 1;have zc0:=BZ.cell 0;have zc1:=BZ.cell 1;simp at y0 y1 zc0 zc1
   obtain⟨BZ6,F6⟩:=set2 BZ (.int .i64 k) u
   have HO6:=Hi (own_le (ownsRow_fr hown F6 (fun q hq e=>by have:=((Vals.of_own hown).2 q hq).1;omega)) (base':=w.heap.size) (by have:=HZ.out;omega));have HF6:=Hi (F.trans' F6 (fun i hi e=>by have:=HZ.out;omega));obtain⟨au,mu,cu,rfl,-⟩:=own_shape hown
   clear hown F F6 hall;go_wp2_with fail
   have n0:=BZ6.cell 0;have n1:=BZ6.cell 1;simp at n0 n1
   exact bodyPost_ret (v:=.tuple #[.agg #[.int .i64 k,.slice au mu cu],.int .i64 0]) (by simp[results,Tryz.results320,go_sem,n0,n1]) rfl ⟨⟨_,rfl,HO6.out⟩,HF6.out⟩
theorem Parts.one {w:World}{u1:Value}{l1:List UInt8}(h1:Bytes w u1 l1):Parts (w.alloc (.cells #[u1] 32)) (.slice (some ⟨w.heap.size,0,none⟩) 1 1) [l1]:=by
 have F:Fz w (w.alloc (.cells #[u1] 32)):=(Fr.refl w).alloc _;refine⟨[u1],Vals.of_block (Blk.new w 32 #[u1]) (by unfold maxLen;simp),rfl,fun i u l hu hl=>?_⟩
 match i,hu,hl with
 |0,hu,hl=>
  simp only[List.getElem?_cons_zero,Option.some.injEq]at hu hl
  subst hu;subst hl;exact h1.old F
 |i+1,hu,hl=>simp at hu
theorem kind_good {k:Int}(h:Go.Q.kindOk k=true):tagGood (tagOf k):=by
 have hk':k=12∨k=19∨k=20∨k=22∨k=26∨k=30:=by simpa [Go.Q.kindOk] using h
 exact good_of (by omega) (by omega)
theorem kind_made {k:Int}(h:Go.Q.kindOk k=true):tagV (tagOf k)=.agg #[.int .i64 0,.int .i64 k,.bool false]:=by
 have hk':k=12∨k=19∨k=20∨k=22∨k=26∨k=30:=by simpa [Go.Q.kindOk] using h
 rcases hk' with r|r|r|r|r|r<;>subst r<;>rfl
theorem writeText_any (k:Int)(v:Value)(b:List UInt8)(w:World)(hv:Bytes w v b)(hT:Tabs w)(hok:rightS k b=true)(hbl:b.length≤16777216) :
  Calls Tryz.prog 147 #[.agg #[.int .i64 k,v]] w fun e w'=>(∃ u,e=.returned (.tuple #[u,.int .i64 0])∧w'.ownsRow w.heap.size 5 1 u (wrapS (tagOf k) b).length (Lib.byteCells (wrapS (tagOf k) b)))∧Fz w w':=by
 have hk:Go.Q.kindOk k=true:=by unfold rightS at hok;rw[Bool.and_eq_true]at hok;exact hok.1
 obtain⟨a,cap,rfl,-⟩:=hv.form
 obtain⟨z,hz⟩:∃ z,z=w.heap.size:=⟨_,rfl⟩
 have F0:Fz w (w.alloc (.cells #[.int .i64 k,.slice a b.length cap] 251)):=(Fr.refl w).alloc _;have B0:=Blk.new w 251 #[.int .i64 k,.slice a b.length cap];rw[←hz]at B0
 have HK:=Hi (rightText_any k _ b _ (hv.old F0) (hT.old F0));rw[hok]at HK
 have HV:=Hi (hv.old F0);have HZ:=Hi hz;have HF0:=Hi F0;have HKK:=Hi hk;clear F0 hz hk hok hv hT;go_enter Tryz.func147,Tryz.ntmps147
 go_upto_region 1 with fail
 rw[←HZ.out]
 generalize (w.alloc (.cells #[.int .i64 k,.slice a b.length cap] 251))=w1 at *
 have t0:=B0.cell 0;have t1:=B0.cell 1;simp at t0 t1
 go_upto_region 3 with (first|(go_at_call 203;refine HK.out.mono ?_;rintro e w2 ⟨rfl,F2⟩))
 have B2:=(B0.fr F2 (fun h=>h)).drew;have F3:Fz w w2.drew:=(HF0.out.trans F2).drew;have hv2:Bytes w2.drew (.slice a b.length cap) b:=(HV.out.old F2).old (Fr.refl w2).drew;have hwt:=kind_good HKK.out;have hmk:=kind_made HKK.out;have HMK:=Hi hmk;clear HK B0 HF0 t0 t1 F2 hmk HV;have t0:=B2.cell 0;have t1:=B2.cell 1;simp only[SG]at t0 t1
 have S:=B2.cell;go_region_held3 (fun w'=>∀ j,w'.cell? ⟨z,j,none⟩=(#[.int .i64 k,.slice a b.length cap]:Array Value)[j]?) (first|exact B2.cell|exact(B2.alloc _).cell|exact B5.cell|exact(B5.alloc _).cell|exact B6.cell) (first
  |(go_at_call 159;refine(headOf_any k _).mono ?_;rintro e w5 ⟨rfl,F5⟩;rw[HMK.out];have B5:Blk w5 z 251 #[.int .i64 k,.slice a b.length cap]:=(by first|exact B2.fr F5 (fun h=>h)|exact(B2.alloc _).fr F5 (fun h=>h)))
  |(go_at_call 103;rw[←HMK.out];first|(refine(wrap_any (tagOf k) hwt _ [b] _ (Parts.one (hv2.old F5)) (by simp;omega) (by simp)).mono ?_;rintro e w6 ⟨v6,rfl,ho6,F6⟩;have B6:=(B5.alloc (.cells #[.slice a b.length cap] 32)).fr F6 (fun h=>h);have G6:=((F3.trans F5).alloc _).trans F6)|(refine(wrap_any (tagOf k) hwt _ [b] _ ((Parts.one hv2).old F5) (by simp;omega) (by simp)).mono ?_;rintro e w6 ⟨v6,rfl,ho6,F6⟩;have B6:=B5.fr F6 (fun h=>h);have G6:=((F3.alloc _).trans F5).trans F6)))
 all_goals
  rw[show [b].flatten=b from by simp]at ho6
  have HO6:=Hi (own_le ho6 (base':=w.heap.size) (by first|exact((F3.trans F5).alloc _).size|exact((F3.alloc _).trans F5).size));have HG6:=Hi G6;clear ho6 G6 F6 F5;go_wp2_with fail
  exact bodyPost_ret (v:=.tuple #[v6,.int .i64 0]) (by simp[results,Tryz.results147,go_sem]) rfl ⟨⟨_,rfl,HO6.out⟩,HG6.out⟩
end Go.Proofs.YteidmhkobmddiaaGreatDoor
