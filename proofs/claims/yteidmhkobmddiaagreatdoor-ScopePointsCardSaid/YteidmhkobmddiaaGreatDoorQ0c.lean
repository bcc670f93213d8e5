/-
  Merged by program: XNWrap0 XNDig2 XNLen XShelf XNRev XNWrap XNOid.
-/
import Derived.Test.YteidmhkobmddiaaGreatDoorQ0b
import Derived.Shelf.SlGeneric
import Derived.Shelf.SlicesE.Reverse
import Derived.Shelf.Strings.Builder1
import Derived.Shelf.Strings.Builder2
import Derived.Shelf.Strings.OnBuilder
import Derived.Shelf.Small.Strs
import Derived.Shelf.Strings.BuilderF
import Derived.Shelf.Strings.BuilderK
import Derived.Shelf.Utf8.AppendRune
import Derived.Shelf.Utf8.AppendRunePlain
import Derived.Shelf.Utf8.RuneCount
import Derived.Shelf.Strconv.Itoa0
import Derived.Shelf.Strconv.Itoa1
import Derived.Shelf.LaysM
import Derived.Shelf.Strconv.Itoa2
import Derived.Shelf.Strconv.Itoa3
import Derived.Shelf.Strings.Search1
import Derived.Shelf.Strings.Search2
import Derived.Shelf.Strings.Search3
import Derived.Shelf.Strings.Cut
import Derived.Shelf.Strings.Count
import Derived.Shelf.Strings.Shaped
import Derived.Shelf.Sort.Plain
import Derived.Shelf.Strings.LastIndex
import Derived.Shelf.Strings.Prefix
import Derived.Shelf.Strings.Split
import Derived.Shelf.Strings.SplitShaped
import Derived.Shelf.Unicode.Decode
import Derived.Shelf.Strings.RuneCount
import Derived.Shelf.Strings.Explode
import Derived.Shelf.Unicode.DecodeSlow
import Derived.Shelf.Unicode.DecodeAny
import Derived.Shelf.Slices.Turned
import Derived.Ground.Names2Prog
import Derived.Shelf.Slices.Clone
import Derived.Shelf.Slices.CompactS
import Derived.Shelf.Slices.In.SortNone
import Derived.Ground.SlgnProg
import Derived.Shelf.SlicesE.Clone
import Derived.Test.YteidmhkobmddiaaGreatDoorProg
set_option linter.unusedSimpArgs false
set_option maxRecDepth 100000
set_option maxHeartbeats 8000000
namespace Go.Q
open Go
def lowS:Nat→Nat→List UInt8
 |0,_=>[]
 |f+1,n=>if n=0 then [] else UInt8.ofNat (n % 256)::lowS f (n / 256)
theorem low_len:∀ (f n:Nat),(lowS f n).length≤f
 |0,_=>Nat.le_refl _
 |f+1,n=>by
  simp only[lowS]
  split
  ·simp
  ·simp only[List.length_cons]
   have:=low_len f (n / 256);omega
def limS:Nat→Nat
 |0=>16777216
 |1=>65536
 |2=>256
 |3=>1
 |_=>0
theorem lim_step {m k:Nat}(h:m≤limS k):m / 256≤limS (k+1):=by
 match k,h with
 |0,h=>simp only[limS]at h ⊢;omega
 |1,h=>simp only[limS]at h ⊢;omega
 |2,h=>simp only[limS]at h ⊢;omega
 |3,h=>simp only[limS]at h ⊢;omega
 |k+4,h=>simp only[limS]at h ⊢;omega
theorem len_low {n:Nat}(h1:128≤n)(h2:n≤16777216):lenBytes n=UInt8.ofNat (128+(lowS 4 n).length)::(lowS 4 n).reverse:=by
 have c0:¬n=0:=by omega
 by_cases c2:n<256
 ·have d1:n / 256=0:=by omega
  have d2:n % 256=n:=by omega
  simp only[lenBytes,lowS,c0,if_false,d1,d2,if_true,if_neg (show ¬n<128 by omega),if_pos c2]
  rfl
 by_cases c3:n<65536
 ·have d0:¬n / 256=0:=by omega
  have d1:n / 256 / 256=0:=by omega
  have d2:n / 256 % 256=n / 256:=by omega
  simp only[lenBytes,lowS,c0,d0,if_false,d1,d2,if_true,if_neg (show ¬n<128 by omega),if_neg c2,if_pos c3]
  rfl
 by_cases c4:n<16777216
 ·have d0:¬n / 256=0:=by omega
  have d00:¬n / 256 / 256=0:=by omega
  have d1:n / 256 / 256 / 256=0:=by omega
  have d2:n / 256 / 256 % 256=n / 65536:=by omega
  simp only[lenBytes,lowS,c0,d0,d00,if_false,d1,d2,if_true,if_neg (show ¬n<128 by omega),if_neg c2,if_neg c3,if_pos c4]
  rfl
 ·obtain rfl:n=16777216:=by omega
  decide
open Go Go.RowKit
def Parts (w:World)(v:Value)(ls:List (List UInt8)):Prop:=
 ∃ vs:List Value,Vals w v vs∧vs.length=ls.length∧∀ (i:Nat) (u:Value) (l:List UInt8),vs[i]? = some u→ls[i]? = some l→Bytes w u l
theorem Parts.old {w w':World}{v:Value}{ls:List (List UInt8)}(h:Parts w v ls)(f:Fz w w'):Parts w' v ls:=by
 obtain⟨vs,h1,h2,h3⟩:=h
 exact⟨vs,h1.old f,h2,fun i u l hu hl=>(h3 i u l hu hl).old f⟩
theorem Parts.form {w:World}{v:Value}{ls:List (List UInt8)}(h:Parts w v ls):∃ a cap,v=.slice a ls.length cap∧(0<ls.length→∃ b o,a=some ⟨b,o,none⟩∧∀ (i:Nat) (l:List UInt8),ls[i]? = some l→∃ p c,w.cell? ⟨b,o+i,none⟩=some (.slice p l.length c)∧Bytes w (.slice p l.length c) l):=by
 obtain⟨vs,⟨a,cap,rfl,hc,hm,hx⟩,h2,h3⟩:=h
 refine⟨a,cap,by rw[h2],fun h0=>?_⟩
 obtain⟨b,o,rfl,hy⟩:=hx (by omega)
 refine⟨b,o,rfl,fun i l hl=>?_⟩
 have hi:i<vs.length:=by rw[h2];exact(List.getElem?_eq_some_iff.1 hl).1
 have hu:vs[i]? = some vs[i]:=List.getElem?_eq_getElem hi;have hb:=h3 i _ l hu hl;obtain⟨p,c,he,hr⟩:=hb.form
 rw[he]at hb hu
 exact⟨p,c,hy i _ hu,hb⟩
theorem flat_take {ls:List (List UInt8)}{j:Nat}{l:List UInt8}(h:ls[j]? = some l):(ls.take (j+1)).flatten=(ls.take j).flatten++l:=by
 rw[List.take_add_one,h]
 simp
theorem flat_le (ls:List (List UInt8))(j:Nat):(ls.take j).flatten.length≤ls.flatten.length:=by
 have:ls.flatten=(ls.take j).flatten++(ls.drop j).flatten:=by rw[←List.flatten_append,List.take_append_drop]
 rw[this,List.length_append]
 omega
def arcOk (n:Int):Bool:=decide (0≤n∧n≤2147483647)
def twoOk (a b:Int):Bool:=decide (a=0∨a=1)&&decide (b<40)||decide (a=2)&&decide (b≤2147483567)
def oidOk (o:List Int):Bool:=decide (2≤o.length∧o.length≤32)&&o.all arcOk&&twoOk (o.getD 0 0) (o.getD 1 0)
end Go.Q
namespace Go.Proofs.YteidmhkobmddiaaGreatDoor
open Go Go.RowKit Go.Q
theorem headOf_any (n:Int)(w:World) :
  Calls Tryz.prog 159 #[.int .i64 n] w fun e w'=>e=.returned (tagV (tagOf n))∧Fz w w':=by
 rcases Classical.em (n=16) with h|h
 case' inl=>subst h
 case' inr=>have h16:(n==16)=false:=beq_eq_false_iff_ne.2 h
 case' inl=>
  go_enter Tryz.func159,Tryz.ntmps159
  go_wp2_with fail
  exact bodyPost_ret (v:=tagV ⟨0,16,true⟩) (by simp[results,Tryz.results159,go_sem,tagV]) rfl ⟨rfl,(Fr.refl w).alloc _⟩
 case' inr=>
  go_enter Tryz.func159,Tryz.ntmps159
  go_wp2_with fail
  exact bodyPost_ret (v:=tagV ⟨0,n,n==17⟩) (by simp[results,Tryz.results159,go_sem,tagV]) rfl ⟨by simp[tagOf,tagV,h16],(Fr.refl w).alloc _⟩
theorem headRight_any (t:Tag)(h:tagGood t)(w:World) :
  Calls Tryz.prog 221 #[tagV t] w fun e w'=>e=.returned (.bool true)∧Fz w w':=by
 obtain⟨⟨h1,h2⟩,h3,h4⟩:=h
 obtain⟨c,n,m⟩:=t
 simp only at h1 h2 h3 h4
 have q1:decide (0≤c)=true:=decide_eq_true h1;have q2:decide (c≤3)=true:=decide_eq_true (by omega);have q3:decide (0≤n)=true:=decide_eq_true h3;have q4:decide (n<2097152)=true:=decide_eq_true (by omega);rw[show tagV ⟨c,n,m⟩=.agg #[.int .i64 c,.int .i64 n,.bool m] from rfl]
 go_enter Tryz.func221,Tryz.ntmps221
 go_wp2_with fail
 go_ret;exact⟨rfl,(Fr.refl w).alloc _⟩
theorem first_any (t:Tag)(h:tagGood t)(w:World) :
  Calls Tryz.prog 222 #[tagV t] w fun e w'=>e=.returned (.int .u8 (t.cls*64+(if t.made then 32 else 0)))∧Fz w w':=by
 obtain⟨⟨h1,h2⟩,h3,h4⟩:=h
 obtain⟨c,n,m⟩:=t
 simp only at h1 h2 h3 h4
 rw[show tagV ⟨c,n,m⟩=.agg #[.int .i64 c,.int .i64 n,.bool m] from rfl]
 have hc:c=0∨c=1∨c=2∨c=3:=by omega
 rcases hc with rfl|rfl|rfl|rfl<;>cases m
 all_goals
  go_enter Tryz.func222,Tryz.ntmps222
  go_wp2_with fail
  go_ret;exact⟨by rfl,(Fr.refl w).alloc _⟩
theorem tagByte_val {t:Tag}(h:tagGood t):((tagByte t).toNat:Int)=t.cls*64+(if t.made then 32 else 0)+t.num:=by
 obtain⟨⟨h1,h2⟩,h3,h4⟩:=h
 obtain⟨c,n,m⟩:=t
 simp only at h1 h2 h3 h4
 unfold tagByte;rw[u8' _ (by cases m<;>simp<;>omega)]
 cases m<;>simp<;>omega
theorem or_tag {t:Tag}(h:tagGood t):bits .or .u8 (t.cls*64+(if t.made then 32 else 0)) t.num=((tagByte t).toNat:Int):=by
 have hv:=tagByte_val h;obtain⟨⟨h1,h2⟩,h3,h4⟩:=h
 obtain⟨a,ha⟩:∃ a:Nat,t.cls*64+(if t.made then 32 else 0)=(a:Int)∧a % 32=0∧a<256:=⟨(t.cls*64+(if t.made then 32 else 0)).toNat,by cases t.made<;>simp<;>omega⟩
 obtain⟨b,hb⟩:∃ b:Nat,t.num=(b:Int):=⟨t.num.toNat,by omega⟩
 rw[hv,ha.1,hb,u8_or_nat a b (by omega) (by omega),nat_join 5 a b (by omega) (by omega)]
 simp
theorem headBytes_any (t:Tag)(h:tagGood t)(w:World) :
  Calls Tryz.prog 166 #[tagV t] w fun e w'=>∃ v,e=.returned (.tuple #[v,.int .i64 0])∧w'.ownsRow w.heap.size 5 1 v 1 (Lib.byteCells [tagByte t])∧Fz w w':=by
 have HO:=Hi (or_tag h);have HH:=Hi h;obtain⟨⟨h1,h2⟩,h3,h4⟩:=h
 obtain⟨c,n,m⟩:=t
 simp only at h1 h2 h3 h4
 obtain⟨f,hf⟩:∃ f,f=c*64+(if m then 32 else 0):=⟨_,rfl⟩
 have HF:=Hi hf;have B:=Blk.new w 201 #[.int .i64 c,.int .i64 n,.bool m];have F0:Fz w (w.alloc (.cells #[.int .i64 c,.int .i64 n,.bool m] 201)):=(Fr.refl w).alloc _;obtain⟨z,hz⟩:∃ z,z=w.heap.size:=⟨_,rfl⟩
 rw[←hz]at B
 have HZ:=Hi hz;clear hf hz;rw[show tagV ⟨c,n,m⟩=.agg #[.int .i64 c,.int .i64 n,.bool m] from rfl]
 go_enter Tryz.func166,Tryz.ntmps166
 go_upto_region 1 with fail
 rw[←HZ.out]
 generalize (w.alloc (.cells #[.int .i64 c,.int .i64 n,.bool m] 201))=w0 at *
 have S:=B.cell;go_wp2_with fail
 refine(headRight_any ⟨c,n,m⟩ HH.out w0).mono ?_
 rintro e w1 ⟨rfl,F1⟩;replace B:=B.fr F1 (fun h=>h);replace S:=B.cell;have G1:=F0.trans F1;clear F0 F1;go_upto_region 4 with fail
 replace B:=B.drew;replace G1:=G1.drew;replace S:=B.cell;go_region_held3 (fun w'=>∀ j,w'.cell? ⟨z,j,none⟩=(#[.int .i64 c,.int .i64 n,.bool m]:Array Value)[j]?) (first|exact B.cell|exact(B.alloc _).cell) (first
  |(go_at_call 222;refine(first_any ⟨c,n,m⟩ HH.out _).mono ?_;rintro e w' ⟨rfl,F⟩;replace B:=B.fr F (fun h=>h);replace G1:=G1.trans F;simp only;rw[←HF.out];clear F))
 have hx:bits BinOp.or IntKind.u8 f (IntKind.u8.wrap n)=((tagByte ⟨c,n,m⟩).toNat:Int):=by
  rw[show IntKind.u8.wrap n=n from by simp[IntKind.wrap,IntKind.signed,IntKind.bits];omega,HF.out]
  exact HO.out
 rw[hx]
 have BX:=Blk.new w' 5 #[.int .u8 ((tagByte ⟨c,n,m⟩).toNat:Int)];have G2:=G1.alloc (.cells #[.int .u8 ((tagByte ⟨c,n,m⟩).toNat:Int)] 5);have ho:=own_bytes (l:=[tagByte ⟨c,n,m⟩]) BX (by simp) w.heap.size G1.size;have HOW:=Hi ho;have HG:=Hi G2;clear G1 G2 BX ho B S hx;go_wp2_with fail
 exact bodyPost_ret (v:=.tuple #[.slice (some ⟨w'.heap.size,0,none⟩) 1 1,.int .i64 0]) (by simp[results,Tryz.results166,go_sem]) rfl ⟨_,rfl,HOW.out,HG.out⟩
theorem digits_any (n:Nat)(hn:n≤16777216)(w:World)
  (hrev:∀ (w1:World) (base:Nat) (v:Value) (k:Nat) (xs:List UInt8),w1.ownsRow base 5 1 v k (Lib.byteCells xs)→k≤100→Calls Tryz.prog 266 #[v] w1 fun e w2=>e=.returned (.tuple #[])∧w2.ownsRow base 5 1 v k (Lib.byteCells xs.reverse)∧Fr (fun k=>v.ownBlock=some k) w1 w2) :
  Calls Tryz.prog 223 #[.int .i64 n,.int .i64 8] w fun e w'=>∃ v,e=.returned v∧w'.ownsRow w.heap.size 5 1 v (lowS 4 n).length (Lib.byteCells (lowS 4 n).reverse)∧Fz w w':=by
 obtain⟨z,hz⟩:∃ z,z=w.heap.size:=⟨_,rfl⟩
 have BN:=((Blk.new w 3 #[.int .i64 n]).alloc (.cells #[.int .i64 8] 3)).alloc (.cells #[.slice none 0 0] 32);have BK:=(Blk.new (w.alloc (.cells #[.int .i64 n] 3)) 3 #[.int .i64 8]).alloc (.cells #[.slice none 0 0] 32);have BB:=Blk.new ((w.alloc (.cells #[.int .i64 n] 3)).alloc (.cells #[.int .i64 8] 3)) 32 #[.slice none 0 0];have F0:Fz w (((w.alloc (.cells #[.int .i64 n] 3)).alloc (.cells #[.int .i64 8] 3)).alloc (.cells #[.slice none 0 0] 32)):=(((Fr.refl w).alloc _).alloc _).alloc _;simp only[World.size_alloc]at BK BB
 rw[←hz]at BN BK BB
 have HZ:=Hi hz;have HR:=Hi hrev;have hll:=low_len 4 n;clear hz hrev;go_enter Tryz.func223,Tryz.ntmps223
 go_upto_region 2 with fail
 rw[←HZ.out]
 generalize (((w.alloc (.cells #[.int .i64 n] 3)).alloc (.cells #[.int .i64 8] 3)).alloc (.cells #[.slice none 0 0] 32))=w0 at *
 go_wp2_with fail
 go_loopg [] n (fun g wr=>∃ (k m:Nat) (v:Value) (xs:List UInt8),g=m∧m≤n∧xs.length=k∧k≤4∧lowS 4 n=xs++lowS (4-k) m∧m≤limS k∧Blk wr z 3 #[.int .i64 m]∧Blk wr (z+1) 3 #[.int .i64 8]∧Blk wr (z+1+1) 32 #[v]∧wr.ownsRow z 5 1 v k (Lib.byteCells xs)∧(∀ b,v.ownBlock=some b→b≠z+1+1∧b≠z∧b≠z+1)∧Fz w wr)
 case atStart=>exact⟨0,n,.slice none 0 0,[],rfl,Nat.le_refl _,rfl,by omega,rfl,hn,BN,BK,BB,⟨rfl,.inl ⟨rfl,rfl⟩⟩,by simp[Value.ownBlock],F0⟩
 case round=>
  obtain⟨k,m,v,xs,hg,hmn,hxk,hk,hlow,hk4,BN1,BK1,BB1,hown,hne,F1⟩:=hrel
  have HG:=Hi hg;have HLO:=Hi hlow;have e1:=BN1.cell 0;have f1:=BN1.frozen 0;have e2:=BK1.cell 0;have e3:=BB1.cell 0;simp at e1 e2 e3
  clear hg hlow;by_cases hm0:m=0
  ·subst hm0
   have hE:lowS 4 n=xs:=by
    rw[HLO.out]
    cases 4-k<;>simp[lowS]
   have HE:=Hi hE;have hown':=hown;go_wp2_with fail
   have hv:=(Vals.of_own hown).2;refine(HR.out wr z v k xs hown (by omega)).mono ?_
   rintro e w2 ⟨rfl,own2,F2⟩;have e3':=F2.cell e3 (fun h=>(hne _ h).1 rfl);have HO2:=Hi own2;have HG2:=Hi (F1.trans' F2 (fun b hb h=>absurd hb (by have:=hv b h;have:=HZ.out;omega)));obtain⟨a7,c7,rfl,-⟩:=(Vals.of_own own2).1
   clear own2 F2 hv e3;go_wp2_with fail
   go_ret;refine⟨_,rfl,?_,HG2.out⟩
   have:=HO2.out;rw[←HZ.out,HE.out,hxk]
   exact this
  ·have hm1:(0:Int)<(m:Int):=by omega
   have hk3:k≤3:=by
    rcases Nat.lt_or_ge 3 k with h|h
    ·obtain rfl:k=4:=by omega
     simp only[limS]at hk4
     omega
    ·exact h
   have HK4:=Hi hk4;clear hk4;have hv:=(Vals.of_own hown).2;have hz0:z≤wr.heap.size:=by have:=HZ.out;have:=F1.size;omega
   have HD:=Hi (digits1_any (z+1+1) z (z+1) m v xs BB1 BN1 BK1 hown hz0 hne (by omega) (by omega));go_wp2_with fail
   refine HD.out.mono ?_;rintro e w2 ⟨rfl,v',BB2,own2,hne2,F2⟩;have BN2:=BN1.fr F2 (fun h=>by
    rcases h with h|h
    ·omega
    ·exact(hne z h).2.1 rfl)
   have BK2:=BK1.fr F2 (fun h=>by
    rcases h with h|h
    ·omega
    ·exact(hne (z+1) h).2.2 rfl)
   have G2:=F1.trans' F2 (fun b hb h=>absurd hb (by
    have:=HZ.out;rcases h with h|h
    ·omega
    ·have:=hv b h;omega))
   replace e1:=BN2.cell 0;replace f1:=BN2.frozen 0;replace e2:=BK2.cell 0;simp at e1 e2
   have HO2:=Hi own2;clear e3 BB1 BN1 BK1 hown F1 F2 HD own2 hv;go_wp2_with fail
   go_roundg (m / 256)
   case measure=>rw[HG.out];omega
   case rel=>
    have FS:Fr (fun k=>k=z) w2 (w2.setCell ⟨z,0,none⟩ (.int .i64 ((m:Int) / 256))):=Fr.setCell (S:=fun k=>k=z) (p:=⟨z,0,none⟩) (Fr.refl w2) (fun _=>rfl) _;refine⟨k+1,m / 256,v',xs++[UInt8.ofNat (m % 256)],rfl,by omega,by rw[List.length_append,hxk];rfl,by omega,?_,?_,?_,BK2.fr FS (by omega),BB2.fr FS (by omega),ownsRow_fr HO2.out FS (fun b hb e=>(hne2 b hb).2.1 e),hne2,G2.trans' FS (fun b hb e=>absurd hb (by have:=HZ.out;omega))⟩
    ·rw[HLO.out,List.append_assoc]
     congr 1
     rw[show 4-k=(4-(k+1))+1 from by omega]
     simp only[lowS,if_neg hm0]
     rfl
    ·exact lim_step HK4.out
    ·have:=BN2.set 0 (.int .i64 ((m:Int) / 256))
     simpa using this
def RevOk:Prop:=∀ (w1:World) (base:Nat) (v:Value) (k:Nat) (xs:List UInt8),w1.ownsRow base 5 1 v k (Lib.byteCells xs)→k≤100→Calls Tryz.prog 266 #[v] w1 fun e w2=>e=.returned (.tuple #[])∧w2.ownsRow base 5 1 v k (Lib.byteCells xs.reverse)∧Fr (fun k=>v.ownBlock=some k) w1 w2
theorem length_any (n:Nat)(hn:n≤16777216)(w:World)(hrev:RevOk) :
  Calls Tryz.prog 167 #[.int .i64 n] w fun e w'=>∃ v,e=.returned (.tuple #[v,.int .i64 0])∧w'.ownsRow w.heap.size 5 1 v (lenBytes n).length (Lib.byteCells (lenBytes n))∧Fz w w':=by
 have q1:¬(n:Int)<0:=by omega
 have q2:¬(16777216:Int)<(n:Int):=by omega
 by_cases h1:n<128
 ·have q3:(n:Int)<128:=by omega
  have hw8:IntKind.u8.wrap (n:Int)=(n:Int):=by simp[IntKind.wrap,IntKind.signed,IntKind.bits];omega
  have hL:lenBytes n=[UInt8.ofNat n]:=by simp only[lenBytes,if_pos h1]
  have e:=u8' n (by omega);have BX:=Blk.new w 5 #[.int .u8 ((UInt8.ofNat n).toNat:Int)];have G:Fz w (w.alloc (.cells #[.int .u8 ((UInt8.ofNat n).toNat:Int)] 5)):=(Fr.refl w).alloc _;have ho:=own_bytes (l:=[UInt8.ofNat n]) BX (by simp) w.heap.size (Nat.le_refl _);rw[e]at ho G
  rw[hL]
  have HO:=Hi ho;have HG:=Hi G;clear BX ho G hL e;go_enter Tryz.func167,Tryz.ntmps167
  go_wp2_with fail
  exact bodyPost_ret (v:=.tuple #[.slice (some ⟨w.heap.size,0,none⟩) 1 1,.int .i64 0]) (by simp[results,Tryz.results167,go_sem]) rfl ⟨_,rfl,HO.out,HG.out⟩
 ·have q3:¬(n:Int)<128:=by omega
  have hL:=len_low (by omega) hn;have hlk:=low_len 4 n;obtain⟨d,hd⟩:∃ d,d=(lowS 4 n).reverse:=⟨_,rfl⟩
  obtain⟨k,hk⟩:∃ k,k=(lowS 4 n).length:=⟨_,rfl⟩
  have hdk:d.length=k:=by rw[hd,hk,List.length_reverse]
  rw[←hd,←hk]at hL
  rw[←hk]at hlk
  have hD:=digits_any n hn w hrev;rw[←hd,←hk]at hD
  have HD:=Hi hD;rw[hL]
  have HDK:=Hi hdk;clear hL hd hk hD hdk;go_enter Tryz.func167,Tryz.ntmps167
  go_wp2_with fail
  refine HD.out.mono ?_;rintro e w1 ⟨v,rfl,ho,F1⟩;obtain⟨x,hx⟩:∃ x:UInt8,x=UInt8.ofNat (128+k):=⟨_,rfl⟩
  have hxn:(x.toNat:Int)=128+(k:Int):=by rw[hx,u8' _ (by omega)];omega
  have HX:=Hi hx;have hv:=(Vals.of_own ho).1;have BX:=Blk.new w1 5 #[.int .u8 (x.toNat:Int)];have G:Fz w1 (w1.alloc (.cells #[.int .u8 (x.toNat:Int)] 5)):=(Fr.refl w1).alloc _;have ho2:=own_bytes (l:=[x]) BX (by simp) w.heap.size F1.size;obtain⟨a,cap,rfl,-⟩:=hv.form
  obtain⟨v',w',hr,hown',hF,hat⟩:=append_bytes ho2 a d.length cap d (hv.old G) (by have:=HDK.out;simp;omega) (Nat.le_trans F1.size G.size)
  have HO':=Hi hown';have HG:=Hi (F1.trans (G.trans' hF (fun i hi e=>by simp[Value.ownBlock]at e;omega)));have hlen:d.length=k:=HDK.out;rw[hlen]at hr ⊢
  rw[hxn]at hr
  have HXN:=Hi hxn;obtain⟨a7,c7,rfl,-⟩:=(Vals.of_own hown').1
  clear ho hv BX G ho2 hown' hF hat F1 hxn;generalize (Lib.byteCells ([x]++d)).length=L7 at *
  go_wp2_with (at_builtin;refine wpList_append_run (by rfl) (.tmp 23) (.tmp 24) 32 (by rfl) _ w' (by exact hr) ?_)
  refine bodyPost_ret (v:=.tuple #[.slice a7 L7 c7,.int .i64 0]) (by simp[results,Tryz.results167,go_sem]) rfl ⟨_,rfl,?_,HG.out⟩;have:=HO'.out;rw[←HX.out,show d.length+1=[x].length+d.length from by simp;omega]
  exact this
end Go.Proofs.YteidmhkobmddiaaGreatDoor
namespace Go.Proofs
open Go.Shelf
def Tryz.lays169_ren:Go.Shelf.Ren:=⟨fun|169=>229|n=>n,fun|70=>341|9=>9|0=>0|72=>343|37=>32|127=>388|3=>3|5=>5|n=>n,fun|n=>n⟩
theorem Tryz.lays169:Go.Proofs.Lays.n169 Tryz.prog Tryz.lays169_ren:={
 mixed:=by kernel_rfl
 f169:=Go.Q.fy Tryz.func229
 t0:=Tryz.underlying0
 a0:=Tryz.isAgg0
 z0:=Tryz.sizeOf0
 v0:=Tryz.zeroValue0
 t3:=Tryz.underlying3
 a3:=Tryz.isAgg3
 z3:=Tryz.sizeOf3
 v3:=Tryz.zeroValue3
 t9:=Tryz.underlying9
 a9:=Tryz.isAgg9
 z9:=Tryz.sizeOf9
 v9:=Tryz.zeroValue9
 t37:=Tryz.underlying32
 a37:=Tryz.isAgg32
 z37:=Tryz.sizeOf32
 v37:=Tryz.zeroValue32
 t70:=Tryz.underlying341
 a70:=Tryz.isAgg341
 z70:=Tryz.sizeOf341
 v70:=Tryz.zeroValue341
 t72:=Tryz.underlying343
 a72:=Tryz.isAgg343
 z72:=Tryz.sizeOf343
 v72:=Tryz.zeroValue343
 t127:=Tryz.underlying388
 a127:=Tryz.isAgg388
 z127:=Tryz.sizeOf388
 v127:=Tryz.zeroValue388 }
theorem Tryz.Builder_Extra_169:Builder.Extra Tryz.prog Tryz.lays169_ren:={
 sizeBuilder:=by kernel_rfl
 liesBuilder:=by kernel_rfl
 t5:=Tryz.underlying5
 a5:=Tryz.isAgg5
 z5:=Tryz.sizeOf5
 v5:=Tryz.zeroValue5
 infoByte:=by kernel_rfl
 cellsByte:=by kernel_rfl
 sizeByte:=by kernel_rfl
 neB5:=by decide }
open Go.RowKit in
open Go.RowKit in
open Go.RowKit in
theorem Tryz.Builder_String_any (B b:Nat)(l:List UInt8)(w:World)(h:Lib.IsBuilder 343 5 B b (Lib.byteCells l) w)(hBw:B≤w.heap.size) :
  Calls Tryz.prog 229 #[.pointer (some ⟨b,0,none⟩)] w fun e w'=>e=.returned (.string ⟨l.toArray⟩)∧Below B w w':=Any.Builder_String_any Tryz.lays169 Tryz.Builder_Extra_169 B b l w h hBw
def Tryz.lays241_ren:Go.Shelf.Ren:=⟨fun|241=>273|277=>334|n=>n,fun|70=>341|3=>3|0=>0|72=>343|37=>32|5=>5|n=>n,fun|n=>n⟩
open Go.RowKit in
def Tryz.lays165_ren:Go.Shelf.Ren:=⟨fun|165=>227|240=>272|241=>273|276=>333|277=>334|n=>n,fun|70=>341|3=>3|0=>0|4=>4|9=>9|20=>20|72=>343|37=>32|164=>430|5=>5|n=>n,fun|n=>n⟩
open Go.RowKit in
def Tryz.lays156_ren:Go.Shelf.Ren:=⟨fun|156=>173|165=>227|166=>228|169=>229|240=>272|241=>273|276=>333|277=>334|n=>n,fun|31=>181|9=>9|3=>3|4=>4|0=>0|20=>20|72=>343|76=>347|70=>341|37=>32|75=>346|127=>388|164=>430|5=>5|80=>276|n=>n,fun|n=>n⟩
theorem Tryz.lays156:Go.Proofs.Lays.n156 Tryz.prog Tryz.lays156_ren:={
 mixed:=by kernel_rfl
 f156:=Go.Q.fy Tryz.func173
 f165:=Go.Q.fy Tryz.func227
 f166:=Go.Q.fy Tryz.func228
 f169:=Go.Q.fy Tryz.func229
 f240:=Go.Q.fy Tryz.func272
 f241:=Go.Q.fy Tryz.func273
 f276:=Go.Q.fy Tryz.func333
 f277:=Go.Q.fy Tryz.func334
 t0:=Tryz.underlying0
 a0:=Tryz.isAgg0
 z0:=Tryz.sizeOf0
 v0:=Tryz.zeroValue0
 t3:=Tryz.underlying3
 a3:=Tryz.isAgg3
 z3:=Tryz.sizeOf3
 v3:=Tryz.zeroValue3
 t4:=Tryz.underlying4
 a4:=Tryz.isAgg4
 z4:=Tryz.sizeOf4
 v4:=Tryz.zeroValue4
 t9:=Tryz.underlying9
 a9:=Tryz.isAgg9
 z9:=Tryz.sizeOf9
 v9:=Tryz.zeroValue9
 t20:=Tryz.underlying20
 a20:=Tryz.isAgg20
 z20:=Tryz.sizeOf20
 v20:=Tryz.zeroValue20
 t31:=Tryz.underlying181
 a31:=Tryz.isAgg181
 z31:=Tryz.sizeOf181
 v31:=Tryz.zeroValue181
 t37:=Tryz.underlying32
 a37:=Tryz.isAgg32
 z37:=Tryz.sizeOf32
 v37:=Tryz.zeroValue32
 t70:=Tryz.underlying341
 a70:=Tryz.isAgg341
 z70:=Tryz.sizeOf341
 v70:=Tryz.zeroValue341
 t72:=Tryz.underlying343
 a72:=Tryz.isAgg343
 z72:=Tryz.sizeOf343
 v72:=Tryz.zeroValue343
 t75:=Tryz.underlying346
 a75:=Tryz.isAgg346
 z75:=Tryz.sizeOf346
 v75:=Tryz.zeroValue346
 t76:=Tryz.underlying347
 a76:=Tryz.isAgg347
 z76:=Tryz.sizeOf347
 v76:=Tryz.zeroValue347
 t127:=Tryz.underlying388
 a127:=Tryz.isAgg388
 z127:=Tryz.sizeOf388
 v127:=Tryz.zeroValue388
 t164:=Tryz.underlying430
 a164:=Tryz.isAgg430
 z164:=Tryz.sizeOf430
 v164:=Tryz.zeroValue430 }
theorem Tryz.Builder_Extra_156:Builder.Extra Tryz.prog Tryz.lays156_ren:={
 sizeBuilder:=by kernel_rfl
 liesBuilder:=by kernel_rfl
 t5:=Tryz.underlying5
 a5:=Tryz.isAgg5
 z5:=Tryz.sizeOf5
 v5:=Tryz.zeroValue5
 infoByte:=by kernel_rfl
 cellsByte:=by kernel_rfl
 sizeByte:=by kernel_rfl
 neB5:=by decide }
open Go.RowKit in
theorem Tryz.strings_Join_none (a:Option Addr)(c:Nat)(sep:ByteArray)(w:World) :
  Calls Tryz.prog 173 #[.slice a 0 c,.string sep] w fun e w'=>e=.returned (.string ⟨#[]⟩)∧w'=w:=Any.strings_Join_none Tryz.lays156 Tryz.Builder_Extra_156 a c sep w
open Go.RowKit in
theorem Tryz.strings_Join (bk o c:Nat)(xs:List ByteArray)(sep:ByteArray)(w:World)(hcells:∀ (j:Nat) x,xs[j]? = some x→w.cell? ⟨bk,o+j,none⟩=some (.string x))(hbk:bk<w.heap.size)(hN:xs.length≤140737488355328)(hcap:xs.length≤c)(hlen:(Lib.join (xs.map (·.data.toList)) sep.data.toList).length≤140737488355328) :
  Calls Tryz.prog 173 #[.slice (some ⟨bk,o,none⟩) xs.length c,.string sep] w fun e w'=>e=.returned (.string ⟨(Lib.join (xs.map (·.data.toList)) sep.data.toList).toArray⟩)∧Below w.heap.size w w':=Any.strings_Join Tryz.lays156 Tryz.Builder_Extra_156 bk o c xs sep w hcells hbk hN hcap hlen
def Tryz.lays137_ren:Go.Shelf.Ren:=⟨fun|137=>357|217=>293|266=>347|n=>n,fun|9=>9|5=>5|3=>3|n=>n,fun|n=>n⟩
theorem Tryz.lays137:Go.Proofs.Lays.n137 Tryz.prog Tryz.lays137_ren:={
 mixed:=by kernel_rfl
 f137:=Go.Q.fy Tryz.func357
 f217:=Go.Q.fy Tryz.func293
 f266:=Go.Q.fy Tryz.func347
 t3:=Tryz.underlying3
 a3:=Tryz.isAgg3
 z3:=Tryz.sizeOf3
 v3:=Tryz.zeroValue3
 t5:=Tryz.underlying5
 a5:=Tryz.isAgg5
 z5:=Tryz.sizeOf5
 v5:=Tryz.zeroValue5
 t9:=Tryz.underlying9
 a9:=Tryz.isAgg9
 z9:=Tryz.sizeOf9
 v9:=Tryz.zeroValue9 }
open Go.RowKit in
theorem Tryz.strings_IndexByte (s:ByteArray)(c:Int)(w:World) :
  Calls Tryz.prog 357 #[.string s,.int .u8 c] w fun e w'=>e=.returned (.int .i64 (Lib.indexByte s.data.toList c.toNat.toUInt8))∧w'=w:=Any.strings_IndexByte Tryz.lays137 s c w
open Go.RowKit in
open Go.RowKit in
open Go.RowKit in
open Go.RowKit in
open Go.RowKit in
open Go.RowKit in
def Tryz.lays278_ren:Go.Shelf.Ren:=⟨fun|278=>399|n=>n,fun|37=>32|21=>21|51=>427|4=>4|46=>381|5=>5|n=>n,fun|n=>n⟩
open Go.RowKit in
def Tryz.lays242_ren:Go.Shelf.Ren:=⟨fun|242=>386|278=>399|n=>n,fun|37=>32|21=>21|51=>427|4=>4|5=>5|46=>381|n=>n,fun|n=>n⟩
theorem Tryz.lays242:Go.Proofs.Lays.n242 Tryz.prog Tryz.lays242_ren:={
 mixed:=by kernel_rfl
 f242:=Go.Q.fy Tryz.func386
 f278:=Go.Q.fy Tryz.func399
 t4:=Tryz.underlying4
 a4:=Tryz.isAgg4
 z4:=Tryz.sizeOf4
 v4:=Tryz.zeroValue4
 t5:=Tryz.underlying5
 a5:=Tryz.isAgg5
 z5:=Tryz.sizeOf5
 v5:=Tryz.zeroValue5
 t21:=Tryz.underlying21
 a21:=Tryz.isAgg21
 z21:=Tryz.sizeOf21
 v21:=Tryz.zeroValue21
 t37:=Tryz.underlying32
 a37:=Tryz.isAgg32
 z37:=Tryz.sizeOf32
 v37:=Tryz.zeroValue32
 t46:=Tryz.underlying381
 a46:=Tryz.isAgg381
 z46:=Tryz.sizeOf381
 v46:=Tryz.zeroValue381
 t51:=Tryz.underlying427
 a51:=Tryz.isAgg427
 z51:=Tryz.sizeOf427
 v51:=Tryz.zeroValue427 }
open Go.RowKit in
open Go.RowKit in
open Go.RowKit in
theorem Tryz.utf8_AppendRune_plain (B:Nat)(v:Value)(n:Nat)(xs:List Value)(r:Int)(hr0:-2147483648≤r)(hr1:r≤2147483647)(w:World)(hown:w.ownsRow B 5 1 v n xs)(hlen:n+4≤140737488355328)(hBw:B≤w.heap.size) :
  Calls Tryz.prog 386 #[v,.int .i32 r] w fun e w'=>∃ v',e=.returned v'∧w'.ownsRow B 5 1 v' (n+(Lib.runeCells r).length) (xs++Lib.runeCells r)∧∃ o,(w.alloc o).grownBy w' v.ownBlock:=Any.utf8_AppendRune_plain Tryz.lays242 (by kernel_rfl) B v n xs r hr0 hr1 w hown hlen hBw
def Tryz.lays195_ren:Go.Shelf.Ren:=⟨fun|195=>349|n=>n,fun|9=>9|3=>3|0=>0|4=>4|n=>n,fun|n=>n⟩
open Go.RowKit in
def Tryz.lays129_ren:Go.Shelf.Ren:=⟨fun|129=>332|n=>n,fun|53=>429|3=>3|4=>4|46=>381|5=>5|9=>9|n=>n,fun|n=>n⟩
def Tryz.lays317_ren:Go.Shelf.Ren:=⟨fun|317=>376|n=>n,fun|3=>3|46=>381|n=>n,fun|n=>n⟩
open Go.Lib in
def Tryz.lays318_ren:Go.Shelf.Ren:=⟨fun|318=>377|n=>n,fun|3=>3|4=>4|n=>n,fun|n=>n⟩
open Go.Lib in
def Tryz.lays283_ren:Go.Shelf.Ren:=⟨fun|283=>339|n=>n,fun|3=>3|9=>9|4=>4|n=>n,fun|n=>n⟩
open Go.Lib in
def Tryz.laysM284_ren:Go.Shelf.Ren:=⟨fun|284=>340|129=>332|317=>376|318=>377|n=>n,fun|53=>429|3=>3|212=>470|0=>0|4=>4|46=>381|5=>5|9=>9|n=>n,fun|17=>1|n=>n⟩
open Go.Lib in
def Tryz.lays285_ren:Go.Shelf.Ren:=⟨fun|285=>341|n=>n,fun|37=>32|53=>429|3=>3|4=>4|51=>427|9=>9|5=>5|0=>0|n=>n,fun|n=>n⟩
open Go.RowKit Go.Sort Go.Lib in
def Tryz.laysM246_ren:Go.Shelf.Ren:=⟨fun|246=>283|283=>339|284=>340|285=>341|286=>342|129=>332|317=>376|318=>377|319=>378|320=>379|337=>396|338=>397|n=>n,fun|2=>2|3=>3|9=>9|4=>4|171=>438|0=>0|53=>429|37=>32|5=>5|173=>440|212=>470|51=>427|20=>20|213=>471|46=>381|232=>494|233=>495|n=>n,fun|17=>1|18=>4|19=>5|n=>n⟩
open Go.RowKit Go.Sort Go.Lib in
def Tryz.lays246_ren:Go.Shelf.Ren:=⟨fun|246=>283|283=>339|284=>340|285=>341|286=>342|129=>332|317=>376|318=>377|319=>378|320=>379|337=>396|338=>397|n=>n,fun|2=>2|3=>3|9=>9|4=>4|171=>438|0=>0|53=>429|37=>32|5=>5|173=>440|212=>470|51=>427|20=>20|213=>471|46=>381|232=>494|233=>495|n=>n,fun|17=>1|18=>4|19=>5|n=>n⟩
open Go.RowKit Go.Sort Go.Lib in
def Tryz.laysM243_ren:Go.Shelf.Ren:=⟨fun|243=>239|246=>283|283=>339|284=>340|285=>341|286=>342|129=>332|317=>376|318=>377|319=>378|320=>379|337=>396|338=>397|n=>n,fun|3=>3|9=>9|2=>2|4=>4|171=>438|0=>0|53=>429|37=>32|5=>5|173=>440|212=>470|51=>427|20=>20|213=>471|46=>381|232=>494|233=>495|n=>n,fun|17=>1|18=>4|19=>5|n=>n⟩
open Go.RowKit Go.Sort Go.Lib in
def Tryz.lays243_ren:Go.Shelf.Ren:=⟨fun|243=>239|246=>283|283=>339|284=>340|285=>341|286=>342|129=>332|317=>376|318=>377|319=>378|320=>379|337=>396|338=>397|n=>n,fun|3=>3|9=>9|2=>2|4=>4|171=>438|0=>0|53=>429|37=>32|5=>5|173=>440|212=>470|51=>427|20=>20|213=>471|46=>381|232=>494|233=>495|n=>n,fun|17=>1|18=>4|19=>5|n=>n⟩
open Go.RowKit Go.Sort Go.Lib in
def Tryz.laysM171_ren:Go.Shelf.Ren:=⟨fun|171=>188|243=>239|246=>283|283=>339|284=>340|285=>341|286=>342|129=>332|317=>376|318=>377|319=>378|320=>379|337=>396|338=>397|n=>n,fun|3=>3|9=>9|2=>2|4=>4|171=>438|0=>0|53=>429|37=>32|5=>5|173=>440|212=>470|51=>427|20=>20|213=>471|46=>381|232=>494|233=>495|n=>n,fun|17=>1|18=>4|19=>5|n=>n⟩
theorem Tryz.laysM171:Go.Proofs.LaysM.n171 Tryz.prog Tryz.laysM171_ren:={
 mixed:=by kernel_rfl
 f129:=Go.Q.fy Tryz.func332
 f171:=Go.Q.fy Tryz.func188
 f243:=Go.Q.fy Tryz.func239
 f246:=Go.Q.fy Tryz.func283
 f283:=Go.Q.fy Tryz.func339
 f284:=Go.Q.fy Tryz.func340
 f285:=Go.Q.fy Tryz.func341
 f286:=Go.Q.fy Tryz.func342
 f317:=Go.Q.fy Tryz.func376
 f318:=Go.Q.fy Tryz.func377
 f319:=Go.Q.fy Tryz.func378
 f320:=Go.Q.fy Tryz.func379
 f337:=Go.Q.fy Tryz.func396
 f338:=Go.Q.fy Tryz.func397
 t0:=Tryz.underlying0
 a0:=Tryz.isAgg0
 z0:=Tryz.sizeOf0
 v0:=Tryz.zeroValue0
 t2:=Tryz.underlying2
 a2:=Tryz.isAgg2
 z2:=Tryz.sizeOf2
 v2:=Tryz.zeroValue2
 t3:=Tryz.underlying3
 a3:=Tryz.isAgg3
 z3:=Tryz.sizeOf3
 v3:=Tryz.zeroValue3
 t4:=Tryz.underlying4
 a4:=Tryz.isAgg4
 z4:=Tryz.sizeOf4
 v4:=Tryz.zeroValue4
 t5:=Tryz.underlying5
 a5:=Tryz.isAgg5
 z5:=Tryz.sizeOf5
 v5:=Tryz.zeroValue5
 t9:=Tryz.underlying9
 a9:=Tryz.isAgg9
 z9:=Tryz.sizeOf9
 v9:=Tryz.zeroValue9
 t20:=Tryz.underlying20
 a20:=Tryz.isAgg20
 z20:=Tryz.sizeOf20
 v20:=Tryz.zeroValue20
 t37:=Tryz.underlying32
 a37:=Tryz.isAgg32
 z37:=Tryz.sizeOf32
 v37:=Tryz.zeroValue32
 t46:=Tryz.underlying381
 a46:=Tryz.isAgg381
 z46:=Tryz.sizeOf381
 v46:=Tryz.zeroValue381
 t51:=Tryz.underlying427
 a51:=Tryz.isAgg427
 z51:=Tryz.sizeOf427
 v51:=Tryz.zeroValue427
 t53:=Tryz.underlying429
 a53:=Tryz.isAgg429
 z53:=Tryz.sizeOf429
 v53:=Tryz.zeroValue429
 t171:=Tryz.underlying438
 a171:=Tryz.isAgg438
 z171:=Tryz.sizeOf438
 v171:=Tryz.zeroValue438
 t173:=Tryz.underlying440
 a173:=Tryz.isAgg440
 z173:=Tryz.sizeOf440
 v173:=Tryz.zeroValue440
 t212:=Tryz.underlying470
 a212:=Tryz.isAgg470
 z212:=Tryz.sizeOf470
 v212:=Tryz.zeroValue470
 t213:=Tryz.underlying471
 a213:=Tryz.isAgg471
 z213:=Tryz.sizeOf471
 t232:=Tryz.underlying494
 a232:=Tryz.isAgg494
 z232:=Tryz.sizeOf494
 v232:=Tryz.zeroValue494
 t233:=Tryz.underlying495
 a233:=Tryz.isAgg495
 z233:=Tryz.sizeOf495
 v233:=Tryz.zeroValue495
 g17:=by kernel_rfl
 g18:=by kernel_rfl
 g19:=by kernel_rfl
 i0:=by kernel_rfl
 i2:=by kernel_rfl
 i3:=by kernel_rfl
 i4:=by kernel_rfl
 i5:=by kernel_rfl
 i9:=by kernel_rfl
 i20:=by kernel_rfl
 i37:=by kernel_rfl
 i46:=by kernel_rfl
 i51:=by kernel_rfl
 i53:=by kernel_rfl
 i171:=by kernel_rfl
 i173:=by kernel_rfl
 i212:=by kernel_rfl
 i232:=by kernel_rfl
 i233:=by kernel_rfl
 m17:=by kernel_rfl
 m18:=by kernel_rfl
 m19:=by kernel_rfl }
open Go.RowKit Go.Sort Go.Lib in
theorem Tryz.strconv_Itoa (n:Int)(h0:-9223372036854775808≤n)(h1:n≤9223372036854775807)(w:World)(htab:Lib.TabIs Tryz.prog w "internal/strconv.uint64pow10" .u64 Lib.pow10Tab) :
  Calls Tryz.prog 188 #[.int .i64 n] w fun e w'=>e=.returned (.string ⟨(Lib.itoa n).toArray⟩)∧∃ k os,w'=grow (w.drewN k) os:=Any.strconv_Itoa Tryz.laysM171 n h0 h1 w htab
def Tryz.lays171_ren:Go.Shelf.Ren:=⟨fun|171=>188|243=>239|246=>283|283=>339|284=>340|285=>341|286=>342|129=>332|317=>376|318=>377|319=>378|320=>379|337=>396|338=>397|n=>n,fun|3=>3|9=>9|2=>2|4=>4|171=>438|0=>0|53=>429|37=>32|5=>5|173=>440|212=>470|51=>427|20=>20|213=>471|46=>381|232=>494|233=>495|n=>n,fun|17=>1|18=>4|19=>5|n=>n⟩
open Go.RowKit Go.Sort Go.Lib in
def Tryz.lays217_ren:Go.Shelf.Ren:=⟨fun|217=>293|266=>347|n=>n,fun|9=>9|5=>5|3=>3|n=>n,fun|n=>n⟩
open Go.RowKit Go.Lib in
def Tryz.lays224_ren:Go.Shelf.Ren:=⟨fun|224=>295|n=>n,fun|3=>3|n=>n,fun|n=>n⟩
open Go.RowKit Go.Lib in
def Tryz.lays314_ren:Go.Shelf.Ren:=⟨fun|314=>348|n=>n,fun|9=>9|51=>427|3=>3|4=>4|5=>5|46=>381|n=>n,fun|n=>n⟩
open Go.RowKit Go.Lib in
def Tryz.lays267_ren:Go.Shelf.Ren:=⟨fun|267=>296|314=>348|n=>n,fun|9=>9|3=>3|146=>443|51=>427|4=>4|5=>5|46=>381|n=>n,fun|n=>n⟩
open Go.RowKit Go.Lib in
def Tryz.lays219_ren:Go.Shelf.Ren:=⟨fun|219=>250|217=>293|225=>294|224=>295|267=>296|266=>347|314=>348|n=>n,fun|9=>9|3=>3|4=>4|5=>5|46=>381|146=>443|51=>427|n=>n,fun|1=>0|n=>n⟩
open Go.RowKit Go.Lib in
open Go.RowKit Go.Lib in
def Tryz.lays143_ren:Go.Shelf.Ren:=⟨fun|143=>299|219=>250|217=>293|225=>294|224=>295|267=>296|266=>347|314=>348|n=>n,fun|9=>9|3=>3|4=>4|5=>5|46=>381|146=>443|51=>427|n=>n,fun|1=>0|n=>n⟩
open Go.RowKit Go.Lib in
open Go.RowKit Go.Lib in
def Tryz.lays220_ren:Go.Shelf.Ren:=⟨fun|220=>199|219=>250|217=>293|225=>294|224=>295|267=>296|266=>347|314=>348|n=>n,fun|9=>9|4=>4|3=>3|5=>5|46=>381|146=>443|51=>427|n=>n,fun|1=>0|n=>n⟩
open Go.RowKit Go.Lib in
def Tryz.lays145_ren:Go.Shelf.Ren:=⟨fun|145=>145|220=>199|219=>250|217=>293|225=>294|224=>295|267=>296|266=>347|314=>348|n=>n,fun|9=>9|4=>4|59=>245|3=>3|5=>5|46=>381|146=>443|51=>427|n=>n,fun|1=>0|n=>n⟩
theorem Tryz.lays145:Go.Proofs.Lays.n145 Tryz.prog Tryz.lays145_ren:={
 mixed:=by kernel_rfl
 f145:=Go.Q.fy Tryz.func145
 f217:=Go.Q.fy Tryz.func293
 f219:=Go.Q.fy Tryz.func250
 f220:=Go.Q.fy Tryz.func199
 f224:=Go.Q.fy Tryz.func295
 f225:=Go.Q.fy Tryz.func294
 f266:=Go.Q.fy Tryz.func347
 f267:=Go.Q.fy Tryz.func296
 f314:=Go.Q.fy Tryz.func348
 t3:=Tryz.underlying3
 a3:=Tryz.isAgg3
 z3:=Tryz.sizeOf3
 v3:=Tryz.zeroValue3
 t4:=Tryz.underlying4
 a4:=Tryz.isAgg4
 z4:=Tryz.sizeOf4
 v4:=Tryz.zeroValue4
 t5:=Tryz.underlying5
 a5:=Tryz.isAgg5
 z5:=Tryz.sizeOf5
 v5:=Tryz.zeroValue5
 t9:=Tryz.underlying9
 a9:=Tryz.isAgg9
 z9:=Tryz.sizeOf9
 v9:=Tryz.zeroValue9
 t46:=Tryz.underlying381
 a46:=Tryz.isAgg381
 z46:=Tryz.sizeOf381
 v46:=Tryz.zeroValue381
 t51:=Tryz.underlying427
 a51:=Tryz.isAgg427
 z51:=Tryz.sizeOf427
 v51:=Tryz.zeroValue427
 t59:=Tryz.underlying245
 a59:=Tryz.isAgg245
 z59:=Tryz.sizeOf245
 v59:=Tryz.zeroValue245
 t146:=Tryz.underlying443
 a146:=Tryz.isAgg443
 z146:=Tryz.sizeOf443
 v146:=Tryz.zeroValue443
 g1:=by kernel_rfl }
open Go.RowKit Go.Lib in
theorem Tryz.strings_Cut (s sep:ByteArray)(m:Int)(w:World)(hs:s.size<4294967281)(hm:w.cell? ⟨0,0,none⟩=some (.int .i64 m)) :
  Calls Tryz.prog 145 #[.string s,.string sep] w fun e w'=>e=.returned (.tuple #[.string ⟨(Lib.cut s.data.toList sep.data.toList).1.toArray⟩,.string ⟨(Lib.cut s.data.toList sep.data.toList).2.1.toArray⟩,.bool (Lib.cut s.data.toList sep.data.toList).2.2])∧∃ n,w'=w.drewN n:=Any.strings_Cut Tryz.lays145 s sep m w hs hm
def Tryz.lays138_ren:Go.Shelf.Ren:=⟨fun|138=>298|195=>349|218=>351|143=>299|219=>250|217=>293|225=>294|224=>295|267=>296|266=>347|314=>348|n=>n,fun|9=>9|3=>3|4=>4|5=>5|0=>0|46=>381|146=>443|51=>427|n=>n,fun|1=>0|n=>n⟩
open Go.RowKit Go.Lib in
open Go.RowKit Go.Lib in
def Tryz.laysM219_ren:Go.Shelf.Ren:=⟨fun|219=>250|217=>293|225=>294|224=>295|267=>296|266=>347|314=>348|n=>n,fun|9=>9|3=>3|4=>4|5=>5|46=>381|146=>443|51=>427|n=>n,fun|1=>0|n=>n⟩
open Go.RowKit Go.Lib in
def Tryz.laysM143_ren:Go.Shelf.Ren:=⟨fun|143=>299|219=>250|217=>293|225=>294|224=>295|267=>296|266=>347|314=>348|n=>n,fun|9=>9|3=>3|4=>4|5=>5|46=>381|146=>443|51=>427|n=>n,fun|1=>0|n=>n⟩
open Go.RowKit Go.Lib in
def Tryz.laysM220_ren:Go.Shelf.Ren:=⟨fun|220=>199|219=>250|217=>293|225=>294|224=>295|267=>296|266=>347|314=>348|n=>n,fun|9=>9|4=>4|3=>3|5=>5|46=>381|146=>443|51=>427|n=>n,fun|1=>0|n=>n⟩
open Go.RowKit Go.Lib in
def Tryz.laysM145_ren:Go.Shelf.Ren:=⟨fun|145=>145|220=>199|219=>250|217=>293|225=>294|224=>295|267=>296|266=>347|314=>348|n=>n,fun|9=>9|4=>4|59=>245|3=>3|5=>5|46=>381|146=>443|51=>427|n=>n,fun|1=>0|n=>n⟩
open Go.RowKit Go.Lib in
def Tryz.laysM138_ren:Go.Shelf.Ren:=⟨fun|138=>298|195=>349|218=>351|143=>299|219=>250|217=>293|225=>294|224=>295|267=>296|266=>347|314=>348|n=>n,fun|9=>9|3=>3|4=>4|5=>5|0=>0|46=>381|146=>443|51=>427|n=>n,fun|1=>0|n=>n⟩
open Go.RowKit Go.Lib in
def Tryz.lays190_ren:Go.Shelf.Ren:=⟨fun|190=>225|125=>271|258=>270|128=>331|129=>332|302=>322|303=>323|304=>324|305=>325|306=>326|307=>327|308=>328|309=>329|310=>330|333=>365|329=>366|330=>367|334=>368|335=>369|336=>370|344=>387|n=>n,fun|31=>181|9=>9|3=>3|46=>381|0=>0|51=>427|53=>429|4=>4|183=>420|182=>419|131=>313|5=>5|218=>456|222=>460|228=>475|229=>62|n=>n,fun|n=>n⟩
theorem Tryz.lays190:Go.Proofs.Lays.n190 Tryz.prog Tryz.lays190_ren:={
 mixed:=by kernel_rfl
 f125:=Go.Q.fy Tryz.func271
 f128:=Go.Q.fy Tryz.func331
 f129:=Go.Q.fy Tryz.func332
 f190:=Go.Q.fy Tryz.func225
 f258:=Go.Q.fy Tryz.func270
 f302:=Go.Q.fy Tryz.func322
 f303:=Go.Q.fy Tryz.func323
 f304:=Go.Q.fy Tryz.func324
 f305:=Go.Q.fy Tryz.func325
 f306:=Go.Q.fy Tryz.func326
 f307:=Go.Q.fy Tryz.func327
 f308:=Go.Q.fy Tryz.func328
 f309:=Go.Q.fy Tryz.func329
 f310:=Go.Q.fy Tryz.func330
 f329:=Go.Q.fy Tryz.func366
 f330:=Go.Q.fy Tryz.func367
 f333:=Go.Q.fy Tryz.func365
 f334:=Go.Q.fy Tryz.func368
 f335:=Go.Q.fy Tryz.func369
 f336:=Go.Q.fy Tryz.func370
 f344:=Go.Q.fy Tryz.func387
 t0:=Tryz.underlying0
 a0:=Tryz.isAgg0
 z0:=Tryz.sizeOf0
 v0:=Tryz.zeroValue0
 t3:=Tryz.underlying3
 a3:=Tryz.isAgg3
 z3:=Tryz.sizeOf3
 v3:=Tryz.zeroValue3
 t4:=Tryz.underlying4
 a4:=Tryz.isAgg4
 z4:=Tryz.sizeOf4
 v4:=Tryz.zeroValue4
 t5:=Tryz.underlying5
 a5:=Tryz.isAgg5
 z5:=Tryz.sizeOf5
 v5:=Tryz.zeroValue5
 t9:=Tryz.underlying9
 a9:=Tryz.isAgg9
 z9:=Tryz.sizeOf9
 v9:=Tryz.zeroValue9
 t31:=Tryz.underlying181
 a31:=Tryz.isAgg181
 z31:=Tryz.sizeOf181
 v31:=Tryz.zeroValue181
 t46:=Tryz.underlying381
 a46:=Tryz.isAgg381
 z46:=Tryz.sizeOf381
 v46:=Tryz.zeroValue381
 t51:=Tryz.underlying427
 a51:=Tryz.isAgg427
 z51:=Tryz.sizeOf427
 v51:=Tryz.zeroValue427
 t53:=Tryz.underlying429
 a53:=Tryz.isAgg429
 z53:=Tryz.sizeOf429
 v53:=Tryz.zeroValue429
 t131:=Tryz.underlying313
 a131:=Tryz.isAgg313
 z131:=Tryz.sizeOf313
 v131:=Tryz.zeroValue313
 t182:=Tryz.underlying419
 a182:=Tryz.isAgg419
 z182:=Tryz.sizeOf419
 v182:=Tryz.zeroValue419
 t183:=Tryz.underlying420
 a183:=Tryz.isAgg420
 z183:=Tryz.sizeOf420
 v183:=Tryz.zeroValue420
 t218:=Tryz.underlying456
 a218:=Tryz.isAgg456
 z218:=Tryz.sizeOf456
 v218:=Tryz.zeroValue456
 t222:=Tryz.underlying460
 a222:=Tryz.isAgg460
 z222:=Tryz.sizeOf460
 v222:=Tryz.zeroValue460
 t228:=Tryz.underlying475
 a228:=Tryz.isAgg475
 z228:=Tryz.sizeOf475
 v228:=Tryz.zeroValue475
 t229:=Tryz.underlying62
 a229:=Tryz.isAgg62
 z229:=Tryz.sizeOf62
 v229:=Tryz.zeroValue62 }
open Go.Sort Go.RowKit in
theorem Tryz.slices_Sort_string (blk off cap:Nat)(ss:List (List UInt8))(w:World)(hH:Holds encStr w blk off ss.toArray)(hblk:blk<w.heap.size)(hsz:ss.length<4611686018427387904) :
  Calls Tryz.prog 225 #[.slice (some ⟨blk,off,none⟩) ss.length cap] w fun e w'=>
   e=.returned (.tuple #[])∧∃ n os,w'=grow (putRow encStr (Sort.ahead w n) blk off (ss.mergeSort fun x y=>decide (x≤y)).toArray) os:=Any.slices_Sort_string Tryz.lays190 blk off cap ss w hH hblk hsz
def Tryz.lays222_ren:Go.Shelf.Ren:=⟨fun|222=>345|n=>n,fun|9=>9|5=>5|3=>3|4=>4|n=>n,fun|n=>n⟩
open Go.RowKit Go.Lib in
def Tryz.lays149_ren:Go.Shelf.Ren:=⟨fun|149=>288|222=>345|n=>n,fun|9=>9|5=>5|3=>3|4=>4|n=>n,fun|n=>n⟩
open Go.RowKit Go.Lib in
def Tryz.lays207_ren:Go.Shelf.Ren:=⟨fun|207=>380|n=>n,fun|9=>9|4=>4|3=>3|n=>n,fun|n=>n⟩
open Go.RowKit Go.Lib in
def Tryz.lays209_ren:Go.Shelf.Ren:=⟨fun|209=>343|207=>380|n=>n,fun|9=>9|4=>4|3=>3|n=>n,fun|n=>n⟩
open Go.RowKit Go.Lib in
def Tryz.lays102_ren:Go.Shelf.Ren:=⟨fun|102=>284|209=>343|207=>380|n=>n,fun|9=>9|4=>4|3=>3|n=>n,fun|n=>n⟩
open Go.RowKit Go.Lib in
open Go.RowKit Go.Lib in
def Tryz.lays221_ren:Go.Shelf.Ren:=⟨fun|221=>251|268=>297|138=>298|143=>299|195=>349|197=>350|218=>351|219=>250|260=>381|217=>293|225=>294|224=>295|267=>296|266=>347|314=>348|n=>n,fun|9=>9|3=>3|31=>181|4=>4|0=>0|105=>446|21=>21|5=>5|46=>381|119=>485|139=>488|138=>487|146=>443|51=>427|n=>n,fun|1=>0|3=>2|4=>3|n=>n⟩
open Go.RowKit Go.Lib in
def Tryz.lays146_ren:Go.Shelf.Ren:=⟨fun|146=>200|221=>251|268=>297|138=>298|143=>299|195=>349|197=>350|218=>351|219=>250|260=>381|217=>293|225=>294|224=>295|267=>296|266=>347|314=>348|n=>n,fun|9=>9|31=>181|3=>3|4=>4|0=>0|105=>446|21=>21|5=>5|46=>381|119=>485|139=>488|138=>487|146=>443|51=>427|n=>n,fun|1=>0|3=>2|4=>3|n=>n⟩
theorem Tryz.lays146:Go.Proofs.Lays.n146 Tryz.prog Tryz.lays146_ren:={
 mixed:=by kernel_rfl
 f138:=Go.Q.fy Tryz.func298
 f143:=Go.Q.fy Tryz.func299
 f146:=Go.Q.fy Tryz.func200
 f195:=Go.Q.fy Tryz.func349
 f197:=Go.Q.fy Tryz.func350
 f217:=Go.Q.fy Tryz.func293
 f218:=Go.Q.fy Tryz.func351
 f219:=Go.Q.fy Tryz.func250
 f221:=Go.Q.fy Tryz.func251
 f224:=Go.Q.fy Tryz.func295
 f225:=Go.Q.fy Tryz.func294
 f260:=Go.Q.fy Tryz.func381
 f266:=Go.Q.fy Tryz.func347
 f267:=Go.Q.fy Tryz.func296
 f268:=Go.Q.fy Tryz.func297
 f314:=Go.Q.fy Tryz.func348
 t0:=Tryz.underlying0
 a0:=Tryz.isAgg0
 z0:=Tryz.sizeOf0
 v0:=Tryz.zeroValue0
 t3:=Tryz.underlying3
 a3:=Tryz.isAgg3
 z3:=Tryz.sizeOf3
 v3:=Tryz.zeroValue3
 t4:=Tryz.underlying4
 a4:=Tryz.isAgg4
 z4:=Tryz.sizeOf4
 v4:=Tryz.zeroValue4
 t5:=Tryz.underlying5
 a5:=Tryz.isAgg5
 z5:=Tryz.sizeOf5
 v5:=Tryz.zeroValue5
 t9:=Tryz.underlying9
 a9:=Tryz.isAgg9
 z9:=Tryz.sizeOf9
 v9:=Tryz.zeroValue9
 t21:=Tryz.underlying21
 a21:=Tryz.isAgg21
 z21:=Tryz.sizeOf21
 v21:=Tryz.zeroValue21
 t31:=Tryz.underlying181
 a31:=Tryz.isAgg181
 z31:=Tryz.sizeOf181
 v31:=Tryz.zeroValue181
 t46:=Tryz.underlying381
 a46:=Tryz.isAgg381
 z46:=Tryz.sizeOf381
 v46:=Tryz.zeroValue381
 t51:=Tryz.underlying427
 a51:=Tryz.isAgg427
 z51:=Tryz.sizeOf427
 v51:=Tryz.zeroValue427
 t105:=Tryz.underlying446
 a105:=Tryz.isAgg446
 z105:=Tryz.sizeOf446
 v105:=Tryz.zeroValue446
 t119:=Tryz.underlying485
 a119:=Tryz.isAgg485
 z119:=Tryz.sizeOf485
 t138:=Tryz.underlying487
 a138:=Tryz.isAgg487
 z138:=Tryz.sizeOf487
 v138:=Tryz.zeroValue487
 t139:=Tryz.underlying488
 a139:=Tryz.isAgg488
 z139:=Tryz.sizeOf488
 v139:=Tryz.zeroValue488
 t146:=Tryz.underlying443
 a146:=Tryz.isAgg443
 z146:=Tryz.sizeOf443
 v146:=Tryz.zeroValue443
 g1:=by kernel_rfl
 g3:=by kernel_rfl
 g4:=by kernel_rfl }
open Go.RowKit Go.Lib in
theorem Tryz.strings_Split (s sep:ByteArray)(m:Int)(w:World)(hs:s.size<4294967281)(hm:w.cell? ⟨0,0,none⟩=some (.int .i64 m))(h1:1≤sep.size) :
  Calls Tryz.prog 200 #[.string s,.string sep] w fun e w'=>
   e=.returned (.slice (some ⟨w.heap.size,0,none⟩) (Lib.countB s sep+1) (Lib.countB s sep+1))∧w'=w.alloc (.cells ((Lib.splitB sep 0 (Lib.countB s sep) s).map Value.string).toArray 9):=Any.strings_Split Tryz.lays146 (by kernel_rfl) s sep m w hs hm h1
def Tryz.laysM146_ren:Go.Shelf.Ren:=⟨fun|146=>200|221=>251|268=>297|138=>298|143=>299|195=>349|197=>350|218=>351|219=>250|260=>381|217=>293|225=>294|224=>295|267=>296|266=>347|314=>348|n=>n,fun|9=>9|31=>181|3=>3|4=>4|0=>0|105=>446|21=>21|5=>5|46=>381|119=>485|139=>488|138=>487|146=>443|51=>427|n=>n,fun|1=>0|3=>2|4=>3|n=>n⟩
open Go.RowKit Go.Lib in
def Tryz.lays197_ren:Go.Shelf.Ren:=⟨fun|197=>350|260=>381|n=>n,fun|9=>9|21=>21|3=>3|4=>4|5=>5|105=>446|119=>485|0=>0|46=>381|139=>488|138=>487|n=>n,fun|3=>2|4=>3|n=>n⟩
open Go.RowKit Go.Lib in
open Go.RowKit Go.Lib in
def Tryz.lays268_ren:Go.Shelf.Ren:=⟨fun|268=>297|195=>349|197=>350|260=>381|n=>n,fun|9=>9|3=>3|31=>181|4=>4|105=>446|21=>21|0=>0|5=>5|119=>485|46=>381|139=>488|138=>487|n=>n,fun|3=>2|4=>3|n=>n⟩
open Go.RowKit Go.Lib in
open Go.RowKit Go.Lib in
open Go.RowKit Go.Lib in
def Tryz.lays260_ren:Go.Shelf.Ren:=⟨fun|260=>381|n=>n,fun|9=>9|21=>21|3=>3|4=>4|5=>5|119=>485|0=>0|46=>381|139=>488|138=>487|n=>n,fun|3=>2|4=>3|n=>n⟩
open Go.RowKit Go.Lib in
open Go.RowKit Go.Lib in
def Tryz.lays108_ren:Go.Shelf.Ren:=⟨fun|108=>352|n=>n,fun|28=>27|3=>3|0=>0|4=>4|n=>n,fun|n=>n⟩
open Go.Lib in
open Go.Lib in
def Tryz.lays107_ren:Go.Shelf.Ren:=⟨fun|107=>300|108=>352|n=>n,fun|28=>27|3=>3|4=>4|0=>0|n=>n,fun|n=>n⟩
theorem Tryz.lays107:Go.Proofs.Lays.n107 Tryz.prog Tryz.lays107_ren:={
 mixed:=by kernel_rfl
 f107:=Go.Q.fy Tryz.func300
 f108:=Go.Q.fy Tryz.func352
 t0:=Tryz.underlying0
 a0:=Tryz.isAgg0
 z0:=Tryz.sizeOf0
 v0:=Tryz.zeroValue0
 t3:=Tryz.underlying3
 a3:=Tryz.isAgg3
 z3:=Tryz.sizeOf3
 v3:=Tryz.zeroValue3
 t4:=Tryz.underlying4
 a4:=Tryz.isAgg4
 z4:=Tryz.sizeOf4
 v4:=Tryz.zeroValue4
 t28:=Tryz.underlying27
 a28:=Tryz.isAgg27
 z28:=Tryz.sizeOf27
 v28:=Tryz.zeroValue27 }
open Go.Lib in
theorem Tryz.slices_Contains_int (b off n c:Nat)(zs:List Int)(x:Int)(w:World)(hz:n≤zs.length)(hbig:n≤9223372036854775807)(hc:∀ j,j<zs.length→w.cell? ⟨b,off+j,none⟩=some (.int .i64 (zs.getD j 0))) :
  Calls Tryz.prog 300 #[.slice (some ⟨b,off,none⟩) n c,.int .i64 x] w fun e w'=>e=.returned (.bool ((zs.take n).contains x))∧w'=w:=Any.slices_Contains_int Tryz.lays107 b off n c zs x w hz hbig hc
open Go.Lib in
def Tryz.laysNm215_ren:Go.Shelf.Ren:=⟨fun|15=>113|n=>n,fun|22=>27|3=>3|4=>4|n=>n,fun|n=>n⟩
open Go.RowKit Go.Lib in
open Go.RowKit Go.Lib in
open Go.RowKit Go.Lib in
def Tryz.lays194_ren:Go.Shelf.Ren:=⟨fun|194=>226|n=>n,fun|31=>181|9=>9|3=>3|4=>4|0=>0|n=>n,fun|n=>n⟩
theorem Tryz.lays194:Go.Proofs.Lays.n194 Tryz.prog Tryz.lays194_ren:={
 mixed:=by kernel_rfl
 f194:=Go.Q.fy Tryz.func226
 t0:=Tryz.underlying0
 a0:=Tryz.isAgg0
 z0:=Tryz.sizeOf0
 v0:=Tryz.zeroValue0
 t3:=Tryz.underlying3
 a3:=Tryz.isAgg3
 z3:=Tryz.sizeOf3
 v3:=Tryz.zeroValue3
 t4:=Tryz.underlying4
 a4:=Tryz.isAgg4
 z4:=Tryz.sizeOf4
 v4:=Tryz.zeroValue4
 t9:=Tryz.underlying9
 a9:=Tryz.isAgg9
 z9:=Tryz.sizeOf9
 v9:=Tryz.zeroValue9
 t31:=Tryz.underlying181
 a31:=Tryz.isAgg181
 z31:=Tryz.sizeOf181
 v31:=Tryz.zeroValue181 }
open Go.RowKit Go.Lib Go.Sort in
open Go.RowKit Go.Lib Go.Sort in
theorem Tryz.slices_Compact_string (blk off cap:Nat)(zs:List (List UInt8))(w:World)(hH:Holds encStr w blk off zs.toArray)(hsz:zs.length≤9223372036854775807)(hcap:zs.length≤cap) :
  Calls Tryz.prog 226 #[.slice (some ⟨blk,off,none⟩) zs.length cap] w fun e w'=>e=.returned (.slice (some ⟨blk,off,none⟩) (Lib.compact zs).length cap)∧∃ q,w'=putRow encStr (Sort.ahead w q) blk off (Lib.compact zs++List.replicate (zs.length-(Lib.compact zs).length) []).toArray:=Any.slices_Compact_string Tryz.lays194 blk off cap zs w hH hsz hcap
open Go.RowKit Go.Lib Go.Sort in
theorem Tryz.slices_Compact_string_empty (a:Option Addr)(cap:Nat)(w:World) :
  Calls Tryz.prog 226 #[.slice a 0 cap] w fun e w'=>e=.returned (.slice a 0 cap)∧w'=w:=Any.slices_Compact_string_empty Tryz.lays194 a cap w
open Go.RowKit Go.Sort in
theorem Tryz.slices_Sort_string_none (p:Option Addr)(cap:Nat)(w:World) :
  Calls Tryz.prog 225 #[.slice p 0 cap] w fun e w'=>e=.returned (.tuple #[])∧w'=w:=Any.slices_Sort_string_none Tryz.lays190 p cap w
def Tryz.laysSlE041_f113_ren:Go.Shelf.Ren:=⟨fun|41=>113|n=>n,fun|22=>27|23=>3|4=>4|n=>n,fun|n=>n⟩
open Go.RowKit Go.Lib in
open Go.RowKit Go.Lib in
def Tryz.laysSlE35_f266_ren:Go.Shelf.Ren:=⟨fun|35=>266|n=>n,fun|22=>32|23=>5|3=>3|4=>4|0=>0|n=>n,fun|n=>n⟩
theorem Tryz.laysSlE35_f266:Go.Proofs.SlLaysE.n35 Tryz.prog Tryz.laysSlE35_f266_ren:={
 mixed:=by kernel_rfl
 f35:=⟨Tryz.f266.name,by decide,Tryz.func266.trans (congrArg some (by kernel_rfl))⟩
 t0:=Tryz.underlying0
 a0:=Tryz.isAgg0
 z0:=Tryz.sizeOf0
 v0:=Tryz.zeroValue0
 t3:=Tryz.underlying3
 a3:=Tryz.isAgg3
 z3:=Tryz.sizeOf3
 v3:=Tryz.zeroValue3
 t4:=Tryz.underlying4
 a4:=Tryz.isAgg4
 z4:=Tryz.sizeOf4
 v4:=Tryz.zeroValue4
 t22:=Tryz.underlying32
 a22:=Tryz.isAgg32
 z22:=Tryz.sizeOf32
 v22:=Tryz.zeroValue32
 a23:=Tryz.isAgg5
 z23:=Tryz.sizeOf5 }
open Go.RowKit Go.Lib Go.Sort in
theorem Tryz.slices_Reverse {α:Type}[Inhabited α](enc:α→Value)(h1:OneCell enc)(blk off cap:Nat)(zs:List α)(w:World)(hH:Holds enc w blk off zs.toArray)(hsz:zs.length≤9223372036854775807) :
  Calls Tryz.prog 266 #[.slice (some ⟨blk,off,none⟩) zs.length cap] w fun e w'=>e=.returned (.tuple #[])∧∃ n,w'=putRow enc (Sort.ahead w n) blk off zs.reverse.toArray:=AnyE.slices_Reverse Tryz.laysSlE35_f266 enc h1 blk off cap zs w hH hsz
open Go.RowKit Go.Lib Go.Sort in
theorem Tryz.slices_Reverse_empty (a:Option Addr)(cap:Nat)(w:World) :
  Calls Tryz.prog 266 #[.slice a 0 cap] w fun e w'=>e=.returned (.tuple #[])∧w'=w:=AnyE.slices_Reverse_empty Tryz.laysSlE35_f266 a cap w
end Go.Proofs
namespace Go.Proofs.YteidmhkobmddiaaGreatDoor
open Go Go.RowKit Go.Q
theorem rev_ok:RevOk:=by
 intro w1 base v k xs hown hk;obtain⟨hl,hf⟩:=hown
 rw[byteCells_len,Nat.mul_one]at hl
 subst hl;rcases hf with ⟨rfl,hn⟩|⟨g,cap,cur,rfl,hg,hh,hnc,hcm,hcs,htk⟩
 ·obtain rfl:xs=[]:=List.length_eq_zero_iff.1 hn
  refine(Tryz.slices_Reverse_empty none 0 w1).mono ?_
  rintro e w2 ⟨rfl,rfl⟩;exact⟨rfl,⟨rfl,.inl ⟨rfl,rfl⟩⟩,Fr.refl _⟩
 ·have hH:Sort.Holds (fun x:UInt8=>Value.int .u8 x.toNat) w1 g 0 xs.toArray:=fun j hj=>by
   have hj':j<xs.length:=by simpa using hj
   refine⟨?_,by simp[World.frozen?,hh]⟩
   have e1:cur.toList[j]? = some (Value.int .u8 (xs[j]).toNat):=by
    have:(cur.toList.take (xs.length*1))[j]? = (Lib.byteCells xs)[j]?:=by rw[htk]
    rw[List.getElem?_take,if_pos (by omega)]at this
    rw[this,byteCells_get,List.getElem?_eq_getElem hj']
    rfl
   rw[Nat.zero_add]
   simp only[World.cell?,hh]
   rw[show (xs.toArray)[j]! = xs[j] from by simp[hj']]
   simpa using e1
  refine(Tryz.slices_Reverse (fun x:UInt8=>Value.int .u8 x.toNat) (fun _=>rfl) g 0 cap xs w1 hH (by omega)).mono ?_
  rintro e w2 ⟨rfl,n,rfl⟩;have hg2:(Sort.putRow (fun x:UInt8=>Value.int .u8 x.toNat) (Sort.ahead w1 n) g 0 xs.reverse.toArray).heap[g]? = some (.cells (Sort.putCells (fun x:UInt8=>Value.int .u8 x.toNat) 0 xs.reverse.toArray cur) 5 (0,0)):=by
   have hh':(Sort.ahead w1 n).heap[g]? = some (.cells cur 5 (0,0)):=hh;unfold Sort.putRow Sort.mapBlock;simp only[Array.getElem?_modify,if_true,hh',Option.map_some]
   rfl
  refine⟨rfl,⟨by rw[byteCells_len,List.length_reverse,Nat.mul_one],.inr ⟨g,cap,_,rfl,hg,hg2,hnc,hcm,by simp[Sort.putCells];omega,?_⟩⟩,⟨rfl,rfl,rfl,by simp[Sort.ahead],fun k _ hkg=>?_⟩⟩
  ·apply List.ext_getElem?
   intro j;rw[List.getElem?_take,byteCells_get]
   split
   ·rename_i hj
    have hj':j<xs.length:=by omega
    have hjc:j<cur.size:=by omega
    simp only[Sort.putCells,Array.getElem?_toList,Array.getElem?_mapIdx]
    rw[Array.getElem?_eq_getElem hjc]
    simp only[Option.map_some,Nat.zero_le,true_and,Nat.zero_add,Nat.sub_zero]
    rw[if_pos (by simpa using hj')]
    rw[show (xs.reverse.toArray)[j]! = (xs.reverse)[j]'(by simpa using hj') from by simp[hj']]
    rw[List.getElem?_eq_getElem (by simpa using hj')]
    rfl
   ·rename_i hj
    rw[List.getElem?_eq_none (by rw[List.length_reverse];omega)]
    rfl
  ·have hne:g≠k:=fun e=>hkg (by simp[Value.ownBlock,e])
   unfold Sort.putRow Sort.mapBlock;simp only[Array.getElem?_modify,if_neg hne]
   rfl
theorem len_small (n:Nat)(_h:n≤16777216):(lenBytes n).length≤5:=by
 unfold lenBytes;split
 ·simp
 split
 ·simp
 split
 ·simp
 split<;>simp
theorem wrap_any (t:Tag)(ht:tagGood t)(v:Value)(ls:List (List UInt8))(w:World)(hp:Parts w v ls)(hl:ls.flatten.length≤16777216)(hn:ls.length≤1000) :
  Calls Tryz.prog 103 #[tagV t,v] w fun e w'=>∃ v',e=.returned (.tuple #[v',.int .i64 0])∧w'.ownsRow w.heap.size 5 1 v' (wrapS t ls.flatten).length (Lib.byteCells (wrapS t ls.flatten))∧Fz w w':=by
 obtain⟨a,cap,rfl,-⟩:=hp.form
 have HP:=Hi hp;have HT:=Hi ht;obtain⟨c,n,m⟩:=t
 have B:=Blk.new w 201 #[.int .i64 c,.int .i64 n,.bool m];have F0:Fz w (w.alloc (.cells #[.int .i64 c,.int .i64 n,.bool m] 201)):=(Fr.refl w).alloc _;obtain⟨z,hz⟩:∃ z,z=w.heap.size:=⟨_,rfl⟩
 rw[←hz]at B
 have HZ:=Hi hz;clear hz hp ht;rw[show tagV ⟨c,n,m⟩=.agg #[.int .i64 c,.int .i64 n,.bool m] from rfl]
 go_enter Tryz.func103,Tryz.ntmps103
 go_upto_region 1 with fail
 rw[←HZ.out]
 generalize (w.alloc (.cells #[.int .i64 c,.int .i64 n,.bool m] 201))=w0 at *
 have S:=B.cell;go_wp2_with fail
 refine(headBytes_any ⟨c,n,m⟩ HT.out w0).mono ?_
 rintro e w1 ⟨vb,rfl,hob,F1⟩;have G1:=F0.trans F1;have hob':=own_le hob F0.size;obtain⟨ab,cb,rfl,-⟩:=(Vals.of_own hob').1.form
 have HOB:=Hi hob';clear hob hob' F0 F1 B S;go_wp2_with fail
 have HPP:=Hi (HP.out.old G1);go_loopg [8,25] ls.length (fun g s i wr=>∃ j:Nat,g=ls.length-j∧j≤ls.length∧s=.int .i64 (ls.take j).flatten.length∧i=.int .i64 j∧wr=w1)
 case atStart=>exact⟨0,rfl,by omega,rfl,rfl,rfl⟩
 case round=>
  obtain⟨j,hg,hj,rfl,rfl,rfl⟩:=hrel
  have HG:=Hi hg;clear hg;by_cases hjl:j<ls.length
  ·obtain⟨a',cap',he,hx⟩:=HPP.out.form
   simp only[Value.slice.injEq,true_and]at he
   obtain⟨rfl,rfl⟩:=he
   obtain⟨b,o,rfl,hy⟩:=hx (by omega)
   obtain⟨l,hlj⟩:∃ l,ls[j]? = some l:=⟨_,List.getElem?_eq_getElem hjl⟩
   obtain⟨p,cc,ec,-⟩:=hy j l hlj
   have hft:=congrArg List.length (flat_take hlj);rw[List.length_append]at hft
   have hfl:=flat_le ls (j+1);generalize (ls.take j).flatten.length=s0 at *
   generalize hs1:(ls.take (j+1)).flatten.length=s1 at *
   have HS:=Hi hs1;have q1:(0:Int)≤(j:Int):=by omega
   have q2:(j:Int)<(ls.length:Int):=by omega
   have q3:¬(16777216:Int)<(s0:Int)+(l.length:Int):=by omega
   clear hx hy hlj hs1;go_wp2_with fail
   go_roundg (ls.length-(j+1))
   case measure=>rw[HG.out];omega
   case rel=>exact⟨j+1,rfl,by omega,by rw[HS.out];go_num,by go_num,rfl⟩
  ·have hj':(ls.take j).flatten=ls.flatten:=by rw[List.take_of_length_le (by omega)]
   rw[hj']
   obtain⟨N,hN⟩:∃ N,N=ls.flatten.length:=⟨_,rfl⟩
   rw[←hN]at hl ⊢
   have HN:=Hi hN;have HLE:=Hi (length_any N hl wr rev_ok);clear hN hj';go_wp2_with fail
   refine HLE.out.mono ?_;rintro e w2 ⟨vd,rfl,hod,F2⟩;have G2:=G1.trans F2;have hb0:w.heap.size≤w2.heap.size:=G2.size;have ho1:=ownsRow_fr HOB.out F2 (fun _ _ h=>h);have hvd:=(Vals.of_own hod).1;obtain⟨ad,cd,rfl,-⟩:=hvd.form
   obtain⟨v3,w3,hr3,ho3,F3,_⟩:=append_bytes ho1 ad _ cd (lenBytes N) hvd (by have:=len_small N hl;simp;omega) hb0
   have hvb:=(Vals.of_own ho1).2;have G3:=G2.trans' F3 (fun i hi e=>absurd hi (by have:=hvb i e;omega));have hll:(Lib.byteCells (lenBytes N)).length=(lenBytes N).length:=byteCells_len _;obtain⟨a3,c3,rfl,-⟩:=(Vals.of_own ho3).1
   have HO3:=Hi ho3;have HG3:=Hi G3;clear hod G2 ho1 hvd ho3 F3 hvb G3 F2 HLE;generalize (Lib.byteCells ([tagByte ⟨c,n,m⟩]++lenBytes N)).length=L3 at *
   go_wp2_with (at_builtin;refine wpList_append_run (by rfl) (.tmp 41) (.tmp 42) 32 (by rfl) _ w3 (by exact hr3) ?_)
   have HP3:=Hi (HP.out.old HG3.out);clear HPP HG HOB hr3 hll;go_loopg [6,46] ls.length (fun g s i wr=>∃ (j:Nat) (a6:Option Addr) (n6 c6:Nat),g=ls.length-j∧j≤ls.length∧s=.slice a6 n6 c6∧i=.int .i64 j∧wr.ownsRow w.heap.size 5 1 (.slice a6 n6 c6) (1+(lenBytes N).length+(ls.take j).flatten.length) (Lib.byteCells (([tagByte ⟨c,n,m⟩]++lenBytes N)++(ls.take j).flatten))∧Fz w wr)
   case atStart=>exact⟨0,a3,L3,c3,rfl,by omega,rfl,rfl,by simpa using HO3.out,HG3.out⟩
   case round=>
    obtain⟨j,a6,n6,c6,hg,hj,rfl,rfl,ho6,G6⟩:=hrel
    have HG:=Hi hg;clear hg;by_cases hjl:j<ls.length
    ·obtain⟨a',cap',he,hx⟩:=(HP.out.old G6).form
     simp only[Value.slice.injEq,true_and]at he
     obtain⟨rfl,rfl⟩:=he
     obtain⟨b,o,rfl,hy⟩:=hx (by omega)
     obtain⟨l,hlj⟩:∃ l,ls[j]? = some l:=⟨_,List.getElem?_eq_getElem hjl⟩
     obtain⟨p,cc,ec,hbl⟩:=hy j l hlj
     have hft:=flat_take hlj;have hft2:=congrArg List.length hft;rw[List.length_append]at hft2
     have hfl:=flat_le ls (j+1);have hb0:w.heap.size≤wr.heap.size:=G6.size;obtain⟨v7,w7,hr7,ho7,F7,_⟩:=append_bytes ho6 p _ cc l hbl (by have:=len_small N hl;have:=HN.out;omega) hb0
     have hvb:=(Vals.of_own ho6).2;have G7:=G6.trans' F7 (fun i hi e=>absurd hi (by have:=hvb i e;omega));rw[List.append_assoc,←hft,Nat.add_assoc,←hft2]at ho7
     have HO7:=Hi ho7;have HG7:=Hi G7;obtain⟨a7,c7,rfl,-⟩:=(Vals.of_own ho7).1
     have q1:(0:Int)≤(j:Int):=by omega
     have q2:(j:Int)<(ls.length:Int):=by omega
     clear hx hy hlj hft hft2 hfl ho6 ho7 F7 hvb G6 G7 hbl;generalize (Lib.byteCells ([tagByte ⟨c,n,m⟩]++lenBytes N++(ls.take (j+1)).flatten)).length=L7 at *
     go_wp2_with (at_builtin;refine wpList_append_run (by rfl) (.tmp 50) (.tmp 51) 32 (by rfl) _ w7 (by exact hr7) ?_)
     go_roundg (ls.length-(j+1))
     case measure=>rw[HG.out];omega
     case rel=>exact⟨j+1,a7,L7,c7,rfl,by omega,rfl,by go_num,HO7.out,HG7.out⟩
    ·have hj':(ls.take j).flatten=ls.flatten:=by rw[List.take_of_length_le (by omega)]
     rw[hj']at ho6
     have HO6:=Hi ho6;have HG6:=Hi G6;clear ho6 G6 hj' HP;go_wp2_with fail
     refine bodyPost_ret (v:=.tuple #[.slice a6 n6 c6,.int .i64 0]) (by simp[results,Tryz.results103,go_sem]) rfl ⟨_,rfl,?_,HG6.out⟩;have:=HO6.out;rw[wrap_len,←HN.out]
     have e:wrapS ⟨c,n,m⟩ ls.flatten=[tagByte ⟨c,n,m⟩]++lenBytes N++ls.flatten:=by rw[wrapS,←HN.out];simp
     rw[e]
     rw[←HN.out]at this
     exact this
theorem oidRight_any (v:Value)(o:List Int)(w:World)(h:Ints w v o) :
  Calls Tryz.prog 202 #[v] w fun e w'=>e=.returned (.bool (oidOk o))∧w=w':=by
 obtain⟨a,cap,rfl,hc,hm,hx⟩:=Ints.form h
 have HX:=Hi hx;clear h hx;rcases Classical.em (2≤o.length∧o.length≤32) with hl|hl
 ·obtain⟨hl1,hl2⟩:=hl
  have q1:decide ((o.length:Int)<2)=false:=decide_eq_false (by omega);have q2:decide ((32:Int)<(o.length:Int))=false:=decide_eq_false (by omega);go_enter Tryz.func202,Tryz.ntmps202
  go_wp2_with fail
  go_loopg [15] o.length (fun g i wr=>∃ j:Nat,g=o.length-j∧j≤o.length∧i=.int .i64 j∧(o.take j).all arcOk=true∧wr=w)
  case atStart=>exact⟨0,rfl,by omega,rfl,rfl,rfl⟩
  case round=>
   obtain⟨j,hg,hj,rfl,hall,rfl⟩:=hrel
   have HG:=Hi hg;have HA:=Hi hall;clear hg hall;obtain⟨b,off,rfl,hy⟩:=HX.out (by omega)
   by_cases hjl:j<o.length
   ·obtain⟨x,hxj⟩:∃ x,o[j]? = some x:=⟨_,List.getElem?_eq_getElem hjl⟩
    have ex:=hy j x hxj;have hat:(o.take (j+1)).all arcOk=((o.take j).all arcOk&&arcOk x):=by
     rw[List.take_add_one,hxj]
     simp
    have HAT:=Hi hat;have q3:(0:Int)≤(j:Int):=by omega
    have q4:(j:Int)<(o.length:Int):=by omega
    have hbad:arcOk x=false→oidOk o=false:=fun hb=>by
     have:o.all arcOk=false:=by
      rw[List.all_eq_false]
      exact⟨x,List.mem_of_getElem? hxj,by simp[hb]⟩
     simp[oidOk,this]
    have HB:=Hi hbad;clear hy hxj hat hbad;rcases Classical.em (x<0) with h0|h0
    ·have q5:decide (x<0)=true:=decide_eq_true h0
     go_wp2_with fail
     go_ret;exact⟨by rw[HB.out (by simp[arcOk];omega)];rfl,rfl⟩
    ·have q5:decide (x<0)=false:=decide_eq_false h0
     rcases Classical.em ((2147483647:Int)<x) with h1|h1
     ·have q6:decide ((2147483647:Int)<x)=true:=decide_eq_true h1
      go_wp2_with fail
      go_ret;exact⟨by rw[HB.out (by simp[arcOk];omega)];rfl,rfl⟩
     ·have q6:decide ((2147483647:Int)<x)=false:=decide_eq_false h1
      go_wp2_with fail
      go_roundg (o.length-(j+1))
      case measure=>rw[HG.out];omega
      case rel=>exact⟨j+1,rfl,by omega,by go_num,by rw[HAT.out,HA.out];simp[arcOk];omega,rfl⟩
   ·have hall:o.all arcOk=true:=by
     have:=HA.out;rwa[List.take_of_length_le (by omega)]at this
    obtain⟨x0,hx0⟩:∃ x,o[0]? = some x:=⟨_,List.getElem?_eq_getElem (by omega)⟩
    obtain⟨x1,hx1⟩:∃ x,o[1]? = some x:=⟨_,List.getElem?_eq_getElem (by omega)⟩
    have e0:=hy 0 x0 hx0;have e1:=hy 1 x1 hx1;have hE:oidOk o=twoOk x0 x1:=by
     simp[oidOk,hall,hl1,hl2,List.getD,hx0,hx1]
    have HE:=Hi hE;have z1:(1:Int)<(o.length:Int):=by omega
    have z0:(0:Int)<(o.length:Int):=by omega
    simp only[Nat.add_zero]at e0
    clear hy hx0 hx1 hall hE HA HX;rcases Classical.em (x0=0) with h0|h0
    ·subst h0
     go_wp2_with fail
     go_ret;exact⟨by rw[HE.out];simp[twoOk],rfl⟩
    ·have p0:(x0==0)=false:=beq_eq_false_iff_ne.2 h0
     rcases Classical.em (x0=1) with h1|h1
     ·subst h1
      go_wp2_with fail
      go_ret;exact⟨by rw[HE.out];simp[twoOk],rfl⟩
     ·have p1:(x0==1)=false:=beq_eq_false_iff_ne.2 h1
      rcases Classical.em (x0=2) with h2|h2
      ·subst h2
       go_wp2_with fail
       go_ret;exact⟨by rw[HE.out];simp[twoOk],rfl⟩
      ·have p2:(x0==2)=false:=beq_eq_false_iff_ne.2 h2
       go_wp2_with fail
       go_ret;exact⟨by rw[HE.out];simp[twoOk,h0,h1,h2],rfl⟩
 ·have hE:oidOk o=false:=by simp[oidOk];omega
  have HE:=Hi hE;rcases Classical.em (o.length<2) with h2|h2
  case' inl=>have q1:decide ((o.length:Int)<2)=true:=decide_eq_true (by omega)
  case' inr=>
   have q1:decide ((o.length:Int)<2)=false:=decide_eq_false (by omega);have q2:decide ((32:Int)<(o.length:Int))=true:=decide_eq_true (by omega)
  all_goals
   clear hE hl HX;go_enter Tryz.func202,Tryz.ntmps202
   go_wp2_with fail
   go_ret;exact⟨by rw[HE.out];rfl,rfl⟩
end Go.Proofs.YteidmhkobmddiaaGreatDoor
