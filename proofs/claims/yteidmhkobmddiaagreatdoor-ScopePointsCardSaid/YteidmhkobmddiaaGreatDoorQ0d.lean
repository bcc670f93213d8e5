/-
  Merged by program: XNOid2 XNOid3 XNOid4 XNOid5 XNOne XNWhS XNWhW XNName1 XNCmp.
-/
import Derived.Test.YteidmhkobmddiaaGreatDoorQ0c
set_option linter.unusedSimpArgs false
set_option maxRecDepth 100000
set_option maxHeartbeats 8000000
namespace Go.Q
open Go
def up7:Nat→Nat→List UInt8
 |0,_=>[]
 |f+1,n=>if n=0 then [] else UInt8.ofNat (n % 128+128)::up7 f (n / 128)
def base128 (n:Nat):List UInt8:=(UInt8.ofNat (n % 128)::up7 5 (n / 128)).reverse
def lim7:Nat→Nat
 |0=>16777216
 |1=>131072
 |2=>1024
 |3=>8
 |_=>0
theorem lim7_le {m k:Nat}(h:m≤lim7 k):m≤16777216:=by
 match k,h with
 |0,h=>simp only[lim7]at h;omega
 |1,h=>simp only[lim7]at h;omega
 |2,h=>simp only[lim7]at h;omega
 |3,h=>simp only[lim7]at h;omega
 |k+4,h=>simp only[lim7]at h;omega
theorem lim7_step {m k:Nat}(h:m≤lim7 k):m / 128≤lim7 (k+1):=by
 match k,h with
 |0,h=>simp only[lim7]at h ⊢;omega
 |1,h=>simp only[lim7]at h ⊢;omega
 |2,h=>simp only[lim7]at h ⊢;omega
 |3,h=>simp only[lim7]at h ⊢;omega
 |k+4,h=>simp only[lim7]at h ⊢;omega
theorem readTag_pos {l:List UInt8}{t:Tag}{k:Nat}(h:readTagS l=.ok (t,k)):1≤k:=by
 cases l with
 |nil=>simp[readTagS]at h
 |cons x r=>
  simp only[readTagS]at h
  split at h
  ·simp only[Except.ok.injEq,Prod.mk.injEq]at h
   omega
  ·split at h
   ·cases h
   ·simp only[Except.ok.injEq,Prod.mk.injEq]at h
    omega
theorem readS_pos {l:List UInt8}{t:Tag}{n k:Nat}(h:readS l=.ok (t,n,k)):1≤k:=by
 unfold readS at h;split at h
 ·cases h
 ·rename_i t' k' he
  have:=readTag_pos he;split at h
  ·cases h
  ·simp only[Except.ok.injEq,Prod.mk.injEq]at h
   omega
theorem oneS_pos {l:List UInt8}{t:Tag}{k n:Nat}(h:oneS l=.ok (t,k,n)):1≤n:=by
 unfold oneS at h;split at h
 ·cases h
 ·rename_i u m k' he
  have:=readS_pos he;split at h
  ·cases h
  ·simp only[Except.ok.injEq,Prod.mk.injEq]at h
   omega
theorem wholes_fuel:∀ (f g:Nat) (l:List UInt8),l.length≤f→l.length≤g→wholesS f l=wholesS g l:=by
 intro f;induction f with
 |zero=>
  intro g l h _;obtain rfl:l=[]:=List.length_eq_zero_iff.1 (by omega)
  rw[wholes_nil,wholes_nil]
 |succ f ih=>
  intro g l h h2;cases l with
  |nil=>rw[wholes_nil,wholes_nil]
  |cons x t=>
   simp only[List.length_cons]at h h2
   obtain⟨g,rfl⟩:∃ g',g=g'+1:=⟨g-1,by omega⟩
   simp only[wholesS]
   cases ho:oneS (x::t) with
   |error e=>rfl
   |ok v=>
    obtain⟨u,k,n⟩:=v
    have hp:=oneS_pos ho;have hl:((x::t).drop n).length≤t.length:=by simp only[List.length_drop,List.length_cons];omega
    simp only
    rw[ih g _ (by omega) (by omega)]
def allS (l:List UInt8):Except Int (List (List UInt8)):=wholesS l.length l
theorem allS_nil:allS []=.ok []:=rfl
theorem allS_err {l:List UInt8}{e:Int}(h0:l≠[])(h:oneS l=.error e):allS l=.error e:=by
 cases l with
 |nil=>exact absurd rfl h0
 |cons x t=>simp only[allS,List.length_cons,wholesS,h]
theorem allS_ok {l:List UInt8}{t:Tag}{k n:Nat}(h0:l≠[])(h:oneS l=.ok (t,k,n)):allS l=match allS (l.drop n) with|.error e=>.error e|.ok r=>.ok (l.take n::r):=by
 cases l with
 |nil=>exact absurd rfl h0
 |cons x s=>
  have hp:=oneS_pos h;simp only[allS,List.length_cons,wholesS,h]
  rw[wholes_fuel s.length ((x::s).drop n).length _ (by simp only[List.length_drop,List.length_cons];omega) (Nat.le_refl _)]
  all_goals (cases wholesS ((x::s).drop n).length ((x::s).drop n)<;>rfl)
open Go Go.RowKit
def partS:List UInt8→List UInt8→Nat
 |x::a,y::b=>if x=y then partS a b+1 else 0
 |_,_=>0
theorem partS_le:∀ (a b:List UInt8),partS a b≤a.length∧partS a b≤b.length
 | [],b=>by simp[partS]
 |x::a,[]=>by simp[partS]
 |x::a,y::b=>by
  have:=partS_le a b;simp only[partS]
  split<;>simp only[List.length_cons]<;>omega
theorem partS_uniq:∀ (n:Nat) (a b:List UInt8),n≤a.length→n≤b.length→(∀ i,i<n→a[i]? = b[i]?)→(n<a.length→n<b.length→a[n]?≠b[n]?)→partS a b=n
 |0,[],b,_,_,_,_=>by simp[partS]
 |0,x::a,[],_,_,_,_=>by simp[partS]
 |0,x::a,y::b,_,_,_,h=>by
  have:=h (by simp) (by simp);simp only[List.getElem?_cons_zero,ne_eq,Option.some.injEq]at this
  simp only[partS,if_neg this]
 |n+1,[],b,h,_,_,_=>by simp at h
 |n+1,x::a,[],_,h,_,_=>by simp at h
 |n+1,x::a,y::b,h1,h2,h3,h4=>by
  have h0:=h3 0 (by omega);simp only[List.getElem?_cons_zero,Option.some.injEq]at h0
  simp only[List.length_cons]at h1 h2 h4
  have:=partS_uniq n a b (by omega) (by omega) (fun i hi=>by have:=h3 (i+1) (by omega);simpa only [List.getElem?_cons_succ] using this) (fun g1 g2=>by have:=h4 (by omega) (by omega);simpa only [List.getElem?_cons_succ] using this);simp only[partS,if_pos h0,this]
def cmpS:List UInt8→List UInt8→Int
 | [],[]=>0
 | [],_::_=>-1
 |_::_,[]=>1
 |x::a,y::b=>if x=y then cmpS a b else if x.toNat<y.toNat then -1 else 1
theorem cmpS_part:∀ (a b:List UInt8),cmpS a b=if partS a b<a.length∧partS a b<b.length then (if (a.getD (partS a b) 0).toNat<(b.getD (partS a b) 0).toNat then -1 else 1) else if partS a b<b.length then -1 else if partS a b<a.length then 1 else 0
 | [],[]=>by simp[partS,cmpS]
 | [],y::b=>by simp[partS,cmpS]
 |x::a,[]=>by simp[partS,cmpS]
 |x::a,y::b=>by
  have ih:=cmpS_part a b;simp only[partS,cmpS]
  by_cases h:x=y
  ·simp only[if_pos h,ih,List.length_cons,Nat.add_lt_add_iff_right,List.getD_cons_succ]
  ·simp[if_neg h]
end Go.Q
namespace Go.Proofs.YteidmhkobmddiaaGreatDoor
open Go Go.RowKit Go.Q
theorem append_ints {w:World}{base n:Nat}{v:Value}{xs:List Int}(hown:w.ownsRow base 3 1 v n (intCells xs))(sp:Option Addr)(m c:Nat)(l:List Int)(hsrc:Ints w (.slice sp m c) l)(hsz:n+m≤439804651110)(hb:base≤w.heap.size) :
  ∃ v' w',(Builtin.append_ #[27,27] 27 #[v,.slice sp m c]).run Tryz.prog w=.ok v' w'∧w'.ownsRow base 3 1 v' (n+m) (intCells (xs++l))∧Fr (fun k=>v.ownBlock=some k) w w'∧(v'.ownBlock=v.ownBlock∨v'.ownBlock=some w.heap.size):=by
 obtain⟨i0,hi0,hz0,hz1,hz2⟩:=info_parts info3
 obtain⟨a,cap,he,hc,hm,hx⟩:=hsrc
 rw[intCells_len]at he hc hx
 simp only[Value.slice.injEq]at he
 obtain⟨rfl,rfl,rfl⟩:=he
 rw[intCells_append]
 cases sp with
 |none=>
  have hl:l.length=0:=by
   rcases Nat.eq_zero_or_pos l.length with h|h
   ·exact h
   ·obtain⟨b,o,h,_⟩:=hx h
    cases h
  obtain rfl:l=[]:=List.length_eq_zero_iff.1 hl
  have hr:(Builtin.append_ #[27,27] 27 #[v,.slice none 0 c]).run Tryz.prog w=.ok v w:=by
   rcases hown.2 with ⟨rfl,rfl⟩|⟨g,cap,cur,rfl,_,_,hnc,_⟩
   ·simp[Builtin.append_,run_underlying (P:=Tryz.prog) (w:=w) Tryz.underlying27,sizeOf,typeInfo,hi0,Builtin.lenOf,Builtin.firstCells]
   ·simp[Builtin.append_,run_underlying (P:=Tryz.prog) (w:=w) Tryz.underlying27,sizeOf,typeInfo,hi0,Builtin.lenOf,Builtin.firstCells,hnc,storeCells]
  refine⟨v,w,hr,?_,Fr.refl w,.inl rfl⟩
  simpa [intCells] using hown
 |some ad=>
  obtain⟨v',w',hr,h1,h2,_,h3⟩:=run_append_own_at (P:=Tryz.prog) w base 27 27 3 i0 _ 1 8 Tryz.underlying27 hi0 hz0 hz1 hz2 rfl (by decide) v n (intCells xs) hown ad l.length c (intCells l) (by rw[intCells_len,Nat.mul_one]) (fun j u hu=>by
   have hj:j<l.length:=by rw[←intCells_len l];exact(List.getElem?_eq_some_iff.1 hu).1
   obtain⟨b,o,h,hy⟩:=hx (by omega)
   cases h
   rw[show (⟨b,o,none⟩:Addr).add j=⟨b,o+j,none⟩ from by unfold Addr.add;split<;>simp_all]
   exact hy j u hu) (intCells_one l) (by unfold maxLen;omega) (by omega) hb
  exact⟨v',w',hr,h1,Fr.of_grown h2,h3⟩
def numsS (o:List Int):List Int:=(40*o.getD 0 0+o.getD 1 0)::o.drop 2
theorem numbers_any (v:Value)(o:List Int)(w:World)(h:Ints w v o)(ho:oidOk o=true) :
  Calls Tryz.prog 308 #[v] w fun e w'=>∃ v',e=.returned v'∧Ints w' v' (numsS o)∧(∀ k,v'.ownBlock=some k→w.heap.size≤k)∧Fz w w':=by
 obtain⟨a,cap,rfl,hc,hm,hx⟩:=Ints.form h
 simp only[oidOk,Bool.and_eq_true,decide_eq_true_eq]at ho
 obtain⟨⟨⟨hl1,hl2⟩,hall⟩,-⟩:=ho
 obtain⟨b,off,rfl,hy⟩:=hx (by omega)
 obtain⟨x0,hx0⟩:∃ x,o[0]? = some x:=⟨_,List.getElem?_eq_getElem (by omega)⟩
 obtain⟨x1,hx1⟩:∃ x,o[1]? = some x:=⟨_,List.getElem?_eq_getElem (by omega)⟩
 have e0:=hy 0 x0 hx0;have e1:=hy 1 x1 hx1;simp only[Nat.add_zero]at e0
 have a0:arcOk x0=true:=List.all_eq_true.1 hall x0 (List.mem_of_getElem? hx0);have a1:arcOk x1=true:=List.all_eq_true.1 hall x1 (List.mem_of_getElem? hx1);simp only[arcOk,decide_eq_true_eq]at a0 a1
 obtain⟨y,hyy⟩:∃ y,y=40*x0+x1:=⟨_,rfl⟩
 have hn:numsS o=y::o.drop 2:=by simp[numsS,List.getD,hx0,hx1,hyy]
 have wr:∀ n:Int,0≤n→n<1000000000000→IntKind.i64.wrap n=n:=fun n h0 h1=>by simp[IntKind.wrap,IntKind.signed,IntKind.bits];omega
 have hye:IntKind.i64.wrap (IntKind.i64.wrap (40*x0)+x1)=40*x0+x1:=by
  rw[wr (40*x0) (by omega) (by omega)]
  exact wr _ (by omega) (by omega)
 have HYE:=Hi hye;have z0:(0:Int)<(o.length:Int):=by omega
 have z1:(1:Int)<(o.length:Int):=by omega
 have z0':0<o.length:=by omega
 have z1':1<o.length:=by omega
 have z2:(2:Int)≤(o.length:Int):=by omega
 have z3:(o.length:Int)≤(cap:Int):=by omega
 have F1:Fz w ((w.alloc (.cells #[.int .i64 (40*x0+x1)] 3)).drew):=((Fr.refl w).alloc _).drew;have BX:=(Blk.new w 3 #[.int .i64 (40*x0+x1)]).drew;have own1:((w.alloc (.cells #[.int .i64 (40*x0+x1)] 3)).drew).ownsRow w.heap.size 3 1 (.slice (some ⟨w.heap.size,0,none⟩) 1 1) 1 (intCells [y]):=by
  have:=own_block BX 1 (by simp) (by unfold maxLen;simp) w.heap.size (Nat.le_refl _);rw[hyy]
  simpa [intCells] using this
 have hsub:∀ (a':Option Addr),(2<o.length→a'=some ⟨b,off+2,none⟩)→Ints ((w.alloc (.cells #[.int .i64 (40*x0+x1)] 3)).drew) (.slice a' (o.length-2) (cap-2)) (o.drop 2):=fun a' ha=>by
  have h1:=(h.old F1).sub 2 o.length hl1 (Nat.le_refl _) a' (cap-2) (fun hlt b' o' e=>by
   simp only[Option.some.injEq,Addr.mk.injEq,and_true]at e
   obtain⟨rfl,rfl⟩:=e
   exact ha hlt) (by omega) (by omega)
  have h2:((intCells o).drop 2).take (o.length-2)=intCells (o.drop 2):=by
   rw[List.take_of_length_le (by rw[List.length_drop,intCells_len];exact Nat.le_refl _)]
   simp[intCells]
  rwa[h2]at h1
 have HS:=Hi hsub;have HN:=Hi hn;have HO1:=Hi own1;have HF1:=Hi F1;by_cases hc2:cap=2
 ·obtain⟨v',w',hr,hown',hF,_⟩:=append_ints HO1.out (some ⟨b,off,none⟩) (o.length-2) (cap-2) (o.drop 2) (HS.out _ (fun h=>absurd h (by omega))) (by omega) (Nat.le_trans (Nat.le_of_lt (Nat.lt_succ_self _)) (by have:=HF1.out.size;simp at this ⊢))
  have hr':=Hi hr;have HO:=Hi hown';have G:=Hi (HF1.out.trans' hF (fun i hi e=>by simp[Value.ownBlock]at e;omega));obtain⟨a7,c7,rfl,-⟩:=(Vals.of_own hown').1
  clear hye wr h hx hy hx0 hx1 hall F1 BX own1 hsub hn hr hown' hF;go_enter Tryz.func308,Tryz.ntmps308
  go_wp2_with fail
  go_region_law (first|(refine step_append_run (by rfl) (.tmp 11) (.tmp 13) 27 (by rfl) _ w' (by rw[HYE.out];exact hr'.out) ?_)|fail)
  all_goals
   go_wp2_with fail
   go_ret;refine⟨_,rfl,?_,fun k hk=>((Vals.of_own HO.out).2 k hk).1,G.out⟩
   rw[HN.out]
   exact(Vals.of_own HO.out).1
 ·obtain⟨v',w',hr,hown',hF,_⟩:=append_ints HO1.out (some ⟨b,off+2,none⟩) (o.length-2) (cap-2) (o.drop 2) (HS.out _ (fun _=>rfl)) (by omega) (Nat.le_trans (Nat.le_of_lt (Nat.lt_succ_self _)) (by have:=HF1.out.size;simp at this ⊢))
  have hr':=Hi hr;have HO:=Hi hown';have G:=Hi (HF1.out.trans' hF (fun i hi e=>by simp[Value.ownBlock]at e;omega));obtain⟨a7,c7,rfl,-⟩:=(Vals.of_own hown').1
  clear hye wr h hx hy hx0 hx1 hall F1 BX own1 hsub hn hr hown' hF;go_enter Tryz.func308,Tryz.ntmps308
  go_wp2_with fail
  go_region_law (first|(refine step_append_run (by rfl) (.tmp 11) (.tmp 13) 27 (by rfl) _ w' (by rw[HYE.out];exact hr'.out) ?_)|fail)
  all_goals
   go_wp2_with fail
   go_ret;refine⟨_,rfl,?_,fun k hk=>((Vals.of_own HO.out).2 k hk).1,G.out⟩
   rw[HN.out]
   exact(Vals.of_own HO.out).1
theorem and127i (n:Nat)(h:n<4611686018427387904):bits .and .i64 (n:Int) 127=((n % 128:Nat):Int):=by
 have h:=(bits_nat .i64 62 (by decide) wraps_i62 n 127 (by omega) (by omega)).1;rw[nat_mask7]at h
 exact h
theorem put_any {w:World}{base m:Nat}(n bo:Nat)(v:Value)(xs:List UInt8)(hn:n≤2147483647)(BO:Blk w bo 32 #[v])
  (hown:w.ownsRow base 5 1 v m (Lib.byteCells xs)) (hb:base≤w.heap.size) (ho:∀ k,v.ownBlock=some k→k≠bo) (hm:m≤1000) :
  Calls Tryz.prog 307 #[.int .i64 n,pt bo] w fun e w'=>e=.returned (.tuple #[])∧∃ v',Blk w' bo 32 #[v']∧w'.ownsRow base 5 1 v' (m+(base128 n).length) (Lib.byteCells (xs++base128 n))∧(∀ k,v'.ownBlock=some k→k≠bo)∧Fr (fun k=>k=bo∨v.ownBlock=some k) w w':=by
 have hb1:bits .and .i64 (n:Int) 127=((n % 128:Nat):Int):=and127i n (by omega);obtain⟨y,hy⟩:∃ y,y=n % 128:=⟨_,rfl⟩
 rw[←hy]at hb1
 have hyl:y<128:=by omega
 have hw8:IntKind.u8.wrap (y:Int)=(y:Int):=by simp[IntKind.wrap,IntKind.signed,IntKind.bits];omega
 have HY:=Hi hy;have HOW:=Hi hown;have lbo:=BO.lt;have HV:=Hi (Vals.of_own hown).2;clear hown hy;go_enter Tryz.func307,Tryz.ntmps307
 go_upto_region 1 with fail
 have BX:=Blk.new w 5 #[.int .u8 y];have F1:Fz w (w.alloc (.cells #[.int .u8 y] 5)):=(Fr.refl w).alloc _;have e8:=u8 y (by omega);have ho1:(w.alloc (.cells #[.int .u8 y] 5)).ownsRow w.heap.size 5 1 (.slice (some ⟨w.heap.size,0,none⟩) 1 1) 1 (Lib.byteCells [UInt8.ofNat y]):=by
  have BX':Blk (w.alloc (.cells #[.int .u8 y] 5)) w.heap.size 5 (Lib.byteCells [UInt8.ofNat y]).toArray:=by
   simpa [Lib.byteCells,e8] using BX
  exact own_bytes BX' (by simp) w.heap.size (Nat.le_refl _)
 generalize (w.alloc (.cells #[.int .u8 y] 5))=w1 at *
 go_wp2_with fail
 go_loopg [0,3] (n / 128) (fun g nn d wr=>∃ (k q:Nat) (a:Option Addr) (l c:Nat) (ys:List UInt8),g=q∧q≤lim7 k∧k≤4∧ys.length=k+1∧nn=.int .i64 q∧d=.slice a l c∧UInt8.ofNat y::up7 5 (n / 128)=ys++up7 (5-k) q∧wr.ownsRow w.heap.size 5 1 (.slice a l c) (k+1) (Lib.byteCells ys)∧Fz w wr)
 case atStart=>exact⟨0,n / 128,_,1,1,[UInt8.ofNat y],rfl,by simp only[lim7];omega,by omega,rfl,rfl,rfl,rfl,ho1,F1⟩
 case round=>
  obtain⟨k,q,a,l,c,ys,hg,hq,hk,hyk,rfl,rfl,hup,hoy,F2⟩:=hrel
  have HG:=Hi hg;have HU:=Hi hup;have HQ:=Hi hq;clear hg hup hq;by_cases hq0:q=0
  ·subst hq0
   have hE:base128 n=ys.reverse:=by
    have:=HU.out;rw[HY.out]at this
    unfold base128;rw[this]
    cases 5-k<;>simp[up7]
   have HE:=Hi hE;have hbl:(base128 n).length=k+1:=by rw[hE,List.length_reverse,hyk]
   have HBL:=Hi hbl;have hvb:=(Vals.of_own hoy).2;have HRV:=Hi (rev_ok wr w.heap.size _ _ ys hoy (by omega));clear hE hbl hoy hb1 hw8;go_wp2_with fail
   refine HRV.out.mono ?_;rintro e w2 ⟨rfl,ho2,F3⟩;have G2:=F2.trans' F3 (fun i hi e=>absurd hi (by have:=(hvb i e).1;omega));rw[←HE.out]at ho2
   have hd:=(Vals.of_own ho2).1;have BO2:=BO.fr G2 (fun h=>h);have hO2:=ownsRow_fr HOW.out G2 (fun _ _ h=>h);have hll:(Lib.byteCells (base128 n)).length=k+1:=by rw[byteCells_len];exact HBL.out
   obtain⟨ad,cd,hde,-⟩:=hd.form
   rw[HBL.out]at hde
   simp only[Value.slice.injEq]at hde
   obtain⟨rfl,rfl,rfl⟩:=hde
   obtain⟨v',w',hrun,ho7,F7,hat⟩:=append_bytes hO2 a (k+1) c (base128 n) hd (by omega) (Nat.le_trans hb G2.size)
   have HO7:=Hi ho7;have BO7:=BO2.fr F7 (fun e=>ho bo e rfl);have HAT:=Hi hat;have e0:=BO2.cell 0;have e7:=BO7.cell 0;have f7:=BO7.frozen 0;simp at e0 e7
   obtain⟨a7,c7,rfl,-⟩:=(Vals.of_own ho7).1
   have HRUN:=Hi hrun;have HB7:=Hi BO7;have HG2:=Hi G2;have HF7:=Hi F7;have hsz2:=G2.size;clear ho2 hd BO2 hO2 hll ho7 F7 hat hrun BO7 G2 F3 F2 hvb HRV;generalize (Lib.byteCells (xs++base128 n)).length=L7 at *
   go_wp2_with (at_builtin;refine wpList_append_run (by rfl) (.tmp 23) (.tmp 24) 32 (by rfl) _ w' (by exact HRUN.out) ?_)
   go_end0
   have hne:∀ b,(Value.slice a7 L7 c7).ownBlock=some b→b≠bo:=fun b hk=>by
    rcases HAT.out with h|h
    ·rw[h]at hk
     exact ho b hk
    ·rw[h]at hk
     simp only[Option.some.injEq]at hk
     omega
   have FS:Fr (fun b=>b=bo) w' (w'.setCell ⟨bo,0,none⟩ (.slice a7 L7 c7)):=Fr.setCell (S:=fun b=>b=bo) (p:=⟨bo,0,none⟩) (Fr.refl w') (fun _=>rfl) _;refine⟨rfl,_,HB7.out.set 0 _,?_,hne,?_⟩
   ·rw[HBL.out]
    exact ownsRow_fr HO7.out FS (fun b hb e=>hne b hb e)
   ·exact((HG2.out.mono (T:=fun b=>b=bo∨v.ownBlock=some b) (fun _ _ h=>h.elim)).trans (HF7.out.mono (fun _ _ h=>.inr h))).trans (FS.mono (fun _ _ h=>.inl h))
  ·have q1:(0:Int)<(q:Int):=by omega
   have hkq:k≤3:=by
    rcases Nat.lt_or_ge 3 k with h|h
    ·obtain rfl:k=4:=by omega
     have:=HQ.out;simp only[lim7]at this
     omega
    ·exact h
   have hql:q≤16777216:=lim7_le HQ.out;obtain⟨r,hr⟩:∃ r,r=q % 128:=⟨_,rfl⟩
   have hrl:r<128:=by omega
   have hb2:bits .and .i64 (q:Int) 127=(r:Int):=by rw[hr];exact and127i q (by omega)
   have hm8:(r:Int) % 256=(r:Int):=by omega
   obtain⟨z,hz⟩:∃ z,z=r+128:=⟨_,rfl⟩
   have hb3:bits .or .u8 (r:Int) 128=(z:Int):=by
    have h:=u8_or_nat r 128 (by omega) (by omega);rw[Nat.or_comm,nat_join 7 128 r (by decide) (by omega)]at h
    rw[hz]
    rw[show r+128=128+r from by omega]
    exact h
   have hee:bits BinOp.or IntKind.u8 (bits BinOp.and IntKind.i64 (q:Int) 127 % 256) 128=(z:Int):=by rw[hb2,hm8,hb3]
   have HEE:=Hi hee;clear hee;have e8:=u8 z (by omega);have hsz:=F2.size;have F3:Fz wr (wr.alloc (.cells #[.int .u8 z] 5)):=(Fr.refl wr).alloc _;have hsrc:Bytes (wr.alloc (.cells #[.int .u8 z] 5)) (.slice (some ⟨wr.heap.size,0,none⟩) 1 1) [UInt8.ofNat z]:=by
    refine⟨_,1,rfl,Nat.le_refl _,by unfold maxLen;omega,fun _=>⟨wr.heap.size,0,rfl,fun i u hu=>?_⟩⟩
    rw[(Blk.new wr 5 #[.int .u8 z]).cell (0+i)]
    simpa [Lib.byteCells,e8] using hu
   obtain⟨v',w',hrun,ho7,F7,_⟩:=append_bytes (ownsRow_fr hoy F3 (fun _ _ h=>h)) _ 1 1 [UInt8.ofNat z] hsrc (by omega) (Nat.le_trans hsz F3.size)
   have hvb:=(Vals.of_own hoy).2;have G7:=Hi ((F2.trans F3).trans' F7 (fun i hi e=>absurd hi (by have:=(hvb i e).1;omega)));obtain⟨a7,c7,rfl,-⟩:=(Vals.of_own ho7).1
   have HO7:=Hi ho7;have HRUN:=Hi hrun;have HR:=Hi hr;have HZ:=Hi hz;have HB2:=Hi hb2;have HB3:=Hi hb3;have HM8:=Hi hm8;clear hsrc ho7 F7 F3 F2 hoy hvb hrun hr hz hb2 hb3 hm8 hb1 hw8 hsz;generalize (Lib.byteCells (ys++[UInt8.ofNat z])).length=L7 at *
   go_wp2_with (at_builtin;refine wpList_append_run (by rfl) (.tmp 14) (.tmp 19) 32 (by rfl) _ w' (by rw[HEE.out];exact HRUN.out) ?_)
   go_roundg (q / 128)
   case measure=>rw[HG.out];omega
   case rel=>
    refine⟨k+1,q / 128,a7,L7,c7,ys++[UInt8.ofNat z],rfl,lim7_step HQ.out,by omega,by rw[List.length_append,hyk];rfl,rfl,rfl,?_,HO7.out,G7.out⟩
    rw[HU.out,List.append_assoc]
    congr 1
    rw[show 5-k=(5-(k+1))+1 from by omega]
    simp only[up7,if_neg hq0]
    rw[HZ.out,HR.out]
    rfl
end Go.Proofs.YteidmhkobmddiaaGreatDoor
namespace Go.Q
open Go Go.RowKit
def oidBytes (o:List Int):List UInt8:=(Go.Proofs.YteidmhkobmddiaaGreatDoor.numsS o).flatMap fun n=>base128 n.toNat
theorem up7_len:∀ f n,(up7 f n).length≤f
 |0,_=>Nat.le_refl _
 |f+1,n=>by
  simp only[up7]
  split
  ·simp
  ·simp only[List.length_cons]
   have:=up7_len f (n / 128);omega
theorem base128_len (n:Nat):(base128 n).length≤6∧1≤(base128 n).length:=by
 have:=up7_len 5 (n / 128);simp only[base128,List.length_reverse,List.length_cons]
 omega
theorem flat128_len:∀ l:List Int,(l.flatMap fun n=>base128 n.toNat).length≤6*l.length
 | []=>by simp
 |n::l=>by
  have h1:=(base128_len n.toNat).1;have h2:=flat128_len l;simp only[List.flatMap_cons,List.length_append,List.length_cons]
  omega
end Go.Q
namespace Go.Proofs.YteidmhkobmddiaaGreatDoor
open Go Go.RowKit Go.Q
theorem nums_ok {o:List Int}(ho:oidOk o=true):(numsS o).length=o.length-1∧o.length≤32∧2≤o.length∧∀ n∈numsS o,0≤n∧n≤2147483647:=by
 simp only[oidOk,Bool.and_eq_true,decide_eq_true_eq]at ho
 obtain⟨⟨⟨hl1,hl2⟩,hall⟩,htwo⟩:=ho
 refine⟨by simp only[numsS,List.length_cons,List.length_drop];omega,hl2,hl1,fun n hn=>?_⟩
 simp only[numsS,List.mem_cons]at hn
 rcases hn with rfl|hn
 ·have g:∀ i,i<o.length→arcOk (o.getD i 0)=true:=fun i hi=>by
   rw[List.getD_eq_getElem?_getD,List.getElem?_eq_getElem hi]
   exact List.all_eq_true.1 hall _ (List.getElem_mem hi)
  have g0:=g 0 (by omega);have g1:=g 1 (by omega);generalize o.getD 0 0=a at *
  generalize o.getD 1 0=b at *
  simp only[arcOk,decide_eq_true_eq]at g0 g1
  simp only[twoOk,Bool.or_eq_true,Bool.and_eq_true,decide_eq_true_eq]at htwo
  omega
 ·have:=List.all_eq_true.1 hall n (List.mem_of_mem_drop hn)
  simpa [arcOk] using this
theorem contents_any (v:Value)(o:List Int)(w:World)(h:Ints w v o)(ho:oidOk o=true) :
  Calls Tryz.prog 255 #[v] w fun e w'=>∃ v',e=.returned (.tuple #[v',.int .i64 0])∧w'.ownsRow w.heap.size 5 1 v' (oidBytes o).length (Lib.byteCells (oidBytes o))∧Fz w w':=by
 obtain⟨hnl,hol,hol2,hno⟩:=nums_ok ho
 have hR:=oidRight_any v o w h;rw[ho]at hR
 have HR:=Hi hR;have HH:=Hi h;have HNO:=Hi hno;obtain⟨bo,hbo⟩:∃ bo,bo=w.heap.size:=⟨_,rfl⟩
 have HBO:=Hi hbo;have B0:=Blk.new w 32 #[.slice none 0 0];have F0:Fz w (w.alloc (.cells #[.slice none 0 0] 32)):=(Fr.refl w).alloc _;rw[←hbo]at B0
 clear hR h hno hbo;go_enter Tryz.func255,Tryz.ntmps255
 go_wp2_with fail
 refine HR.out.mono ?_;rintro e w' ⟨rfl,rfl⟩;go_upto_region 4 with fail
 rw[←HBO.out]
 generalize (w.alloc (.cells #[.slice none 0 0] 32))=w0 at *
 go_wp2_with fail
 refine(numbers_any v o w0 (HH.out.old F0) ho).mono ?_
 rintro e w1 ⟨v1,rfl,hi1,hf1,F1⟩;obtain⟨a1,c1,rfl,-⟩:=Ints.form hi1
 have HI1:=Hi hi1;have hlt0:=B0.lt;have hbb:∀ k,(Value.slice a1 (numsS o).length c1).ownBlock=some k→k≠bo:=fun k hk=>by have:=hf1 k hk;omega
 have B1:=B0.fr F1 (fun h=>h);have G1:=F0.trans F1;obtain⟨N,hN⟩:∃ N,N=numsS o:=⟨_,rfl⟩
 rw[←hN]at hnl HNO HI1 hbb ⊢
 have HN:=Hi hN;clear hi1 B0 F0 F1 hN hf1 hlt0;go_wp2_with fail
 go_loopg [15] N.length (fun g i wr=>∃ (j k:Nat) (u:Value),g=N.length-j∧j≤N.length∧i=.int .i64 j∧k=((N.take j).flatMap fun n=>base128 n.toNat).length∧Blk wr bo 32 #[u]∧wr.ownsRow w1.heap.size 5 1 u k (Lib.byteCells ((N.take j).flatMap fun n=>base128 n.toNat))∧(∀ b,u.ownBlock=some b→b≠bo)∧Fr (fun k=>k=bo) w1 wr)
 case atStart=>exact⟨0,0,.slice none 0 0,rfl,by omega,rfl,rfl,B1,⟨rfl,.inl ⟨rfl,rfl⟩⟩,by simp[Value.ownBlock],Fr.refl _⟩
 case round=>
  obtain⟨j,k,u,hg,hj,rfl,hk,B2,ho2,hne,F2⟩:=hrel
  have HG:=Hi hg;have HK:=Hi hk;clear hg hk;by_cases hjl:j<N.length
  ·obtain⟨a',cap',he,_,_,hx⟩:=Ints.form HI1.out
   simp only[Value.slice.injEq,true_and]at he
   obtain⟨rfl,rfl⟩:=he
   obtain⟨b,off,rfl,hy⟩:=hx (by omega)
   obtain⟨x,hxj⟩:∃ x,N[j]? = some x:=⟨_,List.getElem?_eq_getElem hjl⟩
   have ex:=F2.cell (hy j x hxj) (hbb b rfl);have hx0:=HNO.out x (List.mem_of_getElem? hxj);obtain⟨y,hyx⟩:∃ y:Nat,x=(y:Int):=⟨x.toNat,by omega⟩
   subst hyx;have hft:((N.take (j+1)).flatMap fun n=>base128 n.toNat)=((N.take j).flatMap fun n=>base128 n.toNat)++base128 y:=by
    rw[List.take_add_one,hxj]
    simp
   have hkl:=flat128_len (N.take j);have hbl:=(base128_len y).1;rw[←HK.out,List.length_take]at hkl
   have hu:=(Vals.of_own ho2).2;have HP:=Hi (put_any y bo u _ (by omega) B2 ho2 F2.size hne (by omega));have HFT:=Hi hft;have q1:(0:Int)≤(j:Int):=by omega
   have q2:(j:Int)<(N.length:Int):=by omega
   clear hx hy hxj hx0 hft ho2 B2 hne hkl;go_wp2_with fail
   refine HP.out.mono ?_;rintro e w3 ⟨rfl,u3,B3,ho3,hne3,F3⟩;have G3:=F2.trans' F3 (fun i hi e=>by
    rcases e with e|e
    ·exact e
    ·exact absurd hi (by have:=(hu i e).1;omega))
   rw[←HFT.out]at ho3
   have HO3:=Hi ho3;have HB3:=Hi B3;clear ho3 B3 F3 F2 HP;go_wp2_with fail
   go_roundg (N.length-(j+1))
   case measure=>rw[HG.out];omega
   case rel=>exact⟨j+1,_,u3,rfl,by omega,by go_num,by rw[HFT.out,List.length_append,←HK.out],HB3.out,HO3.out,hne3,G3⟩
  ·have hall:(N.take j)=N:=List.take_of_length_le (by omega)
   have hk2:=HK.out;rw[hall]at ho2 hk2
   have e0:=B2.cell 0;simp at e0
   have hE:oidBytes o=N.flatMap fun n=>base128 n.toNat:=by rw[HN.out];rfl
   have HE:=Hi hE;have HO2:=Hi ho2;have HK2:=Hi hk2;have HGG:=Hi (G1.trans' F2 (fun i hi e=>absurd hi (by rw[e,HBO.out];exact Nat.lt_irrefl _)));have hs1:=G1.size;clear ho2 hk2 hall B2 F2 hE HI1 G1 B1;go_wp2_with fail
   refine bodyPost_ret (v:=.tuple #[u,.int .i64 0]) (by simp[results,Tryz.results255,go_sem]) rfl ⟨_,rfl,?_,HGG.out⟩;have h1:=own_le HO2.out hs1;rw[HE.out,←HK2.out]
   exact h1
end Go.Proofs.YteidmhkobmddiaaGreatDoor
namespace Go.Q
open Go Go.RowKit
def oidWhole (o:List Int):List UInt8:=wrapS (tagOf 6) (oidBytes o)
theorem good_of {n:Int}(h0:0≤n)(h1:n<31):tagGood (tagOf n):=⟨⟨by simp[tagOf],by simp[tagOf]⟩,h0,h1⟩
theorem oidBytes_len {o:List Int}(h:o.length≤32):(oidBytes o).length≤200:=by
 have:=flat128_len (Go.Proofs.YteidmhkobmddiaaGreatDoor.numsS o);have h2:(Go.Proofs.YteidmhkobmddiaaGreatDoor.numsS o).length≤33:=by simp only[Go.Proofs.YteidmhkobmddiaaGreatDoor.numsS,List.length_cons,List.length_drop];omega
 unfold oidBytes;omega
end Go.Q
namespace Go.Proofs.YteidmhkobmddiaaGreatDoor
open Go Go.RowKit Go.Q
theorem oidWrite_any (v:Value)(o:List Int)(w:World)(h:Ints w v o)(ho:oidOk o=true) :
  Calls Tryz.prog 204 #[v] w fun e w'=>∃ v',e=.returned (.tuple #[v',.int .i64 0])∧w'.ownsRow w.heap.size 5 1 v' (oidWhole o).length (Lib.byteCells (oidWhole o))∧Fz w w':=by
 have HC:=Hi (contents_any v o w h ho);have hol:=oidBytes_len (nums_ok ho).2.1;clear h;go_enter Tryz.func204,Tryz.ntmps204
 go_wp2_with fail
 refine HC.out.mono ?_;rintro e w1 ⟨v1,rfl,ho1,F1⟩;obtain⟨a1,c1,rfl,-⟩:=(Vals.of_own ho1).1.form
 have HB:=Hi (Vals.of_own ho1).1;clear ho1;go_wp2_with fail
 refine(headOf_any 6 w1).mono ?_
 rintro e w2 ⟨rfl,F2⟩;have BP:=Blk.new w2 32 #[.slice a1 (oidBytes o).length c1];have F3:Fz w2 (w2.alloc (.cells #[.slice a1 (oidBytes o).length c1] 32)):=(Fr.refl w2).alloc _;have G3:=(F1.trans F2).trans F3;have hp:Parts (w2.alloc (.cells #[.slice a1 (oidBytes o).length c1] 32)) (.slice (some ⟨w2.heap.size,0,none⟩) 1 1) [oidBytes o]:=by
  refine⟨[.slice a1 (oidBytes o).length c1],Vals.of_block BP (by unfold maxLen;simp),rfl,fun i u l hu hl=>?_⟩
  cases i with
  |zero=>
   simp only[List.getElem?_cons_zero,Option.some.injEq]at hu hl
   subst hu;subst hl;exact(HB.out.old F2).old F3
  |succ i=>simp at hu
 have hW:=wrap_any (tagOf 6) (good_of (by omega) (by omega)) _ [oidBytes o] _ hp (by simp;omega) (by simp);simp only[List.flatten_cons,List.flatten_nil,List.append_nil]at hW
 have HW:=Hi hW;have HG:=Hi G3;clear hp hW BP F3 G3 F1 F2;rw[show tagV (tagOf 6)=.agg #[.int .i64 0,.int .i64 6,.bool false] from rfl]at HW ⊢
 go_wp2_with fail
 refine HW.out.mono ?_;rintro e w4 ⟨v4,rfl,ho4,F4⟩;have HO4:=Hi (own_le ho4 HG.out.size);have HG4:=Hi (HG.out.trans F4);clear ho4 F4 HW HG;go_wp2_with fail
 exact bodyPost_ret (v:=.tuple #[v4,.int .i64 0]) (by simp[results,Tryz.results204,go_sem]) rfl ⟨_,rfl,HO4.out,HG4.out⟩
theorem sequence_any (v:Value)(ls:List (List UInt8))(w:World)(hp:Parts w v ls)(hl:ls.flatten.length≤16777216)(hn:ls.length≤1000) :
  Calls Tryz.prog 105 #[v] w fun e w'=>∃ v',e=.returned (.tuple #[v',.int .i64 0])∧w'.ownsRow w.heap.size 5 1 v' (wrapS (tagOf 16) ls.flatten).length (Lib.byteCells (wrapS (tagOf 16) ls.flatten))∧Fz w w':=by
 have HP:=Hi hp;clear hp;go_enter Tryz.func105,Tryz.ntmps105
 go_wp2_with fail
 refine(headOf_any 16 w).mono ?_
 rintro e w2 ⟨rfl,F2⟩;have HW:=Hi (wrap_any (tagOf 16) (good_of (by omega) (by omega)) v ls w2 (HP.out.old F2) hl hn);rw[show tagV (tagOf 16)=.agg #[.int .i64 0,.int .i64 16,.bool true] from rfl]at HW ⊢
 go_wp2_with fail
 refine HW.out.mono ?_;rintro e w4 ⟨v4,rfl,ho4,F4⟩;have HO4:=Hi (own_le ho4 F2.size);have HG4:=Hi (F2.trans F4);clear ho4 F4 HW F2;go_wp2_with fail
 exact bodyPost_ret (v:=.tuple #[v4,.int .i64 0]) (by simp[results,Tryz.results105,go_sem]) rfl ⟨_,rfl,HO4.out,HG4.out⟩
theorem oneS_err {l:List UInt8}{e:Int}(h:readS l=.error e):oneS l=.error e:=by
 unfold oneS;simp only[h]
theorem oneS_short {l:List UInt8}{t:Tag}{n k:Nat}(h:readS l=.ok (t,n,k))(hs:l.length-k<n):oneS l=.error 3:=by
 unfold oneS;simp only[h]
 rw[if_pos hs]
theorem oneS_ok {l:List UInt8}{t:Tag}{n k:Nat}(h:readS l=.ok (t,n,k))(hs:¬l.length-k<n):oneS l=.ok (t,k,k+n):=by
 unfold oneS;simp only[h]
 rw[if_neg hs]
def oneOut (w w':World)(c:Nat)(K:Nat→Prop)(bs:List UInt8)(p:Nat)(e:Ending):Prop:=
 match oneS (bs.drop p) with
 |.error x=>∃ v t u,e=.returned (.tuple #[v,tagV t,u,.int .i64 x])∧CurAt w' c K bs p
 |.ok (t,_,n)=>∃ v u,e=.returned (.tuple #[v,tagV t,u,.int .i64 0])∧w'.ownsRow w.heap.size 5 1 v n (Lib.byteCells ((bs.drop p).take n))∧CurAt w' c K bs (p+n)
theorem one_any {w:World}{c:Nat}{K:Nat→Prop}{bs:List UInt8}{p:Nat}(h:CurAt w c K bs p) :
  Calls Tryz.prog 264 #[pt c] w fun e w'=>oneOut w w' c K bs p e∧Fr (fun k=>k=c) w w':=by
 have hlc:=h.lt;have hle:=h.le;have hsm:=h.small;obtain⟨z,hz⟩:∃ z,z=w.heap.size:=⟨_,rfl⟩
 have BZ:=Blk.new w 201 #[.int .i64 0,.int .i64 0,.bool false];have F0:Fz w (w.alloc (.cells #[.int .i64 0,.int .i64 0,.bool false] 201)):=(Fr.refl w).alloc _;have H:=Hi (h.step (K':=fun k=>K k∨w.heap.size≤k) F0 (fun _ _ h=>h.elim) (fun _ h=>h));rw[←hz]at BZ
 have hzc:z≠c:=by omega
 have hzw:∀ k,k<w.heap.size→k=z→k=c:=fun k hk e=>by omega
 have HZ:=Hi hz;clear h hz;go_enter Tryz.func264,Tryz.ntmps264
 go_upto_region 1 with fail
 rw[←HZ.out]
 generalize (w.alloc (.cells #[.int .i64 0,.int .i64 0,.bool false] 201))=w0 at *
 go_wp2_with fail
 refine(at_any H.out).mono ?_
 rintro e w' ⟨rfl,rfl⟩;go_wp2_with fail
 refine(headRead_any H.out).mono ?_
 rintro e w1 ⟨⟨t,n,x,rfl,ht⟩,C1,F1⟩;obtain⟨tc,tn,tm⟩:=t
 rw[show tagV ⟨tc,tn,tm⟩=.agg #[.int .i64 tc,.int .i64 tn,.bool tm] from rfl]
 have HT:=Hi ht;replace BZ:=BZ.fr F1 hzc;have hzl:=BZ.lt;have hcl:=C1.lt;go_upto_region 3 with fail
 obtain⟨d,hd⟩:∃ d,d=w1.heap.size:=⟨_,rfl⟩
 have BD:=Blk.new w1 201 #[.int .i64 tc,.int .i64 tn,.bool tm];have F2:Fz w1 (w1.alloc (.cells #[.int .i64 tc,.int .i64 tn,.bool tm] 201)):=(Fr.refl w1).alloc _;replace BZ:=BZ.fr F2 (fun h=>h);have HC2:=Hi (C1.old F2);have HG2:=Hi (((F0.mono (T:=fun k=>k=c) (fun _ _ h=>h.elim)).trans F1).trans (F2.mono (fun _ _ h=>h.elim)));rw[←hd]at BD ⊢
 have hdz:d≠z:=by omega
 have hdc:d≠c:=by omega
 clear hd F2 F1 C1 F0 H ht hzl hcl;generalize (w1.alloc (.cells #[.int .i64 tc,.int .i64 tn,.bool tm] 201))=w2 at *
 have SZ:=BZ.cell;have ZZ:=BZ.frozen;have SD:=BD.cell;by_cases hx:x=0
 ·subst hx
  have hok:∃ k,readS (bs.drop p)=.ok (⟨tc,tn,tm⟩,n,k):=by
   have ht:=HT.out;cases hr:readS (bs.drop p) with
   |error e=>rw[hr]at ht;exact absurd ht.symm (readS_err hr)
   |ok vk=>obtain⟨v,m,k⟩:=vk;rw[hr]at ht;exact⟨k,by rw[ht.1,ht.2.1]⟩
  obtain⟨k,hk⟩:=hok
  have hc2:=HC2.out;rw[hk]at hc2
  have hpk:p+k≤bs.length:=hc2.le;have HC3:=Hi (show CurAt w2 c (fun k=>K k∨w.heap.size≤k) bs (p+k) from hc2);have hdl:(bs.drop p).length=bs.length-p:=List.length_drop ..;have hw1:IntKind.i64.wrap ((p+k:Nat)-(p:Int))=(k:Int):=by simp[IntKind.wrap,IntKind.signed,IntKind.bits];omega
  clear HC2 hc2;go_wp2_with fail
  refine(at_any HC3.out).mono ?_
  rintro e w' ⟨rfl,rfl⟩;go_wp2_with fail
  refine(left_any HC3.out).mono ?_
  rintro e w3 ⟨rfl,F3⟩;replace BZ:=BZ.fr F3 (fun h=>h);replace BD:=BD.fr F3 (fun h=>h);have HC4:=Hi (HC3.out.old F3);have HG4:=Hi (HG2.out.trans (F3.mono (fun _ _ h=>h.elim)));clear F3 HG2 HC3;by_cases hs:bs.length-(p+k)<n
  ·have HE:=Hi (oneS_short hk (by rw[hdl];omega))
   have q1:((bs.length-(p+k):Nat):Int)<(n:Int):=by omega
   clear hk SZ ZZ SD;go_wp2_with fail
   refine(back_any HC4.out p (by omega)).mono ?_
   rintro e w4 ⟨rfl,C4,F4⟩;replace BZ:=BZ.fr F4 hzc;replace BD:=BD.fr F4 hdc;have SZ:=BZ.cell;have ZZ:=BZ.frozen;have SD:=BD.cell;have HC5:=Hi C4;have HG5:=Hi (HG4.out.trans F4);clear C4 F4 HC4 HG4;go_upto_region 8 with fail
   go_region
   all_goals
    go_wp2_with fail
    obtain⟨B5,F5⟩:=set3 BZ (.int .i64 tc) (.int .i64 tn) (.bool tm)
    have C5:=HC5.out.step (K':=K) F5 (fun k _ e=>.inr (by rw[e,HZ.out];exact Nat.le_refl _)) (fun _ h=>.inl (.inl h));have G5:=HG5.out.trans' F5 hzw;generalize (((w4.setCell ⟨z,0,none⟩ (.int .i64 tc)).setCell ⟨z,1,none⟩ (.int .i64 tn)).setCell ⟨z,2,none⟩ (.bool tm))=w5 at *
    have n0:=B5.cell 0;have n1:=B5.cell 1;have n2:=B5.cell 2;simp at n0 n1 n2
    refine bodyPost_ret (v:=.tuple #[.slice none 0 0,.agg #[.int .i64 tc,.int .i64 tn,.bool tm],.slice none 0 0,.int .i64 3]) (by simp[results,Tryz.results264,go_sem,n0,n1,n2]) rfl ⟨?_,G5.drew⟩;unfold oneOut;rw[HE.out]
    exact⟨_,⟨tc,tn,tm⟩,_,rfl,C5.old (Fr.refl w5).drew⟩
  ·have HE:=Hi (oneS_ok hk (by rw[hdl];omega))
   have q1:¬((bs.length-(p+k):Nat):Int)<(n:Int):=by omega
   have hw2:IntKind.i64.wrap ((k:Int)+(n:Int))=((k+n:Nat):Int):=by simp[IntKind.wrap,IntKind.signed,IntKind.bits];omega
   clear hk SZ ZZ SD;go_wp2_with fail
   refine(back_any HC4.out p (by omega)).mono ?_
   rintro e w4 ⟨rfl,C4,F4⟩;replace BZ:=BZ.fr F4 hzc;replace BD:=BD.fr F4 hdc;have HC5:=Hi C4;have HG5:=Hi (HG4.out.trans F4);clear C4 F4 HC4 HG4;have HTK:=Hi (take_ok HC5.out (k+n) (by omega));rw[Int.natCast_add]at HTK hw2
   go_wp2_with fail
   rw[show ((p:Int)+(k:Int)-(p:Int))=(k:Int) from by omega]
   refine HTK.out.mono ?_;rintro e w5 ⟨v5,rfl,ho5,C5,F5⟩;have hzl5:=BZ.lt;replace BZ:=BZ.fr F5 hzc;replace BD:=BD.fr F5 hdc;have HO5:=Hi ho5;have HC6:=Hi C5;have HG6:=Hi (HG5.out.trans F5);have hown:=Hi (Vals.of_own ho5);obtain⟨a5,c5,he5,hc5,hm5,-⟩:=(Vals.of_own ho5).1.form
   have hlen:((bs.drop p).take (k+n)).length=k+n:=by rw[List.length_take,List.length_drop];omega
   rw[hlen]at he5 hc5
   subst he5;have SZ:=BZ.cell;have ZZ:=BZ.frozen;have SD:=BD.cell;have z1:(k:Int)≤(k:Int)+(n:Int):=by omega
   have z2:(k:Int)+(n:Int)≤(c5:Int):=by omega
   have z3:(0:Int)≤(k:Int):=by omega
   have z4:k≤k+n:=by omega
   have z5:k+n≤c5:=by omega
   have hb4:w.heap.size≤w4.heap.size:=HG5.out.size;clear ho5 C5 F5 HC5 HG5 HTK hw1 hw2 hlen;go_upto_region 11 with fail
   by_cases hn0:n=0
   ·subst hn0
    have z6:k+0=k:=rfl;go_region
    all_goals
     go_wp2_with fail
     obtain⟨B7,F7⟩:=set3 BZ (.int .i64 tc) (.int .i64 tn) (.bool tm)
     have C7:=HC6.out.step (K':=K) F7 (fun k _ e=>.inr (by rw[e,HZ.out];exact Nat.le_refl _)) (fun _ h=>.inl (.inl h));have G7:=HG6.out.trans' F7 hzw;have hne:∀ b,(Value.slice a5 (k+0) c5).ownBlock=some b→b≠z:=fun b hb e=>by
      have h1:=(hown.out.2 b hb).1;omega
     have O7:=ownsRow_fr HO5.out F7 hne;have O8:=own_le O7 hb4;generalize (((w5.setCell ⟨z,0,none⟩ (.int .i64 tc)).setCell ⟨z,1,none⟩ (.int .i64 tn)).setCell ⟨z,2,none⟩ (.bool tm))=w7 at *
     have n0:=B7.cell 0;have n1:=B7.cell 1;have n2:=B7.cell 2;simp at n0 n1 n2
     refine bodyPost_ret (v:=.tuple #[.slice a5 (k+0) c5,.agg #[.int .i64 tc,.int .i64 tn,.bool tm],.slice a5 0 0,.int .i64 0]) (by simp[results,Tryz.results264,go_sem,n0,n1,n2]) rfl ⟨?_,G7.drew⟩;unfold oneOut;rw[HE.out]
     exact⟨_,_,rfl,ownsRow_fr O8 (Fr.refl (S:=fun _=>False) w7).drew (fun _ _ h=>h),C7.old (Fr.refl w7).drew⟩
   ·go_region
    all_goals
     go_wp2_with fail
     obtain⟨B7,F7⟩:=set3 BZ (.int .i64 tc) (.int .i64 tn) (.bool tm)
     have C7:=HC6.out.step (K':=K) F7 (fun k _ e=>.inr (by rw[e,HZ.out];exact Nat.le_refl _)) (fun _ h=>.inl (.inl h));have G7:=HG6.out.trans' F7 hzw;have hne:∀ b,(Value.slice a5 (k+n) c5).ownBlock=some b→b≠z:=fun b hb e=>by
      have h1:=(hown.out.2 b hb).1;omega
     have O7:=ownsRow_fr HO5.out F7 hne;have O8:=own_le O7 hb4;generalize (((w5.setCell ⟨z,0,none⟩ (.int .i64 tc)).setCell ⟨z,1,none⟩ (.int .i64 tn)).setCell ⟨z,2,none⟩ (.bool tm))=w7 at *
     have n0:=B7.cell 0;have n1:=B7.cell 1;have n2:=B7.cell 2;simp at n0 n1 n2
     refine bodyPost_ret (v:=.tuple #[.slice a5 (k+n) c5,.agg #[.int .i64 tc,.int .i64 tn,.bool tm],.slice (Option.map (fun x=>x.add k) a5) (k+n-k) (k+n-k),.int .i64 0]) (by simp[results,Tryz.results264,go_sem,n0,n1,n2]) rfl ⟨?_,G7.drew⟩;unfold oneOut;rw[HE.out]
     exact⟨_,_,rfl,ownsRow_fr O8 (Fr.refl (S:=fun _=>False) w7).drew (fun _ _ h=>h),C7.old (Fr.refl w7).drew⟩
 ·have hx1:(x==0)=false:=beq_eq_false_iff_ne.2 hx
  have herr:readS (bs.drop p)=.error x:=by
   have ht:=HT.out;cases hr:readS (bs.drop p) with
   |error e=>rw[hr]at ht;rw[show x=e from ht]
   |ok vk=>obtain⟨v,m,k⟩:=vk;rw[hr]at ht;exact absurd ht.2.2 hx
  have hc2:=HC2.out;rw[herr]at hc2
  have HC3:=Hi hc2;have HE:=Hi (oneS_err herr);clear herr HC2 hc2;go_upto_region 4 with fail
  go_region
  all_goals
   go_wp2_with fail
   obtain⟨B5,F5⟩:=set3 BZ (.int .i64 tc) (.int .i64 tn) (.bool tm)
   have C5:=HC3.out.step (K':=K) F5 (fun k _ e=>.inr (by rw[e,HZ.out];exact Nat.le_refl _)) (fun _ h=>.inl (.inl h));have G5:=HG2.out.trans' F5 hzw;generalize (((w2.setCell ⟨z,0,none⟩ (.int .i64 tc)).setCell ⟨z,1,none⟩ (.int .i64 tn)).setCell ⟨z,2,none⟩ (.bool tm))=w5 at *
   have n0:=B5.cell 0;have n1:=B5.cell 1;have n2:=B5.cell 2;simp at n0 n1 n2
   refine bodyPost_ret (v:=.tuple #[.slice none 0 0,.agg #[.int .i64 tc,.int .i64 tn,.bool tm],.slice none 0 0,.int .i64 x]) (by simp[results,Tryz.results264,go_sem,n0,n1,n2]) rfl ⟨?_,G5.drew⟩;unfold oneOut;rw[HE.out]
   exact⟨_,⟨tc,tn,tm⟩,_,rfl,C5.old (Fr.refl w5).drew⟩
theorem info32:(Tryz.prog.info? 32).map (fun i=>(i.zero,i.size,i.bytes))=some (some (.slice none 0 0),1,24):=by kernel_rfl
theorem append_one {w:World}{base n:Nat}{v:Value}{xs:List Value}(hown:w.ownsRow base 32 1 v n xs)(g:Nat)(u:Value)(B:Blk w g 32 #[u])(h1:u.oneCell'=true)(hsz:n≤2000000000000)(hb:base≤w.heap.size) :
  ∃ v' w',(Builtin.append_ #[184,184] 184 #[v,.slice (some ⟨g,0,none⟩) 1 1]).run Tryz.prog w=.ok v' w'∧w'.ownsRow base 32 1 v' (n+1) (xs++[u])∧Fr (fun k=>v.ownBlock=some k) w w'∧(v'.ownBlock=v.ownBlock∨v'.ownBlock=some w.heap.size):=by
 obtain⟨i0,hi0,hz0,hz1,hz2⟩:=info_parts info32
 obtain⟨v',w',hr,h1,h2,_,h3⟩:=run_append_own_at (P:=Tryz.prog) w base 184 184 32 i0 _ 1 24 Tryz.underlying184 hi0 hz0 hz1 hz2 rfl (by decide) v n xs hown ⟨g,0,none⟩ 1 1 [u] rfl (fun j x hx=>by
  rw[show (⟨g,0,none⟩:Addr).add j=⟨g,0+j,none⟩ from by unfold Addr.add;split<;>simp_all,B.cell,Nat.zero_add]
  simpa using hx) (by intro x hx;simp at hx;subst hx;exact h1) (by unfold maxLen;omega) (by omega) hb
 exact⟨v',w',hr,h1,Fr.of_grown h2,h3⟩
def wholesOut (r:Except Int (List (List UInt8)))(e:Ending):Prop:=
 match r with
 |.ok ls=>∃ a cap,e=.returned (.tuple #[.slice a ls.length cap,.int .i64 0])
 |.error x=>e=.returned (.tuple #[.slice none 0 0,.int .i64 x])
theorem oneS_nz {l:List UInt8}{e:Int}(h:oneS l=.error e):e≠0:=by
 unfold oneS at h;split at h
 ·rename_i e' he
  cases h
  exact readS_err he
 ·split at h
  ·cases h;decide
  ·cases h
theorem wholes_any {w:World}{c:Nat}{K:Nat→Prop}{bs:List UInt8}{p:Nat}(h:CurAt w c K bs p) :
  Calls Tryz.prog 256 #[pt c] w fun e w'=>wholesOut (allS (bs.drop p)) e∧Fr (fun k=>k=c) w w':=by
 have H:=Hi (h.step (K':=fun k=>K k∨w.heap.size≤k) (Fr.refl (S:=fun _=>False) w) (fun _ _ h=>h.elim) (fun _ h=>h));have hlc:=h.lt;have hsm:=h.small;have hle:=h.le;clear h;go_enter Tryz.func256,Tryz.ntmps256
 go_wp2_with fail
 refine(at_any H.out).mono ?_
 rintro e w' ⟨rfl,rfl⟩;go_wp2_with fail
 go_loopg [5] (bs.length-p) (fun g l wr=>∃ (q:Nat) (a:Option Addr) (m cap:Nat) (xs:List Value),g=bs.length-q∧p≤q∧q≤bs.length∧m≤q∧l=.slice a m cap∧CurAt wr c (fun k=>K k∨w.heap.size≤k) bs q∧wr.ownsRow w.heap.size 32 1 (.slice a m cap) m xs∧Fr (fun k=>k=c) w wr∧(∀ e,allS (bs.drop q)=.error e→allS (bs.drop p)=.error e)∧(∀ ls,allS (bs.drop q)=.ok ls→∃ ls',allS (bs.drop p)=.ok ls'∧ls'.length=m+ls.length))
 case atStart=>exact⟨p,none,0,0,[],rfl,Nat.le_refl _,hle,by omega,rfl,H.out,⟨rfl,.inl ⟨rfl,rfl⟩⟩,Fr.refl _,fun e h=>h,fun ls h=>⟨ls,h,by omega⟩⟩
 case round=>
  obtain⟨q,a,m,cap,xs,hg,hpq,hqb,hmq,rfl,hC,ho,hF,hE,hO⟩:=hrel
  have HG:=Hi hg;have HE:=Hi hE;have HO:=Hi hO;have HC:=Hi hC;have HOW:=Hi ho;have hv:=Hi (Vals.of_own ho).2;clear hg hE hO hC ho;go_wp2_with fail
  refine(left_any HC.out).mono ?_
  rintro e w1 ⟨rfl,F1⟩;have HC1:=Hi (HC.out.old F1);have HOW1:=Hi (ownsRow_fr HOW.out F1 (fun _ _ h=>h));have HF1:=Hi (hF.trans (F1.mono (fun _ _ h=>h.elim)));have hs1:=F1.size;clear HC HOW F1;by_cases hq:q<bs.length
  ·have q1:(0:Int)<((bs.length-q:Nat):Int):=by omega
   have hne:bs.drop q≠[]:=fun e=>by have:=drop_nil e;omega
   have HNE:=Hi hne;clear hne;go_wp2_with fail
   refine(one_any HC1.out).mono ?_
   rintro e w2 ⟨hout,F2⟩;unfold oneOut at hout;cases hr:oneS (bs.drop q) with
   |error x=>
    rw[hr]at hout
    obtain⟨u,⟨tc,tn,tm⟩,u2,rfl,C2⟩:=hout
    rw[show tagV ⟨tc,tn,tm⟩=.agg #[.int .i64 tc,.int .i64 tn,.bool tm] from rfl]
    have hA:=Hi (HE.out x (allS_err HNE.out hr));have hx1:(x==0)=false:=beq_eq_false_iff_ne.2 (oneS_nz hr);have F3:Fz w2 (w2.alloc (.cells #[.int .i64 tc,.int .i64 tn,.bool tm] 201)):=(Fr.refl w2).alloc _;have HC3:=Hi (C2.old F3);have HF3:=Hi ((HF1.out.trans F2).trans (F3.mono (fun _ _ h=>h.elim)));clear hr C2 F2 F3;go_wp2_with fail
    refine(back_any HC3.out p hpq).mono ?_
    rintro e w4 ⟨rfl,C4,F4⟩;go_wp2_with fail
    refine bodyPost_ret (v:=.tuple #[.slice none 0 0,.int .i64 x]) (by simp[results,Tryz.results256,go_sem]) rfl ⟨?_,HF3.out.trans F4⟩;rw[hA.out]
    rfl
   |ok tkn=>
    obtain⟨t,k,n⟩:=tkn
    rw[hr]at hout
    obtain⟨u,u2,rfl,ho2,C2⟩:=hout
    obtain⟨tc,tn,tm⟩:=t
    rw[show tagV ⟨tc,tn,tm⟩=.agg #[.int .i64 tc,.int .i64 tn,.bool tm] from rfl]
    have hA:=Hi (allS_ok HNE.out hr);have hpos:=oneS_pos hr;have hle2:=C2.le;obtain⟨au,cu,rfl,-⟩:=(Vals.of_own ho2).1.form
    generalize ((bs.drop q).take n).length=nu at *
    obtain⟨g,hg⟩:∃ g,g=w2.heap.size+1:=⟨_,rfl⟩
    have BU:=Blk.new (w2.alloc (.cells #[.int .i64 tc,.int .i64 tn,.bool tm] 201)) 32 #[.slice au nu cu];rw[World.size_alloc]at BU
    have F3:Fz w2 ((w2.alloc (.cells #[.int .i64 tc,.int .i64 tn,.bool tm] 201)).alloc (.cells #[.slice au nu cu] 32)):=((Fr.refl w2).alloc _).alloc _;have hca:∀ b,(Value.slice a m cap).ownBlock=some b→b≠c:=fun b hb e=>by have:=(hv.out b hb).1;omega
    have O3:=ownsRow_fr (ownsRow_fr HOW1.out F2 hca) F3 (fun _ _ h=>h);rw[←hg]at BU
    have HF3:=Hi ((HF1.out.trans F2).trans (F3.mono (fun _ _ h=>h.elim)));obtain⟨v',w',hrun,ho7,F7,_⟩:=append_one O3 g _ BU rfl (by omega) HF3.out.size
    have HC7:=Hi ((C2.old F3).step (K':=fun k=>K k∨w.heap.size≤k) F7 (fun b _ e=>.inr (hv.out b e).1) (fun _ h=>.inl h));have HF7:=Hi (HF3.out.trans' F7 (fun i hi e=>absurd hi (by have:=(hv.out i e).1;omega)));have HO7:=Hi ho7;obtain⟨a7,n7,c7,rfl,hn7⟩:=own_shape ho7
    subst hn7;have HRUN:=Hi hrun;have HGG:=Hi hg;clear hr C2 F2 F3 ho2 BU O3 hrun F7 hca ho7 hg;go_wp2_with (at_builtin;refine wpList_append_run (by rfl) (.tmp 30) (.tmp 32) 184 (by rfl) _ w' (by have h:=HRUN.out;rw[HGG.out]at h;exact h) ?_)
    go_roundg (bs.length-(q+n))
    case measure=>rw[HG.out];omega
    refine⟨q+n,a7,m+1,c7,xs++[.slice au nu cu],rfl,by omega,by omega,by omega,rfl,HC7.out,HO7.out,HF7.out,fun e h=>?_,fun ls h=>?_⟩
    ·rw[←List.drop_drop]at h
     exact HE.out e (by rw[hA.out,h])
    ·rw[←List.drop_drop]at h
     obtain⟨ls',h1,h2⟩:=HO.out _ (by rw[hA.out,h])
     exact⟨ls',h1,by rw[h2];simp only[List.length_cons];omega⟩
  ·have q1:¬(0:Int)<((bs.length-q:Nat):Int):=by omega
   have hd:bs.drop q=[]:=List.drop_eq_nil_of_le (by omega);obtain⟨ls',h1,h2⟩:=HO.out [] (by rw[hd];rfl)
   have H1:=Hi h1;have H2:=Hi h2;clear h1 h2 hd;go_wp2_with fail
   refine bodyPost_ret (v:=.tuple #[.slice a m cap,.int .i64 0]) (by simp[results,Tryz.results256,go_sem]) rfl ⟨?_,HF1.out⟩;rw[H1.out]
   exact⟨a,cap,by rw[H2.out];simp⟩
end Go.Proofs.YteidmhkobmddiaaGreatDoor
namespace Go.Q
open Go Go.RowKit
def singleB (l:List UInt8):Bool:=match allS l with|.ok ls=>ls.length==1|.error _=>false
def attrS (o:List Int)(v:List UInt8):Option (List UInt8):=if oidOk o&&singleB v then some (wrapS (tagOf 16) (oidWhole o++v)) else none
theorem allS_pos {l:List UInt8}{e:Int}(h:allS l=.error e):e≠0:=by
 obtain⟨n,hn⟩:∃ n,n=l.length:=⟨_,rfl⟩
 induction n using Nat.strongRecOn generalizing l with
 |_ n ih=>
  cases l with
  |nil=>rw[allS_nil]at h;cases h
  |cons x t=>
   cases ho:oneS (x::t) with
   |error e'=>
    rw[allS_err (by simp) ho]at h
    cases h
    exact Go.Proofs.YteidmhkobmddiaaGreatDoor.oneS_nz ho
   |ok tkn=>
    obtain⟨u,k,m⟩:=tkn
    have hp:=oneS_pos ho;rw[allS_ok (by simp) ho]at h
    cases hd:allS ((x::t).drop m) with
    |error e'=>
     rw[hd]at h
     cases h
     exact ih _ (by rw[hn,List.length_drop];simp only[List.length_cons];omega) hd rfl
    |ok r=>rw[hd]at h;cases h
theorem oidWhole_len {o:List Int}(h:o.length≤32):(oidWhole o).length≤300:=by
 have:=oidBytes_len h;unfold oidWhole wrapS;rw[List.length_cons,List.length_append]
 have h2:(lenBytes (oidBytes o).length).length≤5:=by unfold lenBytes;(repeat' split)<;>simp
 omega
end Go.Q
namespace Go.Proofs.YteidmhkobmddiaaGreatDoor
open Go Go.RowKit Go.Q
theorem contents_bad (v:Value)(o:List Int)(w:World)(h:Ints w v o)(ho:oidOk o=false) :
  Calls Tryz.prog 255 #[v] w fun e w'=>e=.returned (.tuple #[.slice none 0 0,.int .i64 1])∧w=w':=by
 have hR:=Hi (oidRight_any v o w h);rw[ho]at hR
 clear h;go_enter Tryz.func255,Tryz.ntmps255
 go_wp2_with fail
 refine hR.out.mono ?_;rintro e w' ⟨rfl,rfl⟩;go_wp2_with fail
 exact bodyPost_ret (v:=.tuple #[.slice none 0 0,.int .i64 1]) (by simp[results,Tryz.results255,go_sem]) rfl ⟨rfl,rfl⟩
theorem oidWrite_bad (v:Value)(o:List Int)(w:World)(h:Ints w v o)(ho:oidOk o=false) :
  Calls Tryz.prog 204 #[v] w fun e w'=>e=.returned (.tuple #[.slice none 0 0,.int .i64 1])∧w=w':=by
 have hR:=Hi (contents_bad v o w h ho);clear h;go_enter Tryz.func204,Tryz.ntmps204
 go_wp2_with fail
 refine hR.out.mono ?_;rintro e w' ⟨rfl,rfl⟩;go_wp2_with fail
 exact bodyPost_ret (v:=.tuple #[.slice none 0 0,.int .i64 1]) (by simp[results,Tryz.results204,go_sem]) rfl ⟨rfl,rfl⟩
theorem single_any (v:Value)(l:List UInt8)(w:World)(h:Bytes w v l)(hl:l.length≤1099511627776) :
  Calls Tryz.prog 205 #[v] w fun e w'=>e=.returned (.bool (singleB l))∧Fz w w':=by
 have hN:=Hi (new_any w v l h hl);clear h;go_enter Tryz.func205,Tryz.ntmps205
 go_wp2_with fail
 refine hN.out.mono ?_;rintro e w1 ⟨rfl,C1,F1⟩;have HC:=Hi C1;have HF:=Hi F1;obtain⟨c,hc⟩:∃ c,c=w.heap.size:=⟨_,rfl⟩
 rw[←hc]at HC ⊢
 have HCC:=Hi hc;clear C1 F1 hN hc;go_wp2_with fail
 refine(wholes_any HC.out).mono ?_
 rintro e w2 ⟨hout,F2⟩;rw[List.drop_zero]at hout
 have G2:=HF.out.trans' F2 (fun i hi e=>absurd hi (by rw[e,HCC.out];exact Nat.lt_irrefl _));unfold wholesOut at hout;have HG:=Hi G2;clear F2 G2 HF;cases hr:allS l with
 |error x=>
  rw[hr]at hout
  subst hout;have hx1:(x==0)=false:=beq_eq_false_iff_ne.2 (allS_pos hr);have hs:singleB l=false:=by unfold singleB;rw[hr]
  go_wp2_with fail
  go_ret;exact⟨by rw[hs];rfl,HG.out⟩
 |ok ls=>
  rw[hr]at hout
  obtain⟨a,cap,rfl⟩:=hout
  by_cases h1:ls.length=1
  ·have hs:singleB l=true:=by unfold singleB;rw[hr];simp[h1]
   have q1:((ls.length:Int)==1)=true:=by rw[h1];rfl
   have q2:(ls.length==1)=true:=by rw[h1];rfl
   go_wp2_with fail
   go_ret;exact⟨by rw[hs];rfl,HG.out⟩
  ·have hs:singleB l=false:=by unfold singleB;rw[hr];simp[h1]
   have q1:((ls.length:Int)==1)=false:=beq_eq_false_iff_ne.2 (by omega);have q2:(ls.length==1)=false:=beq_eq_false_iff_ne.2 (by omega);go_wp2_with fail
   go_ret;exact⟨by rw[hs];rfl,HG.out⟩
theorem Parts.two {w:World}{u1 u2:Value}{l1 l2:List UInt8}(h1:Bytes w u1 l1)(h2:Bytes w u2 l2):Parts (w.alloc (.cells #[u1,u2] 32)) (.slice (some ⟨w.heap.size,0,none⟩) 2 2) [l1,l2]:=by
 have F:Fz w (w.alloc (.cells #[u1,u2] 32)):=(Fr.refl w).alloc _;refine⟨[u1,u2],Vals.of_block (Blk.new w 32 #[u1,u2]) (by unfold maxLen;simp),rfl,fun i u l hu hl=>?_⟩
 match i,hu,hl with
 |0,hu,hl=>
  simp only[List.getElem?_cons_zero,Option.some.injEq]at hu hl
  subst hu;subst hl;exact h1.old F
 |1,hu,hl=>
  simp only[List.getElem?_cons_succ,List.getElem?_cons_zero,Option.some.injEq]at hu hl
  subst hu;subst hl;exact h2.old F
 |i+2,hu,hl=>simp at hu
def wholeOut (w w':World)(o:List Int)(b:List UInt8)(v:Value):Prop:=
 match attrS o b with
 |none=>v=.slice none 0 0
 |some x=>w'.ownsRow w.heap.size 5 1 v x.length (Lib.byteCells x)
theorem whole_any (x y:Value)(o:List Int)(b:List UInt8)(w:World)(hx:Ints w x o)(hy:Bytes w y b)(hl:b.length≤10000000) :
  Calls Tryz.prog 149 #[.agg #[x,y]] w fun e w'=>∃ v,e=.returned v∧wholeOut w w' o b v∧Fz w w':=by
 obtain⟨ax,cx,rfl,-⟩:=Ints.form hx
 obtain⟨ay,cy,rfl,-⟩:=Vals.form hy
 obtain⟨z,hz⟩:∃ z,z=w.heap.size:=⟨_,rfl⟩
 have BZ:=Blk.new w 145 #[.slice ax o.length cx,.slice ay b.length cy];have F0:Fz w (w.alloc (.cells #[.slice ax o.length cx,.slice ay b.length cy] 145)):=(Fr.refl w).alloc _;have HX:=Hi (hx.old F0);have HY:=Hi (hy.old F0);rw[←hz]at BZ
 have HF0:=Hi F0;have HZ:=Hi hz;clear hx hy F0 hz;go_enter Tryz.func149,Tryz.ntmps149
 go_upto_region 1 with fail
 rw[←HZ.out]
 generalize (w.alloc (.cells #[.slice ax o.length cx,.slice ay b.length cy] 145))=w0 at *
 have z0:=BZ.cell 0;simp at z0
 by_cases ho:oidOk o=true
 ·go_wp2_with fail
  refine(oidWrite_any _ o w0 HX.out ho).mono ?_
  rintro e w1 ⟨v1,rfl,ho1,F1⟩;have hb1:=Hi (Vals.of_own ho1).1;obtain⟨a1,c1,rfl,-⟩:=hb1.out.form
  have BZ1:=BZ.fr F1 (fun h=>h);have z1:=BZ1.cell 1;simp at z1
  have HF1:=Hi (HF0.out.trans F1);have HY1:=Hi (HY.out.old F1);clear ho1 F1 HF0 HY;go_wp2_with fail
  refine(single_any _ b w1 HY1.out (by omega)).mono ?_
  rintro e w2 ⟨rfl,F2⟩;have BZ2:=BZ1.fr F2 (fun h=>h);have z2:=BZ2.cell 1;simp at z2
  have HF2:=Hi (HF1.out.trans F2);have HY2:=Hi (HY1.out.old F2);have HB2:=Hi (hb1.out.old F2);clear F2 HF1 HY1 hb1 z1 BZ BZ1;cases hs:singleB b with
  |false=>
   have hn:attrS o b=none:=by unfold attrS;rw[ho,hs];rfl
   have HN:=Hi hn;clear hn;go_wp2_with fail
   refine bodyPost_ret (v:=.slice none 0 0) (by simp[results,Tryz.results149,go_sem]) rfl ⟨_,rfl,?_,HF2.out⟩;unfold wholeOut;rw[HN.out]
  |true=>
   have hn:attrS o b=some (wrapS (tagOf 16) (oidWhole o++b)):=by unfold attrS;rw[ho,hs];rfl
   have HN:=Hi hn;clear hn;have hp:=Parts.two HB2.out HY2.out;have hol:=oidWhole_len (nums_ok ho).2.1;have hW:=sequence_any _ [oidWhole o,b] _ hp (by simp only[List.flatten_cons,List.flatten_nil,List.length_append,List.length_nil];omega) (by simp);simp only[List.flatten_cons,List.flatten_nil,List.append_nil]at hW
   have HW:=Hi hW;have F3:Fz w2 (w2.alloc (.cells #[.slice a1 (oidWhole o).length c1,.slice ay b.length cy] 32)):=(Fr.refl w2).alloc _;have HF3:=Hi (HF2.out.trans F3);clear hp hW F3 HF2 HY2 HB2;go_wp2_with fail
   refine HW.out.mono ?_;rintro e w3 ⟨v3,rfl,ho3,F4⟩;have HO3:=Hi (own_le ho3 HF3.out.size);have HF4:=Hi (HF3.out.trans F4);obtain⟨a3,c3,rfl,-⟩:=(Vals.of_own ho3).1.form
   clear ho3 F4 HF3 HW;go_wp2_with fail
   refine bodyPost_ret (v:=.slice a3 (wrapS (tagOf 16) (oidWhole o++b)).length c3) (by simp[results,Tryz.results149,go_sem]) rfl ⟨_,rfl,?_,HF4.out⟩;unfold wholeOut;rw[HN.out]
   exact HO3.out
 ·have ho:=Bool.eq_false_iff.2 ho
  have hn:attrS o b=none:=by unfold attrS;rw[ho];rfl
  have HN:=Hi hn;clear hn;go_wp2_with fail
  refine(oidWrite_bad _ o w0 HX.out ho).mono ?_
  rintro e w1 ⟨rfl,rfl⟩;go_wp2_with fail
  refine bodyPost_ret (v:=.slice none 0 0) (by simp[results,Tryz.results149,go_sem]) rfl ⟨_,rfl,?_,HF0.out⟩;unfold wholeOut;rw[HN.out]
theorem parted_any (x y:Value)(a b:List UInt8)(w:World)(hx:Bytes w x a)(hy:Bytes w y b)(ha:a.length≤1099511627776)(hb:b.length≤1099511627776) :
  Calls Tryz.prog 121 #[x,y] w fun e w'=>e=.returned (.int .i64 (partS a b))∧Fz w w':=by
 obtain⟨ax,cx,rfl,_,_,hx⟩:=Vals.form hx
 obtain⟨ay,cy,rfl,_,_,hy⟩:=Vals.form hy
 have HX:=Hi hx;have HY:=Hi hy;obtain⟨m,hm⟩:∃ m,m=min a.length b.length:=⟨_,rfl⟩
 have hmin:min (a.length:Int) (b.length:Int)=(m:Int):=by omega
 have HM:=Hi hm;clear hx hy hm;go_enter Tryz.func121,Tryz.ntmps121
 go_wp2_with fail
 all_goals
  go_loopg [13] m (fun g i wr=>∃ j:Nat,g=m-j∧j≤m∧i=.int .i64 j∧(∀ t,t<j→a[t]? = b[t]?)∧Fz w wr)
  case atStart=>exact⟨0,rfl,Nat.zero_le _,rfl,fun t ht=>absurd ht (Nat.not_lt_zero _),Fr.refl _⟩
  case round=>
   obtain⟨j,hg,hj,rfl,he,F⟩:=hrel
   have HG:=Hi hg;have HE:=Hi he;have hmm:=HM.out;clear hg he;by_cases hjm:j<m
   ·obtain⟨ba,oa,rfl,ga⟩:=HX.out (by omega)
    obtain⟨bb,ob,rfl,gb⟩:=HY.out (by omega)
    obtain⟨xa,hxa⟩:∃ x,a[j]? = some x:=⟨_,List.getElem?_eq_getElem (by omega)⟩
    obtain⟨xb,hxb⟩:∃ x,b[j]? = some x:=⟨_,List.getElem?_eq_getElem (by omega)⟩
    have ea:=F.cell (ga j xa hxa) (fun h=>h);have eb:=F.cell (gb j xb hxb) (fun h=>h);have HXA:=Hi hxa;have HXB:=Hi hxb;have q1:(j:Int)<(a.length:Int):=by omega
    have q2:(j:Int)<(b.length:Int):=by omega
    have q3:(0:Int)≤(j:Int):=by omega
    clear ga gb hxa hxb;by_cases hxx:xa=xb
    ·subst hxx
     go_wp2_with fail
     go_quiet (fail)
     go_wp2_with fail
     go_roundg (m-(j+1))
     case measure=>rw[HG.out];omega
     case rel=>
      refine⟨j+1,rfl,by omega,by go_num,fun t ht=>?_,F.drewN _⟩
      rcases Nat.lt_or_ge t j with h|h
      ·exact HE.out t h
      ·obtain rfl:t=j:=by omega
       rw[HXA.out,HXB.out]
    ·have q4:((xa.toNat:Int)==(xb.toNat:Int))=false:=beq_eq_false_iff_ne.2 (fun e=>hxx (UInt8.toNat_inj.1 (by omega)))
     go_wp2_with fail
     go_quiet (fail)
     go_wp2_with fail
     go_ret;have hp:=partS_uniq j a b (by omega) (by omega) HE.out (fun _ _=>by rw[HXA.out,HXB.out];intro e;exact hxx (Option.some.inj e));exact⟨by rw[hp];rfl,F.drewN _⟩
   ·obtain rfl:j=m:=by omega
    have hp:=partS_uniq j a b (by omega) (by omega) HE.out (fun h1 h2=>by omega);have HP:=Hi hp;clear hp;first|(have q:¬(j:Int)<(b.length:Int):=by omega)|(have q:¬(j:Int)<(a.length:Int):=by omega)|(have q:¬(j:Int)<((min a.length b.length:Nat):Int):=by omega)
    go_wp2_with fail
    go_ret;refine⟨?_,F⟩
    rw[HP.out]
    first|(rw[show (j:Int)=(b.length:Int) from by omega];rfl)|(rw[show (j:Int)=(a.length:Int) from by omega];rfl)|(rw[show (j:Int)=((min a.length b.length:Nat):Int) from by omega];rfl)
theorem compare_any (x y:Value)(a b:List UInt8)(w:World)(hx:Bytes w x a)(hy:Bytes w y b)(ha:a.length≤1099511627776)(hb:b.length≤1099511627776) :
  Calls Tryz.prog 150 #[x,y] w fun e w'=>e=.returned (.int .i64 (cmpS a b))∧Fz w w':=by
 have HP:=Hi (parted_any x y a b w hx hy ha hb);obtain⟨ax,cx,rfl,_,_,hx⟩:=Vals.form hx
 obtain⟨ay,cy,rfl,_,_,hy⟩:=Vals.form hy
 have HX:=Hi hx;have HY:=Hi hy;have hc:=cmpS_part a b;obtain⟨n,hn⟩:∃ n,n=partS a b:=⟨_,rfl⟩
 obtain⟨l1,l2⟩:=partS_le a b
 rw[←hn]at hc HP l1 l2
 clear hx hy hn;go_enter Tryz.func150,Tryz.ntmps150
 go_wp2_with fail
 refine HP.out.mono ?_;rintro e w1 ⟨rfl,F1⟩;have HF:=Hi F1;by_cases h1:n<a.length
 ·have q1:(n:Int)<(a.length:Int):=by omega
  by_cases h2:n<b.length
  ·have q2:(n:Int)<(b.length:Int):=by omega
   rw[if_pos ⟨h1,h2⟩]at hc
   obtain⟨ba,oa,rfl,ga⟩:=HX.out (by omega)
   obtain⟨bb,ob,rfl,gb⟩:=HY.out (by omega)
   obtain⟨xa,hxa⟩:∃ x,a[n]? = some x:=⟨_,List.getElem?_eq_getElem (by omega)⟩
   obtain⟨xb,hxb⟩:∃ x,b[n]? = some x:=⟨_,List.getElem?_eq_getElem (by omega)⟩
   have ea:=F1.cell (ga n xa hxa) (fun h=>h);have eb:=F1.cell (gb n xb hxb) (fun h=>h);rw[List.getD_eq_getElem?_getD,List.getD_eq_getElem?_getD,hxa,hxb,Option.getD_some,Option.getD_some]at hc
   have q3:(0:Int)≤(n:Int):=by omega
   by_cases h3:xa.toNat<xb.toNat
   ·rw[if_pos h3]at hc
    have HC:=Hi hc;have q4:(xa.toNat:Int)<(xb.toNat:Int):=by omega
    clear ga gb hxa hxb hc F1;go_wp2_with fail
    go_quiet (fail)
    go_wp2_with fail
    go_ret;exact⟨by rw[HC.out];rfl,HF.out.drewN _⟩
   ·rw[if_neg h3]at hc
    have HC:=Hi hc;have q4:¬(xa.toNat:Int)<(xb.toNat:Int):=by omega
    clear ga gb hxa hxb hc F1;go_wp2_with fail
    go_quiet (fail)
    go_wp2_with fail
    go_ret;exact⟨by rw[HC.out];rfl,HF.out.drewN _⟩
  ·have q2:¬(n:Int)<(b.length:Int):=by omega
   rw[if_neg (fun h=>h2 h.2),if_neg h2,if_pos h1]at hc
   have HC:=Hi hc;clear hc F1;go_wp2_with fail
   go_ret;exact⟨by rw[HC.out];rfl,HF.out⟩
 ·have q1:¬(n:Int)<(a.length:Int):=by omega
  rw[if_neg (fun h=>h1 h.1)]at hc
  by_cases h2:n<b.length
  ·have q2:(n:Int)<(b.length:Int):=by omega
   rw[if_pos h2]at hc
   have HC:=Hi hc;clear hc F1;go_wp2_with fail
   go_ret;exact⟨by rw[HC.out];rfl,HF.out⟩
  ·have q2:¬(n:Int)<(b.length:Int):=by omega
   rw[if_neg h2,if_neg h1]at hc
   have HC:=Hi hc;clear hc F1;go_wp2_with fail
   go_ret;exact⟨by rw[HC.out];rfl,HF.out⟩
end Go.Proofs.YteidmhkobmddiaaGreatDoor
