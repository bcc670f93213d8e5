/-
  Merged by program: XIxOrder XIxBack XPartEq XIxLik XIxIx1 XWh3 XWh4 XWh5 XNSub XNOpen XNOidR XGenB XGenR XHostS XNStrS XGenH XGenK XNOidQ XNAttrR XNRdnR.
-/
import Derived.Test.YtehlipgmkinfbaaGreatDoorN0ao
import Derived.IntWalk
import Derived.Laws.Strings3
set_option linter.unusedSimpArgs false
set_option maxRecDepth 100000
set_option maxHeartbeats 8000000
namespace Go.Q

instance:DecidableEq Part:=fun p q=>if h:p.o=q.o∧p.b=q.b then isTrue (by cases p;cases q;simp_all) else isFalse (fun e=>h (by rw[e];exact⟨rfl,rfl⟩))
def likeRow (a b:RowP):Bool:=decide (madeS a.num=madeS b.num)&&(decide (a.date=b.date)&&(decide (a.reason=b.reason)&&(decide (a.inv=b.inv)&&decide (a.iss=b.iss))))
def likeRows:List RowP→List RowP→Bool
 | [],[]=>true
 |x::l,y::m=>likeRow x y&&likeRows l m
 |_,_=>false
theorem likeRow_n (r:RowP):likeRow (nrow r) r=true:=by simp[likeRow,nrow,made_made]
theorem likeRow_self (r:RowP):likeRow r r=true:=by simp[likeRow]
theorem likeRows_n:∀ l:List RowP,likeRows (l.map nrow) l=true
 | []=>rfl
 |x::l=>by
  rw[List.map_cons]
  unfold likeRows;rw[likeRow_n,likeRows_n l]
  rfl
theorem likeRows_self:∀ l:List RowP,likeRows l l=true
 | []=>rfl
 |x::l=>by
  unfold likeRows;rw[likeRow_self,likeRows_self l]
  rfl
def okRows (l:List RowP):Bool:=l.all (fun r=>nameOk r.iss)
def newIx (l:List RowP):Except Int (List RowP):=if okRows l=true then (match newR [] l with|none=>.error 10|some o=>.ok (o.map nrow)) else .error 1
def newRef (l:List RowP):Except Int (List RowP):=if okRows l=true then (match newR [] l with|none=>.error 10|some o=>.ok o) else .error 1
theorem newIx_ref (l:List RowP):newIx l=(newRef l).map (List.map nrow):=by
 unfold newIx newRef;split
 ·cases newR [] l<;>rfl
 ·rfl
def leastStep (o:List RowP)(r:RowP):List RowP:=if nameOk r.iss=true then (if (placeR r o 0).2=true then o else ((newR [] (o++[r])).getD [])) else o
def leastL:List RowP→List RowP→List RowP→List RowP × List RowP
 | [],l,o=>(l,o)
 |r::t,l,o=>if nameOk r.iss=true∧(placeR r o 0).2=false then leastL t (l++[r]) ((newR [] (o++[r])).getD []) else leastL t l o
open Go Go.RowKit
def labGo (done:List (List UInt8))(one:List UInt8):List UInt8→Option (List (List UInt8))
 | []=>if 1≤one.length∧one.length≤63 then some (done++[one]) else none
 |c::t=>if c=46 then (if 1≤one.length∧one.length≤63 then labGo (done++[one]) [] t else none) else if labelC c then labGo done (one++[c]) t else none
def labL (l:List UInt8):Bool:=decide (1≤l.length∧l.length≤63)&&l.all labelC
def labelsS (l:List UInt8):Option (List (List UInt8)):=if 253<(dotS (lowerS l)).length then none else labGo [] [] (dotS (lowerS l))
def Blf (w:World)(b:Nat)(t:TypeId)(cs:Array Value):Prop:=w.heap[b]? = some (.cells cs t (cs.size,cs.size+1))
theorem Blf.cell {w:World}{b:Nat}{t:TypeId}{cs:Array Value}(h:Blf w b t cs)(i:Nat):w.cell? ⟨b,i,none⟩=cs[i]?:=by
 unfold Blf at h;simp[World.cell?,h]
theorem Blf.frozen {w:World}{b:Nat}{t:TypeId}{cs:Array Value}(h:Blf w b t cs){i:Nat}(hi:i<cs.size):w.frozen? ⟨b,i,none⟩=false:=by
 unfold Blf at h;simp only[World.frozen?,h]
 simp
 omega
theorem Blf.set {w:World}{b:Nat}{t:TypeId}{cs:Array Value}(h:Blf w b t cs)(i:Nat)(v:Value):Blf (w.setCell ⟨b,i,none⟩ v) b t (cs.setIfInBounds i v):=by
 unfold Blf at *;simp[World.setCell,Array.getElem?_modify,h]
theorem Blf.bytes {w:World}{b:Nat}{t:TypeId}{cs:Array Value}(h:Blf w b t cs){l:List UInt8}{n c:Nat}(hn:n=l.length)(hc:l.length≤c)(hm:c≤maxLen)(hl:∀ (i:Nat) (x:UInt8),l[i]? = some x→cs[i]? = some (Value.int .u8 x.toNat)):Bytes w (.slice (some ⟨b,0,none⟩) n c) l:=by
 subst hn;refine⟨_,c,by rw[byteCells_len],by rw[byteCells_len];exact hc,hm,fun _=>⟨b,0,rfl,fun i u hu=>?_⟩⟩
 rw[byteCells_get]at hu
 cases hli:l[i]? with
 |none=>rw[hli]at hu;cases hu
 |some x=>
  rw[hli]at hu
  simp only[Option.map_some,Option.some.injEq]at hu
  subst hu;rw[Nat.zero_add,h.cell i]
  exact hl i x hli
end Go.Q
namespace Go.Proofs.YtehlipgmkinfbaaGreatDoor
open Go Go.RowKit Go.Q
theorem str_list (a:List UInt8):(ByteArray.mk a.toArray).toList=a:=by
 rw[ByteArray.toList_eq]
theorem run_gtr (t:TypeId)(a b:List UInt8)(W:World):(binOp .gtr t (str a) (str b)).run Tryz.prog W=.ok (.bool (decide (b<a))) W:=by
 rw[←greater_of a b]
 simp[binOp,Op.stringOp,str,str_list]
theorem isNaN_any (a:List UInt8)(w:World) :
  Calls Tryz.prog 108 #[str a] w fun e w'=>e=.returned (.bool false)∧Fz w w':=by
 have q1:(a==a)=true:=by simp
 have q2:(a != a)=false:=by simp
 go_enter Tryz.func108,Tryz.ntmps108
 go_wp2_with fail
 go_ret;exact⟨rfl,Fr.refl w⟩
theorem cmpStr_any (a b:List UInt8)(w:World) :
  Calls Tryz.prog 69 #[str a,str b] w fun e w'=>e=.returned (.int .i64 (cmpL a b))∧Fz w w':=by
 have hl:Op.bytesLess a b=decide (a<b):=less_of;have hg:(!(Op.bytesLess a b||a==b))=decide (b<a):=greater_of a b;obtain⟨p,hp⟩:∃ p,p=decide (a<b):=⟨_,rfl⟩
 obtain⟨q,hq⟩:∃ q,q=decide (b<a):=⟨_,rfl⟩
 have HP:=Hi hp;have HQ:=Hi hq;rw[←hp]at hl
 rw[←hq]at hg
 clear hp hq;go_enter Tryz.func69,Tryz.ntmps69
 go_wp2_with fail
 refine(isNaN_any a w).mono ?_
 rintro e w1 ⟨rfl,F1⟩;go_wp2_with fail
 refine(isNaN_any b w1).mono ?_
 rintro e w2 ⟨rfl,F2⟩;have HF:=Hi (F1.trans F2);clear F1 F2;cases p with
 |true=>
  have h1:a<b:=of_decide_eq_true HP.out.symm;have HE:=Hi (show cmpL a b=-1 from by unfold cmpL;rw[if_pos h1]);clear h1 hg;go_wp2_with fail
  go_ret;exact⟨by first|rfl|(rw[HE.out];done)|(rw[HE.out];rfl),HF.out⟩
 |false=>
  have h1:¬a<b:=of_decide_eq_false HP.out.symm;have hgt:=fun W=>run_gtr 9 a b W
  rw[←HQ.out]at hgt
  clear hg;cases q with
  |true=>
   have h2:b<a:=of_decide_eq_true HQ.out.symm;have HE:=Hi (show cmpL a b=1 from by unfold cmpL;rw[if_neg h1,if_pos h2]);clear h1 h2;go_wp2_with fail
   go_ret;exact⟨by first|rfl|(rw[HE.out];done)|(rw[HE.out];rfl),HF.out⟩
  |false=>
   have h2:¬b<a:=of_decide_eq_false HQ.out.symm;have HE:=Hi (show cmpL a b=0 from by unfold cmpL;rw[if_neg h1,if_neg h2]);clear h1 h2;go_wp2_with fail
   go_ret;exact⟨by first|rfl|(rw[HE.out];done)|(rw[HE.out];rfl),HF.out⟩
theorem cmpOr_any (b:Nat)(x y r:Int)(hr:r=(if x=0 then y else x))(w:World)(B:Blk w b 3 #[.int .i64 x,.int .i64 y]) :
  Calls Tryz.prog 68 #[.slice (some ⟨b,0,none⟩) 2 2] w fun e w'=>e=.returned (.int .i64 r)∧Fz w w':=by
 have HB:=Hi B;have HR:=Hi hr;clear B hr;go_enter Tryz.func68,Tryz.ntmps68
 go_wp2_with fail
 go_loopg [8] 2 (fun g i wr=>∃ j:Nat,g=2-j∧j≤2∧i=.int .i64 j∧Hid (0<j→x=0)∧Hid (1<j→y=0)∧Fz w wr)
 case atStart=>exact⟨0,rfl,by omega,rfl,Hi (fun h=>absurd h (by omega)),Hi (fun h=>absurd h (by omega)),Fr.refl _⟩
 case round=>
  obtain⟨j,hg,hj,rfl,H0,H1,F⟩:=hrel
  have HG:=Hi hg;have HF:=Hi F;have e0:=(HB.out.fr F (fun h=>h)).cell 0;have e1:=(HB.out.fr F (fun h=>h)).cell 1;simp only[SG]at e0 e1
  clear hg F;rcases (by omega:j=0∨j=1∨j=2) with rfl|rfl|rfl
  ·by_cases hx:x=0
   ·have q1:(x==0)=true:=by simp[hx]
    have q2:(x != 0)=false:=by simp[hx]
    have HX:=Hi hx;clear hx;go_wp2_with fail
    go_roundg (2-1)
    case measure=>rw[HG.out];omega
    case rel=>exact⟨1,rfl,by omega,by go_num,Hi (fun _=>HX.out),Hi (fun h=>absurd h (by omega)),HF.out⟩
   ·have q1:(x==0)=false:=by simp[hx]
    have q2:(x != 0)=true:=by simp[hx]
    have HE:=Hi (show r=x from by rw[HR.out,if_neg hx]);clear hx;go_wp2_with fail
    go_ret;exact⟨by first|rfl|(rw[HE.out];done)|(rw[HE.out];rfl),HF.out⟩
  ·have hx:=H0.out (by omega)
   by_cases hy:y=0
   ·have q1:(y==0)=true:=by simp[hy]
    have q2:(y != 0)=false:=by simp[hy]
    have HY:=Hi hy;have HX:=Hi hx;clear hy hx;go_wp2_with fail
    go_roundg (2-2)
    case measure=>rw[HG.out];omega
    case rel=>exact⟨2,rfl,by omega,by go_num,Hi (fun _=>HX.out),Hi (fun _=>HY.out),HF.out⟩
   ·have q1:(y==0)=false:=by simp[hy]
    have q2:(y != 0)=true:=by simp[hy]
    have HE:=Hi (show r=y from by rw[HR.out,if_pos hx]);clear hy hx;go_wp2_with fail
    go_ret;exact⟨by first|rfl|(rw[HE.out];done)|(rw[HE.out];rfl),HF.out⟩
  ·have hx:=H0.out (by omega)
   have hy:=H1.out (by omega);have HE:=Hi (show r=0 from by rw[HR.out,if_pos hx,hy]);clear hx hy;go_wp2_with fail
   go_ret;exact⟨by first|rfl|(rw[HE.out];done)|(rw[HE.out];rfl),HF.out⟩
theorem order_any (ka kb:List UInt8)(x y:NumT)(a1 a2 b1 b2:Option Addr)(n1 n2 c1 c2 e1 e2:Nat)(d1 d2 r1 r2:Int)(p1 p2:Option Addr)(w:World)(h:Bytes w (.slice a2 x.size.length c2) x.size)(hu:Bytes w (.slice b2 y.size.length e2) y.size)(h1:x.size.length≤10000000000)(h2:y.size.length≤10000000000) :
  Calls Tryz.prog 39 #[.agg #[str ka,.slice a1 n1 c1,.bool x.below,.slice a2 x.size.length c2,.int .i64 d1,.int .i64 r1,.pointer p1],.agg #[str kb,.slice b1 n2 e1,.bool y.below,.slice b2 y.size.length e2,.int .i64 d2,.int .i64 r2,.pointer p2]] w fun e w'=>e=.returned (.int .i64 (if cmpL ka kb=0 then numC x y else cmpL ka kb))∧Fz w w':=by
 obtain⟨r,hr⟩:∃ r,r=(if cmpL ka kb=0 then numC x y else cmpL ka kb):=⟨_,rfl⟩
 have HR:=Hi hr;rw[←hr]
 clear hr;obtain⟨z,hz⟩:∃ z,z=w.heap.size:=⟨_,rfl⟩
 have HZ:=Hi hz;have F0:Fz w ((w.alloc (.cells #[str ka,.slice a1 n1 c1,.bool x.below,.slice a2 x.size.length c2,.int .i64 d1,.int .i64 r1,.pointer p1] 78)).alloc (.cells #[str kb,.slice b1 n2 e1,.bool y.below,.slice b2 y.size.length e2,.int .i64 d2,.int .i64 r2,.pointer p2] 78)):=((Fr.refl w).alloc _).alloc _;have BA:=(Blk.new w 78 #[str ka,.slice a1 n1 c1,.bool x.below,.slice a2 x.size.length c2,.int .i64 d1,.int .i64 r1,.pointer p1]).alloc (.cells #[str kb,.slice b1 n2 e1,.bool y.below,.slice b2 y.size.length e2,.int .i64 d2,.int .i64 r2,.pointer p2] 78)
 have BB:=Blk.new (w.alloc (.cells #[str ka,.slice a1 n1 c1,.bool x.below,.slice a2 x.size.length c2,.int .i64 d1,.int .i64 r1,.pointer p1] 78)) 78 #[str kb,.slice b1 n2 e1,.bool y.below,.slice b2 y.size.length e2,.int .i64 d2,.int .i64 r2,.pointer p2];rw[World.size_alloc,←hz]at BB
 rw[←hz]at BA
 have HC:=Hi (fun W (F:Fz ((w.alloc (.cells #[str ka,.slice a1 n1 c1,.bool x.below,.slice a2 x.size.length c2,.int .i64 d1,.int .i64 r1,.pointer p1] 78)).alloc (.cells #[str kb,.slice b1 n2 e1,.bool y.below,.slice b2 y.size.length e2,.int .i64 d2,.int .i64 r2,.pointer p2] 78)) W)=>wCompare_any x.below y.below _ _ x.size y.size W ((h.old F0).old F) ((hu.old F0).old F) h1 h2);rw[show (⟨x.below,x.size⟩:NumT)=x from rfl,show (⟨y.below,y.size⟩:NumT)=y from rfl]at HC
 have HF0:=Hi F0;clear h hu hz F0 h1 h2;go_enter Tryz.func39,Tryz.ntmps39
 go_upto_region 1 with fail
 rw[←HZ.out]
 generalize ((w.alloc (.cells #[str ka,.slice a1 n1 c1,.bool x.below,.slice a2 x.size.length c2,.int .i64 d1,.int .i64 r1,.pointer p1] 78)).alloc (.cells #[str kb,.slice b1 n2 e1,.bool y.below,.slice b2 y.size.length e2,.int .i64 d2,.int .i64 r2,.pointer p2] 78))=w0 at *
 replace BA:=BA.drew;replace BB:=BB.drew;have G:Fz w0 w0.drew:=(Fr.refl w0).drew;go_region_held3 (fun w'=>(∀ j,w'.cell? ⟨z,j,none⟩=(#[str ka,.slice a1 n1 c1,.bool x.below,.slice a2 x.size.length c2,.int .i64 d1,.int .i64 r1,.pointer p1]:Array Value)[j]?)∧∀ j,w'.cell? ⟨z+1,j,none⟩=(#[str kb,.slice b1 n2 e1,.bool y.below,.slice b2 y.size.length e2,.int .i64 d2,.int .i64 r2,.pointer p2]:Array Value)[j]?) (first|(with_reducible exact⟨BA.cell,BB.cell⟩)|(with_reducible exact⟨(BA.alloc _).cell,(BB.alloc _).cell⟩)|fail) (first
  |(go_at_call 69;refine(cmpStr_any ka kb _).mono ?_;rintro e w' ⟨rfl,F⟩;replace BA:=BA.fr F (fun h=>h);replace BB:=BB.fr F (fun h=>h);replace G:=G.trans F;clear F)
  |(go_at_call 70;(with_reducible refine(HC.out _ G).mono ?_);rintro e w' ⟨rfl,F⟩;replace BA:=BA.fr F (fun h=>h);replace BB:=BB.fr F (fun h=>h);replace G:=G.trans F;clear F HC;have BO:=Blk.new w' 3 #[.int .i64 (cmpL ka kb),.int .i64 (numC x y)];have GO:=G.alloc (.cells #[.int .i64 (cmpL ka kb),.int .i64 (numC x y)] 3);have HO:=Hi (cmpOr_any _ (cmpL ka kb) (numC x y) r HR.out _ BO);clear BO)
  |(go_at_call 68;refine HO.out.mono ?_;rintro e w2 ⟨rfl,F⟩;replace BA:=(BA.alloc (.cells #[.int .i64 (cmpL ka kb),.int .i64 (numC x y)] 3)).fr F (fun h=>h);replace BB:=(BB.alloc (.cells #[.int .i64 (cmpL ka kb),.int .i64 (numC x y)] 3)).fr F (fun h=>h);have GE:=GO.trans F;clear F HO GO)
  |fail)
 all_goals
  have HGE:=Hi (HF0.out.trans GE);clear GE G BA BB;go_wp2_with fail
  go_ret;exact⟨rfl,HGE.out⟩
theorem slots_any (v:Value)(l:List RowP)(w:World)(h:IxAt w v l) :
  Calls Tryz.prog 45 #[v] w fun e w'=>(∃ a c,e=.returned (.slice a l.length c)∧Slots w (.slice a l.length c) l)∧Fz w w':=by
 rcases h with ⟨rfl,rfl⟩|⟨b,u,rfl,hc,hs⟩
 ·go_enter Tryz.func45,Tryz.ntmps45
  go_wp2_with fail
  go_ret;exact⟨⟨none,0,rfl,none,0,rfl,Nat.le_refl _,by unfold maxLen;omega,fun h=>absurd h (by decide)⟩,Fr.refl w⟩
 ·have hs0:=hs
  obtain⟨a,c,rfl,-⟩:=hs0
  have HS:=Hi hs;clear hs;go_enter Tryz.func45,Tryz.ntmps45
  go_wp2_with fail
  go_ret;exact⟨⟨a,c,rfl,HS.out⟩,Fr.refl w⟩
theorem ixLen_any (v:Value)(l:List RowP)(w:World)(h:IxAt w v l) :
  Calls Tryz.prog 13 #[v] w fun e w'=>e=.returned (.int .i64 l.length)∧Fz w w':=by
 have H:=Hi (slots_any v l w h);clear h;go_enter Tryz.func13,Tryz.ntmps13
 go_wp2_with fail
 refine H.out.mono ?_;rintro e w1 ⟨⟨a,c,rfl,hs⟩,F1⟩;clear hs;go_wp2_with fail
 go_ret;exact⟨rfl,F1⟩
theorem made_zero (n:Nat):(madeCells #[.int .u8 0] n).toList=Lib.byteCells (List.replicate n 0):=by
 apply List.ext_getElem?
 intro i;rw[byteCells_get]
 rcases Nat.lt_or_ge i n with h|h
 ·simp[madeCells,h,Nat.mod_one]
 ·rw[List.getElem?_eq_none (by simpa [madeCells] using h),List.getElem?_eq_none (by simpa using h)]
  rfl
theorem copy_end (w:World)(g n:Nat)(l:List UInt8)(hl:l.length≤n)(B:Blk w g 5 (Lib.byteCells (List.replicate n 0)).toArray)(A:Option Addr)(hA:n-l.length<n→A=some ⟨g,n-l.length,none⟩)(sp:Option Addr)(scap:Nat)
  (hsrc:0<l.length→∃ b o,sp=some ⟨b,o,none⟩∧∀ i x,l[i]? = some x→w.cell? ⟨b,o+i,none⟩=some (.int .u8 x.toNat)) :
  ∃ w2,(Builtin.copy_ #[38,38] 3 #[.slice A (n-(n-l.length)) (n-(n-l.length)),.slice sp l.length scap]).run Tryz.prog w=.ok (goInt l.length) w2∧Blk w2 g 5 (Lib.byteCells (List.replicate (n-l.length) 0++l)).toArray∧Fr (fun k=>k=g) w w2:=by
 have hu:Tryz.prog.underlying 38=some (.slice 5):=Tryz.underlying38;have hs:(Tryz.prog.info? 5).map (·.size)=some 1:=by kernel_rfl
 rcases Nat.eq_zero_or_pos l.length with h0|h0
 ·obtain rfl:l=[]:=List.length_eq_zero_iff.1 h0
  refine⟨w,?_,by simpa using B,Fr.refl w⟩
  rw[run_copy_none (P:=Tryz.prog) w 38 38 3 5 _ _ _ _ _ _ hu hs (by simp)]
  rfl
 ·obtain⟨b,o,rfl,hx⟩:=hsrc h0
  rw[hA (by omega)]
  have hr:=run_copy_row (P:=Tryz.prog) w 38 38 3 5 g (n-l.length) (n-(n-l.length)) (n-(n-l.length)) ⟨b,o,none⟩ l.length scap _ 5 (Lib.byteCells l) hu hs B (by rw[byteCells_len];show _=min _ _;omega) (fun j v hj=>by
    rw[byteCells_get]at hj
    cases hlj:l[j]? with
    |none=>rw[hlj]at hj;cases hj
    |some x=>
     rw[hlj]at hj
     simp only[Option.map_some,Option.some.injEq]at hj
     subst hj;have:=hx j x hlj;rw[show (⟨b,o,none⟩:Addr).add j=⟨b,o+j,none⟩ from by unfold Addr.add;split<;>simp_all]
     exact this) (by rw[byteCells_len,List.size_toArray,byteCells_len,List.length_replicate];omega) (byteCells_one l)
  rw[byteCells_len]at hr
  have he:(((Lib.byteCells (List.replicate n 0)).toArray).toList.take (n-l.length)++Lib.byteCells l++((Lib.byteCells (List.replicate n 0)).toArray).toList.drop (n-l.length+l.length)).toArray=(Lib.byteCells (List.replicate (n-l.length) 0++l)).toArray:=by
   rw[show n-l.length+l.length=n from by omega,List.toList_toArray,byteCells_take,byteCells_drop,List.drop_eq_nil_of_le (by simp),List.take_replicate,show min (n-l.length) n=n-l.length from by omega]
   simp[Lib.byteCells]
  rw[he]at hr
  exact⟨_,hr,setRow_heap w g _ _ _ (0,0) B,⟨rfl,rfl,rfl,by simp[World.setRow],fun k _ hk=>setRow_other w g k _ hk⟩⟩
theorem wWide_any (v:Value)(l:List UInt8)(n:Nat)(w:World)(h:Bytes w v l)(hl:l.length≤n)(hn:n≤1099511627776) :
  Calls Tryz.prog 136 #[v,.int .i64 n] w fun e w'=>(e=.returned (.slice (some ⟨w.heap.size,0,none⟩) n n)∧Blk w' w.heap.size 5 (Lib.byteCells (List.replicate (n-l.length) 0++l)).toArray)∧Fz w w':=by
 obtain⟨a,c,rfl,hc,hm,hx⟩:=h.form
 obtain⟨z,hz⟩:∃ z,z=w.heap.size:=⟨_,rfl⟩
 have hmk:=make_bytes n hn w;rw[show madeCells #[.int .u8 0] n=(Lib.byteCells (List.replicate n 0)).toArray from Array.toList_inj.1 (by rw[made_zero])]at hmk
 obtain⟨M,hM⟩:∃ M,M=(Lib.byteCells (List.replicate n 0)).toArray:=⟨_,rfl⟩
 rw[←hM,←hz]at hmk
 have B1:=Blk.new w 5 M;rw[←hz]at B1
 have F1:Fz w (w.alloc (.cells M 5)):=(Fr.refl w).alloc _;obtain⟨A,hsl,hA⟩:=slice_rest (some ⟨z,0,none⟩) n n (Nat.le_refl _) (n-l.length) (by omega)
 have hA2:n-l.length<n→A=some ⟨z,n-l.length,none⟩:=fun h0=>by
  have:=hA h0 z 0 rfl;rwa[Nat.zero_add]at this
 obtain⟨w2,hcp,B2,F2⟩:=copy_end (w.alloc (.cells M 5)) z n l hl (by rw[←hM];exact B1) A hA2 a c (fun h0=>by
  obtain⟨b,o,rfl,hy⟩:=hx h0
  exact⟨b,o,rfl,fun i x hi=>F1.cell (hy i x hi) (fun h=>h)⟩)
 have HB2:=Hi B2;have HF2:=Hi (F1.trans' F2 (fun k hk e=>by omega));have HZ:=Hi hz;have hi:((n-l.length:Nat):Int)=(n:Int)-(l.length:Int):=by omega
 have hw1:IntKind.i64.wrap ((n:Int)-(l.length:Int))=(n:Int)-(l.length:Int):=IntWalk.i64_in _ (by omega);rw[hi]at hsl
 clear hx hM B1 F1 hA hA2 B2 F2 h hz hi hc hm;go_enter Tryz.func136,Tryz.ntmps136
 go_wp2_with fail
 go_ret;rw[←HZ.out]
 exact⟨⟨rfl,HB2.out⟩,HF2.out⟩
def StepAt (W:World)(bx bz bc gx gz:Nat)(l:List UInt8):Prop:=
 Blk W bx 38 #[.slice (some ⟨gx,0,none⟩) l.length l.length]∧Blk W bz 38 #[.slice (some ⟨gz,0,none⟩) l.length l.length]∧Blk W bc 3 #[.int .i64 0]∧Blk W gx 5 (Lib.byteCells l).toArray∧Blk W gz 5 (Lib.byteCells (List.replicate l.length 0)).toArray
theorem blk_same {w:World}{b:Nat}{t:TypeId}{cs:Array Value}(h:Blk w b t cs){i:Nat}{v:Value}(hv:cs[i]? = some v):Blk (w.setCell ⟨b,i,none⟩ v) b t cs:=by
 have:=h.set i v;have e:cs.setIfInBounds i v=cs:=by
  apply Array.ext_getElem?
  intro j;rw[Array.getElem?_setIfInBounds]
  split
  ·rename_i e
   subst e;rw[hv]
   have:=(Array.getElem?_eq_some_iff.1 hv).1;simp[this]
  ·rfl
 rwa[e]at this
theorem step_x {W:World}{bx bz bc gx gz:Nat}{l:List UInt8}(h:StepAt W bx bz bc gx gz l)(hd:bx≠gx∧bx≠bc∧bz≠gx∧bz≠bc∧bc≠gx∧gz≠gx∧gz≠bc){i:Nat}{x:UInt8}(hx:l[i]? = some x):StepAt (W.setCell ⟨gx,i,none⟩ (.int .u8 x.toNat)) bx bz bc gx gz l:=
 ⟨h.1.set_other (a:=⟨gx,i,none⟩) hd.1 _,h.2.1.set_other (a:=⟨gx,i,none⟩) hd.2.2.1 _,h.2.2.1.set_other (a:=⟨gx,i,none⟩) hd.2.2.2.2.1 _,blk_same h.2.2.2.1 (by simp[byteCells_get,hx]),h.2.2.2.2.set_other (a:=⟨gx,i,none⟩) hd.2.2.2.2.2.1 _⟩
theorem step_c {W:World}{bx bz bc gx gz:Nat}{l:List UInt8}(h:StepAt W bx bz bc gx gz l)(hd:bx≠gx∧bx≠bc∧bz≠gx∧bz≠bc∧bc≠gx∧gz≠gx∧gz≠bc):StepAt (W.setCell ⟨bc,0,none⟩ (.int .i64 0)) bx bz bc gx gz l:=
 ⟨h.1.set_other (a:=⟨bc,0,none⟩) hd.2.1 _,h.2.1.set_other (a:=⟨bc,0,none⟩) hd.2.2.2.1 _,blk_same h.2.2.1 rfl,h.2.2.2.1.set_other (a:=⟨bc,0,none⟩) (Ne.symm hd.2.2.2.2.1) _,h.2.2.2.2.set_other (a:=⟨bc,0,none⟩) hd.2.2.2.2.2.2 _⟩
theorem step_q {W:World}{bx bz bc gx gz:Nat}{l:List UInt8}(h:StepAt W bx bz bc gx gz l)(n:Nat):StepAt (W.drewN n) bx bz bc gx gz l:=h
theorem plus1_any (bx bz bc gx gz:Nat)(l:List UInt8)(i:Nat)(w:World)(h:StepAt w bx bz bc gx gz l)(hi:i<l.length)(_hl:l.length≤1099511627776)(hd:bx≠gx∧bx≠bc∧bz≠gx∧bz≠bc∧bc≠gx∧gz≠gx∧gz≠bc) :
  Calls Tryz.prog 137 #[.int .i64 i,pt bx,pt bz,pt bc] w fun e w'=>(e=.returned (.tuple #[])∧StepAt w' bx bz bc gx gz l)∧Fr (fun k=>k=gx∨k=bc) w w':=by
 have HST:=Hi h;obtain⟨BX,BZ,BC,GX,GZ⟩:=h
 obtain⟨x,hx⟩:∃ x,l[i]? = some x:=⟨_,List.getElem?_eq_getElem hi⟩
 have HX:=Hi hx;have e0:=BX.cell 0;have e1:=BZ.cell 0;have e2:=BC.cell 0;have f2:=BC.frozen 0;have e3:=GX.cell i;have f3:=GX.frozen i;have e4:=GZ.cell i;simp only[SG,byteCells_get,hx,Option.map_some]at e0 e1 e2 e3
 rw[List.getElem?_toArray,byteCells_get,List.getElem?_replicate,if_pos hi]at e4
 simp only[Option.map_some]at e4
 have q1:(0:Int)≤(i:Int):=by omega
 have q2:(i:Int)<(l.length:Int):=by omega
 have hx8:x.toNat<256:=x.toNat_lt;have q3:IntKind.i64.wrap ((x.toNat:Int))=(x.toNat:Int):=IntWalk.i64_in _ (by omega);have q4:(x.toNat:Int) / 256=0:=by omega
 have HD:=Hi hd;have n1:bc≠gx:=hd.2.2.2.2.1;have n2:gx≠bc:=Ne.symm n1;have n3:bx≠gx:=hd.1;have n4:bx≠bc:=hd.2.1;clear hi hx8 hx BX BZ BC GX GZ hd;go_enter Tryz.func137,Tryz.ntmps137
 go_upto_region 0 with fail
 go_quiet (fail)
 go_wp2_with fail
 go_end0
 exact⟨⟨rfl,step_c (step_x (step_q HST.out _) HD.out HX.out) HD.out⟩,(((Fr.refl w).drewN _).setCell (S:=fun k=>k=gx∨k=bc) (p:=⟨gx,i,none⟩) (fun _=>.inl rfl) _).setCell (p:=⟨bc,0,none⟩) (fun _=>.inr rfl) _⟩
theorem minus1_any (bx bz bc gx gz:Nat)(l:List UInt8)(i:Nat)(w:World)(h:StepAt w bx bz bc gx gz l)(hi:i<l.length)(_hl:l.length≤1099511627776)(hd:bx≠gx∧bx≠bc∧bz≠gx∧bz≠bc∧bc≠gx∧gz≠gx∧gz≠bc) :
  Calls Tryz.prog 138 #[.int .i64 i,pt bx,pt bz,pt bc] w fun e w'=>(e=.returned (.tuple #[])∧StepAt w' bx bz bc gx gz l)∧Fr (fun k=>k=gx∨k=bc) w w':=by
 have HST:=Hi h;obtain⟨BX,BZ,BC,GX,GZ⟩:=h
 obtain⟨x,hx⟩:∃ x,l[i]? = some x:=⟨_,List.getElem?_eq_getElem hi⟩
 have HX:=Hi hx;have e0:=BX.cell 0;have e1:=BZ.cell 0;have e2:=BC.cell 0;have f2:=BC.frozen 0;have e3:=GX.cell i;have f3:=GX.frozen i;have e4:=GZ.cell i;simp only[SG,byteCells_get,hx,Option.map_some]at e0 e1 e2 e3
 rw[List.getElem?_toArray,byteCells_get,List.getElem?_replicate,if_pos hi]at e4
 simp only[Option.map_some]at e4
 have q1:(0:Int)≤(i:Int):=by omega
 have q2:(i:Int)<(l.length:Int):=by omega
 have hx8:x.toNat<256:=x.toNat_lt;have q3:IntKind.i64.wrap ((x.toNat:Int))=(x.toNat:Int):=IntWalk.i64_in _ (by omega);have q4:¬(x.toNat:Int)<0:=by omega
 have q5:(x.toNat:Int) % 256=(x.toNat:Int):=by omega
 have HD:=Hi hd;have n1:bc≠gx:=hd.2.2.2.2.1;have n2:gx≠bc:=Ne.symm n1;have n3:bx≠gx:=hd.1;have n4:bx≠bc:=hd.2.1;clear hi hx8 hx BX BZ BC GX GZ hd;go_enter Tryz.func138,Tryz.ntmps138
 go_upto_region 0 with fail
 go_quiet (fail)
 go_wp2_with fail
 go_end0
 exact⟨⟨rfl,step_x (step_c (step_q HST.out _) HD.out) HD.out HX.out⟩,(((Fr.refl w).drewN _).setCell (S:=fun k=>k=gx∨k=bc) (p:=⟨bc,0,none⟩) (fun _=>.inr rfl) _).setCell (p:=⟨gx,i,none⟩) (fun _=>.inl rfl) _⟩
theorem bytes_empty {w:World}{v:Value}(h:Bytes w v [])(W:World):Bytes W v []:=by
 obtain⟨a,c,rfl,h1,h2,-⟩:=h
 exact⟨a,c,rfl,h1,h2,fun h=>absurd h (by decide)⟩
theorem step_num (j:Nat)(h:j≤1000000000000):Value.int .i64 (wrap64 ((j:Int)+1))=.int .i64 ((j+1:Nat):Int):=by
 congr 1
 unfold wrap64;omega
theorem plus_start (w1:World)(gx gz n:Nat)(l:List UInt8)(hn:l.length=n)(GX:Blk w1 gx 5 (Lib.byteCells l).toArray)(GZ:Blk w1 gz 5 (Lib.byteCells (List.replicate n 0)).toArray) :
  StepAt (((w1.alloc (.cells #[.slice (some ⟨gx,0,none⟩) n n] 38)).alloc (.cells #[.slice (some ⟨gz,0,none⟩) n n] 38)).alloc (.cells #[.int .i64 0] 3)) w1.heap.size (w1.heap.size+1) (w1.heap.size+2) gx gz l:=by
 subst hn;have a1:=World.size_alloc w1 (.cells #[.slice (some ⟨gx,0,none⟩) l.length l.length] 38);have a2:=World.size_alloc (w1.alloc (.cells #[.slice (some ⟨gx,0,none⟩) l.length l.length] 38)) (.cells #[.slice (some ⟨gz,0,none⟩) l.length l.length] 38);refine⟨((Blk.new w1 _ _).alloc _).alloc _,?_,?_,((GX.alloc _).alloc _).alloc _,((GZ.alloc _).alloc _).alloc _⟩
 ·have:=(Blk.new (w1.alloc (.cells #[.slice (some ⟨gx,0,none⟩) l.length l.length] 38)) 38 #[.slice (some ⟨gz,0,none⟩) l.length l.length]).alloc (.cells #[.int .i64 0] 3)
  rwa[a1]at this
 ·have:=Blk.new ((w1.alloc (.cells #[.slice (some ⟨gx,0,none⟩) l.length l.length] 38)).alloc (.cells #[.slice (some ⟨gz,0,none⟩) l.length l.length] 38)) 3 #[.int .i64 0]
  rwa[a2,a1]at this
theorem plus0_any (v:Value)(s:List UInt8)(o2:Option Addr)(k2:Nat)(w:World)(h:Bytes w v s)(hu:Bytes w (.slice o2 0 k2) [])(hl:s.length≤10000000000) :
  Calls Tryz.prog 95 #[v,.slice o2 0 k2] w fun e w'=>(∃ a c,e=.returned (.slice a (0::s).length c)∧Bytes w' (.slice a (0::s).length c) (0::s))∧Fz w w':=by
 obtain⟨n,hn⟩:∃ n,n=s.length+1:=⟨_,rfl⟩
 have H:=Hi h;obtain⟨a,c,rfl,-⟩:=h.form
 have HW1:=Hi (wWide_any _ s n w h (by omega) (by omega));rw[show List.replicate (n-s.length) (0:UInt8)++s=0::s from by rw[hn,Nat.add_sub_cancel_left];rfl]at HW1
 have HW2:=Hi (fun W=>wWide_any (.slice o2 0 k2) [] n W (bytes_empty hu W) (Nat.zero_le _) (by omega));simp only[List.length_nil,Nat.sub_zero,List.append_nil]at HW2
 have q1:max (s.length:Int) 0=(s.length:Int):=by omega
 have q2:IntKind.i64.wrap ((s.length:Int)+1)=(n:Int):=by
  have:=IntWalk.i64_in ((s.length:Int)+1) (by omega);rw[this];omega
 have HN:=Hi hn;have HL:=Hi hl;clear h hu hn hl;go_enter Tryz.func95,Tryz.ntmps95
 go_wp2_with fail
 refine HW1.out.mono ?_;rintro e w1 ⟨⟨rfl,GX⟩,F1⟩;obtain⟨gx,hgx⟩:∃ g,g=w.heap.size:=⟨_,rfl⟩
 rw[←hgx]at GX ⊢
 have HGX:=Hi GX;have HF1:=Hi F1;have HGE:=Hi hgx;clear HW1 GX F1 hgx;go_wp2_with fail
 refine(HW2.out w1).mono ?_
 rintro e w2 ⟨⟨rfl,GZ⟩,F2⟩;obtain⟨gz,hgz⟩:∃ g,g=w1.heap.size:=⟨_,rfl⟩
 rw[←hgz]at GZ ⊢
 have hgxl:=HGX.out.lt;have hgzl:=GZ.lt;have HST:=Hi (plus_start w2 gx gz n (0::s) (by rw[HN.out];rfl) (HGX.out.fr F2 (fun h=>h)) GZ);have F3:Fz w (((w2.alloc (.cells #[.slice (some ⟨gx,0,none⟩) n n] 38)).alloc (.cells #[.slice (some ⟨gz,0,none⟩) n n] 38)).alloc (.cells #[.int .i64 0] 3)):=(((HF1.out.trans F2).alloc _).alloc _).alloc _;have HF3:=Hi F3;obtain⟨bx,hbx⟩:∃ b,b=w2.heap.size:=⟨_,rfl⟩
 have HBX:=Hi hbx;rw[←hbx]at HST
 have hw1:=HF1.out.size;have HD:=Hi (show bx≠gx∧bx≠bx+2∧bx+1≠gx∧bx+1≠bx+2∧bx+2≠gx∧gz≠gx∧gz≠bx+2 from by omega);have HNW:=Hi (show w.heap.size≤gx∧w.heap.size≤bx+2 from by have:=HGE.out;have:=F2.size;omega);clear GZ F2 F3 HW2 hgz hbx hgxl hgzl;go_upto_block 1 with fail
 rw[←HBX.out]
 generalize (((w2.alloc (.cells #[.slice (some ⟨gx,0,none⟩) n n] 38)).alloc (.cells #[.slice (some ⟨gz,0,none⟩) n n] 38)).alloc (.cells #[.int .i64 0] 3))=w3 at *
 go_loopg [25] n (fun g i wr=>∃ j:Nat,g=n-j∧j≤n∧i=.int .i64 j∧Hid (StepAt wr bx (bx+1) (bx+2) gx gz (0::s))∧Fr (fun k=>k=gx∨k=bx+2) w3 wr)
 case atStart=>exact⟨0,rfl,Nat.zero_le _,rfl,HST,Fr.refl _⟩
 case round=>
  obtain⟨j,hg,hj,rfl,HS,F⟩:=hrel
  have HG:=Hi hg;have HF:=Hi F;clear hg F;by_cases hjn:j<n
  ·have p1:(j:Int)<(n:Int):=by omega
   obtain⟨i,hi⟩:∃ i,i=n-1-j:=⟨_,rfl⟩
   have p2:IntKind.i64.wrap ((n:Int)-1)=(n:Int)-1:=IntWalk.i64_in _ (by have:=HN.out;have:=HL.out;omega);have p3:IntKind.i64.wrap ((n:Int)-1-(j:Int))=(i:Int):=by
    have:=IntWalk.i64_in ((n:Int)-1-(j:Int)) (by have:=HN.out;have:=HL.out;omega);rw[this];omega
   have HC:=Hi (plus1_any bx (bx+1) (bx+2) gx gz (0::s) i wr HS.out (by rw[List.length_cons,←HN.out];omega) (by rw[List.length_cons];have:=HL.out;omega) HD.out);clear hi;go_wp2_with fail
   refine HC.out.mono ?_;rintro e w5 ⟨⟨rfl,hs5⟩,F5⟩;have HS5:=Hi hs5;have HF5:=Hi (HF.out.trans F5);clear hs5 F5 HC;go_wp2_with fail
   go_roundg (n-(j+1))
   case measure=>rw[HG.out];omega
   case rel=>
    have hnb:n≤10000000001:=by have:=HN.out;have:=HL.out;omega
    clear p2 p3;exact⟨j+1,rfl,by omega,step_num j (by omega),HS5,HF5.out⟩
  ·have p1:¬(j:Int)<(n:Int):=by omega
   obtain⟨BX,-,-,GX,-⟩:=HS.out
   have e0:=BX.cell 0;simp only[List.getElem?_toArray,List.getElem?_cons_zero]at e0
   rw[List.length_cons,←HN.out]at e0
   have HB:=Hi (Vals.of_block GX (by rw[List.size_toArray,byteCells_len,List.length_cons];have:=HL.out;unfold maxLen;omega));have HFE:=Hi (HF3.out.trans' HF.out (fun i hi e=>by have:=HNW.out;omega));clear BX GX;go_wp2_with fail
   go_ret;refine⟨⟨some ⟨gx,0,none⟩,n,?_,?_⟩,HFE.out⟩
   ·rw[HN.out]
    rfl
   ·have:=HB.out
    simp only[List.size_toArray,byteCells_len,List.toList_toArray]at this
    rw[HN.out]
    exact this
theorem minus0_any (v:Value)(s:List UInt8)(o2:Option Addr)(k2:Nat)(w:World)(h:Bytes w v s)(hu:Bytes w (.slice o2 0 k2) [])(hl:s.length≤10000000000) :
  Calls Tryz.prog 97 #[v,.slice o2 0 k2] w fun e w'=>(∃ a c,e=.returned (.slice a s.length c)∧Bytes w' (.slice a s.length c) s)∧Fz w w':=by
 obtain⟨n,hn⟩:∃ n,n=s.length:=⟨_,rfl⟩
 have H:=Hi h;obtain⟨a,c,rfl,-⟩:=h.form
 have HW1:=Hi (wWide_any _ s n w h (by omega) (by omega));rw[show List.replicate (n-s.length) (0:UInt8)++s=s from by rw[hn,Nat.sub_self];rfl]at HW1
 have HW2:=Hi (fun W=>wWide_any (.slice o2 0 k2) [] n W (bytes_empty hu W) (Nat.zero_le _) (by omega));simp only[List.length_nil,Nat.sub_zero,List.append_nil]at HW2
 have HN:=Hi hn;have HL:=Hi hl;rw[←hn]at HW1 ⊢
 clear h hu hn hl;go_enter Tryz.func97,Tryz.ntmps97
 go_wp2_with fail
 refine HW1.out.mono ?_;rintro e w1 ⟨⟨rfl,GX⟩,F1⟩;obtain⟨gx,hgx⟩:∃ g,g=w.heap.size:=⟨_,rfl⟩
 rw[←hgx]at GX ⊢
 have HGX:=Hi GX;have HF1:=Hi F1;have HGE:=Hi hgx;clear HW1 GX F1 hgx;go_wp2_with fail
 refine(HW2.out w1).mono ?_
 rintro e w2 ⟨⟨rfl,GZ⟩,F2⟩;obtain⟨gz,hgz⟩:∃ g,g=w1.heap.size:=⟨_,rfl⟩
 rw[←hgz]at GZ ⊢
 have hgxl:=HGX.out.lt;have hgzl:=GZ.lt;have HST:=Hi (plus_start w2 gx gz n s HN.out.symm (HGX.out.fr F2 (fun h=>h)) GZ);have F3:Fz w (((w2.alloc (.cells #[.slice (some ⟨gx,0,none⟩) n n] 38)).alloc (.cells #[.slice (some ⟨gz,0,none⟩) n n] 38)).alloc (.cells #[.int .i64 0] 3)):=(((HF1.out.trans F2).alloc _).alloc _).alloc _;have HF3:=Hi F3;obtain⟨bx,hbx⟩:∃ b,b=w2.heap.size:=⟨_,rfl⟩
 have HBX:=Hi hbx;rw[←hbx]at HST
 have hw1:=HF1.out.size;have HD:=Hi (show bx≠gx∧bx≠bx+2∧bx+1≠gx∧bx+1≠bx+2∧bx+2≠gx∧gz≠gx∧gz≠bx+2 from by omega);have HNW:=Hi (show w.heap.size≤gx∧w.heap.size≤bx+2 from by have:=HGE.out;have:=F2.size;omega);clear GZ F2 F3 HW2 hgz hbx hgxl hgzl;go_upto_block 1 with fail
 rw[←HBX.out]
 generalize (((w2.alloc (.cells #[.slice (some ⟨gx,0,none⟩) n n] 38)).alloc (.cells #[.slice (some ⟨gz,0,none⟩) n n] 38)).alloc (.cells #[.int .i64 0] 3))=w3 at *
 go_loopg [21] n (fun g i wr=>∃ j:Nat,g=n-j∧j≤n∧i=.int .i64 j∧Hid (StepAt wr bx (bx+1) (bx+2) gx gz s)∧Fr (fun k=>k=gx∨k=bx+2) w3 wr)
 case atStart=>exact⟨0,rfl,Nat.zero_le _,rfl,HST,Fr.refl _⟩
 case round=>
  obtain⟨j,hg,hj,rfl,HS,F⟩:=hrel
  have HG:=Hi hg;have HF:=Hi F;clear hg F;by_cases hjn:j<n
  ·have p1:(j:Int)<(n:Int):=by omega
   obtain⟨i,hi⟩:∃ i,i=n-1-j:=⟨_,rfl⟩
   have p2:IntKind.i64.wrap ((n:Int)-1)=(n:Int)-1:=IntWalk.i64_in _ (by have:=HN.out;have:=HL.out;omega);have p3:IntKind.i64.wrap ((n:Int)-1-(j:Int))=(i:Int):=by
    have:=IntWalk.i64_in ((n:Int)-1-(j:Int)) (by have:=HN.out;have:=HL.out;omega);rw[this];omega
   have HC:=Hi (minus1_any bx (bx+1) (bx+2) gx gz s i wr HS.out (by rw[←HN.out];omega) (by have:=HL.out;omega) HD.out);clear hi;go_wp2_with fail
   refine HC.out.mono ?_;rintro e w5 ⟨⟨rfl,hs5⟩,F5⟩;have HS5:=Hi hs5;have HF5:=Hi (HF.out.trans F5);clear hs5 F5 HC;go_wp2_with fail
   go_roundg (n-(j+1))
   case measure=>rw[HG.out];omega
   case rel=>
    have hnb:n≤10000000001:=by have:=HN.out;have:=HL.out;omega
    clear p2 p3;exact⟨j+1,rfl,by omega,step_num j (by omega),HS5,HF5.out⟩
  ·have p1:¬(j:Int)<(n:Int):=by omega
   obtain⟨BX,-,-,GX,-⟩:=HS.out
   have e0:=BX.cell 0;simp only[List.getElem?_toArray,List.getElem?_cons_zero]at e0
   rw[←HN.out]at e0
   have HB:=Hi (Vals.of_block GX (by rw[List.size_toArray,byteCells_len];have:=HL.out;unfold maxLen;omega));have HFE:=Hi (HF3.out.trans' HF.out (fun i hi e=>by have:=HNW.out;omega));clear BX GX;go_wp2_with fail
   go_ret;refine⟨⟨some ⟨gx,0,none⟩,n,rfl,?_⟩,HFE.out⟩
   have:=HB.out;simp only[List.size_toArray,byteCells_len,List.toList_toArray]at this
   rw[←HN.out]at this
   exact this
theorem made_zero_ahead (x:NumT):madeS ⟨x.below,0::x.size⟩=madeS x:=rfl
theorem plus0_as (v:Value)(s zx:List UInt8)(hzx:zx=0::s)(o2:Option Addr)(k2:Nat)(w:World)(h:Bytes w v s)(hu:Bytes w (.slice o2 0 k2) [])(hl:s.length≤10000000000) :
  Calls Tryz.prog 95 #[v,.slice o2 0 k2] w fun e w'=>(∃ a c,e=.returned (.slice a zx.length c)∧Bytes w' (.slice a zx.length c) zx)∧Fz w w':=by
 subst hzx;exact plus0_any v s o2 k2 w h hu hl
theorem minus0_as (v:Value)(s zx:List UInt8)(hzx:zx=s)(o2:Option Addr)(k2:Nat)(w:World)(h:Bytes w v s)(hu:Bytes w (.slice o2 0 k2) [])(hl:s.length≤10000000000) :
  Calls Tryz.prog 97 #[v,.slice o2 0 k2] w fun e w'=>(∃ a c,e=.returned (.slice a zx.length c)∧Bytes w' (.slice a zx.length c) zx)∧Fz w w':=by
 subst hzx;exact minus0_any v _ o2 k2 w h hu hl
theorem sizes_pos {s:List UInt8}(h:0<s.length):sizesS s []=1:=by
 unfold sizesS;rw[if_neg (by rw[List.length_nil];omega),if_neg (by rw[List.length_nil];omega)]
theorem sizes1_any (v:Value)(s:List UInt8)(o2:Option Addr)(k2:Nat)(w:World)(h:Bytes w v s)(hu:Bytes w (.slice o2 0 k2) [])(hl:s.length≤1099511627776)(h0:0<s.length) :
  Calls Tryz.prog 96 #[v,.slice o2 0 k2] w fun e w'=>e=.returned (.int .i64 1)∧Fz w w':=by
 have:=wSizes_any v _ s [] w h hu hl (by decide);rw[sizes_pos h0]at this
 exact this
theorem wAdd0_any (b1:Bool)(v:Value)(s1:List UInt8)(x:NumT)(hx:x=madeS ⟨b1,s1⟩)(w:World)(h:Bytes w v s1)(h1:s1.length≤1000000000) :
  Calls Tryz.prog 65 #[.agg #[.bool b1,v],.agg #[.bool false,.slice none 0 0]] w fun e w'=>(∃ a c,e=.returned (.agg #[.bool x.below,.slice a x.size.length c])∧Kept (fun W=>Bytes W (.slice a x.size.length c) x.size) (fun k=>k<w.heap.size) w')∧Fz w w':=by
 have hxl:x.size.length≤1000000000:=by rw[hx];have:=trimS_le s1;show (trimS s1).length≤_;omega
 have hmx:madeS x=x:=by rw[hx,made_made]
 have hneg:x.below=true→0<x.size.length:=fun e=>by
  rw[←hmx]at e
  simp only[madeS,Bool.and_eq_true,decide_eq_true_eq]at e
  have:=e.2;rw[hx]at this ⊢
  simp only[madeS,trim_of_lean (trim_lean s1)]at this
  exact this
 obtain⟨y,hy⟩:∃ y:NumT,y=madeS ⟨false,[]⟩:=⟨_,rfl⟩
 have hu:=Vals.nil w;obtain⟨a1,c1,rfl,-⟩:=h.form
 obtain⟨z,hz⟩:∃ z,z=w.heap.size:=⟨_,rfl⟩
 have HZ:=Hi hz;have F0:Fz w (((w.alloc (.cells #[.bool b1,.slice a1 s1.length c1] 40)).alloc (.cells #[.bool false,.slice none 0 0] 40)).alloc (.cells #[.bool false,.slice none 0 0] 40)):=(((Fr.refl w).alloc _).alloc _).alloc _;have BA:=((Blk.new w 40 #[.bool b1,.slice a1 s1.length c1]).alloc (.cells #[.bool false,.slice none 0 0] 40)).alloc (.cells #[.bool false,.slice none 0 0] 40);have BB:=(Blk.new (w.alloc (.cells #[.bool b1,.slice a1 s1.length c1] 40)) 40 #[.bool false,.slice none 0 0]).alloc (.cells #[.bool false,.slice none 0 0] 40)
 have BD:=Blk.new ((w.alloc (.cells #[.bool b1,.slice a1 s1.length c1] 40)).alloc (.cells #[.bool false,.slice none 0 0] 40)) 40 #[.bool false,.slice none 0 0];rw[World.size_alloc,←hz]at BB
 rw[World.size_alloc,World.size_alloc,←hz]at BD
 rw[←hz]at BA
 have HM1:=Hi (fun W (F:Fz (((w.alloc (.cells #[.bool b1,.slice a1 s1.length c1] 40)).alloc (.cells #[.bool false,.slice none 0 0] 40)).alloc (.cells #[.bool false,.slice none 0 0] 40)) W)=>wMade_as b1 _ s1 x hx W ((h.old F0).old F) (by omega));have HM2:=Hi (fun W (F:Fz (((w.alloc (.cells #[.bool b1,.slice a1 s1.length c1] 40)).alloc (.cells #[.bool false,.slice none 0 0] 40)).alloc (.cells #[.bool false,.slice none 0 0] 40)) W)=>wMade_as false _ [] y hy W ((hu.old F0).old F) (by decide))
 have HS0:=Hi (show (((w.alloc (.cells #[.bool b1,.slice a1 s1.length c1] 40)).alloc (.cells #[.bool false,.slice none 0 0] 40)).alloc (.cells #[.bool false,.slice none 0 0] 40)).heap.size=z+3 from by rw[World.size_alloc,World.size_alloc,World.size_alloc,hz]);have HF0:=Hi F0;have HY:=Hi (show y=⟨false,[]⟩ from by rw[hy];rfl);have HMX:=Hi hmx;have HNG:=Hi hneg;clear h hu hz F0 hx hy hmx hneg;go_enter Tryz.func65,Tryz.ntmps65
 go_upto_region 1 with fail
 rw[←HZ.out]
 generalize (((w.alloc (.cells #[.bool b1,.slice a1 s1.length c1] 40)).alloc (.cells #[.bool false,.slice none 0 0] 40)).alloc (.cells #[.bool false,.slice none 0 0] 40))=w0 at *
 replace BA:=BA.drew;replace BB:=BB.drew;replace BD:=BD.drew;have G:Fz w0 w0.drew:=(Fr.refl w0).drew;refine wp_region_2 10 11 (C1:=fun w'=>∀ j,w'.cell? ⟨z,j,none⟩=(#[.bool b1,.slice a1 s1.length c1]:Array Value)[j]?) (C2:=fun w'=>∀ j,w'.cell? ⟨z+1,j,none⟩=(#[.bool false,.slice none 0 0]:Array Value)[j]?) (by kernel_rfl) (BA.cell) (BB.cell) (fun hTwo=>?_);refine wpAny2_takeA (i:=0) (oi:=_) (v:=?_) rfl (by kernel_rfl) (by kernel_rfl) (by kernel_rfl) (by kernel_rfl) (by decide) (by kernel_rfl) (fun _ _ _ h=>h) (Or.inl ⟨by rfl,?_⟩) (by assumption) (fun hT2=>?_);rotate_left
 ·(intro W hSw;(try dsimp only at hSw);go_simp;try with_reducible rfl)
 replace hTwo:=hT2;clear hT2;(try simp only[Act.put,SS]);refine wpAny2_takeA (i:=1) (oi:=_) (v:=?_) rfl (by kernel_rfl) (by kernel_rfl) (by kernel_rfl) (by kernel_rfl) (by decide) (by kernel_rfl) (fun _ _ _ h=>h) (Or.inl ⟨by rfl,?_⟩) (by assumption) (fun hT2=>?_);rotate_left
 ·(intro W hSw;(try dsimp only at hSw);go_simp;try with_reducible rfl)
 replace hTwo:=hT2;clear hT2;(try simp only[Act.put,SS]);refine wpAny2_takeA (i:=2) (oi:=_) (v:=?_) rfl (by kernel_rfl) (by kernel_rfl) (by kernel_rfl) (by kernel_rfl) (by decide) (by kernel_rfl) (fun _ _ _ h=>h) (Or.inl ⟨by rfl,?_⟩) (by assumption) (fun hT2=>?_);rotate_left
 ·(intro W hSw;(try dsimp only at hSw);go_simp;try with_reducible rfl)
 replace hTwo:=hT2;clear hT2;(try simp only[Act.put,SS]);refine wpAny2_takeA (i:=3) (oi:=_) (v:=?_) rfl (by kernel_rfl) (by kernel_rfl) (by kernel_rfl) (by kernel_rfl) (by decide) (by kernel_rfl) (fun _ _ _ h=>h) (Or.inl ⟨by rfl,?_⟩) (by assumption) (fun hT2=>?_);rotate_left
 ·(intro W hSw;(try dsimp only at hSw);go_simp;try with_reducible rfl)
 replace hTwo:=hT2;clear hT2;(try simp only[Act.put,SS]);refine wpAny2_takeB (i:=5) (oi:=_) (v:=?_) rfl (by kernel_rfl) (by kernel_rfl) (by kernel_rfl) (by kernel_rfl) (by decide) (by kernel_rfl) (fun _ _ _ h=>h) (Or.inl ⟨by rfl,?_⟩) (by assumption) (fun hT2=>?_);rotate_left
 ·(intro W hSw;(try dsimp only at hSw);go_simp;try with_reducible rfl)
 replace hTwo:=hT2;clear hT2;(try simp only[Act.put,SS]);refine wpAny2_takeB (i:=6) (oi:=_) (v:=?_) rfl (by kernel_rfl) (by kernel_rfl) (by kernel_rfl) (by kernel_rfl) (by decide) (by kernel_rfl) (fun _ _ _ h=>h) (Or.inl ⟨by rfl,?_⟩) (by assumption) (fun hT2=>?_);rotate_left
 ·(intro W hSw;(try dsimp only at hSw);go_simp;try with_reducible rfl)
 replace hTwo:=hT2;clear hT2;(try simp only[Act.put,SS]);refine wpAny2_takeB (i:=7) (oi:=_) (v:=?_) rfl (by kernel_rfl) (by kernel_rfl) (by kernel_rfl) (by kernel_rfl) (by decide) (by kernel_rfl) (fun _ _ _ h=>h) (Or.inl ⟨by rfl,?_⟩) (by assumption) (fun hT2=>?_);rotate_left
 ·(intro W hSw;(try dsimp only at hSw);go_simp;try with_reducible rfl)
 replace hTwo:=hT2;clear hT2;(try simp only[Act.put,SS]);refine wpAny2_takeB (i:=8) (oi:=_) (v:=?_) rfl (by kernel_rfl) (by kernel_rfl) (by kernel_rfl) (by kernel_rfl) (by decide) (by kernel_rfl) (fun _ _ _ h=>h) (Or.inl ⟨by rfl,?_⟩) (by assumption) (fun hT2=>?_);rotate_left
 ·(intro W hSw;(try dsimp only at hSw);go_simp;try with_reducible rfl)
 replace hTwo:=hT2;clear hT2;(try simp only[Act.put,SS]);refine wpAny2_ready (rs:=[4]) (by kernel_rfl) (by simp) ?_;refine All2.cons (o:=_) rfl (fun KK hKK=>?_) All2.nil;go_simp
 (go_at_call 73;(with_reducible refine(HM1.out _ G).mono ?_);rintro e w' ⟨⟨p1,q1,rfl,hk1⟩,F⟩;have hsz:=G.size;replace BA:=BA.fr F (fun h=>h);replace BB:=BB.fr F (fun h=>h);replace BD:=BD.fr F (fun h=>h);replace G:=G.trans F;clear F HM1;go_wp2_with fail)
 refine hKK.out _ _ ?_ (fun hT2=>?_)
 ·exact⟨fun _=>BA.cell,fun _=>BB.cell⟩
 clear hKK KK;replace hTwo:=hT2;clear hT2;(try simp only[Act.put,SS]);refine wpAny2_ready (rs:=[9]) (by kernel_rfl) (by simp) ?_;refine All2.cons (o:=_) rfl (fun KK hKK=>?_) All2.nil;go_simp
 (go_at_call 73;(with_reducible refine(HM2.out _ G).mono ?_);rintro e w' ⟨⟨p2,q2,rfl,hk2⟩,F⟩;have hsz2:=G.size;replace BA:=BA.fr F (fun h=>h);replace BB:=BB.fr F (fun h=>h);replace BD:=BD.fr F (fun h=>h);replace hk1:=hk1.old F;replace G:=G.trans F;clear F HM2;go_wp2_with fail)
 refine hKK.out _ _ ?_ (fun hT2=>?_)
 ·exact⟨fun _=>BA.cell,fun _=>BB.cell⟩
 clear hKK KK;replace hTwo:=hT2;clear hT2;(try simp only[Act.put,SS]);have X1:=set2 BA (.bool x.below) (.slice p1 x.size.length q1);have Y0:=BB.fr X1.2 (by omega);have Y1:=set2 Y0 (.bool y.below) (.slice p2 y.size.length q2);have X2:=X1.1.fr Y1.2 (by omega);have d0:=BA.cell 0;have d1:=BA.cell 1;have f0:=BA.frozen 0;have f1:=BA.frozen 1;have e0:=Y0.cell 0;have e1:=Y0.cell 1;have g0:=Y0.frozen 0;have g1:=Y0.frozen 1;simp only[SG]at d0 d1 e0 e1
 refine wpAny2_ready (rs:=[10]) (by kernel_rfl) (by simp) ?_;refine All2.cons (o:=_) rfl (fun KK hKK=>?_) All2.nil;go_simp
 skip
 refine hKK.out _ _ ?_ (fun hT2=>?_)
 ·exact⟨(fun h=>absurd (h.symm.trans (by kernel_rfl:_=true)) (by decide)),fun _=>Y0.cell⟩
 clear hKK KK;replace hTwo:=hT2;clear hT2;(try simp only[Act.put,SS]);refine wpAny2_ready (rs:=[11]) (by kernel_rfl) (by simp) ?_;refine All2.cons (o:=_) rfl (fun KK hKK=>?_) All2.nil;go_simp
 skip
 refine hKK.out _ _ ?_ (fun hT2=>?_)
 ·exact⟨(fun h=>absurd (h.symm.trans (by kernel_rfl:_=true)) (by decide)),(fun h=>absurd (h.symm.trans (by kernel_rfl:_=true)) (by decide))⟩
 clear hKK KK;replace hTwo:=hT2;clear hT2;(try simp only[Act.put,SS]);refine wpAny2_done (by kernel_rfl) ?_ _;have hsd:w0.drew.heap.size=w0.heap.size:=rfl;obtain⟨w3,hw3⟩:∃ w3,w3=((((w'.setCell ⟨z,0,none⟩ (.bool x.below)).setCell ⟨z,1,none⟩ (.slice p1 x.size.length q1)).setCell ⟨z+1,0,none⟩ (.bool y.below)).setCell ⟨z+1,1,none⟩ (.slice p2 y.size.length q2)):=⟨_,rfl⟩
 have F3:Fr (fun k=>k=z∨k=z+1) w' w3:=by rw[hw3];exact(X1.2.mono (fun k _ e=>.inl e)).trans (Y1.2.mono (fun k _ e=>.inr e))
 have hb1:=hk1 w3 (F3.mono (fun k _ e=>by have:=HS0.out;omega));have hb2:=hk2 w3 (F3.mono (fun k _ e=>by have:=HS0.out;omega));have HF3:=Hi ((HF0.out.trans G).trans' F3 (fun i hi e=>by have:=HZ.out;omega));rw[←hw3]at X2
 have Y3:=Y1.1;rw[←hw3]at Y3
 rw[←hw3]
 have D3:=BD.fr F3 (fun h=>by rcases h with h|h<;>omega);have hk1':=hk1.step F3 (K':=fun k=>k<z+3) (fun k hk e=>by have:=HS0.out;omega) (fun k hk=>by have:=HS0.out;exact .inl (by omega));have hk2':=hk2.step F3 (K':=fun k=>k<z+3) (fun k hk e=>by have:=HS0.out;omega) (fun k hk=>by have:=HS0.out;exact .inl (by omega));have HK1:=Hi hk1';have HK2:=Hi hk2';have HW3:=Hi (show z+3≤w3.heap.size from by have h1:=HF3.out.size;have h2:=D3.lt;omega);clear d0 d1 f0 f1 e0 e1 g0 g1 hTwo X1 Y0 Y1 hk1 hk2 hk1' hk2' hb1 hb2 F3 hw3 BA BB BD G hsz hsz2;try clear hTwo
 have HX2:=Hi X2;have HY3:=Hi Y3;have HD3:=Hi D3;have HZ2:=Hi hsd;have hy0:=HY.out;rw[hy0]at HY3 HK2
 simp only[List.length_nil]at HY3 HK2
 obtain⟨zx,hzx⟩:∃ zx,zx=0::x.size:=⟨_,rfl⟩
 obtain⟨zy,hzy⟩:∃ zy,zy=x.size:=⟨_,rfl⟩
 have HPL:=Hi (fun W (F:Fz w3 W)=>plus0_as _ x.size zx hzx p2 q2 W (HK1.out.now.old F) (HK2.out.now.old F) (by omega));have HMI:=Hi (fun W (F:Fz w3 W)=>minus0_as _ x.size zy hzy p2 q2 W (HK1.out.now.old F) (HK2.out.now.old F) (by omega));have HSZ:=Hi (fun (h0:0<x.size.length)=>sizes1_any _ x.size p2 q2 w3 HK1.out.now HK2.out.now (by omega) h0);have HLX:=Hi (show zx.length≤10000000000 from by rw[hzx,List.length_cons];omega);have HLY:=Hi (show zy.length≤10000000000 from by rw[hzy];omega);have HMX0:=Hi (fun (h0:false=x.below)=>show x=madeS ⟨false,zx⟩ from by rw[hzx,h0,made_zero_ahead,HMX.out])
 have HMY0:=Hi (fun (h0:true=x.below)=>show x=madeS ⟨true,zy⟩ from by rw[hzy,h0];exact HMX.out.symm);clear hzx hzy;have HXL:=Hi hxl;clear hy0 hsd hxl X2 Y3 D3;have d0:=HX2.out.cell 0;have d1:=HX2.out.cell 1;have e0:=HY3.out.cell 0;have e1:=HY3.out.cell 1;simp only[SG]at d0 d1 e0 e1
 obtain⟨p,hp⟩:∃ p,p=x.below:=⟨_,rfl⟩
 have HP:=Hi hp;rw[←hp]at d0
 clear hp;cases p with
 |false=>
  go_upto_region 3 with fail
  have BA:=HX2.out.drew;have BB:=HY3.out.drew;have BD:=HD3.out.drew;have G:Fz w3 w3.drew:=(Fr.refl w3).drew;clear d0 d1 e0 e1;rw[←HP.out]at BA
  have HX0:=Hi (HMX0.out HP.out);refine wp_region_N 8 (S:=fun w'=>(∀ j,w'.cell? ⟨z,j,none⟩=(#[.bool false,.slice p1 x.size.length q1]:Array Value)[j]?)∧∀ j,w'.cell? ⟨z+1,j,none⟩=(#[.bool false,.slice p2 0 q2]:Array Value)[j]?) (by kernel_rfl) ?_ (fun hHeld=>?_)
  ·exact⟨BA.cell,BB.cell⟩
  refine tkN 0 rfl hHeld ?_;refine tkN 1 rfl hHeld ?_;refine tkN 2 rfl hHeld ?_;(try simp only[Act.put,SS]);refine tkN 3 rfl hHeld ?_;refine tkN 4 rfl hHeld ?_;refine tkN 5 rfl hHeld ?_;(try simp only[Act.put,SS]);refine wpAnyN_step (i:=6) (by kernel_rfl) (o:=_) rfl (fun KK hKK=>?_);go_simp
  (go_at_call 95;(with_reducible refine(HPL.out _ G).mono ?_);rintro e w' ⟨⟨a7,c7,rfl,hb7⟩,F⟩;replace BA:=BA.fr F (fun h=>h);replace BB:=BB.fr F (fun h=>h);replace BD:=BD.fr F (fun h=>h);replace G:=G.trans F;clear F;have HM:=Hi (wMade_as false _ _ x HX0.out _ hb7 HLX.out);clear hb7;go_wp2_with fail)
  refine hKK.out _ _ ?_ (fun hHeld=>?_)
  ·exact⟨BA.cell,BB.cell⟩
  clear hKK KK;(try simp only[Act.put,SS]);refine wpAnyN_step (i:=7) (by kernel_rfl) (o:=_) rfl (fun KK hKK=>?_);go_simp
  (go_at_call 73;(with_reducible refine HM.out.mono ?_);rintro e w' ⟨⟨a8,c8,rfl,hk8⟩,F⟩;have hsz:=G.size;replace BA:=BA.fr F (fun h=>h);replace BB:=BB.fr F (fun h=>h);replace BD:=BD.fr F (fun h=>h);replace G:=G.trans F;clear F HM;go_wp2_with fail)
  refine hKK.out _ _ ?_ (fun hHeld=>?_)
  ·exact⟨BA.cell,BB.cell⟩
  clear hKK KK;(try simp only[Act.put,SS]);have d0:=BD.cell 0;have d1:=BD.cell 1;have f0:=BD.frozen 0;have f1:=BD.frozen 1;have D5:=set2 BD (.bool x.below) (.slice a8 x.size.length c8);simp only[SG]at d0 d1
  have HK8:=Hi hk8;have HG:=Hi G;have HSI:=Hi hsz;clear hk8 G hsz;refine wpAnyN_last (i:=8) (by kernel_rfl) (by decide) (o:=_) rfl (fun KK hKK=>?_);go_simp
  skip
  refine hKK.out _ _ ?_;clear hKK KK;(try simp only[Act.put,SS]);refine wpAnyN_done (by kernel_rfl) ?_ _;have hend:Kept (fun W=>Bytes W (.slice a8 x.size.length c8) x.size) (fun k=>k<w.heap.size) ((w'.setCell ⟨z+2,0,none⟩ (.bool x.below)).setCell ⟨z+2,1,none⟩ (.slice a8 x.size.length c8))∧Fz w ((w'.setCell ⟨z+2,0,none⟩ (.bool x.below)).setCell ⟨z+2,1,none⟩ (.slice a8 x.size.length c8)):=by
   have h1:=HZ.out;have h2:=HS0.out;have h3:=HSI.out;have h4:=HW3.out;exact⟨HK8.out.step D5.2 (fun k hk e=>by omega) (fun k hk=>.inl (by omega)),(HF3.out.trans HG.out).trans' D5.2 (fun i hi e=>by omega)⟩
  have HE:=Hi hend;have n0:=D5.1.cell 0;have n1:=D5.1.cell 1;clear hend;simp only[SG]at n0 n1
  generalize ((w'.setCell ⟨z+2,0,none⟩ (.bool x.below)).setCell ⟨z+2,1,none⟩ (.slice a8 x.size.length c8))=w9 at *
  try go_wp2_with fail
  exact bodyPost_ret (v:=.agg #[.bool x.below,.slice a8 x.size.length c8]) (by simp[results,Tryz.results65,go_sem,n0,n1]) rfl ⟨⟨a8,c8,rfl,HE.out.1⟩,HE.out.2⟩
 |true=>
  go_wp2_with fail
  refine(HSZ.out (HNG.out HP.out.symm)).mono ?_
  rintro e w4 ⟨rfl,F4⟩;have X4:=HX2.out.fr F4 (fun h=>h);have Y4:=HY3.out.fr F4 (fun h=>h);have D4:=HD3.out.fr F4 (fun h=>h);rw[←HP.out]at X4
  have d0:=X4.cell 0;have d1:=X4.cell 1;have e0:=Y4.cell 0;have e1:=Y4.cell 1;simp only[SG]at d0 d1 e0 e1
  rw[HP.out]at X4
  have HX4:=Hi X4;have HY4:=Hi Y4;have HD4:=Hi D4;have HF4:=Hi F4;clear X4 Y4 D4 F4;go_upto_region 5 with fail
  have BA:=HX4.out.drew;have BB:=HY4.out.drew;have BD:=HD4.out.drew;have G:Fz w3 w4.drew:=HF4.out.drew;clear d0 d1 e0 e1;rw[←HP.out]at BA
  have HX0:=Hi (HMY0.out HP.out);refine wp_region_N 8 (S:=fun w'=>(∀ j,w'.cell? ⟨z,j,none⟩=(#[.bool true,.slice p1 x.size.length q1]:Array Value)[j]?)∧∀ j,w'.cell? ⟨z+1,j,none⟩=(#[.bool false,.slice p2 0 q2]:Array Value)[j]?) (by kernel_rfl) ?_ (fun hHeld=>?_)
  ·exact⟨BA.cell,BB.cell⟩
  refine tkN 0 rfl hHeld ?_;refine tkN 1 rfl hHeld ?_;refine tkN 2 rfl hHeld ?_;(try simp only[Act.put,SS]);refine tkN 3 rfl hHeld ?_;refine tkN 4 rfl hHeld ?_;refine tkN 5 rfl hHeld ?_;(try simp only[Act.put,SS]);refine wpAnyN_step (i:=6) (by kernel_rfl) (o:=_) rfl (fun KK hKK=>?_);go_simp
  (go_at_call 97;(with_reducible refine(HMI.out _ G).mono ?_);rintro e w' ⟨⟨a7,c7,rfl,hb7⟩,F⟩;replace BA:=BA.fr F (fun h=>h);replace BB:=BB.fr F (fun h=>h);replace BD:=BD.fr F (fun h=>h);replace G:=G.trans F;clear F;have HM:=Hi (wMade_as true _ _ x HX0.out _ hb7 HLY.out);clear hb7;go_wp2_with fail)
  refine hKK.out _ _ ?_ (fun hHeld=>?_)
  ·exact⟨BA.cell,BB.cell⟩
  clear hKK KK;(try simp only[Act.put,SS]);refine wpAnyN_step (i:=7) (by kernel_rfl) (o:=_) rfl (fun KK hKK=>?_);go_simp
  (go_at_call 73;(with_reducible refine HM.out.mono ?_);rintro e w' ⟨⟨a8,c8,rfl,hk8⟩,F⟩;have hsz:=G.size;replace BA:=BA.fr F (fun h=>h);replace BB:=BB.fr F (fun h=>h);replace BD:=BD.fr F (fun h=>h);replace G:=G.trans F;clear F HM;go_wp2_with fail)
  refine hKK.out _ _ ?_ (fun hHeld=>?_)
  ·exact⟨BA.cell,BB.cell⟩
  clear hKK KK;(try simp only[Act.put,SS]);have d0:=BD.cell 0;have d1:=BD.cell 1;have f0:=BD.frozen 0;have f1:=BD.frozen 1;have D5:=set2 BD (.bool x.below) (.slice a8 x.size.length c8);simp only[SG]at d0 d1
  have HK8:=Hi hk8;have HG:=Hi G;have HSI:=Hi hsz;clear hk8 G hsz;refine wpAnyN_last (i:=8) (by kernel_rfl) (by decide) (o:=_) rfl (fun KK hKK=>?_);go_simp
  skip
  refine hKK.out _ _ ?_;clear hKK KK;(try simp only[Act.put,SS]);refine wpAnyN_done (by kernel_rfl) ?_ _;have hend:Kept (fun W=>Bytes W (.slice a8 x.size.length c8) x.size) (fun k=>k<w.heap.size) ((w'.setCell ⟨z+2,0,none⟩ (.bool x.below)).setCell ⟨z+2,1,none⟩ (.slice a8 x.size.length c8))∧Fz w ((w'.setCell ⟨z+2,0,none⟩ (.bool x.below)).setCell ⟨z+2,1,none⟩ (.slice a8 x.size.length c8)):=by
   have h1:=HZ.out;have h2:=HS0.out;have h3:=HSI.out;have h4:=HW3.out;exact⟨HK8.out.step D5.2 (fun k hk e=>by omega) (fun k hk=>.inl (by omega)),(HF3.out.trans HG.out).trans' D5.2 (fun i hi e=>by omega)⟩
  have HE:=Hi hend;have n0:=D5.1.cell 0;have n1:=D5.1.cell 1;clear hend;simp only[SG]at n0 n1
  generalize ((w'.setCell ⟨z+2,0,none⟩ (.bool x.below)).setCell ⟨z+2,1,none⟩ (.slice a8 x.size.length c8))=w9 at *
  try go_wp2_with fail
  exact bodyPost_ret (v:=.agg #[.bool x.below,.slice a8 x.size.length c8]) (by simp[results,Tryz.results65,go_sem,n0,n1]) rfl ⟨⟨a8,c8,rfl,HE.out.1⟩,HE.out.2⟩
def NewCur (w w':World)(g:Nat)(l:List UInt8):Prop:=w.heap.size≤g∧CurAt w' g (fun k=>k<w.heap.size) l 0
def OpenOut1 (w w':World)(c:Nat)(K:Nat→Prop)(bs:List UInt8)(p:Nat)(r:Except Int (List UInt8 × Nat))(e:Ending):Prop:=
 match r with
 |.ok (y,k)=>∃ g,e=.returned (.tuple #[pt g,.int .i64 0])∧NewCur w w' g y∧CurAt w' c K bs (p+k)
 |.error x=>e=.returned (.tuple #[.pointer none,.int .i64 x])∧∃ q,p≤q∧CurAt w' c K bs q
def OpenOut (w w':World)(c:Nat)(K:Nat→Prop)(bs:List UInt8)(p:Nat)(r:Except Int (List UInt8 × Nat))(e:Ending):Prop:=
 match r with
 |.ok (y,k)=>∃ g,e=.returned (.tuple #[pt g,.int .i64 0])∧NewCur w w' g y∧CurAt w' c K bs (p+k)
 |.error x=>e=.returned (.tuple #[.pointer none,.int .i64 x])∧CurAt w' c K bs p
def nextOut (w':World)(c:Nat)(K:Nat→Prop)(bs:List UInt8)(p:Nat)(r:Except Int (Nat × Nat))(e:Ending):Prop:=
 match r with
 |.ok (m,k)=>e=.returned (.tuple #[.int .i64 m,.int .i64 0])∧CurAt w' c K bs (p+k)
 |.error x=>e=.returned (.tuple #[.int .i64 0,.int .i64 x])∧∃ q,p≤q∧CurAt w' c K bs q
def oidParseOut (w w':World)(r:Except Int (List Int))(e:Ending):Prop:=
 match r with
 |.ok o=>∃ a c,e=.returned (.tuple #[.slice a o.length c,.int .i64 0])∧w'.ownsRow w.heap.size 3 1 (.slice a o.length c) o.length (intCells o)
 |.error x=>e=.returned (.tuple #[.slice none 0 0,.int .i64 x])
def hostV (r:Option (List UInt8)):Value:=match r with|some h=>.tuple #[str h,.int .i64 0]|none=>.tuple #[str [],.int .i64 6]
def gkOut (g:Gen):List UInt8:=if genOk g then genKeyS g else []
def gkErr (g:Gen):Int:=if genOk g then 0 else 1
def oidReadOut (w w':World)(c:Nat)(K:Nat→Prop)(bs:List UInt8)(p:Nat)(r:Except Int (List Int × Nat))(e:Ending):Prop:=
 match r with
 |.ok (o,k)=>∃ a cc,e=.returned (.tuple #[.slice a o.length cc,.int .i64 0])∧w'.ownsRow w.heap.size 3 1 (.slice a o.length cc) o.length (intCells o)∧CurAt w' c K bs (p+k)
 |.error x=>e=.returned (.tuple #[.slice none 0 0,.int .i64 x])∧CurAt w' c K bs p
def valueOut (w w':World)(c:Nat)(K:Nat→Prop)(bs:List UInt8)(p:Nat)(r:Except Int (Tag × Nat × Nat))(e:Ending):Prop:=
 match r with
 |.ok (_,_,n)=>∃ a cc,e=.returned (.tuple #[.slice a n cc,.int .i64 0])∧w'.ownsRow w.heap.size 5 1 (.slice a n cc) n (Lib.byteCells ((bs.drop p).take n))∧CurAt w' c K bs (p+n)
 |.error x=>e=.returned (.tuple #[.slice none 0 0,.int .i64 x])∧∃ q,p≤q∧CurAt w' c K bs q
def attrOut (w w':World)(c:Nat)(K:Nat→Prop)(bs:List UInt8)(p:Nat)(r:Except Int (Part × Nat))(e:Ending):Prop:=
 match r with
 |.ok (q,m)=>∃ ao co av cv,e=.returned (.tuple #[.agg #[.slice ao q.o.length co,.slice av q.b.length cv],.int .i64 0])∧Kept (fun W=>Ints W (.slice ao q.o.length co) q.o∧Bytes W (.slice av q.b.length cv) q.b) (fun k=>k<w.heap.size) w'∧CurAt w' c K bs (p+m)
 |.error x=>e=.returned (.tuple #[.agg #[.slice none 0 0,.slice none 0 0],.int .i64 x])∧x≠0∧∃ q,p≤q∧CurAt w' c K bs q
def rdnOut (w w':World)(c:Nat)(K:Nat→Prop)(bs:List UInt8)(p:Nat)(r:Except Int (List Part × Nat))(e:Ending):Prop:=
 match r with
 |.ok (l,m)=>∃ a cc,e=.returned (.tuple #[.slice a l.length cc,.int .i64 0])∧Kept (fun W=>Attrs W (.slice a l.length cc) l) (fun k=>k<w.heap.size) w'∧CurAt w' c K bs (p+m)
 |.error x=>e=.returned (.tuple #[.slice none 0 0,.int .i64 x])∧x≠0∧∃ q,p≤q∧CurAt w' c K bs q
end Go.Proofs.YtehlipgmkinfbaaGreatDoor
