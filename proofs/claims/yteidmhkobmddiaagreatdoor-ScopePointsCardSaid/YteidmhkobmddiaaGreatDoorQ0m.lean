/-
  Merged by program: XWh4 XWh5 XHostS XNStrS XGenH XGenK XKyT XR13H XGenU XGenN XBag XIxCopy XGenD XScNames XGenFk XCe17.
-/
import Derived.Test.YteidmhkobmddiaaGreatDoorQ0l
import Derived.IntWalk
import Derived.Laws.Strings3
import Derived.Sort.Walk0
import Derived.Lib.SlBytesConst
set_option linter.unusedSimpArgs false
set_option maxRecDepth 100000
set_option maxHeartbeats 8000000
namespace Go.Q
open Go Go.RowKit
def labGo (done:List (List UInt8))(one:List UInt8):List UInt8→Option (List (List UInt8))
 | []=>if 1≤one.length∧one.length≤63 then some (done++[one]) else none
 |c::t=>if c=46 then (if 1≤one.length∧one.length≤63 then labGo (done++[one]) [] t else none) else if labelC c then labGo done (one++[c]) t else none
def labL (l:List UInt8):Bool:=decide (1≤l.length∧l.length≤63)&&l.all labelC
def labelsS (l:List UInt8):Option (List (List UInt8)):=if 253<(dotS (lowerS l)).length then none else labGo [] [] (dotS (lowerS l))
def Blf (w:World)(b:Nat)(t:TypeId)(cs:Array Value):Prop:=w.heap[b]? = some (.cells cs t (cs.size,cs.size+1))
theorem Blf.cell {w:World}{b:Nat}{t:TypeId}{cs:Array Value}(h:Blf w b t cs)(i:Nat):w.cell? ⟨b,i,none⟩=cs[i]?:=by
 unfold Blf at h;simp[World.cell?,h]
theorem Blf.frozen {w:World}{b:Nat}{t:TypeId}{cs:Array Value}(h:Blf w b t cs){i:Nat}(hi:i<cs.size):w.frozen? ⟨b,i,none⟩=false:=by
 unfold Blf at h;simp only[World.frozen?,h]
 simp
 omega
theorem Blf.set {w:World}{b:Nat}{t:TypeId}{cs:Array Value}(h:Blf w b t cs)(i:Nat)(v:Value):Blf (w.setCell ⟨b,i,none⟩ v) b t (cs.setIfInBounds i v):=by
 unfold Blf at *;simp[World.setCell,Array.getElem?_modify,h]
theorem Blf.bytes {w:World}{b:Nat}{t:TypeId}{cs:Array Value}(h:Blf w b t cs){l:List UInt8}{n c:Nat}(hn:n=l.length)(hc:l.length≤c)(hm:c≤maxLen)(hl:∀ (i:Nat) (x:UInt8),l[i]? = some x→cs[i]? = some (Value.int .u8 x.toNat)):Bytes w (.slice (some ⟨b,0,none⟩) n c) l:=by
 subst hn;refine⟨_,c,by rw[byteCells_len],by rw[byteCells_len];exact hc,hm,fun _=>⟨b,0,rfl,fun i u hu=>?_⟩⟩
 rw[byteCells_get]at hu
 cases hli:l[i]? with
 |none=>rw[hli]at hu;cases hu
 |some x=>
  rw[hli]at hu
  simp only[Option.map_some,Option.some.injEq]at hu
  subst hu;rw[Nat.zero_add,h.cell i]
  exact hl i x hli
open Go
def urisS (l:List Gen):List (List UInt8):=(l.filter fun g=>decide (g.k=6)&&genOk g).map (·.b)
def RName (W:World)(cs:List Value)(n:List (List Part)):Prop:=∃ u,cs=[u]∧NameAt W u n
abbrev NamesL (W:World)(v:Value)(l:List (List (List Part))):Prop:=LAt 1 RName W v l
theorem RName.old (w w':World)(cs:List Value)(n:List (List Part))(h:RName w cs n)(f:Fz w w'):RName w' cs n:=by
 obtain⟨u,rfl,h1⟩:=h
 exact⟨u,rfl,h1.old f⟩
theorem NamesL.old {w w':World}{v:Value}{l:List (List (List Part))}(h:NamesL w v l)(f:Fz w w'):NamesL w' v l:=LAt.old RName.old h f
def namesS (l:List Gen):List (List (List Part)):=(l.filter fun g=>decide (g.k=4)&&genOk g).map (·.n)
def fitN (n:List (List Part)):Prop:=n.length≤1000∧∀ r∈n,fewB r∧r.length≤1000000∧∀ p∈r,p.o.length≤100000000000
def putL (W:World)(z:Nat):Nat→List Value→World
 |_,[]=>W
 |i,v::l=>putL (W.setCell ⟨z,i,none⟩ v) z (i+1) l
theorem setL_take {cs:Array Value}{pre:List Value}{v:Value}{rest:List Value}{x:Value}(h:cs.toList=pre++x::rest):(cs.setIfInBounds pre.length v).toList=(pre++[v])++rest:=by
 rw[Array.toList_setIfInBounds,h,List.set_append_right _ _ (Nat.le_refl _),Nat.sub_self,List.set_cons_zero,List.append_assoc]
 rfl
theorem putL_blk {t:TypeId}{z:Nat}:∀ (l rest pre:List Value) (W:World) (cs:Array Value),Blk W z t cs→cs.toList=pre++rest→rest.length=l.length→Blk (putL W z pre.length l) z t (pre++l).toArray∧Fr (fun k=>k=z) W (putL W z pre.length l)
 | [],rest,pre,W,cs,h,he,hl=>by
  have hr:rest=[]:=List.length_eq_zero_iff.1 hl;rw[hr,List.append_nil]at he
  have hc:cs=pre.toArray:=by rw[←he]
  rw[List.append_nil,←hc]
  exact⟨h,Fr.refl W⟩
 |v::l,rest,pre,W,cs,h,he,hl=>by
  match rest,hl with
  |x::rest,hl=>
   have h1:=h.set pre.length v;have h2:=setL_take (v:=v) he;have h3:=putL_blk l rest (pre++[v]) _ _ h1 h2 (by simpa using hl);rw[List.length_append,List.length_singleton,List.append_assoc]at h3
   exact⟨h3.1,(Fr.setCell (S:=fun k=>k=z) (p:=⟨z,pre.length,none⟩) (Fr.refl W) (fun _=>rfl) v).trans h3.2⟩
theorem putL_all {t:TypeId}{z:Nat}{W:World}{Z:List Value}(h:Blk W z t Z.toArray){l:List Value}(hl:Z.length=l.length):Blk (putL W z 0 l) z t l.toArray∧Fr (fun k=>k=z) W (putL W z 0 l):=
 putL_blk l Z [] W Z.toArray h (by simp) hl
def BagZ (Z:List Value)(t:TypeId)(w0 W:World)(l:List Nat):Prop:=Fz w0 W∧l.Nodup∧∀ z∈l,w0.heap.size≤z∧Blk W z t Z.toArray
section
variable {Z:List Value}{t:TypeId}{w0 W W':World}{l:List Nat}
theorem BagZ.nil (Z:List Value)(t:TypeId)(w:World):BagZ Z t w w []:=⟨Fr.refl w,List.nodup_nil,fun z hz=>by simp at hz⟩
theorem BagZ.lt (h:BagZ Z t w0 W l):∀ z∈l,z<W.heap.size:=fun z hz=>(h.2.2 z hz).2.lt
theorem BagZ.more (h:BagZ Z t w0 W l):BagZ Z t w0 (W.alloc (.cells Z.toArray t)) (W.heap.size::l):=by
 refine⟨h.1.alloc _,List.nodup_cons.2 ⟨fun hm=>Nat.lt_irrefl _ (h.lt _ hm),h.2.1⟩,fun z hz=>?_⟩
 rcases List.mem_cons.1 hz with rfl|hz
 ·exact⟨h.1.size,Blk.new _ _ _⟩
 ·exact⟨(h.2.2 z hz).1,(h.2.2 z hz).2.alloc _⟩
theorem BagZ.two (h:BagZ Z t w0 W l):BagZ Z t w0 ((W.alloc (.cells Z.toArray t)).alloc (.cells Z.toArray t)) ((W.heap.size+1)::W.heap.size::l):=by
 have:=h.more.more;rwa[World.size_alloc]at this
theorem BagZ.call (h:BagZ Z t w0 W l)(F:Fz W W'):BagZ Z t w0 W' l:=⟨h.1.trans F,h.2.1,fun z hz=>⟨(h.2.2 z hz).1,(h.2.2 z hz).2.fr F (fun h=>h)⟩⟩
theorem BagZ.drew (h:BagZ Z t w0 W l):BagZ Z t w0 W.drew l:=⟨h.1.drew,h.2.1,fun z hz=>⟨(h.2.2 z hz).1,(h.2.2 z hz).2.drew⟩⟩
abbrev HeldL (R:World→Prop)(l:List Nat)(W:World):Prop:=Kept R (fun k=>k∈l) W
theorem HeldL.more {R:World→Prop}(h:HeldL R l W)(o:Obj):HeldL R (W.heap.size::l) (W.alloc o):=Kept.step h (S:=fun _=>False) ((Fr.refl W).alloc o) (fun _ _ h=>h.elim) (fun k hk=>by
 rcases List.mem_cons.1 hk with rfl|hk
 ·exact .inr (Nat.le_refl _)
 ·exact .inl hk)
theorem HeldL.two {R:World→Prop}(h:HeldL R l W)(o q:Obj):HeldL R ((W.heap.size+1)::W.heap.size::l) ((W.alloc o).alloc q):=by
 have:=(h.more o).more q;rwa[World.size_alloc]at this
theorem BagZ.held (h:BagZ Z t w0 W l){R:World→Prop}{w':World}(hk:Kept R (fun k=>k<W.heap.size) w'):HeldL R l w':=fun V f=>hk V (f.mono (fun k _ hm=>h.lt k hm))
end
def DoneL (t:TypeId)(w0:World)(R:World→Prop)(a d:List Value)(V:World)(p q:Nat):Prop:=Blk V p t a.toArray∧Blk V q t d.toArray∧R V∧Fz w0 V
section
variable {Z:List Value}{t:TypeId}{w0 W:World}{R:World→Prop}{a d:List Value}
end
def copyR (r:List Part):Prop:=r.length≤1000000∧∀ p∈r,p.o.length≤100000000000∧p.b.length≤100000000000
def copyG (g:Gen):Prop:=g.b.length≤100000000000∧g.n.length≤1000000∧∀ r∈g.n,copyR r
theorem vals_keeps {wb w:World}{v:Value}{xs:List Value}(h:Vals wb v xs)(F:Fr (fun k=>wb.heap.size≤k) wb w)(K:Nat→Prop)(hK:∀ k,K k→wb.heap.size≤k):Kept (fun W=>Vals W v xs) K w:=fun W f=>
 h.fr (F.trans (f.mono (fun k _ hk=>hK k hk))) (fun h0 k hk hs=>by have:=h.lt h0 k hk;omega)
end Go.Q
namespace Go.Proofs.YteidmhkobmddiaaGreatDoor
open Go Go.RowKit Go.Q
def StepAt (W:World)(bx bz bc gx gz:Nat)(l:List UInt8):Prop:=
 Blk W bx 32 #[.slice (some ⟨gx,0,none⟩) l.length l.length]∧Blk W bz 32 #[.slice (some ⟨gz,0,none⟩) l.length l.length]∧Blk W bc 3 #[.int .i64 0]∧Blk W gx 5 (Lib.byteCells l).toArray∧Blk W gz 5 (Lib.byteCells (List.replicate l.length 0)).toArray
def hostV (r:Option (List UInt8)):Value:=match r with|some h=>.tuple #[str h,.int .i64 0]|none=>.tuple #[str [],.int .i64 6]
def gkOut (g:Gen):List UInt8:=if genOk g then genKeyS g else []
def gkErr (g:Gen):Int:=if genOk g then 0 else 1
def labelsOut (w':World)(base:Nat)(r:Option (List (List UInt8)))(e:Ending):Prop:=
 match r with
 |some ks=>∃ a c,e=.returned (.tuple #[.slice a ks.length c,.bool true])∧w'.ownsRow base 9 1 (.slice a ks.length c) ks.length (ks.map str)
 |none=>e=.returned (.tuple #[.slice none 0 0,.bool false])
theorem one_put {w0 W:World}{R:World→Prop}{K:Nat→Prop}{t:TypeId}{Z:List Value}{z:Nat}(row:List Value)(hB:Blk W z t Z.toArray)(hl:Z.length=row.length)(F:Fz w0 W)(hz:w0.heap.size≤z)(hk:Kept R K W)(hK:K z) :
  Blk (putL W z 0 row) z t row.toArray∧Kept R K (putL W z 0 row)∧Fz w0 (putL W z 0 row):=by
 have h:=putL_all hB hl;exact⟨h.1,hk.step h.2 (fun k _ e=>by rw[e];exact hK) (fun k hk=>.inl hk),F.trans' h.2 (fun i hi e=>by omega)⟩
theorem directory_any (v:Value)(n:List (List Part))(w:World)(h:NameAt w v n)(hn:n.length≤1000)(hr:∀ r∈n,r.length≤1000000∧∀ p∈r,p.o.length≤100000000000∧p.b.length≤100000000000) :
  Calls Tryz.prog 59 #[v] w fun e w'=>(∃ a c,e=.returned (.agg #[.int .i64 4,.slice none 0 0,.slice a n.length c])∧Kept (fun W=>NameAt W (.slice a n.length c) n) (fun k=>k<w.heap.size) w')∧Fz w w':=by
 have H:=Hi h;have HS:=Hi hr;obtain⟨a,cap,rfl,-⟩:=h
 clear hr;obtain⟨z,hz⟩:∃ z,z=w.heap.size:=⟨_,rfl⟩
 have HZ:=Hi hz;have FZ:Fz w (w.alloc (.cells #[.int .i64 0,.slice none 0 0,.slice none 0 0] 148)):=(Fr.refl w).alloc _;have BZ:=Blk.new w 148 #[.int .i64 0,.slice none 0 0,.slice none 0 0];rw[←hz]at BZ
 replace H:=Hi (H.out.old FZ);clear hz;go_enter Tryz.func59,Tryz.ntmps59
 go_upto_region 1 with fail
 rw[←HZ.out]
 generalize w.alloc (.cells #[.int .i64 0,.slice none 0 0,.slice none 0 0] 148)=w1 at *
 have HBZ:=Hi BZ;have HFZ:=Hi FZ;have B0:=Blk.new w1 143 #[];have F0:Fz w1 (w1.alloc (.cells #[] 143)):=(Fr.refl w1).alloc _;have N0:GRow 1 RStep (fun k=>k<w1.heap.size) 143 (w1.alloc (.cells #[] 143)) w1.heap.size (.slice (some ⟨w1.heap.size,0,none⟩) 0 0) []:=⟨[],own_block B0 0 (Nat.le_refl _) (Nat.zero_le _) w1.heap.size (Nat.le_refl _),fun i r h=>by simp at h⟩;have HN0:=Hi N0;have HF0:=Hi F0;clear B0 F0 N0 BZ FZ;go_wp2_with fail
 go_loopg [3,12] n.length (fun g s i wr=>∃ (j:Nat) (a3:Option Addr) (c3:Nat),g=n.length-j∧j≤n.length∧s=.slice a3 j c3∧i=.int .i64 j∧GRow 1 RStep (fun k=>k<w1.heap.size) 143 wr w1.heap.size (.slice a3 j c3) (n.take j)∧Fz w1 wr)
 case atStart=>exact⟨0,_,0,rfl,Nat.zero_le _,rfl,rfl,HN0.out,HF0.out⟩
 case round=>
  obtain⟨j,a3,c3,hg,hj,rfl,rfl,hrow,F⟩:=hrel
  have HG:=Hi hg;have HRW:=Hi hrow;have HF:=Hi F;have hml:(n.take j).length=j:=by rw[List.length_take];omega
  have HML:=Hi hml;clear hg hrow hml HN0 HF0;by_cases hjl:j<n.length
  ·obtain⟨a0,cap0,he,_,_,hx⟩:=H.out.old F
   simp only[Value.slice.injEq,true_and]at he
   obtain⟨rfl,rfl⟩:=he
   obtain⟨b,off,rfl,hy⟩:=hx (by omega)
   obtain⟨r,hr⟩:∃ r,n[j]? = some r:=⟨_,List.getElem?_eq_getElem hjl⟩
   obtain⟨u,e1,hA⟩:=hy j r hr
   obtain⟨ar,cr,rfl⟩:=hA.form
   have HA:=Hi hA;have HSR:=Hi (HS.out r (List.mem_of_getElem? hr));have hrl:=HSR.out.1;have HMT:=Hi (show n.take (j+1)=n.take j++[r] from by rw[List.take_add_one,hr];rfl);have r1:(0:Int)≤(j:Int):=by omega
   have r2:(j:Int)<(n.length:Int):=by omega
   obtain⟨wo,hwo⟩:∃ wo:World,wo=wr:=⟨_,rfl⟩
   obtain rfl:=hwo
   clear hx hy hr hA F;go_wp2_with fail
   go_loopg [6,18] r.length (fun g u i wr=>∃ (j:Nat) (au:Option Addr) (cu:Nat),g=r.length-j∧j≤r.length∧u=.slice au j cu∧i=.int .i64 j∧KRow 145 wr wo.heap.size (.slice au j cu) (r.take j)∧Fz wo wr)
   case atStart=>exact⟨0,none,0,rfl,Nat.zero_le _,rfl,rfl,KRow.nil _ _ _,Fr.refl _⟩
   case round=>
    obtain⟨i,au,cu,hg2,hi,rfl,rfl,hrow,F⟩:=hrel
    have HG2:=Hi hg2;have HRW2:=Hi hrow;have HF2:=Hi F;have hml:(r.take i).length=i:=by rw[List.length_take];omega
    have HML2:=Hi hml;clear hg2 hrow hml;by_cases hil:i<r.length
    ·obtain⟨a0,cap0,he,_,_,hx⟩:=HA.out.old F
     simp only[Value.slice.injEq,true_and]at he
     obtain⟨rfl,rfl⟩:=he
     obtain⟨b1,off1,rfl,hy⟩:=hx (by omega)
     obtain⟨p,hp⟩:∃ p,r[i]? = some p:=⟨_,List.getElem?_eq_getElem hil⟩
     obtain⟨x,y,e2,e3,hpx,hpy⟩:=hy i p hp
     have HPL:=Hi (HSR.out.2 p (List.mem_of_getElem? hp));obtain⟨ax,cx,rfl,-⟩:=Ints.form hpx
     obtain⟨ay,cy,rfl,-⟩:=Vals.form hpy
     have e2':wr.cell? ⟨b1,off1+i*2,none⟩=some (.slice ax p.o.length cx):=by rw[Nat.mul_comm];exact e2
     have e3':wr.cell? ⟨b1,off1+i*2+1,none⟩=some (.slice ay p.b.length cy):=by rw[Nat.mul_comm];exact e3
     have HPX:=Hi hpx;have HPY:=Hi hpy;have HMT2:=Hi (show r.take (i+1)=r.take i++[p] from by rw[List.take_add_one,hp];rfl);have r3:(0:Int)≤(i:Int):=by omega
     have r4:(i:Int)<(r.length:Int):=by omega
     clear hx hy hp e2 e3 hpx hpy F e1;go_upto_region 9 with fail
     obtain⟨z,hz⟩:∃ z,z=wr.heap.size:=⟨_,rfl⟩
     have BA:=Blk.new wr 145 #[.slice ax p.o.length cx,.slice ay p.b.length cy];have F1:Fz wr (wr.alloc (.cells #[.slice ax p.o.length cx,.slice ay p.b.length cy] 145)):=(Fr.refl wr).alloc _;rw[←hz]at BA ⊢
     have HZ:=Hi hz;have HKL:=Hi (show ∀ k,((Value.slice au i cu).ownBlock=some k∨k<wo.heap.size)→k<wr.heap.size from fun k hk=>by
      rcases hk with h|h
      ·exact(HRW2.out.keep k h).2
      ·have:=HF2.out.size;omega)
     clear hz e2' e3';generalize (wr.alloc (.cells #[.slice ax p.o.length cx,.slice ay p.b.length cy] 145))=w1 at *
     have B:=BA.drew;have G:Fz wr w1.drew:=F1.drew;clear BA F1;go_region_held3 (fun w'=>∀ j,w'.cell? ⟨z,j,none⟩=(#[.slice ax p.o.length cx,.slice ay p.b.length cy]:Array Value)[j]?) (first|exact B.cell|exact(B.alloc _).cell) (first
      |(go_at_call 113;refine(cloneInt_any _ p.o _ (HPX.out.old G) HPL.out.1).mono ?_;rintro e w' ⟨⟨u,rfl,hu⟩,F⟩;obtain⟨ai,mi,ci,rfl,rfl⟩:=own_shape hu;have hkI:=own_kept hu (fun k=>(Value.slice au i cu).ownBlock=some k∨k<wo.heap.size) (fun k hk=>Nat.lt_of_lt_of_le (HKL.out k hk) G.size);(try replace hkB:=hkB.old F);replace B:=B.fr F (fun h=>h);replace G:=G.trans F;clear hu F)
      |(go_at_call 114;refine(cloneByte_any _ p.b _ (HPY.out.old G) HPL.out.2).mono ?_;rintro e w' ⟨⟨u,rfl,hu⟩,F⟩;obtain⟨ab,mb,cb,rfl,rfl⟩:=own_shape hu;have hkB:=own_kept hu (fun k=>(Value.slice au i cu).ownBlock=some k∨k<wo.heap.size) (fun k hk=>Nat.lt_of_lt_of_le (HKL.out k hk) G.size);(try replace hkI:=hkI.old F);replace B:=B.fr F (fun h=>h);replace G:=G.trans F;clear hu F)
      |(obtain⟨a7,c7,w7,hrun,hrow7,F7⟩:=KRow.add Tryz.underlying143 info145 (HRW2.out.fr G (fun _ h=>h.elim)) (HF2.out.trans G).size ((Fr.refl w').alloc (.cells #[.slice ai p.o.length ci,.slice ab p.b.length cb] 145)) w'.heap.size (Blk.new w' 145 #[.slice ai p.o.length ci,.slice ab p.b.length cb]) p (fun W f=>⟨hkI W f,hkB W f⟩) (by rw[HML2.out];omega);rw[HML2.out]at hrun hrow7;refine step_append_run (by rfl) (.tmp 22) (.tmp 30) 143 (by rfl) _ w7 (by exact hrun) ?_;have hG7:=(HF2.out.trans G).trans' F7 (fun i hi e=>absurd hi (by have:=(HRW2.out.keep i e).1;omega));replace B:=B.fr F7 (fun e=>by have:=(HRW2.out.keep z e).2;have:=HZ.out;omega);clear hrun F7))
     all_goals
      have HG7:=Hi hG7;have HROW7:=Hi hrow7;clear hG7 hrow7 G B hkI hkB;go_wp2_with fail
      go_roundg (r.length-(i+1))
      case measure=>rw[HG2.out];omega
      case rel=>exact⟨i+1,a7,c7,rfl,by omega,rfl,by go_num,by rw[HMT2.out];exact HROW7.out,HG7.out⟩
    ·obtain rfl:i=r.length:=by omega
     have hrow2:=HRW2.out;rw[List.take_length]at hrow2
     have hkp:=HRW.out.keep;have hk2:Kept (fun W=>RStep W [.slice au r.length cu] r) (fun k=>(Value.slice a3 j c3).ownBlock=some k∨k<w1.heap.size) wr:=step_of (hrow2.kept.weaken (fun k e=>by
      rcases e with e|e
      ·exact(hkp k e).2
      ·exact Nat.lt_of_lt_of_le e HF.out.size))
     obtain⟨a7,c7,w7,hrun,hrow7,F7,-⟩:=GRow.add Tryz.underlying43 info143 rfl (by decide) (by decide) (HRW.out.old F) (HF.out.trans F).size ((Fr.refl wr).alloc (.cells #[.slice au r.length cu] 143)) wr.heap.size [.slice au r.length cu] rfl (Blk.new wr 143 #[.slice au r.length cu]) (by intro u hu;simp at hu;subst hu;rfl) r hk2 (by rw[HML.out];omega)
     have HG7:=Hi ((HF.out.trans F).trans' F7 (fun i hi e=>absurd hi (by have:=(hkp i e).1;omega)));rw[HML.out]at hrun hrow7
     have HRUN:=Hi hrun;have HROW7:=Hi hrow7;clear hrun hrow7 F7 hk2 hkp hrow2 e1 HRW2 F HF2;go_wp2_with (at_builtin;refine wpList_append_run (by rfl) (.tmp 33) (.tmp 35) 43 (by rfl) _ w7 (by exact HRUN.out) ?_)
     go_roundg (n.length-(j+1))
     case measure=>rw[HG.out];omega
     case rel=>exact⟨j+1,a7,c7,rfl,by omega,rfl,by go_num,by rw[HMT.out];exact HROW7.out,HG7.out⟩
  ·obtain rfl:j=n.length:=by omega
   have hrow:=HRW.out;rw[List.take_length]at hrow
   have hkn:=(hrow.kept (by decide) (fun k=>k<w1.heap.size) (fun k h=>⟨h,h⟩)).imp (fun W h=>h.name);have D:=HBZ.out.fr F (fun h=>h);have hzl:=HBZ.out.lt;have d0:=D.cell 0;have d1:=D.cell 1;have d2:=D.cell 2;have f0:=D.frozen 0;have f1:=D.frozen 1;have f2:=D.frozen 2;have D5:=set3 D (.int .i64 4) (.slice none 0 0) (.slice a3 n.length c3);have n0:=D5.1.cell 0;have n1:=D5.1.cell 1;have n2:=D5.1.cell 2;simp only[SG]at d0 d1 d2 n0 n1 n2
   have HAT:=Hi (hkn.step (K':=fun k=>k<w.heap.size) D5.2 (fun k _ e=>by omega) (fun k hk=>.inl (by have:=HZ.out;omega)));have HFE:=Hi ((HFZ.out.trans F).trans' D5.2 (fun i hi e=>by have:=HZ.out;omega));clear hrow hkn D D5 F;go_wp2_with fail
   exact bodyPost_ret (v:=.agg #[.int .i64 4,.slice none 0 0,.slice a3 n.length c3]) (by simp[results,Tryz.results59,go_sem,n0,n1,n2]) rfl ⟨⟨a3,c3,rfl,HAT.out⟩,HFE.out⟩
theorem scNames_any (v:Value)(l:List Gen)(w:World)(h:Gens w v l)(hf:∀ g∈l,copyG g)(hl:l.length≤1000000) :
  Calls Tryz.prog 115 #[v] w fun e w'=>(∃ a c,e=.returned (.slice a l.length c)∧Kept (fun W=>Gens W (.slice a l.length c) l) (fun k=>k<w.heap.size) w')∧Fz w w':=by
 have H:=Hi h;have HCF:=Hi hf;obtain⟨a0,cap0,rfl,-⟩:=h
 clear hf;go_enter Tryz.func115,Tryz.ntmps115
 go_wp2_with fail
 go_loopg [3,11] l.length (fun m u i wr=>∃ (j:Nat) (a:Option Addr) (c:Nat) (gs:List Gen),m=l.length-j∧j≤l.length∧u=.slice a gs.length c∧i=.int .i64 j∧gs.length=j∧Hid (gs=l.take j)∧GRow 3 RGen (fun k=>k<w.heap.size) 148 wr w.heap.size (.slice a gs.length c) gs∧Fz w wr)
 case atStart=>exact⟨0,none,0,[],rfl,Nat.zero_le _,rfl,rfl,rfl,Hi rfl,GRow.nil _ _ _ _ _ _,Fr.refl _⟩
 case round=>
  obtain⟨j,aq,cq,gq,hm,hj,rfl,rfl,hgl,HGS,hrow,F⟩:=hrel
  obtain⟨wo,rfl⟩:∃ W,W=wr:=⟨_,rfl⟩
  have HM:=Hi hm;have HRW:=Hi hrow;have HF:=Hi F;have HGL:=Hi hgl;clear hm hrow;by_cases hjl:j<l.length
  ·obtain⟨x,hx⟩:∃ x,l[j]? = some x:=⟨_,List.getElem?_eq_getElem hjl⟩
   obtain⟨b,o,ab,cb,an,cn,rfl,-,hga,e0,e1,e2⟩:=H.out.get hx
   replace e0:=F.cell e0 (fun h=>h);replace e1:=F.cell e1 (fun h=>h);replace e2:=F.cell e2 (fun h=>h);obtain⟨vb,vn,hq,hxb,hxn⟩:=hga
   simp only[Value.agg.injEq,Array.mk.injEq,List.cons.injEq,and_true,true_and]at hq
   obtain⟨rfl,rfl⟩:=hq
   have r1:(0:Int)≤(j:Int):=by omega
   have r2:(j:Int)<(l.length:Int):=by omega
   have HCX:=Hi (HCF.out x (List.mem_of_getElem? hx));have HX:=Hi (show l.take (j+1)=l.take j++[x] from by rw[List.take_add_one,hx];rfl);have HXB:=Hi (hxb.old F);have HXN:=Hi (hxn.old F);clear hx hxb hxn F hgl;go_upto_region 5 with fail
   obtain⟨z5,hz5⟩:∃ z,z=wo.heap.size:=⟨_,rfl⟩
   have BA:=Blk.new wo 148 #[.int .i64 x.k,.slice ab x.b.length cb,.slice an x.n.length cn];rw[←hz5]at BA ⊢
   have HFA:=Hi ((Fr.refl (S:=fun _=>False) wo).alloc (.cells #[.int .i64 x.k,.slice ab x.b.length cb,.slice an x.n.length cn] 148));have HZ5:=Hi hz5;clear e0 e1 e2 hz5;generalize (wo.alloc (.cells #[.int .i64 x.k,.slice ab x.b.length cb,.slice an x.n.length cn] 148))=wa at *
   have HBA:=Hi BA;have HCB:=Hi (fun W (F:Fz wa W)=>cloneByte_any _ x.b W ((HXB.out.old HFA.out).old F) HCX.out.1);clear BA;go_cut [6] from 15 to 20 (fun s6 wc=>∃ z6 a2 c2,s6=.pointer (some ⟨z6,0,none⟩)∧wa.heap.size≤z6∧Blk wc z6 148 #[.int .i64 x.k,.slice a2 x.b.length c2,.slice none 0 0]∧Kept (fun W=>Bytes W (.slice a2 x.b.length c2) x.b) (fun k=>k<wa.heap.size∨k=z6) wc∧Fz wa wc)
   case first=>
    have BA:=HBA.out;have G:Fz wa wa:=Fr.refl _;have hltBA:=BA.lt;refine wp_region_noPanic ?_;refine wp_region_held_drew (S:=(fun w'=>∀ j,w'.cell? ⟨z5,j,none⟩=(#[.int .i64 x.k,.slice ab x.b.length cb,.slice an x.n.length cn]:Array Value)[j]?)) (by kernel_rfl) ?_ (fun hHeld=>?_)
    ·exact BA.drew.cell
    replace BA:=BA.drew;replace G:=G.drew;generalize wa.drew=wd at *
    refine wpAnyH_take (i:=0) (oi:=_) (v:=?_) rfl (by kernel_rfl) (by kernel_rfl) (by kernel_rfl) (fun _ _ _ h=>h) (Or.inl ⟨by rfl,?_⟩) (by assumption) ?_;rotate_left
    ·(intro W hSw;(try dsimp only at hSw);go_simp;try with_reducible rfl)
    (try simp only[Act.put,SK,SS]);refine wpAnyH_take (i:=1) (oi:=_) (v:=?_) rfl (by kernel_rfl) (by kernel_rfl) (by kernel_rfl) (fun _ _ _ h=>h) (Or.inl ⟨by rfl,?_⟩) (by assumption) ?_;rotate_left
    ·(intro W hSw;(try dsimp only at hSw);go_simp;try with_reducible rfl)
    (try simp only[Act.put,SK,SS]);refine wpAnyH_take (i:=2) (oi:=_) (v:=?_) rfl (by kernel_rfl) (by kernel_rfl) (by kernel_rfl) (fun _ _ _ h=>h) (Or.inl ⟨by rfl,?_⟩) (by assumption) ?_;rotate_left
    ·(intro W hSw;(try dsimp only at hSw);go_simp;try with_reducible rfl)
    (try simp only[Act.put,SK,SS]);refine wpAnyH_take (i:=3) (oi:=_) (v:=?_) rfl (by kernel_rfl) (by kernel_rfl) (by kernel_rfl) (fun _ _ _ h=>h) (Or.inl ⟨by rfl,?_⟩) (by assumption) ?_;rotate_left
    ·(intro W hSw;(try dsimp only at hSw);go_simp;try with_reducible rfl)
    (try simp only[Act.put,SK,SS]);refine wpAnyH_ready (rs:=[4,6]) (by kernel_rfl) (by simp) ?_;refine AllReadyH.cons (o:=_) rfl (fun KK hKK=>?_) (AllReadyH.cons (o:=_) rfl (fun KK hKK=>?_) AllReadyH.nil)
    ·go_simp
     (go_at_call 114;(with_reducible refine(HCB.out _ G).mono ?_);rintro e w1x ⟨⟨u,rfl,hu⟩,F⟩;have hsz:=G.size;have k1:=own_kept hu ((fun k=>k<wa.heap.size)) (fun k hk=>by have h2:k<wa.heap.size:=hk;omega);obtain⟨a2,m2,c2,rfl,rfl⟩:=own_shape hu;replace BA:=BA.fr F (fun h=>h);replace G:=G.trans F;clear F hsz;go_wp2_with fail)
     refine hKK.out _ _ ?_ (fun hHeld=>?_)
     ·exact BA.cell
     clear hKK KK;(try simp only[Act.put,SK,SS]);refine wpAnyH_take (i:=5) (oi:=_) (v:=?_) rfl (by kernel_rfl) (by kernel_rfl) (by kernel_rfl) (fun _ _ _ h=>h) (Or.inl ⟨by rfl,?_⟩) (by assumption) ?_;rotate_left
     ·(intro W hSw;(try dsimp only at hSw);go_simp;try with_reducible rfl)
     (try simp only[Act.put,SK,SS]);refine wpAnyH_ready (rs:=[6]) (by kernel_rfl) (by simp) ?_;refine AllReadyH.cons (o:=_) rfl (fun KK hKK=>?_) AllReadyH.nil;go_simp
     skip
     refine hKK.out _ _ ?_ (fun hHeld=>?_)
     ·exact(BA.alloc _).cell
     clear hKK KK;(try simp only[Act.put,SK,SS]);obtain⟨zN,hzN⟩:∃ z,z=w1x.heap.size:=⟨_,rfl⟩
     have N:=Blk.new w1x 148 #[.int .i64 0,.slice none 0 0,.slice none 0 0];rw[←hzN]at N ⊢
     replace k1:=k1.step (S:=fun _=>False) (K':=(fun k=>((fun k=>k<wa.heap.size)) k∨k=zN)) ((Fr.refl w1x).alloc (.cells #[.int .i64 0,.slice none 0 0,.slice none 0 0] 148)) (fun _ _ h=>h.elim) (fun k hk=>by rcases hk with hk|hk;exact .inl hk;exact .inr (by omega));replace BA:=BA.alloc (.cells #[.int .i64 0,.slice none 0 0,.slice none 0 0] 148);have hzw:wa.heap.size≤zN:=by have:=G.size;omega
     replace G:=G.alloc (.cells #[.int .i64 0,.slice none 0 0,.slice none 0 0] 148);have hza:zN<(w1x.alloc (.cells #[.int .i64 0,.slice none 0 0,.slice none 0 0] 148)).heap.size:=N.lt;clear hzN;generalize (w1x.alloc (.cells #[.int .i64 0,.slice none 0 0,.slice none 0 0] 148))=wz9 at *
     have d0:=N.cell 0;have d1:=N.cell 1;have d2:=N.cell 2;have f0:=N.frozen 0;have f1:=N.frozen 1;have f2:=N.frozen 2;have P5:=putL_all (Z:=[.int .i64 0,.slice none 0 0,.slice none 0 0]) N (l:=[.int .i64 x.k,.slice a2 x.b.length c2,.slice none 0 0]) rfl;have HE:=one_put [.int .i64 x.k,.slice a2 x.b.length c2,.slice none 0 0] N rfl G hzw k1 (.inr rfl);simp only[putL]at P5 HE
     have BA5:=BA.fr P5.2 (by omega);simp only[SG]at d0 d1 d2
     replace HE:=Hi HE;replace P5:=Hi P5;refine wpAnyH_ready (rs:=[7]) (by kernel_rfl) (by simp) ?_;refine AllReadyH.cons (o:=_) rfl (fun KK hKK=>?_) AllReadyH.nil;go_simp
     refine hKK.out _ _ ?_ (fun hHeld=>?_)
     ·with_reducible exact BA5.cell
     clear hKK KK;(try simp only[Act.put,SK,SS]);refine wpAnyH_done (by kernel_rfl) ?_ _;refine NoPanic.normal ?_;clear d0 d1 d2 f0 f1 f2;go_wp2_with fail
     go_meet
     with_reducible exact⟨zN,_,_,rfl,hzw,HE.out.1,HE.out.2.1,HE.out.2.2⟩
    ·go_simp
     skip
     refine hKK.out _ _ ?_ (fun hHeld=>?_)
     ·exact(BA.alloc _).cell
     clear hKK KK;(try simp only[Act.put,SK,SS]);obtain⟨zN,hzN⟩:∃ z,z=wd.heap.size:=⟨_,rfl⟩
     have N:=Blk.new wd 148 #[.int .i64 0,.slice none 0 0,.slice none 0 0];rw[←hzN]at N ⊢
     replace BA:=BA.alloc (.cells #[.int .i64 0,.slice none 0 0,.slice none 0 0] 148);have hzw:wa.heap.size≤zN:=by have:=G.size;omega
     replace G:=G.alloc (.cells #[.int .i64 0,.slice none 0 0,.slice none 0 0] 148);have hza:zN<(wd.alloc (.cells #[.int .i64 0,.slice none 0 0,.slice none 0 0] 148)).heap.size:=N.lt;clear hzN;generalize (wd.alloc (.cells #[.int .i64 0,.slice none 0 0,.slice none 0 0] 148))=wz9 at *
     refine wpAnyH_ready (rs:=[4]) (by kernel_rfl) (by simp) ?_;refine AllReadyH.cons (o:=_) rfl (fun KK hKK=>?_) AllReadyH.nil;go_simp
     (go_at_call 114;(with_reducible refine(HCB.out _ G).mono ?_);rintro e w1x ⟨⟨u,rfl,hu⟩,F⟩;have hsz:=G.size;have k1:=own_kept hu (fun k=>((fun k=>k<wa.heap.size)) k∨k=zN) (fun k hk=>by rcases hk with h2|h2;(have h3:k<wa.heap.size:=h2;omega);(have h3:=N.lt;omega));obtain⟨a2,m2,c2,rfl,rfl⟩:=own_shape hu;replace BA:=BA.fr F (fun h=>h);replace N:=N.fr F (fun h=>h);replace G:=G.trans F;clear F hsz;go_wp2_with fail)
     refine hKK.out _ _ ?_ (fun hHeld=>?_)
     ·exact BA.cell
     clear hKK KK;(try simp only[Act.put,SK,SS]);refine wpAnyH_take (i:=5) (oi:=_) (v:=?_) rfl (by kernel_rfl) (by kernel_rfl) (by kernel_rfl) (fun _ _ _ h=>h) (Or.inl ⟨by rfl,?_⟩) (by assumption) ?_;rotate_left
     ·(intro W hSw;(try dsimp only at hSw);go_simp;try with_reducible rfl)
     (try simp only[Act.put,SK,SS]);have d0:=N.cell 0;have d1:=N.cell 1;have d2:=N.cell 2;have f0:=N.frozen 0;have f1:=N.frozen 1;have f2:=N.frozen 2;have P5:=putL_all (Z:=[.int .i64 0,.slice none 0 0,.slice none 0 0]) N (l:=[.int .i64 x.k,.slice a2 x.b.length c2,.slice none 0 0]) rfl;have HE:=one_put [.int .i64 x.k,.slice a2 x.b.length c2,.slice none 0 0] N rfl G hzw k1 (.inr rfl);simp only[putL]at P5 HE
     have BA5:=BA.fr P5.2 (by omega);simp only[SG]at d0 d1 d2
     replace HE:=Hi HE;replace P5:=Hi P5;refine wpAnyH_ready (rs:=[7]) (by kernel_rfl) (by simp) ?_;refine AllReadyH.cons (o:=_) rfl (fun KK hKK=>?_) AllReadyH.nil;go_simp
     refine hKK.out _ _ ?_ (fun hHeld=>?_)
     ·with_reducible exact BA5.cell
     clear hKK KK;(try simp only[Act.put,SK,SS]);refine wpAnyH_done (by kernel_rfl) ?_ _;refine NoPanic.normal ?_;clear d0 d1 d2 f0 f1 f2;go_wp2_with fail
     go_meet
     with_reducible exact⟨zN,_,_,rfl,hzw,HE.out.1,HE.out.2.1,HE.out.2.2⟩
   case rest=>
    obtain⟨z6,a2,c2,rfl,hz6,B6,hk6,F6⟩:=hcut
    have HK6:=Hi hk6;have HF6:=Hi F6;have HB6:=Hi B6;have HZ6:=Hi hz6;have i2:=F6.cell (HBA.out.cell 2) (fun h=>h);(try simp only[SG]at i2);have hnl:x.n.length≤1000000:=HCX.out.2.1;clear hk6 F6 B6 hz6;go_upto_region 6 with fail
    go_wp2_with fail
    clear i2;go_loopg [24] x.n.length (fun m i wr=>∃ (j:Nat) (a:Option Addr) (c:Nat) (gs:List (List Part)),m=x.n.length-j∧j≤x.n.length∧i=.int .i64 j∧gs.length=j∧Hid (gs=x.n.take j)∧GRow 1 RStep (fun k=>k<wc.heap.size) 143 wr wc.heap.size (.slice a gs.length c) gs∧Blk wr z6 148 #[.int .i64 x.k,.slice a2 x.b.length c2,.slice a gs.length c]∧Fr (fun k=>k=z6) wc wr)
    case atStart=>exact⟨0,none,0,[],rfl,Nat.zero_le _,rfl,rfl,Hi rfl,GRow.nil _ _ _ _ _ _,HB6.out,Fr.refl _⟩
    case round=>
     have HRWo:=HRW;have HGLo:=HGL;have HGSo:=HGS;have HMo:=HM;have HFo:=HF;clear HRW HGL HGS HM HF;obtain⟨i,a,c,gs,hm,hi,rfl,hgl,HGS,hrow,BG,F⟩:=hrel
     have HM:=Hi hm;have HRW:=Hi hrow;have HF:=Hi F;have HGL:=Hi hgl;have HB:=Hi BG;have HGW:=Hi HB6.out.lt;have HOW:=Hi (show Fz wo wr from (HFA.out.trans HF6.out).trans' F (fun i hi e=>by have h1:=HFA.out.size;have h2:=HZ6.out;omega));clear hm hrow BG;by_cases hil:i<x.n.length
     ·obtain⟨r,hr⟩:∃ r,x.n[i]? = some r:=⟨_,List.getElem?_eq_getElem hil⟩
      obtain⟨_,_,he,_,_,hy⟩:=HXN.out.old HOW.out
      simp only[Value.slice.injEq,true_and]at he
      obtain⟨rfl,rfl⟩:=he
      obtain⟨bn,on,rfl,hz⟩:=hy (by omega)
      obtain⟨u,g1,hA⟩:=hz i r hr
      have hA0:=hA;obtain⟨ar,cr,rfl,-⟩:=hA0
      have q1:(0:Int)≤(i:Int):=by omega
      have q2:(i:Int)<(x.n.length:Int):=by omega
      have HCR:=HCX.out.2.2 r (List.mem_of_getElem? hr);have HST:=Hi (fun W (F:Fz wr W)=>scStep_any _ r W (Attrs.old hA F) HCR.1 HCR.2);have HX2:=Hi (show x.n.take (i+1)=x.n.take i++[r] from by rw[List.take_add_one,hr];rfl);have HSS:=Hi (show ∀ W,Fz wr W→W.cell? ⟨z6,2,none⟩=some (.slice a gs.length c) from fun W f=>f.cell (HB.out.cell 2) (fun h=>h));clear hy hz hr hA HCR F hgl;go_upto_region 9 with fail
      clear g1;refine wp_region_N 6 (S:=fun w'=>w'.cell? ⟨z6,2,none⟩=some (.slice a gs.length c)) (by kernel_rfl) ?_ (fun hHeld=>?_)
      ·exact HSS.out _ (Fr.refl (S:=fun _=>False) wr).drew
      refine tkN 0 rfl hHeld ?_;refine tkN 1 rfl hHeld ?_;refine tkN 2 rfl hHeld ?_;(try simp only[Act.put,SK,SS]);refine wpAnyN_step (i:=3) (by kernel_rfl) (o:=_) rfl (fun KK hKK=>?_);go_simp
      (go_at_call 116;(with_reducible refine(HST.out _ (Fr.refl (S:=fun _=>False) wr).drew).mono ?_);rintro e w3 ⟨⟨a4,c4,rfl,hq⟩,F3⟩;go_wp2_with fail)
      refine hKK.out _ _ ?_ (fun hHeld=>?_)
      ·exact HSS.out _ ((Fr.refl (S:=fun _=>False) wr).drew.trans F3)
      clear hKK KK;(try simp only[Act.put,SK,SS])
      obtain⟨a7,c7,w7,hrun,hrow7,F7,-⟩:=(HRW.out.old ((Fr.refl (S:=fun _=>False) wr).drew.trans F3)).add (s:=43) Tryz.underlying43 info143 rfl (by decide) (by decide) (by have:=((HF.out.mono (T:=fun _=>True) (fun _ _ _=>trivial)).trans (((Fr.refl (S:=fun _=>False) wr).drew.trans F3).mono (T:=fun _=>True) (fun _ _ h=>h.elim))).size;exact this) ((Fr.refl w3).alloc (.cells #[.slice a4 r.length c4] 143)) w3.heap.size [.slice a4 r.length c4] rfl (Blk.new w3 143 #[.slice a4 r.length c4]) (by simp[Value.oneCell']) r ((hq.kept.weaken (fun k hk=>by have hd:wr.drew.heap.size=wr.heap.size:=rfl;have h3:=HF.out.size;rcases hk with hk|hk;(have:=(HRW.out.keep k hk).2;show k<_;omega);(have h2:k<wc.heap.size:=hk;show k<_;omega))).imp (fun W h=>⟨_,rfl,h⟩)) (by have:=HGL.out;omega)
      have hk7:=HRW.out.keep;have hk8:=hrow7.keep;have F7w:=(((Fr.refl (S:=fun _=>False) wr).drew.trans F3).mono (T:=fun k=>(Value.slice a gs.length c).ownBlock=some k) (fun _ _ h=>h.elim)).trans F7;have B7:=HB.out.fr F7w (fun e=>by have:=(hk7 _ e).1;have:=HGW.out;omega);have z0:=B7.cell 2;have f0:=B7.frozen 2;have z0s:w7.cell? ⟨z6,2,none⟩=some (.slice a gs.length c):=z0;have HRUN:=Hi hrun;refine wpAnyN_step (i:=4) (by kernel_rfl) (o:=_) rfl (fun KK hKK=>?_);go_simp
      skip
      refine hKK.out _ _ ?_ (fun hHeld=>?_)
      ·exact HSS.out _ (((Fr.refl (S:=fun _=>False) wr).drew.trans F3).alloc _)
      clear hKK KK;(try simp only[Act.put,SK,SS]);refine wpAnyN_step (i:=5) (by kernel_rfl) (o:=_) rfl (fun KK hKK=>?_);refine step_append_run (by rfl) (.tmp 29) (.tmp 32) 43 (by rfl) _ w7 (by exact HRUN.out) ?_;refine hKK.out _ _ ?_ (fun hHeld=>?_)
      ·exact z0s
      clear hKK KK;(try simp only[Act.put,SK,SS]);refine wpAnyN_last (i:=6) (by kernel_rfl) (by decide) (o:=_) rfl (fun KK hKK=>?_);go_simp
      skip
      refine hKK.out _ _ ?_;clear hKK KK;(try simp only[Act.put,SK,SS]);refine wpAnyN_last (i:=7) (by kernel_rfl) (by decide) (o:=_) rfl (fun KK hKK=>?_);go_simp
      skip
      refine hKK.out _ _ ?_;clear hKK KK;(try simp only[Act.put,SK,SS]);refine wpAnyN_done (by kernel_rfl) ?_ _;have B8:Blk (w7.setCell ⟨z6,2,none⟩ (.slice a7 (gs.length+1) c7)) z6 148 #[.int .i64 x.k,.slice a2 x.b.length c2,.slice a7 (gs.length+1) c7]:=B7.set 2 _;have F8:Fr (fun k=>k=z6) w7 (w7.setCell ⟨z6,2,none⟩ (.slice a7 (gs.length+1) c7)):=Fr.setCell (S:=fun k=>k=z6) (p:=⟨z6,2,none⟩) (Fr.refl w7) (fun _=>rfl) _;have R8:=hrow7.fr F8 (fun k _ e=>by have:=HGW.out;have e2:k=z6:=e;show k<wc.heap.size;omega) (fun k hk e=>by have:=(hk8 k hk).1;have e2:k=z6:=e;have:=HGW.out;omega);have HR8:=Hi R8
      have HB8:=Hi B8;have HF8:=Hi ((HF.out.trans' F7w (fun i hi e=>absurd hi (by have:=(hk7 i e).1;omega))).trans' F8 (fun i hi e=>e));clear B8 F8 R8 hk7 hk8 F7w B7 z0 z0s f0 hrun hrow7 F7 hq F3;have HGS8:=Hi (show gs++[r]=x.n.take (i+1) from by rw[HX2.out,HGS.out]);go_wp2_with fail
      go_roundg (x.n.length-(i+1))
      case measure=>rw[HM.out];omega
      case rel=>exact⟨i+1,a7,c7,gs++[r],rfl,by omega,by go_num,by rw[List.length_append,HGL.out];rfl,HGS8,by rw[List.length_append];exact HR8.out,by rw[List.length_append];exact HB8.out,HF8.out⟩
     ·obtain rfl:i=x.n.length:=by omega
      have hgs:=HGS.out;rw[List.take_length]at hgs
      subst hgs;have hlo:=HRWo.out.keep;have hs1:=HFA.out.size;have hs2:=HFo.out.size;have hs3:=HF6.out.size;have kb:=HK6.out.step F (K':=fun k=>(Value.slice aq gq.length cq).ownBlock=some k∨k<w.heap.size) (fun k _ e=>.inr e) (fun k hk=>.inl (.inl (by rcases hk with hk|hk;(have:=(hlo k hk).2;omega);omega)));have kn:=(HRW.out.kept (by decide) (fun k=>(Value.slice aq gq.length cq).ownBlock=some k∨k<w.heap.size) (fun k hk=>by rcases hk with hk|hk;(have h3:=(hlo k hk).2;exact⟨show k<wc.heap.size by omega,by omega⟩);exact⟨show k<wc.heap.size by omega,by omega⟩)).imp (fun _ h=>LAt.name h)
      have kx:Kept (fun W=>RGen W [.int .i64 x.k,.slice a2 x.b.length c2,.slice a x.n.length c] x) (fun k=>(Value.slice aq gq.length cq).ownBlock=some k∨k<w.heap.size) wr:=(Kept.both kb kn).imp (fun _ h=>⟨_,_,rfl,h.1,h.2⟩)
      obtain⟨a7,c7,w7,hrun,hrow7,F7,-⟩:=(HRWo.out.old HOW.out).add (s:=45) Tryz.underlying45 info148 rfl (by decide) (by decide) (HFo.out.trans HOW.out).size ((Fr.refl wr).alloc (.cells #[.int .i64 x.k,.slice a2 x.b.length c2,.slice a x.n.length c] 148)) wr.heap.size [.int .i64 x.k,.slice a2 x.b.length c2,.slice a x.n.length c] rfl (Blk.new wr 148 #[.int .i64 x.k,.slice a2 x.b.length c2,.slice a x.n.length c]) (by simp[Value.oneCell']) x kx (by have:=HGLo.out;omega)
      have HRUN:=Hi hrun;have HR7:=Hi hrow7;have HF7:=Hi ((HFo.out.trans HOW.out).trans' F7 (fun i hi e=>absurd hi (by have:=(hlo i e).1;omega)));have HGS7:=Hi (show gq++[x]=l.take (j+1) from by rw[HX.out,HGSo.out]);have b0:=HB.out.cell 0;have b1:=HB.out.cell 1;have b2:=HB.out.cell 2;simp only[SG]at b0 b1 b2
      clear hlo hs1 hs2 hs3 kb kn kx hrun hrow7 F7 F hgl;go_wp2_with (at_builtin;refine wpList_append_run (by rfl) (.tmp 36) (.tmp 38) 45 (by rfl) _ w7 (by exact HRUN.out) ?_)
      go_roundg (l.length-(j+1))
      case measure=>rw[HMo.out];omega
      case rel=>exact⟨j+1,a7,c7,gq++[x],rfl,by omega,by rw[List.length_append];rfl,by go_num,by rw[List.length_append,HGLo.out];rfl,HGS7,by rw[List.length_append];exact HR7.out,HF7.out⟩
  ·have hgs:=HGS.out
   rw[List.take_of_length_le (by omega)]at hgs
   have HE:=Hi hgs;clear hgs hgl;go_wp2_with fail
   go_ret;rw[←HE.out]
   exact⟨⟨aq,cq,rfl,HRW.out.kept (by decide) _ (fun k h=>⟨h,h⟩)⟩,F⟩
theorem lawFewK_any (v:Value)(l:List Gen)(wb w:World)(h:Gens wb v l)(Fb:Fz wb w) :
  Calls Tryz.prog 77 #[v] w fun e w'=>(∃ a c,e=.returned (.slice a (fewS l).length c)∧Kept (fun W=>Gens W (.slice a (fewS l).length c) (fewS l)) (fun k=>wb.heap.size≤k∧k<w.heap.size) w')∧Fz w w':=by
 have H:=Hi h;have HFB:=Hi Fb;have hwb:=Fb.size;clear Fb;have HDF:=Hi (show fewS l=(l.take 20).map cutGen from rfl);obtain⟨a0,cap0,rfl,-⟩:=h
 go_enter Tryz.func77,Tryz.ntmps77
 go_wp2_with fail
 go_loopg [3,4] l.length (fun g u i wr=>∃ (j:Nat) (a:Option Addr) (c:Nat) (gs:List Gen),g=l.length-j∧j≤l.length∧j≤20∧u=.slice a gs.length c∧i=.int .i64 j∧gs.length=j∧Hid (gs=(l.take j).map cutGen)∧GRow 3 RGen (fun k=>wb.heap.size≤k∧k<w.heap.size) 148 wr w.heap.size (.slice a gs.length c) gs∧Fz w wr)
 case atStart=>exact⟨0,none,0,[],rfl,Nat.zero_le _,by omega,rfl,rfl,rfl,Hi rfl,GRow.nil _ _ _ _ _ _,Fr.refl _⟩
 case round=>
  obtain⟨j,a,c,gs,hg,hj,hj20,rfl,rfl,hgl,HGS,hrow,F⟩:=hrel
  have HG:=Hi hg;have HRW:=Hi hrow;have HF:=Hi F;have HGL:=Hi hgl;clear hg hrow;by_cases hjl:j<l.length
  ·by_cases h20:j<20
   ·obtain⟨x,hx⟩:∃ x,l[j]? = some x:=⟨_,List.getElem?_eq_getElem hjl⟩
    obtain⟨b,o,ab,cb,an,cn,rfl,-,hga,e0,e1,e2⟩:=H.out.get hx
    replace e0:=(HFB.out.trans F).cell e0 (fun h=>h);replace e1:=(HFB.out.trans F).cell e1 (fun h=>h);replace e2:=(HFB.out.trans F).cell e2 (fun h=>h);have r1:(0:Int)≤(j:Int):=by omega
    have r2:(j:Int)<(l.length:Int):=by omega
    have r3:(j:Int)<20:=by omega
    have HO:=Hi (lawGTo_any _ x wb wr hga (HFB.out.trans F));have HX:=Hi (few_take hx);have hkp:=HRW.out.keep;clear hx hga F hgl h20;generalize cutGen x=y at *
    go_wp2_with fail
    refine HO.out.mono ?_;rintro e w2 ⟨⟨ab2,cb2,an2,cn2,rfl,hk⟩,F2⟩;obtain⟨a7,c7,w7,hrun,hrow7,F7,-⟩:=(HRW.out.old F2).add (s:=45) Tryz.underlying45 info148 rfl (by decide) (by decide) (HF.out.trans F2).size ((Fr.refl w2).alloc (.cells #[.int .i64 y.k,.slice ab2 y.b.length cb2,.slice an2 y.n.length cn2] 148)) w2.heap.size [.int .i64 y.k,.slice ab2 y.b.length cb2,.slice an2 y.n.length cn2] rfl (Blk.new w2 148 #[.int .i64 y.k,.slice ab2 y.b.length cb2,.slice an2 y.n.length cn2]) (by simp[Value.oneCell']) y ((hk.weaken (fun k hk=>by
     have hs:=HF.out.size;rcases hk with hk|hk
     ·have:=hkp k hk;omega
     ·omega)).imp (fun W h=>⟨_,_,rfl,h.1,h.2⟩)) (by have:=HGL.out;omega)
    have HRUN:=Hi hrun;have HRW7:=Hi hrow7;have HF7:=Hi ((HF.out.trans F2).trans' F7 (fun i hi e=>absurd hi (by have:=(hkp i e).1;omega)));have HGS7:=Hi (show gs++[y]=(l.take (j+1)).map cutGen by rw[HX.out,HGS.out]);clear F2 hk hrun hrow7 F7 HO HRW hkp e0 e1 e2;go_wp2_with (at_builtin;refine wpList_append_run (by rfl) (.tmp 15) (.tmp 21) 45 (by rfl) _ w7 (by exact HRUN.out) ?_)
    go_roundg (l.length-(j+1))
    case measure=>rw[HG.out];omega
    case rel=>exact⟨j+1,a7,c7,gs++[y],rfl,by omega,by omega,by rw[List.length_append];rfl,by go_num,by rw[List.length_append,HGL.out];rfl,HGS7,by rw[List.length_append];exact HRW7.out,HF7.out⟩
   ·obtain rfl:j=20:=by omega
    have q2:¬((20:Nat):Int)<20:=by omega
    have q1:((20:Nat):Int)<(l.length:Int):=by omega
    have HE:=Hi (show gs=fewS l by rw[HGS.out,HDF.out]);clear hgl hj20 h20;go_wp2_with fail
    go_ret;rw[←HE.out]
    exact⟨⟨a,c,rfl,HRW.out.kept (by decide) _ (fun k h=>⟨h,h.2⟩)⟩,F⟩
  ·have HE:=Hi (show gs=fewS l by rw[HGS.out,HDF.out,List.take_of_length_le (by omega),List.take_of_length_le (by omega)])
   clear hgl;go_wp2_with fail
   go_ret;rw[←HE.out]
   exact⟨⟨a,c,rfl,HRW.out.kept (by decide) _ (fun k h=>⟨h,h.2⟩)⟩,F⟩
theorem lawAllK_any (v:Value)(l:List Gen)(wb w:World)(h:Gens wb v l)(Fb:Fz wb w)(hn:∀ g∈l,g.n.length≤1000000∧∀ r∈g.n,r.length≤1000000)(hl:l.length≤1000000) :
  Calls Tryz.prog 66 #[v] w fun e w'=>(∃ a c,e=.returned (.slice a l.length c)∧Kept (fun W=>Gens W (.slice a l.length c) l) (fun k=>wb.heap.size≤k∧k<w.heap.size) w')∧Fz w w':=by
 have H:=Hi h;have HFB:=Hi Fb;have hwb:=Fb.size;clear Fb;have HN:=Hi hn;obtain⟨a0,cap0,rfl,-⟩:=h
 clear hn;go_enter Tryz.func66,Tryz.ntmps66
 go_wp2_with fail
 go_loopg [3,4] l.length (fun g u i wr=>∃ (j:Nat) (a:Option Addr) (c:Nat) (gs:List Gen),g=l.length-j∧j≤l.length∧u=.slice a gs.length c∧i=.int .i64 j∧gs.length=j∧Hid (gs=l.take j)∧GRow 3 RGen (fun k=>wb.heap.size≤k∧k<w.heap.size) 123 wr w.heap.size (.slice a gs.length c) gs∧Fz w wr)
 case atStart=>exact⟨0,none,0,[],rfl,Nat.zero_le _,rfl,rfl,rfl,Hi rfl,GRow.nil _ _ _ _ _ _,Fr.refl _⟩
 case round=>
  obtain⟨j,a,c,gs,hg,hj,rfl,rfl,hgl,HGS,hrow,F⟩:=hrel
  have HG:=Hi hg;have HRW:=Hi hrow;have HF:=Hi F;have HGL:=Hi hgl;clear hg hrow;by_cases hjl:j<l.length
  ·obtain⟨x,hx⟩:∃ x,l[j]? = some x:=⟨_,List.getElem?_eq_getElem hjl⟩
   obtain⟨b,o,ab,cb,an,cn,rfl,-,hga,e0,e1,e2⟩:=H.out.get hx
   replace e0:=(HFB.out.trans F).cell e0 (fun h=>h);replace e1:=(HFB.out.trans F).cell e1 (fun h=>h);replace e2:=(HFB.out.trans F).cell e2 (fun h=>h);have r1:(0:Int)≤(j:Int):=by omega
   have r2:(j:Int)<(l.length:Int):=by omega
   have hxn:=HN.out x (List.mem_of_getElem? hx);have HO:=Hi (lawGOf_any _ x wb wr hga (HFB.out.trans F) hxn.1 hxn.2);have HX:=Hi hx;have hkp:=HRW.out.keep;clear hx hga F hxn hgl;go_wp2_with fail
   refine HO.out.mono ?_;rintro e w2 ⟨⟨ab2,cb2,an2,cn2,rfl,hk⟩,F2⟩;obtain⟨a7,c7,w7,hrun,hrow7,F7,-⟩:=(HRW.out.old F2).add (s:=23) Tryz.underlying23 info123 rfl (by decide) (by decide) (HF.out.trans F2).size ((Fr.refl w2).alloc (.cells #[.int .i64 x.k,.slice ab2 x.b.length cb2,.slice an2 x.n.length cn2] 123)) w2.heap.size [.int .i64 x.k,.slice ab2 x.b.length cb2,.slice an2 x.n.length cn2] rfl (Blk.new w2 123 #[.int .i64 x.k,.slice ab2 x.b.length cb2,.slice an2 x.n.length cn2]) (by simp[Value.oneCell']) x ((hk.weaken (fun k hk=>by
    have hs:=HF.out.size;rcases hk with hk|hk
    ·have:=hkp k hk;omega
    ·omega)).imp (fun W h=>⟨_,_,rfl,h.1,h.2⟩)) (by have:=HGL.out;omega)
   have HRUN:=Hi hrun;have HRW7:=Hi hrow7;have HF7:=Hi ((HF.out.trans F2).trans' F7 (fun i hi e=>absurd hi (by have:=(hkp i e).1;omega)));have HGS7:=Hi (show gs++[x]=l.take (j+1) by rw[List.take_add_one,HX.out,HGS.out];rfl);clear F2 hk hrun hrow7 F7 HO HRW hkp e0 e1 e2;go_wp2_with (at_builtin;refine wpList_append_run (by rfl) (.tmp 11) (.tmp 17) 23 (by rfl) _ w7 (by exact HRUN.out) ?_)
   go_roundg (l.length-(j+1))
   case measure=>rw[HG.out];omega
   case rel=>exact⟨j+1,a7,c7,gs++[x],rfl,by omega,by rw[List.length_append];rfl,by go_num,by rw[List.length_append,HGL.out];rfl,HGS7,by rw[List.length_append];exact HRW7.out,HF7.out⟩
  ·have hgs:=HGS.out
   rw[List.take_of_length_le (by omega)]at hgs
   have HE:=Hi hgs;clear hgs hgl;go_wp2_with fail
   go_ret;rw[←HE.out]
   exact⟨⟨a,c,rfl,HRW.out.kept (by decide) _ (fun k h=>⟨h,h.2⟩)⟩,F⟩
theorem info211:(Tryz.prog.info? 211).map (fun i=>(i.zero,i.size,i.bytes))=some (some (.agg #[.slice none 0 0,.bool false,.slice none 0 0]),3,56):=by kernel_rfl
theorem lawExtTo_any (u:Value)(x:Ext)(wb w:World)(h:ExtAt wb u x)(Fb:Fz wb w) :
  Calls Tryz.prog 112 #[u] w fun e w'=>(∃ ao co av cv,e=.returned (.agg #[.slice ao (cutExt x).o.length co,.bool (cutExt x).c,.slice av (cutExt x).v.length cv])∧Kept (fun W=>Ints W (.slice ao (cutExt x).o.length co) (cutExt x).o∧Bytes W (.slice av (cutExt x).v.length cv) (cutExt x).v) (fun k=>wb.heap.size≤k∧k<w.heap.size) w')∧Fz w w':=by
 obtain⟨ao,co,av,cv,rfl,ho,hv⟩:=h.form
 obtain⟨_,_,he,hc1,hm1,-⟩:=Ints.form ho
 simp only[Value.slice.injEq]at he
 obtain⟨rfl,-,rfl⟩:=he
 obtain⟨_,_,he,hc2,hm2,-⟩:=Vals.form hv
 simp only[Value.slice.injEq]at he
 obtain⟨rfl,-,rfl⟩:=he
 unfold maxLen at hm1 hm2;obtain⟨mo,hmo⟩:∃ m:Nat,m=min x.o.length 40:=⟨_,rfl⟩
 obtain⟨mv,hmv⟩:∃ m:Nat,m=min x.v.length 200:=⟨_,rfl⟩
 have HOC:=Hi (Ints.cut ho 40 mo hmo);have HVC:=Hi (Vals.cut hv 200 mv hmv);have hol:(x.o.take 40).length=mo:=by rw[List.length_take,hmo,Nat.min_comm]
 have hvl:(x.v.take 200).length=mv:=by rw[List.length_take,hmv,Nat.min_comm]
 have HOL:=Hi hol;have HVL:=Hi hvl;have c1:min (x.o.length:Int) 40=(mo:Int):=by omega
 have c2:min (x.v.length:Int) 200=(mv:Int):=by omega
 have c3:(mo:Int)≤(co:Int):=by omega
 have c4:(mv:Int)≤(cv:Int):=by omega
 have c5:(0:Int)≤(mo:Int):=by omega
 have c6:(0:Int)≤(mv:Int):=by omega
 obtain⟨z,hz⟩:∃ z,z=w.heap.size:=⟨_,rfl⟩
 have HZ:=Hi hz;have F0:Fz w ((w.alloc (.cells #[.slice ao x.o.length co,.bool x.c,.slice av x.v.length cv] 213)).alloc (.cells #[.slice none 0 0,.bool false,.slice none 0 0] 211)):=((Fr.refl w).alloc _).alloc _;have B:=(Blk.new w 213 #[.slice ao x.o.length co,.bool x.c,.slice av x.v.length cv]).alloc (.cells #[.slice none 0 0,.bool false,.slice none 0 0] 211);have D:=Blk.new (w.alloc (.cells #[.slice ao x.o.length co,.bool x.c,.slice av x.v.length cv] 213)) 211 #[.slice none 0 0,.bool false,.slice none 0 0];rw[World.size_alloc,←hz]at D
 rw[←hz]at B
 have HF0:=Hi F0;have hs0:w.heap.size+2=((w.alloc (.cells #[.slice ao x.o.length co,.bool x.c,.slice av x.v.length cv] 213)).alloc (.cells #[.slice none 0 0,.bool false,.slice none 0 0] 211)).heap.size:=by rw[World.size_alloc,World.size_alloc]
 have HFB:=Hi Fb;clear h hz F0 Fb ho hv hol hvl hmo hmv hc1 hc2;go_enter Tryz.func112,Tryz.ntmps112
 go_upto_region 1 with fail
 rw[←HZ.out]
 have HS0:=Hi hs0;clear hs0;generalize ((w.alloc (.cells #[.slice ao x.o.length co,.bool x.c,.slice av x.v.length cv] 213)).alloc (.cells #[.slice none 0 0,.bool false,.slice none 0 0] 211))=w0 at *
 have d0:=D.cell 0;have d1:=D.cell 1;have d2:=D.cell 2;have f0:=D.frozen 0;have f1:=D.frozen 1;have f2:=D.frozen 2;have G:Fz w w0:=HF0.out;have D5:=set3 D (.slice ao mo co) (.bool x.c) (.slice av mv cv);have B5:=B.fr D5.2 (by omega);simp only[SG]at d0 d1 d2
 go_region_held3 (fun w'=>∀ j,w'.cell? ⟨z,j,none⟩=(#[.slice ao x.o.length co,.bool x.c,.slice av x.v.length cv]:Array Value)[j]?) (first|exact B.cell|exact B5.cell) (first|fail)
 all_goals
  have n0:=D5.1.cell 0;have n1:=D5.1.cell 1;have n2:=D5.1.cell 2;simp only[SG]at n0 n1 n2
  have hw1:=(HFB.out.trans G).mono (T:=fun k=>wb.heap.size≤k) (fun _ _ h=>h.elim);have hko:=vals_keeps HOC.out hw1 (fun k=>wb.heap.size≤k∧k<w0.heap.size) (fun k hk=>hk.1);have hkv:=vals_keeps HVC.out hw1 (fun k=>wb.heap.size≤k∧k<w0.heap.size) (fun k hk=>hk.1);have hsb:=HFB.out.size;have HK:=Hi ((Kept.both hko hkv).step (K':=fun k=>wb.heap.size≤k∧k<w.heap.size) D5.2 (fun k hk e=>by have:=HZ.out;have:=HS0.out;omega) (fun k hk=>by have:=HS0.out;exact .inl (by omega)));have HF:=Hi (G.trans' D5.2 (fun i hi e=>by have:=HZ.out;omega));clear hko hkv B D B5 D5 G hw1;go_wp2_with fail
  refine bodyPost_ret (v:=.agg #[.slice ao mo co,.bool x.c,.slice av mv cv]) (by simp[results,Tryz.results112,go_sem,n0,n1,n2]) rfl ⟨⟨ao,co,av,cv,?_,?_⟩,HF.out.drew⟩
  ·show _=Ending.returned (.agg #[.slice ao (x.o.take 40).length co,.bool x.c,.slice av (x.v.take 200).length cv])
   rw[HOL.out,HVL.out]
  ·show Kept (fun W=>Ints W (.slice ao (x.o.take 40).length co) (x.o.take 40)∧Bytes W (.slice av (x.v.take 200).length cv) (x.v.take 200)) _ _
   rw[HOL.out,HVL.out]
   exact HK.out.old (Fr.refl _).drew
def fewExts (l:List Ext):List Ext:=(l.take 70).map cutExt
theorem fewExts_take {l:List Ext}{j:Nat}{x:Ext}(h:l[j]? = some x):(l.take (j+1)).map cutExt=(l.take j).map cutExt++[cutExt x]:=by
 rw[List.take_add_one,h,List.map_append]
 rfl
theorem lawExtFew_any (v:Value)(l:List Ext)(wb w:World)(h:Exts wb v l)(Fb:Fz wb w) :
  Calls Tryz.prog 57 #[v] w fun e w'=>(∃ a c,e=.returned (.slice a (fewExts l).length c)∧Kept (fun W=>Exts W (.slice a (fewExts l).length c) (fewExts l)) (fun k=>wb.heap.size≤k∧k<w.heap.size) w')∧Fz w w':=by
 have H:=Hi h;have HFB:=Hi Fb;have hwb:=Fb.size;have HDF:=Hi (show fewExts l=(l.take 70).map cutExt from rfl);obtain⟨a0,cap0,rfl,-⟩:=h
 clear Fb;go_enter Tryz.func57,Tryz.ntmps57
 go_wp2_with fail
 go_loopg [3,4] l.length (fun g u i wr=>∃ (j:Nat) (a:Option Addr) (c:Nat) (gs:List Ext),g=l.length-j∧j≤l.length∧j≤70∧u=.slice a gs.length c∧i=.int .i64 j∧gs.length=j∧Hid (gs=(l.take j).map cutExt)∧GRow 3 RExt (fun k=>wb.heap.size≤k∧k<w.heap.size) 211 wr w.heap.size (.slice a gs.length c) gs∧Fz w wr)
 case atStart=>exact⟨0,none,0,[],rfl,Nat.zero_le _,by omega,rfl,rfl,rfl,Hi rfl,GRow.nil _ _ _ _ _ _,Fr.refl _⟩
 case round=>
  obtain⟨j,a,c,gs,hg,hj,hj70,rfl,rfl,hgl,HGS,hrow,F⟩:=hrel
  have HG:=Hi hg;have HRW:=Hi hrow;have HF:=Hi F;have HGL:=Hi hgl;clear hg hrow;by_cases hjl:j<l.length
  ·by_cases h70:j<70
   ·obtain⟨x,hx⟩:∃ x,l[j]? = some x:=⟨_,List.getElem?_eq_getElem hjl⟩
    obtain⟨b,o,ao,co,av,cv,rfl,-,hga,e0,e1,e2⟩:=H.out.get hx
    replace e0:=(HFB.out.trans F).cell e0 (fun h=>h);replace e1:=(HFB.out.trans F).cell e1 (fun h=>h);replace e2:=(HFB.out.trans F).cell e2 (fun h=>h);have r1:(0:Int)≤(j:Int):=by omega
    have r2:(j:Int)<(l.length:Int):=by omega
    have r3:(j:Int)<70:=by omega
    have HO:=Hi (lawExtTo_any _ x wb wr hga (HFB.out.trans F));have HX:=Hi (fewExts_take hx);have hkp:=HRW.out.keep;clear hx hga F hgl h70;generalize cutExt x=y at *
    go_wp2_with fail
    refine HO.out.mono ?_;rintro e w2 ⟨⟨ao2,co2,av2,cv2,rfl,hk⟩,F2⟩;obtain⟨a7,c7,w7,hrun,hrow7,F7,-⟩:=(HRW.out.old F2).add (s:=90) Tryz.underlying90 info211 rfl (by decide) (by decide) (HF.out.trans F2).size ((Fr.refl w2).alloc (.cells #[.slice ao2 y.o.length co2,.bool y.c,.slice av2 y.v.length cv2] 211)) w2.heap.size [.slice ao2 y.o.length co2,.bool y.c,.slice av2 y.v.length cv2] rfl (Blk.new w2 211 #[.slice ao2 y.o.length co2,.bool y.c,.slice av2 y.v.length cv2]) (by simp[Value.oneCell']) y ((hk.weaken (fun k hk=>by
     have hs:=HF.out.size;rcases hk with hk|hk
     ·have:=hkp k hk;omega
     ·omega)).imp (fun W h=>⟨_,_,rfl,h.1,h.2⟩)) (by have:=HGL.out;omega)
    have HRUN:=Hi hrun;have HRW7:=Hi hrow7;have HF7:=Hi ((HF.out.trans F2).trans' F7 (fun i hi e=>absurd hi (by have:=(hkp i e).1;omega)));have HGS7:=Hi (show gs++[y]=(l.take (j+1)).map cutExt by rw[HX.out,HGS.out]);clear F2 hk hrun hrow7 F7 HO HRW hkp e0 e1 e2;go_wp2_with (at_builtin;refine wpList_append_run (by rfl) (.tmp 15) (.tmp 21) 90 (by rfl) _ w7 (by exact HRUN.out) ?_)
    go_roundg (l.length-(j+1))
    case measure=>rw[HG.out];omega
    case rel=>exact⟨j+1,a7,c7,gs++[y],rfl,by omega,by omega,by rw[List.length_append];rfl,by go_num,by rw[List.length_append,HGL.out];rfl,HGS7,by rw[List.length_append];exact HRW7.out,HF7.out⟩
   ·obtain rfl:j=70:=by omega
    have q2:¬((70:Nat):Int)<70:=by omega
    have q1:((70:Nat):Int)<(l.length:Int):=by omega
    have HE:=Hi (show gs=fewExts l by rw[HGS.out,HDF.out]);clear hgl hj70 h70;go_wp2_with fail
    go_ret;rw[←HE.out]
    exact⟨⟨a,c,rfl,HRW.out.kept (by decide) _ (fun k h=>⟨h,h.2⟩)⟩,F⟩
  ·have HE:=Hi (show gs=fewExts l by rw[HGS.out,HDF.out,List.take_of_length_le (by omega),List.take_of_length_le (by omega)])
   clear hgl;go_wp2_with fail
   go_ret;rw[←HE.out]
   exact⟨⟨a,c,rfl,HRW.out.kept (by decide) _ (fun k h=>⟨h,h.2⟩)⟩,F⟩
end Go.Proofs.YteidmhkobmddiaaGreatDoor
