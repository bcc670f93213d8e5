/-
  Merged by program: XR21L XIxMkW XR14KS XIxCut.
-/
import Derived.Test.YtehlipgmkinfbaaGreatDoorP0az
set_option linter.unusedSimpArgs false
set_option maxRecDepth 100000
set_option maxHeartbeats 8000000
namespace Go.Q
theorem likeRow_parts (x y:RowP):likeRow x y=(decide (madeS x.num=madeS y.num)&&(decide (x.date=y.date)&&(decide (x.reason=y.reason)&&(decide (x.inv.isSome=y.inv.isSome)&&(decide (x.inv.getD 0=y.inv.getD 0)&&decide (x.iss=y.iss)))))):=by
 unfold likeRow;cases x.inv<;>cases y.inv<;>simp
theorem likeRows_len:∀ {l m:List RowP},¬l.length=m.length→likeRows l m=false
 | [],[],h=>absurd rfl h
 | [],y::m,_=>rfl
 |x::l,[],_=>rfl
 |x::l,y::m,h=>by
  unfold likeRows;rw[likeRows_len (l:=l) (m:=m) (fun e=>h (by rw[List.length_cons,List.length_cons,e])),Bool.and_false]
open Go Go.RowKit
def codeOf (l:List RowP):Int:=match newRef l with
 |.ok _=>0
 |.error k=>k
def rowsOf (l:List RowP):List RowP:=match newRef l with
 |.ok o=>o
 |.error _=>[]
theorem LAt.none {α:Type}(sz:Nat)(R:World→List Value→α→Prop)(w:World):LAt sz R w (.slice none 0 0) ([]:List α):=⟨Option.none,0,rfl,Nat.le_refl _,by unfold maxLen;omega,fun h=>absurd h (Nat.lt_irrefl 0)⟩
section
variable {w:World}{z n c0 m:Nat}{T:TypeId}{b0:Bool}{s0:Option Addr}{zz:List UInt8}
def BoxOf (w:World)(z:Nat)(T:TypeId)(b0:Bool)(s0:Option Addr)(n c0:Nat)(zz:List UInt8):Prop:=Blk w z T #[.bool b0,.slice s0 n c0]∧Bytes w (.slice s0 n c0) zz∧n=zz.length
theorem cut_stay (hB:BoxOf w z T b0 s0 n c0 zz){b o:Nat}{u:Value}(h:w.cell? ⟨b,o,none⟩=some u)(hne:¬(b=z∧o=1)):(w.setCell ⟨z,1,none⟩ (.slice s0 m c0)).cell? ⟨b,o,none⟩=some u:=by
 by_cases hb:b=z
 ·subst hb
  have h1:Blk (w.setCell ⟨b,1,none⟩ (.slice s0 m c0)) b T #[.bool b0,.slice s0 m c0]:=hB.1.set 1 _;rw[hB.1.cell]at h
  rw[h1.cell]
  match o,h,hne with
  |0,h,_=>exact h
  |1,_,hne=>exact absurd ⟨rfl,rfl⟩ hne
  |o+2,h,_=>simp at h
 ·exact(Fr.setCell (S:=fun k=>k=z) (p:=⟨z,1,none⟩) (Fr.refl w) (fun _=>rfl) _).cell h hb
theorem cut_one (hB:BoxOf w z T b0 s0 n c0 zz){u:Value}(h:w.cell? ⟨z,1,none⟩=some u):u=.slice s0 n c0:=by
 rw[hB.1.cell]at h
 simpa using h.symm
theorem cut_two (hB:BoxOf w z T b0 s0 n c0 zz){u:Value}(h:w.cell? ⟨z,2,none⟩=some u):False:=by
 rw[hB.1.cell]at h
 simp at h
theorem cut_vals (hB:BoxOf w z T b0 s0 n c0 zz){v:Value}{xs:List Value}(hx:∀ u∈xs,∀ a k c,u≠.slice a k c)(h:Vals w v xs):Vals (w.setCell ⟨z,1,none⟩ (.slice s0 m c0)) v xs:=by
 obtain⟨a,cap,rfl,h1,h2,h3⟩:=h
 refine⟨a,cap,rfl,h1,h2,fun h0=>?_⟩
 obtain⟨b,o,rfl,hy⟩:=h3 h0
 refine⟨b,o,rfl,fun i u hu=>cut_stay hB (hy i u hu) (fun e=>?_)⟩
 have h4:=hy i u hu;rw[e.1,e.2]at h4
 exact hx u (List.mem_of_getElem? hu) _ _ _ (cut_one hB h4)
theorem cut_bytes (hB:BoxOf w z T b0 s0 n c0 zz){v:Value}{l:List UInt8}(h:Bytes w v l):Bytes (w.setCell ⟨z,1,none⟩ (.slice s0 m c0)) v l:=cut_vals hB (fun u hu a k c e=>by
 simp only[Lib.byteCells,List.mem_map]at hu
 obtain⟨x,-,rfl⟩:=hu
 cases e) h
theorem cut_ints (hB:BoxOf w z T b0 s0 n c0 zz){v:Value}{l:List Int}(h:Vals w v (intCells l)):Vals (w.setCell ⟨z,1,none⟩ (.slice s0 m c0)) v (intCells l):=cut_vals hB (fun u hu a k c e=>by
 simp only[intCells,List.mem_map]at hu
 obtain⟨x,-,rfl⟩:=hu
 cases e) h
theorem cut_attrs (hB:BoxOf w z T b0 s0 n c0 zz){v:Value}{l:List Part}(h:Attrs w v l):Attrs (w.setCell ⟨z,1,none⟩ (.slice s0 m c0)) v l:=by
 obtain⟨a,cap,rfl,h1,h2,h3⟩:=h
 refine⟨a,cap,rfl,h1,h2,fun h0=>?_⟩
 obtain⟨b,o,rfl,hy⟩:=h3 h0
 refine⟨b,o,rfl,fun i p hp=>?_⟩
 obtain⟨x,y,e1,e2,e3,e4⟩:=hy i p hp
 refine⟨x,y,cut_stay hB e1 (fun e=>?_),cut_stay hB e2 (fun e=>?_),cut_ints hB e3,cut_bytes hB e4⟩
 ·rw[e.1,e.2]at e2
  exact cut_two hB e2
 ·have ho:o+2*i=0:=by omega
  rw[e.1,ho,hB.1.cell]at e1
  obtain⟨a1,c1,rfl,-⟩:=Ints.form e3
  simp at e1
theorem cut_name (hB:BoxOf w z T b0 s0 n c0 zz)(hm:n=0→m=0){v:Value}{l:List (List Part)}(h:NameAt w v l):NameAt (w.setCell ⟨z,1,none⟩ (.slice s0 m c0)) v l:=by
 obtain⟨a,cap,rfl,h1,h2,h3⟩:=h
 refine⟨a,cap,rfl,h1,h2,fun h0=>?_⟩
 obtain⟨b,o,rfl,hy⟩:=h3 h0
 refine⟨b,o,rfl,fun i r hr=>?_⟩
 obtain⟨x,e1,e2⟩:=hy i r hr
 by_cases he:b=z∧o+i=1
 ·rw[he.1,he.2]at e1 ⊢
  obtain rfl:=cut_one hB e1
  have e20:=e2;obtain⟨a1,c1,ha,-,-,hz⟩:=e2
  simp only[Value.slice.injEq]at ha
  obtain⟨rfl,hn,rfl⟩:=ha
  rcases Nat.eq_zero_or_pos n with h0|h0
  ·have hm0:=hm h0
   refine⟨.slice s0 m c0,?_,?_⟩
   ·have h5:Blk (w.setCell ⟨z,1,none⟩ (.slice s0 m c0)) z T #[.bool b0,.slice s0 m c0]:=hB.1.set 1 _
    rw[h5.cell]
    rfl
   ·rw[hm0,←h0]
    exact cut_attrs hB e20
  ·exfalso
   obtain⟨b1,o1,rfl,hz1⟩:=hz (by omega)
   obtain⟨p,hp⟩:∃ p,r[0]? = some p:=⟨_,List.getElem?_eq_getElem (by omega)⟩
   obtain⟨x1,y1,g1,-,g3,-⟩:=hz1 0 p hp
   obtain⟨a2,c2,he2,-,-,hq⟩:=Vals.form hB.2.1
   simp only[Value.slice.injEq]at he2
   obtain⟨he3,-,-⟩:=he2
   obtain⟨b3,o3,h6,h7⟩:=hq (by have:=hB.2.2;omega)
   rw[←he3]at h6
   simp only[Option.some.injEq,Addr.mk.injEq,and_true]at h6
   obtain⟨rfl,rfl⟩:=h6
   obtain⟨q,hq2⟩:∃ q,zz[0]? = some q:=⟨_,List.getElem?_eq_getElem (by have:=hB.2.2;omega)⟩
   have h8:=h7 0 q hq2;simp only[Nat.mul_zero,Nat.add_zero]at g1 h8
   rw[h8]at g1
   obtain⟨a4,c4,rfl,-⟩:=Ints.form g3
   simp at g1
 ·exact⟨x,cut_stay hB e1 he,cut_attrs hB e2⟩
theorem cut_inv (hB:BoxOf w z T b0 s0 n c0 zz){v:Value}{i:Option Int}(h:InvAt w v i):InvAt (w.setCell ⟨z,1,none⟩ (.slice s0 m c0)) v i:=by
 cases i with
 |none=>exact h
 |some t=>
  obtain⟨b,o,rfl,hc⟩:=h
  refine⟨b,o,rfl,cut_stay hB hc (fun e=>?_)⟩
  rw[e.1,e.2]at hc
  cases cut_one hB hc
theorem cut_row (hB:BoxOf w z T b0 s0 n c0 zz)(hm:n=0→m=0){cs:List Value}{r:RowP}(h:RRow w cs r):RRow (w.setCell ⟨z,1,none⟩ (.slice s0 m c0)) cs r:=by
 obtain⟨vi,vs,vp,rfl,h1,h2,h3⟩:=h
 exact⟨vi,vs,vp,rfl,cut_name hB hm h1,cut_bytes hB h2,cut_inv hB h3⟩
theorem cut_slot (hB:BoxOf w z T b0 s0 n c0 zz)(hm:n=0→m=0){cs:List Value}{r:RowP}(h:RSlot w cs r):RSlot (w.setCell ⟨z,1,none⟩ (.slice s0 m c0)) cs r:=by
 obtain⟨us,rfl,h1⟩:=h
 exact⟨us,rfl,cut_row hB hm h1⟩
theorem cut_ref (hB:BoxOf w z T b0 s0 n c0 zz)(hm:n=0→m=0){cs:List Value}{r:RowP}(h:RRef w cs r):RRef (w.setCell ⟨z,1,none⟩ (.slice s0 m c0)) cs r:=by
 obtain⟨vi,vs,rfl,h1,h2⟩:=h
 exact⟨vi,vs,rfl,cut_name hB hm h1,cut_bytes hB h2⟩
theorem cut_lat {α:Type}{sz:Nat}{R R':World→List Value→α→Prop}(hB:BoxOf w z T b0 s0 n c0 zz)(h3:3≤sz)(hR:∀ cs x,R w cs x→R' (w.setCell ⟨z,1,none⟩ (.slice s0 m c0)) cs x){v:Value}{l:List α}(h:LAt sz R w v l):LAt sz R' (w.setCell ⟨z,1,none⟩ (.slice s0 m c0)) v l:=by
 obtain⟨a,c,rfl,h1,h2,hx⟩:=h
 refine⟨a,c,rfl,h1,h2,fun h0=>?_⟩
 obtain⟨b,o,rfl,hy⟩:=hx h0
 refine⟨b,o,rfl,fun i x hi=>?_⟩
 obtain⟨cs,e1,e2,e3⟩:=hy i x hi
 refine⟨cs,e1,fun j u hu=>cut_stay hB (e2 j u hu) (fun e=>?_),hR cs x e3⟩
 have hj:=(List.getElem?_eq_some_iff.1 hu).1;have hq:o+sz*i≤1∧2-(o+sz*i)<cs.length:=by omega
 have h5:=e2 (2-(o+sz*i)) _ (List.getElem?_eq_getElem hq.2);rw[e.1,show o+sz*i+(2-(o+sz*i))=2 by omega]at h5
 exact cut_two hB h5
theorem cut_refs (hB:BoxOf w z T b0 s0 n c0 zz)(hm:n=0→m=0){v:Value}{l:List RowP}(h:Refs w v l):Refs (w.setCell ⟨z,1,none⟩ (.slice s0 m c0)) v l:=cut_lat hB (by decide) (fun _ _ h=>cut_ref hB hm h) h
theorem cut_ix (hB:BoxOf w z T b0 s0 n c0 zz)(hm:n=0→m=0){v:Value}{l:List RowP}(h:IxAt w v l):IxAt (w.setCell ⟨z,1,none⟩ (.slice s0 m c0)) v l:=by
 rcases h with h|⟨b,u,rfl,hc,hs⟩
 ·exact .inl h
 ·exact .inr ⟨b,u,rfl,cut_stay hB hc (fun e=>by omega),cut_lat hB (by decide) (fun _ _ h=>cut_slot hB hm h) hs⟩
end
end Go.Q
namespace Go.Proofs.YtehlipgmkinfbaaGreatDoor
open Go Go.RowKit Go.Q
theorem likeRows_any (va vb:Value)(L M:List RowP)(w:World)(ha:Refs w va L)(hb:Refs w vb M)(hfL:∀ r∈L,r.num.size.length≤1000000)(hfM:∀ r∈M,r.num.size.length≤1000000)(hl:L.length≤1000000) :
  Calls Tryz.prog 14 #[va,vb,.bool false] w fun e w'=>e=.returned (.bool (likeRows L M))∧Fz w w':=by
 have HA:=Hi ha;have HB:=Hi hb;have HFL:=Hi hfL;have HFM:=Hi hfM;obtain⟨aa,ca,rfl,-⟩:=ha
 obtain⟨ab,cb,rfl,-⟩:=hb
 obtain⟨r,hr⟩:∃ r,likeRows L M=r:=⟨_,rfl⟩
 rw[hr]
 have HR:=Hi hr;clear hfL hfM hr;by_cases hlen:L.length=M.length
 ·have k1:((L.length:Int)==(M.length:Int))=true:=by rw[hlen];simp
  have k2:((L.length:Int) != (M.length:Int))=false:=by rw[hlen];simp
  have HLE:=Hi hlen;clear hlen;go_enter Tryz.func14,Tryz.ntmps14
  go_wp2_with fail
  go_loopg [7] L.length (fun g i wr=>∃ j:Nat,g=L.length-j∧j≤L.length∧i=.int .i64 j∧Hid (likeRows (L.drop j) (M.drop j)=r)∧Hid (Fz w wr))
  case atStart=>exact⟨0,rfl,Nat.zero_le _,rfl,HR,Hi (Fr.refl _)⟩
  case round=>
   obtain⟨j,hg,hj,rfl,HS,HF⟩:=hrel
   have HG:=Hi hg;clear hg k1 k2;by_cases hjl:j<L.length
   ·obtain⟨x,hx⟩:∃ x,L[j]? = some x:=⟨_,List.getElem?_eq_getElem hjl⟩
    obtain⟨y,hy⟩:∃ y,M[j]? = some y:=⟨_,List.getElem?_eq_getElem (by have:=HLE.out;omega)⟩
    have hd1:=drop_at hx;have hd2:=drop_at hy;have hs:=HS.out;rw[hd1,hd2]at hs
    unfold likeRows at hs;have HSS:=Hi hs;have HLR:=Hi (likeRow_parts x y);obtain⟨b,o,cs,rfl,-,-,hRx,hcx⟩:=LAt.get HA.out hx
    obtain⟨a1,c1,b1,d1,rfl,hn1,hb1⟩:=hRx.form
    obtain⟨p,q,ds,rfl,-,-,hRy,hcy⟩:=LAt.get HB.out hy
    obtain⟨a2,c2,b2,d2,rfl,hn2,hb2⟩:=hRy.form
    have HSX:=Hi (fun W (F:Fz wr W)=>show (W.cell? ⟨b,o+j*7,none⟩=some (.slice a1 x.iss.length c1)∧W.cell? ⟨b,o+j*7+1,none⟩=some (.bool x.num.below)∧W.cell? ⟨b,o+j*7+2,none⟩=some (.slice b1 x.num.size.length d1)∧W.cell? ⟨b,o+j*7+3,none⟩=some (.int .i64 x.date)∧W.cell? ⟨b,o+j*7+4,none⟩=some (.int .i64 x.reason)∧W.cell? ⟨b,o+j*7+5,none⟩=some (.bool x.inv.isSome)∧W.cell? ⟨b,o+j*7+6,none⟩=some (.int .i64 (x.inv.getD 0)))∧W.cell? ⟨p,q+j*7,none⟩=some (.slice a2 y.iss.length c2)∧W.cell? ⟨p,q+j*7+1,none⟩=some (.bool y.num.below)∧W.cell? ⟨p,q+j*7+2,none⟩=some (.slice b2 y.num.size.length d2)∧W.cell? ⟨p,q+j*7+3,none⟩=some (.int .i64 y.date)∧W.cell? ⟨p,q+j*7+4,none⟩=some (.int .i64 y.reason)∧W.cell? ⟨p,q+j*7+5,none⟩=some (.bool y.inv.isSome)∧W.cell? ⟨p,q+j*7+6,none⟩=some (.int .i64 (y.inv.getD 0)) from ⟨⟨by have:=(HF.out.trans F).cell (hcx 0 _ rfl) (fun h=>h);rwa[Nat.add_zero]at this,(HF.out.trans F).cell (hcx 1 _ rfl) (fun h=>h),(HF.out.trans F).cell (hcx 2 _ rfl) (fun h=>h),(HF.out.trans F).cell (hcx 3 _ rfl) (fun h=>h),(HF.out.trans F).cell (hcx 4 _ rfl) (fun h=>h),(HF.out.trans F).cell (hcx 5 _ rfl) (fun h=>h),(HF.out.trans F).cell (hcx 6 _ rfl) (fun h=>h)⟩,by have:=(HF.out.trans F).cell (hcy 0 _ rfl) (fun h=>h);rwa[Nat.add_zero]at this,(HF.out.trans F).cell (hcy 1 _ rfl) (fun h=>h),(HF.out.trans F).cell (hcy 2 _ rfl) (fun h=>h),(HF.out.trans F).cell (hcy 3 _ rfl) (fun h=>h),(HF.out.trans F).cell (hcy 4 _ rfl) (fun h=>h),(HF.out.trans F).cell (hcy 5 _ rfl) (fun h=>h),(HF.out.trans F).cell (hcy 6 _ rfl) (fun h=>h)⟩)
    have HN1:=Hi (hn1.old HF.out);have HN2:=Hi (hn2.old HF.out);have HB3:=Hi (hb1.old HF.out);have HB4:=Hi (hb2.old HF.out);have hsx:=HFL.out x (List.mem_of_getElem? hx);have hsy:=HFM.out y (List.mem_of_getElem? hy);have HZX:=Hi hsx;have HZY:=Hi hsy;have p1:(0:Int)≤(j:Int):=by omega
    have p2:(j:Int)<(L.length:Int):=by omega
    have p3:(j:Int)<(M.length:Int):=by have:=HLE.out;omega
    have p4:j<M.length:=by have:=HLE.out;omega
    clear hx hy hd1 hd2 hs hRx hRy hcx hcy hn1 hn2 hb1 hb2 hsx hsy;go_upto_region 6 with fail
    go_cut [8,9] from 15 to 83 (fun s8 s9 wc=>∃ y1 y2,s8=pt y1∧s9=pt y2∧Blk wc y1 56 #[.slice a1 x.iss.length c1,.bool x.num.below,.slice b1 x.num.size.length d1,.int .i64 x.date,.int .i64 x.reason,.bool x.inv.isSome,.int .i64 (x.inv.getD 0)]∧Blk wc y2 56 #[.slice a2 y.iss.length c2,.bool y.num.below,.slice b2 y.num.size.length d2,.int .i64 y.date,.int .i64 y.reason,.bool y.inv.isSome,.int .i64 (y.inv.getD 0)]∧Fz wr wc)
    case first=>
     have G:Fz wr wr.drew:=(Fr.refl wr).drew
     refine wp_region_N 12 (S:=fun w'=>(w'.cell? ⟨b,o+j*7,none⟩=some (.slice a1 x.iss.length c1)∧w'.cell? ⟨b,o+j*7+1,none⟩=some (.bool x.num.below)∧w'.cell? ⟨b,o+j*7+2,none⟩=some (.slice b1 x.num.size.length d1)∧w'.cell? ⟨b,o+j*7+3,none⟩=some (.int .i64 x.date)∧w'.cell? ⟨b,o+j*7+4,none⟩=some (.int .i64 x.reason)∧w'.cell? ⟨b,o+j*7+5,none⟩=some (.bool x.inv.isSome)∧w'.cell? ⟨b,o+j*7+6,none⟩=some (.int .i64 (x.inv.getD 0)))∧w'.cell? ⟨p,q+j*7,none⟩=some (.slice a2 y.iss.length c2)∧w'.cell? ⟨p,q+j*7+1,none⟩=some (.bool y.num.below)∧w'.cell? ⟨p,q+j*7+2,none⟩=some (.slice b2 y.num.size.length d2)∧w'.cell? ⟨p,q+j*7+3,none⟩=some (.int .i64 y.date)∧w'.cell? ⟨p,q+j*7+4,none⟩=some (.int .i64 y.reason)∧w'.cell? ⟨p,q+j*7+5,none⟩=some (.bool y.inv.isSome)∧w'.cell? ⟨p,q+j*7+6,none⟩=some (.int .i64 (y.inv.getD 0))) (by kernel_rfl) ?_ (fun hHeld=>?_)
     ·exact HSX.out _ G
     generalize wr.drew=wd at *
     refine tkN 0 rfl hHeld ?_;refine tkN 1 rfl hHeld ?_;refine tkN 2 rfl hHeld ?_;(try simp only[Act.put,SS]);refine tkN 3 rfl hHeld ?_;refine tkN 4 rfl hHeld ?_;refine tkN 5 rfl hHeld ?_;(try simp only[Act.put,SS]);refine tkN 6 rfl hHeld ?_;refine tkN 7 rfl hHeld ?_;(try simp only[Act.put,SS]);refine wpAnyN_two (i:=8) (k:=9) (by kernel_rfl) (o:=_) rfl (p:=_) rfl (fun KK hKK=>?_) (fun KK hKK=>?_)
     ·go_simp
      refine hKK.out _ _ ?_ (fun hHeld=>?_)
      ·exact HSX.out _ (G.alloc (.cells #[.slice none 0 0,.bool false,.slice none 0 0,.int .i64 0,.int .i64 0,.bool false,.int .i64 0] 56))
      clear hKK KK;(try simp only[Act.put,SK,SS]);obtain⟨y1,hy1⟩:∃ y,y=wd.heap.size:=⟨_,rfl⟩
      have B1:=Blk.new wd 56 #[.slice none 0 0,.bool false,.slice none 0 0,.int .i64 0,.int .i64 0,.bool false,.int .i64 0];rw[←hy1]at B1 ⊢
      have L1:wr.heap.size≤y1:=by rw[hy1];exact G.size
      replace G:=G.alloc (.cells #[.slice none 0 0,.bool false,.slice none 0 0,.int .i64 0,.int .i64 0,.bool false,.int .i64 0] 56);generalize (wd.alloc (.cells #[.slice none 0 0,.bool false,.slice none 0 0,.int .i64 0,.int .i64 0,.bool false,.int .i64 0] 56))=w21 at *
      clear hy1;refine stN 9 (fun KK hKK=>?_);go_simp
      refine hKK.out _ _ ?_ (fun hHeld=>?_)
      ·exact HSX.out _ (G.alloc (.cells #[.slice none 0 0,.bool false,.slice none 0 0,.int .i64 0,.int .i64 0,.bool false,.int .i64 0] 56))
      clear hKK KK;(try simp only[Act.put,SK,SS]);obtain⟨y2,hy2⟩:∃ y,y=w21.heap.size:=⟨_,rfl⟩
      have B2:=Blk.new w21 56 #[.slice none 0 0,.bool false,.slice none 0 0,.int .i64 0,.int .i64 0,.bool false,.int .i64 0];rw[←hy2]at B2 ⊢
      have L2:wr.heap.size≤y2:=by rw[hy2];exact G.size
      have N12:y1≠y2:=by have:=B1.lt;omega
      replace B1:=B1.alloc (.cells #[.slice none 0 0,.bool false,.slice none 0 0,.int .i64 0,.int .i64 0,.bool false,.int .i64 0] 56);replace G:=G.alloc (.cells #[.slice none 0 0,.bool false,.slice none 0 0,.int .i64 0,.int .i64 0,.bool false,.int .i64 0] 56);generalize (w21.alloc (.cells #[.slice none 0 0,.bool false,.slice none 0 0,.int .i64 0,.int .i64 0,.bool false,.int .i64 0] 56))=w22 at *
      clear hy2;refine stN 10 (fun KK hKK=>?_);have z0:=B1.cell 0;have f0:=B1.frozen 0;have z1:=B1.cell 1;have f1:=B1.frozen 1;have z2:=B1.cell 2;have f2:=B1.frozen 2;have z3:=B1.cell 3;have f3:=B1.frozen 3;have z4:=B1.cell 4;have f4:=B1.frozen 4;have z5:=B1.cell 5;have f5:=B1.frozen 5;have z6:=B1.cell 6;have f6:=B1.frozen 6;simp only[SG]at z0 z1 z2 z3 z4 z5 z6
      have HE:=putL_all (Z:=[.slice none 0 0,.bool false,.slice none 0 0,.int .i64 0,.int .i64 0,.bool false,.int .i64 0]) B1 (l:=[.slice a1 x.iss.length c1,.bool x.num.below,.slice b1 x.num.size.length d1,.int .i64 x.date,.int .i64 x.reason,.bool x.inv.isSome,.int .i64 (x.inv.getD 0)]) rfl;simp only[putL]at HE
      have G3:=G.trans' HE.2 (fun i hi e=>by have e2:i=y1:=e;omega);go_simp
      refine hKK.out _ _ ?_ (fun hHeld=>?_)
      ·exact HSX.out _ G3
      clear hKK KK z0 z1 z2 z3 z4 z5 z6 f0 f1 f2 f3 f4 f5 f6;(try simp only[Act.put,SK,SS]);replace G:=G3;clear G3;replace B2:=B2.fr HE.2 (by omega);replace B1:=HE.1;clear HE;generalize (((((((w22.setCell ⟨y1,0,none⟩ (.slice a1 x.iss.length c1)).setCell ⟨y1,1,none⟩ (.bool x.num.below)).setCell ⟨y1,2,none⟩ (.slice b1 x.num.size.length d1)).setCell ⟨y1,3,none⟩ (.int .i64 x.date)).setCell ⟨y1,4,none⟩ (.int .i64 x.reason)).setCell ⟨y1,5,none⟩ (.bool x.inv.isSome)).setCell ⟨y1,6,none⟩ (.int .i64 (x.inv.getD 0)))=w23 at *
      refine stN 11 (fun KK hKK=>?_);have z0:=B2.cell 0;have f0:=B2.frozen 0;have z1:=B2.cell 1;have f1:=B2.frozen 1;have z2:=B2.cell 2;have f2:=B2.frozen 2;have z3:=B2.cell 3;have f3:=B2.frozen 3;have z4:=B2.cell 4;have f4:=B2.frozen 4;have z5:=B2.cell 5;have f5:=B2.frozen 5;have z6:=B2.cell 6;have f6:=B2.frozen 6;simp only[SG]at z0 z1 z2 z3 z4 z5 z6
      have HE:=putL_all (Z:=[.slice none 0 0,.bool false,.slice none 0 0,.int .i64 0,.int .i64 0,.bool false,.int .i64 0]) B2 (l:=[.slice a2 y.iss.length c2,.bool y.num.below,.slice b2 y.num.size.length d2,.int .i64 y.date,.int .i64 y.reason,.bool y.inv.isSome,.int .i64 (y.inv.getD 0)]) rfl;simp only[putL]at HE
      have G3:=G.trans' HE.2 (fun i hi e=>by have e2:i=y2:=e;omega);go_simp
      refine hKK.out _ _ ?_ (fun hHeld=>?_)
      ·exact HSX.out _ G3
      clear hKK KK z0 z1 z2 z3 z4 z5 z6 f0 f1 f2 f3 f4 f5 f6;(try simp only[Act.put,SK,SS]);replace G:=G3;clear G3;replace B1:=B1.fr HE.2 (by omega);replace B2:=HE.1;clear HE;generalize (((((((w23.setCell ⟨y2,0,none⟩ (.slice a2 y.iss.length c2)).setCell ⟨y2,1,none⟩ (.bool y.num.below)).setCell ⟨y2,2,none⟩ (.slice b2 y.num.size.length d2)).setCell ⟨y2,3,none⟩ (.int .i64 y.date)).setCell ⟨y2,4,none⟩ (.int .i64 y.reason)).setCell ⟨y2,5,none⟩ (.bool y.inv.isSome)).setCell ⟨y2,6,none⟩ (.int .i64 (y.inv.getD 0)))=w24 at *
      refine wpAnyN_done (by kernel_rfl) ?_ _;clear hHeld;go_wp2_with fail
      go_meet
      exact⟨y1,y2,rfl,rfl,B1,B2,G⟩
     ·go_simp
      refine hKK.out _ _ ?_ (fun hHeld=>?_)
      ·exact HSX.out _ (G.alloc (.cells #[.slice none 0 0,.bool false,.slice none 0 0,.int .i64 0,.int .i64 0,.bool false,.int .i64 0] 56))
      clear hKK KK;(try simp only[Act.put,SK,SS]);obtain⟨y2,hy2⟩:∃ y,y=wd.heap.size:=⟨_,rfl⟩
      have B2:=Blk.new wd 56 #[.slice none 0 0,.bool false,.slice none 0 0,.int .i64 0,.int .i64 0,.bool false,.int .i64 0];rw[←hy2]at B2 ⊢
      have L2:wr.heap.size≤y2:=by rw[hy2];exact G.size
      replace G:=G.alloc (.cells #[.slice none 0 0,.bool false,.slice none 0 0,.int .i64 0,.int .i64 0,.bool false,.int .i64 0] 56);generalize (wd.alloc (.cells #[.slice none 0 0,.bool false,.slice none 0 0,.int .i64 0,.int .i64 0,.bool false,.int .i64 0] 56))=w25 at *
      clear hy2;refine stN 8 (fun KK hKK=>?_);go_simp
      refine hKK.out _ _ ?_ (fun hHeld=>?_)
      ·exact HSX.out _ (G.alloc (.cells #[.slice none 0 0,.bool false,.slice none 0 0,.int .i64 0,.int .i64 0,.bool false,.int .i64 0] 56))
      clear hKK KK;(try simp only[Act.put,SK,SS]);obtain⟨y1,hy1⟩:∃ y,y=w25.heap.size:=⟨_,rfl⟩
      have B1:=Blk.new w25 56 #[.slice none 0 0,.bool false,.slice none 0 0,.int .i64 0,.int .i64 0,.bool false,.int .i64 0];rw[←hy1]at B1 ⊢
      have L1:wr.heap.size≤y1:=by rw[hy1];exact G.size
      have N12:y1≠y2:=by have:=B2.lt;omega
      replace B2:=B2.alloc (.cells #[.slice none 0 0,.bool false,.slice none 0 0,.int .i64 0,.int .i64 0,.bool false,.int .i64 0] 56);replace G:=G.alloc (.cells #[.slice none 0 0,.bool false,.slice none 0 0,.int .i64 0,.int .i64 0,.bool false,.int .i64 0] 56);generalize (w25.alloc (.cells #[.slice none 0 0,.bool false,.slice none 0 0,.int .i64 0,.int .i64 0,.bool false,.int .i64 0] 56))=w26 at *
      clear hy1;refine stN 10 (fun KK hKK=>?_);have z0:=B1.cell 0;have f0:=B1.frozen 0;have z1:=B1.cell 1;have f1:=B1.frozen 1;have z2:=B1.cell 2;have f2:=B1.frozen 2;have z3:=B1.cell 3;have f3:=B1.frozen 3;have z4:=B1.cell 4;have f4:=B1.frozen 4;have z5:=B1.cell 5;have f5:=B1.frozen 5;have z6:=B1.cell 6;have f6:=B1.frozen 6;simp only[SG]at z0 z1 z2 z3 z4 z5 z6
      have HE:=putL_all (Z:=[.slice none 0 0,.bool false,.slice none 0 0,.int .i64 0,.int .i64 0,.bool false,.int .i64 0]) B1 (l:=[.slice a1 x.iss.length c1,.bool x.num.below,.slice b1 x.num.size.length d1,.int .i64 x.date,.int .i64 x.reason,.bool x.inv.isSome,.int .i64 (x.inv.getD 0)]) rfl;simp only[putL]at HE
      have G3:=G.trans' HE.2 (fun i hi e=>by have e2:i=y1:=e;omega);go_simp
      refine hKK.out _ _ ?_ (fun hHeld=>?_)
      ·exact HSX.out _ G3
      clear hKK KK z0 z1 z2 z3 z4 z5 z6 f0 f1 f2 f3 f4 f5 f6;(try simp only[Act.put,SK,SS]);replace G:=G3;clear G3;replace B2:=B2.fr HE.2 (by omega);replace B1:=HE.1;clear HE;generalize (((((((w26.setCell ⟨y1,0,none⟩ (.slice a1 x.iss.length c1)).setCell ⟨y1,1,none⟩ (.bool x.num.below)).setCell ⟨y1,2,none⟩ (.slice b1 x.num.size.length d1)).setCell ⟨y1,3,none⟩ (.int .i64 x.date)).setCell ⟨y1,4,none⟩ (.int .i64 x.reason)).setCell ⟨y1,5,none⟩ (.bool x.inv.isSome)).setCell ⟨y1,6,none⟩ (.int .i64 (x.inv.getD 0)))=w27 at *
      refine stN 11 (fun KK hKK=>?_);have z0:=B2.cell 0;have f0:=B2.frozen 0;have z1:=B2.cell 1;have f1:=B2.frozen 1;have z2:=B2.cell 2;have f2:=B2.frozen 2;have z3:=B2.cell 3;have f3:=B2.frozen 3;have z4:=B2.cell 4;have f4:=B2.frozen 4;have z5:=B2.cell 5;have f5:=B2.frozen 5;have z6:=B2.cell 6;have f6:=B2.frozen 6;simp only[SG]at z0 z1 z2 z3 z4 z5 z6
      have HE:=putL_all (Z:=[.slice none 0 0,.bool false,.slice none 0 0,.int .i64 0,.int .i64 0,.bool false,.int .i64 0]) B2 (l:=[.slice a2 y.iss.length c2,.bool y.num.below,.slice b2 y.num.size.length d2,.int .i64 y.date,.int .i64 y.reason,.bool y.inv.isSome,.int .i64 (y.inv.getD 0)]) rfl;simp only[putL]at HE
      have G3:=G.trans' HE.2 (fun i hi e=>by have e2:i=y2:=e;omega);go_simp
      refine hKK.out _ _ ?_ (fun hHeld=>?_)
      ·exact HSX.out _ G3
      clear hKK KK z0 z1 z2 z3 z4 z5 z6 f0 f1 f2 f3 f4 f5 f6;(try simp only[Act.put,SK,SS]);replace G:=G3;clear G3;replace B1:=B1.fr HE.2 (by omega);replace B2:=HE.1;clear HE;generalize (((((((w27.setCell ⟨y2,0,none⟩ (.slice a2 y.iss.length c2)).setCell ⟨y2,1,none⟩ (.bool y.num.below)).setCell ⟨y2,2,none⟩ (.slice b2 y.num.size.length d2)).setCell ⟨y2,3,none⟩ (.int .i64 y.date)).setCell ⟨y2,4,none⟩ (.int .i64 y.reason)).setCell ⟨y2,5,none⟩ (.bool y.inv.isSome)).setCell ⟨y2,6,none⟩ (.int .i64 (y.inv.getD 0)))=w28 at *
      refine wpAnyN_done (by kernel_rfl) ?_ _;clear hHeld;go_wp2_with fail
      go_meet
      exact⟨y1,y2,rfl,rfl,B1,B2,G⟩
    case rest=>
     obtain⟨y1,y2,rfl,rfl,B1,B2,F6⟩:=hcut
     have HB1:=Hi B1;have HB2:=Hi B2;have HF6:=Hi F6;have HSA:=Hi (fun W (F:Fz wc W)=>r03Same_any x.num.below y.num.below _ _ x.num.size y.num.size W (HB3.out.old (HF6.out.trans F)) (HB4.out.old (HF6.out.trans F)) HZX.out HZY.out);clear B1 B2 F6;have n1:=HB1.out.cell 1;have n2:=HB1.out.cell 2;have o1:=HB2.out.cell 1;have o2:=HB2.out.cell 2;simp only[SG]at n1 n2 o1 o2
     obtain⟨ns,hns⟩:∃ ns,ns=decide (madeS ⟨x.num.below,x.num.size⟩=madeS ⟨y.num.below,y.num.size⟩):=⟨_,rfl⟩
     rw[←hns]at HSA
     have HNS:=Hi (show ns=decide (madeS x.num=madeS y.num) from hns);clear hns;cases ns with
     |false=>
      have hr:r=false:=by rw[←HSS.out,HLR.out,←HNS.out];rfl
      subst hr;go_wp2_with fail
      refine(HSA.out _ (Fr.refl wc)).mono ?_
      rintro e w8 ⟨rfl,F8⟩;have HF9:=Hi (HF.out.trans (HF6.out.trans F8));clear n1 n2 o1 o2 F8;go_wp2_with fail
      go_ret;exact⟨rfl,HF9.out⟩
     |true=>
      have ens:madeS x.num=madeS y.num:=by have:=HNS.out;simpa using this.symm
      go_wp2_with fail
      refine(HSA.out _ (Fr.refl wc)).mono ?_
      rintro e w8 ⟨rfl,F8⟩;have HF8:=Hi (HF6.out.trans F8);have n0:=(HB1.out.fr F8 (fun h=>h)).cell 0;have n3:=(HB1.out.fr F8 (fun h=>h)).cell 3;have n4:=(HB1.out.fr F8 (fun h=>h)).cell 4;have n5:=(HB1.out.fr F8 (fun h=>h)).cell 5;have n6:=(HB1.out.fr F8 (fun h=>h)).cell 6;have o0:=(HB2.out.fr F8 (fun h=>h)).cell 0;have o3:=(HB2.out.fr F8 (fun h=>h)).cell 3;have o4:=(HB2.out.fr F8 (fun h=>h)).cell 4;have o5:=(HB2.out.fr F8 (fun h=>h)).cell 5;have o6:=(HB2.out.fr F8 (fun h=>h)).cell 6;simp only[SG]at n0 n3 n4 n5 n6 o0 o3 o4 o5 o6
      clear n1 n2 o1 o2;obtain⟨t1,ht1⟩:∃ t,t=x.date:=⟨_,rfl⟩
      obtain⟨t2,ht2⟩:∃ t,t=y.date:=⟨_,rfl⟩
      obtain⟨r1,hr1⟩:∃ t,t=x.reason:=⟨_,rfl⟩
      obtain⟨r2,hr2⟩:∃ t,t=y.reason:=⟨_,rfl⟩
      obtain⟨s1,hs1⟩:∃ t,t=x.inv.isSome:=⟨_,rfl⟩
      obtain⟨s2,hs2⟩:∃ t,t=y.inv.isSome:=⟨_,rfl⟩
      obtain⟨i1,hi1⟩:∃ t,t=x.inv.getD 0:=⟨_,rfl⟩
      obtain⟨i2,hi2⟩:∃ t,t=y.inv.getD 0:=⟨_,rfl⟩
      rw[←ht1]at n3
      rw[←ht2]at o3
      rw[←hr1]at n4
      rw[←hr2]at o4
      rw[←hs1]at n5
      rw[←hs2]at o5
      rw[←hi1]at n6
      rw[←hi2]at o6
      rw[←ht1,←ht2,←hr1,←hr2,←hs1,←hs2,←hi1,←hi2]at HLR
      clear ht1 ht2 hr1 hr2 hs1 hs2 hi1 hi2 HB1 HB2;by_cases e0:t1=t2
      ·have k0:(t1==t2)=true:=beq_iff_eq.2 e0
       have l0:(t1 != t2)=false:=by rw[bne,k0];rfl
       by_cases e1:r1=r2
       ·have k1:(r1==r2)=true:=beq_iff_eq.2 e1
        have l1:(r1 != r2)=false:=by rw[bne,k1];rfl
        by_cases e2:s1=s2
        ·have k2:(s1==s2)=true:=beq_iff_eq.2 e2
         have l2:(s1 != s2)=false:=by rw[bne,k2];rfl
         by_cases e3:i1=i2
         ·have k3:(i1==i2)=true:=beq_iff_eq.2 e3
          have l3:(i1 != i2)=false:=by rw[bne,k3];rfl
          have HK:=Hi (r14Like_any _ _ x.iss y.iss w8 (HN1.out.old (HF8.out)) (HN2.out.old (HF8.out)));clear HSA;go_wp2_with fail
          refine HK.out.mono ?_;rintro e w9 ⟨rfl,F9⟩;have HF9:=Hi (HF.out.trans (HF8.out.trans F9));clear n0 n3 n4 n5 n6 o0 o3 o4 o5 o6 F9 F8;by_cases hii:x.iss=y.iss
          ·rw[decide_eq_true hii]
           have HS3:=Hi (show likeRows (L.drop (j+1)) (M.drop (j+1))=r from by rw[←HSS.out,HLR.out];simp[ens,e0,e1,e2,e3,hii]);clear hii e0 e1 e2 e3 ens;go_wp2_with fail
           go_roundg (L.length-(j+1))
           case measure=>rw[HG.out];omega
           case rel=>exact⟨j+1,rfl,by omega,by go_num,HS3,HF9⟩
          ·rw[decide_eq_false hii]
           have hr:r=false:=by rw[←HSS.out,HLR.out];simp[hii]
           subst hr;go_wp2_with fail
           go_ret;exact⟨rfl,HF9.out⟩
         ·have k3:(i1==i2)=false:=beq_eq_false_iff_ne.2 e3
          have l3:(i1 != i2)=true:=by rw[bne,k3];rfl
          have hr:r=false:=by rw[←HSS.out,HLR.out];simp[e3]
          subst hr;have HF9:=Hi (HF.out.trans HF8.out);go_wp2_with fail
          go_ret;exact⟨rfl,HF9.out⟩
        ·have k2:(s1==s2)=false:=beq_eq_false_iff_ne.2 e2
         have l2:(s1 != s2)=true:=by rw[bne,k2];rfl
         have hr:r=false:=by rw[←HSS.out,HLR.out];simp[e2]
         subst hr;have HF9:=Hi (HF.out.trans HF8.out);go_wp2_with fail
         go_ret;exact⟨rfl,HF9.out⟩
       ·have k1:(r1==r2)=false:=beq_eq_false_iff_ne.2 e1
        have l1:(r1 != r2)=true:=by rw[bne,k1];rfl
        have hr:r=false:=by rw[←HSS.out,HLR.out];simp[e1]
        subst hr;have HF9:=Hi (HF.out.trans HF8.out);go_wp2_with fail
        go_ret;exact⟨rfl,HF9.out⟩
      ·have k0:(t1==t2)=false:=beq_eq_false_iff_ne.2 e0
       have l0:(t1 != t2)=true:=by rw[bne,k0];rfl
       have hr:r=false:=by rw[←HSS.out,HLR.out];simp[e0]
       subst hr;have HF9:=Hi (HF.out.trans HF8.out);go_wp2_with fail
       go_ret;exact⟨rfl,HF9.out⟩
   ·have p2:¬(j:Int)<(L.length:Int):=by omega
    have hr:r=true:=by
     have:=HS.out;rw[List.drop_eq_nil_of_le (by omega),List.drop_eq_nil_of_le (by have:=HLE.out;omega)]at this
     exact this.symm
    subst hr;go_wp2_with fail
    go_ret;exact⟨rfl,HF.out⟩
 ·have k1:((L.length:Int)==(M.length:Int))=false:=beq_eq_false_iff_ne.2 (by omega)
  have k2:((L.length:Int) != (M.length:Int))=true:=by rw[bne,k1];rfl
  have hr:r=false:=by
   rw[←HR.out]
   exact likeRows_len hlen
  subst hr;go_enter Tryz.func14,Tryz.ntmps14
  go_wp2_with fail
  go_ret;exact⟨rfl,Fr.refl _⟩
theorem refsSlice_mid (b o m cap:Nat)(hm:m≤cap)(i:Nat)(hi:i<m)(w:World) :
  (Instr.slice 22 (.slice (some ⟨b,o,none⟩) m cap) (some (.int .i64 (i:Int))) (some (.int .i64 ((i:Int)+1))) none).run Tryz.prog w=.ok (.slice (some ⟨b,o+i*7,none⟩) 1 (cap-i)) w:=by
 obtain⟨i0,hi0,-,hz1,-⟩:=info_parts info56
 have h1:(0:Int)≤(i:Int):=by omega
 have h2:(i:Int)≤(i:Int)+1:=by omega
 have h3:(i:Int)+1≤(cap:Int):=by omega
 have h4:(i:Int)≤(cap:Int):=by omega
 have h5:(0:Int)≤(i:Int)+1:=by omega
 have h6:((i:Int)+1).toNat=i+1:=by omega
 have hc:¬cap-i=0:=by omega
 simp[go_sem,h1,h2,h3,h4,h5,h6,hc,Tryz.underlying22,sizeOf,typeInfo,hi0,hz1,Addr.add]
 rw[if_neg (show ¬cap=i by omega)]
 by_cases h0:i=0
 ·subst h0;simp
 ·rw[if_neg (show ¬i*7=0 by omega)]
theorem r14Same_any (v u:Value)(n m:List (List Part))(w:World)(h:NameAt w v n)(hm:NameAt w u m)(hf:∀ r∈n,fewB r)(hfm:∀ r∈m,fewB r) :
  Calls Tryz.prog 32 #[v,u] w fun e w'=>e=.returned (.bool (nameSameS n m))∧Fz w w':=by
 have H:=Hi h;have HM:=Hi hm;have HR:=Hi (r14Right_any v n w h hf);have HS:=Hi (show nameSameS n m=(nameOk n&&(nameOk m&&decide (nameKeyS n=nameKeyS m))) from rfl);clear h hm;go_enter Tryz.func32,Tryz.ntmps32
 go_wp2_with fail
 refine HR.out.mono ?_;rintro e w1 ⟨rfl,F1⟩;have HF1:=Hi F1;have HR2:=Hi (r14Right_any u m w1 (HM.out.old F1) hfm);clear HR F1;cases hok:nameOk n with
 |false=>
  rw[hok]at HS
  clear hok;go_wp2_with fail
  go_ret;exact⟨by rw[HS.out];rfl,HF1.out⟩
 |true=>
  have HOK:=Hi hok;rw[hok]at HS
  clear hok;go_wp2_with fail
  refine HR2.out.mono ?_;rintro e w2 ⟨rfl,F2⟩;have HF2:=Hi (HF1.out.trans F2);clear HR2 F2 HF1;cases hok2:nameOk m with
  |false=>
   rw[hok2]at HS
   clear hok2;go_wp2_with fail
   go_ret;exact⟨by rw[HS.out];rfl,HF2.out⟩
  |true=>
   have HOK2:=Hi hok2;rw[hok2]at HS
   have HK:=Hi (r14Key_any v n w2 (H.out.old HF2.out) hf HOK.out);clear hok2;go_wp2_with fail
   refine HK.out.mono ?_;rintro e w3 ⟨rfl,F3⟩;have HF3:=Hi (HF2.out.trans F3);have HK2:=Hi (r14Key_any u m w3 (HM.out.old HF3.out) hfm HOK2.out);clear HK F3 HF2;go_wp2_with fail
   refine HK2.out.mono ?_;rintro e w4 ⟨rfl,F4⟩;have HF4:=Hi (HF3.out.trans F4);clear HK2 F4 HF3;generalize nameKeyS n=kn at *
   generalize nameKeyS m=km at *
   by_cases hkk:kn=km
   ·have hq2:(kn==km)=true:=by simpa using hkk
    have HKK:=Hi (decide_eq_true hkk);clear hkk;go_wp2_with fail
    go_ret;exact⟨by rw[HS.out,HKK.out];rfl,HF4.out⟩
   ·have hq2:(kn==km)=false:=by simpa using hkk
    have HKK:=Hi (decide_eq_false hkk);clear hkk;go_wp2_with fail
    go_ret;exact⟨by rw[HS.out,HKK.out];rfl,HF4.out⟩
end Go.Proofs.YtehlipgmkinfbaaGreatDoor
