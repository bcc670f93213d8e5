/-
  Merged by program: XScAsks XR15K XR16K XR23P.
-/
import Derived.Test.YteidmhkobmddiaaGreatDoorQ0n
set_option linter.unusedSimpArgs false
set_option maxRecDepth 100000
set_option maxHeartbeats 8000000
namespace Go.Q
open Go Go.RowKit
structure AskT where
 iss:List (List Part)
 au:Bool
 pt:PointT
def RAsk (W:World)(cs:List Value)(x:AskT):Prop:=∃ vn vp vr vi,cs=[vn,.bool x.au,vp,vr,vi]∧NameAt W vn x.iss∧PtIn W vp vr vi x.pt
abbrev AsksL (W:World)(v:Value)(l:List AskT):Prop:=LAt 5 RAsk W v l
theorem RAsk.old (w w':World)(cs:List Value)(x:AskT)(h:RAsk w cs x)(f:Fz w w'):RAsk w' cs x:=by
 obtain⟨vn,vp,vr,vi,rfl,h1,h2⟩:=h
 exact⟨vn,vp,vr,vi,rfl,h1.old f,h2.old f⟩
theorem AsksL.old {w w':World}{v:Value}{l:List AskT}(h:AsksL w v l)(f:Fz w w'):AsksL w' v l:=LAt.old RAsk.old h f
def asksS (ps:List PointT)(n:List (List Part))(au:Bool):List AskT:=(scPointsS ps n).map (fun p=>⟨n,au,p⟩)
instance:DecidableEq Gen:=fun p q=>if h:p.k=q.k∧p.b=q.b∧p.n=q.n then isTrue (by cases p;cases q;simp_all) else isFalse (fun e=>h (by rw[e];exact⟨rfl,rfl,rfl⟩))
theorem gen_eq {p q:Gen}:p=q↔p.k=q.k∧p.b=q.b∧p.n=q.n:=by
 constructor
 ·rintro rfl
  exact⟨rfl,rfl,rfl⟩
 ·intro h
  cases p
  cases q
  simp_all
theorem list_like {α:Type}{a b:List α}(hl:a.length=b.length)(h:∀ i:Nat,i<a.length→a[i]? = b[i]?):a=b:=by
 apply List.ext_getElem?
 intro i;rcases Nat.lt_or_ge i a.length with hi|hi
 ·exact h i hi
 ·rw[List.getElem?_eq_none hi,List.getElem?_eq_none (by omega)]
def dirPd (n:List (List Part)):PointD:=⟨true,[⟨4,[],n⟩],[],[],[]⟩
def refPointsS (ps:List PointD)(n:List (List Part)):List PointD:=if ps.length=0 then [dirPd n] else ps
theorem refPoints_map (ps:List PointT)(n:List (List Part)):refPointsS (ps.map ofPt) n=(scPointsS ps n).map ofPt:=by
 unfold refPointsS scPointsS;rw[List.length_map]
 split
 ·rfl
 ·rfl
abbrev refW1 (w:World)(an:Option Addr)(n:List (List Part))(cn:Nat):World:=w.alloc (.cells #[.int .i64 4,.slice none 0 0,.slice an n.length cn] 123)
abbrev refW2 (w:World)(an:Option Addr)(n:List (List Part))(cn:Nat):World:=(refW1 w an n cn).alloc (.cells #[.int .i64 4,.slice none 0 0,.slice an n.length cn] 123)
abbrev refW3 (w:World)(an:Option Addr)(n:List (List Part))(cn:Nat):World:=(refW2 w an n cn).alloc (.cells #[.bool true,.slice (some ⟨w.heap.size+1,0,none⟩) 1 1,.slice none 0 0,.slice none 0 0,.slice none 0 0] 29)
theorem refPts_new {w:World}{an:Option Addr}{cn:Nat}{n:List (List Part)}(h:NameAt w (.slice an n.length cn) n):Pds (refW3 w an n cn) (.slice (some ⟨w.heap.size+2,0,none⟩) 1 1) [dirPd n]∧Fz w (refW3 w an n cn):=by
 have s1:(refW1 w an n cn).heap.size=w.heap.size+1:=World.size_alloc _ _;have s2:(refW2 w an n cn).heap.size=w.heap.size+2:=by rw[World.size_alloc,s1]
 have F1:Fz w (refW1 w an n cn):=(Fr.refl w).alloc _;have F2:Fz (refW1 w an n cn) (refW2 w an n cn):=(Fr.refl _).alloc _;have F3:Fz (refW2 w an n cn) (refW3 w an n cn):=(Fr.refl _).alloc _;have B2:=(Blk.new (refW1 w an n cn) 123 #[.int .i64 4,.slice none 0 0,.slice an n.length cn]).fr F3 (fun h=>h);have B3:=Blk.new (refW2 w an n cn) 29 #[.bool true,.slice (some ⟨w.heap.size+1,0,none⟩) 1 1,.slice none 0 0,.slice none 0 0,.slice none 0 0];rw[s1]at B2
 rw[s2]at B3
 have F:=(F1.trans F2).trans F3;exact⟨lat_one (us:=[.bool true,.slice (some ⟨w.heap.size+1,0,none⟩) 1 1,.slice none 0 0,.slice none 0 0,.slice none 0 0]) B3 rfl ⟨_,_,_,_,rfl,lat_one (us:=[.int .i64 4,.slice none 0 0,.slice an n.length cn]) B2 rfl ⟨_,_,rfl,Vals.nil _,h.old F⟩,attrs_none _,ints_none _,lat_nil _⟩,F⟩
end Go.Q
namespace Go.Proofs.YteidmhkobmddiaaGreatDoor
open Go Go.RowKit Go.Q
theorem info49:(Tryz.prog.info? 49).map (fun i=>(i.zero,i.size,i.bytes))=some (some (.agg #[.slice none 0 0,.bool false,.pointer none,.slice none 0 0,.slice none 0 0]),5,88):=by kernel_rfl
theorem genField2 (an:Option Addr)(n cn:Nat)(W:World):(Instr.field 148 (.agg #[.int .i64 4,.slice none 0 0,.slice an n cn]) 2).run Tryz.prog W=.ok (.slice an n cn) W:=by kernel_rfl
theorem scAsks_any (vs vi vj va vp vk ve uk ua uu up uf uo:Value)(x:CertT)(y:ViewT)(w:World)(hx:CertIn w x vs vi vj va vp vk ve)(h:ViewIn w uk ua uu up uf uo y)(hd:dirN x.iss)(hc:∀ p∈y.ps,copyPt p)(hl:y.ps.length≤1000000) :
  Calls Tryz.prog 23 #[.agg #[.bool x.below,vs,vi,vj,.int .i64 x.t0,.int .i64 x.t1,va,vp,vk,ve],.agg #[uk,ua,uu,.bool y.au,.int .i64 y.pa,up,uf,uo,.bool y.nc]] w fun e w'=>(∃ a c,e=.returned (.slice a (asksS y.ps x.iss y.au).length c)∧AsksL w' (.slice a (asksS y.ps x.iss y.au).length c) (asksS y.ps x.iss y.au))∧Fz w w':=by
 have HV:=Hi h;obtain⟨hv1,hv2,hv3,hv4,hv5,hv6⟩:=h
 obtain⟨k1,l1,rfl,-⟩:=Vals.form hv1
 obtain⟨k2,l2,rfl,-⟩:=Vals.form hv2
 obtain⟨k3,l3,rfl,-⟩:=Ints.form hv3
 obtain⟨k4,l4,rfl⟩:=LAt.shape hv4
 obtain⟨k5,l5,rfl⟩:=LAt.shape hv5
 obtain⟨k6,l6,rfl⟩:=LAt.shape hv6
 obtain⟨p1,p2,p3,p4,p5,p6,p7⟩:=hx
 obtain⟨x1,y1,rfl,-⟩:=Vals.form p1
 obtain⟨x2,y2,rfl⟩:=NameAt.shape p2
 obtain⟨x3,y3,rfl⟩:=NameAt.shape p3
 obtain⟨x4,y4,rfl,-⟩:=Ints.form p4
 obtain⟨x5,y5,rfl,-⟩:=Vals.form p5
 obtain⟨x6,y6,rfl,-⟩:=Vals.form p6
 obtain⟨x7,y7,rfl⟩:=LAt.shape p7
 have HPT:=Hi (fun W (F:Fz w W)=>scPoints_any _ _ _ _ _ _ _ y x.iss W (HV.out.old F) (p2.old F) hd hc hl);have HD:=Hi (fun W (F:Fz w W)=>directory_any _ x.iss W (p2.old F) hd.1 hd.2);obtain⟨z,hz⟩:∃ z,z=w.heap.size:=⟨_,rfl⟩
 have HZ:=Hi hz;have HF0:=Hi (show Fz w ((w.alloc (.cells #[.bool x.below,.slice x1 x.size.length y1,.slice x2 x.iss.length y2,.slice x3 x.sub.length y3,.int .i64 x.t0,.int .i64 x.t1,.slice x4 x.ao.length y4,.slice x5 x.ap.length y5,.slice x6 x.kn.length y6,.slice x7 x.ex.length y7] 92)).alloc (.cells #[.slice k1 y.kid.length l1,.slice k2 y.ak.length l2,.slice k3 y.us.length l3,.bool y.au,.int .i64 y.pa,.slice k4 y.ps.length l4,.slice k5 y.fs.length l5,.slice k6 y.pu.length l6,.bool y.nc] 95)) from ((Fr.refl w).alloc _).alloc _)
 have BX:=(Blk.new w 92 #[.bool x.below,.slice x1 x.size.length y1,.slice x2 x.iss.length y2,.slice x3 x.sub.length y3,.int .i64 x.t0,.int .i64 x.t1,.slice x4 x.ao.length y4,.slice x5 x.ap.length y5,.slice x6 x.kn.length y6,.slice x7 x.ex.length y7]).alloc (.cells #[.slice k1 y.kid.length l1,.slice k2 y.ak.length l2,.slice k3 y.us.length l3,.bool y.au,.int .i64 y.pa,.slice k4 y.ps.length l4,.slice k5 y.fs.length l5,.slice k6 y.pu.length l6,.bool y.nc] 95)
 have BV:=Blk.new (w.alloc (.cells #[.bool x.below,.slice x1 x.size.length y1,.slice x2 x.iss.length y2,.slice x3 x.sub.length y3,.int .i64 x.t0,.int .i64 x.t1,.slice x4 x.ao.length y4,.slice x5 x.ap.length y5,.slice x6 x.kn.length y6,.slice x7 x.ex.length y7] 92)) 95 #[.slice k1 y.kid.length l1,.slice k2 y.ak.length l2,.slice k3 y.us.length l3,.bool y.au,.int .i64 y.pa,.slice k4 y.ps.length l4,.slice k5 y.fs.length l5,.slice k6 y.pu.length l6,.bool y.nc];rw[World.size_alloc,←hz]at BV
 rw[←hz]at BX
 have HLL:=Hi (show (asksS y.ps x.iss y.au).length=(scPointsS y.ps x.iss).length from List.length_map _);have HLB:=Hi (show (scPointsS y.ps x.iss).length≤1000000 from by unfold scPointsS;split;(show (1:Nat)≤1000000;omega);exact hl);have HDF:=Hi (show asksS y.ps x.iss y.au=(scPointsS y.ps x.iss).map (fun p=>⟨x.iss,y.au,p⟩) from rfl);rw[HLL.out]
 clear hz hv1 hv2 hv3 hv4 hv5 hv6 p1 p2 p3 p4 p5 p6 p7 hd hc hl;generalize scPointsS y.ps x.iss=L at *
 generalize asksS y.ps x.iss y.au=LA at *
 go_enter Tryz.func23,Tryz.ntmps23
 go_upto_region 2 with fail
 rw[←HZ.out]
 generalize ((w.alloc (.cells #[.bool x.below,.slice x1 x.size.length y1,.slice x2 x.iss.length y2,.slice x3 x.sub.length y3,.int .i64 x.t0,.int .i64 x.t1,.slice x4 x.ao.length y4,.slice x5 x.ap.length y5,.slice x6 x.kn.length y6,.slice x7 x.ex.length y7] 92)).alloc (.cells #[.slice k1 y.kid.length l1,.slice k2 y.ak.length l2,.slice k3 y.us.length l3,.bool y.au,.int .i64 y.pa,.slice k4 y.ps.length l4,.slice k5 y.fs.length l5,.slice k6 y.pu.length l6,.bool y.nc] 95))=w1 at *
 have e0:=BX.cell 0;have e1:=BX.cell 1;have e2:=BX.cell 2;have e3:=BX.cell 3;have e4:=BX.cell 4;have e5:=BX.cell 5;have e6:=BX.cell 6;have e7:=BX.cell 7;have e8:=BX.cell 8;have e9:=BX.cell 9;have d0:=BV.cell 0;have d1:=BV.cell 1;have d2:=BV.cell 2;have d3:=BV.cell 3;have d4:=BV.cell 4;have d5:=BV.cell 5;have d6:=BV.cell 6;have d7:=BV.cell 7;have d8:=BV.cell 8;simp only[SG]at e0 e1 e2 e3 e4 e5 e6 e7 e8 e9 d0 d1 d2 d3 d4 d5 d6 d7 d8
 go_wp2_with fail
 clear e0 e1 e2 e3 e4 e5 e6 e7 e8 e9 d0 d1 d2 d3 d4 d5 d6 d7 d8;refine(HPT.out _ HF0.out).mono ?_
 rintro e w2 ⟨⟨al,cl,rfl,hpl⟩,F2⟩;have HPL:=Hi hpl;have HF2:=Hi (HF0.out.trans F2);have HBX:=Hi (BX.fr F2 (fun h=>h));have HBV:=Hi (BV.fr F2 (fun h=>h));have HBS:=Hi (show z<w2.heap.size∧z+1<w2.heap.size from ⟨(BX.fr F2 (fun h=>h)).lt,(BV.fr F2 (fun h=>h)).lt⟩);have hlb:=HLB.out;clear hpl F2 BX BV HPT;go_wp2_with fail
 go_loopg [5,13] L.length (fun m u i wr=>∃ (j:Nat) (a:Option Addr) (c:Nat) (gs:List AskT),m=L.length-j∧j≤L.length∧u=.slice a gs.length c∧i=.int .i64 j∧gs.length=j∧Hid (gs=(L.take j).map (fun p=>⟨x.iss,y.au,p⟩))∧GRow 5 RAsk (fun _=>False) 49 wr w2.heap.size (.slice a gs.length c) gs∧Fz w2 wr)
 case atStart=>exact⟨0,none,0,[],rfl,Nat.zero_le _,rfl,rfl,rfl,Hi rfl,GRow.nil _ _ _ _ _ _,Fr.refl _⟩
 case round=>
  obtain⟨j,a,c,gs,hm,hj,rfl,rfl,hgl,HGS,hrow,F⟩:=hrel
  have HM:=Hi hm;have HRW:=Hi hrow;have HF:=Hi F;have HGL:=Hi hgl;clear hm hrow;by_cases hjl:j<L.length
  ·obtain⟨p,hp⟩:∃ p,L[j]? = some p:=⟨_,List.getElem?_eq_getElem hjl⟩
   obtain⟨b,o,cs,rfl,-,-,hr,hx⟩:=LAt.get HPL.out hp
   obtain⟨q,a1,c1,a2,c2,rfl,hin⟩:=hr.form
   have e0:=F.cell (hx 0 _ rfl) (fun h=>h);have e1:=F.cell (hx 1 _ rfl) (fun h=>h);have e2:=F.cell (hx 2 _ rfl) (fun h=>h);simp only[Nat.add_zero]at e0
   have r1:(0:Int)≤(j:Int):=by omega
   have r2:(j:Int)<(L.length:Int):=by omega
   have HIN:=Hi hin;have HX:=Hi (show (L.take (j+1)).map (fun p=>(⟨x.iss,y.au,p⟩:AskT))=(L.take j).map (fun p=>⟨x.iss,y.au,p⟩)++[⟨x.iss,y.au,p⟩] from by rw[List.take_add_one,hp,List.map_append];rfl);clear hx hp hr hin hgl;go_upto_region 5 with fail
   have BA:=Blk.new wr 47 #[.pointer q,.slice a1 p.rs.length c1,.slice a2 p.is.length c2];obtain⟨z7,hz7⟩:∃ z,z=wr.heap.size:=⟨_,rfl⟩
   have HLO:=Hi (show wr.heap.size≤z7 from by omega);rw[←hz7]at BA ⊢
   have HFA:=Hi ((Fr.refl (S:=fun _=>False) wr).alloc (.cells #[.pointer q,.slice a1 p.rs.length c1,.slice a2 p.is.length c2] 47));have BX:=((HBX.out.fr F (fun h=>h)).alloc (.cells #[.pointer q,.slice a1 p.rs.length c1,.slice a2 p.is.length c2] 47)).drew;have BV:=((HBV.out.fr F (fun h=>h)).alloc (.cells #[.pointer q,.slice a1 p.rs.length c1,.slice a2 p.is.length c2] 47)).drew;clear e0 e1 e2 hz7 F;generalize (wr.alloc (.cells #[.pointer q,.slice a1 p.rs.length c1,.slice a2 p.is.length c2] 47))=wa at *
   replace BA:=BA.drew;have G:Fz wa wa.drew:=(Fr.refl wa).drew;have HWR:=Hi (HF2.out.trans (HF.out.trans HFA.out));have hgf:=genField2;refine wp_region_noPanic ?_
   refine wp_region_held_drew (S:=(fun w'=>(∀ j,w'.cell? ⟨z,j,none⟩=(#[.bool x.below,.slice x1 x.size.length y1,.slice x2 x.iss.length y2,.slice x3 x.sub.length y3,.int .i64 x.t0,.int .i64 x.t1,.slice x4 x.ao.length y4,.slice x5 x.ap.length y5,.slice x6 x.kn.length y6,.slice x7 x.ex.length y7]:Array Value)[j]?)∧(∀ j,w'.cell? ⟨z+1,j,none⟩=(#[.slice k1 y.kid.length l1,.slice k2 y.ak.length l2,.slice k3 y.us.length l3,.bool y.au,.int .i64 y.pa,.slice k4 y.ps.length l4,.slice k5 y.fs.length l5,.slice k6 y.pu.length l6,.bool y.nc]:Array Value)[j]?)∧∀ j,w'.cell? ⟨z7,j,none⟩=(#[.pointer q,.slice a1 p.rs.length c1,.slice a2 p.is.length c2]:Array Value)[j]?)) (by kernel_rfl) ?_ (fun hHeld=>?_)
   ·exact⟨BX.cell,BV.cell,BA.cell⟩
   refine wpAnyH_take (i:=0) (oi:=_) (v:=?_) rfl (by kernel_rfl) (by kernel_rfl) (by kernel_rfl) (fun _ _ _ h=>h) (Or.inl ⟨by rfl,?_⟩) (by assumption) ?_;rotate_left
   ·(intro W hSw;(try dsimp only at hSw);go_simp;try with_reducible rfl)
   (try simp only[Act.put,SK,SS]);refine wpAnyH_take (i:=1) (oi:=_) (v:=?_) rfl (by kernel_rfl) (by kernel_rfl) (by kernel_rfl) (fun _ _ _ h=>h) (Or.inl ⟨by rfl,?_⟩) (by assumption) ?_;rotate_left
   ·(intro W hSw;(try dsimp only at hSw);go_simp;try with_reducible rfl)
   (try simp only[Act.put,SK,SS]);refine wpAnyH_take (i:=2) (oi:=_) (v:=?_) rfl (by kernel_rfl) (by kernel_rfl) (by kernel_rfl) (fun _ _ _ h=>h) (Or.inl ⟨by rfl,?_⟩) (by assumption) ?_;rotate_left
   ·(intro W hSw;(try dsimp only at hSw);go_simp;try with_reducible rfl)
   (try simp only[Act.put,SK,SS]);refine wpAnyH_take (i:=5) (oi:=_) (v:=?_) rfl (by kernel_rfl) (by kernel_rfl) (by kernel_rfl) (fun _ _ _ h=>h) (Or.inl ⟨by rfl,?_⟩) (by assumption) ?_;rotate_left
   ·(intro W hSw;(try dsimp only at hSw);go_simp;try with_reducible rfl)
   (try simp only[Act.put,SK,SS]);refine wpAnyH_take (i:=6) (oi:=_) (v:=?_) rfl (by kernel_rfl) (by kernel_rfl) (by kernel_rfl) (fun _ _ _ h=>h) (Or.inl ⟨by rfl,?_⟩) (by assumption) ?_;rotate_left
   ·(intro W hSw;(try dsimp only at hSw);go_simp;try with_reducible rfl)
   (try simp only[Act.put,SK,SS]);refine wpAnyH_take (i:=7) (oi:=_) (v:=?_) rfl (by kernel_rfl) (by kernel_rfl) (by kernel_rfl) (fun _ _ _ h=>h) (Or.inl ⟨by rfl,?_⟩) (by assumption) ?_;rotate_left
   ·(intro W hSw;(try dsimp only at hSw);go_simp;try with_reducible rfl)
   (try simp only[Act.put,SK,SS]);refine wpAnyH_ready (rs:=[3]) (by kernel_rfl) (by simp) ?_;refine AllReadyH.cons (o:=_) rfl (fun KK hKK=>?_) AllReadyH.nil;go_simp
   (go_at_call 59;(with_reducible refine(HD.out _ (HWR.out.trans G)).mono ?_);rintro e w3 ⟨⟨an,cn,rfl,hk⟩,F⟩;have hsz:=G.size;replace BX:=BX.fr F (fun h=>h);replace BV:=BV.fr F (fun h=>h);replace BA:=BA.fr F (fun h=>h);replace G:=G.trans F;clear F;go_wp2_with fail)
   refine hKK.out _ _ ?_ (fun hHeld=>?_)
   ·exact⟨BX.cell,BV.cell,BA.cell⟩
   clear hKK KK;(try simp only[Act.put,SK,SS]);refine wpAnyH_take (i:=4) (oi:=_) (v:=?_) rfl (by kernel_rfl) (by kernel_rfl) (by kernel_rfl) (fun _ _ _ h=>h) (Or.inl ⟨by rfl,?_⟩) (by assumption) ?_;rotate_left
   ·(intro W hSw;(try dsimp only at hSw);go_simp;try with_reducible rfl)
   (try simp only[Act.put,SK,SS]);refine wpAnyH_take (i:=8) (oi:=_) (v:=?_) rfl (by kernel_rfl) (by kernel_rfl) (by kernel_rfl) (fun _ _ _ h=>h) (Or.inl ⟨by rfl,?_⟩) (by assumption) ?_;rotate_left
   ·(intro W hSw;(try dsimp only at hSw);go_simp;try with_reducible rfl)
   (try simp only[Act.put,SK,SS]);have hkp:=HRW.out.keep;have hbs:=HBS.out;have hlo:=HLO.out
   obtain⟨a7,c7,w7,hrun,hrow7,F7,-⟩:=(HRW.out.old (HFA.out.trans G)).add (s:=99) Tryz.underlying99 info49 rfl (by decide) (by decide) (HF.out.trans (HFA.out.trans G)).size ((Fr.refl w3).alloc (.cells #[.slice an x.iss.length cn,.bool y.au,.pointer q,.slice a1 p.rs.length c1,.slice a2 p.is.length c2] 49)) w3.heap.size [.slice an x.iss.length cn,.bool y.au,.pointer q,.slice a1 p.rs.length c1,.slice a2 p.is.length c2] rfl (Blk.new w3 49 #[.slice an x.iss.length cn,.bool y.au,.pointer q,.slice a1 p.rs.length c1,.slice a2 p.is.length c2]) (by simp[Value.oneCell']) ⟨x.iss,y.au,p⟩ ((Kept.both (hk.weaken (K':=fun k=>(Value.slice a gs.length c).ownBlock=some k∨False) (fun k e=>by
     rcases e with e|e
     ·have:=(hkp k e).2;have:=HFA.out.size;show k<_;omega
     ·exact e.elim)) (kept_old (wb:=w2) (R:=fun W=>PtIn W (.pointer q) (.slice a1 p.rs.length c1) (.slice a2 p.is.length c2) p) (fun W f=>HIN.out.old f) (((HF.out.trans HFA.out).trans G).mono (T:=fun k=>w2.heap.size≤k) (fun _ _ h=>h.elim)) (fun k=>(Value.slice a gs.length c).ownBlock=some k∨False) (fun k e=>by
     rcases e with e|e
     ·exact(hkp k e).1
     ·exact e.elim))).imp (fun W h=>⟨_,_,_,_,rfl,h.1,h.2⟩)) (by have:=HGL.out;omega)
   have BX7:=BX.fr F7 (fun e=>by have:=(hkp _ e).1;omega);have BV7:=BV.fr F7 (fun e=>by have:=(hkp _ e).1;omega);have BA7:=BA.fr F7 (fun e=>by have:=(hkp _ e).2;omega);have HRUN:=Hi hrun;refine wpAnyH_ready (rs:=[9]) (by kernel_rfl) (by simp) ?_;refine AllReadyH.cons (o:=_) rfl (fun KK hKK=>?_) AllReadyH.nil;go_simp
   skip
   refine hKK.out _ _ ?_ (fun hHeld=>?_)
   ·exact⟨(BX.alloc _).cell,(BV.alloc _).cell,(BA.alloc _).cell⟩
   clear hKK KK;(try simp only[Act.put,SK,SS]);refine wpAnyH_ready (rs:=[10]) (by kernel_rfl) (by simp) ?_;refine AllReadyH.cons (o:=_) rfl (fun KK hKK=>?_) AllReadyH.nil;refine step_append_run (by rfl) (.tmp 17) (.tmp 26) 99 (by rfl) _ w7 (by exact HRUN.out) ?_;refine hKK.out _ _ ?_ (fun hHeld=>?_)
   ·exact⟨BX7.cell,BV7.cell,BA7.cell⟩
   clear hKK KK;(try simp only[Act.put,SK,SS]);refine wpAnyH_take (i:=11) (oi:=_) (v:=?_) rfl (by kernel_rfl) (by kernel_rfl) (by kernel_rfl) (fun _ _ _ h=>h) (Or.inl ⟨by rfl,?_⟩) (by assumption) ?_;rotate_left
   ·(intro W hSw;(try dsimp only at hSw);go_simp;try with_reducible rfl)
   (try simp only[Act.put,SK,SS]);refine wpAnyH_done (by kernel_rfl) ?_ _;refine NoPanic.normal ?_;have HR7:=Hi hrow7;have HF7:=Hi (((HF.out.trans HFA.out).trans G).trans' F7 (fun i hi e=>absurd hi (by have:=(hkp i e).1;omega)));have HGS7:=Hi (show gs++[⟨x.iss,y.au,p⟩]=(L.take (j+1)).map (fun p=>⟨x.iss,y.au,p⟩) from by rw[HX.out,HGS.out]);clear BX BV BA BX7 BV7 BA7 G hkp hbs hlo hrun hrow7 F7 hk;go_wp2_with fail
   go_roundg (L.length-(j+1))
   case measure=>rw[HM.out];omega
   case rel=>exact⟨j+1,a7,c7,gs++[⟨x.iss,y.au,p⟩],rfl,by omega,by rw[List.length_append];rfl,by go_num,by rw[List.length_append,HGL.out];rfl,HGS7,by rw[List.length_append];exact HR7.out,HF7.out⟩
  ·obtain rfl:j=L.length:=by omega
   have hgs:=HGS.out;rw[List.take_length,←HDF.out]at hgs
   have hl2:=HLL.out;subst hgs;have HL2:=Hi hl2;clear hl2;go_wp2_with fail
   go_ret;exact⟨⟨a,c,by rw[←HL2.out];rfl,by rw[←HL2.out];exact HRW.out.at (by decide)⟩,HF2.out.trans F⟩
theorem r15Like_any (v u:Value)(a b:List Gen)(w:World)(ha:Gens w v a)(hb:Gens w u b) :
  Calls Tryz.prog 64 #[v,u] w fun e w'=>e=.returned (.bool (decide (a=b)))∧Fz w w':=by
 have HA:=Hi ha;have HB:=Hi hb;obtain⟨pa,ca,rfl,h1,h2,-⟩:=ha
 obtain⟨pb,cb,rfl,h3,h4,-⟩:=hb
 have hal:a.length≤9223372036854775807:=by unfold maxLen at h2;omega
 by_cases hlen:a.length=b.length
 case neg=>
  have q1:((a.length:Int)==(b.length:Int))=false:=beq_eq_false_iff_ne.2 (by omega);have q2:((a.length:Int) != (b.length:Int))=true:=by simp;omega
  have q3:(a.length==b.length)=false:=beq_eq_false_iff_ne.2 hlen;have q4:(a.length != b.length)=true:=by simpa using hlen
  have HD:=Hi (decide_eq_false (show ¬a=b from fun e=>hlen (by rw[e])));clear hlen h1 h2 h3 h4;go_enter Tryz.func64,Tryz.ntmps64
  go_wp2_with fail
  go_ret;exact⟨by rw[HD.out];rfl,Fr.refl _⟩
 have q1:((a.length:Int)==(b.length:Int))=true:=by rw[hlen];simp
 have q2:((a.length:Int) != (b.length:Int))=false:=by rw[hlen];simp
 have q3:(a.length==b.length)=true:=by rw[hlen];simp
 have q4:(a.length != b.length)=false:=by rw[hlen];simp
 have HLEN:=Hi hlen;clear hlen h1 h2 h3 h4;go_enter Tryz.func64,Tryz.ntmps64
 go_wp2_with fail
 go_loopg [5] a.length (fun g i wr=>∃ j:Nat,g=a.length-j∧j≤a.length∧i=.int .i64 j∧(∀ k:Nat,k<j→a[k]? = b[k]?)∧Fz w wr)
 case atStart=>exact⟨0,rfl,Nat.zero_le _,rfl,fun k h=>absurd h (Nat.not_lt_zero _),Fr.refl _⟩
 case round=>
  obtain⟨j,hg,hj,rfl,hall,F⟩:=hrel
  have HG:=Hi hg;have HAL:=Hi hall;have HF:=Hi F;clear hg hall q1 q2 q3 q4;by_cases hjl:j<a.length
  ·obtain⟨x,hx⟩:∃ x,a[j]? = some x:=⟨_,List.getElem?_eq_getElem hjl⟩
   have hjb:j<b.length:=by have:=HLEN.out;omega
   obtain⟨y,hy⟩:∃ y,b[j]? = some y:=⟨_,List.getElem?_eq_getElem hjb⟩
   obtain⟨ba,oa,ab,cab,an,can,rfl,-,hga,e0,e1,e2⟩:=(HA.out.old F).get hx
   obtain⟨bb,ob,bb2,cbb,bn,cbn,rfl,-,hgb,g0,g1,g2⟩:=(HB.out.old F).get hy
   have r1:(0:Int)≤(j:Int):=by omega
   have r2:(j:Int)<(a.length:Int):=by omega
   have r3:(j:Int)<(b.length:Int):=by omega
   obtain⟨va,na,heq,hba,hna⟩:=hga
   simp only[Value.agg.injEq,Array.mk.injEq,List.cons.injEq,and_true,true_and]at heq
   obtain⟨rfl,rfl⟩:=heq
   obtain⟨vb,nb,heq,hbb,hnb⟩:=hgb
   simp only[Value.agg.injEq,Array.mk.injEq,List.cons.injEq,and_true,true_and]at heq
   obtain⟨rfl,rfl⟩:=heq
   have HS:=Hi (fun W (f:Fz wr W)=>r01Same_any _ _ x.b y.b W (hba.old f) (hbb.old f));have HN:=Hi (fun W (f:Fz wr W)=>r14Like_any _ _ x.n y.n W (hna.old f) (hnb.old f));have HXY:=Hi (show a[j]? = some x∧b[j]? = some y from ⟨hx,hy⟩);clear hx hy hba hna hbb hnb;have hcase:(x.k≠y.k)∨(x.k=y.k∧x.b≠y.b)∨(x.k=y.k∧x.b=y.b):=by
    by_cases hk:x.k=y.k
    ·by_cases hb:x.b=y.b
     ·exact .inr (.inr ⟨hk,hb⟩)
     ·exact .inr (.inl ⟨hk,hb⟩)
    ·exact .inl hk
   have bad:x≠y→decide (a=b)=false:=fun h=>decide_eq_false (fun e=>by
    have h1:=HXY.out.1;rw[e,HXY.out.2]at h1
    simp only[Option.some.injEq]at h1
    exact h h1.symm)
   have BAD:=Hi bad;clear bad;rcases hcase with hk|⟨hk,hb⟩|⟨hk,hb⟩
   ·have s1:(x.k==y.k)=false:=beq_eq_false_iff_ne.2 hk
    have s2:(x.k != y.k)=true:=by simpa using hk
    have HD:=Hi (BAD.out (fun e=>hk (by rw[e])));clear hk;go_upto_region 6 with fail
    go_quiet (fail)
    go_wp2_with fail
    go_ret;exact⟨by rw[HD.out];rfl,HF.out.drewN nq⟩
   ·have s1:(x.k==y.k)=true:=by rw[hk];simp
    have s2:(x.k != y.k)=false:=by rw[hk];simp
    have HD:=Hi (BAD.out (fun e=>hb (by rw[e])));have hs2:=HS.out;simp only[decide_eq_false hb]at hs2
    have HS2:=Hi hs2;clear hs2;have HN2:=HN;clear hk hb HS F;have HCL:=Hi (fun W (f:Fz wr W)=>(show W.cell? ⟨ba,oa+j*3,none⟩=some (.int .i64 x.k)∧W.cell? ⟨ba,oa+j*3+1,none⟩=some (.slice ab x.b.length cab)∧W.cell? ⟨ba,oa+j*3+2,none⟩=some (.slice an x.n.length can)∧W.cell? ⟨bb,ob+j*3,none⟩=some (.int .i64 y.k)∧W.cell? ⟨bb,ob+j*3+1,none⟩=some (.slice bb2 y.b.length cbb)∧W.cell? ⟨bb,ob+j*3+2,none⟩=some (.slice bn y.n.length cbn) from ⟨f.cell e0 (fun h=>h),f.cell e1 (fun h=>h),f.cell e2 (fun h=>h),f.cell g0 (fun h=>h),f.cell g1 (fun h=>h),f.cell g2 (fun h=>h)⟩));clear e0 e1 e2 g0 g1 g2
    go_upto_region 6 with fail
    have G:Fz wr wr.drew:=(Fr.refl wr).drew;refine wp_region_held_drew (S:=(fun w'=>w'.cell? ⟨ba,oa+j*3,none⟩=some (.int .i64 x.k)∧w'.cell? ⟨ba,oa+j*3+1,none⟩=some (.slice ab x.b.length cab)∧w'.cell? ⟨ba,oa+j*3+2,none⟩=some (.slice an x.n.length can)∧w'.cell? ⟨bb,ob+j*3,none⟩=some (.int .i64 y.k)∧w'.cell? ⟨bb,ob+j*3+1,none⟩=some (.slice bb2 y.b.length cbb)∧w'.cell? ⟨bb,ob+j*3+2,none⟩=some (.slice bn y.n.length cbn))) (by kernel_rfl) ?_ (fun hHeld=>?_)
    ·exact HCL.out _ G
    refine wpAnyH_take (i:=0) (v:=?vq0) (held_at held_z) (by kernel_rfl) (by kernel_rfl) (by kernel_rfl) (fun _ _ _ h=>h) (Or.inl ⟨by rfl,?hyq0⟩) (by assumption) ?restq0
    case hyq0=>intro w9 hSw;(try dsimp only at hSw);go_simp;all_goals with_reducible rfl
    try simp only[Act.put,SS]
    refine wpAnyH_take (i:=1) (v:=?vq1) (held_at (held_s held_z)) (by kernel_rfl) (by kernel_rfl) (by kernel_rfl) (fun _ _ _ h=>h) (Or.inl ⟨by rfl,?hyq1⟩) (by assumption) ?restq1
    case hyq1=>intro w9 hSw;(try dsimp only at hSw);go_simp;all_goals with_reducible rfl
    try simp only[Act.put,SS]
    refine wpAnyH_take (i:=2) (v:=?vq2) (held_at (held_s (held_s held_z))) (by kernel_rfl) (by kernel_rfl) (by kernel_rfl) (fun _ _ _ h=>h) (Or.inl ⟨by rfl,?hyq2⟩) (by assumption) ?restq2
    case hyq2=>intro w9 hSw;(try dsimp only at hSw);go_simp;all_goals with_reducible rfl
    try simp only[Act.put,SS]
    refine wpAnyH_take (i:=3) (v:=?vq3) (held_at (held_s (held_s (held_s held_z)))) (by kernel_rfl) (by kernel_rfl) (by kernel_rfl) (fun _ _ _ h=>h) (Or.inl ⟨by rfl,?hyq3⟩) (by assumption) ?restq3
    case hyq3=>intro w9 hSw;(try dsimp only at hSw);go_simp;all_goals with_reducible rfl
    try simp only[Act.put,SS]
    refine wpAnyH_take (i:=4) (v:=?vq4) (held_at (held_s (held_s (held_s (held_s held_z))))) (by kernel_rfl) (by kernel_rfl) (by kernel_rfl) (fun _ _ _ h=>h) (Or.inl ⟨by rfl,?hyq4⟩) (by assumption) ?restq4
    case hyq4=>intro w9 hSw;(try dsimp only at hSw);go_simp;all_goals with_reducible rfl
    try simp only[Act.put,SS]
    refine wpAnyH_take (i:=5) (v:=?vq5) (held_at (held_s (held_s (held_s (held_s (held_s held_z)))))) (by kernel_rfl) (by kernel_rfl) (by kernel_rfl) (fun _ _ _ h=>h) (Or.inl ⟨by rfl,?hyq5⟩) (by assumption) ?restq5
    case hyq5=>intro w9 hSw;(try dsimp only at hSw);go_simp;all_goals with_reducible rfl
    try simp only[Act.put,SS]
    refine wpAnyH_take (i:=6) (v:=?vq6) (held_at (held_s (held_s (held_s (held_s (held_s (held_s held_z))))))) (by kernel_rfl) (by kernel_rfl) (by kernel_rfl) (fun _ _ _ h=>h) (Or.inl ⟨by rfl,?hyq6⟩) (by assumption) ?restq6
    case hyq6=>intro w9 hSw;(try dsimp only at hSw);go_simp;all_goals with_reducible rfl
    try simp only[Act.put,SS]
    refine wpAnyH_take (i:=7) (v:=?vq7) (held_at (held_s (held_s (held_s (held_s (held_s (held_s (held_s held_z)))))))) (by kernel_rfl) (by kernel_rfl) (by kernel_rfl) (fun _ _ _ h=>h) (Or.inl ⟨by rfl,?hyq7⟩) (by assumption) ?restq7
    case hyq7=>intro w9 hSw;(try dsimp only at hSw);go_simp;all_goals with_reducible rfl
    try simp only[Act.put,SS]
    refine wpAnyH_take (i:=8) (v:=?vq8) (held_at (held_s (held_s (held_s (held_s (held_s (held_s (held_s (held_s held_z))))))))) (by kernel_rfl) (by kernel_rfl) (by kernel_rfl) (fun _ _ _ h=>h) (Or.inl ⟨by rfl,?hyq8⟩) (by assumption) ?restq8
    case hyq8=>intro w9 hSw;(try dsimp only at hSw);go_simp;all_goals with_reducible rfl
    try simp only[Act.put,SS]
    refine wpAnyH_take (i:=9) (v:=?vq9) (held_at (held_s (held_s (held_s (held_s (held_s (held_s (held_s (held_s (held_s held_z)))))))))) (by kernel_rfl) (by kernel_rfl) (by kernel_rfl) (fun _ _ _ h=>h) (Or.inl ⟨by rfl,?hyq9⟩) (by assumption) ?restq9
    case hyq9=>intro w9 hSw;(try dsimp only at hSw);go_simp;all_goals with_reducible rfl
    try simp only[Act.put,SS]
    refine wpAnyH_take (i:=10) (v:=?vq10) (held_at (held_s (held_s (held_s (held_s (held_s (held_s (held_s (held_s (held_s (held_s held_z))))))))))) (by kernel_rfl) (by kernel_rfl) (by kernel_rfl) (fun _ _ _ h=>h) (Or.inl ⟨by rfl,?hyq10⟩) (by assumption) ?restq10
    case hyq10=>intro w9 hSw;(try dsimp only at hSw);go_simp;all_goals with_reducible rfl
    try simp only[Act.put,SS]
    refine wpAnyH_take (i:=11) (v:=?vq11) (held_at (held_s (held_s (held_s (held_s (held_s (held_s (held_s (held_s (held_s (held_s (held_s held_z)))))))))))) (by kernel_rfl) (by kernel_rfl) (by kernel_rfl) (fun _ _ _ h=>h) (Or.inl ⟨by rfl,?hyq11⟩) (by assumption) ?restq11
    case hyq11=>intro w9 hSw;(try dsimp only at hSw);go_simp;all_goals with_reducible rfl
    try simp only[Act.put,SS]
    refine wpAnyH_take (i:=12) (v:=?vq12) (held_at (held_s (held_s (held_s (held_s (held_s (held_s (held_s (held_s (held_s (held_s (held_s (held_s held_z))))))))))))) (by kernel_rfl) (by kernel_rfl) (by kernel_rfl) (fun _ _ _ h=>h) (Or.inl ⟨by rfl,?hyq12⟩) (by assumption) ?restq12
    case hyq12=>intro w9 hSw;(try dsimp only at hSw);go_simp;all_goals with_reducible rfl
    try simp only[Act.put,SS]
    refine wpAnyH_take (i:=13) (v:=?vq13) (held_at (held_s (held_s (held_s (held_s (held_s (held_s (held_s (held_s (held_s (held_s (held_s (held_s (held_s held_z)))))))))))))) (by kernel_rfl) (by kernel_rfl) (by kernel_rfl) (fun _ _ _ h=>h) (Or.inl ⟨by rfl,?hyq13⟩) (by assumption) ?restq13
    case hyq13=>intro w9 hSw;(try dsimp only at hSw);go_simp;all_goals with_reducible rfl
    try simp only[Act.put,SS]
    refine wpAnyH_take (i:=14) (v:=?vq14) (held_at (held_s (held_s (held_s (held_s (held_s (held_s (held_s (held_s (held_s (held_s (held_s (held_s (held_s (held_s held_z))))))))))))))) (by kernel_rfl) (by kernel_rfl) (by kernel_rfl) (fun _ _ _ h=>h) (Or.inl ⟨by rfl,?hyq14⟩) (by assumption) ?restq14
    case hyq14=>intro w9 hSw;(try dsimp only at hSw);go_simp;all_goals with_reducible rfl
    try simp only[Act.put,SS]
    refine wpAnyH_take (i:=15) (v:=?vq15) (held_at (held_s (held_s (held_s (held_s (held_s (held_s (held_s (held_s (held_s (held_s (held_s (held_s (held_s (held_s (held_s held_z)))))))))))))))) (by kernel_rfl) (by kernel_rfl) (by kernel_rfl) (fun _ _ _ h=>h) (Or.inl ⟨by rfl,?hyq15⟩) (by assumption) ?restq15
    case hyq15=>intro w9 hSw;(try dsimp only at hSw);go_simp;all_goals with_reducible rfl
    try simp only[Act.put,SS]
    refine wpAnyH_take (i:=16) (v:=?vq16) (held_at (held_s (held_s (held_s (held_s (held_s (held_s (held_s (held_s (held_s (held_s (held_s (held_s (held_s (held_s (held_s (held_s held_z))))))))))))))))) (by kernel_rfl) (by kernel_rfl) (by kernel_rfl) (fun _ _ _ h=>h) (Or.inl ⟨by rfl,?hyq16⟩) (by assumption) ?restq16
    case hyq16=>intro w9 hSw;(try dsimp only at hSw);go_simp;all_goals with_reducible rfl
    try simp only[Act.put,SS]
    refine wpAnyH_take (i:=17) (v:=?vq17) (held_at (held_s (held_s (held_s (held_s (held_s (held_s (held_s (held_s (held_s (held_s (held_s (held_s (held_s (held_s (held_s (held_s (held_s held_z)))))))))))))))))) (by kernel_rfl) (by kernel_rfl) (by kernel_rfl) (fun _ _ _ h=>h) (Or.inl ⟨by rfl,?hyq17⟩) (by assumption) ?restq17
    case hyq17=>intro w9 hSw;(try dsimp only at hSw);go_simp;all_goals with_reducible rfl
    try simp only[Act.put,SS]
    refine wpAnyH_take (i:=18) (v:=?vq18) (held_at (held_s (held_s (held_s (held_s (held_s (held_s (held_s (held_s (held_s (held_s (held_s (held_s (held_s (held_s (held_s (held_s (held_s (held_s held_z))))))))))))))))))) (by kernel_rfl) (by kernel_rfl) (by kernel_rfl) (fun _ _ _ h=>h) (Or.inl ⟨by rfl,?hyq18⟩) (by assumption) ?restq18
    case hyq18=>intro w9 hSw;(try dsimp only at hSw);go_simp;all_goals with_reducible rfl
    try simp only[Act.put,SS]
    refine wpAnyH_take (i:=19) (v:=?vq19) (held_at (held_s (held_s (held_s (held_s (held_s (held_s (held_s (held_s (held_s (held_s (held_s (held_s (held_s (held_s (held_s (held_s (held_s (held_s (held_s held_z)))))))))))))))))))) (by kernel_rfl) (by kernel_rfl) (by kernel_rfl) (fun _ _ _ h=>h) (Or.inl ⟨by rfl,?hyq19⟩) (by assumption) ?restq19
    case hyq19=>intro w9 hSw;(try dsimp only at hSw);go_simp;all_goals with_reducible rfl
    try simp only[Act.put,SS]
    refine wpAnyH_take (i:=20) (v:=?vq20) (held_at (held_s (held_s (held_s (held_s (held_s (held_s (held_s (held_s (held_s (held_s (held_s (held_s (held_s (held_s (held_s (held_s (held_s (held_s (held_s (held_s held_z))))))))))))))))))))) (by kernel_rfl) (by kernel_rfl) (by kernel_rfl) (fun _ _ _ h=>h) (Or.inl ⟨by rfl,?hyq20⟩) (by assumption) ?restq20
    case hyq20=>intro w9 hSw;(try dsimp only at hSw);go_simp;all_goals with_reducible rfl
    try simp only[Act.put,SS]
    refine wpAnyH_take (i:=21) (v:=?vq21) (held_at (held_s (held_s (held_s (held_s (held_s (held_s (held_s (held_s (held_s (held_s (held_s (held_s (held_s (held_s (held_s (held_s (held_s (held_s (held_s (held_s (held_s held_z)))))))))))))))))))))) (by kernel_rfl) (by kernel_rfl) (by kernel_rfl) (fun _ _ _ h=>h) (Or.inl ⟨by rfl,?hyq21⟩) (by assumption) ?restq21
    case hyq21=>intro w9 hSw;(try dsimp only at hSw);go_simp;all_goals with_reducible rfl
    try simp only[Act.put,SS]
    refine wpAnyH_ready (rs:=[22]) (by kernel_rfl) (by simp) ?_;refine AllReadyH.cons (held_at (held_s (held_s (held_s (held_s (held_s (held_s (held_s (held_s (held_s (held_s (held_s (held_s (held_s (held_s (held_s (held_s (held_s (held_s (held_s (held_s (held_s (held_s held_z))))))))))))))))))))))) (fun K hK=>?_) AllReadyH.nil;go_simp
    go_at_call 68;(with_reducible refine(HS2.out _ G).mono ?_);rintro e w' ⟨rfl,F⟩;replace G:=G.trans F
    try go_wp2_with fail
    refine hK.out _ _ ?_ (fun hHeld=>?_)
    ·exact HCL.out _ G
    clear hK K;try simp only[Act.put,SS]
    refine wpAnyH_take (i:=23) (v:=?vq23) (held_at (held_s (held_s (held_s (held_s (held_s (held_s (held_s (held_s (held_s (held_s (held_s (held_s (held_s (held_s (held_s (held_s (held_s (held_s (held_s (held_s (held_s (held_s (held_s held_z)))))))))))))))))))))))) (by kernel_rfl) (by kernel_rfl) (by kernel_rfl) (fun _ _ _ h=>h) (Or.inl ⟨by rfl,?hyq23⟩) (by assumption) ?restq23
    case hyq23=>intro w9 hSw;(try dsimp only at hSw);go_simp;all_goals with_reducible rfl
    try simp only[Act.put,SS]
    refine wpAnyH_take (i:=24) (v:=?vq24) (held_at (held_s (held_s (held_s (held_s (held_s (held_s (held_s (held_s (held_s (held_s (held_s (held_s (held_s (held_s (held_s (held_s (held_s (held_s (held_s (held_s (held_s (held_s (held_s (held_s held_z))))))))))))))))))))))))) (by kernel_rfl) (by kernel_rfl) (by kernel_rfl) (fun _ _ _ h=>h) (Or.inl ⟨by rfl,?hyq24⟩) (by assumption) ?restq24
    case hyq24=>intro w9 hSw;(try dsimp only at hSw);go_simp;all_goals with_reducible rfl
    try simp only[Act.put,SS]
    refine wpAnyH_take (i:=25) (v:=?vq25) (held_at (held_s (held_s (held_s (held_s (held_s (held_s (held_s (held_s (held_s (held_s (held_s (held_s (held_s (held_s (held_s (held_s (held_s (held_s (held_s (held_s (held_s (held_s (held_s (held_s (held_s held_z)))))))))))))))))))))))))) (by kernel_rfl) (by kernel_rfl) (by kernel_rfl) (fun _ _ _ h=>h) (Or.inl ⟨by rfl,?hyq25⟩) (by assumption) ?restq25
    case hyq25=>intro w9 hSw;(try dsimp only at hSw);go_simp;all_goals with_reducible rfl
    try simp only[Act.put,SS]
    refine wpAnyH_take (i:=26) (v:=undef) (held_at (held_s (held_s (held_s (held_s (held_s (held_s (held_s (held_s (held_s (held_s (held_s (held_s (held_s (held_s (held_s (held_s (held_s (held_s (held_s (held_s (held_s (held_s (held_s (held_s (held_s (held_s held_z))))))))))))))))))))))))))) (by kernel_rfl) (by kernel_rfl) (by kernel_rfl) (fun _ _ _ h=>h) (Or.inr ⟨by rfl,rfl⟩) (by assumption) ?_;try simp only[Act.put,SS]
    refine wpAnyH_take (i:=27) (v:=undef) (held_at (held_s (held_s (held_s (held_s (held_s (held_s (held_s (held_s (held_s (held_s (held_s (held_s (held_s (held_s (held_s (held_s (held_s (held_s (held_s (held_s (held_s (held_s (held_s (held_s (held_s (held_s (held_s held_z)))))))))))))))))))))))))))) (by kernel_rfl) (by kernel_rfl) (by kernel_rfl) (fun _ _ _ h=>h) (Or.inr ⟨by rfl,rfl⟩) (by assumption) ?_;try simp only[Act.put,SS]
    refine wpAnyH_take (i:=28) (v:=undef) (held_at (held_s (held_s (held_s (held_s (held_s (held_s (held_s (held_s (held_s (held_s (held_s (held_s (held_s (held_s (held_s (held_s (held_s (held_s (held_s (held_s (held_s (held_s (held_s (held_s (held_s (held_s (held_s (held_s held_z))))))))))))))))))))))))))))) (by kernel_rfl) (by kernel_rfl) (by kernel_rfl) (fun _ _ _ h=>h) (Or.inr ⟨by rfl,rfl⟩) (by assumption) ?_;try simp only[Act.put,SS]
    refine wpAnyH_take (i:=29) (v:=undef) (held_at (held_s (held_s (held_s (held_s (held_s (held_s (held_s (held_s (held_s (held_s (held_s (held_s (held_s (held_s (held_s (held_s (held_s (held_s (held_s (held_s (held_s (held_s (held_s (held_s (held_s (held_s (held_s (held_s (held_s held_z)))))))))))))))))))))))))))))) (by kernel_rfl) (by kernel_rfl) (by kernel_rfl) (fun _ _ _ h=>h) (Or.inr ⟨by rfl,rfl⟩) (by assumption) ?_;try simp only[Act.put,SS]
    refine wpAnyH_take (i:=30) (v:=undef) (held_at (held_s (held_s (held_s (held_s (held_s (held_s (held_s (held_s (held_s (held_s (held_s (held_s (held_s (held_s (held_s (held_s (held_s (held_s (held_s (held_s (held_s (held_s (held_s (held_s (held_s (held_s (held_s (held_s (held_s (held_s held_z))))))))))))))))))))))))))))))) (by kernel_rfl) (by kernel_rfl) (by kernel_rfl) (fun _ _ _ h=>h) (Or.inr ⟨by rfl,rfl⟩) (by assumption) ?_;try simp only[Act.put,SS]
    refine wpAnyH_take (i:=31) (v:=undef) (held_at (held_s (held_s (held_s (held_s (held_s (held_s (held_s (held_s (held_s (held_s (held_s (held_s (held_s (held_s (held_s (held_s (held_s (held_s (held_s (held_s (held_s (held_s (held_s (held_s (held_s (held_s (held_s (held_s (held_s (held_s (held_s held_z)))))))))))))))))))))))))))))))) (by kernel_rfl) (by kernel_rfl) (by kernel_rfl) (fun _ _ _ h=>h) (Or.inr ⟨by rfl,rfl⟩) (by assumption) ?_;try simp only[Act.put,SS]
    refine wpAnyH_take (i:=32) (v:=undef) (held_at (held_s (held_s (held_s (held_s (held_s (held_s (held_s (held_s (held_s (held_s (held_s (held_s (held_s (held_s (held_s (held_s (held_s (held_s (held_s (held_s (held_s (held_s (held_s (held_s (held_s (held_s (held_s (held_s (held_s (held_s (held_s (held_s held_z))))))))))))))))))))))))))))))))) (by kernel_rfl) (by kernel_rfl) (by kernel_rfl) (fun _ _ _ h=>h) (Or.inr ⟨by rfl,rfl⟩) (by assumption) ?_;try simp only[Act.put,SS]
    refine wpAnyH_take (i:=33) (v:=undef) (held_at (held_s (held_s (held_s (held_s (held_s (held_s (held_s (held_s (held_s (held_s (held_s (held_s (held_s (held_s (held_s (held_s (held_s (held_s (held_s (held_s (held_s (held_s (held_s (held_s (held_s (held_s (held_s (held_s (held_s (held_s (held_s (held_s (held_s held_z)))))))))))))))))))))))))))))))))) (by kernel_rfl) (by kernel_rfl) (by kernel_rfl) (fun _ _ _ h=>h) (Or.inr ⟨by rfl,rfl⟩) (by assumption) ?_;try simp only[Act.put,SS]
    refine wpAnyH_take (i:=34) (v:=undef) (held_at (held_s (held_s (held_s (held_s (held_s (held_s (held_s (held_s (held_s (held_s (held_s (held_s (held_s (held_s (held_s (held_s (held_s (held_s (held_s (held_s (held_s (held_s (held_s (held_s (held_s (held_s (held_s (held_s (held_s (held_s (held_s (held_s (held_s (held_s held_z))))))))))))))))))))))))))))))))))) (by kernel_rfl) (by kernel_rfl) (by kernel_rfl) (fun _ _ _ h=>h) (Or.inr ⟨by rfl,rfl⟩) (by assumption) ?_;try simp only[Act.put,SS]
    refine wpAnyH_take (i:=35) (v:=undef) (held_at (held_s (held_s (held_s (held_s (held_s (held_s (held_s (held_s (held_s (held_s (held_s (held_s (held_s (held_s (held_s (held_s (held_s (held_s (held_s (held_s (held_s (held_s (held_s (held_s (held_s (held_s (held_s (held_s (held_s (held_s (held_s (held_s (held_s (held_s (held_s held_z)))))))))))))))))))))))))))))))))))) (by kernel_rfl) (by kernel_rfl) (by kernel_rfl) (fun _ _ _ h=>h) (Or.inr ⟨by rfl,rfl⟩) (by assumption) ?_;try simp only[Act.put,SS]
    refine wpAnyH_take (i:=36) (v:=undef) (held_at (held_s (held_s (held_s (held_s (held_s (held_s (held_s (held_s (held_s (held_s (held_s (held_s (held_s (held_s (held_s (held_s (held_s (held_s (held_s (held_s (held_s (held_s (held_s (held_s (held_s (held_s (held_s (held_s (held_s (held_s (held_s (held_s (held_s (held_s (held_s (held_s held_z))))))))))))))))))))))))))))))))))))) (by kernel_rfl) (by kernel_rfl) (by kernel_rfl) (fun _ _ _ h=>h) (Or.inr ⟨by rfl,rfl⟩) (by assumption) ?_;try simp only[Act.put,SS]
    refine wpAnyH_take (i:=37) (v:=undef) (held_at (held_s (held_s (held_s (held_s (held_s (held_s (held_s (held_s (held_s (held_s (held_s (held_s (held_s (held_s (held_s (held_s (held_s (held_s (held_s (held_s (held_s (held_s (held_s (held_s (held_s (held_s (held_s (held_s (held_s (held_s (held_s (held_s (held_s (held_s (held_s (held_s (held_s held_z)))))))))))))))))))))))))))))))))))))) (by kernel_rfl) (by kernel_rfl) (by kernel_rfl) (fun _ _ _ h=>h) (Or.inr ⟨by rfl,rfl⟩) (by assumption) ?_;try simp only[Act.put,SS]
    refine wpAnyH_take (i:=38) (v:=?vq38) (held_at (held_s (held_s (held_s (held_s (held_s (held_s (held_s (held_s (held_s (held_s (held_s (held_s (held_s (held_s (held_s (held_s (held_s (held_s (held_s (held_s (held_s (held_s (held_s (held_s (held_s (held_s (held_s (held_s (held_s (held_s (held_s (held_s (held_s (held_s (held_s (held_s (held_s (held_s held_z))))))))))))))))))))))))))))))))))))))) (by kernel_rfl) (by kernel_rfl) (by kernel_rfl) (fun _ _ _ h=>h) (Or.inl ⟨by rfl,?hyq38⟩) (by assumption) ?restq38
    case hyq38=>intro w9 hSw;(try dsimp only at hSw);go_simp;all_goals with_reducible rfl
    try simp only[Act.put,SS]
    refine wpAnyH_done (by kernel_rfl) ?_ _;all_goals
     have HG2:=Hi (HF.out.trans G);go_wp2_with fail
     go_ret;exact⟨by rw[HD.out];rfl,HG2.out⟩
   ·have s1:(x.k==y.k)=true:=by rw[hk];simp
    have s2:(x.k != y.k)=false:=by rw[hk];simp
    have hs2:=HS.out;simp only[decide_eq_true hb]at hs2
    have HS2:=Hi hs2;clear hs2;have hnc:x.n=y.n∨x.n≠y.n:=Classical.em _;rcases hnc with hn|hn
    case' inl=>
     have hs2:=HN.out;simp only[decide_eq_true hn]at hs2
     have HN2:=Hi hs2;clear hs2;have HNX:=Hi (show ∀ k:Nat,k<j+1→a[k]? = b[k]? from fun k hk2=>by
      rcases Nat.lt_or_ge k j with h|h
      ·exact HAL.out k h
      ·obtain rfl:k=j:=by omega
       rw[HXY.out.1,HXY.out.2,gen_eq.2 ⟨hk,hb,hn⟩])
    case' inr=>
     have hs2:=HN.out;simp only[decide_eq_false hn]at hs2
     have HN2:=Hi hs2;clear hs2;have HD:=Hi (BAD.out (fun e=>hn (by rw[e])))
    all_goals
     clear hk hb hn HS HN F
    case inl=>
     go_upto_region 6 with fail
     have G:Fz wr wr.drew:=(Fr.refl wr).drew;replace e0:=G.cell e0 (fun h=>h);replace e1:=G.cell e1 (fun h=>h);replace e2:=G.cell e2 (fun h=>h);replace g0:=G.cell g0 (fun h=>h);replace g1:=G.cell g1 (fun h=>h);replace g2:=G.cell g2 (fun h=>h)
     go_region_held3 (fun w'=>w'.cell? ⟨ba,oa+j*3,none⟩=some (.int .i64 x.k)∧w'.cell? ⟨ba,oa+j*3+1,none⟩=some (.slice ab x.b.length cab)∧w'.cell? ⟨ba,oa+j*3+2,none⟩=some (.slice an x.n.length can)∧w'.cell? ⟨bb,ob+j*3,none⟩=some (.int .i64 y.k)∧w'.cell? ⟨bb,ob+j*3+1,none⟩=some (.slice bb2 y.b.length cbb)∧w'.cell? ⟨bb,ob+j*3+2,none⟩=some (.slice bn y.n.length cbn)) (exact⟨e0,e1,e2,g0,g1,g2⟩) (first
      |(go_at_call 68;refine(HS2.out _ G).mono ?_;rintro e w' ⟨rfl,F⟩;replace e0:=F.cell e0 (fun h=>h);replace e1:=F.cell e1 (fun h=>h);replace e2:=F.cell e2 (fun h=>h);replace g0:=F.cell g0 (fun h=>h);replace g1:=F.cell g1 (fun h=>h);replace g2:=F.cell g2 (fun h=>h);replace G:=G.trans F;clear F)
      |(go_at_call 28;refine(HN2.out _ G).mono ?_;rintro e w' ⟨rfl,F⟩;replace e0:=F.cell e0 (fun h=>h);replace e1:=F.cell e1 (fun h=>h);replace e2:=F.cell e2 (fun h=>h);replace g0:=F.cell g0 (fun h=>h);replace g1:=F.cell g1 (fun h=>h);replace g2:=F.cell g2 (fun h=>h);replace G:=G.trans F;clear F))
     all_goals
      have HG2:=Hi (HF.out.trans G);go_wp2_with fail
      go_roundg (a.length-(j+1))
      case measure=>rw[HG.out];omega
      case rel=>exact⟨j+1,rfl,by omega,by go_num,HNX.out,HG2.out⟩
    case inr=>
     go_upto_region 6 with fail
     have G:Fz wr wr.drew:=(Fr.refl wr).drew;replace e0:=G.cell e0 (fun h=>h);replace e1:=G.cell e1 (fun h=>h);replace e2:=G.cell e2 (fun h=>h);replace g0:=G.cell g0 (fun h=>h);replace g1:=G.cell g1 (fun h=>h);replace g2:=G.cell g2 (fun h=>h)
     go_region_held3 (fun w'=>w'.cell? ⟨ba,oa+j*3,none⟩=some (.int .i64 x.k)∧w'.cell? ⟨ba,oa+j*3+1,none⟩=some (.slice ab x.b.length cab)∧w'.cell? ⟨ba,oa+j*3+2,none⟩=some (.slice an x.n.length can)∧w'.cell? ⟨bb,ob+j*3,none⟩=some (.int .i64 y.k)∧w'.cell? ⟨bb,ob+j*3+1,none⟩=some (.slice bb2 y.b.length cbb)∧w'.cell? ⟨bb,ob+j*3+2,none⟩=some (.slice bn y.n.length cbn)) (exact⟨e0,e1,e2,g0,g1,g2⟩) (first
      |(go_at_call 68;refine(HS2.out _ G).mono ?_;rintro e w' ⟨rfl,F⟩;replace e0:=F.cell e0 (fun h=>h);replace e1:=F.cell e1 (fun h=>h);replace e2:=F.cell e2 (fun h=>h);replace g0:=F.cell g0 (fun h=>h);replace g1:=F.cell g1 (fun h=>h);replace g2:=F.cell g2 (fun h=>h);replace G:=G.trans F;clear F)
      |(go_at_call 28;refine(HN2.out _ G).mono ?_;rintro e w' ⟨rfl,F⟩;replace e0:=F.cell e0 (fun h=>h);replace e1:=F.cell e1 (fun h=>h);replace e2:=F.cell e2 (fun h=>h);replace g0:=F.cell g0 (fun h=>h);replace g1:=F.cell g1 (fun h=>h);replace g2:=F.cell g2 (fun h=>h);replace G:=G.trans F;clear F))
     all_goals
      have HG2:=Hi (HF.out.trans G);go_wp2_with fail
      go_ret;exact⟨by rw[HD.out];rfl,HG2.out⟩
  ·have hall:=HAL.out
   have HD:=Hi (decide_eq_true (list_like HLEN.out (fun i hi=>hall i (by omega))));clear hall;go_wp2_with fail
   go_ret;exact⟨by rw[HD.out];rfl,F⟩
theorem r16ints_any (v u:Value)(a:List Int)(w:World)(ha:Ints w v a)(hb:Ints w u a) :
  Calls Tryz.prog 63 #[v,u] w fun e w'=>e=.returned (.bool true)∧Fz w w':=by
 obtain⟨pa,ca,rfl,h1,h2,h3⟩:=Ints.form ha
 obtain⟨pb,cb,rfl,-,-,h4⟩:=Ints.form hb
 have HA:=Hi h3;have HB:=Hi h4;have hal:a.length≤9223372036854775807:=by unfold maxLen at h2;omega
 clear ha hb h1 h2 h3 h4;go_enter Tryz.func63,Tryz.ntmps63
 go_wp2_with fail
 go_loopg [5] a.length (fun g i wr=>∃ j:Nat,g=a.length-j∧j≤a.length∧i=.int .i64 j∧Fz w wr)
 case atStart=>exact⟨0,rfl,Nat.zero_le _,rfl,Fr.refl _⟩
 case round=>
  obtain⟨j,hg,hj,rfl,F⟩:=hrel
  have HG:=Hi hg;have HF:=Hi F;clear hg;by_cases hjl:j<a.length
  ·obtain⟨x,hx⟩:∃ x,a[j]? = some x:=⟨_,List.getElem?_eq_getElem hjl⟩
   obtain⟨b1,o1,rfl,hy1⟩:=HA.out (by omega)
   obtain⟨b2,o2,rfl,hy2⟩:=HB.out (by omega)
   have e1:=F.cell (hy1 j x hx) (fun h=>h);have e2:=F.cell (hy2 j x hx) (fun h=>h);have r1:(0:Int)≤(j:Int):=by omega
   have r2:(j:Int)<(a.length:Int):=by omega
   clear hx hy1 hy2 F;go_upto_region 6 with fail
   go_quiet (fail)
   go_wp2_with fail
   go_roundg (a.length-(j+1))
   case measure=>rw[HG.out];omega
   case rel=>exact⟨j+1,rfl,by omega,by go_num,HF.out.drewN nq⟩
  ·obtain rfl:j=a.length:=by omega
   clear hjl;go_wp2_with fail
   go_ret;exact⟨rfl,F⟩
theorem likeWhere_self (vn vs un us:Value)(p:PointD)(w:World)(h1:Gens w vn p.ns)(h2:Attrs w vs p.st)(h3:Gens w un p.ns)(h4:Attrs w us p.st) :
  Calls Tryz.prog 62 #[.agg #[.bool p.has,vn,vs],.agg #[.bool p.has,un,us]] w fun e w'=>e=.returned (.bool true)∧Fz w w':=by
 obtain⟨a1,c1,rfl⟩:=Gens.shape h1
 obtain⟨b1,d1,rfl⟩:=Gens.shape h3
 have h2':=h2;have h4':=h4;obtain⟨a2,c2,rfl,-⟩:=h2'
 obtain⟨b2,d2,rfl,-⟩:=h4'
 obtain⟨z,hz⟩:∃ z,z=w.heap.size:=⟨_,rfl⟩
 have HZ:=Hi hz;have F0:Fz w ((w.alloc (.cells #[.bool p.has,.slice a1 p.ns.length c1,.slice a2 p.st.length c2] 26)).alloc (.cells #[.bool p.has,.slice b1 p.ns.length d1,.slice b2 p.st.length d2] 26)):=((Fr.refl w).alloc _).alloc _;have B:=(Blk.new w 26 #[.bool p.has,.slice a1 p.ns.length c1,.slice a2 p.st.length c2]).alloc (.cells #[.bool p.has,.slice b1 p.ns.length d1,.slice b2 p.st.length d2] 26);have D:=Blk.new (w.alloc (.cells #[.bool p.has,.slice a1 p.ns.length c1,.slice a2 p.st.length c2] 26)) 26 #[.bool p.has,.slice b1 p.ns.length d1,.slice b2 p.st.length d2]
 rw[World.size_alloc,←hz]at D
 rw[←hz]at B
 have hs0:w.heap.size+2=((w.alloc (.cells #[.bool p.has,.slice a1 p.ns.length c1,.slice a2 p.st.length c2] 26)).alloc (.cells #[.bool p.has,.slice b1 p.ns.length d1,.slice b2 p.st.length d2] 26)).heap.size:=by rw[World.size_alloc,World.size_alloc]
 have HF0:=Hi F0;have HO:=Hi (fun W (F:Fz w W)=>r15Like_any _ _ p.ns p.ns W (Gens.old h1 F) (Gens.old h3 F));simp only[decide_true]at HO
 have HA2:=Hi h2;have HA4:=Hi h4;have HB:=Hi B;have HD:=Hi D;have HBB:=Hi (beq_self_eq_true p.has);clear hz F0 hs0 h1 h2 h3 h4 B D;go_enter Tryz.func62,Tryz.ntmps62
 go_upto_region 1 with fail
 rw[←HZ.out]
 generalize ((w.alloc (.cells #[.bool p.has,.slice a1 p.ns.length c1,.slice a2 p.st.length c2] 26)).alloc (.cells #[.bool p.has,.slice b1 p.ns.length d1,.slice b2 p.st.length d2] 26))=w1 at *
 have k0:=HB.out.cell 0;have k1:=HB.out.cell 1;have k2:=HB.out.cell 2;have l0:=HD.out.cell 0;have l1:=HD.out.cell 1;have l2:=HD.out.cell 2;have hbb:=HBB.out;simp only[SG]at k0 k1 k2 l0 l1 l2
 go_wp2_with fail
 refine(HO.out _ HF0.out).mono ?_
 rintro e w2 ⟨rfl,F2⟩;clear k0 k1 k2 l0 l1 l2;have HF2:=Hi (HF0.out.trans F2);have k0:=(HB.out.fr F2 (fun h=>h)).cell 0;have k1:=(HB.out.fr F2 (fun h=>h)).cell 1;have k2:=(HB.out.fr F2 (fun h=>h)).cell 2;have l0:=(HD.out.fr F2 (fun h=>h)).cell 0;have l1:=(HD.out.fr F2 (fun h=>h)).cell 1;have l2:=(HD.out.fr F2 (fun h=>h)).cell 2;simp only[SG]at k0 k1 k2 l0 l1 l2
 have o1:=fun j v (h:w2.cell? ⟨z,j,none⟩=some v)=>((Fr.refl (S:=fun _=>False) w2).alloc (.cells #[.slice a2 p.st.length c2] 24)).cell h (fun h=>h)
 have o2:=fun j v (h:w2.cell? ⟨z+1,j,none⟩=some v)=>((Fr.refl (S:=fun _=>False) w2).alloc (.cells #[.slice a2 p.st.length c2] 24)).cell h (fun h=>h)
 have g2:=o1 2 _ k2;have g3:=o2 2 _ l2;clear F2 o1 o2;go_wp2_with fail
 have hs:(w2.alloc (.cells #[.slice a2 p.st.length c2] 24)).heap.size=w2.heap.size+1:=World.size_alloc _ _;have B1:=(Blk.new w2 24 #[.slice a2 p.st.length c2]).alloc (.cells #[.slice b2 p.st.length d2] 24);have B2:=Blk.new (w2.alloc (.cells #[.slice a2 p.st.length c2] 24)) 24 #[.slice b2 p.st.length d2];rw[hs]at B2
 have F3:Fz w2 ((w2.alloc (.cells #[.slice a2 p.st.length c2] 24)).alloc (.cells #[.slice b2 p.st.length d2] 24)):=((Fr.refl w2).alloc _).alloc _;have n1:NameAt _ _ [p.st]:=LAt.name (lat_one (us:=[.slice a2 p.st.length c2]) B1 rfl ⟨_,rfl,HA2.out.old (HF2.out.trans F3)⟩);have n2:NameAt _ _ [p.st]:=LAt.name (lat_one (us:=[.slice b2 p.st.length d2]) B2 rfl ⟨_,rfl,HA4.out.old (HF2.out.trans F3)⟩);have HL:=r14Like_any _ _ [p.st] [p.st] _ n1 n2;simp only[decide_true]at HL
 have HF3:=Hi (HF2.out.trans F3);refine HL.mono ?_;clear HL n1 n2 B1 B2 F3 hs;rintro e w4 ⟨rfl,F4⟩;have HF4:=Hi (HF3.out.trans F4);clear F4;go_wp2_with fail
 go_ret;exact⟨rfl,HF4.out⟩
theorem likePoint_self (vn vs vr vi un us ur ui:Value)(p:PointD)(w:World)(h:PdIn w vn vs vr vi p)(hu:PdIn w un us ur ui p) :
  Calls Tryz.prog 26 #[.agg #[.bool p.has,vn,vs,vr,vi],.agg #[.bool p.has,un,us,ur,ui]] w fun e w'=>e=.returned (.bool true)∧Fz w w':=by
 obtain⟨a1,c1,a2,c2,a3,c3,a4,c4,rfl,rfl,rfl,rfl⟩:=h.form
 obtain⟨b1,d1,b2,d2,b3,d3,b4,d4,rfl,rfl,rfl,rfl⟩:=hu.form
 obtain⟨z,hz⟩:∃ z,z=w.heap.size:=⟨_,rfl⟩
 have HZ:=Hi hz;have F0:Fz w ((w.alloc (.cells #[.bool p.has,.slice a1 p.ns.length c1,.slice a2 p.st.length c2,.slice a3 p.rs.length c3,.slice a4 p.is.length c4] 29)).alloc (.cells #[.bool p.has,.slice b1 p.ns.length d1,.slice b2 p.st.length d2,.slice b3 p.rs.length d3,.slice b4 p.is.length d4] 29)):=((Fr.refl w).alloc _).alloc _
 have B:=(Blk.new w 29 #[.bool p.has,.slice a1 p.ns.length c1,.slice a2 p.st.length c2,.slice a3 p.rs.length c3,.slice a4 p.is.length c4]).alloc (.cells #[.bool p.has,.slice b1 p.ns.length d1,.slice b2 p.st.length d2,.slice b3 p.rs.length d3,.slice b4 p.is.length d4] 29);have D:=Blk.new (w.alloc (.cells #[.bool p.has,.slice a1 p.ns.length c1,.slice a2 p.st.length c2,.slice a3 p.rs.length c3,.slice a4 p.is.length c4] 29)) 29 #[.bool p.has,.slice b1 p.ns.length d1,.slice b2 p.st.length d2,.slice b3 p.rs.length d3,.slice b4 p.is.length d4];rw[World.size_alloc,←hz]at D
 rw[←hz]at B
 have hs0:w.heap.size+2=((w.alloc (.cells #[.bool p.has,.slice a1 p.ns.length c1,.slice a2 p.st.length c2,.slice a3 p.rs.length c3,.slice a4 p.is.length c4] 29)).alloc (.cells #[.bool p.has,.slice b1 p.ns.length d1,.slice b2 p.st.length d2,.slice b3 p.rs.length d3,.slice b4 p.is.length d4] 29)).heap.size:=by rw[World.size_alloc,World.size_alloc]
 have HF0:=Hi F0;have H1:=Hi (fun W (F:Fz w W)=>likeWhere_self _ _ _ _ p W (Gens.old h.1 F) (h.2.1.old F) (Gens.old hu.1 F) (hu.2.1.old F));have H2:=Hi (fun W (F:Fz w W)=>r16ints_any _ _ p.rs W (h.2.2.1.old F) (hu.2.2.1.old F));have H3:=Hi (fun W (F:Fz w W)=>r15Like_any _ _ p.is p.is W (Gens.old h.2.2.2 F) (Gens.old hu.2.2.2 F));simp only[decide_true]at H3
 have HB:=Hi B;have HD:=Hi D;clear hz F0 hs0 h hu B D;go_enter Tryz.func26,Tryz.ntmps26
 go_upto_region 1 with fail
 rw[←HZ.out]
 generalize ((w.alloc (.cells #[.bool p.has,.slice a1 p.ns.length c1,.slice a2 p.st.length c2,.slice a3 p.rs.length c3,.slice a4 p.is.length c4] 29)).alloc (.cells #[.bool p.has,.slice b1 p.ns.length d1,.slice b2 p.st.length d2,.slice b3 p.rs.length d3,.slice b4 p.is.length d4] 29))=w1 at *
 have k0:=HB.out.cell 0;have k1:=HB.out.cell 1;have k2:=HB.out.cell 2;have k3:=HB.out.cell 3;have k4:=HB.out.cell 4;have l0:=HD.out.cell 0;have l1:=HD.out.cell 1;have l2:=HD.out.cell 2;have l3:=HD.out.cell 3;have l4:=HD.out.cell 4;simp only[SG]at k0 k1 k2 k3 k4 l0 l1 l2 l3 l4
 go_wp2_with fail
 refine(H1.out _ HF0.out).mono ?_
 rintro e w2 ⟨rfl,F2⟩;clear k0 k1 k2 k3 k4 l0 l1 l2 l3 l4;have HF2:=Hi F2;have k0:=(HB.out.fr F2 (fun h=>h)).cell 0;have k1:=(HB.out.fr F2 (fun h=>h)).cell 1;have k2:=(HB.out.fr F2 (fun h=>h)).cell 2;have k3:=(HB.out.fr F2 (fun h=>h)).cell 3;have k4:=(HB.out.fr F2 (fun h=>h)).cell 4;have l0:=(HD.out.fr F2 (fun h=>h)).cell 0;have l1:=(HD.out.fr F2 (fun h=>h)).cell 1;have l2:=(HD.out.fr F2 (fun h=>h)).cell 2;have l3:=(HD.out.fr F2 (fun h=>h)).cell 3;have l4:=(HD.out.fr F2 (fun h=>h)).cell 4;simp only[SG]at k0 k1 k2 k3 k4 l0 l1 l2 l3 l4
 clear F2;go_wp2_with fail
 refine(H2.out _ (HF0.out.trans HF2.out)).mono ?_
 rintro e w3 ⟨rfl,F3⟩;clear k0 k1 k2 k3 k4 l0 l1 l2 l3 l4;have HF3:=Hi (HF2.out.trans F3);have k0:=(HB.out.fr (HF2.out.trans F3) (fun h=>h)).cell 0;have k1:=(HB.out.fr (HF2.out.trans F3) (fun h=>h)).cell 1;have k2:=(HB.out.fr (HF2.out.trans F3) (fun h=>h)).cell 2;have k3:=(HB.out.fr (HF2.out.trans F3) (fun h=>h)).cell 3;have k4:=(HB.out.fr (HF2.out.trans F3) (fun h=>h)).cell 4
 have l0:=(HD.out.fr (HF2.out.trans F3) (fun h=>h)).cell 0;have l1:=(HD.out.fr (HF2.out.trans F3) (fun h=>h)).cell 1;have l2:=(HD.out.fr (HF2.out.trans F3) (fun h=>h)).cell 2;have l3:=(HD.out.fr (HF2.out.trans F3) (fun h=>h)).cell 3;have l4:=(HD.out.fr (HF2.out.trans F3) (fun h=>h)).cell 4;simp only[SG]at k0 k1 k2 k3 k4 l0 l1 l2 l3 l4
 clear F3;go_wp2_with fail
 refine(H3.out _ (HF0.out.trans HF3.out)).mono ?_
 rintro e w4 ⟨rfl,F4⟩;clear k0 k1 k2 k3 k4 l0 l1 l2 l3 l4;have HF4:=Hi (HF0.out.trans (HF3.out.trans F4));clear F4;go_wp2_with fail
 go_ret;exact⟨rfl,HF4.out⟩
theorem r23Points_any (vk va vu vp vf vo vn:Value)(y:ViewD)(n:List (List Part))(w:World)(h:ViewDIn w vk va vu vp vf vo y)(hn:NameAt w vn n) :
  Calls Tryz.prog 24 #[.agg #[vk,va,vu,.bool y.au,.int .i64 y.pa,vp,vf,vo,.bool y.nc],vn] w fun e w'=>(∃ a c,e=.returned (.slice a (refPointsS y.ps n).length c)∧Pds w' (.slice a (refPointsS y.ps n).length c) (refPointsS y.ps n))∧Fz w w':=by
 obtain⟨hv1,hv2,hv3,hv4,hv5,hv6⟩:=h
 obtain⟨k1,l1,rfl,-⟩:=Vals.form hv1
 obtain⟨k2,l2,rfl,-⟩:=Vals.form hv2
 obtain⟨k3,l3,rfl,-⟩:=Ints.form hv3
 obtain⟨k4,l4,rfl⟩:=LAt.shape hv4
 obtain⟨k5,l5,rfl⟩:=LAt.shape hv5
 obtain⟨k6,l6,rfl⟩:=LAt.shape hv6
 obtain⟨kn,ln,rfl⟩:=NameAt.shape hn
 have F0:Fz w (w.alloc (.cells #[.slice k1 y.kid.length l1,.slice k2 y.ak.length l2,.slice k3 y.us.length l3,.bool y.au,.int .i64 y.pa,.slice k4 y.ps.length l4,.slice k5 y.fs.length l5,.slice k6 y.pu.length l6,.bool y.nc] 85)):=(Fr.refl w).alloc _;have HF0:=Hi F0;have HP:=Hi (Pds.old hv4 F0);have HN:=Hi (hn.old F0);clear hv1 hv2 hv3 hv4 hv5 hv6 hn F0;obtain⟨z,hz⟩:∃ z,z=w.heap.size:=⟨_,rfl⟩
 have HZ:=Hi hz;have HB:=Hi (Blk.new w 85 #[.slice k1 y.kid.length l1,.slice k2 y.ak.length l2,.slice k3 y.us.length l3,.bool y.au,.int .i64 y.pa,.slice k4 y.ps.length l4,.slice k5 y.fs.length l5,.slice k6 y.pu.length l6,.bool y.nc]);rw[←hz]at HB
 clear hz;go_enter Tryz.func24,Tryz.ntmps24
 go_upto_region 1 with fail
 rw[←HZ.out]
 generalize (w.alloc (.cells #[.slice k1 y.kid.length l1,.slice k2 y.ak.length l2,.slice k3 y.us.length l3,.bool y.au,.int .i64 y.pa,.slice k4 y.ps.length l4,.slice k5 y.fs.length l5,.slice k6 y.pu.length l6,.bool y.nc] 85))=w1 at *
 have b5:=HB.out.cell 5;simp only[SG]at b5
 by_cases h0:y.ps.length=0
 ·have HS:=Hi (show refPointsS y.ps n=[dirPd n] from if_pos h0)
  have HW:=Hi (refPts_new HN.out);rw[h0]at b5
  clear h0 HP HN;go_wp2_with fail
  go_ret;rw[HS.out]
  have h5:=HW.out;simp only[refW3,refW2,refW1]at h5
  exact⟨⟨_,_,rfl,h5.1⟩,HF0.out.trans h5.2⟩
 have HS:=Hi (show refPointsS y.ps n=y.ps from if_neg h0);have q1:(0:Int)<(y.ps.length:Int):=by omega
 clear h0 HN;go_wp2_with fail
 go_ret;rw[HS.out]
 exact⟨⟨k4,l4,rfl,HP.out⟩,HF0.out⟩
end Go.Proofs.YteidmhkobmddiaaGreatDoor
