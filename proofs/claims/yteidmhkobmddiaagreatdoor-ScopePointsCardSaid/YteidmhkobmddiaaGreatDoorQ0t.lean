/-
  Merged by program: XScW.
-/
import Derived.Test.YteidmhkobmddiaaGreatDoorQ0q
import Derived.Test.YteidmhkobmddiaaGreatDoorQ0r
import Derived.Test.YteidmhkobmddiaaGreatDoorQ0s
set_option linter.unusedSimpArgs false
set_option maxRecDepth 100000
set_option maxHeartbeats 8000000
namespace Go.Proofs.YteidmhkobmddiaaGreatDoor
open Go Go.RowKit Go.Q
theorem pointOf_as (vp vr vi:Value)(p:PointT)(d:PointD)(hd:d=ofPt p)(wb w:World)(h:PtIn wb vp vr vi p)(Fb:Fz wb w)(hsm:smallPt p) :
  Calls Tryz.prog 27 #[.agg #[vp,vr,vi]] w fun e w'=>(∃ a3 c3 a4 c4 a1 c1 a5 c5,e=.returned (.agg #[.bool d.has,.slice a3 d.ns.length c3,.slice a4 d.st.length c4,.slice a1 d.rs.length c1,.slice a5 d.is.length c5])∧Kept (fun W=>PdIn W (.slice a3 d.ns.length c3) (.slice a4 d.st.length c4) (.slice a1 d.rs.length c1) (.slice a5 d.is.length c5) d) (fun k=>wb.heap.size≤k∧k<w.heap.size) w')∧Fz w w':=by
 subst hd;exact pointOf_any vp vr vi p wb w h Fb hsm
theorem likeName_self (v u:Value)(n:List (List Part))(w:World)(h:NameAt w v n)(hu:NameAt w u n) :
  Calls Tryz.prog 28 #[v,u] w fun e w'=>e=.returned (.bool true)∧Fz w w':=by
 have:=r14Like_any v u n n w h hu;simpa only [decide_true] using this
theorem lawCertTo_as (u:Value)(x p:CertT)(hp:p=cutCert x)(wb w:World)(h:CertAt wb u x)(Fb:Fz wb w) :
  Calls Tryz.prog 19 #[u] w fun e w'=>(∃ a1 c1 a2 c2 a3 c3 a4 c4 a5 c5 a6 c6 a7 c7,e=.returned (.agg #[.bool p.below,.slice a1 p.size.length c1,.slice a2 p.iss.length c2,.slice a3 p.sub.length c3,.int .i64 p.t0,.int .i64 p.t1,.slice a4 p.ao.length c4,.slice a5 p.ap.length c5,.slice a6 p.kn.length c6,.slice a7 p.ex.length c7])∧Kept (fun W=>CertIn W p (.slice a1 p.size.length c1) (.slice a2 p.iss.length c2) (.slice a3 p.sub.length c3) (.slice a4 p.ao.length c4) (.slice a5 p.ap.length c5) (.slice a6 p.kn.length c6) (.slice a7 p.ex.length c7)) (fun k=>wb.heap.size≤k∧k<w.heap.size) w')∧Fz w w':=by
 subst hp;exact lawCertTo_any u x wb w h Fb
theorem scWalk_any (u vk va vu vp vf vo:Value)(x:CertT)(y:ViewD)(w:World)(hx:CertAt w u x)(h:ViewDIn w vk va vu vp vf vo y)(hE:Env w) :
  Calls Tryz.prog 5 #[u,.agg #[vk,va,vu,.bool y.au,.int .i64 y.pa,vp,vf,vo,.bool y.nc]] w fun e w'=>e=.returned (.bool true)∧Fz w w':=by
 have hx0:=hx;have hy0:=h;obtain⟨vs,vi,vj,va2,vp2,vk2,ve,rfl,p1,p2,p3,p4,p5,p6,p7⟩:=hx
 obtain⟨x1,y1,rfl,-⟩:=Vals.form p1
 obtain⟨x2,y2,rfl⟩:=NameAt.shape p2
 obtain⟨x3,y3,rfl⟩:=NameAt.shape p3
 obtain⟨x4,y4,rfl,-⟩:=Ints.form p4
 obtain⟨x5,y5,rfl,-⟩:=Vals.form p5
 obtain⟨x6,y6,rfl,-⟩:=Vals.form p6
 obtain⟨x7,y7,rfl⟩:=LAt.shape p7
 obtain⟨hv1,hv2,hv3,hv4,hv5,hv6⟩:=h
 obtain⟨k1,l1,rfl,-⟩:=Vals.form hv1
 obtain⟨k2,l2,rfl,-⟩:=Vals.form hv2
 obtain⟨k3,l3,rfl,-⟩:=Ints.form hv3
 obtain⟨k4,l4,rfl⟩:=LAt.shape hv4
 obtain⟨k5,l5,rfl⟩:=LAt.shape hv5
 obtain⟨k6,l6,rfl⟩:=LAt.shape hv6
 obtain⟨p,hp⟩:∃ p,p=cutCert x:=⟨_,rfl⟩
 obtain⟨q,hq⟩:∃ q,q=cutView y:=⟨_,rfl⟩
 obtain⟨z,hz⟩:∃ z,z=w.heap.size:=⟨_,rfl⟩
 have HZ:=Hi hz;have F0:Fz w ((w.alloc (.cells #[.bool x.below,.slice x1 x.size.length y1,.slice x2 x.iss.length y2,.slice x3 x.sub.length y3,.int .i64 x.t0,.int .i64 x.t1,.slice x4 x.ao.length y4,.slice x5 x.ap.length y5,.slice x6 x.kn.length y6,.slice x7 x.ex.length y7] 82)).alloc (.cells #[.slice k1 y.kid.length l1,.slice k2 y.ak.length l2,.slice k3 y.us.length l3,.bool y.au,.int .i64 y.pa,.slice k4 y.ps.length l4,.slice k5 y.fs.length l5,.slice k6 y.pu.length l6,.bool y.nc] 85)):=((Fr.refl w).alloc _).alloc _
 have BX:=(Blk.new w 82 #[.bool x.below,.slice x1 x.size.length y1,.slice x2 x.iss.length y2,.slice x3 x.sub.length y3,.int .i64 x.t0,.int .i64 x.t1,.slice x4 x.ao.length y4,.slice x5 x.ap.length y5,.slice x6 x.kn.length y6,.slice x7 x.ex.length y7]).alloc (.cells #[.slice k1 y.kid.length l1,.slice k2 y.ak.length l2,.slice k3 y.us.length l3,.bool y.au,.int .i64 y.pa,.slice k4 y.ps.length l4,.slice k5 y.fs.length l5,.slice k6 y.pu.length l6,.bool y.nc] 85)
 have BV:=Blk.new (w.alloc (.cells #[.bool x.below,.slice x1 x.size.length y1,.slice x2 x.iss.length y2,.slice x3 x.sub.length y3,.int .i64 x.t0,.int .i64 x.t1,.slice x4 x.ao.length y4,.slice x5 x.ap.length y5,.slice x6 x.kn.length y6,.slice x7 x.ex.length y7] 82)) 85 #[.slice k1 y.kid.length l1,.slice k2 y.ak.length l2,.slice k3 y.us.length l3,.bool y.au,.int .i64 y.pa,.slice k4 y.ps.length l4,.slice k5 y.fs.length l5,.slice k6 y.pu.length l6,.bool y.nc];rw[World.size_alloc,←hz]at BV
 rw[←hz]at BX
 have HF0:=Hi F0;have HE:=Hi (hE.old F0);have HX:=Hi (hx0.old F0);have HY:=Hi (hy0.old F0);have HSP:=Hi (show (∀ a∈q.ps,smallPt a∧copyPt a)∧(∀ a∈q.fs,smallPt a)∧q.ps.length≤1000000∧q.fs.length≤1000000 from by
  subst hq;refine⟨fun a ha=>?_,fun a ha=>?_,?_,?_⟩
  ·obtain⟨b,-,rfl⟩:=List.mem_map.1 ha
   exact⟨cutPt_small b,cutPt_copy b⟩
  ·obtain⟨b,-,rfl⟩:=List.mem_map.1 ha
   exact cutPt_small b
  ·show (List.map cutPt (y.ps.take 4)).length≤1000000
   rw[List.length_map,List.length_take];omega
  ·show (List.map cutPt (y.fs.take 4)).length≤1000000
   rw[List.length_map,List.length_take];omega)
 have HPI:=Hi (show dirN p.iss from by subst hp;exact cutName_dir _);clear hz F0 hx0 hy0 p1 p2 p3 p4 p5 p6 p7 hv1 hv2 hv3 hv4 hv5 hv6 hE;go_enter Tryz.func5,Tryz.ntmps5
 go_upto_region 1 with fail
 rw[←HZ.out]
 generalize ((w.alloc (.cells #[.bool x.below,.slice x1 x.size.length y1,.slice x2 x.iss.length y2,.slice x3 x.sub.length y3,.int .i64 x.t0,.int .i64 x.t1,.slice x4 x.ao.length y4,.slice x5 x.ap.length y5,.slice x6 x.kn.length y6,.slice x7 x.ex.length y7] 82)).alloc (.cells #[.slice k1 y.kid.length l1,.slice k2 y.ak.length l2,.slice k3 y.us.length l3,.bool y.au,.int .i64 y.pa,.slice k4 y.ps.length l4,.slice k5 y.fs.length l5,.slice k6 y.pu.length l6,.bool y.nc] 85))=w1 at *
 have HT:=Hi (fun W (F:Fz w1 W)=>lawCertTo_as _ x p hp w1 W HX.out F);have HU:=Hi (fun W (F:Fz w1 W)=>vwTo_any _ _ _ _ _ _ y q hq w1 W HY.out F);clear hp hq;have HBX:=Hi BX;have HBV:=Hi BV;clear BX BV
 go_cut [5,6] from 12 to 15 (fun s5 s6 wc=>∃ zx zy a1 c1 a2 c2 a3 c3 a4 c4 a5 c5 a6 c6 a7 c7 e1 g1 e2 g2 e3 g3 e4 g4 e5 g5 e6 g6,s5=.pointer (some ⟨zx,0,none⟩)∧s6=.pointer (some ⟨zy,0,none⟩)∧Blk wc zx 92 #[.bool p.below,.slice a1 p.size.length c1,.slice a2 p.iss.length c2,.slice a3 p.sub.length c3,.int .i64 p.t0,.int .i64 p.t1,.slice a4 p.ao.length c4,.slice a5 p.ap.length c5,.slice a6 p.kn.length c6,.slice a7 p.ex.length c7]∧Blk wc zy 95 #[.slice e1 q.kid.length g1,.slice e2 q.ak.length g2,.slice e3 q.us.length g3,.bool q.au,.int .i64 q.pa,.slice e4 q.ps.length g4,.slice e5 q.fs.length g5,.slice e6 q.pu.length g6,.bool q.nc]∧CertIn wc p (.slice a1 p.size.length c1) (.slice a2 p.iss.length c2) (.slice a3 p.sub.length c3) (.slice a4 p.ao.length c4) (.slice a5 p.ap.length c5) (.slice a6 p.kn.length c6) (.slice a7 p.ex.length c7)∧ViewIn wc (.slice e1 q.kid.length g1) (.slice e2 q.ak.length g2) (.slice e3 q.us.length g3) (.slice e4 q.ps.length g4) (.slice e5 q.fs.length g5) (.slice e6 q.pu.length g6) q∧Fz w1 wc)
 case first=>
  have BX:=HBX.out;have BV:=HBV.out;have G:Fz w1 w1:=Fr.refl _;have hltBX:=BX.lt;have hltBV:=BV.lt;refine wp_region_noPanic ?_
  refine wp_region_held_drew (S:=(fun w'=>(∀ j,w'.cell? ⟨z,j,none⟩=(#[.bool x.below,.slice x1 x.size.length y1,.slice x2 x.iss.length y2,.slice x3 x.sub.length y3,.int .i64 x.t0,.int .i64 x.t1,.slice x4 x.ao.length y4,.slice x5 x.ap.length y5,.slice x6 x.kn.length y6,.slice x7 x.ex.length y7]:Array Value)[j]?)∧∀ j,w'.cell? ⟨z+1,j,none⟩=(#[.slice k1 y.kid.length l1,.slice k2 y.ak.length l2,.slice k3 y.us.length l3,.bool y.au,.int .i64 y.pa,.slice k4 y.ps.length l4,.slice k5 y.fs.length l5,.slice k6 y.pu.length l6,.bool y.nc]:Array Value)[j]?)) (by kernel_rfl) ?_ (fun hHeld=>?_)
  ·exact⟨BX.drew.cell,BV.drew.cell⟩
  replace BX:=BX.drew;replace BV:=BV.drew;replace G:=G.drew;generalize w1.drew=wd at *
  refine wpAnyH_take (i:=0) (oi:=_) (v:=?_) rfl (by kernel_rfl) (by kernel_rfl) (by kernel_rfl) (fun _ _ _ h=>h) (Or.inl ⟨by rfl,?_⟩) (by assumption) ?_;rotate_left
  ·(intro W hSw;(try dsimp only at hSw);go_simp;try with_reducible rfl)
  (try simp only[Act.put,SK,SS]);refine wpAnyH_take (i:=2) (oi:=_) (v:=?_) rfl (by kernel_rfl) (by kernel_rfl) (by kernel_rfl) (fun _ _ _ h=>h) (Or.inl ⟨by rfl,?_⟩) (by assumption) ?_;rotate_left
  ·(intro W hSw;(try dsimp only at hSw);go_simp;try with_reducible rfl)
  (try simp only[Act.put,SK,SS]);refine wpAnyH_ready (rs:=[1,4,5]) (by kernel_rfl) (by simp) ?_;refine AllReadyH.cons (o:=_) rfl (fun KK hKK=>?_) (AllReadyH.cons (o:=_) rfl (fun KK hKK=>?_) (AllReadyH.cons (o:=_) rfl (fun KK hKK=>?_) AllReadyH.nil))
  ·go_simp
   (go_at_call 19;(with_reducible refine(HT.out _ G).mono ?_);rintro e w1x ⟨⟨a1,c1,a2,c2,a3,c3,a4,c4,a5,c5,a6,c6,a7,c7,rfl,hq1⟩,F⟩;have n1:=hq1.weaken (K':=(fun k=>False)) (fun k hk=>by (exact hk.elim));clear hq1;replace BX:=BX.fr F (fun h=>h);replace BV:=BV.fr F (fun h=>h);replace G:=G.trans F;clear F;go_wp2_with fail)
   refine hKK.out _ _ ?_ (fun hHeld=>?_)
   ·exact⟨BX.cell,BV.cell⟩
   clear hKK KK;(try simp only[Act.put,SK,SS]);refine wpAnyH_ready (rs:=[3,4,5]) (by kernel_rfl) (by simp) ?_;refine AllReadyH.cons (o:=_) rfl (fun KK hKK=>?_) (AllReadyH.cons (o:=_) rfl (fun KK hKK=>?_) (AllReadyH.cons (o:=_) rfl (fun KK hKK=>?_) AllReadyH.nil))
   ·go_simp
    (go_at_call 20;(with_reducible refine(HU.out _ G).mono ?_);rintro e w2x ⟨⟨e1,g1,e2,g2,e3,g3,e4,g4,e5,g5,e6,g6,rfl,hq2⟩,F⟩;have n2:=hq2.weaken (K':=(fun k=>False)) (fun k hk=>by (exact hk.elim));clear hq2;replace n1:=n1.old F;replace BX:=BX.fr F (fun h=>h);replace BV:=BV.fr F (fun h=>h);replace G:=G.trans F;clear F;go_wp2_with fail)
    refine hKK.out _ _ ?_ (fun hHeld=>?_)
    ·exact⟨BX.cell,BV.cell⟩
    clear hKK KK;(try simp only[Act.put,SK,SS]);refine wpAnyH_ready (rs:=[4,5]) (by kernel_rfl) (by simp) ?_;refine AllReadyH.cons (o:=_) rfl (fun KK hKK=>?_) (AllReadyH.cons (o:=_) rfl (fun KK hKK=>?_) AllReadyH.nil)
    ·go_simp
     skip
     refine hKK.out _ _ ?_ (fun hHeld=>?_)
     ·exact⟨(BX.alloc _).cell,(BV.alloc _).cell⟩
     clear hKK KK;(try simp only[Act.put,SK,SS]);obtain⟨zx,hz0⟩:∃ z,z=w2x.heap.size:=⟨_,rfl⟩
     have NX:=Blk.new w2x 92 #[.bool false,.slice none 0 0,.slice none 0 0,.slice none 0 0,.int .i64 0,.int .i64 0,.slice none 0 0,.slice none 0 0,.slice none 0 0,.slice none 0 0];rw[←hz0]at NX ⊢
     replace n1:=n1.step (S:=fun _=>False) (K':=(fun k=>False∨k=zx)) ((Fr.refl w2x).alloc (.cells #[.bool false,.slice none 0 0,.slice none 0 0,.slice none 0 0,.int .i64 0,.int .i64 0,.slice none 0 0,.slice none 0 0,.slice none 0 0,.slice none 0 0] 92)) (fun _ _ h=>h.elim) (fun k hk=>by (rcases hk with hk|hk;(exact hk.elim);(exact .inr (by omega))))
     replace n2:=n2.step (S:=fun _=>False) (K':=(fun k=>False∨k=zx)) ((Fr.refl w2x).alloc (.cells #[.bool false,.slice none 0 0,.slice none 0 0,.slice none 0 0,.int .i64 0,.int .i64 0,.slice none 0 0,.slice none 0 0,.slice none 0 0,.slice none 0 0] 92)) (fun _ _ h=>h.elim) (fun k hk=>by (rcases hk with hk|hk;(exact hk.elim);(exact .inr (by omega))));replace BX:=BX.alloc (.cells #[.bool false,.slice none 0 0,.slice none 0 0,.slice none 0 0,.int .i64 0,.int .i64 0,.slice none 0 0,.slice none 0 0,.slice none 0 0,.slice none 0 0] 92)
     replace BV:=BV.alloc (.cells #[.bool false,.slice none 0 0,.slice none 0 0,.slice none 0 0,.int .i64 0,.int .i64 0,.slice none 0 0,.slice none 0 0,.slice none 0 0,.slice none 0 0] 92);have hw0:w1.heap.size≤zx:=by have:=G.size;omega
     replace G:=G.alloc (.cells #[.bool false,.slice none 0 0,.slice none 0 0,.slice none 0 0,.int .i64 0,.int .i64 0,.slice none 0 0,.slice none 0 0,.slice none 0 0,.slice none 0 0] 92);clear hz0;generalize (w2x.alloc (.cells #[.bool false,.slice none 0 0,.slice none 0 0,.slice none 0 0,.int .i64 0,.int .i64 0,.slice none 0 0,.slice none 0 0,.slice none 0 0,.slice none 0 0] 92))=wa0 at *
     refine wpAnyH_ready (rs:=[5]) (by kernel_rfl) (by simp) ?_;refine AllReadyH.cons (o:=_) rfl (fun KK hKK=>?_) AllReadyH.nil;go_simp
     skip
     refine hKK.out _ _ ?_ (fun hHeld=>?_)
     ·exact⟨(BX.alloc _).cell,(BV.alloc _).cell⟩
     clear hKK KK;(try simp only[Act.put,SK,SS]);obtain⟨zy,hz1⟩:∃ z,z=wa0.heap.size:=⟨_,rfl⟩
     have NY:=Blk.new wa0 95 #[.slice none 0 0,.slice none 0 0,.slice none 0 0,.bool false,.int .i64 0,.slice none 0 0,.slice none 0 0,.slice none 0 0,.bool false];rw[←hz1]at NY ⊢
     replace n1:=n1.step (S:=fun _=>False) (K':=(fun k=>False∨k=zx∨k=zy)) ((Fr.refl wa0).alloc (.cells #[.slice none 0 0,.slice none 0 0,.slice none 0 0,.bool false,.int .i64 0,.slice none 0 0,.slice none 0 0,.slice none 0 0,.bool false] 95)) (fun _ _ h=>h.elim) (fun k hk=>by (rcases hk with hk|hk|hk;(exact hk.elim);(exact .inl (by first|exact .inr hk|exact .inr (.inl hk)|exact .inr (.inr hk)));(exact .inr (by omega))))
     replace n2:=n2.step (S:=fun _=>False) (K':=(fun k=>False∨k=zx∨k=zy)) ((Fr.refl wa0).alloc (.cells #[.slice none 0 0,.slice none 0 0,.slice none 0 0,.bool false,.int .i64 0,.slice none 0 0,.slice none 0 0,.slice none 0 0,.bool false] 95)) (fun _ _ h=>h.elim) (fun k hk=>by (rcases hk with hk|hk|hk;(exact hk.elim);(exact .inl (by first|exact .inr hk|exact .inr (.inl hk)|exact .inr (.inr hk)));(exact .inr (by omega))));replace BX:=BX.alloc (.cells #[.slice none 0 0,.slice none 0 0,.slice none 0 0,.bool false,.int .i64 0,.slice none 0 0,.slice none 0 0,.slice none 0 0,.bool false] 95)
     replace BV:=BV.alloc (.cells #[.slice none 0 0,.slice none 0 0,.slice none 0 0,.bool false,.int .i64 0,.slice none 0 0,.slice none 0 0,.slice none 0 0,.bool false] 95);have hne:zx≠zy:=by have:=NX.lt;omega
     replace NX:=NX.alloc (.cells #[.slice none 0 0,.slice none 0 0,.slice none 0 0,.bool false,.int .i64 0,.slice none 0 0,.slice none 0 0,.slice none 0 0,.bool false] 95);have hw1:w1.heap.size≤zy:=by have:=G.size;omega
     replace G:=G.alloc (.cells #[.slice none 0 0,.slice none 0 0,.slice none 0 0,.bool false,.int .i64 0,.slice none 0 0,.slice none 0 0,.slice none 0 0,.bool false] 95);clear hz1;generalize (wa0.alloc (.cells #[.slice none 0 0,.slice none 0 0,.slice none 0 0,.bool false,.int .i64 0,.slice none 0 0,.slice none 0 0,.slice none 0 0,.bool false] 95))=wa1 at *
     have d:=NX.cell;have f:=NX.frozen;have P:=putL_all (Z:=[.bool false,.slice none 0 0,.slice none 0 0,.slice none 0 0,.int .i64 0,.int .i64 0,.slice none 0 0,.slice none 0 0,.slice none 0 0,.slice none 0 0]) NX (l:=[.bool p.below,.slice a1 p.size.length c1,.slice a2 p.iss.length c2,.slice a3 p.sub.length c3,.int .i64 p.t0,.int .i64 p.t1,.slice a4 p.ao.length c4,.slice a5 p.ap.length c5,.slice a6 p.kn.length c6,.slice a7 p.ex.length c7]) rfl;simp only[putL]at P
     replace BX:=BX.fr P.2 (by omega);replace BV:=BV.fr P.2 (by omega);replace n1:=n1.step P.2 (K':=(fun k=>False∨k=zx∨k=zy)) (fun k _ e=>by first|exact .inr e|exact .inr (.inl e)|exact .inr (.inr e)|exact .inl (.inr e)) (fun k hk=>.inl hk);replace n2:=n2.step P.2 (K':=(fun k=>False∨k=zx∨k=zy)) (fun k _ e=>by first|exact .inr e|exact .inr (.inl e)|exact .inr (.inr e)|exact .inl (.inr e)) (fun k hk=>.inl hk);replace NY:=NY.fr P.2 (by omega);replace NX:=P.1;replace G:=G.trans' P.2 (fun i hi e=>by omega);clear P;replace BX:=Hi BX;replace BV:=Hi BV;replace NX:=Hi NX;replace NY:=Hi NY;replace n1:=Hi n1
     replace n2:=Hi n2;replace G:=Hi G;refine wpAnyH_ready (rs:=[6]) (by kernel_rfl) (by simp) ?_;refine AllReadyH.cons (o:=_) rfl (fun KK hKK=>?_) AllReadyH.nil;go_simp
     refine hKK.out _ _ ?_ (fun hHeld=>?_)
     ·with_reducible exact⟨BX.out.cell,BV.out.cell⟩
     clear hKK KK d f;(try simp only[Act.put,SK,SS]);replace BX:=BX.out;replace BV:=BV.out;replace NX:=NX.out;replace NY:=NY.out;replace n1:=n1.out;replace n2:=n2.out;replace G:=G.out;have d:=NY.cell;have f:=NY.frozen;have P:=putL_all (Z:=[.slice none 0 0,.slice none 0 0,.slice none 0 0,.bool false,.int .i64 0,.slice none 0 0,.slice none 0 0,.slice none 0 0,.bool false]) NY (l:=[.slice e1 q.kid.length g1,.slice e2 q.ak.length g2,.slice e3 q.us.length g3,.bool q.au,.int .i64 q.pa,.slice e4 q.ps.length g4,.slice e5 q.fs.length g5,.slice e6 q.pu.length g6,.bool q.nc]) rfl;simp only[putL]at P
     replace BX:=BX.fr P.2 (by omega);replace BV:=BV.fr P.2 (by omega);replace n1:=n1.step P.2 (K':=(fun k=>False∨k=zx∨k=zy)) (fun k _ e=>by first|exact .inr e|exact .inr (.inl e)|exact .inr (.inr e)|exact .inl (.inr e)) (fun k hk=>.inl hk);replace n2:=n2.step P.2 (K':=(fun k=>False∨k=zx∨k=zy)) (fun k _ e=>by first|exact .inr e|exact .inr (.inl e)|exact .inr (.inr e)|exact .inl (.inr e)) (fun k hk=>.inl hk);replace NX:=NX.fr P.2 (by omega);replace NY:=P.1;replace G:=G.trans' P.2 (fun i hi e=>by omega);clear P;replace BX:=Hi BX;replace BV:=Hi BV;replace NX:=Hi NX;replace NY:=Hi NY;replace n1:=Hi n1
     replace n2:=Hi n2;replace G:=Hi G;refine wpAnyH_ready (rs:=[7]) (by kernel_rfl) (by simp) ?_;refine AllReadyH.cons (o:=_) rfl (fun KK hKK=>?_) AllReadyH.nil;go_simp
     refine hKK.out _ _ ?_ (fun hHeld=>?_)
     ·with_reducible exact⟨BX.out.cell,BV.out.cell⟩
     clear hKK KK d f;(try simp only[Act.put,SK,SS]);replace BX:=BX.out;replace BV:=BV.out;replace NX:=NX.out;replace NY:=NY.out;replace n1:=n1.out;replace n2:=n2.out;replace G:=G.out;refine wpAnyH_done (by kernel_rfl) ?_ _;refine NoPanic.normal ?_;go_wp2_with fail
     go_meet
     with_reducible exact⟨_,_,_,_,_,_,_,_,_,_,_,_,_,_,_,_,_,_,_,_,_,_,_,_,_,_,_,_,rfl,rfl,NX,NY,n1.now,n2.now,G⟩
    ·go_simp
     skip
     refine hKK.out _ _ ?_ (fun hHeld=>?_)
     ·exact⟨(BX.alloc _).cell,(BV.alloc _).cell⟩
     clear hKK KK;(try simp only[Act.put,SK,SS]);obtain⟨zy,hz1⟩:∃ z,z=w2x.heap.size:=⟨_,rfl⟩
     have NY:=Blk.new w2x 95 #[.slice none 0 0,.slice none 0 0,.slice none 0 0,.bool false,.int .i64 0,.slice none 0 0,.slice none 0 0,.slice none 0 0,.bool false];rw[←hz1]at NY ⊢
     replace n1:=n1.step (S:=fun _=>False) (K':=(fun k=>False∨k=zy)) ((Fr.refl w2x).alloc (.cells #[.slice none 0 0,.slice none 0 0,.slice none 0 0,.bool false,.int .i64 0,.slice none 0 0,.slice none 0 0,.slice none 0 0,.bool false] 95)) (fun _ _ h=>h.elim) (fun k hk=>by (rcases hk with hk|hk;(exact hk.elim);(exact .inr (by omega))))
     replace n2:=n2.step (S:=fun _=>False) (K':=(fun k=>False∨k=zy)) ((Fr.refl w2x).alloc (.cells #[.slice none 0 0,.slice none 0 0,.slice none 0 0,.bool false,.int .i64 0,.slice none 0 0,.slice none 0 0,.slice none 0 0,.bool false] 95)) (fun _ _ h=>h.elim) (fun k hk=>by (rcases hk with hk|hk;(exact hk.elim);(exact .inr (by omega))));replace BX:=BX.alloc (.cells #[.slice none 0 0,.slice none 0 0,.slice none 0 0,.bool false,.int .i64 0,.slice none 0 0,.slice none 0 0,.slice none 0 0,.bool false] 95)
     replace BV:=BV.alloc (.cells #[.slice none 0 0,.slice none 0 0,.slice none 0 0,.bool false,.int .i64 0,.slice none 0 0,.slice none 0 0,.slice none 0 0,.bool false] 95);have hw1:w1.heap.size≤zy:=by have:=G.size;omega
     replace G:=G.alloc (.cells #[.slice none 0 0,.slice none 0 0,.slice none 0 0,.bool false,.int .i64 0,.slice none 0 0,.slice none 0 0,.slice none 0 0,.bool false] 95);clear hz1;generalize (w2x.alloc (.cells #[.slice none 0 0,.slice none 0 0,.slice none 0 0,.bool false,.int .i64 0,.slice none 0 0,.slice none 0 0,.slice none 0 0,.bool false] 95))=wa1 at *
     refine wpAnyH_ready (rs:=[4]) (by kernel_rfl) (by simp) ?_;refine AllReadyH.cons (o:=_) rfl (fun KK hKK=>?_) AllReadyH.nil;go_simp
     skip
     refine hKK.out _ _ ?_ (fun hHeld=>?_)
     ·exact⟨(BX.alloc _).cell,(BV.alloc _).cell⟩
     clear hKK KK;(try simp only[Act.put,SK,SS]);obtain⟨zx,hz0⟩:∃ z,z=wa1.heap.size:=⟨_,rfl⟩
     have NX:=Blk.new wa1 92 #[.bool false,.slice none 0 0,.slice none 0 0,.slice none 0 0,.int .i64 0,.int .i64 0,.slice none 0 0,.slice none 0 0,.slice none 0 0,.slice none 0 0];rw[←hz0]at NX ⊢
     replace n1:=n1.step (S:=fun _=>False) (K':=(fun k=>False∨k=zy∨k=zx)) ((Fr.refl wa1).alloc (.cells #[.bool false,.slice none 0 0,.slice none 0 0,.slice none 0 0,.int .i64 0,.int .i64 0,.slice none 0 0,.slice none 0 0,.slice none 0 0,.slice none 0 0] 92)) (fun _ _ h=>h.elim) (fun k hk=>by (rcases hk with hk|hk|hk;(exact hk.elim);(exact .inl (by first|exact .inr hk|exact .inr (.inl hk)|exact .inr (.inr hk)));(exact .inr (by omega))))
     replace n2:=n2.step (S:=fun _=>False) (K':=(fun k=>False∨k=zy∨k=zx)) ((Fr.refl wa1).alloc (.cells #[.bool false,.slice none 0 0,.slice none 0 0,.slice none 0 0,.int .i64 0,.int .i64 0,.slice none 0 0,.slice none 0 0,.slice none 0 0,.slice none 0 0] 92)) (fun _ _ h=>h.elim) (fun k hk=>by (rcases hk with hk|hk|hk;(exact hk.elim);(exact .inl (by first|exact .inr hk|exact .inr (.inl hk)|exact .inr (.inr hk)));(exact .inr (by omega))))
     replace BX:=BX.alloc (.cells #[.bool false,.slice none 0 0,.slice none 0 0,.slice none 0 0,.int .i64 0,.int .i64 0,.slice none 0 0,.slice none 0 0,.slice none 0 0,.slice none 0 0] 92);replace BV:=BV.alloc (.cells #[.bool false,.slice none 0 0,.slice none 0 0,.slice none 0 0,.int .i64 0,.int .i64 0,.slice none 0 0,.slice none 0 0,.slice none 0 0,.slice none 0 0] 92);have hne:zy≠zx:=by have:=NY.lt;omega
     replace NY:=NY.alloc (.cells #[.bool false,.slice none 0 0,.slice none 0 0,.slice none 0 0,.int .i64 0,.int .i64 0,.slice none 0 0,.slice none 0 0,.slice none 0 0,.slice none 0 0] 92);have hw0:w1.heap.size≤zx:=by have:=G.size;omega
     replace G:=G.alloc (.cells #[.bool false,.slice none 0 0,.slice none 0 0,.slice none 0 0,.int .i64 0,.int .i64 0,.slice none 0 0,.slice none 0 0,.slice none 0 0,.slice none 0 0] 92);clear hz0;generalize (wa1.alloc (.cells #[.bool false,.slice none 0 0,.slice none 0 0,.slice none 0 0,.int .i64 0,.int .i64 0,.slice none 0 0,.slice none 0 0,.slice none 0 0,.slice none 0 0] 92))=wa0 at *
     have d:=NX.cell;have f:=NX.frozen;have P:=putL_all (Z:=[.bool false,.slice none 0 0,.slice none 0 0,.slice none 0 0,.int .i64 0,.int .i64 0,.slice none 0 0,.slice none 0 0,.slice none 0 0,.slice none 0 0]) NX (l:=[.bool p.below,.slice a1 p.size.length c1,.slice a2 p.iss.length c2,.slice a3 p.sub.length c3,.int .i64 p.t0,.int .i64 p.t1,.slice a4 p.ao.length c4,.slice a5 p.ap.length c5,.slice a6 p.kn.length c6,.slice a7 p.ex.length c7]) rfl;simp only[putL]at P
     replace BX:=BX.fr P.2 (by omega);replace BV:=BV.fr P.2 (by omega);replace n1:=n1.step P.2 (K':=(fun k=>False∨k=zy∨k=zx)) (fun k _ e=>by first|exact .inr e|exact .inr (.inl e)|exact .inr (.inr e)|exact .inl (.inr e)) (fun k hk=>.inl hk);replace n2:=n2.step P.2 (K':=(fun k=>False∨k=zy∨k=zx)) (fun k _ e=>by first|exact .inr e|exact .inr (.inl e)|exact .inr (.inr e)|exact .inl (.inr e)) (fun k hk=>.inl hk);replace NY:=NY.fr P.2 (by omega);replace NX:=P.1;replace G:=G.trans' P.2 (fun i hi e=>by omega);clear P;replace BX:=Hi BX;replace BV:=Hi BV;replace NX:=Hi NX;replace NY:=Hi NY;replace n1:=Hi n1
     replace n2:=Hi n2;replace G:=Hi G;refine wpAnyH_ready (rs:=[6]) (by kernel_rfl) (by simp) ?_;refine AllReadyH.cons (o:=_) rfl (fun KK hKK=>?_) AllReadyH.nil;go_simp
     refine hKK.out _ _ ?_ (fun hHeld=>?_)
     ·with_reducible exact⟨BX.out.cell,BV.out.cell⟩
     clear hKK KK d f;(try simp only[Act.put,SK,SS]);replace BX:=BX.out;replace BV:=BV.out;replace NX:=NX.out;replace NY:=NY.out;replace n1:=n1.out;replace n2:=n2.out;replace G:=G.out;have d:=NY.cell;have f:=NY.frozen;have P:=putL_all (Z:=[.slice none 0 0,.slice none 0 0,.slice none 0 0,.bool false,.int .i64 0,.slice none 0 0,.slice none 0 0,.slice none 0 0,.bool false]) NY (l:=[.slice e1 q.kid.length g1,.slice e2 q.ak.length g2,.slice e3 q.us.length g3,.bool q.au,.int .i64 q.pa,.slice e4 q.ps.length g4,.slice e5 q.fs.length g5,.slice e6 q.pu.length g6,.bool q.nc]) rfl;simp only[putL]at P
     replace BX:=BX.fr P.2 (by omega);replace BV:=BV.fr P.2 (by omega);replace n1:=n1.step P.2 (K':=(fun k=>False∨k=zy∨k=zx)) (fun k _ e=>by first|exact .inr e|exact .inr (.inl e)|exact .inr (.inr e)|exact .inl (.inr e)) (fun k hk=>.inl hk);replace n2:=n2.step P.2 (K':=(fun k=>False∨k=zy∨k=zx)) (fun k _ e=>by first|exact .inr e|exact .inr (.inl e)|exact .inr (.inr e)|exact .inl (.inr e)) (fun k hk=>.inl hk);replace NX:=NX.fr P.2 (by omega);replace NY:=P.1;replace G:=G.trans' P.2 (fun i hi e=>by omega);clear P;replace BX:=Hi BX;replace BV:=Hi BV;replace NX:=Hi NX;replace NY:=Hi NY;replace n1:=Hi n1
     replace n2:=Hi n2;replace G:=Hi G;refine wpAnyH_ready (rs:=[7]) (by kernel_rfl) (by simp) ?_;refine AllReadyH.cons (o:=_) rfl (fun KK hKK=>?_) AllReadyH.nil;go_simp
     refine hKK.out _ _ ?_ (fun hHeld=>?_)
     ·with_reducible exact⟨BX.out.cell,BV.out.cell⟩
     clear hKK KK d f;(try simp only[Act.put,SK,SS]);replace BX:=BX.out;replace BV:=BV.out;replace NX:=NX.out;replace NY:=NY.out;replace n1:=n1.out;replace n2:=n2.out;replace G:=G.out;refine wpAnyH_done (by kernel_rfl) ?_ _;refine NoPanic.normal ?_;go_wp2_with fail
     go_meet
     with_reducible exact⟨_,_,_,_,_,_,_,_,_,_,_,_,_,_,_,_,_,_,_,_,_,_,_,_,_,_,_,_,rfl,rfl,NX,NY,n1.now,n2.now,G⟩
   ·go_simp
    skip
    refine hKK.out _ _ ?_ (fun hHeld=>?_)
    ·exact⟨(BX.alloc _).cell,(BV.alloc _).cell⟩
    clear hKK KK;(try simp only[Act.put,SK,SS]);obtain⟨zx,hz0⟩:∃ z,z=w1x.heap.size:=⟨_,rfl⟩
    have NX:=Blk.new w1x 92 #[.bool false,.slice none 0 0,.slice none 0 0,.slice none 0 0,.int .i64 0,.int .i64 0,.slice none 0 0,.slice none 0 0,.slice none 0 0,.slice none 0 0];rw[←hz0]at NX ⊢
    replace n1:=n1.step (S:=fun _=>False) (K':=(fun k=>False∨k=zx)) ((Fr.refl w1x).alloc (.cells #[.bool false,.slice none 0 0,.slice none 0 0,.slice none 0 0,.int .i64 0,.int .i64 0,.slice none 0 0,.slice none 0 0,.slice none 0 0,.slice none 0 0] 92)) (fun _ _ h=>h.elim) (fun k hk=>by (rcases hk with hk|hk;(exact hk.elim);(exact .inr (by omega))));replace BX:=BX.alloc (.cells #[.bool false,.slice none 0 0,.slice none 0 0,.slice none 0 0,.int .i64 0,.int .i64 0,.slice none 0 0,.slice none 0 0,.slice none 0 0,.slice none 0 0] 92)
    replace BV:=BV.alloc (.cells #[.bool false,.slice none 0 0,.slice none 0 0,.slice none 0 0,.int .i64 0,.int .i64 0,.slice none 0 0,.slice none 0 0,.slice none 0 0,.slice none 0 0] 92);have hw0:w1.heap.size≤zx:=by have:=G.size;omega
    replace G:=G.alloc (.cells #[.bool false,.slice none 0 0,.slice none 0 0,.slice none 0 0,.int .i64 0,.int .i64 0,.slice none 0 0,.slice none 0 0,.slice none 0 0,.slice none 0 0] 92);clear hz0;generalize (w1x.alloc (.cells #[.bool false,.slice none 0 0,.slice none 0 0,.slice none 0 0,.int .i64 0,.int .i64 0,.slice none 0 0,.slice none 0 0,.slice none 0 0,.slice none 0 0] 92))=wa0 at *
    refine wpAnyH_ready (rs:=[3,5]) (by kernel_rfl) (by simp) ?_;refine AllReadyH.cons (o:=_) rfl (fun KK hKK=>?_) (AllReadyH.cons (o:=_) rfl (fun KK hKK=>?_) AllReadyH.nil)
    ·go_simp
     (go_at_call 20;(with_reducible refine(HU.out _ G).mono ?_);rintro e w2x ⟨⟨e1,g1,e2,g2,e3,g3,e4,g4,e5,g5,e6,g6,rfl,hq2⟩,F⟩;have n2:=hq2.weaken (K':=(fun k=>False∨k=zx)) (fun k hk=>by (rcases hk with hk|hk;(exact hk.elim);(have h3:=NX.lt;exact⟨by omega,by omega⟩)));clear hq2;replace n1:=n1.old F;replace BX:=BX.fr F (fun h=>h);replace BV:=BV.fr F (fun h=>h);replace NX:=NX.fr F (fun h=>h);replace G:=G.trans F;clear F;go_wp2_with fail)
     refine hKK.out _ _ ?_ (fun hHeld=>?_)
     ·exact⟨BX.cell,BV.cell⟩
     clear hKK KK;(try simp only[Act.put,SK,SS]);refine wpAnyH_ready (rs:=[5]) (by kernel_rfl) (by simp) ?_;refine AllReadyH.cons (o:=_) rfl (fun KK hKK=>?_) AllReadyH.nil;go_simp
     skip
     refine hKK.out _ _ ?_ (fun hHeld=>?_)
     ·exact⟨(BX.alloc _).cell,(BV.alloc _).cell⟩
     clear hKK KK;(try simp only[Act.put,SK,SS]);obtain⟨zy,hz1⟩:∃ z,z=w2x.heap.size:=⟨_,rfl⟩
     have NY:=Blk.new w2x 95 #[.slice none 0 0,.slice none 0 0,.slice none 0 0,.bool false,.int .i64 0,.slice none 0 0,.slice none 0 0,.slice none 0 0,.bool false];rw[←hz1]at NY ⊢
     replace n1:=n1.step (S:=fun _=>False) (K':=(fun k=>False∨k=zx∨k=zy)) ((Fr.refl w2x).alloc (.cells #[.slice none 0 0,.slice none 0 0,.slice none 0 0,.bool false,.int .i64 0,.slice none 0 0,.slice none 0 0,.slice none 0 0,.bool false] 95)) (fun _ _ h=>h.elim) (fun k hk=>by (rcases hk with hk|hk|hk;(exact hk.elim);(exact .inl (by first|exact .inr hk|exact .inr (.inl hk)|exact .inr (.inr hk)));(exact .inr (by omega))))
     replace n2:=n2.step (S:=fun _=>False) (K':=(fun k=>False∨k=zx∨k=zy)) ((Fr.refl w2x).alloc (.cells #[.slice none 0 0,.slice none 0 0,.slice none 0 0,.bool false,.int .i64 0,.slice none 0 0,.slice none 0 0,.slice none 0 0,.bool false] 95)) (fun _ _ h=>h.elim) (fun k hk=>by (rcases hk with hk|hk|hk;(exact hk.elim);(exact .inl (by first|exact .inr hk|exact .inr (.inl hk)|exact .inr (.inr hk)));(exact .inr (by omega))));replace BX:=BX.alloc (.cells #[.slice none 0 0,.slice none 0 0,.slice none 0 0,.bool false,.int .i64 0,.slice none 0 0,.slice none 0 0,.slice none 0 0,.bool false] 95)
     replace BV:=BV.alloc (.cells #[.slice none 0 0,.slice none 0 0,.slice none 0 0,.bool false,.int .i64 0,.slice none 0 0,.slice none 0 0,.slice none 0 0,.bool false] 95);have hne:zx≠zy:=by have:=NX.lt;omega
     replace NX:=NX.alloc (.cells #[.slice none 0 0,.slice none 0 0,.slice none 0 0,.bool false,.int .i64 0,.slice none 0 0,.slice none 0 0,.slice none 0 0,.bool false] 95);have hw1:w1.heap.size≤zy:=by have:=G.size;omega
     replace G:=G.alloc (.cells #[.slice none 0 0,.slice none 0 0,.slice none 0 0,.bool false,.int .i64 0,.slice none 0 0,.slice none 0 0,.slice none 0 0,.bool false] 95);clear hz1;generalize (w2x.alloc (.cells #[.slice none 0 0,.slice none 0 0,.slice none 0 0,.bool false,.int .i64 0,.slice none 0 0,.slice none 0 0,.slice none 0 0,.bool false] 95))=wa1 at *
     have d:=NX.cell;have f:=NX.frozen;have P:=putL_all (Z:=[.bool false,.slice none 0 0,.slice none 0 0,.slice none 0 0,.int .i64 0,.int .i64 0,.slice none 0 0,.slice none 0 0,.slice none 0 0,.slice none 0 0]) NX (l:=[.bool p.below,.slice a1 p.size.length c1,.slice a2 p.iss.length c2,.slice a3 p.sub.length c3,.int .i64 p.t0,.int .i64 p.t1,.slice a4 p.ao.length c4,.slice a5 p.ap.length c5,.slice a6 p.kn.length c6,.slice a7 p.ex.length c7]) rfl;simp only[putL]at P
     replace BX:=BX.fr P.2 (by omega);replace BV:=BV.fr P.2 (by omega);replace n1:=n1.step P.2 (K':=(fun k=>False∨k=zx∨k=zy)) (fun k _ e=>by first|exact .inr e|exact .inr (.inl e)|exact .inr (.inr e)|exact .inl (.inr e)) (fun k hk=>.inl hk);replace n2:=n2.step P.2 (K':=(fun k=>False∨k=zx∨k=zy)) (fun k _ e=>by first|exact .inr e|exact .inr (.inl e)|exact .inr (.inr e)|exact .inl (.inr e)) (fun k hk=>.inl hk);replace NY:=NY.fr P.2 (by omega);replace NX:=P.1;replace G:=G.trans' P.2 (fun i hi e=>by omega);clear P;replace BX:=Hi BX;replace BV:=Hi BV;replace NX:=Hi NX;replace NY:=Hi NY;replace n1:=Hi n1
     replace n2:=Hi n2;replace G:=Hi G;refine wpAnyH_ready (rs:=[6]) (by kernel_rfl) (by simp) ?_;refine AllReadyH.cons (o:=_) rfl (fun KK hKK=>?_) AllReadyH.nil;go_simp
     refine hKK.out _ _ ?_ (fun hHeld=>?_)
     ·with_reducible exact⟨BX.out.cell,BV.out.cell⟩
     clear hKK KK d f;(try simp only[Act.put,SK,SS]);replace BX:=BX.out;replace BV:=BV.out;replace NX:=NX.out;replace NY:=NY.out;replace n1:=n1.out;replace n2:=n2.out;replace G:=G.out;have d:=NY.cell;have f:=NY.frozen;have P:=putL_all (Z:=[.slice none 0 0,.slice none 0 0,.slice none 0 0,.bool false,.int .i64 0,.slice none 0 0,.slice none 0 0,.slice none 0 0,.bool false]) NY (l:=[.slice e1 q.kid.length g1,.slice e2 q.ak.length g2,.slice e3 q.us.length g3,.bool q.au,.int .i64 q.pa,.slice e4 q.ps.length g4,.slice e5 q.fs.length g5,.slice e6 q.pu.length g6,.bool q.nc]) rfl;simp only[putL]at P
     replace BX:=BX.fr P.2 (by omega);replace BV:=BV.fr P.2 (by omega);replace n1:=n1.step P.2 (K':=(fun k=>False∨k=zx∨k=zy)) (fun k _ e=>by first|exact .inr e|exact .inr (.inl e)|exact .inr (.inr e)|exact .inl (.inr e)) (fun k hk=>.inl hk);replace n2:=n2.step P.2 (K':=(fun k=>False∨k=zx∨k=zy)) (fun k _ e=>by first|exact .inr e|exact .inr (.inl e)|exact .inr (.inr e)|exact .inl (.inr e)) (fun k hk=>.inl hk);replace NX:=NX.fr P.2 (by omega);replace NY:=P.1;replace G:=G.trans' P.2 (fun i hi e=>by omega);clear P;replace BX:=Hi BX;replace BV:=Hi BV;replace NX:=Hi NX;replace NY:=Hi NY;replace n1:=Hi n1
     replace n2:=Hi n2;replace G:=Hi G;refine wpAnyH_ready (rs:=[7]) (by kernel_rfl) (by simp) ?_;refine AllReadyH.cons (o:=_) rfl (fun KK hKK=>?_) AllReadyH.nil;go_simp
     refine hKK.out _ _ ?_ (fun hHeld=>?_)
     ·with_reducible exact⟨BX.out.cell,BV.out.cell⟩
     clear hKK KK d f;(try simp only[Act.put,SK,SS]);replace BX:=BX.out;replace BV:=BV.out;replace NX:=NX.out;replace NY:=NY.out;replace n1:=n1.out;replace n2:=n2.out;replace G:=G.out;refine wpAnyH_done (by kernel_rfl) ?_ _;refine NoPanic.normal ?_;go_wp2_with fail
     go_meet
     with_reducible exact⟨_,_,_,_,_,_,_,_,_,_,_,_,_,_,_,_,_,_,_,_,_,_,_,_,_,_,_,_,rfl,rfl,NX,NY,n1.now,n2.now,G⟩
    ·go_simp
     skip
     refine hKK.out _ _ ?_ (fun hHeld=>?_)
     ·exact⟨(BX.alloc _).cell,(BV.alloc _).cell⟩
     clear hKK KK;(try simp only[Act.put,SK,SS]);obtain⟨zy,hz1⟩:∃ z,z=wa0.heap.size:=⟨_,rfl⟩
     have NY:=Blk.new wa0 95 #[.slice none 0 0,.slice none 0 0,.slice none 0 0,.bool false,.int .i64 0,.slice none 0 0,.slice none 0 0,.slice none 0 0,.bool false];rw[←hz1]at NY ⊢
     replace n1:=n1.step (S:=fun _=>False) (K':=(fun k=>False∨k=zx∨k=zy)) ((Fr.refl wa0).alloc (.cells #[.slice none 0 0,.slice none 0 0,.slice none 0 0,.bool false,.int .i64 0,.slice none 0 0,.slice none 0 0,.slice none 0 0,.bool false] 95)) (fun _ _ h=>h.elim) (fun k hk=>by (rcases hk with hk|hk|hk;(exact hk.elim);(exact .inl (by first|exact .inr hk|exact .inr (.inl hk)|exact .inr (.inr hk)));(exact .inr (by omega))));replace BX:=BX.alloc (.cells #[.slice none 0 0,.slice none 0 0,.slice none 0 0,.bool false,.int .i64 0,.slice none 0 0,.slice none 0 0,.slice none 0 0,.bool false] 95)
     replace BV:=BV.alloc (.cells #[.slice none 0 0,.slice none 0 0,.slice none 0 0,.bool false,.int .i64 0,.slice none 0 0,.slice none 0 0,.slice none 0 0,.bool false] 95);have hne:zx≠zy:=by have:=NX.lt;omega
     replace NX:=NX.alloc (.cells #[.slice none 0 0,.slice none 0 0,.slice none 0 0,.bool false,.int .i64 0,.slice none 0 0,.slice none 0 0,.slice none 0 0,.bool false] 95);have hw1:w1.heap.size≤zy:=by have:=G.size;omega
     replace G:=G.alloc (.cells #[.slice none 0 0,.slice none 0 0,.slice none 0 0,.bool false,.int .i64 0,.slice none 0 0,.slice none 0 0,.slice none 0 0,.bool false] 95);clear hz1;generalize (wa0.alloc (.cells #[.slice none 0 0,.slice none 0 0,.slice none 0 0,.bool false,.int .i64 0,.slice none 0 0,.slice none 0 0,.slice none 0 0,.bool false] 95))=wa1 at *
     refine wpAnyH_ready (rs:=[3]) (by kernel_rfl) (by simp) ?_;refine AllReadyH.cons (o:=_) rfl (fun KK hKK=>?_) AllReadyH.nil;go_simp
     (go_at_call 20;(with_reducible refine(HU.out _ G).mono ?_);rintro e w2x ⟨⟨e1,g1,e2,g2,e3,g3,e4,g4,e5,g5,e6,g6,rfl,hq2⟩,F⟩;have n2:=hq2.weaken (K':=(fun k=>False∨k=zx∨k=zy)) (fun k hk=>by (rcases hk with hk|hk|hk;(exact hk.elim);(have h3:=NX.lt;exact⟨by omega,by omega⟩);(have h3:=NY.lt;exact⟨by omega,by omega⟩)));clear hq2;replace n1:=n1.old F;replace BX:=BX.fr F (fun h=>h);replace BV:=BV.fr F (fun h=>h);replace NX:=NX.fr F (fun h=>h);replace NY:=NY.fr F (fun h=>h);replace G:=G.trans F;clear F;go_wp2_with fail)
     refine hKK.out _ _ ?_ (fun hHeld=>?_)
     ·exact⟨BX.cell,BV.cell⟩
     clear hKK KK;(try simp only[Act.put,SK,SS]);have d:=NX.cell;have f:=NX.frozen;have P:=putL_all (Z:=[.bool false,.slice none 0 0,.slice none 0 0,.slice none 0 0,.int .i64 0,.int .i64 0,.slice none 0 0,.slice none 0 0,.slice none 0 0,.slice none 0 0]) NX (l:=[.bool p.below,.slice a1 p.size.length c1,.slice a2 p.iss.length c2,.slice a3 p.sub.length c3,.int .i64 p.t0,.int .i64 p.t1,.slice a4 p.ao.length c4,.slice a5 p.ap.length c5,.slice a6 p.kn.length c6,.slice a7 p.ex.length c7]) rfl;simp only[putL]at P
     replace BX:=BX.fr P.2 (by omega);replace BV:=BV.fr P.2 (by omega);replace n1:=n1.step P.2 (K':=(fun k=>False∨k=zx∨k=zy)) (fun k _ e=>by first|exact .inr e|exact .inr (.inl e)|exact .inr (.inr e)|exact .inl (.inr e)) (fun k hk=>.inl hk);replace n2:=n2.step P.2 (K':=(fun k=>False∨k=zx∨k=zy)) (fun k _ e=>by first|exact .inr e|exact .inr (.inl e)|exact .inr (.inr e)|exact .inl (.inr e)) (fun k hk=>.inl hk);replace NY:=NY.fr P.2 (by omega);replace NX:=P.1;replace G:=G.trans' P.2 (fun i hi e=>by omega);clear P;replace BX:=Hi BX;replace BV:=Hi BV;replace NX:=Hi NX;replace NY:=Hi NY;replace n1:=Hi n1
     replace n2:=Hi n2;replace G:=Hi G;refine wpAnyH_ready (rs:=[6]) (by kernel_rfl) (by simp) ?_;refine AllReadyH.cons (o:=_) rfl (fun KK hKK=>?_) AllReadyH.nil;go_simp
     refine hKK.out _ _ ?_ (fun hHeld=>?_)
     ·with_reducible exact⟨BX.out.cell,BV.out.cell⟩
     clear hKK KK d f;(try simp only[Act.put,SK,SS]);replace BX:=BX.out;replace BV:=BV.out;replace NX:=NX.out;replace NY:=NY.out;replace n1:=n1.out;replace n2:=n2.out;replace G:=G.out;have d:=NY.cell;have f:=NY.frozen;have P:=putL_all (Z:=[.slice none 0 0,.slice none 0 0,.slice none 0 0,.bool false,.int .i64 0,.slice none 0 0,.slice none 0 0,.slice none 0 0,.bool false]) NY (l:=[.slice e1 q.kid.length g1,.slice e2 q.ak.length g2,.slice e3 q.us.length g3,.bool q.au,.int .i64 q.pa,.slice e4 q.ps.length g4,.slice e5 q.fs.length g5,.slice e6 q.pu.length g6,.bool q.nc]) rfl;simp only[putL]at P
     replace BX:=BX.fr P.2 (by omega);replace BV:=BV.fr P.2 (by omega);replace n1:=n1.step P.2 (K':=(fun k=>False∨k=zx∨k=zy)) (fun k _ e=>by first|exact .inr e|exact .inr (.inl e)|exact .inr (.inr e)|exact .inl (.inr e)) (fun k hk=>.inl hk);replace n2:=n2.step P.2 (K':=(fun k=>False∨k=zx∨k=zy)) (fun k _ e=>by first|exact .inr e|exact .inr (.inl e)|exact .inr (.inr e)|exact .inl (.inr e)) (fun k hk=>.inl hk);replace NX:=NX.fr P.2 (by omega);replace NY:=P.1;replace G:=G.trans' P.2 (fun i hi e=>by omega);clear P;replace BX:=Hi BX;replace BV:=Hi BV;replace NX:=Hi NX;replace NY:=Hi NY;replace n1:=Hi n1
     replace n2:=Hi n2;replace G:=Hi G;refine wpAnyH_ready (rs:=[7]) (by kernel_rfl) (by simp) ?_;refine AllReadyH.cons (o:=_) rfl (fun KK hKK=>?_) AllReadyH.nil;go_simp
     refine hKK.out _ _ ?_ (fun hHeld=>?_)
     ·with_reducible exact⟨BX.out.cell,BV.out.cell⟩
     clear hKK KK d f;(try simp only[Act.put,SK,SS]);replace BX:=BX.out;replace BV:=BV.out;replace NX:=NX.out;replace NY:=NY.out;replace n1:=n1.out;replace n2:=n2.out;replace G:=G.out;refine wpAnyH_done (by kernel_rfl) ?_ _;refine NoPanic.normal ?_;go_wp2_with fail
     go_meet
     with_reducible exact⟨_,_,_,_,_,_,_,_,_,_,_,_,_,_,_,_,_,_,_,_,_,_,_,_,_,_,_,_,rfl,rfl,NX,NY,n1.now,n2.now,G⟩
   ·go_simp
    skip
    refine hKK.out _ _ ?_ (fun hHeld=>?_)
    ·exact⟨(BX.alloc _).cell,(BV.alloc _).cell⟩
    clear hKK KK;(try simp only[Act.put,SK,SS]);obtain⟨zy,hz1⟩:∃ z,z=w1x.heap.size:=⟨_,rfl⟩
    have NY:=Blk.new w1x 95 #[.slice none 0 0,.slice none 0 0,.slice none 0 0,.bool false,.int .i64 0,.slice none 0 0,.slice none 0 0,.slice none 0 0,.bool false];rw[←hz1]at NY ⊢
    replace n1:=n1.step (S:=fun _=>False) (K':=(fun k=>False∨k=zy)) ((Fr.refl w1x).alloc (.cells #[.slice none 0 0,.slice none 0 0,.slice none 0 0,.bool false,.int .i64 0,.slice none 0 0,.slice none 0 0,.slice none 0 0,.bool false] 95)) (fun _ _ h=>h.elim) (fun k hk=>by (rcases hk with hk|hk;(exact hk.elim);(exact .inr (by omega))));replace BX:=BX.alloc (.cells #[.slice none 0 0,.slice none 0 0,.slice none 0 0,.bool false,.int .i64 0,.slice none 0 0,.slice none 0 0,.slice none 0 0,.bool false] 95)
    replace BV:=BV.alloc (.cells #[.slice none 0 0,.slice none 0 0,.slice none 0 0,.bool false,.int .i64 0,.slice none 0 0,.slice none 0 0,.slice none 0 0,.bool false] 95);have hw1:w1.heap.size≤zy:=by have:=G.size;omega
    replace G:=G.alloc (.cells #[.slice none 0 0,.slice none 0 0,.slice none 0 0,.bool false,.int .i64 0,.slice none 0 0,.slice none 0 0,.slice none 0 0,.bool false] 95);clear hz1;generalize (w1x.alloc (.cells #[.slice none 0 0,.slice none 0 0,.slice none 0 0,.bool false,.int .i64 0,.slice none 0 0,.slice none 0 0,.slice none 0 0,.bool false] 95))=wa1 at *
    refine wpAnyH_ready (rs:=[3,4]) (by kernel_rfl) (by simp) ?_;refine AllReadyH.cons (o:=_) rfl (fun KK hKK=>?_) (AllReadyH.cons (o:=_) rfl (fun KK hKK=>?_) AllReadyH.nil)
    ·go_simp
     (go_at_call 20;(with_reducible refine(HU.out _ G).mono ?_);rintro e w2x ⟨⟨e1,g1,e2,g2,e3,g3,e4,g4,e5,g5,e6,g6,rfl,hq2⟩,F⟩;have n2:=hq2.weaken (K':=(fun k=>False∨k=zy)) (fun k hk=>by (rcases hk with hk|hk;(exact hk.elim);(have h3:=NY.lt;exact⟨by omega,by omega⟩)));clear hq2;replace n1:=n1.old F;replace BX:=BX.fr F (fun h=>h);replace BV:=BV.fr F (fun h=>h);replace NY:=NY.fr F (fun h=>h);replace G:=G.trans F;clear F;go_wp2_with fail)
     refine hKK.out _ _ ?_ (fun hHeld=>?_)
     ·exact⟨BX.cell,BV.cell⟩
     clear hKK KK;(try simp only[Act.put,SK,SS]);refine wpAnyH_ready (rs:=[4]) (by kernel_rfl) (by simp) ?_;refine AllReadyH.cons (o:=_) rfl (fun KK hKK=>?_) AllReadyH.nil;go_simp
     skip
     refine hKK.out _ _ ?_ (fun hHeld=>?_)
     ·exact⟨(BX.alloc _).cell,(BV.alloc _).cell⟩
     clear hKK KK;(try simp only[Act.put,SK,SS]);obtain⟨zx,hz0⟩:∃ z,z=w2x.heap.size:=⟨_,rfl⟩
     have NX:=Blk.new w2x 92 #[.bool false,.slice none 0 0,.slice none 0 0,.slice none 0 0,.int .i64 0,.int .i64 0,.slice none 0 0,.slice none 0 0,.slice none 0 0,.slice none 0 0];rw[←hz0]at NX ⊢
     replace n1:=n1.step (S:=fun _=>False) (K':=(fun k=>False∨k=zy∨k=zx)) ((Fr.refl w2x).alloc (.cells #[.bool false,.slice none 0 0,.slice none 0 0,.slice none 0 0,.int .i64 0,.int .i64 0,.slice none 0 0,.slice none 0 0,.slice none 0 0,.slice none 0 0] 92)) (fun _ _ h=>h.elim) (fun k hk=>by (rcases hk with hk|hk|hk;(exact hk.elim);(exact .inl (by first|exact .inr hk|exact .inr (.inl hk)|exact .inr (.inr hk)));(exact .inr (by omega))))
     replace n2:=n2.step (S:=fun _=>False) (K':=(fun k=>False∨k=zy∨k=zx)) ((Fr.refl w2x).alloc (.cells #[.bool false,.slice none 0 0,.slice none 0 0,.slice none 0 0,.int .i64 0,.int .i64 0,.slice none 0 0,.slice none 0 0,.slice none 0 0,.slice none 0 0] 92)) (fun _ _ h=>h.elim) (fun k hk=>by (rcases hk with hk|hk|hk;(exact hk.elim);(exact .inl (by first|exact .inr hk|exact .inr (.inl hk)|exact .inr (.inr hk)));(exact .inr (by omega))))
     replace BX:=BX.alloc (.cells #[.bool false,.slice none 0 0,.slice none 0 0,.slice none 0 0,.int .i64 0,.int .i64 0,.slice none 0 0,.slice none 0 0,.slice none 0 0,.slice none 0 0] 92);replace BV:=BV.alloc (.cells #[.bool false,.slice none 0 0,.slice none 0 0,.slice none 0 0,.int .i64 0,.int .i64 0,.slice none 0 0,.slice none 0 0,.slice none 0 0,.slice none 0 0] 92);have hne:zy≠zx:=by have:=NY.lt;omega
     replace NY:=NY.alloc (.cells #[.bool false,.slice none 0 0,.slice none 0 0,.slice none 0 0,.int .i64 0,.int .i64 0,.slice none 0 0,.slice none 0 0,.slice none 0 0,.slice none 0 0] 92);have hw0:w1.heap.size≤zx:=by have:=G.size;omega
     replace G:=G.alloc (.cells #[.bool false,.slice none 0 0,.slice none 0 0,.slice none 0 0,.int .i64 0,.int .i64 0,.slice none 0 0,.slice none 0 0,.slice none 0 0,.slice none 0 0] 92);clear hz0;generalize (w2x.alloc (.cells #[.bool false,.slice none 0 0,.slice none 0 0,.slice none 0 0,.int .i64 0,.int .i64 0,.slice none 0 0,.slice none 0 0,.slice none 0 0,.slice none 0 0] 92))=wa0 at *
     have d:=NX.cell;have f:=NX.frozen;have P:=putL_all (Z:=[.bool false,.slice none 0 0,.slice none 0 0,.slice none 0 0,.int .i64 0,.int .i64 0,.slice none 0 0,.slice none 0 0,.slice none 0 0,.slice none 0 0]) NX (l:=[.bool p.below,.slice a1 p.size.length c1,.slice a2 p.iss.length c2,.slice a3 p.sub.length c3,.int .i64 p.t0,.int .i64 p.t1,.slice a4 p.ao.length c4,.slice a5 p.ap.length c5,.slice a6 p.kn.length c6,.slice a7 p.ex.length c7]) rfl;simp only[putL]at P
     replace BX:=BX.fr P.2 (by omega);replace BV:=BV.fr P.2 (by omega);replace n1:=n1.step P.2 (K':=(fun k=>False∨k=zy∨k=zx)) (fun k _ e=>by first|exact .inr e|exact .inr (.inl e)|exact .inr (.inr e)|exact .inl (.inr e)) (fun k hk=>.inl hk);replace n2:=n2.step P.2 (K':=(fun k=>False∨k=zy∨k=zx)) (fun k _ e=>by first|exact .inr e|exact .inr (.inl e)|exact .inr (.inr e)|exact .inl (.inr e)) (fun k hk=>.inl hk);replace NY:=NY.fr P.2 (by omega);replace NX:=P.1;replace G:=G.trans' P.2 (fun i hi e=>by omega);clear P;replace BX:=Hi BX;replace BV:=Hi BV;replace NX:=Hi NX;replace NY:=Hi NY;replace n1:=Hi n1
     replace n2:=Hi n2;replace G:=Hi G;refine wpAnyH_ready (rs:=[6]) (by kernel_rfl) (by simp) ?_;refine AllReadyH.cons (o:=_) rfl (fun KK hKK=>?_) AllReadyH.nil;go_simp
     refine hKK.out _ _ ?_ (fun hHeld=>?_)
     ·with_reducible exact⟨BX.out.cell,BV.out.cell⟩
     clear hKK KK d f;(try simp only[Act.put,SK,SS]);replace BX:=BX.out;replace BV:=BV.out;replace NX:=NX.out;replace NY:=NY.out;replace n1:=n1.out;replace n2:=n2.out;replace G:=G.out;have d:=NY.cell;have f:=NY.frozen;have P:=putL_all (Z:=[.slice none 0 0,.slice none 0 0,.slice none 0 0,.bool false,.int .i64 0,.slice none 0 0,.slice none 0 0,.slice none 0 0,.bool false]) NY (l:=[.slice e1 q.kid.length g1,.slice e2 q.ak.length g2,.slice e3 q.us.length g3,.bool q.au,.int .i64 q.pa,.slice e4 q.ps.length g4,.slice e5 q.fs.length g5,.slice e6 q.pu.length g6,.bool q.nc]) rfl;simp only[putL]at P
     replace BX:=BX.fr P.2 (by omega);replace BV:=BV.fr P.2 (by omega);replace n1:=n1.step P.2 (K':=(fun k=>False∨k=zy∨k=zx)) (fun k _ e=>by first|exact .inr e|exact .inr (.inl e)|exact .inr (.inr e)|exact .inl (.inr e)) (fun k hk=>.inl hk);replace n2:=n2.step P.2 (K':=(fun k=>False∨k=zy∨k=zx)) (fun k _ e=>by first|exact .inr e|exact .inr (.inl e)|exact .inr (.inr e)|exact .inl (.inr e)) (fun k hk=>.inl hk);replace NX:=NX.fr P.2 (by omega);replace NY:=P.1;replace G:=G.trans' P.2 (fun i hi e=>by omega);clear P;replace BX:=Hi BX;replace BV:=Hi BV;replace NX:=Hi NX;replace NY:=Hi NY;replace n1:=Hi n1
     replace n2:=Hi n2;replace G:=Hi G;refine wpAnyH_ready (rs:=[7]) (by kernel_rfl) (by simp) ?_;refine AllReadyH.cons (o:=_) rfl (fun KK hKK=>?_) AllReadyH.nil;go_simp
     refine hKK.out _ _ ?_ (fun hHeld=>?_)
     ·with_reducible exact⟨BX.out.cell,BV.out.cell⟩
     clear hKK KK d f;(try simp only[Act.put,SK,SS]);replace BX:=BX.out;replace BV:=BV.out;replace NX:=NX.out;replace NY:=NY.out;replace n1:=n1.out;replace n2:=n2.out;replace G:=G.out;refine wpAnyH_done (by kernel_rfl) ?_ _;refine NoPanic.normal ?_;go_wp2_with fail
     go_meet
     with_reducible exact⟨_,_,_,_,_,_,_,_,_,_,_,_,_,_,_,_,_,_,_,_,_,_,_,_,_,_,_,_,rfl,rfl,NX,NY,n1.now,n2.now,G⟩
    ·go_simp
     skip
     refine hKK.out _ _ ?_ (fun hHeld=>?_)
     ·exact⟨(BX.alloc _).cell,(BV.alloc _).cell⟩
     clear hKK KK;(try simp only[Act.put,SK,SS]);obtain⟨zx,hz0⟩:∃ z,z=wa1.heap.size:=⟨_,rfl⟩
     have NX:=Blk.new wa1 92 #[.bool false,.slice none 0 0,.slice none 0 0,.slice none 0 0,.int .i64 0,.int .i64 0,.slice none 0 0,.slice none 0 0,.slice none 0 0,.slice none 0 0];rw[←hz0]at NX ⊢
     replace n1:=n1.step (S:=fun _=>False) (K':=(fun k=>False∨k=zy∨k=zx)) ((Fr.refl wa1).alloc (.cells #[.bool false,.slice none 0 0,.slice none 0 0,.slice none 0 0,.int .i64 0,.int .i64 0,.slice none 0 0,.slice none 0 0,.slice none 0 0,.slice none 0 0] 92)) (fun _ _ h=>h.elim) (fun k hk=>by (rcases hk with hk|hk|hk;(exact hk.elim);(exact .inl (by first|exact .inr hk|exact .inr (.inl hk)|exact .inr (.inr hk)));(exact .inr (by omega))))
     replace BX:=BX.alloc (.cells #[.bool false,.slice none 0 0,.slice none 0 0,.slice none 0 0,.int .i64 0,.int .i64 0,.slice none 0 0,.slice none 0 0,.slice none 0 0,.slice none 0 0] 92);replace BV:=BV.alloc (.cells #[.bool false,.slice none 0 0,.slice none 0 0,.slice none 0 0,.int .i64 0,.int .i64 0,.slice none 0 0,.slice none 0 0,.slice none 0 0,.slice none 0 0] 92);have hne:zy≠zx:=by have:=NY.lt;omega
     replace NY:=NY.alloc (.cells #[.bool false,.slice none 0 0,.slice none 0 0,.slice none 0 0,.int .i64 0,.int .i64 0,.slice none 0 0,.slice none 0 0,.slice none 0 0,.slice none 0 0] 92);have hw0:w1.heap.size≤zx:=by have:=G.size;omega
     replace G:=G.alloc (.cells #[.bool false,.slice none 0 0,.slice none 0 0,.slice none 0 0,.int .i64 0,.int .i64 0,.slice none 0 0,.slice none 0 0,.slice none 0 0,.slice none 0 0] 92);clear hz0;generalize (wa1.alloc (.cells #[.bool false,.slice none 0 0,.slice none 0 0,.slice none 0 0,.int .i64 0,.int .i64 0,.slice none 0 0,.slice none 0 0,.slice none 0 0,.slice none 0 0] 92))=wa0 at *
     refine wpAnyH_ready (rs:=[3]) (by kernel_rfl) (by simp) ?_;refine AllReadyH.cons (o:=_) rfl (fun KK hKK=>?_) AllReadyH.nil;go_simp
     (go_at_call 20;(with_reducible refine(HU.out _ G).mono ?_);rintro e w2x ⟨⟨e1,g1,e2,g2,e3,g3,e4,g4,e5,g5,e6,g6,rfl,hq2⟩,F⟩;have n2:=hq2.weaken (K':=(fun k=>False∨k=zy∨k=zx)) (fun k hk=>by (rcases hk with hk|hk|hk;(exact hk.elim);(have h3:=NY.lt;exact⟨by omega,by omega⟩);(have h3:=NX.lt;exact⟨by omega,by omega⟩)));clear hq2;replace n1:=n1.old F;replace BX:=BX.fr F (fun h=>h);replace BV:=BV.fr F (fun h=>h);replace NY:=NY.fr F (fun h=>h);replace NX:=NX.fr F (fun h=>h);replace G:=G.trans F;clear F;go_wp2_with fail)
     refine hKK.out _ _ ?_ (fun hHeld=>?_)
     ·exact⟨BX.cell,BV.cell⟩
     clear hKK KK;(try simp only[Act.put,SK,SS]);have d:=NX.cell;have f:=NX.frozen;have P:=putL_all (Z:=[.bool false,.slice none 0 0,.slice none 0 0,.slice none 0 0,.int .i64 0,.int .i64 0,.slice none 0 0,.slice none 0 0,.slice none 0 0,.slice none 0 0]) NX (l:=[.bool p.below,.slice a1 p.size.length c1,.slice a2 p.iss.length c2,.slice a3 p.sub.length c3,.int .i64 p.t0,.int .i64 p.t1,.slice a4 p.ao.length c4,.slice a5 p.ap.length c5,.slice a6 p.kn.length c6,.slice a7 p.ex.length c7]) rfl;simp only[putL]at P
     replace BX:=BX.fr P.2 (by omega);replace BV:=BV.fr P.2 (by omega);replace n1:=n1.step P.2 (K':=(fun k=>False∨k=zy∨k=zx)) (fun k _ e=>by first|exact .inr e|exact .inr (.inl e)|exact .inr (.inr e)|exact .inl (.inr e)) (fun k hk=>.inl hk);replace n2:=n2.step P.2 (K':=(fun k=>False∨k=zy∨k=zx)) (fun k _ e=>by first|exact .inr e|exact .inr (.inl e)|exact .inr (.inr e)|exact .inl (.inr e)) (fun k hk=>.inl hk);replace NY:=NY.fr P.2 (by omega);replace NX:=P.1;replace G:=G.trans' P.2 (fun i hi e=>by omega);clear P;replace BX:=Hi BX;replace BV:=Hi BV;replace NX:=Hi NX;replace NY:=Hi NY;replace n1:=Hi n1
     replace n2:=Hi n2;replace G:=Hi G;refine wpAnyH_ready (rs:=[6]) (by kernel_rfl) (by simp) ?_;refine AllReadyH.cons (o:=_) rfl (fun KK hKK=>?_) AllReadyH.nil;go_simp
     refine hKK.out _ _ ?_ (fun hHeld=>?_)
     ·with_reducible exact⟨BX.out.cell,BV.out.cell⟩
     clear hKK KK d f;(try simp only[Act.put,SK,SS]);replace BX:=BX.out;replace BV:=BV.out;replace NX:=NX.out;replace NY:=NY.out;replace n1:=n1.out;replace n2:=n2.out;replace G:=G.out;have d:=NY.cell;have f:=NY.frozen;have P:=putL_all (Z:=[.slice none 0 0,.slice none 0 0,.slice none 0 0,.bool false,.int .i64 0,.slice none 0 0,.slice none 0 0,.slice none 0 0,.bool false]) NY (l:=[.slice e1 q.kid.length g1,.slice e2 q.ak.length g2,.slice e3 q.us.length g3,.bool q.au,.int .i64 q.pa,.slice e4 q.ps.length g4,.slice e5 q.fs.length g5,.slice e6 q.pu.length g6,.bool q.nc]) rfl;simp only[putL]at P
     replace BX:=BX.fr P.2 (by omega);replace BV:=BV.fr P.2 (by omega);replace n1:=n1.step P.2 (K':=(fun k=>False∨k=zy∨k=zx)) (fun k _ e=>by first|exact .inr e|exact .inr (.inl e)|exact .inr (.inr e)|exact .inl (.inr e)) (fun k hk=>.inl hk);replace n2:=n2.step P.2 (K':=(fun k=>False∨k=zy∨k=zx)) (fun k _ e=>by first|exact .inr e|exact .inr (.inl e)|exact .inr (.inr e)|exact .inl (.inr e)) (fun k hk=>.inl hk);replace NX:=NX.fr P.2 (by omega);replace NY:=P.1;replace G:=G.trans' P.2 (fun i hi e=>by omega);clear P;replace BX:=Hi BX;replace BV:=Hi BV;replace NX:=Hi NX;replace NY:=Hi NY;replace n1:=Hi n1
     replace n2:=Hi n2;replace G:=Hi G;refine wpAnyH_ready (rs:=[7]) (by kernel_rfl) (by simp) ?_;refine AllReadyH.cons (o:=_) rfl (fun KK hKK=>?_) AllReadyH.nil;go_simp
     refine hKK.out _ _ ?_ (fun hHeld=>?_)
     ·with_reducible exact⟨BX.out.cell,BV.out.cell⟩
     clear hKK KK d f;(try simp only[Act.put,SK,SS]);replace BX:=BX.out;replace BV:=BV.out;replace NX:=NX.out;replace NY:=NY.out;replace n1:=n1.out;replace n2:=n2.out;replace G:=G.out;refine wpAnyH_done (by kernel_rfl) ?_ _;refine NoPanic.normal ?_;go_wp2_with fail
     go_meet
     with_reducible exact⟨_,_,_,_,_,_,_,_,_,_,_,_,_,_,_,_,_,_,_,_,_,_,_,_,_,_,_,_,rfl,rfl,NX,NY,n1.now,n2.now,G⟩
  ·go_simp
   skip
   refine hKK.out _ _ ?_ (fun hHeld=>?_)
   ·exact⟨(BX.alloc _).cell,(BV.alloc _).cell⟩
   clear hKK KK;(try simp only[Act.put,SK,SS]);obtain⟨zx,hz0⟩:∃ z,z=wd.heap.size:=⟨_,rfl⟩
   have NX:=Blk.new wd 92 #[.bool false,.slice none 0 0,.slice none 0 0,.slice none 0 0,.int .i64 0,.int .i64 0,.slice none 0 0,.slice none 0 0,.slice none 0 0,.slice none 0 0];rw[←hz0]at NX ⊢
   replace BX:=BX.alloc (.cells #[.bool false,.slice none 0 0,.slice none 0 0,.slice none 0 0,.int .i64 0,.int .i64 0,.slice none 0 0,.slice none 0 0,.slice none 0 0,.slice none 0 0] 92);replace BV:=BV.alloc (.cells #[.bool false,.slice none 0 0,.slice none 0 0,.slice none 0 0,.int .i64 0,.int .i64 0,.slice none 0 0,.slice none 0 0,.slice none 0 0,.slice none 0 0] 92);have hw0:w1.heap.size≤zx:=by have:=G.size;omega
   replace G:=G.alloc (.cells #[.bool false,.slice none 0 0,.slice none 0 0,.slice none 0 0,.int .i64 0,.int .i64 0,.slice none 0 0,.slice none 0 0,.slice none 0 0,.slice none 0 0] 92);clear hz0;generalize (wd.alloc (.cells #[.bool false,.slice none 0 0,.slice none 0 0,.slice none 0 0,.int .i64 0,.int .i64 0,.slice none 0 0,.slice none 0 0,.slice none 0 0,.slice none 0 0] 92))=wa0 at *
   refine wpAnyH_ready (rs:=[1,5]) (by kernel_rfl) (by simp) ?_;refine AllReadyH.cons (o:=_) rfl (fun KK hKK=>?_) (AllReadyH.cons (o:=_) rfl (fun KK hKK=>?_) AllReadyH.nil)
   ·go_simp
    (go_at_call 19;(with_reducible refine(HT.out _ G).mono ?_);rintro e w1x ⟨⟨a1,c1,a2,c2,a3,c3,a4,c4,a5,c5,a6,c6,a7,c7,rfl,hq1⟩,F⟩;have n1:=hq1.weaken (K':=(fun k=>False∨k=zx)) (fun k hk=>by (rcases hk with hk|hk;(exact hk.elim);(have h3:=NX.lt;exact⟨by omega,by omega⟩)));clear hq1;replace BX:=BX.fr F (fun h=>h);replace BV:=BV.fr F (fun h=>h);replace NX:=NX.fr F (fun h=>h);replace G:=G.trans F;clear F;go_wp2_with fail)
    refine hKK.out _ _ ?_ (fun hHeld=>?_)
    ·exact⟨BX.cell,BV.cell⟩
    clear hKK KK;(try simp only[Act.put,SK,SS]);refine wpAnyH_ready (rs:=[3,5]) (by kernel_rfl) (by simp) ?_;refine AllReadyH.cons (o:=_) rfl (fun KK hKK=>?_) (AllReadyH.cons (o:=_) rfl (fun KK hKK=>?_) AllReadyH.nil)
    ·go_simp
     (go_at_call 20;(with_reducible refine(HU.out _ G).mono ?_);rintro e w2x ⟨⟨e1,g1,e2,g2,e3,g3,e4,g4,e5,g5,e6,g6,rfl,hq2⟩,F⟩;have n2:=hq2.weaken (K':=(fun k=>False∨k=zx)) (fun k hk=>by (rcases hk with hk|hk;(exact hk.elim);(have h3:=NX.lt;exact⟨by omega,by omega⟩)));clear hq2;replace n1:=n1.old F;replace BX:=BX.fr F (fun h=>h);replace BV:=BV.fr F (fun h=>h);replace NX:=NX.fr F (fun h=>h);replace G:=G.trans F;clear F;go_wp2_with fail)
     refine hKK.out _ _ ?_ (fun hHeld=>?_)
     ·exact⟨BX.cell,BV.cell⟩
     clear hKK KK;(try simp only[Act.put,SK,SS]);refine wpAnyH_ready (rs:=[5]) (by kernel_rfl) (by simp) ?_;refine AllReadyH.cons (o:=_) rfl (fun KK hKK=>?_) AllReadyH.nil;go_simp
     skip
     refine hKK.out _ _ ?_ (fun hHeld=>?_)
     ·exact⟨(BX.alloc _).cell,(BV.alloc _).cell⟩
     clear hKK KK;(try simp only[Act.put,SK,SS]);obtain⟨zy,hz1⟩:∃ z,z=w2x.heap.size:=⟨_,rfl⟩
     have NY:=Blk.new w2x 95 #[.slice none 0 0,.slice none 0 0,.slice none 0 0,.bool false,.int .i64 0,.slice none 0 0,.slice none 0 0,.slice none 0 0,.bool false];rw[←hz1]at NY ⊢
     replace n1:=n1.step (S:=fun _=>False) (K':=(fun k=>False∨k=zx∨k=zy)) ((Fr.refl w2x).alloc (.cells #[.slice none 0 0,.slice none 0 0,.slice none 0 0,.bool false,.int .i64 0,.slice none 0 0,.slice none 0 0,.slice none 0 0,.bool false] 95)) (fun _ _ h=>h.elim) (fun k hk=>by (rcases hk with hk|hk|hk;(exact hk.elim);(exact .inl (by first|exact .inr hk|exact .inr (.inl hk)|exact .inr (.inr hk)));(exact .inr (by omega))))
     replace n2:=n2.step (S:=fun _=>False) (K':=(fun k=>False∨k=zx∨k=zy)) ((Fr.refl w2x).alloc (.cells #[.slice none 0 0,.slice none 0 0,.slice none 0 0,.bool false,.int .i64 0,.slice none 0 0,.slice none 0 0,.slice none 0 0,.bool false] 95)) (fun _ _ h=>h.elim) (fun k hk=>by (rcases hk with hk|hk|hk;(exact hk.elim);(exact .inl (by first|exact .inr hk|exact .inr (.inl hk)|exact .inr (.inr hk)));(exact .inr (by omega))));replace BX:=BX.alloc (.cells #[.slice none 0 0,.slice none 0 0,.slice none 0 0,.bool false,.int .i64 0,.slice none 0 0,.slice none 0 0,.slice none 0 0,.bool false] 95)
     replace BV:=BV.alloc (.cells #[.slice none 0 0,.slice none 0 0,.slice none 0 0,.bool false,.int .i64 0,.slice none 0 0,.slice none 0 0,.slice none 0 0,.bool false] 95);have hne:zx≠zy:=by have:=NX.lt;omega
     replace NX:=NX.alloc (.cells #[.slice none 0 0,.slice none 0 0,.slice none 0 0,.bool false,.int .i64 0,.slice none 0 0,.slice none 0 0,.slice none 0 0,.bool false] 95);have hw1:w1.heap.size≤zy:=by have:=G.size;omega
     replace G:=G.alloc (.cells #[.slice none 0 0,.slice none 0 0,.slice none 0 0,.bool false,.int .i64 0,.slice none 0 0,.slice none 0 0,.slice none 0 0,.bool false] 95);clear hz1;generalize (w2x.alloc (.cells #[.slice none 0 0,.slice none 0 0,.slice none 0 0,.bool false,.int .i64 0,.slice none 0 0,.slice none 0 0,.slice none 0 0,.bool false] 95))=wa1 at *
     have d:=NX.cell;have f:=NX.frozen;have P:=putL_all (Z:=[.bool false,.slice none 0 0,.slice none 0 0,.slice none 0 0,.int .i64 0,.int .i64 0,.slice none 0 0,.slice none 0 0,.slice none 0 0,.slice none 0 0]) NX (l:=[.bool p.below,.slice a1 p.size.length c1,.slice a2 p.iss.length c2,.slice a3 p.sub.length c3,.int .i64 p.t0,.int .i64 p.t1,.slice a4 p.ao.length c4,.slice a5 p.ap.length c5,.slice a6 p.kn.length c6,.slice a7 p.ex.length c7]) rfl;simp only[putL]at P
     replace BX:=BX.fr P.2 (by omega);replace BV:=BV.fr P.2 (by omega);replace n1:=n1.step P.2 (K':=(fun k=>False∨k=zx∨k=zy)) (fun k _ e=>by first|exact .inr e|exact .inr (.inl e)|exact .inr (.inr e)|exact .inl (.inr e)) (fun k hk=>.inl hk);replace n2:=n2.step P.2 (K':=(fun k=>False∨k=zx∨k=zy)) (fun k _ e=>by first|exact .inr e|exact .inr (.inl e)|exact .inr (.inr e)|exact .inl (.inr e)) (fun k hk=>.inl hk);replace NY:=NY.fr P.2 (by omega);replace NX:=P.1;replace G:=G.trans' P.2 (fun i hi e=>by omega);clear P;replace BX:=Hi BX;replace BV:=Hi BV;replace NX:=Hi NX;replace NY:=Hi NY;replace n1:=Hi n1
     replace n2:=Hi n2;replace G:=Hi G;refine wpAnyH_ready (rs:=[6]) (by kernel_rfl) (by simp) ?_;refine AllReadyH.cons (o:=_) rfl (fun KK hKK=>?_) AllReadyH.nil;go_simp
     refine hKK.out _ _ ?_ (fun hHeld=>?_)
     ·with_reducible exact⟨BX.out.cell,BV.out.cell⟩
     clear hKK KK d f;(try simp only[Act.put,SK,SS]);replace BX:=BX.out;replace BV:=BV.out;replace NX:=NX.out;replace NY:=NY.out;replace n1:=n1.out;replace n2:=n2.out;replace G:=G.out;have d:=NY.cell;have f:=NY.frozen;have P:=putL_all (Z:=[.slice none 0 0,.slice none 0 0,.slice none 0 0,.bool false,.int .i64 0,.slice none 0 0,.slice none 0 0,.slice none 0 0,.bool false]) NY (l:=[.slice e1 q.kid.length g1,.slice e2 q.ak.length g2,.slice e3 q.us.length g3,.bool q.au,.int .i64 q.pa,.slice e4 q.ps.length g4,.slice e5 q.fs.length g5,.slice e6 q.pu.length g6,.bool q.nc]) rfl;simp only[putL]at P
     replace BX:=BX.fr P.2 (by omega);replace BV:=BV.fr P.2 (by omega);replace n1:=n1.step P.2 (K':=(fun k=>False∨k=zx∨k=zy)) (fun k _ e=>by first|exact .inr e|exact .inr (.inl e)|exact .inr (.inr e)|exact .inl (.inr e)) (fun k hk=>.inl hk);replace n2:=n2.step P.2 (K':=(fun k=>False∨k=zx∨k=zy)) (fun k _ e=>by first|exact .inr e|exact .inr (.inl e)|exact .inr (.inr e)|exact .inl (.inr e)) (fun k hk=>.inl hk);replace NX:=NX.fr P.2 (by omega);replace NY:=P.1;replace G:=G.trans' P.2 (fun i hi e=>by omega);clear P;replace BX:=Hi BX;replace BV:=Hi BV;replace NX:=Hi NX;replace NY:=Hi NY;replace n1:=Hi n1
     replace n2:=Hi n2;replace G:=Hi G;refine wpAnyH_ready (rs:=[7]) (by kernel_rfl) (by simp) ?_;refine AllReadyH.cons (o:=_) rfl (fun KK hKK=>?_) AllReadyH.nil;go_simp
     refine hKK.out _ _ ?_ (fun hHeld=>?_)
     ·with_reducible exact⟨BX.out.cell,BV.out.cell⟩
     clear hKK KK d f;(try simp only[Act.put,SK,SS]);replace BX:=BX.out;replace BV:=BV.out;replace NX:=NX.out;replace NY:=NY.out;replace n1:=n1.out;replace n2:=n2.out;replace G:=G.out;refine wpAnyH_done (by kernel_rfl) ?_ _;refine NoPanic.normal ?_;go_wp2_with fail
     go_meet
     with_reducible exact⟨_,_,_,_,_,_,_,_,_,_,_,_,_,_,_,_,_,_,_,_,_,_,_,_,_,_,_,_,rfl,rfl,NX,NY,n1.now,n2.now,G⟩
    ·go_simp
     skip
     refine hKK.out _ _ ?_ (fun hHeld=>?_)
     ·exact⟨(BX.alloc _).cell,(BV.alloc _).cell⟩
     clear hKK KK;(try simp only[Act.put,SK,SS]);obtain⟨zy,hz1⟩:∃ z,z=w1x.heap.size:=⟨_,rfl⟩
     have NY:=Blk.new w1x 95 #[.slice none 0 0,.slice none 0 0,.slice none 0 0,.bool false,.int .i64 0,.slice none 0 0,.slice none 0 0,.slice none 0 0,.bool false];rw[←hz1]at NY ⊢
     replace n1:=n1.step (S:=fun _=>False) (K':=(fun k=>False∨k=zx∨k=zy)) ((Fr.refl w1x).alloc (.cells #[.slice none 0 0,.slice none 0 0,.slice none 0 0,.bool false,.int .i64 0,.slice none 0 0,.slice none 0 0,.slice none 0 0,.bool false] 95)) (fun _ _ h=>h.elim) (fun k hk=>by (rcases hk with hk|hk|hk;(exact hk.elim);(exact .inl (by first|exact .inr hk|exact .inr (.inl hk)|exact .inr (.inr hk)));(exact .inr (by omega))));replace BX:=BX.alloc (.cells #[.slice none 0 0,.slice none 0 0,.slice none 0 0,.bool false,.int .i64 0,.slice none 0 0,.slice none 0 0,.slice none 0 0,.bool false] 95)
     replace BV:=BV.alloc (.cells #[.slice none 0 0,.slice none 0 0,.slice none 0 0,.bool false,.int .i64 0,.slice none 0 0,.slice none 0 0,.slice none 0 0,.bool false] 95);have hne:zx≠zy:=by have:=NX.lt;omega
     replace NX:=NX.alloc (.cells #[.slice none 0 0,.slice none 0 0,.slice none 0 0,.bool false,.int .i64 0,.slice none 0 0,.slice none 0 0,.slice none 0 0,.bool false] 95);have hw1:w1.heap.size≤zy:=by have:=G.size;omega
     replace G:=G.alloc (.cells #[.slice none 0 0,.slice none 0 0,.slice none 0 0,.bool false,.int .i64 0,.slice none 0 0,.slice none 0 0,.slice none 0 0,.bool false] 95);clear hz1;generalize (w1x.alloc (.cells #[.slice none 0 0,.slice none 0 0,.slice none 0 0,.bool false,.int .i64 0,.slice none 0 0,.slice none 0 0,.slice none 0 0,.bool false] 95))=wa1 at *
     refine wpAnyH_ready (rs:=[3]) (by kernel_rfl) (by simp) ?_;refine AllReadyH.cons (o:=_) rfl (fun KK hKK=>?_) AllReadyH.nil;go_simp
     (go_at_call 20;(with_reducible refine(HU.out _ G).mono ?_);rintro e w2x ⟨⟨e1,g1,e2,g2,e3,g3,e4,g4,e5,g5,e6,g6,rfl,hq2⟩,F⟩;have n2:=hq2.weaken (K':=(fun k=>False∨k=zx∨k=zy)) (fun k hk=>by (rcases hk with hk|hk|hk;(exact hk.elim);(have h3:=NX.lt;exact⟨by omega,by omega⟩);(have h3:=NY.lt;exact⟨by omega,by omega⟩)));clear hq2;replace n1:=n1.old F;replace BX:=BX.fr F (fun h=>h);replace BV:=BV.fr F (fun h=>h);replace NX:=NX.fr F (fun h=>h);replace NY:=NY.fr F (fun h=>h);replace G:=G.trans F;clear F;go_wp2_with fail)
     refine hKK.out _ _ ?_ (fun hHeld=>?_)
     ·exact⟨BX.cell,BV.cell⟩
     clear hKK KK;(try simp only[Act.put,SK,SS]);have d:=NX.cell;have f:=NX.frozen;have P:=putL_all (Z:=[.bool false,.slice none 0 0,.slice none 0 0,.slice none 0 0,.int .i64 0,.int .i64 0,.slice none 0 0,.slice none 0 0,.slice none 0 0,.slice none 0 0]) NX (l:=[.bool p.below,.slice a1 p.size.length c1,.slice a2 p.iss.length c2,.slice a3 p.sub.length c3,.int .i64 p.t0,.int .i64 p.t1,.slice a4 p.ao.length c4,.slice a5 p.ap.length c5,.slice a6 p.kn.length c6,.slice a7 p.ex.length c7]) rfl;simp only[putL]at P
     replace BX:=BX.fr P.2 (by omega);replace BV:=BV.fr P.2 (by omega);replace n1:=n1.step P.2 (K':=(fun k=>False∨k=zx∨k=zy)) (fun k _ e=>by first|exact .inr e|exact .inr (.inl e)|exact .inr (.inr e)|exact .inl (.inr e)) (fun k hk=>.inl hk);replace n2:=n2.step P.2 (K':=(fun k=>False∨k=zx∨k=zy)) (fun k _ e=>by first|exact .inr e|exact .inr (.inl e)|exact .inr (.inr e)|exact .inl (.inr e)) (fun k hk=>.inl hk);replace NY:=NY.fr P.2 (by omega);replace NX:=P.1;replace G:=G.trans' P.2 (fun i hi e=>by omega);clear P;replace BX:=Hi BX;replace BV:=Hi BV;replace NX:=Hi NX;replace NY:=Hi NY;replace n1:=Hi n1
     replace n2:=Hi n2;replace G:=Hi G;refine wpAnyH_ready (rs:=[6]) (by kernel_rfl) (by simp) ?_;refine AllReadyH.cons (o:=_) rfl (fun KK hKK=>?_) AllReadyH.nil;go_simp
     refine hKK.out _ _ ?_ (fun hHeld=>?_)
     ·with_reducible exact⟨BX.out.cell,BV.out.cell⟩
     clear hKK KK d f;(try simp only[Act.put,SK,SS]);replace BX:=BX.out;replace BV:=BV.out;replace NX:=NX.out;replace NY:=NY.out;replace n1:=n1.out;replace n2:=n2.out;replace G:=G.out;have d:=NY.cell;have f:=NY.frozen;have P:=putL_all (Z:=[.slice none 0 0,.slice none 0 0,.slice none 0 0,.bool false,.int .i64 0,.slice none 0 0,.slice none 0 0,.slice none 0 0,.bool false]) NY (l:=[.slice e1 q.kid.length g1,.slice e2 q.ak.length g2,.slice e3 q.us.length g3,.bool q.au,.int .i64 q.pa,.slice e4 q.ps.length g4,.slice e5 q.fs.length g5,.slice e6 q.pu.length g6,.bool q.nc]) rfl;simp only[putL]at P
     replace BX:=BX.fr P.2 (by omega);replace BV:=BV.fr P.2 (by omega);replace n1:=n1.step P.2 (K':=(fun k=>False∨k=zx∨k=zy)) (fun k _ e=>by first|exact .inr e|exact .inr (.inl e)|exact .inr (.inr e)|exact .inl (.inr e)) (fun k hk=>.inl hk);replace n2:=n2.step P.2 (K':=(fun k=>False∨k=zx∨k=zy)) (fun k _ e=>by first|exact .inr e|exact .inr (.inl e)|exact .inr (.inr e)|exact .inl (.inr e)) (fun k hk=>.inl hk);replace NX:=NX.fr P.2 (by omega);replace NY:=P.1;replace G:=G.trans' P.2 (fun i hi e=>by omega);clear P;replace BX:=Hi BX;replace BV:=Hi BV;replace NX:=Hi NX;replace NY:=Hi NY;replace n1:=Hi n1
     replace n2:=Hi n2;replace G:=Hi G;refine wpAnyH_ready (rs:=[7]) (by kernel_rfl) (by simp) ?_;refine AllReadyH.cons (o:=_) rfl (fun KK hKK=>?_) AllReadyH.nil;go_simp
     refine hKK.out _ _ ?_ (fun hHeld=>?_)
     ·with_reducible exact⟨BX.out.cell,BV.out.cell⟩
     clear hKK KK d f;(try simp only[Act.put,SK,SS]);replace BX:=BX.out;replace BV:=BV.out;replace NX:=NX.out;replace NY:=NY.out;replace n1:=n1.out;replace n2:=n2.out;replace G:=G.out;refine wpAnyH_done (by kernel_rfl) ?_ _;refine NoPanic.normal ?_;go_wp2_with fail
     go_meet
     with_reducible exact⟨_,_,_,_,_,_,_,_,_,_,_,_,_,_,_,_,_,_,_,_,_,_,_,_,_,_,_,_,rfl,rfl,NX,NY,n1.now,n2.now,G⟩
   ·go_simp
    skip
    refine hKK.out _ _ ?_ (fun hHeld=>?_)
    ·exact⟨(BX.alloc _).cell,(BV.alloc _).cell⟩
    clear hKK KK;(try simp only[Act.put,SK,SS]);obtain⟨zy,hz1⟩:∃ z,z=wa0.heap.size:=⟨_,rfl⟩
    have NY:=Blk.new wa0 95 #[.slice none 0 0,.slice none 0 0,.slice none 0 0,.bool false,.int .i64 0,.slice none 0 0,.slice none 0 0,.slice none 0 0,.bool false];rw[←hz1]at NY ⊢
    replace BX:=BX.alloc (.cells #[.slice none 0 0,.slice none 0 0,.slice none 0 0,.bool false,.int .i64 0,.slice none 0 0,.slice none 0 0,.slice none 0 0,.bool false] 95);replace BV:=BV.alloc (.cells #[.slice none 0 0,.slice none 0 0,.slice none 0 0,.bool false,.int .i64 0,.slice none 0 0,.slice none 0 0,.slice none 0 0,.bool false] 95);have hne:zx≠zy:=by have:=NX.lt;omega
    replace NX:=NX.alloc (.cells #[.slice none 0 0,.slice none 0 0,.slice none 0 0,.bool false,.int .i64 0,.slice none 0 0,.slice none 0 0,.slice none 0 0,.bool false] 95);have hw1:w1.heap.size≤zy:=by have:=G.size;omega
    replace G:=G.alloc (.cells #[.slice none 0 0,.slice none 0 0,.slice none 0 0,.bool false,.int .i64 0,.slice none 0 0,.slice none 0 0,.slice none 0 0,.bool false] 95);clear hz1;generalize (wa0.alloc (.cells #[.slice none 0 0,.slice none 0 0,.slice none 0 0,.bool false,.int .i64 0,.slice none 0 0,.slice none 0 0,.slice none 0 0,.bool false] 95))=wa1 at *
    refine wpAnyH_ready (rs:=[1]) (by kernel_rfl) (by simp) ?_;refine AllReadyH.cons (o:=_) rfl (fun KK hKK=>?_) AllReadyH.nil;go_simp
    (go_at_call 19;(with_reducible refine(HT.out _ G).mono ?_);rintro e w1x ⟨⟨a1,c1,a2,c2,a3,c3,a4,c4,a5,c5,a6,c6,a7,c7,rfl,hq1⟩,F⟩;have n1:=hq1.weaken (K':=(fun k=>False∨k=zx∨k=zy)) (fun k hk=>by (rcases hk with hk|hk|hk;(exact hk.elim);(have h3:=NX.lt;exact⟨by omega,by omega⟩);(have h3:=NY.lt;exact⟨by omega,by omega⟩)));clear hq1;replace BX:=BX.fr F (fun h=>h);replace BV:=BV.fr F (fun h=>h);replace NX:=NX.fr F (fun h=>h);replace NY:=NY.fr F (fun h=>h);replace G:=G.trans F;clear F;go_wp2_with fail)
    refine hKK.out _ _ ?_ (fun hHeld=>?_)
    ·exact⟨BX.cell,BV.cell⟩
    clear hKK KK;(try simp only[Act.put,SK,SS]);refine wpAnyH_ready (rs:=[3]) (by kernel_rfl) (by simp) ?_;refine AllReadyH.cons (o:=_) rfl (fun KK hKK=>?_) AllReadyH.nil;go_simp
    (go_at_call 20;(with_reducible refine(HU.out _ G).mono ?_);rintro e w2x ⟨⟨e1,g1,e2,g2,e3,g3,e4,g4,e5,g5,e6,g6,rfl,hq2⟩,F⟩;have n2:=hq2.weaken (K':=(fun k=>False∨k=zx∨k=zy)) (fun k hk=>by (rcases hk with hk|hk|hk;(exact hk.elim);(have h3:=NX.lt;exact⟨by omega,by omega⟩);(have h3:=NY.lt;exact⟨by omega,by omega⟩)));clear hq2;replace n1:=n1.old F;replace BX:=BX.fr F (fun h=>h);replace BV:=BV.fr F (fun h=>h);replace NX:=NX.fr F (fun h=>h);replace NY:=NY.fr F (fun h=>h);replace G:=G.trans F;clear F;go_wp2_with fail)
    refine hKK.out _ _ ?_ (fun hHeld=>?_)
    ·exact⟨BX.cell,BV.cell⟩
    clear hKK KK;(try simp only[Act.put,SK,SS]);have d:=NX.cell;have f:=NX.frozen;have P:=putL_all (Z:=[.bool false,.slice none 0 0,.slice none 0 0,.slice none 0 0,.int .i64 0,.int .i64 0,.slice none 0 0,.slice none 0 0,.slice none 0 0,.slice none 0 0]) NX (l:=[.bool p.below,.slice a1 p.size.length c1,.slice a2 p.iss.length c2,.slice a3 p.sub.length c3,.int .i64 p.t0,.int .i64 p.t1,.slice a4 p.ao.length c4,.slice a5 p.ap.length c5,.slice a6 p.kn.length c6,.slice a7 p.ex.length c7]) rfl;simp only[putL]at P
    replace BX:=BX.fr P.2 (by omega);replace BV:=BV.fr P.2 (by omega);replace n1:=n1.step P.2 (K':=(fun k=>False∨k=zx∨k=zy)) (fun k _ e=>by first|exact .inr e|exact .inr (.inl e)|exact .inr (.inr e)|exact .inl (.inr e)) (fun k hk=>.inl hk);replace n2:=n2.step P.2 (K':=(fun k=>False∨k=zx∨k=zy)) (fun k _ e=>by first|exact .inr e|exact .inr (.inl e)|exact .inr (.inr e)|exact .inl (.inr e)) (fun k hk=>.inl hk);replace NY:=NY.fr P.2 (by omega);replace NX:=P.1;replace G:=G.trans' P.2 (fun i hi e=>by omega);clear P;replace BX:=Hi BX;replace BV:=Hi BV;replace NX:=Hi NX;replace NY:=Hi NY;replace n1:=Hi n1
    replace n2:=Hi n2;replace G:=Hi G;refine wpAnyH_ready (rs:=[6]) (by kernel_rfl) (by simp) ?_;refine AllReadyH.cons (o:=_) rfl (fun KK hKK=>?_) AllReadyH.nil;go_simp
    refine hKK.out _ _ ?_ (fun hHeld=>?_)
    ·with_reducible exact⟨BX.out.cell,BV.out.cell⟩
    clear hKK KK d f;(try simp only[Act.put,SK,SS]);replace BX:=BX.out;replace BV:=BV.out;replace NX:=NX.out;replace NY:=NY.out;replace n1:=n1.out;replace n2:=n2.out;replace G:=G.out;have d:=NY.cell;have f:=NY.frozen;have P:=putL_all (Z:=[.slice none 0 0,.slice none 0 0,.slice none 0 0,.bool false,.int .i64 0,.slice none 0 0,.slice none 0 0,.slice none 0 0,.bool false]) NY (l:=[.slice e1 q.kid.length g1,.slice e2 q.ak.length g2,.slice e3 q.us.length g3,.bool q.au,.int .i64 q.pa,.slice e4 q.ps.length g4,.slice e5 q.fs.length g5,.slice e6 q.pu.length g6,.bool q.nc]) rfl;simp only[putL]at P
    replace BX:=BX.fr P.2 (by omega);replace BV:=BV.fr P.2 (by omega);replace n1:=n1.step P.2 (K':=(fun k=>False∨k=zx∨k=zy)) (fun k _ e=>by first|exact .inr e|exact .inr (.inl e)|exact .inr (.inr e)|exact .inl (.inr e)) (fun k hk=>.inl hk);replace n2:=n2.step P.2 (K':=(fun k=>False∨k=zx∨k=zy)) (fun k _ e=>by first|exact .inr e|exact .inr (.inl e)|exact .inr (.inr e)|exact .inl (.inr e)) (fun k hk=>.inl hk);replace NX:=NX.fr P.2 (by omega);replace NY:=P.1;replace G:=G.trans' P.2 (fun i hi e=>by omega);clear P;replace BX:=Hi BX;replace BV:=Hi BV;replace NX:=Hi NX;replace NY:=Hi NY;replace n1:=Hi n1
    replace n2:=Hi n2;replace G:=Hi G;refine wpAnyH_ready (rs:=[7]) (by kernel_rfl) (by simp) ?_;refine AllReadyH.cons (o:=_) rfl (fun KK hKK=>?_) AllReadyH.nil;go_simp
    refine hKK.out _ _ ?_ (fun hHeld=>?_)
    ·with_reducible exact⟨BX.out.cell,BV.out.cell⟩
    clear hKK KK d f;(try simp only[Act.put,SK,SS]);replace BX:=BX.out;replace BV:=BV.out;replace NX:=NX.out;replace NY:=NY.out;replace n1:=n1.out;replace n2:=n2.out;replace G:=G.out;refine wpAnyH_done (by kernel_rfl) ?_ _;refine NoPanic.normal ?_;go_wp2_with fail
    go_meet
    with_reducible exact⟨_,_,_,_,_,_,_,_,_,_,_,_,_,_,_,_,_,_,_,_,_,_,_,_,_,_,_,_,rfl,rfl,NX,NY,n1.now,n2.now,G⟩
  ·go_simp
   skip
   refine hKK.out _ _ ?_ (fun hHeld=>?_)
   ·exact⟨(BX.alloc _).cell,(BV.alloc _).cell⟩
   clear hKK KK;(try simp only[Act.put,SK,SS]);obtain⟨zy,hz1⟩:∃ z,z=wd.heap.size:=⟨_,rfl⟩
   have NY:=Blk.new wd 95 #[.slice none 0 0,.slice none 0 0,.slice none 0 0,.bool false,.int .i64 0,.slice none 0 0,.slice none 0 0,.slice none 0 0,.bool false];rw[←hz1]at NY ⊢
   replace BX:=BX.alloc (.cells #[.slice none 0 0,.slice none 0 0,.slice none 0 0,.bool false,.int .i64 0,.slice none 0 0,.slice none 0 0,.slice none 0 0,.bool false] 95);replace BV:=BV.alloc (.cells #[.slice none 0 0,.slice none 0 0,.slice none 0 0,.bool false,.int .i64 0,.slice none 0 0,.slice none 0 0,.slice none 0 0,.bool false] 95);have hw1:w1.heap.size≤zy:=by have:=G.size;omega
   replace G:=G.alloc (.cells #[.slice none 0 0,.slice none 0 0,.slice none 0 0,.bool false,.int .i64 0,.slice none 0 0,.slice none 0 0,.slice none 0 0,.bool false] 95);clear hz1;generalize (wd.alloc (.cells #[.slice none 0 0,.slice none 0 0,.slice none 0 0,.bool false,.int .i64 0,.slice none 0 0,.slice none 0 0,.slice none 0 0,.bool false] 95))=wa1 at *
   refine wpAnyH_ready (rs:=[1,4]) (by kernel_rfl) (by simp) ?_;refine AllReadyH.cons (o:=_) rfl (fun KK hKK=>?_) (AllReadyH.cons (o:=_) rfl (fun KK hKK=>?_) AllReadyH.nil)
   ·go_simp
    (go_at_call 19;(with_reducible refine(HT.out _ G).mono ?_);rintro e w1x ⟨⟨a1,c1,a2,c2,a3,c3,a4,c4,a5,c5,a6,c6,a7,c7,rfl,hq1⟩,F⟩;have n1:=hq1.weaken (K':=(fun k=>False∨k=zy)) (fun k hk=>by (rcases hk with hk|hk;(exact hk.elim);(have h3:=NY.lt;exact⟨by omega,by omega⟩)));clear hq1;replace BX:=BX.fr F (fun h=>h);replace BV:=BV.fr F (fun h=>h);replace NY:=NY.fr F (fun h=>h);replace G:=G.trans F;clear F;go_wp2_with fail)
    refine hKK.out _ _ ?_ (fun hHeld=>?_)
    ·exact⟨BX.cell,BV.cell⟩
    clear hKK KK;(try simp only[Act.put,SK,SS]);refine wpAnyH_ready (rs:=[3,4]) (by kernel_rfl) (by simp) ?_;refine AllReadyH.cons (o:=_) rfl (fun KK hKK=>?_) (AllReadyH.cons (o:=_) rfl (fun KK hKK=>?_) AllReadyH.nil)
    ·go_simp
     (go_at_call 20;(with_reducible refine(HU.out _ G).mono ?_);rintro e w2x ⟨⟨e1,g1,e2,g2,e3,g3,e4,g4,e5,g5,e6,g6,rfl,hq2⟩,F⟩;have n2:=hq2.weaken (K':=(fun k=>False∨k=zy)) (fun k hk=>by (rcases hk with hk|hk;(exact hk.elim);(have h3:=NY.lt;exact⟨by omega,by omega⟩)));clear hq2;replace n1:=n1.old F;replace BX:=BX.fr F (fun h=>h);replace BV:=BV.fr F (fun h=>h);replace NY:=NY.fr F (fun h=>h);replace G:=G.trans F;clear F;go_wp2_with fail)
     refine hKK.out _ _ ?_ (fun hHeld=>?_)
     ·exact⟨BX.cell,BV.cell⟩
     clear hKK KK;(try simp only[Act.put,SK,SS]);refine wpAnyH_ready (rs:=[4]) (by kernel_rfl) (by simp) ?_;refine AllReadyH.cons (o:=_) rfl (fun KK hKK=>?_) AllReadyH.nil;go_simp
     skip
     refine hKK.out _ _ ?_ (fun hHeld=>?_)
     ·exact⟨(BX.alloc _).cell,(BV.alloc _).cell⟩
     clear hKK KK;(try simp only[Act.put,SK,SS]);obtain⟨zx,hz0⟩:∃ z,z=w2x.heap.size:=⟨_,rfl⟩
     have NX:=Blk.new w2x 92 #[.bool false,.slice none 0 0,.slice none 0 0,.slice none 0 0,.int .i64 0,.int .i64 0,.slice none 0 0,.slice none 0 0,.slice none 0 0,.slice none 0 0];rw[←hz0]at NX ⊢
     replace n1:=n1.step (S:=fun _=>False) (K':=(fun k=>False∨k=zy∨k=zx)) ((Fr.refl w2x).alloc (.cells #[.bool false,.slice none 0 0,.slice none 0 0,.slice none 0 0,.int .i64 0,.int .i64 0,.slice none 0 0,.slice none 0 0,.slice none 0 0,.slice none 0 0] 92)) (fun _ _ h=>h.elim) (fun k hk=>by (rcases hk with hk|hk|hk;(exact hk.elim);(exact .inl (by first|exact .inr hk|exact .inr (.inl hk)|exact .inr (.inr hk)));(exact .inr (by omega))))
     replace n2:=n2.step (S:=fun _=>False) (K':=(fun k=>False∨k=zy∨k=zx)) ((Fr.refl w2x).alloc (.cells #[.bool false,.slice none 0 0,.slice none 0 0,.slice none 0 0,.int .i64 0,.int .i64 0,.slice none 0 0,.slice none 0 0,.slice none 0 0,.slice none 0 0] 92)) (fun _ _ h=>h.elim) (fun k hk=>by (rcases hk with hk|hk|hk;(exact hk.elim);(exact .inl (by first|exact .inr hk|exact .inr (.inl hk)|exact .inr (.inr hk)));(exact .inr (by omega))))
     replace BX:=BX.alloc (.cells #[.bool false,.slice none 0 0,.slice none 0 0,.slice none 0 0,.int .i64 0,.int .i64 0,.slice none 0 0,.slice none 0 0,.slice none 0 0,.slice none 0 0] 92);replace BV:=BV.alloc (.cells #[.bool false,.slice none 0 0,.slice none 0 0,.slice none 0 0,.int .i64 0,.int .i64 0,.slice none 0 0,.slice none 0 0,.slice none 0 0,.slice none 0 0] 92);have hne:zy≠zx:=by have:=NY.lt;omega
     replace NY:=NY.alloc (.cells #[.bool false,.slice none 0 0,.slice none 0 0,.slice none 0 0,.int .i64 0,.int .i64 0,.slice none 0 0,.slice none 0 0,.slice none 0 0,.slice none 0 0] 92);have hw0:w1.heap.size≤zx:=by have:=G.size;omega
     replace G:=G.alloc (.cells #[.bool false,.slice none 0 0,.slice none 0 0,.slice none 0 0,.int .i64 0,.int .i64 0,.slice none 0 0,.slice none 0 0,.slice none 0 0,.slice none 0 0] 92);clear hz0;generalize (w2x.alloc (.cells #[.bool false,.slice none 0 0,.slice none 0 0,.slice none 0 0,.int .i64 0,.int .i64 0,.slice none 0 0,.slice none 0 0,.slice none 0 0,.slice none 0 0] 92))=wa0 at *
     have d:=NX.cell;have f:=NX.frozen;have P:=putL_all (Z:=[.bool false,.slice none 0 0,.slice none 0 0,.slice none 0 0,.int .i64 0,.int .i64 0,.slice none 0 0,.slice none 0 0,.slice none 0 0,.slice none 0 0]) NX (l:=[.bool p.below,.slice a1 p.size.length c1,.slice a2 p.iss.length c2,.slice a3 p.sub.length c3,.int .i64 p.t0,.int .i64 p.t1,.slice a4 p.ao.length c4,.slice a5 p.ap.length c5,.slice a6 p.kn.length c6,.slice a7 p.ex.length c7]) rfl;simp only[putL]at P
     replace BX:=BX.fr P.2 (by omega);replace BV:=BV.fr P.2 (by omega);replace n1:=n1.step P.2 (K':=(fun k=>False∨k=zy∨k=zx)) (fun k _ e=>by first|exact .inr e|exact .inr (.inl e)|exact .inr (.inr e)|exact .inl (.inr e)) (fun k hk=>.inl hk);replace n2:=n2.step P.2 (K':=(fun k=>False∨k=zy∨k=zx)) (fun k _ e=>by first|exact .inr e|exact .inr (.inl e)|exact .inr (.inr e)|exact .inl (.inr e)) (fun k hk=>.inl hk);replace NY:=NY.fr P.2 (by omega);replace NX:=P.1;replace G:=G.trans' P.2 (fun i hi e=>by omega);clear P;replace BX:=Hi BX;replace BV:=Hi BV;replace NX:=Hi NX;replace NY:=Hi NY;replace n1:=Hi n1
     replace n2:=Hi n2;replace G:=Hi G;refine wpAnyH_ready (rs:=[6]) (by kernel_rfl) (by simp) ?_;refine AllReadyH.cons (o:=_) rfl (fun KK hKK=>?_) AllReadyH.nil;go_simp
     refine hKK.out _ _ ?_ (fun hHeld=>?_)
     ·with_reducible exact⟨BX.out.cell,BV.out.cell⟩
     clear hKK KK d f;(try simp only[Act.put,SK,SS]);replace BX:=BX.out;replace BV:=BV.out;replace NX:=NX.out;replace NY:=NY.out;replace n1:=n1.out;replace n2:=n2.out;replace G:=G.out;have d:=NY.cell;have f:=NY.frozen;have P:=putL_all (Z:=[.slice none 0 0,.slice none 0 0,.slice none 0 0,.bool false,.int .i64 0,.slice none 0 0,.slice none 0 0,.slice none 0 0,.bool false]) NY (l:=[.slice e1 q.kid.length g1,.slice e2 q.ak.length g2,.slice e3 q.us.length g3,.bool q.au,.int .i64 q.pa,.slice e4 q.ps.length g4,.slice e5 q.fs.length g5,.slice e6 q.pu.length g6,.bool q.nc]) rfl;simp only[putL]at P
     replace BX:=BX.fr P.2 (by omega);replace BV:=BV.fr P.2 (by omega);replace n1:=n1.step P.2 (K':=(fun k=>False∨k=zy∨k=zx)) (fun k _ e=>by first|exact .inr e|exact .inr (.inl e)|exact .inr (.inr e)|exact .inl (.inr e)) (fun k hk=>.inl hk);replace n2:=n2.step P.2 (K':=(fun k=>False∨k=zy∨k=zx)) (fun k _ e=>by first|exact .inr e|exact .inr (.inl e)|exact .inr (.inr e)|exact .inl (.inr e)) (fun k hk=>.inl hk);replace NX:=NX.fr P.2 (by omega);replace NY:=P.1;replace G:=G.trans' P.2 (fun i hi e=>by omega);clear P;replace BX:=Hi BX;replace BV:=Hi BV;replace NX:=Hi NX;replace NY:=Hi NY;replace n1:=Hi n1
     replace n2:=Hi n2;replace G:=Hi G;refine wpAnyH_ready (rs:=[7]) (by kernel_rfl) (by simp) ?_;refine AllReadyH.cons (o:=_) rfl (fun KK hKK=>?_) AllReadyH.nil;go_simp
     refine hKK.out _ _ ?_ (fun hHeld=>?_)
     ·with_reducible exact⟨BX.out.cell,BV.out.cell⟩
     clear hKK KK d f;(try simp only[Act.put,SK,SS]);replace BX:=BX.out;replace BV:=BV.out;replace NX:=NX.out;replace NY:=NY.out;replace n1:=n1.out;replace n2:=n2.out;replace G:=G.out;refine wpAnyH_done (by kernel_rfl) ?_ _;refine NoPanic.normal ?_;go_wp2_with fail
     go_meet
     with_reducible exact⟨_,_,_,_,_,_,_,_,_,_,_,_,_,_,_,_,_,_,_,_,_,_,_,_,_,_,_,_,rfl,rfl,NX,NY,n1.now,n2.now,G⟩
    ·go_simp
     skip
     refine hKK.out _ _ ?_ (fun hHeld=>?_)
     ·exact⟨(BX.alloc _).cell,(BV.alloc _).cell⟩
     clear hKK KK;(try simp only[Act.put,SK,SS]);obtain⟨zx,hz0⟩:∃ z,z=w1x.heap.size:=⟨_,rfl⟩
     have NX:=Blk.new w1x 92 #[.bool false,.slice none 0 0,.slice none 0 0,.slice none 0 0,.int .i64 0,.int .i64 0,.slice none 0 0,.slice none 0 0,.slice none 0 0,.slice none 0 0];rw[←hz0]at NX ⊢
     replace n1:=n1.step (S:=fun _=>False) (K':=(fun k=>False∨k=zy∨k=zx)) ((Fr.refl w1x).alloc (.cells #[.bool false,.slice none 0 0,.slice none 0 0,.slice none 0 0,.int .i64 0,.int .i64 0,.slice none 0 0,.slice none 0 0,.slice none 0 0,.slice none 0 0] 92)) (fun _ _ h=>h.elim) (fun k hk=>by (rcases hk with hk|hk|hk;(exact hk.elim);(exact .inl (by first|exact .inr hk|exact .inr (.inl hk)|exact .inr (.inr hk)));(exact .inr (by omega))))
     replace BX:=BX.alloc (.cells #[.bool false,.slice none 0 0,.slice none 0 0,.slice none 0 0,.int .i64 0,.int .i64 0,.slice none 0 0,.slice none 0 0,.slice none 0 0,.slice none 0 0] 92);replace BV:=BV.alloc (.cells #[.bool false,.slice none 0 0,.slice none 0 0,.slice none 0 0,.int .i64 0,.int .i64 0,.slice none 0 0,.slice none 0 0,.slice none 0 0,.slice none 0 0] 92);have hne:zy≠zx:=by have:=NY.lt;omega
     replace NY:=NY.alloc (.cells #[.bool false,.slice none 0 0,.slice none 0 0,.slice none 0 0,.int .i64 0,.int .i64 0,.slice none 0 0,.slice none 0 0,.slice none 0 0,.slice none 0 0] 92);have hw0:w1.heap.size≤zx:=by have:=G.size;omega
     replace G:=G.alloc (.cells #[.bool false,.slice none 0 0,.slice none 0 0,.slice none 0 0,.int .i64 0,.int .i64 0,.slice none 0 0,.slice none 0 0,.slice none 0 0,.slice none 0 0] 92);clear hz0;generalize (w1x.alloc (.cells #[.bool false,.slice none 0 0,.slice none 0 0,.slice none 0 0,.int .i64 0,.int .i64 0,.slice none 0 0,.slice none 0 0,.slice none 0 0,.slice none 0 0] 92))=wa0 at *
     refine wpAnyH_ready (rs:=[3]) (by kernel_rfl) (by simp) ?_;refine AllReadyH.cons (o:=_) rfl (fun KK hKK=>?_) AllReadyH.nil;go_simp
     (go_at_call 20;(with_reducible refine(HU.out _ G).mono ?_);rintro e w2x ⟨⟨e1,g1,e2,g2,e3,g3,e4,g4,e5,g5,e6,g6,rfl,hq2⟩,F⟩;have n2:=hq2.weaken (K':=(fun k=>False∨k=zy∨k=zx)) (fun k hk=>by (rcases hk with hk|hk|hk;(exact hk.elim);(have h3:=NY.lt;exact⟨by omega,by omega⟩);(have h3:=NX.lt;exact⟨by omega,by omega⟩)));clear hq2;replace n1:=n1.old F;replace BX:=BX.fr F (fun h=>h);replace BV:=BV.fr F (fun h=>h);replace NY:=NY.fr F (fun h=>h);replace NX:=NX.fr F (fun h=>h);replace G:=G.trans F;clear F;go_wp2_with fail)
     refine hKK.out _ _ ?_ (fun hHeld=>?_)
     ·exact⟨BX.cell,BV.cell⟩
     clear hKK KK;(try simp only[Act.put,SK,SS]);have d:=NX.cell;have f:=NX.frozen;have P:=putL_all (Z:=[.bool false,.slice none 0 0,.slice none 0 0,.slice none 0 0,.int .i64 0,.int .i64 0,.slice none 0 0,.slice none 0 0,.slice none 0 0,.slice none 0 0]) NX (l:=[.bool p.below,.slice a1 p.size.length c1,.slice a2 p.iss.length c2,.slice a3 p.sub.length c3,.int .i64 p.t0,.int .i64 p.t1,.slice a4 p.ao.length c4,.slice a5 p.ap.length c5,.slice a6 p.kn.length c6,.slice a7 p.ex.length c7]) rfl;simp only[putL]at P
     replace BX:=BX.fr P.2 (by omega);replace BV:=BV.fr P.2 (by omega);replace n1:=n1.step P.2 (K':=(fun k=>False∨k=zy∨k=zx)) (fun k _ e=>by first|exact .inr e|exact .inr (.inl e)|exact .inr (.inr e)|exact .inl (.inr e)) (fun k hk=>.inl hk);replace n2:=n2.step P.2 (K':=(fun k=>False∨k=zy∨k=zx)) (fun k _ e=>by first|exact .inr e|exact .inr (.inl e)|exact .inr (.inr e)|exact .inl (.inr e)) (fun k hk=>.inl hk);replace NY:=NY.fr P.2 (by omega);replace NX:=P.1;replace G:=G.trans' P.2 (fun i hi e=>by omega);clear P;replace BX:=Hi BX;replace BV:=Hi BV;replace NX:=Hi NX;replace NY:=Hi NY;replace n1:=Hi n1
     replace n2:=Hi n2;replace G:=Hi G;refine wpAnyH_ready (rs:=[6]) (by kernel_rfl) (by simp) ?_;refine AllReadyH.cons (o:=_) rfl (fun KK hKK=>?_) AllReadyH.nil;go_simp
     refine hKK.out _ _ ?_ (fun hHeld=>?_)
     ·with_reducible exact⟨BX.out.cell,BV.out.cell⟩
     clear hKK KK d f;(try simp only[Act.put,SK,SS]);replace BX:=BX.out;replace BV:=BV.out;replace NX:=NX.out;replace NY:=NY.out;replace n1:=n1.out;replace n2:=n2.out;replace G:=G.out;have d:=NY.cell;have f:=NY.frozen;have P:=putL_all (Z:=[.slice none 0 0,.slice none 0 0,.slice none 0 0,.bool false,.int .i64 0,.slice none 0 0,.slice none 0 0,.slice none 0 0,.bool false]) NY (l:=[.slice e1 q.kid.length g1,.slice e2 q.ak.length g2,.slice e3 q.us.length g3,.bool q.au,.int .i64 q.pa,.slice e4 q.ps.length g4,.slice e5 q.fs.length g5,.slice e6 q.pu.length g6,.bool q.nc]) rfl;simp only[putL]at P
     replace BX:=BX.fr P.2 (by omega);replace BV:=BV.fr P.2 (by omega);replace n1:=n1.step P.2 (K':=(fun k=>False∨k=zy∨k=zx)) (fun k _ e=>by first|exact .inr e|exact .inr (.inl e)|exact .inr (.inr e)|exact .inl (.inr e)) (fun k hk=>.inl hk);replace n2:=n2.step P.2 (K':=(fun k=>False∨k=zy∨k=zx)) (fun k _ e=>by first|exact .inr e|exact .inr (.inl e)|exact .inr (.inr e)|exact .inl (.inr e)) (fun k hk=>.inl hk);replace NX:=NX.fr P.2 (by omega);replace NY:=P.1;replace G:=G.trans' P.2 (fun i hi e=>by omega);clear P;replace BX:=Hi BX;replace BV:=Hi BV;replace NX:=Hi NX;replace NY:=Hi NY;replace n1:=Hi n1
     replace n2:=Hi n2;replace G:=Hi G;refine wpAnyH_ready (rs:=[7]) (by kernel_rfl) (by simp) ?_;refine AllReadyH.cons (o:=_) rfl (fun KK hKK=>?_) AllReadyH.nil;go_simp
     refine hKK.out _ _ ?_ (fun hHeld=>?_)
     ·with_reducible exact⟨BX.out.cell,BV.out.cell⟩
     clear hKK KK d f;(try simp only[Act.put,SK,SS]);replace BX:=BX.out;replace BV:=BV.out;replace NX:=NX.out;replace NY:=NY.out;replace n1:=n1.out;replace n2:=n2.out;replace G:=G.out;refine wpAnyH_done (by kernel_rfl) ?_ _;refine NoPanic.normal ?_;go_wp2_with fail
     go_meet
     with_reducible exact⟨_,_,_,_,_,_,_,_,_,_,_,_,_,_,_,_,_,_,_,_,_,_,_,_,_,_,_,_,rfl,rfl,NX,NY,n1.now,n2.now,G⟩
   ·go_simp
    skip
    refine hKK.out _ _ ?_ (fun hHeld=>?_)
    ·exact⟨(BX.alloc _).cell,(BV.alloc _).cell⟩
    clear hKK KK;(try simp only[Act.put,SK,SS]);obtain⟨zx,hz0⟩:∃ z,z=wa1.heap.size:=⟨_,rfl⟩
    have NX:=Blk.new wa1 92 #[.bool false,.slice none 0 0,.slice none 0 0,.slice none 0 0,.int .i64 0,.int .i64 0,.slice none 0 0,.slice none 0 0,.slice none 0 0,.slice none 0 0];rw[←hz0]at NX ⊢
    replace BX:=BX.alloc (.cells #[.bool false,.slice none 0 0,.slice none 0 0,.slice none 0 0,.int .i64 0,.int .i64 0,.slice none 0 0,.slice none 0 0,.slice none 0 0,.slice none 0 0] 92);replace BV:=BV.alloc (.cells #[.bool false,.slice none 0 0,.slice none 0 0,.slice none 0 0,.int .i64 0,.int .i64 0,.slice none 0 0,.slice none 0 0,.slice none 0 0,.slice none 0 0] 92);have hne:zy≠zx:=by have:=NY.lt;omega
    replace NY:=NY.alloc (.cells #[.bool false,.slice none 0 0,.slice none 0 0,.slice none 0 0,.int .i64 0,.int .i64 0,.slice none 0 0,.slice none 0 0,.slice none 0 0,.slice none 0 0] 92);have hw0:w1.heap.size≤zx:=by have:=G.size;omega
    replace G:=G.alloc (.cells #[.bool false,.slice none 0 0,.slice none 0 0,.slice none 0 0,.int .i64 0,.int .i64 0,.slice none 0 0,.slice none 0 0,.slice none 0 0,.slice none 0 0] 92);clear hz0;generalize (wa1.alloc (.cells #[.bool false,.slice none 0 0,.slice none 0 0,.slice none 0 0,.int .i64 0,.int .i64 0,.slice none 0 0,.slice none 0 0,.slice none 0 0,.slice none 0 0] 92))=wa0 at *
    refine wpAnyH_ready (rs:=[1]) (by kernel_rfl) (by simp) ?_;refine AllReadyH.cons (o:=_) rfl (fun KK hKK=>?_) AllReadyH.nil;go_simp
    (go_at_call 19;(with_reducible refine(HT.out _ G).mono ?_);rintro e w1x ⟨⟨a1,c1,a2,c2,a3,c3,a4,c4,a5,c5,a6,c6,a7,c7,rfl,hq1⟩,F⟩;have n1:=hq1.weaken (K':=(fun k=>False∨k=zy∨k=zx)) (fun k hk=>by (rcases hk with hk|hk|hk;(exact hk.elim);(have h3:=NY.lt;exact⟨by omega,by omega⟩);(have h3:=NX.lt;exact⟨by omega,by omega⟩)));clear hq1;replace BX:=BX.fr F (fun h=>h);replace BV:=BV.fr F (fun h=>h);replace NY:=NY.fr F (fun h=>h);replace NX:=NX.fr F (fun h=>h);replace G:=G.trans F;clear F;go_wp2_with fail)
    refine hKK.out _ _ ?_ (fun hHeld=>?_)
    ·exact⟨BX.cell,BV.cell⟩
    clear hKK KK;(try simp only[Act.put,SK,SS]);refine wpAnyH_ready (rs:=[3]) (by kernel_rfl) (by simp) ?_;refine AllReadyH.cons (o:=_) rfl (fun KK hKK=>?_) AllReadyH.nil;go_simp
    (go_at_call 20;(with_reducible refine(HU.out _ G).mono ?_);rintro e w2x ⟨⟨e1,g1,e2,g2,e3,g3,e4,g4,e5,g5,e6,g6,rfl,hq2⟩,F⟩;have n2:=hq2.weaken (K':=(fun k=>False∨k=zy∨k=zx)) (fun k hk=>by (rcases hk with hk|hk|hk;(exact hk.elim);(have h3:=NY.lt;exact⟨by omega,by omega⟩);(have h3:=NX.lt;exact⟨by omega,by omega⟩)));clear hq2;replace n1:=n1.old F;replace BX:=BX.fr F (fun h=>h);replace BV:=BV.fr F (fun h=>h);replace NY:=NY.fr F (fun h=>h);replace NX:=NX.fr F (fun h=>h);replace G:=G.trans F;clear F;go_wp2_with fail)
    refine hKK.out _ _ ?_ (fun hHeld=>?_)
    ·exact⟨BX.cell,BV.cell⟩
    clear hKK KK;(try simp only[Act.put,SK,SS]);have d:=NX.cell;have f:=NX.frozen;have P:=putL_all (Z:=[.bool false,.slice none 0 0,.slice none 0 0,.slice none 0 0,.int .i64 0,.int .i64 0,.slice none 0 0,.slice none 0 0,.slice none 0 0,.slice none 0 0]) NX (l:=[.bool p.below,.slice a1 p.size.length c1,.slice a2 p.iss.length c2,.slice a3 p.sub.length c3,.int .i64 p.t0,.int .i64 p.t1,.slice a4 p.ao.length c4,.slice a5 p.ap.length c5,.slice a6 p.kn.length c6,.slice a7 p.ex.length c7]) rfl;simp only[putL]at P
    replace BX:=BX.fr P.2 (by omega);replace BV:=BV.fr P.2 (by omega);replace n1:=n1.step P.2 (K':=(fun k=>False∨k=zy∨k=zx)) (fun k _ e=>by first|exact .inr e|exact .inr (.inl e)|exact .inr (.inr e)|exact .inl (.inr e)) (fun k hk=>.inl hk);replace n2:=n2.step P.2 (K':=(fun k=>False∨k=zy∨k=zx)) (fun k _ e=>by first|exact .inr e|exact .inr (.inl e)|exact .inr (.inr e)|exact .inl (.inr e)) (fun k hk=>.inl hk);replace NY:=NY.fr P.2 (by omega);replace NX:=P.1;replace G:=G.trans' P.2 (fun i hi e=>by omega);clear P;replace BX:=Hi BX;replace BV:=Hi BV;replace NX:=Hi NX;replace NY:=Hi NY;replace n1:=Hi n1
    replace n2:=Hi n2;replace G:=Hi G;refine wpAnyH_ready (rs:=[6]) (by kernel_rfl) (by simp) ?_;refine AllReadyH.cons (o:=_) rfl (fun KK hKK=>?_) AllReadyH.nil;go_simp
    refine hKK.out _ _ ?_ (fun hHeld=>?_)
    ·with_reducible exact⟨BX.out.cell,BV.out.cell⟩
    clear hKK KK d f;(try simp only[Act.put,SK,SS]);replace BX:=BX.out;replace BV:=BV.out;replace NX:=NX.out;replace NY:=NY.out;replace n1:=n1.out;replace n2:=n2.out;replace G:=G.out;have d:=NY.cell;have f:=NY.frozen;have P:=putL_all (Z:=[.slice none 0 0,.slice none 0 0,.slice none 0 0,.bool false,.int .i64 0,.slice none 0 0,.slice none 0 0,.slice none 0 0,.bool false]) NY (l:=[.slice e1 q.kid.length g1,.slice e2 q.ak.length g2,.slice e3 q.us.length g3,.bool q.au,.int .i64 q.pa,.slice e4 q.ps.length g4,.slice e5 q.fs.length g5,.slice e6 q.pu.length g6,.bool q.nc]) rfl;simp only[putL]at P
    replace BX:=BX.fr P.2 (by omega);replace BV:=BV.fr P.2 (by omega);replace n1:=n1.step P.2 (K':=(fun k=>False∨k=zy∨k=zx)) (fun k _ e=>by first|exact .inr e|exact .inr (.inl e)|exact .inr (.inr e)|exact .inl (.inr e)) (fun k hk=>.inl hk);replace n2:=n2.step P.2 (K':=(fun k=>False∨k=zy∨k=zx)) (fun k _ e=>by first|exact .inr e|exact .inr (.inl e)|exact .inr (.inr e)|exact .inl (.inr e)) (fun k hk=>.inl hk);replace NX:=NX.fr P.2 (by omega);replace NY:=P.1;replace G:=G.trans' P.2 (fun i hi e=>by omega);clear P;replace BX:=Hi BX;replace BV:=Hi BV;replace NX:=Hi NX;replace NY:=Hi NY;replace n1:=Hi n1
    replace n2:=Hi n2;replace G:=Hi G;refine wpAnyH_ready (rs:=[7]) (by kernel_rfl) (by simp) ?_;refine AllReadyH.cons (o:=_) rfl (fun KK hKK=>?_) AllReadyH.nil;go_simp
    refine hKK.out _ _ ?_ (fun hHeld=>?_)
    ·with_reducible exact⟨BX.out.cell,BV.out.cell⟩
    clear hKK KK d f;(try simp only[Act.put,SK,SS]);replace BX:=BX.out;replace BV:=BV.out;replace NX:=NX.out;replace NY:=NY.out;replace n1:=n1.out;replace n2:=n2.out;replace G:=G.out;refine wpAnyH_done (by kernel_rfl) ?_ _;refine NoPanic.normal ?_;go_wp2_with fail
    go_meet
    with_reducible exact⟨_,_,_,_,_,_,_,_,_,_,_,_,_,_,_,_,_,_,_,_,_,_,_,_,_,_,_,_,rfl,rfl,NX,NY,n1.now,n2.now,G⟩
 case rest=>
  obtain⟨zx,zy,a1,c1,a2,c2,a3,c3,a4,c4,a5,c5,a6,c6,a7,c7,e1,g1,e2,g2,e3,g3,e4,g4,e5,g5,e6,g6,rfl,rfl,NX,NY,hcx,hvy,FC⟩:=hcut
  have HFC:=Hi (HF0.out.trans FC);have HEC:=Hi (HE.out.old FC);have HCX:=Hi hcx;have HVY:=Hi hvy;have HO:=Hi (lawOf_any _ p.iss wc hcx.2.1 (by have:=HPI.out.1;omega) (fun r hr=>(HPI.out.2 r hr).1));clear FC hcx hvy HT HU HX HY HE HBX HBV;have n0:=NX.cell 0;have n1:=NX.cell 1;have n2:=NX.cell 2;have n3:=NX.cell 3;have n4:=NX.cell 4;have n5:=NX.cell 5;have n6:=NX.cell 6;have n7:=NX.cell 7;have n8:=NX.cell 8;have n9:=NX.cell 9;simp only[SG]at n0 n1 n2 n3 n4 n5 n6 n7 n8 n9
  go_wp2_with fail
  refine HO.out.mono ?_;rintro e w2 ⟨⟨ao,co,rfl,hrow⟩,F2⟩;clear n0 n1 n2 n3 n4 n5 n6 n7 n8 n9;have HW2:=Hi hrow.at;have HF2:=Hi F2;replace NX:=NX.fr F2 (fun h=>h);replace NY:=NY.fr F2 (fun h=>h);have H1:=Hi (fun W (F:Fz wc W)=>scPoints_any _ _ _ _ _ _ _ q p.iss W (HVY.out.old F) (HCX.out.2.1.old F) HPI.out (fun a ha=>(HSP.out.1 a ha).2) HSP.out.2.2.1);have H2:=Hi (fun W (F:Fz wc W)=>scAsks_any _ _ _ _ _ _ _ _ _ _ _ _ _ p q W (HCX.out.old F) (HVY.out.old F) HPI.out (fun a ha=>(HSP.out.1 a ha).2) HSP.out.2.2.1);obtain⟨L,hL⟩:∃ L,L=scPointsS q.ps p.iss:=⟨_,rfl⟩
  have HLA:=Hi (show asksS q.ps p.iss q.au=L.map (fun a=>⟨p.iss,q.au,a⟩) from by rw[hL];rfl);have HLM:=Hi (show refPointsS (ofView q).ps p.iss=L.map ofPt from by rw[hL];exact refPoints_map q.ps p.iss);have HLS:=Hi (show ∀ a∈L,smallPt a from by
   rw[hL]
   unfold scPointsS;split
   ·intro a ha
    rw[List.mem_singleton.1 ha]
    exact dirPt_small HPI.out
   ·exact fun a ha=>(HSP.out.1 a ha).1)
  have HLB:=Hi (show L.length≤1000000 from by
   rw[hL]
   unfold scPointsS;split
   ·show (1:Nat)≤1000000
    omega
   ·exact HSP.out.2.2.1)
  rw[←hL]at H1
  rw[HLA.out,List.length_map]at H2
  clear hL hrow F2 HO;go_upto_region 3 with fail
  replace NX:=NX.drew;replace NY:=NY.drew;have G:Fz w2 w2.drew:=(Fr.refl w2).drew;refine wp_region_noPanic ?_
  refine wp_region_held_drew (S:=(fun w'=>(∀ j,w'.cell? ⟨zx,j,none⟩=(#[.bool p.below,.slice a1 p.size.length c1,.slice a2 p.iss.length c2,.slice a3 p.sub.length c3,.int .i64 p.t0,.int .i64 p.t1,.slice a4 p.ao.length c4,.slice a5 p.ap.length c5,.slice a6 p.kn.length c6,.slice a7 p.ex.length c7]:Array Value)[j]?)∧∀ j,w'.cell? ⟨zy,j,none⟩=(#[.slice e1 q.kid.length g1,.slice e2 q.ak.length g2,.slice e3 q.us.length g3,.bool q.au,.int .i64 q.pa,.slice e4 q.ps.length g4,.slice e5 q.fs.length g5,.slice e6 q.pu.length g6,.bool q.nc]:Array Value)[j]?)) (by kernel_rfl) ?_ (fun hHeld=>?_)
  ·exact⟨NX.cell,NY.cell⟩
  refine wpAnyH_take (i:=0) (oi:=_) (v:=?_) rfl (by kernel_rfl) (by kernel_rfl) (by kernel_rfl) (fun _ _ _ h=>h) (Or.inl ⟨by rfl,?_⟩) (by assumption) ?_;rotate_left
  ·(intro W hSw;(try dsimp only at hSw);go_simp;try with_reducible rfl)
  (try simp only[Act.put,SK,SS]);refine wpAnyH_take (i:=1) (oi:=_) (v:=?_) rfl (by kernel_rfl) (by kernel_rfl) (by kernel_rfl) (fun _ _ _ h=>h) (Or.inl ⟨by rfl,?_⟩) (by assumption) ?_;rotate_left
  ·(intro W hSw;(try dsimp only at hSw);go_simp;try with_reducible rfl)
  (try simp only[Act.put,SK,SS]);refine wpAnyH_take (i:=2) (oi:=_) (v:=?_) rfl (by kernel_rfl) (by kernel_rfl) (by kernel_rfl) (fun _ _ _ h=>h) (Or.inl ⟨by rfl,?_⟩) (by assumption) ?_;rotate_left
  ·(intro W hSw;(try dsimp only at hSw);go_simp;try with_reducible rfl)
  (try simp only[Act.put,SK,SS]);refine wpAnyH_take (i:=4) (oi:=_) (v:=?_) rfl (by kernel_rfl) (by kernel_rfl) (by kernel_rfl) (fun _ _ _ h=>h) (Or.inl ⟨by rfl,?_⟩) (by assumption) ?_;rotate_left
  ·(intro W hSw;(try dsimp only at hSw);go_simp;try with_reducible rfl)
  (try simp only[Act.put,SK,SS]);refine wpAnyH_take (i:=5) (oi:=_) (v:=?_) rfl (by kernel_rfl) (by kernel_rfl) (by kernel_rfl) (fun _ _ _ h=>h) (Or.inl ⟨by rfl,?_⟩) (by assumption) ?_;rotate_left
  ·(intro W hSw;(try dsimp only at hSw);go_simp;try with_reducible rfl)
  (try simp only[Act.put,SK,SS]);refine wpAnyH_ready (rs:=[3]) (by kernel_rfl) (by simp) ?_;refine AllReadyH.cons (o:=_) rfl (fun KK hKK=>?_) AllReadyH.nil;go_simp
  (go_at_call 22;(with_reducible refine(H1.out _ (HF2.out.trans G)).mono ?_);rintro e w3 ⟨⟨al,cl,rfl,hpl⟩,F⟩;replace NX:=NX.fr F (fun h=>h);replace NY:=NY.fr F (fun h=>h);replace G:=G.trans F;clear F H1;go_wp2_with fail)
  refine hKK.out _ _ ?_ (fun hHeld=>?_)
  ·exact⟨NX.cell,NY.cell⟩
  clear hKK KK;(try simp only[Act.put,SK,SS]);refine wpAnyH_ready (rs:=[6]) (by kernel_rfl) (by simp) ?_;refine AllReadyH.cons (o:=_) rfl (fun KK hKK=>?_) AllReadyH.nil;go_simp
  (go_at_call 23;(with_reducible refine(H2.out _ (HF2.out.trans G)).mono ?_);rintro e w4 ⟨⟨aa,ca,rfl,hal⟩,F⟩;replace NX:=NX.fr F (fun h=>h);replace NY:=NY.fr F (fun h=>h);replace hpl:=Pts.old hpl F;replace G:=G.trans F;clear F H2;go_wp2_with fail)
  refine hKK.out _ _ ?_ (fun hHeld=>?_)
  ·exact⟨NX.cell,NY.cell⟩
  clear hKK KK;(try simp only[Act.put,SK,SS]);refine wpAnyH_take (i:=7) (oi:=_) (v:=?_) rfl (by kernel_rfl) (by kernel_rfl) (by kernel_rfl) (fun _ _ _ h=>h) (Or.inl ⟨by rfl,?_⟩) (by assumption) ?_;rotate_left
  ·(intro W hSw;(try dsimp only at hSw);go_simp;try with_reducible rfl)
  (try simp only[Act.put,SK,SS]);refine wpAnyH_take (i:=8) (oi:=_) (v:=?_) rfl (by kernel_rfl) (by kernel_rfl) (by kernel_rfl) (fun _ _ _ h=>h) (Or.inl ⟨by rfl,?_⟩) (by assumption) ?_;rotate_left
  ·(intro W hSw;(try dsimp only at hSw);go_simp;try with_reducible rfl)
  (try simp only[Act.put,SK,SS]);refine wpAnyH_done (by kernel_rfl) ?_ _;refine NoPanic.normal ?_;have HPL:=Hi hpl;have HAL:=Hi hal;have HG4:=Hi (HF2.out.trans G);have HWN4:=Hi (HW2.out.old G);have HNY4:=Hi NY;have HV4:=Hi (HVY.out.old (HF2.out.trans G));have HEE4:=Hi (HEC.out.old (HF2.out.trans G));have n0:=NY.cell 0;have n1:=NY.cell 1;have n2:=NY.cell 2;have n3:=NY.cell 3;have n4:=NY.cell 4;have n5:=NY.cell 5;have n6:=NY.cell 6;have n7:=NY.cell 7;have n8:=NY.cell 8;simp only[SG]at n0 n1 n2 n3 n4 n5 n6 n7 n8
  clear hpl hal G NX NY HF2 HW2 HVY HEC;have HOV:=Hi (vwOf_any _ _ _ _ _ _ q w4 w4 HV4.out (Fr.refl w4) ⟨fun a ha=>(HSP.out.1 a ha).1,HSP.out.2.2.1⟩ ⟨HSP.out.2.1,HSP.out.2.2.2⟩);go_wp2_with fail
  clear n0 n1 n2 n3 n4 n5 n6 n7 n8;refine HOV.out.mono ?_;rintro e w5 ⟨⟨i1,h1,i2,h2,i3,h3,i4,h4,i5,h5,i6,h6,rfl,hk⟩,F5⟩;have hvd:=hk.now;have HRP:=r23Points_any _ _ _ _ _ _ _ (ofView q) p.iss w5 hvd (HWN4.out.old F5);rw[HLM.out,List.length_map]at HRP
  simp only[ofView,List.length_map]at HRP
  have HRP:=Hi HRP;have HF5:=Hi F5;clear hk hvd F5 HOV HV4;go_wp2_with fail
  refine HRP.out.mono ?_;rintro e w6 ⟨⟨am,cm,rfl,hmd⟩,F6⟩;have HMP:=Hi hmd;have HG6:=Hi (HF5.out.trans F6);clear hmd F6 HRP HF5;go_wp2_with fail
  refine(scKnown_any _ (HEE4.out.old HG6.out)).mono ?_
  rintro e w7 ⟨rfl,F7⟩;have HG7:=Hi (HG6.out.trans F7);have HPL7:=Hi (Pts.old HPL.out HG7.out);have HAL7:=Hi (AsksL.old HAL.out HG7.out);have HMP7:=Hi (Pds.old HMP.out F7);have HWN7:=Hi (HWN4.out.old HG7.out);have HNY7:=Hi (HNY4.out.fr HG7.out (fun h=>h));have HF7:=Hi (HFC.out.trans (HG4.out.trans HG7.out));clear F7 HG6 HPL HAL HMP HWN4 HNY4 HEE4 HG4 HFC HG7;have hlb:=HLB.out;go_wp2_with fail
  go_loopg [11] L.length (fun g i wr=>∃ j:Nat,g=L.length-j∧j≤L.length∧i=.int .i64 j∧Fz w7 wr)
  case atStart=>exact⟨0,rfl,Nat.zero_le _,rfl,Fr.refl _⟩
  case round=>
   obtain⟨j,hg,hj,rfl,F⟩:=hrel
   have HG:=Hi hg;have HF:=Hi F;clear hg;by_cases hjl:j<L.length
   ·obtain⟨t,ht⟩:∃ t,L[j]? = some t:=⟨_,List.getElem?_eq_getElem hjl⟩
    obtain⟨d,hd⟩:∃ d,d=ofPt t:=⟨_,rfl⟩
    obtain⟨bl,ol,cs,rfl,-,-,hr1,hx1⟩:=LAt.get HPL7.out ht
    obtain⟨u1,u2,u3,u4,u5,rfl,hin1⟩:=hr1.form
    have hm2:(L.map ofPt)[j]? = some d:=by rw[List.getElem?_map,ht,hd];rfl
    have hmp:=HMP7.out;obtain⟨bm,om,cs,rfl,-,-,hr2,hx2⟩:=LAt.get hmp hm2
    obtain⟨m1,n1,m2,n2,m3,n3,m4,n4,rfl,hin2⟩:=hr2.form
    have hm3:(L.map (fun a=>(⟨p.iss,q.au,a⟩:AskT)))[j]? = some ⟨p.iss,q.au,t⟩:=by rw[List.getElem?_map,ht];rfl
    have hap:=HAL7.out;obtain⟨ba,oa,cs,rfl,-,-,hr3,hx3⟩:=LAt.get hap hm3
    obtain⟨vn,vp',vr',vi',rfl,hnm,hin3⟩:=hr3
    obtain⟨o1,o2,rfl⟩:=NameAt.shape hnm
    obtain⟨o3,o4,o5,o6,o7,rfl,rfl,rfl⟩:=hin3.form
    have hcells:wr.cell? ⟨bl,ol+j*3,none⟩=some (.pointer u1)∧wr.cell? ⟨bl,ol+j*3+1,none⟩=some (.slice u2 t.rs.length u3)∧wr.cell? ⟨bl,ol+j*3+2,none⟩=some (.slice u4 t.is.length u5)∧wr.cell? ⟨bm,om+j*5,none⟩=some (.bool d.has)∧wr.cell? ⟨bm,om+j*5+1,none⟩=some (.slice m1 d.ns.length n1)∧wr.cell? ⟨bm,om+j*5+2,none⟩=some (.slice m2 d.st.length n2)∧wr.cell? ⟨bm,om+j*5+3,none⟩=some (.slice m3 d.rs.length n3)∧wr.cell? ⟨bm,om+j*5+4,none⟩=some (.slice m4 d.is.length n4)∧wr.cell? ⟨ba,oa+j*5,none⟩=some (.slice o1 p.iss.length o2)∧wr.cell? ⟨ba,oa+j*5+1,none⟩=some (.bool q.au)∧wr.cell? ⟨ba,oa+j*5+2,none⟩=some (.pointer o3)∧wr.cell? ⟨ba,oa+j*5+3,none⟩=some (.slice o4 t.rs.length o5)∧wr.cell? ⟨ba,oa+j*5+4,none⟩=some (.slice o6 t.is.length o7)∧wr.cell? ⟨zy,3,none⟩=some (.bool q.au):=by
     have ny:=HNY7.out.cell 3;simp only[SG]at ny
     have f1:=fun k v h=>F.cell (hx1 k v h) (fun h=>h)
     have f2:=fun k v h=>F.cell (hx2 k v h) (fun h=>h)
     have f3:=fun k v h=>F.cell (hx3 k v h) (fun h=>h)
     exact⟨f1 0 _ rfl,f1 1 _ rfl,f1 2 _ rfl,f2 0 _ rfl,f2 1 _ rfl,f2 2 _ rfl,f2 3 _ rfl,f2 4 _ rfl,f3 0 _ rfl,f3 1 _ rfl,f3 2 _ rfl,f3 3 _ rfl,f3 4 _ rfl,F.cell ny (fun h=>h)⟩
    have HSS:=Hi (show ∀ W,Fz wr W→W.cell? ⟨bl,ol+j*3,none⟩=some (.pointer u1)∧W.cell? ⟨bl,ol+j*3+1,none⟩=some (.slice u2 t.rs.length u3)∧W.cell? ⟨bl,ol+j*3+2,none⟩=some (.slice u4 t.is.length u5)∧W.cell? ⟨bm,om+j*5,none⟩=some (.bool d.has)∧W.cell? ⟨bm,om+j*5+1,none⟩=some (.slice m1 d.ns.length n1)∧W.cell? ⟨bm,om+j*5+2,none⟩=some (.slice m2 d.st.length n2)∧W.cell? ⟨bm,om+j*5+3,none⟩=some (.slice m3 d.rs.length n3)∧W.cell? ⟨bm,om+j*5+4,none⟩=some (.slice m4 d.is.length n4)∧W.cell? ⟨ba,oa+j*5,none⟩=some (.slice o1 p.iss.length o2)∧W.cell? ⟨ba,oa+j*5+1,none⟩=some (.bool q.au)∧W.cell? ⟨ba,oa+j*5+2,none⟩=some (.pointer o3)∧W.cell? ⟨ba,oa+j*5+3,none⟩=some (.slice o4 t.rs.length o5)∧W.cell? ⟨ba,oa+j*5+4,none⟩=some (.slice o6 t.is.length o7)∧W.cell? ⟨zy,3,none⟩=some (.bool q.au) from fun W f=>by
     obtain⟨z1,z2,z3,z4,z5,z6,z7,z8,z9,z10,z11,z12,z13,z14⟩:=hcells
     exact⟨f.cell z1 (fun h=>h),f.cell z2 (fun h=>h),f.cell z3 (fun h=>h),f.cell z4 (fun h=>h),f.cell z5 (fun h=>h),f.cell z6 (fun h=>h),f.cell z7 (fun h=>h),f.cell z8 (fun h=>h),f.cell z9 (fun h=>h),f.cell z10 (fun h=>h),f.cell z11 (fun h=>h),f.cell z12 (fun h=>h),f.cell z13 (fun h=>h),f.cell z14 (fun h=>h)⟩)
    have HMD:=Hi (PdIn.old hin2 F);have HWN:=Hi (HWN7.out.old F);have hsm:=HLS.out t (List.mem_of_getElem? ht);have H4:=Hi (fun W (f:Fz wr W)=>pointOf_as _ _ _ t d hd wr W (PtIn.old hin1 F) f hsm);have H5:=Hi (fun W (f:Fz wr W)=>pointOf_as _ _ _ t d hd wr W (PtIn.old hin3 F) f hsm);have H6:=Hi (fun W (f:Fz wr W)=>lawOf_any _ p.iss W ((hnm.old F).old f) (by have:=HPI.out.1;omega) (fun r hr=>(HPI.out.2 r hr).1));have r1:(0:Int)≤(j:Int):=by omega
    have r2:(j:Int)<(L.length:Int):=by omega
    clear ht hd hr1 hx1 hin1 hm2 hmp hr2 hx2 hin2 hm3 hap hx3 hnm hin3 hcells hsm F;go_upto_region 10 with fail
    have G:Fz wr wr.drew:=(Fr.refl wr).drew;refine wp_region_noPanic ?_
    refine wp_region_held_drew (S:=(fun w'=>w'.cell? ⟨bl,ol+j*3,none⟩=some (.pointer u1)∧w'.cell? ⟨bl,ol+j*3+1,none⟩=some (.slice u2 t.rs.length u3)∧w'.cell? ⟨bl,ol+j*3+2,none⟩=some (.slice u4 t.is.length u5)∧w'.cell? ⟨bm,om+j*5,none⟩=some (.bool d.has)∧w'.cell? ⟨bm,om+j*5+1,none⟩=some (.slice m1 d.ns.length n1)∧w'.cell? ⟨bm,om+j*5+2,none⟩=some (.slice m2 d.st.length n2)∧w'.cell? ⟨bm,om+j*5+3,none⟩=some (.slice m3 d.rs.length n3)∧w'.cell? ⟨bm,om+j*5+4,none⟩=some (.slice m4 d.is.length n4)∧w'.cell? ⟨ba,oa+j*5,none⟩=some (.slice o1 p.iss.length o2)∧w'.cell? ⟨ba,oa+j*5+1,none⟩=some (.bool q.au)∧w'.cell? ⟨ba,oa+j*5+2,none⟩=some (.pointer o3)∧w'.cell? ⟨ba,oa+j*5+3,none⟩=some (.slice o4 t.rs.length o5)∧w'.cell? ⟨ba,oa+j*5+4,none⟩=some (.slice o6 t.is.length o7)∧w'.cell? ⟨zy,3,none⟩=some (.bool q.au))) (by kernel_rfl) ?_ (fun hHeld=>?_)
    ·exact HSS.out _ G
    refine wpAnyH_take (i:=0) (oi:=_) (v:=?_) rfl (by kernel_rfl) (by kernel_rfl) (by kernel_rfl) (fun _ _ _ h=>h) (Or.inl ⟨by rfl,?_⟩) (by assumption) ?_;rotate_left
    ·(intro W hSw;(try dsimp only at hSw);go_simp;try with_reducible rfl)
    (try simp only[Act.put,SK,SS]);refine wpAnyH_take (i:=1) (oi:=_) (v:=?_) rfl (by kernel_rfl) (by kernel_rfl) (by kernel_rfl) (fun _ _ _ h=>h) (Or.inl ⟨by rfl,?_⟩) (by assumption) ?_;rotate_left
    ·(intro W hSw;(try dsimp only at hSw);go_simp;try with_reducible rfl)
    (try simp only[Act.put,SK,SS]);refine wpAnyH_take (i:=2) (oi:=_) (v:=?_) rfl (by kernel_rfl) (by kernel_rfl) (by kernel_rfl) (fun _ _ _ h=>h) (Or.inl ⟨by rfl,?_⟩) (by assumption) ?_;rotate_left
    ·(intro W hSw;(try dsimp only at hSw);go_simp;try with_reducible rfl)
    (try simp only[Act.put,SK,SS]);refine wpAnyH_take (i:=3) (oi:=_) (v:=?_) rfl (by kernel_rfl) (by kernel_rfl) (by kernel_rfl) (fun _ _ _ h=>h) (Or.inl ⟨by rfl,?_⟩) (by assumption) ?_;rotate_left
    ·(intro W hSw;(try dsimp only at hSw);go_simp;try with_reducible rfl)
    (try simp only[Act.put,SK,SS]);refine wpAnyH_take (i:=5) (oi:=_) (v:=?_) rfl (by kernel_rfl) (by kernel_rfl) (by kernel_rfl) (fun _ _ _ h=>h) (Or.inl ⟨by rfl,?_⟩) (by assumption) ?_;rotate_left
    ·(intro W hSw;(try dsimp only at hSw);go_simp;try with_reducible rfl)
    (try simp only[Act.put,SK,SS]);refine wpAnyH_take (i:=6) (oi:=_) (v:=?_) rfl (by kernel_rfl) (by kernel_rfl) (by kernel_rfl) (fun _ _ _ h=>h) (Or.inl ⟨by rfl,?_⟩) (by assumption) ?_;rotate_left
    ·(intro W hSw;(try dsimp only at hSw);go_simp;try with_reducible rfl)
    (try simp only[Act.put,SK,SS]);refine wpAnyH_take (i:=7) (oi:=_) (v:=?_) rfl (by kernel_rfl) (by kernel_rfl) (by kernel_rfl) (fun _ _ _ h=>h) (Or.inl ⟨by rfl,?_⟩) (by assumption) ?_;rotate_left
    ·(intro W hSw;(try dsimp only at hSw);go_simp;try with_reducible rfl)
    (try simp only[Act.put,SK,SS]);refine wpAnyH_take (i:=8) (oi:=_) (v:=?_) rfl (by kernel_rfl) (by kernel_rfl) (by kernel_rfl) (fun _ _ _ h=>h) (Or.inl ⟨by rfl,?_⟩) (by assumption) ?_;rotate_left
    ·(intro W hSw;(try dsimp only at hSw);go_simp;try with_reducible rfl)
    (try simp only[Act.put,SK,SS]);refine wpAnyH_ready (rs:=[4]) (by kernel_rfl) (by simp) ?_;refine AllReadyH.cons (o:=_) rfl (fun KK hKK=>?_) AllReadyH.nil;go_simp
    (go_at_call 27;(with_reducible refine(H4.out _ G).mono ?_);rintro e wn ⟨⟨r1',s1',r2',s2',r3',s3',r4',s4',rfl,hq⟩,F⟩;have hpd:=hq.now;clear hq;replace G:=G.trans F;clear F;go_wp2_with fail)
    refine hKK.out _ _ ?_ (fun hHeld=>?_)
    ·exact HSS.out _ G
    clear hKK KK;(try simp only[Act.put,SK,SS]);refine wpAnyH_ready (rs:=[9]) (by kernel_rfl) (by simp) ?_;refine AllReadyH.cons (o:=_) rfl (fun KK hKK=>?_) AllReadyH.nil;go_simp
    (go_at_call 26;(with_reducible refine(likePoint_self _ _ _ _ _ _ _ _ d _ hpd (HMD.out.old G)).mono ?_);rintro e wn ⟨rfl,F⟩;clear hpd;replace G:=G.trans F;clear F;go_wp2_with fail)
    refine hKK.out _ _ ?_ (fun hHeld=>?_)
    ·exact HSS.out _ G
    clear hKK KK;(try simp only[Act.put,SK,SS]);refine wpAnyH_take (i:=10) (oi:=_) (v:=?_) rfl (by kernel_rfl) (by kernel_rfl) (by kernel_rfl) (fun _ _ _ h=>h) (Or.inl ⟨by rfl,?_⟩) (by assumption) ?_;rotate_left
    ·(intro W hSw;(try dsimp only at hSw);go_simp;try with_reducible rfl)
    (try simp only[Act.put,SK,SS]);refine wpAnyH_take (i:=11) (oi:=_) (v:=?_) rfl (by kernel_rfl) (by kernel_rfl) (by kernel_rfl) (fun _ _ _ h=>h) (Or.inl ⟨by rfl,?_⟩) (by assumption) ?_;rotate_left
    ·(intro W hSw;(try dsimp only at hSw);go_simp;try with_reducible rfl)
    (try simp only[Act.put,SK,SS]);refine wpAnyH_take (i:=12) (oi:=_) (v:=?_) rfl (by kernel_rfl) (by kernel_rfl) (by kernel_rfl) (fun _ _ _ h=>h) (Or.inl ⟨by kernel_rfl,?_⟩) (by assumption) ?_;rotate_left
    ·(intro W hSw;(try dsimp only at hSw);go_simp;try with_reducible rfl)
    (try simp only[Act.put,SK,SS]);refine wpAnyH_take (i:=13) (oi:=_) (v:=?_) rfl (by kernel_rfl) (by kernel_rfl) (by kernel_rfl) (fun _ _ _ h=>h) (Or.inl ⟨by kernel_rfl,?_⟩) (by assumption) ?_;rotate_left
    ·(intro W hSw;(try dsimp only at hSw);go_simp;try with_reducible rfl)
    (try simp only[Act.put,SK,SS]);refine wpAnyH_take (i:=14) (oi:=_) (v:=?_) rfl (by kernel_rfl) (by kernel_rfl) (by kernel_rfl) (fun _ _ _ h=>h) (Or.inl ⟨by kernel_rfl,?_⟩) (by assumption) ?_;rotate_left
    ·(intro W hSw;(try dsimp only at hSw);go_simp;try with_reducible rfl)
    (try simp only[Act.put,SK,SS]);refine wpAnyH_take (i:=15) (oi:=_) (v:=?_) rfl (by kernel_rfl) (by kernel_rfl) (by kernel_rfl) (fun _ _ _ h=>h) (Or.inl ⟨by kernel_rfl,?_⟩) (by assumption) ?_;rotate_left
    ·(intro W hSw;(try dsimp only at hSw);go_simp;try with_reducible rfl)
    (try simp only[Act.put,SK,SS]);refine wpAnyH_take (i:=16) (oi:=_) (v:=?_) rfl (by kernel_rfl) (by kernel_rfl) (by kernel_rfl) (fun _ _ _ h=>h) (Or.inl ⟨by kernel_rfl,?_⟩) (by assumption) ?_;rotate_left
    ·(intro W hSw;(try dsimp only at hSw);go_simp;try with_reducible rfl)
    (try simp only[Act.put,SK,SS]);refine wpAnyH_take (i:=18) (oi:=_) (v:=?_) rfl (by kernel_rfl) (by kernel_rfl) (by kernel_rfl) (fun _ _ _ h=>h) (Or.inl ⟨by kernel_rfl,?_⟩) (by assumption) ?_;rotate_left
    ·(intro W hSw;(try dsimp only at hSw);go_simp;try with_reducible rfl)
    (try simp only[Act.put,SK,SS]);refine wpAnyH_take (i:=19) (oi:=_) (v:=?_) rfl (by kernel_rfl) (by kernel_rfl) (by kernel_rfl) (fun _ _ _ h=>h) (Or.inl ⟨by kernel_rfl,?_⟩) (by assumption) ?_;rotate_left
    ·(intro W hSw;(try dsimp only at hSw);go_simp;try with_reducible rfl)
    (try simp only[Act.put,SK,SS]);refine wpAnyH_take (i:=20) (oi:=_) (v:=?_) rfl (by kernel_rfl) (by kernel_rfl) (by kernel_rfl) (fun _ _ _ h=>h) (Or.inl ⟨by kernel_rfl,?_⟩) (by assumption) ?_;rotate_left
    ·(intro W hSw;(try dsimp only at hSw);go_simp;try with_reducible rfl)
    (try simp only[Act.put,SK,SS]);refine wpAnyH_take (i:=21) (oi:=_) (v:=?_) rfl (by kernel_rfl) (by kernel_rfl) (by kernel_rfl) (fun _ _ _ h=>h) (Or.inl ⟨by kernel_rfl,?_⟩) (by assumption) ?_;rotate_left
    ·(intro W hSw;(try dsimp only at hSw);go_simp;try with_reducible rfl)
    (try simp only[Act.put,SK,SS]);refine wpAnyH_ready (rs:=[17]) (by kernel_rfl) (by simp) ?_;refine AllReadyH.cons (o:=_) rfl (fun KK hKK=>?_) AllReadyH.nil;go_simp
    (go_at_call 27;(with_reducible refine(H5.out _ G).mono ?_);rintro e wn ⟨⟨r1',s1',r2',s2',r3',s3',r4',s4',rfl,hq⟩,F⟩;have hpd:=hq.now;clear hq;replace G:=G.trans F;clear F;go_wp2_with fail)
    refine hKK.out _ _ ?_ (fun hHeld=>?_)
    ·exact HSS.out _ G
    clear hKK KK;(try simp only[Act.put,SK,SS]);refine wpAnyH_ready (rs:=[22]) (by kernel_rfl) (by simp) ?_;refine AllReadyH.cons (o:=_) rfl (fun KK hKK=>?_) AllReadyH.nil;go_simp
    (go_at_call 26;(with_reducible refine(likePoint_self _ _ _ _ _ _ _ _ d _ hpd (HMD.out.old G)).mono ?_);rintro e wn ⟨rfl,F⟩;clear hpd;replace G:=G.trans F;clear F;go_wp2_with fail)
    refine hKK.out _ _ ?_ (fun hHeld=>?_)
    ·exact HSS.out _ G
    clear hKK KK;(try simp only[Act.put,SK,SS]);refine wpAnyH_take (i:=23) (oi:=_) (v:=?_) rfl (by kernel_rfl) (by kernel_rfl) (by kernel_rfl) (fun _ _ _ h=>h) (Or.inl ⟨by kernel_rfl,?_⟩) (by assumption) ?_;rotate_left
    ·(intro W hSw;(try dsimp only at hSw);go_simp;try with_reducible rfl)
    (try simp only[Act.put,SK,SS]);refine wpAnyH_take (i:=24) (oi:=_) (v:=?_) rfl (by kernel_rfl) (by kernel_rfl) (by kernel_rfl) (fun _ _ _ h=>h) (Or.inl ⟨by rfl,?_⟩) (by assumption) ?_;rotate_left
    ·(intro W hSw;(try dsimp only at hSw);go_simp;try with_reducible rfl)
    (try simp only[Act.put,SK,SS]);refine wpAnyH_take (i:=25) (oi:=_) (v:=?_) rfl (by kernel_rfl) (by kernel_rfl) (by kernel_rfl) (fun _ _ _ h=>h) (Or.inl ⟨by rfl,?_⟩) (by assumption) ?_;rotate_left
    ·(intro W hSw;(try dsimp only at hSw);go_simp;try with_reducible rfl)
    (try simp only[Act.put,SK,SS]);refine wpAnyH_take (i:=26) (oi:=_) (v:=?_) rfl (by kernel_rfl) (by kernel_rfl) (by kernel_rfl) (fun _ _ _ h=>h) (Or.inl ⟨by kernel_rfl,?_⟩) (by assumption) ?_;rotate_left
    ·(intro W hSw;(try dsimp only at hSw);go_simp;try with_reducible rfl)
    (try simp only[Act.put,SK,SS]);refine wpAnyH_take (i:=27) (oi:=_) (v:=?_) rfl (by kernel_rfl) (by kernel_rfl) (by kernel_rfl) (fun _ _ _ h=>h) (Or.inl ⟨by kernel_rfl,?_⟩) (by assumption) ?_;rotate_left
    ·(intro W hSw;(try dsimp only at hSw);go_simp;try with_reducible rfl)
    (try simp only[Act.put,SK,SS]);refine wpAnyH_take (i:=28) (oi:=_) (v:=?_) rfl (by kernel_rfl) (by kernel_rfl) (by kernel_rfl) (fun _ _ _ h=>h) (Or.inl ⟨by kernel_rfl,?_⟩) (by assumption) ?_;rotate_left
    ·(intro W hSw;(try dsimp only at hSw);go_simp;try with_reducible rfl)
    (try simp only[Act.put,SK,SS]);refine wpAnyH_take (i:=29) (oi:=_) (v:=?_) rfl (by kernel_rfl) (by kernel_rfl) (by kernel_rfl) (fun _ _ _ h=>h) (Or.inl ⟨by kernel_rfl,?_⟩) (by assumption) ?_;rotate_left
    ·(intro W hSw;(try dsimp only at hSw);go_simp;try with_reducible rfl)
    (try simp only[Act.put,SK,SS]);refine wpAnyH_take (i:=30) (oi:=_) (v:=?_) rfl (by kernel_rfl) (by kernel_rfl) (by kernel_rfl) (fun _ _ _ h=>h) (Or.inl ⟨by kernel_rfl,?_⟩) (by assumption) ?_;rotate_left
    ·(intro W hSw;(try dsimp only at hSw);go_simp;try with_reducible rfl)
    (try simp only[Act.put,SK,SS]);refine wpAnyH_take (i:=32) (oi:=_) (v:=?_) rfl (by kernel_rfl) (by kernel_rfl) (by kernel_rfl) (fun _ _ _ h=>h) (Or.inl ⟨by kernel_rfl,?_⟩) (by assumption) ?_;rotate_left
    ·(intro W hSw;(try dsimp only at hSw);go_simp;try with_reducible rfl)
    (try simp only[Act.put,SK,SS]);refine wpAnyH_ready (rs:=[31]) (by kernel_rfl) (by simp) ?_;refine AllReadyH.cons (o:=_) rfl (fun KK hKK=>?_) AllReadyH.nil;go_simp
    (go_at_call 21;(with_reducible refine(H6.out _ G).mono ?_);rintro e wn ⟨⟨r1',s1',rfl,hq⟩,F⟩;have hnm:=hq.at;clear hq;replace G:=G.trans F;clear F;go_wp2_with fail)
    refine hKK.out _ _ ?_ (fun hHeld=>?_)
    ·exact HSS.out _ G
    clear hKK KK;(try simp only[Act.put,SK,SS]);refine wpAnyH_ready (rs:=[33]) (by kernel_rfl) (by simp) ?_;refine AllReadyH.cons (o:=_) rfl (fun KK hKK=>?_) AllReadyH.nil;go_simp
    (go_at_call 28;(with_reducible refine(likeName_self _ _ p.iss _ hnm (HWN.out.old G)).mono ?_);rintro e wn ⟨rfl,F⟩;clear hnm;replace G:=G.trans F;clear F;go_wp2_with fail)
    refine hKK.out _ _ ?_ (fun hHeld=>?_)
    ·exact HSS.out _ G
    clear hKK KK;(try simp only[Act.put,SK,SS]);refine wpAnyH_take (i:=34) (oi:=_) (v:=?_) rfl (by kernel_rfl) (by kernel_rfl) (by kernel_rfl) (fun _ _ _ h=>h) (Or.inl ⟨by kernel_rfl,?_⟩) (by assumption) ?_;rotate_left
    ·(intro W hSw;(try dsimp only at hSw);go_simp;try with_reducible rfl)
    (try simp only[Act.put,SK,SS]);refine wpAnyH_take (i:=35) (oi:=_) (v:=?_) rfl (by kernel_rfl) (by kernel_rfl) (by kernel_rfl) (fun _ _ _ h=>h) (Or.inl ⟨by rfl,?_⟩) (by assumption) ?_;rotate_left
    ·(intro W hSw;(try dsimp only at hSw);go_simp;try with_reducible rfl)
    (try simp only[Act.put,SK,SS]);refine wpAnyH_take (i:=36) (oi:=_) (v:=?_) rfl (by kernel_rfl) (by kernel_rfl) (by kernel_rfl) (fun _ _ _ h=>h) (Or.inl ⟨by rfl,?_⟩) (by assumption) ?_;rotate_left
    ·(intro W hSw;(try dsimp only at hSw);go_simp;try with_reducible rfl)
    (try simp only[Act.put,SK,SS]);refine wpAnyH_take (i:=37) (oi:=_) (v:=?_) rfl (by kernel_rfl) (by kernel_rfl) (by kernel_rfl) (fun _ _ _ h=>h) (Or.inl ⟨by kernel_rfl,?_⟩) (by assumption) ?_;rotate_left
    ·(intro W hSw;(try dsimp only at hSw);go_simp;try with_reducible rfl)
    (try simp only[Act.put,SK,SS]);refine wpAnyH_take (i:=38) (oi:=_) (v:=?_) rfl (by kernel_rfl) (by kernel_rfl) (by kernel_rfl) (fun _ _ _ h=>h) (Or.inl ⟨by kernel_rfl,?_⟩) (by assumption) ?_;rotate_left
    ·(intro W hSw;(try dsimp only at hSw);go_simp;try with_reducible rfl)
    (try simp only[Act.put,SK,SS]);refine wpAnyH_take (i:=39) (oi:=_) (v:=?_) rfl (by kernel_rfl) (by kernel_rfl) (by kernel_rfl) (fun _ _ _ h=>h) (Or.inl ⟨by kernel_rfl,?_⟩) (by assumption) ?_;rotate_left
    ·(intro W hSw;(try dsimp only at hSw);go_simp;try with_reducible rfl)
    (try simp only[Act.put,SK,SS]);refine wpAnyH_take (i:=40) (oi:=_) (v:=?_) rfl (by kernel_rfl) (by kernel_rfl) (by kernel_rfl) (fun _ _ _ h=>h) (Or.inl ⟨by kernel_rfl,?_⟩) (by assumption) ?_;rotate_left
    ·(intro W hSw;(try dsimp only at hSw);go_simp;try with_reducible rfl)
    (try simp only[Act.put,SK,SS]);refine wpAnyH_take (i:=41) (oi:=_) (v:=?_) rfl (by kernel_rfl) (by kernel_rfl) (by kernel_rfl) (fun _ _ _ h=>h) (Or.inl ⟨by kernel_rfl,?_⟩) (by assumption) ?_;rotate_left
    ·(intro W hSw;(try dsimp only at hSw);go_simp;try with_reducible rfl)
    (try simp only[Act.put,SK,SS]);refine wpAnyH_take (i:=42) (oi:=_) (v:=?_) rfl (by kernel_rfl) (by kernel_rfl) (by kernel_rfl) (fun _ _ _ h=>h) (Or.inl ⟨by kernel_rfl,?_⟩) (by assumption) ?_;rotate_left
    ·(intro W hSw;(try dsimp only at hSw);go_simp;try with_reducible rfl)
    (try simp only[Act.put,SK,SS]);refine wpAnyH_take (i:=43) (oi:=_) (v:=?_) rfl (by kernel_rfl) (by kernel_rfl) (by kernel_rfl) (fun _ _ _ h=>h) (Or.inl ⟨by kernel_rfl,?_⟩) (by assumption) ?_;rotate_left
    ·(intro W hSw;(try dsimp only at hSw);go_simp;try with_reducible rfl)
    (try simp only[Act.put,SK,SS]);refine wpAnyH_take (i:=44) (oi:=_) (v:=?_) rfl (by kernel_rfl) (by kernel_rfl) (by kernel_rfl) (fun _ _ _ h=>h) (Or.inl ⟨by kernel_rfl,?_⟩) (by assumption) ?_;rotate_left
    ·(intro W hSw;(try dsimp only at hSw);go_simp;try with_reducible rfl)
    (try simp only[Act.put,SK,SS]);refine wpAnyH_take (i:=45) (oi:=_) (v:=?_) rfl (by kernel_rfl) (by kernel_rfl) (by kernel_rfl) (fun _ _ _ h=>h) (Or.inl ⟨by rfl,?_⟩) (by assumption) ?_;rotate_left
    ·(intro W hSw;(try dsimp only at hSw);go_simp;try with_reducible rfl)
    (try simp only[Act.put,SK,SS]);refine wpAnyH_done (by kernel_rfl) ?_ _;refine NoPanic.normal ?_;have HFN:=Hi (HF.out.trans G);clear G;go_wp2_with fail
    go_roundg (L.length-(j+1))
    case measure=>rw[HG.out];omega
    case rel=>exact⟨j+1,rfl,by omega,by go_num,HFN.out⟩
   ·obtain rfl:j=L.length:=by omega
    clear hjl;go_wp2_with fail
    go_ret;exact⟨rfl,HF7.out.trans F⟩
end Go.Proofs.YteidmhkobmddiaaGreatDoor
