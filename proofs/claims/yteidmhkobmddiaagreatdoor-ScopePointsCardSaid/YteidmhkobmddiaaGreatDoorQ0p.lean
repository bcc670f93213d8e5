/-
  Merged by program: XPt16o XView.
-/
import Derived.Test.YteidmhkobmddiaaGreatDoorQ0n
set_option linter.unusedSimpArgs false
set_option maxRecDepth 100000
set_option maxHeartbeats 8000000
namespace Go.Q
open Go Go.RowKit
theorem RPart.keep {wb w:World}{x y:Value}{p:Part}(hx:Ints wb x p.o)(hy:Bytes wb y p.b)(F:Fr (fun k=>wb.heap.size≤k) wb w)(K:Nat→Prop)(hK:∀ k,K k→wb.heap.size≤k):Kept (fun W=>RPart W [x,y] p) K w:=
 (Kept.both (vals_keeps hx F K hK) (vals_keeps hy F K hK)).imp (fun _ h=>⟨x,y,rfl,h.1,h.2⟩)
def smallPl (o:Option WhereT):Prop:=(∀ g∈nsOf o,g.n.length≤1000000∧∀ r∈g.n,r.length≤1000000)∧(nsOf o).length≤1000000∧(stOf o).length≤1000000
def fewPts (l:List PointD):List PointT:=(l.take 4).map cutPt
theorem fewPts_take {l:List PointD}{j:Nat}{x:PointD}(h:l[j]? = some x):(l.take (j+1)).map cutPt=(l.take j).map cutPt++[cutPt x]:=by
 rw[List.take_add_one,h,List.map_append]
 rfl
theorem mapPt_take {l:List PointT}{j:Nat}{x:PointT}(h:l[j]? = some x):(l.take (j+1)).map ofPt=(l.take j).map ofPt++[ofPt x]:=by
 rw[List.take_add_one,h,List.map_append]
 rfl
theorem fewOid_take {l:List (List Int)}{j:Nat}{x:List Int}(h:l[j]? = some x):(l.take (j+1)).map (·.take 40)=(l.take j).map (·.take 40)++[x.take 40]:=by
 rw[List.take_add_one,h,List.map_append]
 rfl
end Go.Q
namespace Go.Proofs.YteidmhkobmddiaaGreatDoor
open Go Go.RowKit Go.Q
theorem ofWhere_any (q:Option Addr)(o:Option WhereT)(wb w:World)(h:PlaceAt wb (.pointer q) o)(Fb:Fz wb w)(hsm:smallPl o) :
  Calls Tryz.prog 65 #[.pointer q] w fun e w'=>(∃ a3 c3 a4 c4,e=.returned (.agg #[.bool o.isSome,.slice a3 (nsOf o).length c3,.slice a4 (stOf o).length c4])∧Kept (fun W=>Gens W (.slice a3 (nsOf o).length c3) (nsOf o)∧Attrs W (.slice a4 (stOf o).length c4) (stOf o)) (fun k=>wb.heap.size≤k∧k<w.heap.size) w')∧Fz w w':=by
 obtain⟨z,hz⟩:∃ z,z=w.heap.size:=⟨_,rfl⟩
 have HZ:=Hi hz;have HFB:=Hi Fb;have F0:Fz w (w.alloc (.cells #[.bool false,.slice none 0 0,.slice none 0 0] 26)):=(Fr.refl w).alloc _;have D:=Blk.new w 26 #[.bool false,.slice none 0 0,.slice none 0 0];rw[←hz]at D
 have hs0:w.heap.size+1=(w.alloc (.cells #[.bool false,.slice none 0 0,.slice none 0 0] 26)).heap.size:=by rw[World.size_alloc]
 have HF0:=Hi F0;have HS0:=Hi hs0;clear hz F0 hs0 Fb;cases o with
 |none=>
  obtain rfl:q=none:=by have h2:Value.pointer q=.pointer none:=h;simpa using h2
  clear h hsm;go_enter Tryz.func65,Tryz.ntmps65
  go_upto_region 1 with fail
  rw[←HZ.out]
  generalize (w.alloc (.cells #[.bool false,.slice none 0 0,.slice none 0 0] 26))=w0 at *
  have d0:=D.cell 0;have d1:=D.cell 1;have d2:=D.cell 2;have f0:=D.frozen 0;have f1:=D.frozen 1;have f2:=D.frozen 2;have D5:=putL_all (Z:=[.bool false,.slice none 0 0,.slice none 0 0]) D (l:=[.bool false,.slice none 0 0,.slice none 0 0]) rfl;simp only[putL]at D5
  simp only[SG]at d0 d1 d2
  have HF:=Hi (HF0.out.trans' D5.2 (fun i hi e=>by have:=HZ.out;omega));have n0:=D5.1.cell 0;have n1:=D5.1.cell 1;have n2:=D5.1.cell 2;simp only[SG]at n0 n1 n2
  clear D D5;go_wp2_with fail
  exact bodyPost_ret (v:=.agg #[.bool false,.slice none 0 0,.slice none 0 0]) (by simp[results,Tryz.results65,go_sem,n0,n1,n2]) rfl ⟨⟨none,0,none,0,rfl,fun W _=>⟨⟨none,0,rfl,Nat.le_refl _,Nat.zero_le _,fun h=>absurd h (by decide)⟩,⟨none,0,rfl,Nat.le_refl _,Nat.zero_le _,fun h=>absurd h (by decide)⟩⟩⟩,HF.out⟩
 |some x=>
 obtain⟨bp,a1,c1,d1,e1,hq,BP,hG,hA⟩:=h
 obtain rfl:q=some ⟨bp,0,none⟩:=by simpa using hq
 obtain⟨hs1,hs2,hs3⟩:=hsm
 simp only[nsOf,stOf,Option.isSome_some]at hs1 hs2 hs3 ⊢
 have HO:=Hi (fun W (F:Fz wb W)=>lawAllK_any _ x.ns wb W hG F hs1 hs2);have HA:=Hi hA;have HBP:=Hi BP;have HS3:=Hi hs3;have BP0:=BP.fr (HFB.out.trans HF0.out) (fun h=>h);clear hq hG hA BP hs1 hs2 hs3;go_enter Tryz.func65,Tryz.ntmps65
 go_upto_region 1 with fail
 rw[←HZ.out]
 generalize (w.alloc (.cells #[.bool false,.slice none 0 0,.slice none 0 0] 26))=w0 at *
 have p0:=BP0.cell 0;have p1:=BP0.cell 1;simp only[SG]at p0 p1
 have HD:=Hi D;clear D BP0;go_wp2_with fail
 refine(HO.out _ (HFB.out.trans HF0.out)).mono ?_
 rintro e w2 ⟨⟨a3,c3,rfl,hq⟩,F2⟩;have HK1:=Hi (hq.weaken (K':=(fun k=>wb.heap.size≤k∧k<w.heap.size+1)) (fun k hk=>⟨hk.1,by have:=HS0.out;omega⟩));have HF2:=Hi (HF0.out.trans F2);have HD2:=Hi (HD.out.fr F2 (fun h=>h));have hb2:=HBP.out.fr (HFB.out.trans (HF0.out.trans F2)) (fun h=>h);have HB2:=Hi hb2;clear hq F2 HO HD p0 p1 hb2;go_upto_region 4 with fail
 obtain⟨g,hg⟩:∃ g,g=w2.heap.size:=⟨_,rfl⟩
 have HGE:=Hi hg;have BG:=Blk.new w2 26 #[.bool true,.slice a3 x.ns.length c3,.slice none 0 0];rw[←hg]at BG ⊢
 have HF1:=Hi ((Fr.refl (S:=fun _=>False) w2).alloc (.cells #[.bool true,.slice a3 x.ns.length c3,.slice none 0 0] 26));have hs1:(w2.alloc (.cells #[.bool true,.slice a3 x.ns.length c3,.slice none 0 0] 26)).heap.size=g+1:=by rw[World.size_alloc,hg]
 have HS1:=Hi hs1;clear hg hs1;generalize w2.alloc (.cells #[.bool true,.slice a3 x.ns.length c3,.slice none 0 0] 26)=w1 at *
 have HBG:=Hi BG;clear BG;go_wp2_with fail
 go_loopg [4] x.st.length (fun m i wr=>∃ (j:Nat) (a:Option Addr) (c:Nat) (gs:List Part),m=x.st.length-j∧j≤x.st.length∧i=.int .i64 j∧gs.length=j∧Hid (gs=x.st.take j)∧GRow 2 RPart (fun k=>wb.heap.size≤k∧k<w1.heap.size) 146 wr w1.heap.size (.slice a gs.length c) gs∧Blk wr g 26 #[.bool true,.slice a3 x.ns.length c3,.slice a gs.length c]∧Fr (fun k=>k=g) w1 wr)
 case atStart=>exact⟨0,none,0,[],rfl,Nat.zero_le _,rfl,rfl,Hi rfl,GRow.nil _ _ _ _ _ _,HBG.out,Fr.refl _⟩
 case round=>
  obtain⟨j,a,c,gs,hm,hj,rfl,hgl,HGS,hrow,BG,F⟩:=hrel
  have HM:=Hi hm;have HRW:=Hi hrow;have HF:=Hi F;have HGL:=Hi hgl;have HB:=Hi BG;have hsw:=HFB.out.size;have hs2:=HF2.out.size;have HGW:=Hi (show g<w1.heap.size∧w.heap.size+1≤g from ⟨by have:=HS1.out;omega,by have h1:=HGE.out;have h2:=HD2.out.lt;have h3:=HZ.out;omega⟩);have HWR:=Hi (show Fz wb wr from ((HFB.out.trans HF2.out).trans HF1.out).trans' F (fun i hi e=>by have:=HGW.out.2;omega));have HBR:=Hi (HBP.out.fr HWR.out (fun h=>h));have i2:=HBR.out.cell 1;simp only[SG]at i2
  clear hm hrow BG;by_cases hjl:j<x.st.length
  ·have hsb3:=HS3.out
   obtain⟨p,hp⟩:∃ p,x.st[j]? = some p:=⟨_,List.getElem?_eq_getElem hjl⟩
   have hA2:=HA.out;obtain⟨_,_,he,_,_,hx⟩:=hA2
   simp only[Value.slice.injEq]at he
   obtain⟨rfl,-,rfl⟩:=he
   obtain⟨bb,oo,rfl,hy⟩:=hx (by omega)
   obtain⟨vx,vy,g1,g2,hpx,hpy⟩:=hy j p hp
   obtain⟨ax,cx,rfl,-⟩:=Ints.form hpx
   obtain⟨ay,cy,rfl,-⟩:=Vals.form hpy
   rw[Nat.mul_comm]at g1 g2
   have r1:(0:Int)≤(j:Int):=by omega
   have r2:(j:Int)<(x.st.length:Int):=by omega
   have HKP:=Hi (RPart.keep hpx hpy (HWR.out.mono (T:=fun k=>wb.heap.size≤k) (fun _ _ h=>h.elim)) (fun k=>(Value.slice a gs.length c).ownBlock=some k∨(wb.heap.size≤k∧k<w1.heap.size)) (fun k hk=>by
    have hq:=HRW.out.keep;rcases hk with hk|hk
    ·have:=(hq k hk).1;have:=HGW.out;omega
    ·exact hk.1))
   have hlo:=World.block_lt_of_cell? wb _ g1;have hlp:=HBP.out.lt;have hbW:=HFB.out.size
   have HSX:=Hi (show ∀ W {T:Nat→Prop},Fr T wr W→(∀ k,T k→w1.heap.size≤k)→W.cell? ⟨bp,1,none⟩=some (.slice (some ⟨bb,oo,none⟩) x.st.length e1)∧W.cell? ⟨bb,oo+j*2,none⟩=some (.slice ax p.o.length cx)∧W.cell? ⟨bb,oo+j*2+1,none⟩=some (.slice ay p.b.length cy) from fun W T f hT=>⟨f.cell i2 (fun h=>by have h2:w1.heap.size≤bp:=hT _ h;have:=HGW.out;omega),f.cell (HWR.out.cell g1 (fun h=>h)) (fun h=>by have h2:w1.heap.size≤bb:=hT _ h;have h3:bb<wb.heap.size:=hlo;have:=HGW.out;omega),f.cell (HWR.out.cell g2 (fun h=>h)) (fun h=>by have h2:w1.heap.size≤bb:=hT _ h;have h3:bb<wb.heap.size:=hlo;have:=HGW.out;omega)⟩)
   have HSS:=Hi (show ∀ W,Fz wr W→W.cell? ⟨g,2,none⟩=some (.slice a gs.length c)∧W.cell? ⟨bp,1,none⟩=some (.slice (some ⟨bb,oo,none⟩) x.st.length e1)∧W.cell? ⟨bb,oo+j*2,none⟩=some (.slice ax p.o.length cx)∧W.cell? ⟨bb,oo+j*2+1,none⟩=some (.slice ay p.b.length cy) from fun W f=>⟨f.cell (HB.out.cell 2) (fun h=>h),HSX.out W f (fun _ h=>h.elim)⟩);have HX:=Hi (show x.st.take (j+1)=x.st.take j++[p] from by rw[List.take_add_one,hp];rfl);clear hx hy hp g1 g2 hpx hpy hlo hlp F hgl hbW;go_upto_region 7 with fail
   clear i2;refine wp_region_N 21 (S:=fun w'=>w'.cell? ⟨g,2,none⟩=some (.slice a gs.length c)∧w'.cell? ⟨bp,1,none⟩=some (.slice (some ⟨bb,oo,none⟩) x.st.length e1)∧w'.cell? ⟨bb,oo+j*2,none⟩=some (.slice ax p.o.length cx)∧w'.cell? ⟨bb,oo+j*2+1,none⟩=some (.slice ay p.b.length cy)) (by kernel_rfl) ?_ (fun hHeld=>?_)
   ·exact HSS.out _ (Fr.refl (S:=fun _=>False) wr).drew
   refine tkN 0 rfl hHeld ?_;refine tkN 1 rfl hHeld ?_;refine tkN 2 rfl hHeld ?_;(try simp only[Act.put,SK,SS]);refine tkN 3 rfl hHeld ?_;refine tkN 4 rfl hHeld ?_;refine tkN 5 rfl hHeld ?_;(try simp only[Act.put,SK,SS]);refine tkN 6 rfl hHeld ?_;refine tkN 7 rfl hHeld ?_;refine tkN 8 rfl hHeld ?_;(try simp only[Act.put,SK,SS]);refine tkN 9 rfl hHeld ?_;refine tkN 10 rfl hHeld ?_;refine tkN 11 rfl hHeld ?_;(try simp only[Act.put,SK,SS]);refine tkN 12 rfl hHeld ?_;refine tkN 13 rfl hHeld ?_;refine tkN 14 rfl hHeld ?_;(try simp only[Act.put,SK,SS]);refine tkN 15 rfl hHeld ?_
   refine tkN 16 rfl hHeld ?_;refine tkN 17 rfl hHeld ?_;(try simp only[Act.put,SK,SS]);refine tkN 18 rfl hHeld ?_;(try simp only[Act.put,SK,SS])
   obtain⟨a7,c7,w7,hrun,hrow7,F7,-⟩:=(HRW.out.old (Fr.refl (S:=fun _=>False) wr).drew).add (s:=24) Tryz.underlying24 info146 rfl (by decide) (by decide) (by have:=HF.out.size;exact this) ((Fr.refl wr.drew).alloc (.cells #[.slice ax p.o.length cx,.slice ay p.b.length cy] 146)) wr.drew.heap.size [.slice ax p.o.length cx,.slice ay p.b.length cy] rfl (Blk.new wr.drew 146 #[.slice ax p.o.length cx,.slice ay p.b.length cy]) (by simp[Value.oneCell']) p (HKP.out.old (Fr.refl (S:=fun _=>False) wr).drew) (by have:=HGL.out;have:=HS3.out;omega)
   have hk7:=HRW.out.keep;have hk8:=hrow7.keep;have F7w:=(((Fr.refl (S:=fun _=>False) wr).drew).mono (T:=fun k=>(Value.slice a gs.length c).ownBlock=some k) (fun _ _ h=>h.elim)).trans F7;have B7:=HB.out.fr F7w (fun e=>by have:=(hk7 _ e).1;have:=HGW.out;omega);have z0:=B7.cell 2;have f0:=B7.frozen 2;have z0s:w7.cell? ⟨g,2,none⟩=some (.slice a gs.length c):=z0;have HRUN:=Hi hrun;have HS7:=Hi (HSX.out _ F7w (fun k hk=>(hk7 k hk).1));refine wpAnyN_step (i:=19) (by kernel_rfl) (o:=_) rfl (fun KK hKK=>?_);go_simp
   skip
   refine hKK.out _ _ ?_ (fun hHeld=>?_)
   ·exact HSS.out _ (((Fr.refl (S:=fun _=>False) wr).drew).alloc _)
   clear hKK KK;(try simp only[Act.put,SK,SS]);refine wpAnyN_step (i:=20) (by kernel_rfl) (o:=_) rfl (fun KK hKK=>?_);refine step_append_run (by rfl) (.tmp 24) (.tmp 42) 24 (by rfl) _ w7 (by exact HRUN.out) ?_;refine hKK.out _ _ ?_ (fun hHeld=>?_)
   ·exact⟨z0s,HS7.out⟩
   clear hKK KK;(try simp only[Act.put,SK,SS]);refine wpAnyN_last (i:=21) (by kernel_rfl) (by decide) (o:=_) rfl (fun KK hKK=>?_);go_simp
   skip
   refine hKK.out _ _ ?_;clear hKK KK;(try simp only[Act.put,SK,SS]);refine wpAnyN_last (i:=22) (by kernel_rfl) (by decide) (o:=_) rfl (fun KK hKK=>?_);go_simp
   skip
   refine hKK.out _ _ ?_;clear hKK KK;(try simp only[Act.put,SK,SS]);refine wpAnyN_done (by kernel_rfl) ?_ _;have B8:Blk (w7.setCell ⟨g,2,none⟩ (.slice a7 (gs.length+1) c7)) g 26 #[.bool true,.slice a3 x.ns.length c3,.slice a7 (gs.length+1) c7]:=B7.set 2 _;have F8:Fr (fun k=>k=g) w7 (w7.setCell ⟨g,2,none⟩ (.slice a7 (gs.length+1) c7)):=Fr.setCell (S:=fun k=>k=g) (p:=⟨g,2,none⟩) (Fr.refl w7) (fun _=>rfl) _
   have R8:=hrow7.fr F8 (fun k _ e=>by have:=HGW.out;have h2:=HFB.out.size;have e2:k=g:=e;show wb.heap.size≤k∧k<w1.heap.size;omega) (fun k hk e=>by have:=(hk8 k hk).1;have e2:k=g:=e;have:=HGW.out;omega);have HR8:=Hi R8;have HB8:=Hi B8;have HF8:=Hi ((HF.out.trans' F7w (fun i hi e=>absurd hi (by have:=(hk7 i e).1;omega))).trans' F8 (fun i hi e=>e));have HGS8:=Hi (show gs++[p]=x.st.take (j+1) from by rw[HX.out,HGS.out]);clear B8 F8 R8 hk7 hk8 F7w B7 z0 z0s f0 hrun hrow7 F7;go_wp2_with fail
   go_roundg (x.st.length-(j+1))
   case measure=>rw[HM.out];omega
   case rel=>exact⟨j+1,a7,c7,gs++[p],rfl,by omega,by go_num,by rw[List.length_append,HGL.out];rfl,HGS8,by rw[List.length_append];exact HR8.out,by rw[List.length_append];exact HB8.out,HF8.out⟩
  ·obtain rfl:j=x.st.length:=by omega
   have hgs:=HGS.out;rw[List.take_length]at hgs
   subst hgs;have FR:Fz w2 wr:=HF1.out.trans' F (fun i hi e=>by have:=HGE.out;omega);have D:=HD2.out.fr FR (fun h=>h);have d0:=D.cell 0;have d1:=D.cell 1;have d2:=D.cell 2;have f0:=D.frozen 0;have f1:=D.frozen 1;have f2:=D.frozen 2;have b0:=HB.out.cell 0;have b1:=HB.out.cell 1;have b2:=HB.out.cell 2;have D5:=putL_all (Z:=[.bool false,.slice none 0 0,.slice none 0 0]) D (l:=[.bool true,.slice a3 x.ns.length c3,.slice a x.st.length c]) rfl;simp only[putL]at D5
   simp only[SG]at d0 d1 d2 b0 b1 b2
   have hle:=HGW.out;have HK:=Hi ((Kept.both (HK1.out.old FR) ((HRW.out.kept (by decide) (fun k=>wb.heap.size≤k∧k<w.heap.size+1) (fun k hk=>⟨⟨hk.1,by omega⟩,by omega⟩)).imp (fun _ h=>LAt.attrs h))).step (K':=(fun k=>wb.heap.size≤k∧k<w.heap.size)) D5.2 (fun k hk e=>by have:=HZ.out;omega) (fun k hk=>.inl (by omega)));have HF5:=Hi ((HF2.out.trans FR).trans' D5.2 (fun i hi e=>by have:=HZ.out;omega));have n0:=D5.1.cell 0;have n1:=D5.1.cell 1;have n2:=D5.1.cell 2;simp only[SG]at n0 n1 n2
   clear D D5 FR hle F hsw hs2;go_wp2_with fail
   exact bodyPost_ret (v:=.agg #[.bool true,.slice a3 x.ns.length c3,.slice a x.st.length c]) (by simp[results,Tryz.results65,go_sem,n0,n1,n2]) rfl ⟨⟨a3,c3,a,c,rfl,HK.out⟩,HF5.out⟩
def smallPt (p:PointT):Prop:=smallPl p.pl∧(∀ g∈p.is,g.n.length≤1000000∧∀ r∈g.n,r.length≤1000000)∧p.is.length≤1000000
theorem pointOf_any (vp vr vi:Value)(p:PointT)(wb w:World)(h:PtIn wb vp vr vi p)(Fb:Fz wb w)(hsm:smallPt p) :
  Calls Tryz.prog 27 #[.agg #[vp,vr,vi]] w fun e w'=>(∃ a3 c3 a4 c4 a1 c1 a5 c5,e=.returned (.agg #[.bool p.pl.isSome,.slice a3 (nsOf p.pl).length c3,.slice a4 (stOf p.pl).length c4,.slice a1 p.rs.length c1,.slice a5 p.is.length c5])∧Kept (fun W=>PdIn W (.slice a3 (nsOf p.pl).length c3) (.slice a4 (stOf p.pl).length c4) (.slice a1 p.rs.length c1) (.slice a5 p.is.length c5) (ofPt p)) (fun k=>wb.heap.size≤k∧k<w.heap.size) w')∧Fz w w':=by
 obtain⟨q,a1,c1,a2,c2,rfl,rfl,rfl⟩:=h.form
 obtain⟨hp,hr,hi⟩:=h
 have HR:=Hi hr;obtain⟨z,hz⟩:∃ z,z=w.heap.size:=⟨_,rfl⟩
 have HZ:=Hi hz;have F0:Fz w ((w.alloc (.cells #[.pointer q,.slice a1 p.rs.length c1,.slice a2 p.is.length c2] 47)).alloc (.cells #[.bool false,.slice none 0 0,.slice none 0 0,.slice none 0 0,.slice none 0 0] 29)):=((Fr.refl w).alloc _).alloc _;have B:=(Blk.new w 47 #[.pointer q,.slice a1 p.rs.length c1,.slice a2 p.is.length c2]).alloc (.cells #[.bool false,.slice none 0 0,.slice none 0 0,.slice none 0 0,.slice none 0 0] 29)
 have D:=Blk.new (w.alloc (.cells #[.pointer q,.slice a1 p.rs.length c1,.slice a2 p.is.length c2] 47)) 29 #[.bool false,.slice none 0 0,.slice none 0 0,.slice none 0 0,.slice none 0 0];rw[World.size_alloc,←hz]at D
 rw[←hz]at B
 have hs0:w.heap.size+2=((w.alloc (.cells #[.pointer q,.slice a1 p.rs.length c1,.slice a2 p.is.length c2] 47)).alloc (.cells #[.bool false,.slice none 0 0,.slice none 0 0,.slice none 0 0,.slice none 0 0] 29)).heap.size:=by rw[World.size_alloc,World.size_alloc]
 have HFB:=Hi Fb;have H1:=Hi (fun W (F:Fz wb W)=>ofWhere_any _ p.pl wb W hp F hsm.1);have H3:=Hi (fun W (F:Fz wb W)=>lawAllK_any _ p.is wb W hi F hsm.2.1 hsm.2.2);have HF00:=Hi F0;clear hz F0 Fb hp hr hi hsm;go_enter Tryz.func27,Tryz.ntmps27
 go_upto_region 1 with fail
 rw[←HZ.out]
 have HS0:=Hi (show w.heap.size+2=((w.alloc (.cells #[.pointer q,.slice a1 p.rs.length c1,.slice a2 p.is.length c2] 47)).alloc (.cells #[.bool false,.slice none 0 0,.slice none 0 0,.slice none 0 0,.slice none 0 0] 29)).drew.heap.size from hs0);clear hs0;generalize ((w.alloc (.cells #[.pointer q,.slice a1 p.rs.length c1,.slice a2 p.is.length c2] 47)).alloc (.cells #[.bool false,.slice none 0 0,.slice none 0 0,.slice none 0 0,.slice none 0 0] 29))=w0 at *
 have HF0:=Hi (show Fz w w0.drew from HF00.out.drew);replace B:=B.drew;replace D:=D.drew;have G:Fz w0.drew w0.drew:=Fr.refl _;refine wp_region_noPanic ?_;refine wp_region_held_drew (S:=(fun w'=>∀ j,w'.cell? ⟨z,j,none⟩=(#[.pointer q,.slice a1 p.rs.length c1,.slice a2 p.is.length c2]:Array Value)[j]?)) (by kernel_rfl) ?_ (fun hHeld=>?_)
 ·exact B.cell
 refine wpAnyH_take (i:=0) (oi:=_) (v:=?_) rfl (by kernel_rfl) (by kernel_rfl) (by kernel_rfl) (fun _ _ _ h=>h) (Or.inl ⟨by rfl,?_⟩) (by assumption) ?_;rotate_left
 ·(intro W hSw;(try dsimp only at hSw);go_simp;try with_reducible rfl)
 (try simp only[Act.put,SK,SS]);refine wpAnyH_take (i:=1) (oi:=_) (v:=?_) rfl (by kernel_rfl) (by kernel_rfl) (by kernel_rfl) (fun _ _ _ h=>h) (Or.inl ⟨by rfl,?_⟩) (by assumption) ?_;rotate_left
 ·(intro W hSw;(try dsimp only at hSw);go_simp;try with_reducible rfl)
 (try simp only[Act.put,SK,SS]);refine wpAnyH_take (i:=3) (oi:=_) (v:=?_) rfl (by kernel_rfl) (by kernel_rfl) (by kernel_rfl) (fun _ _ _ h=>h) (Or.inl ⟨by rfl,?_⟩) (by assumption) ?_;rotate_left
 ·(intro W hSw;(try dsimp only at hSw);go_simp;try with_reducible rfl)
 (try simp only[Act.put,SK,SS]);refine wpAnyH_take (i:=4) (oi:=_) (v:=?_) rfl (by kernel_rfl) (by kernel_rfl) (by kernel_rfl) (fun _ _ _ h=>h) (Or.inl ⟨by rfl,?_⟩) (by assumption) ?_;rotate_left
 ·(intro W hSw;(try dsimp only at hSw);go_simp;try with_reducible rfl)
 (try simp only[Act.put,SK,SS]);refine wpAnyH_take (i:=5) (oi:=_) (v:=?_) rfl (by kernel_rfl) (by kernel_rfl) (by kernel_rfl) (fun _ _ _ h=>h) (Or.inl ⟨by rfl,?_⟩) (by assumption) ?_;rotate_left
 ·(intro W hSw;(try dsimp only at hSw);go_simp;try with_reducible rfl)
 (try simp only[Act.put,SK,SS]);refine wpAnyH_take (i:=6) (oi:=_) (v:=?_) rfl (by kernel_rfl) (by kernel_rfl) (by kernel_rfl) (fun _ _ _ h=>h) (Or.inl ⟨by rfl,?_⟩) (by assumption) ?_;rotate_left
 ·(intro W hSw;(try dsimp only at hSw);go_simp;try with_reducible rfl)
 (try simp only[Act.put,SK,SS]);refine wpAnyH_ready (rs:=[2]) (by kernel_rfl) (by simp) ?_;refine AllReadyH.cons (o:=_) rfl (fun KK hKK=>?_) AllReadyH.nil;go_simp
 (go_at_call 65;with_reducible refine(H1.out _ (HFB.out.trans (HF0.out.trans G))).mono ?_;rintro e w' ⟨⟨a3,c3,a4,c4,rfl,hq⟩,F⟩;have hsz:=G.size;have k1:=hq.weaken (K':=(fun k=>wb.heap.size≤k∧k<w.heap.size+2)) (fun k hk=>⟨hk.1,by have:=HS0.out;omega⟩);clear hq;replace B:=B.fr F (fun h=>h);replace D:=D.fr F (fun h=>h);replace G:=G.trans F;clear F H1;go_wp2_with fail)
 refine hKK.out _ _ ?_ (fun hHeld=>?_)
 ·exact B.cell
 clear hKK KK;(try simp only[Act.put,SK,SS]);refine wpAnyH_ready (rs:=[7]) (by kernel_rfl) (by simp) ?_;refine AllReadyH.cons (o:=_) rfl (fun KK hKK=>?_) AllReadyH.nil;go_simp
 (go_at_call 66;with_reducible refine(H3.out _ (HFB.out.trans (HF0.out.trans G))).mono ?_;rintro e w' ⟨⟨a5,c5,rfl,hq⟩,F⟩;have hsz:=G.size;have k3:=hq.weaken (K':=(fun k=>wb.heap.size≤k∧k<w.heap.size+2)) (fun k hk=>⟨hk.1,by have:=HS0.out;omega⟩);clear hq;replace k1:=k1.old F;replace B:=B.fr F (fun h=>h);replace D:=D.fr F (fun h=>h);replace G:=G.trans F;clear F H3;have d0:=D.cell 0;have d1:=D.cell 1;have d2:=D.cell 2;have d3:=D.cell 3;have d4:=D.cell 4;have f0:=D.frozen 0;have f1:=D.frozen 1;have f2:=D.frozen 2;have f3:=D.frozen 3;have f4:=D.frozen 4;have D5:=putL_all (Z:=[.bool false,.slice none 0 0,.slice none 0 0,.slice none 0 0,.slice none 0 0]) D (l:=[.bool p.pl.isSome,.slice a3 (nsOf p.pl).length c3,.slice a4 (stOf p.pl).length c4,.slice a1 p.rs.length c1,.slice a5 p.is.length c5]) rfl;simp only[putL]at D5;have B5:=B.fr D5.2 (by omega);simp only[SG]at d0 d1 d2 d3 d4;go_wp2_with fail)
 refine hKK.out _ _ ?_ (fun hHeld=>?_)
 ·exact B.cell
 clear hKK KK;(try simp only[Act.put,SK,SS]);refine wpAnyH_take (i:=8) (oi:=_) (v:=?_) rfl (by kernel_rfl) (by kernel_rfl) (by kernel_rfl) (fun _ _ _ h=>h) (Or.inl ⟨by rfl,?_⟩) (by assumption) ?_;rotate_left
 ·(intro W hSw;(try dsimp only at hSw);go_simp;try with_reducible rfl)
 (try simp only[Act.put,SK,SS]);refine wpAnyH_ready (rs:=[9]) (by kernel_rfl) (by simp) ?_;refine AllReadyH.cons (o:=_) rfl (fun KK hKK=>?_) AllReadyH.nil;go_simp
 skip
 refine hKK.out _ _ ?_ (fun hHeld=>?_)
 ·with_reducible exact B5.cell
 clear hKK KK;(try simp only[Act.put,SK,SS]);refine wpAnyH_done (by kernel_rfl) ?_ _;refine NoPanic.normal ?_;all_goals
  have k2:=vals_keeps HR.out ((HFB.out.trans (HF0.out.trans G)).mono (T:=fun k=>wb.heap.size≤k) (fun _ _ h=>h.elim)) (fun k=>wb.heap.size≤k∧k<w.heap.size+2) (fun k hk=>hk.1);have k:=(show Kept (fun W=>PdIn W (.slice a3 (nsOf p.pl).length c3) (.slice a4 (stOf p.pl).length c4) (.slice a1 p.rs.length c1) (.slice a5 p.is.length c5) (ofPt p)) (fun k=>wb.heap.size≤k∧k<w.heap.size+2) _ from fun W f=>⟨(k1 W f).1,(k1 W f).2,k2 W f,k3 W f⟩);have hsb:=HFB.out.size;have HK:=Hi (k.step (K':=(fun k=>wb.heap.size≤k∧k<w.heap.size)) D5.2 (fun k hk e=>by have:=HZ.out;omega) (fun k hk=>.inl (by omega)))
  have HF:=Hi ((HF0.out.trans G).trans' D5.2 (fun i hi e=>by have:=HZ.out;omega));have n0:=D5.1.cell 0;have n1:=D5.1.cell 1;have n2:=D5.1.cell 2;have n3:=D5.1.cell 3;have n4:=D5.1.cell 4;simp only[SG]at n0 n1 n2 n3 n4
  clear k k1 k2 k3 B D B5 D5 G;go_wp2_with fail
  exact bodyPost_ret (v:=.agg #[.bool p.pl.isSome,.slice a3 (nsOf p.pl).length c3,.slice a4 (stOf p.pl).length c4,.slice a1 p.rs.length c1,.slice a5 p.is.length c5]) (by simp[results,Tryz.results27,go_sem,n0,n1,n2,n3,n4]) rfl ⟨⟨a3,c3,a4,c4,a1,c1,a5,c5,rfl,HK.out⟩,HF.out⟩
theorem infv47:(Tryz.prog.info? 47).map (fun i=>(i.zero,i.size,i.bytes))=some (some (.agg #[.pointer none,.slice none 0 0,.slice none 0 0]),3,56):=by kernel_rfl
theorem infv29:(Tryz.prog.info? 29).map (fun i=>(i.zero,i.size,i.bytes))=some (some (.agg #[.bool false,.slice none 0 0,.slice none 0 0,.slice none 0 0,.slice none 0 0]),5,104):=by kernel_rfl
theorem vwPoints_any (v:Value)(l:List PointD)(wb w:World)(h:Pds wb v l)(Fb:Fz wb w) :
  Calls Tryz.prog 58 #[v] w fun e w'=>(∃ a c,e=.returned (.slice a (fewPts l).length c)∧Kept (fun W=>Pts W (.slice a (fewPts l).length c) (fewPts l)) (fun k=>wb.heap.size≤k∧k<w.heap.size) w')∧Fz w w':=by
 have H:=Hi h;have HFB:=Hi Fb;have hwb:=Fb.size;have HDF:=Hi (show fewPts l=(l.take 4).map cutPt from rfl);obtain⟨a0,cap0,rfl,-⟩:=h
 clear Fb;go_enter Tryz.func58,Tryz.ntmps58
 go_wp2_with fail
 go_loopg [3,4] l.length (fun g u i wr=>∃ (j:Nat) (a:Option Addr) (c:Nat) (gs:List PointT),g=l.length-j∧j≤l.length∧j≤4∧u=.slice a gs.length c∧i=.int .i64 j∧gs.length=j∧Hid (gs=(l.take j).map cutPt)∧GRow 3 RPt (fun k=>wb.heap.size≤k∧k<w.heap.size) 47 wr w.heap.size (.slice a gs.length c) gs∧Fz w wr)
 case atStart=>exact⟨0,none,0,[],rfl,Nat.zero_le _,by omega,rfl,rfl,rfl,Hi rfl,GRow.nil _ _ _ _ _ _,Fr.refl _⟩
 case round=>
  obtain⟨j,a,c,gs,hg,hj,hj4,rfl,rfl,hgl,HGS,hrow,F⟩:=hrel
  have HG:=Hi hg;have HRW:=Hi hrow;have HF:=Hi F;have HGL:=Hi hgl;clear hg hrow;by_cases hjl:j<l.length
  ·by_cases h4:j<4
   ·obtain⟨p,hp⟩:∃ p,l[j]? = some p:=⟨_,List.getElem?_eq_getElem hjl⟩
    obtain⟨b,o,cs,rfl,-,-,hr,hx⟩:=LAt.get H.out hp
    obtain⟨a1,c1,a2,c2,a3,c3,a4,c4,rfl,hin⟩:=hr.form
    have e0:=(HFB.out.trans F).cell (hx 0 _ rfl) (fun h=>h);have e1:=(HFB.out.trans F).cell (hx 1 _ rfl) (fun h=>h);have e2:=(HFB.out.trans F).cell (hx 2 _ rfl) (fun h=>h);have e3:=(HFB.out.trans F).cell (hx 3 _ rfl) (fun h=>h);have e4:=(HFB.out.trans F).cell (hx 4 _ rfl) (fun h=>h);simp only[Nat.add_zero]at e0
    have r1:(0:Int)≤(j:Int):=by omega
    have r2:(j:Int)<(l.length:Int):=by omega
    have r3:(j:Int)<4:=by omega
    have HO:=Hi (pointTo_any _ _ _ _ p wb wr hin (HFB.out.trans F));have HX:=Hi (fewPts_take hp);have hkp:=HRW.out.keep;clear hx hp hr hin F hgl h4;have HQ:=Hi (show (cutPt p).rs=p.rs.take 20∧(cutPt p).is=fewS p.is from ⟨rfl,rfl⟩);rw[←HQ.out.1,←HQ.out.2]at HO
    generalize cutPt p=y at *
    go_wp2_with fail
    refine HO.out.mono ?_;rintro e w2 ⟨⟨q2,b1,d1,b2,d2,rfl,hk⟩,F2⟩;obtain⟨a7,c7,w7,hrun,hrow7,F7,-⟩:=(HRW.out.old F2).add (s:=53) Tryz.underlying53 infv47 rfl (by decide) (by decide) (HF.out.trans F2).size ((Fr.refl w2).alloc (.cells #[.pointer q2,.slice b1 y.rs.length d1,.slice b2 y.is.length d2] 47)) w2.heap.size [.pointer q2,.slice b1 y.rs.length d1,.slice b2 y.is.length d2] rfl (Blk.new w2 47 #[.pointer q2,.slice b1 y.rs.length d1,.slice b2 y.is.length d2]) (by simp[Value.oneCell']) y ((hk.weaken (fun k hk=>by
     have hs:=HF.out.size;rcases hk with hk|hk
     ·have:=hkp k hk;omega
     ·omega)).imp (fun W h=>⟨_,_,_,rfl,h⟩)) (by have:=HGL.out;omega)
    have HRUN:=Hi hrun;have HRW7:=Hi hrow7;have HF7:=Hi ((HF.out.trans F2).trans' F7 (fun i hi e=>absurd hi (by have:=(hkp i e).1;omega)));have HGS7:=Hi (show gs++[y]=(l.take (j+1)).map cutPt by rw[HX.out,HGS.out]);clear F2 hk hrun hrow7 F7 HO HRW hkp e0 e1 e2 e3 e4;go_wp2_with (at_builtin;refine wpList_append_run (by rfl) (.tmp 15) (.tmp 21) 53 (by rfl) _ w7 (by exact HRUN.out) ?_)
    go_roundg (l.length-(j+1))
    case measure=>rw[HG.out];omega
    case rel=>exact⟨j+1,a7,c7,gs++[y],rfl,by omega,by omega,by rw[List.length_append];rfl,by go_num,by rw[List.length_append,HGL.out];rfl,HGS7,by rw[List.length_append];exact HRW7.out,HF7.out⟩
   ·obtain rfl:j=4:=by omega
    have q2:¬((4:Nat):Int)<4:=by omega
    have q1:((4:Nat):Int)<(l.length:Int):=by omega
    have HE:=Hi (show gs=fewPts l by rw[HGS.out,HDF.out]);clear hgl hj4 h4;go_wp2_with fail
    go_ret;rw[←HE.out]
    exact⟨⟨a,c,rfl,HRW.out.kept (by decide) _ (fun k h=>⟨h,h.2⟩)⟩,F⟩
  ·have HE:=Hi (show gs=fewPts l by rw[HGS.out,HDF.out,List.take_of_length_le (by omega),List.take_of_length_le (by omega)])
   clear hgl;go_wp2_with fail
   go_ret;rw[←HE.out]
   exact⟨⟨a,c,rfl,HRW.out.kept (by decide) _ (fun k h=>⟨h,h.2⟩)⟩,F⟩
theorem vwBack_any (v:Value)(l:List PointT)(wb w:World)(h:Pts wb v l)(Fb:Fz wb w)(hsm:∀ p∈l,smallPt p)(hl:l.length≤1000000) :
  Calls Tryz.prog 61 #[v] w fun e w'=>(∃ a c,e=.returned (.slice a (l.map ofPt).length c)∧Kept (fun W=>Pds W (.slice a (l.map ofPt).length c) (l.map ofPt)) (fun k=>wb.heap.size≤k∧k<w.heap.size) w')∧Fz w w':=by
 have H:=Hi h;have HFB:=Hi Fb;have hwb:=Fb.size;have HSM:=Hi hsm;obtain⟨a0,cap0,rfl,-⟩:=h
 clear Fb hsm;go_enter Tryz.func61,Tryz.ntmps61
 go_wp2_with fail
 go_loopg [3,4] l.length (fun g u i wr=>∃ (j:Nat) (a:Option Addr) (c:Nat) (gs:List PointD),g=l.length-j∧j≤l.length∧u=.slice a gs.length c∧i=.int .i64 j∧gs.length=j∧Hid (gs=(l.take j).map ofPt)∧GRow 5 RPd (fun k=>wb.heap.size≤k∧k<w.heap.size) 29 wr w.heap.size (.slice a gs.length c) gs∧Fz w wr)
 case atStart=>exact⟨0,none,0,[],rfl,Nat.zero_le _,rfl,rfl,rfl,Hi rfl,GRow.nil _ _ _ _ _ _,Fr.refl _⟩
 case round=>
  obtain⟨j,a,c,gs,hg,hj,rfl,rfl,hgl,HGS,hrow,F⟩:=hrel
  have HG:=Hi hg;have HRW:=Hi hrow;have HF:=Hi F;have HGL:=Hi hgl;clear hg hrow;by_cases hjl:j<l.length
  ·obtain⟨p,hp⟩:∃ p,l[j]? = some p:=⟨_,List.getElem?_eq_getElem hjl⟩
   obtain⟨b,o,cs,rfl,-,-,hr,hx⟩:=LAt.get H.out hp
   obtain⟨q,a1,c1,a2,c2,rfl,hin⟩:=hr.form
   have e0:=(HFB.out.trans F).cell (hx 0 _ rfl) (fun h=>h);have e1:=(HFB.out.trans F).cell (hx 1 _ rfl) (fun h=>h);have e2:=(HFB.out.trans F).cell (hx 2 _ rfl) (fun h=>h);simp only[Nat.add_zero]at e0
   have r1:(0:Int)≤(j:Int):=by omega
   have r2:(j:Int)<(l.length:Int):=by omega
   have HO:=Hi (pointOf_any _ _ _ p wb wr hin (HFB.out.trans F) (HSM.out p (List.mem_of_getElem? hp)));have HX:=Hi (mapPt_take hp);have HQ:=Hi (show (ofPt p).has=p.pl.isSome∧(ofPt p).ns=nsOf p.pl∧(ofPt p).st=stOf p.pl∧(ofPt p).rs=p.rs∧(ofPt p).is=p.is from ⟨rfl,rfl,rfl,rfl,rfl⟩);have hkp:=HRW.out.keep;clear hx hp hr hin F hgl;go_wp2_with fail
   refine HO.out.mono ?_;clear HO e0 e1 e2;rw[←HQ.out.1,←HQ.out.2.1,←HQ.out.2.2.1,←HQ.out.2.2.2.2]
   rw[←HQ.out.2.2.2.1]
   generalize ofPt p=y at *
   rintro e w2 ⟨⟨b1,d1,b2,d2,b3,d3,b4,d4,rfl,hk⟩,F2⟩
   obtain⟨a7,c7,w7,hrun,hrow7,F7,-⟩:=(HRW.out.old F2).add (s:=37) Tryz.underlying37 infv29 rfl (by decide) (by decide) (HF.out.trans F2).size ((Fr.refl w2).alloc (.cells #[.bool y.has,.slice b1 y.ns.length d1,.slice b2 y.st.length d2,.slice b3 y.rs.length d3,.slice b4 y.is.length d4] 29)) w2.heap.size [.bool y.has,.slice b1 y.ns.length d1,.slice b2 y.st.length d2,.slice b3 y.rs.length d3,.slice b4 y.is.length d4] rfl (Blk.new w2 29 #[.bool y.has,.slice b1 y.ns.length d1,.slice b2 y.st.length d2,.slice b3 y.rs.length d3,.slice b4 y.is.length d4]) (by simp[Value.oneCell']) y ((hk.weaken (fun k hk=>by
    have hs:=HF.out.size;rcases hk with hk|hk
    ·have:=hkp k hk;omega
    ·omega)).imp (fun W h=>⟨_,_,_,_,rfl,h⟩)) (by have:=HGL.out;omega)
   have HRUN:=Hi hrun;have HRW7:=Hi hrow7;have HF7:=Hi ((HF.out.trans F2).trans' F7 (fun i hi e=>absurd hi (by have:=(hkp i e).1;omega)));have HGS7:=Hi (show gs++[y]=(l.take (j+1)).map ofPt by rw[HX.out,HGS.out]);clear F2 hk hrun hrow7 F7 HRW hkp;go_wp2_with (at_builtin;refine wpList_append_run (by rfl) (.tmp 11) (.tmp 17) 37 (by rfl) _ w7 (by exact HRUN.out) ?_)
   go_roundg (l.length-(j+1))
   case measure=>rw[HG.out];omega
   case rel=>exact⟨j+1,a7,c7,gs++[y],rfl,by omega,by rw[List.length_append];rfl,by go_num,by rw[List.length_append,HGL.out];rfl,HGS7,by rw[List.length_append];exact HRW7.out,HF7.out⟩
  ·have HE:=Hi (show gs=l.map ofPt by rw[HGS.out,List.take_of_length_le (by omega)])
   clear hgl;go_wp2_with fail
   go_ret;rw[←HE.out]
   exact⟨⟨a,c,rfl,HRW.out.kept (by decide) _ (fun k h=>⟨h,h.2⟩)⟩,F⟩
theorem vwOf_any (vk va vu vp vf vo:Value)(y:ViewT)(wb w:World)(h:ViewIn wb vk va vu vp vf vo y)(Fb:Fz wb w)(hsp:(∀ p∈y.ps,smallPt p)∧y.ps.length≤1000000)(hsf:(∀ p∈y.fs,smallPt p)∧y.fs.length≤1000000) :
  Calls Tryz.prog 25 #[.agg #[vk,va,vu,.bool y.au,.int .i64 y.pa,vp,vf,vo,.bool y.nc]] w fun e w'=>(∃ k1 l1 k2 l2 k3 l3 a4 c4 a5 c5 k6 l6,e=.returned (.agg #[.slice k1 y.kid.length l1,.slice k2 y.ak.length l2,.slice k3 y.us.length l3,.bool y.au,.int .i64 y.pa,.slice a4 (y.ps.map ofPt).length c4,.slice a5 (y.fs.map ofPt).length c5,.slice k6 y.pu.length l6,.bool y.nc])∧Kept (fun W=>ViewDIn W (.slice k1 y.kid.length l1) (.slice k2 y.ak.length l2) (.slice k3 y.us.length l3) (.slice a4 (y.ps.map ofPt).length c4) (.slice a5 (y.fs.map ofPt).length c5) (.slice k6 y.pu.length l6) (ofView y)) (fun k=>wb.heap.size≤k∧k<w.heap.size) w')∧Fz w w':=by
 obtain⟨hv1,hv2,hv3,hv4,hv5,hv6⟩:=h
 obtain⟨k1,l1,rfl,-⟩:=Vals.form hv1
 obtain⟨k2,l2,rfl,-⟩:=Vals.form hv2
 obtain⟨k3,l3,rfl,-⟩:=Ints.form hv3
 obtain⟨k4,l4,rfl⟩:=LAt.shape hv4
 obtain⟨k5,l5,rfl⟩:=LAt.shape hv5
 obtain⟨k6,l6,rfl⟩:=LAt.shape hv6
 obtain⟨z,hz⟩:∃ z,z=w.heap.size:=⟨_,rfl⟩
 have HZ:=Hi hz;have F0:Fz w ((w.alloc (.cells #[.slice k1 y.kid.length l1,.slice k2 y.ak.length l2,.slice k3 y.us.length l3,.bool y.au,.int .i64 y.pa,.slice k4 y.ps.length l4,.slice k5 y.fs.length l5,.slice k6 y.pu.length l6,.bool y.nc] 95)).alloc (.cells #[.slice none 0 0,.slice none 0 0,.slice none 0 0,.bool false,.int .i64 0,.slice none 0 0,.slice none 0 0,.slice none 0 0,.bool false] 85)):=((Fr.refl w).alloc _).alloc _
 have B:=(Blk.new w 95 #[.slice k1 y.kid.length l1,.slice k2 y.ak.length l2,.slice k3 y.us.length l3,.bool y.au,.int .i64 y.pa,.slice k4 y.ps.length l4,.slice k5 y.fs.length l5,.slice k6 y.pu.length l6,.bool y.nc]).alloc (.cells #[.slice none 0 0,.slice none 0 0,.slice none 0 0,.bool false,.int .i64 0,.slice none 0 0,.slice none 0 0,.slice none 0 0,.bool false] 85)
 have D:=Blk.new (w.alloc (.cells #[.slice k1 y.kid.length l1,.slice k2 y.ak.length l2,.slice k3 y.us.length l3,.bool y.au,.int .i64 y.pa,.slice k4 y.ps.length l4,.slice k5 y.fs.length l5,.slice k6 y.pu.length l6,.bool y.nc] 95)) 85 #[.slice none 0 0,.slice none 0 0,.slice none 0 0,.bool false,.int .i64 0,.slice none 0 0,.slice none 0 0,.slice none 0 0,.bool false];rw[World.size_alloc,←hz]at D
 rw[←hz]at B
 have hs0:w.heap.size+2=((w.alloc (.cells #[.slice k1 y.kid.length l1,.slice k2 y.ak.length l2,.slice k3 y.us.length l3,.bool y.au,.int .i64 y.pa,.slice k4 y.ps.length l4,.slice k5 y.fs.length l5,.slice k6 y.pu.length l6,.bool y.nc] 95)).alloc (.cells #[.slice none 0 0,.slice none 0 0,.slice none 0 0,.bool false,.int .i64 0,.slice none 0 0,.slice none 0 0,.slice none 0 0,.bool false] 85)).heap.size:=by rw[World.size_alloc,World.size_alloc]
 have HFB:=Hi Fb;have H1:=Hi (fun W (F:Fz wb W)=>vwBack_any _ y.ps wb W hv4 F hsp.1 hsp.2);have H2:=Hi (fun W (F:Fz wb W)=>vwBack_any _ y.fs wb W hv5 F hsf.1 hsf.2);have HV:=Hi (show ∀ W,Fz wb W→Bytes W (.slice k1 y.kid.length l1) y.kid∧Bytes W (.slice k2 y.ak.length l2) y.ak∧Ints W (.slice k3 y.us.length l3) y.us∧Oids W (.slice k6 y.pu.length l6) y.pu from fun W f=>⟨hv1.old f,hv2.old f,hv3.old f,Oids.old hv6 f⟩);obtain⟨qa,hqa⟩:∃ l,l=y.ps.map ofPt:=⟨_,rfl⟩
 obtain⟨qb,hqb⟩:∃ l,l=y.fs.map ofPt:=⟨_,rfl⟩
 have HQ:=Hi (show qa=y.ps.map ofPt∧qb=y.fs.map ofPt from ⟨hqa,hqb⟩);rw[←hqa]at H1
 rw[←hqb]at H2
 have HF00:=Hi F0;clear hz F0 Fb hv1 hv2 hv3 hv4 hv5 hv6 hsp hsf hqa hqb;go_enter Tryz.func25,Tryz.ntmps25
 go_upto_region 1 with fail
 rw[←HZ.out]
 have HS0:=Hi (show w.heap.size+2=((w.alloc (.cells #[.slice k1 y.kid.length l1,.slice k2 y.ak.length l2,.slice k3 y.us.length l3,.bool y.au,.int .i64 y.pa,.slice k4 y.ps.length l4,.slice k5 y.fs.length l5,.slice k6 y.pu.length l6,.bool y.nc] 95)).alloc (.cells #[.slice none 0 0,.slice none 0 0,.slice none 0 0,.bool false,.int .i64 0,.slice none 0 0,.slice none 0 0,.slice none 0 0,.bool false] 85)).drew.heap.size from hs0);clear hs0
 generalize ((w.alloc (.cells #[.slice k1 y.kid.length l1,.slice k2 y.ak.length l2,.slice k3 y.us.length l3,.bool y.au,.int .i64 y.pa,.slice k4 y.ps.length l4,.slice k5 y.fs.length l5,.slice k6 y.pu.length l6,.bool y.nc] 95)).alloc (.cells #[.slice none 0 0,.slice none 0 0,.slice none 0 0,.bool false,.int .i64 0,.slice none 0 0,.slice none 0 0,.slice none 0 0,.bool false] 85))=w0 at *
 have HF0:=Hi (show Fz w w0.drew from HF00.out.drew);replace B:=B.drew;replace D:=D.drew;have G:Fz w0.drew w0.drew:=Fr.refl _;refine wp_region_noPanic ?_;refine wp_region_held_drew (S:=(fun w'=>∀ j,w'.cell? ⟨z,j,none⟩=(#[.slice k1 y.kid.length l1,.slice k2 y.ak.length l2,.slice k3 y.us.length l3,.bool y.au,.int .i64 y.pa,.slice k4 y.ps.length l4,.slice k5 y.fs.length l5,.slice k6 y.pu.length l6,.bool y.nc]:Array Value)[j]?)) (by kernel_rfl) ?_ (fun hHeld=>?_)
 ·exact B.cell
 refine wpAnyH_take (i:=0) (oi:=_) (v:=?_) rfl (by kernel_rfl) (by kernel_rfl) (by kernel_rfl) (fun _ _ _ h=>h) (Or.inl ⟨by rfl,?_⟩) (by assumption) ?_;rotate_left
 ·(intro W hSw;(try dsimp only at hSw);go_simp;try with_reducible rfl)
 (try simp only[Act.put,SK,SS]);refine wpAnyH_take (i:=1) (oi:=_) (v:=?_) rfl (by kernel_rfl) (by kernel_rfl) (by kernel_rfl) (fun _ _ _ h=>h) (Or.inl ⟨by rfl,?_⟩) (by assumption) ?_;rotate_left
 ·(intro W hSw;(try dsimp only at hSw);go_simp;try with_reducible rfl)
 (try simp only[Act.put,SK,SS]);refine wpAnyH_take (i:=2) (oi:=_) (v:=?_) rfl (by kernel_rfl) (by kernel_rfl) (by kernel_rfl) (fun _ _ _ h=>h) (Or.inl ⟨by rfl,?_⟩) (by assumption) ?_;rotate_left
 ·(intro W hSw;(try dsimp only at hSw);go_simp;try with_reducible rfl)
 (try simp only[Act.put,SK,SS]);refine wpAnyH_take (i:=3) (oi:=_) (v:=?_) rfl (by kernel_rfl) (by kernel_rfl) (by kernel_rfl) (fun _ _ _ h=>h) (Or.inl ⟨by rfl,?_⟩) (by assumption) ?_;rotate_left
 ·(intro W hSw;(try dsimp only at hSw);go_simp;try with_reducible rfl)
 (try simp only[Act.put,SK,SS]);refine wpAnyH_take (i:=4) (oi:=_) (v:=?_) rfl (by kernel_rfl) (by kernel_rfl) (by kernel_rfl) (fun _ _ _ h=>h) (Or.inl ⟨by rfl,?_⟩) (by assumption) ?_;rotate_left
 ·(intro W hSw;(try dsimp only at hSw);go_simp;try with_reducible rfl)
 (try simp only[Act.put,SK,SS]);refine wpAnyH_take (i:=5) (oi:=_) (v:=?_) rfl (by kernel_rfl) (by kernel_rfl) (by kernel_rfl) (fun _ _ _ h=>h) (Or.inl ⟨by rfl,?_⟩) (by assumption) ?_;rotate_left
 ·(intro W hSw;(try dsimp only at hSw);go_simp;try with_reducible rfl)
 (try simp only[Act.put,SK,SS]);refine wpAnyH_take (i:=6) (oi:=_) (v:=?_) rfl (by kernel_rfl) (by kernel_rfl) (by kernel_rfl) (fun _ _ _ h=>h) (Or.inl ⟨by rfl,?_⟩) (by assumption) ?_;rotate_left
 ·(intro W hSw;(try dsimp only at hSw);go_simp;try with_reducible rfl)
 (try simp only[Act.put,SK,SS]);refine wpAnyH_take (i:=7) (oi:=_) (v:=?_) rfl (by kernel_rfl) (by kernel_rfl) (by kernel_rfl) (fun _ _ _ h=>h) (Or.inl ⟨by rfl,?_⟩) (by assumption) ?_;rotate_left
 ·(intro W hSw;(try dsimp only at hSw);go_simp;try with_reducible rfl)
 (try simp only[Act.put,SK,SS]);refine wpAnyH_take (i:=8) (oi:=_) (v:=?_) rfl (by kernel_rfl) (by kernel_rfl) (by kernel_rfl) (fun _ _ _ h=>h) (Or.inl ⟨by rfl,?_⟩) (by assumption) ?_;rotate_left
 ·(intro W hSw;(try dsimp only at hSw);go_simp;try with_reducible rfl)
 (try simp only[Act.put,SK,SS]);refine wpAnyH_take (i:=9) (oi:=_) (v:=?_) rfl (by kernel_rfl) (by kernel_rfl) (by kernel_rfl) (fun _ _ _ h=>h) (Or.inl ⟨by rfl,?_⟩) (by assumption) ?_;rotate_left
 ·(intro W hSw;(try dsimp only at hSw);go_simp;try with_reducible rfl)
 (try simp only[Act.put,SK,SS]);refine wpAnyH_take (i:=10) (oi:=_) (v:=?_) rfl (by kernel_rfl) (by kernel_rfl) (by kernel_rfl) (fun _ _ _ h=>h) (Or.inl ⟨by rfl,?_⟩) (by assumption) ?_;rotate_left
 ·(intro W hSw;(try dsimp only at hSw);go_simp;try with_reducible rfl)
 (try simp only[Act.put,SK,SS]);refine wpAnyH_take (i:=11) (oi:=_) (v:=?_) rfl (by kernel_rfl) (by kernel_rfl) (by kernel_rfl) (fun _ _ _ h=>h) (Or.inl ⟨by rfl,?_⟩) (by assumption) ?_;rotate_left
 ·(intro W hSw;(try dsimp only at hSw);go_simp;try with_reducible rfl)
 (try simp only[Act.put,SK,SS]);refine wpAnyH_take (i:=13) (oi:=_) (v:=?_) rfl (by kernel_rfl) (by kernel_rfl) (by kernel_rfl) (fun _ _ _ h=>h) (Or.inl ⟨by rfl,?_⟩) (by assumption) ?_;rotate_left
 ·(intro W hSw;(try dsimp only at hSw);go_simp;try with_reducible rfl)
 (try simp only[Act.put,SK,SS]);refine wpAnyH_take (i:=14) (oi:=_) (v:=?_) rfl (by kernel_rfl) (by kernel_rfl) (by kernel_rfl) (fun _ _ _ h=>h) (Or.inl ⟨by rfl,?_⟩) (by assumption) ?_;rotate_left
 ·(intro W hSw;(try dsimp only at hSw);go_simp;try with_reducible rfl)
 (try simp only[Act.put,SK,SS]);refine wpAnyH_take (i:=16) (oi:=_) (v:=?_) rfl (by kernel_rfl) (by kernel_rfl) (by kernel_rfl) (fun _ _ _ h=>h) (Or.inl ⟨by rfl,?_⟩) (by assumption) ?_;rotate_left
 ·(intro W hSw;(try dsimp only at hSw);go_simp;try with_reducible rfl)
 (try simp only[Act.put,SK,SS]);refine wpAnyH_take (i:=17) (oi:=_) (v:=?_) rfl (by kernel_rfl) (by kernel_rfl) (by kernel_rfl) (fun _ _ _ h=>h) (Or.inl ⟨by rfl,?_⟩) (by assumption) ?_;rotate_left
 ·(intro W hSw;(try dsimp only at hSw);go_simp;try with_reducible rfl)
 (try simp only[Act.put,SK,SS]);refine wpAnyH_take (i:=18) (oi:=_) (v:=?_) rfl (by kernel_rfl) (by kernel_rfl) (by kernel_rfl) (fun _ _ _ h=>h) (Or.inl ⟨by rfl,?_⟩) (by assumption) ?_;rotate_left
 ·(intro W hSw;(try dsimp only at hSw);go_simp;try with_reducible rfl)
 (try simp only[Act.put,SK,SS]);refine wpAnyH_take (i:=19) (oi:=_) (v:=?_) rfl (by kernel_rfl) (by kernel_rfl) (by kernel_rfl) (fun _ _ _ h=>h) (Or.inl ⟨by rfl,?_⟩) (by assumption) ?_;rotate_left
 ·(intro W hSw;(try dsimp only at hSw);go_simp;try with_reducible rfl)
 (try simp only[Act.put,SK,SS]);refine wpAnyH_ready (rs:=[12]) (by kernel_rfl) (by simp) ?_;refine AllReadyH.cons (o:=_) rfl (fun KK hKK=>?_) AllReadyH.nil;go_simp
 (go_at_call 61;with_reducible refine(H1.out _ (HFB.out.trans (HF0.out.trans G))).mono ?_;rintro e w' ⟨⟨a4,c4,rfl,hq⟩,F⟩;have hsz:=G.size;have k1_:=hq.weaken (K':=(fun k=>wb.heap.size≤k∧k<w.heap.size+2)) (fun k hk=>⟨hk.1,by have:=HS0.out;omega⟩);clear hq;replace B:=B.fr F (fun h=>h);replace D:=D.fr F (fun h=>h);replace G:=G.trans F;clear F H1;go_wp2_with fail)
 refine hKK.out _ _ ?_ (fun hHeld=>?_)
 ·exact B.cell
 clear hKK KK;(try simp only[Act.put,SK,SS]);refine wpAnyH_ready (rs:=[15]) (by kernel_rfl) (by simp) ?_;refine AllReadyH.cons (o:=_) rfl (fun KK hKK=>?_) AllReadyH.nil;go_simp
 (go_at_call 61;with_reducible refine(H2.out _ (HFB.out.trans (HF0.out.trans G))).mono ?_;rintro e w' ⟨⟨a5,c5,rfl,hq⟩,F⟩;have hsz:=G.size;have k2_:=hq.weaken (K':=(fun k=>wb.heap.size≤k∧k<w.heap.size+2)) (fun k hk=>⟨hk.1,by have:=HS0.out;omega⟩);clear hq;replace k1_:=k1_.old F;replace B:=B.fr F (fun h=>h);replace D:=D.fr F (fun h=>h);replace G:=G.trans F;clear F H2;have d0:=D.cell 0;have d1:=D.cell 1;have d2:=D.cell 2;have d3:=D.cell 3;have d4:=D.cell 4;have d5:=D.cell 5;have d6:=D.cell 6;have d7:=D.cell 7;have d8:=D.cell 8;have f0:=D.frozen 0;have f1:=D.frozen 1;have f2:=D.frozen 2;have f3:=D.frozen 3;have f4:=D.frozen 4;have f5:=D.frozen 5;have f6:=D.frozen 6;have f7:=D.frozen 7;have f8:=D.frozen 8;have D5:=putL_all (Z:=[.slice none 0 0,.slice none 0 0,.slice none 0 0,.bool false,.int .i64 0,.slice none 0 0,.slice none 0 0,.slice none 0 0,.bool false]) D (l:=[.slice k1 y.kid.length l1,.slice k2 y.ak.length l2,.slice k3 y.us.length l3,.bool y.au,.int .i64 y.pa,.slice a4 qa.length c4,.slice a5 qb.length c5,.slice k6 y.pu.length l6,.bool y.nc]) rfl;simp only[putL]at D5;have B5:=B.fr D5.2 (by omega);simp only[SG]at d0 d1 d2 d3 d4 d5 d6 d7 d8;go_wp2_with fail)
 refine hKK.out _ _ ?_ (fun hHeld=>?_)
 ·exact B.cell
 clear hKK KK;(try simp only[Act.put,SK,SS]);refine wpAnyH_take (i:=20) (oi:=_) (v:=?_) rfl (by kernel_rfl) (by kernel_rfl) (by kernel_rfl) (fun _ _ _ h=>h) (Or.inl ⟨by rfl,?_⟩) (by assumption) ?_;rotate_left
 ·(intro W hSw;(try dsimp only at hSw);go_simp;try with_reducible rfl)
 (try simp only[Act.put,SK,SS]);refine wpAnyH_ready (rs:=[21]) (by kernel_rfl) (by simp) ?_;refine AllReadyH.cons (o:=_) rfl (fun KK hKK=>?_) AllReadyH.nil;go_simp
 skip
 refine hKK.out _ _ ?_ (fun hHeld=>?_)
 ·with_reducible exact B5.cell
 clear hKK KK;(try simp only[Act.put,SK,SS]);refine wpAnyH_done (by kernel_rfl) ?_ _;refine NoPanic.normal ?_;all_goals
  have k3_:=kept_old (R:=fun W=>Bytes W (.slice k1 y.kid.length l1) y.kid∧Bytes W (.slice k2 y.ak.length l2) y.ak∧Ints W (.slice k3 y.us.length l3) y.us∧Oids W (.slice k6 y.pu.length l6) y.pu) HV.out ((HFB.out.trans (HF0.out.trans G)).mono (T:=fun k=>wb.heap.size≤k) (fun _ _ h=>h.elim)) (fun k=>wb.heap.size≤k∧k<w.heap.size+2) (fun k hk=>hk.1);have k:=Kept.both k3_ (Kept.both k1_ k2_)
  have HOUT:=Hi (show ∀ W,((Bytes W (.slice k1 y.kid.length l1) y.kid∧Bytes W (.slice k2 y.ak.length l2) y.ak∧Ints W (.slice k3 y.us.length l3) y.us∧Oids W (.slice k6 y.pu.length l6) y.pu)∧(Pds W (.slice a4 qa.length c4) qa∧Pds W (.slice a5 qb.length c5) qb))→ViewDIn W (.slice k1 y.kid.length l1) (.slice k2 y.ak.length l2) (.slice k3 y.us.length l3) (.slice a4 (y.ps.map ofPt).length c4) (.slice a5 (y.fs.map ofPt).length c5) (.slice k6 y.pu.length l6) (ofView y) from fun W g=>by
   rw[←HQ.out.1,←HQ.out.2]
   exact⟨g.1.1,g.1.2.1,g.1.2.2.1,by rw[show (ofView y).ps=qa from HQ.out.1.symm];exact g.2.1,by rw[show (ofView y).fs=qb from HQ.out.2.symm];exact g.2.2,g.1.2.2.2⟩)
  have hsb:=HFB.out.size;have HK:=Hi (k.step (K':=(fun k=>wb.heap.size≤k∧k<w.heap.size)) D5.2 (fun k hk e=>by have:=HZ.out;omega) (fun k hk=>.inl (by omega)));have HF:=Hi ((HF0.out.trans G).trans' D5.2 (fun i hi e=>by have:=HZ.out;omega));have n0:=D5.1.cell 0;have n1:=D5.1.cell 1;have n2:=D5.1.cell 2;have n3:=D5.1.cell 3;have n4:=D5.1.cell 4;have n5:=D5.1.cell 5;have n6:=D5.1.cell 6;have n7:=D5.1.cell 7;have n8:=D5.1.cell 8;simp only[SG]at n0 n1 n2 n3 n4 n5 n6 n7 n8
  clear k k1_ k2_ k3_ B D B5 D5 G;go_wp2_with fail
  exact bodyPost_ret (v:=.agg #[.slice k1 y.kid.length l1,.slice k2 y.ak.length l2,.slice k3 y.us.length l3,.bool y.au,.int .i64 y.pa,.slice a4 qa.length c4,.slice a5 qb.length c5,.slice k6 y.pu.length l6,.bool y.nc]) (by simp[results,Tryz.results25,go_sem,n0,n1,n2,n3,n4,n5,n6,n7,n8]) rfl ⟨⟨k1,l1,k2,l2,k3,l3,a4,c4,a5,c5,k6,l6,by rw[←HQ.out.1,←HQ.out.2],HK.out.imp HOUT.out⟩,HF.out⟩
end Go.Proofs.YteidmhkobmddiaaGreatDoor
