/-
  Merged by program: XIxCopy XIxIx2 XIxNil XIxSch XIxFnd XIxAtW.
-/
import Derived.Test.YtehlipgmkinfbaaGreatDoorP0aq
set_option linter.unusedSimpArgs false
set_option maxRecDepth 100000
set_option maxHeartbeats 8000000
namespace Go.Q
open Go Go.RowKit
def fitR (r:RowP):Prop:=fitN r.iss∧nameOk r.iss=true∧r.num.size.length≤1000000
theorem fitR_nrow {r:RowP}(h:fitR r):fitR (nrow r):=⟨h.1,h.2.1,by
 have:=trimS_le r.num.size;have:=h.2.2;show (trimS r.num.size).length≤_
 omega⟩
theorem cell_none {w w':World}{b j:Nat}{u:Value}(f:Fz w w')(h:w.cell? ⟨b,j,none⟩=none)(h0:w.cell? ⟨b,0,none⟩=some u):w'.cell? ⟨b,j,none⟩=none:=by
 have hb:=World.block_lt_of_cell? w _ h0;have:=f.block b hb (fun h=>h);simp only[World.cell?]at h ⊢
 rw[this]
 exact h
def notAhead (X:List RowP)(s:RowP)(h:Nat):Bool:=match X[h]? with
 |some x=>decide (0≤rowC x s)
 |none=>false
theorem notAhead_mono {X:List RowP}{s:RowP}(hu:UpR X):∀ i j,i≤j→j<X.length→notAhead X s i=true→notAhead X s j=true:=fun i j hij hj hp=>by
 unfold notAhead at *
 rw[List.getElem?_eq_getElem (by omega:i<X.length)]at hp
 rw[List.getElem?_eq_getElem hj]
 simp only[decide_eq_true_eq]at hp ⊢
 rcases Nat.lt_or_ge i j with h|h
 ·have h1:=List.pairwise_iff_getElem.1 hu i j (by omega) hj h
  refine Int.not_lt.1 (fun h2=>?_);have h3:=rowC_neg.2 (ordK.tr _ _ _ h1 (rowC_neg.1 h2));omega
 ·obtain rfl:i=j:=by omega
  exact hp
theorem ahead_of {X:List RowP}{s:RowP}{r:Nat}(hr:r≤X.length)(h1:∀ i,i<r→notAhead X s i=false)(h2:r<X.length→notAhead X s r=true):r=aheadR X s:=by
 refine(takeWhile_at (fun x=>ltK (rowK x) (rowK s)) X r hr (fun i x hx hi=>?_) (fun x hx=>?_)).symm
 ·have:=h1 i hi
  unfold notAhead at this;rw[hx]at this
  simp only[decide_eq_false_iff_not,Int.not_le]at this
  exact rowC_neg.1 this
 ·have:=h2 (List.getElem?_eq_some_iff.1 hx).1
  unfold notAhead at this;rw[hx]at this
  simp only[decide_eq_true_eq]at this
  cases hq:ltK (rowK x) (rowK s) with
  |false=>rfl
  |true=>have:=rowC_neg.2 hq;omega
end Go.Q
namespace Go.Proofs.YtehlipgmkinfbaaGreatDoor
open Go Go.RowKit Go.Q
theorem one_new {w0 W:World}{R:World→Prop}{K K':Nat→Prop}(t:TypeId)(row:List Value)(F:Fz w0 W)(hk:Kept R K W)(hK:∀ k,K' k→K k∨W.heap.size≤k) :
  Blk (W.alloc (.cells row.toArray t)) W.heap.size t row.toArray∧Kept R K' (W.alloc (.cells row.toArray t))∧Fz w0 (W.alloc (.cells row.toArray t)):=
 ⟨Blk.new _ _ _,hk.step (S:=fun _=>False) ((Fr.refl W).alloc _) (fun _ _ h=>h.elim) hK,F.alloc _⟩
theorem one_put {w0 W:World}{R:World→Prop}{K:Nat→Prop}{t:TypeId}{Z:List Value}{z:Nat}(row:List Value)(hB:Blk W z t Z.toArray)(hl:Z.length=row.length)(F:Fz w0 W)(hz:w0.heap.size≤z)(hk:Kept R K W)(hK:K z) :
  Blk (putL W z 0 row) z t row.toArray∧Kept R K (putL W z 0 row)∧Fz w0 (putL W z 0 row):=by
 have h:=putL_all hB hl;exact⟨h.1,hk.step h.2 (fun k _ e=>by rw[e];exact hK) (fun k hk=>.inl hk),F.trans' h.2 (fun i hi e=>by omega)⟩
theorem ixCopied_any (cs:List Value)(r:RowP)(w:World)(h:RRow w cs r)(hf:fitN r.iss)(hok:nameOk r.iss=true)(hs:r.num.size.length≤1000000) :
  Calls Tryz.prog 37 #[.agg cs.toArray] w fun e w'=>(∃ a c b d q,e=.returned (.agg #[.slice a r.iss.length c,.bool (madeS r.num).below,.slice b (madeS r.num).size.length d,.int .i64 r.date,.int .i64 r.reason,.pointer q])∧Kept (fun W=>RRow W [.slice a r.iss.length c,.bool (madeS r.num).below,.slice b (madeS r.num).size.length d,.int .i64 r.date,.int .i64 r.reason,.pointer q] (nrow r)) (fun k=>k<w.heap.size) w')∧Fz w w':=by
 obtain⟨a,c,b,d,q,rfl,h1,h2,h3⟩:=h.form
 obtain⟨x,hx⟩:∃ x,x=madeS r.num:=⟨_,rfl⟩
 have HRR:=Hi (fun W (vi vs vp:Value) (g1:NameAt W vi r.iss) (g2:Bytes W vs x.size) (g3:InvAt W vp r.inv)=>show RRow W [vi,.bool x.below,vs,.int .i64 r.date,.int .i64 r.reason,vp] (nrow r) from by
  subst hx;exact⟨vi,vs,vp,rfl,g1,g2,g3⟩)
 rw[←hx]
 obtain⟨z,hz⟩:∃ z,z=w.heap.size:=⟨_,rfl⟩
 have HZ:=Hi hz;have F0:Fz w ((w.alloc (.cells #[.slice a r.iss.length c,.bool r.num.below,.slice b r.num.size.length d,.int .i64 r.date,.int .i64 r.reason,.pointer q] 43)).alloc (.cells #[.slice none 0 0,.bool false,.slice none 0 0,.int .i64 0,.int .i64 0,.pointer none] 43)):=((Fr.refl w).alloc _).alloc _;have BA:=(Blk.new w 43 #[.slice a r.iss.length c,.bool r.num.below,.slice b r.num.size.length d,.int .i64 r.date,.int .i64 r.reason,.pointer q]).alloc (.cells #[.slice none 0 0,.bool false,.slice none 0 0,.int .i64 0,.int .i64 0,.pointer none] 43)
 have BD:=Blk.new (w.alloc (.cells #[.slice a r.iss.length c,.bool r.num.below,.slice b r.num.size.length d,.int .i64 r.date,.int .i64 r.reason,.pointer q] 43)) 43 #[.slice none 0 0,.bool false,.slice none 0 0,.int .i64 0,.int .i64 0,.pointer none];have hs0:((w.alloc (.cells #[.slice a r.iss.length c,.bool r.num.below,.slice b r.num.size.length d,.int .i64 r.date,.int .i64 r.reason,.pointer q] 43)).alloc (.cells #[.slice none 0 0,.bool false,.slice none 0 0,.int .i64 0,.int .i64 0,.pointer none] 43)).heap.size=z+2:=by rw[World.size_alloc,World.size_alloc,hz]
 rw[World.size_alloc,←hz]at BD
 rw[←hz]at BA
 have HAD:=Hi (fun W (F:Fz ((w.alloc (.cells #[.slice a r.iss.length c,.bool r.num.below,.slice b r.num.size.length d,.int .i64 r.date,.int .i64 r.reason,.pointer q] 43)).alloc (.cells #[.slice none 0 0,.bool false,.slice none 0 0,.int .i64 0,.int .i64 0,.pointer none] 43)) W)=>nameAdd_ok _ r.iss W ((h1.old F0).old F) hf hok)
 have HWA:=Hi (fun W (F:Fz ((w.alloc (.cells #[.slice a r.iss.length c,.bool r.num.below,.slice b r.num.size.length d,.int .i64 r.date,.int .i64 r.reason,.pointer q] 43)).alloc (.cells #[.slice none 0 0,.bool false,.slice none 0 0,.int .i64 0,.int .i64 0,.pointer none] 43)) W)=>wAdd0_any r.num.below _ r.num.size x hx W ((h2.old F0).old F) (by omega))
 have HIN:=Hi (fun W (F:Fz ((w.alloc (.cells #[.slice a r.iss.length c,.bool r.num.below,.slice b r.num.size.length d,.int .i64 r.date,.int .i64 r.reason,.pointer q] 43)).alloc (.cells #[.slice none 0 0,.bool false,.slice none 0 0,.int .i64 0,.int .i64 0,.pointer none] 43)) W)=>(h3.old F0).old F);have HF0:=Hi F0;have HS0:=Hi hs0;clear h h1 h2 h3 hx hz F0 hs0 hs;go_enter Tryz.func37,Tryz.ntmps37
 go_upto_region 1 with fail
 rw[←HZ.out]
 generalize ((w.alloc (.cells #[.slice a r.iss.length c,.bool r.num.below,.slice b r.num.size.length d,.int .i64 r.date,.int .i64 r.reason,.pointer q] 43)).alloc (.cells #[.slice none 0 0,.bool false,.slice none 0 0,.int .i64 0,.int .i64 0,.pointer none] 43))=w0 at *
 have d0:=BA.cell 0;simp only[SG]at d0
 go_wp2_with fail
 refine(HAD.out _ (Fr.refl w0)).mono ?_
 rintro e w1 ⟨⟨a1,c1,rfl,hk1⟩,F1⟩;have HF1:=Hi F1;replace BA:=BA.fr F1 (fun h=>h);replace BD:=BD.fr F1 (fun h=>h);have HK1:=Hi hk1;have HBA:=Hi BA;have HBD:=Hi BD;have hs1:z+2≤w1.heap.size:=by have:=F1.size;have:=HS0.out;omega
 have HS1:=Hi hs1;clear HAD hk1 F1 BA BD d0 hs1;go_upto_region 2 with fail
 go_cut [5] from 13 to 22 (fun s5 wc=>∃ z5 b2 d2,s5=.pointer (some ⟨z5,0,none⟩)∧w1.heap.size≤z5∧Blk wc z5 43 #[.slice a1 r.iss.length c1,.bool x.below,.slice b2 x.size.length d2,.int .i64 r.date,.int .i64 r.reason,.pointer none]∧Kept (fun W=>NameAt W (.slice a1 r.iss.length c1) r.iss∧Bytes W (.slice b2 x.size.length d2) x.size) (fun k=>k<z+2∨k=z5) wc∧Fz w1 wc)
 case first=>
  have BA:=HBA.out.drew;have hsd:w1.drew.heap.size=w1.heap.size:=rfl;have G:Fz w1 w1.drew:=(Fr.refl w1).drew;have HG1:=Hi (HF1.out.trans G);have GA:Fz w1 (w1.alloc (.cells #[.slice none 0 0,.bool false,.slice none 0 0,.int .i64 0,.int .i64 0,.pointer none] 43)).drew:=((Fr.refl w1).alloc (.cells #[.slice none 0 0,.bool false,.slice none 0 0,.int .i64 0,.int .i64 0,.pointer none] 43)).drew;have HG2:=Hi (HF1.out.trans GA);have BZ:=(HBA.out.alloc (.cells #[.slice none 0 0,.bool false,.slice none 0 0,.int .i64 0,.int .i64 0,.pointer none] 43)).drew
  go_region_held3 (fun w'=>∀ j,w'.cell? ⟨z,j,none⟩=(#[.slice a r.iss.length c,.bool r.num.below,.slice b r.num.size.length d,.int .i64 r.date,.int .i64 r.reason,.pointer q]:Array Value)[j]?) (first|(with_reducible exact BA.cell)|(with_reducible exact BZ.cell)|(with_reducible exact PB.cell)|(refine(BA.fr (S:=fun _=>False) ?_ (fun h=>h)).cell<;>(repeat' (first|(with_reducible exact Fr.refl _)|(with_reducible refine Fr.alloc ?_ _))))|fail) (first
   |(go_at_call 65;(with_reducible refine(HWA.out _ HG1.out).mono ?_);rintro e w' ⟨⟨b2,d2,rfl,hq⟩,F⟩;have hle:=F.size;have HE:=Hi (one_new 43 [.slice a1 r.iss.length c1,.bool x.below,.slice b2 x.size.length d2,.int .i64 r.date,.int .i64 r.reason,.pointer none] (G.trans F) (Kept.both ((HK1.out.old (G.trans F)).weaken (K':=fun k=>k<z+2) (fun k hk=>by have:=HS0.out;omega)) (hq.weaken (fun k hk=>by have:=HS1.out;omega))) (K':=fun k=>k<z+2∨k=w'.heap.size) (fun k hk=>by rcases hk with hk|hk;exact .inl hk;exact .inr (by omega)));replace BA:=BA.fr F (fun h=>h);replace hle:=Nat.le_trans (Nat.le_of_eq hsd.symm) hle;clear F hq)
   |(go_at_call 65;(with_reducible refine(HWA.out _ HG2.out).mono ?_);rintro e w' ⟨⟨b2,d2,rfl,hq⟩,F⟩;have hle:=hsd;have BN:=(Blk.new w1 43 #[.slice none 0 0,.bool false,.slice none 0 0,.int .i64 0,.int .i64 0,.pointer none]).drew.fr F (fun h=>h);have d0:=BN.cell 0;have d1:=BN.cell 1;have d2':=BN.cell 2;have d3:=BN.cell 3;have d4:=BN.cell 4;have d5:=BN.cell 5;have f0:=BN.frozen 0;have f1:=BN.frozen 1;have f2:=BN.frozen 2;have f3:=BN.frozen 3;have f4:=BN.frozen 4;have f5:=BN.frozen 5;simp only[SG]at d0 d1 d2' d3 d4 d5;have hk2:Kept (fun W=>NameAt W (.slice a1 r.iss.length c1) r.iss∧Bytes W (.slice b2 x.size.length d2) x.size) (fun k=>k<z+2∨k=w1.heap.size) w':=(Kept.both (HK1.out.step (GA.trans F) (K':=fun k=>k<z+2∨k=w1.heap.size) (fun _ _ h=>h.elim) (fun k hk=>by have:=HS0.out;rcases hk with hk|hk;exact .inl (by omega);exact .inr (by omega))) (hq.weaken (fun k hk=>by have:=HS1.out;have hq2:(w1.alloc (.cells #[.slice none 0 0,.bool false,.slice none 0 0,.int .i64 0,.int .i64 0,.pointer none] 43)).drew.heap.size=w1.heap.size+1:=World.size_alloc _ _;omega)));have HE:=Hi (one_put [.slice a1 r.iss.length c1,.bool x.below,.slice b2 x.size.length d2,.int .i64 r.date,.int .i64 r.reason,.pointer none] BN rfl (GA.trans F) (Nat.le_refl _) hk2 (.inr rfl));replace BA:=BZ.fr F (fun h=>h);have PB:=BA.fr (putL_all BN (l:=[.slice a1 r.iss.length c1,.bool x.below,.slice b2 x.size.length d2,.int .i64 r.date,.int .i64 r.reason,.pointer none]) rfl).2 (fun e=>by have e2:z=w1.heap.size:=e;have:=HS1.out;omega);simp only[putL]at PB;clear F hq hk2 BN)
   |fail)
  all_goals
   try clear d0 d1 d2' d3 d4 d5 f0 f1 f2 f3 f4 f5
   have h1:=HE.out;try simp only[putL]at h1
   replace h1:=Hi h1;clear HE;go_wp2_with fail
   go_meet
   refine⟨_,b2,d2,rfl,?_,?_⟩
   ·first
    |exact hle
    |exact Nat.le_refl _
    |fail
   ·with_reducible exact h1.out
 case rest=>
  obtain⟨z5,b2,d2,rfl,hz5,B5,hk,F5⟩:=hcut
  have HK:=Hi hk;have HF5:=Hi F5;have HB5:=Hi B5;have HB1:=Hi (HBA.out.fr F5 (fun h=>h));have HB2:=Hi (HBD.out.fr F5 (fun h=>h));have HZ5:=Hi hz5;have HFI:=Hi (HF0.out.trans (HF1.out.trans F5));have hiv:=HIN.out _ (HF1.out.trans F5);clear hk F5 B5 hz5 HWA HBA HBD;have d5:=HB1.out.cell 5;simp only[SG]at d5
  cases hri:r.inv with
  |none=>
   rw[hri]at hiv
   simp only[InvAt,Value.pointer.injEq]at hiv
   subst hiv;have hkr:=HK.out.imp (fun W g=>HRR.out W _ _ (.pointer none) g.1 g.2 (by rw[hri];rfl));have P:=putL_all HB2.out (l:=[.slice a1 r.iss.length c1,.bool x.below,.slice b2 x.size.length d2,.int .i64 r.date,.int .i64 r.reason,.pointer none]) rfl;have hkf:=hkr.step P.2 (K':=fun k=>k<w.heap.size) (fun k _ e=>by have e2:k=z+1:=e;omega) (fun k hk=>by have:=HZ.out;exact .inl (by omega));have hff:=HFI.out.trans' P.2 (fun i hi e=>by have e2:i=z+1:=e;have:=HZ.out;omega);have HKF:=Hi hkf;have HFF:=Hi hff;have HPB:=Hi P.1;clear P hkf hff;simp only[putL]at HKF HFF HPB
   have k0:=HB5.out.cell 0;have k1:=HB5.out.cell 1;have k2:=HB5.out.cell 2;have k3:=HB5.out.cell 3;have k4:=HB5.out.cell 4;have k5:=HB5.out.cell 5;have m0:=HB2.out.cell 0;have m1:=HB2.out.cell 1;have m2:=HB2.out.cell 2;have m3:=HB2.out.cell 3;have m4:=HB2.out.cell 4;have m5:=HB2.out.cell 5;have f0:=HB2.out.frozen 0;have f1:=HB2.out.frozen 1;have f2:=HB2.out.frozen 2;have f3:=HB2.out.frozen 3;have f4:=HB2.out.frozen 4;have f5:=HB2.out.frozen 5;simp only[SG]at k0 k1 k2 k3 k4 k5 m0 m1 m2 m3 m4 m5
   go_wp2_with fail
   clear k0 k1 k2 k3 k4 k5 m0 m1 m2 m3 m4 m5 f0 f1 f2 f3 f4 f5;generalize ((((((wc.setCell ⟨z+1,0,none⟩ (.slice a1 r.iss.length c1)).setCell ⟨z+1,1,none⟩ (.bool x.below)).setCell ⟨z+1,2,none⟩ (.slice b2 x.size.length d2)).setCell ⟨z+1,3,none⟩ (.int .i64 r.date)).setCell ⟨z+1,4,none⟩ (.int .i64 r.reason)).setCell ⟨z+1,5,none⟩ (.pointer none))=w9 at *
   have PB:=HPB.out;have n0:=PB.cell 0;have n1:=PB.cell 1;have n2:=PB.cell 2;have n3:=PB.cell 3;have n4:=PB.cell 4;have n5:=PB.cell 5;simp only[SG]at n0 n1 n2 n3 n4 n5
   refine bodyPost_ret (v:=.agg #[.slice a1 r.iss.length c1,.bool x.below,.slice b2 x.size.length d2,.int .i64 r.date,.int .i64 r.reason,.pointer none]) (by simp[results,Tryz.results37,go_sem,n0,n1,n2,n3,n4,n5]) rfl ⟨⟨a1,c1,b2,d2,none,rfl,HKF.out⟩,HFF.out⟩
  |some t=>
   rw[hri]at hiv
   obtain⟨bq,oq,hq,hcq⟩:=hiv
   simp only[Value.pointer.injEq]at hq
   subst hq;have HRI:=Hi hri;clear hri;go_upto_region 5 with fail
   obtain⟨z6,hz6⟩:∃ z6,z6=wc.heap.size:=⟨_,rfl⟩
   have N6:=Blk.new wc 3 #[.int .i64 t];have M5:=HB5.out.alloc (.cells #[.int .i64 t] 3);have M2:=HB2.out.alloc (.cells #[.int .i64 t] 3);have hl5:=HB5.out.lt;have hl2:=HB2.out.lt;have hz5:=HZ5.out;have hs1:=HS1.out;have k5:=M5.cell 5;have f5:=M5.frozen 5;simp only[SG]at k5
   have FE:=Fr.setCell (S:=fun k=>k=z5) (p:=⟨z5,5,none⟩) ((Fr.refl wc).alloc (.cells #[.int .i64 t] 3)) (fun _=>rfl) (.pointer (some ⟨z6,0,none⟩));rw[←hz6]at N6
   have N6s:=N6.set_other (a:=⟨z5,5,none⟩) (by show z6≠z5;omega) (.pointer (some ⟨z6,0,none⟩));have M2s:=M2.set_other (a:=⟨z5,5,none⟩) (by show z+1≠z5;omega) (.pointer (some ⟨z6,0,none⟩));have M5s:=M5.set 5 (.pointer (some ⟨z6,0,none⟩));simp only[List.setIfInBounds_toArray,List.set_cons_succ,List.set_cons_zero]at M5s
   have hke:Kept (fun W=>RRow W [.slice a1 r.iss.length c1,.bool x.below,.slice b2 x.size.length d2,.int .i64 r.date,.int .i64 r.reason,.pointer (some ⟨z6,0,none⟩)] (nrow r)) (fun k=>k<z+2∨k=z5) ((wc.alloc (.cells #[.int .i64 t] 3)).setCell ⟨z5,5,none⟩ (.pointer (some ⟨z6,0,none⟩))):=by
    have g1:=HK.out.step FE (K':=fun k=>k<z+2∨k=z5) (fun k _ e=>.inr e) (fun k hk=>.inl hk);have g2:Kept (fun W=>W.cell? ⟨z6,0,none⟩=some (.int .i64 t)) (fun k=>k<z+2∨k=z5) ((wc.alloc (.cells #[.int .i64 t] 3)).setCell ⟨z5,5,none⟩ (.pointer (some ⟨z6,0,none⟩))):=fun V f=>f.cell (N6s.cell 0) (fun h=>by rcases h with h|h<;>(simp only at h;omega))
    exact(Kept.both g1 g2).imp (fun W g=>HRR.out W _ _ (.pointer (some ⟨z6,0,none⟩)) g.1.1 g.1.2 (by rw[HRI.out];exact⟨_,_,rfl,g.2⟩))
   have hfe:=HFI.out.trans' FE (fun i hi e=>by have e2:i=z5:=e;have:=HZ.out;omega);have HKE:=Hi hke;have HFE:=Hi hfe;replace M5:=Hi M5s;replace M2:=Hi M2s;have HZ6:=Hi hz6;clear hke hfe FE N6 N6s M5s M2s hz6 hl5 hl2 hz5 hs1;go_upto_region 6 with fail
   clear k5 f5;rw[←HZ6.out]
   generalize ((wc.alloc (.cells #[.int .i64 t] 3)).setCell ⟨z5,5,none⟩ (.pointer (some ⟨z6,0,none⟩)))=we at *
   have P:=putL_all M2.out (l:=[.slice a1 r.iss.length c1,.bool x.below,.slice b2 x.size.length d2,.int .i64 r.date,.int .i64 r.reason,.pointer (some ⟨z6,0,none⟩)]) rfl;have hkf:=HKE.out.step P.2 (K':=fun k=>k<w.heap.size) (fun k _ e=>by have e2:k=z+1:=e;omega) (fun k hk=>by have:=HZ.out;exact .inl (by omega));have hff:=HFE.out.trans' P.2 (fun i hi e=>by have e2:i=z+1:=e;have:=HZ.out;omega);have HKF:=Hi hkf;have HFF:=Hi hff;have HPB:=Hi P.1;clear P hkf hff;simp only[putL]at HKF HFF HPB
   have k0:=M5.out.cell 0;have k1:=M5.out.cell 1;have k2:=M5.out.cell 2;have k3:=M5.out.cell 3;have k4:=M5.out.cell 4;have k5:=M5.out.cell 5;have m0:=M2.out.cell 0;have m1:=M2.out.cell 1;have m2:=M2.out.cell 2;have m3:=M2.out.cell 3;have m4:=M2.out.cell 4;have m5:=M2.out.cell 5;have f0:=M2.out.frozen 0;have f1:=M2.out.frozen 1;have f2:=M2.out.frozen 2;have f3:=M2.out.frozen 3;have f4:=M2.out.frozen 4;have f5:=M2.out.frozen 5;simp only[SG]at k0 k1 k2 k3 k4 k5 m0 m1 m2 m3 m4 m5
   go_wp2_with fail
   clear k0 k1 k2 k3 k4 k5 m0 m1 m2 m3 m4 m5 f0 f1 f2 f3 f4 f5;generalize ((((((we.setCell ⟨z+1,0,none⟩ (.slice a1 r.iss.length c1)).setCell ⟨z+1,1,none⟩ (.bool x.below)).setCell ⟨z+1,2,none⟩ (.slice b2 x.size.length d2)).setCell ⟨z+1,3,none⟩ (.int .i64 r.date)).setCell ⟨z+1,4,none⟩ (.int .i64 r.reason)).setCell ⟨z+1,5,none⟩ (.pointer (some ⟨z6,0,none⟩)))=w9 at *
   have PB:=HPB.out;have n0:=PB.cell 0;have n1:=PB.cell 1;have n2:=PB.cell 2;have n3:=PB.cell 3;have n4:=PB.cell 4;have n5:=PB.cell 5;simp only[SG]at n0 n1 n2 n3 n4 n5
   refine bodyPost_ret (v:=.agg #[.slice a1 r.iss.length c1,.bool x.below,.slice b2 x.size.length d2,.int .i64 r.date,.int .i64 r.reason,.pointer (some ⟨z6,0,none⟩)]) (by simp[results,Tryz.results37,go_sem,n0,n1,n2,n3,n4,n5]) rfl ⟨⟨a1,c1,b2,d2,_,rfl,HKF.out⟩,HFF.out⟩
theorem info43:(Tryz.prog.info? 43).map (fun i=>(i.zero,i.size,i.bytes))=some (some (.agg #[.slice none 0 0,.bool false,.slice none 0 0,.int .i64 0,.int .i64 0,.pointer none]),6,80):=by kernel_rfl
theorem rows_any (v:Value)(l:List RowP)(w:World)(h:Slots w v l)(hf:∀ r∈l,fitR r)(hl:l.length≤1000000) :
  Calls Tryz.prog 48 #[v] w fun e w'=>(∃ a c,e=.returned (.slice a l.length c)∧Go.Q.Rows w' (.slice a l.length c) (l.map nrow))∧Fz w w':=by
 have H:=Hi h;have HFT:=Hi hf;obtain⟨a0,c0,rfl,-⟩:=h
 clear hf;go_enter Tryz.func48,Tryz.ntmps48
 go_wp2_with fail
 go_loopg [3,8] l.length (fun g u i wr=>∃ (j:Nat) (a:Option Addr) (c:Nat) (gs:List RowP),g=l.length-j∧j≤l.length∧u=.slice a gs.length c∧i=.int .i64 j∧gs.length=j∧Hid (gs=(l.take j).map nrow)∧GRow 6 RRow (fun _=>False) 43 wr w.heap.size (.slice a gs.length c) gs∧Fz w wr)
 case atStart=>exact⟨0,none,0,[],rfl,Nat.zero_le _,rfl,rfl,rfl,Hi rfl,GRow.nil _ _ _ _ _ _,Fr.refl _⟩
 case round=>
  obtain⟨j,a,c,gs,hg,hj,rfl,rfl,hgl,HGS,hrow,F⟩:=hrel
  have HG:=Hi hg;have HGL:=Hi hgl;have HRW:=Hi hrow;have HF:=Hi F;clear hg hrow;by_cases hjl:j<l.length
  ·obtain⟨r,hr⟩:∃ r,l[j]? = some r:=⟨_,List.getElem?_eq_getElem hjl⟩
   obtain⟨b,o,cs,rfl,-,hcs,hR,hcell⟩:=LAt.get (Slots.old H.out F) hr
   obtain⟨us,rfl,hrr⟩:=hR
   have hrr0:=hrr;obtain⟨a1,c1,b1,d1,q1,rfl,-⟩:=hrr.form
   have e0:=hcell 0 _ rfl;have e1:=hcell 1 _ rfl;have e2:=hcell 2 _ rfl;have e3:=hcell 3 _ rfl;have e4:=hcell 4 _ rfl;have e5:=hcell 5 _ rfl;have e6:=hcell 6 _ rfl;have p1:(j:Int)<(l.length:Int):=by omega
   have p2:(0:Int)≤(j:Int):=by omega
   have HTK:=Hi (show (l.take (j+1)).map nrow=(l.take j).map nrow++[nrow r] by rw[List.take_add_one,hr,List.map_append];rfl);have hft:=HFT.out r (List.mem_of_getElem? hr);have HC:=Hi (fun W (F:Fz wr W)=>ixCopied_any _ r W (RRow.old _ _ _ _ hrr0 F) hft.1 hft.2.1 hft.2.2);simp only[Nat.add_zero]at e0
   have BN:=Blk.new wr 78 #[str (nameKeyS r.iss),.slice a1 r.iss.length c1,.bool r.num.below,.slice b1 r.num.size.length d1,.int .i64 r.date,.int .i64 r.reason,.pointer q1];have n1:=BN.cell 1;have n2:=BN.cell 2;have n3:=BN.cell 3;have n4:=BN.cell 4;have n5:=BN.cell 5;have n6:=BN.cell 6;simp only[SG]at n1 n2 n3 n4 n5 n6
   have FA:Fz wr (wr.alloc (.cells #[str (nameKeyS r.iss),.slice a1 r.iss.length c1,.bool r.num.below,.slice b1 r.num.size.length d1,.int .i64 r.date,.int .i64 r.reason,.pointer q1] 78)):=(Fr.refl wr).alloc _;have hsa:(wr.alloc (.cells #[str (nameKeyS r.iss),.slice a1 r.iss.length c1,.bool r.num.below,.slice b1 r.num.size.length d1,.int .i64 r.date,.int .i64 r.reason,.pointer q1] 78)).heap.size=wr.heap.size+1:=World.size_alloc _ _;have HFA:=Hi FA;have HSA:=Hi hsa;have hkp:=HRW.out.keep;have HKP:=Hi hkp;clear hr hcell hrr hrr0 hft F hgl FA hsa BN hkp;go_wp2_with fail
   refine(HC.out _ HFA.out).mono ?_
   rintro e w2 ⟨⟨a2,c2,b2,d2,q2,rfl,hk⟩,F2⟩;have FX:=HFA.out.trans F2;obtain⟨x,hx⟩:∃ x,x=madeS r.num:=⟨_,rfl⟩
   rw[←hx]at hk ⊢
   obtain⟨a7,c7,w7,hrun,hrow7,F7,-⟩:=(HRW.out.old FX).add (s:=23) Tryz.underlying23 info43 rfl (by decide) (by decide) (HF.out.trans FX).size ((Fr.refl w2).alloc (.cells [.slice a2 r.iss.length c2,.bool x.below,.slice b2 x.size.length d2,.int .i64 r.date,.int .i64 r.reason,.pointer q2].toArray 43)) w2.heap.size [.slice a2 r.iss.length c2,.bool x.below,.slice b2 x.size.length d2,.int .i64 r.date,.int .i64 r.reason,.pointer q2] rfl (Blk.new w2 43 [.slice a2 r.iss.length c2,.bool x.below,.slice b2 x.size.length d2,.int .i64 r.date,.int .i64 r.reason,.pointer q2].toArray) (by simp[Value.oneCell']) (nrow r) (hk.weaken (fun k hk=>by
     rcases hk with hk|hk
     ·have:=(HKP.out k hk).2;have:=HSA.out;omega
     ·exact hk.elim)) (by have:=HGL.out;omega)
   have HRUN:=Hi hrun;have HRW7:=Hi hrow7;have HF7:=Hi ((HF.out.trans FX).trans' F7 (fun i hi e=>absurd hi (by have:=(HKP.out i e).1;omega)));have HGS7:=Hi (show gs++[nrow r]=(l.take (j+1)).map nrow by rw[HTK.out,HGS.out]);clear F2 hk hrun hrow7 F7 HC HRW FX hx n1 n2 n3 n4 n5 n6 e0 e1 e2 e3 e4 e5 e6;go_wp2_with (at_builtin;refine wpList_append_run (by rfl) (.tmp 12) (.tmp 16) 23 (by rfl) _ w7 (by exact HRUN.out) ?_)
   go_roundg (l.length-(j+1))
   case measure=>rw[HG.out];omega
   case rel=>exact⟨j+1,a7,c7,gs++[nrow r],rfl,by omega,by rw[List.length_append];rfl,by go_num,by rw[List.length_append,HGL.out];rfl,HGS7,by rw[List.length_append];exact HRW7.out,HF7.out⟩
  ·have hgs:=HGS.out
   rw[List.take_of_length_le (by omega)]at hgs
   have HE:=Hi hgs;clear hgs hgl;go_wp2_with fail
   go_ret;have hx:=HRW.out.at (by decide);rw[HE.out]at hx ⊢
   rw[List.length_map]at hx ⊢
   exact⟨⟨a,c,rfl,hx⟩,HF.out⟩
theorem ixAll_any (v:Value)(l:List RowP)(w:World)(h:IxAt w v l)(hf:∀ r∈l,fitR r)(hl:l.length≤1000000) :
  Calls Tryz.prog 15 #[v] w fun e w'=>(∃ a c,e=.returned (.slice a l.length c)∧Go.Q.Rows w' (.slice a l.length c) (l.map nrow))∧Fz w w':=by
 have H:=Hi (slots_any v l w h);have HF:=Hi hf;clear h hf;go_enter Tryz.func15,Tryz.ntmps15
 go_wp2_with fail
 refine H.out.mono ?_;rintro e w1 ⟨⟨a,c,rfl,hs⟩,F1⟩;have H2:=Hi (rows_any _ l w1 (Slots.old hs F1) HF.out hl);clear hs;go_wp2_with fail
 refine H2.out.mono ?_;rintro e w2 ⟨⟨a2,c2,rfl,hr⟩,F2⟩;have HR:=Hi hr;clear hr;go_wp2_with fail
 go_ret;exact⟨⟨a2,c2,rfl,HR.out⟩,F1.trans F2⟩
theorem sought_ok (v:Value)(nm:List (List Part))(b:Bool)(a:Option Addr)(n c:Nat)(w:World)(h:NameAt w v nm)(hf:∀ r∈nm,fewB r)(hok:nameOk nm=true)(hE:Env w) :
  Calls Tryz.prog 54 #[v,.agg #[.bool b,.slice a n c]] w fun e w'=>e=.returned (.tuple #[.agg #[str (nameKeyS nm),.slice none 0 0,.bool b,.slice a n c,.int .i64 0,.int .i64 0,.pointer none],.bool true])∧Fz w w':=by
 obtain⟨kk,hkk⟩:∃ kk,kk=nameKeyS nm:=⟨_,rfl⟩
 rw[←hkk]
 obtain⟨av,cv,rfl⟩:=NameAt.shape h
 obtain⟨z,hz⟩:∃ z,z=w.heap.size:=⟨_,rfl⟩
 have HZ:=Hi hz;have F0:Fz w ((w.alloc (.cells #[.bool b,.slice a n c] 40)).alloc (.cells #[.string ⟨#[]⟩,.slice none 0 0,.bool false,.slice none 0 0,.int .i64 0,.int .i64 0,.pointer none] 78)):=((Fr.refl w).alloc _).alloc _;have BN:=(Blk.new w 40 #[.bool b,.slice a n c]).alloc (.cells #[.string ⟨#[]⟩,.slice none 0 0,.bool false,.slice none 0 0,.int .i64 0,.int .i64 0,.pointer none] 78);have BR:=Blk.new (w.alloc (.cells #[.bool b,.slice a n c] 40)) 78 #[.string ⟨#[]⟩,.slice none 0 0,.bool false,.slice none 0 0,.int .i64 0,.int .i64 0,.pointer none];rw[World.size_alloc,←hz]at BR
 rw[←hz]at BN
 have HK:=Hi (nameKey_any _ nm _ (h.old F0) hf hok (hE.old F0));rw[←hkk]at HK
 have HF:=Hi F0;clear h hf hok hE hkk hz F0;go_enter Tryz.func54,Tryz.ntmps54
 go_upto_region 1 with fail
 rw[←HZ.out]
 generalize ((w.alloc (.cells #[.bool b,.slice a n c] 40)).alloc (.cells #[.string ⟨#[]⟩,.slice none 0 0,.bool false,.slice none 0 0,.int .i64 0,.int .i64 0,.pointer none] 78))=w0 at *
 go_wp2_with fail
 refine HK.out.mono ?_;rintro e w1 ⟨rfl,F1⟩;have BN1:=BN.fr F1 (fun h=>h);have BR1:=BR.fr F1 (fun h=>h);have P:=putL_all (Z:=[.string ⟨#[]⟩,.slice none 0 0,.bool false,.slice none 0 0,.int .i64 0,.int .i64 0,.pointer none]) BR1 (l:=[str kk,.slice none 0 0,.bool b,.slice a n c,.int .i64 0,.int .i64 0,.pointer none]) rfl;have HPF:=Hi ((HF.out.trans F1).trans' P.2 (fun i hi e=>by have e2:i=z+1:=e;have:=HZ.out;omega));have HPB:=Hi P.1;simp only[putL]at HPF HPB
 clear P F1 BN BR HK;have x0:=BN1.cell 0;have x1:=BN1.cell 1;have m0:=BR1.cell 0;have m1:=BR1.cell 1;have m2:=BR1.cell 2;have m3:=BR1.cell 3;have m4:=BR1.cell 4;have m5:=BR1.cell 5;have m6:=BR1.cell 6;have f0:=BR1.frozen 0;have f1:=BR1.frozen 1;have f2:=BR1.frozen 2;have f3:=BR1.frozen 3;have f4:=BR1.frozen 4;have f5:=BR1.frozen 5;have f6:=BR1.frozen 6;simp only[SG]at x0 x1 m0 m1 m2 m3 m4 m5 m6
 clear BN1 BR1;go_wp2_with fail
 clear x0 x1 m0 m1 m2 m3 m4 m5 m6 f0 f1 f2 f3 f4 f5 f6;have u0:=HPB.out.cell 0;have u1:=HPB.out.cell 1;have u2:=HPB.out.cell 2;have u3:=HPB.out.cell 3;have u4:=HPB.out.cell 4;have u5:=HPB.out.cell 5;have u6:=HPB.out.cell 6;simp only[SG]at u0 u1 u2 u3 u4 u5 u6
 exact bodyPost_ret (v:=.tuple #[.agg #[str kk,.slice none 0 0,.bool b,.slice a n c,.int .i64 0,.int .i64 0,.pointer none],.bool true]) (by simp[results,Tryz.results54,go_sem,u0,u1,u2,u3,u4,u5,u6]) rfl ⟨rfl,HPF.out⟩
theorem searchP_any (n b1 b2:Nat)(p:Nat→Bool)(w:World)(hn:n≤1000000)(hmono:∀ i j,i≤j→j<n→p i=true→p j=true)(hc:∀ W,Fz w W→∀ h:Nat,h<n→Calls Tryz.prog 82 #[.int .i64 (h:Int),pt b1,pt b2] W fun e w'=>e=.returned (.bool (p h))∧Fz W w') :
  Calls Tryz.prog 56 #[.int .i64 (n:Int),.func (.func 82) #[] #[pt b1,pt b2]] w fun e w'=>(∃ r:Nat,e=.returned (.int .i64 (r:Int))∧r≤n∧(∀ i,i<r→p i=false)∧(r<n→p r=true))∧Fz w w':=by
 have HC:=Hi hc;have HM:=Hi hmono;clear hc hmono;go_enter Tryz.func56,Tryz.ntmps56
 go_wp2_with fail
 go_loopg [5,6] n (fun g x y wr=>∃ i j:Nat,g=j-i∧i≤j∧j≤n∧x=.int .i64 (i:Int)∧y=.int .i64 (j:Int)∧Hid (∀ k,k<i→p k=false)∧Hid (j<n→p j=true)∧Hid (Fz w wr))
 case atStart=>exact⟨0,n,rfl,Nat.zero_le _,Nat.le_refl _,rfl,rfl,Hi (fun k hk=>absurd hk (Nat.not_lt_zero k)),Hi (fun h=>absurd h (Nat.lt_irrefl n)),Hi (Fr.refl _)⟩
 case round=>
  obtain⟨i,j,hg,hij,hjn,rfl,rfl,H1,H2,HF⟩:=hrel
  have HG:=Hi hg;clear hg;by_cases hlt:i<j
  ·obtain⟨h,hh⟩:∃ h,h=(i+j) / 2:=⟨_,rfl⟩
   have hih:i≤h:=by omega
   have hhj:h<j:=by omega
   have HH:=Hi hh;have r1:(i:Int)<(j:Int):=by omega
   have hhn:h<n:=by omega
   have hw4:((i:Int)+(j:Int)) / 2=(h:Int):=by omega
   have HCH:=Hi (HC.out wr HF.out h hhn);clear hh;cases hp:p h with
   |false=>
    have HP:=Hi hp;rw[hp]at HCH
    clear hp;go_wp2_with fail
    refine HCH.out.mono ?_;rintro e w2 ⟨rfl,F2⟩;have HF2:=Hi (HF.out.trans F2);have H3:=Hi (show ∀ k,k<h+1→p k=false from fun k hk=>by
     cases hq:p k with
     |false=>rfl
     |true=>exact absurd (HM.out k h (by omega) (by omega) hq) (by rw[HP.out];decide))
    clear F2;go_wp2_with fail
    go_roundg (j-(h+1))
    case measure=>rw[HG.out];omega
    case rel=>exact⟨h+1,j,rfl,by omega,hjn,by go_num,rfl,H3,H2,HF2⟩
   |true=>
    have HP:=Hi hp;rw[hp]at HCH
    clear hp;go_wp2_with fail
    refine HCH.out.mono ?_;rintro e w2 ⟨rfl,F2⟩;have HF2:=Hi (HF.out.trans F2);clear F2;go_wp2_with fail
    go_roundg (h-i)
    case measure=>rw[HG.out];omega
    case rel=>exact⟨i,h,rfl,hih,by omega,rfl,rfl,H1,Hi (fun _=>HP.out),HF2⟩
  ·have r1:¬(i:Int)<(j:Int):=by omega
   obtain rfl:i=j:=by omega
   go_wp2_with fail
   go_ret;exact⟨⟨i,rfl,hjn,H1.out,H2.out⟩,HF.out⟩
theorem searchA_any (n b1 b2:Nat)(p:Nat→Bool)(w:World)(hn:n≤1000000)(hmono:∀ i j,i≤j→j<n→p i=true→p j=true)(hc:∀ W,Fz w W→∀ h:Nat,h<n→Calls Tryz.prog 57 #[.int .i64 (h:Int),pt b1,pt b2] W fun e w'=>e=.returned (.bool (p h))∧Fz W w') :
  Calls Tryz.prog 56 #[.int .i64 (n:Int),.func (.func 57) #[] #[pt b1,pt b2]] w fun e w'=>(∃ r:Nat,e=.returned (.int .i64 (r:Int))∧r≤n∧(∀ i,i<r→p i=false)∧(r<n→p r=true))∧Fz w w':=by
 have HC:=Hi hc;have HM:=Hi hmono;clear hc hmono;go_enter Tryz.func56,Tryz.ntmps56
 go_wp2_with fail
 go_loopg [5,6] n (fun g x y wr=>∃ i j:Nat,g=j-i∧i≤j∧j≤n∧x=.int .i64 (i:Int)∧y=.int .i64 (j:Int)∧Hid (∀ k,k<i→p k=false)∧Hid (j<n→p j=true)∧Hid (Fz w wr))
 case atStart=>exact⟨0,n,rfl,Nat.zero_le _,Nat.le_refl _,rfl,rfl,Hi (fun k hk=>absurd hk (Nat.not_lt_zero k)),Hi (fun h=>absurd h (Nat.lt_irrefl n)),Hi (Fr.refl _)⟩
 case round=>
  obtain⟨i,j,hg,hij,hjn,rfl,rfl,H1,H2,HF⟩:=hrel
  have HG:=Hi hg;clear hg;by_cases hlt:i<j
  ·obtain⟨h,hh⟩:∃ h,h=(i+j) / 2:=⟨_,rfl⟩
   have hih:i≤h:=by omega
   have hhj:h<j:=by omega
   have HH:=Hi hh;have r1:(i:Int)<(j:Int):=by omega
   have hhn:h<n:=by omega
   have hw4:((i:Int)+(j:Int)) / 2=(h:Int):=by omega
   have HCH:=Hi (HC.out wr HF.out h hhn);clear hh;cases hp:p h with
   |false=>
    have HP:=Hi hp;rw[hp]at HCH
    clear hp;go_wp2_with fail
    refine HCH.out.mono ?_;rintro e w2 ⟨rfl,F2⟩;have HF2:=Hi (HF.out.trans F2);have H3:=Hi (show ∀ k,k<h+1→p k=false from fun k hk=>by
     cases hq:p k with
     |false=>rfl
     |true=>exact absurd (HM.out k h (by omega) (by omega) hq) (by rw[HP.out];decide))
    clear F2;go_wp2_with fail
    go_roundg (j-(h+1))
    case measure=>rw[HG.out];omega
    case rel=>exact⟨h+1,j,rfl,by omega,hjn,by go_num,rfl,H3,H2,HF2⟩
   |true=>
    have HP:=Hi hp;rw[hp]at HCH
    clear hp;go_wp2_with fail
    refine HCH.out.mono ?_;rintro e w2 ⟨rfl,F2⟩;have HF2:=Hi (HF.out.trans F2);clear F2;go_wp2_with fail
    go_roundg (h-i)
    case measure=>rw[HG.out];omega
    case rel=>exact⟨i,h,rfl,hih,by omega,rfl,rfl,H1,Hi (fun _=>HP.out),HF2⟩
  ·have r1:¬(i:Int)<(j:Int):=by omega
   obtain rfl:i=j:=by omega
   go_wp2_with fail
   go_ret;exact⟨⟨i,rfl,hjn,H1.out,H2.out⟩,HF.out⟩
theorem searchB_any (n b1 b2:Nat)(p:Nat→Bool)(w:World)(hn:n≤1000000)(hmono:∀ i j,i≤j→j<n→p i=true→p j=true)(hc:∀ W,Fz w W→∀ h:Nat,h<n→Calls Tryz.prog 58 #[.int .i64 (h:Int),pt b1,pt b2] W fun e w'=>e=.returned (.bool (p h))∧Fz W w') :
  Calls Tryz.prog 56 #[.int .i64 (n:Int),.func (.func 58) #[] #[pt b1,pt b2]] w fun e w'=>(∃ r:Nat,e=.returned (.int .i64 (r:Int))∧r≤n∧(∀ i,i<r→p i=false)∧(r<n→p r=true))∧Fz w w':=by
 have HC:=Hi hc;have HM:=Hi hmono;clear hc hmono;go_enter Tryz.func56,Tryz.ntmps56
 go_wp2_with fail
 go_loopg [5,6] n (fun g x y wr=>∃ i j:Nat,g=j-i∧i≤j∧j≤n∧x=.int .i64 (i:Int)∧y=.int .i64 (j:Int)∧Hid (∀ k,k<i→p k=false)∧Hid (j<n→p j=true)∧Hid (Fz w wr))
 case atStart=>exact⟨0,n,rfl,Nat.zero_le _,Nat.le_refl _,rfl,rfl,Hi (fun k hk=>absurd hk (Nat.not_lt_zero k)),Hi (fun h=>absurd h (Nat.lt_irrefl n)),Hi (Fr.refl _)⟩
 case round=>
  obtain⟨i,j,hg,hij,hjn,rfl,rfl,H1,H2,HF⟩:=hrel
  have HG:=Hi hg;clear hg;by_cases hlt:i<j
  ·obtain⟨h,hh⟩:∃ h,h=(i+j) / 2:=⟨_,rfl⟩
   have hih:i≤h:=by omega
   have hhj:h<j:=by omega
   have HH:=Hi hh;have r1:(i:Int)<(j:Int):=by omega
   have hhn:h<n:=by omega
   have hw4:((i:Int)+(j:Int)) / 2=(h:Int):=by omega
   have HCH:=Hi (HC.out wr HF.out h hhn);clear hh;cases hp:p h with
   |false=>
    have HP:=Hi hp;rw[hp]at HCH
    clear hp;go_wp2_with fail
    refine HCH.out.mono ?_;rintro e w2 ⟨rfl,F2⟩;have HF2:=Hi (HF.out.trans F2);have H3:=Hi (show ∀ k,k<h+1→p k=false from fun k hk=>by
     cases hq:p k with
     |false=>rfl
     |true=>exact absurd (HM.out k h (by omega) (by omega) hq) (by rw[HP.out];decide))
    clear F2;go_wp2_with fail
    go_roundg (j-(h+1))
    case measure=>rw[HG.out];omega
    case rel=>exact⟨h+1,j,rfl,by omega,hjn,by go_num,rfl,H3,H2,HF2⟩
   |true=>
    have HP:=Hi hp;rw[hp]at HCH
    clear hp;go_wp2_with fail
    refine HCH.out.mono ?_;rintro e w2 ⟨rfl,F2⟩;have HF2:=Hi (HF.out.trans F2);clear F2;go_wp2_with fail
    go_roundg (h-i)
    case measure=>rw[HG.out];omega
    case rel=>exact⟨i,h,rfl,hih,by omega,rfl,rfl,H1,Hi (fun _=>HP.out),HF2⟩
  ·have r1:¬(i:Int)<(j:Int):=by omega
   obtain rfl:i=j:=by omega
   go_wp2_with fail
   go_ret;exact⟨⟨i,rfl,hjn,H1.out,H2.out⟩,HF.out⟩
theorem ofA_any (X:List RowP)(kk:List UInt8)(b1 b2:Nat)(a:Option Addr)(c:Nat)(h:Nat)(x:RowP)(w:World)(h1:w.cell? ⟨b1,0,none⟩=some (.slice a X.length c))(h2:w.cell? ⟨b2,0,none⟩=some (str kk))(hs:Slots w (.slice a X.length c) X)(hx:X[h]? = some x) :
  Calls Tryz.prog 57 #[.int .i64 (h:Int),pt b1,pt b2] w fun e w'=>e=.returned (.bool (!decide (nameKeyS x.iss<kk)))∧Fz w w':=by
 obtain⟨b,o,cs,rfl,-,-,hR,hcell⟩:=LAt.get hs hx
 obtain⟨us,rfl,-⟩:=hR
 have hhl:=(List.getElem?_eq_some_iff.1 hx).1;have e0:=hcell 0 _ rfl;simp only[Nat.add_zero]at e0
 have p1:(h:Int)<(X.length:Int):=by omega
 have p2:(0:Int)≤(h:Int):=by omega
 obtain⟨kx,hkx⟩:∃ kx,kx=nameKeyS x.iss:=⟨_,rfl⟩
 rw[←hkx]at e0 ⊢
 have HF:=Hi (fun n=>(Fr.refl w:Fz w w).drewN n);have hrg:=fun t W=>run_geq t kx kk W
 clear hs hx hcell hkx;go_enter Tryz.func57,Tryz.ntmps57
 go_upto_region 1 with fail
 go_quiet (fail)
 go_wp2_with fail
 go_ret;exact⟨rfl,HF.out _⟩
theorem ofB_any (X:List RowP)(kk:List UInt8)(b1 b2:Nat)(a:Option Addr)(c:Nat)(h:Nat)(x:RowP)(w:World)(h1:w.cell? ⟨b1,0,none⟩=some (.slice a X.length c))(h2:w.cell? ⟨b2,0,none⟩=some (str kk))(hs:Slots w (.slice a X.length c) X)(hx:X[h]? = some x) :
  Calls Tryz.prog 58 #[.int .i64 (h:Int),pt b1,pt b2] w fun e w'=>e=.returned (.bool (decide (kk<nameKeyS x.iss)))∧Fz w w':=by
 obtain⟨b,o,cs,rfl,-,-,hR,hcell⟩:=LAt.get hs hx
 obtain⟨us,rfl,-⟩:=hR
 have hhl:=(List.getElem?_eq_some_iff.1 hx).1;have e0:=hcell 0 _ rfl;simp only[Nat.add_zero]at e0
 have p1:(h:Int)<(X.length:Int):=by omega
 have p2:(0:Int)≤(h:Int):=by omega
 obtain⟨kx,hkx⟩:∃ kx,kx=nameKeyS x.iss:=⟨_,rfl⟩
 rw[←hkx]at e0 ⊢
 have HF:=Hi (fun n=>(Fr.refl w:Fz w w).drewN n);have hrg:=fun t W=>run_gtr t kx kk W
 clear hs hx hcell hkx;go_enter Tryz.func58,Tryz.ntmps58
 go_upto_region 1 with fail
 go_quiet (fail)
 go_wp2_with fail
 go_ret;exact⟨rfl,HF.out _⟩
theorem place1_any (X:List RowP)(kk:List UInt8)(sb:Bool)(sz:List UInt8)(sa:Option Addr)(sc:Nat)(b1 b2:Nat)(a:Option Addr)(c:Nat)(h:Nat)(x:RowP)(w:World)(h1:w.cell? ⟨b1,0,none⟩=some (.slice a X.length c))(h2:∀ j,w.cell? ⟨b2,j,none⟩=(#[str kk,.slice none 0 0,.bool sb,.slice sa sz.length sc,.int .i64 0,.int .i64 0,.pointer none]:Array Value)[j]?)(hb:Bytes w (.slice sa sz.length sc) sz)(hs:Slots w (.slice a X.length c) X)(hx:X[h]? = some x)(hl1:x.num.size.length≤1000000)(hl2:sz.length≤1000000) :
  Calls Tryz.prog 82 #[.int .i64 (h:Int),pt b1,pt b2] w fun e w'=>e=.returned (.bool (decide (0≤if cmpL (nameKeyS x.iss) kk=0 then numC x.num ⟨sb,sz⟩ else cmpL (nameKeyS x.iss) kk)))∧Fz w w':=by
 obtain⟨b,o,cs,rfl,-,-,hR,hcell⟩:=LAt.get hs hx
 obtain⟨us,rfl,hrr⟩:=hR
 obtain⟨a1,c1,d1,e1,q1,rfl,hni,hbx,-⟩:=hrr.form
 have hhl:=(List.getElem?_eq_some_iff.1 hx).1;have p1:(h:Int)<(X.length:Int):=by omega
 have p2:(0:Int)≤(h:Int):=by omega
 obtain⟨kx,hkx⟩:∃ kx,kx=nameKeyS x.iss:=⟨_,rfl⟩
 rw[←hkx]at hcell ⊢
 obtain⟨rc,hrc⟩:∃ rc,rc=(if cmpL kx kk=0 then numC x.num ⟨sb,sz⟩ else cmpL kx kk):=⟨_,rfl⟩
 rw[←hrc]
 have HS:=Hi (fun W (F:Fz w W)=>show (W.cell? ⟨b1,0,none⟩=some (.slice (some ⟨b,o,none⟩) X.length c))∧(W.cell? ⟨b,o+h*7,none⟩=some (str kx)∧W.cell? ⟨b,o+h*7+1,none⟩=some (.slice a1 x.iss.length c1)∧W.cell? ⟨b,o+h*7+2,none⟩=some (.bool x.num.below)∧W.cell? ⟨b,o+h*7+3,none⟩=some (.slice d1 x.num.size.length e1)∧W.cell? ⟨b,o+h*7+4,none⟩=some (.int .i64 x.date)∧W.cell? ⟨b,o+h*7+5,none⟩=some (.int .i64 x.reason)∧W.cell? ⟨b,o+h*7+6,none⟩=some (.pointer q1))∧∀ j,W.cell? ⟨b2,j,none⟩=(#[str kk,.slice none 0 0,.bool sb,.slice sa sz.length sc,.int .i64 0,.int .i64 0,.pointer none]:Array Value)[j]? from ⟨F.cell h1 (fun h=>h),⟨by have:=F.cell (hcell 0 _ rfl) (fun h=>h);rwa[Nat.add_zero]at this,F.cell (hcell 1 _ rfl) (fun h=>h),F.cell (hcell 2 _ rfl) (fun h=>h),F.cell (hcell 3 _ rfl) (fun h=>h),F.cell (hcell 4 _ rfl) (fun h=>h),F.cell (hcell 5 _ rfl) (fun h=>h),F.cell (hcell 6 _ rfl) (fun h=>h)⟩,fun j=>by
  cases hv:(#[str kk,.slice none 0 0,.bool sb,.slice sa sz.length sc,.int .i64 0,.int .i64 0,.pointer none]:Array Value)[j]? with
  |some v=>exact F.cell ((h2 j).trans hv) (fun h=>h)
  |none=>exact(cell_none F ((h2 j).trans hv) (h2 0))⟩)
 have HO:=Hi (fun W (F:Fz w W)=>order_any kx kk x.num ⟨sb,sz⟩ a1 d1 none sa x.iss.length 0 c1 e1 0 sc x.date 0 x.reason 0 q1 none W (hbx.old F) (hb.old F) (by omega) (by show sz.length≤_;omega));rw[←hrc]at HO
 have G:Fz w w.drew:=(Fr.refl w).drew;clear hs hx hcell hkx hrr hni hbx hb h1 h2 hrc;go_enter Tryz.func82,Tryz.ntmps82
 go_upto_region 1 with fail
 refine wp_region_N 8 (S:=fun w'=>(w'.cell? ⟨b1,0,none⟩=some (.slice (some ⟨b,o,none⟩) X.length c))∧(w'.cell? ⟨b,o+h*7,none⟩=some (str kx)∧w'.cell? ⟨b,o+h*7+1,none⟩=some (.slice a1 x.iss.length c1)∧w'.cell? ⟨b,o+h*7+2,none⟩=some (.bool x.num.below)∧w'.cell? ⟨b,o+h*7+3,none⟩=some (.slice d1 x.num.size.length e1)∧w'.cell? ⟨b,o+h*7+4,none⟩=some (.int .i64 x.date)∧w'.cell? ⟨b,o+h*7+5,none⟩=some (.int .i64 x.reason)∧w'.cell? ⟨b,o+h*7+6,none⟩=some (.pointer q1))∧∀ j,w'.cell? ⟨b2,j,none⟩=(#[str kk,.slice none 0 0,.bool sb,.slice sa sz.length sc,.int .i64 0,.int .i64 0,.pointer none]:Array Value)[j]?) (by kernel_rfl) ?_ (fun hHeld=>?_)
 ·exact HS.out _ G
 refine tkN 0 rfl hHeld ?_;refine tkN 1 rfl hHeld ?_;refine tkN 2 rfl hHeld ?_;(try simp only[Act.put,SS]);refine tkN 3 rfl hHeld ?_;refine tkN 4 rfl hHeld ?_;(try simp only[Act.put,SS]);refine wpAnyN_step (i:=5) (by kernel_rfl) (o:=_) rfl (fun KK hKK=>?_);go_simp
 (go_at_call 39;(with_reducible refine(HO.out _ G).mono ?_);rintro e w2 ⟨rfl,F2⟩;have G2:=G.trans F2;clear F2;go_wp2_with fail)
 refine hKK.out _ _ ?_ (fun hHeld=>?_)
 ·exact HS.out _ G2
 clear hKK KK;(try simp only[Act.put,SS]);refine tkN 6 rfl hHeld ?_;refine tkN 7 rfl hHeld ?_;(try simp only[Act.put,SK,SS]);refine wpAnyN_done (by kernel_rfl) ?_ _;clear hHeld;go_wp2_with fail
 go_ret;refine⟨?_,G2⟩
 first|rfl|(show Ending.returned (Value.bool (!decide (rc<0)))=_;congr 2;rw[Bool.eq_iff_iff];simp)|(simp only[Act.put,SS];rfl)
theorem sought_bad (v:Value)(nm:List (List Part))(b:Bool)(a:Option Addr)(n c:Nat)(w:World)(h:NameAt w v nm)(hf:∀ r∈nm,fewB r)(hok:nameOk nm=false) :
  Calls Tryz.prog 54 #[v,.agg #[.bool b,.slice a n c]] w fun e w'=>e=.returned (.tuple #[.agg #[str [],.slice none 0 0,.bool b,.slice a n c,.int .i64 0,.int .i64 0,.pointer none],.bool false])∧Fz w w':=by
 obtain⟨av,cv,rfl⟩:=NameAt.shape h
 obtain⟨z,hz⟩:∃ z,z=w.heap.size:=⟨_,rfl⟩
 have HZ:=Hi hz;have F0:Fz w ((w.alloc (.cells #[.bool b,.slice a n c] 40)).alloc (.cells #[.string ⟨#[]⟩,.slice none 0 0,.bool false,.slice none 0 0,.int .i64 0,.int .i64 0,.pointer none] 78)):=((Fr.refl w).alloc _).alloc _;have BN:=(Blk.new w 40 #[.bool b,.slice a n c]).alloc (.cells #[.string ⟨#[]⟩,.slice none 0 0,.bool false,.slice none 0 0,.int .i64 0,.int .i64 0,.pointer none] 78);have BR:=Blk.new (w.alloc (.cells #[.bool b,.slice a n c] 40)) 78 #[.string ⟨#[]⟩,.slice none 0 0,.bool false,.slice none 0 0,.int .i64 0,.int .i64 0,.pointer none];rw[World.size_alloc,←hz]at BR
 rw[←hz]at BN
 have HK:=Hi (nameKey_bad _ nm _ (h.old F0) hf hok);have HF:=Hi F0;clear h hf hok hz F0;go_enter Tryz.func54,Tryz.ntmps54
 go_upto_region 1 with fail
 rw[←HZ.out]
 generalize ((w.alloc (.cells #[.bool b,.slice a n c] 40)).alloc (.cells #[.string ⟨#[]⟩,.slice none 0 0,.bool false,.slice none 0 0,.int .i64 0,.int .i64 0,.pointer none] 78))=w0 at *
 go_wp2_with fail
 refine HK.out.mono ?_;rintro e w1 ⟨rfl,F1⟩;have BN1:=BN.fr F1 (fun h=>h);have BR1:=BR.fr F1 (fun h=>h);have P:=putL_all (Z:=[.string ⟨#[]⟩,.slice none 0 0,.bool false,.slice none 0 0,.int .i64 0,.int .i64 0,.pointer none]) BR1 (l:=[str [],.slice none 0 0,.bool b,.slice a n c,.int .i64 0,.int .i64 0,.pointer none]) rfl;have HPF:=Hi ((HF.out.trans F1).trans' P.2 (fun i hi e=>by have e2:i=z+1:=e;have:=HZ.out;omega));have HPB:=Hi P.1;simp only[putL]at HPF HPB
 clear P F1 BN BR HK;have x0:=BN1.cell 0;have x1:=BN1.cell 1;have m0:=BR1.cell 0;have m1:=BR1.cell 1;have m2:=BR1.cell 2;have m3:=BR1.cell 3;have m4:=BR1.cell 4;have m5:=BR1.cell 5;have m6:=BR1.cell 6;have f0:=BR1.frozen 0;have f1:=BR1.frozen 1;have f2:=BR1.frozen 2;have f3:=BR1.frozen 3;have f4:=BR1.frozen 4;have f5:=BR1.frozen 5;have f6:=BR1.frozen 6;simp only[SG]at x0 x1 m0 m1 m2 m3 m4 m5 m6
 clear BN1 BR1;go_wp2_with fail
 clear x0 x1 m0 m1 m2 m3 m4 m5 m6 f0 f1 f2 f3 f4 f5 f6;have u0:=HPB.out.cell 0;have u1:=HPB.out.cell 1;have u2:=HPB.out.cell 2;have u3:=HPB.out.cell 3;have u4:=HPB.out.cell 4;have u5:=HPB.out.cell 5;have u6:=HPB.out.cell 6;simp only[SG]at u0 u1 u2 u3 u4 u5 u6
 exact bodyPost_ret (v:=.tuple #[.agg #[str [],.slice none 0 0,.bool b,.slice a n c,.int .i64 0,.int .i64 0,.pointer none],.bool false]) (by simp[results,Tryz.results54,go_sem,u0,u1,u2,u3,u4,u5,u6]) rfl ⟨rfl,HPF.out⟩
theorem ixPlaceS_any (v:Value)(X:List RowP)(s:RowP)(sa:Option Addr)(sc:Nat)(w:World)(h:IxAt w v X)(hb:Bytes w (.slice sa s.num.size.length sc) s.num.size)(hu:UpR X)(hf:∀ r∈X,r.num.size.length≤1000000)(hs:s.num.size.length≤1000000)(hl:X.length≤1000000) :
  Calls Tryz.prog 55 #[v,.agg #[str (nameKeyS s.iss),.slice none 0 0,.bool s.num.below,.slice sa s.num.size.length sc,.int .i64 0,.int .i64 0,.pointer none]] w fun e w'=>e=.returned (.int .i64 (aheadR X s:Int))∧Fz w w':=by
 have HPE:=Hi (show ∀ (h:Nat) (x:RowP),X[h]? = some x→notAhead X s h=decide (0≤if cmpL (nameKeyS x.iss) (nameKeyS s.iss)=0 then numC x.num s.num else cmpL (nameKeyS x.iss) (nameKeyS s.iss)) from fun h x hx=>by
  unfold notAhead;rw[hx,←rowC_keys])
 obtain⟨kk,hkk⟩:∃ kk,kk=nameKeyS s.iss:=⟨_,rfl⟩
 rw[←hkk]at HPE ⊢
 have F0:Fz w (w.alloc (.cells #[str kk,.slice none 0 0,.bool s.num.below,.slice sa s.num.size.length sc,.int .i64 0,.int .i64 0,.pointer none] 78)):=(Fr.refl w).alloc _;have BZ:=Blk.new w 78 #[str kk,.slice none 0 0,.bool s.num.below,.slice sa s.num.size.length sc,.int .i64 0,.int .i64 0,.pointer none];have HS:=Hi (slots_any v X _ (h.old F0));have HF0:=Hi F0;have HBZ:=Hi BZ;have HB:=Hi (hb.old F0);have HU:=Hi hu;have HFX:=Hi hf;clear h hb hu hf hkk F0 BZ;go_enter Tryz.func55,Tryz.ntmps55
 go_wp2_with fail
 refine HS.out.mono ?_;rintro e w1 ⟨⟨a,c,rfl,hsl⟩,F1⟩;have F2:Fz (w.alloc (.cells #[str kk,.slice none 0 0,.bool s.num.below,.slice sa s.num.size.length sc,.int .i64 0,.int .i64 0,.pointer none] 78)) (w1.alloc (.cells #[.slice a X.length c] 71)):=F1.alloc _;have BY:=Blk.new w1 71 #[.slice a X.length c];have HF2:=Hi (HF0.out.trans F2);have HQ:=Hi (searchP_any X.length w1.heap.size w.heap.size (notAhead X s) (w1.alloc (.cells #[.slice a X.length c] 71)) hl (notAhead_mono HU.out) (fun W F q hq=>by
  obtain⟨x,hx⟩:∃ x,X[q]? = some x:=⟨_,List.getElem?_eq_getElem hq⟩
  have:=place1_any X kk s.num.below s.num.size sa sc w1.heap.size w.heap.size a c q x W ((BY.fr F (fun h=>h)).cell 0) ((HBZ.out.fr (F2.trans F) (fun h=>h)).cell) (HB.out.old (F2.trans F)) (Slots.old (Slots.old hsl ((F1.alloc _:Fz (w.alloc (.cells #[str kk,.slice none 0 0,.bool s.num.below,.slice sa s.num.size.length sc,.int .i64 0,.int .i64 0,.pointer none] 78)) (w1.alloc (.cells #[.slice a X.length c] 71))))) F) hx (HFX.out x (List.mem_of_getElem? hx)) hs;rw[HPE.out q x hx]
  exact this))
 clear F1 F2 BY hsl;go_wp2_with fail
 refine HQ.out.mono ?_;rintro e w3 ⟨⟨r,rfl,hr1,hr2,hr3⟩,F3⟩;have HR:=Hi (ahead_of hr1 hr2 hr3);clear hr1 hr2 hr3;go_wp2_with fail
 go_ret;exact⟨by rw[←HR.out]<;>rfl,HF2.out.trans F3⟩
theorem ixPlaceN_any (v vn:Value)(X:List RowP)(s:RowP)(sa:Option Addr)(sc:Nat)(w:World)(h:IxAt w v X)(hn:NameAt w vn s.iss)(hfn:∀ r∈s.iss,fewB r)(hb:Bytes w (.slice sa s.num.size.length sc) s.num.size)(hu:UpR X)(hf:∀ r∈X,r.num.size.length≤1000000)(hs:s.num.size.length≤1000000)(hl:X.length≤1000000)(hE:Env w) :
  Calls Tryz.prog 29 #[v,vn,.agg #[.bool s.num.below,.slice sa s.num.size.length sc]] w fun e w'=>e=.returned (.int .i64 (if nameOk s.iss=true then (aheadR X s:Int) else -1))∧Fz w w':=by
 have F0:Fz w (w.alloc (.cells #[.bool s.num.below,.slice sa s.num.size.length sc] 40)):=(Fr.refl w).alloc _;have BN:=Blk.new w 40 #[.bool s.num.below,.slice sa s.num.size.length sc];have HF:=Hi F0;have HH:=Hi h;have HBB:=Hi hb;have HU:=Hi hu;have HFX:=Hi hf;have x0:=BN.cell 0;have x1:=BN.cell 1;simp only[SG]at x0 x1
 cases hno:nameOk s.iss with
 |false=>
  have HS:=Hi (sought_bad vn s.iss s.num.below sa s.num.size.length sc _ (hn.old F0) hfn hno);clear h hn hfn hb hu hf hE F0 BN hno;go_enter Tryz.func29,Tryz.ntmps29
  go_wp2_with fail
  refine HS.out.mono ?_;rintro e w1 ⟨rfl,F1⟩;have HF2:=Hi ((HF.out.trans F1).alloc (.cells #[str [],.slice none 0 0,.bool s.num.below,.slice sa s.num.size.length sc,.int .i64 0,.int .i64 0,.pointer none] 78));clear x0 x1 F1;go_wp2_with fail
  go_ret;exact⟨rfl,HF2.out⟩
 |true=>
  have HS:=Hi (sought_ok vn s.iss s.num.below sa s.num.size.length sc _ (hn.old F0) hfn hno (hE.old F0));clear h hn hfn hb hu hf hE F0 BN hno;go_enter Tryz.func29,Tryz.ntmps29
  go_wp2_with fail
  refine HS.out.mono ?_;rintro e w1 ⟨rfl,F1⟩;have HF2:=Hi ((HF.out.trans F1).alloc (.cells #[str (nameKeyS s.iss),.slice none 0 0,.bool s.num.below,.slice sa s.num.size.length sc,.int .i64 0,.int .i64 0,.pointer none] 78));have HP:=Hi (ixPlaceS_any v X s sa sc _ (HH.out.old HF2.out) (HBB.out.old HF2.out) HU.out HFX.out hs hl);have B2:=Blk.new w1 78 #[str (nameKeyS s.iss),.slice none 0 0,.bool s.num.below,.slice sa s.num.size.length sc,.int .i64 0,.int .i64 0,.pointer none];obtain⟨kk,hkk⟩:∃ kk,kk=nameKeyS s.iss:=⟨_,rfl⟩
  rw[←hkk]at HP HF2 B2 ⊢
  clear x0 x1 F1 hkk B2;go_wp2_with fail
  refine HP.out.mono ?_;rintro e w2 ⟨rfl,F2⟩;go_wp2_with fail
  go_ret;exact⟨rfl,HF2.out.trans F2⟩
end Go.Proofs.YtehlipgmkinfbaaGreatDoor
