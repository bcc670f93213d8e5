/-
  Merged by program: XIxLw2 XIxOrW XIxLw3 XR22N.
-/
import Derived.Test.YtehlipgmkinfbaaGreatDoorN0aw
import Derived.Test.YtehlipgmkinfbaaGreatDoorN0as
set_option linter.unusedSimpArgs false
set_option maxRecDepth 100000
set_option maxHeartbeats 8000000
namespace Go.Q
open Go Go.RowKit
def toRow (r:RowI):RowP:=⟨cutName (r.iss.take 4),⟨r.num.below,r.num.size.take 100⟩,r.date,r.reason,if r.dated=true then some r.inv else none⟩
def toRows (l:List RowI):List RowP:=(l.take 8).map toRow
theorem toRows_len (l:List RowI):(toRows l).length≤8:=by
 unfold toRows;rw[List.length_map,List.length_take]
 omega
theorem toRow_size (r:RowI):(toRow r).num.size.length≤1000000:=by
 show (r.num.size.take 100).length≤_
 rw[List.length_take]
 omega
theorem toRow_fit (r:RowI):fitN (toRow r).iss:=cutName_fit _
theorem LAt.move {α:Type}{sz:Nat}{R R':World→List Value→α→Prop}{w w':World}{v:Value}{l:List α}(h:LAt sz R w v l)(f:Fz w w')(hR:∀ cs x,R w cs x→R' w' cs x):LAt sz R' w' v l:=by
 obtain⟨a,c,rfl,h1,h2,h3⟩:=h
 refine⟨a,c,rfl,h1,h2,fun h0=>?_⟩
 obtain⟨b,o,rfl,hy⟩:=h3 h0
 refine⟨b,o,rfl,fun i x hx=>?_⟩
 obtain⟨cs,e1,e2,e3⟩:=hy i x hx
 exact⟨cs,e1,fun j u hu=>f.cell (e2 j u hu) (fun h=>h),hR cs x e3⟩
theorem GRow.free {α:Type}{sz:Nat}{R:World→List Value→α→Prop}{Q:List Value→α→Prop}{K:Nat→Prop}{t:TypeId}{wa w:World}{base:Nat}{v:Value}{l:List α}(h:GRow sz (fun _ us x=>Q us x) (fun _=>False) t w base v l)(hQ:∀ us x,Q us x→Kept (fun W=>R W us x) K wa)(F:Fz wa w)(hb:wa.heap.size≤base):GRow sz R K t w base v l:=by
 obtain⟨cs,h1,h2⟩:=h
 refine⟨cs,h1,fun i x hx=>?_⟩
 obtain⟨us,e1,e2,e3⟩:=h2 i x hx
 refine⟨us,e1,e2,(hQ us x e3.now).step F (fun _ _ h=>h.elim) (fun k hk=>?_)⟩
 rcases hk with hk|hk
 ·exact .inr (by have:=(h1.lt k hk).1;omega)
 ·exact .inl hk
theorem GRow.step {α:Type}{sz:Nat}{R:World→List Value→α→Prop}{K K' S:Nat→Prop}{t:TypeId}{w w':World}{base:Nat}{v:Value}{l:List α}(h:GRow sz R K t w base v l)(f:Fr S w w')(hS:∀ k,k<w.heap.size→S k→K k)(hv:∀ k,v.ownBlock=some k→¬S k)(hK:∀ k,K' k→K k∨w.heap.size≤k):GRow sz R K' t w' base v l:=by
 obtain⟨cs,h1,h2⟩:=h
 refine⟨cs,Go.Proofs.YtehlipgmkinfbaaGreatDoor.ownsRow_fr h1 f hv,fun i p hp=>?_⟩
 obtain⟨us,e1,e2,e3⟩:=h2 i p hp
 refine⟨us,e1,e2,e3.step f (fun k hk hs=>.inr (hS k hk hs)) (fun k hk=>?_)⟩
 rcases hk with hk|hk
 ·exact .inl (.inl hk)
 ·rcases hK k hk with hk|hk
  ·exact .inl (.inr hk)
  ·exact .inr hk
theorem GRow.get {α:Type}{sz:Nat}{R:World→List Value→α→Prop}{K:Nat→Prop}{t:TypeId}{w:World}{base:Nat}{a:Option Addr}{n c:Nat}{l:List α}(h:GRow sz R K t w base (.slice a n c) l){i:Nat}{x:α}(hi:l[i]? = some x):∃ g us,a=some ⟨g,0,none⟩∧base≤g∧us.length=sz∧(∀ j u,us[j]? = some u→w.cell? ⟨g,i*sz+j,none⟩=some u)∧Kept (fun W=>R W us x) (fun k=>k=g∨K k) w:=by
 obtain⟨cs,⟨h1,h2⟩,h3⟩:=h
 have hil:=(List.getElem?_eq_some_iff.1 hi).1;rcases h2 with ⟨hv,h0⟩|⟨g,cap,cur,hv,hg,hh,hnc,hcm,hcs,htk⟩
 ·omega
 ·simp only[Value.slice.injEq]at hv
  obtain⟨rfl,rfl,rfl⟩:=hv
  obtain⟨us,e1,e2,e3⟩:=h3 i x hi
  refine⟨g,us,rfl,hg,e1,fun j u hu=>?_,e3.weaken (fun k hk=>by
   rcases hk with hk|hk
   ·exact .inl (by rw[hk];rfl)
   ·exact .inr hk)⟩
  have hc:=e2 j u hu;have hj:=(List.getElem?_eq_some_iff.1 hc).1;have hlt:sz*i+j<l.length*sz:=by rw[←h1];exact hj
  have:=congrArg (fun z:List Value=>z[sz*i+j]?) htk;simp only[List.getElem?_take,if_pos hlt,Array.getElem?_toList]at this
  simp only[World.cell?,hh]
  rw[Nat.mul_comm i sz]
  exact this.trans hc
theorem GRow.low {α:Type}{sz:Nat}{R:World→List Value→α→Prop}{K:Nat→Prop}{t:TypeId}{w:World}{base b2:Nat}{v:Value}{l:List α}(h:GRow sz R K t w base v l)(hb:b2≤base):GRow sz R K t w b2 v l:=by
 obtain⟨cs,⟨g1,g2⟩,g3⟩:=h
 refine⟨cs,⟨g1,?_⟩,g3⟩
 rcases g2 with h|⟨g,cap,cur,e,hg,rest⟩
 ·exact .inl h
 ·exact .inr ⟨g,cap,cur,e,Nat.le_trans hb hg,rest⟩
section
variable {l:List RowP}{r x:RowP}{k:Nat}
def InsAt (l:List RowP)(r:RowP)(k:Nat):Prop:=insS ltK rowK l r=(insS ltK rowK (l.drop k) r).map (l.take k++·)
theorem InsAt.start:InsAt l r 0:=by
 unfold InsAt;rw[List.drop_zero,List.take_zero]
 cases insS ltK rowK l r<;>rfl
theorem drop_at (h:l[k]? = some x):l.drop k=x::l.drop (k+1):=by
 have hk:=(List.getElem?_eq_some_iff.1 h).1;rw[List.drop_eq_getElem_cons hk]
 rw[List.getElem?_eq_getElem hk]at h
 rw[Option.some.inj h]
theorem InsAt.next (h:InsAt l r k)(hx:l[k]? = some x)(hn:rowC x r<0):InsAt l r (k+1):=by
 unfold InsAt at *
 rw[h,drop_at hx,insS,if_pos (rowC_neg.1 hn),List.take_add_one,hx]
 cases insS ltK rowK (l.drop (k+1)) r<;>simp
theorem InsAt.twice (h:InsAt l r k)(hx:l[k]? = some x)(hn:rowC x r=0):insS ltK rowK l r=none:=by
 unfold InsAt at h;rw[h,drop_at hx,insS,if_neg (fun e=>by have:=rowC_neg.2 e;omega),if_pos (rowC_zero.1 hn)]
 rfl
theorem InsAt.put (h:InsAt l r k)(hx:l[k]? = some x)(h1:¬rowC x r<0)(h2:¬rowC x r=0):insS ltK rowK l r=some ((l.take k++[r])++l.drop k):=by
 unfold InsAt at h;rw[h,drop_at hx,insS,if_neg (fun e=>h1 (rowC_neg.2 e)),if_neg (fun e=>h2 (rowC_zero.2 e))]
 simp
theorem InsAt.last (h:InsAt l r k)(hk:l.length≤k):insS ltK rowK l r=some ((l.take k++[r])++l.drop k):=by
 unfold InsAt at h;rw[h,List.drop_eq_nil_of_le hk]
 simp[insS]
end
end Go.Q
namespace Go.Proofs.YtehlipgmkinfbaaGreatDoor
open Go Go.RowKit Go.Q
theorem toRows_any (v:Value)(l:List RowI)(w:World)(h:RefsI w v l) :
  Calls Tryz.prog 8 #[v] w fun e w'=>(∃ a c,e=.returned (.slice a (toRows l).length c)∧Go.Q.Rows w' (.slice a (toRows l).length c) (toRows l))∧Fz w w':=by
 have H:=Hi h;have HDF:=Hi (show toRows l=(l.take 8).map toRow from rfl);obtain⟨a0,cap0,rfl,-⟩:=h
 go_enter Tryz.func8,Tryz.ntmps8
 go_wp2_with fail
 go_loopg [3,4] l.length (fun g u i wr=>∃ (j:Nat) (a:Option Addr) (c:Nat) (gs:List RowP),g=l.length-j∧j≤l.length∧j≤8∧u=.slice a gs.length c∧i=.int .i64 j∧gs.length=j∧Hid (gs=(l.take j).map toRow)∧Hid (GRow 6 RRow (fun _=>False) 43 wr w.heap.size (.slice a gs.length c) gs)∧Hid (Fz w wr))
 case atStart=>exact⟨0,none,0,[],rfl,Nat.zero_le _,by omega,rfl,rfl,rfl,Hi rfl,Hi (GRow.nil _ _ _ _ _ _),Hi (Fr.refl _)⟩
 case round=>
  obtain⟨j,a,c,gs,hg,hj,hj8,rfl,rfl,hgl,HGS,HRW,HF⟩:=hrel
  have HG:=Hi hg;have HGL:=Hi hgl;clear hg;by_cases hjl:j<l.length
  ·by_cases h8:j<8
   ·obtain⟨x,hx⟩:∃ x,l[j]? = some x:=⟨_,List.getElem?_eq_getElem hjl⟩
    obtain⟨b,o,cs,rfl,-,hcs,hR,hcell⟩:=LAt.get H.out hx
    obtain⟨p1,p2,p3,p4,rfl,hni,hsi⟩:=hR.form
    have HLOW:=Hi (show b<w.heap.size from World.block_lt_of_cell? w _ (hcell 0 _ rfl))
    have HS:=Hi (fun W (F:Fz wr W)=>show W.cell? ⟨b,o+j*7,none⟩=some (.slice p1 x.iss.length p2)∧W.cell? ⟨b,o+j*7+1,none⟩=some (.bool x.num.below)∧W.cell? ⟨b,o+j*7+1+1,none⟩=some (.slice p3 x.num.size.length p4)∧W.cell? ⟨b,o+j*7+3,none⟩=some (.int .i64 x.date)∧W.cell? ⟨b,o+j*7+4,none⟩=some (.int .i64 x.reason) from ⟨by have:=(HF.out.trans F).cell (hcell 0 _ rfl) (fun h=>h);rwa[Nat.add_zero]at this,(HF.out.trans F).cell (hcell 1 _ rfl) (fun h=>h),(HF.out.trans F).cell (hcell 2 _ rfl) (fun h=>h),(HF.out.trans F).cell (hcell 3 _ rfl) (fun h=>h),(HF.out.trans F).cell (hcell 4 _ rfl) (fun h=>h)⟩)
    have HS2:=Hi (fun W (F:Fz wr W)=>show W.cell? ⟨b,o+j*7+5,none⟩=some (.bool x.dated)∧W.cell? ⟨b,o+j*7+6,none⟩=some (.int .i64 x.inv) from ⟨(HF.out.trans F).cell (hcell 5 _ rfl) (fun h=>h),(HF.out.trans F).cell (hcell 6 _ rfl) (fun h=>h)⟩);have r1:(0:Int)≤(j:Int):=by omega
    have r2:(j:Int)<(l.length:Int):=by omega
    have r3:(j:Int)<8:=by omega
    obtain⟨nn,hnn⟩:∃ nn,nn=cutName (x.iss.take 4):=⟨_,rfl⟩
    obtain⟨ss,hss⟩:∃ ss,ss=x.num.size.take 100:=⟨_,rfl⟩
    have HSH:=Hi (fun W (F:Fz wr W)=>short_any _ x.iss w W hni (HF.out.trans F));have HNM:=Hi (fun W (F:Fz wr W)=>num_any x.num.below _ x.num.size w W hsi (HF.out.trans F));rw[←hnn]at HSH
    rw[←hss]at HNM
    have HRT:=Hi (fun (W:World) (vi vs vp:Value) (g1:NameAt W vi nn) (g2:Bytes W vs ss) (g3:InvAt W vp (if x.dated=true then some x.inv else none))=>show RRow W [vi,.bool x.num.below,vs,.int .i64 x.date,.int .i64 x.reason,vp] (toRow x) from by
     subst hnn hss;exact⟨vi,vs,vp,rfl,g1,g2,g3⟩)
    have HTK:=Hi (show (l.take (j+1)).map toRow=(l.take j).map toRow++[toRow x] by rw[List.take_add_one,hx,List.map_append];rfl);clear hx hcell hR hni hsi hnn hss hcs h8 hgl;go_upto_region 5 with fail
    have hwr:=HF.out.size;have HWR:=Hi hwr;go_cut [5] from 17 to 40 (fun s5 wc=>∃ y a1 k1 b2 d2,s5=pt y∧wr.heap.size≤y∧Blk wc y 43 #[.slice a1 nn.length k1,.bool x.num.below,.slice b2 ss.length d2,.int .i64 x.date,.int .i64 x.reason,.pointer none]∧Kept (fun W=>NameAt W (.slice a1 nn.length k1) nn∧Bytes W (.slice b2 ss.length d2) ss) (fun k=>(w.heap.size≤k∧k<wr.heap.size)∨k=y) wc∧Fz wr wc)
    case first=>
     have hsd:wr.drew.heap.size=wr.heap.size:=rfl;have hsa:(wr.alloc (.cells #[.slice none 0 0,.bool false,.slice none 0 0,.int .i64 0,.int .i64 0,.pointer none] 43)).drew.heap.size=wr.heap.size+1:=World.size_alloc _ _;have GD:Fz wr wr.drew:=(Fr.refl wr).drew;have GA:Fz wr (wr.alloc (.cells #[.slice none 0 0,.bool false,.slice none 0 0,.int .i64 0,.int .i64 0,.pointer none] 43)).drew:=((Fr.refl wr).alloc _).drew
     go_region_held3 (fun w'=>w'.cell? ⟨b,o+j*7,none⟩=some (.slice p1 x.iss.length p2)∧w'.cell? ⟨b,o+j*7+1,none⟩=some (.bool x.num.below)∧w'.cell? ⟨b,o+j*7+1+1,none⟩=some (.slice p3 x.num.size.length p4)∧w'.cell? ⟨b,o+j*7+3,none⟩=some (.int .i64 x.date)∧w'.cell? ⟨b,o+j*7+4,none⟩=some (.int .i64 x.reason)) (first|(with_reducible exact HS.out _ GD)|(with_reducible exact HS.out _ GA)|(with_reducible exact HS.out _ G1)|(with_reducible exact HS.out _ GB)|(with_reducible exact HS.out _ G3)|(with_reducible exact HS.out _ G4)|(with_reducible exact HS.out _ GC)|fail) (first
      |(go_at_call 33;(with_reducible refine(HSH.out _ GD).mono ?_);rintro e w' ⟨⟨a1,k1,rfl,hr⟩,F⟩;have hw2:=F.size;have G1:=GD.trans F;have kn:=hr.kept (fun k=>w.heap.size≤k∧k<wr.heap.size) (fun k hk=>⟨⟨hk.1,by omega⟩,by omega⟩);have GB:=G1.alloc (.cells #[.slice none 0 0,.bool false,.slice none 0 0,.int .i64 0,.int .i64 0,.pointer none] 43);clear hr F HSH)
      |(go_at_call 33;(with_reducible refine(HSH.out _ GA).mono ?_);rintro e w' ⟨⟨a1,k1,rfl,hr⟩,F⟩;have hw2:=F.size;have G1:=GA.trans F;have BN:=(Blk.new wr 43 #[.slice none 0 0,.bool false,.slice none 0 0,.int .i64 0,.int .i64 0,.pointer none]).drew.fr F (fun h=>h);have kn:=hr.kept (fun k=>(w.heap.size≤k∧k<wr.heap.size)∨k=wr.heap.size) (fun k hk=>⟨⟨by rcases hk with hk|hk<;>omega,by rcases hk with hk|hk<;>omega⟩,by rcases hk with hk|hk<;>omega⟩);clear hr F HSH)
      |(go_at_call 34;(with_reducible refine(HNM.out _ GB).mono ?_);rintro e w3 ⟨⟨b2,d2,rfl,hq⟩,F⟩;have hsb:(w'.alloc (.cells #[.slice none 0 0,.bool false,.slice none 0 0,.int .i64 0,.int .i64 0,.pointer none] 43)).heap.size=w'.heap.size+1:=World.size_alloc _ _;have BN:=(Blk.new w' 43 #[.slice none 0 0,.bool false,.slice none 0 0,.int .i64 0,.int .i64 0,.pointer none]).fr F (fun h=>h);have G3:=GB.trans F;have kk:Kept (fun W=>NameAt W (.slice a1 nn.length k1) nn∧Bytes W (.slice b2 ss.length d2) ss) (fun k=>(w.heap.size≤k∧k<wr.heap.size)∨k=w'.heap.size) w3:=Kept.both (kn.step (((Fr.refl w').alloc (.cells #[.slice none 0 0,.bool false,.slice none 0 0,.int .i64 0,.int .i64 0,.pointer none] 43):Fz w' _).trans F) (fun _ _ h=>h.elim) (fun k hk=>by rcases hk with hk|hk;exact .inl hk;exact .inr (by omega))) (hq.weaken (fun k hk=>by rcases hk with hk|hk<;>omega));have hle:wr.heap.size≤w'.heap.size:=by omega
        have HE:=one_put [.slice a1 nn.length k1,.bool x.num.below,.slice b2 ss.length d2,.int .i64 x.date,.int .i64 x.reason,.pointer none] BN rfl G3 (by omega) kk (.inr rfl);(simp only[putL]at HE);have G4:=HE.2.2;have d0:=BN.cell 0;have d1:=BN.cell 1;have d2':=BN.cell 2;have d3:=BN.cell 3;have d4:=BN.cell 4;have d5:=BN.cell 5;have f0:=BN.frozen 0;have f1:=BN.frozen 1;have f2:=BN.frozen 2;have f3:=BN.frozen 3;have f4:=BN.frozen 4;have f5:=BN.frozen 5;(simp only[SG]at d0 d1 d2' d3 d4 d5);clear F hq kk BN kn HNM)
      |(go_at_call 34;(with_reducible refine(HNM.out _ G1).mono ?_);rintro e w3 ⟨⟨b2,d2,rfl,hq⟩,F⟩;replace BN:=BN.fr F (fun h=>h);have G3:=G1.trans F;have kk:Kept (fun W=>NameAt W (.slice a1 nn.length k1) nn∧Bytes W (.slice b2 ss.length d2) ss) (fun k=>(w.heap.size≤k∧k<wr.heap.size)∨k=wr.heap.size) w3:=Kept.both (kn.old F) (hq.weaken (fun k hk=>by rcases hk with hk|hk<;>omega));have hle:wr.heap.size≤wr.heap.size:=Nat.le_refl _
        have HE:=one_put [.slice a1 nn.length k1,.bool x.num.below,.slice b2 ss.length d2,.int .i64 x.date,.int .i64 x.reason,.pointer none] BN rfl G3 (by omega) kk (.inr rfl);(simp only[putL]at HE);have G4:=HE.2.2;have d0:=BN.cell 0;have d1:=BN.cell 1;have d2':=BN.cell 2;have d3:=BN.cell 3;have d4:=BN.cell 4;have d5:=BN.cell 5;have f0:=BN.frozen 0;have f1:=BN.frozen 1;have f2:=BN.frozen 2;have f3:=BN.frozen 3;have f4:=BN.frozen 4;have f5:=BN.frozen 5;(simp only[SG]at d0 d1 d2' d3 d4 d5);clear F hq kk BN kn HNM)
      |(go_at_call 34;(with_reducible refine(HNM.out _ G1).mono ?_);rintro e w3 ⟨⟨b2,d2,rfl,hq⟩,F⟩;have hw3:=F.size;have G3:=G1.trans F;have kk:Kept (fun W=>NameAt W (.slice a1 nn.length k1) nn∧Bytes W (.slice b2 ss.length d2) ss) (fun k=>w.heap.size≤k∧k<wr.heap.size) w3:=Kept.both (kn.old F) (hq.weaken (fun k hk=>by omega));have hle:wr.heap.size≤w3.heap.size:=by omega
        have HE:=one_new 43 [.slice a1 nn.length k1,.bool x.num.below,.slice b2 ss.length d2,.int .i64 x.date,.int .i64 x.reason,.pointer none] G3 kk (K':=(fun k=>(w.heap.size≤k∧k<wr.heap.size)∨k=w3.heap.size)) (fun k hk=>by rcases hk with hk|hk;exact .inl hk;exact .inr (by omega));have G4:=HE.2.2;have GC:=G3.alloc (.cells #[.slice none 0 0,.bool false,.slice none 0 0,.int .i64 0,.int .i64 0,.pointer none] 43);clear F hq kk kn HNM GB)
      |fail)
     all_goals
      try clear d0 d1 d2' d3 d4 d5 f0 f1 f2 f3 f4 f5
      have h1:=Hi HE;clear HE G4;go_wp2_with fail
      go_meet
      refine⟨_,a1,k1,b2,d2,rfl,?_,?_⟩
      ·exact hle
      ·with_reducible exact h1.out
    case rest=>
     obtain⟨y,a1,k1,b2,d2,rfl,hy,B5,hk,F5⟩:=hcut
     obtain⟨e5,e6⟩:=HS2.out wc F5
     have HY:=Hi hy;have HB5:=Hi B5;have HK:=Hi hk;have HF5:=Hi F5;clear hy B5 hk F5 HS HS2 HSH HNM;cases hd:x.dated with
     |false=>
      rw[hd]at e5
      have hkr:=HK.out.imp (fun W g=>HRT.out W _ _ (.pointer none) g.1 g.2 (by rw[hd];rfl));have m0:=HB5.out.cell 0;have m1:=HB5.out.cell 1;have m2:=HB5.out.cell 2;have m3:=HB5.out.cell 3;have m4:=HB5.out.cell 4;have m5:=HB5.out.cell 5;simp only[SG]at m0 m1 m2 m3 m4 m5
      obtain⟨a7,c7,w7,hrun,hrow7,F7,-⟩:=(HRW.out.old HF5.out).add (s:=23) Tryz.underlying23 info43 rfl (by decide) (by decide) (by have:=HWR.out;have:=(HF5.out).size;omega) ((Fr.refl wc).alloc (.cells [.slice a1 nn.length k1,.bool x.num.below,.slice b2 ss.length d2,.int .i64 x.date,.int .i64 x.reason,.pointer none].toArray 43)) wc.heap.size [.slice a1 nn.length k1,.bool x.num.below,.slice b2 ss.length d2,.int .i64 x.date,.int .i64 x.reason,.pointer none] rfl (Blk.new wc 43 [.slice a1 nn.length k1,.bool x.num.below,.slice b2 ss.length d2,.int .i64 x.date,.int .i64 x.reason,.pointer none].toArray) (by simp[Value.oneCell']) (toRow x) (hkr.weaken (fun k hk=>by
        rcases hk with hk|hk
        ·exact .inl (HRW.out.keep k hk)
        ·exact hk.elim)) (by have:=HGL.out;omega)
      have HRUN:=Hi hrun;have HRW7:=Hi hrow7;have HKP:=Hi HRW.out.keep;have HF7:=Hi ((HF.out.trans (HF5.out)).trans' F7 (fun i hi e=>absurd hi (by have:=(HKP.out i e).1;omega)));have HGS7:=Hi (show gs++[toRow x]=(l.take (j+1)).map toRow by rw[HTK.out,HGS.out]);clear hkr hrun hrow7 F7 hd HRT HK;go_wp2_with (at_builtin;refine wpList_append_run (by rfl) (.tmp 51) (.tmp 53) 23 (by rfl) _ w7 (by exact HRUN.out) ?_)
      go_roundg (l.length-(j+1))
      case measure=>rw[HG.out];omega
      case rel=>exact⟨j+1,a7,c7,gs++[toRow x],rfl,by omega,by omega,by rw[List.length_append];rfl,by go_num,by rw[List.length_append,HGL.out];rfl,HGS7,Hi (by rw[List.length_append];exact HRW7.out),HF7⟩
     |true=>
      rw[hd]at e5
      go_upto_region 8 with fail
      obtain⟨q,hq⟩:∃ q,q=wc.heap.size:=⟨_,rfl⟩
      have N6:=Blk.new wc 3 #[.int .i64 x.inv];have M5:=HB5.out.alloc (.cells #[.int .i64 x.inv] 3);have hyl:=HB5.out.lt;have hyw:=HY.out;have m5:=M5.cell 5;have f5:=M5.frozen 5;simp only[SG]at m5
      have FE:=Fr.setCell (S:=fun k=>k=y) (p:=⟨y,5,none⟩) ((Fr.refl wc).alloc (.cells #[.int .i64 x.inv] 3)) (fun _=>rfl) (.pointer (some ⟨q,0,none⟩));rw[←hq]at N6
      have N6s:=N6.set_other (a:=⟨y,5,none⟩) (by show q≠y;omega) (.pointer (some ⟨q,0,none⟩));have M5s:Blk ((wc.alloc (.cells #[.int .i64 x.inv] 3)).setCell ⟨y,5,none⟩ (.pointer (some ⟨q,0,none⟩))) y 43 #[.slice a1 nn.length k1,.bool x.num.below,.slice b2 ss.length d2,.int .i64 x.date,.int .i64 x.reason,.pointer (some ⟨q,0,none⟩)]:=M5.set 5 (.pointer (some ⟨q,0,none⟩))
      have hke:Kept (fun W=>RRow W [.slice a1 nn.length k1,.bool x.num.below,.slice b2 ss.length d2,.int .i64 x.date,.int .i64 x.reason,.pointer (some ⟨q,0,none⟩)] (toRow x)) (fun k=>(w.heap.size≤k∧k<wr.heap.size)∨k=y) ((wc.alloc (.cells #[.int .i64 x.inv] 3)).setCell ⟨y,5,none⟩ (.pointer (some ⟨q,0,none⟩))):=by
       have g1:=HK.out.step FE (K':=(fun k=>(w.heap.size≤k∧k<wr.heap.size)∨k=y)) (fun k _ e=>.inr e) (fun k hk=>.inl hk);have g2:Kept (fun W=>W.cell? ⟨q,0,none⟩=some (.int .i64 x.inv)) (fun k=>(w.heap.size≤k∧k<wr.heap.size)∨k=y) ((wc.alloc (.cells #[.int .i64 x.inv] 3)).setCell ⟨y,5,none⟩ (.pointer (some ⟨q,0,none⟩))):=fun V f=>f.cell (N6s.cell 0) (fun h=>by rcases h with h|h<;>(simp only at h;omega))
       exact(Kept.both g1 g2).imp (fun W g=>HRT.out W _ _ (.pointer (some ⟨q,0,none⟩)) g.1.1 g.1.2 (by rw[hd];exact⟨_,_,rfl,g.2⟩))
      have hfe:Fz wr ((wc.alloc (.cells #[.int .i64 x.inv] 3)).setCell ⟨y,5,none⟩ (.pointer (some ⟨q,0,none⟩))):=HF5.out.trans' FE (fun i hi e=>by have e2:i=y:=e;omega);have HKE:=Hi hke;have HFE:=Hi hfe;have HM:=Hi M5s;have HQ:=Hi hq;clear hke hfe FE N6 N6s M5 M5s hq hyl hyw hd HRT HK;go_upto_region 9 with fail
      clear m5 f5 e5 e6;rw[←HQ.out]
      generalize ((wc.alloc (.cells #[.int .i64 x.inv] 3)).setCell ⟨y,5,none⟩ (.pointer (some ⟨q,0,none⟩)))=we at *
      have m0:=HM.out.cell 0;have m1:=HM.out.cell 1;have m2:=HM.out.cell 2;have m3:=HM.out.cell 3;have m4:=HM.out.cell 4;have m5:=HM.out.cell 5;simp only[SG]at m0 m1 m2 m3 m4 m5
      obtain⟨a7,c7,w7,hrun,hrow7,F7,-⟩:=(HRW.out.old HFE.out).add (s:=23) Tryz.underlying23 info43 rfl (by decide) (by decide) (by have:=HWR.out;have:=(HFE.out).size;omega) ((Fr.refl we).alloc (.cells [.slice a1 nn.length k1,.bool x.num.below,.slice b2 ss.length d2,.int .i64 x.date,.int .i64 x.reason,.pointer (some ⟨q,0,none⟩)].toArray 43)) we.heap.size [.slice a1 nn.length k1,.bool x.num.below,.slice b2 ss.length d2,.int .i64 x.date,.int .i64 x.reason,.pointer (some ⟨q,0,none⟩)] rfl (Blk.new we 43 [.slice a1 nn.length k1,.bool x.num.below,.slice b2 ss.length d2,.int .i64 x.date,.int .i64 x.reason,.pointer (some ⟨q,0,none⟩)].toArray) (by simp[Value.oneCell']) (toRow x) (HKE.out.weaken (fun k hk=>by
        rcases hk with hk|hk
        ·exact .inl (HRW.out.keep k hk)
        ·exact hk.elim)) (by have:=HGL.out;omega)
      have HRUN:=Hi hrun;have HRW7:=Hi hrow7;have HKP:=Hi HRW.out.keep;have HF7:=Hi ((HF.out.trans (HFE.out)).trans' F7 (fun i hi e=>absurd hi (by have:=(HKP.out i e).1;omega)));have HGS7:=Hi (show gs++[toRow x]=(l.take (j+1)).map toRow by rw[HTK.out,HGS.out]);clear hrun hrow7 F7;go_wp2_with (at_builtin;refine wpList_append_run (by rfl) (.tmp 51) (.tmp 53) 23 (by rfl) _ w7 (by exact HRUN.out) ?_)
      go_roundg (l.length-(j+1))
      case measure=>rw[HG.out];omega
      case rel=>exact⟨j+1,a7,c7,gs++[toRow x],rfl,by omega,by omega,by rw[List.length_append];rfl,by go_num,by rw[List.length_append,HGL.out];rfl,HGS7,Hi (by rw[List.length_append];exact HRW7.out),HF7⟩
   ·obtain rfl:j=8:=by omega
    have q2:¬((8:Nat):Int)<8:=by omega
    have q1:((8:Nat):Int)<(l.length:Int):=by omega
    have HE:=Hi (show gs=toRows l by rw[HGS.out,HDF.out]);clear hgl hj8 h8;go_wp2_with fail
    go_ret;rw[←HE.out]
    exact⟨⟨a,c,rfl,HRW.out.at (by decide)⟩,HF.out⟩
  ·have HE:=Hi (show gs=toRows l by rw[HGS.out,HDF.out,List.take_of_length_le (by omega),List.take_of_length_le (by omega)])
   clear hgl;go_wp2_with fail
   go_ret;rw[←HE.out]
   exact⟨⟨a,c,rfl,HRW.out.at (by decide)⟩,HF.out⟩
theorem info56:(Tryz.prog.info? 56).map (fun i=>(i.zero,i.size,i.bytes))=some (some (.agg #[.slice none 0 0,.bool false,.slice none 0 0,.int .i64 0,.int .i64 0,.bool false,.int .i64 0]),7,88):=by kernel_rfl
theorem ofRowsK_any (v:Value)(l:List RowP)(w ws:World)(h:Go.Q.Rows w v l)(Fb:Fz w ws)(hf:∀ r∈l,fitN r.iss)(hl:l.length≤1000000) :
  Calls Tryz.prog 9 #[v] ws fun e w'=>(∃ a c,e=.returned (.slice a l.length c)∧GRow 7 RRef (fun k=>w.heap.size≤k∧k<ws.heap.size) 56 w' ws.heap.size (.slice a l.length c) l)∧Fz ws w':=by
 have hws:=Fb.size;have HWS:=Hi hws;have HFB:=Hi Fb;have H:=Hi h;have HFT:=Hi hf;have HLL:=Hi hl;obtain⟨a0,cap0,rfl,-⟩:=h
 clear hf hl hws Fb;go_enter Tryz.func9,Tryz.ntmps9
 go_wp2_with fail
 go_loopg [3,4] l.length (fun g u i wr=>∃ (j:Nat) (a:Option Addr) (c:Nat) (gs:List RowP),g=l.length-j∧j≤l.length∧u=.slice a gs.length c∧i=.int .i64 j∧gs.length=j∧Hid (gs=l.take j)∧Hid (GRow 7 RRef (fun k=>w.heap.size≤k∧k<ws.heap.size) 56 wr ws.heap.size (.slice a gs.length c) gs)∧Hid (Fz w wr)∧Hid (Fz ws wr))
 case atStart=>exact⟨0,none,0,[],rfl,Nat.zero_le _,rfl,rfl,rfl,Hi rfl,Hi (GRow.nil _ _ _ _ _ _),HFB,Hi (Fr.refl _)⟩
 case round=>
  obtain⟨j,a,c,gs,hg,hj,rfl,rfl,hgl,HGS,HRW,HF,HFS⟩:=hrel
  have HSZ:=Hi (HFS.out.size);have HG:=Hi hg;have HGL:=Hi hgl;clear hg;by_cases hjl:j<l.length
  ·skip
   skip
   ·obtain⟨x,hx⟩:∃ x,l[j]? = some x:=⟨_,List.getElem?_eq_getElem hjl⟩
    obtain⟨b,o,cs,rfl,-,hcs,hR,hcell⟩:=LAt.get H.out hx
    obtain⟨p1,p2,p3,p4,p5,rfl,hni,hsi,hvi⟩:=hR.form
    have hmx:=HFT.out x (List.mem_of_getElem? hx);have HLOW:=Hi (show b<w.heap.size from World.block_lt_of_cell? w _ (hcell 0 _ rfl))
    have HS:=Hi (fun W (F:Fz wr W)=>show W.cell? ⟨b,o+j*6,none⟩=some (.slice p1 x.iss.length p2)∧W.cell? ⟨b,o+j*6+1,none⟩=some (.bool x.num.below)∧W.cell? ⟨b,o+j*6+1+1,none⟩=some (.slice p3 x.num.size.length p4)∧W.cell? ⟨b,o+j*6+3,none⟩=some (.int .i64 x.date)∧W.cell? ⟨b,o+j*6+4,none⟩=some (.int .i64 x.reason) from ⟨by have:=(HF.out.trans F).cell (hcell 0 _ rfl) (fun h=>h);rwa[Nat.add_zero]at this,(HF.out.trans F).cell (hcell 1 _ rfl) (fun h=>h),(HF.out.trans F).cell (hcell 2 _ rfl) (fun h=>h),(HF.out.trans F).cell (hcell 3 _ rfl) (fun h=>h),(HF.out.trans F).cell (hcell 4 _ rfl) (fun h=>h)⟩)
    have HS2:=Hi (fun W (F:Fz wr W)=>And.intro ((HF.out.trans F).cell (hcell 5 _ rfl) (fun h=>h)) (hvi.old (HF.out.trans F)));have HVI:=Hi hvi;have r1:(0:Int)≤(j:Int):=by omega
    have r2:(j:Int)<(l.length:Int):=by omega
    have HSH:=Hi (fun W (F:Fz wr W)=>lawOfK_any _ x.iss w W hni (HF.out.trans F) (by have:=hmx.1;omega) (fun r hr=>(hmx.2 r hr).2.1));have HNM:=Hi (fun W (F:Fz wr W)=>lawNumOf_any x.num.below _ x.num.size w W hsi (HF.out.trans F));have HRT:=Hi (fun (W:World) (vi vs:Value) (g1:NameAt W vi x.iss) (g2:Bytes W vs x.num.size)=>show RRef W [vi,.bool x.num.below,vs,.int .i64 x.date,.int .i64 x.reason,.bool x.inv.isSome,.int .i64 (x.inv.getD 0)] x from by
     exact⟨vi,vs,rfl,g1,g2⟩)
    have HTK:=Hi (show l.take (j+1)=l.take j++[x] by rw[List.take_add_one,hx];rfl);clear hx hcell hR hni hsi hvi hmx hcs hgl;go_upto_region 5 with fail
    have hwr:=HF.out.size;have HWR:=Hi hwr;go_cut [5] from 12 to 35 (fun s5 wc=>∃ y a1 k1 b2 d2,s5=pt y∧wr.heap.size≤y∧Blk wc y 56 #[.slice a1 x.iss.length k1,.bool x.num.below,.slice b2 x.num.size.length d2,.int .i64 x.date,.int .i64 x.reason,.bool false,.int .i64 0]∧Kept (fun W=>NameAt W (.slice a1 x.iss.length k1) x.iss∧Bytes W (.slice b2 x.num.size.length d2) x.num.size) (fun k=>(w.heap.size≤k∧k<wr.heap.size)∨k=y) wc∧Fz wr wc)
    case first=>
     have hsd:wr.drew.heap.size=wr.heap.size:=rfl;have hsa:(wr.alloc (.cells #[.slice none 0 0,.bool false,.slice none 0 0,.int .i64 0,.int .i64 0,.bool false,.int .i64 0] 56)).drew.heap.size=wr.heap.size+1:=World.size_alloc _ _;have GD:Fz wr wr.drew:=(Fr.refl wr).drew;have GA:Fz wr (wr.alloc (.cells #[.slice none 0 0,.bool false,.slice none 0 0,.int .i64 0,.int .i64 0,.bool false,.int .i64 0] 56)).drew:=((Fr.refl wr).alloc _).drew
     go_region_held3 (fun w'=>w'.cell? ⟨b,o+j*6,none⟩=some (.slice p1 x.iss.length p2)∧w'.cell? ⟨b,o+j*6+1,none⟩=some (.bool x.num.below)∧w'.cell? ⟨b,o+j*6+1+1,none⟩=some (.slice p3 x.num.size.length p4)∧w'.cell? ⟨b,o+j*6+3,none⟩=some (.int .i64 x.date)∧w'.cell? ⟨b,o+j*6+4,none⟩=some (.int .i64 x.reason)) (first|(with_reducible exact HS.out _ GD)|(with_reducible exact HS.out _ GA)|(with_reducible exact HS.out _ G1)|(with_reducible exact HS.out _ GB)|(with_reducible exact HS.out _ G3)|(with_reducible exact HS.out _ G4)|(with_reducible exact HS.out _ GC)|fail) (first
      |(go_at_call 25;(with_reducible refine(HSH.out _ GD).mono ?_);rintro e w' ⟨⟨a1,k1,rfl,hr⟩,F⟩;have hw2:=F.size;have G1:=GD.trans F;have kn:=hr.kept (fun k=>w.heap.size≤k∧k<wr.heap.size) (fun k hk=>⟨⟨hk.1,by omega⟩,by omega⟩);have GB:=G1.alloc (.cells #[.slice none 0 0,.bool false,.slice none 0 0,.int .i64 0,.int .i64 0,.bool false,.int .i64 0] 56);clear hr F HSH)
      |(go_at_call 25;(with_reducible refine(HSH.out _ GA).mono ?_);rintro e w' ⟨⟨a1,k1,rfl,hr⟩,F⟩;have hw2:=F.size;have G1:=GA.trans F;have BN:=(Blk.new wr 56 #[.slice none 0 0,.bool false,.slice none 0 0,.int .i64 0,.int .i64 0,.bool false,.int .i64 0]).drew.fr F (fun h=>h);have kn:=hr.kept (fun k=>(w.heap.size≤k∧k<wr.heap.size)∨k=wr.heap.size) (fun k hk=>⟨⟨by rcases hk with hk|hk<;>omega,by rcases hk with hk|hk<;>omega⟩,by rcases hk with hk|hk<;>omega⟩);clear hr F HSH)
      |(go_at_call 35;(with_reducible refine(HNM.out _ GB).mono ?_);rintro e w3 ⟨⟨b2,d2,rfl,hq⟩,F⟩;have hsb:(w'.alloc (.cells #[.slice none 0 0,.bool false,.slice none 0 0,.int .i64 0,.int .i64 0,.bool false,.int .i64 0] 56)).heap.size=w'.heap.size+1:=World.size_alloc _ _;have BN:=(Blk.new w' 56 #[.slice none 0 0,.bool false,.slice none 0 0,.int .i64 0,.int .i64 0,.bool false,.int .i64 0]).fr F (fun h=>h);have G3:=GB.trans F;have kk:Kept (fun W=>NameAt W (.slice a1 x.iss.length k1) x.iss∧Bytes W (.slice b2 x.num.size.length d2) x.num.size) (fun k=>(w.heap.size≤k∧k<wr.heap.size)∨k=w'.heap.size) w3:=Kept.both (kn.step (((Fr.refl w').alloc (.cells #[.slice none 0 0,.bool false,.slice none 0 0,.int .i64 0,.int .i64 0,.bool false,.int .i64 0] 56):Fz w' _).trans F) (fun _ _ h=>h.elim) (fun k hk=>by rcases hk with hk|hk;exact .inl hk;exact .inr (by omega))) (hq.weaken (fun k hk=>by rcases hk with hk|hk<;>omega));have hle:wr.heap.size≤w'.heap.size:=by omega
        have HE:=one_put [.slice a1 x.iss.length k1,.bool x.num.below,.slice b2 x.num.size.length d2,.int .i64 x.date,.int .i64 x.reason,.bool false,.int .i64 0] BN rfl G3 (by omega) kk (.inr rfl);(simp only[putL]at HE);have G4:=HE.2.2;have d0:=BN.cell 0;have d1:=BN.cell 1;have d2':=BN.cell 2;have d3:=BN.cell 3;have d4:=BN.cell 4;have d5:=BN.cell 5;have d6:=BN.cell 6;have f0:=BN.frozen 0;have f1:=BN.frozen 1;have f2:=BN.frozen 2;have f3:=BN.frozen 3;have f4:=BN.frozen 4;have f5:=BN.frozen 5;have f6:=BN.frozen 6;(simp only[SG]at d0 d1 d2' d3 d4 d5 d6);clear F hq kk BN kn HNM)
      |(go_at_call 35;(with_reducible refine(HNM.out _ G1).mono ?_);rintro e w3 ⟨⟨b2,d2,rfl,hq⟩,F⟩;replace BN:=BN.fr F (fun h=>h);have G3:=G1.trans F;have kk:Kept (fun W=>NameAt W (.slice a1 x.iss.length k1) x.iss∧Bytes W (.slice b2 x.num.size.length d2) x.num.size) (fun k=>(w.heap.size≤k∧k<wr.heap.size)∨k=wr.heap.size) w3:=Kept.both (kn.old F) (hq.weaken (fun k hk=>by rcases hk with hk|hk<;>omega));have hle:wr.heap.size≤wr.heap.size:=Nat.le_refl _
        have HE:=one_put [.slice a1 x.iss.length k1,.bool x.num.below,.slice b2 x.num.size.length d2,.int .i64 x.date,.int .i64 x.reason,.bool false,.int .i64 0] BN rfl G3 (by omega) kk (.inr rfl);(simp only[putL]at HE);have G4:=HE.2.2;have d0:=BN.cell 0;have d1:=BN.cell 1;have d2':=BN.cell 2;have d3:=BN.cell 3;have d4:=BN.cell 4;have d5:=BN.cell 5;have d6:=BN.cell 6;have f0:=BN.frozen 0;have f1:=BN.frozen 1;have f2:=BN.frozen 2;have f3:=BN.frozen 3;have f4:=BN.frozen 4;have f5:=BN.frozen 5;have f6:=BN.frozen 6;(simp only[SG]at d0 d1 d2' d3 d4 d5 d6);clear F hq kk BN kn HNM)
      |(go_at_call 35;(with_reducible refine(HNM.out _ G1).mono ?_);rintro e w3 ⟨⟨b2,d2,rfl,hq⟩,F⟩;have hw3:=F.size;have G3:=G1.trans F;have kk:Kept (fun W=>NameAt W (.slice a1 x.iss.length k1) x.iss∧Bytes W (.slice b2 x.num.size.length d2) x.num.size) (fun k=>w.heap.size≤k∧k<wr.heap.size) w3:=Kept.both (kn.old F) (hq.weaken (fun k hk=>by omega));have hle:wr.heap.size≤w3.heap.size:=by omega
        have HE:=one_new 56 [.slice a1 x.iss.length k1,.bool x.num.below,.slice b2 x.num.size.length d2,.int .i64 x.date,.int .i64 x.reason,.bool false,.int .i64 0] G3 kk (K':=(fun k=>(w.heap.size≤k∧k<wr.heap.size)∨k=w3.heap.size)) (fun k hk=>by rcases hk with hk|hk;exact .inl hk;exact .inr (by omega));have G4:=HE.2.2;have GC:=G3.alloc (.cells #[.slice none 0 0,.bool false,.slice none 0 0,.int .i64 0,.int .i64 0,.bool false,.int .i64 0] 56);clear F hq kk kn HNM GB)
      |fail)
     all_goals
      try clear d0 d1 d2' d3 d4 d5 d6 f0 f1 f2 f3 f4 f5 f6
      have h1:=Hi HE;clear HE G4;go_wp2_with fail
      go_meet
      refine⟨_,a1,k1,b2,d2,rfl,?_,?_⟩
      ·exact hle
      ·with_reducible exact h1.out
    case rest=>
     obtain⟨y,a1,k1,b2,d2,rfl,hy,B5,hk,F5⟩:=hcut
     have HY:=Hi hy;have HB5:=Hi B5;have HK:=Hi hk;have HF5:=Hi F5;obtain⟨e5,-⟩:=HS2.out wc F5
     have hiv:=HVI.out;clear hy B5 hk F5 HS HSH HNM;cases hd:x.inv with
     |none=>
      rw[hd]at hiv
      simp only[InvAt,Value.pointer.injEq]at hiv
      subst hiv;have hkr:=HK.out.imp (fun W g=>show RRef W [.slice a1 x.iss.length k1,.bool x.num.below,.slice b2 x.num.size.length d2,.int .i64 x.date,.int .i64 x.reason,.bool false,.int .i64 0] x from by have:=HRT.out W _ _ g.1 g.2;rw[hd]at this;exact this);have m0:=HB5.out.cell 0;have m1:=HB5.out.cell 1;have m2:=HB5.out.cell 2;have m3:=HB5.out.cell 3;have m4:=HB5.out.cell 4;have m5:=HB5.out.cell 5;have m6:=HB5.out.cell 6;simp only[SG]at m0 m1 m2 m3 m4 m5 m6
      obtain⟨a7,c7,w7,hrun,hrow7,F7,-⟩:=(HRW.out.old HF5.out).add (s:=22) Tryz.underlying22 info56 rfl (by decide) (by decide) (by have:=HSZ.out;have:=(HF5.out).size;omega) ((Fr.refl wc).alloc (.cells [.slice a1 x.iss.length k1,.bool x.num.below,.slice b2 x.num.size.length d2,.int .i64 x.date,.int .i64 x.reason,.bool false,.int .i64 0].toArray 56)) wc.heap.size [.slice a1 x.iss.length k1,.bool x.num.below,.slice b2 x.num.size.length d2,.int .i64 x.date,.int .i64 x.reason,.bool false,.int .i64 0] rfl (Blk.new wc 56 [.slice a1 x.iss.length k1,.bool x.num.below,.slice b2 x.num.size.length d2,.int .i64 x.date,.int .i64 x.reason,.bool false,.int .i64 0].toArray) (by simp[Value.oneCell']) x (hkr.weaken (fun k hk=>by
        rcases hk with hk|hk
        ·exact .inl ⟨by have:=(HRW.out.keep k hk).1;have:=HWS.out;omega,(HRW.out.keep k hk).2⟩
        ·exact .inl ⟨hk.1,by have:=HSZ.out;omega⟩)) (by have:=HGL.out;have:=HLL.out;omega)
      have HRUN:=Hi hrun;have HRW7:=Hi hrow7;have HKP:=Hi HRW.out.keep;have HF7:=Hi ((HF.out.trans (HF5.out)).trans' F7 (fun i hi e=>absurd hi (by have:=(HKP.out i e).1;have:=HWS.out;omega)));have HFS7:=Hi ((HFS.out.trans (HF5.out)).trans' F7 (fun i hi e=>absurd hi (by have:=(HKP.out i e).1;omega)));have HGS7:=Hi (show gs++[x]=l.take (j+1) by rw[HTK.out,HGS.out]);clear hkr hrun hrow7 F7 hd HRT HK;go_wp2_with (at_builtin;refine wpList_append_run (by rfl) (.tmp 50) (.tmp 52) 22 (by rfl) _ w7 (by exact HRUN.out) ?_)
      have hlb:l.length≤1000000:=HLL.out;go_roundg (l.length-(j+1))
      case measure=>rw[HG.out];omega
      case rel=>exact⟨j+1,a7,c7,gs++[x],rfl,by omega,by rw[List.length_append];rfl,by first|go_num|(rw[show wrap64 ((j:Int)+1)=((j+1:Nat):Int) from by unfold wrap64;omega])|fail,by rw[List.length_append,HGL.out];rfl,HGS7,Hi (by rw[List.length_append];exact HRW7.out),HF7,HFS7⟩
     |some t=>
      rw[hd]at hiv
      obtain⟨bq,oq,hq,hcq0⟩:=hiv
      have hlq:bq<w.heap.size:=World.block_lt_of_cell? w _ hcq0;have hcq:=(HF.out.trans HF5.out).cell hcq0 (fun h=>h);simp only[Value.pointer.injEq]at hq
      subst hq;have hyw:=HY.out;have hww:=HWR.out;have hcs:=(Fr.setCell (S:=fun k=>k=y) (p:=⟨y,5,none⟩) (Fr.refl wc) (fun _=>rfl) (.bool true)).cell hcq (by show ¬bq=y;omega);have hcs2:((wc.setCell ⟨y,5,none⟩ (.bool true)).drew).cell? ⟨bq,oq,none⟩=some (.int .i64 t):=hcs;have e5s:=(Fr.setCell (S:=fun k=>k=y) (p:=⟨y,5,none⟩) (Fr.refl wc) (fun _=>rfl) (.bool true)).cell e5 (by show ¬b=y;have:=HLOW.out;omega);have m5:=HB5.out.drew.cell 5;have m6:=HB5.out.drew.cell 6;have f5:=HB5.out.drew.frozen 5;have f6:=HB5.out.drew.frozen 6;have g5:=HB5.out.frozen 5;have g6:=HB5.out.frozen 6;have n5:=HB5.out.cell 5
      have n6:=HB5.out.cell 6;simp only[SG]at m5 m6 n5 n6
      have e5d:wc.drew.cell? ⟨b,o+j*6+5,none⟩=some (.pointer (some ⟨bq,oq,none⟩)):=e5;have hcd:wc.drew.cell? ⟨bq,oq,none⟩=some (.int .i64 t):=hcq;have FE:Fr (fun k=>k=y) wc ((wc.setCell ⟨y,5,none⟩ (.bool true)).setCell ⟨y,6,none⟩ (.int .i64 t)).drew:=((Fr.setCell (S:=fun k=>k=y) (p:=⟨y,5,none⟩) (Fr.refl wc) (fun _=>rfl) (.bool true)).setCell (p:=⟨y,6,none⟩) (fun _=>rfl) (.int .i64 t)).drew
      have M5s:Blk ((wc.setCell ⟨y,5,none⟩ (.bool true)).setCell ⟨y,6,none⟩ (.int .i64 t)).drew y 56 #[.slice a1 x.iss.length k1,.bool x.num.below,.slice b2 x.num.size.length d2,.int .i64 x.date,.int .i64 x.reason,.bool true,.int .i64 t]:=((HB5.out.set 5 (.bool true)).set 6 (.int .i64 t)).drew;have hke:Kept (fun W=>RRef W [.slice a1 x.iss.length k1,.bool x.num.below,.slice b2 x.num.size.length d2,.int .i64 x.date,.int .i64 x.reason,.bool true,.int .i64 t] x) (fun k=>(w.heap.size≤k∧k<wr.heap.size)∨k=y) ((wc.setCell ⟨y,5,none⟩ (.bool true)).setCell ⟨y,6,none⟩ (.int .i64 t)).drew:=
       (HK.out.step FE (K':=(fun k=>(w.heap.size≤k∧k<wr.heap.size)∨k=y)) (fun k _ e=>.inr e) (fun k hk=>.inl hk)).imp (fun W g=>by have:=HRT.out W _ _ g.1 g.2;rw[hd]at this;exact this)
      have hfe:Fz wr ((wc.setCell ⟨y,5,none⟩ (.bool true)).setCell ⟨y,6,none⟩ (.int .i64 t)).drew:=HF5.out.trans' FE (fun i hi e=>by have e2:i=y:=e;omega);have HKE:=Hi hke;have HFE:=Hi hfe;have HM:=Hi M5s;clear hke hfe FE M5s hyw hd HRT HK;go_upto_region 7 with fail
      go_region_law fail
      all_goals
       clear m5 m6 f5 f6 g5 g6 n5 n6 e5d hcd hcs hcs2 e5s e5 hcq hcq0 hlq;generalize ((wc.setCell ⟨y,5,none⟩ (.bool true)).setCell ⟨y,6,none⟩ (.int .i64 t)).drew=we at *
       have m0:=HM.out.cell 0;have m1:=HM.out.cell 1;have m2:=HM.out.cell 2;have m3:=HM.out.cell 3;have m4:=HM.out.cell 4;have m5:=HM.out.cell 5;have m6:=HM.out.cell 6;simp only[SG]at m0 m1 m2 m3 m4 m5 m6
       obtain⟨a7,c7,w7,hrun,hrow7,F7,-⟩:=(HRW.out.old HFE.out).add (s:=22) Tryz.underlying22 info56 rfl (by decide) (by decide) (by have:=HSZ.out;have:=(HFE.out).size;omega) ((Fr.refl we).alloc (.cells [.slice a1 x.iss.length k1,.bool x.num.below,.slice b2 x.num.size.length d2,.int .i64 x.date,.int .i64 x.reason,.bool true,.int .i64 t].toArray 56)) we.heap.size [.slice a1 x.iss.length k1,.bool x.num.below,.slice b2 x.num.size.length d2,.int .i64 x.date,.int .i64 x.reason,.bool true,.int .i64 t] rfl (Blk.new we 56 [.slice a1 x.iss.length k1,.bool x.num.below,.slice b2 x.num.size.length d2,.int .i64 x.date,.int .i64 x.reason,.bool true,.int .i64 t].toArray) (by simp[Value.oneCell']) x (HKE.out.weaken (fun k hk=>by
         rcases hk with hk|hk
         ·exact .inl ⟨by have:=(HRW.out.keep k hk).1;have:=HWS.out;omega,(HRW.out.keep k hk).2⟩
         ·exact .inl ⟨hk.1,by have:=HSZ.out;omega⟩)) (by have:=HGL.out;have:=HLL.out;omega)
       have HRUN:=Hi hrun;have HRW7:=Hi hrow7;have HKP:=Hi HRW.out.keep;have HF7:=Hi ((HF.out.trans (HFE.out)).trans' F7 (fun i hi e=>absurd hi (by have:=(HKP.out i e).1;have:=HWS.out;omega)));have HFS7:=Hi ((HFS.out.trans (HFE.out)).trans' F7 (fun i hi e=>absurd hi (by have:=(HKP.out i e).1;omega)));have HGS7:=Hi (show gs++[x]=l.take (j+1) by rw[HTK.out,HGS.out]);clear hrun hrow7 F7;go_wp2_with (at_builtin;refine wpList_append_run (by rfl) (.tmp 50) (.tmp 52) 22 (by rfl) _ w7 (by exact HRUN.out) ?_)
       have hlb:l.length≤1000000:=HLL.out;go_roundg (l.length-(j+1))
       case measure=>rw[HG.out];omega
       case rel=>exact⟨j+1,a7,c7,gs++[x],rfl,by omega,by rw[List.length_append];rfl,by first|go_num|(rw[show wrap64 ((j:Int)+1)=((j+1:Nat):Int) from by unfold wrap64;omega])|fail,by rw[List.length_append,HGL.out];rfl,HGS7,Hi (by rw[List.length_append];exact HRW7.out),HF7,HFS7⟩
  ·have HE:=Hi (show gs=l by rw[HGS.out,List.take_of_length_le (by omega)])
   clear hgl;go_wp2_with fail
   go_ret;have hx:=HRW.out;rw[HE.out]at hx ⊢
   exact⟨⟨a,c,rfl,hx⟩,HFS.out⟩
theorem ofRows_any (v:Value)(l:List RowP)(w:World)(h:Go.Q.Rows w v l)(hf:∀ r∈l,fitN r.iss)(hl:l.length≤1000000) :
  Calls Tryz.prog 9 #[v] w fun e w'=>(∃ a c,e=.returned (.slice a l.length c)∧Refs w' (.slice a l.length c) l)∧Fz w w':=by
 refine(ofRowsK_any v l w w h (Fr.refl w) hf hl).mono ?_
 rintro e w' ⟨⟨a,c,he,hr⟩,F⟩;exact⟨⟨a,c,he,hr.at (by decide)⟩,F⟩
theorem refsSlice_rest (a:Option Addr)(m cap:Nat)(hm:m≤cap)(i:Nat)(hi:i≤m) :
  ∃ A,(∀ w,(Instr.slice 22 (.slice a m cap) (some (.int .i64 (i:Int))) none none).run Tryz.prog w=.ok (.slice A (m-i) (cap-i)) w)∧(i<m→∀ b o,a=some ⟨b,o,none⟩→A=some ⟨b,o+i*7,none⟩):=by
 obtain⟨i0,hi0,-,hz1,-⟩:=info_parts info56
 have h1:(0:Int)≤(i:Int):=by omega
 have h2:(i:Int)≤(m:Int):=by omega
 have h3:(m:Int)≤(cap:Int):=by omega
 by_cases hc:cap-i=0
 ·refine⟨a,fun w=>?_,fun h=>by omega⟩
  simp[go_sem,h1,h2,h3,hc,Tryz.underlying22,sizeOf,typeInfo,hi0,hz1]
  try (intro h;omega)
 ·refine⟨a.map fun x=>x.add (i*7),fun w=>?_,fun h b o e=>by rw[e];unfold Addr.add;simp⟩
  simp[go_sem,h1,h2,h3,hc,Tryz.underlying22,sizeOf,typeInfo,hi0,hz1]
  try (intro h;omega)
theorem refsSlice_upto (a:Option Addr)(m cap:Nat)(hm:m≤cap)(i:Nat)(hi:i≤m) :
  ∃ A,(∀ w,(Instr.slice 22 (.slice a m cap) none (some (.int .i64 (i:Int))) none).run Tryz.prog w=.ok (.slice A i cap) w)∧(0<i→∀ b o,a=some ⟨b,o,none⟩→A=some ⟨b,o,none⟩):=by
 obtain⟨i0,hi0,-,hz1,-⟩:=info_parts info56
 have h1:(0:Int)≤(i:Int):=by omega
 have h2:(i:Int)≤(m:Int):=by omega
 have h3:(m:Int)≤(cap:Int):=by omega
 have h4:(i:Int)≤(cap:Int):=by omega
 by_cases hc:cap=0
 ·refine⟨a,fun w=>?_,fun h=>by omega⟩
  simp[go_sem,h1,h2,h3,h4,hc,Tryz.underlying22,sizeOf,typeInfo,hi0,hz1]
  try omega
 ·refine⟨a.map fun x=>x.add 0,fun w=>?_,fun h b o e=>by rw[e];unfold Addr.add;simp⟩
  simp[go_sem,h1,h2,h3,h4,hc,Tryz.underlying22,sizeOf,typeInfo,hi0,hz1]
  try omega
theorem put_in {w wr:World}(Q:List Value→RowP→Prop)(hQ:∀ us x,Q us x→RRef w us x)(F:Fz w wr)(gs:List RowP)(a:Option Addr)(c k:Nat)(hk:k≤gs.length)(hrow:GRow 7 (fun _ us x=>Q us x) (fun _=>False) 56 wr w.heap.size (.slice a gs.length c) (gs))(us:List Value)(r:RowP)(hr:Q us r)(hu7:us.length=7)(hl:gs.length≤1000000) :
  ∃ A1 A2 a3 c3 w3 a5 c5 w5 a7 c7 w7,(∀ W,(Instr.slice 22 (.slice a gs.length c) none (some (.int .i64 (k:Int))) none).run Tryz.prog W=.ok (.slice A1 k c) W)∧(∀ W,(Instr.slice 22 (.slice a gs.length c) (some (.int .i64 (k:Int))) none none).run Tryz.prog W=.ok (.slice A2 (gs.length-k) (c-k)) W)
   ∧ (Builtin.append_ #[22,22] 22 #[.slice (some ⟨wr.heap.size,0,none⟩) 0 0,.slice A1 k c]).run Tryz.prog (wr.alloc (.cells #[] 56))=.ok (.slice a3 k c3) w3
   ∧ (Builtin.append_ #[22,22] 22 #[.slice a3 k c3,.slice (some ⟨w3.heap.size,0,none⟩) 1 1]).run Tryz.prog (w3.alloc (.cells us.toArray 56))=.ok (.slice a5 (k+1) c5) w5
   ∧ (Builtin.append_ #[22,22] 22 #[.slice a5 (k+1) c5,.slice A2 (gs.length-k) (c-k)]).run Tryz.prog w5=.ok (.slice a7 (gs.length+1) c7) w7
   ∧ Fz w w3∧GRow 7 (fun _ us x=>Q us x) (fun _=>False) 56 w7 w.heap.size (.slice a7 (gs.length+1) c7) ((gs.take k++[r])++gs.drop k)∧Fz w w7∧c≤maxLen∧gs.length≤c:=by
 have hat:=hrow.at (by decide);have hmc:gs.length≤c∧c≤maxLen:=by
  obtain⟨_,_,he,q1,q2,-⟩:=hat
  simp only[Value.slice.injEq]at he
  obtain⟨-,-,rfl⟩:=he
  exact⟨q1,q2⟩
 obtain⟨A1,hs1,hA1⟩:=refsSlice_upto a gs.length c hmc.1 k hk
 obtain⟨A2,hs2,hA2⟩:=refsSlice_rest a gs.length c hmc.1 k hk
 have hd:(gs.drop k).length=gs.length-k:=List.length_drop;have ht:(gs.take k).length=k:=by rw[List.length_take];omega
 have hr1:=hat.upto k hk A1 hA1;have hr2:=hat.rest k hk A2 hA2;have FA:Fz wr (wr.alloc (.cells #[] 56)):=(Fr.refl wr).alloc _;have hsz:(wr.alloc (.cells #[] 56)).heap.size=wr.heap.size+1:=World.size_alloc _ _;have G0:GRow 7 (fun _ us x=>Q us x) (fun _=>False) 56 (wr.alloc (.cells #[] 56)) wr.heap.size (.slice (some ⟨wr.heap.size,0,none⟩) 0 0) ([]:List RowP):=
  ⟨[],⟨rfl,.inr ⟨wr.heap.size,0,#[],rfl,Nat.le_refl _,Blk.new wr 56 #[],Nat.le_refl _,by unfold maxLen;omega,rfl,rfl⟩⟩,fun i x hx=>by simp at hx⟩
 obtain⟨a3,c3,w3,run1,row1,F3⟩:=G0.addSlice0 (s:=22) Tryz.underlying22 info56 rfl (by decide) (by decide) (by omega) (hr1.move FA (fun _ _ h=>h)) (fun _ _ _ h=>RRef.one (hQ _ _ h)) (fun us x hx=>fun _ _=>hx) (by simp;omega)
 have FB:Fz wr w3:=FA.trans' F3 (fun i hi e=>by simp only[Value.ownBlock,Option.some.injEq]at e;omega);obtain⟨a5,c5,w5,run2,row2,F5,-⟩:=row1.add (s:=22) Tryz.underlying22 info56 rfl (by decide) (by decide) FB.size ((Fr.refl w3).alloc (.cells us.toArray 56)) w3.heap.size us hu7 (Blk.new w3 56 us.toArray) (RRef.one (hQ _ _ hr)) r (fun _ _=>hr) (by rw[List.nil_append,ht];omega)
 have hk1:=row1.keep;have FC:Fz wr w5:=FB.trans' F5 (fun i hi e=>by have:=(hk1 i e).1;omega);obtain⟨a7,c7,w7,run3,row3,F7⟩:=row2.addSlice0 (s:=22) Tryz.underlying22 info56 rfl (by decide) (by decide) FC.size (hr2.move FC (fun _ _ h=>h)) (fun _ _ _ h=>RRef.one (hQ _ _ h)) (fun us x hx=>fun _ _=>hx) (by rw[List.length_append,List.nil_append,ht,hd,List.length_singleton];omega)
 have hk2:=row2.keep;have FD:Fz wr w7:=FC.trans' F7 (fun i hi e=>by have:=(hk2 i e).1;omega);have hx2:([]++gs.take k++[r]).length=k+1:=by rw[List.length_append,List.nil_append,ht];rfl
 have hx1:([]++gs.take k:List RowP).length=k:=by rw[List.nil_append,ht]
 rw[hx2,hd]at run3 row3
 rw[hx1]at run2 run3
 simp only[List.nil_append,List.length_nil,Nat.zero_add,ht]at run1 run2 run3 row3
 rw[show k+1+(gs.length-k)=gs.length+1 by omega]at run3 row3
 exact⟨A1,A2,a3,c3,w3,a5,c5,w5,a7,c7,w7,hs1,hs2,run1,run2,run3,F.trans FB,row3.low F.size,F.trans FD,hmc.2,hmc.1⟩
end Go.Proofs.YtehlipgmkinfbaaGreatDoor
