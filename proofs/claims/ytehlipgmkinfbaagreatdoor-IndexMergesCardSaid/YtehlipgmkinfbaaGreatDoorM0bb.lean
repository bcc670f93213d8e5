/-
  Merged by program: XR22D XHeldF XR03E XR21L.
-/
import Derived.Test.YtehlipgmkinfbaaGreatDoorM0ba
set_option linter.unusedSimpArgs false
set_option maxRecDepth 100000
set_option maxHeartbeats 8000000
namespace Go.Q
theorem refDelta_fit {L M:List RowP}(h1:∀ r∈L,fitR r)(h2:∀ r∈M,fitR r):∀ r∈refDeltaL L M,fitR r:=fun r hr=>by
 unfold refDeltaL at hr;rcases List.mem_append.1 hr with h|h
 ·exact h2 r (List.mem_filter.1 h).1
 ·obtain⟨x,hx,rfl⟩:=List.mem_map.1 h
  exact h1 x (List.mem_filter.1 hx).1
theorem RRef.gone {w:World}{vi vs v1 v2 v3 v4:Value}{x:RowP}(h:RRef w [vi,.bool x.num.below,vs,v1,v2,v3,v4] x):RRef w [vi,.bool x.num.below,vs,.int .i64 x.date,.int .i64 8,.bool false,.int .i64 0] (goneR x):=by
 obtain⟨ui,us,he,g1,g2⟩:=h
 simp only[List.cons.injEq]at he
 exact⟨vi,vs,rfl,he.1▸g1,he.2.2.1▸g2⟩
theorem place_in {l:List RowP}{r:RowP}(hu:UpR l)(h:(placeR r l 0).2=true):∃ y,l[(placeR r l 0).1]? = some y:=by
 obtain⟨h1,h2⟩:=place_at r l 0 hu
 obtain⟨y,hy,-⟩:=h2.1 h
 exact⟨y,by rw[h1,Nat.zero_add];exact hy⟩
open Go
section
variable {P:Program}{ops:Array Oper}{Q:Exit→Act→World→Prop}{md:Region.Mode}{S:World→Prop}{n:Nat}
theorem wpAnyN_two {i k:Nat}{o p:Oper}{f:Nat}{listed:Array Bool}{a:Act}{w:World}(hr:Region.ready md ops listed=[i,k])(ho:ops[i]? = some o)(hp:ops[k]? = some p)
  (h:∀ K:Act→World→Prop,Shut (∀ a w,S w→(S w→wpAnyN P md ops Q S n f (listed.setIfInBounds i true) a w)→K a w)→if Region.wanted o (yielded ops a.tmps)=true then Oper.wp P o a w K Q else K (a.put o.dst undef) w)
  (h2:∀ K:Act→World→Prop,Shut (∀ a w,S w→(S w→wpAnyN P md ops Q S n f (listed.setIfInBounds k true) a w)→K a w)→if Region.wanted p (yielded ops a.tmps)=true then Oper.wp P p a w K Q else K (a.put p.dst undef) w):wpAnyN P md ops Q S n (f+1) listed a w:=by
 refine⟨fun e=>(by rw[e]at hr;cases hr),fun j hj=>?_⟩
 rw[hr]at hj
 rcases List.mem_cons.1 hj with q|q
 ·subst q
  exact wpOp_step ho (fun K hK=>h K (fun a w hS hW=>hK a w ⟨fun _=>hS,hW hS⟩))
 ·rw[List.mem_singleton]at q
  subst q;exact wpOp_step hp (fun K hK=>h2 K (fun a w hS hW=>hK a w ⟨fun _=>hS,hW hS⟩))
end
theorem likeRow_parts (x y:RowP):likeRow x y=(decide (madeS x.num=madeS y.num)&&(decide (x.date=y.date)&&(decide (x.reason=y.reason)&&(decide (x.inv.isSome=y.inv.isSome)&&(decide (x.inv.getD 0=y.inv.getD 0)&&decide (x.iss=y.iss)))))):=by
 unfold likeRow;cases x.inv<;>cases y.inv<;>simp
theorem likeRows_len:∀ {l m:List RowP},¬l.length=m.length→likeRows l m=false
 | [],[],h=>absurd rfl h
 | [],y::m,_=>rfl
 |x::l,[],_=>rfl
 |x::l,y::m,h=>by
  unfold likeRows;rw[likeRows_len (l:=l) (m:=m) (fun e=>h (by rw[List.length_cons,List.length_cons,e])),Bool.and_false]
end Go.Q
namespace Go.Proofs.YtehlipgmkinfbaaGreatDoor
open Go Go.RowKit Go.Q
theorem r22Delta_any (va vb:Value)(L M:List RowP)(w:World)(ha:Refs w va L)(hb:Refs w vb M)(hfL:∀ r∈L,fitR r)(hfM:∀ r∈M,fitR r)(hl:L.length+M.length≤1000)(huL:UpR L)(huM:UpR M) :
  Calls Tryz.prog 21 #[va,vb] w fun e w'=>(∃ a c,e=.returned (.slice a (deltaS L M).length c)∧Refs w' (.slice a (deltaS L M).length c) (deltaS L M))∧Fz w w':=by
 have HA:=Hi ha;have HB:=Hi hb;have HFL:=Hi hfL;have HFM:=Hi hfM;have HLEN:=Hi hl;have HUL:=Hi huL;have HUM:=Hi huM;obtain⟨aa,ca,rfl,-⟩:=ha
 obtain⟨ab,cb,rfl,-⟩:=hb
 clear hfL hfM hl huL huM;go_enter Tryz.func21,Tryz.ntmps21
 go_wp2_with fail
 go_loopg [5,6] M.length (fun g u i wr=>∃ (j:Nat) (a:Option Addr) (c:Nat) (gs:List RowP),g=M.length-j∧j≤M.length∧u=.slice a gs.length c∧i=.int .i64 j∧Hid (gs=(M.take j).filter (fun r=>!(placeR r L 0).2||!(match L[(placeR r L 0).1]? with|some x=>likeR x r|none=>false)))∧Hid (gs.length≤j)∧Hid (GRow 7 (fun _ us x=>RRef w us x) (fun _=>False) 56 wr w.heap.size (.slice a gs.length c) gs)∧Hid (Fz w wr))
 case atStart=>exact⟨0,none,0,[],rfl,Nat.zero_le _,rfl,rfl,Hi rfl,Hi (Nat.le_refl _),Hi (GRow.nil _ _ _ _ _ _),Hi (Fr.refl _)⟩
 case round=>
  obtain⟨j,a,c,gs,hg,hj,rfl,rfl,HGS,HGL,HRW,HF⟩:=hrel
  have HG:=Hi hg;have hlb:=HLEN.out;clear hg;by_cases hjl:j<M.length
  ·obtain⟨x,hx⟩:∃ x,M[j]? = some x:=⟨_,List.getElem?_eq_getElem hjl⟩
   obtain⟨b,o,cs,rfl,-,-,hR,hcell⟩:=LAt.get HB.out hx
   obtain⟨a1,c1,b1,d1,rfl,hn1,hb1⟩:=hR.form
   have HRX:=Hi hR;have HN1:=Hi hn1;have HB1:=Hi hb1
   have HSX:=Hi (fun W (F:Fz wr W)=>show W.cell? ⟨b,o+j*7,none⟩=some (.slice a1 x.iss.length c1)∧W.cell? ⟨b,o+j*7+1,none⟩=some (.bool x.num.below)∧W.cell? ⟨b,o+j*7+2,none⟩=some (.slice b1 x.num.size.length d1)∧W.cell? ⟨b,o+j*7+3,none⟩=some (.int .i64 x.date)∧W.cell? ⟨b,o+j*7+4,none⟩=some (.int .i64 x.reason)∧W.cell? ⟨b,o+j*7+5,none⟩=some (.bool x.inv.isSome)∧W.cell? ⟨b,o+j*7+6,none⟩=some (.int .i64 (x.inv.getD 0)) from ⟨by have:=(HF.out.trans F).cell (hcell 0 _ rfl) (fun h=>h);rwa[Nat.add_zero]at this,(HF.out.trans F).cell (hcell 1 _ rfl) (fun h=>h),(HF.out.trans F).cell (hcell 2 _ rfl) (fun h=>h),(HF.out.trans F).cell (hcell 3 _ rfl) (fun h=>h),(HF.out.trans F).cell (hcell 4 _ rfl) (fun h=>h),(HF.out.trans F).cell (hcell 5 _ rfl) (fun h=>h),(HF.out.trans F).cell (hcell 6 _ rfl) (fun h=>h)⟩)
   have hfx:=HFM.out x (List.mem_of_getElem? hx);have HFX:=Hi hfx;have HXM:=Hi (List.mem_of_getElem? hx);have HXG:=Hi hx;have r1:(0:Int)≤(j:Int):=by omega
   have r2:(j:Int)<(M.length:Int):=by omega
   have HTK:=Hi (show M.take (j+1)=M.take j++[x] by rw[List.take_add_one,hx];rfl);obtain⟨pn,hpn⟩:∃ pn,pn=(placeR x L 0).1:=⟨_,rfl⟩
   obtain⟨pin,hpin⟩:∃ pin,pin=(placeR x L 0).2:=⟨_,rfl⟩
   have HPL:=Hi (fun W (F:Fz wr W)=>r22Place_any x _ (.slice a1 x.iss.length c1) (.slice b1 x.num.size.length d1) L W (Refs.old HA.out (HF.out.trans F)) (HN1.out.old (HF.out.trans F)) (HB1.out.old (HF.out.trans F)) HFL.out HFX.out (by have:=HLEN.out;omega));rw[←hpn,←hpin]at HPL
   have HPN:=Hi hpn;have HPI:=Hi hpin;clear hx hR hcell hn1 hb1 hfx hpn hpin;go_upto_region 5 with fail
   have GD:Fz wr wr.drew:=(Fr.refl wr).drew;refine wp_region_N 17 (S:=fun w'=>w'.cell? ⟨b,o+j*7,none⟩=some (.slice a1 x.iss.length c1)∧w'.cell? ⟨b,o+j*7+1,none⟩=some (.bool x.num.below)∧w'.cell? ⟨b,o+j*7+2,none⟩=some (.slice b1 x.num.size.length d1)∧w'.cell? ⟨b,o+j*7+3,none⟩=some (.int .i64 x.date)∧w'.cell? ⟨b,o+j*7+4,none⟩=some (.int .i64 x.reason)∧w'.cell? ⟨b,o+j*7+5,none⟩=some (.bool x.inv.isSome)∧w'.cell? ⟨b,o+j*7+6,none⟩=some (.int .i64 (x.inv.getD 0))) (by kernel_rfl) ?_ (fun hHeld=>?_)
   ·exact HSX.out _ GD
   refine tkN 0 rfl hHeld ?_;refine tkN 1 rfl hHeld ?_;refine tkN 2 rfl hHeld ?_;(try simp only[Act.put,SS]);refine tkN 3 rfl hHeld ?_;refine tkN 4 rfl hHeld ?_;refine tkN 5 rfl hHeld ?_;(try simp only[Act.put,SS]);refine tkN 6 rfl hHeld ?_;refine tkN 7 rfl hHeld ?_;refine tkN 8 rfl hHeld ?_;(try simp only[Act.put,SS]);refine tkN 9 rfl hHeld ?_;refine tkN 10 rfl hHeld ?_;(try simp only[Act.put,SS]);refine stN 11 (fun KK hKK=>?_);go_simp
   (go_at_call 31;(with_reducible refine(HPL.out _ GD).mono ?_);rintro e w' ⟨rfl,F⟩;have G2:=GD.trans F;clear F HPL;go_wp2_with fail)
   refine hKK.out _ _ ?_ (fun hHeld=>?_)
   ·exact HSX.out _ G2
   clear hKK KK;(try simp only[Act.put,SS]);refine tkN 12 rfl hHeld ?_;refine tkN 13 rfl hHeld ?_;refine tkN 14 rfl hHeld ?_;(try simp only[Act.put,SS]);refine tkN 15 rfl hHeld ?_;refine tkN 16 rfl hHeld ?_;(try simp only[Act.put,SS]);refine wpAnyN_done (by kernel_rfl) ?_ _;clear hHeld;have HF2:=Hi G2;clear GD G2;cases hq:pin with
   |false=>
    have HGS2:=Hi (show gs++[x]=(M.take (j+1)).filter (fun r=>!(placeR r L 0).2||!(match L[(placeR r L 0).1]? with|some x=>likeR x r|none=>false)) from by
     rw[HTK.out,List.filter_append,HGS.out]
     simp[←HPI.out,hq])
    subst hq;go_upto_region 6 with fail
    have GE:Fz wr w'.drew:=HF2.out.drew;refine wp_region_N 14 (S:=fun w'=>True) (by kernel_rfl) ?_ (fun hHeld=>?_)
    ·trivial
    refine tkN 0 rfl hHeld ?_;refine tkN 1 rfl hHeld ?_;refine tkN 2 rfl hHeld ?_;(try simp only[Act.put,SS]);refine tkS 3 rfl hHeld ?_;refine tkS 4 rfl hHeld ?_;refine tkS 5 rfl hHeld ?_;(try simp only[Act.put,SK,SS]);refine tkS 6 rfl hHeld ?_;refine tkS 7 rfl hHeld ?_;refine tkS 8 rfl hHeld ?_;(try simp only[Act.put,SK,SS]);refine tkS 9 rfl hHeld ?_;refine tkS 10 rfl hHeld ?_;refine tkS 11 rfl hHeld ?_;(try simp only[Act.put,SK,SS]);refine tkS 12 rfl hHeld ?_;refine tkN 13 rfl hHeld ?_;(try simp only[Act.put,SK,SS]);refine wpAnyN_done (by kernel_rfl) ?_ _;clear hHeld;have HF3:=Hi GE
    obtain⟨m0,m1,m2,m3,m4,m5,m6⟩:=HSX.out _ GE
    clear GE
    obtain⟨a7,c7,w7,hrun,hrow7,F7,-⟩:=(HRW.out.old HF3.out).add (s:=22) Tryz.underlying22 info56 rfl (by decide) (by decide) (by have:=HF.out.size;have:=(HF3.out).size;omega) ((Fr.refl w'.drew).alloc (.cells [(.slice a1 x.iss.length c1),(.bool x.num.below),(.slice b1 x.num.size.length d1),(.int .i64 x.date),(.int .i64 x.reason),(.bool x.inv.isSome),(.int .i64 (x.inv.getD 0))].toArray 56)) w'.drew.heap.size [(.slice a1 x.iss.length c1),(.bool x.num.below),(.slice b1 x.num.size.length d1),(.int .i64 x.date),(.int .i64 x.reason),(.bool x.inv.isSome),(.int .i64 (x.inv.getD 0))] rfl (Blk.new w'.drew 56 [(.slice a1 x.iss.length c1),(.bool x.num.below),(.slice b1 x.num.size.length d1),(.int .i64 x.date),(.int .i64 x.reason),(.bool x.inv.isSome),(.int .i64 (x.inv.getD 0))].toArray) (by simp[Value.oneCell']) (x) (fun _ _=>HRX.out) (by have:=HGL.out;have:=HLEN.out;omega)
    have HRUN:=Hi hrun;have HKP:=Hi HRW.out.keep;have HRW7:=Hi hrow7;have HF7:=Hi ((HF.out.trans HF3.out).trans' F7 (fun i hi e=>absurd hi (by have:=(HKP.out i e).1;omega)));have HLL:Hid ((gs++[x]).length=gs.length+1):=Hi (by rw[List.length_append];rfl);skip
    clear hrun hrow7 F7;go_wp2_with ((at_builtin;refine wpList_append_run (by rfl) (.tmp 50) (.tmp 55) 22 (by rfl) _ w7 (by exact HRUN.out) ?_))
    go_roundg (M.length-(j+1))
    case measure=>rw[HG.out];omega
    case rel=>exact⟨j+1,a7,c7,gs++[x],rfl,by omega,by rw[HLL.out],by go_num,HGS2,Hi (by rw[HLL.out];have:=HGL.out;omega),Hi (by rw[HLL.out];exact HRW7.out),HF7⟩
   |true=>
    obtain⟨y,hy⟩:=place_in HUL.out (show (placeR x L 0).2=true from by rw[←HPI.out];exact hq)
    obtain⟨k,hk⟩:∃ k,k=(placeR x L 0).1:=⟨_,rfl⟩
    obtain rfl:pn=k:=by rw[HPN.out,hk]
    rw[←hk]at hy
    have HYG:=Hi hy;obtain⟨m,hm⟩:∃ m,m=likeR y x:=⟨_,rfl⟩
    have HGS2:=Hi (show gs++(if m=true then [] else [x])=(M.take (j+1)).filter (fun r=>!(placeR r L 0).2||!(match L[(placeR r L 0).1]? with|some x=>likeR x r|none=>false)) from by
     rw[HTK.out,List.filter_append,HGS.out]
     congr 1
     simp only[List.filter_cons,List.filter_nil,←HPI.out,hq,←HPN.out,hy,←hm]
     cases m<;>rfl)
    subst hq;obtain⟨k,hk2⟩:∃ k,k=pn:=⟨_,rfl⟩
    rw[←hk2]at hy ⊢
    clear hk hk2 HPN HYG;have hkl:=(List.getElem?_eq_some_iff.1 hy).1;obtain⟨p,q,us,rfl,-,-,hRy,hcy⟩:=LAt.get HA.out hy
    obtain⟨a2,c2,b2,d2,rfl,-,-⟩:=hRy.form
    have HSY:=Hi (fun W (F:Fz wr W)=>show (W.cell? ⟨b,o+j*7,none⟩=some (.slice a1 x.iss.length c1)∧W.cell? ⟨b,o+j*7+1,none⟩=some (.bool x.num.below)∧W.cell? ⟨b,o+j*7+2,none⟩=some (.slice b1 x.num.size.length d1)∧W.cell? ⟨b,o+j*7+3,none⟩=some (.int .i64 x.date)∧W.cell? ⟨b,o+j*7+4,none⟩=some (.int .i64 x.reason)∧W.cell? ⟨b,o+j*7+5,none⟩=some (.bool x.inv.isSome)∧W.cell? ⟨b,o+j*7+6,none⟩=some (.int .i64 (x.inv.getD 0)))∧W.cell? ⟨p,q+k*7,none⟩=some (.slice a2 y.iss.length c2)∧W.cell? ⟨p,q+k*7+1,none⟩=some (.bool y.num.below)∧W.cell? ⟨p,q+k*7+2,none⟩=some (.slice b2 y.num.size.length d2)∧W.cell? ⟨p,q+k*7+3,none⟩=some (.int .i64 y.date)∧W.cell? ⟨p,q+k*7+4,none⟩=some (.int .i64 y.reason)∧W.cell? ⟨p,q+k*7+5,none⟩=some (.bool y.inv.isSome)∧W.cell? ⟨p,q+k*7+6,none⟩=some (.int .i64 (y.inv.getD 0)) from ⟨HSX.out W F,by have:=(HF.out.trans F).cell (hcy 0 _ rfl) (fun h=>h);rwa[Nat.add_zero]at this,(HF.out.trans F).cell (hcy 1 _ rfl) (fun h=>h),(HF.out.trans F).cell (hcy 2 _ rfl) (fun h=>h),(HF.out.trans F).cell (hcy 3 _ rfl) (fun h=>h),(HF.out.trans F).cell (hcy 4 _ rfl) (fun h=>h),(HF.out.trans F).cell (hcy 5 _ rfl) (fun h=>h),(HF.out.trans F).cell (hcy 6 _ rfl) (fun h=>h)⟩)
    have HJU:=Hi (fun W=>r22Just_any y x a2 b2 a1 b1 c2 d2 c1 d1 W);rw[←hm]at HJU
    have r3:(0:Int)≤(k:Int):=by omega
    have r4:(k:Int)<(L.length:Int):=by omega
    clear hy hm hRy hcy;go_upto_region 6 with fail
    have GE:Fz wr w'.drew:=HF2.out.drew
    refine wp_region_N 14 (S:=fun w'=>(w'.cell? ⟨b,o+j*7,none⟩=some (.slice a1 x.iss.length c1)∧w'.cell? ⟨b,o+j*7+1,none⟩=some (.bool x.num.below)∧w'.cell? ⟨b,o+j*7+2,none⟩=some (.slice b1 x.num.size.length d1)∧w'.cell? ⟨b,o+j*7+3,none⟩=some (.int .i64 x.date)∧w'.cell? ⟨b,o+j*7+4,none⟩=some (.int .i64 x.reason)∧w'.cell? ⟨b,o+j*7+5,none⟩=some (.bool x.inv.isSome)∧w'.cell? ⟨b,o+j*7+6,none⟩=some (.int .i64 (x.inv.getD 0)))∧w'.cell? ⟨p,q+k*7,none⟩=some (.slice a2 y.iss.length c2)∧w'.cell? ⟨p,q+k*7+1,none⟩=some (.bool y.num.below)∧w'.cell? ⟨p,q+k*7+2,none⟩=some (.slice b2 y.num.size.length d2)∧w'.cell? ⟨p,q+k*7+3,none⟩=some (.int .i64 y.date)∧w'.cell? ⟨p,q+k*7+4,none⟩=some (.int .i64 y.reason)∧w'.cell? ⟨p,q+k*7+5,none⟩=some (.bool y.inv.isSome)∧w'.cell? ⟨p,q+k*7+6,none⟩=some (.int .i64 (y.inv.getD 0))) (by kernel_rfl) ?_ (fun hHeld=>?_)
    ·exact HSY.out _ GE
    refine tkN 0 rfl hHeld ?_;refine tkN 1 rfl hHeld ?_;refine tkN 2 rfl hHeld ?_;(try simp only[Act.put,SS]);refine tkG 3 rfl hHeld ?_;refine tkG 4 rfl hHeld ?_;refine tkG 5 rfl hHeld ?_;(try simp only[Act.put,SK,SS]);refine tkG 6 rfl hHeld ?_;refine tkG 7 rfl hHeld ?_;refine tkG 8 rfl hHeld ?_;(try simp only[Act.put,SK,SS]);refine tkG 9 rfl hHeld ?_;refine tkG 10 rfl hHeld ?_;(try simp only[Act.put,SK,SS]);refine stN 11 (fun KK hKK=>?_);go_simp
    (go_at_call 52;(with_reducible refine(HJU.out _).mono ?_);rintro e w9 ⟨rfl,F9⟩;have G9:=GE.trans F9;clear F9;go_wp2_with fail)
    refine hKK.out _ _ ?_ (fun hHeld=>?_)
    ·exact HSY.out _ G9
    clear hKK KK;(try simp only[Act.put,SS]);refine tkG 12 rfl hHeld ?_;refine tkN 13 rfl hHeld ?_;(try simp only[Act.put,SK,SS]);refine wpAnyN_done (by kernel_rfl) ?_ _;clear hHeld;have HF3:=Hi G9;cases m with
    |true=>
     have HGS3:=Hi (show gs=(M.take (j+1)).filter (fun r=>!(placeR r L 0).2||!(match L[(placeR r L 0).1]? with|some x=>likeR x r|none=>false)) from by rw[←HGS2.out];simp);clear GE G9;go_wp2_with fail
     go_roundg (M.length-(j+1))
     case measure=>rw[HG.out];omega
     case rel=>exact⟨j+1,a,c,gs,rfl,by omega,rfl,by go_num,HGS3,Hi (by have:=HGL.out;omega),Hi (HRW.out.old HF3.out),Hi (HF.out.trans HF3.out)⟩
    |false=>
     have HGS3:=HGS2;clear HGS2;have HGS2:=Hi (show gs++[x]=(M.take (j+1)).filter (fun r=>!(placeR r L 0).2||!(match L[(placeR r L 0).1]? with|some x=>likeR x r|none=>false)) from by rw[←HGS3.out];rfl);obtain⟨m0,m1,m2,m3,m4,m5,m6⟩:=HSX.out _ G9
     clear GE G9
     obtain⟨a7,c7,w7,hrun,hrow7,F7,-⟩:=(HRW.out.old HF3.out).add (s:=22) Tryz.underlying22 info56 rfl (by decide) (by decide) (by have:=HF.out.size;have:=(HF3.out).size;omega) ((Fr.refl w9).alloc (.cells [(.slice a1 x.iss.length c1),(.bool x.num.below),(.slice b1 x.num.size.length d1),(.int .i64 x.date),(.int .i64 x.reason),(.bool x.inv.isSome),(.int .i64 (x.inv.getD 0))].toArray 56)) w9.heap.size [(.slice a1 x.iss.length c1),(.bool x.num.below),(.slice b1 x.num.size.length d1),(.int .i64 x.date),(.int .i64 x.reason),(.bool x.inv.isSome),(.int .i64 (x.inv.getD 0))] rfl (Blk.new w9 56 [(.slice a1 x.iss.length c1),(.bool x.num.below),(.slice b1 x.num.size.length d1),(.int .i64 x.date),(.int .i64 x.reason),(.bool x.inv.isSome),(.int .i64 (x.inv.getD 0))].toArray) (by simp[Value.oneCell']) (x) (fun _ _=>HRX.out) (by have:=HGL.out;have:=HLEN.out;omega)
     have HRUN:=Hi hrun;have HKP:=Hi HRW.out.keep;have HRW7:=Hi hrow7;have HF7:=Hi ((HF.out.trans HF3.out).trans' F7 (fun i hi e=>absurd hi (by have:=(HKP.out i e).1;omega)));have HLL:Hid ((gs++[x]).length=gs.length+1):=Hi (by rw[List.length_append];rfl);skip
     clear hrun hrow7 F7;go_wp2_with ((at_builtin;refine wpList_append_run (by rfl) (.tmp 50) (.tmp 55) 22 (by rfl) _ w7 (by exact HRUN.out) ?_))
     go_roundg (M.length-(j+1))
     case measure=>rw[HG.out];omega
     case rel=>exact⟨j+1,a7,c7,gs++[x],rfl,by omega,by rw[HLL.out],by go_num,HGS2,Hi (by rw[HLL.out];have:=HGL.out;omega),Hi (by rw[HLL.out];exact HRW7.out),HF7⟩
  ·have r2:¬(j:Int)<(M.length:Int):=by omega
   have HGA:=Hi (show gs=M.filter (fun r=>!(placeR r L 0).2||!(match L[(placeR r L 0).1]? with|some x=>likeR x r|none=>false)) from by rw[HGS.out,List.take_of_length_le (by omega)]);have HGB:=Hi (show gs.length≤M.length from by rw[HGA.out];exact List.length_filter_le _ _);go_wp2_with fail
   clear r2 hjl hj HG;go_loopg [5,9] L.length (fun g u i wr=>∃ (j:Nat) (a:Option Addr) (c:Nat) (gs:List RowP),g=L.length-j∧j≤L.length∧u=.slice a gs.length c∧i=.int .i64 j∧Hid (gs=M.filter (fun r=>!(placeR r L 0).2||!(match L[(placeR r L 0).1]? with|some x=>likeR x r|none=>false))++((L.take j).filter (fun r=>!(placeR r M 0).2)).map goneR)∧Hid (gs.length≤M.length+j)∧Hid (GRow 7 (fun _ us x=>RRef w us x) (fun _=>False) 56 wr w.heap.size (.slice a gs.length c) gs)∧Hid (Fz w wr))
   case atStart=>exact⟨0,a,c,gs,rfl,Nat.zero_le _,rfl,rfl,Hi (by rw[HGA.out];simp),Hi HGB.out,HRW,HF⟩
   case round=>
    clear HRW HF HGS HGL HGA HGB;obtain⟨j,a,c,gs,hg,hj,rfl,rfl,HGS,HGL,HRW,HF⟩:=hrel
    have HG:=Hi hg;have hlb:=HLEN.out;clear hg;by_cases hjl:j<L.length
    ·obtain⟨x,hx⟩:∃ x,L[j]? = some x:=⟨_,List.getElem?_eq_getElem hjl⟩
     obtain⟨b,o,cs,rfl,-,-,hR,hcell⟩:=LAt.get HA.out hx
     obtain⟨a1,c1,b1,d1,rfl,hn1,hb1⟩:=hR.form
     have HRX:=Hi hR;have HN1:=Hi hn1;have HB1:=Hi hb1
     have HSX:=Hi (fun W (F:Fz wr W)=>show W.cell? ⟨b,o+j*7,none⟩=some (.slice a1 x.iss.length c1)∧W.cell? ⟨b,o+j*7+1,none⟩=some (.bool x.num.below)∧W.cell? ⟨b,o+j*7+2,none⟩=some (.slice b1 x.num.size.length d1)∧W.cell? ⟨b,o+j*7+3,none⟩=some (.int .i64 x.date)∧W.cell? ⟨b,o+j*7+4,none⟩=some (.int .i64 x.reason)∧W.cell? ⟨b,o+j*7+5,none⟩=some (.bool x.inv.isSome)∧W.cell? ⟨b,o+j*7+6,none⟩=some (.int .i64 (x.inv.getD 0)) from ⟨by have:=(HF.out.trans F).cell (hcell 0 _ rfl) (fun h=>h);rwa[Nat.add_zero]at this,(HF.out.trans F).cell (hcell 1 _ rfl) (fun h=>h),(HF.out.trans F).cell (hcell 2 _ rfl) (fun h=>h),(HF.out.trans F).cell (hcell 3 _ rfl) (fun h=>h),(HF.out.trans F).cell (hcell 4 _ rfl) (fun h=>h),(HF.out.trans F).cell (hcell 5 _ rfl) (fun h=>h),(HF.out.trans F).cell (hcell 6 _ rfl) (fun h=>h)⟩)
     have hfx:=HFL.out x (List.mem_of_getElem? hx);have HFX:=Hi hfx;have HXM:=Hi (List.mem_of_getElem? hx);have HXG:=Hi hx;have r1:(0:Int)≤(j:Int):=by omega
     have r2:(j:Int)<(L.length:Int):=by omega
     have HTK:=Hi (show L.take (j+1)=L.take j++[x] by rw[List.take_add_one,hx];rfl);obtain⟨pn,hpn⟩:∃ pn,pn=(placeR x M 0).1:=⟨_,rfl⟩
     obtain⟨pin,hpin⟩:∃ pin,pin=(placeR x M 0).2:=⟨_,rfl⟩
     have HPL:=Hi (fun W (F:Fz wr W)=>r22Place_any x _ (.slice a1 x.iss.length c1) (.slice b1 x.num.size.length d1) M W (Refs.old HB.out (HF.out.trans F)) (HN1.out.old (HF.out.trans F)) (HB1.out.old (HF.out.trans F)) HFM.out HFX.out (by have:=HLEN.out;omega));rw[←hpn,←hpin]at HPL
     have HPN:=Hi hpn;have HPI:=Hi hpin;clear hx hR hcell hn1 hb1 hfx hpn hpin;go_upto_region 11 with fail
     have GD:Fz wr wr.drew:=(Fr.refl wr).drew;refine wp_region_N 17 (S:=fun w'=>w'.cell? ⟨b,o+j*7,none⟩=some (.slice a1 x.iss.length c1)∧w'.cell? ⟨b,o+j*7+1,none⟩=some (.bool x.num.below)∧w'.cell? ⟨b,o+j*7+2,none⟩=some (.slice b1 x.num.size.length d1)∧w'.cell? ⟨b,o+j*7+3,none⟩=some (.int .i64 x.date)∧w'.cell? ⟨b,o+j*7+4,none⟩=some (.int .i64 x.reason)∧w'.cell? ⟨b,o+j*7+5,none⟩=some (.bool x.inv.isSome)∧w'.cell? ⟨b,o+j*7+6,none⟩=some (.int .i64 (x.inv.getD 0))) (by kernel_rfl) ?_ (fun hHeld=>?_)
     ·exact HSX.out _ GD
     refine tkN 0 rfl hHeld ?_;refine tkN 1 rfl hHeld ?_;refine tkN 2 rfl hHeld ?_;(try simp only[Act.put,SS]);refine tkN 3 rfl hHeld ?_;refine tkN 4 rfl hHeld ?_;refine tkN 5 rfl hHeld ?_;(try simp only[Act.put,SS]);refine tkN 6 rfl hHeld ?_;refine tkN 7 rfl hHeld ?_;refine tkN 8 rfl hHeld ?_;(try simp only[Act.put,SS]);refine tkN 9 rfl hHeld ?_;refine tkN 10 rfl hHeld ?_;(try simp only[Act.put,SS]);refine stN 11 (fun KK hKK=>?_);go_simp
     (go_at_call 31;(with_reducible refine(HPL.out _ GD).mono ?_);rintro e w' ⟨rfl,F⟩;have G2:=GD.trans F;clear F HPL;go_wp2_with fail)
     refine hKK.out _ _ ?_ (fun hHeld=>?_)
     ·exact HSX.out _ G2
     clear hKK KK;(try simp only[Act.put,SS]);refine tkN 12 rfl hHeld ?_;refine tkN 13 rfl hHeld ?_;refine tkN 14 rfl hHeld ?_;(try simp only[Act.put,SS]);refine tkN 15 rfl hHeld ?_;refine tkN 16 rfl hHeld ?_;(try simp only[Act.put,SS]);refine wpAnyN_done (by kernel_rfl) ?_ _;clear hHeld;have HF2:=Hi G2;obtain⟨m0,m1,m2,m3,m4,m5,m6⟩:=HSX.out _ G2
     clear GD G2;cases hq:pin with
     |true=>
      have HGS2:=Hi (show gs=M.filter (fun r=>!(placeR r L 0).2||!(match L[(placeR r L 0).1]? with|some x=>likeR x r|none=>false))++((L.take (j+1)).filter (fun r=>!(placeR r M 0).2)).map goneR from by
       rw[HTK.out,List.filter_append,List.map_append,←List.append_assoc,←HGS.out]
       simp[←HPI.out,hq])
      subst hq;clear m0 m1 m2 m3 m4 m5 m6;go_wp2_with fail
      go_roundg (L.length-(j+1))
      case measure=>rw[HG.out];omega
      case rel=>exact⟨j+1,a,c,gs,rfl,by omega,rfl,by go_num,HGS2,Hi (by have:=HGL.out;omega),Hi (HRW.out.old HF2.out),Hi (HF.out.trans HF2.out)⟩
     |false=>
      have HGS2:=Hi (show gs++[goneR x]=M.filter (fun r=>!(placeR r L 0).2||!(match L[(placeR r L 0).1]? with|some x=>likeR x r|none=>false))++((L.take (j+1)).filter (fun r=>!(placeR r M 0).2)).map goneR from by
       rw[HTK.out,List.filter_append,List.map_append,←List.append_assoc,←HGS.out]
       simp[←HPI.out,hq])
      subst hq;obtain⟨z,hz⟩:∃ z,z=w'.heap.size:=⟨_,rfl⟩
      have BZ:=Blk.new w' 56 #[(.slice a1 x.iss.length c1),(.bool x.num.below),(.slice b1 x.num.size.length d1),(.int .i64 x.date),(.int .i64 x.reason),(.bool x.inv.isSome),(.int .i64 (x.inv.getD 0))];rw[←hz]at BZ
      have HZ:=Hi hz;have HBZ:=Hi BZ;have HFA:=Hi (HF2.out.alloc (.cells #[(.slice a1 x.iss.length c1),(.bool x.num.below),(.slice b1 x.num.size.length d1),(.int .i64 x.date),(.int .i64 x.reason),(.bool x.inv.isSome),(.int .i64 (x.inv.getD 0))] 56):Fz wr (w'.alloc (.cells #[(.slice a1 x.iss.length c1),(.bool x.num.below),(.slice b1 x.num.size.length d1),(.int .i64 x.date),(.int .i64 x.reason),(.bool x.inv.isSome),(.int .i64 (x.inv.getD 0))] 56)));have HWZ:=Hi (show wr.heap.size≤z from by rw[hz];exact HF2.out.size);clear hz BZ;go_upto_region 14 with fail
      rw[←HZ.out]
      generalize (w'.alloc (.cells #[(.slice a1 x.iss.length c1),(.bool x.num.below),(.slice b1 x.num.size.length d1),(.int .i64 x.date),(.int .i64 x.reason),(.bool x.inv.isSome),(.int .i64 (x.inv.getD 0))] 56))=w3 at *
      clear m0 m1 m2 m3 m4 m5 m6;have f4:=HBZ.out.frozen 4;have f5:=HBZ.out.frozen 5;have f6:=HBZ.out.frozen 6;have n4:=HBZ.out.cell 4;have n5:=HBZ.out.cell 5;have n6:=HBZ.out.cell 6;simp only[SG]at n4 n5 n6
      have B4:=HBZ.out.set 4 (.int .i64 8);have f5b:=B4.frozen 5;have n5b:=B4.cell 5;have f6b:=B4.frozen 6;have n6b:=B4.cell 6;have B5:=B4.set 5 (.bool false);have f6c:=B5.frozen 6;have n6c:=B5.cell 6;have B6:=B5.set 6 (.int .i64 0);simp at n5b n6b n6c B6
      have HB6:=Hi B6;have HFS:=Hi (HFA.out.trans' (((Fr.setCell (S:=fun k=>k=z) (p:=⟨z,4,none⟩) (Fr.refl w3) (fun _=>rfl) (.int .i64 8)).setCell (p:=⟨z,5,none⟩) (fun _=>rfl) (.bool false)).setCell (p:=⟨z,6,none⟩) (fun _=>rfl) (.int .i64 0)) (fun i hi e=>by have e2:i=z:=e;have:=HWZ.out;omega));clear B4 B5 B6;go_upto_region 15 with fail
      clear f4 f5 f6 n4 n5 n6 f5b n5b f6b n6b f6c n6c;generalize ((w3.setCell ⟨z,4,none⟩ (.int .i64 8)).setCell ⟨z,5,none⟩ (.bool false)).setCell ⟨z,6,none⟩ (.int .i64 0)=w4 at *
      have m0:=HB6.out.cell 0;have m1:=HB6.out.cell 1;have m2:=HB6.out.cell 2;have m3:=HB6.out.cell 3;have m4:=HB6.out.cell 4;have m5:=HB6.out.cell 5;have m6:=HB6.out.cell 6;simp only[SG]at m0 m1 m2 m3 m4 m5 m6
      have HRG:=Hi (RRef.gone HRX.out)
      obtain⟨a7,c7,w7,hrun,hrow7,F7,-⟩:=(HRW.out.old HFS.out).add (s:=22) Tryz.underlying22 info56 rfl (by decide) (by decide) (by have:=HF.out.size;have:=(HFS.out).size;omega) ((Fr.refl w4).alloc (.cells [.slice a1 x.iss.length c1,.bool x.num.below,.slice b1 x.num.size.length d1,.int .i64 x.date,.int .i64 8,.bool false,.int .i64 0].toArray 56)) w4.heap.size [.slice a1 x.iss.length c1,.bool x.num.below,.slice b1 x.num.size.length d1,.int .i64 x.date,.int .i64 8,.bool false,.int .i64 0] rfl (Blk.new w4 56 [.slice a1 x.iss.length c1,.bool x.num.below,.slice b1 x.num.size.length d1,.int .i64 x.date,.int .i64 8,.bool false,.int .i64 0].toArray) (by simp[Value.oneCell']) (goneR x) (fun _ _=>HRG.out) (by have:=HGL.out;have:=HLEN.out;omega)
      have HRUN:=Hi hrun;have HKP:=Hi HRW.out.keep;have HRW7:=Hi hrow7;have HF7:=Hi ((HF.out.trans HFS.out).trans' F7 (fun i hi e=>absurd hi (by have:=(HKP.out i e).1;omega)));have HLL:Hid ((gs++[goneR x]).length=gs.length+1):=Hi (by rw[List.length_append];rfl);skip
      clear hrun hrow7 F7;go_wp2_with ((at_builtin;refine wpList_append_run (by rfl) (.tmp 87) (.tmp 89) 22 (by rfl) _ w7 (by exact HRUN.out) ?_))
      go_roundg (L.length-(j+1))
      case measure=>rw[HG.out];omega
      case rel=>exact⟨j+1,a7,c7,gs++[goneR x],rfl,by omega,by rw[HLL.out],by go_num,HGS2,Hi (by rw[HLL.out];have:=HGL.out;omega),Hi (by rw[HLL.out];exact HRW7.out),HF7⟩
    ·skip
     have HNE:=Hi (show gs=refDeltaL L M from by rw[HGS.out,List.take_of_length_le (by omega)];unfold refDeltaL;rfl);have HFG:=Hi (show ∀ r∈gs,fitR r from by rw[HNE.out];exact refDelta_fit HFL.out HFM.out);have HNR:=Hi (show newRef gs=.ok (deltaS L M) from by
      unfold newRef;rw[if_pos (show okRows gs=true from by unfold okRows;rw[List.all_eq_true];exact fun r hr=>(HFG.out r hr).2.1),HNE.out]
      rw[delta_law HUL.out HUM.out])
     have HN:=Hi (r22New_any (fun us x=>RRef w us x) (.slice a gs.length c) gs wr (fun us x h=>RRef.old _ _ _ _ h HF.out) ((HRW.out.at (by decide)).move (Fr.refl wr) (fun _ _ h=>h)) (fun r hr=>⟨(HFG.out r hr).1,(HFG.out r hr).2.2⟩) (by have:=HGL.out;have:=HLEN.out;omega));have r2:¬(j:Int)<(L.length:Int):=by omega
     go_wp2_with fail
     refine HN.out.mono ?_;rintro e w9 ⟨ho,F9⟩;unfold RefNew at ho;rw[HNR.out]at ho
     obtain⟨a9,c9,rfl,row9⟩:=ho
     have HF9:=Hi (HF.out.trans F9);have HR9:=Hi ((row9.at (by decide)).move (R':=RRef) (Fr.refl w9) (fun _ _ h=>RRef.old _ _ _ _ h HF9.out));clear row9 F9;go_wp2_with fail
     go_ret;exact⟨⟨a9,c9,rfl,HR9.out⟩,HF9.out⟩
theorem r03Same_any (b1 b2:Bool)(v u:Value)(s1 s2:List UInt8)(w:World)(h:Bytes w v s1)(hu:Bytes w u s2)(h1:s1.length≤1000000)(h2:s2.length≤1000000) :
  Calls Tryz.prog 46 #[.agg #[.bool b1,v],.agg #[.bool b2,u]] w fun e w'=>e=.returned (.bool (decide (madeS ⟨b1,s1⟩=madeS ⟨b2,s2⟩)))∧Fz w w':=by
 obtain⟨x,hx⟩:∃ x,x=madeS ⟨b1,s1⟩:=⟨_,rfl⟩
 obtain⟨y,hy⟩:∃ y,y=madeS ⟨b2,s2⟩:=⟨_,rfl⟩
 rw[←hx,←hy]
 have hxl:x.size.length≤1000000:=by rw[hx];have:=trimS_le s1;show (trimS s1).length≤_;omega
 have hyl:y.size.length≤1000000:=by rw[hy];have:=trimS_le s2;show (trimS s2).length≤_;omega
 obtain⟨r,hr⟩:∃ r,r=decide (x=y):=⟨_,rfl⟩
 have HR:=Hi hr;rw[←hr]
 clear hr;obtain⟨a1,c1,rfl,-⟩:=h.form
 obtain⟨a2,c2,rfl,-⟩:=hu.form
 obtain⟨z,hz⟩:∃ z,z=w.heap.size:=⟨_,rfl⟩
 have HZ:=Hi hz;have F0:Fz w ((w.alloc (.cells #[.bool b1,.slice a1 s1.length c1] 54)).alloc (.cells #[.bool b2,.slice a2 s2.length c2] 54)):=((Fr.refl w).alloc _).alloc _;have BA:=(Blk.new w 54 #[.bool b1,.slice a1 s1.length c1]).alloc (.cells #[.bool b2,.slice a2 s2.length c2] 54);have BB:=Blk.new (w.alloc (.cells #[.bool b1,.slice a1 s1.length c1] 54)) 54 #[.bool b2,.slice a2 s2.length c2];rw[World.size_alloc,←hz]at BB
 rw[←hz]at BA
 have HM1:=Hi (fun W (F:Fz ((w.alloc (.cells #[.bool b1,.slice a1 s1.length c1] 54)).alloc (.cells #[.bool b2,.slice a2 s2.length c2] 54)) W)=>r03Made_as b1 _ s1 x hx W ((h.old F0).old F) h1);have HM2:=Hi (fun W (F:Fz ((w.alloc (.cells #[.bool b1,.slice a1 s1.length c1] 54)).alloc (.cells #[.bool b2,.slice a2 s2.length c2] 54)) W)=>r03Made_as b2 _ s2 y hy W ((hu.old F0).old F) h2);have HS0:=Hi (show ((w.alloc (.cells #[.bool b1,.slice a1 s1.length c1] 54)).alloc (.cells #[.bool b2,.slice a2 s2.length c2] 54)).heap.size=z+2 from by rw[World.size_alloc,World.size_alloc,hz]);have HF0:=Hi F0
 clear h hu hz F0 hx hy;go_enter Tryz.func46,Tryz.ntmps46
 go_upto_region 1 with fail
 rw[←HZ.out]
 generalize ((w.alloc (.cells #[.bool b1,.slice a1 s1.length c1] 54)).alloc (.cells #[.bool b2,.slice a2 s2.length c2] 54))=w0 at *
 replace BA:=BA.drew;replace BB:=BB.drew;have G:Fz w0 w0.drew:=(Fr.refl w0).drew;refine wp_region_2 4 5 (C1:=fun w'=>∀ j,w'.cell? ⟨z,j,none⟩=(#[.bool b1,.slice a1 s1.length c1]:Array Value)[j]?) (C2:=fun w'=>∀ j,w'.cell? ⟨z+1,j,none⟩=(#[.bool b2,.slice a2 s2.length c2]:Array Value)[j]?) (by kernel_rfl) (BA.cell) (BB.cell) (fun hTwo=>?_);refine wpAny2_takeA (i:=0) (oi:=_) (v:=?_) rfl (by kernel_rfl) (by kernel_rfl) (by kernel_rfl) (by kernel_rfl) (by decide) (by kernel_rfl) (fun _ _ _ h=>h) (Or.inl ⟨by rfl,?_⟩) (by assumption) (fun hT2=>?_);rotate_left
 ·(intro W hSw;(try dsimp only at hSw);go_simp;try with_reducible rfl)
 replace hTwo:=hT2;clear hT2;(try simp only[Act.put,SS]);refine wpAny2_takeB (i:=2) (oi:=_) (v:=?_) rfl (by kernel_rfl) (by kernel_rfl) (by kernel_rfl) (by kernel_rfl) (by decide) (by kernel_rfl) (fun _ _ _ h=>h) (Or.inl ⟨by rfl,?_⟩) (by assumption) (fun hT2=>?_);rotate_left
 ·(intro W hSw;(try dsimp only at hSw);go_simp;try with_reducible rfl)
 replace hTwo:=hT2;clear hT2;(try simp only[Act.put,SS]);refine wpAny2_ready (rs:=[1]) (by kernel_rfl) (by simp) ?_;refine All2.cons (o:=_) rfl (fun KK hKK=>?_) All2.nil;go_simp
 (go_at_call 78;(with_reducible refine(HM1.out _ G).mono ?_);rintro e w' ⟨⟨p1,q1,rfl,hk1⟩,F⟩;have hsz:=G.size;replace BA:=BA.fr F (fun h=>h);replace BB:=BB.fr F (fun h=>h);replace G:=G.trans F;clear F HM1;go_wp2_with fail)
 refine hKK.out _ _ ?_ (fun hT2=>?_)
 ·exact⟨fun _=>BA.cell,fun _=>BB.cell⟩
 clear hKK KK;replace hTwo:=hT2;clear hT2;(try simp only[Act.put,SS]);refine wpAny2_ready (rs:=[3]) (by kernel_rfl) (by simp) ?_;refine All2.cons (o:=_) rfl (fun KK hKK=>?_) All2.nil;go_simp
 (go_at_call 78;(with_reducible refine(HM2.out _ G).mono ?_);rintro e w' ⟨⟨p2,q2,rfl,hk2⟩,F⟩;have hsz2:=G.size;replace BA:=BA.fr F (fun h=>h);replace BB:=BB.fr F (fun h=>h);replace hk1:=hk1.old F;replace G:=G.trans F;clear F HM2;go_wp2_with fail)
 refine hKK.out _ _ ?_ (fun hT2=>?_)
 ·exact⟨fun _=>BA.cell,fun _=>BB.cell⟩
 clear hKK KK;replace hTwo:=hT2;clear hT2;(try simp only[Act.put,SS]);have X1:=set2 BA (.bool x.below) (.slice p1 x.size.length q1);have Y0:=BB.fr X1.2 (by omega);have Y1:=set2 Y0 (.bool y.below) (.slice p2 y.size.length q2);have X2:=X1.1.fr Y1.2 (by omega);have d0:=BA.cell 0;have d1:=BA.cell 1;have f0:=BA.frozen 0;have f1:=BA.frozen 1;have e0:=Y0.cell 0;have e1:=Y0.cell 1;have g0:=Y0.frozen 0;have g1:=Y0.frozen 1;simp only[SG]at d0 d1 e0 e1
 refine wpAny2_ready (rs:=[4]) (by kernel_rfl) (by simp) ?_;refine All2.cons (o:=_) rfl (fun KK hKK=>?_) All2.nil;go_simp
 skip
 refine hKK.out _ _ ?_ (fun hT2=>?_)
 ·exact⟨(fun h=>absurd (h.symm.trans (by kernel_rfl:_=true)) (by decide)),fun _=>Y0.cell⟩
 clear hKK KK;replace hTwo:=hT2;clear hT2;(try simp only[Act.put,SS]);refine wpAny2_ready (rs:=[5]) (by kernel_rfl) (by simp) ?_;refine All2.cons (o:=_) rfl (fun KK hKK=>?_) All2.nil;go_simp
 skip
 refine hKK.out _ _ ?_ (fun hT2=>?_)
 ·exact⟨(fun h=>absurd (h.symm.trans (by kernel_rfl:_=true)) (by decide)),(fun h=>absurd (h.symm.trans (by kernel_rfl:_=true)) (by decide))⟩
 clear hKK KK;replace hTwo:=hT2;clear hT2;(try simp only[Act.put,SS]);refine wpAny2_done (by kernel_rfl) ?_ _;have hsd:w0.drew.heap.size=w0.heap.size:=rfl;obtain⟨w3,hw3⟩:∃ w3,w3=((((w'.setCell ⟨z,0,none⟩ (.bool x.below)).setCell ⟨z,1,none⟩ (.slice p1 x.size.length q1)).setCell ⟨z+1,0,none⟩ (.bool y.below)).setCell ⟨z+1,1,none⟩ (.slice p2 y.size.length q2)):=⟨_,rfl⟩
 have F3:Fr (fun k=>k=z∨k=z+1) w' w3:=by rw[hw3];exact(X1.2.mono (fun k _ e=>.inl e)).trans (Y1.2.mono (fun k _ e=>.inr e))
 have hb1:=hk1 w3 (F3.mono (fun k _ e=>by have:=HS0.out;omega));have hb2:=hk2 w3 (F3.mono (fun k _ e=>by have:=HS0.out;omega));have HF3:=Hi ((HF0.out.trans G).trans' F3 (fun i hi e=>by have:=HZ.out;omega));rw[←hw3]at X2
 have Y3:=Y1.1;rw[←hw3]at Y3
 rw[←hw3]
 have hs1:=str_of hb1;have hs2:=str_of hb2;clear d0 d1 f0 f1 e0 e1 g0 g1 hTwo X1 Y0 Y1 hk1 hk2 hb1 hb2 F3 hw3 BA BB G hsz hsz2;try clear hTwo
 have d0:=X2.cell 0;have d1:=X2.cell 1;have e0:=Y3.cell 0;have e1:=Y3.cell 1;simp only[SG]at d0 d1 e0 e1
 obtain⟨p,hp⟩:∃ p,p=x.below:=⟨_,rfl⟩
 obtain⟨q,hq⟩:∃ q,q=y.below:=⟨_,rfl⟩
 have hxy:x=y↔p=q∧x.size=y.size:=by
  rw[hp,hq]
  constructor
  ·intro h;rw[h];exact⟨rfl,rfl⟩
  ·intro h;cases x;cases y;simp only at h;rw[h.1,h.2]
 rw[←hp]at d0
 rw[←hq]at e0
 clear hp hq X2 Y3 hxl hyl;by_cases hpq:p=q
 ·have k1:(p==q)=true:=beq_iff_eq.2 hpq
  have k1':decide (p=q)=true:=decide_eq_true hpq;by_cases hss:x.size=y.size
  ·have k2:(x.size==y.size)=true:=beq_iff_eq.2 hss
   have hr:r=true:=by rw[HR.out];exact decide_eq_true (hxy.2 ⟨hpq,hss⟩)
   subst hr;clear hxy hpq hss;go_wp2_with fail
   go_ret;exact⟨rfl,HF3.out⟩
  ·have k2:(x.size==y.size)=false:=beq_eq_false_iff_ne.2 hss
   have hr:r=false:=by rw[HR.out];exact decide_eq_false (fun h=>hss (hxy.1 h).2)
   subst hr;clear hxy hpq;go_wp2_with fail
   go_ret;exact⟨rfl,HF3.out⟩
 ·have k1:(p==q)=false:=beq_eq_false_iff_ne.2 hpq
  have k1':decide (p=q)=false:=decide_eq_false hpq;have hr:r=false:=by rw[HR.out];exact decide_eq_false (fun h=>hpq (hxy.1 h).1)
  subst hr;clear hxy;go_wp2_with fail
  go_ret;exact⟨rfl,HF3.out⟩
theorem likeRows_any (va vb:Value)(L M:List RowP)(w:World)(ha:Refs w va L)(hb:Refs w vb M)(hfL:∀ r∈L,r.num.size.length≤1000000)(hfM:∀ r∈M,r.num.size.length≤1000000)(hl:L.length≤1000000) :
  Calls Tryz.prog 14 #[va,vb,.bool false] w fun e w'=>e=.returned (.bool (likeRows L M))∧Fz w w':=by
 have HA:=Hi ha;have HB:=Hi hb;have HFL:=Hi hfL;have HFM:=Hi hfM;obtain⟨aa,ca,rfl,-⟩:=ha
 obtain⟨ab,cb,rfl,-⟩:=hb
 obtain⟨r,hr⟩:∃ r,likeRows L M=r:=⟨_,rfl⟩
 rw[hr]
 have HR:=Hi hr;clear hfL hfM hr;by_cases hlen:L.length=M.length
 ·have k1:((L.length:Int)==(M.length:Int))=true:=by rw[hlen];simp
  have k2:((L.length:Int) != (M.length:Int))=false:=by rw[hlen];simp
  have HLE:=Hi hlen;clear hlen;go_enter Tryz.func14,Tryz.ntmps14
  go_wp2_with fail
  go_loopg [7] L.length (fun g i wr=>∃ j:Nat,g=L.length-j∧j≤L.length∧i=.int .i64 j∧Hid (likeRows (L.drop j) (M.drop j)=r)∧Hid (Fz w wr))
  case atStart=>exact⟨0,rfl,Nat.zero_le _,rfl,HR,Hi (Fr.refl _)⟩
  case round=>
   obtain⟨j,hg,hj,rfl,HS,HF⟩:=hrel
   have HG:=Hi hg;clear hg k1 k2;by_cases hjl:j<L.length
   ·obtain⟨x,hx⟩:∃ x,L[j]? = some x:=⟨_,List.getElem?_eq_getElem hjl⟩
    obtain⟨y,hy⟩:∃ y,M[j]? = some y:=⟨_,List.getElem?_eq_getElem (by have:=HLE.out;omega)⟩
    have hd1:=drop_at hx;have hd2:=drop_at hy;have hs:=HS.out;rw[hd1,hd2]at hs
    unfold likeRows at hs;have HSS:=Hi hs;have HLR:=Hi (likeRow_parts x y);obtain⟨b,o,cs,rfl,-,-,hRx,hcx⟩:=LAt.get HA.out hx
    obtain⟨a1,c1,b1,d1,rfl,hn1,hb1⟩:=hRx.form
    obtain⟨p,q,ds,rfl,-,-,hRy,hcy⟩:=LAt.get HB.out hy
    obtain⟨a2,c2,b2,d2,rfl,hn2,hb2⟩:=hRy.form
    have HSX:=Hi (fun W (F:Fz wr W)=>show (W.cell? ⟨b,o+j*7,none⟩=some (.slice a1 x.iss.length c1)∧W.cell? ⟨b,o+j*7+1,none⟩=some (.bool x.num.below)∧W.cell? ⟨b,o+j*7+2,none⟩=some (.slice b1 x.num.size.length d1)∧W.cell? ⟨b,o+j*7+3,none⟩=some (.int .i64 x.date)∧W.cell? ⟨b,o+j*7+4,none⟩=some (.int .i64 x.reason)∧W.cell? ⟨b,o+j*7+5,none⟩=some (.bool x.inv.isSome)∧W.cell? ⟨b,o+j*7+6,none⟩=some (.int .i64 (x.inv.getD 0)))∧W.cell? ⟨p,q+j*7,none⟩=some (.slice a2 y.iss.length c2)∧W.cell? ⟨p,q+j*7+1,none⟩=some (.bool y.num.below)∧W.cell? ⟨p,q+j*7+2,none⟩=some (.slice b2 y.num.size.length d2)∧W.cell? ⟨p,q+j*7+3,none⟩=some (.int .i64 y.date)∧W.cell? ⟨p,q+j*7+4,none⟩=some (.int .i64 y.reason)∧W.cell? ⟨p,q+j*7+5,none⟩=some (.bool y.inv.isSome)∧W.cell? ⟨p,q+j*7+6,none⟩=some (.int .i64 (y.inv.getD 0)) from ⟨⟨by have:=(HF.out.trans F).cell (hcx 0 _ rfl) (fun h=>h);rwa[Nat.add_zero]at this,(HF.out.trans F).cell (hcx 1 _ rfl) (fun h=>h),(HF.out.trans F).cell (hcx 2 _ rfl) (fun h=>h),(HF.out.trans F).cell (hcx 3 _ rfl) (fun h=>h),(HF.out.trans F).cell (hcx 4 _ rfl) (fun h=>h),(HF.out.trans F).cell (hcx 5 _ rfl) (fun h=>h),(HF.out.trans F).cell (hcx 6 _ rfl) (fun h=>h)⟩,by have:=(HF.out.trans F).cell (hcy 0 _ rfl) (fun h=>h);rwa[Nat.add_zero]at this,(HF.out.trans F).cell (hcy 1 _ rfl) (fun h=>h),(HF.out.trans F).cell (hcy 2 _ rfl) (fun h=>h),(HF.out.trans F).cell (hcy 3 _ rfl) (fun h=>h),(HF.out.trans F).cell (hcy 4 _ rfl) (fun h=>h),(HF.out.trans F).cell (hcy 5 _ rfl) (fun h=>h),(HF.out.trans F).cell (hcy 6 _ rfl) (fun h=>h)⟩)
    have HN1:=Hi (hn1.old HF.out);have HN2:=Hi (hn2.old HF.out);have HB3:=Hi (hb1.old HF.out);have HB4:=Hi (hb2.old HF.out);have hsx:=HFL.out x (List.mem_of_getElem? hx);have hsy:=HFM.out y (List.mem_of_getElem? hy);have HZX:=Hi hsx;have HZY:=Hi hsy;have p1:(0:Int)≤(j:Int):=by omega
    have p2:(j:Int)<(L.length:Int):=by omega
    have p3:(j:Int)<(M.length:Int):=by have:=HLE.out;omega
    have p4:j<M.length:=by have:=HLE.out;omega
    clear hx hy hd1 hd2 hs hRx hRy hcx hcy hn1 hn2 hb1 hb2 hsx hsy;go_upto_region 6 with fail
    go_cut [8,9] from 15 to 83 (fun s8 s9 wc=>∃ y1 y2,s8=pt y1∧s9=pt y2∧Blk wc y1 56 #[.slice a1 x.iss.length c1,.bool x.num.below,.slice b1 x.num.size.length d1,.int .i64 x.date,.int .i64 x.reason,.bool x.inv.isSome,.int .i64 (x.inv.getD 0)]∧Blk wc y2 56 #[.slice a2 y.iss.length c2,.bool y.num.below,.slice b2 y.num.size.length d2,.int .i64 y.date,.int .i64 y.reason,.bool y.inv.isSome,.int .i64 (y.inv.getD 0)]∧Fz wr wc)
    case first=>
     have G:Fz wr wr.drew:=(Fr.refl wr).drew
     refine wp_region_N 12 (S:=fun w'=>(w'.cell? ⟨b,o+j*7,none⟩=some (.slice a1 x.iss.length c1)∧w'.cell? ⟨b,o+j*7+1,none⟩=some (.bool x.num.below)∧w'.cell? ⟨b,o+j*7+2,none⟩=some (.slice b1 x.num.size.length d1)∧w'.cell? ⟨b,o+j*7+3,none⟩=some (.int .i64 x.date)∧w'.cell? ⟨b,o+j*7+4,none⟩=some (.int .i64 x.reason)∧w'.cell? ⟨b,o+j*7+5,none⟩=some (.bool x.inv.isSome)∧w'.cell? ⟨b,o+j*7+6,none⟩=some (.int .i64 (x.inv.getD 0)))∧w'.cell? ⟨p,q+j*7,none⟩=some (.slice a2 y.iss.length c2)∧w'.cell? ⟨p,q+j*7+1,none⟩=some (.bool y.num.below)∧w'.cell? ⟨p,q+j*7+2,none⟩=some (.slice b2 y.num.size.length d2)∧w'.cell? ⟨p,q+j*7+3,none⟩=some (.int .i64 y.date)∧w'.cell? ⟨p,q+j*7+4,none⟩=some (.int .i64 y.reason)∧w'.cell? ⟨p,q+j*7+5,none⟩=some (.bool y.inv.isSome)∧w'.cell? ⟨p,q+j*7+6,none⟩=some (.int .i64 (y.inv.getD 0))) (by kernel_rfl) ?_ (fun hHeld=>?_)
     ·exact HSX.out _ G
     generalize wr.drew=wd at *
     refine tkN 0 rfl hHeld ?_;refine tkN 1 rfl hHeld ?_;refine tkN 2 rfl hHeld ?_;(try simp only[Act.put,SS]);refine tkN 3 rfl hHeld ?_;refine tkN 4 rfl hHeld ?_;refine tkN 5 rfl hHeld ?_;(try simp only[Act.put,SS]);refine tkN 6 rfl hHeld ?_;refine tkN 7 rfl hHeld ?_;(try simp only[Act.put,SS]);refine wpAnyN_two (i:=8) (k:=9) (by kernel_rfl) (o:=_) rfl (p:=_) rfl (fun KK hKK=>?_) (fun KK hKK=>?_)
     ·go_simp
      refine hKK.out _ _ ?_ (fun hHeld=>?_)
      ·exact HSX.out _ (G.alloc (.cells #[.slice none 0 0,.bool false,.slice none 0 0,.int .i64 0,.int .i64 0,.bool false,.int .i64 0] 56))
      clear hKK KK;(try simp only[Act.put,SK,SS]);obtain⟨y1,hy1⟩:∃ y,y=wd.heap.size:=⟨_,rfl⟩
      have B1:=Blk.new wd 56 #[.slice none 0 0,.bool false,.slice none 0 0,.int .i64 0,.int .i64 0,.bool false,.int .i64 0];rw[←hy1]at B1 ⊢
      have L1:wr.heap.size≤y1:=by rw[hy1];exact G.size
      replace G:=G.alloc (.cells #[.slice none 0 0,.bool false,.slice none 0 0,.int .i64 0,.int .i64 0,.bool false,.int .i64 0] 56);generalize (wd.alloc (.cells #[.slice none 0 0,.bool false,.slice none 0 0,.int .i64 0,.int .i64 0,.bool false,.int .i64 0] 56))=w21 at *
      clear hy1;refine stN 9 (fun KK hKK=>?_);go_simp
      refine hKK.out _ _ ?_ (fun hHeld=>?_)
      ·exact HSX.out _ (G.alloc (.cells #[.slice none 0 0,.bool false,.slice none 0 0,.int .i64 0,.int .i64 0,.bool false,.int .i64 0] 56))
      clear hKK KK;(try simp only[Act.put,SK,SS]);obtain⟨y2,hy2⟩:∃ y,y=w21.heap.size:=⟨_,rfl⟩
      have B2:=Blk.new w21 56 #[.slice none 0 0,.bool false,.slice none 0 0,.int .i64 0,.int .i64 0,.bool false,.int .i64 0];rw[←hy2]at B2 ⊢
      have L2:wr.heap.size≤y2:=by rw[hy2];exact G.size
      have N12:y1≠y2:=by have:=B1.lt;omega
      replace B1:=B1.alloc (.cells #[.slice none 0 0,.bool false,.slice none 0 0,.int .i64 0,.int .i64 0,.bool false,.int .i64 0] 56);replace G:=G.alloc (.cells #[.slice none 0 0,.bool false,.slice none 0 0,.int .i64 0,.int .i64 0,.bool false,.int .i64 0] 56);generalize (w21.alloc (.cells #[.slice none 0 0,.bool false,.slice none 0 0,.int .i64 0,.int .i64 0,.bool false,.int .i64 0] 56))=w22 at *
      clear hy2;refine stN 10 (fun KK hKK=>?_);have z0:=B1.cell 0;have f0:=B1.frozen 0;have z1:=B1.cell 1;have f1:=B1.frozen 1;have z2:=B1.cell 2;have f2:=B1.frozen 2;have z3:=B1.cell 3;have f3:=B1.frozen 3;have z4:=B1.cell 4;have f4:=B1.frozen 4;have z5:=B1.cell 5;have f5:=B1.frozen 5;have z6:=B1.cell 6;have f6:=B1.frozen 6;simp only[SG]at z0 z1 z2 z3 z4 z5 z6
      have HE:=putL_all (Z:=[.slice none 0 0,.bool false,.slice none 0 0,.int .i64 0,.int .i64 0,.bool false,.int .i64 0]) B1 (l:=[.slice a1 x.iss.length c1,.bool x.num.below,.slice b1 x.num.size.length d1,.int .i64 x.date,.int .i64 x.reason,.bool x.inv.isSome,.int .i64 (x.inv.getD 0)]) rfl;simp only[putL]at HE
      have G3:=G.trans' HE.2 (fun i hi e=>by have e2:i=y1:=e;omega);go_simp
      refine hKK.out _ _ ?_ (fun hHeld=>?_)
      ·exact HSX.out _ G3
      clear hKK KK z0 z1 z2 z3 z4 z5 z6 f0 f1 f2 f3 f4 f5 f6;(try simp only[Act.put,SK,SS]);replace G:=G3;clear G3;replace B2:=B2.fr HE.2 (by omega);replace B1:=HE.1;clear HE;generalize (((((((w22.setCell ⟨y1,0,none⟩ (.slice a1 x.iss.length c1)).setCell ⟨y1,1,none⟩ (.bool x.num.below)).setCell ⟨y1,2,none⟩ (.slice b1 x.num.size.length d1)).setCell ⟨y1,3,none⟩ (.int .i64 x.date)).setCell ⟨y1,4,none⟩ (.int .i64 x.reason)).setCell ⟨y1,5,none⟩ (.bool x.inv.isSome)).setCell ⟨y1,6,none⟩ (.int .i64 (x.inv.getD 0)))=w23 at *
      refine stN 11 (fun KK hKK=>?_);have z0:=B2.cell 0;have f0:=B2.frozen 0;have z1:=B2.cell 1;have f1:=B2.frozen 1;have z2:=B2.cell 2;have f2:=B2.frozen 2;have z3:=B2.cell 3;have f3:=B2.frozen 3;have z4:=B2.cell 4;have f4:=B2.frozen 4;have z5:=B2.cell 5;have f5:=B2.frozen 5;have z6:=B2.cell 6;have f6:=B2.frozen 6;simp only[SG]at z0 z1 z2 z3 z4 z5 z6
      have HE:=putL_all (Z:=[.slice none 0 0,.bool false,.slice none 0 0,.int .i64 0,.int .i64 0,.bool false,.int .i64 0]) B2 (l:=[.slice a2 y.iss.length c2,.bool y.num.below,.slice b2 y.num.size.length d2,.int .i64 y.date,.int .i64 y.reason,.bool y.inv.isSome,.int .i64 (y.inv.getD 0)]) rfl;simp only[putL]at HE
      have G3:=G.trans' HE.2 (fun i hi e=>by have e2:i=y2:=e;omega);go_simp
      refine hKK.out _ _ ?_ (fun hHeld=>?_)
      ·exact HSX.out _ G3
      clear hKK KK z0 z1 z2 z3 z4 z5 z6 f0 f1 f2 f3 f4 f5 f6;(try simp only[Act.put,SK,SS]);replace G:=G3;clear G3;replace B1:=B1.fr HE.2 (by omega);replace B2:=HE.1;clear HE;generalize (((((((w23.setCell ⟨y2,0,none⟩ (.slice a2 y.iss.length c2)).setCell ⟨y2,1,none⟩ (.bool y.num.below)).setCell ⟨y2,2,none⟩ (.slice b2 y.num.size.length d2)).setCell ⟨y2,3,none⟩ (.int .i64 y.date)).setCell ⟨y2,4,none⟩ (.int .i64 y.reason)).setCell ⟨y2,5,none⟩ (.bool y.inv.isSome)).setCell ⟨y2,6,none⟩ (.int .i64 (y.inv.getD 0)))=w24 at *
      refine wpAnyN_done (by kernel_rfl) ?_ _;clear hHeld;go_wp2_with fail
      go_meet
      exact⟨y1,y2,rfl,rfl,B1,B2,G⟩
     ·go_simp
      refine hKK.out _ _ ?_ (fun hHeld=>?_)
      ·exact HSX.out _ (G.alloc (.cells #[.slice none 0 0,.bool false,.slice none 0 0,.int .i64 0,.int .i64 0,.bool false,.int .i64 0] 56))
      clear hKK KK;(try simp only[Act.put,SK,SS]);obtain⟨y2,hy2⟩:∃ y,y=wd.heap.size:=⟨_,rfl⟩
      have B2:=Blk.new wd 56 #[.slice none 0 0,.bool false,.slice none 0 0,.int .i64 0,.int .i64 0,.bool false,.int .i64 0];rw[←hy2]at B2 ⊢
      have L2:wr.heap.size≤y2:=by rw[hy2];exact G.size
      replace G:=G.alloc (.cells #[.slice none 0 0,.bool false,.slice none 0 0,.int .i64 0,.int .i64 0,.bool false,.int .i64 0] 56);generalize (wd.alloc (.cells #[.slice none 0 0,.bool false,.slice none 0 0,.int .i64 0,.int .i64 0,.bool false,.int .i64 0] 56))=w25 at *
      clear hy2;refine stN 8 (fun KK hKK=>?_);go_simp
      refine hKK.out _ _ ?_ (fun hHeld=>?_)
      ·exact HSX.out _ (G.alloc (.cells #[.slice none 0 0,.bool false,.slice none 0 0,.int .i64 0,.int .i64 0,.bool false,.int .i64 0] 56))
      clear hKK KK;(try simp only[Act.put,SK,SS]);obtain⟨y1,hy1⟩:∃ y,y=w25.heap.size:=⟨_,rfl⟩
      have B1:=Blk.new w25 56 #[.slice none 0 0,.bool false,.slice none 0 0,.int .i64 0,.int .i64 0,.bool false,.int .i64 0];rw[←hy1]at B1 ⊢
      have L1:wr.heap.size≤y1:=by rw[hy1];exact G.size
      have N12:y1≠y2:=by have:=B2.lt;omega
      replace B2:=B2.alloc (.cells #[.slice none 0 0,.bool false,.slice none 0 0,.int .i64 0,.int .i64 0,.bool false,.int .i64 0] 56);replace G:=G.alloc (.cells #[.slice none 0 0,.bool false,.slice none 0 0,.int .i64 0,.int .i64 0,.bool false,.int .i64 0] 56);generalize (w25.alloc (.cells #[.slice none 0 0,.bool false,.slice none 0 0,.int .i64 0,.int .i64 0,.bool false,.int .i64 0] 56))=w26 at *
      clear hy1;refine stN 10 (fun KK hKK=>?_);have z0:=B1.cell 0;have f0:=B1.frozen 0;have z1:=B1.cell 1;have f1:=B1.frozen 1;have z2:=B1.cell 2;have f2:=B1.frozen 2;have z3:=B1.cell 3;have f3:=B1.frozen 3;have z4:=B1.cell 4;have f4:=B1.frozen 4;have z5:=B1.cell 5;have f5:=B1.frozen 5;have z6:=B1.cell 6;have f6:=B1.frozen 6;simp only[SG]at z0 z1 z2 z3 z4 z5 z6
      have HE:=putL_all (Z:=[.slice none 0 0,.bool false,.slice none 0 0,.int .i64 0,.int .i64 0,.bool false,.int .i64 0]) B1 (l:=[.slice a1 x.iss.length c1,.bool x.num.below,.slice b1 x.num.size.length d1,.int .i64 x.date,.int .i64 x.reason,.bool x.inv.isSome,.int .i64 (x.inv.getD 0)]) rfl;simp only[putL]at HE
      have G3:=G.trans' HE.2 (fun i hi e=>by have e2:i=y1:=e;omega);go_simp
      refine hKK.out _ _ ?_ (fun hHeld=>?_)
      ·exact HSX.out _ G3
      clear hKK KK z0 z1 z2 z3 z4 z5 z6 f0 f1 f2 f3 f4 f5 f6;(try simp only[Act.put,SK,SS]);replace G:=G3;clear G3;replace B2:=B2.fr HE.2 (by omega);replace B1:=HE.1;clear HE;generalize (((((((w26.setCell ⟨y1,0,none⟩ (.slice a1 x.iss.length c1)).setCell ⟨y1,1,none⟩ (.bool x.num.below)).setCell ⟨y1,2,none⟩ (.slice b1 x.num.size.length d1)).setCell ⟨y1,3,none⟩ (.int .i64 x.date)).setCell ⟨y1,4,none⟩ (.int .i64 x.reason)).setCell ⟨y1,5,none⟩ (.bool x.inv.isSome)).setCell ⟨y1,6,none⟩ (.int .i64 (x.inv.getD 0)))=w27 at *
      refine stN 11 (fun KK hKK=>?_);have z0:=B2.cell 0;have f0:=B2.frozen 0;have z1:=B2.cell 1;have f1:=B2.frozen 1;have z2:=B2.cell 2;have f2:=B2.frozen 2;have z3:=B2.cell 3;have f3:=B2.frozen 3;have z4:=B2.cell 4;have f4:=B2.frozen 4;have z5:=B2.cell 5;have f5:=B2.frozen 5;have z6:=B2.cell 6;have f6:=B2.frozen 6;simp only[SG]at z0 z1 z2 z3 z4 z5 z6
      have HE:=putL_all (Z:=[.slice none 0 0,.bool false,.slice none 0 0,.int .i64 0,.int .i64 0,.bool false,.int .i64 0]) B2 (l:=[.slice a2 y.iss.length c2,.bool y.num.below,.slice b2 y.num.size.length d2,.int .i64 y.date,.int .i64 y.reason,.bool y.inv.isSome,.int .i64 (y.inv.getD 0)]) rfl;simp only[putL]at HE
      have G3:=G.trans' HE.2 (fun i hi e=>by have e2:i=y2:=e;omega);go_simp
      refine hKK.out _ _ ?_ (fun hHeld=>?_)
      ·exact HSX.out _ G3
      clear hKK KK z0 z1 z2 z3 z4 z5 z6 f0 f1 f2 f3 f4 f5 f6;(try simp only[Act.put,SK,SS]);replace G:=G3;clear G3;replace B1:=B1.fr HE.2 (by omega);replace B2:=HE.1;clear HE;generalize (((((((w27.setCell ⟨y2,0,none⟩ (.slice a2 y.iss.length c2)).setCell ⟨y2,1,none⟩ (.bool y.num.below)).setCell ⟨y2,2,none⟩ (.slice b2 y.num.size.length d2)).setCell ⟨y2,3,none⟩ (.int .i64 y.date)).setCell ⟨y2,4,none⟩ (.int .i64 y.reason)).setCell ⟨y2,5,none⟩ (.bool y.inv.isSome)).setCell ⟨y2,6,none⟩ (.int .i64 (y.inv.getD 0)))=w28 at *
      refine wpAnyN_done (by kernel_rfl) ?_ _;clear hHeld;go_wp2_with fail
      go_meet
      exact⟨y1,y2,rfl,rfl,B1,B2,G⟩
    case rest=>
     obtain⟨y1,y2,rfl,rfl,B1,B2,F6⟩:=hcut
     have HB1:=Hi B1;have HB2:=Hi B2;have HF6:=Hi F6;have HSA:=Hi (fun W (F:Fz wc W)=>r03Same_any x.num.below y.num.below _ _ x.num.size y.num.size W (HB3.out.old (HF6.out.trans F)) (HB4.out.old (HF6.out.trans F)) HZX.out HZY.out);clear B1 B2 F6;have n1:=HB1.out.cell 1;have n2:=HB1.out.cell 2;have o1:=HB2.out.cell 1;have o2:=HB2.out.cell 2;simp only[SG]at n1 n2 o1 o2
     obtain⟨ns,hns⟩:∃ ns,ns=decide (madeS ⟨x.num.below,x.num.size⟩=madeS ⟨y.num.below,y.num.size⟩):=⟨_,rfl⟩
     rw[←hns]at HSA
     have HNS:=Hi (show ns=decide (madeS x.num=madeS y.num) from hns);clear hns;cases ns with
     |false=>
      have hr:r=false:=by rw[←HSS.out,HLR.out,←HNS.out];rfl
      subst hr;go_wp2_with fail
      refine(HSA.out _ (Fr.refl wc)).mono ?_
      rintro e w8 ⟨rfl,F8⟩;have HF9:=Hi (HF.out.trans (HF6.out.trans F8));clear n1 n2 o1 o2 F8;go_wp2_with fail
      go_ret;exact⟨rfl,HF9.out⟩
     |true=>
      have ens:madeS x.num=madeS y.num:=by have:=HNS.out;simpa using this.symm
      go_wp2_with fail
      refine(HSA.out _ (Fr.refl wc)).mono ?_
      rintro e w8 ⟨rfl,F8⟩;have HF8:=Hi (HF6.out.trans F8);have n0:=(HB1.out.fr F8 (fun h=>h)).cell 0;have n3:=(HB1.out.fr F8 (fun h=>h)).cell 3;have n4:=(HB1.out.fr F8 (fun h=>h)).cell 4;have n5:=(HB1.out.fr F8 (fun h=>h)).cell 5;have n6:=(HB1.out.fr F8 (fun h=>h)).cell 6;have o0:=(HB2.out.fr F8 (fun h=>h)).cell 0;have o3:=(HB2.out.fr F8 (fun h=>h)).cell 3;have o4:=(HB2.out.fr F8 (fun h=>h)).cell 4;have o5:=(HB2.out.fr F8 (fun h=>h)).cell 5;have o6:=(HB2.out.fr F8 (fun h=>h)).cell 6;simp only[SG]at n0 n3 n4 n5 n6 o0 o3 o4 o5 o6
      clear n1 n2 o1 o2;obtain⟨t1,ht1⟩:∃ t,t=x.date:=⟨_,rfl⟩
      obtain⟨t2,ht2⟩:∃ t,t=y.date:=⟨_,rfl⟩
      obtain⟨r1,hr1⟩:∃ t,t=x.reason:=⟨_,rfl⟩
      obtain⟨r2,hr2⟩:∃ t,t=y.reason:=⟨_,rfl⟩
      obtain⟨s1,hs1⟩:∃ t,t=x.inv.isSome:=⟨_,rfl⟩
      obtain⟨s2,hs2⟩:∃ t,t=y.inv.isSome:=⟨_,rfl⟩
      obtain⟨i1,hi1⟩:∃ t,t=x.inv.getD 0:=⟨_,rfl⟩
      obtain⟨i2,hi2⟩:∃ t,t=y.inv.getD 0:=⟨_,rfl⟩
      rw[←ht1]at n3
      rw[←ht2]at o3
      rw[←hr1]at n4
      rw[←hr2]at o4
      rw[←hs1]at n5
      rw[←hs2]at o5
      rw[←hi1]at n6
      rw[←hi2]at o6
      rw[←ht1,←ht2,←hr1,←hr2,←hs1,←hs2,←hi1,←hi2]at HLR
      clear ht1 ht2 hr1 hr2 hs1 hs2 hi1 hi2 HB1 HB2;by_cases e0:t1=t2
      ·have k0:(t1==t2)=true:=beq_iff_eq.2 e0
       have l0:(t1 != t2)=false:=by rw[bne,k0];rfl
       by_cases e1:r1=r2
       ·have k1:(r1==r2)=true:=beq_iff_eq.2 e1
        have l1:(r1 != r2)=false:=by rw[bne,k1];rfl
        by_cases e2:s1=s2
        ·have k2:(s1==s2)=true:=beq_iff_eq.2 e2
         have l2:(s1 != s2)=false:=by rw[bne,k2];rfl
         by_cases e3:i1=i2
         ·have k3:(i1==i2)=true:=beq_iff_eq.2 e3
          have l3:(i1 != i2)=false:=by rw[bne,k3];rfl
          have HK:=Hi (r14Like_any _ _ x.iss y.iss w8 (HN1.out.old (HF8.out)) (HN2.out.old (HF8.out)));clear HSA;go_wp2_with fail
          refine HK.out.mono ?_;rintro e w9 ⟨rfl,F9⟩;have HF9:=Hi (HF.out.trans (HF8.out.trans F9));clear n0 n3 n4 n5 n6 o0 o3 o4 o5 o6 F9 F8;by_cases hii:x.iss=y.iss
          ·rw[decide_eq_true hii]
           have HS3:=Hi (show likeRows (L.drop (j+1)) (M.drop (j+1))=r from by rw[←HSS.out,HLR.out];simp[ens,e0,e1,e2,e3,hii]);clear hii e0 e1 e2 e3 ens;go_wp2_with fail
           go_roundg (L.length-(j+1))
           case measure=>rw[HG.out];omega
           case rel=>exact⟨j+1,rfl,by omega,by go_num,HS3,HF9⟩
          ·rw[decide_eq_false hii]
           have hr:r=false:=by rw[←HSS.out,HLR.out];simp[hii]
           subst hr;go_wp2_with fail
           go_ret;exact⟨rfl,HF9.out⟩
         ·have k3:(i1==i2)=false:=beq_eq_false_iff_ne.2 e3
          have l3:(i1 != i2)=true:=by rw[bne,k3];rfl
          have hr:r=false:=by rw[←HSS.out,HLR.out];simp[e3]
          subst hr;have HF9:=Hi (HF.out.trans HF8.out);go_wp2_with fail
          go_ret;exact⟨rfl,HF9.out⟩
        ·have k2:(s1==s2)=false:=beq_eq_false_iff_ne.2 e2
         have l2:(s1 != s2)=true:=by rw[bne,k2];rfl
         have hr:r=false:=by rw[←HSS.out,HLR.out];simp[e2]
         subst hr;have HF9:=Hi (HF.out.trans HF8.out);go_wp2_with fail
         go_ret;exact⟨rfl,HF9.out⟩
       ·have k1:(r1==r2)=false:=beq_eq_false_iff_ne.2 e1
        have l1:(r1 != r2)=true:=by rw[bne,k1];rfl
        have hr:r=false:=by rw[←HSS.out,HLR.out];simp[e1]
        subst hr;have HF9:=Hi (HF.out.trans HF8.out);go_wp2_with fail
        go_ret;exact⟨rfl,HF9.out⟩
      ·have k0:(t1==t2)=false:=beq_eq_false_iff_ne.2 e0
       have l0:(t1 != t2)=true:=by rw[bne,k0];rfl
       have hr:r=false:=by rw[←HSS.out,HLR.out];simp[e0]
       subst hr;have HF9:=Hi (HF.out.trans HF8.out);go_wp2_with fail
       go_ret;exact⟨rfl,HF9.out⟩
   ·have p2:¬(j:Int)<(L.length:Int):=by omega
    have hr:r=true:=by
     have:=HS.out;rw[List.drop_eq_nil_of_le (by omega),List.drop_eq_nil_of_le (by have:=HLE.out;omega)]at this
     exact this.symm
    subst hr;go_wp2_with fail
    go_ret;exact⟨rfl,HF.out⟩
 ·have k1:((L.length:Int)==(M.length:Int))=false:=beq_eq_false_iff_ne.2 (by omega)
  have k2:((L.length:Int) != (M.length:Int))=true:=by rw[bne,k1];rfl
  have hr:r=false:=by
   rw[←HR.out]
   exact likeRows_len hlen
  subst hr;go_enter Tryz.func14,Tryz.ntmps14
  go_wp2_with fail
  go_ret;exact⟨rfl,Fr.refl _⟩
end Go.Proofs.YtehlipgmkinfbaaGreatDoor
