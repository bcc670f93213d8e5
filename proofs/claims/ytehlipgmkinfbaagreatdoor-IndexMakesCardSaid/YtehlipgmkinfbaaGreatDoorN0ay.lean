/-
  Merged by program: XR22W XIxBkP XIxLe XIxAtW XHeldF XR03E XR21L.
-/
import Derived.Test.YtehlipgmkinfbaaGreatDoorN0ax
set_option linter.unusedSimpArgs false
set_option maxRecDepth 100000
set_option maxHeartbeats 8000000
namespace Go.Q
def Ixed (o:List RowP):Prop:=UpR o∧(∀ r∈o,nrow r=r)∧∀ r∈o,fitR r
theorem nrow_all {l:List RowP}(h:∀ r∈l,nrow r=r):l.map nrow=l:=by
 conv=>rhs;rw[←List.map_id l]
 exact List.map_congr_left h
theorem ixed_nil:Ixed []:=⟨List.Pairwise.nil,fun _ hr=>absurd hr List.not_mem_nil,fun _ hr=>absurd hr List.not_mem_nil⟩
theorem ins_len {α κ:Type}[DecidableEq κ]{lt:κ→κ→Bool}{key:α→κ}:∀ {l:List α}{r:α}{o:List α},insS lt key l r=some o→o.length=l.length+1
 | [],r,o,h=>by
  simp only[insS,Option.some.injEq]at h
  rw[←h];rfl
 |x::t,r,o,h=>by
  unfold insS at h;split at h
  ·cases hq:insS lt key t r with
   |none=>rw[hq]at h;cases h
   |some q=>
    rw[hq]at h
    simp only[Option.map_some,Option.some.injEq]at h
    rw[←h,List.length_cons,List.length_cons,ins_len hq]
  ·split at h
   ·cases h
   ·simp only[Option.some.injEq]at h
    rw[←h];rfl
theorem new_len {α κ:Type}[DecidableEq κ]{lt:κ→κ→Bool}{key:α→κ}:∀ {l out o:List α},newS lt key out l=some o→o.length=out.length+l.length
 | [],out,o,h=>by
  simp only[newS,Option.some.injEq]at h
  rw[←h];rfl
 |r::t,out,o,h=>by
  unfold newS at h;split at h
  ·cases h
  ·rename_i q hq
   have:=new_len h;rw[this,ins_len hq,List.length_cons]
   omega
def left8 (l:List RowI):List RowI:=l.filter (fun r=>decide (r.reason≠8))
open Go Go.RowKit
theorem LAt.one {α:Type}{sz:Nat}{R:World→List Value→α→Prop}{w:World}{b o n c:Nat}{l:List α}(h:LAt sz R w (.slice (some ⟨b,o,none⟩) n c) l){i:Nat}{x:α}(hi:l[i]? = some x):LAt sz R w (.slice (some ⟨b,o+i*sz,none⟩) 1 (c-i)) [x]:=by
 obtain⟨a0,c0,he,h1,h2,h3⟩:=h
 simp only[Value.slice.injEq]at he
 obtain⟨rfl,rfl,rfl⟩:=he
 have hil:=(List.getElem?_eq_some_iff.1 hi).1;obtain⟨b',o',hbo,hy⟩:=h3 (by omega)
 simp only[Option.some.injEq,Addr.mk.injEq,and_true]at hbo
 obtain⟨rfl,rfl⟩:=hbo
 refine⟨_,c-i,rfl,by simp only[List.length_singleton];omega,by omega,fun _=>⟨b,o+i*sz,rfl,fun k y hk=>?_⟩⟩
 have hk0:k=0:=by have:=(List.getElem?_eq_some_iff.1 hk).1;simp at this;omega
 subst hk0;simp only[List.getElem?_cons_zero,Option.some.injEq]at hk
 subst hk;obtain⟨cs,e1,e2,e3⟩:=hy i x hi
 refine⟨cs,e1,fun j u hu=>?_,e3⟩
 have:=e2 j u hu;rwa[Nat.mul_comm sz i]at this
open Go
section
variable {P:Program}{ops:Array Oper}{Q:Exit→Act→World→Prop}{md:Region.Mode}{S:World→Prop}{n:Nat}
theorem wpAnyN_two {i k:Nat}{o p:Oper}{f:Nat}{listed:Array Bool}{a:Act}{w:World}(hr:Region.ready md ops listed=[i,k])(ho:ops[i]? = some o)(hp:ops[k]? = some p)
  (h:∀ K:Act→World→Prop,Shut (∀ a w,S w→(S w→wpAnyN P md ops Q S n f (listed.setIfInBounds i true) a w)→K a w)→if Region.wanted o (yielded ops a.tmps)=true then Oper.wp P o a w K Q else K (a.put o.dst undef) w)
  (h2:∀ K:Act→World→Prop,Shut (∀ a w,S w→(S w→wpAnyN P md ops Q S n f (listed.setIfInBounds k true) a w)→K a w)→if Region.wanted p (yielded ops a.tmps)=true then Oper.wp P p a w K Q else K (a.put p.dst undef) w):wpAnyN P md ops Q S n (f+1) listed a w:=by
 refine⟨fun e=>(by rw[e]at hr;cases hr),fun j hj=>?_⟩
 rw[hr]at hj
 rcases List.mem_cons.1 hj with q|q
 ·subst q
  exact wpOp_step ho (fun K hK=>h K (fun a w hS hW=>hK a w ⟨fun _=>hS,hW hS⟩))
 ·rw[List.mem_singleton]at q
  subst q;exact wpOp_step hp (fun K hK=>h2 K (fun a w hS hW=>hK a w ⟨fun _=>hS,hW hS⟩))
end
theorem likeRow_parts (x y:RowP):likeRow x y=(decide (madeS x.num=madeS y.num)&&(decide (x.date=y.date)&&(decide (x.reason=y.reason)&&(decide (x.inv.isSome=y.inv.isSome)&&(decide (x.inv.getD 0=y.inv.getD 0)&&decide (x.iss=y.iss)))))):=by
 unfold likeRow;cases x.inv<;>cases y.inv<;>simp
theorem likeRows_len:∀ {l m:List RowP},¬l.length=m.length→likeRows l m=false
 | [],[],h=>absurd rfl h
 | [],y::m,_=>rfl
 |x::l,[],_=>rfl
 |x::l,y::m,h=>by
  unfold likeRows;rw[likeRows_len (l:=l) (m:=m) (fun e=>h (by rw[List.length_cons,List.length_cons,e])),Bool.and_false]
end Go.Q
namespace Go.Proofs.YtehlipgmkinfbaaGreatDoor
open Go Go.RowKit Go.Q
def RefNew (w:World)(Q:List Value→RowP→Prop)(l:List RowP)(e:Ending)(w':World):Prop:=
 match newRef l with
 |.ok o=>∃ a c,e=.returned (.tuple #[.slice a o.length c,.int .i64 0])∧GRow 7 (fun _ us x=>Q us x) (fun _=>False) 56 w' w.heap.size (.slice a o.length c) (o)
 |.error k=>e=.returned (.tuple #[.slice none 0 0,.int .i64 k])
theorem r22New_any (Q:List Value→RowP→Prop)(v:Value)(l:List RowP)(w:World)(hQ:∀ us x,Q us x→RRef w us x)(h:LAt 7 (fun _ us x=>Q us x) w v l)(hf:∀ r∈l,fitN r.iss∧r.num.size.length≤1000000)(hl:l.length≤1000) :
  Calls Tryz.prog 11 #[v] w fun e w'=>RefNew w Q l e w'∧Fz w w':=by
 have H:=Hi h;have HFT:=Hi hf;obtain⟨a0,cap0,rfl,-⟩:=h
 clear hf;go_enter Tryz.func11,Tryz.ntmps11
 go_wp2_with fail
 go_loopg [4] l.length (fun g i wr=>∃ j:Nat,g=l.length-j∧j≤l.length∧i=.int .i64 j∧Hid (okRows (l.take j)=true)∧Hid (Fz w wr))
 case atStart=>exact⟨0,rfl,Nat.zero_le _,rfl,Hi rfl,Hi (Fr.refl _)⟩
 case round=>
  obtain⟨j,hg,hj,rfl,HOK,HF⟩:=hrel
  have HG:=Hi hg;clear hg;by_cases hjl:j<l.length
  ·obtain⟨x,hx⟩:∃ x,l[j]? = some x:=⟨_,List.getElem?_eq_getElem hjl⟩
   obtain⟨b,o,cs,rfl,-,-,hR,hcell⟩:=LAt.get H.out hx
   obtain⟨a1,c1,b1,d1,rfl,hn1,hb1⟩:=(hQ _ _ hR).form
   have e0:=HF.out.cell (hcell 0 _ rfl) (fun h=>h);simp only[Nat.add_zero]at e0
   have p1:(j:Int)<(l.length:Int):=by omega
   have p2:(0:Int)≤(j:Int):=by omega
   have hft:=HFT.out x (List.mem_of_getElem? hx);have HK:=Hi (r14Right_any _ x.iss wr (hn1.old HF.out) (fun s hs=>(hft.1.2 s hs).1));have HTO:=Hi (show okRows (l.take (j+1))=(okRows (l.take j)&&nameOk x.iss) by rw[List.take_add_one,hx];simp[okRows]);have HMEM:=Hi (List.mem_of_getElem? hx);clear hx hR hcell hn1 hb1 hft;cases hno:nameOk x.iss with
   |false=>
    have HNO:=Hi (show newRef l=.error 1 from by
     unfold newRef;rw[if_neg]
     intro h;unfold okRows at h;rw[List.all_eq_true]at h
     rw[h x HMEM.out]at hno
     cases hno)
    rw[hno]at HK
    clear hno;go_wp2_with fail
    refine HK.out.mono ?_;rintro e w3 ⟨rfl,F3⟩;go_wp2_with fail
    refine bodyPost_ret (v:=.tuple #[.slice none 0 0,.int .i64 1]) (by simp[results,Tryz.results11,go_sem]) rfl ⟨by unfold RefNew;rw[HNO.out],HF.out.trans F3⟩
   |true=>
    rw[hno]at HK
    have HO2:=Hi (show okRows (l.take (j+1))=true by rw[HTO.out,HOK.out,hno];rfl);clear hno;go_wp2_with fail
    refine HK.out.mono ?_;rintro e w3 ⟨rfl,F3⟩;go_wp2_with fail
    go_roundg (l.length-(j+1))
    case measure=>rw[HG.out];omega
    case rel=>exact⟨j+1,rfl,by omega,by go_num,HO2,Hi (HF.out.trans F3)⟩
  ·have HOA:Hid (okRows l=true):=Hi (by have:=HOK.out;rwa[List.take_of_length_le (by omega)]at this)
   have HFT2:=Hi (show ∀ r∈l,fitR r from fun r hr=>⟨(HFT.out r hr).1,by have:=HOA.out;unfold okRows at this;rw[List.all_eq_true]at this;exact this r hr,(HFT.out r hr).2⟩);have HNE:=Hi (show newRef l=(match newR [] l with|none=>.error 10|some o=>.ok o) from by unfold newRef;rw[if_pos HOA.out];cases newR [] l<;>rfl);have p1:¬(j:Int)<(l.length:Int):=by omega
   go_wp2_with fail
   clear p1 hj hjl HOK HG;go_loopg [5,6] l.length (fun g out i wx=>∃ (j:Nat) (a:Option Addr) (c:Nat) (gs:List RowP),g=l.length-j∧j≤l.length∧out=.slice a gs.length c∧i=.int .i64 j∧gs.length=j∧Hid (newR gs (l.drop j)=newR [] l)∧Hid (∀ y∈gs,y∈l)∧Hid (GRow 7 (fun _ us x=>Q us x) (fun _=>False) 56 wx w.heap.size (.slice a gs.length c) (gs))∧Hid (Fz w wx))
   case atStart=>exact⟨0,none,0,[],rfl,Nat.zero_le _,rfl,rfl,rfl,Hi rfl,Hi (fun y hy=>by cases hy),Hi (GRow.nil _ _ _ _ _ _),HF⟩
   case round=>
    obtain⟨j,a,c,gs,hg,hj,rfl,rfl,hgl,HNR,HMEM,HRW,HF1⟩:=hrel
    have HG:=Hi hg;have HGL:=Hi hgl;clear hg hgl HF;generalize wr=w1 at *
    by_cases hjl:j<l.length
    ·obtain⟨x,hx⟩:∃ x,l[j]? = some x:=⟨_,List.getElem?_eq_getElem hjl⟩
     have HXG:=Hi hx;have HDX:=Hi (drop_at hx);obtain⟨b,o,cs,rfl,-,-,hR,hcell⟩:=LAt.get H.out hx
     obtain⟨a1,c1,b1,d1,rfl,hn1,hb1⟩:=(hQ _ _ hR).form
     have HRX:=Hi hR;have HN1:=Hi hn1;have HB1:=Hi hb1
     have HSL:=Hi (fun W (F:Fz w W)=>show W.cell? ⟨b,o+j*7,none⟩=some (.slice a1 x.iss.length c1)∧W.cell? ⟨b,o+j*7+1,none⟩=some (.bool x.num.below)∧W.cell? ⟨b,o+j*7+2,none⟩=some (.slice b1 x.num.size.length d1)∧W.cell? ⟨b,o+j*7+3,none⟩=some (.int .i64 x.date)∧W.cell? ⟨b,o+j*7+4,none⟩=some (.int .i64 x.reason)∧W.cell? ⟨b,o+j*7+5,none⟩=some (.bool x.inv.isSome)∧W.cell? ⟨b,o+j*7+6,none⟩=some (.int .i64 (x.inv.getD 0)) from ⟨by have:=F.cell (hcell 0 _ rfl) (fun h=>h);rwa[Nat.add_zero]at this,F.cell (hcell 1 _ rfl) (fun h=>h),F.cell (hcell 2 _ rfl) (fun h=>h),F.cell (hcell 3 _ rfl) (fun h=>h),F.cell (hcell 4 _ rfl) (fun h=>h),F.cell (hcell 5 _ rfl) (fun h=>h),F.cell (hcell 6 _ rfl) (fun h=>h)⟩)
     have HFX:=Hi (HFT2.out x (List.mem_of_getElem? hx));have p1:(j:Int)<(l.length:Int):=by omega
     have p2:(0:Int)≤(j:Int):=by omega
     clear hx hR hcell hn1 hb1;go_wp2_with fail
     go_loopg [7] gs.length (fun g u wy=>∃ k:Nat,g=gs.length-k∧k≤gs.length∧u=.int .i64 k∧Hid (InsAt gs x k)∧Hid (Fz w1 wy))
     case atStart=>exact⟨0,rfl,Nat.zero_le _,rfl,Hi InsAt.start,Hi (Fr.refl _)⟩
     case round=>
      obtain⟨k,hg2,hkl,rfl,HIA,HF2⟩:=hrel
      have HG2:=Hi hg2;clear hg2;have p3:(0:Int)≤(k:Int):=by omega
      have hgb:gs.length≤1000:=by have:=HGL.out;omega
      by_cases hkg:k<gs.length
      ·obtain⟨y,hy⟩:∃ y,gs[k]? = some y:=⟨_,List.getElem?_eq_getElem hkg⟩
       have HYG:=Hi hy;have hat:=HRW.out.at (by decide);obtain⟨p,q,us,rfl,-,-,hRy,hcy⟩:=LAt.get hat hy
       have hRy2:RRef w us y:=hQ _ _ hRy;obtain⟨a2,c2,b2,d2,rfl,hn2,hb2⟩:=hRy2.form
       have HSX:=Hi (fun W (F:Fz wr W)=>show (W.cell? ⟨b,o+j*7,none⟩=some (.slice a1 x.iss.length c1)∧W.cell? ⟨b,o+j*7+1,none⟩=some (.bool x.num.below)∧W.cell? ⟨b,o+j*7+2,none⟩=some (.slice b1 x.num.size.length d1)∧W.cell? ⟨b,o+j*7+3,none⟩=some (.int .i64 x.date)∧W.cell? ⟨b,o+j*7+4,none⟩=some (.int .i64 x.reason)∧W.cell? ⟨b,o+j*7+5,none⟩=some (.bool x.inv.isSome)∧W.cell? ⟨b,o+j*7+6,none⟩=some (.int .i64 (x.inv.getD 0)))∧W.cell? ⟨p,q+k*7,none⟩=some (.slice a2 y.iss.length c2)∧W.cell? ⟨p,q+k*7+1,none⟩=some (.bool y.num.below)∧W.cell? ⟨p,q+k*7+2,none⟩=some (.slice b2 y.num.size.length d2)∧W.cell? ⟨p,q+k*7+3,none⟩=some (.int .i64 y.date)∧W.cell? ⟨p,q+k*7+4,none⟩=some (.int .i64 y.reason)∧W.cell? ⟨p,q+k*7+5,none⟩=some (.bool y.inv.isSome)∧W.cell? ⟨p,q+k*7+6,none⟩=some (.int .i64 (y.inv.getD 0)) from ⟨HSL.out W (HF1.out.trans (HF2.out.trans F)),by have:=(HF2.out.trans F).cell (hcy 0 _ rfl) (fun h=>h);rwa[Nat.add_zero]at this,(HF2.out.trans F).cell (hcy 1 _ rfl) (fun h=>h),(HF2.out.trans F).cell (hcy 2 _ rfl) (fun h=>h),(HF2.out.trans F).cell (hcy 3 _ rfl) (fun h=>h),(HF2.out.trans F).cell (hcy 4 _ rfl) (fun h=>h),(HF2.out.trans F).cell (hcy 5 _ rfl) (fun h=>h),(HF2.out.trans F).cell (hcy 6 _ rfl) (fun h=>h)⟩)
       obtain⟨rc,hrc⟩:∃ rc,rc=rowC y x:=⟨_,rfl⟩
       have hfy:=HFT2.out y (HMEM.out y (List.mem_of_getElem? hy));have HAH:=Hi (fun W (F:Fz wr W)=>r22Ahead_any y x a2 b2 a1 b1 c2 d2 c1 d1 y.date y.reason (y.inv.getD 0) x.date x.reason (x.inv.getD 0) y.inv.isSome x.inv.isSome W (hn2.old (HF1.out.trans (HF2.out.trans F))) (hb2.old (HF1.out.trans (HF2.out.trans F))) (HN1.out.old (HF1.out.trans (HF2.out.trans F))) (HB1.out.old (HF1.out.trans (HF2.out.trans F))) hfy HFX.out);rw[←hrc]at HAH
       have HRC:=Hi hrc;have q1:(k:Int)<(gs.length:Int):=by omega
       have q2:decide ((k:Int)<(gs.length:Int))=true:=decide_eq_true q1;clear hy hat hRy hRy2 hcy hn2 hb2 hrc hfy;go_upto_region 11 with fail
       have GD:Fz wr wr.drew:=(Fr.refl wr).drew
       refine wp_region_N 16 (S:=fun w'=>(w'.cell? ⟨b,o+j*7,none⟩=some (.slice a1 x.iss.length c1)∧w'.cell? ⟨b,o+j*7+1,none⟩=some (.bool x.num.below)∧w'.cell? ⟨b,o+j*7+2,none⟩=some (.slice b1 x.num.size.length d1)∧w'.cell? ⟨b,o+j*7+3,none⟩=some (.int .i64 x.date)∧w'.cell? ⟨b,o+j*7+4,none⟩=some (.int .i64 x.reason)∧w'.cell? ⟨b,o+j*7+5,none⟩=some (.bool x.inv.isSome)∧w'.cell? ⟨b,o+j*7+6,none⟩=some (.int .i64 (x.inv.getD 0)))∧w'.cell? ⟨p,q+k*7,none⟩=some (.slice a2 y.iss.length c2)∧w'.cell? ⟨p,q+k*7+1,none⟩=some (.bool y.num.below)∧w'.cell? ⟨p,q+k*7+2,none⟩=some (.slice b2 y.num.size.length d2)∧w'.cell? ⟨p,q+k*7+3,none⟩=some (.int .i64 y.date)∧w'.cell? ⟨p,q+k*7+4,none⟩=some (.int .i64 y.reason)∧w'.cell? ⟨p,q+k*7+5,none⟩=some (.bool y.inv.isSome)∧w'.cell? ⟨p,q+k*7+6,none⟩=some (.int .i64 (y.inv.getD 0))) (by kernel_rfl) ?_ (fun hHeld=>?_)
       ·exact HSX.out _ GD
       refine tkN 0 rfl hHeld ?_;refine tkN 1 rfl hHeld ?_;refine tkN 2 rfl hHeld ?_;(try simp only[Act.put,SS]);refine tkN 3 rfl hHeld ?_;refine tkN 4 rfl hHeld ?_;refine tkG 5 rfl hHeld ?_;(try simp only[Act.put,SK,SS]);refine tkG 6 rfl hHeld ?_;refine tkG 7 rfl hHeld ?_;refine tkG 8 rfl hHeld ?_;(try simp only[Act.put,SK,SS]);refine tkG 9 rfl hHeld ?_;refine tkG 10 rfl hHeld ?_;refine tkG 11 rfl hHeld ?_;(try simp only[Act.put,SK,SS]);refine tkG 12 rfl hHeld ?_;(try simp only[Act.put,SK,SS]);refine stN 13 (fun KK hKK=>?_);go_simp
       (go_at_call 40;(with_reducible refine(HAH.out _ GD).mono ?_);rintro e w8 ⟨rfl,F8⟩;have G8:=(GD).trans F8;clear F8;go_wp2_with fail)
       refine hKK.out _ _ ?_ (fun hHeld=>?_)
       ·exact HSX.out _ G8
       clear hKK KK;(try simp only[Act.put,SS]);refine tkG 14 rfl hHeld ?_;refine tkN 15 rfl hHeld ?_;(try simp only[Act.put,SK,SS]);refine wpAnyN_done (by kernel_rfl) ?_ _;clear hHeld;by_cases hneg:rc<0
       ·have c1':decide (rc<0)=true:=decide_eq_true hneg
        have HI2:=Hi (HIA.out.next HYG.out (by rw[←HRC.out];exact hneg));have HF3:=Hi (HF2.out.trans G8);clear G8 GD;go_wp2_with fail
        go_roundg (gs.length-(k+1))
        case measure=>rw[HG2.out];omega
        case rel=>exact⟨k+1,rfl,by omega,by go_num,HI2,HF3⟩
       ·have c1':decide (rc<0)=false:=decide_eq_false hneg
        go_upto_region 13 with fail
        have G9:=G8.drew
        refine wp_region_N 16 (S:=fun w'=>(w'.cell? ⟨b,o+j*7,none⟩=some (.slice a1 x.iss.length c1)∧w'.cell? ⟨b,o+j*7+1,none⟩=some (.bool x.num.below)∧w'.cell? ⟨b,o+j*7+2,none⟩=some (.slice b1 x.num.size.length d1)∧w'.cell? ⟨b,o+j*7+3,none⟩=some (.int .i64 x.date)∧w'.cell? ⟨b,o+j*7+4,none⟩=some (.int .i64 x.reason)∧w'.cell? ⟨b,o+j*7+5,none⟩=some (.bool x.inv.isSome)∧w'.cell? ⟨b,o+j*7+6,none⟩=some (.int .i64 (x.inv.getD 0)))∧w'.cell? ⟨p,q+k*7,none⟩=some (.slice a2 y.iss.length c2)∧w'.cell? ⟨p,q+k*7+1,none⟩=some (.bool y.num.below)∧w'.cell? ⟨p,q+k*7+2,none⟩=some (.slice b2 y.num.size.length d2)∧w'.cell? ⟨p,q+k*7+3,none⟩=some (.int .i64 y.date)∧w'.cell? ⟨p,q+k*7+4,none⟩=some (.int .i64 y.reason)∧w'.cell? ⟨p,q+k*7+5,none⟩=some (.bool y.inv.isSome)∧w'.cell? ⟨p,q+k*7+6,none⟩=some (.int .i64 (y.inv.getD 0))) (by kernel_rfl) ?_ (fun hHeld=>?_)
        ·exact HSX.out _ G9
        refine tkN 0 rfl hHeld ?_;refine tkN 1 rfl hHeld ?_;refine tkN 2 rfl hHeld ?_;(try simp only[Act.put,SS]);refine tkN 3 rfl hHeld ?_;refine tkN 4 rfl hHeld ?_;refine tkG 5 rfl hHeld ?_;(try simp only[Act.put,SK,SS]);refine tkG 6 rfl hHeld ?_;refine tkG 7 rfl hHeld ?_;refine tkG 8 rfl hHeld ?_;(try simp only[Act.put,SK,SS]);refine tkG 9 rfl hHeld ?_;refine tkG 10 rfl hHeld ?_;refine tkG 11 rfl hHeld ?_;(try simp only[Act.put,SK,SS]);refine tkG 12 rfl hHeld ?_;(try simp only[Act.put,SK,SS]);refine stN 13 (fun KK hKK=>?_);go_simp
        (go_at_call 40;(with_reducible refine(HAH.out _ G9).mono ?_);rintro e w10 ⟨rfl,F10⟩;have G10:=(G9).trans F10;clear F10;go_wp2_with fail)
        refine hKK.out _ _ ?_ (fun hHeld=>?_)
        ·exact HSX.out _ G10
        clear hKK KK;(try simp only[Act.put,SS]);refine tkG 14 rfl hHeld ?_;refine tkN 15 rfl hHeld ?_;(try simp only[Act.put,SK,SS]);refine wpAnyN_done (by kernel_rfl) ?_ _;by_cases h0:rc=0
        ·have c2':(rc==0)=true:=by rw[h0];rfl
         have HNO:=Hi (show newRef l=.error 10 from by
          rw[HNE.out,←HNR.out,HDX.out]
          unfold newR newS;rw[HIA.out.twice HYG.out (by rw[←HRC.out];exact h0)])
         have HF3:=Hi (HF1.out.trans (HF2.out.trans G10));clear hHeld G10 G9 G8 GD;go_wp2_with fail
         refine bodyPost_ret (v:=.tuple #[.slice none 0 0,.int .i64 10]) (by simp[results,Tryz.results11,go_sem]) rfl ⟨by unfold RefNew;rw[HNO.out],HF3.out⟩
        ·have c2':(rc==0)=false:=beq_eq_false_iff_ne.2 h0
         have HIN:=Hi (HIA.out.put HYG.out (by rw[←HRC.out];omega) (by rw[←HRC.out];exact h0));have HFW:=Hi (HF1.out.trans (HF2.out.trans G10));have HRW2:=Hi (HRW.out.old (HF2.out.trans G10));clear hHeld G10 G9 G8 GD HSX HAH;obtain⟨A1,A2,a3,c3,w3,a5,c5,w5,a7,c7,w7,hs1,hs2,run1,run2,run3,F3,row7,F7,hcm,hgc⟩:=put_in Q hQ HFW.out gs (some ⟨p,q,none⟩) c k hkl HRW2.out [(.slice a1 x.iss.length c1),(.bool x.num.below),(.slice b1 x.num.size.length d1),(.int .i64 x.date),(.int .i64 x.reason),(.bool x.inv.isSome),(.int .i64 (x.inv.getD 0))] x HRX.out rfl (by omega)
         have HRUN1:=Hi run1;have HRUN2:=Hi run2;have HRUN3:=Hi run3;have HROW7:=Hi row7;have HF7:=Hi F7;have hln:((gs.take k++[x])++gs.drop k).length=gs.length+1:=by rw[List.length_append,List.length_append,List.length_take,List.length_drop,List.length_singleton];omega
         have HLN:=Hi hln;have HNW:=Hi (show newR ((gs.take k++[x])++gs.drop k) (l.drop (j+1))=newR [] l from by
          rw[←HNR.out,HDX.out]
          unfold newR newS;rw[HIN.out]
          cases l.drop (j+1)<;>rfl)
         have HMEM2:=Hi (show ∀ y∈(gs.take k++[x])++gs.drop k,y∈l from fun y hy=>by
          rcases List.mem_append.1 hy with h|h
          ·rcases List.mem_append.1 h with h|h
           ·exact HMEM.out y (List.mem_of_mem_take h)
           ·rw[List.mem_singleton]at h;rw[h];exact List.mem_of_getElem? HXG.out
          ·exact HMEM.out y (List.mem_of_mem_drop h))
         obtain⟨m0,m1,m2,m3,m4,m5,m6⟩:=HSL.out w3 F3
         clear run1 run2 run3 row7 F7 F3 hln;go_wp2_with (first|(at_builtin;refine wpList_append_run (by rfl) (.tmp 62) (.tmp 65) 22 (by rfl) _ w3 (by exact HRUN1.out) ?_)|(at_builtin;refine wpList_append_run (by rfl) (.tmp 67) (.tmp 72) 22 (by rfl) _ w5 (by exact HRUN2.out) ?_)|(at_builtin;refine wpList_append_run (by rfl) (.tmp 74) (.tmp 77) 22 (by rfl) _ w7 (by exact HRUN3.out) ?_)|fail)
         go_roundg (l.length-(j+1))
         case measure=>rw[HG.out];omega
         case rel=>exact⟨j+1,a7,c7,(gs.take k++[x])++gs.drop k,rfl,by omega,by rw[HLN.out],by go_num,by rw[HLN.out,HGL.out],HNW,HMEM2,Hi (by rw[HLN.out];exact HROW7.out),HF7⟩
      ·have q1:¬(k:Int)<(gs.length:Int):=by omega
       have q2:decide ((k:Int)<(gs.length:Int))=false:=decide_eq_false q1;have HIN:=Hi (HIA.out.last (by omega));have HFD:=Hi (fun n=>(HF1.out.trans HF2.out).drewN (S:=fun _=>False) n);have HRD:=Hi (fun n=>(HRW.out.old HF2.out).old ((Fr.refl wr).drewN (S:=fun _=>False) n));go_upto_region 11 with fail
       go_quiet (fail)
       go_upto_region 13 with fail
       go_quiet (fail)
       generalize hN:(wr.drewN _).drewN _=wz;have HFW:=Hi (show Fz w wz from by rw[←hN];exact(HFD.out _).drewN _);have HRW2:=Hi (show GRow 7 (fun _ us x=>Q us x) (fun _=>False) 56 wz w.heap.size (.slice a gs.length c) (gs) from by rw[←hN];exact(HRD.out _).old ((Fr.refl _).drewN _));clear q1 q2 hN
       obtain⟨A1,A2,a3,c3,w3,a5,c5,w5,a7,c7,w7,hs1,hs2,run1,run2,run3,F3,row7,F7,hcm,hgc⟩:=put_in Q hQ HFW.out gs a c k hkl HRW2.out [(.slice a1 x.iss.length c1),(.bool x.num.below),(.slice b1 x.num.size.length d1),(.int .i64 x.date),(.int .i64 x.reason),(.bool x.inv.isSome),(.int .i64 (x.inv.getD 0))] x HRX.out rfl (by omega)
       have HRUN1:=Hi run1;have HRUN2:=Hi run2;have HRUN3:=Hi run3;have HROW7:=Hi row7;have HF7:=Hi F7;have hln:((gs.take k++[x])++gs.drop k).length=gs.length+1:=by rw[List.length_append,List.length_append,List.length_take,List.length_drop,List.length_singleton];omega
       have HLN:=Hi hln;have HNW:=Hi (show newR ((gs.take k++[x])++gs.drop k) (l.drop (j+1))=newR [] l from by
        rw[←HNR.out,HDX.out]
        unfold newR newS;rw[HIN.out]
        cases l.drop (j+1)<;>rfl)
       have HMEM2:=Hi (show ∀ y∈(gs.take k++[x])++gs.drop k,y∈l from fun y hy=>by
        rcases List.mem_append.1 hy with h|h
        ·rcases List.mem_append.1 h with h|h
         ·exact HMEM.out y (List.mem_of_mem_take h)
         ·rw[List.mem_singleton]at h;rw[h];exact List.mem_of_getElem? HXG.out
        ·exact HMEM.out y (List.mem_of_mem_drop h))
       obtain⟨m0,m1,m2,m3,m4,m5,m6⟩:=HSL.out w3 F3
       clear run1 run2 run3 row7 F7 F3 hln;go_wp2_with (first|(at_builtin;refine wpList_append_run (by rfl) (.tmp 62) (.tmp 65) 22 (by rfl) _ w3 (by exact HRUN1.out) ?_)|(at_builtin;refine wpList_append_run (by rfl) (.tmp 67) (.tmp 72) 22 (by rfl) _ w5 (by exact HRUN2.out) ?_)|(at_builtin;refine wpList_append_run (by rfl) (.tmp 74) (.tmp 77) 22 (by rfl) _ w7 (by exact HRUN3.out) ?_)|fail)
       go_roundg (l.length-(j+1))
       case measure=>rw[HG.out];omega
       case rel=>exact⟨j+1,a7,c7,(gs.take k++[x])++gs.drop k,rfl,by omega,by rw[HLN.out],by go_num,by rw[HLN.out,HGL.out],HNW,HMEM2,Hi (by rw[HLN.out];exact HROW7.out),HF7⟩
    ·have p1:¬(j:Int)<(l.length:Int):=by omega
     have HNO:=Hi (show newRef l=.ok gs from by
      rw[HNE.out,←HNR.out,List.drop_eq_nil_of_le (by omega)]
      rfl)
     go_wp2_with fail
     refine bodyPost_ret (v:=.tuple #[.slice a gs.length c,.int .i64 0]) (by simp[results,Tryz.results11,go_sem]) rfl ⟨?_,HF1.out⟩;unfold RefNew;rw[HNO.out]
     exact⟨a,c,rfl,HRW.out⟩
theorem ixAt_out (v:Value)(X:List RowP)(i:Int)(w:World)(h:IxAt w v X)(hi:i<0∨(X.length:Int)≤i) :
  Calls Tryz.prog 16 #[v,.int .i64 i] w fun e w'=>e=.returned (.tuple #[.agg #[.slice none 0 0,.bool false,.slice none 0 0,.int .i64 0,.int .i64 0,.pointer none],.int .i64 14])∧Fz w w':=by
 have HS:=Hi (fun W (F:Fz w W)=>slots_any v X W (h.old F));obtain⟨z,hz⟩:∃ z,z=w.heap.size:=⟨_,rfl⟩
 have HZ:=Hi hz;have B:=Blk.new w 43 #[.slice none 0 0,.bool false,.slice none 0 0,.int .i64 0,.int .i64 0,.pointer none];rw[←hz]at B
 have F0:Fz w (w.alloc (.cells #[.slice none 0 0,.bool false,.slice none 0 0,.int .i64 0,.int .i64 0,.pointer none] 43)):=(Fr.refl w).alloc _;clear hz h;go_enter Tryz.func16,Tryz.ntmps16
 go_upto_region 1 with fail
 rw[←HZ.out]
 generalize (w.alloc (.cells #[.slice none 0 0,.bool false,.slice none 0 0,.int .i64 0,.int .i64 0,.pointer none] 43))=w0 at *
 go_wp2_with fail
 refine(HS.out w0 F0).mono ?_
 rintro e w1 ⟨⟨a,c,rfl,hsl⟩,F1⟩;by_cases h0:i<0
 ·clear hi
  have B3:=B.fr F1 (fun h=>h);have F3:=F0.trans F1;clear B F0 F1 hsl;have P:=putL_all (Z:=[.slice none 0 0,.bool false,.slice none 0 0,.int .i64 0,.int .i64 0,.pointer none]) B3 (l:=[.slice none 0 0,.bool false,.slice none 0 0,.int .i64 0,.int .i64 0,.pointer none]) rfl;have HPF:=Hi (F3.trans' P.2 (fun i hi e=>by have e2:i=z:=e;have:=HZ.out;omega));have HPB:=Hi P.1;have HP2:=Hi P.2;simp only[putL]at HPF HPB HP2
  clear P F3;have m0:=B3.cell 0;have f0:=B3.frozen 0;have m1:=B3.cell 1;have f1:=B3.frozen 1;have m2:=B3.cell 2;have f2:=B3.frozen 2;have m3:=B3.cell 3;have f3:=B3.frozen 3;have m4:=B3.cell 4;have f4:=B3.frozen 4;have m5:=B3.cell 5;have f5:=B3.frozen 5;simp only[SG]at m0 m1 m2 m3 m4 m5
  clear B3;go_wp2_with fail
  clear m0 m1 m2 m3 m4 m5 f0 f1 f2 f3 f4 f5;have u0:=HPB.out.cell 0;have u1:=HPB.out.cell 1;have u2:=HPB.out.cell 2;have u3:=HPB.out.cell 3;have u4:=HPB.out.cell 4;have u5:=HPB.out.cell 5;simp only[SG]at u0 u1 u2 u3 u4 u5
  exact bodyPost_ret (v:=.tuple #[.agg #[.slice none 0 0,.bool false,.slice none 0 0,.int .i64 0,.int .i64 0,.pointer none],.int .i64 14]) (by simp[results,Tryz.results16,go_sem,u0,u1,u2,u3,u4,u5]) rfl ⟨rfl,HPF.out⟩
 ·have h1:(X.length:Int)≤i:=by rcases hi with h|h<;>omega
  clear hi;have B3:=B.fr F1 (fun h=>h);have F3:=F0.trans F1;clear B F0 F1 hsl;have P:=putL_all (Z:=[.slice none 0 0,.bool false,.slice none 0 0,.int .i64 0,.int .i64 0,.pointer none]) B3 (l:=[.slice none 0 0,.bool false,.slice none 0 0,.int .i64 0,.int .i64 0,.pointer none]) rfl;have HPF:=Hi (F3.trans' P.2 (fun i hi e=>by have e2:i=z:=e;have:=HZ.out;omega));have HPB:=Hi P.1;have HP2:=Hi P.2;simp only[putL]at HPF HPB HP2
  clear P F3;have m0:=B3.cell 0;have f0:=B3.frozen 0;have m1:=B3.cell 1;have f1:=B3.frozen 1;have m2:=B3.cell 2;have f2:=B3.frozen 2;have m3:=B3.cell 3;have f3:=B3.frozen 3;have m4:=B3.cell 4;have f4:=B3.frozen 4;have m5:=B3.cell 5;have f5:=B3.frozen 5;simp only[SG]at m0 m1 m2 m3 m4 m5
  clear B3;go_wp2_with fail
  clear m0 m1 m2 m3 m4 m5 f0 f1 f2 f3 f4 f5;have u0:=HPB.out.cell 0;have u1:=HPB.out.cell 1;have u2:=HPB.out.cell 2;have u3:=HPB.out.cell 3;have u4:=HPB.out.cell 4;have u5:=HPB.out.cell 5;simp only[SG]at u0 u1 u2 u3 u4 u5
  exact bodyPost_ret (v:=.tuple #[.agg #[.slice none 0 0,.bool false,.slice none 0 0,.int .i64 0,.int .i64 0,.pointer none],.int .i64 14]) (by simp[results,Tryz.results16,go_sem,u0,u1,u2,u3,u4,u5]) rfl ⟨rfl,HPF.out⟩
theorem ixAt_in (v:Value)(X:List RowP)(i:Nat)(r:RowP)(w:World)(h:IxAt w v X)(hi:X[i]? = some r)(hf:fitR r) :
  Calls Tryz.prog 16 #[v,.int .i64 (i:Int)] w fun e w'=>(∃ a c b d q,e=.returned (.tuple #[.agg #[.slice a r.iss.length c,.bool (madeS r.num).below,.slice b (madeS r.num).size.length d,.int .i64 r.date,.int .i64 r.reason,.pointer q],.int .i64 0])∧RRow w' [.slice a r.iss.length c,.bool (madeS r.num).below,.slice b (madeS r.num).size.length d,.int .i64 r.date,.int .i64 r.reason,.pointer q] (nrow r))∧Fz w w':=by
 have HS:=Hi (fun W (F:Fz w W)=>slots_any v X W (h.old F));obtain⟨z,hz⟩:∃ z,z=w.heap.size:=⟨_,rfl⟩
 have HZ:=Hi hz;have B:=Blk.new w 43 #[.slice none 0 0,.bool false,.slice none 0 0,.int .i64 0,.int .i64 0,.pointer none];rw[←hz]at B
 have F0:Fz w (w.alloc (.cells #[.slice none 0 0,.bool false,.slice none 0 0,.int .i64 0,.int .i64 0,.pointer none] 43)):=(Fr.refl w).alloc _;have hil:=(List.getElem?_eq_some_iff.1 hi).1;have p1:(i:Int)<(X.length:Int):=by omega
 have p2:(0:Int)≤(i:Int):=by omega
 have p3:¬(i:Int)<0:=by omega
 have p4:¬(X.length:Int)≤(i:Int):=by omega
 obtain⟨x,hx⟩:∃ x,x=madeS r.num:=⟨_,rfl⟩
 have HX:=Hi hx;rw[←hx]
 have HI:=Hi hi;have HFR:=Hi hf;clear hz h hx hi hf;go_enter Tryz.func16,Tryz.ntmps16
 go_upto_region 1 with fail
 rw[←HZ.out]
 generalize (w.alloc (.cells #[.slice none 0 0,.bool false,.slice none 0 0,.int .i64 0,.int .i64 0,.pointer none] 43))=w0 at *
 go_wp2_with fail
 refine(HS.out w0 F0).mono ?_
 rintro e w1 ⟨⟨a,c,rfl,hsl⟩,F1⟩;obtain⟨b,o,cs,rfl,-,hcs,hR,hcell⟩:=LAt.get hsl HI.out
 obtain⟨us,rfl,hrr⟩:=hR
 have HRR:=Hi hrr;obtain⟨a1,c1,b1,d1,q1,rfl,-⟩:=hrr.form
 have e1:=F1.cell (hcell 1 _ rfl) (fun h=>h);have e2:=F1.cell (hcell 2 _ rfl) (fun h=>h);have e3:=F1.cell (hcell 3 _ rfl) (fun h=>h);have e4:=F1.cell (hcell 4 _ rfl) (fun h=>h);have e5:=F1.cell (hcell 5 _ rfl) (fun h=>h);have e6:=F1.cell (hcell 6 _ rfl) (fun h=>h);have HC:=Hi (ixCopied_any _ r w1 (RRow.old _ _ _ _ HRR.out F1) HFR.out.1 HFR.out.2.1 HFR.out.2.2);rw[←HX.out]at HC
 have HB1:=Hi (B.fr F1 (fun h=>h));have HF1:=Hi (F0.trans F1);clear B F0 F1 hsl hcell hcs hrr;go_wp2_with fail
 refine HC.out.mono ?_;rintro e w2 ⟨⟨a2,c2,b2,d2,q2,rfl,hk⟩,F2⟩;have HK:=Hi hk;have hz1:z<w1.heap.size:=HB1.out.lt;have HZ1:=Hi hz1;clear e1 e2 e3 e4 e5 e6 hk HC hz1;have B3:=HB1.out.fr F2 (fun h=>h);have F3:=HF1.out.trans F2;have P:=putL_all (Z:=[.slice none 0 0,.bool false,.slice none 0 0,.int .i64 0,.int .i64 0,.pointer none]) B3 (l:=[.slice a2 r.iss.length c2,.bool x.below,.slice b2 x.size.length d2,.int .i64 r.date,.int .i64 r.reason,.pointer q2]) rfl;have HPF:=Hi (F3.trans' P.2 (fun i hi e=>by have e2:i=z:=e;have:=HZ.out;omega));have HPB:=Hi P.1;have HP2:=Hi P.2
 simp only[putL]at HPF HPB HP2
 clear P F3;have m0:=B3.cell 0;have f0:=B3.frozen 0;have m1:=B3.cell 1;have f1:=B3.frozen 1;have m2:=B3.cell 2;have f2:=B3.frozen 2;have m3:=B3.cell 3;have f3:=B3.frozen 3;have m4:=B3.cell 4;have f4:=B3.frozen 4;have m5:=B3.cell 5;have f5:=B3.frozen 5;simp only[SG]at m0 m1 m2 m3 m4 m5
 clear B3;have HKK:=Hi (HK.out _ (HP2.out.mono (fun k _ e=>by have e2:k=z:=e;have:=HZ1.out;show k<w1.heap.size;omega)));go_wp2_with fail
 clear m0 m1 m2 m3 m4 m5 f0 f1 f2 f3 f4 f5;have u0:=HPB.out.cell 0;have u1:=HPB.out.cell 1;have u2:=HPB.out.cell 2;have u3:=HPB.out.cell 3;have u4:=HPB.out.cell 4;have u5:=HPB.out.cell 5;simp only[SG]at u0 u1 u2 u3 u4 u5
 exact bodyPost_ret (v:=.tuple #[.agg #[.slice a2 r.iss.length c2,.bool x.below,.slice b2 x.size.length d2,.int .i64 r.date,.int .i64 r.reason,.pointer q2],.int .i64 0]) (by simp[results,Tryz.results16,go_sem,u0,u1,u2,u3,u4,u5]) rfl ⟨⟨a2,c2,b2,d2,q2,rfl,HKK.out⟩,HPF.out⟩
theorem r03Same_any (b1 b2:Bool)(v u:Value)(s1 s2:List UInt8)(w:World)(h:Bytes w v s1)(hu:Bytes w u s2)(h1:s1.length≤1000000)(h2:s2.length≤1000000) :
  Calls Tryz.prog 46 #[.agg #[.bool b1,v],.agg #[.bool b2,u]] w fun e w'=>e=.returned (.bool (decide (madeS ⟨b1,s1⟩=madeS ⟨b2,s2⟩)))∧Fz w w':=by
 obtain⟨x,hx⟩:∃ x,x=madeS ⟨b1,s1⟩:=⟨_,rfl⟩
 obtain⟨y,hy⟩:∃ y,y=madeS ⟨b2,s2⟩:=⟨_,rfl⟩
 rw[←hx,←hy]
 have hxl:x.size.length≤1000000:=by rw[hx];have:=trimS_le s1;show (trimS s1).length≤_;omega
 have hyl:y.size.length≤1000000:=by rw[hy];have:=trimS_le s2;show (trimS s2).length≤_;omega
 obtain⟨r,hr⟩:∃ r,r=decide (x=y):=⟨_,rfl⟩
 have HR:=Hi hr;rw[←hr]
 clear hr;obtain⟨a1,c1,rfl,-⟩:=h.form
 obtain⟨a2,c2,rfl,-⟩:=hu.form
 obtain⟨z,hz⟩:∃ z,z=w.heap.size:=⟨_,rfl⟩
 have HZ:=Hi hz;have F0:Fz w ((w.alloc (.cells #[.bool b1,.slice a1 s1.length c1] 54)).alloc (.cells #[.bool b2,.slice a2 s2.length c2] 54)):=((Fr.refl w).alloc _).alloc _;have BA:=(Blk.new w 54 #[.bool b1,.slice a1 s1.length c1]).alloc (.cells #[.bool b2,.slice a2 s2.length c2] 54);have BB:=Blk.new (w.alloc (.cells #[.bool b1,.slice a1 s1.length c1] 54)) 54 #[.bool b2,.slice a2 s2.length c2];rw[World.size_alloc,←hz]at BB
 rw[←hz]at BA
 have HM1:=Hi (fun W (F:Fz ((w.alloc (.cells #[.bool b1,.slice a1 s1.length c1] 54)).alloc (.cells #[.bool b2,.slice a2 s2.length c2] 54)) W)=>r03Made_as b1 _ s1 x hx W ((h.old F0).old F) h1);have HM2:=Hi (fun W (F:Fz ((w.alloc (.cells #[.bool b1,.slice a1 s1.length c1] 54)).alloc (.cells #[.bool b2,.slice a2 s2.length c2] 54)) W)=>r03Made_as b2 _ s2 y hy W ((hu.old F0).old F) h2);have HS0:=Hi (show ((w.alloc (.cells #[.bool b1,.slice a1 s1.length c1] 54)).alloc (.cells #[.bool b2,.slice a2 s2.length c2] 54)).heap.size=z+2 from by rw[World.size_alloc,World.size_alloc,hz]);have HF0:=Hi F0
 clear h hu hz F0 hx hy;go_enter Tryz.func46,Tryz.ntmps46
 go_upto_region 1 with fail
 rw[←HZ.out]
 generalize ((w.alloc (.cells #[.bool b1,.slice a1 s1.length c1] 54)).alloc (.cells #[.bool b2,.slice a2 s2.length c2] 54))=w0 at *
 replace BA:=BA.drew;replace BB:=BB.drew;have G:Fz w0 w0.drew:=(Fr.refl w0).drew;refine wp_region_2 4 5 (C1:=fun w'=>∀ j,w'.cell? ⟨z,j,none⟩=(#[.bool b1,.slice a1 s1.length c1]:Array Value)[j]?) (C2:=fun w'=>∀ j,w'.cell? ⟨z+1,j,none⟩=(#[.bool b2,.slice a2 s2.length c2]:Array Value)[j]?) (by kernel_rfl) (BA.cell) (BB.cell) (fun hTwo=>?_);refine wpAny2_takeA (i:=0) (oi:=_) (v:=?_) rfl (by kernel_rfl) (by kernel_rfl) (by kernel_rfl) (by kernel_rfl) (by decide) (by kernel_rfl) (fun _ _ _ h=>h) (Or.inl ⟨by rfl,?_⟩) (by assumption) (fun hT2=>?_);rotate_left
 ·(intro W hSw;(try dsimp only at hSw);go_simp;try with_reducible rfl)
 replace hTwo:=hT2;clear hT2;(try simp only[Act.put,SS]);refine wpAny2_takeB (i:=2) (oi:=_) (v:=?_) rfl (by kernel_rfl) (by kernel_rfl) (by kernel_rfl) (by kernel_rfl) (by decide) (by kernel_rfl) (fun _ _ _ h=>h) (Or.inl ⟨by rfl,?_⟩) (by assumption) (fun hT2=>?_);rotate_left
 ·(intro W hSw;(try dsimp only at hSw);go_simp;try with_reducible rfl)
 replace hTwo:=hT2;clear hT2;(try simp only[Act.put,SS]);refine wpAny2_ready (rs:=[1]) (by kernel_rfl) (by simp) ?_;refine All2.cons (o:=_) rfl (fun KK hKK=>?_) All2.nil;go_simp
 (go_at_call 78;(with_reducible refine(HM1.out _ G).mono ?_);rintro e w' ⟨⟨p1,q1,rfl,hk1⟩,F⟩;have hsz:=G.size;replace BA:=BA.fr F (fun h=>h);replace BB:=BB.fr F (fun h=>h);replace G:=G.trans F;clear F HM1;go_wp2_with fail)
 refine hKK.out _ _ ?_ (fun hT2=>?_)
 ·exact⟨fun _=>BA.cell,fun _=>BB.cell⟩
 clear hKK KK;replace hTwo:=hT2;clear hT2;(try simp only[Act.put,SS]);refine wpAny2_ready (rs:=[3]) (by kernel_rfl) (by simp) ?_;refine All2.cons (o:=_) rfl (fun KK hKK=>?_) All2.nil;go_simp
 (go_at_call 78;(with_reducible refine(HM2.out _ G).mono ?_);rintro e w' ⟨⟨p2,q2,rfl,hk2⟩,F⟩;have hsz2:=G.size;replace BA:=BA.fr F (fun h=>h);replace BB:=BB.fr F (fun h=>h);replace hk1:=hk1.old F;replace G:=G.trans F;clear F HM2;go_wp2_with fail)
 refine hKK.out _ _ ?_ (fun hT2=>?_)
 ·exact⟨fun _=>BA.cell,fun _=>BB.cell⟩
 clear hKK KK;replace hTwo:=hT2;clear hT2;(try simp only[Act.put,SS]);have X1:=set2 BA (.bool x.below) (.slice p1 x.size.length q1);have Y0:=BB.fr X1.2 (by omega);have Y1:=set2 Y0 (.bool y.below) (.slice p2 y.size.length q2);have X2:=X1.1.fr Y1.2 (by omega);have d0:=BA.cell 0;have d1:=BA.cell 1;have f0:=BA.frozen 0;have f1:=BA.frozen 1;have e0:=Y0.cell 0;have e1:=Y0.cell 1;have g0:=Y0.frozen 0;have g1:=Y0.frozen 1;simp only[SG]at d0 d1 e0 e1
 refine wpAny2_ready (rs:=[4]) (by kernel_rfl) (by simp) ?_;refine All2.cons (o:=_) rfl (fun KK hKK=>?_) All2.nil;go_simp
 skip
 refine hKK.out _ _ ?_ (fun hT2=>?_)
 ·exact⟨(fun h=>absurd (h.symm.trans (by kernel_rfl:_=true)) (by decide)),fun _=>Y0.cell⟩
 clear hKK KK;replace hTwo:=hT2;clear hT2;(try simp only[Act.put,SS]);refine wpAny2_ready (rs:=[5]) (by kernel_rfl) (by simp) ?_;refine All2.cons (o:=_) rfl (fun KK hKK=>?_) All2.nil;go_simp
 skip
 refine hKK.out _ _ ?_ (fun hT2=>?_)
 ·exact⟨(fun h=>absurd (h.symm.trans (by kernel_rfl:_=true)) (by decide)),(fun h=>absurd (h.symm.trans (by kernel_rfl:_=true)) (by decide))⟩
 clear hKK KK;replace hTwo:=hT2;clear hT2;(try simp only[Act.put,SS]);refine wpAny2_done (by kernel_rfl) ?_ _;have hsd:w0.drew.heap.size=w0.heap.size:=rfl;obtain⟨w3,hw3⟩:∃ w3,w3=((((w'.setCell ⟨z,0,none⟩ (.bool x.below)).setCell ⟨z,1,none⟩ (.slice p1 x.size.length q1)).setCell ⟨z+1,0,none⟩ (.bool y.below)).setCell ⟨z+1,1,none⟩ (.slice p2 y.size.length q2)):=⟨_,rfl⟩
 have F3:Fr (fun k=>k=z∨k=z+1) w' w3:=by rw[hw3];exact(X1.2.mono (fun k _ e=>.inl e)).trans (Y1.2.mono (fun k _ e=>.inr e))
 have hb1:=hk1 w3 (F3.mono (fun k _ e=>by have:=HS0.out;omega));have hb2:=hk2 w3 (F3.mono (fun k _ e=>by have:=HS0.out;omega));have HF3:=Hi ((HF0.out.trans G).trans' F3 (fun i hi e=>by have:=HZ.out;omega));rw[←hw3]at X2
 have Y3:=Y1.1;rw[←hw3]at Y3
 rw[←hw3]
 have hs1:=str_of hb1;have hs2:=str_of hb2;clear d0 d1 f0 f1 e0 e1 g0 g1 hTwo X1 Y0 Y1 hk1 hk2 hb1 hb2 F3 hw3 BA BB G hsz hsz2;try clear hTwo
 have d0:=X2.cell 0;have d1:=X2.cell 1;have e0:=Y3.cell 0;have e1:=Y3.cell 1;simp only[SG]at d0 d1 e0 e1
 obtain⟨p,hp⟩:∃ p,p=x.below:=⟨_,rfl⟩
 obtain⟨q,hq⟩:∃ q,q=y.below:=⟨_,rfl⟩
 have hxy:x=y↔p=q∧x.size=y.size:=by
  rw[hp,hq]
  constructor
  ·intro h;rw[h];exact⟨rfl,rfl⟩
  ·intro h;cases x;cases y;simp only at h;rw[h.1,h.2]
 rw[←hp]at d0
 rw[←hq]at e0
 clear hp hq X2 Y3 hxl hyl;by_cases hpq:p=q
 ·have k1:(p==q)=true:=beq_iff_eq.2 hpq
  have k1':decide (p=q)=true:=decide_eq_true hpq;by_cases hss:x.size=y.size
  ·have k2:(x.size==y.size)=true:=beq_iff_eq.2 hss
   have hr:r=true:=by rw[HR.out];exact decide_eq_true (hxy.2 ⟨hpq,hss⟩)
   subst hr;clear hxy hpq hss;go_wp2_with fail
   go_ret;exact⟨rfl,HF3.out⟩
  ·have k2:(x.size==y.size)=false:=beq_eq_false_iff_ne.2 hss
   have hr:r=false:=by rw[HR.out];exact decide_eq_false (fun h=>hss (hxy.1 h).2)
   subst hr;clear hxy hpq;go_wp2_with fail
   go_ret;exact⟨rfl,HF3.out⟩
 ·have k1:(p==q)=false:=beq_eq_false_iff_ne.2 hpq
  have k1':decide (p=q)=false:=decide_eq_false hpq;have hr:r=false:=by rw[HR.out];exact decide_eq_false (fun h=>hpq (hxy.1 h).1)
  subst hr;clear hxy;go_wp2_with fail
  go_ret;exact⟨rfl,HF3.out⟩
theorem likeRows_any (va vb:Value)(L M:List RowP)(w:World)(ha:Refs w va L)(hb:Refs w vb M)(hfL:∀ r∈L,r.num.size.length≤1000000)(hfM:∀ r∈M,r.num.size.length≤1000000)(hl:L.length≤1000000) :
  Calls Tryz.prog 14 #[va,vb,.bool false] w fun e w'=>e=.returned (.bool (likeRows L M))∧Fz w w':=by
 have HA:=Hi ha;have HB:=Hi hb;have HFL:=Hi hfL;have HFM:=Hi hfM;obtain⟨aa,ca,rfl,-⟩:=ha
 obtain⟨ab,cb,rfl,-⟩:=hb
 obtain⟨r,hr⟩:∃ r,likeRows L M=r:=⟨_,rfl⟩
 rw[hr]
 have HR:=Hi hr;clear hfL hfM hr;by_cases hlen:L.length=M.length
 ·have k1:((L.length:Int)==(M.length:Int))=true:=by rw[hlen];simp
  have k2:((L.length:Int) != (M.length:Int))=false:=by rw[hlen];simp
  have HLE:=Hi hlen;clear hlen;go_enter Tryz.func14,Tryz.ntmps14
  go_wp2_with fail
  go_loopg [7] L.length (fun g i wr=>∃ j:Nat,g=L.length-j∧j≤L.length∧i=.int .i64 j∧Hid (likeRows (L.drop j) (M.drop j)=r)∧Hid (Fz w wr))
  case atStart=>exact⟨0,rfl,Nat.zero_le _,rfl,HR,Hi (Fr.refl _)⟩
  case round=>
   obtain⟨j,hg,hj,rfl,HS,HF⟩:=hrel
   have HG:=Hi hg;clear hg k1 k2;by_cases hjl:j<L.length
   ·obtain⟨x,hx⟩:∃ x,L[j]? = some x:=⟨_,List.getElem?_eq_getElem hjl⟩
    obtain⟨y,hy⟩:∃ y,M[j]? = some y:=⟨_,List.getElem?_eq_getElem (by have:=HLE.out;omega)⟩
    have hd1:=drop_at hx;have hd2:=drop_at hy;have hs:=HS.out;rw[hd1,hd2]at hs
    unfold likeRows at hs;have HSS:=Hi hs;have HLR:=Hi (likeRow_parts x y);obtain⟨b,o,cs,rfl,-,-,hRx,hcx⟩:=LAt.get HA.out hx
    obtain⟨a1,c1,b1,d1,rfl,hn1,hb1⟩:=hRx.form
    obtain⟨p,q,ds,rfl,-,-,hRy,hcy⟩:=LAt.get HB.out hy
    obtain⟨a2,c2,b2,d2,rfl,hn2,hb2⟩:=hRy.form
    have HSX:=Hi (fun W (F:Fz wr W)=>show (W.cell? ⟨b,o+j*7,none⟩=some (.slice a1 x.iss.length c1)∧W.cell? ⟨b,o+j*7+1,none⟩=some (.bool x.num.below)∧W.cell? ⟨b,o+j*7+2,none⟩=some (.slice b1 x.num.size.length d1)∧W.cell? ⟨b,o+j*7+3,none⟩=some (.int .i64 x.date)∧W.cell? ⟨b,o+j*7+4,none⟩=some (.int .i64 x.reason)∧W.cell? ⟨b,o+j*7+5,none⟩=some (.bool x.inv.isSome)∧W.cell? ⟨b,o+j*7+6,none⟩=some (.int .i64 (x.inv.getD 0)))∧W.cell? ⟨p,q+j*7,none⟩=some (.slice a2 y.iss.length c2)∧W.cell? ⟨p,q+j*7+1,none⟩=some (.bool y.num.below)∧W.cell? ⟨p,q+j*7+2,none⟩=some (.slice b2 y.num.size.length d2)∧W.cell? ⟨p,q+j*7+3,none⟩=some (.int .i64 y.date)∧W.cell? ⟨p,q+j*7+4,none⟩=some (.int .i64 y.reason)∧W.cell? ⟨p,q+j*7+5,none⟩=some (.bool y.inv.isSome)∧W.cell? ⟨p,q+j*7+6,none⟩=some (.int .i64 (y.inv.getD 0)) from ⟨⟨by have:=(HF.out.trans F).cell (hcx 0 _ rfl) (fun h=>h);rwa[Nat.add_zero]at this,(HF.out.trans F).cell (hcx 1 _ rfl) (fun h=>h),(HF.out.trans F).cell (hcx 2 _ rfl) (fun h=>h),(HF.out.trans F).cell (hcx 3 _ rfl) (fun h=>h),(HF.out.trans F).cell (hcx 4 _ rfl) (fun h=>h),(HF.out.trans F).cell (hcx 5 _ rfl) (fun h=>h),(HF.out.trans F).cell (hcx 6 _ rfl) (fun h=>h)⟩,by have:=(HF.out.trans F).cell (hcy 0 _ rfl) (fun h=>h);rwa[Nat.add_zero]at this,(HF.out.trans F).cell (hcy 1 _ rfl) (fun h=>h),(HF.out.trans F).cell (hcy 2 _ rfl) (fun h=>h),(HF.out.trans F).cell (hcy 3 _ rfl) (fun h=>h),(HF.out.trans F).cell (hcy 4 _ rfl) (fun h=>h),(HF.out.trans F).cell (hcy 5 _ rfl) (fun h=>h),(HF.out.trans F).cell (hcy 6 _ rfl) (fun h=>h)⟩)
    have HN1:=Hi (hn1.old HF.out);have HN2:=Hi (hn2.old HF.out);have HB3:=Hi (hb1.old HF.out);have HB4:=Hi (hb2.old HF.out);have hsx:=HFL.out x (List.mem_of_getElem? hx);have hsy:=HFM.out y (List.mem_of_getElem? hy);have HZX:=Hi hsx;have HZY:=Hi hsy;have p1:(0:Int)≤(j:Int):=by omega
    have p2:(j:Int)<(L.length:Int):=by omega
    have p3:(j:Int)<(M.length:Int):=by have:=HLE.out;omega
    have p4:j<M.length:=by have:=HLE.out;omega
    clear hx hy hd1 hd2 hs hRx hRy hcx hcy hn1 hn2 hb1 hb2 hsx hsy;go_upto_region 6 with fail
    go_cut [8,9] from 15 to 83 (fun s8 s9 wc=>∃ y1 y2,s8=pt y1∧s9=pt y2∧Blk wc y1 56 #[.slice a1 x.iss.length c1,.bool x.num.below,.slice b1 x.num.size.length d1,.int .i64 x.date,.int .i64 x.reason,.bool x.inv.isSome,.int .i64 (x.inv.getD 0)]∧Blk wc y2 56 #[.slice a2 y.iss.length c2,.bool y.num.below,.slice b2 y.num.size.length d2,.int .i64 y.date,.int .i64 y.reason,.bool y.inv.isSome,.int .i64 (y.inv.getD 0)]∧Fz wr wc)
    case first=>
     have G:Fz wr wr.drew:=(Fr.refl wr).drew
     refine wp_region_N 12 (S:=fun w'=>(w'.cell? ⟨b,o+j*7,none⟩=some (.slice a1 x.iss.length c1)∧w'.cell? ⟨b,o+j*7+1,none⟩=some (.bool x.num.below)∧w'.cell? ⟨b,o+j*7+2,none⟩=some (.slice b1 x.num.size.length d1)∧w'.cell? ⟨b,o+j*7+3,none⟩=some (.int .i64 x.date)∧w'.cell? ⟨b,o+j*7+4,none⟩=some (.int .i64 x.reason)∧w'.cell? ⟨b,o+j*7+5,none⟩=some (.bool x.inv.isSome)∧w'.cell? ⟨b,o+j*7+6,none⟩=some (.int .i64 (x.inv.getD 0)))∧w'.cell? ⟨p,q+j*7,none⟩=some (.slice a2 y.iss.length c2)∧w'.cell? ⟨p,q+j*7+1,none⟩=some (.bool y.num.below)∧w'.cell? ⟨p,q+j*7+2,none⟩=some (.slice b2 y.num.size.length d2)∧w'.cell? ⟨p,q+j*7+3,none⟩=some (.int .i64 y.date)∧w'.cell? ⟨p,q+j*7+4,none⟩=some (.int .i64 y.reason)∧w'.cell? ⟨p,q+j*7+5,none⟩=some (.bool y.inv.isSome)∧w'.cell? ⟨p,q+j*7+6,none⟩=some (.int .i64 (y.inv.getD 0))) (by kernel_rfl) ?_ (fun hHeld=>?_)
     ·exact HSX.out _ G
     generalize wr.drew=wd at *
     refine tkN 0 rfl hHeld ?_;refine tkN 1 rfl hHeld ?_;refine tkN 2 rfl hHeld ?_;(try simp only[Act.put,SS]);refine tkN 3 rfl hHeld ?_;refine tkN 4 rfl hHeld ?_;refine tkN 5 rfl hHeld ?_;(try simp only[Act.put,SS]);refine tkN 6 rfl hHeld ?_;refine tkN 7 rfl hHeld ?_;(try simp only[Act.put,SS]);refine wpAnyN_two (i:=8) (k:=9) (by kernel_rfl) (o:=_) rfl (p:=_) rfl (fun KK hKK=>?_) (fun KK hKK=>?_)
     ·go_simp
      refine hKK.out _ _ ?_ (fun hHeld=>?_)
      ·exact HSX.out _ (G.alloc (.cells #[.slice none 0 0,.bool false,.slice none 0 0,.int .i64 0,.int .i64 0,.bool false,.int .i64 0] 56))
      clear hKK KK;(try simp only[Act.put,SK,SS]);obtain⟨y1,hy1⟩:∃ y,y=wd.heap.size:=⟨_,rfl⟩
      have B1:=Blk.new wd 56 #[.slice none 0 0,.bool false,.slice none 0 0,.int .i64 0,.int .i64 0,.bool false,.int .i64 0];rw[←hy1]at B1 ⊢
      have L1:wr.heap.size≤y1:=by rw[hy1];exact G.size
      replace G:=G.alloc (.cells #[.slice none 0 0,.bool false,.slice none 0 0,.int .i64 0,.int .i64 0,.bool false,.int .i64 0] 56);generalize (wd.alloc (.cells #[.slice none 0 0,.bool false,.slice none 0 0,.int .i64 0,.int .i64 0,.bool false,.int .i64 0] 56))=w21 at *
      clear hy1;refine stN 9 (fun KK hKK=>?_);go_simp
      refine hKK.out _ _ ?_ (fun hHeld=>?_)
      ·exact HSX.out _ (G.alloc (.cells #[.slice none 0 0,.bool false,.slice none 0 0,.int .i64 0,.int .i64 0,.bool false,.int .i64 0] 56))
      clear hKK KK;(try simp only[Act.put,SK,SS]);obtain⟨y2,hy2⟩:∃ y,y=w21.heap.size:=⟨_,rfl⟩
      have B2:=Blk.new w21 56 #[.slice none 0 0,.bool false,.slice none 0 0,.int .i64 0,.int .i64 0,.bool false,.int .i64 0];rw[←hy2]at B2 ⊢
      have L2:wr.heap.size≤y2:=by rw[hy2];exact G.size
      have N12:y1≠y2:=by have:=B1.lt;omega
      replace B1:=B1.alloc (.cells #[.slice none 0 0,.bool false,.slice none 0 0,.int .i64 0,.int .i64 0,.bool false,.int .i64 0] 56);replace G:=G.alloc (.cells #[.slice none 0 0,.bool false,.slice none 0 0,.int .i64 0,.int .i64 0,.bool false,.int .i64 0] 56);generalize (w21.alloc (.cells #[.slice none 0 0,.bool false,.slice none 0 0,.int .i64 0,.int .i64 0,.bool false,.int .i64 0] 56))=w22 at *
      clear hy2;refine stN 10 (fun KK hKK=>?_);have z0:=B1.cell 0;have f0:=B1.frozen 0;have z1:=B1.cell 1;have f1:=B1.frozen 1;have z2:=B1.cell 2;have f2:=B1.frozen 2;have z3:=B1.cell 3;have f3:=B1.frozen 3;have z4:=B1.cell 4;have f4:=B1.frozen 4;have z5:=B1.cell 5;have f5:=B1.frozen 5;have z6:=B1.cell 6;have f6:=B1.frozen 6;simp only[SG]at z0 z1 z2 z3 z4 z5 z6
      have HE:=putL_all (Z:=[.slice none 0 0,.bool false,.slice none 0 0,.int .i64 0,.int .i64 0,.bool false,.int .i64 0]) B1 (l:=[.slice a1 x.iss.length c1,.bool x.num.below,.slice b1 x.num.size.length d1,.int .i64 x.date,.int .i64 x.reason,.bool x.inv.isSome,.int .i64 (x.inv.getD 0)]) rfl;simp only[putL]at HE
      have G3:=G.trans' HE.2 (fun i hi e=>by have e2:i=y1:=e;omega);go_simp
      refine hKK.out _ _ ?_ (fun hHeld=>?_)
      ·exact HSX.out _ G3
      clear hKK KK z0 z1 z2 z3 z4 z5 z6 f0 f1 f2 f3 f4 f5 f6;(try simp only[Act.put,SK,SS]);replace G:=G3;clear G3;replace B2:=B2.fr HE.2 (by omega);replace B1:=HE.1;clear HE;generalize (((((((w22.setCell ⟨y1,0,none⟩ (.slice a1 x.iss.length c1)).setCell ⟨y1,1,none⟩ (.bool x.num.below)).setCell ⟨y1,2,none⟩ (.slice b1 x.num.size.length d1)).setCell ⟨y1,3,none⟩ (.int .i64 x.date)).setCell ⟨y1,4,none⟩ (.int .i64 x.reason)).setCell ⟨y1,5,none⟩ (.bool x.inv.isSome)).setCell ⟨y1,6,none⟩ (.int .i64 (x.inv.getD 0)))=w23 at *
      refine stN 11 (fun KK hKK=>?_);have z0:=B2.cell 0;have f0:=B2.frozen 0;have z1:=B2.cell 1;have f1:=B2.frozen 1;have z2:=B2.cell 2;have f2:=B2.frozen 2;have z3:=B2.cell 3;have f3:=B2.frozen 3;have z4:=B2.cell 4;have f4:=B2.frozen 4;have z5:=B2.cell 5;have f5:=B2.frozen 5;have z6:=B2.cell 6;have f6:=B2.frozen 6;simp only[SG]at z0 z1 z2 z3 z4 z5 z6
      have HE:=putL_all (Z:=[.slice none 0 0,.bool false,.slice none 0 0,.int .i64 0,.int .i64 0,.bool false,.int .i64 0]) B2 (l:=[.slice a2 y.iss.length c2,.bool y.num.below,.slice b2 y.num.size.length d2,.int .i64 y.date,.int .i64 y.reason,.bool y.inv.isSome,.int .i64 (y.inv.getD 0)]) rfl;simp only[putL]at HE
      have G3:=G.trans' HE.2 (fun i hi e=>by have e2:i=y2:=e;omega);go_simp
      refine hKK.out _ _ ?_ (fun hHeld=>?_)
      ·exact HSX.out _ G3
      clear hKK KK z0 z1 z2 z3 z4 z5 z6 f0 f1 f2 f3 f4 f5 f6;(try simp only[Act.put,SK,SS]);replace G:=G3;clear G3;replace B1:=B1.fr HE.2 (by omega);replace B2:=HE.1;clear HE;generalize (((((((w23.setCell ⟨y2,0,none⟩ (.slice a2 y.iss.length c2)).setCell ⟨y2,1,none⟩ (.bool y.num.below)).setCell ⟨y2,2,none⟩ (.slice b2 y.num.size.length d2)).setCell ⟨y2,3,none⟩ (.int .i64 y.date)).setCell ⟨y2,4,none⟩ (.int .i64 y.reason)).setCell ⟨y2,5,none⟩ (.bool y.inv.isSome)).setCell ⟨y2,6,none⟩ (.int .i64 (y.inv.getD 0)))=w24 at *
      refine wpAnyN_done (by kernel_rfl) ?_ _;clear hHeld;go_wp2_with fail
      go_meet
      exact⟨y1,y2,rfl,rfl,B1,B2,G⟩
     ·go_simp
      refine hKK.out _ _ ?_ (fun hHeld=>?_)
      ·exact HSX.out _ (G.alloc (.cells #[.slice none 0 0,.bool false,.slice none 0 0,.int .i64 0,.int .i64 0,.bool false,.int .i64 0] 56))
      clear hKK KK;(try simp only[Act.put,SK,SS]);obtain⟨y2,hy2⟩:∃ y,y=wd.heap.size:=⟨_,rfl⟩
      have B2:=Blk.new wd 56 #[.slice none 0 0,.bool false,.slice none 0 0,.int .i64 0,.int .i64 0,.bool false,.int .i64 0];rw[←hy2]at B2 ⊢
      have L2:wr.heap.size≤y2:=by rw[hy2];exact G.size
      replace G:=G.alloc (.cells #[.slice none 0 0,.bool false,.slice none 0 0,.int .i64 0,.int .i64 0,.bool false,.int .i64 0] 56);generalize (wd.alloc (.cells #[.slice none 0 0,.bool false,.slice none 0 0,.int .i64 0,.int .i64 0,.bool false,.int .i64 0] 56))=w25 at *
      clear hy2;refine stN 8 (fun KK hKK=>?_);go_simp
      refine hKK.out _ _ ?_ (fun hHeld=>?_)
      ·exact HSX.out _ (G.alloc (.cells #[.slice none 0 0,.bool false,.slice none 0 0,.int .i64 0,.int .i64 0,.bool false,.int .i64 0] 56))
      clear hKK KK;(try simp only[Act.put,SK,SS]);obtain⟨y1,hy1⟩:∃ y,y=w25.heap.size:=⟨_,rfl⟩
      have B1:=Blk.new w25 56 #[.slice none 0 0,.bool false,.slice none 0 0,.int .i64 0,.int .i64 0,.bool false,.int .i64 0];rw[←hy1]at B1 ⊢
      have L1:wr.heap.size≤y1:=by rw[hy1];exact G.size
      have N12:y1≠y2:=by have:=B2.lt;omega
      replace B2:=B2.alloc (.cells #[.slice none 0 0,.bool false,.slice none 0 0,.int .i64 0,.int .i64 0,.bool false,.int .i64 0] 56);replace G:=G.alloc (.cells #[.slice none 0 0,.bool false,.slice none 0 0,.int .i64 0,.int .i64 0,.bool false,.int .i64 0] 56);generalize (w25.alloc (.cells #[.slice none 0 0,.bool false,.slice none 0 0,.int .i64 0,.int .i64 0,.bool false,.int .i64 0] 56))=w26 at *
      clear hy1;refine stN 10 (fun KK hKK=>?_);have z0:=B1.cell 0;have f0:=B1.frozen 0;have z1:=B1.cell 1;have f1:=B1.frozen 1;have z2:=B1.cell 2;have f2:=B1.frozen 2;have z3:=B1.cell 3;have f3:=B1.frozen 3;have z4:=B1.cell 4;have f4:=B1.frozen 4;have z5:=B1.cell 5;have f5:=B1.frozen 5;have z6:=B1.cell 6;have f6:=B1.frozen 6;simp only[SG]at z0 z1 z2 z3 z4 z5 z6
      have HE:=putL_all (Z:=[.slice none 0 0,.bool false,.slice none 0 0,.int .i64 0,.int .i64 0,.bool false,.int .i64 0]) B1 (l:=[.slice a1 x.iss.length c1,.bool x.num.below,.slice b1 x.num.size.length d1,.int .i64 x.date,.int .i64 x.reason,.bool x.inv.isSome,.int .i64 (x.inv.getD 0)]) rfl;simp only[putL]at HE
      have G3:=G.trans' HE.2 (fun i hi e=>by have e2:i=y1:=e;omega);go_simp
      refine hKK.out _ _ ?_ (fun hHeld=>?_)
      ·exact HSX.out _ G3
      clear hKK KK z0 z1 z2 z3 z4 z5 z6 f0 f1 f2 f3 f4 f5 f6;(try simp only[Act.put,SK,SS]);replace G:=G3;clear G3;replace B2:=B2.fr HE.2 (by omega);replace B1:=HE.1;clear HE;generalize (((((((w26.setCell ⟨y1,0,none⟩ (.slice a1 x.iss.length c1)).setCell ⟨y1,1,none⟩ (.bool x.num.below)).setCell ⟨y1,2,none⟩ (.slice b1 x.num.size.length d1)).setCell ⟨y1,3,none⟩ (.int .i64 x.date)).setCell ⟨y1,4,none⟩ (.int .i64 x.reason)).setCell ⟨y1,5,none⟩ (.bool x.inv.isSome)).setCell ⟨y1,6,none⟩ (.int .i64 (x.inv.getD 0)))=w27 at *
      refine stN 11 (fun KK hKK=>?_);have z0:=B2.cell 0;have f0:=B2.frozen 0;have z1:=B2.cell 1;have f1:=B2.frozen 1;have z2:=B2.cell 2;have f2:=B2.frozen 2;have z3:=B2.cell 3;have f3:=B2.frozen 3;have z4:=B2.cell 4;have f4:=B2.frozen 4;have z5:=B2.cell 5;have f5:=B2.frozen 5;have z6:=B2.cell 6;have f6:=B2.frozen 6;simp only[SG]at z0 z1 z2 z3 z4 z5 z6
      have HE:=putL_all (Z:=[.slice none 0 0,.bool false,.slice none 0 0,.int .i64 0,.int .i64 0,.bool false,.int .i64 0]) B2 (l:=[.slice a2 y.iss.length c2,.bool y.num.below,.slice b2 y.num.size.length d2,.int .i64 y.date,.int .i64 y.reason,.bool y.inv.isSome,.int .i64 (y.inv.getD 0)]) rfl;simp only[putL]at HE
      have G3:=G.trans' HE.2 (fun i hi e=>by have e2:i=y2:=e;omega);go_simp
      refine hKK.out _ _ ?_ (fun hHeld=>?_)
      ·exact HSX.out _ G3
      clear hKK KK z0 z1 z2 z3 z4 z5 z6 f0 f1 f2 f3 f4 f5 f6;(try simp only[Act.put,SK,SS]);replace G:=G3;clear G3;replace B1:=B1.fr HE.2 (by omega);replace B2:=HE.1;clear HE;generalize (((((((w27.setCell ⟨y2,0,none⟩ (.slice a2 y.iss.length c2)).setCell ⟨y2,1,none⟩ (.bool y.num.below)).setCell ⟨y2,2,none⟩ (.slice b2 y.num.size.length d2)).setCell ⟨y2,3,none⟩ (.int .i64 y.date)).setCell ⟨y2,4,none⟩ (.int .i64 y.reason)).setCell ⟨y2,5,none⟩ (.bool y.inv.isSome)).setCell ⟨y2,6,none⟩ (.int .i64 (y.inv.getD 0)))=w28 at *
      refine wpAnyN_done (by kernel_rfl) ?_ _;clear hHeld;go_wp2_with fail
      go_meet
      exact⟨y1,y2,rfl,rfl,B1,B2,G⟩
    case rest=>
     obtain⟨y1,y2,rfl,rfl,B1,B2,F6⟩:=hcut
     have HB1:=Hi B1;have HB2:=Hi B2;have HF6:=Hi F6;have HSA:=Hi (fun W (F:Fz wc W)=>r03Same_any x.num.below y.num.below _ _ x.num.size y.num.size W (HB3.out.old (HF6.out.trans F)) (HB4.out.old (HF6.out.trans F)) HZX.out HZY.out);clear B1 B2 F6;have n1:=HB1.out.cell 1;have n2:=HB1.out.cell 2;have o1:=HB2.out.cell 1;have o2:=HB2.out.cell 2;simp only[SG]at n1 n2 o1 o2
     obtain⟨ns,hns⟩:∃ ns,ns=decide (madeS ⟨x.num.below,x.num.size⟩=madeS ⟨y.num.below,y.num.size⟩):=⟨_,rfl⟩
     rw[←hns]at HSA
     have HNS:=Hi (show ns=decide (madeS x.num=madeS y.num) from hns);clear hns;cases ns with
     |false=>
      have hr:r=false:=by rw[←HSS.out,HLR.out,←HNS.out];rfl
      subst hr;go_wp2_with fail
      refine(HSA.out _ (Fr.refl wc)).mono ?_
      rintro e w8 ⟨rfl,F8⟩;have HF9:=Hi (HF.out.trans (HF6.out.trans F8));clear n1 n2 o1 o2 F8;go_wp2_with fail
      go_ret;exact⟨rfl,HF9.out⟩
     |true=>
      have ens:madeS x.num=madeS y.num:=by have:=HNS.out;simpa using this.symm
      go_wp2_with fail
      refine(HSA.out _ (Fr.refl wc)).mono ?_
      rintro e w8 ⟨rfl,F8⟩;have HF8:=Hi (HF6.out.trans F8);have n0:=(HB1.out.fr F8 (fun h=>h)).cell 0;have n3:=(HB1.out.fr F8 (fun h=>h)).cell 3;have n4:=(HB1.out.fr F8 (fun h=>h)).cell 4;have n5:=(HB1.out.fr F8 (fun h=>h)).cell 5;have n6:=(HB1.out.fr F8 (fun h=>h)).cell 6;have o0:=(HB2.out.fr F8 (fun h=>h)).cell 0;have o3:=(HB2.out.fr F8 (fun h=>h)).cell 3;have o4:=(HB2.out.fr F8 (fun h=>h)).cell 4;have o5:=(HB2.out.fr F8 (fun h=>h)).cell 5;have o6:=(HB2.out.fr F8 (fun h=>h)).cell 6;simp only[SG]at n0 n3 n4 n5 n6 o0 o3 o4 o5 o6
      clear n1 n2 o1 o2;obtain⟨t1,ht1⟩:∃ t,t=x.date:=⟨_,rfl⟩
      obtain⟨t2,ht2⟩:∃ t,t=y.date:=⟨_,rfl⟩
      obtain⟨r1,hr1⟩:∃ t,t=x.reason:=⟨_,rfl⟩
      obtain⟨r2,hr2⟩:∃ t,t=y.reason:=⟨_,rfl⟩
      obtain⟨s1,hs1⟩:∃ t,t=x.inv.isSome:=⟨_,rfl⟩
      obtain⟨s2,hs2⟩:∃ t,t=y.inv.isSome:=⟨_,rfl⟩
      obtain⟨i1,hi1⟩:∃ t,t=x.inv.getD 0:=⟨_,rfl⟩
      obtain⟨i2,hi2⟩:∃ t,t=y.inv.getD 0:=⟨_,rfl⟩
      rw[←ht1]at n3
      rw[←ht2]at o3
      rw[←hr1]at n4
      rw[←hr2]at o4
      rw[←hs1]at n5
      rw[←hs2]at o5
      rw[←hi1]at n6
      rw[←hi2]at o6
      rw[←ht1,←ht2,←hr1,←hr2,←hs1,←hs2,←hi1,←hi2]at HLR
      clear ht1 ht2 hr1 hr2 hs1 hs2 hi1 hi2 HB1 HB2;by_cases e0:t1=t2
      ·have k0:(t1==t2)=true:=beq_iff_eq.2 e0
       have l0:(t1 != t2)=false:=by rw[bne,k0];rfl
       by_cases e1:r1=r2
       ·have k1:(r1==r2)=true:=beq_iff_eq.2 e1
        have l1:(r1 != r2)=false:=by rw[bne,k1];rfl
        by_cases e2:s1=s2
        ·have k2:(s1==s2)=true:=beq_iff_eq.2 e2
         have l2:(s1 != s2)=false:=by rw[bne,k2];rfl
         by_cases e3:i1=i2
         ·have k3:(i1==i2)=true:=beq_iff_eq.2 e3
          have l3:(i1 != i2)=false:=by rw[bne,k3];rfl
          have HK:=Hi (r14Like_any _ _ x.iss y.iss w8 (HN1.out.old (HF8.out)) (HN2.out.old (HF8.out)));clear HSA;go_wp2_with fail
          refine HK.out.mono ?_;rintro e w9 ⟨rfl,F9⟩;have HF9:=Hi (HF.out.trans (HF8.out.trans F9));clear n0 n3 n4 n5 n6 o0 o3 o4 o5 o6 F9 F8;by_cases hii:x.iss=y.iss
          ·rw[decide_eq_true hii]
           have HS3:=Hi (show likeRows (L.drop (j+1)) (M.drop (j+1))=r from by rw[←HSS.out,HLR.out];simp[ens,e0,e1,e2,e3,hii]);clear hii e0 e1 e2 e3 ens;go_wp2_with fail
           go_roundg (L.length-(j+1))
           case measure=>rw[HG.out];omega
           case rel=>exact⟨j+1,rfl,by omega,by go_num,HS3,HF9⟩
          ·rw[decide_eq_false hii]
           have hr:r=false:=by rw[←HSS.out,HLR.out];simp[hii]
           subst hr;go_wp2_with fail
           go_ret;exact⟨rfl,HF9.out⟩
         ·have k3:(i1==i2)=false:=beq_eq_false_iff_ne.2 e3
          have l3:(i1 != i2)=true:=by rw[bne,k3];rfl
          have hr:r=false:=by rw[←HSS.out,HLR.out];simp[e3]
          subst hr;have HF9:=Hi (HF.out.trans HF8.out);go_wp2_with fail
          go_ret;exact⟨rfl,HF9.out⟩
        ·have k2:(s1==s2)=false:=beq_eq_false_iff_ne.2 e2
         have l2:(s1 != s2)=true:=by rw[bne,k2];rfl
         have hr:r=false:=by rw[←HSS.out,HLR.out];simp[e2]
         subst hr;have HF9:=Hi (HF.out.trans HF8.out);go_wp2_with fail
         go_ret;exact⟨rfl,HF9.out⟩
       ·have k1:(r1==r2)=false:=beq_eq_false_iff_ne.2 e1
        have l1:(r1 != r2)=true:=by rw[bne,k1];rfl
        have hr:r=false:=by rw[←HSS.out,HLR.out];simp[e1]
        subst hr;have HF9:=Hi (HF.out.trans HF8.out);go_wp2_with fail
        go_ret;exact⟨rfl,HF9.out⟩
      ·have k0:(t1==t2)=false:=beq_eq_false_iff_ne.2 e0
       have l0:(t1 != t2)=true:=by rw[bne,k0];rfl
       have hr:r=false:=by rw[←HSS.out,HLR.out];simp[e0]
       subst hr;have HF9:=Hi (HF.out.trans HF8.out);go_wp2_with fail
       go_ret;exact⟨rfl,HF9.out⟩
   ·have p2:¬(j:Int)<(L.length:Int):=by omega
    have hr:r=true:=by
     have:=HS.out;rw[List.drop_eq_nil_of_le (by omega),List.drop_eq_nil_of_le (by have:=HLE.out;omega)]at this
     exact this.symm
    subst hr;go_wp2_with fail
    go_ret;exact⟨rfl,HF.out⟩
 ·have k1:((L.length:Int)==(M.length:Int))=false:=beq_eq_false_iff_ne.2 (by omega)
  have k2:((L.length:Int) != (M.length:Int))=true:=by rw[bne,k1];rfl
  have hr:r=false:=by
   rw[←HR.out]
   exact likeRows_len hlen
  subst hr;go_enter Tryz.func14,Tryz.ntmps14
  go_wp2_with fail
  go_ret;exact⟨rfl,Fr.refl _⟩
end Go.Proofs.YtehlipgmkinfbaaGreatDoor
