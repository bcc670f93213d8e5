/-
  Merged by program: XR22W XIxBkP XIxLe.
-/
import Derived.Test.YtehlipgmkinfbaaGreatDoorM0ay
set_option linter.unusedSimpArgs false
set_option maxRecDepth 100000
set_option maxHeartbeats 8000000
namespace Go.Q
def Ixed (o:List RowP):Prop:=UpR o∧(∀ r∈o,nrow r=r)∧∀ r∈o,fitR r
theorem nrow_all {l:List RowP}(h:∀ r∈l,nrow r=r):l.map nrow=l:=by
 conv=>rhs;rw[←List.map_id l]
 exact List.map_congr_left h
theorem ixed_delta {X Y:List RowP}(hx:Ixed X)(hy:Ixed Y):Ixed (deltaS X Y):=by
 refine⟨delta_up hx.1 hy.1,fun r hr=>?_,fun r hr=>?_⟩
 ·rcases (delta_mem hx.1 hy.1 r).1 hr with ⟨h,-⟩|⟨x,hm,-,rfl⟩
  ·exact hy.2.1 r h
  ·show goneR (nrow x)=goneR x
   rw[hx.2.1 x hm]
 ·rcases (delta_mem hx.1 hy.1 r).1 hr with ⟨h,-⟩|⟨x,hm,-,rfl⟩
  ·exact hy.2.2 r h
  ·exact hx.2.2 x hm
theorem ixed_merge {X Y:List RowP}(hx:Ixed X)(hy:Ixed Y):Ixed (mergeS X Y):=by
 refine⟨merge_up hx.1 hy.1,fun r hr=>?_,fun r hr=>?_⟩
 ·rcases (merge_mem hx.1 hy.1 r).1 hr with ⟨h,-⟩|⟨h,-⟩
  ·exact hx.2.1 r h
  ·exact hy.2.1 r h
 ·rcases (merge_mem hx.1 hy.1 r).1 hr with ⟨h,-⟩|⟨h,-⟩
  ·exact hx.2.2 r h
  ·exact hy.2.2 r h
theorem side_most {α κ:Type}[DecidableEq κ](lt:κ→κ→Bool)(key:α→κ):∀ (n:Nat) (l m:List α),l.length+m.length=n→(sideS lt key l m).length≤n:=by
 intro n;induction n using Nat.strongRecOn with
 |ind n ih=>
  intro l m h;match l,m with
  | [],[]=>rw[sideS];exact Nat.zero_le _
  |x::l,[]=>
   rw[sideS]
   have:=ih (l.length) (by simp only[List.length_cons,List.length_nil]at h;omega) l [] (by simp);simp only[List.length_cons,List.length_nil]at h ⊢
   omega
  | [],y::m=>
   rw[sideS]
   have:=ih (m.length) (by simp only[List.length_cons,List.length_nil]at h;omega) [] m (by simp);simp only[List.length_cons,List.length_nil]at h ⊢
   omega
  |x::l,y::m=>
   rw[sideS]
   simp only[List.length_cons]at h
   split
   ·have:=ih (l.length+(m.length+1)) (by omega) l (y::m) (by simp)
    simp only[List.length_cons];omega
   ·split
    ·have:=ih (l.length+m.length) (by omega) l m rfl
     simp only[List.length_cons];omega
    ·have:=ih (l.length+1+m.length) (by omega) (x::l) m (by simp)
     simp only[List.length_cons];omega
theorem merge_len (X Y:List RowP):(mergeS X Y).length≤X.length+Y.length:=Nat.le_trans (List.length_filterMap_le _ _) (side_most ltK rowK _ _ _ rfl)
theorem delta_len (X Y:List RowP):(deltaS X Y).length≤X.length+Y.length:=Nat.le_trans (List.length_filterMap_le _ _) (side_most ltK rowK _ _ _ rfl)
theorem leastL_len:∀ (t l o:List RowP),(leastL t l o).1.length≤l.length+t.length
 | [],l,o=>by simp[leastL]
 |r::t,l,o=>by
  unfold leastL;split
  ·have:=leastL_len t (l++[r]) ((newR [] (o++[r])).getD [])
   simp only[List.length_append,List.length_cons,List.length_nil]at this ⊢
   omega
  ·have:=leastL_len t l o
   simp only[List.length_cons]
   omega
theorem ins_len {α κ:Type}[DecidableEq κ]{lt:κ→κ→Bool}{key:α→κ}:∀ {l:List α}{r:α}{o:List α},insS lt key l r=some o→o.length=l.length+1
 | [],r,o,h=>by
  simp only[insS,Option.some.injEq]at h
  rw[←h];rfl
 |x::t,r,o,h=>by
  unfold insS at h;split at h
  ·cases hq:insS lt key t r with
   |none=>rw[hq]at h;cases h
   |some q=>
    rw[hq]at h
    simp only[Option.map_some,Option.some.injEq]at h
    rw[←h,List.length_cons,List.length_cons,ins_len hq]
  ·split at h
   ·cases h
   ·simp only[Option.some.injEq]at h
    rw[←h];rfl
theorem new_len {α κ:Type}[DecidableEq κ]{lt:κ→κ→Bool}{key:α→κ}:∀ {l out o:List α},newS lt key out l=some o→o.length=out.length+l.length
 | [],out,o,h=>by
  simp only[newS,Option.some.injEq]at h
  rw[←h];rfl
 |r::t,out,o,h=>by
  unfold newS at h;split at h
  ·cases h
  ·rename_i q hq
   have:=new_len h;rw[this,ins_len hq,List.length_cons]
   omega
theorem least_ix (t:List RowP)(hf:∀ r∈t,fitN r.iss∧r.num.size.length≤1000000):newIx (leastL t [] []).1=.ok ((leastL t [] []).2.map nrow)∧UpR (leastL t [] []).2∧(∀ r∈(leastL t [] []).2,fitR r∧r∈t)∧Ixed ((leastL t [] []).2.map nrow)∧(leastL t [] []).2.length≤t.length∧(∀ r∈(leastL t [] []).1,r∈t):=by
 obtain⟨h1,h2,h3⟩:=least_spec t [] [] rfl rfl
 have h4:=leastL_len t [] [];generalize leastL t [] []=p at *
 obtain⟨ls,o⟩:=p
 simp only at *
 have hu:=new_some ordK (List.Pairwise.nil) h2;have hm:∀ r∈o,fitR r∧r∈t:=fun r hr=>by
  rcases (hu.2 r).1 hr with h|h
  ·cases h
  ·have ht:r∈t:=by
    rcases h3 r h with q|q
    ·cases q
    ·exact q
   refine⟨⟨(hf r ht).1,?_,(hf r ht).2⟩,ht⟩
   unfold okRows at h1;rw[List.all_eq_true]at h1
   exact h1 r h
 refine⟨?_,hu.1,hm,⟨up_map hu.1,fun r hr=>?_,fun r hr=>?_⟩,?_,fun r hr=>?_⟩
 ·unfold newIx
  rw[if_pos h1,h2]
 ·obtain⟨x,-,rfl⟩:=List.mem_map.1 hr
  exact nrow_nrow x
 ·obtain⟨x,hx,rfl⟩:=List.mem_map.1 hr
  exact fitR_nrow (hm x hx).1
 ·have hl:=new_len h2
  simp only[List.length_nil,Nat.zero_add]at hl h4
  omega
 ·rcases h3 r hr with q|q
  ·cases q
  ·exact q
def left8 (l:List RowI):List RowI:=l.filter (fun r=>decide (r.reason≠8))
open Go Go.RowKit
theorem GRow.atKept {α:Type}{sz:Nat}{R:World→List Value→α→Prop}{K:Nat→Prop}{t:TypeId}{w:World}{base:Nat}{v:Value}{l:List α}(h:GRow sz R K t w base v l)(hs:0<sz):LAt sz (fun _ us x=>Kept (fun W=>R W us x) K w) w v l:=by
 obtain⟨cs,h1,h2⟩:=h
 exact GRow.at (R:=fun _ us x=>Kept (fun W=>R W us x) K w) (K:=fun _=>False) ⟨cs,h1,fun i x hx=>by
  obtain⟨us,e1,e2,e3⟩:=h2 i x hx
  exact⟨us,e1,e2,fun W _=>e3.weaken (fun k hk=>.inr hk)⟩⟩ hs
theorem LAt.one {α:Type}{sz:Nat}{R:World→List Value→α→Prop}{w:World}{b o n c:Nat}{l:List α}(h:LAt sz R w (.slice (some ⟨b,o,none⟩) n c) l){i:Nat}{x:α}(hi:l[i]? = some x):LAt sz R w (.slice (some ⟨b,o+i*sz,none⟩) 1 (c-i)) [x]:=by
 obtain⟨a0,c0,he,h1,h2,h3⟩:=h
 simp only[Value.slice.injEq]at he
 obtain⟨rfl,rfl,rfl⟩:=he
 have hil:=(List.getElem?_eq_some_iff.1 hi).1;obtain⟨b',o',hbo,hy⟩:=h3 (by omega)
 simp only[Option.some.injEq,Addr.mk.injEq,and_true]at hbo
 obtain⟨rfl,rfl⟩:=hbo
 refine⟨_,c-i,rfl,by simp only[List.length_singleton];omega,by omega,fun _=>⟨b,o+i*sz,rfl,fun k y hk=>?_⟩⟩
 have hk0:k=0:=by have:=(List.getElem?_eq_some_iff.1 hk).1;simp at this;omega
 subst hk0;simp only[List.getElem?_cons_zero,Option.some.injEq]at hk
 subst hk;obtain⟨cs,e1,e2,e3⟩:=hy i x hi
 refine⟨cs,e1,fun j u hu=>?_,e3⟩
 have:=e2 j u hu;rwa[Nat.mul_comm sz i]at this
theorem newRef_more {o:List RowP}{x:RowP}(hu:UpR o)(hf:∀ y∈o,fitR y)(hx:fitR x)(hp:(placeR x o 0).2=false):∃ o',newRef (o++[x])=.ok o'∧(newR [] (o++[x])).getD []=o'∧UpR o'∧(∀ y∈o',fitR y)∧o'.length=o.length+1:=by
 obtain⟨o',h1,h2,h3,h4⟩:=new_more hu hp
 have hok:okRows (o++[x])=true:=by
  unfold okRows;rw[List.all_eq_true]
  intro r hr;rcases List.mem_append.1 hr with h|h
  ·exact(hf r h).2.1
  ·rw[List.mem_singleton]at h;rw[h];exact hx.2.1
 refine⟨o',by unfold newRef;rw[if_pos hok,h1],by rw[h1];rfl,h2,fun y hy=>?_,ins_len h4⟩
 rcases (h3 y).1 hy with h|h
 ·rw[h];exact hx
 ·exact hf y h
end Go.Q
namespace Go.Proofs.YtehlipgmkinfbaaGreatDoor
open Go Go.RowKit Go.Q
def RefNew (w:World)(Q:List Value→RowP→Prop)(l:List RowP)(e:Ending)(w':World):Prop:=
 match newRef l with
 |.ok o=>∃ a c,e=.returned (.tuple #[.slice a o.length c,.int .i64 0])∧GRow 7 (fun _ us x=>Q us x) (fun _=>False) 56 w' w.heap.size (.slice a o.length c) (o)
 |.error k=>e=.returned (.tuple #[.slice none 0 0,.int .i64 k])
theorem r22New_any (Q:List Value→RowP→Prop)(v:Value)(l:List RowP)(w:World)(hQ:∀ us x,Q us x→RRef w us x)(h:LAt 7 (fun _ us x=>Q us x) w v l)(hf:∀ r∈l,fitN r.iss∧r.num.size.length≤1000000)(hl:l.length≤1000) :
  Calls Tryz.prog 11 #[v] w fun e w'=>RefNew w Q l e w'∧Fz w w':=by
 have H:=Hi h;have HFT:=Hi hf;obtain⟨a0,cap0,rfl,-⟩:=h
 clear hf;go_enter Tryz.func11,Tryz.ntmps11
 go_wp2_with fail
 go_loopg [4] l.length (fun g i wr=>∃ j:Nat,g=l.length-j∧j≤l.length∧i=.int .i64 j∧Hid (okRows (l.take j)=true)∧Hid (Fz w wr))
 case atStart=>exact⟨0,rfl,Nat.zero_le _,rfl,Hi rfl,Hi (Fr.refl _)⟩
 case round=>
  obtain⟨j,hg,hj,rfl,HOK,HF⟩:=hrel
  have HG:=Hi hg;clear hg;by_cases hjl:j<l.length
  ·obtain⟨x,hx⟩:∃ x,l[j]? = some x:=⟨_,List.getElem?_eq_getElem hjl⟩
   obtain⟨b,o,cs,rfl,-,-,hR,hcell⟩:=LAt.get H.out hx
   obtain⟨a1,c1,b1,d1,rfl,hn1,hb1⟩:=(hQ _ _ hR).form
   have e0:=HF.out.cell (hcell 0 _ rfl) (fun h=>h);simp only[Nat.add_zero]at e0
   have p1:(j:Int)<(l.length:Int):=by omega
   have p2:(0:Int)≤(j:Int):=by omega
   have hft:=HFT.out x (List.mem_of_getElem? hx);have HK:=Hi (r14Right_any _ x.iss wr (hn1.old HF.out) (fun s hs=>(hft.1.2 s hs).1));have HTO:=Hi (show okRows (l.take (j+1))=(okRows (l.take j)&&nameOk x.iss) by rw[List.take_add_one,hx];simp[okRows]);have HMEM:=Hi (List.mem_of_getElem? hx);clear hx hR hcell hn1 hb1 hft;cases hno:nameOk x.iss with
   |false=>
    have HNO:=Hi (show newRef l=.error 1 from by
     unfold newRef;rw[if_neg]
     intro h;unfold okRows at h;rw[List.all_eq_true]at h
     rw[h x HMEM.out]at hno
     cases hno)
    rw[hno]at HK
    clear hno;go_wp2_with fail
    refine HK.out.mono ?_;rintro e w3 ⟨rfl,F3⟩;go_wp2_with fail
    refine bodyPost_ret (v:=.tuple #[.slice none 0 0,.int .i64 1]) (by simp[results,Tryz.results11,go_sem]) rfl ⟨by unfold RefNew;rw[HNO.out],HF.out.trans F3⟩
   |true=>
    rw[hno]at HK
    have HO2:=Hi (show okRows (l.take (j+1))=true by rw[HTO.out,HOK.out,hno];rfl);clear hno;go_wp2_with fail
    refine HK.out.mono ?_;rintro e w3 ⟨rfl,F3⟩;go_wp2_with fail
    go_roundg (l.length-(j+1))
    case measure=>rw[HG.out];omega
    case rel=>exact⟨j+1,rfl,by omega,by go_num,HO2,Hi (HF.out.trans F3)⟩
  ·have HOA:Hid (okRows l=true):=Hi (by have:=HOK.out;rwa[List.take_of_length_le (by omega)]at this)
   have HFT2:=Hi (show ∀ r∈l,fitR r from fun r hr=>⟨(HFT.out r hr).1,by have:=HOA.out;unfold okRows at this;rw[List.all_eq_true]at this;exact this r hr,(HFT.out r hr).2⟩);have HNE:=Hi (show newRef l=(match newR [] l with|none=>.error 10|some o=>.ok o) from by unfold newRef;rw[if_pos HOA.out];cases newR [] l<;>rfl);have p1:¬(j:Int)<(l.length:Int):=by omega
   go_wp2_with fail
   clear p1 hj hjl HOK HG;go_loopg [5,6] l.length (fun g out i wx=>∃ (j:Nat) (a:Option Addr) (c:Nat) (gs:List RowP),g=l.length-j∧j≤l.length∧out=.slice a gs.length c∧i=.int .i64 j∧gs.length=j∧Hid (newR gs (l.drop j)=newR [] l)∧Hid (∀ y∈gs,y∈l)∧Hid (GRow 7 (fun _ us x=>Q us x) (fun _=>False) 56 wx w.heap.size (.slice a gs.length c) (gs))∧Hid (Fz w wx))
   case atStart=>exact⟨0,none,0,[],rfl,Nat.zero_le _,rfl,rfl,rfl,Hi rfl,Hi (fun y hy=>by cases hy),Hi (GRow.nil _ _ _ _ _ _),HF⟩
   case round=>
    obtain⟨j,a,c,gs,hg,hj,rfl,rfl,hgl,HNR,HMEM,HRW,HF1⟩:=hrel
    have HG:=Hi hg;have HGL:=Hi hgl;clear hg hgl HF;generalize wr=w1 at *
    by_cases hjl:j<l.length
    ·obtain⟨x,hx⟩:∃ x,l[j]? = some x:=⟨_,List.getElem?_eq_getElem hjl⟩
     have HXG:=Hi hx;have HDX:=Hi (drop_at hx);obtain⟨b,o,cs,rfl,-,-,hR,hcell⟩:=LAt.get H.out hx
     obtain⟨a1,c1,b1,d1,rfl,hn1,hb1⟩:=(hQ _ _ hR).form
     have HRX:=Hi hR;have HN1:=Hi hn1;have HB1:=Hi hb1
     have HSL:=Hi (fun W (F:Fz w W)=>show W.cell? ⟨b,o+j*7,none⟩=some (.slice a1 x.iss.length c1)∧W.cell? ⟨b,o+j*7+1,none⟩=some (.bool x.num.below)∧W.cell? ⟨b,o+j*7+2,none⟩=some (.slice b1 x.num.size.length d1)∧W.cell? ⟨b,o+j*7+3,none⟩=some (.int .i64 x.date)∧W.cell? ⟨b,o+j*7+4,none⟩=some (.int .i64 x.reason)∧W.cell? ⟨b,o+j*7+5,none⟩=some (.bool x.inv.isSome)∧W.cell? ⟨b,o+j*7+6,none⟩=some (.int .i64 (x.inv.getD 0)) from ⟨by have:=F.cell (hcell 0 _ rfl) (fun h=>h);rwa[Nat.add_zero]at this,F.cell (hcell 1 _ rfl) (fun h=>h),F.cell (hcell 2 _ rfl) (fun h=>h),F.cell (hcell 3 _ rfl) (fun h=>h),F.cell (hcell 4 _ rfl) (fun h=>h),F.cell (hcell 5 _ rfl) (fun h=>h),F.cell (hcell 6 _ rfl) (fun h=>h)⟩)
     have HFX:=Hi (HFT2.out x (List.mem_of_getElem? hx));have p1:(j:Int)<(l.length:Int):=by omega
     have p2:(0:Int)≤(j:Int):=by omega
     clear hx hR hcell hn1 hb1;go_wp2_with fail
     go_loopg [7] gs.length (fun g u wy=>∃ k:Nat,g=gs.length-k∧k≤gs.length∧u=.int .i64 k∧Hid (InsAt gs x k)∧Hid (Fz w1 wy))
     case atStart=>exact⟨0,rfl,Nat.zero_le _,rfl,Hi InsAt.start,Hi (Fr.refl _)⟩
     case round=>
      obtain⟨k,hg2,hkl,rfl,HIA,HF2⟩:=hrel
      have HG2:=Hi hg2;clear hg2;have p3:(0:Int)≤(k:Int):=by omega
      have hgb:gs.length≤1000:=by have:=HGL.out;omega
      by_cases hkg:k<gs.length
      ·obtain⟨y,hy⟩:∃ y,gs[k]? = some y:=⟨_,List.getElem?_eq_getElem hkg⟩
       have HYG:=Hi hy;have hat:=HRW.out.at (by decide);obtain⟨p,q,us,rfl,-,-,hRy,hcy⟩:=LAt.get hat hy
       have hRy2:RRef w us y:=hQ _ _ hRy;obtain⟨a2,c2,b2,d2,rfl,hn2,hb2⟩:=hRy2.form
       have HSX:=Hi (fun W (F:Fz wr W)=>show (W.cell? ⟨b,o+j*7,none⟩=some (.slice a1 x.iss.length c1)∧W.cell? ⟨b,o+j*7+1,none⟩=some (.bool x.num.below)∧W.cell? ⟨b,o+j*7+2,none⟩=some (.slice b1 x.num.size.length d1)∧W.cell? ⟨b,o+j*7+3,none⟩=some (.int .i64 x.date)∧W.cell? ⟨b,o+j*7+4,none⟩=some (.int .i64 x.reason)∧W.cell? ⟨b,o+j*7+5,none⟩=some (.bool x.inv.isSome)∧W.cell? ⟨b,o+j*7+6,none⟩=some (.int .i64 (x.inv.getD 0)))∧W.cell? ⟨p,q+k*7,none⟩=some (.slice a2 y.iss.length c2)∧W.cell? ⟨p,q+k*7+1,none⟩=some (.bool y.num.below)∧W.cell? ⟨p,q+k*7+2,none⟩=some (.slice b2 y.num.size.length d2)∧W.cell? ⟨p,q+k*7+3,none⟩=some (.int .i64 y.date)∧W.cell? ⟨p,q+k*7+4,none⟩=some (.int .i64 y.reason)∧W.cell? ⟨p,q+k*7+5,none⟩=some (.bool y.inv.isSome)∧W.cell? ⟨p,q+k*7+6,none⟩=some (.int .i64 (y.inv.getD 0)) from ⟨HSL.out W (HF1.out.trans (HF2.out.trans F)),by have:=(HF2.out.trans F).cell (hcy 0 _ rfl) (fun h=>h);rwa[Nat.add_zero]at this,(HF2.out.trans F).cell (hcy 1 _ rfl) (fun h=>h),(HF2.out.trans F).cell (hcy 2 _ rfl) (fun h=>h),(HF2.out.trans F).cell (hcy 3 _ rfl) (fun h=>h),(HF2.out.trans F).cell (hcy 4 _ rfl) (fun h=>h),(HF2.out.trans F).cell (hcy 5 _ rfl) (fun h=>h),(HF2.out.trans F).cell (hcy 6 _ rfl) (fun h=>h)⟩)
       obtain⟨rc,hrc⟩:∃ rc,rc=rowC y x:=⟨_,rfl⟩
       have hfy:=HFT2.out y (HMEM.out y (List.mem_of_getElem? hy));have HAH:=Hi (fun W (F:Fz wr W)=>r22Ahead_any y x a2 b2 a1 b1 c2 d2 c1 d1 y.date y.reason (y.inv.getD 0) x.date x.reason (x.inv.getD 0) y.inv.isSome x.inv.isSome W (hn2.old (HF1.out.trans (HF2.out.trans F))) (hb2.old (HF1.out.trans (HF2.out.trans F))) (HN1.out.old (HF1.out.trans (HF2.out.trans F))) (HB1.out.old (HF1.out.trans (HF2.out.trans F))) hfy HFX.out);rw[←hrc]at HAH
       have HRC:=Hi hrc;have q1:(k:Int)<(gs.length:Int):=by omega
       have q2:decide ((k:Int)<(gs.length:Int))=true:=decide_eq_true q1;clear hy hat hRy hRy2 hcy hn2 hb2 hrc hfy;go_upto_region 11 with fail
       have GD:Fz wr wr.drew:=(Fr.refl wr).drew
       refine wp_region_N 16 (S:=fun w'=>(w'.cell? ⟨b,o+j*7,none⟩=some (.slice a1 x.iss.length c1)∧w'.cell? ⟨b,o+j*7+1,none⟩=some (.bool x.num.below)∧w'.cell? ⟨b,o+j*7+2,none⟩=some (.slice b1 x.num.size.length d1)∧w'.cell? ⟨b,o+j*7+3,none⟩=some (.int .i64 x.date)∧w'.cell? ⟨b,o+j*7+4,none⟩=some (.int .i64 x.reason)∧w'.cell? ⟨b,o+j*7+5,none⟩=some (.bool x.inv.isSome)∧w'.cell? ⟨b,o+j*7+6,none⟩=some (.int .i64 (x.inv.getD 0)))∧w'.cell? ⟨p,q+k*7,none⟩=some (.slice a2 y.iss.length c2)∧w'.cell? ⟨p,q+k*7+1,none⟩=some (.bool y.num.below)∧w'.cell? ⟨p,q+k*7+2,none⟩=some (.slice b2 y.num.size.length d2)∧w'.cell? ⟨p,q+k*7+3,none⟩=some (.int .i64 y.date)∧w'.cell? ⟨p,q+k*7+4,none⟩=some (.int .i64 y.reason)∧w'.cell? ⟨p,q+k*7+5,none⟩=some (.bool y.inv.isSome)∧w'.cell? ⟨p,q+k*7+6,none⟩=some (.int .i64 (y.inv.getD 0))) (by kernel_rfl) ?_ (fun hHeld=>?_)
       ·exact HSX.out _ GD
       refine tkN 0 rfl hHeld ?_;refine tkN 1 rfl hHeld ?_;refine tkN 2 rfl hHeld ?_;(try simp only[Act.put,SS]);refine tkN 3 rfl hHeld ?_;refine tkN 4 rfl hHeld ?_;refine tkG 5 rfl hHeld ?_;(try simp only[Act.put,SK,SS]);refine tkG 6 rfl hHeld ?_;refine tkG 7 rfl hHeld ?_;refine tkG 8 rfl hHeld ?_;(try simp only[Act.put,SK,SS]);refine tkG 9 rfl hHeld ?_;refine tkG 10 rfl hHeld ?_;refine tkG 11 rfl hHeld ?_;(try simp only[Act.put,SK,SS]);refine tkG 12 rfl hHeld ?_;(try simp only[Act.put,SK,SS]);refine stN 13 (fun KK hKK=>?_);go_simp
       (go_at_call 40;(with_reducible refine(HAH.out _ GD).mono ?_);rintro e w8 ⟨rfl,F8⟩;have G8:=(GD).trans F8;clear F8;go_wp2_with fail)
       refine hKK.out _ _ ?_ (fun hHeld=>?_)
       ·exact HSX.out _ G8
       clear hKK KK;(try simp only[Act.put,SS]);refine tkG 14 rfl hHeld ?_;refine tkN 15 rfl hHeld ?_;(try simp only[Act.put,SK,SS]);refine wpAnyN_done (by kernel_rfl) ?_ _;clear hHeld;by_cases hneg:rc<0
       ·have c1':decide (rc<0)=true:=decide_eq_true hneg
        have HI2:=Hi (HIA.out.next HYG.out (by rw[←HRC.out];exact hneg));have HF3:=Hi (HF2.out.trans G8);clear G8 GD;go_wp2_with fail
        go_roundg (gs.length-(k+1))
        case measure=>rw[HG2.out];omega
        case rel=>exact⟨k+1,rfl,by omega,by go_num,HI2,HF3⟩
       ·have c1':decide (rc<0)=false:=decide_eq_false hneg
        go_upto_region 13 with fail
        have G9:=G8.drew
        refine wp_region_N 16 (S:=fun w'=>(w'.cell? ⟨b,o+j*7,none⟩=some (.slice a1 x.iss.length c1)∧w'.cell? ⟨b,o+j*7+1,none⟩=some (.bool x.num.below)∧w'.cell? ⟨b,o+j*7+2,none⟩=some (.slice b1 x.num.size.length d1)∧w'.cell? ⟨b,o+j*7+3,none⟩=some (.int .i64 x.date)∧w'.cell? ⟨b,o+j*7+4,none⟩=some (.int .i64 x.reason)∧w'.cell? ⟨b,o+j*7+5,none⟩=some (.bool x.inv.isSome)∧w'.cell? ⟨b,o+j*7+6,none⟩=some (.int .i64 (x.inv.getD 0)))∧w'.cell? ⟨p,q+k*7,none⟩=some (.slice a2 y.iss.length c2)∧w'.cell? ⟨p,q+k*7+1,none⟩=some (.bool y.num.below)∧w'.cell? ⟨p,q+k*7+2,none⟩=some (.slice b2 y.num.size.length d2)∧w'.cell? ⟨p,q+k*7+3,none⟩=some (.int .i64 y.date)∧w'.cell? ⟨p,q+k*7+4,none⟩=some (.int .i64 y.reason)∧w'.cell? ⟨p,q+k*7+5,none⟩=some (.bool y.inv.isSome)∧w'.cell? ⟨p,q+k*7+6,none⟩=some (.int .i64 (y.inv.getD 0))) (by kernel_rfl) ?_ (fun hHeld=>?_)
        ·exact HSX.out _ G9
        refine tkN 0 rfl hHeld ?_;refine tkN 1 rfl hHeld ?_;refine tkN 2 rfl hHeld ?_;(try simp only[Act.put,SS]);refine tkN 3 rfl hHeld ?_;refine tkN 4 rfl hHeld ?_;refine tkG 5 rfl hHeld ?_;(try simp only[Act.put,SK,SS]);refine tkG 6 rfl hHeld ?_;refine tkG 7 rfl hHeld ?_;refine tkG 8 rfl hHeld ?_;(try simp only[Act.put,SK,SS]);refine tkG 9 rfl hHeld ?_;refine tkG 10 rfl hHeld ?_;refine tkG 11 rfl hHeld ?_;(try simp only[Act.put,SK,SS]);refine tkG 12 rfl hHeld ?_;(try simp only[Act.put,SK,SS]);refine stN 13 (fun KK hKK=>?_);go_simp
        (go_at_call 40;(with_reducible refine(HAH.out _ G9).mono ?_);rintro e w10 ⟨rfl,F10⟩;have G10:=(G9).trans F10;clear F10;go_wp2_with fail)
        refine hKK.out _ _ ?_ (fun hHeld=>?_)
        ·exact HSX.out _ G10
        clear hKK KK;(try simp only[Act.put,SS]);refine tkG 14 rfl hHeld ?_;refine tkN 15 rfl hHeld ?_;(try simp only[Act.put,SK,SS]);refine wpAnyN_done (by kernel_rfl) ?_ _;by_cases h0:rc=0
        ·have c2':(rc==0)=true:=by rw[h0];rfl
         have HNO:=Hi (show newRef l=.error 10 from by
          rw[HNE.out,←HNR.out,HDX.out]
          unfold newR newS;rw[HIA.out.twice HYG.out (by rw[←HRC.out];exact h0)])
         have HF3:=Hi (HF1.out.trans (HF2.out.trans G10));clear hHeld G10 G9 G8 GD;go_wp2_with fail
         refine bodyPost_ret (v:=.tuple #[.slice none 0 0,.int .i64 10]) (by simp[results,Tryz.results11,go_sem]) rfl ⟨by unfold RefNew;rw[HNO.out],HF3.out⟩
        ·have c2':(rc==0)=false:=beq_eq_false_iff_ne.2 h0
         have HIN:=Hi (HIA.out.put HYG.out (by rw[←HRC.out];omega) (by rw[←HRC.out];exact h0));have HFW:=Hi (HF1.out.trans (HF2.out.trans G10));have HRW2:=Hi (HRW.out.old (HF2.out.trans G10));clear hHeld G10 G9 G8 GD HSX HAH;obtain⟨A1,A2,a3,c3,w3,a5,c5,w5,a7,c7,w7,hs1,hs2,run1,run2,run3,F3,row7,F7,hcm,hgc⟩:=put_in Q hQ HFW.out gs (some ⟨p,q,none⟩) c k hkl HRW2.out [(.slice a1 x.iss.length c1),(.bool x.num.below),(.slice b1 x.num.size.length d1),(.int .i64 x.date),(.int .i64 x.reason),(.bool x.inv.isSome),(.int .i64 (x.inv.getD 0))] x HRX.out rfl (by omega)
         have HRUN1:=Hi run1;have HRUN2:=Hi run2;have HRUN3:=Hi run3;have HROW7:=Hi row7;have HF7:=Hi F7;have hln:((gs.take k++[x])++gs.drop k).length=gs.length+1:=by rw[List.length_append,List.length_append,List.length_take,List.length_drop,List.length_singleton];omega
         have HLN:=Hi hln;have HNW:=Hi (show newR ((gs.take k++[x])++gs.drop k) (l.drop (j+1))=newR [] l from by
          rw[←HNR.out,HDX.out]
          unfold newR newS;rw[HIN.out]
          cases l.drop (j+1)<;>rfl)
         have HMEM2:=Hi (show ∀ y∈(gs.take k++[x])++gs.drop k,y∈l from fun y hy=>by
          rcases List.mem_append.1 hy with h|h
          ·rcases List.mem_append.1 h with h|h
           ·exact HMEM.out y (List.mem_of_mem_take h)
           ·rw[List.mem_singleton]at h;rw[h];exact List.mem_of_getElem? HXG.out
          ·exact HMEM.out y (List.mem_of_mem_drop h))
         obtain⟨m0,m1,m2,m3,m4,m5,m6⟩:=HSL.out w3 F3
         clear run1 run2 run3 row7 F7 F3 hln;go_wp2_with (first|(at_builtin;refine wpList_append_run (by rfl) (.tmp 62) (.tmp 65) 22 (by rfl) _ w3 (by exact HRUN1.out) ?_)|(at_builtin;refine wpList_append_run (by rfl) (.tmp 67) (.tmp 72) 22 (by rfl) _ w5 (by exact HRUN2.out) ?_)|(at_builtin;refine wpList_append_run (by rfl) (.tmp 74) (.tmp 77) 22 (by rfl) _ w7 (by exact HRUN3.out) ?_)|fail)
         go_roundg (l.length-(j+1))
         case measure=>rw[HG.out];omega
         case rel=>exact⟨j+1,a7,c7,(gs.take k++[x])++gs.drop k,rfl,by omega,by rw[HLN.out],by go_num,by rw[HLN.out,HGL.out],HNW,HMEM2,Hi (by rw[HLN.out];exact HROW7.out),HF7⟩
      ·have q1:¬(k:Int)<(gs.length:Int):=by omega
       have q2:decide ((k:Int)<(gs.length:Int))=false:=decide_eq_false q1;have HIN:=Hi (HIA.out.last (by omega));have HFD:=Hi (fun n=>(HF1.out.trans HF2.out).drewN (S:=fun _=>False) n);have HRD:=Hi (fun n=>(HRW.out.old HF2.out).old ((Fr.refl wr).drewN (S:=fun _=>False) n));go_upto_region 11 with fail
       go_quiet (fail)
       go_upto_region 13 with fail
       go_quiet (fail)
       generalize hN:(wr.drewN _).drewN _=wz;have HFW:=Hi (show Fz w wz from by rw[←hN];exact(HFD.out _).drewN _);have HRW2:=Hi (show GRow 7 (fun _ us x=>Q us x) (fun _=>False) 56 wz w.heap.size (.slice a gs.length c) (gs) from by rw[←hN];exact(HRD.out _).old ((Fr.refl _).drewN _));clear q1 q2 hN
       obtain⟨A1,A2,a3,c3,w3,a5,c5,w5,a7,c7,w7,hs1,hs2,run1,run2,run3,F3,row7,F7,hcm,hgc⟩:=put_in Q hQ HFW.out gs a c k hkl HRW2.out [(.slice a1 x.iss.length c1),(.bool x.num.below),(.slice b1 x.num.size.length d1),(.int .i64 x.date),(.int .i64 x.reason),(.bool x.inv.isSome),(.int .i64 (x.inv.getD 0))] x HRX.out rfl (by omega)
       have HRUN1:=Hi run1;have HRUN2:=Hi run2;have HRUN3:=Hi run3;have HROW7:=Hi row7;have HF7:=Hi F7;have hln:((gs.take k++[x])++gs.drop k).length=gs.length+1:=by rw[List.length_append,List.length_append,List.length_take,List.length_drop,List.length_singleton];omega
       have HLN:=Hi hln;have HNW:=Hi (show newR ((gs.take k++[x])++gs.drop k) (l.drop (j+1))=newR [] l from by
        rw[←HNR.out,HDX.out]
        unfold newR newS;rw[HIN.out]
        cases l.drop (j+1)<;>rfl)
       have HMEM2:=Hi (show ∀ y∈(gs.take k++[x])++gs.drop k,y∈l from fun y hy=>by
        rcases List.mem_append.1 hy with h|h
        ·rcases List.mem_append.1 h with h|h
         ·exact HMEM.out y (List.mem_of_mem_take h)
         ·rw[List.mem_singleton]at h;rw[h];exact List.mem_of_getElem? HXG.out
        ·exact HMEM.out y (List.mem_of_mem_drop h))
       obtain⟨m0,m1,m2,m3,m4,m5,m6⟩:=HSL.out w3 F3
       clear run1 run2 run3 row7 F7 F3 hln;go_wp2_with (first|(at_builtin;refine wpList_append_run (by rfl) (.tmp 62) (.tmp 65) 22 (by rfl) _ w3 (by exact HRUN1.out) ?_)|(at_builtin;refine wpList_append_run (by rfl) (.tmp 67) (.tmp 72) 22 (by rfl) _ w5 (by exact HRUN2.out) ?_)|(at_builtin;refine wpList_append_run (by rfl) (.tmp 74) (.tmp 77) 22 (by rfl) _ w7 (by exact HRUN3.out) ?_)|fail)
       go_roundg (l.length-(j+1))
       case measure=>rw[HG.out];omega
       case rel=>exact⟨j+1,a7,c7,(gs.take k++[x])++gs.drop k,rfl,by omega,by rw[HLN.out],by go_num,by rw[HLN.out,HGL.out],HNW,HMEM2,Hi (by rw[HLN.out];exact HROW7.out),HF7⟩
    ·have p1:¬(j:Int)<(l.length:Int):=by omega
     have HNO:=Hi (show newRef l=.ok gs from by
      rw[HNE.out,←HNR.out,List.drop_eq_nil_of_le (by omega)]
      rfl)
     go_wp2_with fail
     refine bodyPost_ret (v:=.tuple #[.slice a gs.length c,.int .i64 0]) (by simp[results,Tryz.results11,go_sem]) rfl ⟨?_,HF1.out⟩;unfold RefNew;rw[HNO.out]
     exact⟨a,c,rfl,HRW.out⟩
theorem rowsSlice_mid (b o m cap:Nat)(hm:m≤cap)(i:Nat)(hi:i<m)(w:World) :
  (Instr.slice 23 (.slice (some ⟨b,o,none⟩) m cap) (some (.int .i64 (i:Int))) (some (.int .i64 ((i:Int)+1))) none).run Tryz.prog w=.ok (.slice (some ⟨b,o+i*6,none⟩) 1 (cap-i)) w:=by
 obtain⟨i0,hi0,-,hz1,-⟩:=info_parts info43
 have h1:(0:Int)≤(i:Int):=by omega
 have h2:(i:Int)≤(i:Int)+1:=by omega
 have h3:(i:Int)+1≤(cap:Int):=by omega
 have h4:(i:Int)≤(cap:Int):=by omega
 have h5:(0:Int)≤(i:Int)+1:=by omega
 have h6:((i:Int)+1).toNat=i+1:=by omega
 have hc:¬cap-i=0:=by omega
 simp[go_sem,h1,h2,h3,h4,h5,h6,hc,Tryz.underlying23,sizeOf,typeInfo,hi0,hz1,Addr.add]
 rw[if_neg (show ¬cap=i by omega)]
 by_cases h0:i=0
 ·subst h0;simp
 ·rw[if_neg (show ¬i*6=0 by omega)]
theorem leastIx_any (v:Value)(l:List RowI)(w:World)(O:List RowP)(hO:O=(leastL (toRows l) [] []).2)(h:RefsI w v l)(hE:Env w) :
  Calls Tryz.prog 17 #[v] w fun e w'=>(∃ xb a c,e=.returned (.tuple #[pt xb,.slice a O.length c,.bool true])∧IxAt w' (pt xb) (O.map nrow)∧Refs w' (.slice a O.length c) O)∧Fz w w':=by
 obtain⟨L,hL⟩:∃ L,L=toRows l:=⟨_,rfl⟩
 have HTR:=Hi (toRows_any v l w h);rw[←hL]at HTR hO
 have hlen:L.length≤8:=by rw[hL];exact toRows_len l
 have hfw:∀ r∈L,fitN r.iss∧r.num.size.length≤1000000:=fun r hr=>by
  rw[hL]at hr
  obtain⟨x,-,rfl⟩:=List.mem_map.1 hr
  exact⟨toRow_fit x,toRow_size x⟩
 have HFW:=Hi hfw;have hli:=least_ix L hfw;obtain⟨P,hP⟩:∃ P,P=leastL L [] []:=⟨_,rfl⟩
 rw[←hP]at hli hO
 have HLI:=Hi hli;have HP:=Hi hP;have HO:=Hi hO;have HE:=Hi hE;have HLEN:=Hi hlen;obtain⟨a0,c0,rfl,-⟩:=h
 clear hE hL hlen hfw hli hP hO;go_enter Tryz.func17,Tryz.ntmps17
 go_wp2_with fail
 refine HTR.out.mono ?_;rintro e w2 ⟨⟨am,cm,rfl,hm⟩,F1⟩;have hmc:L.length≤cm∧cm≤maxLen:=by
  obtain⟨_,_,he,q1,q2,-⟩:=hm
  simp only[Value.slice.injEq]at he
  obtain⟨-,-,rfl⟩:=he
  exact⟨q1,q2⟩
 have HMC:=Hi hmc;have HM:=Hi hm;have HF1:=Hi F1;clear hm F1 hmc HTR;go_wp2_with fail
 go_loopg [5,6,8] L.length (fun g u v i wr=>∃ (j:Nat) (al ao:Option Addr) (cl co:Nat) (ls o:List RowP),g=L.length-j∧j≤L.length∧u=.slice al ls.length cl∧v=.slice ao o.length co∧i=.int .i64 j∧Hid (ls.length≤j∧o.length≤j)∧Hid (leastL (L.drop j) ls o=P)∧Hid (UpR o∧(∀ y∈o,fitR y)∧∀ y∈ls,y∈L)∧Hid (GRow 6 (fun _ us x=>RRow w2 us x) (fun _=>True) 43 wr w2.heap.size (.slice al ls.length cl) ls)∧Hid (GRow 7 RRef (fun k=>(Value.slice al ls.length cl).ownBlock=some k) 56 wr w2.heap.size (.slice ao o.length co) o)∧Hid (∀ k,(Value.slice ao o.length co).ownBlock=some k→¬(Value.slice al ls.length cl).ownBlock=some k)∧Hid (Fz w2 wr))
 case atStart=>
  refine⟨0,none,none,0,0,[],[],rfl,Nat.zero_le _,rfl,rfl,rfl,Hi ⟨Nat.le_refl _,Nat.le_refl _⟩,Hi HP.out.symm,Hi ⟨List.Pairwise.nil,fun y hy=>(by cases hy),fun y hy=>(by cases hy)⟩,Hi (GRow.nil _ _ _ _ _ _),Hi (GRow.nil _ _ _ _ _ _),Hi (fun k hk=>by cases hk),Hi (Fr.refl _)⟩
 case round=>
  obtain⟨j,al,ao,cl,co,ls,o,hg,hj,rfl,rfl,rfl,HLN,HLS,HU,HRL,HRO,HDJ,HF⟩:=hrel
  have HG:=Hi hg;clear hg;by_cases hjl:j<L.length
  ·obtain⟨x,hx⟩:∃ x,L[j]? = some x:=⟨_,List.getElem?_eq_getElem hjl⟩
   have HDX:=Hi (drop_at hx);obtain⟨b,q,cs,rfl,-,-,hR,hcell⟩:=LAt.get HM.out hx
   have HONE:=Hi (LAt.one HM.out hx);obtain⟨p1,p2,p3,p4,p5,rfl,-⟩:=hR.form
   have HRX:=Hi hR;have HXM:=Hi (List.mem_of_getElem? hx);have HFX:=Hi (HFW.out x (List.mem_of_getElem? hx));have HCE:=Hi hcell;have hs:=fun w=>rowsSlice_mid b q L.length cm HMC.out.1 j hjl w
   have p6:(0:Int)≤(j:Int):=by omega
   have p7:(j:Int)<(L.length:Int):=by omega
   have hw1:IntKind.i64.wrap ((j:Int)+1)=(j:Int)+1:=by have:=HLEN.out;simp[IntKind.wrap,IntKind.signed,IntKind.bits];omega
   have hw2:wrap64 ((j:Int)+1)=(j:Int)+1:=by have:=HLEN.out;unfold wrap64;omega
   clear hx hR hcell;go_wp2_with fail
   refine(ofRowsK_any _ [x] w2 wr HONE.out HF.out (fun r hr=>by rw[List.mem_singleton]at hr;rw[hr];exact HFX.out.1) (by simp)).mono ?_
   rintro e w3 ⟨⟨a3,c3,rfl,h3⟩,F3⟩;obtain⟨g,us,rfl,hg3,-,hc3,hk3⟩:=h3.get (i:=0) (x:=x) rfl
   obtain⟨a1,k1,b1,d1,rfl,hn1,hb1⟩:=hk3.now.form
   have e0:=hc3 0 _ rfl;have e1:=hc3 1 _ rfl;have e2:=hc3 2 _ rfl;have e3:=hc3 3 _ rfl;have e4:=hc3 4 _ rfl;have e5:=hc3 5 _ rfl;have e6:=hc3 6 _ rfl;simp only[Nat.zero_mul,Nat.zero_add]at e0 e1 e2 e3 e4 e5 e6
   simp only[List.length_singleton]
   have HK3:=Hi hk3;have HN1:=Hi hn1;have HB1:=Hi hb1;obtain⟨y,hy⟩:∃ y,y=w3.heap.size:=⟨_,rfl⟩
   have HY:=Hi hy;have BY:=Blk.new w3 56 #[.slice a1 x.iss.length k1,.bool x.num.below,.slice b1 x.num.size.length d1,.int .i64 x.date,.int .i64 x.reason,.bool x.inv.isSome,.int .i64 (x.inv.getD 0)];rw[←hy]at BY
   have F4:Fz w3 (w3.alloc (.cells #[.slice a1 x.iss.length k1,.bool x.num.below,.slice b1 x.num.size.length d1,.int .i64 x.date,.int .i64 x.reason,.bool x.inv.isSome,.int .i64 (x.inv.getD 0)] 56)):=(Fr.refl w3).alloc _;have HF3:=Hi F3;have HF4:=Hi F4;have HBY:=Hi BY;have HG3:=Hi hg3;clear h3 F3 hg3 hc3 hk3 hn1 hb1 hy BY F4;go_upto_region 8 with fail
   rw[←HY.out]
   clear e0 e1 e2 e3 e4 e5 e6 hs;generalize (w3.alloc (.cells #[.slice a1 x.iss.length k1,.bool x.num.below,.slice b1 x.num.size.length d1,.int .i64 x.date,.int .i64 x.reason,.bool x.inv.isSome,.int .i64 (x.inv.getD 0)] 56))=w4 at *
   have y0:=HBY.out.cell 0;simp only[SG]at y0
   go_wp2_with fail
   refine(r14Right_any _ x.iss w4 (HN1.out.old HF4.out) (fun s hs=>(HFX.out.1.2 s hs).1)).mono ?_
   rintro e w5 ⟨rfl,F5⟩;clear y0;cases hno:nameOk x.iss with
   |false=>
    have HN:=Hi hno;clear hno;have HLS2:=Hi (show leastL (L.drop (j+1)) ls o=P from by
     rw[←HLS.out,HDX.out]
     conv=>rhs;unfold leastL
     rw[if_neg (fun h=>by rw[HN.out]at h;cases h.1)])
    have HRL2:=Hi (HRL.out.old (HF3.out.trans (HF4.out.trans F5)));have HRO2:=Hi (HRO.out.old (HF3.out.trans (HF4.out.trans F5)));have HFN:=Hi (HF.out.trans (HF3.out.trans (HF4.out.trans F5)));go_wp2_with fail
    go_roundg (L.length-(j+1))
    case measure=>rw[HG.out];omega
    case rel=>exact⟨j+1,al,ao,cl,co,ls,o,rfl,by omega,rfl,rfl,by go_num,Hi ⟨by have:=HLN.out.1;omega,by have:=HLN.out.2;omega⟩,HLS2,HU,HRL2,HRO2,HDJ,HFN⟩
   |true=>
    have HFR:=Hi (show fitR x from ⟨HFX.out.1,hno,HFX.out.2⟩);have HNO:=Hi hno;have HF5:=Hi (HF3.out.trans (HF4.out.trans F5));have HF45:=Hi (HF4.out.trans F5);have HB5:=Hi (HBY.out.fr F5 (fun h=>h));clear hno F5;have y0:=HB5.out.cell 0;have y1:=HB5.out.cell 1;have y2:=HB5.out.cell 2;simp only[SG]at y0 y1 y2
    go_wp2_with fail
    refine(r22Place_any x _ _ _ o w5 ((HRO.out.old HF5.out).at (by decide)) (HN1.out.old HF45.out) (HB1.out.old HF45.out) HU.out.2.1 HFR.out (by have:=HLN.out.2;have:=HLEN.out;omega)).mono ?_
    rintro e w6 ⟨rfl,F6⟩;clear y0 y1 y2;obtain⟨pn,hpn⟩:∃ pn,pn=(placeR x o 0).1:=⟨_,rfl⟩
    rw[←hpn]
    clear hpn;cases hpl:(placeR x o 0).2 with
    |true=>
     have HN:=Hi hpl;clear hpl;have HLS2:=Hi (show leastL (L.drop (j+1)) ls o=P from by
      rw[←HLS.out,HDX.out]
      conv=>rhs;unfold leastL
      rw[if_neg (fun h=>by rw[HN.out]at h;cases h.2)])
     have HRL2:=Hi (HRL.out.old (HF5.out.trans F6));have HRO2:=Hi (HRO.out.old (HF5.out.trans F6));have HFN:=Hi (HF.out.trans (HF5.out.trans F6));go_wp2_with fail
     go_roundg (L.length-(j+1))
     case measure=>rw[HG.out];omega
     case rel=>exact⟨j+1,al,ao,cl,co,ls,o,rfl,by omega,rfl,rfl,by go_num,Hi ⟨by have:=HLN.out.1;omega,by have:=HLN.out.2;omega⟩,HLS2,HU,HRL2,HRO2,HDJ,HFN⟩
    |false=>
     obtain⟨o',hr1,hr2,hr3,hr4,hr5⟩:=newRef_more HU.out.1 HU.out.2.1 HFR.out hpl
     have HNR:=Hi hr1;have HO5:=Hi (And.intro hr3 (And.intro hr4 hr5));have HLS2:=Hi (show leastL (L.drop (j+1)) (ls++[x]) o'=P from by
      rw[←HLS.out,HDX.out]
      conv=>rhs;unfold leastL
      rw[if_pos ⟨HNO.out,hpl⟩,hr2])
     clear hpl hr1 hr2 hr3 hr4 hr5;have HF6:=Hi (HF5.out.trans F6);have HF36:=Hi (HF45.out.trans F6);have HB6:=HB5.out.fr F6 (fun h=>h);have HF26:=Hi (HF.out.trans HF6.out);have hsz6:w2.heap.size≤w6.heap.size:=HF26.out.size;have hsw:wr.heap.size≤w6.heap.size:=HF6.out.size;have hs36:w3.heap.size≤w6.heap.size:=HF36.out.size
     obtain⟨a7,c7,w7,run1,row7,F7,own7⟩:=(HRL.out.old HF6.out).add (s:=23) Tryz.underlying23 info43 rfl (by decide) (by decide) hsz6 ((Fr.refl w6).alloc (.cells [.slice p1 x.iss.length p2,.bool x.num.below,.slice p3 x.num.size.length p4,.int .i64 x.date,.int .i64 x.reason,.pointer p5].toArray 43)) w6.heap.size [.slice p1 x.iss.length p2,.bool x.num.below,.slice p3 x.num.size.length p4,.int .i64 x.date,.int .i64 x.reason,.pointer p5] rfl (Blk.new w6 43 [.slice p1 x.iss.length p2,.bool x.num.below,.slice p3 x.num.size.length p4,.int .i64 x.date,.int .i64 x.reason,.pointer p5].toArray) (by simp[Value.oneCell']) x (fun _ _=>HRX.out) (by have:=HLN.out.1;have:=HLEN.out;omega)
     have hkl:=HRL.out.keep;have hko:=HRO.out.keep;have F37:Fr (fun k=>(Value.slice al ls.length cl).ownBlock=some k) w3 w7:=(HF36.out.mono (fun _ _ h=>h.elim)).trans F7;have row7o:GRow 7 RRef (fun k=>(Value.slice a7 (ls.length+1) c7).ownBlock=some k) 56 w7 w2.heap.size (.slice ao o.length co) o:=(HRO.out.old HF6.out).step F7 (fun k _ h=>h) (fun k hk=>HDJ.out k hk) (fun k hk=>own7 k hk);have BY7:=HB6.fr F7 (fun e=>by have:=(hkl _ e).2;have:=HY.out;have:=HF3.out.size;omega)
     obtain⟨a9,c9,w9,run2,row9,F9,own9⟩:=row7o.add (s:=22) Tryz.underlying22 info56 rfl (by decide) (by decide) (Nat.le_trans hsz6 F7.size) ((Fr.refl w7).alloc (.cells [.slice a1 x.iss.length k1,.bool x.num.below,.slice b1 x.num.size.length d1,.int .i64 x.date,.int .i64 x.reason,.bool x.inv.isSome,.int .i64 (x.inv.getD 0)].toArray 56)) w7.heap.size [.slice a1 x.iss.length k1,.bool x.num.below,.slice b1 x.num.size.length d1,.int .i64 x.date,.int .i64 x.reason,.bool x.inv.isSome,.int .i64 (x.inv.getD 0)] rfl (Blk.new w7 56 [.slice a1 x.iss.length k1,.bool x.num.below,.slice b1 x.num.size.length d1,.int .i64 x.date,.int .i64 x.reason,.bool x.inv.isSome,.int .i64 (x.inv.getD 0)].toArray) (by simp[Value.oneCell']) x (HK3.out.step F37 (fun k hk hs=>.inr ⟨(hkl k hs).1,(hkl k hs).2⟩) (fun k hk=>by
      rcases hk with hk|hk
      ·exact .inl (.inr ⟨(hko k hk).1,(hko k hk).2⟩)
      ·rcases own7 k hk with h|h
       ·exact .inl (.inr ⟨(hkl k h).1,(hkl k h).2⟩)
       ·exact .inr (by omega))) (by have:=HLN.out.2;have:=HLEN.out;omega)
     have hdj9:∀ k,(Value.slice a7 (ls.length+1) c7).ownBlock=some k→¬(Value.slice ao o.length co).ownBlock=some k:=fun k hk h=>by
      rcases own7 k hk with g|g
      ·exact HDJ.out k h g
      ·have:=(hko k h).2;omega
     have row7l:=row7.fr F9 (fun _ _ _=>trivial) hdj9;have F29:Fz w2 w9:=(HF26.out.trans' F7 (fun i hi e=>by have:=(hkl i e).1;omega)).trans' F9 (fun i hi e=>by have:=(hko i e).1;omega);have HRUN1:=Hi run1;have HRUN2:=Hi run2;have HNW:=Hi (r22New_any (fun us z=>Kept (fun W=>RRef W us z) (fun k=>(Value.slice a7 (ls.length+1) c7).ownBlock=some k) w9) (.slice a9 (o.length+1) c9) (o++[x]) w9 (fun _ _ h=>h.now) (by have:=row9.atKept (by decide);exact this) (fun r hr=>by
      rcases List.mem_append.1 hr with h|h
      ·exact⟨(HU.out.2.1 r h).1,(HU.out.2.1 r h).2.2⟩
      ·rw[List.mem_singleton]at h;rw[h];exact HFX.out) (by rw[List.length_append,List.length_singleton];have:=HLN.out.2;have:=HLEN.out;omega))
     have HR7:=Hi row7l;have HF29:=Hi F29;have m0:=HF26.out.cell (HCE.out 0 _ rfl) (fun h=>h);have m1:=HF26.out.cell (HCE.out 1 _ rfl) (fun h=>h);have m2:=HF26.out.cell (HCE.out 2 _ rfl) (fun h=>h);have m3:=HF26.out.cell (HCE.out 3 _ rfl) (fun h=>h);have m4:=HF26.out.cell (HCE.out 4 _ rfl) (fun h=>h);have m5:=HF26.out.cell (HCE.out 5 _ rfl) (fun h=>h);simp only[Nat.add_zero]at m0
     have n0:=BY7.cell 0;have n1:=BY7.cell 1;have n2:=BY7.cell 2;have n3:=BY7.cell 3;have n4:=BY7.cell 4;have n5:=BY7.cell 5;have n6:=BY7.cell 6;simp only[SG]at n0 n1 n2 n3 n4 n5 n6
     clear run1 run2 row7 row7o row9 F7 F9 own7 own9 F37 BY7 HB6 hkl hko hdj9 row7l F29 F6 hsz6 hsw hs36;go_wp2_with (first|(at_builtin;refine wpList_append_run (by rfl) (.tmp 44) (.tmp 49) 23 (by rfl) _ w7 (by exact HRUN1.out) ?_)|(at_builtin;refine wpList_append_run (by rfl) (.tmp 52) (.tmp 54) 22 (by rfl) _ w9 (by exact HRUN2.out) ?_)|fail)
     refine HNW.out.mono ?_;rintro e w10 ⟨ho,F10⟩;unfold RefNew at ho;rw[HNR.out]at ho
     obtain⟨a10,c10,rfl,row10⟩:=ho
     have hk10:=row10.keep;have HRO10:=Hi ((row10.free (R:=RRef) (fun _ _ h=>h) F10 (Nat.le_refl _)).low HF29.out.size);have HR10:=Hi (HR7.out.old F10);have HDJ10:=Hi (show ∀ k,(Value.slice a10 o'.length c10).ownBlock=some k→¬(Value.slice a7 (ls.length+1) c7).ownBlock=some k from fun k h1 h2=>by
      have:=(hk10 k h1).1;have:=(HR7.out.keep k h2).2;omega)
     have HF10:=Hi (HF29.out.trans F10);have HLL:Hid ((ls++[x]).length=ls.length+1):=Hi (by rw[List.length_append];rfl);clear row10 hk10 F10 m0 m1 m2 m3 m4 m5 n0 n1 n2 n3 n4 n5 n6;go_wp2_with fail
     go_roundg (L.length-(j+1))
     case measure=>rw[HG.out];omega
     case rel=>exact⟨j+1,a7,a10,c7,c10,ls++[x],o',rfl,by omega,by rw[HLL.out],rfl,by go_num,Hi ⟨by rw[HLL.out];have:=HLN.out.1;omega,by have:=HO5.out.2.2;have:=HLN.out.2;omega⟩,HLS2,Hi ⟨HO5.out.1,HO5.out.2.1,fun y hy=>by
      rcases List.mem_append.1 hy with h|h
      ·exact HU.out.2.2 y h
      ·rw[List.mem_singleton]at h;rw[h];exact HXM.out⟩,Hi (by rw[HLL.out];exact HR10.out),Hi (by rw[HLL.out];exact HRO10.out),Hi (by rw[HLL.out];exact HDJ10.out),HF10⟩
  ·have p7:¬(j:Int)<(L.length:Int):=by omega
   have hP2:=HLS.out;rw[List.drop_eq_nil_of_le (by omega)]at hP2
   unfold leastL at hP2;have HP2:=Hi hP2;have HO2:=Hi (show O=o from by rw[HO.out,←hP2]);have HNI:=Hi (show newIx ls=.ok (o.map nrow) from by have:=HLI.out.1;rw[←hP2]at this;exact this);have HN1:=Hi (ixNew_any (.slice al ls.length cl) ls wr ((HRL.out.at (by decide)).move (Fr.refl wr) (fun cs x hx=>RRow.old _ _ _ _ hx HF.out)) (fun r hr=>HFW.out r (HU.out.2.2 r hr)) (by have:=HLN.out.1;have:=HLEN.out;omega) ((HE.out.old HF1.out).old HF.out));clear hP2;go_wp2_with fail
   refine HN1.out.mono ?_;rintro e w8 ⟨ho,F8⟩;unfold NewOut at ho;rw[HNI.out]at ho
   obtain⟨xb,rfl,hix⟩:=ho
   have HIX:=Hi hix;have HF8:=Hi (HF1.out.trans (HF.out.trans F8));have HRF:=Hi (Refs.old (HRO.out.at (by decide)) F8);clear hix F8;go_wp2_with fail
   refine bodyPost_ret (v:=.tuple #[pt xb,.slice ao o.length co,.bool true]) (by simp[results,Tryz.results17,go_sem]) rfl ⟨?_,HF8.out⟩;rw[HO2.out]
   exact⟨xb,ao,co,rfl,HIX.out,HRF.out⟩
end Go.Proofs.YtehlipgmkinfbaaGreatDoor
