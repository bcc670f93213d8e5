/-
  Merged by program: XIxNew XIxAdd XIxSame.
-/
import Derived.Test.YtehlipgmkinfbaaGreatDoorM0au
set_option linter.unusedSimpArgs false
set_option maxRecDepth 100000
set_option maxHeartbeats 8000000
namespace Go.Q
open Go
theorem stN (i:Nat){P:Program}{ops:Array Oper}{Q:Exit→Act→World→Prop}{md:Region.Mode}{S:World→Prop}{n f:Nat}{o:Oper}{listed:Array Bool}{a:Act}{w:World}(h:∀ K:Act→World→Prop,Shut (∀ a w,S w→(S w→wpAnyN P md ops Q S n f (listed.setIfInBounds i true) a w)→K a w)→if Region.wanted o (yielded ops a.tmps)=true then Oper.wp P o a w K Q else K (a.put o.dst undef) w)(hr:Region.ready md ops listed=[i]:=by kernel_rfl)(ho:ops[i]? = some o:=by rfl):wpAnyN P md ops Q S n (f+1) listed a w:=wpAnyN_step hr ho h
open Go Go.RowKit
def fitW (r:RowP):Prop:=fitN r.iss∧r.num.size.length≤1000000
theorem apart_iff {α κ:Type}[DecidableEq κ]{key:α→κ}:∀ {l:List α},apartB key l=true↔∀ (j:Nat) (x y:α),l[j]? = some x→l[j+1]? = some y→key x≠key y
 | []=>by simp[apartB]
 | [x]=>by simp[apartB]
 |x::y::t=>by
  unfold apartB;rw[Bool.and_eq_true,decide_eq_true_eq,apart_iff (l:=y::t)]
  constructor
  ·rintro ⟨h1,h2⟩ j a b ha hb
   cases j with
   |zero=>
    simp only[List.getElem?_cons_zero,List.getElem?_cons_succ,Nat.zero_add,Option.some.injEq]at ha hb
    rw[←ha,←hb];exact h1
   |succ j=>
    rw[List.getElem?_cons_succ]at ha hb
    exact h2 j a b ha hb
  ·intro h
   exact⟨h 0 x y rfl rfl,fun j a b ha hb=>h (j+1) a b (by rw[List.getElem?_cons_succ];exact ha) (by rw[List.getElem?_cons_succ];exact hb)⟩
def IxOwn (W:World)(b base:Nat)(l:List RowP):Prop:=∃ a c,b<base∧Blk W b 73 #[.slice a l.length c]∧GRow 7 RSlot (fun k=>k<base) 78 W base (.slice a l.length c) l
theorem IxOwn.at {W:World}{b base:Nat}{l:List RowP}(h:IxOwn W b base l):IxAt W (pt b) l:=by
 obtain⟨a,c,-,h1,h2⟩:=h
 exact .inr ⟨b,_,rfl,h1.cell 0,h2.at (by decide)⟩
theorem IxOwn.fr {S:Nat→Prop}{W W':World}{b base:Nat}{l:List RowP}(h:IxOwn W b base l)(f:Fr S W W')(hS:∀ k,S k→k<base∧k≠b):IxOwn W' b base l:=by
 obtain⟨a,c,h0,h1,h2⟩:=h
 have hk:=h2.keep;exact⟨a,c,h0,h1.fr f (fun e=>(hS b e).2 rfl),h2.fr f (fun k _ e=>(hS k e).1) (fun k e hs=>by have:=(hk k e).1;have:=(hS k hs).1;omega)⟩
def IxOwnT (W:World)(b base top:Nat)(l:List RowP):Prop:=∃ a c,b<base∧Blk W b 73 #[.slice a l.length c]∧GRow 7 RSlot (fun k=>k<base) 78 W base (.slice a l.length c) l∧∀ k,(Value.slice a l.length c).ownBlock=some k→k<top
theorem IxOwn.top {W:World}{b base:Nat}{l:List RowP}(h:IxOwn W b base l):IxOwnT W b base W.heap.size l:=by
 obtain⟨a,c,h0,h1,h2⟩:=h
 exact⟨a,c,h0,h1,h2,fun k hk=>(h2.keep k hk).2⟩
theorem IxOwnT.fr {S:Nat→Prop}{W W':World}{b base top:Nat}{l:List RowP}(h:IxOwnT W b base top l)(f:Fr S W W')(hS:∀ k,S k→k<base∧k≠b):IxOwnT W' b base top l:=by
 obtain⟨a,c,h0,h1,h2,h3⟩:=h
 have hk:=h2.keep;exact⟨a,c,h0,h1.fr f (fun e=>(hS b e).2 rfl),h2.fr f (fun k _ e=>(hS k e).1) (fun k e hs=>by have:=(hk k e).1;have:=(hS k hs).1;omega),h3⟩
theorem IxOwn.old {W W':World}{b base:Nat}{l:List RowP}(h:IxOwn W b base l)(f:Fz W W'):IxOwn W' b base l:=h.fr f (fun _ e=>e.elim)
end Go.Q
namespace Go.Proofs.YtehlipgmkinfbaaGreatDoor
open Go Go.RowKit Go.Q
theorem info78:(Tryz.prog.info? 78).map (fun i=>(i.zero,i.size,i.bytes))=some (some (.agg #[.string ⟨#[]⟩,.slice none 0 0,.bool false,.slice none 0 0,.int .i64 0,.int .i64 0,.pointer none]),7,96):=by kernel_rfl
def NewOut (l:List RowP)(e:Ending)(w':World):Prop:=
 match newIx l with
 |.ok o=>∃ b,e=.returned (.tuple #[pt b,.int .i64 0])∧IxAt w' (pt b) o
 |.error k=>e=.returned (.tuple #[.pointer none,.int .i64 k])
theorem ixNew_any (v:Value)(l:List RowP)(w:World)(h:Go.Q.Rows w v l)(hf:∀ r∈l,fitW r)(hl:l.length≤12)(hE:Env w) :
  Calls Tryz.prog 10 #[v] w fun e w'=>NewOut l e w'∧Fz w w':=by
 have H:=Hi h;have HFT:=Hi hf;have HEN:=Hi hE;obtain⟨a0,c0,rfl,-⟩:=h
 obtain⟨z,hz⟩:∃ z,z=w.heap.size:=⟨_,rfl⟩
 have HZ:=Hi hz;have BZ:=Blk.new w 73 #[.slice none 0 0];rw[←hz]at BZ
 have F0:Fz w (w.alloc (.cells #[.slice none 0 0] 73)):=(Fr.refl w).alloc _;have HF0:=Hi F0;have HBZ:=Hi BZ;clear hf hE hz BZ F0;go_enter Tryz.func10,Tryz.ntmps10
 go_upto_region 2 with fail
 rw[←HZ.out]
 generalize (w.alloc (.cells #[.slice none 0 0] 73))=w0 at *
 go_wp2_with fail
 go_loopg [14] l.length (fun g i wr=>∃ (j:Nat) (a:Option Addr) (c:Nat) (gs:List RowP),g=l.length-j∧j≤l.length∧i=.int .i64 j∧gs.length=j∧Hid (okRows (l.take j)=true)∧Hid (gs=(l.take j).map nrow)∧Hid (Blk wr z 73 #[.slice a gs.length c])∧Hid (GRow 7 RSlot (fun k=>k=z) 78 wr (z+1) (.slice a gs.length c) gs)∧Hid (Fz w wr))
 case atStart=>exact⟨0,none,0,[],rfl,Nat.zero_le _,rfl,rfl,Hi rfl,Hi rfl,HBZ,Hi (GRow.nil _ _ _ _ _ _),HF0⟩
 case round=>
  obtain⟨j,a,c,gs,hg,hj,rfl,hgl,HOK,HGS,HB,HRW,HF⟩:=hrel
  have HG:=Hi hg;have HGL:=Hi hgl;clear hg hgl;by_cases hjl:j<l.length
  ·obtain⟨r,hr⟩:∃ r,l[j]? = some r:=⟨_,List.getElem?_eq_getElem hjl⟩
   obtain⟨b,o,cs,rfl,-,hcs,hR,hcell⟩:=LAt.get (Go.Q.Rows.old H.out HF.out) hr
   obtain⟨a1,c1,b1,d1,q1,rfl,hni,-⟩:=hR.form
   have e0:=hcell 0 _ rfl;have e1:=hcell 1 _ rfl;have e2:=hcell 2 _ rfl;have e3:=hcell 3 _ rfl;have e4:=hcell 4 _ rfl;have e5:=hcell 5 _ rfl;simp only[Nat.add_zero]at e0
   have p1:(j:Int)<(l.length:Int):=by omega
   have p2:(0:Int)≤(j:Int):=by omega
   have HTK:=Hi (show (l.take (j+1)).map nrow=(l.take j).map nrow++[nrow r] by rw[List.take_add_one,hr,List.map_append];rfl);have HTO:=Hi (show okRows (l.take (j+1))=(okRows (l.take j)&&nameOk r.iss) by rw[List.take_add_one,hr];simp[okRows]);have hft:=HFT.out r (List.mem_of_getElem? hr);have hfb:∀ s∈r.iss,fewB s:=fun s hs=>(hft.1.2 s hs).1
   obtain⟨y,hy⟩:∃ y,y=wr.heap.size:=⟨_,rfl⟩
   have HY:=Hi hy;have BY:=Blk.new wr 43 #[.slice a1 r.iss.length c1,.bool r.num.below,.slice b1 r.num.size.length d1,.int .i64 r.date,.int .i64 r.reason,.pointer q1];have FA:Fz wr (wr.alloc (.cells #[.slice a1 r.iss.length c1,.bool r.num.below,.slice b1 r.num.size.length d1,.int .i64 r.date,.int .i64 r.reason,.pointer q1] 43)):=(Fr.refl wr).alloc _;have HFA:=Hi FA;rw[←hy]at BY
   have HBY:=Hi BY;have HRR:=Hi hR;have HNI:=Hi hni;have hmem:=List.mem_of_getElem? hr;have HMEM:=Hi hmem;have HFTR:=Hi hft;have HFB:=Hi hfb;clear hcell hR hni FA BY hy hft hfb hr hmem;go_upto_region 5 with fail
   rw[←HY.out]
   generalize (wr.alloc (.cells #[.slice a1 r.iss.length c1,.bool r.num.below,.slice b1 r.num.size.length d1,.int .i64 r.date,.int .i64 r.reason,.pointer q1] 43))=w2 at *
   clear e0 e1 e2 e3 e4 e5;have y0:=HBY.out.cell 0;simp only[SG]at y0
   cases hno:nameOk r.iss with
   |false=>
    have HN:=Hi (nameKey_bad _ r.iss w2 (HNI.out.old HFA.out) HFB.out hno);have HNO:=Hi (show newIx l=.error 1 from newIx_bad (by
     cases hq:okRows l with
     |false=>rfl
     |true=>
      unfold okRows at hq;rw[List.all_eq_true]at hq
      have:=hq r HMEM.out;rw[hno]at this;exact this.symm))
    clear hno;go_wp2_with fail
    refine HN.out.mono ?_;rintro e w3 ⟨rfl,F3⟩;go_wp2_with fail
    refine bodyPost_ret (v:=.tuple #[.pointer none,.int .i64 1]) (by simp[results,Tryz.results10,go_sem]) rfl ⟨by unfold NewOut;rw[HNO.out],(HF.out.trans HFA.out).trans F3⟩
   |true=>
    have HN:=Hi (nameKey_any _ r.iss w2 (HNI.out.old HFA.out) HFB.out hno ((HEN.out.old HF.out).old HFA.out));have HNO:=Hi hno;clear hno;go_wp2_with fail
    refine HN.out.mono ?_;rintro e w3 ⟨rfl,F3⟩;have HF3:=Hi (HFA.out.trans F3);have BZ:=(HB.out.fr (HFA.out.trans F3) (fun h=>h)).drew;have BY:=(HBY.out.fr F3 (fun h=>h)).drew;have HC:=Hi (fun W (F:Fz w3 W)=>ixCopied_any _ r W (RRow.old _ _ _ _ HRR.out (HF3.out.trans F)) HFTR.out.1 HNO.out HFTR.out.2);have HR3:=Hi (HRW.out.old (HFA.out.trans F3));have hzy:z<y:=by have:=HF.out.size;have:=HY.out;have:=HB.out.lt;omega
    have HZY:=Hi hzy;have G:Fz w3 w3.drew:=(Fr.refl w3).drew;have hsz3:y<w3.heap.size:=(HBY.out.fr F3 (fun h=>h)).lt;have HS3:=Hi hsz3;have hwr3:wr.heap.size≤w3.heap.size:=(HFA.out.trans F3).size;have HWR:=Hi hwr3;clear F3 y0 hzy hsz3 hwr3 HN;obtain⟨x,hx⟩:∃ x,x=madeS r.num:=⟨_,rfl⟩
    rw[←hx]at HC
    have HXR:=Hi (fun (W:World) (vi vs vp:Value) (g:RRow W [vi,.bool x.below,vs,.int .i64 r.date,.int .i64 r.reason,vp] (nrow r))=>show RSlot W [str (nameKeyS r.iss),vi,.bool x.below,vs,.int .i64 r.date,.int .i64 r.reason,vp] (nrow r) from ⟨_,rfl,g⟩);clear hx;go_upto_region 8 with fail
    refine wp_region_N 11 (S:=fun w'=>w'.cell? ⟨z,0,none⟩=some (.slice a gs.length c)∧∀ j,w'.cell? ⟨y,j,none⟩=(#[.slice a1 r.iss.length c1,.bool r.num.below,.slice b1 r.num.size.length d1,.int .i64 r.date,.int .i64 r.reason,.pointer q1]:Array Value)[j]?) (by kernel_rfl) ?_ (fun hHeld=>?_)
    ·exact⟨BZ.cell 0,BY.cell⟩
    refine tkN 0 rfl hHeld ?_;refine tkN 1 rfl hHeld ?_;refine tkN 2 rfl hHeld ?_;(try simp only[Act.put,SS]);refine tkN 3 rfl hHeld ?_;refine tkN 4 rfl hHeld ?_;refine tkN 5 rfl hHeld ?_;(try simp only[Act.put,SS]);refine tkN 6 rfl hHeld ?_;(try simp only[Act.put,SS]);refine wpAnyN_step (i:=7) (by kernel_rfl) (o:=_) rfl (fun KK hKK=>?_);go_simp
    (go_at_call 37;(with_reducible refine(HC.out _ G).mono ?_);rintro e w' ⟨⟨a2,c2,b2,d2,q2,rfl,hk⟩,F⟩;replace BZ:=BZ.fr F (fun h=>h);replace BY:=BY.fr F (fun h=>h);have hsz:=G.size;replace G:=G.trans F;clear F HC;go_wp2_with fail)
    refine hKK.out _ _ ?_ (fun hHeld=>?_)
    ·exact⟨BZ.cell 0,BY.cell⟩
    clear hKK KK;(try simp only[Act.put,SS]);refine tkN 8 rfl hHeld ?_;(try simp only[Act.put,SS]);have BZA:=BZ.alloc (.cells [str (nameKeyS r.iss),.slice a2 r.iss.length c2,.bool x.below,.slice b2 x.size.length d2,.int .i64 r.date,.int .i64 r.reason,.pointer q2].toArray 78);have BYA:=BY.alloc (.cells [str (nameKeyS r.iss),.slice a2 r.iss.length c2,.bool x.below,.slice b2 x.size.length d2,.int .i64 r.date,.int .i64 r.reason,.pointer q2].toArray 78)
    obtain⟨a7,c7,w7,hrun,hrow7,F7,hown⟩:=(HR3.out.old G).add (s:=71) Tryz.underlying71 info78 rfl (by decide) (by decide) (by have:=HZY.out;have:=HS3.out;have:=G.size;omega) ((Fr.refl w').alloc (.cells [str (nameKeyS r.iss),.slice a2 r.iss.length c2,.bool x.below,.slice b2 x.size.length d2,.int .i64 r.date,.int .i64 r.reason,.pointer q2].toArray 78)) w'.heap.size [str (nameKeyS r.iss),.slice a2 r.iss.length c2,.bool x.below,.slice b2 x.size.length d2,.int .i64 r.date,.int .i64 r.reason,.pointer q2] rfl (Blk.new w' 78 [str (nameKeyS r.iss),.slice a2 r.iss.length c2,.bool x.below,.slice b2 x.size.length d2,.int .i64 r.date,.int .i64 r.reason,.pointer q2].toArray) (by simp[Value.oneCell',str]) (nrow r) ((hk.weaken (fun k hk=>by
      have hd:w3.drew.heap.size=w3.heap.size:=rfl;rcases hk with hk|hk
      ·have:=(HRW.out.keep k hk).2;have:=HWR.out;omega
      ·have hk2:k=z:=hk
       have:=HZY.out;have:=HS3.out;omega)).imp (fun W g=>HXR.out W _ _ _ g)) (by have:=HGL.out;omega)
    have hk7:=HRW.out.keep;have BZ7:=BZ.fr F7 (fun e=>by have:=(hk7 _ e).1;omega);have BY7:=BY.fr F7 (fun e=>by have:=(hk7 _ e).2;have:=HY.out;omega);have F7w:=(G.mono (T:=fun k=>(Value.slice a gs.length c).ownBlock=some k) (fun _ _ h=>h.elim)).trans F7;have z0:=BZ7.cell 0;have f0:=BZ7.frozen 0;have z0s:w7.cell? ⟨z,0,none⟩=some (.slice a gs.length c):=z0;have HRUN:=Hi hrun;refine wpAnyN_step (i:=9) (by kernel_rfl) (o:=_) rfl (fun KK hKK=>?_);go_simp
    skip
    refine hKK.out _ _ ?_ (fun hHeld=>?_)
    ·exact⟨BZA.cell 0,BYA.cell⟩
    clear hKK KK;(try simp only[Act.put,SS]);refine wpAnyN_step (i:=10) (by kernel_rfl) (o:=_) rfl (fun KK hKK=>?_);refine step_append_run (by rfl) (.tmp 30) (.tmp 35) 71 (by rfl) _ w7 (by exact HRUN.out) ?_;refine hKK.out _ _ ?_ (fun hHeld=>?_)
    ·exact⟨BZ7.cell 0,BY7.cell⟩
    clear hKK KK;(try simp only[Act.put,SS]);refine wpAnyN_last (i:=11) (by kernel_rfl) (by decide) (o:=_) rfl (fun KK hKK=>?_);go_simp
    skip
    refine hKK.out _ _ ?_;clear hKK KK;(try simp only[Act.put,SS]);refine wpAnyN_last (i:=12) (by kernel_rfl) (by decide) (o:=_) rfl (fun KK hKK=>?_);go_simp
    skip
    refine hKK.out _ _ ?_;clear hKK KK;(try simp only[Act.put,SS]);refine wpAnyN_last (i:=13) (by kernel_rfl) (by decide) (o:=_) rfl (fun KK hKK=>?_);go_simp
    skip
    refine hKK.out _ _ ?_;clear hKK KK;(try simp only[Act.put,SS]);refine wpAnyN_done (by kernel_rfl) ?_ _;have B8:Blk (w7.setCell ⟨z,0,none⟩ (.slice a7 (gs.length+1) c7)) z 73 #[.slice a7 (gs.length+1) c7]:=BZ7.set 0 _;have F8:Fr (fun k=>k=z) w7 (w7.setCell ⟨z,0,none⟩ (.slice a7 (gs.length+1) c7)):=Fr.setCell (S:=fun k=>k=z) (p:=⟨z,0,none⟩) (Fr.refl w7) (fun _=>rfl) _;have hk8:=hrow7.keep;have R8:=hrow7.fr F8 (fun _ _ h=>h) (fun k hk e=>by have:=(hk8 k hk).1;have e2:k=z:=e;omega);have HR8:=Hi R8;have HB8:=Hi B8
    have HF8:=Hi (((HF.out.trans HF3.out).trans' F7w (fun i hi e=>by have:=(hk7 i e).1;have:=HZ.out;omega)).trans' F8 (fun i hi e=>by have e2:i=z:=e;have:=HZ.out;omega));have HGS7:=Hi (show gs++[nrow r]=(l.take (j+1)).map nrow by rw[HTK.out,HGS.out]);have HOK7:=Hi (show okRows (l.take (j+1))=true by rw[HTO.out,HOK.out,HNO.out];rfl);clear B8 F8 hk8 R8 F7w hk7 BZ7 BY7 BZA BYA z0 z0s f0 hrun hrow7 F7 hown hk G BZ BY hsz;go_wp2_with fail
    go_roundg (l.length-(j+1))
    case measure=>rw[HG.out];omega
    case rel=>exact⟨j+1,a7,c7,gs++[nrow r],rfl,by omega,by go_num,by rw[List.length_append,HGL.out];rfl,HOK7,HGS7,Hi (by rw[List.length_append];exact HB8.out),Hi (by rw[List.length_append];exact HR8.out),HF8⟩
  ·have HOA:Hid (okRows l=true):=Hi (by have:=HOK.out;rwa[List.take_of_length_le (by omega)]at this)
   have hgs:=HGS.out;rw[List.take_of_length_le (by omega)]at hgs
   have hgl:gs.length=l.length:=by rw[hgs,List.length_map]
   have HGE:=Hi hgs;have HFS:=Hi (show ∀ r∈gs,r.num.size.length≤1000000 from fun r hr=>by
    rw[hgs]at hr
    obtain⟨x,hx,rfl⟩:=List.mem_map.1 hr
    have:=trimS_le x.num.size;have:=(HFT.out x hx).2;show (trimS x.num.size).length≤_
    omega)
   have z0:=HB.out.cell 0;simp only[SG]at z0
   have HSO:=Hi (sortFunc_any _ gs (z+1) (fun k=>k=z) wr HRW.out (by omega) HFS.out);have p1:¬(j:Int)<(l.length:Int):=by omega
   have hkp:=HRW.out.keep;have HKP:=Hi hkp;have HGN:=Hi hgl;have hgn:gs.length≤12:=by omega
   clear hgs hgl hkp;go_wp2_with fail
   refine HSO.out.mono ?_;rintro e w5 ⟨rfl,⟨s,hsp,hsu,hsr⟩,F5⟩;have hsl:s.length=gs.length:=hsp.length_eq;have HSL:=Hi hsl;have B5:=HB.out.fr F5 (fun e=>by have:=(HKP.out _ e).1;omega);have HB5:=Hi B5;have HF5:=Hi (HF.out.trans' F5 (fun i hi e=>by have:=(HKP.out _ e).1;have:=HZ.out;omega));have HS5:=Hi hsr;have HNS:=Hi (newIx_sorted HOA.out (by rw[←HGE.out];exact hsp) hsu);have HFZ:=Hi (show ∀ r∈s,r.num.size.length≤1000000 from fun r hr=>HFS.out r (hsp.mem_iff.1 hr));clear hsl B5 F5 hsr hsp hsu z0 HSO;go_wp2_with fail
   go_loopg [9] gs.length (fun g ii wx=>∃ q:Nat,g=gs.length-q∧q≤1000∧ii=.int .i64 ((q:Int)+1)∧Hid (∀ (j:Nat) (x y:RowP),j<q→s[j]? = some x→s[j+1]? = some y→rowK x≠rowK y)∧Hid (Fz w5 wx))
   case atStart=>exact⟨0,rfl,by omega,rfl,Hi (fun j x y hj=>absurd hj (Nat.not_lt_zero _)),Hi (Fr.refl _)⟩
   case round=>
    obtain⟨q,hg,hq,rfl,HAP,HFX⟩:=hrel
    have HG2:=Hi hg;clear hg;have BX:=HB5.out.fr HFX.out (fun h=>h);have z0:=BX.cell 0;simp only[List.getElem?_toArray,List.getElem?_cons_zero]at z0
    by_cases hql:q+1<gs.length
    ·obtain⟨rx,hrx⟩:∃ rx,s[q]? = some rx:=⟨_,List.getElem?_eq_getElem (by have:=HSL.out;omega)⟩
     obtain⟨ry,hry⟩:∃ ry,s[q+1]? = some ry:=⟨_,List.getElem?_eq_getElem (by have:=HSL.out;omega)⟩
     have hat:=((HS5.out.old HFX.out).at (by decide):Slots wr _ s);obtain⟨b,o,us,rfl,-,hus,hRx,hcx⟩:=LAt.get hat hrx
     obtain⟨b',o',vs,hbo,-,hvs,hRy,hcy⟩:=LAt.get hat hry
     simp only[Option.some.injEq,Addr.mk.injEq,and_true]at hbo
     obtain⟨rfl,rfl⟩:=hbo
     obtain⟨u0,u1,u2,u3,u4,u5,u6,rfl⟩:=seven_of hus
     obtain⟨v0,v1,v2,v3,v4,v5,v6,rfl⟩:=seven_of hvs
     have HCE:=Hi (fun W (F:Fz wr W)=>orderSlots_any _ _ rx ry W (RSlot.old _ _ _ _ hRx F) (RSlot.old _ _ _ _ hRy F) (HFZ.out rx (List.mem_of_getElem? hrx)) (HFZ.out ry (List.mem_of_getElem? hry)));obtain⟨k,hk⟩:∃ k,k=rowC rx ry:=⟨_,rfl⟩
     rw[←hk]at HCE
     have HK:=Hi hk
     have hE:∀ w',Fz wr w'→(w'.cell? ⟨z,0,none⟩=some (.slice (some ⟨b,o,none⟩) gs.length c))∧(w'.cell? ⟨b,o+q*7,none⟩=some u0∧w'.cell? ⟨b,o+q*7+1,none⟩=some u1∧w'.cell? ⟨b,o+q*7+2,none⟩=some u2∧w'.cell? ⟨b,o+q*7+3,none⟩=some u3∧w'.cell? ⟨b,o+q*7+4,none⟩=some u4∧w'.cell? ⟨b,o+q*7+5,none⟩=some u5∧w'.cell? ⟨b,o+q*7+6,none⟩=some u6)∧w'.cell? ⟨b,o+(q+1)*7,none⟩=some v0∧w'.cell? ⟨b,o+(q+1)*7+1,none⟩=some v1∧w'.cell? ⟨b,o+(q+1)*7+2,none⟩=some v2∧w'.cell? ⟨b,o+(q+1)*7+3,none⟩=some v3∧w'.cell? ⟨b,o+(q+1)*7+4,none⟩=some v4∧w'.cell? ⟨b,o+(q+1)*7+5,none⟩=some v5∧w'.cell? ⟨b,o+(q+1)*7+6,none⟩=some v6:=fun w' F=>
      ⟨F.cell z0 (fun h=>h),⟨F.cell (hcx 0 _ rfl) (fun h=>h),F.cell (hcx 1 _ rfl) (fun h=>h),F.cell (hcx 2 _ rfl) (fun h=>h),F.cell (hcx 3 _ rfl) (fun h=>h),F.cell (hcx 4 _ rfl) (fun h=>h),F.cell (hcx 5 _ rfl) (fun h=>h),F.cell (hcx 6 _ rfl) (fun h=>h)⟩,F.cell (hcy 0 _ rfl) (fun h=>h),F.cell (hcy 1 _ rfl) (fun h=>h),F.cell (hcy 2 _ rfl) (fun h=>h),F.cell (hcy 3 _ rfl) (fun h=>h),F.cell (hcy 4 _ rfl) (fun h=>h),F.cell (hcy 5 _ rfl) (fun h=>h),F.cell (hcy 6 _ rfl) (fun h=>h)⟩
     have HEE:=Hi hE;have HFD:=Hi (Fr.refl wr:Fz wr wr).drew;have HSX:=Hi hrx;have HSY:=Hi hry;have c1:(q:Int)+1<(gs.length:Int):=by omega
     have c3:(0:Int)≤(q:Int):=by omega
     have c4:(q:Int)<(gs.length:Int):=by omega
     have c5:(0:Int)≤(q:Int)+1:=by omega
     have c7:((q:Int)+1).toNat=q+1:=by omega
     have c8:q<gs.length:=by omega
     have hw1:IntKind.i64.wrap ((q:Int)+1-1)=(q:Int):=by simp[IntKind.wrap,IntKind.signed,IntKind.bits];omega
     have hw2:IntKind.i64.wrap (q:Int)=(q:Int):=by simp[IntKind.wrap,IntKind.signed,IntKind.bits];omega
     clear hat hcx hcy hRx hRy hk hE hrx hry BX;by_cases hkk:k=0
     ·have c9:decide (k=0)=true:=decide_eq_true hkk
      have c10:(k==0)=true:=by rw[hkk];rfl
      have HNO:=Hi (show newIx l=.error 10 from by
       rw[HNS.out,if_neg]
       intro h;exact apart_iff.1 h q rx ry HSX.out HSY.out (rowC_zero.1 (by rw[←HK.out];exact hkk)))
      clear hkk;go_upto_region 14 with fail
      clear z0
      go_region_held3 (fun w'=>(w'.cell? ⟨z,0,none⟩=some (.slice (some ⟨b,o,none⟩) gs.length c))∧(w'.cell? ⟨b,o+q*7,none⟩=some u0∧w'.cell? ⟨b,o+q*7+1,none⟩=some u1∧w'.cell? ⟨b,o+q*7+2,none⟩=some u2∧w'.cell? ⟨b,o+q*7+3,none⟩=some u3∧w'.cell? ⟨b,o+q*7+4,none⟩=some u4∧w'.cell? ⟨b,o+q*7+5,none⟩=some u5∧w'.cell? ⟨b,o+q*7+6,none⟩=some u6)∧w'.cell? ⟨b,o+(q+1)*7,none⟩=some v0∧w'.cell? ⟨b,o+(q+1)*7+1,none⟩=some v1∧w'.cell? ⟨b,o+(q+1)*7+2,none⟩=some v2∧w'.cell? ⟨b,o+(q+1)*7+3,none⟩=some v3∧w'.cell? ⟨b,o+(q+1)*7+4,none⟩=some v4∧w'.cell? ⟨b,o+(q+1)*7+5,none⟩=some v5∧w'.cell? ⟨b,o+(q+1)*7+6,none⟩=some v6) (first|(with_reducible exact HEE.out _ HFD.out)|(with_reducible exact HEE.out _ (HFD.out.trans F2))|fail) (first
       |(go_at_call 39;(with_reducible refine(HCE.out _ HFD.out).mono ?_);rintro e w2 ⟨rfl,F2⟩)
       |fail)
      all_goals
       have HF9:=Hi (HF5.out.trans (HFX.out.trans (HFD.out.trans F2)));clear F2 HCE;go_wp2_with fail
       refine bodyPost_ret (v:=.tuple #[.pointer none,.int .i64 10]) (by simp[results,Tryz.results10,go_sem]) rfl ⟨by unfold NewOut;rw[HNO.out],HF9.out⟩
     ·have c9:decide (k=0)=false:=decide_eq_false hkk
      have c10:(k==0)=false:=beq_eq_false_iff_ne.2 hkk;have HAP2:=Hi (show ∀ (j:Nat) (x y:RowP),j<q+1→s[j]? = some x→s[j+1]? = some y→rowK x≠rowK y from fun j x y hj hx hy=>by
       rcases Nat.lt_or_ge j q with h|h
       ·exact HAP.out j x y h hx hy
       ·obtain rfl:j=q:=by omega
        rw[HSX.out]at hx
        rw[HSY.out]at hy
        obtain rfl:=Option.some.inj hx
        obtain rfl:=Option.some.inj hy
        exact fun e=>hkk (by rw[HK.out];exact rowC_zero.2 e))
      clear hkk;go_upto_region 14 with fail
      clear z0
      go_region_held3 (fun w'=>(w'.cell? ⟨z,0,none⟩=some (.slice (some ⟨b,o,none⟩) gs.length c))∧(w'.cell? ⟨b,o+q*7,none⟩=some u0∧w'.cell? ⟨b,o+q*7+1,none⟩=some u1∧w'.cell? ⟨b,o+q*7+2,none⟩=some u2∧w'.cell? ⟨b,o+q*7+3,none⟩=some u3∧w'.cell? ⟨b,o+q*7+4,none⟩=some u4∧w'.cell? ⟨b,o+q*7+5,none⟩=some u5∧w'.cell? ⟨b,o+q*7+6,none⟩=some u6)∧w'.cell? ⟨b,o+(q+1)*7,none⟩=some v0∧w'.cell? ⟨b,o+(q+1)*7+1,none⟩=some v1∧w'.cell? ⟨b,o+(q+1)*7+2,none⟩=some v2∧w'.cell? ⟨b,o+(q+1)*7+3,none⟩=some v3∧w'.cell? ⟨b,o+(q+1)*7+4,none⟩=some v4∧w'.cell? ⟨b,o+(q+1)*7+5,none⟩=some v5∧w'.cell? ⟨b,o+(q+1)*7+6,none⟩=some v6) (first|(with_reducible exact HEE.out _ HFD.out)|(with_reducible exact HEE.out _ (HFD.out.trans F2))|fail) (first
       |(go_at_call 39;(with_reducible refine(HCE.out _ HFD.out).mono ?_);rintro e w2 ⟨rfl,F2⟩)
       |fail)
      all_goals
       have HF9:=Hi (HFX.out.trans (HFD.out.trans F2));clear F2 HCE;go_wp2_with fail
       go_roundg (gs.length-(q+1))
       case measure=>rw[HG2.out];omega
       case rel=>exact⟨q+1,rfl,by omega,by go_num,HAP2,HF9⟩
    ·have HNO:=Hi (show newIx l=.ok s from by
      rw[HNS.out,if_pos]
      exact apart_iff.2 (fun j x y hx hy=>HAP.out j x y (by have:=(List.getElem?_eq_some_iff.1 hy).1;have:=HSL.out;omega) hx hy))
     have HIX:=Hi (show IxAt wr (pt z) s from .inr ⟨z,_,rfl,z0,(HS5.out.old HFX.out).at (by decide)⟩);have HF9:=Hi (HF5.out.trans HFX.out);have c1:¬(q:Int)+1<(gs.length:Int):=by omega
     clear BX;go_wp2_with fail
     refine bodyPost_ret (v:=.tuple #[pt z,.int .i64 0]) (by simp[results,Tryz.results10,go_sem]) rfl ⟨by unfold NewOut;rw[HNO.out];exact⟨z,rfl,HIX.out⟩,HF9.out⟩
theorem ixAdd_any (b base top:Nat)(cs:List Value)(r:RowP)(gs:List RowP)(w:World)(h:IxOwnT w b base top gs)(hb:base≤w.heap.size)(hr:RSlot w cs r)(hf:fitR r)(hl:gs.length≤1000000) :
  Calls Tryz.prog 50 #[pt b,.agg cs.toArray] w fun e w'=>e=.returned (.tuple #[])∧IxOwn w' b base (gs++[nrow r])∧Fr (fun k=>k=b∨(base≤k∧k<top)) w w':=by
 obtain⟨a,c,hbb,BZ,hrow,htop⟩:=h
 have HTOP:=Hi htop;clear htop;obtain⟨us,rfl,hR⟩:=hr
 have HRR:=Hi hR;obtain⟨a1,c1,b1,d1,q1,rfl,-⟩:=hR.form
 obtain⟨y,hy⟩:∃ y,y=w.heap.size:=⟨_,rfl⟩
 have HY:=Hi hy;have FA:Fz w (w.alloc (.cells #[str (nameKeyS r.iss),.slice a1 r.iss.length c1,.bool r.num.below,.slice b1 r.num.size.length d1,.int .i64 r.date,.int .i64 r.reason,.pointer q1] 78)):=(Fr.refl w).alloc _;have BY:=Blk.new w 78 #[str (nameKeyS r.iss),.slice a1 r.iss.length c1,.bool r.num.below,.slice b1 r.num.size.length d1,.int .i64 r.date,.int .i64 r.reason,.pointer q1];rw[←hy]at BY
 have HFA:=Hi FA;have HBZ:=Hi BZ;have HRW:=Hi hrow;have HBB:=Hi hbb;have HB0:=Hi hb;have HFT:=Hi hf;have HL:=Hi hl;clear hR hy FA BZ hrow hbb hb hf hl;go_enter Tryz.func50,Tryz.ntmps50
 go_upto_region 1 with fail
 rw[←HY.out]
 have BZ:=(HBZ.out.fr HFA.out (fun h=>h)).drew;replace BY:=BY.drew;have hsz0:y<(w.alloc (.cells #[str (nameKeyS r.iss),.slice a1 r.iss.length c1,.bool r.num.below,.slice b1 r.num.size.length d1,.int .i64 r.date,.int .i64 r.reason,.pointer q1] 78)).heap.size:=BY.lt;generalize (w.alloc (.cells #[str (nameKeyS r.iss),.slice a1 r.iss.length c1,.bool r.num.below,.slice b1 r.num.size.length d1,.int .i64 r.date,.int .i64 r.reason,.pointer q1] 78))=w3 at *
 have HC:=Hi (fun W (F:Fz w3 W)=>ixCopied_any _ r W (RRow.old _ _ _ _ HRR.out (HFA.out.trans F)) HFT.out.1 HFT.out.2.1 HFT.out.2.2);have HR3:=Hi (HRW.out.old HFA.out);have HS3:=Hi hsz0;have G:Fz w3 w3.drew:=(Fr.refl w3).drew;obtain⟨x,hx⟩:∃ x,x=madeS r.num:=⟨_,rfl⟩
 rw[←hx]at HC
 have HXR:=Hi (fun (W:World) (vi vs vp:Value) (g:RRow W [vi,.bool x.below,vs,.int .i64 r.date,.int .i64 r.reason,vp] (nrow r))=>show RSlot W [str (nameKeyS r.iss),vi,.bool x.below,vs,.int .i64 r.date,.int .i64 r.reason,vp] (nrow r) from ⟨_,rfl,g⟩);clear hx hsz0;refine wp_region_N 13 (S:=fun w'=>w'.cell? ⟨b,0,none⟩=some (.slice a gs.length c)∧∀ j,w'.cell? ⟨y,j,none⟩=(#[str (nameKeyS r.iss),.slice a1 r.iss.length c1,.bool r.num.below,.slice b1 r.num.size.length d1,.int .i64 r.date,.int .i64 r.reason,.pointer q1]:Array Value)[j]?) (by kernel_rfl) ?_ (fun hHeld=>?_)
 ·exact⟨BZ.cell 0,BY.cell⟩
 refine tkN 0 rfl hHeld ?_;refine tkN 1 rfl hHeld ?_;refine tkN 2 rfl hHeld ?_;(try simp only[Act.put,SS]);refine tkN 3 rfl hHeld ?_;refine tkN 4 rfl hHeld ?_;refine tkN 5 rfl hHeld ?_;(try simp only[Act.put,SS]);refine tkN 6 rfl hHeld ?_;refine tkN 7 rfl hHeld ?_;refine tkN 8 rfl hHeld ?_;(try simp only[Act.put,SS]);refine stN 9 (fun KK hKK=>?_);go_simp
 (go_at_call 37;(with_reducible refine(HC.out _ G).mono ?_);rintro e w' ⟨⟨a2,c2,b2,d2,q2,rfl,hk⟩,F⟩;replace BZ:=BZ.fr F (fun h=>h);replace BY:=BY.fr F (fun h=>h);have hsz:=G.size;replace G:=G.trans F;clear F HC;go_wp2_with fail)
 refine hKK.out _ _ ?_ (fun hHeld=>?_)
 ·exact⟨BZ.cell 0,BY.cell⟩
 clear hKK KK;(try simp only[Act.put,SS]);refine tkN 10 rfl hHeld ?_;(try simp only[Act.put,SS]);have BZA:=BZ.alloc (.cells [str (nameKeyS r.iss),.slice a2 r.iss.length c2,.bool x.below,.slice b2 x.size.length d2,.int .i64 r.date,.int .i64 r.reason,.pointer q2].toArray 78);have BYA:=BY.alloc (.cells [str (nameKeyS r.iss),.slice a2 r.iss.length c2,.bool x.below,.slice b2 x.size.length d2,.int .i64 r.date,.int .i64 r.reason,.pointer q2].toArray 78)
 obtain⟨a7,c7,w7,hrun,hrow7,F7,hown⟩:=(HR3.out.old G).add (s:=71) Tryz.underlying71 info78 rfl (by decide) (by decide) (by have:=HB0.out;have:=HFA.out.size;have:=G.size;omega) ((Fr.refl w').alloc (.cells [str (nameKeyS r.iss),.slice a2 r.iss.length c2,.bool x.below,.slice b2 x.size.length d2,.int .i64 r.date,.int .i64 r.reason,.pointer q2].toArray 78)) w'.heap.size [str (nameKeyS r.iss),.slice a2 r.iss.length c2,.bool x.below,.slice b2 x.size.length d2,.int .i64 r.date,.int .i64 r.reason,.pointer q2] rfl (Blk.new w' 78 [str (nameKeyS r.iss),.slice a2 r.iss.length c2,.bool x.below,.slice b2 x.size.length d2,.int .i64 r.date,.int .i64 r.reason,.pointer q2].toArray) (by simp[Value.oneCell',str]) (nrow r) ((hk.weaken (fun k hk=>by
   have hd:w3.drew.heap.size=w3.heap.size:=rfl;have:=HFA.out.size;rcases hk with hk|hk
   ·have:=(HRW.out.keep k hk).2;omega
   ·have hk2:k<base:=hk
    have:=HB0.out;omega)).imp (fun W g=>HXR.out W _ _ _ g)) (by have:=HL.out;omega)
 have hk7:=HRW.out.keep;have hk8:=hrow7.keep;have BZ7:=BZ.fr F7 (fun e=>by have:=(hk7 _ e).1;have:=HBB.out;omega);have BY7:=BY.fr F7 (fun e=>by have:=(hk7 _ e).2;have:=HY.out;omega);have F7w:=(G.mono (T:=fun k=>(Value.slice a gs.length c).ownBlock=some k) (fun _ _ h=>h.elim)).trans F7;have z0:=BZ7.cell 0;have f0:=BZ7.frozen 0;have z0s:w7.cell? ⟨b,0,none⟩=some (.slice a gs.length c):=z0;have HRUN:=Hi hrun;refine stN 11 (fun KK hKK=>?_);go_simp
 skip
 refine hKK.out _ _ ?_ (fun hHeld=>?_)
 ·exact⟨BZA.cell 0,BYA.cell⟩
 clear hKK KK;(try simp only[Act.put,SS]);refine stN 12 (fun KK hKK=>?_);refine step_append_run (by rfl) (.tmp 8) (.tmp 15) 71 (by rfl) _ w7 (by exact HRUN.out) ?_;refine hKK.out _ _ ?_ (fun hHeld=>?_)
 ·exact⟨BZ7.cell 0,BY7.cell⟩
 clear hKK KK;(try simp only[Act.put,SS]);refine wpAnyN_last (i:=13) (by kernel_rfl) (by decide) (o:=_) rfl (fun KK hKK=>?_);go_simp
 skip
 refine hKK.out _ _ ?_;clear hKK KK;(try simp only[Act.put,SS]);refine wpAnyN_last (i:=14) (by kernel_rfl) (by decide) (o:=_) rfl (fun KK hKK=>?_);go_simp
 skip
 refine hKK.out _ _ ?_;clear hKK KK;(try simp only[Act.put,SS]);refine wpAnyN_last (i:=15) (by kernel_rfl) (by decide) (o:=_) rfl (fun KK hKK=>?_);go_simp
 skip
 refine hKK.out _ _ ?_;clear hKK KK;(try simp only[Act.put,SS]);refine wpAnyN_done (by kernel_rfl) ?_ _;have B8:Blk (w7.setCell ⟨b,0,none⟩ (.slice a7 (gs.length+1) c7)) b 73 #[.slice a7 (gs.length+1) c7]:=BZ7.set 0 _;have F8:Fr (fun k=>k=b) w7 (w7.setCell ⟨b,0,none⟩ (.slice a7 (gs.length+1) c7)):=Fr.setCell (S:=fun k=>k=b) (p:=⟨b,0,none⟩) (Fr.refl w7) (fun _=>rfl) _;have R8:=hrow7.fr F8 (fun k _ e=>by have e2:k=b:=e;have:=HBB.out;show k<base;omega) (fun k hk e=>by have:=(hk8 k hk).1;have e2:k=b:=e;have:=HBB.out;omega)
 have HOUT:=Hi (show IxOwn (w7.setCell ⟨b,0,none⟩ (.slice a7 (gs.length+1) c7)) b base (gs++[nrow r]) from ⟨a7,c7,HBB.out,by rw[List.length_append];exact B8,by rw[List.length_append];exact R8⟩);have HF8:=Hi (((HFA.out.mono (T:=fun k=>k=b∨(base≤k∧k<top)) (fun _ _ h=>h.elim)).trans' F7w (fun i hi e=>.inr ⟨(hk7 i e).1,HTOP.out i e⟩)).trans' F8 (fun i hi e=>.inl e));clear B8 F8 hk8 R8 F7w hk7 BZ7 BY7 BZA BYA z0 z0s f0 hrun hrow7 F7 hown hk G BZ BY hsz;go_end0
 exact⟨rfl,HOUT.out,HF8.out⟩
attribute [local go_sem] Oper.semAt_some
theorem six_of {l:List Value}(h:l.length=6):∃ a b c d e f,l=[a,b,c,d,e,f]:=by
 match l,h with
 | [a,b,c,d,e,f],_=>exact⟨a,b,c,d,e,f,rfl⟩
theorem ixSame_any (va vb:Value)(L M:List RowP)(w:World)(ha:IxAt w va L)(hb:IxAt w vb M)(hsL:∀ r∈L,r.num.size.length≤1000000)(hsM:∀ r∈M,r.num.size.length≤1000000) :
  Calls Tryz.prog 22 #[va,vb] w fun e w'=>e=.returned (.bool (sameS L M))∧Fz w w':=by
 obtain⟨aL,cL,ha⟩:=ha.sl
 obtain⟨aM,cM,hb⟩:=hb.sl
 obtain⟨z,hz⟩:∃ z,z=w.heap.size:=⟨_,rfl⟩
 have HZ:=Hi hz;have F0:Fz w (w.alloc (.cells #[.bool false] 4)):=(Fr.refl w).alloc _;have BZ:=Blk.new w 4 #[.bool false];rw[←hz]at BZ
 have HSD:=Hi (side_any va vb aL aM cL cM L M w _ F0 ha hb hsL hsM);have HSL:=Hi ha.slots;have HSM:=Hi hb.slots;have HF0:=Hi F0;have h3:∃ p,va=.pointer p:=by
  rcases ha with ⟨rfl,-⟩|⟨b,rfl,-⟩
  ·exact⟨_,rfl⟩
  ·exact⟨_,rfl⟩
 have h4:∃ p,vb=.pointer p:=by
  rcases hb with ⟨rfl,-⟩|⟨b,rfl,-⟩
  ·exact⟨_,rfl⟩
  ·exact⟨_,rfl⟩
 have HEQ:Hid (sameS L M=(sideR L M).all sameP):=Hi rfl;clear ha hb hsL hsM F0 h3 h4 hz;refine(callsIn_wide (n:=3)).1 ?_
 refine callsIn_of_wp_marks Tryz.func22 rfl trivial ?_ rfl;simp only[Tryz.ntmps22,List.size_toArray,List.length_cons,List.length_nil,Nat.reduceAdd,Nat.reduceSub,Array.replicate_succ,Array.replicate_zero,List.push_toArray,List.append_toArray,List.nil_append,List.cons_append]
 gi_upto_region 1 with fail
 rw[←HZ.out]
 generalize (w.alloc (.cells #[.bool false] 4))=w0 at *
 gi_wp2_with (refine⟨trivial,?_⟩;gi_at_call 49;refine(callsIn_wide.2 HSD.out).mono ?_;rintro e w2 ⟨⟨ba,bb,rfl,h1,h2,h3,h4,hit⟩,F2⟩)
 have lz:=BZ.lt;have BZ2:=BZ.fr F2 (fun h=>h);have HF2:=Hi (HF0.out.trans F2);have HBA:=Hi (show z<ba∧z<bb∧ba<w2.heap.size∧bb<w2.heap.size from ⟨by omega,by omega,h3,h4⟩);have HIT:=Hi hit;clear HSD hit h1 h2 h3 h4 F2 BZ lz;refine range_lawW (gf:=81) (lb:=#[pt ba,pt bb]) rfl (enters_of Tryz.func81 (by kernel_rfl) rfl) (C:=fun k=>k=ba∨k=bb) (base:=w.heap.size) (fun k hk=>by have:=HBA.out;rcases hk with hk|hk<;>omega) HF2.out.size HIT.out rfl
  (fun pre W=>Blk W z 4 #[.bool false]∧Fz w W∧((sideR L M).take pre.length).all sameP=true)
  (fun c pre W=>c=.ret∧Blk W z 4 #[.bool false]∧Fz w W∧sameS L M=false)
  (fun s A B h f=>⟨h.1.fr f (by have:=HBA.out;omega),h.2.1.trans' f (fun i hi e=>by have:=HBA.out;have:=HZ.out;have:=HF2.out.size;omega),h.2.2⟩)
  (fun c s A B h f=>⟨h.1,h.2.1.fr f (by have:=HBA.out;omega),h.2.2.1.trans' f (fun i hi e=>by have:=HBA.out;have:=HZ.out;have:=HF2.out.size;omega),h.2.2.2⟩)
  ⟨BZ2,HF2.out,by simp⟩
  (fun x W=>{ tmps:=#[va,vb,undef,undef,.pointer (some ⟨z,0,none⟩),.pointer (some ⟨W.heap.size,0,none⟩),va,vb,.func (.func 81) #[] #[pt ba,pt bb],x,undef,undef,undef,undef,undef,undef,undef,undef,undef,undef,undef,undef,undef,undef,undef,undef,undef,undef,undef,undef,undef,undef],defers:=[] }) (fun x W=>W.alloc (.cells x.cells 95)) (fun x W=>(Fr.refl W).alloc _) ?assign ?body ?done ?stop
 case assign=>
  intro l pre x rest W K hx hK;obtain⟨p,q,rfl⟩:=pair_form hx
  gi_wp2
  exact hK
 case body=>
  rintro l pre x rest W W2 hx ⟨BZ,F,hall⟩ hE F2;obtain⟨p,hp1,rfl,hp2,hcase⟩:=pair_at hx
  obtain⟨y,hy⟩:∃ y,y=W.heap.size:=⟨_,rfl⟩
  have HY:=Hi hy;have FA:Fz W (W.alloc (.cells (pairV aL aM p).cells 95)):=(Fr.refl W).alloc _;have BY:Blk W2 W.heap.size 95 (pairV aL aM p).cells:=(Blk.new W 95 _).fr F2 (by omega);have hz2:=HF2.out.size;have FW2:Fz w W2:=(F.trans FA).trans' F2 (fun i hi e=>by have e2:i=w2.heap.size+1:=e;omega);have BZ2:Blk W2 z 4 #[.bool false]:=(BZ.fr FA (fun h=>h)).fr F2 (by have:=HBA.out;omega);have hmem:=List.mem_of_getElem? hp2;have HMEM:=Hi hmem;have HTK:=Hi (take_more hp2);have HALL:=Hi hall;have HPL:=Hi (show (pre++[pairV aL aM p]).length=pre.length+1 by rw[List.length_append];rfl)
  have HFP:Hid (sameP (atP L M p)=false→sameS L M=false):=Hi (fun h=>by rw[HEQ.out,List.all_eq_false];exact⟨_,HMEM.out,by rw[h];simp⟩);rw[←hy]at BY ⊢
  clear hx hp2 hmem hall F FA F2 hz2 hE HIT hy;rcases hcase with ⟨i,r,rfl,hi⟩|⟨j,s,rfl,hj⟩|⟨i,j,r,s,rfl,hi,hj⟩
  ·obtain⟨b,o,us,haL,-⟩:=slot_row HSL.out hi
   have HFS:=Hi (HFP.out (by simp[atP,hi,sameP]));rw[pairV_l haL]at BY ⊢
   clear hi haL HFP HALL HTK hp1;simp only[Value.cells]at BY
   have p0:=BY.drew.cell 0;have p1:=BY.drew.cell 1;simp only[SG]at p0 p1
   have HB2:=Hi BZ2.drew;have HG:=Hi (FW2.drew (S:=fun _=>False));have z0:=HB2.out.cell 0;have f0:=HB2.out.frozen 0;simp only[SG]at z0
   clear BZ BZ2 BY FW2;gi_upto_region 3 with fail
   refine wpIn_region_N 22 (S:=fun w'=>w'.cell? ⟨y,0,none⟩=some (.pointer (some ⟨b,o+i*7,none⟩))∧w'.cell? ⟨y,1,none⟩=some (.pointer none)) (by kernel_rfl) (by kernel_rfl) (by rintro ⟨a,w,h⟩;exact h) ?_ (fun hHeld=>?_)
   ·exact⟨p0,p1⟩
   refine tkN 0 rfl hHeld ?_;refine tkN 1 rfl hHeld ?_;refine tkN 2 rfl hHeld ?_;(try simp only[Act.put,SS]);refine tkN 3 rfl hHeld ?_;refine tkN 4 rfl hHeld ?_;refine tkN 5 rfl hHeld ?_;(try simp only[Act.put,SS]);refine tkN 6 rfl hHeld ?_;refine tkN 7 rfl hHeld ?_;refine tkN 8 rfl hHeld ?_;(try simp only[Act.put,SS]);refine tkS 9 rfl hHeld ?_;refine tkS 10 rfl hHeld ?_;refine tkS 11 rfl hHeld ?_;(try simp only[Act.put,SK,SS]);refine tkS 12 rfl hHeld ?_;refine tkS 13 rfl hHeld ?_;refine tkS 14 rfl hHeld ?_;(try simp only[Act.put,SK,SS]);refine tkS 15 rfl hHeld ?_;refine tkS 16 rfl hHeld ?_
   refine tkS 17 rfl hHeld ?_;(try simp only[Act.put,SK,SS]);refine tkS 18 rfl hHeld ?_;refine tkS 19 rfl hHeld ?_;refine tkS 20 rfl hHeld ?_;(try simp only[Act.put,SK,SS]);refine tkN 21 rfl hHeld ?_;(try simp only[Act.put,SS]);refine wpAnyN_done (by kernel_rfl) ?_ _;gi_wp2
   have F4:Fr (fun k=>k=z) W2.drew (W2.drew.setCell ⟨z,0,none⟩ (.bool false)):=Fr.setCell (S:=fun k=>k=z) (p:=⟨z,0,none⟩) (Fr.refl _) (fun _=>rfl) _;have B4:=HB2.out.set 0 (.bool false);simp at B4
   exact⟨((Fr.refl W2).drew).trans (F4.mono (fun k _ e=>by have:=HBA.out;have:=HZ.out;have e2:k=z:=e;exact⟨by omega,by omega,by omega,by omega⟩)),rfl,B4,HG.out.trans' F4 (fun i hi e=>by have e2:i=z:=e;have:=HZ.out;omega),HFS.out⟩
  ·obtain⟨b,o,us,haM,-⟩:=slot_row HSM.out hj
   have HFS:=Hi (HFP.out (by simp[atP,hj,sameP]));rw[pairV_r haM]at BY ⊢
   clear hj haM HFP HALL HTK hp1;simp only[Value.cells]at BY
   have p0:=BY.drew.cell 0;have p1:=BY.drew.cell 1;simp only[SG]at p0 p1
   have HB2:=Hi BZ2.drew;have HG:=Hi (FW2.drew (S:=fun _=>False));have z0:=HB2.out.cell 0;have f0:=HB2.out.frozen 0;simp only[SG]at z0
   clear BZ BZ2 BY FW2;gi_upto_region 3 with fail
   refine wpIn_region_N 22 (S:=fun w'=>w'.cell? ⟨y,0,none⟩=some (.pointer none)∧w'.cell? ⟨y,1,none⟩=some (.pointer (some ⟨b,o+j*7,none⟩))) (by kernel_rfl) (by kernel_rfl) (by rintro ⟨a,w,h⟩;exact h) ?_ (fun hHeld=>?_)
   ·exact⟨p0,p1⟩
   refine tkN 0 rfl hHeld ?_;refine tkN 1 rfl hHeld ?_;refine tkN 2 rfl hHeld ?_;(try simp only[Act.put,SS]);refine tkN 3 rfl hHeld ?_;refine tkS 4 rfl hHeld ?_;refine tkS 5 rfl hHeld ?_;(try simp only[Act.put,SK,SS]);refine tkS 6 rfl hHeld ?_;refine tkN 7 rfl hHeld ?_;refine tkN 8 rfl hHeld ?_;(try simp only[Act.put,SS]);refine tkS 9 rfl hHeld ?_;refine tkS 10 rfl hHeld ?_;refine tkS 11 rfl hHeld ?_;(try simp only[Act.put,SK,SS]);refine tkS 12 rfl hHeld ?_;refine tkS 13 rfl hHeld ?_;refine tkS 14 rfl hHeld ?_;(try simp only[Act.put,SK,SS]);refine tkS 15 rfl hHeld ?_;refine tkS 16 rfl hHeld ?_
   refine tkS 17 rfl hHeld ?_;(try simp only[Act.put,SK,SS]);refine tkS 18 rfl hHeld ?_;refine tkS 19 rfl hHeld ?_;refine tkS 20 rfl hHeld ?_;(try simp only[Act.put,SK,SS]);refine tkN 21 rfl hHeld ?_;(try simp only[Act.put,SS]);refine wpAnyN_done (by kernel_rfl) ?_ _;gi_wp2
   have F4:Fr (fun k=>k=z) W2.drew (W2.drew.setCell ⟨z,0,none⟩ (.bool false)):=Fr.setCell (S:=fun k=>k=z) (p:=⟨z,0,none⟩) (Fr.refl _) (fun _=>rfl) _;have B4:=HB2.out.set 0 (.bool false);simp at B4
   exact⟨((Fr.refl W2).drew).trans (F4.mono (fun k _ e=>by have:=HBA.out;have:=HZ.out;have e2:k=z:=e;exact⟨by omega,by omega,by omega,by omega⟩)),rfl,B4,HG.out.trans' F4 (fun i hi e=>by have e2:i=z:=e;have:=HZ.out;omega),HFS.out⟩
  ·obtain⟨b,o,us,haL,hus,hRx,-,-,hcx⟩:=slot_row HSL.out hi
   obtain⟨b',o',vs,haM,hvs,hRy,-,-,hcy⟩:=slot_row HSM.out hj
   have hat:atP L M (some i,some j)=(some r,some s):=by simp[atP,hi,hj]
   rw[hat]at HFP HTK
   obtain⟨m,hm⟩:∃ m,m=likeR r s:=⟨_,rfl⟩
   have HFP2:Hid (m=false→sameS L M=false):=Hi (fun h=>HFP.out (by simp only[sameP];rw[←hm];exact h));have HTK2:Hid (m=true→((sideR L M).take (pre.length+1)).all sameP=true):=Hi (fun h=>by rw[HTK.out,List.all_append,HALL.out];simp[sameP,←hm,h]);rw[pairV_b haL haM]at BY ⊢
   simp only[Value.cells]at BY
   obtain⟨u0,u1,u2,u3,u4,u5,rfl⟩:=six_of hus
   obtain⟨v0,v1,v2,v3,v4,v5,rfl⟩:=six_of hvs
   have HLK:=Hi (like_any _ _ r s W2.drew (RRow.old _ _ _ _ hRx FW2.drew) (RRow.old _ _ _ _ hRy FW2.drew));rw[←hm]at HLK
   have HFW:=Hi (FW2.drew (S:=fun _=>False));have x0:=HFW.out.cell (hcx 0 _ rfl) (fun h=>h);have x1:=HFW.out.cell (hcx 1 _ rfl) (fun h=>h);have x2:=HFW.out.cell (hcx 2 _ rfl) (fun h=>h);have x3:=HFW.out.cell (hcx 3 _ rfl) (fun h=>h);have x4:=HFW.out.cell (hcx 4 _ rfl) (fun h=>h);have x5:=HFW.out.cell (hcx 5 _ rfl) (fun h=>h);have y0:=HFW.out.cell (hcy 0 _ rfl) (fun h=>h);have y1:=HFW.out.cell (hcy 1 _ rfl) (fun h=>h);have y2:=HFW.out.cell (hcy 2 _ rfl) (fun h=>h);have y3:=HFW.out.cell (hcy 3 _ rfl) (fun h=>h);have y4:=HFW.out.cell (hcy 4 _ rfl) (fun h=>h)
   have y5:=HFW.out.cell (hcy 5 _ rfl) (fun h=>h);simp only[Nat.add_zero]at x0 y0
   have p0:=BY.drew.cell 0;have p1:=BY.drew.cell 1;simp only[SG]at p0 p1
   have HB2:=Hi BZ2.drew
   have HKE:=Hi (fun W (F:Fz W2.drew W)=>show (W.cell? ⟨y,0,none⟩=some (.pointer (some ⟨b,o+i*7,none⟩))∧W.cell? ⟨y,1,none⟩=some (.pointer (some ⟨b',o'+j*7,none⟩)))∧(W.cell? ⟨b,o+i*7+1,none⟩=some u0∧W.cell? ⟨b,o+i*7+1+1,none⟩=some u1∧W.cell? ⟨b,o+i*7+1+2,none⟩=some u2∧W.cell? ⟨b,o+i*7+1+3,none⟩=some u3∧W.cell? ⟨b,o+i*7+1+4,none⟩=some u4∧W.cell? ⟨b,o+i*7+1+5,none⟩=some u5)∧W.cell? ⟨b',o'+j*7+1,none⟩=some v0∧W.cell? ⟨b',o'+j*7+1+1,none⟩=some v1∧W.cell? ⟨b',o'+j*7+1+2,none⟩=some v2∧W.cell? ⟨b',o'+j*7+1+3,none⟩=some v3∧W.cell? ⟨b',o'+j*7+1+4,none⟩=some v4∧W.cell? ⟨b',o'+j*7+1+5,none⟩=some v5 from ⟨⟨F.cell p0 (fun h=>h),F.cell p1 (fun h=>h)⟩,⟨F.cell x0 (fun h=>h),F.cell x1 (fun h=>h),F.cell x2 (fun h=>h),F.cell x3 (fun h=>h),F.cell x4 (fun h=>h),F.cell x5 (fun h=>h)⟩,F.cell y0 (fun h=>h),F.cell y1 (fun h=>h),F.cell y2 (fun h=>h),F.cell y3 (fun h=>h),F.cell y4 (fun h=>h),F.cell y5 (fun h=>h)⟩)
   clear BZ BZ2 BY FW2 hm hat HFP HTK HALL hRx hRy hcx hcy hus hvs hi hj hp1 haL haM;gi_upto_region 3 with fail
   cases m with
   |false=>
    refine wpIn_region_N 22 (S:=fun w'=>(w'.cell? ⟨y,0,none⟩=some (.pointer (some ⟨b,o+i*7,none⟩))∧w'.cell? ⟨y,1,none⟩=some (.pointer (some ⟨b',o'+j*7,none⟩)))∧(w'.cell? ⟨b,o+i*7+1,none⟩=some u0∧w'.cell? ⟨b,o+i*7+1+1,none⟩=some u1∧w'.cell? ⟨b,o+i*7+1+2,none⟩=some u2∧w'.cell? ⟨b,o+i*7+1+3,none⟩=some u3∧w'.cell? ⟨b,o+i*7+1+4,none⟩=some u4∧w'.cell? ⟨b,o+i*7+1+5,none⟩=some u5)∧w'.cell? ⟨b',o'+j*7+1,none⟩=some v0∧w'.cell? ⟨b',o'+j*7+1+1,none⟩=some v1∧w'.cell? ⟨b',o'+j*7+1+2,none⟩=some v2∧w'.cell? ⟨b',o'+j*7+1+3,none⟩=some v3∧w'.cell? ⟨b',o'+j*7+1+4,none⟩=some v4∧w'.cell? ⟨b',o'+j*7+1+5,none⟩=some v5) (by kernel_rfl) (by kernel_rfl) (by rintro ⟨a,w,h⟩;exact h) ?_ (fun hHeld=>?_)
    ·exact⟨⟨p0,p1⟩,⟨x0,x1,x2,x3,x4,x5⟩,y0,y1,y2,y3,y4,y5⟩
    refine tkN 0 rfl hHeld ?_;refine tkN 1 rfl hHeld ?_;refine tkN 2 rfl hHeld ?_;(try simp only[Act.put,SS]);refine tkN 3 rfl hHeld ?_;refine tkN 4 rfl hHeld ?_;refine tkN 5 rfl hHeld ?_;(try simp only[Act.put,SS]);refine tkN 6 rfl hHeld ?_;refine tkN 7 rfl hHeld ?_;refine tkN 8 rfl hHeld ?_;(try simp only[Act.put,SS]);refine tkG 9 rfl hHeld ?_;refine tkG 10 rfl hHeld ?_;refine tkG 11 rfl hHeld ?_;(try simp only[Act.put,SK,SS]);refine tkG 12 rfl hHeld ?_;refine tkG 13 rfl hHeld ?_;refine tkG 14 rfl hHeld ?_;(try simp only[Act.put,SK,SS]);refine tkG 15 rfl hHeld ?_;refine tkG 16 rfl hHeld ?_
    refine tkG 17 rfl hHeld ?_;(try simp only[Act.put,SK,SS]);refine tkG 18 rfl hHeld ?_;(try simp only[Act.put,SK,SS]);refine stN 19 (fun KK hKK=>?_);go_simp
    (go_at_call 51;(with_reducible refine HLK.out.mono ?_);rintro e W3 ⟨rfl,F3⟩;go_wp2_with fail)
    refine hKK.out _ _ ?_ (fun hHeld=>?_)
    ·exact HKE.out _ F3
    clear hKK KK;(try simp only[Act.put,SS]);refine tkG 20 rfl hHeld ?_;refine tkN 21 rfl hHeld ?_;(try simp only[Act.put,SS]);refine wpAnyN_done (by kernel_rfl) ?_ _;have B3:=HB2.out.fr F3 (fun h=>h);have z0:=B3.cell 0;have f0:=B3.frozen 0;simp only[SG]at z0
    have HG:=Hi (HFW.out.trans F3);have HF3:=Hi F3;have HB3:=Hi B3;clear x0 x1 x2 x3 x4 x5 y0 y1 y2 y3 y4 y5 p0 p1 B3 F3;gi_wp2
    have F4:Fr (fun k=>k=z) W3 (W3.setCell ⟨z,0,none⟩ (.bool false)):=Fr.setCell (S:=fun k=>k=z) (p:=⟨z,0,none⟩) (Fr.refl _) (fun _=>rfl) _;have B4:=HB3.out.set 0 (.bool false);simp at B4
    exact⟨((((Fr.refl W2).drew:Fz W2 W2.drew).trans HF3.out).mono (fun _ _ h=>h.elim)).trans (F4.mono (fun k _ e=>by have:=HBA.out;have:=HZ.out;have e2:k=z:=e;exact⟨by omega,by omega,by omega,by omega⟩)),rfl,B4,HG.out.trans' F4 (fun i hi e=>by have e2:i=z:=e;have:=HZ.out;omega),HFP2.out (by first|rfl|trivial)⟩
   |true=>
    refine wpIn_region_N 22 (S:=fun w'=>(w'.cell? ⟨y,0,none⟩=some (.pointer (some ⟨b,o+i*7,none⟩))∧w'.cell? ⟨y,1,none⟩=some (.pointer (some ⟨b',o'+j*7,none⟩)))∧(w'.cell? ⟨b,o+i*7+1,none⟩=some u0∧w'.cell? ⟨b,o+i*7+1+1,none⟩=some u1∧w'.cell? ⟨b,o+i*7+1+2,none⟩=some u2∧w'.cell? ⟨b,o+i*7+1+3,none⟩=some u3∧w'.cell? ⟨b,o+i*7+1+4,none⟩=some u4∧w'.cell? ⟨b,o+i*7+1+5,none⟩=some u5)∧w'.cell? ⟨b',o'+j*7+1,none⟩=some v0∧w'.cell? ⟨b',o'+j*7+1+1,none⟩=some v1∧w'.cell? ⟨b',o'+j*7+1+2,none⟩=some v2∧w'.cell? ⟨b',o'+j*7+1+3,none⟩=some v3∧w'.cell? ⟨b',o'+j*7+1+4,none⟩=some v4∧w'.cell? ⟨b',o'+j*7+1+5,none⟩=some v5) (by kernel_rfl) (by kernel_rfl) (by rintro ⟨a,w,h⟩;exact h) ?_ (fun hHeld=>?_)
    ·exact⟨⟨p0,p1⟩,⟨x0,x1,x2,x3,x4,x5⟩,y0,y1,y2,y3,y4,y5⟩
    refine tkN 0 rfl hHeld ?_;refine tkN 1 rfl hHeld ?_;refine tkN 2 rfl hHeld ?_;(try simp only[Act.put,SS]);refine tkN 3 rfl hHeld ?_;refine tkN 4 rfl hHeld ?_;refine tkN 5 rfl hHeld ?_;(try simp only[Act.put,SS]);refine tkN 6 rfl hHeld ?_;refine tkN 7 rfl hHeld ?_;refine tkN 8 rfl hHeld ?_;(try simp only[Act.put,SS]);refine tkG 9 rfl hHeld ?_;refine tkG 10 rfl hHeld ?_;refine tkG 11 rfl hHeld ?_;(try simp only[Act.put,SK,SS]);refine tkG 12 rfl hHeld ?_;refine tkG 13 rfl hHeld ?_;refine tkG 14 rfl hHeld ?_;(try simp only[Act.put,SK,SS]);refine tkG 15 rfl hHeld ?_;refine tkG 16 rfl hHeld ?_
    refine tkG 17 rfl hHeld ?_;(try simp only[Act.put,SK,SS]);refine tkG 18 rfl hHeld ?_;(try simp only[Act.put,SK,SS]);refine stN 19 (fun KK hKK=>?_);go_simp
    (go_at_call 51;(with_reducible refine HLK.out.mono ?_);rintro e W3 ⟨rfl,F3⟩;go_wp2_with fail)
    refine hKK.out _ _ ?_ (fun hHeld=>?_)
    ·exact HKE.out _ F3
    clear hKK KK;(try simp only[Act.put,SS]);refine tkG 20 rfl hHeld ?_;refine tkN 21 rfl hHeld ?_;(try simp only[Act.put,SS]);refine wpAnyN_done (by kernel_rfl) ?_ _;have B3:=HB2.out.fr F3 (fun h=>h);have HG:=Hi (HFW.out.trans F3);have HF3:=Hi F3;have HB3:=Hi B3;clear x0 x1 x2 x3 x4 x5 y0 y1 y2 y3 y4 y5 p0 p1 B3 F3;gi_wp2
    exact⟨(((Fr.refl W2).drew:Fz W2 W2.drew).trans HF3.out).mono (fun _ _ h=>h.elim),HB3.out,HG.out,by first|(rw[List.length_append];exact HTK2.out (by first|rfl|trivial))|(have h:=List.all_eq_true.1 (HTK2.out (by first|rfl|trivial));intro a b hm;rw[List.length_append]at hm;exact h (a,b) hm)⟩
 case done=>
  rintro D W hD ⟨BR,F,hall⟩ hK;have hr:sameS L M=true:=by
   rw[pairsV_len,List.take_length]at hall
   rw[HEQ.out];exact hall
  have HRR:=Hi hr;have r0:=BR.cell 0;have f0:=BR.frozen 0;simp at r0
  have F4:Fr (fun k=>k=z) W (W.setCell ⟨z,0,none⟩ (.bool true)):=Fr.setCell (S:=fun k=>k=z) (p:=⟨z,0,none⟩) (Fr.refl W) (fun _=>rfl) _;have B4:=BR.set 0 (.bool true);simp at B4
  have hzd:D≠z:=by have:=HBA.out;omega
  have hdw:w.heap.size≤D:=by have:=HF2.out.size;omega
  have hK4:=(F4.block D (Array.getElem?_eq_some_iff.1 hK).1 hzd).trans hK;have F5:Fr (fun k=>k=D) (W.setCell ⟨z,0,none⟩ (.bool true)) ((W.setCell ⟨z,0,none⟩ (.bool true)).putObj D (.deferred none)):=Fr.putObj (S:=fun k=>k=D) (Fr.refl _) D (fun _=>rfl) _;have r5:=(B4.fr F5 (fun e=>hzd e.symm)).cell 0;simp at r5
  clear hr HIT hall;gi_wp2
  refine⟨by simp,.inl ⟨_,_,rfl,run_takeDeferred hK4,?_⟩⟩
  exact⟨.bool true,by simp[results,Tryz.results22,go_sem,r5],by rw[HRR.out],(F.trans' F4 (fun i hi e=>by have e2:i=z:=e;have:=HZ.out;omega)).trans' F5 (fun i hi e=>by have e2:i=D:=e;omega)⟩
 case stop=>
  rintro D c pre W hD hpre ⟨rfl,BR,F,hr⟩ hK;have HRR:=Hi hr;have r0:=BR.cell 0;simp at r0
  have hzd:D≠z:=by have:=HBA.out;omega
  have hdw:w.heap.size≤D:=by have:=HF2.out.size;omega
  have F5:Fr (fun k=>k=D) W (W.putObj D (.deferred none)):=Fr.putObj (S:=fun k=>k=D) (Fr.refl _) D (fun _=>rfl) _;have r5:=(BR.fr F5 (fun e=>hzd e.symm)).cell 0;simp at r5
  clear hr HIT;gi_wp2
  refine⟨by simp,.inl ⟨_,_,rfl,run_takeDeferred hK,?_⟩⟩
  exact⟨.bool false,by simp[results,Tryz.results22,go_sem,r5],by rw[HRR.out],F.trans' F5 (fun i hi e=>by have e2:i=D:=e;omega)⟩
end Go.Proofs.YtehlipgmkinfbaaGreatDoor
