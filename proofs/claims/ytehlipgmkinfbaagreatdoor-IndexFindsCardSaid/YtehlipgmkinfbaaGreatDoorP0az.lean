/-
  Merged by program: XR22N XR22W XIxLe XHeldF XR03E.
-/
import Derived.Test.YtehlipgmkinfbaaGreatDoorP0ay
set_option linter.unusedSimpArgs false
set_option maxRecDepth 100000
set_option maxHeartbeats 8000000
namespace Go.Q
open Go Go.RowKit
theorem GRow.free {α:Type}{sz:Nat}{R:World→List Value→α→Prop}{Q:List Value→α→Prop}{K:Nat→Prop}{t:TypeId}{wa w:World}{base:Nat}{v:Value}{l:List α}(h:GRow sz (fun _ us x=>Q us x) (fun _=>False) t w base v l)(hQ:∀ us x,Q us x→Kept (fun W=>R W us x) K wa)(F:Fz wa w)(hb:wa.heap.size≤base):GRow sz R K t w base v l:=by
 obtain⟨cs,h1,h2⟩:=h
 refine⟨cs,h1,fun i x hx=>?_⟩
 obtain⟨us,e1,e2,e3⟩:=h2 i x hx
 refine⟨us,e1,e2,(hQ us x e3.now).step F (fun _ _ h=>h.elim) (fun k hk=>?_)⟩
 rcases hk with hk|hk
 ·exact .inr (by have:=(h1.lt k hk).1;omega)
 ·exact .inl hk
theorem GRow.step {α:Type}{sz:Nat}{R:World→List Value→α→Prop}{K K' S:Nat→Prop}{t:TypeId}{w w':World}{base:Nat}{v:Value}{l:List α}(h:GRow sz R K t w base v l)(f:Fr S w w')(hS:∀ k,k<w.heap.size→S k→K k)(hv:∀ k,v.ownBlock=some k→¬S k)(hK:∀ k,K' k→K k∨w.heap.size≤k):GRow sz R K' t w' base v l:=by
 obtain⟨cs,h1,h2⟩:=h
 refine⟨cs,Go.Proofs.YtehlipgmkinfbaaGreatDoor.ownsRow_fr h1 f hv,fun i p hp=>?_⟩
 obtain⟨us,e1,e2,e3⟩:=h2 i p hp
 refine⟨us,e1,e2,e3.step f (fun k hk hs=>.inr (hS k hk hs)) (fun k hk=>?_)⟩
 rcases hk with hk|hk
 ·exact .inl (.inl hk)
 ·rcases hK k hk with hk|hk
  ·exact .inl (.inr hk)
  ·exact .inr hk
theorem GRow.get {α:Type}{sz:Nat}{R:World→List Value→α→Prop}{K:Nat→Prop}{t:TypeId}{w:World}{base:Nat}{a:Option Addr}{n c:Nat}{l:List α}(h:GRow sz R K t w base (.slice a n c) l){i:Nat}{x:α}(hi:l[i]? = some x):∃ g us,a=some ⟨g,0,none⟩∧base≤g∧us.length=sz∧(∀ j u,us[j]? = some u→w.cell? ⟨g,i*sz+j,none⟩=some u)∧Kept (fun W=>R W us x) (fun k=>k=g∨K k) w:=by
 obtain⟨cs,⟨h1,h2⟩,h3⟩:=h
 have hil:=(List.getElem?_eq_some_iff.1 hi).1;rcases h2 with ⟨hv,h0⟩|⟨g,cap,cur,hv,hg,hh,hnc,hcm,hcs,htk⟩
 ·omega
 ·simp only[Value.slice.injEq]at hv
  obtain⟨rfl,rfl,rfl⟩:=hv
  obtain⟨us,e1,e2,e3⟩:=h3 i x hi
  refine⟨g,us,rfl,hg,e1,fun j u hu=>?_,e3.weaken (fun k hk=>by
   rcases hk with hk|hk
   ·exact .inl (by rw[hk];rfl)
   ·exact .inr hk)⟩
  have hc:=e2 j u hu;have hj:=(List.getElem?_eq_some_iff.1 hc).1;have hlt:sz*i+j<l.length*sz:=by rw[←h1];exact hj
  have:=congrArg (fun z:List Value=>z[sz*i+j]?) htk;simp only[List.getElem?_take,if_pos hlt,Array.getElem?_toList]at this
  simp only[World.cell?,hh]
  rw[Nat.mul_comm i sz]
  exact this.trans hc
theorem GRow.low {α:Type}{sz:Nat}{R:World→List Value→α→Prop}{K:Nat→Prop}{t:TypeId}{w:World}{base b2:Nat}{v:Value}{l:List α}(h:GRow sz R K t w base v l)(hb:b2≤base):GRow sz R K t w b2 v l:=by
 obtain⟨cs,⟨g1,g2⟩,g3⟩:=h
 refine⟨cs,⟨g1,?_⟩,g3⟩
 rcases g2 with h|⟨g,cap,cur,e,hg,rest⟩
 ·exact .inl h
 ·exact .inr ⟨g,cap,cur,e,Nat.le_trans hb hg,rest⟩
section
variable {l:List RowP}{r x:RowP}{k:Nat}
def InsAt (l:List RowP)(r:RowP)(k:Nat):Prop:=insS ltK rowK l r=(insS ltK rowK (l.drop k) r).map (l.take k++·)
theorem InsAt.start:InsAt l r 0:=by
 unfold InsAt;rw[List.drop_zero,List.take_zero]
 cases insS ltK rowK l r<;>rfl
theorem drop_at (h:l[k]? = some x):l.drop k=x::l.drop (k+1):=by
 have hk:=(List.getElem?_eq_some_iff.1 h).1;rw[List.drop_eq_getElem_cons hk]
 rw[List.getElem?_eq_getElem hk]at h
 rw[Option.some.inj h]
theorem InsAt.next (h:InsAt l r k)(hx:l[k]? = some x)(hn:rowC x r<0):InsAt l r (k+1):=by
 unfold InsAt at *
 rw[h,drop_at hx,insS,if_pos (rowC_neg.1 hn),List.take_add_one,hx]
 cases insS ltK rowK (l.drop (k+1)) r<;>simp
theorem InsAt.twice (h:InsAt l r k)(hx:l[k]? = some x)(hn:rowC x r=0):insS ltK rowK l r=none:=by
 unfold InsAt at h;rw[h,drop_at hx,insS,if_neg (fun e=>by have:=rowC_neg.2 e;omega),if_pos (rowC_zero.1 hn)]
 rfl
theorem InsAt.put (h:InsAt l r k)(hx:l[k]? = some x)(h1:¬rowC x r<0)(h2:¬rowC x r=0):insS ltK rowK l r=some ((l.take k++[r])++l.drop k):=by
 unfold InsAt at h;rw[h,drop_at hx,insS,if_neg (fun e=>h1 (rowC_neg.2 e)),if_neg (fun e=>h2 (rowC_zero.2 e))]
 simp
theorem InsAt.last (h:InsAt l r k)(hk:l.length≤k):insS ltK rowK l r=some ((l.take k++[r])++l.drop k):=by
 unfold InsAt at h;rw[h,List.drop_eq_nil_of_le hk]
 simp[insS]
end
theorem GRow.atKept {α:Type}{sz:Nat}{R:World→List Value→α→Prop}{K:Nat→Prop}{t:TypeId}{w:World}{base:Nat}{v:Value}{l:List α}(h:GRow sz R K t w base v l)(hs:0<sz):LAt sz (fun _ us x=>Kept (fun W=>R W us x) K w) w v l:=by
 obtain⟨cs,h1,h2⟩:=h
 exact GRow.at (R:=fun _ us x=>Kept (fun W=>R W us x) K w) (K:=fun _=>False) ⟨cs,h1,fun i x hx=>by
  obtain⟨us,e1,e2,e3⟩:=h2 i x hx
  exact⟨us,e1,e2,fun W _=>e3.weaken (fun k hk=>.inr hk)⟩⟩ hs
theorem LAt.one {α:Type}{sz:Nat}{R:World→List Value→α→Prop}{w:World}{b o n c:Nat}{l:List α}(h:LAt sz R w (.slice (some ⟨b,o,none⟩) n c) l){i:Nat}{x:α}(hi:l[i]? = some x):LAt sz R w (.slice (some ⟨b,o+i*sz,none⟩) 1 (c-i)) [x]:=by
 obtain⟨a0,c0,he,h1,h2,h3⟩:=h
 simp only[Value.slice.injEq]at he
 obtain⟨rfl,rfl,rfl⟩:=he
 have hil:=(List.getElem?_eq_some_iff.1 hi).1;obtain⟨b',o',hbo,hy⟩:=h3 (by omega)
 simp only[Option.some.injEq,Addr.mk.injEq,and_true]at hbo
 obtain⟨rfl,rfl⟩:=hbo
 refine⟨_,c-i,rfl,by simp only[List.length_singleton];omega,by omega,fun _=>⟨b,o+i*sz,rfl,fun k y hk=>?_⟩⟩
 have hk0:k=0:=by have:=(List.getElem?_eq_some_iff.1 hk).1;simp at this;omega
 subst hk0;simp only[List.getElem?_cons_zero,Option.some.injEq]at hk
 subst hk;obtain⟨cs,e1,e2,e3⟩:=hy i x hi
 refine⟨cs,e1,fun j u hu=>?_,e3⟩
 have:=e2 j u hu;rwa[Nat.mul_comm sz i]at this
theorem newRef_more {o:List RowP}{x:RowP}(hu:UpR o)(hf:∀ y∈o,fitR y)(hx:fitR x)(hp:(placeR x o 0).2=false):∃ o',newRef (o++[x])=.ok o'∧(newR [] (o++[x])).getD []=o'∧UpR o'∧(∀ y∈o',fitR y)∧o'.length=o.length+1:=by
 obtain⟨o',h1,h2,h3,h4⟩:=new_more hu hp
 have hok:okRows (o++[x])=true:=by
  unfold okRows;rw[List.all_eq_true]
  intro r hr;rcases List.mem_append.1 hr with h|h
  ·exact(hf r h).2.1
  ·rw[List.mem_singleton]at h;rw[h];exact hx.2.1
 refine⟨o',by unfold newRef;rw[if_pos hok,h1],by rw[h1];rfl,h2,fun y hy=>?_,ins_len h4⟩
 rcases (h3 y).1 hy with h|h
 ·rw[h];exact hx
 ·exact hf y h
open Go
section
variable {P:Program}{ops:Array Oper}{Q:Exit→Act→World→Prop}{md:Region.Mode}{S:World→Prop}{n:Nat}
theorem wpAnyN_two {i k:Nat}{o p:Oper}{f:Nat}{listed:Array Bool}{a:Act}{w:World}(hr:Region.ready md ops listed=[i,k])(ho:ops[i]? = some o)(hp:ops[k]? = some p)
  (h:∀ K:Act→World→Prop,Shut (∀ a w,S w→(S w→wpAnyN P md ops Q S n f (listed.setIfInBounds i true) a w)→K a w)→if Region.wanted o (yielded ops a.tmps)=true then Oper.wp P o a w K Q else K (a.put o.dst undef) w)
  (h2:∀ K:Act→World→Prop,Shut (∀ a w,S w→(S w→wpAnyN P md ops Q S n f (listed.setIfInBounds k true) a w)→K a w)→if Region.wanted p (yielded ops a.tmps)=true then Oper.wp P p a w K Q else K (a.put p.dst undef) w):wpAnyN P md ops Q S n (f+1) listed a w:=by
 refine⟨fun e=>(by rw[e]at hr;cases hr),fun j hj=>?_⟩
 rw[hr]at hj
 rcases List.mem_cons.1 hj with q|q
 ·subst q
  exact wpOp_step ho (fun K hK=>h K (fun a w hS hW=>hK a w ⟨fun _=>hS,hW hS⟩))
 ·rw[List.mem_singleton]at q
  subst q;exact wpOp_step hp (fun K hK=>h2 K (fun a w hS hW=>hK a w ⟨fun _=>hS,hW hS⟩))
end
end Go.Q
namespace Go.Proofs.YtehlipgmkinfbaaGreatDoor
open Go Go.RowKit Go.Q
theorem refsSlice_rest (a:Option Addr)(m cap:Nat)(hm:m≤cap)(i:Nat)(hi:i≤m) :
  ∃ A,(∀ w,(Instr.slice 22 (.slice a m cap) (some (.int .i64 (i:Int))) none none).run Tryz.prog w=.ok (.slice A (m-i) (cap-i)) w)∧(i<m→∀ b o,a=some ⟨b,o,none⟩→A=some ⟨b,o+i*7,none⟩):=by
 obtain⟨i0,hi0,-,hz1,-⟩:=info_parts info56
 have h1:(0:Int)≤(i:Int):=by omega
 have h2:(i:Int)≤(m:Int):=by omega
 have h3:(m:Int)≤(cap:Int):=by omega
 by_cases hc:cap-i=0
 ·refine⟨a,fun w=>?_,fun h=>by omega⟩
  simp[go_sem,h1,h2,h3,hc,Tryz.underlying22,sizeOf,typeInfo,hi0,hz1]
  try (intro h;omega)
 ·refine⟨a.map fun x=>x.add (i*7),fun w=>?_,fun h b o e=>by rw[e];unfold Addr.add;simp⟩
  simp[go_sem,h1,h2,h3,hc,Tryz.underlying22,sizeOf,typeInfo,hi0,hz1]
  try (intro h;omega)
theorem refsSlice_upto (a:Option Addr)(m cap:Nat)(hm:m≤cap)(i:Nat)(hi:i≤m) :
  ∃ A,(∀ w,(Instr.slice 22 (.slice a m cap) none (some (.int .i64 (i:Int))) none).run Tryz.prog w=.ok (.slice A i cap) w)∧(0<i→∀ b o,a=some ⟨b,o,none⟩→A=some ⟨b,o,none⟩):=by
 obtain⟨i0,hi0,-,hz1,-⟩:=info_parts info56
 have h1:(0:Int)≤(i:Int):=by omega
 have h2:(i:Int)≤(m:Int):=by omega
 have h3:(m:Int)≤(cap:Int):=by omega
 have h4:(i:Int)≤(cap:Int):=by omega
 by_cases hc:cap=0
 ·refine⟨a,fun w=>?_,fun h=>by omega⟩
  simp[go_sem,h1,h2,h3,h4,hc,Tryz.underlying22,sizeOf,typeInfo,hi0,hz1]
  try omega
 ·refine⟨a.map fun x=>x.add 0,fun w=>?_,fun h b o e=>by rw[e];unfold Addr.add;simp⟩
  simp[go_sem,h1,h2,h3,h4,hc,Tryz.underlying22,sizeOf,typeInfo,hi0,hz1]
  try omega
theorem put_in {w wr:World}(Q:List Value→RowP→Prop)(hQ:∀ us x,Q us x→RRef w us x)(F:Fz w wr)(gs:List RowP)(a:Option Addr)(c k:Nat)(hk:k≤gs.length)(hrow:GRow 7 (fun _ us x=>Q us x) (fun _=>False) 56 wr w.heap.size (.slice a gs.length c) (gs))(us:List Value)(r:RowP)(hr:Q us r)(hu7:us.length=7)(hl:gs.length≤1000000) :
  ∃ A1 A2 a3 c3 w3 a5 c5 w5 a7 c7 w7,(∀ W,(Instr.slice 22 (.slice a gs.length c) none (some (.int .i64 (k:Int))) none).run Tryz.prog W=.ok (.slice A1 k c) W)∧(∀ W,(Instr.slice 22 (.slice a gs.length c) (some (.int .i64 (k:Int))) none none).run Tryz.prog W=.ok (.slice A2 (gs.length-k) (c-k)) W)
   ∧ (Builtin.append_ #[22,22] 22 #[.slice (some ⟨wr.heap.size,0,none⟩) 0 0,.slice A1 k c]).run Tryz.prog (wr.alloc (.cells #[] 56))=.ok (.slice a3 k c3) w3
   ∧ (Builtin.append_ #[22,22] 22 #[.slice a3 k c3,.slice (some ⟨w3.heap.size,0,none⟩) 1 1]).run Tryz.prog (w3.alloc (.cells us.toArray 56))=.ok (.slice a5 (k+1) c5) w5
   ∧ (Builtin.append_ #[22,22] 22 #[.slice a5 (k+1) c5,.slice A2 (gs.length-k) (c-k)]).run Tryz.prog w5=.ok (.slice a7 (gs.length+1) c7) w7
   ∧ Fz w w3∧GRow 7 (fun _ us x=>Q us x) (fun _=>False) 56 w7 w.heap.size (.slice a7 (gs.length+1) c7) ((gs.take k++[r])++gs.drop k)∧Fz w w7∧c≤maxLen∧gs.length≤c:=by
 have hat:=hrow.at (by decide);have hmc:gs.length≤c∧c≤maxLen:=by
  obtain⟨_,_,he,q1,q2,-⟩:=hat
  simp only[Value.slice.injEq]at he
  obtain⟨-,-,rfl⟩:=he
  exact⟨q1,q2⟩
 obtain⟨A1,hs1,hA1⟩:=refsSlice_upto a gs.length c hmc.1 k hk
 obtain⟨A2,hs2,hA2⟩:=refsSlice_rest a gs.length c hmc.1 k hk
 have hd:(gs.drop k).length=gs.length-k:=List.length_drop;have ht:(gs.take k).length=k:=by rw[List.length_take];omega
 have hr1:=hat.upto k hk A1 hA1;have hr2:=hat.rest k hk A2 hA2;have FA:Fz wr (wr.alloc (.cells #[] 56)):=(Fr.refl wr).alloc _;have hsz:(wr.alloc (.cells #[] 56)).heap.size=wr.heap.size+1:=World.size_alloc _ _;have G0:GRow 7 (fun _ us x=>Q us x) (fun _=>False) 56 (wr.alloc (.cells #[] 56)) wr.heap.size (.slice (some ⟨wr.heap.size,0,none⟩) 0 0) ([]:List RowP):=
  ⟨[],⟨rfl,.inr ⟨wr.heap.size,0,#[],rfl,Nat.le_refl _,Blk.new wr 56 #[],Nat.le_refl _,by unfold maxLen;omega,rfl,rfl⟩⟩,fun i x hx=>by simp at hx⟩
 obtain⟨a3,c3,w3,run1,row1,F3⟩:=G0.addSlice0 (s:=22) Tryz.underlying22 info56 rfl (by decide) (by decide) (by omega) (hr1.move FA (fun _ _ h=>h)) (fun _ _ _ h=>RRef.one (hQ _ _ h)) (fun us x hx=>fun _ _=>hx) (by simp;omega)
 have FB:Fz wr w3:=FA.trans' F3 (fun i hi e=>by simp only[Value.ownBlock,Option.some.injEq]at e;omega);obtain⟨a5,c5,w5,run2,row2,F5,-⟩:=row1.add (s:=22) Tryz.underlying22 info56 rfl (by decide) (by decide) FB.size ((Fr.refl w3).alloc (.cells us.toArray 56)) w3.heap.size us hu7 (Blk.new w3 56 us.toArray) (RRef.one (hQ _ _ hr)) r (fun _ _=>hr) (by rw[List.nil_append,ht];omega)
 have hk1:=row1.keep;have FC:Fz wr w5:=FB.trans' F5 (fun i hi e=>by have:=(hk1 i e).1;omega);obtain⟨a7,c7,w7,run3,row3,F7⟩:=row2.addSlice0 (s:=22) Tryz.underlying22 info56 rfl (by decide) (by decide) FC.size (hr2.move FC (fun _ _ h=>h)) (fun _ _ _ h=>RRef.one (hQ _ _ h)) (fun us x hx=>fun _ _=>hx) (by rw[List.length_append,List.nil_append,ht,hd,List.length_singleton];omega)
 have hk2:=row2.keep;have FD:Fz wr w7:=FC.trans' F7 (fun i hi e=>by have:=(hk2 i e).1;omega);have hx2:([]++gs.take k++[r]).length=k+1:=by rw[List.length_append,List.nil_append,ht];rfl
 have hx1:([]++gs.take k:List RowP).length=k:=by rw[List.nil_append,ht]
 rw[hx2,hd]at run3 row3
 rw[hx1]at run2 run3
 simp only[List.nil_append,List.length_nil,Nat.zero_add,ht]at run1 run2 run3 row3
 rw[show k+1+(gs.length-k)=gs.length+1 by omega]at run3 row3
 exact⟨A1,A2,a3,c3,w3,a5,c5,w5,a7,c7,w7,hs1,hs2,run1,run2,run3,F.trans FB,row3.low F.size,F.trans FD,hmc.2,hmc.1⟩
def RefNew (w:World)(Q:List Value→RowP→Prop)(l:List RowP)(e:Ending)(w':World):Prop:=
 match newRef l with
 |.ok o=>∃ a c,e=.returned (.tuple #[.slice a o.length c,.int .i64 0])∧GRow 7 (fun _ us x=>Q us x) (fun _=>False) 56 w' w.heap.size (.slice a o.length c) (o)
 |.error k=>e=.returned (.tuple #[.slice none 0 0,.int .i64 k])
theorem r22New_any (Q:List Value→RowP→Prop)(v:Value)(l:List RowP)(w:World)(hQ:∀ us x,Q us x→RRef w us x)(h:LAt 7 (fun _ us x=>Q us x) w v l)(hf:∀ r∈l,fitN r.iss∧r.num.size.length≤1000000)(hl:l.length≤1000) :
  Calls Tryz.prog 11 #[v] w fun e w'=>RefNew w Q l e w'∧Fz w w':=by
 have H:=Hi h;have HFT:=Hi hf;obtain⟨a0,cap0,rfl,-⟩:=h
 clear hf;go_enter Tryz.func11,Tryz.ntmps11
 go_wp2_with fail
 go_loopg [4] l.length (fun g i wr=>∃ j:Nat,g=l.length-j∧j≤l.length∧i=.int .i64 j∧Hid (okRows (l.take j)=true)∧Hid (Fz w wr))
 case atStart=>exact⟨0,rfl,Nat.zero_le _,rfl,Hi rfl,Hi (Fr.refl _)⟩
 case round=>
  obtain⟨j,hg,hj,rfl,HOK,HF⟩:=hrel
  have HG:=Hi hg;clear hg;by_cases hjl:j<l.length
  ·obtain⟨x,hx⟩:∃ x,l[j]? = some x:=⟨_,List.getElem?_eq_getElem hjl⟩
   obtain⟨b,o,cs,rfl,-,-,hR,hcell⟩:=LAt.get H.out hx
   obtain⟨a1,c1,b1,d1,rfl,hn1,hb1⟩:=(hQ _ _ hR).form
   have e0:=HF.out.cell (hcell 0 _ rfl) (fun h=>h);simp only[Nat.add_zero]at e0
   have p1:(j:Int)<(l.length:Int):=by omega
   have p2:(0:Int)≤(j:Int):=by omega
   have hft:=HFT.out x (List.mem_of_getElem? hx);have HK:=Hi (r14Right_any _ x.iss wr (hn1.old HF.out) (fun s hs=>(hft.1.2 s hs).1));have HTO:=Hi (show okRows (l.take (j+1))=(okRows (l.take j)&&nameOk x.iss) by rw[List.take_add_one,hx];simp[okRows]);have HMEM:=Hi (List.mem_of_getElem? hx);clear hx hR hcell hn1 hb1 hft;cases hno:nameOk x.iss with
   |false=>
    have HNO:=Hi (show newRef l=.error 1 from by
     unfold newRef;rw[if_neg]
     intro h;unfold okRows at h;rw[List.all_eq_true]at h
     rw[h x HMEM.out]at hno
     cases hno)
    rw[hno]at HK
    clear hno;go_wp2_with fail
    refine HK.out.mono ?_;rintro e w3 ⟨rfl,F3⟩;go_wp2_with fail
    refine bodyPost_ret (v:=.tuple #[.slice none 0 0,.int .i64 1]) (by simp[results,Tryz.results11,go_sem]) rfl ⟨by unfold RefNew;rw[HNO.out],HF.out.trans F3⟩
   |true=>
    rw[hno]at HK
    have HO2:=Hi (show okRows (l.take (j+1))=true by rw[HTO.out,HOK.out,hno];rfl);clear hno;go_wp2_with fail
    refine HK.out.mono ?_;rintro e w3 ⟨rfl,F3⟩;go_wp2_with fail
    go_roundg (l.length-(j+1))
    case measure=>rw[HG.out];omega
    case rel=>exact⟨j+1,rfl,by omega,by go_num,HO2,Hi (HF.out.trans F3)⟩
  ·have HOA:Hid (okRows l=true):=Hi (by have:=HOK.out;rwa[List.take_of_length_le (by omega)]at this)
   have HFT2:=Hi (show ∀ r∈l,fitR r from fun r hr=>⟨(HFT.out r hr).1,by have:=HOA.out;unfold okRows at this;rw[List.all_eq_true]at this;exact this r hr,(HFT.out r hr).2⟩);have HNE:=Hi (show newRef l=(match newR [] l with|none=>.error 10|some o=>.ok o) from by unfold newRef;rw[if_pos HOA.out];cases newR [] l<;>rfl);have p1:¬(j:Int)<(l.length:Int):=by omega
   go_wp2_with fail
   clear p1 hj hjl HOK HG;go_loopg [5,6] l.length (fun g out i wx=>∃ (j:Nat) (a:Option Addr) (c:Nat) (gs:List RowP),g=l.length-j∧j≤l.length∧out=.slice a gs.length c∧i=.int .i64 j∧gs.length=j∧Hid (newR gs (l.drop j)=newR [] l)∧Hid (∀ y∈gs,y∈l)∧Hid (GRow 7 (fun _ us x=>Q us x) (fun _=>False) 56 wx w.heap.size (.slice a gs.length c) (gs))∧Hid (Fz w wx))
   case atStart=>exact⟨0,none,0,[],rfl,Nat.zero_le _,rfl,rfl,rfl,Hi rfl,Hi (fun y hy=>by cases hy),Hi (GRow.nil _ _ _ _ _ _),HF⟩
   case round=>
    obtain⟨j,a,c,gs,hg,hj,rfl,rfl,hgl,HNR,HMEM,HRW,HF1⟩:=hrel
    have HG:=Hi hg;have HGL:=Hi hgl;clear hg hgl HF;generalize wr=w1 at *
    by_cases hjl:j<l.length
    ·obtain⟨x,hx⟩:∃ x,l[j]? = some x:=⟨_,List.getElem?_eq_getElem hjl⟩
     have HXG:=Hi hx;have HDX:=Hi (drop_at hx);obtain⟨b,o,cs,rfl,-,-,hR,hcell⟩:=LAt.get H.out hx
     obtain⟨a1,c1,b1,d1,rfl,hn1,hb1⟩:=(hQ _ _ hR).form
     have HRX:=Hi hR;have HN1:=Hi hn1;have HB1:=Hi hb1
     have HSL:=Hi (fun W (F:Fz w W)=>show W.cell? ⟨b,o+j*7,none⟩=some (.slice a1 x.iss.length c1)∧W.cell? ⟨b,o+j*7+1,none⟩=some (.bool x.num.below)∧W.cell? ⟨b,o+j*7+2,none⟩=some (.slice b1 x.num.size.length d1)∧W.cell? ⟨b,o+j*7+3,none⟩=some (.int .i64 x.date)∧W.cell? ⟨b,o+j*7+4,none⟩=some (.int .i64 x.reason)∧W.cell? ⟨b,o+j*7+5,none⟩=some (.bool x.inv.isSome)∧W.cell? ⟨b,o+j*7+6,none⟩=some (.int .i64 (x.inv.getD 0)) from ⟨by have:=F.cell (hcell 0 _ rfl) (fun h=>h);rwa[Nat.add_zero]at this,F.cell (hcell 1 _ rfl) (fun h=>h),F.cell (hcell 2 _ rfl) (fun h=>h),F.cell (hcell 3 _ rfl) (fun h=>h),F.cell (hcell 4 _ rfl) (fun h=>h),F.cell (hcell 5 _ rfl) (fun h=>h),F.cell (hcell 6 _ rfl) (fun h=>h)⟩)
     have HFX:=Hi (HFT2.out x (List.mem_of_getElem? hx));have p1:(j:Int)<(l.length:Int):=by omega
     have p2:(0:Int)≤(j:Int):=by omega
     clear hx hR hcell hn1 hb1;go_wp2_with fail
     go_loopg [7] gs.length (fun g u wy=>∃ k:Nat,g=gs.length-k∧k≤gs.length∧u=.int .i64 k∧Hid (InsAt gs x k)∧Hid (Fz w1 wy))
     case atStart=>exact⟨0,rfl,Nat.zero_le _,rfl,Hi InsAt.start,Hi (Fr.refl _)⟩
     case round=>
      obtain⟨k,hg2,hkl,rfl,HIA,HF2⟩:=hrel
      have HG2:=Hi hg2;clear hg2;have p3:(0:Int)≤(k:Int):=by omega
      have hgb:gs.length≤1000:=by have:=HGL.out;omega
      by_cases hkg:k<gs.length
      ·obtain⟨y,hy⟩:∃ y,gs[k]? = some y:=⟨_,List.getElem?_eq_getElem hkg⟩
       have HYG:=Hi hy;have hat:=HRW.out.at (by decide);obtain⟨p,q,us,rfl,-,-,hRy,hcy⟩:=LAt.get hat hy
       have hRy2:RRef w us y:=hQ _ _ hRy;obtain⟨a2,c2,b2,d2,rfl,hn2,hb2⟩:=hRy2.form
       have HSX:=Hi (fun W (F:Fz wr W)=>show (W.cell? ⟨b,o+j*7,none⟩=some (.slice a1 x.iss.length c1)∧W.cell? ⟨b,o+j*7+1,none⟩=some (.bool x.num.below)∧W.cell? ⟨b,o+j*7+2,none⟩=some (.slice b1 x.num.size.length d1)∧W.cell? ⟨b,o+j*7+3,none⟩=some (.int .i64 x.date)∧W.cell? ⟨b,o+j*7+4,none⟩=some (.int .i64 x.reason)∧W.cell? ⟨b,o+j*7+5,none⟩=some (.bool x.inv.isSome)∧W.cell? ⟨b,o+j*7+6,none⟩=some (.int .i64 (x.inv.getD 0)))∧W.cell? ⟨p,q+k*7,none⟩=some (.slice a2 y.iss.length c2)∧W.cell? ⟨p,q+k*7+1,none⟩=some (.bool y.num.below)∧W.cell? ⟨p,q+k*7+2,none⟩=some (.slice b2 y.num.size.length d2)∧W.cell? ⟨p,q+k*7+3,none⟩=some (.int .i64 y.date)∧W.cell? ⟨p,q+k*7+4,none⟩=some (.int .i64 y.reason)∧W.cell? ⟨p,q+k*7+5,none⟩=some (.bool y.inv.isSome)∧W.cell? ⟨p,q+k*7+6,none⟩=some (.int .i64 (y.inv.getD 0)) from ⟨HSL.out W (HF1.out.trans (HF2.out.trans F)),by have:=(HF2.out.trans F).cell (hcy 0 _ rfl) (fun h=>h);rwa[Nat.add_zero]at this,(HF2.out.trans F).cell (hcy 1 _ rfl) (fun h=>h),(HF2.out.trans F).cell (hcy 2 _ rfl) (fun h=>h),(HF2.out.trans F).cell (hcy 3 _ rfl) (fun h=>h),(HF2.out.trans F).cell (hcy 4 _ rfl) (fun h=>h),(HF2.out.trans F).cell (hcy 5 _ rfl) (fun h=>h),(HF2.out.trans F).cell (hcy 6 _ rfl) (fun h=>h)⟩)
       obtain⟨rc,hrc⟩:∃ rc,rc=rowC y x:=⟨_,rfl⟩
       have hfy:=HFT2.out y (HMEM.out y (List.mem_of_getElem? hy));have HAH:=Hi (fun W (F:Fz wr W)=>r22Ahead_any y x a2 b2 a1 b1 c2 d2 c1 d1 y.date y.reason (y.inv.getD 0) x.date x.reason (x.inv.getD 0) y.inv.isSome x.inv.isSome W (hn2.old (HF1.out.trans (HF2.out.trans F))) (hb2.old (HF1.out.trans (HF2.out.trans F))) (HN1.out.old (HF1.out.trans (HF2.out.trans F))) (HB1.out.old (HF1.out.trans (HF2.out.trans F))) hfy HFX.out);rw[←hrc]at HAH
       have HRC:=Hi hrc;have q1:(k:Int)<(gs.length:Int):=by omega
       have q2:decide ((k:Int)<(gs.length:Int))=true:=decide_eq_true q1;clear hy hat hRy hRy2 hcy hn2 hb2 hrc hfy;go_upto_region 11 with fail
       have GD:Fz wr wr.drew:=(Fr.refl wr).drew
       refine wp_region_N 16 (S:=fun w'=>(w'.cell? ⟨b,o+j*7,none⟩=some (.slice a1 x.iss.length c1)∧w'.cell? ⟨b,o+j*7+1,none⟩=some (.bool x.num.below)∧w'.cell? ⟨b,o+j*7+2,none⟩=some (.slice b1 x.num.size.length d1)∧w'.cell? ⟨b,o+j*7+3,none⟩=some (.int .i64 x.date)∧w'.cell? ⟨b,o+j*7+4,none⟩=some (.int .i64 x.reason)∧w'.cell? ⟨b,o+j*7+5,none⟩=some (.bool x.inv.isSome)∧w'.cell? ⟨b,o+j*7+6,none⟩=some (.int .i64 (x.inv.getD 0)))∧w'.cell? ⟨p,q+k*7,none⟩=some (.slice a2 y.iss.length c2)∧w'.cell? ⟨p,q+k*7+1,none⟩=some (.bool y.num.below)∧w'.cell? ⟨p,q+k*7+2,none⟩=some (.slice b2 y.num.size.length d2)∧w'.cell? ⟨p,q+k*7+3,none⟩=some (.int .i64 y.date)∧w'.cell? ⟨p,q+k*7+4,none⟩=some (.int .i64 y.reason)∧w'.cell? ⟨p,q+k*7+5,none⟩=some (.bool y.inv.isSome)∧w'.cell? ⟨p,q+k*7+6,none⟩=some (.int .i64 (y.inv.getD 0))) (by kernel_rfl) ?_ (fun hHeld=>?_)
       ·exact HSX.out _ GD
       refine tkN 0 rfl hHeld ?_;refine tkN 1 rfl hHeld ?_;refine tkN 2 rfl hHeld ?_;(try simp only[Act.put,SS]);refine tkN 3 rfl hHeld ?_;refine tkN 4 rfl hHeld ?_;refine tkG 5 rfl hHeld ?_;(try simp only[Act.put,SK,SS]);refine tkG 6 rfl hHeld ?_;refine tkG 7 rfl hHeld ?_;refine tkG 8 rfl hHeld ?_;(try simp only[Act.put,SK,SS]);refine tkG 9 rfl hHeld ?_;refine tkG 10 rfl hHeld ?_;refine tkG 11 rfl hHeld ?_;(try simp only[Act.put,SK,SS]);refine tkG 12 rfl hHeld ?_;(try simp only[Act.put,SK,SS]);refine stN 13 (fun KK hKK=>?_);go_simp
       (go_at_call 40;(with_reducible refine(HAH.out _ GD).mono ?_);rintro e w8 ⟨rfl,F8⟩;have G8:=(GD).trans F8;clear F8;go_wp2_with fail)
       refine hKK.out _ _ ?_ (fun hHeld=>?_)
       ·exact HSX.out _ G8
       clear hKK KK;(try simp only[Act.put,SS]);refine tkG 14 rfl hHeld ?_;refine tkN 15 rfl hHeld ?_;(try simp only[Act.put,SK,SS]);refine wpAnyN_done (by kernel_rfl) ?_ _;clear hHeld;by_cases hneg:rc<0
       ·have c1':decide (rc<0)=true:=decide_eq_true hneg
        have HI2:=Hi (HIA.out.next HYG.out (by rw[←HRC.out];exact hneg));have HF3:=Hi (HF2.out.trans G8);clear G8 GD;go_wp2_with fail
        go_roundg (gs.length-(k+1))
        case measure=>rw[HG2.out];omega
        case rel=>exact⟨k+1,rfl,by omega,by go_num,HI2,HF3⟩
       ·have c1':decide (rc<0)=false:=decide_eq_false hneg
        go_upto_region 13 with fail
        have G9:=G8.drew
        refine wp_region_N 16 (S:=fun w'=>(w'.cell? ⟨b,o+j*7,none⟩=some (.slice a1 x.iss.length c1)∧w'.cell? ⟨b,o+j*7+1,none⟩=some (.bool x.num.below)∧w'.cell? ⟨b,o+j*7+2,none⟩=some (.slice b1 x.num.size.length d1)∧w'.cell? ⟨b,o+j*7+3,none⟩=some (.int .i64 x.date)∧w'.cell? ⟨b,o+j*7+4,none⟩=some (.int .i64 x.reason)∧w'.cell? ⟨b,o+j*7+5,none⟩=some (.bool x.inv.isSome)∧w'.cell? ⟨b,o+j*7+6,none⟩=some (.int .i64 (x.inv.getD 0)))∧w'.cell? ⟨p,q+k*7,none⟩=some (.slice a2 y.iss.length c2)∧w'.cell? ⟨p,q+k*7+1,none⟩=some (.bool y.num.below)∧w'.cell? ⟨p,q+k*7+2,none⟩=some (.slice b2 y.num.size.length d2)∧w'.cell? ⟨p,q+k*7+3,none⟩=some (.int .i64 y.date)∧w'.cell? ⟨p,q+k*7+4,none⟩=some (.int .i64 y.reason)∧w'.cell? ⟨p,q+k*7+5,none⟩=some (.bool y.inv.isSome)∧w'.cell? ⟨p,q+k*7+6,none⟩=some (.int .i64 (y.inv.getD 0))) (by kernel_rfl) ?_ (fun hHeld=>?_)
        ·exact HSX.out _ G9
        refine tkN 0 rfl hHeld ?_;refine tkN 1 rfl hHeld ?_;refine tkN 2 rfl hHeld ?_;(try simp only[Act.put,SS]);refine tkN 3 rfl hHeld ?_;refine tkN 4 rfl hHeld ?_;refine tkG 5 rfl hHeld ?_;(try simp only[Act.put,SK,SS]);refine tkG 6 rfl hHeld ?_;refine tkG 7 rfl hHeld ?_;refine tkG 8 rfl hHeld ?_;(try simp only[Act.put,SK,SS]);refine tkG 9 rfl hHeld ?_;refine tkG 10 rfl hHeld ?_;refine tkG 11 rfl hHeld ?_;(try simp only[Act.put,SK,SS]);refine tkG 12 rfl hHeld ?_;(try simp only[Act.put,SK,SS]);refine stN 13 (fun KK hKK=>?_);go_simp
        (go_at_call 40;(with_reducible refine(HAH.out _ G9).mono ?_);rintro e w10 ⟨rfl,F10⟩;have G10:=(G9).trans F10;clear F10;go_wp2_with fail)
        refine hKK.out _ _ ?_ (fun hHeld=>?_)
        ·exact HSX.out _ G10
        clear hKK KK;(try simp only[Act.put,SS]);refine tkG 14 rfl hHeld ?_;refine tkN 15 rfl hHeld ?_;(try simp only[Act.put,SK,SS]);refine wpAnyN_done (by kernel_rfl) ?_ _;by_cases h0:rc=0
        ·have c2':(rc==0)=true:=by rw[h0];rfl
         have HNO:=Hi (show newRef l=.error 10 from by
          rw[HNE.out,←HNR.out,HDX.out]
          unfold newR newS;rw[HIA.out.twice HYG.out (by rw[←HRC.out];exact h0)])
         have HF3:=Hi (HF1.out.trans (HF2.out.trans G10));clear hHeld G10 G9 G8 GD;go_wp2_with fail
         refine bodyPost_ret (v:=.tuple #[.slice none 0 0,.int .i64 10]) (by simp[results,Tryz.results11,go_sem]) rfl ⟨by unfold RefNew;rw[HNO.out],HF3.out⟩
        ·have c2':(rc==0)=false:=beq_eq_false_iff_ne.2 h0
         have HIN:=Hi (HIA.out.put HYG.out (by rw[←HRC.out];omega) (by rw[←HRC.out];exact h0));have HFW:=Hi (HF1.out.trans (HF2.out.trans G10));have HRW2:=Hi (HRW.out.old (HF2.out.trans G10));clear hHeld G10 G9 G8 GD HSX HAH;obtain⟨A1,A2,a3,c3,w3,a5,c5,w5,a7,c7,w7,hs1,hs2,run1,run2,run3,F3,row7,F7,hcm,hgc⟩:=put_in Q hQ HFW.out gs (some ⟨p,q,none⟩) c k hkl HRW2.out [(.slice a1 x.iss.length c1),(.bool x.num.below),(.slice b1 x.num.size.length d1),(.int .i64 x.date),(.int .i64 x.reason),(.bool x.inv.isSome),(.int .i64 (x.inv.getD 0))] x HRX.out rfl (by omega)
         have HRUN1:=Hi run1;have HRUN2:=Hi run2;have HRUN3:=Hi run3;have HROW7:=Hi row7;have HF7:=Hi F7;have hln:((gs.take k++[x])++gs.drop k).length=gs.length+1:=by rw[List.length_append,List.length_append,List.length_take,List.length_drop,List.length_singleton];omega
         have HLN:=Hi hln;have HNW:=Hi (show newR ((gs.take k++[x])++gs.drop k) (l.drop (j+1))=newR [] l from by
          rw[←HNR.out,HDX.out]
          unfold newR newS;rw[HIN.out]
          cases l.drop (j+1)<;>rfl)
         have HMEM2:=Hi (show ∀ y∈(gs.take k++[x])++gs.drop k,y∈l from fun y hy=>by
          rcases List.mem_append.1 hy with h|h
          ·rcases List.mem_append.1 h with h|h
           ·exact HMEM.out y (List.mem_of_mem_take h)
           ·rw[List.mem_singleton]at h;rw[h];exact List.mem_of_getElem? HXG.out
          ·exact HMEM.out y (List.mem_of_mem_drop h))
         obtain⟨m0,m1,m2,m3,m4,m5,m6⟩:=HSL.out w3 F3
         clear run1 run2 run3 row7 F7 F3 hln;go_wp2_with (first|(at_builtin;refine wpList_append_run (by rfl) (.tmp 62) (.tmp 65) 22 (by rfl) _ w3 (by exact HRUN1.out) ?_)|(at_builtin;refine wpList_append_run (by rfl) (.tmp 67) (.tmp 72) 22 (by rfl) _ w5 (by exact HRUN2.out) ?_)|(at_builtin;refine wpList_append_run (by rfl) (.tmp 74) (.tmp 77) 22 (by rfl) _ w7 (by exact HRUN3.out) ?_)|fail)
         go_roundg (l.length-(j+1))
         case measure=>rw[HG.out];omega
         case rel=>exact⟨j+1,a7,c7,(gs.take k++[x])++gs.drop k,rfl,by omega,by rw[HLN.out],by go_num,by rw[HLN.out,HGL.out],HNW,HMEM2,Hi (by rw[HLN.out];exact HROW7.out),HF7⟩
      ·have q1:¬(k:Int)<(gs.length:Int):=by omega
       have q2:decide ((k:Int)<(gs.length:Int))=false:=decide_eq_false q1;have HIN:=Hi (HIA.out.last (by omega));have HFD:=Hi (fun n=>(HF1.out.trans HF2.out).drewN (S:=fun _=>False) n);have HRD:=Hi (fun n=>(HRW.out.old HF2.out).old ((Fr.refl wr).drewN (S:=fun _=>False) n));go_upto_region 11 with fail
       go_quiet (fail)
       go_upto_region 13 with fail
       go_quiet (fail)
       generalize hN:(wr.drewN _).drewN _=wz;have HFW:=Hi (show Fz w wz from by rw[←hN];exact(HFD.out _).drewN _);have HRW2:=Hi (show GRow 7 (fun _ us x=>Q us x) (fun _=>False) 56 wz w.heap.size (.slice a gs.length c) (gs) from by rw[←hN];exact(HRD.out _).old ((Fr.refl _).drewN _));clear q1 q2 hN
       obtain⟨A1,A2,a3,c3,w3,a5,c5,w5,a7,c7,w7,hs1,hs2,run1,run2,run3,F3,row7,F7,hcm,hgc⟩:=put_in Q hQ HFW.out gs a c k hkl HRW2.out [(.slice a1 x.iss.length c1),(.bool x.num.below),(.slice b1 x.num.size.length d1),(.int .i64 x.date),(.int .i64 x.reason),(.bool x.inv.isSome),(.int .i64 (x.inv.getD 0))] x HRX.out rfl (by omega)
       have HRUN1:=Hi run1;have HRUN2:=Hi run2;have HRUN3:=Hi run3;have HROW7:=Hi row7;have HF7:=Hi F7;have hln:((gs.take k++[x])++gs.drop k).length=gs.length+1:=by rw[List.length_append,List.length_append,List.length_take,List.length_drop,List.length_singleton];omega
       have HLN:=Hi hln;have HNW:=Hi (show newR ((gs.take k++[x])++gs.drop k) (l.drop (j+1))=newR [] l from by
        rw[←HNR.out,HDX.out]
        unfold newR newS;rw[HIN.out]
        cases l.drop (j+1)<;>rfl)
       have HMEM2:=Hi (show ∀ y∈(gs.take k++[x])++gs.drop k,y∈l from fun y hy=>by
        rcases List.mem_append.1 hy with h|h
        ·rcases List.mem_append.1 h with h|h
         ·exact HMEM.out y (List.mem_of_mem_take h)
         ·rw[List.mem_singleton]at h;rw[h];exact List.mem_of_getElem? HXG.out
        ·exact HMEM.out y (List.mem_of_mem_drop h))
       obtain⟨m0,m1,m2,m3,m4,m5,m6⟩:=HSL.out w3 F3
       clear run1 run2 run3 row7 F7 F3 hln;go_wp2_with (first|(at_builtin;refine wpList_append_run (by rfl) (.tmp 62) (.tmp 65) 22 (by rfl) _ w3 (by exact HRUN1.out) ?_)|(at_builtin;refine wpList_append_run (by rfl) (.tmp 67) (.tmp 72) 22 (by rfl) _ w5 (by exact HRUN2.out) ?_)|(at_builtin;refine wpList_append_run (by rfl) (.tmp 74) (.tmp 77) 22 (by rfl) _ w7 (by exact HRUN3.out) ?_)|fail)
       go_roundg (l.length-(j+1))
       case measure=>rw[HG.out];omega
       case rel=>exact⟨j+1,a7,c7,(gs.take k++[x])++gs.drop k,rfl,by omega,by rw[HLN.out],by go_num,by rw[HLN.out,HGL.out],HNW,HMEM2,Hi (by rw[HLN.out];exact HROW7.out),HF7⟩
    ·have p1:¬(j:Int)<(l.length:Int):=by omega
     have HNO:=Hi (show newRef l=.ok gs from by
      rw[HNE.out,←HNR.out,List.drop_eq_nil_of_le (by omega)]
      rfl)
     go_wp2_with fail
     refine bodyPost_ret (v:=.tuple #[.slice a gs.length c,.int .i64 0]) (by simp[results,Tryz.results11,go_sem]) rfl ⟨?_,HF1.out⟩;unfold RefNew;rw[HNO.out]
     exact⟨a,c,rfl,HRW.out⟩
theorem rowsSlice_mid (b o m cap:Nat)(hm:m≤cap)(i:Nat)(hi:i<m)(w:World) :
  (Instr.slice 23 (.slice (some ⟨b,o,none⟩) m cap) (some (.int .i64 (i:Int))) (some (.int .i64 ((i:Int)+1))) none).run Tryz.prog w=.ok (.slice (some ⟨b,o+i*6,none⟩) 1 (cap-i)) w:=by
 obtain⟨i0,hi0,-,hz1,-⟩:=info_parts info43
 have h1:(0:Int)≤(i:Int):=by omega
 have h2:(i:Int)≤(i:Int)+1:=by omega
 have h3:(i:Int)+1≤(cap:Int):=by omega
 have h4:(i:Int)≤(cap:Int):=by omega
 have h5:(0:Int)≤(i:Int)+1:=by omega
 have h6:((i:Int)+1).toNat=i+1:=by omega
 have hc:¬cap-i=0:=by omega
 simp[go_sem,h1,h2,h3,h4,h5,h6,hc,Tryz.underlying23,sizeOf,typeInfo,hi0,hz1,Addr.add]
 rw[if_neg (show ¬cap=i by omega)]
 by_cases h0:i=0
 ·subst h0;simp
 ·rw[if_neg (show ¬i*6=0 by omega)]
theorem leastIx_any (v:Value)(l:List RowI)(w:World)(O:List RowP)(hO:O=(leastL (toRows l) [] []).2)(h:RefsI w v l)(hE:Env w) :
  Calls Tryz.prog 17 #[v] w fun e w'=>(∃ xb a c,e=.returned (.tuple #[pt xb,.slice a O.length c,.bool true])∧IxAt w' (pt xb) (O.map nrow)∧Refs w' (.slice a O.length c) O)∧Fz w w':=by
 obtain⟨L,hL⟩:∃ L,L=toRows l:=⟨_,rfl⟩
 have HTR:=Hi (toRows_any v l w h);rw[←hL]at HTR hO
 have hlen:L.length≤8:=by rw[hL];exact toRows_len l
 have hfw:∀ r∈L,fitN r.iss∧r.num.size.length≤1000000:=fun r hr=>by
  rw[hL]at hr
  obtain⟨x,-,rfl⟩:=List.mem_map.1 hr
  exact⟨toRow_fit x,toRow_size x⟩
 have HFW:=Hi hfw;have hli:=least_ix L hfw;obtain⟨P,hP⟩:∃ P,P=leastL L [] []:=⟨_,rfl⟩
 rw[←hP]at hli hO
 have HLI:=Hi hli;have HP:=Hi hP;have HO:=Hi hO;have HE:=Hi hE;have HLEN:=Hi hlen;obtain⟨a0,c0,rfl,-⟩:=h
 clear hE hL hlen hfw hli hP hO;go_enter Tryz.func17,Tryz.ntmps17
 go_wp2_with fail
 refine HTR.out.mono ?_;rintro e w2 ⟨⟨am,cm,rfl,hm⟩,F1⟩;have hmc:L.length≤cm∧cm≤maxLen:=by
  obtain⟨_,_,he,q1,q2,-⟩:=hm
  simp only[Value.slice.injEq]at he
  obtain⟨-,-,rfl⟩:=he
  exact⟨q1,q2⟩
 have HMC:=Hi hmc;have HM:=Hi hm;have HF1:=Hi F1;clear hm F1 hmc HTR;go_wp2_with fail
 go_loopg [5,6,8] L.length (fun g u v i wr=>∃ (j:Nat) (al ao:Option Addr) (cl co:Nat) (ls o:List RowP),g=L.length-j∧j≤L.length∧u=.slice al ls.length cl∧v=.slice ao o.length co∧i=.int .i64 j∧Hid (ls.length≤j∧o.length≤j)∧Hid (leastL (L.drop j) ls o=P)∧Hid (UpR o∧(∀ y∈o,fitR y)∧∀ y∈ls,y∈L)∧Hid (GRow 6 (fun _ us x=>RRow w2 us x) (fun _=>True) 43 wr w2.heap.size (.slice al ls.length cl) ls)∧Hid (GRow 7 RRef (fun k=>(Value.slice al ls.length cl).ownBlock=some k) 56 wr w2.heap.size (.slice ao o.length co) o)∧Hid (∀ k,(Value.slice ao o.length co).ownBlock=some k→¬(Value.slice al ls.length cl).ownBlock=some k)∧Hid (Fz w2 wr))
 case atStart=>
  refine⟨0,none,none,0,0,[],[],rfl,Nat.zero_le _,rfl,rfl,rfl,Hi ⟨Nat.le_refl _,Nat.le_refl _⟩,Hi HP.out.symm,Hi ⟨List.Pairwise.nil,fun y hy=>(by cases hy),fun y hy=>(by cases hy)⟩,Hi (GRow.nil _ _ _ _ _ _),Hi (GRow.nil _ _ _ _ _ _),Hi (fun k hk=>by cases hk),Hi (Fr.refl _)⟩
 case round=>
  obtain⟨j,al,ao,cl,co,ls,o,hg,hj,rfl,rfl,rfl,HLN,HLS,HU,HRL,HRO,HDJ,HF⟩:=hrel
  have HG:=Hi hg;clear hg;by_cases hjl:j<L.length
  ·obtain⟨x,hx⟩:∃ x,L[j]? = some x:=⟨_,List.getElem?_eq_getElem hjl⟩
   have HDX:=Hi (drop_at hx);obtain⟨b,q,cs,rfl,-,-,hR,hcell⟩:=LAt.get HM.out hx
   have HONE:=Hi (LAt.one HM.out hx);obtain⟨p1,p2,p3,p4,p5,rfl,-⟩:=hR.form
   have HRX:=Hi hR;have HXM:=Hi (List.mem_of_getElem? hx);have HFX:=Hi (HFW.out x (List.mem_of_getElem? hx));have HCE:=Hi hcell;have hs:=fun w=>rowsSlice_mid b q L.length cm HMC.out.1 j hjl w
   have p6:(0:Int)≤(j:Int):=by omega
   have p7:(j:Int)<(L.length:Int):=by omega
   have hw1:IntKind.i64.wrap ((j:Int)+1)=(j:Int)+1:=by have:=HLEN.out;simp[IntKind.wrap,IntKind.signed,IntKind.bits];omega
   have hw2:wrap64 ((j:Int)+1)=(j:Int)+1:=by have:=HLEN.out;unfold wrap64;omega
   clear hx hR hcell;go_wp2_with fail
   refine(ofRowsK_any _ [x] w2 wr HONE.out HF.out (fun r hr=>by rw[List.mem_singleton]at hr;rw[hr];exact HFX.out.1) (by simp)).mono ?_
   rintro e w3 ⟨⟨a3,c3,rfl,h3⟩,F3⟩;obtain⟨g,us,rfl,hg3,-,hc3,hk3⟩:=h3.get (i:=0) (x:=x) rfl
   obtain⟨a1,k1,b1,d1,rfl,hn1,hb1⟩:=hk3.now.form
   have e0:=hc3 0 _ rfl;have e1:=hc3 1 _ rfl;have e2:=hc3 2 _ rfl;have e3:=hc3 3 _ rfl;have e4:=hc3 4 _ rfl;have e5:=hc3 5 _ rfl;have e6:=hc3 6 _ rfl;simp only[Nat.zero_mul,Nat.zero_add]at e0 e1 e2 e3 e4 e5 e6
   simp only[List.length_singleton]
   have HK3:=Hi hk3;have HN1:=Hi hn1;have HB1:=Hi hb1;obtain⟨y,hy⟩:∃ y,y=w3.heap.size:=⟨_,rfl⟩
   have HY:=Hi hy;have BY:=Blk.new w3 56 #[.slice a1 x.iss.length k1,.bool x.num.below,.slice b1 x.num.size.length d1,.int .i64 x.date,.int .i64 x.reason,.bool x.inv.isSome,.int .i64 (x.inv.getD 0)];rw[←hy]at BY
   have F4:Fz w3 (w3.alloc (.cells #[.slice a1 x.iss.length k1,.bool x.num.below,.slice b1 x.num.size.length d1,.int .i64 x.date,.int .i64 x.reason,.bool x.inv.isSome,.int .i64 (x.inv.getD 0)] 56)):=(Fr.refl w3).alloc _;have HF3:=Hi F3;have HF4:=Hi F4;have HBY:=Hi BY;have HG3:=Hi hg3;clear h3 F3 hg3 hc3 hk3 hn1 hb1 hy BY F4;go_upto_region 8 with fail
   rw[←HY.out]
   clear e0 e1 e2 e3 e4 e5 e6 hs;generalize (w3.alloc (.cells #[.slice a1 x.iss.length k1,.bool x.num.below,.slice b1 x.num.size.length d1,.int .i64 x.date,.int .i64 x.reason,.bool x.inv.isSome,.int .i64 (x.inv.getD 0)] 56))=w4 at *
   have y0:=HBY.out.cell 0;simp only[SG]at y0
   go_wp2_with fail
   refine(r14Right_any _ x.iss w4 (HN1.out.old HF4.out) (fun s hs=>(HFX.out.1.2 s hs).1)).mono ?_
   rintro e w5 ⟨rfl,F5⟩;clear y0;cases hno:nameOk x.iss with
   |false=>
    have HN:=Hi hno;clear hno;have HLS2:=Hi (show leastL (L.drop (j+1)) ls o=P from by
     rw[←HLS.out,HDX.out]
     conv=>rhs;unfold leastL
     rw[if_neg (fun h=>by rw[HN.out]at h;cases h.1)])
    have HRL2:=Hi (HRL.out.old (HF3.out.trans (HF4.out.trans F5)));have HRO2:=Hi (HRO.out.old (HF3.out.trans (HF4.out.trans F5)));have HFN:=Hi (HF.out.trans (HF3.out.trans (HF4.out.trans F5)));go_wp2_with fail
    go_roundg (L.length-(j+1))
    case measure=>rw[HG.out];omega
    case rel=>exact⟨j+1,al,ao,cl,co,ls,o,rfl,by omega,rfl,rfl,by go_num,Hi ⟨by have:=HLN.out.1;omega,by have:=HLN.out.2;omega⟩,HLS2,HU,HRL2,HRO2,HDJ,HFN⟩
   |true=>
    have HFR:=Hi (show fitR x from ⟨HFX.out.1,hno,HFX.out.2⟩);have HNO:=Hi hno;have HF5:=Hi (HF3.out.trans (HF4.out.trans F5));have HF45:=Hi (HF4.out.trans F5);have HB5:=Hi (HBY.out.fr F5 (fun h=>h));clear hno F5;have y0:=HB5.out.cell 0;have y1:=HB5.out.cell 1;have y2:=HB5.out.cell 2;simp only[SG]at y0 y1 y2
    go_wp2_with fail
    refine(r22Place_any x _ _ _ o w5 ((HRO.out.old HF5.out).at (by decide)) (HN1.out.old HF45.out) (HB1.out.old HF45.out) HU.out.2.1 HFR.out (by have:=HLN.out.2;have:=HLEN.out;omega)).mono ?_
    rintro e w6 ⟨rfl,F6⟩;clear y0 y1 y2;obtain⟨pn,hpn⟩:∃ pn,pn=(placeR x o 0).1:=⟨_,rfl⟩
    rw[←hpn]
    clear hpn;cases hpl:(placeR x o 0).2 with
    |true=>
     have HN:=Hi hpl;clear hpl;have HLS2:=Hi (show leastL (L.drop (j+1)) ls o=P from by
      rw[←HLS.out,HDX.out]
      conv=>rhs;unfold leastL
      rw[if_neg (fun h=>by rw[HN.out]at h;cases h.2)])
     have HRL2:=Hi (HRL.out.old (HF5.out.trans F6));have HRO2:=Hi (HRO.out.old (HF5.out.trans F6));have HFN:=Hi (HF.out.trans (HF5.out.trans F6));go_wp2_with fail
     go_roundg (L.length-(j+1))
     case measure=>rw[HG.out];omega
     case rel=>exact⟨j+1,al,ao,cl,co,ls,o,rfl,by omega,rfl,rfl,by go_num,Hi ⟨by have:=HLN.out.1;omega,by have:=HLN.out.2;omega⟩,HLS2,HU,HRL2,HRO2,HDJ,HFN⟩
    |false=>
     obtain⟨o',hr1,hr2,hr3,hr4,hr5⟩:=newRef_more HU.out.1 HU.out.2.1 HFR.out hpl
     have HNR:=Hi hr1;have HO5:=Hi (And.intro hr3 (And.intro hr4 hr5));have HLS2:=Hi (show leastL (L.drop (j+1)) (ls++[x]) o'=P from by
      rw[←HLS.out,HDX.out]
      conv=>rhs;unfold leastL
      rw[if_pos ⟨HNO.out,hpl⟩,hr2])
     clear hpl hr1 hr2 hr3 hr4 hr5;have HF6:=Hi (HF5.out.trans F6);have HF36:=Hi (HF45.out.trans F6);have HB6:=HB5.out.fr F6 (fun h=>h);have HF26:=Hi (HF.out.trans HF6.out);have hsz6:w2.heap.size≤w6.heap.size:=HF26.out.size;have hsw:wr.heap.size≤w6.heap.size:=HF6.out.size;have hs36:w3.heap.size≤w6.heap.size:=HF36.out.size
     obtain⟨a7,c7,w7,run1,row7,F7,own7⟩:=(HRL.out.old HF6.out).add (s:=23) Tryz.underlying23 info43 rfl (by decide) (by decide) hsz6 ((Fr.refl w6).alloc (.cells [.slice p1 x.iss.length p2,.bool x.num.below,.slice p3 x.num.size.length p4,.int .i64 x.date,.int .i64 x.reason,.pointer p5].toArray 43)) w6.heap.size [.slice p1 x.iss.length p2,.bool x.num.below,.slice p3 x.num.size.length p4,.int .i64 x.date,.int .i64 x.reason,.pointer p5] rfl (Blk.new w6 43 [.slice p1 x.iss.length p2,.bool x.num.below,.slice p3 x.num.size.length p4,.int .i64 x.date,.int .i64 x.reason,.pointer p5].toArray) (by simp[Value.oneCell']) x (fun _ _=>HRX.out) (by have:=HLN.out.1;have:=HLEN.out;omega)
     have hkl:=HRL.out.keep;have hko:=HRO.out.keep;have F37:Fr (fun k=>(Value.slice al ls.length cl).ownBlock=some k) w3 w7:=(HF36.out.mono (fun _ _ h=>h.elim)).trans F7;have row7o:GRow 7 RRef (fun k=>(Value.slice a7 (ls.length+1) c7).ownBlock=some k) 56 w7 w2.heap.size (.slice ao o.length co) o:=(HRO.out.old HF6.out).step F7 (fun k _ h=>h) (fun k hk=>HDJ.out k hk) (fun k hk=>own7 k hk);have BY7:=HB6.fr F7 (fun e=>by have:=(hkl _ e).2;have:=HY.out;have:=HF3.out.size;omega)
     obtain⟨a9,c9,w9,run2,row9,F9,own9⟩:=row7o.add (s:=22) Tryz.underlying22 info56 rfl (by decide) (by decide) (Nat.le_trans hsz6 F7.size) ((Fr.refl w7).alloc (.cells [.slice a1 x.iss.length k1,.bool x.num.below,.slice b1 x.num.size.length d1,.int .i64 x.date,.int .i64 x.reason,.bool x.inv.isSome,.int .i64 (x.inv.getD 0)].toArray 56)) w7.heap.size [.slice a1 x.iss.length k1,.bool x.num.below,.slice b1 x.num.size.length d1,.int .i64 x.date,.int .i64 x.reason,.bool x.inv.isSome,.int .i64 (x.inv.getD 0)] rfl (Blk.new w7 56 [.slice a1 x.iss.length k1,.bool x.num.below,.slice b1 x.num.size.length d1,.int .i64 x.date,.int .i64 x.reason,.bool x.inv.isSome,.int .i64 (x.inv.getD 0)].toArray) (by simp[Value.oneCell']) x (HK3.out.step F37 (fun k hk hs=>.inr ⟨(hkl k hs).1,(hkl k hs).2⟩) (fun k hk=>by
      rcases hk with hk|hk
      ·exact .inl (.inr ⟨(hko k hk).1,(hko k hk).2⟩)
      ·rcases own7 k hk with h|h
       ·exact .inl (.inr ⟨(hkl k h).1,(hkl k h).2⟩)
       ·exact .inr (by omega))) (by have:=HLN.out.2;have:=HLEN.out;omega)
     have hdj9:∀ k,(Value.slice a7 (ls.length+1) c7).ownBlock=some k→¬(Value.slice ao o.length co).ownBlock=some k:=fun k hk h=>by
      rcases own7 k hk with g|g
      ·exact HDJ.out k h g
      ·have:=(hko k h).2;omega
     have row7l:=row7.fr F9 (fun _ _ _=>trivial) hdj9;have F29:Fz w2 w9:=(HF26.out.trans' F7 (fun i hi e=>by have:=(hkl i e).1;omega)).trans' F9 (fun i hi e=>by have:=(hko i e).1;omega);have HRUN1:=Hi run1;have HRUN2:=Hi run2;have HNW:=Hi (r22New_any (fun us z=>Kept (fun W=>RRef W us z) (fun k=>(Value.slice a7 (ls.length+1) c7).ownBlock=some k) w9) (.slice a9 (o.length+1) c9) (o++[x]) w9 (fun _ _ h=>h.now) (by have:=row9.atKept (by decide);exact this) (fun r hr=>by
      rcases List.mem_append.1 hr with h|h
      ·exact⟨(HU.out.2.1 r h).1,(HU.out.2.1 r h).2.2⟩
      ·rw[List.mem_singleton]at h;rw[h];exact HFX.out) (by rw[List.length_append,List.length_singleton];have:=HLN.out.2;have:=HLEN.out;omega))
     have HR7:=Hi row7l;have HF29:=Hi F29;have m0:=HF26.out.cell (HCE.out 0 _ rfl) (fun h=>h);have m1:=HF26.out.cell (HCE.out 1 _ rfl) (fun h=>h);have m2:=HF26.out.cell (HCE.out 2 _ rfl) (fun h=>h);have m3:=HF26.out.cell (HCE.out 3 _ rfl) (fun h=>h);have m4:=HF26.out.cell (HCE.out 4 _ rfl) (fun h=>h);have m5:=HF26.out.cell (HCE.out 5 _ rfl) (fun h=>h);simp only[Nat.add_zero]at m0
     have n0:=BY7.cell 0;have n1:=BY7.cell 1;have n2:=BY7.cell 2;have n3:=BY7.cell 3;have n4:=BY7.cell 4;have n5:=BY7.cell 5;have n6:=BY7.cell 6;simp only[SG]at n0 n1 n2 n3 n4 n5 n6
     clear run1 run2 row7 row7o row9 F7 F9 own7 own9 F37 BY7 HB6 hkl hko hdj9 row7l F29 F6 hsz6 hsw hs36;go_wp2_with (first|(at_builtin;refine wpList_append_run (by rfl) (.tmp 44) (.tmp 49) 23 (by rfl) _ w7 (by exact HRUN1.out) ?_)|(at_builtin;refine wpList_append_run (by rfl) (.tmp 52) (.tmp 54) 22 (by rfl) _ w9 (by exact HRUN2.out) ?_)|fail)
     refine HNW.out.mono ?_;rintro e w10 ⟨ho,F10⟩;unfold RefNew at ho;rw[HNR.out]at ho
     obtain⟨a10,c10,rfl,row10⟩:=ho
     have hk10:=row10.keep;have HRO10:=Hi ((row10.free (R:=RRef) (fun _ _ h=>h) F10 (Nat.le_refl _)).low HF29.out.size);have HR10:=Hi (HR7.out.old F10);have HDJ10:=Hi (show ∀ k,(Value.slice a10 o'.length c10).ownBlock=some k→¬(Value.slice a7 (ls.length+1) c7).ownBlock=some k from fun k h1 h2=>by
      have:=(hk10 k h1).1;have:=(HR7.out.keep k h2).2;omega)
     have HF10:=Hi (HF29.out.trans F10);have HLL:Hid ((ls++[x]).length=ls.length+1):=Hi (by rw[List.length_append];rfl);clear row10 hk10 F10 m0 m1 m2 m3 m4 m5 n0 n1 n2 n3 n4 n5 n6;go_wp2_with fail
     go_roundg (L.length-(j+1))
     case measure=>rw[HG.out];omega
     case rel=>exact⟨j+1,a7,a10,c7,c10,ls++[x],o',rfl,by omega,by rw[HLL.out],rfl,by go_num,Hi ⟨by rw[HLL.out];have:=HLN.out.1;omega,by have:=HO5.out.2.2;have:=HLN.out.2;omega⟩,HLS2,Hi ⟨HO5.out.1,HO5.out.2.1,fun y hy=>by
      rcases List.mem_append.1 hy with h|h
      ·exact HU.out.2.2 y h
      ·rw[List.mem_singleton]at h;rw[h];exact HXM.out⟩,Hi (by rw[HLL.out];exact HR10.out),Hi (by rw[HLL.out];exact HRO10.out),Hi (by rw[HLL.out];exact HDJ10.out),HF10⟩
  ·have p7:¬(j:Int)<(L.length:Int):=by omega
   have hP2:=HLS.out;rw[List.drop_eq_nil_of_le (by omega)]at hP2
   unfold leastL at hP2;have HP2:=Hi hP2;have HO2:=Hi (show O=o from by rw[HO.out,←hP2]);have HNI:=Hi (show newIx ls=.ok (o.map nrow) from by have:=HLI.out.1;rw[←hP2]at this;exact this);have HN1:=Hi (ixNew_any (.slice al ls.length cl) ls wr ((HRL.out.at (by decide)).move (Fr.refl wr) (fun cs x hx=>RRow.old _ _ _ _ hx HF.out)) (fun r hr=>HFW.out r (HU.out.2.2 r hr)) (by have:=HLN.out.1;have:=HLEN.out;omega) ((HE.out.old HF1.out).old HF.out));clear hP2;go_wp2_with fail
   refine HN1.out.mono ?_;rintro e w8 ⟨ho,F8⟩;unfold NewOut at ho;rw[HNI.out]at ho
   obtain⟨xb,rfl,hix⟩:=ho
   have HIX:=Hi hix;have HF8:=Hi (HF1.out.trans (HF.out.trans F8));have HRF:=Hi (Refs.old (HRO.out.at (by decide)) F8);clear hix F8;go_wp2_with fail
   refine bodyPost_ret (v:=.tuple #[pt xb,.slice ao o.length co,.bool true]) (by simp[results,Tryz.results17,go_sem]) rfl ⟨?_,HF8.out⟩;rw[HO2.out]
   exact⟨xb,ao,co,rfl,HIX.out,HRF.out⟩
theorem r03Same_any (b1 b2:Bool)(v u:Value)(s1 s2:List UInt8)(w:World)(h:Bytes w v s1)(hu:Bytes w u s2)(h1:s1.length≤1000000)(h2:s2.length≤1000000) :
  Calls Tryz.prog 46 #[.agg #[.bool b1,v],.agg #[.bool b2,u]] w fun e w'=>e=.returned (.bool (decide (madeS ⟨b1,s1⟩=madeS ⟨b2,s2⟩)))∧Fz w w':=by
 obtain⟨x,hx⟩:∃ x,x=madeS ⟨b1,s1⟩:=⟨_,rfl⟩
 obtain⟨y,hy⟩:∃ y,y=madeS ⟨b2,s2⟩:=⟨_,rfl⟩
 rw[←hx,←hy]
 have hxl:x.size.length≤1000000:=by rw[hx];have:=trimS_le s1;show (trimS s1).length≤_;omega
 have hyl:y.size.length≤1000000:=by rw[hy];have:=trimS_le s2;show (trimS s2).length≤_;omega
 obtain⟨r,hr⟩:∃ r,r=decide (x=y):=⟨_,rfl⟩
 have HR:=Hi hr;rw[←hr]
 clear hr;obtain⟨a1,c1,rfl,-⟩:=h.form
 obtain⟨a2,c2,rfl,-⟩:=hu.form
 obtain⟨z,hz⟩:∃ z,z=w.heap.size:=⟨_,rfl⟩
 have HZ:=Hi hz;have F0:Fz w ((w.alloc (.cells #[.bool b1,.slice a1 s1.length c1] 54)).alloc (.cells #[.bool b2,.slice a2 s2.length c2] 54)):=((Fr.refl w).alloc _).alloc _;have BA:=(Blk.new w 54 #[.bool b1,.slice a1 s1.length c1]).alloc (.cells #[.bool b2,.slice a2 s2.length c2] 54);have BB:=Blk.new (w.alloc (.cells #[.bool b1,.slice a1 s1.length c1] 54)) 54 #[.bool b2,.slice a2 s2.length c2];rw[World.size_alloc,←hz]at BB
 rw[←hz]at BA
 have HM1:=Hi (fun W (F:Fz ((w.alloc (.cells #[.bool b1,.slice a1 s1.length c1] 54)).alloc (.cells #[.bool b2,.slice a2 s2.length c2] 54)) W)=>r03Made_as b1 _ s1 x hx W ((h.old F0).old F) h1);have HM2:=Hi (fun W (F:Fz ((w.alloc (.cells #[.bool b1,.slice a1 s1.length c1] 54)).alloc (.cells #[.bool b2,.slice a2 s2.length c2] 54)) W)=>r03Made_as b2 _ s2 y hy W ((hu.old F0).old F) h2);have HS0:=Hi (show ((w.alloc (.cells #[.bool b1,.slice a1 s1.length c1] 54)).alloc (.cells #[.bool b2,.slice a2 s2.length c2] 54)).heap.size=z+2 from by rw[World.size_alloc,World.size_alloc,hz]);have HF0:=Hi F0
 clear h hu hz F0 hx hy;go_enter Tryz.func46,Tryz.ntmps46
 go_upto_region 1 with fail
 rw[←HZ.out]
 generalize ((w.alloc (.cells #[.bool b1,.slice a1 s1.length c1] 54)).alloc (.cells #[.bool b2,.slice a2 s2.length c2] 54))=w0 at *
 replace BA:=BA.drew;replace BB:=BB.drew;have G:Fz w0 w0.drew:=(Fr.refl w0).drew;refine wp_region_2 4 5 (C1:=fun w'=>∀ j,w'.cell? ⟨z,j,none⟩=(#[.bool b1,.slice a1 s1.length c1]:Array Value)[j]?) (C2:=fun w'=>∀ j,w'.cell? ⟨z+1,j,none⟩=(#[.bool b2,.slice a2 s2.length c2]:Array Value)[j]?) (by kernel_rfl) (BA.cell) (BB.cell) (fun hTwo=>?_);refine wpAny2_takeA (i:=0) (oi:=_) (v:=?_) rfl (by kernel_rfl) (by kernel_rfl) (by kernel_rfl) (by kernel_rfl) (by decide) (by kernel_rfl) (fun _ _ _ h=>h) (Or.inl ⟨by rfl,?_⟩) (by assumption) (fun hT2=>?_);rotate_left
 ·(intro W hSw;(try dsimp only at hSw);go_simp;try with_reducible rfl)
 replace hTwo:=hT2;clear hT2;(try simp only[Act.put,SS]);refine wpAny2_takeB (i:=2) (oi:=_) (v:=?_) rfl (by kernel_rfl) (by kernel_rfl) (by kernel_rfl) (by kernel_rfl) (by decide) (by kernel_rfl) (fun _ _ _ h=>h) (Or.inl ⟨by rfl,?_⟩) (by assumption) (fun hT2=>?_);rotate_left
 ·(intro W hSw;(try dsimp only at hSw);go_simp;try with_reducible rfl)
 replace hTwo:=hT2;clear hT2;(try simp only[Act.put,SS]);refine wpAny2_ready (rs:=[1]) (by kernel_rfl) (by simp) ?_;refine All2.cons (o:=_) rfl (fun KK hKK=>?_) All2.nil;go_simp
 (go_at_call 78;(with_reducible refine(HM1.out _ G).mono ?_);rintro e w' ⟨⟨p1,q1,rfl,hk1⟩,F⟩;have hsz:=G.size;replace BA:=BA.fr F (fun h=>h);replace BB:=BB.fr F (fun h=>h);replace G:=G.trans F;clear F HM1;go_wp2_with fail)
 refine hKK.out _ _ ?_ (fun hT2=>?_)
 ·exact⟨fun _=>BA.cell,fun _=>BB.cell⟩
 clear hKK KK;replace hTwo:=hT2;clear hT2;(try simp only[Act.put,SS]);refine wpAny2_ready (rs:=[3]) (by kernel_rfl) (by simp) ?_;refine All2.cons (o:=_) rfl (fun KK hKK=>?_) All2.nil;go_simp
 (go_at_call 78;(with_reducible refine(HM2.out _ G).mono ?_);rintro e w' ⟨⟨p2,q2,rfl,hk2⟩,F⟩;have hsz2:=G.size;replace BA:=BA.fr F (fun h=>h);replace BB:=BB.fr F (fun h=>h);replace hk1:=hk1.old F;replace G:=G.trans F;clear F HM2;go_wp2_with fail)
 refine hKK.out _ _ ?_ (fun hT2=>?_)
 ·exact⟨fun _=>BA.cell,fun _=>BB.cell⟩
 clear hKK KK;replace hTwo:=hT2;clear hT2;(try simp only[Act.put,SS]);have X1:=set2 BA (.bool x.below) (.slice p1 x.size.length q1);have Y0:=BB.fr X1.2 (by omega);have Y1:=set2 Y0 (.bool y.below) (.slice p2 y.size.length q2);have X2:=X1.1.fr Y1.2 (by omega);have d0:=BA.cell 0;have d1:=BA.cell 1;have f0:=BA.frozen 0;have f1:=BA.frozen 1;have e0:=Y0.cell 0;have e1:=Y0.cell 1;have g0:=Y0.frozen 0;have g1:=Y0.frozen 1;simp only[SG]at d0 d1 e0 e1
 refine wpAny2_ready (rs:=[4]) (by kernel_rfl) (by simp) ?_;refine All2.cons (o:=_) rfl (fun KK hKK=>?_) All2.nil;go_simp
 skip
 refine hKK.out _ _ ?_ (fun hT2=>?_)
 ·exact⟨(fun h=>absurd (h.symm.trans (by kernel_rfl:_=true)) (by decide)),fun _=>Y0.cell⟩
 clear hKK KK;replace hTwo:=hT2;clear hT2;(try simp only[Act.put,SS]);refine wpAny2_ready (rs:=[5]) (by kernel_rfl) (by simp) ?_;refine All2.cons (o:=_) rfl (fun KK hKK=>?_) All2.nil;go_simp
 skip
 refine hKK.out _ _ ?_ (fun hT2=>?_)
 ·exact⟨(fun h=>absurd (h.symm.trans (by kernel_rfl:_=true)) (by decide)),(fun h=>absurd (h.symm.trans (by kernel_rfl:_=true)) (by decide))⟩
 clear hKK KK;replace hTwo:=hT2;clear hT2;(try simp only[Act.put,SS]);refine wpAny2_done (by kernel_rfl) ?_ _;have hsd:w0.drew.heap.size=w0.heap.size:=rfl;obtain⟨w3,hw3⟩:∃ w3,w3=((((w'.setCell ⟨z,0,none⟩ (.bool x.below)).setCell ⟨z,1,none⟩ (.slice p1 x.size.length q1)).setCell ⟨z+1,0,none⟩ (.bool y.below)).setCell ⟨z+1,1,none⟩ (.slice p2 y.size.length q2)):=⟨_,rfl⟩
 have F3:Fr (fun k=>k=z∨k=z+1) w' w3:=by rw[hw3];exact(X1.2.mono (fun k _ e=>.inl e)).trans (Y1.2.mono (fun k _ e=>.inr e))
 have hb1:=hk1 w3 (F3.mono (fun k _ e=>by have:=HS0.out;omega));have hb2:=hk2 w3 (F3.mono (fun k _ e=>by have:=HS0.out;omega));have HF3:=Hi ((HF0.out.trans G).trans' F3 (fun i hi e=>by have:=HZ.out;omega));rw[←hw3]at X2
 have Y3:=Y1.1;rw[←hw3]at Y3
 rw[←hw3]
 have hs1:=str_of hb1;have hs2:=str_of hb2;clear d0 d1 f0 f1 e0 e1 g0 g1 hTwo X1 Y0 Y1 hk1 hk2 hb1 hb2 F3 hw3 BA BB G hsz hsz2;try clear hTwo
 have d0:=X2.cell 0;have d1:=X2.cell 1;have e0:=Y3.cell 0;have e1:=Y3.cell 1;simp only[SG]at d0 d1 e0 e1
 obtain⟨p,hp⟩:∃ p,p=x.below:=⟨_,rfl⟩
 obtain⟨q,hq⟩:∃ q,q=y.below:=⟨_,rfl⟩
 have hxy:x=y↔p=q∧x.size=y.size:=by
  rw[hp,hq]
  constructor
  ·intro h;rw[h];exact⟨rfl,rfl⟩
  ·intro h;cases x;cases y;simp only at h;rw[h.1,h.2]
 rw[←hp]at d0
 rw[←hq]at e0
 clear hp hq X2 Y3 hxl hyl;by_cases hpq:p=q
 ·have k1:(p==q)=true:=beq_iff_eq.2 hpq
  have k1':decide (p=q)=true:=decide_eq_true hpq;by_cases hss:x.size=y.size
  ·have k2:(x.size==y.size)=true:=beq_iff_eq.2 hss
   have hr:r=true:=by rw[HR.out];exact decide_eq_true (hxy.2 ⟨hpq,hss⟩)
   subst hr;clear hxy hpq hss;go_wp2_with fail
   go_ret;exact⟨rfl,HF3.out⟩
  ·have k2:(x.size==y.size)=false:=beq_eq_false_iff_ne.2 hss
   have hr:r=false:=by rw[HR.out];exact decide_eq_false (fun h=>hss (hxy.1 h).2)
   subst hr;clear hxy hpq;go_wp2_with fail
   go_ret;exact⟨rfl,HF3.out⟩
 ·have k1:(p==q)=false:=beq_eq_false_iff_ne.2 hpq
  have k1':decide (p=q)=false:=decide_eq_false hpq;have hr:r=false:=by rw[HR.out];exact decide_eq_false (fun h=>hpq (hxy.1 h).1)
  subst hr;clear hxy;go_wp2_with fail
  go_ret;exact⟨rfl,HF3.out⟩
end Go.Proofs.YtehlipgmkinfbaaGreatDoor
