/-
  Merged by program: XPt16 XScCopy XScPts XScKnP.
-/
import Derived.Test.YteidmhkobmddiaaGreatDoorQ0m
set_option linter.unusedSimpArgs false
set_option maxRecDepth 100000
set_option maxHeartbeats 8000000
namespace Go.Q
open Go Go.RowKit
theorem place_new {w':World}{K:Nat→Prop}{a d:Option Addr}{c e:Nat}(x:WhereT)(k1:Kept (fun W=>Gens W (.slice a x.ns.length c) x.ns) K w')(k2:Kept (fun W=>Attrs W (.slice d x.st.length e) x.st) K w')(hK:∀ k,K k→k<w'.heap.size):Kept (fun W=>PlaceAt W (pt w'.heap.size) (some x)) K (w'.alloc (.cells #[.slice a x.ns.length c,.slice d x.st.length e] 151)):=fun W f=>
 ⟨_,a,c,d,e,rfl,(Blk.new w' _ _).fr f (fun h=>by have:=hK _ h;omega),(k1.old ((Fr.refl w').alloc _)) W f,(k2.old ((Fr.refl w').alloc _)) W f⟩
def copyPl (o:Option WhereT):Prop:=((nsOf o).length≤1000000∧∀ g∈nsOf o,copyG g)∧copyR (stOf o)
def copyPt (p:PointT):Prop:=copyPl p.pl∧p.rs.length≤100000000000∧p.is.length≤1000000∧∀ g∈p.is,copyG g
def dirPt (n:List (List Part)):PointT:=⟨some ⟨[⟨4,[],n⟩],[]⟩,[],[]⟩
def scPointsS (ps:List PointT)(n:List (List Part)):List PointT:=if ps.length=0 then [dirPt n] else ps
def dirN (n:List (List Part)):Prop:=n.length≤1000∧∀ r∈n,r.length≤1000000∧∀ p∈r,p.o.length≤100000000000∧p.b.length≤100000000000
theorem lat_one {α:Type}{sz:Nat}{R:World→List Value→α→Prop}{W:World}{g:Nat}{t:TypeId}{us:List Value}{x:α}(B:Blk W g t us.toArray)(h1:us.length=sz)(hr:R W us x):LAt sz R W (.slice (some ⟨g,0,none⟩) 1 1) [x]:=
 ⟨_,1,rfl,Nat.le_refl _,by unfold maxLen;omega,fun _=>⟨g,0,rfl,fun i y hi=>by
  have h0:i=0:=by
   have:=(List.getElem?_eq_some_iff.1 hi).1;simp at this
   omega
  subst h0;simp only[List.getElem?_cons_zero,Option.some.injEq]at hi
  subst hi;exact⟨us,h1,fun j u hu=>by have:=B.cell (0+sz*0+j);rw[this,List.getElem?_toArray];simpa using hu,hr⟩⟩⟩
theorem lat_nil {α:Type}{sz:Nat}{R:World→List Value→α→Prop}(W:World):LAt sz R W (.slice none 0 0) []:=⟨none,0,rfl,Nat.le_refl _,Nat.zero_le _,fun h=>absurd h (Nat.lt_irrefl _)⟩
theorem attrs_none (W:World):Attrs W (.slice none 0 0) []:=⟨none,0,rfl,Nat.le_refl _,Nat.zero_le _,fun h=>absurd h (Nat.lt_irrefl _)⟩
theorem ints_none (W:World):Ints W (.slice none 0 0) []:=Vals.nil W
abbrev dirW1 (w:World)(an:Option Addr)(n:List (List Part))(cn:Nat):World:=w.alloc (.cells #[.int .i64 4,.slice none 0 0,.slice an n.length cn] 148)
abbrev dirW2 (w:World)(an:Option Addr)(n:List (List Part))(cn:Nat):World:=(dirW1 w an n cn).alloc (.cells #[.slice (some ⟨w.heap.size,0,none⟩) 1 1,.slice none 0 0] 151)
abbrev dirW3 (w:World)(an:Option Addr)(n:List (List Part))(cn:Nat):World:=(dirW2 w an n cn).alloc (.cells #[.pointer (some ⟨w.heap.size+1,0,none⟩),.slice none 0 0,.slice none 0 0] 47)
theorem dirPts_new {w:World}{an:Option Addr}{cn:Nat}{n:List (List Part)}(h:NameAt w (.slice an n.length cn) n):Pts (dirW3 w an n cn) (.slice (some ⟨w.heap.size+2,0,none⟩) 1 1) [dirPt n]∧Fz w (dirW3 w an n cn):=by
 have s1:(dirW1 w an n cn).heap.size=w.heap.size+1:=World.size_alloc _ _;have s2:(dirW2 w an n cn).heap.size=w.heap.size+2:=by rw[World.size_alloc,s1]
 have F1:Fz w (dirW1 w an n cn):=(Fr.refl w).alloc _;have F2:Fz (dirW1 w an n cn) (dirW2 w an n cn):=(Fr.refl _).alloc _;have F3:Fz (dirW2 w an n cn) (dirW3 w an n cn):=(Fr.refl _).alloc _;have B1:=((Blk.new w 148 #[.int .i64 4,.slice none 0 0,.slice an n.length cn]).fr F2 (fun h=>h)).fr F3 (fun h=>h);have B2:=(Blk.new (dirW1 w an n cn) 151 #[.slice (some ⟨w.heap.size,0,none⟩) 1 1,.slice none 0 0]).fr F3 (fun h=>h);have B3:=Blk.new (dirW2 w an n cn) 47 #[.pointer (some ⟨w.heap.size+1,0,none⟩),.slice none 0 0,.slice none 0 0];rw[s1]at B2
 rw[s2]at B3
 have F:=(F1.trans F2).trans F3;refine⟨lat_one (us:=[.pointer (some ⟨w.heap.size+1,0,none⟩),.slice none 0 0,.slice none 0 0]) B3 rfl ⟨_,_,_,rfl,⟨_,_,_,_,_,rfl,B2,lat_one (us:=[.int .i64 4,.slice none 0 0,.slice an n.length cn]) B1 rfl ⟨_,_,rfl,Vals.nil _,h.old F⟩,attrs_none _⟩,ints_none _,lat_nil _⟩,F⟩
def knT5:List UInt8:=[50,46,53,46,52,46,51,61,79,116,104,101,114]
def knV5:List UInt8:=wrapS (tagOf 19) ([79,116,104,101,114])
def scN:List (List Part):=[[⟨[2,5,4,3],knV1⟩]]
def scO:List (List Part):=[[⟨[2,5,4,3],knV5⟩]]
theorem scN_of:nameOfS [knT1]=.ok scN:=by kernel_rfl
theorem scO_of:nameOfS [knT5]=.ok scO:=by kernel_rfl
theorem scN_ok:nameOk scN=true:=by kernel_rfl
theorem scO_ok:nameOk scO=true:=by kernel_rfl
theorem sc_same:nameSameS scN scN=true:=by
 rw[nameSame_self,scN_ok]
theorem sc_other:nameSameS scN scO=false:=by
 unfold nameSameS;rw[scN_ok,scO_ok]
 have e:¬nameKeyS scN=nameKeyS scO:=by
  rw[show scN=oneN [2,5,4,3] knV1 from rfl,show scO=oneN [2,5,4,3] knV5 from rfl,oneN_key,oneN_key]
  unfold knV1 knV5;rw[attrKey_wrap (by kernel_rfl) (of_decide_eq_true (by kernel_rfl)),attrKey_wrap (by kernel_rfl) (of_decide_eq_true (by kernel_rfl))]
  exact of_decide_eq_false (by kernel_rfl)
 rw[decide_eq_false e]
 rfl
theorem scN_few:∀ r∈scN,fewB r:=by
 intro r hr p hp;simp only[scN,List.mem_singleton]at hr
 subst hr;rw[List.mem_singleton.1 hp]
 exact of_decide_eq_true (by kernel_rfl)
theorem scO_few:∀ r∈scO,fewB r:=by
 intro r hr p hp;simp only[scO,List.mem_singleton]at hr
 subst hr;rw[List.mem_singleton.1 hp]
 exact of_decide_eq_true (by kernel_rfl)
end Go.Q
namespace Go.Proofs.YteidmhkobmddiaaGreatDoor
open Go Go.RowKit Go.Q
theorem few16_any (a:Option Addr)(c:Nat)(l:List Int)(wb w:World)(h:Ints wb (.slice a l.length c) l) :
  Calls Tryz.prog 76 #[.slice a l.length c] w fun e w'=>e=.returned (.slice a (l.take 20).length c)∧Fz w w':=by
 obtain⟨_,_,he,hc1,hm1,-⟩:=Ints.form h
 simp only[Value.slice.injEq]at he
 obtain⟨rfl,-,rfl⟩:=he
 unfold maxLen at hm1;obtain⟨m,hm⟩:∃ m:Nat,m=min l.length 20:=⟨_,rfl⟩
 have hl:(l.take 20).length=m:=by rw[List.length_take,hm,Nat.min_comm]
 have HL:=Hi hl;have c1:min (l.length:Int) 20=(m:Int):=by omega
 have c2:(m:Int)≤(c:Int):=by omega
 have c3:(0:Int)≤(m:Int):=by omega
 clear h hl hm hc1;go_enter Tryz.func76,Tryz.ntmps76
 go_wp2_with fail
 go_ret;exact⟨by rw[HL.out];rfl,Fr.refl _⟩
theorem toWhere_any (vn vs:Value)(p:PointD)(wb w:World)(hn:Gens wb vn p.ns)(hs:Attrs wb vs p.st)(Fb:Fz wb w) :
  Calls Tryz.prog 75 #[.agg #[.bool p.has,vn,vs]] w fun e w'=>(∃ q,e=.returned (.pointer q)∧Kept (fun W=>PlaceAt W (.pointer q) (cutPlace p)) (fun k=>wb.heap.size≤k∧k<w.heap.size) w')∧Fz w w':=by
 obtain⟨a1,c1,rfl⟩:=Gens.shape hn
 have hs1:=hs;obtain⟨a2,c2,rfl,-⟩:=hs1
 have HFB:=Hi Fb;have H1:=Hi (fun W (F:Fz wb W)=>lawFewK_any _ p.ns wb W hn F);have H2:=Hi (fun W (F:Fz wb W)=>lawStep_any _ p.st wb W hs F);obtain⟨b,hb⟩:∃ b,b=p.has:=⟨_,rfl⟩
 have HC:=Hi (show cutPlace p=if b then some ⟨fewS p.ns,cutStep p.st⟩ else none from by rw[hb];rfl);rw[←hb]
 clear hb Fb hn hs;cases b with
 |false=>
  have HC2:=Hi (show cutPlace p=none from HC.out);clear HC H1 H2;go_enter Tryz.func75,Tryz.ntmps75
  go_wp2_with fail
  go_ret;exact⟨⟨none,rfl,by rw[HC2.out];exact fun W _=>rfl⟩,(Fr.refl w).alloc _⟩
 |true=>
 have HC2:=Hi (show cutPlace p=some ⟨fewS p.ns,cutStep p.st⟩ from HC.out);clear HC;obtain⟨z,hz⟩:∃ z,z=w.heap.size:=⟨_,rfl⟩
 have HZ:=Hi hz;have F0:Fz w (w.alloc (.cells #[.bool true,.slice a1 p.ns.length c1,.slice a2 p.st.length c2] 26)):=(Fr.refl w).alloc _;have B:=Blk.new w 26 #[.bool true,.slice a1 p.ns.length c1,.slice a2 p.st.length c2];rw[←hz]at B
 have hs0:w.heap.size+1=(w.alloc (.cells #[.bool true,.slice a1 p.ns.length c1,.slice a2 p.st.length c2] 26)).heap.size:=by rw[World.size_alloc]
 have HF00:=Hi F0;clear hz F0;go_enter Tryz.func75,Tryz.ntmps75
 go_upto_region 1 with fail
 rw[←HZ.out]
 generalize (w.alloc (.cells #[.bool true,.slice a1 p.ns.length c1,.slice a2 p.st.length c2] 26))=w0 at *
 have e0:=B.cell 0;have e1:=B.cell 1;have e2:=B.cell 2;simp only[SG]at e0 e1 e2
 go_upto_region 3 with fail
 have HS0:=Hi (show w.heap.size+1=w0.drew.heap.size from hs0);have HF0:=Hi (show Fz w w0.drew from HF00.out.drew);clear hs0 HF00 e0 e1 e2;replace B:=B.drew;have G:Fz w0.drew w0.drew:=Fr.refl _;refine wp_region_noPanic ?_;refine wp_region_held_drew (S:=(fun w'=>∀ j,w'.cell? ⟨z,j,none⟩=(#[.bool true,.slice a1 p.ns.length c1,.slice a2 p.st.length c2]:Array Value)[j]?)) (by kernel_rfl) ?_ (fun hHeld=>?_)
 ·exact B.cell
 refine wpAnyH_take (i:=0) (oi:=_) (v:=?_) rfl (by kernel_rfl) (by kernel_rfl) (by kernel_rfl) (fun _ _ _ h=>h) (Or.inl ⟨by rfl,?_⟩) (by assumption) ?_;rotate_left
 ·(intro W hSw;(try dsimp only at hSw);go_simp;try with_reducible rfl)
 (try simp only[Act.put,SK,SS]);refine wpAnyH_take (i:=1) (oi:=_) (v:=?_) rfl (by kernel_rfl) (by kernel_rfl) (by kernel_rfl) (fun _ _ _ h=>h) (Or.inl ⟨by rfl,?_⟩) (by assumption) ?_;rotate_left
 ·(intro W hSw;(try dsimp only at hSw);go_simp;try with_reducible rfl)
 (try simp only[Act.put,SK,SS]);refine wpAnyH_take (i:=3) (oi:=_) (v:=?_) rfl (by kernel_rfl) (by kernel_rfl) (by kernel_rfl) (fun _ _ _ h=>h) (Or.inl ⟨by rfl,?_⟩) (by assumption) ?_;rotate_left
 ·(intro W hSw;(try dsimp only at hSw);go_simp;try with_reducible rfl)
 (try simp only[Act.put,SK,SS]);refine wpAnyH_take (i:=4) (oi:=_) (v:=?_) rfl (by kernel_rfl) (by kernel_rfl) (by kernel_rfl) (fun _ _ _ h=>h) (Or.inl ⟨by rfl,?_⟩) (by assumption) ?_;rotate_left
 ·(intro W hSw;(try dsimp only at hSw);go_simp;try with_reducible rfl)
 (try simp only[Act.put,SK,SS]);refine wpAnyH_ready (rs:=[2]) (by kernel_rfl) (by simp) ?_;refine AllReadyH.cons (o:=_) rfl (fun KK hKK=>?_) AllReadyH.nil;go_simp
 (go_at_call 77;with_reducible refine(H1.out _ (HFB.out.trans (HF0.out.trans G))).mono ?_;rintro e w' ⟨⟨a3,c3,rfl,hq⟩,F⟩;have hsz:=G.size;have k1:=hq.weaken (K':=(fun k=>wb.heap.size≤k∧k<w.heap.size)) (fun k hk=>⟨hk.1,by have:=HS0.out;omega⟩);replace B:=B.fr F (fun h=>h);replace G:=G.trans F;clear hq F H1;go_wp2_with fail)
 refine hKK.out _ _ ?_ (fun hHeld=>?_)
 ·exact B.cell
 clear hKK KK;(try simp only[Act.put,SK,SS]);refine wpAnyH_ready (rs:=[5]) (by kernel_rfl) (by simp) ?_;refine AllReadyH.cons (o:=_) rfl (fun KK hKK=>?_) AllReadyH.nil;go_simp
 (go_at_call 110;with_reducible refine(H2.out _ (HFB.out.trans (HF0.out.trans G))).mono ?_;rintro e w' ⟨⟨a4,c4,rfl,hq⟩,F⟩;have hsz:=G.size;have k2:=hq.kept ((HFB.out.trans (HF0.out.trans G)).trans F) (fun k=>wb.heap.size≤k∧k<w.heap.size) (fun k hk=>⟨hk.1,by have:=HS0.out;omega⟩);replace k1:=k1.old F;replace B:=B.fr F (fun h=>h);replace G:=G.trans F;clear hq F H2;go_wp2_with fail)
 refine hKK.out _ _ ?_ (fun hHeld=>?_)
 ·exact B.cell
 clear hKK KK;(try simp only[Act.put,SK,SS]);refine wpAnyH_take (i:=6) (oi:=_) (v:=?_) rfl (by kernel_rfl) (by kernel_rfl) (by kernel_rfl) (fun _ _ _ h=>h) (Or.inl ⟨by rfl,?_⟩) (by assumption) ?_;rotate_left
 ·(intro W hSw;(try dsimp only at hSw);go_simp;try with_reducible rfl)
 (try simp only[Act.put,SK,SS]);refine wpAnyH_ready (rs:=[7]) (by kernel_rfl) (by simp) ?_;refine AllReadyH.cons (o:=_) rfl (fun KK hKK=>?_) AllReadyH.nil;go_simp
 skip
 refine hKK.out _ _ ?_ (fun hHeld=>?_)
 ·exact(B.alloc _).cell
 clear hKK KK;(try simp only[Act.put,SK,SS]);refine wpAnyH_take (i:=8) (oi:=_) (v:=?_) rfl (by kernel_rfl) (by kernel_rfl) (by kernel_rfl) (fun _ _ _ h=>h) (Or.inl ⟨by rfl,?_⟩) (by assumption) ?_;rotate_left
 ·(intro W hSw;(try dsimp only at hSw);go_simp;try with_reducible rfl)
 (try simp only[Act.put,SK,SS]);refine wpAnyH_done (by kernel_rfl) ?_ _;refine NoPanic.normal ?_;all_goals
  have HKP:=Hi (place_new ⟨fewS p.ns,cutStep p.st⟩ k1 k2 (fun k hk=>by have:=G.size;have:=HS0.out;have h2:=hk.2;omega));have HF:=Hi ((HF0.out.trans G).alloc (.cells #[.slice a3 (fewS p.ns).length c3,.slice a4 (cutStep p.st).length c4] 151));clear k1 k2 G B;go_wp2_with fail
  go_ret;exact⟨⟨_,rfl,by rw[HC2.out];exact HKP.out⟩,HF.out⟩
theorem pointTo_any (vn vs vr vi:Value)(p:PointD)(wb w:World)(h:PdIn wb vn vs vr vi p)(Fb:Fz wb w) :
  Calls Tryz.prog 36 #[.agg #[.bool p.has,vn,vs,vr,vi]] w fun e w'=>(∃ q a3 c3 d4 e4,e=.returned (.agg #[.pointer q,.slice a3 (p.rs.take 20).length c3,.slice d4 (fewS p.is).length e4])∧Kept (fun W=>PtIn W (.pointer q) (.slice a3 (p.rs.take 20).length c3) (.slice d4 (fewS p.is).length e4) (cutPt p)) (fun k=>wb.heap.size≤k∧k<w.heap.size) w')∧Fz w w':=by
 obtain⟨a1,c1,a2,c2,a3,c3,a4,c4,rfl,rfl,rfl,rfl⟩:=h.form
 obtain⟨hn,hs,hr,hi⟩:=h
 obtain⟨m,hm⟩:∃ m:Nat,m=min p.rs.length 20:=⟨_,rfl⟩
 have hml:(p.rs.take 20).length=m:=by rw[List.length_take,hm,Nat.min_comm]
 have HML:=Hi hml;have HR:=Hi (Ints.cut hr 20 m hm);obtain⟨z,hz⟩:∃ z,z=w.heap.size:=⟨_,rfl⟩
 have HZ:=Hi hz;have F0:Fz w ((w.alloc (.cells #[.bool p.has,.slice a1 p.ns.length c1,.slice a2 p.st.length c2,.slice a3 p.rs.length c3,.slice a4 p.is.length c4] 29)).alloc (.cells #[.pointer none,.slice none 0 0,.slice none 0 0] 47)):=((Fr.refl w).alloc _).alloc _;have B:=(Blk.new w 29 #[.bool p.has,.slice a1 p.ns.length c1,.slice a2 p.st.length c2,.slice a3 p.rs.length c3,.slice a4 p.is.length c4]).alloc (.cells #[.pointer none,.slice none 0 0,.slice none 0 0] 47)
 have D:=Blk.new (w.alloc (.cells #[.bool p.has,.slice a1 p.ns.length c1,.slice a2 p.st.length c2,.slice a3 p.rs.length c3,.slice a4 p.is.length c4] 29)) 47 #[.pointer none,.slice none 0 0,.slice none 0 0];rw[World.size_alloc,←hz]at D
 rw[←hz]at B
 have hs0:w.heap.size+2=((w.alloc (.cells #[.bool p.has,.slice a1 p.ns.length c1,.slice a2 p.st.length c2,.slice a3 p.rs.length c3,.slice a4 p.is.length c4] 29)).alloc (.cells #[.pointer none,.slice none 0 0,.slice none 0 0] 47)).heap.size:=by rw[World.size_alloc,World.size_alloc]
 have HFB:=Hi Fb;have H1:=Hi (fun W (F:Fz wb W)=>toWhere_any _ _ p wb W hn hs F);have H2:=Hi (fun W (_:Fz wb W)=>few16_any a3 c3 p.rs wb W hr);rw[hml]at H2
 have H3:=Hi (fun W (F:Fz wb W)=>lawFewK_any _ p.is wb W hi F);have HF00:=Hi F0;clear hz F0 Fb hn hs hr hi hml hm;go_enter Tryz.func36,Tryz.ntmps36
 go_upto_region 1 with fail
 rw[←HZ.out]
 have HS0:=Hi (show w.heap.size+2=((w.alloc (.cells #[.bool p.has,.slice a1 p.ns.length c1,.slice a2 p.st.length c2,.slice a3 p.rs.length c3,.slice a4 p.is.length c4] 29)).alloc (.cells #[.pointer none,.slice none 0 0,.slice none 0 0] 47)).drew.heap.size from hs0);clear hs0;generalize ((w.alloc (.cells #[.bool p.has,.slice a1 p.ns.length c1,.slice a2 p.st.length c2,.slice a3 p.rs.length c3,.slice a4 p.is.length c4] 29)).alloc (.cells #[.pointer none,.slice none 0 0,.slice none 0 0] 47))=w0 at *
 have HF0:=Hi (show Fz w w0.drew from HF00.out.drew);replace B:=B.drew;replace D:=D.drew;have G:Fz w0.drew w0.drew:=Fr.refl _;refine wp_region_noPanic ?_;refine wp_region_held_drew (S:=(fun w'=>∀ j,w'.cell? ⟨z,j,none⟩=(#[.bool p.has,.slice a1 p.ns.length c1,.slice a2 p.st.length c2,.slice a3 p.rs.length c3,.slice a4 p.is.length c4]:Array Value)[j]?)) (by kernel_rfl) ?_ (fun hHeld=>?_)
 ·exact B.cell
 refine wpAnyH_take (i:=0) (oi:=_) (v:=?_) rfl (by kernel_rfl) (by kernel_rfl) (by kernel_rfl) (fun _ _ _ h=>h) (Or.inl ⟨by rfl,?_⟩) (by assumption) ?_;rotate_left
 ·(intro W hSw;(try dsimp only at hSw);go_simp;try with_reducible rfl)
 (try simp only[Act.put,SK,SS]);refine wpAnyH_take (i:=1) (oi:=_) (v:=?_) rfl (by kernel_rfl) (by kernel_rfl) (by kernel_rfl) (fun _ _ _ h=>h) (Or.inl ⟨by rfl,?_⟩) (by assumption) ?_;rotate_left
 ·(intro W hSw;(try dsimp only at hSw);go_simp;try with_reducible rfl)
 (try simp only[Act.put,SK,SS]);refine wpAnyH_take (i:=3) (oi:=_) (v:=?_) rfl (by kernel_rfl) (by kernel_rfl) (by kernel_rfl) (fun _ _ _ h=>h) (Or.inl ⟨by rfl,?_⟩) (by assumption) ?_;rotate_left
 ·(intro W hSw;(try dsimp only at hSw);go_simp;try with_reducible rfl)
 (try simp only[Act.put,SK,SS]);refine wpAnyH_take (i:=4) (oi:=_) (v:=?_) rfl (by kernel_rfl) (by kernel_rfl) (by kernel_rfl) (fun _ _ _ h=>h) (Or.inl ⟨by rfl,?_⟩) (by assumption) ?_;rotate_left
 ·(intro W hSw;(try dsimp only at hSw);go_simp;try with_reducible rfl)
 (try simp only[Act.put,SK,SS]);refine wpAnyH_take (i:=6) (oi:=_) (v:=?_) rfl (by kernel_rfl) (by kernel_rfl) (by kernel_rfl) (fun _ _ _ h=>h) (Or.inl ⟨by rfl,?_⟩) (by assumption) ?_;rotate_left
 ·(intro W hSw;(try dsimp only at hSw);go_simp;try with_reducible rfl)
 (try simp only[Act.put,SK,SS]);refine wpAnyH_take (i:=7) (oi:=_) (v:=?_) rfl (by kernel_rfl) (by kernel_rfl) (by kernel_rfl) (fun _ _ _ h=>h) (Or.inl ⟨by rfl,?_⟩) (by assumption) ?_;rotate_left
 ·(intro W hSw;(try dsimp only at hSw);go_simp;try with_reducible rfl)
 (try simp only[Act.put,SK,SS]);refine wpAnyH_ready (rs:=[2]) (by kernel_rfl) (by simp) ?_;refine AllReadyH.cons (o:=_) rfl (fun KK hKK=>?_) AllReadyH.nil;go_simp
 (go_at_call 75;with_reducible refine(H1.out _ (HFB.out.trans (HF0.out.trans G))).mono ?_;rintro e w' ⟨⟨q,rfl,hq⟩,F⟩;have hsz:=G.size;have k1:=hq.weaken (K':=(fun k=>wb.heap.size≤k∧k<w.heap.size+2)) (fun k hk=>⟨hk.1,by have:=HS0.out;omega⟩);clear hq;replace B:=B.fr F (fun h=>h);replace D:=D.fr F (fun h=>h);replace G:=G.trans F;clear F H1;go_wp2_with fail)
 refine hKK.out _ _ ?_ (fun hHeld=>?_)
 ·exact B.cell
 clear hKK KK;(try simp only[Act.put,SK,SS]);refine wpAnyH_ready (rs:=[5]) (by kernel_rfl) (by simp) ?_;refine AllReadyH.cons (o:=_) rfl (fun KK hKK=>?_) AllReadyH.nil;go_simp
 (go_at_call 76;with_reducible refine(H2.out _ (HFB.out.trans (HF0.out.trans G))).mono ?_;rintro e w' ⟨rfl,F⟩;have hsz:=G.size;have k2:=vals_keeps HR.out (((HFB.out.trans (HF0.out.trans G)).trans F).mono (T:=fun k=>wb.heap.size≤k) (fun _ _ h=>h.elim)) (fun k=>wb.heap.size≤k∧k<w.heap.size+2) (fun k hk=>hk.1);replace k1:=k1.old F;replace B:=B.fr F (fun h=>h);replace D:=D.fr F (fun h=>h);replace G:=G.trans F;clear F H2;go_wp2_with fail)
 refine hKK.out _ _ ?_ (fun hHeld=>?_)
 ·exact B.cell
 clear hKK KK;(try simp only[Act.put,SK,SS]);refine wpAnyH_ready (rs:=[8]) (by kernel_rfl) (by simp) ?_;refine AllReadyH.cons (o:=_) rfl (fun KK hKK=>?_) AllReadyH.nil;go_simp
 (go_at_call 77;with_reducible refine(H3.out _ (HFB.out.trans (HF0.out.trans G))).mono ?_;rintro e w' ⟨⟨d4,e4,rfl,hq⟩,F⟩;have hsz:=G.size;have k3:=hq.weaken (K':=(fun k=>wb.heap.size≤k∧k<w.heap.size+2)) (fun k hk=>⟨hk.1,by have:=HS0.out;omega⟩);clear hq;replace k1:=k1.old F;replace k2:=k2.old F;replace B:=B.fr F (fun h=>h);replace D:=D.fr F (fun h=>h);replace G:=G.trans F;clear F H3;have d0:=D.cell 0;have d1:=D.cell 1;have d2:=D.cell 2;have f0:=D.frozen 0;have f1:=D.frozen 1;have f2:=D.frozen 2;have D5:=putL_all (Z:=[.pointer none,.slice none 0 0,.slice none 0 0]) D (l:=[.pointer q,.slice a3 m c3,.slice d4 (fewS p.is).length e4]) rfl;simp only[putL]at D5;have B5:=B.fr D5.2 (by omega);simp only[SG]at d0 d1 d2;go_wp2_with fail)
 refine hKK.out _ _ ?_ (fun hHeld=>?_)
 ·exact B.cell
 clear hKK KK;(try simp only[Act.put,SK,SS]);refine wpAnyH_take (i:=9) (oi:=_) (v:=?_) rfl (by kernel_rfl) (by kernel_rfl) (by kernel_rfl) (fun _ _ _ h=>h) (Or.inl ⟨by rfl,?_⟩) (by assumption) ?_;rotate_left
 ·(intro W hSw;(try dsimp only at hSw);go_simp;try with_reducible rfl)
 (try simp only[Act.put,SK,SS]);refine wpAnyH_ready (rs:=[10]) (by kernel_rfl) (by simp) ?_;refine AllReadyH.cons (o:=_) rfl (fun KK hKK=>?_) AllReadyH.nil;go_simp
 skip
 refine hKK.out _ _ ?_ (fun hHeld=>?_)
 ·with_reducible exact B5.cell
 clear hKK KK;(try simp only[Act.put,SK,SS]);refine wpAnyH_done (by kernel_rfl) ?_ _;refine NoPanic.normal ?_;all_goals
  have k:=(show Kept (fun W=>PtIn W (.pointer q) (.slice a3 m c3) (.slice d4 (fewS p.is).length e4) (cutPt p)) (fun k=>wb.heap.size≤k∧k<w.heap.size+2) _ from fun W f=>⟨k1 W f,k2 W f,k3 W f⟩);have hsb:=HFB.out.size;have HK:=Hi (k.step (K':=(fun k=>wb.heap.size≤k∧k<w.heap.size)) D5.2 (fun k hk e=>by have:=HZ.out;omega) (fun k hk=>.inl (by omega)));have HF:=Hi ((HF0.out.trans G).trans' D5.2 (fun i hi e=>by have:=HZ.out;omega));have n0:=D5.1.cell 0;have n1:=D5.1.cell 1;have n2:=D5.1.cell 2;simp only[SG]at n0 n1 n2
  clear k k1 k2 k3 B D B5 D5 G;go_wp2_with fail
  exact bodyPost_ret (v:=.agg #[.pointer q,.slice a3 m c3,.slice d4 (fewS p.is).length e4]) (by simp[results,Tryz.results36,go_sem,n0,n1,n2]) rfl ⟨⟨q,a3,c3,d4,e4,by rw[HML.out],by rw[HML.out];exact HK.out⟩,HF.out⟩
theorem ints_own {w:World}{base n:Nat}{t:TypeId}{v:Value}{o:List Int}(h:w.ownsRow base t 1 v n (intCells o))(K:Nat→Prop)(hK:∀ k,K k→k<base):Kept (fun W=>Ints W v o) K w:=own_kept h K hK
theorem scCopied_any (vp vr vi:Value)(p:PointT)(w:World)(h:PtIn w vp vr vi p)(hc:copyPt p) :
  Calls Tryz.prog 60 #[.agg #[vp,vr,vi]] w fun e w'=>(∃ q b1 g1 b2 g2,e=.returned (.agg #[.pointer q,.slice b1 p.rs.length g1,.slice b2 p.is.length g2])∧Kept (fun W=>PtIn W (.pointer q) (.slice b1 p.rs.length g1) (.slice b2 p.is.length g2) p) (fun k=>k<w.heap.size) w')∧Fz w w':=by
 obtain⟨q,a1,c1,a2,c2,rfl,rfl,rfl⟩:=h.form
 obtain⟨hp,hr,hi⟩:=h
 obtain⟨hcp,hc1,hc2,hc3⟩:=hc
 obtain⟨z,hz⟩:∃ z,z=w.heap.size:=⟨_,rfl⟩
 have HZ:=Hi hz;have F0:Fz w ((w.alloc (.cells #[.pointer q,.slice a1 p.rs.length c1,.slice a2 p.is.length c2] 47)).alloc (.cells #[.pointer none,.slice none 0 0,.slice none 0 0] 47)):=((Fr.refl w).alloc _).alloc _;have B:=(Blk.new w 47 #[.pointer q,.slice a1 p.rs.length c1,.slice a2 p.is.length c2]).alloc (.cells #[.pointer none,.slice none 0 0,.slice none 0 0] 47);have D:=Blk.new (w.alloc (.cells #[.pointer q,.slice a1 p.rs.length c1,.slice a2 p.is.length c2] 47)) 47 #[.pointer none,.slice none 0 0,.slice none 0 0];rw[World.size_alloc,←hz]at D
 rw[←hz]at B
 have hs0:w.heap.size+2=((w.alloc (.cells #[.pointer q,.slice a1 p.rs.length c1,.slice a2 p.is.length c2] 47)).alloc (.cells #[.pointer none,.slice none 0 0,.slice none 0 0] 47)).heap.size:=by rw[World.size_alloc,World.size_alloc]
 have HCI:=Hi (fun W (F:Fz w W)=>cloneInt_any _ p.rs W (Vals.old hr F) hc1);have HCN:=Hi (fun W (F:Fz w W)=>scNames_any _ p.is W (Gens.old hi F) hc3 hc2);have HPL:=Hi hp;have HCP:=Hi hcp;have HF0:=Hi F0;have HS0:=Hi hs0;have HBA:=Hi B;have HBD:=Hi D;clear hz F0 hp hr hi hcp hc1 hc2 hc3 hs0 B D;go_enter Tryz.func60,Tryz.ntmps60
 go_upto_region 1 with fail
 rw[←HZ.out]
 generalize ((w.alloc (.cells #[.pointer q,.slice a1 p.rs.length c1,.slice a2 p.is.length c2] 47)).alloc (.cells #[.pointer none,.slice none 0 0,.slice none 0 0] 47))=w1 at *
 go_cut [3] from 4 to 10 (fun s3 wc=>∃ z3 b1 g1 b2 g2,s3=.pointer (some ⟨z3,0,none⟩)∧w1.heap.size≤z3∧Blk wc z3 47 #[.pointer none,.slice b1 p.rs.length g1,.slice b2 p.is.length g2]∧Kept (fun W=>Ints W (.slice b1 p.rs.length g1) p.rs∧Gens W (.slice b2 p.is.length g2) p.is) (fun k=>k<w1.heap.size∨k=z3) wc∧Fz w1 wc)
 case first=>
  have B:=HBA.out;have G:Fz w1 w1:=Fr.refl _;have hltB:=B.lt;refine wp_region_noPanic ?_;refine wp_region_held_drew (S:=(fun w'=>∀ j,w'.cell? ⟨z,j,none⟩=(#[.pointer q,.slice a1 p.rs.length c1,.slice a2 p.is.length c2]:Array Value)[j]?)) (by kernel_rfl) ?_ (fun hHeld=>?_)
  ·exact B.drew.cell
  replace B:=B.drew;replace G:=G.drew;generalize w1.drew=wd at *
  refine wpAnyH_take (i:=0) (oi:=_) (v:=?_) rfl (by kernel_rfl) (by kernel_rfl) (by kernel_rfl) (fun _ _ _ h=>h) (Or.inl ⟨by rfl,?_⟩) (by assumption) ?_;rotate_left
  ·(intro W hSw;(try dsimp only at hSw);go_simp;try with_reducible rfl)
  (try simp only[Act.put,SK,SS]);refine wpAnyH_take (i:=1) (oi:=_) (v:=?_) rfl (by kernel_rfl) (by kernel_rfl) (by kernel_rfl) (fun _ _ _ h=>h) (Or.inl ⟨by rfl,?_⟩) (by assumption) ?_;rotate_left
  ·(intro W hSw;(try dsimp only at hSw);go_simp;try with_reducible rfl)
  (try simp only[Act.put,SK,SS]);refine wpAnyH_take (i:=3) (oi:=_) (v:=?_) rfl (by kernel_rfl) (by kernel_rfl) (by kernel_rfl) (fun _ _ _ h=>h) (Or.inl ⟨by rfl,?_⟩) (by assumption) ?_;rotate_left
  ·(intro W hSw;(try dsimp only at hSw);go_simp;try with_reducible rfl)
  (try simp only[Act.put,SK,SS]);refine wpAnyH_take (i:=4) (oi:=_) (v:=?_) rfl (by kernel_rfl) (by kernel_rfl) (by kernel_rfl) (fun _ _ _ h=>h) (Or.inl ⟨by rfl,?_⟩) (by assumption) ?_;rotate_left
  ·(intro W hSw;(try dsimp only at hSw);go_simp;try with_reducible rfl)
  (try simp only[Act.put,SK,SS]);refine wpAnyH_ready (rs:=[2,7]) (by kernel_rfl) (by simp) ?_;refine AllReadyH.cons (o:=_) rfl (fun KK hKK=>?_) (AllReadyH.cons (o:=_) rfl (fun KK hKK=>?_) AllReadyH.nil)
  ·go_simp
   (go_at_call 113;(with_reducible refine(HCI.out _ (HF0.out.trans G)).mono ?_);rintro e w1x ⟨⟨u,rfl,hu⟩,F⟩;have hsz:=G.size;have k1:=ints_own hu ((fun k=>k<w1.heap.size)) (fun k hk=>by have h2:k<w1.heap.size:=hk;omega);obtain⟨b1,m1,g1,rfl,rfl⟩:=own_shape hu;clear hu;replace B:=B.fr F (fun h=>h);replace G:=G.trans F;clear F hsz;go_wp2_with fail)
   refine hKK.out _ _ ?_ (fun hHeld=>?_)
   ·exact B.cell
   clear hKK KK;(try simp only[Act.put,SK,SS]);refine wpAnyH_ready (rs:=[5,7]) (by kernel_rfl) (by simp) ?_;refine AllReadyH.cons (o:=_) rfl (fun KK hKK=>?_) (AllReadyH.cons (o:=_) rfl (fun KK hKK=>?_) AllReadyH.nil)
   ·go_simp
    (go_at_call 115;(with_reducible refine(HCN.out _ (HF0.out.trans G)).mono ?_);rintro e w2x ⟨⟨b2,g2,rfl,hq⟩,F⟩;have hsz:=G.size;have k2:=hq.weaken (K':=((fun k=>k<w1.heap.size))) (fun k hk=>by have h2:k<w1.heap.size:=hk;omega);clear hq;replace k1:=k1.old F;replace B:=B.fr F (fun h=>h);replace G:=G.trans F;clear F hsz;go_wp2_with fail)
    refine hKK.out _ _ ?_ (fun hHeld=>?_)
    ·exact B.cell
    clear hKK KK;(try simp only[Act.put,SK,SS]);refine wpAnyH_take (i:=6) (oi:=_) (v:=?_) rfl (by kernel_rfl) (by kernel_rfl) (by kernel_rfl) (fun _ _ _ h=>h) (Or.inl ⟨by rfl,?_⟩) (by assumption) ?_;rotate_left
    ·(intro W hSw;(try dsimp only at hSw);go_simp;try with_reducible rfl)
    (try simp only[Act.put,SK,SS]);refine wpAnyH_ready (rs:=[7]) (by kernel_rfl) (by simp) ?_;refine AllReadyH.cons (o:=_) rfl (fun KK hKK=>?_) AllReadyH.nil;go_simp
    skip
    refine hKK.out _ _ ?_ (fun hHeld=>?_)
    ·exact(B.alloc _).cell
    clear hKK KK;(try simp only[Act.put,SK,SS]);obtain⟨zN,hzN⟩:∃ z,z=w2x.heap.size:=⟨_,rfl⟩
    have N:=Blk.new w2x 47 #[.pointer none,.slice none 0 0,.slice none 0 0];rw[←hzN]at N ⊢
    replace k1:=k1.step (S:=fun _=>False) (K':=(fun k=>((fun k=>k<w1.heap.size)) k∨k=zN)) ((Fr.refl w2x).alloc (.cells #[.pointer none,.slice none 0 0,.slice none 0 0] 47)) (fun _ _ h=>h.elim) (fun k hk=>by rcases hk with hk|hk;exact .inl hk;exact .inr (by omega));replace k2:=k2.step (S:=fun _=>False) (K':=(fun k=>((fun k=>k<w1.heap.size)) k∨k=zN)) ((Fr.refl w2x).alloc (.cells #[.pointer none,.slice none 0 0,.slice none 0 0] 47)) (fun _ _ h=>h.elim) (fun k hk=>by rcases hk with hk|hk;exact .inl hk;exact .inr (by omega))
    replace B:=B.alloc (.cells #[.pointer none,.slice none 0 0,.slice none 0 0] 47);have hzw:w1.heap.size≤zN:=by have:=G.size;omega
    replace G:=G.alloc (.cells #[.pointer none,.slice none 0 0,.slice none 0 0] 47);have hza:zN<(w2x.alloc (.cells #[.pointer none,.slice none 0 0,.slice none 0 0] 47)).heap.size:=N.lt;clear hzN;generalize (w2x.alloc (.cells #[.pointer none,.slice none 0 0,.slice none 0 0] 47))=wz9 at *
    have d0:=N.cell 0;have d1:=N.cell 1;have d2:=N.cell 2;have f0:=N.frozen 0;have f1:=N.frozen 1;have f2:=N.frozen 2;have P5:=putL_all (Z:=[.pointer none,.slice none 0 0,.slice none 0 0]) N (l:=[.pointer none,.slice b1 p.rs.length g1,.slice b2 p.is.length g2]) rfl;have HE:=one_put [.pointer none,.slice b1 p.rs.length g1,.slice b2 p.is.length g2] N rfl G hzw (Kept.both k1 k2) (.inr rfl);simp only[putL]at P5 HE
    have B5:=B.fr P5.2 (by omega);simp only[SG]at d0 d1 d2
    replace HE:=Hi HE;replace P5:=Hi P5;refine wpAnyH_ready (rs:=[8]) (by kernel_rfl) (by simp) ?_;refine AllReadyH.cons (o:=_) rfl (fun KK hKK=>?_) AllReadyH.nil;go_simp
    refine hKK.out _ _ ?_ (fun hHeld=>?_)
    ·with_reducible exact B5.cell
    clear hKK KK;(try simp only[Act.put,SK,SS]);refine wpAnyH_done (by kernel_rfl) ?_ _;refine NoPanic.normal ?_;clear d0 d1 d2 f0 f1 f2;go_wp2_with fail
    go_meet
    with_reducible exact⟨zN,_,_,_,_,rfl,hzw,HE.out.1,HE.out.2.1,HE.out.2.2⟩
   ·go_simp
    skip
    refine hKK.out _ _ ?_ (fun hHeld=>?_)
    ·exact(B.alloc _).cell
    clear hKK KK;(try simp only[Act.put,SK,SS]);obtain⟨zN,hzN⟩:∃ z,z=w1x.heap.size:=⟨_,rfl⟩
    have N:=Blk.new w1x 47 #[.pointer none,.slice none 0 0,.slice none 0 0];rw[←hzN]at N ⊢
    replace k1:=k1.step (S:=fun _=>False) (K':=(fun k=>((fun k=>k<w1.heap.size)) k∨k=zN)) ((Fr.refl w1x).alloc (.cells #[.pointer none,.slice none 0 0,.slice none 0 0] 47)) (fun _ _ h=>h.elim) (fun k hk=>by rcases hk with hk|hk;exact .inl hk;exact .inr (by omega));replace B:=B.alloc (.cells #[.pointer none,.slice none 0 0,.slice none 0 0] 47);have hzw:w1.heap.size≤zN:=by have:=G.size;omega
    replace G:=G.alloc (.cells #[.pointer none,.slice none 0 0,.slice none 0 0] 47);have hza:zN<(w1x.alloc (.cells #[.pointer none,.slice none 0 0,.slice none 0 0] 47)).heap.size:=N.lt;clear hzN;generalize (w1x.alloc (.cells #[.pointer none,.slice none 0 0,.slice none 0 0] 47))=wz9 at *
    refine wpAnyH_ready (rs:=[5]) (by kernel_rfl) (by simp) ?_;refine AllReadyH.cons (o:=_) rfl (fun KK hKK=>?_) AllReadyH.nil;go_simp
    (go_at_call 115;(with_reducible refine(HCN.out _ (HF0.out.trans G)).mono ?_);rintro e w2x ⟨⟨b2,g2,rfl,hq⟩,F⟩;have hsz:=G.size;have k2:=hq.weaken (K':=(fun k=>((fun k=>k<w1.heap.size)) k∨k=zN)) (fun k hk=>by rcases hk with h2|h2;(have h3:k<w1.heap.size:=h2;omega);(have h3:=N.lt;omega));clear hq;replace k1:=k1.old F;replace B:=B.fr F (fun h=>h);replace N:=N.fr F (fun h=>h);replace G:=G.trans F;clear F hsz;go_wp2_with fail)
    refine hKK.out _ _ ?_ (fun hHeld=>?_)
    ·exact B.cell
    clear hKK KK;(try simp only[Act.put,SK,SS]);refine wpAnyH_take (i:=6) (oi:=_) (v:=?_) rfl (by kernel_rfl) (by kernel_rfl) (by kernel_rfl) (fun _ _ _ h=>h) (Or.inl ⟨by rfl,?_⟩) (by assumption) ?_;rotate_left
    ·(intro W hSw;(try dsimp only at hSw);go_simp;try with_reducible rfl)
    (try simp only[Act.put,SK,SS]);have d0:=N.cell 0;have d1:=N.cell 1;have d2:=N.cell 2;have f0:=N.frozen 0;have f1:=N.frozen 1;have f2:=N.frozen 2;have P5:=putL_all (Z:=[.pointer none,.slice none 0 0,.slice none 0 0]) N (l:=[.pointer none,.slice b1 p.rs.length g1,.slice b2 p.is.length g2]) rfl;have HE:=one_put [.pointer none,.slice b1 p.rs.length g1,.slice b2 p.is.length g2] N rfl G hzw (Kept.both k1 k2) (.inr rfl);simp only[putL]at P5 HE
    have B5:=B.fr P5.2 (by omega);simp only[SG]at d0 d1 d2
    replace HE:=Hi HE;replace P5:=Hi P5;refine wpAnyH_ready (rs:=[8]) (by kernel_rfl) (by simp) ?_;refine AllReadyH.cons (o:=_) rfl (fun KK hKK=>?_) AllReadyH.nil;go_simp
    refine hKK.out _ _ ?_ (fun hHeld=>?_)
    ·with_reducible exact B5.cell
    clear hKK KK;(try simp only[Act.put,SK,SS]);refine wpAnyH_done (by kernel_rfl) ?_ _;refine NoPanic.normal ?_;clear d0 d1 d2 f0 f1 f2;go_wp2_with fail
    go_meet
    with_reducible exact⟨zN,_,_,_,_,rfl,hzw,HE.out.1,HE.out.2.1,HE.out.2.2⟩
  ·go_simp
   skip
   refine hKK.out _ _ ?_ (fun hHeld=>?_)
   ·exact(B.alloc _).cell
   clear hKK KK;(try simp only[Act.put,SK,SS]);obtain⟨zN,hzN⟩:∃ z,z=wd.heap.size:=⟨_,rfl⟩
   have N:=Blk.new wd 47 #[.pointer none,.slice none 0 0,.slice none 0 0];rw[←hzN]at N ⊢
   replace B:=B.alloc (.cells #[.pointer none,.slice none 0 0,.slice none 0 0] 47);have hzw:w1.heap.size≤zN:=by have:=G.size;omega
   replace G:=G.alloc (.cells #[.pointer none,.slice none 0 0,.slice none 0 0] 47);have hza:zN<(wd.alloc (.cells #[.pointer none,.slice none 0 0,.slice none 0 0] 47)).heap.size:=N.lt;clear hzN;generalize (wd.alloc (.cells #[.pointer none,.slice none 0 0,.slice none 0 0] 47))=wz9 at *
   refine wpAnyH_ready (rs:=[2]) (by kernel_rfl) (by simp) ?_;refine AllReadyH.cons (o:=_) rfl (fun KK hKK=>?_) AllReadyH.nil;go_simp
   (go_at_call 113;(with_reducible refine(HCI.out _ (HF0.out.trans G)).mono ?_);rintro e w1x ⟨⟨u,rfl,hu⟩,F⟩;have hsz:=G.size;have k1:=ints_own hu (fun k=>((fun k=>k<w1.heap.size)) k∨k=zN) (fun k hk=>by rcases hk with h2|h2;(have h3:k<w1.heap.size:=h2;omega);(have h3:=N.lt;omega));obtain⟨b1,m1,g1,rfl,rfl⟩:=own_shape hu;clear hu;replace B:=B.fr F (fun h=>h);replace N:=N.fr F (fun h=>h);replace G:=G.trans F;clear F hsz;go_wp2_with fail)
   refine hKK.out _ _ ?_ (fun hHeld=>?_)
   ·exact B.cell
   clear hKK KK;(try simp only[Act.put,SK,SS]);refine wpAnyH_ready (rs:=[5]) (by kernel_rfl) (by simp) ?_;refine AllReadyH.cons (o:=_) rfl (fun KK hKK=>?_) AllReadyH.nil;go_simp
   (go_at_call 115;(with_reducible refine(HCN.out _ (HF0.out.trans G)).mono ?_);rintro e w2x ⟨⟨b2,g2,rfl,hq⟩,F⟩;have hsz:=G.size;have k2:=hq.weaken (K':=(fun k=>((fun k=>k<w1.heap.size)) k∨k=zN)) (fun k hk=>by rcases hk with h2|h2;(have h3:k<w1.heap.size:=h2;omega);(have h3:=N.lt;omega));clear hq;replace k1:=k1.old F;replace B:=B.fr F (fun h=>h);replace N:=N.fr F (fun h=>h);replace G:=G.trans F;clear F hsz;go_wp2_with fail)
   refine hKK.out _ _ ?_ (fun hHeld=>?_)
   ·exact B.cell
   clear hKK KK;(try simp only[Act.put,SK,SS]);refine wpAnyH_take (i:=6) (oi:=_) (v:=?_) rfl (by kernel_rfl) (by kernel_rfl) (by kernel_rfl) (fun _ _ _ h=>h) (Or.inl ⟨by rfl,?_⟩) (by assumption) ?_;rotate_left
   ·(intro W hSw;(try dsimp only at hSw);go_simp;try with_reducible rfl)
   (try simp only[Act.put,SK,SS]);have d0:=N.cell 0;have d1:=N.cell 1;have d2:=N.cell 2;have f0:=N.frozen 0;have f1:=N.frozen 1;have f2:=N.frozen 2;have P5:=putL_all (Z:=[.pointer none,.slice none 0 0,.slice none 0 0]) N (l:=[.pointer none,.slice b1 p.rs.length g1,.slice b2 p.is.length g2]) rfl;have HE:=one_put [.pointer none,.slice b1 p.rs.length g1,.slice b2 p.is.length g2] N rfl G hzw (Kept.both k1 k2) (.inr rfl);simp only[putL]at P5 HE
   have B5:=B.fr P5.2 (by omega);simp only[SG]at d0 d1 d2
   replace HE:=Hi HE;replace P5:=Hi P5;refine wpAnyH_ready (rs:=[8]) (by kernel_rfl) (by simp) ?_;refine AllReadyH.cons (o:=_) rfl (fun KK hKK=>?_) AllReadyH.nil;go_simp
   refine hKK.out _ _ ?_ (fun hHeld=>?_)
   ·with_reducible exact B5.cell
   clear hKK KK;(try simp only[Act.put,SK,SS]);refine wpAnyH_done (by kernel_rfl) ?_ _;refine NoPanic.normal ?_;clear d0 d1 d2 f0 f1 f2;go_wp2_with fail
   go_meet
   with_reducible exact⟨zN,_,_,_,_,rfl,hzw,HE.out.1,HE.out.2.1,HE.out.2.2⟩
 case rest=>
  obtain⟨z3,b1,g1,b2,g2,rfl,hz3,B3,hk3,F3⟩:=hcut
  have HK3:=Hi hk3;have HF3:=Hi (HF0.out.trans F3);have HB3:=Hi B3;have HZ3:=Hi hz3;have HB1:=Hi (HBA.out.fr F3 (fun h=>h));have HB2:=Hi (HBD.out.fr F3 (fun h=>h));clear hk3 F3 B3 hz3 HCI HCN HBA HBD;have e0:=HB1.out.cell 0;have e1:=HB1.out.cell 1;have e2:=HB1.out.cell 2;simp only[SG]at e0 e1 e2
  obtain⟨o,ho⟩:∃ o,o=p.pl:=⟨_,rfl⟩
  have HO:=Hi ho;rw[←ho]at HPL HCP
  clear ho;cases o with
  |none=>
   obtain rfl:q=none:=by have h2:Value.pointer q=.pointer none:=HPL.out;simpa using h2
   have P:=putL_all (Z:=[.pointer none,.slice none 0 0,.slice none 0 0]) HB2.out (l:=[.pointer none,.slice b1 p.rs.length g1,.slice b2 p.is.length g2]) rfl;have hkf:=HK3.out.step P.2 (K':=(fun k=>k<w.heap.size)) (fun k _ e=>by have e2:k=z+1:=e;have:=HS0.out;have:=HZ.out;exact .inl (by omega)) (fun k hk=>by have h3:k<w.heap.size:=hk;have:=HS0.out;exact .inl (.inl (by omega)));have HKF:=Hi (hkf.imp (fun W h=>show PtIn W (.pointer none) (.slice b1 p.rs.length g1) (.slice b2 p.is.length g2) p from ⟨by rw[←HO.out];rfl,h.1,h.2⟩))
   have HFF:=Hi (HF3.out.trans' P.2 (fun i hi e=>by have e2:i=z+1:=e;have:=HZ.out;omega));have HPB:=Hi P.1;clear P hkf;simp only[putL]at HKF HFF HPB
   have k0:=HB3.out.cell 0;have k1:=HB3.out.cell 1;have k2:=HB3.out.cell 2;have d0:=HB2.out.cell 0;have d1:=HB2.out.cell 1;have d2:=HB2.out.cell 2;have f0:=HB2.out.frozen 0;have f1:=HB2.out.frozen 1;have f2:=HB2.out.frozen 2;have n0:=HPB.out.cell 0;have n1:=HPB.out.cell 1;have n2:=HPB.out.cell 2;simp only[SG]at k0 k1 k2 d0 d1 d2 n0 n1 n2
   go_wp2_with fail
   exact bodyPost_ret (v:=.agg #[.pointer none,.slice b1 p.rs.length g1,.slice b2 p.is.length g2]) (by simp[results,Tryz.results60,go_sem,n0,n1,n2]) rfl ⟨⟨none,b1,g1,b2,g2,rfl,HKF.out⟩,HFF.out⟩
  |some x=>
   obtain⟨bp,ap,cp,dp,ep,hq,BP,hG,hA⟩:=HPL.out
   obtain rfl:q=some ⟨bp,0,none⟩:=by simpa using hq
   have HCX:=Hi HCP.out;have H1:=Hi (fun W (F:Fz wc W)=>scNames_any _ x.ns W (Gens.old hG (HF3.out.trans F)) HCX.out.1.2 HCX.out.1.1);have H2:=Hi (fun W (F:Fz wc W)=>scStep_any _ x.st W (Attrs.old hA (HF3.out.trans F)) HCX.out.2.1 HCX.out.2.2);have HLW:=Hi (show z+2≤z3∧z3<wc.heap.size∧w.heap.size=z∧bp<z from ⟨by have:=HZ3.out;have:=HS0.out;have:=HZ.out;omega,HB3.out.lt,HZ.out.symm,by have:=BP.lt;have:=HZ.out;omega⟩);have HBP:=Hi (BP.fr HF3.out (fun h=>h));clear hq BP hG hA HPL HCP;go_upto_region 3 with fail
   clear e0 e1 e2;have B:=HB1.out.drew;have BP:=HBP.out.drew;have N:=HB3.out.drew;have D:=HB2.out.drew;have G:Fz wc wc.drew:=(Fr.refl wc).drew;refine wp_region_noPanic ?_;refine wp_region_held_drew (S:=(fun w'=>(∀ j,w'.cell? ⟨z,j,none⟩=(#[.pointer (some ⟨bp,0,none⟩),.slice a1 p.rs.length c1,.slice a2 p.is.length c2]:Array Value)[j]?)∧∀ j,w'.cell? ⟨bp,j,none⟩=(#[.slice ap x.ns.length cp,.slice dp x.st.length ep]:Array Value)[j]?)) (by kernel_rfl) ?_ (fun hHeld=>?_)
   ·exact⟨B.cell,BP.cell⟩
   refine wpAnyH_take (i:=0) (oi:=_) (v:=?_) rfl (by kernel_rfl) (by kernel_rfl) (by kernel_rfl) (fun _ _ _ h=>h) (Or.inl ⟨by rfl,?_⟩) (by assumption) ?_;rotate_left
   ·(intro W hSw;(try dsimp only at hSw);go_simp;try with_reducible rfl)
   (try simp only[Act.put,SK,SS]);refine wpAnyH_take (i:=1) (oi:=_) (v:=?_) rfl (by kernel_rfl) (by kernel_rfl) (by kernel_rfl) (fun _ _ _ h=>h) (Or.inl ⟨by rfl,?_⟩) (by assumption) ?_;rotate_left
   ·(intro W hSw;(try dsimp only at hSw);go_simp;try with_reducible rfl)
   (try simp only[Act.put,SK,SS]);refine wpAnyH_take (i:=2) (oi:=_) (v:=?_) rfl (by kernel_rfl) (by kernel_rfl) (by kernel_rfl) (fun _ _ _ h=>h) (Or.inl ⟨by rfl,?_⟩) (by assumption) ?_;rotate_left
   ·(intro W hSw;(try dsimp only at hSw);go_simp;try with_reducible rfl)
   (try simp only[Act.put,SK,SS]);refine wpAnyH_take (i:=3) (oi:=_) (v:=?_) rfl (by kernel_rfl) (by kernel_rfl) (by kernel_rfl) (fun _ _ _ h=>h) (Or.inl ⟨by rfl,?_⟩) (by assumption) ?_;rotate_left
   ·(intro W hSw;(try dsimp only at hSw);go_simp;try with_reducible rfl)
   (try simp only[Act.put,SK,SS]);refine wpAnyH_take (i:=4) (oi:=_) (v:=?_) rfl (by kernel_rfl) (by kernel_rfl) (by kernel_rfl) (fun _ _ _ h=>h) (Or.inl ⟨by rfl,?_⟩) (by assumption) ?_;rotate_left
   ·(intro W hSw;(try dsimp only at hSw);go_simp;try with_reducible rfl)
   (try simp only[Act.put,SK,SS]);refine wpAnyH_take (i:=6) (oi:=_) (v:=?_) rfl (by kernel_rfl) (by kernel_rfl) (by kernel_rfl) (fun _ _ _ h=>h) (Or.inl ⟨by rfl,?_⟩) (by assumption) ?_;rotate_left
   ·(intro W hSw;(try dsimp only at hSw);go_simp;try with_reducible rfl)
   (try simp only[Act.put,SK,SS]);refine wpAnyH_take (i:=7) (oi:=_) (v:=?_) rfl (by kernel_rfl) (by kernel_rfl) (by kernel_rfl) (fun _ _ _ h=>h) (Or.inl ⟨by rfl,?_⟩) (by assumption) ?_;rotate_left
   ·(intro W hSw;(try dsimp only at hSw);go_simp;try with_reducible rfl)
   (try simp only[Act.put,SK,SS]);refine wpAnyH_take (i:=8) (oi:=_) (v:=?_) rfl (by kernel_rfl) (by kernel_rfl) (by kernel_rfl) (fun _ _ _ h=>h) (Or.inl ⟨by rfl,?_⟩) (by assumption) ?_;rotate_left
   ·(intro W hSw;(try dsimp only at hSw);go_simp;try with_reducible rfl)
   (try simp only[Act.put,SK,SS]);refine wpAnyH_take (i:=9) (oi:=_) (v:=?_) rfl (by kernel_rfl) (by kernel_rfl) (by kernel_rfl) (fun _ _ _ h=>h) (Or.inl ⟨by rfl,?_⟩) (by assumption) ?_;rotate_left
   ·(intro W hSw;(try dsimp only at hSw);go_simp;try with_reducible rfl)
   (try simp only[Act.put,SK,SS]);refine wpAnyH_take (i:=10) (oi:=_) (v:=?_) rfl (by kernel_rfl) (by kernel_rfl) (by kernel_rfl) (fun _ _ _ h=>h) (Or.inl ⟨by rfl,?_⟩) (by assumption) ?_;rotate_left
   ·(intro W hSw;(try dsimp only at hSw);go_simp;try with_reducible rfl)
   (try simp only[Act.put,SK,SS]);refine wpAnyH_ready (rs:=[5]) (by kernel_rfl) (by simp) ?_;refine AllReadyH.cons (o:=_) rfl (fun KK hKK=>?_) AllReadyH.nil;go_simp
   (go_at_call 115;(with_reducible refine(H1.out _ G).mono ?_);rintro e w4 ⟨⟨a5,c5,rfl,hq1⟩,F⟩;have hsz:=G.size;have k1:=hq1.weaken (K':=fun k=>k<wc.heap.size) (fun k hk=>by have h2:k<wc.heap.size:=hk;omega);replace B:=B.fr F (fun h=>h);replace BP:=BP.fr F (fun h=>h);replace N:=N.fr F (fun h=>h);replace D:=D.fr F (fun h=>h);replace G:=G.trans F;clear F hsz hq1 H1;go_wp2_with fail)
   refine hKK.out _ _ ?_ (fun hHeld=>?_)
   ·exact⟨B.cell,BP.cell⟩
   clear hKK KK;(try simp only[Act.put,SK,SS]);refine wpAnyH_ready (rs:=[11]) (by kernel_rfl) (by simp) ?_;refine AllReadyH.cons (o:=_) rfl (fun KK hKK=>?_) AllReadyH.nil;go_simp
   (go_at_call 116;(with_reducible refine(H2.out _ G).mono ?_);rintro e w5 ⟨⟨a6,c6,rfl,hq2⟩,F⟩;have hsz:=G.size;have k2:=hq2.kept.weaken (K':=fun k=>k<wc.heap.size) (fun k hk=>by have h2:k<wc.heap.size:=hk;show k<_;omega);replace k1:=k1.old F;replace B:=B.fr F (fun h=>h);replace BP:=BP.fr F (fun h=>h);replace N:=N.fr F (fun h=>h);replace D:=D.fr F (fun h=>h);replace G:=G.trans F;clear F hsz hq2 H2;go_wp2_with fail)
   refine hKK.out _ _ ?_ (fun hHeld=>?_)
   ·exact⟨B.cell,BP.cell⟩
   clear hKK KK;(try simp only[Act.put,SK,SS]);refine wpAnyH_take (i:=12) (oi:=_) (v:=?_) rfl (by kernel_rfl) (by kernel_rfl) (by kernel_rfl) (fun _ _ _ h=>h) (Or.inl ⟨by rfl,?_⟩) (by assumption) ?_;rotate_left
   ·(intro W hSw;(try dsimp only at hSw);go_simp;try with_reducible rfl)
   (try simp only[Act.put,SK,SS]);refine wpAnyH_ready (rs:=[13]) (by kernel_rfl) (by simp) ?_;refine AllReadyH.cons (o:=_) rfl (fun KK hKK=>?_) AllReadyH.nil;go_simp
   refine hKK.out _ _ ?_ (fun hHeld=>?_)
   ·exact⟨(B.alloc _).cell,(BP.alloc _).cell⟩
   clear hKK KK;(try simp only[Act.put,SK,SS]);obtain⟨zw,hzw⟩:∃ z,z=w5.heap.size:=⟨_,rfl⟩
   have hsz:=G.size;have kp:=place_new x k1 k2 (fun k hk=>by have h2:k<wc.heap.size:=hk;omega);rw[←hzw]at kp ⊢
   replace B:=B.alloc (.cells #[.slice a5 x.ns.length c5,.slice a6 x.st.length c6] 151);replace BP:=BP.alloc (.cells #[.slice a5 x.ns.length c5,.slice a6 x.st.length c6] 151);replace N:=N.alloc (.cells #[.slice a5 x.ns.length c5,.slice a6 x.st.length c6] 151);replace D:=D.alloc (.cells #[.slice a5 x.ns.length c5,.slice a6 x.st.length c6] 151);replace G:=G.alloc (.cells #[.slice a5 x.ns.length c5,.slice a6 x.st.length c6] 151);clear k1 k2 hzw;generalize (w5.alloc (.cells #[.slice a5 x.ns.length c5,.slice a6 x.st.length c6] 151))=w6 at *
   refine wpAnyH_take (i:=14) (oi:=_) (v:=?_) rfl (by kernel_rfl) (by kernel_rfl) (by kernel_rfl) (fun _ _ _ h=>h) (Or.inl ⟨by rfl,?_⟩) (by assumption) ?_;rotate_left
   ·(intro W hSw;(try dsimp only at hSw);go_simp;try with_reducible rfl)
   (try simp only[Act.put,SK,SS]);have d0:=N.cell 0;have f0:=N.frozen 0;simp only[SG]at d0
   have FE:=Fr.setCell (S:=fun k=>k=z3) (p:=⟨z3,0,none⟩) (Fr.refl w6) (fun _=>rfl) (.pointer (some ⟨zw,0,none⟩));have N8:=N.set 0 (.pointer (some ⟨zw,0,none⟩));simp only[List.setIfInBounds_toArray,List.set_cons_succ,List.set_cons_zero]at N8
   have B8:=B.fr FE (fun e=>by have e2:z=z3:=e;have:=HLW.out;omega);have BP8:=BP.fr FE (fun e=>by have e2:bp=z3:=e;have:=HLW.out;omega);refine wpAnyH_ready (rs:=[15]) (by kernel_rfl) (by simp) ?_;refine AllReadyH.cons (o:=_) rfl (fun KK hKK=>?_) AllReadyH.nil;go_simp
   skip
   refine hKK.out _ _ ?_ (fun hHeld=>?_)
   ·exact⟨B8.cell,BP8.cell⟩
   clear hKK KK;(try simp only[Act.put,SK,SS]);refine wpAnyH_done (by kernel_rfl) ?_ _;refine NoPanic.normal ?_;have D8:=D.fr FE (fun e=>by have e2:z+1=z3:=e;have:=HLW.out;omega);have k3:=(Kept.both (HK3.out.old G) (kp.weaken (K':=fun k=>k<w1.heap.size∨k=z3) (fun k hk=>by have h1:=HS0.out;have h2:=HLW.out;rcases hk with hk|hk;(show k<wc.heap.size;omega);(show k<wc.heap.size;omega)))).step FE (K':=fun k=>k<w1.heap.size∨k=z3) (fun k _ e=>.inr e) (fun k hk=>.inl hk);have g8:=(HF3.out.trans G).trans' FE (fun i hi e=>by have e2:i=z3:=e;have:=HLW.out;omega);clear d0 f0 FE B8 BP8 B BP N D G kp hsz
   generalize (w6.setCell ⟨z3,0,none⟩ (.pointer (some ⟨zw,0,none⟩)))=w8 at *
   have P:=putL_all (Z:=[.pointer none,.slice none 0 0,.slice none 0 0]) D8 (l:=[.pointer (some ⟨zw,0,none⟩),.slice b1 p.rs.length g1,.slice b2 p.is.length g2]) rfl;have hkf:=k3.step P.2 (K':=(fun k=>k<w.heap.size)) (fun k _ e=>by have e2:k=z+1:=e;have:=HS0.out;have:=HZ.out;exact .inl (by omega)) (fun k hk=>by have h3:k<w.heap.size:=hk;have:=HS0.out;exact .inl (.inl (by omega)));have HKF:=Hi (hkf.imp (fun W h=>show PtIn W (.pointer (some ⟨zw,0,none⟩)) (.slice b1 p.rs.length g1) (.slice b2 p.is.length g2) p from ⟨by rw[←HO.out];exact h.2,h.1.1,h.1.2⟩))
   have HFF:=Hi (g8.trans' P.2 (fun i hi e=>by have e2:i=z+1:=e;have:=HZ.out;omega));have HPB:=Hi P.1;clear P hkf k3 g8;simp only[putL]at HKF HFF HPB
   have k0:=N8.cell 0;have k1:=N8.cell 1;have k2:=N8.cell 2;have d0:=D8.cell 0;have d1:=D8.cell 1;have d2:=D8.cell 2;have f0:=D8.frozen 0;have f1:=D8.frozen 1;have f2:=D8.frozen 2;have n0:=HPB.out.cell 0;have n1:=HPB.out.cell 1;have n2:=HPB.out.cell 2;simp only[SG]at k0 k1 k2 d0 d1 d2 n0 n1 n2
   clear N8 D8;go_wp2_with fail
   exact bodyPost_ret (v:=.agg #[.pointer (some ⟨zw,0,none⟩),.slice b1 p.rs.length g1,.slice b2 p.is.length g2]) (by simp[results,Tryz.results60,go_sem,n0,n1,n2]) rfl ⟨⟨some ⟨zw,0,none⟩,b1,g1,b2,g2,rfl,HKF.out⟩,HFF.out⟩
theorem info47:(Tryz.prog.info? 47).map (fun i=>(i.zero,i.size,i.bytes))=some (some (.agg #[.pointer none,.slice none 0 0,.slice none 0 0]),3,56):=by kernel_rfl
theorem scPoints_any (vk va vu vp vf vo vn:Value)(y:ViewT)(n:List (List Part))(w:World)(h:ViewIn w vk va vu vp vf vo y)(hn:NameAt w vn n)(hd:dirN n)(hc:∀ p∈y.ps,copyPt p)(hl:y.ps.length≤1000000) :
  Calls Tryz.prog 22 #[.agg #[vk,va,vu,.bool y.au,.int .i64 y.pa,vp,vf,vo,.bool y.nc],vn] w fun e w'=>(∃ a c,e=.returned (.slice a (scPointsS y.ps n).length c)∧Pts w' (.slice a (scPointsS y.ps n).length c) (scPointsS y.ps n))∧Fz w w':=by
 obtain⟨hv1,hv2,hv3,hv4,hv5,hv6⟩:=h
 obtain⟨k1,l1,rfl,-⟩:=Vals.form hv1
 obtain⟨k2,l2,rfl,-⟩:=Vals.form hv2
 obtain⟨k3,l3,rfl,-⟩:=Ints.form hv3
 obtain⟨k4,l4,rfl⟩:=LAt.shape hv4
 obtain⟨k5,l5,rfl⟩:=LAt.shape hv5
 obtain⟨k6,l6,rfl⟩:=LAt.shape hv6
 obtain⟨kn,ln,rfl⟩:=NameAt.shape hn
 have HP:=Hi hv4;have HC:=Hi hc;have HF0:=Hi ((Fr.refl (S:=fun _=>False) w).alloc (.cells #[.slice k1 y.kid.length l1,.slice k2 y.ak.length l2,.slice k3 y.us.length l3,.bool y.au,.int .i64 y.pa,.slice k4 y.ps.length l4,.slice k5 y.fs.length l5,.slice k6 y.pu.length l6,.bool y.nc] 95));have HB:=Hi (Blk.new w 95 #[.slice k1 y.kid.length l1,.slice k2 y.ak.length l2,.slice k3 y.us.length l3,.bool y.au,.int .i64 y.pa,.slice k4 y.ps.length l4,.slice k5 y.fs.length l5,.slice k6 y.pu.length l6,.bool y.nc]);have HD:=Hi (fun W (F:Fz w W)=>directory_any _ n W (hn.old F) hd.1 hd.2)
 clear hv1 hv2 hv3 hv4 hv5 hv6 hn hd hc;by_cases h0:y.ps.length=0
 ·have HS:=Hi (show scPointsS y.ps n=[dirPt n] from if_pos h0)
  rw[h0]at HB HF0
  rw[h0]
  clear h0 HP HC hl;go_enter Tryz.func22,Tryz.ntmps22
  go_wp2_with fail
  refine(HD.out _ HF0.out).mono ?_
  rintro e w2 ⟨⟨an,cn,rfl,hk⟩,F2⟩;have HN:=Hi (dirPts_new hk.now);have HF2:=Hi (HF0.out.trans F2);clear hk F2 HD;go_wp2_with fail
  go_ret;rw[HS.out]
  have h5:=HN.out;simp only[dirW3,dirW2,dirW1]at h5
  exact⟨⟨_,_,rfl,h5.1⟩,HF2.out.trans h5.2⟩
 have HS:=Hi (show scPointsS y.ps n=y.ps from if_neg h0);have q1:((y.ps.length:Int)==0)=false:=beq_eq_false_iff_ne.2 (by omega);have q2:(y.ps.length==0)=false:=beq_eq_false_iff_ne.2 h0;rw[HS.out]
 clear h0 HD;go_enter Tryz.func22,Tryz.ntmps22
 go_wp2_with fail
 clear q1 q2;go_loopg [5,22] y.ps.length (fun m u i wr=>∃ (j:Nat) (a:Option Addr) (c:Nat) (gs:List PointT),m=y.ps.length-j∧j≤y.ps.length∧u=.slice a gs.length c∧i=.int .i64 j∧gs.length=j∧Hid (gs=y.ps.take j)∧GRow 3 RPt (fun k=>k<w.heap.size) 47 wr w.heap.size (.slice a gs.length c) gs∧Fz w wr)
 case atStart=>exact⟨0,none,0,[],rfl,Nat.zero_le _,rfl,rfl,rfl,Hi rfl,GRow.nil _ _ _ _ _ _,HF0.out⟩
 case round=>
  obtain⟨j,a,c,gs,hm,hj,rfl,rfl,hgl,HGS,hrow,F⟩:=hrel
  have HM:=Hi hm;have HRW:=Hi hrow;have HF:=Hi F;have HGL:=Hi hgl;clear hm hrow;by_cases hjl:j<y.ps.length
  ·obtain⟨p,hp⟩:∃ p,y.ps[j]? = some p:=⟨_,List.getElem?_eq_getElem hjl⟩
   obtain⟨b,o,cs,rfl,-,-,hr,hx⟩:=LAt.get HP.out hp
   obtain⟨q,a1,c1,a2,c2,rfl,hin⟩:=hr.form
   have e0:=F.cell (hx 0 _ rfl) (fun h=>h);have e1:=F.cell (hx 1 _ rfl) (fun h=>h);have e2:=F.cell (hx 2 _ rfl) (fun h=>h);simp only[Nat.add_zero]at e0
   have r1:(0:Int)≤(j:Int):=by omega
   have r2:(j:Int)<(y.ps.length:Int):=by omega
   have HCO:=Hi (fun W (F:Fz w W)=>scCopied_any _ _ _ p W (hin.old F) (HC.out p (List.mem_of_getElem? hp)));have HX:=Hi (show y.ps.take (j+1)=y.ps.take j++[p] from by rw[List.take_add_one,hp];rfl);clear hx hp hr hin hgl F;go_upto_region 7 with fail
   have BA:=Blk.new wr 47 #[.pointer q,.slice a1 p.rs.length c1,.slice a2 p.is.length c2];obtain⟨z7,hz7⟩:∃ z,z=wr.heap.size:=⟨_,rfl⟩
   have HZ7:=Hi hz7;rw[←hz7]at BA ⊢
   have HFA:=Hi ((Fr.refl (S:=fun _=>False) wr).alloc (.cells #[.pointer q,.slice a1 p.rs.length c1,.slice a2 p.is.length c2] 47));clear e0 e1 e2 hz7;generalize (wr.alloc (.cells #[.pointer q,.slice a1 p.rs.length c1,.slice a2 p.is.length c2] 47))=wa at *
   have b0:=BA.cell 0;have b1:=BA.cell 1;have b2:=BA.cell 2;simp only[SG]at b0 b1 b2
   clear BA;go_wp2_with fail
   clear b0 b1 b2;refine(HCO.out _ (HF.out.trans HFA.out)).mono ?_
   rintro e w2 ⟨⟨q2,b1,d1,b2,d2,rfl,hk⟩,F2⟩;have hkp:=HRW.out.keep;have hsa:=HFA.out.size;have hsw:=HF.out.size;obtain⟨a7,c7,w7,hrun,hrow7,F7,-⟩:=(HRW.out.old (HFA.out.trans F2)).add (s:=53) Tryz.underlying53 info47 rfl (by decide) (by decide) (HF.out.trans (HFA.out.trans F2)).size ((Fr.refl w2).alloc (.cells #[.pointer q2,.slice b1 p.rs.length d1,.slice b2 p.is.length d2] 47)) w2.heap.size [.pointer q2,.slice b1 p.rs.length d1,.slice b2 p.is.length d2] rfl (Blk.new w2 47 #[.pointer q2,.slice b1 p.rs.length d1,.slice b2 p.is.length d2]) (by simp[Value.oneCell']) p ((hk.weaken (fun k hk=>by
    rcases hk with hk|hk
    ·have:=(hkp k hk).2;show k<_;omega
    ·have h2:k<w.heap.size:=hk;show k<_;omega)).imp (fun W h=>⟨_,_,_,rfl,h⟩)) (by have:=HGL.out;omega)
   have HRUN:=Hi hrun;have HRW7:=Hi hrow7;have HF7:=Hi (((HF.out.trans HFA.out).trans F2).trans' F7 (fun i hi e=>absurd hi (by have:=(hkp i e).1;omega)));have HGS7:=Hi (show gs++[p]=y.ps.take (j+1) from by rw[HX.out,HGS.out]);clear hk F2 hkp hsa hsw hrun hrow7 F7 HCO HRW;go_wp2_with (at_builtin;refine wpList_append_run (by rfl) (.tmp 26) (.tmp 29) 53 (by rfl) _ w7 (by exact HRUN.out) ?_)
   go_roundg (y.ps.length-(j+1))
   case measure=>rw[HM.out];omega
   case rel=>exact⟨j+1,a7,c7,gs++[p],rfl,by omega,by rw[List.length_append];rfl,by go_num,by rw[List.length_append,HGL.out];rfl,HGS7,by rw[List.length_append];exact HRW7.out,HF7.out⟩
  ·have hgs:=HGS.out
   rw[List.take_of_length_le (by omega)]at hgs
   have HE:=Hi hgs;clear hgs hgl;go_wp2_with fail
   go_ret;rw[←HE.out]
   exact⟨⟨a,c,rfl,HRW.out.at (by decide)⟩,F⟩
end Go.Proofs.YteidmhkobmddiaaGreatDoor
