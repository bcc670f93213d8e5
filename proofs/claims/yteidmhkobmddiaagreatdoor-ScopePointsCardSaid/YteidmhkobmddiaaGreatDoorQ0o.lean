/-
  Merged by program: XScCov.
-/
import Derived.Test.YteidmhkobmddiaaGreatDoorQ0n
set_option linter.unusedSimpArgs false
set_option maxRecDepth 100000
set_option maxHeartbeats 8000000
namespace Go.Q
open Go Go.RowKit
def namesOk (l:List Gen):Bool:=decide (0<l.length)&&(decide (l.length≤10000)&&l.all genOk)
def placeOk (x:WhereT):Bool:=if 0<x.st.length then decide (x.ns.length=0)&&nameOk [x.st] else namesOk x.ns
def dirPl (n:List (List Part)):WhereT:=⟨[⟨4,[],n⟩],[]⟩
theorem place_dir (n:List (List Part)):namesOk (dirPl n).ns=nameOk n:=by
 simp[namesOk,dirPl,genOk]
end Go.Q
namespace Go.Proofs.YteidmhkobmddiaaGreatDoor
open Go Go.RowKit Go.Q
theorem pnames_any (v:Value)(l:List Gen)(w:World)(h:Gens w v l)(hf:∀ g∈l,fewG g)(hl:l.length≤1000000) :
  Calls Tryz.prog 96 #[v] w fun e w'=>e=.returned (.bool (namesOk l))∧Fz w w':=by
 have H:=Hi h;have HFG:=Hi hf;obtain⟨a0,cap0,rfl,-⟩:=h
 clear hf;by_cases h0:l.length=0
 ·have HE:=Hi (show namesOk l=false from by unfold namesOk;rw[h0];rfl)
  rw[h0]
  clear h0 H hl;go_enter Tryz.func96,Tryz.ntmps96
  go_wp2_with fail
  go_ret;exact⟨by rw[HE.out];rfl,Fr.refl _⟩
 by_cases h1:l.length≤10000
 case neg=>
  have HE:=Hi (show namesOk l=false from by unfold namesOk;rw[decide_eq_false h1,Bool.false_and,Bool.and_false]);have q1:((l.length:Int)==0)=false:=beq_eq_false_iff_ne.2 (by omega);have q2:(l.length==0)=false:=beq_eq_false_iff_ne.2 h0;have q3:(10000:Int)<(l.length:Int):=by omega
  clear h0 h1 H hl;go_enter Tryz.func96,Tryz.ntmps96
  go_wp2_with fail
  go_ret;exact⟨by rw[HE.out];rfl,Fr.refl _⟩
 have HNK:=Hi (show namesOk l=l.all genOk from by unfold namesOk;rw[decide_eq_true h1,decide_eq_true (show 0<l.length by omega),Bool.true_and,Bool.true_and]);have q1:((l.length:Int)==0)=false:=beq_eq_false_iff_ne.2 (by omega);have q2:(l.length==0)=false:=beq_eq_false_iff_ne.2 h0;have q3:¬(10000:Int)<(l.length:Int):=by omega
 clear h0 h1;go_enter Tryz.func96,Tryz.ntmps96
 go_wp2_with fail
 clear q1 q2 q3;go_loopg [15] l.length (fun g i wr=>∃ j:Nat,g=l.length-j∧j≤l.length∧i=.int .i64 j∧Hid ((l.take j).all genOk=true)∧Fz w wr)
 case atStart=>exact⟨0,rfl,Nat.zero_le _,rfl,Hi rfl,Fr.refl _⟩
 case round=>
  obtain⟨j,hg,hj,rfl,HAL,F⟩:=hrel
  have HG:=Hi hg;have HF:=Hi F;clear hg;by_cases hjl:j<l.length
  ·obtain⟨x,hx⟩:∃ x,l[j]? = some x:=⟨_,List.getElem?_eq_getElem hjl⟩
   obtain⟨b,o,ab,cb,an,cn,rfl,-,hga,e0,e1,e2⟩:=H.out.get hx
   replace e0:=F.cell e0 (fun h=>h);replace e1:=F.cell e1 (fun h=>h);replace e2:=F.cell e2 (fun h=>h);have r1:(0:Int)≤(j:Int):=by omega
   have r2:(j:Int)<(l.length:Int):=by omega
   have HO:=Hi (fun W (f:Fz wr W)=>genRight_any _ x W (hga.old (F.trans f)) (HFG.out x (List.mem_of_getElem? hx)));have HXA:=Hi (show (l.take (j+1)).all genOk=((l.take j).all genOk&&genOk x) from by rw[List.take_add_one,hx,List.all_append];simp);have HXN:=Hi (show genOk x=false→l.all genOk=false from fun e=>List.all_eq_false.2 ⟨x,List.mem_of_getElem? hx,by rw[e];decide⟩);clear hx hga F;go_wp2_with fail
   refine(HO.out _ ((Fr.refl wr).alloc _)).mono ?_
   rintro e w2 ⟨rfl,F2⟩;have HF2:=Hi (HF.out.trans (((Fr.refl wr).alloc _).trans F2));clear F2 e0 e1 e2 HO;cases hgx:genOk x with
   |false=>
    have HE:=Hi (HXN.out hgx);clear hgx;go_wp2_with fail
    go_ret;exact⟨by rw[HNK.out,HE.out];rfl,HF2.out⟩
   |true=>
    have HE:=Hi (show (l.take (j+1)).all genOk=true from by rw[HXA.out,HAL.out,hgx];rfl);clear hgx;go_wp2_with fail
    go_roundg (l.length-(j+1))
    case measure=>rw[HG.out];omega
    case rel=>exact⟨j+1,rfl,by omega,by go_num,HE,HF2.out⟩
  ·have hal:=HAL.out
   rw[List.take_of_length_le (by omega)]at hal
   have HE:=Hi hal;clear hal;go_wp2_with fail
   go_ret;exact⟨by rw[HNK.out,HE.out];rfl,F⟩
theorem placeDir_any (b:Nat)(n:List (List Part))(w:World)(h:PlaceAt w (pt b) (some (dirPl n)))(hf:fewG ⟨4,[],n⟩) :
  Calls Tryz.prog 134 #[pt b] w fun e w'=>e=.returned (.bool (nameOk n))∧Fz w w':=by
 obtain⟨b2,a,c,d,e,hq,BP,hG,hA⟩:=h
 obtain rfl:b=b2:=by simpa using hq
 have HO:=Hi (pnames_any _ _ w hG (fun g hg=>by rw[List.mem_singleton.1 hg];exact hf) (show (1:Nat)≤1000000 by omega));have p0:=BP.cell 0;have p1:=BP.cell 1;simp only[SG]at p0 p1
 have p1':w.cell? ⟨b,1,none⟩=some (.slice d 0 e):=p1;have p0':w.cell? ⟨b,0,none⟩=some (.slice a 1 c):=p0;rw[place_dir]at HO
 clear hq BP hG hA hf p0 p1;go_enter Tryz.func134,Tryz.ntmps134
 go_wp2_with fail
 refine HO.out.mono ?_;rintro e w2 ⟨rfl,F2⟩;have HF:=Hi F2;clear F2 HO p0' p1';go_wp2_with fail
 go_ret;exact⟨rfl,HF.out⟩
theorem partsDir_any (b:Nat)(n:List (List Part))(ra:Option Addr)(rc:Nat)(w:World)(h:PlaceAt w (pt b) (some (dirPl n)))(hf:fewG ⟨4,[],n⟩)(hok:nameOk n=true) :
  Calls Tryz.prog 95 #[pt b,.slice ra 0 rc] w fun e w'=>e=.returned (.bool true)∧Fz w w':=by
 have HO:=Hi (placeDir_any b n w h hf);rw[hok]at HO
 clear h hf hok;go_enter Tryz.func95,Tryz.ntmps95
 go_wp2_with fail
 refine HO.out.mono ?_;rintro e w2 ⟨rfl,F2⟩;have HF:=Hi F2;clear F2 HO;go_wp2_with fail
 go_ret;exact⟨rfl,HF.out⟩
theorem pointDir_any (b:Nat)(n:List (List Part))(ra:Option Addr)(rc:Nat)(ia:Option Addr)(ic:Nat)(w:World)(h:PlaceAt w (pt b) (some (dirPl n)))(hf:fewG ⟨4,[],n⟩)(hok:nameOk n=true) :
  Calls Tryz.prog 49 #[.agg #[pt b,.slice ra 0 rc,.slice ia 0 ic]] w fun e w'=>e=.returned (.bool true)∧Fz w w':=by
 have HF0:=Hi ((Fr.refl (S:=fun _=>False) w).alloc (.cells #[pt b,.slice ra 0 rc,.slice ia 0 ic] 47));have HB:=Hi (Blk.new w 47 #[pt b,.slice ra 0 rc,.slice ia 0 ic]);have HO:=Hi (fun W (F:Fz w W)=>partsDir_any b n ra rc W (h.old F) hf hok);clear h hf hok;go_enter Tryz.func49,Tryz.ntmps49
 go_wp2_with fail
 refine(HO.out _ HF0.out).mono ?_
 rintro e w2 ⟨rfl,F2⟩;have B:=HB.out.fr F2 (fun h=>h);have HF:=Hi (HF0.out.trans F2);have b0:=B.cell 0;have b1:=B.cell 1;have b2:=B.cell 2;simp only[SG]at b0 b1 b2
 clear F2 HO B;go_wp2_with fail
 go_ret;exact⟨rfl,HF.out⟩
theorem askDir_any (an:Option Addr)(cn:Nat)(bq:Nat)(ra:Option Addr)(rc:Nat)(ia:Option Addr)(ic:Nat)(n:List (List Part))(w:World)(hn:NameAt w (.slice an n.length cn) n)(h:PlaceAt w (pt bq) (some (dirPl n)))(hf:fewG ⟨4,[],n⟩)(hok:nameOk n=true) :
  Calls Tryz.prog 14 #[.agg #[.slice an n.length cn,.bool false,.pointer (some ⟨bq,0,none⟩),.slice ra 0 rc,.slice ia 0 ic]] w fun e w'=>e=.returned (.bool true)∧Fz w w':=by
 have HF0:=Hi ((Fr.refl (S:=fun _=>False) w).alloc (.cells #[.slice an n.length cn,.bool false,.pointer (some ⟨bq,0,none⟩),.slice ra 0 rc,.slice ia 0 ic] 49));have HB:=Hi (Blk.new w 49 #[.slice an n.length cn,.bool false,.pointer (some ⟨bq,0,none⟩),.slice ra 0 rc,.slice ia 0 ic]);have H1:=Hi (fun W (F:Fz w W)=>right_any _ n W (hn.old F) hf.2);have H2:=Hi (fun W (F:Fz w W)=>pointDir_any bq n ra rc ia ic W (h.old F) hf hok);rw[hok]at H1
 clear hn h hf hok;go_enter Tryz.func14,Tryz.ntmps14
 go_wp2_with fail
 refine(H1.out _ HF0.out).mono ?_
 rintro e w2 ⟨rfl,F2⟩;have B:=HB.out.fr F2 (fun h=>h);have HF:=Hi (HF0.out.trans F2);have b0:=B.cell 0;have b1:=B.cell 1;have b2:=B.cell 2;have b3:=B.cell 3;have b4:=B.cell 4;simp only[SG]at b0 b1 b2 b3 b4
 clear F2 H1 B;go_wp2_with fail
 refine(H2.out _ HF.out).mono ?_
 rintro e w3 ⟨rfl,F3⟩;have HF3:=Hi (HF.out.trans F3);clear F3 H2 b0 b1 b2 b3 b4;go_wp2_with fail
 go_ret;exact⟨rfl,HF3.out⟩
theorem numNil_any (b:Nat)(k:Int)(c:Bool)(w:World) :
  Calls Tryz.prog 100 #[pt b,.int .i64 k,.bool c,.pointer none] w fun e w'=>e=.returned (.tuple #[])∧Fz w w':=by
 go_enter Tryz.func100,Tryz.ntmps100
 go_wp2_with fail
 refine bodyPost_ret (results_none rfl _ _ _) rfl ?_;exact⟨rfl,Fr.refl _⟩
theorem doneNil_any (b:Nat)(w:World)(B:Blk w b 194 #[.slice none 0 0,.int .i64 0]) :
  Calls Tryz.prog 107 #[pt b] w fun e w'=>e=.returned (.tuple #[.slice none 0 0,.int .i64 0])∧Fz w w':=by
 have b0:=B.cell 0;have b1:=B.cell 1;simp only[SG]at b0 b1
 clear B;go_enter Tryz.func107,Tryz.ntmps107
 go_wp2_with fail
 go_ret2
 exact⟨rfl,Fr.refl _⟩
theorem extsNil_any (w:World) :
  Calls Tryz.prog 52 #[.agg #[.pointer none,.pointer none,.pointer none,.slice none 0 0,.slice none 0 0]] w fun e w'=>e=.returned (.tuple #[.slice none 0 0,.int .i64 0])∧Fz w w':=by
 obtain⟨z,hz⟩:∃ z,z=w.heap.size:=⟨_,rfl⟩
 have HZ:=Hi hz;have F0:Fz w ((w.alloc (.cells #[.pointer none,.pointer none,.pointer none,.slice none 0 0,.slice none 0 0] 55)).alloc (.cells #[.slice none 0 0,.int .i64 0] 194)):=((Fr.refl w).alloc _).alloc _;have B:=(Blk.new w 55 #[.pointer none,.pointer none,.pointer none,.slice none 0 0,.slice none 0 0]).alloc (.cells #[.slice none 0 0,.int .i64 0] 194);have D:=Blk.new (w.alloc (.cells #[.pointer none,.pointer none,.pointer none,.slice none 0 0,.slice none 0 0] 55)) 194 #[.slice none 0 0,.int .i64 0];rw[World.size_alloc,←hz]at D
 rw[←hz]at B
 have HF0:=Hi F0;clear hz F0;go_enter Tryz.func52,Tryz.ntmps52
 go_upto_region 2 with fail
 rw[←HZ.out]
 generalize ((w.alloc (.cells #[.pointer none,.pointer none,.pointer none,.slice none 0 0,.slice none 0 0] 55)).alloc (.cells #[.slice none 0 0,.int .i64 0] 194))=w1 at *
 have HB:=Hi B;have HD:=Hi D;have b0:=B.cell 0;have b1:=B.cell 1;have b2:=B.cell 2;have b3:=B.cell 3;have b4:=B.cell 4;simp only[SG]at b0 b1 b2 b3 b4
 clear B D;go_wp2_with fail
 refine(numNil_any _ _ _ _).mono ?_
 rintro e w2 ⟨rfl,F2⟩;clear b0 b1 b2 b3 b4;have HF2:=Hi F2;have B:=HB.out.fr F2 (fun h=>h);have b0:=B.cell 0;have b1:=B.cell 1;have b2:=B.cell 2;have b3:=B.cell 3;have b4:=B.cell 4;simp only[SG]at b0 b1 b2 b3 b4
 clear B F2;go_wp2_with fail
 refine(numNil_any _ _ _ _).mono ?_
 rintro e w3 ⟨rfl,F3⟩;clear b0 b1 b2 b3 b4;have HF3:=Hi (HF2.out.trans F3);have B:=HB.out.fr HF3.out (fun h=>h);have b0:=B.cell 0;have b1:=B.cell 1;have b2:=B.cell 2;have b3:=B.cell 3;have b4:=B.cell 4;simp only[SG]at b0 b1 b2 b3 b4
 clear B F3;go_wp2_with fail
 refine(doneNil_any _ _ (HD.out.fr HF3.out (fun h=>h))).mono ?_
 rintro e w4 ⟨rfl,F4⟩;clear b0 b1 b2 b3 b4;have HF4:=Hi (HF0.out.trans (HF3.out.trans F4));clear F4;go_wp2_with fail
 go_ret2
 exact⟨rfl,HF4.out⟩
theorem voiceNil_any (am:Option Addr)(cm:Nat)(m:List (List Part))(w:World)(hm:NameAt w (.slice am m.length cm) m)(hf:∀ r∈m,fewB r)(hok:nameOk m=true) :
  Calls Tryz.prog 16 #[.agg #[.slice am m.length cm,.pointer none,.pointer none,.pointer none,.slice none 0 0,.slice none 0 0,.int .i64 0]] w fun e w'=>e=.returned (.bool true)∧Fz w w':=by
 have HF0:=Hi ((Fr.refl (S:=fun _=>False) w).alloc (.cells #[.slice am m.length cm,.pointer none,.pointer none,.pointer none,.slice none 0 0,.slice none 0 0,.int .i64 0] 57));have HB:=Hi (Blk.new w 57 #[.slice am m.length cm,.pointer none,.pointer none,.pointer none,.slice none 0 0,.slice none 0 0,.int .i64 0]);have H1:=Hi (fun W (F:Fz w W)=>right_any _ m W (hm.old F) hf);rw[hok]at H1
 clear hm hf hok;go_enter Tryz.func16,Tryz.ntmps16
 go_wp2_with fail
 refine(extsNil_any _).mono ?_
 rintro e w2 ⟨rfl,F2⟩;have B:=HB.out.fr F2 (fun h=>h);have HF:=Hi (HF0.out.trans F2);have b0:=B.cell 0;have b1:=B.cell 1;have b2:=B.cell 2;have b3:=B.cell 3;have b4:=B.cell 4;have b5:=B.cell 5;have b6:=B.cell 6;simp only[SG]at b0 b1 b2 b3 b4 b5 b6
 clear F2 B;go_wp2_with fail
 refine(H1.out _ HF.out).mono ?_
 rintro e w3 ⟨rfl,F3⟩;have HF3:=Hi (HF.out.trans F3);clear F3 H1 b0 b1 b2 b3 b4 b5 b6;go_wp2_with fail
 go_ret;exact⟨rfl,HF3.out⟩
theorem among0_any (k:Int)(a:Option Addr)(c:Nat)(w:World) :
  Calls Tryz.prog 80 #[.int .i64 k,.slice a 0 c] w fun e w'=>e=.returned (.int .i64 k)∧Fz w w':=by
 go_enter Tryz.func80,Tryz.ntmps80
 go_wp2_with fail
 go_ret;exact⟨rfl,Fr.refl _⟩
theorem scopeNil_any (am:Option Addr)(cm:Nat)(m:List (List Part))(w:World) :
  Calls Tryz.prog 81 #[.agg #[.slice am m.length cm,.pointer none,.pointer none,.pointer none,.slice none 0 0,.slice none 0 0,.int .i64 0]] w fun e w'=>e=.returned (.agg #[.pointer none,.bool false,.bool false,.bool false,.bool false,.slice none 0 0])∧Fz w w':=by
 obtain⟨z,hz⟩:∃ z,z=w.heap.size:=⟨_,rfl⟩
 have HZ:=Hi hz;have F0:Fz w ((w.alloc (.cells #[.slice am m.length cm,.pointer none,.pointer none,.pointer none,.slice none 0 0,.slice none 0 0,.int .i64 0] 57)).alloc (.cells #[.pointer none,.bool false,.bool false,.bool false,.bool false,.slice none 0 0] 74)):=((Fr.refl w).alloc _).alloc _;have B:=(Blk.new w 57 #[.slice am m.length cm,.pointer none,.pointer none,.pointer none,.slice none 0 0,.slice none 0 0,.int .i64 0]).alloc (.cells #[.pointer none,.bool false,.bool false,.bool false,.bool false,.slice none 0 0] 74)
 have D:=Blk.new (w.alloc (.cells #[.slice am m.length cm,.pointer none,.pointer none,.pointer none,.slice none 0 0,.slice none 0 0,.int .i64 0] 57)) 74 #[.pointer none,.bool false,.bool false,.bool false,.bool false,.slice none 0 0];rw[World.size_alloc,←hz]at D
 rw[←hz]at B
 have hs0:w.heap.size+2=((w.alloc (.cells #[.slice am m.length cm,.pointer none,.pointer none,.pointer none,.slice none 0 0,.slice none 0 0,.int .i64 0] 57)).alloc (.cells #[.pointer none,.bool false,.bool false,.bool false,.bool false,.slice none 0 0] 74)).heap.size:=by rw[World.size_alloc,World.size_alloc]
 have HF0:=Hi F0;clear hz F0 hs0;go_enter Tryz.func81,Tryz.ntmps81
 go_upto_region 1 with fail
 rw[←HZ.out]
 generalize ((w.alloc (.cells #[.slice am m.length cm,.pointer none,.pointer none,.pointer none,.slice none 0 0,.slice none 0 0,.int .i64 0] 57)).alloc (.cells #[.pointer none,.bool false,.bool false,.bool false,.bool false,.slice none 0 0] 74))=w1 at *
 have b0:=B.cell 0;have b1:=B.cell 1;have b2:=B.cell 2;have b3:=B.cell 3;have b4:=B.cell 4;have b5:=B.cell 5;have b6:=B.cell 6;have d0:=D.cell 0;have d1:=D.cell 1;have d2:=D.cell 2;have d3:=D.cell 3;have d4:=D.cell 4;have d5:=D.cell 5;have f0:=D.frozen 0;have f1:=D.frozen 1;have f2:=D.frozen 2;have f3:=D.frozen 3;have f4:=D.frozen 4;have f5:=D.frozen 5;have D5:=putL_all (Z:=[.pointer none,.bool false,.bool false,.bool false,.bool false,.slice none 0 0]) D (l:=[.pointer none,.bool false,.bool false,.bool false,.bool false,.slice none 0 0]) rfl;simp only[putL]at D5
 simp only[SG]at d0 d1 d2 d3 d4 d5 b0 b1 b2 b3 b4 b5 b6
 have HF:=Hi (HF0.out.trans' D5.2 (fun i hi e=>by have:=HZ.out;omega));have n0:=D5.1.cell 0;have n1:=D5.1.cell 1;have n2:=D5.1.cell 2;have n3:=D5.1.cell 3;have n4:=D5.1.cell 4;have n5:=D5.1.cell 5;simp only[SG]at n0 n1 n2 n3 n4 n5
 clear B D D5;go_wp2_with fail
 exact bodyPost_ret (v:=.agg #[.pointer none,.bool false,.bool false,.bool false,.bool false,.slice none 0 0]) (by simp[results,Tryz.results81,go_sem,n0,n1,n2,n3,n4,n5]) rfl ⟨rfl,HF.out⟩
theorem scField5 (W:World):(Instr.field 74 (.agg #[.pointer none,.bool false,.bool false,.bool false,.bool false,.slice none 0 0]) 5).run Tryz.prog W=.ok (.slice none 0 0) W:=by kernel_rfl
theorem scField0 (W:World):(Instr.field 74 (.agg #[.pointer none,.bool false,.bool false,.bool false,.bool false,.slice none 0 0]) 0).run Tryz.prog W=.ok (.pointer none) W:=by kernel_rfl
theorem maskNil_any (an:Option Addr)(cn:Nat)(bq:Nat)(ra:Option Addr)(rc:Nat)(ia:Option Addr)(ic:Nat)(am:Option Addr)(cm:Nat)(n m:List (List Part))(w:World) :
  Calls Tryz.prog 38 #[.agg #[.slice an n.length cn,.bool false,.pointer (some ⟨bq,0,none⟩),.slice ra 0 rc,.slice ia 0 ic,.slice am m.length cm,.pointer none,.pointer none,.pointer none,.slice none 0 0,.slice none 0 0,.int .i64 0]] w fun e w'=>e=.returned (.int .i64 510)∧Fz w w':=by
 obtain⟨z,hz⟩:∃ z,z=w.heap.size:=⟨_,rfl⟩
 have HZ:=Hi hz;have HF0:=Hi ((Fr.refl (S:=fun _=>False) w).alloc (.cells #[.slice an n.length cn,.bool false,.pointer (some ⟨bq,0,none⟩),.slice ra 0 rc,.slice ia 0 ic,.slice am m.length cm,.pointer none,.pointer none,.pointer none,.slice none 0 0,.slice none 0 0,.int .i64 0] 120));have B:=Blk.new w 120 #[.slice an n.length cn,.bool false,.pointer (some ⟨bq,0,none⟩),.slice ra 0 rc,.slice ia 0 ic,.slice am m.length cm,.pointer none,.pointer none,.pointer none,.slice none 0 0,.slice none 0 0,.int .i64 0];rw[←hz]at B
 have hsf:=scField5;clear hz;go_enter Tryz.func38,Tryz.ntmps38
 go_upto_region 1 with fail
 rw[←HZ.out]
 generalize (w.alloc (.cells #[.slice an n.length cn,.bool false,.pointer (some ⟨bq,0,none⟩),.slice ra 0 rc,.slice ia 0 ic,.slice am m.length cm,.pointer none,.pointer none,.pointer none,.slice none 0 0,.slice none 0 0,.int .i64 0] 120))=w1 at *
 replace B:=B.drew;have G:Fz w1 w1.drew:=(Fr.refl w1).drew;refine wp_region_noPanic ?_;refine wp_region_held_drew (S:=(fun w'=>∀ j,w'.cell? ⟨z,j,none⟩=(#[.slice an n.length cn,.bool false,.pointer (some ⟨bq,0,none⟩),.slice ra 0 rc,.slice ia 0 ic,.slice am m.length cm,.pointer none,.pointer none,.pointer none,.slice none 0 0,.slice none 0 0,.int .i64 0]:Array Value)[j]?)) (by kernel_rfl) ?_ (fun hHeld=>?_)
 ·exact B.cell
 refine wpAnyH_take (i:=0) (oi:=_) (v:=?_) rfl (by kernel_rfl) (by kernel_rfl) (by kernel_rfl) (fun _ _ _ h=>h) (Or.inl ⟨by rfl,?_⟩) (by assumption) ?_;rotate_left
 ·(intro W hSw;(try dsimp only at hSw);go_simp;try with_reducible rfl)
 (try simp only[Act.put,SK,SS]);refine wpAnyH_take (i:=1) (oi:=_) (v:=?_) rfl (by kernel_rfl) (by kernel_rfl) (by kernel_rfl) (fun _ _ _ h=>h) (Or.inl ⟨by rfl,?_⟩) (by assumption) ?_;rotate_left
 ·(intro W hSw;(try dsimp only at hSw);go_simp;try with_reducible rfl)
 (try simp only[Act.put,SK,SS]);refine wpAnyH_take (i:=2) (oi:=_) (v:=?_) rfl (by kernel_rfl) (by kernel_rfl) (by kernel_rfl) (fun _ _ _ h=>h) (Or.inl ⟨by rfl,?_⟩) (by assumption) ?_;rotate_left
 ·(intro W hSw;(try dsimp only at hSw);go_simp;try with_reducible rfl)
 (try simp only[Act.put,SK,SS]);refine wpAnyH_take (i:=3) (oi:=_) (v:=?_) rfl (by kernel_rfl) (by kernel_rfl) (by kernel_rfl) (fun _ _ _ h=>h) (Or.inl ⟨by rfl,?_⟩) (by assumption) ?_;rotate_left
 ·(intro W hSw;(try dsimp only at hSw);go_simp;try with_reducible rfl)
 (try simp only[Act.put,SK,SS]);refine wpAnyH_take (i:=5) (oi:=_) (v:=?_) rfl (by kernel_rfl) (by kernel_rfl) (by kernel_rfl) (fun _ _ _ h=>h) (Or.inl ⟨by rfl,?_⟩) (by assumption) ?_;rotate_left
 ·(intro W hSw;(try dsimp only at hSw);go_simp;try with_reducible rfl)
 (try simp only[Act.put,SK,SS]);refine wpAnyH_take (i:=6) (oi:=_) (v:=?_) rfl (by kernel_rfl) (by kernel_rfl) (by kernel_rfl) (fun _ _ _ h=>h) (Or.inl ⟨by rfl,?_⟩) (by assumption) ?_;rotate_left
 ·(intro W hSw;(try dsimp only at hSw);go_simp;try with_reducible rfl)
 (try simp only[Act.put,SK,SS]);refine wpAnyH_ready (rs:=[4]) (by kernel_rfl) (by simp) ?_;refine AllReadyH.cons (o:=_) rfl (fun KK hKK=>?_) AllReadyH.nil;go_simp
 (go_at_call 80;(with_reducible refine(among0_any _ _ _ _).mono ?_);rintro e w2 ⟨rfl,F⟩;replace B:=B.fr F (fun h=>h);replace G:=G.trans F;clear F;go_wp2_with fail)
 refine hKK.out _ _ ?_ (fun hHeld=>?_)
 ·exact B.cell
 clear hKK KK;(try simp only[Act.put,SK,SS]);refine wpAnyH_ready (rs:=[7]) (by kernel_rfl) (by simp) ?_;refine AllReadyH.cons (o:=_) rfl (fun KK hKK=>?_) AllReadyH.nil;go_simp
 (go_at_call 81;(with_reducible refine(scopeNil_any am cm m _).mono ?_);rintro e w3 ⟨rfl,F⟩;replace B:=B.fr F (fun h=>h);replace G:=G.trans F;clear F;go_wp2_with fail)
 refine hKK.out _ _ ?_ (fun hHeld=>?_)
 ·exact B.cell
 clear hKK KK;(try simp only[Act.put,SK,SS]);refine wpAnyH_take (i:=8) (oi:=_) (v:=?_) rfl (by kernel_rfl) (by kernel_rfl) (by kernel_rfl) (fun _ _ _ h=>h) (Or.inl ⟨by rfl,?_⟩) (by assumption) ?_;rotate_left
 ·(intro W hSw;(try dsimp only at hSw);go_simp;try with_reducible rfl)
 (try simp only[Act.put,SK,SS]);refine wpAnyH_ready (rs:=[9]) (by kernel_rfl) (by simp) ?_;refine AllReadyH.cons (o:=_) rfl (fun KK hKK=>?_) AllReadyH.nil;go_simp
 (go_at_call 80;(with_reducible refine(among0_any _ _ _ _).mono ?_);rintro e w4 ⟨rfl,F⟩;replace B:=B.fr F (fun h=>h);replace G:=G.trans F;clear F;go_wp2_with fail)
 refine hKK.out _ _ ?_ (fun hHeld=>?_)
 ·exact B.cell
 clear hKK KK;(try simp only[Act.put,SK,SS]);refine wpAnyH_take (i:=10) (oi:=_) (v:=?_) rfl (by kernel_rfl) (by kernel_rfl) (by kernel_rfl) (fun _ _ _ h=>h) (Or.inl ⟨by rfl,?_⟩) (by assumption) ?_;rotate_left
 ·(intro W hSw;(try dsimp only at hSw);go_simp;try with_reducible rfl)
 (try simp only[Act.put,SK,SS]);refine wpAnyH_done (by kernel_rfl) ?_ _;refine NoPanic.normal ?_;have HF:=Hi (HF0.out.trans G);clear B G;go_wp2_with fail
 go_ret;exact⟨rfl,HF.out⟩
theorem whoNil_any (an:Option Addr)(cn:Nat)(bq:Nat)(ra:Option Addr)(rc:Nat)(ia:Option Addr)(ic:Nat)(am:Option Addr)(cm:Nat)(n m:List (List Part))(w:World)(hn:NameAt w (.slice an n.length cn) n)(hm:NameAt w (.slice am m.length cm) m)(hfn:∀ r∈n,fewB r)(hfm:∀ r∈m,fewB r)(hE:Env w) :
  Calls Tryz.prog 39 #[.agg #[.slice an n.length cn,.bool false,.pointer (some ⟨bq,0,none⟩),.slice ra 0 rc,.slice ia 0 ic,.slice am m.length cm,.pointer none,.pointer none,.pointer none,.slice none 0 0,.slice none 0 0,.int .i64 0]] w fun e w'=>e=.returned (.bool (nameSameS n m))∧Fz w w':=by
 have HF0:=Hi ((Fr.refl (S:=fun _=>False) w).alloc (.cells #[.slice an n.length cn,.bool false,.pointer (some ⟨bq,0,none⟩),.slice ra 0 rc,.slice ia 0 ic,.slice am m.length cm,.pointer none,.pointer none,.pointer none,.slice none 0 0,.slice none 0 0,.int .i64 0] 120));have HB:=Hi (Blk.new w 120 #[.slice an n.length cn,.bool false,.pointer (some ⟨bq,0,none⟩),.slice ra 0 rc,.slice ia 0 ic,.slice am m.length cm,.pointer none,.pointer none,.pointer none,.slice none 0 0,.slice none 0 0,.int .i64 0])
 have HO:=Hi (fun W (F:Fz w W)=>nameSame_any _ _ n m W (hn.old F) (hm.old F) hfn hfm (hE.fr F (fun _ _ h=>h)));clear hn hm hfn hfm hE;go_enter Tryz.func39,Tryz.ntmps39
 go_wp2_with fail
 refine(HO.out _ HF0.out).mono ?_
 rintro e w2 ⟨rfl,F2⟩;have HF:=Hi (HF0.out.trans F2);clear F2 HO;go_wp2_with fail
 go_ret;exact⟨rfl,HF.out⟩
theorem whereNil_any (an:Option Addr)(cn:Nat)(bq:Nat)(ra:Option Addr)(rc:Nat)(ia:Option Addr)(ic:Nat)(am:Option Addr)(cm:Nat)(n m:List (List Part))(w:World) :
  Calls Tryz.prog 40 #[.agg #[.slice an n.length cn,.bool false,.pointer (some ⟨bq,0,none⟩),.slice ra 0 rc,.slice ia 0 ic,.slice am m.length cm,.pointer none,.pointer none,.pointer none,.slice none 0 0,.slice none 0 0,.int .i64 0]] w fun e w'=>e=.returned (.bool true)∧Fz w w':=by
 have HF0:=Hi ((Fr.refl (S:=fun _=>False) w).alloc (.cells #[.slice an n.length cn,.bool false,.pointer (some ⟨bq,0,none⟩),.slice ra 0 rc,.slice ia 0 ic,.slice am m.length cm,.pointer none,.pointer none,.pointer none,.slice none 0 0,.slice none 0 0,.int .i64 0] 120));have hsf:=scField0;go_enter Tryz.func40,Tryz.ntmps40
 go_wp2_with fail
 refine(scopeNil_any am cm m _).mono ?_
 rintro e w2 ⟨rfl,F2⟩;have HF:=Hi (HF0.out.trans F2);clear F2;go_wp2_with fail
 go_ret;exact⟨rfl,HF.out⟩
theorem kindNil_any (an:Option Addr)(cn:Nat)(bq:Nat)(ra:Option Addr)(rc:Nat)(ia:Option Addr)(ic:Nat)(am:Option Addr)(cm:Nat)(n m:List (List Part))(w:World) :
  Calls Tryz.prog 41 #[.agg #[.slice an n.length cn,.bool false,.pointer (some ⟨bq,0,none⟩),.slice ra 0 rc,.slice ia 0 ic,.slice am m.length cm,.pointer none,.pointer none,.pointer none,.slice none 0 0,.slice none 0 0,.int .i64 0]] w fun e w'=>e=.returned (.bool true)∧Fz w w':=by
 have HF0:=Hi ((Fr.refl (S:=fun _=>False) w).alloc (.cells #[.slice an n.length cn,.bool false,.pointer (some ⟨bq,0,none⟩),.slice ra 0 rc,.slice ia 0 ic,.slice am m.length cm,.pointer none,.pointer none,.pointer none,.slice none 0 0,.slice none 0 0,.int .i64 0] 120));have HB:=Hi (Blk.new w 120 #[.slice an n.length cn,.bool false,.pointer (some ⟨bq,0,none⟩),.slice ra 0 rc,.slice ia 0 ic,.slice am m.length cm,.pointer none,.pointer none,.pointer none,.slice none 0 0,.slice none 0 0,.int .i64 0]);go_enter Tryz.func41,Tryz.ntmps41
 go_wp2_with fail
 refine(scopeNil_any am cm m _).mono ?_
 rintro e w2 ⟨rfl,F2⟩;have HF:=Hi ((HF0.out.trans F2).alloc (.cells #[.pointer none,.bool false,.bool false,.bool false,.bool false,.slice none 0 0] 74));have B:=(HB.out.fr F2 (fun h=>h)).alloc (.cells #[.pointer none,.bool false,.bool false,.bool false,.bool false,.slice none 0 0] 74);have b0:=B.cell 0;have b1:=B.cell 1;have b2:=B.cell 2;have b3:=B.cell 3;have b4:=B.cell 4;have b5:=B.cell 5;have b6:=B.cell 6;have b7:=B.cell 7;have b8:=B.cell 8;have b9:=B.cell 9;have b10:=B.cell 10;have b11:=B.cell 11;simp only[SG]at b0 b1 b2 b3 b4 b5 b6 b7 b8 b9 b10 b11
 clear F2 B;go_wp2_with fail
 go_ret;exact⟨rfl,HF.out⟩
theorem coversSame_any (an:Option Addr)(cn:Nat)(bq:Nat)(ra:Option Addr)(rc:Nat)(ia:Option Addr)(ic:Nat)(am:Option Addr)(cm:Nat)(n m:List (List Part))(w:World)(hn:NameAt w (.slice an n.length cn) n)(hm:NameAt w (.slice am m.length cm) m)(h:PlaceAt w (pt bq) (some (dirPl n)))(hf:fewG ⟨4,[],n⟩)(hfm:∀ r∈m,fewB r)(hok:nameOk n=true)(hom:nameOk m=true)(hE:Env w)(hs:nameSameS n m=true) :
  Calls Tryz.prog 9 #[.agg #[.slice an n.length cn,.bool false,.pointer (some ⟨bq,0,none⟩),.slice ra 0 rc,.slice ia 0 ic],.agg #[.slice am m.length cm,.pointer none,.pointer none,.pointer none,.slice none 0 0,.slice none 0 0,.int .i64 0]] w fun e w'=>e=.returned (.tuple #[.int .i64 510,.int .i64 0])∧Fz w w':=by
 obtain⟨z,hz⟩:∃ z,z=w.heap.size:=⟨_,rfl⟩
 have HZ:=Hi hz;have F0:Fz w ((w.alloc (.cells #[.slice an n.length cn,.bool false,.pointer (some ⟨bq,0,none⟩),.slice ra 0 rc,.slice ia 0 ic] 49)).alloc (.cells #[.slice am m.length cm,.pointer none,.pointer none,.pointer none,.slice none 0 0,.slice none 0 0,.int .i64 0] 57)):=((Fr.refl w).alloc _).alloc _;have B:=(Blk.new w 49 #[.slice an n.length cn,.bool false,.pointer (some ⟨bq,0,none⟩),.slice ra 0 rc,.slice ia 0 ic]).alloc (.cells #[.slice am m.length cm,.pointer none,.pointer none,.pointer none,.slice none 0 0,.slice none 0 0,.int .i64 0] 57)
 have D:=Blk.new (w.alloc (.cells #[.slice an n.length cn,.bool false,.pointer (some ⟨bq,0,none⟩),.slice ra 0 rc,.slice ia 0 ic] 49)) 57 #[.slice am m.length cm,.pointer none,.pointer none,.pointer none,.slice none 0 0,.slice none 0 0,.int .i64 0];rw[World.size_alloc,←hz]at D
 rw[←hz]at B
 have hs0:w.heap.size+2=((w.alloc (.cells #[.slice an n.length cn,.bool false,.pointer (some ⟨bq,0,none⟩),.slice ra 0 rc,.slice ia 0 ic] 49)).alloc (.cells #[.slice am m.length cm,.pointer none,.pointer none,.pointer none,.slice none 0 0,.slice none 0 0,.int .i64 0] 57)).heap.size:=by rw[World.size_alloc,World.size_alloc]
 have HF0:=Hi F0;have HB:=Hi B;have HD:=Hi D;have HN:=Hi hn;have HM:=Hi hm;have HE:=Hi hE;have H1:=Hi (fun W (F:Fz w W)=>askDir_any an cn bq ra rc ia ic n W (hn.old F) (h.old F) hf hok);have H2:=Hi (fun W (F:Fz w W)=>voiceNil_any am cm m W (hm.old F) hfm hom);have H3:=Hi (fun W (F:Fz w W)=>whoNil_any an cn bq ra rc ia ic am cm n m W (hn.old F) (hm.old F) hf.2 hfm (hE.fr F (fun _ _ h=>h)));rw[hs]at H3
 clear hz F0 hs0 B D hn hm h hf hfm hok hom hE hs;go_enter Tryz.func9,Tryz.ntmps9
 go_upto_region 1 with fail
 rw[←HZ.out]
 generalize ((w.alloc (.cells #[.slice an n.length cn,.bool false,.pointer (some ⟨bq,0,none⟩),.slice ra 0 rc,.slice ia 0 ic] 49)).alloc (.cells #[.slice am m.length cm,.pointer none,.pointer none,.pointer none,.slice none 0 0,.slice none 0 0,.int .i64 0] 57))=w1 at *
 have b0:=HB.out.cell 0;have b1:=HB.out.cell 1;have b2:=HB.out.cell 2;have b3:=HB.out.cell 3;have b4:=HB.out.cell 4;have d0:=HD.out.cell 0;have d1:=HD.out.cell 1;have d2:=HD.out.cell 2;have d3:=HD.out.cell 3;have d4:=HD.out.cell 4;have d5:=HD.out.cell 5;have d6:=HD.out.cell 6;simp only[SG]at b0 b1 b2 b3 b4 d0 d1 d2 d3 d4 d5 d6
 go_wp2_with fail
 refine(H1.out _ HF0.out).mono ?_
 rintro e w2 ⟨rfl,F2⟩;clear b0 b1 b2 b3 b4 d0 d1 d2 d3 d4 d5 d6;have HF2:=Hi F2;have b0:=(HB.out.fr F2 (fun h=>h)).cell 0;have b1:=(HB.out.fr F2 (fun h=>h)).cell 1;have b2:=(HB.out.fr F2 (fun h=>h)).cell 2;have b3:=(HB.out.fr F2 (fun h=>h)).cell 3;have b4:=(HB.out.fr F2 (fun h=>h)).cell 4;have d0:=(HD.out.fr F2 (fun h=>h)).cell 0;have d1:=(HD.out.fr F2 (fun h=>h)).cell 1;have d2:=(HD.out.fr F2 (fun h=>h)).cell 2;have d3:=(HD.out.fr F2 (fun h=>h)).cell 3;have d4:=(HD.out.fr F2 (fun h=>h)).cell 4;have d5:=(HD.out.fr F2 (fun h=>h)).cell 5;have d6:=(HD.out.fr F2 (fun h=>h)).cell 6
 simp only[SG]at b0 b1 b2 b3 b4 d0 d1 d2 d3 d4 d5 d6
 clear F2;go_wp2_with fail
 refine(H2.out _ (HF0.out.trans HF2.out)).mono ?_
 rintro e w3 ⟨rfl,F3⟩;clear b0 b1 b2 b3 b4 d0 d1 d2 d3 d4 d5 d6;have HF3:=Hi (HF2.out.trans F3);have b0:=(HB.out.fr (HF2.out.trans F3) (fun h=>h)).cell 0;have b1:=(HB.out.fr (HF2.out.trans F3) (fun h=>h)).cell 1;have b2:=(HB.out.fr (HF2.out.trans F3) (fun h=>h)).cell 2;have b3:=(HB.out.fr (HF2.out.trans F3) (fun h=>h)).cell 3;have b4:=(HB.out.fr (HF2.out.trans F3) (fun h=>h)).cell 4
 have d0:=(HD.out.fr (HF2.out.trans F3) (fun h=>h)).cell 0;have d1:=(HD.out.fr (HF2.out.trans F3) (fun h=>h)).cell 1;have d2:=(HD.out.fr (HF2.out.trans F3) (fun h=>h)).cell 2;have d3:=(HD.out.fr (HF2.out.trans F3) (fun h=>h)).cell 3;have d4:=(HD.out.fr (HF2.out.trans F3) (fun h=>h)).cell 4;have d5:=(HD.out.fr (HF2.out.trans F3) (fun h=>h)).cell 5;have d6:=(HD.out.fr (HF2.out.trans F3) (fun h=>h)).cell 6;simp only[SG]at b0 b1 b2 b3 b4 d0 d1 d2 d3 d4 d5 d6
 clear F3;go_upto_region 4 with fail
 clear b0 b1 b2 b3 b4 d0 d1 d2 d3 d4 d5 d6;have HL:=Hi (Blk.new w3 120 #[.slice an n.length cn,.bool false,.pointer (some ⟨bq,0,none⟩),.slice ra 0 rc,.slice ia 0 ic,.slice am m.length cm,.pointer none,.pointer none,.pointer none,.slice none 0 0,.slice none 0 0,.int .i64 0]);have HF4:=Hi (HF0.out.trans (HF3.out.alloc (.cells #[.slice an n.length cn,.bool false,.pointer (some ⟨bq,0,none⟩),.slice ra 0 rc,.slice ia 0 ic,.slice am m.length cm,.pointer none,.pointer none,.pointer none,.slice none 0 0,.slice none 0 0,.int .i64 0] 120)));obtain⟨zl,hzl⟩:∃ z,z=w3.heap.size:=⟨_,rfl⟩
 rw[←hzl]at HL ⊢
 clear hzl;generalize (w3.alloc (.cells #[.slice an n.length cn,.bool false,.pointer (some ⟨bq,0,none⟩),.slice ra 0 rc,.slice ia 0 ic,.slice am m.length cm,.pointer none,.pointer none,.pointer none,.slice none 0 0,.slice none 0 0,.int .i64 0] 120))=w4 at *
 have l0:=HL.out.cell 0;have l1:=HL.out.cell 1;have l2:=HL.out.cell 2;have l3:=HL.out.cell 3;have l4:=HL.out.cell 4;have l5:=HL.out.cell 5;have l6:=HL.out.cell 6;have l7:=HL.out.cell 7;have l8:=HL.out.cell 8;have l9:=HL.out.cell 9;have l10:=HL.out.cell 10;have l11:=HL.out.cell 11;simp only[SG]at l0 l1 l2 l3 l4 l5 l6 l7 l8 l9 l10 l11
 go_wp2_with fail
 refine(maskNil_any an cn bq ra rc ia ic am cm n m _).mono ?_
 rintro e w5 ⟨rfl,F5⟩;clear l0 l1 l2 l3 l4 l5 l6 l7 l8 l9 l10 l11;have HF5:=Hi F5;have l0:=(HL.out.fr F5 (fun h=>h)).cell 0;have l1:=(HL.out.fr F5 (fun h=>h)).cell 1;have l2:=(HL.out.fr F5 (fun h=>h)).cell 2;have l3:=(HL.out.fr F5 (fun h=>h)).cell 3;have l4:=(HL.out.fr F5 (fun h=>h)).cell 4;have l5:=(HL.out.fr F5 (fun h=>h)).cell 5;have l6:=(HL.out.fr F5 (fun h=>h)).cell 6;have l7:=(HL.out.fr F5 (fun h=>h)).cell 7;have l8:=(HL.out.fr F5 (fun h=>h)).cell 8;have l9:=(HL.out.fr F5 (fun h=>h)).cell 9;have l10:=(HL.out.fr F5 (fun h=>h)).cell 10;have l11:=(HL.out.fr F5 (fun h=>h)).cell 11
 simp only[SG]at l0 l1 l2 l3 l4 l5 l6 l7 l8 l9 l10 l11
 clear F5;go_wp2_with fail
 refine(H3.out _ (HF4.out.trans HF5.out)).mono ?_
 rintro e w6 ⟨rfl,F6⟩;clear l0 l1 l2 l3 l4 l5 l6 l7 l8 l9 l10 l11;have HF6:=Hi (HF5.out.trans F6)
 have l0:=(HL.out.fr (HF5.out.trans F6) (fun h=>h)).cell 0;have l1:=(HL.out.fr (HF5.out.trans F6) (fun h=>h)).cell 1;have l2:=(HL.out.fr (HF5.out.trans F6) (fun h=>h)).cell 2;have l3:=(HL.out.fr (HF5.out.trans F6) (fun h=>h)).cell 3;have l4:=(HL.out.fr (HF5.out.trans F6) (fun h=>h)).cell 4;have l5:=(HL.out.fr (HF5.out.trans F6) (fun h=>h)).cell 5;have l6:=(HL.out.fr (HF5.out.trans F6) (fun h=>h)).cell 6;have l7:=(HL.out.fr (HF5.out.trans F6) (fun h=>h)).cell 7;have l8:=(HL.out.fr (HF5.out.trans F6) (fun h=>h)).cell 8;have l9:=(HL.out.fr (HF5.out.trans F6) (fun h=>h)).cell 9;have l10:=(HL.out.fr (HF5.out.trans F6) (fun h=>h)).cell 10;have l11:=(HL.out.fr (HF5.out.trans F6) (fun h=>h)).cell 11
 simp only[SG]at l0 l1 l2 l3 l4 l5 l6 l7 l8 l9 l10 l11
 clear F6;go_wp2_with fail
 refine(whereNil_any an cn bq ra rc ia ic am cm n m _).mono ?_
 rintro e w7 ⟨rfl,F7⟩;clear l0 l1 l2 l3 l4 l5 l6 l7 l8 l9 l10 l11;have HF7:=Hi (HF6.out.trans F7)
 have l0:=(HL.out.fr (HF6.out.trans F7) (fun h=>h)).cell 0;have l1:=(HL.out.fr (HF6.out.trans F7) (fun h=>h)).cell 1;have l2:=(HL.out.fr (HF6.out.trans F7) (fun h=>h)).cell 2;have l3:=(HL.out.fr (HF6.out.trans F7) (fun h=>h)).cell 3;have l4:=(HL.out.fr (HF6.out.trans F7) (fun h=>h)).cell 4;have l5:=(HL.out.fr (HF6.out.trans F7) (fun h=>h)).cell 5;have l6:=(HL.out.fr (HF6.out.trans F7) (fun h=>h)).cell 6;have l7:=(HL.out.fr (HF6.out.trans F7) (fun h=>h)).cell 7;have l8:=(HL.out.fr (HF6.out.trans F7) (fun h=>h)).cell 8;have l9:=(HL.out.fr (HF6.out.trans F7) (fun h=>h)).cell 9;have l10:=(HL.out.fr (HF6.out.trans F7) (fun h=>h)).cell 10;have l11:=(HL.out.fr (HF6.out.trans F7) (fun h=>h)).cell 11
 simp only[SG]at l0 l1 l2 l3 l4 l5 l6 l7 l8 l9 l10 l11
 clear F7;go_wp2_with fail
 refine(kindNil_any an cn bq ra rc ia ic am cm n m _).mono ?_
 rintro e w8 ⟨rfl,F8⟩;clear l0 l1 l2 l3 l4 l5 l6 l7 l8 l9 l10 l11;have HF8:=Hi (HF7.out.trans F8);clear F8;go_wp2_with fail
 go_ret2
 exact⟨rfl,HF4.out.trans HF8.out⟩
theorem coversOther_any (an:Option Addr)(cn:Nat)(bq:Nat)(ra:Option Addr)(rc:Nat)(ia:Option Addr)(ic:Nat)(am:Option Addr)(cm:Nat)(n m:List (List Part))(w:World)(hn:NameAt w (.slice an n.length cn) n)(hm:NameAt w (.slice am m.length cm) m)(h:PlaceAt w (pt bq) (some (dirPl n)))(hf:fewG ⟨4,[],n⟩)(hfm:∀ r∈m,fewB r)(hok:nameOk n=true)(hom:nameOk m=true)(hE:Env w)(hs:nameSameS n m=false) :
  Calls Tryz.prog 9 #[.agg #[.slice an n.length cn,.bool false,.pointer (some ⟨bq,0,none⟩),.slice ra 0 rc,.slice ia 0 ic],.agg #[.slice am m.length cm,.pointer none,.pointer none,.pointer none,.slice none 0 0,.slice none 0 0,.int .i64 0]] w fun e w'=>e=.returned (.tuple #[.int .i64 0,.int .i64 15])∧Fz w w':=by
 obtain⟨z,hz⟩:∃ z,z=w.heap.size:=⟨_,rfl⟩
 have HZ:=Hi hz;have F0:Fz w ((w.alloc (.cells #[.slice an n.length cn,.bool false,.pointer (some ⟨bq,0,none⟩),.slice ra 0 rc,.slice ia 0 ic] 49)).alloc (.cells #[.slice am m.length cm,.pointer none,.pointer none,.pointer none,.slice none 0 0,.slice none 0 0,.int .i64 0] 57)):=((Fr.refl w).alloc _).alloc _;have B:=(Blk.new w 49 #[.slice an n.length cn,.bool false,.pointer (some ⟨bq,0,none⟩),.slice ra 0 rc,.slice ia 0 ic]).alloc (.cells #[.slice am m.length cm,.pointer none,.pointer none,.pointer none,.slice none 0 0,.slice none 0 0,.int .i64 0] 57)
 have D:=Blk.new (w.alloc (.cells #[.slice an n.length cn,.bool false,.pointer (some ⟨bq,0,none⟩),.slice ra 0 rc,.slice ia 0 ic] 49)) 57 #[.slice am m.length cm,.pointer none,.pointer none,.pointer none,.slice none 0 0,.slice none 0 0,.int .i64 0];rw[World.size_alloc,←hz]at D
 rw[←hz]at B
 have hs0:w.heap.size+2=((w.alloc (.cells #[.slice an n.length cn,.bool false,.pointer (some ⟨bq,0,none⟩),.slice ra 0 rc,.slice ia 0 ic] 49)).alloc (.cells #[.slice am m.length cm,.pointer none,.pointer none,.pointer none,.slice none 0 0,.slice none 0 0,.int .i64 0] 57)).heap.size:=by rw[World.size_alloc,World.size_alloc]
 have HF0:=Hi F0;have HB:=Hi B;have HD:=Hi D;have HN:=Hi hn;have HM:=Hi hm;have HE:=Hi hE;have H1:=Hi (fun W (F:Fz w W)=>askDir_any an cn bq ra rc ia ic n W (hn.old F) (h.old F) hf hok);have H2:=Hi (fun W (F:Fz w W)=>voiceNil_any am cm m W (hm.old F) hfm hom);have H3:=Hi (fun W (F:Fz w W)=>whoNil_any an cn bq ra rc ia ic am cm n m W (hn.old F) (hm.old F) hf.2 hfm (hE.fr F (fun _ _ h=>h)));rw[hs]at H3
 clear hz F0 hs0 B D hn hm h hf hfm hok hom hE hs;go_enter Tryz.func9,Tryz.ntmps9
 go_upto_region 1 with fail
 rw[←HZ.out]
 generalize ((w.alloc (.cells #[.slice an n.length cn,.bool false,.pointer (some ⟨bq,0,none⟩),.slice ra 0 rc,.slice ia 0 ic] 49)).alloc (.cells #[.slice am m.length cm,.pointer none,.pointer none,.pointer none,.slice none 0 0,.slice none 0 0,.int .i64 0] 57))=w1 at *
 have b0:=HB.out.cell 0;have b1:=HB.out.cell 1;have b2:=HB.out.cell 2;have b3:=HB.out.cell 3;have b4:=HB.out.cell 4;have d0:=HD.out.cell 0;have d1:=HD.out.cell 1;have d2:=HD.out.cell 2;have d3:=HD.out.cell 3;have d4:=HD.out.cell 4;have d5:=HD.out.cell 5;have d6:=HD.out.cell 6;simp only[SG]at b0 b1 b2 b3 b4 d0 d1 d2 d3 d4 d5 d6
 go_wp2_with fail
 refine(H1.out _ HF0.out).mono ?_
 rintro e w2 ⟨rfl,F2⟩;clear b0 b1 b2 b3 b4 d0 d1 d2 d3 d4 d5 d6;have HF2:=Hi F2;have b0:=(HB.out.fr F2 (fun h=>h)).cell 0;have b1:=(HB.out.fr F2 (fun h=>h)).cell 1;have b2:=(HB.out.fr F2 (fun h=>h)).cell 2;have b3:=(HB.out.fr F2 (fun h=>h)).cell 3;have b4:=(HB.out.fr F2 (fun h=>h)).cell 4;have d0:=(HD.out.fr F2 (fun h=>h)).cell 0;have d1:=(HD.out.fr F2 (fun h=>h)).cell 1;have d2:=(HD.out.fr F2 (fun h=>h)).cell 2;have d3:=(HD.out.fr F2 (fun h=>h)).cell 3;have d4:=(HD.out.fr F2 (fun h=>h)).cell 4;have d5:=(HD.out.fr F2 (fun h=>h)).cell 5;have d6:=(HD.out.fr F2 (fun h=>h)).cell 6
 simp only[SG]at b0 b1 b2 b3 b4 d0 d1 d2 d3 d4 d5 d6
 clear F2;go_wp2_with fail
 refine(H2.out _ (HF0.out.trans HF2.out)).mono ?_
 rintro e w3 ⟨rfl,F3⟩;clear b0 b1 b2 b3 b4 d0 d1 d2 d3 d4 d5 d6;have HF3:=Hi (HF2.out.trans F3);have b0:=(HB.out.fr (HF2.out.trans F3) (fun h=>h)).cell 0;have b1:=(HB.out.fr (HF2.out.trans F3) (fun h=>h)).cell 1;have b2:=(HB.out.fr (HF2.out.trans F3) (fun h=>h)).cell 2;have b3:=(HB.out.fr (HF2.out.trans F3) (fun h=>h)).cell 3;have b4:=(HB.out.fr (HF2.out.trans F3) (fun h=>h)).cell 4
 have d0:=(HD.out.fr (HF2.out.trans F3) (fun h=>h)).cell 0;have d1:=(HD.out.fr (HF2.out.trans F3) (fun h=>h)).cell 1;have d2:=(HD.out.fr (HF2.out.trans F3) (fun h=>h)).cell 2;have d3:=(HD.out.fr (HF2.out.trans F3) (fun h=>h)).cell 3;have d4:=(HD.out.fr (HF2.out.trans F3) (fun h=>h)).cell 4;have d5:=(HD.out.fr (HF2.out.trans F3) (fun h=>h)).cell 5;have d6:=(HD.out.fr (HF2.out.trans F3) (fun h=>h)).cell 6;simp only[SG]at b0 b1 b2 b3 b4 d0 d1 d2 d3 d4 d5 d6
 clear F3;go_upto_region 4 with fail
 clear b0 b1 b2 b3 b4 d0 d1 d2 d3 d4 d5 d6;have HL:=Hi (Blk.new w3 120 #[.slice an n.length cn,.bool false,.pointer (some ⟨bq,0,none⟩),.slice ra 0 rc,.slice ia 0 ic,.slice am m.length cm,.pointer none,.pointer none,.pointer none,.slice none 0 0,.slice none 0 0,.int .i64 0]);have HF4:=Hi (HF0.out.trans (HF3.out.alloc (.cells #[.slice an n.length cn,.bool false,.pointer (some ⟨bq,0,none⟩),.slice ra 0 rc,.slice ia 0 ic,.slice am m.length cm,.pointer none,.pointer none,.pointer none,.slice none 0 0,.slice none 0 0,.int .i64 0] 120)));obtain⟨zl,hzl⟩:∃ z,z=w3.heap.size:=⟨_,rfl⟩
 rw[←hzl]at HL ⊢
 clear hzl;generalize (w3.alloc (.cells #[.slice an n.length cn,.bool false,.pointer (some ⟨bq,0,none⟩),.slice ra 0 rc,.slice ia 0 ic,.slice am m.length cm,.pointer none,.pointer none,.pointer none,.slice none 0 0,.slice none 0 0,.int .i64 0] 120))=w4 at *
 have l0:=HL.out.cell 0;have l1:=HL.out.cell 1;have l2:=HL.out.cell 2;have l3:=HL.out.cell 3;have l4:=HL.out.cell 4;have l5:=HL.out.cell 5;have l6:=HL.out.cell 6;have l7:=HL.out.cell 7;have l8:=HL.out.cell 8;have l9:=HL.out.cell 9;have l10:=HL.out.cell 10;have l11:=HL.out.cell 11;simp only[SG]at l0 l1 l2 l3 l4 l5 l6 l7 l8 l9 l10 l11
 go_wp2_with fail
 refine(maskNil_any an cn bq ra rc ia ic am cm n m _).mono ?_
 rintro e w5 ⟨rfl,F5⟩;clear l0 l1 l2 l3 l4 l5 l6 l7 l8 l9 l10 l11;have HF5:=Hi F5;have l0:=(HL.out.fr F5 (fun h=>h)).cell 0;have l1:=(HL.out.fr F5 (fun h=>h)).cell 1;have l2:=(HL.out.fr F5 (fun h=>h)).cell 2;have l3:=(HL.out.fr F5 (fun h=>h)).cell 3;have l4:=(HL.out.fr F5 (fun h=>h)).cell 4;have l5:=(HL.out.fr F5 (fun h=>h)).cell 5;have l6:=(HL.out.fr F5 (fun h=>h)).cell 6;have l7:=(HL.out.fr F5 (fun h=>h)).cell 7;have l8:=(HL.out.fr F5 (fun h=>h)).cell 8;have l9:=(HL.out.fr F5 (fun h=>h)).cell 9;have l10:=(HL.out.fr F5 (fun h=>h)).cell 10;have l11:=(HL.out.fr F5 (fun h=>h)).cell 11
 simp only[SG]at l0 l1 l2 l3 l4 l5 l6 l7 l8 l9 l10 l11
 clear F5;go_wp2_with fail
 refine(H3.out _ (HF4.out.trans HF5.out)).mono ?_
 rintro e w6 ⟨rfl,F6⟩;clear l0 l1 l2 l3 l4 l5 l6 l7 l8 l9 l10 l11;have HF6:=Hi (HF5.out.trans F6)
 have l0:=(HL.out.fr (HF5.out.trans F6) (fun h=>h)).cell 0;have l1:=(HL.out.fr (HF5.out.trans F6) (fun h=>h)).cell 1;have l2:=(HL.out.fr (HF5.out.trans F6) (fun h=>h)).cell 2;have l3:=(HL.out.fr (HF5.out.trans F6) (fun h=>h)).cell 3;have l4:=(HL.out.fr (HF5.out.trans F6) (fun h=>h)).cell 4;have l5:=(HL.out.fr (HF5.out.trans F6) (fun h=>h)).cell 5;have l6:=(HL.out.fr (HF5.out.trans F6) (fun h=>h)).cell 6;have l7:=(HL.out.fr (HF5.out.trans F6) (fun h=>h)).cell 7;have l8:=(HL.out.fr (HF5.out.trans F6) (fun h=>h)).cell 8;have l9:=(HL.out.fr (HF5.out.trans F6) (fun h=>h)).cell 9;have l10:=(HL.out.fr (HF5.out.trans F6) (fun h=>h)).cell 10;have l11:=(HL.out.fr (HF5.out.trans F6) (fun h=>h)).cell 11
 simp only[SG]at l0 l1 l2 l3 l4 l5 l6 l7 l8 l9 l10 l11
 clear F6;go_wp2_with fail
 go_ret2
 exact⟨rfl,HF4.out.trans HF6.out⟩
end Go.Proofs.YteidmhkobmddiaaGreatDoor
