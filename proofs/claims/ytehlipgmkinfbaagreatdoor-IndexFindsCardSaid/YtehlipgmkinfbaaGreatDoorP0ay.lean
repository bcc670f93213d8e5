/-
  Merged by program: XR01H XR14T XR14K XR22A XR22P XIxLw3.
-/
import Derived.Test.YtehlipgmkinfbaaGreatDoorP0ax
import Derived.Test.YtehlipgmkinfbaaGreatDoorP0aw
import Derived.Laws.Cover1
set_option linter.unusedSimpArgs false
set_option maxRecDepth 100000
set_option maxHeartbeats 8000000
namespace Go.Q
open Go Go.RowKit
abbrev hexL:List UInt8:=[48,49,50,51,52,53,54,55,56,57,97,98,99,100,101,102]
theorem hexL_fin:∀ m:Fin 16,hexL[m.val]? = some (UInt8.ofNat (hexN (m.val:Int)).toNat):=by decide
theorem hexN_fin:∀ m:Fin 16,(UInt8.ofNat (hexN (m.val:Int)).toNat).toNat=(hexN (m.val:Int)).toNat∧0≤hexN (m.val:Int):=by decide
theorem textRead_err {l:List UInt8}{e:Int}(h:textReadS l=.error e):e≠0:=by
 unfold textReadS at h;split at h
 ·rename_i e' he
  cases h
  exact Go.Proofs.YtehlipgmkinfbaaGreatDoor.readS_err he
 ·split at h
  ·cases h;decide
  ·split at h
   ·cases h;decide
   ·split at h
    ·cases h
    ·cases h;decide
theorem oid_arcs {o:List Int}(ho:oidOk o=true):∀ n∈o,0≤n∧n≤2147483647:=by
 intro n hn;simp only[oidOk,Bool.and_eq_true,decide_eq_true_eq]at ho
 have:=List.all_eq_true.1 ho.1.2 n hn;simp only[arcOk,decide_eq_true_eq]at this
 omega
end Go.Q
namespace Go.Proofs.YtehlipgmkinfbaaGreatDoor
open Go Go.RowKit Go.Q
theorem hexL_index (m:Nat)(h:m<16)(w:World):(Instr.index 9 (.string ⟨#[48,49,50,51,52,53,54,55,56,57,97,98,99,100,101,102]⟩) (.int .u8 m)).run Tryz.prog w=.ok (.int .u8 (hexN (m:Int))) w:=by
 have hsz:(ByteArray.mk #[48,49,50,51,52,53,54,55,56,57,97,98,99,100,101,102]).size=16:=rfl;rw[run_index_string w 9 _ .u8 m Tryz.underlying9,dif_pos ⟨by omega,by rw[hsz];omega⟩]
 have h1:=hexL_fin ⟨m,h⟩;have h2:=hexN_fin ⟨m,h⟩;simp only at h1 h2
 obtain⟨hl,he⟩:=List.getElem?_eq_some_iff.1 h1
 have h3:((UInt8.ofNat (hexN (m:Int)).toNat).toNat:Int)=hexN (m:Int):=by omega
 rw[←h3,←he]
 simp[ByteArray.getElem_eq_getElem_data]
theorem r01Hex_any (v:Value)(l:List UInt8)(w:World)(h:Bytes w v l)(hl:l.length≤109951162) :
  Calls Tryz.prog 124 #[v] w fun e w'=>e=.returned (str (hexS l))∧Fz w w':=by
 obtain⟨a,cap,rfl,-,-,hx⟩:=h.form
 have HX:=Hi hx;obtain⟨R,hR⟩:∃ R,R=hexS l:=⟨_,rfl⟩
 rw[←hR]
 have HR:=Hi hR;clear h hx hR;go_enter Tryz.func124,Tryz.ntmps124
 go_wp2_with fail
 go_loopg [3,4] l.length (fun g s i wr=>∃ (j L:Nat) (a1:Option Addr) (c1:Nat),g=l.length-j∧j≤l.length∧s=.slice a1 L c1∧i=.int .i64 j∧L=(hexS (l.take j)).length∧wr.ownsRow w.heap.size 5 1 (.slice a1 L c1) L (Lib.byteCells (hexS (l.take j)))∧Fz w wr)
 case atStart=>exact⟨0,0,none,0,rfl,Nat.zero_le _,rfl,rfl,rfl,⟨rfl,.inl ⟨rfl,rfl⟩⟩,Fr.refl _⟩
 case round=>
  obtain⟨j,L,a1,c1,hg,hj,rfl,rfl,hL,hO,F⟩:=hrel
  have HG:=Hi hg;have HL:=Hi hL;have HO:=Hi hO;have HF:=Hi F;have hLl:L≤300000000:=by rw[hL,hexS_len,List.length_take];omega
  clear hg hL hO;by_cases hjl:j<l.length
  ·obtain⟨b,off,rfl,hy⟩:=HX.out (by omega)
   obtain⟨x,hxj⟩:∃ x,l[j]? = some x:=⟨_,List.getElem?_eq_getElem hjl⟩
   have ex:=F.cell (hy j x hxj) (fun h=>h);have HT:=Hi (hexS_take hxj);have hx256:=x.toNat_lt;obtain⟨y,hyx⟩:∃ y,y=x.toNat:=⟨_,rfl⟩
   rw[←hyx]at ex hx256
   obtain⟨q,hq⟩:∃ q,q=y / 16:=⟨_,rfl⟩
   obtain⟨r,hr⟩:∃ r,r=y % 16:=⟨_,rfl⟩
   have hq16:q<16:=by omega
   have hr16:r<16:=by omega
   have hqi:(y:Int) / 16=(q:Int):=by omega
   have hri:(y:Int) % 16=(r:Int):=by omega
   have hh:hex1 x=[UInt8.ofNat (hexN (q:Int)).toNat,UInt8.ofNat (hexN (r:Int)).toNat]:=by
    unfold hex1;rw[←hyx,hqi,←hr]
   have i1:=hexL_index q hq16;have i2:=hexL_index r hr16;have k1:=hexN_fin ⟨q,hq16⟩;have k2:=hexN_fin ⟨r,hr16⟩;simp only at k1 k2
   generalize hexN (q:Int)=d1 at *
   generalize hexN (r:Int)=d2 at *
   have FD:Fz wr wr.drew:=(Fr.refl wr).drew;have hsrc:Bytes (wr.drew.alloc (.cells #[.int .u8 d1,.int .u8 d2] 5)) (.slice (some ⟨wr.drew.heap.size,0,none⟩) 2 2) [UInt8.ofNat d1.toNat,UInt8.ofNat d2.toNat]:=by
    have BX:=Blk.new wr.drew 5 #[.int .u8 d1,.int .u8 d2];have e1:((UInt8.ofNat d1.toNat).toNat:Int)=d1:=by omega
    have e2:((UInt8.ofNat d2.toNat).toNat:Int)=d2:=by omega
    have ec:(#[.int .u8 d1,.int .u8 d2]:Array Value)=(Lib.byteCells [UInt8.ofNat d1.toNat,UInt8.ofNat d2.toNat]).toArray:=by
     simp only[Lib.byteCells,List.map_cons,List.map_nil,e1,e2]
    have BX':Blk (wr.drew.alloc (.cells #[.int .u8 d1,.int .u8 d2] 5)) wr.drew.heap.size 5 (Lib.byteCells [UInt8.ofNat d1.toNat,UInt8.ofNat d2.toNat]).toArray:=by rw[←ec];exact BX
    exact Vals.of_block BX' (by simp[Lib.byteCells];unfold maxLen;omega)
   have F3:Fz wr.drew (wr.drew.alloc (.cells #[.int .u8 d1,.int .u8 d2] 5)):=(Fr.refl wr.drew).alloc _;obtain⟨v4,w4,hr4,ho4,F4,_⟩:=append_bytes (ownsRow_fr (ownsRow_fr HO.out FD (fun _ _ h=>h)) F3 (fun _ _ h=>h)) (some ⟨wr.drew.heap.size,0,none⟩) 2 2 _ hsrc (by omega) (Nat.le_trans (F.trans FD).size F3.size)
   have hvb:=(Vals.of_own HO.out).2;have HF4:=Hi (((F.trans FD).trans F3).trans' F4 (fun i hi e=>by have:=hvb i e;omega));obtain⟨a4,m4,c4,rfl,rfl⟩:=own_shape ho4
   have hT2:=HT.out;rw[hh]at hT2
   rw[←hT2]at ho4
   have HO4:=Hi ho4;have HRUN:=Hi hr4;have HT2:=Hi hT2;have q1:(0:Int)≤(j:Int):=by omega
   have q2:(j:Int)<(l.length:Int):=by omega
   have hti:(y:Int).tmod 16=(r:Int):=by rw[Int.tmod_eq_emod_of_nonneg (by omega)];exact hri
   have w1:IntKind.u8.wrap (q:Int)=(q:Int):=by simp[IntKind.wrap,IntKind.signed,IntKind.bits];omega
   have w2:IntKind.u8.wrap (r:Int)=(r:Int):=by simp[IntKind.wrap,IntKind.signed,IntKind.bits];omega
   clear hy hxj hyx hq hr hh FD k1 k2 hsrc F3 hr4 ho4 F4 hvb hT2 HT F;go_upto_region 5 with fail
   go_region_law (first|(refine step_append_run (by rfl) (.tmp 11) (.tmp 24) 38 (by rfl) _ w4 (by exact HRUN.out) ?_)|fail)
   all_goals
    go_wp2_with fail
    go_roundg (l.length-(j+1))
    case measure=>rw[HG.out];omega
    case rel=>exact⟨j+1,L+2,a4,c4,rfl,by omega,rfl,by go_num,by rw[HT2.out,List.length_append,←HL.out];rfl,HO4.out,HF4.out⟩
  ·obtain rfl:j=l.length:=by omega
   have q2:¬(l.length:Int)<(l.length:Int):=by omega
   have hO2:=HO.out;have hL2:=HL.out;rw[List.take_length,←HR.out]at hO2 hL2
   have hb:=(Vals.of_own hO2).1;have hcv:=str_of hb;clear hb hO2 hL2;go_wp2_with fail
   go_ret;exact⟨rfl,HF.out⟩
theorem r14Text_any (v:Value)(b:List UInt8)(w:World)(h:Bytes w v b)(hl:b.length≤16777216) :
  Calls Tryz.prog 122 #[v] w fun e w'=>WordsOut w' b e∧Fz w w':=by
 obtain⟨a,cap,rfl,-⟩:=h.form
 obtain⟨z,hz⟩:∃ z,z=w.heap.size:=⟨_,rfl⟩
 have BZ:=Blk.new w 188 #[.int .i64 0,.slice none 0 0];have F0:Fz w (w.alloc (.cells #[.int .i64 0,.slice none 0 0] 188)):=(Fr.refl w).alloc _;rw[←hz]at BZ
 have hzw:∀ k,k<w.heap.size→k=z→False:=fun k hk e=>by omega
 have HZ:=Hi hz;have hT:=r06Read_any _ b 0 w _ h F0 (by omega) hl;unfold RTextOut at hT;rw[List.drop_zero]at hT
 have HT:=Hi hT;have HF0:=Hi F0;have HZW:=Hi hzw;clear h hz F0 hzw hT;go_enter Tryz.func122,Tryz.ntmps122
 go_upto_region 1 with fail
 rw[←HZ.out]
 generalize (w.alloc (.cells #[.int .i64 0,.slice none 0 0] 188))=w0 at *
 go_wp2_with fail
 refine HT.out.mono ?_;rintro e w1 ⟨hout,F⟩;replace BZ:=BZ.fr F (fun h=>h);have HF:=Hi (HF0.out.trans F);clear F HF0 HT;cases hr:textReadS b with
 |error x=>
  rw[hr]at hout
  subst hout;have hx:=textRead_err hr;have hx1:(x==0)=false:=beq_eq_false_iff_ne.2 hx;have HRR:=Hi hr;go_upto_region 2 with fail
  have BZ4:=BZ.alloc (.cells #[.int .i64 0,.slice none 0 0] 188);have BY4:=Blk.new w1 188 #[.int .i64 0,.slice none 0 0];have F4:Fz w1 (w1.alloc (.cells #[.int .i64 0,.slice none 0 0] 188)):=(Fr.refl w1).alloc _;obtain⟨y,hy⟩:∃ y,y=w1.heap.size:=⟨_,rfl⟩
  rw[←hy]at BY4 ⊢
  clear hy;generalize (w1.alloc (.cells #[.int .i64 0,.slice none 0 0] 188))=w4 at *
  have y0:=BY4.cell 0;have y1:=BY4.cell 1;simp only[SG]at y0 y1
  have SZ:=BZ4.cell;have ZZ:=BZ4.frozen;obtain⟨BZ5,F5⟩:=set2 BZ4 (.int .i64 0) (.slice none 0 0)
  have n0:=BZ5.cell 0;have n1:=BZ5.cell 1;simp only[SG]at n0 n1
  have HF5:=Hi ((HF.out.trans F4).trans' F5 HZW.out);clear hr F4 BZ BZ4 BZ5 F5 BY4 hx;go_wp2_with fail
  refine bodyPost_ret (v:=.tuple #[.agg #[.int .i64 0,.slice none 0 0],.bool false]) (by simp[results,Tryz.results122,go_sem,n0,n1]) rfl ⟨?_,HF5.out⟩;unfold WordsOut;rw[HRR.out]
 |ok kbn=>
  obtain⟨k,t,n⟩:=kbn
  rw[hr]at hout
  obtain⟨u,rfl,hu⟩:=hout
  have HRR:=Hi hr;obtain⟨au,cu,rfl,-⟩:=hu.form
  go_upto_region 2 with fail
  have BZ4:=BZ.alloc (.cells #[.int .i64 k,.slice au t.length cu] 188);have BY4:=Blk.new w1 188 #[.int .i64 k,.slice au t.length cu];have F4:Fz w1 (w1.alloc (.cells #[.int .i64 k,.slice au t.length cu] 188)):=(Fr.refl w1).alloc _;obtain⟨y,hy⟩:∃ y,y=w1.heap.size:=⟨_,rfl⟩
  rw[←hy]at BY4 ⊢
  clear hy;generalize (w1.alloc (.cells #[.int .i64 k,.slice au t.length cu] 188))=w4 at *
  have y0:=BY4.cell 0;have y1:=BY4.cell 1;simp only[SG]at y0 y1
  have SZ:=BZ4.cell;have ZZ:=BZ4.frozen;obtain⟨BZ5,F5⟩:=set2 BZ4 (.int .i64 k) (.slice au t.length cu)
  have n0:=BZ5.cell 0;have n1:=BZ5.cell 1;simp only[SG]at n0 n1
  have HF5:=Hi ((HF.out.trans F4).trans' F5 HZW.out);have HB:=Hi (hu.old HF5.out);clear hr F4 BZ BZ4 BZ5 F5 BY4 hu;go_wp2_with fail
  refine bodyPost_ret (v:=.tuple #[.agg #[.int .i64 k,.slice au t.length cu],.bool true]) (by simp[results,Tryz.results122,go_sem,n0,n1]) rfl ⟨?_,HF5.out⟩;unfold WordsOut;rw[HRR.out]
  exact⟨_,rfl,HB.out⟩
theorem r14partKey_any (x y:Value)(o:List Int)(b:List UInt8)(w:World)(hx:Ints w x o)(hy:Bytes w y b)(ho:oidOk o=true)(hl:b.length≤10000000) :
  Calls Tryz.prog 85 #[.agg #[x,y]] w fun e w'=>e=.returned (str (attrKeyS o b))∧Fz w w':=by
 obtain⟨ax,cx,rfl,-⟩:=Ints.form hx
 obtain⟨ay,cy,rfl,-⟩:=Vals.form hy
 obtain⟨z,hz⟩:∃ z,z=w.heap.size:=⟨_,rfl⟩
 have BZ:=Blk.new w 106 #[.slice ax o.length cx,.slice ay b.length cy];have F0:Fz w (w.alloc (.cells #[.slice ax o.length cx,.slice ay b.length cy] 106)):=(Fr.refl w).alloc _;have HT:=Hi (r04Text_any _ o _ (hx.old F0) (oid_arcs ho) (by have:=(nums_ok ho).2.1;omega));have HY:=Hi (hy.old F0);rw[←hz]at BZ
 have HF0:=Hi F0;have HZ:=Hi hz;have hk:attrKeyS o b=oidTextS o++(match textReadS b with|.ok (k,t,_)=>[61,116]++hexS (foldKeyS k t)|.error _=>[61,98]++hexS b):=rfl;have HK:=Hi hk;have ho0:=Hi ho;clear hx hy F0 hz ho hk;have hol:o.length≤32:=(nums_ok ho0.out).2.1;have hot:(oidTextS o).length≤1000:=by
  have hall:=ho0.out;simp only[oidOk,Bool.and_eq_true,decide_eq_true_eq]at hall
  have:=oidText_len (o:=o) (fun n hn=>by
   have:=List.all_eq_true.1 hall.1.2 n hn;simp only[arcOk,decide_eq_true_eq]at this
   omega)
  omega
 have hos:(ByteArray.mk (oidTextS o).toArray).size=(oidTextS o).length:=by simp[ByteArray.size]
 generalize oidTextS o=ot at *
 go_enter Tryz.func85,Tryz.ntmps85
 go_upto_region 1 with fail
 rw[←HZ.out]
 generalize (w.alloc (.cells #[.slice ax o.length cx,.slice ay b.length cy] 106))=w0 at *
 have z0:=BZ.cell 0;simp at z0
 go_wp2_with fail
 refine HT.out.mono ?_;rintro e w1 ⟨rfl,F1⟩;have BZ1:=BZ.fr F1 (fun h=>h);have z1:=BZ1.cell 1;simp at z1
 have HY1:=Hi (HY.out.old F1);have HF1:=Hi (HF0.out.trans F1);clear HT HY HF0 F1 z0 BZ;go_wp2_with fail
 refine(r14Text_any _ b w1 HY1.out (by omega)).mono ?_
 rintro e w2 ⟨hout,F2⟩;have BZ2:=BZ1.fr F2 (fun h=>h);have HY2:=Hi (HY1.out.old F2);have HF2:=Hi (HF1.out.trans F2);unfold WordsOut at hout;clear HY1 HF1 F2 z1 BZ1;cases hr:textReadS b with
 |error x=>
  rw[hr]at hout
  subst hout;have F3:Fz w2 (w2.alloc (.cells #[.int .i64 0,.slice none 0 0] 188)):=(Fr.refl w2).alloc _;have BZ3:=BZ2.fr F3 (fun h=>h);have z1:=BZ3.cell 1;simp only[SG]at z1
  have HX:=Hi (r01Hex_any _ b _ (HY2.out.old F3) (by omega));have HF3:=Hi (HF2.out.trans F3);have hkk:=HK.out;rw[hr]at hkk
  have HKK:=Hi hkk;have hhl:=hexS_len b;have hhs:(ByteArray.mk (hexS b).toArray).size=(hexS b).length:=by simp[ByteArray.size]
  clear hr hkk HY2 HF2 F3 BZ2 BZ3;generalize hexS b=hb at *
  go_wp2_with fail
  refine HX.out.mono ?_;rintro e w4 ⟨rfl,F4⟩;go_wp2_with fail
  go_ret;refine⟨congrArg (fun x:ByteArray=>Ending.returned (.string x)) ?_,HF3.out.trans F4⟩
  rw[HKK.out,show ot++([61,98]++hb)=((ot++[61])++[98])++hb from by simp,←ba_cat,←ba_cat,←ba_cat]
 |ok kbn=>
  obtain⟨k,t,n⟩:=kbn
  rw[hr]at hout
  obtain⟨u,rfl,hu⟩:=hout
  obtain⟨hrt,htl⟩:=textRead_ok hr
  obtain⟨au,cu,rfl,-⟩:=hu.form
  have F3:Fz w2 (w2.alloc (.cells #[.int .i64 k,.slice au t.length cu] 188)):=(Fr.refl w2).alloc _;have HX:=Hi (r13Key_any k _ t _ (hu.old F3) hrt (by omega));have HF3:=Hi (HF2.out.trans F3);have hkk:=HK.out;rw[hr]at hkk
  simp only at hkk
  have HKK:=Hi hkk;have hfl:=foldKey_len k t;clear hr hkk HY2 HF2 F3 BZ2 hu hrt;generalize foldKeyS k t=fk at *
  go_upto_region 4 with fail
  have BY:=Blk.new w2 188 #[.int .i64 k,.slice au t.length cu];obtain⟨y,hy⟩:∃ y,y=w2.heap.size:=⟨_,rfl⟩
  rw[←hy]at BY ⊢
  clear hy;generalize (w2.alloc (.cells #[.int .i64 k,.slice au t.length cu] 188))=w3 at *
  have y0:=BY.cell 0;have y1:=BY.cell 1;simp only[SG]at y0 y1
  go_wp2_with fail
  refine HX.out.mono ?_;rintro e w4 ⟨rfl,F4⟩;obtain⟨cp,wc,hcv,hbv,FC,-⟩:=bytes_of_str w4 fk (by omega)
  have HXX:=Hi (r01Hex_any _ fk wc hbv (by omega));have HF4:=Hi ((HF3.out.trans F4).trans FC);have hhl:=hexS_len fk;have hhs:(ByteArray.mk (hexS fk).toArray).size=(hexS fk).length:=by simp[ByteArray.size]
  clear HX HF3 F4 hbv FC BY y0 y1;generalize hexS fk=hb at *
  go_wp2_with fail
  refine HXX.out.mono ?_;rintro e w5 ⟨rfl,F5⟩;go_wp2_with fail
  go_ret;refine⟨congrArg (fun x:ByteArray=>Ending.returned (.string x)) ?_,HF4.out.trans F5⟩
  rw[HKK.out,show ot++([61,116]++hb)=((ot++[61])++[116])++hb from by simp,←ba_cat,←ba_cat,←ba_cat]
theorem r14Key_any (v:Value)(n:List (List Part))(w:World)(h:NameAt w v n)(hf:∀ r∈n,fewB r)(hok:nameOk n=true) :
  Calls Tryz.prog 60 #[v] w fun e w'=>e=.returned (str (nameKeyS n))∧Fz w w':=by
 have H:=Hi h;obtain⟨hn64,hrd⟩:=name_rdns hok
 have HRD:=Hi hrd;obtain⟨a,cap,rfl,hc,hm,-⟩:=h
 have hkl:∀ k∈n.map rdnKeyS,k.length≤2560017616:=fun k hk=>by
  obtain⟨r,hr,rfl⟩:=List.mem_map.1 hk
  exact rdnKey_len (hf r hr) (hrd r hr)
 have HPL:=Hi (joinF_len 47 2560017616 64 hkl (by rw[List.length_map];exact hn64));have hJ:∀ j,Lib.join ((n.map rdnKeyS).take j) [47]=Lib.join ((n.take j).map rdnKeyS) [47]:=fun j=>by rw[←List.map_take]
 have HNK:=Hi (show nameKeyS n=Lib.join ((n.map rdnKeyS).take n.length) [47] from by unfold nameKeyS;rw[List.take_of_length_le (by rw[List.length_map];omega)]);clear hkl hJ hok hrd;go_enter Tryz.func60,Tryz.ntmps60
 go_wp2_with fail
 go_loopg [3,4] n.length (fun g o i wr=>∃ j:Nat,g=n.length-j∧j≤n.length∧o=str (Lib.join ((n.map rdnKeyS).take j) [47])∧i=.int .i64 j∧Fz w wr)
 case atStart=>exact⟨0,rfl,Nat.zero_le _,rfl,rfl,Fr.refl _⟩
 case round=>
  obtain⟨j,hg,hj,rfl,rfl,F⟩:=hrel
  have HG:=Hi hg;have HF:=Hi F;obtain⟨J,hJ⟩:∃ J,J=Lib.join ((n.map rdnKeyS).take j) [47]:=⟨_,rfl⟩
  have hJl:J.length≤200000000000:=by rw[hJ];have:=HPL.out j;omega
  rw[←hJ]
  by_cases hjl:j<n.length
  ·obtain⟨a0,cap0,he,_,_,hx⟩:=H.out
   simp only[Value.slice.injEq,true_and]at he
   obtain⟨rfl,rfl⟩:=he
   obtain⟨b,off,rfl,hy⟩:=hx (by omega)
   obtain⟨r,hr⟩:∃ r,n[j]? = some r:=⟨_,List.getElem?_eq_getElem hjl⟩
   obtain⟨x,e0,hA⟩:=hy j r hr
   have hmem:=List.mem_of_getElem? hr;obtain⟨hr16,hro⟩:=rdn_oids (HRD.out r hmem)
   have HRO:=Hi hro;have HRF:=Hi (hf r hmem);obtain⟨P,hP⟩:∃ P,P=if j=0 then [] else J++[47]:=⟨_,rfl⟩
   have hnext:Lib.join ((n.map rdnKeyS).take (j+1)) [47]=P++rdnKeyS r:=by
    have:=join_take 47 (ks:=n.map rdnKeyS) (j:=j) (k:=rdnKeyS r) (by rw[List.getElem?_map,hr];rfl);rw[this,hP,hJ]
   have hPl:P.length≤200000000001:=by
    rw[hP]
    split
    ·simp
    ·rw[List.length_append];simp;omega
   have HNX:=Hi hnext;have HP:=Hi hP;have HA:=Hi hA;have HE0:=Hi e0;have HK2:=Hi (show rdnKeyS r=Lib.join (keysS r) [43] from rfl);have hKl:=keysS_len r;have HNE:=Hi (fun c hc=>keysS_next r c hc);have hkm:∀ k∈keysS r,k.length≤160001100:=fun k hk=>by
    obtain⟨p,hp,rfl⟩:=keysS_mem hk
    exact attrKey_len (hro p hp) (hf r hmem p hp)
   have HKM:=Hi hkm;have HQL:=Hi (joinF_len 43 160001100 16 hkm (by omega));have r1:(0:Int)≤(j:Int):=by omega
   have r2:(j:Int)<(n.length:Int):=by omega
   have hJ0:j=0→J=[]:=fun h=>by rw[hJ,h];simp[Lib.join]
   have HJ0:=Hi hJ0;clear hx hy hr hA hmem hro hP hnext hkm e0 hJ hg F hJ0;obtain⟨K,hK⟩:∃ K,K=keysS r:=⟨_,rfl⟩
   rw[←hK]at HK2 hKl HNE HKM HQL
   have hJs:(ByteArray.mk J.toArray).size=J.length:=by simp[ByteArray.size]
   clear hK;go_upto_region 5 with fail
   have hpos:j=0∨0<j:=by omega
   rcases hpos with hj0|hj0
   case' inl=>
    have q1:decide ((0:Int)<(j:Int))=false:=decide_eq_false (by omega);have q2:decide (0<j)=false:=decide_eq_false (by omega);have hP0:P=J:=by rw[HP.out,if_pos hj0,HJ0.out hj0]
    clear HP HJ0 HPL hj0;subst hP0;go_upto_region 7 with fail
    clear q1 q2
   case' inr=>
    have q1:(0:Int)<(j:Int):=by omega
    have hP0:=HP.out;rw[if_neg (by omega)]at hP0
    clear HP HJ0 HPL;go_upto_region 7 with fail
    rw[show (Value.string ({ data:=J.toArray }++{ data:=#[47] }))=str P from by rw[hP0];exact congrArg Value.string (ba_cat _ _)]
    clear hP0 q1 hj0
   all_goals
    clear hJs hJl;obtain⟨wo,hwo⟩:∃ wo:World,wo=wr:=⟨_,rfl⟩
    obtain rfl:=hwo
    go_wp2_with fail
    go_loopg [3,5,6] K.length (fun g o la an wr=>∃ c:Nat,g=K.length-c∧c≤K.length∧o=str (P++Lib.join (K.take c) [43])∧la=str ((lastOf K c).getD [])∧an=.bool (lastOf K c).isSome∧Fz w wr)
    case atStart=>exact⟨0,rfl,Nat.zero_le _,by simp[Lib.join],rfl,rfl,HF.out⟩
    case round=>
     obtain⟨c,hg,hcK,rfl,rfl,rfl,F⟩:=hrel
     have HG2:=Hi hg;have HF2:=Hi F;have hls:=lastOf_isSome hcK;have HLS:=Hi hls;obtain⟨lo,hlo⟩:∃ lo,lo=lastOf K c:=⟨_,rfl⟩
     have hN:=HNE.out c hcK;rw[←hlo]at hN HLS ⊢
     have HN2:=Hi hN;have HLO:=Hi hlo;obtain⟨Q,hQ⟩:∃ Q,Q=P++Lib.join (K.take c) [43]:=⟨_,rfl⟩
     have hQl:Q.length≤300000000000:=by rw[hQ,List.length_append];have:=HQL.out c;omega
     rw[←hQ]
     have HQ:=Hi hQ;obtain⟨la,hla⟩:∃ la,la=lo.getD []:=⟨_,rfl⟩
     obtain⟨an,han⟩:∃ an,an=lo.isSome:=⟨_,rfl⟩
     rw[←hla,←han]
     have HLA:=Hi hla;have HAN:=Hi han;clear hg F hls hN hlo hQ hla han;obtain⟨wo2,hwo⟩:∃ wo:World,wo=wr:=⟨_,rfl⟩
     obtain rfl:=hwo
     go_wp2_with fail
     go_loopg [7,8,9] r.length (fun g nx fo k wr=>∃ i:Nat,g=r.length-i∧i≤r.length∧nx=str ((pickS lo (partKeys (r.take i))).getD [])∧fo=.bool (pickS lo (partKeys (r.take i))).isSome∧k=.int .i64 i∧Fz w wr)
     case atStart=>exact⟨0,rfl,Nat.zero_le _,rfl,rfl,rfl,HF2.out⟩
     case round=>
      obtain⟨i,hg,hir,rfl,rfl,rfl,F⟩:=hrel
      have HG3:=Hi hg;have HF3:=Hi F;have e0:=F.cell HE0.out (fun h=>h);obtain⟨a1,c1,hxe,_,_,hx⟩:=HA.out.old F
      subst hxe;obtain⟨bo,hbo⟩:∃ bo,bo=pickS lo (partKeys (r.take i)):=⟨_,rfl⟩
      rw[←hbo]
      have HBO:=Hi hbo;obtain⟨nx,hnx⟩:∃ nx,nx=bo.getD []:=⟨_,rfl⟩
      obtain⟨fo,hfo⟩:∃ fo,fo=bo.isSome:=⟨_,rfl⟩
      rw[←hnx,←hfo]
      have HNX2:=Hi hnx;have HFO:=Hi hfo;clear hg F hbo hnx hfo;by_cases hil:i<r.length
      ·obtain⟨b1,o1,rfl,hy⟩:=hx (by omega)
       obtain⟨p,hp⟩:∃ p,r[i]? = some p:=⟨_,List.getElem?_eq_getElem hil⟩
       obtain⟨x,y,e1,e2,hpx,hpy⟩:=hy i p hp
       have hpm:=List.mem_of_getElem? hp;have HPK:=Hi (r14partKey_any x y p.o p.b wr hpx hpy (HRO.out p hpm) (HRF.out p hpm));have hst:pickS lo (partKeys (r.take (i+1)))=pickStep lo bo (attrKeyS p.o p.b):=by rw[partKeys_snoc hp,pickS_snoc,HBO.out]
       have r3:(0:Int)≤(i:Int):=by omega
       have r4:(i:Int)<(r.length:Int):=by omega
       obtain⟨ax,cx,rfl,-⟩:=Ints.form hpx
       obtain⟨ay,cy,rfl,-⟩:=Vals.form hpy
       have e1':wr.cell? ⟨b1,o1+i*2,none⟩=some (.slice ax p.o.length cx):=by rw[Nat.mul_comm];exact e1
       have e2':wr.cell? ⟨b1,o1+i*2+1,none⟩=some (.slice ay p.b.length cy):=by rw[Nat.mul_comm];exact e2
       obtain⟨kp,hkp⟩:∃ kp,kp=attrKeyS p.o p.b:=⟨_,rfl⟩
       rw[←hkp]at HPK hst
       have HST:=Hi hst;have hB:(an=false∧behindB lo kp=true)∨(an=true∧Op.bytesLess kp la=true∧behindB lo kp=false)∨(an=true∧Op.bytesLess kp la=false∧(kp==la)=true∧behindB lo kp=false)∨(an=true∧Op.bytesLess kp la=false∧(kp==la)=false∧behindB lo kp=true):=by
        rw[behind_eq,←HLA.out,←HAN.out,←greater_of kp la]
        cases an<;>cases Op.bytesLess kp la<;>cases (kp==la)<;>simp
       have hT:(fo=false∧betterB bo kp=true)∨(fo=true∧Op.bytesLess kp nx=true∧betterB bo kp=true)∨(fo=true∧Op.bytesLess kp nx=false∧betterB bo kp=false):=by
        rw[better_eq,←HNX2.out,←HFO.out,←less_of (x:=kp)]
        cases fo<;>cases Op.bytesLess kp nx<;>simp
       have HB:=Hi hB;have HT:=Hi hT;clear hx hy hp hpx hpy hpm hkp e1 e2 hst hB hT;go_wp2_with fail
       refine HPK.out.mono ?_;rintro e w3 ⟨rfl,F3⟩;have HF4:=Hi (HF3.out.trans F3);clear HPK F3 e0 e1' e2';rcases HB.out with ⟨rfl,hb⟩|⟨rfl,d1,hb⟩|⟨rfl,d1,d2,hb⟩|⟨rfl,d1,d2,hb⟩<;>rcases HT.out with ⟨rfl,ht⟩|⟨rfl,d3,ht⟩|⟨rfl,d3,ht⟩
       all_goals
        have HS2:=Hi (And.intro hb ht);clear hb ht HB HT;go_wp2_with fail
        go_roundg (r.length-(i+1))
        case measure=>rw[HG3.out];omega
        case rel=>
         have hst:=HST.out;unfold pickStep at hst;rw[HS2.out.1,HS2.out.2]at hst
         refine⟨i+1,rfl,by omega,?_,?_,by go_num,HF4.out⟩
         ·rw[hst]
          first|rfl|(simp only[Bool.and_true,Bool.and_false,Bool.false_and,Bool.true_and,Bool.false_eq_true,if_true,if_false];first|rfl|rw[HNX2.out])
         ·rw[hst]
          first|rfl|(simp only[Bool.and_true,Bool.and_false,Bool.false_and,Bool.true_and,Bool.false_eq_true,if_true,if_false];first|rfl|rw[HFO.out])
      ·obtain rfl:i=r.length:=by omega
       have hb:=HBO.out;rw[List.take_length,HN2.out]at hb
       clear hx;rcases Nat.lt_or_ge c K.length with hcl|hcl
       ·obtain⟨m,hm2⟩:∃ m,K[c]? = some m:=⟨_,List.getElem?_eq_getElem hcl⟩
        have hml:=HKM.out m (List.mem_of_getElem? hm2);have hjt:=join_take 43 hm2;rw[hm2]at hb
        have hn2:=HNX2.out;have hf2:=HFO.out;rw[hb]at hn2 hf2
        have hn3:nx=m:=hn2;have hf3:fo=true:=hf2;subst hn3;subst hf3;have hlast:lastOf K (c+1)=some nx:=by rw[lastOf_succ];exact hm2
        have HLT:=Hi hlast;have hms:(ByteArray.mk nx.toArray).size=nx.length:=by simp[ByteArray.size]
        have hQs:(ByteArray.mk Q.toArray).size=Q.length:=by simp[ByteArray.size]
        have HJT:=Hi hjt;clear hb hn2 hf2 hm2 hlast hjt;by_cases hc0:c=0
        ·have ha0:an=false:=by rw[HAN.out,HLS.out,hc0];rfl
         have hjt:=HJT.out;rw[if_pos hc0]at hjt
         have hQP:Q=P:=by rw[HQ.out,hc0];simp[Lib.join]
         have HJ2:=Hi hjt;have HQP:=Hi hQP;subst ha0;clear hjt hQP hc0;go_wp2_with fail
         go_roundg (K.length-(c+1))
         case measure=>rw[HG2.out];omega
         case rel=>exact⟨c+1,rfl,by omega,by rw[HJ2.out,HQP.out];exact congrArg Value.string (ba_cat _ _),by rw[HLT.out];rfl,by rw[HLT.out];rfl,HF3.out⟩
        ·have ha0:an=true:=by rw[HAN.out,HLS.out];exact decide_eq_true hc0
         have hjt:=HJT.out;rw[if_neg hc0]at hjt
         have HJ2:=Hi hjt;subst ha0;clear hjt hc0;go_wp2_with fail
         go_roundg (K.length-(c+1))
         case measure=>rw[HG2.out];omega
         case rel=>exact⟨c+1,rfl,by omega,by rw[HJ2.out,←List.append_assoc,←List.append_assoc,←HQ.out];exact congrArg Value.string (by rw[ba_cat,ba_cat]),by rw[HLT.out];rfl,by rw[HLT.out];rfl,HF3.out⟩
       ·rw[List.getElem?_eq_none hcl]at hb
        have hf2:=HFO.out;rw[hb]at hf2
        have hf3:fo=false:=hf2;subst hf3;have hc2:c=K.length:=by omega
        have hres:Lib.join ((n.map rdnKeyS).take (j+1)) [47]=Q:=by rw[HNX.out,HK2.out,HQ.out,hc2,List.take_length]
        have HRES:=Hi hres;clear hb hf2 hc2 hres;go_wp2_with fail
        go_roundg (n.length-(j+1))
        case measure=>rw[HG.out];omega
        case rel=>exact⟨j+1,rfl,by omega,by rw[HRES.out],by go_num,HF3.out⟩
  ·obtain rfl:j=n.length:=by omega
   have hres:nameKeyS n=J:=by rw[HNK.out,hJ]
   have HRES:=Hi hres;clear hJ hres;go_wp2_with fail
   go_ret;exact⟨by rw[HRES.out];rfl,HF.out⟩
theorem r22Ahead_any (x y:RowP)(a1 b1 a2 b2:Option Addr)(c1 d1 c2 d2:Nat)(t1 r1 i1 t2 r2 i2:Int)(q1 q2:Bool)(w:World)(h1:NameAt w (.slice a1 x.iss.length c1) x.iss)(h2:Bytes w (.slice b1 x.num.size.length d1) x.num.size)(h3:NameAt w (.slice a2 y.iss.length c2) y.iss)(h4:Bytes w (.slice b2 y.num.size.length d2) y.num.size)(hx:fitR x)(hy:fitR y) :
  Calls Tryz.prog 40 #[.agg #[.slice a1 x.iss.length c1,.bool x.num.below,.slice b1 x.num.size.length d1,.int .i64 t1,.int .i64 r1,.bool q1,.int .i64 i1],.agg #[.slice a2 y.iss.length c2,.bool y.num.below,.slice b2 y.num.size.length d2,.int .i64 t2,.int .i64 r2,.bool q2,.int .i64 i2]] w fun e w'=>e=.returned (.int .i64 (rowC x y))∧Fz w w':=by
 rw[rowC_keys]
 obtain⟨r,hr⟩:∃ r,r=(if cmpL (nameKeyS x.iss) (nameKeyS y.iss)=0 then numC x.num y.num else cmpL (nameKeyS x.iss) (nameKeyS y.iss)):=⟨_,rfl⟩
 rw[←hr]
 obtain⟨ka,hka⟩:∃ k,k=nameKeyS x.iss:=⟨_,rfl⟩
 obtain⟨kb,hkb⟩:∃ k,k=nameKeyS y.iss:=⟨_,rfl⟩
 obtain⟨z,hz⟩:∃ z,z=w.heap.size:=⟨_,rfl⟩
 have HZ:=Hi hz;have F0:Fz w ((w.alloc (.cells #[.slice a1 x.iss.length c1,.bool x.num.below,.slice b1 x.num.size.length d1,.int .i64 t1,.int .i64 r1,.bool q1,.int .i64 i1] 56)).alloc (.cells #[.slice a2 y.iss.length c2,.bool y.num.below,.slice b2 y.num.size.length d2,.int .i64 t2,.int .i64 r2,.bool q2,.int .i64 i2] 56)):=((Fr.refl w).alloc _).alloc _
 have BA:=(Blk.new w 56 #[.slice a1 x.iss.length c1,.bool x.num.below,.slice b1 x.num.size.length d1,.int .i64 t1,.int .i64 r1,.bool q1,.int .i64 i1]).alloc (.cells #[.slice a2 y.iss.length c2,.bool y.num.below,.slice b2 y.num.size.length d2,.int .i64 t2,.int .i64 r2,.bool q2,.int .i64 i2] 56);have BB:=Blk.new (w.alloc (.cells #[.slice a1 x.iss.length c1,.bool x.num.below,.slice b1 x.num.size.length d1,.int .i64 t1,.int .i64 r1,.bool q1,.int .i64 i1] 56)) 56 #[.slice a2 y.iss.length c2,.bool y.num.below,.slice b2 y.num.size.length d2,.int .i64 t2,.int .i64 r2,.bool q2,.int .i64 i2]
 rw[World.size_alloc,←hz]at BB
 rw[←hz]at BA
 have HK1:=Hi (fun W (F:Fz ((w.alloc (.cells #[.slice a1 x.iss.length c1,.bool x.num.below,.slice b1 x.num.size.length d1,.int .i64 t1,.int .i64 r1,.bool q1,.int .i64 i1] 56)).alloc (.cells #[.slice a2 y.iss.length c2,.bool y.num.below,.slice b2 y.num.size.length d2,.int .i64 t2,.int .i64 r2,.bool q2,.int .i64 i2] 56)) W)=>show Calls Tryz.prog 60 #[.slice a1 x.iss.length c1] W (fun e w'=>e=.returned (str ka)∧Fz W w') from by rw[hka];exact r14Key_any _ x.iss W ((h1.old F0).old F) (fun r hr=>(hx.1.2 r hr).1) hx.2.1)
 have HK2:=Hi (fun W (F:Fz ((w.alloc (.cells #[.slice a1 x.iss.length c1,.bool x.num.below,.slice b1 x.num.size.length d1,.int .i64 t1,.int .i64 r1,.bool q1,.int .i64 i1] 56)).alloc (.cells #[.slice a2 y.iss.length c2,.bool y.num.below,.slice b2 y.num.size.length d2,.int .i64 t2,.int .i64 r2,.bool q2,.int .i64 i2] 56)) W)=>show Calls Tryz.prog 60 #[.slice a2 y.iss.length c2] W (fun e w'=>e=.returned (str kb)∧Fz W w') from by rw[hkb];exact r14Key_any _ y.iss W ((h3.old F0).old F) (fun r hr=>(hy.1.2 r hr).1) hy.2.1)
 have HC:=Hi (fun W (F:Fz ((w.alloc (.cells #[.slice a1 x.iss.length c1,.bool x.num.below,.slice b1 x.num.size.length d1,.int .i64 t1,.int .i64 r1,.bool q1,.int .i64 i1] 56)).alloc (.cells #[.slice a2 y.iss.length c2,.bool y.num.below,.slice b2 y.num.size.length d2,.int .i64 t2,.int .i64 r2,.bool q2,.int .i64 i2] 56)) W)=>r03Compare_any x.num.below y.num.below _ _ x.num.size y.num.size W ((h2.old F0).old F) ((h4.old F0).old F) hx.2.2 hy.2.2);rw[show (⟨x.num.below,x.num.size⟩:NumT)=x.num from rfl,show (⟨y.num.below,y.num.size⟩:NumT)=y.num from rfl]at HC
 rw[←hka,←hkb]at hr
 have HR:=Hi hr;have HF0:=Hi F0;clear h1 h2 h3 h4 hx hy hz F0 hr hka hkb;have hl:Op.bytesLess ka kb=decide (ka<kb):=less_of;have hg:(!(Op.bytesLess ka kb||ka==kb))=decide (kb<ka):=greater_of ka kb;obtain⟨p,hp⟩:∃ p,p=decide (ka<kb):=⟨_,rfl⟩
 obtain⟨q,hq⟩:∃ q,q=decide (kb<ka):=⟨_,rfl⟩
 have HP:=Hi hp;have HQ:=Hi hq;rw[←hp]at hl
 rw[←hq]at hg
 have HL:=Hi hl;have HGG:=Hi hg;clear hp hq hl hg;go_enter Tryz.func40,Tryz.ntmps40
 go_upto_region 1 with fail
 rw[←HZ.out]
 generalize ((w.alloc (.cells #[.slice a1 x.iss.length c1,.bool x.num.below,.slice b1 x.num.size.length d1,.int .i64 t1,.int .i64 r1,.bool q1,.int .i64 i1] 56)).alloc (.cells #[.slice a2 y.iss.length c2,.bool y.num.below,.slice b2 y.num.size.length d2,.int .i64 t2,.int .i64 r2,.bool q2,.int .i64 i2] 56))=w0 at *
 replace BA:=BA.drew;replace BB:=BB.drew;have G:Fz w0 w0.drew:=(Fr.refl w0).drew;refine wp_region_N 8 (S:=fun w'=>(∀ j,w'.cell? ⟨z,j,none⟩=(#[.slice a1 x.iss.length c1,.bool x.num.below,.slice b1 x.num.size.length d1,.int .i64 t1,.int .i64 r1,.bool q1,.int .i64 i1]:Array Value)[j]?)∧∀ j,w'.cell? ⟨z+1,j,none⟩=(#[.slice a2 y.iss.length c2,.bool y.num.below,.slice b2 y.num.size.length d2,.int .i64 t2,.int .i64 r2,.bool q2,.int .i64 i2]:Array Value)[j]?) (by kernel_rfl) ?_ (fun hHeld=>?_)
 ·exact⟨BA.cell,BB.cell⟩
 refine tkN 0 rfl hHeld ?_;refine tkN 1 rfl hHeld ?_;refine tkN 3 rfl hHeld ?_;(try simp only[Act.put,SS]);refine tkN 4 rfl hHeld ?_;(try simp only[Act.put,SS]);refine stN 2 (fun KK hKK=>?_);go_simp
 (go_at_call 60;(with_reducible refine(HK1.out _ G).mono ?_);rintro e w' ⟨rfl,F⟩;replace BA:=BA.fr F (fun h=>h);replace BB:=BB.fr F (fun h=>h);replace G:=G.trans F;clear F HK1;go_wp2_with fail)
 refine hKK.out _ _ ?_ (fun hHeld=>?_)
 ·exact⟨BA.cell,BB.cell⟩
 clear hKK KK;(try simp only[Act.put,SS]);refine stN 5 (fun KK hKK=>?_);go_simp
 (go_at_call 60;(with_reducible refine(HK2.out _ G).mono ?_);rintro e w2 ⟨rfl,F⟩;replace BA:=BA.fr F (fun h=>h);replace BB:=BB.fr F (fun h=>h);replace G:=G.trans F;clear F HK2;go_wp2_with fail)
 refine hKK.out _ _ ?_ (fun hHeld=>?_)
 ·exact⟨BA.cell,BB.cell⟩
 clear hKK KK;(try simp only[Act.put,SS]);refine tkN 6 rfl hHeld ?_;refine tkN 7 rfl hHeld ?_;(try simp only[Act.put,SS]);refine wpAnyN_done (by kernel_rfl) ?_ _;have d0:=BA.cell 1;have d1:=BA.cell 2;have e0:=BB.cell 1;have e1:=BB.cell 2;simp only[SG]at d0 d1 e0 e1
 have HCC:=Hi (HC.out _ G);have HGE:=Hi (HF0.out.trans G);have hl:=HL.out;have hgt:=fun W=>run_gtr 9 ka kb W
 rw[←HQ.out]at hgt
 clear BA BB G hHeld HC HL HGG;cases p with
 |true=>
  have h1:ka<kb:=of_decide_eq_true HP.out.symm;have HE:=Hi (show r=-1 from by rw[HR.out];unfold cmpL;rw[if_pos h1];rfl);clear h1 hgt;go_wp2_with fail
  go_ret;exact⟨by first|rfl|(rw[HE.out];done)|(rw[HE.out];rfl),HGE.out⟩
 |false=>
  have h1:¬ka<kb:=of_decide_eq_false HP.out.symm;cases q with
  |true=>
   have h2:kb<ka:=of_decide_eq_true HQ.out.symm;have HE:=Hi (show r=1 from by rw[HR.out];unfold cmpL;rw[if_neg h1,if_pos h2];rfl);have h3:(ka==kb)=false:=beq_eq_false_iff_ne.2 (fun e=>by rw[e]at h2;exact Std.lt_irrefl h2);clear h1 h2;go_wp2_with fail
   go_ret;exact⟨by first|rfl|(rw[HE.out];done)|(rw[HE.out];rfl),HGE.out⟩
  |false=>
   have h2:¬kb<ka:=of_decide_eq_false HQ.out.symm;have HE:=Hi (show r=numC x.num y.num from by rw[HR.out];unfold cmpL;rw[if_neg h1,if_neg h2,if_pos rfl]);have h3:(ka==kb)=true:=by rw[beq_iff_eq];rcases Std.lt_trichotomy ka kb with h|h|h;exact absurd h h1;exact h;exact absurd h h2
   clear h1 h2;go_wp2_with fail
   refine HCC.out.mono ?_;rintro e w4 ⟨rfl,F4⟩;clear d0 d1 e0 e1;go_wp2_with fail
   go_ret;exact⟨by rw[HE.out]<;>rfl,HGE.out.trans F4⟩
theorem r22Place_any (s:RowP)(v vi vs:Value)(l:List RowP)(w:World)(h:Refs w v l)(h1:NameAt w vi s.iss)(h2:Bytes w vs s.num.size)(hf:∀ r∈l,fitR r)(hs:fitR s)(hl:l.length≤1000000) :
  Calls Tryz.prog 31 #[v,vi,.agg #[.bool s.num.below,vs]] w fun e w'=>e=.returned (.tuple #[.int .i64 (placeR s l 0).1,.bool (placeR s l 0).2])∧Fz w w':=by
 have H:=Hi h;have HFT:=Hi hf;obtain⟨a0,cap0,rfl,-⟩:=h
 obtain⟨a2,c2,rfl⟩:=NameAt.shape h1
 obtain⟨b2,d2,rfl,-⟩:=h2.form
 obtain⟨z,hz⟩:∃ z,z=w.heap.size:=⟨_,rfl⟩
 have HZ:=Hi hz;obtain⟨n0,b0,hr0⟩:∃ n0 b0,placeR s l 0=(n0,b0):=⟨_,_,rfl⟩
 rw[hr0]
 have HR:=Hi hr0;have HS:=Hi hs;have HN:=Hi h1;have HB:=Hi h2;clear hf h1 h2 hz hr0 hs;go_enter Tryz.func31,Tryz.ntmps31
 go_wp2_with fail
 rw[←HZ.out]
 have F0:Fz w ((w.alloc (.cells #[.bool s.num.below,.slice b2 s.num.size.length d2] 54)).alloc (.cells #[.slice a2 s.iss.length c2,.bool s.num.below,.slice b2 s.num.size.length d2,.int .i64 0,.int .i64 0,.bool false,.int .i64 0] 56)):=((Fr.refl w).alloc _).alloc _;have BA:=Blk.new (w.alloc (.cells #[.bool s.num.below,.slice b2 s.num.size.length d2] 54)) 56 #[.slice a2 s.iss.length c2,.bool s.num.below,.slice b2 s.num.size.length d2,.int .i64 0,.int .i64 0,.bool false,.int .i64 0];rw[World.size_alloc,←HZ.out]at BA
 have HF0:=Hi F0;have HBA:=Hi BA;clear F0 BA;generalize ((w.alloc (.cells #[.bool s.num.below,.slice b2 s.num.size.length d2] 54)).alloc (.cells #[.slice a2 s.iss.length c2,.bool s.num.below,.slice b2 s.num.size.length d2,.int .i64 0,.int .i64 0,.bool false,.int .i64 0] 56))=w0 at *
 go_loopg [9,10] l.length (fun g u i wr=>∃ j n:Nat,g=l.length-j∧j≤l.length∧n≤j∧u=.int .i64 n∧i=.int .i64 j∧Hid (placeR s (l.drop j) n=(n0,b0))∧Hid (Fz w0 wr))
 case atStart=>exact⟨0,0,rfl,Nat.zero_le _,Nat.le_refl _,rfl,rfl,HR,Hi (Fr.refl _)⟩
 case round=>
  obtain⟨j,n,hg,hj,hnj,rfl,rfl,HP,HF⟩:=hrel
  have HG:=Hi hg;clear hg;have r1:(0:Int)≤(j:Int):=by omega
  by_cases hjl:j<l.length
  ·obtain⟨x,hx⟩:∃ x,l[j]? = some x:=⟨_,List.getElem?_eq_getElem hjl⟩
   have hdx:l.drop j=x::l.drop (j+1):=by
    rw[List.drop_eq_getElem_cons hjl]
    rw[List.getElem?_eq_getElem hjl]at hx
    rw[Option.some.inj hx]
   have hp:=HP.out;rw[hdx]at hp
   unfold placeR at hp;have HPP:=Hi hp;have HFW:=Hi (HF0.out.trans HF.out);obtain⟨b,o,cs,rfl,-,-,hR,hcell⟩:=LAt.get H.out hx
   obtain⟨a1,c1,b1,d1,rfl,hn1,hb1⟩:=hR.form
   have HSX:=Hi (fun W (F:Fz wr W)=>show W.cell? ⟨b,o+j*7,none⟩=some (.slice a1 x.iss.length c1)∧W.cell? ⟨b,o+j*7+1,none⟩=some (.bool x.num.below)∧W.cell? ⟨b,o+j*7+2,none⟩=some (.slice b1 x.num.size.length d1)∧W.cell? ⟨b,o+j*7+3,none⟩=some (.int .i64 x.date)∧W.cell? ⟨b,o+j*7+4,none⟩=some (.int .i64 x.reason)∧W.cell? ⟨b,o+j*7+5,none⟩=some (.bool x.inv.isSome)∧W.cell? ⟨b,o+j*7+6,none⟩=some (.int .i64 (x.inv.getD 0))∧∀ jj,W.cell? ⟨z+1,jj,none⟩=(#[.slice a2 s.iss.length c2,.bool s.num.below,.slice b2 s.num.size.length d2,.int .i64 0,.int .i64 0,.bool false,.int .i64 0]:Array Value)[jj]? from ⟨by have:=(HFW.out.trans F).cell (hcell 0 _ rfl) (fun h=>h);rwa[Nat.add_zero]at this,(HFW.out.trans F).cell (hcell 1 _ rfl) (fun h=>h),(HFW.out.trans F).cell (hcell 2 _ rfl) (fun h=>h),(HFW.out.trans F).cell (hcell 3 _ rfl) (fun h=>h),(HFW.out.trans F).cell (hcell 4 _ rfl) (fun h=>h),(HFW.out.trans F).cell (hcell 5 _ rfl) (fun h=>h),(HFW.out.trans F).cell (hcell 6 _ rfl) (fun h=>h),(HBA.out.fr (HF.out.trans F) (fun h=>h)).cell⟩)
   obtain⟨rc,hrc⟩:∃ rc,rc=rowC x s:=⟨_,rfl⟩
   have hfx:=HFT.out x (List.mem_of_getElem? hx);have HAH:=Hi (fun W (F:Fz wr W)=>r22Ahead_any x s a1 b1 a2 b2 c1 d1 c2 d2 x.date x.reason (x.inv.getD 0) 0 0 0 x.inv.isSome false W (hn1.old (HFW.out.trans F)) (hb1.old (HFW.out.trans F)) (HN.out.old (HFW.out.trans F)) (HB.out.old (HFW.out.trans F)) hfx HS.out);rw[←hrc]at HAH HPP
   have r2:(j:Int)<(l.length:Int):=by omega
   clear hx hdx hp hR hcell hn1 hb1 hfx hrc;go_upto_region 6 with fail
   have GD:Fz wr wr.drew:=(Fr.refl wr).drew
   refine wp_region_N 7 (S:=fun w'=>w'.cell? ⟨b,o+j*7,none⟩=some (.slice a1 x.iss.length c1)∧w'.cell? ⟨b,o+j*7+1,none⟩=some (.bool x.num.below)∧w'.cell? ⟨b,o+j*7+2,none⟩=some (.slice b1 x.num.size.length d1)∧w'.cell? ⟨b,o+j*7+3,none⟩=some (.int .i64 x.date)∧w'.cell? ⟨b,o+j*7+4,none⟩=some (.int .i64 x.reason)∧w'.cell? ⟨b,o+j*7+5,none⟩=some (.bool x.inv.isSome)∧w'.cell? ⟨b,o+j*7+6,none⟩=some (.int .i64 (x.inv.getD 0))∧∀ jj,w'.cell? ⟨z+1,jj,none⟩=(#[.slice a2 s.iss.length c2,.bool s.num.below,.slice b2 s.num.size.length d2,.int .i64 0,.int .i64 0,.bool false,.int .i64 0]:Array Value)[jj]?) (by kernel_rfl) ?_ (fun hHeld=>?_)
   ·exact HSX.out _ GD
   refine tkN 0 rfl hHeld ?_;refine tkN 1 rfl hHeld ?_;refine tkN 2 rfl hHeld ?_;(try simp only[Act.put,SS]);refine tkN 3 rfl hHeld ?_;refine tkN 4 rfl hHeld ?_;(try simp only[Act.put,SS]);refine stN 5 (fun KK hKK=>?_);go_simp
   (go_at_call 40;(with_reducible refine(HAH.out _ GD).mono ?_);rintro e w' ⟨rfl,F⟩;have G2:=GD.trans F;clear F HAH;go_wp2_with fail)
   refine hKK.out _ _ ?_ (fun hHeld=>?_)
   ·exact HSX.out _ G2
   clear hKK KK;(try simp only[Act.put,SS]);refine tkN 6 rfl hHeld ?_;(try simp only[Act.put,SS]);refine wpAnyN_done (by kernel_rfl) ?_ _;have HF2:=Hi (HF.out.trans G2);clear GD G2 hHeld;by_cases h0:rc=0
   ·have q1:(rc==0)=true:=by simp[h0]
    have hpp:=HPP.out;rw[if_pos h0]at hpp
    have HQ:=Hi hpp;clear hpp h0;go_wp2_with fail
    refine bodyPost_ret (v:=.tuple #[.int .i64 n,.bool true]) (by simp[results,Tryz.results31,go_sem]) rfl ⟨?_,HF0.out.trans HF2.out⟩;have hq:=HQ.out;simp only[Prod.mk.injEq]at hq
    rw[hq.1,hq.2]
   ·have q1:(rc==0)=false:=beq_eq_false_iff_ne.2 h0
    have hpp:=HPP.out;rw[if_neg h0]at hpp
    by_cases hneg:rc<0
    ·rw[if_pos hneg]at hpp
     have HQ:=Hi hpp;clear hpp h0;go_wp2_with fail
     go_roundg (l.length-(j+1))
     case measure=>rw[HG.out];omega
     case rel=>exact⟨j+1,n+1,rfl,by omega,by omega,by go_num,by go_num,HQ,HF2⟩
    ·rw[if_neg hneg]at hpp
     have HQ:=Hi hpp;clear hpp h0;go_wp2_with fail
     go_roundg (l.length-(j+1))
     case measure=>rw[HG.out];omega
     case rel=>exact⟨j+1,n,rfl,by omega,by omega,rfl,by go_num,HQ,HF2⟩
  ·have r2:¬(j:Int)<(l.length:Int):=by omega
   have hp:=HP.out;rw[List.drop_eq_nil_of_le (by omega)]at hp
   unfold placeR at hp;have HQ:=Hi hp;clear hp;go_wp2_with fail
   refine bodyPost_ret (v:=.tuple #[.int .i64 n,.bool false]) (by simp[results,Tryz.results31,go_sem]) rfl ⟨?_,HF0.out.trans HF.out⟩;have hq:=HQ.out;simp only[Prod.mk.injEq]at hq
   rw[hq.1,hq.2]
theorem info56:(Tryz.prog.info? 56).map (fun i=>(i.zero,i.size,i.bytes))=some (some (.agg #[.slice none 0 0,.bool false,.slice none 0 0,.int .i64 0,.int .i64 0,.bool false,.int .i64 0]),7,88):=by kernel_rfl
theorem ofRowsK_any (v:Value)(l:List RowP)(w ws:World)(h:Go.Q.Rows w v l)(Fb:Fz w ws)(hf:∀ r∈l,fitN r.iss)(hl:l.length≤1000000) :
  Calls Tryz.prog 9 #[v] ws fun e w'=>(∃ a c,e=.returned (.slice a l.length c)∧GRow 7 RRef (fun k=>w.heap.size≤k∧k<ws.heap.size) 56 w' ws.heap.size (.slice a l.length c) l)∧Fz ws w':=by
 have hws:=Fb.size;have HWS:=Hi hws;have HFB:=Hi Fb;have H:=Hi h;have HFT:=Hi hf;have HLL:=Hi hl;obtain⟨a0,cap0,rfl,-⟩:=h
 clear hf hl hws Fb;go_enter Tryz.func9,Tryz.ntmps9
 go_wp2_with fail
 go_loopg [3,4] l.length (fun g u i wr=>∃ (j:Nat) (a:Option Addr) (c:Nat) (gs:List RowP),g=l.length-j∧j≤l.length∧u=.slice a gs.length c∧i=.int .i64 j∧gs.length=j∧Hid (gs=l.take j)∧Hid (GRow 7 RRef (fun k=>w.heap.size≤k∧k<ws.heap.size) 56 wr ws.heap.size (.slice a gs.length c) gs)∧Hid (Fz w wr)∧Hid (Fz ws wr))
 case atStart=>exact⟨0,none,0,[],rfl,Nat.zero_le _,rfl,rfl,rfl,Hi rfl,Hi (GRow.nil _ _ _ _ _ _),HFB,Hi (Fr.refl _)⟩
 case round=>
  obtain⟨j,a,c,gs,hg,hj,rfl,rfl,hgl,HGS,HRW,HF,HFS⟩:=hrel
  have HSZ:=Hi (HFS.out.size);have HG:=Hi hg;have HGL:=Hi hgl;clear hg;by_cases hjl:j<l.length
  ·skip
   skip
   ·obtain⟨x,hx⟩:∃ x,l[j]? = some x:=⟨_,List.getElem?_eq_getElem hjl⟩
    obtain⟨b,o,cs,rfl,-,hcs,hR,hcell⟩:=LAt.get H.out hx
    obtain⟨p1,p2,p3,p4,p5,rfl,hni,hsi,hvi⟩:=hR.form
    have hmx:=HFT.out x (List.mem_of_getElem? hx);have HLOW:=Hi (show b<w.heap.size from World.block_lt_of_cell? w _ (hcell 0 _ rfl))
    have HS:=Hi (fun W (F:Fz wr W)=>show W.cell? ⟨b,o+j*6,none⟩=some (.slice p1 x.iss.length p2)∧W.cell? ⟨b,o+j*6+1,none⟩=some (.bool x.num.below)∧W.cell? ⟨b,o+j*6+1+1,none⟩=some (.slice p3 x.num.size.length p4)∧W.cell? ⟨b,o+j*6+3,none⟩=some (.int .i64 x.date)∧W.cell? ⟨b,o+j*6+4,none⟩=some (.int .i64 x.reason) from ⟨by have:=(HF.out.trans F).cell (hcell 0 _ rfl) (fun h=>h);rwa[Nat.add_zero]at this,(HF.out.trans F).cell (hcell 1 _ rfl) (fun h=>h),(HF.out.trans F).cell (hcell 2 _ rfl) (fun h=>h),(HF.out.trans F).cell (hcell 3 _ rfl) (fun h=>h),(HF.out.trans F).cell (hcell 4 _ rfl) (fun h=>h)⟩)
    have HS2:=Hi (fun W (F:Fz wr W)=>And.intro ((HF.out.trans F).cell (hcell 5 _ rfl) (fun h=>h)) (hvi.old (HF.out.trans F)));have HVI:=Hi hvi;have r1:(0:Int)≤(j:Int):=by omega
    have r2:(j:Int)<(l.length:Int):=by omega
    have HSH:=Hi (fun W (F:Fz wr W)=>lawOfK_any _ x.iss w W hni (HF.out.trans F) (by have:=hmx.1;omega) (fun r hr=>(hmx.2 r hr).2.1));have HNM:=Hi (fun W (F:Fz wr W)=>lawNumOf_any x.num.below _ x.num.size w W hsi (HF.out.trans F));have HRT:=Hi (fun (W:World) (vi vs:Value) (g1:NameAt W vi x.iss) (g2:Bytes W vs x.num.size)=>show RRef W [vi,.bool x.num.below,vs,.int .i64 x.date,.int .i64 x.reason,.bool x.inv.isSome,.int .i64 (x.inv.getD 0)] x from by
     exact⟨vi,vs,rfl,g1,g2⟩)
    have HTK:=Hi (show l.take (j+1)=l.take j++[x] by rw[List.take_add_one,hx];rfl);clear hx hcell hR hni hsi hvi hmx hcs hgl;go_upto_region 5 with fail
    have hwr:=HF.out.size;have HWR:=Hi hwr;go_cut [5] from 12 to 35 (fun s5 wc=>∃ y a1 k1 b2 d2,s5=pt y∧wr.heap.size≤y∧Blk wc y 56 #[.slice a1 x.iss.length k1,.bool x.num.below,.slice b2 x.num.size.length d2,.int .i64 x.date,.int .i64 x.reason,.bool false,.int .i64 0]∧Kept (fun W=>NameAt W (.slice a1 x.iss.length k1) x.iss∧Bytes W (.slice b2 x.num.size.length d2) x.num.size) (fun k=>(w.heap.size≤k∧k<wr.heap.size)∨k=y) wc∧Fz wr wc)
    case first=>
     have hsd:wr.drew.heap.size=wr.heap.size:=rfl;have hsa:(wr.alloc (.cells #[.slice none 0 0,.bool false,.slice none 0 0,.int .i64 0,.int .i64 0,.bool false,.int .i64 0] 56)).drew.heap.size=wr.heap.size+1:=World.size_alloc _ _;have GD:Fz wr wr.drew:=(Fr.refl wr).drew;have GA:Fz wr (wr.alloc (.cells #[.slice none 0 0,.bool false,.slice none 0 0,.int .i64 0,.int .i64 0,.bool false,.int .i64 0] 56)).drew:=((Fr.refl wr).alloc _).drew
     go_region_held3 (fun w'=>w'.cell? ⟨b,o+j*6,none⟩=some (.slice p1 x.iss.length p2)∧w'.cell? ⟨b,o+j*6+1,none⟩=some (.bool x.num.below)∧w'.cell? ⟨b,o+j*6+1+1,none⟩=some (.slice p3 x.num.size.length p4)∧w'.cell? ⟨b,o+j*6+3,none⟩=some (.int .i64 x.date)∧w'.cell? ⟨b,o+j*6+4,none⟩=some (.int .i64 x.reason)) (first|(with_reducible exact HS.out _ GD)|(with_reducible exact HS.out _ GA)|(with_reducible exact HS.out _ G1)|(with_reducible exact HS.out _ GB)|(with_reducible exact HS.out _ G3)|(with_reducible exact HS.out _ G4)|(with_reducible exact HS.out _ GC)|fail) (first
      |(go_at_call 25;(with_reducible refine(HSH.out _ GD).mono ?_);rintro e w' ⟨⟨a1,k1,rfl,hr⟩,F⟩;have hw2:=F.size;have G1:=GD.trans F;have kn:=hr.kept (fun k=>w.heap.size≤k∧k<wr.heap.size) (fun k hk=>⟨⟨hk.1,by omega⟩,by omega⟩);have GB:=G1.alloc (.cells #[.slice none 0 0,.bool false,.slice none 0 0,.int .i64 0,.int .i64 0,.bool false,.int .i64 0] 56);clear hr F HSH)
      |(go_at_call 25;(with_reducible refine(HSH.out _ GA).mono ?_);rintro e w' ⟨⟨a1,k1,rfl,hr⟩,F⟩;have hw2:=F.size;have G1:=GA.trans F;have BN:=(Blk.new wr 56 #[.slice none 0 0,.bool false,.slice none 0 0,.int .i64 0,.int .i64 0,.bool false,.int .i64 0]).drew.fr F (fun h=>h);have kn:=hr.kept (fun k=>(w.heap.size≤k∧k<wr.heap.size)∨k=wr.heap.size) (fun k hk=>⟨⟨by rcases hk with hk|hk<;>omega,by rcases hk with hk|hk<;>omega⟩,by rcases hk with hk|hk<;>omega⟩);clear hr F HSH)
      |(go_at_call 35;(with_reducible refine(HNM.out _ GB).mono ?_);rintro e w3 ⟨⟨b2,d2,rfl,hq⟩,F⟩;have hsb:(w'.alloc (.cells #[.slice none 0 0,.bool false,.slice none 0 0,.int .i64 0,.int .i64 0,.bool false,.int .i64 0] 56)).heap.size=w'.heap.size+1:=World.size_alloc _ _;have BN:=(Blk.new w' 56 #[.slice none 0 0,.bool false,.slice none 0 0,.int .i64 0,.int .i64 0,.bool false,.int .i64 0]).fr F (fun h=>h);have G3:=GB.trans F;have kk:Kept (fun W=>NameAt W (.slice a1 x.iss.length k1) x.iss∧Bytes W (.slice b2 x.num.size.length d2) x.num.size) (fun k=>(w.heap.size≤k∧k<wr.heap.size)∨k=w'.heap.size) w3:=Kept.both (kn.step (((Fr.refl w').alloc (.cells #[.slice none 0 0,.bool false,.slice none 0 0,.int .i64 0,.int .i64 0,.bool false,.int .i64 0] 56):Fz w' _).trans F) (fun _ _ h=>h.elim) (fun k hk=>by rcases hk with hk|hk;exact .inl hk;exact .inr (by omega))) (hq.weaken (fun k hk=>by rcases hk with hk|hk<;>omega));have hle:wr.heap.size≤w'.heap.size:=by omega
        have HE:=one_put [.slice a1 x.iss.length k1,.bool x.num.below,.slice b2 x.num.size.length d2,.int .i64 x.date,.int .i64 x.reason,.bool false,.int .i64 0] BN rfl G3 (by omega) kk (.inr rfl);(simp only[putL]at HE);have G4:=HE.2.2;have d0:=BN.cell 0;have d1:=BN.cell 1;have d2':=BN.cell 2;have d3:=BN.cell 3;have d4:=BN.cell 4;have d5:=BN.cell 5;have d6:=BN.cell 6;have f0:=BN.frozen 0;have f1:=BN.frozen 1;have f2:=BN.frozen 2;have f3:=BN.frozen 3;have f4:=BN.frozen 4;have f5:=BN.frozen 5;have f6:=BN.frozen 6;(simp only[SG]at d0 d1 d2' d3 d4 d5 d6);clear F hq kk BN kn HNM)
      |(go_at_call 35;(with_reducible refine(HNM.out _ G1).mono ?_);rintro e w3 ⟨⟨b2,d2,rfl,hq⟩,F⟩;replace BN:=BN.fr F (fun h=>h);have G3:=G1.trans F;have kk:Kept (fun W=>NameAt W (.slice a1 x.iss.length k1) x.iss∧Bytes W (.slice b2 x.num.size.length d2) x.num.size) (fun k=>(w.heap.size≤k∧k<wr.heap.size)∨k=wr.heap.size) w3:=Kept.both (kn.old F) (hq.weaken (fun k hk=>by rcases hk with hk|hk<;>omega));have hle:wr.heap.size≤wr.heap.size:=Nat.le_refl _
        have HE:=one_put [.slice a1 x.iss.length k1,.bool x.num.below,.slice b2 x.num.size.length d2,.int .i64 x.date,.int .i64 x.reason,.bool false,.int .i64 0] BN rfl G3 (by omega) kk (.inr rfl);(simp only[putL]at HE);have G4:=HE.2.2;have d0:=BN.cell 0;have d1:=BN.cell 1;have d2':=BN.cell 2;have d3:=BN.cell 3;have d4:=BN.cell 4;have d5:=BN.cell 5;have d6:=BN.cell 6;have f0:=BN.frozen 0;have f1:=BN.frozen 1;have f2:=BN.frozen 2;have f3:=BN.frozen 3;have f4:=BN.frozen 4;have f5:=BN.frozen 5;have f6:=BN.frozen 6;(simp only[SG]at d0 d1 d2' d3 d4 d5 d6);clear F hq kk BN kn HNM)
      |(go_at_call 35;(with_reducible refine(HNM.out _ G1).mono ?_);rintro e w3 ⟨⟨b2,d2,rfl,hq⟩,F⟩;have hw3:=F.size;have G3:=G1.trans F;have kk:Kept (fun W=>NameAt W (.slice a1 x.iss.length k1) x.iss∧Bytes W (.slice b2 x.num.size.length d2) x.num.size) (fun k=>w.heap.size≤k∧k<wr.heap.size) w3:=Kept.both (kn.old F) (hq.weaken (fun k hk=>by omega));have hle:wr.heap.size≤w3.heap.size:=by omega
        have HE:=one_new 56 [.slice a1 x.iss.length k1,.bool x.num.below,.slice b2 x.num.size.length d2,.int .i64 x.date,.int .i64 x.reason,.bool false,.int .i64 0] G3 kk (K':=(fun k=>(w.heap.size≤k∧k<wr.heap.size)∨k=w3.heap.size)) (fun k hk=>by rcases hk with hk|hk;exact .inl hk;exact .inr (by omega));have G4:=HE.2.2;have GC:=G3.alloc (.cells #[.slice none 0 0,.bool false,.slice none 0 0,.int .i64 0,.int .i64 0,.bool false,.int .i64 0] 56);clear F hq kk kn HNM GB)
      |fail)
     all_goals
      try clear d0 d1 d2' d3 d4 d5 d6 f0 f1 f2 f3 f4 f5 f6
      have h1:=Hi HE;clear HE G4;go_wp2_with fail
      go_meet
      refine⟨_,a1,k1,b2,d2,rfl,?_,?_⟩
      ·exact hle
      ·with_reducible exact h1.out
    case rest=>
     obtain⟨y,a1,k1,b2,d2,rfl,hy,B5,hk,F5⟩:=hcut
     have HY:=Hi hy;have HB5:=Hi B5;have HK:=Hi hk;have HF5:=Hi F5;obtain⟨e5,-⟩:=HS2.out wc F5
     have hiv:=HVI.out;clear hy B5 hk F5 HS HSH HNM;cases hd:x.inv with
     |none=>
      rw[hd]at hiv
      simp only[InvAt,Value.pointer.injEq]at hiv
      subst hiv;have hkr:=HK.out.imp (fun W g=>show RRef W [.slice a1 x.iss.length k1,.bool x.num.below,.slice b2 x.num.size.length d2,.int .i64 x.date,.int .i64 x.reason,.bool false,.int .i64 0] x from by have:=HRT.out W _ _ g.1 g.2;rw[hd]at this;exact this);have m0:=HB5.out.cell 0;have m1:=HB5.out.cell 1;have m2:=HB5.out.cell 2;have m3:=HB5.out.cell 3;have m4:=HB5.out.cell 4;have m5:=HB5.out.cell 5;have m6:=HB5.out.cell 6;simp only[SG]at m0 m1 m2 m3 m4 m5 m6
      obtain⟨a7,c7,w7,hrun,hrow7,F7,-⟩:=(HRW.out.old HF5.out).add (s:=22) Tryz.underlying22 info56 rfl (by decide) (by decide) (by have:=HSZ.out;have:=(HF5.out).size;omega) ((Fr.refl wc).alloc (.cells [.slice a1 x.iss.length k1,.bool x.num.below,.slice b2 x.num.size.length d2,.int .i64 x.date,.int .i64 x.reason,.bool false,.int .i64 0].toArray 56)) wc.heap.size [.slice a1 x.iss.length k1,.bool x.num.below,.slice b2 x.num.size.length d2,.int .i64 x.date,.int .i64 x.reason,.bool false,.int .i64 0] rfl (Blk.new wc 56 [.slice a1 x.iss.length k1,.bool x.num.below,.slice b2 x.num.size.length d2,.int .i64 x.date,.int .i64 x.reason,.bool false,.int .i64 0].toArray) (by simp[Value.oneCell']) x (hkr.weaken (fun k hk=>by
        rcases hk with hk|hk
        ·exact .inl ⟨by have:=(HRW.out.keep k hk).1;have:=HWS.out;omega,(HRW.out.keep k hk).2⟩
        ·exact .inl ⟨hk.1,by have:=HSZ.out;omega⟩)) (by have:=HGL.out;have:=HLL.out;omega)
      have HRUN:=Hi hrun;have HRW7:=Hi hrow7;have HKP:=Hi HRW.out.keep;have HF7:=Hi ((HF.out.trans (HF5.out)).trans' F7 (fun i hi e=>absurd hi (by have:=(HKP.out i e).1;have:=HWS.out;omega)));have HFS7:=Hi ((HFS.out.trans (HF5.out)).trans' F7 (fun i hi e=>absurd hi (by have:=(HKP.out i e).1;omega)));have HGS7:=Hi (show gs++[x]=l.take (j+1) by rw[HTK.out,HGS.out]);clear hkr hrun hrow7 F7 hd HRT HK;go_wp2_with (at_builtin;refine wpList_append_run (by rfl) (.tmp 50) (.tmp 52) 22 (by rfl) _ w7 (by exact HRUN.out) ?_)
      have hlb:l.length≤1000000:=HLL.out;go_roundg (l.length-(j+1))
      case measure=>rw[HG.out];omega
      case rel=>exact⟨j+1,a7,c7,gs++[x],rfl,by omega,by rw[List.length_append];rfl,by first|go_num|(rw[show wrap64 ((j:Int)+1)=((j+1:Nat):Int) from by unfold wrap64;omega])|fail,by rw[List.length_append,HGL.out];rfl,HGS7,Hi (by rw[List.length_append];exact HRW7.out),HF7,HFS7⟩
     |some t=>
      rw[hd]at hiv
      obtain⟨bq,oq,hq,hcq0⟩:=hiv
      have hlq:bq<w.heap.size:=World.block_lt_of_cell? w _ hcq0;have hcq:=(HF.out.trans HF5.out).cell hcq0 (fun h=>h);simp only[Value.pointer.injEq]at hq
      subst hq;have hyw:=HY.out;have hww:=HWR.out;have hcs:=(Fr.setCell (S:=fun k=>k=y) (p:=⟨y,5,none⟩) (Fr.refl wc) (fun _=>rfl) (.bool true)).cell hcq (by show ¬bq=y;omega);have hcs2:((wc.setCell ⟨y,5,none⟩ (.bool true)).drew).cell? ⟨bq,oq,none⟩=some (.int .i64 t):=hcs;have e5s:=(Fr.setCell (S:=fun k=>k=y) (p:=⟨y,5,none⟩) (Fr.refl wc) (fun _=>rfl) (.bool true)).cell e5 (by show ¬b=y;have:=HLOW.out;omega);have m5:=HB5.out.drew.cell 5;have m6:=HB5.out.drew.cell 6;have f5:=HB5.out.drew.frozen 5;have f6:=HB5.out.drew.frozen 6;have g5:=HB5.out.frozen 5;have g6:=HB5.out.frozen 6;have n5:=HB5.out.cell 5
      have n6:=HB5.out.cell 6;simp only[SG]at m5 m6 n5 n6
      have e5d:wc.drew.cell? ⟨b,o+j*6+5,none⟩=some (.pointer (some ⟨bq,oq,none⟩)):=e5;have hcd:wc.drew.cell? ⟨bq,oq,none⟩=some (.int .i64 t):=hcq;have FE:Fr (fun k=>k=y) wc ((wc.setCell ⟨y,5,none⟩ (.bool true)).setCell ⟨y,6,none⟩ (.int .i64 t)).drew:=((Fr.setCell (S:=fun k=>k=y) (p:=⟨y,5,none⟩) (Fr.refl wc) (fun _=>rfl) (.bool true)).setCell (p:=⟨y,6,none⟩) (fun _=>rfl) (.int .i64 t)).drew
      have M5s:Blk ((wc.setCell ⟨y,5,none⟩ (.bool true)).setCell ⟨y,6,none⟩ (.int .i64 t)).drew y 56 #[.slice a1 x.iss.length k1,.bool x.num.below,.slice b2 x.num.size.length d2,.int .i64 x.date,.int .i64 x.reason,.bool true,.int .i64 t]:=((HB5.out.set 5 (.bool true)).set 6 (.int .i64 t)).drew;have hke:Kept (fun W=>RRef W [.slice a1 x.iss.length k1,.bool x.num.below,.slice b2 x.num.size.length d2,.int .i64 x.date,.int .i64 x.reason,.bool true,.int .i64 t] x) (fun k=>(w.heap.size≤k∧k<wr.heap.size)∨k=y) ((wc.setCell ⟨y,5,none⟩ (.bool true)).setCell ⟨y,6,none⟩ (.int .i64 t)).drew:=
       (HK.out.step FE (K':=(fun k=>(w.heap.size≤k∧k<wr.heap.size)∨k=y)) (fun k _ e=>.inr e) (fun k hk=>.inl hk)).imp (fun W g=>by have:=HRT.out W _ _ g.1 g.2;rw[hd]at this;exact this)
      have hfe:Fz wr ((wc.setCell ⟨y,5,none⟩ (.bool true)).setCell ⟨y,6,none⟩ (.int .i64 t)).drew:=HF5.out.trans' FE (fun i hi e=>by have e2:i=y:=e;omega);have HKE:=Hi hke;have HFE:=Hi hfe;have HM:=Hi M5s;clear hke hfe FE M5s hyw hd HRT HK;go_upto_region 7 with fail
      go_region_law fail
      all_goals
       clear m5 m6 f5 f6 g5 g6 n5 n6 e5d hcd hcs hcs2 e5s e5 hcq hcq0 hlq;generalize ((wc.setCell ⟨y,5,none⟩ (.bool true)).setCell ⟨y,6,none⟩ (.int .i64 t)).drew=we at *
       have m0:=HM.out.cell 0;have m1:=HM.out.cell 1;have m2:=HM.out.cell 2;have m3:=HM.out.cell 3;have m4:=HM.out.cell 4;have m5:=HM.out.cell 5;have m6:=HM.out.cell 6;simp only[SG]at m0 m1 m2 m3 m4 m5 m6
       obtain⟨a7,c7,w7,hrun,hrow7,F7,-⟩:=(HRW.out.old HFE.out).add (s:=22) Tryz.underlying22 info56 rfl (by decide) (by decide) (by have:=HSZ.out;have:=(HFE.out).size;omega) ((Fr.refl we).alloc (.cells [.slice a1 x.iss.length k1,.bool x.num.below,.slice b2 x.num.size.length d2,.int .i64 x.date,.int .i64 x.reason,.bool true,.int .i64 t].toArray 56)) we.heap.size [.slice a1 x.iss.length k1,.bool x.num.below,.slice b2 x.num.size.length d2,.int .i64 x.date,.int .i64 x.reason,.bool true,.int .i64 t] rfl (Blk.new we 56 [.slice a1 x.iss.length k1,.bool x.num.below,.slice b2 x.num.size.length d2,.int .i64 x.date,.int .i64 x.reason,.bool true,.int .i64 t].toArray) (by simp[Value.oneCell']) x (HKE.out.weaken (fun k hk=>by
         rcases hk with hk|hk
         ·exact .inl ⟨by have:=(HRW.out.keep k hk).1;have:=HWS.out;omega,(HRW.out.keep k hk).2⟩
         ·exact .inl ⟨hk.1,by have:=HSZ.out;omega⟩)) (by have:=HGL.out;have:=HLL.out;omega)
       have HRUN:=Hi hrun;have HRW7:=Hi hrow7;have HKP:=Hi HRW.out.keep;have HF7:=Hi ((HF.out.trans (HFE.out)).trans' F7 (fun i hi e=>absurd hi (by have:=(HKP.out i e).1;have:=HWS.out;omega)));have HFS7:=Hi ((HFS.out.trans (HFE.out)).trans' F7 (fun i hi e=>absurd hi (by have:=(HKP.out i e).1;omega)));have HGS7:=Hi (show gs++[x]=l.take (j+1) by rw[HTK.out,HGS.out]);clear hrun hrow7 F7;go_wp2_with (at_builtin;refine wpList_append_run (by rfl) (.tmp 50) (.tmp 52) 22 (by rfl) _ w7 (by exact HRUN.out) ?_)
       have hlb:l.length≤1000000:=HLL.out;go_roundg (l.length-(j+1))
       case measure=>rw[HG.out];omega
       case rel=>exact⟨j+1,a7,c7,gs++[x],rfl,by omega,by rw[List.length_append];rfl,by first|go_num|(rw[show wrap64 ((j:Int)+1)=((j+1:Nat):Int) from by unfold wrap64;omega])|fail,by rw[List.length_append,HGL.out];rfl,HGS7,Hi (by rw[List.length_append];exact HRW7.out),HF7,HFS7⟩
  ·have HE:=Hi (show gs=l by rw[HGS.out,List.take_of_length_le (by omega)])
   clear hgl;go_wp2_with fail
   go_ret;have hx:=HRW.out;rw[HE.out]at hx ⊢
   exact⟨⟨a,c,rfl,hx⟩,HFS.out⟩
theorem ofRows_any (v:Value)(l:List RowP)(w:World)(h:Go.Q.Rows w v l)(hf:∀ r∈l,fitN r.iss)(hl:l.length≤1000000) :
  Calls Tryz.prog 9 #[v] w fun e w'=>(∃ a c,e=.returned (.slice a l.length c)∧Refs w' (.slice a l.length c) l)∧Fz w w':=by
 refine(ofRowsK_any v l w w h (Fr.refl w) hf hl).mono ?_
 rintro e w' ⟨⟨a,c,he,hr⟩,F⟩;exact⟨⟨a,c,he,hr.at (by decide)⟩,F⟩
end Go.Proofs.YtehlipgmkinfbaaGreatDoor
