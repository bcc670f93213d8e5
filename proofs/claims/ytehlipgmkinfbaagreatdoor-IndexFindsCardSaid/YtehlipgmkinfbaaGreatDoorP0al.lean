/-
  Merged by program: XR06R XR08 XR02 XR04D XNameOf XNConcat XNTexts.
-/
import Derived.Test.YtehlipgmkinfbaaGreatDoorP0ak
import Derived.Test.YtehlipgmkinfbaaGreatDoorP0ai
import Derived.Lib.AppendZerosOnto
import Derived.Lib.Walk
set_option linter.unusedSimpArgs false
set_option maxRecDepth 100000
set_option maxHeartbeats 8000000
namespace Go.Q
open Go Go.RowKit
theorem Vals.part {w:World}{a:Option Addr}{m cap:Nat}{l:List UInt8}(h:Bytes w (.slice a m cap) l)(i n:Nat)(hij:i+n≤l.length)(a':Option Addr)(cap':Nat)(ha:0<n→∀ b o,a=some ⟨b,o,none⟩→a'=some ⟨b,o+i,none⟩)(hc:n≤cap')(hm:cap'≤maxLen):Bytes w (.slice a' n cap') ((l.drop i).take n):=by
 obtain⟨a0,c0,he,-⟩:=Vals.form h
 simp only[Value.slice.injEq]at he
 obtain⟨rfl,rfl,rfl⟩:=he
 have:=Vals.sub h i (i+n) (by omega) hij a' cap' (fun h0=>ha (by omega)) (by omega) hm;rw[show i+n-i=n from by omega]at this
 unfold Bytes Lib.byteCells;rw[List.map_take,List.map_drop]
 exact this
open Go
theorem one_err {l:List UInt8}{e:Int}(h:readS l=.error e):oneS l=.error e:=by unfold oneS;rw[h]
theorem one_end {l:List UInt8}{t:Tag}{n k:Nat}(h:readS l=.ok (t,n,k))(hn:l.length-k<n):oneS l=.error 3:=by unfold oneS;rw[h];exact if_pos hn
theorem one_ok {l:List UInt8}{t:Tag}{n k:Nat}(h:readS l=.ok (t,n,k))(hn:¬l.length-k<n):oneS l=.ok (t,k,k+n):=by unfold oneS;rw[h];exact if_neg hn
def NmRow (w:World)(base:Nat)(v:Value)(n:List (List Part)):Prop:=
 ∃ us:List Value,w.ownsRow base 100 1 v n.length us∧us.length=n.length∧∀ (i:Nat) (u:Value) (r:List Part),us[i]? = some u→n[i]? = some r→Kept (fun W=>Attrs W u r) (fun k=>v.ownBlock=some k) w
theorem NmRow.at {w:World}{base:Nat}{v:Value}{n:List (List Part)}(h:NmRow w base v n):NameAt w v n:=by
 obtain⟨us,h1,h2,h3⟩:=h
 obtain⟨a,cap,he,hc,hm,hx⟩:=(Vals.of_own h1).1
 rw[h2]at he hc hx
 refine⟨a,cap,he,hc,hm,fun h0=>?_⟩
 obtain⟨b,o,rfl,hy⟩:=hx h0
 refine⟨b,o,rfl,fun i r hr=>?_⟩
 have hi:i<us.length:=by rw[h2];exact(List.getElem?_eq_some_iff.1 hr).1
 exact⟨us[i],hy i _ (List.getElem?_eq_getElem hi),(h3 i _ r (List.getElem?_eq_getElem hi) hr).now⟩
theorem NmRow.old {w w':World}{base:Nat}{v:Value}{n:List (List Part)}(h:NmRow w base v n)(f:Fz w w'):NmRow w' base v n:=by
 obtain⟨us,h1,h2,h3⟩:=h
 exact⟨us,Go.Proofs.YtehlipgmkinfbaaGreatDoor.ownsRow_fr h1 f (fun _ _ h=>h),h2,fun i u r hu hr=>(h3 i u r hu hr).old f⟩
theorem NmRow.kept {w:World}{base:Nat}{v:Value}{n:List (List Part)}(h:NmRow w base v n):∀ k,v.ownBlock=some k→base≤k∧k<w.heap.size:=by
 obtain⟨us,h1,-⟩:=h
 exact(Vals.of_own h1).2
theorem NmRow.shape {w:World}{base:Nat}{v:Value}{n:List (List Part)}(h:NmRow w base v n):∃ a c,v=.slice a n.length c:=by
 obtain⟨us,h1,-⟩:=h
 obtain⟨a,m,c,rfl,rfl⟩:=own_shape h1
 exact⟨a,c,rfl⟩
theorem Attrs.form {w:World}{v:Value}{l:List Part}(h:Attrs w v l):∃ a cap,v=.slice a l.length cap:=by
 obtain⟨a,cap,rfl,-⟩:=h
 exact⟨a,cap,rfl⟩
theorem NmRow.nil (w:World)(base:Nat):NmRow w base (.slice none 0 0) []:=⟨[],⟨rfl,.inl ⟨rfl,rfl⟩⟩,rfl,fun i u r h=>by simp at h⟩
def stepsOfS:List (List UInt8)→Option (List (List Part))
 | []=>some []
 |s::t=>match stepS s with
  |none=>none
  |some p=>(stepsOfS t).map ([p]::·)
def nameOfS (l:List (List UInt8)):Except Int (List (List Part)):=
 match stepsOfS l with
 |none=>.error 6
 |some n=>if 64<n.length then .error 2 else .ok n
theorem stepsOf_next {ps:List (List UInt8)}{os:List (List Part)}{j:Nat}{s:List UInt8}{p:Part}(hR:stepsOfS ps=(stepsOfS (ps.drop j)).map (os++·))(hp:ps[j]? = some s)(hn:stepS s=some p):stepsOfS ps=(stepsOfS (ps.drop (j+1))).map ((os++[[p]])++·):=by
 have hd:ps.drop j=s::ps.drop (j+1):=by
  obtain⟨h,rfl⟩:=List.getElem?_eq_some_iff.1 hp
  exact List.drop_eq_getElem_cons h
 rw[hR,hd]
 simp only[stepsOfS,hn,Option.map_map]
 congr 1
 funext y
 simp
theorem stepsOf_none {ps:List (List UInt8)}{os:List (List Part)}{j:Nat}{s:List UInt8}(hR:stepsOfS ps=(stepsOfS (ps.drop j)).map (os++·))(hp:ps[j]? = some s)(hn:stepS s=none):stepsOfS ps=none:=by
 have hd:ps.drop j=s::ps.drop (j+1):=by
  obtain⟨h,rfl⟩:=List.getElem?_eq_some_iff.1 hp
  exact List.drop_eq_getElem_cons h
 rw[hR,hd]
 simp only[stepsOfS,hn,Option.map_none]
def cmpI:List Int→List Int→Int
 | [],[]=>0
 | [],_::_=>-1
 |_::_,[]=>1
 |x::s,y::t=>if x<y then -1 else if y<x then 1 else cmpI s t
theorem cmpI_zero:∀ (s t:List Int),cmpI s t=0↔s=t
 | [],[]=>by simp[cmpI]
 | [],_::_=>by simp[cmpI]
 |_::_,[]=>by simp[cmpI]
 |x::s,y::t=>by
  have ih:=cmpI_zero s t;unfold cmpI;split
  ·simp;intro h;omega
  ·split
   ·simp;intro h;omega
   ·rw[ih]
    simp
    intro _;omega
theorem cmpI_drop {o p:List Int}{j:Nat}{x y:Int}(hx:o[j]? = some x)(hy:p[j]? = some y):cmpI (o.drop j) (p.drop j)=if x<y then -1 else if y<x then 1 else cmpI (o.drop (j+1)) (p.drop (j+1)):=by
 have h1:o.drop j=x::o.drop (j+1):=by
  obtain⟨h,rfl⟩:=List.getElem?_eq_some_iff.1 hx
  exact List.drop_eq_getElem_cons h
 have h2:p.drop j=y::p.drop (j+1):=by
  obtain⟨h,rfl⟩:=List.getElem?_eq_some_iff.1 hy
  exact List.drop_eq_getElem_cons h
 rw[h1,h2]
 rfl
def partTextS (ks:List Int)(p:Part):Option (List UInt8):=
 if ks≠[]∧p.o≠ks then none else match textReadS p.b with
  |.ok (k,t,_)=>some (utf8S k t)
  |.error _=>none
def textsS (n:List (List Part))(ks:List Int):List (List UInt8):=if nameOk n=true then n.flatten.filterMap (partTextS ks) else []
end Go.Q
namespace Go.Proofs.YtehlipgmkinfbaaGreatDoor
open Go Go.RowKit Go.Q
def RTextOut (wb:World)(l:List UInt8)(p:Nat)(e:Ending):Prop:=
 match textReadS (l.drop p) with
 |.error x=>e=.returned (.tuple #[.agg #[.int .i64 0,.slice none 0 0],.int .i64 p,.int .i64 x])
 |.ok (k,b,n)=>∃ u,e=.returned (.tuple #[.agg #[.int .i64 k,u],.int .i64 ((p+n:Nat):Int),.int .i64 0])∧Bytes wb u b
theorem r06Read_any (v:Value)(l:List UInt8)(p:Nat)(wb w:World)(hb:Bytes wb v l)(Fb:Fz wb w)(hp:p≤l.length)(hl:l.length≤16777216) :
  Calls Tryz.prog 157 #[v,.int .i64 p,.slice none 0 0] w fun e w'=>RTextOut wb l p e∧Fz w w':=by
 have h:=hb.old Fb;have HBB:=Hi hb;clear hb Fb;obtain⟨a,cap,rfl,hcap,hcm,hx⟩:=h.form
 obtain⟨z,hz⟩:∃ z,z=w.heap.size:=⟨_,rfl⟩
 have BZ:=Blk.new w 188 #[.int .i64 0,.slice none 0 0];have F0:Fz w (w.alloc (.cells #[.int .i64 0,.slice none 0 0] 188)):=(Fr.refl w).alloc _;rw[←hz]at BZ
 have hzw:∀ k,k<w.heap.size→k=z→False:=fun k hk e=>by omega
 have HZ:=Hi hz;have HT:=Hi (r02Read_any _ l p _ (h.old F0) hp (by omega));have HB:=Hi h;have HF0:=Hi F0;have HZW:=Hi hzw;have HX:=Hi hx;have hR:textReadS (l.drop p)=match readS (l.drop p) with
  |.error e=>.error e
  |.ok (t,n,k)=>if t.cls≠0∨t.made=true∨Go.Q.kindOk t.num=false then .error 4 else if (l.drop p).length-k<n then .error 3 else
   if rightS t.num (((l.drop p).drop k).take n)=true then .ok (t.num,((l.drop p).drop k).take n,k+n) else .error 6:=rfl
 have HR:=Hi hR;clear h hx hz F0 hzw hR;go_enter Tryz.func157,Tryz.ntmps157
 go_upto_region 1 with fail
 rw[←HZ.out]
 generalize (w.alloc (.cells #[.int .i64 0,.slice none 0 0] 188))=w0 at *
 go_wp2_with fail
 refine HT.out.mono ?_;rintro e w1 ⟨rfl,F⟩;replace BZ:=BZ.fr F (fun h=>h);have HF:=Hi (HF0.out.trans F);clear F HF0 HT;cases ht:readS (l.drop p) with
 |error e=>
  have he:e≠0:=readS_err ht;have he1:(e==0)=false:=beq_eq_false_iff_ne.2 he;have he2:(e != 0)=true:=by simpa using he
  have hres:textReadS (l.drop p)=.error e:=by rw[HR.out,ht]
  have HRES:=Hi hres;clear ht hres he;rw[show rReadV p (.error e)=.tuple #[.agg #[.int .i64 0,.int .i64 0,.bool false],.int .i64 0,.int .i64 p,.int .i64 e] from rfl]
  go_upto_region 2 with fail
  have F1:Fz w1 (w1.alloc (.cells #[.int .i64 0,.int .i64 0,.bool false] 184)):=(Fr.refl w1).alloc _;replace BZ:=BZ.fr F1 (fun h=>h);have HF1:=Hi (HF.out.trans F1);clear F1 HF;generalize (w1.alloc (.cells #[.int .i64 0,.int .i64 0,.bool false] 184))=w2 at *
  have SZ:=BZ.cell;have ZZ:=BZ.frozen;go_wp2_with fail
  obtain⟨B5,F5⟩:=set2 BZ (.int .i64 0) (.slice none 0 0)
  generalize ((w2.setCell ⟨z,0,none⟩ (.int .i64 0)).setCell ⟨z,1,none⟩ (.slice none 0 0))=w5 at *
  have n0:=B5.cell 0;have n1:=B5.cell 1;simp at n0 n1
  refine bodyPost_ret (v:=.tuple #[.agg #[.int .i64 0,.slice none 0 0],.int .i64 p,.int .i64 e]) (by simp[results,Tryz.results157,go_sem,n0,n1]) rfl ?_;exact⟨by unfold RTextOut;rw[HRES.out],HF1.out.trans' F5 HZW.out⟩
 |ok tnk=>
  obtain⟨⟨c1,c2,c3⟩,n,k⟩:=tnk
  rw[show rReadV p (.ok (⟨c1,c2,c3⟩,n,k))=.tuple #[.agg #[.int .i64 c1,.int .i64 c2,.bool c3],.int .i64 n,.int .i64 ((p+k:Nat):Int),.int .i64 0] from rfl]
  have hk:=(readS_le ht).1;rw[List.length_drop]at hk
  generalize hq:p+k=q at *
  have hres:textReadS (l.drop p)=if c1≠0∨c3=true∨Go.Q.kindOk c2=false then .error 4 else if l.length-q<n then .error 3 else
   if rightS c2 ((l.drop q).take n)=true then .ok (c2,(l.drop q).take n,k+n) else .error 6:=by
   rw[HR.out,ht]
   simp only[List.length_drop,List.drop_drop,hq,Nat.sub_sub]
  have HRES:=Hi hres;have hq1:q≤l.length:=by omega
  have hnl:=(readS_le ht).2;clear ht hres;go_upto_region 2 with fail
  have F1:Fz w1 (w1.alloc (.cells #[.int .i64 c1,.int .i64 c2,.bool c3] 184)):=(Fr.refl w1).alloc _;obtain⟨d,hd⟩:∃ d,d=w1.heap.size:=⟨_,rfl⟩
  have BD:=Blk.new w1 184 #[.int .i64 c1,.int .i64 c2,.bool c3];rw[←hd]at BD ⊢
  replace BZ:=BZ.fr F1 (fun h=>h);have HF1:=Hi (HF.out.trans F1);clear F1 HF hd;generalize (w1.alloc (.cells #[.int .i64 c1,.int .i64 c2,.bool c3] 184))=w2 at *
  have SZ:=BZ.cell;have ZZ:=BZ.frozen;have SD:=BD.cell;go_wp2_with fail
  refine(r06Kind_any c2 w2).mono ?_
  rintro e w' ⟨rfl,rfl⟩;obtain⟨K,hK⟩:∃ K,K=Go.Q.kindOk c2:=⟨_,rfl⟩
  rw[←hK]at HRES ⊢
  clear hK;go_wp2_with fail
  go_loopg [13,14] 1 (fun g ok i wr=>g=1∧ok=.bool K∧i=.int .i64 0∧wr=w2)
  case atStart=>exact⟨rfl,rfl,rfl,rfl⟩
  case round=>
   obtain⟨-,rfl,rfl,rfl⟩:=hrel
   by_cases hbad:c1≠0∨c3=true∨K=false
   ·have hE:textReadS (l.drop p)=.error 4:=by rw[HRES.out,if_pos hbad]
    have HE:=Hi hE;clear hE HRES;have hc:K=false∨(K=true∧(c1==0)=false∧(c1 != 0)=true)∨(K=true∧(c1==0)=true∧(c1 != 0)=false∧c3=true):=by
     cases K with
     |false=>exact .inl rfl
     |true=>
      by_cases h1:c1=0
      ·subst h1
       refine .inr (.inr ⟨rfl,rfl,rfl,?_⟩);simpa using hbad
      ·exact .inr (.inl ⟨rfl,beq_eq_false_iff_ne.2 h1,by simpa using h1⟩)
    clear hbad;rcases hc with rfl|⟨rfl,g1,g2⟩|⟨rfl,g1,g2,rfl⟩
    all_goals
     go_wp2_with fail
     obtain⟨B5,F5⟩:=set2 BZ (.int .i64 0) (.slice none 0 0)
     generalize ((wr.setCell ⟨z,0,none⟩ (.int .i64 0)).setCell ⟨z,1,none⟩ (.slice none 0 0))=w5 at *
     have n0:=B5.cell 0;have n1:=B5.cell 1;simp at n0 n1
     refine bodyPost_ret (v:=.tuple #[.agg #[.int .i64 0,.slice none 0 0],.int .i64 p,.int .i64 4]) (by simp[results,Tryz.results157,go_sem,n0,n1]) rfl ?_;exact⟨by unfold RTextOut;rw[HE.out],HF1.out.trans' F5 HZW.out⟩
   ·have hc:c1=0∧c3=false∧K=true:=by
     refine⟨Classical.byContradiction fun h=>hbad (.inl h),?_,?_⟩
     ·cases c3 with
      |false=>rfl
      |true=>exact absurd (.inr (.inl rfl)) hbad
     ·cases K with
      |true=>rfl
      |false=>exact absurd (.inr (.inr rfl)) hbad
    obtain⟨rfl,rfl,rfl⟩:=hc
    have hres:=HRES.out;rw[if_neg hbad]at hres
    have HRES2:=Hi hres;clear HRES hres hbad;by_cases h3:l.length-q<n
    ·have q3:(l.length:Int)-(q:Int)<(n:Int):=by omega
     have hE:textReadS (l.drop p)=.error 3:=by rw[HRES2.out,if_pos h3]
     have HE:=Hi hE;clear hE HRES2;go_wp2_with fail
     obtain⟨B5,F5⟩:=set2 BZ (.int .i64 0) (.slice none 0 0)
     generalize ((wr.setCell ⟨z,0,none⟩ (.int .i64 0)).setCell ⟨z,1,none⟩ (.slice none 0 0))=w5 at *
     have n0:=B5.cell 0;have n1:=B5.cell 1;simp at n0 n1
     refine bodyPost_ret (v:=.tuple #[.agg #[.int .i64 0,.slice none 0 0],.int .i64 p,.int .i64 3]) (by simp[results,Tryz.results157,go_sem,n0,n1]) rfl ?_;exact⟨by unfold RTextOut;rw[HE.out],HF1.out.trans' F5 HZW.out⟩
    ·have q3:¬(l.length:Int)-(q:Int)<(n:Int):=by omega
     have hres:=HRES2.out;rw[if_neg h3]at hres
     have HRES:=Hi hres;have r1:(0:Int)≤(q:Int):=by omega
     obtain⟨sm,hsm⟩:∃ sm,sm=q+n:=⟨_,rfl⟩
     have hsi:(q:Int)+(n:Int)=(sm:Int):=by omega
     have hwi:IntKind.i64.wrap (sm:Int)=(sm:Int):=by simp[IntKind.wrap,IntKind.signed,IntKind.bits];omega
     have r2:(q:Int)≤(sm:Int):=by omega
     have r2N:q≤sm:=by omega
     have r3:(sm:Int)≤(cap:Int):=by omega
     have r3N:sm≤cap:=by omega
     have r4:(0:Int)≤(sm:Int):=by omega
     have HSM:=Hi hsm;have hcm2:cap≤9223372036854775807:=by unfold maxLen at hcm;omega
     clear hres HRES2 hsm;go_upto_region 13 with fail
     have hcapq:(cap-q:Nat)≤maxLen:=by omega
     obtain⟨A,hA⟩:∃ A,A=(if cap=q then a else Option.map (fun x=>x.add q) a):=⟨_,rfl⟩
     have hA2:0<n→∀ b o,a=some ⟨b,o,none⟩→A=some ⟨b,o+q,none⟩:=fun h0 b o e=>by
      subst e;rw[hA,if_neg (by omega)]
      show some ((⟨b,o,none⟩:Addr).add q)=_
      congr 1
      unfold Addr.add;split<;>simp_all
     have hsn:sm-q=n:=by have:=HSM.out;omega
     have hVB:=Vals.part HB.out q n (by omega) A (cap-q) hA2 (by have:=HSM.out;omega) hcapq;have hVW:=Vals.part HBB.out q n (by omega) A (cap-q) hA2 (by have:=HSM.out;omega) hcapq;have HVW:=Hi hVW;have HVO:=Hi hVB.lt;have HVB:=Hi (hVB.old HF1.out);have HA:=Hi hA;obtain⟨cp,hcp⟩:∃ cp,cp=cap-q:=⟨_,rfl⟩
     rw[←hcp]at HVB HVO HVW
     have HCP:=Hi hcp;have HSN:=Hi hsn;clear hA hA2 hVB hVW hcapq hcp hsn;go_cut [15] from 76 to 84 (fun s wc=>s=pt wr.heap.size∧wc=(wr.alloc (.cells #[.int .i64 c2,.slice A n cp] 188)).drew)
     case first=>
      have SD:=BD.drew.cell;have SD2:=(BD.alloc (.cells #[.int .i64 0,.slice none 0 0] 188)).cell;have hA2:=HA.out.symm;have hcp2:=HCP.out.symm;have hsn2:=HSN.out;go_region_law fail
      all_goals
       go_wp2_with fail
       go_meet
       first|exact⟨rfl,rfl⟩|exact⟨rfl,by rw[HA.out,HCP.out]⟩
     case rest=>
      obtain⟨rfl,rfl⟩:=hcut
      obtain⟨tb,htb⟩:∃ tb,tb=wr.heap.size:=⟨_,rfl⟩
      have BT:=(Blk.new wr 188 #[.int .i64 c2,.slice A n cp]).drew;have F6:Fz wr (wr.alloc (.cells #[.int .i64 c2,.slice A n cp] 188)).drew:=((Fr.refl wr).alloc _).drew;rw[←htb]at BT ⊢
      have BZ4:=BZ.fr F6 (fun h=>h);have HV4:=Hi (HVB.out.old F6);have HF6:=Hi (HF1.out.trans F6);clear F6 htb HVB HF1;generalize (wr.alloc (.cells #[.int .i64 c2,.slice A n cp] 188)).drew=w4 at *
      obtain⟨C,hC⟩:∃ C,C=(l.drop q).take n:=⟨_,rfl⟩
      have hCl:C.length=n:=by rw[hC,List.length_take,List.length_drop];omega
      rw[←hC]at HV4 HRES HVO HVW
      have hS:=r06Signs_any c2 _ C w4 HV4.out (by omega);unfold RSigOut at hS;have HS:=Hi hS;have t0:=BT.cell 0;have t1:=BT.cell 1;simp only[SG]at t0 t1
      clear hC hS;go_wp2_with fail
      refine HS.out.mono ?_;rintro e w6 ⟨v6,rfl,-,F7⟩;have BZ6:=BZ4.fr F7 (fun h=>h);have BT6:=BT.fr F7 (fun h=>h);have HF7:=Hi (HF6.out.trans F7);have HV6:=Hi (HV4.out.old F7);clear t0 t1 F7 HS;have t0:=BT6.cell 0;have t1:=BT6.cell 1;simp only[SG]at t0 t1
      have SZ:=BZ6.cell;have ZZ:=BZ6.frozen;rw[sigR_iff]
      by_cases hr:rightS c2 C=true
      ·have hres:=HRES.out
       rw[if_pos hr]at hres
       have HE:=Hi hres;rw[if_pos hr]
       rw[Option.isSome_some]
       clear hres hr;go_wp2_with fail
       obtain⟨B5,F5⟩:=set2 BZ6 (.int .i64 c2) (.slice A n cp)
       generalize ((w6.setCell ⟨z,0,none⟩ (.int .i64 c2)).setCell ⟨z,1,none⟩ (.slice A n cp))=w5 at *
       have n0:=B5.cell 0;have n1:=B5.cell 1;simp at n0 n1
       refine bodyPost_ret (v:=.tuple #[.agg #[.int .i64 c2,.slice A n cp],.int .i64 sm,.int .i64 0]) (by simp[results,Tryz.results157,go_sem,n0,n1]) rfl ?_;refine⟨?_,HF7.out.trans' F5 HZW.out⟩
       unfold RTextOut;rw[HE.out]
       refine⟨_,by rw[show ((p+(k+n):Nat):Int)=(sm:Int) from by have:=HSM.out;omega],?_⟩
       exact HVW.out
      ·have hres:=HRES.out
       rw[if_neg hr]at hres
       have HE:=Hi hres;rw[if_neg hr]
       rw[Option.isSome_none]
       clear hres hr;go_wp2_with fail
       obtain⟨B5,F5⟩:=set2 BZ6 (.int .i64 0) (.slice none 0 0)
       generalize ((w6.setCell ⟨z,0,none⟩ (.int .i64 0)).setCell ⟨z,1,none⟩ (.slice none 0 0))=w5 at *
       have n0:=B5.cell 0;have n1:=B5.cell 1;simp at n0 n1
       refine bodyPost_ret (v:=.tuple #[.agg #[.int .i64 0,.slice none 0 0],.int .i64 p,.int .i64 6]) (by simp[results,Tryz.results157,go_sem,n0,n1]) rfl ?_;exact⟨by unfold RTextOut;rw[HE.out],HF7.out.trans' F5 HZW.out⟩
theorem r08Wholes_any (v:Value)(l:List UInt8)(w:World)(h:Bytes w v l)(hl:l.length≤16777216) :
  Calls Tryz.prog 116 #[v,.int .i64 0] w fun e w'=>wholesOut (allS l) e∧Fz w w':=by
 obtain⟨a,cap,rfl,hcap,hcm,-⟩:=h.form
 have H:=Hi h;have hcm2:cap≤9223372036854775807:=by unfold maxLen at hcm;omega
 clear h;go_enter Tryz.func116,Tryz.ntmps116
 go_wp2_with fail
 go_loopg [1,6] l.length (fun g pp ls wr=>∃ (q:Nat) (a2:Option Addr) (m c2:Nat) (xs:List Value),g=l.length-q∧q≤l.length∧m≤q∧pp=.int .i64 q∧ls=.slice a2 m c2∧wr.ownsRow w.heap.size 38 1 (.slice a2 m c2) m xs∧Fz w wr∧(∀ e,allS (l.drop q)=.error e→allS l=.error e)∧(∀ ls,allS (l.drop q)=.ok ls→∃ ls',allS l=.ok ls'∧ls'.length=m+ls.length))
 case atStart=>exact⟨0,none,0,0,[],rfl,Nat.zero_le _,Nat.le_refl _,rfl,rfl,⟨rfl,.inl ⟨rfl,rfl⟩⟩,Fr.refl _,fun e h=>h,fun ls h=>⟨ls,h,by omega⟩⟩
 case round=>
  obtain⟨q,a2,m,c2,xs,hg,hq,hmq,rfl,rfl,ho,F,hE,hO⟩:=hrel
  have HG:=Hi hg;have HE:=Hi hE;have HO:=Hi hO;have HOW:=Hi ho;have HF:=Hi F;have hv:=Hi (Vals.of_own ho).2;clear hg hE hO ho F;by_cases hql:q<l.length
  ·have q1:(q:Int)<(l.length:Int):=by omega
   have hne:l.drop q≠[]:=fun e=>by have:=drop_nil e;omega
   have HNE:=Hi hne;have HR:=Hi (r02Read_any _ l q wr (H.out.old HF.out) hq (by omega));clear hne;go_wp2_with fail
   refine HR.out.mono ?_;rintro e w2 ⟨rfl,F2⟩;have HOW2:=Hi (ownsRow_fr HOW.out F2 (fun _ _ h=>h));have HF2:=Hi (HF.out.trans F2);clear HR HOW HF F2;cases hr:readS (l.drop q) with
   |error x=>
    have hx:x≠0:=readS_err hr;have hx1:(x==0)=false:=beq_eq_false_iff_ne.2 hx;have hx2:(x != 0)=true:=by simpa using hx
    have hA:=Hi (HE.out x (allS_err HNE.out (one_err hr)));rw[show rReadV q (.error x)=.tuple #[.agg #[.int .i64 0,.int .i64 0,.bool false],.int .i64 0,.int .i64 q,.int .i64 x] from rfl]
    clear hr hx;go_wp2_with fail
    refine bodyPost_ret (v:=.tuple #[.slice none 0 0,.int .i64 x]) (by simp[results,Tryz.results116,go_sem]) rfl ⟨?_,HF2.out.alloc _⟩;rw[hA.out]
    rfl
   |ok tnk=>
    obtain⟨⟨t1,t2,t3⟩,n,k⟩:=tnk
    rw[show rReadV q (.ok (⟨t1,t2,t3⟩,n,k))=.tuple #[.agg #[.int .i64 t1,.int .i64 t2,.bool t3],.int .i64 n,.int .i64 ((q+k:Nat):Int),.int .i64 0] from rfl]
    have hk:=(readS_le hr).1;have hn16:=(readS_le hr).2;have hkp:=readS_pos hr;rw[List.length_drop]at hk
    by_cases h3:(l.drop q).length-k<n
    ·have hA:=Hi (HE.out 3 (allS_err HNE.out (one_end hr h3)))
     rw[List.length_drop]at h3
     obtain⟨s,hs⟩:∃ s,s=q+k:=⟨_,rfl⟩
     rw[←hs]
     have q3:(l.length:Int)-(s:Int)<(n:Int):=by omega
     have hsl:s≤l.length:=by omega
     clear hr hs;go_wp2_with fail
     refine bodyPost_ret (v:=.tuple #[.slice none 0 0,.int .i64 3]) (by simp[results,Tryz.results116,go_sem]) rfl ⟨?_,HF2.out.alloc _⟩;rw[hA.out]
     rfl
    ·have hA:=Hi (allS_ok HNE.out (one_ok hr h3))
     rw[List.length_drop]at h3
     obtain⟨s,hs⟩:∃ s,s=q+k:=⟨_,rfl⟩
     rw[←hs]
     obtain⟨r,hrr⟩:∃ r,r=s+n:=⟨_,rfl⟩
     have q3:¬(l.length:Int)-(s:Int)<(n:Int):=by omega
     have hsl:s≤l.length:=by omega
     have hsi:(s:Int)+(n:Int)=(r:Int):=by omega
     have hwi:IntKind.i64.wrap (r:Int)=(r:Int):=by simp[IntKind.wrap,IntKind.signed,IntKind.bits];omega
     have r0:(0:Int)≤(q:Int):=by omega
     have r1:(0:Int)≤(r:Int):=by omega
     have r2:(q:Int)≤(r:Int):=by omega
     have r2N:q≤r:=by omega
     have r3:(r:Int)≤(cap:Int):=by omega
     have r3N:r≤cap:=by omega
     have hql2:q≤cap:=by omega
     have hrl:r≤l.length:=by omega
     have hrk:r=q+(k+n):=by omega
     have hqr:q<r:=by omega
     have HRK:=Hi hrk;obtain⟨A,hA2⟩:∃ A,A=Option.map (fun x=>x.add q) a:=⟨_,rfl⟩
     obtain⟨cp,hcp⟩:∃ cp,cp=cap-q:=⟨_,rfl⟩
     obtain⟨rm,hrm⟩:∃ rm,rm=r-q:=⟨_,rfl⟩
     obtain⟨gg,hgg⟩:∃ gg,gg=w2.heap.size+1:=⟨_,rfl⟩
     have BU:=Blk.new (w2.alloc (.cells #[.int .i64 t1,.int .i64 t2,.bool t3] 184)) 38 #[.slice A rm cp];rw[World.size_alloc,←hgg]at BU
     have F3:Fz w2 ((w2.alloc (.cells #[.int .i64 t1,.int .i64 t2,.bool t3] 184)).alloc (.cells #[.slice A rm cp] 38)):=((Fr.refl w2).alloc _).alloc _;obtain⟨v',w',hrun,ho7,F7,-⟩:=append_one (ownsRow_fr HOW2.out F3 (fun _ _ h=>h)) gg _ BU rfl (by omega) ((HF2.out.trans F3).size)
     obtain⟨a7,n7,c7,rfl,hn7⟩:=own_shape ho7
     subst hn7;have HF7:=Hi ((HF2.out.trans F3).trans' F7 (fun i hi e=>absurd hi (by have:=(hv.out i e).1;omega)));have HO7:=Hi ho7;have HRUN:=Hi hrun;replace hA2:=hA2.symm;replace hcp:=hcp.symm;replace hrm:=hrm.symm;have HGG:=Hi hgg;clear hr hs hrr hrk hgg BU F3 hrun F7 ho7;go_wp2_with (at_builtin;refine wpList_append_run (by rfl) (.tmp 32) (.tmp 39) 142 (by rfl) _ w' (by have h:=HRUN.out;rw[HGG.out]at h;exact h) ?_)
     go_roundg (l.length-r)
     case measure=>rw[HG.out];omega
     refine⟨r,a7,m+1,c7,xs++[.slice A rm cp],rfl,hrl,by omega,rfl,rfl,HO7.out,HF7.out,fun e h=>?_,fun ls h=>?_⟩
     ·rw[HRK.out,←List.drop_drop]at h
      exact HE.out e (by rw[hA.out,h])
     ·rw[HRK.out,←List.drop_drop]at h
      obtain⟨ls',h1,h2⟩:=HO.out _ (by rw[hA.out,h])
      exact⟨ls',h1,by rw[h2];simp only[List.length_cons];omega⟩
  ·have q1:¬(q:Int)<(l.length:Int):=by omega
   have hd:l.drop q=[]:=List.drop_eq_nil_of_le (by omega);obtain⟨ls',h1,h2⟩:=HO.out [] (by rw[hd];rfl)
   have H1:=Hi h1;have H2:=Hi h2;clear h1 h2 hd;go_wp2_with fail
   refine bodyPost_ret (v:=.tuple #[.slice a2 m c2,.int .i64 0]) (by simp[results,Tryz.results116,go_sem]) rfl ⟨?_,HF.out⟩;rw[H1.out]
   exact⟨a2,c2,by rw[H2.out];simp⟩
theorem r02Of_any (n:Int)(w:World) :
  Calls Tryz.prog 119 #[.int .i64 n] w fun e w'=>e=.returned (tagV (tagOf n))∧Fz w w':=by
 rcases Classical.em (n=16) with h|h
 case' inl=>subst h
 case' inr=>have h16:(n==16)=false:=beq_eq_false_iff_ne.2 h
 case' inl=>
  go_enter Tryz.func119,Tryz.ntmps119
  go_wp2_with fail
  exact bodyPost_ret (v:=tagV ⟨0,16,true⟩) (by simp[results,Tryz.results119,go_sem,tagV]) rfl ⟨rfl,(Fr.refl w).alloc _⟩
 case' inr=>
  go_enter Tryz.func119,Tryz.ntmps119
  go_wp2_with fail
  exact bodyPost_ret (v:=tagV ⟨0,n,n==17⟩) (by simp[results,Tryz.results119,go_sem,tagV]) rfl ⟨by simp[tagOf,tagV,h16],(Fr.refl w).alloc _⟩
theorem r02Length_any (n:Nat)(hn:n≤16777216)(w:World) :
  Calls Tryz.prog 153 #[.int .i64 n] w fun e w'=>∃ v,e=.returned v∧w'.ownsRow w.heap.size 5 1 v (lenBytes n).length (Lib.byteCells (lenBytes n))∧Fz w w':=by
 have key:∀ cs:Array Value,cs=(Lib.byteCells (lenBytes n)).toArray→(lenBytes n).length≤5→(w.alloc (.cells cs 5)).ownsRow w.heap.size 5 1 (.slice (some ⟨w.heap.size,0,none⟩) (lenBytes n).length (lenBytes n).length) (lenBytes n).length (Lib.byteCells (lenBytes n))∧Fz w (w.alloc (.cells cs 5)):=by
  rintro cs rfl h5;exact⟨own_bytes (Blk.new w 5 _) (by omega) _ (Nat.le_refl _),(Fr.refl w).alloc _⟩
 by_cases h1:n<128
 ·have q1:(n:Int)<128:=by omega
  have hL:lenBytes n=[UInt8.ofNat n]:=by simp[lenBytes,h1]
  rw[hL]at key ⊢
  have HK:=Hi key;clear key hL;go_enter Tryz.func153,Tryz.ntmps153
  go_wp2_with fail
  go_ret;refine⟨_,rfl,HK.out _ ?_ (by simp)⟩
  simp[Lib.byteCells,IntKind.wrap,IntKind.signed,IntKind.bits]
  try omega
 have q1:¬(n:Int)<128:=by omega
 by_cases h2:n<256
 ·have q2:(n:Int)<256:=by omega
  have hL:lenBytes n=[129,UInt8.ofNat n]:=by simp[lenBytes,h1,h2]
  rw[hL]at key ⊢
  have HK:=Hi key;clear key hL;go_enter Tryz.func153,Tryz.ntmps153
  go_wp2_with fail
  go_ret;refine⟨_,rfl,HK.out _ ?_ (by simp)⟩
  simp[Lib.byteCells,IntKind.wrap,IntKind.signed,IntKind.bits]
  try omega
 have q2:¬(n:Int)<256:=by omega
 by_cases h3:n<65536
 ·have q3:(n:Int)<65536:=by omega
  have hL:lenBytes n=[130,UInt8.ofNat (n / 256),UInt8.ofNat (n % 256)]:=by simp only[lenBytes,h1,h2,h3,if_true,if_false]
  rw[hL]at key ⊢
  have HK:=Hi key;clear key hL;go_enter Tryz.func153,Tryz.ntmps153
  go_wp2_with fail
  go_ret;refine⟨_,rfl,HK.out _ ?_ (by simp)⟩
  simp[Lib.byteCells,IntKind.wrap,IntKind.signed,IntKind.bits]
  try omega
 have q3:¬(n:Int)<65536:=by omega
 by_cases h4:n<16777216
 ·have q4:(n:Int)<16777216:=by omega
  have hL:lenBytes n=[131,UInt8.ofNat (n / 65536),UInt8.ofNat (n / 256 % 256),UInt8.ofNat (n % 256)]:=by simp only[lenBytes,h1,h2,h3,h4,if_true,if_false]
  rw[hL]at key ⊢
  have HK:=Hi key;clear key hL;go_enter Tryz.func153,Tryz.ntmps153
  go_wp2_with fail
  go_ret;refine⟨_,rfl,HK.out _ ?_ (by simp)⟩
  simp[Lib.byteCells,IntKind.wrap,IntKind.signed,IntKind.bits]
  try omega
 have q4:¬(n:Int)<16777216:=by omega
 ·have hL:lenBytes n=[132,UInt8.ofNat (n / 16777216),UInt8.ofNat (n / 65536 % 256),UInt8.ofNat (n / 256 % 256),UInt8.ofNat (n % 256)]:=by simp only[lenBytes,h1,h2,h3,h4,if_false]
  rw[hL]at key ⊢
  have HK:=Hi key;clear key hL;go_enter Tryz.func153,Tryz.ntmps153
  go_wp2_with fail
  go_ret;refine⟨_,rfl,HK.out _ ?_ (by simp)⟩
  simp[Lib.byteCells,IntKind.wrap,IntKind.signed,IntKind.bits]
  try omega
theorem r02Bytes_any (t:Tag)(h:tagGood t)(w:World) :
  Calls Tryz.prog 152 #[tagV t] w fun e w'=>∃ v,e=.returned v∧w'.ownsRow w.heap.size 5 1 v 1 (Lib.byteCells [tagByte t])∧Fz w w':=by
 have hv:=tagByte_val h;have key:∀ (w':World) (cs:Array Value),cs=(Lib.byteCells [tagByte t]).toArray→Fz w w'→(w'.alloc (.cells cs 5)).ownsRow w.heap.size 5 1 (.slice (some ⟨w'.heap.size,0,none⟩) 1 1) 1 (Lib.byteCells [tagByte t])∧Fz w (w'.alloc (.cells cs 5)):=by
  rintro w' cs rfl F;exact⟨own_bytes (l:=[tagByte t]) (Blk.new w' 5 _) (by simp) _ F.size,F.alloc _⟩
 obtain⟨⟨h1,h2⟩,h3,h4⟩:=h
 obtain⟨c,n,m⟩:=t
 simp only at h1 h2 h3 h4
 have HV:=Hi hv;have HK:=Hi key;have B:=Blk.new w 184 #[.int .i64 c,.int .i64 n,.bool m];have F0:Fz w (w.alloc (.cells #[.int .i64 c,.int .i64 n,.bool m] 184)):=(Fr.refl w).alloc _;have q1:n<31:=h4;clear hv key;rw[show tagV ⟨c,n,m⟩=.agg #[.int .i64 c,.int .i64 n,.bool m] from rfl]
 cases m
 all_goals
  go_enter Tryz.func152,Tryz.ntmps152
  go_upto_region 1 with fail
  generalize hz:w.heap.size=z at B ⊢;have HZ:=Hi hz;generalize (w.alloc (.cells _ 184))=w0 at *
  clear hz;have S:=B.cell;go_wp2_with fail
  go_ret;refine⟨_,rfl,?_⟩
  rw[←HZ.out]
  refine HK.out _ _ ?_ F0;have:=HV.out;simp at this
  simp[Lib.byteCells,IntKind.wrap,IntKind.signed,IntKind.bits,this]
  try omega
theorem r02Wrap_any (t:Tag)(ht:tagGood t)(v:Value)(l:List UInt8)(w:World)(hv:Bytes w v l)(hl:l.length≤16777216) :
  Calls Tryz.prog 118 #[tagV t,v] w fun e w'=>∃ v',e=.returned v'∧w'.ownsRow w.heap.size 5 1 v' (wrapS t l).length (Lib.byteCells (wrapS t l))∧Fz w w':=by
 obtain⟨a,cap,rfl,-⟩:=hv.form
 have HB:=Hi hv;have HT:=Hi ht;obtain⟨N,hN⟩:∃ N,N=l.length:=⟨_,rfl⟩
 have HN:=Hi hN;rw[←hN]at hl ⊢
 obtain⟨c,n,m⟩:=t
 have B:=Blk.new w 184 #[.int .i64 c,.int .i64 n,.bool m];have F0:Fz w (w.alloc (.cells #[.int .i64 c,.int .i64 n,.bool m] 184)):=(Fr.refl w).alloc _;obtain⟨z,hz⟩:∃ z,z=w.heap.size:=⟨_,rfl⟩
 rw[←hz]at B
 have HZ:=Hi hz;clear hz hv ht hN;rw[show tagV ⟨c,n,m⟩=.agg #[.int .i64 c,.int .i64 n,.bool m] from rfl]
 go_enter Tryz.func118,Tryz.ntmps118
 go_upto_region 1 with fail
 rw[←HZ.out]
 generalize (w.alloc (.cells #[.int .i64 c,.int .i64 n,.bool m] 184))=w0 at *
 have S:=B.cell;go_wp2_with fail
 refine(r02Bytes_any ⟨c,n,m⟩ HT.out w0).mono ?_
 rintro e w1 ⟨vb,rfl,hob,F1⟩;have G1:=F0.trans F1;have hob':=own_le hob F0.size;obtain⟨ab,cb,rfl,-⟩:=(Vals.of_own hob').1.form
 have HOB:=Hi hob';clear hob hob' F0 F1 B S;go_wp2_with fail
 refine(r02Length_any N hl w1).mono ?_
 rintro e w2 ⟨vd,rfl,hod,F2⟩;have G2:=G1.trans F2;have hb0:w.heap.size≤w2.heap.size:=G2.size;have ho1:=ownsRow_fr HOB.out F2 (fun _ _ h=>h);have hvd:=(Vals.of_own hod).1;obtain⟨ad,cd,rfl,-⟩:=hvd.form
 obtain⟨v3,w3,hr3,ho3,F3,_⟩:=append_bytes ho1 ad _ cd (lenBytes N) hvd (by have:=len_small N hl;simp;omega) hb0
 have hvb:=(Vals.of_own ho1).2;have G3:=G2.trans' F3 (fun i hi e=>absurd hi (by have:=hvb i e;omega));have hll:(Lib.byteCells (lenBytes N)).length=(lenBytes N).length:=byteCells_len _;obtain⟨a3,c3,rfl,-⟩:=(Vals.of_own ho3).1
 have hb3:w.heap.size≤w3.heap.size:=G3.size;obtain⟨v4,w4,hr4,ho4,F4,_⟩:=append_bytes ho3 a _ cap l (HB.out.old G3) (by have:=len_small N hl;have:=HN.out;simp;omega) hb3
 have hvb4:=(Vals.of_own ho3).2;have G4:=G3.trans' F4 (fun i hi e=>absurd hi (by have:=hvb4 i e;omega));rw[←HN.out]at hr4 ho4
 have HO4:=Hi ho4;have HG4:=Hi G4;clear hod G2 ho1 hvd ho3 F3 hvb G3 F2 F4 hvb4 G4 ho4;generalize (Lib.byteCells ([tagByte ⟨c,n,m⟩]++lenBytes N)).length=L3 at *
 go_wp2_with (at_builtin;first
  |refine wpList_append_run (by rfl) (.tmp 7) (.tmp 10) 38 (by rfl) _ w3 (by exact hr3) ?_
  |refine wpList_append_run (by rfl) (.tmp 12) (.tmp 13) 38 (by rfl) _ w4 (by exact hr4) ?_)
 go_ret;refine⟨_,rfl,?_,HG4.out⟩
 have:=HO4.out;have e:wrapS ⟨c,n,m⟩ l=[tagByte ⟨c,n,m⟩]++lenBytes N++l:=by rw[wrapS,←HN.out];simp
 rw[wrap_len,←HN.out,e]
 exact this
theorem r04digits_any:∀ (n:Nat),n≤2147483647→∀ (w:World),
  Calls Tryz.prog 194 #[.int .i64 n] w fun e w'=>∃ v,e=.returned v∧w'.ownsRow w.heap.size 5 1 v (base128 n).length (Lib.byteCells (base128 n))∧Fz w w':=by
 intro n;induction n using Nat.strongRecOn with
 |_ n ih=>
 intro hn w;by_cases h128:n<128
 ·have q1:(n:Int)<128:=by omega
  have hL:=base128_small h128;rw[hL]
  have hw8:IntKind.u8.wrap (n:Int)=(n:Int):=by simp[IntKind.wrap,IntKind.signed,IntKind.bits];omega
  have hk:(w.alloc (.cells #[.int .u8 n] 5)).ownsRow w.heap.size 5 1 (.slice (some ⟨w.heap.size,0,none⟩) 1 1) 1 (Lib.byteCells [UInt8.ofNat n]):=by
   have e8:=u8 n (by omega);have BX:=Blk.new w 5 #[.int .u8 n];have BX':Blk (w.alloc (.cells #[.int .u8 n] 5)) w.heap.size 5 (Lib.byteCells [UInt8.ofNat n]).toArray:=by
    simpa [Lib.byteCells,e8] using BX
   exact own_bytes BX' (by simp) w.heap.size (Nat.le_refl _)
  have HK:=Hi hk;clear hk hL ih;go_enter Tryz.func194,Tryz.ntmps194
  go_wp2_with fail
  go_ret;exact⟨_,rfl,HK.out,(Fr.refl w).alloc _⟩
 ·have q1:¬(n:Int)<128:=by omega
  obtain⟨front,e1,e2⟩:=base128_step (n:=n) (by omega) hn
  have HC:=Hi (ih (n / 128) (by omega) (by omega) w);have hq:(n:Int) / 128=((n / 128:Nat):Int):=by omega
  have HE1:=Hi e1;have HE2:=Hi e2;obtain⟨y,hy⟩:∃ y,y=n / 128 % 128:=⟨_,rfl⟩
  have hyl:y<128:=by omega
  rw[←hy]at HE1 HE2
  obtain⟨r,hr⟩:∃ r,r=n % 128:=⟨_,rfl⟩
  have hrl:r<128:=by omega
  rw[←hr]at HE2
  have hri:(n:Int) % 128=(r:Int):=by omega
  have hw8:IntKind.u8.wrap (r:Int)=(r:Int):=by simp[IntKind.wrap,IntKind.signed,IntKind.bits];omega
  have hw9:IntKind.u8.wrap ((y:Int)+128)=(y:Int)+128:=by simp[IntKind.wrap,IntKind.signed,IntKind.bits];omega
  generalize n / 128=m at *
  clear ih e1 e2 hy hr;go_enter Tryz.func194,Tryz.ntmps194
  go_wp2_with fail
  refine HC.out.mono ?_;rintro e w1 ⟨v,rfl,ho,F1⟩;obtain⟨a,l,c,rfl,rfl⟩:=own_shape ho
  rw[HE1.out]at ho
  have hbl:(base128 m).length=front.length+1:=by rw[HE1.out];simp
  rw[hbl]
  have hcells:Lib.byteCells (front++[UInt8.ofNat y])=Lib.byteCells front++[.int .u8 y]:=by
   have:=u8 y (by omega);simp[Lib.byteCells,this]
  have hlen:(front++[UInt8.ofNat y]).length=front.length+1:=by simp
  rw[hlen,hcells]at ho
  obtain⟨g,rfl,hg1,hg2,-,hlc,hcm,hfz,hcell,hset,F2⟩:=own_set ho front.length (by omega) (.int .u8 ((y:Int)+128))
  have hfl:(Lib.byteCells front).length=front.length:=byteCells_len front;rw[List.getElem?_append_right (by omega),hfl,Nat.sub_self]at hcell
  simp only[List.getElem?_cons_zero]at hcell
  have hcells2:(Lib.byteCells front++[Value.int .u8 y]).set front.length (.int .u8 ((y:Int)+128))=Lib.byteCells (front++[UInt8.ofNat (y+128)]):=by
   have:=u8 (y+128) (by omega);rw[List.set_append_right _ _ (by omega),hfl,Nat.sub_self]
   simp[Lib.byteCells,this]
   try omega
  rw[hcells2]at hset
  have HSET:=Hi hset;have HF2:=Hi (F1.trans' F2 (fun i hi e=>by omega));have hi1:((front.length+1:Nat):Int)-1=(front.length:Int):=by omega
  have hln:front.length<1000:=by
   have:(base128 m).length≤6:=by
    unfold base128;have h5:=up7_len 5 (m / 128);simp only[List.length_reverse,List.length_cons]
    omega
   omega
  clear ho hset F1 F2 HC hcells hcells2 hlen hbl hfl;go_upto_region 5 with fail
  generalize (w1.setCell ⟨g,front.length,none⟩ (.int .u8 ((y:Int)+128)))=w2 at *
  have BX:=Blk.new w2 5 #[.int .u8 r];have F3:Fz w2 (w2.alloc (.cells #[.int .u8 r] 5)):=(Fr.refl w2).alloc _;have hsrc:Bytes (w2.alloc (.cells #[.int .u8 r] 5)) (.slice (some ⟨w2.heap.size,0,none⟩) 1 1) [UInt8.ofNat r]:=by
   have e8:=u8 r (by omega);have BX':Blk (w2.alloc (.cells #[.int .u8 r] 5)) w2.heap.size 5 (Lib.byteCells [UInt8.ofNat r]).toArray:=by
    simpa [Lib.byteCells,e8] using BX
   exact Vals.of_block BX' (by simp[Lib.byteCells];unfold maxLen;omega)
  have hs2:=HF2.out.size;obtain⟨v4,w4,hr4,ho4,F4,_⟩:=append_bytes (ownsRow_fr HSET.out F3 (fun _ _ h=>h)) (some ⟨w2.heap.size,0,none⟩) 1 1 [UInt8.ofNat r] hsrc (by omega) (Nat.le_trans hs2 F3.size)
  have hvb:=(Vals.of_own HSET.out).2;have HF4:=Hi ((HF2.out.trans F3).trans' F4 (fun i hi e=>by have:=hvb i e;omega));obtain⟨a4,c4,rfl,-⟩:=(Vals.of_own ho4).1
  rw[←HE2.out]at ho4 hr4
  have hbn:(base128 n).length=front.length+1+1:=by rw[HE2.out];simp
  rw[←hbn]at ho4
  have HO4:=Hi ho4;have HRUN:=Hi hr4;clear ho4 hr4 F4 F3 hvb BX hsrc hbn HF2 HSET;go_wp2_with (at_builtin;refine wpList_append_run (by rfl) (.tmp 24) (.tmp 28) 38 (by rfl) _ w4 (by exact HRUN.out) ?_)
  exact bodyPost_ret (v:=.slice a4 (Lib.byteCells (base128 n)).length c4) (by simp[results,Tryz.results194,go_sem]) rfl ⟨_,rfl,HO4.out,HF4.out⟩
theorem r04Contents_any (v:Value)(o:List Int)(w:World)(h:Ints w v o)(ho:oidOk o=true) :
  Calls Tryz.prog 154 #[v] w fun e w'=>∃ v',e=.returned v'∧w'.ownsRow w.heap.size 5 1 v' (oidBytes o).length (Lib.byteCells (oidBytes o))∧Fz w w':=by
 obtain⟨hnm,hol,hol2,hno⟩:=nums_ok ho
 obtain⟨a,cap,rfl,-,-,hx⟩:=Ints.form h
 obtain⟨b,off,rfl,hy⟩:=hx (by omega)
 obtain⟨x0,hx0⟩:∃ x,o[0]? = some x:=⟨_,List.getElem?_eq_getElem (by omega)⟩
 obtain⟨x1,hx1⟩:∃ x,o[1]? = some x:=⟨_,List.getElem?_eq_getElem (by omega)⟩
 have e0:=hy 0 x0 hx0;have e1:=hy 1 x1 hx1;obtain⟨N,hN⟩:∃ N,N=numsS o:=⟨_,rfl⟩
 have hN0:N[0]? = some (40*x0+x1):=by rw[hN];simp[numsS,List.getD,hx0,hx1]
 have hNs:∀ i,N[i+1]? = o[i+2]?:=fun i=>by
  rw[hN]
  simp only[numsS,List.getElem?_cons_succ,List.getElem?_drop]
  congr 1
  omega
 have hob:oidBytes o=N.flatMap fun n=>base128 n.toNat:=by rw[hN];rfl
 rw[←hN]at hnm hno
 rw[hob]
 have h0:=hno _ (List.mem_of_getElem? hN0);obtain⟨m,hm⟩:∃ m:Nat,40*x0+x1=(m:Int):=⟨(40*x0+x1).toNat,by omega⟩
 have hml:m≤2147483647:=by omega
 have hft1:((N.take 1).flatMap fun n=>base128 n.toNat)=base128 m:=by
  have:N.take 1=[(m:Int)]:=by
   rw[show (1:Nat)=0+1 from rfl,List.take_add_one,hN0,hm]
   rfl
  rw[this]
  simp
 have hwm:40*x0≤4611686018427387904∧-4611686018427387904≤40*x0:=by
  have g:∀ i,i<o.length→arcOk (o.getD i 0)=true:=fun i hi=>by
   simp only[oidOk,Bool.and_eq_true,decide_eq_true_eq]at ho
   rw[List.getD_eq_getElem?_getD,List.getElem?_eq_getElem hi]
   exact List.all_eq_true.1 ho.1.2 _ (List.getElem_mem hi)
  have g0:=g 0 (by omega);simp only[arcOk,List.getD,hx0,Option.getD_some,decide_eq_true_eq]at g0
  omega
 obtain⟨M,hM⟩:∃ M,M=(N.flatMap fun n=>base128 n.toNat).length:=⟨_,rfl⟩
 rw[←hM]
 have HM:=Hi hM;clear hM;have HY:=Hi hy;have HNO:=Hi hno;have HNS:=Hi hNs;have HFT1:=Hi hft1;have r2:¬(o.length:Int)<2:=by omega
 have r0:(0:Int)<(o.length:Int):=by omega
 have r1:(1:Int)<(o.length:Int):=by omega
 have r0N:0<o.length:=by omega
 have r1N:1<o.length:=by omega
 have hw1:IntKind.i64.wrap (40*x0)=40*x0:=by simp[IntKind.wrap,IntKind.signed,IntKind.bits];omega
 have hw2:IntKind.i64.wrap (m:Int)=(m:Int):=by simp[IntKind.wrap,IntKind.signed,IntKind.bits];omega
 simp only[Nat.add_zero]at e0
 have G:Fz w w.drew:=(Fr.refl w).drew;clear h hx hy hx0 hx1 hN0 hNs hN hob h0 hno hft1 ho;go_enter Tryz.func154,Tryz.ntmps154
 go_upto_region 3 with fail
 have E0:w.drew.cell? ⟨b,off,none⟩=some (.int .i64 x0):=e0;have E1:w.drew.cell? ⟨b,off+1,none⟩=some (.int .i64 x1):=e1;go_region_held3 (fun w'=>w'.cell? ⟨b,off,none⟩=some (.int .i64 x0)∧w'.cell? ⟨b,off+1,none⟩=some (.int .i64 x1)) (exact⟨E0,E1⟩) (first|(go_at_call 194;(try rw[hw2]);refine(r04digits_any m hml _).mono ?_;rintro e w' ⟨v,rfl,hv,F⟩;obtain⟨av,mv,cv,rfl,rfl⟩:=own_shape hv;replace E0:=F.cell E0 (fun h=>h);replace E1:=F.cell E1 (fun h=>h);replace G:=G.trans F))
 all_goals
  rw[World.size_drew]at hv
  have HV:=Hi hv;have HG0:=Hi G;obtain⟨L0,hL0⟩:∃ L0,L0=(base128 m).length:=⟨_,rfl⟩
  rw[←hL0]at HV ⊢
  have HL0:=Hi hL0;clear hv G F E0 E1 e0 e1 hL0;go_wp2_with fail
  go_loopg [3,4] (o.length-1) (fun g u i wr=>∃ (j:Nat) (L:Nat) (a1:Option Addr) (c1:Nat),g=o.length-j∧1≤j∧j+1≤o.length∧u=.slice a1 L c1∧i=.int .i64 ((j:Int)+1)∧L=((N.take j).flatMap fun n=>base128 n.toNat).length∧wr.ownsRow w.heap.size 5 1 (.slice a1 L c1) L (Lib.byteCells ((N.take j).flatMap fun n=>base128 n.toNat))∧Fz w wr)
  case atStart=>exact⟨1,L0,av,cv,rfl,Nat.le_refl _,by omega,rfl,rfl,by rw[HFT1.out,HL0.out],by rw[HFT1.out];exact HV.out,HG0.out⟩
  case round=>
   obtain⟨j,L,a1,c1,hg,hj1,hj2,rfl,rfl,hL,ho1,F1⟩:=hrel
   have HG:=Hi hg;have HO1:=Hi ho1;have HF1:=Hi F1;have HL:=Hi hL;have hLl:L≤2000:=by
    have h1:=flat128_len (N.take j);rw[←hL,List.length_take]at h1
    omega
   clear hg ho1 hL;by_cases hjl:j+1<o.length
   ·obtain⟨x,hxj⟩:∃ x,o[j+1]? = some x:=⟨_,List.getElem?_eq_getElem hjl⟩
    have ex:=F1.cell (HY.out (j+1) x hxj) (fun h=>h);have hNj:N[j]? = some x:=by
     have:=HNS.out (j-1);rw[show j-1+1=j from by omega,show j-1+2=j+1 from by omega,hxj]at this
     exact this
    have hxb:=HNO.out x (List.mem_of_getElem? hNj);obtain⟨y,hyx⟩:∃ y:Nat,x=(y:Int):=⟨x.toNat,by omega⟩
    subst hyx;have hft:((N.take (j+1)).flatMap fun n=>base128 n.toNat)=((N.take j).flatMap fun n=>base128 n.toNat)++base128 y:=by
     rw[List.take_add_one,hNj]
     simp
    have HFT:=Hi hft;have q1:(0:Int)≤(j:Int)+1:=by omega
    have q2:(j:Int)+1<(o.length:Int):=by omega
    have hin:((j:Int)+1).toNat=j+1:=by omega
    have HD:=Hi (r04digits_any y (by omega) wr);clear hxj hNj hft F1;go_wp2_with fail
    refine HD.out.mono ?_;rintro e w3 ⟨v3,rfl,ho3,F3⟩;obtain⟨a3,l3,c3,rfl,rfl⟩:=own_shape ho3
    have hs1:=HF1.out.size;have hv3:=(Vals.of_own ho3).1;have hbl:=(base128_len y).1;obtain⟨v4,w4,hr4,ho4,F4,_⟩:=append_bytes (ownsRow_fr HO1.out F3 (fun _ _ h=>h)) a3 (base128 y).length c3 (base128 y) hv3 (by omega) (Nat.le_trans hs1 F3.size)
    have hvb:=(Vals.of_own HO1.out).2;have HF4:=Hi ((HF1.out.trans F3).trans' F4 (fun i hi e=>by have:=hvb i e;omega));obtain⟨a4,m4,c4,rfl,rfl⟩:=own_shape ho4
    rw[←HFT.out]at ho4
    have HO4:=Hi ho4;have HRUN:=Hi hr4;clear ho4 hr4 F4 F3 hvb ho3 hv3 HO1 HF1;go_wp2_with (at_builtin;refine wpList_append_run (by rfl) (.tmp 23) (.tmp 28) 38 (by rfl) _ w4 (by exact HRUN.out) ?_)
    go_roundg (o.length-(j+1))
    case measure=>rw[HG.out];omega
    case rel=>exact⟨j+1,L+(base128 y).length,a4,c4,rfl,by omega,by omega,rfl,by go_num,by rw[HFT.out,List.length_append,←HL.out],HO4.out,HF4.out⟩
   ·have q2:¬(j:Int)+1<(o.length:Int):=by omega
    have hall:N.take j=N:=List.take_of_length_le (by omega);have hlo:=HL.out;have ho1:=HO1.out;rw[hall]at hlo ho1
    have HO2:=Hi ho1;have HLO:=Hi hlo;clear hall hlo ho1 HO1 HL;go_wp2_with fail
    exact bodyPost_ret (v:=.slice a1 L c1) (by simp[results,Tryz.results154,go_sem]) rfl ⟨_,rfl,by rw[HM.out,←HLO.out];exact HO2.out,HF1.out⟩
theorem r04Whole_any (v:Value)(o:List Int)(w:World)(h:Ints w v o)(ho:oidOk o=true) :
  Calls Tryz.prog 120 #[v] w fun e w'=>∃ v',e=.returned v'∧w'.ownsRow w.heap.size 5 1 v' (oidWhole o).length (Lib.byteCells (oidWhole o))∧Fz w w':=by
 have hol:=oidBytes_len (nums_ok ho).2.1;have HB:=Hi h;have HO:=Hi ho;clear h ho;go_enter Tryz.func120,Tryz.ntmps120
 go_wp2_with fail
 refine(r02Of_any 6 w).mono ?_
 rintro e w1 ⟨rfl,F1⟩;have HF1:=Hi F1;rw[show tagV (tagOf 6)=.agg #[.int .i64 0,.int .i64 6,.bool false] from rfl]
 clear F1;go_wp2_with fail
 refine(r04Contents_any v o w1 (HB.out.old HF1.out) HO.out).mono ?_
 rintro e w2 ⟨v2,rfl,ho2,F2⟩;have hB2:=(Vals.of_own ho2).1;obtain⟨a2,c2,rfl,-⟩:=hB2.form
 have HB2:=Hi hB2;have HF2:=Hi (HF1.out.trans F2);clear ho2 hB2 F2;go_wp2_with fail
 refine(r02Wrap_any (tagOf 6) (good_of (by omega) (by omega)) _ (oidBytes o) w2 HB2.out (by omega)).mono ?_
 rintro e w3 ⟨v3,rfl,ho3,F3⟩;obtain⟨a3,m3,c3,rfl,rfl⟩:=own_shape ho3
 have HO3:=Hi (own_le ho3 HF2.out.size);have HF3:=Hi (HF2.out.trans F3);clear ho3 F3;go_wp2_with fail
 exact bodyPost_ret (v:=.slice a3 _ c3) (by simp[results,Tryz.results120,go_sem]) rfl ⟨_,rfl,HO3.out,HF3.out⟩
theorem info100:(Tryz.prog.info? 100).map (fun i=>(i.zero,i.size,i.bytes))=some (some (.slice none 0 0),1,24):=by kernel_rfl
theorem NmRow.add {w wa:World}{base:Nat}{v:Value}{n:List (List Part)}(h:NmRow w base v n)(hb:base≤w.heap.size)(F1:Fz w wa)(g:Nat)(u:Value)(r:List Part)(BX:Blk wa g 100 #[u])(hu1:u.oneCell'=true)(hu:Kept (fun W=>Attrs W u r) (fun k=>v.ownBlock=some k) w)(hn:n.length≤109951162777) :
  ∃ a c w',(Builtin.append_ #[37,37] 37 #[v,.slice (some ⟨g,0,none⟩) 1 1]).run Tryz.prog wa=.ok (.slice a (n.length+1) c) w'∧NmRow w' base (.slice a (n.length+1) c) (n++[r])∧Fr (fun k=>v.ownBlock=some k) w w':=by
 obtain⟨us,h1,h2,h3⟩:=h
 obtain⟨a,c,w',hrun,h4,F2,h5⟩:=add_gen Tryz.underlying37 info100 rfl (by decide) (by decide) h1 hb F1 g [u] rfl BX (by simpa using hu1) hn
 refine⟨a,c,w',hrun,⟨us++[u],?_,by simp[h2],fun i x s hx hs=>?_⟩,F2⟩
 ·rw[List.length_append]
  exact h4
 ·rcases Nat.lt_or_ge i us.length with hi|hi
  ·rw[List.getElem?_append_left hi]at hx
   rw[List.getElem?_append_left (by omega)]at hs
   exact(h3 i x s hx hs).step F2 (fun _ _ h=>h) h5
  ·obtain rfl:i=us.length:=by
    have:=(List.getElem?_eq_some_iff.1 hx).1;simp at this
    omega
   rw[List.getElem?_append_right (Nat.le_refl _)]at hx
   rw[List.getElem?_append_right (by omega)]at hs
   simp at hx
   simp[h2]at hs
   subst hx;subst hs;exact hu.step F2 (fun _ _ h=>h) h5
def NameOfOut (w w':World)(l:List (List UInt8))(e:Ending):Prop:=
 match nameOfS l with
 |.error x=>e=.returned (.tuple #[.slice none 0 0,.int .i64 x])∧x≠0
 |.ok n=>∃ v,e=.returned (.tuple #[v,.int .i64 0])∧NmRow w' w.heap.size v n
theorem nameOf_any (v:Value)(ks:List (List UInt8))(w:World)(h:Strs w v ks)(hE:Env w)(hk:∀ k∈ks,k.length≤10000000)(hl:ks.length≤1000000) :
  Calls Tryz.prog 41 #[v] w fun e w'=>NameOfOut w w' ks e∧Fz w w':=by
 have H:=Hi h;have HE:=Hi hE;have HK:=Hi hk;obtain⟨a,cap,rfl,hc,hm,-⟩:=Strs.form h
 clear h hE hk;go_enter Tryz.func41,Tryz.ntmps41
 go_upto_region 2 with fail
 have B0:=Blk.new w 100 #[];have F0:Fz w (w.alloc (.cells #[] 100)):=(Fr.refl w).alloc _;have N0:NmRow (w.alloc (.cells #[] 100)) w.heap.size (.slice (some ⟨w.heap.size,0,none⟩) 0 0) []:=⟨[],own_block B0 0 (Nat.le_refl _) (Nat.zero_le _) w.heap.size (Nat.le_refl _),rfl,fun i u r h=>by simp at h⟩;have HN0:=Hi N0;have HF0:=Hi F0;have hno:nameOfS ks=match stepsOfS ks with|none=>.error 6|some n=>if 64<n.length then .error 2 else .ok n:=rfl
 have HNO:=Hi hno;clear B0 F0 N0 hno;generalize (w.alloc (.cells #[] 100))=w1 at *
 go_wp2_with fail
 go_loopg [4,12] ks.length (fun g u i wr=>∃ (j:Nat) (os:List (List Part)) (au:Option Addr) (cu:Nat),g=ks.length-j∧j≤ks.length∧u=.slice au os.length cu∧i=.int .i64 j∧os.length=j∧NmRow wr w.heap.size (.slice au os.length cu) os∧Fz w wr∧stepsOfS ks=(stepsOfS (ks.drop j)).map (os++·))
 case atStart=>exact⟨0,[],_,0,rfl,Nat.zero_le _,rfl,rfl,rfl,HN0.out,HF0.out,by simp⟩
 case round=>
  obtain⟨j,os,au,cu,hg,hj,rfl,rfl,hos,hrow,F,hR⟩:=hrel
  have HG:=Hi hg;have HOS:=Hi hos;have HRW:=Hi hrow;have HR:=Hi hR;have HF:=Hi F;clear hg hos hrow hR;by_cases hjl:j<ks.length
  ·obtain⟨a0,cap0,he,_,_,hx⟩:=Strs.form (H.out.old F)
   simp only[Value.slice.injEq,true_and]at he
   obtain⟨rfl,rfl⟩:=he
   obtain⟨b,off,rfl,hy⟩:=hx (by omega)
   obtain⟨s,hs⟩:∃ s,ks[j]? = some s:=⟨_,List.getElem?_eq_getElem hjl⟩
   have e1:=hy j s hs;have hsl:=HK.out s (List.mem_of_getElem? hs);have HSS:=Hi hs;have HST:=Hi (nameStep_any s wr (HE.out.old F) hsl);have r1:(0:Int)≤(j:Int):=by omega
   have r2:(j:Int)<(ks.length:Int):=by omega
   clear hx hy hs F;go_wp2_with fail
   refine HST.out.mono ?_;rintro e w2 ⟨hout,F2⟩;unfold StepOut at hout;cases hp:stepS s with
   |none=>
    rw[hp]at hout
    subst hout;have hnone:=stepsOf_none HR.out HSS.out hp;have hres:nameOfS ks=.error 6:=by rw[HNO.out,hnone]
    have HRES:=Hi hres;clear hp hnone hres;go_wp2_with fail
    refine bodyPost_ret (v:=.tuple #[.slice none 0 0,.int .i64 6]) (by simp[results,Tryz.results41,go_sem]) rfl ⟨?_,HF.out.trans F2⟩;unfold NameOfOut;rw[HRES.out]
    exact⟨rfl,by decide⟩
   |some p=>
    rw[hp]at hout
    obtain⟨ap,cp,rfl,hkp⟩:=hout
    have hnx:=stepsOf_next HR.out HSS.out hp;have HNX:=Hi hnx;have F3:Fz w2 (w2.alloc (.cells #[.slice ap 1 cp] 100)):=(Fr.refl w2).alloc _;have hs1:=HF.out.size;have hs2:=F2.size;have hbk:=HRW.out.kept;obtain⟨a',c',w4,hrun,hrow4,F4⟩:=NmRow.add (HRW.out.old F2) (by omega) F3 w2.heap.size (.slice ap 1 cp) [p] (Blk.new w2 100 #[.slice ap 1 cp]) rfl (hkp.step (Fr.refl w2) (fun _ _ h=>h) (fun k hk=>.inl (hbk k hk).2)) (by rw[HOS.out];omega)
    have HRUN:=Hi hrun;have HRW4:=Hi hrow4;have HF4:=Hi ((HF.out.trans F2).trans' F4 (fun i hi e=>by have:=(hbk i e).1;omega));clear hnx hp hkp F2 F3 hrun hrow4 F4 hbk HRW HF HST;go_wp2_with (at_builtin;refine wpList_append_run (by rfl) (.tmp 24) (.tmp 26) 37 (by rfl) _ w4 (by exact HRUN.out) ?_)
    go_roundg (ks.length-(j+1))
    case measure=>rw[HG.out];omega
    case rel=>exact⟨j+1,os++[[p]],a',c',rfl,by omega,by rw[List.length_append];rfl,by go_num,by simp[HOS.out],by rw[List.length_append];exact HRW4.out,HF4.out,HNX.out⟩
  ·obtain rfl:j=ks.length:=by omega
   have hd:ks.drop ks.length=[]:=List.drop_length;have hall:stepsOfS ks=some os:=by rw[HR.out,hd];simp[stepsOfS]
   have hres:nameOfS ks=if 64<os.length then .error 2 else .ok os:=by rw[HNO.out,hall]
   have HRES:=Hi hres;clear hd hall hres;by_cases h64:64<os.length
   ·have q1:(64:Int)<(os.length:Int):=by omega
    go_wp2_with fail
    refine bodyPost_ret (v:=.tuple #[.slice none 0 0,.int .i64 2]) (by simp[results,Tryz.results41,go_sem]) rfl ⟨?_,HF.out⟩;unfold NameOfOut;rw[HRES.out,if_pos h64]
    exact⟨rfl,by decide⟩
   ·have q1:¬(64:Int)<(os.length:Int):=by omega
    go_wp2_with fail
    refine bodyPost_ret (v:=.tuple #[.slice au os.length cu,.int .i64 0]) (by simp[results,Tryz.results41,go_sem]) rfl ⟨?_,HF.out⟩;unfold NameOfOut;rw[HRES.out,if_neg h64]
    exact⟨_,rfl,HRW.out⟩
theorem info105:(Tryz.prog.info? 105).map (fun i=>(i.zero,i.size,i.bytes))=some (some (.agg #[.slice none 0 0,.slice none 0 0]),2,48):=by kernel_rfl
end Go.Proofs.YtehlipgmkinfbaaGreatDoor
