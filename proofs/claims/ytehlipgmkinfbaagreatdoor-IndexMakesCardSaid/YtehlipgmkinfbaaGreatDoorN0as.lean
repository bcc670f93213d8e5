/-
  Merged by program: XR04T XR13S XR13 XR13K XR01H XR14T XR14K XR22A XR22P XIxTurn.
-/
import Derived.Test.YtehlipgmkinfbaaGreatDoorN0ar
import Derived.Laws.Cover1
set_option linter.unusedSimpArgs false
set_option maxRecDepth 100000
set_option maxHeartbeats 8000000
namespace Go.Q
open Go
theorem fold_blank {s:List Int × Bool}{n:Int}(h:blankB n=true):foldStep s n=(s.1,decide (0<s.1.length)):=by unfold foldStep;rw[if_pos h]
theorem fold_sign {s:List Int × Bool}{n:Int}(h:blankB n=false):foldStep s n=((if s.2=true then s.1++[32] else s.1)++[smallS n],false):=by unfold foldStep;rw[if_neg (by rw[h];decide)]
theorem fold_front (l:List Int):∀ j,j≤l.length→(∀ (k:Nat) (n:Int),k<j→l[k]? = some n→blankB n=true)→foldAcc (l.take j)=([],false)
 |0,_,_=>rfl
 |j+1,hj,h=>by
  obtain⟨n,hn⟩:∃ n,l[j]? = some n:=⟨_,List.getElem?_eq_getElem (by omega)⟩
  rw[foldAcc_take hn,fold_front l j (by omega) (fun k n hk=>h k n (by omega)),fold_blank (h j n (by omega) hn)]
  rfl
theorem fold_back (l:List Int)(t:Nat):∀ d,t+d≤l.length→(∀ (k:Nat) (n:Int),t≤k→l[k]? = some n→blankB n=true)→(foldAcc (l.take (t+d))).1=(foldAcc (l.take t)).1
 |0,_,_=>rfl
 |d+1,hd,h=>by
  obtain⟨n,hn⟩:∃ n,l[t+d]? = some n:=⟨_,List.getElem?_eq_getElem (by omega)⟩
  rw[←Nat.add_assoc,foldAcc_take hn,fold_blank (h (t+d) n (by omega) hn)]
  exact fold_back l t d (by omega) h
def fOut (l:List Int)(i:Nat):List Int:=(foldAcc (l.take i)).1++(if (foldAcc (l.take i)).2=true then [32] else [])
def fAt (l:List Int)(fr i:Nat):Prop:=(i=fr∧foldAcc (l.take i)=([],false))∨(fr<i∧(foldAcc (l.take i)).1≠[]∧∀ p,l[i-1]? = some p→(foldAcc (l.take i)).2=blankB p)
theorem fOut_front {l:List Int}{fr:Nat}(h:foldAcc (l.take fr)=([],false)):fOut l fr=[]:=by unfold fOut;rw[h];rfl
theorem fOut_sign {l:List Int}{fr i:Nat}{n:Int}(_h:fAt l fr i)(hfr:fr≤i)(hn:l[i]? = some n)(hb:blankB n=false):fOut l (i+1)=fOut l i++[smallS n]∧fAt l fr (i+1):=by
 have e:=foldAcc_take hn;rw[fold_sign hb]at e
 refine⟨?_,.inr ⟨by omega,by rw[e];simp,fun p hp=>?_⟩⟩
 ·unfold fOut
  rw[e]
  simp only[Bool.false_eq_true,if_false,List.append_nil]
  split<;>simp
 ·rw[Nat.add_sub_cancel,hn]at hp
  cases hp
  rw[e,hb]
theorem fOut_blank {l:List Int}{fr i:Nat}{n p:Int}(h:fAt l fr i)(hfr:fr<i)(hn:l[i]? = some n)(hp:l[i-1]? = some p)(hb:blankB n=true):fOut l (i+1)=fOut l i++(if blankB p=true then [] else [32])∧fAt l fr (i+1):=by
 have e:=foldAcc_take hn;rw[fold_blank hb]at e
 rcases h with ⟨h1,-⟩|⟨-,h2,h3⟩
 ·omega
 ·have hlen:0<(foldAcc (l.take i)).1.length:=List.length_pos_iff.2 h2
  have hd:decide (0<(foldAcc (l.take i)).1.length)=true:=decide_eq_true hlen;rw[hd]at e
  have h3p:=h3 p hp;refine⟨?_,.inr ⟨by omega,by rw[e];exact h2,fun q hq=>?_⟩⟩
  ·unfold fOut
   rw[e,h3p]
   cases hbp:blankB p<;>simp
  ·rw[Nat.add_sub_cancel,hn]at hq
   cases hq
   rw[e,hb]
theorem fOut_all {l:List Int}{fr t:Nat}(h:fAt l fr t)(ht:t≤l.length)(hl:fr<t→∀ p,l[t-1]? = some p→blankB p=false)(hb:∀ (k:Nat) (n:Int),t≤k→l[k]? = some n→blankB n=true):foldS l=fOut l t:=by
 have e:=fold_back l t (l.length-t) (by omega) hb;rw[show t+(l.length-t)=l.length from by omega,List.take_length]at e
 have e2:foldS l=(foldAcc l).1:=rfl;rw[e2,e]
 unfold fOut;rcases h with ⟨-,h1⟩|⟨h1,h2,h3⟩
 ·rw[h1];rfl
 ·obtain⟨p,hp⟩:∃ p,l[t-1]? = some p:=⟨_,List.getElem?_eq_getElem (by omega)⟩
  rw[h3 p hp,hl h1 p hp]
  simp
theorem fOut_len (l:List Int)(i:Nat):(fOut l i).length≤2*i+1:=by
 unfold fOut;have h1:=foldAcc_len (l.take i);have h2:(l.take i).length≤i:=by rw[List.length_take];omega
 rw[List.length_append]
 split<;>simp only[List.length_cons,List.length_nil]<;>omega
open Go Go.RowKit
theorem may_nats {l:List Int}(h:∀ n∈l,mayS 12 n=true):l=natInts (l.map Int.toNat)∧(∀ n∈l.map Int.toNat,n<1114112)∧encAll (l.map Int.toNat)=ofS 12 l:=by
 refine⟨?_,?_,?_⟩
 ·unfold natInts
  rw[List.map_map]
  refine((List.map_congr_left (fun m hm=>?_)).trans (List.map_id l)).symm
  have:=h m hm;simp[mayS,surr]at this
  simp
  omega
 ·intro n hn
  obtain⟨m,hm,rfl⟩:=List.mem_map.1 hn
  have:=h m hm;simp[mayS,surr]at this
  omega
 ·simp only[ofS,encAll,List.flatMap_map]
  rfl
abbrev hexL:List UInt8:=[48,49,50,51,52,53,54,55,56,57,97,98,99,100,101,102]
theorem hexL_fin:∀ m:Fin 16,hexL[m.val]? = some (UInt8.ofNat (hexN (m.val:Int)).toNat):=by decide
theorem hexN_fin:∀ m:Fin 16,(UInt8.ofNat (hexN (m.val:Int)).toNat).toNat=(hexN (m.val:Int)).toNat∧0≤hexN (m.val:Int):=by decide
theorem textRead_err {l:List UInt8}{e:Int}(h:textReadS l=.error e):e≠0:=by
 unfold textReadS at h;split at h
 ·rename_i e' he
  cases h
  exact Go.Proofs.YtehlipgmkinfbaaGreatDoor.readS_err he
 ·split at h
  ·cases h;decide
  ·split at h
   ·cases h;decide
   ·split at h
    ·cases h
    ·cases h;decide
theorem oid_arcs {o:List Int}(ho:oidOk o=true):∀ n∈o,0≤n∧n≤2147483647:=by
 intro n hn;simp only[oidOk,Bool.and_eq_true,decide_eq_true_eq]at ho
 have:=List.all_eq_true.1 ho.1.2 n hn;simp only[arcOk,decide_eq_true_eq]at this
 omega
section
variable {P:Program}
theorem append_zero {w:World}{t ty e:TypeId}{i:TypeInfo}(ht:P.underlying t=some (.slice e))(hi:P.info? e=some i)(base:Option Addr)(n cap:Nat)(hle:n≤cap)(sp:Option Addr)(c:Nat) :
  (Builtin.append_ #[t,t] ty #[.slice base n cap,.slice sp 0 c]).run P w=.ok (.slice base n cap) w:=by
 cases base<;>cases sp<;>simp[Builtin.append_,run_underlying ht,sizeOf,typeInfo,hi,Builtin.lenOf,Builtin.firstCells,hle,storeCells,loadCells,loadCellsFrom]
end
section
variable {α:Type}{sz:Nat}{R:World→List Value→α→Prop}{K:Nat→Prop}{t:TypeId}{w:World}{base:Nat}{v:Value}{l:List α}
theorem LAt.rest {a:Option Addr}{n c:Nat}(h:LAt sz R w (.slice a n c) l)(i:Nat)(hi:i≤l.length)(A:Option Addr)(hA:i<l.length→∀ b o,a=some ⟨b,o,none⟩→A=some ⟨b,o+i*sz,none⟩):LAt sz R w (.slice A (l.drop i).length (c-i)) (l.drop i):=by
 obtain⟨_,_,he,h1,h2,h3⟩:=h
 simp only[Value.slice.injEq]at he
 obtain⟨rfl,-,rfl⟩:=he
 have hl:(l.drop i).length=l.length-i:=List.length_drop;refine⟨A,c-i,rfl,by omega,by omega,fun h0=>?_⟩
 obtain⟨b,o,rfl,hy⟩:=h3 (by omega)
 refine⟨b,o+i*sz,hA (by omega) b o rfl,fun j x hx=>?_⟩
 rw[List.getElem?_drop]at hx
 obtain⟨cs,e1,e2,e3⟩:=hy (i+j) x hx
 refine⟨cs,e1,fun m u hu=>?_,e3⟩
 have:=e2 m u hu;rwa[show o+sz*(i+j)+m=o+i*sz+sz*j+m by rw[Nat.mul_add,Nat.mul_comm sz i];omega]at this
theorem LAt.upto {a:Option Addr}{n c:Nat}(h:LAt sz R w (.slice a n c) l)(i:Nat)(hi:i≤l.length)(A:Option Addr)(hA:0<i→∀ b o,a=some ⟨b,o,none⟩→A=some ⟨b,o,none⟩):LAt sz R w (.slice A (l.take i).length c) (l.take i):=by
 obtain⟨_,_,he,h1,h2,h3⟩:=h
 simp only[Value.slice.injEq]at he
 obtain⟨rfl,-,rfl⟩:=he
 have hl:(l.take i).length=i:=by rw[List.length_take];omega
 refine⟨A,c,rfl,by omega,by omega,fun h0=>?_⟩
 obtain⟨b,o,rfl,hy⟩:=h3 (by omega)
 refine⟨b,o,hA (by omega) b o rfl,fun j x hx=>?_⟩
 rw[List.getElem?_take]at hx
 split at hx
 ·exact hy j x hx
 ·cases hx
theorem GRow.addSlice0 {P:Program}{s:TypeId}{z:Value}{bytes:Nat}(hu0:P.underlying s=some (.slice t))(hinf:Info P t z sz bytes)(hzs:z.cells.size=sz)(hs0:0<sz)(hby:bytes≤128)(h:GRow sz R K t w base v l)(hb:base≤w.heap.size){ay:Option Addr}{cy:Nat}{r:List α}(hy:LAt sz R w (.slice ay r.length cy) r)(h1:∀ W cs x,R W cs x→∀ u∈cs,u.oneCell'=true)(hk:∀ us x,R w us x→Kept (fun W=>R W us x) (fun k=>v.ownBlock=some k∨K k) w)(hn:l.length+r.length≤109951162777) :
  ∃ a c w',(Builtin.append_ #[s,s] s #[v,.slice ay r.length cy]).run P w=.ok (.slice a (l.length+r.length) c) w'∧GRow sz R K t w' base (.slice a (l.length+r.length) c) (l++r)∧Fr (fun k=>v.ownBlock=some k) w w':=by
 rcases Nat.eq_zero_or_pos r.length with h0|h0
 ·obtain rfl:r=[]:=List.length_eq_zero_iff.1 h0
  obtain⟨i0,hi0,-⟩:=info_parts hinf
  have hg:=h;obtain⟨cs,⟨g1,g2⟩,g3⟩:=h
  rcases g2 with ⟨rfl,hz⟩|⟨g,cap,cur,rfl,hgb,hh,hnc,hcm,hcs,htk⟩
  ·have hl:l=[]:=List.length_eq_zero_iff.1 hz
   subst hl;exact⟨none,0,w,append_zero hu0 hi0 none 0 0 (Nat.le_refl _) ay cy,by simpa using hg,Fr.refl _⟩
  ·refine⟨some ⟨g,0,none⟩,cap,w,?_,by simpa using hg,Fr.refl _⟩
   rw[List.length_nil,Nat.add_zero]
   exact append_zero hu0 hi0 _ _ cap hnc ay cy
 ·obtain⟨a,c,w',q1,q2,q3,-⟩:=h.addSlice hu0 hinf hzs hs0 hby hb hy h0 h1 hk hn
  exact⟨a,c,w',q1,q2,q3⟩
end
end Go.Q
namespace Go.Proofs.YtehlipgmkinfbaaGreatDoor
open Go Go.RowKit Go.Q
theorem r03num_any (n:Nat)(hn:n≤2147483647)(v:Value)(w:World)(h:Bytes w v (b256 8 n)) :
  Calls Tryz.prog 155 #[.agg #[.bool false,v]] w fun e w'=>e=.returned (str (Lib.itoa n))∧Fz w w':=by
 have e:=num_text (n:=(n:Int)) (by omega) (by omega);rw[show ((n:Int)).toNat=n from by omega]at e
 rw[←e]
 exact r03Text_any v (b256 8 n) w h (b256_head 8 n (Nat.lt_of_le_of_lt hn (by decide))) (b256_len 8 n)
theorem r04Text_any (v:Value)(o:List Int)(w:World)(h:Ints w v o)(ho:∀ n∈o,0≤n∧n≤2147483647)(hl:o.length≤100) :
  Calls Tryz.prog 121 #[v] w fun e w'=>e=.returned (str (oidTextS o))∧Fz w w':=by
 obtain⟨a,cap,rfl,-,-,hx⟩:=Ints.form h
 have HX:=Hi hx;have HO:=Hi ho;obtain⟨R,hR⟩:∃ R,R=oidTextS o:=⟨_,rfl⟩
 have HR:=Hi hR;rw[←hR]
 clear h hx ho hR;go_enter Tryz.func121,Tryz.ntmps121
 go_wp2_with fail
 go_loopg [3,4] o.length (fun g s i wr=>∃ (j:Nat) (T:List UInt8),g=o.length-j∧j≤o.length∧T=oidTextS (o.take j)∧s=str T∧i=.int .i64 j∧Fz w wr)
 case atStart=>exact⟨0,[],rfl,Nat.zero_le _,rfl,rfl,rfl,Fr.refl _⟩
 case round=>
  obtain⟨j,T,hg,hj,hT,rfl,rfl,F⟩:=hrel
  have HG:=Hi hg;have HT:=Hi hT;have HF:=Hi F;have hTl:T.length≤3000:=by
   have:=oidText_len (o:=o.take j) (fun n hn=>by have:=HO.out n (List.mem_of_mem_take hn);omega);rw[←hT,List.length_take]at this
   omega
  have hs2:(ByteArray.mk T.toArray).size=T.length:=by simp[ByteArray.size]
  clear hg hT;by_cases hjl:j<o.length
  ·obtain⟨b,off,rfl,hy⟩:=HX.out (by omega)
   obtain⟨x,hxj⟩:∃ x,o[j]? = some x:=⟨_,List.getElem?_eq_getElem hjl⟩
   have ex:=F.cell (hy j x hxj) (fun h=>h);have hx0:=HO.out x (List.mem_of_getElem? hxj);obtain⟨y,hyx⟩:∃ y:Nat,x=(y:Int):=⟨x.toNat,by omega⟩
   subst hyx;have hyl:y≤2147483647:=by omega
   have HC:=Hi (r03Of_any y hyl wr);have q1:(0:Int)≤(j:Int):=by omega
   have q2:(j:Int)<(o.length:Int):=by omega
   obtain⟨I,hI⟩:∃ I,I=Lib.itoa (y:Int):=⟨_,rfl⟩
   have hIl:I.length≤20:=by rw[hI];exact itoa_len (by omega) (by omega)
   have hs3:(ByteArray.mk I.toArray).size=I.length:=by simp[ByteArray.size]
   have HI:=Hi hI;rcases Nat.eq_zero_or_pos j with h0|h0
   ·subst h0
    rw[Nat.add_zero]at ex
    have hnx:oidTextS (o.take 1)=I:=by rw[oidText_first hxj,hI]
    have hT0:T=[]:=by rw[HT.out];rfl
    subst hT0;have HNX:=Hi hnx;clear hy hxj hnx hI F hs2;go_wp2_with fail
    refine HC.out.mono ?_;rintro e w1 ⟨v1,rfl,hv1,F1⟩;obtain⟨a1,c1,rfl,-⟩:=hv1.form
    have HC2:=r03num_any y hyl _ w1 hv1;rw[←HI.out]at HC2
    have HCC:=Hi HC2;have HF1:=Hi (HF.out.trans F1);clear HC HC2 hv1 F1;go_wp2_with fail
    refine HCC.out.mono ?_;rintro e w2 ⟨rfl,F2⟩;have HF2:=Hi (HF1.out.trans F2);clear F2 HCC HF1;go_wp2_with fail
    go_roundg (o.length-1)
    case measure=>rw[HG.out];omega
    case rel=>exact⟨1,I,rfl,by omega,HNX.out.symm,by first|rfl|exact congrArg Value.string (ba_cat [] I),by go_num,HF2.out⟩
   ·have q3:(0:Int)<(j:Int):=by omega
    obtain⟨j,rfl⟩:∃ j',j=j'+1:=⟨j-1,by omega⟩
    have hnx:oidTextS (o.take (j+1+1))=T++[46]++I:=by rw[oidText_next hxj,hI,HT.out]
    have HNX:=Hi hnx;have hs4:(ByteArray.mk (T++[46]).toArray).size=T.length+1:=by simp[ByteArray.size]
    have hcat:(ByteArray.mk T.toArray)++(ByteArray.mk #[46])=ByteArray.mk (T++[46]).toArray:=ba_cat T [46];clear hy hxj hnx hI F;go_wp2_with fail
    refine HC.out.mono ?_;rintro e w1 ⟨v1,rfl,hv1,F1⟩;obtain⟨a1,c1,rfl,-⟩:=hv1.form
    have HC2:=r03num_any y hyl _ w1 hv1;rw[←HI.out]at HC2
    have HCC:=Hi HC2;have HF1:=Hi (HF.out.trans F1);clear HC HC2 hv1 F1;go_wp2_with fail
    refine HCC.out.mono ?_;rintro e w2 ⟨rfl,F2⟩;have HF2:=Hi (HF1.out.trans F2);clear F2 HCC HF1;go_wp2_with fail
    go_roundg (o.length-(j+1+1))
    case measure=>rw[HG.out];omega
    case rel=>exact⟨j+1+1,T++[46]++I,rfl,by omega,HNX.out.symm,by first|exact congrArg Value.string (ba_cat (T++[46]) I)|(rw[List.append_assoc,←ba_cat,←ba_cat])|(rw[←ba_cat,←ba_cat]),by go_num,HF2.out⟩
  ·obtain rfl:j=o.length:=by omega
   have q2:¬(o.length:Int)<(o.length:Int):=by omega
   have hres:R=T:=by rw[HR.out,HT.out,List.take_length]
   have HRES:=Hi hres;clear hres;go_wp2_with fail
   go_ret;exact⟨by rw[HRES.out];rfl,HF.out⟩
theorem r13blank_any (n:Int)(w:World) :
  Calls Tryz.prog 198 #[.int .i64 n] w fun e w'=>e=.returned (.bool (blankB n))∧w=w':=by
 have hc:n=32∨n=9∨n=10∨n=11∨n=12∨n=13∨(n≠32∧n≠9∧n≠10∧n≠11∧n≠12∧n≠13):=by omega
 rcases hc with rfl|rfl|rfl|rfl|rfl|rfl|⟨h0,h1,h2,h3,h4,h5⟩
 case' inr.inr.inr.inr.inr.inr=>
  have hb:blankB n=false:=decide_eq_false (by omega);rw[hb]
  have q0:(n==32)=false:=beq_eq_false_iff_ne.2 h0;have q1:(n==9)=false:=beq_eq_false_iff_ne.2 h1;have q2:(n==10)=false:=beq_eq_false_iff_ne.2 h2;have q3:(n==11)=false:=beq_eq_false_iff_ne.2 h3;have q4:(n==12)=false:=beq_eq_false_iff_ne.2 h4;have q5:(n==13)=false:=beq_eq_false_iff_ne.2 h5;clear hb h0 h1 h2 h3 h4 h5
 all_goals
  go_enter Tryz.func198,Tryz.ntmps198
  go_wp2_with fail
  go_ret;exact⟨rfl,rfl⟩
theorem r13Signs_any (v:Value)(l:List Int)(w:World)(h:Ints w v l)(hl:l.length≤1099511627) :
  Calls Tryz.prog 160 #[v] w fun e w'=>∃ u,e=.returned u∧w'.ownsRow w.heap.size 3 1 u (foldS l).length (intCells (foldS l))∧Fz w w':=by
 obtain⟨a,cap,rfl,-,-,hx⟩:=Ints.form h
 have HX:=Hi hx;have HBL:=Hi r13blank_any;obtain⟨R,hR⟩:∃ R,R=foldS l:=⟨_,rfl⟩
 rw[←hR]
 have HR:=Hi hR;clear h hx hR;go_enter Tryz.func160,Tryz.ntmps160
 go_upto_block 0 with fail
 go_cut [3] from 10 to 21 (fun s wc=>∃ j:Nat,s=.int .i64 j∧j≤l.length∧(∀ (k:Nat) (n:Int),k<j→l[k]? = some n→blankB n=true)∧(∀ n,l[j]? = some n→blankB n=false)∧wc=w)
 case first=>
  go_wp2_with fail
  go_loopg [3] l.length (fun g s wr=>∃ j:Nat,g=l.length-j∧j≤l.length∧s=.int .i64 j∧(∀ (k:Nat) (n:Int),k<j→l[k]? = some n→blankB n=true)∧wr=w)
  case atStart=>exact⟨0,rfl,Nat.zero_le _,rfl,fun k n hk=>absurd hk (Nat.not_lt_zero _),rfl⟩
  case round=>
   obtain⟨j,hg,hj,rfl,hall,rfl⟩:=hrel
   have HG:=Hi hg;have HA:=Hi hall;clear hg hall;by_cases hjl:j<l.length
   ·obtain⟨b,off,rfl,hy⟩:=HX.out (by omega)
    obtain⟨x,hxj⟩:∃ x,l[j]? = some x:=⟨_,List.getElem?_eq_getElem hjl⟩
    have ex:=hy j x hxj;have HXJ:=Hi hxj;have q1:(0:Int)≤(j:Int):=by omega
    have q2:(j:Int)<(l.length:Int):=by omega
    clear hy hxj;rcases Bool.eq_false_or_eq_true (blankB x) with hb|hb
    ·have HC:=HBL.out x wr
     rw[hb]at HC
     have HCC:=Hi HC;have HB:=Hi hb;clear HC hb;go_wp2_with fail
     refine HCC.out.mono ?_;rintro e w' ⟨rfl,rfl⟩;go_wp2_with fail
     go_roundg (l.length-(j+1))
     case measure=>rw[HG.out];omega
     case rel=>
      refine⟨j+1,rfl,by omega,by go_num,fun k n hk hn=>?_,rfl⟩
      rcases Nat.lt_or_ge k j with h|h
      ·exact HA.out k n h hn
      ·obtain rfl:k=j:=by omega
       rw[HXJ.out]at hn
       cases hn
       exact HB.out
    ·have HC:=HBL.out x wr
     rw[hb]at HC
     have HCC:=Hi HC;have HB:=Hi hb;clear HC hb;go_wp2_with fail
     refine HCC.out.mono ?_;rintro e w' ⟨rfl,rfl⟩;go_wp2_with fail
     go_meet
     exact⟨j,rfl,hj,HA.out,fun n hn=>by rw[HXJ.out]at hn;cases hn;exact HB.out,rfl⟩
   ·obtain rfl:j=l.length:=by omega
    have q2:¬(l.length:Int)<(l.length:Int):=by omega
    go_wp2_with fail
    go_meet
    exact⟨l.length,rfl,Nat.le_refl _,HA.out,fun n hn=>by simp at hn,rfl⟩
 case rest=>
  obtain⟨fr,rfl,hfl,hfa,hfn,rfl⟩:=hcut
  have HFA:=Hi hfa;have HFN:=Hi hfn;clear hfa hfn;go_upto_block 2 with fail
  go_cut [4] from 22 to 34 (fun s wx=>∃ t:Nat,s=.int .i64 t∧fr≤t∧t≤l.length∧(∀ (k:Nat) (n:Int),t≤k→l[k]? = some n→blankB n=true)∧(fr<t→∀ p,l[t-1]? = some p→blankB p=false)∧wx=wc)
  case first=>
   go_wp2_with fail
   go_loopg [4] l.length (fun g s wr=>∃ t:Nat,g=t∧fr≤t∧t≤l.length∧s=.int .i64 t∧(∀ (k:Nat) (n:Int),t≤k→l[k]? = some n→blankB n=true)∧wr=wc)
   case atStart=>
    have hn0:∀ (k:Nat) (n:Int),l.length≤k→l[k]? = some n→blankB n=true:=fun k n hk hn=>by
     rw[List.getElem?_eq_none hk]at hn
     cases hn
    refine⟨l.length,rfl,hfl,Nat.le_refl _,?_⟩
    first|exact⟨rfl,hn0,rfl⟩|exact⟨hn0,rfl⟩
   case round=>
    obtain⟨t,hg,hft,htl,rfl,hall,rfl⟩:=hrel
    have HG:=Hi hg;have HA:=Hi hall;clear hg hall;by_cases hlt:fr<t
    ·obtain⟨b,off,rfl,hy⟩:=HX.out (by omega)
     obtain⟨x,hxj⟩:∃ x,l[t-1]? = some x:=⟨_,List.getElem?_eq_getElem (by omega)⟩
     have ex:=hy (t-1) x hxj;have HXJ:=Hi hxj;have q1:(0:Int)≤(t:Int)-1:=by omega
     have q2:(t:Int)-1<(l.length:Int):=by omega
     have q3:(fr:Int)<(t:Int):=by omega
     have hin:((t:Int)-1).toNat=t-1:=by omega
     clear hy hxj;rcases Bool.eq_false_or_eq_true (blankB x) with hb|hb
     ·have HC:=HBL.out x wr
      rw[hb]at HC
      have HCC:=Hi HC;have HB:=Hi hb;clear HC hb;go_wp2_with fail
      refine HCC.out.mono ?_;rintro e w' ⟨rfl,rfl⟩;go_wp2_with fail
      go_roundg (t-1)
      case measure=>rw[HG.out];omega
      case rel=>
       refine⟨t-1,rfl,by omega,by omega,by congr 1;omega,fun k n hk hn=>?_,rfl⟩
       rcases Nat.lt_or_ge k t with h|h
       ·obtain rfl:k=t-1:=by omega
        rw[HXJ.out]at hn
        cases hn
        exact HB.out
       ·exact HA.out k n h hn
     ·have HC:=HBL.out x wr
      rw[hb]at HC
      have HCC:=Hi HC;have HB:=Hi hb;clear HC hb;go_wp2_with fail
      refine HCC.out.mono ?_;rintro e w' ⟨rfl,rfl⟩;go_wp2_with fail
      go_meet
      exact⟨t,rfl,hft,htl,HA.out,fun _ p hp=>by rw[HXJ.out]at hp;cases hp;exact HB.out,rfl⟩
    ·have q3:¬(fr:Int)<(t:Int):=by omega
     go_wp2_with fail
     go_meet
     exact⟨t,rfl,hft,htl,HA.out,fun h=>absurd h hlt,rfl⟩
  case rest=>
   obtain⟨t,rfl,hft,htl,hback,hlast,rfl⟩:=hcut
   have HBK:=Hi hback;have HLS:=Hi hlast;have hf0:=fold_front l fr hfl HFA.out;have HF0:=Hi hf0;clear hback hlast hf0;go_wp2_with fail
   go_loopg [5,6] (t-fr) (fun g u i wr=>∃ (j:Nat) (L:Nat) (a1:Option Addr) (c1:Nat),g=t-j∧fr≤j∧j≤t∧u=.slice a1 L c1∧i=.int .i64 j∧L=(fOut l j).length∧fAt l fr j∧wr.ownsRow wc.heap.size 3 1 (.slice a1 L c1) L (intCells (fOut l j))∧Fz wc wr)
   case atStart=>exact⟨fr,0,none,0,rfl,Nat.le_refl _,hft,rfl,rfl,by rw[fOut_front HF0.out];rfl,.inl ⟨rfl,HF0.out⟩,by rw[fOut_front HF0.out];exact⟨rfl,.inl ⟨rfl,rfl⟩⟩,Fr.refl _⟩
   case round=>
    obtain⟨j,L,a1,c1,hg,hfj,hjt,rfl,rfl,hL,hA,hO,F⟩:=hrel
    have HG:=Hi hg;have HL:=Hi hL;have HA:=Hi hA;have HO:=Hi hO;have HF:=Hi F;have hLl:L≤3000000000:=by have:=fOut_len l j;omega
    clear hg hL hA hO;by_cases hjl:j<t
    ·obtain⟨b,off,rfl,hy⟩:=HX.out (by omega)
     obtain⟨x,hxj⟩:∃ x,l[j]? = some x:=⟨_,List.getElem?_eq_getElem (by omega)⟩
     have ex:=F.cell (hy j x hxj) (fun h=>h);have HXJ:=Hi hxj;have q1:(0:Int)≤(j:Int):=by omega
     have q2:(j:Int)<(l.length:Int):=by omega
     have q3:(j:Int)<(t:Int):=by omega
     have hbase:wc.heap.size≤wr.heap.size:=F.size;have hvb:=(Vals.of_own HO.out).2;clear hxj;rcases Bool.eq_false_or_eq_true (blankB x) with hb|hb
     ·have hfr:fr<j:=by
       rcases Nat.lt_or_ge fr j with h|h
       ·exact h
       ·obtain rfl:fr=j:=by omega
        have:=HFN.out x HXJ.out;rw[hb]at this
        cases this
      obtain⟨p,hp⟩:∃ p,l[j-1]? = some p:=⟨_,List.getElem?_eq_getElem (by omega)⟩
      have ep:=F.cell (hy (j-1) p hp) (fun h=>h);obtain⟨hn1,hn2⟩:=fOut_blank HA.out hfr HXJ.out hp hb
      have HC:=HBL.out x wr;rw[hb]at HC
      have HCC:=Hi HC;have q4:(0:Int)≤(j:Int)-1:=by omega
      have q5:(j:Int)-1<(l.length:Int):=by omega
      have hin:((j:Int)-1).toNat=j-1:=by omega
      have HN1:=Hi hn1;have HN2:=Hi hn2;clear HC hy hn1 hn2 hp;rcases Bool.eq_false_or_eq_true (blankB p) with hbp|hbp
      ·have HP:=HBL.out p wr
       rw[hbp]at HP
       have HPP:=Hi HP;have hnx:fOut l (j+1)=fOut l j:=by rw[HN1.out,if_pos hbp,List.append_nil]
       have HNX:=Hi hnx;clear HP hbp hb hnx hvb F;go_wp2_with fail
       refine HCC.out.mono ?_;rintro e w' ⟨rfl,rfl⟩;go_wp2_with fail
       refine HPP.out.mono ?_;rintro e w' ⟨rfl,rfl⟩;go_wp2_with fail
       go_roundg (t-(j+1))
       case measure=>rw[HG.out];omega
       case rel=>exact⟨j+1,L,a1,c1,rfl,by omega,by omega,rfl,by go_num,by rw[HNX.out];exact HL.out,HN2.out,by rw[HNX.out];exact HO.out,HF.out⟩
      ·have HP:=HBL.out p wr
       rw[hbp]at HP
       have HPP:=Hi HP;have hnx:fOut l (j+1)=fOut l j++[32]:=by rw[HN1.out,if_neg (by rw[hbp];decide)]
       have HNX:=Hi hnx;obtain⟨a7,c7,w7,hr7,ho7,F7,-⟩:=add_int HO.out hbase (by omega) (32:Int) wr.heap.size ((Fr.refl (S:=fun _=>False) wr).alloc (.cells #[.int .i64 (32:Int)] 3)) (Blk.new wr 3 #[.int .i64 (32:Int)])
       have HF7:=Hi (F.trans' F7 (fun i hi e=>by have:=hvb i e;omega));rw[←hnx]at ho7
       have HO7:=Hi ho7;have HRUN:=Hi hr7;clear HP hbp hb hnx hvb F ho7 hr7 F7;go_wp2_with fail
       refine HCC.out.mono ?_;rintro e w' ⟨rfl,rfl⟩;go_wp2_with fail
       refine HPP.out.mono ?_;rintro e w' ⟨rfl,rfl⟩;go_wp2_with (at_builtin;refine wpList_append_run (by rfl) (.tmp 54) (.tmp 55) 103 (by rfl) _ w7 (by exact HRUN.out) ?_)
       go_roundg (t-(j+1))
       case measure=>rw[HG.out];omega
       case rel=>exact⟨j+1,L+1,a7,c7,rfl,by omega,by omega,rfl,by go_num,by rw[HNX.out,List.length_append,←HL.out];rfl,HN2.out,HO7.out,HF7.out⟩
     ·obtain⟨hn1,hn2⟩:=fOut_sign HA.out hfj HXJ.out hb
      have HC:=HBL.out x wr;rw[hb]at HC
      have HCC:=Hi HC;obtain⟨y,hyx⟩:∃ y,y=smallS x:=⟨_,rfl⟩
      rw[←hyx]at hn1
      obtain⟨a7,c7,w7,hr7,ho7,F7,-⟩:=add_int HO.out hbase (by omega) y wr.heap.size ((Fr.refl (S:=fun _=>False) wr).alloc (.cells #[.int .i64 y] 3)) (Blk.new wr 3 #[.int .i64 y])
      have HF7:=Hi (F.trans' F7 (fun i hi e=>by have:=hvb i e;omega));rw[←hn1]at ho7
      have HO7:=Hi ho7;have HRUN:=Hi hr7;have HN1:=Hi hn1;have HN2:=Hi hn2;have hcase:((64:Int)<x∧x<91∧x+32=y)∨((64:Int)<x∧¬x<91∧x=y)∨(¬(64:Int)<x∧x=y):=by
       unfold smallS at hyx;split at hyx<;>omega
      clear HC hb hn1 hn2 hvb F ho7 hr7 F7 hyx hy;rcases hcase with ⟨g1,g2,g3⟩|⟨g1,g2,g3⟩|⟨g1,g3⟩
      all_goals
       subst g3;go_wp2_with fail
       refine HCC.out.mono ?_;rintro e w' ⟨rfl,rfl⟩;go_wp2_with (at_builtin;refine wpList_append_run (by rfl) (.tmp 65) (.tmp 67) 103 (by rfl) _ w7 (by exact HRUN.out) ?_)
       go_roundg (t-(j+1))
       case measure=>rw[HG.out];omega
       case rel=>exact⟨j+1,L+1,a7,c7,rfl,by omega,by omega,rfl,by go_num,by rw[HN1.out,List.length_append,←HL.out];rfl,HN2.out,HO7.out,HF7.out⟩
    ·obtain rfl:j=t:=by omega
     have q3:¬(j:Int)<(j:Int):=by omega
     have hres:R=fOut l j:=by rw[HR.out];exact fOut_all HA.out htl HLS.out HBK.out
     have HRES:=Hi hres;clear hres;go_wp2_with fail
     exact bodyPost_ret (v:=.slice a1 L c1) (by simp[results,Tryz.results160,go_sem]) rfl ⟨_,rfl,by rw[HRES.out,←HL.out];exact HO.out,HF.out⟩
theorem r06Utf8_may (v:Value)(l:List Int)(w:World)(h:Ints w v l)(hm:∀ n∈l,mayS 12 n=true)(hl:l.length≤100000000) :
  Calls Tryz.prog 159 #[v] w fun e w'=>∃ v',e=.returned v'∧w'.ownsRow w.heap.size 5 1 v' (ofS 12 l).length (Lib.byteCells (ofS 12 l))∧Fz w w':=by
 obtain⟨h1,h2,h3⟩:=may_nats hm
 rw[h1]at h
 have:=r06Utf8_any v (l.map Int.toNat) w h h2 (by simpa using hl);rw[h3]at this
 exact this
theorem r13Key_any (k:Int)(v:Value)(b:List UInt8)(w:World)(h:Bytes w v b)(hr:rightS k b=true)(hl:b.length≤16777216) :
  Calls Tryz.prog 123 #[.agg #[.int .i64 k,v]] w fun e w'=>e=.returned (.tuple #[str (foldKeyS k b),.bool true])∧Fz w w':=by
 obtain⟨a,cap,rfl,-⟩:=h.form
 have F0:Fz w (w.alloc (.cells #[.int .i64 k,.slice a b.length cap] 188)):=(Fr.refl w).alloc _;obtain⟨z,hz⟩:∃ z,z=w.heap.size:=⟨_,rfl⟩
 have BZ:=Blk.new w 188 #[.int .i64 k,.slice a b.length cap];rw[←hz]at BZ
 have HZ:=Hi hz;have hS:=r06Signs_any k _ b _ (h.old F0) hl;unfold RSigOut at hS;rw[sigR_right hr]at hS
 simp only[Option.isSome_some,Option.getD_some]at hS
 have HS:=Hi hS;have hsl:=signsS_len k b;have HM:=Hi (fun n hn=>may12 (right_all hr n hn));have hfk:foldKeyS k b=ofS 12 (foldS (signsS k b)):=rfl;rw[hfk]
 obtain⟨S,hSS⟩:∃ S,S=signsS k b:=⟨_,rfl⟩
 rw[←hSS]at HS HM hsl ⊢
 have hfl:(foldS S).length≤2*S.length:=foldAcc_len S;have HFM:=Hi (fold_may HM.out);obtain⟨R,hR⟩:∃ R,R=foldS S:=⟨_,rfl⟩
 rw[←hR]at hfl HFM ⊢
 have HR:=Hi hR;have HF0:=Hi F0;clear h hz hS hfk hSS hR F0 hr HM;go_enter Tryz.func123,Tryz.ntmps123
 go_upto_region 1 with fail
 rw[←HZ.out]
 generalize (w.alloc (.cells #[.int .i64 k,.slice a b.length cap] 188))=w0 at *
 have z0:=BZ.cell 0;have z1:=BZ.cell 1;simp only[SG]at z0 z1
 go_wp2_with fail
 refine HS.out.mono ?_;rintro e w1 ⟨v1,rfl,h1,F1⟩;obtain⟨a1,c1,rfl,-⟩:=Ints.form h1
 have HG:=Hi (r13Signs_any _ S w1 h1 (by omega));rw[←HR.out]at HG
 have HF1:=Hi (HF0.out.trans F1);clear h1 F1 HS z0 z1;go_wp2_with fail
 refine HG.out.mono ?_;rintro e w2 ⟨v2,rfl,ho2,F2⟩;have hI2:=(Vals.of_own ho2).1;obtain⟨a2,c2,rfl,-⟩:=Ints.form hI2
 have HU:=Hi (r06Utf8_may _ R w2 hI2 HFM.out (by omega));have HF2:=Hi (HF1.out.trans F2);clear ho2 hI2 F2 HG;go_wp2_with fail
 refine HU.out.mono ?_;rintro e w3 ⟨v3,rfl,ho3,F3⟩;have hB3:=(Vals.of_own ho3).1;obtain⟨a3,c3,rfl,-⟩:=Vals.form hB3
 have hcv:=str_of hB3;have HF3:=Hi (HF2.out.trans F3);clear ho3 hB3 F3 HU;go_wp2_with fail
 exact bodyPost_ret (v:=.tuple #[str (ofS 12 R),.bool true]) (by simp[results,Tryz.results123,go_sem]) rfl ⟨rfl,HF3.out⟩
theorem hexL_index (m:Nat)(h:m<16)(w:World):(Instr.index 9 (.string ⟨#[48,49,50,51,52,53,54,55,56,57,97,98,99,100,101,102]⟩) (.int .u8 m)).run Tryz.prog w=.ok (.int .u8 (hexN (m:Int))) w:=by
 have hsz:(ByteArray.mk #[48,49,50,51,52,53,54,55,56,57,97,98,99,100,101,102]).size=16:=rfl;rw[run_index_string w 9 _ .u8 m Tryz.underlying9,dif_pos ⟨by omega,by rw[hsz];omega⟩]
 have h1:=hexL_fin ⟨m,h⟩;have h2:=hexN_fin ⟨m,h⟩;simp only at h1 h2
 obtain⟨hl,he⟩:=List.getElem?_eq_some_iff.1 h1
 have h3:((UInt8.ofNat (hexN (m:Int)).toNat).toNat:Int)=hexN (m:Int):=by omega
 rw[←h3,←he]
 simp[ByteArray.getElem_eq_getElem_data]
theorem r01Hex_any (v:Value)(l:List UInt8)(w:World)(h:Bytes w v l)(hl:l.length≤109951162) :
  Calls Tryz.prog 124 #[v] w fun e w'=>e=.returned (str (hexS l))∧Fz w w':=by
 obtain⟨a,cap,rfl,-,-,hx⟩:=h.form
 have HX:=Hi hx;obtain⟨R,hR⟩:∃ R,R=hexS l:=⟨_,rfl⟩
 rw[←hR]
 have HR:=Hi hR;clear h hx hR;go_enter Tryz.func124,Tryz.ntmps124
 go_wp2_with fail
 go_loopg [3,4] l.length (fun g s i wr=>∃ (j L:Nat) (a1:Option Addr) (c1:Nat),g=l.length-j∧j≤l.length∧s=.slice a1 L c1∧i=.int .i64 j∧L=(hexS (l.take j)).length∧wr.ownsRow w.heap.size 5 1 (.slice a1 L c1) L (Lib.byteCells (hexS (l.take j)))∧Fz w wr)
 case atStart=>exact⟨0,0,none,0,rfl,Nat.zero_le _,rfl,rfl,rfl,⟨rfl,.inl ⟨rfl,rfl⟩⟩,Fr.refl _⟩
 case round=>
  obtain⟨j,L,a1,c1,hg,hj,rfl,rfl,hL,hO,F⟩:=hrel
  have HG:=Hi hg;have HL:=Hi hL;have HO:=Hi hO;have HF:=Hi F;have hLl:L≤300000000:=by rw[hL,hexS_len,List.length_take];omega
  clear hg hL hO;by_cases hjl:j<l.length
  ·obtain⟨b,off,rfl,hy⟩:=HX.out (by omega)
   obtain⟨x,hxj⟩:∃ x,l[j]? = some x:=⟨_,List.getElem?_eq_getElem hjl⟩
   have ex:=F.cell (hy j x hxj) (fun h=>h);have HT:=Hi (hexS_take hxj);have hx256:=x.toNat_lt;obtain⟨y,hyx⟩:∃ y,y=x.toNat:=⟨_,rfl⟩
   rw[←hyx]at ex hx256
   obtain⟨q,hq⟩:∃ q,q=y / 16:=⟨_,rfl⟩
   obtain⟨r,hr⟩:∃ r,r=y % 16:=⟨_,rfl⟩
   have hq16:q<16:=by omega
   have hr16:r<16:=by omega
   have hqi:(y:Int) / 16=(q:Int):=by omega
   have hri:(y:Int) % 16=(r:Int):=by omega
   have hh:hex1 x=[UInt8.ofNat (hexN (q:Int)).toNat,UInt8.ofNat (hexN (r:Int)).toNat]:=by
    unfold hex1;rw[←hyx,hqi,←hr]
   have i1:=hexL_index q hq16;have i2:=hexL_index r hr16;have k1:=hexN_fin ⟨q,hq16⟩;have k2:=hexN_fin ⟨r,hr16⟩;simp only at k1 k2
   generalize hexN (q:Int)=d1 at *
   generalize hexN (r:Int)=d2 at *
   have FD:Fz wr wr.drew:=(Fr.refl wr).drew;have hsrc:Bytes (wr.drew.alloc (.cells #[.int .u8 d1,.int .u8 d2] 5)) (.slice (some ⟨wr.drew.heap.size,0,none⟩) 2 2) [UInt8.ofNat d1.toNat,UInt8.ofNat d2.toNat]:=by
    have BX:=Blk.new wr.drew 5 #[.int .u8 d1,.int .u8 d2];have e1:((UInt8.ofNat d1.toNat).toNat:Int)=d1:=by omega
    have e2:((UInt8.ofNat d2.toNat).toNat:Int)=d2:=by omega
    have ec:(#[.int .u8 d1,.int .u8 d2]:Array Value)=(Lib.byteCells [UInt8.ofNat d1.toNat,UInt8.ofNat d2.toNat]).toArray:=by
     simp only[Lib.byteCells,List.map_cons,List.map_nil,e1,e2]
    have BX':Blk (wr.drew.alloc (.cells #[.int .u8 d1,.int .u8 d2] 5)) wr.drew.heap.size 5 (Lib.byteCells [UInt8.ofNat d1.toNat,UInt8.ofNat d2.toNat]).toArray:=by rw[←ec];exact BX
    exact Vals.of_block BX' (by simp[Lib.byteCells];unfold maxLen;omega)
   have F3:Fz wr.drew (wr.drew.alloc (.cells #[.int .u8 d1,.int .u8 d2] 5)):=(Fr.refl wr.drew).alloc _;obtain⟨v4,w4,hr4,ho4,F4,_⟩:=append_bytes (ownsRow_fr (ownsRow_fr HO.out FD (fun _ _ h=>h)) F3 (fun _ _ h=>h)) (some ⟨wr.drew.heap.size,0,none⟩) 2 2 _ hsrc (by omega) (Nat.le_trans (F.trans FD).size F3.size)
   have hvb:=(Vals.of_own HO.out).2;have HF4:=Hi (((F.trans FD).trans F3).trans' F4 (fun i hi e=>by have:=hvb i e;omega));obtain⟨a4,m4,c4,rfl,rfl⟩:=own_shape ho4
   have hT2:=HT.out;rw[hh]at hT2
   rw[←hT2]at ho4
   have HO4:=Hi ho4;have HRUN:=Hi hr4;have HT2:=Hi hT2;have q1:(0:Int)≤(j:Int):=by omega
   have q2:(j:Int)<(l.length:Int):=by omega
   have hti:(y:Int).tmod 16=(r:Int):=by rw[Int.tmod_eq_emod_of_nonneg (by omega)];exact hri
   have w1:IntKind.u8.wrap (q:Int)=(q:Int):=by simp[IntKind.wrap,IntKind.signed,IntKind.bits];omega
   have w2:IntKind.u8.wrap (r:Int)=(r:Int):=by simp[IntKind.wrap,IntKind.signed,IntKind.bits];omega
   clear hy hxj hyx hq hr hh FD k1 k2 hsrc F3 hr4 ho4 F4 hvb hT2 HT F;go_upto_region 5 with fail
   go_region_law (first|(refine step_append_run (by rfl) (.tmp 11) (.tmp 24) 38 (by rfl) _ w4 (by exact HRUN.out) ?_)|fail)
   all_goals
    go_wp2_with fail
    go_roundg (l.length-(j+1))
    case measure=>rw[HG.out];omega
    case rel=>exact⟨j+1,L+2,a4,c4,rfl,by omega,rfl,by go_num,by rw[HT2.out,List.length_append,←HL.out];rfl,HO4.out,HF4.out⟩
  ·obtain rfl:j=l.length:=by omega
   have q2:¬(l.length:Int)<(l.length:Int):=by omega
   have hO2:=HO.out;have hL2:=HL.out;rw[List.take_length,←HR.out]at hO2 hL2
   have hb:=(Vals.of_own hO2).1;have hcv:=str_of hb;clear hb hO2 hL2;go_wp2_with fail
   go_ret;exact⟨rfl,HF.out⟩
theorem r14Text_any (v:Value)(b:List UInt8)(w:World)(h:Bytes w v b)(hl:b.length≤16777216) :
  Calls Tryz.prog 122 #[v] w fun e w'=>WordsOut w' b e∧Fz w w':=by
 obtain⟨a,cap,rfl,-⟩:=h.form
 obtain⟨z,hz⟩:∃ z,z=w.heap.size:=⟨_,rfl⟩
 have BZ:=Blk.new w 188 #[.int .i64 0,.slice none 0 0];have F0:Fz w (w.alloc (.cells #[.int .i64 0,.slice none 0 0] 188)):=(Fr.refl w).alloc _;rw[←hz]at BZ
 have hzw:∀ k,k<w.heap.size→k=z→False:=fun k hk e=>by omega
 have HZ:=Hi hz;have hT:=r06Read_any _ b 0 w _ h F0 (by omega) hl;unfold RTextOut at hT;rw[List.drop_zero]at hT
 have HT:=Hi hT;have HF0:=Hi F0;have HZW:=Hi hzw;clear h hz F0 hzw hT;go_enter Tryz.func122,Tryz.ntmps122
 go_upto_region 1 with fail
 rw[←HZ.out]
 generalize (w.alloc (.cells #[.int .i64 0,.slice none 0 0] 188))=w0 at *
 go_wp2_with fail
 refine HT.out.mono ?_;rintro e w1 ⟨hout,F⟩;replace BZ:=BZ.fr F (fun h=>h);have HF:=Hi (HF0.out.trans F);clear F HF0 HT;cases hr:textReadS b with
 |error x=>
  rw[hr]at hout
  subst hout;have hx:=textRead_err hr;have hx1:(x==0)=false:=beq_eq_false_iff_ne.2 hx;have HRR:=Hi hr;go_upto_region 2 with fail
  have BZ4:=BZ.alloc (.cells #[.int .i64 0,.slice none 0 0] 188);have BY4:=Blk.new w1 188 #[.int .i64 0,.slice none 0 0];have F4:Fz w1 (w1.alloc (.cells #[.int .i64 0,.slice none 0 0] 188)):=(Fr.refl w1).alloc _;obtain⟨y,hy⟩:∃ y,y=w1.heap.size:=⟨_,rfl⟩
  rw[←hy]at BY4 ⊢
  clear hy;generalize (w1.alloc (.cells #[.int .i64 0,.slice none 0 0] 188))=w4 at *
  have y0:=BY4.cell 0;have y1:=BY4.cell 1;simp only[SG]at y0 y1
  have SZ:=BZ4.cell;have ZZ:=BZ4.frozen;obtain⟨BZ5,F5⟩:=set2 BZ4 (.int .i64 0) (.slice none 0 0)
  have n0:=BZ5.cell 0;have n1:=BZ5.cell 1;simp only[SG]at n0 n1
  have HF5:=Hi ((HF.out.trans F4).trans' F5 HZW.out);clear hr F4 BZ BZ4 BZ5 F5 BY4 hx;go_wp2_with fail
  refine bodyPost_ret (v:=.tuple #[.agg #[.int .i64 0,.slice none 0 0],.bool false]) (by simp[results,Tryz.results122,go_sem,n0,n1]) rfl ⟨?_,HF5.out⟩;unfold WordsOut;rw[HRR.out]
 |ok kbn=>
  obtain⟨k,t,n⟩:=kbn
  rw[hr]at hout
  obtain⟨u,rfl,hu⟩:=hout
  have HRR:=Hi hr;obtain⟨au,cu,rfl,-⟩:=hu.form
  go_upto_region 2 with fail
  have BZ4:=BZ.alloc (.cells #[.int .i64 k,.slice au t.length cu] 188);have BY4:=Blk.new w1 188 #[.int .i64 k,.slice au t.length cu];have F4:Fz w1 (w1.alloc (.cells #[.int .i64 k,.slice au t.length cu] 188)):=(Fr.refl w1).alloc _;obtain⟨y,hy⟩:∃ y,y=w1.heap.size:=⟨_,rfl⟩
  rw[←hy]at BY4 ⊢
  clear hy;generalize (w1.alloc (.cells #[.int .i64 k,.slice au t.length cu] 188))=w4 at *
  have y0:=BY4.cell 0;have y1:=BY4.cell 1;simp only[SG]at y0 y1
  have SZ:=BZ4.cell;have ZZ:=BZ4.frozen;obtain⟨BZ5,F5⟩:=set2 BZ4 (.int .i64 k) (.slice au t.length cu)
  have n0:=BZ5.cell 0;have n1:=BZ5.cell 1;simp only[SG]at n0 n1
  have HF5:=Hi ((HF.out.trans F4).trans' F5 HZW.out);have HB:=Hi (hu.old HF5.out);clear hr F4 BZ BZ4 BZ5 F5 BY4 hu;go_wp2_with fail
  refine bodyPost_ret (v:=.tuple #[.agg #[.int .i64 k,.slice au t.length cu],.bool true]) (by simp[results,Tryz.results122,go_sem,n0,n1]) rfl ⟨?_,HF5.out⟩;unfold WordsOut;rw[HRR.out]
  exact⟨_,rfl,HB.out⟩
theorem r14partKey_any (x y:Value)(o:List Int)(b:List UInt8)(w:World)(hx:Ints w x o)(hy:Bytes w y b)(ho:oidOk o=true)(hl:b.length≤10000000) :
  Calls Tryz.prog 85 #[.agg #[x,y]] w fun e w'=>e=.returned (str (attrKeyS o b))∧Fz w w':=by
 obtain⟨ax,cx,rfl,-⟩:=Ints.form hx
 obtain⟨ay,cy,rfl,-⟩:=Vals.form hy
 obtain⟨z,hz⟩:∃ z,z=w.heap.size:=⟨_,rfl⟩
 have BZ:=Blk.new w 106 #[.slice ax o.length cx,.slice ay b.length cy];have F0:Fz w (w.alloc (.cells #[.slice ax o.length cx,.slice ay b.length cy] 106)):=(Fr.refl w).alloc _;have HT:=Hi (r04Text_any _ o _ (hx.old F0) (oid_arcs ho) (by have:=(nums_ok ho).2.1;omega));have HY:=Hi (hy.old F0);rw[←hz]at BZ
 have HF0:=Hi F0;have HZ:=Hi hz;have hk:attrKeyS o b=oidTextS o++(match textReadS b with|.ok (k,t,_)=>[61,116]++hexS (foldKeyS k t)|.error _=>[61,98]++hexS b):=rfl;have HK:=Hi hk;have ho0:=Hi ho;clear hx hy F0 hz ho hk;have hol:o.length≤32:=(nums_ok ho0.out).2.1;have hot:(oidTextS o).length≤1000:=by
  have hall:=ho0.out;simp only[oidOk,Bool.and_eq_true,decide_eq_true_eq]at hall
  have:=oidText_len (o:=o) (fun n hn=>by
   have:=List.all_eq_true.1 hall.1.2 n hn;simp only[arcOk,decide_eq_true_eq]at this
   omega)
  omega
 have hos:(ByteArray.mk (oidTextS o).toArray).size=(oidTextS o).length:=by simp[ByteArray.size]
 generalize oidTextS o=ot at *
 go_enter Tryz.func85,Tryz.ntmps85
 go_upto_region 1 with fail
 rw[←HZ.out]
 generalize (w.alloc (.cells #[.slice ax o.length cx,.slice ay b.length cy] 106))=w0 at *
 have z0:=BZ.cell 0;simp at z0
 go_wp2_with fail
 refine HT.out.mono ?_;rintro e w1 ⟨rfl,F1⟩;have BZ1:=BZ.fr F1 (fun h=>h);have z1:=BZ1.cell 1;simp at z1
 have HY1:=Hi (HY.out.old F1);have HF1:=Hi (HF0.out.trans F1);clear HT HY HF0 F1 z0 BZ;go_wp2_with fail
 refine(r14Text_any _ b w1 HY1.out (by omega)).mono ?_
 rintro e w2 ⟨hout,F2⟩;have BZ2:=BZ1.fr F2 (fun h=>h);have HY2:=Hi (HY1.out.old F2);have HF2:=Hi (HF1.out.trans F2);unfold WordsOut at hout;clear HY1 HF1 F2 z1 BZ1;cases hr:textReadS b with
 |error x=>
  rw[hr]at hout
  subst hout;have F3:Fz w2 (w2.alloc (.cells #[.int .i64 0,.slice none 0 0] 188)):=(Fr.refl w2).alloc _;have BZ3:=BZ2.fr F3 (fun h=>h);have z1:=BZ3.cell 1;simp only[SG]at z1
  have HX:=Hi (r01Hex_any _ b _ (HY2.out.old F3) (by omega));have HF3:=Hi (HF2.out.trans F3);have hkk:=HK.out;rw[hr]at hkk
  have HKK:=Hi hkk;have hhl:=hexS_len b;have hhs:(ByteArray.mk (hexS b).toArray).size=(hexS b).length:=by simp[ByteArray.size]
  clear hr hkk HY2 HF2 F3 BZ2 BZ3;generalize hexS b=hb at *
  go_wp2_with fail
  refine HX.out.mono ?_;rintro e w4 ⟨rfl,F4⟩;go_wp2_with fail
  go_ret;refine⟨congrArg (fun x:ByteArray=>Ending.returned (.string x)) ?_,HF3.out.trans F4⟩
  rw[HKK.out,show ot++([61,98]++hb)=((ot++[61])++[98])++hb from by simp,←ba_cat,←ba_cat,←ba_cat]
 |ok kbn=>
  obtain⟨k,t,n⟩:=kbn
  rw[hr]at hout
  obtain⟨u,rfl,hu⟩:=hout
  obtain⟨hrt,htl⟩:=textRead_ok hr
  obtain⟨au,cu,rfl,-⟩:=hu.form
  have F3:Fz w2 (w2.alloc (.cells #[.int .i64 k,.slice au t.length cu] 188)):=(Fr.refl w2).alloc _;have HX:=Hi (r13Key_any k _ t _ (hu.old F3) hrt (by omega));have HF3:=Hi (HF2.out.trans F3);have hkk:=HK.out;rw[hr]at hkk
  simp only at hkk
  have HKK:=Hi hkk;have hfl:=foldKey_len k t;clear hr hkk HY2 HF2 F3 BZ2 hu hrt;generalize foldKeyS k t=fk at *
  go_upto_region 4 with fail
  have BY:=Blk.new w2 188 #[.int .i64 k,.slice au t.length cu];obtain⟨y,hy⟩:∃ y,y=w2.heap.size:=⟨_,rfl⟩
  rw[←hy]at BY ⊢
  clear hy;generalize (w2.alloc (.cells #[.int .i64 k,.slice au t.length cu] 188))=w3 at *
  have y0:=BY.cell 0;have y1:=BY.cell 1;simp only[SG]at y0 y1
  go_wp2_with fail
  refine HX.out.mono ?_;rintro e w4 ⟨rfl,F4⟩;obtain⟨cp,wc,hcv,hbv,FC,-⟩:=bytes_of_str w4 fk (by omega)
  have HXX:=Hi (r01Hex_any _ fk wc hbv (by omega));have HF4:=Hi ((HF3.out.trans F4).trans FC);have hhl:=hexS_len fk;have hhs:(ByteArray.mk (hexS fk).toArray).size=(hexS fk).length:=by simp[ByteArray.size]
  clear HX HF3 F4 hbv FC BY y0 y1;generalize hexS fk=hb at *
  go_wp2_with fail
  refine HXX.out.mono ?_;rintro e w5 ⟨rfl,F5⟩;go_wp2_with fail
  go_ret;refine⟨congrArg (fun x:ByteArray=>Ending.returned (.string x)) ?_,HF4.out.trans F5⟩
  rw[HKK.out,show ot++([61,116]++hb)=((ot++[61])++[116])++hb from by simp,←ba_cat,←ba_cat,←ba_cat]
theorem r14Key_any (v:Value)(n:List (List Part))(w:World)(h:NameAt w v n)(hf:∀ r∈n,fewB r)(hok:nameOk n=true) :
  Calls Tryz.prog 60 #[v] w fun e w'=>e=.returned (str (nameKeyS n))∧Fz w w':=by
 have H:=Hi h;obtain⟨hn64,hrd⟩:=name_rdns hok
 have HRD:=Hi hrd;obtain⟨a,cap,rfl,hc,hm,-⟩:=h
 have hkl:∀ k∈n.map rdnKeyS,k.length≤2560017616:=fun k hk=>by
  obtain⟨r,hr,rfl⟩:=List.mem_map.1 hk
  exact rdnKey_len (hf r hr) (hrd r hr)
 have HPL:=Hi (joinF_len 47 2560017616 64 hkl (by rw[List.length_map];exact hn64));have hJ:∀ j,Lib.join ((n.map rdnKeyS).take j) [47]=Lib.join ((n.take j).map rdnKeyS) [47]:=fun j=>by rw[←List.map_take]
 have HNK:=Hi (show nameKeyS n=Lib.join ((n.map rdnKeyS).take n.length) [47] from by unfold nameKeyS;rw[List.take_of_length_le (by rw[List.length_map];omega)]);clear hkl hJ hok hrd;go_enter Tryz.func60,Tryz.ntmps60
 go_wp2_with fail
 go_loopg [3,4] n.length (fun g o i wr=>∃ j:Nat,g=n.length-j∧j≤n.length∧o=str (Lib.join ((n.map rdnKeyS).take j) [47])∧i=.int .i64 j∧Fz w wr)
 case atStart=>exact⟨0,rfl,Nat.zero_le _,rfl,rfl,Fr.refl _⟩
 case round=>
  obtain⟨j,hg,hj,rfl,rfl,F⟩:=hrel
  have HG:=Hi hg;have HF:=Hi F;obtain⟨J,hJ⟩:∃ J,J=Lib.join ((n.map rdnKeyS).take j) [47]:=⟨_,rfl⟩
  have hJl:J.length≤200000000000:=by rw[hJ];have:=HPL.out j;omega
  rw[←hJ]
  by_cases hjl:j<n.length
  ·obtain⟨a0,cap0,he,_,_,hx⟩:=H.out
   simp only[Value.slice.injEq,true_and]at he
   obtain⟨rfl,rfl⟩:=he
   obtain⟨b,off,rfl,hy⟩:=hx (by omega)
   obtain⟨r,hr⟩:∃ r,n[j]? = some r:=⟨_,List.getElem?_eq_getElem hjl⟩
   obtain⟨x,e0,hA⟩:=hy j r hr
   have hmem:=List.mem_of_getElem? hr;obtain⟨hr16,hro⟩:=rdn_oids (HRD.out r hmem)
   have HRO:=Hi hro;have HRF:=Hi (hf r hmem);obtain⟨P,hP⟩:∃ P,P=if j=0 then [] else J++[47]:=⟨_,rfl⟩
   have hnext:Lib.join ((n.map rdnKeyS).take (j+1)) [47]=P++rdnKeyS r:=by
    have:=join_take 47 (ks:=n.map rdnKeyS) (j:=j) (k:=rdnKeyS r) (by rw[List.getElem?_map,hr];rfl);rw[this,hP,hJ]
   have hPl:P.length≤200000000001:=by
    rw[hP]
    split
    ·simp
    ·rw[List.length_append];simp;omega
   have HNX:=Hi hnext;have HP:=Hi hP;have HA:=Hi hA;have HE0:=Hi e0;have HK2:=Hi (show rdnKeyS r=Lib.join (keysS r) [43] from rfl);have hKl:=keysS_len r;have HNE:=Hi (fun c hc=>keysS_next r c hc);have hkm:∀ k∈keysS r,k.length≤160001100:=fun k hk=>by
    obtain⟨p,hp,rfl⟩:=keysS_mem hk
    exact attrKey_len (hro p hp) (hf r hmem p hp)
   have HKM:=Hi hkm;have HQL:=Hi (joinF_len 43 160001100 16 hkm (by omega));have r1:(0:Int)≤(j:Int):=by omega
   have r2:(j:Int)<(n.length:Int):=by omega
   have hJ0:j=0→J=[]:=fun h=>by rw[hJ,h];simp[Lib.join]
   have HJ0:=Hi hJ0;clear hx hy hr hA hmem hro hP hnext hkm e0 hJ hg F hJ0;obtain⟨K,hK⟩:∃ K,K=keysS r:=⟨_,rfl⟩
   rw[←hK]at HK2 hKl HNE HKM HQL
   have hJs:(ByteArray.mk J.toArray).size=J.length:=by simp[ByteArray.size]
   clear hK;go_upto_region 5 with fail
   have hpos:j=0∨0<j:=by omega
   rcases hpos with hj0|hj0
   case' inl=>
    have q1:decide ((0:Int)<(j:Int))=false:=decide_eq_false (by omega);have q2:decide (0<j)=false:=decide_eq_false (by omega);have hP0:P=J:=by rw[HP.out,if_pos hj0,HJ0.out hj0]
    clear HP HJ0 HPL hj0;subst hP0;go_upto_region 7 with fail
    clear q1 q2
   case' inr=>
    have q1:(0:Int)<(j:Int):=by omega
    have hP0:=HP.out;rw[if_neg (by omega)]at hP0
    clear HP HJ0 HPL;go_upto_region 7 with fail
    rw[show (Value.string ({ data:=J.toArray }++{ data:=#[47] }))=str P from by rw[hP0];exact congrArg Value.string (ba_cat _ _)]
    clear hP0 q1 hj0
   all_goals
    clear hJs hJl;obtain⟨wo,hwo⟩:∃ wo:World,wo=wr:=⟨_,rfl⟩
    obtain rfl:=hwo
    go_wp2_with fail
    go_loopg [3,5,6] K.length (fun g o la an wr=>∃ c:Nat,g=K.length-c∧c≤K.length∧o=str (P++Lib.join (K.take c) [43])∧la=str ((lastOf K c).getD [])∧an=.bool (lastOf K c).isSome∧Fz w wr)
    case atStart=>exact⟨0,rfl,Nat.zero_le _,by simp[Lib.join],rfl,rfl,HF.out⟩
    case round=>
     obtain⟨c,hg,hcK,rfl,rfl,rfl,F⟩:=hrel
     have HG2:=Hi hg;have HF2:=Hi F;have hls:=lastOf_isSome hcK;have HLS:=Hi hls;obtain⟨lo,hlo⟩:∃ lo,lo=lastOf K c:=⟨_,rfl⟩
     have hN:=HNE.out c hcK;rw[←hlo]at hN HLS ⊢
     have HN2:=Hi hN;have HLO:=Hi hlo;obtain⟨Q,hQ⟩:∃ Q,Q=P++Lib.join (K.take c) [43]:=⟨_,rfl⟩
     have hQl:Q.length≤300000000000:=by rw[hQ,List.length_append];have:=HQL.out c;omega
     rw[←hQ]
     have HQ:=Hi hQ;obtain⟨la,hla⟩:∃ la,la=lo.getD []:=⟨_,rfl⟩
     obtain⟨an,han⟩:∃ an,an=lo.isSome:=⟨_,rfl⟩
     rw[←hla,←han]
     have HLA:=Hi hla;have HAN:=Hi han;clear hg F hls hN hlo hQ hla han;obtain⟨wo2,hwo⟩:∃ wo:World,wo=wr:=⟨_,rfl⟩
     obtain rfl:=hwo
     go_wp2_with fail
     go_loopg [7,8,9] r.length (fun g nx fo k wr=>∃ i:Nat,g=r.length-i∧i≤r.length∧nx=str ((pickS lo (partKeys (r.take i))).getD [])∧fo=.bool (pickS lo (partKeys (r.take i))).isSome∧k=.int .i64 i∧Fz w wr)
     case atStart=>exact⟨0,rfl,Nat.zero_le _,rfl,rfl,rfl,HF2.out⟩
     case round=>
      obtain⟨i,hg,hir,rfl,rfl,rfl,F⟩:=hrel
      have HG3:=Hi hg;have HF3:=Hi F;have e0:=F.cell HE0.out (fun h=>h);obtain⟨a1,c1,hxe,_,_,hx⟩:=HA.out.old F
      subst hxe;obtain⟨bo,hbo⟩:∃ bo,bo=pickS lo (partKeys (r.take i)):=⟨_,rfl⟩
      rw[←hbo]
      have HBO:=Hi hbo;obtain⟨nx,hnx⟩:∃ nx,nx=bo.getD []:=⟨_,rfl⟩
      obtain⟨fo,hfo⟩:∃ fo,fo=bo.isSome:=⟨_,rfl⟩
      rw[←hnx,←hfo]
      have HNX2:=Hi hnx;have HFO:=Hi hfo;clear hg F hbo hnx hfo;by_cases hil:i<r.length
      ·obtain⟨b1,o1,rfl,hy⟩:=hx (by omega)
       obtain⟨p,hp⟩:∃ p,r[i]? = some p:=⟨_,List.getElem?_eq_getElem hil⟩
       obtain⟨x,y,e1,e2,hpx,hpy⟩:=hy i p hp
       have hpm:=List.mem_of_getElem? hp;have HPK:=Hi (r14partKey_any x y p.o p.b wr hpx hpy (HRO.out p hpm) (HRF.out p hpm));have hst:pickS lo (partKeys (r.take (i+1)))=pickStep lo bo (attrKeyS p.o p.b):=by rw[partKeys_snoc hp,pickS_snoc,HBO.out]
       have r3:(0:Int)≤(i:Int):=by omega
       have r4:(i:Int)<(r.length:Int):=by omega
       obtain⟨ax,cx,rfl,-⟩:=Ints.form hpx
       obtain⟨ay,cy,rfl,-⟩:=Vals.form hpy
       have e1':wr.cell? ⟨b1,o1+i*2,none⟩=some (.slice ax p.o.length cx):=by rw[Nat.mul_comm];exact e1
       have e2':wr.cell? ⟨b1,o1+i*2+1,none⟩=some (.slice ay p.b.length cy):=by rw[Nat.mul_comm];exact e2
       obtain⟨kp,hkp⟩:∃ kp,kp=attrKeyS p.o p.b:=⟨_,rfl⟩
       rw[←hkp]at HPK hst
       have HST:=Hi hst;have hB:(an=false∧behindB lo kp=true)∨(an=true∧Op.bytesLess kp la=true∧behindB lo kp=false)∨(an=true∧Op.bytesLess kp la=false∧(kp==la)=true∧behindB lo kp=false)∨(an=true∧Op.bytesLess kp la=false∧(kp==la)=false∧behindB lo kp=true):=by
        rw[behind_eq,←HLA.out,←HAN.out,←greater_of kp la]
        cases an<;>cases Op.bytesLess kp la<;>cases (kp==la)<;>simp
       have hT:(fo=false∧betterB bo kp=true)∨(fo=true∧Op.bytesLess kp nx=true∧betterB bo kp=true)∨(fo=true∧Op.bytesLess kp nx=false∧betterB bo kp=false):=by
        rw[better_eq,←HNX2.out,←HFO.out,←less_of (x:=kp)]
        cases fo<;>cases Op.bytesLess kp nx<;>simp
       have HB:=Hi hB;have HT:=Hi hT;clear hx hy hp hpx hpy hpm hkp e1 e2 hst hB hT;go_wp2_with fail
       refine HPK.out.mono ?_;rintro e w3 ⟨rfl,F3⟩;have HF4:=Hi (HF3.out.trans F3);clear HPK F3 e0 e1' e2';rcases HB.out with ⟨rfl,hb⟩|⟨rfl,d1,hb⟩|⟨rfl,d1,d2,hb⟩|⟨rfl,d1,d2,hb⟩<;>rcases HT.out with ⟨rfl,ht⟩|⟨rfl,d3,ht⟩|⟨rfl,d3,ht⟩
       all_goals
        have HS2:=Hi (And.intro hb ht);clear hb ht HB HT;go_wp2_with fail
        go_roundg (r.length-(i+1))
        case measure=>rw[HG3.out];omega
        case rel=>
         have hst:=HST.out;unfold pickStep at hst;rw[HS2.out.1,HS2.out.2]at hst
         refine⟨i+1,rfl,by omega,?_,?_,by go_num,HF4.out⟩
         ·rw[hst]
          first|rfl|(simp only[Bool.and_true,Bool.and_false,Bool.false_and,Bool.true_and,Bool.false_eq_true,if_true,if_false];first|rfl|rw[HNX2.out])
         ·rw[hst]
          first|rfl|(simp only[Bool.and_true,Bool.and_false,Bool.false_and,Bool.true_and,Bool.false_eq_true,if_true,if_false];first|rfl|rw[HFO.out])
      ·obtain rfl:i=r.length:=by omega
       have hb:=HBO.out;rw[List.take_length,HN2.out]at hb
       clear hx;rcases Nat.lt_or_ge c K.length with hcl|hcl
       ·obtain⟨m,hm2⟩:∃ m,K[c]? = some m:=⟨_,List.getElem?_eq_getElem hcl⟩
        have hml:=HKM.out m (List.mem_of_getElem? hm2);have hjt:=join_take 43 hm2;rw[hm2]at hb
        have hn2:=HNX2.out;have hf2:=HFO.out;rw[hb]at hn2 hf2
        have hn3:nx=m:=hn2;have hf3:fo=true:=hf2;subst hn3;subst hf3;have hlast:lastOf K (c+1)=some nx:=by rw[lastOf_succ];exact hm2
        have HLT:=Hi hlast;have hms:(ByteArray.mk nx.toArray).size=nx.length:=by simp[ByteArray.size]
        have hQs:(ByteArray.mk Q.toArray).size=Q.length:=by simp[ByteArray.size]
        have HJT:=Hi hjt;clear hb hn2 hf2 hm2 hlast hjt;by_cases hc0:c=0
        ·have ha0:an=false:=by rw[HAN.out,HLS.out,hc0];rfl
         have hjt:=HJT.out;rw[if_pos hc0]at hjt
         have hQP:Q=P:=by rw[HQ.out,hc0];simp[Lib.join]
         have HJ2:=Hi hjt;have HQP:=Hi hQP;subst ha0;clear hjt hQP hc0;go_wp2_with fail
         go_roundg (K.length-(c+1))
         case measure=>rw[HG2.out];omega
         case rel=>exact⟨c+1,rfl,by omega,by rw[HJ2.out,HQP.out];exact congrArg Value.string (ba_cat _ _),by rw[HLT.out];rfl,by rw[HLT.out];rfl,HF3.out⟩
        ·have ha0:an=true:=by rw[HAN.out,HLS.out];exact decide_eq_true hc0
         have hjt:=HJT.out;rw[if_neg hc0]at hjt
         have HJ2:=Hi hjt;subst ha0;clear hjt hc0;go_wp2_with fail
         go_roundg (K.length-(c+1))
         case measure=>rw[HG2.out];omega
         case rel=>exact⟨c+1,rfl,by omega,by rw[HJ2.out,←List.append_assoc,←List.append_assoc,←HQ.out];exact congrArg Value.string (by rw[ba_cat,ba_cat]),by rw[HLT.out];rfl,by rw[HLT.out];rfl,HF3.out⟩
       ·rw[List.getElem?_eq_none hcl]at hb
        have hf2:=HFO.out;rw[hb]at hf2
        have hf3:fo=false:=hf2;subst hf3;have hc2:c=K.length:=by omega
        have hres:Lib.join ((n.map rdnKeyS).take (j+1)) [47]=Q:=by rw[HNX.out,HK2.out,HQ.out,hc2,List.take_length]
        have HRES:=Hi hres;clear hb hf2 hc2 hres;go_wp2_with fail
        go_roundg (n.length-(j+1))
        case measure=>rw[HG.out];omega
        case rel=>exact⟨j+1,rfl,by omega,by rw[HRES.out],by go_num,HF3.out⟩
  ·obtain rfl:j=n.length:=by omega
   have hres:nameKeyS n=J:=by rw[HNK.out,hJ]
   have HRES:=Hi hres;clear hJ hres;go_wp2_with fail
   go_ret;exact⟨by rw[HRES.out];rfl,HF.out⟩
theorem r22Ahead_any (x y:RowP)(a1 b1 a2 b2:Option Addr)(c1 d1 c2 d2:Nat)(t1 r1 i1 t2 r2 i2:Int)(q1 q2:Bool)(w:World)(h1:NameAt w (.slice a1 x.iss.length c1) x.iss)(h2:Bytes w (.slice b1 x.num.size.length d1) x.num.size)(h3:NameAt w (.slice a2 y.iss.length c2) y.iss)(h4:Bytes w (.slice b2 y.num.size.length d2) y.num.size)(hx:fitR x)(hy:fitR y) :
  Calls Tryz.prog 40 #[.agg #[.slice a1 x.iss.length c1,.bool x.num.below,.slice b1 x.num.size.length d1,.int .i64 t1,.int .i64 r1,.bool q1,.int .i64 i1],.agg #[.slice a2 y.iss.length c2,.bool y.num.below,.slice b2 y.num.size.length d2,.int .i64 t2,.int .i64 r2,.bool q2,.int .i64 i2]] w fun e w'=>e=.returned (.int .i64 (rowC x y))∧Fz w w':=by
 rw[rowC_keys]
 obtain⟨r,hr⟩:∃ r,r=(if cmpL (nameKeyS x.iss) (nameKeyS y.iss)=0 then numC x.num y.num else cmpL (nameKeyS x.iss) (nameKeyS y.iss)):=⟨_,rfl⟩
 rw[←hr]
 obtain⟨ka,hka⟩:∃ k,k=nameKeyS x.iss:=⟨_,rfl⟩
 obtain⟨kb,hkb⟩:∃ k,k=nameKeyS y.iss:=⟨_,rfl⟩
 obtain⟨z,hz⟩:∃ z,z=w.heap.size:=⟨_,rfl⟩
 have HZ:=Hi hz;have F0:Fz w ((w.alloc (.cells #[.slice a1 x.iss.length c1,.bool x.num.below,.slice b1 x.num.size.length d1,.int .i64 t1,.int .i64 r1,.bool q1,.int .i64 i1] 56)).alloc (.cells #[.slice a2 y.iss.length c2,.bool y.num.below,.slice b2 y.num.size.length d2,.int .i64 t2,.int .i64 r2,.bool q2,.int .i64 i2] 56)):=((Fr.refl w).alloc _).alloc _
 have BA:=(Blk.new w 56 #[.slice a1 x.iss.length c1,.bool x.num.below,.slice b1 x.num.size.length d1,.int .i64 t1,.int .i64 r1,.bool q1,.int .i64 i1]).alloc (.cells #[.slice a2 y.iss.length c2,.bool y.num.below,.slice b2 y.num.size.length d2,.int .i64 t2,.int .i64 r2,.bool q2,.int .i64 i2] 56);have BB:=Blk.new (w.alloc (.cells #[.slice a1 x.iss.length c1,.bool x.num.below,.slice b1 x.num.size.length d1,.int .i64 t1,.int .i64 r1,.bool q1,.int .i64 i1] 56)) 56 #[.slice a2 y.iss.length c2,.bool y.num.below,.slice b2 y.num.size.length d2,.int .i64 t2,.int .i64 r2,.bool q2,.int .i64 i2]
 rw[World.size_alloc,←hz]at BB
 rw[←hz]at BA
 have HK1:=Hi (fun W (F:Fz ((w.alloc (.cells #[.slice a1 x.iss.length c1,.bool x.num.below,.slice b1 x.num.size.length d1,.int .i64 t1,.int .i64 r1,.bool q1,.int .i64 i1] 56)).alloc (.cells #[.slice a2 y.iss.length c2,.bool y.num.below,.slice b2 y.num.size.length d2,.int .i64 t2,.int .i64 r2,.bool q2,.int .i64 i2] 56)) W)=>show Calls Tryz.prog 60 #[.slice a1 x.iss.length c1] W (fun e w'=>e=.returned (str ka)∧Fz W w') from by rw[hka];exact r14Key_any _ x.iss W ((h1.old F0).old F) (fun r hr=>(hx.1.2 r hr).1) hx.2.1)
 have HK2:=Hi (fun W (F:Fz ((w.alloc (.cells #[.slice a1 x.iss.length c1,.bool x.num.below,.slice b1 x.num.size.length d1,.int .i64 t1,.int .i64 r1,.bool q1,.int .i64 i1] 56)).alloc (.cells #[.slice a2 y.iss.length c2,.bool y.num.below,.slice b2 y.num.size.length d2,.int .i64 t2,.int .i64 r2,.bool q2,.int .i64 i2] 56)) W)=>show Calls Tryz.prog 60 #[.slice a2 y.iss.length c2] W (fun e w'=>e=.returned (str kb)∧Fz W w') from by rw[hkb];exact r14Key_any _ y.iss W ((h3.old F0).old F) (fun r hr=>(hy.1.2 r hr).1) hy.2.1)
 have HC:=Hi (fun W (F:Fz ((w.alloc (.cells #[.slice a1 x.iss.length c1,.bool x.num.below,.slice b1 x.num.size.length d1,.int .i64 t1,.int .i64 r1,.bool q1,.int .i64 i1] 56)).alloc (.cells #[.slice a2 y.iss.length c2,.bool y.num.below,.slice b2 y.num.size.length d2,.int .i64 t2,.int .i64 r2,.bool q2,.int .i64 i2] 56)) W)=>r03Compare_any x.num.below y.num.below _ _ x.num.size y.num.size W ((h2.old F0).old F) ((h4.old F0).old F) hx.2.2 hy.2.2);rw[show (⟨x.num.below,x.num.size⟩:NumT)=x.num from rfl,show (⟨y.num.below,y.num.size⟩:NumT)=y.num from rfl]at HC
 rw[←hka,←hkb]at hr
 have HR:=Hi hr;have HF0:=Hi F0;clear h1 h2 h3 h4 hx hy hz F0 hr hka hkb;have hl:Op.bytesLess ka kb=decide (ka<kb):=less_of;have hg:(!(Op.bytesLess ka kb||ka==kb))=decide (kb<ka):=greater_of ka kb;obtain⟨p,hp⟩:∃ p,p=decide (ka<kb):=⟨_,rfl⟩
 obtain⟨q,hq⟩:∃ q,q=decide (kb<ka):=⟨_,rfl⟩
 have HP:=Hi hp;have HQ:=Hi hq;rw[←hp]at hl
 rw[←hq]at hg
 have HL:=Hi hl;have HGG:=Hi hg;clear hp hq hl hg;go_enter Tryz.func40,Tryz.ntmps40
 go_upto_region 1 with fail
 rw[←HZ.out]
 generalize ((w.alloc (.cells #[.slice a1 x.iss.length c1,.bool x.num.below,.slice b1 x.num.size.length d1,.int .i64 t1,.int .i64 r1,.bool q1,.int .i64 i1] 56)).alloc (.cells #[.slice a2 y.iss.length c2,.bool y.num.below,.slice b2 y.num.size.length d2,.int .i64 t2,.int .i64 r2,.bool q2,.int .i64 i2] 56))=w0 at *
 replace BA:=BA.drew;replace BB:=BB.drew;have G:Fz w0 w0.drew:=(Fr.refl w0).drew;refine wp_region_N 8 (S:=fun w'=>(∀ j,w'.cell? ⟨z,j,none⟩=(#[.slice a1 x.iss.length c1,.bool x.num.below,.slice b1 x.num.size.length d1,.int .i64 t1,.int .i64 r1,.bool q1,.int .i64 i1]:Array Value)[j]?)∧∀ j,w'.cell? ⟨z+1,j,none⟩=(#[.slice a2 y.iss.length c2,.bool y.num.below,.slice b2 y.num.size.length d2,.int .i64 t2,.int .i64 r2,.bool q2,.int .i64 i2]:Array Value)[j]?) (by kernel_rfl) ?_ (fun hHeld=>?_)
 ·exact⟨BA.cell,BB.cell⟩
 refine tkN 0 rfl hHeld ?_;refine tkN 1 rfl hHeld ?_;refine tkN 3 rfl hHeld ?_;(try simp only[Act.put,SS]);refine tkN 4 rfl hHeld ?_;(try simp only[Act.put,SS]);refine wpAnyN_step (i:=2) (by kernel_rfl) (o:=_) rfl (fun KK hKK=>?_);go_simp
 (go_at_call 60;(with_reducible refine(HK1.out _ G).mono ?_);rintro e w' ⟨rfl,F⟩;replace BA:=BA.fr F (fun h=>h);replace BB:=BB.fr F (fun h=>h);replace G:=G.trans F;clear F HK1;go_wp2_with fail)
 refine hKK.out _ _ ?_ (fun hHeld=>?_)
 ·exact⟨BA.cell,BB.cell⟩
 clear hKK KK;(try simp only[Act.put,SS]);refine wpAnyN_step (i:=5) (by kernel_rfl) (o:=_) rfl (fun KK hKK=>?_);go_simp
 (go_at_call 60;(with_reducible refine(HK2.out _ G).mono ?_);rintro e w2 ⟨rfl,F⟩;replace BA:=BA.fr F (fun h=>h);replace BB:=BB.fr F (fun h=>h);replace G:=G.trans F;clear F HK2;go_wp2_with fail)
 refine hKK.out _ _ ?_ (fun hHeld=>?_)
 ·exact⟨BA.cell,BB.cell⟩
 clear hKK KK;(try simp only[Act.put,SS]);refine tkN 6 rfl hHeld ?_;refine tkN 7 rfl hHeld ?_;(try simp only[Act.put,SS]);refine wpAnyN_done (by kernel_rfl) ?_ _;have d0:=BA.cell 1;have d1:=BA.cell 2;have e0:=BB.cell 1;have e1:=BB.cell 2;simp only[SG]at d0 d1 e0 e1
 have HCC:=Hi (HC.out _ G);have HGE:=Hi (HF0.out.trans G);have hl:=HL.out;have hgt:=fun W=>run_gtr 9 ka kb W
 rw[←HQ.out]at hgt
 clear BA BB G hHeld HC HL HGG;cases p with
 |true=>
  have h1:ka<kb:=of_decide_eq_true HP.out.symm;have HE:=Hi (show r=-1 from by rw[HR.out];unfold cmpL;rw[if_pos h1];rfl);clear h1 hgt;go_wp2_with fail
  go_ret;exact⟨by first|rfl|(rw[HE.out];done)|(rw[HE.out];rfl),HGE.out⟩
 |false=>
  have h1:¬ka<kb:=of_decide_eq_false HP.out.symm;cases q with
  |true=>
   have h2:kb<ka:=of_decide_eq_true HQ.out.symm;have HE:=Hi (show r=1 from by rw[HR.out];unfold cmpL;rw[if_neg h1,if_pos h2];rfl);have h3:(ka==kb)=false:=beq_eq_false_iff_ne.2 (fun e=>by rw[e]at h2;exact Std.lt_irrefl h2);clear h1 h2;go_wp2_with fail
   go_ret;exact⟨by first|rfl|(rw[HE.out];done)|(rw[HE.out];rfl),HGE.out⟩
  |false=>
   have h2:¬kb<ka:=of_decide_eq_false HQ.out.symm;have HE:=Hi (show r=numC x.num y.num from by rw[HR.out];unfold cmpL;rw[if_neg h1,if_neg h2,if_pos rfl]);have h3:(ka==kb)=true:=by rw[beq_iff_eq];rcases Std.lt_trichotomy ka kb with h|h|h;exact absurd h h1;exact h;exact absurd h h2
   clear h1 h2;go_wp2_with fail
   refine HCC.out.mono ?_;rintro e w4 ⟨rfl,F4⟩;clear d0 d1 e0 e1;go_wp2_with fail
   go_ret;exact⟨by rw[HE.out]<;>rfl,HGE.out.trans F4⟩
end Go.Proofs.YtehlipgmkinfbaaGreatDoor
