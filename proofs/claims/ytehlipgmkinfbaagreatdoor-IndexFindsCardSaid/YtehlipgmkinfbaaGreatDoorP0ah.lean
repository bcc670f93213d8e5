/-
  Merged by program: XNOidT XNWords XNLibS XNRdnK XNRdn XNRight XNSame.
-/
import Derived.Test.YtehlipgmkinfbaaGreatDoorP0ag
import Derived.Sort.OwnSorted
import Derived.Lib.Split
import Derived.Lib.RowBridge
import Derived.Lib.SliceRun
set_option linter.unusedSimpArgs false
set_option maxRecDepth 100000
set_option maxHeartbeats 8000000
namespace Go.Q
open Go Go.RowKit
def gLim:Nat:=max (max 2 3) (max 1 0)+1
structure Env (w:World):Prop where
 tabs:Tabs w
 pows:Go.Proofs.YtehlipgmkinfbaaGreatDoor.Pows w
 top:∃ m,w.cell? ⟨0,0,none⟩=some (.int .i64 m)
 size:gLim≤w.heap.size
theorem Env.fr {S:Nat→Prop}{w w':World}(h:Env w)(f:Fr S w w')(hS:∀ k,k<gLim→¬S k):Env w':=
 ⟨h.tabs.fr f (hS _ (by decide)) (hS _ (by decide)),h.pows.fr f (hS _ (by decide)),by
  obtain⟨m,hm⟩:=h.top
  exact⟨m,f.cell hm (hS 0 (by decide))⟩,Nat.le_trans h.size f.size⟩
theorem Env.old {w w':World}(h:Env w)(f:Fz w w'):Env w':=h.fr f (fun _ _ h=>h)
theorem Env.below {w w':World}{B:Nat}(h:Env w)(f:Below B w w')(hB:gLim≤B):Env w':=h.fr (Fr.of_below_at f) (fun k hk e=>by omega)
def oidTextS:List Int→List UInt8
 | []=>[]
 |n::t=>Lib.itoa n++t.flatMap (fun m=>46::Lib.itoa m)
theorem oidText_first {o:List Int}{n:Int}(h:o[0]? = some n):oidTextS (o.take 1)=Lib.itoa n:=by
 cases o with
 |nil=>cases h
 |cons x t=>simp at h;subst h;simp[oidTextS]
theorem oidText_next {o:List Int}{j:Nat}{n:Int}(h:o[j+1]? = some n):oidTextS (o.take (j+1+1))=oidTextS (o.take (j+1))++[46]++Lib.itoa n:=by
 cases o with
 |nil=>cases h
 |cons x t=>
  rw[List.getElem?_cons_succ]at h
  have e:t.take (j+1)=t.take j++[n]:=by rw[List.take_add_one,h];rfl
  rw[List.take_succ_cons,List.take_succ_cons,e]
  simp[oidTextS]
theorem nDigits_le:∀ (k u:Nat),u<10 ^ (k+1)→Lib.nDigits u≤k+1
 |0,u,h=>by rw[Lib.nDigits_small (by simpa using h)];exact Nat.le_refl _
 |k+1,u,h=>by
  by_cases hu:u<10
  ·rw[Lib.nDigits_small hu];omega
  ·rw[Lib.nDigits_big hu]
   have:=nDigits_le k (u / 10) (by rw[Nat.pow_succ]at h;omega);omega
theorem itoa_len {n:Int}(h0:0≤n)(h1:n≤9223372036854775807):(Lib.itoa n).length≤20:=by
 unfold Lib.itoa;rw[if_neg (by omega),Lib.decDigits_length]
 exact nDigits_le 19 n.toNat (by
  have e:(10:Nat) ^ (19+1)=100000000000000000000:=by decide
  rw[e]
  omega)
theorem oidText_len {o:List Int}(h:∀ n∈o,0≤n∧n≤9223372036854775807):(oidTextS o).length≤21*o.length:=by
 have g:∀ t:List Int,(∀ n∈t,0≤n∧n≤9223372036854775807)→(t.flatMap (fun m=>46::Lib.itoa m)).length≤21*t.length:=by
  intro t;induction t with
  |nil=>intro _;simp
  |cons x t ih=>
   intro h;have h1:=itoa_len (h x (by simp)).1 (h x (by simp)).2;have h2:=ih (fun n hn=>h n (by simp[hn]));simp only[List.flatMap_cons,List.length_append,List.length_cons]at h2 ⊢
   omega
 cases o with
 |nil=>simp[oidTextS]
 |cons x t=>
  have h1:=itoa_len (h x (by simp)).1 (h x (by simp)).2;have h2:=g t (fun n hn=>h n (by simp[hn]));simp only[oidTextS,List.length_append,List.length_cons]
  omega
def attrKeyS (o:List Int)(b:List UInt8):List UInt8:=
 oidTextS o++(match textReadS b with
  |.ok (k,t,_)=>[61,116]++hexS (foldKeyS k t)
  |.error _=>[61,98]++hexS b)
theorem foldKey_len (k:Int)(b:List UInt8):(foldKeyS k b).length≤8*b.length:=by
 have h1:=ofS_le 12 (foldS (signsS k b));have h2:(foldS (signsS k b)).length≤2*(signsS k b).length:=foldAcc_len _;have h3:=signsS_len k b;unfold foldKeyS;omega
theorem textRead_ok {l b:List UInt8}{k:Int}{n:Nat}(h:textReadS l=.ok (k,b,n)):rightS k b=true∧b.length≤l.length:=by
 unfold textReadS at h;split at h
 ·cases h
 ·split at h
  ·cases h
  ·split at h
   ·cases h
   ·split at h
    ·rename_i hr
     simp only[Except.ok.injEq,Prod.mk.injEq]at h
     obtain⟨rfl,rfl,-⟩:=h
     refine⟨hr,?_⟩
     rw[List.length_take,List.length_drop]
     omega
    ·cases h
abbrev Strs (w:World)(v:Value)(ks:List (List UInt8)):Prop:=Vals w v (ks.map str)
def cutAt (c:UInt8):List UInt8→List (List UInt8)
 | []=>[[]]
 |x::t=>if x=c then []::cutAt c t else match cutAt c t with
  | []=>[[x]]
  |h::r=>(x::h)::r
def cut1 (c:UInt8):List UInt8→List UInt8 × List UInt8 × Bool
 | []=>([],[],false)
 |x::t=>if x=c then ([],t,true) else (x::(cut1 c t).1,(cut1 c t).2)
theorem index1_nil (c:UInt8):Lib.index [] [c]=-1:=rfl
theorem index1_eq (c:UInt8)(t:List UInt8):Lib.index (c::t) [c]=0:=by simp[Lib.index]
theorem index1_ne {c x:UInt8}(h:x≠c)(t:List UInt8):Lib.index (x::t) [c]=if Lib.index t [c]=-1 then -1 else Lib.index t [c]+1:=by
 have h':¬c=x:=fun e=>h e.symm
 simp[Lib.index,h']
theorem cut_cut1 (c:UInt8):∀ l:List UInt8,Lib.cut l [c]=cut1 c l
 | []=>rfl
 |x::t=>by
  have ih:=cut_cut1 c t;unfold Lib.cut at ih ⊢;simp only[cut1]
  by_cases h:x=c
  ·subst h
   rw[index1_eq]
   simp
  ·rw[index1_ne h,if_neg h,←ih]
   have hg:=Lib.index_ge t [c];by_cases hm:Lib.index t [c]=-1
   ·rw[if_pos hm,if_neg (by omega),if_neg (by omega)]
   ·rw[if_neg hm,if_pos (by omega),if_pos (by omega)]
    have e:(Lib.index t [c]+1).toNat=(Lib.index t [c]).toNat+1:=by omega
    rw[e]
    simp
theorem split_cutAt (c:UInt8):∀ l:List UInt8,Lib.splitK [c] 0 (Lib.count l [c]) l=cutAt c l∧Lib.count l [c]+1=(cutAt c l).length
 | []=>⟨by rw[Lib.count_miss (index1_nil c)];rfl,by rw[Lib.count_miss (index1_nil c)];rfl⟩
 |x::t=>by
  obtain⟨ih1,ih2⟩:=split_cutAt c t
  have hne:([c]:List UInt8)≠[]:=by simp
  by_cases h:x=c
  ·subst h
   rw[Lib.count_hit (i:=0) hne (index1_eq x t)]
   have e:(x::t).drop (0+[x].length)=t:=rfl;rw[e,show 1+Lib.count t [x]=Lib.count t [x]+1 from by omega]
   unfold cutAt;rw[if_pos rfl]
   refine⟨?_,by simp[ih2]⟩
   unfold Lib.splitK;rw[index1_eq,if_neg (by decide)]
   simp[ih1]
  ·have hi:=index1_ne h t
   have hg:=Lib.index_ge t [c];unfold cutAt;rw[if_neg h]
   by_cases hm:Lib.index t [c]=-1
   ·rw[if_pos hm]at hi
    rw[Lib.count_miss hi]
    rw[Lib.count_miss hm]at ih1 ih2
    simp only[Lib.splitK]at ih1 ⊢
    rw[←ih1]
    exact⟨rfl,rfl⟩
   ·rw[if_neg hm]at hi
    obtain⟨i,hii⟩:∃ i:Nat,Lib.index t [c]=i:=⟨(Lib.index t [c]).toNat,by omega⟩
    rw[hii]at hi
    have hc1:=Lib.count_hit (i:=i+1) hne (show Lib.index (x::t) [c]=((i+1:Nat):Int) by rw[hi];omega);have hc2:=Lib.count_hit (i:=i) hne hii;have e:(x::t).drop (i+1+[c].length)=t.drop (i+[c].length):=by simp only[List.length_singleton];rfl
    rw[e,←hc2]at hc1
    rw[hc1]
    rw[hc2,Nat.add_comm 1]at ih1 ih2 ⊢
    unfold Lib.splitK at ih1 ⊢;rw[hii,if_neg (by simp)]at ih1
    rw[hi,if_neg (by simp;omega)]
    rw[←ih1]at ih2 ⊢
    have e2:((i:Int)+1).toNat=i+1:=by omega
    refine⟨?_,by simpa using ih2⟩
    simp[e2]
theorem Strs.form {w:World}{v:Value}{ks:List (List UInt8)}(h:Strs w v ks):∃ a cap,v=.slice a ks.length cap∧ks.length≤cap∧cap≤maxLen∧(0<ks.length→∃ b o,a=some ⟨b,o,none⟩∧∀ i x,ks[i]? = some x→w.cell? ⟨b,o+i,none⟩=some (str x)):=by
 obtain⟨a,cap,rfl,hc,hm,h⟩:=h
 rw[List.length_map]at hc h ⊢
 refine⟨a,cap,rfl,hc,hm,fun h0=>?_⟩
 obtain⟨b,o,rfl,hx⟩:=h h0
 exact⟨b,o,rfl,fun i x hxx=>hx i _ (by rw[List.getElem?_map,hxx];rfl)⟩
def sortS (ks:List (List UInt8)):List (List UInt8):=ks.mergeSort fun x y=>decide (x≤y)
def partKeys (r:List Part):List (List UInt8):=r.map fun p=>attrKeyS p.o p.b
def rdnKeyS (r:List Part):List UInt8:=Lib.join (Lib.compact (sortS (partKeys r))) [43]
theorem join_len (c:UInt8)(M:Nat):∀ ks:List (List UInt8),(∀ k∈ks,k.length≤M)→(Lib.join ks [c]).length≤ks.length*(M+1)
 | [],_=>by simp[Lib.join]
 | [k],h=>by
  have:=h k (by simp);simp[Lib.join]
  omega
 |k::l::t,h=>by
  have h1:=h k (by simp);have ih:=join_len c M (l::t) (fun x hx=>h x (by simp[List.mem_cons.1 hx]));have e:Lib.join (k::l::t) [c]=k++([c]++Lib.join (l::t) [c]):=by simp[Lib.join,List.intercalate]
  rw[e]
  simp only[List.length_append,List.length_cons,List.length_nil]at ih ⊢
  rw[Nat.add_mul (t.length+1) 1 (M+1)]
  omega
theorem compact_mem {zs:List (List UInt8)}{x:List UInt8}(h:x∈Lib.compact zs):x∈zs:=by
 unfold Lib.compact Lib.compactUpTo at h;obtain⟨i,hi,rfl⟩:=List.mem_map.1 h
 have hi2:=List.mem_range.1 (List.mem_filter.1 hi).1;simp[hi2]
theorem sort_mem {zs:List (List UInt8)}{x:List UInt8}(h:x∈sortS zs):x∈zs:=by
 unfold sortS at h;simpa using h
theorem attrKey_len {o:List Int}{b:List UInt8}(ho:oidOk o=true)(hb:b.length≤10000000):(attrKeyS o b).length≤160001100:=by
 have hol:=(Go.Proofs.YtehlipgmkinfbaaGreatDoor.nums_ok ho).2.1;have h1:=oidText_len (o:=o) (fun n hn=>by
  simp only[oidOk,Bool.and_eq_true,decide_eq_true_eq]at ho
  have:=List.all_eq_true.1 ho.1.2 n hn;simp only[arcOk,decide_eq_true_eq]at this
  omega)
 unfold attrKeyS;rw[List.length_append]
 cases hr:textReadS b with
 |error e=>
  simp only[List.length_append,List.length_cons,List.length_nil,hexS_len]
  omega
 |ok kbn=>
  obtain⟨k,t,n⟩:=kbn
  have h2:=(textRead_ok hr).2;have h3:=foldKey_len k t;simp only[List.length_append,List.length_cons,List.length_nil,hexS_len]
  omega
def nameOk (n:List (List Part)):Bool:=decide (n.length≤64)&&n.all (fun r=>(rdnS r).isSome)
def nameKeyS (n:List (List Part)):List UInt8:=Lib.join (n.map rdnKeyS) [47]
theorem steps_oids:∀ (l:List Part) (last:Option (List UInt8)),(stepsS last l).isSome=true→∀ p∈l,oidOk p.o=true
 | [],_,_,p,hp=>by cases hp
 |q::t,last,h,p,hp=>by
  simp only[stepsS]at h
  cases hq:attrS q.o q.b with
  |none=>rw[hq]at h;cases h
  |some x=>
   rw[hq]at h
   have hqo:oidOk q.o=true:=by
    unfold attrS at hq;split at hq
    ·rename_i hh;rw[Bool.and_eq_true]at hh;exact hh.1
    ·cases hq
   have ht:(stepsS (some x) t).isSome=true:=by
    cases last with
    |none=>simpa using h
    |some y=>
     by_cases hc:0≤cmpS y x
     ·simp[hc]at h
     ·simpa [hc] using h
   rcases List.mem_cons.1 hp with rfl|hm
   ·exact hqo
   ·exact steps_oids t (some x) ht p hm
theorem rdn_oids {l:List Part}(h:(rdnS l).isSome=true):l.length≤16∧∀ p∈l,oidOk p.o=true:=by
 unfold rdnS at h;split at h
 ·cases h
 ·exact⟨by omega,steps_oids l none h⟩
theorem rdnKey_len {l:List Part}(hf:fewB l)(h:(rdnS l).isSome=true):(rdnKeyS l).length≤2560017616:=by
 obtain⟨h1,h2⟩:=rdn_oids h
 have hcl:=Lib.compact_length_le (sortS (partKeys l));have hsl:(sortS (partKeys l)).length=l.length:=by simp[sortS,partKeys]
 rw[hsl]at hcl
 have:=join_len 43 160001100 (Lib.compact (sortS (partKeys l))) (fun k hk=>by
  have h3:=sort_mem (compact_mem hk);obtain⟨p,hp,rfl⟩:=List.mem_map.1 h3
  exact attrKey_len (h2 p hp) (hf p hp))
 unfold rdnKeyS;have h4:(Lib.compact (sortS (partKeys l))).length*(160001100+1)≤16*(160001100+1):=Nat.mul_le_mul_right _ (by omega);omega
theorem name_rdns {n:List (List Part)}(h:nameOk n=true):n.length≤64∧∀ r∈n,(rdnS r).isSome=true:=by
 unfold nameOk at h;rw[Bool.and_eq_true]at h
 exact⟨of_decide_eq_true h.1,fun r hr=>List.all_eq_true.1 h.2 r hr⟩
def nameSameS (a b:List (List Part)):Bool:=nameOk a&&(nameOk b&&decide (nameKeyS a=nameKeyS b))
end Go.Q
namespace Go.Proofs.YtehlipgmkinfbaaGreatDoor
open Go Go.RowKit Go.Q
theorem oidText_any (v:Value)(o:List Int)(w:World)(h:Ints w v o)(ho:oidOk o=true)(hE:Env w) :
  Calls Tryz.prog 127 #[v] w fun e w'=>e=.returned (.tuple #[str (oidTextS o),.int .i64 0])∧Fz w w':=by
 have H:=Hi h;have HE:=Hi hE;have hR:=Hi (oidRight_any v o w h);rw[ho]at hR
 obtain⟨a,cap,rfl,-⟩:=Ints.form h
 have hok:=ho;simp only[oidOk,Bool.and_eq_true,decide_eq_true_eq]at hok
 obtain⟨⟨⟨hl1,hl2⟩,hall⟩,-⟩:=hok
 have harc:∀ n∈o,0≤n∧n≤9223372036854775807:=fun n hn=>by
  have:=List.all_eq_true.1 hall n hn;simp only[arcOk,decide_eq_true_eq]at this
  omega
 have HA:=Hi harc;have HBN:=Hi (BldAt.new w);obtain⟨z,hz⟩:∃ z,z=w.heap.size:=⟨_,rfl⟩
 have F0:Fz w (w.alloc (.cells #[.pointer none,.slice none 0 0] 149)):=(Fr.refl w).alloc _;rw[←hz]at HBN
 have HZ:=Hi hz;have HF0:=Hi (F0.below (B:=z) (by omega) (fun _ _ h=>h));have hs0:=F0.size;have hgl:gLim≤z:=by rw[hz];exact hE.size
 clear h hE ho hall harc hz F0;go_enter Tryz.func127,Tryz.ntmps127
 go_wp2_with fail
 refine hR.out.mono ?_;rintro e w' ⟨rfl,rfl⟩;go_upto_region 4 with fail
 rw[←HZ.out]
 generalize (w.alloc (.cells #[.pointer none,.slice none 0 0] 149))=w1 at *
 have HS0:=Hi hs0;rw[←HZ.out]at hs0
 go_wp2_with fail
 go_loopg [12] o.length (fun g i wr=>∃ j:Nat,g=o.length-j∧j≤o.length∧i=.int .i64 j∧BldAt wr z z (oidTextS (o.take j))∧Below z w wr∧z≤wr.heap.size)
 case atStart=>exact⟨0,rfl,Nat.zero_le _,rfl,HBN.out,HF0.out,hs0⟩
 case round=>
  obtain⟨j,hg,hj,rfl,hB,hBl,hsz⟩:=hrel
  have HG:=Hi hg;have HB:=Hi hB;have HBL:=Hi hBl;clear hg hB hBl;by_cases hjl:j<o.length
  ·have hFr:Fr (fun k=>z≤k) w wr:=Fr.of_below_at HBL.out
   have hoff:Off (.slice a o.length cap) (intCells o).length (fun k=>z≤k):=fun h0 k hk e=>by
    have:=H.out.lt h0 k hk;have:=HZ.out;omega
   obtain⟨a0,cap0,he,_,_,hx⟩:=Ints.form (H.out.fr hFr hoff)
   simp only[Value.slice.injEq,true_and]at he
   obtain⟨rfl,rfl⟩:=he
   obtain⟨b,off,rfl,hy⟩:=hx (by omega)
   obtain⟨n,hn⟩:∃ n,o[j]? = some n:=⟨_,List.getElem?_eq_getElem hjl⟩
   have e1:=hy j n hn;have hn0:=HA.out n (List.mem_of_getElem? hn);have hE1:=HE.out.below HBL.out hgl;have hlen:=oidText_len (o:=o.take j) (fun m hm=>HA.out m (List.mem_of_mem_take hm));rw[List.length_take]at hlen
   have r1:(0:Int)≤(j:Int):=by omega
   have r2:(j:Int)<(o.length:Int):=by omega
   have HEN:=Hi hE1;have HN:=Hi hn;have hil:=itoa_len hn0.1 hn0.2;clear hx hy hn hFr hoff hE1;cases j with
   |zero=>
    have hj0:¬(0:Int)<((0:Nat):Int):=by omega
    have hft:=Hi (oidText_first HN.out);simp only[Nat.add_zero]at e1
    go_wp2_with fail
    refine(itoa_any n (by omega) hn0.2 wr HEN.out.pows).mono ?_
    rintro e w2 ⟨rfl,F2⟩;have HB2:=Hi (HB.out.old F2);have HBL2:=Hi (HBL.out.trans (F2.below (B:=z) hsz (fun _ _ h=>h)));have hs2:=F2.size;clear F2;go_wp2_with fail
    refine(bldString_any _ HB2.out (by omega) (by omega)).mono ?_
    rintro e w3 ⟨rfl,hB3,hb3⟩;have HB3:=Hi hB3;have hs3:=hb3.size;have HBL3:=Hi (HBL2.out.trans hb3);clear hB3 hb3;go_wp2_with fail
    go_roundg (o.length-(0+1))
    case measure=>rw[HG.out];omega
    case rel=>exact⟨0+1,rfl,by omega,by go_num,by rw[show 0+1=1 from rfl,hft.out];simpa [oidTextS] using HB3.out,HBL3.out,by omega⟩
   |succ k=>
    have hj0:(0:Int)<((k+1:Nat):Int):=by omega
    have hft:=Hi (oidText_next HN.out);go_wp2_with fail
    have hc46:(46:Int)=((46:UInt8).toNat:Int):=rfl;refine(bldByte_any 46 HB.out (by omega) hsz).mono ?_
    rintro e w2 ⟨rfl,hB2,hb2⟩;have HB2:=Hi hB2;have hs2:=hb2.size;have HBL2:=Hi (HBL.out.trans hb2);clear hB2 hb2;go_wp2_with fail
    refine(itoa_any n (by omega) hn0.2 _ (HE.out.below HBL2.out hgl).pows).mono ?_
    rintro e w3 ⟨rfl,F3⟩;have HB3:=Hi (HB2.out.old F3);have HBL3:=Hi (HBL2.out.trans (F3.below (B:=z) (by omega) (fun _ _ h=>h)));have hs3:=F3.size;clear F3;go_wp2_with fail
    refine(bldString_any _ HB3.out (by rw[List.length_append];simp only[List.length_singleton];omega) (by omega)).mono ?_
    rintro e w4 ⟨rfl,hB4,hb4⟩;have HB4:=Hi hB4;have hs4:=hb4.size;have HBL4:=Hi (HBL3.out.trans hb4);clear hB4 hb4;go_wp2_with fail
    go_roundg (o.length-(k+1+1))
    case measure=>rw[HG.out];omega
    case rel=>exact⟨k+1+1,rfl,by omega,by go_num,by rw[hft.out];exact HB4.out,HBL4.out,by omega⟩
  ·have hall:o.take j=o:=List.take_of_length_le (by omega)
   have hB:=HB.out;rw[hall]at hB
   have HO:=Hi (bldOut_any hB hsz);clear hB hall;go_wp2_with fail
   refine HO.out.mono ?_;rintro e w2 ⟨rfl,hb2⟩;have HF:=Hi (HBL.out.trans hb2);clear hb2;go_wp2_with fail
   have hf:=HF.out;rw[HZ.out]at hf
   exact bodyPost_ret (v:=.tuple #[str (oidTextS o),.int .i64 0]) (by simp[results,Tryz.results127,go_sem]) rfl ⟨rfl,Fr.of_below hf⟩
def WordsOut (w':World)(l:List UInt8)(e:Ending):Prop:=
 match textReadS l with
 |.error _=>e=.returned (.tuple #[.agg #[.int .i64 0,.slice none 0 0],.bool false])
 |.ok (k,b,_)=>∃ u,e=.returned (.tuple #[.agg #[.int .i64 k,u],.bool true])∧Bytes w' u b
theorem words_any (v:Value)(l:List UInt8)(w:World)(h:Bytes w v l)(hE:Env w)(hl:l.length≤1099511627776) :
  Calls Tryz.prog 128 #[v] w fun e w'=>WordsOut w' l e∧Fz w w':=by
 obtain⟨z,hz⟩:∃ z,z=w.heap.size:=⟨_,rfl⟩
 have F0:Fz w (w.alloc (.cells #[.int .i64 0,.slice none 0 0] 176)):=(Fr.refl w).alloc _;have BZ:=Blk.new w 176 #[.int .i64 0,.slice none 0 0];rw[←hz]at BZ
 have HN:=Hi (new_any _ v l (h.old F0) hl);have HE:=Hi (hE.old F0);have HZ:=Hi hz;have HF0:=Hi F0;have hgl:=hE.size;clear h hE hz F0;go_enter Tryz.func128,Tryz.ntmps128
 go_upto_region 1 with fail
 rw[←HZ.out]
 generalize (w.alloc (.cells #[.int .i64 0,.slice none 0 0] 176))=w1 at *
 go_wp2_with fail
 refine HN.out.mono ?_;rintro e w2 ⟨rfl,C2,F2⟩;have BZ2:=BZ.fr F2 (fun h=>h);have HE2:=HE.out.old F2;have hs1:=HF0.out.size;have hzl:=BZ.lt;obtain⟨c,hc⟩:∃ c,c=w1.heap.size:=⟨_,rfl⟩
 rw[←hc]at C2 ⊢
 have hk1:¬(2=c∨3=c):=by
  have:gLim=gLim:=rfl;have h1:2<gLim:=by decide
  have h2:3<gLim:=by decide
  omega
 have HR:=Hi (textRead_any C2 HE2.tabs hk1);have HF2:=Hi (HF0.out.trans F2);have hcz:z<c:=by omega
 have hcw:w.heap.size≤c:=by omega
 clear HN HF0 F2 BZ hc HE2 C2 hk1 HE;go_wp2_with fail
 refine HR.out.mono ?_;rintro e w3 ⟨hout,F3⟩;have BZ3:=BZ2.fr F3 (by omega);have hlt3:=BZ3.lt;have HF3:=Hi (HF2.out.trans' F3 (fun i hi e=>by omega));unfold TextOut at hout;rw[List.drop_zero]at hout
 cases hr:textReadS l with
 |error x=>
  rw[hr]at hout
  obtain⟨rfl,hx,C3⟩:=hout
  have hx1:(x==0)=false:=beq_eq_false_iff_ne.2 hx;have HRR:=Hi hr;go_upto_region 2 with fail
  have BZ4:=BZ3.alloc (.cells #[.int .i64 0,.slice none 0 0] 176);have BY4:=Blk.new w3 176 #[.int .i64 0,.slice none 0 0];have F4:Fz w3 (w3.alloc (.cells #[.int .i64 0,.slice none 0 0] 176)):=(Fr.refl w3).alloc _;obtain⟨y,hy⟩:∃ y,y=w3.heap.size:=⟨_,rfl⟩
  rw[←hy]at BY4 ⊢
  clear hy;generalize (w3.alloc (.cells #[.int .i64 0,.slice none 0 0] 176))=w4 at *
  have y0:=BY4.cell 0;have y1:=BY4.cell 1;simp only[SG]at y0 y1
  have z0:=BZ4.cell 0;have z1:=BZ4.cell 1;have f0:=BZ4.frozen 0;have f1:=BZ4.frozen 1;simp only[SG]at z0 z1
  obtain⟨BZ5,F5⟩:=set2 BZ4 (.int .i64 0) (.slice none 0 0)
  have n0:=BZ5.cell 0;have n1:=BZ5.cell 1;simp only[SG]at n0 n1
  have HF5:=Hi ((HF3.out.trans F4).trans' F5 (fun i hi e=>by have:=HZ.out;omega));clear hr C3 F3 F4 BZ2 BZ3 BZ4 BZ5 F5 BY4 HF2 HF3 HR hx;go_wp2_with fail
  refine bodyPost_ret (v:=.tuple #[.agg #[.int .i64 0,.slice none 0 0],.bool false]) (by simp[results,Tryz.results128,go_sem,n0,n1]) rfl ⟨?_,HF5.out⟩;unfold WordsOut;rw[HRR.out]
 |ok kbn=>
  obtain⟨k,b,n⟩:=kbn
  rw[hr]at hout
  obtain⟨⟨u,rfl,ho⟩,C3⟩:=hout
  have HRR:=Hi hr;obtain⟨au,mu,cu,rfl,rfl⟩:=own_shape ho
  go_upto_region 2 with fail
  have BZ4:=BZ3.alloc (.cells #[.int .i64 k,.slice au b.length cu] 176);have BY4:=Blk.new w3 176 #[.int .i64 k,.slice au b.length cu];have F4:Fz w3 (w3.alloc (.cells #[.int .i64 k,.slice au b.length cu] 176)):=(Fr.refl w3).alloc _;obtain⟨y,hy⟩:∃ y,y=w3.heap.size:=⟨_,rfl⟩
  rw[←hy]at BY4 ⊢
  clear hy;generalize (w3.alloc (.cells #[.int .i64 k,.slice au b.length cu] 176))=w4 at *
  have y0:=BY4.cell 0;have y1:=BY4.cell 1;simp only[SG]at y0 y1
  have z0:=BZ4.cell 0;have z1:=BZ4.cell 1;have f0:=BZ4.frozen 0;have f1:=BZ4.frozen 1;simp only[SG]at z0 z1
  obtain⟨BZ5,F5⟩:=set2 BZ4 (.int .i64 k) (.slice au b.length cu)
  have n0:=BZ5.cell 0;have n1:=BZ5.cell 1;simp only[SG]at n0 n1
  have HF5:=Hi ((HF3.out.trans F4).trans' F5 (fun i hi e=>by have:=HZ.out;omega));have hzs:=BZ2.lt;have ho2:=ownsRow_fr (ownsRow_fr ho F4 (fun _ _ h=>h)) F5 (fun q hq e=>by have:=((Vals.of_own ho).2 q hq).1;omega);have HB:=Hi (Vals.of_own ho2).1;clear hr C3 F3 F4 BZ2 BZ3 BZ4 BZ5 F5 BY4 HF2 HF3 HR ho ho2;go_wp2_with fail
  refine bodyPost_ret (v:=.tuple #[.agg #[.int .i64 k,.slice au b.length cu],.bool true]) (by simp[results,Tryz.results128,go_sem,n0,n1]) rfl ⟨?_,HF5.out⟩;unfold WordsOut;rw[HRR.out]
  exact⟨_,rfl,HB.out⟩
theorem attrKey_any (x y:Value)(o:List Int)(b:List UInt8)(w:World)(hx:Ints w x o)(hy:Bytes w y b)(ho:oidOk o=true)(hl:b.length≤10000000)(hE:Env w) :
  Calls Tryz.prog 87 #[.agg #[x,y]] w fun e w'=>e=.returned (str (attrKeyS o b))∧Fz w w':=by
 obtain⟨ax,cx,rfl,-⟩:=Ints.form hx
 obtain⟨ay,cy,rfl,-⟩:=Vals.form hy
 obtain⟨z,hz⟩:∃ z,z=w.heap.size:=⟨_,rfl⟩
 have BZ:=Blk.new w 105 #[.slice ax o.length cx,.slice ay b.length cy];have F0:Fz w (w.alloc (.cells #[.slice ax o.length cx,.slice ay b.length cy] 105)):=(Fr.refl w).alloc _;have HT:=Hi (oidText_any _ o _ (hx.old F0) ho (hE.old F0));have HY:=Hi (hy.old F0);have HE:=Hi (hE.old F0);rw[←hz]at BZ
 have HF0:=Hi F0;have HZ:=Hi hz;have hk:attrKeyS o b=oidTextS o++(match textReadS b with|.ok (k,t,_)=>[61,116]++hexS (foldKeyS k t)|.error _=>[61,98]++hexS b):=rfl;have HK:=Hi hk;have ho0:=Hi ho;clear hx hy F0 hz ho hE hk;have hol:o.length≤32:=(nums_ok ho0.out).2.1;have hot:(oidTextS o).length≤1000:=by
  have hall:=ho0.out;simp only[oidOk,Bool.and_eq_true,decide_eq_true_eq]at hall
  have:=oidText_len (o:=o) (fun n hn=>by
   have:=List.all_eq_true.1 hall.1.2 n hn;simp only[arcOk,decide_eq_true_eq]at this
   omega)
  omega
 have hos:(ByteArray.mk (oidTextS o).toArray).size=(oidTextS o).length:=by simp[ByteArray.size]
 generalize oidTextS o=ot at *
 go_enter Tryz.func87,Tryz.ntmps87
 go_upto_region 1 with fail
 rw[←HZ.out]
 generalize (w.alloc (.cells #[.slice ax o.length cx,.slice ay b.length cy] 105))=w0 at *
 have z0:=BZ.cell 0;simp at z0
 go_wp2_with fail
 refine HT.out.mono ?_;rintro e w1 ⟨rfl,F1⟩;have BZ1:=BZ.fr F1 (fun h=>h);have z1:=BZ1.cell 1;simp at z1
 have HY1:=Hi (HY.out.old F1);have HE1:=Hi (HE.out.old F1);have HF1:=Hi (HF0.out.trans F1);clear HT HY HE HF0 F1 z0 BZ;go_wp2_with fail
 refine(words_any _ b w1 HY1.out HE1.out (by omega)).mono ?_
 rintro e w2 ⟨hout,F2⟩;have BZ2:=BZ1.fr F2 (fun h=>h);have HY2:=Hi (HY1.out.old F2);have HE2:=Hi (HE1.out.old F2);have HF2:=Hi (HF1.out.trans F2);unfold WordsOut at hout;clear HY1 HE1 HF1 F2 z1 BZ1;cases hr:textReadS b with
 |error x=>
  rw[hr]at hout
  subst hout;have F3:Fz w2 (w2.alloc (.cells #[.int .i64 0,.slice none 0 0] 176)):=(Fr.refl w2).alloc _;have BZ3:=BZ2.fr F3 (fun h=>h);have z1:=BZ3.cell 1;simp only[SG]at z1
  have HX:=Hi (hex_any _ b _ (HY2.out.old F3) (by omega));have HF3:=Hi (HF2.out.trans F3);have hkk:=HK.out;rw[hr]at hkk
  have HKK:=Hi hkk;have hhl:=hexS_len b;have hhs:(ByteArray.mk (hexS b).toArray).size=(hexS b).length:=by simp[ByteArray.size]
  clear hr hkk HY2 HF2 F3 BZ2 BZ3;generalize hexS b=hb at *
  go_wp2_with fail
  refine HX.out.mono ?_;rintro e w4 ⟨rfl,F4⟩;go_wp2_with fail
  go_ret;refine⟨congrArg (fun x:ByteArray=>Ending.returned (.string x)) ?_,HF3.out.trans F4⟩
  rw[HKK.out,←List.append_assoc,←ba_cat,←ba_cat]
 |ok kbn=>
  obtain⟨k,t,n⟩:=kbn
  rw[hr]at hout
  obtain⟨u,rfl,hu⟩:=hout
  obtain⟨hrt,htl⟩:=textRead_ok hr
  obtain⟨au,cu,rfl,-⟩:=hu.form
  have F3:Fz w2 (w2.alloc (.cells #[.int .i64 k,.slice au t.length cu] 176)):=(Fr.refl w2).alloc _;have HX:=Hi (foldKey_any k _ t _ (hu.old F3) (HE2.out.old F3).tabs hrt (by omega));have HF3:=Hi (HF2.out.trans F3);have hkk:=HK.out;rw[hr]at hkk
  simp only at hkk
  have HKK:=Hi hkk;have hfl:=foldKey_len k t;clear hr hkk HY2 HF2 F3 BZ2 hu hrt;generalize foldKeyS k t=fk at *
  go_upto_region 4 with fail
  have BY:=Blk.new w2 176 #[.int .i64 k,.slice au t.length cu];obtain⟨y,hy⟩:∃ y,y=w2.heap.size:=⟨_,rfl⟩
  rw[←hy]at BY ⊢
  clear hy;generalize (w2.alloc (.cells #[.int .i64 k,.slice au t.length cu] 176))=w3 at *
  have y0:=BY.cell 0;have y1:=BY.cell 1;simp only[SG]at y0 y1
  go_wp2_with fail
  refine HX.out.mono ?_;rintro e w4 ⟨rfl,F4⟩;obtain⟨cp,wc,hcv,hbv,FC,-⟩:=bytes_of_str w4 fk (by omega)
  have HXX:=Hi (hex_any _ fk wc hbv (by omega));have HF4:=Hi ((HF3.out.trans F4).trans FC);have hhl:=hexS_len fk;have hhs:(ByteArray.mk (hexS fk).toArray).size=(hexS fk).length:=by simp[ByteArray.size]
  clear HX HF3 F4 hbv FC BY y0 y1;generalize hexS fk=hb at *
  go_wp2_with fail
  refine HXX.out.mono ?_;rintro e w5 ⟨rfl,F5⟩;go_wp2_with fail
  go_ret;refine⟨congrArg (fun x:ByteArray=>Ending.returned (.string x)) ?_,HF4.out.trans F5⟩
  rw[HKK.out,←List.append_assoc,←ba_cat,←ba_cat]
theorem strCut_any (l:List UInt8)(c:UInt8)(w:World)(hE:Env w)(hl:l.length<4294967281) :
  Calls Tryz.prog 110 #[str l,str [c]] w fun e w'=>e=.returned (.tuple #[str (cut1 c l).1,str (cut1 c l).2.1,.bool (cut1 c l).2.2])∧Fz w w':=by
 obtain⟨m,hm⟩:=hE.top
 refine(Go.Proofs.Tryz.strings_Cut ⟨l.toArray⟩ ⟨[c].toArray⟩ m w (by simpa [ByteArray.size] using hl) hm).mono ?_
 rintro e w' ⟨rfl,n,rfl⟩;refine⟨?_,(Fr.refl w).drewN n⟩
 show _=Ending.returned (.tuple #[.string ⟨(cut1 c l).1.toArray⟩,.string ⟨(cut1 c l).2.1.toArray⟩,.bool (cut1 c l).2.2])
 rw[←cut_cut1]
theorem strSplit_any (l:List UInt8)(c:UInt8)(w:World)(hE:Env w)(hl:l.length<4294967281) :
  Calls Tryz.prog 145 #[str l,str [c]] w fun e w'=>e=.returned (.slice (some ⟨w.heap.size,0,none⟩) (cutAt c l).length (cutAt c l).length)∧Strs w' (.slice (some ⟨w.heap.size,0,none⟩) (cutAt c l).length (cutAt c l).length) (cutAt c l)∧Fz w w':=by
 obtain⟨m,hm⟩:=hE.top
 refine(Go.Proofs.Tryz.strings_Split ⟨l.toArray⟩ ⟨[c].toArray⟩ m w (by simpa [ByteArray.size] using hl) hm (by simp[ByteArray.size])).mono ?_
 rintro e w' ⟨rfl,rfl⟩;obtain⟨h1,h2⟩:=split_cutAt c l
 have hcb:Lib.countB ⟨l.toArray⟩ ⟨[c].toArray⟩=Lib.count l [c]:=rfl;have hd:=Lib.splitB_data ⟨[c].toArray⟩ 0 (Lib.count l [c]) ⟨l.toArray⟩;rw[show (ByteArray.mk [c].toArray).data.toList=[c] from rfl,show (ByteArray.mk l.toArray).data.toList=l from rfl,h1]at hd
 rw[hcb,h2]
 have hs:((Lib.splitB ⟨[c].toArray⟩ 0 (Lib.count l [c]) ⟨l.toArray⟩).map Value.string)=(cutAt c l).map str:=by
  rw[←hd,List.map_map]
  refine List.map_congr_left (fun x _=>?_);rfl
 rw[hs]
 have hln:(cutAt c l).length≤4294967290:=by
  have:=Lib.countB_le ⟨[c].toArray⟩ (by simp[ByteArray.size]) l.length ⟨l.toArray⟩ (by simp[ByteArray.size]);rw[hcb]at this
  have hz:(ByteArray.mk l.toArray).size=l.length:=by simp[ByteArray.size]
  omega
 refine⟨rfl,?_,(Fr.refl w).alloc _⟩
 have B:=Vals.of_block (Blk.new w 9 ((cutAt c l).map str).toArray) (by simp;unfold maxLen;omega);simpa using B
theorem strJoin_any (ks:List (List UInt8))(c:UInt8)(v:Value)(w:World)(h:Strs w v ks)(hn:ks.length≤109951162777)(hl:(Lib.join ks [c]).length≤100000000000000) :
  Calls Tryz.prog 63 #[v,str [c]] w fun e w'=>e=.returned (str (Lib.join ks [c]))∧Fz w w':=by
 obtain⟨a,cap,rfl,hc,hm,hx⟩:=Strs.form h
 rcases Nat.eq_zero_or_pos ks.length with h0|h0
 ·obtain rfl:ks=[]:=List.length_eq_zero_iff.1 h0
  refine(Go.Proofs.Tryz.strings_Join_none a cap ⟨[c].toArray⟩ w).mono ?_
  rintro e w' ⟨rfl,rfl⟩;exact⟨rfl,Fr.refl _⟩
 ·obtain⟨b,o,rfl,hy⟩:=hx h0
  have hmm:(ks.map (fun k=>(⟨k.toArray⟩:ByteArray))).map (·.data.toList)=ks:=by
   rw[List.map_map]
   exact(List.map_congr_left (fun x _=>rfl)).trans (List.map_id ks)
  have H:=Go.Proofs.Tryz.strings_Join b o cap (ks.map (fun k=>⟨k.toArray⟩)) ⟨[c].toArray⟩ w (fun j x hj=>by
   rw[List.getElem?_map]at hj
   cases hk:ks[j]? with
   |none=>rw[hk]at hj;cases hj
   |some y=>
    rw[hk]at hj
    simp only[Option.map_some,Option.some.injEq]at hj
    subst hj;exact hy j y hk) (World.block_lt_of_cell? w _ (hy 0 _ (List.getElem?_eq_getElem h0))) (by simpa using Nat.le_trans hn (by decide)) (by simpa using hc) (by rw[hmm];exact Nat.le_trans hl (by decide))
  rw[hmm,List.length_map]at H
  refine H.mono ?_;rintro e w' ⟨rfl,hb⟩;exact⟨rfl,Fr.of_below hb⟩
theorem strSort_any {w:World}{base:Nat}{v:Value}(ks:List (List UInt8))(hown:w.ownsRow base 9 1 v ks.length (ks.map str))(hn:ks.length≤109951162777) :
  Calls Tryz.prog 88 #[v] w fun e w'=>e=.returned (.tuple #[])∧w'.ownsRow base 9 1 v (sortS ks).length ((sortS ks).map str)∧Fr (fun k=>v.ownBlock=some k) w w':=by
 have hsl:(sortS ks).length=ks.length:=by simp[sortS]
 rcases hown.2 with ⟨rfl,h0⟩|⟨g,cap,cur,rfl,hg,hh,hnc,hcm,hcs,htk⟩
 ·refine(Go.Proofs.Tryz.slices_Sort_string_none none 0 w).mono ?_
  rintro e w' ⟨rfl,rfl⟩;obtain rfl:ks=[]:=List.length_eq_zero_iff.1 h0
  exact⟨rfl,by simpa [sortS] using hown,Fr.refl _⟩
 ·have hH:=Go.holds_of_block (ss:=ks) hh (by rw[Nat.mul_one]at htk;exact htk)
  refine(Go.Proofs.Tryz.slices_Sort_string g 0 cap ks w hH (Array.getElem?_eq_some_iff.1 hh).1 (by omega)).mono ?_
  rintro e w' ⟨rfl,n,os,rfl⟩;refine⟨rfl,?_,?_⟩
  ·rw[hsl]
   exact Go.ownsRow_sorted (ts:=sortS ks) hsl hg hh hnc hcm hcs
  ·have f:=Fr.of_grown (Go.grownBy_sorted (w:=w) (g:=g) (n:=n) (os:=os) (sortS ks).toArray)
   exact f
theorem strCompact_any {w:World}{base:Nat}{v:Value}(ks:List (List UInt8))(hown:w.ownsRow base 9 1 v ks.length (ks.map str))(hn:ks.length≤109951162777) :
  Calls Tryz.prog 89 #[v] w fun e w'=>(∃ v',e=.returned v'∧w'.ownsRow base 9 1 v' (Lib.compact ks).length ((Lib.compact ks).map str))∧Fr (fun k=>v.ownBlock=some k) w w':=by
 rcases hown.2 with ⟨rfl,h0⟩|⟨g,cap,cur,rfl,hg,hh,hnc,hcm,hcs,htk⟩
 ·refine(Go.Proofs.Tryz.slices_Compact_string_empty none 0 w).mono ?_
  rintro e w' ⟨rfl,rfl⟩;obtain rfl:ks=[]:=List.length_eq_zero_iff.1 h0
  exact⟨⟨_,rfl,hown⟩,Fr.refl _⟩
 ·rw[Nat.mul_one]at htk hcs
  have hH:=Go.holds_of_block (ss:=ks) hh htk;refine(Go.Proofs.Tryz.slices_Compact_string g 0 cap ks w hH (by omega) hnc).mono ?_
  rintro e w' ⟨rfl,q,rfl⟩;have hcl:=Lib.compact_length_le ks;have hl2:(Lib.compact ks++List.replicate (ks.length-(Lib.compact ks).length) ([]:List UInt8)).length=ks.length:=by
   rw[List.length_append,List.length_replicate];omega
  have hb:=Go.heap_sorted (n:=q) (os:=#[]) (Lib.compact ks++List.replicate (ks.length-(Lib.compact ks).length) ([]:List UInt8)).toArray hh;have f:=Fr.of_grown (Go.grownBy_sorted (w:=w) (g:=g) (n:=q) (os:=#[]) (Lib.compact ks++List.replicate (ks.length-(Lib.compact ks).length) ([]:List UInt8)).toArray);rw[Sort.grow_empty]at hb f
  have ht:=Go.take_putCells cur (Lib.compact ks++List.replicate (ks.length-(Lib.compact ks).length) ([]:List UInt8)) (by omega);refine⟨⟨_,rfl,by simp,.inr ⟨g,cap,_,rfl,hg,hb,by omega,hcm,by simp[Sort.putCells,hcs],?_⟩⟩,f⟩
  rw[Nat.mul_one]
  have h3:=congrArg (List.take (Lib.compact ks).length) ht;rw[List.take_take,hl2,Nat.min_eq_left hcl,←List.map_take,List.take_left]at h3
  exact h3
theorem rdnKey_any (v:Value)(l:List Part)(w:World)(h:Attrs w v l)(hf:fewB l)(ho:∀ p∈l,oidOk p.o=true)(hln:l.length≤100)(hE:Env w) :
  Calls Tryz.prog 62 #[v] w fun e w'=>e=.returned (str (rdnKeyS l))∧Fz w w':=by
 have H:=Hi h;have HE:=Hi hE;have HO:=Hi ho;obtain⟨a,cap,rfl,hc,hm,-⟩:=h
 have hkl:∀ k∈Lib.compact (sortS (partKeys l)),k.length≤160001100:=fun k hk=>by
  have h1:=sort_mem (compact_mem hk);obtain⟨p,hp,rfl⟩:=List.mem_map.1 h1
  exact attrKey_len (ho p hp) (hf p hp)
 have HKL:=Hi hkl;clear hE ho hkl;go_enter Tryz.func62,Tryz.ntmps62
 go_wp2_with fail
 go_loopg [3,8] l.length (fun g u i wr=>∃ (j:Nat) (au:Option Addr) (cu:Nat),g=l.length-j∧j≤l.length∧u=.slice au j cu∧i=.int .i64 j∧wr.ownsRow w.heap.size 9 1 (.slice au j cu) j ((partKeys (l.take j)).map str)∧Fz w wr)
 case atStart=>exact⟨0,none,0,rfl,Nat.zero_le _,rfl,rfl,⟨rfl,.inl ⟨rfl,rfl⟩⟩,Fr.refl _⟩
 case round=>
  obtain⟨j,au,cu,hg,hj,rfl,rfl,hown,F⟩:=hrel
  have HG:=Hi hg;have HOW:=Hi hown;have HF:=Hi F;clear hg hown;by_cases hjl:j<l.length
  ·obtain⟨a0,cap0,he,_,_,hx⟩:=H.out.old F
   simp only[Value.slice.injEq,true_and]at he
   obtain⟨rfl,rfl⟩:=he
   obtain⟨b,off,rfl,hy⟩:=hx (by omega)
   obtain⟨p,hp⟩:∃ p,l[j]? = some p:=⟨_,List.getElem?_eq_getElem hjl⟩
   obtain⟨x,y,e1,e2,hpx,hpy⟩:=hy j p hp
   have hpb:=hf p (List.mem_of_getElem? hp);have hpo:=HO.out p (List.mem_of_getElem? hp);have r1:(0:Int)≤(j:Int):=by omega
   have r2:(j:Int)<(l.length:Int):=by omega
   obtain⟨ax,cx,rfl,-⟩:=Ints.form hpx
   obtain⟨ay,cy,rfl,-⟩:=Vals.form hpy
   have e1':wr.cell? ⟨b,off+j*2,none⟩=some (.slice ax p.o.length cx):=by rw[Nat.mul_comm];exact e1
   have e2':wr.cell? ⟨b,off+j*2+1,none⟩=some (.slice ay p.b.length cy):=by rw[Nat.mul_comm];exact e2
   have HP:=Hi hp;have HPX:=Hi hpx;have HPY:=Hi hpy;clear hx hy hp F hpx hpy;go_upto_region 5 with fail
   have BZ:=Blk.new wr 105 #[.slice ax p.o.length cx,.slice ay p.b.length cy];have F1:Fz wr (wr.alloc (.cells #[.slice ax p.o.length cx,.slice ay p.b.length cy] 105)):=(Fr.refl wr).alloc _;have HK:=Hi (attrKey_any _ _ p.o p.b _ (HPX.out.old F1) (HPY.out.old F1) hpo hpb ((HE.out.old HF.out).old F1));have HOW1:=Hi (ownsRow_fr HOW.out F1 (fun _ _ h=>h));have HF1:=Hi (HF.out.trans F1);clear e1 e2 e1' e2' HPX HPY HF F1 HOW;generalize (wr.alloc (.cells #[.slice ax p.o.length cx,.slice ay p.b.length cy] 105))=w1 at *
   have z0:=BZ.cell 0;have z1:=BZ.cell 1;simp at z0 z1
   have hpk:partKeys (l.take (j+1))=partKeys (l.take j)++[attrKeyS p.o p.b]:=by
    unfold partKeys;rw[List.take_add_one,HP.out]
    simp
   have HPK:=Hi hpk;clear hpk;generalize attrKeyS p.o p.b=ky at *
   go_wp2_with fail
   refine HK.out.mono ?_;rintro e w2 ⟨rfl,F2⟩;have F3:Fz w2 (w2.alloc (.cells #[str ky] 9)):=(Fr.refl w2).alloc _;have hs1:=HF1.out.size;have hs2:=F2.size;have hbk:=(Vals.of_own HOW1.out).2;obtain⟨a',c',w4,hrun,hown4,F4,hk4⟩:=add_gen Tryz.underlying115 info9 rfl (by decide) (by decide) (ownsRow_fr HOW1.out F2 (fun _ _ h=>h)) (by omega) F3 w2.heap.size [str ky] rfl (Blk.new w2 9 #[str ky]) (by simp[Value.oneCell']) (by omega)
   have HRUN:=Hi hrun;have HOW4:=Hi hown4;have HF4:=Hi ((HF1.out.trans F2).trans' F4 (fun i hi e=>by have:=(hbk i e).1;omega));clear F2 F3 hrun hown4 F4 hk4 hbk BZ z0 z1 HOW1 HF1;go_wp2_with (at_builtin;refine wpList_append_run (by rfl) (.tmp 12) (.tmp 15) 115 (by rfl) _ w4 (by exact HRUN.out) ?_)
   go_roundg (l.length-(j+1))
   case measure=>rw[HG.out];omega
   case rel=>exact⟨j+1,a',c',rfl,by omega,rfl,by go_num,by rw[HPK.out,List.map_append];exact HOW4.out,HF4.out⟩
  ·obtain rfl:j=l.length:=by omega
   have hown:=HOW.out;rw[List.take_length]at hown
   have hpl:(partKeys l).length=l.length:=by simp[partKeys]
   have hres:rdnKeyS l=Lib.join (Lib.compact (sortS (partKeys l))) [43]:=rfl;have HRES:=Hi hres;have HS:=Hi (strSort_any (partKeys l) (by rw[hpl];exact hown) (by omega));have hsl:(sortS (partKeys l)).length=l.length:=by simp[sortS,hpl]
   have hbk:=(Vals.of_own hown).2;have HSL:=Hi hsl;clear hpl hres hown HOW hsl;generalize partKeys l=pk at *
   go_wp2_with fail
   refine HS.out.mono ?_;rintro e w2 ⟨rfl,hown2,F2⟩;have HF2:=Hi (F.trans' F2 (fun i hi e=>by have:=(hbk i e).1;omega));have HC:=Hi (strCompact_any (sortS pk) hown2 (by rw[HSL.out];omega));have hbk2:=(Vals.of_own hown2).2;have hcl:=Lib.compact_length_le (sortS pk);rw[HSL.out]at hcl
   clear F2 hown2 HS hbk;generalize sortS pk=sk at *
   go_wp2_with fail
   refine HC.out.mono ?_;rintro e w3 ⟨⟨v3,rfl,hown3⟩,F3⟩;have HF3:=Hi (HF2.out.trans' F3 (fun i hi e=>by have:=(hbk2 i e).1;omega));have hv3:=(Vals.of_own hown3).1;have hjl2:=join_len 43 160001100 (Lib.compact sk) HKL.out;have HJ:=Hi (strJoin_any (Lib.compact sk) 43 v3 w3 hv3 (by omega) (by
    have:(Lib.compact sk).length*(160001100+1)≤100*(160001100+1):=Nat.mul_le_mul_right _ (by omega);omega))
   obtain⟨a3,m3,c3,rfl,-⟩:=own_shape hown3
   clear F3 hown3 HC hbk2 hv3 hjl2;generalize Lib.compact sk=ck at *
   go_wp2_with fail
   refine HJ.out.mono ?_;rintro e w4 ⟨rfl,F4⟩;go_wp2_with fail
   go_ret;exact⟨by rw[HRES.out];rfl,HF3.out.trans F4⟩
theorem steps_next {l:List Part}{ws:List (List UInt8)}{x:List UInt8}{j:Nat}(hS:stepsS none l=(stepsS ws.getLast? (l.drop j)).map (ws++·))
  (hsp:stepsS ws.getLast? (l.drop j)=if (match ws.getLast? with|some y=>decide (0≤cmpS y x)|none=>false)=true then none else (stepsS (some x) (l.drop (j+1))).map (x::·))
  (hc:(match ws.getLast? with|some y=>decide (0≤cmpS y x)|none=>false)=false):stepsS none l=(stepsS (ws++[x]).getLast? (l.drop (j+1))).map ((ws++[x])++·):=by
 rw[hS,hsp,hc,List.getLast?_concat]
 simp only[Bool.false_eq_true,↓reduceIte,Option.map_map]
 congr 1
 funext y
 simp
theorem attr_len {o:List Int}{b x:List UInt8}(h:attrS o b=some x)(hb:b.length≤10000000):0<x.length∧x.length≤1099511627776:=by
 unfold attrS at h;split at h
 ·rename_i h0
  simp only[Bool.and_eq_true]at h0
  simp only[Option.some.injEq]at h
  subst h;have h1:=oidWhole_len (nums_ok h0.1).2.1;have h2:(lenBytes (oidWhole o++b).length).length≤5:=by unfold lenBytes;(repeat' split)<;>simp
  rw[wrap_len,List.length_append] at *
  omega
 ·cases h
theorem wholesRdn_any (v:Value)(l:List Part)(w:World)(h:Attrs w v l)(hf:fewB l) :
  Calls Tryz.prog 86 #[v] w fun e w'=>(∃ v',e=.returned (.tuple #[v',.bool (rdnS l).isSome])∧∀ ls,rdnS l=some ls→Row w' w.heap.size v' ls)∧Fz w w':=by
 have H:=Hi h;obtain⟨a,cap,rfl,hc,hm,-⟩:=h
 rcases Classical.em (l.length=0∨16<l.length) with hl|hl
 ·have hn:rdnS l=none:=by unfold rdnS;rw[if_pos hl]
  rcases hl with hl|hl
  ·have HN:=Hi hn
   have q1:((l.length:Int)==0)=true:=by rw[hl];rfl
   have q2:(l.length==0)=true:=by rw[hl];rfl
   clear hn;go_enter Tryz.func86,Tryz.ntmps86
   go_wp2_with fail
   refine bodyPost_ret (v:=.tuple #[.slice none 0 0,.bool false]) (by simp[results,Tryz.results86,go_sem]) rfl ⟨⟨_,by rw[HN.out];rfl,fun ls e=>by rw[HN.out]at e;cases e⟩,Fr.refl _⟩
  ·have HN:=Hi hn
   have q1:((l.length:Int)==0)=false:=beq_eq_false_iff_ne.2 (by omega);have q2:(l.length==0)=false:=beq_eq_false_iff_ne.2 (by omega);have q3:(16:Int)<(l.length:Int):=by omega
   clear hn;go_enter Tryz.func86,Tryz.ntmps86
   go_wp2_with fail
   refine bodyPost_ret (v:=.tuple #[.slice none 0 0,.bool false]) (by simp[results,Tryz.results86,go_sem]) rfl ⟨⟨_,by rw[HN.out];rfl,fun ls e=>by rw[HN.out]at e;cases e⟩,Fr.refl _⟩
 ·have hn:rdnS l=stepsS none l:=by unfold rdnS;rw[if_neg hl]
  have HN:=Hi hn;have q1:((l.length:Int)==0)=false:=beq_eq_false_iff_ne.2 (by omega);have q2:(l.length==0)=false:=beq_eq_false_iff_ne.2 (by omega);have q3:¬(16:Int)<(l.length:Int):=by omega
  have qT:∀ (w:World) (a:Option Addr) (n c n' c':Nat),(binOp .eql 38 (.slice a n c) (.slice none n' c')).run Tryz.prog w=.ok (.bool a.isNone) w:=fun w a n c n' c'=>Lib.run_eql_slice_nil w _ _ a n c n' c' Tryz.underlying38
  clear hn;go_enter Tryz.func86,Tryz.ntmps86
  go_wp2_with fail
  go_loopg [4,18] l.length (fun g u i wr=>∃ (j:Nat) (ws:List (List UInt8)),g=l.length-j∧j≤l.length∧i=.int .i64 j∧ws.length=j∧(∀ y∈ws,y.length≤1099511627776)∧Row wr w.heap.size u ws∧Fz w wr∧(stepsS none l=(stepsS ws.getLast? (l.drop j)).map (ws++·)))
  case atStart=>exact⟨0,[],rfl,Nat.zero_le _,rfl,rfl,by simp,Row.nil _ _,Fr.refl _,by simp⟩
  case round=>
   obtain⟨j,ws,hg,hj,rfl,hws,hwl,hrow,F,hS⟩:=hrel
   have HG:=Hi hg;have HS:=Hi hS;have HF:=Hi F;obtain⟨au,cu,rfl⟩:∃ au cu,u4=.slice au j cu:=by
    obtain⟨us,h1,_⟩:=hrow
    obtain⟨a0,m0,c0,rfl,rfl⟩:=own_shape h1
    exact⟨_,_,by rw[hws]⟩
   have HR:=Hi hrow;have HWS:=Hi hws;clear hg hS hrow hws;by_cases hjl:j<l.length
   ·obtain⟨a0,cap0,he,_,_,hx⟩:=H.out.old F
    simp only[Value.slice.injEq,true_and]at he
    obtain⟨rfl,rfl⟩:=he
    obtain⟨b,off,rfl,hy⟩:=hx (by omega)
    obtain⟨p,hp⟩:∃ p,l[j]? = some p:=⟨_,List.getElem?_eq_getElem hjl⟩
    obtain⟨x,y,e1,e2,hpx,hpy⟩:=hy j p hp
    have hsp:=Hi (stepsS_split l j p hp ws.getLast?);have hpb:=hf p (List.mem_of_getElem? hp);have r1:(0:Int)≤(j:Int):=by omega
    have r2:(j:Int)<(l.length:Int):=by omega
    have HPX:=Hi hpx;have HPY:=Hi hpy;obtain⟨ax,cx,rfl,-⟩:=Ints.form hpx
    obtain⟨ay,cy,rfl,-⟩:=Vals.form hpy
    have e1':wr.cell? ⟨b,off+j*2,none⟩=some (.slice ax p.o.length cx):=by rw[Nat.mul_comm];exact e1
    have e2':wr.cell? ⟨b,off+j*2+1,none⟩=some (.slice ay p.b.length cy):=by rw[Nat.mul_comm];exact e2
    clear hx hy hp hpx hpy F;go_upto_region 7 with fail
    have BZ:=Blk.new wr 105 #[.slice ax p.o.length cx,.slice ay p.b.length cy];have F1:Fz wr (wr.alloc (.cells #[.slice ax p.o.length cx,.slice ay p.b.length cy] 105)):=(Fr.refl wr).alloc _;have HPX1:=Hi (HPX.out.old F1);have HPY1:=Hi (HPY.out.old F1);have HR1:=Hi (HR.out.old F1);have HF1:=Hi (HF.out.trans F1);clear e1 e2 e1' e2' HPX HPY HF F1 HR;generalize (wr.alloc (.cells #[.slice ax p.o.length cx,.slice ay p.b.length cy] 105))=w1 at *
    have z0:=BZ.cell 0;have z1:=BZ.cell 1;simp at z0 z1
    go_wp2_with fail
    refine(whole_any _ _ p.o p.b w1 HPX1.out HPY1.out hpb).mono ?_
    rintro e w2 ⟨v2,rfl,hout,F2⟩;have HR2:=Hi (HR1.out.old F2);have HF2:=Hi (HF1.out.trans F2);unfold wholeOut at hout;have hlw1:∀ k,(Value.slice au j cu).ownBlock=some k→k<w1.heap.size:=fun k hk=>by
     obtain⟨us,g1,_⟩:=HR1.out
     exact((Vals.of_own g1).2 k hk).2
    have HLW:=Hi hlw1;clear z0 z1 BZ HPX1 HPY1 HR1 HF1 F2 hlw1;cases hq:attrS p.o p.b with
    |none=>
     rw[hq]at hout
     subst hout;have hn:rdnS l=none:=by rw[HN.out,HS.out,hsp.out,hq];rfl
     have HNN:=Hi hn;clear hn;go_wp2_with fail
     refine bodyPost_ret (v:=.tuple #[.slice none 0 0,.bool false]) (by simp[results,Tryz.results86,go_sem]) rfl ⟨⟨_,by rw[HNN.out];rfl,fun ls e=>by rw[HNN.out]at e;cases e⟩,HF2.out⟩
    |some x=>
     rw[hq]at hout
     have hsp1:=hsp.out;rw[hq]at hsp1
     have hx0:0<x.length∧x.length≤1099511627776:=attr_len hq hpb;have HO:=Hi hout;obtain⟨g2,c2,hgc,hv2⟩:∃ g c,w1.heap.size≤g∧v2=.slice (some ⟨g,0,none⟩) x.length c:=by
      rcases hout.2 with ⟨rfl,h0⟩|⟨g,cap,cur,rfl,hg,_⟩
      ·omega
      ·exact⟨g,cap,hg,rfl⟩
     subst hv2;have HSP:=Hi hsp1;clear hout hsp hsp1;have hadd:∀ w3,Fz w2 w3→∃ a5 c5 w5,(Builtin.append_ #[142,142] 142 #[.slice au j cu,.slice (some ⟨w3.heap.size,0,none⟩) 1 1]).run Tryz.prog (w3.alloc (.cells #[.slice (some ⟨g2,0,none⟩) x.length c2] 38))=.ok (.slice a5 (j+1) c5) w5∧Row w5 w.heap.size (.slice a5 (j+1) c5) (ws++[x])∧Fz w w5:=fun w3 F23=>by
      have F3:Fz w2 (w3.alloc (.cells #[.slice (some ⟨g2,0,none⟩) x.length c2] 38)):=F23.alloc _;have hadd:=Row.add (HR2.out.old F3) w3.heap.size (.slice (some ⟨g2,0,none⟩) x.length c2) x (Blk.new w3 _ _) ((Vals.of_own HO.out).1.old F3) (fun k hk e=>by
       simp only[Value.ownBlock,Option.some.injEq]at hk
       have:=HLW.out k e;omega) (by rw[HWS.out];omega) (HF2.out.trans F3).size
      obtain⟨a5,c5,w5,hrun,hrow,F5⟩:=hadd
      have G5:=(HF2.out.trans F3).trans' F5 (fun i hi e=>by
       obtain⟨us,g1,_⟩:=HR2.out
       have:=((Vals.of_own g1).2 i e).1;omega)
      rw[HWS.out]at hrun hrow
      exact⟨a5,c5,w5,hrun,hrow,G5⟩
     have HADD:=Hi hadd;have hlen:(ws++[x]).length=j+1:=by simp[HWS.out]
     have HLEN:=Hi hlen;have hwl2:∀ y∈ws++[x],y.length≤1099511627776:=fun y hy=>by
      rcases List.mem_append.1 hy with h|h
      ·exact hwl y h
      ·rw[List.mem_singleton.1 h];exact hx0.2
     have HWL2:=Hi hwl2;clear hadd hlen hwl2;by_cases hj0:j=0
     ·subst hj0
      have hw0:ws=[]:=List.length_eq_zero_iff.1 HWS.out;have hnx:=steps_next HS.out HSP.out (by rw[hw0];rfl);have HNX:=Hi hnx;obtain⟨a5,c5,w5,hrun,hrow,G5⟩:=HADD.out w2 (Fr.refl _)
      have HRUN:=Hi hrun;have HROW:=Hi hrow;have HG5:=Hi G5;clear hnx hrun hrow G5;go_wp2_with (at_builtin;refine wpList_append_run (by rfl) (.tmp 41) (.tmp 43) 142 (by rfl) _ w5 (by exact HRUN.out) ?_)
      go_roundg (l.length-(0+1))
      case measure=>rw[HG.out];omega
      case rel=>
       exact⟨0+1,ws++[x],rfl,by omega,by go_num,HLEN.out,HWL2.out,HROW.out,HG5.out,HNX.out⟩
     ·obtain⟨us,g1,g2',g3⟩:=HR2.out
      obtain⟨aR,cR,heR,hcR,hmR,hxR⟩:=(Vals.of_own g1).1
      rw[g2',HWS.out]at heR hcR hxR
      simp only[Value.slice.injEq,true_and]at heR
      obtain⟨rfl,rfl⟩:=heR
      obtain⟨bR,oR,rfl,hyR⟩:=hxR (by omega)
      obtain⟨k,rfl⟩:∃ k,j=k+1:=⟨j-1,by omega⟩
      have hws2:=HWS.out;obtain⟨uk,huk⟩:∃ u,us[k]? = some u:=⟨_,List.getElem?_eq_getElem (by omega)⟩
      obtain⟨xk,hxk⟩:∃ x,ws[k]? = some x:=⟨_,List.getElem?_eq_getElem (by omega)⟩
      have ek:=hyR k uk huk;have hbk:=(g3 k uk xk huk hxk).1;have hlast:ws.getLast? = some xk:=by rw[List.getLast?_eq_getElem?,hws2];exact hxk
      have hsp2:=HSP.out;rw[hlast]at hsp2
      obtain⟨ak,ck,rfl,-⟩:=Vals.form hbk
      have t1:IntKind.i64.wrap (((k+1:Nat):Int)-1)=(k:Int):=by simp[IntKind.wrap,IntKind.signed,IntKind.bits];omega
      have t2:(0:Int)<((k+1:Nat):Int):=by omega
      have hck:xk.length≤1099511627776:=hwl xk (List.mem_of_getElem? hxk);have HCM:=Hi (compare_any _ _ xk x w2 hbk (Vals.of_own HO.out).1 hck hx0.2);obtain⟨cm,hcm⟩:∃ cm,cm=cmpS xk x:=⟨_,rfl⟩
      have HCC:=Hi hcm;rw[←hcm]at HCM
      have hr3:∀ w3,Fz w2 w3→True:=fun _ _=>trivial
      have HLA:=Hi hlast;clear hyR g1 g3 hxR hsp2 hwl hxk huk hlast hr3 hcm;by_cases hge:0≤cm
      ·have hn:rdnS l=none:=by
        rw[HN.out,HS.out,HSP.out,HLA.out]
        simp[←HCC.out,hge]
       have HNN:=Hi hn;clear hn;go_wp2_with fail
       refine HCM.out.mono ?_;rintro e w3 ⟨rfl,F3⟩;go_wp2_with fail
       refine bodyPost_ret (v:=.tuple #[.slice none 0 0,.bool false]) (by simp[results,Tryz.results86,go_sem]) rfl ⟨⟨_,by rw[HNN.out];rfl,fun ls e=>by rw[HNN.out]at e;cases e⟩,HF2.out.trans F3⟩
      ·have hcond:(match ws.getLast? with|some y=>decide (0≤cmpS y x)|none=>false)=false:=by
        rw[HLA.out]
        simp only[←HCC.out]
        exact decide_eq_false hge
       have HNX:=Hi (steps_next HS.out HSP.out hcond);clear hcond;go_wp2_with fail
       refine HCM.out.mono ?_;rintro e w3 ⟨rfl,F3⟩;obtain⟨a5,c5,w5,hrun,hrow,G5⟩:=HADD.out w3 F3
       have HRUN:=Hi hrun;have HROW:=Hi hrow;have HG5:=Hi G5;clear hrun hrow G5;go_wp2_with (at_builtin;refine wpList_append_run (by rfl) (.tmp 41) (.tmp 43) 142 (by rfl) _ w5 (by exact HRUN.out) ?_)
       go_roundg (l.length-(k+1+1))
       case measure=>rw[HG.out];omega
       case rel=>
        exact⟨k+1+1,ws++[x],rfl,by omega,by go_num,HLEN.out,HWL2.out,HROW.out,HG5.out,HNX.out⟩
   ·have hd:l.drop j=[]:=List.drop_eq_nil_of_le (by omega)
    have hres:rdnS l=some ws:=by rw[HN.out,HS.out,hd];simp[stepsS]
    have HRES:=Hi hres;clear hd hres;go_wp2_with fail
    refine bodyPost_ret (v:=.tuple #[.slice au j cu,.bool true]) (by simp[results,Tryz.results86,go_sem]) rfl ⟨⟨_,by rw[HRES.out];rfl,fun ls e=>?_⟩,HF.out⟩;rw[HRES.out]at e
    cases e
    exact HR.out
theorem right_any (v:Value)(n:List (List Part))(w:World)(h:NameAt w v n)(hf:∀ r∈n,fewB r) :
  Calls Tryz.prog 61 #[v] w fun e w'=>e=.returned (.bool (nameOk n))∧Fz w w':=by
 have H:=Hi h;obtain⟨a,cap,rfl,hc,hm,-⟩:=h
 rcases Nat.lt_or_ge 64 n.length with hl|hl
 ·have hn:nameOk n=false:=by unfold nameOk;rw[decide_eq_false (by omega),Bool.false_and]
  have HN:=Hi hn;have q1:(64:Int)<(n.length:Int):=by omega
  clear hn;go_enter Tryz.func61,Tryz.ntmps61
  go_wp2_with fail
  go_ret;exact⟨by rw[HN.out];rfl,Fr.refl _⟩
 ·have hn:nameOk n=n.all (fun r=>(rdnS r).isSome):=by unfold nameOk;rw[decide_eq_true hl,Bool.true_and]
  have HN:=Hi hn;have q1:¬(64:Int)<(n.length:Int):=by omega
  clear hn;go_enter Tryz.func61,Tryz.ntmps61
  go_wp2_with fail
  go_loopg [12] n.length (fun g i wr=>∃ j:Nat,g=n.length-j∧j≤n.length∧i=.int .i64 j∧(∀ r∈n.take j,(rdnS r).isSome=true)∧Fz w wr)
  case atStart=>exact⟨0,rfl,Nat.zero_le _,rfl,by simp,Fr.refl _⟩
  case round=>
   obtain⟨j,hg,hj,rfl,he,F⟩:=hrel
   have HG:=Hi hg;have HE:=Hi he;have HF:=Hi F;clear hg he;by_cases hjl:j<n.length
   ·obtain⟨a0,cap0,he,_,_,hx⟩:=H.out.old F
    simp only[Value.slice.injEq,true_and]at he
    obtain⟨rfl,rfl⟩:=he
    obtain⟨b,off,rfl,hy⟩:=hx (by omega)
    obtain⟨r,hr⟩:∃ r,n[j]? = some r:=⟨_,List.getElem?_eq_getElem hjl⟩
    obtain⟨x,e1,hA⟩:=hy j r hr
    have r1:(0:Int)≤(j:Int):=by omega
    have r2:(j:Int)<(n.length:Int):=by omega
    have HW:=Hi (wholesRdn_any x r wr hA (hf r (List.mem_of_getElem? hr)));have HR:=Hi hr;clear hx hy hr hA F;obtain⟨o,ho⟩:∃ o,o=(rdnS r).isSome:=⟨_,rfl⟩
    have HO:=Hi ho;rw[←ho]at HW
    clear ho;go_wp2_with fail
    refine HW.out.mono ?_;rintro e w2 ⟨⟨v2,rfl,-⟩,F2⟩;have G2:=HF.out.trans F2;clear HF F2;cases o with
    |false=>
     have hn:n.all (fun r=>(rdnS r).isSome)=false:=by
      rw[List.all_eq_false]
      exact⟨r,List.mem_of_getElem? HR.out,by rw[←HO.out];simp⟩
     have HNN:=Hi hn;clear hn;go_wp2_with fail
     go_ret;exact⟨by rw[HN.out,HNN.out];rfl,G2⟩
    |true=>
     go_wp2_with fail
     go_roundg (n.length-(j+1))
     case measure=>rw[HG.out];omega
     case rel=>
      refine⟨j+1,rfl,by omega,by go_num,fun s hs=>?_,G2⟩
      rw[List.take_add_one,HR.out]at hs
      rcases List.mem_append.1 hs with h|h
      ·exact HE.out s h
      ·simp at h
       rw[h,←HO.out]
   ·have hall:n.all (fun r=>(rdnS r).isSome)=true:=by
     rw[List.all_eq_true]
     have:=HE.out;rwa[List.take_of_length_le (by omega)]at this
    have HNN:=Hi hall;clear hall;go_wp2_with fail
    go_ret;exact⟨by rw[HN.out,HNN.out];rfl,F⟩
theorem nameKey_any (v:Value)(n:List (List Part))(w:World)(h:NameAt w v n)(hf:∀ r∈n,fewB r)(hok:nameOk n=true)(hE:Env w) :
  Calls Tryz.prog 36 #[v] w fun e w'=>e=.returned (.tuple #[str (nameKeyS n),.int .i64 0])∧Fz w w':=by
 have H:=Hi h;have HR:=right_any v n w h hf;rw[hok]at HR
 have HRI:=Hi HR;obtain⟨hn64,hrd⟩:=name_rdns hok
 have HRD:=Hi hrd;have HE:=Hi hE;obtain⟨a,cap,rfl,hc,hm,-⟩:=h
 have hkl:∀ k∈n.map rdnKeyS,k.length≤2560017616:=fun k hk=>by
  obtain⟨r,hr,rfl⟩:=List.mem_map.1 hk
  exact rdnKey_len (hf r hr) (hrd r hr)
 have hjl:=join_len 47 2560017616 (n.map rdnKeyS) hkl;rw[List.length_map]at hjl
 have hjl2:n.length*(2560017616+1)≤64*(2560017616+1):=Nat.mul_le_mul_right _ hn64;have hjl3:(Lib.join (n.map rdnKeyS) [47]).length≤100000000000000:=by omega
 have HJL:=Hi hjl3;clear hE hkl hjl hjl2 hjl3 hok HR hrd;go_enter Tryz.func36,Tryz.ntmps36
 go_wp2_with fail
 refine HRI.out.mono ?_;rintro e w0 ⟨rfl,F0⟩;have HF0:=Hi F0;clear F0 HRI;go_wp2_with fail
 go_loopg [4,12] n.length (fun g u i wr=>∃ (j:Nat) (au:Option Addr) (cu:Nat),g=n.length-j∧j≤n.length∧u=.slice au j cu∧i=.int .i64 j∧wr.ownsRow w0.heap.size 9 1 (.slice au j cu) j (((n.take j).map rdnKeyS).map str)∧Fz w0 wr)
 case atStart=>exact⟨0,none,0,rfl,Nat.zero_le _,rfl,rfl,⟨rfl,.inl ⟨rfl,rfl⟩⟩,Fr.refl _⟩
 case round=>
  obtain⟨j,au,cu,hg,hj,rfl,rfl,hown,F⟩:=hrel
  have HG:=Hi hg;have HOW:=Hi hown;have HF:=Hi F;have HFF:=Hi (HF0.out.trans F);clear hg hown;by_cases hjl:j<n.length
  ·obtain⟨a0,cap0,he,_,_,hx⟩:=H.out.old HFF.out
   simp only[Value.slice.injEq,true_and]at he
   obtain⟨rfl,rfl⟩:=he
   obtain⟨b,off,rfl,hy⟩:=hx (by omega)
   obtain⟨r,hr⟩:∃ r,n[j]? = some r:=⟨_,List.getElem?_eq_getElem hjl⟩
   obtain⟨x,e1,hA⟩:=hy j r hr
   have hmem:=List.mem_of_getElem? hr;have hri:=HRD.out r hmem;obtain⟨hr16,hro⟩:=rdn_oids hri
   have HK:=Hi (rdnKey_any x r wr hA (hf r hmem) hro (by omega) (HE.out.old HFF.out));have hpk:(n.take (j+1)).map rdnKeyS=(n.take j).map rdnKeyS++[rdnKeyS r]:=by
    rw[List.take_add_one,hr]
    simp
   have HPK:=Hi hpk;have r1:(0:Int)≤(j:Int):=by omega
   have r2:(j:Int)<(n.length:Int):=by omega
   clear hx hy hr hA hmem hri hro F hpk;generalize rdnKeyS r=ky at *
   go_wp2_with fail
   refine HK.out.mono ?_;rintro e w2 ⟨rfl,F2⟩;have F3:Fz w2 (w2.alloc (.cells #[str ky] 9)):=(Fr.refl w2).alloc _;have hs1:=HF.out.size;have hs2:=F2.size;have hbk:=(Vals.of_own HOW.out).2;obtain⟨a',c',w4,hrun,hown4,F4,hk4⟩:=add_gen Tryz.underlying115 info9 rfl (by decide) (by decide) (ownsRow_fr HOW.out F2 (fun _ _ h=>h)) (by omega) F3 w2.heap.size [str ky] rfl (Blk.new w2 9 #[str ky]) (by simp[Value.oneCell']) (by omega)
   have HRUN:=Hi hrun;have HOW4:=Hi hown4;have HF4:=Hi ((HF.out.trans F2).trans' F4 (fun i hi e=>by have:=(hbk i e).1;omega));clear F2 F3 hrun hown4 F4 hk4 hbk HOW HF HK;go_wp2_with (at_builtin;refine wpList_append_run (by rfl) (.tmp 16) (.tmp 19) 115 (by rfl) _ w4 (by exact HRUN.out) ?_)
   go_roundg (n.length-(j+1))
   case measure=>rw[HG.out];omega
   case rel=>exact⟨j+1,a',c',rfl,by omega,rfl,by go_num,by rw[HPK.out,List.map_append];exact HOW4.out,HF4.out⟩
  ·obtain rfl:j=n.length:=by omega
   have hown:=HOW.out;rw[List.take_length]at hown
   have hv3:=(Vals.of_own hown).1;have HJ:=Hi (strJoin_any (n.map rdnKeyS) 47 _ wr hv3 (by rw[List.length_map];omega) HJL.out);have hres:nameKeyS n=Lib.join (n.map rdnKeyS) [47]:=rfl;have HRES:=Hi hres;clear hown hv3 hres HOW;go_wp2_with fail
   refine HJ.out.mono ?_;rintro e w4 ⟨rfl,F4⟩;go_wp2_with fail
   refine bodyPost_ret (v:=.tuple #[str (Lib.join (n.map rdnKeyS) [47]),.int .i64 0]) (by simp[results,Tryz.results36,go_sem]) rfl ⟨by rw[HRES.out],HFF.out.trans F4⟩
theorem nameKey_bad (v:Value)(n:List (List Part))(w:World)(h:NameAt w v n)(hf:∀ r∈n,fewB r)(hok:nameOk n=false) :
  Calls Tryz.prog 36 #[v] w fun e w'=>e=.returned (.tuple #[str [],.int .i64 1])∧Fz w w':=by
 have HR:=right_any v n w h hf;rw[hok]at HR
 have HRI:=Hi HR;clear h hok HR;go_enter Tryz.func36,Tryz.ntmps36
 go_wp2_with fail
 refine HRI.out.mono ?_;rintro e w0 ⟨rfl,F0⟩;go_wp2_with fail
 exact bodyPost_ret (v:=.tuple #[str [],.int .i64 1]) (by simp[results,Tryz.results36,go_sem]) rfl ⟨rfl,F0⟩
def keyOut (n:List (List Part)):Value:=if nameOk n=true then .tuple #[str (nameKeyS n),.int .i64 0] else .tuple #[str [],.int .i64 1]
end Go.Proofs.YtehlipgmkinfbaaGreatDoor
