/-
  Merged by program: XR14L XRSlice XNSub XNOpen XR02O XNOidR XR04P XR15 XNOidQ XNAttrR XNRdnR XNNameR XR14R XR14P XR14N XGenB XGenR XNkLaw XNkKnown XNkWalk1 XNbW XGenRd XR15R XGenRl XR15L.
-/
import Derived.Test.YteidmhkobmddiaaGreatDoorQ0j
import Derived.Deep.CutBlock
set_option linter.unusedSimpArgs false
set_option maxRecDepth 100000
set_option maxHeartbeats 8000000
namespace Go.Q
open Go Go.RowKit
theorem Part.ext2 {p q:Part}(h1:p.o=q.o)(h2:p.b=q.b):p=q:=by cases p;cases q;simp_all
theorem take_next {α:Type}{l m:List α}{i:Nat}{x:α}(h:l.take i=m.take i)(h1:l[i]? = some x)(h2:m[i]? = some x):l.take (i+1)=m.take (i+1):=by
 rw[List.take_add_one,List.take_add_one,h,h1,h2]
theorem ne_at {α:Type}{l m:List α}{i:Nat}{x y:α}(h1:l[i]? = some x)(h2:m[i]? = some y)(h:x≠y):l≠m:=fun e=>by
 subst e;rw[h1]at h2
 exact h (Option.some.inj h2)
theorem eq_of_take {α:Type}{l m:List α}(h:l.length=m.length)(h1:l.take l.length=m.take l.length):l=m:=by
 rw[List.take_length]at h1
 rw[h1,h,List.take_length]
theorem numberS_nz:∀ {l:List UInt8}{i n:Nat}{x:Int},numberS i n l=.error x→x≠0
 | [],i,n,x,h=>by simp only[numberS,Except.error.injEq]at h;omega
 |y::t,i,n,x,h=>by
  simp only[numberS]at h
  split at h
  ·cases h;decide
  split at h
  ·cases h;decide
  split at h
  ·cases h
  ·exact numberS_nz h
theorem oidStS_nz:∀ {l:List UInt8}{o:List Int}{i n:Nat}{x:Int},oidStS o i n l=.error x→x≠0
 | [],o,i,n,x,h=>by
  simp only[oidStS]at h
  split at h
  ·cases h
  ·cases h;decide
 |y::t,o,i,n,x,h=>by
  simp only[oidStS]at h
  split at h
  ·cases h;decide
  split at h
  ·cases h;decide
  split at h
  ·split at h
   ·cases h;decide
   ·exact oidStS_nz h
  ·exact oidStS_nz h
theorem oidParse_nz {l:List UInt8}{x:Int}(h:oidParseS l=.error x):x≠0:=by
 unfold oidParseS at h;split at h
 ·cases h;decide
 ·exact oidStS_nz h
theorem rdnKey_one (p:Part):rdnKeyS [p]=attrKeyS p.o p.b:=by
 unfold rdnKeyS partKeys sortS;rw[List.map_cons,List.map_nil,List.mergeSort_singleton]
 have e:Lib.compact [attrKeyS p.o p.b]=[attrKeyS p.o p.b]:=by
  simp[Lib.compact,Lib.compactUpTo,Lib.keeps]
 rw[e,Lib.join_one]
theorem kind_tag {k:Int}(h:kindOk k=true):tagGood (tagOf k)∧(tagOf k).cls=0∧(tagOf k).made=false∧(tagOf k).num=k:=by
 have hk:k=12∨k=19∨k=20∨k=22∨k=26∨k=30:=by simpa [kindOk] using h
 refine⟨good_of (by omega) (by omega),rfl,?_,rfl⟩
 rcases hk with r|r|r|r|r|r<;>subst r<;>rfl
theorem textRead_wrap {k:Int}{b:List UInt8}(h:rightS k b=true)(hl:b.length≤16777216):textReadS (wrapS (tagOf k) b)=.ok (k,b,(wrapS (tagOf k) b).length):=by
 have hk:kindOk k=true:=by unfold rightS at h;rw[Bool.and_eq_true]at h;exact h.1
 obtain⟨hg,h0,hm,hn⟩:=kind_tag hk
 have hr:=wrap_read hg hl [];rw[List.append_nil]at hr
 have hlen:=wrap_len (tagOf k) b;have hd:(wrapS (tagOf k) b).drop (1+(lenBytes b.length).length)=b:=by
  unfold wrapS;rw[Nat.add_comm,List.drop_succ_cons,List.drop_left]
 unfold textReadS;rw[hr]
 simp only[h0,hm,hn,hk,hd,List.take_length,h,if_true]
 rw[if_neg (by simp),if_neg (by omega)]
 simp only[hlen]
abbrev oneN (o:List Int)(v:List UInt8):List (List Part):=[[⟨o,v⟩]]
theorem oneN_key (o:List Int)(v:List UInt8):nameKeyS (oneN o v)=attrKeyS o v:=by
 unfold nameKeyS;rw[List.map_cons,List.map_nil,Lib.join_one,rdnKey_one]
theorem attrKey_wrap {o:List Int}{k:Int}{b:List UInt8}(h:rightS k b=true)(hl:b.length≤16777216):attrKeyS o (wrapS (tagOf k) b)=oidTextS o++([61,116]++hexS (ofS 12 (foldS (signsS k b)))):=by
 unfold attrKeyS;rw[textRead_wrap h hl]
 rfl
def knT1:List UInt8:=[50,46,53,46,52,46,51,61,67,65]
def knT2:List UInt8:=[50,46,53,46,52,46,49,48,61,32,70,111,111,32,32,66,97,114,32]
def knT3:List UInt8:=[50,46,53,46,52,46,51,61,99,97]
def knT4:List UInt8:=[50,46,53,46,52,46,49,48,61,102,111,111,32,98,97,114]
def knV1:List UInt8:=wrapS (tagOf 19) ([67,65])
def knV2:List UInt8:=wrapS (tagOf 19) ([32,70,111,111,32,32,66,97,114,32])
def knV3:List UInt8:=wrapS (tagOf 19) ([99,97])
def knV4:List UInt8:=wrapS (tagOf 19) ([102,111,111,32,98,97,114])
def knA:List (List Part):=[[⟨[2,5,4,3],knV1⟩],[⟨[2,5,4,10],knV2⟩]]
def knB:List (List Part):=[[⟨[2,5,4,3],knV3⟩],[⟨[2,5,4,10],knV4⟩]]
theorem NameAt.take {w:World}{a:Option Addr}{m cap:Nat}{n:List (List Part)}(h:NameAt w (.slice a m cap) n)(k:Nat)(hk:k≤n.length)(cap':Nat)(hc:k≤cap')(hm:cap'≤maxLen):NameAt w (.slice a k cap') (n.take k):=by
 obtain⟨a0,cap0,he,h1,h2,h3⟩:=h
 simp only[Value.slice.injEq]at he
 obtain⟨rfl,rfl,rfl⟩:=he
 have hl:(n.take k).length=k:=by rw[List.length_take];omega
 refine⟨a,cap',by rw[hl],by omega,hm,fun h0=>?_⟩
 obtain⟨b,o,rfl,hy⟩:=h3 (by omega)
 refine⟨b,o,rfl,fun i r hr=>hy i r ?_⟩
 rw[List.getElem?_take]at hr
 split at hr
 ·exact hr
 ·cases hr
end Go.Q
namespace Go.Proofs.YteidmhkobmddiaaGreatDoor
open Go Go.RowKit Go.Q
theorem r14Like_any (v u:Value)(n m:List (List Part))(w:World)(h:NameAt w v n)(hu:NameAt w u m) :
  Calls Tryz.prog 28 #[v,u] w fun e w'=>e=.returned (.bool (decide (n=m)))∧Fz w w':=by
 have H:=Hi h;have HU:=Hi hu;obtain⟨a,cap,rfl,hc,hm,-⟩:=h
 obtain⟨a',cap',rfl,hc',hm',-⟩:=hu
 have hcm:cap≤9223372036854775807:=by unfold maxLen at hm;omega
 have hcm':cap'≤9223372036854775807:=by unfold maxLen at hm';omega
 clear hm hm';by_cases hlen:n.length=m.length
 ·have q1:((n.length:Int) != (m.length:Int))=false:=by simp[hlen]
  have q2:(n.length != m.length)=false:=by simp[hlen]
  have q3:((n.length:Int)==(m.length:Int))=true:=by simp[hlen]
  have q4:(n.length==m.length)=true:=by simp[hlen]
  have HLEN:=Hi hlen;clear hlen;go_enter Tryz.func28,Tryz.ntmps28
  go_wp2_with fail
  clear q1 q2 q3 q4;go_loopg [5] n.length (fun g ii wr=>∃ i:Nat,g=n.length-i∧i≤n.length∧ii=.int .i64 i∧n.take i=m.take i∧Fz w wr)
  case atStart=>exact⟨0,rfl,Nat.zero_le _,rfl,rfl,Fr.refl _⟩
  case round=>
   obtain⟨i,hg,hi,rfl,ht,F⟩:=hrel
   have HG:=Hi hg;have HT:=Hi ht;have HF:=Hi F;clear hg ht;by_cases hil:i<n.length
   ·have him:i<m.length:=by have:=HLEN.out;omega
    obtain⟨a0,cap0,he,_,_,hx⟩:=H.out
    simp only[Value.slice.injEq,true_and]at he
    obtain⟨rfl,rfl⟩:=he
    obtain⟨b,off,rfl,hy⟩:=hx (by omega)
    obtain⟨r,hr⟩:∃ r,n[i]? = some r:=⟨_,List.getElem?_eq_getElem hil⟩
    obtain⟨x,e0,hA⟩:=hy i r hr
    clear hx hy;obtain⟨a0,cap0,he,_,_,hx⟩:=HU.out
    simp only[Value.slice.injEq,true_and]at he
    obtain⟨rfl,rfl⟩:=he
    obtain⟨b',off',rfl,hy⟩:=hx (by omega)
    obtain⟨s,hs⟩:∃ s,m[i]? = some s:=⟨_,List.getElem?_eq_getElem him⟩
    obtain⟨y,e0',hA'⟩:=hy i s hs
    clear hx hy;have HRI:=Hi hr;have HSI:=Hi hs;have HA:=Hi hA;have HA':=Hi hA';obtain⟨ar,cr,rfl,hcr,hmr,-⟩:=hA
    obtain⟨a2,cs,rfl,hcs,hms,-⟩:=hA'
    have hcr2:cr≤9223372036854775807:=by unfold maxLen at hmr;omega
    have hcs2:cs≤9223372036854775807:=by unfold maxLen at hms;omega
    have HE0:=Hi e0;have HE0':=Hi e0';have e0w:=F.cell e0 (fun h=>h);have e0w':=F.cell e0' (fun h=>h);have r1:(0:Int)≤(i:Int):=by omega
    have r2:(i:Int)<(n.length:Int):=by omega
    have r3:(i:Int)<(m.length:Int):=by omega
    clear hr hs F hmr hms e0 e0';by_cases hl2:r.length=s.length
    ·have q1:((r.length:Int) != (s.length:Int))=false:=by simp[hl2]
     have q2:(r.length != s.length)=false:=by simp[hl2]
     have q3:((r.length:Int)==(s.length:Int))=true:=by simp[hl2]
     have q4:(r.length==s.length)=true:=by simp[hl2]
     have HL2:=Hi hl2;clear hl2;go_upto_region 6 with fail
     go_quiet (fail)
     have HF1:=Hi (HF.out.drewN nq);generalize (wr.drewN nq)=w1 at *
     go_wp2_with fail
     clear q1 q2 q3 q4 e0w e0w';go_loopg [6] r.length (fun g kk wr=>∃ k:Nat,g=r.length-k∧k≤r.length∧kk=.int .i64 k∧r.take k=s.take k∧Fz w wr)
     case atStart=>exact⟨0,rfl,Nat.zero_le _,rfl,rfl,HF1.out⟩
     case round=>
      obtain⟨k,hg,hk,rfl,ht,F⟩:=hrel
      have HG2:=Hi hg;have HT2:=Hi ht;have HF2:=Hi F;have e0w:=F.cell HE0.out (fun h=>h);have e0w':=F.cell HE0'.out (fun h=>h);clear hg ht;by_cases hkl:k<r.length
      ·have hks:k<s.length:=by have:=HL2.out;omega
       obtain⟨a0,cap0,he,_,_,hx⟩:=HA.out
       simp only[Value.slice.injEq,true_and]at he
       obtain⟨rfl,rfl⟩:=he
       obtain⟨b1,o1,rfl,hy⟩:=hx (by omega)
       obtain⟨p,hp⟩:∃ p,r[k]? = some p:=⟨_,List.getElem?_eq_getElem hkl⟩
       obtain⟨x,y,e1,e2,hpx,hpy⟩:=hy k p hp
       clear hx hy;obtain⟨a0,cap0,he,_,_,hx⟩:=HA'.out
       simp only[Value.slice.injEq,true_and]at he
       obtain⟨rfl,rfl⟩:=he
       obtain⟨b2,o2,rfl,hy⟩:=hx (by omega)
       obtain⟨q,hq⟩:∃ q,s[k]? = some q:=⟨_,List.getElem?_eq_getElem hks⟩
       obtain⟨x',y',e1',e2',hqx,hqy⟩:=hy k q hq
       clear hx hy;rw[Nat.mul_comm]at e1 e2 e1' e2'
       obtain⟨ax,cx,rfl,-⟩:=Ints.form hpx
       obtain⟨ay,cy,rfl,-⟩:=Vals.form hpy
       obtain⟨ax',cx',rfl,-⟩:=Ints.form hqx
       obtain⟨ay',cy',rfl,-⟩:=Vals.form hqy
       have hS:∀ w',Fz w w'→w'.cell? ⟨b,off+i,none⟩=some (.slice (some ⟨b1,o1,none⟩) r.length cr)∧w'.cell? ⟨b',off'+i,none⟩=some (.slice (some ⟨b2,o2,none⟩) s.length cs)∧w'.cell? ⟨b1,o1+k*2,none⟩=some (.slice ax p.o.length cx)∧w'.cell? ⟨b1,o1+k*2+1,none⟩=some (.slice ay p.b.length cy)∧w'.cell? ⟨b2,o2+k*2,none⟩=some (.slice ax' q.o.length cx')∧w'.cell? ⟨b2,o2+k*2+1,none⟩=some (.slice ay' q.b.length cy'):=fun w' f=>⟨f.cell HE0.out (fun h=>h),f.cell HE0'.out (fun h=>h),f.cell e1 (fun h=>h),f.cell e2 (fun h=>h),f.cell e1' (fun h=>h),f.cell e2' (fun h=>h)⟩
       have HS:=Hi hS;obtain⟨d1,hd1⟩:∃ d1,decide (p.o=q.o)=d1:=⟨_,rfl⟩
       obtain⟨d2,hd2⟩:∃ d2,decide (p.b=q.b)=d2:=⟨_,rfl⟩
       have hc1:∀ W,Fz w W→Calls Tryz.prog 67 #[.slice ax p.o.length cx,.slice ax' q.o.length cx'] W fun e w'=>e=.returned (.bool d1)∧Fz W w':=fun W f=>by
        have:=r04Same_any _ _ p.o q.o W (hpx.old f) (hqx.old f);rw[hd1]at this
        exact this
       have hc2:∀ W,Fz w W→Calls Tryz.prog 68 #[.slice ay p.b.length cy,.slice ay' q.b.length cy'] W fun e w'=>e=.returned (.bool d2)∧Fz W w':=fun W f=>by
        have:=r01Same_any _ _ p.b q.b W (hpy.old f) (hqy.old f);rw[hd2]at this
        exact this
       have HC1:=Hi hc1;have HC2:=Hi hc2;have HD1:=Hi hd1;have HD2:=Hi hd2;have HPI:=Hi hp;have HQI:=Hi hq;have s1:(0:Int)≤(k:Int):=by omega
       have s2:(k:Int)<(r.length:Int):=by omega
       have s3:(k:Int)<(s.length:Int):=by omega
       clear hp hq e1 e2 e1' e2' hpx hpy hqx hqy hS hc1 hc2 hd1 hd2;go_upto_region 11 with fail
       clear e0w e0w';have G:Fz w wr.drew:=F.drew;clear F;cases d1 with
       |false=>
        have hne:n≠m:=ne_at HRI.out HSI.out (ne_at HPI.out HQI.out (fun e=>by have:=of_decide_eq_false HD1.out;rw[e]at this;exact this rfl));have HNE:=Hi (decide_eq_false hne);clear hne
        refine wp_region_N 38 (S:=(fun w'=>w'.cell? ⟨b,off+i,none⟩=some (.slice (some ⟨b1,o1,none⟩) r.length cr)∧w'.cell? ⟨b',off'+i,none⟩=some (.slice (some ⟨b2,o2,none⟩) s.length cs)∧w'.cell? ⟨b1,o1+k*2,none⟩=some (.slice ax p.o.length cx)∧w'.cell? ⟨b1,o1+k*2+1,none⟩=some (.slice ay p.b.length cy)∧w'.cell? ⟨b2,o2+k*2,none⟩=some (.slice ax' q.o.length cx')∧w'.cell? ⟨b2,o2+k*2+1,none⟩=some (.slice ay' q.b.length cy'))) (by kernel_rfl) ?_ (fun hHeld=>?_)
        ·exact HS.out _ G
        refine tkN 0 rfl hHeld ?_;refine tkN 1 rfl hHeld ?_;refine tkN 2 rfl hHeld ?_;(try simp only[Act.put,SS]);refine tkN 3 rfl hHeld ?_;refine tkN 4 rfl hHeld ?_;refine tkN 5 rfl hHeld ?_;(try simp only[Act.put,SS]);refine tkN 6 rfl hHeld ?_;refine tkN 7 rfl hHeld ?_;refine tkN 8 rfl hHeld ?_;(try simp only[Act.put,SS]);refine tkN 9 rfl hHeld ?_;refine tkN 10 rfl hHeld ?_;refine tkN 11 rfl hHeld ?_;(try simp only[Act.put,SS]);refine tkN 12 rfl hHeld ?_;refine tkN 13 rfl hHeld ?_;refine tkN 14 rfl hHeld ?_;(try simp only[Act.put,SS]);refine tkN 15 rfl hHeld ?_;(try simp only[Act.put,SS])
        refine wpAnyN_step (i:=16) (by kernel_rfl) (o:=_) rfl (fun KK hKK=>?_);go_simp
        (go_at_call 67;(with_reducible refine(HC1.out _ G).mono ?_);rintro e w' ⟨rfl,F⟩;replace G:=G.trans F;clear F;(try go_wp2_with fail))
        refine hKK.out _ _ ?_ (fun hHeld=>?_)
        ·exact HS.out _ G
        clear hKK KK;(try simp only[Act.put,SS]);refine tkN 17 rfl hHeld ?_;refine tkN 18 rfl hHeld ?_;refine tkS 19 rfl hHeld ?_;(try simp only[Act.put,SK,SS]);refine tkS 20 rfl hHeld ?_;refine tkS 21 rfl hHeld ?_;refine tkS 22 rfl hHeld ?_;(try simp only[Act.put,SK,SS]);refine tkS 23 rfl hHeld ?_;refine tkS 24 rfl hHeld ?_;refine tkS 25 rfl hHeld ?_;(try simp only[Act.put,SK,SS]);refine tkS 26 rfl hHeld ?_;refine tkS 27 rfl hHeld ?_;refine tkS 28 rfl hHeld ?_;(try simp only[Act.put,SK,SS]);refine tkS 29 rfl hHeld ?_;refine tkS 30 rfl hHeld ?_;refine tkS 31 rfl hHeld ?_;(try simp only[Act.put,SK,SS])
        refine tkS 32 rfl hHeld ?_;refine tkS 33 rfl hHeld ?_;refine tkS 34 rfl hHeld ?_;(try simp only[Act.put,SK,SS]);refine tkS 35 rfl hHeld ?_;refine tkS 36 rfl hHeld ?_;refine tkN 37 rfl hHeld ?_;(try simp only[Act.put,SK,SS]);refine wpAnyN_done (by kernel_rfl) ?_ _;clear hHeld;all_goals
         go_wp2_with fail
         go_ret;exact⟨by rw[HNE.out];rfl,G⟩
       |true=>
        cases d2 with
        |false=>
         have hne:n≠m:=ne_at HRI.out HSI.out (ne_at HPI.out HQI.out (fun e=>by have:=of_decide_eq_false HD2.out;rw[e]at this;exact this rfl));have HNE:=Hi (decide_eq_false hne);clear hne
         go_region_held3 (fun w'=>w'.cell? ⟨b,off+i,none⟩=some (.slice (some ⟨b1,o1,none⟩) r.length cr)∧w'.cell? ⟨b',off'+i,none⟩=some (.slice (some ⟨b2,o2,none⟩) s.length cs)∧w'.cell? ⟨b1,o1+k*2,none⟩=some (.slice ax p.o.length cx)∧w'.cell? ⟨b1,o1+k*2+1,none⟩=some (.slice ay p.b.length cy)∧w'.cell? ⟨b2,o2+k*2,none⟩=some (.slice ax' q.o.length cx')∧w'.cell? ⟨b2,o2+k*2+1,none⟩=some (.slice ay' q.b.length cy')) (exact HS.out _ G) (first
          |(go_at_call 67;refine(HC1.out _ G).mono ?_;rintro e w' ⟨rfl,F⟩;replace G:=G.trans F)
          |(go_at_call 68;refine(HC2.out _ G).mono ?_;rintro e w' ⟨rfl,F⟩;replace G:=G.trans F))
         all_goals
          go_wp2_with fail
          go_ret;exact⟨by rw[HNE.out];rfl,G⟩
        |true=>
         have hpq:p=q:=Part.ext2 (of_decide_eq_true HD1.out) (of_decide_eq_true HD2.out);have HNT:=Hi (take_next HT2.out HPI.out (by rw[hpq];exact HQI.out));clear hpq;go_region_held3 (fun w'=>w'.cell? ⟨b,off+i,none⟩=some (.slice (some ⟨b1,o1,none⟩) r.length cr)∧w'.cell? ⟨b',off'+i,none⟩=some (.slice (some ⟨b2,o2,none⟩) s.length cs)∧w'.cell? ⟨b1,o1+k*2,none⟩=some (.slice ax p.o.length cx)∧w'.cell? ⟨b1,o1+k*2+1,none⟩=some (.slice ay p.b.length cy)∧w'.cell? ⟨b2,o2+k*2,none⟩=some (.slice ax' q.o.length cx')∧w'.cell? ⟨b2,o2+k*2+1,none⟩=some (.slice ay' q.b.length cy')) (exact HS.out _ G) (first
          |(go_at_call 67;refine(HC1.out _ G).mono ?_;rintro e w' ⟨rfl,F⟩;replace G:=G.trans F)
          |(go_at_call 68;refine(HC2.out _ G).mono ?_;rintro e w' ⟨rfl,F⟩;replace G:=G.trans F))
         all_goals
          go_wp2_with fail
          go_roundg (r.length-(k+1))
          case measure=>rw[HG2.out];omega
          case rel=>exact⟨k+1,rfl,by omega,by go_num,HNT.out,G⟩
      ·obtain rfl:k=r.length:=by omega
       have hrs:r=s:=eq_of_take HL2.out HT2.out;have HNT:=Hi (take_next HT.out HRI.out (by rw[hrs];exact HSI.out));clear hrs;go_wp2_with fail
       go_roundg (n.length-(i+1))
       case measure=>rw[HG.out];omega
       case rel=>exact⟨i+1,rfl,by omega,by go_num,HNT.out,F⟩
    ·have q1:((r.length:Int) != (s.length:Int))=true:=by simp;omega
     have q2:(r.length != s.length)=true:=by simpa using hl2
     have q3:((r.length:Int)==(s.length:Int))=false:=by simp;omega
     have q4:(r.length==s.length)=false:=by simpa using hl2
     have hne:n≠m:=ne_at HRI.out HSI.out (fun e=>hl2 (by rw[e]));have HNE:=Hi (decide_eq_false hne);clear hne hl2;go_upto_region 6 with fail
     go_quiet (fail)
     have HF1:=Hi (HF.out.drewN nq);generalize (wr.drewN nq)=w1 at *
     go_wp2_with fail
     go_ret;exact⟨by rw[HNE.out];rfl,HF1.out⟩
   ·obtain rfl:i=n.length:=by omega
    have hnm:n=m:=eq_of_take HLEN.out HT.out;have HNM:=Hi (decide_eq_true hnm);clear hnm;go_wp2_with fail
    go_ret;exact⟨by rw[HNM.out];rfl,F⟩
 ·have q1:((n.length:Int) != (m.length:Int))=true:=by simp;omega
  have q2:(n.length != m.length)=true:=by simpa using hlen
  have q3:((n.length:Int)==(m.length:Int))=false:=by simp;omega
  have q4:(n.length==m.length)=false:=by simpa using hlen
  have hne:n≠m:=fun e=>hlen (by rw[e])
  have HNE:=Hi (decide_eq_false hne);clear hne hlen;go_enter Tryz.func28,Tryz.ntmps28
  go_wp2_with fail
  go_ret;exact⟨by rw[HNE.out];rfl,Fr.refl _⟩
def NewCur (w w':World)(g:Nat)(l:List UInt8):Prop:=w.heap.size≤g∧CurAt w' g (fun k=>k<w.heap.size) l 0
theorem NewCur.up {w w1 w':World}{g:Nat}{l:List UInt8}(h:NewCur w1 w' g l)(hs:w.heap.size≤w1.heap.size):NewCur w w' g l:=
 ⟨Nat.le_trans hs h.1,h.2.step (Fr.refl w') (S:=fun _=>False) (fun _ _ h=>h.elim) (fun _ hk=>.inl (Nat.lt_of_lt_of_le hk hs))⟩
def OpenOut1 (w w':World)(c:Nat)(K:Nat→Prop)(bs:List UInt8)(p:Nat)(r:Except Int (List UInt8 × Nat))(e:Ending):Prop:=
 match r with
 |.ok (y,k)=>∃ g,e=.returned (.tuple #[pt g,.int .i64 0])∧NewCur w w' g y∧CurAt w' c K bs (p+k)
 |.error x=>e=.returned (.tuple #[.pointer none,.int .i64 x])∧∃ q,p≤q∧CurAt w' c K bs q
def OpenOut (w w':World)(c:Nat)(K:Nat→Prop)(bs:List UInt8)(p:Nat)(r:Except Int (List UInt8 × Nat))(e:Ending):Prop:=
 match r with
 |.ok (y,k)=>∃ g,e=.returned (.tuple #[pt g,.int .i64 0])∧NewCur w w' g y∧CurAt w' c K bs (p+k)
 |.error x=>e=.returned (.tuple #[.pointer none,.int .i64 x])∧CurAt w' c K bs p
def rOpenOut (v:Value)(l:List UInt8)(p:Nat)(r:Except Int (List UInt8 × Nat))(e:Ending):Prop:=
 match r with
 |.error x=>e=.returned (.tuple #[.slice none 0 0,.int .i64 p,.int .i64 x])
 |.ok (y,k)=>∃ A c,e=.returned (.tuple #[.slice A y.length c,.int .i64 ((p+k:Nat):Int),.int .i64 0])∧∀ W,Bytes W v l→Bytes W (.slice A y.length c) y
def nextOut (w':World)(c:Nat)(K:Nat→Prop)(bs:List UInt8)(p:Nat)(r:Except Int (Nat × Nat))(e:Ending):Prop:=
 match r with
 |.ok (m,k)=>e=.returned (.tuple #[.int .i64 m,.int .i64 0])∧CurAt w' c K bs (p+k)
 |.error x=>e=.returned (.tuple #[.int .i64 0,.int .i64 x])∧∃ q,p≤q∧CurAt w' c K bs q
theorem oidNext_any {w:World}{c:Nat}{K:Nat→Prop}{bs:List UInt8}{p:Nat}(h:CurAt w c K bs p) :
  Calls Tryz.prog 311 #[pt c] w fun e w'=>nextOut w' c K bs p (numberS 0 0 (bs.drop p)) e∧Fr (fun k=>k=c) w w':=by
 have H:=Hi h;have hple:=h.le;clear h;go_enter Tryz.func311,Tryz.ntmps311
 go_wp2_with fail
 go_loopg [4,5] (bs.length-p) (fun g n i wr=>∃ (k m:Nat),g=bs.length-p-k∧m≤2147483647∧n=.int .i64 m∧i=.int .i64 k∧CurAt wr c K bs (p+k)∧Fr (fun k=>k=c) w wr∧numberS 0 0 (bs.drop p)=numberS k m (bs.drop (p+k)))
 case atStart=>exact⟨0,0,rfl,by omega,rfl,rfl,H.out,Fr.refl _,rfl⟩
 case round=>
  obtain⟨k,m,hg,hm,rfl,rfl,hC,hF,hN⟩:=hrel
  have HG:=Hi hg;have HC:=Hi hC;have HN:=Hi hN;have hcle:=hC.le;have hcsm:=hC.small;clear hg hC hN;cases hd:bs.drop (p+k) with
  |nil=>
   have HD:=Hi hd;clear hd;go_wp2_with fail
   refine(byte_end HC.out HD.out).mono ?_
   rintro e w1 ⟨rfl,F1⟩;go_wp2_with fail
   have hN:=HN.out;rw[HD.out]at hN
   simp only[numberS]at hN
   refine bodyPost_ret (v:=.tuple #[.int .i64 0,.int .i64 6]) (by simp[results,Tryz.results311,go_sem]) rfl ⟨?_,hF.trans (F1.mono (fun _ _ h=>h.elim))⟩;rw[hN]
   exact⟨rfl,_,Nat.le_add_right _ _,HC.out.old F1⟩
  |cons x t=>
   have HD:=Hi hd;have hdl:(bs.drop (p+k)).length=t.length+1:=by rw[hd];rfl
   rw[List.length_drop]at hdl
   have hd2:bs.drop (p+(k+1))=t:=by
    rw[←Nat.add_assoc,←List.drop_drop,hd];rfl
   have HD2:=Hi hd2;clear hd hd2 hdl;go_wp2_with fail
   refine(byte_on HC.out HD.out).mono ?_
   rintro e w1 ⟨rfl,C1,F1⟩;have hx:x.toNat<256:=x.toNat_lt;have hN:=HN.out;rw[HD.out]at hN
   simp only[numberS]at hN
   have HC1:=Hi C1;have HF1:=Hi (hF.trans F1);clear C1 hF F1 HC;by_cases h3:k=0∧x.toNat=128
   ·rw[if_pos h3]at hN
    have HN2:=Hi hN;obtain⟨rfl,h128⟩:=h3
    have h128':(x.toNat:Int)=128:=by omega
    clear hN HN;go_wp2_with fail
    refine bodyPost_ret (v:=.tuple #[.int .i64 0,.int .i64 6]) (by simp[results,Tryz.results311,go_sem]) rfl ⟨?_,HF1.out⟩;rw[HN2.out]
    exact⟨rfl,_,by omega,HC1.out⟩
   ·rw[if_neg h3]at hN
    obtain⟨r,hr⟩:∃ r,r=x.toNat % 128:=⟨_,rfl⟩
    have hr2:r<128:=by omega
    have hb1:bits .and .u8 (x.toNat:Int) 127=(r:Int):=by rw[hr];exact and127 x
    obtain⟨v,hv⟩:∃ v,v=m*128+r:=⟨_,rfl⟩
    have hb2:bits .or .i64 ((m:Int)*128) (r:Int)=(v:Int):=by rw[hv];exact or7 m r (by omega) hr2
    have hw1:wrap64 ((m:Int)*128)=(m:Int)*128:=by unfold wrap64;omega
    have hw2:wrap64 (r:Int)=(r:Int):=wrap_nat r (by omega);rw[←hr,←hv]at hN
    have HN2:=Hi hN;have HW:=Hi (And.intro hb1 (And.intro hb2 (And.intro hw1 hw2)));clear hb1 hb2 hw1 hw2 hN HN;have hxv:x.toNat<128→m*128+x.toNat=v:=fun h=>by omega
    have HXV:=Hi hxv;clear hr hv hxv;rcases Classical.em (k=0) with h0|h0
    case' inl=>
     have h128':¬(x.toNat:Int)=128:=by omega
     have hk0:((k:Int)==0)=true:=by simpa using h0
    case' inr=>
     have hk0:((k:Int)==0)=false:=by simpa using h0
    all_goals
     by_cases hvm:2147483647<v
     ·have hv31:(2147483647:Int)<(v:Int):=by omega
      have hE:=HN2.out;rw[if_pos hvm]at hE
      have HE:=Hi hE;clear hE HN2 hvm hm;go_upto_region 8 with fail
      simp only[HW.out.1,HW.out.2.2.1,HW.out.2.2.2,HW.out.2.1]
      go_wp2_with fail
      refine bodyPost_ret (v:=.tuple #[.int .i64 0,.int .i64 2]) (by simp[results,Tryz.results311,go_sem]) rfl ⟨?_,HF1.out⟩;rw[HE.out]
      exact⟨rfl,_,by omega,HC1.out⟩
     ·have hv31:¬(2147483647:Int)<(v:Int):=by omega
      have hE:=HN2.out;rw[if_neg hvm]at hE
      by_cases hx7:x.toNat<128
      ·have hx8:(x.toNat:Int)<128:=by omega
       rw[if_pos hx7,HXV.out hx7]at hE
       have HE:=Hi hE;clear hE HN2 hvm hm;go_upto_region 8 with fail
       simp only[HW.out.1,HW.out.2.2.1,HW.out.2.2.2,HW.out.2.1]
       go_wp2_with fail
       refine bodyPost_ret (v:=.tuple #[.int .i64 v,.int .i64 0]) (by simp[results,Tryz.results311,go_sem]) rfl ⟨?_,HF1.out⟩;rw[HE.out]
       exact⟨rfl,HC1.out⟩
      ·have hx8:¬(x.toNat:Int)<128:=by omega
       rw[if_neg hx7]at hE
       have HE:=Hi hE;clear hE HN2 hvm hm;go_upto_region 8 with fail
       simp only[HW.out.1,HW.out.2.2.1,HW.out.2.2.2,HW.out.2.1]
       go_wp2_with fail
       go_roundg (bs.length-p-(k+1))
       case measure=>rw[HG.out];have:=HC1.out.le;omega
       case rel=>exact⟨k+1,v,rfl,by omega,rfl,by go_num,HC1.out,HF1.out,by rw[HE.out,HD2.out]⟩
theorem oidSplit_any (m:Nat)(hm:m≤2147483647)(w:World) :
  Calls Tryz.prog 312 #[.int .i64 m] w fun e w'=>∃ a c,e=.returned (.slice a 2 c)∧w'.ownsRow w.heap.size 3 1 (.slice a 2 c) 2 (intCells (addS [] m))∧Fz w w':=by
 have HA:=Hi (show addS [] m=if m<80 then [((m / 40:Nat):Int),((m % 40:Nat):Int)] else [2,(m:Int)-80] from rfl);have hq:(m:Int) / 40=((m / 40:Nat):Int):=by omega
 have hr:(m:Int) % 40=((m % 40:Nat):Int):=by omega
 generalize m / 40=mq at *
 generalize m % 40=mr at *
 by_cases h8:m<80
 ·have q1:(m:Int)<80:=by omega
  have hA:=HA.out;rw[if_pos h8]at hA
  have HA2:=Hi hA;clear hA HA;go_enter Tryz.func312,Tryz.ntmps312
  go_wp2_with fail
  go_ret;rw[HA2.out]
  exact⟨_,2,rfl,own_block (Blk.new w 3 #[.int .i64 mq,.int .i64 mr]) 2 (Nat.le_refl _) (by unfold maxLen;simp) _ (Nat.le_refl _),(Fr.refl w).alloc _⟩
 ·have q1:¬(m:Int)<80:=by omega
  have hA:=HA.out;rw[if_neg h8]at hA
  have HA2:=Hi hA;clear hA HA hq hr;go_enter Tryz.func312,Tryz.ntmps312
  go_wp2_with fail
  go_ret;rw[HA2.out]
  exact⟨_,2,rfl,own_block (Blk.new w 3 #[.int .i64 2,.int .i64 ((m:Int)-80)]) 2 (Nat.le_refl _) (by unfold maxLen;simp) _ (Nat.le_refl _),(Fr.refl w).alloc _⟩
def oidParseOut (w w':World)(r:Except Int (List Int))(e:Ending):Prop:=
 match r with
 |.ok o=>∃ a c,e=.returned (.tuple #[.slice a o.length c,.int .i64 0])∧w'.ownsRow w.heap.size 3 1 (.slice a o.length c) o.length (intCells o)
 |.error x=>e=.returned (.tuple #[.slice none 0 0,.int .i64 x])
theorem addS_snoc {o:List Int}(h:o≠[])(m:Nat):addS o m=o++[(m:Int)]:=if_neg h
theorem oidParse_any (v:Value)(l:List UInt8)(w:World)(h:Bytes w v l)(hl:l.length≤1099511627776) :
  Calls Tryz.prog 259 #[v] w fun e w'=>oidParseOut w w' (oidParseS l) e∧Fz w w':=by
 have hN:=Hi (new_any w v l h hl);have HP:=Hi (show oidParseS l=if l=[] then .error 6 else oidStS [] 0 0 l from rfl);clear h;go_enter Tryz.func259,Tryz.ntmps259
 go_wp2_with fail
 refine hN.out.mono ?_;rintro e w1 ⟨rfl,C1,F1⟩;obtain⟨c,hc⟩:∃ c,c=w.heap.size:=⟨_,rfl⟩
 have HX:=Hi (oidNext_any C1);have HF1:=Hi F1;rw[←hc]at HX C1 ⊢
 have hs1:=F1.size;have hc1:=C1.lt;have HC:=Hi hc;clear C1 F1 hN hc;go_wp2_with fail
 refine HX.out.mono ?_;rintro e w2 ⟨hout,F2⟩;rw[List.drop_zero]at hout
 have HF2:=Hi (HF1.out.trans' F2 (fun i hi e=>absurd hi (by rw[e,HC.out];exact Nat.lt_irrefl _)));have hs2:=F2.size;clear F2 HX HF1;unfold nextOut at hout;cases hn:numberS 0 0 l with
 |error x=>
  rw[hn]at hout
  obtain⟨rfl,-⟩:=hout
  have hx:=numberS_nz hn;have hx1:(x==0)=false:=beq_eq_false_iff_ne.2 hx;have hx2:(x != 0)=true:=by simpa using hx
  have hr:oidParseS l=.error x:=by
   rw[HP.out]
   cases l with
   |nil=>rw[if_pos rfl];simp only[numberS]at hn;cases hn;rfl
   |cons y t=>rw[if_neg (by simp),oidSt_num [] _ 0 0 (.inr (by simp)),hn]
  have HR:=Hi hr;clear hn hr hx HP;go_wp2_with fail
  refine bodyPost_ret (v:=.tuple #[.slice none 0 0,.int .i64 x]) (by simp[results,Tryz.results259,go_sem]) rfl ⟨?_,HF2.out⟩;rw[HR.out]
  exact rfl
 |ok mk=>
  obtain⟨m,k⟩:=mk
  rw[hn]at hout
  obtain⟨rfl,C2⟩:=hout
  obtain⟨j,hj,-,hm,hj1,hjl⟩:=numberS_back _ 0 0 m k (fun _=>rfl) (fun h=>absurd rfl h) hn
  have hl0:l≠[]:=by rintro rfl;simp at hjl;omega
  have hst:oidParseS l=oidStS (addS [] m) 0 0 (l.drop k):=by
   rw[HP.out,if_neg hl0,oidSt_num [] _ 0 0 (.inr hl0),hn]
   simp only[List.length_nil]
   rw[if_neg (by omega),Nat.sub_zero]
  have hal:(addS [] m).length=2:=by unfold addS;rw[if_pos rfl];split<;>rfl
  obtain⟨o2,ho2⟩:∃ o,o=addS [] m:=⟨_,rfl⟩
  have HS2:=Hi (oidSplit_any m hm w2);rw[←ho2]at hst hal HS2
  rw[Nat.zero_add]at C2
  have hc2:=C2.lt;have HST:=Hi hst;have HAL:=Hi hal;have HC2:=Hi C2;have hle2:=C2.le;clear C2 hst hal ho2 hn hj hjl hl0 HP;go_wp2_with fail
  refine HS2.out.mono ?_;rintro e w3 ⟨a2,c2,rfl,hown,F3⟩;have HO3:=Hi hown;have HC3:=Hi ((HC2.out.step (K':=fun k=>k<w.heap.size∨w2.heap.size≤k) (Fr.refl w2) (S:=fun _=>False) (fun _ _ h=>h.elim) (fun k hk=>by have:=HC.out;omega)).old F3);have HF3:=Hi (HF2.out.trans F3);have hs3:=F3.size;clear hown F3 HF2 HC2 HS2;go_wp2_with fail
  go_loopg [7] (l.length-k) (fun g u wr=>∃ (o:List Int) (q:Nat) (a:Option Addr) (cc:Nat),g=l.length-q∧q≤l.length∧o.length≤32∧2≤o.length∧u=.slice a o.length cc∧wr.ownsRow w2.heap.size 3 1 (.slice a o.length cc) o.length (intCells o)∧CurAt wr c (fun k=>k<w.heap.size∨w2.heap.size≤k) l q∧Fz w wr∧w2.heap.size≤wr.heap.size∧oidParseS l=oidStS o 0 0 (l.drop q))
  case atStart=>exact⟨o2,k,a2,c2,rfl,hle2,by rw[HAL.out];omega,by rw[HAL.out];exact Nat.le_refl _,by rw[HAL.out],by rw[HAL.out];exact HO3.out,HC3.out,HF3.out,hs3,HST.out⟩
  case round=>
   obtain⟨o,q,a,cc,hg,hq,ho32,ho2,rfl,hown,hC,hF,hsz,hR⟩:=hrel
   have HG:=Hi hg;have HOW:=Hi hown;have HCC:=Hi hC;have HF:=Hi hF;have HR:=Hi hR;have HL:=Hi (left_any hC);clear hg hown hC hF hR;by_cases hql:q<l.length
   ·have q1:(0:Int)<((l.length-q:Nat):Int):=by omega
    obtain⟨lq,hlq⟩:∃ lq,lq=l.length-q:=⟨_,rfl⟩
    rw[←hlq]at q1 HL HG
    have HLQ:=Hi hlq;clear hlq;go_wp2_with fail
    refine HL.out.mono ?_;rintro e w4 ⟨rfl,F4⟩;have HC4:=Hi (HCC.out.old F4);have HX:=Hi (oidNext_any HC4.out);have HF4:=Hi (HF.out.trans F4);have HO4:=Hi (ownsRow_fr HOW.out F4 (fun _ _ h=>h));have hs4:=F4.size;clear F4 HCC HF HOW HL;go_wp2_with fail
    refine HX.out.mono ?_;rintro e w5 ⟨hout,F5⟩;have HF5:=Hi (HF4.out.trans' F5 (fun i hi e=>absurd hi (by rw[e,HC.out];exact Nat.lt_irrefl _)));have HO5:=Hi (ownsRow_fr HO4.out F5 (fun k hk e=>by have:=((Vals.of_own HO4.out).2 k hk).1;omega));have hs5:=F5.size;unfold nextOut at hout;have hd0:l.drop q≠[]:=by
     intro e;have:=congrArg List.length e;rw[List.length_drop,List.length_nil]at this
     omega
    have hst:=oidSt_num o (l.drop q) 0 0 (.inr hd0);clear F5 HF4 HO4 HX hd0;cases hn:numberS 0 0 (l.drop q) with
    |error x=>
     rw[hn]at hout hst
     obtain⟨rfl,-⟩:=hout
     have hx:=numberS_nz hn;have hx1:(x==0)=false:=beq_eq_false_iff_ne.2 hx;have hx2:(x != 0)=true:=by simpa using hx
     have HR2:=Hi (HR.out.trans hst);clear hn hx hst;go_wp2_with fail
     refine bodyPost_ret (v:=.tuple #[.slice none 0 0,.int .i64 x]) (by simp[results,Tryz.results259,go_sem]) rfl ⟨?_,HF5.out⟩;rw[HR2.out]
     exact rfl
    |ok mk=>
     obtain⟨m2,k2⟩:=mk
     rw[hn]at hout hst
     obtain⟨rfl,C5⟩:=hout
     obtain⟨j2,hj2,-,hm2,hj3,hjl2⟩:=numberS_back _ 0 0 m2 k2 (fun _=>rfl) (fun h=>absurd rfl h) hn
     have HR2:=Hi (HR.out.trans hst);rw[Nat.zero_add]at hj2
     subst hj2;have hk2:=C5.le;have HC5:=Hi C5;have hql2:l.length-(q+k2)<l.length-q:=by omega
     have HQ:=Hi hql2;clear hn hst C5 HC4 hm2 hjl2 hql2;by_cases h32:o.length=32
     ·have q3:((o.length:Int)==32)=true:=by rw[h32];rfl
      have q4:(o.length==32)=true:=by rw[h32];rfl
      have hr:=HR2.out;simp only[h32,↓reduceIte]at hr
      have HR3:=Hi hr;clear hr HR2 h32;go_wp2_with fail
      refine bodyPost_ret (v:=.tuple #[.slice none 0 0,.int .i64 2]) (by simp[results,Tryz.results259,go_sem]) rfl ⟨?_,HF5.out⟩;rw[HR3.out]
      exact rfl
     ·have q3:((o.length:Int)==32)=false:=beq_eq_false_iff_ne.2 (by omega)
      have q4:(o.length==32)=false:=beq_eq_false_iff_ne.2 (by omega);have hr:=HR2.out;have hlt:o.length+1≤32:=by omega
      simp only[h32,↓reduceIte,Nat.sub_zero]at hr
      rw[addS_snoc (by rintro rfl;simp at ho2),List.drop_drop]at hr
      have HR3:=Hi hr;obtain⟨a7,c7,w7,hrun,ho7,F7,hw7⟩:=add_int HO5.out (Nat.le_trans hsz (Nat.le_trans hs4 hs5)) (by omega) (m2:Int) w5.heap.size ((Fr.refl w5).alloc (.cells #[.int .i64 m2] 3)) (Blk.new w5 3 #[.int .i64 m2])
      have hkp:=(Vals.of_own HO5.out).2;have HC7:=Hi (HC5.out.step (K':=fun k=>k<w.heap.size∨w2.heap.size≤k) F7 (fun k hk e=>.inr (hkp k e).1) (fun k hk=>.inl hk));have HF7:=Hi (HF5.out.trans' F7 (fun i hi e=>absurd hi (by have:=(hkp i e).1;omega)));have hs7:=F7.size;have HRUN:=Hi hrun;have HO7:=Hi ho7;clear hr HR2 h32 hrun ho7 F7 hw7 hkp HC5;go_wp2_with (at_builtin;refine wpList_append_run (by rfl) (.tmp 36) (.tmp 38) 27 (by rfl) _ w7 (by exact HRUN.out) ?_)
      go_roundg (l.length-(q+k2))
      case measure=>rw[HG.out,HLQ.out];exact HQ.out
      case rel=>exact⟨o++[(m2:Int)],q+k2,a7,c7,rfl,hk2,by rw[List.length_append];exact hlt,by rw[List.length_append];omega,by rw[List.length_append];rfl,by rw[List.length_append];exact HO7.out,HC7.out,HF7.out,by omega,HR3.out⟩
   ·obtain rfl:q=l.length:=by omega
    have q1:¬(0:Int)<((l.length-l.length:Nat):Int):=by omega
    have hr:=HR.out;rw[List.drop_length]at hr
    simp only[oidStS,↓reduceIte]at hr
    have HR2:=Hi hr;rw[Nat.sub_self]at HL
    clear hr HR q1;go_wp2_with fail
    refine HL.out.mono ?_;rintro e w4 ⟨rfl,F4⟩;have HF4:=Hi (HF.out.trans F4);have HO4:=Hi (own_le (ownsRow_fr HOW.out F4 (fun _ _ h=>h)) (Nat.le_trans hs1 hs2));clear F4 HF HOW HL;go_wp2_with fail
    refine bodyPost_ret (v:=.tuple #[.slice a o.length cc,.int .i64 0]) (by simp[results,Tryz.results259,go_sem]) rfl ⟨?_,HF4.out⟩;rw[HR2.out]
    exact⟨a,cc,rfl,HO4.out⟩
def oidReadOut (w w':World)(c:Nat)(K:Nat→Prop)(bs:List UInt8)(p:Nat)(r:Except Int (List Int × Nat))(e:Ending):Prop:=
 match r with
 |.ok (o,k)=>∃ a cc,e=.returned (.tuple #[.slice a o.length cc,.int .i64 0])∧w'.ownsRow w.heap.size 3 1 (.slice a o.length cc) o.length (intCells o)∧CurAt w' c K bs (p+k)
 |.error x=>e=.returned (.tuple #[.slice none 0 0,.int .i64 x])∧CurAt w' c K bs p
def valueOut (w w':World)(c:Nat)(K:Nat→Prop)(bs:List UInt8)(p:Nat)(r:Except Int (Tag × Nat × Nat))(e:Ending):Prop:=
 match r with
 |.ok (_,_,n)=>∃ a cc,e=.returned (.tuple #[.slice a n cc,.int .i64 0])∧w'.ownsRow w.heap.size 5 1 (.slice a n cc) n (Lib.byteCells ((bs.drop p).take n))∧CurAt w' c K bs (p+n)
 |.error x=>e=.returned (.tuple #[.slice none 0 0,.int .i64 x])∧∃ q,p≤q∧CurAt w' c K bs q
def attrOut (w w':World)(c:Nat)(K:Nat→Prop)(bs:List UInt8)(p:Nat)(r:Except Int (Part × Nat))(e:Ending):Prop:=
 match r with
 |.ok (q,m)=>∃ ao co av cv,e=.returned (.tuple #[.agg #[.slice ao q.o.length co,.slice av q.b.length cv],.int .i64 0])∧Kept (fun W=>Ints W (.slice ao q.o.length co) q.o∧Bytes W (.slice av q.b.length cv) q.b) (fun k=>k<w.heap.size) w'∧CurAt w' c K bs (p+m)
 |.error x=>e=.returned (.tuple #[.agg #[.slice none 0 0,.slice none 0 0],.int .i64 x])∧x≠0∧∃ q,p≤q∧CurAt w' c K bs q
def rdnOut (w w':World)(c:Nat)(K:Nat→Prop)(bs:List UInt8)(p:Nat)(r:Except Int (List Part × Nat))(e:Ending):Prop:=
 match r with
 |.ok (l,m)=>∃ a cc,e=.returned (.tuple #[.slice a l.length cc,.int .i64 0])∧Kept (fun W=>Attrs W (.slice a l.length cc) l) (fun k=>k<w.heap.size) w'∧CurAt w' c K bs (p+m)
 |.error x=>e=.returned (.tuple #[.slice none 0 0,.int .i64 x])∧x≠0∧∃ q,p≤q∧CurAt w' c K bs q
def nameOut (w w':World)(c:Nat)(K:Nat→Prop)(bs:List UInt8)(p:Nat)(r:Except Int (List (List Part) × Nat))(e:Ending):Prop:=
 match r with
 |.ok (l,m)=>∃ a cc,e=.returned (.tuple #[.slice a l.length cc,.int .i64 0])∧Kept (fun W=>NameAt W (.slice a l.length cc) l) (fun k=>k<w.heap.size) w'∧CurAt w' c K bs (p+m)
 |.error x=>e=.returned (.tuple #[.slice none 0 0,.int .i64 x])∧x≠0∧∃ q,p≤q∧CurAt w' c K bs q
def nameReadOut (w w':World)(c:Nat)(K:Nat→Prop)(bs:List UInt8)(p:Nat)(r:Except Int (List (List Part) × Nat))(e:Ending):Prop:=
 match r with
 |.ok (l,m)=>∃ a cc,e=.returned (.tuple #[.slice a l.length cc,.int .i64 0])∧Kept (fun W=>NameAt W (.slice a l.length cc) l) (fun k=>k<w.heap.size) w'∧CurAt w' c K bs (p+m)
 |.error x=>e=.returned (.tuple #[.slice none 0 0,.int .i64 x])∧x≠0∧CurAt w' c K bs p
def nameParseOut (w w':World)(r:Except Int (List (List Part)))(e:Ending):Prop:=
 match r with
 |.ok l=>∃ a cc,e=.returned (.tuple #[.slice a l.length cc,.int .i64 0])∧Kept (fun W=>NameAt W (.slice a l.length cc) l) (fun k=>k<w.heap.size) w'
 |.error x=>e=.returned (.tuple #[.slice none 0 0,.int .i64 x])∧x≠0
def rOidOut (w w':World)(p:Nat)(r:Except Int (List Int × Nat))(e:Ending):Prop:=
 match r with
 |.error x=>e=.returned (.tuple #[.slice none 0 0,.int .i64 p,.int .i64 x])
 |.ok (o,k)=>∃ a c,e=.returned (.tuple #[.slice a o.length c,.int .i64 ((p+k:Nat):Int),.int .i64 0])∧w'.ownsRow w.heap.size 3 1 (.slice a o.length c) o.length (intCells o)
def rStepOut (K:Nat→Prop)(w':World)(p:Nat)(r:Except Int (List Part × Nat))(e:Ending):Prop:=
 match r with
 |.error x=>e=.returned (.tuple #[.slice none 0 0,.int .i64 p,.int .i64 x])
 |.ok (l,k)=>∃ a c,e=.returned (.tuple #[.slice a l.length c,.int .i64 ((p+k:Nat):Int),.int .i64 0])∧Kept (fun W=>Attrs W (.slice a l.length c) l) K w'
def rNameOut (K:Nat→Prop)(w':World)(p:Nat)(r:Except Int (List (List Part) × Nat))(e:Ending):Prop:=
 match r with
 |.error x=>e=.returned (.tuple #[.slice none 0 0,.int .i64 p,.int .i64 x])
 |.ok (l,k)=>∃ a c,e=.returned (.tuple #[.slice a l.length c,.int .i64 ((p+k:Nat):Int),.int .i64 0])∧Kept (fun W=>NameAt W (.slice a l.length c) l) K w'
def rParseOut (K:Nat→Prop)(w':World)(r:Except Int (List (List Part)))(e:Ending):Prop:=
 match r with
 |.error x=>e=.returned (.tuple #[.slice none 0 0,.int .i64 x])
 |.ok l=>∃ a c,e=.returned (.tuple #[.slice a l.length c,.int .i64 0])∧Kept (fun W=>NameAt W (.slice a l.length c) l) K w'
theorem plain1_any (c:UInt8)(w:World) :
  Calls Tryz.prog 310 #[.int .u8 c.toNat] w fun e w'=>e=.returned (.bool (decide (127<c.toNat)))∧w=w':=by
 have hd:decide ((127:Int)<(c.toNat:Int))=decide (127<c.toNat):=decide_eq_decide.2 (by omega);go_enter Tryz.func310,Tryz.ntmps310
 go_wp2_with fail
 go_ret;exact⟨by rw[←hd];rfl,rfl⟩
theorem indexPlain_any (v:Value)(b:List UInt8)(w:World)(h:Bytes w v b) :
  Calls Tryz.prog 358 #[v,.func (.func 310) #[] #[]] w fun e w'=>(∃ x:Int,e=.returned (.int .i64 x)∧decide (0≤x)=!(b.all (fun c=>decide (c.toNat≤127))))∧w=w':=by
 have H:=Hi h;obtain⟨a,cap,rfl,hc,hm,-⟩:=h.form
 have hm2:cap≤9223372036854775807:=by unfold maxLen at hm;omega
 clear h hm;go_enter Tryz.func358,Tryz.ntmps358
 go_wp2_with fail
 go_loopg [8] b.length (fun g i wr=>∃ j:Nat,g=b.length-j∧j≤b.length∧i=.int .i64 j∧(∀ c∈b.take j,c.toNat≤127)∧wr=w)
 case atStart=>exact⟨0,rfl,Nat.zero_le _,rfl,by simp,rfl⟩
 case round=>
  obtain⟨j,hg,hj,rfl,hall,rfl⟩:=hrel
  have HG:=Hi hg;have HA:=Hi hall;clear hg hall;by_cases hjl:j<b.length
  ·obtain⟨a0,c0,he,-,-,hx⟩:=H.out.form
   simp only[Value.slice.injEq,true_and]at he
   obtain⟨rfl,rfl⟩:=he
   obtain⟨k,o,rfl,hy⟩:=hx (by omega)
   obtain⟨c,hc1⟩:∃ c,b[j]? = some c:=⟨_,List.getElem?_eq_getElem hjl⟩
   have e1:=hy j c hc1;have HC:=Hi hc1;have r1:(0:Int)≤(j:Int):=by omega
   have r2:(j:Int)<(b.length:Int):=by omega
   clear hx hy hc1;obtain⟨d,hd⟩:∃ d,d=decide (127<c.toNat):=⟨_,rfl⟩
   have HP:=Hi (plain1_any c wr);rw[←hd]at HP
   have HD:=Hi hd;clear hd;go_wp2_with fail
   refine HP.out.mono ?_;rintro e w1 ⟨rfl,rfl⟩;cases d with
   |true=>
    go_wp2_with fail
    go_ret;refine⟨⟨(j:Int),rfl,?_⟩,rfl⟩
    have h1:=of_decide_eq_true HD.out.symm;have h2:b.all (fun c=>decide (c.toNat≤127))=false:=by
     rw[List.all_eq_false]
     exact⟨c,List.mem_of_getElem? HC.out,by simp;omega⟩
    rw[h2,decide_eq_true (by omega)]
    rfl
   |false=>
    have h1:=of_decide_eq_false HD.out.symm;have HN:=Hi (show ∀ x∈b.take (j+1),x.toNat≤127 from fun x hx=>by
     rw[List.take_add_one,HC.out]at hx
     rcases List.mem_append.1 hx with h|h
     ·exact HA.out x h
     ·simp at h
      subst h;omega)
    clear h1;go_wp2_with fail
    go_roundg (b.length-(j+1))
    case measure=>rw[HG.out];omega
    case rel=>exact⟨j+1,rfl,by omega,by go_num,HN.out,rfl⟩
  ·have hall:=HA.out
   rw[List.take_of_length_le (by omega)]at hall
   have HN:=Hi (show b.all (fun c=>decide (c.toNat≤127))=true from List.all_eq_true.2 fun x hx=>decide_eq_true (hall x hx));clear hall;go_wp2_with fail
   go_ret;exact⟨⟨-1,rfl,by rw[HN.out];rfl⟩,rfl⟩
theorem containsPlain_any (v:Value)(b:List UInt8)(w:World)(h:Bytes w v b) :
  Calls Tryz.prog 309 #[v,.func (.func 310) #[] #[]] w fun e w'=>e=.returned (.bool (!(b.all (fun c=>decide (c.toNat≤127)))))∧w=w':=by
 have HI:=Hi (indexPlain_any v b w h);clear h;go_enter Tryz.func309,Tryz.ntmps309
 go_wp2_with fail
 refine HI.out.mono ?_;rintro e w1 ⟨⟨x,rfl,hx⟩,rfl⟩;have HX:=Hi hx;clear hx;go_wp2_with fail
 go_ret;exact⟨by rw[←HX.out];rfl,rfl⟩
theorem plain_any (v:Value)(b:List UInt8)(w:World)(h:Bytes w v b) :
  Calls Tryz.prog 258 #[v] w fun e w'=>e=.returned (.bool (plainB b))∧Fz w w':=by
 obtain⟨a,cap,rfl,-⟩:=h.form
 have HC:=Hi (containsPlain_any _ b w h);clear h;have hp:plainB b=(decide (0<b.length)&&b.all (fun c=>decide (c.toNat≤127))):=rfl;have HP:=Hi hp;clear hp;by_cases h0:0<b.length
 ·have q1:decide ((0:Int)<(b.length:Int))=true:=decide_eq_true (by omega)
  have q2:(0:Int)<(b.length:Int):=by omega
  obtain⟨d,hd⟩:∃ d,d=b.all (fun c=>decide (c.toNat≤127)):=⟨_,rfl⟩
  rw[←hd]at HC HP
  rw[decide_eq_true h0,Bool.true_and]at HP
  clear hd;cases d
  all_goals
   go_enter Tryz.func258,Tryz.ntmps258
   go_wp2_with fail
   refine HC.out.mono ?_;rintro e w1 ⟨rfl,rfl⟩;go_wp2_with fail
   go_ret;exact⟨by rw[HP.out];rfl,Fr.refl _⟩
 ·have q1:decide ((0:Int)<(b.length:Int))=false:=decide_eq_false (by omega)
  have q2:¬(0:Int)<(b.length:Int):=by omega
  rw[decide_eq_false h0,Bool.false_and]at HP
  go_enter Tryz.func258,Tryz.ntmps258
  go_wp2_with fail
  go_ret;exact⟨by rw[HP.out];rfl,Fr.refl _⟩
theorem wholesG_any (v:Value)(l:List UInt8)(w:World)(h:Bytes w v l)(hl:l.length≤1099511627776) :
  Calls Tryz.prog 260 #[v] w fun e w'=>e=.returned (.bool (wholesB l))∧Fz w w':=by
 have hN:=Hi (new_any w v l h hl);clear h;go_enter Tryz.func260,Tryz.ntmps260
 go_wp2_with fail
 refine hN.out.mono ?_;rintro e w1 ⟨rfl,C1,F1⟩;have HC:=Hi C1;have HF:=Hi F1;obtain⟨c,hc⟩:∃ c,c=w.heap.size:=⟨_,rfl⟩
 rw[←hc]at HC ⊢
 have HCC:=Hi hc;clear C1 F1 hN hc;go_wp2_with fail
 refine(wholes_any HC.out).mono ?_
 rintro e w2 ⟨hout,F2⟩;rw[List.drop_zero]at hout
 have G2:=HF.out.trans' F2 (fun i hi e=>absurd hi (by rw[e,HCC.out];exact Nat.lt_irrefl _));unfold wholesOut at hout;have HG:=Hi G2;clear F2 G2 HF;cases hr:allS l with
 |error x=>
  rw[hr]at hout
  subst hout;have hx1:(x==0)=false:=beq_eq_false_iff_ne.2 (allS_pos hr);have hs:wholesB l=false:=by unfold wholesB;rw[hr]
  have HS:=Hi hs;clear hs hr;go_wp2_with fail
  go_ret;exact⟨by rw[HS.out];rfl,HG.out⟩
 |ok ls=>
  rw[hr]at hout
  obtain⟨a,cap,rfl⟩:=hout
  have hs:wholesB l=decide (0<ls.length):=by unfold wholesB;rw[hr]
  clear hr;generalize ls.length=n at *
  have HS:=Hi hs;clear hs;go_wp2_with fail
  go_ret;exact⟨by rw[HS.out];rfl,HG.out⟩
theorem genCont_any (k:Int)(v:Value)(b:List UInt8)(w:World)(h:Bytes w v b)(hl:b.length≤1099511627776) :
  Calls Tryz.prog 208 #[.int .i64 k,v] w fun e w'=>e=.returned (.bool (contB k b))∧Fz w w':=by
 have H:=Hi h;obtain⟨a,cap,rfl,-⟩:=h.form
 clear h;have hk:(k=1∨k=2∨k=6)∨k=7∨k=8∨(k=0∨k=3∨k=5)∨((k==0)=false∧(k==1)=false∧(k==2)=false∧(k==3)=false∧(k==5)=false∧(k==6)=false∧(k==7)=false∧(k==8)=false):=by
  simp only[beq_eq_false_iff_ne]
  omega
 rcases hk with hk|rfl|rfl|hk|⟨h0,h1,h2,h3,h5,h6,h7,h8⟩
 ·have HC:=Hi (show contB k b=plainB b from if_pos hk)
  rcases hk with rfl|rfl|rfl
  all_goals
   go_enter Tryz.func208,Tryz.ntmps208
   go_wp2_with fail
   refine(plain_any _ b w H.out).mono ?_
   rintro e w1 ⟨rfl,F1⟩;go_wp2_with fail
   go_ret;exact⟨by rw[HC.out];rfl,F1⟩
 ·have HC:=Hi (show contB 7 b=decide (b.length=4∨b.length=16) from rfl)
  rcases Nat.decEq b.length 4 with h4|h4
  ·have q1:((b.length:Int)==4)=false:=beq_eq_false_iff_ne.2 (by omega)
   have q2:(b.length==4)=false:=beq_eq_false_iff_ne.2 h4;rcases Nat.decEq b.length 16 with h16|h16
   ·have q3:((b.length:Int)==16)=false:=beq_eq_false_iff_ne.2 (by omega)
    have q4:(b.length==16)=false:=beq_eq_false_iff_ne.2 h16;go_enter Tryz.func208,Tryz.ntmps208
    go_wp2_with fail
    go_ret;exact⟨by rw[HC.out,decide_eq_false (by omega)];rfl,Fr.refl _⟩
   ·have q3:((b.length:Int)==16)=true:=by rw[h16];rfl
    have q4:(b.length==16)=true:=by rw[h16];rfl
    go_enter Tryz.func208,Tryz.ntmps208
    go_wp2_with fail
    go_ret;exact⟨by rw[HC.out,decide_eq_true (by omega)];rfl,Fr.refl _⟩
  ·have q1:((b.length:Int)==4)=true:=by rw[h4];rfl
   have q2:(b.length==4)=true:=by rw[h4];rfl
   go_enter Tryz.func208,Tryz.ntmps208
   go_wp2_with fail
   go_ret;exact⟨by rw[HC.out,decide_eq_true (by omega)];rfl,Fr.refl _⟩
 ·have HC:=Hi (show contB 8 b=oidB b from rfl)
  have HO:=Hi (oidParse_any _ b w H.out hl);go_enter Tryz.func208,Tryz.ntmps208
  go_wp2_with fail
  refine HO.out.mono ?_;rintro e w1 ⟨hout,F1⟩;have HF1:=Hi F1;clear F1 HO;unfold oidParseOut at hout;cases hr:oidParseS b with
  |error x=>
   rw[hr]at hout
   subst hout;have hx1:(x==0)=false:=beq_eq_false_iff_ne.2 (oidParse_nz hr);have HS:=Hi (show oidB b=false by unfold oidB;rw[hr]);clear hr;go_wp2_with fail
   go_ret;exact⟨by rw[HC.out,HS.out];rfl,HF1.out⟩
  |ok o=>
   rw[hr]at hout
   obtain⟨ao,co,rfl,-⟩:=hout
   have HS:=Hi (show oidB b=true by unfold oidB;rw[hr]);clear hr;go_wp2_with fail
   go_ret;exact⟨by rw[HC.out,HS.out];rfl,HF1.out⟩
 ·have HC:=Hi (show contB k b=wholesB b by
   unfold contB;rw[if_neg (by omega),if_neg (by omega),if_neg (by omega),if_pos hk])
  rcases hk with rfl|rfl|rfl
  all_goals
   go_enter Tryz.func208,Tryz.ntmps208
   go_wp2_with fail
   refine(wholesG_any _ b w H.out hl).mono ?_
   rintro e w1 ⟨rfl,F1⟩;go_wp2_with fail
   go_ret;exact⟨by rw[HC.out];rfl,F1⟩
 ·have HC:=Hi (show contB k b=false by
   simp only[beq_eq_false_iff_ne]at h0 h1 h2 h3 h5 h6 h7 h8
   unfold contB;rw[if_neg (by omega),if_neg (by omega),if_neg (by omega),if_neg (by omega)])
  go_enter Tryz.func208,Tryz.ntmps208
  go_wp2_with fail
  go_ret;exact⟨by rw[HC.out];rfl,Fr.refl _⟩
theorem genRight_any (u:Value)(g:Gen)(w:World)(h:GenAt w u g)(hf:fewG g) :
  Calls Tryz.prog 152 #[u] w fun e w'=>e=.returned (.bool (genOk g))∧Fz w w':=by
 obtain⟨ab,cb,an,cn,rfl,hb,hn⟩:=h.form
 obtain⟨k,b,n⟩:=g
 obtain⟨f1,f2⟩:=hf
 simp only at hb hn f1 f2 ⊢
 have F0:Fz w (w.alloc (.cells #[.int .i64 k,.slice ab b.length cb,.slice an n.length cn] 148)):=(Fr.refl w).alloc _;have B:=Blk.new w 148 #[.int .i64 k,.slice ab b.length cb,.slice an n.length cn];obtain⟨z,hz⟩:∃ z,z=w.heap.size:=⟨_,rfl⟩
 rw[←hz]at B
 have HZ:=Hi hz;have HB:=Hi (hb.old F0);have HN:=Hi (hn.old F0);have HF0:=Hi F0;have HF2:=Hi f2;have hg:genOk ⟨k,b,n⟩=if k=4 then decide (b.length=0)&&nameOk n else decide (n.length=0)&&contB k b:=rfl
 have HG:=Hi hg;clear h hb hn hz F0 f2 hg;go_enter Tryz.func152,Tryz.ntmps152
 go_upto_region 1 with fail
 rw[←HZ.out]
 generalize (w.alloc (.cells #[.int .i64 k,.slice ab b.length cb,.slice an n.length cn] 148))=w0 at *
 have e0:=B.cell 0;have e1:=B.cell 1;have e2:=B.cell 2;simp only[SG]at e0 e1 e2
 by_cases h4:k=4
 ·subst h4
  rw[if_pos rfl]at HG
  by_cases h0:b.length=0
  ·have q1:((b.length:Int)==0)=true:=by rw[h0];rfl
   have q2:(b.length==0)=true:=by rw[h0];rfl
   rw[decide_eq_true h0,Bool.true_and]at HG
   have HR:=Hi (right_any _ n w0 HN.out HF2.out);clear h0;go_wp2_with fail
   refine HR.out.mono ?_;rintro e w1 ⟨rfl,F1⟩;go_wp2_with fail
   go_ret;exact⟨by rw[HG.out];rfl,HF0.out.trans F1⟩
  ·have q1:((b.length:Int)==0)=false:=beq_eq_false_iff_ne.2 (by omega)
   have q2:(b.length==0)=false:=beq_eq_false_iff_ne.2 (by omega);rw[decide_eq_false h0,Bool.false_and]at HG
   go_wp2_with fail
   go_ret;exact⟨by rw[HG.out];rfl,HF0.out⟩
 ·have k4:(k==4)=false:=beq_eq_false_iff_ne.2 h4
  rw[if_neg h4]at HG
  by_cases h0:n.length=0
  ·have q1:((n.length:Int)==0)=true:=by rw[h0];rfl
   have q2:(n.length==0)=true:=by rw[h0];rfl
   rw[decide_eq_true h0,Bool.true_and]at HG
   have HC:=Hi (genCont_any k _ b w0 HB.out (by omega));clear h0;go_wp2_with fail
   refine HC.out.mono ?_;rintro e w1 ⟨rfl,F1⟩;go_wp2_with fail
   go_ret;exact⟨by rw[HG.out];rfl,HF0.out.trans F1⟩
  ·have q1:((n.length:Int)==0)=false:=beq_eq_false_iff_ne.2 (by omega)
   have q2:(n.length==0)=false:=beq_eq_false_iff_ne.2 (by omega);rw[decide_eq_false h0,Bool.false_and]at HG
   go_wp2_with fail
   go_ret;exact⟨by rw[HG.out];rfl,HF0.out⟩
def genOut (w w':World)(c:Nat)(K:Nat→Prop)(bs:List UInt8)(p:Nat)(r:Except Int (Gen × Nat))(e:Ending):Prop:=
 match r with
 |.ok (g,m)=>∃ ab cb an cn,e=.returned (.tuple #[.agg #[.int .i64 g.k,.slice ab g.b.length cb,.slice an g.n.length cn],.int .i64 0])∧Kept (fun W=>Bytes W (.slice ab g.b.length cb) g.b∧NameAt W (.slice an g.n.length cn) g.n) (fun k=>k<w.heap.size) w'∧CurAt w' c K bs (p+m)
 |.error x=>e=.returned (.tuple #[.agg #[.int .i64 0,.slice none 0 0,.slice none 0 0],.int .i64 x])∧x≠0∧∃ q,p≤q∧CurAt w' c K bs q
def rGenOut (K:Nat→Prop)(w':World)(p:Nat)(r:Except Int (Gen × Nat))(e:Ending):Prop:=
 match r with
 |.error x=>e=.returned (.tuple #[.agg #[.int .i64 0,.slice none 0 0,.slice none 0 0],.int .i64 p,.int .i64 x])
 |.ok (g,k)=>∃ ab cb an cn,e=.returned (.tuple #[.agg #[.int .i64 g.k,.slice ab g.b.length cb,.slice an g.n.length cn],.int .i64 ((p+k:Nat):Int),.int .i64 0])∧Kept (fun W=>Bytes W (.slice ab g.b.length cb) g.b∧NameAt W (.slice an g.n.length cn) g.n) K w'
def genReadOut (w w':World)(c:Nat)(K:Nat→Prop)(bs:List UInt8)(p:Nat)(r:Except Int (Gen × Nat))(e:Ending):Prop:=
 match r with
 |.ok (g,m)=>∃ ab cb an cn,e=.returned (.tuple #[.agg #[.int .i64 g.k,.slice ab g.b.length cb,.slice an g.n.length cn],.int .i64 0])∧Kept (fun W=>Bytes W (.slice ab g.b.length cb) g.b∧NameAt W (.slice an g.n.length cn) g.n) (fun k=>k<w.heap.size) w'∧CurAt w' c K bs (p+m)
 |.error x=>e=.returned (.tuple #[.agg #[.int .i64 0,.slice none 0 0,.slice none 0 0],.int .i64 x])∧x≠0∧CurAt w' c K bs p
theorem info148:(Tryz.prog.info? 148).map (fun i=>(i.zero,i.size,i.bytes))=some (some (.agg #[.int .i64 0,.slice none 0 0,.slice none 0 0]),3,56):=by kernel_rfl
def gensOut (w w':World)(c:Nat)(K:Nat→Prop)(bs:List UInt8)(p:Nat)(r:Except Int (List Gen × Nat))(e:Ending):Prop:=
 match r with
 |.ok (l,m)=>∃ a cc,e=.returned (.tuple #[.slice a l.length cc,.int .i64 0])∧Kept (fun W=>Gens W (.slice a l.length cc) l) (fun k=>k<w.heap.size) w'∧CurAt w' c K bs (p+m)
 |.error x=>e=.returned (.tuple #[.slice none 0 0,.int .i64 x])∧x≠0∧∃ q,p≤q∧CurAt w' c K bs q
def gensReadOut (w w':World)(c:Nat)(K:Nat→Prop)(bs:List UInt8)(p:Nat)(r:Except Int (List Gen × Nat))(e:Ending):Prop:=
 match r with
 |.ok (l,m)=>∃ a cc,e=.returned (.tuple #[.slice a l.length cc,.int .i64 0])∧Kept (fun W=>Gens W (.slice a l.length cc) l) (fun k=>k<w.heap.size) w'∧CurAt w' c K bs (p+m)
 |.error x=>e=.returned (.tuple #[.slice none 0 0,.int .i64 x])∧x≠0∧CurAt w' c K bs p
def genAllR (l:List UInt8):Except Int (List Gen × Nat):=match genAllS l with|.error e=>.error e|.ok gs=>.ok (gs,l.length)
theorem info123:(Tryz.prog.info? 123).map (fun i=>(i.zero,i.size,i.bytes))=some (some (.agg #[.int .i64 0,.slice none 0 0,.slice none 0 0]),3,56):=by kernel_rfl
def rGensOut (K:Nat→Prop)(w':World)(r:Except Int (List Gen))(e:Ending):Prop:=
 match r with
 |.error x=>e=.returned (.tuple #[.slice none 0 0,.int .i64 x])
 |.ok gs=>∃ a c,e=.returned (.tuple #[.slice a gs.length c,.int .i64 0])∧Kept (fun W=>Gens W (.slice a gs.length c) gs) K w'
def rListOut (K:Nat→Prop)(w':World)(p:Nat)(r:Except Int (List Gen × Nat))(e:Ending):Prop:=
 match r with
 |.error x=>e=.returned (.tuple #[.slice none 0 0,.int .i64 p,.int .i64 x])
 |.ok (gs,k)=>∃ a c,e=.returned (.tuple #[.slice a gs.length c,.int .i64 ((p+k:Nat):Int),.int .i64 0])∧Kept (fun W=>Gens W (.slice a gs.length c) gs) K w'
end Go.Proofs.YteidmhkobmddiaaGreatDoor
