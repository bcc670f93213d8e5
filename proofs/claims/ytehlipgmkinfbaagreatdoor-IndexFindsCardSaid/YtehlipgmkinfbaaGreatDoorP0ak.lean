/-
  Merged by program: XR06d XR06e XR06g XR06h XR06s XR06T.
-/
import Derived.Test.YtehlipgmkinfbaaGreatDoorP0aj
set_option linter.unusedSimpArgs false
set_option maxRecDepth 100000
set_option maxHeartbeats 8000000
namespace Go.Q
open Go Go.RowKit
def sigR (k:Int)(b:List UInt8):Option (List Int):=
 if kindOk k=true then
  (if k=12 then (wideR b).map natInts else
    if k=30∧b.length % 2=1 then none else if (signsS k b).all (mayS k)=true then some (signsS k b) else none)
 else none
theorem sigR_ok {k:Int}{b:List UInt8}{l:List Int}(h:sigR k b=some l):rightS k b=true∧signsS k b=l:=by
 unfold sigR at h;split at h
 ·rename_i hk
  split at h
  ·rename_i h12
   subst h12;cases hw:wideR b with
   |none=>rw[hw]at h;cases h
   |some ns=>
    rw[hw]at h
    simp only[Option.map_some,Option.some.injEq]at h
    have:=wideR_ok hw;exact⟨this.2.2.2,this.2.2.1.trans h⟩
  ·split at h
   ·cases h
   ·split at h
    ·rename_i ha
     simp only[Option.some.injEq]at h
     exact⟨by unfold rightS;rw[hk,ha];rfl,h⟩
    ·cases h
 ·cases h
theorem pairs_snoc (x y:UInt8):∀ (l:List UInt8),l.length % 2=0→pairsS (l++[x,y])=pairsS l++[((x.toNat * 256+y.toNat:Nat):Int)]
 | [],_=>rfl
 | [_],h=>by simp at h
 |a::b::t,h=>by
  have:=pairs_snoc x y t (by simp at h;omega);simp only[List.cons_append,pairsS,this]
theorem pairs_take {b:List UInt8}{m:Nat}{x y:UInt8}(hx:b[2*m]? = some x)(hy:b[2*m+1]? = some y):pairsS (b.take (2*(m+1)))=pairsS (b.take (2*m))++[((x.toNat * 256+y.toNat:Nat):Int)]:=by
 have h1:b.take (2*m+1)=b.take (2*m)++[x]:=by rw[List.take_add_one,hx];rfl
 have h2:b.take (2*m+2)=b.take (2*m+1)++[y]:=by rw[show 2*m+2=2*m+1+1 from rfl,List.take_add_one,hy];rfl
 rw[show 2*(m+1)=2*m+2 from by omega,h2,h1,List.append_assoc]
 refine pairs_snoc x y _ ?_;have:=(List.getElem?_eq_some_iff.1 hx).1;rw[List.length_take]
 omega
theorem decN_cases {n b0 b1 b2 b3 v m:Nat}(h:Lib.decodeN n b0 b1 b2 b3=(v,m))(hs:¬(v=65533∧m≤1))(h0:b0<256)(h1:b1<256)(_:b2<256)(_:b3<256) :
  (m=1∧v=b0∧v<128)∨(m=2∧1<n∧128≤v∧v<2048∧b0=192+v / 64∧b1=128+v % 64)∨
  (m=3∧2<n∧2048≤v∧v<65536∧¬(55296≤v∧v≤57343)∧b0=224+v / 4096∧b1=128+v / 64 % 64∧b2=128+v % 64)∨
  (m=4∧3<n∧65536≤v∧v≤1114111∧b0=240+v / 262144∧b1=128+v / 4096 % 64∧b2=128+v / 64 % 64∧b3=128+v % 64):=by
 unfold Lib.decodeN at h;split at h
 ·simp only[Prod.mk.injEq]at h
  exact .inl ⟨by omega,by omega,by omega⟩
 split at h
 ·split at h
  ·simp only[Prod.mk.injEq]at h
   exact .inr (.inl ⟨by omega,by omega,by omega,by omega,by omega,by omega⟩)
  ·simp only[Prod.mk.injEq]at h
   exact absurd ⟨h.1.symm,by omega⟩ hs
 split at h
 ·split at h
  ·simp only[Prod.mk.injEq]at h
   exact .inr (.inr (.inl ⟨by omega,by omega,by omega,by omega,by omega,by omega,by omega,by omega⟩))
  ·simp only[Prod.mk.injEq]at h
   exact absurd ⟨h.1.symm,by omega⟩ hs
 split at h
 ·split at h
  ·simp only[Prod.mk.injEq]at h
   exact .inr (.inr (.inr ⟨by omega,by omega,by omega,by omega,by omega,by omega,by omega,by omega⟩))
  ·simp only[Prod.mk.injEq]at h
   exact absurd ⟨h.1.symm,by omega⟩ hs
 ·simp only[Prod.mk.injEq]at h
  exact absurd ⟨h.1.symm,by omega⟩ hs
theorem u8_of {x:UInt8}{n:Nat}(h:x.toNat=n):x=UInt8.ofNat n:=by
 subst h;exact(UInt8.ofNat_toNat).symm
theorem dec_strict {l:List UInt8}(hl:l≠[])(hs:¬((decS l).1=65533∧(decS l).2≤1)):∃ n rest,okSign n∧l=enc n++rest∧(decS l).1=n∧(decS l).2=(enc n).length:=by
 obtain⟨v,m,hvm⟩:∃ v m,decS l=(v,m):=⟨_,_,rfl⟩
 have g:∀ x:UInt8,x.toNat<256:=fun x=>x.toNat_lt
 have hc:=decN_cases (by exact hvm) (by rw[hvm]at hs;exact hs) (g _) (g _) (g _) (g _);rw[hvm]
 rcases hc with ⟨rfl,h1,h2⟩|⟨rfl,h1,h2,h3,h4,h5⟩|⟨rfl,h1,h2,h3,h4,h5,h6,h7⟩|⟨rfl,h1,h2,h3,h4,h5,h6,h7⟩
 ·have he:enc v=[UInt8.ofNat v]:=by unfold enc;rw[if_pos h2]
  match l,hl with
  |x::t,_=>
   simp only[List.getD_cons_zero]at h1
   exact⟨v,t,⟨by omega,by omega⟩,by rw[he,u8_of h1.symm];rfl,rfl,by rw[he];rfl⟩
 ·have he:enc v=[UInt8.ofNat (192+v / 64),UInt8.ofNat (128+v % 64)]:=by unfold enc;rw[if_neg (by omega),if_pos h3]
  match l,h1 with
  |x::y::t,_=>
   simp only[List.getD_cons_zero,List.getD_cons_succ]at h4 h5
   exact⟨v,t,⟨by omega,by omega⟩,by rw[he,u8_of h4,u8_of h5];rfl,rfl,by rw[he];rfl⟩
 ·have he:enc v=[UInt8.ofNat (224+v / 4096),UInt8.ofNat (128+v / 64 % 64),UInt8.ofNat (128+v % 64)]:=by unfold enc;rw[if_neg (by omega),if_neg (by omega),if_pos h3]
  match l,h1 with
  |x::y::z::t,_=>
   simp only[List.getD_cons_zero,List.getD_cons_succ]at h5 h6 h7
   exact⟨v,t,⟨by omega,h4⟩,by rw[he,u8_of h5,u8_of h6,u8_of h7];rfl,rfl,by rw[he];rfl⟩
 ·have he:enc v=[UInt8.ofNat (240+v / 262144),UInt8.ofNat (128+v / 4096 % 64),UInt8.ofNat (128+v / 64 % 64),UInt8.ofNat (128+v % 64)]:=by unfold enc;rw[if_neg (by omega),if_neg (by omega),if_neg (by omega)]
  match l,h1 with
  |x::y::z::u::t,_=>
   simp only[List.getD_cons_zero,List.getD_cons_succ]at h4 h5 h6 h7
   exact⟨v,t,⟨by omega,by omega⟩,by rw[he,u8_of h4,u8_of h5,u8_of h6,u8_of h7];rfl,rfl,by rw[he];rfl⟩
theorem loose_enc {n:Nat}(h:okSign n)(rest:List UInt8):looseL (enc n++rest)=(looseL rest).map (n::·):=by
 obtain⟨h1,h2⟩:=h
 have key:∀ (x:UInt8) (t:List UInt8) (n0 more:Nat),looseHead x.toNat=(n0,more)→t.length=more→looseAcc n0 t=n→enc n=x::t→looseL (enc n++rest)=(looseL rest).map (n::·):=by
  intro x t n0 more hh ht ha he;rw[he,List.cons_append,looseL_cons hh,←ht,List.take_left,List.drop_left,ha,if_neg (by omega)]
 by_cases c1:n<128
 ·have e1:=u8 n (by omega)
  exact key (UInt8.ofNat n) [] n 0 (by rw[e1];unfold looseHead;rw[if_neg (by omega),if_neg (by omega),if_neg (by omega)]) rfl rfl (by unfold enc;rw[if_pos c1])
 by_cases c2:n<2048
 ·have e1:=u8 (192+n / 64) (by omega)
  have e2:=u8 (128+n % 64) (by omega);exact key _ [UInt8.ofNat (128+n % 64)] (n / 64) 1 (by rw[e1];unfold looseHead;rw[if_neg (by omega),if_neg (by omega),if_pos (by omega)];simp) rfl (by simp only[looseAcc,List.foldl_cons,List.foldl_nil,e2];omega) (by unfold enc;rw[if_neg c1,if_pos c2])
 by_cases c3:n<65536
 ·have e1:=u8 (224+n / 4096) (by omega)
  have e2:=u8 (128+n / 64 % 64) (by omega);have e3:=u8 (128+n % 64) (by omega);exact key _ [UInt8.ofNat (128+n / 64 % 64),UInt8.ofNat (128+n % 64)] (n / 4096) 2 (by rw[e1];unfold looseHead;rw[if_neg (by omega),if_pos (by omega)];simp) rfl (by simp only[looseAcc,List.foldl_cons,List.foldl_nil,e2,e3];omega) (by unfold enc;rw[if_neg c1,if_neg c2,if_pos c3])
 ·have e1:=u8 (240+n / 262144) (by omega)
  have e2:=u8 (128+n / 4096 % 64) (by omega);have e3:=u8 (128+n / 64 % 64) (by omega);have e4:=u8 (128+n % 64) (by omega);exact key _ [UInt8.ofNat (128+n / 4096 % 64),UInt8.ofNat (128+n / 64 % 64),UInt8.ofNat (128+n % 64)] (n / 262144) 3 (by rw[e1];unfold looseHead;rw[if_pos (by omega)];simp) rfl (by simp only[looseAcc,List.foldl_cons,List.foldl_nil,e2,e3,e4];omega) (by unfold enc;rw[if_neg c1,if_neg c2,if_neg c3])
theorem loose_all:∀ ns:List Nat,(∀ n∈ns,okSign n)→looseL (encAll ns)=some ns
 | [],_=>rfl
 |n::t,h=>by
  have e:encAll (n::t)=enc n++encAll t:=by simp[encAll]
  rw[e,loose_enc (h n (by simp)),loose_all t (fun m hm=>h m (by simp[hm]))]
  rfl
theorem wide_strict:∀ (f:Nat) (b:List UInt8),b.length≤f→(wideS f b).all (mayS 12)=true→∃ ns:List Nat,(∀ n∈ns,okSign n)∧b=encAll ns∧wideS f b=natInts ns
 |f,[],_,_=>⟨[],fun n hn=>absurd hn List.not_mem_nil,rfl,by cases f<;>rfl⟩
 |0,x::t,h,_=>by simp at h
 |f+1,x::t,h,ha=>by
  simp only[wideS,List.all_cons,Bool.and_eq_true]at ha
  obtain⟨h1,h2⟩:=ha
  have hs:¬((decS (x::t)).1=65533∧(decS (x::t)).2≤1):=fun hc=>by
   rw[if_pos hc]at h1
   simp[mayS]at h1
  obtain⟨n,rest,hn,he,hd1,hd2⟩:=dec_strict (List.cons_ne_nil x t) hs
  have hp:=enc_pos n;have hlen:(enc n).length+rest.length=t.length+1:=by
   have:=congrArg List.length he;simpa [List.length_append] using this.symm
  have hdrop:(x::t).drop (decS (x::t)).2=rest:=by rw[hd2,he,List.drop_left]
  rw[hdrop]at h2
  obtain⟨ns,g1,g2,g3⟩:=wide_strict f rest (by simp at h;omega) h2
  refine⟨n::ns,fun m hm=>?_,?_,?_⟩
  ·rcases List.mem_cons.1 hm with rfl|hm
   ·exact hn
   ·exact g1 m hm
  ·rw[he,g2];simp[encAll]
  ·simp only[wideS]
   rw[if_neg hs,hdrop,hd1,g3]
   rfl
theorem sigR_right {k:Int}{b:List UInt8}(h:rightS k b=true):sigR k b=some (signsS k b):=by
 have hr:=h;unfold rightS at h;rw[Bool.and_eq_true]at h
 obtain⟨hk,ha⟩:=h
 unfold sigR;rw[if_pos hk]
 by_cases h12:k=12
 ·subst h12
  rw[if_pos rfl]
  have ha2:(wideS b.length b).all (mayS 12)=true:=ha;obtain⟨ns,g1,g2,g3⟩:=wide_strict b.length b (Nat.le_refl _) ha2
  have hs:signsS 12 b=natInts ns:=g3;have hw:wideR b=some ns:=by
   rw[wideR_some (ns:=ns) (by rw[g2];exact loose_all ns g1),if_pos ⟨by rw[←hs];exact ha,g2.symm⟩]
  rw[hw,hs]
  rfl
 ·rw[if_neg h12]
  by_cases h30:k=30∧b.length % 2=1
  ·exfalso
   obtain⟨rfl,ho⟩:=h30
   have:∀ l:List UInt8,l.length % 2=1→(-1:Int)∈pairsS l:=by
    intro l;induction hn:l.length using Nat.strongRecOn generalizing l with
    |_ n ih=>
     intro hl;match l,hl with
     | [x],_=>simp[pairsS]
     |x::y::t,hl=>
      simp only[pairsS,List.mem_cons]
      have hl2:n % 2=1:=hl;have hn2:t.length+1+1=n:=hn;exact .inr (ih t.length (by omega) t rfl (by omega))
   have hm:=this b ho;have hs:signsS 30 b=pairsS b:=rfl;rw[hs]at ha
   have:=List.all_eq_true.1 ha _ hm;exact absurd this (by decide)
  ·rw[if_neg h30,if_pos ha]
theorem sigR_iff (k:Int)(b:List UInt8):sigR k b=if rightS k b=true then some (signsS k b) else none:=by
 by_cases h:rightS k b=true
 ·rw[if_pos h,sigR_right h]
 ·rw[if_neg h]
  cases hs:sigR k b with
  |none=>rfl
  |some l=>exact absurd (sigR_ok hs).1 h
end Go.Q
namespace Go.Proofs.YtehlipgmkinfbaaGreatDoor
open Go Go.RowKit Go.Q
def WideOut (w w':World)(b:List UInt8)(e:Ending):Prop:=
 ∃ v,e=.returned (.tuple #[v,.bool (wideR b).isSome])∧Ints w' v (natInts ((wideR b).getD []))∧Fz w w'
theorem wideOut_no {w w':World}{b:List UInt8}(h:wideR b=none)(F:Fz w w'):WideOut w w' b (.returned (.tuple #[.slice none 0 0,.bool false])):=by
 refine⟨_,by rw[h];rfl,?_,F⟩
 rw[h]
 exact⟨none,0,rfl,Nat.zero_le _,by unfold maxLen;omega,fun h=>absurd h (by decide)⟩
theorem le_snoc {xs:List Nat}{A:Nat}(h:∀ x∈xs,x≤1114111)(hA:¬1114111<A):∀ x∈xs++[A],x≤1114111:=by
 intro x hx;rcases List.mem_append.1 hx with h'|h'
 ·exact h x h'
 ·rw[List.mem_singleton.1 h']
  omega
theorem r06wide_any (v:Value)(b:List UInt8)(w:World)(h:Bytes w v b)(hlim:b.length≤16777216) :
  Calls Tryz.prog 196 #[v] w fun e w'=>WideOut w w' b e:=by
 obtain⟨a,cap,rfl,-,-,hx⟩:=h.form
 have HB:=Hi h;have HX:=Hi hx;clear h hx;go_enter Tryz.func196,Tryz.ntmps196
 go_wp2_with fail
 go_loopg [4,5] (b.length+4) (fun g l i wr=>∃ (xs:List Nat) (j:Nat) (a6:Option Addr) (n6 c6:Nat),g=b.length+4-j∧j≤b.length+3∧l=.slice a6 n6 c6∧i=.int .i64 j∧wr.ownsRow w.heap.size 3 1 (.slice a6 n6 c6) xs.length (intCells (natInts xs))∧looseL b=(looseL (b.drop j)).map (xs++·)∧(∀ x∈xs,x≤1114111)∧xs.length≤j∧Fz w wr)
 case atStart=>exact⟨[],0,none,0,0,rfl,Nat.zero_le _,rfl,rfl,⟨rfl,.inl ⟨rfl,rfl⟩⟩,by simp,by simp,Nat.zero_le _,Fr.refl _⟩
 case round=>
  obtain⟨xs,j,a6,n6,c6,hg,hj,rfl,rfl,ho6,hL,hxs,hxl,G6⟩:=hrel
  have HG:=Hi hg;have HL:=Hi hL;have HXS:=Hi hxs;have HO6:=Hi ho6;have HG6:=Hi G6;clear hg hL hxs ho6 G6;by_cases hjl:j<b.length
  ·obtain⟨bb,oo,rfl,hy⟩:=HX.out (by omega)
   obtain⟨x,hxj⟩:∃ x,b[j]? = some x:=⟨_,List.getElem?_eq_getElem hjl⟩
   have hd:b.drop j=x::b.drop (j+1):=by
    obtain⟨h,rfl⟩:=List.getElem?_eq_some_iff.1 hxj
    exact List.drop_eq_getElem_cons h
   have ec:=HG6.out.cell (hy j x hxj) (fun h=>h);have HY:=Hi hy;have q1:(0:Int)≤(j:Int):=by omega
   have q2:(j:Int)<(b.length:Int):=by omega
   obtain⟨⟨n0,more⟩,hh⟩:∃ p,looseHead x.toNat=p:=⟨_,rfl⟩
   have hLc:=looseL_cons (t:=b.drop (j+1)) hh;have hxlt:=x.toNat_lt;have hsm:=fun k hk=>acc_small hh hxlt (b.drop (j+1)) k hk
   obtain⟨c,hc⟩:∃ c,c=x.toNat:=⟨_,rfl⟩
   rw[←hc]at hxlt hh ec
   have hcw:wrap64 (c:Int)=(c:Int):=by unfold wrap64;omega
   have HD:=Hi hd;have HLC:=Hi hLc;have HSM:=Hi hsm;have hcases:((240≤c∧(c:Int)-240=(n0:Int)∧more=3)∨(¬240≤c∧224≤c∧(c:Int)-224=(n0:Int)∧more=2)∨(¬240≤c∧¬224≤c∧192≤c∧(c:Int)-192=(n0:Int)∧more=1)∨(¬240≤c∧¬224≤c∧¬192≤c∧(c:Int)=(n0:Int)∧more=0)):=by
    unfold looseHead at hh;split at hh
    ·simp only[Prod.mk.injEq]at hh;omega
    split at hh
    ·simp only[Prod.mk.injEq]at hh;omega
    split at hh
    ·simp only[Prod.mk.injEq]at hh;omega
    ·simp only[Prod.mk.injEq]at hh;omega
   clear hy hxj hd hLc hsm hc hh;have hn0:n0<256:=by omega
   rcases hcases with ⟨d1,d4,rfl⟩|⟨d1,d2,d4,rfl⟩|⟨d1,d2,d3,d4,rfl⟩|⟨d1,d2,d3,d4,rfl⟩
   ·have p1:(240:Int)≤(c:Int):=by omega
    go_wp2_with fail
    obtain⟨wo,hwo⟩:∃ wo:World,wo=wr:=⟨_,rfl⟩
    obtain rfl:=hwo
    go_loopg [7,9] (3+1) (fun g n k wi=>∃ k1:Nat,g=3+2-k1∧0<k1∧k1≤3+1∧n=.int .i64 (looseAcc n0 ((b.drop (j+1)).take (k1-1)))∧k=.int .i64 k1∧wi=wo)
    case atStart=>exact⟨1,rfl,by omega,by omega,rfl,rfl,rfl⟩
    case round=>
     obtain⟨k1,hg,hk0,hk,rfl,rfl,rfl⟩:=hrel
     have HG2:=Hi hg;clear hg;have hA:looseAcc n0 ((b.drop (j+1)).take (k1-1))<8388608:=(HSM.out (k1-1) (by omega)).1;by_cases hst:k1≤3∧j+k1<b.length
     ·obtain⟨hs1,hs2⟩:=hst
      obtain⟨y,hyj⟩:∃ y,b[j+k1]? = some y:=⟨_,List.getElem?_eq_getElem hs2⟩
      have ey:=HG6.out.cell (HY.out (j+k1) y hyj) (fun h=>h);have hty:(b.drop (j+1))[k1-1]? = some y:=by rw[List.getElem?_drop,show j+1+(k1-1)=j+k1 from by omega];exact hyj
      have hT:=acc_take (n0:=n0) hty;rw[show k1-1+1=k1 from by omega]at hT
      have hylt:=y.toNat_lt;have hyw:wrap64 (y.toNat:Int)=(y.toNat:Int):=by unfold wrap64;omega
      generalize y.toNat=yy at *
      generalize looseAcc n0 ((b.drop (j+1)).take (k1-1))=A at *
      have HT:=Hi hT;have r1:(k1:Int)≤3:=by omega
      have r2:(j:Int)+(k1:Int)<(b.length:Int):=by omega
      have r3:(0:Int)≤(j:Int)+(k1:Int):=by omega
      clear hyj hty hT;go_wp2_with fail
      go_roundg (3+2-(k1+1))
      case measure=>rw[HG2.out];omega
      case rel=>exact⟨k1+1,rfl,by omega,by omega,by rw[Nat.add_sub_cancel,HT.out];go_num,by go_num,rfl⟩
     ·have hAM:looseAcc n0 ((b.drop (j+1)).take (k1-1))=looseAcc n0 ((b.drop (j+1)).take 3):=by
       by_cases hk1:k1≤3
       ·have hlen:(b.drop (j+1)).length≤k1-1:=by rw[List.length_drop];omega
        rw[List.take_of_length_le hlen,List.take_of_length_le (by omega)]
       ·rw[show k1-1=3 from by omega]
      have hout:((k1:Int)≤3∧¬(j:Int)+(k1:Int)<(b.length:Int))∨¬(k1:Int)≤3:=by omega
      have hLC:=HLC.out;rw[hAM] at *
      generalize looseAcc n0 ((b.drop (j+1)).take 3)=A at *
      have HLC2:=Hi hLC;clear hAM hLC HLC HSM;by_cases hbig:1114111<A
      ·have r4:(1114111:Int)<(A:Int):=by omega
       have hnone:wideR b=none:=wideR_none (by rw[HL.out,HD.out,HLC2.out,if_pos hbig];rfl);have HNO:=Hi hnone;clear hnone;rcases hout with ⟨r1,r2⟩|r1
       all_goals
        go_wp2_with fail
        exact bodyPost_ret (v:=.tuple #[.slice none 0 0,.bool false]) (by simp[results,Tryz.results196,go_sem]) rfl (wideOut_no HNO.out HG6.out)
      ·have r4:¬(1114111:Int)<(A:Int):=by omega
       have hb0:w.heap.size≤wr.heap.size:=HG6.out.size;have hvb:=(Vals.of_own HO6.out).2;obtain⟨a7,c7,w7,hr7,ho7,F7,-⟩:=add_int HO6.out hb0 (by omega) (A:Int) wr.heap.size ((Fr.refl (S:=fun _=>False) wr).alloc (.cells #[.int .i64 (A:Int)] 3)) (Blk.new wr 3 #[.int .i64 (A:Int)])
       have G7:=HG6.out.trans' F7 (fun i hi e=>absurd hi (by have:=hvb i e;omega));have HO7:=Hi ho7;have HG7:=Hi G7;have HRUN:=Hi hr7;have hl2:looseL b=(looseL (b.drop (j+3+1))).map ((xs++[A])++·):=by
        rw[HL.out,HD.out,HLC2.out,if_neg hbig,List.drop_drop,Option.map_map,show j+1+3=j+3+1 from by omega]
        congr 1
        funext l
        simp
       have HL2:=Hi hl2;have HBIG:=Hi hbig;clear ho7 G7 hr7 hl2 F7 hvb hbig;rcases hout with ⟨r1,r2⟩|r1
       all_goals
        go_wp2_with (at_builtin;refine wpList_append_run (by rfl) (.tmp 59) (.tmp 61) 103 (by rfl) _ w7 (by exact HRUN.out) ?_)
        go_roundg (b.length+4-(j+3+1))
        case measure=>rw[HG.out];omega
        case rel=>exact⟨xs++[A],j+3+1,a7,xs.length+1,c7,rfl,by omega,rfl,by go_num,(by have:=HO7.out;rw[List.length_append,List.length_singleton];simpa [natInts] using this),HL2.out,le_snoc HXS.out HBIG.out,(by rw[List.length_append,List.length_singleton];omega),HG7.out⟩
   ·have p1:¬(240:Int)≤(c:Int):=by omega
    have p2:(224:Int)≤(c:Int):=by omega
    go_wp2_with fail
    obtain⟨wo,hwo⟩:∃ wo:World,wo=wr:=⟨_,rfl⟩
    obtain rfl:=hwo
    go_loopg [7,9] (2+1) (fun g n k wi=>∃ k1:Nat,g=2+2-k1∧0<k1∧k1≤2+1∧n=.int .i64 (looseAcc n0 ((b.drop (j+1)).take (k1-1)))∧k=.int .i64 k1∧wi=wo)
    case atStart=>exact⟨1,rfl,by omega,by omega,rfl,rfl,rfl⟩
    case round=>
     obtain⟨k1,hg,hk0,hk,rfl,rfl,rfl⟩:=hrel
     have HG2:=Hi hg;clear hg;have hA:looseAcc n0 ((b.drop (j+1)).take (k1-1))<8388608:=(HSM.out (k1-1) (by omega)).1;by_cases hst:k1≤2∧j+k1<b.length
     ·obtain⟨hs1,hs2⟩:=hst
      obtain⟨y,hyj⟩:∃ y,b[j+k1]? = some y:=⟨_,List.getElem?_eq_getElem hs2⟩
      have ey:=HG6.out.cell (HY.out (j+k1) y hyj) (fun h=>h);have hty:(b.drop (j+1))[k1-1]? = some y:=by rw[List.getElem?_drop,show j+1+(k1-1)=j+k1 from by omega];exact hyj
      have hT:=acc_take (n0:=n0) hty;rw[show k1-1+1=k1 from by omega]at hT
      have hylt:=y.toNat_lt;have hyw:wrap64 (y.toNat:Int)=(y.toNat:Int):=by unfold wrap64;omega
      generalize y.toNat=yy at *
      generalize looseAcc n0 ((b.drop (j+1)).take (k1-1))=A at *
      have HT:=Hi hT;have r1:(k1:Int)≤2:=by omega
      have r2:(j:Int)+(k1:Int)<(b.length:Int):=by omega
      have r3:(0:Int)≤(j:Int)+(k1:Int):=by omega
      clear hyj hty hT;go_wp2_with fail
      go_roundg (2+2-(k1+1))
      case measure=>rw[HG2.out];omega
      case rel=>exact⟨k1+1,rfl,by omega,by omega,by rw[Nat.add_sub_cancel,HT.out];go_num,by go_num,rfl⟩
     ·have hAM:looseAcc n0 ((b.drop (j+1)).take (k1-1))=looseAcc n0 ((b.drop (j+1)).take 2):=by
       by_cases hk1:k1≤2
       ·have hlen:(b.drop (j+1)).length≤k1-1:=by rw[List.length_drop];omega
        rw[List.take_of_length_le hlen,List.take_of_length_le (by omega)]
       ·rw[show k1-1=2 from by omega]
      have hout:((k1:Int)≤2∧¬(j:Int)+(k1:Int)<(b.length:Int))∨¬(k1:Int)≤2:=by omega
      have hLC:=HLC.out;rw[hAM] at *
      generalize looseAcc n0 ((b.drop (j+1)).take 2)=A at *
      have HLC2:=Hi hLC;clear hAM hLC HLC HSM;by_cases hbig:1114111<A
      ·have r4:(1114111:Int)<(A:Int):=by omega
       have hnone:wideR b=none:=wideR_none (by rw[HL.out,HD.out,HLC2.out,if_pos hbig];rfl);have HNO:=Hi hnone;clear hnone;rcases hout with ⟨r1,r2⟩|r1
       all_goals
        go_wp2_with fail
        exact bodyPost_ret (v:=.tuple #[.slice none 0 0,.bool false]) (by simp[results,Tryz.results196,go_sem]) rfl (wideOut_no HNO.out HG6.out)
      ·have r4:¬(1114111:Int)<(A:Int):=by omega
       have hb0:w.heap.size≤wr.heap.size:=HG6.out.size;have hvb:=(Vals.of_own HO6.out).2;obtain⟨a7,c7,w7,hr7,ho7,F7,-⟩:=add_int HO6.out hb0 (by omega) (A:Int) wr.heap.size ((Fr.refl (S:=fun _=>False) wr).alloc (.cells #[.int .i64 (A:Int)] 3)) (Blk.new wr 3 #[.int .i64 (A:Int)])
       have G7:=HG6.out.trans' F7 (fun i hi e=>absurd hi (by have:=hvb i e;omega));have HO7:=Hi ho7;have HG7:=Hi G7;have HRUN:=Hi hr7;have hl2:looseL b=(looseL (b.drop (j+2+1))).map ((xs++[A])++·):=by
        rw[HL.out,HD.out,HLC2.out,if_neg hbig,List.drop_drop,Option.map_map,show j+1+2=j+2+1 from by omega]
        congr 1
        funext l
        simp
       have HL2:=Hi hl2;have HBIG:=Hi hbig;clear ho7 G7 hr7 hl2 F7 hvb hbig;rcases hout with ⟨r1,r2⟩|r1
       all_goals
        go_wp2_with (at_builtin;refine wpList_append_run (by rfl) (.tmp 59) (.tmp 61) 103 (by rfl) _ w7 (by exact HRUN.out) ?_)
        go_roundg (b.length+4-(j+2+1))
        case measure=>rw[HG.out];omega
        case rel=>exact⟨xs++[A],j+2+1,a7,xs.length+1,c7,rfl,by omega,rfl,by go_num,(by have:=HO7.out;rw[List.length_append,List.length_singleton];simpa [natInts] using this),HL2.out,le_snoc HXS.out HBIG.out,(by rw[List.length_append,List.length_singleton];omega),HG7.out⟩
   ·have p1:¬(240:Int)≤(c:Int):=by omega
    have p2:¬(224:Int)≤(c:Int):=by omega
    have p3:(192:Int)≤(c:Int):=by omega
    go_wp2_with fail
    obtain⟨wo,hwo⟩:∃ wo:World,wo=wr:=⟨_,rfl⟩
    obtain rfl:=hwo
    go_loopg [7,9] (1+1) (fun g n k wi=>∃ k1:Nat,g=1+2-k1∧0<k1∧k1≤1+1∧n=.int .i64 (looseAcc n0 ((b.drop (j+1)).take (k1-1)))∧k=.int .i64 k1∧wi=wo)
    case atStart=>exact⟨1,rfl,by omega,by omega,rfl,rfl,rfl⟩
    case round=>
     obtain⟨k1,hg,hk0,hk,rfl,rfl,rfl⟩:=hrel
     have HG2:=Hi hg;clear hg;have hA:looseAcc n0 ((b.drop (j+1)).take (k1-1))<8388608:=(HSM.out (k1-1) (by omega)).1;by_cases hst:k1≤1∧j+k1<b.length
     ·obtain⟨hs1,hs2⟩:=hst
      obtain⟨y,hyj⟩:∃ y,b[j+k1]? = some y:=⟨_,List.getElem?_eq_getElem hs2⟩
      have ey:=HG6.out.cell (HY.out (j+k1) y hyj) (fun h=>h);have hty:(b.drop (j+1))[k1-1]? = some y:=by rw[List.getElem?_drop,show j+1+(k1-1)=j+k1 from by omega];exact hyj
      have hT:=acc_take (n0:=n0) hty;rw[show k1-1+1=k1 from by omega]at hT
      have hylt:=y.toNat_lt;have hyw:wrap64 (y.toNat:Int)=(y.toNat:Int):=by unfold wrap64;omega
      generalize y.toNat=yy at *
      generalize looseAcc n0 ((b.drop (j+1)).take (k1-1))=A at *
      have HT:=Hi hT;have r1:(k1:Int)≤1:=by omega
      have r2:(j:Int)+(k1:Int)<(b.length:Int):=by omega
      have r3:(0:Int)≤(j:Int)+(k1:Int):=by omega
      clear hyj hty hT;go_wp2_with fail
      go_roundg (1+2-(k1+1))
      case measure=>rw[HG2.out];omega
      case rel=>exact⟨k1+1,rfl,by omega,by omega,by rw[Nat.add_sub_cancel,HT.out];go_num,by go_num,rfl⟩
     ·have hAM:looseAcc n0 ((b.drop (j+1)).take (k1-1))=looseAcc n0 ((b.drop (j+1)).take 1):=by
       by_cases hk1:k1≤1
       ·have hlen:(b.drop (j+1)).length≤k1-1:=by rw[List.length_drop];omega
        rw[List.take_of_length_le hlen,List.take_of_length_le (by omega)]
       ·rw[show k1-1=1 from by omega]
      have hout:((k1:Int)≤1∧¬(j:Int)+(k1:Int)<(b.length:Int))∨¬(k1:Int)≤1:=by omega
      have hLC:=HLC.out;rw[hAM] at *
      generalize looseAcc n0 ((b.drop (j+1)).take 1)=A at *
      have HLC2:=Hi hLC;clear hAM hLC HLC HSM;by_cases hbig:1114111<A
      ·have r4:(1114111:Int)<(A:Int):=by omega
       have hnone:wideR b=none:=wideR_none (by rw[HL.out,HD.out,HLC2.out,if_pos hbig];rfl);have HNO:=Hi hnone;clear hnone;rcases hout with ⟨r1,r2⟩|r1
       all_goals
        go_wp2_with fail
        exact bodyPost_ret (v:=.tuple #[.slice none 0 0,.bool false]) (by simp[results,Tryz.results196,go_sem]) rfl (wideOut_no HNO.out HG6.out)
      ·have r4:¬(1114111:Int)<(A:Int):=by omega
       have hb0:w.heap.size≤wr.heap.size:=HG6.out.size;have hvb:=(Vals.of_own HO6.out).2;obtain⟨a7,c7,w7,hr7,ho7,F7,-⟩:=add_int HO6.out hb0 (by omega) (A:Int) wr.heap.size ((Fr.refl (S:=fun _=>False) wr).alloc (.cells #[.int .i64 (A:Int)] 3)) (Blk.new wr 3 #[.int .i64 (A:Int)])
       have G7:=HG6.out.trans' F7 (fun i hi e=>absurd hi (by have:=hvb i e;omega));have HO7:=Hi ho7;have HG7:=Hi G7;have HRUN:=Hi hr7;have hl2:looseL b=(looseL (b.drop (j+1+1))).map ((xs++[A])++·):=by
        rw[HL.out,HD.out,HLC2.out,if_neg hbig,List.drop_drop,Option.map_map,show j+1+1=j+1+1 from by omega]
        congr 1
        funext l
        simp
       have HL2:=Hi hl2;have HBIG:=Hi hbig;clear ho7 G7 hr7 hl2 F7 hvb hbig;rcases hout with ⟨r1,r2⟩|r1
       all_goals
        go_wp2_with (at_builtin;refine wpList_append_run (by rfl) (.tmp 59) (.tmp 61) 103 (by rfl) _ w7 (by exact HRUN.out) ?_)
        go_roundg (b.length+4-(j+1+1))
        case measure=>rw[HG.out];omega
        case rel=>exact⟨xs++[A],j+1+1,a7,xs.length+1,c7,rfl,by omega,rfl,by go_num,(by have:=HO7.out;rw[List.length_append,List.length_singleton];simpa [natInts] using this),HL2.out,le_snoc HXS.out HBIG.out,(by rw[List.length_append,List.length_singleton];omega),HG7.out⟩
   ·have p1:¬(240:Int)≤(c:Int):=by omega
    have p2:¬(224:Int)≤(c:Int):=by omega
    have p3:¬(192:Int)≤(c:Int):=by omega
    obtain rfl:c=n0:=by omega
    clear d4;go_wp2_with fail
    obtain⟨wo,hwo⟩:∃ wo:World,wo=wr:=⟨_,rfl⟩
    obtain rfl:=hwo
    go_loopg [7,9] (0+1) (fun g n k wi=>∃ k1:Nat,g=0+2-k1∧0<k1∧k1≤0+1∧n=.int .i64 (looseAcc c ((b.drop (j+1)).take (k1-1)))∧k=.int .i64 k1∧wi=wo)
    case atStart=>exact⟨1,rfl,by omega,by omega,rfl,rfl,rfl⟩
    case round=>
     obtain⟨k1,hg,hk0,hk,rfl,rfl,rfl⟩:=hrel
     have HG2:=Hi hg;clear hg;have hA:looseAcc c ((b.drop (j+1)).take (k1-1))<8388608:=(HSM.out (k1-1) (by omega)).1;by_cases hst:k1≤0∧j+k1<b.length
     ·exact absurd hst.1 (by omega)
     ·have hAM:looseAcc c ((b.drop (j+1)).take (k1-1))=looseAcc c ((b.drop (j+1)).take 0):=by
       by_cases hk1:k1≤0
       ·have hlen:(b.drop (j+1)).length≤k1-1:=by rw[List.length_drop];omega
        rw[List.take_of_length_le hlen,List.take_of_length_le (by omega)]
       ·rw[show k1-1=0 from by omega]
      have r1:¬(k1:Int)≤0:=by omega
      have hLC:=HLC.out;rw[hAM] at *
      generalize looseAcc c ((b.drop (j+1)).take 0)=A at *
      have HLC2:=Hi hLC;clear hAM hLC HLC HSM;by_cases hbig:1114111<A
      ·have r4:(1114111:Int)<(A:Int):=by omega
       have hnone:wideR b=none:=wideR_none (by rw[HL.out,HD.out,HLC2.out,if_pos hbig];rfl);have HNO:=Hi hnone;clear hnone;all_goals
        go_wp2_with fail
        exact bodyPost_ret (v:=.tuple #[.slice none 0 0,.bool false]) (by simp[results,Tryz.results196,go_sem]) rfl (wideOut_no HNO.out HG6.out)
      ·have r4:¬(1114111:Int)<(A:Int):=by omega
       have hb0:w.heap.size≤wr.heap.size:=HG6.out.size;have hvb:=(Vals.of_own HO6.out).2;obtain⟨a7,c7,w7,hr7,ho7,F7,-⟩:=add_int HO6.out hb0 (by omega) (A:Int) wr.heap.size ((Fr.refl (S:=fun _=>False) wr).alloc (.cells #[.int .i64 (A:Int)] 3)) (Blk.new wr 3 #[.int .i64 (A:Int)])
       have G7:=HG6.out.trans' F7 (fun i hi e=>absurd hi (by have:=hvb i e;omega));have HO7:=Hi ho7;have HG7:=Hi G7;have HRUN:=Hi hr7;have hl2:looseL b=(looseL (b.drop (j+0+1))).map ((xs++[A])++·):=by
        rw[HL.out,HD.out,HLC2.out,if_neg hbig,List.drop_drop,Option.map_map,show j+1+0=j+0+1 from by omega]
        congr 1
        funext l
        simp
       have HL2:=Hi hl2;have HBIG:=Hi hbig;clear ho7 G7 hr7 hl2 F7 hvb hbig;all_goals
        go_wp2_with (at_builtin;refine wpList_append_run (by rfl) (.tmp 59) (.tmp 61) 103 (by rfl) _ w7 (by exact HRUN.out) ?_)
        go_roundg (b.length+4-(j+0+1))
        case measure=>rw[HG.out];omega
        case rel=>exact⟨xs++[A],j+0+1,a7,xs.length+1,c7,rfl,by omega,rfl,by go_num,(by have:=HO7.out;rw[List.length_append,List.length_singleton];simpa [natInts] using this),HL2.out,le_snoc HXS.out HBIG.out,(by rw[List.length_append,List.length_singleton];omega),HG7.out⟩
  ·have q2:¬(j:Int)<(b.length:Int):=by omega
   have hLb:looseL b=some xs:=by rw[HL.out,List.drop_of_length_le (by omega),looseL_nil];simp
   have hW:=wideR_some hLb;have HW:=Hi hW;have hv6:=(Vals.of_own HO6.out).1;obtain⟨a',cap',he,-,-,hz⟩:=Ints.form hv6
   rw[List.length_map]at he hz
   simp only[Value.slice.injEq]at he
   obtain⟨rfl,rfl,rfl⟩:=he
   have HV6:=Hi hv6;have HZ:=Hi hz;clear hLb hW hv6 hz HL;go_wp2_with fail
   obtain⟨wo,hwo⟩:∃ wo:World,wo=wr:=⟨_,rfl⟩
   obtain rfl:=hwo
   go_loopg [10] xs.length (fun g k wi=>∃ k1:Nat,g=xs.length-k1∧k1≤xs.length∧k=.int .i64 k1∧(natInts (xs.take k1)).all (mayS 12)=true∧wi=wo)
   case atStart=>exact⟨0,rfl,Nat.zero_le _,rfl,rfl,rfl⟩
   case round=>
    obtain⟨k1,hg,hk,rfl,hall,rfl⟩:=hrel
    have HG2:=Hi hg;have HALL:=Hi hall;clear hg hall;by_cases hkl:k1<xs.length
    ·obtain⟨b8,o8,rfl,hy8⟩:=HZ.out (by omega)
     obtain⟨n,hn⟩:∃ n,xs[k1]? = some n:=⟨_,List.getElem?_eq_getElem hkl⟩
     have en:=hy8 k1 n (by rw[List.getElem?_map,hn];rfl);have hat:(natInts (xs.take (k1+1))).all (mayS 12)=((natInts (xs.take k1)).all (mayS 12)&&mayS 12 (n:Int)):=by
      rw[List.take_add_one,hn]
      simp[natInts]
     have hno:mayS 12 (n:Int)=false→(natInts xs).all (mayS 12)=false:=fun h=>by
      rw[List.all_eq_false]
      exact⟨(n:Int),List.mem_map.2 ⟨n,List.mem_of_getElem? hn,rfl⟩,by simp[h]⟩
     have HAT:=Hi hat;have HNO:=Hi hno;have r1:(0:Int)≤(k1:Int):=by omega
     have r2:(k1:Int)<(xs.length:Int):=by omega
     clear hy8 hn hat hno;rcases Bool.eq_false_or_eq_true (mayS 12 (n:Int)) with hm|hm
     ·have HM:=Hi hm
      have HC:=Hi (r06May_any 12 (n:Int));clear hm;go_wp2_with (first|(go_at_call 197;refine(HC.out _).mono ?_;rintro e w' ⟨rfl,rfl⟩;rw[HM.out]))
      go_roundg (xs.length-(k1+1))
      case measure=>rw[HG2.out];omega
      case rel=>exact⟨k1+1,rfl,by omega,by go_num,by rw[HAT.out,HALL.out,HM.out];rfl,rfl⟩
     ·have HM:=Hi hm
      have HC:=Hi (r06May_any 12 (n:Int));have hnone:wideR b=none:=by rw[HW.out,if_neg];intro h;rw[HNO.out hm]at h;exact absurd h.1 (by decide)
      have HNONE:=Hi hnone;clear hm hnone;go_wp2_with (first|(go_at_call 197;refine(HC.out _).mono ?_;rintro e w' ⟨rfl,rfl⟩;rw[HM.out]))
      exact bodyPost_ret (v:=.tuple #[.slice none 0 0,.bool false]) (by simp[results,Tryz.results196,go_sem]) rfl (wideOut_no HNONE.out HG6.out)
    ·have r2:¬(k1:Int)<(xs.length:Int):=by omega
     have hall:(natInts xs).all (mayS 12)=true:=by
      have:=HALL.out;rwa[List.take_of_length_le (by omega)]at this
     have HU:=Hi (r06Utf8_any (.slice a6 xs.length c6) xs · · (fun n hn=>by have:=HXS.out n hn;omega) (by omega));have HW2:wideR b=if encAll xs=b then some xs else none:=by rw[HW.out,hall];simp
     have HWW:=Hi HW2;have hb1:Bytes wr.drew (.slice a b.length cap) b:=(HB.out.old HG6.out).old ((Fr.refl wr).drew);have hv1:Ints wr.drew (.slice a6 xs.length c6) (natInts xs):=HV6.out.old ((Fr.refl wr).drew);have G1:Fz w wr.drew:=HG6.out.drew;have S:=str_of hb1;have HB1:=Hi hb1;have HV1:=Hi hv1;have HG1:=Hi G1;clear hall HW2 hb1 hv1 G1 HW HB HV6 HG6 HO6 HX HZ HXS HALL HG HG2;go_upto_region 25 with fail
     have hF0:∀ w5,Fz wr.drew w5→(Go.convert 38 9 (.slice a b.length cap)).run Tryz.prog w5=.ok (str b) w5:=fun w5 F5=>str_of (HB1.out.old F5)
     have HF0:=Hi hF0;clear hF0;by_cases hq:encAll xs=b
     ·have z1:(encAll xs==b)=true:=beq_iff_eq.2 hq
      have z2:(encAll xs != b)=false:=by rw[bne,z1];rfl
      have HR:=Hi (show wideR b=some xs by rw[HWW.out,if_pos hq]);clear hq;go_region_with (first
       |(go_at_call 159;refine(HU.out _ HV1.out).mono ?_;rintro e w5 ⟨v5,rfl,ho5,F5⟩;obtain⟨a5,m5,c5,rfl,rfl⟩:=own_shape ho5;have S5:=HF0.out _ F5;have C5:=str_of (Vals.of_own ho5).1))
      all_goals
       have hvv:Ints w5 (.slice a6 xs.length c6) (natInts xs):=HV1.out.old F5;have HVV:=Hi hvv;have HG5:=Hi (HG1.out.trans F5);clear hvv F5 ho5 S S5 C5;go_wp2_with fail
       refine bodyPost_ret (v:=.tuple #[.slice a6 xs.length c6,.bool true]) (by simp[results,Tryz.results196,go_sem]) rfl ⟨_,by rw[HR.out];rfl,by rw[HR.out];exact HVV.out,HG5.out⟩
     ·have z1:(encAll xs==b)=false:=beq_eq_false_iff_ne.2 hq
      have z2:(encAll xs != b)=true:=by rw[bne,z1];rfl
      have HR:=Hi (show wideR b=none by rw[HWW.out,if_neg hq]);clear hq;go_region_with (first
       |(go_at_call 159;refine(HU.out _ HV1.out).mono ?_;rintro e w5 ⟨v5,rfl,ho5,F5⟩;obtain⟨a5,m5,c5,rfl,rfl⟩:=own_shape ho5;have S5:=HF0.out _ F5;have C5:=str_of (Vals.of_own ho5).1))
      all_goals
       have HG5:=Hi (HG1.out.trans F5);clear F5 ho5 S S5 C5;go_wp2_with fail
       exact bodyPost_ret (v:=.tuple #[.slice none 0 0,.bool false]) (by simp[results,Tryz.results196,go_sem]) rfl (wideOut_no HR.out HG5.out)
def RSigOut (w w':World)(k:Int)(b:List UInt8)(e:Ending):Prop:=
 ∃ v,e=.returned (.tuple #[v,.bool (sigR k b).isSome])∧Ints w' v ((sigR k b).getD [])∧Fz w w'
theorem sigOut_no {w w':World}{k:Int}{b:List UInt8}(h:sigR k b=none)(F:Fz w w'):RSigOut w w' k b (.returned (.tuple #[.slice none 0 0,.bool false])):=by
 refine⟨_,by rw[h];rfl,?_,F⟩
 rw[h]
 exact Vals.nil w'
theorem r06Signs_12 (v:Value)(b:List UInt8)(w:World)(h:Bytes w v b)(hlim:b.length≤16777216) :
  Calls Tryz.prog 158 #[.agg #[.int .i64 12,v]] w fun e w'=>RSigOut w w' 12 b e:=by
 obtain⟨a,cap,rfl,-,-,hx⟩:=h.form
 have HB:=Hi h;have HX:=Hi hx;obtain⟨z,hz⟩:∃ z,z=w.heap.size:=⟨_,rfl⟩
 have B:=Blk.new w 188 #[.int .i64 12,.slice a b.length cap];have F0:Fz w (w.alloc (.cells #[.int .i64 12,.slice a b.length cap] 188)):=(Fr.refl w).alloc _;rw[←hz]at B
 have HZ:=Hi hz;have HF0:=Hi F0;clear h hx hz F0;go_enter Tryz.func158,Tryz.ntmps158
 go_upto_region 1 with fail
 rw[←HZ.out]
 generalize (w.alloc (.cells #[.int .i64 12,.slice a b.length cap] 188))=w0 at *
 have t0:=B.cell 0;have t1:=B.cell 1;simp only[SG]at t0 t1
 have hk:Go.Q.kindOk 12=true:=rfl;have HC:=Hi (r06Kind_any 12);have HW:=Hi (r06wide_any (.slice a b.length cap) b w0 (HB.out.old HF0.out) hlim);have hs:sigR 12 b=(wideR b).map natInts:=by unfold sigR;rw[if_pos hk,if_pos rfl]
 have HS:=Hi hs;have HKK:=Hi hk;clear hs hk;go_wp2_with (first|(go_at_call 195;refine(HC.out _).mono ?_;rintro e w' ⟨rfl,rfl⟩;rw[HKK.out]))
 refine HW.out.mono ?_;rintro e w5 ⟨v5,rfl,hi5,F5⟩;obtain⟨a5,m5,c5,rfl⟩:∃ a m c,v5=.slice a m c:=by
  obtain⟨a,c,h,-⟩:=Ints.form hi5
  exact⟨a,_,c,h⟩
 have HI5:=Hi hi5;have HF5:=Hi (HF0.out.trans F5);clear hi5 F5 HW HC;go_wp2_with fail
 refine bodyPost_ret (v:=.tuple #[.slice a5 m5 c5,.bool (wideR b).isSome]) (by simp[results,Tryz.results158,go_sem]) rfl (show RSigOut w w5 12 b _ from ⟨.slice a5 m5 c5,?_,?_,HF5.out⟩)
 ·rw[HS.out]
  cases wideR b<;>rfl
 ·have:=HI5.out
  rw[HS.out]
  cases hw:wideR b with
  |none=>rw[hw]at this;exact this
  |some ns=>rw[hw]at this;exact this
theorem r06Signs_none (k:Int)(hk:Go.Q.kindOk k=false)(v:Value)(b:List UInt8)(w:World)(h:Bytes w v b)(_hlim:b.length≤16777216) :
  Calls Tryz.prog 158 #[.agg #[.int .i64 k,v]] w fun e w'=>RSigOut w w' k b e:=by
 obtain⟨a,cap,rfl,-,-,hx⟩:=h.form
 have HB:=Hi h;have HX:=Hi hx;obtain⟨z,hz⟩:∃ z,z=w.heap.size:=⟨_,rfl⟩
 have B:=Blk.new w 188 #[.int .i64 k,.slice a b.length cap];have F0:Fz w (w.alloc (.cells #[.int .i64 k,.slice a b.length cap] 188)):=(Fr.refl w).alloc _;rw[←hz]at B
 have HZ:=Hi hz;have HF0:=Hi F0;clear h hx hz F0;go_enter Tryz.func158,Tryz.ntmps158
 go_upto_region 1 with fail
 rw[←HZ.out]
 generalize (w.alloc (.cells #[.int .i64 k,.slice a b.length cap] 188))=w0 at *
 have t0:=B.cell 0;have t1:=B.cell 1;simp only[SG]at t0 t1
 have HC:=Hi (r06Kind_any k);have hn:sigR k b=none:=by unfold sigR;rw[hk];rfl
 have HN:=Hi hn;have HKK:=Hi hk;clear hn hk;go_wp2_with (first|(go_at_call 195;refine(HC.out _).mono ?_;rintro e w' ⟨rfl,rfl⟩;rw[HKK.out]))
 exact bodyPost_ret (v:=.tuple #[.slice none 0 0,.bool false]) (by simp[results,Tryz.results158,go_sem]) rfl (sigOut_no HN.out HF0.out)
theorem r06Signs_30 (v:Value)(b:List UInt8)(w:World)(h:Bytes w v b)(hlim:b.length≤16777216) :
  Calls Tryz.prog 158 #[.agg #[.int .i64 30,v]] w fun e w'=>RSigOut w w' 30 b e:=by
 obtain⟨a,cap,rfl,-,-,hx⟩:=h.form
 have HB:=Hi h;have HX:=Hi hx;obtain⟨z,hz⟩:∃ z,z=w.heap.size:=⟨_,rfl⟩
 have B:=Blk.new w 188 #[.int .i64 30,.slice a b.length cap];have F0:Fz w (w.alloc (.cells #[.int .i64 30,.slice a b.length cap] 188)):=(Fr.refl w).alloc _;rw[←hz]at B
 have HZ:=Hi hz;have HF0:=Hi F0;clear h hx hz F0;go_enter Tryz.func158,Tryz.ntmps158
 go_upto_region 1 with fail
 rw[←HZ.out]
 generalize (w.alloc (.cells #[.int .i64 30,.slice a b.length cap] 188))=w0 at *
 have t0:=B.cell 0;have t1:=B.cell 1;simp only[SG]at t0 t1
 have hk:Go.Q.kindOk 30=true:=rfl;have HC:=Hi (r06Kind_any 30);have p12:((30:Int)==12)=false:=rfl;have HKK:=Hi hk;have hP:signsS 30 b=pairsS b:=rfl;by_cases hodd:b.length % 2=1
 ·have z1:((b.length:Int) % 2==1)=true:=beq_iff_eq.2 (by omega)
  have z2:(b.length % 2==1)=true:=beq_iff_eq.2 hodd;have hn:sigR 30 b=none:=by unfold sigR;rw[if_pos hk,if_neg (by decide),if_pos ⟨rfl,hodd⟩]
  have HN:=Hi hn;clear hn hk hP;go_wp2_with (first|(go_at_call 195;refine(HC.out _).mono ?_;rintro e w' ⟨rfl,rfl⟩;rw[HKK.out]))
  exact bodyPost_ret (v:=.tuple #[.slice none 0 0,.bool false]) (by simp[results,Tryz.results158,go_sem]) rfl (sigOut_no HN.out HF0.out)
 ·have z1:((b.length:Int) % 2==1)=false:=beq_eq_false_iff_ne.2 (by omega)
  have z2:(b.length % 2==1)=false:=beq_eq_false_iff_ne.2 hodd;have HP:=Hi hP;have HB0:=Hi B;clear hk hP;go_wp2_with (first|(go_at_call 195;refine(HC.out _).mono ?_;rintro e w' ⟨rfl,rfl⟩;rw[HKK.out]))
  clear t0 t1;go_loopg [4,5] b.length (fun g l i wr=>∃ (j:Nat) (a6:Option Addr) (n6 c6:Nat),g=b.length-j∧j≤b.length∧j % 2=0∧l=.slice a6 n6 c6∧i=.int .i64 j∧wr.ownsRow (z+1) 3 1 (.slice a6 n6 c6) n6 (intCells (pairsS (b.take j)))∧Fz w wr∧Blk wr z 188 #[.int .i64 30,.slice a b.length cap]∧2*n6=j)
  case atStart=>exact⟨0,none,0,0,rfl,Nat.zero_le _,rfl,rfl,rfl,⟨rfl,.inl ⟨rfl,rfl⟩⟩,HF0.out,HB0.out,rfl⟩
  case round=>
   obtain⟨j,a6,N6,c6,hg,hj,hj2,rfl,rfl,ho6,G6,B,hN6⟩:=hrel
   have HG:=Hi hg;have HO6:=Hi ho6;have HG6:=Hi G6;have t0:=B.cell 0;have t1:=B.cell 1;simp only[SG]at t0 t1
   clear hg ho6 G6;by_cases hjl:j<b.length
   ·obtain⟨bb,oo,rfl,hy⟩:=HX.out (by omega)
    obtain⟨x,hxj⟩:∃ x,b[j]? = some x:=⟨_,List.getElem?_eq_getElem hjl⟩
    obtain⟨y,hyj⟩:∃ y,b[j+1]? = some y:=⟨_,List.getElem?_eq_getElem (by omega)⟩
    have e1:=HG6.out.cell (hy j x hxj) (fun h=>h);have e2:=HG6.out.cell (hy (j+1) y hyj) (fun h=>h);have hT:pairsS (b.take (j+2))=pairsS (b.take j)++[256*(x.toNat:Int)+(y.toNat:Int)]:=by
     obtain⟨m,rfl⟩:∃ m,j=2*m:=⟨j / 2,by omega⟩
     have:=pairs_take hxj hyj;rw[show 2*(m+1)=2*m+2 from by omega]at this
     rw[this]
     congr 2
     omega
    have hx1:=x.toNat_lt;have hx2:=y.toNat_lt;generalize x.toNat=xx at *
    generalize y.toNat=yy at *
    have w1:wrap64 (xx:Int)=(xx:Int):=by unfold wrap64;omega
    have w2:wrap64 (yy:Int)=(yy:Int):=by unfold wrap64;omega
    have HT:=Hi hT;have r1:(0:Int)≤(j:Int):=by omega
    have r2:(j:Int)<(b.length:Int):=by omega
    have r3:(j:Int)+1<(b.length:Int):=by omega
    have r4:(0:Int)≤(j:Int)+1:=by omega
    have r5:((j:Int)+1).toNat=j+1:=by omega
    have v1:IntKind.i64.wrap ((j:Int)+1)=(j:Int)+1:=by rw[IntKind.wrap_i64];omega
    have v2:IntKind.i64.wrap (256*(xx:Int))=256*(xx:Int):=by rw[IntKind.wrap_i64];omega
    have v3:IntKind.i64.wrap (256*(xx:Int)+(yy:Int))=256*(xx:Int)+(yy:Int):=by rw[IntKind.wrap_i64];omega
    have v4:IntKind.i64.wrap (xx:Int)=(xx:Int):=by rw[IntKind.wrap_i64];omega
    have v5:IntKind.i64.wrap (yy:Int)=(yy:Int):=by rw[IntKind.wrap_i64];omega
    have hb0:z+1≤wr.heap.size:=B.lt;have hvb:=(Vals.of_own HO6.out).2;obtain⟨a7,c7,w7,hr7,ho7,F7,-⟩:=add_int HO6.out hb0 (by omega) (256*(xx:Int)+(yy:Int)) wr.heap.size (((Fr.refl (S:=fun _=>False) wr).drew).alloc (.cells #[.int .i64 (256*(xx:Int)+(yy:Int))] 3)) (Blk.new wr.drew 3 #[.int .i64 (256*(xx:Int)+(yy:Int))])
    have G7:=HG6.out.trans' F7 (fun i hi e=>absurd hi (by have:=hvb i e;have:=HZ.out;omega));have B7:=B.fr F7 (fun e=>by have:=hvb z e;omega);rw[←HT.out]at ho7
    have HO7:=Hi ho7;have HG7:=Hi G7;have HB7:=Hi B7;have HRUN:=Hi hr7;clear ho7 G7 B7 hr7 F7 hvb hT hxj hyj hy B;go_wp2_with fail
    go_region_law (first|(refine step_append_run (by rfl) (.tmp 35) (.tmp 51) 103 (by rfl) _ w7 (by exact HRUN.out) ?_)|fail)
    all_goals
     go_wp2_with fail
     go_roundg (b.length-(j+2))
     case measure=>rw[HG.out];omega
     case rel=>exact⟨j+2,a7,N6+1,c7,rfl,by omega,by omega,rfl,by go_num,HO7.out,HG7.out,HB7.out,by omega⟩
   ·obtain rfl:j=b.length:=by omega
    rw[List.take_length]at HO6
    have r2:¬(b.length:Int)<(b.length:Int):=by omega
    obtain⟨L,hL⟩:∃ L,L=signsS 30 b:=⟨_,rfl⟩
    have hsig:sigR 30 b=if L.all (mayS 30)=true then some L else none:=by rw[hL];unfold sigR;rw[if_pos HKK.out,if_neg (by decide),if_neg (fun h=>hodd h.2)]
    have hoL:=HO6.out;rw[←HP.out,←hL]at hoL
    have h2N:=hN6;clear hL hN6;have hN6:N6=L.length:=by have:=hoL.1;rw[intCells_len]at this;omega
    subst hN6;have hv6:=(Vals.of_own hoL).1;obtain⟨a',cap',he,-,-,hz6⟩:=Ints.form hv6
    simp only[Value.slice.injEq,true_and]at he
    obtain⟨rfl,rfl⟩:=he
    have HSIG:=Hi hsig;have HV6:=Hi hv6;have HZ6:=Hi hz6;have HBK:=Hi B;clear hsig hv6 hz6 hoL HX HG HO6 HB;go_wp2_with fail
    obtain⟨wo,hwo⟩:∃ wo:World,wo=wr:=⟨_,rfl⟩
    obtain rfl:=hwo
    go_loopg [7] L.length (fun g q wi=>∃ k1:Nat,g=L.length-k1∧k1≤L.length∧q=.int .i64 k1∧(L.take k1).all (mayS 30)=true∧Fz wo wi)
    case atStart=>exact⟨0,rfl,Nat.zero_le _,rfl,rfl,Fr.refl _⟩
    case round=>
     obtain⟨k1,hg,hk1,rfl,hall,F8⟩:=hrel
     have HG2:=Hi hg;have HALL:=Hi hall;have B8:=HBK.out.fr F8 (fun h=>h);have HF8:=Hi F8;have t0:=B8.cell 0;have t1:=B8.cell 1;simp only[SG]at t0 t1
     clear hg hall;by_cases hkl:k1<L.length
     ·obtain⟨b8,o8,rfl,hy8⟩:=HZ6.out (by omega)
      obtain⟨n,hn⟩:∃ n,L[k1]? = some n:=⟨_,List.getElem?_eq_getElem hkl⟩
      have en:=F8.cell (hy8 k1 n hn) (fun h=>h);have hat:(L.take (k1+1)).all (mayS 30)=((L.take k1).all (mayS 30)&&mayS 30 n):=by
       rw[List.take_add_one,hn]
       simp
      have hno:mayS 30 n=false→L.all (mayS 30)=false:=fun h=>by
       rw[List.all_eq_false]
       exact⟨n,List.mem_of_getElem? hn,by simp[h]⟩
      have HAT:=Hi hat;have HNO:=Hi hno;have r1:(0:Int)≤(k1:Int):=by omega
      have r2:(k1:Int)<(L.length:Int):=by omega
      clear hy8 hn hat hno F8;rcases Bool.eq_false_or_eq_true (mayS 30 n) with hm|hm
      ·have hC:∀ w,Calls Tryz.prog 197 #[.int .i64 30,.int .i64 n] w fun e w'=>e=.returned (.bool true)∧w'=w:=fun w=>(r06May_any 30 n w).mono (by rintro e w' ⟨rfl,rfl⟩;exact⟨by rw[hm],rfl⟩)
       have HC:=Hi hC;have HM:=Hi hm;clear hm hC;go_wp2_with fail
       go_quiet ((go_at_call 197;exact Calls.quiet_of_same (HC.out _)))
       go_wp2_with fail
       go_roundg (L.length-(k1+1))
       case measure=>rw[HG2.out];omega
       case rel=>exact⟨k1+1,rfl,by omega,by go_num,by rw[HAT.out,HALL.out,HM.out];rfl,HF8.out.drewN _⟩
      ·have hC:∀ w,Calls Tryz.prog 197 #[.int .i64 30,.int .i64 n] w fun e w'=>e=.returned (.bool false)∧w'=w:=fun w=>(r06May_any 30 n w).mono (by rintro e w' ⟨rfl,rfl⟩;exact⟨by rw[hm],rfl⟩)
       have HC:=Hi hC;have hnone:sigR 30 b=none:=by rw[HSIG.out,if_neg];intro h;rw[HNO.out hm]at h;exact absurd h (by decide)
       have HNONE:=Hi hnone;clear hm hnone hC;go_wp2_with fail
       go_quiet ((go_at_call 197;exact Calls.quiet_of_same (HC.out _)))
       go_wp2_with fail
       exact bodyPost_ret (v:=.tuple #[.slice none 0 0,.bool false]) (by simp[results,Tryz.results158,go_sem]) rfl (sigOut_no HNONE.out ((HG6.out.trans HF8.out).drewN _))
     ·have r2:¬(k1:Int)<(L.length:Int):=by omega
      have hsome:sigR 30 b=some L:=by
       have:=HALL.out;rw[List.take_of_length_le (by omega)]at this
       rw[HSIG.out,if_pos this]
      have HSOME:=Hi hsome;have hvv:Ints wr (.slice a6 L.length c6) L:=HV6.out.old F8;have HVV:=Hi hvv;clear hsome hvv F8;go_wp2_with fail
      exact bodyPost_ret (v:=.tuple #[.slice a6 L.length c6,.bool true]) (by simp[results,Tryz.results158,go_sem]) rfl ⟨_,by rw[HSOME.out];rfl,by rw[HSOME.out];exact HVV.out,HG6.out.trans HF8.out⟩
theorem r06Signs_one (k:Int)(hk:Go.Q.kindOk k=true)(h12:k≠12)(h30:k≠30)(v:Value)(b:List UInt8)(w:World)(h:Bytes w v b)(hlim:b.length≤16777216) :
  Calls Tryz.prog 158 #[.agg #[.int .i64 k,v]] w fun e w'=>RSigOut w w' k b e:=by
 obtain⟨a,cap,rfl,-,-,hx⟩:=h.form
 have HB:=Hi h;have HX:=Hi hx;obtain⟨z,hz⟩:∃ z,z=w.heap.size:=⟨_,rfl⟩
 have B:=Blk.new w 188 #[.int .i64 k,.slice a b.length cap];have F0:Fz w (w.alloc (.cells #[.int .i64 k,.slice a b.length cap] 188)):=(Fr.refl w).alloc _;rw[←hz]at B
 have HZ:=Hi hz;have HF0:=Hi F0;clear h hx hz F0;go_enter Tryz.func158,Tryz.ntmps158
 go_upto_region 1 with fail
 rw[←HZ.out]
 generalize (w.alloc (.cells #[.int .i64 k,.slice a b.length cap] 188))=w0 at *
 have t0:=B.cell 0;have t1:=B.cell 1;simp only[SG]at t0 t1
 have HC:=Hi (r06Kind_any k);have p12:(k==12)=false:=beq_eq_false_iff_ne.2 h12;have HKK:=Hi hk;have p30:(k==30)=false:=beq_eq_false_iff_ne.2 h30;have HB0:=Hi B;have hP:signsS k b=b.map (fun x=>(x.toNat:Int)):=by unfold signsS;rw[if_neg h12,if_neg h30]
 have HP:=Hi hP;clear hk hP;go_wp2_with (first|(go_at_call 195;refine(HC.out _).mono ?_;rintro e w' ⟨rfl,rfl⟩;rw[HKK.out]))
 clear t0 t1;go_loopg [4,6] b.length (fun g l i wr=>∃ (j:Nat) (a6:Option Addr) (c6:Nat),g=b.length-j∧j≤b.length∧l=.slice a6 j c6∧i=.int .i64 j∧wr.ownsRow (z+1) 3 1 (.slice a6 j c6) j (intCells ((b.take j).map (fun x=>(x.toNat:Int))))∧Fz w wr∧Blk wr z 188 #[.int .i64 k,.slice a b.length cap])
 case atStart=>exact⟨0,none,0,rfl,Nat.zero_le _,rfl,rfl,⟨rfl,.inl ⟨rfl,rfl⟩⟩,HF0.out,HB0.out⟩
 case round=>
  obtain⟨j,a6,c6,hg,hj,rfl,rfl,ho6,G6,B⟩:=hrel
  have HG:=Hi hg;have HO6:=Hi ho6;have HG6:=Hi G6;have t0:=B.cell 0;have t1:=B.cell 1;simp only[SG]at t0 t1
  clear hg ho6 G6;by_cases hjl:j<b.length
  ·obtain⟨bb,oo,rfl,hy⟩:=HX.out (by omega)
   obtain⟨x,hxj⟩:∃ x,b[j]? = some x:=⟨_,List.getElem?_eq_getElem hjl⟩
   have e1:=HG6.out.cell (hy j x hxj) (fun h=>h);have hT:(b.take (j+1)).map (fun x=>(x.toNat:Int))=(b.take j).map (fun x=>(x.toNat:Int))++[(x.toNat:Int)]:=by
    rw[List.take_add_one,hxj]
    simp
   have hx1:=x.toNat_lt;generalize x.toNat=xx at *
   have w1:wrap64 (xx:Int)=(xx:Int):=by unfold wrap64;omega
   have HT:=Hi hT;have r1:(0:Int)≤(j:Int):=by omega
   have r2:(j:Int)<(b.length:Int):=by omega
   have hb0:z+1≤wr.heap.size:=B.lt;have hvb:=(Vals.of_own HO6.out).2;obtain⟨a7,c7,w7,hr7,ho7,F7,-⟩:=add_int HO6.out hb0 (by omega) (xx:Int) wr.heap.size ((Fr.refl (S:=fun _=>False) wr).alloc (.cells #[.int .i64 (xx:Int)] 3)) (Blk.new wr 3 #[.int .i64 (xx:Int)])
   have G7:=HG6.out.trans' F7 (fun i hi e=>absurd hi (by have:=hvb i e;have:=HZ.out;omega));have B7:=B.fr F7 (fun e=>by have:=hvb z e;omega);rw[←HT.out]at ho7
   have HO7:=Hi ho7;have HG7:=Hi G7;have HB7:=Hi B7;have HRUN:=Hi hr7;clear ho7 G7 B7 hr7 F7 hvb hT hxj hy B;go_wp2_with (at_builtin;refine wpList_append_run (by rfl) (.tmp 60) (.tmp 67) 103 (by rfl) _ w7 (by exact HRUN.out) ?_)
   go_roundg (b.length-(j+1))
   case measure=>rw[HG.out];omega
   case rel=>exact⟨j+1,a7,c7,rfl,by omega,rfl,by go_num,HO7.out,HG7.out,HB7.out⟩
  ·obtain rfl:j=b.length:=by omega
   have r2:¬(b.length:Int)<(b.length:Int):=by omega
   obtain⟨L,hL⟩:∃ L,L=signsS k b:=⟨_,rfl⟩
   have hsig:sigR k b=if L.all (mayS k)=true then some L else none:=by rw[hL];unfold sigR;rw[if_pos HKK.out,if_neg h12,if_neg (fun h=>h30 h.1)]
   have hoL:=HO6.out;rw[List.take_length,←HP.out,←hL]at hoL
   obtain⟨N6,hNN⟩:∃ N6,N6=b.length:=⟨_,rfl⟩
   have hoL2:wr.ownsRow (z+1) 3 1 (.slice a6 N6 c6) N6 (intCells L):=by rw[hNN];exact hoL
   have hNL:b.length=L.length:=by have:=hoL.1;rw[intCells_len]at this;omega
   have HBB:=Hi hNL;clear hL hNN hoL;rw[hNL]at r2 ⊢
   replace hoL:=hoL2;clear hoL2;have hN6:N6=L.length:=by have:=hoL.1;rw[intCells_len]at this;omega
   subst hN6;have hv6:=(Vals.of_own hoL).1;obtain⟨a',cap',he,-,-,hz6⟩:=Ints.form hv6
   simp only[Value.slice.injEq,true_and]at he
   obtain⟨rfl,rfl⟩:=he
   have HSIG:=Hi hsig;have HV6:=Hi hv6;have HZ6:=Hi hz6;have HBK:=Hi B;clear hsig hv6 hz6 hoL HX HG HO6 HB;go_wp2_with fail
   obtain⟨wo,hwo⟩:∃ wo:World,wo=wr:=⟨_,rfl⟩
   obtain rfl:=hwo
   go_loopg [7] L.length (fun g q wi=>∃ k1:Nat,g=L.length-k1∧k1≤L.length∧q=.int .i64 k1∧(L.take k1).all (mayS k)=true∧Fz wo wi)
   case atStart=>exact⟨0,rfl,Nat.zero_le _,rfl,rfl,Fr.refl _⟩
   case round=>
    obtain⟨k1,hg,hk1,rfl,hall,F8⟩:=hrel
    have HG2:=Hi hg;have HALL:=Hi hall;have B8:=HBK.out.fr F8 (fun h=>h);have HF8:=Hi F8;have t0:=B8.cell 0;have t1:=B8.cell 1;simp only[SG]at t0 t1
    clear hg hall;by_cases hkl:k1<L.length
    ·obtain⟨b8,o8,rfl,hy8⟩:=HZ6.out (by omega)
     obtain⟨n,hn⟩:∃ n,L[k1]? = some n:=⟨_,List.getElem?_eq_getElem hkl⟩
     have en:=F8.cell (hy8 k1 n hn) (fun h=>h);have hat:(L.take (k1+1)).all (mayS k)=((L.take k1).all (mayS k)&&mayS k n):=by
      rw[List.take_add_one,hn]
      simp
     have hno:mayS k n=false→L.all (mayS k)=false:=fun h=>by
      rw[List.all_eq_false]
      exact⟨n,List.mem_of_getElem? hn,by simp[h]⟩
     have HAT:=Hi hat;have HNO:=Hi hno;have r1:(0:Int)≤(k1:Int):=by omega
     have r2:(k1:Int)<(L.length:Int):=by omega
     clear hy8 hn hat hno F8;rcases Bool.eq_false_or_eq_true (mayS k n) with hm|hm
     ·have hC:∀ w,Calls Tryz.prog 197 #[.int .i64 k,.int .i64 n] w fun e w'=>e=.returned (.bool true)∧w'=w:=fun w=>(r06May_any k n w).mono (by rintro e w' ⟨rfl,rfl⟩;exact⟨by rw[hm],rfl⟩)
      have HC:=Hi hC;have HM:=Hi hm;clear hm hC;go_wp2_with fail
      go_quiet ((go_at_call 197;exact Calls.quiet_of_same (HC.out _)))
      go_wp2_with fail
      go_roundg (L.length-(k1+1))
      case measure=>rw[HG2.out];omega
      case rel=>exact⟨k1+1,rfl,by omega,by go_num,by rw[HAT.out,HALL.out,HM.out];rfl,HF8.out.drewN _⟩
     ·have hC:∀ w,Calls Tryz.prog 197 #[.int .i64 k,.int .i64 n] w fun e w'=>e=.returned (.bool false)∧w'=w:=fun w=>(r06May_any k n w).mono (by rintro e w' ⟨rfl,rfl⟩;exact⟨by rw[hm],rfl⟩)
      have HC:=Hi hC;have hnone:sigR k b=none:=by rw[HSIG.out,if_neg];intro h;rw[HNO.out hm]at h;exact absurd h (by decide)
      have HNONE:=Hi hnone;clear hm hnone hC;go_wp2_with fail
      go_quiet ((go_at_call 197;exact Calls.quiet_of_same (HC.out _)))
      go_wp2_with fail
      exact bodyPost_ret (v:=.tuple #[.slice none 0 0,.bool false]) (by simp[results,Tryz.results158,go_sem]) rfl (sigOut_no HNONE.out ((HG6.out.trans HF8.out).drewN _))
    ·have r2:¬(k1:Int)<(L.length:Int):=by omega
     have hsome:sigR k b=some L:=by
      have:=HALL.out;rw[List.take_of_length_le (by omega)]at this
      rw[HSIG.out,if_pos this]
     have HSOME:=Hi hsome;have hvv:Ints wr (.slice a6 L.length c6) L:=HV6.out.old F8;have HVV:=Hi hvv;clear hsome hvv F8;go_wp2_with fail
     exact bodyPost_ret (v:=.tuple #[.slice a6 L.length c6,.bool true]) (by simp[results,Tryz.results158,go_sem]) rfl ⟨_,by rw[HSOME.out];rfl,by rw[HSOME.out];exact HVV.out,HG6.out.trans HF8.out⟩
theorem r06Signs_any (k:Int)(v:Value)(b:List UInt8)(w:World)(h:Bytes w v b)(hlim:b.length≤16777216) :
  Calls Tryz.prog 158 #[.agg #[.int .i64 k,v]] w fun e w'=>RSigOut w w' k b e:=by
 rcases Bool.eq_false_or_eq_true (Go.Q.kindOk k) with hk|hk
 ·by_cases h12:k=12
  ·subst h12
   exact r06Signs_12 v b w h hlim
  ·by_cases h30:k=30
   ·subst h30
    exact r06Signs_30 v b w h hlim
   ·exact r06Signs_one k hk h12 h30 v b w h hlim
 ·exact r06Signs_none k hk v b w h hlim
end Go.Proofs.YtehlipgmkinfbaaGreatDoor
