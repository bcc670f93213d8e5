/-
  Merged by program: XR02R XR02L XR02D XR02S XR04S XRdSpec XR06a XR06b XR06c.
-/
import Derived.Test.YtehlipgmkinfbaaGreatDoorP0ah
set_option linter.unusedSimpArgs false
set_option maxRecDepth 100000
set_option maxHeartbeats 8000000
namespace Go.Q
open Go Go.RowKit
theorem up7_zero (f:Nat):up7 f 0=[]:=by cases f<;>simp[up7]
theorem up7_ge:∀ (f m:Nat),m<128 ^ f→up7 (f+1) m=up7 f m
 |0,m,h=>by simp at h;subst h;simp[up7]
 |f+1,m,h=>by
  by_cases h0:m=0
  ·subst h0;simp[up7]
  ·have ih:=up7_ge f (m / 128) (by rw[Nat.pow_succ]at h;omega)
   rw[up7,if_neg h0,ih]
   rw[up7,if_neg h0]
theorem base128_small {n:Nat}(h:n<128):base128 n=[UInt8.ofNat n]:=by
 unfold base128;rw[show n / 128=0 from by omega,up7_zero,show n % 128=n from by omega]
 rfl
theorem base128_step {n:Nat}(h:128≤n)(hn:n≤2147483647):∃ front:List UInt8,base128 (n / 128)=front++[UInt8.ofNat (n / 128 % 128)]∧base128 n=front++[UInt8.ofNat (n / 128 % 128+128)]++[UInt8.ofNat (n % 128)]:=by
 refine⟨(up7 5 (n / 128 / 128)).reverse,by simp[base128],?_⟩
 have e:up7 5 (n / 128)=UInt8.ofNat (n / 128 % 128+128)::up7 4 (n / 128 / 128):=by rw[up7,if_neg (by omega)]
 have e2:up7 5 (n / 128 / 128)=up7 4 (n / 128 / 128):=up7_ge 4 _ (Nat.lt_of_le_of_lt (show n / 128 / 128≤131071 by omega) (by decide));unfold base128;rw[e,e2]
 simp
theorem own_set {w:World}{base n:Nat}{e:TypeId}{a:Option Addr}{m c:Nat}{xs:List Value}(h:w.ownsRow base e 1 (.slice a m c) n xs)(i:Nat)(hi:i<n)(u:Value) :
  ∃ g,a=some ⟨g,0,none⟩∧base≤g∧g<w.heap.size∧m=n∧n≤c∧c≤maxLen∧w.frozen? ⟨g,i,none⟩=false∧w.cell? ⟨g,i,none⟩=xs[i]?∧(w.setCell ⟨g,i,none⟩ u).ownsRow base e 1 (.slice a m c) n (xs.set i u)∧Fr (fun k=>k=g) w (w.setCell ⟨g,i,none⟩ u):=by
 obtain⟨h1,h2⟩:=h
 rcases h2 with ⟨he,h0⟩|⟨g,cap,cur,he,hg,hh,hnc,hcm,hcs,htk⟩
 ·omega
 ·simp only[Value.slice.injEq]at he
  obtain⟨rfl,rfl,rfl⟩:=he
  have B:Blk w g e cur:=hh;simp only[Nat.mul_one]at h1 hcs htk
  refine⟨g,rfl,hg,B.lt,rfl,hnc,hcm,B.frozen i,?_,⟨by simpa using h1,.inr ⟨g,c,cur.setIfInBounds i u,rfl,hg,B.set i u,hnc,hcm,by simpa using hcs,?_⟩⟩,Fr.setCell (S:=fun k=>k=g) (p:=⟨g,i,none⟩) (Fr.refl w) (fun _=>rfl) _⟩
  ·rw[B.cell,←htk,List.getElem?_take,if_pos hi,Array.getElem?_toList]
  ·rw[Nat.mul_one,Array.toList_setIfInBounds,←htk,List.take_set]
def numberS:Nat→Nat→List UInt8→Except Int (Nat × Nat)
 |_,_,[]=>.error 6
 |i,n,x::t=>if i=0∧x.toNat=128 then .error 6 else if 2147483647<n*128+x.toNat % 128 then .error 2 else if x.toNat<128 then .ok (n*128+x.toNat,i+1) else numberS (i+1) (n*128+x.toNat % 128) t
def addS (o:List Int)(m:Nat):List Int:=if o=[] then (if m<80 then [((m / 40:Nat):Int),((m % 40:Nat):Int)] else [2,(m:Int)-80]) else o++[(m:Int)]
def oidStS (o:List Int)(i n:Nat):List UInt8→Except Int (List Int)
 | []=>if i=0 then .ok o else .error 6
 |x::t=>if i=0∧x.toNat=128 then .error 6 else if 2147483647<n*128+x.toNat % 128 then .error 2 else if x.toNat<128 then (if o.length=32 then .error 2 else oidStS (addS o (n*128+x.toNat)) 0 0 t) else oidStS o (i+1) (n*128+x.toNat % 128) t
def oidParseS (l:List UInt8):Except Int (List Int):=if l=[] then .error 6 else oidStS [] 0 0 l
def partBytes (o:List Int):List UInt8:=if o=[] then [] else oidBytes o
def goodO (o:List Int):Prop:=o.length≤32∧(o=[]∨oidOk o=true)
def oidReadS (l:List UInt8):Except Int (List Int × Nat):=
 match openS (tagOf 6) l with
 |.error e=>.error e
 |.ok (x,k)=>match oidParseS x with
  |.error e=>.error e
  |.ok o=>.ok (o,k)
def partReadS (l:List UInt8):Except Int (Part × Nat):=
 match openS (tagOf 16) l with
 |.error e=>.error e
 |.ok (y,m)=>match oidReadS y with
  |.error e=>.error e
  |.ok (o,q)=>match oneS (y.drop q) with
   |.error e=>.error e
   |.ok (_,_,n)=>if n<y.length-q then .error 7 else .ok (⟨o,y.drop q⟩,m)
def rdnGoS:Nat→List Part→List UInt8→List UInt8→Except Int (List Part)
 |_,out,_,[]=>if out.length=0 then .error 6 else .ok out
 |0,_,_,_::_=>.error 3
 |f+1,out,last,x::t=>
  if out.length=16 then .error 2 else
  match partReadS (x::t) with
  |.error e=>.error e
  |.ok (p,m)=>if out.length≠0∧cmpS last ((x::t).take m)=0 then .error 10 else if out.length≠0∧0<cmpS last ((x::t).take m) then .error 9 else rdnGoS f (out++[p]) ((x::t).take m) ((x::t).drop m)
def rdnSt (out:List Part)(last l:List UInt8):Except Int (List Part):=rdnGoS l.length out last l
def rdnReadS (l:List UInt8):Except Int (List Part × Nat):=
 match openS (tagOf 17) l with
 |.error e=>.error e
 |.ok (x,k)=>match rdnSt [] [] x with
  |.error e=>.error e
  |.ok r=>.ok (r,k)
def nameGoS:Nat→List (List Part)→List UInt8→Except Int (List (List Part))
 |_,out,[]=>.ok out
 |0,_,_::_=>.error 3
 |f+1,out,x::t=>
  if out.length=64 then .error 2 else
  match rdnReadS (x::t) with
  |.error e=>.error e
  |.ok (r,k)=>nameGoS f (out++[r]) ((x::t).drop k)
def nameSt (out:List (List Part))(l:List UInt8):Except Int (List (List Part)):=nameGoS l.length out l
def nameReadS (l:List UInt8):Except Int (List (List Part) × Nat):=
 match openS (tagOf 16) l with
 |.error e=>.error e
 |.ok (x,k)=>match nameSt [] x with
  |.error e=>.error e
  |.ok n=>.ok (n,k)
def nameParseS (l:List UInt8):Except Int (List (List Part)):=
 match nameReadS l with
 |.error e=>.error e
 |.ok (n,k)=>if k<l.length then .error 7 else .ok n
def amongB (n:Int)(l:List UInt8):Bool:=l.any fun x=>(x.toNat:Int)==n
theorem among_take {n:Int}{l:List UInt8}{j:Nat}{x:UInt8}(h:l[j]? = some x):amongB n (l.take (j+1))=(amongB n (l.take j)||((x.toNat:Int)==n)):=by
 unfold amongB;rw[List.take_add_one,h]
 simp
theorem among_mem {n:Int}{l:List UInt8}{j:Nat}{x:UInt8}(h:l[j]? = some x)(hx:((x.toNat:Int)==n)=true):amongB n l=true:=
 List.any_eq_true.2 ⟨x,List.mem_of_getElem? h,hx⟩
abbrev printL:List UInt8:=[97,98,99,100,101,102,103,104,105,106,107,108,109,110,111,112,113,114,115,116,117,118,119,120,121,122,65,66,67,68,69,70,71,72,73,74,75,76,77,78,79,80,81,82,83,84,85,86,87,88,89,90,48,49,50,51,52,53,54,55,56,57,32,39,40,41,43,44,45,46,47,58,61,63]
theorem among_small:∀ m:Fin 256,amongB (m.val:Int) printL=printables.contains (UInt8.ofNat m.val):=by decide +kernel
theorem among_may (n:Int):amongB n printL=mayS 19 n:=by
 simp only[mayS,show ¬((19:Int)=12) from by decide,if_false,if_true]
 by_cases h:0≤n∧n<256
 ·obtain⟨m,rfl⟩:∃ m:Nat,n=m:=⟨n.toNat,by omega⟩
  have:=among_small ⟨m,by omega⟩;simp only at this
  rw[this,decide_eq_true h,Bool.true_and,Int.toNat_natCast]
 ·rw[decide_eq_false h,Bool.false_and,amongB,List.any_eq_false]
  intro x _;have:=x.toNat_lt;simp only[beq_iff_eq]
  omega
abbrev natInts (ns:List Nat):List Int:=ns.map fun (n:Nat)=>(n:Int)
theorem enc4_le (n:Nat):(enc n).length≤4:=by unfold enc;split;simp;split;simp;split<;>simp
theorem encAll_le:∀ (l:List Nat),(encAll l).length≤4*l.length
 | []=>by simp[encAll]
 |n::l=>by
  have:=encAll_le l;have:=enc4_le n;simp only[encAll,List.flatMap_cons,List.length_append,List.length_cons] at *
  omega
theorem encAll_take {ns:List Nat}{j n:Nat}(h:ns[j]? = some n):encAll (ns.take (j+1))=encAll (ns.take j)++enc n:=by
 unfold encAll;rw[List.take_add_one,h]
 simp
theorem encAll_take_le (ns:List Nat)(j:Nat):(encAll (ns.take j)).length≤4*ns.length:=by
 have:=encAll_le (ns.take j);rw[List.length_take]at this
 omega
def looseHead (c:Nat):Nat × Nat:=if 240≤c then (c-240,3) else if 224≤c then (c-224,2) else if 192≤c then (c-192,1) else (c,0)
def looseAcc (n0:Nat)(l:List UInt8):Nat:=l.foldl (fun n y=>64*n+y.toNat % 64) n0
def looseS:Nat→List UInt8→Option (List Nat)
 |_,[]=>some []
 |0,_::_=>none
 |f+1,x::t=>if 1114111<looseAcc (looseHead x.toNat).1 (t.take (looseHead x.toNat).2) then none else (looseS f (t.drop (looseHead x.toNat).2)).map (looseAcc (looseHead x.toNat).1 (t.take (looseHead x.toNat).2)::·)
theorem loose_fuel:∀ (f g:Nat) (l:List UInt8),l.length≤f→l.length≤g→looseS f l=looseS g l
 |f,g,[],_,_=>by cases f<;>cases g<;>rfl
 |0,_,_::_,h,_=>by simp at h
 |_+1,0,_::_,_,h=>by simp at h
 |f+1,g+1,x::t,hf,hg=>by
  simp only[List.length_cons]at hf hg
  simp only[looseS]
  rw[loose_fuel f g (t.drop (looseHead x.toNat).2) (by rw[List.length_drop];omega) (by rw[List.length_drop];omega)]
def looseL (l:List UInt8):Option (List Nat):=looseS l.length l
theorem looseL_nil:looseL []=some []:=rfl
theorem looseL_cons {x:UInt8}{t:List UInt8}{n0 more:Nat}(h:looseHead x.toNat=(n0,more)):looseL (x::t)=if 1114111<looseAcc n0 (t.take more) then none else (looseL (t.drop more)).map (looseAcc n0 (t.take more)::·):=by
 simp only[looseL,List.length_cons,looseS,h]
 rw[loose_fuel t.length (t.drop more).length (t.drop more) (by rw[List.length_drop];omega) (Nat.le_refl _)]
theorem acc_lt:∀ (l:List UInt8) (n0:Nat),looseAcc n0 l<(n0+1)*64 ^ l.length
 | [],n0=>by simp[looseAcc]
 |y::t,n0=>by
  have:=acc_lt t (64*n0+y.toNat % 64);have h2:(64*n0+y.toNat % 64+1)≤(n0+1)*64:=by omega
  have h3:=Nat.mul_le_mul_right (64 ^ t.length) h2;rw[Nat.mul_assoc]at h3
  have h4:64*64 ^ t.length=64 ^ (y::t).length:=by rw[List.length_cons,Nat.pow_succ,Nat.mul_comm]
  rw[h4]at h3
  exact Nat.lt_of_lt_of_le this h3
theorem acc_take {n0 k:Nat}{t:List UInt8}{y:UInt8}(h:t[k]? = some y):looseAcc n0 (t.take (k+1))=64*looseAcc n0 (t.take k)+y.toNat % 64:=by
 unfold looseAcc;rw[List.take_add_one,h]
 simp[List.foldl_append]
theorem acc_small {c n0 more:Nat}(h:looseHead c=(n0,more))(hc:c<256)(t:List UInt8)(k:Nat)(hk:k≤more):looseAcc n0 (t.take k)<8388608∧more≤3:=by
 have h1:=acc_lt (t.take k) n0;have h2:(t.take k).length≤k:=by rw[List.length_take];omega
 have h3:(64:Nat) ^ (t.take k).length≤64 ^ k:=Nat.pow_le_pow_right (by decide) h2;have h4:=Nat.mul_le_mul_left (n0+1) h3;have hm:(n0<32∧more≤3)∨(n0<192∧more=0):=by
  unfold looseHead at h;split at h
  ·simp only[Prod.mk.injEq]at h;omega
  split at h
  ·simp only[Prod.mk.injEq]at h;omega
  split at h
  ·simp only[Prod.mk.injEq]at h;omega
  ·simp only[Prod.mk.injEq]at h;omega
 rcases hm with ⟨a,b⟩|⟨a,rfl⟩
 ·have h5:(64:Nat) ^ k≤64 ^ 3:=Nat.pow_le_pow_right (by decide) (by omega)
  have h6:=Nat.mul_le_mul (show n0+1≤32 from by omega) h5;exact⟨by omega,b⟩
 ·obtain rfl:k=0:=by omega
  simp only[Nat.pow_zero,Nat.mul_one]at h4
  exact⟨by omega,by omega⟩
def wideR (b:List UInt8):Option (List Nat):=
 match looseL b with
 |none=>none
 |some ns=>if (natInts ns).all (mayS 12)=true∧encAll ns=b then some ns else none
theorem wideR_none {b:List UInt8}(h:looseL b=none):wideR b=none:=by unfold wideR;rw[h]
theorem wideR_some {b:List UInt8}{ns:List Nat}(h:looseL b=some ns):wideR b=if (natInts ns).all (mayS 12)=true∧encAll ns=b then some ns else none:=by unfold wideR;rw[h]
theorem wideR_ok {b:List UInt8}{ns:List Nat}(h:wideR b=some ns):encAll ns=b∧(natInts ns).all (mayS 12)=true∧signsS 12 b=natInts ns∧rightS 12 b=true:=by
 unfold wideR at h;split at h
 ·cases h
 ·split at h
  ·rename_i hh
   obtain⟨ha,hb⟩:=hh
   simp only[Option.some.injEq]at h
   rw[h]at ha hb
   have hs:signsS 12 b=natInts ns:=by
    have:=signs_of (k:=12) (l:=natInts ns) (by decide) (fun n hn=>List.all_eq_true.1 ha n hn);rw[←this]
    congr 1
    rw[←hb]
    simp only[ofS,encAll,natInts,List.flatMap_map]
    rfl
   refine⟨hb,ha,hs,?_⟩
   unfold rightS;rw[hs,ha]
   rfl
  ·cases h
end Go.Q
namespace Go.Proofs.YtehlipgmkinfbaaGreatDoor
open Go Go.RowKit Go.Q
def rTagV (p:Nat):Except Int (Tag × Nat)→Value
 |.error e=>.tuple #[tagV ⟨0,0,false⟩,.int .i64 p,.int .i64 e]
 |.ok (t,k)=>.tuple #[tagV t,.int .i64 ((p+k:Nat):Int),.int .i64 0]
theorem numS_next {i n:Nat}{l:List UInt8}{x:UInt8}{t:List UInt8}(h:l=x::t):numS i n l=if (i=0∧x.toNat=128)∨i=3 then .error 4 else if x.toNat<128 then (if n*128+x.toNat % 128<31 then .error 4 else .ok (n*128+x.toNat % 128,i+1)) else numS (i+1) (n*128+x.toNat % 128) t:=by
 rw[h]
 simp only[numS]
theorem drop_get {α:Type}{l:List α}{j:Nat}{x:α}(hx:l[j]? = some x):l.drop j=x::l.drop (j+1):=by
 obtain⟨h,rfl⟩:=List.getElem?_eq_some_iff.1 hx
 exact List.drop_eq_getElem_cons h
theorem r02ReadTag_any (v:Value)(l:List UInt8)(p:Nat)(w:World)(h:Bytes w v l)(hp:p≤l.length)(hlm:l.length≤1099511627776) :
  Calls Tryz.prog 192 #[v,.int .i64 p] w fun e w'=>e=.returned (rTagV p (readTagS (l.drop p)))∧Fz w w':=by
 obtain⟨a,cap,rfl,-,-,hx⟩:=h.form
 obtain⟨z,hz⟩:∃ z,z=w.heap.size:=⟨_,rfl⟩
 have BZ:=Blk.new w 184 #[.int .i64 0,.int .i64 0,.bool false];have F0:Fz w (w.alloc (.cells #[.int .i64 0,.int .i64 0,.bool false] 184)):=(Fr.refl w).alloc _;rw[←hz]at BZ
 have hzw:∀ k,k<w.heap.size→k=z→False:=fun k hk e=>by omega
 have HZ:=Hi hz;have HX:=Hi hx;have HF0:=Hi F0;have HZW:=Hi hzw;clear h hx hz F0 hzw;rcases Nat.lt_or_ge p l.length with hpl|hpl
 case inr=>
  obtain rfl:p=l.length:=by omega
  have hn:readTagS (l.drop l.length)=.error 3:=by rw[List.drop_length];rfl
  have HN:=Hi hn;clear hn;go_enter Tryz.func192,Tryz.ntmps192
  go_upto_region 1 with fail
  rw[←HZ.out]
  generalize (w.alloc (.cells #[.int .i64 0,.int .i64 0,.bool false] 184))=w0 at *
  have SZ:=BZ.cell;have ZZ:=BZ.frozen;go_wp2_with fail
  obtain⟨B5,F5⟩:=set3 BZ (.int .i64 0) (.int .i64 0) (.bool false)
  generalize (((w0.setCell ⟨z,0,none⟩ (.int .i64 0)).setCell ⟨z,1,none⟩ (.int .i64 0)).setCell ⟨z,2,none⟩ (.bool false))=w5 at *
  have n0:=B5.cell 0;have n1:=B5.cell 1;have n2:=B5.cell 2;simp at n0 n1 n2
  refine bodyPost_ret (v:=.tuple #[.agg #[.int .i64 0,.int .i64 0,.bool false],.int .i64 l.length,.int .i64 3]) (by simp[results,Tryz.results192,go_sem,n0,n1,n2]) rfl ?_;exact⟨by rw[HN.out];rfl,HF0.out.trans' F5 HZW.out⟩
 case inl=>
  obtain⟨b,o,rfl,hy⟩:=HX.out (by omega)
  obtain⟨x,hxp⟩:∃ x,l[p]? = some x:=⟨_,List.getElem?_eq_getElem hpl⟩
  have ex:=HF0.out.cell (hy p x hxp) (fun h=>h);have hdp:=drop_get hxp;have hx256:=x.toNat_lt;obtain⟨y,hyy⟩:∃ y,y=x.toNat:=⟨_,rfl⟩
  rw[←hyy]at ex hx256
  have hT:readTagS (l.drop p)=if y % 32<31 then .ok (⟨y / 64,y % 32,decide (y / 32 % 2=1)⟩,1) else
   match numS 0 0 (l.drop (p+1)) with
   |.error e=>.error e
   |.ok (n,k)=>.ok (⟨y / 64,n,decide (y / 32 % 2=1)⟩,k+1):=by rw[hdp,hyy];rfl
  have HT:=Hi hT;have HY:=Hi hy;have HYY:=Hi hyy;have r0:(0:Int)≤(p:Int):=by omega
  have r1:(p:Int)<(l.length:Int):=by omega
  clear hy hyy hdp hT hxp;go_enter Tryz.func192,Tryz.ntmps192
  go_upto_region 1 with fail
  rw[←HZ.out]
  generalize (w.alloc (.cells #[.int .i64 0,.int .i64 0,.bool false] 184))=w0 at *
  go_upto_region 5 with fail
  obtain⟨c1,hc1⟩:∃ c:Int,(y:Int) / 64=c:=⟨_,rfl⟩
  obtain⟨c2,hc2⟩:∃ c:Int,(y:Int) % 32=c:=⟨_,rfl⟩
  obtain⟨c3,hc3⟩:∃ c:Bool,((y:Int) / 32 % 2==1)=c:=⟨_,rfl⟩
  have h3:decide (y / 32 % 2=1)=c3:=by
   rw[←hc3,Bool.eq_iff_iff]
   simp
   omega
  rw[h3]at HT
  rw[hc1,hc2,hc3]
  rw[hc1]at HT
  rw[hc2]at HT
  obtain⟨d,hd⟩:∃ d,d=w0.heap.size:=⟨_,rfl⟩
  have BD:=Blk.new w0 184 #[.int .i64 c1,.int .i64 c2,.bool c3];have F1:Fz w0 (w0.alloc (.cells #[.int .i64 c1,.int .i64 c2,.bool c3] 184)):=(Fr.refl w0).alloc _;have hzl:=BZ.lt;replace BZ:=BZ.fr F1 (fun h=>h);have HF1:=Hi (HF0.out.trans F1);rw[←hd]at BD ⊢
  have hdz:d≠z:=by omega
  have hdw:∀ k,k<w.heap.size→k=d→False:=fun k hk e=>by have:=HF0.out.size;omega
  have HDW:=Hi hdw;clear hd F1 hzl hdw h3 hc3 ex HF0;generalize (w0.alloc (.cells #[.int .i64 c1,.int .i64 c2,.bool c3] 184))=w1 at *
  have SD:=BD.cell;have SZ:=BZ.cell;have ZD:=BD.frozen;have ZZ:=BZ.frozen;by_cases h31:y % 32<31
  ·have q1:c2<31:=by omega
   have hres:readTagS (l.drop p)=.ok (⟨c1,c2,c3⟩,1):=by rw[HT.out,if_pos h31]
   have HR:=Hi hres;clear hres;go_wp2_with fail
   obtain⟨B5,F5⟩:=set3 BZ (.int .i64 c1) (.int .i64 c2) (.bool c3)
   generalize (((w1.setCell ⟨z,0,none⟩ (.int .i64 c1)).setCell ⟨z,1,none⟩ (.int .i64 c2)).setCell ⟨z,2,none⟩ (.bool c3))=w5 at *
   have n0:=B5.cell 0;have n1:=B5.cell 1;have n2:=B5.cell 2;simp at n0 n1 n2
   refine bodyPost_ret (v:=.tuple #[.agg #[.int .i64 c1,.int .i64 c2,.bool c3],.int .i64 ((p:Int)+1),.int .i64 0]) (by simp[results,Tryz.results192,go_sem,n0,n1,n2]) rfl ?_;exact⟨by rw[HR.out];rfl,HF1.out.trans' F5 HZW.out⟩
  ·have q1:¬c2<31:=by omega
   have hres:readTagS (l.drop p)=match numS 0 0 (l.drop (p+1)) with
     |.error e=>.error e
     |.ok (n,k)=>.ok (⟨c1,n,c3⟩,k+1):=by rw[HT.out,if_neg h31]
   have HR:=Hi hres;have HBZ:=Hi BZ;have HBD:=Hi BD;clear hres HT;go_wp2_with fail
   clear SD SZ ZD ZZ BZ BD;go_loopg [9,10] 4 (fun g n i wr=>∃ (k m:Nat),g=4-k∧k≤3∧m<128 ^ k∧n=.int .i64 m∧i=.int .i64 ((k:Int)+1)∧numS 0 0 (l.drop (p+1))=numS k m (l.drop (p+1+k))∧wr=w1)
   case atStart=>exact⟨0,0,rfl,by omega,by simp,rfl,rfl,rfl,rfl⟩
   case round=>
    obtain⟨k,m,hg,hk,hm,rfl,rfl,hN,rfl⟩:=hrel
    have HG:=Hi hg;have HN:=Hi hN;have HM:=Hi hm;have BZ:=HBZ.out;have BD:=HBD.out;have SD:=BD.cell;have ZD:=BD.frozen;have SZ:=BZ.cell;have ZZ:=BZ.frozen;clear hg hN hm;rcases Nat.lt_or_ge (p+1+k) l.length with hkl|hkl
    case inr=>
     have q2:(l.length:Int)≤(p:Int)+((k:Int)+1):=by omega
     have hres:readTagS (l.drop p)=.error 3:=by
      have hdn:l.drop (p+1+k)=[]:=List.drop_eq_nil_of_le hkl;rw[HR.out,HN.out,hdn]
      rfl
     have HRES:=Hi hres;clear hres;go_wp2_with fail
     obtain⟨B5,F5⟩:=set3 BZ (.int .i64 0) (.int .i64 0) (.bool false)
     generalize (((wr.setCell ⟨z,0,none⟩ (.int .i64 0)).setCell ⟨z,1,none⟩ (.int .i64 0)).setCell ⟨z,2,none⟩ (.bool false))=w5 at *
     have n0:=B5.cell 0;have n1:=B5.cell 1;have n2:=B5.cell 2;simp at n0 n1 n2
     refine bodyPost_ret (v:=.tuple #[.agg #[.int .i64 0,.int .i64 0,.bool false],.int .i64 p,.int .i64 3]) (by simp[results,Tryz.results192,go_sem,n0,n1,n2]) rfl ?_;exact⟨by rw[HRES.out];rfl,HF1.out.trans' F5 HZW.out⟩
    case inl=>
     have q2:¬(l.length:Int)≤(p:Int)+((k:Int)+1):=by omega
     obtain⟨x2,hx2⟩:∃ x,l[p+1+k]? = some x:=⟨_,List.getElem?_eq_getElem hkl⟩
     have e2:=HF1.out.cell (HY.out (p+1+k) x2 hx2) (fun h=>h);have hN2:=HN.out;rw[numS_next (drop_get hx2)]at hN2
     obtain⟨y2,hy2⟩:∃ y,y=x2.toNat:=⟨_,rfl⟩
     have hy256:y2<256:=by rw[hy2];exact x2.toNat_lt
     rw[←hy2]at e2 hN2
     rw[show o+(p+1+k)=o+(p+(k+1)) from by omega]at e2
     have hin:((p:Int)+((k:Int)+1)).toNat=p+(k+1):=by omega
     have r2:(0:Int)≤(p:Int)+((k:Int)+1):=by omega
     have r3:(p:Int)+((k:Int)+1)<(l.length:Int):=by omega
     have HN2:=Hi hN2;clear hN2 hx2 hy2 HN;by_cases hb1:(k=0∧y2=128)∨k=3
     ·have hres:readTagS (l.drop p)=.error 4:=by rw[HR.out,HN2.out,if_pos hb1]
      have HRES:=Hi hres;clear hres HN2;have hcond:((((k:Int)+1==1)=true∧((y2:Int)==128)=true))∨((((k:Int)+1==1)=false)∧((k:Int)+1==4)=true):=by
       rcases hb1 with ⟨h1,h2⟩|h1
       ·exact .inl ⟨by subst h1;rfl,by subst h2;rfl⟩
       ·exact .inr ⟨by subst h1;rfl,by subst h1;rfl⟩
      rcases hcond with ⟨g1,g2⟩|⟨g1,g2⟩
      all_goals
       go_wp2_with fail
       obtain⟨B5,F5⟩:=set3 BZ (.int .i64 0) (.int .i64 0) (.bool false)
       generalize (((wr.setCell ⟨z,0,none⟩ (.int .i64 0)).setCell ⟨z,1,none⟩ (.int .i64 0)).setCell ⟨z,2,none⟩ (.bool false))=w5 at *
       have n0:=B5.cell 0;have n1:=B5.cell 1;have n2:=B5.cell 2;simp at n0 n1 n2
       refine bodyPost_ret (v:=.tuple #[.agg #[.int .i64 0,.int .i64 0,.bool false],.int .i64 p,.int .i64 4]) (by simp[results,Tryz.results192,go_sem,n0,n1,n2]) rfl ?_;exact⟨by rw[HRES.out];rfl,HF1.out.trans' F5 HZW.out⟩
     ·have hk2:k≤2:=by omega
      have hm2:=num_small HM.out hk2;have g4:((k:Int)+1==4)=false:=beq_eq_false_iff_ne.2 (by omega);have hcond:((((k:Int)+1==1)=true∧((y2:Int)==128)=false))∨(((k:Int)+1==1)=false):=by
       rcases Nat.eq_zero_or_pos k with h1|h1
       ·exact .inl ⟨by subst h1;rfl,beq_eq_false_iff_ne.2 (by omega)⟩
       ·exact .inr (beq_eq_false_iff_ne.2 (by omega))
      have HL:=Hi (num_lt HM.out (show y2 % 128<128 by omega));obtain⟨m2,hm3⟩:∃ m2,m2=m*128+y2 % 128:=⟨_,rfl⟩
      have hmi:128*(m:Int)+(y2:Int) % 128=(m2:Int):=by omega
      rw[←hm3]at HN2 HL
      have hml:m2<2097152:=by omega
      clear hm3;by_cases h128:y2<128
      ·have q3:(y2:Int)<128:=by omega
       by_cases hs:m2<31
       ·have q4:(m2:Int)<31:=by omega
        have hres:readTagS (l.drop p)=.error 4:=by rw[HR.out,HN2.out,if_neg hb1,if_pos h128,if_pos hs]
        have HRES:=Hi hres;clear hres HN2;rcases hcond with ⟨g1,g2⟩|g1
        all_goals
         go_wp2_with fail
         obtain⟨B5,F5⟩:=set3 BZ (.int .i64 0) (.int .i64 0) (.bool false)
         generalize (((wr.setCell ⟨z,0,none⟩ (.int .i64 0)).setCell ⟨z,1,none⟩ (.int .i64 0)).setCell ⟨z,2,none⟩ (.bool false))=w5 at *
         have n0:=B5.cell 0;have n1:=B5.cell 1;have n2:=B5.cell 2;simp at n0 n1 n2
         refine bodyPost_ret (v:=.tuple #[.agg #[.int .i64 0,.int .i64 0,.bool false],.int .i64 p,.int .i64 4]) (by simp[results,Tryz.results192,go_sem,n0,n1,n2]) rfl ?_;exact⟨by rw[HRES.out];rfl,HF1.out.trans' F5 HZW.out⟩
       ·have q4:¬(m2:Int)<31:=by omega
        have hres:readTagS (l.drop p)=.ok (⟨c1,m2,c3⟩,k+1+1):=by rw[HR.out,HN2.out,if_neg hb1,if_pos h128,if_neg hs]
        have HRES:=Hi hres;have BD3:=BD.set 1 (.int .i64 m2);simp at BD3
        have F3:Fr (fun q=>q=d) wr (wr.setCell ⟨d,1,none⟩ (.int .i64 m2)):=Fr.setCell (S:=fun q=>q=d) (p:=⟨d,1,none⟩) (Fr.refl wr) (fun _=>rfl) _;have BZ3:=BZ.fr F3 (fun e=>hdz e.symm);have HF3:=Hi (HF1.out.trans' F3 HDW.out);clear hres HN2 F3;rcases hcond with ⟨g1,g2⟩|g1
        all_goals
         go_upto_region 20 with fail
         generalize (wr.setCell ⟨d,1,none⟩ (.int .i64 m2))=w3 at *
         clear SD ZD SZ ZZ;have SD:=BD3.cell;have SZ:=BZ3.cell;have ZZ:=BZ3.frozen;go_wp2_with fail
         obtain⟨B5,F5⟩:=set3 BZ3 (.int .i64 c1) (.int .i64 m2) (.bool c3)
         generalize (((w3.setCell ⟨z,0,none⟩ (.int .i64 c1)).setCell ⟨z,1,none⟩ (.int .i64 m2)).setCell ⟨z,2,none⟩ (.bool c3))=w5 at *
         have n0:=B5.cell 0;have n1:=B5.cell 1;have n2:=B5.cell 2;simp at n0 n1 n2
         refine bodyPost_ret (v:=.tuple #[.agg #[.int .i64 c1,.int .i64 m2,.bool c3],.int .i64 ((p:Int)+((k:Int)+1)+1),.int .i64 0]) (by simp[results,Tryz.results192,go_sem,n0,n1,n2]) rfl ?_;exact⟨by rw[HRES.out];simp only[rTagV,tagV];rw[show ((p+(k+1+1):Nat):Int)=(p:Int)+((k:Int)+1)+1 from by omega],HF3.out.trans' F5 HZW.out⟩
      ·have q3:¬(y2:Int)<128:=by omega
       have hnx:numS 0 0 (l.drop (p+1))=numS (k+1) m2 (l.drop (p+1+(k+1))):=by rw[HN2.out,if_neg hb1,if_neg h128];rfl
       have HNX:=Hi hnx;clear hnx HN2;rcases hcond with ⟨g1,g2⟩|g1
       all_goals
        go_wp2_with fail
        go_roundg (4-(k+1))
        case measure=>rw[HG.out];omega
        case rel=>exact⟨k+1,m2,rfl,by omega,HL.out,rfl,by go_num,HNX.out,rfl⟩
def rLenV (p:Nat):Except Int (Nat × Nat)→Value
 |.error e=>.tuple #[.int .i64 0,.int .i64 p,.int .i64 e]
 |.ok (v,k)=>.tuple #[.int .i64 v,.int .i64 ((p+k:Nat):Int),.int .i64 0]
theorem r02ReadLength_any (v:Value)(l:List UInt8)(p:Nat)(w:World)(h:Bytes w v l)(hp:p≤l.length)(hlm:l.length≤1099511627776) :
  Calls Tryz.prog 193 #[v,.int .i64 p] w fun e w'=>e=.returned (rLenV p (readLenS (l.drop p)))∧w=w':=by
 obtain⟨a,cap,rfl,-,-,hx⟩:=h.form
 have HX:=Hi hx;clear h hx;rcases Nat.lt_or_ge p l.length with hpl|hpl
 case inr=>
  obtain rfl:p=l.length:=by omega
  have hn:readLenS (l.drop l.length)=.error 3:=by rw[List.drop_length];rfl
  have HN:=Hi hn;clear hn;go_enter Tryz.func193,Tryz.ntmps193
  go_wp2_with fail
  exact bodyPost_ret (v:=.tuple #[.int .i64 0,.int .i64 l.length,.int .i64 3]) (by simp[results,Tryz.results193,go_sem]) rfl ⟨by rw[HN.out];rfl,rfl⟩
 case inl=>
  obtain⟨b,o,rfl,hy⟩:=HX.out (by omega)
  obtain⟨x,hxp⟩:∃ x,l[p]? = some x:=⟨_,List.getElem?_eq_getElem hpl⟩
  have ex:=hy p x hxp;have hdp:=drop_get hxp;obtain⟨y,hyy⟩:∃ y,y=x.toNat:=⟨_,rfl⟩
  have hx256:y<256:=by rw[hyy];exact x.toNat_lt
  rw[←hyy]at ex
  have hT:readLenS (l.drop p)=if y<128 then .ok (y,1) else if y=128∨132<y then .error 5 else longS (y-128) (l.drop (p+1)):=by rw[hdp,hyy];rfl
  have HT:=Hi hT;have HY:=Hi hy;have r0:(0:Int)≤(p:Int):=by omega
  have r1:(p:Int)<(l.length:Int):=by omega
  clear hy hyy hdp hT hxp HX;by_cases h1:y<128
  ·have q1:(y:Int)<128:=by omega
   have hres:readLenS (l.drop p)=.ok (y,1):=by rw[HT.out,if_pos h1]
   have HR:=Hi hres;clear hres;go_enter Tryz.func193,Tryz.ntmps193
   go_wp2_with fail
   exact bodyPost_ret (v:=.tuple #[.int .i64 y,.int .i64 ((p:Int)+1),.int .i64 0]) (by simp[results,Tryz.results193,go_sem]) rfl ⟨by rw[HR.out];rfl,rfl⟩
  have q1:¬(y:Int)<128:=by omega
  by_cases h2:y=128∨132<y
  ·have hres:readLenS (l.drop p)=.error 5:=by rw[HT.out,if_neg h1,if_pos h2]
   have HR:=Hi hres;have hc:((y:Int)==128)=true∨(((y:Int)==128)=false∧(132:Int)<(y:Int)):=by
    rcases Classical.em (y=128) with h|h
    ·exact .inl (by subst h;rfl)
    ·exact .inr ⟨beq_eq_false_iff_ne.2 (by omega),by omega⟩
   clear hres;rcases hc with g1|⟨g1,g2⟩
   all_goals
    go_enter Tryz.func193,Tryz.ntmps193
    go_wp2_with fail
    exact bodyPost_ret (v:=.tuple #[.int .i64 0,.int .i64 p,.int .i64 5]) (by simp[results,Tryz.results193,go_sem]) rfl ⟨by rw[HR.out];rfl,rfl⟩
  have g1:((y:Int)==128)=false:=beq_eq_false_iff_ne.2 (by omega);have g2:¬(132:Int)<(y:Int):=by omega
  obtain⟨n,hn⟩:∃ n,n=y-128:=⟨_,rfl⟩
  have hn1:1≤n:=by omega
  have hn4:n≤4:=by omega
  have hyn:(y:Int)-128=(n:Int):=by omega
  have hres:readLenS (l.drop p)=longS n (l.drop (p+1)):=by rw[HT.out,if_neg h1,if_neg h2,←hn]
  have HR:=Hi hres;clear hres hn HT;have hdl:(l.drop (p+1)).length=l.length-(p+1):=List.length_drop;by_cases h3:l.length-(p+1)<n
  ·have q3:(l.length:Int)-(p:Int)-1<(n:Int):=by omega
   have hres:readLenS (l.drop p)=.error 3:=by rw[HR.out];unfold longS;rw[hdl,if_pos h3]
   have HRES:=Hi hres;clear hres hdl;go_enter Tryz.func193,Tryz.ntmps193
   go_wp2_with fail
   exact bodyPost_ret (v:=.tuple #[.int .i64 0,.int .i64 p,.int .i64 3]) (by simp[results,Tryz.results193,go_sem]) rfl ⟨by rw[HRES.out];rfl,rfl⟩
  have q3:¬(l.length:Int)-(p:Int)-1<(n:Int):=by omega
  obtain⟨x1,hx1⟩:∃ x,l[p+1]? = some x:=⟨_,List.getElem?_eq_getElem (by omega)⟩
  have ex1:=HY.out (p+1) x1 hx1;obtain⟨V,hV⟩:∃ V,V=beS ((l.drop (p+1)).take n):=⟨_,rfl⟩
  have hVl:V<4294967296:=by rw[hV];exact be_lt _ (by rw[List.length_take];omega)
  have hL:longS n (l.drop (p+1))=if x1.toNat=0∨V<128 then .error 5 else if 16777216<V then .error 2 else .ok (V,n+1):=by
   unfold longS;rw[hdl,if_neg h3,←hV,drop_get hx1]
   simp
  rw[hL]at HR
  have HV:=Hi hV;obtain⟨y1,hy1⟩:∃ y1,y1=x1.toNat:=⟨_,rfl⟩
  rw[←hy1]at HR ex1
  have r2:(p:Int)+1<(l.length:Int):=by omega
  have HEX:=Hi ex1;clear hL hdl hx1 hV hy1 ex1;go_enter Tryz.func193,Tryz.ntmps193
  go_wp2_with fail
  go_loopg [9,10] n (fun g k i wr=>∃ j:Nat,g=n-j∧j≤n∧k=.int .i64 (beS ((l.drop (p+1)).take j))∧i=.int .i64 ((j:Int)+1)∧wr=w)
  case atStart=>exact⟨0,rfl,Nat.zero_le _,rfl,rfl,rfl⟩
  case round=>
   obtain⟨j,hg,hj,rfl,rfl,rfl⟩:=hrel
   have HG:=Hi hg;clear hg;by_cases hjn:j<n
   ·have q4:(j:Int)+1≤(n:Int):=by omega
    obtain⟨x2,hx2⟩:∃ x,l[p+1+j]? = some x:=⟨_,List.getElem?_eq_getElem (by omega)⟩
    have e2:=HY.out (p+1+j) x2 hx2;have hx3:(l.drop (p+1))[j]? = some x2:=by rw[List.getElem?_drop];exact hx2
    have hbe:=be_take hx3;obtain⟨K,hK⟩:∃ K,K=beS ((l.drop (p+1)).take j):=⟨_,rfl⟩
    have hKl:K<4294967296:=by rw[hK];exact be_lt _ (by rw[List.length_take];omega)
    rw[←hK]at hbe ⊢
    have HBE:=Hi hbe;have h256:=x2.toNat_lt;generalize x2.toNat=y2 at *
    rw[show o+(p+1+j)=o+(p+(j+1)) from by omega]at e2
    have hin:((p:Int)+((j:Int)+1)).toNat=p+(j+1):=by omega
    have r2:(0:Int)≤(p:Int)+((j:Int)+1):=by omega
    have r3:(p:Int)+((j:Int)+1)<(l.length:Int):=by omega
    have hy2:y2<256:=by omega
    clear hbe hK hx2 hx3 h256;go_wp2_with fail
    go_roundg (n-(j+1))
    case measure=>rw[HG.out];omega
    case rel=>exact⟨j+1,rfl,by omega,by rw[HBE.out];go_num,by go_num,rfl⟩
   ·obtain rfl:j=n:=by omega
    have q4:¬(j:Int)+1≤(j:Int):=by omega
    rw[←HV.out]
    have e1:=HEX.out;have hin:((p:Int)+1).toNat=p+1:=by omega
    have r3:(0:Int)≤(p:Int)+1:=by omega
    by_cases h4:y1=0∨V<128
    ·have hres:readLenS (l.drop p)=.error 5:=by rw[HR.out,if_pos h4]
     have HRES:=Hi hres;have hc:((y1:Int)==0)=true∨(((y1:Int)==0)=false∧(V:Int)<128):=by
      rcases Classical.em (y1=0) with h|h
      ·exact .inl (by subst h;rfl)
      ·exact .inr ⟨beq_eq_false_iff_ne.2 (by omega),by omega⟩
     clear hres;rcases hc with g3|⟨g3,g4⟩
     all_goals
      go_wp2_with fail
      exact bodyPost_ret (v:=.tuple #[.int .i64 0,.int .i64 p,.int .i64 5]) (by simp[results,Tryz.results193,go_sem]) rfl ⟨by rw[HRES.out];rfl,rfl⟩
    ·have g3:((y1:Int)==0)=false:=beq_eq_false_iff_ne.2 (by omega)
     have g4:¬(V:Int)<128:=by omega
     by_cases h5:16777216<V
     ·have g5:(16777216:Int)<(V:Int):=by omega
      have hres:readLenS (l.drop p)=.error 2:=by rw[HR.out,if_neg h4,if_pos h5]
      have HRES:=Hi hres;clear hres;go_wp2_with fail
      exact bodyPost_ret (v:=.tuple #[.int .i64 0,.int .i64 p,.int .i64 2]) (by simp[results,Tryz.results193,go_sem]) rfl ⟨by rw[HRES.out];rfl,rfl⟩
     ·have g5:¬(16777216:Int)<(V:Int):=by omega
      have hres:readLenS (l.drop p)=.ok (V,j+1):=by rw[HR.out,if_neg h4,if_neg h5]
      have HRES:=Hi hres;clear hres;go_wp2_with fail
      exact bodyPost_ret (v:=.tuple #[.int .i64 V,.int .i64 ((p:Int)+(j:Int)+1),.int .i64 0]) (by simp[results,Tryz.results193,go_sem]) rfl ⟨by rw[HRES.out];simp only[rLenV];rw[show ((p+(j+1):Nat):Int)=(p:Int)+(j:Int)+1 from by omega],rfl⟩
def rReadV (p:Nat):Except Int (Tag × Nat × Nat)→Value
 |.error e=>.tuple #[tagV ⟨0,0,false⟩,.int .i64 0,.int .i64 p,.int .i64 e]
 |.ok (t,n,k)=>.tuple #[tagV t,.int .i64 n,.int .i64 ((p+k:Nat):Int),.int .i64 0]
theorem readTag_le {l:List UInt8}{t:Tag}{k:Nat}(h:readTagS l=.ok (t,k)):k≤l.length:=by
 cases l with
 |nil=>simp[readTagS]at h
 |cons x r=>
  simp only[readTagS]at h
  split at h
  ·simp only[Except.ok.injEq,Prod.mk.injEq]at h
   simp only[List.length_cons]
   omega
  ·split at h
   ·cases h
   ·rename_i n k' he
    have:=(numS_pos he).2;simp only[Except.ok.injEq,Prod.mk.injEq]at h
    simp only[List.length_cons]
    omega
theorem r02Read_any (v:Value)(l:List UInt8)(p:Nat)(w:World)(h:Bytes w v l)(hp:p≤l.length)(hlm:l.length≤1099511627776) :
  Calls Tryz.prog 151 #[v,.int .i64 p] w fun e w'=>e=.returned (rReadV p (readS (l.drop p)))∧Fz w w':=by
 obtain⟨a,cap,rfl,-⟩:=h.form
 obtain⟨z,hz⟩:∃ z,z=w.heap.size:=⟨_,rfl⟩
 have BZ:=Blk.new w 184 #[.int .i64 0,.int .i64 0,.bool false];have F0:Fz w (w.alloc (.cells #[.int .i64 0,.int .i64 0,.bool false] 184)):=(Fr.refl w).alloc _;rw[←hz]at BZ
 have hzw:∀ k,k<w.heap.size→k=z→False:=fun k hk e=>by omega
 have HZ:=Hi hz;have HT:=Hi (r02ReadTag_any _ l p _ (h.old F0) hp hlm);have HB:=Hi h;have HF0:=Hi F0;have HZW:=Hi hzw;have hR:readS (l.drop p)=match readTagS (l.drop p) with
  |.error e=>.error e
  |.ok (t,k)=>match readLenS ((l.drop p).drop k) with
   |.error e=>.error e
   |.ok (n,m)=>.ok (t,n,k+m):=rfl
 have HR:=Hi hR;clear h hz F0 hzw hR;go_enter Tryz.func151,Tryz.ntmps151
 go_upto_region 1 with fail
 rw[←HZ.out]
 generalize (w.alloc (.cells #[.int .i64 0,.int .i64 0,.bool false] 184))=w0 at *
 go_wp2_with fail
 refine HT.out.mono ?_;rintro e w1 ⟨rfl,F⟩;replace BZ:=BZ.fr F (fun h=>h);have HF:=Hi (HF0.out.trans F);clear F HF0 HT;cases ht:readTagS (l.drop p) with
 |error e=>
  have he:e≠0:=readTagS_err ht;have he1:(e==0)=false:=beq_eq_false_iff_ne.2 he;have he2:(e != 0)=true:=by simpa using he
  have hres:readS (l.drop p)=.error e:=by rw[HR.out,ht]
  have HRES:=Hi hres;clear ht hres he;rw[show rTagV p (.error e)=.tuple #[.agg #[.int .i64 0,.int .i64 0,.bool false],.int .i64 p,.int .i64 e] from rfl]
  go_upto_region 2 with fail
  obtain⟨d,hd⟩:∃ d,d=w1.heap.size:=⟨_,rfl⟩
  have BD:=Blk.new w1 184 #[.int .i64 0,.int .i64 0,.bool false];have F1:Fz w1 (w1.alloc (.cells #[.int .i64 0,.int .i64 0,.bool false] 184)):=(Fr.refl w1).alloc _;have hzl:=BZ.lt;replace BZ:=BZ.fr F1 (fun h=>h);have HF1:=Hi (HF.out.trans F1);rw[←hd]at BD ⊢
  have hdz:d≠z:=by omega
  clear hd F1 hzl HF;generalize (w1.alloc (.cells #[.int .i64 0,.int .i64 0,.bool false] 184))=w2 at *
  have SZ:=BZ.cell;have ZZ:=BZ.frozen;go_wp2_with fail
  obtain⟨B5,F5⟩:=set3 BZ (.int .i64 0) (.int .i64 0) (.bool false)
  generalize (((w2.setCell ⟨z,0,none⟩ (.int .i64 0)).setCell ⟨z,1,none⟩ (.int .i64 0)).setCell ⟨z,2,none⟩ (.bool false))=w5 at *
  have n0:=B5.cell 0;have n1:=B5.cell 1;have n2:=B5.cell 2;simp at n0 n1 n2
  refine bodyPost_ret (v:=.tuple #[.agg #[.int .i64 0,.int .i64 0,.bool false],.int .i64 0,.int .i64 p,.int .i64 e]) (by simp[results,Tryz.results151,go_sem,n0,n1,n2]) rfl ?_;exact⟨by rw[HRES.out];rfl,HF1.out.trans' F5 HZW.out⟩
 |ok tk=>
  obtain⟨⟨c1,c2,c3⟩,k⟩:=tk
  have hk:=readTag_le ht;rw[List.length_drop]at hk
  have hres:readS (l.drop p)=match readLenS (l.drop (p+k)) with
   |.error e=>.error e
   |.ok (n,m)=>.ok (⟨c1,c2,c3⟩,n,k+m):=by rw[HR.out,ht];simp only[List.drop_drop]
  have HRES:=Hi hres;clear ht hres;rw[show rTagV p (.ok (⟨c1,c2,c3⟩,k))=.tuple #[.agg #[.int .i64 c1,.int .i64 c2,.bool c3],.int .i64 ((p+k:Nat):Int),.int .i64 0] from rfl]
  generalize hq:p+k=q at *
  go_upto_region 2 with fail
  obtain⟨d,hd⟩:∃ d,d=w1.heap.size:=⟨_,rfl⟩
  have BD:=Blk.new w1 184 #[.int .i64 c1,.int .i64 c2,.bool c3];have F1:Fz w1 (w1.alloc (.cells #[.int .i64 c1,.int .i64 c2,.bool c3] 184)):=(Fr.refl w1).alloc _;have hzl:=BZ.lt;replace BZ:=BZ.fr F1 (fun h=>h);have HF1:=Hi (HF.out.trans F1);rw[←hd]at BD ⊢
  have hdz:d≠z:=by omega
  clear hd F1 hzl HF;generalize (w1.alloc (.cells #[.int .i64 c1,.int .i64 c2,.bool c3] 184))=w2 at *
  have HL:=Hi (r02ReadLength_any _ l q w2 (HB.out.old HF1.out) (by omega) hlm);have SZ:=BZ.cell;have ZZ:=BZ.frozen;have SD:=BD.cell;go_wp2_with fail
  refine HL.out.mono ?_;rintro e w3 ⟨rfl,rfl⟩;cases hl:readLenS (l.drop q) with
  |error e=>
   have he:e≠0:=readLenS_err hl;have he1:(e==0)=false:=beq_eq_false_iff_ne.2 he;have he2:(e != 0)=true:=by simpa using he
   have hres:readS (l.drop p)=.error e:=by rw[HRES.out,hl]
   have HRES2:=Hi hres;clear hl hres he;rw[show rLenV q (.error e)=.tuple #[.int .i64 0,.int .i64 q,.int .i64 e] from rfl]
   go_wp2_with fail
   obtain⟨B5,F5⟩:=set3 BZ (.int .i64 0) (.int .i64 0) (.bool false)
   generalize (((w2.setCell ⟨z,0,none⟩ (.int .i64 0)).setCell ⟨z,1,none⟩ (.int .i64 0)).setCell ⟨z,2,none⟩ (.bool false))=w5 at *
   have n0:=B5.cell 0;have n1:=B5.cell 1;have n2:=B5.cell 2;simp at n0 n1 n2
   refine bodyPost_ret (v:=.tuple #[.agg #[.int .i64 0,.int .i64 0,.bool false],.int .i64 0,.int .i64 p,.int .i64 e]) (by simp[results,Tryz.results151,go_sem,n0,n1,n2]) rfl ?_;exact⟨by rw[HRES2.out];rfl,HF1.out.trans' F5 HZW.out⟩
  |ok vm=>
   obtain⟨n,m⟩:=vm
   have hres:readS (l.drop p)=.ok (⟨c1,c2,c3⟩,n,k+m):=by rw[HRES.out,hl]
   have HRES2:=Hi hres;clear hl hres;rw[show rLenV q (.ok (n,m))=.tuple #[.int .i64 n,.int .i64 ((q+m:Nat):Int),.int .i64 0] from rfl]
   generalize hr:q+m=r at *
   go_wp2_with fail
   obtain⟨B5,F5⟩:=set3 BZ (.int .i64 c1) (.int .i64 c2) (.bool c3)
   generalize (((w2.setCell ⟨z,0,none⟩ (.int .i64 c1)).setCell ⟨z,1,none⟩ (.int .i64 c2)).setCell ⟨z,2,none⟩ (.bool c3))=w5 at *
   have n0:=B5.cell 0;have n1:=B5.cell 1;have n2:=B5.cell 2;simp at n0 n1 n2
   refine bodyPost_ret (v:=.tuple #[.agg #[.int .i64 c1,.int .i64 c2,.bool c3],.int .i64 n,.int .i64 r,.int .i64 0]) (by simp[results,Tryz.results151,go_sem,n0,n1,n2]) rfl ?_;exact⟨by rw[HRES2.out];simp only[rReadV,tagV];rw[show p+(k+m)=r from by omega],HF1.out.trans' F5 HZW.out⟩
end Go.Proofs.YtehlipgmkinfbaaGreatDoor
namespace Go.Q
open Go
theorem readLen_le {l:List UInt8}{v k:Nat}(h:readLenS l=.ok (v,k)):k≤l.length∧v≤16777216:=by
 cases l with
 |nil=>simp[readLenS]at h
 |cons x t=>
  simp only[readLenS]at h
  split at h
  ·simp only[Except.ok.injEq,Prod.mk.injEq]at h
   simp only[List.length_cons]
   omega
  ·split at h
   ·cases h
   ·unfold longS at h
    split at h
    ·cases h
    split at h
    ·cases h
    split at h
    ·cases h
    ·simp only[Except.ok.injEq,Prod.mk.injEq]at h
     simp only[List.length_cons]
     omega
theorem readS_le {l:List UInt8}{t:Tag}{n k:Nat}(h:readS l=.ok (t,n,k)):k≤l.length∧n≤16777216:=by
 unfold readS at h;split at h
 ·cases h
 ·rename_i t' k' he
  have h1:=Go.Proofs.YtehlipgmkinfbaaGreatDoor.readTag_le he;split at h
  ·cases h
  ·rename_i v m hl
   have h2:=readLen_le hl;rw[List.length_drop]at h2
   simp only[Except.ok.injEq,Prod.mk.injEq]at h
   omega
end Go.Q
namespace Go.Proofs.YtehlipgmkinfbaaGreatDoor
open Go Go.RowKit Go.Q
theorem r06Kind_any (k:Int)(w:World) :
  Calls Tryz.prog 195 #[.int .i64 k] w fun e w'=>e=.returned (.bool (Go.Q.kindOk k))∧w=w':=by
 by_cases h1:k=12
 ·subst h1
  go_enter Tryz.func195,Tryz.ntmps195
  go_wp2_with fail
  go_ret;exact⟨rfl,rfl⟩
 by_cases h2:k=19
 ·subst h2
  go_enter Tryz.func195,Tryz.ntmps195
  go_wp2_with fail
  go_ret;exact⟨rfl,rfl⟩
 by_cases h3:k=20
 ·subst h3
  go_enter Tryz.func195,Tryz.ntmps195
  go_wp2_with fail
  go_ret;exact⟨rfl,rfl⟩
 by_cases h4:k=22
 ·subst h4
  go_enter Tryz.func195,Tryz.ntmps195
  go_wp2_with fail
  go_ret;exact⟨rfl,rfl⟩
 by_cases h5:k=26
 ·subst h5
  go_enter Tryz.func195,Tryz.ntmps195
  go_wp2_with fail
  go_ret;exact⟨rfl,rfl⟩
 have hk:Go.Q.kindOk k=(k==30):=by
  unfold Go.Q.kindOk;rw[Bool.eq_iff_iff,decide_eq_true_eq,beq_iff_eq]
  omega
 have HK:=Hi hk;have q1:(k==12)=false:=beq_eq_false_iff_ne.2 h1;have q2:(k==19)=false:=beq_eq_false_iff_ne.2 h2;have q3:(k==20)=false:=beq_eq_false_iff_ne.2 h3;have q4:(k==22)=false:=beq_eq_false_iff_ne.2 h4;have q5:(k==26)=false:=beq_eq_false_iff_ne.2 h5;clear hk;go_enter Tryz.func195,Tryz.ntmps195
 go_wp2_with fail
 go_ret;exact⟨by rw[HK.out];rfl,rfl⟩
theorem r06among_any (n:Int)(l:List UInt8)(w:World)(hl:l.length≤1099511627776) :
  Calls Tryz.prog 231 #[.int .i64 n,str l] w fun e w'=>e=.returned (.bool (amongB n l))∧w=w':=by
 have hsz:(ByteArray.mk l.toArray).size=l.length:=by simp[ByteArray.size]
 go_enter Tryz.func231,Tryz.ntmps231
 go_wp2_with fail
 go_loopg [5] l.length (fun g i wr=>∃ j:Nat,g=l.length-j∧j≤l.length∧i=.int .i64 j∧amongB n (l.take j)=false∧wr=w)
 case atStart=>exact⟨0,rfl,Nat.zero_le _,rfl,rfl,rfl⟩
 case round=>
  obtain⟨j,hg,hj,rfl,hall,rfl⟩:=hrel
  have HG:=Hi hg;have HA:=Hi hall;clear hg hall;by_cases hjl:j<l.length
  ·obtain⟨x,hxj⟩:∃ x,l[j]? = some x:=⟨_,List.getElem?_eq_getElem hjl⟩
   have hix:∀ w,(Instr.index 9 (str l) (.int .i64 j)).run Tryz.prog w=.ok (.int .u8 x.toNat) w:=fun w=>by
    rw[run_index_string w 9 _ .i64 j Tryz.underlying9,dif_pos ⟨by omega,by rw[hsz];omega⟩]
    obtain⟨h,rfl⟩:=List.getElem?_eq_some_iff.1 hxj
    simp[ByteArray.getElem_eq_getElem_data]
   have q2:(j:Int)<(l.length:Int):=by omega
   have HT:=Hi (among_take (n:=n) hxj);have HM:=Hi (fun h=>among_mem (n:=n) hxj h);clear hxj;have hy0:(0:Int)≤(x.toNat:Int):=by omega
   have hy1:(x.toNat:Int)<256:=by have:=x.toNat_lt;omega
   have hyw:wrap64 (x.toNat:Int)=(x.toNat:Int):=by unfold wrap64;omega
   generalize (x.toNat:Int)=y at *
   rcases Bool.eq_false_or_eq_true (y==n) with h|h
   ·go_wp2_with fail
    go_ret;exact⟨by rw[HM.out h];rfl,rfl⟩
   ·go_wp2_with fail
    go_roundg (l.length-(j+1))
    case measure=>rw[HG.out];omega
    case rel=>exact⟨j+1,rfl,by omega,by go_num,by rw[HT.out,HA.out,h];rfl,rfl⟩
  ·have q2:¬(j:Int)<(l.length:Int):=by omega
   have hA:amongB n l=false:=by
    have:=HA.out;rwa[List.take_of_length_le (by omega)]at this
   have HAA:=Hi hA;clear hA;go_wp2_with fail
   go_ret;exact⟨by rw[HAA.out];rfl,rfl⟩
theorem r06May_any (k n:Int)(w:World) :
  Calls Tryz.prog 197 #[.int .i64 k,.int .i64 n] w fun e w'=>e=.returned (.bool (mayS k n))∧w=w':=by
 by_cases h1:n<0
 ·have hm:mayS k n=false:=by
   unfold mayS;rw[decide_eq_false (by omega:¬(0≤n∧n≤1114111)),decide_eq_false (by omega:¬(0≤n∧n<256)),decide_eq_false (by omega:¬(0≤n∧n≤255)),decide_eq_false (by omega:¬(0≤n∧n<128)),decide_eq_false (by omega:¬(32≤n∧n≤126)),decide_eq_false (by omega:¬(0≤n∧n≤65535))]
   simp
  have HM:=Hi hm;have q:decide (n<0)=true:=decide_eq_true h1;clear hm;go_enter Tryz.func197,Tryz.ntmps197
  go_wp2_with fail
  go_ret;exact⟨by rw[HM.out];rfl,rfl⟩
 have q1:decide (n<0)=false:=decide_eq_false h1;by_cases h2:(1114111:Int)<n
 ·have hm:mayS k n=false:=by
   unfold mayS;rw[decide_eq_false (by omega:¬(0≤n∧n≤1114111)),decide_eq_false (by omega:¬(0≤n∧n<256)),decide_eq_false (by omega:¬(0≤n∧n≤255)),decide_eq_false (by omega:¬(0≤n∧n<128)),decide_eq_false (by omega:¬(32≤n∧n≤126)),decide_eq_false (by omega:¬(0≤n∧n≤65535))]
   simp
  have HM:=Hi hm;have q:decide ((1114111:Int)<n)=true:=decide_eq_true h2;clear hm;go_enter Tryz.func197,Tryz.ntmps197
  go_wp2_with fail
  go_ret;exact⟨by rw[HM.out];rfl,rfl⟩
 have q2:decide ((1114111:Int)<n)=false:=decide_eq_false h2;by_cases h3:55296≤n∧n≤57343
 ·have hm:mayS k n=false:=by
   unfold mayS surr;rw[decide_eq_true h3,decide_eq_false (by omega:¬(0≤n∧n<256)),decide_eq_false (by omega:¬(0≤n∧n≤255)),decide_eq_false (by omega:¬(0≤n∧n<128)),decide_eq_false (by omega:¬(32≤n∧n≤126))]
   simp
  have HM:=Hi hm;have q3:decide ((55296:Int)≤n)=true:=decide_eq_true h3.1;have q4:decide (n≤57343)=true:=decide_eq_true h3.2;clear hm;go_enter Tryz.func197,Tryz.ntmps197
  go_wp2_with fail
  go_ret;exact⟨by rw[HM.out];rfl,rfl⟩
 have hs:surr n=false:=decide_eq_false h3;have hN:(decide ((55296:Int)≤n)=false)∨(decide ((55296:Int)≤n)=true∧decide (n≤57343)=false):=by
  by_cases h:(55296:Int)≤n
  ·exact .inr ⟨decide_eq_true h,decide_eq_false (by omega)⟩
  ·exact .inl (decide_eq_false h)
 by_cases k12:k=12
 ·subst k12
  have hm:mayS 12 n=true:=by
   simp only[mayS,if_true,hs]
   rw[decide_eq_true (by omega)]
   rfl
  have HM:=Hi hm;clear hm hs;rcases hN with q3|⟨q3,q4⟩
  all_goals
   go_enter Tryz.func197,Tryz.ntmps197
   go_wp2_with fail
   go_ret;exact⟨by rw[HM.out];rfl,rfl⟩
 have p1:(k==12)=false:=beq_eq_false_iff_ne.2 k12;by_cases k19:k=19
 ·subst k19
  have H:=Hi (r06among_any n printL);have hm:=among_may n;have HM:=Hi hm;clear hm hs;rcases hN with q3|⟨q3,q4⟩
  all_goals
   go_enter Tryz.func197,Tryz.ntmps197
   go_wp2_with fail
   refine(H.out _ (by decide)).mono ?_
   rintro e w' ⟨rfl,rfl⟩;go_wp2_with fail
   go_ret;exact⟨by rw[←HM.out];rfl,rfl⟩
 have p2:(k==19)=false:=beq_eq_false_iff_ne.2 k19;by_cases k20:k=20
 ·subst k20
  have hm:mayS 20 n=decide (n<256):=by
   simp only[mayS,show ¬((20:Int)=12) from by decide,show ¬((20:Int)=19) from by decide,if_false,if_true]
   rw[decide_eq_decide]
   omega
  have HM:=Hi hm;clear hm hs;rcases hN with q3|⟨q3,q4⟩
  all_goals
   go_enter Tryz.func197,Tryz.ntmps197
   go_wp2_with fail
   go_ret;exact⟨by rw[HM.out];rfl,rfl⟩
 have p3:(k==20)=false:=beq_eq_false_iff_ne.2 k20;by_cases k22:k=22
 ·subst k22
  have hm:mayS 22 n=decide (n<128):=by
   simp only[mayS,show ¬((22:Int)=12) from by decide,show ¬((22:Int)=19) from by decide,show ¬((22:Int)=20) from by decide,if_false,if_true]
   rw[decide_eq_decide]
   omega
  have HM:=Hi hm;clear hm hs;rcases hN with q3|⟨q3,q4⟩
  all_goals
   go_enter Tryz.func197,Tryz.ntmps197
   go_wp2_with fail
   go_ret;exact⟨by rw[HM.out];rfl,rfl⟩
 have p4:(k==22)=false:=beq_eq_false_iff_ne.2 k22;by_cases k26:k=26
 ·subst k26
  have hm:mayS 26 n=(decide ((31:Int)<n)&&decide (n<127)):=by
   simp only[mayS,show ¬((26:Int)=12) from by decide,show ¬((26:Int)=19) from by decide,show ¬((26:Int)=20) from by decide,show ¬((26:Int)=22) from by decide,if_false,if_true]
   rw[←Bool.decide_and,decide_eq_decide]
   omega
  have HM:=Hi hm;clear hm hs;by_cases h31:(31:Int)<n
  ·have p31:decide ((31:Int)<n)=true:=decide_eq_true h31
   rcases hN with q3|⟨q3,q4⟩
   all_goals
    go_enter Tryz.func197,Tryz.ntmps197
    go_wp2_with fail
    go_ret;exact⟨by rw[HM.out,p31];rfl,rfl⟩
  ·have p31:decide ((31:Int)<n)=false:=decide_eq_false h31
   rcases hN with q3|⟨q3,q4⟩
   all_goals
    go_enter Tryz.func197,Tryz.ntmps197
    go_wp2_with fail
    go_ret;exact⟨by rw[HM.out,p31];rfl,rfl⟩
 have p5:(k==26)=false:=beq_eq_false_iff_ne.2 k26;by_cases k30:k=30
 ·subst k30
  have hm:mayS 30 n=decide (n<65536):=by
   simp only[mayS,show ¬((30:Int)=12) from by decide,show ¬((30:Int)=19) from by decide,show ¬((30:Int)=20) from by decide,show ¬((30:Int)=22) from by decide,show ¬((30:Int)=26) from by decide,if_false,if_true,hs]
   rw[Bool.not_false,Bool.and_true,decide_eq_decide]
   omega
  have HM:=Hi hm;clear hm hs;rcases hN with q3|⟨q3,q4⟩
  all_goals
   go_enter Tryz.func197,Tryz.ntmps197
   go_wp2_with fail
   go_ret;exact⟨by rw[HM.out];rfl,rfl⟩
 have p6:(k==30)=false:=beq_eq_false_iff_ne.2 k30;have hm:mayS k n=false:=by
  simp only[mayS,if_neg k12,if_neg k19,if_neg k20,if_neg k22,if_neg k26,if_neg k30]
 have HM:=Hi hm;clear hm hs;rcases hN with q3|⟨q3,q4⟩
 all_goals
  go_enter Tryz.func197,Tryz.ntmps197
  go_wp2_with fail
  go_ret;exact⟨by rw[HM.out];rfl,rfl⟩
theorem add_bytes {w:World}{base n:Nat}{v:Value}{xs:List UInt8}(hown:w.ownsRow base 5 1 v n (Lib.byteCells xs))(l:List UInt8)(cs:Array Value)(hcs:(Lib.byteCells l).toArray=cs)(k:Nat)(hk:l.length=k)(hsz:n+k≤1099511627776)(hb:base≤w.heap.size) :
  ∃ a c w',(Builtin.append_ #[38,38] 38 #[v,.slice (some ⟨w.heap.size,0,none⟩) k k]).run Tryz.prog (w.alloc (.cells cs 5))=.ok (.slice a (n+k) c) w'∧w'.ownsRow base 5 1 (.slice a (n+k) c) (n+k) (Lib.byteCells (xs++l))∧Fr (fun k=>v.ownBlock=some k) w w':=by
 subst hcs hk;have BX:=Blk.new w 5 (Lib.byteCells l).toArray;have F1:Fz w (w.alloc (.cells (Lib.byteCells l).toArray 5)):=(Fr.refl w).alloc _;have hsrc:Bytes (w.alloc (.cells (Lib.byteCells l).toArray 5)) (.slice (some ⟨w.heap.size,0,none⟩) l.length l.length) l:=by
  have h:=Vals.of_block BX (by unfold maxLen;simp[byteCells_len];omega);simpa [byteCells_len] using h
 obtain⟨v',w2,hrun,h1,F2,_⟩:=append_bytes (ownsRow_fr hown F1 (fun _ _ h=>h)) (some ⟨w.heap.size,0,none⟩) l.length l.length l hsrc (by omega) (Nat.le_trans hb F1.size)
 obtain⟨a,m',c,rfl,rfl⟩:=own_shape h1
 exact⟨a,c,w2,hrun,h1,(F1.mono (T:=fun k=>v.ownBlock=some k) (fun _ _ h=>h.elim)).trans F2⟩
theorem r06Utf8_any (v:Value)(ns:List Nat)(w:World)(h:Ints w v (natInts ns))(hn:∀ n∈ns,n<1114112)(hlim:ns.length≤100000000) :
  Calls Tryz.prog 159 #[v] w fun e w'=>∃ v',e=.returned v'∧w'.ownsRow w.heap.size 5 1 v' (encAll ns).length (Lib.byteCells (encAll ns))∧Fz w w':=by
 obtain⟨a,cap,rfl,hc,hm,hx⟩:=h.form
 rw[List.length_map]at hc hx ⊢
 have HX:=Hi hx;have HN:=Hi hn;clear h hx hn hc hm;go_enter Tryz.func159,Tryz.ntmps159
 go_wp2_with fail
 go_loopg [3,4] ns.length (fun g b i wr=>∃ (j:Nat) (a6:Option Addr) (n6 c6:Nat),g=ns.length-j∧j≤ns.length∧b=.slice a6 n6 c6∧i=.int .i64 j∧wr.ownsRow w.heap.size 5 1 (.slice a6 n6 c6) (encAll (ns.take j)).length (Lib.byteCells (encAll (ns.take j)))∧Fz w wr)
 case atStart=>exact⟨0,none,0,0,rfl,Nat.zero_le _,rfl,rfl,⟨rfl,.inl ⟨rfl,rfl⟩⟩,Fr.refl _⟩
 case round=>
  obtain⟨j,a6,n6,c6,hg,hj,rfl,rfl,ho6,G6⟩:=hrel
  have HG:=Hi hg;clear hg;by_cases hjl:j<ns.length
  ·obtain⟨b,o,rfl,hy⟩:=HX.out (by omega)
   obtain⟨n,hnj⟩:∃ n,ns[j]? = some n:=⟨_,List.getElem?_eq_getElem hjl⟩
   have ec:=G6.cell (hy j n (by rw[List.getElem?_map,hnj];rfl)) (fun h=>h);have hb0:w.heap.size≤wr.heap.size:=G6.size;have hlt:=HN.out n (List.mem_of_getElem? hnj);have htl:=encAll_take_le ns j;have hvb:=(Vals.of_own ho6).2;have q1:(0:Int)≤(j:Int):=by omega
   have q2:(j:Int)<(ns.length:Int):=by omega
   have HT:=Hi (encAll_take hnj);have HHY:=Hi hy;clear hy hnj;by_cases n1:n<128
   ·have r1:(n:Int)<128:=by omega
    have hw1:IntKind.u8.wrap (n:Int)=(n:Int):=by simp[IntKind.wrap,IntKind.signed,IntKind.bits];omega
    have he:enc n=[UInt8.ofNat n]:=by unfold enc;rw[if_pos n1]
    obtain⟨a7,c7,w7,hr7,ho7,F7⟩:=add_bytes ho6 [UInt8.ofNat n] #[.int .u8 n] (by simp only[Lib.byteCells,List.map_cons,List.map_nil,Go.Q.u8 n (by omega)]) 1 rfl (by omega) hb0
    have G7:=G6.trans' F7 (fun i hi e=>absurd hi (by have:=hvb i e;omega));rw[←he,←HT.out]at ho7
    have hL:=congrArg List.length HT.out;rw[List.length_append,he]at hL
    have HL:=Hi hL;have HO7:=Hi ho7;have HG7:=Hi G7;have HRUN:=Hi hr7;clear ho6 ho7 F7 hvb G6 G7 hr7 hL he htl;generalize (encAll (ns.take j)).length=L at *
    go_wp2_with (at_builtin;refine wpList_append_run (by rfl) (.tmp 40) (.tmp 43) 38 (by rfl) _ w7 (by exact HRUN.out) ?_)
    go_roundg (ns.length-(j+1))
    case measure=>rw[HG.out];omega
    case rel=>exact⟨j+1,a7,L+1,c7,rfl,by omega,rfl,by go_num,by rw[HL.out];exact HO7.out,HG7.out⟩
   have r1:¬(n:Int)<128:=by omega
   by_cases n2:n<2048
   ·have r2:(n:Int)<2048:=by omega
    obtain⟨y1,hy1⟩:∃ y,y=192+n / 64:=⟨_,rfl⟩
    obtain⟨y2,hy2⟩:∃ y,y=128+n % 64:=⟨_,rfl⟩
    have hw1:IntKind.u8.wrap (192+(n:Int) / 64)=(y1:Int):=by rw[hy1];simp[IntKind.wrap,IntKind.signed,IntKind.bits];omega
    have hw2:IntKind.u8.wrap (128+(n:Int) % 64)=(y2:Int):=by rw[hy2];simp[IntKind.wrap,IntKind.signed,IntKind.bits];omega
    have he:enc n=[UInt8.ofNat y1,UInt8.ofNat y2]:=by unfold enc;rw[if_neg n1,if_pos n2,hy1,hy2]
    obtain⟨a7,c7,w7,hr7,ho7,F7⟩:=add_bytes ho6 [UInt8.ofNat y1,UInt8.ofNat y2] #[.int .u8 y1,.int .u8 y2] (by simp only[Lib.byteCells,List.map_cons,List.map_nil,Go.Q.u8 y1 (by omega),Go.Q.u8 y2 (by omega)]) 2 rfl (by omega) hb0
    have G7:=G6.trans' F7 (fun i hi e=>absurd hi (by have:=hvb i e;omega));rw[←he,←HT.out]at ho7
    have hL:=congrArg List.length HT.out;rw[List.length_append,he]at hL
    have HL:=Hi hL;have HO7:=Hi ho7;have HG7:=Hi G7;have HRUN:=Hi hr7;clear ho6 ho7 F7 hvb G6 G7 hr7 hL he htl hy1 hy2;generalize (encAll (ns.take j)).length=L at *
    go_wp2_with (at_builtin;refine wpList_append_run (by rfl) (.tmp 48) (.tmp 57) 38 (by rfl) _ w7 (by exact HRUN.out) ?_)
    go_roundg (ns.length-(j+1))
    case measure=>rw[HG.out];omega
    case rel=>exact⟨j+1,a7,L+2,c7,rfl,by omega,rfl,by go_num,by rw[HL.out];exact HO7.out,HG7.out⟩
   have r2:¬(n:Int)<2048:=by omega
   by_cases n3:n<65536
   ·have r3:(n:Int)<65536:=by omega
    obtain⟨y1,hy1⟩:∃ y,y=224+n / 4096:=⟨_,rfl⟩
    obtain⟨y2,hy2⟩:∃ y,y=128+n / 64 % 64:=⟨_,rfl⟩
    obtain⟨y3,hy3⟩:∃ y,y=128+n % 64:=⟨_,rfl⟩
    have hw1:IntKind.u8.wrap (224+(n:Int) / 4096)=(y1:Int):=by rw[hy1];simp[IntKind.wrap,IntKind.signed,IntKind.bits];omega
    have hw2:IntKind.u8.wrap (128+(n:Int) / 64 % 64)=(y2:Int):=by rw[hy2];simp[IntKind.wrap,IntKind.signed,IntKind.bits];omega
    have hw3:IntKind.u8.wrap (128+(n:Int) % 64)=(y3:Int):=by rw[hy3];simp[IntKind.wrap,IntKind.signed,IntKind.bits];omega
    have he:enc n=[UInt8.ofNat y1,UInt8.ofNat y2,UInt8.ofNat y3]:=by unfold enc;rw[if_neg n1,if_neg n2,if_pos n3,hy1,hy2,hy3]
    obtain⟨a7,c7,w7,hr7,ho7,F7⟩:=add_bytes ho6 [UInt8.ofNat y1,UInt8.ofNat y2,UInt8.ofNat y3] #[.int .u8 y1,.int .u8 y2,.int .u8 y3] (by simp only[Lib.byteCells,List.map_cons,List.map_nil,Go.Q.u8 y1 (by omega),Go.Q.u8 y2 (by omega),Go.Q.u8 y3 (by omega)]) 3 rfl (by omega) hb0
    have G7:=G6.trans' F7 (fun i hi e=>absurd hi (by have:=hvb i e;omega));rw[←he,←HT.out]at ho7
    have hL:=congrArg List.length HT.out;rw[List.length_append,he]at hL
    have HL:=Hi hL;have HO7:=Hi ho7;have HG7:=Hi G7;have HRUN:=Hi hr7;clear ho6 ho7 F7 hvb G6 G7 hr7 hL he htl hy1 hy2 hy3;generalize (encAll (ns.take j)).length=L at *
    go_wp2_with (at_builtin;refine wpList_append_run (by rfl) (.tmp 62) (.tmp 76) 38 (by rfl) _ w7 (by exact HRUN.out) ?_)
    go_roundg (ns.length-(j+1))
    case measure=>rw[HG.out];omega
    case rel=>exact⟨j+1,a7,L+3,c7,rfl,by omega,rfl,by go_num,by rw[HL.out];exact HO7.out,HG7.out⟩
   have r3:¬(n:Int)<65536:=by omega
   ·obtain⟨y0,hy0⟩:∃ y,y=240+n / 262144:=⟨_,rfl⟩
    obtain⟨y1,hy1⟩:∃ y,y=128+n / 4096 % 64:=⟨_,rfl⟩
    obtain⟨y2,hy2⟩:∃ y,y=128+n / 64 % 64:=⟨_,rfl⟩
    obtain⟨y3,hy3⟩:∃ y,y=128+n % 64:=⟨_,rfl⟩
    have hw0:IntKind.u8.wrap (240+(n:Int) / 262144)=(y0:Int):=by rw[hy0];simp[IntKind.wrap,IntKind.signed,IntKind.bits];omega
    have hw1:IntKind.u8.wrap (128+(n:Int) / 4096 % 64)=(y1:Int):=by rw[hy1];simp[IntKind.wrap,IntKind.signed,IntKind.bits];omega
    have hw2:IntKind.u8.wrap (128+(n:Int) / 64 % 64)=(y2:Int):=by rw[hy2];simp[IntKind.wrap,IntKind.signed,IntKind.bits];omega
    have hw3:IntKind.u8.wrap (128+(n:Int) % 64)=(y3:Int):=by rw[hy3];simp[IntKind.wrap,IntKind.signed,IntKind.bits];omega
    have he:enc n=[UInt8.ofNat y0,UInt8.ofNat y1,UInt8.ofNat y2,UInt8.ofNat y3]:=by unfold enc;rw[if_neg n1,if_neg n2,if_neg n3,hy0,hy1,hy2,hy3]
    obtain⟨a7,c7,w7,hr7,ho7,F7⟩:=add_bytes ho6 [UInt8.ofNat y0,UInt8.ofNat y1,UInt8.ofNat y2,UInt8.ofNat y3] #[.int .u8 y0,.int .u8 y1,.int .u8 y2,.int .u8 y3] (by simp only[Lib.byteCells,List.map_cons,List.map_nil,Go.Q.u8 y0 (by omega),Go.Q.u8 y1 (by omega),Go.Q.u8 y2 (by omega),Go.Q.u8 y3 (by omega)]) 4 rfl (by omega) hb0
    have G7:=G6.trans' F7 (fun i hi e=>absurd hi (by have:=hvb i e;omega));rw[←he,←HT.out]at ho7
    have hL:=congrArg List.length HT.out;rw[List.length_append,he]at hL
    have HL:=Hi hL;have HO7:=Hi ho7;have HG7:=Hi G7;have HRUN:=Hi hr7;clear ho6 ho7 F7 hvb G6 G7 hr7 hL he htl hy0 hy1 hy2 hy3;generalize (encAll (ns.take j)).length=L at *
    go_wp2_with (at_builtin;refine wpList_append_run (by rfl) (.tmp 16) (.tmp 35) 38 (by rfl) _ w7 (by exact HRUN.out) ?_)
    go_roundg (ns.length-(j+1))
    case measure=>rw[HG.out];omega
    case rel=>exact⟨j+1,a7,L+4,c7,rfl,by omega,rfl,by go_num,by rw[HL.out];exact HO7.out,HG7.out⟩
  ·have hj':encAll (ns.take j)=encAll ns:=by rw[List.take_of_length_le (by omega)]
   rw[hj']at ho6
   have HO6:=Hi ho6;have HG6:=Hi G6;have q2:¬(j:Int)<(ns.length:Int):=by omega
   clear ho6 G6 hj';go_wp2_with fail
   go_ret;exact⟨_,rfl,HO6.out,HG6.out⟩
end Go.Proofs.YtehlipgmkinfbaaGreatDoor
