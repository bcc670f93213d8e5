/-
  Merged by program: XToView XScKn.
-/
import Derived.Test.YteidmhkobmddiaaGreatDoorQ0p
import Derived.Test.YteidmhkobmddiaaGreatDoorQ0o
set_option linter.unusedSimpArgs false
set_option maxRecDepth 100000
set_option maxHeartbeats 8000000
namespace Go.Q
open Go Go.RowKit
def zView:ViewD:=⟨[],[],[],false,0,[],[],[],false⟩
theorem zView_in (W:World):ViewDIn W (.slice none 0 0) (.slice none 0 0) (.slice none 0 0) (.slice none 0 0) (.slice none 0 0) (.slice none 0 0) zView:=⟨Vals.nil W,Vals.nil W,Vals.nil W,lat_nil W,lat_nil W,lat_nil W⟩
theorem scN_dir:dirN scN:=⟨by decide,fun r hr=>by
 simp only[scN,List.mem_singleton]at hr
 subst hr;exact⟨by decide,fun p hp=>by rw[List.mem_singleton.1 hp];exact⟨by decide,by decide⟩⟩⟩
theorem scN_fewG:fewG ⟨4,[],scN⟩:=⟨by decide,scN_few⟩
end Go.Q
namespace Go.Proofs.YteidmhkobmddiaaGreatDoor
open Go Go.RowKit Go.Q
theorem infw27:(Tryz.prog.info? 27).map (fun i=>(i.zero,i.size,i.bytes))=some (some (.slice none 0 0),1,24):=by kernel_rfl
theorem vwTo_any (vk va vu vp vf vo:Value)(y:ViewD)(q:ViewT)(hq:q=cutView y)(wb w:World)(h:ViewDIn wb vk va vu vp vf vo y)(Fb:Fz wb w) :
  Calls Tryz.prog 20 #[.agg #[vk,va,vu,.bool y.au,.int .i64 y.pa,vp,vf,vo,.bool y.nc]] w fun e w'=>(∃ k1 l1 k2 l2 k3 l3 a4 c4 a5 c5 a6 c6,e=.returned (.agg #[.slice k1 q.kid.length l1,.slice k2 q.ak.length l2,.slice k3 q.us.length l3,.bool q.au,.int .i64 q.pa,.slice a4 q.ps.length c4,.slice a5 q.fs.length c5,.slice a6 q.pu.length c6,.bool q.nc])∧Kept (fun W=>ViewIn W (.slice k1 q.kid.length l1) (.slice k2 q.ak.length l2) (.slice k3 q.us.length l3) (.slice a4 q.ps.length c4) (.slice a5 q.fs.length c5) (.slice a6 q.pu.length c6) q) (fun k=>wb.heap.size≤k∧k<w.heap.size) w')∧Fz w w':=by
 obtain⟨hv1,hv2,hv3,hv4,hv5,hv6⟩:=h
 obtain⟨k1,l1,rfl,hc1,hm1,-⟩:=Vals.form hv1
 obtain⟨k2,l2,rfl,hc2,hm2,-⟩:=Vals.form hv2
 obtain⟨k3,l3,rfl,hc3,hm3,-⟩:=Ints.form hv3
 obtain⟨k4,l4,rfl⟩:=LAt.shape hv4
 obtain⟨k5,l5,rfl⟩:=LAt.shape hv5
 obtain⟨k6,l6,rfl⟩:=LAt.shape hv6
 unfold maxLen at hm1 hm2 hm3;obtain⟨m1,hqm1⟩:∃ m:Nat,m=min y.kid.length 50:=⟨_,rfl⟩
 have cm1:min (y.kid.length:Int) 50=(m1:Int):=by omega
 have gm1:(m1:Int)≤(l1:Int):=by omega
 have pm1:(0:Int)≤(m1:Int):=by omega
 have Lm1:=Hi (show (y.kid.take 50).length=m1 from by rw[List.length_take,hqm1,Nat.min_comm]);obtain⟨m2,hqm2⟩:∃ m:Nat,m=min y.ak.length 50:=⟨_,rfl⟩
 have cm2:min (y.ak.length:Int) 50=(m2:Int):=by omega
 have gm2:(m2:Int)≤(l2:Int):=by omega
 have pm2:(0:Int)≤(m2:Int):=by omega
 have Lm2:=Hi (show (y.ak.take 50).length=m2 from by rw[List.length_take,hqm2,Nat.min_comm]);obtain⟨m3,hqm3⟩:∃ m:Nat,m=min y.us.length 12:=⟨_,rfl⟩
 have cm3:min (y.us.length:Int) 12=(m3:Int):=by omega
 have gm3:(m3:Int)≤(l3:Int):=by omega
 have pm3:(0:Int)≤(m3:Int):=by omega
 have Lm3:=Hi (show (y.us.take 12).length=m3 from by rw[List.length_take,hqm3,Nat.min_comm]);obtain⟨z,hz⟩:∃ z,z=w.heap.size:=⟨_,rfl⟩
 have HZ:=Hi hz;have F0:Fz w ((w.alloc (.cells #[.slice k1 y.kid.length l1,.slice k2 y.ak.length l2,.slice k3 y.us.length l3,.bool y.au,.int .i64 y.pa,.slice k4 y.ps.length l4,.slice k5 y.fs.length l5,.slice k6 y.pu.length l6,.bool y.nc] 85)).alloc (.cells #[.slice none 0 0,.slice none 0 0,.slice none 0 0,.bool false,.int .i64 0,.slice none 0 0,.slice none 0 0,.slice none 0 0,.bool false] 95)):=((Fr.refl w).alloc _).alloc _
 have B:=(Blk.new w 85 #[.slice k1 y.kid.length l1,.slice k2 y.ak.length l2,.slice k3 y.us.length l3,.bool y.au,.int .i64 y.pa,.slice k4 y.ps.length l4,.slice k5 y.fs.length l5,.slice k6 y.pu.length l6,.bool y.nc]).alloc (.cells #[.slice none 0 0,.slice none 0 0,.slice none 0 0,.bool false,.int .i64 0,.slice none 0 0,.slice none 0 0,.slice none 0 0,.bool false] 95)
 have D:=Blk.new (w.alloc (.cells #[.slice k1 y.kid.length l1,.slice k2 y.ak.length l2,.slice k3 y.us.length l3,.bool y.au,.int .i64 y.pa,.slice k4 y.ps.length l4,.slice k5 y.fs.length l5,.slice k6 y.pu.length l6,.bool y.nc] 85)) 95 #[.slice none 0 0,.slice none 0 0,.slice none 0 0,.bool false,.int .i64 0,.slice none 0 0,.slice none 0 0,.slice none 0 0,.bool false];rw[World.size_alloc,←hz]at D
 rw[←hz]at B
 have hs0:w.heap.size+2=((w.alloc (.cells #[.slice k1 y.kid.length l1,.slice k2 y.ak.length l2,.slice k3 y.us.length l3,.bool y.au,.int .i64 y.pa,.slice k4 y.ps.length l4,.slice k5 y.fs.length l5,.slice k6 y.pu.length l6,.bool y.nc] 85)).alloc (.cells #[.slice none 0 0,.slice none 0 0,.slice none 0 0,.bool false,.int .i64 0,.slice none 0 0,.slice none 0 0,.slice none 0 0,.bool false] 95)).heap.size:=by rw[World.size_alloc,World.size_alloc]
 have HFB:=Hi Fb;have H1:=Hi (fun W (F:Fz wb W)=>vwPoints_any _ y.ps wb W hv4 F);have H2:=Hi (fun W (F:Fz wb W)=>vwPoints_any _ y.fs wb W hv5 F);have HPU:=Hi hv6;have hqf:q.kid=y.kid.take 50∧q.ak=y.ak.take 50∧q.us=y.us.take 12∧q.ps=fewPts y.ps∧q.fs=fewPts y.fs∧q.pu=(y.pu.take 6).map (·.take 40):=by
  rw[hq]
  exact⟨rfl,rfl,rfl,rfl,rfl,rfl⟩
 have HQB:=Hi (show q.au=y.au∧q.pa=y.pa∧q.nc=y.nc from by rw[hq];exact⟨rfl,rfl,rfl⟩);have HQF:=Hi hqf;have HV:=Hi (show ∀ W,Fz wb W→Bytes W (.slice k1 m1 l1) q.kid∧Bytes W (.slice k2 m2 l2) q.ak∧Ints W (.slice k3 m3 l3) q.us from fun W f=>by
  rw[hqf.1,hqf.2.1,hqf.2.2.1]
  exact⟨(Vals.cut hv1 50 m1 hqm1).old f,(Vals.cut hv2 50 m2 hqm2).old f,(Ints.cut hv3 12 m3 hqm3).old f⟩)
 rw[←hqf.1]at Lm1
 rw[←hqf.2.1]at Lm2
 rw[←hqf.2.2.1]at Lm3
 rw[←hqf.2.2.2.1]at H1
 rw[←hqf.2.2.2.2.1]at H2
 have HF00:=Hi F0;have hwb:=Fb.size;clear hqf hq hz F0 Fb hv1 hv2 hv3 hv4 hv5 hv6 hc1 hc2 hc3 hm1 hm2 hm3 hqm1 hqm2 hqm3;go_enter Tryz.func20,Tryz.ntmps20
 go_upto_region 1 with fail
 rw[←HZ.out]
 have HS0:=Hi hs0;have hwb0:wb.heap.size≤((w.alloc (.cells #[.slice k1 y.kid.length l1,.slice k2 y.ak.length l2,.slice k3 y.us.length l3,.bool y.au,.int .i64 y.pa,.slice k4 y.ps.length l4,.slice k5 y.fs.length l5,.slice k6 y.pu.length l6,.bool y.nc] 85)).alloc (.cells #[.slice none 0 0,.slice none 0 0,.slice none 0 0,.bool false,.int .i64 0,.slice none 0 0,.slice none 0 0,.slice none 0 0,.bool false] 95)).heap.size:=by omega
 clear hs0 hwb;generalize ((w.alloc (.cells #[.slice k1 y.kid.length l1,.slice k2 y.ak.length l2,.slice k3 y.us.length l3,.bool y.au,.int .i64 y.pa,.slice k4 y.ps.length l4,.slice k5 y.fs.length l5,.slice k6 y.pu.length l6,.bool y.nc] 85)).alloc (.cells #[.slice none 0 0,.slice none 0 0,.slice none 0 0,.bool false,.int .i64 0,.slice none 0 0,.slice none 0 0,.slice none 0 0,.bool false] 95))=w0 at *
 have HBB:=Hi B;have HDD:=Hi D;go_cut [3] from 5 to 38 (fun s3 wc=>∃ z3 a4 c4 a5 c5,s3=.pointer (some ⟨z3,0,none⟩)∧w0.heap.size≤z3∧Blk wc z3 95 #[.slice k1 m1 l1,.slice k2 m2 l2,.slice k3 m3 l3,.bool y.au,.int .i64 y.pa,.slice a4 q.ps.length c4,.slice a5 q.fs.length c5,.slice none 0 0,.bool y.nc]∧Kept (fun W=>Pts W (.slice a4 q.ps.length c4) q.ps∧Pts W (.slice a5 q.fs.length c5) q.fs) (fun k=>(wb.heap.size≤k∧k<w0.heap.size)∨k=z3) wc∧Fz w0 wc)
 case first=>
  clear D;have G:Fz w0 w0:=Fr.refl _;have hltB:=B.lt;refine wp_region_noPanic ?_;refine wp_region_held_drew (S:=(fun w'=>∀ j,w'.cell? ⟨z,j,none⟩=(#[.slice k1 y.kid.length l1,.slice k2 y.ak.length l2,.slice k3 y.us.length l3,.bool y.au,.int .i64 y.pa,.slice k4 y.ps.length l4,.slice k5 y.fs.length l5,.slice k6 y.pu.length l6,.bool y.nc]:Array Value)[j]?)) (by kernel_rfl) ?_ (fun hHeld=>?_)
  ·exact B.drew.cell
  replace B:=B.drew;replace G:=G.drew;generalize w0.drew=wd at *
  refine wpAnyH_take (i:=0) (oi:=_) (v:=?_) rfl (by kernel_rfl) (by kernel_rfl) (by kernel_rfl) (fun _ _ _ h=>h) (Or.inl ⟨by rfl,?_⟩) (by assumption) ?_;rotate_left
  ·(intro W hSw;(try dsimp only at hSw);go_simp;try with_reducible rfl)
  (try simp only[Act.put,SK,SS]);refine wpAnyH_take (i:=1) (oi:=_) (v:=?_) rfl (by kernel_rfl) (by kernel_rfl) (by kernel_rfl) (fun _ _ _ h=>h) (Or.inl ⟨by rfl,?_⟩) (by assumption) ?_;rotate_left
  ·(intro W hSw;(try dsimp only at hSw);go_simp;try with_reducible rfl)
  (try simp only[Act.put,SK,SS]);refine wpAnyH_take (i:=2) (oi:=_) (v:=?_) rfl (by kernel_rfl) (by kernel_rfl) (by kernel_rfl) (fun _ _ _ h=>h) (Or.inl ⟨by rfl,?_⟩) (by assumption) ?_;rotate_left
  ·(intro W hSw;(try dsimp only at hSw);go_simp;try with_reducible rfl)
  (try simp only[Act.put,SK,SS]);refine wpAnyH_take (i:=3) (oi:=_) (v:=?_) rfl (by kernel_rfl) (by kernel_rfl) (by kernel_rfl) (fun _ _ _ h=>h) (Or.inl ⟨by rfl,?_⟩) (by assumption) ?_;rotate_left
  ·(intro W hSw;(try dsimp only at hSw);go_simp;try with_reducible rfl)
  (try simp only[Act.put,SK,SS]);refine wpAnyH_take (i:=4) (oi:=_) (v:=?_) rfl (by kernel_rfl) (by kernel_rfl) (by kernel_rfl) (fun _ _ _ h=>h) (Or.inl ⟨by rfl,?_⟩) (by assumption) ?_;rotate_left
  ·(intro W hSw;(try dsimp only at hSw);go_simp;try with_reducible rfl)
  (try simp only[Act.put,SK,SS]);refine wpAnyH_take (i:=5) (oi:=_) (v:=?_) rfl (by kernel_rfl) (by kernel_rfl) (by kernel_rfl) (fun _ _ _ h=>h) (Or.inl ⟨by rfl,?_⟩) (by assumption) ?_;rotate_left
  ·(intro W hSw;(try dsimp only at hSw);go_simp;try with_reducible rfl)
  (try simp only[Act.put,SK,SS]);refine wpAnyH_take (i:=6) (oi:=_) (v:=?_) rfl (by kernel_rfl) (by kernel_rfl) (by kernel_rfl) (fun _ _ _ h=>h) (Or.inl ⟨by rfl,?_⟩) (by assumption) ?_;rotate_left
  ·(intro W hSw;(try dsimp only at hSw);go_simp;try with_reducible rfl)
  (try simp only[Act.put,SK,SS]);refine wpAnyH_take (i:=7) (oi:=_) (v:=?_) rfl (by kernel_rfl) (by kernel_rfl) (by kernel_rfl) (fun _ _ _ h=>h) (Or.inl ⟨by rfl,?_⟩) (by assumption) ?_;rotate_left
  ·(intro W hSw;(try dsimp only at hSw);go_simp;try with_reducible rfl)
  (try simp only[Act.put,SK,SS]);refine wpAnyH_take (i:=8) (oi:=_) (v:=?_) rfl (by kernel_rfl) (by kernel_rfl) (by kernel_rfl) (fun _ _ _ h=>h) (Or.inl ⟨by rfl,?_⟩) (by assumption) ?_;rotate_left
  ·(intro W hSw;(try dsimp only at hSw);go_simp;try with_reducible rfl)
  (try simp only[Act.put,SK,SS]);refine wpAnyH_take (i:=9) (oi:=_) (v:=?_) rfl (by kernel_rfl) (by kernel_rfl) (by kernel_rfl) (fun _ _ _ h=>h) (Or.inl ⟨by rfl,?_⟩) (by assumption) ?_;rotate_left
  ·(intro W hSw;(try dsimp only at hSw);go_simp;try with_reducible rfl)
  (try simp only[Act.put,SK,SS]);refine wpAnyH_take (i:=10) (oi:=_) (v:=?_) rfl (by kernel_rfl) (by kernel_rfl) (by kernel_rfl) (fun _ _ _ h=>h) (Or.inl ⟨by rfl,?_⟩) (by assumption) ?_;rotate_left
  ·(intro W hSw;(try dsimp only at hSw);go_simp;try with_reducible rfl)
  (try simp only[Act.put,SK,SS]);refine wpAnyH_take (i:=11) (oi:=_) (v:=?_) rfl (by kernel_rfl) (by kernel_rfl) (by kernel_rfl) (fun _ _ _ h=>h) (Or.inl ⟨by rfl,?_⟩) (by assumption) ?_;rotate_left
  ·(intro W hSw;(try dsimp only at hSw);go_simp;try with_reducible rfl)
  (try simp only[Act.put,SK,SS]);refine wpAnyH_take (i:=12) (oi:=_) (v:=?_) rfl (by kernel_rfl) (by kernel_rfl) (by kernel_rfl) (fun _ _ _ h=>h) (Or.inl ⟨by rfl,?_⟩) (by assumption) ?_;rotate_left
  ·(intro W hSw;(try dsimp only at hSw);go_simp;try with_reducible rfl)
  (try simp only[Act.put,SK,SS]);refine wpAnyH_take (i:=13) (oi:=_) (v:=?_) rfl (by kernel_rfl) (by kernel_rfl) (by kernel_rfl) (fun _ _ _ h=>h) (Or.inl ⟨by rfl,?_⟩) (by assumption) ?_;rotate_left
  ·(intro W hSw;(try dsimp only at hSw);go_simp;try with_reducible rfl)
  (try simp only[Act.put,SK,SS]);refine wpAnyH_take (i:=14) (oi:=_) (v:=?_) rfl (by kernel_rfl) (by kernel_rfl) (by kernel_rfl) (fun _ _ _ h=>h) (Or.inl ⟨by rfl,?_⟩) (by assumption) ?_;rotate_left
  ·(intro W hSw;(try dsimp only at hSw);go_simp;try with_reducible rfl)
  (try simp only[Act.put,SK,SS]);refine wpAnyH_take (i:=15) (oi:=_) (v:=?_) rfl (by kernel_rfl) (by kernel_rfl) (by kernel_rfl) (fun _ _ _ h=>h) (Or.inl ⟨by rfl,?_⟩) (by assumption) ?_;rotate_left
  ·(intro W hSw;(try dsimp only at hSw);go_simp;try with_reducible rfl)
  (try simp only[Act.put,SK,SS]);refine wpAnyH_take (i:=16) (oi:=_) (v:=?_) rfl (by kernel_rfl) (by kernel_rfl) (by kernel_rfl) (fun _ _ _ h=>h) (Or.inl ⟨by rfl,?_⟩) (by assumption) ?_;rotate_left
  ·(intro W hSw;(try dsimp only at hSw);go_simp;try with_reducible rfl)
  (try simp only[Act.put,SK,SS]);refine wpAnyH_take (i:=17) (oi:=_) (v:=?_) rfl (by kernel_rfl) (by kernel_rfl) (by kernel_rfl) (fun _ _ _ h=>h) (Or.inl ⟨by rfl,?_⟩) (by assumption) ?_;rotate_left
  ·(intro W hSw;(try dsimp only at hSw);go_simp;try with_reducible rfl)
  (try simp only[Act.put,SK,SS]);refine wpAnyH_take (i:=18) (oi:=_) (v:=?_) rfl (by kernel_rfl) (by kernel_rfl) (by kernel_rfl) (fun _ _ _ h=>h) (Or.inl ⟨by rfl,?_⟩) (by assumption) ?_;rotate_left
  ·(intro W hSw;(try dsimp only at hSw);go_simp;try with_reducible rfl)
  (try simp only[Act.put,SK,SS]);refine wpAnyH_take (i:=19) (oi:=_) (v:=?_) rfl (by kernel_rfl) (by kernel_rfl) (by kernel_rfl) (fun _ _ _ h=>h) (Or.inl ⟨by rfl,?_⟩) (by assumption) ?_;rotate_left
  ·(intro W hSw;(try dsimp only at hSw);go_simp;try with_reducible rfl)
  (try simp only[Act.put,SK,SS]);refine wpAnyH_take (i:=20) (oi:=_) (v:=?_) rfl (by kernel_rfl) (by kernel_rfl) (by kernel_rfl) (fun _ _ _ h=>h) (Or.inl ⟨by rfl,?_⟩) (by assumption) ?_;rotate_left
  ·(intro W hSw;(try dsimp only at hSw);go_simp;try with_reducible rfl)
  (try simp only[Act.put,SK,SS]);refine wpAnyH_take (i:=21) (oi:=_) (v:=?_) rfl (by kernel_rfl) (by kernel_rfl) (by kernel_rfl) (fun _ _ _ h=>h) (Or.inl ⟨by rfl,?_⟩) (by assumption) ?_;rotate_left
  ·(intro W hSw;(try dsimp only at hSw);go_simp;try with_reducible rfl)
  (try simp only[Act.put,SK,SS]);refine wpAnyH_take (i:=22) (oi:=_) (v:=?_) rfl (by kernel_rfl) (by kernel_rfl) (by kernel_rfl) (fun _ _ _ h=>h) (Or.inl ⟨by rfl,?_⟩) (by assumption) ?_;rotate_left
  ·(intro W hSw;(try dsimp only at hSw);go_simp;try with_reducible rfl)
  (try simp only[Act.put,SK,SS]);refine wpAnyH_take (i:=23) (oi:=_) (v:=?_) rfl (by kernel_rfl) (by kernel_rfl) (by kernel_rfl) (fun _ _ _ h=>h) (Or.inl ⟨by rfl,?_⟩) (by assumption) ?_;rotate_left
  ·(intro W hSw;(try dsimp only at hSw);go_simp;try with_reducible rfl)
  (try simp only[Act.put,SK,SS]);refine wpAnyH_take (i:=24) (oi:=_) (v:=?_) rfl (by kernel_rfl) (by kernel_rfl) (by kernel_rfl) (fun _ _ _ h=>h) (Or.inl ⟨by rfl,?_⟩) (by assumption) ?_;rotate_left
  ·(intro W hSw;(try dsimp only at hSw);go_simp;try with_reducible rfl)
  (try simp only[Act.put,SK,SS]);refine wpAnyH_take (i:=25) (oi:=_) (v:=?_) rfl (by kernel_rfl) (by kernel_rfl) (by kernel_rfl) (fun _ _ _ h=>h) (Or.inl ⟨by rfl,?_⟩) (by assumption) ?_;rotate_left
  ·(intro W hSw;(try dsimp only at hSw);go_simp;try with_reducible rfl)
  (try simp only[Act.put,SK,SS]);refine wpAnyH_take (i:=26) (oi:=_) (v:=?_) rfl (by kernel_rfl) (by kernel_rfl) (by kernel_rfl) (fun _ _ _ h=>h) (Or.inl ⟨by rfl,?_⟩) (by assumption) ?_;rotate_left
  ·(intro W hSw;(try dsimp only at hSw);go_simp;try with_reducible rfl)
  (try simp only[Act.put,SK,SS]);refine wpAnyH_take (i:=28) (oi:=_) (v:=?_) rfl (by kernel_rfl) (by kernel_rfl) (by kernel_rfl) (fun _ _ _ h=>h) (Or.inl ⟨by rfl,?_⟩) (by assumption) ?_;rotate_left
  ·(intro W hSw;(try dsimp only at hSw);go_simp;try with_reducible rfl)
  (try simp only[Act.put,SK,SS]);refine wpAnyH_take (i:=29) (oi:=_) (v:=?_) rfl (by kernel_rfl) (by kernel_rfl) (by kernel_rfl) (fun _ _ _ h=>h) (Or.inl ⟨by rfl,?_⟩) (by assumption) ?_;rotate_left
  ·(intro W hSw;(try dsimp only at hSw);go_simp;try with_reducible rfl)
  (try simp only[Act.put,SK,SS]);refine wpAnyH_take (i:=31) (oi:=_) (v:=?_) rfl (by kernel_rfl) (by kernel_rfl) (by kernel_rfl) (fun _ _ _ h=>h) (Or.inl ⟨by rfl,?_⟩) (by assumption) ?_;rotate_left
  ·(intro W hSw;(try dsimp only at hSw);go_simp;try with_reducible rfl)
  (try simp only[Act.put,SK,SS]);refine wpAnyH_take (i:=32) (oi:=_) (v:=?_) rfl (by kernel_rfl) (by kernel_rfl) (by kernel_rfl) (fun _ _ _ h=>h) (Or.inl ⟨by rfl,?_⟩) (by assumption) ?_;rotate_left
  ·(intro W hSw;(try dsimp only at hSw);go_simp;try with_reducible rfl)
  (try simp only[Act.put,SK,SS]);refine wpAnyH_ready (rs:=[27,34]) (by kernel_rfl) (by simp) ?_;refine AllReadyH.cons (o:=_) rfl (fun KK hKK=>?_) (AllReadyH.cons (o:=_) rfl (fun KK hKK=>?_) AllReadyH.nil)
  ·go_simp
   (go_at_call 58;(with_reducible refine(H1.out _ (HFB.out.trans (HF00.out.trans G))).mono ?_);rintro e w1x ⟨⟨a4,c4,rfl,hq⟩,F⟩;have hsz:=G.size;have n1:=hq.weaken (K':=((fun k=>wb.heap.size≤k∧k<w0.heap.size))) (fun k hk=>by have h2:wb.heap.size≤k∧k<w0.heap.size:=hk;exact⟨h2.1,by omega⟩);clear hq;replace B:=B.fr F (fun h=>h);replace G:=G.trans F;clear F hsz;go_wp2_with fail)
   refine hKK.out _ _ ?_ (fun hHeld=>?_)
   ·exact B.cell
   clear hKK KK;(try simp only[Act.put,SK,SS]);refine wpAnyH_ready (rs:=[30,34]) (by kernel_rfl) (by simp) ?_;refine AllReadyH.cons (o:=_) rfl (fun KK hKK=>?_) (AllReadyH.cons (o:=_) rfl (fun KK hKK=>?_) AllReadyH.nil)
   ·go_simp
    (go_at_call 58;(with_reducible refine(H2.out _ (HFB.out.trans (HF00.out.trans G))).mono ?_);rintro e w2x ⟨⟨a5,c5,rfl,hq⟩,F⟩;have hsz:=G.size;have n2:=hq.weaken (K':=((fun k=>wb.heap.size≤k∧k<w0.heap.size))) (fun k hk=>by have h2:wb.heap.size≤k∧k<w0.heap.size:=hk;exact⟨h2.1,by omega⟩);clear hq;replace n1:=n1.old F;replace B:=B.fr F (fun h=>h);replace G:=G.trans F;clear F hsz;go_wp2_with fail)
    refine hKK.out _ _ ?_ (fun hHeld=>?_)
    ·exact B.cell
    clear hKK KK;(try simp only[Act.put,SK,SS]);refine wpAnyH_take (i:=33) (oi:=_) (v:=?_) rfl (by kernel_rfl) (by kernel_rfl) (by kernel_rfl) (fun _ _ _ h=>h) (Or.inl ⟨by rfl,?_⟩) (by assumption) ?_;rotate_left
    ·(intro W hSw;(try dsimp only at hSw);go_simp;try with_reducible rfl)
    (try simp only[Act.put,SK,SS]);refine wpAnyH_ready (rs:=[34]) (by kernel_rfl) (by simp) ?_;refine AllReadyH.cons (o:=_) rfl (fun KK hKK=>?_) AllReadyH.nil;go_simp
    skip
    refine hKK.out _ _ ?_ (fun hHeld=>?_)
    ·exact(B.alloc _).cell
    clear hKK KK;(try simp only[Act.put,SK,SS]);obtain⟨zN,hzN⟩:∃ z,z=w2x.heap.size:=⟨_,rfl⟩
    have N:=Blk.new w2x 95 #[.slice none 0 0,.slice none 0 0,.slice none 0 0,.bool false,.int .i64 0,.slice none 0 0,.slice none 0 0,.slice none 0 0,.bool false];rw[←hzN]at N ⊢
    replace n1:=n1.step (S:=fun _=>False) (K':=(fun k=>((fun k=>wb.heap.size≤k∧k<w0.heap.size)) k∨k=zN)) ((Fr.refl w2x).alloc (.cells #[.slice none 0 0,.slice none 0 0,.slice none 0 0,.bool false,.int .i64 0,.slice none 0 0,.slice none 0 0,.slice none 0 0,.bool false] 95)) (fun _ _ h=>h.elim) (fun k hk=>by rcases hk with hk|hk;exact .inl hk;exact .inr (by omega))
    replace n2:=n2.step (S:=fun _=>False) (K':=(fun k=>((fun k=>wb.heap.size≤k∧k<w0.heap.size)) k∨k=zN)) ((Fr.refl w2x).alloc (.cells #[.slice none 0 0,.slice none 0 0,.slice none 0 0,.bool false,.int .i64 0,.slice none 0 0,.slice none 0 0,.slice none 0 0,.bool false] 95)) (fun _ _ h=>h.elim) (fun k hk=>by rcases hk with hk|hk;exact .inl hk;exact .inr (by omega));replace B:=B.alloc (.cells #[.slice none 0 0,.slice none 0 0,.slice none 0 0,.bool false,.int .i64 0,.slice none 0 0,.slice none 0 0,.slice none 0 0,.bool false] 95);have hzw:w0.heap.size≤zN:=by have:=G.size;omega
    replace G:=G.alloc (.cells #[.slice none 0 0,.slice none 0 0,.slice none 0 0,.bool false,.int .i64 0,.slice none 0 0,.slice none 0 0,.slice none 0 0,.bool false] 95);have hza:zN<(w2x.alloc (.cells #[.slice none 0 0,.slice none 0 0,.slice none 0 0,.bool false,.int .i64 0,.slice none 0 0,.slice none 0 0,.slice none 0 0,.bool false] 95)).heap.size:=N.lt;clear hzN;generalize (w2x.alloc (.cells #[.slice none 0 0,.slice none 0 0,.slice none 0 0,.bool false,.int .i64 0,.slice none 0 0,.slice none 0 0,.slice none 0 0,.bool false] 95))=wz9 at *
    have d0:=N.cell 0;have d1:=N.cell 1;have d2:=N.cell 2;have d3:=N.cell 3;have d4:=N.cell 4;have d5:=N.cell 5;have d6:=N.cell 6;have d7:=N.cell 7;have d8:=N.cell 8;have f0:=N.frozen 0;have f1:=N.frozen 1;have f2:=N.frozen 2;have f3:=N.frozen 3;have f4:=N.frozen 4;have f5:=N.frozen 5;have f6:=N.frozen 6;have f7:=N.frozen 7;have f8:=N.frozen 8
    have P5:=putL_all (Z:=[.slice none 0 0,.slice none 0 0,.slice none 0 0,.bool false,.int .i64 0,.slice none 0 0,.slice none 0 0,.slice none 0 0,.bool false]) N (l:=[.slice k1 m1 l1,.slice k2 m2 l2,.slice k3 m3 l3,.bool y.au,.int .i64 y.pa,.slice a4 q.ps.length c4,.slice a5 q.fs.length c5,.slice none 0 0,.bool y.nc]) rfl;have HE:=one_put [.slice k1 m1 l1,.slice k2 m2 l2,.slice k3 m3 l3,.bool y.au,.int .i64 y.pa,.slice a4 q.ps.length c4,.slice a5 q.fs.length c5,.slice none 0 0,.bool y.nc] N rfl G hzw (Kept.both n1 n2) (.inr rfl);simp only[putL]at P5 HE
    have B5:=B.fr P5.2 (by omega);simp only[SG]at d0 d1 d2 d3 d4 d5 d6 d7 d8
    replace HE:=Hi HE;replace P5:=Hi P5;refine wpAnyH_ready (rs:=[35]) (by kernel_rfl) (by simp) ?_;refine AllReadyH.cons (o:=_) rfl (fun KK hKK=>?_) AllReadyH.nil;go_simp
    refine hKK.out _ _ ?_ (fun hHeld=>?_)
    ·with_reducible exact B5.cell
    clear hKK KK;(try simp only[Act.put,SK,SS]);refine wpAnyH_done (by kernel_rfl) ?_ _;refine NoPanic.normal ?_;clear d0 d1 d2 d3 d4 d5 d6 d7 d8 f0 f1 f2 f3 f4 f5 f6 f7 f8;go_wp2_with fail
    go_meet
    with_reducible exact⟨zN,_,_,_,_,rfl,hzw,HE.out.1,HE.out.2.1,HE.out.2.2⟩
   ·go_simp
    skip
    refine hKK.out _ _ ?_ (fun hHeld=>?_)
    ·exact(B.alloc _).cell
    clear hKK KK;(try simp only[Act.put,SK,SS]);obtain⟨zN,hzN⟩:∃ z,z=w1x.heap.size:=⟨_,rfl⟩
    have N:=Blk.new w1x 95 #[.slice none 0 0,.slice none 0 0,.slice none 0 0,.bool false,.int .i64 0,.slice none 0 0,.slice none 0 0,.slice none 0 0,.bool false];rw[←hzN]at N ⊢
    replace n1:=n1.step (S:=fun _=>False) (K':=(fun k=>((fun k=>wb.heap.size≤k∧k<w0.heap.size)) k∨k=zN)) ((Fr.refl w1x).alloc (.cells #[.slice none 0 0,.slice none 0 0,.slice none 0 0,.bool false,.int .i64 0,.slice none 0 0,.slice none 0 0,.slice none 0 0,.bool false] 95)) (fun _ _ h=>h.elim) (fun k hk=>by rcases hk with hk|hk;exact .inl hk;exact .inr (by omega));replace B:=B.alloc (.cells #[.slice none 0 0,.slice none 0 0,.slice none 0 0,.bool false,.int .i64 0,.slice none 0 0,.slice none 0 0,.slice none 0 0,.bool false] 95);have hzw:w0.heap.size≤zN:=by have:=G.size;omega
    replace G:=G.alloc (.cells #[.slice none 0 0,.slice none 0 0,.slice none 0 0,.bool false,.int .i64 0,.slice none 0 0,.slice none 0 0,.slice none 0 0,.bool false] 95);have hza:zN<(w1x.alloc (.cells #[.slice none 0 0,.slice none 0 0,.slice none 0 0,.bool false,.int .i64 0,.slice none 0 0,.slice none 0 0,.slice none 0 0,.bool false] 95)).heap.size:=N.lt;clear hzN;generalize (w1x.alloc (.cells #[.slice none 0 0,.slice none 0 0,.slice none 0 0,.bool false,.int .i64 0,.slice none 0 0,.slice none 0 0,.slice none 0 0,.bool false] 95))=wz9 at *
    refine wpAnyH_ready (rs:=[30]) (by kernel_rfl) (by simp) ?_;refine AllReadyH.cons (o:=_) rfl (fun KK hKK=>?_) AllReadyH.nil;go_simp
    (go_at_call 58;(with_reducible refine(H2.out _ (HFB.out.trans (HF00.out.trans G))).mono ?_);rintro e w2x ⟨⟨a5,c5,rfl,hq⟩,F⟩;have hsz:=G.size;have n2:=hq.weaken (K':=(fun k=>((fun k=>wb.heap.size≤k∧k<w0.heap.size)) k∨k=zN)) (fun k hk=>by rcases hk with h2|h2;(have h3:wb.heap.size≤k∧k<w0.heap.size:=h2;exact⟨h3.1,by omega⟩);(have h3:=N.lt;exact⟨by omega,by omega⟩));clear hq;replace n1:=n1.old F;replace B:=B.fr F (fun h=>h);replace N:=N.fr F (fun h=>h);replace G:=G.trans F;clear F hsz;go_wp2_with fail)
    refine hKK.out _ _ ?_ (fun hHeld=>?_)
    ·exact B.cell
    clear hKK KK;(try simp only[Act.put,SK,SS]);refine wpAnyH_take (i:=33) (oi:=_) (v:=?_) rfl (by kernel_rfl) (by kernel_rfl) (by kernel_rfl) (fun _ _ _ h=>h) (Or.inl ⟨by rfl,?_⟩) (by assumption) ?_;rotate_left
    ·(intro W hSw;(try dsimp only at hSw);go_simp;try with_reducible rfl)
    (try simp only[Act.put,SK,SS]);have d0:=N.cell 0;have d1:=N.cell 1;have d2:=N.cell 2;have d3:=N.cell 3;have d4:=N.cell 4;have d5:=N.cell 5;have d6:=N.cell 6;have d7:=N.cell 7;have d8:=N.cell 8;have f0:=N.frozen 0;have f1:=N.frozen 1;have f2:=N.frozen 2;have f3:=N.frozen 3;have f4:=N.frozen 4;have f5:=N.frozen 5;have f6:=N.frozen 6;have f7:=N.frozen 7;have f8:=N.frozen 8
    have P5:=putL_all (Z:=[.slice none 0 0,.slice none 0 0,.slice none 0 0,.bool false,.int .i64 0,.slice none 0 0,.slice none 0 0,.slice none 0 0,.bool false]) N (l:=[.slice k1 m1 l1,.slice k2 m2 l2,.slice k3 m3 l3,.bool y.au,.int .i64 y.pa,.slice a4 q.ps.length c4,.slice a5 q.fs.length c5,.slice none 0 0,.bool y.nc]) rfl;have HE:=one_put [.slice k1 m1 l1,.slice k2 m2 l2,.slice k3 m3 l3,.bool y.au,.int .i64 y.pa,.slice a4 q.ps.length c4,.slice a5 q.fs.length c5,.slice none 0 0,.bool y.nc] N rfl G hzw (Kept.both n1 n2) (.inr rfl);simp only[putL]at P5 HE
    have B5:=B.fr P5.2 (by omega);simp only[SG]at d0 d1 d2 d3 d4 d5 d6 d7 d8
    replace HE:=Hi HE;replace P5:=Hi P5;refine wpAnyH_ready (rs:=[35]) (by kernel_rfl) (by simp) ?_;refine AllReadyH.cons (o:=_) rfl (fun KK hKK=>?_) AllReadyH.nil;go_simp
    refine hKK.out _ _ ?_ (fun hHeld=>?_)
    ·with_reducible exact B5.cell
    clear hKK KK;(try simp only[Act.put,SK,SS]);refine wpAnyH_done (by kernel_rfl) ?_ _;refine NoPanic.normal ?_;clear d0 d1 d2 d3 d4 d5 d6 d7 d8 f0 f1 f2 f3 f4 f5 f6 f7 f8;go_wp2_with fail
    go_meet
    with_reducible exact⟨zN,_,_,_,_,rfl,hzw,HE.out.1,HE.out.2.1,HE.out.2.2⟩
  ·go_simp
   skip
   refine hKK.out _ _ ?_ (fun hHeld=>?_)
   ·exact(B.alloc _).cell
   clear hKK KK;(try simp only[Act.put,SK,SS]);obtain⟨zN,hzN⟩:∃ z,z=wd.heap.size:=⟨_,rfl⟩
   have N:=Blk.new wd 95 #[.slice none 0 0,.slice none 0 0,.slice none 0 0,.bool false,.int .i64 0,.slice none 0 0,.slice none 0 0,.slice none 0 0,.bool false];rw[←hzN]at N ⊢
   replace B:=B.alloc (.cells #[.slice none 0 0,.slice none 0 0,.slice none 0 0,.bool false,.int .i64 0,.slice none 0 0,.slice none 0 0,.slice none 0 0,.bool false] 95);have hzw:w0.heap.size≤zN:=by have:=G.size;omega
   replace G:=G.alloc (.cells #[.slice none 0 0,.slice none 0 0,.slice none 0 0,.bool false,.int .i64 0,.slice none 0 0,.slice none 0 0,.slice none 0 0,.bool false] 95);have hza:zN<(wd.alloc (.cells #[.slice none 0 0,.slice none 0 0,.slice none 0 0,.bool false,.int .i64 0,.slice none 0 0,.slice none 0 0,.slice none 0 0,.bool false] 95)).heap.size:=N.lt;clear hzN;generalize (wd.alloc (.cells #[.slice none 0 0,.slice none 0 0,.slice none 0 0,.bool false,.int .i64 0,.slice none 0 0,.slice none 0 0,.slice none 0 0,.bool false] 95))=wz9 at *
   refine wpAnyH_ready (rs:=[27]) (by kernel_rfl) (by simp) ?_;refine AllReadyH.cons (o:=_) rfl (fun KK hKK=>?_) AllReadyH.nil;go_simp
   (go_at_call 58;(with_reducible refine(H1.out _ (HFB.out.trans (HF00.out.trans G))).mono ?_);rintro e w1x ⟨⟨a4,c4,rfl,hq⟩,F⟩;have hsz:=G.size;have n1:=hq.weaken (K':=(fun k=>((fun k=>wb.heap.size≤k∧k<w0.heap.size)) k∨k=zN)) (fun k hk=>by rcases hk with h2|h2;(have h3:wb.heap.size≤k∧k<w0.heap.size:=h2;exact⟨h3.1,by omega⟩);(have h3:=N.lt;exact⟨by omega,by omega⟩));clear hq;replace B:=B.fr F (fun h=>h);replace N:=N.fr F (fun h=>h);replace G:=G.trans F;clear F hsz;go_wp2_with fail)
   refine hKK.out _ _ ?_ (fun hHeld=>?_)
   ·exact B.cell
   clear hKK KK;(try simp only[Act.put,SK,SS]);refine wpAnyH_ready (rs:=[30]) (by kernel_rfl) (by simp) ?_;refine AllReadyH.cons (o:=_) rfl (fun KK hKK=>?_) AllReadyH.nil;go_simp
   (go_at_call 58;(with_reducible refine(H2.out _ (HFB.out.trans (HF00.out.trans G))).mono ?_);rintro e w2x ⟨⟨a5,c5,rfl,hq⟩,F⟩;have hsz:=G.size;have n2:=hq.weaken (K':=(fun k=>((fun k=>wb.heap.size≤k∧k<w0.heap.size)) k∨k=zN)) (fun k hk=>by rcases hk with h2|h2;(have h3:wb.heap.size≤k∧k<w0.heap.size:=h2;exact⟨h3.1,by omega⟩);(have h3:=N.lt;exact⟨by omega,by omega⟩));clear hq;replace n1:=n1.old F;replace B:=B.fr F (fun h=>h);replace N:=N.fr F (fun h=>h);replace G:=G.trans F;clear F hsz;go_wp2_with fail)
   refine hKK.out _ _ ?_ (fun hHeld=>?_)
   ·exact B.cell
   clear hKK KK;(try simp only[Act.put,SK,SS]);refine wpAnyH_take (i:=33) (oi:=_) (v:=?_) rfl (by kernel_rfl) (by kernel_rfl) (by kernel_rfl) (fun _ _ _ h=>h) (Or.inl ⟨by rfl,?_⟩) (by assumption) ?_;rotate_left
   ·(intro W hSw;(try dsimp only at hSw);go_simp;try with_reducible rfl)
   (try simp only[Act.put,SK,SS]);have d0:=N.cell 0;have d1:=N.cell 1;have d2:=N.cell 2;have d3:=N.cell 3;have d4:=N.cell 4;have d5:=N.cell 5;have d6:=N.cell 6;have d7:=N.cell 7;have d8:=N.cell 8;have f0:=N.frozen 0;have f1:=N.frozen 1;have f2:=N.frozen 2;have f3:=N.frozen 3;have f4:=N.frozen 4;have f5:=N.frozen 5;have f6:=N.frozen 6;have f7:=N.frozen 7;have f8:=N.frozen 8
   have P5:=putL_all (Z:=[.slice none 0 0,.slice none 0 0,.slice none 0 0,.bool false,.int .i64 0,.slice none 0 0,.slice none 0 0,.slice none 0 0,.bool false]) N (l:=[.slice k1 m1 l1,.slice k2 m2 l2,.slice k3 m3 l3,.bool y.au,.int .i64 y.pa,.slice a4 q.ps.length c4,.slice a5 q.fs.length c5,.slice none 0 0,.bool y.nc]) rfl;have HE:=one_put [.slice k1 m1 l1,.slice k2 m2 l2,.slice k3 m3 l3,.bool y.au,.int .i64 y.pa,.slice a4 q.ps.length c4,.slice a5 q.fs.length c5,.slice none 0 0,.bool y.nc] N rfl G hzw (Kept.both n1 n2) (.inr rfl);simp only[putL]at P5 HE
   have B5:=B.fr P5.2 (by omega);simp only[SG]at d0 d1 d2 d3 d4 d5 d6 d7 d8
   replace HE:=Hi HE;replace P5:=Hi P5;refine wpAnyH_ready (rs:=[35]) (by kernel_rfl) (by simp) ?_;refine AllReadyH.cons (o:=_) rfl (fun KK hKK=>?_) AllReadyH.nil;go_simp
   refine hKK.out _ _ ?_ (fun hHeld=>?_)
   ·with_reducible exact B5.cell
   clear hKK KK;(try simp only[Act.put,SK,SS]);refine wpAnyH_done (by kernel_rfl) ?_ _;refine NoPanic.normal ?_;clear d0 d1 d2 d3 d4 d5 d6 d7 d8 f0 f1 f2 f3 f4 f5 f6 f7 f8;go_wp2_with fail
   go_meet
   with_reducible exact⟨zN,_,_,_,_,rfl,hzw,HE.out.1,HE.out.2.1,HE.out.2.2⟩
 case rest=>
  obtain⟨z3,a4,c4,a5,c5,rfl,hz3,B3,hk3,F3⟩:=hcut
  have HK3:=Hi hk3;have HF3:=Hi (HF00.out.trans F3);have HB3:=Hi B3;have HZ3:=Hi hz3;have HB1:=Hi (HBB.out.fr F3 (fun h=>h));have HB2:=Hi (HDD.out.fr F3 (fun h=>h));have HWS:=Hi (show wb.heap.size≤z3∧z3<wc.heap.size∧z+1<z3∧w.heap.size=z∧wb.heap.size≤w.heap.size from ⟨by omega,B3.lt,by have:=HS0.out;have:=HZ.out;omega,HZ.out.symm,HFB.out.size⟩);clear hk3 F3 B3 hz3 H1 H2 hwb0 B D cm1 cm2 cm3 gm1 gm2 gm3 pm1 pm2 pm3;go_wp2_with fail
  go_loopg [4] y.pu.length (fun m i wr=>∃ (j:Nat) (a:Option Addr) (c:Nat) (gs:List (List Int)),m=y.pu.length-j∧j≤y.pu.length∧j≤6∧i=.int .i64 j∧gs.length=j∧Hid (gs=(y.pu.take j).map (·.take 40))∧GRow 1 ROid (fun k=>wb.heap.size≤k∧k<wc.heap.size) 27 wr wc.heap.size (.slice a gs.length c) gs∧Blk wr z3 95 #[.slice k1 m1 l1,.slice k2 m2 l2,.slice k3 m3 l3,.bool y.au,.int .i64 y.pa,.slice a4 q.ps.length c4,.slice a5 q.fs.length c5,.slice a gs.length c,.bool y.nc]∧Fr (fun k=>k=z3) wc wr)
  case atStart=>exact⟨0,none,0,[],rfl,Nat.zero_le _,by omega,rfl,rfl,Hi rfl,GRow.nil _ _ _ _ _ _,HB3.out,Fr.refl _⟩
  case round=>
   obtain⟨j,a,c,gs,hm,hj,hj6,rfl,hgl,HGS,hrow,BG,F⟩:=hrel
   have HM:=Hi hm;have HRW:=Hi hrow;have HF:=Hi F;have HGL:=Hi hgl;have HB:=Hi BG;have HGW:=Hi HWS.out.2.1;have HWR:=Hi (show Fz wb wr from (HFB.out.trans HF3.out).trans' F (fun i hi e=>by have:=HWS.out;omega));have HBR:=Hi (HB1.out.fr F (fun e=>by have:=HWS.out;omega));have i7:=HBR.out.cell 7;simp only[SG]at i7
   clear hm hrow BG;have hend:¬(j<y.pu.length∧j<6)→gs=(y.pu.take 6).map (·.take 40):=fun hn=>by
    rcases Nat.lt_or_ge j 6 with h6|h6
    ·rw[HGS.out,List.take_of_length_le (by omega),List.take_of_length_le (by omega)]
    ·rw[HGS.out,show j=6 by omega]
   have HEND:=Hi hend;clear hend;by_cases hjl:j<y.pu.length∧j<6
   ·obtain⟨hjl,h6⟩:=hjl
    obtain⟨x,hx⟩:∃ x,y.pu[j]? = some x:=⟨_,List.getElem?_eq_getElem hjl⟩
    obtain⟨bb,oo,cs,rfl,-,-,⟨u,rfl,hxi⟩,hg⟩:=LAt.get HPU.out hx
    obtain⟨ao,co,rfl,hc4,hm4,-⟩:=Ints.form hxi
    unfold maxLen at hm4;have g0:=hg 0 _ rfl;simp only[Nat.mul_one,Nat.add_zero]at g0
    obtain⟨mo,hmo⟩:∃ m:Nat,m=min x.length 40:=⟨_,rfl⟩
    have hml:(x.take 40).length=mo:=by rw[List.length_take,hmo,Nat.min_comm]
    have c1:min (x.length:Int) 40=(mo:Int):=by omega
    have c2:(mo:Int)≤(co:Int):=by omega
    have c3:(0:Int)≤(mo:Int):=by omega
    have r1:(0:Int)≤(j:Int):=by omega
    have r2:(j:Int)<(y.pu.length:Int):=by omega
    have r3:(j:Int)<6:=by omega
    have HXC:=Hi (show Ints wb (.slice ao mo co) (x.take 40) from Ints.cut hxi 40 mo hmo);have HKO:=Hi ((kept_old (R:=fun W=>Ints W (.slice ao mo co) (x.take 40)) (fun W f=>Vals.old HXC.out f) (HWR.out.mono (T:=fun k=>wb.heap.size≤k) (fun _ _ h=>h.elim)) (fun k=>(Value.slice a gs.length c).ownBlock=some k∨(wb.heap.size≤k∧k<wc.heap.size)) (fun k hk=>by
     have hq:=HRW.out.keep;rcases hk with hk|hk
     ·have:=(hq k hk).1;have:=HWS.out;omega
     ·exact hk.1)).imp (fun W h=>(⟨_,rfl,h⟩:ROid W [.slice ao mo co] (x.take 40))))
    have hlo:=World.block_lt_of_cell? wb _ g0;have HSX:=Hi (show ∀ W {T:Nat→Prop},Fr T wr W→(∀ k,T k→wc.heap.size≤k)→W.cell? ⟨z,7,none⟩=some (.slice (some ⟨bb,oo,none⟩) y.pu.length l6)∧W.cell? ⟨bb,oo+j,none⟩=some (.slice ao x.length co) from fun W T f hT=>⟨f.cell i7 (fun h=>by have h2:wc.heap.size≤z:=hT _ h;have:=HWS.out;omega),f.cell (HWR.out.cell g0 (fun h=>h)) (fun h=>by have h2:wc.heap.size≤bb:=hT _ h;have h3:bb<wb.heap.size:=hlo;have:=HWS.out;omega)⟩)
    have HSS:=Hi (show ∀ W,Fz wr W→W.cell? ⟨z3,7,none⟩=some (.slice a gs.length c)∧W.cell? ⟨z,7,none⟩=some (.slice (some ⟨bb,oo,none⟩) y.pu.length l6)∧W.cell? ⟨bb,oo+j,none⟩=some (.slice ao x.length co) from fun W f=>⟨f.cell (HB.out.cell 7) (fun h=>h),HSX.out W f (fun _ h=>h.elim)⟩);have HX:=Hi (fewOid_take hx);clear hx hxi hg g0 hlo F hgl hmo hml hc4 hm4;go_upto_region 5 with fail
    clear i7;refine wp_region_N 17 (S:=fun w'=>w'.cell? ⟨z3,7,none⟩=some (.slice a gs.length c)∧w'.cell? ⟨z,7,none⟩=some (.slice (some ⟨bb,oo,none⟩) y.pu.length l6)∧w'.cell? ⟨bb,oo+j,none⟩=some (.slice ao x.length co)) (by kernel_rfl) ?_ (fun hHeld=>?_)
    ·exact HSS.out _ (Fr.refl (S:=fun _=>False) wr).drew
    refine tkN 0 rfl hHeld ?_;refine tkN 1 rfl hHeld ?_;refine tkN 2 rfl hHeld ?_;(try simp only[Act.put,SK,SS]);refine tkN 3 rfl hHeld ?_;refine tkN 4 rfl hHeld ?_;refine tkN 5 rfl hHeld ?_;(try simp only[Act.put,SK,SS]);refine tkN 6 rfl hHeld ?_;refine tkN 7 rfl hHeld ?_;refine tkN 8 rfl hHeld ?_;(try simp only[Act.put,SK,SS]);refine tkN 9 rfl hHeld ?_;refine tkN 10 rfl hHeld ?_;refine tkN 11 rfl hHeld ?_;(try simp only[Act.put,SK,SS]);refine tkN 12 rfl hHeld ?_;refine tkN 13 rfl hHeld ?_;refine tkN 14 rfl hHeld ?_;(try simp only[Act.put,SK,SS])
    obtain⟨a7,c7,w7,hrun,hrow7,F7,-⟩:=(HRW.out.old ((Fr.refl (S:=fun _=>False) wr).drew)).add (s:=83) Tryz.underlying83 infw27 rfl (by decide) (by decide) (by have:=HF.out.size;exact this) ((Fr.refl wr.drew).alloc (.cells #[.slice ao mo co] 27)) wr.drew.heap.size [.slice ao mo co] rfl (Blk.new wr.drew 27 #[.slice ao mo co]) (by simp[Value.oneCell']) (x.take 40) (HKO.out.old (Fr.refl (S:=fun _=>False) wr).drew) (by have:=HGL.out;omega)
    have hk7:=HRW.out.keep;have hk8:=hrow7.keep;have F7w:=(((Fr.refl (S:=fun _=>False) wr).drew).mono (T:=fun k=>(Value.slice a gs.length c).ownBlock=some k) (fun _ _ h=>h.elim)).trans F7;have B7:=HB.out.fr F7w (fun e=>by have:=(hk7 _ e).1;have:=HGW.out;omega);have z0:=B7.cell 7;have f0:=B7.frozen 7;have z0s:w7.cell? ⟨z3,7,none⟩=some (.slice a gs.length c):=z0;have HRUN:=Hi hrun;have HS7:=Hi (HSX.out _ F7w (fun k hk=>(hk7 k hk).1));refine wpAnyN_step (i:=15) (by kernel_rfl) (o:=_) rfl (fun KK hKK=>?_);go_simp
    skip
    refine hKK.out _ _ ?_ (fun hHeld=>?_)
    ·exact HSS.out _ (((Fr.refl (S:=fun _=>False) wr).drew).alloc _)
    clear hKK KK;(try simp only[Act.put,SK,SS]);refine wpAnyN_step (i:=16) (by kernel_rfl) (o:=_) rfl (fun KK hKK=>?_);refine step_append_run (by rfl) (.tmp 51) (.tmp 65) 83 (by rfl) _ w7 (by exact HRUN.out) ?_;refine hKK.out _ _ ?_ (fun hHeld=>?_)
    ·exact⟨z0s,HS7.out⟩
    clear hKK KK;(try simp only[Act.put,SK,SS]);refine wpAnyN_last (i:=17) (by kernel_rfl) (by decide) (o:=_) rfl (fun KK hKK=>?_);go_simp
    skip
    refine hKK.out _ _ ?_;clear hKK KK;(try simp only[Act.put,SK,SS]);refine wpAnyN_last (i:=18) (by kernel_rfl) (by decide) (o:=_) rfl (fun KK hKK=>?_);go_simp
    skip
    refine hKK.out _ _ ?_;clear hKK KK;(try simp only[Act.put,SK,SS]);refine wpAnyN_done (by kernel_rfl) ?_ _;have B8:Blk (w7.setCell ⟨z3,7,none⟩ (.slice a7 (gs.length+1) c7)) z3 95 #[.slice k1 m1 l1,.slice k2 m2 l2,.slice k3 m3 l3,.bool y.au,.int .i64 y.pa,.slice a4 q.ps.length c4,.slice a5 q.fs.length c5,.slice a7 (gs.length+1) c7,.bool y.nc]:=B7.set 7 _;have F8:Fr (fun k=>k=z3) w7 (w7.setCell ⟨z3,7,none⟩ (.slice a7 (gs.length+1) c7)):=Fr.setCell (S:=fun k=>k=z3) (p:=⟨z3,7,none⟩) (Fr.refl w7) (fun _=>rfl) _
    have R8:=hrow7.fr F8 (fun k _ e=>by have:=HGW.out;have e2:k=z3:=e;have h2:=HWS.out;show wb.heap.size≤k∧k<wc.heap.size;omega) (fun k hk e=>by have:=(hk8 k hk).1;have e2:k=z3:=e;have:=HGW.out;omega);have HR8:=Hi R8;have HB8:=Hi B8;have HF8:=Hi ((HF.out.trans' F7w (fun i hi e=>absurd hi (by have:=(hk7 i e).1;omega))).trans' F8 (fun i hi e=>e));clear B8 F8 R8 hk7 hk8 F7w B7 z0 z0s f0 hrun hrow7 F7;have HGS8:=Hi (show gs++[x.take 40]=(y.pu.take (j+1)).map (·.take 40) from by rw[HX.out,HGS.out]);go_wp2_with fail
    go_roundg (y.pu.length-(j+1))
    case measure=>rw[HM.out];omega
    case rel=>exact⟨j+1,a7,c7,gs++[x.take 40],rfl,by omega,by omega,by go_num,by rw[List.length_append,HGL.out];rfl,HGS8,by rw[List.length_append];exact HR8.out,by rw[List.length_append];exact HB8.out,HF8.out⟩
   ·have hgs:=HEND.out hjl
    have HG6:=Hi hgs;have q1:(decide ((j:Int)<(y.pu.length:Int))&&decide ((j:Int)<6))=false:=by
     rw[Bool.and_eq_false_iff]
     rcases Nat.lt_or_ge j y.pu.length with h1|h1
     ·exact .inr (decide_eq_false (by omega))
     ·exact .inl (decide_eq_false (by omega))
    have D:=HB2.out.fr F (fun e=>by have:=HWS.out;omega);have d0:=D.cell 0;have d1:=D.cell 1;have d2:=D.cell 2;have d3:=D.cell 3;have d4:=D.cell 4;have d5:=D.cell 5;have d6:=D.cell 6;have d7:=D.cell 7;have d8:=D.cell 8;have f0:=D.frozen 0;have f1:=D.frozen 1;have f2:=D.frozen 2;have f3:=D.frozen 3;have f4:=D.frozen 4;have f5:=D.frozen 5;have f6:=D.frozen 6;have f7:=D.frozen 7;have f8:=D.frozen 8
    have b0:=HB.out.cell 0;have b1:=HB.out.cell 1;have b2:=HB.out.cell 2;have b3:=HB.out.cell 3;have b4:=HB.out.cell 4;have b5:=HB.out.cell 5;have b6:=HB.out.cell 6;have b7:=HB.out.cell 7;have b8:=HB.out.cell 8;have D5:=putL_all (Z:=[.slice none 0 0,.slice none 0 0,.slice none 0 0,.bool false,.int .i64 0,.slice none 0 0,.slice none 0 0,.slice none 0 0,.bool false]) D (l:=[.slice k1 m1 l1,.slice k2 m2 l2,.slice k3 m3 l3,.bool y.au,.int .i64 y.pa,.slice a4 q.ps.length c4,.slice a5 q.fs.length c5,.slice a gs.length c,.bool y.nc]) rfl;simp only[putL]at D5
    simp only[SG]at d0 d1 d2 d3 d4 d5 d6 d7 d8 b0 b1 b2 b3 b4 b5 b6 b7 b8
    have hle:=HWS.out;have kv:=kept_old (R:=fun W=>Bytes W (.slice k1 m1 l1) q.kid∧Bytes W (.slice k2 m2 l2) q.ak∧Ints W (.slice k3 m3 l3) q.us) HV.out (HWR.out.mono (T:=fun k=>wb.heap.size≤k) (fun _ _ h=>h.elim)) (fun k=>(wb.heap.size≤k∧k<w0.heap.size)∨k=z3) (fun k hk=>by rcases hk with hk|hk;exact hk.1;omega);have kr:=HRW.out.kept (by decide) (fun k=>(wb.heap.size≤k∧k<w0.heap.size)∨k=z3) (fun k hk=>by have h5:=HZ3.out;rcases hk with hk|hk;exact⟨⟨hk.1,by omega⟩,by omega⟩;exact⟨⟨by omega,by omega⟩,by omega⟩)
    have k3_:=HK3.out.step F (K':=fun k=>(wb.heap.size≤k∧k<w0.heap.size)∨k=z3) (fun k _ e=>.inr e) (fun k hk=>.inl hk);have HK:=Hi ((Kept.both (Kept.both kv kr) k3_).step (K':=(fun k=>wb.heap.size≤k∧k<w.heap.size)) D5.2 (fun k hk e=>by have:=HS0.out;exact .inl ⟨by omega,by omega⟩) (fun k hk=>by have:=HS0.out;exact .inl (.inl ⟨hk.1,by omega⟩)));have HF5:=Hi (((HF3.out).trans' F (fun i hi e=>by omega)).trans' D5.2 (fun i hi e=>by omega))
    have n0:=D5.1.cell 0;have n1:=D5.1.cell 1;have n2:=D5.1.cell 2;have n3:=D5.1.cell 3;have n4:=D5.1.cell 4;have n5:=D5.1.cell 5;have n6:=D5.1.cell 6;have n7:=D5.1.cell 7;have n8:=D5.1.cell 8;simp only[SG]at n0 n1 n2 n3 n4 n5 n6 n7 n8
    clear D D5 hle F kv kr k3_ hgl hgs;have HG7:=Hi (show gs=q.pu from by rw[HG6.out,HQF.out.2.2.2.2.2]);have HLG:=Hi (show gs.length=q.pu.length from by rw[HG7.out]);have HOUT:=Hi (show ∀ W,(((Bytes W (.slice k1 m1 l1) q.kid∧Bytes W (.slice k2 m2 l2) q.ak∧Ints W (.slice k3 m3 l3) q.us)∧LAt 1 ROid W (.slice a gs.length c) gs)∧(Pts W (.slice a4 q.ps.length c4) q.ps∧Pts W (.slice a5 q.fs.length c5) q.fs))→ViewIn W (.slice k1 q.kid.length l1) (.slice k2 q.ak.length l2) (.slice k3 q.us.length l3) (.slice a4 q.ps.length c4) (.slice a5 q.fs.length c5) (.slice a q.pu.length c) q from fun W g=>by
     rw[Lm1.out,Lm2.out,Lm3.out,←HLG.out]
     exact⟨g.1.1.1,g.1.1.2.1,g.1.1.2.2,g.2.1,g.2.2,by rw[←HG7.out];exact g.1.2⟩)
    by_cases hjp:j<y.pu.length
    ·have h6:¬(j:Int)<6:=by omega
     have hjp2:(j:Int)<(y.pu.length:Int):=by omega
     clear hjl;go_wp2_with fail
     exact bodyPost_ret (v:=.agg #[.slice k1 m1 l1,.slice k2 m2 l2,.slice k3 m3 l3,.bool y.au,.int .i64 y.pa,.slice a4 q.ps.length c4,.slice a5 q.fs.length c5,.slice a gs.length c,.bool y.nc]) (by simp[results,Tryz.results20,go_sem,n0,n1,n2,n3,n4,n5,n6,n7,n8]) rfl ⟨⟨k1,l1,k2,l2,k3,l3,a4,c4,a5,c5,a,c,by rw[Lm1.out,Lm2.out,Lm3.out,←HLG.out,HQB.out.1,HQB.out.2.1,HQB.out.2.2],HK.out.imp HOUT.out⟩,HF5.out⟩
    ·have hjp2:¬(j:Int)<(y.pu.length:Int):=by omega
     clear hjl;go_wp2_with fail
     exact bodyPost_ret (v:=.agg #[.slice k1 m1 l1,.slice k2 m2 l2,.slice k3 m3 l3,.bool y.au,.int .i64 y.pa,.slice a4 q.ps.length c4,.slice a5 q.fs.length c5,.slice a gs.length c,.bool y.nc]) (by simp[results,Tryz.results20,go_sem,n0,n1,n2,n3,n4,n5,n6,n7,n8]) rfl ⟨⟨k1,l1,k2,l2,k3,l3,a4,c4,a5,c5,a,c,by rw[Lm1.out,Lm2.out,Lm3.out,←HLG.out,HQB.out.1,HQB.out.2.1,HQB.out.2.2],HK.out.imp HOUT.out⟩,HF5.out⟩
theorem scKnown_any (w:World)(hE:Env w) :
  Calls Tryz.prog 13 #[] w fun e w'=>e=.returned (.bool true)∧Fz w w':=by
 have HE:=Hi hE;have F0:Fz w (w.alloc (.cells #[str knT1] 9)):=(Fr.refl w).alloc _;have hst:Strs (w.alloc (.cells #[str knT1] 9)) (.slice (some ⟨w.heap.size,0,none⟩) 1 1) [knT1]:=Vals.of_block (Blk.new w 9 #[str knT1]) (by unfold maxLen;simp);have HNO:=Hi (nameOf_any _ [knT1] _ hst (hE.old F0) (fun k hk=>by rw[List.mem_singleton.1 hk];decide) (by simp));have HF0:=Hi F0;clear hE F0 hst;go_enter Tryz.func13,Tryz.ntmps13
 go_wp2_with fail
 refine HNO.out.mono ?_;rintro e w1 ⟨hout,F1⟩;unfold NameOfOut at hout;rw[scN_of]at hout
 obtain⟨vA,rfl,hA⟩:=hout
 have hAt:=hA.at;obtain⟨va,vc,rfl⟩:=hA.shape
 have HA:=Hi hAt;have HF1:=Hi (HF0.out.trans F1);have hst2:Strs (w1.alloc (.cells #[str knT5] 9)) (.slice (some ⟨w1.heap.size,0,none⟩) 1 1) [knT5]:=Vals.of_block (Blk.new w1 9 #[str knT5]) (by unfold maxLen;simp);have F2:Fz w1 (w1.alloc (.cells #[str knT5] 9)):=(Fr.refl w1).alloc _;have HNO2:=Hi (nameOf_any _ [knT5] _ hst2 ((HE.out.old HF1.out).old F2) (fun k hk=>by rw[List.mem_singleton.1 hk];decide) (by simp));have HF2:=Hi F2;clear hA hAt F1 F2 hst2 HNO;go_wp2_with fail
 refine HNO2.out.mono ?_;rintro e w3 ⟨hout,F3⟩;unfold NameOfOut at hout;rw[scO_of]at hout
 obtain⟨vB,rfl,hB⟩:=hout
 have hBt:=hB.at;obtain⟨vb,vd,rfl⟩:=hB.shape
 have HB:=Hi hBt;have HF3:=Hi (HF2.out.trans F3);clear hB hBt F3 HNO2;have HTV:=Hi (vwTo_any _ _ _ _ _ _ zView (cutView zView) rfl w3 w3 (zView_in w3) (Fr.refl w3));go_wp2_with fail
 refine HTV.out.mono ?_;rintro e w4 ⟨⟨k1,l1,k2,l2,k3,l3,a4,c4,a5,c5,a6,c6,rfl,hk⟩,F4⟩;have HV:=Hi hk.now;have HX4:=Hi F4;have HF4:=Hi (HF3.out.trans F4);clear hk F4 HTV;have HPT:=Hi (scPoints_any _ _ _ _ _ _ _ (cutView zView) scN w4 HV.out (HA.out.old HF4.out) scN_dir (fun p hp=>by cases hp) (by decide));go_wp2_with fail
 refine HPT.out.mono ?_;rintro e w5 ⟨⟨pa,pc,rfl,hp⟩,F5⟩;have hp1:Pts w5 (.slice pa 1 pc) [dirPt scN]:=hp;obtain⟨b,o,cs,rfl,-,-,hr,hx⟩:=LAt.get hp1 (i:=0) (x:=dirPt scN) rfl
 obtain⟨vp,vr,vi,rfl,hin⟩:=hr
 obtain⟨hpl,hrs,his⟩:=hin
 obtain⟨bq,qa,qc,qd,qe,rfl,hq1,hq2,hq3⟩:=hpl
 obtain⟨ra,rc,rfl,-⟩:=Ints.form hrs
 obtain⟨ia,ic,rfl⟩:=Gens.shape his
 have e0:=hx 0 _ rfl;have e1:=hx 1 _ rfl;have e2:=hx 2 _ rfl;simp only[Nat.zero_mul,Nat.add_zero]at e0 e1 e2
 have HPL:=Hi (show PlaceAt w5 (pt bq) (some (dirPl scN)) from ⟨bq,qa,qc,qd,qe,rfl,hq1,hq2,hq3⟩);have HX5:=Hi (HX4.out.trans F5);have HF5:=Hi (HF4.out.trans F5);have e1':w5.cell? ⟨b,o+1,none⟩=some (.slice ra 0 rc):=e1;have e2':w5.cell? ⟨b,o+2,none⟩=some (.slice ia 0 ic):=e2;clear hp hp1 hx hq1 hq2 hq3 hrs his F5 HPT e1 e2;go_upto_region 7 with fail
 have BA:=Blk.new w5 49 #[.slice va scN.length vc,.bool false,.pointer (some ⟨bq,0,none⟩),.slice ra 0 rc,.slice ia 0 ic];obtain⟨zq,hzq⟩:∃ z,z=w5.heap.size:=⟨_,rfl⟩
 rw[←hzq]at BA ⊢
 have HBA:=Hi BA;have HF6:=Hi ((Fr.refl (S:=fun _=>False) w5).alloc (.cells #[.slice va scN.length vc,.bool false,.pointer (some ⟨bq,0,none⟩),.slice ra 0 rc,.slice ia 0 ic] 49));clear hzq BA e0 e1' e2';generalize (w5.alloc (.cells #[.slice va scN.length vc,.bool false,.pointer (some ⟨bq,0,none⟩),.slice ra 0 rc,.slice ia 0 ic] 49))=w6 at *
 have HC1:=Hi (fun W (F:Fz w6 W)=>coversSame_any va vc bq ra rc ia ic va vc scN scN W (HA.out.old (HF5.out.trans (HF6.out.trans F))) (HA.out.old (HF5.out.trans (HF6.out.trans F))) (HPL.out.old (HF6.out.trans F)) scN_fewG scN_few scN_ok scN_ok (HE.out.old (HF1.out.trans (HF5.out.trans (HF6.out.trans F)))) sc_same)
 have HC2:=Hi (fun W (F:Fz w6 W)=>coversOther_any va vc bq ra rc ia ic vb vd scN scO W (HA.out.old (HF5.out.trans (HF6.out.trans F))) (HB.out.old (HX5.out.trans (HF6.out.trans F))) (HPL.out.old (HF6.out.trans F)) scN_fewG scO_few scN_ok scO_ok (HE.out.old (HF1.out.trans (HF5.out.trans (HF6.out.trans F)))) sc_other);have b0:=HBA.out.cell 0;have b1:=HBA.out.cell 1;have b2:=HBA.out.cell 2;have b3:=HBA.out.cell 3;have b4:=HBA.out.cell 4;simp only[SG]at b0 b1 b2 b3 b4
 go_wp2_with fail
 refine(HC1.out _ (Fr.refl w6)).mono ?_
 rintro e w7 ⟨rfl,F7⟩;clear b0 b1 b2 b3 b4;have b0:=(HBA.out.fr F7 (fun h=>h)).cell 0;have b1:=(HBA.out.fr F7 (fun h=>h)).cell 1;have b2:=(HBA.out.fr F7 (fun h=>h)).cell 2;have b3:=(HBA.out.fr F7 (fun h=>h)).cell 3;have b4:=(HBA.out.fr F7 (fun h=>h)).cell 4;simp only[SG]at b0 b1 b2 b3 b4
 have HF7:=Hi F7;clear F7 HC1;go_wp2_with fail
 refine(HC2.out _ HF7.out).mono ?_
 rintro e w8 ⟨rfl,F8⟩;have HF8:=Hi (HF1.out.trans (HF5.out.trans (HF6.out.trans (HF7.out.trans F8))));clear b0 b1 b2 b3 b4 F8 HC2;go_wp2_with fail
 go_ret;exact⟨rfl,HF8.out⟩
end Go.Proofs.YteidmhkobmddiaaGreatDoor
