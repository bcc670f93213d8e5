/-
  CacheNil answers true whatever it is given, and leaves its argument as it was. No condition.
-/
import Derived.Test.YtjcjebmlibllbaaCaKeys
import Derived.Test.YtjcjebmlibllbaaCaKnown
import Derived.Test.YtjcjebmlibllbaaCaAct
import Derived.OpenShut
import Derived.ShutString
import Derived.ChangeOld
namespace Go.Proofs.Ytjcjebmlibllbaa
open Go Go.RowKit Go.Q Go.ChangeShapes Go.WideShapes Go.ChangeAt

set_option maxHeartbeats 1000000 in
theorem put_nil (key : ByteArray) (s a b c f t : Int) (w : World) : Calls Try.prog 9 #[.pointer none, .string key, .agg #[.int .i64 s, .int .i64 a, .int .i64 b, .int .i64 c], .agg #[.int .i64 f, .int .i64 t]] w fun e w' => e = .returned (.int .i64 17) ∧ Fr (fun _ => False) w w' := by
  go_enter Try.func9, Try.ntmps9
  go_wp2
  go_ret
  exact ⟨rfl, ((Fr.refl w).alloc _).alloc _⟩

set_option maxHeartbeats 1000000 in
theorem get_nil (key : ByteArray) (n : Int) (w : World) : Calls Try.prog 11 #[.pointer none, .string key, .int .i64 n] w fun e w' => e = .returned (told none) ∧ Fr (fun _ => False) w w' := by
  go_enter Try.func11, Try.ntmps11
  go_wp2
  exact bodyPost_ret (v := told none) (by simp [results, Try.results11, go_sem, told]) rfl ⟨rfl, (Fr.refl w).alloc _⟩

set_option maxHeartbeats 1000000 in
theorem next_nil (_u : Unit) (w : World) : Calls Try.prog 19 #[.pointer none] w fun e w' => e = .returned (.tuple #[.int .i64 0, .bool false]) ∧ Fr (fun _ => False) w w' := by
  go_enter Try.func19, Try.ntmps19
  go_wp2_with (go_at_call 29; refine (each_nil _ _).mono ?_; rintro e w' ⟨rfl, rfl⟩)
  go_quiet (fail)
  go_wp2
  go_ret2
  exact ⟨rfl, (((Fr.refl w).alloc _).alloc _).drewN nq⟩

set_option maxHeartbeats 1000000 in
theorem clear_nil (_u : Unit) (w : World) : Calls Try.prog 21 #[.pointer none] w fun e w' => e = .returned (.tuple #[]) ∧ Fr (fun _ => False) w w' := by
  go_enter Try.func21, Try.ntmps21
  go_wp2
  go_end0
  exact ⟨rfl, Fr.refl w⟩

set_option maxHeartbeats 1000000 in
theorem tick_nil (n : Int) (w : World) : Calls Try.prog 22 #[.pointer none, .int .i64 n] w fun e w' => e = .returned (.int .i64 0) ∧ Fr (fun _ => False) w w' := by
  go_enter Try.func22, Try.ntmps22
  go_wp2_with (go_at_call 29; refine (each_nil _ _).mono ?_; rintro e w' ⟨rfl, rfl⟩)
  go_ret
  exact ⟨rfl, (((Fr.refl w).alloc _).alloc _).alloc _⟩

set_option maxHeartbeats 1000000 in
theorem drop_nil (v : Value) (w : World) : Calls Try.prog 16 #[.pointer none, v] w fun e w' => e = .returned (.int .i64 0) ∧ Fr (fun _ => False) w w' := by
  go_enter Try.func16, Try.ntmps16
  go_wp2
  go_ret
  exact ⟨rfl, Fr.refl w⟩

set_option maxHeartbeats 1000000 in
theorem len_nil (_u : Unit) (w : World) : Calls Try.prog 13 #[.pointer none] w fun e w' => e = .returned (.int .i64 0) ∧ Fr (fun _ => False) w w' := by
  go_enter Try.func13, Try.ntmps13
  go_wp2
  go_ret
  exact ⟨rfl, Fr.refl w⟩

set_option maxHeartbeats 1000000 in
theorem room_nil (_u : Unit) (w : World) : Calls Try.prog 18 #[.pointer none] w fun e w' => e = .returned (.int .i64 0) ∧ Fr (fun _ => False) w w' := by
  go_enter Try.func18, Try.ntmps18
  go_wp2
  go_ret
  exact ⟨rfl, Fr.refl w⟩

set_option maxHeartbeats 1000000 in
theorem keys_nil (_u : Unit) (w : World) : Calls Try.prog 15 #[.pointer none] w fun e w' => e = .returned (.slice none 0 0) ∧ Fr (fun _ => False) w w' := by
  go_enter Try.func15, Try.ntmps15
  go_wp2_with (go_at_call 29; refine (each_nil _ _).mono ?_; rintro e w' ⟨rfl, rfl⟩)
  go_ret
  exact ⟨rfl, (Fr.refl w).alloc _⟩

theorem status_fr (a b c d : Int) (w : World) : Calls Try.prog 10 #[.agg #[.int .i64 a, .int .i64 b, .int .i64 c, .int .i64 d]] w fun e w' =>
    e = .returned (.agg #[.int .i64 a, .int .i64 b, .int .i64 c, .int .i64 d]) ∧ Fr (fun _ => False) w w' :=
  (status_any a b c d w).mono fun e w' h => ⟨h.1, by rw [h.2]; exact ((Fr.refl w).alloc _).alloc _⟩

set_option maxRecDepth 100000 in
set_option maxHeartbeats 4000000 in
theorem nil_walk (a : Act) (w : World) : Calls Try.prog 7 #[.agg #[.int .i64 a.kind, .string a.s.key, .int .i64 a.s.k, .int .i64 a.s.date, .int .i64 a.s.reason, .int .i64 a.s.cause, .int .i64 a.s.fr, .int .i64 a.s.to, .int .i64 a.now, .slice a.ka a.kl a.kc]] w fun e w' => e = .returned (.bool true) ∧ Fr (fun _ => False) w w' := by
  obtain ⟨n, hn⟩ : ∃ n, n = w.heap.size := ⟨_, rfl⟩
  obtain ⟨W, hW⟩ : ∃ W, W = w.alloc (.cells #[.int .i64 a.kind, .string a.s.key, .int .i64 a.s.k, .int .i64 a.s.date, .int .i64 a.s.reason, .int .i64 a.s.cause, .int .i64 a.s.fr, .int .i64 a.s.to, .int .i64 a.now, .slice a.ka a.kl a.kc] 34) := ⟨_, rfl⟩
  have B : Blk W n 34 #[.int .i64 a.kind, .string a.s.key, .int .i64 a.s.k, .int .i64 a.s.date, .int .i64 a.s.reason, .int .i64 a.s.cause, .int .i64 a.s.fr, .int .i64 a.s.to, .int .i64 a.now, .slice a.ka a.kl a.kc] := by rw [hW, hn]; exact Blk.new w _ _
  have G : Fr (fun _ => False) w W := by rw [hW]; exact (Fr.refl w).alloc _
  have S := B.cell
  have lb := B.lt
  have hal := alloc_old
  have HW := Lib.hid hW
  have HN := Lib.hid hn
  rw [hW] at S lb
  clear hn hW
  go_enter Try.func7, Try.ntmps7
  rw [HN.out] at S lb
  go_wp2_with fail
  rw [← HW.out, ← HN.out]
  clear S lb HW HN
  refine (get_nil _ _ W).mono ?_
  rintro e w1 ⟨rfl, F1⟩
  replace B := B.fr F1 (fun h => h)
  replace G := G.trans F1
  have S := B.cell
  have lb := B.lt
  rw [show told none = .tuple #[.agg #[.int .i64 0, .int .i64 0, .int .i64 0, .int .i64 0], .bool false] from rfl]
  clear F1
  go_wp2_with fail
  obtain ⟨m, hm⟩ : ∃ m, m = w1.heap.size := ⟨_, rfl⟩
  have C : Blk (w1.alloc (.cells #[.int .i64 0, .int .i64 0, .int .i64 0, .int .i64 0] 37)) m 37 #[.int .i64 0, .int .i64 0, .int .i64 0, .int .i64 0] := by rw [hm]; exact Blk.new w1 _ _
  have F2 : Fr (fun _ => False) w1 (w1.alloc (.cells #[.int .i64 0, .int .i64 0, .int .i64 0, .int .i64 0] 37)) := (Fr.refl w1).alloc _
  replace B := B.fr F2 (fun h => h)
  replace G := G.trans F2
  rw [← hm]
  clear hm S lb F2
  generalize (w1.alloc (.cells #[.int .i64 0, .int .i64 0, .int .i64 0, .int .i64 0] 37)) = w2 at *
  go_wp2_with (first
    | (go_at_call 19; refine (next_nil () _).mono ?_; rintro e w' ⟨rfl, F⟩; replace B := B.fr F (fun h => h); replace G := G.trans F; have S := B.cell; have lb := B.lt; replace C := C.fr F (fun h => h); have T := C.cell; have lc := C.lt; clear F)
    | (go_at_call 21; refine (clear_nil () _).mono ?_; rintro e w' ⟨rfl, F⟩; replace B := B.fr F (fun h => h); replace G := G.trans F; have S := B.cell; have lb := B.lt; replace C := C.fr F (fun h => h); have T := C.cell; have lc := C.lt; clear F))
  simp only [List.append]
  replace B := B.drew
  replace C := C.drew
  replace G := G.drew
  go_region_held3 (fun w' => (∀ i, w'.cell? ⟨n, i, none⟩ = (#[.int .i64 a.kind, .string a.s.key, .int .i64 a.s.k, .int .i64 a.s.date, .int .i64 a.s.reason, .int .i64 a.s.cause, .int .i64 a.s.fr, .int .i64 a.s.to, .int .i64 a.now, .slice a.ka a.kl a.kc] : Array Value)[i]?) ∧ ∀ i, w'.cell? ⟨m, i, none⟩ = (#[.int .i64 0, .int .i64 0, .int .i64 0, .int .i64 0] : Array Value)[i]?) (first | exact ⟨B.cell, C.cell⟩ | exact ⟨(B.alloc _).cell, (C.alloc _).cell⟩) (first
    | (go_at_call 14; refine (known_any _).mono ?_; rintro e w' ⟨rfl, F⟩; replace B := B.fr F (fun h => h); replace G := G.trans F; have S := B.cell; have lb := B.lt; replace C := C.fr F (fun h => h); have T := C.cell; have lc := C.lt; clear F)
    | (go_at_call 10; refine (status_fr _ _ _ _ _).mono ?_; rintro e w' ⟨rfl, F⟩; replace B := B.fr F (fun h => h); replace G := G.trans F; have S := B.cell; have lb := B.lt; replace C := C.fr F (fun h => h); have T := C.cell; have lc := C.lt; clear F)
    | (go_at_call 9; refine (put_nil _ _ _ _ _ _ _ _).mono ?_; rintro e w' ⟨rfl, F⟩; replace B := B.fr F (fun h => h); replace G := G.trans F; have S := B.cell; have lb := B.lt; replace C := C.fr F (fun h => h); have T := C.cell; have lc := C.lt; clear F)
    | (go_at_call 22; refine (tick_nil _ _).mono ?_; rintro e w' ⟨rfl, F⟩; replace B := B.fr F (fun h => h); replace G := G.trans F; have S := B.cell; have lb := B.lt; replace C := C.fr F (fun h => h); have T := C.cell; have lc := C.lt; clear F)
    | (go_at_call 16; refine (drop_nil _ _).mono ?_; rintro e w' ⟨rfl, F⟩; replace B := (B.alloc _).fr F (fun h => h); replace G := (G.alloc _).trans F; have S := B.cell; have lb := B.lt; replace C := (C.alloc _).fr F (fun h => h); have T := C.cell; have lc := C.lt; clear F)
    | (go_at_call 13; refine (len_nil () _).mono ?_; rintro e w' ⟨rfl, F⟩; replace B := B.fr F (fun h => h); replace G := G.trans F; have S := B.cell; have lb := B.lt; replace C := C.fr F (fun h => h); have T := C.cell; have lc := C.lt; clear F)
    | (go_at_call 18; refine (room_nil () _).mono ?_; rintro e w' ⟨rfl, F⟩; replace B := B.fr F (fun h => h); replace G := G.trans F; have S := B.cell; have lb := B.lt; replace C := C.fr F (fun h => h); have T := C.cell; have lc := C.lt; clear F)
    | (go_at_call 15; refine (keys_nil () _).mono ?_; rintro e w' ⟨rfl, F⟩; replace B := B.fr F (fun h => h); replace G := G.trans F; have S := B.cell; have lb := B.lt; replace C := C.fr F (fun h => h); have T := C.cell; have lc := C.lt; clear F))
  clear S T lb lc
  go_wp2_with fail
  go_ret
  exact ⟨rfl, G⟩
end Go.Proofs.Ytjcjebmlibllbaa
