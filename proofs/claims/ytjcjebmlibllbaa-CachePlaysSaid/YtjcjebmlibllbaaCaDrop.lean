/-
  The walk of the cache's Drop.
-/
import Derived.Test.YtjcjebmlibllbaaCaUsesS
namespace Go.Q
open Go
/-- Drop: how many went, and what is kept. -/
def dropS : List Slot → List ByteArray → Nat × List Slot
  | L, [] => (0, L)
  | L, k :: ks => if (lookS k L).isSome then ((dropS (del k L) ks).1 + 1, (dropS (del k L) ks).2) else dropS L ks
end Go.Q
namespace Go.Proofs.Ytjcjebmlibllbaa
open Go Go.RowKit Go.Q

set_option maxHeartbeats 2000000 in
theorem drop_any (w : World) (c r m : Nat) (room : Int) (bs : List Nat) (D : Nat → Slot) (hC : CacheAt w c r m room bs D) (v : Value) (ks : List ByteArray) (hv : Strs w v ks) (hlen : ks.length ≤ 1000000) (hvb : ∀ k, v.ownBlock = some k → k ∉ c :: m :: r :: bs) :
    Calls Try.prog 16 #[pt c, v] w fun e w' =>
      ∃ bs', e = .returned (.int .i64 (dropS (bs.map D) ks).1) ∧ CacheAt w' c r m room bs' D ∧ bs'.map D = (dropS (bs.map D) ks).2 ∧ Fr (· ∈ c :: m :: r :: bs) w w' ∧ ∀ b ∈ bs', b ∈ bs := by
  obtain ⟨a, cap, rfl, hcap, hx⟩ := hv
  have HX := Lib.hid hx
  have HC := Lib.hid hC
  clear hx hC
  go_enter Try.func16, Try.ntmps16
  go_wp2_with fail
  go_loopg [5, 14] ks.length (fun g n i wr => ∃ (j cnt : Nat) (bs1 : List Nat), g = ks.length - j ∧ j ≤ ks.length ∧ i = .int .i64 j ∧ n = .int .i64 cnt ∧ cnt ≤ j ∧ CacheAt wr c r m room bs1 D ∧ (∀ b ∈ bs1, b ∈ bs) ∧
    Fr (· ∈ c :: m :: r :: bs) w wr ∧ cnt + (dropS (bs1.map D) (ks.drop j)).1 = (dropS (bs.map D) ks).1 ∧ (dropS (bs1.map D) (ks.drop j)).2 = (dropS (bs.map D) ks).2)
  case atStart => exact ⟨0, 0, bs, rfl, Nat.zero_le _, rfl, rfl, Nat.le_refl _, HC.out, fun _ h => h, Fr.refl _, by simp, by simp⟩
  case round =>
    obtain ⟨j, cnt, bs1, hg, hj, rfl, rfl, hcj, hC1, hsub, hF1, hd1, hd2⟩ := hrel
    have HD := Lib.hid (And.intro hd1 hd2)
    have HG := Lib.hid hg
    clear hd1 hd2 hg
    by_cases hjl : j < ks.length
    · obtain ⟨b0, o0, rfl, hxx⟩ := HX.out (by omega)
      have hcell := hF1.cell (hxx j hjl) (hvb b0 rfl)
      obtain ⟨k0, hk0⟩ : ∃ k0, k0 = ks.getD j ⟨#[]⟩ := ⟨_, rfl⟩
      have hdj : ks.drop j = k0 :: ks.drop (j + 1) := by
        rw [List.drop_eq_getElem_cons hjl, hk0]; simp [List.getD, hjl]
      rw [← hk0] at hcell
      have HDJ := Lib.hid hdj
      clear hk0 hdj hxx
      have hkn := keys_of hC1.map
      have ec := hC1.cc.cell 2
      simp at ec
      have q1 : (0 : Int) ≤ (j : Int) := by omega
      have q2 : (j : Int) < (ks.length : Int) := by omega
      rcases Classical.em (∃ b ∈ bs1, (D b).key = k0) with ⟨b, hb, hbk⟩ | hno
      · have hl := hC1.map.found (P := Try.prog) (K := 9) (t := 63) Try.underlying9 Try.underlying63 (k := k0) (v := pt b) (List.mem_map.2 ⟨b, hb, by simp [hbk]⟩) true
        simp only [if_true] at hl
        have hlk : lookS k0 (bs1.map D) = some (D b) := hbk ▸ lookS_map hkn hb
        have hE : (bs1.erase b).map D = del k0 (bs1.map D) := by rw [← hbk]; exact erase_map hkn hb
        have HL := Lib.hid (And.intro hlk hE)
        clear hlk hE hkn hbk
        go_wp2_with fail
        refine (gone_any wr c r m b room bs1 D hC1 hb).mono ?_
        rintro e w2 ⟨rfl, C2, F2⟩
        go_wp2_with fail
        go_roundg (ks.length - (j + 1))
        case measure => rw [HG.out]; omega
        case rel =>
          obtain ⟨d1, d2⟩ := HD.out
          rw [HDJ.out] at d1 d2
          simp only [dropS, HL.out.1, Option.isSome_some, if_true] at d1 d2
          rw [← HL.out.2] at d1 d2
          refine ⟨j + 1, cnt + 1, bs1.erase b, rfl, by omega, by go_num, by go_num, by omega, C2, fun x hx => hsub x (List.mem_of_mem_erase hx), hF1.trans (F2.mono (fun i _ hi => ?_)), by omega, d2⟩
          simp only [List.mem_cons] at hi ⊢
          rcases hi with h | h | h | h
          · exact .inl h
          · exact .inr (.inl h)
          · exact .inr (.inr (.inl h))
          · exact .inr (.inr (.inr (hsub _ h)))
      · have hl := hC1.map.missing (P := Try.prog) (K := 9) (E := 61) (t := 63) Try.underlying9 Try.underlying63 zero_ptr (k := k0) (by
          intro hm
          obtain ⟨p, hp, hpk⟩ := List.mem_map.1 hm
          obtain ⟨b, hb, rfl⟩ := List.mem_map.1 hp
          exact hno ⟨b, hb, hpk⟩) true
        simp only [if_true] at hl
        have hlk : lookS k0 (bs1.map D) = none := lookS_none (fun s hs e => by
          obtain ⟨b, hb, rfl⟩ := List.mem_map.1 hs
          exact hno ⟨b, hb, e⟩)
        have HL := Lib.hid hlk
        clear hlk hno hkn
        go_wp2_with fail
        go_roundg (ks.length - (j + 1))
        case measure => rw [HG.out]; omega
        case rel =>
          obtain ⟨d1, d2⟩ := HD.out
          rw [HDJ.out] at d1 d2
          simp only [dropS, HL.out, Option.isSome_none, Bool.false_eq_true, if_false] at d1 d2
          exact ⟨j + 1, cnt, bs1, rfl, by omega, by go_num, rfl, by omega, hC1, hsub, hF1, d1, d2⟩
    · go_wp2_with fail
      go_ret
      obtain ⟨d1, d2⟩ := HD.out
      have : ks.drop j = [] := List.drop_eq_nil_of_le (by omega)
      rw [this] at d1 d2
      simp only [dropS] at d1 d2
      exact ⟨bs1, by rw [← d1]; simp, hC1, d2, hF1, hsub⟩

/-- What an operation does to a cache that is away from K. -/
theorem drop_away {w : World} {c : Nat} {K : Nat → Prop} {room : Int} {L : List Slot} (h : Away w c K room L) {v : Value} {ks : List ByteArray} (hv : Strs w v ks) (hlen : ks.length ≤ 1000000) (hvb : ∀ k, v.ownBlock = some k → K k) :
    Calls Try.prog 16 #[pt c, v] w fun e w' => e = .returned (.int .i64 (dropS L ks).1) ∧ Away w' c K room (dropS L ks).2 ∧ Fr (fun k => ¬ K k) w w' := by
  obtain ⟨r, m, bs, D, hC, hk, rfl⟩ := h
  refine (drop_any w c r m room bs D hC v ks hv hlen (fun k hkv hm => hk k hm (hvb k hkv))).mono ?_
  rintro e w' ⟨bs', he, hC', hL', hF, hb⟩
  refine ⟨he, ⟨r, m, bs', D, hC', fun k hkm hK' => ?_, hL'⟩, hF.mono (fun i _ hi => hk i hi)⟩
  simp only [List.mem_cons] at hkm
  rcases hkm with rfl | rfl | rfl | hkm
  · exact hk _ (by simp) hK'
  · exact hk _ (by simp) hK'
  · exact hk _ (by simp) hK'
  · exact hk _ (by simp [hb k hkm]) hK'
end Go.Proofs.Ytjcjebmlibllbaa
