/- Layer 5 of the program, walked: a word, decoded. First: a mask, out of how it is told, at any six bits. -/
import Derived.Test.YtdjdbgilimjagaaDoorCodeJ
set_option linter.unusedVariables false
set_option linter.unusedSimpArgs false
namespace Go.Proofs.YtdjdbgilimjagaaDoor
open Go.RowKit
set_option maxRecDepth 100000

theorem sizeS_is (s : Int) : sizeS s = 2 ∨ sizeS s = 4 ∨ sizeS s = 8 ∨ sizeS s = 16 ∨ sizeS s = 32 := by
  unfold sizeS
  by_cases h1 : 60 ≤ s
  · simp [h1]
  · by_cases h2 : 56 ≤ s
    · simp [h1, h2]
    · by_cases h3 : 48 ≤ s
      · simp [h1, h2, h3]
      · by_cases h4 : 32 ≤ s <;> simp [h1, h2, h3, h4]
theorem sizeS_ok (s : Int) : (2 ≤ sizeS s ∧ sizeS s ≤ 32 ∧ -64 ≤ frontI (sizeS s) ∧ frontI (sizeS s) ≤ 60) ∧ (sizeS s = 2 ∨ sizeS s = 4 ∨ sizeS s = 8 ∨ sizeS s = 16 ∨ sizeS s = 32 ∨ sizeS s = 64) := by
  rcases sizeS_is s with h | h | h | h | h <;> rw [h] <;> decide
theorem rot_lt (v k sz : Nat) (h : sz ≤ 64) : rotN v k sz < 18446744073709551616 := by
  have h1 : rotN v k sz < 2 ^ sz := Nat.mod_lt _ (pow_pos2 sz)
  have h2 : (2 : Nat) ^ sz ≤ 2 ^ 64 := Nat.pow_le_pow_right (by decide) h
  omega
theorem low_le (o sz : Nat) (h : o ≤ sz) : ((lowN 18446744073709551615 o : Nat) : Int) < ((2 ^ sz : Nat) : Int) := by
  have h1 := low_lt 18446744073709551615 o
  have h2 : (2 : Nat) ^ o ≤ 2 ^ sz := Nat.pow_le_pow_right (by decide) h
  omega
theorem decM_any (n r s : Int) (w : World) (hn : n = 0 ∨ n = 1) (hr0 : 0 ≤ r) (hr1 : r < 64) (hs0 : 0 ≤ s) (hs1 : s < 64) :
    Calls Tryd.prog 88 #[.int .i64 n, .int .i64 r, .int .i64 s] w fun e w' => e = .returned (.tuple #[.int .u64 ((decM n r s).1 : Nat), .int .i64 (decM n r s).2]) ∧ Below w.heap.size w w' := by
  have hg : ¬ (n < 0 ∨ r < 0 ∨ s < 0 ∨ n > 1 ∨ r ≥ 64 ∨ s ≥ 64) := by omega
  unfold decM
  rw [if_neg hg]
  rcases hn with rfl | rfl
  · obtain ⟨⟨a1, a2, a3, a4⟩, a5⟩ := sizeS_ok s
    rw [if_pos rfl]
    by_cases hb : s - frontI (sizeS s) + 1 < 1 ∨ s - frontI (sizeS s) + 1 ≥ sizeS s ∨ r ≥ sizeS s
    · rw [if_pos hb]
      exact decM_no0 r s w hr0 hr1 hs0 hs1 _ _ (Lib.hid rfl) (Lib.hid rfl) a1 (by omega) a3 a4 (Lib.hid (by omega))
    · rw [if_neg hb]
      have ho : min (s - frontI (sizeS s) + 1).toNat 64 = (s - frontI (sizeS s) + 1).toNat := by omega
      have := decM_yes0 r s w hr0 hr1 hs0 hs1 _ _ (Lib.hid rfl) (Lib.hid rfl) a1 (by omega) _ rfl (by omega) (by omega) (by omega) (Lib.hid a5) _ (Lib.hid rfl) (Lib.hid (low_le _ _ (by omega))) (rot_lt _ _ _ (by omega))
      rw [ho] at this
      exact this
  · rw [if_neg (show ¬ ((1 : Int) = 0) by decide)]
    by_cases hb : s - frontI 64 + 1 < 1 ∨ s - frontI 64 + 1 ≥ 64 ∨ r ≥ 64
    · rw [if_pos hb]
      have hf : frontI 64 = 0 := by decide
      rw [hf] at hb
      have hs : s = 63 := by omega
      subst hs
      exact decM_no1 r w hr0 hr1 (Lib.hid hf)
    · rw [if_neg hb]
      have hf : frontI 64 = 0 := by decide
      have ho : min (s - frontI 64 + 1).toNat 64 = (s - frontI 64 + 1).toNat := by omega
      have := decM_yes1 r s w hr0 hr1 hs0 hs1 _ (by omega) (by omega) (Lib.hid rfl) _ rfl (by omega) (by omega) _ (Lib.hid rfl) (rot_lt _ _ _ (by omega))
      rw [ho] at this
      exact this
end Go.Proofs.YtdjdbgilimjagaaDoor
