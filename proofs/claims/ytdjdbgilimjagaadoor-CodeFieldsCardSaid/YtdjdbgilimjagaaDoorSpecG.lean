/- Plain laws: a bit of a word that is turned, and the places of fields. No condition. -/
import Derived.Test.YtdjdbgilimjagaaDoorSpecF
set_option linter.unusedVariables false
set_option linter.unusedSimpArgs false
namespace Go.Proofs.YtdjdbgilimjagaaDoor
open Go.RowKit

/-- A word, one bit turned. -/
def flipN (x a : Nat) : Nat := if fieldN x a 1 = 1 then x - 2 ^ a else x + 2 ^ a
theorem flip_bit (x a j : Nat) : (flipN x a).testBit j = if j = a then !x.testBit a else x.testBit j := by
  have hp : 0 < (2 : Nat) ^ a := pow_pos2 a
  obtain ⟨q, r, hr, hx⟩ : ∃ q r, r < 2 ^ a ∧ x = 2 ^ a * q + r := ⟨x / 2 ^ a, x % 2 ^ a, Nat.mod_lt _ hp, (Nat.div_add_mod x (2 ^ a)).symm⟩
  have hf : fieldN x a 1 = q % 2 := by
    unfold fieldN
    rw [hx, Nat.mul_add_div hp, Nat.div_eq_of_lt hr, Nat.add_zero]
  have key : ∀ j, x.testBit j = if j < a then r.testBit j else q.testBit (j - a) := fun j => by
    rw [hx, Nat.testBit_two_pow_mul_add _ hr]
  have ha : x.testBit a = decide (q % 2 = 1) := by
    rw [key, if_neg (Nat.lt_irrefl a), Nat.sub_self, Nat.testBit_zero]
  unfold flipN
  rw [hf, ha]
  by_cases h1 : q % 2 = 1
  · rw [if_pos h1, decide_eq_true h1]
    have e : x - 2 ^ a = 2 ^ a * (q - 1) + r := by
      obtain ⟨m, rfl⟩ : ∃ m, q = m + 1 := ⟨q - 1, by omega⟩
      rw [hx, Nat.mul_add, Nat.mul_one, Nat.add_sub_cancel]
      omega
    rw [e, Nat.testBit_two_pow_mul_add _ hr]
    by_cases hj : j = a
    · subst hj
      rw [if_neg (Nat.lt_irrefl j), if_pos rfl, Nat.sub_self, Nat.testBit_zero]
      simp; omega
    · rw [if_neg hj, key]
      by_cases hl : j < a
      · rw [if_pos hl, if_pos hl]
      · rw [if_neg hl, if_neg hl]
        obtain ⟨m, hm⟩ : ∃ m, j - a = m + 1 := ⟨j - a - 1, by omega⟩
        rw [hm, Nat.testBit_succ, Nat.testBit_succ, show (q - 1) / 2 = q / 2 from by omega]
  · rw [if_neg h1, decide_eq_false h1]
    have e : x + 2 ^ a = 2 ^ a * (q + 1) + r := by
      rw [hx, Nat.mul_add, Nat.mul_one]; omega
    rw [e, Nat.testBit_two_pow_mul_add _ hr]
    by_cases hj : j = a
    · subst hj
      rw [if_neg (Nat.lt_irrefl j), if_pos rfl, Nat.sub_self, Nat.testBit_zero]
      simp; omega
    · rw [if_neg hj, key]
      by_cases hl : j < a
      · rw [if_pos hl, if_pos hl]
      · rw [if_neg hl, if_neg hl]
        obtain ⟨m, hm⟩ : ∃ m, j - a = m + 1 := ⟨j - a - 1, by omega⟩
        rw [hm, Nat.testBit_succ, Nat.testBit_succ, show (q + 1) / 2 = q / 2 from by omega]
theorem flip_lt (x a : Nat) (hx : x < 4294967296) (ha : a < 32) : flipN x a < 4294967296 := by
  apply Nat.lt_pow_two_of_testBit (n := 32)
  intro i hi
  rw [flip_bit, if_neg (by omega)]
  exact Nat.testBit_lt_two_pow (Nat.lt_of_lt_of_le hx (Nat.pow_le_pow_right (n := 2) (i := 32) (by decide) hi))

/-- The places of a shape's fields, by the document. -/
def placesL (s : Int) : List (Int × Int) :=
  if s = 1 then [(0, 5), (5, 16), (21, 2)]
  else if s = 2 then [(0, 5), (5, 5), (10, 12), (22, 1)]
  else if s = 3 then [(0, 5), (5, 5), (10, 6), (16, 6), (22, 1)]
  else if s = 4 then [(0, 5), (5, 5), (10, 6), (16, 5), (22, 2)]
  else if s = 5 then [(0, 5), (5, 5), (10, 6), (16, 5), (22, 2)]
  else if s = 6 then [(0, 5), (5, 5), (10, 5), (16, 5)]
  else if s = 7 then [(0, 5), (5, 5), (10, 12)]
  else if s = 8 then [(0, 5), (5, 5), (10, 12)]
  else if s = 9 then [(0, 5), (5, 19)]
  else if s = 10 then [(0, 5), (5, 19), (29, 2)]
  else if s = 11 then [(0, 26)]
  else if s = 12 then [(0, 4), (5, 19)]
  else if s = 13 then [(5, 5)]
  else if s = 14 then [(5, 16)]
  else if s = 16 then [(0, 5), (5, 5), (12, 4), (16, 5)]
  else []
def inP (a : Int) (p : Int × Int) : Bool := decide (p.1 ≤ a) && decide (a < p.1 + p.2)
def inB (a : Int) (L : List (Int × Int)) : Bool := L.any (inP a)
theorem places_bits : (List.range 17).all (fun s => (List.range 32).all fun a => inB (a : Int) (placesL (s : Int)) == (takenN (onesOf (s : Int))).testBit a) = true := by decide +kernel
theorem place_bit (s : Int) (a : Nat) (h0 : 0 ≤ s) (h1 : s ≤ 16) (ha : a < 32) : inB (a : Int) (placesL s) = (takenN (onesOf s)).testBit a := by
  have h := List.all_eq_true.1 (List.all_eq_true.1 places_bits s.toNat (List.mem_range.2 (by omega))) a (List.mem_range.2 ha)
  rw [Int.toNat_of_nonneg h0, beq_iff_eq] at h
  exact h
theorem places_bd : (List.range 17).all (fun s => (placesL (s : Int)).all fun p => decide (0 ≤ p.1) && decide (p.1 ≤ 31) && decide (0 ≤ p.2) && decide (p.2 ≤ 32)) = true := by decide +kernel
theorem place_bd (s : Int) (h0 : 0 ≤ s) (h1 : s ≤ 16) (p : Int × Int) (hp : p ∈ placesL s) : 0 ≤ p.1 ∧ p.1 ≤ 31 ∧ 0 ≤ p.2 ∧ p.2 ≤ 32 := by
  have h := List.all_eq_true.1 (List.all_eq_true.1 places_bd s.toNat (List.mem_range.2 (by omega))) p (by rw [Int.toNat_of_nonneg h0]; exact hp)
  simp only [Bool.and_eq_true, decide_eq_true_eq] at h
  omega
/-- A bit of a field that is turned makes no other operation; another one does, or none. -/
theorem flip_op (x a k : Nat) (hx : x < 4294967296) (ha : a < 32) (h1 : 1 ≤ k) (hk : k ≤ 39) (hop : opOf x = (k : Int)) :
    (inB (a : Int) (placesL (shapeI k)) = true → opOf (flipN x a) = (k : Int)) ∧ (inB (a : Int) (placesL (shapeI k)) = false → opOf (flipN x a) ≠ (k : Int)) := by
  have hs := shapeI_bd (k : Int)
  have hm : matchB (x : Int) (k : Int) = true := by
    rcases op_spec x with ⟨h0, _⟩ | ⟨j, _, _, hj, hm⟩
    · rw [hop] at h0; omega
    · rw [hop] at hj
      have : j = k := by omega
      subst this; exact hm
  rw [match_iff x k h1 hk, decide_eq_true_eq] at hm
  have hT := ones_lt _ hs.1 hs.2
  rw [place_bit _ a hs.1 hs.2 ha]
  constructor
  · intro hb
    refine op_at _ k h1 hk ?_
    rw [match_iff _ k h1 hk, decide_eq_true_eq, ← hm]
    apply Nat.eq_of_testBit_eq
    intro i
    rw [Nat.testBit_and, Nat.testBit_and, compl_bit _ hT, flip_bit]
    by_cases hi : i = a
    · subst hi; rw [hb]; simp
    · rw [if_neg hi]
  · intro hb e
    have hm2 : matchB (flipN x a : Int) (k : Int) = true := by
      rcases op_spec (flipN x a) with ⟨h0, _⟩ | ⟨j, _, _, hj, hm3⟩
      · rw [e] at h0; omega
      · rw [e] at hj
        have : j = k := by omega
        subst this; exact hm3
    rw [match_iff _ k h1 hk, decide_eq_true_eq, ← hm] at hm2
    have hbit := congrArg (fun y => y.testBit a) hm2
    simp only [Nat.testBit_and, compl_bit _ hT, flip_bit, if_true, hb, ha, decide_true, Bool.not_false, Bool.and_true] at hbit
    cases x.testBit a <;> simp at hbit
end Go.Proofs.YtdjdbgilimjagaaDoor
