/- Layer 2 of the program, walked: a number is told as the plain function says; whether it is a mask; a mask made. Numbers are of their kinds; the library's table lies as it is laid. -/
import Derived.Test.YtdjdbgilimjagaaDoorMaskE
import Derived.Test.YtdjdbgilimjagaaDoorSpecB
set_option linter.unusedVariables false
set_option linter.unusedSimpArgs false
namespace Go.Proofs.YtdjdbgilimjagaaDoor
open Go.RowKit
set_option maxRecDepth 100000

theorem xor_all (y : Nat) (hy : y < 18446744073709551616) : 18446744073709551615 ^^^ y = 18446744073709551615 - y := by
  have h : (BitVec.allOnes 64 ^^^ BitVec.ofNat 64 y).toNat = (~~~ BitVec.ofNat 64 y).toNat := by rw [BitVec.allOnes_xor]
  rw [BitVec.toNat_xor, BitVec.toNat_not, BitVec.toNat_allOnes, BitVec.toNat_ofNat, Nat.mod_eq_of_lt (show y < 2 ^ 64 from hy)] at h
  exact h
theorem not_eq (x sz : Nat) : bits .xor .u64 IntKind.u64.max (IntKind.u64.wrap ((x : Int) * 2 ^ (64 - sz))) = ((notN x sz : Nat) : Int) := by
  rw [← cast_pow, ← Int.natCast_mul, u64w]
  have hm : IntKind.u64.max = ((18446744073709551615 : Nat) : Int) := rfl
  have hlt := Nat.mod_lt (x * 2 ^ (64 - sz)) (show 0 < 18446744073709551616 by decide)
  unfold notN
  generalize x * 2 ^ (64 - sz) % 18446744073709551616 = y at *
  rw [hm, u64_xor_nat _ _ (by decide) hlt]
  rw [xor_all y hlt]
theorem notN_lt (x sz : Nat) : notN x sz < 18446744073709551616 := by unfold notN; omega
theorem frontI_bd (s : Nat) (h : s ≤ 64) : -64 ≤ frontI (s : Int) ∧ frontI (s : Int) ≤ 64 := by unfold frontI; split <;> omega
theorem popN_lt (v : Nat) : popN v ≤ 127 := by unfold popN; omega
theorem pop_zero : popN 0 = 0 := by decide

theorem tell_any (v : Nat) (w : World) (h1 : v < 18446744073709551616) (hT : Tab w) :
    Calls Tryd.prog 68 #[.int .u64 v] w fun e w' => e = .returned (.agg #[.int .i64 (toldN v).1, .int .i64 (toldN v).2.1, .int .i64 (toldN v).2.2]) ∧ Below w.heap.size w w' := by
  have hin := size_in v
  unfold toldN
  generalize hsz : sizeN v = sz at *
  generalize hx : v % 2 ^ sz = x at *
  generalize hn : popN x = n at *
  unfold toldX
  by_cases ha : n = 0 ∨ n = sz
  · rw [if_pos ha]
    exact tell_a v w h1 (by rw [hsz, hx, hn]; exact ha)
  · rw [if_neg ha]
    have hn0 : n ≠ 0 := fun h => ha (.inl h)
    have hnz : n ≠ sz := fun h => ha (.inr h)
    have hx0 : x ≠ 0 := fun h => hn0 (by rw [← hn, h]; exact pop_zero)
    have hl : lowN v (min sz 64) = x := by rw [← hx]; unfold lowN; congr 2; omega
    have hxs : x < 2 ^ sz := by rw [← hx]; exact Nat.mod_lt _ (pow_pos2 _)
    have hx1 : x < 18446744073709551616 := Nat.lt_of_lt_of_le hxs (pow_le64 sz (by omega))
    have hxs2 : ((x : Int) < ((2 ^ (sz : Int).toNat : Nat) : Int)) := by rw [Int.toNat_natCast]; exact_mod_cast hxs
    have hsz3 : (sz : Int) = 2 ∨ (sz : Int) = 4 ∨ (sz : Int) = 8 ∨ (sz : Int) = 16 ∨ (sz : Int) = 32 ∨ (sz : Int) = 64 := by omega
    have hnl : n ≤ 127 := by rw [← hn]; exact popN_lt x
    have hb : ((n : Int) == 0) = false := beq_eq_false_iff_ne.2 (by omega)
    have hb2 : ((n : Int) == (sz : Int)) = false := beq_eq_false_iff_ne.2 (by omega)
    have hlow : lowN 18446744073709551615 (min n 64) ≠ 0 := by
      unfold lowN
      rcases (show min n 64 = 64 ∨ min n 64 < 64 from by omega) with h | h
      · rw [h]; decide
      · intro h0
        have hd : 2 ^ (min n 64) ∣ 18446744073709551616 := Nat.pow_dvd_pow 2 (show min n 64 ≤ 64 by omega)
        have hd2 : 2 ^ (min n 64) ∣ 18446744073709551615 := Nat.dvd_of_mod_eq_zero h0
        have hd3 := (Nat.dvd_add_right hd2).1 (show 2 ^ (min n 64) ∣ 18446744073709551615 + 1 from hd)
        have := Nat.le_of_dvd (by decide) hd3
        have hp : 2 ^ 1 ≤ 2 ^ (min n 64) := Nat.pow_le_pow_right (by decide) (by omega)
        omega
    have hf := frontI_bd sz (by omega)
    have hf2 : frontI (sz : Int) ≤ 60 := by unfold frontI; split <;> omega
    unfold kN
    have HN : Hid (n = popN x) := Lib.hid hn.symm
    have HL : Hid (lowN v (min sz 64) = x) := Lib.hid hl
    have HS : Hid (sz = sizeN v) := Lib.hid hsz.symm
    by_cases h0 : tzN x = 0
    · rw [if_pos h0]
      have hb3 : ((tzN x : Int) == 0) = true := beq_iff_eq.2 (by omega)
      by_cases hk : 0 ≤ ((sz : Int) - (64 - (lenN (notN x sz) : Int))).tmod (sz : Int) ∧ ((sz : Int) - (64 - (lenN (notN x sz) : Int))).tmod (sz : Int) < (sz : Int)
      · rw [if_neg (fun h => h hk)]
        by_cases hq : rotN x (((sz : Int) - (64 - (lenN (notN x sz) : Int))).tmod (sz : Int)).toNat sz ≠ lowN 18446744073709551615 (min n 64)
        · rw [if_pos hq]
          exact tell_0mis v sz x n (tzN x) (notN x sz) (lenN (notN x sz)) _ w h1 HN HL HS hx1 (Lib.hid hx0) (Lib.hid hxs2) (Lib.hid hsz3) (by omega) (by omega) hb hb2 hnl (Lib.hid hT) (Lib.hid rfl) hb3 (not_eq x sz) (notN_lt x sz) (lenN_le _) (Lib.hid rfl) (Lib.hid hk.1) (Lib.hid hk.2) (Lib.hid rfl) (Lib.hid hq)
        · rw [if_neg hq]
          by_cases h64 : sz = 64
          · rw [if_pos h64]
            exact tell_0matA v sz x n (tzN x) (notN x sz) (lenN (notN x sz)) w h1 HN HL HS hx1 (Lib.hid hx0) (Lib.hid hxs2) (Lib.hid hsz3) (by omega) (by omega) hb hb2 hnl (Lib.hid hT) (Lib.hid rfl) hb3 (not_eq x sz) (notN_lt x sz) (lenN_le _) (Lib.hid rfl) (Lib.hid hk.1) (Lib.hid hk.2) (Lib.hid (Classical.not_not.1 hq)) _ hf.1 hf2 (Lib.hid rfl) (beq_iff_eq.2 (by omega))
          · rw [if_neg h64]
            exact tell_0matB v sz x n (tzN x) (notN x sz) (lenN (notN x sz)) w h1 HN HL HS hx1 (Lib.hid hx0) (Lib.hid hxs2) (Lib.hid hsz3) (by omega) (by omega) hb hb2 hnl (Lib.hid hT) (Lib.hid rfl) hb3 (not_eq x sz) (notN_lt x sz) (lenN_le _) (Lib.hid rfl) (Lib.hid hk.1) (Lib.hid hk.2) (Lib.hid (Classical.not_not.1 hq)) _ hf.1 hf2 (Lib.hid rfl) (beq_eq_false_iff_ne.2 (by omega))
      · rw [if_pos hk]
        exact tell_0no v sz x n (tzN x) (notN x sz) (lenN (notN x sz)) w h1 HN HL HS hx1 (Lib.hid hx0) (Lib.hid hxs2) (Lib.hid hsz3) (by omega) (by omega) hb hb2 hnl (Lib.hid hT) (Lib.hid rfl) hb3 (not_eq x sz) (notN_lt x sz) (lenN_le _) (Lib.hid rfl) (Lib.hid (by omega)) (Lib.hid hlow)
    · rw [if_neg h0]
      have hb3 : ((tzN x : Int) == 0) = false := beq_eq_false_iff_ne.2 (by omega)
      by_cases hk : 0 ≤ (tzN x : Int) ∧ (tzN x : Int) < (sz : Int)
      · rw [if_neg (fun h => h hk), Int.toNat_natCast]
        by_cases hq : rotN x (tzN x) sz ≠ lowN 18446744073709551615 (min n 64)
        · rw [if_pos hq]
          exact tell_1mis v sz x n (tzN x) _ w h1 HN HL HS hx1 (Lib.hid hx0) (Lib.hid hxs2) (Lib.hid hsz3) (by omega) (by omega) hb hb2 hnl (Lib.hid hT) (Lib.hid rfl) hb3 (Lib.hid hk.1) (Lib.hid hk.2) (Lib.hid rfl) (Lib.hid hq)
        · rw [if_neg hq]
          by_cases h64 : sz = 64
          · rw [if_pos h64]
            exact tell_1matA v sz x n (tzN x) w h1 HN HL HS hx1 (Lib.hid hx0) (Lib.hid hxs2) (Lib.hid hsz3) (by omega) (by omega) hb hb2 hnl (Lib.hid hT) (Lib.hid rfl) hb3 (Lib.hid hk.1) (Lib.hid hk.2) (Lib.hid (Classical.not_not.1 hq)) _ hf.1 hf2 (Lib.hid rfl) (beq_iff_eq.2 (by omega))
          · rw [if_neg h64]
            exact tell_1matB v sz x n (tzN x) w h1 HN HL HS hx1 (Lib.hid hx0) (Lib.hid hxs2) (Lib.hid hsz3) (by omega) (by omega) hb hb2 hnl (Lib.hid hT) (Lib.hid rfl) hb3 (Lib.hid hk.1) (Lib.hid hk.2) (Lib.hid (Classical.not_not.1 hq)) _ hf.1 hf2 (Lib.hid rfl) (beq_eq_false_iff_ne.2 (by omega))
      · rw [if_pos hk]
        exact tell_1no v sz x n (tzN x) w h1 HN HL HS hx1 (Lib.hid hx0) (Lib.hid hxs2) (Lib.hid hsz3) (by omega) (by omega) hb hb2 hnl (Lib.hid hT) (Lib.hid rfl) hb3 (Lib.hid (by omega)) (Lib.hid hlow)
end Go.Proofs.YtdjdbgilimjagaaDoor
