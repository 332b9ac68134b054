/- Layer 1 of the program, walked: each call answers as the plain functions do. Its numbers are of their kinds. -/
import Derived.Test.YtdjdbgilimjagaaDoorRun
import Derived.Test.YtdjdbgilimjagaaDoorSpec
import Derived.Deep.QuietTactic
import Derived.Lib.Hide
import Derived.OpenShut
import Derived.BigQuiet
import Derived.Laws.BitsAllLaws
set_option linter.unusedVariables false
set_option linter.unusedSimpArgs false
namespace Go.Proofs.YtdjdbgilimjagaaDoor
open Go.RowKit
set_option maxRecDepth 100000

theorem ret_int {k : IntKind} {a b : Int} (h : a = b) : Ending.returned (.int k a) = .returned (.int k b) := by rw [h]
theorem ret_bool {a b : Bool} (h : a = b) : Ending.returned (.bool a) = .returned (.bool b) := by rw [h]
theorem ret2_int {k l : IntKind} {a b c d : Int} (h : a = b) (g : c = d) : Ending.returned (.tuple #[.int k a, .int l c]) = .returned (.tuple #[.int k b, .int l d]) := by rw [h, g]

theorem pow_le64 (n : Nat) (h : n ≤ 64) : (2 : Nat) ^ n ≤ 18446744073709551616 := by
  have : (2 : Nat) ^ n ≤ 2 ^ 64 := Nat.pow_le_pow_right (by decide) h
  simpa using this
theorem pow_lt64 (n : Nat) (h : n < 64) : (2 : Nat) ^ n < 18446744073709551616 := by
  have : (2 : Nat) ^ n < 2 ^ 64 := Nat.pow_lt_pow_right (by decide) h
  simpa using this

set_option maxHeartbeats 400000 in
theorem ones_any (n : Int) (w : World) (h0 : 0 ≤ n) (h1 : n ≤ 64) :
    Calls Tryd.prog 42 #[.int .i64 n] w fun e w' => e = .returned (.int .u64 ((2 ^ n.toNat - 1 : Nat) : Int)) ∧ w = w' := by
  go_enter Tryd.func42, Tryd.ntmps42
  go_wp2
  · have h : 64 ≤ n := by assumption
    go_ret
    have : n = 64 := by omega
    subst this
    exact ⟨ret_int (by rfl), rfl⟩
  · have h : n < 64 := by assumption
    go_ret
    refine ⟨ret_int ?_, rfl⟩
    have hp := pow_lt64 n.toNat (by omega)
    have hq := pow_pos2 n.toNat
    rw [← cast_pow]
    simp only [IntKind.wrap_u64]
    omega

set_option maxHeartbeats 400000 in
theorem right_any (a n : Int) (w : World) :
    Calls Tryd.prog 41 #[.int .i64 a, .int .i64 n] w fun e w' => e = .returned (.bool (rightB a n)) ∧ w = w' := by
  go_enter Tryd.func41, Tryd.ntmps41
  go_wp2
  all_goals
    go_ret
    refine ⟨ret_bool ?_, rfl⟩
    unfold rightB
    rw [Bool.eq_iff_iff]
    simp only [decide_eq_true_eq, Bool.false_eq_true, false_iff]
    omega

set_option maxHeartbeats 400000 in
theorem field_no (x a n : Int) (w : World) (hr : rightB a n = false) :
    Calls Tryd.prog 15 #[.int .u32 x, .int .i64 a, .int .i64 n] w fun e w' => e = .returned (.tuple #[.int .u32 0, .int .i64 1]) ∧ w = w' := by
  go_enter Tryd.func15, Tryd.ntmps15
  go_wp2_with (go_at_call 41; refine (right_any _ _ _).mono ?_; rintro e w' ⟨rfl, rfl⟩)
  go_ret2
  exact ⟨rfl, rfl⟩

set_option maxHeartbeats 400000 in
theorem field_yes (x a n : Int) (w : World) (hx : 0 ≤ x) (hx2 : x < 4294967296) (hr : rightB a n = true) (h0 : 0 ≤ a) (h1 : a < 32) (h2 : 1 ≤ n) (h3 : n ≤ 32) :
    Calls Tryd.prog 15 #[.int .u32 x, .int .i64 a, .int .i64 n] w fun e w' => e = .returned (.tuple #[.int .u32 ((fieldN x.toNat a.toNat n.toNat : Nat) : Int), .int .i64 0]) ∧ ∃ m, w' = w.drewN m := by
  go_enter Tryd.func15, Tryd.ntmps15
  go_wp2_with (go_at_call 41; refine (right_any _ _ _).mono ?_; rintro e w' ⟨rfl, rfl⟩)
  go_quiet ((go_at_call 42; exact Calls.quiet_of_same ((ones_any _ _ (by omega) (by omega)).mono fun _ _ h => ⟨h.1, h.2.symm⟩)))
  go_wp2
  go_ret2
  refine ⟨ret2_int ?_ rfl, _, rfl⟩
  have hp : (2 : Nat) ^ n.toNat ≤ 2 ^ 32 := Nat.pow_le_pow_right (by decide) (by omega)
  have hq := pow_pos2 n.toNat
  obtain ⟨y, rfl⟩ := Int.eq_ofNat_of_zero_le hx
  rw [← cast_pow, ← Int.natCast_ediv, Int.toNat_natCast]
  have hd : y / 2 ^ a.toNat ≤ y := Nat.div_le_self _ _
  have e : (((2 ^ n.toNat - 1 : Nat) : Int) % 4294967296) = ((2 ^ n.toNat - 1 : Nat) : Int) := Int.emod_eq_of_lt (by omega) (by omega)
  rw [e, u32_and_nat _ _ (by omega) (by omega), Nat.and_two_pow_sub_one_eq_mod]
  rfl

theorem min_max_n (n : Int) : (if 64 < (if n < 0 then 0 else n) then (64 : Int) else if n < 0 then 0 else n) = ((min n.toNat 64 : Nat) : Int) := by
  split <;> split <;> omega

set_option maxHeartbeats 400000 in
theorem low_any (v n : Int) (w : World) (h0 : 0 ≤ v) (h1 : v < 18446744073709551616) :
    Calls Tryd.prog 104 #[.int .u64 v, .int .i64 n] w fun e w' => e = .returned (.int .u64 ((lowN v.toNat (min n.toNat 64) : Nat) : Int)) ∧ w = w' := by
  go_enter Tryd.func104, Tryd.ntmps104
  go_wp2_with (go_at_call 42; refine (ones_any _ _ (by omega) (by omega)).mono ?_; rintro e w' ⟨rfl, rfl⟩)
  all_goals
    go_ret
    refine ⟨ret_int ?_, rfl⟩
    obtain ⟨y, rfl⟩ := Int.eq_ofNat_of_zero_le h0
    have hp := pow_le64 (min n.toNat 64) (by omega)
    have hq := pow_pos2 (min n.toNat 64)
    rw [Int.toNat_natCast]
  · have : min n.toNat 64 = 64 := by omega
    rw [this, u64_and _ _ (by omega) (by omega) (by decide) (by decide), Int.toNat_natCast]
    exact congrArg Int.ofNat (Nat.and_two_pow_sub_one_eq_mod y 64)
  · have : min n.toNat 64 = 0 := by omega
    rw [this, u64_and _ _ (by omega) (by omega) (by decide) (by decide), Int.toNat_natCast]
    exact congrArg Int.ofNat (Nat.and_two_pow_sub_one_eq_mod y 0)
  · have : min n.toNat 64 = n.toNat := by omega
    rw [this] at hp hq ⊢
    rw [u64_and_nat _ _ (by omega) (by omega)]
    unfold lowN
    rw [Nat.and_two_pow_sub_one_eq_mod]

theorem low_lt (v n : Nat) : lowN v n < 2 ^ n := Nat.mod_lt _ (pow_pos2 n)

theorem wrap64_of (x : Int) (h0 : -9223372036854775808 ≤ x) (h1 : x < 9223372036854775808) : wrap64 x = x := by unfold wrap64; omega

theorem signed_eq (v n : Nat) (hn : 1 ≤ n) (hn2 : n ≤ 32) (hv : v < 2 ^ n) : wrap64 ((v : Int) * 2 ^ (64 - n)) / 2 ^ (64 - n) = signedI v n := by
  obtain ⟨m, rfl⟩ : ∃ m, n = m + 1 := ⟨n - 1, by omega⟩
  have e1 : (2 : Nat) ^ (64 - (m + 1)) * 2 ^ (m + 1) = 18446744073709551616 := by
    rw [← Nat.pow_add, show 64 - (m + 1) + (m + 1) = 64 from by omega]
  have e2 : (2 : Nat) ^ (64 - (m + 1)) * 2 ^ m = 9223372036854775808 := by
    rw [← Nat.pow_add, show 64 - (m + 1) + m = 63 from by omega]
  rw [← cast_pow]
  generalize hP : (2 : Nat) ^ (64 - (m + 1)) = P at *
  have hP0 : 0 < P := by rw [← hP]; exact pow_pos2 _
  unfold signedI
  rw [show m + 1 - 1 = m from by omega]
  by_cases hlt : v < 2 ^ m
  · rw [if_pos hlt]
    have h : v * P < 9223372036854775808 := by
      rw [← e2, Nat.mul_comm P]; exact Nat.mul_lt_mul_of_pos_right hlt hP0
    rw [wrap64_of _ (by rw [← Int.natCast_mul]; omega) (by rw [← Int.natCast_mul]; omega), Int.mul_ediv_cancel _ (by omega)]
  · rw [if_neg hlt]
    have h1 : 9223372036854775808 ≤ v * P := by
      rw [← e2, Nat.mul_comm P]; exact Nat.mul_le_mul_right _ (by omega)
    have h2 : v * P < 18446744073709551616 := by
      rw [← e1, Nat.mul_comm P]; exact Nat.mul_lt_mul_of_pos_right hv hP0
    have e : wrap64 ((v : Int) * (P : Int)) = ((v : Int) - ((2 ^ (m + 1) : Nat) : Int)) * (P : Int) := by
      rw [Int.sub_mul, ← Int.natCast_mul, ← Int.natCast_mul, Nat.mul_comm (2 ^ (m + 1)), e1]
      unfold wrap64; omega
    rw [e, Int.mul_ediv_cancel _ (by omega), cast_pow]

set_option maxHeartbeats 400000 in
theorem signed_yes (v n : Int) (w : World) (h0 : 0 ≤ v) (h1 : v < ((2 ^ n.toNat : Nat) : Int)) (h2 : 1 ≤ n) (h3 : n ≤ 32) :
    Calls Tryd.prog 33 #[.int .u32 v, .int .i64 n] w fun e w' => e = .returned (.tuple #[.int .i64 (signedI v.toNat n.toNat), .int .i64 0]) ∧ w = w' := by
  have hle : ¬ ((2 ^ n.toNat - 1 : Nat) : Int) < v := by have := pow_pos2 n.toNat; omega
  have hp : ((2 ^ n.toNat : Nat) : Int) ≤ 4294967296 := by
    have : (2 : Nat) ^ n.toNat ≤ 2 ^ 32 := Nat.pow_le_pow_right (by decide) (by omega)
    omega
  have hvv : v < 4294967296 := by omega
  go_enter Tryd.func33, Tryd.ntmps33
  go_wp2_with (go_at_call 42; refine (ones_any _ _ (by omega) (by omega)).mono ?_; rintro e w' ⟨rfl, rfl⟩)
  go_ret2
  refine ⟨ret2_int ?_ rfl, rfl⟩
  obtain ⟨y, rfl⟩ := Int.eq_ofNat_of_zero_le h0
  rw [show (64 - n).toNat = 64 - n.toNat from by omega, Int.toNat_natCast]
  exact signed_eq y n.toNat (by omega) (by omega) (by omega)

theorem pack_eq (v : Int) (n : Nat) (hn2 : n ≤ 32) : bits .and .u32 (v % 4294967296) (((2 ^ n - 1 : Nat) : Int) % 4294967296) = v % ((2 ^ n : Nat) : Int) := by
  have hp : (2 : Nat) ^ n ≤ 2 ^ 32 := Nat.pow_le_pow_right (by decide) hn2
  have hq := pow_pos2 n
  have hd : (2 : Nat) ^ n ∣ 4294967296 := Nat.pow_dvd_pow 2 hn2
  obtain ⟨y, hy⟩ := Int.eq_ofNat_of_zero_le (Int.emod_nonneg v (show (4294967296 : Int) ≠ 0 by decide))
  have hy2 : y < 4294967296 := by have := Int.emod_lt_of_pos v (show (0 : Int) < 4294967296 by decide); omega
  have e : (((2 ^ n - 1 : Nat) : Int) % 4294967296) = ((2 ^ n - 1 : Nat) : Int) := Int.emod_eq_of_lt (by omega) (by omega)
  rw [hy, e, u32_and_nat _ _ hy2 (by omega), Nat.and_two_pow_sub_one_eq_mod, Int.natCast_emod, ← hy]
  exact Int.emod_emod_of_dvd v (Int.natCast_dvd_natCast.2 hd)

set_option maxHeartbeats 400000 in
theorem pack_yes (v n : Int) (w : World) (h2 : 1 ≤ n) (h3 : n ≤ 32) (h0 : v / 2 ^ (n.toNat - 1) = 0 ∨ v / 2 ^ (n.toNat - 1) = -1) :
    Calls Tryd.prog 66 #[.int .i64 v, .int .i64 n] w fun e w' => e = .returned (.tuple #[.int .u32 (v % ((2 ^ n.toNat : Nat) : Int)), .int .i64 0]) ∧ w = w' := by
  have H := Lib.hid h0
  clear h0
  go_enter Tryd.func66, Tryd.ntmps66
  go_wp2_with (go_at_call 42; refine (ones_any _ _ (by omega) (by omega)).mono ?_; rintro e w' ⟨rfl, rfl⟩)
  · go_ret2
    exact ⟨ret2_int (pack_eq v n.toNat (by omega)) rfl, rfl⟩
  · rename_i hh
    exfalso
    obtain ⟨ha, hb⟩ := hh
    rcases H.out with h | h
    · rw [h] at ha; exact absurd ha (by decide)
    · rw [h] at hb; exact absurd hb (by decide)
  · go_ret2
    exact ⟨ret2_int (pack_eq v n.toNat (by omega)) rfl, rfl⟩

def isK (size : Int) : Nat → Bool
  | 0 => false
  | k + 1 => isK size k || decide (size = 2 * 2 ^ k)
theorem isK_no (size : Int) (j : Nat) (h : j < 6) (hb : isK size j = false) : (size == wrap64 (2 * 2 ^ j)) = isK size (j + 1) := by
  have hw : wrap64 (2 * 2 ^ j) = (2 * 2 ^ j : Int) := by
    rcases (show j = 0 ∨ j = 1 ∨ j = 2 ∨ j = 3 ∨ j = 4 ∨ j = 5 from by omega) with rfl | rfl | rfl | rfl | rfl | rfl <;> (unfold wrap64; omega)
  show _ = (isK size j || decide (size = 2 * 2 ^ j))
  rw [hb, hw, Bool.false_or]; rfl
theorem isK_yes (size : Int) (j : Nat) (hb : isK size j = true) : isK size (j + 1) = true := by
  show (isK size j || decide (size = 2 * 2 ^ j)) = true
  rw [hb]; rfl
theorem isK_six (size : Int) (hs : size = 2 ∨ size = 4 ∨ size = 8 ∨ size = 16 ∨ size = 32 ∨ size = 64) : isK size 6 = true := by
  rcases hs with rfl | rfl | rfl | rfl | rfl | rfl <;> rfl

theorem u64_range (op : BinOp) (a b : Int) : 0 ≤ bits op .u64 a b ∧ bits op .u64 a b < 18446744073709551616 := by
  have h := wf_bits op .u64 a b
  have := bounds_u64 h
  omega

theorem rot_eq (v k size : Nat) (h2 : size ≤ 64) (hv : v < 2 ^ size) :
    lowN (bits .or .u64 ((v : Int) / 2 ^ k) (IntKind.u64.wrap ((v : Int) * 2 ^ (size - k)))).toNat size = rotN v k size := by
  have h64 := pow_le64 size h2
  have hd : v / 2 ^ k ≤ v := Nat.div_le_self _ _
  rw [← cast_pow, ← cast_pow, ← Int.natCast_ediv, ← Int.natCast_mul, IntKind.wrap_u64]
  rw [show (((v * 2 ^ (size - k) : Nat) : Int) % 18446744073709551616) = ((v * 2 ^ (size - k) % 18446744073709551616 : Nat) : Int) from by omega]
  rw [u64_or_nat _ _ (by omega) (Nat.mod_lt _ (by decide)), Int.toNat_natCast]
  rfl

set_option maxHeartbeats 400000 in
theorem rotate_yes (v k size : Int) (w : World) (h0 : 0 ≤ v) (h1 : v < ((2 ^ size.toNat : Nat) : Int)) (hs : size = 2 ∨ size = 4 ∨ size = 8 ∨ size = 16 ∨ size = 32 ∨ size = 64) (hk0 : 0 ≤ k) (hk1 : k < size) :
    Calls Tryd.prog 108 #[.int .u64 v, .int .i64 k, .int .i64 size] w fun e w' => e = .returned (.tuple #[.int .u64 ((rotN v.toNat k.toNat size.toNat : Nat) : Int), .int .i64 0]) ∧ ∃ m, w' = w.drewN m := by
  have hs6 := isK_six size hs
  have hsz : size ≤ 64 := by omega
  have h64 : v < 18446744073709551616 := by have := pow_le64 size.toNat (by omega); omega
  have hle : ¬ ((2 ^ size.toNat - 1 : Nat) : Int) < v := by have := pow_pos2 size.toNat; omega
  have H6 := Lib.hid hs6
  clear hs hs6
  go_enter Tryd.func108, Tryd.ntmps108
  go_wp2
  go_loop [8, 9, 10] (fun is _ i => ∃ k : Nat, k ≤ 6 ∧ i = .int .i64 k ∧ is = .bool (isK size k)) (fun _ _ i => 6 - (intOf i).toNat)
  case atStart => exact ⟨0, by omega, rfl, rfl⟩
  case round =>
    obtain ⟨j, hj, rfl, rfl⟩ := hrel
    by_cases hlt : j < 6
    · cases hb : isK size j
      · have HB := Lib.hid hb
        clear hb
        go_wp2
        exact ⟨⟨j + 1, by omega, by go_num, by rw [isK_no size j hlt HB.out]⟩, by simp [intOf]; omega⟩
      · have HB := Lib.hid hb
        clear hb
        go_wp2
        exact ⟨⟨j + 1, by omega, by go_num, by rw [isK_yes size j HB.out]⟩, by simp [intOf]; omega⟩
    · obtain rfl : j = 6 := by omega
      have hb := H6.out
      go_wp2_with (go_at_call 42; refine (ones_any _ _ (by omega) (by omega)).mono ?_; rintro e w' ⟨rfl, rfl⟩)
      go_quiet ((go_at_call 104; exact Calls.quiet_of_same ((low_any _ _ _ (u64_range _ _ _).1 (u64_range _ _ _).2).mono fun _ _ h => ⟨h.1, h.2.symm⟩)))
      go_wp2
      go_ret2
      refine ⟨ret2_int ?_ rfl, _, rfl⟩
      obtain ⟨y, rfl⟩ := Int.eq_ofNat_of_zero_le h0
      rw [show (size - k).toNat = size.toNat - k.toNat from by omega, show min size.toNat 64 = size.toNat from by omega, rot_eq y k.toNat size.toNat (by omega) (by omega), Int.toNat_natCast]

set_option maxHeartbeats 400000 in
theorem rotate_no (v k size : Int) (w : World) (hs : size = 2 ∨ size = 4 ∨ size = 8 ∨ size = 16 ∨ size = 32 ∨ size = 64) (hk : k < 0 ∨ size ≤ k) :
    Calls Tryd.prog 108 #[.int .u64 v, .int .i64 k, .int .i64 size] w fun e w' => e = .returned (.tuple #[.int .u64 0, .int .i64 1]) ∧ ∃ m, w' = w.drewN m := by
  have hs6 := isK_six size hs
  have H6 := Lib.hid hs6
  have hsz : 2 ≤ size := by omega
  clear hs hs6
  have HK := Lib.hid hk
  clear hk
  go_enter Tryd.func108, Tryd.ntmps108
  go_wp2
  go_loop [8, 9, 10] (fun is _ i => ∃ k : Nat, k ≤ 6 ∧ i = .int .i64 k ∧ is = .bool (isK size k)) (fun _ _ i => 6 - (intOf i).toNat)
  case atStart => exact ⟨0, by omega, rfl, rfl⟩
  case round =>
    obtain ⟨j, hj, rfl, rfl⟩ := hrel
    by_cases hlt : j < 6
    · cases hb : isK size j
      · have HB := Lib.hid hb
        clear hb
        go_wp2
        exact ⟨⟨j + 1, by omega, by go_num, by rw [isK_no size j hlt HB.out]⟩, by simp [intOf]; omega⟩
      · have HB := Lib.hid hb
        clear hb
        go_wp2
        exact ⟨⟨j + 1, by omega, by go_num, by rw [isK_yes size j HB.out]⟩, by simp [intOf]; omega⟩
    · obtain rfl : j = 6 := by omega
      have hb := H6.out
      rcases HK.out with hk | hk
      all_goals
        go_wp2
        go_ret2
        exact ⟨rfl, 0, rfl⟩
end Go.Proofs.YtdjdbgilimjagaaDoor
