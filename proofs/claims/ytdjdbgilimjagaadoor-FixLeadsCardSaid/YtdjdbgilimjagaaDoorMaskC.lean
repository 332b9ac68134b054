/- The library's count of leading noughts, walked. Numbers are of their kinds. -/
import Derived.Test.YtdjdbgilimjagaaDoorMaskB
set_option linter.unusedVariables false
set_option linter.unusedSimpArgs false
namespace Go.Proofs.YtdjdbgilimjagaaDoor
open Go.RowKit
set_option maxRecDepth 100000

def lenTabB : ByteArray := ⟨#[0, 1, 2, 2, 3, 3, 3, 3, 4, 4, 4, 4, 4, 4, 4, 4, 5, 5, 5, 5, 5, 5, 5, 5, 5, 5, 5, 5, 5, 5, 5, 5, 6, 6, 6, 6, 6, 6, 6, 6, 6, 6, 6, 6, 6, 6, 6, 6, 6, 6, 6, 6, 6, 6, 6, 6, 6, 6, 6, 6, 6, 6, 6, 6, 7, 7, 7, 7, 7, 7, 7, 7, 7, 7, 7, 7, 7, 7, 7, 7, 7, 7, 7, 7, 7, 7, 7, 7, 7, 7, 7, 7, 7, 7, 7, 7, 7, 7, 7, 7, 7, 7, 7, 7, 7, 7, 7, 7, 7, 7, 7, 7, 7, 7, 7, 7, 7, 7, 7, 7, 7, 7, 7, 7, 7, 7, 7, 7, 8, 8, 8, 8, 8, 8, 8, 8, 8, 8, 8, 8, 8, 8, 8, 8, 8, 8, 8, 8, 8, 8, 8, 8, 8, 8, 8, 8, 8, 8, 8, 8, 8, 8, 8, 8, 8, 8, 8, 8, 8, 8, 8, 8, 8, 8, 8, 8, 8, 8, 8, 8, 8, 8, 8, 8, 8, 8, 8, 8, 8, 8, 8, 8, 8, 8, 8, 8, 8, 8, 8, 8, 8, 8, 8, 8, 8, 8, 8, 8, 8, 8, 8, 8, 8, 8, 8, 8, 8, 8, 8, 8, 8, 8, 8, 8, 8, 8, 8, 8, 8, 8, 8, 8, 8, 8, 8, 8, 8, 8, 8, 8, 8, 8, 8, 8, 8, 8, 8, 8, 8, 8, 8, 8, 8, 8, 8, 8]⟩
theorem lenB_fin : ∀ v : Fin lenTabB.size, (lenTabB[v.val]'v.2).toNat = lenTab v.val := by decide +kernel
theorem lenB (v : Nat) (h : v < lenTabB.size) : (lenTabB[v]'h).toNat = lenTab v := lenB_fin ⟨v, h⟩
theorem lenTab_le (v : Nat) : lenTab v ≤ 8 := by
  unfold lenTab
  repeat' split
  all_goals omega
theorem wl (K : Int) (v : Nat) (h0 : 0 ≤ K) (h1 : K ≤ 100) : wrap64 (K + wrap64 ((lenTab v : Nat) : Int)) = K + (lenTab v : Nat) := by
  have := lenTab_le v
  unfold wrap64; omega
theorem wl0 (v : Nat) : wrap64 (wrap64 ((lenTab v : Nat) : Int)) = (lenTab v : Nat) := by
  have := lenTab_le v
  unfold wrap64; omega

set_option maxHeartbeats 1000000 in
theorem len_000 (v y z : Nat) (w : World) (A : ¬ (4294967296 : Int) ≤ (v : Int) ∧ y = v) (B : ¬ (65536 : Int) ≤ (y : Int) ∧ z = y) (C : ¬ (256 : Int) ≤ (z : Int)) :
    Calls Tryd.prog 120 #[.int .u64 v] w fun e w' => e = .returned (.int .i64 ((lenTab (z) : Nat))) ∧ w = w' := by
  obtain ⟨a1, rfl⟩ := A
  obtain ⟨b1, rfl⟩ := B
  have hu : z < lenTabB.size := by show z < 256; omega
  have HU := Lib.hid hu
  clear hu
  go_enter Tryd.func120, Tryd.ntmps120
  go_wp2
  go_ret
  refine ⟨ret_int ?_, rfl⟩
  exact (congrArg (fun m : Nat => wrap64 (wrap64 (m : Int))) (lenB (z) HU.out)).trans (wl0 (z))

set_option maxHeartbeats 1000000 in
theorem len_001 (v y z : Nat) (w : World) (A : ¬ (4294967296 : Int) ≤ (v : Int) ∧ y = v) (B : ¬ (65536 : Int) ≤ (y : Int) ∧ z = y) (C : (256 : Int) ≤ (z : Int) ∧ (0 : Int) ≤ (z : Int) / 256 ∧ (z : Int) / 256 < 256) :
    Calls Tryd.prog 120 #[.int .u64 v] w fun e w' => e = .returned (.int .i64 (8 + (lenTab (z / 256) : Nat))) ∧ w = w' := by
  obtain ⟨a1, rfl⟩ := A
  obtain ⟨b1, rfl⟩ := B
  obtain ⟨c1, c2, c3⟩ := C
  have hu : z / 256 < lenTabB.size := by show z / 256 < 256; omega
  have HU := Lib.hid hu
  clear hu
  go_enter Tryd.func120, Tryd.ntmps120
  go_wp2
  go_ret
  refine ⟨ret_int ?_, rfl⟩
  exact (congrArg (fun m : Nat => wrap64 (8 + wrap64 (m : Int))) (lenB (z / 256) HU.out)).trans (wl 8 (z / 256) (by omega) (by omega))

set_option maxHeartbeats 1000000 in
theorem len_010 (v y z : Nat) (w : World) (A : ¬ (4294967296 : Int) ≤ (v : Int) ∧ y = v) (B : (65536 : Int) ≤ (y : Int) ∧ (y : Int) / 65536 = (z : Int)) (C : ¬ (256 : Int) ≤ (z : Int)) :
    Calls Tryd.prog 120 #[.int .u64 v] w fun e w' => e = .returned (.int .i64 (16 + (lenTab (z) : Nat))) ∧ w = w' := by
  obtain ⟨a1, rfl⟩ := A
  obtain ⟨b1, b2⟩ := B
  have hu : z < lenTabB.size := by show z < 256; omega
  have HU := Lib.hid hu
  clear hu
  go_enter Tryd.func120, Tryd.ntmps120
  go_wp2
  go_ret
  refine ⟨ret_int ?_, rfl⟩
  exact (congrArg (fun m : Nat => wrap64 (16 + wrap64 (m : Int))) (lenB (z) HU.out)).trans (wl 16 (z) (by omega) (by omega))

set_option maxHeartbeats 1000000 in
theorem len_011 (v y z : Nat) (w : World) (A : ¬ (4294967296 : Int) ≤ (v : Int) ∧ y = v) (B : (65536 : Int) ≤ (y : Int) ∧ (y : Int) / 65536 = (z : Int)) (C : (256 : Int) ≤ (z : Int) ∧ (0 : Int) ≤ (z : Int) / 256 ∧ (z : Int) / 256 < 256) :
    Calls Tryd.prog 120 #[.int .u64 v] w fun e w' => e = .returned (.int .i64 (24 + (lenTab (z / 256) : Nat))) ∧ w = w' := by
  obtain ⟨a1, rfl⟩ := A
  obtain ⟨b1, b2⟩ := B
  obtain ⟨c1, c2, c3⟩ := C
  have hu : z / 256 < lenTabB.size := by show z / 256 < 256; omega
  have HU := Lib.hid hu
  clear hu
  go_enter Tryd.func120, Tryd.ntmps120
  go_wp2
  go_ret
  refine ⟨ret_int ?_, rfl⟩
  exact (congrArg (fun m : Nat => wrap64 (24 + wrap64 (m : Int))) (lenB (z / 256) HU.out)).trans (wl 24 (z / 256) (by omega) (by omega))

set_option maxHeartbeats 1000000 in
theorem len_100 (v y z : Nat) (w : World) (A : (4294967296 : Int) ≤ (v : Int) ∧ (v : Int) / 4294967296 = (y : Int)) (B : ¬ (65536 : Int) ≤ (y : Int) ∧ z = y) (C : ¬ (256 : Int) ≤ (z : Int)) :
    Calls Tryd.prog 120 #[.int .u64 v] w fun e w' => e = .returned (.int .i64 (32 + (lenTab (z) : Nat))) ∧ w = w' := by
  obtain ⟨a1, a2⟩ := A
  obtain ⟨b1, rfl⟩ := B
  have hu : z < lenTabB.size := by show z < 256; omega
  have HU := Lib.hid hu
  clear hu
  go_enter Tryd.func120, Tryd.ntmps120
  go_wp2
  go_ret
  refine ⟨ret_int ?_, rfl⟩
  exact (congrArg (fun m : Nat => wrap64 (32 + wrap64 (m : Int))) (lenB (z) HU.out)).trans (wl 32 (z) (by omega) (by omega))

set_option maxHeartbeats 1000000 in
theorem len_101 (v y z : Nat) (w : World) (A : (4294967296 : Int) ≤ (v : Int) ∧ (v : Int) / 4294967296 = (y : Int)) (B : ¬ (65536 : Int) ≤ (y : Int) ∧ z = y) (C : (256 : Int) ≤ (z : Int) ∧ (0 : Int) ≤ (z : Int) / 256 ∧ (z : Int) / 256 < 256) :
    Calls Tryd.prog 120 #[.int .u64 v] w fun e w' => e = .returned (.int .i64 (40 + (lenTab (z / 256) : Nat))) ∧ w = w' := by
  obtain ⟨a1, a2⟩ := A
  obtain ⟨b1, rfl⟩ := B
  obtain ⟨c1, c2, c3⟩ := C
  have hu : z / 256 < lenTabB.size := by show z / 256 < 256; omega
  have HU := Lib.hid hu
  clear hu
  go_enter Tryd.func120, Tryd.ntmps120
  go_wp2
  go_ret
  refine ⟨ret_int ?_, rfl⟩
  exact (congrArg (fun m : Nat => wrap64 (40 + wrap64 (m : Int))) (lenB (z / 256) HU.out)).trans (wl 40 (z / 256) (by omega) (by omega))

set_option maxHeartbeats 1000000 in
theorem len_110 (v y z : Nat) (w : World) (A : (4294967296 : Int) ≤ (v : Int) ∧ (v : Int) / 4294967296 = (y : Int)) (B : (65536 : Int) ≤ (y : Int) ∧ (y : Int) / 65536 = (z : Int)) (C : ¬ (256 : Int) ≤ (z : Int)) :
    Calls Tryd.prog 120 #[.int .u64 v] w fun e w' => e = .returned (.int .i64 (48 + (lenTab (z) : Nat))) ∧ w = w' := by
  obtain ⟨a1, a2⟩ := A
  obtain ⟨b1, b2⟩ := B
  have hu : z < lenTabB.size := by show z < 256; omega
  have HU := Lib.hid hu
  clear hu
  go_enter Tryd.func120, Tryd.ntmps120
  go_wp2
  go_ret
  refine ⟨ret_int ?_, rfl⟩
  exact (congrArg (fun m : Nat => wrap64 (48 + wrap64 (m : Int))) (lenB (z) HU.out)).trans (wl 48 (z) (by omega) (by omega))

set_option maxHeartbeats 1000000 in
theorem len_111 (v y z : Nat) (w : World) (A : (4294967296 : Int) ≤ (v : Int) ∧ (v : Int) / 4294967296 = (y : Int)) (B : (65536 : Int) ≤ (y : Int) ∧ (y : Int) / 65536 = (z : Int)) (C : (256 : Int) ≤ (z : Int) ∧ (0 : Int) ≤ (z : Int) / 256 ∧ (z : Int) / 256 < 256) :
    Calls Tryd.prog 120 #[.int .u64 v] w fun e w' => e = .returned (.int .i64 (56 + (lenTab (z / 256) : Nat))) ∧ w = w' := by
  obtain ⟨a1, a2⟩ := A
  obtain ⟨b1, b2⟩ := B
  obtain ⟨c1, c2, c3⟩ := C
  have hu : z / 256 < lenTabB.size := by show z / 256 < 256; omega
  have HU := Lib.hid hu
  clear hu
  go_enter Tryd.func120, Tryd.ntmps120
  go_wp2
  go_ret
  refine ⟨ret_int ?_, rfl⟩
  exact (congrArg (fun m : Nat => wrap64 (56 + wrap64 (m : Int))) (lenB (z / 256) HU.out)).trans (wl 56 (z / 256) (by omega) (by omega))

theorem len_any (v : Nat) (w : World) (h1 : v < 18446744073709551616) :
    Calls Tryd.prog 120 #[.int .u64 v] w fun e w' => e = .returned (.int .i64 (lenN v)) ∧ w = w' := by
  unfold lenN len2 len3
  by_cases a : 4294967296 ≤ v
  · rw [if_pos a]
    by_cases b : 65536 ≤ v / 4294967296
    · rw [if_pos b]
      by_cases c : 256 ≤ v / 4294967296 / 65536
      · rw [if_pos c]
        exact (len_111 v (v / 4294967296) (v / 4294967296 / 65536) w ⟨by omega, by omega⟩ ⟨by omega, by omega⟩ ⟨by omega, by omega, by omega⟩).mono fun _ _ h => ⟨h.1.trans (ret_int (by omega)), h.2⟩
      · rw [if_neg c]
        exact (len_110 v (v / 4294967296) (v / 4294967296 / 65536) w ⟨by omega, by omega⟩ ⟨by omega, by omega⟩ (by omega)).mono fun _ _ h => ⟨h.1.trans (ret_int (by omega)), h.2⟩
    · rw [if_neg b]
      by_cases c : 256 ≤ v / 4294967296
      · rw [if_pos c]
        exact (len_101 v (v / 4294967296) _ w ⟨by omega, by omega⟩ ⟨by omega, rfl⟩ ⟨by omega, by omega, by omega⟩).mono fun _ _ h => ⟨h.1.trans (ret_int (by omega)), h.2⟩
      · rw [if_neg c]
        exact (len_100 v (v / 4294967296) _ w ⟨by omega, by omega⟩ ⟨by omega, rfl⟩ (by omega)).mono fun _ _ h => ⟨h.1.trans (ret_int (by omega)), h.2⟩
  · rw [if_neg a]
    by_cases b : 65536 ≤ v
    · rw [if_pos b]
      by_cases c : 256 ≤ v / 65536
      · rw [if_pos c]
        exact (len_011 v _ (v / 65536) w ⟨by omega, rfl⟩ ⟨by omega, by omega⟩ ⟨by omega, by omega, by omega⟩).mono fun _ _ h => ⟨h.1.trans (ret_int (by omega)), h.2⟩
      · rw [if_neg c]
        exact (len_010 v _ (v / 65536) w ⟨by omega, rfl⟩ ⟨by omega, by omega⟩ (by omega)).mono fun _ _ h => ⟨h.1.trans (ret_int (by omega)), h.2⟩
    · rw [if_neg b]
      by_cases c : 256 ≤ v
      · rw [if_pos c]
        exact (len_001 v _ _ w ⟨by omega, rfl⟩ ⟨by omega, rfl⟩ ⟨by omega, by omega, by omega⟩).mono fun _ _ h => ⟨h.1.trans (ret_int (by omega)), h.2⟩
      · rw [if_neg c]
        exact (len_000 v _ _ w ⟨by omega, rfl⟩ ⟨by omega, rfl⟩ (by omega)).mono fun _ _ h => ⟨h.1.trans (ret_int (by omega)), h.2⟩

theorem len3_le (x n : Nat) : len3 x n ≤ n + 16 := by
  unfold len3
  have := lenTab_le x
  have := lenTab_le (x / 256)
  split <;> omega
theorem len2_le (x n : Nat) : len2 x n ≤ n + 32 := by
  unfold len2
  have := len3_le x n
  have := len3_le (x / 65536) (n + 16)
  split <;> omega
theorem lenN_le (v : Nat) : lenN v ≤ 64 := by
  unfold lenN
  have := len2_le v 0
  have := len2_le (v / 4294967296) 32
  split <;> omega

set_option maxHeartbeats 400000 in
theorem lz_any (v : Nat) (w : World) (h1 : v < 18446744073709551616) :
    Calls Tryd.prog 107 #[.int .u64 v] w fun e w' => e = .returned (.int .i64 (64 - lenN v)) ∧ w = w' := by
  have hl := lenN_le v
  go_enter Tryd.func107, Tryd.ntmps107
  go_wp2_with (go_at_call 120; refine (len_any v _ h1).mono ?_; rintro e w' ⟨rfl, rfl⟩)
  go_ret
  exact ⟨rfl, rfl⟩

set_option maxHeartbeats 400000 in
theorem onesC_any (v : Nat) (w : World) (h1 : v < 18446744073709551616) :
    Calls Tryd.prog 105 #[.int .u64 v] w fun e w' => e = .returned (.int .i64 (popN v)) ∧ w = w' := by
  go_enter Tryd.func105, Tryd.ntmps105
  go_wp2_with (go_at_call 126; refine (pop_any v _ h1).mono ?_; rintro e w' ⟨rfl, rfl⟩)
  go_ret
  exact ⟨rfl, rfl⟩

def tzI (v : Nat) : Nat := (v &&& (18446744073709551616 - v) % 18446744073709551616) * 285870213051353865 % 18446744073709551616 / 288230376151711744
theorem tzI_lt (v : Nat) : tzI v < 64 := by
  unfold tzI
  have := Nat.mod_lt ((v &&& (18446744073709551616 - v) % 18446744073709551616) * 285870213051353865) (show 0 < 18446744073709551616 by decide)
  omega
theorem tz_eq (v : Nat) (h1 : v < 18446744073709551616) (h0 : v ≠ 0) :
    IntKind.u64.wrap (bits .and .u64 (v : Int) (IntKind.u64.wrap (-(v : Int))) * 285870213051353865) / 288230376151711744 = ((tzI v : Nat) : Int) := by
  have e : IntKind.u64.wrap (-(v : Int)) = (((18446744073709551616 - v) % 18446744073709551616 : Nat) : Int) := by
    rw [IntKind.wrap_u64]; omega
  rw [e, u64_and_nat _ _ h1 (Nat.mod_lt _ (by decide)), show (285870213051353865 : Int) = ((285870213051353865 : Nat) : Int) from rfl, ← Int.natCast_mul, u64w]
  unfold tzI
  omega

set_option maxHeartbeats 400000 in
theorem tz_core (v i t : Nat) (w : World) (hb : ((v : Int) == 0) = false) (e1 : IntKind.u64.wrap (bits .and .u64 (v : Int) (IntKind.u64.wrap (-(v : Int))) * 285870213051353865) / 288230376151711744 = (i : Int))
    (hc : w.cell? ⟨0, i, none⟩ = some (.int .u8 (t : Nat))) (hi : i < 64) :
    Calls Tryd.prog 106 #[.int .u64 v] w fun e w' => e = .returned (.int .i64 (wrap64 (t : Nat))) ∧ w = w' := by
  go_enter Tryd.func106, Tryd.ntmps106
  go_wp2
  go_ret
  exact ⟨rfl, rfl⟩
end Go.Proofs.YtdjdbgilimjagaaDoor
