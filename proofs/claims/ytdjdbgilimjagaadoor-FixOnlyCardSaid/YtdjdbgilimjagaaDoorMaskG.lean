/- Layer 2 of the program, walked: whether a number is a mask; how it is told; a mask made. Numbers are of their kinds; the library's table lies as it is laid. -/
import Derived.Test.YtdjdbgilimjagaaDoorMaskF
set_option linter.unusedVariables false
set_option linter.unusedSimpArgs false
namespace Go.Proofs.YtdjdbgilimjagaaDoor
open Go.RowKit
set_option maxRecDepth 100000

set_option maxHeartbeats 1000000 in
theorem isM_core (v : Nat) (a b c : Int) (w : World) (h1 : v < 18446744073709551616) (HT : Hid (Tab w)) (H : Hid (toldN v = (a, b, c))) :
    Calls Tryd.prog 40 #[.int .u64 v] w fun e w' => e = .returned (.bool (!(a == 0 && b == 0 && c == 0) || (v : Int) == 4294967297)) ∧ Below w.heap.size w w' := by
  go_enter Tryd.func40, Tryd.ntmps40
  go_wp2_with (go_at_call 68; refine (tell_any v _ h1 HT.out).mono ?_; rw [H.out]; rintro e w1 ⟨rfl, hb1⟩)
  all_goals
    go_ret
    refine ⟨ret_bool ?_, hb1⟩
    simp [*]

theorem isM_any (v : Nat) (w : World) (h1 : v < 18446744073709551616) (hT : Tab w) :
    Calls Tryd.prog 40 #[.int .u64 v] w fun e w' => e = .returned (.bool (isMask v)) ∧ Below w.heap.size w w' := by
  obtain ⟨a, b, c, h⟩ : ∃ a b c, toldN v = (a, b, c) := ⟨_, _, _, rfl⟩
  refine (isM_core v a b c w h1 (Lib.hid hT) (Lib.hid h)).mono fun e w' q => ⟨q.1.trans (ret_bool ?_), q.2⟩
  unfold isMask
  rw [h, Bool.eq_iff_iff]
  simp only [Bool.or_eq_true, Bool.not_eq_true', Bool.and_eq_false_iff, beq_iff_eq, beq_eq_false_iff_ne, decide_eq_true_eq, ne_eq, Prod.mk.injEq]
  omega

set_option maxHeartbeats 1000000 in
theorem encM_no (v : Nat) (w : World) (h1 : v < 18446744073709551616) (HT : Hid (Tab w)) (H : Hid (isMask v = false)) :
    Calls Tryd.prog 85 #[.int .u64 v] w fun e w' => e = .returned (.tuple #[.int .i64 0, .int .i64 0, .int .i64 0, .int .i64 3]) ∧ Below w.heap.size w w' := by
  go_enter Tryd.func85, Tryd.ntmps85
  go_wp2_with (go_at_call 40; refine (isM_any v _ h1 HT.out).mono ?_; rw [H.out]; rintro e w1 ⟨rfl, hb1⟩)
  exact bodyPost_ret (v := .tuple #[.int .i64 0, .int .i64 0, .int .i64 0, .int .i64 3]) (by simp [results, Tryd.results85, go_sem]) rfl ⟨rfl, hb1⟩

set_option maxHeartbeats 1000000 in
theorem encM_yes (v : Nat) (a b c : Int) (w : World) (h1 : v < 18446744073709551616) (HT : Hid (Tab w)) (H : Hid (isMask v = true)) (HA : Hid (toldN v = (a, b, c))) :
    Calls Tryd.prog 85 #[.int .u64 v] w fun e w' => e = .returned (.tuple #[.int .i64 a, .int .i64 b, .int .i64 c, .int .i64 0]) ∧ Below w.heap.size w w' := by
  go_enter Tryd.func85, Tryd.ntmps85
  go_wp2_with (first | (go_at_call 40; refine (isM_any v _ h1 HT.out).mono ?_; rw [H.out]; rintro e w1 ⟨rfl, hb1⟩) | (go_at_call 68; refine (tell_any v _ h1 (HT.out.below hb1)).mono ?_; rw [HA.out]; rintro e w2 ⟨rfl, hb2⟩))
  go_quiet (fail)
  go_wp2
  exact bodyPost_ret (v := .tuple #[.int .i64 a, .int .i64 b, .int .i64 c, .int .i64 0]) (by simp [results, Tryd.results85, go_sem]) rfl ⟨rfl, below_drewN ((hb1.trans (hb2.mono hb1.size)).alloc (Nat.le_trans hb1.size hb2.size) _) _⟩


theorem front_f (s f : Int) (w : World) (h0 : 0 ≤ s) (h1 : s ≤ 64) (HF : Hid (frontI s = f)) :
    Calls Tryd.prog 109 #[.int .i64 s] w fun e w' => e = .returned (.int .i64 f) ∧ w' = w :=
  (front_any s w h0 h1).mono fun _ _ h => ⟨h.1.trans (ret_int HF.out), h.2.symm⟩

theorem again_i (x : Nat) (s : Int) (w : World) (h1 : x < 18446744073709551616) (hs : s = 2 ∨ s = 4 ∨ s = 8 ∨ s = 16 ∨ s = 32 ∨ s = 64) :
    Calls Tryd.prog 123 #[.int .u64 x, .int .i64 s] w fun e w' => e = .returned (.int .u64 ((againN x s.toNat : Nat) : Int)) ∧ w = w' := by
  obtain ⟨n, rfl⟩ := Int.eq_ofNat_of_zero_le (show 0 ≤ s by omega)
  rw [Int.toNat_natCast]
  exact again_any x n w h1 (by omega)

theorem boxed_one {w w1 : World} {v : Value} {T m : Nat} (h : w1 = (w.alloc (.cells #[v] T)).drewN m) : w1.cell? ⟨w.heap.size, 0, none⟩ = some v ∧ Below w.heap.size w w1 := by
  subst h
  exact ⟨by simp [go_sem], below_drewN ((Below.refl _ _).alloc (Nat.le_refl _) _) _⟩

set_option maxHeartbeats 2000000 in
theorem decM_no0 (r s : Int) (w : World) (hr0 : 0 ≤ r) (hr1 : r < 64) (hs0 : 0 ≤ s) (hs1 : s < 64) (sz f : Int) (HS : Hid (sizeS s = sz)) (HF : Hid (frontI sz = f)) (hz0 : 2 ≤ sz) (hz1 : sz ≤ 64) (hf0 : -64 ≤ f) (hf1 : f ≤ 60) (H : Hid (s - f + 1 < 1 ∨ sz ≤ s - f + 1 ∨ sz ≤ r)) :
    Calls Tryd.prog 88 #[.int .i64 0, .int .i64 r, .int .i64 s] w fun e w' => e = .returned (.tuple #[.int .u64 0, .int .i64 3]) ∧ Below w.heap.size w w' := by
  have hmf : ∀ (fn : Fn) (first cap : Array Value) (w : World), (Instr.makeFunc fn first cap).run Tryd.prog w = .ok (.func fn first cap) w := fun _ _ _ _ => rfl
  have hw1 : IntKind.i64.wrap (s - f) = s - f := IntWalk.i64_in _ (by omega)
  have hw2 : IntKind.i64.wrap (s - f + 1) = s - f + 1 := IntWalk.i64_in _ (by omega)
  by_cases hrs : r < s
  all_goals
    rcases H.out with h | h | h
    all_goals
      go_enter Tryd.func88, Tryd.ntmps88
      go_wp2_with (go_at_call 121; refine (sizes_dec s w.heap.size _ hs0 (by simp)).mono ?_; rw [HS.out]; rintro e w1 ⟨rfl, m, hq⟩; obtain ⟨hc, hb1⟩ := boxed_one hq; clear hq)
      go_quiet ((go_at_call 109; exact Calls.quiet_of_same (front_f _ _ _ (by omega) (by omega) HF)))
      go_wp2
      all_goals
        go_ret2
        exact ⟨rfl, below_drewN hb1 _⟩

set_option maxHeartbeats 2000000 in
theorem decM_yes0 (r s : Int) (w : World) (hr0 : 0 ≤ r) (hr1 : r < 64) (hs0 : 0 ≤ s) (hs1 : s < 64) (sz f : Int) (HS : Hid (sizeS s = sz)) (HF : Hid (frontI sz = f)) (hz0 : 2 ≤ sz) (hz1 : sz ≤ 64) (o : Int) (HO : s - f + 1 = o) (H1 : 1 ≤ o) (H2 : o < sz) (H3 : r < sz) (HX : Hid (sz = 2 ∨ sz = 4 ∨ sz = 8 ∨ sz = 16 ∨ sz = 32 ∨ sz = 64))
    (row : Nat) (HR : Hid (rotN (lowN 18446744073709551615 (min o.toNat 64)) r.toNat (sz : Int).toNat = row)) (HLO : Hid (((lowN 18446744073709551615 (min o.toNat 64) : Nat) : Int) < ((2 ^ (sz : Int).toNat : Nat) : Int))) (hrow : row < 18446744073709551616) :
    Calls Tryd.prog 88 #[.int .i64 0, .int .i64 r, .int .i64 s] w fun e w' => e = .returned (.tuple #[.int .u64 ((againN row (sz : Int).toNat : Nat) : Int), .int .i64 0]) ∧ Below w.heap.size w w' := by
  have hmf : ∀ (fn : Fn) (first cap : Array Value) (w : World), (Instr.makeFunc fn first cap).run Tryd.prog w = .ok (.func fn first cap) w := fun _ _ _ _ => rfl
  have hw1 : IntKind.i64.wrap (s - f) = s - f := IntWalk.i64_in _ (by omega)
  have hw2 : IntKind.i64.wrap (s - f + 1) = s - f + 1 := IntWalk.i64_in _ (by omega)
  by_cases hrs : r < s
  all_goals
    go_enter Tryd.func88, Tryd.ntmps88
    go_wp2_with (go_at_call 121; refine (sizes_dec s w.heap.size _ hs0 (by simp)).mono ?_; rw [HS.out]; rintro e w1 ⟨rfl, m, hq⟩; obtain ⟨hc, hb1⟩ := boxed_one hq; clear hq)
    go_quiet ((go_at_call 109; exact Calls.quiet_of_same (front_f _ _ _ (by omega) (by omega) HF)))
    go_wp2_with (first | (go_at_call 104; refine (low_any _ _ _ (by omega) (by omega)).mono ?_; rw [show (18446744073709551615 : Int).toNat = 18446744073709551615 from rfl]; rintro e w2 ⟨rfl, rfl⟩) | (go_at_call 108; refine (rotate_yes _ _ _ _ (by omega) HLO.out HX.out (by omega) (by omega)).mono ?_; simp only [Int.toNat_natCast]; rw [HR.out]; rintro e w2 ⟨rfl, m2, rfl⟩) | (go_at_call 123; refine (again_i row _ _ hrow HX.out).mono ?_; rintro e w2 ⟨rfl, rfl⟩))
    go_ret2
    exact ⟨rfl, below_drewN hb1 _⟩

set_option maxHeartbeats 2000000 in
theorem decM_no1 (r : Int) (w : World) (hr0 : 0 ≤ r) (hr1 : r < 64) (HF : Hid (frontI 64 = 0)) :
    Calls Tryd.prog 88 #[.int .i64 1, .int .i64 r, .int .i64 63] w fun e w' => e = .returned (.tuple #[.int .u64 0, .int .i64 3]) ∧ Below w.heap.size w w' := by
  have hw3 : IntKind.i64.wrap 64 = 64 := IntWalk.i64_in _ (by omega)
  have hw4 : IntKind.i64.wrap 63 = 63 := IntWalk.i64_in _ (by omega)
  by_cases hro : r < 1
  all_goals by_cases hrs : r < 63
  all_goals try (exfalso; omega)
  all_goals
    go_enter Tryd.func88, Tryd.ntmps88
    go_wp2_with fail
    go_quiet ((go_at_call 109; exact Calls.quiet_of_same (front_f _ _ _ (by omega) (by omega) HF)))
    go_wp2
    go_ret2
    exact ⟨rfl, below_drewN ((Below.refl _ _).alloc (Nat.le_refl _) _) _⟩

theorem lowAll_lt (k : Nat) : ((lowN 18446744073709551615 k : Nat) : Int) < 18446744073709551616 := by
  have : lowN 18446744073709551615 k ≤ 18446744073709551615 := Nat.mod_le _ _
  omega
theorem rotate_64 (v k : Int) (w : World) (h0 : 0 ≤ v) (h1 : v < 18446744073709551616) (hk0 : 0 ≤ k) (hk1 : k < 64) :
    Calls Tryd.prog 108 #[.int .u64 v, .int .i64 k, .int .i64 64] w fun e w' => e = .returned (.tuple #[.int .u64 ((rotN v.toNat k.toNat 64 : Nat) : Int), .int .i64 0]) ∧ ∃ m, w' = w.drewN m :=
  rotate_yes v k 64 w h0 h1 (by omega) hk0 hk1
theorem again_64 (x : Nat) (w : World) (h1 : x < 18446744073709551616) :
    Calls Tryd.prog 123 #[.int .u64 x, .int .i64 64] w fun e w' => e = .returned (.int .u64 ((againN x 64 : Nat) : Int)) ∧ w = w' := again_any x 64 w h1 (by omega)

set_option maxHeartbeats 2000000 in
theorem decM_yes1 (r s : Int) (w : World) (hr0 : 0 ≤ r) (hr1 : r < 64) (hs0 : 0 ≤ s) (hs1 : s < 64) (f : Int) (hf0 : -64 ≤ f) (hf1 : f ≤ 60) (HF : Hid (frontI 64 = f)) (o : Int) (HO : s - f + 1 = o) (H1 : 1 ≤ o) (H2 : o < 64)
    (row : Nat) (HR : Hid (rotN (lowN 18446744073709551615 (min o.toNat 64)) r.toNat 64 = row)) (hrow : row < 18446744073709551616) :
    Calls Tryd.prog 88 #[.int .i64 1, .int .i64 r, .int .i64 s] w fun e w' => e = .returned (.tuple #[.int .u64 ((againN row 64 : Nat) : Int), .int .i64 0]) ∧ Below w.heap.size w w' := by
  have hw1 : IntKind.i64.wrap (s - f) = s - f := IntWalk.i64_in _ (by omega)
  have hw2 : IntKind.i64.wrap (s - f + 1) = s - f + 1 := IntWalk.i64_in _ (by omega)
  by_cases hro : r < 1
  all_goals by_cases hso : s < 1
  all_goals by_cases hrs : r < s
  all_goals try (exfalso; omega)
  all_goals
    go_enter Tryd.func88, Tryd.ntmps88
    go_wp2_with fail
    go_quiet ((go_at_call 109; exact Calls.quiet_of_same (front_f _ _ _ (by omega) (by omega) HF)))
    go_wp2_with (first | (go_at_call 104; refine (low_any _ _ _ (by omega) (by omega)).mono ?_; rw [show (18446744073709551615 : Int).toNat = 18446744073709551615 from rfl]; rintro e w2 ⟨rfl, rfl⟩) | (go_at_call 108; refine (rotate_64 _ _ _ (by omega) (lowAll_lt _) (by omega) (by omega)).mono ?_; simp only [Int.toNat_natCast]; rw [HR.out]; rintro e w2 ⟨rfl, m2, rfl⟩) | (go_at_call 123; refine (again_64 row _ hrow).mono ?_; rintro e w2 ⟨rfl, rfl⟩))
    go_ret2
    exact ⟨rfl, below_drewN ((Below.refl _ _).alloc (Nat.le_refl _) _) _⟩
end Go.Proofs.YtdjdbgilimjagaaDoor
