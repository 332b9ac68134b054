/- Layer 26 of the program, walked: a relocation's value. No condition. -/
import Derived.Test.YtdjdbgilimjagaaDoorLawA
import Derived.Test.YtdjdbgilimjagaaDoorSpecH
import Derived.Outline
set_option linter.unusedVariables false
set_option linter.unusedSimpArgs false
namespace Go.Proofs.YtdjdbgilimjagaaDoor
open Go.RowKit
set_option maxRecDepth 100000

theorem far_any (f t : Nat) (w : World) (hf : f < 18446744073709551616) (ht : t < 18446744073709551616) : Calls Tryd.prog 69 #[.int .u64 f, .int .u64 t] w fun e w' => e = .returned (.int .i64 (farI f t)) ∧ w = w' := by
  go_enter Tryd.func69, Tryd.ntmps69
  go_wp2
  go_ret
  refine ⟨ret_int ?_, rfl⟩
  unfold farI wrap64
  simp [IntKind.wrap_i64, IntKind.wrap_u64]
  try omega
theorem andNot_page (f : Nat) (hf : f < 18446744073709551616) : bits .andNot .u64 (f : Int) 4095 = ((pageN f : Nat) : Int) := by
  have e : (BitVec.ofInt 64 (f : Int) &&& ~~~ BitVec.ofInt 64 4095).toNat = pageN f := by
    rw [BitVec.toNat_and, BitVec.toNat_not]
    have h1 : (BitVec.ofInt 64 (f : Int)).toNat = f := by rw [BitVec.toNat_ofInt]; omega
    have h2 : (BitVec.ofInt 64 4095).toNat = 4095 := by decide
    rw [h1, h2]
    have h3 : pageN f = f / 4096 * 2 ^ 12 := by unfold pageN; omega
    rw [h3]
    apply Nat.eq_of_testBit_eq
    intro i
    rw [Nat.testBit_and, Nat.testBit_mul_two_pow]
    have h4 : (2 ^ 64 - 1 - 4095 : Nat).testBit i = (decide (i < 64) && !(2 ^ 12 - 1 : Nat).testBit i) := by
      have := Nat.testBit_two_pow_sub_succ (x := 4095) (n := 64) (by decide) i
      rw [show (2 : Nat) ^ 64 - 1 - 4095 = 2 ^ 64 - (4095 + 1) from by decide]
      exact this
    rw [h4, Nat.testBit_two_pow_sub_one]
    have h5 : (f / 4096).testBit (i - 12) = f.testBit (12 + (i - 12)) := by
      rw [show (4096 : Nat) = 2 ^ 12 from by decide, Nat.testBit_div_two_pow, Nat.add_comm]
    rw [h5]
    by_cases hi : 12 ≤ i
    · rw [show 12 + (i - 12) = i from by omega]
      by_cases h64 : i < 64
      · simp [hi, h64]
      · have : f.testBit i = false := Nat.testBit_lt_two_pow (Nat.lt_of_lt_of_le hf (show 2 ^ 64 ≤ 2 ^ i from Nat.pow_le_pow_right (by decide) (by omega)))
        simp [this]
    · simp [hi]; omega
  show IntKind.u64.wrap ((BitVec.ofInt 64 (f : Int) &&& ~~~ BitVec.ofInt 64 4095).toNat : Int) = _
  rw [e, IntKind.wrap_u64]
  have := page_le f
  omega
theorem pages_any (f t : Nat) (w : World) (hf : f < 18446744073709551616) (ht : t < 18446744073709551616) : Calls Tryd.prog 70 #[.int .u64 f, .int .u64 t] w fun e w' => e = .returned (.int .i64 ((farI (pageN f) (pageN t)).tdiv 4096)) ∧ w = w' := by
  have e1 := andNot_page f hf
  have e2 := andNot_page t ht
  have h1 := page_le f
  have h2 := page_le t
  obtain ⟨z, hz⟩ : ∃ z, farI (pageN f) (pageN t) = z := ⟨_, rfl⟩
  have hb := far_bd (pageN f) (pageN t)
  rw [hz] at hb ⊢
  have HZ := Lib.hid hz
  have hq : wrap64 (z.tdiv 4096) = z.tdiv 4096 := by
    apply wrap_small
    · rcases Int.le_total 0 z with hz | hz
      · rw [Int.tdiv_eq_ediv_of_nonneg hz]; omega
      · obtain ⟨y, rfl⟩ : ∃ y, z = -y := ⟨-z, by omega⟩
        rw [Int.neg_tdiv, Int.tdiv_eq_ediv_of_nonneg (by omega)]; omega
    · rcases Int.le_total 0 z with hz | hz
      · rw [Int.tdiv_eq_ediv_of_nonneg hz]; omega
      · obtain ⟨y, rfl⟩ : ∃ y, z = -y := ⟨-z, by omega⟩
        rw [Int.neg_tdiv, Int.tdiv_eq_ediv_of_nonneg (by omega)]; omega
  clear hz
  go_enter Tryd.func70, Tryd.ntmps70
  go_wp2_with (go_at_call 69; refine (far_any (pageN f) (pageN t) _ (by omega) (by omega)).mono ?_; rw [HZ.out]; rintro e w1 ⟨rfl, rfl⟩)
  go_ret
  refine ⟨ret_int ?_, rfl⟩
  first | exact hq | rfl
theorem low26_any (f t : Nat) (w : World) (ht : t < 18446744073709551616) : Calls Tryd.prog 71 #[.int .u64 f, .int .u64 t] w fun e w' => e = .returned (.int .i64 ((t % 4096 : Nat) : Int)) ∧ w = w' := by
  go_enter Tryd.func71, Tryd.ntmps71
  go_wp2
  go_ret
  exact ⟨ret_int (by omega), rfl⟩
theorem enters_69 (args : Array Value) (w : World) : (callFunc 69 args).run Tryd.prog w = .ok (.enter 69 args) w := by kernel_rfl
theorem enters_70 (args : Array Value) (w : World) : (callFunc 70 args).run Tryd.prog w = .ok (.enter 70 args) w := by kernel_rfl
theorem enters_71 (args : Array Value) (w : World) : (callFunc 71 args).run Tryd.prog w = .ok (.enter 71 args) w := by kernel_rfl
/-- The function that a kind's value comes of. -/
def funcK (kind : Int) : Nat := if kind = 6 then 70 else if 7 ≤ kind then 71 else 69
set_option maxHeartbeats 400000 in
theorem rule_2 (w : World) : Calls Tryd.prog 47 #[.int .i64 2] w fun e w' => e = .returned (.agg #[.func (Fn.func 69) #[] #[], .int .i64 (-134217728), .int .i64 134217724, .int .i64 4]) ∧ Below w.heap.size w w' := by
  go_enter Tryd.func47, Tryd.ntmps47
  iterate 11 go_step
  refine wpList_to 11 13 2 (.agg #[.func (Fn.func 69) #[] #[], .int .i64 (-134217728), .int .i64 134217724, .int .i64 4]) (.pointer (some ⟨w.heap.size, 0, none⟩)) (by kernel_rfl) ?_
  intro tm h13 h2
  simp only [List.drop]
  go_wp2
  exact bodyPost_ret (v := .agg #[.func (Fn.func 69) #[] #[], .int .i64 (-134217728), .int .i64 134217724, .int .i64 4]) (by simp [results, Tryd.results47, go_sem, h2]) rfl ⟨rfl, balloc w _⟩
set_option maxHeartbeats 400000 in
theorem rule_3 (w : World) : Calls Tryd.prog 47 #[.int .i64 3] w fun e w' => e = .returned (.agg #[.func (Fn.func 69) #[] #[], .int .i64 (-1048576), .int .i64 1048572, .int .i64 4]) ∧ Below w.heap.size w w' := by
  go_enter Tryd.func47, Tryd.ntmps47
  iterate 11 go_step
  refine wpList_to 11 13 2 (.agg #[.func (Fn.func 69) #[] #[], .int .i64 (-1048576), .int .i64 1048572, .int .i64 4]) (.pointer (some ⟨w.heap.size, 0, none⟩)) (by kernel_rfl) ?_
  intro tm h13 h2
  simp only [List.drop]
  go_wp2
  exact bodyPost_ret (v := .agg #[.func (Fn.func 69) #[] #[], .int .i64 (-1048576), .int .i64 1048572, .int .i64 4]) (by simp [results, Tryd.results47, go_sem, h2]) rfl ⟨rfl, balloc w _⟩
set_option maxHeartbeats 400000 in
theorem rule_4 (w : World) : Calls Tryd.prog 47 #[.int .i64 4] w fun e w' => e = .returned (.agg #[.func (Fn.func 69) #[] #[], .int .i64 (-1048576), .int .i64 1048572, .int .i64 4]) ∧ Below w.heap.size w w' := by
  go_enter Tryd.func47, Tryd.ntmps47
  iterate 11 go_step
  refine wpList_to 11 13 2 (.agg #[.func (Fn.func 69) #[] #[], .int .i64 (-1048576), .int .i64 1048572, .int .i64 4]) (.pointer (some ⟨w.heap.size, 0, none⟩)) (by kernel_rfl) ?_
  intro tm h13 h2
  simp only [List.drop]
  go_wp2
  exact bodyPost_ret (v := .agg #[.func (Fn.func 69) #[] #[], .int .i64 (-1048576), .int .i64 1048572, .int .i64 4]) (by simp [results, Tryd.results47, go_sem, h2]) rfl ⟨rfl, balloc w _⟩
set_option maxHeartbeats 400000 in
theorem rule_5 (w : World) : Calls Tryd.prog 47 #[.int .i64 5] w fun e w' => e = .returned (.agg #[.func (Fn.func 69) #[] #[], .int .i64 (-1048576), .int .i64 1048575, .int .i64 1]) ∧ Below w.heap.size w w' := by
  go_enter Tryd.func47, Tryd.ntmps47
  iterate 11 go_step
  refine wpList_to 11 13 2 (.agg #[.func (Fn.func 69) #[] #[], .int .i64 (-1048576), .int .i64 1048575, .int .i64 1]) (.pointer (some ⟨w.heap.size, 0, none⟩)) (by kernel_rfl) ?_
  intro tm h13 h2
  simp only [List.drop]
  go_wp2
  exact bodyPost_ret (v := .agg #[.func (Fn.func 69) #[] #[], .int .i64 (-1048576), .int .i64 1048575, .int .i64 1]) (by simp [results, Tryd.results47, go_sem, h2]) rfl ⟨rfl, balloc w _⟩
set_option maxHeartbeats 400000 in
theorem rule_6 (w : World) : Calls Tryd.prog 47 #[.int .i64 6] w fun e w' => e = .returned (.agg #[.func (Fn.func 70) #[] #[], .int .i64 (-1048576), .int .i64 1048575, .int .i64 1]) ∧ Below w.heap.size w w' := by
  go_enter Tryd.func47, Tryd.ntmps47
  iterate 11 go_step
  refine wpList_to 11 13 2 (.agg #[.func (Fn.func 70) #[] #[], .int .i64 (-1048576), .int .i64 1048575, .int .i64 1]) (.pointer (some ⟨w.heap.size, 0, none⟩)) (by kernel_rfl) ?_
  intro tm h13 h2
  simp only [List.drop]
  go_wp2
  exact bodyPost_ret (v := .agg #[.func (Fn.func 70) #[] #[], .int .i64 (-1048576), .int .i64 1048575, .int .i64 1]) (by simp [results, Tryd.results47, go_sem, h2]) rfl ⟨rfl, balloc w _⟩
set_option maxHeartbeats 400000 in
theorem rule_7 (w : World) : Calls Tryd.prog 47 #[.int .i64 7] w fun e w' => e = .returned (.agg #[.func (Fn.func 71) #[] #[], .int .i64 0, .int .i64 4096, .int .i64 1]) ∧ Below w.heap.size w w' := by
  go_enter Tryd.func47, Tryd.ntmps47
  iterate 11 go_step
  refine wpList_to 11 13 2 (.agg #[.func (Fn.func 71) #[] #[], .int .i64 0, .int .i64 4096, .int .i64 1]) (.pointer (some ⟨w.heap.size, 0, none⟩)) (by kernel_rfl) ?_
  intro tm h13 h2
  simp only [List.drop]
  go_wp2
  exact bodyPost_ret (v := .agg #[.func (Fn.func 71) #[] #[], .int .i64 0, .int .i64 4096, .int .i64 1]) (by simp [results, Tryd.results47, go_sem, h2]) rfl ⟨rfl, balloc w _⟩
set_option maxHeartbeats 400000 in
theorem rule_8 (w : World) : Calls Tryd.prog 47 #[.int .i64 8] w fun e w' => e = .returned (.agg #[.func (Fn.func 71) #[] #[], .int .i64 0, .int .i64 4096, .int .i64 8]) ∧ Below w.heap.size w w' := by
  go_enter Tryd.func47, Tryd.ntmps47
  iterate 11 go_step
  refine wpList_to 11 13 2 (.agg #[.func (Fn.func 71) #[] #[], .int .i64 0, .int .i64 4096, .int .i64 8]) (.pointer (some ⟨w.heap.size, 0, none⟩)) (by kernel_rfl) ?_
  intro tm h13 h2
  simp only [List.drop]
  go_wp2
  exact bodyPost_ret (v := .agg #[.func (Fn.func 71) #[] #[], .int .i64 0, .int .i64 4096, .int .i64 8]) (by simp [results, Tryd.results47, go_sem, h2]) rfl ⟨rfl, balloc w _⟩
set_option maxHeartbeats 400000 in
theorem rule_9 (w : World) : Calls Tryd.prog 47 #[.int .i64 9] w fun e w' => e = .returned (.agg #[.func (Fn.func 71) #[] #[], .int .i64 0, .int .i64 4096, .int .i64 1]) ∧ Below w.heap.size w w' := by
  go_enter Tryd.func47, Tryd.ntmps47
  iterate 11 go_step
  refine wpList_to 11 13 2 (.agg #[.func (Fn.func 71) #[] #[], .int .i64 0, .int .i64 4096, .int .i64 1]) (.pointer (some ⟨w.heap.size, 0, none⟩)) (by kernel_rfl) ?_
  intro tm h13 h2
  simp only [List.drop]
  go_wp2
  exact bodyPost_ret (v := .agg #[.func (Fn.func 71) #[] #[], .int .i64 0, .int .i64 4096, .int .i64 1]) (by simp [results, Tryd.results47, go_sem, h2]) rfl ⟨rfl, balloc w _⟩
theorem rule_any (kind : Int) (w : World) (h0 : 2 ≤ kind) (h1 : kind ≤ 9) :
    Calls Tryd.prog 47 #[.int .i64 kind] w fun e w' => e = .returned (.agg #[.func (Fn.func (funcK kind)) #[] #[], .int .i64 (leastK kind), .int .i64 (mostK kind), .int .i64 (byK kind)]) ∧ Below w.heap.size w w' := by
  rcases (show kind = 2 ∨ kind = 3 ∨ kind = 4 ∨ kind = 5 ∨ kind = 6 ∨ kind = 7 ∨ kind = 8 ∨ kind = 9 from by omega) with rfl | rfl | rfl | rfl | rfl | rfl | rfl | rfl
  · exact rule_2 w
  · exact rule_3 w
  · exact rule_4 w
  · exact rule_5 w
  · exact rule_6 w
  · exact rule_7 w
  · exact rule_8 w
  · exact rule_9 w

set_option maxHeartbeats 1000000 in
theorem value_align (kind : Int) (f t : Nat) (w : World) (h0 : 2 ≤ kind) (h1 : kind ≤ 9) (g : Nat) (least most by' v : Int) (hcf : ∀ (args : Array Value) (w : World), (callFunc g args).run Tryd.prog w = .ok (.enter g args) w)
    (HR : Hid (∀ w, Calls Tryd.prog 47 #[.int .i64 kind] w fun e w' => e = .returned (.agg #[.func (Fn.func g) #[] #[], .int .i64 least, .int .i64 most, .int .i64 by']) ∧ Below w.heap.size w w'))
    (HG : Hid (∀ w, Calls Tryd.prog g #[.int .u64 f, .int .u64 t] w fun e w' => e = .returned (.int .i64 v) ∧ w = w')) (hb0 : 1 ≤ by') (hb1 : by' ≤ 8) (hv0 : -9223372036854775808 ≤ v) (hv1 : v ≤ 9223372036854775807) (hm : (v.tmod by' != 0) = true) :
    Calls Tryd.prog 23 #[.int .i64 kind, .int .u64 f, .int .u64 t] w fun e w' => e = .returned (.tuple #[.int .u64 0, .int .i64 5]) ∧ Below w.heap.size w w' := by
  go_enter Tryd.func23, Tryd.ntmps23
  go_wp2_with fail
  refine (HR.out _).mono ?_
  rintro e w1 ⟨rfl, hw1⟩
  go_wp2_with fail
  refine (HG.out _).mono ?_
  rintro e w2 ⟨rfl, rfl⟩
  go_wp2_with fail
  go_ret2
  exact ⟨rfl, bt2 hw1 (balloc w1 _)⟩

set_option maxHeartbeats 1000000 in
theorem value_below (kind : Int) (f t : Nat) (w : World) (h0 : 2 ≤ kind) (h1 : kind ≤ 9) (g : Nat) (least most by' v : Int) (hcf : ∀ (args : Array Value) (w : World), (callFunc g args).run Tryd.prog w = .ok (.enter g args) w)
    (HR : Hid (∀ w, Calls Tryd.prog 47 #[.int .i64 kind] w fun e w' => e = .returned (.agg #[.func (Fn.func g) #[] #[], .int .i64 least, .int .i64 most, .int .i64 by']) ∧ Below w.heap.size w w'))
    (HG : Hid (∀ w, Calls Tryd.prog g #[.int .u64 f, .int .u64 t] w fun e w' => e = .returned (.int .i64 v) ∧ w = w')) (hb0 : 1 ≤ by') (hb1 : by' ≤ 8) (hv0 : -9223372036854775808 ≤ v) (hv1 : v ≤ 9223372036854775807) (hm : (v.tmod by' != 0) = false) (hl : v < least) :
    Calls Tryd.prog 23 #[.int .i64 kind, .int .u64 f, .int .u64 t] w fun e w' => e = .returned (.tuple #[.int .u64 0, .int .i64 4]) ∧ Below w.heap.size w w' := by
  go_enter Tryd.func23, Tryd.ntmps23
  go_wp2_with fail
  refine (HR.out _).mono ?_
  rintro e w1 ⟨rfl, hw1⟩
  go_wp2_with fail
  refine (HG.out _).mono ?_
  rintro e w2 ⟨rfl, rfl⟩
  go_wp2_with fail
  go_ret2
  exact ⟨rfl, bt2 hw1 (balloc w1 _)⟩

set_option maxHeartbeats 1000000 in
theorem value_above (kind : Int) (f t : Nat) (w : World) (h0 : 2 ≤ kind) (h1 : kind ≤ 9) (g : Nat) (least most by' v : Int) (hcf : ∀ (args : Array Value) (w : World), (callFunc g args).run Tryd.prog w = .ok (.enter g args) w)
    (HR : Hid (∀ w, Calls Tryd.prog 47 #[.int .i64 kind] w fun e w' => e = .returned (.agg #[.func (Fn.func g) #[] #[], .int .i64 least, .int .i64 most, .int .i64 by']) ∧ Below w.heap.size w w'))
    (HG : Hid (∀ w, Calls Tryd.prog g #[.int .u64 f, .int .u64 t] w fun e w' => e = .returned (.int .i64 v) ∧ w = w')) (hb0 : 1 ≤ by') (hb1 : by' ≤ 8) (hv0 : -9223372036854775808 ≤ v) (hv1 : v ≤ 9223372036854775807) (hm : (v.tmod by' != 0) = false) (hl : ¬ v < least) (hh : most < v) :
    Calls Tryd.prog 23 #[.int .i64 kind, .int .u64 f, .int .u64 t] w fun e w' => e = .returned (.tuple #[.int .u64 0, .int .i64 4]) ∧ Below w.heap.size w w' := by
  go_enter Tryd.func23, Tryd.ntmps23
  go_wp2_with fail
  refine (HR.out _).mono ?_
  rintro e w1 ⟨rfl, hw1⟩
  go_wp2_with fail
  refine (HG.out _).mono ?_
  rintro e w2 ⟨rfl, rfl⟩
  go_wp2_with fail
  go_ret2
  exact ⟨rfl, bt2 hw1 (balloc w1 _)⟩

set_option maxHeartbeats 1000000 in
theorem value_right (kind : Int) (f t : Nat) (w : World) (h0 : 2 ≤ kind) (h1 : kind ≤ 9) (g : Nat) (least most by' v : Int) (hcf : ∀ (args : Array Value) (w : World), (callFunc g args).run Tryd.prog w = .ok (.enter g args) w)
    (HR : Hid (∀ w, Calls Tryd.prog 47 #[.int .i64 kind] w fun e w' => e = .returned (.agg #[.func (Fn.func g) #[] #[], .int .i64 least, .int .i64 most, .int .i64 by']) ∧ Below w.heap.size w w'))
    (HG : Hid (∀ w, Calls Tryd.prog g #[.int .u64 f, .int .u64 t] w fun e w' => e = .returned (.int .i64 v) ∧ w = w')) (hb0 : 1 ≤ by') (hb1 : by' ≤ 8) (hv0 : -9223372036854775808 ≤ v) (hv1 : v ≤ 9223372036854775807) (hm : (v.tmod by' != 0) = false) (hl : ¬ v < least) (hh : ¬ most < v) :
    Calls Tryd.prog 23 #[.int .i64 kind, .int .u64 f, .int .u64 t] w fun e w' => e = .returned (.tuple #[.int .u64 ((v % 18446744073709551616).toNat : Nat), .int .i64 0]) ∧ Below w.heap.size w w' := by
  go_enter Tryd.func23, Tryd.ntmps23
  go_wp2_with fail
  refine (HR.out _).mono ?_
  rintro e w1 ⟨rfl, hw1⟩
  go_wp2_with fail
  refine (HG.out _).mono ?_
  rintro e w2 ⟨rfl, rfl⟩
  go_wp2_with fail
  go_ret2
  exact ⟨ret2_int (by first | rfl | (simp [IntKind.wrap_u64]; try omega)) rfl, bt2 hw1 (balloc w1 _)⟩

theorem funcK_enters (kind : Int) : ∀ (args : Array Value) (w : World), (callFunc (funcK kind) args).run Tryd.prog w = .ok (.enter (funcK kind) args) w := by
  intro args w
  unfold funcK
  by_cases h6 : kind = 6
  · rw [if_pos h6]; exact enters_70 args w
  · rw [if_neg h6]
    by_cases h7 : 7 ≤ kind
    · rw [if_pos h7]; exact enters_71 args w
    · rw [if_neg h7]; exact enters_69 args w
theorem funcK_any (kind : Int) (f t : Nat) (hf : f < 18446744073709551616) (ht : t < 18446744073709551616) (w : World) : Calls Tryd.prog (funcK kind) #[.int .u64 f, .int .u64 t] w fun e w' => e = .returned (.int .i64 (valK kind f t)) ∧ w = w' := by
  unfold funcK valK
  by_cases h6 : kind = 6
  · rw [if_pos h6, if_pos h6]; exact pages_any f t w hf ht
  · rw [if_neg h6, if_neg h6]
    by_cases h7 : 7 ≤ kind
    · rw [if_pos h7, if_pos h7]; exact low26_any f t w ht
    · rw [if_neg h7, if_neg h7]; exact far_any f t w hf ht
set_option maxHeartbeats 1000000 in
theorem value_any (kind : Int) (f t : Nat) (w : World) (hf : f < 18446744073709551616) (ht : t < 18446744073709551616) :
    Calls Tryd.prog 23 #[.int .i64 kind, .int .u64 f, .int .u64 t] w fun e w' => e = .returned (.tuple #[.int .u64 ((valueM kind f t).1 : Nat), .int .i64 (valueM kind f t).2]) ∧ Below w.heap.size w w' := by
  unfold valueM
  by_cases hg : kind < 1 ∨ 9 < kind
  · rw [if_pos hg]
    by_cases h1 : kind < 1
    · go_enter Tryd.func23, Tryd.ntmps23
      go_wp2_with fail
      go_ret2
      exact ⟨rfl, Below.refl _ _⟩
    · have h9 : 9 < kind := by omega
      go_enter Tryd.func23, Tryd.ntmps23
      go_wp2_with fail
      go_ret2
      exact ⟨rfl, Below.refl _ _⟩
  rw [if_neg hg]
  by_cases h1 : kind = 1
  · rw [if_pos h1]
    subst h1
    go_enter Tryd.func23, Tryd.ntmps23
    go_wp2_with fail
    go_ret2
    exact ⟨rfl, Below.refl _ _⟩
  rw [if_neg h1]
  have hk2 : 2 ≤ kind := by omega
  have hk9 : kind ≤ 9 := by omega
  have hb : 1 ≤ byK kind ∧ byK kind ≤ 8 := by unfold byK; split <;> (try split) <;> decide
  have hv := val_bd kind f t
  have HR := Lib.hid (fun w => rule_any kind w hk2 hk9)
  have HG := Lib.hid (funcK_any kind f t hf ht)
  by_cases hm : (valK kind f t).tmod (byK kind) ≠ 0
  · rw [if_pos hm]
    exact value_align kind f t w hk2 hk9 _ _ _ _ _ (funcK_enters kind) HR HG hb.1 hb.2 hv.1 hv.2 (by simpa using hm)
  rw [if_neg hm]
  have hm2 : ((valK kind f t).tmod (byK kind) != 0) = false := by simpa using hm
  by_cases hl : valK kind f t < leastK kind
  · rw [if_pos (.inl hl)]
    exact value_below kind f t w hk2 hk9 _ _ _ _ _ (funcK_enters kind) HR HG hb.1 hb.2 hv.1 hv.2 hm2 hl
  by_cases hh : mostK kind < valK kind f t
  · rw [if_pos (.inr hh)]
    exact value_above kind f t w hk2 hk9 _ _ _ _ _ (funcK_enters kind) HR HG hb.1 hb.2 hv.1 hv.2 hm2 hl hh
  rw [if_neg (by omega)]
  exact value_right kind f t w hk2 hk9 _ _ _ _ _ (funcK_enters kind) HR HG hb.1 hb.2 hv.1 hv.2 hm2 hl hh
/-- Value, its answer given. -/
theorem value_at (kind : Int) (f t : Nat) (w : World) (hf : f < 18446744073709551616) (ht : t < 18446744073709551616) (V : Nat) (E : Int) (HV : Hid ((valueM kind f t).1 = V)) (HE : Hid ((valueM kind f t).2 = E)) :
    Calls Tryd.prog 23 #[.int .i64 kind, .int .u64 f, .int .u64 t] w fun e w' => e = .returned (.tuple #[.int .u64 (V : Int), .int .i64 E]) ∧ Below w.heap.size w w' := by
  rw [← HV.out, ← HE.out]
  exact value_any kind f t w hf ht
end Go.Proofs.YtdjdbgilimjagaaDoor
