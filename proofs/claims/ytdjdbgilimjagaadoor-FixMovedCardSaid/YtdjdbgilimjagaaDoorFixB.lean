/- Layer 26 of the program, walked: Value, any. No condition. -/
import Derived.Test.YtdjdbgilimjagaaDoorFixA
set_option linter.unusedVariables false
set_option linter.unusedSimpArgs false
namespace Go.Proofs.YtdjdbgilimjagaaDoor
open Go.RowKit
set_option maxRecDepth 100000

set_option maxHeartbeats 1000000 in
theorem value_align (kind : Int) (f t : Nat) (w : World) (h0 : 2 ≤ kind) (h1 : kind ≤ 9) (g : Nat) (least most by' v : Int) (hcf : ∀ (args : Array Value) (w : World), (callFunc g args).run Tryd.prog w = .ok (.enter g args) w)
    (HR : Hid (∀ w, Calls Tryd.prog 47 #[.int .i64 kind] w fun e w' => e = .returned (.agg #[.func (Fn.func g) #[] #[], .int .i64 least, .int .i64 most, .int .i64 by']) ∧ Below w.heap.size w w'))
    (HG : Hid (∀ w, Calls Tryd.prog g #[.int .u64 f, .int .u64 t] w fun e w' => e = .returned (.int .i64 v) ∧ w = w')) (hb0 : 1 ≤ by') (hb1 : by' ≤ 8) (hv0 : -9223372036854775808 ≤ v) (hv1 : v ≤ 9223372036854775807) (hm : (v.tmod by' != 0) = true) :
    Calls Tryd.prog 23 #[.int .i64 kind, .int .u64 f, .int .u64 t] w fun e w' => e = .returned (.tuple #[.int .u64 0, .int .i64 5]) ∧ Below w.heap.size w w' := by
  go_enter Tryd.func23, Tryd.ntmps23
  go_wp2_with fail
  refine (HR.out _).mono ?_
  rintro e w1 ⟨rfl, hw1⟩
  go_wp2_with fail
  refine (HG.out _).mono ?_
  rintro e w2 ⟨rfl, rfl⟩
  go_wp2_with fail
  go_ret2
  exact ⟨rfl, bt2 hw1 (balloc w1 _)⟩

set_option maxHeartbeats 1000000 in
theorem value_below (kind : Int) (f t : Nat) (w : World) (h0 : 2 ≤ kind) (h1 : kind ≤ 9) (g : Nat) (least most by' v : Int) (hcf : ∀ (args : Array Value) (w : World), (callFunc g args).run Tryd.prog w = .ok (.enter g args) w)
    (HR : Hid (∀ w, Calls Tryd.prog 47 #[.int .i64 kind] w fun e w' => e = .returned (.agg #[.func (Fn.func g) #[] #[], .int .i64 least, .int .i64 most, .int .i64 by']) ∧ Below w.heap.size w w'))
    (HG : Hid (∀ w, Calls Tryd.prog g #[.int .u64 f, .int .u64 t] w fun e w' => e = .returned (.int .i64 v) ∧ w = w')) (hb0 : 1 ≤ by') (hb1 : by' ≤ 8) (hv0 : -9223372036854775808 ≤ v) (hv1 : v ≤ 9223372036854775807) (hm : (v.tmod by' != 0) = false) (hl : v < least) :
    Calls Tryd.prog 23 #[.int .i64 kind, .int .u64 f, .int .u64 t] w fun e w' => e = .returned (.tuple #[.int .u64 0, .int .i64 4]) ∧ Below w.heap.size w w' := by
  go_enter Tryd.func23, Tryd.ntmps23
  go_wp2_with fail
  refine (HR.out _).mono ?_
  rintro e w1 ⟨rfl, hw1⟩
  go_wp2_with fail
  refine (HG.out _).mono ?_
  rintro e w2 ⟨rfl, rfl⟩
  go_wp2_with fail
  go_ret2
  exact ⟨rfl, bt2 hw1 (balloc w1 _)⟩

set_option maxHeartbeats 1000000 in
theorem value_above (kind : Int) (f t : Nat) (w : World) (h0 : 2 ≤ kind) (h1 : kind ≤ 9) (g : Nat) (least most by' v : Int) (hcf : ∀ (args : Array Value) (w : World), (callFunc g args).run Tryd.prog w = .ok (.enter g args) w)
    (HR : Hid (∀ w, Calls Tryd.prog 47 #[.int .i64 kind] w fun e w' => e = .returned (.agg #[.func (Fn.func g) #[] #[], .int .i64 least, .int .i64 most, .int .i64 by']) ∧ Below w.heap.size w w'))
    (HG : Hid (∀ w, Calls Tryd.prog g #[.int .u64 f, .int .u64 t] w fun e w' => e = .returned (.int .i64 v) ∧ w = w')) (hb0 : 1 ≤ by') (hb1 : by' ≤ 8) (hv0 : -9223372036854775808 ≤ v) (hv1 : v ≤ 9223372036854775807) (hm : (v.tmod by' != 0) = false) (hl : ¬ v < least) (hh : most < v) :
    Calls Tryd.prog 23 #[.int .i64 kind, .int .u64 f, .int .u64 t] w fun e w' => e = .returned (.tuple #[.int .u64 0, .int .i64 4]) ∧ Below w.heap.size w w' := by
  go_enter Tryd.func23, Tryd.ntmps23
  go_wp2_with fail
  refine (HR.out _).mono ?_
  rintro e w1 ⟨rfl, hw1⟩
  go_wp2_with fail
  refine (HG.out _).mono ?_
  rintro e w2 ⟨rfl, rfl⟩
  go_wp2_with fail
  go_ret2
  exact ⟨rfl, bt2 hw1 (balloc w1 _)⟩

set_option maxHeartbeats 1000000 in
theorem value_right (kind : Int) (f t : Nat) (w : World) (h0 : 2 ≤ kind) (h1 : kind ≤ 9) (g : Nat) (least most by' v : Int) (hcf : ∀ (args : Array Value) (w : World), (callFunc g args).run Tryd.prog w = .ok (.enter g args) w)
    (HR : Hid (∀ w, Calls Tryd.prog 47 #[.int .i64 kind] w fun e w' => e = .returned (.agg #[.func (Fn.func g) #[] #[], .int .i64 least, .int .i64 most, .int .i64 by']) ∧ Below w.heap.size w w'))
    (HG : Hid (∀ w, Calls Tryd.prog g #[.int .u64 f, .int .u64 t] w fun e w' => e = .returned (.int .i64 v) ∧ w = w')) (hb0 : 1 ≤ by') (hb1 : by' ≤ 8) (hv0 : -9223372036854775808 ≤ v) (hv1 : v ≤ 9223372036854775807) (hm : (v.tmod by' != 0) = false) (hl : ¬ v < least) (hh : ¬ most < v) :
    Calls Tryd.prog 23 #[.int .i64 kind, .int .u64 f, .int .u64 t] w fun e w' => e = .returned (.tuple #[.int .u64 ((v % 18446744073709551616).toNat : Nat), .int .i64 0]) ∧ Below w.heap.size w w' := by
  go_enter Tryd.func23, Tryd.ntmps23
  go_wp2_with fail
  refine (HR.out _).mono ?_
  rintro e w1 ⟨rfl, hw1⟩
  go_wp2_with fail
  refine (HG.out _).mono ?_
  rintro e w2 ⟨rfl, rfl⟩
  go_wp2_with fail
  go_ret2
  exact ⟨ret2_int (by first | rfl | (simp [IntKind.wrap_u64]; try omega)) rfl, bt2 hw1 (balloc w1 _)⟩

theorem funcK_enters (kind : Int) : ∀ (args : Array Value) (w : World), (callFunc (funcK kind) args).run Tryd.prog w = .ok (.enter (funcK kind) args) w := by
  intro args w
  unfold funcK
  by_cases h6 : kind = 6
  · rw [if_pos h6]; exact enters_70 args w
  · rw [if_neg h6]
    by_cases h7 : 7 ≤ kind
    · rw [if_pos h7]; exact enters_71 args w
    · rw [if_neg h7]; exact enters_69 args w
theorem funcK_any (kind : Int) (f t : Nat) (hf : f < 18446744073709551616) (ht : t < 18446744073709551616) (w : World) : Calls Tryd.prog (funcK kind) #[.int .u64 f, .int .u64 t] w fun e w' => e = .returned (.int .i64 (valK kind f t)) ∧ w = w' := by
  unfold funcK valK
  by_cases h6 : kind = 6
  · rw [if_pos h6, if_pos h6]; exact pages_any f t w hf ht
  · rw [if_neg h6, if_neg h6]
    by_cases h7 : 7 ≤ kind
    · rw [if_pos h7, if_pos h7]; exact low26_any f t w ht
    · rw [if_neg h7, if_neg h7]; exact far_any f t w hf ht
set_option maxHeartbeats 1000000 in
theorem value_any (kind : Int) (f t : Nat) (w : World) (hf : f < 18446744073709551616) (ht : t < 18446744073709551616) :
    Calls Tryd.prog 23 #[.int .i64 kind, .int .u64 f, .int .u64 t] w fun e w' => e = .returned (.tuple #[.int .u64 ((valueM kind f t).1 : Nat), .int .i64 (valueM kind f t).2]) ∧ Below w.heap.size w w' := by
  unfold valueM
  by_cases hg : kind < 1 ∨ 9 < kind
  · rw [if_pos hg]
    by_cases h1 : kind < 1
    · go_enter Tryd.func23, Tryd.ntmps23
      go_wp2_with fail
      go_ret2
      exact ⟨rfl, Below.refl _ _⟩
    · have h9 : 9 < kind := by omega
      go_enter Tryd.func23, Tryd.ntmps23
      go_wp2_with fail
      go_ret2
      exact ⟨rfl, Below.refl _ _⟩
  rw [if_neg hg]
  by_cases h1 : kind = 1
  · rw [if_pos h1]
    subst h1
    go_enter Tryd.func23, Tryd.ntmps23
    go_wp2_with fail
    go_ret2
    exact ⟨rfl, Below.refl _ _⟩
  rw [if_neg h1]
  have hk2 : 2 ≤ kind := by omega
  have hk9 : kind ≤ 9 := by omega
  have hb : 1 ≤ byK kind ∧ byK kind ≤ 8 := by unfold byK; split <;> (try split) <;> decide
  have hv := val_bd kind f t
  have HR := Lib.hid (fun w => rule_any kind w hk2 hk9)
  have HG := Lib.hid (funcK_any kind f t hf ht)
  by_cases hm : (valK kind f t).tmod (byK kind) ≠ 0
  · rw [if_pos hm]
    exact value_align kind f t w hk2 hk9 _ _ _ _ _ (funcK_enters kind) HR HG hb.1 hb.2 hv.1 hv.2 (by simpa using hm)
  rw [if_neg hm]
  have hm2 : ((valK kind f t).tmod (byK kind) != 0) = false := by simpa using hm
  by_cases hl : valK kind f t < leastK kind
  · rw [if_pos (.inl hl)]
    exact value_below kind f t w hk2 hk9 _ _ _ _ _ (funcK_enters kind) HR HG hb.1 hb.2 hv.1 hv.2 hm2 hl
  by_cases hh : mostK kind < valK kind f t
  · rw [if_pos (.inr hh)]
    exact value_above kind f t w hk2 hk9 _ _ _ _ _ (funcK_enters kind) HR HG hb.1 hb.2 hv.1 hv.2 hm2 hl hh
  rw [if_neg (by omega)]
  exact value_right kind f t w hk2 hk9 _ _ _ _ _ (funcK_enters kind) HR HG hb.1 hb.2 hv.1 hv.2 hm2 hl hh
/-- Value, its answer given. -/
theorem value_at (kind : Int) (f t : Nat) (w : World) (hf : f < 18446744073709551616) (ht : t < 18446744073709551616) (V : Nat) (E : Int) (HV : Hid ((valueM kind f t).1 = V)) (HE : Hid ((valueM kind f t).2 = E)) :
    Calls Tryd.prog 23 #[.int .i64 kind, .int .u64 f, .int .u64 t] w fun e w' => e = .returned (.tuple #[.int .u64 (V : Int), .int .i64 E]) ∧ Below w.heap.size w w' := by
  rw [← HV.out, ← HE.out]
  exact value_any kind f t w hf ht
end Go.Proofs.YtdjdbgilimjagaaDoor
