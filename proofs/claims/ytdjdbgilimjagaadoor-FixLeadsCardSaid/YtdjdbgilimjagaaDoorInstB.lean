/- Layer 4 of the program, walked: the shape of an operation; whether a register, a number is right. No condition. -/
import Derived.Test.YtdjdbgilimjagaaDoorInstS
import Derived.Test.YtdjdbgilimjagaaDoorInstA
import Derived.Test.YtdjdbgilimjagaaDoorMaskG
import Derived.Test.YtdjdbgilimjagaaDoorSpecC
import Derived.Deep.DeepCutAuto
import Derived.Deep.CutBlock
set_option linter.unusedVariables false
set_option linter.unusedSimpArgs false
namespace Go.Proofs.YtdjdbgilimjagaaDoor
open Go.RowKit
set_option maxRecDepth 100000

theorem kept_cells {w w1 : World} {C : Array Value} {T : Nat} (hb : Below (w.alloc (.cells C T)).heap.size (w.alloc (.cells C T)) w1) (j : Nat) : w1.cell? ⟨w.heap.size, j, none⟩ = C[j]? :=
  (hb.cell (p := ⟨w.heap.size, j, none⟩) (by simp)).trans (cell_of_row _ _ j C T (0, 0) (heap_alloc_new w _))
theorem kept_free {w w1 : World} {C : Array Value} {T : Nat} (hb : Below (w.alloc (.cells C T)).heap.size (w.alloc (.cells C T)) w1) (j : Nat) : w1.frozen? ⟨w.heap.size, j, none⟩ = false :=
  (hb.frozen (p := ⟨w.heap.size, j, none⟩) (by simp)).trans (frozen_of_row _ _ j C T (heap_alloc_new w _))

set_option maxHeartbeats 400000 in
theorem shape_zero (op : Int) (w : World) (h : op < 1 ∨ 39 < op) :
    Calls Tryd.prog 18 #[.int .i64 op] w fun e w' => e = .returned (.int .i64 0) ∧ Below w.heap.size w w' := by
  rcases h with h | h
  all_goals
    go_enter Tryd.func18, Tryd.ntmps18
    go_wp2
    go_ret
    exact ⟨rfl, Below.refl _ _⟩

set_option maxHeartbeats 400000 in
theorem shape_some (op : Int) (s : Int) (nm : ByteArray) (w : World) (h0 : 1 ≤ op) (h1 : op ≤ 39) (hi : ∀ w : World, (Instr.index 86 opsV (.int .i64 op)).run Tryd.prog w = .ok (.agg #[.string nm, .int .i64 s]) w) :
    Calls Tryd.prog 18 #[.int .i64 op] w fun e w' => e = .returned (.int .i64 s) ∧ Below w.heap.size w w' := by
  have hfd : ∀ (w : World), (Instr.field 85 (.agg #[.string nm, .int .i64 s]) 1).run Tryd.prog w = .ok (.int .i64 s) w := fun _ => by kernel_rfl
  go_enter Tryd.func18, Tryd.ntmps18
  go_wp2_with (go_at_call 43; refine (ops_any _).mono ?_; rintro e w1 ⟨rfl, hb1⟩)
  go_ret
  exact ⟨rfl, hb1⟩

theorem shape_any (op : Int) (w : World) :
    Calls Tryd.prog 18 #[.int .i64 op] w fun e w' => e = .returned (.int .i64 (shapeI op)) ∧ Below w.heap.size w w' := by
  unfold shapeI
  by_cases h : op < 1 ∨ 39 < op
  · rw [if_pos h]; exact shape_zero op w h
  · rw [if_neg h]; exact shape_some op _ _ w (by omega) (by omega) (ops_index op (by omega) (by omega))

set_option maxHeartbeats 400000 in
theorem reg_any (b : Bool) (v : Int) (w : World) :
    Calls Tryd.prog 38 #[.bool b, .int .i64 v] w fun e w' => e = .returned (.bool (regB b v)) ∧ w = w' := by
  go_enter Tryd.func38, Tryd.ntmps38
  go_wp2
  all_goals
    go_ret
    refine ⟨ret_bool ?_, rfl⟩
    unfold regB
    simp [*]
    try (intros; omega)

set_option maxHeartbeats 400000 in
theorem step_any (v a b d : Int) (w : World) :
    Calls Tryd.prog 39 #[.int .i64 v, .int .i64 a, .int .i64 b, .int .i64 d] w fun e w' => e = .returned (.bool (stepB v a b d)) ∧ w = w' := by
  by_cases hd : d = 0
  · subst hd
    go_enter Tryd.func39, Tryd.ntmps39
    go_wp2
    go_ret
    exact ⟨ret_bool (by unfold stepB; rw [if_pos rfl]), rfl⟩
  · have hb : (d == 0) = false := beq_eq_false_iff_ne.2 hd
    go_enter Tryd.func39, Tryd.ntmps39
    go_wp2
    all_goals
      go_ret
      refine ⟨ret_bool ?_, rfl⟩
      unfold stepB
      rw [if_neg hd]
      simp [*]
      try (intros; omega)

set_option maxHeartbeats 400000 in
theorem is_zero (op d n m a imm mask shift amount cond : Int) (w : World) (h : Hid (shapeI op = 0)) :
    Calls Tryd.prog 13 #[.agg #[.int .i64 op, .int .i64 d, .int .i64 n, .int .i64 m, .int .i64 a, .int .i64 imm, .int .u64 mask, .int .i64 shift, .int .i64 amount, .int .i64 cond]] w fun e w' => e = .returned (.bool false) ∧ Below w.heap.size w w' := by
  go_enter Tryd.func13, Tryd.ntmps13
  go_wp2_with (go_at_call 18; refine (shape_any _ _).mono ?_; rw [h.out]; rintro e w1 ⟨rfl, hb1⟩)
  go_ret
  exact ⟨rfl, bel_of_res hb1⟩

end Go.Proofs.YtdjdbgilimjagaaDoor
