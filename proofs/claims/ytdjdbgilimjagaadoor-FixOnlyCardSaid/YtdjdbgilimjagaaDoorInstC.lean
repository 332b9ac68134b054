/- Layer 4 of the program, walked: whether an instruction is right. Numbers are of their kinds; the library's table lies as it is laid. -/
import Derived.Test.YtdjdbgilimjagaaDoorInstB
set_option linter.unusedVariables false
set_option linter.unusedSimpArgs false
namespace Go.Proofs.YtdjdbgilimjagaaDoor
open Go.RowKit
set_option maxRecDepth 100000

set_option maxHeartbeats 1000000 in
theorem is_some (op d n m a imm shift amount cond s : Int) (mask : Nat) (w : World) (h : Hid (shapeI op = s)) (hs0 : 1 ≤ s) (hs1 : s ≤ 16) (hm1 : mask < 18446744073709551616) (HT : Hid (Tab w)) :
    Calls Tryd.prog 13 #[.agg #[.int .i64 op, .int .i64 d, .int .i64 n, .int .i64 m, .int .i64 a, .int .i64 imm, .int .u64 mask, .int .i64 shift, .int .i64 amount, .int .i64 cond]] w fun e w' => e = .returned (.bool (regsB s d n m a && numsB s imm shift amount cond && maskOkB s mask)) ∧ Below w.heap.size w w' := by
  have hsz : (s == 0) = false := beq_eq_false_iff_ne.2 (by omega)
  go_enter Tryd.func13, Tryd.ntmps13
  go_upto_region 5 with (first | (go_at_call 18; refine (shape_any _ _).mono ?_; rw [h.out]; rintro e w0 ⟨rfl, hb0⟩) | (go_at_call 37; refine (shapeOf_any s _ (by omega) hs1).mono ?_; rintro e w1 ⟨rfl, hb1⟩))
  have hbb := (hb0.trans (hb1.mono hb0.size)).alloc (Nat.le_trans hb0.size hb1.size) (.cells #[.bool (s_d s), .bool (s_n s), .bool (s_m s), .bool (s_a s), .int .i64 (s_least s), .int .i64 (s_most s), .int .i64 (s_by s), .int .i64 (s_amounts s), .int .i64 (s_of s), .int .i64 (s_shift s), .int .i64 (s_cond s), .bool (s_stack s)] 77)
  have hbw : Below w.heap.size w (w1.alloc (.cells #[.bool (s_d s), .bool (s_n s), .bool (s_m s), .bool (s_a s), .int .i64 (s_least s), .int .i64 (s_most s), .int .i64 (s_by s), .int .i64 (s_amounts s), .int .i64 (s_of s), .int .i64 (s_shift s), .int .i64 (s_cond s), .bool (s_stack s)] 77)) := bel_of_res hbb
  have hrow := heap_alloc_new w1 (.cells #[.bool (s_d s), .bool (s_n s), .bool (s_m s), .bool (s_a s), .int .i64 (s_least s), .int .i64 (s_most s), .int .i64 (s_by s), .int .i64 (s_amounts s), .int .i64 (s_of s), .int .i64 (s_shift s), .int .i64 (s_cond s), .bool (s_stack s)] 77)
  have hsz1 : w.heap.size < w1.heap.size := by have := hb0.size; have := hb1.size; simp at *; omega
  have c0 : (w1.alloc (.cells #[.bool (s_d s), .bool (s_n s), .bool (s_m s), .bool (s_a s), .int .i64 (s_least s), .int .i64 (s_most s), .int .i64 (s_by s), .int .i64 (s_amounts s), .int .i64 (s_of s), .int .i64 (s_shift s), .int .i64 (s_cond s), .bool (s_stack s)] 77)).cell? ⟨w.heap.size, 0, none⟩ = some (.int .i64 op) := kept_cells hbb 0
  have c1 : (w1.alloc (.cells #[.bool (s_d s), .bool (s_n s), .bool (s_m s), .bool (s_a s), .int .i64 (s_least s), .int .i64 (s_most s), .int .i64 (s_by s), .int .i64 (s_amounts s), .int .i64 (s_of s), .int .i64 (s_shift s), .int .i64 (s_cond s), .bool (s_stack s)] 77)).cell? ⟨w.heap.size, 1, none⟩ = some (.int .i64 d) := kept_cells hbb 1
  have c2 : (w1.alloc (.cells #[.bool (s_d s), .bool (s_n s), .bool (s_m s), .bool (s_a s), .int .i64 (s_least s), .int .i64 (s_most s), .int .i64 (s_by s), .int .i64 (s_amounts s), .int .i64 (s_of s), .int .i64 (s_shift s), .int .i64 (s_cond s), .bool (s_stack s)] 77)).cell? ⟨w.heap.size, 2, none⟩ = some (.int .i64 n) := kept_cells hbb 2
  have c3 : (w1.alloc (.cells #[.bool (s_d s), .bool (s_n s), .bool (s_m s), .bool (s_a s), .int .i64 (s_least s), .int .i64 (s_most s), .int .i64 (s_by s), .int .i64 (s_amounts s), .int .i64 (s_of s), .int .i64 (s_shift s), .int .i64 (s_cond s), .bool (s_stack s)] 77)).cell? ⟨w.heap.size, 3, none⟩ = some (.int .i64 m) := kept_cells hbb 3
  have c4 : (w1.alloc (.cells #[.bool (s_d s), .bool (s_n s), .bool (s_m s), .bool (s_a s), .int .i64 (s_least s), .int .i64 (s_most s), .int .i64 (s_by s), .int .i64 (s_amounts s), .int .i64 (s_of s), .int .i64 (s_shift s), .int .i64 (s_cond s), .bool (s_stack s)] 77)).cell? ⟨w.heap.size, 4, none⟩ = some (.int .i64 a) := kept_cells hbb 4
  have c5 : (w1.alloc (.cells #[.bool (s_d s), .bool (s_n s), .bool (s_m s), .bool (s_a s), .int .i64 (s_least s), .int .i64 (s_most s), .int .i64 (s_by s), .int .i64 (s_amounts s), .int .i64 (s_of s), .int .i64 (s_shift s), .int .i64 (s_cond s), .bool (s_stack s)] 77)).cell? ⟨w.heap.size, 5, none⟩ = some (.int .i64 imm) := kept_cells hbb 5
  have c6 : (w1.alloc (.cells #[.bool (s_d s), .bool (s_n s), .bool (s_m s), .bool (s_a s), .int .i64 (s_least s), .int .i64 (s_most s), .int .i64 (s_by s), .int .i64 (s_amounts s), .int .i64 (s_of s), .int .i64 (s_shift s), .int .i64 (s_cond s), .bool (s_stack s)] 77)).cell? ⟨w.heap.size, 6, none⟩ = some (.int .u64 mask) := kept_cells hbb 6
  have c7 : (w1.alloc (.cells #[.bool (s_d s), .bool (s_n s), .bool (s_m s), .bool (s_a s), .int .i64 (s_least s), .int .i64 (s_most s), .int .i64 (s_by s), .int .i64 (s_amounts s), .int .i64 (s_of s), .int .i64 (s_shift s), .int .i64 (s_cond s), .bool (s_stack s)] 77)).cell? ⟨w.heap.size, 7, none⟩ = some (.int .i64 shift) := kept_cells hbb 7
  have c8 : (w1.alloc (.cells #[.bool (s_d s), .bool (s_n s), .bool (s_m s), .bool (s_a s), .int .i64 (s_least s), .int .i64 (s_most s), .int .i64 (s_by s), .int .i64 (s_amounts s), .int .i64 (s_of s), .int .i64 (s_shift s), .int .i64 (s_cond s), .bool (s_stack s)] 77)).cell? ⟨w.heap.size, 8, none⟩ = some (.int .i64 amount) := kept_cells hbb 8
  have c9 : (w1.alloc (.cells #[.bool (s_d s), .bool (s_n s), .bool (s_m s), .bool (s_a s), .int .i64 (s_least s), .int .i64 (s_most s), .int .i64 (s_by s), .int .i64 (s_amounts s), .int .i64 (s_of s), .int .i64 (s_shift s), .int .i64 (s_cond s), .bool (s_stack s)] 77)).cell? ⟨w.heap.size, 9, none⟩ = some (.int .i64 cond) := kept_cells hbb 9
  have d0 : (w1.alloc (.cells #[.bool (s_d s), .bool (s_n s), .bool (s_m s), .bool (s_a s), .int .i64 (s_least s), .int .i64 (s_most s), .int .i64 (s_by s), .int .i64 (s_amounts s), .int .i64 (s_of s), .int .i64 (s_shift s), .int .i64 (s_cond s), .bool (s_stack s)] 77)).cell? ⟨w1.heap.size, 0, none⟩ = some (.bool (s_d s)) := cell_of_row _ _ 0 _ 77 (0, 0) hrow
  have d1 : (w1.alloc (.cells #[.bool (s_d s), .bool (s_n s), .bool (s_m s), .bool (s_a s), .int .i64 (s_least s), .int .i64 (s_most s), .int .i64 (s_by s), .int .i64 (s_amounts s), .int .i64 (s_of s), .int .i64 (s_shift s), .int .i64 (s_cond s), .bool (s_stack s)] 77)).cell? ⟨w1.heap.size, 1, none⟩ = some (.bool (s_n s)) := cell_of_row _ _ 1 _ 77 (0, 0) hrow
  have d2 : (w1.alloc (.cells #[.bool (s_d s), .bool (s_n s), .bool (s_m s), .bool (s_a s), .int .i64 (s_least s), .int .i64 (s_most s), .int .i64 (s_by s), .int .i64 (s_amounts s), .int .i64 (s_of s), .int .i64 (s_shift s), .int .i64 (s_cond s), .bool (s_stack s)] 77)).cell? ⟨w1.heap.size, 2, none⟩ = some (.bool (s_m s)) := cell_of_row _ _ 2 _ 77 (0, 0) hrow
  have d3 : (w1.alloc (.cells #[.bool (s_d s), .bool (s_n s), .bool (s_m s), .bool (s_a s), .int .i64 (s_least s), .int .i64 (s_most s), .int .i64 (s_by s), .int .i64 (s_amounts s), .int .i64 (s_of s), .int .i64 (s_shift s), .int .i64 (s_cond s), .bool (s_stack s)] 77)).cell? ⟨w1.heap.size, 3, none⟩ = some (.bool (s_a s)) := cell_of_row _ _ 3 _ 77 (0, 0) hrow
  have d4 : (w1.alloc (.cells #[.bool (s_d s), .bool (s_n s), .bool (s_m s), .bool (s_a s), .int .i64 (s_least s), .int .i64 (s_most s), .int .i64 (s_by s), .int .i64 (s_amounts s), .int .i64 (s_of s), .int .i64 (s_shift s), .int .i64 (s_cond s), .bool (s_stack s)] 77)).cell? ⟨w1.heap.size, 4, none⟩ = some (.int .i64 (s_least s)) := cell_of_row _ _ 4 _ 77 (0, 0) hrow
  have d5 : (w1.alloc (.cells #[.bool (s_d s), .bool (s_n s), .bool (s_m s), .bool (s_a s), .int .i64 (s_least s), .int .i64 (s_most s), .int .i64 (s_by s), .int .i64 (s_amounts s), .int .i64 (s_of s), .int .i64 (s_shift s), .int .i64 (s_cond s), .bool (s_stack s)] 77)).cell? ⟨w1.heap.size, 5, none⟩ = some (.int .i64 (s_most s)) := cell_of_row _ _ 5 _ 77 (0, 0) hrow
  have d6 : (w1.alloc (.cells #[.bool (s_d s), .bool (s_n s), .bool (s_m s), .bool (s_a s), .int .i64 (s_least s), .int .i64 (s_most s), .int .i64 (s_by s), .int .i64 (s_amounts s), .int .i64 (s_of s), .int .i64 (s_shift s), .int .i64 (s_cond s), .bool (s_stack s)] 77)).cell? ⟨w1.heap.size, 6, none⟩ = some (.int .i64 (s_by s)) := cell_of_row _ _ 6 _ 77 (0, 0) hrow
  have d7 : (w1.alloc (.cells #[.bool (s_d s), .bool (s_n s), .bool (s_m s), .bool (s_a s), .int .i64 (s_least s), .int .i64 (s_most s), .int .i64 (s_by s), .int .i64 (s_amounts s), .int .i64 (s_of s), .int .i64 (s_shift s), .int .i64 (s_cond s), .bool (s_stack s)] 77)).cell? ⟨w1.heap.size, 7, none⟩ = some (.int .i64 (s_amounts s)) := cell_of_row _ _ 7 _ 77 (0, 0) hrow
  have d8 : (w1.alloc (.cells #[.bool (s_d s), .bool (s_n s), .bool (s_m s), .bool (s_a s), .int .i64 (s_least s), .int .i64 (s_most s), .int .i64 (s_by s), .int .i64 (s_amounts s), .int .i64 (s_of s), .int .i64 (s_shift s), .int .i64 (s_cond s), .bool (s_stack s)] 77)).cell? ⟨w1.heap.size, 8, none⟩ = some (.int .i64 (s_of s)) := cell_of_row _ _ 8 _ 77 (0, 0) hrow
  have d9 : (w1.alloc (.cells #[.bool (s_d s), .bool (s_n s), .bool (s_m s), .bool (s_a s), .int .i64 (s_least s), .int .i64 (s_most s), .int .i64 (s_by s), .int .i64 (s_amounts s), .int .i64 (s_of s), .int .i64 (s_shift s), .int .i64 (s_cond s), .bool (s_stack s)] 77)).cell? ⟨w1.heap.size, 9, none⟩ = some (.int .i64 (s_shift s)) := cell_of_row _ _ 9 _ 77 (0, 0) hrow
  have d10 : (w1.alloc (.cells #[.bool (s_d s), .bool (s_n s), .bool (s_m s), .bool (s_a s), .int .i64 (s_least s), .int .i64 (s_most s), .int .i64 (s_by s), .int .i64 (s_amounts s), .int .i64 (s_of s), .int .i64 (s_shift s), .int .i64 (s_cond s), .bool (s_stack s)] 77)).cell? ⟨w1.heap.size, 10, none⟩ = some (.int .i64 (s_cond s)) := cell_of_row _ _ 10 _ 77 (0, 0) hrow
  have d11 : (w1.alloc (.cells #[.bool (s_d s), .bool (s_n s), .bool (s_m s), .bool (s_a s), .int .i64 (s_least s), .int .i64 (s_most s), .int .i64 (s_by s), .int .i64 (s_amounts s), .int .i64 (s_of s), .int .i64 (s_shift s), .int .i64 (s_cond s), .bool (s_stack s)] 77)).cell? ⟨w1.heap.size, 11, none⟩ = some (.bool (s_stack s)) := cell_of_row _ _ 11 _ 77 (0, 0) hrow
  have hT2 : Tab (w1.alloc (.cells #[.bool (s_d s), .bool (s_n s), .bool (s_m s), .bool (s_a s), .int .i64 (s_least s), .int .i64 (s_most s), .int .i64 (s_by s), .int .i64 (s_amounts s), .int .i64 (s_of s), .int .i64 (s_shift s), .int .i64 (s_cond s), .bool (s_stack s)] 77)) := HT.out.below hbw
  have HT2 := Lib.hid hT2
  clear hrow hbb hb0 hb1 hT2
  generalize hW : w1.alloc (.cells #[.bool (s_d s), .bool (s_n s), .bool (s_m s), .bool (s_a s), .int .i64 (s_least s), .int .i64 (s_most s), .int .i64 (s_by s), .int .i64 (s_amounts s), .int .i64 (s_of s), .int .i64 (s_shift s), .int .i64 (s_cond s), .bool (s_stack s)] 77) = W at *
  clear hW
  go_cut [5] (fun v wx => v = .bool (regsB s d n m a) ∧ wx = W)
  case first =>
    go_wp2_with (go_at_call 38; refine (reg_any _ _ _).mono ?_; rintro e w' ⟨rfl, rfl⟩)
    all_goals
      go_meet
      exact ⟨congrArg Value.bool (by unfold regsB; simp [*]), rfl⟩
  case rest =>
    obtain ⟨rfl, rfl⟩ := hcut
    go_upto_region 6 with fail
    go_cut [6] (fun v wx => v = .bool (numsB s imm shift amount cond) ∧ wx = wc)
    case first =>
      go_wp2_with (go_at_call 39; refine (step_any _ _ _ _ _).mono ?_; rintro e w' ⟨rfl, rfl⟩)
      all_goals
        go_meet
        exact ⟨congrArg Value.bool (by unfold numsB; (simp [*] <;> (intros; omega))), rfl⟩
    case rest =>
      obtain ⟨rfl, rfl⟩ := hcut
      cases hR : regsB s d n m a
      · have HR := Lib.hid hR
        clear hR
        by_cases h3 : s = 3
        · subst h3
          go_wp2
          go_ret
          exact ⟨by rw [HR.out]; rfl, hbw⟩
        · have hb3 : (s == 3) = false := beq_eq_false_iff_ne.2 h3
          go_wp2
          go_ret
          exact ⟨by rw [HR.out]; rfl, hbw⟩
      · have HR := Lib.hid hR
        clear hR
        cases hN : numsB s imm shift amount cond
        · have HN := Lib.hid hN
          clear hN
          by_cases h3 : s = 3
          · subst h3
            go_wp2
            go_ret
            exact ⟨by rw [HR.out, HN.out]; rfl, hbw⟩
          · have hb3 : (s == 3) = false := beq_eq_false_iff_ne.2 h3
            go_wp2
            go_ret
            exact ⟨by rw [HR.out, HN.out]; rfl, hbw⟩
        · have HN := Lib.hid hN
          clear hN
          by_cases h3 : s = 3
          · subst h3
            go_wp2_with (go_at_call 40; refine (isM_any mask _ hm1 HT2.out).mono ?_; rintro e w2 ⟨rfl, hb2⟩)
            go_ret
            exact ⟨by rw [HR.out, HN.out]; rfl, hbw.trans (hb2.mono hbw.size)⟩
          · have hb3 : (s == 3) = false := beq_eq_false_iff_ne.2 h3
            go_wp2
            go_ret
            exact ⟨by rw [HR.out, HN.out]; unfold maskOkB; rw [if_neg h3]; rfl, hbw⟩

theorem is_any (op d n m a imm shift amount cond : Int) (mask : Nat) (w : World) (hm1 : mask < 18446744073709551616) (hT : Tab w) :
    Calls Tryd.prog 13 #[.agg #[.int .i64 op, .int .i64 d, .int .i64 n, .int .i64 m, .int .i64 a, .int .i64 imm, .int .u64 mask, .int .i64 shift, .int .i64 amount, .int .i64 cond]] w fun e w' => e = .returned (.bool (isI op d n m a imm mask shift amount cond)) ∧ Below w.heap.size w w' := by
  unfold isI
  by_cases h : shapeI op = 0
  · rw [if_pos h]
    exact is_zero op d n m a imm mask shift amount cond w (Lib.hid h)
  · rw [if_neg h]
    have := shapeI_bd op
    exact is_some op d n m a imm shift amount cond _ mask w (Lib.hid rfl) (by omega) (by omega) hm1 (Lib.hid hT)
end Go.Proofs.YtdjdbgilimjagaaDoor
