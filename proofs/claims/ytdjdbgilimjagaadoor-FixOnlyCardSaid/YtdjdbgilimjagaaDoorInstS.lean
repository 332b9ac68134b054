/- Layer 4 of the program, walked: its tables. No condition. -/
import Derived.Test.YtdjdbgilimjagaaDoorRunB
import Derived.Test.YtdjdbgilimjagaaDoorSpecI
set_option linter.unusedVariables false
set_option linter.unusedSimpArgs false
namespace Go.Proofs.YtdjdbgilimjagaaDoor
open Go.RowKit
set_option maxRecDepth 100000

set_option maxHeartbeats 400000 in
theorem shapeOf_0 (w : World) : Calls Tryd.prog 37 #[.int .i64 0] w fun e w' => e = .returned (.agg #[.bool false, .bool false, .bool false, .bool false, .int .i64 0, .int .i64 0, .int .i64 0, .int .i64 0, .int .i64 0, .int .i64 0, .int .i64 0, .bool false]) ∧ w' = w.alloc (.cells #[.bool false, .bool false, .bool false, .bool false, .int .i64 0, .int .i64 0, .int .i64 0, .int .i64 0, .int .i64 0, .int .i64 0, .int .i64 0, .bool false] 77) := by
  go_enter Tryd.func37, Tryd.ntmps37
  iterate 11 go_step
  refine wpList_to 18 20 2 (.agg #[.bool false, .bool false, .bool false, .bool false, .int .i64 0, .int .i64 0, .int .i64 0, .int .i64 0, .int .i64 0, .int .i64 0, .int .i64 0, .bool false]) (.pointer (some ⟨w.heap.size, 0, none⟩)) (by kernel_rfl) ?_
  intro tm h20 h2
  simp only [List.drop]
  go_wp2
  exact bodyPost_ret (v := .agg #[.bool false, .bool false, .bool false, .bool false, .int .i64 0, .int .i64 0, .int .i64 0, .int .i64 0, .int .i64 0, .int .i64 0, .int .i64 0, .bool false]) (by simp [results, Tryd.results37, go_sem, h2]) rfl ⟨rfl, rfl⟩
set_option maxHeartbeats 400000 in
theorem shapeOf_1 (w : World) : Calls Tryd.prog 37 #[.int .i64 1] w fun e w' => e = .returned (.agg #[.bool true, .bool false, .bool false, .bool false, .int .i64 0, .int .i64 65535, .int .i64 1, .int .i64 48, .int .i64 16, .int .i64 0, .int .i64 0, .bool false]) ∧ w' = w.alloc (.cells #[.bool true, .bool false, .bool false, .bool false, .int .i64 0, .int .i64 65535, .int .i64 1, .int .i64 48, .int .i64 16, .int .i64 0, .int .i64 0, .bool false] 77) := by
  go_enter Tryd.func37, Tryd.ntmps37
  iterate 11 go_step
  refine wpList_to 18 20 2 (.agg #[.bool true, .bool false, .bool false, .bool false, .int .i64 0, .int .i64 65535, .int .i64 1, .int .i64 48, .int .i64 16, .int .i64 0, .int .i64 0, .bool false]) (.pointer (some ⟨w.heap.size, 0, none⟩)) (by kernel_rfl) ?_
  intro tm h20 h2
  simp only [List.drop]
  go_wp2
  exact bodyPost_ret (v := .agg #[.bool true, .bool false, .bool false, .bool false, .int .i64 0, .int .i64 65535, .int .i64 1, .int .i64 48, .int .i64 16, .int .i64 0, .int .i64 0, .bool false]) (by simp [results, Tryd.results37, go_sem, h2]) rfl ⟨rfl, rfl⟩
set_option maxHeartbeats 400000 in
theorem shapeOf_2 (w : World) : Calls Tryd.prog 37 #[.int .i64 2] w fun e w' => e = .returned (.agg #[.bool true, .bool true, .bool false, .bool false, .int .i64 0, .int .i64 4095, .int .i64 1, .int .i64 12, .int .i64 12, .int .i64 0, .int .i64 0, .bool true]) ∧ w' = w.alloc (.cells #[.bool true, .bool true, .bool false, .bool false, .int .i64 0, .int .i64 4095, .int .i64 1, .int .i64 12, .int .i64 12, .int .i64 0, .int .i64 0, .bool true] 77) := by
  go_enter Tryd.func37, Tryd.ntmps37
  iterate 11 go_step
  refine wpList_to 18 20 2 (.agg #[.bool true, .bool true, .bool false, .bool false, .int .i64 0, .int .i64 4095, .int .i64 1, .int .i64 12, .int .i64 12, .int .i64 0, .int .i64 0, .bool true]) (.pointer (some ⟨w.heap.size, 0, none⟩)) (by kernel_rfl) ?_
  intro tm h20 h2
  simp only [List.drop]
  go_wp2
  exact bodyPost_ret (v := .agg #[.bool true, .bool true, .bool false, .bool false, .int .i64 0, .int .i64 4095, .int .i64 1, .int .i64 12, .int .i64 12, .int .i64 0, .int .i64 0, .bool true]) (by simp [results, Tryd.results37, go_sem, h2]) rfl ⟨rfl, rfl⟩
set_option maxHeartbeats 400000 in
theorem shapeOf_3 (w : World) : Calls Tryd.prog 37 #[.int .i64 3] w fun e w' => e = .returned (.agg #[.bool true, .bool true, .bool false, .bool false, .int .i64 0, .int .i64 0, .int .i64 0, .int .i64 0, .int .i64 0, .int .i64 0, .int .i64 0, .bool false]) ∧ w' = w.alloc (.cells #[.bool true, .bool true, .bool false, .bool false, .int .i64 0, .int .i64 0, .int .i64 0, .int .i64 0, .int .i64 0, .int .i64 0, .int .i64 0, .bool false] 77) := by
  go_enter Tryd.func37, Tryd.ntmps37
  iterate 11 go_step
  refine wpList_to 18 20 2 (.agg #[.bool true, .bool true, .bool false, .bool false, .int .i64 0, .int .i64 0, .int .i64 0, .int .i64 0, .int .i64 0, .int .i64 0, .int .i64 0, .bool false]) (.pointer (some ⟨w.heap.size, 0, none⟩)) (by kernel_rfl) ?_
  intro tm h20 h2
  simp only [List.drop]
  go_wp2
  exact bodyPost_ret (v := .agg #[.bool true, .bool true, .bool false, .bool false, .int .i64 0, .int .i64 0, .int .i64 0, .int .i64 0, .int .i64 0, .int .i64 0, .int .i64 0, .bool false]) (by simp [results, Tryd.results37, go_sem, h2]) rfl ⟨rfl, rfl⟩
set_option maxHeartbeats 400000 in
theorem shapeOf_4 (w : World) : Calls Tryd.prog 37 #[.int .i64 4] w fun e w' => e = .returned (.agg #[.bool true, .bool true, .bool true, .bool false, .int .i64 0, .int .i64 0, .int .i64 0, .int .i64 63, .int .i64 1, .int .i64 2, .int .i64 0, .bool false]) ∧ w' = w.alloc (.cells #[.bool true, .bool true, .bool true, .bool false, .int .i64 0, .int .i64 0, .int .i64 0, .int .i64 63, .int .i64 1, .int .i64 2, .int .i64 0, .bool false] 77) := by
  go_enter Tryd.func37, Tryd.ntmps37
  iterate 11 go_step
  refine wpList_to 18 20 2 (.agg #[.bool true, .bool true, .bool true, .bool false, .int .i64 0, .int .i64 0, .int .i64 0, .int .i64 63, .int .i64 1, .int .i64 2, .int .i64 0, .bool false]) (.pointer (some ⟨w.heap.size, 0, none⟩)) (by kernel_rfl) ?_
  intro tm h20 h2
  simp only [List.drop]
  go_wp2
  exact bodyPost_ret (v := .agg #[.bool true, .bool true, .bool true, .bool false, .int .i64 0, .int .i64 0, .int .i64 0, .int .i64 63, .int .i64 1, .int .i64 2, .int .i64 0, .bool false]) (by simp [results, Tryd.results37, go_sem, h2]) rfl ⟨rfl, rfl⟩
set_option maxHeartbeats 400000 in
theorem shapeOf_5 (w : World) : Calls Tryd.prog 37 #[.int .i64 5] w fun e w' => e = .returned (.agg #[.bool true, .bool true, .bool true, .bool false, .int .i64 0, .int .i64 0, .int .i64 0, .int .i64 63, .int .i64 1, .int .i64 3, .int .i64 0, .bool false]) ∧ w' = w.alloc (.cells #[.bool true, .bool true, .bool true, .bool false, .int .i64 0, .int .i64 0, .int .i64 0, .int .i64 63, .int .i64 1, .int .i64 3, .int .i64 0, .bool false] 77) := by
  go_enter Tryd.func37, Tryd.ntmps37
  iterate 11 go_step
  refine wpList_to 18 20 2 (.agg #[.bool true, .bool true, .bool true, .bool false, .int .i64 0, .int .i64 0, .int .i64 0, .int .i64 63, .int .i64 1, .int .i64 3, .int .i64 0, .bool false]) (.pointer (some ⟨w.heap.size, 0, none⟩)) (by kernel_rfl) ?_
  intro tm h20 h2
  simp only [List.drop]
  go_wp2
  exact bodyPost_ret (v := .agg #[.bool true, .bool true, .bool true, .bool false, .int .i64 0, .int .i64 0, .int .i64 0, .int .i64 63, .int .i64 1, .int .i64 3, .int .i64 0, .bool false]) (by simp [results, Tryd.results37, go_sem, h2]) rfl ⟨rfl, rfl⟩
set_option maxHeartbeats 400000 in
theorem shapeOf_6 (w : World) : Calls Tryd.prog 37 #[.int .i64 6] w fun e w' => e = .returned (.agg #[.bool true, .bool true, .bool true, .bool true, .int .i64 0, .int .i64 0, .int .i64 0, .int .i64 0, .int .i64 0, .int .i64 0, .int .i64 0, .bool false]) ∧ w' = w.alloc (.cells #[.bool true, .bool true, .bool true, .bool true, .int .i64 0, .int .i64 0, .int .i64 0, .int .i64 0, .int .i64 0, .int .i64 0, .int .i64 0, .bool false] 77) := by
  go_enter Tryd.func37, Tryd.ntmps37
  iterate 11 go_step
  refine wpList_to 18 20 2 (.agg #[.bool true, .bool true, .bool true, .bool true, .int .i64 0, .int .i64 0, .int .i64 0, .int .i64 0, .int .i64 0, .int .i64 0, .int .i64 0, .bool false]) (.pointer (some ⟨w.heap.size, 0, none⟩)) (by kernel_rfl) ?_
  intro tm h20 h2
  simp only [List.drop]
  go_wp2
  exact bodyPost_ret (v := .agg #[.bool true, .bool true, .bool true, .bool true, .int .i64 0, .int .i64 0, .int .i64 0, .int .i64 0, .int .i64 0, .int .i64 0, .int .i64 0, .bool false]) (by simp [results, Tryd.results37, go_sem, h2]) rfl ⟨rfl, rfl⟩
set_option maxHeartbeats 400000 in
theorem shapeOf_7 (w : World) : Calls Tryd.prog 37 #[.int .i64 7] w fun e w' => e = .returned (.agg #[.bool true, .bool true, .bool false, .bool false, .int .i64 0, .int .i64 32760, .int .i64 8, .int .i64 0, .int .i64 0, .int .i64 0, .int .i64 0, .bool true]) ∧ w' = w.alloc (.cells #[.bool true, .bool true, .bool false, .bool false, .int .i64 0, .int .i64 32760, .int .i64 8, .int .i64 0, .int .i64 0, .int .i64 0, .int .i64 0, .bool true] 77) := by
  go_enter Tryd.func37, Tryd.ntmps37
  iterate 11 go_step
  refine wpList_to 18 20 2 (.agg #[.bool true, .bool true, .bool false, .bool false, .int .i64 0, .int .i64 32760, .int .i64 8, .int .i64 0, .int .i64 0, .int .i64 0, .int .i64 0, .bool true]) (.pointer (some ⟨w.heap.size, 0, none⟩)) (by kernel_rfl) ?_
  intro tm h20 h2
  simp only [List.drop]
  go_wp2
  exact bodyPost_ret (v := .agg #[.bool true, .bool true, .bool false, .bool false, .int .i64 0, .int .i64 32760, .int .i64 8, .int .i64 0, .int .i64 0, .int .i64 0, .int .i64 0, .bool true]) (by simp [results, Tryd.results37, go_sem, h2]) rfl ⟨rfl, rfl⟩
set_option maxHeartbeats 400000 in
theorem shapeOf_8 (w : World) : Calls Tryd.prog 37 #[.int .i64 8] w fun e w' => e = .returned (.agg #[.bool true, .bool true, .bool false, .bool false, .int .i64 0, .int .i64 4095, .int .i64 1, .int .i64 0, .int .i64 0, .int .i64 0, .int .i64 0, .bool true]) ∧ w' = w.alloc (.cells #[.bool true, .bool true, .bool false, .bool false, .int .i64 0, .int .i64 4095, .int .i64 1, .int .i64 0, .int .i64 0, .int .i64 0, .int .i64 0, .bool true] 77) := by
  go_enter Tryd.func37, Tryd.ntmps37
  iterate 11 go_step
  refine wpList_to 18 20 2 (.agg #[.bool true, .bool true, .bool false, .bool false, .int .i64 0, .int .i64 4095, .int .i64 1, .int .i64 0, .int .i64 0, .int .i64 0, .int .i64 0, .bool true]) (.pointer (some ⟨w.heap.size, 0, none⟩)) (by kernel_rfl) ?_
  intro tm h20 h2
  simp only [List.drop]
  go_wp2
  exact bodyPost_ret (v := .agg #[.bool true, .bool true, .bool false, .bool false, .int .i64 0, .int .i64 4095, .int .i64 1, .int .i64 0, .int .i64 0, .int .i64 0, .int .i64 0, .bool true]) (by simp [results, Tryd.results37, go_sem, h2]) rfl ⟨rfl, rfl⟩
set_option maxHeartbeats 400000 in
theorem shapeOf_9 (w : World) : Calls Tryd.prog 37 #[.int .i64 9] w fun e w' => e = .returned (.agg #[.bool true, .bool false, .bool false, .bool false, .int .i64 (-1048576), .int .i64 1048572, .int .i64 4, .int .i64 0, .int .i64 0, .int .i64 0, .int .i64 0, .bool false]) ∧ w' = w.alloc (.cells #[.bool true, .bool false, .bool false, .bool false, .int .i64 (-1048576), .int .i64 1048572, .int .i64 4, .int .i64 0, .int .i64 0, .int .i64 0, .int .i64 0, .bool false] 77) := by
  go_enter Tryd.func37, Tryd.ntmps37
  iterate 11 go_step
  refine wpList_to 18 20 2 (.agg #[.bool true, .bool false, .bool false, .bool false, .int .i64 (-1048576), .int .i64 1048572, .int .i64 4, .int .i64 0, .int .i64 0, .int .i64 0, .int .i64 0, .bool false]) (.pointer (some ⟨w.heap.size, 0, none⟩)) (by kernel_rfl) ?_
  intro tm h20 h2
  simp only [List.drop]
  go_wp2
  exact bodyPost_ret (v := .agg #[.bool true, .bool false, .bool false, .bool false, .int .i64 (-1048576), .int .i64 1048572, .int .i64 4, .int .i64 0, .int .i64 0, .int .i64 0, .int .i64 0, .bool false]) (by simp [results, Tryd.results37, go_sem, h2]) rfl ⟨rfl, rfl⟩
set_option maxHeartbeats 400000 in
theorem shapeOf_10 (w : World) : Calls Tryd.prog 37 #[.int .i64 10] w fun e w' => e = .returned (.agg #[.bool true, .bool false, .bool false, .bool false, .int .i64 (-1048576), .int .i64 1048575, .int .i64 1, .int .i64 0, .int .i64 0, .int .i64 0, .int .i64 0, .bool false]) ∧ w' = w.alloc (.cells #[.bool true, .bool false, .bool false, .bool false, .int .i64 (-1048576), .int .i64 1048575, .int .i64 1, .int .i64 0, .int .i64 0, .int .i64 0, .int .i64 0, .bool false] 77) := by
  go_enter Tryd.func37, Tryd.ntmps37
  iterate 11 go_step
  refine wpList_to 18 20 2 (.agg #[.bool true, .bool false, .bool false, .bool false, .int .i64 (-1048576), .int .i64 1048575, .int .i64 1, .int .i64 0, .int .i64 0, .int .i64 0, .int .i64 0, .bool false]) (.pointer (some ⟨w.heap.size, 0, none⟩)) (by kernel_rfl) ?_
  intro tm h20 h2
  simp only [List.drop]
  go_wp2
  exact bodyPost_ret (v := .agg #[.bool true, .bool false, .bool false, .bool false, .int .i64 (-1048576), .int .i64 1048575, .int .i64 1, .int .i64 0, .int .i64 0, .int .i64 0, .int .i64 0, .bool false]) (by simp [results, Tryd.results37, go_sem, h2]) rfl ⟨rfl, rfl⟩
set_option maxHeartbeats 400000 in
theorem shapeOf_11 (w : World) : Calls Tryd.prog 37 #[.int .i64 11] w fun e w' => e = .returned (.agg #[.bool false, .bool false, .bool false, .bool false, .int .i64 (-134217728), .int .i64 134217724, .int .i64 4, .int .i64 0, .int .i64 0, .int .i64 0, .int .i64 0, .bool false]) ∧ w' = w.alloc (.cells #[.bool false, .bool false, .bool false, .bool false, .int .i64 (-134217728), .int .i64 134217724, .int .i64 4, .int .i64 0, .int .i64 0, .int .i64 0, .int .i64 0, .bool false] 77) := by
  go_enter Tryd.func37, Tryd.ntmps37
  iterate 11 go_step
  refine wpList_to 18 20 2 (.agg #[.bool false, .bool false, .bool false, .bool false, .int .i64 (-134217728), .int .i64 134217724, .int .i64 4, .int .i64 0, .int .i64 0, .int .i64 0, .int .i64 0, .bool false]) (.pointer (some ⟨w.heap.size, 0, none⟩)) (by kernel_rfl) ?_
  intro tm h20 h2
  simp only [List.drop]
  go_wp2
  exact bodyPost_ret (v := .agg #[.bool false, .bool false, .bool false, .bool false, .int .i64 (-134217728), .int .i64 134217724, .int .i64 4, .int .i64 0, .int .i64 0, .int .i64 0, .int .i64 0, .bool false]) (by simp [results, Tryd.results37, go_sem, h2]) rfl ⟨rfl, rfl⟩
set_option maxHeartbeats 400000 in
theorem shapeOf_12 (w : World) : Calls Tryd.prog 37 #[.int .i64 12] w fun e w' => e = .returned (.agg #[.bool false, .bool false, .bool false, .bool false, .int .i64 (-1048576), .int .i64 1048572, .int .i64 4, .int .i64 0, .int .i64 0, .int .i64 0, .int .i64 13, .bool false]) ∧ w' = w.alloc (.cells #[.bool false, .bool false, .bool false, .bool false, .int .i64 (-1048576), .int .i64 1048572, .int .i64 4, .int .i64 0, .int .i64 0, .int .i64 0, .int .i64 13, .bool false] 77) := by
  go_enter Tryd.func37, Tryd.ntmps37
  iterate 11 go_step
  refine wpList_to 18 20 2 (.agg #[.bool false, .bool false, .bool false, .bool false, .int .i64 (-1048576), .int .i64 1048572, .int .i64 4, .int .i64 0, .int .i64 0, .int .i64 0, .int .i64 13, .bool false]) (.pointer (some ⟨w.heap.size, 0, none⟩)) (by kernel_rfl) ?_
  intro tm h20 h2
  simp only [List.drop]
  go_wp2
  exact bodyPost_ret (v := .agg #[.bool false, .bool false, .bool false, .bool false, .int .i64 (-1048576), .int .i64 1048572, .int .i64 4, .int .i64 0, .int .i64 0, .int .i64 0, .int .i64 13, .bool false]) (by simp [results, Tryd.results37, go_sem, h2]) rfl ⟨rfl, rfl⟩
set_option maxHeartbeats 400000 in
theorem shapeOf_13 (w : World) : Calls Tryd.prog 37 #[.int .i64 13] w fun e w' => e = .returned (.agg #[.bool false, .bool true, .bool false, .bool false, .int .i64 0, .int .i64 0, .int .i64 0, .int .i64 0, .int .i64 0, .int .i64 0, .int .i64 0, .bool false]) ∧ w' = w.alloc (.cells #[.bool false, .bool true, .bool false, .bool false, .int .i64 0, .int .i64 0, .int .i64 0, .int .i64 0, .int .i64 0, .int .i64 0, .int .i64 0, .bool false] 77) := by
  go_enter Tryd.func37, Tryd.ntmps37
  iterate 11 go_step
  refine wpList_to 18 20 2 (.agg #[.bool false, .bool true, .bool false, .bool false, .int .i64 0, .int .i64 0, .int .i64 0, .int .i64 0, .int .i64 0, .int .i64 0, .int .i64 0, .bool false]) (.pointer (some ⟨w.heap.size, 0, none⟩)) (by kernel_rfl) ?_
  intro tm h20 h2
  simp only [List.drop]
  go_wp2
  exact bodyPost_ret (v := .agg #[.bool false, .bool true, .bool false, .bool false, .int .i64 0, .int .i64 0, .int .i64 0, .int .i64 0, .int .i64 0, .int .i64 0, .int .i64 0, .bool false]) (by simp [results, Tryd.results37, go_sem, h2]) rfl ⟨rfl, rfl⟩
set_option maxHeartbeats 400000 in
theorem shapeOf_14 (w : World) : Calls Tryd.prog 37 #[.int .i64 14] w fun e w' => e = .returned (.agg #[.bool false, .bool false, .bool false, .bool false, .int .i64 0, .int .i64 65535, .int .i64 1, .int .i64 0, .int .i64 0, .int .i64 0, .int .i64 0, .bool false]) ∧ w' = w.alloc (.cells #[.bool false, .bool false, .bool false, .bool false, .int .i64 0, .int .i64 65535, .int .i64 1, .int .i64 0, .int .i64 0, .int .i64 0, .int .i64 0, .bool false] 77) := by
  go_enter Tryd.func37, Tryd.ntmps37
  iterate 11 go_step
  refine wpList_to 18 20 2 (.agg #[.bool false, .bool false, .bool false, .bool false, .int .i64 0, .int .i64 65535, .int .i64 1, .int .i64 0, .int .i64 0, .int .i64 0, .int .i64 0, .bool false]) (.pointer (some ⟨w.heap.size, 0, none⟩)) (by kernel_rfl) ?_
  intro tm h20 h2
  simp only [List.drop]
  go_wp2
  exact bodyPost_ret (v := .agg #[.bool false, .bool false, .bool false, .bool false, .int .i64 0, .int .i64 65535, .int .i64 1, .int .i64 0, .int .i64 0, .int .i64 0, .int .i64 0, .bool false]) (by simp [results, Tryd.results37, go_sem, h2]) rfl ⟨rfl, rfl⟩
set_option maxHeartbeats 400000 in
theorem shapeOf_15 (w : World) : Calls Tryd.prog 37 #[.int .i64 15] w fun e w' => e = .returned (.agg #[.bool false, .bool false, .bool false, .bool false, .int .i64 0, .int .i64 0, .int .i64 0, .int .i64 0, .int .i64 0, .int .i64 0, .int .i64 0, .bool false]) ∧ w' = w.alloc (.cells #[.bool false, .bool false, .bool false, .bool false, .int .i64 0, .int .i64 0, .int .i64 0, .int .i64 0, .int .i64 0, .int .i64 0, .int .i64 0, .bool false] 77) := by
  go_enter Tryd.func37, Tryd.ntmps37
  iterate 11 go_step
  refine wpList_to 18 20 2 (.agg #[.bool false, .bool false, .bool false, .bool false, .int .i64 0, .int .i64 0, .int .i64 0, .int .i64 0, .int .i64 0, .int .i64 0, .int .i64 0, .bool false]) (.pointer (some ⟨w.heap.size, 0, none⟩)) (by kernel_rfl) ?_
  intro tm h20 h2
  simp only [List.drop]
  go_wp2
  exact bodyPost_ret (v := .agg #[.bool false, .bool false, .bool false, .bool false, .int .i64 0, .int .i64 0, .int .i64 0, .int .i64 0, .int .i64 0, .int .i64 0, .int .i64 0, .bool false]) (by simp [results, Tryd.results37, go_sem, h2]) rfl ⟨rfl, rfl⟩
set_option maxHeartbeats 400000 in
theorem shapeOf_16 (w : World) : Calls Tryd.prog 37 #[.int .i64 16] w fun e w' => e = .returned (.agg #[.bool true, .bool true, .bool true, .bool false, .int .i64 0, .int .i64 0, .int .i64 0, .int .i64 0, .int .i64 0, .int .i64 0, .int .i64 13, .bool false]) ∧ w' = w.alloc (.cells #[.bool true, .bool true, .bool true, .bool false, .int .i64 0, .int .i64 0, .int .i64 0, .int .i64 0, .int .i64 0, .int .i64 0, .int .i64 13, .bool false] 77) := by
  go_enter Tryd.func37, Tryd.ntmps37
  iterate 11 go_step
  refine wpList_to 18 20 2 (.agg #[.bool true, .bool true, .bool true, .bool false, .int .i64 0, .int .i64 0, .int .i64 0, .int .i64 0, .int .i64 0, .int .i64 0, .int .i64 13, .bool false]) (.pointer (some ⟨w.heap.size, 0, none⟩)) (by kernel_rfl) ?_
  intro tm h20 h2
  simp only [List.drop]
  go_wp2
  exact bodyPost_ret (v := .agg #[.bool true, .bool true, .bool true, .bool false, .int .i64 0, .int .i64 0, .int .i64 0, .int .i64 0, .int .i64 0, .int .i64 0, .int .i64 13, .bool false]) (by simp [results, Tryd.results37, go_sem, h2]) rfl ⟨rfl, rfl⟩

theorem shapeOf_any (s : Int) (w : World) (h0 : 0 ≤ s) (h1 : s ≤ 16) : Calls Tryd.prog 37 #[.int .i64 s] w fun e w' => e = .returned (.agg #[.bool (s_d s), .bool (s_n s), .bool (s_m s), .bool (s_a s), .int .i64 (s_least s), .int .i64 (s_most s), .int .i64 (s_by s), .int .i64 (s_amounts s), .int .i64 (s_of s), .int .i64 (s_shift s), .int .i64 (s_cond s), .bool (s_stack s)]) ∧ Below w.heap.size w w' := by
  rcases (show s = 0 ∨ s = 1 ∨ s = 2 ∨ s = 3 ∨ s = 4 ∨ s = 5 ∨ s = 6 ∨ s = 7 ∨ s = 8 ∨ s = 9 ∨ s = 10 ∨ s = 11 ∨ s = 12 ∨ s = 13 ∨ s = 14 ∨ s = 15 ∨ s = 16 from by omega) with rfl | rfl | rfl | rfl | rfl | rfl | rfl | rfl | rfl | rfl | rfl | rfl | rfl | rfl | rfl | rfl | rfl
  · exact (shapeOf_0 w).mono fun _ _ h => ⟨h.1, by rw [h.2]; exact (Below.refl _ _).alloc (Nat.le_refl _) _⟩
  · exact (shapeOf_1 w).mono fun _ _ h => ⟨h.1, by rw [h.2]; exact (Below.refl _ _).alloc (Nat.le_refl _) _⟩
  · exact (shapeOf_2 w).mono fun _ _ h => ⟨h.1, by rw [h.2]; exact (Below.refl _ _).alloc (Nat.le_refl _) _⟩
  · exact (shapeOf_3 w).mono fun _ _ h => ⟨h.1, by rw [h.2]; exact (Below.refl _ _).alloc (Nat.le_refl _) _⟩
  · exact (shapeOf_4 w).mono fun _ _ h => ⟨h.1, by rw [h.2]; exact (Below.refl _ _).alloc (Nat.le_refl _) _⟩
  · exact (shapeOf_5 w).mono fun _ _ h => ⟨h.1, by rw [h.2]; exact (Below.refl _ _).alloc (Nat.le_refl _) _⟩
  · exact (shapeOf_6 w).mono fun _ _ h => ⟨h.1, by rw [h.2]; exact (Below.refl _ _).alloc (Nat.le_refl _) _⟩
  · exact (shapeOf_7 w).mono fun _ _ h => ⟨h.1, by rw [h.2]; exact (Below.refl _ _).alloc (Nat.le_refl _) _⟩
  · exact (shapeOf_8 w).mono fun _ _ h => ⟨h.1, by rw [h.2]; exact (Below.refl _ _).alloc (Nat.le_refl _) _⟩
  · exact (shapeOf_9 w).mono fun _ _ h => ⟨h.1, by rw [h.2]; exact (Below.refl _ _).alloc (Nat.le_refl _) _⟩
  · exact (shapeOf_10 w).mono fun _ _ h => ⟨h.1, by rw [h.2]; exact (Below.refl _ _).alloc (Nat.le_refl _) _⟩
  · exact (shapeOf_11 w).mono fun _ _ h => ⟨h.1, by rw [h.2]; exact (Below.refl _ _).alloc (Nat.le_refl _) _⟩
  · exact (shapeOf_12 w).mono fun _ _ h => ⟨h.1, by rw [h.2]; exact (Below.refl _ _).alloc (Nat.le_refl _) _⟩
  · exact (shapeOf_13 w).mono fun _ _ h => ⟨h.1, by rw [h.2]; exact (Below.refl _ _).alloc (Nat.le_refl _) _⟩
  · exact (shapeOf_14 w).mono fun _ _ h => ⟨h.1, by rw [h.2]; exact (Below.refl _ _).alloc (Nat.le_refl _) _⟩
  · exact (shapeOf_15 w).mono fun _ _ h => ⟨h.1, by rw [h.2]; exact (Below.refl _ _).alloc (Nat.le_refl _) _⟩
  · exact (shapeOf_16 w).mono fun _ _ h => ⟨h.1, by rw [h.2]; exact (Below.refl _ _).alloc (Nat.le_refl _) _⟩
end Go.Proofs.YtdjdbgilimjagaaDoor
