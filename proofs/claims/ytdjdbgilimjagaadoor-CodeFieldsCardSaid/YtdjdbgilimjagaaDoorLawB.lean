/- The document's shapes and places of fields, walked. No condition. -/
import Derived.Test.YtdjdbgilimjagaaDoorLawA
import Derived.Test.YtdjdbgilimjagaaDoorSpecG
import Derived.Deep.CutBlock
set_option linter.unusedVariables false
set_option linter.unusedSimpArgs false
namespace Go.Proofs.YtdjdbgilimjagaaDoor
open Go.RowKit
set_option maxRecDepth 100000

def shapeCells : Array Value := (shapeL.map fun z => Value.int .i64 z).toArray
set_option maxHeartbeats 1000000 in
theorem shape_ref (op : Int) (w : World) (h0 : 1 ≤ op) (h1 : op ≤ 39) : Calls Tryd.prog 17 #[.int .i64 op] w fun e w' => e = .returned (.int .i64 (shapeI op)) ∧ Below w.heap.size w w' := by
  obtain ⟨k, rfl⟩ : ∃ k : Nat, op = (k : Int) := ⟨op.toNat, by omega⟩
  have e : shapeI (k : Int) = shapeL.getD k 0 := by
    unfold shapeI
    rw [if_neg (by omega), Int.toNat_natCast]
  obtain ⟨z, hz⟩ : ∃ z, shapeI (k : Int) = z := ⟨_, rfl⟩
  have hc : (w.alloc (.cells shapeCells 3)).cell? ⟨w.heap.size, k, none⟩ = some (.int .i64 z) := by
    rw [cell_of_row _ _ k _ 3 (0, 0) (heap_alloc_new w _)]
    unfold shapeCells
    rw [List.getElem?_toArray, List.getElem?_map, ← hz, e]
    have : k < shapeL.length := by show k < 40; omega
    rw [List.getElem?_eq_getElem this, List.getD_eq_getElem?_getD, List.getElem?_eq_getElem this]
    rfl
  rw [hz]
  have HC := Lib.hid hc
  have h40 : k < 40 := by omega
  clear e hz hc
  go_enter Tryd.func17, Tryd.ntmps17
  go_upto_region 4 with (fail)
  have hc : (w.alloc (.cells #[.int .i64 0, .int .i64 1, .int .i64 1, .int .i64 1, .int .i64 2, .int .i64 2, .int .i64 2, .int .i64 2, .int .i64 3, .int .i64 3, .int .i64 3, .int .i64 3, .int .i64 4, .int .i64 4, .int .i64 4, .int .i64 4, .int .i64 5, .int .i64 5, .int .i64 5, .int .i64 5, .int .i64 6, .int .i64 6, .int .i64 7, .int .i64 7, .int .i64 8, .int .i64 8, .int .i64 9, .int .i64 10, .int .i64 10, .int .i64 11, .int .i64 11, .int .i64 12, .int .i64 9, .int .i64 9, .int .i64 13, .int .i64 13, .int .i64 13, .int .i64 14, .int .i64 15, .int .i64 16] 3)).cell? ⟨w.heap.size, k, none⟩ = some (.int .i64 z) := HC.out
  have hb := balloc w (.cells #[.int .i64 0, .int .i64 1, .int .i64 1, .int .i64 1, .int .i64 2, .int .i64 2, .int .i64 2, .int .i64 2, .int .i64 3, .int .i64 3, .int .i64 3, .int .i64 3, .int .i64 4, .int .i64 4, .int .i64 4, .int .i64 4, .int .i64 5, .int .i64 5, .int .i64 5, .int .i64 5, .int .i64 6, .int .i64 6, .int .i64 7, .int .i64 7, .int .i64 8, .int .i64 8, .int .i64 9, .int .i64 10, .int .i64 10, .int .i64 11, .int .i64 11, .int .i64 12, .int .i64 9, .int .i64 9, .int .i64 13, .int .i64 13, .int .i64 13, .int .i64 14, .int .i64 15, .int .i64 16] 3)
  generalize (w.alloc (.cells #[.int .i64 0, .int .i64 1, .int .i64 1, .int .i64 1, .int .i64 2, .int .i64 2, .int .i64 2, .int .i64 2, .int .i64 3, .int .i64 3, .int .i64 3, .int .i64 3, .int .i64 4, .int .i64 4, .int .i64 4, .int .i64 4, .int .i64 5, .int .i64 5, .int .i64 5, .int .i64 5, .int .i64 6, .int .i64 6, .int .i64 7, .int .i64 7, .int .i64 8, .int .i64 8, .int .i64 9, .int .i64 10, .int .i64 10, .int .i64 11, .int .i64 11, .int .i64 12, .int .i64 9, .int .i64 9, .int .i64 13, .int .i64 13, .int .i64 13, .int .i64 14, .int .i64 15, .int .i64 16] 3)) = W at hc hb ⊢
  go_wp2
  go_ret
  exact ⟨rfl, hb⟩

/-- A row of places, as it lies. -/
def Placed (w : World) (s : Int) (e : Ending) (w' : World) : Prop :=
  ∃ v, e = .returned v ∧ Below w.heap.size w w' ∧ ((placesL s = [] ∧ v = .slice none 0 0) ∨ ∃ b cap, v = .slice (some ⟨b, 0, none⟩) (placesL s).length cap ∧ w'.heap[b]? = some (.cells ((placesL s).flatMap fun p => [Value.int .i64 p.1, .int .i64 p.2]).toArray 39))
theorem places_0 (w : World) : Calls Tryd.prog 16 #[.int .i64 0] w fun e w' => Placed w 0 e w' := by
  go_enter Tryd.func16, Tryd.ntmps16
  go_wp2
  go_ret
  exact ⟨_, rfl, Below.refl _ _, .inl ⟨rfl, rfl⟩⟩
theorem places_1 (w : World) : Calls Tryd.prog 16 #[.int .i64 1] w fun e w' => Placed w 1 e w' := by
  go_enter Tryd.func16, Tryd.ntmps16
  go_wp2
  go_ret
  exact ⟨_, rfl, balloc w _, .inr ⟨w.heap.size, 3, rfl, heap_alloc_new w _⟩⟩
theorem places_2 (w : World) : Calls Tryd.prog 16 #[.int .i64 2] w fun e w' => Placed w 2 e w' := by
  go_enter Tryd.func16, Tryd.ntmps16
  go_wp2
  go_ret
  exact ⟨_, rfl, balloc w _, .inr ⟨w.heap.size, 4, rfl, heap_alloc_new w _⟩⟩
theorem places_3 (w : World) : Calls Tryd.prog 16 #[.int .i64 3] w fun e w' => Placed w 3 e w' := by
  go_enter Tryd.func16, Tryd.ntmps16
  go_wp2
  go_ret
  exact ⟨_, rfl, balloc w _, .inr ⟨w.heap.size, 5, rfl, heap_alloc_new w _⟩⟩
theorem places_4 (w : World) : Calls Tryd.prog 16 #[.int .i64 4] w fun e w' => Placed w 4 e w' := by
  go_enter Tryd.func16, Tryd.ntmps16
  go_wp2
  go_ret
  exact ⟨_, rfl, balloc w _, .inr ⟨w.heap.size, 5, rfl, heap_alloc_new w _⟩⟩
theorem places_5 (w : World) : Calls Tryd.prog 16 #[.int .i64 5] w fun e w' => Placed w 5 e w' := by
  go_enter Tryd.func16, Tryd.ntmps16
  go_wp2
  go_ret
  exact ⟨_, rfl, balloc w _, .inr ⟨w.heap.size, 5, rfl, heap_alloc_new w _⟩⟩
theorem places_6 (w : World) : Calls Tryd.prog 16 #[.int .i64 6] w fun e w' => Placed w 6 e w' := by
  go_enter Tryd.func16, Tryd.ntmps16
  go_wp2
  go_ret
  exact ⟨_, rfl, balloc w _, .inr ⟨w.heap.size, 4, rfl, heap_alloc_new w _⟩⟩
theorem places_7 (w : World) : Calls Tryd.prog 16 #[.int .i64 7] w fun e w' => Placed w 7 e w' := by
  go_enter Tryd.func16, Tryd.ntmps16
  go_wp2
  go_ret
  exact ⟨_, rfl, balloc w _, .inr ⟨w.heap.size, 3, rfl, heap_alloc_new w _⟩⟩
theorem places_8 (w : World) : Calls Tryd.prog 16 #[.int .i64 8] w fun e w' => Placed w 8 e w' := by
  go_enter Tryd.func16, Tryd.ntmps16
  go_wp2
  go_ret
  exact ⟨_, rfl, balloc w _, .inr ⟨w.heap.size, 3, rfl, heap_alloc_new w _⟩⟩
theorem places_9 (w : World) : Calls Tryd.prog 16 #[.int .i64 9] w fun e w' => Placed w 9 e w' := by
  go_enter Tryd.func16, Tryd.ntmps16
  go_wp2
  go_ret
  exact ⟨_, rfl, balloc w _, .inr ⟨w.heap.size, 2, rfl, heap_alloc_new w _⟩⟩
theorem places_10 (w : World) : Calls Tryd.prog 16 #[.int .i64 10] w fun e w' => Placed w 10 e w' := by
  go_enter Tryd.func16, Tryd.ntmps16
  go_wp2
  go_ret
  exact ⟨_, rfl, balloc w _, .inr ⟨w.heap.size, 3, rfl, heap_alloc_new w _⟩⟩
theorem places_11 (w : World) : Calls Tryd.prog 16 #[.int .i64 11] w fun e w' => Placed w 11 e w' := by
  go_enter Tryd.func16, Tryd.ntmps16
  go_wp2
  go_ret
  exact ⟨_, rfl, balloc w _, .inr ⟨w.heap.size, 1, rfl, heap_alloc_new w _⟩⟩
theorem places_12 (w : World) : Calls Tryd.prog 16 #[.int .i64 12] w fun e w' => Placed w 12 e w' := by
  go_enter Tryd.func16, Tryd.ntmps16
  go_wp2
  go_ret
  exact ⟨_, rfl, balloc w _, .inr ⟨w.heap.size, 2, rfl, heap_alloc_new w _⟩⟩
theorem places_13 (w : World) : Calls Tryd.prog 16 #[.int .i64 13] w fun e w' => Placed w 13 e w' := by
  go_enter Tryd.func16, Tryd.ntmps16
  go_wp2
  go_ret
  exact ⟨_, rfl, balloc w _, .inr ⟨w.heap.size, 1, rfl, heap_alloc_new w _⟩⟩
theorem places_14 (w : World) : Calls Tryd.prog 16 #[.int .i64 14] w fun e w' => Placed w 14 e w' := by
  go_enter Tryd.func16, Tryd.ntmps16
  go_wp2
  go_ret
  exact ⟨_, rfl, balloc w _, .inr ⟨w.heap.size, 1, rfl, heap_alloc_new w _⟩⟩
theorem places_15 (w : World) : Calls Tryd.prog 16 #[.int .i64 15] w fun e w' => Placed w 15 e w' := by
  go_enter Tryd.func16, Tryd.ntmps16
  go_wp2
  go_ret
  exact ⟨_, rfl, Below.refl _ _, .inl ⟨rfl, rfl⟩⟩
theorem places_16 (w : World) : Calls Tryd.prog 16 #[.int .i64 16] w fun e w' => Placed w 16 e w' := by
  go_enter Tryd.func16, Tryd.ntmps16
  go_wp2
  go_ret
  exact ⟨_, rfl, balloc w _, .inr ⟨w.heap.size, 4, rfl, heap_alloc_new w _⟩⟩
theorem places_any (s : Int) (w : World) (h0 : 0 ≤ s) (h1 : s ≤ 16) : Calls Tryd.prog 16 #[.int .i64 s] w (Placed w s) := by
  rcases (show s = 0 ∨ s = 1 ∨ s = 2 ∨ s = 3 ∨ s = 4 ∨ s = 5 ∨ s = 6 ∨ s = 7 ∨ s = 8 ∨ s = 9 ∨ s = 10 ∨ s = 11 ∨ s = 12 ∨ s = 13 ∨ s = 14 ∨ s = 15 ∨ s = 16 from by omega) with rfl | rfl | rfl | rfl | rfl | rfl | rfl | rfl | rfl | rfl | rfl | rfl | rfl | rfl | rfl | rfl | rfl
  · exact places_0 w
  · exact places_1 w
  · exact places_2 w
  · exact places_3 w
  · exact places_4 w
  · exact places_5 w
  · exact places_6 w
  · exact places_7 w
  · exact places_8 w
  · exact places_9 w
  · exact places_10 w
  · exact places_11 w
  · exact places_12 w
  · exact places_13 w
  · exact places_14 w
  · exact places_15 w
  · exact places_16 w
end Go.Proofs.YtdjdbgilimjagaaDoor
