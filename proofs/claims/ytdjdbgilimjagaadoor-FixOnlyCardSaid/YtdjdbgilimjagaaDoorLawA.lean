/- The law CodeWord, walked: a word is decoded as what is right and has that word, or refused. The library's table lies as it is laid. -/
import Derived.Test.YtdjdbgilimjagaaDoorCodeQ
import Derived.Deep.RegionHeld3
set_option linter.unusedVariables false
set_option linter.unusedSimpArgs false
namespace Go.Proofs.YtdjdbgilimjagaaDoor
open Go.RowKit
set_option maxRecDepth 100000

theorem is_at (i : Ins) (w : World) (hm : i.mask < 18446744073709551616) (HT : Hid (Tab w)) (B : Bool) (HB : Hid (i.isB = B)) :
    Calls Tryd.prog 13 #[.agg #[.int .i64 i.op, .int .i64 i.d, .int .i64 i.n, .int .i64 i.m, .int .i64 i.a, .int .i64 i.imm, .int .u64 (i.mask : Int), .int .i64 i.shift, .int .i64 i.amount, .int .i64 i.cond]] w fun e w' => e = .returned (.bool B) ∧ Below w.heap.size w w' := by
  rw [← HB.out]
  exact is_any i.op i.d i.n i.m i.a i.imm i.shift i.amount i.cond i.mask w hm HT.out
theorem op_any (x : Nat) (w : World) (hx : x < 4294967296) (o : Int) (HO : Hid (opOf x = o)) : Calls Tryd.prog 14 #[.int .u32 x] w fun e w' => e = .returned (.int .i64 o) ∧ Below w.heap.size w w' := by
  rw [← HO.out]
  exact opcode_any x w hx

set_option maxHeartbeats 2000000 in
theorem word_no (x : Nat) (w : World) (hx : x < 4294967296) (HT : Hid (Tab w)) (HN : Hid (decO x = none)) :
    Calls Tryd.prog 3 #[.int .u32 x] w fun e w' => e = .returned (.bool true) ∧ Below w.heap.size w w' := by
  have c1 : Hid (decI x = Ins.zero) := Lib.hid (by unfold decI; rw [HN.out]; rfl)
  have c2 : Hid (decE x = 11) := Lib.hid (by unfold decE; rw [HN.out]; rfl)
  go_enter Tryd.func3, Tryd.ntmps3
  go_wp2_with fail
  refine (dec_at x _ hx HT _ _ c1 c2).mono ?_
  rintro e w1 ⟨rfl, hb1⟩
  go_wp2_with fail
  refine (coded_any _ (Lib.hid (HT.out.below (bt2 hb1 (balloc w1 _))))).mono ?_
  rintro e w2 ⟨rfl, hb2⟩
  have k0 := kept_cells hb2 0
  have k1 := kept_cells hb2 1
  have k2 := kept_cells hb2 2
  have k3 := kept_cells hb2 3
  have k4 := kept_cells hb2 4
  have k5 := kept_cells hb2 5
  have k6 := kept_cells hb2 6
  have k7 := kept_cells hb2 7
  have k8 := kept_cells hb2 8
  have k9 := kept_cells hb2 9
  simp at k0 k1 k2 k3 k4 k5 k6 k7 k8 k9
  go_wp2_with fail
  go_ret
  exact ⟨rfl, bt2 hb1 (bel_of_res hb2)⟩

set_option maxHeartbeats 2000000 in
theorem word_yes (x : Nat) (i : Ins) (w : World) (hx : x < 4294967296) (HT : Hid (Tab w)) (HN : Hid (decO x = some i)) :
    Calls Tryd.prog 3 #[.int .u32 x] w fun e w' => e = .returned (.bool true) ∧ Below w.heap.size w w' := by
  have c1 : Hid (decI x = i) := Lib.hid (by unfold decI; rw [HN.out]; rfl)
  have c2 : Hid (decE x = 0) := Lib.hid (by unfold decE; rw [HN.out]; rfl)
  obtain ⟨hB, hO, hW, _, _⟩ := dec_word x hx i HN.out
  have hm := dec_mask x i HN.out
  have HB := Lib.hid hB
  have HO := Lib.hid hO.symm
  have HW : Hid (encW i = x) := Lib.hid (by unfold encW; rw [hB, if_pos rfl]; exact hW)
  have HE : Hid (encE i = 0) := Lib.hid (by unfold encE; rw [hB, if_pos rfl])
  clear hB hO hW
  go_enter Tryd.func3, Tryd.ntmps3
  go_wp2_with fail
  refine (dec_at x _ hx HT _ _ c1 c2).mono ?_
  rintro e w1 ⟨rfl, hb1⟩
  go_wp2_with fail
  refine (enc_any i _ hm (Lib.hid (HT.out.below (bt2 hb1 (balloc w1 _)))) _ _ HW HE).mono ?_
  rintro e w2 ⟨rfl, hb2⟩
  have k0 : w2.cell? ⟨w1.heap.size, 0, none⟩ = some (.int .i64 i.op) := kept_cells hb2 0
  have k1 : w2.cell? ⟨w1.heap.size, 1, none⟩ = some (.int .i64 i.d) := kept_cells hb2 1
  have k2 : w2.cell? ⟨w1.heap.size, 2, none⟩ = some (.int .i64 i.n) := kept_cells hb2 2
  have k3 : w2.cell? ⟨w1.heap.size, 3, none⟩ = some (.int .i64 i.m) := kept_cells hb2 3
  have k4 : w2.cell? ⟨w1.heap.size, 4, none⟩ = some (.int .i64 i.a) := kept_cells hb2 4
  have k5 : w2.cell? ⟨w1.heap.size, 5, none⟩ = some (.int .i64 i.imm) := kept_cells hb2 5
  have k6 : w2.cell? ⟨w1.heap.size, 6, none⟩ = some (.int .u64 (i.mask : Int)) := kept_cells hb2 6
  have k7 : w2.cell? ⟨w1.heap.size, 7, none⟩ = some (.int .i64 i.shift) := kept_cells hb2 7
  have k8 : w2.cell? ⟨w1.heap.size, 8, none⟩ = some (.int .i64 i.amount) := kept_cells hb2 8
  have k9 : w2.cell? ⟨w1.heap.size, 9, none⟩ = some (.int .i64 i.cond) := kept_cells hb2 9
  have HB2 := Lib.hid (bt2 hb1 (bel_of_res hb2))
  have HT2 := Lib.hid (HT.out.below HB2.out)
  clear hb1 hb2
  go_wp2_with fail
  go_region_held3 (fun w' => w'.cell? ⟨w1.heap.size, 0, none⟩ = some (.int .i64 i.op) ∧ w'.cell? ⟨w1.heap.size, 1, none⟩ = some (.int .i64 i.d) ∧ w'.cell? ⟨w1.heap.size, 2, none⟩ = some (.int .i64 i.n) ∧ w'.cell? ⟨w1.heap.size, 3, none⟩ = some (.int .i64 i.m) ∧ w'.cell? ⟨w1.heap.size, 4, none⟩ = some (.int .i64 i.a) ∧
      w'.cell? ⟨w1.heap.size, 5, none⟩ = some (.int .i64 i.imm) ∧ w'.cell? ⟨w1.heap.size, 6, none⟩ = some (.int .u64 (i.mask : Int)) ∧ w'.cell? ⟨w1.heap.size, 7, none⟩ = some (.int .i64 i.shift) ∧ w'.cell? ⟨w1.heap.size, 8, none⟩ = some (.int .i64 i.amount) ∧ w'.cell? ⟨w1.heap.size, 9, none⟩ = some (.int .i64 i.cond) ∧ Below w2.heap.size w2 w')
    (first | exact ⟨k0, k1, k2, k3, k4, k5, k6, k7, k8, k9, Below.refl _ _⟩ | exact ⟨k0, k1, k2, k3, k4, k5, k6, k7, k8, k9, below_drewN (Below.refl _ _) 1⟩ | (exact ⟨cell_later hb3 ‹_›, cell_later hb3 ‹_›, cell_later hb3 ‹_›, cell_later hb3 ‹_›, cell_later hb3 ‹_›, cell_later hb3 ‹_›, cell_later hb3 ‹_›, cell_later hb3 ‹_›, cell_later hb3 ‹_›, cell_later hb3 ‹_›, Below.trans ‹Below w2.heap.size w2 _› (hb3.mono (Below.size ‹Below w2.heap.size w2 _›))⟩))
    (first | (go_at_call 11; go_split_ands; refine (coded_any _ (Lib.hid (HT2.out.below ‹Below w2.heap.size w2 _›))).mono ?_; rintro e w3 ⟨rfl, hb3⟩) | (go_at_call 13; go_split_ands; refine (is_at i _ hm (Lib.hid (HT2.out.below ‹Below w2.heap.size w2 _›)) _ HB).mono ?_; rintro e w4 ⟨rfl, hb3⟩) | (go_at_call 14; go_split_ands; refine (op_any x _ hx _ HO).mono ?_; rintro e w5 ⟨rfl, hb3⟩))
  all_goals go_wp2_with fail
  all_goals go_ret
  all_goals go_split_ands
  all_goals exact ⟨rfl, HB2.out.trans (Below.mono ‹Below w2.heap.size w2 _› HB2.out.size)⟩

/-- The law CodeWord. -/
theorem codeword_any (x : Nat) (w : World) (hx : x < 4294967296) (HT : Hid (Tab w)) :
    Calls Tryd.prog 3 #[.int .u32 x] w fun e w' => e = .returned (.bool true) ∧ Below w.heap.size w w' := by
  cases h : decO x with
  | none => exact word_no x w hx HT (Lib.hid h)
  | some i => exact word_yes x i w hx HT (Lib.hid h)
end Go.Proofs.YtdjdbgilimjagaaDoor
