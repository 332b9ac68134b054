/- The law CodeFields, walked: of two instructions that are not the same the words are not; a word's first fields are the registers. The library's table lies as it is laid. -/
import Derived.Test.YtdjdbgilimjagaaDoorLawC
set_option linter.unusedVariables false
set_option linter.unusedSimpArgs false
namespace Go.Proofs.YtdjdbgilimjagaaDoor
open Go.RowKit
set_option maxRecDepth 100000

theorem word_get (i : Ins) (h : i.isB = true) (hm : i.mask < 2 ^ 64) (p : PS) (hp : p ∈ partsL (shapeI i.op)) : p.get i.word = i.val p.sel := by
  have g := good_of i h hm
  have h0 := g.op0
  have h1 := g.op1
  have hb := List.all_eq_true.1 base_free i.op.toNat (List.mem_range.2 (by omega))
  rw [beq_iff_eq, Int.toNat_of_nonneg (by omega)] at hb
  refine get_fd p _ _ (g.fit p hp).2 ?_
  refine field_word _ _ g.disj g.val ?_ _ (List.mem_map_of_mem hp)
  unfold Ins.fields fieldsOf
  rw [taken_fields]
  exact hb
theorem field_val (x P N : Nat) (z : Int) (w : World) (hx : x < 4294967296) (h0 : 1 ≤ N) (h1 : P + N ≤ 32) (HZ : Hid (((fieldN x P N : Nat) : Int) = z)) :
    Calls Tryd.prog 15 #[.int .u32 x, .int .i64 P, .int .i64 N] w fun e w' => e = .returned (.tuple #[.int .u32 z, .int .i64 0]) ∧ Below w.heap.size w w' := by
  rw [← HZ.out]
  exact field_nat x P N _ w hx h0 h1 (Lib.hid rfl)
theorem At.ten {w : World} {b : Nat} {i : Ins} (h : At w b i) : w.cell? ⟨b, 0, none⟩ = some (.int .i64 i.op) ∧ w.cell? ⟨b, 1, none⟩ = some (.int .i64 i.d) ∧ w.cell? ⟨b, 2, none⟩ = some (.int .i64 i.n) ∧ w.cell? ⟨b, 3, none⟩ = some (.int .i64 i.m) ∧ w.cell? ⟨b, 4, none⟩ = some (.int .i64 i.a) ∧
    w.cell? ⟨b, 5, none⟩ = some (.int .i64 i.imm) ∧ w.cell? ⟨b, 6, none⟩ = some (.int .u64 (i.mask : Int)) ∧ w.cell? ⟨b, 7, none⟩ = some (.int .i64 i.shift) ∧ w.cell? ⟨b, 8, none⟩ = some (.int .i64 i.amount) ∧ w.cell? ⟨b, 9, none⟩ = some (.int .i64 i.cond) :=
  ⟨h.cell 0, h.cell 1, h.cell 2, h.cell 3, h.cell 4, h.cell 5, h.cell 6, h.cell 7, h.cell 8, h.cell 9⟩

set_option maxHeartbeats 2000000 in
theorem fields_no (i j : Ins) (w : World) (mi : i.mask < 18446744073709551616) (mj : j.mask < 18446744073709551616) (HT : Hid (Tab w)) (h : i.isB = false ∨ j.isB = false) :
    Calls Tryd.prog 5 #[.agg i.cells, .agg j.cells] w fun e w' => e = .returned (.bool true) ∧ Below w.heap.size w w' := by
  obtain ⟨W1, hW1⟩ : ∃ W, encW i = W := ⟨_, rfl⟩
  obtain ⟨W2, hW2⟩ : ∃ W, encW j = W := ⟨_, rfl⟩
  have HW1 := Lib.hid hW1
  have HW2 := Lib.hid hW2
  unfold Ins.cells
  clear hW1 hW2
  have hcase : i.isB = false ∨ (i.isB = true ∧ j.isB = false) := by
    cases hi : i.isB with
    | false => exact .inl rfl
    | true => exact .inr ⟨rfl, h.resolve_left (by rw [hi]; decide)⟩
  clear h
  rcases hcase with hi | ⟨hi, hj⟩
  · have HE1 : Hid (encE i = 1) := Lib.hid (by unfold encE; rw [hi, if_neg (by decide)])
    obtain ⟨E2, hE2⟩ : ∃ E, encE j = E := ⟨_, rfl⟩
    have HE2 := Lib.hid hE2
    clear hi hE2
    go_enter Tryd.func5, Tryd.ntmps5
    go_wp2_with fail
    refine (enc_any i _ mi (Lib.hid (HT.out.below (bt2 (balloc w _) (balloc _ _)))) _ _ HW1 HE1).mono ?_
    rintro e w1 ⟨rfl, hb1⟩
    obtain ⟨hA, hJ, hz1, hw1⟩ := two_new hb1
    obtain ⟨k0, k1, k2, k3, k4, k5, k6, k7, k8, k9⟩ := (show At w1 (w.heap.size + 1) j from hJ).ten
    go_wp2_with fail
    refine (enc_any j _ mj (Lib.hid (HT.out.below hw1)) _ _ HW2 HE2).mono ?_
    rintro e w2 ⟨rfl, hb2⟩
    go_wp2_with (go_at_call 11; refine (coded_any _ (Lib.hid (HT.out.below (bt2 hw1 hb2)))).mono ?_; rintro e w3 ⟨rfl, hb3⟩)
    go_ret
    exact ⟨rfl, bt2 hw1 (bt2 hb2 hb3)⟩
  · have HE1 : Hid (encE i = 0) := Lib.hid (by unfold encE; rw [hi, if_pos rfl])
    have HE2 : Hid (encE j = 1) := Lib.hid (by unfold encE; rw [hj, if_neg (by decide)])
    clear hi hj
    go_enter Tryd.func5, Tryd.ntmps5
    go_wp2_with fail
    refine (enc_any i _ mi (Lib.hid (HT.out.below (bt2 (balloc w _) (balloc _ _)))) _ _ HW1 HE1).mono ?_
    rintro e w1 ⟨rfl, hb1⟩
    obtain ⟨hA, hJ, hz1, hw1⟩ := two_new hb1
    obtain ⟨k0, k1, k2, k3, k4, k5, k6, k7, k8, k9⟩ := (show At w1 (w.heap.size + 1) j from hJ).ten
    go_wp2_with fail
    refine (enc_any j _ mj (Lib.hid (HT.out.below hw1)) _ _ HW2 HE2).mono ?_
    rintro e w2 ⟨rfl, hb2⟩
    go_wp2_with (go_at_call 11; refine (coded_any _ (Lib.hid (HT.out.below (bt2 hw1 hb2)))).mono ?_; rintro e w3 ⟨rfl, hb3⟩)
    go_ret
    exact ⟨rfl, bt2 hw1 (bt2 hb2 hb3)⟩


theorem eq_same (i : Ins) (w : World) : (binOp .eql 25 (.agg #[.int .i64 i.op, .int .i64 i.d, .int .i64 i.n, .int .i64 i.m, .int .i64 i.a, .int .i64 i.imm, .int .u64 (i.mask : Int), .int .i64 i.shift, .int .i64 i.amount, .int .i64 i.cond]) (.agg #[.int .i64 i.op, .int .i64 i.d, .int .i64 i.n, .int .i64 i.m, .int .i64 i.a, .int .i64 i.imm, .int .u64 (i.mask : Int), .int .i64 i.shift, .int .i64 i.amount, .int .i64 i.cond])).run Tryd.prog w = .ok (.bool true) w := by
  simp [go_sem]
theorem eq_apart (i j : Ins) (h : i ≠ j) (w : World) : (binOp .eql 25 (.agg #[.int .i64 i.op, .int .i64 i.d, .int .i64 i.n, .int .i64 i.m, .int .i64 i.a, .int .i64 i.imm, .int .u64 (i.mask : Int), .int .i64 i.shift, .int .i64 i.amount, .int .i64 i.cond]) (.agg #[.int .i64 j.op, .int .i64 j.d, .int .i64 j.n, .int .i64 j.m, .int .i64 j.a, .int .i64 j.imm, .int .u64 (j.mask : Int), .int .i64 j.shift, .int .i64 j.amount, .int .i64 j.cond])).run Tryd.prog w = .ok (.bool false) w := by
  simp [go_sem]
  intro e0 e1 e2 e3 e4 e5 e6 e7 e8 e9
  have e6' : i.mask = j.mask := by omega
  clear e6
  apply h
  cases i; cases j
  simp_all

set_option maxHeartbeats 2000000 in
/-- Shapes 2..8: both. -/
theorem fields_a (i j : Ins) (w : World) (mi : i.mask < 18446744073709551616) (mj : j.mask < 18446744073709551616) (HT : Hid (Tab w)) (s : Int) (HS : Hid (shapeI i.op = s)) (V U : Nat) (HV : Hid (encW i = V)) (HU : Hid (encW j = U)) (HE1 : Hid (encE i = 0)) (HE2 : Hid (encE j = 0)) (hV : V < 4294967296)
    (B : Bool) (hUV : ((V : Int) == (U : Int)) = B) (heq : ∀ w : World, (binOp .eql 25 (.agg #[.int .i64 i.op, .int .i64 i.d, .int .i64 i.n, .int .i64 i.m, .int .i64 i.a, .int .i64 i.imm, .int .u64 (i.mask : Int), .int .i64 i.shift, .int .i64 i.amount, .int .i64 i.cond]) (.agg #[.int .i64 j.op, .int .i64 j.d, .int .i64 j.n, .int .i64 j.m, .int .i64 j.a, .int .i64 j.imm, .int .u64 (j.mask : Int), .int .i64 j.shift, .int .i64 j.amount, .int .i64 j.cond])).run Tryd.prog w = .ok (.bool B) w)
    (HZ0 : Hid (((fieldN V 0 5 : Nat) : Int) = i.d)) (HZ1 : Hid (((fieldN V 5 5 : Nat) : Int) = i.n)) (h0 : 0 ≤ i.d ∧ i.d < 32) (h1 : 0 ≤ i.n ∧ i.n < 32) (h2 : 2 ≤ s) (h3 : s ≤ 8) :
    Calls Tryd.prog 5 #[.agg i.cells, .agg j.cells] w fun e w' => e = .returned (.bool true) ∧ Below w.heap.size w w' := by
  unfold Ins.cells
  have HSH : ∀ w, Calls Tryd.prog 18 #[.int .i64 i.op] w fun e w' => e = .returned (.int .i64 s) ∧ Below w.heap.size w w' := fun w => by
    rw [← HS.out]; exact shape_any i.op w
  have HHS := Lib.hid HSH
  clear HSH
  go_enter Tryd.func5, Tryd.ntmps5
  go_wp2_with fail
  refine (enc_any i _ mi (Lib.hid (HT.out.below (bt2 (balloc w _) (balloc _ _)))) _ _ HV HE1).mono ?_
  rintro e w1 ⟨rfl, hb1⟩
  obtain ⟨hA, hJ, hz1, hw1⟩ := two_new hb1
  obtain ⟨k0, k1, k2, k3, k4, k5, k6, k7, k8, k9⟩ := (show At w1 (w.heap.size + 1) j from hJ).ten
  go_wp2_with fail
  refine (enc_any j _ mj (Lib.hid (HT.out.below hw1)) _ _ HU HE2).mono ?_
  rintro e w2 ⟨rfl, hb2⟩
  clear k0 k1 k2 k3 k4 k5 k6 k7 k8 k9
  have hA2 := (show At w1 w.heap.size i from hA).below hb2
  have k0 : w2.cell? ⟨w.heap.size, 0, none⟩ = some (.int .i64 i.op) := hA2.cell 0
  go_wp2_with fail
  refine (HHS.out _).mono ?_
  rintro e w3 ⟨rfl, hb3⟩
  go_wp2_with fail
  refine (field_val V 0 5 i.d _ hV (by omega) (by omega) HZ0).mono ?_
  rintro e w4 ⟨rfl, hb4⟩
  go_wp2_with fail
  refine (field_val V 5 5 i.n _ hV (by omega) (by omega) HZ1).mono ?_
  rintro e w5 ⟨rfl, hb5⟩
  clear k0
  go_wp2_with fail
  refine (coded_any _ (Lib.hid (HT.out.below (bt2 hw1 (bt2 hb2 (bt2 hb3 (bt2 hb4 hb5))))))).mono ?_
  rintro e w6 ⟨rfl, hb6⟩
  have hb26 := bt2 hb2 (bt2 hb3 (bt2 hb4 (bt2 hb5 hb6)))
  obtain ⟨k0, k1, k2, k3, k4, k5, k6, k7, k8, k9⟩ := ((show At w1 w.heap.size i from hA).below hb26).ten
  obtain ⟨j0, j1, j2, j3, j4, j5, j6, j7, j8, j9⟩ := ((show At w1 (w.heap.size + 1) j from hJ).below hb26).ten
  go_wp2_with fail
  go_ret
  exact ⟨rfl, bt2 hw1 hb26⟩

set_option maxHeartbeats 2000000 in
/-- Shapes 1: the first. -/
theorem fields_b (i j : Ins) (w : World) (mi : i.mask < 18446744073709551616) (mj : j.mask < 18446744073709551616) (HT : Hid (Tab w)) (HS : Hid (shapeI i.op = 1)) (V U : Nat) (HV : Hid (encW i = V)) (HU : Hid (encW j = U)) (HE1 : Hid (encE i = 0)) (HE2 : Hid (encE j = 0)) (hV : V < 4294967296)
    (B : Bool) (hUV : ((V : Int) == (U : Int)) = B) (heq : ∀ w : World, (binOp .eql 25 (.agg #[.int .i64 i.op, .int .i64 i.d, .int .i64 i.n, .int .i64 i.m, .int .i64 i.a, .int .i64 i.imm, .int .u64 (i.mask : Int), .int .i64 i.shift, .int .i64 i.amount, .int .i64 i.cond]) (.agg #[.int .i64 j.op, .int .i64 j.d, .int .i64 j.n, .int .i64 j.m, .int .i64 j.a, .int .i64 j.imm, .int .u64 (j.mask : Int), .int .i64 j.shift, .int .i64 j.amount, .int .i64 j.cond])).run Tryd.prog w = .ok (.bool B) w) (z1 : Int)
    (HZ0 : Hid (((fieldN V 0 5 : Nat) : Int) = i.d)) (HZ1 : Hid (((fieldN V 5 5 : Nat) : Int) = z1)) (h0 : 0 ≤ i.d ∧ i.d < 32) (h1 : 0 ≤ z1 ∧ z1 < 32)  :
    Calls Tryd.prog 5 #[.agg i.cells, .agg j.cells] w fun e w' => e = .returned (.bool true) ∧ Below w.heap.size w w' := by
  unfold Ins.cells
  have HSH : ∀ w, Calls Tryd.prog 18 #[.int .i64 i.op] w fun e w' => e = .returned (.int .i64 1) ∧ Below w.heap.size w w' := fun w => by
    rw [← HS.out]; exact shape_any i.op w
  have HHS := Lib.hid HSH
  clear HSH
  go_enter Tryd.func5, Tryd.ntmps5
  go_wp2_with fail
  refine (enc_any i _ mi (Lib.hid (HT.out.below (bt2 (balloc w _) (balloc _ _)))) _ _ HV HE1).mono ?_
  rintro e w1 ⟨rfl, hb1⟩
  obtain ⟨hA, hJ, hz1, hw1⟩ := two_new hb1
  obtain ⟨k0, k1, k2, k3, k4, k5, k6, k7, k8, k9⟩ := (show At w1 (w.heap.size + 1) j from hJ).ten
  go_wp2_with fail
  refine (enc_any j _ mj (Lib.hid (HT.out.below hw1)) _ _ HU HE2).mono ?_
  rintro e w2 ⟨rfl, hb2⟩
  clear k0 k1 k2 k3 k4 k5 k6 k7 k8 k9
  have hA2 := (show At w1 w.heap.size i from hA).below hb2
  have k0 : w2.cell? ⟨w.heap.size, 0, none⟩ = some (.int .i64 i.op) := hA2.cell 0
  go_wp2_with fail
  refine (HHS.out _).mono ?_
  rintro e w3 ⟨rfl, hb3⟩
  go_wp2_with fail
  refine (field_val V 0 5 i.d _ hV (by omega) (by omega) HZ0).mono ?_
  rintro e w4 ⟨rfl, hb4⟩
  go_wp2_with fail
  refine (field_val V 5 5 z1 _ hV (by omega) (by omega) HZ1).mono ?_
  rintro e w5 ⟨rfl, hb5⟩
  clear k0
  go_wp2_with fail
  refine (coded_any _ (Lib.hid (HT.out.below (bt2 hw1 (bt2 hb2 (bt2 hb3 (bt2 hb4 hb5))))))).mono ?_
  rintro e w6 ⟨rfl, hb6⟩
  have hb26 := bt2 hb2 (bt2 hb3 (bt2 hb4 (bt2 hb5 hb6)))
  obtain ⟨k0, k1, k2, k3, k4, k5, k6, k7, k8, k9⟩ := ((show At w1 w.heap.size i from hA).below hb26).ten
  obtain ⟨j0, j1, j2, j3, j4, j5, j6, j7, j8, j9⟩ := ((show At w1 (w.heap.size + 1) j from hJ).below hb26).ten
  go_wp2_with fail
  go_ret
  exact ⟨rfl, bt2 hw1 hb26⟩

set_option maxHeartbeats 2000000 in
/-- Shapes 9, 10: the first. -/
theorem fields_c (i j : Ins) (w : World) (mi : i.mask < 18446744073709551616) (mj : j.mask < 18446744073709551616) (HT : Hid (Tab w)) (s : Int) (HS : Hid (shapeI i.op = s)) (V U : Nat) (HV : Hid (encW i = V)) (HU : Hid (encW j = U)) (HE1 : Hid (encE i = 0)) (HE2 : Hid (encE j = 0)) (hV : V < 4294967296)
    (B : Bool) (hUV : ((V : Int) == (U : Int)) = B) (heq : ∀ w : World, (binOp .eql 25 (.agg #[.int .i64 i.op, .int .i64 i.d, .int .i64 i.n, .int .i64 i.m, .int .i64 i.a, .int .i64 i.imm, .int .u64 (i.mask : Int), .int .i64 i.shift, .int .i64 i.amount, .int .i64 i.cond]) (.agg #[.int .i64 j.op, .int .i64 j.d, .int .i64 j.n, .int .i64 j.m, .int .i64 j.a, .int .i64 j.imm, .int .u64 (j.mask : Int), .int .i64 j.shift, .int .i64 j.amount, .int .i64 j.cond])).run Tryd.prog w = .ok (.bool B) w) (z1 : Int)
    (HZ0 : Hid (((fieldN V 0 5 : Nat) : Int) = i.d)) (HZ1 : Hid (((fieldN V 5 5 : Nat) : Int) = z1)) (h0 : 0 ≤ i.d ∧ i.d < 32) (h1 : 0 ≤ z1 ∧ z1 < 32) (h2 : 9 ≤ s) (h3 : s ≤ 10) (h4 : (s == 16) = false) (h5 : (s == 13) = false) :
    Calls Tryd.prog 5 #[.agg i.cells, .agg j.cells] w fun e w' => e = .returned (.bool true) ∧ Below w.heap.size w w' := by
  unfold Ins.cells
  have HSH : ∀ w, Calls Tryd.prog 18 #[.int .i64 i.op] w fun e w' => e = .returned (.int .i64 s) ∧ Below w.heap.size w w' := fun w => by
    rw [← HS.out]; exact shape_any i.op w
  have HHS := Lib.hid HSH
  clear HSH
  go_enter Tryd.func5, Tryd.ntmps5
  go_wp2_with fail
  refine (enc_any i _ mi (Lib.hid (HT.out.below (bt2 (balloc w _) (balloc _ _)))) _ _ HV HE1).mono ?_
  rintro e w1 ⟨rfl, hb1⟩
  obtain ⟨hA, hJ, hz1, hw1⟩ := two_new hb1
  obtain ⟨k0, k1, k2, k3, k4, k5, k6, k7, k8, k9⟩ := (show At w1 (w.heap.size + 1) j from hJ).ten
  go_wp2_with fail
  refine (enc_any j _ mj (Lib.hid (HT.out.below hw1)) _ _ HU HE2).mono ?_
  rintro e w2 ⟨rfl, hb2⟩
  clear k0 k1 k2 k3 k4 k5 k6 k7 k8 k9
  have hA2 := (show At w1 w.heap.size i from hA).below hb2
  have k0 : w2.cell? ⟨w.heap.size, 0, none⟩ = some (.int .i64 i.op) := hA2.cell 0
  go_wp2_with fail
  refine (HHS.out _).mono ?_
  rintro e w3 ⟨rfl, hb3⟩
  go_wp2_with fail
  refine (field_val V 0 5 i.d _ hV (by omega) (by omega) HZ0).mono ?_
  rintro e w4 ⟨rfl, hb4⟩
  go_wp2_with fail
  refine (field_val V 5 5 z1 _ hV (by omega) (by omega) HZ1).mono ?_
  rintro e w5 ⟨rfl, hb5⟩
  clear k0
  go_wp2_with fail
  refine (coded_any _ (Lib.hid (HT.out.below (bt2 hw1 (bt2 hb2 (bt2 hb3 (bt2 hb4 hb5))))))).mono ?_
  rintro e w6 ⟨rfl, hb6⟩
  have hb26 := bt2 hb2 (bt2 hb3 (bt2 hb4 (bt2 hb5 hb6)))
  obtain ⟨k0, k1, k2, k3, k4, k5, k6, k7, k8, k9⟩ := ((show At w1 w.heap.size i from hA).below hb26).ten
  obtain ⟨j0, j1, j2, j3, j4, j5, j6, j7, j8, j9⟩ := ((show At w1 (w.heap.size + 1) j from hJ).below hb26).ten
  go_wp2_with fail
  go_ret
  exact ⟨rfl, bt2 hw1 hb26⟩

set_option maxHeartbeats 2000000 in
/-- Shapes 11, 12, 14, 15: none. -/
theorem fields_d (i j : Ins) (w : World) (mi : i.mask < 18446744073709551616) (mj : j.mask < 18446744073709551616) (HT : Hid (Tab w)) (s : Int) (HS : Hid (shapeI i.op = s)) (V U : Nat) (HV : Hid (encW i = V)) (HU : Hid (encW j = U)) (HE1 : Hid (encE i = 0)) (HE2 : Hid (encE j = 0)) (hV : V < 4294967296)
    (B : Bool) (hUV : ((V : Int) == (U : Int)) = B) (heq : ∀ w : World, (binOp .eql 25 (.agg #[.int .i64 i.op, .int .i64 i.d, .int .i64 i.n, .int .i64 i.m, .int .i64 i.a, .int .i64 i.imm, .int .u64 (i.mask : Int), .int .i64 i.shift, .int .i64 i.amount, .int .i64 i.cond]) (.agg #[.int .i64 j.op, .int .i64 j.d, .int .i64 j.n, .int .i64 j.m, .int .i64 j.a, .int .i64 j.imm, .int .u64 (j.mask : Int), .int .i64 j.shift, .int .i64 j.amount, .int .i64 j.cond])).run Tryd.prog w = .ok (.bool B) w) (z0 : Int) (z1 : Int)
    (HZ0 : Hid (((fieldN V 0 5 : Nat) : Int) = z0)) (HZ1 : Hid (((fieldN V 5 5 : Nat) : Int) = z1)) (h0 : 0 ≤ z0 ∧ z0 < 32) (h1 : 0 ≤ z1 ∧ z1 < 32) (h2 : 11 ≤ s) (h4 : (s == 16) = false) (h5 : (s == 13) = false) :
    Calls Tryd.prog 5 #[.agg i.cells, .agg j.cells] w fun e w' => e = .returned (.bool true) ∧ Below w.heap.size w w' := by
  unfold Ins.cells
  have HSH : ∀ w, Calls Tryd.prog 18 #[.int .i64 i.op] w fun e w' => e = .returned (.int .i64 s) ∧ Below w.heap.size w w' := fun w => by
    rw [← HS.out]; exact shape_any i.op w
  have HHS := Lib.hid HSH
  clear HSH
  go_enter Tryd.func5, Tryd.ntmps5
  go_wp2_with fail
  refine (enc_any i _ mi (Lib.hid (HT.out.below (bt2 (balloc w _) (balloc _ _)))) _ _ HV HE1).mono ?_
  rintro e w1 ⟨rfl, hb1⟩
  obtain ⟨hA, hJ, hz1, hw1⟩ := two_new hb1
  obtain ⟨k0, k1, k2, k3, k4, k5, k6, k7, k8, k9⟩ := (show At w1 (w.heap.size + 1) j from hJ).ten
  go_wp2_with fail
  refine (enc_any j _ mj (Lib.hid (HT.out.below hw1)) _ _ HU HE2).mono ?_
  rintro e w2 ⟨rfl, hb2⟩
  clear k0 k1 k2 k3 k4 k5 k6 k7 k8 k9
  have hA2 := (show At w1 w.heap.size i from hA).below hb2
  have k0 : w2.cell? ⟨w.heap.size, 0, none⟩ = some (.int .i64 i.op) := hA2.cell 0
  go_wp2_with fail
  refine (HHS.out _).mono ?_
  rintro e w3 ⟨rfl, hb3⟩
  go_wp2_with fail
  refine (field_val V 0 5 z0 _ hV (by omega) (by omega) HZ0).mono ?_
  rintro e w4 ⟨rfl, hb4⟩
  go_wp2_with fail
  refine (field_val V 5 5 z1 _ hV (by omega) (by omega) HZ1).mono ?_
  rintro e w5 ⟨rfl, hb5⟩
  clear k0
  go_wp2_with fail
  refine (coded_any _ (Lib.hid (HT.out.below (bt2 hw1 (bt2 hb2 (bt2 hb3 (bt2 hb4 hb5))))))).mono ?_
  rintro e w6 ⟨rfl, hb6⟩
  have hb26 := bt2 hb2 (bt2 hb3 (bt2 hb4 (bt2 hb5 hb6)))
  obtain ⟨k0, k1, k2, k3, k4, k5, k6, k7, k8, k9⟩ := ((show At w1 w.heap.size i from hA).below hb26).ten
  obtain ⟨j0, j1, j2, j3, j4, j5, j6, j7, j8, j9⟩ := ((show At w1 (w.heap.size + 1) j from hJ).below hb26).ten
  go_wp2_with fail
  go_ret
  exact ⟨rfl, bt2 hw1 hb26⟩

set_option maxHeartbeats 2000000 in
/-- Shapes 13: the second. -/
theorem fields_e (i j : Ins) (w : World) (mi : i.mask < 18446744073709551616) (mj : j.mask < 18446744073709551616) (HT : Hid (Tab w)) (HS : Hid (shapeI i.op = 13)) (V U : Nat) (HV : Hid (encW i = V)) (HU : Hid (encW j = U)) (HE1 : Hid (encE i = 0)) (HE2 : Hid (encE j = 0)) (hV : V < 4294967296)
    (B : Bool) (hUV : ((V : Int) == (U : Int)) = B) (heq : ∀ w : World, (binOp .eql 25 (.agg #[.int .i64 i.op, .int .i64 i.d, .int .i64 i.n, .int .i64 i.m, .int .i64 i.a, .int .i64 i.imm, .int .u64 (i.mask : Int), .int .i64 i.shift, .int .i64 i.amount, .int .i64 i.cond]) (.agg #[.int .i64 j.op, .int .i64 j.d, .int .i64 j.n, .int .i64 j.m, .int .i64 j.a, .int .i64 j.imm, .int .u64 (j.mask : Int), .int .i64 j.shift, .int .i64 j.amount, .int .i64 j.cond])).run Tryd.prog w = .ok (.bool B) w) (z0 : Int)
    (HZ0 : Hid (((fieldN V 0 5 : Nat) : Int) = z0)) (HZ1 : Hid (((fieldN V 5 5 : Nat) : Int) = i.n)) (h0 : 0 ≤ z0 ∧ z0 < 32) (h1 : 0 ≤ i.n ∧ i.n < 32)  :
    Calls Tryd.prog 5 #[.agg i.cells, .agg j.cells] w fun e w' => e = .returned (.bool true) ∧ Below w.heap.size w w' := by
  unfold Ins.cells
  have HSH : ∀ w, Calls Tryd.prog 18 #[.int .i64 i.op] w fun e w' => e = .returned (.int .i64 13) ∧ Below w.heap.size w w' := fun w => by
    rw [← HS.out]; exact shape_any i.op w
  have HHS := Lib.hid HSH
  clear HSH
  go_enter Tryd.func5, Tryd.ntmps5
  go_wp2_with fail
  refine (enc_any i _ mi (Lib.hid (HT.out.below (bt2 (balloc w _) (balloc _ _)))) _ _ HV HE1).mono ?_
  rintro e w1 ⟨rfl, hb1⟩
  obtain ⟨hA, hJ, hz1, hw1⟩ := two_new hb1
  obtain ⟨k0, k1, k2, k3, k4, k5, k6, k7, k8, k9⟩ := (show At w1 (w.heap.size + 1) j from hJ).ten
  go_wp2_with fail
  refine (enc_any j _ mj (Lib.hid (HT.out.below hw1)) _ _ HU HE2).mono ?_
  rintro e w2 ⟨rfl, hb2⟩
  clear k0 k1 k2 k3 k4 k5 k6 k7 k8 k9
  have hA2 := (show At w1 w.heap.size i from hA).below hb2
  have k0 : w2.cell? ⟨w.heap.size, 0, none⟩ = some (.int .i64 i.op) := hA2.cell 0
  go_wp2_with fail
  refine (HHS.out _).mono ?_
  rintro e w3 ⟨rfl, hb3⟩
  go_wp2_with fail
  refine (field_val V 0 5 z0 _ hV (by omega) (by omega) HZ0).mono ?_
  rintro e w4 ⟨rfl, hb4⟩
  go_wp2_with fail
  refine (field_val V 5 5 i.n _ hV (by omega) (by omega) HZ1).mono ?_
  rintro e w5 ⟨rfl, hb5⟩
  clear k0
  go_wp2_with fail
  refine (coded_any _ (Lib.hid (HT.out.below (bt2 hw1 (bt2 hb2 (bt2 hb3 (bt2 hb4 hb5))))))).mono ?_
  rintro e w6 ⟨rfl, hb6⟩
  have hb26 := bt2 hb2 (bt2 hb3 (bt2 hb4 (bt2 hb5 hb6)))
  obtain ⟨k0, k1, k2, k3, k4, k5, k6, k7, k8, k9⟩ := ((show At w1 w.heap.size i from hA).below hb26).ten
  obtain ⟨j0, j1, j2, j3, j4, j5, j6, j7, j8, j9⟩ := ((show At w1 (w.heap.size + 1) j from hJ).below hb26).ten
  go_wp2_with fail
  go_ret
  exact ⟨rfl, bt2 hw1 hb26⟩

set_option maxHeartbeats 2000000 in
/-- Shapes 16: both. -/
theorem fields_f (i j : Ins) (w : World) (mi : i.mask < 18446744073709551616) (mj : j.mask < 18446744073709551616) (HT : Hid (Tab w)) (HS : Hid (shapeI i.op = 16)) (V U : Nat) (HV : Hid (encW i = V)) (HU : Hid (encW j = U)) (HE1 : Hid (encE i = 0)) (HE2 : Hid (encE j = 0)) (hV : V < 4294967296)
    (B : Bool) (hUV : ((V : Int) == (U : Int)) = B) (heq : ∀ w : World, (binOp .eql 25 (.agg #[.int .i64 i.op, .int .i64 i.d, .int .i64 i.n, .int .i64 i.m, .int .i64 i.a, .int .i64 i.imm, .int .u64 (i.mask : Int), .int .i64 i.shift, .int .i64 i.amount, .int .i64 i.cond]) (.agg #[.int .i64 j.op, .int .i64 j.d, .int .i64 j.n, .int .i64 j.m, .int .i64 j.a, .int .i64 j.imm, .int .u64 (j.mask : Int), .int .i64 j.shift, .int .i64 j.amount, .int .i64 j.cond])).run Tryd.prog w = .ok (.bool B) w)
    (HZ0 : Hid (((fieldN V 0 5 : Nat) : Int) = i.d)) (HZ1 : Hid (((fieldN V 5 5 : Nat) : Int) = i.n)) (h0 : 0 ≤ i.d ∧ i.d < 32) (h1 : 0 ≤ i.n ∧ i.n < 32)  :
    Calls Tryd.prog 5 #[.agg i.cells, .agg j.cells] w fun e w' => e = .returned (.bool true) ∧ Below w.heap.size w w' := by
  unfold Ins.cells
  have HSH : ∀ w, Calls Tryd.prog 18 #[.int .i64 i.op] w fun e w' => e = .returned (.int .i64 16) ∧ Below w.heap.size w w' := fun w => by
    rw [← HS.out]; exact shape_any i.op w
  have HHS := Lib.hid HSH
  clear HSH
  go_enter Tryd.func5, Tryd.ntmps5
  go_wp2_with fail
  refine (enc_any i _ mi (Lib.hid (HT.out.below (bt2 (balloc w _) (balloc _ _)))) _ _ HV HE1).mono ?_
  rintro e w1 ⟨rfl, hb1⟩
  obtain ⟨hA, hJ, hz1, hw1⟩ := two_new hb1
  obtain ⟨k0, k1, k2, k3, k4, k5, k6, k7, k8, k9⟩ := (show At w1 (w.heap.size + 1) j from hJ).ten
  go_wp2_with fail
  refine (enc_any j _ mj (Lib.hid (HT.out.below hw1)) _ _ HU HE2).mono ?_
  rintro e w2 ⟨rfl, hb2⟩
  clear k0 k1 k2 k3 k4 k5 k6 k7 k8 k9
  have hA2 := (show At w1 w.heap.size i from hA).below hb2
  have k0 : w2.cell? ⟨w.heap.size, 0, none⟩ = some (.int .i64 i.op) := hA2.cell 0
  go_wp2_with fail
  refine (HHS.out _).mono ?_
  rintro e w3 ⟨rfl, hb3⟩
  go_wp2_with fail
  refine (field_val V 0 5 i.d _ hV (by omega) (by omega) HZ0).mono ?_
  rintro e w4 ⟨rfl, hb4⟩
  go_wp2_with fail
  refine (field_val V 5 5 i.n _ hV (by omega) (by omega) HZ1).mono ?_
  rintro e w5 ⟨rfl, hb5⟩
  clear k0
  go_wp2_with fail
  refine (coded_any _ (Lib.hid (HT.out.below (bt2 hw1 (bt2 hb2 (bt2 hb3 (bt2 hb4 hb5))))))).mono ?_
  rintro e w6 ⟨rfl, hb6⟩
  have hb26 := bt2 hb2 (bt2 hb3 (bt2 hb4 (bt2 hb5 hb6)))
  obtain ⟨k0, k1, k2, k3, k4, k5, k6, k7, k8, k9⟩ := ((show At w1 w.heap.size i from hA).below hb26).ten
  obtain ⟨j0, j1, j2, j3, j4, j5, j6, j7, j8, j9⟩ := ((show At w1 (w.heap.size + 1) j from hJ).below hb26).ten
  go_wp2_with fail
  go_ret
  exact ⟨rfl, bt2 hw1 hb26⟩

theorem field_bd (x P : Nat) : 0 ≤ ((fieldN x P 5 : Nat) : Int) ∧ ((fieldN x P 5 : Nat) : Int) < 32 := by
  have : fieldN x P 5 < 2 ^ 5 := field_lt x P 5
  omega
theorem reg_d (s : Int) (h0 : 0 ≤ s) (h1 : s ≤ 16) (h : (1 ≤ s ∧ s ≤ 10) ∨ s = 16) : ⟨0, 5, false, .d⟩ ∈ partsL s := by
  rcases (show s = 1 ∨ s = 2 ∨ s = 3 ∨ s = 4 ∨ s = 5 ∨ s = 6 ∨ s = 7 ∨ s = 8 ∨ s = 9 ∨ s = 10 ∨ s = 16 from by omega) with rfl | rfl | rfl | rfl | rfl | rfl | rfl | rfl | rfl | rfl | rfl <;> simp [partsL]
theorem reg_n (s : Int) (h0 : 0 ≤ s) (h1 : s ≤ 16) (h : (2 ≤ s ∧ s ≤ 8) ∨ s = 13 ∨ s = 16) : ⟨5, 5, false, .n⟩ ∈ partsL s := by
  rcases (show s = 2 ∨ s = 3 ∨ s = 4 ∨ s = 5 ∨ s = 6 ∨ s = 7 ∨ s = 8 ∨ s = 13 ∨ s = 16 from by omega) with rfl | rfl | rfl | rfl | rfl | rfl | rfl | rfl | rfl <;> simp [partsL]
/-- The law CodeFields. -/
theorem codefields_any (i j : Ins) (w : World) (mi : i.mask < 18446744073709551616) (mj : j.mask < 18446744073709551616) (HT : Hid (Tab w)) :
    Calls Tryd.prog 5 #[.agg i.cells, .agg j.cells] w fun e w' => e = .returned (.bool true) ∧ Below w.heap.size w w' := by
  by_cases hij : i.isB = false ∨ j.isB = false
  · exact fields_no i j w mi mj HT hij
  · have hi : i.isB = true := by
      cases h : i.isB with
      | true => rfl
      | false => exact absurd (.inl h) hij
    have hj : j.isB = true := by
      cases h : j.isB with
      | true => rfl
      | false => exact absurd (.inr h) hij
    have HE1 : Hid (encE i = 0) := Lib.hid (by unfold encE; rw [hi, if_pos rfl])
    have HE2 : Hid (encE j = 0) := Lib.hid (by unfold encE; rw [hj, if_pos rfl])
    have hVi : encW i = i.word := by unfold encW; rw [hi, if_pos rfl]
    have hVj : encW j = j.word := by unfold encW; rw [hj, if_pos rfl]
    have hlt := encW_lt i mi
    obtain ⟨hne, _⟩ := is_right i hi
    have hsb := shapeI_bd i.op
    have heq : ∃ B : Bool, ((encW i : Int) == (encW j : Int)) = B ∧ ∀ w : World, (binOp .eql 25 (.agg #[.int .i64 i.op, .int .i64 i.d, .int .i64 i.n, .int .i64 i.m, .int .i64 i.a, .int .i64 i.imm, .int .u64 (i.mask : Int), .int .i64 i.shift, .int .i64 i.amount, .int .i64 i.cond]) (.agg #[.int .i64 j.op, .int .i64 j.d, .int .i64 j.n, .int .i64 j.m, .int .i64 j.a, .int .i64 j.imm, .int .u64 (j.mask : Int), .int .i64 j.shift, .int .i64 j.amount, .int .i64 j.cond])).run Tryd.prog w = .ok (.bool B) w := by
      by_cases e : i = j
      · subst e
        exact ⟨true, by simp, eq_same i⟩
      · refine ⟨false, ?_, eq_apart i j e⟩
        have : encW i ≠ encW j := fun h => e (enc_inj i j hi hj mi mj (by rw [← hVi, ← hVj]; exact h))
        rw [beq_eq_false_iff_ne]
        omega
    obtain ⟨B, hUV, hB⟩ := heq
    have hd : (1 ≤ shapeI i.op ∧ shapeI i.op ≤ 10) ∨ shapeI i.op = 16 → ((fieldN (encW i) 0 5 : Nat) : Int) = i.d := fun h => by
      rw [hVi]; exact word_get i hi mi ⟨0, 5, false, .d⟩ (reg_d _ hsb.1 hsb.2 h)
    have hn : (2 ≤ shapeI i.op ∧ shapeI i.op ≤ 8) ∨ shapeI i.op = 13 ∨ shapeI i.op = 16 → ((fieldN (encW i) 5 5 : Nat) : Int) = i.n := fun h => by
      rw [hVi]; exact word_get i hi mi ⟨5, 5, false, .n⟩ (reg_n _ hsb.1 hsb.2 h)
    have b0 := field_bd (encW i) 0
    have b1 := field_bd (encW i) 5
    obtain ⟨s, hs⟩ : ∃ s, shapeI i.op = s := ⟨_, rfl⟩
    rw [hs] at hne hsb hd hn
    by_cases c1 : s = 1
    · subst c1
      exact fields_b i j w mi mj HT (Lib.hid hs) _ _ (Lib.hid rfl) (Lib.hid rfl) HE1 HE2 hlt B hUV hB _ (Lib.hid (hd (by omega))) (Lib.hid rfl) (hd (by omega) ▸ b0) b1
    by_cases c2 : s ≤ 8
    · exact fields_a i j w mi mj HT s (Lib.hid hs) _ _ (Lib.hid rfl) (Lib.hid rfl) HE1 HE2 hlt B hUV hB (Lib.hid (hd (by omega))) (Lib.hid (hn (by omega))) (hd (by omega) ▸ b0) (hn (by omega) ▸ b1) (by omega) c2
    by_cases c3 : s ≤ 10
    · exact fields_c i j w mi mj HT s (Lib.hid hs) _ _ (Lib.hid rfl) (Lib.hid rfl) HE1 HE2 hlt B hUV hB _ (Lib.hid (hd (by omega))) (Lib.hid rfl) (hd (by omega) ▸ b0) b1 (by omega) c3 (by simp; omega) (by simp; omega)
    by_cases c4 : s = 13
    · subst c4
      exact fields_e i j w mi mj HT (Lib.hid hs) _ _ (Lib.hid rfl) (Lib.hid rfl) HE1 HE2 hlt B hUV hB _ (Lib.hid rfl) (Lib.hid (hn (by omega))) b0 (hn (by omega) ▸ b1)
    by_cases c5 : s = 16
    · subst c5
      exact fields_f i j w mi mj HT (Lib.hid hs) _ _ (Lib.hid rfl) (Lib.hid rfl) HE1 HE2 hlt B hUV hB (Lib.hid (hd (by omega))) (Lib.hid (hn (by omega))) (hd (by omega) ▸ b0) (hn (by omega) ▸ b1)
    exact fields_d i j w mi mj HT s (Lib.hid hs) _ _ (Lib.hid rfl) (Lib.hid rfl) HE1 HE2 hlt B hUV hB _ _ (Lib.hid rfl) (Lib.hid rfl) b0 b1 (by omega) (by simpa using c5) (by simpa using c4)
end Go.Proofs.YtdjdbgilimjagaaDoor
