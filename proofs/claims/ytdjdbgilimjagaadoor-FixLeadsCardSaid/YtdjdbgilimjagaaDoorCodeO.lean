/- Layer 5 of the program, walked: what Decode defers, where nothing panics. The library's table lies as it is laid. -/
import Derived.Test.YtdjdbgilimjagaaDoorCodeN
set_option linter.unusedVariables false
set_option linter.unusedSimpArgs false
namespace Go.Proofs.YtdjdbgilimjagaaDoor
open Go.RowKit
set_option maxRecDepth 100000

theorem frame_nil (eb ib : Nat) : (#[Value.pointer (some ⟨eb, 0, none⟩), Value.pointer (some ⟨ib, 0, none⟩)] ++
          (((((((Array.replicate 18 undef).setIfInBounds 3 Value.nilIface).setIfInBounds 4
                                (Value.tuple #[Value.int IntKind.i64 0, Value.bool false])).setIfInBounds
                            2 (Value.tuple #[Value.int IntKind.i64 0, Value.bool false])).setIfInBounds
                        5 (Value.int IntKind.i64 0)).setIfInBounds
                    6 (Value.bool false)).setIfInBounds
                0 (Value.int IntKind.i64 0)).setIfInBounds
            1 (Value.bool false)) = #[.pointer (some ⟨eb, 0, none⟩), .pointer (some ⟨ib, 0, none⟩), .int .i64 0, .bool false, .tuple #[.int .i64 0, .bool false], .nilIface, .tuple #[.int .i64 0, .bool false], .int .i64 0, .bool false, undef, undef, undef, undef, undef, undef, undef, undef, undef, undef, undef] := by kernel_rfl

set_option maxHeartbeats 1600000 in
theorem catch_right (eb ib : Nat) (i : Ins) (w : World) (hI : At w ib i) (he : w.cell? ⟨eb, 0, none⟩ = some (.int .i64 0)) (hm : i.mask < 18446744073709551616) (HT : Hid (Tab w)) (HB : Hid (i.isB = true)) :
    CallsD Tryd.prog 30 #[.pointer (some ⟨eb, 0, none⟩), .pointer (some ⟨ib, 0, none⟩)] .returning w fun e u' w' =>
      e = .returned (.tuple #[]) ∧ u' = .returning ∧ Below w.heap.size w w' := by
  obtain ⟨op, d, n, m, a, imm, mask, shift, amount, cond⟩ := i
  have h0 : w.cell? ⟨ib, 0, none⟩ = some (.int .i64 op) := hI.cell 0
  have h1 : w.cell? ⟨ib, 1, none⟩ = some (.int .i64 d) := hI.cell 1
  have h2 : w.cell? ⟨ib, 2, none⟩ = some (.int .i64 n) := hI.cell 2
  have h3 : w.cell? ⟨ib, 3, none⟩ = some (.int .i64 m) := hI.cell 3
  have h4 : w.cell? ⟨ib, 4, none⟩ = some (.int .i64 a) := hI.cell 4
  have h5 : w.cell? ⟨ib, 5, none⟩ = some (.int .i64 imm) := hI.cell 5
  have h6 : w.cell? ⟨ib, 6, none⟩ = some (.int .u64 (mask : Int)) := hI.cell 6
  have h7 : w.cell? ⟨ib, 7, none⟩ = some (.int .i64 shift) := hI.cell 7
  have h8 : w.cell? ⟨ib, 8, none⟩ = some (.int .i64 amount) := hI.cell 8
  have h9 : w.cell? ⟨ib, 9, none⟩ = some (.int .i64 cond) := hI.cell 9
  clear hI
  have HB2 : Hid (isI op d n m a imm mask shift amount cond = true) := HB
  clear HB
  refine callsD_of_wpS Tryd.func30 rfl fun c₀ cs hu => ?_
  apply wpS_seq
  generalize hrest : (Code.seq (Code.region 1 _ _) _ : Code) = rest
  apply wpS_region
  simp [wpOpsS, go_sem, recoverD, hu, Tryd.ntmps30, Exit.thenS, assert_nil]
  subst hrest
  refine wpS_of_wp ?_
  rw [frame_nil]
  go_wp2_with (go_at_call 13; refine (is_any op d n m a imm shift amount cond mask _ hm HT.out).mono ?_; rw [HB2.out]; rintro e w1 ⟨rfl, hb1⟩)
  exact ⟨rfl, _, rfl, _, by simp [results, Tryd.results30, go_sem], rfl, hu, hb1⟩

set_option maxHeartbeats 1600000 in
theorem catch_wrong (eb ib : Nat) (i : Ins) (w : World) (hI : At w ib i) (he : w.cell? ⟨eb, 0, none⟩ = some (.int .i64 0)) (fe : w.frozen? ⟨eb, 0, none⟩ = false) (hne : ib ≠ eb) (hm : i.mask < 18446744073709551616) (HT : Hid (Tab w)) (HB : Hid (i.isB = false)) :
    CallsD Tryd.prog 30 #[.pointer (some ⟨eb, 0, none⟩), .pointer (some ⟨ib, 0, none⟩)] .returning w fun e u' w' =>
      e = .returned (.tuple #[]) ∧ u' = .returning ∧ ∃ w1, Below w.heap.size w w1 ∧ w' = wiped eb ib w1 := by
  have hbI := hI.lt
  have hbE := World.block_lt_of_cell? w _ he
  obtain ⟨op, d, n, m, a, imm, mask, shift, amount, cond⟩ := i
  have h0 : w.cell? ⟨ib, 0, none⟩ = some (.int .i64 op) := hI.cell 0
  have h1 : w.cell? ⟨ib, 1, none⟩ = some (.int .i64 d) := hI.cell 1
  have h2 : w.cell? ⟨ib, 2, none⟩ = some (.int .i64 n) := hI.cell 2
  have h3 : w.cell? ⟨ib, 3, none⟩ = some (.int .i64 m) := hI.cell 3
  have h4 : w.cell? ⟨ib, 4, none⟩ = some (.int .i64 a) := hI.cell 4
  have h5 : w.cell? ⟨ib, 5, none⟩ = some (.int .i64 imm) := hI.cell 5
  have h6 : w.cell? ⟨ib, 6, none⟩ = some (.int .u64 (mask : Int)) := hI.cell 6
  have h7 : w.cell? ⟨ib, 7, none⟩ = some (.int .i64 shift) := hI.cell 7
  have h8 : w.cell? ⟨ib, 8, none⟩ = some (.int .i64 amount) := hI.cell 8
  have h9 : w.cell? ⟨ib, 9, none⟩ = some (.int .i64 cond) := hI.cell 9
  have HI := Lib.hid hI
  clear hI
  have HB2 : Hid (isI op d n m a imm mask shift amount cond = false) := HB
  clear HB
  refine callsD_of_wpS Tryd.func30 rfl fun c₀ cs hu => ?_
  apply wpS_seq
  generalize hrest : (Code.seq (Code.region 1 _ _) _ : Code) = rest
  apply wpS_region
  simp [wpOpsS, go_sem, recoverD, hu, Tryd.ntmps30, Exit.thenS, assert_nil]
  subst hrest
  refine wpS_of_wp ?_
  rw [frame_nil]
  go_wp2_with (go_at_call 13; refine (is_any op d n m a imm shift amount cond mask _ hm HT.out).mono ?_; rw [HB2.out]; rintro e w1 ⟨rfl, hb1⟩; have hJ := HI.out.below hb1; have k0 : w1.cell? ⟨ib, 0, none⟩ = some (.int .i64 op) := hJ.cell 0; have k1 : w1.cell? ⟨ib, 1, none⟩ = some (.int .i64 d) := hJ.cell 1; have k2 : w1.cell? ⟨ib, 2, none⟩ = some (.int .i64 n) := hJ.cell 2; have k3 : w1.cell? ⟨ib, 3, none⟩ = some (.int .i64 m) := hJ.cell 3; have k4 : w1.cell? ⟨ib, 4, none⟩ = some (.int .i64 a) := hJ.cell 4; have k5 : w1.cell? ⟨ib, 5, none⟩ = some (.int .i64 imm) := hJ.cell 5; have k6 : w1.cell? ⟨ib, 6, none⟩ = some (.int .u64 (mask : Int)) := hJ.cell 6; have k7 : w1.cell? ⟨ib, 7, none⟩ = some (.int .i64 shift) := hJ.cell 7; have k8 : w1.cell? ⟨ib, 8, none⟩ = some (.int .i64 amount) := hJ.cell 8; have k9 : w1.cell? ⟨ib, 9, none⟩ = some (.int .i64 cond) := hJ.cell 9; have q0 := hJ.frozen 0; have q1 := hJ.frozen 1; have q2 := hJ.frozen 2; have q3 := hJ.frozen 3; have q4 := hJ.frozen 4; have q5 := hJ.frozen 5; have q6 := hJ.frozen 6; have q7 := hJ.frozen 7; have q8 := hJ.frozen 8; have q9 := hJ.frozen 9; have ke := (hb1.cell (p := ⟨eb, 0, none⟩) hbE).trans he; have qe := (hb1.frozen (p := ⟨eb, 0, none⟩) hbE).trans fe)
  exact ⟨rfl, _, rfl, _, by simp [results, Tryd.results30, go_sem], rfl, hu, _, hb1, rfl⟩
end Go.Proofs.YtdjdbgilimjagaaDoor
