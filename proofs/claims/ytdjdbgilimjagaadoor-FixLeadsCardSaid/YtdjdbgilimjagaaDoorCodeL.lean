/- Layer 5 of the program, walked: a mask's part, put. -/
import Derived.Test.YtdjdbgilimjagaaDoorCodeK
set_option linter.unusedVariables false
set_option linter.unusedSimpArgs false
namespace Go.Proofs.YtdjdbgilimjagaaDoor
open Go.RowKit
set_option maxRecDepth 100000

theorem put_87_0 (bi bt p2 : Nat) (v x : Int) (w : World) (hp : w.cell? ⟨p2, 0, none⟩ = some (.int .i64 0)) (hc : w.cell? ⟨bt, 0, none⟩ = some (.int .i64 x)) (hf : w.frozen? ⟨bt, 0, none⟩ = false) (hne : p2 ≠ bt) :
    Calls Tryd.prog 87 #[.pointer (some ⟨bi, 0, none⟩), .int .i64 v, .pointer (some ⟨bt, 0, none⟩), .pointer (some ⟨p2, 0, none⟩)] w fun e w' => e = .returned (.tuple #[]) ∧ w' = w.setCell ⟨bt, 0, none⟩ (.int .i64 v) := by
  have hp' : (w.setCell ⟨bt, 0, none⟩ (.int .i64 v)).cell? ⟨p2, 0, none⟩ = some (.int .i64 0) := by
    simpa [go_sem, hne] using hp
  go_enter Tryd.func87, Tryd.ntmps87
  go_wp2
  go_end0
  exact ⟨rfl, rfl⟩
theorem put_87_1 (bi bt p2 : Nat) (v x : Int) (w : World) (hp : w.cell? ⟨p2, 0, none⟩ = some (.int .i64 1)) (hc : w.cell? ⟨bt, 1, none⟩ = some (.int .i64 x)) (hf : w.frozen? ⟨bt, 1, none⟩ = false) (hne : p2 ≠ bt) :
    Calls Tryd.prog 87 #[.pointer (some ⟨bi, 0, none⟩), .int .i64 v, .pointer (some ⟨bt, 0, none⟩), .pointer (some ⟨p2, 0, none⟩)] w fun e w' => e = .returned (.tuple #[]) ∧ w' = w.setCell ⟨bt, 1, none⟩ (.int .i64 v) := by
  have hp' : (w.setCell ⟨bt, 1, none⟩ (.int .i64 v)).cell? ⟨p2, 0, none⟩ = some (.int .i64 1) := by
    simpa [go_sem, hne] using hp
  go_enter Tryd.func87, Tryd.ntmps87
  go_wp2
  go_end0
  exact ⟨rfl, rfl⟩
theorem put_87_no (bi bt p2 : Nat) (n r v x m : Int) (w : World) (hp : w.cell? ⟨p2, 0, none⟩ = some (.int .i64 2)) (h0 : w.cell? ⟨bt, 0, none⟩ = some (.int .i64 n)) (h1 : w.cell? ⟨bt, 1, none⟩ = some (.int .i64 r)) (hc : w.cell? ⟨bt, 2, none⟩ = some (.int .i64 x)) (hf : w.frozen? ⟨bt, 2, none⟩ = false) (hne : p2 ≠ bt)
    (hn : n = 0 ∨ n = 1) (hr0 : 0 ≤ r) (hr1 : r < 64) (hs0 : 0 ≤ v) (hs1 : v < 64) (HB : Hid ((decM n r v).2 = 3)) :
    Calls Tryd.prog 87 #[.pointer (some ⟨bi, 0, none⟩), .int .i64 v, .pointer (some ⟨bt, 0, none⟩), .pointer (some ⟨p2, 0, none⟩)] w fun e w' => e = .panicked [{ v := .iface 26 (.int .i64 3), recovered := false }] ∧ Below w.heap.size (w.setCell ⟨bt, 2, none⟩ (.int .i64 v)) w' := by
  have hp' : (w.setCell ⟨bt, 2, none⟩ (.int .i64 v)).cell? ⟨p2, 0, none⟩ = some (.int .i64 2) := by
    simpa [go_sem, hne] using hp
  go_enter Tryd.func87, Tryd.ntmps87
  go_wp2_with (first | (go_at_call 88; refine (decM_any n r v _ hn hr0 hr1 hs0 hs1).mono ?_; rw [HB.out]; rintro e w1 ⟨rfl, hb1⟩) | (go_at_call 32; refine (must_bad 3 _ rfl).mono ?_; rintro e w2 ⟨rfl, rfl⟩))
  exact ⟨rfl, rfl, by simpa using hb1⟩
theorem put_87_yes (bi bt p2 : Nat) (n r v x y : Int) (w : World) (hp : w.cell? ⟨p2, 0, none⟩ = some (.int .i64 2)) (h0 : w.cell? ⟨bt, 0, none⟩ = some (.int .i64 n)) (h1 : w.cell? ⟨bt, 1, none⟩ = some (.int .i64 r)) (hc : w.cell? ⟨bt, 2, none⟩ = some (.int .i64 x)) (hf : w.frozen? ⟨bt, 2, none⟩ = false) (hne : p2 ≠ bt)
    (hbi : bi < w.heap.size) (hm : w.cell? ⟨bi, 6, none⟩ = some (.int .u64 y)) (hmf : w.frozen? ⟨bi, 6, none⟩ = false) (hnb : bi ≠ bt)
    (hn : n = 0 ∨ n = 1) (hr0 : 0 ≤ r) (hr1 : r < 64) (hs0 : 0 ≤ v) (hs1 : v < 64) (HB : Hid ((decM n r v).2 = 0)) :
    Calls Tryd.prog 87 #[.pointer (some ⟨bi, 0, none⟩), .int .i64 v, .pointer (some ⟨bt, 0, none⟩), .pointer (some ⟨p2, 0, none⟩)] w fun e w' => e = .returned (.tuple #[]) ∧ ∃ w1, Below w.heap.size (w.setCell ⟨bt, 2, none⟩ (.int .i64 v)) w1 ∧ w' = w1.setCell ⟨bi, 6, none⟩ (.int .u64 ((decM n r v).1 : Nat)) := by
  have hp' : (w.setCell ⟨bt, 2, none⟩ (.int .i64 v)).cell? ⟨p2, 0, none⟩ = some (.int .i64 2) := by
    simpa [go_sem, hne] using hp
  have hm' : (w.setCell ⟨bt, 2, none⟩ (.int .i64 v)).cell? ⟨bi, 6, none⟩ = some (.int .u64 y) := by
    simpa [go_sem, hnb] using hm
  have hmf' : (w.setCell ⟨bt, 2, none⟩ (.int .i64 v)).frozen? ⟨bi, 6, none⟩ = false := by
    simpa [go_sem] using hmf
  have hbi' : bi < (w.setCell ⟨bt, 2, none⟩ (.int .i64 v)).heap.size := by simpa using hbi
  go_enter Tryd.func87, Tryd.ntmps87
  go_wp2_with (first | (go_at_call 88; refine (decM_any n r v _ hn hr0 hr1 hs0 hs1).mono ?_; rw [HB.out]; rintro e w1 ⟨rfl, hb1⟩; have k1 := (hb1.cell (p := ⟨bi, 6, none⟩) hbi').trans hm'; have k2 := (hb1.frozen (p := ⟨bi, 6, none⟩) hbi').trans hmf') | (go_at_call 32; refine (must_ok _).mono ?_; rintro e w2 ⟨rfl, rfl⟩))
  go_end0
  exact ⟨rfl, _, by simpa using hb1, rfl⟩
end Go.Proofs.YtdjdbgilimjagaaDoor
