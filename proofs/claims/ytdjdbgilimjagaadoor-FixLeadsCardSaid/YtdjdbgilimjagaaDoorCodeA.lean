/- Layer 5 of the program, walked: how a part's number is got and put. Numbers are of their kinds. -/
import Derived.Test.YtdjdbgilimjagaaDoorInstC
set_option linter.unusedVariables false
set_option linter.unusedSimpArgs false
namespace Go.Proofs.YtdjdbgilimjagaaDoor
open Go.RowKit
set_option maxRecDepth 100000

set_option maxHeartbeats 400000 in
theorem get_75 (op d n m a imm mask shift amount cond : Int) (w : World) : Calls Tryd.prog 75 #[.agg #[.int .i64 op, .int .i64 d, .int .i64 n, .int .i64 m, .int .i64 a, .int .i64 imm, .int .u64 mask, .int .i64 shift, .int .i64 amount, .int .i64 cond]] w fun e w' => e = .returned (.int .i64 d) ∧ Below w.heap.size w w' := by
  go_enter Tryd.func75, Tryd.ntmps75
  go_wp2
  go_ret
  exact ⟨rfl, (Below.refl _ _).alloc (Nat.le_refl _) _⟩

set_option maxHeartbeats 400000 in
theorem get_81 (op d n m a imm mask shift amount cond : Int) (w : World) : Calls Tryd.prog 81 #[.agg #[.int .i64 op, .int .i64 d, .int .i64 n, .int .i64 m, .int .i64 a, .int .i64 imm, .int .u64 mask, .int .i64 shift, .int .i64 amount, .int .i64 cond]] w fun e w' => e = .returned (.int .i64 n) ∧ Below w.heap.size w w' := by
  go_enter Tryd.func81, Tryd.ntmps81
  go_wp2
  go_ret
  exact ⟨rfl, (Below.refl _ _).alloc (Nat.le_refl _) _⟩

set_option maxHeartbeats 400000 in
theorem get_89 (op d n m a imm mask shift amount cond : Int) (w : World) : Calls Tryd.prog 89 #[.agg #[.int .i64 op, .int .i64 d, .int .i64 n, .int .i64 m, .int .i64 a, .int .i64 imm, .int .u64 mask, .int .i64 shift, .int .i64 amount, .int .i64 cond]] w fun e w' => e = .returned (.int .i64 m) ∧ Below w.heap.size w w' := by
  go_enter Tryd.func89, Tryd.ntmps89
  go_wp2
  go_ret
  exact ⟨rfl, (Below.refl _ _).alloc (Nat.le_refl _) _⟩

set_option maxHeartbeats 400000 in
theorem get_93 (op d n m a imm mask shift amount cond : Int) (w : World) : Calls Tryd.prog 93 #[.agg #[.int .i64 op, .int .i64 d, .int .i64 n, .int .i64 m, .int .i64 a, .int .i64 imm, .int .u64 mask, .int .i64 shift, .int .i64 amount, .int .i64 cond]] w fun e w' => e = .returned (.int .i64 a) ∧ Below w.heap.size w w' := by
  go_enter Tryd.func93, Tryd.ntmps93
  go_wp2
  go_ret
  exact ⟨rfl, (Below.refl _ _).alloc (Nat.le_refl _) _⟩

set_option maxHeartbeats 400000 in
theorem get_91 (op d n m a imm mask shift amount cond : Int) (w : World) : Calls Tryd.prog 91 #[.agg #[.int .i64 op, .int .i64 d, .int .i64 n, .int .i64 m, .int .i64 a, .int .i64 imm, .int .u64 mask, .int .i64 shift, .int .i64 amount, .int .i64 cond]] w fun e w' => e = .returned (.int .i64 shift) ∧ Below w.heap.size w w' := by
  go_enter Tryd.func91, Tryd.ntmps91
  go_wp2
  go_ret
  exact ⟨rfl, (Below.refl _ _).alloc (Nat.le_refl _) _⟩

set_option maxHeartbeats 400000 in
theorem get_99 (op d n m a imm mask shift amount cond : Int) (w : World) : Calls Tryd.prog 99 #[.agg #[.int .i64 op, .int .i64 d, .int .i64 n, .int .i64 m, .int .i64 a, .int .i64 imm, .int .u64 mask, .int .i64 shift, .int .i64 amount, .int .i64 cond]] w fun e w' => e = .returned (.int .i64 cond) ∧ Below w.heap.size w w' := by
  go_enter Tryd.func99, Tryd.ntmps99
  go_wp2
  go_ret
  exact ⟨rfl, (Below.refl _ _).alloc (Nat.le_refl _) _⟩

set_option maxHeartbeats 400000 in
theorem get_95 (op d n m a imm mask shift amount cond : Int) (w : World) : Calls Tryd.prog 95 #[.agg #[.int .i64 op, .int .i64 d, .int .i64 n, .int .i64 m, .int .i64 a, .int .i64 imm, .int .u64 mask, .int .i64 shift, .int .i64 amount, .int .i64 cond]] w fun e w' => e = .returned (.int .i64 (bits .and .i64 imm 3)) ∧ Below w.heap.size w w' := by
  go_enter Tryd.func95, Tryd.ntmps95
  go_wp2
  go_ret
  exact ⟨rfl, (Below.refl _ _).alloc (Nat.le_refl _) _⟩

set_option maxHeartbeats 400000 in
theorem get_97 (op d n m a imm mask shift amount cond : Int) (w : World) : Calls Tryd.prog 97 #[.agg #[.int .i64 op, .int .i64 d, .int .i64 n, .int .i64 m, .int .i64 a, .int .i64 imm, .int .u64 mask, .int .i64 shift, .int .i64 amount, .int .i64 cond]] w fun e w' => e = .returned (.int .i64 (imm / 4)) ∧ Below w.heap.size w w' := by
  go_enter Tryd.func97, Tryd.ntmps97
  go_wp2
  go_ret
  exact ⟨rfl, (Below.refl _ _).alloc (Nat.le_refl _) _⟩

set_option maxHeartbeats 400000 in
theorem get_77 (op d n m a imm mask shift amount cond : Int) (pb : Nat) (g : Int) (w : World) (hg : 1 ≤ g) (hg1 : g ≤ 16) (h0 : -1000000000 ≤ imm) (h1 : imm ≤ 1000000000) (hc : w.cell? ⟨pb, 0, none⟩ = some (.int .i64 g)) (hb : pb < w.heap.size) :
    Calls Tryd.prog 77 #[.agg #[.int .i64 op, .int .i64 d, .int .i64 n, .int .i64 m, .int .i64 a, .int .i64 imm, .int .u64 mask, .int .i64 shift, .int .i64 amount, .int .i64 cond], .pointer (some ⟨pb, 0, none⟩)] w fun e w' => e = .returned (.int .i64 ((imm).tdiv g)) ∧ Below w.heap.size w w' := by
  go_enter Tryd.func77, Tryd.ntmps77
  go_wp2
  go_ret

  exact ⟨rfl, (Below.refl _ _).alloc (Nat.le_refl _) _⟩

set_option maxHeartbeats 400000 in
theorem get_79 (op d n m a imm mask shift amount cond : Int) (pb : Nat) (g : Int) (w : World) (hg : 1 ≤ g) (hg1 : g ≤ 16) (h0 : -1000000000 ≤ amount) (h1 : amount ≤ 1000000000) (hc : w.cell? ⟨pb, 0, none⟩ = some (.int .i64 g)) (hb : pb < w.heap.size) :
    Calls Tryd.prog 79 #[.agg #[.int .i64 op, .int .i64 d, .int .i64 n, .int .i64 m, .int .i64 a, .int .i64 imm, .int .u64 mask, .int .i64 shift, .int .i64 amount, .int .i64 cond], .pointer (some ⟨pb, 0, none⟩)] w fun e w' => e = .returned (.int .i64 ((amount).tdiv g)) ∧ Below w.heap.size w w' := by
  go_enter Tryd.func79, Tryd.ntmps79
  go_wp2
  go_ret

  exact ⟨rfl, (Below.refl _ _).alloc (Nat.le_refl _) _⟩

set_option maxHeartbeats 400000 in
theorem put_76 (bi : Nat) (v x : Int) (w : World) (hc : w.cell? ⟨bi, 1, none⟩ = some (.int .i64 x)) (hf : w.frozen? ⟨bi, 1, none⟩ = false) :
    Calls Tryd.prog 76 #[.pointer (some ⟨bi, 0, none⟩), .int .i64 v] w fun e w' => e = .returned (.tuple #[]) ∧ w' = w.setCell ⟨bi, 1, none⟩ (.int .i64 v) := by
  go_enter Tryd.func76, Tryd.ntmps76
  go_wp2
  go_end0
  exact ⟨rfl, rfl⟩

set_option maxHeartbeats 400000 in
theorem put_82 (bi : Nat) (v x : Int) (w : World) (hc : w.cell? ⟨bi, 2, none⟩ = some (.int .i64 x)) (hf : w.frozen? ⟨bi, 2, none⟩ = false) :
    Calls Tryd.prog 82 #[.pointer (some ⟨bi, 0, none⟩), .int .i64 v] w fun e w' => e = .returned (.tuple #[]) ∧ w' = w.setCell ⟨bi, 2, none⟩ (.int .i64 v) := by
  go_enter Tryd.func82, Tryd.ntmps82
  go_wp2
  go_end0
  exact ⟨rfl, rfl⟩

set_option maxHeartbeats 400000 in
theorem put_90 (bi : Nat) (v x : Int) (w : World) (hc : w.cell? ⟨bi, 3, none⟩ = some (.int .i64 x)) (hf : w.frozen? ⟨bi, 3, none⟩ = false) :
    Calls Tryd.prog 90 #[.pointer (some ⟨bi, 0, none⟩), .int .i64 v] w fun e w' => e = .returned (.tuple #[]) ∧ w' = w.setCell ⟨bi, 3, none⟩ (.int .i64 v) := by
  go_enter Tryd.func90, Tryd.ntmps90
  go_wp2
  go_end0
  exact ⟨rfl, rfl⟩

set_option maxHeartbeats 400000 in
theorem put_94 (bi : Nat) (v x : Int) (w : World) (hc : w.cell? ⟨bi, 4, none⟩ = some (.int .i64 x)) (hf : w.frozen? ⟨bi, 4, none⟩ = false) :
    Calls Tryd.prog 94 #[.pointer (some ⟨bi, 0, none⟩), .int .i64 v] w fun e w' => e = .returned (.tuple #[]) ∧ w' = w.setCell ⟨bi, 4, none⟩ (.int .i64 v) := by
  go_enter Tryd.func94, Tryd.ntmps94
  go_wp2
  go_end0
  exact ⟨rfl, rfl⟩

set_option maxHeartbeats 400000 in
theorem put_92 (bi : Nat) (v x : Int) (w : World) (hc : w.cell? ⟨bi, 7, none⟩ = some (.int .i64 x)) (hf : w.frozen? ⟨bi, 7, none⟩ = false) :
    Calls Tryd.prog 92 #[.pointer (some ⟨bi, 0, none⟩), .int .i64 v] w fun e w' => e = .returned (.tuple #[]) ∧ w' = w.setCell ⟨bi, 7, none⟩ (.int .i64 v) := by
  go_enter Tryd.func92, Tryd.ntmps92
  go_wp2
  go_end0
  exact ⟨rfl, rfl⟩

set_option maxHeartbeats 400000 in
theorem put_100 (bi : Nat) (v x : Int) (w : World) (hc : w.cell? ⟨bi, 9, none⟩ = some (.int .i64 x)) (hf : w.frozen? ⟨bi, 9, none⟩ = false) :
    Calls Tryd.prog 100 #[.pointer (some ⟨bi, 0, none⟩), .int .i64 v] w fun e w' => e = .returned (.tuple #[]) ∧ w' = w.setCell ⟨bi, 9, none⟩ (.int .i64 v) := by
  go_enter Tryd.func100, Tryd.ntmps100
  go_wp2
  go_end0
  exact ⟨rfl, rfl⟩

set_option maxHeartbeats 400000 in
theorem put_96 (bi : Nat) (v x : Int) (w : World) (hc : w.cell? ⟨bi, 5, none⟩ = some (.int .i64 x)) (hf : w.frozen? ⟨bi, 5, none⟩ = false) :
    Calls Tryd.prog 96 #[.pointer (some ⟨bi, 0, none⟩), .int .i64 v] w fun e w' => e = .returned (.tuple #[]) ∧ w' = w.setCell ⟨bi, 5, none⟩ (.int .i64 v) := by
  go_enter Tryd.func96, Tryd.ntmps96
  go_wp2
  go_end0
  exact ⟨rfl, rfl⟩

set_option maxHeartbeats 400000 in
theorem put_78 (bi pb : Nat) (v x g : Int) (w : World) (hc : w.cell? ⟨bi, 5, none⟩ = some (.int .i64 x)) (hf : w.frozen? ⟨bi, 5, none⟩ = false) (hp : w.cell? ⟨pb, 0, none⟩ = some (.int .i64 g)) :
    Calls Tryd.prog 78 #[.pointer (some ⟨bi, 0, none⟩), .int .i64 v, .pointer (some ⟨pb, 0, none⟩)] w fun e w' => e = .returned (.tuple #[]) ∧ w' = w.setCell ⟨bi, 5, none⟩ (.int .i64 (wrap64 (g * v))) := by
  go_enter Tryd.func78, Tryd.ntmps78
  go_wp2
  go_end0
  exact ⟨rfl, rfl⟩

set_option maxHeartbeats 400000 in
theorem put_80 (bi pb : Nat) (v x g : Int) (w : World) (hc : w.cell? ⟨bi, 8, none⟩ = some (.int .i64 x)) (hf : w.frozen? ⟨bi, 8, none⟩ = false) (hp : w.cell? ⟨pb, 0, none⟩ = some (.int .i64 g)) :
    Calls Tryd.prog 80 #[.pointer (some ⟨bi, 0, none⟩), .int .i64 v, .pointer (some ⟨pb, 0, none⟩)] w fun e w' => e = .returned (.tuple #[]) ∧ w' = w.setCell ⟨bi, 8, none⟩ (.int .i64 (wrap64 (g * v))) := by
  go_enter Tryd.func80, Tryd.ntmps80
  go_wp2
  go_end0
  exact ⟨rfl, rfl⟩

set_option maxHeartbeats 400000 in
theorem put_98 (bi : Nat) (v x : Int) (w : World) (hc : w.cell? ⟨bi, 5, none⟩ = some (.int .i64 x)) (hf : w.frozen? ⟨bi, 5, none⟩ = false) :
    Calls Tryd.prog 98 #[.pointer (some ⟨bi, 0, none⟩), .int .i64 v] w fun e w' => e = .returned (.tuple #[]) ∧ w' = w.setCell ⟨bi, 5, none⟩ (.int .i64 (bits .or .i64 x (wrap64 (v * 4)))) := by
  go_enter Tryd.func98, Tryd.ntmps98
  go_wp2
  go_end0
  exact ⟨rfl, rfl⟩

set_option maxHeartbeats 400000 in
theorem must_ok (w : World) : Calls Tryd.prog 32 #[.int .i64 0] w fun e w' => e = .returned (.tuple #[]) ∧ w = w' := by
  go_enter Tryd.func32, Tryd.ntmps32
  go_wp2
  go_end0
  exact ⟨rfl, rfl⟩

set_option maxHeartbeats 400000 in
theorem must_bad (x : Int) (w : World) (hx : (x != 0) = true) : Calls Tryd.prog 32 #[.int .i64 x] w fun e w' => e = .panicked [{ v := .iface 26 (.int .i64 x), recovered := false }] ∧ w = w' := by
  go_enter Tryd.func32, Tryd.ntmps32
  go_wp2
  exact ⟨rfl, rfl, rfl⟩
end Go.Proofs.YtdjdbgilimjagaaDoor
