/- Layer 5 of the program, walked: what Decode defers. -/
import Derived.Test.YtdjdbgilimjagaaDoorCodeL
import Derived.Defers
import Derived.Recover
set_option linter.unusedVariables false
set_option linter.unusedSimpArgs false
namespace Go.Proofs.YtdjdbgilimjagaaDoor
open Go.RowKit
set_option maxRecDepth 100000

theorem assert_err (x : Int) (w : World) : (Instr.typeAssert (.iface 26 (.int .i64 x)) 20 26 true).run Tryd.prog w = .ok (.tuple #[.int .i64 x, .bool true]) w := by kernel_rfl
theorem assert_nil (w : World) : (Instr.typeAssert .nilIface 20 26 true).run Tryd.prog w = .ok (.tuple #[.int .i64 0, .bool false]) w := by kernel_rfl

theorem frame_lit (eb ib : Nat) (x : Int) : (#[Value.pointer (some ⟨eb, 0, none⟩), Value.pointer (some ⟨ib, 0, none⟩)] ++
          (((((((Array.replicate 18 undef).setIfInBounds 3 (Value.iface 26 (Value.int IntKind.i64 x))).setIfInBounds 4
                                (Value.tuple #[Value.int IntKind.i64 x, Value.bool true])).setIfInBounds
                            2 (Value.tuple #[Value.int IntKind.i64 x, Value.bool true])).setIfInBounds
                        5 (Value.int IntKind.i64 x)).setIfInBounds
                    6 (Value.bool true)).setIfInBounds
                0 (Value.int IntKind.i64 x)).setIfInBounds
            1 (Value.bool true)) = #[.pointer (some ⟨eb, 0, none⟩), .pointer (some ⟨ib, 0, none⟩), .int .i64 x, .bool true, .tuple #[.int .i64 x, .bool true], .iface 26 (.int .i64 x), .tuple #[.int .i64 x, .bool true], .int .i64 x, .bool true, undef, undef, undef, undef, undef, undef, undef, undef, undef, undef, undef] := by kernel_rfl

/-- The world in which Decode's result is no instruction. -/
def wiped (eb ib : Nat) (w : World) : World := ((((((((((w.setCell ⟨ib, 0, none⟩ (.int .i64 0)).setCell ⟨ib, 1, none⟩ (.int .i64 0)).setCell ⟨ib, 2, none⟩ (.int .i64 0)).setCell ⟨ib, 3, none⟩ (.int .i64 0)).setCell ⟨ib, 4, none⟩ (.int .i64 0)).setCell ⟨ib, 5, none⟩ (.int .i64 0)).setCell ⟨ib, 6, none⟩ (.int .u64 0)).setCell ⟨ib, 7, none⟩ (.int .i64 0)).setCell ⟨ib, 8, none⟩ (.int .i64 0)).setCell ⟨ib, 9, none⟩ (.int .i64 0)).setCell ⟨eb, 0, none⟩ (.int .i64 11)

set_option maxHeartbeats 1600000 in
theorem catch_bad (eb ib : Nat) (x : Int) (older : List PanicEntry) (w : World) (c0 c1 c2 c3 c4 c5 c6 c7 c8 c9 ce : Value) (hne : ib ≠ eb)
    (h0 : w.cell? ⟨ib, 0, none⟩ = some c0) (h1 : w.cell? ⟨ib, 1, none⟩ = some c1) (h2 : w.cell? ⟨ib, 2, none⟩ = some c2) (h3 : w.cell? ⟨ib, 3, none⟩ = some c3) (h4 : w.cell? ⟨ib, 4, none⟩ = some c4) (h5 : w.cell? ⟨ib, 5, none⟩ = some c5) (h6 : w.cell? ⟨ib, 6, none⟩ = some c6) (h7 : w.cell? ⟨ib, 7, none⟩ = some c7) (h8 : w.cell? ⟨ib, 8, none⟩ = some c8) (h9 : w.cell? ⟨ib, 9, none⟩ = some c9) (he : w.cell? ⟨eb, 0, none⟩ = some ce) (f0 : w.frozen? ⟨ib, 0, none⟩ = false) (f1 : w.frozen? ⟨ib, 1, none⟩ = false) (f2 : w.frozen? ⟨ib, 2, none⟩ = false) (f3 : w.frozen? ⟨ib, 3, none⟩ = false) (f4 : w.frozen? ⟨ib, 4, none⟩ = false) (f5 : w.frozen? ⟨ib, 5, none⟩ = false) (f6 : w.frozen? ⟨ib, 6, none⟩ = false) (f7 : w.frozen? ⟨ib, 7, none⟩ = false) (f8 : w.frozen? ⟨ib, 8, none⟩ = false) (f9 : w.frozen? ⟨ib, 9, none⟩ = false) (fe : w.frozen? ⟨eb, 0, none⟩ = false) :
    CallsD Tryd.prog 30 #[.pointer (some ⟨eb, 0, none⟩), .pointer (some ⟨ib, 0, none⟩)] (.panicking ({ v := .iface 26 (.int .i64 x), recovered := false } :: older)) w fun e u' w' =>
      e = .returned (.tuple #[]) ∧ u' = .panicking ({ v := .iface 26 (.int .i64 x), recovered := true } :: older) ∧ w' = wiped eb ib w := by
  refine callsD_of_wpS Tryd.func30 rfl fun c₀ cs hu => ?_
  apply wpS_seq
  generalize hrest : (Code.seq (Code.region 1 _ _) _ : Code) = rest
  apply wpS_region
  simp [wpOpsS, go_sem, recoverD, hu, Tryd.ntmps30, Exit.thenS, assert_err]
  subst hrest
  refine wpS_of_wp ?_
  rw [frame_lit]
  go_wp2_with fail
  exact ⟨rfl, _, rfl, _, by simp [results, Tryd.results30, go_sem], rfl, rfl, rfl⟩
end Go.Proofs.YtdjdbgilimjagaaDoor
