/- Layer 5 of the program, walked: a part's field of an instruction. The library's table lies as it is laid; what is got fits the field. -/
import Derived.Test.YtdjdbgilimjagaaDoorCodeE
set_option linter.unusedVariables false
set_option linter.unusedSimpArgs false
namespace Go.Proofs.YtdjdbgilimjagaaDoor
open Go.RowKit
set_option maxRecDepth 100000

theorem low_eq (x : Int) : bits .and .i64 x 3 = x % 4 := by
  have e : (BitVec.ofInt 64 x &&& BitVec.ofInt 64 3).toNat = (x % 4).toNat := by
    rw [BitVec.toNat_and]
    have h : (BitVec.ofInt 64 3).toNat = 2 ^ 2 - 1 := by decide
    rw [h, Nat.and_two_pow_sub_one_eq_mod, BitVec.toNat_ofInt]
    have : (2 ^ 64 : Nat) = 18446744073709551616 := by decide
    rw [this]
    omega
  show IntKind.i64.wrap ((BitVec.ofInt 64 x &&& BitVec.ofInt 64 3).toNat : Int) = _
  rw [e, IntKind.wrap_i64]
  omega

set_option maxHeartbeats 1000000 in
theorem get_84 (op d n m a imm shift amount cond : Int) (mask : Nat) (pb : Nat) (k : Int) (w : World) (hm : mask < 18446744073709551616) (HM : Hid (isMask mask = true)) (HT : Hid (Tab w)) (hk : Hid (k = 0 ∨ k = 1 ∨ k = 2)) (hc : w.cell? ⟨pb, 0, none⟩ = some (.int .i64 k)) (hb : pb < w.heap.size) :
    Calls Tryd.prog 84 #[.agg #[.int .i64 op, .int .i64 d, .int .i64 n, .int .i64 m, .int .i64 a, .int .i64 imm, .int .u64 (mask : Int), .int .i64 shift, .int .i64 amount, .int .i64 cond], .pointer (some ⟨pb, 0, none⟩)] w fun e w' => e = .returned (.int .i64 (toldK mask k)) ∧ Below w.heap.size w w' := by
  obtain ⟨x, y, z, hxyz⟩ : ∃ x y z, toldN mask = (x, y, z) := ⟨_, _, _, rfl⟩
  have HX := Lib.hid hxyz
  unfold toldK
  rw [hxyz]
  clear hxyz
  have i0 : ∀ w : World, (Instr.index 119 (.agg #[.int .i64 x, .int .i64 y, .int .i64 z]) (.int .i64 0)).run Tryd.prog w = .ok (.int .i64 x) w := fun _ => by kernel_rfl
  have i1 : ∀ w : World, (Instr.index 119 (.agg #[.int .i64 x, .int .i64 y, .int .i64 z]) (.int .i64 1)).run Tryd.prog w = .ok (.int .i64 y) w := fun _ => by kernel_rfl
  have i2 : ∀ w : World, (Instr.index 119 (.agg #[.int .i64 x, .int .i64 y, .int .i64 z]) (.int .i64 2)).run Tryd.prog w = .ok (.int .i64 z) w := fun _ => by kernel_rfl
  rcases hk.out with rfl | rfl | rfl
  all_goals
    go_enter Tryd.func84, Tryd.ntmps84
    go_wp2_with (first | (go_at_call 85; refine (encM_yes mask x y z _ hm (Lib.hid (HT.out.below ((Below.refl _ _).alloc (Nat.le_refl _) _))) HM HX).mono ?_; rintro e w1 ⟨rfl, hb1⟩; have hc1 := (hb1.cell (p := ⟨pb, 0, none⟩) (by simp; omega)).trans ((World.cell?_alloc_past _ _ _ hb).trans hc)) | (go_at_call 32; refine (must_ok _).mono ?_; rintro e w2 ⟨rfl, rfl⟩))
    go_ret
    exact ⟨rfl, bel_of_res hb1⟩
end Go.Proofs.YtdjdbgilimjagaaDoor
