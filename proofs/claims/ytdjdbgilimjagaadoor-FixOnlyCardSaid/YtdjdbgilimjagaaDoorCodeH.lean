/- Layer 5 of the program, walked: a part's field of an instruction, any part. What is got fits the field. -/
import Derived.Test.YtdjdbgilimjagaaDoorCodeG
set_option linter.unusedVariables false
set_option linter.unusedSimpArgs false
namespace Go.Proofs.YtdjdbgilimjagaaDoor
open Go.RowKit
set_option maxRecDepth 100000

theorem fd_unsigned (p : PS) (v : Int) (hf : p.fits v) (hs : p.sign = false) : (0 ≤ v ∧ v < 4294967296) ∧ (.agg #[.int .i64 p.pos, .int .i64 p.n, .int .u32 v] : Value) = .agg (p.fd v).cells.toArray := by
  obtain ⟨h0, h1, h2, h3⟩ := hf
  rw [hs] at h3
  simp only [Bool.false_eq_true, if_false] at h3
  have hp : (2 : Nat) ^ p.n.toNat ≤ 2 ^ 32 := Nat.pow_le_pow_right (by decide) (by omega)
  refine ⟨by omega, ?_⟩
  unfold PS.fd FD.cells
  rw [hs]
  simp only [Bool.false_eq_true, if_false]
  rw [Int.toNat_of_nonneg h0, Int.toNat_of_nonneg (by omega), Int.toNat_of_nonneg h3.1]
theorem fd_signed (p : PS) (v : Int) (hf : p.fits v) (hs : p.sign = true) : (1 ≤ p.n ∧ p.n ≤ 32 ∧ (v / 2 ^ (p.n.toNat - 1) = 0 ∨ v / 2 ^ (p.n.toNat - 1) = -1)) ∧ (.agg #[.int .i64 p.pos, .int .i64 p.n, .int .u32 (v % ((2 ^ p.n.toNat : Nat) : Int))] : Value) = .agg (p.fd v).cells.toArray := by
  obtain ⟨h0, h1, h2, h3⟩ := hf
  rw [hs] at h3
  simp only [if_true] at h3
  refine ⟨⟨h1, h2, h3⟩, ?_⟩
  have hq := pow_pos2 p.n.toNat
  unfold PS.fd FD.cells
  rw [hs]
  simp only [if_true]
  rw [Int.toNat_of_nonneg h0, Int.toNat_of_nonneg (by omega), Int.toNat_of_nonneg (Int.emod_nonneg _ (by omega))]

theorem field_any (op d n m a imm shift amount cond : Int) (mask : Nat) (p : PD) (bt : Nat) (w : World) (hok : p.ok w bt) (hm : mask < 18446744073709551616) (hT : Tab w)
    (hask : p.ps.sel.asks p.ps.sign imm amount mask) (hfit : p.ps.fits (valOf d n m a imm mask shift amount cond p.ps.sel)) :
    Calls Tryd.prog 34 #[.agg p.cells.toArray, .agg #[.int .i64 op, .int .i64 d, .int .i64 n, .int .i64 m, .int .i64 a, .int .i64 imm, .int .u64 (mask : Int), .int .i64 shift, .int .i64 amount, .int .i64 cond]] w fun e w' => e = .returned (.agg (p.ps.fd (valOf d n m a imm mask shift amount cond p.ps.sel)).cells.toArray) ∧ Below w.heap.size w w' := by
  obtain ⟨⟨pos, nb, sign, sel⟩, g, h, cg, ch⟩ := p
  unfold PD.ok at hok
  dsimp only at hok hask hfit ⊢
  cases sel with
  | d =>
    obtain ⟨rfl, rfl, rfl, rfl⟩ := hok
    cases hask
    have hq := fd_unsigned _ _ hfit rfl
    rw [← hq.2]
    exact field_d op d n m a imm shift amount cond mask pos nb w _ (Lib.hid rfl) hq.1.1 hq.1.2
  | n =>
    obtain ⟨rfl, rfl, rfl, rfl⟩ := hok
    cases hask
    have hq := fd_unsigned _ _ hfit rfl
    rw [← hq.2]
    exact field_n op d n m a imm shift amount cond mask pos nb w _ (Lib.hid rfl) hq.1.1 hq.1.2
  | m =>
    obtain ⟨rfl, rfl, rfl, rfl⟩ := hok
    cases hask
    have hq := fd_unsigned _ _ hfit rfl
    rw [← hq.2]
    exact field_m op d n m a imm shift amount cond mask pos nb w _ (Lib.hid rfl) hq.1.1 hq.1.2
  | a =>
    obtain ⟨rfl, rfl, rfl, rfl⟩ := hok
    cases hask
    have hq := fd_unsigned _ _ hfit rfl
    rw [← hq.2]
    exact field_a op d n m a imm shift amount cond mask pos nb w _ (Lib.hid rfl) hq.1.1 hq.1.2
  | shift =>
    obtain ⟨rfl, rfl, rfl, rfl⟩ := hok
    cases hask
    have hq := fd_unsigned _ _ hfit rfl
    rw [← hq.2]
    exact field_shift op d n m a imm shift amount cond mask pos nb w _ (Lib.hid rfl) hq.1.1 hq.1.2
  | cond =>
    obtain ⟨rfl, rfl, rfl, rfl⟩ := hok
    cases hask
    have hq := fd_unsigned _ _ hfit rfl
    rw [← hq.2]
    exact field_cond op d n m a imm shift amount cond mask pos nb w _ (Lib.hid rfl) hq.1.1 hq.1.2
  | low =>
    obtain ⟨rfl, rfl, rfl, rfl⟩ := hok
    cases hask
    have hq := fd_unsigned _ _ hfit rfl
    rw [← hq.2]
    exact field_low op d n m a imm shift amount cond mask pos nb w _ (Lib.hid (low_eq imm)) hq.1.1 hq.1.2
  | high =>
    obtain ⟨rfl, rfl, rfl, rfl⟩ := hok
    cases hask
    have hq := fd_signed _ _ hfit rfl
    rw [← hq.2]
    exact field_high op d n m a imm shift amount cond mask pos nb w _ (Lib.hid rfl) hq.1.1 hq.1.2.1 hq.1.2.2
  | imm v =>
    obtain ⟨rfl, rfl, pb, rfl, rfl, hc⟩ := hok
    obtain ⟨a1, a2, a3, a4⟩ := hask
    cases sign
    · have hq := fd_unsigned _ _ hfit rfl
      rw [← hq.2]
      exact field_immU op d n m a imm shift amount cond mask pos nb w pb v a1 a2 a3 a4 (World.block_lt_of_cell? w _ hc) hc _ (Lib.hid rfl) hq.1.1 hq.1.2
    · have hq := fd_signed _ _ hfit rfl
      rw [← hq.2]
      exact field_immS op d n m a imm shift amount cond mask pos nb w pb v a1 a2 a3 a4 (World.block_lt_of_cell? w _ hc) hc _ (Lib.hid rfl) hq.1.1 hq.1.2.1 hq.1.2.2
  | amt v =>
    obtain ⟨rfl, rfl, pb, rfl, rfl, hc⟩ := hok
    obtain ⟨a0, a1, a2, a3, a4⟩ := hask
    cases a0
    have hq := fd_unsigned _ _ hfit rfl
    rw [← hq.2]
    exact field_amt op d n m a imm shift amount cond mask pos nb w pb v a1 a2 a3 a4 (World.block_lt_of_cell? w _ hc) hc _ (Lib.hid rfl) hq.1.1 hq.1.2
  | mk v =>
    obtain ⟨rfl, rfl, p1, p2, rfl, rfl, hc, hc2⟩ := hok
    obtain ⟨a0, a1, a2⟩ := hask
    cases a0
    have hq := fd_unsigned _ _ hfit rfl
    rw [← hq.2]
    exact field_mk op d n m a imm shift amount cond mask pos nb w p1 p2 bt v hm (Lib.hid a1) (Lib.hid hT) (Lib.hid a2) (World.block_lt_of_cell? w _ hc) hc _ (Lib.hid rfl) hq.1.1 hq.1.2
end Go.Proofs.YtdjdbgilimjagaaDoor
