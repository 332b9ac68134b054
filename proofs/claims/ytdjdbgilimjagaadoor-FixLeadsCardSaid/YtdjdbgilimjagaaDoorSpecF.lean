/- Plain laws: an instruction that is right is what its word is decoded as. No condition. -/
import Derived.Test.YtdjdbgilimjagaaDoorSpecE
set_option linter.unusedVariables false
set_option linter.unusedSimpArgs false
namespace Go.Proofs.YtdjdbgilimjagaaDoor
open Go.RowKit

theorem reg_yes (v : Int) : regB true v = true ↔ 0 ≤ v ∧ v ≤ 31 := by unfold regB; simp; omega
theorem reg_none (v : Int) : regB false v = true ↔ v = 0 := by unfold regB; simp
theorem step_none (v a b : Int) : stepB v a b 0 = true ↔ v = 0 := by unfold stepB; simp
theorem step_some (v a b g : Int) (hg : g ≠ 0) : stepB v a b g = true ↔ a ≤ v ∧ v ≤ b ∧ ∃ k, v = g * k := by
  unfold stepB
  rw [if_neg hg]
  simp only [Bool.and_eq_true, decide_eq_true_eq, beq_iff_eq, and_assoc]
  constructor
  · rintro ⟨h1, h2, h3⟩
    obtain ⟨k, hk⟩ := Int.dvd_of_tmod_eq_zero h3
    exact ⟨h1, h2, k, hk⟩
  · rintro ⟨h1, h2, k, rfl⟩
    exact ⟨h1, h2, Int.mul_tmod_right g k⟩
/-- What an instruction of a shape that is right has. -/
def Right (s d n m a imm : Int) (mask : Nat) (shift amount cond : Int) : Prop :=
  (regB (s_d s) d = true ∧ regB (s_n s) n = true ∧ regB (s_m s) m = true ∧ regB (s_a s) a = true) ∧
  (stepB imm (s_least s) (s_most s) (s_by s) = true ∧ stepB amount 0 (s_amounts s) (s_of s) = true ∧ (0 ≤ shift ∧ shift ≤ s_shift s) ∧ 0 ≤ cond ∧ cond ≤ s_cond s) ∧
  (if s = 3 then isMask mask = true else mask = 0)
theorem is_right (i : Ins) (h : i.isB = true) : shapeI i.op ≠ 0 ∧ Right (shapeI i.op) i.d i.n i.m i.a i.imm i.mask i.shift i.amount i.cond := by
  unfold Ins.isB isI at h
  by_cases h0 : shapeI i.op = 0
  · rw [if_pos h0] at h; cases h
  · rw [if_neg h0] at h
    refine ⟨h0, ?_⟩
    unfold regsB numsB maskOkB at h
    simp only [Bool.and_eq_true, decide_eq_true_eq] at h
    obtain ⟨⟨⟨⟨⟨r1, r2⟩, r3⟩, r4⟩, ⟨⟨⟨⟨n1, n2⟩, n3⟩, n4⟩, n5⟩, n6⟩, k⟩ := h
    refine ⟨⟨r1, r2, r3, r4⟩, ⟨n1, n2, ⟨n3, n4⟩, n5, n6⟩, ?_⟩
    by_cases h3 : shapeI i.op = 3
    · rw [if_pos h3] at k ⊢; simpa using k
    · rw [if_neg h3] at k ⊢; simpa using k

theorem fits_u (pos n : Int) (sel : Sel) (v : Int) (hp : 0 ≤ pos) (h1 : 1 ≤ n) (h2 : n ≤ 32) (h0 : 0 ≤ v) (hv : v < ((2 ^ n.toNat : Nat) : Int)) : PS.fits ⟨pos, n, false, sel⟩ v :=
  ⟨hp, h1, h2, by simp only [Bool.false_eq_true, if_false]; exact ⟨h0, hv⟩⟩
theorem fits_s (pos n : Int) (sel : Sel) (v : Int) (q : Int) (hp : 0 ≤ pos) (h1 : 1 ≤ n) (h2 : n ≤ 32) (hq : (2 : Int) ^ (n.toNat - 1) = q) (hq0 : 0 < q) (h0 : -q ≤ v) (hv : v < q) : PS.fits ⟨pos, n, true, sel⟩ v := by
  refine ⟨hp, h1, h2, ?_⟩
  simp only [if_true]
  rw [hq]
  have hd := Int.mul_ediv_add_emod v q
  have hm0 := Int.emod_nonneg v (show q ≠ 0 from by omega)
  have hm1 := Int.emod_lt_of_pos v hq0
  by_cases h : 0 ≤ v
  · left; exact Int.ediv_eq_zero_of_lt h hv
  · right
    rw [Int.ediv_eq_iff_of_pos hq0]
    omega
theorem wrap_tdiv (g v k : Int) (h : v = g * k) (hg : g ≠ 0) (h0 : -1000000000 ≤ v) (h1 : v ≤ 1000000000) : wrap64 (g * v.tdiv g) = v := by
  have e : v.tdiv g = k := by rw [h]; exact Int.mul_tdiv_cancel_left k hg
  rw [e, ← h]
  exact wrap_small v (by omega) (by omega)

set_option maxHeartbeats 400000 in
theorem fit_1 (op d n m a imm : Int) (mask : Nat) (shift amount cond : Int) (h : Right 1 d n m a imm mask shift amount cond) : ∀ p, p ∈ partsL 1 → p.sel.asks p.sign imm amount mask ∧ p.fits (Ins.val ⟨op, d, n, m, a, imm, mask, shift, amount, cond⟩ p.sel) := by
  unfold Right at h
  simp only [s_d, s_n, s_m, s_a, s_least, s_most, s_by, s_amounts, s_of, s_shift, s_cond, Int.toNat, List.getD_cons_succ, List.getD_cons_zero, reg_yes, reg_none, step_none, step_some, ne_eq, Int.reduceEq, not_false_eq_true, if_true, if_false] at h
  obtain ⟨⟨rd, rn, rm, ra⟩, ⟨ri, rt, rs, rc⟩, rk⟩ := h
  obtain ⟨ri0, ri1, ki, hki⟩ := ri
  obtain ⟨rt0, rt1, kt, hkt⟩ := rt
  intro p hp
  simp only [partsL, Int.reduceEq, if_false, if_true, List.mem_cons, List.not_mem_nil, or_false] at hp
  rcases hp with rfl | rfl | rfl
  · exact ⟨rfl, fits_u _ _ _ _ (by decide) (by decide) (by decide) (by show 0 ≤ d; omega) (by show d < 32; omega)⟩
  · have e : imm.tdiv 1 = ki := by rw [hki]; exact Int.mul_tdiv_cancel_left ki (by decide)
    refine ⟨⟨by decide, by decide, by show -1000000000 ≤ imm; omega, by show imm ≤ 1000000000; omega⟩, fits_u _ _ _ _ (by decide) (by decide) (by decide) ?_ ?_⟩
    · show 0 ≤ imm.tdiv 1; rw [e]; omega
    · show imm.tdiv 1 < 65536; rw [e]; omega
  · have e : amount.tdiv 16 = kt := by rw [hkt]; exact Int.mul_tdiv_cancel_left kt (by decide)
    refine ⟨⟨rfl, by decide, by decide, by show -1000000000 ≤ amount; omega, by show amount ≤ 1000000000; omega⟩, fits_u _ _ _ _ (by decide) (by decide) (by decide) ?_ ?_⟩
    · show 0 ≤ amount.tdiv 16; rw [e]; omega
    · show amount.tdiv 16 < 4; rw [e]; omega

set_option maxHeartbeats 400000 in
theorem back_1 (op d n m a imm : Int) (mask : Nat) (shift amount cond : Int) (h : Right 1 d n m a imm mask shift amount cond) (x : Nat) (hx : ∀ p, p ∈ partsL 1 → p.get x = Ins.val ⟨op, d, n, m, a, imm, mask, shift, amount, cond⟩ p.sel) : ∃ ds, decFold x (partsL 1) (some (DS.start op)) = some ds ∧ ds.i = ⟨op, d, n, m, a, imm, mask, shift, amount, cond⟩ := by
  unfold Right at h
  simp only [s_d, s_n, s_m, s_a, s_least, s_most, s_by, s_amounts, s_of, s_shift, s_cond, Int.toNat, List.getD_cons_succ, List.getD_cons_zero, reg_yes, reg_none, step_none, step_some, ne_eq, Int.reduceEq, not_false_eq_true, if_true, if_false] at h
  obtain ⟨⟨rd, rn, rm, ra⟩, ⟨ri, rt, rs, rc⟩, rk⟩ := h
  obtain ⟨ri0, ri1, ki, hki⟩ := ri
  obtain ⟨rt0, rt1, kt, hkt⟩ := rt
  simp only [partsL, Int.reduceEq, if_false, if_true] at hx ⊢
  have g0 : PS.get ⟨0, 5, false, .d⟩ x = d := hx ⟨0, 5, false, .d⟩ (by simp)
  have g1 : PS.get ⟨5, 16, false, .imm 1⟩ x = imm.tdiv 1 := hx ⟨5, 16, false, .imm 1⟩ (by simp)
  have g2 : PS.get ⟨21, 2, false, .amt 16⟩ x = amount.tdiv 16 := hx ⟨21, 2, false, .amt 16⟩ (by simp)
  have hz : n = 0 ∧ m = 0 ∧ a = 0 ∧ shift = 0 ∧ cond = 0 ∧ mask = 0 := by omega
  obtain ⟨rfl, rfl, rfl, rfl, rfl, rfl⟩ := hz
  have ei : wrap64 (1 * imm.tdiv 1) = imm := wrap_tdiv 1 imm ki hki (by decide) (by omega) (by omega)
  have ea : wrap64 (16 * amount.tdiv 16) = amount := wrap_tdiv 16 amount kt hkt (by decide) (by omega) (by omega)
  simp only [decFold, List.foldl, decStep, Option.bind, DS.put, DS.start, g0, g1, g2, ei, ea]
  exact ⟨_, rfl, rfl⟩

set_option maxHeartbeats 400000 in
theorem fit_2 (op d n m a imm : Int) (mask : Nat) (shift amount cond : Int) (h : Right 2 d n m a imm mask shift amount cond) : ∀ p, p ∈ partsL 2 → p.sel.asks p.sign imm amount mask ∧ p.fits (Ins.val ⟨op, d, n, m, a, imm, mask, shift, amount, cond⟩ p.sel) := by
  unfold Right at h
  simp only [s_d, s_n, s_m, s_a, s_least, s_most, s_by, s_amounts, s_of, s_shift, s_cond, Int.toNat, List.getD_cons_succ, List.getD_cons_zero, reg_yes, reg_none, step_none, step_some, ne_eq, Int.reduceEq, not_false_eq_true, if_true, if_false] at h
  obtain ⟨⟨rd, rn, rm, ra⟩, ⟨ri, rt, rs, rc⟩, rk⟩ := h
  obtain ⟨ri0, ri1, ki, hki⟩ := ri
  obtain ⟨rt0, rt1, kt, hkt⟩ := rt
  intro p hp
  simp only [partsL, Int.reduceEq, if_false, if_true, List.mem_cons, List.not_mem_nil, or_false] at hp
  rcases hp with rfl | rfl | rfl | rfl
  · exact ⟨rfl, fits_u _ _ _ _ (by decide) (by decide) (by decide) (by show 0 ≤ d; omega) (by show d < 32; omega)⟩
  · exact ⟨rfl, fits_u _ _ _ _ (by decide) (by decide) (by decide) (by show 0 ≤ n; omega) (by show n < 32; omega)⟩
  · have e : imm.tdiv 1 = ki := by rw [hki]; exact Int.mul_tdiv_cancel_left ki (by decide)
    refine ⟨⟨by decide, by decide, by show -1000000000 ≤ imm; omega, by show imm ≤ 1000000000; omega⟩, fits_u _ _ _ _ (by decide) (by decide) (by decide) ?_ ?_⟩
    · show 0 ≤ imm.tdiv 1; rw [e]; omega
    · show imm.tdiv 1 < 4096; rw [e]; omega
  · have e : amount.tdiv 12 = kt := by rw [hkt]; exact Int.mul_tdiv_cancel_left kt (by decide)
    refine ⟨⟨rfl, by decide, by decide, by show -1000000000 ≤ amount; omega, by show amount ≤ 1000000000; omega⟩, fits_u _ _ _ _ (by decide) (by decide) (by decide) ?_ ?_⟩
    · show 0 ≤ amount.tdiv 12; rw [e]; omega
    · show amount.tdiv 12 < 2; rw [e]; omega

set_option maxHeartbeats 400000 in
theorem back_2 (op d n m a imm : Int) (mask : Nat) (shift amount cond : Int) (h : Right 2 d n m a imm mask shift amount cond) (x : Nat) (hx : ∀ p, p ∈ partsL 2 → p.get x = Ins.val ⟨op, d, n, m, a, imm, mask, shift, amount, cond⟩ p.sel) : ∃ ds, decFold x (partsL 2) (some (DS.start op)) = some ds ∧ ds.i = ⟨op, d, n, m, a, imm, mask, shift, amount, cond⟩ := by
  unfold Right at h
  simp only [s_d, s_n, s_m, s_a, s_least, s_most, s_by, s_amounts, s_of, s_shift, s_cond, Int.toNat, List.getD_cons_succ, List.getD_cons_zero, reg_yes, reg_none, step_none, step_some, ne_eq, Int.reduceEq, not_false_eq_true, if_true, if_false] at h
  obtain ⟨⟨rd, rn, rm, ra⟩, ⟨ri, rt, rs, rc⟩, rk⟩ := h
  obtain ⟨ri0, ri1, ki, hki⟩ := ri
  obtain ⟨rt0, rt1, kt, hkt⟩ := rt
  simp only [partsL, Int.reduceEq, if_false, if_true] at hx ⊢
  have g0 : PS.get ⟨0, 5, false, .d⟩ x = d := hx ⟨0, 5, false, .d⟩ (by simp)
  have g1 : PS.get ⟨5, 5, false, .n⟩ x = n := hx ⟨5, 5, false, .n⟩ (by simp)
  have g2 : PS.get ⟨10, 12, false, .imm 1⟩ x = imm.tdiv 1 := hx ⟨10, 12, false, .imm 1⟩ (by simp)
  have g3 : PS.get ⟨22, 1, false, .amt 12⟩ x = amount.tdiv 12 := hx ⟨22, 1, false, .amt 12⟩ (by simp)
  have hz : m = 0 ∧ a = 0 ∧ shift = 0 ∧ cond = 0 ∧ mask = 0 := by omega
  obtain ⟨rfl, rfl, rfl, rfl, rfl⟩ := hz
  have ei : wrap64 (1 * imm.tdiv 1) = imm := wrap_tdiv 1 imm ki hki (by decide) (by omega) (by omega)
  have ea : wrap64 (12 * amount.tdiv 12) = amount := wrap_tdiv 12 amount kt hkt (by decide) (by omega) (by omega)
  simp only [decFold, List.foldl, decStep, Option.bind, DS.put, DS.start, g0, g1, g2, g3, ei, ea]
  exact ⟨_, rfl, rfl⟩

set_option maxHeartbeats 400000 in
theorem fit_3 (op d n m a imm : Int) (mask : Nat) (shift amount cond : Int) (h : Right 3 d n m a imm mask shift amount cond) (hm : mask < 2 ^ 64) : ∀ p, p ∈ partsL 3 → p.sel.asks p.sign imm amount mask ∧ p.fits (Ins.val ⟨op, d, n, m, a, imm, mask, shift, amount, cond⟩ p.sel) := by
  unfold Right at h
  simp only [s_d, s_n, s_m, s_a, s_least, s_most, s_by, s_amounts, s_of, s_shift, s_cond, Int.toNat, List.getD_cons_succ, List.getD_cons_zero, reg_yes, reg_none, step_none, step_some, ne_eq, Int.reduceEq, not_false_eq_true, if_true, if_false] at h
  obtain ⟨⟨rd, rn, rm, ra⟩, ⟨ri, rt, rs, rc⟩, rk⟩ := h
  have ht := dec_told mask hm rk
  obtain ⟨⟨k0, k1, k2, k3, k4⟩, _⟩ := ht
  intro p hp
  simp only [partsL, Int.reduceEq, if_false, if_true, List.mem_cons, List.not_mem_nil, or_false] at hp
  rcases hp with rfl | rfl | rfl | rfl | rfl
  · refine ⟨⟨rfl, rk, .inl rfl⟩, fits_u _ _ _ _ (by decide) (by decide) (by decide) ?_ ?_⟩
    · show 0 ≤ toldK mask 0; unfold toldK; rw [if_pos rfl]; omega
    · show toldK mask 0 < 2; unfold toldK; rw [if_pos rfl]; omega
  · refine ⟨⟨rfl, rk, .inr (.inl rfl)⟩, fits_u _ _ _ _ (by decide) (by decide) (by decide) ?_ ?_⟩
    · show 0 ≤ toldK mask 1; unfold toldK; rw [if_neg (by decide), if_pos rfl]; omega
    · show toldK mask 1 < 64; unfold toldK; rw [if_neg (by decide), if_pos rfl]; omega
  · refine ⟨⟨rfl, rk, .inr (.inr rfl)⟩, fits_u _ _ _ _ (by decide) (by decide) (by decide) ?_ ?_⟩
    · show 0 ≤ toldK mask 2; unfold toldK; rw [if_neg (by decide), if_neg (by decide)]; omega
    · show toldK mask 2 < 64; unfold toldK; rw [if_neg (by decide), if_neg (by decide)]; omega
  · exact ⟨rfl, fits_u _ _ _ _ (by decide) (by decide) (by decide) (by show 0 ≤ d; omega) (by show d < 32; omega)⟩
  · exact ⟨rfl, fits_u _ _ _ _ (by decide) (by decide) (by decide) (by show 0 ≤ n; omega) (by show n < 32; omega)⟩

set_option maxHeartbeats 400000 in
theorem back_3 (op d n m a imm : Int) (mask : Nat) (shift amount cond : Int) (h : Right 3 d n m a imm mask shift amount cond) (hm : mask < 2 ^ 64) (x : Nat) (hx : ∀ p, p ∈ partsL 3 → p.get x = Ins.val ⟨op, d, n, m, a, imm, mask, shift, amount, cond⟩ p.sel) : ∃ ds, decFold x (partsL 3) (some (DS.start op)) = some ds ∧ ds.i = ⟨op, d, n, m, a, imm, mask, shift, amount, cond⟩ := by
  unfold Right at h
  simp only [s_d, s_n, s_m, s_a, s_least, s_most, s_by, s_amounts, s_of, s_shift, s_cond, Int.toNat, List.getD_cons_succ, List.getD_cons_zero, reg_yes, reg_none, step_none, step_some, ne_eq, Int.reduceEq, not_false_eq_true, if_true, if_false] at h
  obtain ⟨⟨rd, rn, rm, ra⟩, ⟨ri, rt, rs, rc⟩, rk⟩ := h
  simp only [partsL, Int.reduceEq, if_false, if_true] at hx ⊢
  have g0 : PS.get ⟨22, 1, false, .mk 0⟩ x = toldK mask 0 := hx ⟨22, 1, false, .mk 0⟩ (by simp)
  have g1 : PS.get ⟨16, 6, false, .mk 1⟩ x = toldK mask 1 := hx ⟨16, 6, false, .mk 1⟩ (by simp)
  have g2 : PS.get ⟨10, 6, false, .mk 2⟩ x = toldK mask 2 := hx ⟨10, 6, false, .mk 2⟩ (by simp)
  have g3 : PS.get ⟨0, 5, false, .d⟩ x = d := hx ⟨0, 5, false, .d⟩ (by simp)
  have g4 : PS.get ⟨5, 5, false, .n⟩ x = n := hx ⟨5, 5, false, .n⟩ (by simp)
  obtain ⟨_, ht⟩ := dec_told mask hm rk
  have e0 : toldK mask 0 = (toldN mask).1 := by unfold toldK; rw [if_pos rfl]
  have e1 : toldK mask 1 = (toldN mask).2.1 := by unfold toldK; rw [if_neg (by decide), if_pos rfl]
  have e2 : toldK mask 2 = (toldN mask).2.2 := by unfold toldK; rw [if_neg (by decide), if_neg (by decide)]
  have hz : m = 0 ∧ a = 0 ∧ imm = 0 ∧ shift = 0 ∧ amount = 0 ∧ cond = 0 := by omega
  obtain ⟨rfl, rfl, rfl, rfl, rfl, rfl⟩ := hz
  simp only [decFold, List.foldl, decStep, Option.bind, DS.put, DS.start, g0, g1, g2, g3, g4, e0, e1, e2, ht, Int.reduceEq, if_true, if_false]
  exact ⟨_, rfl, rfl⟩

set_option maxHeartbeats 400000 in
theorem fit_4 (op d n m a imm : Int) (mask : Nat) (shift amount cond : Int) (h : Right 4 d n m a imm mask shift amount cond) : ∀ p, p ∈ partsL 4 → p.sel.asks p.sign imm amount mask ∧ p.fits (Ins.val ⟨op, d, n, m, a, imm, mask, shift, amount, cond⟩ p.sel) := by
  unfold Right at h
  simp only [s_d, s_n, s_m, s_a, s_least, s_most, s_by, s_amounts, s_of, s_shift, s_cond, Int.toNat, List.getD_cons_succ, List.getD_cons_zero, reg_yes, reg_none, step_none, step_some, ne_eq, Int.reduceEq, not_false_eq_true, if_true, if_false] at h
  obtain ⟨⟨rd, rn, rm, ra⟩, ⟨ri, rt, rs, rc⟩, rk⟩ := h
  obtain ⟨rt0, rt1, kt, hkt⟩ := rt
  intro p hp
  simp only [partsL, Int.reduceEq, if_false, if_true, List.mem_cons, List.not_mem_nil, or_false] at hp
  rcases hp with rfl | rfl | rfl | rfl | rfl
  · exact ⟨rfl, fits_u _ _ _ _ (by decide) (by decide) (by decide) (by show 0 ≤ d; omega) (by show d < 32; omega)⟩
  · exact ⟨rfl, fits_u _ _ _ _ (by decide) (by decide) (by decide) (by show 0 ≤ n; omega) (by show n < 32; omega)⟩
  · exact ⟨rfl, fits_u _ _ _ _ (by decide) (by decide) (by decide) (by show 0 ≤ m; omega) (by show m < 32; omega)⟩
  · have e : amount.tdiv 1 = kt := by rw [hkt]; exact Int.mul_tdiv_cancel_left kt (by decide)
    refine ⟨⟨rfl, by decide, by decide, by show -1000000000 ≤ amount; omega, by show amount ≤ 1000000000; omega⟩, fits_u _ _ _ _ (by decide) (by decide) (by decide) ?_ ?_⟩
    · show 0 ≤ amount.tdiv 1; rw [e]; omega
    · show amount.tdiv 1 < 64; rw [e]; omega
  · exact ⟨rfl, fits_u _ _ _ _ (by decide) (by decide) (by decide) (by show 0 ≤ shift; omega) (by show shift < 4; omega)⟩

set_option maxHeartbeats 400000 in
theorem back_4 (op d n m a imm : Int) (mask : Nat) (shift amount cond : Int) (h : Right 4 d n m a imm mask shift amount cond) (x : Nat) (hx : ∀ p, p ∈ partsL 4 → p.get x = Ins.val ⟨op, d, n, m, a, imm, mask, shift, amount, cond⟩ p.sel) : ∃ ds, decFold x (partsL 4) (some (DS.start op)) = some ds ∧ ds.i = ⟨op, d, n, m, a, imm, mask, shift, amount, cond⟩ := by
  unfold Right at h
  simp only [s_d, s_n, s_m, s_a, s_least, s_most, s_by, s_amounts, s_of, s_shift, s_cond, Int.toNat, List.getD_cons_succ, List.getD_cons_zero, reg_yes, reg_none, step_none, step_some, ne_eq, Int.reduceEq, not_false_eq_true, if_true, if_false] at h
  obtain ⟨⟨rd, rn, rm, ra⟩, ⟨ri, rt, rs, rc⟩, rk⟩ := h
  obtain ⟨rt0, rt1, kt, hkt⟩ := rt
  simp only [partsL, Int.reduceEq, if_false, if_true] at hx ⊢
  have g0 : PS.get ⟨0, 5, false, .d⟩ x = d := hx ⟨0, 5, false, .d⟩ (by simp)
  have g1 : PS.get ⟨5, 5, false, .n⟩ x = n := hx ⟨5, 5, false, .n⟩ (by simp)
  have g2 : PS.get ⟨16, 5, false, .m⟩ x = m := hx ⟨16, 5, false, .m⟩ (by simp)
  have g3 : PS.get ⟨10, 6, false, .amt 1⟩ x = amount.tdiv 1 := hx ⟨10, 6, false, .amt 1⟩ (by simp)
  have g4 : PS.get ⟨22, 2, false, .shift⟩ x = shift := hx ⟨22, 2, false, .shift⟩ (by simp)
  have hz : a = 0 ∧ cond = 0 ∧ imm = 0 ∧ mask = 0 := by omega
  obtain ⟨rfl, rfl, rfl, rfl⟩ := hz
  have ea : wrap64 (1 * amount.tdiv 1) = amount := wrap_tdiv 1 amount kt hkt (by decide) (by omega) (by omega)
  simp only [decFold, List.foldl, decStep, Option.bind, DS.put, DS.start, g0, g1, g2, g3, g4, ea]
  exact ⟨_, rfl, rfl⟩

set_option maxHeartbeats 400000 in
theorem fit_5 (op d n m a imm : Int) (mask : Nat) (shift amount cond : Int) (h : Right 5 d n m a imm mask shift amount cond) : ∀ p, p ∈ partsL 5 → p.sel.asks p.sign imm amount mask ∧ p.fits (Ins.val ⟨op, d, n, m, a, imm, mask, shift, amount, cond⟩ p.sel) := by
  unfold Right at h
  simp only [s_d, s_n, s_m, s_a, s_least, s_most, s_by, s_amounts, s_of, s_shift, s_cond, Int.toNat, List.getD_cons_succ, List.getD_cons_zero, reg_yes, reg_none, step_none, step_some, ne_eq, Int.reduceEq, not_false_eq_true, if_true, if_false] at h
  obtain ⟨⟨rd, rn, rm, ra⟩, ⟨ri, rt, rs, rc⟩, rk⟩ := h
  obtain ⟨rt0, rt1, kt, hkt⟩ := rt
  intro p hp
  simp only [partsL, Int.reduceEq, if_false, if_true, List.mem_cons, List.not_mem_nil, or_false] at hp
  rcases hp with rfl | rfl | rfl | rfl | rfl
  · exact ⟨rfl, fits_u _ _ _ _ (by decide) (by decide) (by decide) (by show 0 ≤ d; omega) (by show d < 32; omega)⟩
  · exact ⟨rfl, fits_u _ _ _ _ (by decide) (by decide) (by decide) (by show 0 ≤ n; omega) (by show n < 32; omega)⟩
  · exact ⟨rfl, fits_u _ _ _ _ (by decide) (by decide) (by decide) (by show 0 ≤ m; omega) (by show m < 32; omega)⟩
  · have e : amount.tdiv 1 = kt := by rw [hkt]; exact Int.mul_tdiv_cancel_left kt (by decide)
    refine ⟨⟨rfl, by decide, by decide, by show -1000000000 ≤ amount; omega, by show amount ≤ 1000000000; omega⟩, fits_u _ _ _ _ (by decide) (by decide) (by decide) ?_ ?_⟩
    · show 0 ≤ amount.tdiv 1; rw [e]; omega
    · show amount.tdiv 1 < 64; rw [e]; omega
  · exact ⟨rfl, fits_u _ _ _ _ (by decide) (by decide) (by decide) (by show 0 ≤ shift; omega) (by show shift < 4; omega)⟩

set_option maxHeartbeats 400000 in
theorem back_5 (op d n m a imm : Int) (mask : Nat) (shift amount cond : Int) (h : Right 5 d n m a imm mask shift amount cond) (x : Nat) (hx : ∀ p, p ∈ partsL 5 → p.get x = Ins.val ⟨op, d, n, m, a, imm, mask, shift, amount, cond⟩ p.sel) : ∃ ds, decFold x (partsL 5) (some (DS.start op)) = some ds ∧ ds.i = ⟨op, d, n, m, a, imm, mask, shift, amount, cond⟩ := by
  unfold Right at h
  simp only [s_d, s_n, s_m, s_a, s_least, s_most, s_by, s_amounts, s_of, s_shift, s_cond, Int.toNat, List.getD_cons_succ, List.getD_cons_zero, reg_yes, reg_none, step_none, step_some, ne_eq, Int.reduceEq, not_false_eq_true, if_true, if_false] at h
  obtain ⟨⟨rd, rn, rm, ra⟩, ⟨ri, rt, rs, rc⟩, rk⟩ := h
  obtain ⟨rt0, rt1, kt, hkt⟩ := rt
  simp only [partsL, Int.reduceEq, if_false, if_true] at hx ⊢
  have g0 : PS.get ⟨0, 5, false, .d⟩ x = d := hx ⟨0, 5, false, .d⟩ (by simp)
  have g1 : PS.get ⟨5, 5, false, .n⟩ x = n := hx ⟨5, 5, false, .n⟩ (by simp)
  have g2 : PS.get ⟨16, 5, false, .m⟩ x = m := hx ⟨16, 5, false, .m⟩ (by simp)
  have g3 : PS.get ⟨10, 6, false, .amt 1⟩ x = amount.tdiv 1 := hx ⟨10, 6, false, .amt 1⟩ (by simp)
  have g4 : PS.get ⟨22, 2, false, .shift⟩ x = shift := hx ⟨22, 2, false, .shift⟩ (by simp)
  have hz : a = 0 ∧ cond = 0 ∧ imm = 0 ∧ mask = 0 := by omega
  obtain ⟨rfl, rfl, rfl, rfl⟩ := hz
  have ea : wrap64 (1 * amount.tdiv 1) = amount := wrap_tdiv 1 amount kt hkt (by decide) (by omega) (by omega)
  simp only [decFold, List.foldl, decStep, Option.bind, DS.put, DS.start, g0, g1, g2, g3, g4, ea]
  exact ⟨_, rfl, rfl⟩

set_option maxHeartbeats 400000 in
theorem fit_6 (op d n m a imm : Int) (mask : Nat) (shift amount cond : Int) (h : Right 6 d n m a imm mask shift amount cond) : ∀ p, p ∈ partsL 6 → p.sel.asks p.sign imm amount mask ∧ p.fits (Ins.val ⟨op, d, n, m, a, imm, mask, shift, amount, cond⟩ p.sel) := by
  unfold Right at h
  simp only [s_d, s_n, s_m, s_a, s_least, s_most, s_by, s_amounts, s_of, s_shift, s_cond, Int.toNat, List.getD_cons_succ, List.getD_cons_zero, reg_yes, reg_none, step_none, step_some, ne_eq, Int.reduceEq, not_false_eq_true, if_true, if_false] at h
  obtain ⟨⟨rd, rn, rm, ra⟩, ⟨ri, rt, rs, rc⟩, rk⟩ := h
  intro p hp
  simp only [partsL, Int.reduceEq, if_false, if_true, List.mem_cons, List.not_mem_nil, or_false] at hp
  rcases hp with rfl | rfl | rfl | rfl
  · exact ⟨rfl, fits_u _ _ _ _ (by decide) (by decide) (by decide) (by show 0 ≤ d; omega) (by show d < 32; omega)⟩
  · exact ⟨rfl, fits_u _ _ _ _ (by decide) (by decide) (by decide) (by show 0 ≤ n; omega) (by show n < 32; omega)⟩
  · exact ⟨rfl, fits_u _ _ _ _ (by decide) (by decide) (by decide) (by show 0 ≤ m; omega) (by show m < 32; omega)⟩
  · exact ⟨rfl, fits_u _ _ _ _ (by decide) (by decide) (by decide) (by show 0 ≤ a; omega) (by show a < 32; omega)⟩

set_option maxHeartbeats 400000 in
theorem back_6 (op d n m a imm : Int) (mask : Nat) (shift amount cond : Int) (h : Right 6 d n m a imm mask shift amount cond) (x : Nat) (hx : ∀ p, p ∈ partsL 6 → p.get x = Ins.val ⟨op, d, n, m, a, imm, mask, shift, amount, cond⟩ p.sel) : ∃ ds, decFold x (partsL 6) (some (DS.start op)) = some ds ∧ ds.i = ⟨op, d, n, m, a, imm, mask, shift, amount, cond⟩ := by
  unfold Right at h
  simp only [s_d, s_n, s_m, s_a, s_least, s_most, s_by, s_amounts, s_of, s_shift, s_cond, Int.toNat, List.getD_cons_succ, List.getD_cons_zero, reg_yes, reg_none, step_none, step_some, ne_eq, Int.reduceEq, not_false_eq_true, if_true, if_false] at h
  obtain ⟨⟨rd, rn, rm, ra⟩, ⟨ri, rt, rs, rc⟩, rk⟩ := h
  simp only [partsL, Int.reduceEq, if_false, if_true] at hx ⊢
  have g0 : PS.get ⟨0, 5, false, .d⟩ x = d := hx ⟨0, 5, false, .d⟩ (by simp)
  have g1 : PS.get ⟨5, 5, false, .n⟩ x = n := hx ⟨5, 5, false, .n⟩ (by simp)
  have g2 : PS.get ⟨16, 5, false, .m⟩ x = m := hx ⟨16, 5, false, .m⟩ (by simp)
  have g3 : PS.get ⟨10, 5, false, .a⟩ x = a := hx ⟨10, 5, false, .a⟩ (by simp)
  have hz : shift = 0 ∧ cond = 0 ∧ imm = 0 ∧ amount = 0 ∧ mask = 0 := by omega
  obtain ⟨rfl, rfl, rfl, rfl, rfl⟩ := hz
  simp only [decFold, List.foldl, decStep, Option.bind, DS.put, DS.start, g0, g1, g2, g3]
  exact ⟨_, rfl, rfl⟩

set_option maxHeartbeats 400000 in
theorem fit_7 (op d n m a imm : Int) (mask : Nat) (shift amount cond : Int) (h : Right 7 d n m a imm mask shift amount cond) : ∀ p, p ∈ partsL 7 → p.sel.asks p.sign imm amount mask ∧ p.fits (Ins.val ⟨op, d, n, m, a, imm, mask, shift, amount, cond⟩ p.sel) := by
  unfold Right at h
  simp only [s_d, s_n, s_m, s_a, s_least, s_most, s_by, s_amounts, s_of, s_shift, s_cond, Int.toNat, List.getD_cons_succ, List.getD_cons_zero, reg_yes, reg_none, step_none, step_some, ne_eq, Int.reduceEq, not_false_eq_true, if_true, if_false] at h
  obtain ⟨⟨rd, rn, rm, ra⟩, ⟨ri, rt, rs, rc⟩, rk⟩ := h
  obtain ⟨ri0, ri1, ki, hki⟩ := ri
  intro p hp
  simp only [partsL, Int.reduceEq, if_false, if_true, List.mem_cons, List.not_mem_nil, or_false] at hp
  rcases hp with rfl | rfl | rfl
  · exact ⟨rfl, fits_u _ _ _ _ (by decide) (by decide) (by decide) (by show 0 ≤ d; omega) (by show d < 32; omega)⟩
  · exact ⟨rfl, fits_u _ _ _ _ (by decide) (by decide) (by decide) (by show 0 ≤ n; omega) (by show n < 32; omega)⟩
  · have e : imm.tdiv 8 = ki := by rw [hki]; exact Int.mul_tdiv_cancel_left ki (by decide)
    refine ⟨⟨by decide, by decide, by show -1000000000 ≤ imm; omega, by show imm ≤ 1000000000; omega⟩, fits_u _ _ _ _ (by decide) (by decide) (by decide) ?_ ?_⟩
    · show 0 ≤ imm.tdiv 8; rw [e]; omega
    · show imm.tdiv 8 < 4096; rw [e]; omega

set_option maxHeartbeats 400000 in
theorem back_7 (op d n m a imm : Int) (mask : Nat) (shift amount cond : Int) (h : Right 7 d n m a imm mask shift amount cond) (x : Nat) (hx : ∀ p, p ∈ partsL 7 → p.get x = Ins.val ⟨op, d, n, m, a, imm, mask, shift, amount, cond⟩ p.sel) : ∃ ds, decFold x (partsL 7) (some (DS.start op)) = some ds ∧ ds.i = ⟨op, d, n, m, a, imm, mask, shift, amount, cond⟩ := by
  unfold Right at h
  simp only [s_d, s_n, s_m, s_a, s_least, s_most, s_by, s_amounts, s_of, s_shift, s_cond, Int.toNat, List.getD_cons_succ, List.getD_cons_zero, reg_yes, reg_none, step_none, step_some, ne_eq, Int.reduceEq, not_false_eq_true, if_true, if_false] at h
  obtain ⟨⟨rd, rn, rm, ra⟩, ⟨ri, rt, rs, rc⟩, rk⟩ := h
  obtain ⟨ri0, ri1, ki, hki⟩ := ri
  simp only [partsL, Int.reduceEq, if_false, if_true] at hx ⊢
  have g0 : PS.get ⟨0, 5, false, .d⟩ x = d := hx ⟨0, 5, false, .d⟩ (by simp)
  have g1 : PS.get ⟨5, 5, false, .n⟩ x = n := hx ⟨5, 5, false, .n⟩ (by simp)
  have g2 : PS.get ⟨10, 12, false, .imm 8⟩ x = imm.tdiv 8 := hx ⟨10, 12, false, .imm 8⟩ (by simp)
  have hz : m = 0 ∧ a = 0 ∧ shift = 0 ∧ cond = 0 ∧ amount = 0 ∧ mask = 0 := by omega
  obtain ⟨rfl, rfl, rfl, rfl, rfl, rfl⟩ := hz
  have ei : wrap64 (8 * imm.tdiv 8) = imm := wrap_tdiv 8 imm ki hki (by decide) (by omega) (by omega)
  simp only [decFold, List.foldl, decStep, Option.bind, DS.put, DS.start, g0, g1, g2, ei]
  exact ⟨_, rfl, rfl⟩

set_option maxHeartbeats 400000 in
theorem fit_8 (op d n m a imm : Int) (mask : Nat) (shift amount cond : Int) (h : Right 8 d n m a imm mask shift amount cond) : ∀ p, p ∈ partsL 8 → p.sel.asks p.sign imm amount mask ∧ p.fits (Ins.val ⟨op, d, n, m, a, imm, mask, shift, amount, cond⟩ p.sel) := by
  unfold Right at h
  simp only [s_d, s_n, s_m, s_a, s_least, s_most, s_by, s_amounts, s_of, s_shift, s_cond, Int.toNat, List.getD_cons_succ, List.getD_cons_zero, reg_yes, reg_none, step_none, step_some, ne_eq, Int.reduceEq, not_false_eq_true, if_true, if_false] at h
  obtain ⟨⟨rd, rn, rm, ra⟩, ⟨ri, rt, rs, rc⟩, rk⟩ := h
  obtain ⟨ri0, ri1, ki, hki⟩ := ri
  intro p hp
  simp only [partsL, Int.reduceEq, if_false, if_true, List.mem_cons, List.not_mem_nil, or_false] at hp
  rcases hp with rfl | rfl | rfl
  · exact ⟨rfl, fits_u _ _ _ _ (by decide) (by decide) (by decide) (by show 0 ≤ d; omega) (by show d < 32; omega)⟩
  · exact ⟨rfl, fits_u _ _ _ _ (by decide) (by decide) (by decide) (by show 0 ≤ n; omega) (by show n < 32; omega)⟩
  · have e : imm.tdiv 1 = ki := by rw [hki]; exact Int.mul_tdiv_cancel_left ki (by decide)
    refine ⟨⟨by decide, by decide, by show -1000000000 ≤ imm; omega, by show imm ≤ 1000000000; omega⟩, fits_u _ _ _ _ (by decide) (by decide) (by decide) ?_ ?_⟩
    · show 0 ≤ imm.tdiv 1; rw [e]; omega
    · show imm.tdiv 1 < 4096; rw [e]; omega

set_option maxHeartbeats 400000 in
theorem back_8 (op d n m a imm : Int) (mask : Nat) (shift amount cond : Int) (h : Right 8 d n m a imm mask shift amount cond) (x : Nat) (hx : ∀ p, p ∈ partsL 8 → p.get x = Ins.val ⟨op, d, n, m, a, imm, mask, shift, amount, cond⟩ p.sel) : ∃ ds, decFold x (partsL 8) (some (DS.start op)) = some ds ∧ ds.i = ⟨op, d, n, m, a, imm, mask, shift, amount, cond⟩ := by
  unfold Right at h
  simp only [s_d, s_n, s_m, s_a, s_least, s_most, s_by, s_amounts, s_of, s_shift, s_cond, Int.toNat, List.getD_cons_succ, List.getD_cons_zero, reg_yes, reg_none, step_none, step_some, ne_eq, Int.reduceEq, not_false_eq_true, if_true, if_false] at h
  obtain ⟨⟨rd, rn, rm, ra⟩, ⟨ri, rt, rs, rc⟩, rk⟩ := h
  obtain ⟨ri0, ri1, ki, hki⟩ := ri
  simp only [partsL, Int.reduceEq, if_false, if_true] at hx ⊢
  have g0 : PS.get ⟨0, 5, false, .d⟩ x = d := hx ⟨0, 5, false, .d⟩ (by simp)
  have g1 : PS.get ⟨5, 5, false, .n⟩ x = n := hx ⟨5, 5, false, .n⟩ (by simp)
  have g2 : PS.get ⟨10, 12, false, .imm 1⟩ x = imm.tdiv 1 := hx ⟨10, 12, false, .imm 1⟩ (by simp)
  have hz : m = 0 ∧ a = 0 ∧ shift = 0 ∧ cond = 0 ∧ amount = 0 ∧ mask = 0 := by omega
  obtain ⟨rfl, rfl, rfl, rfl, rfl, rfl⟩ := hz
  have ei : wrap64 (1 * imm.tdiv 1) = imm := wrap_tdiv 1 imm ki hki (by decide) (by omega) (by omega)
  simp only [decFold, List.foldl, decStep, Option.bind, DS.put, DS.start, g0, g1, g2, ei]
  exact ⟨_, rfl, rfl⟩

set_option maxHeartbeats 400000 in
theorem fit_9 (op d n m a imm : Int) (mask : Nat) (shift amount cond : Int) (h : Right 9 d n m a imm mask shift amount cond) : ∀ p, p ∈ partsL 9 → p.sel.asks p.sign imm amount mask ∧ p.fits (Ins.val ⟨op, d, n, m, a, imm, mask, shift, amount, cond⟩ p.sel) := by
  unfold Right at h
  simp only [s_d, s_n, s_m, s_a, s_least, s_most, s_by, s_amounts, s_of, s_shift, s_cond, Int.toNat, List.getD_cons_succ, List.getD_cons_zero, reg_yes, reg_none, step_none, step_some, ne_eq, Int.reduceEq, not_false_eq_true, if_true, if_false] at h
  obtain ⟨⟨rd, rn, rm, ra⟩, ⟨ri, rt, rs, rc⟩, rk⟩ := h
  obtain ⟨ri0, ri1, ki, hki⟩ := ri
  intro p hp
  simp only [partsL, Int.reduceEq, if_false, if_true, List.mem_cons, List.not_mem_nil, or_false] at hp
  rcases hp with rfl | rfl
  · exact ⟨rfl, fits_u _ _ _ _ (by decide) (by decide) (by decide) (by show 0 ≤ d; omega) (by show d < 32; omega)⟩
  · have e : imm.tdiv 4 = ki := by rw [hki]; exact Int.mul_tdiv_cancel_left ki (by decide)
    refine ⟨⟨by decide, by decide, by show -1000000000 ≤ imm; omega, by show imm ≤ 1000000000; omega⟩, fits_s _ _ _ _ 262144 (by decide) (by decide) (by decide) rfl (by decide) ?_ ?_⟩
    · show -262144 ≤ imm.tdiv 4; rw [e]; omega
    · show imm.tdiv 4 < 262144; rw [e]; omega

set_option maxHeartbeats 400000 in
theorem back_9 (op d n m a imm : Int) (mask : Nat) (shift amount cond : Int) (h : Right 9 d n m a imm mask shift amount cond) (x : Nat) (hx : ∀ p, p ∈ partsL 9 → p.get x = Ins.val ⟨op, d, n, m, a, imm, mask, shift, amount, cond⟩ p.sel) : ∃ ds, decFold x (partsL 9) (some (DS.start op)) = some ds ∧ ds.i = ⟨op, d, n, m, a, imm, mask, shift, amount, cond⟩ := by
  unfold Right at h
  simp only [s_d, s_n, s_m, s_a, s_least, s_most, s_by, s_amounts, s_of, s_shift, s_cond, Int.toNat, List.getD_cons_succ, List.getD_cons_zero, reg_yes, reg_none, step_none, step_some, ne_eq, Int.reduceEq, not_false_eq_true, if_true, if_false] at h
  obtain ⟨⟨rd, rn, rm, ra⟩, ⟨ri, rt, rs, rc⟩, rk⟩ := h
  obtain ⟨ri0, ri1, ki, hki⟩ := ri
  simp only [partsL, Int.reduceEq, if_false, if_true] at hx ⊢
  have g0 : PS.get ⟨0, 5, false, .d⟩ x = d := hx ⟨0, 5, false, .d⟩ (by simp)
  have g1 : PS.get ⟨5, 19, true, .imm 4⟩ x = imm.tdiv 4 := hx ⟨5, 19, true, .imm 4⟩ (by simp)
  have hz : n = 0 ∧ m = 0 ∧ a = 0 ∧ shift = 0 ∧ cond = 0 ∧ amount = 0 ∧ mask = 0 := by omega
  obtain ⟨rfl, rfl, rfl, rfl, rfl, rfl, rfl⟩ := hz
  have ei : wrap64 (4 * imm.tdiv 4) = imm := wrap_tdiv 4 imm ki hki (by decide) (by omega) (by omega)
  simp only [decFold, List.foldl, decStep, Option.bind, DS.put, DS.start, g0, g1, ei]
  exact ⟨_, rfl, rfl⟩

set_option maxHeartbeats 400000 in
theorem fit_10 (op d n m a imm : Int) (mask : Nat) (shift amount cond : Int) (h : Right 10 d n m a imm mask shift amount cond) : ∀ p, p ∈ partsL 10 → p.sel.asks p.sign imm amount mask ∧ p.fits (Ins.val ⟨op, d, n, m, a, imm, mask, shift, amount, cond⟩ p.sel) := by
  unfold Right at h
  simp only [s_d, s_n, s_m, s_a, s_least, s_most, s_by, s_amounts, s_of, s_shift, s_cond, Int.toNat, List.getD_cons_succ, List.getD_cons_zero, reg_yes, reg_none, step_none, step_some, ne_eq, Int.reduceEq, not_false_eq_true, if_true, if_false] at h
  obtain ⟨⟨rd, rn, rm, ra⟩, ⟨ri, rt, rs, rc⟩, rk⟩ := h
  obtain ⟨ri0, ri1, ki, hki⟩ := ri
  intro p hp
  simp only [partsL, Int.reduceEq, if_false, if_true, List.mem_cons, List.not_mem_nil, or_false] at hp
  rcases hp with rfl | rfl | rfl
  · exact ⟨rfl, fits_u _ _ _ _ (by decide) (by decide) (by decide) (by show 0 ≤ imm % 4; omega) (by show imm % 4 < 4; omega)⟩
  · exact ⟨rfl, fits_s _ _ _ _ 262144 (by decide) (by decide) (by decide) rfl (by decide) (by show -262144 ≤ imm / 4; omega) (by show imm / 4 < 262144; omega)⟩
  · exact ⟨rfl, fits_u _ _ _ _ (by decide) (by decide) (by decide) (by show 0 ≤ d; omega) (by show d < 32; omega)⟩

set_option maxHeartbeats 400000 in
theorem back_10 (op d n m a imm : Int) (mask : Nat) (shift amount cond : Int) (h : Right 10 d n m a imm mask shift amount cond) (x : Nat) (hx : ∀ p, p ∈ partsL 10 → p.get x = Ins.val ⟨op, d, n, m, a, imm, mask, shift, amount, cond⟩ p.sel) : ∃ ds, decFold x (partsL 10) (some (DS.start op)) = some ds ∧ ds.i = ⟨op, d, n, m, a, imm, mask, shift, amount, cond⟩ := by
  unfold Right at h
  simp only [s_d, s_n, s_m, s_a, s_least, s_most, s_by, s_amounts, s_of, s_shift, s_cond, Int.toNat, List.getD_cons_succ, List.getD_cons_zero, reg_yes, reg_none, step_none, step_some, ne_eq, Int.reduceEq, not_false_eq_true, if_true, if_false] at h
  obtain ⟨⟨rd, rn, rm, ra⟩, ⟨ri, rt, rs, rc⟩, rk⟩ := h
  obtain ⟨ri0, ri1, ki, hki⟩ := ri
  simp only [partsL, Int.reduceEq, if_false, if_true] at hx ⊢
  have g0 : PS.get ⟨29, 2, false, .low⟩ x = imm % 4 := hx ⟨29, 2, false, .low⟩ (by simp)
  have g1 : PS.get ⟨5, 19, true, .high⟩ x = imm / 4 := hx ⟨5, 19, true, .high⟩ (by simp)
  have g2 : PS.get ⟨0, 5, false, .d⟩ x = d := hx ⟨0, 5, false, .d⟩ (by simp)
  have hz : n = 0 ∧ m = 0 ∧ a = 0 ∧ shift = 0 ∧ cond = 0 ∧ amount = 0 ∧ mask = 0 := by omega
  obtain ⟨rfl, rfl, rfl, rfl, rfl, rfl, rfl⟩ := hz
  have eh : bits .or .i64 (imm % 4) (wrap64 (imm / 4 * 4)) = imm := by rw [or_low _ _ (by omega) (by omega) (by omega) (by omega)]; omega
  simp only [decFold, List.foldl, decStep, Option.bind, DS.put, DS.start, g0, g1, g2, eh]
  exact ⟨_, rfl, rfl⟩

set_option maxHeartbeats 400000 in
theorem fit_11 (op d n m a imm : Int) (mask : Nat) (shift amount cond : Int) (h : Right 11 d n m a imm mask shift amount cond) : ∀ p, p ∈ partsL 11 → p.sel.asks p.sign imm amount mask ∧ p.fits (Ins.val ⟨op, d, n, m, a, imm, mask, shift, amount, cond⟩ p.sel) := by
  unfold Right at h
  simp only [s_d, s_n, s_m, s_a, s_least, s_most, s_by, s_amounts, s_of, s_shift, s_cond, Int.toNat, List.getD_cons_succ, List.getD_cons_zero, reg_yes, reg_none, step_none, step_some, ne_eq, Int.reduceEq, not_false_eq_true, if_true, if_false] at h
  obtain ⟨⟨rd, rn, rm, ra⟩, ⟨ri, rt, rs, rc⟩, rk⟩ := h
  obtain ⟨ri0, ri1, ki, hki⟩ := ri
  intro p hp
  simp only [partsL, Int.reduceEq, if_false, if_true, List.mem_cons, List.not_mem_nil, or_false] at hp
  subst hp
  · have e : imm.tdiv 4 = ki := by rw [hki]; exact Int.mul_tdiv_cancel_left ki (by decide)
    refine ⟨⟨by decide, by decide, by show -1000000000 ≤ imm; omega, by show imm ≤ 1000000000; omega⟩, fits_s _ _ _ _ 33554432 (by decide) (by decide) (by decide) rfl (by decide) ?_ ?_⟩
    · show -33554432 ≤ imm.tdiv 4; rw [e]; omega
    · show imm.tdiv 4 < 33554432; rw [e]; omega

set_option maxHeartbeats 400000 in
theorem back_11 (op d n m a imm : Int) (mask : Nat) (shift amount cond : Int) (h : Right 11 d n m a imm mask shift amount cond) (x : Nat) (hx : ∀ p, p ∈ partsL 11 → p.get x = Ins.val ⟨op, d, n, m, a, imm, mask, shift, amount, cond⟩ p.sel) : ∃ ds, decFold x (partsL 11) (some (DS.start op)) = some ds ∧ ds.i = ⟨op, d, n, m, a, imm, mask, shift, amount, cond⟩ := by
  unfold Right at h
  simp only [s_d, s_n, s_m, s_a, s_least, s_most, s_by, s_amounts, s_of, s_shift, s_cond, Int.toNat, List.getD_cons_succ, List.getD_cons_zero, reg_yes, reg_none, step_none, step_some, ne_eq, Int.reduceEq, not_false_eq_true, if_true, if_false] at h
  obtain ⟨⟨rd, rn, rm, ra⟩, ⟨ri, rt, rs, rc⟩, rk⟩ := h
  obtain ⟨ri0, ri1, ki, hki⟩ := ri
  simp only [partsL, Int.reduceEq, if_false, if_true] at hx ⊢
  have g0 : PS.get ⟨0, 26, true, .imm 4⟩ x = imm.tdiv 4 := hx ⟨0, 26, true, .imm 4⟩ (by simp)
  have hz : d = 0 ∧ n = 0 ∧ m = 0 ∧ a = 0 ∧ shift = 0 ∧ cond = 0 ∧ amount = 0 ∧ mask = 0 := by omega
  obtain ⟨rfl, rfl, rfl, rfl, rfl, rfl, rfl, rfl⟩ := hz
  have ei : wrap64 (4 * imm.tdiv 4) = imm := wrap_tdiv 4 imm ki hki (by decide) (by omega) (by omega)
  simp only [decFold, List.foldl, decStep, Option.bind, DS.put, DS.start, g0, ei]
  exact ⟨_, rfl, rfl⟩

set_option maxHeartbeats 400000 in
theorem fit_12 (op d n m a imm : Int) (mask : Nat) (shift amount cond : Int) (h : Right 12 d n m a imm mask shift amount cond) : ∀ p, p ∈ partsL 12 → p.sel.asks p.sign imm amount mask ∧ p.fits (Ins.val ⟨op, d, n, m, a, imm, mask, shift, amount, cond⟩ p.sel) := by
  unfold Right at h
  simp only [s_d, s_n, s_m, s_a, s_least, s_most, s_by, s_amounts, s_of, s_shift, s_cond, Int.toNat, List.getD_cons_succ, List.getD_cons_zero, reg_yes, reg_none, step_none, step_some, ne_eq, Int.reduceEq, not_false_eq_true, if_true, if_false] at h
  obtain ⟨⟨rd, rn, rm, ra⟩, ⟨ri, rt, rs, rc⟩, rk⟩ := h
  obtain ⟨ri0, ri1, ki, hki⟩ := ri
  intro p hp
  simp only [partsL, Int.reduceEq, if_false, if_true, List.mem_cons, List.not_mem_nil, or_false] at hp
  rcases hp with rfl | rfl
  · exact ⟨rfl, fits_u _ _ _ _ (by decide) (by decide) (by decide) (by show 0 ≤ cond; omega) (by show cond < 16; omega)⟩
  · have e : imm.tdiv 4 = ki := by rw [hki]; exact Int.mul_tdiv_cancel_left ki (by decide)
    refine ⟨⟨by decide, by decide, by show -1000000000 ≤ imm; omega, by show imm ≤ 1000000000; omega⟩, fits_s _ _ _ _ 262144 (by decide) (by decide) (by decide) rfl (by decide) ?_ ?_⟩
    · show -262144 ≤ imm.tdiv 4; rw [e]; omega
    · show imm.tdiv 4 < 262144; rw [e]; omega

set_option maxHeartbeats 400000 in
theorem back_12 (op d n m a imm : Int) (mask : Nat) (shift amount cond : Int) (h : Right 12 d n m a imm mask shift amount cond) (x : Nat) (hx : ∀ p, p ∈ partsL 12 → p.get x = Ins.val ⟨op, d, n, m, a, imm, mask, shift, amount, cond⟩ p.sel) : ∃ ds, decFold x (partsL 12) (some (DS.start op)) = some ds ∧ ds.i = ⟨op, d, n, m, a, imm, mask, shift, amount, cond⟩ := by
  unfold Right at h
  simp only [s_d, s_n, s_m, s_a, s_least, s_most, s_by, s_amounts, s_of, s_shift, s_cond, Int.toNat, List.getD_cons_succ, List.getD_cons_zero, reg_yes, reg_none, step_none, step_some, ne_eq, Int.reduceEq, not_false_eq_true, if_true, if_false] at h
  obtain ⟨⟨rd, rn, rm, ra⟩, ⟨ri, rt, rs, rc⟩, rk⟩ := h
  obtain ⟨ri0, ri1, ki, hki⟩ := ri
  simp only [partsL, Int.reduceEq, if_false, if_true] at hx ⊢
  have g0 : PS.get ⟨0, 4, false, .cond⟩ x = cond := hx ⟨0, 4, false, .cond⟩ (by simp)
  have g1 : PS.get ⟨5, 19, true, .imm 4⟩ x = imm.tdiv 4 := hx ⟨5, 19, true, .imm 4⟩ (by simp)
  have hz : d = 0 ∧ n = 0 ∧ m = 0 ∧ a = 0 ∧ shift = 0 ∧ amount = 0 ∧ mask = 0 := by omega
  obtain ⟨rfl, rfl, rfl, rfl, rfl, rfl, rfl⟩ := hz
  have ei : wrap64 (4 * imm.tdiv 4) = imm := wrap_tdiv 4 imm ki hki (by decide) (by omega) (by omega)
  simp only [decFold, List.foldl, decStep, Option.bind, DS.put, DS.start, g0, g1, ei]
  exact ⟨_, rfl, rfl⟩

set_option maxHeartbeats 400000 in
theorem fit_13 (op d n m a imm : Int) (mask : Nat) (shift amount cond : Int) (h : Right 13 d n m a imm mask shift amount cond) : ∀ p, p ∈ partsL 13 → p.sel.asks p.sign imm amount mask ∧ p.fits (Ins.val ⟨op, d, n, m, a, imm, mask, shift, amount, cond⟩ p.sel) := by
  unfold Right at h
  simp only [s_d, s_n, s_m, s_a, s_least, s_most, s_by, s_amounts, s_of, s_shift, s_cond, Int.toNat, List.getD_cons_succ, List.getD_cons_zero, reg_yes, reg_none, step_none, step_some, ne_eq, Int.reduceEq, not_false_eq_true, if_true, if_false] at h
  obtain ⟨⟨rd, rn, rm, ra⟩, ⟨ri, rt, rs, rc⟩, rk⟩ := h
  intro p hp
  simp only [partsL, Int.reduceEq, if_false, if_true, List.mem_cons, List.not_mem_nil, or_false] at hp
  subst hp
  · exact ⟨rfl, fits_u _ _ _ _ (by decide) (by decide) (by decide) (by show 0 ≤ n; omega) (by show n < 32; omega)⟩

set_option maxHeartbeats 400000 in
theorem back_13 (op d n m a imm : Int) (mask : Nat) (shift amount cond : Int) (h : Right 13 d n m a imm mask shift amount cond) (x : Nat) (hx : ∀ p, p ∈ partsL 13 → p.get x = Ins.val ⟨op, d, n, m, a, imm, mask, shift, amount, cond⟩ p.sel) : ∃ ds, decFold x (partsL 13) (some (DS.start op)) = some ds ∧ ds.i = ⟨op, d, n, m, a, imm, mask, shift, amount, cond⟩ := by
  unfold Right at h
  simp only [s_d, s_n, s_m, s_a, s_least, s_most, s_by, s_amounts, s_of, s_shift, s_cond, Int.toNat, List.getD_cons_succ, List.getD_cons_zero, reg_yes, reg_none, step_none, step_some, ne_eq, Int.reduceEq, not_false_eq_true, if_true, if_false] at h
  obtain ⟨⟨rd, rn, rm, ra⟩, ⟨ri, rt, rs, rc⟩, rk⟩ := h
  simp only [partsL, Int.reduceEq, if_false, if_true] at hx ⊢
  have g0 : PS.get ⟨5, 5, false, .n⟩ x = n := hx ⟨5, 5, false, .n⟩ (by simp)
  have hz : d = 0 ∧ m = 0 ∧ a = 0 ∧ shift = 0 ∧ cond = 0 ∧ imm = 0 ∧ amount = 0 ∧ mask = 0 := by omega
  obtain ⟨rfl, rfl, rfl, rfl, rfl, rfl, rfl, rfl⟩ := hz
  simp only [decFold, List.foldl, decStep, Option.bind, DS.put, DS.start, g0]
  exact ⟨_, rfl, rfl⟩

set_option maxHeartbeats 400000 in
theorem fit_14 (op d n m a imm : Int) (mask : Nat) (shift amount cond : Int) (h : Right 14 d n m a imm mask shift amount cond) : ∀ p, p ∈ partsL 14 → p.sel.asks p.sign imm amount mask ∧ p.fits (Ins.val ⟨op, d, n, m, a, imm, mask, shift, amount, cond⟩ p.sel) := by
  unfold Right at h
  simp only [s_d, s_n, s_m, s_a, s_least, s_most, s_by, s_amounts, s_of, s_shift, s_cond, Int.toNat, List.getD_cons_succ, List.getD_cons_zero, reg_yes, reg_none, step_none, step_some, ne_eq, Int.reduceEq, not_false_eq_true, if_true, if_false] at h
  obtain ⟨⟨rd, rn, rm, ra⟩, ⟨ri, rt, rs, rc⟩, rk⟩ := h
  obtain ⟨ri0, ri1, ki, hki⟩ := ri
  intro p hp
  simp only [partsL, Int.reduceEq, if_false, if_true, List.mem_cons, List.not_mem_nil, or_false] at hp
  subst hp
  · have e : imm.tdiv 1 = ki := by rw [hki]; exact Int.mul_tdiv_cancel_left ki (by decide)
    refine ⟨⟨by decide, by decide, by show -1000000000 ≤ imm; omega, by show imm ≤ 1000000000; omega⟩, fits_u _ _ _ _ (by decide) (by decide) (by decide) ?_ ?_⟩
    · show 0 ≤ imm.tdiv 1; rw [e]; omega
    · show imm.tdiv 1 < 65536; rw [e]; omega

set_option maxHeartbeats 400000 in
theorem back_14 (op d n m a imm : Int) (mask : Nat) (shift amount cond : Int) (h : Right 14 d n m a imm mask shift amount cond) (x : Nat) (hx : ∀ p, p ∈ partsL 14 → p.get x = Ins.val ⟨op, d, n, m, a, imm, mask, shift, amount, cond⟩ p.sel) : ∃ ds, decFold x (partsL 14) (some (DS.start op)) = some ds ∧ ds.i = ⟨op, d, n, m, a, imm, mask, shift, amount, cond⟩ := by
  unfold Right at h
  simp only [s_d, s_n, s_m, s_a, s_least, s_most, s_by, s_amounts, s_of, s_shift, s_cond, Int.toNat, List.getD_cons_succ, List.getD_cons_zero, reg_yes, reg_none, step_none, step_some, ne_eq, Int.reduceEq, not_false_eq_true, if_true, if_false] at h
  obtain ⟨⟨rd, rn, rm, ra⟩, ⟨ri, rt, rs, rc⟩, rk⟩ := h
  obtain ⟨ri0, ri1, ki, hki⟩ := ri
  simp only [partsL, Int.reduceEq, if_false, if_true] at hx ⊢
  have g0 : PS.get ⟨5, 16, false, .imm 1⟩ x = imm.tdiv 1 := hx ⟨5, 16, false, .imm 1⟩ (by simp)
  have hz : d = 0 ∧ n = 0 ∧ m = 0 ∧ a = 0 ∧ shift = 0 ∧ cond = 0 ∧ amount = 0 ∧ mask = 0 := by omega
  obtain ⟨rfl, rfl, rfl, rfl, rfl, rfl, rfl, rfl⟩ := hz
  have ei : wrap64 (1 * imm.tdiv 1) = imm := wrap_tdiv 1 imm ki hki (by decide) (by omega) (by omega)
  simp only [decFold, List.foldl, decStep, Option.bind, DS.put, DS.start, g0, ei]
  exact ⟨_, rfl, rfl⟩

set_option maxHeartbeats 400000 in
theorem fit_15 (op d n m a imm : Int) (mask : Nat) (shift amount cond : Int) (h : Right 15 d n m a imm mask shift amount cond) : ∀ p, p ∈ partsL 15 → p.sel.asks p.sign imm amount mask ∧ p.fits (Ins.val ⟨op, d, n, m, a, imm, mask, shift, amount, cond⟩ p.sel) := by
  unfold Right at h
  simp only [s_d, s_n, s_m, s_a, s_least, s_most, s_by, s_amounts, s_of, s_shift, s_cond, Int.toNat, List.getD_cons_succ, List.getD_cons_zero, reg_yes, reg_none, step_none, step_some, ne_eq, Int.reduceEq, not_false_eq_true, if_true, if_false] at h
  obtain ⟨⟨rd, rn, rm, ra⟩, ⟨ri, rt, rs, rc⟩, rk⟩ := h
  intro p hp
  simp only [partsL, Int.reduceEq, if_false, if_true, List.mem_cons, List.not_mem_nil, or_false] at hp


set_option maxHeartbeats 400000 in
theorem back_15 (op d n m a imm : Int) (mask : Nat) (shift amount cond : Int) (h : Right 15 d n m a imm mask shift amount cond) (x : Nat) (hx : ∀ p, p ∈ partsL 15 → p.get x = Ins.val ⟨op, d, n, m, a, imm, mask, shift, amount, cond⟩ p.sel) : ∃ ds, decFold x (partsL 15) (some (DS.start op)) = some ds ∧ ds.i = ⟨op, d, n, m, a, imm, mask, shift, amount, cond⟩ := by
  unfold Right at h
  simp only [s_d, s_n, s_m, s_a, s_least, s_most, s_by, s_amounts, s_of, s_shift, s_cond, Int.toNat, List.getD_cons_succ, List.getD_cons_zero, reg_yes, reg_none, step_none, step_some, ne_eq, Int.reduceEq, not_false_eq_true, if_true, if_false] at h
  obtain ⟨⟨rd, rn, rm, ra⟩, ⟨ri, rt, rs, rc⟩, rk⟩ := h
  simp only [partsL, Int.reduceEq, if_false, if_true] at hx ⊢
  have hz : d = 0 ∧ n = 0 ∧ m = 0 ∧ a = 0 ∧ shift = 0 ∧ cond = 0 ∧ imm = 0 ∧ amount = 0 ∧ mask = 0 := by omega
  obtain ⟨rfl, rfl, rfl, rfl, rfl, rfl, rfl, rfl, rfl⟩ := hz
  simp only [decFold, List.foldl, decStep, Option.bind, DS.put, DS.start]
  exact ⟨_, rfl, rfl⟩

set_option maxHeartbeats 400000 in
theorem fit_16 (op d n m a imm : Int) (mask : Nat) (shift amount cond : Int) (h : Right 16 d n m a imm mask shift amount cond) : ∀ p, p ∈ partsL 16 → p.sel.asks p.sign imm amount mask ∧ p.fits (Ins.val ⟨op, d, n, m, a, imm, mask, shift, amount, cond⟩ p.sel) := by
  unfold Right at h
  simp only [s_d, s_n, s_m, s_a, s_least, s_most, s_by, s_amounts, s_of, s_shift, s_cond, Int.toNat, List.getD_cons_succ, List.getD_cons_zero, reg_yes, reg_none, step_none, step_some, ne_eq, Int.reduceEq, not_false_eq_true, if_true, if_false] at h
  obtain ⟨⟨rd, rn, rm, ra⟩, ⟨ri, rt, rs, rc⟩, rk⟩ := h
  intro p hp
  simp only [partsL, Int.reduceEq, if_false, if_true, List.mem_cons, List.not_mem_nil, or_false] at hp
  rcases hp with rfl | rfl | rfl | rfl
  · exact ⟨rfl, fits_u _ _ _ _ (by decide) (by decide) (by decide) (by show 0 ≤ d; omega) (by show d < 32; omega)⟩
  · exact ⟨rfl, fits_u _ _ _ _ (by decide) (by decide) (by decide) (by show 0 ≤ n; omega) (by show n < 32; omega)⟩
  · exact ⟨rfl, fits_u _ _ _ _ (by decide) (by decide) (by decide) (by show 0 ≤ m; omega) (by show m < 32; omega)⟩
  · exact ⟨rfl, fits_u _ _ _ _ (by decide) (by decide) (by decide) (by show 0 ≤ cond; omega) (by show cond < 16; omega)⟩

set_option maxHeartbeats 400000 in
theorem back_16 (op d n m a imm : Int) (mask : Nat) (shift amount cond : Int) (h : Right 16 d n m a imm mask shift amount cond) (x : Nat) (hx : ∀ p, p ∈ partsL 16 → p.get x = Ins.val ⟨op, d, n, m, a, imm, mask, shift, amount, cond⟩ p.sel) : ∃ ds, decFold x (partsL 16) (some (DS.start op)) = some ds ∧ ds.i = ⟨op, d, n, m, a, imm, mask, shift, amount, cond⟩ := by
  unfold Right at h
  simp only [s_d, s_n, s_m, s_a, s_least, s_most, s_by, s_amounts, s_of, s_shift, s_cond, Int.toNat, List.getD_cons_succ, List.getD_cons_zero, reg_yes, reg_none, step_none, step_some, ne_eq, Int.reduceEq, not_false_eq_true, if_true, if_false] at h
  obtain ⟨⟨rd, rn, rm, ra⟩, ⟨ri, rt, rs, rc⟩, rk⟩ := h
  simp only [partsL, Int.reduceEq, if_false, if_true] at hx ⊢
  have g0 : PS.get ⟨0, 5, false, .d⟩ x = d := hx ⟨0, 5, false, .d⟩ (by simp)
  have g1 : PS.get ⟨5, 5, false, .n⟩ x = n := hx ⟨5, 5, false, .n⟩ (by simp)
  have g2 : PS.get ⟨16, 5, false, .m⟩ x = m := hx ⟨16, 5, false, .m⟩ (by simp)
  have g3 : PS.get ⟨12, 4, false, .cond⟩ x = cond := hx ⟨12, 4, false, .cond⟩ (by simp)
  have hz : a = 0 ∧ shift = 0 ∧ imm = 0 ∧ amount = 0 ∧ mask = 0 := by omega
  obtain ⟨rfl, rfl, rfl, rfl, rfl⟩ := hz
  simp only [decFold, List.foldl, decStep, Option.bind, DS.put, DS.start, g0, g1, g2, g3]
  exact ⟨_, rfl, rfl⟩

theorem sixteen {s : Int} (h0 : 0 ≤ s) (h1 : s ≤ 16) (hne : s ≠ 0) : s = 1 ∨ s = 2 ∨ s = 3 ∨ s = 4 ∨ s = 5 ∨ s = 6 ∨ s = 7 ∨ s = 8 ∨ s = 9 ∨ s = 10 ∨ s = 11 ∨ s = 12 ∨ s = 13 ∨ s = 14 ∨ s = 15 ∨ s = 16 := by omega
theorem fit_any (op d n m a imm : Int) (mask : Nat) (shift amount cond s : Int) (h0 : 0 ≤ s) (h1 : s ≤ 16) (hne : s ≠ 0) (h : Right s d n m a imm mask shift amount cond) (hm : mask < 2 ^ 64) :
    ∀ p, p ∈ partsL s → p.sel.asks p.sign imm amount mask ∧ p.fits (Ins.val ⟨op, d, n, m, a, imm, mask, shift, amount, cond⟩ p.sel) := by
  rcases sixteen h0 h1 hne with rfl | rfl | rfl | rfl | rfl | rfl | rfl | rfl | rfl | rfl | rfl | rfl | rfl | rfl | rfl | rfl
  · exact fit_1 _ _ _ _ _ _ _ _ _ _ h
  · exact fit_2 _ _ _ _ _ _ _ _ _ _ h
  · exact fit_3 _ _ _ _ _ _ _ _ _ _ h hm
  · exact fit_4 _ _ _ _ _ _ _ _ _ _ h
  · exact fit_5 _ _ _ _ _ _ _ _ _ _ h
  · exact fit_6 _ _ _ _ _ _ _ _ _ _ h
  · exact fit_7 _ _ _ _ _ _ _ _ _ _ h
  · exact fit_8 _ _ _ _ _ _ _ _ _ _ h
  · exact fit_9 _ _ _ _ _ _ _ _ _ _ h
  · exact fit_10 _ _ _ _ _ _ _ _ _ _ h
  · exact fit_11 _ _ _ _ _ _ _ _ _ _ h
  · exact fit_12 _ _ _ _ _ _ _ _ _ _ h
  · exact fit_13 _ _ _ _ _ _ _ _ _ _ h
  · exact fit_14 _ _ _ _ _ _ _ _ _ _ h
  · exact fit_15 _ _ _ _ _ _ _ _ _ _ h
  · exact fit_16 _ _ _ _ _ _ _ _ _ _ h
theorem back_any (op d n m a imm : Int) (mask : Nat) (shift amount cond s : Int) (h0 : 0 ≤ s) (h1 : s ≤ 16) (hne : s ≠ 0) (h : Right s d n m a imm mask shift amount cond) (hm : mask < 2 ^ 64) (x : Nat)
    (hx : ∀ p, p ∈ partsL s → p.get x = Ins.val ⟨op, d, n, m, a, imm, mask, shift, amount, cond⟩ p.sel) : ∃ ds, decFold x (partsL s) (some (DS.start op)) = some ds ∧ ds.i = ⟨op, d, n, m, a, imm, mask, shift, amount, cond⟩ := by
  rcases sixteen h0 h1 hne with rfl | rfl | rfl | rfl | rfl | rfl | rfl | rfl | rfl | rfl | rfl | rfl | rfl | rfl | rfl | rfl
  · exact back_1 _ _ _ _ _ _ _ _ _ _ h x hx
  · exact back_2 _ _ _ _ _ _ _ _ _ _ h x hx
  · exact back_3 _ _ _ _ _ _ _ _ _ _ h hm x hx
  · exact back_4 _ _ _ _ _ _ _ _ _ _ h x hx
  · exact back_5 _ _ _ _ _ _ _ _ _ _ h x hx
  · exact back_6 _ _ _ _ _ _ _ _ _ _ h x hx
  · exact back_7 _ _ _ _ _ _ _ _ _ _ h x hx
  · exact back_8 _ _ _ _ _ _ _ _ _ _ h x hx
  · exact back_9 _ _ _ _ _ _ _ _ _ _ h x hx
  · exact back_10 _ _ _ _ _ _ _ _ _ _ h x hx
  · exact back_11 _ _ _ _ _ _ _ _ _ _ h x hx
  · exact back_12 _ _ _ _ _ _ _ _ _ _ h x hx
  · exact back_13 _ _ _ _ _ _ _ _ _ _ h x hx
  · exact back_14 _ _ _ _ _ _ _ _ _ _ h x hx
  · exact back_15 _ _ _ _ _ _ _ _ _ _ h x hx
  · exact back_16 _ _ _ _ _ _ _ _ _ _ h x hx

/-- What a right instruction's fields are. -/
structure Good (i : Ins) : Prop where
  op0 : 1 ≤ i.op
  op1 : i.op ≤ 39
  fit : Fits i.op i.d i.n i.m i.a i.imm i.mask i.shift i.amount i.cond
  len : i.fields.length ≤ 1000
  right : ∀ f, f ∈ i.fields → f.right
  val : ∀ f, f ∈ i.fields → f.val < 2 ^ f.n
  disj : disj 0 i.fields = true
theorem op_bd (op : Int) (h : shapeI op ≠ 0) : 1 ≤ op ∧ op ≤ 39 := by
  unfold shapeI at h
  by_cases hc : op < 1 ∨ 39 < op
  · rw [if_pos hc] at h; exact absurd rfl h
  · omega
theorem fd_val (p : PS) (v : Int) (hf : p.fits v) : (p.fd v).val < 2 ^ (p.fd v).n := by
  obtain ⟨h0, h1, h2, h3⟩ := hf
  have hp := pow_pos2 p.n.toNat
  unfold PS.fd
  cases hs : p.sign with
  | true =>
    simp only [if_true]
    have e0 := Int.emod_nonneg v (show ((2 ^ p.n.toNat : Nat) : Int) ≠ 0 from by omega)
    have e1 := Int.emod_lt_of_pos v (show 0 < ((2 ^ p.n.toNat : Nat) : Int) from by omega)
    omega
  | false =>
    rw [hs] at h3
    simp only [Bool.false_eq_true, if_false] at h3 ⊢
    omega
theorem good_of (i : Ins) (h : i.isB = true) (hm : i.mask < 2 ^ 64) : Good i := by
  obtain ⟨hne, hr⟩ := is_right i h
  have hsb := shapeI_bd i.op
  have ho := op_bd i.op hne
  have hfit := fit_any i.op i.d i.n i.m i.a i.imm i.mask i.shift i.amount i.cond _ hsb.1 hsb.2 hne hr hm
  refine ⟨ho.1, ho.2, hfit, ?_, ?_, ?_, ?_⟩
  · have := ones_len _ hsb.1 hsb.2
    unfold onesOf at this
    unfold Ins.fields fieldsOf
    rw [List.length_map] at this ⊢
    exact this
  · intro f hf
    obtain ⟨p, hp, rfl⟩ := List.mem_map.1 hf
    exact ones_right _ hsb.1 hsb.2 p.ones (List.mem_map_of_mem hp)
  · intro f hf
    obtain ⟨p, hp, rfl⟩ := List.mem_map.1 hf
    exact fd_val p _ (hfit p hp).2
  · unfold Ins.fields fieldsOf
    rw [disj_fields]
    exact ones_disj _ hsb.1 hsb.2
theorem get_fd (p : PS) (x : Nat) (v : Int) (hf : p.fits v) (h : fieldN x (p.fd v).pos (p.fd v).n = (p.fd v).val) : p.get x = v := by
  obtain ⟨h0, h1, h2, h3⟩ := hf
  unfold PS.get
  unfold PS.fd at h
  dsimp only at h
  rw [h]
  cases hs : p.sign with
  | true =>
    rw [hs] at h3
    simp only [if_true] at h3 ⊢
    exact mod_signed v _ (by omega) h3
  | false =>
    rw [hs] at h3
    simp only [Bool.false_eq_true, if_false] at h3 ⊢
    omega
theorem base_free : (List.range 40).all (fun k => takenN (onesOf (shapeI (k : Int))) &&& baseN (k : Int) == 0) = true := by decide +kernel
theorem bases_apart : (List.range 40).all (fun j => (List.range 40).all fun k => decide (j = 0) || decide (k ≤ j) || !(baseN (j : Int) &&& (4294967295 - takenN (onesOf (shapeI (k : Int)))) == baseN (k : Int) &&& (4294967295 - takenN (onesOf (shapeI (j : Int)))))) = true := by decide +kernel
theorem op_alone (x j k : Nat) (hj : 1 ≤ j) (hjk : j < k) (hk : k ≤ 39) (h1 : matchB (x : Int) (j : Int) = true) (h2 : matchB (x : Int) (k : Int) = true) : False := by
  rw [match_iff x j hj (by omega), decide_eq_true_eq] at h1
  rw [match_iff x k (by omega) hk, decide_eq_true_eq] at h2
  have h := List.all_eq_true.1 (List.all_eq_true.1 bases_apart j (List.mem_range.2 (by omega))) k (List.mem_range.2 (by omega))
  rw [Bool.or_eq_true, Bool.or_eq_true, decide_eq_true_eq, decide_eq_true_eq, Bool.not_eq_true', beq_eq_false_iff_ne] at h
  rcases h with (h | h) | h
  · omega
  · omega
  · apply h
    rw [← h1, ← h2, Nat.and_assoc, Nat.and_assoc, Nat.and_comm (4294967295 - _)]
theorem op_at (x k : Nat) (h1 : 1 ≤ k) (hk : k ≤ 39) (hm : matchB (x : Int) (k : Int) = true) : opOf x = (k : Int) := by
  refine opOf_at x k (by omega) hm fun j hj => ?_
  by_cases h0 : j = 0
  · subst h0; rfl
  · cases h : matchB (x : Int) (j : Int) with
    | false => rfl
    | true => exact (op_alone x j k (by omega) hj hk h hm).elim
theorem match_word (i : Ins) (g : Good i) (k : Nat) (hk : i.op = (k : Int)) : matchB (i.word : Int) (k : Int) = true := by
  have hsb := shapeI_bd i.op
  have h0 := g.op0
  have h1 := g.op1
  rw [match_iff _ k (by omega) (by omega), decide_eq_true_eq]
  unfold Ins.word
  rw [← hk]
  have hb := List.all_eq_true.1 base_free k (List.mem_range.2 (by omega))
  rw [beq_iff_eq, ← hk] at hb
  refine rest_base _ _ _ (base_cast i.op (by omega) g.op1).2 (ones_lt _ hsb.1 hsb.2) hb ?_
  have hw := word_within i.fields g.val
  unfold Ins.fields fieldsOf at hw ⊢
  rw [taken_fields] at hw
  exact hw
/-- A right instruction's word is of its operation, and is decoded as that instruction. -/
theorem enc_dec (i : Ins) (h : i.isB = true) (hm : i.mask < 2 ^ 64) : i.word < 4294967296 ∧ opOf i.word = i.op ∧ decO i.word = some i := by
  have g := good_of i h hm
  obtain ⟨hne, hr⟩ := is_right i h
  have hsb := shapeI_bd i.op
  have h0 := g.op0
  have h1 := g.op1
  obtain ⟨k, hk⟩ : ∃ k : Nat, i.op = (k : Int) := ⟨i.op.toNat, by omega⟩
  have hop : opOf i.word = i.op := by
    rw [hk]; exact op_at _ k (by omega) (by omega) (match_word i g k hk)
  have hlt : i.word < 4294967296 := by
    have a := (base_cast i.op (by omega) g.op1).2
    have b := word_lt i.fields fun f hf => ⟨g.right f hf, g.val f hf⟩
    exact Nat.or_lt_two_pow (n := 32) a b
  have hb := List.all_eq_true.1 base_free k (List.mem_range.2 (by omega))
  rw [beq_iff_eq, ← hk] at hb
  have hget : ∀ p, p ∈ partsL (shapeI i.op) → p.get i.word = i.val p.sel := by
    intro p hp
    refine get_fd p _ _ (g.fit p hp).2 ?_
    refine field_word _ _ g.disj g.val ?_ _ (List.mem_map_of_mem hp)
    unfold Ins.fields fieldsOf
    rw [taken_fields]
    exact hb
  refine ⟨hlt, hop, ?_⟩
  obtain ⟨ds, e1, e2⟩ := back_any i.op i.d i.n i.m i.a i.imm i.mask i.shift i.amount i.cond _ hsb.1 hsb.2 hne hr hm i.word hget
  unfold decO
  rw [hop, e1]
  dsimp only
  have e3 : ds.i = i := e2
  rw [e3, if_pos h]
/-- Two right instructions of one word are one. -/
theorem enc_inj (i j : Ins) (hi : i.isB = true) (hj : j.isB = true) (mi : i.mask < 2 ^ 64) (mj : j.mask < 2 ^ 64) (h : i.word = j.word) : i = j := by
  have a := (enc_dec i hi mi).2.2
  have b := (enc_dec j hj mj).2.2
  rw [h, b] at a
  exact (Option.some.inj a).symm
end Go.Proofs.YtdjdbgilimjagaaDoor
