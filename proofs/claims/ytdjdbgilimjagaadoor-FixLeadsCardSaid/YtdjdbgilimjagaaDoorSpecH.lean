/- Layer 26 of the program as plain functions, and its plain laws. No condition. -/
import Derived.Test.YtdjdbgilimjagaaDoorSpecF
set_option linter.unusedVariables false
set_option linter.unusedSimpArgs false
namespace Go.Proofs.YtdjdbgilimjagaaDoor
open Go.RowKit

/-- How far it is from one place to another. -/
def farI (f t : Nat) : Int := wrap64 ((t : Int) - (f : Int))
def pageN (f : Nat) : Nat := f - f % 4096
/-- A kind's value, before it is held against its bounds. -/
def valK (kind : Int) (f t : Nat) : Int :=
  if kind = 6 then (farI (pageN f) (pageN t)).tdiv 4096 else if 7 ≤ kind then ((t % 4096 : Nat) : Int) else farI f t
def leastK (kind : Int) : Int := if kind = 2 then -134217728 else if kind ≤ 6 then -1048576 else 0
def mostK (kind : Int) : Int := if kind = 2 then 134217724 else if kind ≤ 4 then 1048572 else if kind ≤ 6 then 1048575 else 4096
def byK (kind : Int) : Int := if kind ≤ 4 then 4 else if kind = 8 then 8 else 1
/-- What Value answers. -/
def valueM (kind : Int) (f t : Nat) : Nat × Int :=
  if kind < 1 ∨ 9 < kind then (0, 1)
  else if kind = 1 then (t, 0)
  else if (valK kind f t).tmod (byK kind) ≠ 0 then (0, 5)
  else if valK kind f t < leastK kind ∨ mostK kind < valK kind f t then (0, 4)
  else ((valK kind f t % 18446744073709551616).toNat, 0)
theorem far_bd (f t : Nat) : -9223372036854775808 ≤ farI f t ∧ farI f t ≤ 9223372036854775807 := by
  unfold farI wrap64; omega
theorem page_le (f : Nat) : pageN f ≤ f := Nat.sub_le _ _
theorem val_bd (kind : Int) (f t : Nat) : -9223372036854775808 ≤ valK kind f t ∧ valK kind f t ≤ 9223372036854775807 := by
  unfold valK
  have h1 := far_bd f t
  have h2 := far_bd (pageN f) (pageN t)
  by_cases h6 : kind = 6
  · rw [if_pos h6]
    generalize farI (pageN f) (pageN t) = z at *
    rcases Int.le_total 0 z with hz | hz
    · rw [Int.tdiv_eq_ediv_of_nonneg hz]; omega
    · obtain ⟨y, rfl⟩ : ∃ y, z = -y := ⟨-z, by omega⟩
      rw [Int.neg_tdiv, Int.tdiv_eq_ediv_of_nonneg (by omega)]; omega
  · rw [if_neg h6]
    by_cases h7 : 7 ≤ kind
    · rw [if_pos h7]; omega
    · rw [if_neg h7]; exact h1

/-! ### FixMoved -/
theorem far_moved (f t b : Nat) : farI ((f + b) % 18446744073709551616) ((t + b) % 18446744073709551616) = farI f t := by
  unfold farI wrap64; omega
theorem page_moved (f b : Nat) (hb : b % 4096 = 0) : pageN ((f + b) % 18446744073709551616) = (pageN f + b) % 18446744073709551616 := by
  unfold pageN; omega
theorem val_moved (kind : Int) (f t b : Nat) (h1 : kind ≤ 6) (hb : kind = 6 → b % 4096 = 0) :
    valK kind ((f + b) % 18446744073709551616) ((t + b) % 18446744073709551616) = valK kind f t := by
  unfold valK
  by_cases h6 : kind = 6
  · rw [if_pos h6, if_pos h6, page_moved f b (hb h6), page_moved t b (hb h6), far_moved]
  · rw [if_neg h6, if_neg h6, if_neg (by omega), if_neg (by omega), far_moved]
theorem value_moved (kind : Int) (f t b : Nat) (h0 : 2 ≤ kind) (h1 : kind ≤ 6) (hb : kind = 6 → b % 4096 = 0) :
    valueM kind ((f + b) % 18446744073709551616) ((t + b) % 18446744073709551616) = valueM kind f t := by
  unfold valueM
  rw [val_moved kind f t b h1 hb, if_neg (show ¬ kind = 1 by omega), if_neg (show ¬ kind = 1 by omega)]

/-! ### What may be relocated -/
def kindL : List Int := [0, 0, 0, 0, 7, 0, 0, 0, 0, 0, 0, 0, 0, 0, 0, 0, 0, 0, 0, 0, 0, 0, 8, 8, 9, 9, 4, 5, 6, 2, 2, 3, 3, 3, 0, 0, 0, 0, 0, 0]
def kindK (op : Int) : Int := kindL.getD op.toNat 0
/-- What Fits answers. -/
def fitsI (kind : Int) (i : Ins) : Bool := i.imm == 0 && (i.amount == 0 && (kind != 0 && kindK i.op == kind))
def fitsM (kind : Int) (x : Nat) : Bool :=
  match decO x with
  | some i => fitsI kind i
  | none => false
def Ins.setImm (i : Ins) (v : Int) : Ins := { i with imm := v }
/-- Of an operation that a kind may be of: its shape's steps are the kind's. -/
theorem kind_steps : (List.range 40).all (fun op => let k := kindK (op : Int); let s := shapeI (op : Int);
    decide (k < 2) || (decide (k ≤ 9) && decide (s ≠ 3) && decide (s_by s ≠ 0) && (if k ≤ 6 then decide (leastK k = s_least s) && decide (mostK k = s_most s) && decide (byK k = s_by s) else decide (s_least s = 0) && decide (4095 ≤ s_most s) && decide (byK k = s_by s)))) = true := by decide +kernel
theorem right_is (i : Ins) (h0 : shapeI i.op ≠ 0) (h : Right (shapeI i.op) i.d i.n i.m i.a i.imm i.mask i.shift i.amount i.cond) : i.isB = true := by
  unfold Ins.isB isI
  rw [if_neg h0]
  obtain ⟨⟨r1, r2, r3, r4⟩, ⟨n1, n2, ⟨n3, n4⟩, n5, n6⟩, k⟩ := h
  unfold regsB numsB maskOkB
  simp only [Bool.and_eq_true, decide_eq_true_eq]
  refine ⟨⟨⟨⟨⟨r1, r2⟩, r3⟩, r4⟩, ⟨⟨⟨⟨n1, n2⟩, n3⟩, n4⟩, n5⟩, n6⟩, ?_⟩
  by_cases h3 : shapeI i.op = 3
  · rw [if_pos h3] at k ⊢; simpa using k
  · rw [if_neg h3] at k ⊢; simpa using k
/-- A value that may be, put where none stands: right still. -/
theorem fits_right (kind : Int) (i : Ins) (v : Int) (hB : i.isB = true) (hf : fitsI kind i = true) (hk : 2 ≤ kind) (hm : v.tmod (byK kind) = 0) (h0 : leastK kind ≤ v) (h1 : v ≤ mostK kind) (h2 : 7 ≤ kind → v ≤ 4095) : (i.setImm v).isB = true := by
  obtain ⟨hne, hr⟩ := is_right i hB
  unfold fitsI at hf
  simp only [Bool.and_eq_true, beq_iff_eq, bne_iff_ne] at hf
  obtain ⟨hi, ha, h00, hkk⟩ := hf
  have ho := op_bd i.op hne
  have hs := List.all_eq_true.1 kind_steps i.op.toNat (List.mem_range.2 (by omega))
  rw [Int.toNat_of_nonneg (by omega)] at hs
  dsimp only at hs
  rw [hkk] at hs
  rw [Bool.or_eq_true, decide_eq_true_eq] at hs
  rcases hs with hs | hs
  · omega
  simp only [Bool.and_eq_true, decide_eq_true_eq] at hs
  obtain ⟨⟨⟨hk9, hs3⟩, hby⟩, hs⟩ := hs
  have hstep : stepB v (s_least (shapeI i.op)) (s_most (shapeI i.op)) (s_by (shapeI i.op)) = true := by
    unfold stepB
    rw [if_neg hby]
    simp only [Bool.and_eq_true, decide_eq_true_eq, beq_iff_eq]
    by_cases h6 : kind ≤ 6
    · rw [if_pos h6] at hs
      simp only [Bool.and_eq_true, decide_eq_true_eq] at hs
      rw [← hs.1.1, ← hs.1.2, ← hs.2]
      exact ⟨⟨h0, h1⟩, hm⟩
    · rw [if_neg h6] at hs
      simp only [Bool.and_eq_true, decide_eq_true_eq] at hs
      rw [← hs.2]
      have hl : leastK kind = 0 := by unfold leastK; rw [if_neg (by omega), if_neg h6]
      exact ⟨⟨by omega, by omega⟩, hm⟩
  refine right_is (i.setImm v) hne ?_
  obtain ⟨a, ⟨_, b⟩, c⟩ := hr
  exact ⟨a, ⟨hstep, b⟩, c⟩
theorem wrap_mod (v : Int) (h0 : -9223372036854775808 ≤ v) (h1 : v ≤ 9223372036854775807) : wrap64 (((v % 18446744073709551616).toNat : Nat) : Int) = v := by
  unfold wrap64; omega
/-- A word that may be relocated, and a value that may be: the word with it. -/
theorem fix_word (kind : Int) (x f t : Nat) (hx : x < 4294967296) (hk : 2 ≤ kind) (hf : fitsM kind x = true) (hv : (valueM kind f t).2 = 0) :
    ∃ i, decO x = some i ∧ fitsI kind i = true ∧ i.imm = 0 ∧ (i.setImm (valK kind f t)).isB = true ∧ wrap64 ((valueM kind f t).1 : Nat) = valK kind f t := by
  unfold fitsM at hf
  cases hd : decO x with
  | none => rw [hd] at hf; cases hf
  | some i =>
    rw [hd] at hf
    have hB := (dec_word x hx i hd).1
    have hvb := val_bd kind f t
    have h7 : 7 ≤ kind → valK kind f t ≤ 4095 := fun h => by
      unfold valK; rw [if_neg (by omega), if_pos h]; omega
    unfold valueM at hv ⊢
    by_cases hg : kind < 1 ∨ 9 < kind
    · rw [if_pos hg] at hv; cases hv
    rw [if_neg hg] at hv ⊢
    rw [if_neg (by omega)] at hv ⊢
    by_cases hm : (valK kind f t).tmod (byK kind) ≠ 0
    · rw [if_pos hm] at hv; cases hv
    rw [if_neg hm] at hv ⊢
    by_cases hr : valK kind f t < leastK kind ∨ mostK kind < valK kind f t
    · rw [if_pos hr] at hv; cases hv
    rw [if_neg hr]
    refine ⟨i, rfl, hf, ?_, fits_right kind i _ hB hf hk (Decidable.not_not.1 hm) (by omega) (by omega) h7, wrap_mod _ hvb.1 hvb.2⟩
    unfold fitsI at hf
    simp only [Bool.and_eq_true, beq_iff_eq] at hf
    exact hf.1

/-! ### Bytes -/
/-- The number of bytes, the lowest one first. -/
def numL : List UInt8 → Nat
  | [] => 0
  | b :: l => b.toNat + 256 * numL l
def bytesL (v : Nat) : Nat → List UInt8
  | 0 => []
  | n + 1 => UInt8.ofNat (v % 256) :: bytesL (v / 256) n
theorem bytes_len (v n : Nat) : (bytesL v n).length = n := by
  induction n generalizing v with
  | zero => rfl
  | succ n ih => simp [bytesL, ih]
theorem num_bytes (v n : Nat) : numL (bytesL v n) = v % 256 ^ n := by
  induction n generalizing v with
  | zero => simp [bytesL, numL, Nat.mod_one]
  | succ n ih =>
    unfold bytesL numL
    rw [ih, Nat.pow_succ', Nat.mod_mul]
    have : (UInt8.ofNat (v % 256)).toNat = v % 256 := by simp
    rw [this]
theorem num_lt (l : List UInt8) : numL l < 256 ^ l.length := by
  induction l with
  | nil => decide
  | cons b l ih =>
    have := b.toNat_lt
    simp only [numL, List.length_cons, Nat.pow_succ']
    omega
theorem num_snoc (l : List UInt8) (b : UInt8) : numL (l ++ [b]) = numL l + b.toNat * 256 ^ l.length := by
  induction l with
  | nil => simp [numL]
  | cons c l ih =>
    simp only [List.cons_append, numL, ih, List.length_cons, Nat.pow_succ', Nat.mul_add]
    rw [Nat.mul_left_comm, Nat.add_assoc]
theorem bytes_at (v n j : Nat) (h : j < n) : (bytesL v n)[j]? = some (UInt8.ofNat (v / 256 ^ j % 256)) := by
  induction n generalizing v j with
  | zero => omega
  | succ n ih =>
    cases j with
    | zero => simp [bytesL]
    | succ j =>
      rw [bytesL, List.getElem?_cons_succ, ih (v / 256) j (by omega), Nat.div_div_eq_div_mul, ← Nat.pow_succ']
end Go.Proofs.YtdjdbgilimjagaaDoor
