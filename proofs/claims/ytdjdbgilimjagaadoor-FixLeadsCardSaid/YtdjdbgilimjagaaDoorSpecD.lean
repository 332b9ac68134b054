/- What a word is decoded as, as a plain function. No condition. -/
import Derived.Test.YtdjdbgilimjagaaDoorSpecM
import Derived.Test.YtdjdbgilimjagaaDoorSpecX
set_option linter.unusedVariables false
set_option linter.unusedSimpArgs false
namespace Go.Proofs.YtdjdbgilimjagaaDoor
open Go.RowKit

/-- An instruction. -/
structure Ins where
  op : Int
  d : Int
  n : Int
  m : Int
  a : Int
  imm : Int
  mask : Nat
  shift : Int
  amount : Int
  cond : Int
def Ins.isB (i : Ins) : Bool := isI i.op i.d i.n i.m i.a i.imm i.mask i.shift i.amount i.cond
def Ins.val (i : Ins) (s : Sel) : Int := valOf i.d i.n i.m i.a i.imm i.mask i.shift i.amount i.cond s
def Ins.fields (i : Ins) : List FD := fieldsOf i.op i.d i.n i.m i.a i.imm i.mask i.shift i.amount i.cond
def baseN (op : Int) : Nat := (baseL.getD op.toNat 0).toNat
/-- The word of an instruction. -/
def Ins.word (i : Ins) : Nat := baseN i.op ||| wordN i.fields
def Ins.zero : Ins := ⟨0, 0, 0, 0, 0, 0, 0, 0, 0, 0⟩
/-- An instruction that is made, and how its mask is told. -/
structure DS where
  i : Ins
  t0 : Int
  t1 : Int
  t2 : Int
def DS.start (op : Int) : DS := ⟨⟨op, 0, 0, 0, 0, 0, 0, 0, 0, 0⟩, 0, 0, 0⟩
def DS.put (s : DS) (v : Int) : Sel → Option DS
  | .d => some { s with i := { s.i with d := v } }
  | .n => some { s with i := { s.i with n := v } }
  | .m => some { s with i := { s.i with m := v } }
  | .a => some { s with i := { s.i with a := v } }
  | .shift => some { s with i := { s.i with shift := v } }
  | .cond => some { s with i := { s.i with cond := v } }
  | .low => some { s with i := { s.i with imm := v } }
  | .high => some { s with i := { s.i with imm := bits .or .i64 s.i.imm (wrap64 (v * 4)) } }
  | .imm g => some { s with i := { s.i with imm := wrap64 (g * v) } }
  | .amt g => some { s with i := { s.i with amount := wrap64 (g * v) } }
  | .mk k =>
    if k = 0 then some { s with t0 := v } else if k = 1 then some { s with t1 := v }
    else if (decM s.t0 s.t1 v).2 = 0 then some { s with i := { s.i with mask := (decM s.t0 s.t1 v).1 }, t2 := v } else none
/-- What is read of a word for a part. -/
def PS.get (p : PS) (x : Nat) : Int :=
  if p.sign then signedI (fieldN x p.pos.toNat p.n.toNat) p.n.toNat else ((fieldN x p.pos.toNat p.n.toNat : Nat) : Int)
def decStep (x : Nat) (o : Option DS) (p : PS) : Option DS := o.bind fun s => s.put (p.get x) p.sel
def decFold (x : Nat) (L : List PS) (o : Option DS) : Option DS := L.foldl (decStep x) o
/-- What a word is decoded as, if it is right. -/
def decO (x : Nat) : Option Ins :=
  match decFold x (partsL (shapeI (opOf x))) (some (DS.start (opOf x))) with
  | none => none
  | some s => if s.i.isB then some s.i else none

/-! ### Numbers -/
theorem wrap_small (z : Int) (h0 : -9223372036854775808 ≤ z) (h1 : z ≤ 9223372036854775807) : wrap64 z = z := by
  unfold wrap64; omega
theorem wrap_div (g v : Int) (hg : 1 ≤ g) (hg1 : g ≤ 16) (h0 : -1000000000 ≤ v) (h1 : v ≤ 1000000000) : (wrap64 (g * v)).tdiv g = v := by
  have h2 : -16000000000 ≤ g * v ∧ g * v ≤ 16000000000 := by
    rcases (show g = 1 ∨ g = 2 ∨ g = 3 ∨ g = 4 ∨ g = 5 ∨ g = 6 ∨ g = 7 ∨ g = 8 ∨ g = 9 ∨ g = 10 ∨ g = 11 ∨ g = 12 ∨ g = 13 ∨ g = 14 ∨ g = 15 ∨ g = 16 from by omega) with rfl | rfl | rfl | rfl | rfl | rfl | rfl | rfl | rfl | rfl | rfl | rfl | rfl | rfl | rfl | rfl <;> omega
  rw [wrap_small _ (by omega) (by omega)]
  exact Int.mul_tdiv_cancel_left v (by omega)
theorem signed_mod (u n : Nat) (hu : u < 2 ^ n) : (signedI u n % ((2 ^ n : Nat) : Int)).toNat = u := by
  unfold signedI
  have e : ((2 ^ n : Nat) : Int) = (2 : Int) ^ n := cast_pow n
  split
  · rw [Int.emod_eq_of_lt (by omega) (by omega)]; omega
  · rw [← e, Int.sub_emod_right, Int.emod_eq_of_lt (by omega) (by omega)]; omega
theorem signed_bd (u n : Nat) (hn : 1 ≤ n) (hu : u < 2 ^ n) : -((2 ^ (n - 1) : Nat) : Int) ≤ signedI u n ∧ signedI u n < ((2 ^ (n - 1) : Nat) : Int) := by
  unfold signedI
  have e : (2 : Nat) ^ n = 2 * 2 ^ (n - 1) := by rw [← Nat.pow_succ', Nat.succ_eq_add_one, Nat.sub_add_cancel hn]
  have e2 : ((2 ^ n : Nat) : Int) = (2 : Int) ^ n := cast_pow n
  rw [e] at hu e2
  rw [← e2]
  split <;> omega
theorem mod_signed (v : Int) (n : Nat) (hn : 1 ≤ n) (h : v / 2 ^ (n - 1) = 0 ∨ v / 2 ^ (n - 1) = -1) : signedI (v % ((2 ^ n : Nat) : Int)).toNat n = v := by
  unfold signedI
  have e : (2 : Nat) ^ n = 2 * 2 ^ (n - 1) := by rw [← Nat.pow_succ', Nat.succ_eq_add_one, Nat.sub_add_cancel hn]
  have e2 : ((2 ^ n : Nat) : Int) = (2 : Int) ^ n := cast_pow n
  have e3 : ((2 ^ (n - 1) : Nat) : Int) = (2 : Int) ^ (n - 1) := cast_pow (n - 1)
  have p1 : 0 < (2 : Nat) ^ (n - 1) := pow_pos2 _
  rw [← e2]
  rw [← e3] at h
  rw [e]
  generalize (2 : Nat) ^ (n - 1) = q at *
  have hd := Int.mul_ediv_add_emod v (q : Int)
  have hm0 := Int.emod_nonneg v (show (q : Int) ≠ 0 from by omega)
  have hm1 := Int.emod_lt_of_pos v (show 0 < (q : Int) from by omega)
  rcases h with h | h
  · rw [h, Int.mul_zero, Int.zero_add] at hd
    rw [Int.emod_eq_of_lt (by omega) (by omega)]
    rw [if_pos (by omega)]; omega
  · rw [h] at hd
    have : v % ((2 * q : Nat) : Int) = v + ((2 * q : Nat) : Int) := by
      rw [← Int.add_emod_right, Int.emod_eq_of_lt (by omega) (by omega)]
    rw [this, if_neg (by omega)]; omega
theorem or_low (a v : Int) (ha0 : 0 ≤ a) (ha1 : a < 4) (h0 : -1000000000 ≤ v) (h1 : v ≤ 1000000000) : bits .or .i64 a (wrap64 (v * 4)) = a + 4 * v := by
  rw [wrap_small _ (by omega) (by omega)]
  show IntKind.i64.wrap ((BitVec.ofInt 64 a ||| BitVec.ofInt 64 (v * 4)).toNat : Int) = _
  rw [BitVec.toNat_or, BitVec.toNat_ofInt, BitVec.toNat_ofInt]
  have e : (2 ^ 64 : Nat) = 18446744073709551616 := by decide
  rw [e]
  obtain ⟨A, rfl⟩ : ∃ A : Nat, a = (A : Int) := ⟨a.toNat, by omega⟩
  obtain ⟨q, hq⟩ : ∃ q : Nat, (v * 4 % (18446744073709551616 : Nat)).toNat = 4 * q := ⟨((v * 4 % (18446744073709551616 : Nat)).toNat) / 4, by omega⟩
  have h2 : ((A : Int) % (18446744073709551616 : Nat)).toNat = A := by omega
  rw [h2, hq, Nat.or_comm, show 4 * q = 2 ^ 2 * q from by omega, ← Nat.two_pow_add_eq_or_of_lt (by omega), IntKind.wrap_i64]
  omega
end Go.Proofs.YtdjdbgilimjagaaDoor
