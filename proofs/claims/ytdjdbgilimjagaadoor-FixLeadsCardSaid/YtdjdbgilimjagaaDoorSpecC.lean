/- Parts of instructions, fields of words, the operation of a word: plain functions, and what holds of all shapes. No condition. -/
import Derived.Test.YtdjdbgilimjagaaDoorSpecP
import Derived.Test.YtdjdbgilimjagaaDoorSpecW
set_option linter.unusedVariables false
set_option linter.unusedSimpArgs false
namespace Go.Proofs.YtdjdbgilimjagaaDoor

theorem shapeI_fin : ∀ k : Fin 40, 0 ≤ shapeL.getD k.val 0 ∧ shapeL.getD k.val 0 ≤ 16 := by decide
theorem shapeI_bd (op : Int) : 0 ≤ shapeI op ∧ shapeI op ≤ 16 := by
  unfold shapeI
  split
  · omega
  · exact shapeI_fin ⟨op.toNat, by omega⟩

def toldK (mask : Nat) (k : Int) : Int := if k = 0 then (toldN mask).1 else if k = 1 then (toldN mask).2.1 else (toldN mask).2.2
/-- What an instruction has for a part. -/
def valOf (d n m a imm : Int) (mask : Nat) (shift amount cond : Int) : Sel → Int
  | .d => d
  | .n => n
  | .m => m
  | .a => a
  | .shift => shift
  | .cond => cond
  | .low => imm % 4
  | .high => imm / 4
  | .imm g => imm.tdiv g
  | .amt g => amount.tdiv g
  | .mk k => toldK mask k
/-- The fields of a shape, all ones. -/
def PS.ones (p : PS) : FD := ⟨p.pos.toNat, p.n.toNat, 2 ^ p.n.toNat - 1⟩
def onesOf (s : Int) : List FD := (partsL s).map PS.ones
def matchB (x op : Int) : Bool := decide (1 ≤ op) && ((x.toNat &&& (4294967295 - wordN (onesOf (shapeI op))) : Nat) : Int) == baseL.getD op.toNat 0

/-- The field that a part makes of a number. -/
def PS.fd (p : PS) (v : Int) : FD := ⟨p.pos.toNat, p.n.toNat, if p.sign then (v % ((2 ^ p.n.toNat : Nat) : Int)).toNat else v.toNat⟩
/-- A number fits a part. -/
def PS.fits (p : PS) (v : Int) : Prop :=
  0 ≤ p.pos ∧ 1 ≤ p.n ∧ p.n ≤ 32 ∧ (if p.sign then v / 2 ^ (p.n.toNat - 1) = 0 ∨ v / 2 ^ (p.n.toNat - 1) = -1 else 0 ≤ v ∧ v < ((2 ^ p.n.toNat : Nat) : Int))
/-- What a part's kind asks besides. -/
def Sel.asks (sign : Bool) (imm amount : Int) (mask : Nat) : Sel → Prop
  | .imm g => 1 ≤ g ∧ g ≤ 16 ∧ -1000000000 ≤ imm ∧ imm ≤ 1000000000
  | .amt g => sign = false ∧ 1 ≤ g ∧ g ≤ 16 ∧ -1000000000 ≤ amount ∧ amount ≤ 1000000000
  | .mk k => sign = false ∧ isMask mask = true ∧ (k = 0 ∨ k = 1 ∨ k = 2)
  | .high => sign = true
  | _ => sign = false
/-- The fields of an instruction. -/
def fieldsOf (op d n m a imm : Int) (mask : Nat) (shift amount cond : Int) : List FD := (partsL (shapeI op)).map fun p => p.fd (valOf d n m a imm mask shift amount cond p.sel)
/-- All parts of an instruction fit. -/
def Fits (op d n m a imm : Int) (mask : Nat) (shift amount cond : Int) : Prop :=
  ∀ p, p ∈ partsL (shapeI op) → p.sel.asks p.sign imm amount mask ∧ p.fits (valOf d n m a imm mask shift amount cond p.sel)

/-- What all shapes' parts hold. -/
def shapeOkB (s : Int) : Bool :=
  ((partsL s).all fun p => decide (0 ≤ p.pos) && decide (1 ≤ p.n) && decide (p.n ≤ 26) && decide (p.pos + p.n ≤ 32)) && disj 0 (onesOf s)
theorem shapes_ok : (List.range 17).all (fun s => shapeOkB (s : Int)) = true := by decide +kernel
theorem shape_ok (s : Int) (h0 : 0 ≤ s) (h1 : s ≤ 16) : shapeOkB s = true := by
  have h := List.all_eq_true.1 shapes_ok s.toNat (List.mem_range.2 (by omega))
  rwa [Int.toNat_of_nonneg h0] at h
theorem part_ok {s : Int} (h0 : 0 ≤ s) (h1 : s ≤ 16) {p : PS} (hp : p ∈ partsL s) : 0 ≤ p.pos ∧ 1 ≤ p.n ∧ p.n ≤ 26 ∧ p.pos + p.n ≤ 32 := by
  have h := shape_ok s h0 h1
  unfold shapeOkB at h
  rw [Bool.and_eq_true] at h
  have := List.all_eq_true.1 h.1 p hp
  simp only [Bool.and_eq_true, decide_eq_true_eq] at this
  omega
theorem ones_disj (s : Int) (h0 : 0 ≤ s) (h1 : s ≤ 16) : disj 0 (onesOf s) = true := by
  have h := shape_ok s h0 h1
  unfold shapeOkB at h
  rw [Bool.and_eq_true] at h
  exact h.2
theorem ones_right (s : Int) (h0 : 0 ≤ s) (h1 : s ≤ 16) : ∀ f, f ∈ onesOf s → f.right := by
  intro f hf
  obtain ⟨p, hp, rfl⟩ := List.mem_map.1 hf
  have := part_ok h0 h1 hp
  unfold FD.right PS.ones
  dsimp only
  omega
theorem ones_val (s : Int) : ∀ f, f ∈ onesOf s → f.val < 2 ^ f.n := by
  intro f hf
  obtain ⟨p, hp, rfl⟩ := List.mem_map.1 hf
  have := pow_pos2 p.n.toNat
  unfold PS.ones
  dsimp only
  omega
theorem ones_len (s : Int) (h0 : 0 ≤ s) (h1 : s ≤ 16) : (onesOf s).length ≤ 1000 := by
  have h : (List.range 17).all (fun s => decide ((onesOf (s : Int)).length ≤ 1000)) = true := by decide +kernel
  have h := List.all_eq_true.1 h s.toNat (List.mem_range.2 (by omega))
  rw [Int.toNat_of_nonneg h0] at h
  exact of_decide_eq_true h
theorem base_ok (k : Nat) (h : k < 40) : ∃ bs : Nat, baseL.getD k 0 = (bs : Int) ∧ bs < 4294967296 := by
  have h2 : (List.range 40).all (fun k => decide (0 ≤ baseL.getD k 0) && decide (baseL.getD k 0 < 4294967296)) = true := by decide +kernel
  have h3 := List.all_eq_true.1 h2 k (List.mem_range.2 h)
  simp only [Bool.and_eq_true, decide_eq_true_eq] at h3
  exact ⟨(baseL.getD k 0).toNat, by omega, by omega⟩
/-- The operation that a word is of. -/
def opOf (x : Nat) : Int := (((List.range 40).find? fun k : Nat => matchB (x : Int) (k : Int)).getD 0 : Nat)
theorem opOf_at (x k : Nat) (hk : k < 40) (hm : matchB (x : Int) (k : Int) = true) (hn : ∀ j : Nat, j < k → matchB (x : Int) (j : Int) = false) : opOf x = (k : Int) := by
  unfold opOf
  have : (List.range 40).find? (fun k : Nat => matchB (x : Int) (k : Int)) = some k := by
    rw [List.find?_range_eq_some]
    exact ⟨hm, by simpa using hk, fun j hj => by simp [hn j hj]⟩
  rw [this]; rfl
theorem opOf_none (x : Nat) (hn : ∀ j : Nat, j < 40 → matchB (x : Int) (j : Int) = false) : opOf x = 0 := by
  unfold opOf
  have : (List.range 40).find? (fun k : Nat => matchB (x : Int) (k : Int)) = none := by
    rw [List.find?_range_eq_none]
    exact fun j hj => by simp [hn j hj]
  rw [this]; rfl

end Go.Proofs.YtdjdbgilimjagaaDoor
