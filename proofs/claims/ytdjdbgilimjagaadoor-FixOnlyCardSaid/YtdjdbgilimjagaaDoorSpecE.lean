/- Plain laws: what a word is decoded as has that word. No condition. -/
import Derived.Test.YtdjdbgilimjagaaDoorSpecD
set_option linter.unusedVariables false
set_option linter.unusedSimpArgs false
namespace Go.Proofs.YtdjdbgilimjagaaDoor
open Go.RowKit

theorem field_lt (x a n : Nat) : fieldN x a n < 2 ^ n := Nat.mod_lt _ (pow_pos2 n)
theorem fd_get (p : PS) (x : Nat) (v : Int) (hv : v = p.get x) : p.fd v = ⟨p.pos.toNat, p.n.toNat, fieldN x p.pos.toNat p.n.toNat⟩ := by
  subst hv
  unfold PS.fd PS.get
  have hl := field_lt x p.pos.toNat p.n.toNat
  cases p.sign with
  | true => simp only [if_true]; rw [signed_mod _ _ hl]
  | false => simp only [Bool.false_eq_true, if_false]; rw [Int.toNat_natCast]
theorem get_bd (p : PS) (x : Nat) (h1 : 1 ≤ p.n) (h2 : p.n ≤ 26) : -1000000000 ≤ p.get x ∧ p.get x ≤ 1000000000 := by
  unfold PS.get
  have hl := field_lt x p.pos.toNat p.n.toNat
  have hp : (2 : Nat) ^ p.n.toNat ≤ 2 ^ 26 := Nat.pow_le_pow_right (by decide) (by omega)
  have hq : (2 : Nat) ^ (p.n.toNat - 1) ≤ 2 ^ 26 := Nat.pow_le_pow_right (by decide) (by omega)
  cases p.sign with
  | true => simp only [if_true]; have := signed_bd _ _ (by omega) hl; omega
  | false => simp only [Bool.false_eq_true, if_false]; omega
theorem get_nat (pos n : Int) (sel : Sel) (x : Nat) : PS.get ⟨pos, n, false, sel⟩ x = ((fieldN x pos.toNat n.toNat : Nat) : Int) := rfl

theorem dec_key (x : Nat) (op s : Int) (ds : DS) (h0 : 0 ≤ s) (h1 : s ≤ 16) (h : decFold x (partsL s) (some (DS.start op)) = some ds) :
    ds.i.op = op ∧ ∀ p, p ∈ partsL s → ds.i.val p.sel = p.get x := by
  have hb := fun p hp => part_ok h0 h1 (p := p) hp
  have hg : ∀ p, p ∈ partsL s → -1000000000 ≤ p.get x ∧ p.get x ≤ 1000000000 := fun p hp => get_bd p x (hb p hp).2.1 (hb p hp).2.2.1
  clear hb
  rcases (show s = 0 ∨ s = 1 ∨ s = 2 ∨ s = 3 ∨ s = 4 ∨ s = 5 ∨ s = 6 ∨ s = 7 ∨ s = 8 ∨ s = 9 ∨ s = 10 ∨ s = 11 ∨ s = 12 ∨ s = 13 ∨ s = 14 ∨ s = 15 ∨ s = 16 from by omega) with rfl | rfl | rfl | rfl | rfl | rfl | rfl | rfl | rfl | rfl | rfl | rfl | rfl | rfl | rfl | rfl | rfl
  case inr.inr.inr.inl =>
    simp only [partsL, decFold, List.foldl, decStep, Option.bind, DS.put, DS.start, Int.reduceEq, if_false, if_true] at h hg ⊢
    obtain ⟨v0, e0⟩ : ∃ v, PS.get ⟨22, 1, false, .mk 0⟩ x = v := ⟨_, rfl⟩
    obtain ⟨v1, e1⟩ : ∃ v, PS.get ⟨16, 6, false, .mk 1⟩ x = v := ⟨_, rfl⟩
    obtain ⟨v2, e2⟩ : ∃ v, PS.get ⟨10, 6, false, .mk 2⟩ x = v := ⟨_, rfl⟩
    have b0 : 0 ≤ v0 ∧ v0 < 2 := by rw [← e0, get_nat]; have : fieldN x (22 : Int).toNat (1 : Int).toNat < 2 ^ 1 := field_lt _ _ _; omega
    have b1 : 0 ≤ v1 ∧ v1 < 64 := by rw [← e1, get_nat]; have : fieldN x (16 : Int).toNat (6 : Int).toNat < 2 ^ 6 := field_lt _ _ _; omega
    have b2 : 0 ≤ v2 ∧ v2 < 64 := by rw [← e2, get_nat]; have : fieldN x (10 : Int).toNat (6 : Int).toNat < 2 ^ 6 := field_lt _ _ _; omega
    rw [e0, e1, e2] at h
    by_cases hm : (decM v0 v1 v2).2 = 0
    · have ht := told_dec v0 v1 v2 (by omega) b1.1 b1.2 b2.1 b2.2 hm
      rw [if_pos hm] at h
      simp only [Option.some.injEq] at h
      subst h
      refine ⟨rfl, fun p hp => ?_⟩
      simp only [List.mem_cons, List.not_mem_nil, or_false] at hp
      rcases hp with rfl | rfl | rfl | rfl | rfl
      · rw [e0]; show toldK _ 0 = _; unfold toldK; rw [if_pos rfl, ht]
      · rw [e1]; show toldK _ 1 = _; unfold toldK; rw [if_neg (by decide), if_pos rfl, ht]
      · rw [e2]; show toldK _ 2 = _; unfold toldK; rw [if_neg (by decide), if_neg (by decide), ht]
      · rfl
      · rfl
    · rw [if_neg hm] at h
      simp at h
  case inr.inr.inr.inr.inr.inr.inr.inr.inr.inr.inl =>
    simp only [partsL, decFold, List.foldl, decStep, Option.bind, DS.put, DS.start, Int.reduceEq, if_false, if_true, Option.some.injEq] at h hg ⊢
    subst h
    have g1 := hg ⟨5, 19, true, .high⟩ (by simp)
    obtain ⟨v0, e0⟩ : ∃ v, PS.get ⟨29, 2, false, .low⟩ x = v := ⟨_, rfl⟩
    have b0 : 0 ≤ v0 ∧ v0 < 4 := by rw [← e0, get_nat]; have : fieldN x (29 : Int).toNat (2 : Int).toNat < 2 ^ 2 := field_lt _ _ _; omega
    rw [e0]
    have ho := or_low v0 _ b0.1 b0.2 g1.1 g1.2
    refine ⟨rfl, fun p hp => ?_⟩
    simp only [List.mem_cons, List.not_mem_nil, or_false] at hp
    rcases hp with rfl | rfl | rfl
    · rw [e0]; show bits .or .i64 v0 _ % 4 = v0; rw [ho]; omega
    · show bits .or .i64 v0 _ / 4 = _; rw [ho]; omega
    · rfl
  all_goals
    simp only [partsL, decFold, List.foldl, decStep, Option.bind, DS.put, DS.start, Int.reduceEq, if_false, if_true, Option.some.injEq] at h hg ⊢
    subst h
    refine ⟨rfl, fun p hp => ?_⟩
    have g := hg p hp
    first
      | exact (List.not_mem_nil hp).elim
      | (simp only [List.mem_cons, List.not_mem_nil, or_false] at hp
         first
           | (rcases hp with rfl | rfl | rfl | rfl | rfl <;> first | rfl | exact wrap_div _ _ (by decide) (by decide) g.1 g.2)
           | (rcases hp with rfl | rfl | rfl | rfl <;> first | rfl | exact wrap_div _ _ (by decide) (by decide) g.1 g.2)
           | (rcases hp with rfl | rfl | rfl <;> first | rfl | exact wrap_div _ _ (by decide) (by decide) g.1 g.2)
           | (rcases hp with rfl | rfl <;> first | rfl | exact wrap_div _ _ (by decide) (by decide) g.1 g.2)
           | (subst hp; first | rfl | exact wrap_div _ _ (by decide) (by decide) g.1 g.2))

theorem op_spec (x : Nat) : (opOf x = 0 ∧ ∀ j : Nat, j < 40 → matchB (x : Int) (j : Int) = false) ∨ ∃ k : Nat, 1 ≤ k ∧ k ≤ 39 ∧ opOf x = (k : Int) ∧ matchB (x : Int) (k : Int) = true := by
  unfold opOf
  cases hf : (List.range 40).find? (fun k : Nat => matchB (x : Int) (k : Int)) with
  | none =>
    left
    refine ⟨rfl, fun j hj => ?_⟩
    rw [List.find?_range_eq_none] at hf
    have := hf j hj
    simpa using this
  | some k =>
    right
    rw [List.find?_range_eq_some] at hf
    obtain ⟨h1, h2, _⟩ := hf
    refine ⟨k, ?_, ?_, rfl, h1⟩
    · unfold matchB at h1
      rw [Bool.and_eq_true] at h1
      have := of_decide_eq_true h1.1
      omega
    · have := List.mem_range.1 h2; omega
theorem word_ones (s : Int) (h0 : 0 ≤ s) (h1 : s ≤ 16) : wordN (onesOf s) = takenN (onesOf s) := by
  have h : (List.range 17).all (fun s => wordN (onesOf (s : Int)) == takenN (onesOf (s : Int))) = true := by decide +kernel
  have h := List.all_eq_true.1 h s.toNat (List.mem_range.2 (by omega))
  rw [Int.toNat_of_nonneg h0, beq_iff_eq] at h
  exact h
theorem taken_of_masks : ∀ (l k : List FD) (t : Nat), l.map FD.mask = k.map FD.mask → l.foldl (fun t f => t ||| f.mask) t = k.foldl (fun t f => t ||| f.mask) t := by
  intro l
  induction l with
  | nil => intro k t h; cases k with | nil => rfl | cons _ _ => cases h
  | cons f l ih =>
    intro k t h
    cases k with
    | nil => cases h
    | cons g k =>
      simp only [List.map_cons, List.cons.injEq] at h
      rw [List.foldl_cons, List.foldl_cons, h.1]
      exact ih k _ h.2
theorem disj_of_masks : ∀ (l k : List FD) (t : Nat), l.map FD.mask = k.map FD.mask → disj t l = disj t k := by
  intro l
  induction l with
  | nil => intro k t h; cases k with | nil => rfl | cons _ _ => cases h
  | cons f l ih =>
    intro k t h
    cases k with
    | nil => cases h
    | cons g k =>
      simp only [List.map_cons, List.cons.injEq] at h
      unfold disj
      rw [h.1, ih k _ h.2]
theorem masks_ones (L : List PS) (f : PS → Int) : (L.map fun p => p.fd (f p)).map FD.mask = (L.map PS.ones).map FD.mask := by
  rw [List.map_map, List.map_map]; rfl
theorem taken_fields (L : List PS) (f : PS → Int) : takenN (L.map fun p => p.fd (f p)) = takenN (L.map PS.ones) := taken_of_masks _ _ 0 (masks_ones L f)
theorem disj_fields (L : List PS) (f : PS → Int) : disj 0 (L.map fun p => p.fd (f p)) = disj 0 (L.map PS.ones) := disj_of_masks _ _ 0 (masks_ones L f)
theorem ones_lt (s : Int) (h0 : 0 ≤ s) (h1 : s ≤ 16) : takenN (onesOf s) < 4294967296 := taken_lt _ (ones_right s h0 h1)
theorem base_cast (op : Int) (h0 : 0 ≤ op) (h1 : op ≤ 39) : baseL.getD op.toNat 0 = (baseN op : Int) ∧ baseN op < 4294967296 := by
  obtain ⟨bs, h, hl⟩ := base_ok op.toNat (by omega)
  unfold baseN
  rw [h, Int.toNat_natCast]
  exact ⟨rfl, hl⟩
theorem match_iff (x op : Nat) (h0 : 1 ≤ op) (h1 : op ≤ 39) : matchB (x : Int) (op : Int) = decide (x &&& (4294967295 - takenN (onesOf (shapeI op))) = baseN op) := by
  have hb := (base_cast op (by omega) (by omega)).1
  have hs := shapeI_bd (op : Int)
  unfold matchB
  rw [hb, word_ones _ hs.1 hs.2, Int.toNat_natCast, decide_eq_true (show (1 : Int) ≤ op by omega), Bool.true_and, Bool.eq_iff_iff, beq_iff_eq, decide_eq_true_eq]
  omega
/-- What a word is decoded as is right, of the word's operation, and has that word. -/
theorem dec_word (x : Nat) (hx : x < 4294967296) (i : Ins) (h : decO x = some i) : i.isB = true ∧ i.op = opOf x ∧ i.word = x ∧ 1 ≤ opOf x ∧ opOf x ≤ 39 := by
  unfold decO at h
  have hsb := shapeI_bd (opOf x)
  cases hf : decFold x (partsL (shapeI (opOf x))) (some (DS.start (opOf x))) with
  | none => rw [hf] at h; cases h
  | some ds =>
    rw [hf] at h
    dsimp only at h
    by_cases hi : ds.i.isB = true
    · rw [if_pos hi, Option.some.injEq] at h
      subst h
      obtain ⟨hop, hkey⟩ := dec_key x _ _ ds hsb.1 hsb.2 hf
      rcases op_spec x with ⟨h0, _⟩ | ⟨k, hk1, hk2, hk, hm⟩
      · exfalso
        unfold Ins.isB isI at hi
        rw [hop, h0] at hi
        rw [if_pos (by decide)] at hi; cases hi
      · refine ⟨hi, hop, ?_, by omega, by omega⟩
        rw [match_iff x k hk1 hk2, decide_eq_true_eq] at hm
        unfold Ins.word Ins.fields fieldsOf
        rw [hop]
        have e : ((partsL (shapeI (opOf x))).map fun p => p.fd (valOf ds.i.d ds.i.n ds.i.m ds.i.a ds.i.imm ds.i.mask ds.i.shift ds.i.amount ds.i.cond p.sel)) = (onesOf (shapeI (opOf x))).map fun f => (⟨f.pos, f.n, fieldN x f.pos f.n⟩ : FD) := by
          unfold onesOf
          rw [List.map_map]
          apply List.map_congr_left
          intro p hp
          exact fd_get p x _ (hkey p hp)
        rw [e, word_fields, hk, ← hm]
        exact word_parts x _ hx (ones_lt _ (shapeI_bd _).1 (shapeI_bd _).2)
    · rw [if_neg hi] at h; cases h
end Go.Proofs.YtdjdbgilimjagaaDoor
