/- Plain laws of words and fields: what is laid in a field is read there; a word is its base and its fields. No condition. -/
import Derived.Test.YtdjdbgilimjagaaDoorSpecC
set_option linter.unusedVariables false
set_option linter.unusedSimpArgs false
namespace Go.Proofs.YtdjdbgilimjagaaDoor

/-- All ones of a number are ones of another. -/
def within (a b : Nat) : Prop := ∀ i, a.testBit i = true → b.testBit i = true
theorem within_or {a b t : Nat} (h : within a t) (k : within b t) : within (a ||| b) t := fun i hi => by
  rw [Nat.testBit_or, Bool.or_eq_true] at hi
  exact hi.elim (h i) (k i)
theorem within_left (a b : Nat) : within a (a ||| b) := fun i hi => by rw [Nat.testBit_or, hi, Bool.true_or]
theorem within_right (a b : Nat) : within b (a ||| b) := fun i hi => by rw [Nat.testBit_or, hi, Bool.or_true]
theorem within_trans {a b c : Nat} (h : within a b) (k : within b c) : within a c := fun i hi => k i (h i hi)
theorem within_refl (a : Nat) : within a a := fun _ h => h
theorem and_zero_within {a b t : Nat} (h : within a t) (k : t &&& b = 0) : a &&& b = 0 := by
  apply Nat.eq_of_testBit_eq
  intro i
  have hk := congrArg (fun x => x.testBit i) k
  simp only [Nat.testBit_and, Nat.zero_testBit] at hk ⊢
  cases ha : a.testBit i
  · rfl
  · rw [h i ha] at hk; exact hk
theorem and_within {a b : Nat} (h : within a b) : a &&& b = a := by
  apply Nat.eq_of_testBit_eq
  intro i
  rw [Nat.testBit_and]
  cases ha : a.testBit i
  · rfl
  · rw [h i ha]; rfl

theorem mask_bit (f : FD) (i : Nat) : f.mask.testBit i = (decide (i ≥ f.pos) && decide (i - f.pos < f.n)) := by
  unfold FD.mask
  rw [Nat.testBit_mul_two_pow, Nat.testBit_two_pow_sub_one]
/-- A field, as ones of the word. -/
theorem and_mask (x : Nat) (f : FD) : x &&& f.mask = fieldN x f.pos f.n * 2 ^ f.pos := by
  apply Nat.eq_of_testBit_eq
  intro i
  unfold fieldN
  rw [Nat.testBit_and, mask_bit, Nat.testBit_mul_two_pow, Nat.testBit_mod_two_pow, Nat.testBit_div_two_pow]
  by_cases h : f.pos ≤ i
  · simp [h, Bool.and_comm]
  · simp [h]
theorem val_within (f : FD) (hv : f.val < 2 ^ f.n) : within (f.val * 2 ^ f.pos) f.mask := by
  intro i hi
  rw [Nat.testBit_mul_two_pow, Bool.and_eq_true, decide_eq_true_eq] at hi
  rw [mask_bit, Bool.and_eq_true, decide_eq_true_eq, decide_eq_true_eq]
  refine ⟨hi.1, ?_⟩
  by_cases h : i - f.pos < f.n
  · exact h
  · have := Nat.testBit_lt_two_pow (i := i - f.pos) (Nat.lt_of_lt_of_le hv (Nat.pow_le_pow_right (by decide) (by omega)))
    rw [hi.2] at this; cases this

theorem taken_fold (x : Nat) : ∀ (l : List FD) (t : Nat), (l.map fun f => (⟨f.pos, f.n, fieldN x f.pos f.n⟩ : FD)).foldl (fun t f => t ||| f.val * 2 ^ f.pos) (x &&& t) = x &&& l.foldl (fun t f => t ||| f.mask) t := by
  intro l
  induction l with
  | nil => intro t; rfl
  | cons f l ih =>
    intro t
    rw [List.map_cons, List.foldl_cons, List.foldl_cons, ← and_mask x f, ← Nat.and_or_distrib_left]
    exact ih _
/-- The word of a word's own fields: its ones there. -/
theorem word_fields (x : Nat) (l : List FD) : wordN (l.map fun f => (⟨f.pos, f.n, fieldN x f.pos f.n⟩ : FD)) = x &&& takenN l := by
  have h := taken_fold x l 0
  rw [Nat.and_zero] at h
  exact h

theorem mask_taken (l : List FD) (f : FD) (hf : f ∈ l) : within f.mask (takenN l) := by
  have : ∀ (l : List FD) (t : Nat), (f ∈ l ∨ within f.mask t) → within f.mask (l.foldl (fun t f => t ||| f.mask) t) := by
    intro l
    induction l with
    | nil => intro t h; exact h.elim (fun h => by cases h) id
    | cons g l ih =>
      intro t h
      apply ih
      rcases h with h | h
      · rcases List.mem_cons.1 h with rfl | h
        · exact .inr (within_right _ _)
        · exact .inl h
      · exact .inr (within_trans h (within_left _ _))
  exact this l 0 (.inl hf)
theorem word_within (l : List FD) (hv : ∀ f, f ∈ l → f.val < 2 ^ f.n) : within (wordN l) (takenN l) := by
  have : ∀ (l : List FD) (w t : Nat), within w t → (∀ f, f ∈ l → f.val < 2 ^ f.n) → within (l.foldl (fun t f => t ||| f.val * 2 ^ f.pos) w) (l.foldl (fun t f => t ||| f.mask) t) := by
    intro l
    induction l with
    | nil => intro w t h _; exact h
    | cons g l ih =>
      intro w t h hv
      apply ih
      · exact within_or (within_trans h (within_left _ _)) (within_trans (val_within g (hv g (by simp))) (within_right _ _))
      · exact fun f hf => hv f (by simp [hf])
  exact this l 0 0 (within_refl 0) hv
theorem rest_keeps : ∀ (l : List FD) (t w m : Nat), disj t l = true → (∀ f, f ∈ l → f.val < 2 ^ f.n) → within m t → l.foldl (fun t f => t ||| f.val * 2 ^ f.pos) w &&& m = w &&& m := by
  intro l
  induction l with
  | nil => intro t w m _ _ _; rfl
  | cons g l ih =>
    intro t w m hd hv hm
    simp only [disj, Bool.and_eq_true, beq_iff_eq] at hd
    rw [List.foldl_cons, ih (t ||| g.mask) _ m hd.2 (fun f hf => hv f (by simp [hf])) (within_trans hm (within_left _ _))]
    rw [Nat.and_or_distrib_right]
    have h0 : g.val * 2 ^ g.pos &&& m = 0 := and_zero_within (val_within g (hv g (by simp))) (by rw [Nat.and_comm]; exact and_zero_within hm hd.1)
    rw [h0, Nat.or_zero]
theorem word_mask (fs : List FD) (hd : disj 0 fs = true) (hv : ∀ f, f ∈ fs → f.val < 2 ^ f.n) (f : FD) (hf : f ∈ fs) : wordN fs &&& f.mask = f.val * 2 ^ f.pos := by
  have : ∀ (l : List FD) (t w : Nat), disj t l = true → (∀ f, f ∈ l → f.val < 2 ^ f.n) → within w t → f ∈ l → l.foldl (fun t f => t ||| f.val * 2 ^ f.pos) w &&& f.mask = f.val * 2 ^ f.pos := by
    intro l
    induction l with
    | nil => intro t w _ _ _ h; cases h
    | cons g l ih =>
      intro t w hd hv hw h
      have hd' := hd
      simp only [disj, Bool.and_eq_true, beq_iff_eq] at hd
      rcases List.mem_cons.1 h with rfl | h
      · rw [List.foldl_cons, rest_keeps l (t ||| f.mask) _ f.mask hd.2 (fun f hf => hv f (by simp [hf])) (within_right _ _), Nat.and_or_distrib_right]
        rw [and_zero_within hw hd.1, Nat.zero_or]
        exact and_within (val_within f (hv f (by simp)))
      · exact ih (t ||| g.mask) _ hd.2 (fun f hf => hv f (by simp [hf])) (within_or (within_trans hw (within_left _ _)) (within_trans (val_within g (hv g (by simp))) (within_right _ _))) h
  exact this fs 0 0 hd hv (within_refl 0) hf
/-- What is laid in a field is read there. -/
theorem field_word (b : Nat) (fs : List FD) (hd : disj 0 fs = true) (hv : ∀ f, f ∈ fs → f.val < 2 ^ f.n) (hb : takenN fs &&& b = 0) (f : FD) (hf : f ∈ fs) : fieldN (b ||| wordN fs) f.pos f.n = f.val := by
  have h := and_mask (b ||| wordN fs) f
  rw [Nat.and_or_distrib_right, word_mask fs hd hv f hf, Nat.and_comm b, and_zero_within (mask_taken fs f hf) hb, Nat.zero_or] at h
  exact (Nat.eq_of_mul_eq_mul_right (Nat.pow_pos (by decide)) h).symm

theorem compl_bit (t : Nat) (ht : t < 4294967296) (i : Nat) : (4294967295 - t).testBit i = (decide (i < 32) && !t.testBit i) := by
  have h := Nat.testBit_two_pow_sub_succ (x := t) (n := 32) ht i
  rw [show (2 : Nat) ^ 32 - (t + 1) = 4294967295 - t from by omega] at h
  exact h
/-- A word is its ones there, and those elsewhere. -/
theorem word_parts (x t : Nat) (hx : x < 4294967296) (ht : t < 4294967296) : (x &&& (4294967295 - t)) ||| (x &&& t) = x := by
  apply Nat.eq_of_testBit_eq
  intro i
  rw [Nat.testBit_or, Nat.testBit_and, Nat.testBit_and, compl_bit t ht]
  by_cases hi : i < 32
  · simp [hi]; cases x.testBit i <;> cases t.testBit i <;> rfl
  · have : x.testBit i = false := Nat.testBit_lt_two_pow (Nat.lt_of_lt_of_le hx (Nat.pow_le_pow_right (n := 2) (by decide) (i := 32) (by omega)))
    simp [this]
/-- A base that is free of the fields, and fields: the rest of it is the base. -/
theorem rest_base (b w t : Nat) (hb : b < 4294967296) (ht : t < 4294967296) (hf : t &&& b = 0) (hw : within w t) : (b ||| w) &&& (4294967295 - t) = b := by
  apply Nat.eq_of_testBit_eq
  intro i
  rw [Nat.testBit_and, Nat.testBit_or, compl_bit t ht]
  have h1 := congrArg (fun x => x.testBit i) hf
  simp only [Nat.testBit_and, Nat.zero_testBit] at h1
  have h2 := hw i
  by_cases hi : i < 32
  · simp only [hi, decide_true, Bool.true_and]
    cases hbb : b.testBit i <;> cases hww : w.testBit i <;> cases htt : t.testBit i <;> simp_all
  · have : b.testBit i = false := Nat.testBit_lt_two_pow (Nat.lt_of_lt_of_le hb (Nat.pow_le_pow_right (n := 2) (by decide) (i := 32) (by omega)))
    simp [this, hi]
end Go.Proofs.YtdjdbgilimjagaaDoor
