/- Fields of a word, and the word that they make. No condition. -/
import Derived.WalkKit
set_option linter.unusedVariables false
set_option linter.unusedSimpArgs false
namespace Go.Proofs.YtdjdbgilimjagaaDoor

/-- A field: where it is, how many bits, its number. -/
structure FD where
  pos : Nat
  n : Nat
  val : Nat
def FD.mask (f : FD) : Nat := (2 ^ f.n - 1) * 2 ^ f.pos
def takenN (fs : List FD) : Nat := fs.foldl (fun t f => t ||| f.mask) 0
def wordN (fs : List FD) : Nat := fs.foldl (fun t f => t ||| f.val * 2 ^ f.pos) 0
def FD.right (f : FD) : Prop := 1 ≤ f.n ∧ f.pos + f.n ≤ 32
/-- Each field's bits are free of those of the ones ahead of it. -/
def disj : Nat → List FD → Bool
  | _, [] => true
  | t, f :: l => (t &&& f.mask == 0) && disj (t ||| f.mask) l

theorem takenN_snoc (fs : List FD) (f : FD) : takenN (fs ++ [f]) = takenN fs ||| f.mask := by simp [takenN]
theorem wordN_snoc (fs : List FD) (f : FD) : wordN (fs ++ [f]) = wordN fs ||| f.val * 2 ^ f.pos := by simp [wordN]
theorem mask_lt (f : FD) (h : f.right) : f.mask < 4294967296 := by
  unfold FD.mask
  have h1 : (2 : Nat) ^ f.n * 2 ^ f.pos ≤ 2 ^ 32 := by
    rw [← Nat.pow_add]; exact Nat.pow_le_pow_right (by decide) (by have := h.2; omega)
  have h2 : 0 < (2 : Nat) ^ f.pos := Nat.pow_pos (by decide)
  rw [Nat.sub_mul, Nat.one_mul]
  have h3 : 0 < (2 : Nat) ^ f.n * 2 ^ f.pos := Nat.mul_pos (Nat.pow_pos (by decide)) h2
  have : (2 : Nat) ^ 32 = 4294967296 := by decide
  omega
theorem val_le (f : FD) (hv : f.val < 2 ^ f.n) : f.val * 2 ^ f.pos ≤ f.mask := Nat.mul_le_mul_right _ (by omega)
theorem taken_lt (fs : List FD) (h : ∀ f, f ∈ fs → f.right) : takenN fs < 4294967296 := by
  have : ∀ (l : List FD) (t : Nat), t < 2 ^ 32 → (∀ f, f ∈ l → f.right) → l.foldl (fun t f => t ||| f.mask) t < 2 ^ 32 := by
    intro l
    induction l with
    | nil => intro t ht _; exact ht
    | cons f l ih => intro t ht hl; exact ih _ (Nat.or_lt_two_pow ht (mask_lt f (hl f (by simp)))) (fun g hg => hl g (by simp [hg]))
  exact this fs 0 (by decide) h
theorem word_lt (fs : List FD) (h : ∀ f, f ∈ fs → f.right ∧ f.val < 2 ^ f.n) : wordN fs < 4294967296 := by
  have : ∀ (l : List FD) (t : Nat), t < 2 ^ 32 → (∀ f, f ∈ l → f.right ∧ f.val < 2 ^ f.n) → l.foldl (fun t f => t ||| f.val * 2 ^ f.pos) t < 2 ^ 32 := by
    intro l
    induction l with
    | nil => intro t ht _; exact ht
    | cons f l ih => intro t ht hl; exact ih _ (Nat.or_lt_two_pow ht (Nat.lt_of_le_of_lt (val_le f (hl f (by simp)).2) (mask_lt f (hl f (by simp)).1))) (fun g hg => hl g (by simp [hg]))
  exact this fs 0 (by decide) h
theorem disj_at (fs : List FD) (h : disj 0 fs = true) (k : Nat) (f : FD) (hk : fs[k]? = some f) : takenN (fs.take k) &&& f.mask = 0 := by
  have : ∀ (l : List FD) (t : Nat) (k : Nat), disj t l = true → l[k]? = some f → (l.take k).foldl (fun t f => t ||| f.mask) t &&& f.mask = 0 := by
    intro l
    induction l with
    | nil => intro t k _ hk; simp at hk
    | cons g l ih =>
      intro t k hd hk
      simp only [disj, Bool.and_eq_true, beq_iff_eq] at hd
      cases k with
      | zero => simp at hk; subst hk; exact hd.1
      | succ k => exact ih _ k hd.2 (by simpa using hk)
  exact this fs 0 k h hk
end Go.Proofs.YtdjdbgilimjagaaDoor
