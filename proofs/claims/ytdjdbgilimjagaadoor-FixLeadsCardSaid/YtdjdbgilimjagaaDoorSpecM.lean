/- Plain laws of masks: what is told of a mask makes it again, and what is made is told as it was. No condition. -/
import Derived.Test.YtdjdbgilimjagaaDoorSpecC
set_option linter.unusedVariables false
set_option linter.unusedSimpArgs false
namespace Go.Proofs.YtdjdbgilimjagaaDoor

/-- Rotation, by division. -/
theorem rotn_eq (x k size : Nat) (hs : size ≤ 64) (hx : x < 2 ^ size) (hk : k ≤ size) : rotN x k size = (x / 2 ^ k ||| x % 2 ^ k * 2 ^ (size - k)) := by
  unfold rotN
  have e : (2 : Nat) ^ size = 2 ^ k * 2 ^ (size - k) := by rw [← Nat.pow_add, Nat.add_sub_cancel' hk]
  rw [Nat.or_mod_two_pow, Nat.mod_mod_of_dvd _ (Nat.pow_dvd_pow 2 hs)]
  have h1 : x / 2 ^ k % 2 ^ size = x / 2 ^ k := Nat.mod_eq_of_lt (Nat.lt_of_le_of_lt (Nat.div_le_self _ _) hx)
  have h2 : x * 2 ^ (size - k) % 2 ^ size = x % 2 ^ k * 2 ^ (size - k) := by
    rw [e, Nat.mul_mod_mul_right]
  rw [h1, h2]
theorem rot_add (x k size : Nat) (hs : size ≤ 64) (hx : x < 2 ^ size) (hk : k ≤ size) : rotN x k size = x / 2 ^ k + x % 2 ^ k * 2 ^ (size - k) := by
  rw [rotn_eq x k size hs hx hk]
  have hlt : x / 2 ^ k < 2 ^ (size - k) := by
    rw [Nat.div_lt_iff_lt_mul (Nat.pow_pos (by decide)), ← Nat.pow_add, Nat.sub_add_cancel hk]; exact hx
  rw [Nat.or_comm, Nat.mul_comm, ← Nat.two_pow_add_eq_or_of_lt hlt, Nat.add_comm]
/-- Rotated by so much, and by what is left: as it was. -/
theorem rot_back (x k size : Nat) (hs : size ≤ 64) (hx : x < 2 ^ size) (hk : k ≤ size) : rotN (rotN x k size) (size - k) size = x := by
  have p1 : 0 < (2 : Nat) ^ k := Nat.pow_pos (by decide)
  have p2 : 0 < (2 : Nat) ^ (size - k) := Nat.pow_pos (by decide)
  have hlt : x / 2 ^ k < 2 ^ (size - k) := by
    rw [Nat.div_lt_iff_lt_mul p1, ← Nat.pow_add, Nat.sub_add_cancel hk]; exact hx
  have hb := Nat.mod_lt x p1
  have e1 := rot_add x k size hs hx hk
  have e3 : rotN x k size < 2 ^ size := Nat.mod_lt _ (Nat.pow_pos (by decide))
  rw [rot_add _ (size - k) size hs e3 (Nat.sub_le _ _), e1, show size - (size - k) = k from by omega]
  rw [Nat.add_mul_div_right _ _ p2, Nat.div_eq_of_lt hlt, Nat.zero_add, Nat.add_mul_mod_self_right, Nat.mod_eq_of_lt hlt]
  have := Nat.div_add_mod x (2 ^ k)
  rw [Nat.mul_comm] at this
  omega
theorem rot_zero (x size : Nat) (hs : size ≤ 64) (hx : x < 2 ^ size) : rotN x 0 size = x := by
  rw [rot_add x 0 size hs hx (Nat.zero_le _)]
  simp [Nat.mod_one]

theorem size_is (v : Nat) : sizeN v = 2 ∨ sizeN v = 4 ∨ sizeN v = 8 ∨ sizeN v = 16 ∨ sizeN v = 32 ∨ sizeN v = 64 := by
  unfold sizeN
  repeat' split
  all_goals simp
theorem again_size (v : Nat) (h : v < 2 ^ 64) : againN (v % 2 ^ sizeN v) (sizeN v) = v := by
  unfold sizeN
  by_cases h1 : againN (v % 2 ^ 2) 2 = v
  · rw [if_pos h1, h1]
  · rw [if_neg h1]
    by_cases h2 : againN (v % 2 ^ 4) 4 = v
    · rw [if_pos h2, h2]
    · rw [if_neg h2]
      by_cases h3 : againN (v % 2 ^ 8) 8 = v
      · rw [if_pos h3, h3]
      · rw [if_neg h3]
        by_cases h4 : againN (v % 2 ^ 16) 16 = v
        · rw [if_pos h4, h4]
        · rw [if_neg h4]
          by_cases h5 : againN (v % 2 ^ 32) 32 = v
          · rw [if_pos h5, h5]
          · rw [if_neg h5, Nat.mod_eq_of_lt h]; rfl

theorem low_ones (o : Nat) (h : o ≤ 64) : 18446744073709551615 % 2 ^ o = 2 ^ o - 1 := by
  have e : (18446744073709551615 : Nat) = 2 ^ 64 - 1 := by decide
  rw [e]
  have e2 : (2 : Nat) ^ 64 = 2 ^ o * 2 ^ (64 - o) := by rw [← Nat.pow_add, Nat.add_sub_cancel' h]
  have p1 : 0 < (2 : Nat) ^ o := Nat.pow_pos (by decide)
  have p2 : 0 < (2 : Nat) ^ (64 - o) := Nat.pow_pos (by decide)
  have e3 : 2 ^ o * 2 ^ (64 - o) - 1 = (2 ^ o - 1) + 2 ^ o * (2 ^ (64 - o) - 1) := by
    rw [Nat.mul_sub, Nat.mul_one]
    have : 2 ^ o ≤ 2 ^ o * 2 ^ (64 - o) := Nat.le_mul_of_pos_right _ p2
    omega
  rw [e2, e3, Nat.add_mul_mod_self_left, Nat.mod_eq_of_lt (by omega)]
theorem all_ones : (List.range 65).all (fun k => rotN 18446744073709551615 k 64 == 18446744073709551615) = true := by decide +kernel
theorem pop_all : popN 18446744073709551615 = 64 := by decide +kernel

theorem dec_fin (size ones K : Nat) (hsz : size = 2 ∨ size = 4 ∨ size = 8 ∨ size = 16 ∨ size = 32 ∨ size = 64) (h1 : 1 ≤ ones) (h2 : ones < size) (hK : K < size) :
    (((if size = 64 then 1 else 0 : Int) = 0 ∨ (if size = 64 then 1 else 0 : Int) = 1) ∧ 0 ≤ -(K : Int) % (size : Int) ∧ -(K : Int) % (size : Int) < 64 ∧ 0 ≤ (ones : Int) - 1 + frontI size ∧ (ones : Int) - 1 + frontI size < 64) ∧
    decM (if size = 64 then 1 else 0) (-(K : Int) % (size : Int)) ((ones : Int) - 1 + frontI size) = (againN (rotN (18446744073709551615 % 2 ^ ones) (-(K : Int) % (size : Int)).toNat size) size, 0) := by
  have hm0 : 0 ≤ -(K : Int) % (size : Int) := Int.emod_nonneg _ (by omega)
  have hm1 : -(K : Int) % (size : Int) < (size : Int) := Int.emod_lt_of_pos _ (by omega)
  generalize -(K : Int) % (size : Int) = r at *
  have key : ∀ (n fr : Int), n = (if size = 64 then 1 else 0) → frontI (size : Int) = fr → 0 ≤ fr ∧ fr + (size : Int) - 1 ≤ 64 → (n = 0 → sizeS ((ones : Int) - 1 + fr) = (size : Int)) → (n ≠ 0 → size = 64) →
      ((n = 0 ∨ n = 1) ∧ 0 ≤ r ∧ r < 64 ∧ 0 ≤ (ones : Int) - 1 + fr ∧ (ones : Int) - 1 + fr < 64) ∧ decM n r ((ones : Int) - 1 + fr) = (againN (rotN (18446744073709551615 % 2 ^ ones) r.toNat size) size, 0) := by
    intro n fr hn hf hb h0 h3
    have hn01 : n = 0 ∨ n = 1 := by rw [hn]; split <;> simp
    have hs64 : size ≤ 64 := by omega
    refine ⟨⟨hn01, hm0, by omega, by omega, by omega⟩, ?_⟩
    have hz : (if n = 0 then sizeS ((ones : Int) - 1 + fr) else 64) = (size : Int) := by
      rcases hn01 with rfl | rfl
      · rw [if_pos rfl]; exact h0 rfl
      · rw [if_neg (by decide), h3 (by decide)]; rfl
    unfold decM
    rw [if_neg (by omega)]
    simp only [hz, hf]
    rw [if_neg (by omega), show ((ones : Int) - 1 + fr - fr + 1).toNat = ones from by omega, Int.toNat_natCast]
  rcases hsz with rfl | rfl | rfl | rfl | rfl | rfl
  · exact key 0 60 rfl rfl (by decide) (fun _ => by unfold sizeS; rw [if_pos (by omega)]; rfl) (fun h => absurd rfl h)
  · exact key 0 56 rfl rfl (by decide) (fun _ => by unfold sizeS; rw [if_neg (by omega), if_pos (by omega)]; rfl) (fun h => absurd rfl h)
  · exact key 0 48 rfl rfl (by decide) (fun _ => by unfold sizeS; rw [if_neg (by omega), if_neg (by omega), if_pos (by omega)]; rfl) (fun h => absurd rfl h)
  · exact key 0 32 rfl rfl (by decide) (fun _ => by unfold sizeS; rw [if_neg (by omega), if_neg (by omega), if_neg (by omega), if_pos (by omega)]; rfl) (fun h => absurd rfl h)
  · exact key 0 0 rfl rfl (by decide) (fun _ => by unfold sizeS; rw [if_neg (by omega), if_neg (by omega), if_neg (by omega), if_neg (by omega)]; rfl) (fun h => absurd rfl h)
  · exact key 1 0 rfl rfl (by decide) (fun h => absurd h (by decide)) (fun _ => rfl)

/-- What is told of a mask: numbers that fit, and the mask out of them. -/
theorem dec_told (v : Nat) (hv : v < 2 ^ 64) (h : isMask v = true) :
    (((toldN v).1 = 0 ∨ (toldN v).1 = 1) ∧ 0 ≤ (toldN v).2.1 ∧ (toldN v).2.1 < 64 ∧ 0 ≤ (toldN v).2.2 ∧ (toldN v).2.2 < 64) ∧ decM (toldN v).1 (toldN v).2.1 (toldN v).2.2 = (v, 0) := by
  by_cases hs : v = 4294967297
  · subst hs
    have e : toldN 4294967297 = (0, 0, 0) := by decide +kernel
    rw [e]
    decide +kernel
  · have hne : toldN v ≠ (0, 0, 0) := by
      simpa [isMask, hs] using h
    have hsz := size_is v
    have hag := again_size v hv
    have hx : v % 2 ^ sizeN v < 2 ^ sizeN v := Nat.mod_lt _ (Nat.pow_pos (by decide))
    unfold toldN toldX at hne ⊢
    generalize sizeN v = size at *
    generalize v % 2 ^ size = x at *
    generalize kN x size = k at *
    obtain ⟨ones, hones⟩ : ∃ o, popN x = o := ⟨_, rfl⟩
    rw [hones] at hne ⊢
    by_cases h1 : ones = 0 ∨ ones = size
    · rw [if_pos h1] at hne; exact absurd rfl hne
    rw [if_neg h1] at hne ⊢
    by_cases h2 : ¬ (0 ≤ k ∧ k < (size : Int))
    · rw [if_pos h2] at hne; exact absurd rfl hne
    rw [if_neg h2] at hne ⊢
    by_cases h3 : rotN x k.toNat size ≠ lowN 18446744073709551615 (min ones 64)
    · rw [if_pos h3] at hne; exact absurd rfl hne
    rw [if_neg h3]
    have h3 : rotN x k.toNat size = lowN 18446744073709551615 (min ones 64) := Decidable.not_not.1 h3
    have h2 : 0 ≤ k ∧ k < (size : Int) := Decidable.not_not.1 h2
    obtain ⟨K, rfl⟩ : ∃ K : Nat, k = (K : Int) := ⟨k.toNat, by omega⟩
    rw [Int.toNat_natCast] at h3
    have hs64 : size ≤ 64 := by omega
    have hK : K < size := by omega
    have hback := rot_back x K size hs64 hx (by omega)
    have hlt : rotN x K size < 2 ^ size := Nat.mod_lt _ (Nat.pow_pos (by decide))
    have hlow : lowN 18446744073709551615 (min ones 64) = 2 ^ (min ones 64) - 1 := low_ones _ (Nat.min_le_right _ _)
    have hos : ones < size := by
      rw [h3, hlow] at hlt
      by_cases hlt2 : ones < size
      · exact hlt2
      · exfalso
        by_cases h4 : size = 64
        · subst h4
          have hm : min ones 64 = 64 := by omega
          rw [hm] at hlow
          rw [hm, hlow] at h3
          rw [h3] at hback
          have := List.all_eq_true.1 all_ones (64 - K) (List.mem_range.2 (by omega))
          rw [beq_iff_eq] at this
          have hx2 : x = 18446744073709551615 := hback.symm.trans this
          rw [hx2, pop_all] at hones
          omega
        · have : (2 : Nat) ^ (size + 1) ≤ 2 ^ (min ones 64) := Nat.pow_le_pow_right (by decide) (by omega)
          have p1 : 0 < (2 : Nat) ^ size := Nat.pow_pos (by decide)
          rw [Nat.pow_succ] at this
          omega
    have hfin := dec_fin size ones K hsz (by omega) hos hK
    refine ⟨hfin.1, hfin.2.trans ?_⟩
    have hm : min ones 64 = ones := by omega
    rw [hm] at h3 hlow
    have hr : rotN (18446744073709551615 % 2 ^ ones) (-(K : Int) % (size : Int)).toNat size = x := by
      have e : 18446744073709551615 % 2 ^ ones = rotN x K size := h3.symm
      rw [e]
      by_cases hK0 : K = 0
      · subst hK0
        have e0 : (-((0 : Nat) : Int) % (size : Int)).toNat = 0 := by simp
        rw [e0, rot_zero x size hs64 hx, rot_zero x size hs64 hx]
      · have e0 : (-(K : Int) % (size : Int)).toNat = size - K := by
          have : -(K : Int) % (size : Int) = (size : Int) - K := by
            rw [← Int.add_emod_right, Int.emod_eq_of_lt (by omega) (by omega)]; omega
          omega
        rw [e0]; exact hback
    rw [hr, hag]

def toldBack (i : Nat) : Bool :=
  let n : Int := (i / 4096 : Nat)
  let r : Int := (i / 64 % 64 : Nat)
  let s : Int := (i % 64 : Nat)
  !((decM n r s).2 == 0) || (toldN (decM n r s).1 == (n, r, s))
theorem told_backs : (List.range 8192).all toldBack = true := by decide +kernel
/-- What is made of numbers that fit is told as it was. -/
theorem told_dec (n r s : Int) (hn : n = 0 ∨ n = 1) (hr0 : 0 ≤ r) (hr1 : r < 64) (hs0 : 0 ≤ s) (hs1 : s < 64) (h : (decM n r s).2 = 0) : toldN (decM n r s).1 = (n, r, s) := by
  obtain ⟨N, rfl⟩ : ∃ N : Nat, n = (N : Int) := ⟨n.toNat, by omega⟩
  obtain ⟨R, rfl⟩ : ∃ R : Nat, r = (R : Int) := ⟨r.toNat, by omega⟩
  obtain ⟨S, rfl⟩ : ∃ S : Nat, s = (S : Int) := ⟨s.toNat, by omega⟩
  have hb := List.all_eq_true.1 told_backs (4096 * N + 64 * R + S) (List.mem_range.2 (by omega))
  unfold toldBack at hb
  rw [show (4096 * N + 64 * R + S) / 4096 = N from by omega, show (4096 * N + 64 * R + S) / 64 % 64 = R from by omega, show (4096 * N + 64 * R + S) % 64 = S from by omega] at hb
  simp only [h, Bool.or_eq_true, Bool.not_eq_true', beq_iff_eq] at hb
  rcases hb with hb | hb
  · cases hb
  · exact hb
end Go.Proofs.YtdjdbgilimjagaaDoor
