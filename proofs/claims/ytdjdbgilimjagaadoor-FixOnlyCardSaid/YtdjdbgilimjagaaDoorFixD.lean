/- Layer 26 of the program, walked: bytes and their number. No condition. -/
import Derived.Test.YtdjdbgilimjagaaDoorFixC
import Derived.Laws.IdiomStrings
set_option linter.unusedVariables false
set_option linter.unusedSimpArgs false
namespace Go.Proofs.YtdjdbgilimjagaaDoor
open Go.RowKit
set_option maxRecDepth 100000

def rightK (kind most : Int) (n : Nat) : Bool := if kind = 1 then n == 8 else decide (1 < kind) && (decide (kind ≤ most) && n == 4)
theorem right26_any (kind most : Int) (s : ByteArray) (w : World) (hs : s.size ≤ maxLen) : Calls Tryd.prog 44 #[.int .i64 kind, .int .i64 most, .string s] w fun e w' => e = .returned (.bool (rightK kind most s.size)) ∧ w = w' := by
  unfold maxLen at hs
  unfold rightK
  by_cases h1 : kind = 1
  · subst h1
    rw [if_pos rfl]
    go_enter Tryd.func44, Tryd.ntmps44
    go_wp2
    go_ret
    refine ⟨ret_bool ?_, rfl⟩
    rw [Bool.eq_iff_iff]; simp; omega
  · rw [if_neg h1]
    have h1' : (kind == 1) = false := by simpa using h1
    by_cases h2 : 1 < kind
    · by_cases h3 : kind ≤ most
      · go_enter Tryd.func44, Tryd.ntmps44
        go_wp2
        go_ret
        refine ⟨ret_bool ?_, rfl⟩
        rw [Bool.eq_iff_iff]; simp [h2, h3]; omega
      · have h3' : decide (kind ≤ most) = false := by simpa using h3
        go_enter Tryd.func44, Tryd.ntmps44
        go_wp2
        go_ret
        exact ⟨ret_bool (by simp [h3]), rfl⟩
    · have h2' : decide (1 < kind) = false := by simpa using h2
      go_enter Tryd.func44, Tryd.ntmps44
      go_wp2
      go_ret
      exact ⟨ret_bool (by simp [h2]), rfl⟩

theorem pow_le256 (k n : Nat) (h : k ≤ n) : (256 : Nat) ^ k ≤ 256 ^ n := Nat.pow_le_pow_right (by decide) h
theorem pow_8 (k : Nat) : (2 : Nat) ^ (8 * k) = 256 ^ k := by rw [Nat.pow_mul]
theorem byte_snoc (l : List UInt8) (k : Nat) (b : UInt8) (hk : l[k]? = some b) : numL (l.take (k + 1)) = numL (l.take k) + b.toNat * 256 ^ k := by
  rw [take_at l k b hk, num_snoc]
  have : (l.take k).length = k := by
    rw [List.length_take]
    have := (List.getElem?_eq_some_iff.1 hk).1
    omega
  rw [this]
set_option maxHeartbeats 1000000 in
theorem number_any (s : ByteArray) (w : World) (hs : s.size ≤ 8) : Calls Tryd.prog 46 #[.string s] w fun e w' => e = .returned (.int .u64 (numL s.data.toList : Nat)) ∧ w = w' := by
  have hlen : s.data.toList.length = s.size := by simp
  go_enter Tryd.func46, Tryd.ntmps46
  go_wp2
  go_loop [3, 7] (fun v i => ∃ k : Nat, k ≤ s.size ∧ i = .int .i64 k ∧ v = .int .u64 (numL (s.data.toList.take k) : Nat)) (fun _ i => s.size - (intOf i).toNat)
  case atStart => exact ⟨0, Nat.zero_le _, rfl, rfl⟩
  case round =>
    obtain ⟨k, hk, rfl, rfl⟩ := hrel
    by_cases hlt : k < s.size
    · have hb : s.data.toList[k]? = some s[k] := by
        rw [List.getElem?_eq_getElem (by simpa using hlt)]; rfl
      have hbl := s[k].toNat_lt
      have hn := num_lt (s.data.toList.take k)
      have hl : (s.data.toList.take k).length = k := by rw [List.length_take]; omega
      rw [hl] at hn
      have h8 := pow_le256 (k + 1) 8 (by omega)
      rw [Nat.pow_succ] at h8
      have hp : 0 < (256 : Nat) ^ k := Nat.pow_pos (by decide)
      have hle : s[k].toNat * 256 ^ k < 256 * 256 ^ k := Nat.mul_lt_mul_of_pos_right hbl hp
      have e256 : (256 : Nat) ^ 8 = 18446744073709551616 := by decide
      rw [e256] at h8
      have e1 : IntKind.u64.wrap ((s[k].toNat : Int) * 2 ^ (8 * k)) = ((s[k].toNat * 256 ^ k : Nat) : Int) := by
        rw [← cast_pow, pow_8, ← Int.natCast_mul, IntKind.wrap_u64]; omega
      have e2 : bits .or .u64 ((numL (s.data.toList.take k) : Nat) : Int) ((s[k].toNat * 256 ^ k : Nat) : Int) = ((numL (s.data.toList.take (k + 1)) : Nat) : Int) := by
        rw [u64_or_nat _ _ (by omega) (by omega), byte_snoc _ k _ hb]
        congr 1
        have h2 : (256 : Nat) ^ k = 2 ^ (8 * k) := (pow_8 k).symm
        rw [h2] at hn ⊢
        rw [Nat.or_comm, Nat.mul_comm, ← Nat.two_pow_add_eq_or_of_lt hn, Nat.add_comm]
      have e0 : IntKind.u64.wrap (s[k].toNat : Int) = (s[k].toNat : Int) := by rw [IntKind.wrap_u64]; omega
      obtain ⟨z, hz⟩ : ∃ z : Nat, s[k].toNat * 256 ^ k = z := ⟨_, rfl⟩
      rw [hz] at e1 e2
      have E2 := Lib.hid e2
      clear hb hn hl h8 hp hle e256 e2 hbl hz
      go_wp2
      exact ⟨⟨k + 1, by omega, by go_num, by rw [E2.out]⟩, by simp [intOf]; omega⟩
    · go_wp2
      go_ret
      exact ⟨ret_int (by rw [List.take_of_length_le (by omega)]), rfl⟩

/-- The first k bytes of a number, and noughts. -/
def rowB (v n k : Nat) : Array Value := ((List.range n).map fun j => Value.int .u8 (if j < k then ((v / 256 ^ j % 256 : Nat) : Int) else 0)).toArray
theorem rowB_at (v n k j : Nat) (h : j < n) : (rowB v n k)[j]? = some (.int .u8 (if j < k then ((v / 256 ^ j % 256 : Nat) : Int) else 0)) := by
  unfold rowB
  rw [List.getElem?_toArray, List.getElem?_map, List.getElem?_range h]; rfl
theorem rowB_size (v n k : Nat) : (rowB v n k).size = n := by unfold rowB; simp
theorem rowB_set (v n k : Nat) (h : k < n) : (rowB v n k).setIfInBounds k (.int .u8 ((v / 256 ^ k % 256 : Nat) : Int)) = rowB v n (k + 1) := by
  apply Array.ext_getElem?
  intro j
  rw [Array.getElem?_setIfInBounds, rowB_size]
  by_cases hj : k = j
  · subst hj
    rw [if_pos rfl, if_pos h, rowB_at _ _ _ _ h, if_pos (by omega)]
  · rw [if_neg hj]
    by_cases hn : j < n
    · rw [rowB_at _ _ _ _ hn, rowB_at _ _ _ _ hn]
      by_cases h1 : j < k
      · rw [if_pos h1, if_pos (by omega)]
      · rw [if_neg h1, if_neg (by omega)]
    · rw [Array.getElem?_eq_none (by rw [rowB_size]; omega), Array.getElem?_eq_none (by rw [rowB_size]; omega)]
theorem make_bytes (n : Nat) (v : Nat) (hn : n = 4 ∨ n = 8) (w : World) : (Instr.makeSlice 112 (.int .i64 (n : Int)) (.int .i64 (n : Int))).run Tryd.prog w = .ok (.slice (some ⟨w.heap.size, 0, none⟩) n n) (w.alloc (.cells (rowB v n 0) 5)) := by
  rcases hn with rfl | rfl
  · have e : rowB v 4 0 = #[.int .u8 0, .int .u8 0, .int .u8 0, .int .u8 0] := by simp [rowB, List.range, List.range.loop]
    have h : (Instr.makeSlice 112 (.int .i64 4) (.int .i64 4)).run Tryd.prog w = .ok (.slice (some ⟨w.heap.size, 0, none⟩) 4 4) (w.alloc (.cells #[.int .u8 0, .int .u8 0, .int .u8 0, .int .u8 0] 5)) := by kernel_rfl
    rw [e]; exact h
  · have e : rowB v 8 0 = #[.int .u8 0, .int .u8 0, .int .u8 0, .int .u8 0, .int .u8 0, .int .u8 0, .int .u8 0, .int .u8 0] := by simp [rowB, List.range, List.range.loop]
    have h : (Instr.makeSlice 112 (.int .i64 8) (.int .i64 8)).run Tryd.prog w = .ok (.slice (some ⟨w.heap.size, 0, none⟩) 8 8) (w.alloc (.cells #[.int .u8 0, .int .u8 0, .int .u8 0, .int .u8 0, .int .u8 0, .int .u8 0, .int .u8 0, .int .u8 0] 5)) := by kernel_rfl
    rw [e]; exact h
set_option maxHeartbeats 1000000 in
theorem bytes_any (v n : Nat) (w : World) (hv : v < 18446744073709551616) (hn : n = 4 ∨ n = 8) : Calls Tryd.prog 45 #[.int .u64 v, .int .i64 n] w fun e w' => e = .returned (.string ⟨(bytesL v n).toArray⟩) ∧ Below w.heap.size w w' := by
  have hmk := make_bytes n v hn
  have hn8 : n ≤ 8 := by omega
  have hn1 : 1 ≤ n := by omega
  have hcv : (convert 112 9 (.slice (some ⟨w.heap.size, 0, none⟩) n n)).run Tryd.prog (w.alloc (.cells (rowB v n n) 5)) = .ok (.string ⟨(bytesL v n).toArray⟩) (w.alloc (.cells (rowB v n n) 5)) := by
    have h := run_convert_bytes_back (P := Tryd.prog) (w.alloc (.cells (rowB v n n) 5)) 112 9 5 ⟨w.heap.size, 0, none⟩ n (bytesL v n) Tryd.underlying112 Tryd.underlying5 Tryd.underlying9 (fun j hj => by
      rw [bytes_len] at hj
      have ha : (⟨w.heap.size, 0, none⟩ : Addr).add j = ⟨w.heap.size, j, none⟩ := by unfold Addr.add; split <;> simp_all
      rw [ha, cell_of_row _ _ j _ 5 (0, 0) (heap_alloc_new w _), rowB_at _ _ _ _ hj, if_pos hj]
      have hb := bytes_at v n j hj
      have hj' : j < (bytesL v n).length := by rw [bytes_len]; exact hj
      rw [List.getElem?_eq_getElem hj', Option.some.injEq] at hb
      rw [hb]
      simp)
    rw [bytes_len] at h
    exact h
  have HCV := Lib.hid hcv
  clear hcv hn
  go_enter Tryd.func45, Tryd.ntmps45
  go_wp2
  go_loopw [11] (fun i wr => ∃ k : Nat, k ≤ n ∧ i = .int .i64 k ∧ wr = w.alloc (.cells (rowB v n k) 5)) (fun i _ => n - (intOf i).toNat)
  case atStart => exact ⟨0, Nat.zero_le _, rfl, rfl⟩
  case round =>
    obtain ⟨k, hk, rfl, rfl⟩ := hrel
    by_cases hlt : k < n
    · have hc : (w.alloc (.cells (rowB v n k) 5)).cell? ⟨w.heap.size, k, none⟩ = some (.int .u8 0) := by
        rw [cell_of_row _ _ k _ 5 (0, 0) (heap_alloc_new w _), rowB_at _ _ _ _ hlt, if_neg (Nat.lt_irrefl k)]
      have hz : (w.alloc (.cells (rowB v n k) 5)).frozen? ⟨w.heap.size, k, none⟩ = false := frozen_of_row _ _ k _ 5 (heap_alloc_new w _)
      have e1 : IntKind.u8.wrap ((v : Int) / 2 ^ (8 * k)) = ((v / 256 ^ k % 256 : Nat) : Int) := by
        rw [← cast_pow, pow_8, ← Int.natCast_ediv, IntKind.wrap_u8]; omega
      have hst := rowB_set v n k hlt
      obtain ⟨z, hz2⟩ : ∃ z : Nat, v / 256 ^ k % 256 = z := ⟨_, rfl⟩
      rw [hz2] at e1 hst
      have HST := Lib.hid hst
      clear hst hz2
      go_wp2
      exact ⟨⟨k + 1, by omega, by go_num, by rw [HST.out]⟩, by simp [intOf]; omega⟩
    · have e : k = n := by omega
      subst e
      have hcv := HCV.out
      go_wp2
      go_ret
      exact ⟨rfl, balloc w _⟩

/-! ### Apply -/
def strL (l : List UInt8) : Value := .string ⟨l.toArray⟩
/-- What Apply answers. -/
def applyM (kind : Int) (s : ByteArray) (f t : Nat) : List UInt8 × Int :=
  if rightK kind 9 s.size = false then ([], 1)
  else if kind = 1 then (bytesL t 8, 0)
  else if (wordM kind (numL s.data.toList % 4294967296) f t).2 ≠ 0 then ([], (wordM kind (numL s.data.toList % 4294967296) f t).2)
  else (bytesL (wordM kind (numL s.data.toList % 4294967296) f t).1 4, 0)
theorem right_size {kind most : Int} {n : Nat} (h : rightK kind most n = true) : n ≤ 8 ∧ (kind ≠ 1 → n = 4) ∧ (kind = 1 → n = 8) ∧ 1 ≤ kind ∧ (kind ≠ 1 → kind ≤ most) := by
  unfold rightK at h
  by_cases h1 : kind = 1
  · rw [if_pos h1] at h; simp at h; omega
  · rw [if_neg h1] at h; simp at h; omega
theorem word_lt32 (kind : Int) (x f t : Nat) (hx : x < 4294967296) (hk : kind ≤ 1 ∨ 2 ≤ kind) : (wordM kind x f t).1 < 4294967296 := by
  unfold wordM
  by_cases hg : kind ≤ 1 ∨ 9 < kind
  · rw [if_pos hg]; decide
  rw [if_neg hg]
  cases hF : fitsM kind x with
  | false => rw [if_pos rfl]; decide
  | true =>
    rw [if_neg (by decide)]
    by_cases hE : (valueM kind f t).2 ≠ 0
    · rw [if_pos hE]; show 0 < 4294967296; decide
    · rw [if_neg hE]
      obtain ⟨i, hN, _, _, hB, _⟩ := fix_word kind x f t hx (by omega) hF (Decidable.not_not.1 hE)
      have hI : decI x = i := by unfold decI; rw [hN]; rfl
      rw [hI]
      exact (enc_dec _ hB (dec_mask x i hN)).1
set_option maxHeartbeats 1000000 in
theorem apply_any (kind : Int) (s : ByteArray) (f t : Nat) (w : World) (hs : s.size ≤ maxLen) (hf : f < 18446744073709551616) (ht : t < 18446744073709551616) (HT : Hid (Tab w)) :
    Calls Tryd.prog 19 #[.int .i64 kind, .string s, .int .u64 f, .int .u64 t] w fun e w' => e = .returned (.tuple #[strL (applyM kind s f t).1, .int .i64 (applyM kind s f t).2]) ∧ Below w.heap.size w w' := by
  have HM := Lib.hid hs
  unfold applyM
  cases hR : rightK kind 9 s.size with
  | false =>
    rw [if_pos rfl]
    have HR := Lib.hid hR
    clear hR hs
    go_enter Tryd.func19, Tryd.ntmps19
    go_wp2_with (go_at_call 44; refine (right26_any kind 9 s _ HM.out).mono ?_; rw [HR.out]; rintro e w1 ⟨rfl, rfl⟩)
    go_ret2
    exact ⟨rfl, Below.refl _ _⟩
  | true =>
    rw [if_neg (by decide)]
    obtain ⟨z8, zk, z1, hk1, hk9⟩ := right_size hR
    have HR := Lib.hid hR
    clear hR hs
    by_cases h1 : kind = 1
    · rw [if_pos h1]
      subst h1
      go_enter Tryd.func19, Tryd.ntmps19
      go_wp2_with (first | (go_at_call 44; refine (right26_any 1 9 s _ HM.out).mono ?_; rw [HR.out]; rintro e w1 ⟨rfl, rfl⟩) | (go_at_call 45; refine (bytes_any t 8 _ ht (.inr rfl)).mono ?_; rintro e w2 ⟨rfl, hb2⟩))
      go_ret2
      exact ⟨rfl, hb2⟩
    · rw [if_neg h1]
      have h1' : (kind == 1) = false := by simpa using h1
      obtain ⟨x, hx⟩ : ∃ x, numL s.data.toList % 4294967296 = x := ⟨_, rfl⟩
      have hx2 : x < 4294967296 := hx ▸ Nat.mod_lt _ (by decide)
      have e1 : IntKind.u32.wrap ((numL s.data.toList : Nat) : Int) = (x : Int) := by rw [← hx, IntKind.wrap_u32]; omega
      rw [hx]
      have HXX := Lib.hid hx
      clear hx
      by_cases hE : (wordM kind x f t).2 ≠ 0
      · rw [if_pos hE]
        obtain ⟨E, he⟩ : ∃ E, (wordM kind x f t).2 = E := ⟨_, rfl⟩
        obtain ⟨U, hu⟩ : ∃ U, (wordM kind x f t).1 = U := ⟨_, rfl⟩
        rw [he] at hE ⊢
        have hE' : (E != 0) = true := by simpa using hE
        have HE := Lib.hid he
        have HU := Lib.hid hu
        clear he hu hE
        go_enter Tryd.func19, Tryd.ntmps19
        go_wp2_with (first | (go_at_call 44; refine (right26_any kind 9 s _ HM.out).mono ?_; rw [HR.out]; rintro e w1 ⟨rfl, rfl⟩) | (go_at_call 46; refine (number_any s _ z8).mono ?_; rintro e w1 ⟨rfl, rfl⟩) | (go_at_call 22; refine (fword_at kind x f t _ hx2 hf ht HT U E HU HE).mono ?_; rintro e w2 ⟨rfl, hb2⟩))
        go_ret2
        exact ⟨rfl, hb2⟩
      · rw [if_neg hE]
        have hE := Decidable.not_not.1 hE
        obtain ⟨U, hu⟩ : ∃ U, (wordM kind x f t).1 = U := ⟨_, rfl⟩
        have hu2 := word_lt32 kind x f t hx2 (by omega)
        rw [hu] at hu2 ⊢
        have HE := Lib.hid hE
        have HU := Lib.hid hu
        clear hu hE
        go_enter Tryd.func19, Tryd.ntmps19
        go_wp2_with (first | (go_at_call 44; refine (right26_any kind 9 s _ HM.out).mono ?_; rw [HR.out]; rintro e w1 ⟨rfl, rfl⟩) | (go_at_call 46; refine (number_any s _ z8).mono ?_; rintro e w1 ⟨rfl, rfl⟩) | (go_at_call 22; refine (fword_at kind x f t _ hx2 hf ht HT U 0 HU HE).mono ?_; rintro e w2 ⟨rfl, hb2⟩) | (go_at_call 45; refine (bytes_any U 4 _ (by omega) (.inl rfl)).mono ?_; rintro e w3 ⟨rfl, hb3⟩))
        go_ret2
        exact ⟨rfl, bt2 hb2 hb3⟩
/-- Apply, its answer given. -/
theorem apply_at (kind : Int) (s : ByteArray) (f t : Nat) (w : World) (hs : s.size ≤ maxLen) (hf : f < 18446744073709551616) (ht : t < 18446744073709551616) (HT : Hid (Tab w)) (S : ByteArray) (E : Int) (HS : Hid ((⟨(applyM kind s f t).1.toArray⟩ : ByteArray) = S)) (HE : Hid ((applyM kind s f t).2 = E)) :
    Calls Tryd.prog 19 #[.int .i64 kind, .string s, .int .u64 f, .int .u64 t] w fun e w' => e = .returned (.tuple #[.string S, .int .i64 E]) ∧ Below w.heap.size w w' := by
  rw [← HS.out, ← HE.out]
  exact apply_any kind s f t w hs hf ht HT
end Go.Proofs.YtdjdbgilimjagaaDoor
