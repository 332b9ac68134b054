/- Layer 2 of the program, walked: a mask is told, and made, as the plain functions say. Numbers are of their kinds; the library's table lies as it is laid. -/
import Derived.Test.YtdjdbgilimjagaaDoorBits
set_option linter.unusedVariables false
set_option linter.unusedSimpArgs false
namespace Go.Proofs.YtdjdbgilimjagaaDoor
open Go.RowKit
set_option maxRecDepth 100000

/-- The library's table lies at its place. -/
def Tab (w : World) : Prop := ∀ i : Nat, i < 64 → w.cell? ⟨0, i, none⟩ = some (.int .u8 (tabL.getD i 0 : Nat))

theorem or_step (y P : Nat) (hy : y < 18446744073709551616) : bits .or .u64 (y : Int) (IntKind.u64.wrap ((y : Int) * (P : Int))) = ((y ||| y * P % 18446744073709551616 : Nat) : Int) := by
  rw [IntKind.wrap_u64, ← Int.natCast_mul, show (((y * P : Nat) : Int) % 18446744073709551616) = ((y * P % 18446744073709551616 : Nat) : Int) from by omega]
  exact u64_or_nat _ _ hy (Nat.mod_lt _ (by decide))
theorem or_lt (y P : Nat) (hy : y < 18446744073709551616) : y ||| y * P % 18446744073709551616 < 18446744073709551616 :=
  Nat.or_lt_two_pow (n := 64) hy (Nat.mod_lt _ (by decide))

theorem ag_2 (y : Nat) : againN y 2 = againN (y ||| y * 4 % 18446744073709551616) 4 := by
  unfold againN
  rw [if_pos rfl, if_neg (by decide), if_pos rfl, ag2]
theorem ag_4 (y : Nat) : againN y 4 = againN (y ||| y * 16 % 18446744073709551616) 8 := by
  unfold againN
  rw [if_neg (by decide), if_pos rfl, if_neg (by decide), if_neg (by decide), if_pos rfl, ag4]
theorem ag_8 (y : Nat) : againN y 8 = againN (y ||| y * 256 % 18446744073709551616) 16 := by
  unfold againN
  rw [if_neg (by decide), if_neg (by decide), if_pos rfl, if_neg (by decide), if_neg (by decide), if_neg (by decide), if_pos rfl, ag8]
theorem ag_16 (y : Nat) : againN y 16 = againN (y ||| y * 65536 % 18446744073709551616) 32 := by
  unfold againN
  rw [if_neg (by decide), if_neg (by decide), if_neg (by decide), if_pos rfl, if_neg (by decide), if_neg (by decide), if_neg (by decide), if_neg (by decide), if_pos rfl, ag16]
theorem ag_32 (y : Nat) : againN y 32 = againN (y ||| y * 4294967296 % 18446744073709551616) 64 := by
  unfold againN
  rw [if_neg (by decide), if_neg (by decide), if_neg (by decide), if_neg (by decide), if_pos rfl, if_neg (by decide), if_neg (by decide), if_neg (by decide), if_neg (by decide), if_neg (by decide), ag32, ag64]
theorem ag_64 (y : Nat) : againN y 64 = y := by
  unfold againN
  rw [if_neg (by decide), if_neg (by decide), if_neg (by decide), if_neg (by decide), if_neg (by decide)]

set_option maxHeartbeats 400000 in
theorem again_any (x s : Nat) (w : World) (h1 : x < 18446744073709551616) (hs : s = 2 ∨ s = 4 ∨ s = 8 ∨ s = 16 ∨ s = 32 ∨ s = 64) :
    Calls Tryd.prog 123 #[.int .u64 x, .int .i64 s] w fun e w' => e = .returned (.int .u64 ((againN x s : Nat) : Int)) ∧ w = w' := by
  have H := Lib.hid hs
  clear hs
  go_enter Tryd.func123, Tryd.ntmps123
  go_wp2
  go_loop [0, 1] (fun a b => ∃ y t : Nat, y < 18446744073709551616 ∧ (t = 2 ∨ t = 4 ∨ t = 8 ∨ t = 16 ∨ t = 32 ∨ t = 64) ∧ a = .int .u64 y ∧ b = .int .i64 t ∧ againN y t = againN x s) (fun _ b => 64 - (intOf b).toNat)
  case atStart => exact ⟨x, s, h1, H.out, rfl, rfl, rfl⟩
  case round =>
    obtain ⟨y, t, hy, ht, rfl, rfl, he⟩ := hrel
    have HE := Lib.hid he
    clear he
    rcases ht with rfl | rfl | rfl | rfl | rfl | rfl
    · go_wp2
      exact ⟨⟨_, 4, or_lt y 4 hy, by omega, congrArg _ (or_step y 4 hy), rfl, by rw [← ag_2]; exact HE.out⟩, by simp [intOf]⟩
    · go_wp2
      exact ⟨⟨_, 8, or_lt y 16 hy, by omega, congrArg _ (or_step y 16 hy), rfl, by rw [← ag_4]; exact HE.out⟩, by simp [intOf]⟩
    · go_wp2
      exact ⟨⟨_, 16, or_lt y 256 hy, by omega, congrArg _ (or_step y 256 hy), rfl, by rw [← ag_8]; exact HE.out⟩, by simp [intOf]⟩
    · go_wp2
      exact ⟨⟨_, 32, or_lt y 65536 hy, by omega, congrArg _ (or_step y 65536 hy), rfl, by rw [← ag_16]; exact HE.out⟩, by simp [intOf]⟩
    · go_wp2
      exact ⟨⟨_, 64, or_lt y 4294967296 hy, by omega, congrArg _ (or_step y 4294967296 hy), rfl, by rw [← ag_32]; exact HE.out⟩, by simp [intOf]⟩
    · go_wp2
      go_ret
      refine ⟨ret_int ?_, rfl⟩
      rw [← HE.out, ag_64]

set_option maxHeartbeats 400000 in
theorem front_any (s : Int) (w : World) (h0 : 0 ≤ s) (h1 : s ≤ 64) :
    Calls Tryd.prog 109 #[.int .i64 s] w fun e w' => e = .returned (.int .i64 (frontI s)) ∧ w = w' := by
  unfold frontI
  by_cases h : s = 64
  · subst h
    go_enter Tryd.func109, Tryd.ntmps109
    go_wp2
    go_ret
    exact ⟨ret_int (by simp), rfl⟩
  · have hb : (s == 64) = false := beq_eq_false_iff_ne.2 h
    go_enter Tryd.func109, Tryd.ntmps109
    go_wp2
    go_ret
    exact ⟨ret_int rfl, rfl⟩

set_option maxHeartbeats 400000 in
theorem sizeAsk (v s : Nat) (b : Nat) (w : World) (h1 : v < 18446744073709551616) (hs : s = 2 ∨ s = 4 ∨ s = 8 ∨ s = 16 ∨ s = 32 ∨ s = 64) (hc : w.cell? ⟨b, 0, none⟩ = some (.int .u64 v)) :
    Calls Tryd.prog 125 #[.int .i64 s, .pointer (some ⟨b, 0, none⟩)] w fun e w' => e = .returned (.bool (decide (againN (v % 2 ^ s) s = v))) ∧ ∃ m, w' = w.drewN m := by
  have hl : lowN v (min s 64) = v % 2 ^ s := by unfold lowN; congr 2; omega
  have hl2 : v % 2 ^ s < 18446744073709551616 := Nat.lt_of_le_of_lt (Nat.mod_le _ _) h1
  have H := Lib.hid hs
  have HL := Lib.hid hl
  clear hs hl
  go_enter Tryd.func125, Tryd.ntmps125
  go_wp2
  go_quiet ((first | (go_at_call 104; exact Calls.quiet_of_same ((low_any _ _ _ (by omega) (by omega)).mono fun _ _ h => ⟨h.1, h.2.symm⟩)) | (go_at_call 123; rw [HL.out]; exact Calls.quiet_of_same ((again_any _ _ _ hl2 H.out).mono fun _ _ h => ⟨h.1, h.2.symm⟩))))
  go_wp2
  go_ret
  refine ⟨ret_bool ?_, _, rfl⟩
  rw [Bool.eq_iff_iff, beq_iff_eq, decide_eq_true_eq]
  omega

set_option maxHeartbeats 400000 in
theorem decAsk (sv s : Int) (b : Nat) (w : World) (h0 : 0 ≤ s) (h1 : s ≤ 64) (hc : w.cell? ⟨b, 0, none⟩ = some (.int .i64 sv)) :
    Calls Tryd.prog 122 #[.int .i64 s, .pointer (some ⟨b, 0, none⟩)] w fun e w' => e = .returned (.bool (decide (s < 64 ∧ frontI s ≤ sv))) ∧ ∃ m, w' = w.drewN m := by
  by_cases h : s < 64
  · go_enter Tryd.func122, Tryd.ntmps122
    go_wp2
    go_quiet ((go_at_call 109; exact Calls.quiet_of_same ((front_any _ _ (by omega) (by omega)).mono fun _ _ h => ⟨h.1, h.2.symm⟩)))
    go_wp2
    go_ret
    refine ⟨ret_bool ?_, _, rfl⟩
    rw [Bool.eq_iff_iff, decide_eq_true_eq, decide_eq_true_eq]
    exact ⟨fun q => ⟨h, q⟩, fun q => q.2⟩
  · have hd : decide (s < 64) = false := by simpa using h
    go_enter Tryd.func122, Tryd.ntmps122
    go_wp2
    go_quiet (fail)
    go_wp2
    go_ret
    refine ⟨ret_bool ?_, _, rfl⟩
    rw [Bool.eq_iff_iff, decide_eq_true_eq]
    constructor
    · intro q; cases q
    · intro q; exact absurd q.1 (by omega)

theorem size_in (v : Nat) : sizeN v = 2 ∨ sizeN v = 4 ∨ sizeN v = 8 ∨ sizeN v = 16 ∨ sizeN v = 32 ∨ sizeN v = 64 := by
  unfold sizeN
  repeat' split
  all_goals simp
theorem size_yes (v t : Nat) (ht : t = 2 ∨ t = 4 ∨ t = 8 ∨ t = 16 ∨ t = 32 ∨ t = 64) (h : t ≤ sizeN v) (ha : againN (v % 2 ^ t) t = v) : sizeN v = t := by
  by_cases hlt : sizeN v = t
  · exact hlt
  · exfalso
    have hgt : t < sizeN v := by omega
    revert hgt
    unfold sizeN
    rcases ht with rfl | rfl | rfl | rfl | rfl | rfl
    · rw [if_pos ha]; omega
    · rw [if_pos ha]; split <;> omega
    · rw [if_pos ha]; (repeat' split) <;> omega
    · rw [if_pos ha]; (repeat' split) <;> omega
    · rw [if_pos ha]; (repeat' split) <;> omega
    · (repeat' split) <;> omega
theorem size_no (v t : Nat) (hv : v < 18446744073709551616) (ht : t = 2 ∨ t = 4 ∨ t = 8 ∨ t = 16 ∨ t = 32 ∨ t = 64) (h : t ≤ sizeN v) (ha : ¬ againN (v % 2 ^ t) t = v) : t < 64 ∧ 2 * t ≤ sizeN v := by
  have h64 : againN (v % 2 ^ 64) 64 = v := by rw [ag_64]; exact Nat.mod_eq_of_lt hv
  have hs := size_in v
  rcases ht with rfl | rfl | rfl | rfl | rfl | rfl
  · have : sizeN v ≠ 2 := fun e => by
      unfold sizeN at e; rw [if_neg ha] at e; revert e; (repeat' split) <;> omega
    omega
  · have : sizeN v ≠ 4 := fun e => by
      unfold sizeN at e; rw [if_neg ha] at e; revert e; (repeat' split) <;> omega
    omega
  · have : sizeN v ≠ 8 := fun e => by
      unfold sizeN at e; rw [if_neg ha] at e; revert e; (repeat' split) <;> omega
    omega
  · have : sizeN v ≠ 16 := fun e => by
      unfold sizeN at e; rw [if_neg ha] at e; revert e; (repeat' split) <;> omega
    omega
  · have : sizeN v ≠ 32 := fun e => by
      unfold sizeN at e; rw [if_neg ha] at e; revert e; (repeat' split) <;> omega
    omega
  · exact absurd h64 ha

set_option maxHeartbeats 800000 in
theorem sizes_size (v : Nat) (b : Nat) (w : World) (h1 : v < 18446744073709551616) (hc : w.cell? ⟨b, 0, none⟩ = some (.int .u64 v)) :
    Calls Tryd.prog 121 #[.func (Fn.func 125) #[] #[.pointer (some ⟨b, 0, none⟩)]] w fun e w' => e = .returned (.int .i64 (sizeN v)) ∧ ∃ m, w' = w.drewN m := by
  go_enter Tryd.func121, Tryd.ntmps121
  go_wp2
  go_loopw [3] (fun a wr => ∃ t : Nat, (t = 2 ∨ t = 4 ∨ t = 8 ∨ t = 16 ∨ t = 32 ∨ t = 64) ∧ a = .int .i64 t ∧ t ≤ sizeN v ∧ ∃ m, wr = w.drewN m) (fun a _ => 64 - (intOf a).toNat)
  case atStart => exact ⟨2, by omega, rfl, by have := size_in v; omega, 0, rfl⟩
  case round =>
    obtain ⟨t, ht, rfl, hle, m, rfl⟩ := hrel
    have h64 : t ≤ 64 := by omega
    have hc2 : (w.drewN m).cell? ⟨b, 0, none⟩ = some (.int .u64 v) := hc
    have HT := Lib.hid ht
    clear ht
    by_cases ha : againN (v % 2 ^ t) t = v
    · have hd : decide (againN (v % 2 ^ t) t = v) = true := by simpa using ha
      have HS := Lib.hid (size_yes v t HT.out hle ha)
      clear ha
      go_wp2_with (go_at_call 125; refine (sizeAsk v t b _ h1 HT.out hc2).mono ?_; rintro e w' ⟨rfl, m2, rfl⟩)
      go_ret
      exact ⟨ret_int (by rw [HS.out]), _, rfl⟩
    · have hd : decide (againN (v % 2 ^ t) t = v) = false := by simpa using ha
      obtain ⟨hs1, hs2⟩ := size_no v t h1 HT.out hle ha
      clear ha
      go_wp2_with (go_at_call 125; refine (sizeAsk v t b _ h1 HT.out hc2).mono ?_; rintro e w' ⟨rfl, m2, rfl⟩)
      exact ⟨⟨2 * t, by have := HT.out; omega, by rw [show ((t : Int) * 2) = ((2 * t : Nat) : Int) from by omega], hs2, _, rfl⟩, by have := HT.out; simp [intOf]; omega⟩

theorem sizeS_in (s : Int) : sizeS s = 2 ∨ sizeS s = 4 ∨ sizeS s = 8 ∨ sizeS s = 16 ∨ sizeS s = 32 := by
  unfold sizeS
  repeat' split
  all_goals simp
theorem sizeS_yes (s t : Int) (ht : t = 2 ∨ t = 4 ∨ t = 8 ∨ t = 16 ∨ t = 32) (h : t ≤ sizeS s) (ha : t < 64 ∧ frontI t ≤ s) : sizeS s = t := by
  revert h ha
  unfold sizeS frontI
  rcases ht with rfl | rfl | rfl | rfl | rfl <;> (repeat' split) <;> omega
theorem sizeS_no (s t : Int) (h0 : 0 ≤ s) (ht : t = 2 ∨ t = 4 ∨ t = 8 ∨ t = 16 ∨ t = 32) (h : t ≤ sizeS s) (ha : ¬ (t < 64 ∧ frontI t ≤ s)) : t < 32 ∧ 2 * t ≤ sizeS s := by
  revert h ha
  unfold sizeS frontI
  rcases ht with rfl | rfl | rfl | rfl | rfl <;> (repeat' split) <;> omega

set_option maxHeartbeats 800000 in
theorem sizes_dec (sv : Int) (b : Nat) (w : World) (hv0 : 0 ≤ sv) (hc : w.cell? ⟨b, 0, none⟩ = some (.int .i64 sv)) :
    Calls Tryd.prog 121 #[.func (Fn.func 122) #[] #[.pointer (some ⟨b, 0, none⟩)]] w fun e w' => e = .returned (.int .i64 (sizeS sv)) ∧ ∃ m, w' = w.drewN m := by
  go_enter Tryd.func121, Tryd.ntmps121
  go_wp2
  go_loopw [3] (fun a wr => ∃ t : Int, (t = 2 ∨ t = 4 ∨ t = 8 ∨ t = 16 ∨ t = 32) ∧ a = .int .i64 t ∧ t ≤ sizeS sv ∧ ∃ m, wr = w.drewN m) (fun a _ => 64 - (intOf a).toNat)
  case atStart => exact ⟨2, by omega, rfl, by have := sizeS_in sv; omega, 0, rfl⟩
  case round =>
    obtain ⟨t, ht, rfl, hle, m, rfl⟩ := hrel
    have h64 : t ≤ 32 := by omega
    have h02 : 2 ≤ t := by omega
    have hc2 : (w.drewN m).cell? ⟨b, 0, none⟩ = some (.int .i64 sv) := hc
    have HT := Lib.hid ht
    clear ht
    by_cases ha : t < 64 ∧ frontI t ≤ sv
    · have hd : decide (t < 64 ∧ frontI t ≤ sv) = true := by simpa using ha
      have HS := Lib.hid (sizeS_yes sv t HT.out hle ha)
      have HD := Lib.hid hd
      clear ha hd
      go_wp2_with (go_at_call 122; refine (decAsk sv t b _ (by omega) (by omega) hc2).mono ?_; rw [HD.out]; rintro e w' ⟨rfl, m2, rfl⟩)
      go_ret
      exact ⟨ret_int (by rw [HS.out]), _, rfl⟩
    · have hd : decide (t < 64 ∧ frontI t ≤ sv) = false := by simpa using ha
      obtain ⟨hs1, hs2⟩ := sizeS_no sv t hv0 HT.out hle ha
      have HD := Lib.hid hd
      clear ha hd
      go_wp2_with (go_at_call 122; refine (decAsk sv t b _ (by omega) (by omega) hc2).mono ?_; rw [HD.out]; rintro e w' ⟨rfl, m2, rfl⟩)
      exact ⟨⟨t * 2, by have := HT.out; omega, rfl, by omega, _, rfl⟩, by simp [intOf]; omega⟩

theorem bel_drewN {w : World} (n : Nat) : Below w.heap.size w (w.drewN n) := below_drewN (Below.refl _ _) n

set_option maxHeartbeats 400000 in
theorem size_any (v : Nat) (w : World) (h1 : v < 18446744073709551616) :
    Calls Tryd.prog 103 #[.int .u64 v] w fun e w' => e = .returned (.int .i64 (sizeN v)) ∧ Below w.heap.size w w' := by
  have hmf : ∀ (fn : Fn) (first cap : Array Value) (w : World), (Instr.makeFunc fn first cap).run Tryd.prog w = .ok (.func fn first cap) w := fun _ _ _ _ => rfl
  go_enter Tryd.func103, Tryd.ntmps103
  go_wp2_with (go_at_call 121; refine (sizes_size v w.heap.size _ h1 (by simp)).mono ?_; rintro e w' ⟨rfl, m2, rfl⟩)
  go_ret
  exact ⟨rfl, below_drewN ((Below.refl _ _).alloc (Nat.le_refl _) _) _⟩

end Go.Proofs.YtdjdbgilimjagaaDoor
