/- Layer 2 of the program, walked: how a number is told, whether it is a mask, and a mask made. Numbers are of their kinds; the library's table lies as it is laid. -/
import Derived.Test.YtdjdbgilimjagaaDoorMaskC
import Derived.Deep.RegionWith
import Derived.RegionCalls
set_option linter.unusedVariables false
set_option linter.unusedSimpArgs false
namespace Go.Proofs.YtdjdbgilimjagaaDoor
open Go.RowKit
set_option maxRecDepth 100000

theorem wrap64_nat (t : Nat) (h : t < 100) : wrap64 (t : Int) = t := by unfold wrap64; omega
theorem tab_lt : ∀ i : Fin 64, tabL.getD i.val 0 < 64 := by decide
theorem tzN_eq (v : Nat) (h0 : v ≠ 0) : tzN v = tabL.getD (tzI v) 0 := by unfold tzN tzI; rw [if_neg h0]
theorem tzN_lt (v : Nat) (h0 : v ≠ 0) : tzN v < 64 := by rw [tzN_eq v h0]; exact tab_lt ⟨tzI v, tzI_lt v⟩
theorem tz_any (v : Nat) (w : World) (h1 : v < 18446744073709551616) (h0 : v ≠ 0) (hT : Tab w) :
    Calls Tryd.prog 106 #[.int .u64 v] w fun e w' => e = .returned (.int .i64 (tzN v)) ∧ w = w' := by
  have h := tz_core v (tzI v) (tabL.getD (tzI v) 0) w (beq_eq_false_iff_ne.2 (by omega)) (tz_eq v h1 h0) (hT _ (tzI_lt v)) (tzI_lt v)
  rw [wrap64_nat _ (Nat.lt_trans (tab_lt ⟨tzI v, tzI_lt v⟩) (by decide)), ← tzN_eq v h0] at h
  exact h

theorem Tab.below {w w' : World} (hT : Tab w) (hb : Below w.heap.size w w') : Tab w' := fun i hi => by
  have h := hT i hi
  rw [hb.cell (p := ⟨0, i, none⟩) (World.block_lt_of_cell? w _ h)]
  exact h

theorem res3 {w w1 : World} {a b c : Value} {T : Nat} (hb : Below (w.alloc (.cells #[a, b, c] T)).heap.size (w.alloc (.cells #[a, b, c] T)) w1) :
    w1.cell? ⟨w.heap.size, 0, none⟩ = some a ∧ w1.cell? ⟨w.heap.size, 1, none⟩ = some b ∧ w1.cell? ⟨w.heap.size, 2, none⟩ = some c ∧
    w1.frozen? ⟨w.heap.size, 0, none⟩ = false ∧ w1.frozen? ⟨w.heap.size, 1, none⟩ = false ∧ w1.frozen? ⟨w.heap.size, 2, none⟩ = false ∧ w.heap.size < w1.heap.size := by
  have hs := hb.size
  refine ⟨(hb.cell (p := ⟨w.heap.size, 0, none⟩) (by simp)).trans (by simp [go_sem]), (hb.cell (p := ⟨w.heap.size, 1, none⟩) (by simp)).trans (by simp [go_sem]), (hb.cell (p := ⟨w.heap.size, 2, none⟩) (by simp)).trans (by simp [go_sem]),
    (hb.frozen (p := ⟨w.heap.size, 0, none⟩) (by simp)).trans (by simp [go_sem]), (hb.frozen (p := ⟨w.heap.size, 1, none⟩) (by simp)).trans (by simp [go_sem]), (hb.frozen (p := ⟨w.heap.size, 2, none⟩) (by simp)).trans (by simp [go_sem]), by simp at hs; omega⟩
theorem bel_of_res {w w1 : World} {o : Obj} (hb : Below (w.alloc o).heap.size (w.alloc o) w1) : Below w.heap.size w w1 :=
  ((Below.refl _ _).alloc (Nat.le_refl _) _).trans (hb.mono (by simp))

set_option maxHeartbeats 1000000 in
theorem tell_a (v : Nat) (w : World) (h1 : v < 18446744073709551616) (ha : popN (v % 2 ^ sizeN v) = 0 ∨ popN (v % 2 ^ sizeN v) = sizeN v) :
    Calls Tryd.prog 68 #[.int .u64 v] w fun e w' => e = .returned (.agg #[.int .i64 0, .int .i64 0, .int .i64 0]) ∧ Below w.heap.size w w' := by
  obtain ⟨sz, hsz⟩ : ∃ sz, sz = sizeN v := ⟨_, rfl⟩
  have hin := size_in v
  rw [← hsz] at hin ha
  have hl : lowN v (min sz 64) = v % 2 ^ sz := by unfold lowN; congr 2; omega
  obtain ⟨x, hx⟩ : ∃ x, x = v % 2 ^ sz := ⟨_, rfl⟩
  have hx1 : x < 18446744073709551616 := by rw [hx]; exact Nat.lt_of_le_of_lt (Nat.mod_le _ _) h1
  rw [← hx] at hl ha
  obtain ⟨n, hn⟩ : ∃ n, n = popN x := ⟨_, rfl⟩
  rw [← hn] at ha
  have HN := Lib.hid hn
  have HL := Lib.hid hl
  have HS := Lib.hid hsz
  clear hn hl hsz hx hin
  have hb : ((n : Int) == 0) = true ∨ ((n : Int) == 0) = false ∧ ((n : Int) == (sz : Int)) = true := by
    rcases ha with h | h
    · exact .inl (beq_iff_eq.2 (by omega))
    · by_cases h0 : n = 0
      · exact .inl (beq_iff_eq.2 (by omega))
      · exact .inr ⟨beq_eq_false_iff_ne.2 (by omega), beq_iff_eq.2 (by omega)⟩
  clear ha
  rcases hb with hb | ⟨hb, hb2⟩
  all_goals
    go_enter Tryd.func68, Tryd.ntmps68
    go_wp2_with (first | (go_at_call 103; refine (size_any v _ h1).mono ?_; rw [← HS.out]; rintro e w1 ⟨rfl, hb1⟩; obtain ⟨c0, c1, c2, f0, f1, f2, hz⟩ := res3 hb1) | (go_at_call 104; refine (low_any _ _ _ (by omega) (by omega)).mono ?_; simp only [Int.toNat_natCast]; rw [HL.out]; rintro e w2 ⟨rfl, rfl⟩) | (go_at_call 105; refine (onesC_any x _ hx1).mono ?_; rw [← HN.out]; rintro e w2 ⟨rfl, rfl⟩))
    refine bodyPost_ret (v := .agg #[.int .i64 0, .int .i64 0, .int .i64 0]) (by simp [results, Tryd.results68, go_sem, c0, c1, c2]) rfl ⟨rfl, ?_⟩
    exact (((bel_of_res hb1).setCell (Nat.le_refl _) _).setCell (Nat.le_refl _) _).setCell (Nat.le_refl _) _
end Go.Proofs.YtdjdbgilimjagaaDoor
