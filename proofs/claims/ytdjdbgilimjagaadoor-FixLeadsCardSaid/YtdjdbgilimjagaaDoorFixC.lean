/- Layer 16 of the program, walked: which kind of relocation a word may have. The library's table lies as it is laid. -/
import Derived.Test.YtdjdbgilimjagaaDoorFixB
set_option linter.unusedVariables false
set_option linter.unusedSimpArgs false
namespace Go.Proofs.YtdjdbgilimjagaaDoor
open Go.RowKit
set_option maxRecDepth 100000

/-- The first n operations, run; of the frame behind them two slots and the size are known. -/
theorem wpList_sized {P : Program} {ops : Array Oper} {Q : Exit → Act → World → Prop} {l : List Oper} {a : Act} {w : World} (n t r m : Nat) (v p : Value)
    (h : (runL P ops (l.take n) a w).map (fun x => (x.1.tmps[t]?, x.1.tmps[r]?, x.1.tmps.size, x.1.defers, x.2)) = some (some v, some p, m, [], w))
    (k : ∀ tm : Array Value, tm[t]? = some v → tm[r]? = some p → tm.size = m → wpList P ops Q (l.drop n) { tmps := tm, defers := [] } w) : wpList P ops Q l a w := by
  cases hr : runL P ops (l.take n) a w with
  | none => rw [hr] at h; cases h
  | some x =>
    obtain ⟨⟨tm, ds⟩, w'⟩ := x
    rw [hr] at h
    simp only [Option.map_some, Option.some.injEq, Prod.mk.injEq] at h
    obtain ⟨h1, h2, h3, h4, h5⟩ := h
    subst h4; subst h5
    have := wpList_run (Q := Q) (l.drop n) (l.take n) hr (k tm h1 h2 h3)
    rwa [List.take_append_drop] at this
def kindsV : Value := .agg #[.int .i64 0, .int .i64 0, .int .i64 0, .int .i64 0, .int .i64 7, .int .i64 0, .int .i64 0, .int .i64 0, .int .i64 0, .int .i64 0, .int .i64 0, .int .i64 0, .int .i64 0, .int .i64 0, .int .i64 0, .int .i64 0, .int .i64 0, .int .i64 0, .int .i64 0, .int .i64 0, .int .i64 0, .int .i64 0, .int .i64 8, .int .i64 8, .int .i64 9, .int .i64 9, .int .i64 4, .int .i64 5, .int .i64 6, .int .i64 2, .int .i64 2, .int .i64 3, .int .i64 3, .int .i64 3, .int .i64 0, .int .i64 0, .int .i64 0, .int .i64 0, .int .i64 0, .int .i64 0]
theorem kinds_index (op : Int) (h0 : 0 ≤ op) (h1 : op ≤ 39) : ∀ w : World, (Instr.index 114 kindsV (.int .i64 op)).run Tryd.prog w = .ok (.int .i64 (kindK op)) w := by
  rcases (show op = 0 ∨ op = 1 ∨ op = 2 ∨ op = 3 ∨ op = 4 ∨ op = 5 ∨ op = 6 ∨ op = 7 ∨ op = 8 ∨ op = 9 ∨ op = 10 ∨ op = 11 ∨ op = 12 ∨ op = 13 ∨ op = 14 ∨ op = 15 ∨ op = 16 ∨ op = 17 ∨ op = 18 ∨ op = 19 ∨ op = 20 ∨ op = 21 ∨ op = 22 ∨ op = 23 ∨ op = 24 ∨ op = 25 ∨ op = 26 ∨ op = 27 ∨ op = 28 ∨ op = 29 ∨ op = 30 ∨ op = 31 ∨ op = 32 ∨ op = 33 ∨ op = 34 ∨ op = 35 ∨ op = 36 ∨ op = 37 ∨ op = 38 ∨ op = 39 from by omega) with rfl | rfl | rfl | rfl | rfl | rfl | rfl | rfl | rfl | rfl | rfl | rfl | rfl | rfl | rfl | rfl | rfl | rfl | rfl | rfl | rfl | rfl | rfl | rfl | rfl | rfl | rfl | rfl | rfl | rfl | rfl | rfl | rfl | rfl | rfl | rfl | rfl | rfl | rfl | rfl
  · intro w; kernel_rfl
  · intro w; kernel_rfl
  · intro w; kernel_rfl
  · intro w; kernel_rfl
  · intro w; kernel_rfl
  · intro w; kernel_rfl
  · intro w; kernel_rfl
  · intro w; kernel_rfl
  · intro w; kernel_rfl
  · intro w; kernel_rfl
  · intro w; kernel_rfl
  · intro w; kernel_rfl
  · intro w; kernel_rfl
  · intro w; kernel_rfl
  · intro w; kernel_rfl
  · intro w; kernel_rfl
  · intro w; kernel_rfl
  · intro w; kernel_rfl
  · intro w; kernel_rfl
  · intro w; kernel_rfl
  · intro w; kernel_rfl
  · intro w; kernel_rfl
  · intro w; kernel_rfl
  · intro w; kernel_rfl
  · intro w; kernel_rfl
  · intro w; kernel_rfl
  · intro w; kernel_rfl
  · intro w; kernel_rfl
  · intro w; kernel_rfl
  · intro w; kernel_rfl
  · intro w; kernel_rfl
  · intro w; kernel_rfl
  · intro w; kernel_rfl
  · intro w; kernel_rfl
  · intro w; kernel_rfl
  · intro w; kernel_rfl
  · intro w; kernel_rfl
  · intro w; kernel_rfl
  · intro w; kernel_rfl
  · intro w; kernel_rfl
theorem kindOf_any (op : Int) (w : World) (h0 : 0 ≤ op) (h1 : op ≤ 39) : Calls Tryd.prog 48 #[.int .i64 op] w fun e w' => e = .returned (.int .i64 (kindK op)) ∧ w = w' := by
  have hix := kinds_index op h0 h1
  go_enter Tryd.func48, Tryd.ntmps48
  iterate 11 go_step
  refine wpList_sized 2 3 4 6 kindsV (.int .i64 op) (by kernel_rfl) ?_
  intro tm h3 h4 hs
  have HS := Lib.hid hs
  clear hs
  simp only [List.drop]
  go_wp2
  all_goals first
    | (exfalso; have := HS.out; omega)
    | (have hs := HS.out
       exact bodyPost_ret (v := .int .i64 (kindK op)) (by simp [results, Tryd.results48, go_sem, hs]) rfl ⟨rfl, rfl⟩)

theorem fits_none (kind : Int) (x : Nat) (w : World) (hx : x < 4294967296) (HT : Hid (Tab w)) (HN : Hid (decO x = none)) :
    Calls Tryd.prog 24 #[.int .i64 kind, .int .u32 x] w fun e w' => e = .returned (.bool false) ∧ Below w.heap.size w w' := by
  have c1 : Hid (decI x = Ins.zero) := Lib.hid (by unfold decI; rw [HN.out]; rfl)
  have c2 : Hid (decE x = 11) := Lib.hid (by unfold decE; rw [HN.out]; rfl)
  go_enter Tryd.func24, Tryd.ntmps24
  go_wp2_with fail
  refine (dec_at x _ hx HT _ _ c1 c2).mono ?_
  rintro e w1 ⟨rfl, hb1⟩
  go_wp2_with fail
  go_ret
  exact ⟨rfl, bt2 hb1 (balloc w1 _)⟩
set_option maxHeartbeats 1000000 in
theorem fits_some (kind : Int) (x : Nat) (i : Ins) (w : World) (hx : x < 4294967296) (HT : Hid (Tab w)) (HN : Hid (decO x = some i)) :
    Calls Tryd.prog 24 #[.int .i64 kind, .int .u32 x] w fun e w' => e = .returned (.bool (fitsI kind i)) ∧ Below w.heap.size w w' := by
  have c1 : Hid (decI x = i) := Lib.hid (by unfold decI; rw [HN.out]; rfl)
  have c2 : Hid (decE x = 0) := Lib.hid (by unfold decE; rw [HN.out]; rfl)
  obtain ⟨_, ho, _, ho1, ho2⟩ := dec_word x hx i HN.out
  have hop0 : 0 ≤ i.op := by omega
  have hop1 : i.op ≤ 39 := by omega
  unfold fitsI
  clear ho ho1 ho2
  obtain ⟨op, d, n, m, a, imm, mask, shift, amount, cond⟩ := i
  dsimp only at hop0 hop1 ⊢
  by_cases h1 : imm = 0
  · subst h1
    by_cases h2 : amount = 0
    · subst h2
      by_cases h3 : kind = 0
      · subst h3
        go_enter Tryd.func24, Tryd.ntmps24
        go_wp2_with fail
        refine (dec_at x _ hx HT _ _ c1 c2).mono ?_
        rintro e w1 ⟨rfl, hb1⟩
        go_wp2_with fail
        go_ret
        exact ⟨rfl, bt2 hb1 (balloc w1 _)⟩
      · have h3' : (kind != 0) = true := by simpa using h3
        go_enter Tryd.func24, Tryd.ntmps24
        go_wp2_with fail
        refine (dec_at x _ hx HT _ _ c1 c2).mono ?_
        rintro e w1 ⟨rfl, hb1⟩
        go_wp2_with (go_at_call 48; refine (kindOf_any op _ hop0 hop1).mono ?_; rintro e w2 ⟨rfl, rfl⟩)
        go_ret
        exact ⟨ret_bool (by simp [h3]), bt2 hb1 (balloc w1 _)⟩
    · have h2' : (amount == 0) = false := by simpa using h2
      go_enter Tryd.func24, Tryd.ntmps24
      go_wp2_with fail
      refine (dec_at x _ hx HT _ _ c1 c2).mono ?_
      rintro e w1 ⟨rfl, hb1⟩
      go_wp2_with fail
      go_ret
      exact ⟨ret_bool (by simp [h2]), bt2 hb1 (balloc w1 _)⟩
  · have h1' : (imm == 0) = false := by simpa using h1
    go_enter Tryd.func24, Tryd.ntmps24
    go_wp2_with fail
    refine (dec_at x _ hx HT _ _ c1 c2).mono ?_
    rintro e w1 ⟨rfl, hb1⟩
    go_wp2_with fail
    go_ret
    exact ⟨ret_bool (by simp [h1]), bt2 hb1 (balloc w1 _)⟩
/-- Fits, its answer given. -/
theorem fits_at (kind : Int) (x : Nat) (w : World) (hx : x < 4294967296) (HT : Hid (Tab w)) (B : Bool) (HB : Hid (fitsM kind x = B)) :
    Calls Tryd.prog 24 #[.int .i64 kind, .int .u32 x] w fun e w' => e = .returned (.bool B) ∧ Below w.heap.size w w' := by
  rw [← HB.out]
  unfold fitsM
  cases h : decO x with
  | none => exact fits_none kind x w hx HT (Lib.hid h)
  | some i => exact fits_some kind x i w hx HT (Lib.hid h)

/-- What Word answers. -/
def wordM (kind : Int) (x f t : Nat) : Nat × Int :=
  if kind ≤ 1 ∨ 9 < kind then (0, 1)
  else if fitsM kind x = false then (0, 11)
  else if (valueM kind f t).2 ≠ 0 then (0, (valueM kind f t).2)
  else (((decI x).setImm (valK kind f t)).word, 0)
set_option maxHeartbeats 1000000 in
theorem fword_yes (kind : Int) (x f t : Nat) (i : Ins) (v : Int) (V : Nat) (w : World) (hx : x < 4294967296) (hf : f < 18446744073709551616) (ht : t < 18446744073709551616) (HT : Hid (Tab w)) (h0 : 2 ≤ kind) (h1 : kind ≤ 9)
    (HF : Hid (fitsM kind x = true)) (HV : Hid ((valueM kind f t).1 = V)) (HE : Hid ((valueM kind f t).2 = 0)) (HN : Hid (decO x = some i)) (HW : wrap64 (V : Int) = v) (HB : Hid ((i.setImm v).isB = true)) :
    Calls Tryd.prog 22 #[.int .i64 kind, .int .u32 x, .int .u64 f, .int .u64 t] w fun e w' => e = .returned (.tuple #[.int .u32 ((i.setImm v).word : Nat), .int .i64 0]) ∧ Below w.heap.size w w' := by
  have c1 : Hid (decI x = i) := Lib.hid (by unfold decI; rw [HN.out]; rfl)
  have c2 : Hid (decE x = 0) := Lib.hid (by unfold decE; rw [HN.out]; rfl)
  have hm := dec_mask x i HN.out
  obtain ⟨U, hU⟩ : ∃ U, (i.setImm v).word = U := ⟨_, rfl⟩
  have HU : Hid (encW (i.setImm v) = U) := Lib.hid (by unfold encW; rw [HB.out, if_pos rfl]; exact hU)
  have HUE : Hid (encE (i.setImm v) = 0) := Lib.hid (by unfold encE; rw [HB.out, if_pos rfl])
  rw [hU]
  clear hU
  go_enter Tryd.func22, Tryd.ntmps22
  go_wp2_with fail
  refine (fits_at kind x _ hx HT true HF).mono ?_
  rintro e w1 ⟨rfl, hb1⟩
  go_wp2_with fail
  refine (value_at kind f t _ hf ht V 0 HV HE).mono ?_
  rintro e w2 ⟨rfl, hb2⟩
  go_wp2_with fail
  refine (dec_at x _ hx (Lib.hid (HT.out.below (bt2 hb1 hb2))) _ _ c1 c2).mono ?_
  rintro e w3 ⟨rfl, hb3⟩
  go_wp2_with fail
  refine (enc_any (i.setImm v) _ hm (Lib.hid (HT.out.below (bt2 hb1 (bt2 hb2 (bt2 hb3 (balloc w3 _)))))) _ _ HU HUE).mono ?_
  rintro e w4 ⟨rfl, hb4⟩
  go_wp2_with fail
  go_ret2
  exact ⟨rfl, bt2 hb1 (bt2 hb2 (bt2 hb3 (bel_of_res hb4)))⟩
set_option maxHeartbeats 1000000 in
theorem fword_value (kind : Int) (x f t : Nat) (V : Nat) (E : Int) (w : World) (hx : x < 4294967296) (hf : f < 18446744073709551616) (ht : t < 18446744073709551616) (HT : Hid (Tab w)) (h0 : 2 ≤ kind) (h1 : kind ≤ 9)
    (HF : Hid (fitsM kind x = true)) (HV : Hid ((valueM kind f t).1 = V)) (HE : Hid ((valueM kind f t).2 = E)) (hE : (E != 0) = true) :
    Calls Tryd.prog 22 #[.int .i64 kind, .int .u32 x, .int .u64 f, .int .u64 t] w fun e w' => e = .returned (.tuple #[.int .u32 0, .int .i64 E]) ∧ Below w.heap.size w w' := by
  go_enter Tryd.func22, Tryd.ntmps22
  go_wp2_with fail
  refine (fits_at kind x _ hx HT true HF).mono ?_
  rintro e w1 ⟨rfl, hb1⟩
  go_wp2_with fail
  refine (value_at kind f t _ hf ht V E HV HE).mono ?_
  rintro e w2 ⟨rfl, hb2⟩
  go_wp2_with fail
  go_ret2
  exact ⟨rfl, bt2 hb1 hb2⟩
theorem fword_fits (kind : Int) (x f t : Nat) (w : World) (hx : x < 4294967296) (HT : Hid (Tab w)) (h0 : 2 ≤ kind) (h1 : kind ≤ 9) (HF : Hid (fitsM kind x = false)) :
    Calls Tryd.prog 22 #[.int .i64 kind, .int .u32 x, .int .u64 f, .int .u64 t] w fun e w' => e = .returned (.tuple #[.int .u32 0, .int .i64 11]) ∧ Below w.heap.size w w' := by
  go_enter Tryd.func22, Tryd.ntmps22
  go_wp2_with fail
  refine (fits_at kind x _ hx HT false HF).mono ?_
  rintro e w1 ⟨rfl, hb1⟩
  go_wp2_with fail
  go_ret2
  exact ⟨rfl, hb1⟩
theorem fword_any (kind : Int) (x f t : Nat) (w : World) (hx : x < 4294967296) (hf : f < 18446744073709551616) (ht : t < 18446744073709551616) (HT : Hid (Tab w)) :
    Calls Tryd.prog 22 #[.int .i64 kind, .int .u32 x, .int .u64 f, .int .u64 t] w fun e w' => e = .returned (.tuple #[.int .u32 ((wordM kind x f t).1 : Nat), .int .i64 (wordM kind x f t).2]) ∧ Below w.heap.size w w' := by
  unfold wordM
  by_cases hg : kind ≤ 1 ∨ 9 < kind
  · rw [if_pos hg]
    by_cases h1 : kind ≤ 1
    · go_enter Tryd.func22, Tryd.ntmps22
      go_wp2_with fail
      go_ret2
      exact ⟨rfl, Below.refl _ _⟩
    · have h9 : 9 < kind := by omega
      go_enter Tryd.func22, Tryd.ntmps22
      go_wp2_with fail
      go_ret2
      exact ⟨rfl, Below.refl _ _⟩
  rw [if_neg hg]
  cases hF : fitsM kind x with
  | false => rw [if_pos rfl]; exact fword_fits kind x f t w hx HT (by omega) (by omega) (Lib.hid hF)
  | true =>
    rw [if_neg (by decide)]
    by_cases hE : (valueM kind f t).2 ≠ 0
    · rw [if_pos hE]
      exact fword_value kind x f t _ _ w hx hf ht HT (by omega) (by omega) (Lib.hid hF) (Lib.hid rfl) (Lib.hid rfl) (by simpa using hE)
    · rw [if_neg hE]
      have hE : (valueM kind f t).2 = 0 := Decidable.not_not.1 hE
      obtain ⟨i, hN, hfi, _, hB, hW⟩ := fix_word kind x f t hx (by omega) hF hE
      have hI : decI x = i := by unfold decI; rw [hN]; rfl
      rw [hI]
      exact fword_yes kind x f t i _ _ w hx hf ht HT (by omega) (by omega) (Lib.hid hF) (Lib.hid rfl) (Lib.hid hE) (Lib.hid hN) hW (Lib.hid hB)
/-- Word, its answer given. -/
theorem fword_at (kind : Int) (x f t : Nat) (w : World) (hx : x < 4294967296) (hf : f < 18446744073709551616) (ht : t < 18446744073709551616) (HT : Hid (Tab w)) (U : Nat) (E : Int) (HU : Hid ((wordM kind x f t).1 = U)) (HE : Hid ((wordM kind x f t).2 = E)) :
    Calls Tryd.prog 22 #[.int .i64 kind, .int .u32 x, .int .u64 f, .int .u64 t] w fun e w' => e = .returned (.tuple #[.int .u32 (U : Int), .int .i64 E]) ∧ Below w.heap.size w w' := by
  rw [← HU.out, ← HE.out]
  exact fword_any kind x f t w hx hf ht HT
end Go.Proofs.YtdjdbgilimjagaaDoor
