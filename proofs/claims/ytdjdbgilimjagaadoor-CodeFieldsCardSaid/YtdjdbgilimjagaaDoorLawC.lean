/- The law CodeBit, walked: a bit of no field that is turned makes another operation, or none; one of a field makes no other one. The library's table lies as it is laid. -/
import Derived.Test.YtdjdbgilimjagaaDoorLawB
import Derived.Deep.QuietTactic
import Derived.BigQuiet
import Derived.IntWalk
set_option linter.unusedVariables false
set_option linter.unusedSimpArgs false
namespace Go.Proofs.YtdjdbgilimjagaaDoor
open Go.RowKit
set_option maxRecDepth 100000

theorem field_int (x : Nat) (a : Int) (w : World) (hx : x < 4294967296) (h0 : 0 ≤ a) (h1 : a < 32) (X : Nat) (HX : Hid (fieldN x a.toNat 1 = X)) :
    Calls Tryd.prog 15 #[.int .u32 x, .int .i64 a, .int .i64 1] w fun e w' => e = .returned (.tuple #[.int .u32 X, .int .i64 0]) ∧ Below w.heap.size w w' := by
  obtain ⟨k, rfl⟩ : ∃ k : Nat, a = (k : Int) := ⟨a.toNat, by omega⟩
  have := field_nat x k 1 X w hx (by omega) (by omega) (Lib.hid (by rw [← HX.out, Int.toNat_natCast]))
  exact this

set_option maxHeartbeats 1000000 in
/-- No operation, or no bit. -/
theorem bit_no (x : Nat) (a : Int) (w : World) (hx : x < 4294967296) (HT : Hid (Tab w)) (h : opOf x = 0 ∨ ¬ (0 ≤ a ∧ a < 32)) :
    Calls Tryd.prog 4 #[.int .u32 x, .int .i64 a] w fun e w' => e = .returned (.bool true) ∧ Below w.heap.size w w' := by
  by_cases ha : 0 ≤ a ∧ a < 32
  · have h0 : opOf x = 0 := h.resolve_right (fun hn => hn ha)
    obtain ⟨X, hX⟩ : ∃ X, fieldN x a.toNat 1 = X := ⟨_, rfl⟩
    obtain ⟨ha0, ha1⟩ := ha
    have HX := Lib.hid hX
    have HO := Lib.hid h0
    clear h0 hX h
    go_enter Tryd.func4, Tryd.ntmps4
    go_wp2_with fail
    refine (op_any x _ hx _ HO).mono ?_
    rintro e w1 ⟨rfl, hb1⟩
    go_wp2_with fail
    refine (field_int x a _ hx ha0 ha1 X HX).mono ?_
    rintro e w2 ⟨rfl, hb2⟩
    go_wp2_with fail
    refine (coded_any _ (Lib.hid (HT.out.below (bt2 hb1 hb2)))).mono ?_
    rintro e w3 ⟨rfl, hb3⟩
    go_wp2_with fail
    go_ret
    exact ⟨rfl, bt2 hb1 (bt2 hb2 hb3)⟩
  · have hr : rightB a 1 = false := by
      unfold rightB; simp only [decide_eq_false_iff_not]; omega
    obtain ⟨o, ho⟩ : ∃ o, opOf x = o := ⟨_, rfl⟩
    have hob : 0 ≤ o ∧ o ≤ 39 := by
      rcases op_spec x with ⟨h0, _⟩ | ⟨k, _, _, hk, _⟩ <;> omega
    have HO := Lib.hid ho
    have HR := Lib.hid hr
    clear h ho ha hr
    by_cases ho0 : o = 0
    · subst ho0
      go_enter Tryd.func4, Tryd.ntmps4
      go_wp2_with fail
      refine (op_any x _ hx _ HO).mono ?_
      rintro e w1 ⟨rfl, hb1⟩
      go_wp2_with fail
      refine (field_no _ a 1 _ HR.out).mono ?_
      rintro e w2 ⟨rfl, rfl⟩
      go_wp2_with fail
      refine (coded_any _ (Lib.hid (HT.out.below hb1))).mono ?_
      rintro e w3 ⟨rfl, hb3⟩
      go_wp2_with fail
      go_ret
      exact ⟨rfl, bt2 hb1 hb3⟩
    · have h1 : ¬ o < 1 := by omega
      have h2 : ¬ 39 < o := by omega
      have h3 : (o == 0) = false := by simpa using ho0
      clear ho0
      go_enter Tryd.func4, Tryd.ntmps4
      go_wp2_with fail
      refine (op_any x _ hx _ HO).mono ?_
      rintro e w1 ⟨rfl, hb1⟩
      go_wp2_with fail
      refine (field_no _ a 1 _ HR.out).mono ?_
      rintro e w2 ⟨rfl, rfl⟩
      go_wp2_with fail
      refine (coded_any _ (Lib.hid (HT.out.below hb1))).mono ?_
      rintro e w3 ⟨rfl, hb3⟩
      go_wp2_with fail
      refine (coded_any _ (Lib.hid (HT.out.below (bt2 hb1 hb3)))).mono ?_
      rintro e w4 ⟨rfl, hb4⟩
      go_wp2_with fail
      go_ret
      exact ⟨rfl, bt2 hb1 (bt2 hb3 hb4)⟩

theorem flat_at (L : List (Int × Int)) (j : Nat) (p : Int × Int) (hj : L[j]? = some p) (i : Nat) (hi : i < 2) : (L.flatMap fun p => [Value.int .i64 p.1, .int .i64 p.2])[j * 2 + i]? = ([Value.int .i64 p.1, .int .i64 p.2] : List Value)[i]? := by
  induction L generalizing j with
  | nil => simp at hj
  | cons q l ih =>
    rw [List.flatMap_cons]
    cases j with
    | zero =>
      simp at hj; subst hj
      rw [List.getElem?_append_left (by simp; omega), Nat.zero_mul, Nat.zero_add]
    | succ j =>
      rw [List.getElem?_append_right (by simp; omega), show (j + 1) * 2 + i - ([Value.int .i64 q.1, .int .i64 q.2] : List Value).length = j * 2 + i from by simp; omega]
      exact ih j (by simpa using hj)
theorem any_snoc (a : Int) (L : List (Int × Int)) (j : Nat) (p : Int × Int) (hj : L[j]? = some p) : inB a (L.take (j + 1)) = (inB a (L.take j) || inP a p) := by
  rw [take_at L j p hj]
  unfold inB
  rw [List.any_append]
  simp

set_option maxHeartbeats 4000000 in
/-- An operation, and a bit of the word. -/
theorem bit_yes (x k a : Nat) (w : World) (hx : x < 4294967296) (HT : Hid (Tab w)) (HO : Hid (opOf x = (k : Int))) (h1 : 1 ≤ k) (hk : k ≤ 39) (ha : a < 32) :
    Calls Tryd.prog 4 #[.int .u32 x, .int .i64 a] w fun e w' => e = .returned (.bool true) ∧ Below w.heap.size w w' := by
  obtain ⟨X, hX⟩ : ∃ X, fieldN x a 1 = X := ⟨_, rfl⟩
  have hX2 : X < 2 := hX ▸ field_lt x a 1
  have HX : Hid (fieldN x (a : Int).toNat 1 = X) := Lib.hid (by rw [Int.toNat_natCast]; exact hX)
  obtain ⟨sh, hsh⟩ : ∃ sh, shapeI (k : Int) = sh := ⟨_, rfl⟩
  have hsb := shapeI_bd (k : Int)
  have hfl := flip_op x a k hx ha h1 hk HO.out
  rw [hsh] at hsb hfl
  have HF := Lib.hid hfl
  have hfx := flip_lt x a hx ha
  have HSR : ∀ w, Calls Tryd.prog 17 #[.int .i64 k] w fun e w' => e = .returned (.int .i64 sh) ∧ Below w.heap.size w w' := fun w => by
    rw [← hsh]; exact shape_ref (k : Int) w (by omega) (by omega)
  obtain ⟨p, hp⟩ : ∃ p, (2 : Nat) ^ a = p := ⟨_, rfl⟩
  have hpow : p < 4294967296 := hp ▸ Nat.lt_of_le_of_lt (Nat.pow_le_pow_right (n := 2) (by decide) (show a ≤ 31 by omega)) (by decide)
  have e1 : IntKind.u32.wrap ((2 : Int) ^ a) = (p : Int) := by
    rw [← cast_pow, hp, IntKind.wrap_u32]; omega
  obtain ⟨F, hFl⟩ : ∃ F, flipN x a = F := ⟨_, rfl⟩
  rw [hFl] at hfx
  have hF2 : F = if X = 1 then x - p else x + p := by
    rw [← hFl, ← hp, ← hX]; rfl
  have hF3 : X = 1 → p ≤ x := fun h => by
    rw [← hp]
    rw [h] at hX
    unfold fieldN at hX
    by_cases hl : 2 ^ a ≤ x
    · exact hl
    · rw [Nat.div_eq_of_lt (by omega)] at hX; cases hX
  obtain ⟨Y, hY⟩ : ∃ Y, IntKind.u32.wrap ((x : Int) + (p : Int)) = Y := ⟨_, rfl⟩
  have hY0 : X = 0 → Y = (F : Int) := fun h => by
    rw [← hY, hF2, if_neg (by omega), IntKind.wrap_u32]
    rw [h, if_neg (by decide)] at hF2
    omega
  have hY1 : X = 1 → IntKind.u32.wrap ((x : Int) - (p : Int)) = (F : Int) := fun h => by
    have := hF3 h
    rw [hF2, if_pos h, IntKind.wrap_u32]
    omega
  have HFL := Lib.hid hFl
  have HHS := Lib.hid HSR
  have HY0 := Lib.hid hY0
  have HY1 := Lib.hid hY1
  clear hfl hsh hX hFl HSR hp hF2 hF3 hY0 hY1
  have hX3 : X = 0 ∨ X = 1 := by omega
  clear hX2
  rcases hX3 with rfl | rfl
  · rw [HY0.out rfl] at hY
    go_enter Tryd.func4, Tryd.ntmps4
    go_wp2_with fail
    refine (op_any x _ hx _ HO).mono ?_
    rintro e w1 ⟨rfl, hb1⟩
    go_wp2_with fail
    refine (field_int x a _ hx (by omega) (by omega) 0 HX).mono ?_
    rintro e w2 ⟨rfl, hb2⟩
    go_wp2_with fail
    refine (HHS.out _).mono ?_
    rintro e w3 ⟨rfl, hb3⟩
    go_wp2_with fail
    refine (places_any sh _ hsb.1 hsb.2).mono ?_
    rintro e w4 ⟨v, rfl, hb4, hpl⟩
    go_wp2_with fail
    have HB4 := Lib.hid (bt2 hb1 (bt2 hb2 (bt2 hb3 hb4)))
    have HT4 := Lib.hid (HT.out.below HB4.out)
    clear hb1 hb2 hb3 hb4
    obtain ⟨L, hL⟩ : ∃ L, placesL sh = L := ⟨_, rfl⟩
    rw [hL] at hpl
    have HLL := Lib.hid hL
    have hL5 : L.length ≤ 1000 := by
      rw [← hL]
      have h5 : (List.range 17).all (fun s => decide ((placesL (s : Int)).length ≤ 1000)) = true := by decide +kernel
      have h5 := List.all_eq_true.1 h5 sh.toNat (List.mem_range.2 (by omega))
      rw [Int.toNat_of_nonneg hsb.1] at h5
      exact of_decide_eq_true h5
    clear hL
    rcases hpl with ⟨rfl, rfl⟩ | ⟨b, cap, rfl, hrow⟩
    · obtain ⟨o, ho⟩ : ∃ o, opOf F = o := ⟨_, rfl⟩
      have hok : (o == (k : Int)) = false := by
        have h := HF.out.2 (by rw [HLL.out]; rfl)
        rw [HFL.out, ho] at h
        simpa using h
      have HOF := Lib.hid ho
      clear ho
      go_loop [9, 11] (fun t i => t = .bool false ∧ i = .int .i64 0) (fun _ _ => 0)
      case atStart => exact ⟨rfl, rfl⟩
      case round =>
        obtain ⟨rfl, rfl⟩ := hrel
        go_wp2_with fail
        refine (coded_any _ HT4).mono ?_
        rintro e w5 ⟨rfl, hb5⟩
        go_wp2_with (go_at_call 14; refine (op_any F _ hfx o HOF).mono ?_; rintro e w6 ⟨rfl, hb6⟩)
        go_ret
        exact ⟨rfl, HB4.out.trans ((bt2 hb5 hb6).mono HB4.out.size)⟩
    · have hbw : b < w4.heap.size := by
        by_cases hlt : b < w4.heap.size
        · exact hlt
        · rw [Array.getElem?_eq_none (by omega)] at hrow; cases hrow
      have hcell : ∀ j p, L[j]? = some p → w4.cell? ⟨b, j * 2, none⟩ = some (.int .i64 p.1) ∧ w4.cell? ⟨b, j * 2 + 1, none⟩ = some (.int .i64 p.2) := fun j p hj => by
        have h0 := flat_at L j p hj 0 (by omega)
        have h1 := flat_at L j p hj 1 (by omega)
        have c0 := cell_of_row _ b (j * 2) _ 39 (0, 0) hrow
        have c1 := cell_of_row _ b (j * 2 + 1) _ 39 (0, 0) hrow
        rw [List.getElem?_toArray] at c0 c1
        exact ⟨c0.trans h0, c1.trans h1⟩
      have HC := Lib.hid hcell
      clear hcell hrow
      go_loopw [9, 11] (fun t i wr => ∃ (j : Nat) (B : Bool), j ≤ L.length ∧ i = .int .i64 j ∧ t = .bool B ∧ Hid (B = inB (a : Int) (L.take j)) ∧ Below w4.heap.size w4 wr) (fun _ i _ => L.length - (intOf i).toNat)
      case atStart => exact ⟨0, false, by omega, rfl, rfl, Lib.hid rfl, Below.refl _ _⟩
      case round =>
        obtain ⟨j, B, hj, rfl, rfl, HBB, hb⟩ := hrel
        by_cases hjl : j < L.length
        · have hf : L[j]? = some L[j] := List.getElem?_eq_getElem hjl
          generalize L[j] = pq at hf
          obtain ⟨p1, p2⟩ := pq
          obtain ⟨c0, c1⟩ := HC.out j _ hf
          have d0 := (hb.cell (p := ⟨b, j * 2, none⟩) hbw).trans c0
          have d1 := (hb.cell (p := ⟨b, j * 2 + 1, none⟩) hbw).trans c1
          have hpb := place_bd sh hsb.1 hsb.2 (p1, p2) (by rw [HLL.out]; exact List.mem_of_getElem? hf)
          have hsn := any_snoc (a : Int) L j (p1, p2) hf
          rw [← HBB.out] at hsn
          have hin : inP (a : Int) (p1, p2) = (decide (p1 ≤ (a : Int)) && decide ((a : Int) < p1 + p2)) := rfl
          rw [hin] at hsn
          have HSN := Lib.hid hsn
          dsimp only at d0 d1 hpb
          clear c0 c1 hf hsn hin
          have ew : IntKind.i64.wrap (p1 + p2) = p1 + p2 := IntWalk.i64_in _ (by omega)
          cases B with
          | true =>
            go_wp2_with fail
            go_quiet (fail)
            go_wp2_with fail
            exact ⟨⟨j + 1, true, by omega, by go_num, rfl, Lib.hid (by rw [HSN.out]; rfl), below_drewN hb _⟩, by simp [intOf]; omega⟩
          | false =>
            by_cases q1 : p1 ≤ (a : Int)
            · have t1 : decide (p1 ≤ (a : Int)) = true := by simpa using q1
              by_cases q2 : (a : Int) < p1 + p2
              · have t2 : decide ((a : Int) < p1 + p2) = true := by simpa using q2
                have HS2 : Hid (true = inB (a : Int) (L.take (j + 1))) := Lib.hid (by rw [HSN.out, t1, t2]; rfl)
                go_wp2_with fail
                go_quiet (fail)
                go_wp2_with fail
                exact ⟨⟨j + 1, true, by omega, by go_num, rfl, HS2, below_drewN hb _⟩, by simp [intOf]; omega⟩
              · have t2 : decide ((a : Int) < p1 + p2) = false := by simpa using q2
                have HS2 : Hid (false = inB (a : Int) (L.take (j + 1))) := Lib.hid (by rw [HSN.out, t1, t2]; rfl)
                go_wp2_with fail
                go_quiet (fail)
                go_wp2_with fail
                exact ⟨⟨j + 1, false, by omega, by go_num, rfl, HS2, below_drewN hb _⟩, by simp [intOf]; omega⟩
            · have t1 : decide (p1 ≤ (a : Int)) = false := by simpa using q1
              have HS2 : Hid (false = inB (a : Int) (L.take (j + 1))) := Lib.hid (by rw [HSN.out, t1]; rfl)
              go_wp2_with fail
              go_quiet (fail)
              go_wp2_with fail
              exact ⟨⟨j + 1, false, by omega, by go_num, rfl, HS2, below_drewN hb _⟩, by simp [intOf]; omega⟩
        · have hBL : B = inB (a : Int) (placesL sh) := by
            rw [HLL.out, HBB.out, List.take_of_length_le (by omega)]
          have HTr := Lib.hid (HT4.out.below hb)
          have HBr := Lib.hid (HB4.out.trans (hb.mono HB4.out.size))
          have HBL := Lib.hid hBL
          clear hBL
          cases B with
          | true =>
            have HOF : Hid (opOf F = (k : Int)) := Lib.hid (by rw [← HFL.out]; exact HF.out.1 HBL.out.symm)
            go_wp2_with fail
            refine (coded_any _ HTr).mono ?_
            rintro e w5 ⟨rfl, hb5⟩
            go_wp2_with (go_at_call 14; refine (op_any F _ hfx (k : Int) HOF).mono ?_; rintro e w6 ⟨rfl, hb6⟩)
            go_ret
            exact ⟨rfl, HBr.out.trans ((bt2 hb5 hb6).mono HBr.out.size)⟩
          | false =>
            obtain ⟨o, ho⟩ : ∃ o, opOf F = o := ⟨_, rfl⟩
            have hok : (o == (k : Int)) = false := by
              have h := HF.out.2 HBL.out.symm
              rw [HFL.out, ho] at h
              simpa using h
            have HOF := Lib.hid ho
            clear ho
            go_wp2_with fail
            refine (coded_any _ HTr).mono ?_
            rintro e w5 ⟨rfl, hb5⟩
            go_wp2_with (go_at_call 14; refine (op_any F _ hfx o HOF).mono ?_; rintro e w6 ⟨rfl, hb6⟩)
            go_ret
            exact ⟨rfl, HBr.out.trans ((bt2 hb5 hb6).mono HBr.out.size)⟩
  · have hY1 := HY1.out rfl
    go_enter Tryd.func4, Tryd.ntmps4
    go_wp2_with fail
    refine (op_any x _ hx _ HO).mono ?_
    rintro e w1 ⟨rfl, hb1⟩
    go_wp2_with fail
    refine (field_int x a _ hx (by omega) (by omega) 1 HX).mono ?_
    rintro e w2 ⟨rfl, hb2⟩
    go_wp2_with fail
    refine (HHS.out _).mono ?_
    rintro e w3 ⟨rfl, hb3⟩
    go_wp2_with fail
    refine (places_any sh _ hsb.1 hsb.2).mono ?_
    rintro e w4 ⟨v, rfl, hb4, hpl⟩
    go_wp2_with fail
    have HB4 := Lib.hid (bt2 hb1 (bt2 hb2 (bt2 hb3 hb4)))
    have HT4 := Lib.hid (HT.out.below HB4.out)
    clear hb1 hb2 hb3 hb4
    obtain ⟨L, hL⟩ : ∃ L, placesL sh = L := ⟨_, rfl⟩
    rw [hL] at hpl
    have HLL := Lib.hid hL
    have hL5 : L.length ≤ 1000 := by
      rw [← hL]
      have h5 : (List.range 17).all (fun s => decide ((placesL (s : Int)).length ≤ 1000)) = true := by decide +kernel
      have h5 := List.all_eq_true.1 h5 sh.toNat (List.mem_range.2 (by omega))
      rw [Int.toNat_of_nonneg hsb.1] at h5
      exact of_decide_eq_true h5
    clear hL
    rcases hpl with ⟨rfl, rfl⟩ | ⟨b, cap, rfl, hrow⟩
    · obtain ⟨o, ho⟩ : ∃ o, opOf F = o := ⟨_, rfl⟩
      have hok : (o == (k : Int)) = false := by
        have h := HF.out.2 (by rw [HLL.out]; rfl)
        rw [HFL.out, ho] at h
        simpa using h
      have HOF := Lib.hid ho
      clear ho
      go_loop [9, 11] (fun t i => t = .bool false ∧ i = .int .i64 0) (fun _ _ => 0)
      case atStart => exact ⟨rfl, rfl⟩
      case round =>
        obtain ⟨rfl, rfl⟩ := hrel
        go_wp2_with fail
        refine (coded_any _ HT4).mono ?_
        rintro e w5 ⟨rfl, hb5⟩
        go_wp2_with (go_at_call 14; refine (op_any F _ hfx o HOF).mono ?_; rintro e w6 ⟨rfl, hb6⟩)
        go_ret
        exact ⟨rfl, HB4.out.trans ((bt2 hb5 hb6).mono HB4.out.size)⟩
    · have hbw : b < w4.heap.size := by
        by_cases hlt : b < w4.heap.size
        · exact hlt
        · rw [Array.getElem?_eq_none (by omega)] at hrow; cases hrow
      have hcell : ∀ j p, L[j]? = some p → w4.cell? ⟨b, j * 2, none⟩ = some (.int .i64 p.1) ∧ w4.cell? ⟨b, j * 2 + 1, none⟩ = some (.int .i64 p.2) := fun j p hj => by
        have h0 := flat_at L j p hj 0 (by omega)
        have h1 := flat_at L j p hj 1 (by omega)
        have c0 := cell_of_row _ b (j * 2) _ 39 (0, 0) hrow
        have c1 := cell_of_row _ b (j * 2 + 1) _ 39 (0, 0) hrow
        rw [List.getElem?_toArray] at c0 c1
        exact ⟨c0.trans h0, c1.trans h1⟩
      have HC := Lib.hid hcell
      clear hcell hrow
      go_loopw [9, 11] (fun t i wr => ∃ (j : Nat) (B : Bool), j ≤ L.length ∧ i = .int .i64 j ∧ t = .bool B ∧ Hid (B = inB (a : Int) (L.take j)) ∧ Below w4.heap.size w4 wr) (fun _ i _ => L.length - (intOf i).toNat)
      case atStart => exact ⟨0, false, by omega, rfl, rfl, Lib.hid rfl, Below.refl _ _⟩
      case round =>
        obtain ⟨j, B, hj, rfl, rfl, HBB, hb⟩ := hrel
        by_cases hjl : j < L.length
        · have hf : L[j]? = some L[j] := List.getElem?_eq_getElem hjl
          generalize L[j] = pq at hf
          obtain ⟨p1, p2⟩ := pq
          obtain ⟨c0, c1⟩ := HC.out j _ hf
          have d0 := (hb.cell (p := ⟨b, j * 2, none⟩) hbw).trans c0
          have d1 := (hb.cell (p := ⟨b, j * 2 + 1, none⟩) hbw).trans c1
          have hpb := place_bd sh hsb.1 hsb.2 (p1, p2) (by rw [HLL.out]; exact List.mem_of_getElem? hf)
          have hsn := any_snoc (a : Int) L j (p1, p2) hf
          rw [← HBB.out] at hsn
          have hin : inP (a : Int) (p1, p2) = (decide (p1 ≤ (a : Int)) && decide ((a : Int) < p1 + p2)) := rfl
          rw [hin] at hsn
          have HSN := Lib.hid hsn
          dsimp only at d0 d1 hpb
          clear c0 c1 hf hsn hin
          have ew : IntKind.i64.wrap (p1 + p2) = p1 + p2 := IntWalk.i64_in _ (by omega)
          cases B with
          | true =>
            go_wp2_with fail
            go_quiet (fail)
            go_wp2_with fail
            exact ⟨⟨j + 1, true, by omega, by go_num, rfl, Lib.hid (by rw [HSN.out]; rfl), below_drewN hb _⟩, by simp [intOf]; omega⟩
          | false =>
            by_cases q1 : p1 ≤ (a : Int)
            · have t1 : decide (p1 ≤ (a : Int)) = true := by simpa using q1
              by_cases q2 : (a : Int) < p1 + p2
              · have t2 : decide ((a : Int) < p1 + p2) = true := by simpa using q2
                have HS2 : Hid (true = inB (a : Int) (L.take (j + 1))) := Lib.hid (by rw [HSN.out, t1, t2]; rfl)
                go_wp2_with fail
                go_quiet (fail)
                go_wp2_with fail
                exact ⟨⟨j + 1, true, by omega, by go_num, rfl, HS2, below_drewN hb _⟩, by simp [intOf]; omega⟩
              · have t2 : decide ((a : Int) < p1 + p2) = false := by simpa using q2
                have HS2 : Hid (false = inB (a : Int) (L.take (j + 1))) := Lib.hid (by rw [HSN.out, t1, t2]; rfl)
                go_wp2_with fail
                go_quiet (fail)
                go_wp2_with fail
                exact ⟨⟨j + 1, false, by omega, by go_num, rfl, HS2, below_drewN hb _⟩, by simp [intOf]; omega⟩
            · have t1 : decide (p1 ≤ (a : Int)) = false := by simpa using q1
              have HS2 : Hid (false = inB (a : Int) (L.take (j + 1))) := Lib.hid (by rw [HSN.out, t1]; rfl)
              go_wp2_with fail
              go_quiet (fail)
              go_wp2_with fail
              exact ⟨⟨j + 1, false, by omega, by go_num, rfl, HS2, below_drewN hb _⟩, by simp [intOf]; omega⟩
        · have hBL : B = inB (a : Int) (placesL sh) := by
            rw [HLL.out, HBB.out, List.take_of_length_le (by omega)]
          have HTr := Lib.hid (HT4.out.below hb)
          have HBr := Lib.hid (HB4.out.trans (hb.mono HB4.out.size))
          have HBL := Lib.hid hBL
          clear hBL
          cases B with
          | true =>
            have HOF : Hid (opOf F = (k : Int)) := Lib.hid (by rw [← HFL.out]; exact HF.out.1 HBL.out.symm)
            go_wp2_with fail
            refine (coded_any _ HTr).mono ?_
            rintro e w5 ⟨rfl, hb5⟩
            go_wp2_with (go_at_call 14; refine (op_any F _ hfx (k : Int) HOF).mono ?_; rintro e w6 ⟨rfl, hb6⟩)
            go_ret
            exact ⟨rfl, HBr.out.trans ((bt2 hb5 hb6).mono HBr.out.size)⟩
          | false =>
            obtain ⟨o, ho⟩ : ∃ o, opOf F = o := ⟨_, rfl⟩
            have hok : (o == (k : Int)) = false := by
              have h := HF.out.2 HBL.out.symm
              rw [HFL.out, ho] at h
              simpa using h
            have HOF := Lib.hid ho
            clear ho
            go_wp2_with fail
            refine (coded_any _ HTr).mono ?_
            rintro e w5 ⟨rfl, hb5⟩
            go_wp2_with (go_at_call 14; refine (op_any F _ hfx o HOF).mono ?_; rintro e w6 ⟨rfl, hb6⟩)
            go_ret
            exact ⟨rfl, HBr.out.trans ((bt2 hb5 hb6).mono HBr.out.size)⟩
/-- The law CodeBit. -/
theorem codebit_any (x : Nat) (a : Int) (w : World) (hx : x < 4294967296) (HT : Hid (Tab w)) :
    Calls Tryd.prog 4 #[.int .u32 x, .int .i64 a] w fun e w' => e = .returned (.bool true) ∧ Below w.heap.size w w' := by
  by_cases h : opOf x = 0 ∨ ¬ (0 ≤ a ∧ a < 32)
  · exact bit_no x a w hx HT h
  · have ha : 0 ≤ a ∧ a < 32 := Decidable.not_not.1 fun hn => h (.inr hn)
    have ho : opOf x ≠ 0 := fun e => h (.inl e)
    obtain ⟨A, rfl⟩ : ∃ A : Nat, a = (A : Int) := ⟨a.toNat, by omega⟩
    rcases op_spec x with ⟨h0, _⟩ | ⟨k, h1, h2, hk, _⟩
    · exact absurd h0 ho
    · exact bit_yes x k A w hx HT (Lib.hid hk) h1 h2 (by omega)
end Go.Proofs.YtdjdbgilimjagaaDoor
