/- Layer 5 of the program, walked: an instruction, encoded, any; the document's rows of layer 5. The library's table lies as it is laid. -/
import Derived.Test.YtdjdbgilimjagaaDoorCodeP
set_option linter.unusedVariables false
set_option linter.unusedSimpArgs false
namespace Go.Proofs.YtdjdbgilimjagaaDoor
open Go.RowKit
set_option maxRecDepth 100000

/-- What Encode answers. -/
def encW (i : Ins) : Nat := if i.isB then i.word else 0
def encE (i : Ins) : Int := if i.isB then 0 else 1
theorem enc_any (i : Ins) (w : World) (hm : i.mask < 18446744073709551616) (HT : Hid (Tab w)) (W : Nat) (E : Int) (HW : Hid (encW i = W)) (HE : Hid (encE i = E)) :
    Calls Tryd.prog 12 #[.agg #[.int .i64 i.op, .int .i64 i.d, .int .i64 i.n, .int .i64 i.m, .int .i64 i.a, .int .i64 i.imm, .int .u64 (i.mask : Int), .int .i64 i.shift, .int .i64 i.amount, .int .i64 i.cond]] w fun e w' => e = .returned (.tuple #[.int .u32 (W : Int), .int .i64 E]) ∧ Below w.heap.size w w' := by
  have hw := HW.out
  have he := HE.out
  unfold encW at hw
  unfold encE at he
  cases hB : i.isB with
  | false =>
    rw [hB, if_neg (by decide)] at hw he
    subst hw; subst he
    exact enc_no i.op i.d i.n i.m i.a i.imm i.shift i.amount i.cond i.mask w hm HT (Lib.hid hB)
  | true =>
    rw [hB, if_pos rfl] at hw he
    subst hw; subst he
    have g := good_of i hB hm
    have h0 := g.op0
    have h1 := g.op1
    obtain ⟨b1, b2⟩ := base_cast i.op (by omega) (by omega)
    exact enc_yes i.op i.d i.n i.m i.a i.imm i.shift i.amount i.cond i.mask w hm HT (Lib.hid hB) (Lib.hid g.fit) g.len (Lib.hid g.right) (Lib.hid g.val) (Lib.hid g.disj) (by omega) (by omega) (baseN i.op) (Lib.hid b1) b2
theorem encW_lt (i : Ins) (hm : i.mask < 18446744073709551616) : encW i < 4294967296 := by
  unfold encW
  cases hB : i.isB with
  | false => rw [if_neg (by decide)]; decide
  | true => rw [if_pos rfl]; exact (enc_dec i hB hm).1
/-- Decode, its answer given. -/
theorem dec_at (x : Nat) (w : World) (hx : x < 4294967296) (HT : Hid (Tab w)) (i : Ins) (E : Int) (HI : Hid (decI x = i)) (HE : Hid (decE x = E)) :
    Calls Tryd.prog 10 #[.int .u32 x] w fun e w' => e = .returned (.tuple #[.agg #[.int .i64 i.op, .int .i64 i.d, .int .i64 i.n, .int .i64 i.m, .int .i64 i.a, .int .i64 i.imm, .int .u64 (i.mask : Int), .int .i64 i.shift, .int .i64 i.amount, .int .i64 i.cond], .int .i64 E]) ∧ Below w.heap.size w w' := by
  refine (dec_any x w hx HT).mono ?_
  rintro e w' ⟨rfl, hb⟩
  rw [HI.out, HE.out]
  exact ⟨rfl, hb⟩

set_option maxHeartbeats 2000000 in
theorem coded_any (w : World) (HT : Hid (Tab w)) : Calls Tryd.prog 11 #[] w fun e w' => e = .returned (.bool true) ∧ Below w.heap.size w w' := by
  have a1 : Hid (encW ⟨38, 0, 0, 0, 0, 0, 0, 0, 0, 0⟩ = 3573751839) := Lib.hid (by decide +kernel)
  have a2 : Hid (encE ⟨38, 0, 0, 0, 0, 0, 0, 0, 0, 0⟩ = 0) := Lib.hid (by decide +kernel)
  have b1 : Hid (encW ⟨4, 1, 2, 0, 0, 3, 0, 0, 0, 0⟩ = 2432699457) := Lib.hid (by decide +kernel)
  have b2 : Hid (encE ⟨4, 1, 2, 0, 0, 3, 0, 0, 0, 0⟩ = 0) := Lib.hid (by decide +kernel)
  have c1 : Hid (decI 3596551104 = ⟨36, 0, 30, 0, 0, 0, 0, 0, 0, 0⟩) := Lib.hid (by kernel_rfl)
  have c2 : Hid (decE 3596551104 = 0) := Lib.hid (by kernel_rfl)
  have d1 : Hid (decI 0 = Ins.zero) := Lib.hid (by kernel_rfl)
  have d2 : Hid (decE 0 = 11) := Lib.hid (by kernel_rfl)
  have e1 : Hid (encW Ins.zero = 0) := Lib.hid (by decide +kernel)
  have e2 : Hid (encE Ins.zero = 1) := Lib.hid (by decide +kernel)
  have o1 : Hid (opOf 3573751839 = 38) := Lib.hid (by decide +kernel)
  go_enter Tryd.func11, Tryd.ntmps11
  go_wp2_with fail
  refine (enc_any ⟨38, 0, 0, 0, 0, 0, 0, 0, 0, 0⟩ _ (by decide) HT _ _ a1 a2).mono ?_
  rintro e w1 ⟨rfl, hb1⟩
  go_wp2_with fail
  refine (enc_any ⟨4, 1, 2, 0, 0, 3, 0, 0, 0, 0⟩ _ (by decide) (Lib.hid (HT.out.below hb1)) _ _ b1 b2).mono ?_
  rintro e w2 ⟨rfl, hb2⟩
  go_wp2_with fail
  refine (dec_at 3596551104 _ (by decide) (Lib.hid (HT.out.below (bt2 hb1 hb2))) _ _ c1 c2).mono ?_
  rintro e w3 ⟨rfl, hb3⟩
  go_wp2_with fail
  refine (dec_at 0 _ (by decide) (Lib.hid (HT.out.below (bt2 hb1 (bt2 hb2 (bt2 hb3 (balloc w3 _)))))) _ _ d1 d2).mono ?_
  rintro e w4 ⟨rfl, hb4⟩
  go_wp2_with fail
  refine (enc_any Ins.zero _ (by decide) (Lib.hid (HT.out.below (bt2 hb1 (bt2 hb2 (bt2 hb3 (bt2 (balloc w3 _) (bt2 hb4 (balloc w4 _)))))))) _ _ e1 e2).mono ?_
  rintro e w5 ⟨rfl, hb5⟩
  have hb45 := bt2 hb4 (bt2 (balloc w4 _) hb5)
  have hall := bt2 hb1 (bt2 hb2 (bt2 hb3 (bel_of_res hb45)))
  have k0 := kept_cells hb45 0
  have k1 := kept_cells hb45 1
  have k2 := kept_cells hb45 2
  have k3 := kept_cells hb45 3
  have k4 := kept_cells hb45 4
  have k5 := kept_cells hb45 5
  have k6 := kept_cells hb45 6
  have k7 := kept_cells hb45 7
  have k8 := kept_cells hb45 8
  have k9 := kept_cells hb45 9
  simp at k0 k1 k2 k3 k4 k5 k6 k7 k8 k9
  have o2 : opOf 3573751839 = 38 := o1.out
  go_wp2_with (go_at_call 14; refine (opcode_any 3573751839 _ (by decide)).mono ?_; rw [o2]; rintro e w6 ⟨rfl, hb6⟩)
  go_ret
  exact ⟨rfl, hall.trans (hb6.mono hall.size)⟩

theorem fold_mask (x : Nat) : ∀ (L : List PS) (s s' : DS), s.i.mask < 18446744073709551616 → decFold x L (some s) = some s' → s'.i.mask < 18446744073709551616 := by
  intro L
  induction L with
  | nil => intro s s' h e; cases e; exact h
  | cons p l ih =>
    intro s s' h e
    have e' : decFold x l (s.put (p.get x) p.sel) = some s' := e
    cases hp : s.put (p.get x) p.sel with
    | none => rw [hp, decFold_none] at e'; cases e'
    | some s1 => rw [hp] at e'; exact ih s1 s' (mask_put s s1 _ _ h hp) e'
theorem dec_mask (x : Nat) (i : Ins) (h : decO x = some i) : i.mask < 18446744073709551616 := by
  unfold decO at h
  cases hf : decFold x (partsL (shapeI (opOf x))) (some (DS.start (opOf x))) with
  | none => rw [hf] at h; cases h
  | some s =>
    rw [hf] at h
    dsimp only at h
    have := fold_mask x _ _ s (by show 0 < 18446744073709551616; decide) hf
    cases hB : s.i.isB with
    | true => rw [hB, if_pos rfl] at h; cases h; exact this
    | false => rw [hB, if_neg (by decide)] at h; cases h
end Go.Proofs.YtdjdbgilimjagaaDoor
