/- The document's rows of layer 26, walked; the law FixMoved. The library's table lies as it is laid. -/
import Derived.Test.YtdjdbgilimjagaaDoorFixE
set_option linter.unusedVariables false
set_option linter.unusedSimpArgs false
namespace Go.Proofs.YtdjdbgilimjagaaDoor
open Go.RowKit
set_option maxRecDepth 100000

set_option maxHeartbeats 2000000 in
theorem fixed_any (w : World) (HT : Hid (Tab w)) : Calls Tryd.prog 20 #[] w fun e w' => e = .returned (.bool true) ∧ Below w.heap.size w w' := by
  have a1 : Hid ((valueM 6 8192 4100).1 = 18446744073709551615) := Lib.hid (by decide +kernel)
  have a2 : Hid ((valueM 6 8192 4100).2 = 0) := Lib.hid (by decide +kernel)
  have b1 : Hid ((valueM 2 0 2).1 = 0) := Lib.hid (by decide +kernel)
  have b2 : Hid ((valueM 2 0 2).2 = 5) := Lib.hid (by decide +kernel)
  have c1 : Hid ((valueM 3 0 1048576).1 = 0) := Lib.hid (by decide +kernel)
  have c2 : Hid ((valueM 3 0 1048576).2 = 4) := Lib.hid (by decide +kernel)
  have d1 : Hid ((⟨(applyM 2 ⟨#[0, 0, 0, 148]⟩ 64 56).1.toArray⟩ : ByteArray) = ⟨#[254, 255, 255, 151]⟩) := Lib.hid (by kernel_rfl)
  have d2 : Hid ((applyM 2 ⟨#[0, 0, 0, 148]⟩ 64 56).2 = 0) := Lib.hid (by decide +kernel)
  have e1 : Hid (decO 2550136830 = some ⟨30, 0, 0, 0, 0, -8, 0, 0, 0, 0⟩) := Lib.hid (by kernel_rfl)
  have e2 : Hid (((⟨30, 0, 0, 0, 0, -8, 0, 0, 0, 0⟩ : Ins).setImm 0).word = 2483027968) := Lib.hid (by decide +kernel)
  have e3 : Hid (((⟨30, 0, 0, 0, 0, -8, 0, 0, 0, 0⟩ : Ins).setImm 0).isB = true) := Lib.hid (by decide +kernel)
  have e4 : Hid (fitsM 2 2483027968 = true) := Lib.hid (by decide +kernel)
  have g1 : Hid ((⟨(applyM 2 ⟨#[0, 0, 0, 0]⟩ 64 56).1.toArray⟩ : ByteArray) = ⟨#[]⟩) := Lib.hid (by kernel_rfl)
  have g2 : Hid ((applyM 2 ⟨#[0, 0, 0, 0]⟩ 64 56).2 = 11) := Lib.hid (by decide +kernel)
  have h1 : Hid ((valueM 0 0 0).1 = 0) := Lib.hid (by decide +kernel)
  have h2 : Hid ((valueM 0 0 0).2 = 1) := Lib.hid (by decide +kernel)
  go_enter Tryd.func20, Tryd.ntmps20
  go_wp2_with fail
  refine (value_at 6 8192 4100 _ (by decide) (by decide) _ _ a1 a2).mono ?_
  rintro e w1 ⟨rfl, hb1⟩
  go_wp2_with fail
  refine (value_at 2 0 2 _ (by decide) (by decide) _ _ b1 b2).mono ?_
  rintro e w2 ⟨rfl, hb2⟩
  go_wp2_with fail
  refine (value_at 3 0 1048576 _ (by decide) (by decide) _ _ c1 c2).mono ?_
  rintro e w3 ⟨rfl, hb3⟩
  have hb13 := bt2 hb1 (bt2 hb2 hb3)
  go_wp2_with fail
  refine (apply_at 2 ⟨#[0, 0, 0, 148]⟩ 64 56 _ (by decide) (by decide) (by decide) (Lib.hid (HT.out.below hb13)) _ _ d1 d2).mono ?_
  rintro e w4 ⟨rfl, hb4⟩
  go_wp2_with fail
  refine (goal_near 2 ⟨#[254, 255, 255, 151]⟩ 64 2550136830 _ 2483027968 _ (by decide) (by decide) (Lib.hid (HT.out.below (bt2 hb13 hb4))) (by decide) (by decide) (by decide) (by decide) e1 e2 e3 e4).mono ?_
  rintro e w5 ⟨rfl, hb5⟩
  go_wp2_with fail
  refine (apply_at 2 ⟨#[0, 0, 0, 0]⟩ 64 56 _ (by decide) (by decide) (by decide) (Lib.hid (HT.out.below (bt2 hb13 (bt2 hb4 hb5)))) _ _ g1 g2).mono ?_
  rintro e w6 ⟨rfl, hb6⟩
  go_wp2_with fail
  refine (value_at 0 0 0 _ (by decide) (by decide) _ _ h1 h2).mono ?_
  rintro e w7 ⟨rfl, hb7⟩
  go_wp2_with fail
  go_ret
  exact ⟨rfl, bt2 hb13 (bt2 hb4 (bt2 hb5 (bt2 hb6 hb7)))⟩

theorem moved_none (kind : Int) (f t b : Nat) (w : World) (HT : Hid (Tab w)) (h : kind < 2 ∨ 6 < kind) :
    Calls Tryd.prog 8 #[.int .i64 kind, .int .u64 f, .int .u64 t, .int .u64 b] w fun e w' => e = .returned (.bool true) ∧ Below w.heap.size w w' := by
  by_cases h1 : kind < 2
  · go_enter Tryd.func8, Tryd.ntmps8
    go_wp2_with (go_at_call 20; refine (fixed_any _ HT).mono ?_; rintro e w1 ⟨rfl, hb1⟩)
    go_ret
    exact ⟨rfl, hb1⟩
  · have h2 : 6 < kind := by omega
    go_enter Tryd.func8, Tryd.ntmps8
    go_wp2_with (go_at_call 20; refine (fixed_any _ HT).mono ?_; rintro e w1 ⟨rfl, hb1⟩)
    go_ret
    exact ⟨rfl, hb1⟩
set_option maxHeartbeats 1000000 in
theorem moved_near (kind : Int) (f t b : Nat) (w : World) (hf : f < 18446744073709551616) (ht : t < 18446744073709551616) (hb : b < 18446744073709551616) (HT : Hid (Tab w)) (h2 : 2 ≤ kind) (h5 : kind ≤ 5) :
    Calls Tryd.prog 8 #[.int .i64 kind, .int .u64 f, .int .u64 t, .int .u64 b] w fun e w' => e = .returned (.bool true) ∧ Below w.heap.size w w' := by
  obtain ⟨F, hF⟩ : ∃ F, (f + b) % 18446744073709551616 = F := ⟨_, rfl⟩
  obtain ⟨T, hT⟩ : ∃ T, (t + b) % 18446744073709551616 = T := ⟨_, rfl⟩
  have e1 : IntKind.u64.wrap ((f : Int) + (b : Int)) = (F : Int) := by rw [← hF, IntKind.wrap_u64]; omega
  have e2 : IntKind.u64.wrap ((t : Int) + (b : Int)) = (T : Int) := by rw [← hT, IntKind.wrap_u64]; omega
  have hF2 : F < 18446744073709551616 := hF ▸ Nat.mod_lt _ (by decide)
  have hT2 : T < 18446744073709551616 := hT ▸ Nat.mod_lt _ (by decide)
  have hmv := value_moved kind f t b h2 (by omega) (fun h => by omega)
  rw [hF, hT] at hmv
  obtain ⟨V, hV⟩ : ∃ V, (valueM kind f t).1 = V := ⟨_, rfl⟩
  obtain ⟨E, hE⟩ : ∃ E, (valueM kind f t).2 = E := ⟨_, rfl⟩
  have HV2 : Hid ((valueM kind F T).1 = V) := Lib.hid (by rw [hmv]; exact hV)
  have HE2 : Hid ((valueM kind F T).2 = E) := Lib.hid (by rw [hmv]; exact hE)
  have HV := Lib.hid hV
  have HE := Lib.hid hE
  clear hF hT hmv hV hE
  have hk6 : (kind == 6) = false := by simp; omega
  go_enter Tryd.func8, Tryd.ntmps8
  go_wp2_with fail
  refine (value_at kind f t _ hf ht V E HV HE).mono ?_
  rintro e w1 ⟨rfl, hb1⟩
  go_wp2_with fail
  refine (value_at kind F T _ hF2 hT2 V E HV2 HE2).mono ?_
  rintro e w2 ⟨rfl, hb2⟩
  go_wp2_with (go_at_call 20; refine (fixed_any _ (Lib.hid (HT.out.below (bt2 hb1 hb2)))).mono ?_; rintro e w3 ⟨rfl, hb3⟩)
  go_ret
  exact ⟨rfl, bt2 hb1 (bt2 hb2 hb3)⟩
set_option maxHeartbeats 1000000 in
theorem moved_page (f t b : Nat) (w : World) (hf : f < 18446744073709551616) (ht : t < 18446744073709551616) (hb : b < 18446744073709551616) (HT : Hid (Tab w)) :
    Calls Tryd.prog 8 #[.int .i64 6, .int .u64 f, .int .u64 t, .int .u64 b] w fun e w' => e = .returned (.bool true) ∧ Below w.heap.size w w' := by
  obtain ⟨c, hc⟩ : ∃ c, b - b % 4096 = c := ⟨_, rfl⟩
  have e0 : IntKind.u64.wrap ((b : Int) - (b : Int) % 4096) = (c : Int) := by rw [← hc, IntKind.wrap_u64]; omega
  have e0' : (b : Int) - (b : Int) % 4096 = (c : Int) := by rw [← hc]; omega
  obtain ⟨F, hF⟩ : ∃ F, (f + c) % 18446744073709551616 = F := ⟨_, rfl⟩
  obtain ⟨T, hT⟩ : ∃ T, (t + c) % 18446744073709551616 = T := ⟨_, rfl⟩
  have e1 : IntKind.u64.wrap ((f : Int) + (c : Int)) = (F : Int) := by rw [← hF, IntKind.wrap_u64]; omega
  have e2 : IntKind.u64.wrap ((t : Int) + (c : Int)) = (T : Int) := by rw [← hT, IntKind.wrap_u64]; omega
  have hF2 : F < 18446744073709551616 := hF ▸ Nat.mod_lt _ (by decide)
  have hT2 : T < 18446744073709551616 := hT ▸ Nat.mod_lt _ (by decide)
  have hmv := value_moved 6 f t c (by decide) (by decide) (fun _ => by omega)
  rw [hF, hT] at hmv
  obtain ⟨V, hV⟩ : ∃ V, (valueM 6 f t).1 = V := ⟨_, rfl⟩
  obtain ⟨E, hE⟩ : ∃ E, (valueM 6 f t).2 = E := ⟨_, rfl⟩
  have HV2 : Hid ((valueM 6 F T).1 = V) := Lib.hid (by rw [hmv]; exact hV)
  have HE2 : Hid ((valueM 6 F T).2 = E) := Lib.hid (by rw [hmv]; exact hE)
  have HV := Lib.hid hV
  have HE := Lib.hid hE
  clear hF hT hmv hV hE hc
  go_enter Tryd.func8, Tryd.ntmps8
  go_wp2_with fail
  refine (value_at 6 f t _ hf ht V E HV HE).mono ?_
  rintro e w1 ⟨rfl, hb1⟩
  go_wp2_with fail
  refine (value_at 6 F T _ hF2 hT2 V E HV2 HE2).mono ?_
  rintro e w2 ⟨rfl, hb2⟩
  go_wp2_with (go_at_call 20; refine (fixed_any _ (Lib.hid (HT.out.below (bt2 hb1 hb2)))).mono ?_; rintro e w3 ⟨rfl, hb3⟩)
  go_ret
  exact ⟨rfl, bt2 hb1 (bt2 hb2 hb3)⟩
/-- The law FixMoved. -/
theorem fixmoved_any (kind : Int) (f t b : Nat) (w : World) (hf : f < 18446744073709551616) (ht : t < 18446744073709551616) (hb : b < 18446744073709551616) (HT : Hid (Tab w)) :
    Calls Tryd.prog 8 #[.int .i64 kind, .int .u64 f, .int .u64 t, .int .u64 b] w fun e w' => e = .returned (.bool true) ∧ Below w.heap.size w w' := by
  by_cases h : kind < 2 ∨ 6 < kind
  · exact moved_none kind f t b w HT h
  · by_cases h6 : kind = 6
    · subst h6; exact moved_page f t b w hf ht hb HT
    · exact moved_near kind f t b w hf ht hb HT (by omega) (by omega)
end Go.Proofs.YtdjdbgilimjagaaDoor
