/- The laws FixOnly and FixLeads, walked. The library's table lies as it is laid. -/
import Derived.Test.YtdjdbgilimjagaaDoorFixF
set_option linter.unusedVariables false
set_option linter.unusedSimpArgs false
namespace Go.Proofs.YtdjdbgilimjagaaDoor
open Go.RowKit
set_option maxRecDepth 100000

theorem kindK_not1 : (List.range 40).all (fun op => kindK (op : Int) != 1) = true := by decide +kernel
theorem fits_not1 (x : Nat) (hx : x < 4294967296) : fitsM 1 x = false := by
  unfold fitsM
  cases h : decO x with
  | none => rfl
  | some i =>
    obtain ⟨_, ho, _, h1, h2⟩ := dec_word x hx i h
    unfold fitsI
    have hk := List.all_eq_true.1 kindK_not1 i.op.toNat (List.mem_range.2 (by omega))
    rw [Int.toNat_of_nonneg (by omega)] at hk
    have : (kindK i.op == 1) = false := by simpa using hk
    dsimp only
    rw [this]
    simp
/-- Where Word refuses: the value's own error, or no word that may be relocated. -/
theorem word_refused (kind : Int) (x f t : Nat) (hx : x < 4294967296) (h : (wordM kind x f t).2 ≠ 0) : (wordM kind x f t).1 = 0 ∧ (fitsM kind x = false ∨ (valueM kind f t).2 = (wordM kind x f t).2) := by
  unfold wordM at h ⊢
  by_cases hg : kind ≤ 1 ∨ 9 < kind
  · rw [if_pos hg] at h ⊢
    refine ⟨rfl, ?_⟩
    by_cases h1 : kind = 1
    · subst h1; exact .inl (fits_not1 x hx)
    · right
      unfold valueM
      rw [if_pos (by omega)]
  rw [if_neg hg] at h ⊢
  cases hF : fitsM kind x with
  | false => rw [if_pos rfl]; exact ⟨rfl, .inl rfl⟩
  | true =>
    rw [hF, if_neg (by decide)] at h
    rw [if_neg (by decide)]
    by_cases hE : (valueM kind f t).2 ≠ 0
    · rw [if_pos hE]; exact ⟨rfl, .inr rfl⟩
    · rw [if_neg hE] at h; exact absurd rfl h
/-- Where Word turns a word. -/
theorem word_turned (kind : Int) (x f t : Nat) (hx : x < 4294967296) (h : (wordM kind x f t).2 = 0) :
    2 ≤ kind ∧ kind ≤ 9 ∧ fitsM kind x = true ∧ (valueM kind f t).2 = 0 ∧ ∃ i, decO x = some i ∧ i.imm = 0 ∧ (i.setImm (valK kind f t)).isB = true ∧ wrap64 ((valueM kind f t).1 : Nat) = valK kind f t ∧ (wordM kind x f t).1 = (i.setImm (valK kind f t)).word := by
  unfold wordM at h ⊢
  by_cases hg : kind ≤ 1 ∨ 9 < kind
  · rw [if_pos hg] at h; cases h
  rw [if_neg hg] at h ⊢
  cases hF : fitsM kind x with
  | false => rw [hF, if_pos rfl] at h; cases h
  | true =>
    rw [hF, if_neg (by decide)] at h
    rw [if_neg (by decide)]
    by_cases hE : (valueM kind f t).2 ≠ 0
    · rw [if_pos hE] at h; exact absurd h hE
    · rw [if_neg hE]
      have hE := Decidable.not_not.1 hE
      obtain ⟨i, hN, _, hi, hB, hW⟩ := fix_word kind x f t hx (by omega) hF hE
      have hI : decI x = i := by unfold decI; rw [hN]; rfl
      rw [hI]
      exact ⟨by omega, by omega, rfl, hE, i, hN, hi, hB, hW, rfl⟩
theorem setImm_back (i : Ins) (v : Int) (h : i.imm = 0) : (i.setImm v).setImm 0 = i := by
  cases i; simp only [Ins.setImm] at h ⊢; subst h; rfl
set_option maxHeartbeats 1000000 in
theorem only_bad (kind : Int) (x f t : Nat) (w : World) (hx : x < 4294967296) (hf : f < 18446744073709551616) (ht : t < 18446744073709551616) (HT : Hid (Tab w)) (E F : Int) (V : Nat) (hE : (E != 0) = true)
    (HU : Hid ((wordM kind x f t).1 = 0)) (HE : Hid ((wordM kind x f t).2 = E)) (HV : Hid ((valueM kind f t).1 = V)) (HF : Hid ((valueM kind f t).2 = F)) (B : Bool) (HB : Hid (fitsM kind x = B)) (h : B = false ∨ (F == E) = true) :
    Calls Tryd.prog 7 #[.int .i64 kind, .int .u32 x, .int .u64 f, .int .u64 t] w fun e w' => e = .returned (.bool true) ∧ Below w.heap.size w w' := by
  cases B with
  | false =>
    clear h
    go_enter Tryd.func7, Tryd.ntmps7
    go_wp2_with fail
    refine (fword_at kind x f t _ hx hf ht HT 0 E HU HE).mono ?_
    rintro e w1 ⟨rfl, hb1⟩
    go_wp2_with fail
    refine (value_at kind f t _ hf ht V F HV HF).mono ?_
    rintro e w2 ⟨rfl, hb2⟩
    go_wp2_with fail
    refine (fits_at kind x _ hx (Lib.hid (HT.out.below (bt2 hb1 hb2))) false HB).mono ?_
    rintro e w3 ⟨rfl, hb3⟩
    go_wp2_with (go_at_call 20; refine (fixed_any _ (Lib.hid (HT.out.below (bt2 hb1 (bt2 hb2 hb3))))).mono ?_; rintro e w4 ⟨rfl, hb4⟩)
    go_ret
    exact ⟨rfl, bt2 hb1 (bt2 hb2 (bt2 hb3 hb4))⟩
  | true =>
    have h := h.resolve_left (by decide)
    go_enter Tryd.func7, Tryd.ntmps7
    go_wp2_with fail
    refine (fword_at kind x f t _ hx hf ht HT 0 E HU HE).mono ?_
    rintro e w1 ⟨rfl, hb1⟩
    go_wp2_with fail
    refine (value_at kind f t _ hf ht V F HV HF).mono ?_
    rintro e w2 ⟨rfl, hb2⟩
    go_wp2_with fail
    refine (fits_at kind x _ hx (Lib.hid (HT.out.below (bt2 hb1 hb2))) true HB).mono ?_
    rintro e w3 ⟨rfl, hb3⟩
    go_wp2_with (go_at_call 20; refine (fixed_any _ (Lib.hid (HT.out.below (bt2 hb1 (bt2 hb2 hb3))))).mono ?_; rintro e w4 ⟨rfl, hb4⟩)
    go_ret
    exact ⟨rfl, bt2 hb1 (bt2 hb2 (bt2 hb3 hb4))⟩
set_option maxHeartbeats 1000000 in
theorem only_good (kind : Int) (x f t : Nat) (i : Ins) (v : Int) (U V : Nat) (w : World) (hx : x < 4294967296) (hf : f < 18446744073709551616) (ht : t < 18446744073709551616) (HT : Hid (Tab w))
    (HU : Hid ((wordM kind x f t).1 = U)) (HE : Hid ((wordM kind x f t).2 = 0)) (HV : Hid ((valueM kind f t).1 = V)) (HF : Hid ((valueM kind f t).2 = 0)) (HB : Hid (fitsM kind x = true)) (hU : U < 4294967296)
    (c1 : Hid (decI U = (⟨i.op, i.d, i.n, i.m, i.a, v, i.mask, i.shift, i.amount, i.cond⟩ : Ins))) (c2 : Hid (decE U = 0)) (hm : i.mask < 18446744073709551616) (hw : wrap64 (V : Int) = v) (HX : Hid (encW (i.setImm 0) = x)) (HXE : Hid (encE (i.setImm 0) = 0)) :
    Calls Tryd.prog 7 #[.int .i64 kind, .int .u32 x, .int .u64 f, .int .u64 t] w fun e w' => e = .returned (.bool true) ∧ Below w.heap.size w w' := by
  go_enter Tryd.func7, Tryd.ntmps7
  go_wp2_with fail
  refine (fword_at kind x f t _ hx hf ht HT U 0 HU HE).mono ?_
  rintro e w1 ⟨rfl, hb1⟩
  go_wp2_with fail
  refine (value_at kind f t _ hf ht V 0 HV HF).mono ?_
  rintro e w2 ⟨rfl, hb2⟩
  go_wp2_with fail
  refine (fits_at kind x _ hx (Lib.hid (HT.out.below (bt2 hb1 hb2))) true HB).mono ?_
  rintro e w3 ⟨rfl, hb3⟩
  have hb13 := bt2 hb1 (bt2 hb2 hb3)
  go_wp2_with fail
  refine (dec_at U _ hU (Lib.hid (HT.out.below hb13)) _ _ c1 c2).mono ?_
  rintro e w4 ⟨rfl, hb4⟩
  go_wp2_with fail
  refine (enc_any (i.setImm 0) _ hm (Lib.hid (HT.out.below (bt2 hb13 (bt2 hb4 (balloc w4 _))))) _ _ HX HXE).mono ?_
  rintro e w5 ⟨rfl, hb5⟩
  have hb45 := bt2 hb4 (bel_of_res hb5)
  go_wp2_with (go_at_call 20; refine (fixed_any _ (Lib.hid (HT.out.below (bt2 hb13 hb45)))).mono ?_; rintro e w6 ⟨rfl, hb6⟩)
  go_ret
  exact ⟨rfl, bt2 hb13 (bt2 hb45 hb6)⟩
/-- The law FixOnly. -/
theorem fixonly_any (kind : Int) (x f t : Nat) (w : World) (hx : x < 4294967296) (hf : f < 18446744073709551616) (ht : t < 18446744073709551616) (HT : Hid (Tab w)) :
    Calls Tryd.prog 7 #[.int .i64 kind, .int .u32 x, .int .u64 f, .int .u64 t] w fun e w' => e = .returned (.bool true) ∧ Below w.heap.size w w' := by
  by_cases h : (wordM kind x f t).2 = 0
  · obtain ⟨h2, h9, hF, hE, i, hN, hi, hB, hW, hU⟩ := word_turned kind x f t hx h
    have hm := dec_mask x i hN
    have hiB := (dec_word x hx i hN).1
    have hiW := (dec_word x hx i hN).2.2.1
    obtain ⟨e1, _, e3⟩ := enc_dec _ hB hm
    have hback : i.setImm 0 = i := by cases i; simp only [Ins.setImm] at hi ⊢; subst hi; rfl
    refine only_good kind x f t i _ _ _ w hx hf ht HT (Lib.hid hU) (Lib.hid h) (Lib.hid rfl) (Lib.hid hE) (Lib.hid hF) e1 (Lib.hid ?_) (Lib.hid ?_) hm hW (Lib.hid ?_) (Lib.hid ?_)
    · unfold decI; rw [e3]; rfl
    · unfold decE; rw [e3]; rfl
    · rw [hback]; unfold encW; rw [hiB, if_pos rfl, hiW]
    · rw [hback]; unfold encE; rw [hiB, if_pos rfl]
  · obtain ⟨h0, hc⟩ := word_refused kind x f t hx h
    refine only_bad kind x f t w hx hf ht HT _ _ _ (by simpa using h) (Lib.hid h0) (Lib.hid rfl) (Lib.hid rfl) (Lib.hid rfl) _ (Lib.hid rfl) ?_
    rcases hc with hc | hc
    · exact .inl hc
    · right; rw [hc]; simp

theorem leads_long (kind : Int) (s : ByteArray) (f t : Nat) (w : World) (hs : s.size ≤ maxLen) (h : 40 < s.size) :
    Calls Tryd.prog 6 #[.int .i64 kind, .string s, .int .u64 f, .int .u64 t] w fun e w' => e = .returned (.bool true) ∧ Below w.heap.size w w' := by
  unfold maxLen at hs
  go_enter Tryd.func6, Tryd.ntmps6
  go_wp2_with fail
  go_ret
  exact ⟨rfl, Below.refl _ _⟩
set_option maxHeartbeats 1000000 in
theorem leads_no (kind : Int) (s : ByteArray) (f t : Nat) (w : World) (hs : s.size ≤ maxLen) (h : ¬ 40 < s.size) (hf : f < 18446744073709551616) (ht : t < 18446744073709551616) (HT : Hid (Tab w)) (E : Int) (hE : (E != 0) = true)
    (HS : Hid ((⟨(applyM kind s f t).1.toArray⟩ : ByteArray) = ⟨#[]⟩)) (HE : Hid ((applyM kind s f t).2 = E)) :
    Calls Tryd.prog 6 #[.int .i64 kind, .string s, .int .u64 f, .int .u64 t] w fun e w' => e = .returned (.bool true) ∧ Below w.heap.size w w' := by
  have HM := Lib.hid hs
  unfold maxLen at hs
  go_enter Tryd.func6, Tryd.ntmps6
  go_wp2_with fail
  refine (apply_at kind s f t _ HM.out hf ht HT _ _ HS HE).mono ?_
  rintro e w1 ⟨rfl, hb1⟩
  go_wp2_with (go_at_call 20; refine (fixed_any _ (Lib.hid (HT.out.below hb1))).mono ?_; rintro e w2 ⟨rfl, hb2⟩)
  go_ret
  exact ⟨rfl, bt2 hb1 hb2⟩
set_option maxHeartbeats 1000000 in
theorem leads_low (kind : Int) (s S : ByteArray) (f t : Nat) (w : World) (hs : s.size ≤ maxLen) (h : ¬ 40 < s.size) (hf : f < 18446744073709551616) (ht : t < 18446744073709551616) (HT : Hid (Tab w)) (h7 : 6 < kind)
    (HS : Hid ((⟨(applyM kind s f t).1.toArray⟩ : ByteArray) = S)) (HE : Hid ((applyM kind s f t).2 = 0)) (h4 : S.size = 4) (HR : Hid (rightK kind 6 S.size = false)) :
    Calls Tryd.prog 6 #[.int .i64 kind, .string s, .int .u64 f, .int .u64 t] w fun e w' => e = .returned (.bool true) ∧ Below w.heap.size w w' := by
  have HM := Lib.hid hs
  unfold maxLen at hs
  have HM2 : Hid (S.size ≤ maxLen) := Lib.hid (by unfold maxLen; omega)
  go_enter Tryd.func6, Tryd.ntmps6
  go_wp2_with fail
  refine (apply_at kind s f t _ HM.out hf ht HT _ _ HS HE).mono ?_
  rintro e w1 ⟨rfl, hb1⟩
  go_wp2_with fail
  refine (goal_arg kind S f _ HM2.out HR.out).mono ?_
  rintro e w2 ⟨rfl, rfl⟩
  go_wp2_with (go_at_call 20; refine (fixed_any _ (Lib.hid (HT.out.below hb1))).mono ?_; rintro e w2 ⟨rfl, hb2⟩)
  go_ret
  exact ⟨rfl, bt2 hb1 hb2⟩
set_option maxHeartbeats 1000000 in
theorem leads_abs (s S : ByteArray) (f t : Nat) (w : World) (hs : s.size ≤ maxLen) (h : ¬ 40 < s.size) (hf : f < 18446744073709551616) (ht : t < 18446744073709551616) (HT : Hid (Tab w))
    (HS : Hid ((⟨(applyM 1 s f t).1.toArray⟩ : ByteArray) = S)) (HE : Hid ((applyM 1 s f t).2 = 0)) (h4 : S.size = 8) (h5 : s.size = 8) (HR : Hid (rightK 1 6 S.size = true)) (HN : Hid (numL S.data.toList = t)) :
    Calls Tryd.prog 6 #[.int .i64 1, .string s, .int .u64 f, .int .u64 t] w fun e w' => e = .returned (.bool true) ∧ Below w.heap.size w w' := by
  have HM := Lib.hid hs
  unfold maxLen at hs
  have HM2 : Hid (S.size ≤ maxLen) := Lib.hid (by unfold maxLen; omega)
  go_enter Tryd.func6, Tryd.ntmps6
  go_wp2_with fail
  refine (apply_at 1 s f t _ HM.out hf ht HT _ _ HS HE).mono ?_
  rintro e w1 ⟨rfl, hb1⟩
  go_wp2_with fail
  refine (goal_abs S f _ HM2.out HR.out).mono ?_
  rw [HN.out]
  rintro e w2 ⟨rfl, rfl⟩
  go_wp2_with (go_at_call 20; refine (fixed_any _ (Lib.hid (HT.out.below hb1))).mono ?_; rintro e w2 ⟨rfl, hb2⟩)
  go_ret
  exact ⟨rfl, bt2 hb1 hb2⟩
set_option maxHeartbeats 1000000 in
theorem leads_near (kind : Int) (s S : ByteArray) (f t : Nat) (i : Ins) (x U : Nat) (w : World) (hs : s.size ≤ maxLen) (h : ¬ 40 < s.size) (hf : f < 18446744073709551616) (ht : t < 18446744073709551616) (HT : Hid (Tab w)) (h2 : 2 ≤ kind) (h5 : kind ≤ 5)
    (HS : Hid ((⟨(applyM kind s f t).1.toArray⟩ : ByteArray) = S)) (HE : Hid ((applyM kind s f t).2 = 0)) (h4 : S.size = 4) (h6 : s.size = 4) (HR : Hid (rightK kind 6 S.size = true))
    (HX : Hid (numL S.data.toList % 4294967296 = x)) (HN : Hid (decO x = some i)) (HU : Hid ((i.setImm 0).word = U)) (HB : Hid ((i.setImm 0).isB = true)) (HF : Hid (fitsM kind U = true)) (ht2 : ((f : Int) + i.imm) % 18446744073709551616 = (t : Int)) :
    Calls Tryd.prog 6 #[.int .i64 kind, .string s, .int .u64 f, .int .u64 t] w fun e w' => e = .returned (.bool true) ∧ Below w.heap.size w w' := by
  have HM := Lib.hid hs
  unfold maxLen at hs
  have HM2 : Hid (S.size ≤ maxLen) := Lib.hid (by unfold maxLen; omega)
  have HT2 := Lib.hid ht2
  have hk6 : (kind == 6) = false := by simp; omega
  clear ht2
  go_enter Tryd.func6, Tryd.ntmps6
  go_wp2_with fail
  refine (apply_at kind s f t _ HM.out hf ht HT _ _ HS HE).mono ?_
  rintro e w1 ⟨rfl, hb1⟩
  go_wp2_with fail
  refine (goal_near kind S f x i U _ HM2.out hf (Lib.hid (HT.out.below hb1)) HR.out h2 h5 HX.out HN HU HB HF).mono ?_
  rw [HT2.out]
  rintro e w2 ⟨rfl, hb2⟩
  go_wp2_with (go_at_call 20; refine (fixed_any _ (Lib.hid (HT.out.below (bt2 hb1 hb2)))).mono ?_; rintro e w3 ⟨rfl, hb3⟩)
  go_ret
  exact ⟨rfl, bt2 hb1 (bt2 hb2 hb3)⟩
set_option maxHeartbeats 1000000 in
theorem leads_page (s S : ByteArray) (f t : Nat) (i : Ins) (x U : Nat) (w : World) (hs : s.size ≤ maxLen) (h : ¬ 40 < s.size) (hf : f < 18446744073709551616) (ht : t < 18446744073709551616) (HT : Hid (Tab w))
    (HS : Hid ((⟨(applyM 6 s f t).1.toArray⟩ : ByteArray) = S)) (HE : Hid ((applyM 6 s f t).2 = 0)) (h4 : S.size = 4) (HR : Hid (rightK 6 6 S.size = true))
    (HX : Hid (numL S.data.toList % 4294967296 = x)) (HN : Hid (decO x = some i)) (HU : Hid ((i.setImm 0).word = U)) (HB : Hid ((i.setImm 0).isB = true)) (HF : Hid (fitsM 6 U = true)) (ht2 : (((pageN f : Nat) : Int) + 4096 * i.imm) % 18446744073709551616 = (t : Int) - (t : Int) % 4096) :
    Calls Tryd.prog 6 #[.int .i64 6, .string s, .int .u64 f, .int .u64 t] w fun e w' => e = .returned (.bool true) ∧ Below w.heap.size w w' := by
  have HM := Lib.hid hs
  unfold maxLen at hs
  have HM2 : Hid (S.size ≤ maxLen) := Lib.hid (by unfold maxLen; omega)
  have HT2 := Lib.hid ht2
  clear ht2
  go_enter Tryd.func6, Tryd.ntmps6
  go_wp2_with fail
  refine (apply_at 6 s f t _ HM.out hf ht HT _ _ HS HE).mono ?_
  rintro e w1 ⟨rfl, hb1⟩
  go_wp2_with fail
  refine (goal_page S f x i U _ HM2.out hf (Lib.hid (HT.out.below hb1)) HR.out HX.out HN HU HB HF).mono ?_
  rw [HT2.out]
  rintro e w2 ⟨rfl, hb2⟩
  go_wp2_with (go_at_call 20; refine (fixed_any _ (Lib.hid (HT.out.below (bt2 hb1 hb2)))).mono ?_; rintro e w3 ⟨rfl, hb3⟩)
  go_ret
  exact ⟨rfl, bt2 hb1 (bt2 hb2 hb3)⟩
theorem far_back (f t : Nat) (ht : t < 18446744073709551616) : ((f : Int) + farI f t) % 18446744073709551616 = (t : Int) := by
  unfold farI wrap64; omega
theorem page_back (f t : Nat) (hf : f < 18446744073709551616) (ht : t < 18446744073709551616) : (((pageN f : Nat) : Int) + 4096 * (farI (pageN f) (pageN t)).tdiv 4096) % 18446744073709551616 = (t : Int) - (t : Int) % 4096 := by
  obtain ⟨k, hk⟩ : ∃ k, farI (pageN f) (pageN t) = 4096 * k := by
    refine ⟨farI (pageN f) (pageN t) / 4096, ?_⟩
    unfold farI wrap64 pageN; omega
  rw [hk, Int.mul_tdiv_cancel_left k (by decide), ← hk]
  unfold farI wrap64 pageN; omega
theorem size_bytes (v n : Nat) : (⟨(bytesL v n).toArray⟩ : ByteArray).size = n := by
  show (bytesL v n).toArray.size = n
  simp [bytes_len]
/-- The law FixLeads. -/
theorem fixleads_any (kind : Int) (s : ByteArray) (f t : Nat) (w : World) (hs : s.size ≤ maxLen) (hf : f < 18446744073709551616) (ht : t < 18446744073709551616) (HT : Hid (Tab w)) :
    Calls Tryd.prog 6 #[.int .i64 kind, .string s, .int .u64 f, .int .u64 t] w fun e w' => e = .returned (.bool true) ∧ Below w.heap.size w w' := by
  by_cases h40 : 40 < s.size
  · exact leads_long kind s f t w hs h40
  by_cases hE : (applyM kind s f t).2 = 0
  · have hR : rightK kind 9 s.size = true := by
      cases h : rightK kind 9 s.size with
      | true => rfl
      | false => unfold applyM at hE; rw [h, if_pos rfl] at hE; cases hE
    obtain ⟨_, r4, r8, r1, r9⟩ := right_size hR
    by_cases h1 : kind = 1
    · subst h1
      have hA : (applyM 1 s f t).1 = bytesL t 8 := by unfold applyM; rw [hR, if_neg (by decide), if_pos rfl]
      refine leads_abs s ⟨(bytesL t 8).toArray⟩ f t w hs h40 hf ht HT (Lib.hid (by rw [hA])) (Lib.hid hE) (size_bytes t 8) (r8 rfl) (Lib.hid ?_) (Lib.hid ?_)
      · rw [size_bytes]; rfl
      · show numL (bytesL t 8).toArray.toList = t
        rw [List.toList_toArray, num_bytes, show (256 : Nat) ^ 8 = 18446744073709551616 from by decide, Nat.mod_eq_of_lt ht]
    · have hx : numL s.data.toList % 4294967296 < 4294967296 := Nat.mod_lt _ (by decide)
      have hW : (wordM kind (numL s.data.toList % 4294967296) f t).2 = 0 := by
        unfold applyM at hE
        rw [hR, if_neg (by decide), if_neg h1] at hE
        by_cases h : (wordM kind (numL s.data.toList % 4294967296) f t).2 ≠ 0
        · rw [if_pos h] at hE; exact hE
        · exact Decidable.not_not.1 h
      have hA : (applyM kind s f t).1 = bytesL (wordM kind (numL s.data.toList % 4294967296) f t).1 4 := by
        unfold applyM; rw [hR, if_neg (by decide), if_neg h1, hW, if_neg (by decide)]
      obtain ⟨h2, h9, hF, hV, i, hN, hi, hB, hwr, hU⟩ := word_turned kind _ f t hx hW
      rw [hU] at hA
      have hm := dec_mask _ i hN
      have hiB := (dec_word _ hx i hN).1
      have hiW := (dec_word _ hx i hN).2.2.1
      obtain ⟨e1, _, e3⟩ := enc_dec _ hB hm
      have hback : (i.setImm (valK kind f t)).setImm 0 = i := setImm_back i _ hi
      have hnum : numL (⟨(bytesL (i.setImm (valK kind f t)).word 4).toArray⟩ : ByteArray).data.toList % 4294967296 = (i.setImm (valK kind f t)).word := by
        show numL (bytesL (i.setImm (valK kind f t)).word 4).toArray.toList % 4294967296 = _
        rw [List.toList_toArray, num_bytes, show (256 : Nat) ^ 4 = 4294967296 from by decide, Nat.mod_mod, Nat.mod_eq_of_lt e1]
      by_cases h7 : 6 < kind
      · refine leads_low kind s _ f t w hs h40 hf ht HT h7 (Lib.hid (by rw [hA])) (Lib.hid hE) (size_bytes _ 4) (Lib.hid ?_)
        unfold rightK
        rw [if_neg h1]
        have : decide (kind ≤ 6) = false := by simp; omega
        rw [this]; simp
      · have hR6 : rightK kind 6 4 = true := by
          unfold rightK
          rw [if_neg h1]
          simp; omega
        by_cases h6 : kind = 6
        · subst h6
          refine leads_page s _ f t _ _ _ w hs h40 hf ht HT (Lib.hid (by rw [hA])) (Lib.hid hE) (size_bytes _ 4) (Lib.hid (by rw [size_bytes]; exact hR6)) (Lib.hid hnum) (Lib.hid e3) (Lib.hid rfl) (Lib.hid (by rw [hback]; exact hiB)) (Lib.hid (by rw [hback, hiW]; exact hF)) ?_
          exact page_back f t hf ht
        · refine leads_near kind s _ f t _ _ _ w hs h40 hf ht HT h2 (by omega) (Lib.hid (by rw [hA])) (Lib.hid hE) (size_bytes _ 4) (r4 h1) (Lib.hid (by rw [size_bytes]; exact hR6)) (Lib.hid hnum) (Lib.hid e3) (Lib.hid rfl) (Lib.hid (by rw [hback]; exact hiB)) (Lib.hid (by rw [hback, hiW]; exact hF)) ?_
          show ((f : Int) + valK kind f t) % 18446744073709551616 = (t : Int)
          unfold valK
          rw [if_neg h6, if_neg (by omega)]
          exact far_back f t ht
  · refine leads_no kind s f t w hs h40 hf ht HT _ (by simpa using hE) (Lib.hid ?_) (Lib.hid rfl)
    have : (applyM kind s f t).1 = [] := by
      unfold applyM at hE ⊢
      by_cases hR : rightK kind 9 s.size = false
      · rw [if_pos hR]
      · rw [if_neg hR] at hE ⊢
        by_cases h1 : kind = 1
        · rw [if_pos h1] at hE; exact absurd rfl hE
        · rw [if_neg h1] at hE ⊢
          by_cases hW : (wordM kind (numL s.data.toList % 4294967296) f t).2 ≠ 0
          · rw [if_pos hW]
          · rw [if_neg hW] at hE; exact absurd rfl hE
    rw [this]
end Go.Proofs.YtdjdbgilimjagaaDoor
