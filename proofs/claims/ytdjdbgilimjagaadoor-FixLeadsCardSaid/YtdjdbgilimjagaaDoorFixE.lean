/- Layer 26 of the program, walked: Goal. The library's table lies as it is laid. -/
import Derived.Test.YtdjdbgilimjagaaDoorFixD
set_option linter.unusedVariables false
set_option linter.unusedSimpArgs false
namespace Go.Proofs.YtdjdbgilimjagaaDoor
open Go.RowKit
set_option maxRecDepth 100000

theorem goal_arg (kind : Int) (s : ByteArray) (f : Nat) (w : World) (hs : s.size ≤ maxLen) (hR : rightK kind 6 s.size = false) :
    Calls Tryd.prog 21 #[.int .i64 kind, .string s, .int .u64 f] w fun e w' => e = .returned (.tuple #[.int .u64 0, .int .i64 1]) ∧ w = w' := by
  have HM := Lib.hid hs
  have HR := Lib.hid hR
  clear hs hR
  go_enter Tryd.func21, Tryd.ntmps21
  go_wp2_with (go_at_call 44; refine (right26_any kind 6 s _ HM.out).mono ?_; rw [HR.out]; rintro e w1 ⟨rfl, rfl⟩)
  go_ret2
  exact ⟨rfl, rfl⟩
theorem goal_abs (s : ByteArray) (f : Nat) (w : World) (hs : s.size ≤ maxLen) (hR : rightK 1 6 s.size = true) :
    Calls Tryd.prog 21 #[.int .i64 1, .string s, .int .u64 f] w fun e w' => e = .returned (.tuple #[.int .u64 (numL s.data.toList : Nat), .int .i64 0]) ∧ w = w' := by
  have z8 := (right_size hR).1
  have HM := Lib.hid hs
  have HR := Lib.hid hR
  clear hs hR
  go_enter Tryd.func21, Tryd.ntmps21
  go_wp2_with (first | (go_at_call 44; refine (right26_any 1 6 s _ HM.out).mono ?_; rw [HR.out]; rintro e w1 ⟨rfl, rfl⟩) | (go_at_call 46; refine (number_any s _ z8).mono ?_; rintro e w1 ⟨rfl, rfl⟩))
  go_ret2
  exact ⟨rfl, rfl⟩
set_option maxHeartbeats 2000000 in
theorem goal_near (kind : Int) (s : ByteArray) (f x : Nat) (i : Ins) (U : Nat) (w : World) (hs : s.size ≤ maxLen) (hf : f < 18446744073709551616) (HT : Hid (Tab w)) (hR : rightK kind 6 s.size = true) (h2 : 2 ≤ kind) (h5 : kind ≤ 5)
    (hX : numL s.data.toList % 4294967296 = x) (HN : Hid (decO x = some i)) (HU : Hid ((i.setImm 0).word = U)) (HB : Hid ((i.setImm 0).isB = true)) (HF : Hid (fitsM kind U = true)) :
    Calls Tryd.prog 21 #[.int .i64 kind, .string s, .int .u64 f] w fun e w' => e = .returned (.tuple #[.int .u64 (((f : Int) + i.imm) % 18446744073709551616), .int .i64 0]) ∧ Below w.heap.size w w' := by
  have z8 := (right_size hR).1
  have HM := Lib.hid hs
  have HR := Lib.hid hR
  have hx2 : x < 4294967296 := hX ▸ Nat.mod_lt _ (by decide)
  have e1 : IntKind.u32.wrap ((numL s.data.toList : Nat) : Int) = (x : Int) := by rw [← hX, IntKind.wrap_u32]; omega
  have c1 : Hid (decI x = i) := Lib.hid (by unfold decI; rw [HN.out]; rfl)
  have c2 : Hid (decE x = 0) := Lib.hid (by unfold decE; rw [HN.out]; rfl)
  have hm := dec_mask x i HN.out
  have hU2 : U < 4294967296 := HU.out ▸ (enc_dec _ HB.out hm).1
  have HU2 : Hid (encW (i.setImm 0) = U) := Lib.hid (by unfold encW; rw [HB.out, if_pos rfl]; exact HU.out)
  have HUE : Hid (encE (i.setImm 0) = 0) := Lib.hid (by unfold encE; rw [HB.out, if_pos rfl])
  have HX := Lib.hid hX
  have hk1 : (kind == 1) = false := by simp; omega
  have hk6 : (kind == 6) = false := by simp; omega
  clear hs hR hX
  go_enter Tryd.func21, Tryd.ntmps21
  go_wp2_with (first | (go_at_call 44; refine (right26_any kind 6 s _ HM.out).mono ?_; rw [HR.out]; rintro e w1 ⟨rfl, rfl⟩) | (go_at_call 46; refine (number_any s _ z8).mono ?_; rintro e w1 ⟨rfl, rfl⟩))
  refine (dec_at x _ hx2 HT _ _ c1 c2).mono ?_
  rintro e w3 ⟨rfl, hb3⟩
  go_wp2_with fail
  refine (enc_any (i.setImm 0) _ hm (Lib.hid (HT.out.below (bt2 hb3 (bt2 (balloc w3 _) (balloc _ _))))) _ _ HU2 HUE).mono ?_
  rintro e w4 ⟨rfl, hb4⟩
  obtain ⟨hA, hJ, hz1, hw4⟩ := two_new hb4
  have k5 : w4.cell? ⟨w3.heap.size, 5, none⟩ = some (.int .i64 i.imm) := (show At w4 w3.heap.size i from hA).cell 5
  go_wp2_with (go_at_call 24; refine (fits_at kind U _ hU2 (Lib.hid (HT.out.below (bt2 hb3 hw4))) true HF).mono ?_; rintro e w5 ⟨rfl, hb5⟩; have k5' := cell_later hb5 k5)
  go_ret2
  refine ⟨ret2_int ?_ rfl, bt2 hb3 (bt2 hw4 hb5)⟩
  simp only [IntKind.wrap_u64]; omega
set_option maxHeartbeats 2000000 in
theorem goal_page (s : ByteArray) (f x : Nat) (i : Ins) (U : Nat) (w : World) (hs : s.size ≤ maxLen) (hf : f < 18446744073709551616) (HT : Hid (Tab w)) (hR : rightK 6 6 s.size = true) 
    (hX : numL s.data.toList % 4294967296 = x) (HN : Hid (decO x = some i)) (HU : Hid ((i.setImm 0).word = U)) (HB : Hid ((i.setImm 0).isB = true)) (HF : Hid (fitsM 6 U = true)) :
    Calls Tryd.prog 21 #[.int .i64 6, .string s, .int .u64 f] w fun e w' => e = .returned (.tuple #[.int .u64 ((((pageN f : Nat) : Int) + 4096 * i.imm) % 18446744073709551616), .int .i64 0]) ∧ Below w.heap.size w w' := by
  have z8 := (right_size hR).1
  have HM := Lib.hid hs
  have HR := Lib.hid hR
  have hx2 : x < 4294967296 := hX ▸ Nat.mod_lt _ (by decide)
  have e1 : IntKind.u32.wrap ((numL s.data.toList : Nat) : Int) = (x : Int) := by rw [← hX, IntKind.wrap_u32]; omega
  have c1 : Hid (decI x = i) := Lib.hid (by unfold decI; rw [HN.out]; rfl)
  have c2 : Hid (decE x = 0) := Lib.hid (by unfold decE; rw [HN.out]; rfl)
  have hm := dec_mask x i HN.out
  have hU2 : U < 4294967296 := HU.out ▸ (enc_dec _ HB.out hm).1
  have HU2 : Hid (encW (i.setImm 0) = U) := Lib.hid (by unfold encW; rw [HB.out, if_pos rfl]; exact HU.out)
  have HUE : Hid (encE (i.setImm 0) = 0) := Lib.hid (by unfold encE; rw [HB.out, if_pos rfl])
  have HX := Lib.hid hX
  have ep := andNot_page f hf
  clear hs hR hX
  go_enter Tryd.func21, Tryd.ntmps21
  go_wp2_with (first | (go_at_call 44; refine (right26_any 6 6 s _ HM.out).mono ?_; rw [HR.out]; rintro e w1 ⟨rfl, rfl⟩) | (go_at_call 46; refine (number_any s _ z8).mono ?_; rintro e w1 ⟨rfl, rfl⟩))
  refine (dec_at x _ hx2 HT _ _ c1 c2).mono ?_
  rintro e w3 ⟨rfl, hb3⟩
  go_wp2_with fail
  refine (enc_any (i.setImm 0) _ hm (Lib.hid (HT.out.below (bt2 hb3 (bt2 (balloc w3 _) (balloc _ _))))) _ _ HU2 HUE).mono ?_
  rintro e w4 ⟨rfl, hb4⟩
  obtain ⟨hA, hJ, hz1, hw4⟩ := two_new hb4
  have k5 : w4.cell? ⟨w3.heap.size, 5, none⟩ = some (.int .i64 i.imm) := (show At w4 w3.heap.size i from hA).cell 5
  go_wp2_with (go_at_call 24; refine (fits_at 6 U _ hU2 (Lib.hid (HT.out.below (bt2 hb3 hw4))) true HF).mono ?_; rintro e w5 ⟨rfl, hb5⟩; have k5' := cell_later hb5 k5)
  go_ret2
  refine ⟨ret2_int ?_ rfl, bt2 hb3 (bt2 hw4 hb5)⟩
  simp only [IntKind.wrap_u64]; omega
end Go.Proofs.YtdjdbgilimjagaaDoor
