/- Layer 2 of the program, walked: how a number is told, way by way. Numbers are of their kinds; the library's table lies as it is laid. -/
import Derived.Test.YtdjdbgilimjagaaDoorMaskD
set_option linter.unusedVariables false
set_option linter.unusedSimpArgs false
namespace Go.Proofs.YtdjdbgilimjagaaDoor
open Go.RowKit
set_option maxRecDepth 100000

set_option maxHeartbeats 2000000 in
theorem tell_0no (v sz x n a0 y l : Nat) (w : World) (h1 : v < 18446744073709551616) (HN : Hid (n = popN x)) (HL : Hid (lowN v (min sz 64) = x)) (HS : Hid (sz = sizeN v)) (hx1 : x < 18446744073709551616) (HX : Hid (x ≠ 0)) (HXs : Hid ((x : Int) < ((2 ^ (sz : Int).toNat : Nat) : Int))) (HSZ : Hid ((sz : Int) = 2 ∨ (sz : Int) = 4 ∨ (sz : Int) = 8 ∨ (sz : Int) = 16 ∨ (sz : Int) = 32 ∨ (sz : Int) = 64)) (hsz : 2 ≤ sz) (hsz2 : sz ≤ 64) (hb : ((n : Int) == 0) = false) (hb2 : ((n : Int) == (sz : Int)) = false) (hn : n ≤ 127) (HT : Hid (Tab w)) (HA : Hid (a0 = tzN x)) (hb3 : ((a0 : Int) == 0) = true) (ey : bits .xor .u64 IntKind.u64.max (IntKind.u64.wrap ((x : Int) * 2 ^ (64 - sz))) = (y : Int)) (hy1 : y < 18446744073709551616) (hl : l ≤ 64) (HLN : Hid (l = lenN y)) (HK : Hid (((sz : Int) - (64 - (l : Int))).tmod (sz : Int) < 0 ∨ (sz : Int) ≤ ((sz : Int) - (64 - (l : Int))).tmod (sz : Int))) (HO : Hid (lowN 18446744073709551615 (min n 64) ≠ 0)) :
    Calls Tryd.prog 68 #[.int .u64 v] w fun e w' => e = .returned (.agg #[.int .i64 0, .int .i64 0, .int .i64 0]) ∧ Below w.heap.size w w' := by
  have hne : ((0 : Int) != ((lowN 18446744073709551615 (min n 64) : Nat) : Int)) = true := bne_iff_ne.2 (fun h => HO.out (by omega))
  go_enter Tryd.func68, Tryd.ntmps68
  go_wp2_with (first | (go_at_call 103; refine (size_any v _ h1).mono ?_; rw [← HS.out]; rintro e w1 ⟨rfl, hb1⟩; obtain ⟨c0, c1, c2, f0, f1, f2, hz⟩ := res3 hb1) | (go_at_call 104; refine (low_any _ _ _ (by omega) (by omega)).mono ?_; simp only [Int.toNat_natCast]; (first | rw [HL.out] | rw [show (18446744073709551615 : Int).toNat = 18446744073709551615 from rfl]); rintro e w2 ⟨rfl, rfl⟩) | (go_at_call 105; refine (onesC_any x _ hx1).mono ?_; rw [← HN.out]; rintro e w2 ⟨rfl, rfl⟩) | (go_at_call 106; refine (tz_any x _ hx1 HX.out (HT.out.below (bel_of_res hb1))).mono ?_; rw [← HA.out]; rintro e w2 ⟨rfl, rfl⟩) | (go_at_call 107; refine (lz_any y _ hy1).mono ?_; rw [← HLN.out]; rintro e w2 ⟨rfl, rfl⟩) | (go_at_call 108; refine (rotate_no _ _ _ _ HSZ.out HK.out).mono ?_; rintro e w2 ⟨rfl, m, rfl⟩))
  refine bodyPost_ret (v := .agg #[.int .i64 0, .int .i64 0, .int .i64 0]) (by simp [results, Tryd.results68, go_sem, c0, c1, c2]) rfl ⟨rfl, ?_⟩
  exact (((below_drewN (bel_of_res hb1) _).setCell (Nat.le_refl _) _).setCell (Nat.le_refl _) _).setCell (Nat.le_refl _) _

set_option maxHeartbeats 2000000 in
theorem tell_0mis (v sz x n a0 y l q : Nat) (w : World) (h1 : v < 18446744073709551616) (HN : Hid (n = popN x)) (HL : Hid (lowN v (min sz 64) = x)) (HS : Hid (sz = sizeN v)) (hx1 : x < 18446744073709551616) (HX : Hid (x ≠ 0)) (HXs : Hid ((x : Int) < ((2 ^ (sz : Int).toNat : Nat) : Int))) (HSZ : Hid ((sz : Int) = 2 ∨ (sz : Int) = 4 ∨ (sz : Int) = 8 ∨ (sz : Int) = 16 ∨ (sz : Int) = 32 ∨ (sz : Int) = 64)) (hsz : 2 ≤ sz) (hsz2 : sz ≤ 64) (hb : ((n : Int) == 0) = false) (hb2 : ((n : Int) == (sz : Int)) = false) (hn : n ≤ 127) (HT : Hid (Tab w)) (HA : Hid (a0 = tzN x)) (hb3 : ((a0 : Int) == 0) = true) (ey : bits .xor .u64 IntKind.u64.max (IntKind.u64.wrap ((x : Int) * 2 ^ (64 - sz))) = (y : Int)) (hy1 : y < 18446744073709551616) (hl : l ≤ 64) (HLN : Hid (l = lenN y)) (HK0 : Hid (0 ≤ ((sz : Int) - (64 - (l : Int))).tmod (sz : Int))) (HK1 : Hid (((sz : Int) - (64 - (l : Int))).tmod (sz : Int) < (sz : Int))) (HQ : Hid (q = rotN x (((sz : Int) - (64 - (l : Int))).tmod (sz : Int)).toNat sz)) (HM : Hid (q ≠ lowN 18446744073709551615 (min n 64))) :
    Calls Tryd.prog 68 #[.int .u64 v] w fun e w' => e = .returned (.agg #[.int .i64 0, .int .i64 0, .int .i64 0]) ∧ Below w.heap.size w w' := by
  have hne : ((q : Int) != ((lowN 18446744073709551615 (min n 64) : Nat) : Int)) = true := bne_iff_ne.2 (fun h => HM.out (by omega))
  go_enter Tryd.func68, Tryd.ntmps68
  go_wp2_with (first | (go_at_call 103; refine (size_any v _ h1).mono ?_; rw [← HS.out]; rintro e w1 ⟨rfl, hb1⟩; obtain ⟨c0, c1, c2, f0, f1, f2, hz⟩ := res3 hb1) | (go_at_call 104; refine (low_any _ _ _ (by omega) (by omega)).mono ?_; simp only [Int.toNat_natCast]; (first | rw [HL.out] | rw [show (18446744073709551615 : Int).toNat = 18446744073709551615 from rfl]); rintro e w2 ⟨rfl, rfl⟩) | (go_at_call 105; refine (onesC_any x _ hx1).mono ?_; rw [← HN.out]; rintro e w2 ⟨rfl, rfl⟩) | (go_at_call 106; refine (tz_any x _ hx1 HX.out (HT.out.below (bel_of_res hb1))).mono ?_; rw [← HA.out]; rintro e w2 ⟨rfl, rfl⟩) | (go_at_call 107; refine (lz_any y _ hy1).mono ?_; rw [← HLN.out]; rintro e w2 ⟨rfl, rfl⟩) | (go_at_call 108; refine (rotate_yes _ _ _ _ (by omega) HXs.out HSZ.out HK0.out HK1.out).mono ?_; simp only [Int.toNat_natCast]; rw [← HQ.out]; rintro e w2 ⟨rfl, m, rfl⟩))
  refine bodyPost_ret (v := .agg #[.int .i64 0, .int .i64 0, .int .i64 0]) (by simp [results, Tryd.results68, go_sem, c0, c1, c2]) rfl ⟨rfl, ?_⟩
  exact (((below_drewN (bel_of_res hb1) _).setCell (Nat.le_refl _) _).setCell (Nat.le_refl _) _).setCell (Nat.le_refl _) _

set_option maxHeartbeats 2000000 in
theorem tell_0matA (v sz x n a0 y l : Nat) (w : World) (h1 : v < 18446744073709551616) (HN : Hid (n = popN x)) (HL : Hid (lowN v (min sz 64) = x)) (HS : Hid (sz = sizeN v)) (hx1 : x < 18446744073709551616) (HX : Hid (x ≠ 0)) (HXs : Hid ((x : Int) < ((2 ^ (sz : Int).toNat : Nat) : Int))) (HSZ : Hid ((sz : Int) = 2 ∨ (sz : Int) = 4 ∨ (sz : Int) = 8 ∨ (sz : Int) = 16 ∨ (sz : Int) = 32 ∨ (sz : Int) = 64)) (hsz : 2 ≤ sz) (hsz2 : sz ≤ 64) (hb : ((n : Int) == 0) = false) (hb2 : ((n : Int) == (sz : Int)) = false) (hn : n ≤ 127) (HT : Hid (Tab w)) (HA : Hid (a0 = tzN x)) (hb3 : ((a0 : Int) == 0) = true) (ey : bits .xor .u64 IntKind.u64.max (IntKind.u64.wrap ((x : Int) * 2 ^ (64 - sz))) = (y : Int)) (hy1 : y < 18446744073709551616) (hl : l ≤ 64) (HLN : Hid (l = lenN y)) (HK0 : Hid (0 ≤ ((sz : Int) - (64 - (l : Int))).tmod (sz : Int))) (HK1 : Hid (((sz : Int) - (64 - (l : Int))).tmod (sz : Int) < (sz : Int))) (HM : Hid (rotN x (((sz : Int) - (64 - (l : Int))).tmod (sz : Int)).toNat sz = lowN 18446744073709551615 (min n 64))) (f : Int) (hf0 : -64 ≤ f) (hf1 : f ≤ 60) (HF : Hid (f = frontI (sz : Int))) (h64 : ((sz : Int) == 64) = true) :
    Calls Tryd.prog 68 #[.int .u64 v] w fun e w' => e = .returned (.agg #[.int .i64 1, .int .i64 (-((sz : Int) - (64 - (l : Int))).tmod (sz : Int) % (sz : Int)), .int .i64 ((n : Int) - 1 + f)]) ∧ Below w.heap.size w w' := by
  go_enter Tryd.func68, Tryd.ntmps68
  go_wp2_with (first | (go_at_call 103; refine (size_any v _ h1).mono ?_; rw [← HS.out]; rintro e w1 ⟨rfl, hb1⟩; obtain ⟨c0, c1, c2, f0, f1, f2, hz⟩ := res3 hb1) | (go_at_call 104; refine (low_any _ _ _ (by omega) (by omega)).mono ?_; simp only [Int.toNat_natCast]; (first | rw [HL.out] | rw [show (18446744073709551615 : Int).toNat = 18446744073709551615 from rfl]); rintro e w2 ⟨rfl, rfl⟩) | (go_at_call 105; refine (onesC_any x _ hx1).mono ?_; rw [← HN.out]; rintro e w2 ⟨rfl, rfl⟩) | (go_at_call 106; refine (tz_any x _ hx1 HX.out (HT.out.below (bel_of_res hb1))).mono ?_; rw [← HA.out]; rintro e w2 ⟨rfl, rfl⟩) | (go_at_call 107; refine (lz_any y _ hy1).mono ?_; rw [← HLN.out]; rintro e w2 ⟨rfl, rfl⟩) | (go_at_call 108; refine (rotate_yes _ _ _ _ (by omega) HXs.out HSZ.out HK0.out HK1.out).mono ?_; simp only [Int.toNat_natCast]; rw [HM.out]; rintro e w2 ⟨rfl, m, rfl⟩))
  have hw : IntKind.i64.wrap ((n : Int) - 1 + f) = (n : Int) - 1 + f := IntWalk.i64_in _ (by omega)
  have HW := Lib.hid hw
  clear hw
  have k0 := HK0.out
  have k1 := HK1.out
  have c0' : (w1.drewN m).cell? ⟨w.heap.size, 0, none⟩ = some (.int .i64 0) := c0
  have c1' : (w1.drewN m).cell? ⟨w.heap.size, 1, none⟩ = some (.int .i64 0) := c1
  have c2' : (w1.drewN m).cell? ⟨w.heap.size, 2, none⟩ = some (.int .i64 0) := c2
  have f0' : (w1.drewN m).frozen? ⟨w.heap.size, 0, none⟩ = false := f0
  have f1' : (w1.drewN m).frozen? ⟨w.heap.size, 1, none⟩ = false := f1
  have f2' : (w1.drewN m).frozen? ⟨w.heap.size, 2, none⟩ = false := f2
  have hz' : w.heap.size < (w1.drewN m).heap.size := hz
  have hb' : Below w.heap.size w (w1.drewN m) := below_drewN (bel_of_res hb1) _
  clear c0 c1 c2 f0 f1 f2 hz hb1
  generalize w1.drewN m = W at *
  have hw := HW.out
  go_region_with ((go_at_call 109; refine (front_any _ _ (by omega) (by omega)).mono ?_; rw [← HF.out]; rintro e w2 ⟨rfl, rfl⟩))
  all_goals
    go_wp2
    refine bodyPost_ret (v := .agg #[.int .i64 1, .int .i64 (-((sz : Int) - (64 - (l : Int))).tmod (sz : Int) % (sz : Int)), .int .i64 ((n : Int) - 1 + f)]) (by simp [results, Tryd.results68, go_sem, c0', c1', c2', f0', f1', f2', hz']) rfl ⟨rfl, ?_⟩
    exact ((((hb'.setCell (Nat.le_refl _) _).setCell (Nat.le_refl _) _).setCell (Nat.le_refl _) _).alloc (by simp; omega) _).drew

set_option maxHeartbeats 2000000 in
theorem tell_0matB (v sz x n a0 y l : Nat) (w : World) (h1 : v < 18446744073709551616) (HN : Hid (n = popN x)) (HL : Hid (lowN v (min sz 64) = x)) (HS : Hid (sz = sizeN v)) (hx1 : x < 18446744073709551616) (HX : Hid (x ≠ 0)) (HXs : Hid ((x : Int) < ((2 ^ (sz : Int).toNat : Nat) : Int))) (HSZ : Hid ((sz : Int) = 2 ∨ (sz : Int) = 4 ∨ (sz : Int) = 8 ∨ (sz : Int) = 16 ∨ (sz : Int) = 32 ∨ (sz : Int) = 64)) (hsz : 2 ≤ sz) (hsz2 : sz ≤ 64) (hb : ((n : Int) == 0) = false) (hb2 : ((n : Int) == (sz : Int)) = false) (hn : n ≤ 127) (HT : Hid (Tab w)) (HA : Hid (a0 = tzN x)) (hb3 : ((a0 : Int) == 0) = true) (ey : bits .xor .u64 IntKind.u64.max (IntKind.u64.wrap ((x : Int) * 2 ^ (64 - sz))) = (y : Int)) (hy1 : y < 18446744073709551616) (hl : l ≤ 64) (HLN : Hid (l = lenN y)) (HK0 : Hid (0 ≤ ((sz : Int) - (64 - (l : Int))).tmod (sz : Int))) (HK1 : Hid (((sz : Int) - (64 - (l : Int))).tmod (sz : Int) < (sz : Int))) (HM : Hid (rotN x (((sz : Int) - (64 - (l : Int))).tmod (sz : Int)).toNat sz = lowN 18446744073709551615 (min n 64))) (f : Int) (hf0 : -64 ≤ f) (hf1 : f ≤ 60) (HF : Hid (f = frontI (sz : Int))) (h64 : ((sz : Int) == 64) = false) :
    Calls Tryd.prog 68 #[.int .u64 v] w fun e w' => e = .returned (.agg #[.int .i64 0, .int .i64 (-((sz : Int) - (64 - (l : Int))).tmod (sz : Int) % (sz : Int)), .int .i64 ((n : Int) - 1 + f)]) ∧ Below w.heap.size w w' := by
  go_enter Tryd.func68, Tryd.ntmps68
  go_wp2_with (first | (go_at_call 103; refine (size_any v _ h1).mono ?_; rw [← HS.out]; rintro e w1 ⟨rfl, hb1⟩; obtain ⟨c0, c1, c2, f0, f1, f2, hz⟩ := res3 hb1) | (go_at_call 104; refine (low_any _ _ _ (by omega) (by omega)).mono ?_; simp only [Int.toNat_natCast]; (first | rw [HL.out] | rw [show (18446744073709551615 : Int).toNat = 18446744073709551615 from rfl]); rintro e w2 ⟨rfl, rfl⟩) | (go_at_call 105; refine (onesC_any x _ hx1).mono ?_; rw [← HN.out]; rintro e w2 ⟨rfl, rfl⟩) | (go_at_call 106; refine (tz_any x _ hx1 HX.out (HT.out.below (bel_of_res hb1))).mono ?_; rw [← HA.out]; rintro e w2 ⟨rfl, rfl⟩) | (go_at_call 107; refine (lz_any y _ hy1).mono ?_; rw [← HLN.out]; rintro e w2 ⟨rfl, rfl⟩) | (go_at_call 108; refine (rotate_yes _ _ _ _ (by omega) HXs.out HSZ.out HK0.out HK1.out).mono ?_; simp only [Int.toNat_natCast]; rw [HM.out]; rintro e w2 ⟨rfl, m, rfl⟩))
  have hw : IntKind.i64.wrap ((n : Int) - 1 + f) = (n : Int) - 1 + f := IntWalk.i64_in _ (by omega)
  have HW := Lib.hid hw
  clear hw
  have k0 := HK0.out
  have k1 := HK1.out
  have c0' : (w1.drewN m).cell? ⟨w.heap.size, 0, none⟩ = some (.int .i64 0) := c0
  have c1' : (w1.drewN m).cell? ⟨w.heap.size, 1, none⟩ = some (.int .i64 0) := c1
  have c2' : (w1.drewN m).cell? ⟨w.heap.size, 2, none⟩ = some (.int .i64 0) := c2
  have f0' : (w1.drewN m).frozen? ⟨w.heap.size, 0, none⟩ = false := f0
  have f1' : (w1.drewN m).frozen? ⟨w.heap.size, 1, none⟩ = false := f1
  have f2' : (w1.drewN m).frozen? ⟨w.heap.size, 2, none⟩ = false := f2
  have hz' : w.heap.size < (w1.drewN m).heap.size := hz
  have hb' : Below w.heap.size w (w1.drewN m) := below_drewN (bel_of_res hb1) _
  clear c0 c1 c2 f0 f1 f2 hz hb1
  generalize w1.drewN m = W at *
  have hw := HW.out
  go_region_with ((go_at_call 109; refine (front_any _ _ (by omega) (by omega)).mono ?_; rw [← HF.out]; rintro e w2 ⟨rfl, rfl⟩))
  all_goals
    go_wp2
    refine bodyPost_ret (v := .agg #[.int .i64 0, .int .i64 (-((sz : Int) - (64 - (l : Int))).tmod (sz : Int) % (sz : Int)), .int .i64 ((n : Int) - 1 + f)]) (by simp [results, Tryd.results68, go_sem, c0', c1', c2', f0', f1', f2', hz']) rfl ⟨rfl, ?_⟩
    exact ((((hb'.setCell (Nat.le_refl _) _).setCell (Nat.le_refl _) _).setCell (Nat.le_refl _) _).alloc (by simp; omega) _).drew

set_option maxHeartbeats 2000000 in
theorem tell_1no (v sz x n a0 : Nat) (w : World) (h1 : v < 18446744073709551616) (HN : Hid (n = popN x)) (HL : Hid (lowN v (min sz 64) = x)) (HS : Hid (sz = sizeN v)) (hx1 : x < 18446744073709551616) (HX : Hid (x ≠ 0)) (HXs : Hid ((x : Int) < ((2 ^ (sz : Int).toNat : Nat) : Int))) (HSZ : Hid ((sz : Int) = 2 ∨ (sz : Int) = 4 ∨ (sz : Int) = 8 ∨ (sz : Int) = 16 ∨ (sz : Int) = 32 ∨ (sz : Int) = 64)) (hsz : 2 ≤ sz) (hsz2 : sz ≤ 64) (hb : ((n : Int) == 0) = false) (hb2 : ((n : Int) == (sz : Int)) = false) (hn : n ≤ 127) (HT : Hid (Tab w)) (HA : Hid (a0 = tzN x)) (hb3 : ((a0 : Int) == 0) = false) (HK : Hid ((a0 : Int) < 0 ∨ (sz : Int) ≤ (a0 : Int))) (HO : Hid (lowN 18446744073709551615 (min n 64) ≠ 0)) :
    Calls Tryd.prog 68 #[.int .u64 v] w fun e w' => e = .returned (.agg #[.int .i64 0, .int .i64 0, .int .i64 0]) ∧ Below w.heap.size w w' := by
  have hne : ((0 : Int) != ((lowN 18446744073709551615 (min n 64) : Nat) : Int)) = true := bne_iff_ne.2 (fun h => HO.out (by omega))
  go_enter Tryd.func68, Tryd.ntmps68
  go_wp2_with (first | (go_at_call 103; refine (size_any v _ h1).mono ?_; rw [← HS.out]; rintro e w1 ⟨rfl, hb1⟩; obtain ⟨c0, c1, c2, f0, f1, f2, hz⟩ := res3 hb1) | (go_at_call 104; refine (low_any _ _ _ (by omega) (by omega)).mono ?_; simp only [Int.toNat_natCast]; (first | rw [HL.out] | rw [show (18446744073709551615 : Int).toNat = 18446744073709551615 from rfl]); rintro e w2 ⟨rfl, rfl⟩) | (go_at_call 105; refine (onesC_any x _ hx1).mono ?_; rw [← HN.out]; rintro e w2 ⟨rfl, rfl⟩) | (go_at_call 106; refine (tz_any x _ hx1 HX.out (HT.out.below (bel_of_res hb1))).mono ?_; rw [← HA.out]; rintro e w2 ⟨rfl, rfl⟩) | (go_at_call 108; refine (rotate_no _ _ _ _ HSZ.out HK.out).mono ?_; rintro e w2 ⟨rfl, m, rfl⟩))
  refine bodyPost_ret (v := .agg #[.int .i64 0, .int .i64 0, .int .i64 0]) (by simp [results, Tryd.results68, go_sem, c0, c1, c2]) rfl ⟨rfl, ?_⟩
  exact (((below_drewN (bel_of_res hb1) _).setCell (Nat.le_refl _) _).setCell (Nat.le_refl _) _).setCell (Nat.le_refl _) _

set_option maxHeartbeats 2000000 in
theorem tell_1mis (v sz x n a0 q : Nat) (w : World) (h1 : v < 18446744073709551616) (HN : Hid (n = popN x)) (HL : Hid (lowN v (min sz 64) = x)) (HS : Hid (sz = sizeN v)) (hx1 : x < 18446744073709551616) (HX : Hid (x ≠ 0)) (HXs : Hid ((x : Int) < ((2 ^ (sz : Int).toNat : Nat) : Int))) (HSZ : Hid ((sz : Int) = 2 ∨ (sz : Int) = 4 ∨ (sz : Int) = 8 ∨ (sz : Int) = 16 ∨ (sz : Int) = 32 ∨ (sz : Int) = 64)) (hsz : 2 ≤ sz) (hsz2 : sz ≤ 64) (hb : ((n : Int) == 0) = false) (hb2 : ((n : Int) == (sz : Int)) = false) (hn : n ≤ 127) (HT : Hid (Tab w)) (HA : Hid (a0 = tzN x)) (hb3 : ((a0 : Int) == 0) = false) (HK0 : Hid (0 ≤ (a0 : Int))) (HK1 : Hid ((a0 : Int) < (sz : Int))) (HQ : Hid (q = rotN x a0 sz)) (HM : Hid (q ≠ lowN 18446744073709551615 (min n 64))) :
    Calls Tryd.prog 68 #[.int .u64 v] w fun e w' => e = .returned (.agg #[.int .i64 0, .int .i64 0, .int .i64 0]) ∧ Below w.heap.size w w' := by
  have hne : ((q : Int) != ((lowN 18446744073709551615 (min n 64) : Nat) : Int)) = true := bne_iff_ne.2 (fun h => HM.out (by omega))
  go_enter Tryd.func68, Tryd.ntmps68
  go_wp2_with (first | (go_at_call 103; refine (size_any v _ h1).mono ?_; rw [← HS.out]; rintro e w1 ⟨rfl, hb1⟩; obtain ⟨c0, c1, c2, f0, f1, f2, hz⟩ := res3 hb1) | (go_at_call 104; refine (low_any _ _ _ (by omega) (by omega)).mono ?_; simp only [Int.toNat_natCast]; (first | rw [HL.out] | rw [show (18446744073709551615 : Int).toNat = 18446744073709551615 from rfl]); rintro e w2 ⟨rfl, rfl⟩) | (go_at_call 105; refine (onesC_any x _ hx1).mono ?_; rw [← HN.out]; rintro e w2 ⟨rfl, rfl⟩) | (go_at_call 106; refine (tz_any x _ hx1 HX.out (HT.out.below (bel_of_res hb1))).mono ?_; rw [← HA.out]; rintro e w2 ⟨rfl, rfl⟩) | (go_at_call 108; refine (rotate_yes _ _ _ _ (by omega) HXs.out HSZ.out HK0.out HK1.out).mono ?_; simp only [Int.toNat_natCast]; rw [← HQ.out]; rintro e w2 ⟨rfl, m, rfl⟩))
  refine bodyPost_ret (v := .agg #[.int .i64 0, .int .i64 0, .int .i64 0]) (by simp [results, Tryd.results68, go_sem, c0, c1, c2]) rfl ⟨rfl, ?_⟩
  exact (((below_drewN (bel_of_res hb1) _).setCell (Nat.le_refl _) _).setCell (Nat.le_refl _) _).setCell (Nat.le_refl _) _

set_option maxHeartbeats 2000000 in
theorem tell_1matA (v sz x n a0 : Nat) (w : World) (h1 : v < 18446744073709551616) (HN : Hid (n = popN x)) (HL : Hid (lowN v (min sz 64) = x)) (HS : Hid (sz = sizeN v)) (hx1 : x < 18446744073709551616) (HX : Hid (x ≠ 0)) (HXs : Hid ((x : Int) < ((2 ^ (sz : Int).toNat : Nat) : Int))) (HSZ : Hid ((sz : Int) = 2 ∨ (sz : Int) = 4 ∨ (sz : Int) = 8 ∨ (sz : Int) = 16 ∨ (sz : Int) = 32 ∨ (sz : Int) = 64)) (hsz : 2 ≤ sz) (hsz2 : sz ≤ 64) (hb : ((n : Int) == 0) = false) (hb2 : ((n : Int) == (sz : Int)) = false) (hn : n ≤ 127) (HT : Hid (Tab w)) (HA : Hid (a0 = tzN x)) (hb3 : ((a0 : Int) == 0) = false) (HK0 : Hid (0 ≤ (a0 : Int))) (HK1 : Hid ((a0 : Int) < (sz : Int))) (HM : Hid (rotN x a0 sz = lowN 18446744073709551615 (min n 64))) (f : Int) (hf0 : -64 ≤ f) (hf1 : f ≤ 60) (HF : Hid (f = frontI (sz : Int))) (h64 : ((sz : Int) == 64) = true) :
    Calls Tryd.prog 68 #[.int .u64 v] w fun e w' => e = .returned (.agg #[.int .i64 1, .int .i64 (-(a0 : Int) % (sz : Int)), .int .i64 ((n : Int) - 1 + f)]) ∧ Below w.heap.size w w' := by
  go_enter Tryd.func68, Tryd.ntmps68
  go_wp2_with (first | (go_at_call 103; refine (size_any v _ h1).mono ?_; rw [← HS.out]; rintro e w1 ⟨rfl, hb1⟩; obtain ⟨c0, c1, c2, f0, f1, f2, hz⟩ := res3 hb1) | (go_at_call 104; refine (low_any _ _ _ (by omega) (by omega)).mono ?_; simp only [Int.toNat_natCast]; (first | rw [HL.out] | rw [show (18446744073709551615 : Int).toNat = 18446744073709551615 from rfl]); rintro e w2 ⟨rfl, rfl⟩) | (go_at_call 105; refine (onesC_any x _ hx1).mono ?_; rw [← HN.out]; rintro e w2 ⟨rfl, rfl⟩) | (go_at_call 106; refine (tz_any x _ hx1 HX.out (HT.out.below (bel_of_res hb1))).mono ?_; rw [← HA.out]; rintro e w2 ⟨rfl, rfl⟩) | (go_at_call 108; refine (rotate_yes _ _ _ _ (by omega) HXs.out HSZ.out HK0.out HK1.out).mono ?_; simp only [Int.toNat_natCast]; rw [HM.out]; rintro e w2 ⟨rfl, m, rfl⟩))
  have hw : IntKind.i64.wrap ((n : Int) - 1 + f) = (n : Int) - 1 + f := IntWalk.i64_in _ (by omega)
  have HW := Lib.hid hw
  clear hw
  have k0 := HK0.out
  have k1 := HK1.out
  have c0' : (w1.drewN m).cell? ⟨w.heap.size, 0, none⟩ = some (.int .i64 0) := c0
  have c1' : (w1.drewN m).cell? ⟨w.heap.size, 1, none⟩ = some (.int .i64 0) := c1
  have c2' : (w1.drewN m).cell? ⟨w.heap.size, 2, none⟩ = some (.int .i64 0) := c2
  have f0' : (w1.drewN m).frozen? ⟨w.heap.size, 0, none⟩ = false := f0
  have f1' : (w1.drewN m).frozen? ⟨w.heap.size, 1, none⟩ = false := f1
  have f2' : (w1.drewN m).frozen? ⟨w.heap.size, 2, none⟩ = false := f2
  have hz' : w.heap.size < (w1.drewN m).heap.size := hz
  have hb' : Below w.heap.size w (w1.drewN m) := below_drewN (bel_of_res hb1) _
  clear c0 c1 c2 f0 f1 f2 hz hb1
  generalize w1.drewN m = W at *
  have hw := HW.out
  go_region_with ((go_at_call 109; refine (front_any _ _ (by omega) (by omega)).mono ?_; rw [← HF.out]; rintro e w2 ⟨rfl, rfl⟩))
  all_goals
    go_wp2
    refine bodyPost_ret (v := .agg #[.int .i64 1, .int .i64 (-(a0 : Int) % (sz : Int)), .int .i64 ((n : Int) - 1 + f)]) (by simp [results, Tryd.results68, go_sem, c0', c1', c2', f0', f1', f2', hz']) rfl ⟨rfl, ?_⟩
    exact ((((hb'.setCell (Nat.le_refl _) _).setCell (Nat.le_refl _) _).setCell (Nat.le_refl _) _).alloc (by simp; omega) _).drew

set_option maxHeartbeats 2000000 in
theorem tell_1matB (v sz x n a0 : Nat) (w : World) (h1 : v < 18446744073709551616) (HN : Hid (n = popN x)) (HL : Hid (lowN v (min sz 64) = x)) (HS : Hid (sz = sizeN v)) (hx1 : x < 18446744073709551616) (HX : Hid (x ≠ 0)) (HXs : Hid ((x : Int) < ((2 ^ (sz : Int).toNat : Nat) : Int))) (HSZ : Hid ((sz : Int) = 2 ∨ (sz : Int) = 4 ∨ (sz : Int) = 8 ∨ (sz : Int) = 16 ∨ (sz : Int) = 32 ∨ (sz : Int) = 64)) (hsz : 2 ≤ sz) (hsz2 : sz ≤ 64) (hb : ((n : Int) == 0) = false) (hb2 : ((n : Int) == (sz : Int)) = false) (hn : n ≤ 127) (HT : Hid (Tab w)) (HA : Hid (a0 = tzN x)) (hb3 : ((a0 : Int) == 0) = false) (HK0 : Hid (0 ≤ (a0 : Int))) (HK1 : Hid ((a0 : Int) < (sz : Int))) (HM : Hid (rotN x a0 sz = lowN 18446744073709551615 (min n 64))) (f : Int) (hf0 : -64 ≤ f) (hf1 : f ≤ 60) (HF : Hid (f = frontI (sz : Int))) (h64 : ((sz : Int) == 64) = false) :
    Calls Tryd.prog 68 #[.int .u64 v] w fun e w' => e = .returned (.agg #[.int .i64 0, .int .i64 (-(a0 : Int) % (sz : Int)), .int .i64 ((n : Int) - 1 + f)]) ∧ Below w.heap.size w w' := by
  go_enter Tryd.func68, Tryd.ntmps68
  go_wp2_with (first | (go_at_call 103; refine (size_any v _ h1).mono ?_; rw [← HS.out]; rintro e w1 ⟨rfl, hb1⟩; obtain ⟨c0, c1, c2, f0, f1, f2, hz⟩ := res3 hb1) | (go_at_call 104; refine (low_any _ _ _ (by omega) (by omega)).mono ?_; simp only [Int.toNat_natCast]; (first | rw [HL.out] | rw [show (18446744073709551615 : Int).toNat = 18446744073709551615 from rfl]); rintro e w2 ⟨rfl, rfl⟩) | (go_at_call 105; refine (onesC_any x _ hx1).mono ?_; rw [← HN.out]; rintro e w2 ⟨rfl, rfl⟩) | (go_at_call 106; refine (tz_any x _ hx1 HX.out (HT.out.below (bel_of_res hb1))).mono ?_; rw [← HA.out]; rintro e w2 ⟨rfl, rfl⟩) | (go_at_call 108; refine (rotate_yes _ _ _ _ (by omega) HXs.out HSZ.out HK0.out HK1.out).mono ?_; simp only [Int.toNat_natCast]; rw [HM.out]; rintro e w2 ⟨rfl, m, rfl⟩))
  have hw : IntKind.i64.wrap ((n : Int) - 1 + f) = (n : Int) - 1 + f := IntWalk.i64_in _ (by omega)
  have HW := Lib.hid hw
  clear hw
  have k0 := HK0.out
  have k1 := HK1.out
  have c0' : (w1.drewN m).cell? ⟨w.heap.size, 0, none⟩ = some (.int .i64 0) := c0
  have c1' : (w1.drewN m).cell? ⟨w.heap.size, 1, none⟩ = some (.int .i64 0) := c1
  have c2' : (w1.drewN m).cell? ⟨w.heap.size, 2, none⟩ = some (.int .i64 0) := c2
  have f0' : (w1.drewN m).frozen? ⟨w.heap.size, 0, none⟩ = false := f0
  have f1' : (w1.drewN m).frozen? ⟨w.heap.size, 1, none⟩ = false := f1
  have f2' : (w1.drewN m).frozen? ⟨w.heap.size, 2, none⟩ = false := f2
  have hz' : w.heap.size < (w1.drewN m).heap.size := hz
  have hb' : Below w.heap.size w (w1.drewN m) := below_drewN (bel_of_res hb1) _
  clear c0 c1 c2 f0 f1 f2 hz hb1
  generalize w1.drewN m = W at *
  have hw := HW.out
  go_region_with ((go_at_call 109; refine (front_any _ _ (by omega) (by omega)).mono ?_; rw [← HF.out]; rintro e w2 ⟨rfl, rfl⟩))
  all_goals
    go_wp2
    refine bodyPost_ret (v := .agg #[.int .i64 0, .int .i64 (-(a0 : Int) % (sz : Int)), .int .i64 ((n : Int) - 1 + f)]) (by simp [results, Tryd.results68, go_sem, c0', c1', c2', f0', f1', f2', hz']) rfl ⟨rfl, ?_⟩
    exact ((((hb'.setCell (Nat.le_refl _) _).setCell (Nat.le_refl _) _).setCell (Nat.le_refl _) _).alloc (by simp; omega) _).drew

end Go.Proofs.YtdjdbgilimjagaaDoor
