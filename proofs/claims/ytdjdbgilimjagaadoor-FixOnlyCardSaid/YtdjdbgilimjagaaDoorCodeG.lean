/- Layer 5 of the program, walked: a part's field of an instruction, kind by kind. What is got fits the field. -/
import Derived.Test.YtdjdbgilimjagaaDoorCodeF
set_option linter.unusedVariables false
set_option linter.unusedSimpArgs false
namespace Go.Proofs.YtdjdbgilimjagaaDoor
open Go.RowKit
set_option maxRecDepth 100000

theorem res_field {w w1 : World} {p0 p1 p2 p3 p4 z0 z1 z2 : Value} {I : Obj} (hb : Below (((w.alloc (.cells #[p0, p1, p2, p3, p4] 64)).alloc I).alloc (.cells #[z0, z1, z2] 71)).heap.size (((w.alloc (.cells #[p0, p1, p2, p3, p4] 64)).alloc I).alloc (.cells #[z0, z1, z2] 71)) w1) :
    w1.cell? ⟨w.heap.size, 0, none⟩ = some p0 ∧ w1.cell? ⟨w.heap.size, 1, none⟩ = some p1 ∧ w1.cell? ⟨w.heap.size, 4, none⟩ = some p4 ∧
    w1.cell? ⟨w.heap.size + 1 + 1, 0, none⟩ = some z0 ∧ w1.cell? ⟨w.heap.size + 1 + 1, 1, none⟩ = some z1 ∧ w1.cell? ⟨w.heap.size + 1 + 1, 2, none⟩ = some z2 ∧
    w1.frozen? ⟨w.heap.size + 1 + 1, 0, none⟩ = false ∧ w1.frozen? ⟨w.heap.size + 1 + 1, 1, none⟩ = false ∧ w1.frozen? ⟨w.heap.size + 1 + 1, 2, none⟩ = false ∧ w.heap.size + 1 + 1 < w1.heap.size ∧ Below w.heap.size w w1 := by
  have hs := hb.size
  simp at hs
  refine ⟨(hb.cell (p := ⟨w.heap.size, 0, none⟩) (by simp; omega)).trans (by simp [go_sem]), (hb.cell (p := ⟨w.heap.size, 1, none⟩) (by simp; omega)).trans (by simp [go_sem]), (hb.cell (p := ⟨w.heap.size, 4, none⟩) (by simp; omega)).trans (by simp [go_sem]),
    (hb.cell (p := ⟨w.heap.size + 1 + 1, 0, none⟩) (by simp)).trans (by simp [go_sem]), (hb.cell (p := ⟨w.heap.size + 1 + 1, 1, none⟩) (by simp)).trans (by simp [go_sem]), (hb.cell (p := ⟨w.heap.size + 1 + 1, 2, none⟩) (by simp)).trans (by simp [go_sem]),
    (hb.frozen (p := ⟨w.heap.size + 1 + 1, 0, none⟩) (by simp)).trans (by simp [go_sem]), (hb.frozen (p := ⟨w.heap.size + 1 + 1, 1, none⟩) (by simp)).trans (by simp [go_sem]), (hb.frozen (p := ⟨w.heap.size + 1 + 1, 2, none⟩) (by simp)).trans (by simp [go_sem]), by omega, ?_⟩
  exact ((((Below.refl _ w).alloc (Nat.le_refl _) _).alloc (by simp) _).alloc (by simp; omega) _).trans (hb.mono (by simp; omega))

set_option maxHeartbeats 1000000 in
theorem field_d (op d n m a imm shift amount cond : Int) (mask : Nat) (pos nb : Int) (w : World) (v : Int) (HV : Hid (d = v)) (hv0 : 0 ≤ v) (hv1 : v < 4294967296) :
    Calls Tryd.prog 34 #[.agg #[.int .i64 pos, .int .i64 nb, .func (Fn.func 75) #[] #[], .func (Fn.func 76) #[] #[], .bool false], .agg #[.int .i64 op, .int .i64 d, .int .i64 n, .int .i64 m, .int .i64 a, .int .i64 imm, .int .u64 (mask : Int), .int .i64 shift, .int .i64 amount, .int .i64 cond]] w fun e w' => e = .returned (.agg #[.int .i64 pos, .int .i64 nb, .int .u32 v]) ∧ Below w.heap.size w w' := by
  go_enter Tryd.func34, Tryd.ntmps34
  go_wp2_with (first | (go_at_call 75; refine (get_75 op d n m a imm (mask : Int) shift amount cond _).mono ?_; rw [HV.out]; rintro e w1 ⟨rfl, hb1⟩; obtain ⟨c0, c1, c4, z0, z1, z2, f0, f1, f2, hz, hbw⟩ := res_field hb1))
  exact bodyPost_ret (v := .agg #[.int .i64 pos, .int .i64 nb, .int .u32 v]) (by simp [results, Tryd.results34, go_sem, z0, z1, z2]) rfl ⟨rfl, ((hbw.setCell (by simp; omega) _).setCell (by simp; omega) _).setCell (by simp; omega) _⟩

set_option maxHeartbeats 1000000 in
theorem field_n (op d n m a imm shift amount cond : Int) (mask : Nat) (pos nb : Int) (w : World) (v : Int) (HV : Hid (n = v)) (hv0 : 0 ≤ v) (hv1 : v < 4294967296) :
    Calls Tryd.prog 34 #[.agg #[.int .i64 pos, .int .i64 nb, .func (Fn.func 81) #[] #[], .func (Fn.func 82) #[] #[], .bool false], .agg #[.int .i64 op, .int .i64 d, .int .i64 n, .int .i64 m, .int .i64 a, .int .i64 imm, .int .u64 (mask : Int), .int .i64 shift, .int .i64 amount, .int .i64 cond]] w fun e w' => e = .returned (.agg #[.int .i64 pos, .int .i64 nb, .int .u32 v]) ∧ Below w.heap.size w w' := by
  go_enter Tryd.func34, Tryd.ntmps34
  go_wp2_with (first | (go_at_call 81; refine (get_81 op d n m a imm (mask : Int) shift amount cond _).mono ?_; rw [HV.out]; rintro e w1 ⟨rfl, hb1⟩; obtain ⟨c0, c1, c4, z0, z1, z2, f0, f1, f2, hz, hbw⟩ := res_field hb1))
  exact bodyPost_ret (v := .agg #[.int .i64 pos, .int .i64 nb, .int .u32 v]) (by simp [results, Tryd.results34, go_sem, z0, z1, z2]) rfl ⟨rfl, ((hbw.setCell (by simp; omega) _).setCell (by simp; omega) _).setCell (by simp; omega) _⟩

set_option maxHeartbeats 1000000 in
theorem field_m (op d n m a imm shift amount cond : Int) (mask : Nat) (pos nb : Int) (w : World) (v : Int) (HV : Hid (m = v)) (hv0 : 0 ≤ v) (hv1 : v < 4294967296) :
    Calls Tryd.prog 34 #[.agg #[.int .i64 pos, .int .i64 nb, .func (Fn.func 89) #[] #[], .func (Fn.func 90) #[] #[], .bool false], .agg #[.int .i64 op, .int .i64 d, .int .i64 n, .int .i64 m, .int .i64 a, .int .i64 imm, .int .u64 (mask : Int), .int .i64 shift, .int .i64 amount, .int .i64 cond]] w fun e w' => e = .returned (.agg #[.int .i64 pos, .int .i64 nb, .int .u32 v]) ∧ Below w.heap.size w w' := by
  go_enter Tryd.func34, Tryd.ntmps34
  go_wp2_with (first | (go_at_call 89; refine (get_89 op d n m a imm (mask : Int) shift amount cond _).mono ?_; rw [HV.out]; rintro e w1 ⟨rfl, hb1⟩; obtain ⟨c0, c1, c4, z0, z1, z2, f0, f1, f2, hz, hbw⟩ := res_field hb1))
  exact bodyPost_ret (v := .agg #[.int .i64 pos, .int .i64 nb, .int .u32 v]) (by simp [results, Tryd.results34, go_sem, z0, z1, z2]) rfl ⟨rfl, ((hbw.setCell (by simp; omega) _).setCell (by simp; omega) _).setCell (by simp; omega) _⟩

set_option maxHeartbeats 1000000 in
theorem field_a (op d n m a imm shift amount cond : Int) (mask : Nat) (pos nb : Int) (w : World) (v : Int) (HV : Hid (a = v)) (hv0 : 0 ≤ v) (hv1 : v < 4294967296) :
    Calls Tryd.prog 34 #[.agg #[.int .i64 pos, .int .i64 nb, .func (Fn.func 93) #[] #[], .func (Fn.func 94) #[] #[], .bool false], .agg #[.int .i64 op, .int .i64 d, .int .i64 n, .int .i64 m, .int .i64 a, .int .i64 imm, .int .u64 (mask : Int), .int .i64 shift, .int .i64 amount, .int .i64 cond]] w fun e w' => e = .returned (.agg #[.int .i64 pos, .int .i64 nb, .int .u32 v]) ∧ Below w.heap.size w w' := by
  go_enter Tryd.func34, Tryd.ntmps34
  go_wp2_with (first | (go_at_call 93; refine (get_93 op d n m a imm (mask : Int) shift amount cond _).mono ?_; rw [HV.out]; rintro e w1 ⟨rfl, hb1⟩; obtain ⟨c0, c1, c4, z0, z1, z2, f0, f1, f2, hz, hbw⟩ := res_field hb1))
  exact bodyPost_ret (v := .agg #[.int .i64 pos, .int .i64 nb, .int .u32 v]) (by simp [results, Tryd.results34, go_sem, z0, z1, z2]) rfl ⟨rfl, ((hbw.setCell (by simp; omega) _).setCell (by simp; omega) _).setCell (by simp; omega) _⟩

set_option maxHeartbeats 1000000 in
theorem field_shift (op d n m a imm shift amount cond : Int) (mask : Nat) (pos nb : Int) (w : World) (v : Int) (HV : Hid (shift = v)) (hv0 : 0 ≤ v) (hv1 : v < 4294967296) :
    Calls Tryd.prog 34 #[.agg #[.int .i64 pos, .int .i64 nb, .func (Fn.func 91) #[] #[], .func (Fn.func 92) #[] #[], .bool false], .agg #[.int .i64 op, .int .i64 d, .int .i64 n, .int .i64 m, .int .i64 a, .int .i64 imm, .int .u64 (mask : Int), .int .i64 shift, .int .i64 amount, .int .i64 cond]] w fun e w' => e = .returned (.agg #[.int .i64 pos, .int .i64 nb, .int .u32 v]) ∧ Below w.heap.size w w' := by
  go_enter Tryd.func34, Tryd.ntmps34
  go_wp2_with (first | (go_at_call 91; refine (get_91 op d n m a imm (mask : Int) shift amount cond _).mono ?_; rw [HV.out]; rintro e w1 ⟨rfl, hb1⟩; obtain ⟨c0, c1, c4, z0, z1, z2, f0, f1, f2, hz, hbw⟩ := res_field hb1))
  exact bodyPost_ret (v := .agg #[.int .i64 pos, .int .i64 nb, .int .u32 v]) (by simp [results, Tryd.results34, go_sem, z0, z1, z2]) rfl ⟨rfl, ((hbw.setCell (by simp; omega) _).setCell (by simp; omega) _).setCell (by simp; omega) _⟩

set_option maxHeartbeats 1000000 in
theorem field_cond (op d n m a imm shift amount cond : Int) (mask : Nat) (pos nb : Int) (w : World) (v : Int) (HV : Hid (cond = v)) (hv0 : 0 ≤ v) (hv1 : v < 4294967296) :
    Calls Tryd.prog 34 #[.agg #[.int .i64 pos, .int .i64 nb, .func (Fn.func 99) #[] #[], .func (Fn.func 100) #[] #[], .bool false], .agg #[.int .i64 op, .int .i64 d, .int .i64 n, .int .i64 m, .int .i64 a, .int .i64 imm, .int .u64 (mask : Int), .int .i64 shift, .int .i64 amount, .int .i64 cond]] w fun e w' => e = .returned (.agg #[.int .i64 pos, .int .i64 nb, .int .u32 v]) ∧ Below w.heap.size w w' := by
  go_enter Tryd.func34, Tryd.ntmps34
  go_wp2_with (first | (go_at_call 99; refine (get_99 op d n m a imm (mask : Int) shift amount cond _).mono ?_; rw [HV.out]; rintro e w1 ⟨rfl, hb1⟩; obtain ⟨c0, c1, c4, z0, z1, z2, f0, f1, f2, hz, hbw⟩ := res_field hb1))
  exact bodyPost_ret (v := .agg #[.int .i64 pos, .int .i64 nb, .int .u32 v]) (by simp [results, Tryd.results34, go_sem, z0, z1, z2]) rfl ⟨rfl, ((hbw.setCell (by simp; omega) _).setCell (by simp; omega) _).setCell (by simp; omega) _⟩

set_option maxHeartbeats 1000000 in
theorem field_low (op d n m a imm shift amount cond : Int) (mask : Nat) (pos nb : Int) (w : World) (v : Int) (HV : Hid (bits .and .i64 imm 3 = v)) (hv0 : 0 ≤ v) (hv1 : v < 4294967296) :
    Calls Tryd.prog 34 #[.agg #[.int .i64 pos, .int .i64 nb, .func (Fn.func 95) #[] #[], .func (Fn.func 96) #[] #[], .bool false], .agg #[.int .i64 op, .int .i64 d, .int .i64 n, .int .i64 m, .int .i64 a, .int .i64 imm, .int .u64 (mask : Int), .int .i64 shift, .int .i64 amount, .int .i64 cond]] w fun e w' => e = .returned (.agg #[.int .i64 pos, .int .i64 nb, .int .u32 v]) ∧ Below w.heap.size w w' := by
  go_enter Tryd.func34, Tryd.ntmps34
  go_wp2_with (first | (go_at_call 95; refine (get_95 op d n m a imm (mask : Int) shift amount cond _).mono ?_; rw [HV.out]; rintro e w1 ⟨rfl, hb1⟩; obtain ⟨c0, c1, c4, z0, z1, z2, f0, f1, f2, hz, hbw⟩ := res_field hb1))
  exact bodyPost_ret (v := .agg #[.int .i64 pos, .int .i64 nb, .int .u32 v]) (by simp [results, Tryd.results34, go_sem, z0, z1, z2]) rfl ⟨rfl, ((hbw.setCell (by simp; omega) _).setCell (by simp; omega) _).setCell (by simp; omega) _⟩

set_option maxHeartbeats 1000000 in
theorem field_high (op d n m a imm shift amount cond : Int) (mask : Nat) (pos nb : Int) (w : World) (v : Int) (HV : Hid (imm / 4 = v)) (h0 : 1 ≤ nb) (h1 : nb ≤ 32) (hp : v / 2 ^ (nb.toNat - 1) = 0 ∨ v / 2 ^ (nb.toNat - 1) = -1) :
    Calls Tryd.prog 34 #[.agg #[.int .i64 pos, .int .i64 nb, .func (Fn.func 97) #[] #[], .func (Fn.func 98) #[] #[], .bool true], .agg #[.int .i64 op, .int .i64 d, .int .i64 n, .int .i64 m, .int .i64 a, .int .i64 imm, .int .u64 (mask : Int), .int .i64 shift, .int .i64 amount, .int .i64 cond]] w fun e w' => e = .returned (.agg #[.int .i64 pos, .int .i64 nb, .int .u32 (v % ((2 ^ nb.toNat : Nat) : Int))]) ∧ Below w.heap.size w w' := by
  have HP := Lib.hid hp
  clear hp
  go_enter Tryd.func34, Tryd.ntmps34
  go_wp2_with (first | (go_at_call 97; refine (get_97 op d n m a imm (mask : Int) shift amount cond _).mono ?_; rw [HV.out]; rintro e w1 ⟨rfl, hb1⟩; obtain ⟨c0, c1, c4, z0, z1, z2, f0, f1, f2, hz, hbw⟩ := res_field hb1) | (go_at_call 66; refine (pack_yes _ _ _ h0 h1 HP.out).mono ?_; rintro e w2 ⟨rfl, rfl⟩) | (go_at_call 32; refine (must_ok _).mono ?_; rintro e w3 ⟨rfl, rfl⟩))
  exact bodyPost_ret (v := .agg #[.int .i64 pos, .int .i64 nb, .int .u32 (v % ((2 ^ nb.toNat : Nat) : Int))]) (by simp [results, Tryd.results34, go_sem, z0, z1, z2]) rfl ⟨rfl, ((hbw.setCell (by simp; omega) _).setCell (by simp; omega) _).setCell (by simp; omega) _⟩

set_option maxHeartbeats 1000000 in
theorem field_immU (op d n m a imm shift amount cond : Int) (mask : Nat) (pos nb : Int) (w : World) (pb : Nat) (g : Int) (hg0 : 1 ≤ g) (hg1 : g ≤ 16) (hr0 : -1000000000 ≤ imm) (hr1 : imm ≤ 1000000000) (hpb : pb < w.heap.size) (hc : w.cell? ⟨pb, 0, none⟩ = some (.int .i64 g)) (v : Int) (HV : Hid (imm.tdiv g = v)) (hv0 : 0 ≤ v) (hv1 : v < 4294967296) :
    Calls Tryd.prog 34 #[.agg #[.int .i64 pos, .int .i64 nb, .func (Fn.func 77) #[] #[ptr pb], .func (Fn.func 78) #[] #[ptr pb], .bool false], .agg #[.int .i64 op, .int .i64 d, .int .i64 n, .int .i64 m, .int .i64 a, .int .i64 imm, .int .u64 (mask : Int), .int .i64 shift, .int .i64 amount, .int .i64 cond]] w fun e w' => e = .returned (.agg #[.int .i64 pos, .int .i64 nb, .int .u32 v]) ∧ Below w.heap.size w w' := by
  have hc' : (((w.alloc (.cells #[.int .i64 pos, .int .i64 nb, .func (Fn.func 77) #[] #[ptr pb], .func (Fn.func 78) #[] #[ptr pb], .bool false] 64)).alloc (.cells #[.int .i64 op, .int .i64 d, .int .i64 n, .int .i64 m, .int .i64 a, .int .i64 imm, .int .u64 (mask : Int), .int .i64 shift, .int .i64 amount, .int .i64 cond] 25)).alloc (.cells #[.int .i64 0, .int .i64 0, .int .u32 0] 71)).cell? ⟨pb, 0, none⟩ = some (.int .i64 g) := cell_later (((balloc0 w _).alloc (by simp) _).alloc (by simp; omega) _) hc
  have hpb' : pb < (((w.alloc (.cells #[.int .i64 pos, .int .i64 nb, .func (Fn.func 77) #[] #[ptr pb], .func (Fn.func 78) #[] #[ptr pb], .bool false] 64)).alloc (.cells #[.int .i64 op, .int .i64 d, .int .i64 n, .int .i64 m, .int .i64 a, .int .i64 imm, .int .u64 (mask : Int), .int .i64 shift, .int .i64 amount, .int .i64 cond] 25)).alloc (.cells #[.int .i64 0, .int .i64 0, .int .u32 0] 71)).heap.size := by simp; omega
  go_enter Tryd.func34, Tryd.ntmps34
  go_wp2_with (first | (go_at_call 77; refine (get_77 op d n m a imm (mask : Int) shift amount cond pb g _ hg0 hg1 hr0 hr1 hc' hpb').mono ?_; rw [HV.out]; rintro e w1 ⟨rfl, hb1⟩; obtain ⟨c0, c1, c4, z0, z1, z2, f0, f1, f2, hz, hbw⟩ := res_field hb1))
  exact bodyPost_ret (v := .agg #[.int .i64 pos, .int .i64 nb, .int .u32 v]) (by simp [results, Tryd.results34, go_sem, z0, z1, z2]) rfl ⟨rfl, ((hbw.setCell (by simp; omega) _).setCell (by simp; omega) _).setCell (by simp; omega) _⟩

set_option maxHeartbeats 1000000 in
theorem field_immS (op d n m a imm shift amount cond : Int) (mask : Nat) (pos nb : Int) (w : World) (pb : Nat) (g : Int) (hg0 : 1 ≤ g) (hg1 : g ≤ 16) (hr0 : -1000000000 ≤ imm) (hr1 : imm ≤ 1000000000) (hpb : pb < w.heap.size) (hc : w.cell? ⟨pb, 0, none⟩ = some (.int .i64 g)) (v : Int) (HV : Hid (imm.tdiv g = v)) (h0 : 1 ≤ nb) (h1 : nb ≤ 32) (hp : v / 2 ^ (nb.toNat - 1) = 0 ∨ v / 2 ^ (nb.toNat - 1) = -1) :
    Calls Tryd.prog 34 #[.agg #[.int .i64 pos, .int .i64 nb, .func (Fn.func 77) #[] #[ptr pb], .func (Fn.func 78) #[] #[ptr pb], .bool true], .agg #[.int .i64 op, .int .i64 d, .int .i64 n, .int .i64 m, .int .i64 a, .int .i64 imm, .int .u64 (mask : Int), .int .i64 shift, .int .i64 amount, .int .i64 cond]] w fun e w' => e = .returned (.agg #[.int .i64 pos, .int .i64 nb, .int .u32 (v % ((2 ^ nb.toNat : Nat) : Int))]) ∧ Below w.heap.size w w' := by
  have HP := Lib.hid hp
  clear hp
  have hc' : (((w.alloc (.cells #[.int .i64 pos, .int .i64 nb, .func (Fn.func 77) #[] #[ptr pb], .func (Fn.func 78) #[] #[ptr pb], .bool true] 64)).alloc (.cells #[.int .i64 op, .int .i64 d, .int .i64 n, .int .i64 m, .int .i64 a, .int .i64 imm, .int .u64 (mask : Int), .int .i64 shift, .int .i64 amount, .int .i64 cond] 25)).alloc (.cells #[.int .i64 0, .int .i64 0, .int .u32 0] 71)).cell? ⟨pb, 0, none⟩ = some (.int .i64 g) := cell_later (((balloc0 w _).alloc (by simp) _).alloc (by simp; omega) _) hc
  have hpb' : pb < (((w.alloc (.cells #[.int .i64 pos, .int .i64 nb, .func (Fn.func 77) #[] #[ptr pb], .func (Fn.func 78) #[] #[ptr pb], .bool true] 64)).alloc (.cells #[.int .i64 op, .int .i64 d, .int .i64 n, .int .i64 m, .int .i64 a, .int .i64 imm, .int .u64 (mask : Int), .int .i64 shift, .int .i64 amount, .int .i64 cond] 25)).alloc (.cells #[.int .i64 0, .int .i64 0, .int .u32 0] 71)).heap.size := by simp; omega
  go_enter Tryd.func34, Tryd.ntmps34
  go_wp2_with (first | (go_at_call 77; refine (get_77 op d n m a imm (mask : Int) shift amount cond pb g _ hg0 hg1 hr0 hr1 hc' hpb').mono ?_; rw [HV.out]; rintro e w1 ⟨rfl, hb1⟩; obtain ⟨c0, c1, c4, z0, z1, z2, f0, f1, f2, hz, hbw⟩ := res_field hb1) | (go_at_call 66; refine (pack_yes _ _ _ h0 h1 HP.out).mono ?_; rintro e w2 ⟨rfl, rfl⟩) | (go_at_call 32; refine (must_ok _).mono ?_; rintro e w3 ⟨rfl, rfl⟩))
  exact bodyPost_ret (v := .agg #[.int .i64 pos, .int .i64 nb, .int .u32 (v % ((2 ^ nb.toNat : Nat) : Int))]) (by simp [results, Tryd.results34, go_sem, z0, z1, z2]) rfl ⟨rfl, ((hbw.setCell (by simp; omega) _).setCell (by simp; omega) _).setCell (by simp; omega) _⟩

set_option maxHeartbeats 1000000 in
theorem field_amt (op d n m a imm shift amount cond : Int) (mask : Nat) (pos nb : Int) (w : World) (pb : Nat) (g : Int) (hg0 : 1 ≤ g) (hg1 : g ≤ 16) (hr0 : -1000000000 ≤ amount) (hr1 : amount ≤ 1000000000) (hpb : pb < w.heap.size) (hc : w.cell? ⟨pb, 0, none⟩ = some (.int .i64 g)) (v : Int) (HV : Hid (amount.tdiv g = v)) (hv0 : 0 ≤ v) (hv1 : v < 4294967296) :
    Calls Tryd.prog 34 #[.agg #[.int .i64 pos, .int .i64 nb, .func (Fn.func 79) #[] #[ptr pb], .func (Fn.func 80) #[] #[ptr pb], .bool false], .agg #[.int .i64 op, .int .i64 d, .int .i64 n, .int .i64 m, .int .i64 a, .int .i64 imm, .int .u64 (mask : Int), .int .i64 shift, .int .i64 amount, .int .i64 cond]] w fun e w' => e = .returned (.agg #[.int .i64 pos, .int .i64 nb, .int .u32 v]) ∧ Below w.heap.size w w' := by
  have hc' : (((w.alloc (.cells #[.int .i64 pos, .int .i64 nb, .func (Fn.func 79) #[] #[ptr pb], .func (Fn.func 80) #[] #[ptr pb], .bool false] 64)).alloc (.cells #[.int .i64 op, .int .i64 d, .int .i64 n, .int .i64 m, .int .i64 a, .int .i64 imm, .int .u64 (mask : Int), .int .i64 shift, .int .i64 amount, .int .i64 cond] 25)).alloc (.cells #[.int .i64 0, .int .i64 0, .int .u32 0] 71)).cell? ⟨pb, 0, none⟩ = some (.int .i64 g) := cell_later (((balloc0 w _).alloc (by simp) _).alloc (by simp; omega) _) hc
  have hpb' : pb < (((w.alloc (.cells #[.int .i64 pos, .int .i64 nb, .func (Fn.func 79) #[] #[ptr pb], .func (Fn.func 80) #[] #[ptr pb], .bool false] 64)).alloc (.cells #[.int .i64 op, .int .i64 d, .int .i64 n, .int .i64 m, .int .i64 a, .int .i64 imm, .int .u64 (mask : Int), .int .i64 shift, .int .i64 amount, .int .i64 cond] 25)).alloc (.cells #[.int .i64 0, .int .i64 0, .int .u32 0] 71)).heap.size := by simp; omega
  go_enter Tryd.func34, Tryd.ntmps34
  go_wp2_with (first | (go_at_call 79; refine (get_79 op d n m a imm (mask : Int) shift amount cond pb g _ hg0 hg1 hr0 hr1 hc' hpb').mono ?_; rw [HV.out]; rintro e w1 ⟨rfl, hb1⟩; obtain ⟨c0, c1, c4, z0, z1, z2, f0, f1, f2, hz, hbw⟩ := res_field hb1))
  exact bodyPost_ret (v := .agg #[.int .i64 pos, .int .i64 nb, .int .u32 v]) (by simp [results, Tryd.results34, go_sem, z0, z1, z2]) rfl ⟨rfl, ((hbw.setCell (by simp; omega) _).setCell (by simp; omega) _).setCell (by simp; omega) _⟩

set_option maxHeartbeats 1000000 in
theorem field_mk (op d n m a imm shift amount cond : Int) (mask : Nat) (pos nb : Int) (w : World) (p1 p2 bt : Nat) (k : Int) (hm : mask < 18446744073709551616) (HM : Hid (isMask mask = true)) (HT : Hid (Tab w)) (hk : Hid (k = 0 ∨ k = 1 ∨ k = 2)) (hpb : p1 < w.heap.size) (hc : w.cell? ⟨p1, 0, none⟩ = some (.int .i64 k)) (v : Int) (HV : Hid (toldK mask k = v)) (hv0 : 0 ≤ v) (hv1 : v < 4294967296) :
    Calls Tryd.prog 34 #[.agg #[.int .i64 pos, .int .i64 nb, .func (Fn.func 84) #[] #[ptr p1], .func (Fn.func 87) #[] #[ptr bt, ptr p2], .bool false], .agg #[.int .i64 op, .int .i64 d, .int .i64 n, .int .i64 m, .int .i64 a, .int .i64 imm, .int .u64 (mask : Int), .int .i64 shift, .int .i64 amount, .int .i64 cond]] w fun e w' => e = .returned (.agg #[.int .i64 pos, .int .i64 nb, .int .u32 v]) ∧ Below w.heap.size w w' := by
  have hc' : (((w.alloc (.cells #[.int .i64 pos, .int .i64 nb, .func (Fn.func 84) #[] #[ptr p1], .func (Fn.func 87) #[] #[ptr bt, ptr p2], .bool false] 64)).alloc (.cells #[.int .i64 op, .int .i64 d, .int .i64 n, .int .i64 m, .int .i64 a, .int .i64 imm, .int .u64 (mask : Int), .int .i64 shift, .int .i64 amount, .int .i64 cond] 25)).alloc (.cells #[.int .i64 0, .int .i64 0, .int .u32 0] 71)).cell? ⟨p1, 0, none⟩ = some (.int .i64 k) := cell_later (((balloc0 w _).alloc (by simp) _).alloc (by simp; omega) _) hc
  have hpb' : p1 < (((w.alloc (.cells #[.int .i64 pos, .int .i64 nb, .func (Fn.func 84) #[] #[ptr p1], .func (Fn.func 87) #[] #[ptr bt, ptr p2], .bool false] 64)).alloc (.cells #[.int .i64 op, .int .i64 d, .int .i64 n, .int .i64 m, .int .i64 a, .int .i64 imm, .int .u64 (mask : Int), .int .i64 shift, .int .i64 amount, .int .i64 cond] 25)).alloc (.cells #[.int .i64 0, .int .i64 0, .int .u32 0] 71)).heap.size := by simp; omega
  have HT' : Hid (Tab (((w.alloc (.cells #[.int .i64 pos, .int .i64 nb, .func (Fn.func 84) #[] #[ptr p1], .func (Fn.func 87) #[] #[ptr bt, ptr p2], .bool false] 64)).alloc (.cells #[.int .i64 op, .int .i64 d, .int .i64 n, .int .i64 m, .int .i64 a, .int .i64 imm, .int .u64 (mask : Int), .int .i64 shift, .int .i64 amount, .int .i64 cond] 25)).alloc (.cells #[.int .i64 0, .int .i64 0, .int .u32 0] 71))) := Lib.hid (HT.out.below (((balloc0 w _).alloc (by simp) _).alloc (by simp; omega) _))
  go_enter Tryd.func34, Tryd.ntmps34
  go_wp2_with (first | (go_at_call 84; refine (get_84 op d n m a imm shift amount cond mask p1 k _ hm HM HT' hk hc' hpb').mono ?_; rw [HV.out]; rintro e w1 ⟨rfl, hb1⟩; obtain ⟨c0, c1, c4, z0, z1, z2, f0, f1, f2, hz, hbw⟩ := res_field hb1))
  exact bodyPost_ret (v := .agg #[.int .i64 pos, .int .i64 nb, .int .u32 v]) (by simp [results, Tryd.results34, go_sem, z0, z1, z2]) rfl ⟨rfl, ((hbw.setCell (by simp; omega) _).setCell (by simp; omega) _).setCell (by simp; omega) _⟩
end Go.Proofs.YtdjdbgilimjagaaDoor
