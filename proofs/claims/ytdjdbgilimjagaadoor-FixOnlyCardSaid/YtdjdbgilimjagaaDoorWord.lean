/- Layer 1 of the program, walked: a word out of fields that are right, apart, and hold their numbers. These are the conditions. -/
import Derived.Test.YtdjdbgilimjagaaDoorCodeA
import Derived.Test.YtdjdbgilimjagaaDoorSpecW
set_option linter.unusedVariables false
set_option linter.unusedSimpArgs false
namespace Go.Proofs.YtdjdbgilimjagaaDoor
open Go.RowKit
set_option maxRecDepth 100000

def FD.cells (f : FD) : List Value := [.int .i64 f.pos, .int .i64 f.n, .int .u32 f.val]
/-- A row of fields, as it lies. -/
def FieldsAt (w : World) (v : Value) (fs : List FD) : Prop :=
  (fs = [] ∧ v = .slice none 0 0) ∨ ∃ b cap, v = .slice (some ⟨b, 0, none⟩) fs.length cap ∧ b < w.heap.size ∧ fs.length ≤ 1000 ∧
    ∀ k f, fs[k]? = some f → w.cell? ⟨b, k * 3, none⟩ = some (.int .i64 f.pos) ∧ w.cell? ⟨b, k * 3 + 1, none⟩ = some (.int .i64 f.n) ∧ w.cell? ⟨b, k * 3 + 2, none⟩ = some (.int .u32 f.val)

theorem right_yes (f : FD) (h : f.right) : rightB (f.pos : Int) (f.n : Int) = true := by
  unfold rightB
  have := h.1; have := h.2
  simp only [decide_eq_true_eq]; omega

theorem mask_eq (f : FD) (h : f.right) : IntKind.u64.wrap (((2 ^ f.n - 1 : Nat) : Int) * 2 ^ f.pos) = ((f.mask : Nat) : Int) := by
  have := mask_lt f h
  rw [← cast_pow, ← Int.natCast_mul, u64w]
  unfold FD.mask at this ⊢
  rw [Nat.mod_eq_of_lt (by omega)]
theorem quiet_ones (n : Nat) (w : World) (h : n ≤ 32) : Calls Tryd.prog 42 #[.int .i64 n] w fun e w' => e = .returned (.int .u64 ((2 ^ n - 1 : Nat) : Int)) ∧ w' = w :=
  (ones_any n w (by omega) (by omega)).mono fun _ _ h => ⟨h.1.trans (ret_int (by rw [Int.toNat_natCast])), h.2.symm⟩
theorem quiet_right (f : FD) (w : World) (h : f.right) : Calls Tryd.prog 41 #[.int .i64 f.pos, .int .i64 f.n] w fun e w' => e = .returned (.bool true) ∧ w' = w :=
  (right_any _ _ w).mono fun _ _ q => ⟨q.1.trans (ret_bool (right_yes f h)), q.2.symm⟩
theorem take_at {α : Type} (l : List α) (k : Nat) (x : α) (h : l[k]? = some x) : l.take (k + 1) = l.take k ++ [x] := by
  rw [List.take_add_one, h]; rfl
theorem mem_at {α : Type} {l : List α} {k : Nat} {x : α} (h : l[k]? = some x) : x ∈ l := List.mem_of_getElem? h

set_option maxHeartbeats 400000 in
theorem small_ask (f : FD) (w : World) (hn : f.n ≤ 32) (hv : f.val < 2 ^ f.n) :
    Calls Tryd.prog 102 #[.agg #[.int .i64 f.pos, .int .i64 f.n, .int .u32 f.val]] w fun e w' => e = .returned (.bool false) ∧ Below w.heap.size w w' := by
  have hd : ¬ ((2 ^ f.n - 1 : Nat) : Int) < (f.val : Int) := by omega
  have h32 : f.val < 4294967296 := by
    have : (2 : Nat) ^ f.n ≤ 2 ^ 32 := Nat.pow_le_pow_right (by decide) hn
    omega
  go_enter Tryd.func102, Tryd.ntmps102
  go_wp2_with fail
  go_quiet ((go_at_call 42; exact Calls.quiet_of_same (quiet_ones f.n _ hn)))
  go_wp2
  go_ret
  exact ⟨ret_bool (by simpa using hd), below_drewN ((Below.refl _ _).alloc (Nat.le_refl _) _) _⟩

set_option maxHeartbeats 1000000 in
theorem index_none (b cap : Nat) (fs : List FD) (w : World) (hlen : fs.length ≤ 1000) (hbw : b < w.heap.size)
    (hcell : ∀ k f, fs[k]? = some f → w.cell? ⟨b, k * 3, none⟩ = some (.int .i64 f.pos) ∧ w.cell? ⟨b, k * 3 + 1, none⟩ = some (.int .i64 f.n) ∧ w.cell? ⟨b, k * 3 + 2, none⟩ = some (.int .u32 f.val))
    (hr : ∀ f, f ∈ fs → f.right) (hv : ∀ f, f ∈ fs → f.val < 2 ^ f.n) :
    Calls Tryd.prog 124 #[.slice (some ⟨b, 0, none⟩) fs.length cap, .func (Fn.func 102) #[] #[]] w fun e w' => e = .returned (.int .i64 (-1)) ∧ Below w.heap.size w w' := by
  have HC := Lib.hid hcell
  have HR := Lib.hid hr
  have HV := Lib.hid hv
  clear hcell hr hv
  go_enter Tryd.func124, Tryd.ntmps124
  go_wp2_with fail
  go_loopw [8] (fun i wr => ∃ k : Nat, k ≤ fs.length ∧ i = .int .i64 k ∧ Below w.heap.size w wr) (fun i _ => fs.length - (intOf i).toNat)
  case atStart => exact ⟨0, by omega, rfl, Below.refl _ _⟩
  case round =>
    obtain ⟨k, hk, rfl, hb⟩ := hrel
    by_cases hlt : k < fs.length
    · have hf : fs[k]? = some fs[k] := List.getElem?_eq_getElem hlt
      generalize fs[k] = f at hf
      obtain ⟨c0, c1, c2⟩ := HC.out k f hf
      have d0 := (hb.cell (p := ⟨b, k * 3, none⟩) hbw).trans c0
      have d1 := (hb.cell (p := ⟨b, k * 3 + 1, none⟩) hbw).trans c1
      have d2 := (hb.cell (p := ⟨b, k * 3 + 2, none⟩) hbw).trans c2
      have hfr := HR.out f (mem_at hf)
      have HFV := Lib.hid (HV.out f (mem_at hf))
      have hn32 : f.n ≤ 32 := by have := hfr.2; omega
      clear c0 c1 c2 hf hfr
      go_wp2_with (go_at_call 102; refine (small_ask f _ hn32 HFV.out).mono ?_; rintro e w1 ⟨rfl, hb1⟩)
      exact ⟨⟨k + 1, by omega, by go_num, hb.trans (hb1.mono hb.size)⟩, by simp [intOf]; omega⟩
    · go_wp2_with fail
      go_ret
      exact ⟨rfl, hb⟩

set_option maxHeartbeats 400000 in
theorem contains_none (b cap : Nat) (fs : List FD) (w : World) (hlen : fs.length ≤ 1000) (hbw : b < w.heap.size)
    (hcell : Hid (∀ k f, fs[k]? = some f → w.cell? ⟨b, k * 3, none⟩ = some (.int .i64 f.pos) ∧ w.cell? ⟨b, k * 3 + 1, none⟩ = some (.int .i64 f.n) ∧ w.cell? ⟨b, k * 3 + 2, none⟩ = some (.int .u32 f.val)))
    (hr : Hid (∀ f, f ∈ fs → f.right)) (hv : Hid (∀ f, f ∈ fs → f.val < 2 ^ f.n)) :
    Calls Tryd.prog 101 #[.slice (some ⟨b, 0, none⟩) fs.length cap, .func (Fn.func 102) #[] #[]] w fun e w' => e = .returned (.bool false) ∧ Below w.heap.size w w' := by
  go_enter Tryd.func101, Tryd.ntmps101
  go_wp2_with (go_at_call 124; refine (index_none b cap fs _ hlen hbw hcell.out hr.out hv.out).mono ?_; rintro e w1 ⟨rfl, hb1⟩)
  go_ret
  exact ⟨rfl, hb1⟩

theorem shl_u32 (f : FD) (h : f.right) (hv : f.val < 2 ^ f.n) : IntKind.u32.wrap ((f.val : Int) * 2 ^ f.pos) = ((f.val * 2 ^ f.pos : Nat) : Int) := by
  have h1 := val_le f hv
  have h2 := mask_lt f h
  rw [← cast_pow, ← Int.natCast_mul, IntKind.wrap_u32]
  omega

set_option maxHeartbeats 1000000 in
theorem word_some (b cap : Nat) (fs : List FD) (w : World) (hlen : fs.length ≤ 1000) (hbw : b < w.heap.size)
    (hcell : ∀ k f, fs[k]? = some f → w.cell? ⟨b, k * 3, none⟩ = some (.int .i64 f.pos) ∧ w.cell? ⟨b, k * 3 + 1, none⟩ = some (.int .i64 f.n) ∧ w.cell? ⟨b, k * 3 + 2, none⟩ = some (.int .u32 f.val))
    (hr : ∀ f, f ∈ fs → f.right) (hv : ∀ f, f ∈ fs → f.val < 2 ^ f.n) (hd : disj 0 fs = true) :
    Calls Tryd.prog 67 #[.slice (some ⟨b, 0, none⟩) fs.length cap] w fun e w' => e = .returned (.tuple #[.int .u32 (wordN fs), .int .i64 0]) ∧ Below w.heap.size w w' := by
  have HC := Lib.hid hcell
  have HR := Lib.hid hr
  have HV := Lib.hid hv
  have HD := Lib.hid hd
  clear hcell hr hv hd
  go_enter Tryd.func67, Tryd.ntmps67
  go_wp2_with fail
  go_loopw [4, 12] (fun t i wr => ∃ k : Nat, k ≤ fs.length ∧ i = .int .i64 k ∧ t = .int .u64 (takenN (fs.take k)) ∧ Below w.heap.size w wr) (fun _ i _ => fs.length - (intOf i).toNat)
  case atStart => exact ⟨0, by omega, rfl, rfl, Below.refl _ _⟩
  case round =>
    obtain ⟨k, hk, rfl, rfl, hb⟩ := hrel
    by_cases hlt : k < fs.length
    · have hf : fs[k]? = some fs[k] := List.getElem?_eq_getElem hlt
      generalize fs[k] = f at hf
      obtain ⟨c0, c1, c2⟩ := HC.out k f hf
      have d0 := (hb.cell (p := ⟨b, k * 3, none⟩) hbw).trans c0
      have d1 := (hb.cell (p := ⟨b, k * 3 + 1, none⟩) hbw).trans c1
      have d2 := (hb.cell (p := ⟨b, k * 3 + 2, none⟩) hbw).trans c2
      clear c0 c1 c2
      have hfr := HR.out f (mem_at hf)
      have hn32 : f.n ≤ 32 := by have := hfr.2; omega
      have hp32 : f.pos < 32 := by have := hfr.1; have := hfr.2; omega
      have ht := taken_lt (fs.take k) (fun g hg => HR.out g (List.mem_of_mem_take hg))
      have em := mask_eq f hfr
      have hml := mask_lt f hfr
      have e5 : bits .and .u64 ((takenN (fs.take k) : Nat) : Int) ((f.mask : Nat) : Int) = 0 := by
        rw [u64_and_nat _ _ (by omega) (by omega), disj_at fs HD.out k f hf]; rfl
      have e7 : bits .or .u64 ((takenN (fs.take k) : Nat) : Int) ((f.mask : Nat) : Int) = ((takenN (fs.take (k + 1)) : Nat) : Int) := by
        rw [u64_or_nat _ _ (by omega) (by omega), take_at fs k f hf, takenN_snoc]
      have HF := Lib.hid hf
      have HFR := Lib.hid hfr
      clear ht hml hf hfr
      go_wp2_with fail
      go_quiet ((first | (go_at_call 41; exact Calls.quiet_of_same (quiet_right f _ HFR.out)) | (go_at_call 42; exact Calls.quiet_of_same (quiet_ones f.n _ hn32))))
      go_wp2_with fail
      have g0 : ((wr.alloc (.cells #[.int .i64 f.pos, .int .i64 f.n, .int .u32 f.val] 71)).drewN nq).cell? ⟨wr.heap.size, 0, none⟩ = some (.int .i64 f.pos) := cell_of_row _ _ 0 _ 71 (0, 0) (heap_alloc_new wr _)
      have g1 : ((wr.alloc (.cells #[.int .i64 f.pos, .int .i64 f.n, .int .u32 f.val] 71)).drewN nq).cell? ⟨wr.heap.size, 1, none⟩ = some (.int .i64 f.n) := cell_of_row _ _ 1 _ 71 (0, 0) (heap_alloc_new wr _)
      have gb : Below w.heap.size w ((wr.alloc (.cells #[.int .i64 f.pos, .int .i64 f.n, .int .u32 f.val] 71)).drewN nq) := below_drewN (hb.alloc hb.size _) _
      generalize (wr.alloc (.cells #[.int .i64 f.pos, .int .i64 f.n, .int .u32 f.val] 71)).drewN nq = W at *
      go_quiet ((go_at_call 42; exact Calls.quiet_of_same (quiet_ones f.n _ hn32)))
      go_wp2_with fail
      exact ⟨⟨k + 1, by omega, by go_num, rfl, below_drewN gb _⟩, by simp [intOf]; omega⟩
    · have hbw' : b < wr.heap.size := Nat.lt_of_lt_of_le hbw hb.size
      have HC2 : Hid (∀ k f, fs[k]? = some f → wr.cell? ⟨b, k * 3, none⟩ = some (.int .i64 f.pos) ∧ wr.cell? ⟨b, k * 3 + 1, none⟩ = some (.int .i64 f.n) ∧ wr.cell? ⟨b, k * 3 + 2, none⟩ = some (.int .u32 f.val)) :=
        Lib.hid fun k f hf => by
          obtain ⟨c0, c1, c2⟩ := HC.out k f hf
          exact ⟨(hb.cell (p := ⟨b, k * 3, none⟩) hbw).trans c0, (hb.cell (p := ⟨b, k * 3 + 1, none⟩) hbw).trans c1, (hb.cell (p := ⟨b, k * 3 + 2, none⟩) hbw).trans c2⟩
      go_wp2_with (go_at_call 101; refine (contains_none b cap fs _ hlen hbw' HC2 HR HV).mono ?_; rintro e w1 ⟨rfl, hb1⟩)
      have hbw1 : b < w1.heap.size := Nat.lt_of_lt_of_le hbw' hb1.size
      go_loopw [7, 46] (fun t i wq => ∃ k : Nat, k ≤ fs.length ∧ i = .int .i64 k ∧ t = .int .u32 (wordN (fs.take k)) ∧ Below w1.heap.size w1 wq) (fun _ i _ => fs.length - (intOf i).toNat)
      case atStart => exact ⟨0, by omega, rfl, rfl, Below.refl _ _⟩
      case round =>
        obtain ⟨k2, hk2, rfl, rfl, hb2⟩ := hrel
        by_cases hlt2 : k2 < fs.length
        · have hf : fs[k2]? = some fs[k2] := List.getElem?_eq_getElem hlt2
          generalize fs[k2] = f at hf
          obtain ⟨c0, c1, c2⟩ := HC2.out k2 f hf
          have d0 := (hb2.cell (p := ⟨b, k2 * 3, none⟩) hbw1).trans ((hb1.cell (p := ⟨b, k2 * 3, none⟩) hbw').trans c0)
          have d1 := (hb2.cell (p := ⟨b, k2 * 3 + 1, none⟩) hbw1).trans ((hb1.cell (p := ⟨b, k2 * 3 + 1, none⟩) hbw').trans c1)
          have d2 := (hb2.cell (p := ⟨b, k2 * 3 + 2, none⟩) hbw1).trans ((hb1.cell (p := ⟨b, k2 * 3 + 2, none⟩) hbw').trans c2)
          clear c0 c1 c2
          have hfr := HR.out f (mem_at hf)
          have hfv := HV.out f (mem_at hf)
          have hp32 : f.pos < 32 := by have := hfr.1; have := hfr.2; omega
          have em := shl_u32 f hfr hfv
          have hml := Nat.lt_of_le_of_lt (val_le f hfv) (mask_lt f hfr)
          have ht := word_lt (fs.take k2) (fun g hg => ⟨HR.out g (List.mem_of_mem_take hg), HV.out g (List.mem_of_mem_take hg)⟩)
          have e7 : bits .or .u32 ((wordN (fs.take k2) : Nat) : Int) ((f.val : Int) * 2 ^ f.pos) = ((wordN (fs.take (k2 + 1)) : Nat) : Int) := by
            rw [← cast_pow, ← Int.natCast_mul, u32_or_nat _ _ ht hml, take_at fs k2 f hf, wordN_snoc]
          have HE7 := Lib.hid e7
          clear ht hml hf hfr hfv e7
          go_wp2_with fail
          exact ⟨⟨k2 + 1, by omega, by go_num, by rw [HE7.out], hb2.alloc hb2.size _⟩, by simp [intOf]; omega⟩
        · have hk3 : fs.take k2 = fs := List.take_of_length_le (by omega)
          have HK3 := Lib.hid hk3
          clear hk3
          go_wp2_with fail
          go_ret2
          exact ⟨ret2_int (by rw [HK3.out]) rfl, hb.trans ((hb1.trans (hb2.mono hb1.size)).mono hb.size)⟩

set_option maxHeartbeats 400000 in
theorem word_none (w : World) : Calls Tryd.prog 67 #[.slice none 0 0] w fun e w' => e = .returned (.tuple #[.int .u32 0, .int .i64 0]) ∧ Below w.heap.size w w' := by
  have hidx : Calls Tryd.prog 124 #[.slice none 0 0, .func (Fn.func 102) #[] #[]] w fun e w' => e = .returned (.int .i64 (-1)) ∧ w = w' := by
    go_enter Tryd.func124, Tryd.ntmps124
    go_wp2_with fail
    go_loop [8] (fun i => i = .int .i64 0) (fun _ => 0)
    case atStart => rfl
    case round =>
      subst hrel
      go_wp2_with fail
      go_ret
      exact ⟨rfl, rfl⟩
  have hcon : Calls Tryd.prog 101 #[.slice none 0 0, .func (Fn.func 102) #[] #[]] w fun e w' => e = .returned (.bool false) ∧ w = w' := by
    go_enter Tryd.func101, Tryd.ntmps101
    go_wp2_with (go_at_call 124; refine hidx.mono ?_; rintro e w1 ⟨rfl, rfl⟩)
    go_ret
    exact ⟨rfl, rfl⟩
  go_enter Tryd.func67, Tryd.ntmps67
  go_wp2_with fail
  go_loop [4, 12] (fun t i => t = .int .u64 0 ∧ i = .int .i64 0) (fun _ _ => 0)
  case atStart => exact ⟨rfl, rfl⟩
  case round =>
    obtain ⟨rfl, rfl⟩ := hrel
    go_wp2_with (go_at_call 101; refine hcon.mono ?_; rintro e w1 ⟨rfl, rfl⟩)
    go_loop [7, 46] (fun t i => t = .int .u32 0 ∧ i = .int .i64 0) (fun _ _ => 0)
    case atStart => exact ⟨rfl, rfl⟩
    case round =>
      obtain ⟨rfl, rfl⟩ := hrel
      go_wp2_with fail
      go_ret2
      exact ⟨rfl, Below.refl _ _⟩

theorem word_any (v : Value) (fs : List FD) (w : World) (hf : FieldsAt w v fs) (hr : ∀ f, f ∈ fs → f.right) (hv : ∀ f, f ∈ fs → f.val < 2 ^ f.n) (hd : disj 0 fs = true) :
    Calls Tryd.prog 67 #[v] w fun e w' => e = .returned (.tuple #[.int .u32 (wordN fs), .int .i64 0]) ∧ Below w.heap.size w w' := by
  rcases hf with ⟨rfl, rfl⟩ | ⟨b, cap, rfl, hb, hlen, hc⟩
  · exact word_none w
  · exact word_some b cap fs w hlen hb hc hr hv hd

theorem bits_or_u32 (a b : Nat) (ha : a < 4294967296) (hb : b < 4294967296) : bits .or .u32 (a : Int) (b : Int) = ((a ||| b : Nat) : Int) := u32_or_nat a b ha hb

set_option maxHeartbeats 400000 in
theorem over_any (base : Nat) (v : Value) (fs : List FD) (w : World) (hbase : base < 4294967296) (hf : Hid (FieldsAt w v fs)) (hr : Hid (∀ f, f ∈ fs → f.right)) (hv : Hid (∀ f, f ∈ fs → f.val < 2 ^ f.n)) (hd : Hid (disj 0 fs = true)) :
    Calls Tryd.prog 35 #[.int .u32 base, v] w fun e w' => e = .returned (.int .u32 ((base ||| wordN fs : Nat) : Int)) ∧ Below w.heap.size w w' := by
  have hw := word_lt fs (fun f h => ⟨hr.out f h, hv.out f h⟩)
  go_enter Tryd.func35, Tryd.ntmps35
  go_wp2_with (first | (go_at_call 67; refine (word_any v fs _ hf.out hr.out hv.out hd.out).mono ?_; rintro e w1 ⟨rfl, hb1⟩) | (go_at_call 32; refine (must_ok _).mono ?_; rintro e w2 ⟨rfl, rfl⟩))
  go_ret
  exact ⟨ret_int (bits_or_u32 _ _ hbase hw), hb1⟩
end Go.Proofs.YtdjdbgilimjagaaDoor
