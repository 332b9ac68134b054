/- Layer 5 of the program, walked: a word, decoded. The library's table lies as it is laid. -/
import Derived.Test.YtdjdbgilimjagaaDoorCodeO
set_option linter.unusedVariables false
set_option linter.unusedSimpArgs false
namespace Go.Proofs.YtdjdbgilimjagaaDoor
open Go.RowKit
set_option maxRecDepth 100000

theorem two_new {w w1 : World} {A B : Obj} (h : Below ((w.alloc A).alloc B).heap.size ((w.alloc A).alloc B) w1) :
    w1.heap[w.heap.size]? = some A ∧ w1.heap[w.heap.size + 1]? = some B ∧ w.heap.size + 1 < w1.heap.size ∧ Below w.heap.size w w1 := by
  have hs := h.size
  simp at hs
  refine ⟨(h.block _ (by simp; omega)).trans ((heap_alloc_old _ _ (by simp)).trans (heap_alloc_new w _)), (h.block _ (by simp)).trans ?_, by omega, ?_⟩
  · have := heap_alloc_new (w.alloc A) B
    rwa [World.size_alloc] at this
  · exact ((balloc w A).trans ((balloc (w.alloc A) B).mono (by simp))).trans (h.mono (by simp; omega))

/-- What Decode answers. -/
def decI (x : Nat) : Ins := (decO x).getD Ins.zero
def decE (x : Nat) : Int := if (decO x).isSome then 0 else 11

theorem leave_any (tm : Array Value) (w : World) (bi be : Nat) (i : Ins) (e : Int) (h2 : tm[2]? = some (.pointer (some ⟨bi, 0, none⟩))) (h3 : tm[3]? = some (.pointer (some ⟨be, 0, none⟩))) (hI : At w bi i) (hE : w.cell? ⟨be, 0, none⟩ = some (.int .i64 e)) :
    (results Tryd.f10 tm).run Tryd.prog w = .ok (.tuple #[.agg i.cells, .int .i64 e]) w := by
  have k0 : w.cell? ⟨bi, 0, none⟩ = some (.int .i64 i.op) := hI.cell 0
  have k1 : w.cell? ⟨bi, 1, none⟩ = some (.int .i64 i.d) := hI.cell 1
  have k2 : w.cell? ⟨bi, 2, none⟩ = some (.int .i64 i.n) := hI.cell 2
  have k3 : w.cell? ⟨bi, 3, none⟩ = some (.int .i64 i.m) := hI.cell 3
  have k4 : w.cell? ⟨bi, 4, none⟩ = some (.int .i64 i.a) := hI.cell 4
  have k5 : w.cell? ⟨bi, 5, none⟩ = some (.int .i64 i.imm) := hI.cell 5
  have k6 : w.cell? ⟨bi, 6, none⟩ = some (.int .u64 (i.mask : Int)) := hI.cell 6
  have k7 : w.cell? ⟨bi, 7, none⟩ = some (.int .i64 i.shift) := hI.cell 7
  have k8 : w.cell? ⟨bi, 8, none⟩ = some (.int .i64 i.amount) := hI.cell 8
  have k9 : w.cell? ⟨bi, 9, none⟩ = some (.int .i64 i.cond) := hI.cell 9
  unfold Ins.cells
  simp [results, Tryd.results10, go_sem, h2, h3, k0, k1, k2, k3, k4, k5, k6, k7, k8, k9, hE]

theorem wiped_at (w : World) (eb ib : Nat) (i : Ins) (ce : Value) (hne : ib ≠ eb) (hI : At w ib i) (hE : w.heap[eb]? = some (.cells #[ce] 26)) :
    At (wiped eb ib w) ib Ins.zero ∧ (wiped eb ib w).cell? ⟨eb, 0, none⟩ = some (.int .i64 11) ∧ Only ib eb w (wiped eb ib w) := by
  unfold wiped
  refine ⟨?_, ?_, ?_⟩
  · refine At.keep ?_ _ _ hne
    exact (((((((((hI.set 0 _ ⟨0, i.d, i.n, i.m, i.a, i.imm, i.mask, i.shift, i.amount, i.cond⟩ rfl).set 1 _ ⟨0, 0, i.n, i.m, i.a, i.imm, i.mask, i.shift, i.amount, i.cond⟩ rfl).set 2 _ ⟨0, 0, 0, i.m, i.a, i.imm, i.mask, i.shift, i.amount, i.cond⟩ rfl).set 3 _ ⟨0, 0, 0, 0, i.a, i.imm, i.mask, i.shift, i.amount, i.cond⟩ rfl).set 4 _ ⟨0, 0, 0, 0, 0, i.imm, i.mask, i.shift, i.amount, i.cond⟩ rfl).set 5 _ ⟨0, 0, 0, 0, 0, 0, i.mask, i.shift, i.amount, i.cond⟩ rfl).set 6 _ ⟨0, 0, 0, 0, 0, 0, 0, i.shift, i.amount, i.cond⟩ rfl).set 7 _ ⟨0, 0, 0, 0, 0, 0, 0, 0, i.amount, i.cond⟩ rfl).set 8 _ ⟨0, 0, 0, 0, 0, 0, 0, 0, 0, i.cond⟩ rfl).set 9 _ Ins.zero rfl
  · have hE2 : (((((((((((w.setCell ⟨ib, 0, none⟩ (.int .i64 0)).setCell ⟨ib, 1, none⟩ (.int .i64 0)).setCell ⟨ib, 2, none⟩ (.int .i64 0)).setCell ⟨ib, 3, none⟩ (.int .i64 0)).setCell ⟨ib, 4, none⟩ (.int .i64 0)).setCell ⟨ib, 5, none⟩ (.int .i64 0)).setCell ⟨ib, 6, none⟩ (.int .u64 0)).setCell ⟨ib, 7, none⟩ (.int .i64 0)).setCell ⟨ib, 8, none⟩ (.int .i64 0)).setCell ⟨ib, 9, none⟩ (.int .i64 0)).setCell ⟨eb, 0, none⟩ (.int .i64 11)).heap[eb]? = some (.cells #[.int .i64 11] 26) := by
      refine heap_setCell_same _ eb 0 #[ce] 26 _ ?_
      have o := fun (w : World) k v => heap_setCell_other w ⟨ib, k, none⟩ eb v (fun e => hne e.symm)
      rw [o, o, o, o, o, o, o, o, o, o, hE]
    exact cell_of_row _ eb 0 _ 26 (0, 0) hE2
  · have l := fun (w : World) k v => Only.set (x := ib) (y := eb) w ib k v (.inl rfl)
    exact ((((((((((l _ _ _).trans (l _ _ _)).trans (l _ _ _)).trans (l _ _ _)).trans (l _ _ _)).trans (l _ _ _)).trans (l _ _ _)).trans (l _ _ _)).trans (l _ _ _)).trans (l _ _ _)).trans (Only.set _ eb 0 _ (.inr rfl))

def DecPost (x : Nat) (w : World) (e : Ending) (w' : World) : Prop := e = .returned (.tuple #[.agg (decI x).cells, .int .i64 (decE x)]) ∧ Below w.heap.size w w'

theorem leave_bad (tm : Array Value) (x : Nat) (w w6 : World) (bi be : Nat) (i : Ins) (h2 : tm[2]? = some (.pointer (some ⟨bi, 0, none⟩))) (h3 : tm[3]? = some (.pointer (some ⟨be, 0, none⟩))) (hI : At w6 bi i) (hE : w6.heap[be]? = some (.cells #[.int .i64 0] 26))
    (hne : bi ≠ be) (hbi : w.heap.size ≤ bi) (hbe : w.heap.size ≤ be) (hb : Below w.heap.size w w6) (hd : decO x = none) :
    Leaves Tryd.prog Tryd.f10 tm (DecPost x w) [{ target := .fn (Fn.func 30) #[.pointer (some ⟨be, 0, none⟩), .pointer (some ⟨bi, 0, none⟩)], args := #[] }] (.panicking [{ v := .iface 26 (.int .i64 3), recovered := false }]) w6 := by
  refine leaves_cons (f := 30) (args := #[.pointer (some ⟨be, 0, none⟩), .pointer (some ⟨bi, 0, none⟩)]) (by simp) (by simp [go_sem]) ?_
  have hw := wiped_at w6 be bi i (.int .i64 0) hne hI hE
  refine (catch_bad be bi 3 [] w6 _ _ _ _ _ _ _ _ _ _ (.int .i64 0) hne (hI.cell 0) (hI.cell 1) (hI.cell 2) (hI.cell 3) (hI.cell 4) (hI.cell 5) (hI.cell 6) (hI.cell 7) (hI.cell 8) (hI.cell 9) (cell_of_row _ be 0 _ 26 (0, 0) hE) (hI.frozen 0) (hI.frozen 1) (hI.frozen 2) (hI.frozen 3) (hI.frozen 4) (hI.frozen 5) (hI.frozen 6) (hI.frozen 7) (hI.frozen 8) (hI.frozen 9) (frozen_of_row _ be 0 _ 26 hE)).mono ?_
  rintro e u' w' ⟨rfl, rfl, rfl⟩
  refine ⟨_, leave_any tm _ bi be Ins.zero 11 h2 h3 hw.1 hw.2.1, ?_⟩
  have e1 : decI x = Ins.zero := by unfold decI; rw [hd]; rfl
  have e2 : decE x = 11 := by unfold decE; rw [hd]; rfl
  refine ⟨by rw [e1, e2], hb.trans (hw.2.2.below hbi hbe hb.size)⟩
theorem leave_ok (tm : Array Value) (x : Nat) (w w6 : World) (bi be : Nat) (i : Ins) (h2 : tm[2]? = some (.pointer (some ⟨bi, 0, none⟩))) (h3 : tm[3]? = some (.pointer (some ⟨be, 0, none⟩))) (hI : At w6 bi i) (hE : w6.heap[be]? = some (.cells #[.int .i64 0] 26))
    (hne : bi ≠ be) (hbi : w.heap.size ≤ bi) (hbe : w.heap.size ≤ be) (hb : Below w.heap.size w w6) (hT : Tab w6) (hm : i.mask < 18446744073709551616) (hd : decO x = if i.isB then some i else none) :
    Leaves Tryd.prog Tryd.f10 tm (DecPost x w) [{ target := .fn (Fn.func 30) #[.pointer (some ⟨be, 0, none⟩), .pointer (some ⟨bi, 0, none⟩)], args := #[] }] .returning w6 := by
  refine leaves_cons (f := 30) (args := #[.pointer (some ⟨be, 0, none⟩), .pointer (some ⟨bi, 0, none⟩)]) (by simp) (by simp [go_sem]) ?_
  have hE0 : w6.cell? ⟨be, 0, none⟩ = some (.int .i64 0) := cell_of_row _ be 0 _ 26 (0, 0) hE
  cases hB : i.isB with
  | true =>
    rw [hB, if_pos rfl] at hd
    refine (catch_right be bi i w6 hI hE0 hm (Lib.hid hT) (Lib.hid hB)).mono ?_
    rintro e u' w' ⟨rfl, rfl, hb1⟩
    have e1 : decI x = i := by unfold decI; rw [hd]; rfl
    have e2 : decE x = 0 := by unfold decE; rw [hd]; rfl
    refine ⟨_, leave_any tm _ bi be i 0 h2 h3 (hI.below hb1) (cell_later hb1 hE0), ?_⟩
    exact ⟨by rw [e1, e2], hb.trans (hb1.mono hb.size)⟩
  | false =>
    rw [hB, if_neg (by decide)] at hd
    refine (catch_wrong be bi i w6 hI hE0 (frozen_of_row _ be 0 _ 26 hE) hne hm (Lib.hid hT) (Lib.hid hB)).mono ?_
    rintro e u' w' ⟨rfl, rfl, w7, hb1, rfl⟩
    have hbE : be < w6.heap.size := World.block_lt_of_cell? w6 _ hE0
    have hw := wiped_at w7 be bi i (.int .i64 0) hne (hI.below hb1) ((hb1.block be hbE).trans hE)
    have e1 : decI x = Ins.zero := by unfold decI; rw [hd]; rfl
    have e2 : decE x = 11 := by unfold decE; rw [hd]; rfl
    refine ⟨_, leave_any tm _ bi be Ins.zero 11 h2 h3 hw.1 hw.2.1, ?_⟩
    have hb2 := hb.trans (hb1.mono hb.size)
    exact ⟨by rw [e1, e2], hb2.trans (hw.2.2.below hbi hbe hb2.size)⟩

/-- An instruction and no error, stored where they are. -/
def saved (eb ib : Nat) (i : Ins) (w : World) : World := ((((((((((w.setCell ⟨ib, 0, none⟩ (.int .i64 i.op)).setCell ⟨ib, 1, none⟩ (.int .i64 i.d)).setCell ⟨ib, 2, none⟩ (.int .i64 i.n)).setCell ⟨ib, 3, none⟩ (.int .i64 i.m)).setCell ⟨ib, 4, none⟩ (.int .i64 i.a)).setCell ⟨ib, 5, none⟩ (.int .i64 i.imm)).setCell ⟨ib, 6, none⟩ (.int .u64 (i.mask : Int))).setCell ⟨ib, 7, none⟩ (.int .i64 i.shift)).setCell ⟨ib, 8, none⟩ (.int .i64 i.amount)).setCell ⟨ib, 9, none⟩ (.int .i64 i.cond)).setCell ⟨eb, 0, none⟩ (.int .i64 0)
theorem saved_at (w : World) (eb ib : Nat) (i : Ins) (hne : ib ≠ eb) (hI : At w ib i) (hE : w.heap[eb]? = some (.cells #[.int .i64 0] 26)) :
    At (saved eb ib i w) ib i ∧ (saved eb ib i w).heap[eb]? = some (.cells #[.int .i64 0] 26) ∧ Only ib eb w (saved eb ib i w) := by
  unfold saved
  refine ⟨?_, ?_, ?_⟩
  · refine At.keep ?_ _ _ hne
    exact (((((((((hI.set 0 _ i rfl).set 1 _ i rfl).set 2 _ i rfl).set 3 _ i rfl).set 4 _ i rfl).set 5 _ i rfl).set 6 _ i rfl).set 7 _ i rfl).set 8 _ i rfl).set 9 _ i rfl
  · refine heap_setCell_same _ eb 0 #[.int .i64 0] 26 _ ?_
    have o := fun (w : World) k v => heap_setCell_other w ⟨ib, k, none⟩ eb v (fun e => hne e.symm)
    rw [o, o, o, o, o, o, o, o, o, o, hE]
  · have l := fun (w : World) k v => Only.set (x := ib) (y := eb) w ib k v (.inl rfl)
    exact ((((((((((l _ _ _).trans (l _ _ _)).trans (l _ _ _)).trans (l _ _ _)).trans (l _ _ _)).trans (l _ _ _)).trans (l _ _ _)).trans (l _ _ _)).trans (l _ _ _)).trans (l _ _ _)).trans (Only.set _ eb 0 _ (.inr rfl))
theorem leave_saved (tm : Array Value) (x : Nat) (w w6 : World) (bi be : Nat) (i : Ins) (h2 : tm[2]? = some (.pointer (some ⟨bi, 0, none⟩))) (h3 : tm[3]? = some (.pointer (some ⟨be, 0, none⟩))) (hI : At w6 bi i) (hE : w6.heap[be]? = some (.cells #[.int .i64 0] 26))
    (hne : bi ≠ be) (hbi : w.heap.size ≤ bi) (hbe : w.heap.size ≤ be) (hb : Below w.heap.size w w6) (hT : Tab w) (hm : i.mask < 18446744073709551616) (hd : decO x = if i.isB then some i else none) :
    Leaves Tryd.prog Tryd.f10 tm (DecPost x w) [{ target := .fn (Fn.func 30) #[.pointer (some ⟨be, 0, none⟩), .pointer (some ⟨bi, 0, none⟩)], args := #[] }] .returning (saved be bi i w6) := by
  have hs := saved_at w6 be bi i hne hI hE
  have hb2 := hb.trans (hs.2.2.below hbi hbe hb.size)
  exact leave_ok tm x w _ bi be i h2 h3 hs.1 hs.2.1 hne hbi hbe hb2 (hT.below hb2) hm hd

theorem ag_step (v k : Nat) (h : v < 2 ^ 64) : v ||| v * k % 18446744073709551616 < 2 ^ 64 := Nat.or_lt_two_pow h (Nat.mod_lt _ (by decide))
theorem againN_lt (v size : Nat) (h : v < 2 ^ 64) : againN v size < 2 ^ 64 := by
  have a32 : ∀ v, v < 2 ^ 64 → ag32 v < 2 ^ 64 := fun v h => ag_step v _ h
  have a16 : ∀ v, v < 2 ^ 64 → ag16 v < 2 ^ 64 := fun v h => a32 _ (ag_step v _ h)
  have a8 : ∀ v, v < 2 ^ 64 → ag8 v < 2 ^ 64 := fun v h => a16 _ (ag_step v _ h)
  have a4 : ∀ v, v < 2 ^ 64 → ag4 v < 2 ^ 64 := fun v h => a8 _ (ag_step v _ h)
  have a2 : ∀ v, v < 2 ^ 64 → ag2 v < 2 ^ 64 := fun v h => a4 _ (ag_step v _ h)
  unfold againN
  by_cases h2 : size = 2
  · rw [if_pos h2]; exact a2 v h
  rw [if_neg h2]
  by_cases h4 : size = 4
  · rw [if_pos h4]; exact a4 v h
  rw [if_neg h4]
  by_cases h8 : size = 8
  · rw [if_pos h8]; exact a8 v h
  rw [if_neg h8]
  by_cases h16 : size = 16
  · rw [if_pos h16]; exact a16 v h
  rw [if_neg h16]
  by_cases h32 : size = 32
  · rw [if_pos h32]; exact a32 v h
  rw [if_neg h32]; exact h
theorem decM_lt (n r s : Int) : (decM n r s).1 < 18446744073709551616 := by
  unfold decM
  by_cases hg : n < 0 ∨ r < 0 ∨ s < 0 ∨ n > 1 ∨ r ≥ 64 ∨ s ≥ 64
  · rw [if_pos hg]; decide
  rw [if_neg hg]
  dsimp only
  have hz : (if n = 0 then sizeS s else 64).toNat ≤ 64 := by
    by_cases h : n = 0
    · rw [if_pos h]; have := (sizeS_ok s).1; omega
    · rw [if_neg h]; decide
  generalize (if n = 0 then sizeS s else 64) = z at hz ⊢
  by_cases hc : s - frontI z + 1 < 1 ∨ s - frontI z + 1 ≥ z ∨ r ≥ z
  · rw [if_pos hc]; decide
  · rw [if_neg hc]; exact againN_lt _ _ (rot_lt _ _ _ hz)
theorem mask_put (s s' : DS) (v : Int) (sel : Sel) (h : s.i.mask < 18446744073709551616) (hp : s.put v sel = some s') : s'.i.mask < 18446744073709551616 := by
  cases sel with
  | mk k =>
    unfold DS.put at hp
    dsimp only at hp
    by_cases k0 : k = 0
    · rw [if_pos k0] at hp; cases hp; exact h
    · rw [if_neg k0] at hp
      by_cases k1 : k = 1
      · rw [if_pos k1] at hp; cases hp; exact h
      · rw [if_neg k1] at hp
        by_cases hd : (decM s.t0 s.t1 v).2 = 0
        · rw [if_pos hd] at hp; cases hp; exact decM_lt _ _ _
        · rw [if_neg hd] at hp; cases hp
  | _ => cases hp; exact h
theorem decFold_snoc (x : Nat) (l : List PS) (o : Option DS) (j : Nat) (p : PS) (s : DS) (hp : l[j]? = some p) (h : decFold x (l.take j) o = some s) : decFold x (l.take (j + 1)) o = s.put (p.get x) p.sel := by
  unfold decFold at h ⊢
  rw [take_at l j p hp, List.foldl_append, h]
  rfl
theorem decFold_none (x : Nat) : ∀ (l : List PS), decFold x l none = none := by
  intro l
  induction l with
  | nil => rfl
  | cons p l ih => exact ih
theorem decFold_stuck (x : Nat) (l : List PS) (o : Option DS) (j : Nat) (h : decFold x (l.take j) o = none) : decFold x l o = none := by
  have e : decFold x l o = decFold x (l.drop j) (decFold x (l.take j) o) := by
    unfold decFold
    rw [← List.foldl_append, List.take_append_drop]
  rw [e, h, decFold_none]
theorem field_nat (x P N X : Nat) (w : World) (hx : x < 4294967296) (h0 : 1 ≤ N) (h1 : P + N ≤ 32) (HX : Hid (X = fieldN x P N)) :
    Calls Tryd.prog 15 #[.int .u32 x, .int .i64 P, .int .i64 N] w fun e w' => e = .returned (.tuple #[.int .u32 X, .int .i64 0]) ∧ Below w.heap.size w w' := by
  refine (field_yes (x : Int) P N w (by omega) (by omega) (by unfold rightB; simp only [decide_eq_true_eq]; omega) (by omega) (by omega) (by omega) (by omega)).mono ?_
  rintro e w' ⟨rfl, m, rfl⟩
  rw [HX.out]
  exact ⟨ret2_int (by rw [Int.toNat_natCast, Int.toNat_natCast, Int.toNat_natCast]) rfl, below_drewN (Below.refl _ _) _⟩
theorem signed_nat (X N : Nat) (v : Int) (w : World) (hx : X < 2 ^ N) (h0 : 1 ≤ N) (h1 : N ≤ 32) (HV : Hid (v = signedI X N)) :
    Calls Tryd.prog 33 #[.int .u32 X, .int .i64 N] w fun e w' => e = .returned (.tuple #[.int .i64 v, .int .i64 0]) ∧ w = w' := by
  refine (signed_yes (X : Int) N w (by omega) (by rw [Int.toNat_natCast]; omega) (by omega) (by omega)).mono ?_
  rintro e w' ⟨rfl, rfl⟩
  rw [HV.out]
  exact ⟨ret2_int (by rw [Int.toNat_natCast, Int.toNat_natCast]) rfl, rfl⟩

set_option maxHeartbeats 4000000 in
theorem dec_any (x : Nat) (w : World) (hx : x < 4294967296) (HT : Hid (Tab w)) : Calls Tryd.prog 10 #[.int .u32 x] w (DecPost x w) := by
  have hmf := mkf
  have hsb := shapeI_bd (opOf x)
  go_enter_defers Tryd.func10, Tryd.ntmps10
  go_wp2_with (first | (go_at_call 14; refine (opcode_any x _ hx).mono ?_; rintro e w1 ⟨rfl, hb1⟩; obtain ⟨hA, hE, hz1, hw1⟩ := two_new hb1; have c0 := (show At w1 w.heap.size Ins.zero from hA).cell 0; have f0 := (show At w1 w.heap.size Ins.zero from hA).frozen 0; simp only [Ins.cells, Ins.zero] at c0) | (go_at_call 18; refine (shape_any _ _).mono ?_; rintro e w2 ⟨rfl, hb2⟩))
  have hA2 : At (w1.setCell ⟨w.heap.size, 0, none⟩ (.int .i64 (opOf x))) w.heap.size (DS.start (opOf x)).i := (show At w1 w.heap.size Ins.zero from hA).set 0 _ _ rfl
  have hE2 : (w1.setCell ⟨w.heap.size, 0, none⟩ (.int .i64 (opOf x))).heap[w.heap.size + 1]? = some (.cells #[.int .i64 0] 26) := (heap_setCell_other _ _ _ _ (by simp)).trans hE
  have hs12 : w1.heap.size ≤ w2.heap.size := by have := hb2.size; rwa [World.size_setCell] at this
  refine (parts_any _ _ hsb.1 hsb.2).mono ?_
  rintro e w3 ⟨v, bt, L, rfl, hP, hL, hb3, hbt, hnew⟩
  have hb23 := bt2 hb2 hb3
  have hA3 := hA2.below hb23
  have hE3 : w3.heap[w.heap.size + 1]? = some (.cells #[.int .i64 0] 26) := (hb23.block _ (by rw [World.size_setCell]; exact hz1)).trans hE2
  have hs23 := hb3.size
  have hbw3 : Below w.heap.size w w3 := (hw1.setCell (p := ⟨w.heap.size, 0, none⟩) (Nat.le_refl _) _).trans (hb23.mono (by rw [World.size_setCell]; omega))
  obtain ⟨sh, hsh⟩ : ∃ sh, sh = shapeI (opOf x) := ⟨_, rfl⟩
  rw [← hsh] at hL hbt hsb
  obtain ⟨bu, hbu⟩ : ∃ y, y = (if sh = 3 then bt else w.heap.size) := ⟨_, rfl⟩
  have hsel : ∀ p, p ∈ L → SelP w3 w.heap.size bu p.h p.ch p.ps.sel := fun p hp => by
    rw [hbu]
    exact selP_of hsb.1 hsb.2 (hL ▸ List.mem_map_of_mem hp) (hP.2 p hp) (hnew p hp) (by omega)
  have htold : sh = 3 → ToldAt w3 bu 0 0 0 ∧ bu ≠ w.heap.size := fun h => by
    rw [hbu, if_pos h]
    exact ⟨(hbt h).2, by have := (hbt h).1; omega⟩
  have hbu0 : w.heap.size ≤ bu ∧ bu ≠ w.heap.size + 1 := by
    rw [hbu]
    by_cases h : sh = 3
    · rw [if_pos h]; have := (hbt h).1; omega
    · rw [if_neg h]; omega
  have hlen : L.length ≤ 1000 := by
    have h := ones_len sh hsb.1 hsb.2
    unfold onesOf at h
    rw [← hL, List.length_map, List.length_map] at h
    exact h
  have HBUN : Hid (sh ≠ 3 → bu = w.heap.size) := Lib.hid (fun h => by rw [hbu, if_neg h])
  have HSH := Lib.hid hsh
  have HP := Lib.hid hP
  have HL := Lib.hid hL
  have HA3 := Lib.hid hA3
  have HE3 := Lib.hid hE3
  have HSEL := Lib.hid hsel
  have HTOLD := Lib.hid htold
  have HBW3 := Lib.hid hbw3
  have HW12 : w.heap.size + 1 < w2.heap.size ∧ w2.heap.size ≤ w3.heap.size := ⟨by omega, hs23⟩
  clear hP hL hA3 hE3 hbt hnew hbw3 hA2 hE2 hb23 hb3 hb2 hb1 hA hE hw1 c0 f0 hsel htold hbu
  rcases HP.out.cells with ⟨rfl, rfl⟩ | ⟨b, cap, rfl, hb0, hbw, hcell⟩
  · have hd : decO x = if (DS.start (opOf x)).i.isB then some (DS.start (opOf x)).i else none := by
      unfold decO
      rw [← HSH.out, ← HL.out]
      rfl
    have hEr := HE3.out
    have hBr := HBW3.out
    obtain ⟨I, hIe⟩ : ∃ I, I = (DS.start (opOf x)).i := ⟨_, rfl⟩
    have hMA : I.mask < 18446744073709551616 := by rw [hIe]; show 0 < 18446744073709551616; decide
    have HI := HA3.out
    rw [← hIe] at hd HI
    have HIe := Lib.hid hIe
    have HMA := Lib.hid hMA
    have HI3 := Lib.hid HI
    clear hIe HI hMA
    have k0 : w3.cell? ⟨w.heap.size, 0, none⟩ = some (.int .i64 I.op) := HI3.out.cell 0
    have k1 : w3.cell? ⟨w.heap.size, 1, none⟩ = some (.int .i64 I.d) := HI3.out.cell 1
    have k2 : w3.cell? ⟨w.heap.size, 2, none⟩ = some (.int .i64 I.n) := HI3.out.cell 2
    have k3 : w3.cell? ⟨w.heap.size, 3, none⟩ = some (.int .i64 I.m) := HI3.out.cell 3
    have k4 : w3.cell? ⟨w.heap.size, 4, none⟩ = some (.int .i64 I.a) := HI3.out.cell 4
    have k5 : w3.cell? ⟨w.heap.size, 5, none⟩ = some (.int .i64 I.imm) := HI3.out.cell 5
    have k6 : w3.cell? ⟨w.heap.size, 6, none⟩ = some (.int .u64 (I.mask : Int)) := HI3.out.cell 6
    have k7 : w3.cell? ⟨w.heap.size, 7, none⟩ = some (.int .i64 I.shift) := HI3.out.cell 7
    have k8 : w3.cell? ⟨w.heap.size, 8, none⟩ = some (.int .i64 I.amount) := HI3.out.cell 8
    have k9 : w3.cell? ⟨w.heap.size, 9, none⟩ = some (.int .i64 I.cond) := HI3.out.cell 9
    have q0 := HI3.out.frozen 0
    have q1 := HI3.out.frozen 1
    have q2 := HI3.out.frozen 2
    have q3 := HI3.out.frozen 3
    have q4 := HI3.out.frozen 4
    have q5 := HI3.out.frozen 5
    have q6 := HI3.out.frozen 6
    have q7 := HI3.out.frozen 7
    have q8 := HI3.out.frozen 8
    have q9 := HI3.out.frozen 9
    have ke : w3.cell? ⟨w.heap.size + 1, 0, none⟩ = some (.int .i64 0) := cell_of_row _ _ 0 _ 26 (0, 0) hEr
    have qe : w3.frozen? ⟨w.heap.size + 1, 0, none⟩ = false := frozen_of_row _ _ 0 _ 26 hEr
    have HEr := Lib.hid hEr
    have HBr := Lib.hid hBr
    have HD := Lib.hid hd
    clear hEr hBr hd
    go_wp2_with fail
    go_loopw [18] (fun i wr => i = .int .i64 0 ∧ wr = w3) (fun _ _ => 0)
    case atStart => exact ⟨rfl, rfl⟩
    case round =>
      obtain ⟨rfl, rfl⟩ := hrel
      go_wp2_with fail
      exact leave_saved _ x w wr w.heap.size (w.heap.size + 1) I rfl rfl HI3.out HEr.out (by omega) (Nat.le_refl _) (by omega) HBr.out HT.out HMA.out HD.out
  · have HC := Lib.hid hcell
    clear hcell
    go_wp2_with fail
    clear hsh
    go_loopw [18] (fun i wr => ∃ (j : Nat) (s : DS), j ≤ L.length ∧ i = .int .i64 j ∧ Hid (decFold x ((partsL sh).take j) (some (DS.start (opOf x))) = some s) ∧ Hid (At wr w.heap.size s.i) ∧
      Hid (sh = 3 → ToldAt wr bu s.t0 s.t1 s.t2) ∧ Hid (sh = 3 → s.bd) ∧ Hid (s.i.mask < 18446744073709551616) ∧ Only w.heap.size bu w3 wr) (fun i _ => L.length - (intOf i).toNat)
    case atStart => exact ⟨0, _, by omega, rfl, Lib.hid rfl, HA3, Lib.hid (fun h => (HTOLD.out h).1), Lib.hid (fun _ => ⟨.inl rfl, Int.le_refl 0, by show (0 : Int) < 64; decide⟩), Lib.hid (by show 0 < 18446744073709551616; decide), Only.refl _ _ _⟩
    case round =>
      obtain ⟨j, s, hj, rfl, HF, HI, HTo, HBd, HMA, hO⟩ := hrel
      by_cases hjl : j < L.length
      · have hf : L[j]? = some L[j] := List.getElem?_eq_getElem hjl
        generalize L[j] = p at hf
        obtain ⟨c0, c1, c2, c3, c4⟩ := HC.out j p hf
        have nb1 : b ≠ w.heap.size := by omega
        have nb2 : b ≠ bu := by
          by_cases h3 : sh = 3
          · intro e
            have hh := (HTOLD.out h3).1.cell (j * 5 + 3)
            rw [← e, c3, Array.getElem?_eq_none (by simp)] at hh
            cases hh
          · rw [HBUN.out h3]; exact nb1
        have d0 := hO.cell nb1 nb2 c0
        have d1 := hO.cell nb1 nb2 c1
        have d2 := hO.cell nb1 nb2 c2
        have d3 := hO.cell nb1 nb2 c3
        have d4 := hO.cell nb1 nb2 c4
        clear c0 c1 c2 c3 c4
        have hmem : p.ps ∈ partsL sh := HL.out ▸ List.mem_map_of_mem (mem_at hf)
        have hp := part_ok hsb.1 hsb.2 hmem
        have HPS := Lib.hid (show (partsL sh)[j]? = some p.ps by rw [← HL.out, List.getElem?_map, hf]; rfl)
        have HSP := Lib.hid ((HSEL.out p (mem_at hf)).only hO)
        have hcf := put_enters HSP.out
        have HMK := Lib.hid (mkOk_of hsb.1 hsb.2 hmem x s HBd.out)
        have HMEM := Lib.hid hmem
        obtain ⟨P, hP⟩ : ∃ P : Nat, p.ps.pos = (P : Int) := ⟨p.ps.pos.toNat, by omega⟩
        obtain ⟨N, hN⟩ : ∃ N : Nat, p.ps.n = (N : Int) := ⟨p.ps.n.toNat, by omega⟩
        obtain ⟨X, hX⟩ : ∃ X : Nat, X = fieldN x P N := ⟨_, rfl⟩
        have hX1 : X < 2 ^ N := hX ▸ field_lt x P N
        have hget : p.ps.get x = if p.ps.sign then signedI X N else (X : Int) := by
          rw [hX]; unfold PS.get; rw [hP, hN, Int.toNat_natCast, Int.toNat_natCast]
        rw [hP, hN] at hp
        rw [hP] at d0
        rw [hN] at d1
        have hN1 : 1 ≤ N ∧ N ≤ 26 ∧ P + N ≤ 32 := by omega
        have hX2 : X < 67108864 := Nat.lt_of_lt_of_le hX1 (show 2 ^ N ≤ 2 ^ 26 from Nat.pow_le_pow_right (by decide) hN1.2.1)
        have HX := Lib.hid hX
        have HX1 := Lib.hid hX1
        have HG := Lib.hid hget
        clear hf hp hmem hP hN hX hX1 hget
        have hz := hO.size
        have hE5 : ∀ w5, Only w.heap.size bu wr w5 → w5.heap[w.heap.size + 1]? = some (.cells #[.int .i64 0] 26) := fun w5 h5 => ((hO.trans h5).block _ (by omega) (by omega) (fun e => hbu0.2 e.symm)).trans HE3.out
        have hB5 : ∀ w5, Only w.heap.size bu wr w5 → Below w.heap.size w w5 := fun w5 h5 => HBW3.out.trans ((hO.trans h5).below (Nat.le_refl _) hbu0.1 (by omega))
        have HE5 := Lib.hid hE5
        have HB5 := Lib.hid hB5
        clear hE5 hB5
        obtain ⟨v, hv⟩ : ∃ v, v = p.ps.get x := ⟨_, rfl⟩
        rw [← hv] at HMK HG
        cases hsg : p.ps.sign with
        | true =>
          rw [hsg] at d4
          have HG2 : Hid (v = signedI X N) := Lib.hid (by rw [HG.out, hsg]; rfl)
          have HV := Lib.hid hv
          clear hv HG
          go_wp2_with (first | (go_at_call 15; refine (field_nat x P N X _ hx hN1.1 hN1.2.2 HX).mono ?_; rintro e w5 ⟨rfl, hb5⟩; have g1 := kept_cells hb5 1; have g3 := kept_cells hb5 3; have g4 := kept_cells hb5 4; simp at g1 g3 g4) | (go_at_call 32; refine (must_ok _).mono ?_; rintro e w6 ⟨rfl, rfl⟩) | (go_at_call 33; refine (signed_nat X N v _ HX1.out hN1.1 (by omega) HG2).mono ?_; rintro e w6 ⟨rfl, rfl⟩))
          have hb5' := bel_of_res hb5
          have HTo5 := fun h => And.intro ((HTo.out h).below hb5') (HTOLD.out h).2
          cases hput : s.put v p.ps.sel with
          | none =>
            refine (put_none p w.heap.size bu (sh = 3) s v _ (HSP.out.only (Only.of hb5')) (HI.out.below hb5') HTo5 HMK.out hput).mono ?_
            rintro e w6 ⟨rfl, hO6, hI6⟩
            have HP6 := Lib.hid hput
            clear hput
            have hO7 := (Only.of hb5').trans hO6
            go_wp2_with fail
            refine leave_bad _ x w w6 w.heap.size (w.heap.size + 1) s.i rfl rfl hI6 (HE5.out w6 hO7) (by omega) (Nat.le_refl _) (by omega) (HB5.out w6 hO7) ?_
            have hfs := decFold_stuck x (partsL sh) (some (DS.start (opOf x))) (j + 1) ((decFold_snoc x _ _ j p.ps s HPS.out HF.out).trans (by rw [← HV.out]; exact HP6.out))
            unfold decO
            rw [← HSH.out, hfs]
          | some s' =>
            refine (put_some p w.heap.size bu (sh = 3) s s' v _ (HSP.out.only (Only.of hb5')) (HI.out.below hb5') HTo5 HMK.out hput).mono ?_
            rintro e w6 ⟨rfl, hO6, hI6, hT6⟩
            have HP6 := Lib.hid hput
            have HI6 := Lib.hid hI6
            have HT6 := Lib.hid hT6
            clear hput hI6 hT6
            have hO7 := hO.trans ((Only.of hb5').trans hO6)
            go_wp2_with fail
            exact ⟨⟨j + 1, s', by omega, by go_num, Lib.hid ((decFold_snoc x _ _ j p.ps s HPS.out HF.out).trans (by rw [← HV.out]; exact HP6.out)), HI6, HT6, Lib.hid (bd_put HMEM.out x s s' HBd.out (by rw [← HV.out]; exact HP6.out)), Lib.hid (mask_put s s' v _ HMA.out HP6.out), hO7⟩, by simp [intOf]; omega⟩
        | false =>
          rw [hsg] at d4
          have HG2 : v = (X : Int) := by rw [HG.out, hsg]; rfl
          subst HG2
          have HV := Lib.hid hv
          clear hv HG
          go_wp2_with (first | (go_at_call 15; refine (field_nat x P N X _ hx hN1.1 hN1.2.2 HX).mono ?_; rintro e w5 ⟨rfl, hb5⟩; have g1 := kept_cells hb5 1; have g3 := kept_cells hb5 3; have g4 := kept_cells hb5 4; simp at g1 g3 g4) | (go_at_call 32; refine (must_ok _).mono ?_; rintro e w6 ⟨rfl, rfl⟩))
          have hb5' := bel_of_res hb5
          have HTo5 := fun h => And.intro ((HTo.out h).below hb5') (HTOLD.out h).2
          cases hput : s.put (X : Int) p.ps.sel with
          | none =>
            refine (put_none p w.heap.size bu (sh = 3) s (X : Int) _ (HSP.out.only (Only.of hb5')) (HI.out.below hb5') HTo5 HMK.out hput).mono ?_
            rintro e w6 ⟨rfl, hO6, hI6⟩
            have HP6 := Lib.hid hput
            clear hput
            have hO7 := (Only.of hb5').trans hO6
            go_wp2_with fail
            refine leave_bad _ x w w6 w.heap.size (w.heap.size + 1) s.i rfl rfl hI6 (HE5.out w6 hO7) (by omega) (Nat.le_refl _) (by omega) (HB5.out w6 hO7) ?_
            have hfs := decFold_stuck x (partsL sh) (some (DS.start (opOf x))) (j + 1) ((decFold_snoc x _ _ j p.ps s HPS.out HF.out).trans (by rw [← HV.out]; exact HP6.out))
            unfold decO
            rw [← HSH.out, hfs]
          | some s' =>
            refine (put_some p w.heap.size bu (sh = 3) s s' (X : Int) _ (HSP.out.only (Only.of hb5')) (HI.out.below hb5') HTo5 HMK.out hput).mono ?_
            rintro e w6 ⟨rfl, hO6, hI6, hT6⟩
            have HP6 := Lib.hid hput
            have HI6 := Lib.hid hI6
            have HT6 := Lib.hid hT6
            clear hput hI6 hT6
            have hO7 := hO.trans ((Only.of hb5').trans hO6)
            go_wp2_with fail
            exact ⟨⟨j + 1, s', by omega, by go_num, Lib.hid ((decFold_snoc x _ _ j p.ps s HPS.out HF.out).trans (by rw [← HV.out]; exact HP6.out)), HI6, HT6, Lib.hid (bd_put HMEM.out x s s' HBd.out (by rw [← HV.out]; exact HP6.out)), Lib.hid (mask_put s s' (X : Int) _ HMA.out HP6.out), hO7⟩, by simp [intOf]; omega⟩
      · have hjL : j = L.length := by omega
        subst hjL
        have hfull : decFold x (partsL sh) (some (DS.start (opOf x))) = some s := by
          have h := HF.out
          rw [← HL.out] at h ⊢
          rwa [List.take_of_length_le (by simp)] at h
        have hd : decO x = if s.i.isB then some s.i else none := by
          unfold decO
          rw [← HSH.out, hfull]
        have hz := hO.size
        have hEr : wr.heap[w.heap.size + 1]? = some (.cells #[.int .i64 0] 26) := (hO.block _ (by omega) (by omega) (fun e => hbu0.2 e.symm)).trans HE3.out
        have hBr : Below w.heap.size w wr := HBW3.out.trans (hO.below (Nat.le_refl _) hbu0.1 (by omega))
        obtain ⟨I, hIe⟩ : ∃ I, I = s.i := ⟨_, rfl⟩
        rw [← hIe] at hd HI HMA
        have HIe := Lib.hid hIe
        clear hIe
        have k0 : wr.cell? ⟨w.heap.size, 0, none⟩ = some (.int .i64 I.op) := HI.out.cell 0
        have k1 : wr.cell? ⟨w.heap.size, 1, none⟩ = some (.int .i64 I.d) := HI.out.cell 1
        have k2 : wr.cell? ⟨w.heap.size, 2, none⟩ = some (.int .i64 I.n) := HI.out.cell 2
        have k3 : wr.cell? ⟨w.heap.size, 3, none⟩ = some (.int .i64 I.m) := HI.out.cell 3
        have k4 : wr.cell? ⟨w.heap.size, 4, none⟩ = some (.int .i64 I.a) := HI.out.cell 4
        have k5 : wr.cell? ⟨w.heap.size, 5, none⟩ = some (.int .i64 I.imm) := HI.out.cell 5
        have k6 : wr.cell? ⟨w.heap.size, 6, none⟩ = some (.int .u64 (I.mask : Int)) := HI.out.cell 6
        have k7 : wr.cell? ⟨w.heap.size, 7, none⟩ = some (.int .i64 I.shift) := HI.out.cell 7
        have k8 : wr.cell? ⟨w.heap.size, 8, none⟩ = some (.int .i64 I.amount) := HI.out.cell 8
        have k9 : wr.cell? ⟨w.heap.size, 9, none⟩ = some (.int .i64 I.cond) := HI.out.cell 9
        have q0 := HI.out.frozen 0
        have q1 := HI.out.frozen 1
        have q2 := HI.out.frozen 2
        have q3 := HI.out.frozen 3
        have q4 := HI.out.frozen 4
        have q5 := HI.out.frozen 5
        have q6 := HI.out.frozen 6
        have q7 := HI.out.frozen 7
        have q8 := HI.out.frozen 8
        have q9 := HI.out.frozen 9
        have ke : wr.cell? ⟨w.heap.size + 1, 0, none⟩ = some (.int .i64 0) := cell_of_row _ _ 0 _ 26 (0, 0) hEr
        have qe : wr.frozen? ⟨w.heap.size + 1, 0, none⟩ = false := frozen_of_row _ _ 0 _ 26 hEr
        have HEr := Lib.hid hEr
        have HBr := Lib.hid hBr
        have HD := Lib.hid hd
        clear hEr hBr hd
        go_wp2_with fail
        exact leave_saved _ x w wr w.heap.size (w.heap.size + 1) I rfl rfl HI.out HEr.out (by omega) (Nat.le_refl _) (by omega) HBr.out HT.out HMA.out HD.out
end Go.Proofs.YtdjdbgilimjagaaDoor
