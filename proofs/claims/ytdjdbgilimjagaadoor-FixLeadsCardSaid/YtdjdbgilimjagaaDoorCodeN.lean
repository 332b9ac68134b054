/- Layer 5 of the program, walked: a part, put, any part. -/
import Derived.Test.YtdjdbgilimjagaaDoorCodeM
import Derived.Test.YtdjdbgilimjagaaDoorSpecF
set_option linter.unusedVariables false
set_option linter.unusedSimpArgs false
namespace Go.Proofs.YtdjdbgilimjagaaDoor
open Go.RowKit
set_option maxRecDepth 100000

/-- All blocks but two are as they were. -/
structure Only (x y : Nat) (w w' : World) : Prop where
  os : w'.os = w.os
  tape : w'.tape = w.tape
  output : w'.output = w.output
  size : w.heap.size ≤ w'.heap.size
  block : ∀ k, k < w.heap.size → k ≠ x → k ≠ y → w'.heap[k]? = w.heap[k]?
theorem Only.refl (x y : Nat) (w : World) : Only x y w w := ⟨rfl, rfl, rfl, Nat.le_refl _, fun _ _ _ _ => rfl⟩
theorem Only.trans {x y : Nat} {a b c : World} (h : Only x y a b) (k : Only x y b c) : Only x y a c :=
  ⟨k.os.trans h.os, k.tape.trans h.tape, k.output.trans h.output, Nat.le_trans h.size k.size, fun i hi hx hy => (k.block i (Nat.lt_of_lt_of_le hi h.size) hx hy).trans (h.block i hi hx hy)⟩
theorem Only.of {x y : Nat} {a b : World} (h : Below a.heap.size a b) : Only x y a b := ⟨h.os, h.tape, h.output, h.size, fun i hi _ _ => h.block i hi⟩
theorem Only.set {x y : Nat} (w : World) (b i : Nat) (v : Value) (h : b = x ∨ b = y) : Only x y w (w.setCell ⟨b, i, none⟩ v) :=
  ⟨rfl, rfl, rfl, by simp, fun k _ hx hy => heap_setCell_other w ⟨b, i, none⟩ k v (fun e => by rcases h with h | h <;> (subst h; first | exact hx e | exact hy e))⟩
theorem Only.below {x y B : Nat} {a b : World} (h : Only x y a b) (hx : B ≤ x) (hy : B ≤ y) (hB : B ≤ a.heap.size) : Below B a b :=
  ⟨h.os, h.tape, h.output, h.size, fun k hk => h.block k (by omega) (by omega) (by omega)⟩
theorem Only.cell {x y : Nat} {a b : World} (h : Only x y a b) {k i : Nat} {v : Value} (hx : k ≠ x) (hy : k ≠ y) (hc : a.cell? ⟨k, i, none⟩ = some v) : b.cell? ⟨k, i, none⟩ = some v :=
  (World.cell?_of_block (a := ⟨k, i, none⟩) (h.block k (World.block_lt_of_cell? a _ hc) hx hy)).trans hc

def Ins.cells (i : Ins) : Array Value := #[.int .i64 i.op, .int .i64 i.d, .int .i64 i.n, .int .i64 i.m, .int .i64 i.a, .int .i64 i.imm, .int .u64 (i.mask : Int), .int .i64 i.shift, .int .i64 i.amount, .int .i64 i.cond]
/-- An instruction, as it lies. -/
def At (w : World) (b : Nat) (i : Ins) : Prop := w.heap[b]? = some (.cells i.cells 25)
def ToldAt (w : World) (b : Nat) (t0 t1 t2 : Int) : Prop := w.heap[b]? = some (.cells #[.int .i64 t0, .int .i64 t1, .int .i64 t2] 119)
theorem At.cell {w : World} {b : Nat} {i : Ins} (h : At w b i) (k : Nat) : w.cell? ⟨b, k, none⟩ = i.cells[k]? := cell_of_row w b k _ 25 (0, 0) h
theorem At.frozen {w : World} {b : Nat} {i : Ins} (h : At w b i) (k : Nat) : w.frozen? ⟨b, k, none⟩ = false := frozen_of_row w b k _ 25 h
theorem At.set {w : World} {b : Nat} {i : Ins} (h : At w b i) (k : Nat) (v : Value) (i' : Ins) (e : i.cells.setIfInBounds k v = i'.cells) : At (w.setCell ⟨b, k, none⟩ v) b i' := by
  unfold At
  rw [heap_setCell_same w b k _ 25 v h, e]
theorem At.keep {w : World} {b : Nat} {i : Ins} (h : At w b i) (a : Addr) (v : Value) (hne : b ≠ a.block) : At (w.setCell a v) b i := by
  unfold At
  rw [heap_setCell_other w a b v hne]; exact h
theorem At.lt {w : World} {b : Nat} {i : Ins} (h : At w b i) : b < w.heap.size := by
  by_cases hlt : b < w.heap.size
  · exact hlt
  · unfold At at h; rw [Array.getElem?_eq_none (by omega)] at h; cases h
theorem At.below {w w' : World} {b : Nat} {i : Ins} (h : At w b i) (hb : Below w.heap.size w w') : At w' b i := (hb.block b h.lt).trans h
theorem ToldAt.cell {w : World} {b : Nat} {t0 t1 t2 : Int} (h : ToldAt w b t0 t1 t2) (k : Nat) : w.cell? ⟨b, k, none⟩ = (#[.int .i64 t0, .int .i64 t1, .int .i64 t2] : Array Value)[k]? := cell_of_row w b k _ 119 (0, 0) h
theorem ToldAt.frozen {w : World} {b : Nat} {t0 t1 t2 : Int} (h : ToldAt w b t0 t1 t2) (k : Nat) : w.frozen? ⟨b, k, none⟩ = false := frozen_of_row w b k _ 119 h
theorem ToldAt.set {w : World} {b : Nat} {t0 t1 t2 : Int} (h : ToldAt w b t0 t1 t2) (k : Nat) (v : Value) (u0 u1 u2 : Int) (e : (#[.int .i64 t0, .int .i64 t1, .int .i64 t2] : Array Value).setIfInBounds k v = #[.int .i64 u0, .int .i64 u1, .int .i64 u2]) : ToldAt (w.setCell ⟨b, k, none⟩ v) b u0 u1 u2 := by
  unfold ToldAt
  rw [heap_setCell_same w b k _ 119 v h, e]
theorem ToldAt.keep {w : World} {b : Nat} {t0 t1 t2 : Int} (h : ToldAt w b t0 t1 t2) (a : Addr) (v : Value) (hne : b ≠ a.block) : ToldAt (w.setCell a v) b t0 t1 t2 := by
  unfold ToldAt
  rw [heap_setCell_other w a b v hne]; exact h
theorem ToldAt.lt {w : World} {b : Nat} {t0 t1 t2 : Int} (h : ToldAt w b t0 t1 t2) : b < w.heap.size := by
  by_cases hlt : b < w.heap.size
  · exact hlt
  · unfold ToldAt at h; rw [Array.getElem?_eq_none (by omega)] at h; cases h
theorem ToldAt.below {w w' : World} {b : Nat} {t0 t1 t2 : Int} (h : ToldAt w b t0 t1 t2) (hb : Below w.heap.size w w') : ToldAt w' b t0 t1 t2 := (hb.block b h.lt).trans h

/-- What a part that is put leaves. -/
def PutOk (bi bt : Nat) (T : Prop) (s' : DS) (w : World) (e : Ending) (w' : World) : Prop :=
  e = .returned (.tuple #[]) ∧ Only bi bt w w' ∧ At w' bi s'.i ∧ (T → ToldAt w' bt s'.t0 s'.t1 s'.t2)
theorem put_ok {bi bt : Nat} {T : Prop} {s s' : DS} {w : World} {k : Nat} {v : Value} (hI : At w bi s.i) (hT : T → ToldAt w bt s.t0 s.t1 s.t2 ∧ bt ≠ bi) (e : s.i.cells.setIfInBounds k v = s'.i.cells) (h0 : s'.t0 = s.t0) (h1 : s'.t1 = s.t1) (h2 : s'.t2 = s.t2) {en : Ending} {w' : World}
    (h : en = .returned (.tuple #[]) ∧ w' = w.setCell ⟨bi, k, none⟩ v) : PutOk bi bt T s' w en w' := by
  obtain ⟨rfl, rfl⟩ := h
  exact ⟨rfl, Only.set w bi k v (.inl rfl), hI.set k v _ e, fun t => by rw [h0, h1, h2]; exact (hT t).1.keep _ _ (hT t).2⟩
/-- What a mask's part asks. -/
def MkOk (T : Prop) (s : DS) (v : Int) : Sel → Prop
  | .mk k => T ∧ (k = 0 ∨ k = 1 ∨ (k = 2 ∧ (s.t0 = 0 ∨ s.t0 = 1) ∧ 0 ≤ s.t1 ∧ s.t1 < 64 ∧ 0 ≤ v ∧ v < 64))
  | _ => True
theorem decM_err3 (n r s : Int) (hn : n = 0 ∨ n = 1) (h0 : 0 ≤ r) (h1 : r < 64) (h2 : 0 ≤ s) (h3 : s < 64) (h : ¬ (decM n r s).2 = 0) : (decM n r s).2 = 3 := by
  unfold decM at h ⊢
  rw [if_neg (by omega)] at h ⊢
  dsimp only at h ⊢
  generalize (if n = 0 then sizeS s else 64) = z at h ⊢
  by_cases hc : s - frontI z + 1 < 1 ∨ s - frontI z + 1 ≥ z ∨ r ≥ z
  · rw [if_pos hc]
  · rw [if_neg hc] at h; exact absurd rfl h

/-- What a part's second function asks of the memory: its blocks are apart from those that are written. -/
def SelP (w : World) (bi bt : Nat) (h : Nat) (ch : Array Value) : Sel → Prop
  | .d => h = 76 ∧ ch = #[]
  | .n => h = 82 ∧ ch = #[]
  | .m => h = 90 ∧ ch = #[]
  | .a => h = 94 ∧ ch = #[]
  | .shift => h = 92 ∧ ch = #[]
  | .cond => h = 100 ∧ ch = #[]
  | .low => h = 96 ∧ ch = #[]
  | .high => h = 98 ∧ ch = #[]
  | .imm v => h = 78 ∧ ∃ pb, ch = #[ptr pb] ∧ pb ≠ bi ∧ pb ≠ bt ∧ w.cell? ⟨pb, 0, none⟩ = some (.int .i64 v)
  | .amt v => h = 80 ∧ ∃ pb, ch = #[ptr pb] ∧ pb ≠ bi ∧ pb ≠ bt ∧ w.cell? ⟨pb, 0, none⟩ = some (.int .i64 v)
  | .mk k => h = 87 ∧ ∃ p2, ch = #[ptr bt, ptr p2] ∧ p2 ≠ bi ∧ p2 ≠ bt ∧ w.cell? ⟨p2, 0, none⟩ = some (.int .i64 k)
theorem SelP.only {w w' : World} {bi bt h : Nat} {ch : Array Value} {s : Sel} (hb : Only bi bt w w') (hs : SelP w bi bt h ch s) : SelP w' bi bt h ch s := by
  cases s with
  | imm v => obtain ⟨h1, pb, h2, n1, n2, h3⟩ := hs; exact ⟨h1, pb, h2, n1, n2, hb.cell n1 n2 h3⟩
  | amt v => obtain ⟨h1, pb, h2, n1, n2, h3⟩ := hs; exact ⟨h1, pb, h2, n1, n2, hb.cell n1 n2 h3⟩
  | mk v => obtain ⟨h1, pb, h2, n1, n2, h3⟩ := hs; exact ⟨h1, pb, h2, n1, n2, hb.cell n1 n2 h3⟩
  | _ => exact hs
theorem enters_76 (args : Array Value) (w : World) : (callFunc 76 args).run Tryd.prog w = .ok (.enter 76 args) w := by kernel_rfl
theorem enters_82 (args : Array Value) (w : World) : (callFunc 82 args).run Tryd.prog w = .ok (.enter 82 args) w := by kernel_rfl
theorem enters_90 (args : Array Value) (w : World) : (callFunc 90 args).run Tryd.prog w = .ok (.enter 90 args) w := by kernel_rfl
theorem enters_94 (args : Array Value) (w : World) : (callFunc 94 args).run Tryd.prog w = .ok (.enter 94 args) w := by kernel_rfl
theorem enters_92 (args : Array Value) (w : World) : (callFunc 92 args).run Tryd.prog w = .ok (.enter 92 args) w := by kernel_rfl
theorem enters_100 (args : Array Value) (w : World) : (callFunc 100 args).run Tryd.prog w = .ok (.enter 100 args) w := by kernel_rfl
theorem enters_96 (args : Array Value) (w : World) : (callFunc 96 args).run Tryd.prog w = .ok (.enter 96 args) w := by kernel_rfl
theorem enters_98 (args : Array Value) (w : World) : (callFunc 98 args).run Tryd.prog w = .ok (.enter 98 args) w := by kernel_rfl
theorem enters_78 (args : Array Value) (w : World) : (callFunc 78 args).run Tryd.prog w = .ok (.enter 78 args) w := by kernel_rfl
theorem enters_80 (args : Array Value) (w : World) : (callFunc 80 args).run Tryd.prog w = .ok (.enter 80 args) w := by kernel_rfl
theorem enters_87 (args : Array Value) (w : World) : (callFunc 87 args).run Tryd.prog w = .ok (.enter 87 args) w := by kernel_rfl
theorem put_enters {w : World} {bi bt h : Nat} {ch : Array Value} {s : Sel} (hs : SelP w bi bt h ch s) : ∀ (args : Array Value) (w : World), (callFunc h args).run Tryd.prog w = .ok (.enter h args) w := by
  intro args w'
  cases s with
  | d => rw [hs.1]; exact enters_76 args w'
  | n => rw [hs.1]; exact enters_82 args w'
  | m => rw [hs.1]; exact enters_90 args w'
  | a => rw [hs.1]; exact enters_94 args w'
  | shift => rw [hs.1]; exact enters_92 args w'
  | cond => rw [hs.1]; exact enters_100 args w'
  | low => rw [hs.1]; exact enters_96 args w'
  | high => rw [hs.1]; exact enters_98 args w'
  | imm v => rw [hs.1]; exact enters_78 args w'
  | amt v => rw [hs.1]; exact enters_80 args w'
  | mk v => rw [hs.1]; exact enters_87 args w'
def Sel.mkB : Sel → Bool
  | .mk _ => true
  | _ => false
def Sel.byB : Sel → Bool
  | .imm _ => true
  | .amt _ => true
  | _ => false
theorem parts_kinds : (List.range 17).all (fun s => (partsL (s : Int)).all fun p => if s = 3 then !p.sel.byB else !p.sel.mkB) = true := by decide +kernel
theorem part_kind {s : Int} (h0 : 0 ≤ s) (h1 : s ≤ 16) {p : PS} (hp : p ∈ partsL s) : (s = 3 → p.sel.byB = false) ∧ (s ≠ 3 → p.sel.mkB = false) := by
  have h := List.all_eq_true.1 parts_kinds s.toNat (List.mem_range.2 (by omega))
  rw [Int.toNat_of_nonneg h0] at h
  have h := List.all_eq_true.1 h p hp
  refine ⟨fun h3 => ?_, fun h3 => ?_⟩
  · rw [if_pos (by omega)] at h; simpa using h
  · rw [if_neg (by omega)] at h; simpa using h
theorem selP_of {w : World} {sh : Int} {n0 bi bt : Nat} {p : PD} (h0 : 0 ≤ sh) (h1 : sh ≤ 16) (hp : p.ps ∈ partsL sh) (hok : p.ok w bt) (hnew : p.new n0 bt) (hbi : bi < n0) : SelP w bi (if sh = 3 then bt else bi) p.h p.ch p.ps.sel := by
  obtain ⟨hby, hmk⟩ := part_kind h0 h1 hp
  unfold PD.ok at hok
  obtain ⟨⟨pos, nb, sign, sel⟩, g, hh, cg, ch⟩ := p
  dsimp only at hok hby hmk ⊢
  cases sel with
  | imm v =>
    obtain ⟨_, h2, pb, _, h4, h5⟩ := hok
    have h3 : sh ≠ 3 := fun e => by have := hby e; cases this
    have := hnew.1 pb h4
    rw [if_neg h3]
    exact ⟨h2, pb, h4, by omega, by omega, h5⟩
  | amt v =>
    obtain ⟨_, h2, pb, _, h4, h5⟩ := hok
    have h3 : sh ≠ 3 := fun e => by have := hby e; cases this
    have := hnew.1 pb h4
    rw [if_neg h3]
    exact ⟨h2, pb, h4, by omega, by omega, h5⟩
  | mk k =>
    obtain ⟨_, h2, p1, p2, _, h4, _, h6⟩ := hok
    have h3 : sh = 3 := by
      by_cases e : sh = 3
      · exact e
      · have := hmk e; cases this
    have := hnew.2 p2 h4
    rw [if_pos h3]
    exact ⟨h2, p2, h4, by omega, this.2, h6⟩
  | _ => exact ⟨hok.2.1, hok.2.2.2⟩

set_option maxHeartbeats 1000000 in
theorem put_some (p : PD) (bi bt : Nat) (T : Prop) (s s' : DS) (v : Int) (w : World) (hok : SelP w bi bt p.h p.ch p.ps.sel) (hI : At w bi s.i) (hT : T → ToldAt w bt s.t0 s.t1 s.t2 ∧ bt ≠ bi) (hmk : MkOk T s v p.ps.sel) (h : s.put v p.ps.sel = some s') :
    Calls Tryd.prog p.h (#[.pointer (some ⟨bi, 0, none⟩), .int .i64 v] ++ p.ch) w (PutOk bi bt T s' w) := by
  obtain ⟨⟨pos, nb, sign, sel⟩, g, hh, cg, ch⟩ := p
  dsimp only at hok hmk h ⊢
  cases sel with
  | d =>
    obtain ⟨rfl, rfl⟩ := hok
    cases h
    exact (put_76 bi v _ w (hI.cell 1) (hI.frozen 1)).mono fun e w' q => by refine put_ok hI hT ?_ ?_ ?_ ?_ q <;> rfl
  | n =>
    obtain ⟨rfl, rfl⟩ := hok
    cases h
    exact (put_82 bi v _ w (hI.cell 2) (hI.frozen 2)).mono fun e w' q => by refine put_ok hI hT ?_ ?_ ?_ ?_ q <;> rfl
  | m =>
    obtain ⟨rfl, rfl⟩ := hok
    cases h
    exact (put_90 bi v _ w (hI.cell 3) (hI.frozen 3)).mono fun e w' q => by refine put_ok hI hT ?_ ?_ ?_ ?_ q <;> rfl
  | a =>
    obtain ⟨rfl, rfl⟩ := hok
    cases h
    exact (put_94 bi v _ w (hI.cell 4) (hI.frozen 4)).mono fun e w' q => by refine put_ok hI hT ?_ ?_ ?_ ?_ q <;> rfl
  | shift =>
    obtain ⟨rfl, rfl⟩ := hok
    cases h
    exact (put_92 bi v _ w (hI.cell 7) (hI.frozen 7)).mono fun e w' q => by refine put_ok hI hT ?_ ?_ ?_ ?_ q <;> rfl
  | cond =>
    obtain ⟨rfl, rfl⟩ := hok
    cases h
    exact (put_100 bi v _ w (hI.cell 9) (hI.frozen 9)).mono fun e w' q => by refine put_ok hI hT ?_ ?_ ?_ ?_ q <;> rfl
  | low =>
    obtain ⟨rfl, rfl⟩ := hok
    cases h
    exact (put_96 bi v _ w (hI.cell 5) (hI.frozen 5)).mono fun e w' q => by refine put_ok hI hT ?_ ?_ ?_ ?_ q <;> rfl
  | high =>
    obtain ⟨rfl, rfl⟩ := hok
    cases h
    exact (put_98 bi v _ w (hI.cell 5) (hI.frozen 5)).mono fun e w' q => by refine put_ok hI hT ?_ ?_ ?_ ?_ q <;> rfl
  | imm gg =>
    obtain ⟨rfl, pb, rfl, _, _, hc⟩ := hok
    cases h
    exact (put_78 bi pb v _ gg w (hI.cell 5) (hI.frozen 5) hc).mono fun e w' q => by refine put_ok hI hT ?_ ?_ ?_ ?_ q <;> rfl
  | amt gg =>
    obtain ⟨rfl, pb, rfl, _, _, hc⟩ := hok
    cases h
    exact (put_80 bi pb v _ gg w (hI.cell 8) (hI.frozen 8) hc).mono fun e w' q => by refine put_ok hI hT ?_ ?_ ?_ ?_ q <;> rfl
  | mk k =>
    obtain ⟨rfl, p2, rfl, _, hne, c2⟩ := hok
    obtain ⟨t, hk⟩ := hmk
    obtain ⟨hTo, hb⟩ := hT t
    rcases hk with rfl | rfl | ⟨rfl, hn, r0, r1, v0, v1⟩
    · simp only [DS.put, if_true, Option.some.injEq] at h
      subst h
      refine (put_87_0 bi bt p2 v _ w c2 (hTo.cell 0) (hTo.frozen 0) hne).mono ?_
      rintro e w' ⟨rfl, rfl⟩
      exact ⟨rfl, Only.set w bt 0 _ (.inr rfl), hI.keep _ _ (fun e => hb e.symm), fun _ => hTo.set 0 _ _ _ _ rfl⟩
    · simp only [DS.put, if_true, if_false, Option.some.injEq, Int.reduceEq] at h
      subst h
      refine (put_87_1 bi bt p2 v _ w c2 (hTo.cell 1) (hTo.frozen 1) hne).mono ?_
      rintro e w' ⟨rfl, rfl⟩
      exact ⟨rfl, Only.set w bt 1 _ (.inr rfl), hI.keep _ _ (fun e => hb e.symm), fun _ => hTo.set 1 _ _ _ _ rfl⟩
    · simp only [DS.put, if_false, Int.reduceEq] at h
      by_cases hd : (decM s.t0 s.t1 v).2 = 0
      · rw [if_pos hd, Option.some.injEq] at h
        subst h
        refine (put_87_yes bi bt p2 _ _ v _ _ w c2 (hTo.cell 0) (hTo.cell 1) (hTo.cell 2) (hTo.frozen 2) hne hI.lt (hI.cell 6) (hI.frozen 6) (fun e => hb e.symm) hn r0 r1 v0 v1 (Lib.hid hd)).mono ?_
        rintro e w' ⟨rfl, w1, hb1, rfl⟩
        have hI1 : At (w.setCell ⟨bt, 2, none⟩ (.int .i64 v)) bi s.i := hI.keep _ _ (fun e => hb e.symm)
        have hT1 := hTo.set 2 (.int .i64 v) s.t0 s.t1 v rfl
        have hb1' : Below (w.setCell ⟨bt, 2, none⟩ (.int .i64 v)).heap.size (w.setCell ⟨bt, 2, none⟩ (.int .i64 v)) w1 := by
          rw [World.size_setCell]; exact hb1
        have hI2 := hI1.below hb1'
        exact ⟨rfl, ((Only.set w bt 2 _ (.inr rfl)).trans (Only.of hb1')).trans (Only.set w1 bi 6 _ (.inl rfl)), hI2.set 6 _ _ rfl, fun _ => (hT1.below hb1').keep _ _ hb⟩
      · rw [if_neg hd] at h; cases h

/-- A mask that is none: the panic. -/
theorem put_none (p : PD) (bi bt : Nat) (T : Prop) (s : DS) (v : Int) (w : World) (hok : SelP w bi bt p.h p.ch p.ps.sel) (hI : At w bi s.i) (hT : T → ToldAt w bt s.t0 s.t1 s.t2 ∧ bt ≠ bi) (hmk : MkOk T s v p.ps.sel) (h : s.put v p.ps.sel = none) :
    Calls Tryd.prog p.h (#[.pointer (some ⟨bi, 0, none⟩), .int .i64 v] ++ p.ch) w fun e w' => e = .panicked [{ v := .iface 26 (.int .i64 3), recovered := false }] ∧ Only bi bt w w' ∧ At w' bi s.i := by
  obtain ⟨⟨pos, nb, sign, sel⟩, g, hh, cg, ch⟩ := p
  dsimp only at hok hmk h ⊢
  cases sel with
  | mk k =>
    obtain ⟨rfl, p2, rfl, _, hne, c2⟩ := hok
    obtain ⟨t, hk⟩ := hmk
    obtain ⟨hTo, hb⟩ := hT t
    rcases hk with rfl | rfl | ⟨rfl, hn, r0, r1, v0, v1⟩
    · simp [DS.put] at h
    · simp [DS.put] at h
    · simp only [DS.put, if_false, Int.reduceEq] at h
      by_cases hd : (decM s.t0 s.t1 v).2 = 0
      · rw [if_pos hd] at h; cases h
      · refine (put_87_no bi bt p2 _ _ v _ 0 w c2 (hTo.cell 0) (hTo.cell 1) (hTo.cell 2) (hTo.frozen 2) hne hn r0 r1 v0 v1 (Lib.hid (decM_err3 _ _ _ hn r0 r1 v0 v1 hd))).mono ?_
        rintro e w' ⟨rfl, hb1⟩
        have hI1 : At (w.setCell ⟨bt, 2, none⟩ (.int .i64 v)) bi s.i := hI.keep _ _ (fun e => hb e.symm)
        have hb1' : Below (w.setCell ⟨bt, 2, none⟩ (.int .i64 v)).heap.size (w.setCell ⟨bt, 2, none⟩ (.int .i64 v)) w' := by
          rw [World.size_setCell]; exact hb1
        exact ⟨rfl, (Only.set w bt 2 _ (.inr rfl)).trans (Only.of hb1'), hI1.below hb1'⟩
  | _ => simp [DS.put] at h

/-- What is told is in its bounds. -/
def DS.bd (s : DS) : Prop := (s.t0 = 0 ∨ s.t0 = 1) ∧ 0 ≤ s.t1 ∧ s.t1 < 64
theorem mk_parts {p : PS} (hp : p ∈ partsL 3) {k : Int} (hk : p.sel = .mk k) (x : Nat) : (k = 0 ∧ 0 ≤ p.get x ∧ p.get x < 2) ∨ ((k = 1 ∨ k = 2) ∧ 0 ≤ p.get x ∧ p.get x < 64) := by
  simp only [partsL, Int.reduceEq, if_false, if_true, List.mem_cons, List.not_mem_nil, or_false] at hp
  rcases hp with rfl | rfl | rfl | rfl | rfl
  · cases hk; left; rw [get_nat]; have : fieldN x (22 : Int).toNat (1 : Int).toNat < 2 ^ 1 := field_lt _ _ _; omega
  · cases hk; right; rw [get_nat]; have : fieldN x (16 : Int).toNat (6 : Int).toNat < 2 ^ 6 := field_lt _ _ _; omega
  · cases hk; right; rw [get_nat]; have : fieldN x (10 : Int).toNat (6 : Int).toNat < 2 ^ 6 := field_lt _ _ _; omega
  · cases hk
  · cases hk
theorem mkOk_of {sh : Int} (h0 : 0 ≤ sh) (h1 : sh ≤ 16) {p : PS} (hp : p ∈ partsL sh) (x : Nat) (s : DS) (hs : sh = 3 → s.bd) : MkOk (sh = 3) s (p.get x) p.sel := by
  cases hk : p.sel with
  | mk k =>
    have h3 : sh = 3 := by
      by_cases e : sh = 3
      · exact e
      · have := (part_kind h0 h1 hp).2 e; rw [hk] at this; cases this
    obtain ⟨b0, b1, b2⟩ := hs h3
    subst h3
    have := mk_parts hp hk x
    exact ⟨rfl, by omega⟩
  | _ => trivial
theorem bd_put {sh : Int} {p : PS} (hp : p ∈ partsL sh) (x : Nat) (s s' : DS) (hs : sh = 3 → s.bd) (h : s.put (p.get x) p.sel = some s') : sh = 3 → s'.bd := by
  intro h3
  have hb := hs h3
  subst h3
  cases hk : p.sel with
  | mk k =>
    have hm := mk_parts hp hk x
    rw [hk] at h
    obtain ⟨b0, b1, b2⟩ := hb
    unfold DS.put at h
    dsimp only at h
    by_cases k0 : k = 0
    · rw [if_pos k0] at h; cases h; exact ⟨by dsimp only; omega, b1, b2⟩
    · rw [if_neg k0] at h
      by_cases k1 : k = 1
      · rw [if_pos k1] at h; cases h; exact ⟨b0, by dsimp only; omega, by dsimp only; omega⟩
      · rw [if_neg k1] at h
        by_cases hd : (decM s.t0 s.t1 (p.get x)).2 = 0
        · rw [if_pos hd] at h; cases h; exact ⟨b0, b1, b2⟩
        · rw [if_neg hd] at h; cases h
  | _ => rw [hk] at h; cases h; exact hb
end Go.Proofs.YtdjdbgilimjagaaDoor
