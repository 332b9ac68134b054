/- An instruction as an argument of a row: its ten numbers; an argument read again behind the call. No condition. -/
import Derived.Test.YtdjdbgilimjagaaDoorRowD
import Derived.Test.YtdjdbgilimjagaaDoorCodeN
set_option linter.unusedVariables false
set_option linter.unusedSimpArgs false
namespace Go.Proofs.YtdjdbgilimjagaaDoor
open Go.ChangeShapes Go.WideShapes Go.ChangeAt Go.RowKit
set_option maxRecDepth 100000

theorem laidOut : laidOutB Tryd.prog = true := by kernel_rfl
theorem cells25 : Tryd.prog.cellsOf 25 = 10 := by kernel_rfl
theorem cells3 : Tryd.prog.cellsOf 3 = 1 := by kernel_rfl
theorem cells23 : Tryd.prog.cellsOf 23 = 1 := by kernel_rfl
theorem array10 {α : Type} {cs : Array α} (h : cs.size = 10) : ∃ c0 c1 c2 c3 c4 c5 c6 c7 c8 c9, cs = #[c0, c1, c2, c3, c4, c5, c6, c7, c8, c9] := by
  obtain ⟨l⟩ := cs
  match l, h with
  | [c0, c1, c2, c3, c4, c5, c6, c7, c8, c9], _ => exact ⟨c0, c1, c2, c3, c4, c5, c6, c7, c8, c9, rfl⟩
theorem list10 {α : Type} {cs : List α} (h : cs.length = 10) : ∃ c0 c1 c2 c3 c4 c5 c6 c7 c8 c9, cs = [c0, c1, c2, c3, c4, c5, c6, c7, c8, c9] := by
  match cs, h with
  | [c0, c1, c2, c3, c4, c5, c6, c7, c8, c9], _ => exact ⟨c0, c1, c2, c3, c4, c5, c6, c7, c8, c9, rfl⟩
theorem one_int {H : Type} {enc : TypeId × Value → H} {base n : Nat} {spare : Nat → Bool} {held : Bool} {W : World} {t : TypeId} {k : IntKind} {c : Value} {y : DataW H × List MemPlace} (ht : Tryd.prog.underlying t = some (.int k))
    (h : DataW.trod enc Tryd.prog W base spare held n t [c] = some y) : ∃ z, c = .int k z ∧ y.2 = [] ∧ (Lit.int k z).wf = true := by
  obtain ⟨z, e0, rfl, w⟩ := DataW.trod_int ht h
  exact ⟨z, by simpa using e0, rfl, w⟩
/-- An instruction that came in: its ten numbers. -/
theorem open_inst {H : Type} {enc : TypeId × Value → H} {r : Reach} {b0 base : Nat} {spare : Nat → Bool} {held : Bool} {W : World} {v : Value} {d : DataW H} {p : List MemPlace}
    (hv : Value.okWide Tryd.prog W r b0 25 v) (h : DataW.Trod enc Tryd.prog W base spare held 25 v d p) : ∃ i : Ins, v = .agg i.cells ∧ i.mask < 18446744073709551616 ∧ p = [] := by
  obtain ⟨cs, rfl, hsz⟩ := okWide_struct Tryd.underlying25 hv
  obtain ⟨c0, c1, c2, c3, c4, c5, c6, c7, c8, c9, rfl⟩ := array10 (hsz.trans cells25)
  obtain ⟨fuel, hf⟩ := h
  obtain ⟨xs, n, _, hx, hl, hlen, hg⟩ := DataW.trod_struct Tryd.underlying25 hf
  obtain ⟨y0, y1, y2, y3, y4, y5, y6, y7, y8, y9, rfl⟩ := list10 hlen
  have g0 : DataW.trod enc Tryd.prog W base spare held n 3 (List.take (Tryd.prog.cellsOf 3) (List.drop 0 [c0, c1, c2, c3, c4, c5, c6, c7, c8, c9])) = some y0 := hg 0 _ rfl
  have g1 : DataW.trod enc Tryd.prog W base spare held n 3 (List.take (Tryd.prog.cellsOf 3) (List.drop 1 [c0, c1, c2, c3, c4, c5, c6, c7, c8, c9])) = some y1 := hg 1 _ rfl
  have g2 : DataW.trod enc Tryd.prog W base spare held n 3 (List.take (Tryd.prog.cellsOf 3) (List.drop 2 [c0, c1, c2, c3, c4, c5, c6, c7, c8, c9])) = some y2 := hg 2 _ rfl
  have g3 : DataW.trod enc Tryd.prog W base spare held n 3 (List.take (Tryd.prog.cellsOf 3) (List.drop 3 [c0, c1, c2, c3, c4, c5, c6, c7, c8, c9])) = some y3 := hg 3 _ rfl
  have g4 : DataW.trod enc Tryd.prog W base spare held n 3 (List.take (Tryd.prog.cellsOf 3) (List.drop 4 [c0, c1, c2, c3, c4, c5, c6, c7, c8, c9])) = some y4 := hg 4 _ rfl
  have g5 : DataW.trod enc Tryd.prog W base spare held n 3 (List.take (Tryd.prog.cellsOf 3) (List.drop 5 [c0, c1, c2, c3, c4, c5, c6, c7, c8, c9])) = some y5 := hg 5 _ rfl
  have g6 : DataW.trod enc Tryd.prog W base spare held n 23 (List.take (Tryd.prog.cellsOf 23) (List.drop 6 [c0, c1, c2, c3, c4, c5, c6, c7, c8, c9])) = some y6 := hg 6 _ rfl
  have g7 : DataW.trod enc Tryd.prog W base spare held n 3 (List.take (Tryd.prog.cellsOf 3) (List.drop 7 [c0, c1, c2, c3, c4, c5, c6, c7, c8, c9])) = some y7 := hg 7 _ rfl
  have g8 : DataW.trod enc Tryd.prog W base spare held n 3 (List.take (Tryd.prog.cellsOf 3) (List.drop 8 [c0, c1, c2, c3, c4, c5, c6, c7, c8, c9])) = some y8 := hg 8 _ rfl
  have g9 : DataW.trod enc Tryd.prog W base spare held n 3 (List.take (Tryd.prog.cellsOf 3) (List.drop 9 [c0, c1, c2, c3, c4, c5, c6, c7, c8, c9])) = some y9 := hg 9 _ rfl
  clear hg hl hlen hf hv hsz
  rw [cells3] at g0 g1 g2 g3 g4 g5 g7 g8 g9
  rw [cells23] at g6
  obtain ⟨z0, rfl, p0, _⟩ := one_int Tryd.underlying3 (show DataW.trod enc Tryd.prog W base spare held n 3 [c0] = some y0 from g0)
  obtain ⟨z1, rfl, p1, _⟩ := one_int Tryd.underlying3 (show DataW.trod enc Tryd.prog W base spare held n 3 [c1] = some y1 from g1)
  obtain ⟨z2, rfl, p2, _⟩ := one_int Tryd.underlying3 (show DataW.trod enc Tryd.prog W base spare held n 3 [c2] = some y2 from g2)
  obtain ⟨z3, rfl, p3, _⟩ := one_int Tryd.underlying3 (show DataW.trod enc Tryd.prog W base spare held n 3 [c3] = some y3 from g3)
  obtain ⟨z4, rfl, p4, _⟩ := one_int Tryd.underlying3 (show DataW.trod enc Tryd.prog W base spare held n 3 [c4] = some y4 from g4)
  obtain ⟨z5, rfl, p5, _⟩ := one_int Tryd.underlying3 (show DataW.trod enc Tryd.prog W base spare held n 3 [c5] = some y5 from g5)
  obtain ⟨z6, rfl, p6, w6⟩ := one_int Tryd.underlying23 (show DataW.trod enc Tryd.prog W base spare held n 23 [c6] = some y6 from g6)
  obtain ⟨z7, rfl, p7, _⟩ := one_int Tryd.underlying3 (show DataW.trod enc Tryd.prog W base spare held n 3 [c7] = some y7 from g7)
  obtain ⟨z8, rfl, p8, _⟩ := one_int Tryd.underlying3 (show DataW.trod enc Tryd.prog W base spare held n 3 [c8] = some y8 from g8)
  obtain ⟨z9, rfl, p9, _⟩ := one_int Tryd.underlying3 (show DataW.trod enc Tryd.prog W base spare held n 3 [c9] = some y9 from g9)
  have b6 := bounds_u64 w6
  obtain ⟨M, rfl⟩ : ∃ M : Nat, z6 = (M : Int) := ⟨z6.toNat, by omega⟩
  refine ⟨⟨z0, z1, z2, z3, z4, z5, M, z7, z8, z9⟩, rfl, (by show M < 18446744073709551616; omega), ?_⟩
  have := congrArg Prod.snd hx
  simpa [p0, p1, p2, p3, p4, p5, p6, p7, p8, p9] using this

/-- An argument reads behind the call as it read. -/
theorem stays {H : Type} {enc : TypeId × Value → H} {t : TypeId} (hr : Tryd.prog.readableRec t = true) (hrow : t < Tryd.prog.types.size) {W W' : World} {sp : Nat → Bool} {v : Value} {d : DataW H} {ps : List MemPlace}
    (h : DataW.Trod enc Tryd.prog W 0 (fun _ => true) true t v d ps) (hb : Below W.heap.size W W') (hlt : ∀ x ∈ ps, x.block < W.heap.size) (hs : ∀ p ∈ ps, sp p.block = true) : DataW.Trod enc Tryd.prog W' 0 sp true t v d ps :=
  WideElems.Trod_stays laidOut hr hrow h (fun x hx => hb.same (hlt x hx)) hs
end Go.Proofs.YtdjdbgilimjagaaDoor
