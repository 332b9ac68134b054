/- A row of operations that leaves the world alone is run by the kernel, and the walk goes on behind it. No condition. -/
import Derived.Test.YtdjdbgilimjagaaDoorRows
import Derived.WalkKit
import Derived.WalkSpells
import Derived.WalkLawsBesides
import Derived.Laws.EntriesVeiled
set_option linter.unusedVariables false
set_option linter.unusedSimpArgs false
namespace Go.Proofs.YtdjdbgilimjagaaDoor
open Go.RowKit

/-- Operations, one by one, as long as each gives a value. -/
def runL (P : Program) (ops : Array Oper) : List Oper → Act → World → Option (Act × World)
  | [], a, w => some (a, w)
  | o :: rest, a, w =>
    if Region.wanted o (yielded ops a.tmps) then
      match (execOp a.eval o).run P w with
      | .ok (.value v) w' => runL P ops rest (a.put o.dst v) w'
      | .ok .skip w' => runL P ops rest (a.put o.dst undef) w'
      | _ => none
    else runL P ops rest (a.put o.dst undef) w

theorem wpList_run {P : Program} {ops : Array Oper} {Q : Exit → Act → World → Prop} (l2 : List Oper) : ∀ (l1 : List Oper) {a : Act} {w : World} {a' : Act} {w' : World},
    runL P ops l1 a w = some (a', w') → wpList P ops Q l2 a' w' → wpList P ops Q (l1 ++ l2) a w := by
  intro l1
  induction l1 with
  | nil => intro a w a' w' h k; simp only [runL, Option.some.injEq, Prod.mk.injEq] at h; obtain ⟨rfl, rfl⟩ := h; exact k
  | cons o l ih =>
    intro a w a' w' h k
    rw [List.cons_append]
    unfold wpList
    unfold runL at h
    by_cases hw : Region.wanted o (yielded ops a.tmps) = true
    · rw [if_pos hw] at h ⊢
      left
      unfold Oper.wp
      split at h
      · rename_i v w1 he; rw [he]; exact ih h k
      · rename_i w1 he; rw [he]; exact ih h k
      · cases h
    · rw [if_neg hw] at h ⊢
      exact ih h k

/-- The first n operations, run; of the frame behind them two slots are known. -/
theorem wpList_to {P : Program} {ops : Array Oper} {Q : Exit → Act → World → Prop} {l : List Oper} {a : Act} {w : World} (n t r : Nat) (v p : Value)
    (h : (runL P ops (l.take n) a w).map (fun x => (x.1.tmps[t]?, x.1.tmps[r]?, x.1.defers, x.2)) = some (some v, some p, [], w))
    (k : ∀ tm : Array Value, tm[t]? = some v → tm[r]? = some p → wpList P ops Q (l.drop n) { tmps := tm, defers := [] } w) : wpList P ops Q l a w := by
  cases hr : runL P ops (l.take n) a w with
  | none => rw [hr] at h; cases h
  | some x =>
    obtain ⟨⟨tm, ds⟩, w'⟩ := x
    rw [hr] at h
    simp only [Option.map_some, Option.some.injEq, Prod.mk.injEq] at h
    obtain ⟨h1, h2, h3, h4⟩ := h
    subst h3; subst h4
    have := wpList_run (Q := Q) (l.drop n) (l.take n) hr (k tm h1 h2)
    rwa [List.take_append_drop] at this
end Go.Proofs.YtdjdbgilimjagaaDoor
