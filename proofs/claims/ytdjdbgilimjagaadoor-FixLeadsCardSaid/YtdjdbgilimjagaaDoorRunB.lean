/- A table that a function lays and hands back: its last store, and the result. No condition. -/
import Derived.Test.YtdjdbgilimjagaaDoorRun
import Derived.Deep.WholeRow
set_option linter.unusedVariables false
set_option linter.unusedSimpArgs false
namespace Go.Proofs.YtdjdbgilimjagaaDoor
open Go.RowKit

theorem wpList_store_table {P : Program} {ops : Array Oper} {Q : Exit → Act → World → Prop} {tm : Array Value} {w : World} {o : Oper} (t r T : Nat) (C0 C : Array Value)
    (h1 : tm[t]? = some (.agg C)) (h2 : tm[r]? = some (.pointer (some ⟨w.heap.size, 0, none⟩))) (ho : o.op = .store T (.tmp r) (.tmp t)) (hg : o.guard = none) (hd : o.dst = none)
    (hi : (P.info? T).map (·.size) = some C.size) (hs : C0.size = C.size) (hc : C.all (·.oneCell') = true)
    (hk : Q .normal { tmps := tm, defers := [] } (w.alloc (.cells C T))) : wpList P ops Q [o] { tmps := tm, defers := [] } (w.alloc (.cells C0 T)) := by
  unfold wpList
  have hw : Region.wanted o (yielded ops tm) = true := by simp only [Region.wanted, hg]
  rw [if_pos hw]
  left
  unfold Oper.wp
  have e1 : Act.eval { tmps := tm, defers := [] } (.tmp t) = .agg C := by simp only [Act.eval]; rw [Array.getD_eq_getD_getElem?, h1]; rfl
  have e2 : Act.eval { tmps := tm, defers := [] } (.tmp r) = .pointer (some ⟨w.heap.size, 0, none⟩) := by simp only [Act.eval]; rw [Array.getD_eq_getD_getElem?, h2]; rfl
  have hrun : (execOp (Act.eval { tmps := tm, defers := [] }) o).run P (w.alloc (.cells C0 T)) = .ok .skip (w.alloc (.cells C T)) := by
    unfold execOp
    rw [ho]
    simp only [e1, e2, Sem.run_bind, Sem.run_pure, run_storeAt_new w T C0 C hi hs hc, Result.andThen]
  rw [hrun]
  show wpList P ops Q [] _ _
  unfold wpList
  unfold Act.put
  rw [hd]
  exact hk

theorem results_table {P : Program} {fn : Func} {p : Tmp} {ty : TypeId} (h : fn.results = #[.cell p ty]) (tm : Array Value) (w : World) (cs : Array Value) (d : TypeDesc)
    (hp : tm[p]? = some (.pointer (some ⟨w.heap.size, 0, none⟩)))
    (hu : P.underlying ty = some d) (hd : (match d with | .struct _ | .array _ _ => true | _ => false) = true) (hi : (P.info? ty).map (·.size) = some cs.size) :
    (results fn tm).run P (w.alloc (.cells cs ty)) = .ok (.agg cs) (w.alloc (.cells cs ty)) :=
  results_cell_row h tm _ w.heap.size ty cs (0, 0) d (by rw [Array.getD_eq_getD_getElem?, hp]; rfl) (heap_alloc_new w _) hu hd hi
end Go.Proofs.YtdjdbgilimjagaaDoor
