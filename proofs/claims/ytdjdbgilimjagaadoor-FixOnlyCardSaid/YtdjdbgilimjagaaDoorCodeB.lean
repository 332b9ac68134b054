/- Layer 5 of the program, walked: the parts of instructions, made. No condition. -/
import Derived.Test.YtdjdbgilimjagaaDoorCodeA
import Derived.Maps.AppendAt
set_option linter.unusedVariables false
set_option linter.unusedSimpArgs false
namespace Go.Proofs.YtdjdbgilimjagaaDoor
open Go.RowKit
set_option maxRecDepth 100000

theorem mkf : ∀ (fn : Fn) (first cap : Array Value) (w : World), (Instr.makeFunc fn first cap).run Tryd.prog w = .ok (.func fn first cap) w := fun _ _ _ _ => rfl
theorem balloc0 (a : World) (o : Obj) : Below a.heap.size a (a.alloc o) := (Below.refl _ _).alloc (Nat.le_refl _) _
theorem heap_at (w : World) (o : Obj) (n : Nat) (h : n = w.heap.size) : (w.alloc o).heap[n]? = some o := by subst h; exact heap_alloc_new w o
def ptr (b : Nat) : Value := .pointer (some ⟨b, 0, none⟩)
/-- A part, as its five cells. -/
def partV (at_ n : Int) (g h : Nat) (cg ch : Array Value) (sign : Bool) : List Value :=
  [.int .i64 at_, .int .i64 n, .func (Fn.func g) #[] cg, .func (Fn.func h) #[] ch, .bool sign]

theorem make_56 (w : World) : Calls Tryd.prog 56 #[] w fun e w' => e = .returned (.agg #[.int .i64 0, .int .i64 5, .func (Fn.func 75) #[] #[], .func (Fn.func 76) #[] #[], .bool false]) ∧ Below w.heap.size w w' := by
  go_enter Tryd.func56, Tryd.ntmps56
  go_wp2
  exact bodyPost_ret (v := .agg #[.int .i64 0, .int .i64 5, .func (Fn.func 75) #[] #[], .func (Fn.func 76) #[] #[], .bool false]) (by simp [results, Tryd.results56, go_sem]) rfl ⟨rfl, (Below.refl _ _).alloc (Nat.le_refl _) _⟩

theorem make_59 (w : World) : Calls Tryd.prog 59 #[] w fun e w' => e = .returned (.agg #[.int .i64 5, .int .i64 5, .func (Fn.func 81) #[] #[], .func (Fn.func 82) #[] #[], .bool false]) ∧ Below w.heap.size w w' := by
  go_enter Tryd.func59, Tryd.ntmps59
  go_wp2
  exact bodyPost_ret (v := .agg #[.int .i64 5, .int .i64 5, .func (Fn.func 81) #[] #[], .func (Fn.func 82) #[] #[], .bool false]) (by simp [results, Tryd.results59, go_sem]) rfl ⟨rfl, (Below.refl _ _).alloc (Nat.le_refl _) _⟩

theorem make_61 (w : World) : Calls Tryd.prog 61 #[] w fun e w' => e = .returned (.agg #[.int .i64 16, .int .i64 5, .func (Fn.func 89) #[] #[], .func (Fn.func 90) #[] #[], .bool false]) ∧ Below w.heap.size w w' := by
  go_enter Tryd.func61, Tryd.ntmps61
  go_wp2
  exact bodyPost_ret (v := .agg #[.int .i64 16, .int .i64 5, .func (Fn.func 89) #[] #[], .func (Fn.func 90) #[] #[], .bool false]) (by simp [results, Tryd.results61, go_sem]) rfl ⟨rfl, (Below.refl _ _).alloc (Nat.le_refl _) _⟩

theorem make_63 (w : World) : Calls Tryd.prog 63 #[] w fun e w' => e = .returned (.agg #[.int .i64 10, .int .i64 5, .func (Fn.func 93) #[] #[], .func (Fn.func 94) #[] #[], .bool false]) ∧ Below w.heap.size w w' := by
  go_enter Tryd.func63, Tryd.ntmps63
  go_wp2
  exact bodyPost_ret (v := .agg #[.int .i64 10, .int .i64 5, .func (Fn.func 93) #[] #[], .func (Fn.func 94) #[] #[], .bool false]) (by simp [results, Tryd.results63, go_sem]) rfl ⟨rfl, (Below.refl _ _).alloc (Nat.le_refl _) _⟩

theorem make_62 (w : World) : Calls Tryd.prog 62 #[] w fun e w' => e = .returned (.agg #[.int .i64 22, .int .i64 2, .func (Fn.func 91) #[] #[], .func (Fn.func 92) #[] #[], .bool false]) ∧ Below w.heap.size w w' := by
  go_enter Tryd.func62, Tryd.ntmps62
  go_wp2
  exact bodyPost_ret (v := .agg #[.int .i64 22, .int .i64 2, .func (Fn.func 91) #[] #[], .func (Fn.func 92) #[] #[], .bool false]) (by simp [results, Tryd.results62, go_sem]) rfl ⟨rfl, (Below.refl _ _).alloc (Nat.le_refl _) _⟩

theorem make_65 (p : Int) (w : World) : Calls Tryd.prog 65 #[.int .i64 p] w fun e w' => e = .returned (.agg #[.int .i64 p, .int .i64 4, .func (Fn.func 99) #[] #[], .func (Fn.func 100) #[] #[], .bool false]) ∧ Below w.heap.size w w' := by
  go_enter Tryd.func65, Tryd.ntmps65
  go_wp2
  exact bodyPost_ret (v := .agg #[.int .i64 p, .int .i64 4, .func (Fn.func 99) #[] #[], .func (Fn.func 100) #[] #[], .bool false]) (by simp [results, Tryd.results65, go_sem]) rfl ⟨rfl, (Below.refl _ _).alloc (Nat.le_refl _) _⟩

theorem make_57 (p n g : Int) (sg : Bool) (w : World) : Calls Tryd.prog 57 #[.int .i64 p, .int .i64 n, .int .i64 g, .bool sg] w fun e w' => e = .returned (.agg #[.int .i64 p, .int .i64 n, .func (Fn.func 77) #[] #[.pointer (some ⟨w.heap.size, 0, none⟩)], .func (Fn.func 78) #[] #[.pointer (some ⟨w.heap.size, 0, none⟩)], .bool sg]) ∧ Below w.heap.size w w' ∧ w'.cell? ⟨w.heap.size, 0, none⟩ = some (.int .i64 g) ∧ w.heap.size < w'.heap.size := by
  have hmf := mkf
  go_enter Tryd.func57, Tryd.ntmps57
  go_wp2
  exact bodyPost_ret (v := .agg #[.int .i64 p, .int .i64 n, .func (Fn.func 77) #[] #[.pointer (some ⟨w.heap.size, 0, none⟩)], .func (Fn.func 78) #[] #[.pointer (some ⟨w.heap.size, 0, none⟩)], .bool sg]) (by simp [results, Tryd.results57, go_sem]) rfl ⟨rfl, ((Below.refl _ _).alloc (Nat.le_refl _) _).alloc (by simp) _, by simp [go_sem], by simp; omega⟩

theorem make_58 (p n g : Int) (w : World) : Calls Tryd.prog 58 #[.int .i64 p, .int .i64 n, .int .i64 g] w fun e w' => e = .returned (.agg #[.int .i64 p, .int .i64 n, .func (Fn.func 79) #[] #[.pointer (some ⟨w.heap.size, 0, none⟩)], .func (Fn.func 80) #[] #[.pointer (some ⟨w.heap.size, 0, none⟩)], .bool false]) ∧ Below w.heap.size w w' ∧ w'.cell? ⟨w.heap.size, 0, none⟩ = some (.int .i64 g) ∧ w.heap.size < w'.heap.size := by
  have hmf := mkf
  go_enter Tryd.func58, Tryd.ntmps58
  go_wp2
  exact bodyPost_ret (v := .agg #[.int .i64 p, .int .i64 n, .func (Fn.func 79) #[] #[.pointer (some ⟨w.heap.size, 0, none⟩)], .func (Fn.func 80) #[] #[.pointer (some ⟨w.heap.size, 0, none⟩)], .bool false]) (by simp [results, Tryd.results58, go_sem]) rfl ⟨rfl, ((Below.refl _ _).alloc (Nat.le_refl _) _).alloc (by simp) _, by simp [go_sem], by simp; omega⟩

theorem make_64 (w : World) : Calls Tryd.prog 64 #[] w fun e w' => ∃ b, e = .returned (.slice (some ⟨b, 0, none⟩) 2 2) ∧ Below w.heap.size w w' ∧ w.heap.size ≤ b ∧ w'.heap[b]? = some (.cells (partV 29 2 95 96 #[] #[] false ++ partV 5 19 97 98 #[] #[] true).toArray 64) := by
  go_enter Tryd.func64, Tryd.ntmps64
  go_wp2
  go_ret
  exact ⟨_, rfl, ((balloc0 w _).alloc (by simp) _).alloc (by simp; omega) _, by omega, heap_at _ _ _ (by simp)⟩
end Go.Proofs.YtdjdbgilimjagaaDoor
