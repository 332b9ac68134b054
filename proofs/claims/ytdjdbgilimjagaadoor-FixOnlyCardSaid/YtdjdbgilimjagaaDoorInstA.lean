/- Layers 4 and 5 of the program, walked: the tables of operations. No condition. -/
import Derived.Test.YtdjdbgilimjagaaDoorRunB
import Derived.Test.YtdjdbgilimjagaaDoorSpecI
set_option linter.unusedVariables false
set_option linter.unusedSimpArgs false
namespace Go.Proofs.YtdjdbgilimjagaaDoor
open Go.RowKit
set_option maxRecDepth 100000

def opsC : Array Value := #[.string ⟨#[]⟩, .int .i64 0, .string ⟨#[109, 111, 118, 122]⟩, .int .i64 1, .string ⟨#[109, 111, 118, 110]⟩, .int .i64 1, .string ⟨#[109, 111, 118, 107]⟩, .int .i64 1, .string ⟨#[97, 100, 100]⟩, .int .i64 2, .string ⟨#[115, 117, 98]⟩, .int .i64 2, .string ⟨#[97, 100, 100, 115]⟩, .int .i64 2, .string ⟨#[115, 117, 98, 115]⟩, .int .i64 2, .string ⟨#[97, 110, 100]⟩, .int .i64 3, .string ⟨#[111, 114, 114]⟩, .int .i64 3, .string ⟨#[101, 111, 114]⟩, .int .i64 3, .string ⟨#[97, 110, 100, 115]⟩, .int .i64 3, .string ⟨#[97, 100, 100]⟩, .int .i64 4, .string ⟨#[115, 117, 98]⟩, .int .i64 4, .string ⟨#[97, 100, 100, 115]⟩, .int .i64 4, .string ⟨#[115, 117, 98, 115]⟩, .int .i64 4, .string ⟨#[97, 110, 100]⟩, .int .i64 5, .string ⟨#[111, 114, 114]⟩, .int .i64 5, .string ⟨#[101, 111, 114]⟩, .int .i64 5, .string ⟨#[97, 110, 100, 115]⟩, .int .i64 5, .string ⟨#[109, 97, 100, 100]⟩, .int .i64 6, .string ⟨#[109, 115, 117, 98]⟩, .int .i64 6, .string ⟨#[108, 100, 114]⟩, .int .i64 7, .string ⟨#[115, 116, 114]⟩, .int .i64 7, .string ⟨#[108, 100, 114, 98]⟩, .int .i64 8, .string ⟨#[115, 116, 114, 98]⟩, .int .i64 8, .string ⟨#[108, 100, 114]⟩, .int .i64 9, .string ⟨#[97, 100, 114]⟩, .int .i64 10, .string ⟨#[97, 100, 114, 112]⟩, .int .i64 10, .string ⟨#[98]⟩, .int .i64 11, .string ⟨#[98, 108]⟩, .int .i64 11, .string ⟨#[98]⟩, .int .i64 12, .string ⟨#[99, 98, 122]⟩, .int .i64 9, .string ⟨#[99, 98, 110, 122]⟩, .int .i64 9, .string ⟨#[98, 114]⟩, .int .i64 13, .string ⟨#[98, 108, 114]⟩, .int .i64 13, .string ⟨#[114, 101, 116]⟩, .int .i64 13, .string ⟨#[115, 118, 99]⟩, .int .i64 14, .string ⟨#[110, 111, 112]⟩, .int .i64 15, .string ⟨#[99, 115, 101, 108]⟩, .int .i64 16]
def opsV : Value := .agg opsC
set_option maxHeartbeats 400000 in
theorem ops_any (w : World) : Calls Tryd.prog 43 #[] w fun e w' => e = .returned opsV ∧ Below w.heap.size w w' := by
  go_enter Tryd.func43, Tryd.ntmps43
  iterate 11 go_step
  refine wpList_to 41 41 0 opsV (.pointer (some ⟨w.heap.size, 0, none⟩)) (by kernel_rfl) ?_
  intro tm h20 h2
  simp only [List.drop]
  refine wpList_store_table 41 0 86 _ opsC h20 h2 rfl rfl rfl (by kernel_rfl) (by kernel_rfl) (by kernel_rfl) ?_
  go_wp2
  exact bodyPost_ret (results_table Tryd.results43 tm w opsC _ h2 Tryd.underlying86 rfl (by kernel_rfl)) rfl ⟨rfl, (Below.refl _ _).alloc (Nat.le_refl _) _⟩

def basesC : Array Value := #[.int .u32 0, .int .u32 3531603968, .int .u32 2457862144, .int .u32 4068474880, .int .u32 2432696320, .int .u32 3506438144, .int .u32 2969567232, .int .u32 4043309056, .int .u32 2449473536, .int .u32 2986344448, .int .u32 3523215360, .int .u32 4060086272, .int .u32 2332033024, .int .u32 3405774848, .int .u32 2868903936, .int .u32 3942645760, .int .u32 2315255808, .int .u32 2852126720, .int .u32 3388997632, .int .u32 3925868544, .int .u32 2600468480, .int .u32 2600501248, .int .u32 4181721088, .int .u32 4177526784, .int .u32 960495616, .int .u32 956301312, .int .u32 1476395008, .int .u32 268435456, .int .u32 2415919104, .int .u32 335544320, .int .u32 2483027968, .int .u32 1409286144, .int .u32 3019898880, .int .u32 3036676096, .int .u32 3592355840, .int .u32 3594452992, .int .u32 3596550144, .int .u32 3556769793, .int .u32 3573751839, .int .u32 2592079872]
def basesV : Value := .agg basesC
set_option maxHeartbeats 400000 in
theorem bases_any (w : World) : Calls Tryd.prog 36 #[] w fun e w' => e = .returned basesV ∧ Below w.heap.size w w' := by
  go_enter Tryd.func36, Tryd.ntmps36
  iterate 11 go_step
  refine wpList_to 1 1 0 basesV (.pointer (some ⟨w.heap.size, 0, none⟩)) (by kernel_rfl) ?_
  intro tm h20 h2
  simp only [List.drop]
  refine wpList_store_table 1 0 74 _ basesC h20 h2 rfl rfl rfl (by kernel_rfl) (by kernel_rfl) (by kernel_rfl) ?_
  go_wp2
  exact bodyPost_ret (results_table Tryd.results36 tm w basesC _ h2 Tryd.underlying74 rfl (by kernel_rfl)) rfl ⟨rfl, (Below.refl _ _).alloc (Nat.le_refl _) _⟩

def nameL : List (List UInt8) := [[], [109, 111, 118, 122], [109, 111, 118, 110], [109, 111, 118, 107], [97, 100, 100], [115, 117, 98], [97, 100, 100, 115], [115, 117, 98, 115], [97, 110, 100], [111, 114, 114], [101, 111, 114], [97, 110, 100, 115], [97, 100, 100], [115, 117, 98], [97, 100, 100, 115], [115, 117, 98, 115], [97, 110, 100], [111, 114, 114], [101, 111, 114], [97, 110, 100, 115], [109, 97, 100, 100], [109, 115, 117, 98], [108, 100, 114], [115, 116, 114], [108, 100, 114, 98], [115, 116, 114, 98], [108, 100, 114], [97, 100, 114], [97, 100, 114, 112], [98], [98, 108], [98], [99, 98, 122], [99, 98, 110, 122], [98, 114], [98, 108, 114], [114, 101, 116], [115, 118, 99], [110, 111, 112], [99, 115, 101, 108]]
def nameB (op : Int) : ByteArray := ⟨(nameL.getD op.toNat []).toArray⟩
theorem ops_index (op : Int) (h0 : 0 ≤ op) (h1 : op ≤ 39) : ∀ w : World, (Instr.index 86 opsV (.int .i64 op)).run Tryd.prog w = .ok (.agg #[.string (nameB op), .int .i64 (shapeL.getD op.toNat 0)]) w := by
  rcases (show op = 0 ∨ op = 1 ∨ op = 2 ∨ op = 3 ∨ op = 4 ∨ op = 5 ∨ op = 6 ∨ op = 7 ∨ op = 8 ∨ op = 9 ∨ op = 10 ∨ op = 11 ∨ op = 12 ∨ op = 13 ∨ op = 14 ∨ op = 15 ∨ op = 16 ∨ op = 17 ∨ op = 18 ∨ op = 19 ∨ op = 20 ∨ op = 21 ∨ op = 22 ∨ op = 23 ∨ op = 24 ∨ op = 25 ∨ op = 26 ∨ op = 27 ∨ op = 28 ∨ op = 29 ∨ op = 30 ∨ op = 31 ∨ op = 32 ∨ op = 33 ∨ op = 34 ∨ op = 35 ∨ op = 36 ∨ op = 37 ∨ op = 38 ∨ op = 39 from by omega) with rfl | rfl | rfl | rfl | rfl | rfl | rfl | rfl | rfl | rfl | rfl | rfl | rfl | rfl | rfl | rfl | rfl | rfl | rfl | rfl | rfl | rfl | rfl | rfl | rfl | rfl | rfl | rfl | rfl | rfl | rfl | rfl | rfl | rfl | rfl | rfl | rfl | rfl | rfl | rfl
  · intro w; kernel_rfl
  · intro w; kernel_rfl
  · intro w; kernel_rfl
  · intro w; kernel_rfl
  · intro w; kernel_rfl
  · intro w; kernel_rfl
  · intro w; kernel_rfl
  · intro w; kernel_rfl
  · intro w; kernel_rfl
  · intro w; kernel_rfl
  · intro w; kernel_rfl
  · intro w; kernel_rfl
  · intro w; kernel_rfl
  · intro w; kernel_rfl
  · intro w; kernel_rfl
  · intro w; kernel_rfl
  · intro w; kernel_rfl
  · intro w; kernel_rfl
  · intro w; kernel_rfl
  · intro w; kernel_rfl
  · intro w; kernel_rfl
  · intro w; kernel_rfl
  · intro w; kernel_rfl
  · intro w; kernel_rfl
  · intro w; kernel_rfl
  · intro w; kernel_rfl
  · intro w; kernel_rfl
  · intro w; kernel_rfl
  · intro w; kernel_rfl
  · intro w; kernel_rfl
  · intro w; kernel_rfl
  · intro w; kernel_rfl
  · intro w; kernel_rfl
  · intro w; kernel_rfl
  · intro w; kernel_rfl
  · intro w; kernel_rfl
  · intro w; kernel_rfl
  · intro w; kernel_rfl
  · intro w; kernel_rfl
  · intro w; kernel_rfl
theorem bases_index (op : Int) (h0 : 0 ≤ op) (h1 : op ≤ 39) : ∀ w : World, (Instr.index 74 basesV (.int .i64 op)).run Tryd.prog w = .ok (.int .u32 (baseL.getD op.toNat 0)) w := by
  rcases (show op = 0 ∨ op = 1 ∨ op = 2 ∨ op = 3 ∨ op = 4 ∨ op = 5 ∨ op = 6 ∨ op = 7 ∨ op = 8 ∨ op = 9 ∨ op = 10 ∨ op = 11 ∨ op = 12 ∨ op = 13 ∨ op = 14 ∨ op = 15 ∨ op = 16 ∨ op = 17 ∨ op = 18 ∨ op = 19 ∨ op = 20 ∨ op = 21 ∨ op = 22 ∨ op = 23 ∨ op = 24 ∨ op = 25 ∨ op = 26 ∨ op = 27 ∨ op = 28 ∨ op = 29 ∨ op = 30 ∨ op = 31 ∨ op = 32 ∨ op = 33 ∨ op = 34 ∨ op = 35 ∨ op = 36 ∨ op = 37 ∨ op = 38 ∨ op = 39 from by omega) with rfl | rfl | rfl | rfl | rfl | rfl | rfl | rfl | rfl | rfl | rfl | rfl | rfl | rfl | rfl | rfl | rfl | rfl | rfl | rfl | rfl | rfl | rfl | rfl | rfl | rfl | rfl | rfl | rfl | rfl | rfl | rfl | rfl | rfl | rfl | rfl | rfl | rfl | rfl | rfl
  · intro w; kernel_rfl
  · intro w; kernel_rfl
  · intro w; kernel_rfl
  · intro w; kernel_rfl
  · intro w; kernel_rfl
  · intro w; kernel_rfl
  · intro w; kernel_rfl
  · intro w; kernel_rfl
  · intro w; kernel_rfl
  · intro w; kernel_rfl
  · intro w; kernel_rfl
  · intro w; kernel_rfl
  · intro w; kernel_rfl
  · intro w; kernel_rfl
  · intro w; kernel_rfl
  · intro w; kernel_rfl
  · intro w; kernel_rfl
  · intro w; kernel_rfl
  · intro w; kernel_rfl
  · intro w; kernel_rfl
  · intro w; kernel_rfl
  · intro w; kernel_rfl
  · intro w; kernel_rfl
  · intro w; kernel_rfl
  · intro w; kernel_rfl
  · intro w; kernel_rfl
  · intro w; kernel_rfl
  · intro w; kernel_rfl
  · intro w; kernel_rfl
  · intro w; kernel_rfl
  · intro w; kernel_rfl
  · intro w; kernel_rfl
  · intro w; kernel_rfl
  · intro w; kernel_rfl
  · intro w; kernel_rfl
  · intro w; kernel_rfl
  · intro w; kernel_rfl
  · intro w; kernel_rfl
  · intro w; kernel_rfl
  · intro w; kernel_rfl
end Go.Proofs.YtdjdbgilimjagaaDoor
