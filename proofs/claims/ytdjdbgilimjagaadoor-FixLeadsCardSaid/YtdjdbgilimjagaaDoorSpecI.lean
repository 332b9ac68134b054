/- Plain tables: the shapes of instructions, and which instructions are right. No condition. -/
import Derived.Test.YtdjdbgilimjagaaDoorSpecB
set_option linter.unusedVariables false
set_option linter.unusedSimpArgs false
namespace Go.Proofs.YtdjdbgilimjagaaDoor

def shapeL : List Int := [0, 1, 1, 1, 2, 2, 2, 2, 3, 3, 3, 3, 4, 4, 4, 4, 5, 5, 5, 5, 6, 6, 7, 7, 8, 8, 9, 10, 10, 11, 11, 12, 9, 9, 13, 13, 13, 14, 15, 16]
def shapeI (op : Int) : Int := if op < 1 ∨ 39 < op then 0 else shapeL.getD op.toNat 0
def baseL : List Int := [0, 3531603968, 2457862144, 4068474880, 2432696320, 3506438144, 2969567232, 4043309056, 2449473536, 2986344448, 3523215360, 4060086272, 2332033024, 3405774848, 2868903936, 3942645760, 2315255808, 2852126720, 3388997632, 3925868544, 2600468480, 2600501248, 4181721088, 4177526784, 960495616, 956301312, 1476395008, 268435456, 2415919104, 335544320, 2483027968, 1409286144, 3019898880, 3036676096, 3592355840, 3594452992, 3596550144, 3556769793, 3573751839, 2592079872]
def s_d (s : Int) : Bool := ([false, true, true, true, true, true, true, true, true, true, true, false, false, false, false, false, true] : List Bool).getD s.toNat false
def s_n (s : Int) : Bool := ([false, false, true, true, true, true, true, true, true, false, false, false, false, true, false, false, true] : List Bool).getD s.toNat false
def s_m (s : Int) : Bool := ([false, false, false, false, true, true, true, false, false, false, false, false, false, false, false, false, true] : List Bool).getD s.toNat false
def s_a (s : Int) : Bool := ([false, false, false, false, false, false, true, false, false, false, false, false, false, false, false, false, false] : List Bool).getD s.toNat false
def s_least (s : Int) : Int := ([0, 0, 0, 0, 0, 0, 0, 0, 0, -1048576, -1048576, -134217728, -1048576, 0, 0, 0, 0] : List Int).getD s.toNat 0
def s_most (s : Int) : Int := ([0, 65535, 4095, 0, 0, 0, 0, 32760, 4095, 1048572, 1048575, 134217724, 1048572, 0, 65535, 0, 0] : List Int).getD s.toNat 0
def s_by (s : Int) : Int := ([0, 1, 1, 0, 0, 0, 0, 8, 1, 4, 1, 4, 4, 0, 1, 0, 0] : List Int).getD s.toNat 0
def s_amounts (s : Int) : Int := ([0, 48, 12, 0, 63, 63, 0, 0, 0, 0, 0, 0, 0, 0, 0, 0, 0] : List Int).getD s.toNat 0
def s_of (s : Int) : Int := ([0, 16, 12, 0, 1, 1, 0, 0, 0, 0, 0, 0, 0, 0, 0, 0, 0] : List Int).getD s.toNat 0
def s_shift (s : Int) : Int := ([0, 0, 0, 0, 2, 3, 0, 0, 0, 0, 0, 0, 0, 0, 0, 0, 0] : List Int).getD s.toNat 0
def s_cond (s : Int) : Int := ([0, 0, 0, 0, 0, 0, 0, 0, 0, 0, 0, 0, 13, 0, 0, 0, 13] : List Int).getD s.toNat 0
def s_stack (s : Int) : Bool := ([false, false, true, false, false, false, false, true, true, false, false, false, false, false, false, false, false] : List Bool).getD s.toNat false
def regB (has : Bool) (v : Int) : Bool := v == 0 || (has && decide (0 < v) && decide (v ≤ 31))
def stepB (v least most d : Int) : Bool := if d = 0 then v == 0 else decide (least ≤ v) && decide (v ≤ most) && (v.tmod d == 0)
def regsB (s d n m a : Int) : Bool := regB (s_d s) d && regB (s_n s) n && regB (s_m s) m && regB (s_a s) a
def numsB (s imm shift amount cond : Int) : Bool :=
  stepB imm (s_least s) (s_most s) (s_by s) && stepB amount 0 (s_amounts s) (s_of s) && decide (0 ≤ shift) && decide (shift ≤ s_shift s) && decide (0 ≤ cond) && decide (cond ≤ s_cond s)
def maskOkB (s mask : Int) : Bool := if s = 3 then isMask mask.toNat else mask == 0
def isI (op d n m a imm mask shift amount cond : Int) : Bool :=
  if shapeI op = 0 then false else regsB (shapeI op) d n m a && numsB (shapeI op) imm shift amount cond && maskOkB (shapeI op) mask
end Go.Proofs.YtdjdbgilimjagaaDoor
