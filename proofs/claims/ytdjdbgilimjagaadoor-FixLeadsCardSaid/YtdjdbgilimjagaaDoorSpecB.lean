/- Plain functions on numbers: how a mask is told. No condition. -/
import Derived.Test.YtdjdbgilimjagaaDoorSpec
set_option linter.unusedVariables false
set_option linter.unusedSimpArgs false
namespace Go.Proofs.YtdjdbgilimjagaaDoor

def notN (x size : Nat) : Nat := 18446744073709551615 - x * 2 ^ (64 - size) % 18446744073709551616
/-- Where the row of ones begins. -/
def kN (x size : Nat) : Int := if tzN x = 0 then ((size : Int) - (64 - (lenN (notN x size) : Int))).tmod (size : Int) else (tzN x : Int)
/-- How a number is told in a size, all ones but so many gone. -/
def toldX (size x ones : Nat) (k : Int) : Int × Int × Int :=
  if ones = 0 ∨ ones = size then (0, 0, 0)
  else if ¬ (0 ≤ k ∧ k < (size : Int)) then (0, 0, 0)
  else if rotN x k.toNat size ≠ lowN 18446744073709551615 (min ones 64) then (0, 0, 0)
  else (if size = 64 then 1 else 0, -k % (size : Int), (ones : Int) - 1 + frontI (size : Int))
def toldN (v : Nat) : Int × Int × Int := toldX (sizeN v) (v % 2 ^ sizeN v) (popN (v % 2 ^ sizeN v)) (kN (v % 2 ^ sizeN v) (sizeN v))
def isMask (v : Nat) : Bool := decide (toldN v ≠ (0, 0, 0)) || decide (v = 4294967297)
end Go.Proofs.YtdjdbgilimjagaaDoor
