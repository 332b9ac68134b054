/- Plain functions on numbers: what layers 1 and 2 of the program compute. No condition. -/
import Derived.WalkKit
set_option linter.unusedVariables false
set_option linter.unusedSimpArgs false
namespace Go.Proofs.YtdjdbgilimjagaaDoor

theorem pow_pos2 (n : Nat) : 0 < (2 : Nat) ^ n := Nat.pow_pos (by decide)
theorem cast_pow (n : Nat) : ((2 ^ n : Nat) : Int) = (2 : Int) ^ n := by push_cast; rfl

/-! ### Layer 1: bits -/
def rightB (a n : Int) : Bool := decide (0 ≤ a ∧ a < 32 ∧ 1 ≤ n ∧ n ≤ 32 - a)
/-- Some bits of a number. -/
def fieldN (w a n : Nat) : Nat := w / 2 ^ a % 2 ^ n
/-- The number of n bits that is meant by u. -/
def signedI (u n : Nat) : Int := if u < 2 ^ (n - 1) then (u : Int) else (u : Int) - 2 ^ n
def lowN (v n : Nat) : Nat := v % 2 ^ n
def sizeOk (size : Int) : Bool := decide (size = 2 ∨ size = 4 ∨ size = 8 ∨ size = 16 ∨ size = 32 ∨ size = 64)
/-- Rotated to the right by so much, in size bits. -/
def rotN (v k size : Nat) : Nat := (v / 2 ^ k ||| v * 2 ^ (size - k) % 2 ^ 64) % 2 ^ size

/-! ### Layer 2: mask -/
def ag64 (v : Nat) : Nat := v
def ag32 (v : Nat) : Nat := ag64 (v ||| v * 4294967296 % 18446744073709551616)
def ag16 (v : Nat) : Nat := ag32 (v ||| v * 65536 % 18446744073709551616)
def ag8 (v : Nat) : Nat := ag16 (v ||| v * 256 % 18446744073709551616)
def ag4 (v : Nat) : Nat := ag8 (v ||| v * 16 % 18446744073709551616)
def ag2 (v : Nat) : Nat := ag4 (v ||| v * 4 % 18446744073709551616)
def againN (v size : Nat) : Nat :=
  if size = 2 then ag2 v else if size = 4 then ag4 v else if size = 8 then ag8 v else if size = 16 then ag16 v else if size = 32 then ag32 v else v
def sizeN (v : Nat) : Nat :=
  if againN (v % 2 ^ 2) 2 = v then 2 else if againN (v % 2 ^ 4) 4 = v then 4 else if againN (v % 2 ^ 8) 8 = v then 8
  else if againN (v % 2 ^ 16) 16 = v then 16 else if againN (v % 2 ^ 32) 32 = v then 32 else 64
def pop1 (x : Nat) : Nat := (x / 2 &&& 6148914691236517205) + (x &&& 6148914691236517205)
def pop2 (x : Nat) : Nat := (x / 4 &&& 3689348814741910323) + (x &&& 3689348814741910323)
def pop3 (x : Nat) : Nat := (x / 16 + x) % 18446744073709551616 &&& 1085102592571150095
def pop4 (x : Nat) : Nat := (x + x / 256) % 18446744073709551616
def pop5 (x : Nat) : Nat := (x + x / 65536) % 18446744073709551616
def pop6 (x : Nat) : Nat := (x + x / 4294967296) % 18446744073709551616
/-- How many ones there are, as the library counts them. -/
def popN (v : Nat) : Nat := pop6 (pop5 (pop4 (pop3 (pop2 (pop1 v))))) % 128
def tabL : List Nat := [0, 1, 56, 2, 57, 49, 28, 3, 61, 58, 42, 50, 38, 29, 17, 4, 62, 47, 59, 36, 45, 43, 51, 22, 53, 39, 33, 30, 24, 18, 12, 5, 63, 55, 48, 27, 60, 41, 37, 16, 46, 35, 44, 21, 52, 32, 23, 11, 54, 26, 40, 15, 34, 20, 31, 10, 25, 14, 19, 9, 13, 8, 7, 6]
def tzN (v : Nat) : Nat :=
  if v = 0 then 64 else tabL.getD ((v &&& (18446744073709551616 - v) % 18446744073709551616) * 285870213051353865 % 18446744073709551616 / 288230376151711744) 0
def lenTab (x : Nat) : Nat :=
  if x < 1 then 0 else if x < 2 then 1 else if x < 4 then 2 else if x < 8 then 3 else if x < 16 then 4 else if x < 32 then 5 else if x < 64 then 6 else if x < 128 then 7 else 8
def len3 (x n : Nat) : Nat := if 256 ≤ x then n + 8 + lenTab (x / 256) else n + lenTab x
def len2 (x n : Nat) : Nat := if 65536 ≤ x then len3 (x / 65536) (n + 16) else len3 x n
def lenN (x : Nat) : Nat := if 4294967296 ≤ x then len2 (x / 4294967296) 32 else len2 x 0
def frontI (size : Int) : Int := if size = 64 then 0 else 64 - 2 * size
/-- How a number is told: the size, how many ones, where they begin. -/
def told (v : Nat) : Int × Int × Int :=
  let size := sizeN v
  let x := v % 2 ^ size
  let ones := popN x
  if ones = 0 ∨ ones = size then (0, 0, 0)
  else
    let at0 := tzN x
    let k : Int := if at0 = 0 then Int.tmod ((size : Int) - (64 - lenN (18446744073709551615 - x * 2 ^ (64 - size) % 18446744073709551616) : Int)) size else at0
    let row := if 0 ≤ k ∧ k < size then rotN x k.toNat size else 0
    if row ≠ 18446744073709551615 % 2 ^ (min ones 64) then (0, 0, 0)
    else (if size = 64 then 1 else 0, Int.tmod ((size : Int) - k) size, (ones : Int) - 1 + frontI size)
def maskB (v : Nat) : Bool := decide (told v ≠ (0, 0, 0) ∨ v = 4294967297)
/-- The size that a mask of n = 0 is told in. -/
def sizeS (s : Int) : Int := if 60 ≤ s then 2 else if 56 ≤ s then 4 else if 48 ≤ s then 8 else if 32 ≤ s then 16 else 32
/-- A mask, out of how it is told; and the error. -/
def decM (n r s : Int) : Nat × Int :=
  if n < 0 ∨ r < 0 ∨ s < 0 ∨ n > 1 ∨ r ≥ 64 ∨ s ≥ 64 then (0, 1)
  else
    let size := if n = 0 then sizeS s else 64
    let ones := s - frontI size + 1
    if ones < 1 ∨ ones ≥ size ∨ r ≥ size then (0, 3)
    else (againN (rotN (18446744073709551615 % 2 ^ ones.toNat) r.toNat size.toNat) size.toNat, 0)
end Go.Proofs.YtdjdbgilimjagaaDoor
