/- Layer 2 of the program, walked: how many ones, and where they begin. Numbers are of their kinds; the library's table lies as it is laid. -/
import Derived.Test.YtdjdbgilimjagaaDoorMask
set_option linter.unusedVariables false
set_option linter.unusedSimpArgs false
namespace Go.Proofs.YtdjdbgilimjagaaDoor
open Go.RowKit
set_option maxRecDepth 100000

theorem u64w (n : Nat) : IntKind.u64.wrap (n : Int) = ((n % 18446744073709551616 : Nat) : Int) := by rw [IntKind.wrap_u64]; omega
theorem pop1_eq (x : Nat) (hx : x < 18446744073709551616) : IntKind.u64.wrap (bits .and .u64 ((x : Int) / 2) 6148914691236517205 + bits .and .u64 (x : Int) 6148914691236517205) = ((pop1 x : Nat) : Int) := by
  have e1 := u64_and_nat (x / 2) 6148914691236517205 (by omega) (by decide)
  have e2 := u64_and_nat x 6148914691236517205 hx (by decide)
  have l1 : x / 2 &&& 6148914691236517205 ≤ 6148914691236517205 := Nat.and_le_right
  have l2 : x &&& 6148914691236517205 ≤ 6148914691236517205 := Nat.and_le_right
  rw [show (x : Int) / 2 = ((x / 2 : Nat) : Int) from by omega]
  rw [show (6148914691236517205 : Int) = ((6148914691236517205 : Nat) : Int) from rfl, e1, e2, ← Int.natCast_add, u64w, Nat.mod_eq_of_lt (by omega)]
  rfl

theorem pop2_eq (x : Nat) (hx : x < 18446744073709551616) : IntKind.u64.wrap (bits .and .u64 ((x : Int) / 4) 3689348814741910323 + bits .and .u64 (x : Int) 3689348814741910323) = ((pop2 x : Nat) : Int) := by
  have e1 := u64_and_nat (x / 4) 3689348814741910323 (by omega) (by decide)
  have e2 := u64_and_nat x 3689348814741910323 hx (by decide)
  have l1 : x / 4 &&& 3689348814741910323 ≤ 3689348814741910323 := Nat.and_le_right
  have l2 : x &&& 3689348814741910323 ≤ 3689348814741910323 := Nat.and_le_right
  rw [show (x : Int) / 4 = ((x / 4 : Nat) : Int) from by omega]
  rw [show (3689348814741910323 : Int) = ((3689348814741910323 : Nat) : Int) from rfl, e1, e2, ← Int.natCast_add, u64w, Nat.mod_eq_of_lt (by omega)]
  rfl
theorem pop3_eq (x : Nat) : bits .and .u64 (IntKind.u64.wrap ((x : Int) / 16 + (x : Int))) 1085102592571150095 = ((pop3 x : Nat) : Int) := by
  rw [show (x : Int) / 16 + (x : Int) = ((x / 16 + x : Nat) : Int) from by omega, u64w]
  exact u64_and_nat _ 1085102592571150095 (Nat.mod_lt _ (by decide)) (by decide)
theorem pop4_eq (x : Nat) : IntKind.u64.wrap ((x : Int) + (x : Int) / 256) = ((pop4 x : Nat) : Int) := by
  rw [show (x : Int) + (x : Int) / 256 = ((x + x / 256 : Nat) : Int) from by omega, u64w]; rfl
theorem pop5_eq (x : Nat) : IntKind.u64.wrap ((x : Int) + (x : Int) / 65536) = ((pop5 x : Nat) : Int) := by
  rw [show (x : Int) + (x : Int) / 65536 = ((x + x / 65536 : Nat) : Int) from by omega, u64w]; rfl
theorem pop6_eq (x : Nat) : IntKind.u64.wrap ((x : Int) + (x : Int) / 4294967296) = ((pop6 x : Nat) : Int) := by
  rw [show (x : Int) + (x : Int) / 4294967296 = ((x + x / 4294967296 : Nat) : Int) from by omega, u64w]; rfl
theorem i64_and127 (x : Nat) : bits .and .i64 (wrap64 (x : Int)) 127 = ((x % 128 : Nat) : Int) := by
  have e : BitVec.ofInt 64 (wrap64 (x : Int)) = BitVec.ofNat 64 x := by
    apply BitVec.eq_of_toNat_eq
    rw [BitVec.toNat_ofInt, BitVec.toNat_ofNat]
    unfold wrap64
    have : (2 ^ 64 : Nat) = 18446744073709551616 := by decide
    rw [this]
    omega
  show IntKind.i64.wrap ((BitVec.ofInt 64 (wrap64 (x : Int)) &&& BitVec.ofInt 64 127).toNat : Int) = _
  rw [e, BitVec.toNat_and, BitVec.toNat_ofNat]
  have h : (BitVec.ofInt 64 127).toNat = 2 ^ 7 - 1 := by decide
  rw [h, Nat.and_two_pow_sub_one_eq_mod, IntKind.wrap_i64]
  have : x % 2 ^ 64 % 2 ^ 7 = x % 128 := Nat.mod_mod_of_dvd x (by decide)
  rw [this]
  omega

set_option maxHeartbeats 1000000 in
theorem pop_any (v : Nat) (w : World) (h1 : v < 18446744073709551616) :
    Calls Tryd.prog 126 #[.int .u64 v] w fun e w' => e = .returned (.int .i64 (popN v)) ∧ w = w' := by
  have l1 : pop1 v < 18446744073709551616 := by
    have l1 : v / 2 &&& 6148914691236517205 ≤ 6148914691236517205 := Nat.and_le_right
    have l2 : v &&& 6148914691236517205 ≤ 6148914691236517205 := Nat.and_le_right
    unfold pop1; omega
  have e1 := pop1_eq v h1
  have e2 := pop2_eq (pop1 v) l1
  have e3 := pop3_eq (pop2 (pop1 v))
  have e4 := pop4_eq (pop3 (pop2 (pop1 v)))
  have e5 := pop5_eq (pop4 (pop3 (pop2 (pop1 v))))
  have e6 := pop6_eq (pop5 (pop4 (pop3 (pop2 (pop1 v)))))
  have e7 := i64_and127 (pop6 (pop5 (pop4 (pop3 (pop2 (pop1 v))))))
  have e8 : (pop6 (pop5 (pop4 (pop3 (pop2 (pop1 v))))) % 128 : Nat) = popN v := rfl
  rw [e8] at e7
  clear l1 h1 e8
  go_enter Tryd.func126, Tryd.ntmps126
  go_wp2
  go_ret
  exact ⟨rfl, rfl⟩
end Go.Proofs.YtdjdbgilimjagaaDoor
