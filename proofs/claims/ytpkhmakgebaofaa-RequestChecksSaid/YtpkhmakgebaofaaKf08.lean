/- Layer 8, further: the bits. -/
import Derived.Test.YtpkhmakgebaofaaKe08
import Derived.Laws.BitsAllLaws
import Derived.IntWalk
namespace Go.Proofs.Ytpkhmakgebaofaa.Kf08
open Go.RowKit Go.Proofs.Ytpkhmakgebaofaa.Pk08 Go.Proofs.Ytpkhmakgebaofaa.Base Go.Proofs.Ytpkhmakgebaofaa.App Go.Proofs.Ytpkhmakgebaofaa.Ky Go.Proofs.Ytpkhmakgebaofaa.Kc08 Go.Proofs.Ytpkhmakgebaofaa.Kd08
set_option linter.unusedVariables false
set_option linter.unusedSimpArgs false
theorem bitsK_succ (k : List Nat) (i : Nat) : bitsK k (i + 1) = 2 * bitsK k i + bitk k i := rfl
theorem i64_or_nat (a b : Nat) (ha : a < 9223372036854775808) (hb : b < 9223372036854775808) : bits .or .i64 (a : Int) (b : Int) = ((a ||| b : Nat) : Int) := by
  have hc : a ||| b < 2 ^ 63 := Nat.or_lt_two_pow ha hb
  show IntKind.i64.wrap ((BitVec.ofInt 64 (a : Int) ||| BitVec.ofInt 64 (b : Int)).toNat : Int) = _
  rw [BitVec.toNat_or, ofInt_u64 a (by omega), ofInt_u64 b (by omega)]
  exact IntWalk.i64_in _ (by omega)
theorem step_bit (B x d : Nat) (hB : B < 2 ^ 40) (hx : x < 4294967296) : bits .or .i64 ((B : Int) * 2) (wrap64 (bits .and .u32 ((x : Int) / 2 ^ d) 1)) = ((2 * B + x / 2 ^ d % 2 : Nat) : Int) := by
  have l : x / 2 ^ d < 4294967296 := Nat.lt_of_le_of_lt (Nat.div_le_self _ _) hx
  have e1 : ((x : Int) / 2 ^ d) = ((x / 2 ^ d : Nat) : Int) := by simp
  have e2 : bits .and .u32 ((x : Int) / 2 ^ d) 1 = ((x / 2 ^ d % 2 : Nat) : Int) := by
    rw [e1, ← nat_mask1]
    exact u32_and_nat (x / 2 ^ d) 1 l (by decide)
  have l2 : x / 2 ^ d % 2 < 2 := Nat.mod_lt _ (by decide)
  rw [e2, IntWalk.wrap64_in _ (by omega)]
  generalize x / 2 ^ d % 2 = y at *
  have e3 : ((B : Int) * 2) = ((2 * B : Nat) : Int) := by omega
  rw [e3, i64_or_nat _ _ (by omega) (by omega), nat_join 1 (2 * B) y (by omega) (by omega)]
attribute [local irreducible] bitsK
section
variable {w : World} {A B C D : Option Addr} {n m p q cn cm cp cq : Nat} {a b k lo hi : List Nat}
end
end Go.Proofs.Ytpkhmakgebaofaa.Kf08
