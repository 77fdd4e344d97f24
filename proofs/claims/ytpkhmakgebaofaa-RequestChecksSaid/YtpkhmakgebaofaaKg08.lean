/- Layer 8, further: the document's bits, boxes. -/
import Derived.Test.YtpkhmakgebaofaaKf08
namespace Go.Proofs.Ytpkhmakgebaofaa.Kg08
open Go.RowKit Go.Proofs.Ytpkhmakgebaofaa.Pk08 Go.Proofs.Ytpkhmakgebaofaa.Base Go.Proofs.Ytpkhmakgebaofaa.App Go.Proofs.Ytpkhmakgebaofaa.Ky Go.Proofs.Ytpkhmakgebaofaa.Kc08 Go.Proofs.Ytpkhmakgebaofaa.Kd08 Go.Proofs.Ytpkhmakgebaofaa.Kf08
set_option linter.unusedVariables false
set_option linter.unusedSimpArgs false
attribute [local irreducible] bitsK
theorem rstep (B x i n : Nat) (hB : B < 2 ^ 40) (hx : x < 4294967296) (hq : i / n < 32) :
    wrap64 (2 * (B : Int) + wrap64 (((x : Int) / 2 ^ min (IntKind.u64.wrap (wrap64 (31 - wrap64 ((i : Int) / n)))).toNat 32).tmod 2)) = ((2 * B + x / 2 ^ (31 - i / n) % 2 : Nat) : Int) := by
  have e : ((i : Int) / n) = ((i / n : Nat) : Int) := by simp
  rw [e]
  generalize i / n = q at *
  have e1 : wrap64 (q : Int) = q := IntWalk.wrap64_in _ (by omega)
  have e2 : wrap64 (31 - (q : Int)) = ((31 - q : Nat) : Int) := by rw [IntWalk.wrap64_in _ (by omega)]; omega
  have e3 : IntKind.u64.wrap ((31 - q : Nat) : Int) = ((31 - q : Nat) : Int) := by rw [IntKind.wrap_u64]; omega
  rw [e1, e2, e3, Int.toNat_natCast, Nat.min_eq_left (by omega)]
  have e4 : ((x : Int) / 2 ^ (31 - q)) = ((x / 2 ^ (31 - q) : Nat) : Int) := by simp
  rw [e4]
  have l : x / 2 ^ (31 - q) < 4294967296 := Nat.lt_of_le_of_lt (Nat.div_le_self _ _) hx
  generalize x / 2 ^ (31 - q) = y at *
  have e5 : ((y : Int).tmod 2) = ((y % 2 : Nat) : Int) := by rw [Int.tmod_eq_emod_of_nonneg (by omega)]; omega
  rw [e5]
  have hy : y % 2 < 2 := Nat.mod_lt _ (by decide)
  generalize y % 2 = z at *
  rw [IntWalk.wrap64_in (z : Int) (by omega), IntWalk.wrap64_in _ (by omega)]
  omega
section
variable {w : World} {A B C D : Option Addr} {n m p q cn cm cp cq : Nat} {a b k lo hi : List Nat}
end
end Go.Proofs.Ytpkhmakgebaofaa.Kg08
