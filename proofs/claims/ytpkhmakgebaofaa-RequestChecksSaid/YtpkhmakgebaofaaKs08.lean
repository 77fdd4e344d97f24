/- Layer 8's laws: short. -/
import Derived.Test.YtpkhmakgebaofaaKq08
namespace Go.Proofs.Ytpkhmakgebaofaa.Ks08
open Go.RowKit Go.Proofs.Ytpkhmakgebaofaa.Pk08 Go.Proofs.Ytpkhmakgebaofaa.Base Go.Proofs.Ytpkhmakgebaofaa.App Go.Proofs.Ytpkhmakgebaofaa.Str Go.Proofs.Ytpkhmakgebaofaa.Ky
set_option linter.unusedVariables false
set_option linter.unusedSimpArgs false
def lens (vs : List (Option Addr × Nat × Nat)) (i : Nat) : Nat := (vs.getD i (none, 0, 0)).2.1
def allS (vs : List (Option Addr × Nat × Nat)) : Bool := vs.all (fun v => decide (v.2.1 ≤ 20))
end Go.Proofs.Ytpkhmakgebaofaa.Ks08
