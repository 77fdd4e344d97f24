/- Layer 8's laws: short. -/
import Derived.Test.YtoaikponefcbiaaKq08
namespace Go.Proofs.Ytoaikponefcbiaa.Ks08
open Go.RowKit Go.Proofs.Ytoaikponefcbiaa.Pk08 Go.Proofs.Ytoaikponefcbiaa.Base Go.Proofs.Ytoaikponefcbiaa.App Go.Proofs.Ytoaikponefcbiaa.Str Go.Proofs.Ytoaikponefcbiaa.Ky
set_option linter.unusedVariables false
set_option linter.unusedSimpArgs false
def lens (vs : List (Option Addr × Nat × Nat)) (i : Nat) : Nat := (vs.getD i (none, 0, 0)).2.1
def allS (vs : List (Option Addr × Nat × Nat)) : Bool := vs.all (fun v => decide (v.2.1 ≤ 20))
end Go.Proofs.Ytoaikponefcbiaa.Ks08
