/- Layer 8, further: Partial that may not be: its first guard. -/
import Derived.Test.YtoaikponefcbiaaKp08
import Derived.Test.YtoaikponefcbiaaPq08
import Derived.Test.YtoaikponefcbiaaIv
namespace Go.Proofs.Ytoaikponefcbiaa.Kq08
open Go.RowKit Go.Proofs.Ytoaikponefcbiaa.Pk08 Go.Proofs.Ytoaikponefcbiaa.Pq08 Go.Proofs.Ytoaikponefcbiaa.Base Go.Proofs.Ytoaikponefcbiaa.App Go.Proofs.Ytoaikponefcbiaa.Str Go.Proofs.Ytoaikponefcbiaa.Ky Go.Proofs.Ytoaikponefcbiaa.Kc08 Go.Proofs.Ytoaikponefcbiaa.Kd08 Go.Proofs.Ytoaikponefcbiaa.Ke08 Go.Proofs.Ytoaikponefcbiaa.Ki08 Go.Proofs.Ytoaikponefcbiaa.Kj08 Go.Proofs.Ytoaikponefcbiaa.Kn08 Go.Proofs.Ytoaikponefcbiaa.Ko08
set_option linter.unusedVariables false
set_option linter.unusedSimpArgs false
end Go.Proofs.Ytoaikponefcbiaa.Kq08
