/- Where a record stands: the document's way, the program's. -/
import Derived.Test.YteckbcfigklkpaaGe
import Derived.Test.YteckbcfigklkpaaGb
import Derived.StillTailTactics
namespace Go.Proofs.Yteckbcfigklkpaa.Rf
open Go.RowKit Go.Proofs.Yteckbcfigklkpaa.Pk08 Go.Proofs.Yteckbcfigklkpaa.Base Go.Proofs.Yteckbcfigklkpaa.App Go.Proofs.Yteckbcfigklkpaa.Str Go.Proofs.Yteckbcfigklkpaa.Ky Go.Proofs.Yteckbcfigklkpaa.Bx Go.Proofs.Yteckbcfigklkpaa.Bo Go.Proofs.Yteckbcfigklkpaa.Pl08 Go.Proofs.Yteckbcfigklkpaa.Kc08 Go.Proofs.Yteckbcfigklkpaa.Kd08 Go.Proofs.Yteckbcfigklkpaa.Rv Go.Proofs.Yteckbcfigklkpaa.Rp Go.Proofs.Yteckbcfigklkpaa.Ro Go.Proofs.Yteckbcfigklkpaa.Rk
set_option linter.unusedVariables false
set_option linter.unusedSimpArgs false
theorem recD {rs : List Rv.Rec} (i : Nat) (h : i < rs.length) : rs.getD i rec0 = rs[i] := by simp [List.getD_eq_getElem?_getD, h]
theorem fis_at {rs : List Rv.Rec} {k : List Nat} (h : fpos rs k < rs.length) : fis rs k = (cmp (rs.getD (fpos rs k) rec0).1 k == 0) := by
  unfold fis
  rw [List.getElem?_eq_getElem h, recD _ h, cmp_eqB]
theorem fis_out {rs : List Rv.Rec} {k : List Nat} (h : ¬ fpos rs k < rs.length) : fis rs k = false := by
  unfold fis
  rw [List.getElem?_eq_none (by omega)]
section
variable {w : World} {A B : Option Addr} {n m c d : Nat} {rs : List Rv.Rec} {k : List Nat}
end
end Go.Proofs.Yteckbcfigklkpaa.Rf
