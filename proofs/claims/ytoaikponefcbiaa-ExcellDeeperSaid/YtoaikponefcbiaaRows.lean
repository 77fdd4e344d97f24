/-
  No cell of these rows narrows 'for every input' (looked for: loops, veiled, ifaces, maps, wideKeys, modest, calm, conditions, laid).
  DERIVED. THE GIVEN ROWS OF THIS SEAT. 6 by the template 'for every input the law returns true; each argument reads behind the call as it read before'; 0 by the template 'total and deterministic' (their statements: YtoaikponefcbiaaTotals.lean).
  GIVEN WITH THE SEED: the statements are not yours to turn. If you find one false, say at which input.
  Laid BY PROGRAM, IN A SANDBOX (cutbox-rows.mjs): the forced cells as the released guide's own fill.sh prints them over the translation 6f717a6ca5cbfedb… (all of the seat's roots in one cut). By AI agents, Wed Nov 11 2026. No macro, syntax, notation, axiom, sorry.
-/
import Derived.Test.YtoaikponefcbiaaChecked
import GoSem.Claim
import GoSem.ClaimJoined
import GoSem.ClaimMapViews
import Derived.JoinedTies
import Derived.KernelRfl
namespace Go.Proofs.Ytoaikponefcbiaa
/- THE CELL 'sum', in the pinned program and in every row, IS THE sha256 OF THE DUMP (.gsa) THAT YtoaikponefcbiaaProg.lean LOADS. Nothing in Lean hashes anything: it is a label: what it is worth is what the hold of that sum in a sandbox is worth. -/
noncomputable def Try.pinned : Pinned := { name := "ytoaikponefcbiaa", sum := "6f717a6ca5cbfedbe9a741d38ce3e6a6c129f1ad9c84fb1a3cd382f6e02b0a5f", checked := Try.checked }
namespace Rows
def none {H : Type} : Left H := { results := [], args := [] }

/-- 'cadastrelaw16.ExcellBoxes': WHATEVER THE INPUT: true; the input reads as it did. -/
def excellBoxesSpec : ChangeSpec := { name := "excellBoxes", fn := fun _ => fun
  | [d] => { results := [.lit (.bool true)], args := [d] }
  | _ => none }
def excellBoxesRow : OpenClaim := { program := "ytoaikponefcbiaa", sum := "6f717a6ca5cbfedbe9a741d38ce3e6a6c129f1ad9c84fb1a3cd382f6e02b0a5f", func := "cadastre/cadastrelaw16.ExcellBoxes", spec := "excellBoxes", unfollowed := true, recurses := true, apart := false }
def ExcellBoxesSaid : Prop := excellBoxesRow.holds Try.pinned (OpenSpec.ofChange excellBoxesSpec)

/-- ITS FALSE NEIGHBOUR: 'it returns false'. Refute it at one input. -/
def excellBoxesWrong : ChangeSpec := { name := "excellBoxes", fn := fun _ => fun
  | [d] => { results := [.lit (.bool false)], args := [d] }
  | _ => none }
def ExcellBoxesWrongFalsely : Prop := excellBoxesRow.holds Try.pinned (OpenSpec.ofChange excellBoxesWrong)

/-- 'cadastrelaw16.ExcellRanges': WHATEVER THE INPUT: true; the input reads as it did. -/
def excellRangesSpec : ChangeSpec := { name := "excellRanges", fn := fun _ => fun
  | [d1, d2, d3] => { results := [.lit (.bool true)], args := [d1, d2, d3] }
  | _ => none }
def excellRangesRow : OpenClaim := { program := "ytoaikponefcbiaa", sum := "6f717a6ca5cbfedbe9a741d38ce3e6a6c129f1ad9c84fb1a3cd382f6e02b0a5f", func := "cadastre/cadastrelaw16.ExcellRanges", spec := "excellRanges", unfollowed := true, recurses := true, apart := false }
def ExcellRangesSaid : Prop := excellRangesRow.holds Try.pinned (OpenSpec.ofChange excellRangesSpec)

/-- ITS FALSE NEIGHBOUR: 'it returns false'. Refute it at one input. -/
def excellRangesWrong : ChangeSpec := { name := "excellRanges", fn := fun _ => fun
  | [d1, d2, d3] => { results := [.lit (.bool false)], args := [d1, d2, d3] }
  | _ => none }
def ExcellRangesWrongFalsely : Prop := excellRangesRow.holds Try.pinned (OpenSpec.ofChange excellRangesWrong)

/-- 'cadastrelaw16.ExcellHolds': WHATEVER THE INPUT: true; the input reads as it did. -/
def excellHoldsSpec : ChangeSpec := { name := "excellHolds", fn := fun _ => fun
  | [d1, d2] => { results := [.lit (.bool true)], args := [d1, d2] }
  | _ => none }
def excellHoldsRow : OpenClaim := { program := "ytoaikponefcbiaa", sum := "6f717a6ca5cbfedbe9a741d38ce3e6a6c129f1ad9c84fb1a3cd382f6e02b0a5f", func := "cadastre/cadastrelaw16.ExcellHolds", spec := "excellHolds", unfollowed := true, recurses := true, apart := false }
def ExcellHoldsSaid : Prop := excellHoldsRow.holds Try.pinned (OpenSpec.ofChange excellHoldsSpec)

/-- ITS FALSE NEIGHBOUR: 'it returns false'. Refute it at one input. -/
def excellHoldsWrong : ChangeSpec := { name := "excellHolds", fn := fun _ => fun
  | [d1, d2] => { results := [.lit (.bool false)], args := [d1, d2] }
  | _ => none }
def ExcellHoldsWrongFalsely : Prop := excellHoldsRow.holds Try.pinned (OpenSpec.ofChange excellHoldsWrong)

/-- 'cadastrelaw16.ExcellAll': WHATEVER THE INPUT: true; the input reads as it did. -/
def excellAllSpec : ChangeSpec := { name := "excellAll", fn := fun _ => fun
  | [d1, d2] => { results := [.lit (.bool true)], args := [d1, d2] }
  | _ => none }
def excellAllRow : OpenClaim := { program := "ytoaikponefcbiaa", sum := "6f717a6ca5cbfedbe9a741d38ce3e6a6c129f1ad9c84fb1a3cd382f6e02b0a5f", func := "cadastre/cadastrelaw16.ExcellAll", spec := "excellAll", unfollowed := true, recurses := true, apart := false }
def ExcellAllSaid : Prop := excellAllRow.holds Try.pinned (OpenSpec.ofChange excellAllSpec)

/-- ITS FALSE NEIGHBOUR: 'it returns false'. Refute it at one input. -/
def excellAllWrong : ChangeSpec := { name := "excellAll", fn := fun _ => fun
  | [d1, d2] => { results := [.lit (.bool false)], args := [d1, d2] }
  | _ => none }
def ExcellAllWrongFalsely : Prop := excellAllRow.holds Try.pinned (OpenSpec.ofChange excellAllWrong)

/-- 'cadastrelaw16.ExcellTwice': WHATEVER THE INPUT: true; the input reads as it did. -/
def excellTwiceSpec : ChangeSpec := { name := "excellTwice", fn := fun _ => fun
  | [d1, d2, d3] => { results := [.lit (.bool true)], args := [d1, d2, d3] }
  | _ => none }
def excellTwiceRow : OpenClaim := { program := "ytoaikponefcbiaa", sum := "6f717a6ca5cbfedbe9a741d38ce3e6a6c129f1ad9c84fb1a3cd382f6e02b0a5f", func := "cadastre/cadastrelaw16.ExcellTwice", spec := "excellTwice", unfollowed := true, recurses := true, apart := false }
def ExcellTwiceSaid : Prop := excellTwiceRow.holds Try.pinned (OpenSpec.ofChange excellTwiceSpec)

/-- ITS FALSE NEIGHBOUR: 'it returns false'. Refute it at one input. -/
def excellTwiceWrong : ChangeSpec := { name := "excellTwice", fn := fun _ => fun
  | [d1, d2, d3] => { results := [.lit (.bool false)], args := [d1, d2, d3] }
  | _ => none }
def ExcellTwiceWrongFalsely : Prop := excellTwiceRow.holds Try.pinned (OpenSpec.ofChange excellTwiceWrong)

/-- 'cadastrelaw16.ExcellDeeper': WHATEVER THE INPUT: true; the input reads as it did. -/
def excellDeeperSpec : ChangeSpec := { name := "excellDeeper", fn := fun _ => fun
  | [d1, d2] => { results := [.lit (.bool true)], args := [d1, d2] }
  | _ => none }
def excellDeeperRow : OpenClaim := { program := "ytoaikponefcbiaa", sum := "6f717a6ca5cbfedbe9a741d38ce3e6a6c129f1ad9c84fb1a3cd382f6e02b0a5f", func := "cadastre/cadastrelaw16.ExcellDeeper", spec := "excellDeeper", unfollowed := true, recurses := true, apart := false }
def ExcellDeeperSaid : Prop := excellDeeperRow.holds Try.pinned (OpenSpec.ofChange excellDeeperSpec)

/-- ITS FALSE NEIGHBOUR: 'it returns false'. Refute it at one input. -/
def excellDeeperWrong : ChangeSpec := { name := "excellDeeper", fn := fun _ => fun
  | [d1, d2] => { results := [.lit (.bool false)], args := [d1, d2] }
  | _ => none }
def ExcellDeeperWrongFalsely : Prop := excellDeeperRow.holds Try.pinned (OpenSpec.ofChange excellDeeperWrong)

/- THE SECOND FORM. 'bulk': how many values and letters a reading holds, each counted each time it is reached (what is shared counts as often as it is met; a slice's spare places count too). A statement '..UptoSaid' is the law's where the arguments, and the package variables that the reading takes, are together of bulk at most 1048576: NARROWER than '..Said'. Prove '..Said' where nothing that the law and all that it calls make is longer than what came in: it says more and counts as full. Else prove '..UptoSaid'. A law counts once. -/
mutual
def uptoBulk {H : Type} : DataW H → Nat
  | .lit (.string bytes) => bytes.length + 1
  | .lit _ => 1
  | .nil => 1
  | .ptr d => uptoBulk d + 1
  | .slice elems spare => uptoBulkAll elems + uptoBulkAll spare + 1
  | .agg parts => uptoBulkAll parts + 1
  | .iface _ d => uptoBulk d + 1
  | .map entries => uptoBulkEntries entries + 1
  | .held _ => 1
def uptoBulkAll {H : Type} : List (DataW H) → Nat
  | [] => 0
  | d :: r => uptoBulk d + uptoBulkAll r
def uptoBulkEntries {H : Type} : List (Lit × DataW H) → Nat
  | [] => 0
  | x :: r => uptoBulkEntry x + uptoBulkEntries r
def uptoBulkEntry {H : Type} : Lit × DataW H → Nat
  | (.string bytes, d) => bytes.length + uptoBulk d + 1
  | (_, d) => uptoBulk d + 1
 end
def uptoSmall : (H : Type) → List (DataW H) → Bool := fun _ ds => decide (uptoBulkAll ds ≤ 1048576)
def OpenSpec.upto (s : _root_.Go.ChangeSpec) : _root_.Go.OpenSpec := { _root_.Go.OpenSpec.ofChange s with cond := some uptoSmall }

/-- 'cadastrelaw16.ExcellBoxes', WHERE WHAT IT READS IS OF BULK AT MOST 1048576: true; the input reads as it did. -/
def excellBoxesUptoRow : OpenClaim := { program := "ytoaikponefcbiaa", sum := "6f717a6ca5cbfedbe9a741d38ce3e6a6c129f1ad9c84fb1a3cd382f6e02b0a5f", func := "cadastre/cadastrelaw16.ExcellBoxes", spec := "excellBoxes", unfollowed := true, recurses := true, apart := false, narrowed := true }
def ExcellBoxesUptoSaid : Prop := excellBoxesUptoRow.holds Try.pinned (OpenSpec.upto excellBoxesSpec)

/-- 'cadastrelaw16.ExcellRanges', WHERE WHAT IT READS IS OF BULK AT MOST 1048576: true; the input reads as it did. -/
def excellRangesUptoRow : OpenClaim := { program := "ytoaikponefcbiaa", sum := "6f717a6ca5cbfedbe9a741d38ce3e6a6c129f1ad9c84fb1a3cd382f6e02b0a5f", func := "cadastre/cadastrelaw16.ExcellRanges", spec := "excellRanges", unfollowed := true, recurses := true, apart := false, narrowed := true }
def ExcellRangesUptoSaid : Prop := excellRangesUptoRow.holds Try.pinned (OpenSpec.upto excellRangesSpec)

/-- 'cadastrelaw16.ExcellHolds', WHERE WHAT IT READS IS OF BULK AT MOST 1048576: true; the input reads as it did. -/
def excellHoldsUptoRow : OpenClaim := { program := "ytoaikponefcbiaa", sum := "6f717a6ca5cbfedbe9a741d38ce3e6a6c129f1ad9c84fb1a3cd382f6e02b0a5f", func := "cadastre/cadastrelaw16.ExcellHolds", spec := "excellHolds", unfollowed := true, recurses := true, apart := false, narrowed := true }
def ExcellHoldsUptoSaid : Prop := excellHoldsUptoRow.holds Try.pinned (OpenSpec.upto excellHoldsSpec)

/-- 'cadastrelaw16.ExcellAll', WHERE WHAT IT READS IS OF BULK AT MOST 1048576: true; the input reads as it did. -/
def excellAllUptoRow : OpenClaim := { program := "ytoaikponefcbiaa", sum := "6f717a6ca5cbfedbe9a741d38ce3e6a6c129f1ad9c84fb1a3cd382f6e02b0a5f", func := "cadastre/cadastrelaw16.ExcellAll", spec := "excellAll", unfollowed := true, recurses := true, apart := false, narrowed := true }
def ExcellAllUptoSaid : Prop := excellAllUptoRow.holds Try.pinned (OpenSpec.upto excellAllSpec)

/-- 'cadastrelaw16.ExcellTwice', WHERE WHAT IT READS IS OF BULK AT MOST 1048576: true; the input reads as it did. -/
def excellTwiceUptoRow : OpenClaim := { program := "ytoaikponefcbiaa", sum := "6f717a6ca5cbfedbe9a741d38ce3e6a6c129f1ad9c84fb1a3cd382f6e02b0a5f", func := "cadastre/cadastrelaw16.ExcellTwice", spec := "excellTwice", unfollowed := true, recurses := true, apart := false, narrowed := true }
def ExcellTwiceUptoSaid : Prop := excellTwiceUptoRow.holds Try.pinned (OpenSpec.upto excellTwiceSpec)

/-- 'cadastrelaw16.ExcellDeeper', WHERE WHAT IT READS IS OF BULK AT MOST 1048576: true; the input reads as it did. -/
def excellDeeperUptoRow : OpenClaim := { program := "ytoaikponefcbiaa", sum := "6f717a6ca5cbfedbe9a741d38ce3e6a6c129f1ad9c84fb1a3cd382f6e02b0a5f", func := "cadastre/cadastrelaw16.ExcellDeeper", spec := "excellDeeper", unfollowed := true, recurses := true, apart := false, narrowed := true }
def ExcellDeeperUptoSaid : Prop := excellDeeperUptoRow.holds Try.pinned (OpenSpec.upto excellDeeperSpec)

end Rows
end Go.Proofs.Ytoaikponefcbiaa
