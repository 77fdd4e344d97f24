/-
  No cell of these rows narrows 'for every input' (looked for: loops, veiled, ifaces, maps, wideKeys, modest, calm, conditions, laid).
  DERIVED. THE GIVEN ROWS OF THIS SEAT. 6 by the template 'for every input the law returns true; each argument reads behind the call as it read before'; 0 by the template 'total and deterministic' (their statements: YtplpgneckfmjpaaTotals.lean).
  GIVEN WITH THE SEED: the statements are not yours to turn. If you find one false, say at which input.
  Laid BY PROGRAM, IN A SANDBOX (cutbox-rows.mjs): the forced cells as the released guide's own fill.sh prints them over the translation 41106631f8a8c2bb… (all of the seat's roots in one cut). By AI agents, Wed Nov 11 2026. No macro, syntax, notation, axiom, sorry.
-/
import Derived.Test.YtplpgneckfmjpaaChecked
import GoSem.Claim
import GoSem.ClaimJoined
import GoSem.ClaimMapViews
import Derived.JoinedTies
import Derived.KernelRfl
namespace Go.Proofs.Ytplpgneckfmjpaa
/- THE CELL 'sum', in the pinned program and in every row, IS THE sha256 OF THE DUMP (.gsa) THAT YtplpgneckfmjpaaProg.lean LOADS. Nothing in Lean hashes anything: it is a label: what it is worth is what the hold of that sum in a sandbox is worth. -/
noncomputable def Try.pinned : Pinned := { name := "ytplpgneckfmjpaa", sum := "41106631f8a8c2bb690c16f2463eb19606ca28ab259b8a4f170827a3cc944b7b", checked := Try.checked }
namespace Rows
def none {H : Type} : Left H := { results := [], args := [] }

/-- 'cadastrelaw18.LinearFinds': WHATEVER THE INPUT: true; the input reads as it did. -/
def linearFindsSpec : ChangeSpec := { name := "linearFinds", fn := fun _ => fun
  | [d] => { results := [.lit (.bool true)], args := [d] }
  | _ => none }
def linearFindsRow : OpenClaim := { program := "ytplpgneckfmjpaa", sum := "41106631f8a8c2bb690c16f2463eb19606ca28ab259b8a4f170827a3cc944b7b", func := "cadastre/cadastrelaw18.LinearFinds", spec := "linearFinds", unfollowed := true, recurses := true, apart := false }
def LinearFindsSaid : Prop := linearFindsRow.holds Try.pinned (OpenSpec.ofChange linearFindsSpec)

/-- ITS FALSE NEIGHBOUR: 'it returns false'. Refute it at one input. -/
def linearFindsWrong : ChangeSpec := { name := "linearFinds", fn := fun _ => fun
  | [d] => { results := [.lit (.bool false)], args := [d] }
  | _ => none }
def LinearFindsWrongFalsely : Prop := linearFindsRow.holds Try.pinned (OpenSpec.ofChange linearFindsWrong)

/-- 'cadastrelaw18.LinearRanges': WHATEVER THE INPUT: true; the input reads as it did. -/
def linearRangesSpec : ChangeSpec := { name := "linearRanges", fn := fun _ => fun
  | [d1, d2, d3] => { results := [.lit (.bool true)], args := [d1, d2, d3] }
  | _ => none }
def linearRangesRow : OpenClaim := { program := "ytplpgneckfmjpaa", sum := "41106631f8a8c2bb690c16f2463eb19606ca28ab259b8a4f170827a3cc944b7b", func := "cadastre/cadastrelaw18.LinearRanges", spec := "linearRanges", unfollowed := true, recurses := true, apart := false }
def LinearRangesSaid : Prop := linearRangesRow.holds Try.pinned (OpenSpec.ofChange linearRangesSpec)

/-- ITS FALSE NEIGHBOUR: 'it returns false'. Refute it at one input. -/
def linearRangesWrong : ChangeSpec := { name := "linearRanges", fn := fun _ => fun
  | [d1, d2, d3] => { results := [.lit (.bool false)], args := [d1, d2, d3] }
  | _ => none }
def LinearRangesWrongFalsely : Prop := linearRangesRow.holds Try.pinned (OpenSpec.ofChange linearRangesWrong)

/-- 'cadastrelaw18.LinearGrows': WHATEVER THE INPUT: true; the input reads as it did. -/
def linearGrowsSpec : ChangeSpec := { name := "linearGrows", fn := fun _ => fun
  | [d1, d2] => { results := [.lit (.bool true)], args := [d1, d2] }
  | _ => none }
def linearGrowsRow : OpenClaim := { program := "ytplpgneckfmjpaa", sum := "41106631f8a8c2bb690c16f2463eb19606ca28ab259b8a4f170827a3cc944b7b", func := "cadastre/cadastrelaw18.LinearGrows", spec := "linearGrows", unfollowed := true, recurses := true, apart := false }
def LinearGrowsSaid : Prop := linearGrowsRow.holds Try.pinned (OpenSpec.ofChange linearGrowsSpec)

/-- ITS FALSE NEIGHBOUR: 'it returns false'. Refute it at one input. -/
def linearGrowsWrong : ChangeSpec := { name := "linearGrows", fn := fun _ => fun
  | [d1, d2] => { results := [.lit (.bool false)], args := [d1, d2] }
  | _ => none }
def LinearGrowsWrongFalsely : Prop := linearGrowsRow.holds Try.pinned (OpenSpec.ofChange linearGrowsWrong)

/-- 'cadastrelaw18.LinearBack': WHATEVER THE INPUT: true; the input reads as it did. -/
def linearBackSpec : ChangeSpec := { name := "linearBack", fn := fun _ => fun
  | [d1, d2] => { results := [.lit (.bool true)], args := [d1, d2] }
  | _ => none }
def linearBackRow : OpenClaim := { program := "ytplpgneckfmjpaa", sum := "41106631f8a8c2bb690c16f2463eb19606ca28ab259b8a4f170827a3cc944b7b", func := "cadastre/cadastrelaw18.LinearBack", spec := "linearBack", unfollowed := true, recurses := true, apart := false }
def LinearBackSaid : Prop := linearBackRow.holds Try.pinned (OpenSpec.ofChange linearBackSpec)

/-- ITS FALSE NEIGHBOUR: 'it returns false'. Refute it at one input. -/
def linearBackWrong : ChangeSpec := { name := "linearBack", fn := fun _ => fun
  | [d1, d2] => { results := [.lit (.bool false)], args := [d1, d2] }
  | _ => none }
def LinearBackWrongFalsely : Prop := linearBackRow.holds Try.pinned (OpenSpec.ofChange linearBackWrong)

/-- 'cadastrelaw18.LinearHolds': WHATEVER THE INPUT: true; the input reads as it did. -/
def linearHoldsSpec : ChangeSpec := { name := "linearHolds", fn := fun _ => fun
  | [d1, d2, d3] => { results := [.lit (.bool true)], args := [d1, d2, d3] }
  | _ => none }
def linearHoldsRow : OpenClaim := { program := "ytplpgneckfmjpaa", sum := "41106631f8a8c2bb690c16f2463eb19606ca28ab259b8a4f170827a3cc944b7b", func := "cadastre/cadastrelaw18.LinearHolds", spec := "linearHolds", unfollowed := true, recurses := true, apart := false }
def LinearHoldsSaid : Prop := linearHoldsRow.holds Try.pinned (OpenSpec.ofChange linearHoldsSpec)

/-- ITS FALSE NEIGHBOUR: 'it returns false'. Refute it at one input. -/
def linearHoldsWrong : ChangeSpec := { name := "linearHolds", fn := fun _ => fun
  | [d1, d2, d3] => { results := [.lit (.bool false)], args := [d1, d2, d3] }
  | _ => none }
def LinearHoldsWrongFalsely : Prop := linearHoldsRow.holds Try.pinned (OpenSpec.ofChange linearHoldsWrong)

/-- 'cadastrelaw18.LinearOrder': WHATEVER THE INPUT: true; the input reads as it did. -/
def linearOrderSpec : ChangeSpec := { name := "linearOrder", fn := fun _ => fun
  | [d] => { results := [.lit (.bool true)], args := [d] }
  | _ => none }
def linearOrderRow : OpenClaim := { program := "ytplpgneckfmjpaa", sum := "41106631f8a8c2bb690c16f2463eb19606ca28ab259b8a4f170827a3cc944b7b", func := "cadastre/cadastrelaw18.LinearOrder", spec := "linearOrder", unfollowed := true, recurses := true, apart := false }
def LinearOrderSaid : Prop := linearOrderRow.holds Try.pinned (OpenSpec.ofChange linearOrderSpec)

/-- ITS FALSE NEIGHBOUR: 'it returns false'. Refute it at one input. -/
def linearOrderWrong : ChangeSpec := { name := "linearOrder", fn := fun _ => fun
  | [d] => { results := [.lit (.bool false)], args := [d] }
  | _ => none }
def LinearOrderWrongFalsely : Prop := linearOrderRow.holds Try.pinned (OpenSpec.ofChange linearOrderWrong)

/- THE SECOND FORM. 'bulk': how many values and letters a reading holds, each counted each time it is reached (what is shared counts as often as it is met; a slice's spare places count too). A statement '..UptoSaid' is the law's where the arguments, and the package variables that the reading takes, are together of bulk at most 1048576: NARROWER than '..Said'. Prove '..Said' where nothing that the law and all that it calls make is longer than what came in: it says more and counts as full. Else prove '..UptoSaid'. A law counts once. -/
mutual
def uptoBulk {H : Type} : DataW H → Nat
  | .lit (.string bytes) => bytes.length + 1
  | .lit _ => 1
  | .nil => 1
  | .ptr d => uptoBulk d + 1
  | .slice elems spare => uptoBulkAll elems + uptoBulkAll spare + 1
  | .agg parts => uptoBulkAll parts + 1
  | .iface _ d => uptoBulk d + 1
  | .map entries => uptoBulkEntries entries + 1
  | .held _ => 1
def uptoBulkAll {H : Type} : List (DataW H) → Nat
  | [] => 0
  | d :: r => uptoBulk d + uptoBulkAll r
def uptoBulkEntries {H : Type} : List (Lit × DataW H) → Nat
  | [] => 0
  | x :: r => uptoBulkEntry x + uptoBulkEntries r
def uptoBulkEntry {H : Type} : Lit × DataW H → Nat
  | (.string bytes, d) => bytes.length + uptoBulk d + 1
  | (_, d) => uptoBulk d + 1
 end
def uptoSmall : (H : Type) → List (DataW H) → Bool := fun _ ds => decide (uptoBulkAll ds ≤ 1048576)
def OpenSpec.upto (s : _root_.Go.ChangeSpec) : _root_.Go.OpenSpec := { _root_.Go.OpenSpec.ofChange s with cond := some uptoSmall }

/-- 'cadastrelaw18.LinearFinds', WHERE WHAT IT READS IS OF BULK AT MOST 1048576: true; the input reads as it did. -/
def linearFindsUptoRow : OpenClaim := { program := "ytplpgneckfmjpaa", sum := "41106631f8a8c2bb690c16f2463eb19606ca28ab259b8a4f170827a3cc944b7b", func := "cadastre/cadastrelaw18.LinearFinds", spec := "linearFinds", unfollowed := true, recurses := true, apart := false, narrowed := true }
def LinearFindsUptoSaid : Prop := linearFindsUptoRow.holds Try.pinned (OpenSpec.upto linearFindsSpec)

/-- 'cadastrelaw18.LinearRanges', WHERE WHAT IT READS IS OF BULK AT MOST 1048576: true; the input reads as it did. -/
def linearRangesUptoRow : OpenClaim := { program := "ytplpgneckfmjpaa", sum := "41106631f8a8c2bb690c16f2463eb19606ca28ab259b8a4f170827a3cc944b7b", func := "cadastre/cadastrelaw18.LinearRanges", spec := "linearRanges", unfollowed := true, recurses := true, apart := false, narrowed := true }
def LinearRangesUptoSaid : Prop := linearRangesUptoRow.holds Try.pinned (OpenSpec.upto linearRangesSpec)

/-- 'cadastrelaw18.LinearGrows', WHERE WHAT IT READS IS OF BULK AT MOST 1048576: true; the input reads as it did. -/
def linearGrowsUptoRow : OpenClaim := { program := "ytplpgneckfmjpaa", sum := "41106631f8a8c2bb690c16f2463eb19606ca28ab259b8a4f170827a3cc944b7b", func := "cadastre/cadastrelaw18.LinearGrows", spec := "linearGrows", unfollowed := true, recurses := true, apart := false, narrowed := true }
def LinearGrowsUptoSaid : Prop := linearGrowsUptoRow.holds Try.pinned (OpenSpec.upto linearGrowsSpec)

/-- 'cadastrelaw18.LinearBack', WHERE WHAT IT READS IS OF BULK AT MOST 1048576: true; the input reads as it did. -/
def linearBackUptoRow : OpenClaim := { program := "ytplpgneckfmjpaa", sum := "41106631f8a8c2bb690c16f2463eb19606ca28ab259b8a4f170827a3cc944b7b", func := "cadastre/cadastrelaw18.LinearBack", spec := "linearBack", unfollowed := true, recurses := true, apart := false, narrowed := true }
def LinearBackUptoSaid : Prop := linearBackUptoRow.holds Try.pinned (OpenSpec.upto linearBackSpec)

/-- 'cadastrelaw18.LinearHolds', WHERE WHAT IT READS IS OF BULK AT MOST 1048576: true; the input reads as it did. -/
def linearHoldsUptoRow : OpenClaim := { program := "ytplpgneckfmjpaa", sum := "41106631f8a8c2bb690c16f2463eb19606ca28ab259b8a4f170827a3cc944b7b", func := "cadastre/cadastrelaw18.LinearHolds", spec := "linearHolds", unfollowed := true, recurses := true, apart := false, narrowed := true }
def LinearHoldsUptoSaid : Prop := linearHoldsUptoRow.holds Try.pinned (OpenSpec.upto linearHoldsSpec)

/-- 'cadastrelaw18.LinearOrder', WHERE WHAT IT READS IS OF BULK AT MOST 1048576: true; the input reads as it did. -/
def linearOrderUptoRow : OpenClaim := { program := "ytplpgneckfmjpaa", sum := "41106631f8a8c2bb690c16f2463eb19606ca28ab259b8a4f170827a3cc944b7b", func := "cadastre/cadastrelaw18.LinearOrder", spec := "linearOrder", unfollowed := true, recurses := true, apart := false, narrowed := true }
def LinearOrderUptoSaid : Prop := linearOrderUptoRow.holds Try.pinned (OpenSpec.upto linearOrderSpec)

end Rows
end Go.Proofs.Ytplpgneckfmjpaa
