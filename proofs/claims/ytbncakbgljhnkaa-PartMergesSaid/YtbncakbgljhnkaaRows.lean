/-
  No cell of these rows narrows 'for every input' (looked for: loops, veiled, ifaces, maps, wideKeys, modest, calm, conditions, laid).
  DERIVED. THE GIVEN ROWS OF THIS SEAT. 6 by the template 'for every input the law returns true; each argument reads behind the call as it read before'; 0 by the template 'total and deterministic' (their statements: YtbncakbgljhnkaaTotals.lean).
  GIVEN WITH THE SEED: the statements are not yours to turn. If you find one false, say at which input.
  Laid BY PROGRAM, IN A SANDBOX (cutbox-rows.mjs): the forced cells as the released guide's own fill.sh prints them over the translation 1e6b18d719346439… (all of the seat's roots in one cut). By AI agents, Wed Nov 11 2026. No macro, syntax, notation, axiom, sorry.
-/
import Derived.Test.YtbncakbgljhnkaaChecked
import GoSem.Claim
import GoSem.ClaimJoined
import GoSem.ClaimMapViews
import Derived.JoinedTies
import Derived.KernelRfl
namespace Go.Proofs.Ytbncakbgljhnkaa
/- THE CELL 'sum', in the pinned program and in every row, IS THE sha256 OF THE DUMP (.gsa) THAT YtbncakbgljhnkaaProg.lean LOADS. Nothing in Lean hashes anything: it is a label: what it is worth is what the hold of that sum in a sandbox is worth. -/
noncomputable def Try.pinned : Pinned := { name := "ytbncakbgljhnkaa", sum := "1e6b18d719346439e052cf2131872d981f61d7d0e29e5a6e5a0ef591165ad0a1", checked := Try.checked }
namespace Rows
def none {H : Type} : Left H := { results := [], args := [] }

/-- 'cadastrelaw11.PartHalves': WHATEVER THE INPUT: true; the input reads as it did. -/
def partHalvesSpec : ChangeSpec := { name := "partHalves", fn := fun _ => fun
  | [d1, d2, d3] => { results := [.lit (.bool true)], args := [d1, d2, d3] }
  | _ => none }
def partHalvesRow : OpenClaim := { program := "ytbncakbgljhnkaa", sum := "1e6b18d719346439e052cf2131872d981f61d7d0e29e5a6e5a0ef591165ad0a1", func := "cadastre/cadastrelaw11.PartHalves", spec := "partHalves", unfollowed := true, recurses := true, apart := false }
def PartHalvesSaid : Prop := partHalvesRow.holds Try.pinned (OpenSpec.ofChange partHalvesSpec)

/-- ITS FALSE NEIGHBOUR: 'it returns false'. Refute it at one input. -/
def partHalvesWrong : ChangeSpec := { name := "partHalves", fn := fun _ => fun
  | [d1, d2, d3] => { results := [.lit (.bool false)], args := [d1, d2, d3] }
  | _ => none }
def PartHalvesWrongFalsely : Prop := partHalvesRow.holds Try.pinned (OpenSpec.ofChange partHalvesWrong)

/-- 'cadastrelaw11.PartSplits': WHATEVER THE INPUT: true; the input reads as it did. -/
def partSplitsSpec : ChangeSpec := { name := "partSplits", fn := fun _ => fun
  | [d] => { results := [.lit (.bool true)], args := [d] }
  | _ => none }
def partSplitsRow : OpenClaim := { program := "ytbncakbgljhnkaa", sum := "1e6b18d719346439e052cf2131872d981f61d7d0e29e5a6e5a0ef591165ad0a1", func := "cadastre/cadastrelaw11.PartSplits", spec := "partSplits", unfollowed := true, recurses := true, apart := false }
def PartSplitsSaid : Prop := partSplitsRow.holds Try.pinned (OpenSpec.ofChange partSplitsSpec)

/-- ITS FALSE NEIGHBOUR: 'it returns false'. Refute it at one input. -/
def partSplitsWrong : ChangeSpec := { name := "partSplits", fn := fun _ => fun
  | [d] => { results := [.lit (.bool false)], args := [d] }
  | _ => none }
def PartSplitsWrongFalsely : Prop := partSplitsRow.holds Try.pinned (OpenSpec.ofChange partSplitsWrong)

/-- 'cadastrelaw11.PartBack': WHATEVER THE INPUT: true; the input reads as it did. -/
def partBackSpec : ChangeSpec := { name := "partBack", fn := fun _ => fun
  | [d1, d2, d3] => { results := [.lit (.bool true)], args := [d1, d2, d3] }
  | _ => none }
def partBackRow : OpenClaim := { program := "ytbncakbgljhnkaa", sum := "1e6b18d719346439e052cf2131872d981f61d7d0e29e5a6e5a0ef591165ad0a1", func := "cadastre/cadastrelaw11.PartBack", spec := "partBack", unfollowed := true, recurses := true, apart := false }
def PartBackSaid : Prop := partBackRow.holds Try.pinned (OpenSpec.ofChange partBackSpec)

/-- ITS FALSE NEIGHBOUR: 'it returns false'. Refute it at one input. -/
def partBackWrong : ChangeSpec := { name := "partBack", fn := fun _ => fun
  | [d1, d2, d3] => { results := [.lit (.bool false)], args := [d1, d2, d3] }
  | _ => none }
def PartBackWrongFalsely : Prop := partBackRow.holds Try.pinned (OpenSpec.ofChange partBackWrong)

/-- 'cadastrelaw11.PartAll': WHATEVER THE INPUT: true; the input reads as it did. -/
def partAllSpec : ChangeSpec := { name := "partAll", fn := fun _ => fun
  | [d1, d2, d3] => { results := [.lit (.bool true)], args := [d1, d2, d3] }
  | _ => none }
def partAllRow : OpenClaim := { program := "ytbncakbgljhnkaa", sum := "1e6b18d719346439e052cf2131872d981f61d7d0e29e5a6e5a0ef591165ad0a1", func := "cadastre/cadastrelaw11.PartAll", spec := "partAll", unfollowed := true, recurses := true, apart := false }
def PartAllSaid : Prop := partAllRow.holds Try.pinned (OpenSpec.ofChange partAllSpec)

/-- ITS FALSE NEIGHBOUR: 'it returns false'. Refute it at one input. -/
def partAllWrong : ChangeSpec := { name := "partAll", fn := fun _ => fun
  | [d1, d2, d3] => { results := [.lit (.bool false)], args := [d1, d2, d3] }
  | _ => none }
def PartAllWrongFalsely : Prop := partAllRow.holds Try.pinned (OpenSpec.ofChange partAllWrong)

/-- 'cadastrelaw11.PartParts': WHATEVER THE INPUT: true; the input reads as it did. -/
def partPartsSpec : ChangeSpec := { name := "partParts", fn := fun _ => fun
  | [d1, d2, d3] => { results := [.lit (.bool true)], args := [d1, d2, d3] }
  | _ => none }
def partPartsRow : OpenClaim := { program := "ytbncakbgljhnkaa", sum := "1e6b18d719346439e052cf2131872d981f61d7d0e29e5a6e5a0ef591165ad0a1", func := "cadastre/cadastrelaw11.PartParts", spec := "partParts", unfollowed := true, recurses := true, apart := false }
def PartPartsSaid : Prop := partPartsRow.holds Try.pinned (OpenSpec.ofChange partPartsSpec)

/-- ITS FALSE NEIGHBOUR: 'it returns false'. Refute it at one input. -/
def partPartsWrong : ChangeSpec := { name := "partParts", fn := fun _ => fun
  | [d1, d2, d3] => { results := [.lit (.bool false)], args := [d1, d2, d3] }
  | _ => none }
def PartPartsWrongFalsely : Prop := partPartsRow.holds Try.pinned (OpenSpec.ofChange partPartsWrong)

/-- 'cadastrelaw11.PartMerges': WHATEVER THE INPUT: true; the input reads as it did. -/
def partMergesSpec : ChangeSpec := { name := "partMerges", fn := fun _ => fun
  | [d1, d2] => { results := [.lit (.bool true)], args := [d1, d2] }
  | _ => none }
def partMergesRow : OpenClaim := { program := "ytbncakbgljhnkaa", sum := "1e6b18d719346439e052cf2131872d981f61d7d0e29e5a6e5a0ef591165ad0a1", func := "cadastre/cadastrelaw11.PartMerges", spec := "partMerges", unfollowed := true, recurses := true, apart := false }
def PartMergesSaid : Prop := partMergesRow.holds Try.pinned (OpenSpec.ofChange partMergesSpec)

/-- ITS FALSE NEIGHBOUR: 'it returns false'. Refute it at one input. -/
def partMergesWrong : ChangeSpec := { name := "partMerges", fn := fun _ => fun
  | [d1, d2] => { results := [.lit (.bool false)], args := [d1, d2] }
  | _ => none }
def PartMergesWrongFalsely : Prop := partMergesRow.holds Try.pinned (OpenSpec.ofChange partMergesWrong)

/- THE SECOND FORM. 'bulk': how many values and letters a reading holds, each counted each time it is reached (what is shared counts as often as it is met; a slice's spare places count too). A statement '..UptoSaid' is the law's where the arguments, and the package variables that the reading takes, are together of bulk at most 1048576: NARROWER than '..Said'. Prove '..Said' where nothing that the law and all that it calls make is longer than what came in: it says more and counts as full. Else prove '..UptoSaid'. A law counts once. -/
mutual
def uptoBulk {H : Type} : DataW H → Nat
  | .lit (.string bytes) => bytes.length + 1
  | .lit _ => 1
  | .nil => 1
  | .ptr d => uptoBulk d + 1
  | .slice elems spare => uptoBulkAll elems + uptoBulkAll spare + 1
  | .agg parts => uptoBulkAll parts + 1
  | .iface _ d => uptoBulk d + 1
  | .map entries => uptoBulkEntries entries + 1
  | .held _ => 1
def uptoBulkAll {H : Type} : List (DataW H) → Nat
  | [] => 0
  | d :: r => uptoBulk d + uptoBulkAll r
def uptoBulkEntries {H : Type} : List (Lit × DataW H) → Nat
  | [] => 0
  | x :: r => uptoBulkEntry x + uptoBulkEntries r
def uptoBulkEntry {H : Type} : Lit × DataW H → Nat
  | (.string bytes, d) => bytes.length + uptoBulk d + 1
  | (_, d) => uptoBulk d + 1
 end
def uptoSmall : (H : Type) → List (DataW H) → Bool := fun _ ds => decide (uptoBulkAll ds ≤ 1048576)
def OpenSpec.upto (s : _root_.Go.ChangeSpec) : _root_.Go.OpenSpec := { _root_.Go.OpenSpec.ofChange s with cond := some uptoSmall }

/-- 'cadastrelaw11.PartHalves', WHERE WHAT IT READS IS OF BULK AT MOST 1048576: true; the input reads as it did. -/
def partHalvesUptoRow : OpenClaim := { program := "ytbncakbgljhnkaa", sum := "1e6b18d719346439e052cf2131872d981f61d7d0e29e5a6e5a0ef591165ad0a1", func := "cadastre/cadastrelaw11.PartHalves", spec := "partHalves", unfollowed := true, recurses := true, apart := false, narrowed := true }
def PartHalvesUptoSaid : Prop := partHalvesUptoRow.holds Try.pinned (OpenSpec.upto partHalvesSpec)

/-- 'cadastrelaw11.PartSplits', WHERE WHAT IT READS IS OF BULK AT MOST 1048576: true; the input reads as it did. -/
def partSplitsUptoRow : OpenClaim := { program := "ytbncakbgljhnkaa", sum := "1e6b18d719346439e052cf2131872d981f61d7d0e29e5a6e5a0ef591165ad0a1", func := "cadastre/cadastrelaw11.PartSplits", spec := "partSplits", unfollowed := true, recurses := true, apart := false, narrowed := true }
def PartSplitsUptoSaid : Prop := partSplitsUptoRow.holds Try.pinned (OpenSpec.upto partSplitsSpec)

/-- 'cadastrelaw11.PartBack', WHERE WHAT IT READS IS OF BULK AT MOST 1048576: true; the input reads as it did. -/
def partBackUptoRow : OpenClaim := { program := "ytbncakbgljhnkaa", sum := "1e6b18d719346439e052cf2131872d981f61d7d0e29e5a6e5a0ef591165ad0a1", func := "cadastre/cadastrelaw11.PartBack", spec := "partBack", unfollowed := true, recurses := true, apart := false, narrowed := true }
def PartBackUptoSaid : Prop := partBackUptoRow.holds Try.pinned (OpenSpec.upto partBackSpec)

/-- 'cadastrelaw11.PartAll', WHERE WHAT IT READS IS OF BULK AT MOST 1048576: true; the input reads as it did. -/
def partAllUptoRow : OpenClaim := { program := "ytbncakbgljhnkaa", sum := "1e6b18d719346439e052cf2131872d981f61d7d0e29e5a6e5a0ef591165ad0a1", func := "cadastre/cadastrelaw11.PartAll", spec := "partAll", unfollowed := true, recurses := true, apart := false, narrowed := true }
def PartAllUptoSaid : Prop := partAllUptoRow.holds Try.pinned (OpenSpec.upto partAllSpec)

/-- 'cadastrelaw11.PartParts', WHERE WHAT IT READS IS OF BULK AT MOST 1048576: true; the input reads as it did. -/
def partPartsUptoRow : OpenClaim := { program := "ytbncakbgljhnkaa", sum := "1e6b18d719346439e052cf2131872d981f61d7d0e29e5a6e5a0ef591165ad0a1", func := "cadastre/cadastrelaw11.PartParts", spec := "partParts", unfollowed := true, recurses := true, apart := false, narrowed := true }
def PartPartsUptoSaid : Prop := partPartsUptoRow.holds Try.pinned (OpenSpec.upto partPartsSpec)

/-- 'cadastrelaw11.PartMerges', WHERE WHAT IT READS IS OF BULK AT MOST 1048576: true; the input reads as it did. -/
def partMergesUptoRow : OpenClaim := { program := "ytbncakbgljhnkaa", sum := "1e6b18d719346439e052cf2131872d981f61d7d0e29e5a6e5a0ef591165ad0a1", func := "cadastre/cadastrelaw11.PartMerges", spec := "partMerges", unfollowed := true, recurses := true, apart := false, narrowed := true }
def PartMergesUptoSaid : Prop := partMergesUptoRow.holds Try.pinned (OpenSpec.upto partMergesSpec)

end Rows
end Go.Proofs.Ytbncakbgljhnkaa
