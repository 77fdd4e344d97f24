/-
  No cell of these rows narrows 'for every input' (looked for: loops, veiled, ifaces, maps, wideKeys, modest, calm, conditions, laid).
  DERIVED. THE GIVEN ROWS OF THIS SEAT. 6 by the template 'for every input the law returns true; each argument reads behind the call as it read before'; 0 by the template 'total and deterministic' (their statements: YtifpigcgkpmheaaTotals.lean).
  GIVEN WITH THE SEED: the statements are not yours to turn. If you find one false, say at which input.
  Laid BY PROGRAM, IN A SANDBOX (cutbox-rows.mjs): the forced cells as the released guide's own fill.sh prints them over the translation b961ea4c240c3327… (all of the seat's roots in one cut). By AI agents, Wed Nov 11 2026. No macro, syntax, notation, axiom, sorry.
-/
import Derived.Test.YtifpigcgkpmheaaChecked
import GoSem.Claim
import GoSem.ClaimJoined
import GoSem.ClaimMapViews
import Derived.JoinedTies
import Derived.KernelRfl
namespace Go.Proofs.Ytifpigcgkpmheaa
/- THE CELL 'sum', in the pinned program and in every row, IS THE sha256 OF THE DUMP (.gsa) THAT YtifpigcgkpmheaaProg.lean LOADS. Nothing in Lean hashes anything: it is a label: what it is worth is what the hold of that sum in a sandbox is worth. -/
noncomputable def Try.pinned : Pinned := { name := "ytifpigcgkpmheaa", sum := "b961ea4c240c332759c69448a1c54fa9a8d82b100f32d06f0537471d889eb915", checked := Try.checked }
namespace Rows
def none {H : Type} : Left H := { results := [], args := [] }

/-- 'cadastrelaw12.ScaleDecodes': WHATEVER THE INPUT: true; the input reads as it did. -/
def scaleDecodesSpec : ChangeSpec := { name := "scaleDecodes", fn := fun _ => fun
  | [d1, d2] => { results := [.lit (.bool true)], args := [d1, d2] }
  | _ => none }
def scaleDecodesRow : OpenClaim := { program := "ytifpigcgkpmheaa", sum := "b961ea4c240c332759c69448a1c54fa9a8d82b100f32d06f0537471d889eb915", func := "cadastre/cadastrelaw12.ScaleDecodes", spec := "scaleDecodes", inPlace := ["slices.overlaps[uint32]"], unfollowed := true, recurses := true, apart := false }
def ScaleDecodesSaid : Prop := scaleDecodesRow.holds Try.pinned (OpenSpec.ofChange scaleDecodesSpec)

/-- ITS FALSE NEIGHBOUR: 'it returns false'. Refute it at one input. -/
def scaleDecodesWrong : ChangeSpec := { name := "scaleDecodes", fn := fun _ => fun
  | [d1, d2] => { results := [.lit (.bool false)], args := [d1, d2] }
  | _ => none }
def ScaleDecodesWrongFalsely : Prop := scaleDecodesRow.holds Try.pinned (OpenSpec.ofChange scaleDecodesWrong)

/-- 'cadastrelaw12.ScaleHolds': WHATEVER THE INPUT: true; the input reads as it did. -/
def scaleHoldsSpec : ChangeSpec := { name := "scaleHolds", fn := fun _ => fun
  | [d1, d2, d3] => { results := [.lit (.bool true)], args := [d1, d2, d3] }
  | _ => none }
def scaleHoldsRow : OpenClaim := { program := "ytifpigcgkpmheaa", sum := "b961ea4c240c332759c69448a1c54fa9a8d82b100f32d06f0537471d889eb915", func := "cadastre/cadastrelaw12.ScaleHolds", spec := "scaleHolds", inPlace := ["slices.overlaps[uint32]"], unfollowed := true, recurses := true, apart := false }
def ScaleHoldsSaid : Prop := scaleHoldsRow.holds Try.pinned (OpenSpec.ofChange scaleHoldsSpec)

/-- ITS FALSE NEIGHBOUR: 'it returns false'. Refute it at one input. -/
def scaleHoldsWrong : ChangeSpec := { name := "scaleHolds", fn := fun _ => fun
  | [d1, d2, d3] => { results := [.lit (.bool false)], args := [d1, d2, d3] }
  | _ => none }
def ScaleHoldsWrongFalsely : Prop := scaleHoldsRow.holds Try.pinned (OpenSpec.ofChange scaleHoldsWrong)

/-- 'cadastrelaw12.ScaleBack': WHATEVER THE INPUT: true; the input reads as it did. -/
def scaleBackSpec : ChangeSpec := { name := "scaleBack", fn := fun _ => fun
  | [d] => { results := [.lit (.bool true)], args := [d] }
  | _ => none }
def scaleBackRow : OpenClaim := { program := "ytifpigcgkpmheaa", sum := "b961ea4c240c332759c69448a1c54fa9a8d82b100f32d06f0537471d889eb915", func := "cadastre/cadastrelaw12.ScaleBack", spec := "scaleBack", inPlace := ["slices.overlaps[uint32]"], unfollowed := true, recurses := true, apart := false }
def ScaleBackSaid : Prop := scaleBackRow.holds Try.pinned (OpenSpec.ofChange scaleBackSpec)

/-- ITS FALSE NEIGHBOUR: 'it returns false'. Refute it at one input. -/
def scaleBackWrong : ChangeSpec := { name := "scaleBack", fn := fun _ => fun
  | [d] => { results := [.lit (.bool false)], args := [d] }
  | _ => none }
def ScaleBackWrongFalsely : Prop := scaleBackRow.holds Try.pinned (OpenSpec.ofChange scaleBackWrong)

/-- 'cadastrelaw12.ScaleMeets': WHATEVER THE INPUT: true; the input reads as it did. -/
def scaleMeetsSpec : ChangeSpec := { name := "scaleMeets", fn := fun _ => fun
  | [d1, d2, d3] => { results := [.lit (.bool true)], args := [d1, d2, d3] }
  | _ => none }
def scaleMeetsRow : OpenClaim := { program := "ytifpigcgkpmheaa", sum := "b961ea4c240c332759c69448a1c54fa9a8d82b100f32d06f0537471d889eb915", func := "cadastre/cadastrelaw12.ScaleMeets", spec := "scaleMeets", inPlace := ["slices.overlaps[uint32]"], unfollowed := true, recurses := true, apart := false }
def ScaleMeetsSaid : Prop := scaleMeetsRow.holds Try.pinned (OpenSpec.ofChange scaleMeetsSpec)

/-- ITS FALSE NEIGHBOUR: 'it returns false'. Refute it at one input. -/
def scaleMeetsWrong : ChangeSpec := { name := "scaleMeets", fn := fun _ => fun
  | [d1, d2, d3] => { results := [.lit (.bool false)], args := [d1, d2, d3] }
  | _ => none }
def ScaleMeetsWrongFalsely : Prop := scaleMeetsRow.holds Try.pinned (OpenSpec.ofChange scaleMeetsWrong)

/-- 'cadastrelaw12.ScaleScripts': WHATEVER THE INPUT: true; the input reads as it did. -/
def scaleScriptsSpec : ChangeSpec := { name := "scaleScripts", fn := fun _ => fun
  | [d1, d2] => { results := [.lit (.bool true)], args := [d1, d2] }
  | _ => none }
def scaleScriptsRow : OpenClaim := { program := "ytifpigcgkpmheaa", sum := "b961ea4c240c332759c69448a1c54fa9a8d82b100f32d06f0537471d889eb915", func := "cadastre/cadastrelaw12.ScaleScripts", spec := "scaleScripts", inPlace := ["slices.overlaps[uint32]"], unfollowed := true, recurses := true, apart := false }
def ScaleScriptsSaid : Prop := scaleScriptsRow.holds Try.pinned (OpenSpec.ofChange scaleScriptsSpec)

/-- ITS FALSE NEIGHBOUR: 'it returns false'. Refute it at one input. -/
def scaleScriptsWrong : ChangeSpec := { name := "scaleScripts", fn := fun _ => fun
  | [d1, d2] => { results := [.lit (.bool false)], args := [d1, d2] }
  | _ => none }
def ScaleScriptsWrongFalsely : Prop := scaleScriptsRow.holds Try.pinned (OpenSpec.ofChange scaleScriptsWrong)

/-- 'cadastrelaw12.ScaleNil': WHATEVER THE INPUT: true; the input reads as it did. -/
def scaleNilSpec : ChangeSpec := { name := "scaleNil", fn := fun _ => fun
  | [d] => { results := [.lit (.bool true)], args := [d] }
  | _ => none }
def scaleNilRow : OpenClaim := { program := "ytifpigcgkpmheaa", sum := "b961ea4c240c332759c69448a1c54fa9a8d82b100f32d06f0537471d889eb915", func := "cadastre/cadastrelaw12.ScaleNil", spec := "scaleNil", inPlace := ["slices.overlaps[uint32]"], unfollowed := true, recurses := true, apart := false }
def ScaleNilSaid : Prop := scaleNilRow.holds Try.pinned (OpenSpec.ofChange scaleNilSpec)

/-- ITS FALSE NEIGHBOUR: 'it returns false'. Refute it at one input. -/
def scaleNilWrong : ChangeSpec := { name := "scaleNil", fn := fun _ => fun
  | [d] => { results := [.lit (.bool false)], args := [d] }
  | _ => none }
def ScaleNilWrongFalsely : Prop := scaleNilRow.holds Try.pinned (OpenSpec.ofChange scaleNilWrong)

/- THE SECOND FORM. 'bulk': how many values and letters a reading holds, each counted each time it is reached (what is shared counts as often as it is met; a slice's spare places count too). A statement '..UptoSaid' is the law's where the arguments, and the package variables that the reading takes, are together of bulk at most 1048576: NARROWER than '..Said'. Prove '..Said' where nothing that the law and all that it calls make is longer than what came in: it says more and counts as full. Else prove '..UptoSaid'. A law counts once. -/
mutual
def uptoBulk {H : Type} : DataW H → Nat
  | .lit (.string bytes) => bytes.length + 1
  | .lit _ => 1
  | .nil => 1
  | .ptr d => uptoBulk d + 1
  | .slice elems spare => uptoBulkAll elems + uptoBulkAll spare + 1
  | .agg parts => uptoBulkAll parts + 1
  | .iface _ d => uptoBulk d + 1
  | .map entries => uptoBulkEntries entries + 1
  | .held _ => 1
def uptoBulkAll {H : Type} : List (DataW H) → Nat
  | [] => 0
  | d :: r => uptoBulk d + uptoBulkAll r
def uptoBulkEntries {H : Type} : List (Lit × DataW H) → Nat
  | [] => 0
  | x :: r => uptoBulkEntry x + uptoBulkEntries r
def uptoBulkEntry {H : Type} : Lit × DataW H → Nat
  | (.string bytes, d) => bytes.length + uptoBulk d + 1
  | (_, d) => uptoBulk d + 1
 end
def uptoSmall : (H : Type) → List (DataW H) → Bool := fun _ ds => decide (uptoBulkAll ds ≤ 1048576)
def OpenSpec.upto (s : _root_.Go.ChangeSpec) : _root_.Go.OpenSpec := { _root_.Go.OpenSpec.ofChange s with cond := some uptoSmall }

/-- 'cadastrelaw12.ScaleDecodes', WHERE WHAT IT READS IS OF BULK AT MOST 1048576: true; the input reads as it did. -/
def scaleDecodesUptoRow : OpenClaim := { program := "ytifpigcgkpmheaa", sum := "b961ea4c240c332759c69448a1c54fa9a8d82b100f32d06f0537471d889eb915", func := "cadastre/cadastrelaw12.ScaleDecodes", spec := "scaleDecodes", inPlace := ["slices.overlaps[uint32]"], unfollowed := true, recurses := true, apart := false, narrowed := true }
def ScaleDecodesUptoSaid : Prop := scaleDecodesUptoRow.holds Try.pinned (OpenSpec.upto scaleDecodesSpec)

/-- 'cadastrelaw12.ScaleHolds', WHERE WHAT IT READS IS OF BULK AT MOST 1048576: true; the input reads as it did. -/
def scaleHoldsUptoRow : OpenClaim := { program := "ytifpigcgkpmheaa", sum := "b961ea4c240c332759c69448a1c54fa9a8d82b100f32d06f0537471d889eb915", func := "cadastre/cadastrelaw12.ScaleHolds", spec := "scaleHolds", inPlace := ["slices.overlaps[uint32]"], unfollowed := true, recurses := true, apart := false, narrowed := true }
def ScaleHoldsUptoSaid : Prop := scaleHoldsUptoRow.holds Try.pinned (OpenSpec.upto scaleHoldsSpec)

/-- 'cadastrelaw12.ScaleBack', WHERE WHAT IT READS IS OF BULK AT MOST 1048576: true; the input reads as it did. -/
def scaleBackUptoRow : OpenClaim := { program := "ytifpigcgkpmheaa", sum := "b961ea4c240c332759c69448a1c54fa9a8d82b100f32d06f0537471d889eb915", func := "cadastre/cadastrelaw12.ScaleBack", spec := "scaleBack", inPlace := ["slices.overlaps[uint32]"], unfollowed := true, recurses := true, apart := false, narrowed := true }
def ScaleBackUptoSaid : Prop := scaleBackUptoRow.holds Try.pinned (OpenSpec.upto scaleBackSpec)

/-- 'cadastrelaw12.ScaleMeets', WHERE WHAT IT READS IS OF BULK AT MOST 1048576: true; the input reads as it did. -/
def scaleMeetsUptoRow : OpenClaim := { program := "ytifpigcgkpmheaa", sum := "b961ea4c240c332759c69448a1c54fa9a8d82b100f32d06f0537471d889eb915", func := "cadastre/cadastrelaw12.ScaleMeets", spec := "scaleMeets", inPlace := ["slices.overlaps[uint32]"], unfollowed := true, recurses := true, apart := false, narrowed := true }
def ScaleMeetsUptoSaid : Prop := scaleMeetsUptoRow.holds Try.pinned (OpenSpec.upto scaleMeetsSpec)

/-- 'cadastrelaw12.ScaleScripts', WHERE WHAT IT READS IS OF BULK AT MOST 1048576: true; the input reads as it did. -/
def scaleScriptsUptoRow : OpenClaim := { program := "ytifpigcgkpmheaa", sum := "b961ea4c240c332759c69448a1c54fa9a8d82b100f32d06f0537471d889eb915", func := "cadastre/cadastrelaw12.ScaleScripts", spec := "scaleScripts", inPlace := ["slices.overlaps[uint32]"], unfollowed := true, recurses := true, apart := false, narrowed := true }
def ScaleScriptsUptoSaid : Prop := scaleScriptsUptoRow.holds Try.pinned (OpenSpec.upto scaleScriptsSpec)

/-- 'cadastrelaw12.ScaleNil', WHERE WHAT IT READS IS OF BULK AT MOST 1048576: true; the input reads as it did. -/
def scaleNilUptoRow : OpenClaim := { program := "ytifpigcgkpmheaa", sum := "b961ea4c240c332759c69448a1c54fa9a8d82b100f32d06f0537471d889eb915", func := "cadastre/cadastrelaw12.ScaleNil", spec := "scaleNil", inPlace := ["slices.overlaps[uint32]"], unfollowed := true, recurses := true, apart := false, narrowed := true }
def ScaleNilUptoSaid : Prop := scaleNilUptoRow.holds Try.pinned (OpenSpec.upto scaleNilSpec)

end Rows
end Go.Proofs.Ytifpigcgkpmheaa
