/-
  No cell of these rows narrows 'for every input' (looked for: loops, veiled, ifaces, maps, wideKeys, modest, calm, conditions, laid).
  DERIVED. THE GIVEN ROWS OF THIS SEAT. 5 by the template 'for every input the law returns true; each argument reads behind the call as it read before'; 0 by the template 'total and deterministic' (their statements: YteckbcfigklkpaaTotals.lean).
  GIVEN WITH THE SEED: the statements are not yours to turn. If you find one false, say at which input.
  Laid BY PROGRAM, IN A SANDBOX (cutbox-rows.mjs): the forced cells as the released guide's own fill.sh prints them over the translation f1ef9fb741fe2805… (all of the seat's roots in one cut). By AI agents, Wed Nov 11 2026. No macro, syntax, notation, axiom, sorry.
-/
import Derived.Test.YteckbcfigklkpaaChecked
import GoSem.Claim
import GoSem.ClaimJoined
import GoSem.ClaimMapViews
import Derived.JoinedTies
import Derived.KernelRfl
namespace Go.Proofs.Yteckbcfigklkpaa
/- THE CELL 'sum', in the pinned program and in every row, IS THE sha256 OF THE DUMP (.gsa) THAT YteckbcfigklkpaaProg.lean LOADS. Nothing in Lean hashes anything: it is a label: what it is worth is what the hold of that sum in a sandbox is worth. -/
noncomputable def Try.pinned : Pinned := { name := "yteckbcfigklkpaa", sum := "f1ef9fb741fe2805dfdbd26017a5bcdd4540d6965c5e8bd44180def46dfcefe5", checked := Try.checked }
namespace Rows
def none {H : Type} : Left H := { results := [], args := [] }

/-- 'cadastrelaw09.AtlasScripts': WHATEVER THE INPUT: true; the input reads as it did. -/
def atlasScriptsSpec : ChangeSpec := { name := "atlasScripts", fn := fun _ => fun
  | [d1, d2] => { results := [.lit (.bool true)], args := [d1, d2] }
  | _ => none }
def atlasScriptsRow : OpenClaim := { program := "yteckbcfigklkpaa", sum := "f1ef9fb741fe2805dfdbd26017a5bcdd4540d6965c5e8bd44180def46dfcefe5", func := "cadastre/cadastrelaw09.AtlasScripts", spec := "atlasScripts", inPlace := ["slices.overlaps[cadastre/api.Record]"], unfollowed := true, recurses := true, apart := false }
def AtlasScriptsSaid : Prop := atlasScriptsRow.holds Try.pinned (OpenSpec.ofChange atlasScriptsSpec)

/-- ITS FALSE NEIGHBOUR: 'it returns false'. Refute it at one input. -/
def atlasScriptsWrong : ChangeSpec := { name := "atlasScripts", fn := fun _ => fun
  | [d1, d2] => { results := [.lit (.bool false)], args := [d1, d2] }
  | _ => none }
def AtlasScriptsWrongFalsely : Prop := atlasScriptsRow.holds Try.pinned (OpenSpec.ofChange atlasScriptsWrong)

/-- 'cadastrelaw09.AtlasNil': WHATEVER THE INPUT: true; the input reads as it did. -/
def atlasNilSpec : ChangeSpec := { name := "atlasNil", fn := fun _ => fun
  | [d] => { results := [.lit (.bool true)], args := [d] }
  | _ => none }
def atlasNilRow : OpenClaim := { program := "yteckbcfigklkpaa", sum := "f1ef9fb741fe2805dfdbd26017a5bcdd4540d6965c5e8bd44180def46dfcefe5", func := "cadastre/cadastrelaw09.AtlasNil", spec := "atlasNil", inPlace := ["slices.overlaps[cadastre/api.Record]"], unfollowed := true, recurses := true, apart := false }
def AtlasNilSaid : Prop := atlasNilRow.holds Try.pinned (OpenSpec.ofChange atlasNilSpec)

/-- ITS FALSE NEIGHBOUR: 'it returns false'. Refute it at one input. -/
def atlasNilWrong : ChangeSpec := { name := "atlasNil", fn := fun _ => fun
  | [d] => { results := [.lit (.bool false)], args := [d] }
  | _ => none }
def AtlasNilWrongFalsely : Prop := atlasNilRow.holds Try.pinned (OpenSpec.ofChange atlasNilWrong)

/-- 'cadastrelaw09.AtlasBack': WHATEVER THE INPUT: true; the input reads as it did. -/
def atlasBackSpec : ChangeSpec := { name := "atlasBack", fn := fun _ => fun
  | [d] => { results := [.lit (.bool true)], args := [d] }
  | _ => none }
def atlasBackRow : OpenClaim := { program := "yteckbcfigklkpaa", sum := "f1ef9fb741fe2805dfdbd26017a5bcdd4540d6965c5e8bd44180def46dfcefe5", func := "cadastre/cadastrelaw09.AtlasBack", spec := "atlasBack", inPlace := ["slices.overlaps[cadastre/api.Record]"], unfollowed := true, recurses := true, apart := false }
def AtlasBackSaid : Prop := atlasBackRow.holds Try.pinned (OpenSpec.ofChange atlasBackSpec)

/-- ITS FALSE NEIGHBOUR: 'it returns false'. Refute it at one input. -/
def atlasBackWrong : ChangeSpec := { name := "atlasBack", fn := fun _ => fun
  | [d] => { results := [.lit (.bool false)], args := [d] }
  | _ => none }
def AtlasBackWrongFalsely : Prop := atlasBackRow.holds Try.pinned (OpenSpec.ofChange atlasBackWrong)

/-- 'cadastrelaw09.AtlasCut': WHATEVER THE INPUT: true; the input reads as it did. -/
def atlasCutSpec : ChangeSpec := { name := "atlasCut", fn := fun _ => fun
  | [d] => { results := [.lit (.bool true)], args := [d] }
  | _ => none }
def atlasCutRow : OpenClaim := { program := "yteckbcfigklkpaa", sum := "f1ef9fb741fe2805dfdbd26017a5bcdd4540d6965c5e8bd44180def46dfcefe5", func := "cadastre/cadastrelaw09.AtlasCut", spec := "atlasCut", inPlace := ["slices.overlaps[cadastre/api.Record]"], unfollowed := true, recurses := true, apart := false }
def AtlasCutSaid : Prop := atlasCutRow.holds Try.pinned (OpenSpec.ofChange atlasCutSpec)

/-- ITS FALSE NEIGHBOUR: 'it returns false'. Refute it at one input. -/
def atlasCutWrong : ChangeSpec := { name := "atlasCut", fn := fun _ => fun
  | [d] => { results := [.lit (.bool false)], args := [d] }
  | _ => none }
def AtlasCutWrongFalsely : Prop := atlasCutRow.holds Try.pinned (OpenSpec.ofChange atlasCutWrong)

/-- 'cadastrelaw09.AtlasAny': WHATEVER THE INPUT: true; the input reads as it did. -/
def atlasAnySpec : ChangeSpec := { name := "atlasAny", fn := fun _ => fun
  | [d1, d2] => { results := [.lit (.bool true)], args := [d1, d2] }
  | _ => none }
def atlasAnyRow : OpenClaim := { program := "yteckbcfigklkpaa", sum := "f1ef9fb741fe2805dfdbd26017a5bcdd4540d6965c5e8bd44180def46dfcefe5", func := "cadastre/cadastrelaw09.AtlasAny", spec := "atlasAny", inPlace := ["slices.overlaps[cadastre/api.Record]"], unfollowed := true, recurses := true, apart := false }
def AtlasAnySaid : Prop := atlasAnyRow.holds Try.pinned (OpenSpec.ofChange atlasAnySpec)

/-- ITS FALSE NEIGHBOUR: 'it returns false'. Refute it at one input. -/
def atlasAnyWrong : ChangeSpec := { name := "atlasAny", fn := fun _ => fun
  | [d1, d2] => { results := [.lit (.bool false)], args := [d1, d2] }
  | _ => none }
def AtlasAnyWrongFalsely : Prop := atlasAnyRow.holds Try.pinned (OpenSpec.ofChange atlasAnyWrong)

/- THE SECOND FORM. 'bulk': how many values and letters a reading holds, each counted each time it is reached (what is shared counts as often as it is met; a slice's spare places count too). A statement '..UptoSaid' is the law's where the arguments, and the package variables that the reading takes, are together of bulk at most 1048576: NARROWER than '..Said'. Prove '..Said' where nothing that the law and all that it calls make is longer than what came in: it says more and counts as full. Else prove '..UptoSaid'. A law counts once. -/
mutual
def uptoBulk {H : Type} : DataW H → Nat
  | .lit (.string bytes) => bytes.length + 1
  | .lit _ => 1
  | .nil => 1
  | .ptr d => uptoBulk d + 1
  | .slice elems spare => uptoBulkAll elems + uptoBulkAll spare + 1
  | .agg parts => uptoBulkAll parts + 1
  | .iface _ d => uptoBulk d + 1
  | .map entries => uptoBulkEntries entries + 1
  | .held _ => 1
def uptoBulkAll {H : Type} : List (DataW H) → Nat
  | [] => 0
  | d :: r => uptoBulk d + uptoBulkAll r
def uptoBulkEntries {H : Type} : List (Lit × DataW H) → Nat
  | [] => 0
  | x :: r => uptoBulkEntry x + uptoBulkEntries r
def uptoBulkEntry {H : Type} : Lit × DataW H → Nat
  | (.string bytes, d) => bytes.length + uptoBulk d + 1
  | (_, d) => uptoBulk d + 1
 end
def uptoSmall : (H : Type) → List (DataW H) → Bool := fun _ ds => decide (uptoBulkAll ds ≤ 1048576)
def OpenSpec.upto (s : _root_.Go.ChangeSpec) : _root_.Go.OpenSpec := { _root_.Go.OpenSpec.ofChange s with cond := some uptoSmall }

/-- 'cadastrelaw09.AtlasScripts', WHERE WHAT IT READS IS OF BULK AT MOST 1048576: true; the input reads as it did. -/
def atlasScriptsUptoRow : OpenClaim := { program := "yteckbcfigklkpaa", sum := "f1ef9fb741fe2805dfdbd26017a5bcdd4540d6965c5e8bd44180def46dfcefe5", func := "cadastre/cadastrelaw09.AtlasScripts", spec := "atlasScripts", inPlace := ["slices.overlaps[cadastre/api.Record]"], unfollowed := true, recurses := true, apart := false, narrowed := true }
def AtlasScriptsUptoSaid : Prop := atlasScriptsUptoRow.holds Try.pinned (OpenSpec.upto atlasScriptsSpec)

/-- 'cadastrelaw09.AtlasNil', WHERE WHAT IT READS IS OF BULK AT MOST 1048576: true; the input reads as it did. -/
def atlasNilUptoRow : OpenClaim := { program := "yteckbcfigklkpaa", sum := "f1ef9fb741fe2805dfdbd26017a5bcdd4540d6965c5e8bd44180def46dfcefe5", func := "cadastre/cadastrelaw09.AtlasNil", spec := "atlasNil", inPlace := ["slices.overlaps[cadastre/api.Record]"], unfollowed := true, recurses := true, apart := false, narrowed := true }
def AtlasNilUptoSaid : Prop := atlasNilUptoRow.holds Try.pinned (OpenSpec.upto atlasNilSpec)

/-- 'cadastrelaw09.AtlasBack', WHERE WHAT IT READS IS OF BULK AT MOST 1048576: true; the input reads as it did. -/
def atlasBackUptoRow : OpenClaim := { program := "yteckbcfigklkpaa", sum := "f1ef9fb741fe2805dfdbd26017a5bcdd4540d6965c5e8bd44180def46dfcefe5", func := "cadastre/cadastrelaw09.AtlasBack", spec := "atlasBack", inPlace := ["slices.overlaps[cadastre/api.Record]"], unfollowed := true, recurses := true, apart := false, narrowed := true }
def AtlasBackUptoSaid : Prop := atlasBackUptoRow.holds Try.pinned (OpenSpec.upto atlasBackSpec)

/-- 'cadastrelaw09.AtlasCut', WHERE WHAT IT READS IS OF BULK AT MOST 1048576: true; the input reads as it did. -/
def atlasCutUptoRow : OpenClaim := { program := "yteckbcfigklkpaa", sum := "f1ef9fb741fe2805dfdbd26017a5bcdd4540d6965c5e8bd44180def46dfcefe5", func := "cadastre/cadastrelaw09.AtlasCut", spec := "atlasCut", inPlace := ["slices.overlaps[cadastre/api.Record]"], unfollowed := true, recurses := true, apart := false, narrowed := true }
def AtlasCutUptoSaid : Prop := atlasCutUptoRow.holds Try.pinned (OpenSpec.upto atlasCutSpec)

/-- 'cadastrelaw09.AtlasAny', WHERE WHAT IT READS IS OF BULK AT MOST 1048576: true; the input reads as it did. -/
def atlasAnyUptoRow : OpenClaim := { program := "yteckbcfigklkpaa", sum := "f1ef9fb741fe2805dfdbd26017a5bcdd4540d6965c5e8bd44180def46dfcefe5", func := "cadastre/cadastrelaw09.AtlasAny", spec := "atlasAny", inPlace := ["slices.overlaps[cadastre/api.Record]"], unfollowed := true, recurses := true, apart := false, narrowed := true }
def AtlasAnyUptoSaid : Prop := atlasAnyUptoRow.holds Try.pinned (OpenSpec.upto atlasAnySpec)

end Rows
end Go.Proofs.Yteckbcfigklkpaa
