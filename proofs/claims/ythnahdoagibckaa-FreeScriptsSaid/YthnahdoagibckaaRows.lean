/-
  No cell of these rows narrows 'for every input' (looked for: loops, veiled, ifaces, maps, wideKeys, modest, calm, conditions, laid).
  DERIVED. THE GIVEN ROWS OF THIS SEAT. 5 by the template 'for every input the law returns true; each argument reads behind the call as it read before'; 0 by the template 'total and deterministic' (their statements: YthnahdoagibckaaTotals.lean).
  GIVEN WITH THE SEED: the statements are not yours to turn. If you find one false, say at which input.
  Laid BY PROGRAM, IN A SANDBOX (cutbox-rows.mjs): the forced cells as the released guide's own fill.sh prints them over the translation 223cb809fc8c7b7c… (all of the seat's roots in one cut). By AI agents, Wed Nov 11 2026. No macro, syntax, notation, axiom, sorry.
-/
import Derived.Test.YthnahdoagibckaaChecked
import GoSem.Claim
import GoSem.ClaimJoined
import GoSem.ClaimMapViews
import Derived.JoinedTies
import Derived.KernelRfl
namespace Go.Proofs.Ythnahdoagibckaa
/- THE CELL 'sum', in the pinned program and in every row, IS THE sha256 OF THE DUMP (.gsa) THAT YthnahdoagibckaaProg.lean LOADS. Nothing in Lean hashes anything: it is a label: what it is worth is what the hold of that sum in a sandbox is worth. -/
noncomputable def Try.pinned : Pinned := { name := "ythnahdoagibckaa", sum := "223cb809fc8c7b7cf0c174a850207c47e9184be08d1c70b0a5265cc13fb912f4", checked := Try.checked }
namespace Rows
def none {H : Type} : Left H := { results := [], args := [] }

/-- 'cadastrelaw05.FreeDecodes': WHATEVER THE INPUT: true; the input reads as it did. -/
def freeDecodesSpec : ChangeSpec := { name := "freeDecodes", fn := fun _ => fun
  | [d1, d2] => { results := [.lit (.bool true)], args := [d1, d2] }
  | _ => none }
def freeDecodesRow : OpenClaim := { program := "ythnahdoagibckaa", sum := "223cb809fc8c7b7cf0c174a850207c47e9184be08d1c70b0a5265cc13fb912f4", func := "cadastre/cadastrelaw05.FreeDecodes", spec := "freeDecodes", apart := false }
def FreeDecodesSaid : Prop := freeDecodesRow.holds Try.pinned (OpenSpec.ofChange freeDecodesSpec)

/-- ITS FALSE NEIGHBOUR: 'it returns false'. Refute it at one input. -/
def freeDecodesWrong : ChangeSpec := { name := "freeDecodes", fn := fun _ => fun
  | [d1, d2] => { results := [.lit (.bool false)], args := [d1, d2] }
  | _ => none }
def FreeDecodesWrongFalsely : Prop := freeDecodesRow.holds Try.pinned (OpenSpec.ofChange freeDecodesWrong)

/-- 'cadastrelaw05.FreeLowest': WHATEVER THE INPUT: true; the input reads as it did. -/
def freeLowestSpec : ChangeSpec := { name := "freeLowest", fn := fun _ => fun
  | [d1, d2, d3] => { results := [.lit (.bool true)], args := [d1, d2, d3] }
  | _ => none }
def freeLowestRow : OpenClaim := { program := "ythnahdoagibckaa", sum := "223cb809fc8c7b7cf0c174a850207c47e9184be08d1c70b0a5265cc13fb912f4", func := "cadastre/cadastrelaw05.FreeLowest", spec := "freeLowest", apart := false }
def FreeLowestSaid : Prop := freeLowestRow.holds Try.pinned (OpenSpec.ofChange freeLowestSpec)

/-- ITS FALSE NEIGHBOUR: 'it returns false'. Refute it at one input. -/
def freeLowestWrong : ChangeSpec := { name := "freeLowest", fn := fun _ => fun
  | [d1, d2, d3] => { results := [.lit (.bool false)], args := [d1, d2, d3] }
  | _ => none }
def FreeLowestWrongFalsely : Prop := freeLowestRow.holds Try.pinned (OpenSpec.ofChange freeLowestWrong)

/-- 'cadastrelaw05.FreeBack': WHATEVER THE INPUT: true; the input reads as it did. -/
def freeBackSpec : ChangeSpec := { name := "freeBack", fn := fun _ => fun
  | [d1, d2, d3] => { results := [.lit (.bool true)], args := [d1, d2, d3] }
  | _ => none }
def freeBackRow : OpenClaim := { program := "ythnahdoagibckaa", sum := "223cb809fc8c7b7cf0c174a850207c47e9184be08d1c70b0a5265cc13fb912f4", func := "cadastre/cadastrelaw05.FreeBack", spec := "freeBack", apart := false }
def FreeBackSaid : Prop := freeBackRow.holds Try.pinned (OpenSpec.ofChange freeBackSpec)

/-- ITS FALSE NEIGHBOUR: 'it returns false'. Refute it at one input. -/
def freeBackWrong : ChangeSpec := { name := "freeBack", fn := fun _ => fun
  | [d1, d2, d3] => { results := [.lit (.bool false)], args := [d1, d2, d3] }
  | _ => none }
def FreeBackWrongFalsely : Prop := freeBackRow.holds Try.pinned (OpenSpec.ofChange freeBackWrong)

/-- 'cadastrelaw05.FreeScripts': WHATEVER THE INPUT: true; the input reads as it did. -/
def freeScriptsSpec : ChangeSpec := { name := "freeScripts", fn := fun _ => fun
  | [d1, d2, d3] => { results := [.lit (.bool true)], args := [d1, d2, d3] }
  | _ => none }
def freeScriptsRow : OpenClaim := { program := "ythnahdoagibckaa", sum := "223cb809fc8c7b7cf0c174a850207c47e9184be08d1c70b0a5265cc13fb912f4", func := "cadastre/cadastrelaw05.FreeScripts", spec := "freeScripts", apart := false }
def FreeScriptsSaid : Prop := freeScriptsRow.holds Try.pinned (OpenSpec.ofChange freeScriptsSpec)

/-- ITS FALSE NEIGHBOUR: 'it returns false'. Refute it at one input. -/
def freeScriptsWrong : ChangeSpec := { name := "freeScripts", fn := fun _ => fun
  | [d1, d2, d3] => { results := [.lit (.bool false)], args := [d1, d2, d3] }
  | _ => none }
def FreeScriptsWrongFalsely : Prop := freeScriptsRow.holds Try.pinned (OpenSpec.ofChange freeScriptsWrong)

/-- 'cadastrelaw05.FreeNil': WHATEVER THE INPUT: true; the input reads as it did. -/
def freeNilSpec : ChangeSpec := { name := "freeNil", fn := fun _ => fun
  | [d] => { results := [.lit (.bool true)], args := [d] }
  | _ => none }
def freeNilRow : OpenClaim := { program := "ythnahdoagibckaa", sum := "223cb809fc8c7b7cf0c174a850207c47e9184be08d1c70b0a5265cc13fb912f4", func := "cadastre/cadastrelaw05.FreeNil", spec := "freeNil", apart := false }
def FreeNilSaid : Prop := freeNilRow.holds Try.pinned (OpenSpec.ofChange freeNilSpec)

/-- ITS FALSE NEIGHBOUR: 'it returns false'. Refute it at one input. -/
def freeNilWrong : ChangeSpec := { name := "freeNil", fn := fun _ => fun
  | [d] => { results := [.lit (.bool false)], args := [d] }
  | _ => none }
def FreeNilWrongFalsely : Prop := freeNilRow.holds Try.pinned (OpenSpec.ofChange freeNilWrong)

/- THE SECOND FORM. 'bulk': how many values and letters a reading holds, each counted each time it is reached (what is shared counts as often as it is met; a slice's spare places count too). A statement '..UptoSaid' is the law's where the arguments, and the package variables that the reading takes, are together of bulk at most 1048576: NARROWER than '..Said'. Prove '..Said' where nothing that the law and all that it calls make is longer than what came in: it says more and counts as full. Else prove '..UptoSaid'. A law counts once. -/
mutual
def uptoBulk {H : Type} : DataW H → Nat
  | .lit (.string bytes) => bytes.length + 1
  | .lit _ => 1
  | .nil => 1
  | .ptr d => uptoBulk d + 1
  | .slice elems spare => uptoBulkAll elems + uptoBulkAll spare + 1
  | .agg parts => uptoBulkAll parts + 1
  | .iface _ d => uptoBulk d + 1
  | .map entries => uptoBulkEntries entries + 1
  | .held _ => 1
def uptoBulkAll {H : Type} : List (DataW H) → Nat
  | [] => 0
  | d :: r => uptoBulk d + uptoBulkAll r
def uptoBulkEntries {H : Type} : List (Lit × DataW H) → Nat
  | [] => 0
  | x :: r => uptoBulkEntry x + uptoBulkEntries r
def uptoBulkEntry {H : Type} : Lit × DataW H → Nat
  | (.string bytes, d) => bytes.length + uptoBulk d + 1
  | (_, d) => uptoBulk d + 1
 end
def uptoSmall : (H : Type) → List (DataW H) → Bool := fun _ ds => decide (uptoBulkAll ds ≤ 1048576)
def OpenSpec.upto (s : _root_.Go.ChangeSpec) : _root_.Go.OpenSpec := { _root_.Go.OpenSpec.ofChange s with cond := some uptoSmall }

/-- 'cadastrelaw05.FreeDecodes', WHERE WHAT IT READS IS OF BULK AT MOST 1048576: true; the input reads as it did. -/
def freeDecodesUptoRow : OpenClaim := { program := "ythnahdoagibckaa", sum := "223cb809fc8c7b7cf0c174a850207c47e9184be08d1c70b0a5265cc13fb912f4", func := "cadastre/cadastrelaw05.FreeDecodes", spec := "freeDecodes", apart := false, narrowed := true }
def FreeDecodesUptoSaid : Prop := freeDecodesUptoRow.holds Try.pinned (OpenSpec.upto freeDecodesSpec)

/-- 'cadastrelaw05.FreeLowest', WHERE WHAT IT READS IS OF BULK AT MOST 1048576: true; the input reads as it did. -/
def freeLowestUptoRow : OpenClaim := { program := "ythnahdoagibckaa", sum := "223cb809fc8c7b7cf0c174a850207c47e9184be08d1c70b0a5265cc13fb912f4", func := "cadastre/cadastrelaw05.FreeLowest", spec := "freeLowest", apart := false, narrowed := true }
def FreeLowestUptoSaid : Prop := freeLowestUptoRow.holds Try.pinned (OpenSpec.upto freeLowestSpec)

/-- 'cadastrelaw05.FreeBack', WHERE WHAT IT READS IS OF BULK AT MOST 1048576: true; the input reads as it did. -/
def freeBackUptoRow : OpenClaim := { program := "ythnahdoagibckaa", sum := "223cb809fc8c7b7cf0c174a850207c47e9184be08d1c70b0a5265cc13fb912f4", func := "cadastre/cadastrelaw05.FreeBack", spec := "freeBack", apart := false, narrowed := true }
def FreeBackUptoSaid : Prop := freeBackUptoRow.holds Try.pinned (OpenSpec.upto freeBackSpec)

/-- 'cadastrelaw05.FreeScripts', WHERE WHAT IT READS IS OF BULK AT MOST 1048576: true; the input reads as it did. -/
def freeScriptsUptoRow : OpenClaim := { program := "ythnahdoagibckaa", sum := "223cb809fc8c7b7cf0c174a850207c47e9184be08d1c70b0a5265cc13fb912f4", func := "cadastre/cadastrelaw05.FreeScripts", spec := "freeScripts", apart := false, narrowed := true }
def FreeScriptsUptoSaid : Prop := freeScriptsUptoRow.holds Try.pinned (OpenSpec.upto freeScriptsSpec)

/-- 'cadastrelaw05.FreeNil', WHERE WHAT IT READS IS OF BULK AT MOST 1048576: true; the input reads as it did. -/
def freeNilUptoRow : OpenClaim := { program := "ythnahdoagibckaa", sum := "223cb809fc8c7b7cf0c174a850207c47e9184be08d1c70b0a5265cc13fb912f4", func := "cadastre/cadastrelaw05.FreeNil", spec := "freeNil", apart := false, narrowed := true }
def FreeNilUptoSaid : Prop := freeNilUptoRow.holds Try.pinned (OpenSpec.upto freeNilSpec)

end Rows
end Go.Proofs.Ythnahdoagibckaa
