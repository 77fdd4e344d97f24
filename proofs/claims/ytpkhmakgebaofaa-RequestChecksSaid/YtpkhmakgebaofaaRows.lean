/-
  No cell of these rows narrows 'for every input' (looked for: loops, veiled, ifaces, maps, wideKeys, modest, calm, conditions, laid).
  DERIVED. THE GIVEN ROWS OF THIS SEAT. 3 by the template 'for every input the law returns true; each argument reads behind the call as it read before'; 0 by the template 'total and deterministic' (their statements: YtpkhmakgebaofaaTotals.lean).
  GIVEN WITH THE SEED: the statements are not yours to turn. If you find one false, say at which input.
  Laid BY PROGRAM, IN A SANDBOX (cutbox-rows.mjs): the forced cells as the released guide's own fill.sh prints them over the translation bea7740e383dfb69… (all of the seat's roots in one cut). By AI agents, Wed Nov 11 2026. No macro, syntax, notation, axiom, sorry.
-/
import Derived.Test.YtpkhmakgebaofaaChecked
import GoSem.Claim
import GoSem.ClaimJoined
import GoSem.ClaimMapViews
import Derived.JoinedTies
import Derived.KernelRfl
namespace Go.Proofs.Ytpkhmakgebaofaa
/- THE CELL 'sum', in the pinned program and in every row, IS THE sha256 OF THE DUMP (.gsa) THAT YtpkhmakgebaofaaProg.lean LOADS. Nothing in Lean hashes anything: it is a label: what it is worth is what the hold of that sum in a sandbox is worth. -/
noncomputable def Try.pinned : Pinned := { name := "ytpkhmakgebaofaa", sum := "bea7740e383dfb697afdef4d525811675ef853f23422df25e9a772a316234271", checked := Try.checked }
namespace Rows
def none {H : Type} : Left H := { results := [], args := [] }

/-- 'cadastrelaw25.RequestChecks': WHATEVER THE INPUT: true; the input reads as it did. -/
def requestChecksSpec : ChangeSpec := { name := "requestChecks", fn := fun _ => fun
  | [d] => { results := [.lit (.bool true)], args := [d] }
  | _ => none }
def requestChecksRow : OpenClaim := { program := "ytpkhmakgebaofaa", sum := "bea7740e383dfb697afdef4d525811675ef853f23422df25e9a772a316234271", func := "cadastre/cadastrelaw25.RequestChecks", spec := "requestChecks", unfollowed := true, recurses := true, apart := false }
def RequestChecksSaid : Prop := requestChecksRow.holds Try.pinned (OpenSpec.ofChange requestChecksSpec)

/-- ITS FALSE NEIGHBOUR: 'it returns false'. Refute it at one input. -/
def requestChecksWrong : ChangeSpec := { name := "requestChecks", fn := fun _ => fun
  | [d] => { results := [.lit (.bool false)], args := [d] }
  | _ => none }
def RequestChecksWrongFalsely : Prop := requestChecksRow.holds Try.pinned (OpenSpec.ofChange requestChecksWrong)

/-- 'cadastrelaw25.RequestClosed': WHATEVER THE INPUT: true; the input reads as it did. -/
def requestClosedSpec : ChangeSpec := { name := "requestClosed", fn := fun _ => fun
  | [d1, d2, d3] => { results := [.lit (.bool true)], args := [d1, d2, d3] }
  | _ => none }
def requestClosedRow : OpenClaim := { program := "ytpkhmakgebaofaa", sum := "bea7740e383dfb697afdef4d525811675ef853f23422df25e9a772a316234271", func := "cadastre/cadastrelaw25.RequestClosed", spec := "requestClosed", unfollowed := true, recurses := true, apart := false }
def RequestClosedSaid : Prop := requestClosedRow.holds Try.pinned (OpenSpec.ofChange requestClosedSpec)

/-- ITS FALSE NEIGHBOUR: 'it returns false'. Refute it at one input. -/
def requestClosedWrong : ChangeSpec := { name := "requestClosed", fn := fun _ => fun
  | [d1, d2, d3] => { results := [.lit (.bool false)], args := [d1, d2, d3] }
  | _ => none }
def RequestClosedWrongFalsely : Prop := requestClosedRow.holds Try.pinned (OpenSpec.ofChange requestClosedWrong)

/-- 'cadastrelaw25.RequestOne': WHATEVER THE INPUT: true; the input reads as it did. -/
def requestOneSpec : ChangeSpec := { name := "requestOne", fn := fun _ => fun
  | [d1, d2, d3] => { results := [.lit (.bool true)], args := [d1, d2, d3] }
  | _ => none }
def requestOneRow : OpenClaim := { program := "ytpkhmakgebaofaa", sum := "bea7740e383dfb697afdef4d525811675ef853f23422df25e9a772a316234271", func := "cadastre/cadastrelaw25.RequestOne", spec := "requestOne", unfollowed := true, recurses := true, apart := false }
def RequestOneSaid : Prop := requestOneRow.holds Try.pinned (OpenSpec.ofChange requestOneSpec)

/-- ITS FALSE NEIGHBOUR: 'it returns false'. Refute it at one input. -/
def requestOneWrong : ChangeSpec := { name := "requestOne", fn := fun _ => fun
  | [d1, d2, d3] => { results := [.lit (.bool false)], args := [d1, d2, d3] }
  | _ => none }
def RequestOneWrongFalsely : Prop := requestOneRow.holds Try.pinned (OpenSpec.ofChange requestOneWrong)

/- THE SECOND FORM. 'bulk': how many values and letters a reading holds, each counted each time it is reached (what is shared counts as often as it is met; a slice's spare places count too). A statement '..UptoSaid' is the law's where the arguments, and the package variables that the reading takes, are together of bulk at most 1048576: NARROWER than '..Said'. Prove '..Said' where nothing that the law and all that it calls make is longer than what came in: it says more and counts as full. Else prove '..UptoSaid'. A law counts once. -/
mutual
def uptoBulk {H : Type} : DataW H → Nat
  | .lit (.string bytes) => bytes.length + 1
  | .lit _ => 1
  | .nil => 1
  | .ptr d => uptoBulk d + 1
  | .slice elems spare => uptoBulkAll elems + uptoBulkAll spare + 1
  | .agg parts => uptoBulkAll parts + 1
  | .iface _ d => uptoBulk d + 1
  | .map entries => uptoBulkEntries entries + 1
  | .held _ => 1
def uptoBulkAll {H : Type} : List (DataW H) → Nat
  | [] => 0
  | d :: r => uptoBulk d + uptoBulkAll r
def uptoBulkEntries {H : Type} : List (Lit × DataW H) → Nat
  | [] => 0
  | x :: r => uptoBulkEntry x + uptoBulkEntries r
def uptoBulkEntry {H : Type} : Lit × DataW H → Nat
  | (.string bytes, d) => bytes.length + uptoBulk d + 1
  | (_, d) => uptoBulk d + 1
 end
def uptoSmall : (H : Type) → List (DataW H) → Bool := fun _ ds => decide (uptoBulkAll ds ≤ 1048576)
def OpenSpec.upto (s : _root_.Go.ChangeSpec) : _root_.Go.OpenSpec := { _root_.Go.OpenSpec.ofChange s with cond := some uptoSmall }

/-- 'cadastrelaw25.RequestChecks', WHERE WHAT IT READS IS OF BULK AT MOST 1048576: true; the input reads as it did. -/
def requestChecksUptoRow : OpenClaim := { program := "ytpkhmakgebaofaa", sum := "bea7740e383dfb697afdef4d525811675ef853f23422df25e9a772a316234271", func := "cadastre/cadastrelaw25.RequestChecks", spec := "requestChecks", unfollowed := true, recurses := true, apart := false, narrowed := true }
def RequestChecksUptoSaid : Prop := requestChecksUptoRow.holds Try.pinned (OpenSpec.upto requestChecksSpec)

/-- 'cadastrelaw25.RequestClosed', WHERE WHAT IT READS IS OF BULK AT MOST 1048576: true; the input reads as it did. -/
def requestClosedUptoRow : OpenClaim := { program := "ytpkhmakgebaofaa", sum := "bea7740e383dfb697afdef4d525811675ef853f23422df25e9a772a316234271", func := "cadastre/cadastrelaw25.RequestClosed", spec := "requestClosed", unfollowed := true, recurses := true, apart := false, narrowed := true }
def RequestClosedUptoSaid : Prop := requestClosedUptoRow.holds Try.pinned (OpenSpec.upto requestClosedSpec)

/-- 'cadastrelaw25.RequestOne', WHERE WHAT IT READS IS OF BULK AT MOST 1048576: true; the input reads as it did. -/
def requestOneUptoRow : OpenClaim := { program := "ytpkhmakgebaofaa", sum := "bea7740e383dfb697afdef4d525811675ef853f23422df25e9a772a316234271", func := "cadastre/cadastrelaw25.RequestOne", spec := "requestOne", unfollowed := true, recurses := true, apart := false, narrowed := true }
def RequestOneUptoSaid : Prop := requestOneUptoRow.holds Try.pinned (OpenSpec.upto requestOneSpec)

end Rows
end Go.Proofs.Ytpkhmakgebaofaa
