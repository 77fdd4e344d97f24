/-
  No cell of these rows narrows 'for every input' (looked for: loops, veiled, ifaces, maps, wideKeys, modest, calm, conditions, laid).
  DERIVED. THE GIVEN ROWS OF THIS SEAT. 6 by the template 'for every input the law returns true; each argument reads behind the call as it read before'; 0 by the template 'total and deterministic' (their statements: YtehhmpoijonghaaTotals.lean).
  GIVEN WITH THE SEED: the statements are not yours to turn. If you find one false, say at which input.
  Laid BY PROGRAM, IN A SANDBOX (cutbox-rows.mjs): the forced cells as the released guide's own fill.sh prints them over the translation 40433f3edebbb9cd… (all of the seat's roots in one cut). By AI agents, Wed Nov 11 2026. No macro, syntax, notation, axiom, sorry.
-/
import Derived.Test.YtehhmpoijonghaaChecked
import GoSem.Claim
import GoSem.ClaimJoined
import GoSem.ClaimMapViews
import Derived.JoinedTies
import Derived.KernelRfl
namespace Go.Proofs.Ytehhmpoijonghaa
/- THE CELL 'sum', in the pinned program and in every row, IS THE sha256 OF THE DUMP (.gsa) THAT YtehhmpoijonghaaProg.lean LOADS. Nothing in Lean hashes anything: it is a label: what it is worth is what the hold of that sum in a sandbox is worth. -/
noncomputable def Try.pinned : Pinned := { name := "ytehhmpoijonghaa", sum := "40433f3edebbb9cdb44bf877b63dc76f6b1998bcbefbfd08f161cc0de9376492", checked := Try.checked }
namespace Rows
def none {H : Type} : Left H := { results := [], args := [] }

/-- 'cadastrelaw10.BucketWrites': WHATEVER THE INPUT: true; the input reads as it did. -/
def bucketWritesSpec : ChangeSpec := { name := "bucketWrites", fn := fun _ => fun
  | [d1, d2, d3] => { results := [.lit (.bool true)], args := [d1, d2, d3] }
  | _ => none }
def bucketWritesRow : OpenClaim := { program := "ytehhmpoijonghaa", sum := "40433f3edebbb9cdb44bf877b63dc76f6b1998bcbefbfd08f161cc0de9376492", func := "cadastre/cadastrelaw10.BucketWrites", spec := "bucketWrites", unfollowed := true, recurses := true, apart := false }
def BucketWritesSaid : Prop := bucketWritesRow.holds Try.pinned (OpenSpec.ofChange bucketWritesSpec)

/-- ITS FALSE NEIGHBOUR: 'it returns false'. Refute it at one input. -/
def bucketWritesWrong : ChangeSpec := { name := "bucketWrites", fn := fun _ => fun
  | [d1, d2, d3] => { results := [.lit (.bool false)], args := [d1, d2, d3] }
  | _ => none }
def BucketWritesWrongFalsely : Prop := bucketWritesRow.holds Try.pinned (OpenSpec.ofChange bucketWritesWrong)

/-- 'cadastrelaw10.BucketReads': WHATEVER THE INPUT: true; the input reads as it did. -/
def bucketReadsSpec : ChangeSpec := { name := "bucketReads", fn := fun _ => fun
  | [d1, d2, d3] => { results := [.lit (.bool true)], args := [d1, d2, d3] }
  | _ => none }
def bucketReadsRow : OpenClaim := { program := "ytehhmpoijonghaa", sum := "40433f3edebbb9cdb44bf877b63dc76f6b1998bcbefbfd08f161cc0de9376492", func := "cadastre/cadastrelaw10.BucketReads", spec := "bucketReads", unfollowed := true, recurses := true, apart := false }
def BucketReadsSaid : Prop := bucketReadsRow.holds Try.pinned (OpenSpec.ofChange bucketReadsSpec)

/-- ITS FALSE NEIGHBOUR: 'it returns false'. Refute it at one input. -/
def bucketReadsWrong : ChangeSpec := { name := "bucketReads", fn := fun _ => fun
  | [d1, d2, d3] => { results := [.lit (.bool false)], args := [d1, d2, d3] }
  | _ => none }
def BucketReadsWrongFalsely : Prop := bucketReadsRow.holds Try.pinned (OpenSpec.ofChange bucketReadsWrong)

/-- 'cadastrelaw10.BucketPuts': WHATEVER THE INPUT: true; the input reads as it did. -/
def bucketPutsSpec : ChangeSpec := { name := "bucketPuts", fn := fun _ => fun
  | [d1, d2, d3] => { results := [.lit (.bool true)], args := [d1, d2, d3] }
  | _ => none }
def bucketPutsRow : OpenClaim := { program := "ytehhmpoijonghaa", sum := "40433f3edebbb9cdb44bf877b63dc76f6b1998bcbefbfd08f161cc0de9376492", func := "cadastre/cadastrelaw10.BucketPuts", spec := "bucketPuts", unfollowed := true, recurses := true, apart := false }
def BucketPutsSaid : Prop := bucketPutsRow.holds Try.pinned (OpenSpec.ofChange bucketPutsSpec)

/-- ITS FALSE NEIGHBOUR: 'it returns false'. Refute it at one input. -/
def bucketPutsWrong : ChangeSpec := { name := "bucketPuts", fn := fun _ => fun
  | [d1, d2, d3] => { results := [.lit (.bool false)], args := [d1, d2, d3] }
  | _ => none }
def BucketPutsWrongFalsely : Prop := bucketPutsRow.holds Try.pinned (OpenSpec.ofChange bucketPutsWrong)

/-- 'cadastrelaw10.BucketBack': WHATEVER THE INPUT: true; the input reads as it did. -/
def bucketBackSpec : ChangeSpec := { name := "bucketBack", fn := fun _ => fun
  | [d] => { results := [.lit (.bool true)], args := [d] }
  | _ => none }
def bucketBackRow : OpenClaim := { program := "ytehhmpoijonghaa", sum := "40433f3edebbb9cdb44bf877b63dc76f6b1998bcbefbfd08f161cc0de9376492", func := "cadastre/cadastrelaw10.BucketBack", spec := "bucketBack", unfollowed := true, recurses := true, apart := false }
def BucketBackSaid : Prop := bucketBackRow.holds Try.pinned (OpenSpec.ofChange bucketBackSpec)

/-- ITS FALSE NEIGHBOUR: 'it returns false'. Refute it at one input. -/
def bucketBackWrong : ChangeSpec := { name := "bucketBack", fn := fun _ => fun
  | [d] => { results := [.lit (.bool false)], args := [d] }
  | _ => none }
def BucketBackWrongFalsely : Prop := bucketBackRow.holds Try.pinned (OpenSpec.ofChange bucketBackWrong)

/-- 'cadastrelaw10.BucketOnce': WHATEVER THE INPUT: true; the input reads as it did. -/
def bucketOnceSpec : ChangeSpec := { name := "bucketOnce", fn := fun _ => fun
  | [d1, d2, d3] => { results := [.lit (.bool true)], args := [d1, d2, d3] }
  | _ => none }
def bucketOnceRow : OpenClaim := { program := "ytehhmpoijonghaa", sum := "40433f3edebbb9cdb44bf877b63dc76f6b1998bcbefbfd08f161cc0de9376492", func := "cadastre/cadastrelaw10.BucketOnce", spec := "bucketOnce", unfollowed := true, recurses := true, apart := false }
def BucketOnceSaid : Prop := bucketOnceRow.holds Try.pinned (OpenSpec.ofChange bucketOnceSpec)

/-- ITS FALSE NEIGHBOUR: 'it returns false'. Refute it at one input. -/
def bucketOnceWrong : ChangeSpec := { name := "bucketOnce", fn := fun _ => fun
  | [d1, d2, d3] => { results := [.lit (.bool false)], args := [d1, d2, d3] }
  | _ => none }
def BucketOnceWrongFalsely : Prop := bucketOnceRow.holds Try.pinned (OpenSpec.ofChange bucketOnceWrong)

/-- 'cadastrelaw10.BucketMany': WHATEVER THE INPUT: true; the input reads as it did. -/
def bucketManySpec : ChangeSpec := { name := "bucketMany", fn := fun _ => fun
  | [d1, d2] => { results := [.lit (.bool true)], args := [d1, d2] }
  | _ => none }
def bucketManyRow : OpenClaim := { program := "ytehhmpoijonghaa", sum := "40433f3edebbb9cdb44bf877b63dc76f6b1998bcbefbfd08f161cc0de9376492", func := "cadastre/cadastrelaw10.BucketMany", spec := "bucketMany", unfollowed := true, recurses := true, apart := false }
def BucketManySaid : Prop := bucketManyRow.holds Try.pinned (OpenSpec.ofChange bucketManySpec)

/-- ITS FALSE NEIGHBOUR: 'it returns false'. Refute it at one input. -/
def bucketManyWrong : ChangeSpec := { name := "bucketMany", fn := fun _ => fun
  | [d1, d2] => { results := [.lit (.bool false)], args := [d1, d2] }
  | _ => none }
def BucketManyWrongFalsely : Prop := bucketManyRow.holds Try.pinned (OpenSpec.ofChange bucketManyWrong)

/- THE SECOND FORM. 'bulk': how many values and letters a reading holds, each counted each time it is reached (what is shared counts as often as it is met; a slice's spare places count too). A statement '..UptoSaid' is the law's where the arguments, and the package variables that the reading takes, are together of bulk at most 1048576: NARROWER than '..Said'. Prove '..Said' where nothing that the law and all that it calls make is longer than what came in: it says more and counts as full. Else prove '..UptoSaid'. A law counts once. -/
mutual
def uptoBulk {H : Type} : DataW H → Nat
  | .lit (.string bytes) => bytes.length + 1
  | .lit _ => 1
  | .nil => 1
  | .ptr d => uptoBulk d + 1
  | .slice elems spare => uptoBulkAll elems + uptoBulkAll spare + 1
  | .agg parts => uptoBulkAll parts + 1
  | .iface _ d => uptoBulk d + 1
  | .map entries => uptoBulkEntries entries + 1
  | .held _ => 1
def uptoBulkAll {H : Type} : List (DataW H) → Nat
  | [] => 0
  | d :: r => uptoBulk d + uptoBulkAll r
def uptoBulkEntries {H : Type} : List (Lit × DataW H) → Nat
  | [] => 0
  | x :: r => uptoBulkEntry x + uptoBulkEntries r
def uptoBulkEntry {H : Type} : Lit × DataW H → Nat
  | (.string bytes, d) => bytes.length + uptoBulk d + 1
  | (_, d) => uptoBulk d + 1
 end
def uptoSmall : (H : Type) → List (DataW H) → Bool := fun _ ds => decide (uptoBulkAll ds ≤ 1048576)
def OpenSpec.upto (s : _root_.Go.ChangeSpec) : _root_.Go.OpenSpec := { _root_.Go.OpenSpec.ofChange s with cond := some uptoSmall }

/-- 'cadastrelaw10.BucketWrites', WHERE WHAT IT READS IS OF BULK AT MOST 1048576: true; the input reads as it did. -/
def bucketWritesUptoRow : OpenClaim := { program := "ytehhmpoijonghaa", sum := "40433f3edebbb9cdb44bf877b63dc76f6b1998bcbefbfd08f161cc0de9376492", func := "cadastre/cadastrelaw10.BucketWrites", spec := "bucketWrites", unfollowed := true, recurses := true, apart := false, narrowed := true }
def BucketWritesUptoSaid : Prop := bucketWritesUptoRow.holds Try.pinned (OpenSpec.upto bucketWritesSpec)

/-- 'cadastrelaw10.BucketReads', WHERE WHAT IT READS IS OF BULK AT MOST 1048576: true; the input reads as it did. -/
def bucketReadsUptoRow : OpenClaim := { program := "ytehhmpoijonghaa", sum := "40433f3edebbb9cdb44bf877b63dc76f6b1998bcbefbfd08f161cc0de9376492", func := "cadastre/cadastrelaw10.BucketReads", spec := "bucketReads", unfollowed := true, recurses := true, apart := false, narrowed := true }
def BucketReadsUptoSaid : Prop := bucketReadsUptoRow.holds Try.pinned (OpenSpec.upto bucketReadsSpec)

/-- 'cadastrelaw10.BucketPuts', WHERE WHAT IT READS IS OF BULK AT MOST 1048576: true; the input reads as it did. -/
def bucketPutsUptoRow : OpenClaim := { program := "ytehhmpoijonghaa", sum := "40433f3edebbb9cdb44bf877b63dc76f6b1998bcbefbfd08f161cc0de9376492", func := "cadastre/cadastrelaw10.BucketPuts", spec := "bucketPuts", unfollowed := true, recurses := true, apart := false, narrowed := true }
def BucketPutsUptoSaid : Prop := bucketPutsUptoRow.holds Try.pinned (OpenSpec.upto bucketPutsSpec)

/-- 'cadastrelaw10.BucketBack', WHERE WHAT IT READS IS OF BULK AT MOST 1048576: true; the input reads as it did. -/
def bucketBackUptoRow : OpenClaim := { program := "ytehhmpoijonghaa", sum := "40433f3edebbb9cdb44bf877b63dc76f6b1998bcbefbfd08f161cc0de9376492", func := "cadastre/cadastrelaw10.BucketBack", spec := "bucketBack", unfollowed := true, recurses := true, apart := false, narrowed := true }
def BucketBackUptoSaid : Prop := bucketBackUptoRow.holds Try.pinned (OpenSpec.upto bucketBackSpec)

/-- 'cadastrelaw10.BucketOnce', WHERE WHAT IT READS IS OF BULK AT MOST 1048576: true; the input reads as it did. -/
def bucketOnceUptoRow : OpenClaim := { program := "ytehhmpoijonghaa", sum := "40433f3edebbb9cdb44bf877b63dc76f6b1998bcbefbfd08f161cc0de9376492", func := "cadastre/cadastrelaw10.BucketOnce", spec := "bucketOnce", unfollowed := true, recurses := true, apart := false, narrowed := true }
def BucketOnceUptoSaid : Prop := bucketOnceUptoRow.holds Try.pinned (OpenSpec.upto bucketOnceSpec)

/-- 'cadastrelaw10.BucketMany', WHERE WHAT IT READS IS OF BULK AT MOST 1048576: true; the input reads as it did. -/
def bucketManyUptoRow : OpenClaim := { program := "ytehhmpoijonghaa", sum := "40433f3edebbb9cdb44bf877b63dc76f6b1998bcbefbfd08f161cc0de9376492", func := "cadastre/cadastrelaw10.BucketMany", spec := "bucketMany", unfollowed := true, recurses := true, apart := false, narrowed := true }
def BucketManyUptoSaid : Prop := bucketManyUptoRow.holds Try.pinned (OpenSpec.upto bucketManySpec)

end Rows
end Go.Proofs.Ytehhmpoijonghaa
