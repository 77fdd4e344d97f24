/-
  No cell of these rows narrows 'for every input' (looked for: loops, veiled, ifaces, maps, wideKeys, modest, calm, conditions, laid).
  DERIVED. THE GIVEN ROWS OF THIS SEAT. 7 by the template 'for every input the law returns true; each argument reads behind the call as it read before'; 0 by the template 'total and deterministic' (their statements: YthiolmdmdmimeaaTotals.lean).
  GIVEN WITH THE SEED: the statements are not yours to turn. If you find one false, say at which input.
  Laid BY PROGRAM, IN A SANDBOX (cutbox-rows.mjs): the forced cells as the released guide's own fill.sh prints them over the translation 8426d8c026ed86d8… (all of the seat's roots in one cut). By AI agents, Wed Nov 11 2026. No macro, syntax, notation, axiom, sorry.
-/
import Derived.Test.YthiolmdmdmimeaaChecked
import GoSem.Claim
import GoSem.ClaimJoined
import GoSem.ClaimMapViews
import Derived.JoinedTies
import Derived.KernelRfl
namespace Go.Proofs.Ythiolmdmdmimeaa
/- THE CELL 'sum', in the pinned program and in every row, IS THE sha256 OF THE DUMP (.gsa) THAT YthiolmdmdmimeaaProg.lean LOADS. Nothing in Lean hashes anything: it is a label: what it is worth is what the hold of that sum in a sandbox is worth. -/
noncomputable def Try.pinned : Pinned := { name := "ythiolmdmdmimeaa", sum := "8426d8c026ed86d85986179e123c6386ea6d56ac0f459351eb29855d339c6c2e", checked := Try.checked }
namespace Rows
def none {H : Type} : Left H := { results := [], args := [] }

/-- 'cadastrelaw08.KeyPoints': WHATEVER THE INPUT: true; the input reads as it did. -/
def keyPointsSpec : ChangeSpec := { name := "keyPoints", fn := fun _ => fun
  | [d1, d2, d3] => { results := [.lit (.bool true)], args := [d1, d2, d3] }
  | _ => none }
def keyPointsRow : OpenClaim := { program := "ythiolmdmdmimeaa", sum := "8426d8c026ed86d85986179e123c6386ea6d56ac0f459351eb29855d339c6c2e", func := "cadastre/cadastrelaw08.KeyPoints", spec := "keyPoints", unfollowed := true, recurses := true, apart := false }
def KeyPointsSaid : Prop := keyPointsRow.holds Try.pinned (OpenSpec.ofChange keyPointsSpec)

/-- ITS FALSE NEIGHBOUR: 'it returns false'. Refute it at one input. -/
def keyPointsWrong : ChangeSpec := { name := "keyPoints", fn := fun _ => fun
  | [d1, d2, d3] => { results := [.lit (.bool false)], args := [d1, d2, d3] }
  | _ => none }
def KeyPointsWrongFalsely : Prop := keyPointsRow.holds Try.pinned (OpenSpec.ofChange keyPointsWrong)

/-- 'cadastrelaw08.KeyBoxes': WHATEVER THE INPUT: true; the input reads as it did. -/
def keyBoxesSpec : ChangeSpec := { name := "keyBoxes", fn := fun _ => fun
  | [d1, d2, d3] => { results := [.lit (.bool true)], args := [d1, d2, d3] }
  | _ => none }
def keyBoxesRow : OpenClaim := { program := "ythiolmdmdmimeaa", sum := "8426d8c026ed86d85986179e123c6386ea6d56ac0f459351eb29855d339c6c2e", func := "cadastre/cadastrelaw08.KeyBoxes", spec := "keyBoxes", unfollowed := true, recurses := true, apart := false }
def KeyBoxesSaid : Prop := keyBoxesRow.holds Try.pinned (OpenSpec.ofChange keyBoxesSpec)

/-- ITS FALSE NEIGHBOUR: 'it returns false'. Refute it at one input. -/
def keyBoxesWrong : ChangeSpec := { name := "keyBoxes", fn := fun _ => fun
  | [d1, d2, d3] => { results := [.lit (.bool false)], args := [d1, d2, d3] }
  | _ => none }
def KeyBoxesWrongFalsely : Prop := keyBoxesRow.holds Try.pinned (OpenSpec.ofChange keyBoxesWrong)

/-- 'cadastrelaw08.KeyPartial': WHATEVER THE INPUT: true; the input reads as it did. -/
def keyPartialSpec : ChangeSpec := { name := "keyPartial", fn := fun _ => fun
  | [d] => { results := [.lit (.bool true)], args := [d] }
  | _ => none }
def keyPartialRow : OpenClaim := { program := "ythiolmdmdmimeaa", sum := "8426d8c026ed86d85986179e123c6386ea6d56ac0f459351eb29855d339c6c2e", func := "cadastre/cadastrelaw08.KeyPartial", spec := "keyPartial", unfollowed := true, recurses := true, apart := false }
def KeyPartialSaid : Prop := keyPartialRow.holds Try.pinned (OpenSpec.ofChange keyPartialSpec)

/-- ITS FALSE NEIGHBOUR: 'it returns false'. Refute it at one input. -/
def keyPartialWrong : ChangeSpec := { name := "keyPartial", fn := fun _ => fun
  | [d] => { results := [.lit (.bool false)], args := [d] }
  | _ => none }
def KeyPartialWrongFalsely : Prop := keyPartialRow.holds Try.pinned (OpenSpec.ofChange keyPartialWrong)

/-- 'cadastrelaw08.KeyOrder': WHATEVER THE INPUT: true; the input reads as it did. -/
def keyOrderSpec : ChangeSpec := { name := "keyOrder", fn := fun _ => fun
  | [d1, d2, d3] => { results := [.lit (.bool true)], args := [d1, d2, d3] }
  | _ => none }
def keyOrderRow : OpenClaim := { program := "ythiolmdmdmimeaa", sum := "8426d8c026ed86d85986179e123c6386ea6d56ac0f459351eb29855d339c6c2e", func := "cadastre/cadastrelaw08.KeyOrder", spec := "keyOrder", unfollowed := true, recurses := true, apart := false }
def KeyOrderSaid : Prop := keyOrderRow.holds Try.pinned (OpenSpec.ofChange keyOrderSpec)

/-- ITS FALSE NEIGHBOUR: 'it returns false'. Refute it at one input. -/
def keyOrderWrong : ChangeSpec := { name := "keyOrder", fn := fun _ => fun
  | [d1, d2, d3] => { results := [.lit (.bool false)], args := [d1, d2, d3] }
  | _ => none }
def KeyOrderWrongFalsely : Prop := keyOrderRow.holds Try.pinned (OpenSpec.ofChange keyOrderWrong)

/-- 'cadastrelaw08.KeyMeets': WHATEVER THE INPUT: true; the input reads as it did. -/
def keyMeetsSpec : ChangeSpec := { name := "keyMeets", fn := fun _ => fun
  | [d1, d2, d3] => { results := [.lit (.bool true)], args := [d1, d2, d3] }
  | _ => none }
def keyMeetsRow : OpenClaim := { program := "ythiolmdmdmimeaa", sum := "8426d8c026ed86d85986179e123c6386ea6d56ac0f459351eb29855d339c6c2e", func := "cadastre/cadastrelaw08.KeyMeets", spec := "keyMeets", unfollowed := true, recurses := true, apart := false }
def KeyMeetsSaid : Prop := keyMeetsRow.holds Try.pinned (OpenSpec.ofChange keyMeetsSpec)

/-- ITS FALSE NEIGHBOUR: 'it returns false'. Refute it at one input. -/
def keyMeetsWrong : ChangeSpec := { name := "keyMeets", fn := fun _ => fun
  | [d1, d2, d3] => { results := [.lit (.bool false)], args := [d1, d2, d3] }
  | _ => none }
def KeyMeetsWrongFalsely : Prop := keyMeetsRow.holds Try.pinned (OpenSpec.ofChange keyMeetsWrong)

/-- 'cadastrelaw08.KeyBits': WHATEVER THE INPUT: true; the input reads as it did. -/
def keyBitsSpec : ChangeSpec := { name := "keyBits", fn := fun _ => fun
  | [d1, d2, d3] => { results := [.lit (.bool true)], args := [d1, d2, d3] }
  | _ => none }
def keyBitsRow : OpenClaim := { program := "ythiolmdmdmimeaa", sum := "8426d8c026ed86d85986179e123c6386ea6d56ac0f459351eb29855d339c6c2e", func := "cadastre/cadastrelaw08.KeyBits", spec := "keyBits", unfollowed := true, recurses := true, apart := false }
def KeyBitsSaid : Prop := keyBitsRow.holds Try.pinned (OpenSpec.ofChange keyBitsSpec)

/-- ITS FALSE NEIGHBOUR: 'it returns false'. Refute it at one input. -/
def keyBitsWrong : ChangeSpec := { name := "keyBits", fn := fun _ => fun
  | [d1, d2, d3] => { results := [.lit (.bool false)], args := [d1, d2, d3] }
  | _ => none }
def KeyBitsWrongFalsely : Prop := keyBitsRow.holds Try.pinned (OpenSpec.ofChange keyBitsWrong)

/-- 'cadastrelaw08.KeyCorner': WHATEVER THE INPUT: true; the input reads as it did. -/
def keyCornerSpec : ChangeSpec := { name := "keyCorner", fn := fun _ => fun
  | [d1, d2] => { results := [.lit (.bool true)], args := [d1, d2] }
  | _ => none }
def keyCornerRow : OpenClaim := { program := "ythiolmdmdmimeaa", sum := "8426d8c026ed86d85986179e123c6386ea6d56ac0f459351eb29855d339c6c2e", func := "cadastre/cadastrelaw08.KeyCorner", spec := "keyCorner", unfollowed := true, recurses := true, apart := false }
def KeyCornerSaid : Prop := keyCornerRow.holds Try.pinned (OpenSpec.ofChange keyCornerSpec)

/-- ITS FALSE NEIGHBOUR: 'it returns false'. Refute it at one input. -/
def keyCornerWrong : ChangeSpec := { name := "keyCorner", fn := fun _ => fun
  | [d1, d2] => { results := [.lit (.bool false)], args := [d1, d2] }
  | _ => none }
def KeyCornerWrongFalsely : Prop := keyCornerRow.holds Try.pinned (OpenSpec.ofChange keyCornerWrong)

/- THE SECOND FORM. 'bulk': how many values and letters a reading holds, each counted each time it is reached (what is shared counts as often as it is met; a slice's spare places count too). A statement '..UptoSaid' is the law's where the arguments, and the package variables that the reading takes, are together of bulk at most 1048576: NARROWER than '..Said'. Prove '..Said' where nothing that the law and all that it calls make is longer than what came in: it says more and counts as full. Else prove '..UptoSaid'. A law counts once. -/
mutual
def uptoBulk {H : Type} : DataW H → Nat
  | .lit (.string bytes) => bytes.length + 1
  | .lit _ => 1
  | .nil => 1
  | .ptr d => uptoBulk d + 1
  | .slice elems spare => uptoBulkAll elems + uptoBulkAll spare + 1
  | .agg parts => uptoBulkAll parts + 1
  | .iface _ d => uptoBulk d + 1
  | .map entries => uptoBulkEntries entries + 1
  | .held _ => 1
def uptoBulkAll {H : Type} : List (DataW H) → Nat
  | [] => 0
  | d :: r => uptoBulk d + uptoBulkAll r
def uptoBulkEntries {H : Type} : List (Lit × DataW H) → Nat
  | [] => 0
  | x :: r => uptoBulkEntry x + uptoBulkEntries r
def uptoBulkEntry {H : Type} : Lit × DataW H → Nat
  | (.string bytes, d) => bytes.length + uptoBulk d + 1
  | (_, d) => uptoBulk d + 1
 end
def uptoSmall : (H : Type) → List (DataW H) → Bool := fun _ ds => decide (uptoBulkAll ds ≤ 1048576)
def OpenSpec.upto (s : _root_.Go.ChangeSpec) : _root_.Go.OpenSpec := { _root_.Go.OpenSpec.ofChange s with cond := some uptoSmall }

/-- 'cadastrelaw08.KeyPoints', WHERE WHAT IT READS IS OF BULK AT MOST 1048576: true; the input reads as it did. -/
def keyPointsUptoRow : OpenClaim := { program := "ythiolmdmdmimeaa", sum := "8426d8c026ed86d85986179e123c6386ea6d56ac0f459351eb29855d339c6c2e", func := "cadastre/cadastrelaw08.KeyPoints", spec := "keyPoints", unfollowed := true, recurses := true, apart := false, narrowed := true }
def KeyPointsUptoSaid : Prop := keyPointsUptoRow.holds Try.pinned (OpenSpec.upto keyPointsSpec)

/-- 'cadastrelaw08.KeyBoxes', WHERE WHAT IT READS IS OF BULK AT MOST 1048576: true; the input reads as it did. -/
def keyBoxesUptoRow : OpenClaim := { program := "ythiolmdmdmimeaa", sum := "8426d8c026ed86d85986179e123c6386ea6d56ac0f459351eb29855d339c6c2e", func := "cadastre/cadastrelaw08.KeyBoxes", spec := "keyBoxes", unfollowed := true, recurses := true, apart := false, narrowed := true }
def KeyBoxesUptoSaid : Prop := keyBoxesUptoRow.holds Try.pinned (OpenSpec.upto keyBoxesSpec)

/-- 'cadastrelaw08.KeyPartial', WHERE WHAT IT READS IS OF BULK AT MOST 1048576: true; the input reads as it did. -/
def keyPartialUptoRow : OpenClaim := { program := "ythiolmdmdmimeaa", sum := "8426d8c026ed86d85986179e123c6386ea6d56ac0f459351eb29855d339c6c2e", func := "cadastre/cadastrelaw08.KeyPartial", spec := "keyPartial", unfollowed := true, recurses := true, apart := false, narrowed := true }
def KeyPartialUptoSaid : Prop := keyPartialUptoRow.holds Try.pinned (OpenSpec.upto keyPartialSpec)

/-- 'cadastrelaw08.KeyOrder', WHERE WHAT IT READS IS OF BULK AT MOST 1048576: true; the input reads as it did. -/
def keyOrderUptoRow : OpenClaim := { program := "ythiolmdmdmimeaa", sum := "8426d8c026ed86d85986179e123c6386ea6d56ac0f459351eb29855d339c6c2e", func := "cadastre/cadastrelaw08.KeyOrder", spec := "keyOrder", unfollowed := true, recurses := true, apart := false, narrowed := true }
def KeyOrderUptoSaid : Prop := keyOrderUptoRow.holds Try.pinned (OpenSpec.upto keyOrderSpec)

/-- 'cadastrelaw08.KeyMeets', WHERE WHAT IT READS IS OF BULK AT MOST 1048576: true; the input reads as it did. -/
def keyMeetsUptoRow : OpenClaim := { program := "ythiolmdmdmimeaa", sum := "8426d8c026ed86d85986179e123c6386ea6d56ac0f459351eb29855d339c6c2e", func := "cadastre/cadastrelaw08.KeyMeets", spec := "keyMeets", unfollowed := true, recurses := true, apart := false, narrowed := true }
def KeyMeetsUptoSaid : Prop := keyMeetsUptoRow.holds Try.pinned (OpenSpec.upto keyMeetsSpec)

/-- 'cadastrelaw08.KeyBits', WHERE WHAT IT READS IS OF BULK AT MOST 1048576: true; the input reads as it did. -/
def keyBitsUptoRow : OpenClaim := { program := "ythiolmdmdmimeaa", sum := "8426d8c026ed86d85986179e123c6386ea6d56ac0f459351eb29855d339c6c2e", func := "cadastre/cadastrelaw08.KeyBits", spec := "keyBits", unfollowed := true, recurses := true, apart := false, narrowed := true }
def KeyBitsUptoSaid : Prop := keyBitsUptoRow.holds Try.pinned (OpenSpec.upto keyBitsSpec)

/-- 'cadastrelaw08.KeyCorner', WHERE WHAT IT READS IS OF BULK AT MOST 1048576: true; the input reads as it did. -/
def keyCornerUptoRow : OpenClaim := { program := "ythiolmdmdmimeaa", sum := "8426d8c026ed86d85986179e123c6386ea6d56ac0f459351eb29855d339c6c2e", func := "cadastre/cadastrelaw08.KeyCorner", spec := "keyCorner", unfollowed := true, recurses := true, apart := false, narrowed := true }
def KeyCornerUptoSaid : Prop := keyCornerUptoRow.holds Try.pinned (OpenSpec.upto keyCornerSpec)

end Rows
end Go.Proofs.Ythiolmdmdmimeaa
