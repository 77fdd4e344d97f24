/- Layer 5: math/bits' two functions, walked. -/
import Derived.Test.YthnahdoagibckaaProg
import Derived.Test.YthnahdoagibckaaPl05
import Derived.Test.YthnahdoagibckaaWl05
import Derived.WalkKit
import Derived.RowKit3
import Derived.WalkSpells
namespace Go.Proofs.Ythnahdoagibckaa.Wa05
open Go.RowKit Go.Proofs.Ythnahdoagibckaa.Pl05 Go.Proofs.Ythnahdoagibckaa.Wl05
set_option linter.unusedVariables false
set_option linter.unusedSimpArgs false

set_option maxRecDepth 100000 in
theorem ones (x : Nat) (hx : x < 2 ^ 64) (w : World) :
    Calls Try.prog 26 #[.int .u64 (x : Int)] w fun e w' => e = .returned (.int .i64 (pc 64 x : Nat)) ∧ w' = w := by
  go_enter Try.func26, Try.ntmps26
  go_wp2
  go_ret
  obtain ⟨l1, l2, l3, l4, l5, l6, l7, l8⟩ := ones_steps x hx
  have e1 : bits BinOp.and IntKind.u64 ((x : Int) / 2) 6148914691236517205 = ((x / 2 &&& 6148914691236517205 : Nat) : Int) := onesA x 6148914691236517205 2 hx (by decide)
  have e2 : bits BinOp.and IntKind.u64 (x : Int) 6148914691236517205 = ((x &&& 6148914691236517205 : Nat) : Int) := w64_and x 6148914691236517205 hx (by decide)
  rw [e1, e2, wrapN _ _ l1]
  generalize (x / 2 &&& 6148914691236517205) + (x &&& 6148914691236517205) = a at *
  have e3 : bits BinOp.and IntKind.u64 ((a : Int) / 4) 3689348814741910323 = ((a / 4 &&& 3689348814741910323 : Nat) : Int) := onesA a 3689348814741910323 4 l1 (by decide)
  have e4 : bits BinOp.and IntKind.u64 (a : Int) 3689348814741910323 = ((a &&& 3689348814741910323 : Nat) : Int) := w64_and a 3689348814741910323 l1 (by decide)
  rw [e3, e4, wrapN _ _ l2]
  generalize (a / 4 &&& 3689348814741910323) + (a &&& 3689348814741910323) = b at *
  have e5 : IntKind.u64.wrap ((b : Int) / 16 + (b : Int)) = ((b / 16 + b : Nat) : Int) := wrapNp b b 16 l3
  rw [e5]
  have e6 : bits BinOp.and IntKind.u64 ((b / 16 + b : Nat) : Int) 1085102592571150095 = (((b / 16 + b) &&& 1085102592571150095 : Nat) : Int) := w64_and _ 1085102592571150095 l3 (by decide)
  rw [e6]
  generalize (b / 16 + b) &&& 1085102592571150095 = c at *
  have e7 : IntKind.u64.wrap ((c : Int) + (c : Int) / 256) = ((c + c / 256 : Nat) : Int) := wrapNq c c 256 l5
  rw [e7]
  generalize c + c / 256 = d at *
  have e8 : IntKind.u64.wrap ((d : Int) + (d : Int) / 65536) = ((d + d / 65536 : Nat) : Int) := wrapNq d d 65536 l6
  rw [e8]
  generalize d + d / 65536 = e at *
  have e9 : IntKind.u64.wrap ((e : Int) + (e : Int) / 4294967296) = ((e + e / 4294967296 : Nat) : Int) := wrapNq e e 4294967296 (Nat.lt_trans l7 (by decide))
  rw [e9]
  generalize e + e / 4294967296 = z at *
  refine ⟨?_, rfl⟩
  have e10 : bits BinOp.and IntKind.i64 (wrap64 (z : Int)) 127 = (z : Int) % 128 := by
    have hz : wrap64 (z : Int) = z := by unfold wrap64; omega
    rw [hz]
    exact i64_and127 _
  show Ending.returned (Value.int IntKind.i64 (bits BinOp.and IntKind.i64 (wrap64 (z : Int)) 127)) = _
  rw [e10, ← l8]
  rfl

theorem zeros64 (x : Nat) (hx : x < 2 ^ 64) (w : World) :
    Calls Try.prog 28 #[.int .u64 (x : Int)] w fun e w' => e = .returned (.int .i64 ((64 - Lib.bitLen x : Nat) : Int)) ∧ w' = w := by
  have l : Lib.bitLen x ≤ 64 := Lib.bitLen_le x 64 (by omega) hx
  go_enter Try.func28, Try.ntmps28
  go_wp2_with (go_at_call 31; refine (len64 _ _ (by omega) (by omega)).mono ?_; rintro e w' ⟨rfl, rfl⟩)
  go_ret
  refine ⟨?_, rfl⟩
  show Ending.returned (Value.int IntKind.i64 (64 - (Lib.bitLen ((x : Int).toNat) : Int))) = _
  rw [Int.toNat_natCast]
  congr 2
  omega
end Go.Proofs.Ythnahdoagibckaa.Wa05
