/- Layer 12: may bounds be? -/
import Derived.Test.YtifpigcgkpmheaaSo12
import Derived.Test.YtifpigcgkpmheaaSg12
import Derived.StillTailTactics
namespace Go.Proofs.Ytifpigcgkpmheaa.Sp12
open Go.RowKit Go.Proofs.Ytifpigcgkpmheaa.Pk08 Go.Proofs.Ytifpigcgkpmheaa.Base Go.Proofs.Ytifpigcgkpmheaa.App Go.Proofs.Ytifpigcgkpmheaa.Str Go.Proofs.Ytifpigcgkpmheaa.Ky Go.Proofs.Ytifpigcgkpmheaa.Iv Go.Proofs.Ytifpigcgkpmheaa.Bx Go.Proofs.Ytifpigcgkpmheaa.Bo Go.Proofs.Ytifpigcgkpmheaa.As Go.Proofs.Ytifpigcgkpmheaa.Ro Go.Proofs.Ytifpigcgkpmheaa.Pl08 Go.Proofs.Ytifpigcgkpmheaa.Kc08 Go.Proofs.Ytifpigcgkpmheaa.Ki08 Go.Proofs.Ytifpigcgkpmheaa.Ic Go.Proofs.Ytifpigcgkpmheaa.Sa12 Go.Proofs.Ytifpigcgkpmheaa.Sb12 Go.Proofs.Ytifpigcgkpmheaa.Sc12 Go.Proofs.Ytifpigcgkpmheaa.Sd12 Go.Proofs.Ytifpigcgkpmheaa.Sf12 Go.Proofs.Ytifpigcgkpmheaa.Sg12
set_option linter.unusedVariables false
set_option linter.unusedSimpArgs false
attribute [local go_sem ↓ high] builtin_app
def mayR (r : List Nat) : Prop := (∀ i, i < r.length → lowV r i < r.getD i 0) ∧ r.length ≤ 63
instance (r : List Nat) : Decidable (mayR r) := by unfold mayR; infer_instance
section
variable {w : World} {A : Option Addr} {n c : Nat} {r : List Nat}
theorem may_any (hk : Kv w A n c r) : Calls Try.prog 42 #[.slice A n c] w fun e w' => e = .returned (.bool (decide (mayR r))) ∧ w = w' := by
  have hcap := hk.cap
  have hcm := hk.most
  have hmx : maxLen ≤ 9223372036854775807 := by decide
  have Hk := Lib.hid hk
  have Hl := Lib.hid hk.len
  clear hk
  go_enter Try.func42, Try.ntmps42
  go_wp2
  go_loopw [7] (fun v wr => ∃ i : Nat, v = .int .i64 i ∧ i ≤ n ∧ Hid (∀ j, j < i → lowV r j < r.getD j 0) ∧ w = wr) (fun v _ => n - (intOf v).toNat)
  case atStart => exact ⟨0, rfl, Nat.zero_le _, Lib.hid (fun j hj => absurd hj (Nat.not_lt_zero _)), rfl⟩
  case round =>
    obtain ⟨i, rfl, hin, Hi, rfl⟩ := hrel
    by_cases hlt : i < n
    · obtain ⟨b, off, rfl, c0⟩ := Hk.out.get i (by rw [← Hl.out]; exact hlt)
      have HL := Lib.hid (low_any Hk.out i hin)
      obtain ⟨y, hy⟩ : ∃ y, r.getD i 0 = y := ⟨_, rfl⟩
      obtain ⟨z, hz⟩ : ∃ z, lowV r i = z := ⟨_, rfl⟩
      rw [hy] at c0
      rw [hz] at HL
      have Hy := Lib.hid hy
      have Hz := Lib.hid hz
      clear hy hz
      by_cases hzy : z < y
      · have hb : ((y : Int) == (z : Int)) = false := by rw [beq_eq_false_iff_ne]; omega
        go_wp2_with first
          | (go_at_call 49; ((with_reducible refine HL.out.mono ?_); rintro e w5 ⟨rfl, rfl⟩))
          | fail
        go_roundw
        case rel => exact ⟨i + 1, by go_num, hlt, Lib.hid (fun j hj => by
          rcases Nat.lt_or_ge j i with e | e
          · exact Hi.out j e
          · obtain rfl : j = i := by omega
            rw [Hy.out, Hz.out]; exact hzy), by first | rfl | trivial⟩
        case measure => simp [intOf]; omega
      · have Hn := Lib.hid (show decide (mayR r) = false from decide_eq_false (fun e => hzy (by have := e.1 i (by rw [← Hl.out]; exact hlt); rw [Hy.out, Hz.out] at this; exact this)))
        by_cases hyz : y = z
        · subst hyz
          go_wp2_with first
            | (go_at_call 49; ((with_reducible refine HL.out.mono ?_); rintro e w5 ⟨rfl, rfl⟩))
            | fail
          go_ret
          exact ⟨by rw [Hn.out]; rfl, rfl⟩
        · have hb : ((y : Int) == (z : Int)) = false := by rw [beq_eq_false_iff_ne]; omega
          go_wp2_with first
            | (go_at_call 49; ((with_reducible refine HL.out.mono ?_); rintro e w5 ⟨rfl, rfl⟩))
            | fail
          go_ret
          exact ⟨by rw [Hn.out]; rfl, rfl⟩
    · obtain rfl : i = n := by omega
      have Hd := Lib.hid (show decide (mayR r) = decide ((i : Int) ≤ 63) from by
        apply decide_eq_decide.2
        unfold mayR
        rw [← Hl.out]
        exact ⟨fun e => by have := e.2; omega, fun e => ⟨Hi.out, by omega⟩⟩)
      go_wp2
      go_ret
      exact ⟨by rw [Hd.out]; rfl, rfl⟩
end
end Go.Proofs.Ytifpigcgkpmheaa.Sp12
