/- Layer 12: may all bounds be? -/
import Derived.Test.YtifpigcgkpmheaaSp12
import Derived.StillTailTactics
namespace Go.Proofs.Ytifpigcgkpmheaa.Sq12
open Go.RowKit Go.Proofs.Ytifpigcgkpmheaa.Pk08 Go.Proofs.Ytifpigcgkpmheaa.Base Go.Proofs.Ytifpigcgkpmheaa.App Go.Proofs.Ytifpigcgkpmheaa.Str Go.Proofs.Ytifpigcgkpmheaa.Ky Go.Proofs.Ytifpigcgkpmheaa.Iv Go.Proofs.Ytifpigcgkpmheaa.Bx Go.Proofs.Ytifpigcgkpmheaa.Bo Go.Proofs.Ytifpigcgkpmheaa.As Go.Proofs.Ytifpigcgkpmheaa.Ro Go.Proofs.Ytifpigcgkpmheaa.Pl08 Go.Proofs.Ytifpigcgkpmheaa.Kc08 Go.Proofs.Ytifpigcgkpmheaa.Ki08 Go.Proofs.Ytifpigcgkpmheaa.Ic Go.Proofs.Ytifpigcgkpmheaa.Sa12 Go.Proofs.Ytifpigcgkpmheaa.Sb12 Go.Proofs.Ytifpigcgkpmheaa.Sc12 Go.Proofs.Ytifpigcgkpmheaa.Sd12 Go.Proofs.Ytifpigcgkpmheaa.Sf12 Go.Proofs.Ytifpigcgkpmheaa.Sg12 Go.Proofs.Ytifpigcgkpmheaa.Sp12
set_option linter.unusedVariables false
set_option linter.unusedSimpArgs false
attribute [local go_sem ↓ high] builtin_app
section
variable {w : World} {A T : Option Addr} {n c gs ct : Nat} {r : List Nat} {rows : List (List Nat)}
theorem notmay_any (hk : Kv w A n c r) : Calls Try.prog 41 #[.slice A n c] w fun e w' => e = .returned (.bool (!(decide (mayR r)))) ∧ w = w' := by
  have HM := Lib.hid (may_any hk)
  clear hk
  generalize decide (mayR r) = z at *
  go_enter Try.func41, Try.ntmps41
  go_wp2_with first
    | (go_at_call 42; ((with_reducible refine HM.out.mono ?_); rintro e w5 ⟨rfl, rfl⟩))
    | fail
  go_ret
  exact ⟨rfl, rfl⟩
/-- The first row that may not be. -/
def badI : List (List Nat) → Nat → Int
  | [], _ => -1
  | r :: rs, k => if mayR r then badI rs (k + 1) else (k : Int)
def allMay (rows : List (List Nat)) : Prop := ∀ r ∈ rows, mayR r
instance (rows : List (List Nat)) : Decidable (allMay rows) := by unfold allMay; infer_instance
theorem badI_ge : ∀ (rs : List (List Nat)) (k : Nat), (0 ≤ badI rs k) ↔ ¬ allMay rs
  | [], k => by simp [badI, allMay]
  | r :: rs, k => by
    unfold badI
    by_cases h : mayR r
    · rw [if_pos h, badI_ge rs (k + 1)]
      simp [allMay, h]
    · rw [if_neg h]
      exact ⟨fun _ e => h (e r (by simp)), fun _ => by omega⟩
theorem badI_step {i : Nat} (hi : i < rows.length) : badI (rows.drop i) i = if mayR (rows.getD i []) then badI (rows.drop (i + 1)) (i + 1) else (i : Int) := by
  rw [List.drop_eq_getElem_cons hi]
  have e : rows.getD i [] = rows[i] := by simp [List.getD_eq_getElem?_getD, hi]
  rw [e]; rfl
theorem index_any (h : Sr w gs T ct rows) (hl : rows.length ≤ 1000000) : Calls Try.prog 61 #[.slice T rows.length ct, .func (.func 41) #[] #[]] w fun e w' => e = .returned (.int .i64 (badI rows 0)) ∧ w = w' := by
  have hcap := h.cap
  have hmost := h.most
  have hmx : maxLen ≤ 9223372036854775807 := by decide
  have HS := Lib.hid h
  clear h
  go_enter Try.func61, Try.ntmps61
  go_wp2
  go_loopw [8] (fun v wr => ∃ i : Nat, v = .int .i64 i ∧ i ≤ rows.length ∧ Hid (badI rows 0 = badI (rows.drop i) i) ∧ w = wr) (fun v _ => rows.length - (intOf v).toNat)
  case atStart => exact ⟨0, rfl, Nat.zero_le _, Lib.hid rfl, rfl⟩
  case round =>
    obtain ⟨i, rfl, hin, Hi, rfl⟩ := hrel
    by_cases hlt : i < rows.length
    · obtain ⟨gt, B, cb, rfl, c1, hk⟩ := HS.out.get i hlt
      have HN := Lib.hid (notmay_any hk)
      have Hb := Lib.hid (badI_step hlt)
      clear hk
      generalize (rows.getD i []).length = m at *
      by_cases hm : mayR (rows.getD i [])
      · have Hc := Lib.hid (Hi.out.trans (Hb.out.trans (if_pos hm)))
        rw [decide_eq_true hm] at HN
        clear Hb hm
        go_wp2_with first
          | (go_at_call 41; ((with_reducible refine HN.out.mono ?_); rintro e w5 ⟨rfl, rfl⟩))
          | fail
        go_roundw
        case rel => exact ⟨i + 1, by go_num, hlt, Hc, by first | rfl | trivial⟩
        case measure => simp [intOf]; omega
      · have Hc := Lib.hid (Hi.out.trans (Hb.out.trans (if_neg hm)))
        rw [decide_eq_false hm] at HN
        clear Hb hm
        go_wp2_with first
          | (go_at_call 41; ((with_reducible refine HN.out.mono ?_); rintro e w5 ⟨rfl, rfl⟩))
          | fail
        go_ret
        exact ⟨by rw [Hc.out]; rfl, rfl⟩
    · obtain rfl : i = rows.length := by omega
      have Hc := Lib.hid (show badI rows 0 = -1 by rw [Hi.out, List.drop_of_length_le (Nat.le_refl _)]; rfl)
      go_wp2
      go_ret
      exact ⟨by rw [Hc.out]; rfl, rfl⟩
theorem somebad_any (h : Sr w gs T ct rows) (hl : rows.length ≤ 1000000) : Calls Try.prog 40 #[.slice T rows.length ct, .func (.func 41) #[] #[]] w fun e w' => e = .returned (.bool (!(decide (allMay rows)))) ∧ w = w' := by
  have HI := Lib.hid (index_any h hl)
  have Hz := Lib.hid (show decide (0 ≤ badI rows 0) = !(decide (allMay rows)) from by have h1 := badI_ge rows 0; by_cases e : allMay rows <;> simp only [e, not_true, not_false_iff, iff_false, iff_true] at h1 <;> simp [e, h1])
  clear h
  generalize badI rows 0 = z at *
  go_enter Try.func40, Try.ntmps40
  go_wp2_with first
    | (go_at_call 61; ((with_reducible refine HI.out.mono ?_); rintro e w5 ⟨rfl, rfl⟩))
    | fail
  go_ret
  exact ⟨by rw [← Hz.out]; rfl, rfl⟩
end
end Go.Proofs.Ytifpigcgkpmheaa.Sq12
