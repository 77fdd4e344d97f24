/- Layer 18: levels; how many chains there are; what comes next, and what was ahead. -/
import Derived.Test.YtplpgneckfmjpaaGf
import Derived.Test.YtplpgneckfmjpaaPz18
namespace Go.Proofs.Ytplpgneckfmjpaa.La18
open Go.RowKit Go.Proofs.Ytplpgneckfmjpaa.Pk08 Go.Proofs.Ytplpgneckfmjpaa.Base Go.Proofs.Ytplpgneckfmjpaa.App Go.Proofs.Ytplpgneckfmjpaa.Px16 Go.Proofs.Ytplpgneckfmjpaa.Py16 Go.Proofs.Ytplpgneckfmjpaa.Pz18 Go.Proofs.Ytplpgneckfmjpaa.Hd16
set_option linter.unusedVariables false
set_option linter.unusedSimpArgs false
def cnV (l n : Int) : Int := if lvOk l n = true then 2 ^ l.toNat + n else 0
def cnE (l n : Int) : Int := if lvOk l n = true then 0 else 1
theorem lv_in {l n : Int} (h : lvOk l n = true) : ∃ u m : Nat, l = (u : Int) ∧ n = (m : Int) ∧ u ≤ 10 ∧ m < 2 ^ u ∧ (m : Int) < 2 ^ u ∧ 2 ^ u ≤ 1024 ∧ (2 : Int) ^ u ≤ 1024 ∧ 0 ≤ (2 : Int) ^ u := by
  obtain ⟨h1, h2, h3, h4⟩ := lvOk_iff.1 h
  obtain ⟨u, rfl⟩ := Int.eq_ofNat_of_zero_le h1
  obtain ⟨m, rfl⟩ := Int.eq_ofNat_of_zero_le h3
  rw [Int.toNat_natCast] at h4
  have hp : ((2 ^ u : Nat) : Int) = (2 : Int) ^ u := by simp
  have h5 := Nat.pow_le_pow_right (show 0 < 2 by decide) (show u ≤ 10 by omega)
  have h6 : (2 : Nat) ^ 10 = 1024 := rfl
  exact ⟨u, m, rfl, rfl, by omega, by omega, h4, by omega, by omega, by omega⟩
theorem lv_out {l n : Int} (h : lvOk l n = false) : l < 0 ∨ (0 ≤ l ∧ 10 < l) ∨ (0 ≤ l ∧ l ≤ 10 ∧ n < 0) ∨ ∃ u : Nat, l = (u : Int) ∧ u ≤ 10 ∧ 0 ≤ n ∧ 2 ^ u ≤ n := by
  unfold lvOk at h
  have h' := of_decide_eq_false h
  by_cases h1 : l < 0
  · exact .inl h1
  · by_cases h2 : 10 < l
    · exact .inr (.inl ⟨by omega, h2⟩)
    · by_cases h3 : n < 0
      · exact .inr (.inr (.inl ⟨by omega, by omega, h3⟩))
      · obtain ⟨u, rfl⟩ := Int.eq_ofNat_of_zero_le (show 0 ≤ l by omega)
        refine .inr (.inr (.inr ⟨u, rfl, by omega, by omega, ?_⟩))
        rw [Int.toNat_natCast] at h'
        by_cases h4 : n < 2 ^ u
        · exact absurd ⟨by omega, by omega, by omega, h4⟩ h'
        · omega
section
variable {w : World}
theorem lis_any (l n : Int) : Calls Try.prog 25 #[.int .i64 l, .int .i64 n] w fun e w' => e = .returned (.bool (lvOk l n)) ∧ w = w' := by
  cases h : lvOk l n with
  | true =>
    obtain ⟨u, m, rfl, rfl, h1, h2, h3, h4, h5, h6⟩ := lv_in h
    have hw : wrap64 ((2 : Int) ^ u) = 2 ^ u := IntWalk.wrap64_in _ (by omega)
    clear h h4
    go_enter Try.func25, Try.ntmps25
    go_wp2
    go_ret
    exact ⟨rfl, rfl⟩
  | false =>
    rcases lv_out h with h1 | ⟨h1, h2⟩ | ⟨h1, h2, h3⟩ | ⟨u, rfl, h1, h2, h3⟩
    · clear h
      go_enter Try.func25, Try.ntmps25
      go_wp2
      go_ret
      exact ⟨rfl, rfl⟩
    · clear h
      go_enter Try.func25, Try.ntmps25
      go_wp2
      go_ret
      exact ⟨rfl, rfl⟩
    · clear h
      go_enter Try.func25, Try.ntmps25
      go_wp2
      go_ret
      exact ⟨rfl, rfl⟩
    · obtain ⟨p1, p2⟩ := two_le u (by omega)
      have hd : decide (n < 2 ^ u) = false := decide_eq_false (by omega)
      have hw : wrap64 ((2 : Int) ^ u) = 2 ^ u := IntWalk.wrap64_in _ (by omega)
      clear h
      go_enter Try.func25, Try.ntmps25
      go_wp2
      go_ret
      exact ⟨rfl, rfl⟩
theorem ris_any (l n : Int) : Calls Try.prog 26 #[.int .i64 l, .int .i64 n] w fun e w' => e = .returned (.bool (lvOk l n)) ∧ w = w' := by
  cases h : lvOk l n with
  | true =>
    obtain ⟨u, m, rfl, rfl, h1, h2, h3, h4, h5, h6⟩ := lv_in h
    have hw : wrap64 ((2 : Int) ^ u) = 2 ^ u := IntWalk.wrap64_in _ (by omega)
    clear h h4
    go_enter Try.func26, Try.ntmps26
    go_wp2
    go_ret
    exact ⟨rfl, rfl⟩
  | false =>
    rcases lv_out h with h1 | ⟨h1, h2⟩ | ⟨h1, h2, h3⟩ | ⟨u, rfl, h1, h2, h3⟩
    · clear h
      go_enter Try.func26, Try.ntmps26
      go_wp2
      go_ret
      exact ⟨rfl, rfl⟩
    · clear h
      go_enter Try.func26, Try.ntmps26
      go_wp2
      go_ret
      exact ⟨rfl, rfl⟩
    · clear h
      go_enter Try.func26, Try.ntmps26
      go_wp2
      go_ret
      exact ⟨rfl, rfl⟩
    · obtain ⟨p1, p2⟩ := two_le u (by omega)
      have hd : decide (n < 2 ^ u) = false := decide_eq_false (by omega)
      have hw : wrap64 ((2 : Int) ^ u) = 2 ^ u := IntWalk.wrap64_in _ (by omega)
      clear h
      go_enter Try.func26, Try.ntmps26
      go_wp2
      go_ret
      exact ⟨rfl, rfl⟩
theorem count_any (l n : Int) : Calls Try.prog 10 #[.int .i64 l, .int .i64 n] w fun e w' => e = .returned (.tuple #[.int .i64 (cnV l n), .int .i64 (cnE l n)]) ∧ w = w' := by
  cases h : lvOk l n with
  | true =>
    have E1 := Lib.hid (show cnV l n = 2 ^ l.toNat + n by unfold cnV; rw [if_pos h])
    have E2 := Lib.hid (show cnE l n = 0 by unfold cnE; rw [if_pos h])
    rw [E1.out, E2.out]
    obtain ⟨u, m, rfl, rfl, h1, h2, h3, h4, h5, h6⟩ := lv_in h
    have H := Lib.hid h
    have hw : wrap64 ((2 : Int) ^ u) = 2 ^ u := IntWalk.wrap64_in _ (by omega)
    have hw2 : wrap64 ((2 : Int) ^ u + m) = 2 ^ u + m := IntWalk.wrap64_in _ (by omega)
    rw [Int.toNat_natCast]
    clear h h4
    go_enter Try.func10, Try.ntmps10
    go_wp2_with (go_at_call 25; ((with_reducible refine (lis_any _ _).mono ?_); rintro e w1 ⟨rfl, rfl⟩; rw [H.out]))
    go_ret2
    exact ⟨rfl, rfl⟩
  | false =>
    have E1 := Lib.hid (show cnV l n = 0 by unfold cnV; rw [h]; rfl)
    have E2 := Lib.hid (show cnE l n = 1 by unfold cnE; rw [h]; rfl)
    rw [E1.out, E2.out]
    have H := Lib.hid h
    clear h
    go_enter Try.func10, Try.ntmps10
    go_wp2_with (go_at_call 25; ((with_reducible refine (lis_any _ _).mono ?_); rintro e w1 ⟨rfl, rfl⟩; rw [H.out]))
    go_ret2
    exact ⟨rfl, rfl⟩
theorem rcount_any (l n : Int) : Calls Try.prog 11 #[.int .i64 l, .int .i64 n] w fun e w' => e = .returned (.tuple #[.int .i64 (cnV l n), .int .i64 (cnE l n)]) ∧ w = w' := by
  cases h : lvOk l n with
  | true =>
    have E1 := Lib.hid (show cnV l n = 2 ^ l.toNat + n by unfold cnV; rw [if_pos h])
    have E2 := Lib.hid (show cnE l n = 0 by unfold cnE; rw [if_pos h])
    rw [E1.out, E2.out]
    obtain ⟨u, m, rfl, rfl, h1, h2, h3, h4, h5, h6⟩ := lv_in h
    have H := Lib.hid h
    have hw : wrap64 ((2 : Int) ^ u) = 2 ^ u := IntWalk.wrap64_in _ (by omega)
    have hw2 : wrap64 ((2 : Int) ^ u + m) = 2 ^ u + m := IntWalk.wrap64_in _ (by omega)
    rw [Int.toNat_natCast]
    clear h h4
    go_enter Try.func11, Try.ntmps11
    go_wp2_with (go_at_call 26; ((with_reducible refine (ris_any _ _).mono ?_); rintro e w1 ⟨rfl, rfl⟩; rw [H.out]))
    go_ret2
    exact ⟨rfl, rfl⟩
  | false =>
    have E1 := Lib.hid (show cnV l n = 0 by unfold cnV; rw [h]; rfl)
    have E2 := Lib.hid (show cnE l n = 1 by unfold cnE; rw [h]; rfl)
    rw [E1.out, E2.out]
    have H := Lib.hid h
    clear h
    go_enter Try.func11, Try.ntmps11
    go_wp2_with (go_at_call 26; ((with_reducible refine (ris_any _ _).mono ?_); rintro e w1 ⟨rfl, rfl⟩; rw [H.out]))
    go_ret2
    exact ⟨rfl, rfl⟩
/-- Four numbers. -/
def q4 (p : Int × Int × Int × Int) : Value := .tuple #[.int .i64 p.1, .int .i64 p.2.1, .int .i64 p.2.2.1, .int .i64 p.2.2.2]
theorem grow_cases (l n : Int) : (lvOk l n = false ∧ grow l n = (0, 0, 0, 1)) ∨ (lvOk l n = true ∧ l = 10 ∧ grow l n = (0, 0, 0, 4)) ∨ (lvOk l n = true ∧ l ≠ 10 ∧ n + 1 = 2 ^ l.toNat ∧ grow l n = (l + 1, 0, 2 * n, 0)) ∨ (lvOk l n = true ∧ l ≠ 10 ∧ n + 1 ≠ 2 ^ l.toNat ∧ grow l n = (l, n + 1, 2 * n, 0)) := by
  cases h : lvOk l n with
  | false => exact .inl ⟨rfl, by unfold grow; rw [if_pos h]⟩
  | true =>
    by_cases h1 : l = 10
    · exact .inr (.inl ⟨rfl, h1, by unfold grow; rw [if_neg (by rw [h]; decide), if_pos h1]⟩)
    · by_cases h2 : n + 1 = 2 ^ l.toNat
      · exact .inr (.inr (.inl ⟨rfl, h1, h2, by unfold grow; rw [if_neg (by rw [h]; decide), if_neg h1, if_pos h2]⟩))
      · exact .inr (.inr (.inr ⟨rfl, h1, h2, by unfold grow; rw [if_neg (by rw [h]; decide), if_neg h1, if_neg h2]⟩))
theorem shrink_cases (l n : Int) : (lvOk l n = false ∧ shrink l n = (0, 0, 0, 1)) ∨ (lvOk l n = true ∧ l = 0 ∧ shrink l n = (0, 0, 0, 1)) ∨ (lvOk l n = true ∧ l ≠ 0 ∧ n = 0 ∧ shrink l n = (l - 1, 2 ^ (l - 1).toNat - 1, 2 * (2 ^ (l - 1).toNat - 1), 0)) ∨ (lvOk l n = true ∧ l ≠ 0 ∧ n ≠ 0 ∧ shrink l n = (l, n - 1, 2 * (n - 1), 0)) := by
  cases h : lvOk l n with
  | false => exact .inl ⟨rfl, by unfold shrink; rw [if_pos (.inl h)]⟩
  | true =>
    by_cases h1 : l = 0
    · exact .inr (.inl ⟨rfl, h1, by unfold shrink; rw [if_pos (.inr h1)]⟩)
    · have hn : ¬ (lvOk l n = false ∨ l = 0) := fun x => x.elim (fun y => by rw [h] at y; cases y) h1
      by_cases h2 : n = 0
      · exact .inr (.inr (.inl ⟨rfl, h1, h2, by unfold shrink; rw [if_neg hn, if_pos h2]⟩))
      · exact .inr (.inr (.inr ⟨rfl, h1, h2, by unfold shrink; rw [if_neg hn, if_neg h2]⟩))
end
end Go.Proofs.Ytplpgneckfmjpaa.La18
