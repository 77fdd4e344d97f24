/- Records: whether one may be; whether there are few. -/
import Derived.Test.YtpkhmakgebaofaaKc08
import Derived.Test.YtpkhmakgebaofaaRv
namespace Go.Proofs.Ytpkhmakgebaofaa.Ra
open Go.RowKit Go.Proofs.Ytpkhmakgebaofaa.Pk08 Go.Proofs.Ytpkhmakgebaofaa.Base Go.Proofs.Ytpkhmakgebaofaa.App Go.Proofs.Ytpkhmakgebaofaa.Ky Go.Proofs.Ytpkhmakgebaofaa.Rv Go.Proofs.Ytpkhmakgebaofaa.Kc08
set_option linter.unusedVariables false
set_option linter.unusedSimpArgs false
/-- May a record be, of a point of n coordinates and its data? -/
def recC (n : Nat) (s : ByteArray) (d : Int) : Int := if s.size ≤ 40 then chk n d else 1
theorem chk_rng (n : Nat) (d : Int) : chk n d = 0 ∨ chk n d = 1 := by unfold chk; split <;> simp
theorem recC_rng (n : Nat) (s : ByteArray) (d : Int) : recC n s d = 0 ∨ recC n s d = 1 := by
  unfold recC; split
  · exact chk_rng n d
  · exact .inr rfl
section
variable {w : World} {A : Option Addr} {n c : Nat} {s : ByteArray}
theorem acheck_any (d : Int) (hs : s.size ≤ maxLen) :
    Calls Try.prog 37 #[.agg #[.slice A n c, .string s], .int .i64 d] w fun e w' => e = .returned (.int .i64 (recC n s d)) ∧ Fr No w w' := by
  have hmx : maxLen ≤ 9223372036854775807 := by decide
  by_cases h : 40 < s.size
  · have e : recC n s d = 1 := by unfold recC; rw [if_neg (by omega)]
    rw [e]; clear e
    go_enter Try.func37, Try.ntmps37
    go_wp2
    go_ret
    refine ⟨rfl, ?_⟩
    (repeat (first | with_reducible exact Fr.refl _ _ | with_reducible refine Fr.setCell ?_ (.inr (by first | (simp; done) | (simp; omega))) _ | with_reducible refine Fr.alloc ?_ _ | with_reducible refine Fr.drew ?_ | with_reducible refine Fr.drewN ?_ _ | with_reducible refine Fr.tr ?_ (by assumption)))
  · have e : recC n s d = chk n d := by unfold recC; rw [if_pos (by omega)]
    rw [e]; clear e
    go_enter Try.func37, Try.ntmps37
    go_wp2_with (go_at_call 38; ((with_reducible refine (check_any _ _ _ _ _).mono ?_); rintro e w1 ⟨rfl, rfl⟩))
    go_ret
    refine ⟨rfl, ?_⟩
    (repeat (first | with_reducible exact Fr.refl _ _ | with_reducible refine Fr.setCell ?_ (.inr (by first | (simp; done) | (simp; omega))) _ | with_reducible refine Fr.alloc ?_ _ | with_reducible refine Fr.drew ?_ | with_reducible refine Fr.drewN ?_ _ | with_reducible refine Fr.tr ?_ (by assumption)))
theorem rrcheck_any (d : Int) (hs : s.size ≤ maxLen) :
    Calls Try.prog 19 #[.agg #[.slice A n c, .string s], .int .i64 d] w fun e w' => e = .returned (.int .i64 (recC n s d)) ∧ Fr No w w' := by
  have hmx : maxLen ≤ 9223372036854775807 := by decide
  rcases chk_rng n d with hk | hk
  · by_cases h : 40 < s.size
    · have e : recC n s d = 1 := by unfold recC; rw [if_neg (by omega)]
      rw [e]; clear e
      go_enter Try.func19, Try.ntmps19
      go_wp2_with (go_at_call 20; ((with_reducible refine (rcheck_any _ _ _ _ _).mono ?_); rintro e w1 ⟨rfl, rfl⟩; rw [hk]))
      go_ret
      refine ⟨rfl, ?_⟩
      (repeat (first | with_reducible exact Fr.refl _ _ | with_reducible refine Fr.setCell ?_ (.inr (by first | (simp; done) | (simp; omega))) _ | with_reducible refine Fr.alloc ?_ _ | with_reducible refine Fr.drew ?_ | with_reducible refine Fr.drewN ?_ _ | with_reducible refine Fr.tr ?_ (by assumption)))
    · have e : recC n s d = 0 := by unfold recC; rw [if_pos (by omega), hk]
      rw [e]; clear e
      go_enter Try.func19, Try.ntmps19
      go_wp2_with (go_at_call 20; ((with_reducible refine (rcheck_any _ _ _ _ _).mono ?_); rintro e w1 ⟨rfl, rfl⟩; rw [hk]))
      go_ret
      refine ⟨rfl, ?_⟩
      (repeat (first | with_reducible exact Fr.refl _ _ | with_reducible refine Fr.setCell ?_ (.inr (by first | (simp; done) | (simp; omega))) _ | with_reducible refine Fr.alloc ?_ _ | with_reducible refine Fr.drew ?_ | with_reducible refine Fr.drewN ?_ _ | with_reducible refine Fr.tr ?_ (by assumption)))
  · have e : recC n s d = 1 := by
      unfold recC; split
      · exact hk
      · rfl
    rw [e]; clear e
    go_enter Try.func19, Try.ntmps19
    go_wp2_with (go_at_call 20; ((with_reducible refine (rcheck_any _ _ _ _ _).mono ?_); rintro e w1 ⟨rfl, rfl⟩; rw [hk]))
    go_ret
    refine ⟨rfl, ?_⟩
    (repeat (first | with_reducible exact Fr.refl _ _ | with_reducible refine Fr.setCell ?_ (.inr (by first | (simp; done) | (simp; omega))) _ | with_reducible refine Fr.alloc ?_ _ | with_reducible refine Fr.drew ?_ | with_reducible refine Fr.drewN ?_ _ | with_reducible refine Fr.tr ?_ (by assumption)))
end
/-- Are there at most 60 records, of 20 coordinates, 100 bytes? -/
def fewB (rs : List Rec) : Bool := decide (rs.length ≤ 60) && rs.all (fun r => decide (r.1.length ≤ 20) && decide (r.2.size ≤ 100))
theorem fewB_iff {rs : List Rec} : fewB rs = true ↔ rs.length ≤ 60 ∧ ∀ i, i < rs.length → (rs.getD i rec0).1.length ≤ 20 ∧ (rs.getD i rec0).2.size ≤ 100 := by
  unfold fewB
  rw [Bool.and_eq_true, decide_eq_true_eq, List.all_eq_true]
  constructor
  · rintro ⟨h1, h2⟩
    refine ⟨h1, fun i hi => ?_⟩
    have e : rs.getD i rec0 = rs[i] := by simp [List.getD_eq_getElem?_getD, hi]
    have := h2 rs[i] (List.getElem_mem hi)
    rw [e]
    simpa using this
  · rintro ⟨h1, h2⟩
    refine ⟨h1, fun r hr => ?_⟩
    obtain ⟨i, hi, rfl⟩ := List.mem_iff_getElem.1 hr
    have e : rs.getD i rec0 = rs[i] := by simp [List.getD_eq_getElem?_getD, hi]
    have := h2 i hi
    rw [e] at this
    simpa using this
section
variable {w : World} {A : Option Addr} {n c : Nat} {rs : List Rec}
set_option maxHeartbeats 800000 in
theorem few_any (hr : Rv w A n c rs) :
    Calls Try.prog 14 #[.slice A n c] w fun e w' => e = .returned (.bool (fewB rs)) ∧ w = w' := by
  have hn := hr.len_le
  have hmx : maxLen ≤ 9223372036854775807 := by decide
  have Hr := Lib.hid hr
  clear hr
  by_cases h60 : 60 < n
  · have e : fewB rs = false := by
      cases h : fewB rs with
      | false => rfl
      | true => have := (fewB_iff.1 h).1; have := Hr.out.len; omega
    rw [e]; clear e
    go_enter Try.func14, Try.ntmps14
    go_wp2
    go_ret
    exact ⟨rfl, rfl⟩
  · go_enter Try.func14, Try.ntmps14
    go_wp2
    go_loop [3] (fun v => ∃ i : Nat, i ≤ n ∧ v = .int .i64 i ∧ Hid (∀ j, j < i → (rs.getD j rec0).1.length ≤ 20 ∧ (rs.getD j rec0).2.size ≤ 100)) (fun v => n - (intOf v).toNat)
    case atStart => exact ⟨0, Nat.zero_le _, rfl, Lib.hid (fun j hj => by omega)⟩
    case round =>
      obtain ⟨i, hi, rfl, Hi⟩ := hrel
      by_cases hlt : i < n
      · obtain ⟨b, off, KA, kc, rfl, c0, c1, hk, hs⟩ := Hr.out.get i (by rw [← Hr.out.len]; exact hlt)
        have hkl := hk.len_le
        have hno : ¬ ((rs.getD i rec0).1.length ≤ 20 ∧ (rs.getD i rec0).2.size ≤ 100) → fewB rs = false := fun hx => by
          cases h : fewB rs with
          | false => rfl
          | true => exact absurd ((fewB_iff.1 h).2 i (by rw [← Hr.out.len]; exact hlt)) hx
        have Hno := Lib.hid hno
        have hyes : (rs.getD i rec0).1.length ≤ 20 ∧ (rs.getD i rec0).2.size ≤ 100 → ∀ j, j < i + 1 → (rs.getD j rec0).1.length ≤ 20 ∧ (rs.getD j rec0).2.size ≤ 100 := fun hx j hj => by
          by_cases e : j = i
          · subst e; exact hx
          · exact Hi.out j (by omega)
        have Hyes := Lib.hid hyes
        clear hno hyes hk
        generalize hrr : rs.getD i rec0 = r at *
        clear hrr
        obtain ⟨ks, s⟩ := r
        simp only at *
        by_cases h1 : 20 < ks.length
        · go_wp2
          go_ret
          exact ⟨by rw [Hno.out (by omega)]; rfl, rfl⟩
        · by_cases h2 : 100 < s.size
          · go_wp2
            go_ret
            exact ⟨by rw [Hno.out (by omega)]; rfl, rfl⟩
          · go_wp2
            go_round
            case rel => exact ⟨i + 1, by omega, by go_num, Lib.hid (Hyes.out ⟨by omega, by omega⟩)⟩
            case measure => simp [intOf]; omega
      · obtain rfl : i = n := by omega
        have E := Lib.hid (show fewB rs = true from fewB_iff.2 ⟨by have := Hr.out.len; omega, fun j hj => Hi.out j (by have := Hr.out.len; omega)⟩)
        go_wp2
        go_ret
        exact ⟨by rw [E.out]; rfl, rfl⟩
end
end Go.Proofs.Ytpkhmakgebaofaa.Ra
