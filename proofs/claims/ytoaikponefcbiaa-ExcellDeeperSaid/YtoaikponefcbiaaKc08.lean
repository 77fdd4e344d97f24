/- Layer 8, function by function: how points stand, whether one may be. -/
import Derived.Test.YtoaikponefcbiaaProg
import Derived.Test.YtoaikponefcbiaaPk08
import Derived.Test.YtoaikponefcbiaaKy
import Derived.WalkKit
import Derived.RowKit3
import Derived.WalkSpells
import Derived.BigQuiet
import Derived.Deep.QuietTactic
import Derived.WideLaws
import Derived.Lib.Hide
namespace Go.Proofs.Ytoaikponefcbiaa.Kc08
open Go.RowKit Go.Proofs.Ytoaikponefcbiaa.Pk08 Go.Proofs.Ytoaikponefcbiaa.Base Go.Proofs.Ytoaikponefcbiaa.App Go.Proofs.Ytoaikponefcbiaa.Ky
set_option linter.unusedVariables false
set_option linter.unusedSimpArgs false
attribute [local irreducible] cmp leL

theorem isDim_any (d : Int) (w : World) :
    Calls Try.prog 37 #[.int .i64 d] w fun e w' => e = .returned (.bool (decide (1 ≤ d ∧ d ≤ 6))) ∧ w = w' := by
  by_cases h : 1 ≤ d
  · go_enter Try.func37, Try.ntmps37
    go_wp2
    go_ret
    exact ⟨by simp [h], rfl⟩
  · have hd : decide (1 ≤ d) = false := by simpa using h
    go_enter Try.func37, Try.ntmps37
    go_wp2
    go_ret
    exact ⟨by simp [h], rfl⟩
theorem check_any (A : Option Addr) (n c : Nat) (d : Int) (w : World) :
    Calls Try.prog 43 #[.slice A n c, .int .i64 d] w fun e w' => e = .returned (.int .i64 (chk n d)) ∧ w = w' := by
  by_cases h : 1 ≤ d ∧ d ≤ 6
  · have hd : decide (1 ≤ d ∧ d ≤ 6) = true := decide_eq_true h
    by_cases hn : (n : Int) = d
    · have e : chk n d = 0 := by unfold chk; rw [if_pos ⟨h.1, h.2, hn⟩]
      rw [e]
      clear e
      go_enter Try.func43, Try.ntmps43
      go_wp2_with (go_at_call 37; ((with_reducible refine (isDim_any _ _).mono ?_); rintro e w' ⟨rfl, rfl⟩; rw [hd]))
      go_ret
      exact ⟨rfl, rfl⟩
    · have e : chk n d = 1 := by unfold chk; rw [if_neg (fun x => hn x.2.2)]
      have hn2 : ((n : Int) == d) = false := beq_eq_false_iff_ne.2 hn
      rw [e]
      clear e
      go_enter Try.func43, Try.ntmps43
      go_wp2_with (go_at_call 37; ((with_reducible refine (isDim_any _ _).mono ?_); rintro e w' ⟨rfl, rfl⟩; rw [hd]))
      go_ret
      exact ⟨rfl, rfl⟩
  · have hd : decide (1 ≤ d ∧ d ≤ 6) = false := decide_eq_false h
    have e : chk n d = 1 := by unfold chk; rw [if_neg (fun x => h ⟨x.1, x.2.1⟩)]
    rw [e]
    clear e h
    go_enter Try.func43, Try.ntmps43
    go_wp2_with (go_at_call 37; ((with_reducible refine (isDim_any _ _).mono ?_); rintro e w' ⟨rfl, rfl⟩; rw [hd]))
    go_ret
    exact ⟨rfl, rfl⟩
theorem rcheck_any (A : Option Addr) (n c : Nat) (d : Int) (w : World) :
    Calls Try.prog 21 #[.slice A n c, .int .i64 d] w fun e w' => e = .returned (.int .i64 (chk n d)) ∧ w = w' := by
  by_cases h1 : d < 1
  · have e : chk n d = 1 := by unfold chk; rw [if_neg (fun x => by omega)]
    rw [e]; clear e
    go_enter Try.func21, Try.ntmps21
    go_wp2
    go_ret
    exact ⟨rfl, rfl⟩
  · by_cases h2 : 6 < d
    · have e : chk n d = 1 := by unfold chk; rw [if_neg (fun x => by omega)]
      rw [e]; clear e
      go_enter Try.func21, Try.ntmps21
      go_wp2
      go_ret
      exact ⟨rfl, rfl⟩
    · by_cases hn : (n : Int) = d
      · have e : chk n d = 0 := by unfold chk; rw [if_pos ⟨by omega, by omega, hn⟩]
        rw [e]; clear e
        go_enter Try.func21, Try.ntmps21
        go_wp2
        go_ret
        exact ⟨rfl, rfl⟩
      · have e : chk n d = 1 := by unfold chk; rw [if_neg (fun x => hn x.2.2)]
        have hn2 : ((n : Int) == d) = false := beq_eq_false_iff_ne.2 hn
        rw [e]; clear e
        go_enter Try.func21, Try.ntmps21
        go_wp2
        go_ret
        exact ⟨rfl, rfl⟩

/-! ### Compare -/
def c1 (x y : Nat) : Int := if x < y then -1 else if y < x then 1 else 0
section
variable {w : World} {A B : Option Addr} {n m c d : Nat} {a b : List Nat}
end
end Go.Proofs.Ytoaikponefcbiaa.Kc08
