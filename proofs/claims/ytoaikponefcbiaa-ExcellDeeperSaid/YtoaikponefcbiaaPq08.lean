/- Plain facts for layer 8: the box of those with some coordinates. No program in sight. -/
import Derived.Test.YtoaikponefcbiaaPk08
namespace Go.Proofs.Ytoaikponefcbiaa.Pq08
set_option linter.unusedVariables false
/-- The coordinate before the i-th, or -1. -/
def prev (xs : List Int) : Nat → Int
  | 0 => -1
  | i + 1 => xs.getD i 0
/-- May the first i coordinates be named? -/
def okP (dim : Int) (xs : List Int) : Nat → Bool
  | 0 => true
  | i + 1 => okP dim xs i && (decide (prev xs i < xs.getD i 0) && decide (xs.getD i 0 < dim))
/-- A corner with the first i of them laid in. -/
def setP (base : List Nat) (xs : List Int) (ks : List Nat) : Nat → List Nat
  | 0 => base
  | i + 1 => (setP base xs ks i).set (xs.getD i 0).toNat (ks.getD i 0)
theorem setP_len (base : List Nat) (xs : List Int) (ks : List Nat) (i : Nat) : (setP base xs ks i).length = base.length := by
  induction i with
  | zero => rfl
  | succ i ih => simp [setP, ih]
theorem okP_le (dim : Int) (xs : List Int) (i j : Nat) (h : j ≤ i) (ho : okP dim xs i = true) : okP dim xs j = true := by
  induction i with
  | zero => have : j = 0 := by omega
            subst this; rfl
  | succ i ih =>
    by_cases e : j = i + 1
    · subst e; exact ho
    · simp only [okP, Bool.and_eq_true] at ho
      exact ih (by omega) ho.1
theorem prev_ge (dim : Int) (xs : List Int) (i : Nat) (ho : okP dim xs i = true) : -1 ≤ prev xs i := by
  induction i with
  | zero => simp [prev]
  | succ i ih =>
    simp only [okP, Bool.and_eq_true, decide_eq_true_eq] at ho
    have := ih ho.1
    simp only [prev]
    omega
end Go.Proofs.Ytoaikponefcbiaa.Pq08
