/- Plain laws for layer 8: the order of points, boxes, bits. No program in sight. -/
import Derived.Test.YtoaikponefcbiaaPq08
namespace Go.Proofs.Ytoaikponefcbiaa.Pl08
open Go.Proofs.Ytoaikponefcbiaa.Pk08 Go.Proofs.Ytoaikponefcbiaa.Pq08
set_option linter.unusedVariables false
set_option linter.unusedSimpArgs false
theorem cmp_swap : ∀ a b : List Nat, cmp b a = - cmp a b
  | [], [] => rfl
  | [], _ :: _ => rfl
  | _ :: _, [] => rfl
  | x :: xs, y :: ys => by
    simp only [cmp]
    by_cases h : x < y
    · rw [if_neg (by omega), if_pos h, if_pos h]; rfl
    · by_cases h2 : y < x
      · rw [if_pos h2, if_neg h, if_pos h2]
      · rw [if_neg h2, if_neg h, if_neg h, if_neg h2]; exact cmp_swap xs ys
theorem cmp_zero : ∀ a b : List Nat, cmp a b = 0 ↔ a = b
  | [], [] => by simp [cmp]
  | [], y :: ys => by simp [cmp]
  | x :: xs, [] => by simp [cmp]
  | x :: xs, y :: ys => by
    simp only [cmp, List.cons.injEq]
    by_cases h : x < y
    · rw [if_pos h]; constructor
      · intro e; omega
      · intro e; omega
    · by_cases h2 : y < x
      · rw [if_neg h, if_pos h2]; constructor
        · intro e; omega
        · intro e; omega
      · rw [if_neg h, if_neg h2, cmp_zero xs ys]
        constructor
        · intro e; exact ⟨by omega, e⟩
        · intro e; exact e.2
theorem cmp_self (a : List Nat) : cmp a a = 0 := (cmp_zero a a).2 rfl
theorem cmp_eqB (a b : List Nat) : (cmp a b == 0) = decide (a = b) := by
  by_cases h : a = b
  · rw [decide_eq_true h, (cmp_zero a b).2 h]; rfl
  · rw [decide_eq_false h]; exact beq_eq_false_iff_ne.2 (fun e => h ((cmp_zero a b).1 e))
theorem cmp_le_trans : ∀ a b c : List Nat, cmp a b ≤ 0 → cmp b c ≤ 0 → cmp a c ≤ 0
  | [], _, [], _, _ => by simp [cmp]
  | [], _, z :: zs, _, _ => by simp [cmp]
  | x :: xs, [], c, h, _ => by simp [cmp] at h
  | x :: xs, y :: ys, [], _, h => by simp [cmp] at h
  | x :: xs, y :: ys, z :: zs, h1, h2 => by
    simp only [cmp] at *
    by_cases a1 : x < y
    · by_cases a2 : y < z
      · rw [if_pos (by omega)]; decide
      · by_cases a3 : z < y
        · rw [if_neg a2, if_pos a3] at h2; omega
        · rw [if_pos (by omega)]; decide
    · by_cases a1' : y < x
      · rw [if_neg a1, if_pos a1'] at h1; omega
      · rw [if_neg a1, if_neg a1'] at h1
        by_cases a2 : y < z
        · rw [if_pos (by omega)]; decide
        · by_cases a3 : z < y
          · rw [if_neg a2, if_pos a3] at h2; omega
          · rw [if_neg a2, if_neg a3] at h2
            rw [if_neg (by omega), if_neg (by omega)]
            exact cmp_le_trans xs ys zs h1 h2
theorem cmp_rng : ∀ a b : List Nat, -1 ≤ cmp a b ∧ cmp a b ≤ 1
  | [], [] => by simp [cmp]
  | [], _ :: _ => by simp [cmp]
  | _ :: _, [] => by simp [cmp]
  | x :: xs, y :: ys => by
    simp only [cmp]
    have := cmp_rng xs ys
    split
    · omega
    · split <;> omega
theorem leL_iff : ∀ a b : List Nat, leL a b = true ↔ (a.length = b.length ∧ ∀ i, i < a.length → a.getD i 0 ≤ b.getD i 0)
  | [], [] => by simp [leL]
  | [], y :: ys => by simp [leL]
  | x :: xs, [] => by simp [leL]
  | x :: xs, y :: ys => by
    simp only [leL, Bool.and_eq_true, decide_eq_true_eq, leL_iff xs ys, List.length_cons]
    constructor
    · rintro ⟨h1, h2, h3⟩
      refine ⟨by omega, fun i hi => ?_⟩
      cases i with
      | zero => simpa using h1
      | succ i => simpa using h3 i (by omega)
    · rintro ⟨h1, h2⟩
      exact ⟨by simpa using h2 0 (by omega), by omega, fun i hi => by simpa using h2 (i + 1) (by omega)⟩
theorem leL_refl (a : List Nat) : leL a a = true := (leL_iff a a).2 ⟨rfl, fun _ _ => Nat.le_refl _⟩
theorem chkB_zero {lo hi : List Nat} {d : Int} : chkB lo hi d = 0 ↔ (1 ≤ d ∧ d ≤ 6 ∧ (lo.length : Int) = d ∧ leL lo hi = true) := by
  unfold chkB chk
  by_cases h : 1 ≤ d ∧ d ≤ 6 ∧ (lo.length : Int) = d
  · rw [if_pos h]
    by_cases h2 : leL lo hi = true
    · rw [if_pos ⟨rfl, h2⟩]; simp [h, h2]
    · rw [if_neg (fun x => h2 x.2)]; simp [h2]
  · rw [if_neg h, if_neg (fun x => absurd x.1 (by decide))]
    constructor
    · intro e; omega
    · rintro ⟨a, b, c, _⟩; exact absurd ⟨a, b, c⟩ h
theorem bitsK_pre (k : List Nat) (n d : Nat) : bitsK k n = bitsK k (n + d) / 2 ^ d := by
  induction d with
  | zero => simp
  | succ d ih =>
    have h : bitsK k (n + (d + 1)) = 2 * bitsK k (n + d) + bitk k (n + d) := rfl
    have := bitk_lt k (n + d)
    rw [h, Nat.pow_succ, Nat.mul_comm (2 ^ d) 2, ← Nat.div_div_eq_div_mul]
    have e : (2 * bitsK k (n + d) + bitk k (n + d)) / 2 = bitsK k (n + d) := by omega
    rw [e]
    exact ih
end Go.Proofs.Ytoaikponefcbiaa.Pl08
