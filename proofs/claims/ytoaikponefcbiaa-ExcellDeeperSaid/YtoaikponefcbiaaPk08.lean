/- Plain facts for layer 8: points and boxes as lists of numbers. No program in sight. -/
import Derived.Test.YtoaikponefcbiaaProg
namespace Go.Proofs.Ytoaikponefcbiaa.Pk08
set_option linter.unusedVariables false

/-- How two points stand. -/
def cmp : List Nat → List Nat → Int
  | [], [] => 0
  | [], _ :: _ => -1
  | _ :: _, [] => 1
  | x :: xs, y :: ys => if x < y then -1 else if y < x then 1 else cmp xs ys
/-- Is each coordinate at most the other's? -/
def leL : List Nat → List Nat → Bool
  | [], [] => true
  | x :: xs, y :: ys => decide (x ≤ y) && leL xs ys
  | _, _ => false
def chk (n : Nat) (d : Int) : Int := if 1 ≤ d ∧ d ≤ 6 ∧ (n : Int) = d then 0 else 1
def inB (k lo hi : List Nat) : Bool := leL lo k && leL k hi
def chkB (lo hi : List Nat) (d : Int) : Int := if chk lo.length d = 0 ∧ leL lo hi = true then 0 else 1
theorem drop_cons (a : List Nat) (i : Nat) (h : i < a.length) : a.drop i = a.getD i 0 :: a.drop (i + 1) := by
  rw [List.drop_eq_getElem_cons h]
  simp [List.getD_eq_getElem?_getD, h]
theorem drop_all (a : List Nat) (i : Nat) (h : a.length ≤ i) : a.drop i = [] := List.drop_eq_nil_of_le h
theorem cmp_lt (a b : List Nat) (i : Nat) (ha : i < a.length) (hb : i < b.length) (h : a.getD i 0 < b.getD i 0) : cmp (a.drop i) (b.drop i) = -1 := by
  rw [drop_cons a i ha, drop_cons b i hb]
  simp only [cmp]
  rw [if_pos h]
theorem cmp_gt (a b : List Nat) (i : Nat) (ha : i < a.length) (hb : i < b.length) (h : b.getD i 0 < a.getD i 0) : cmp (a.drop i) (b.drop i) = 1 := by
  rw [drop_cons a i ha, drop_cons b i hb]
  have : ¬ a.getD i 0 < b.getD i 0 := by omega
  simp only [cmp]
  rw [if_neg this, if_pos h]
theorem cmp_on (a b : List Nat) (i : Nat) (ha : i < a.length) (hb : i < b.length) (h : a.getD i 0 = b.getD i 0) : cmp (a.drop i) (b.drop i) = cmp (a.drop (i + 1)) (b.drop (i + 1)) := by
  rw [drop_cons a i ha, drop_cons b i hb]
  simp only [cmp]
  rw [if_neg (by omega), if_neg (by omega)]
theorem cmp_end (a b : List Nat) (i : Nat) (h : ¬ (i < a.length ∧ i < b.length)) (hi : i ≤ a.length) (hi2 : i ≤ b.length) : cmp (a.drop i) (b.drop i) = if a.length < b.length then -1 else if b.length < a.length then 1 else 0 := by
  by_cases h1 : i < a.length
  · have hb : b.length ≤ i := by omega
    rw [drop_cons a i h1, drop_all b i hb]
    simp only [cmp]
    rw [if_neg (by omega), if_pos (by omega)]
  · rw [drop_all a i (by omega)]
    by_cases h2 : i < b.length
    · rw [drop_cons b i h2]
      simp only [cmp]
      rw [if_pos (by omega)]
    · rw [drop_all b i (by omega)]
      simp only [cmp]
      rw [if_neg (by omega), if_neg (by omega)]
theorem leL_no (a b : List Nat) (i : Nat) (ha : i < a.length) (hb : i < b.length) (h : ¬ a.getD i 0 ≤ b.getD i 0) : leL (a.drop i) (b.drop i) = false := by
  rw [drop_cons a i ha, drop_cons b i hb]
  simp only [leL]
  rw [decide_eq_false h]; rfl
theorem leL_on (a b : List Nat) (i : Nat) (ha : i < a.length) (hb : i < b.length) (h : a.getD i 0 ≤ b.getD i 0) : leL (a.drop i) (b.drop i) = leL (a.drop (i + 1)) (b.drop (i + 1)) := by
  rw [drop_cons a i ha, drop_cons b i hb]
  simp only [leL]
  rw [decide_eq_true h]; rfl
theorem leL_len : ∀ (a b : List Nat), a.length ≠ b.length → leL a b = false
  | [], [], h => absurd rfl h
  | [], y :: ys, h => rfl
  | x :: xs, [], h => rfl
  | x :: xs, y :: ys, h => by
    simp only [leL]
    rw [leL_len xs ys (by simpa using h), Bool.and_false]
theorem leL_eqlen {a b : List Nat} (h : leL a b = true) : a.length = b.length := by
  rcases Nat.decEq a.length b.length with e | e
  · rw [leL_len a b e] at h; cases h
  · exact e
theorem leL_end (a b : List Nat) (i : Nat) (h : a.length ≤ i) (hb : b.length ≤ i) : leL (a.drop i) (b.drop i) = true := by
  rw [drop_all a i h, drop_all b i hb]; rfl
/-- The bits, by turns. -/
def bitk (k : List Nat) (i : Nat) : Nat := k.getD (i % k.length) 0 / 2 ^ (31 - i / k.length) % 2
def bitsK (k : List Nat) : Nat → Nat
  | 0 => 0
  | n + 1 => 2 * bitsK k n + bitk k n
theorem bitk_lt (k : List Nat) (i : Nat) : bitk k i < 2 := Nat.mod_lt _ (by decide)
theorem bitsK_lt (k : List Nat) (n : Nat) : bitsK k n < 2 ^ n := by
  induction n with
  | zero => simp [bitsK]
  | succ n ih => have := bitk_lt k n; simp only [bitsK, Nat.pow_succ]; omega
def bitsOk (n : Nat) (m : Int) : Prop := 1 ≤ n ∧ n ≤ 6 ∧ 0 ≤ m ∧ m ≤ 30 ∧ m ≤ 32 * n
instance (n : Nat) (m : Int) : Decidable (bitsOk n m) := inferInstanceAs (Decidable (_ ∧ _))
end Go.Proofs.Ytoaikponefcbiaa.Pk08
