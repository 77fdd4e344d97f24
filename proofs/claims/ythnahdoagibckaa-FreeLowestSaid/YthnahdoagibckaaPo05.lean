/- Plain Lean: giving pages back in strides; what a page given back does. -/
import Derived.Test.YthnahdoagibckaaRe05
import Derived.Test.YthnahdoagibckaaRd05
namespace Go.Proofs.Ythnahdoagibckaa.Po05
open Go.RowKit Go.Proofs.Ythnahdoagibckaa.Pl05 Go.Proofs.Ythnahdoagibckaa.Pm05 Go.Proofs.Ythnahdoagibckaa.Pn05 Go.Proofs.Ythnahdoagibckaa.Base Go.Proofs.Ythnahdoagibckaa.Fr05 Go.Proofs.Ythnahdoagibckaa.Fs05 Go.Proofs.Ythnahdoagibckaa.Fn05
set_option linter.unusedVariables false
set_option linter.unusedSimpArgs false
theorem cnt_below (f n : Nat) : cnt (fun i => decide (i < f)) n = min f n := by
  induction n with
  | zero => simp [cnt]
  | succ n ih =>
    simp only [cnt]
    rw [ih]
    by_cases h : n < f
    · simp [h]; omega
    · simp [h]; omega
theorem newB_taken (p f : Nat) (h : f ≤ p) : taken (newB p f) = f := by
  have e := cnt_list (newB p f)
  rw [newB_len, cnt_congr p (g := fun i => decide (i < f)) (fun m hm => newB_get p f m hm), cnt_below] at e
  omega
theorem newB_free (p i : Nat) (h : i < p) : free (newB p i) = some i :=
  free_of _ i (by rw [newB_len]; exact h) (by rw [newB_get p i i h]; simp) (fun m hm => by rw [newB_get p i m (by omega)]; simpa using hm)
theorem newB_none (p : Nat) : free (newB p p) = none :=
  free_none _ (fun m hm => by rw [newB_len] at hm; rw [newB_get p p m hm]; simpa using hm)
/-- Is page m still taken: first pages f, strides of B, k of them done, the next one done up to i? -/
def still (f B k i m : Nat) : Bool := decide (m < f) || (decide (k < (m - f) % B) || (decide ((m - f) % B = k) && decide (i ≤ m)))
def stB (p f B k i : Nat) : List Bool := (List.range p).map (still f B k i)
theorem stB_len (p f B k i : Nat) : (stB p f B k i).length = p := by simp [stB]
theorem stB_get (p f B k i m : Nat) (h : m < p) : (stB p f B k i).getD m false = still f B k i m := by simp [stB, List.getD_eq_getElem?_getD, h]
theorem stB_eq (p : Nat) (u v : Nat → Bool) (h : ∀ m, m < p → u m = v m) : (List.range p).map u = (List.range p).map v :=
  List.map_congr_left fun m hm => h m (List.mem_range.1 hm)
theorem st_start (p f B : Nat) (h : 0 < B) : stB p f B 0 f = newB p p := by
  refine stB_eq p _ _ fun m hm => ?_
  have e : decide (m < p) = true := decide_eq_true hm
  rw [e]
  unfold still
  by_cases h1 : m < f
  · simp [h1]
  · by_cases h2 : (m - f) % B = 0
    · have : f ≤ m := by omega
      simp [h2, this]
    · have : 0 < (m - f) % B := by omega
      simp [this]
theorem st_next (p f B k i : Nat) (hi : p ≤ i) : stB p f B k i = stB p f B (k + 1) (f + (k + 1)) := by
  refine stB_eq p _ _ fun m hm => ?_
  unfold still
  by_cases h1 : m < f
  · simp [h1]
  · have h2 : ¬ i ≤ m := by omega
    have h3 : (m - f) % B ≤ m - f := Nat.mod_le _ _
    generalize (m - f) % B = r at *
    by_cases h4 : r = k + 1
    · subst h4
      have : f + (k + 1) ≤ m := by omega
      simp [this]
    · by_cases h5 : k < r
      · have : k + 1 < r := by omega
        simp [h5, this]
      · have : ¬ k + 1 < r := by omega
        simp [h1, h2, h4, h5, this]
theorem st_end (p f B i : Nat) (hB : 0 < B) : stB p f B B i = newB p f := by
  refine stB_eq p _ _ fun m hm => ?_
  have h := Nat.mod_lt (m - f) hB
  unfold still
  generalize (m - f) % B = r at *
  have h1 : ¬ B < r := by omega
  have h2 : ¬ r = B := by omega
  simp [h1, h2]
theorem st_take (p f B k i : Nat) (hk : k < B) (hi : i < p) (hf : f ≤ i) (hm : (i - f) % B = k) :
    isB (stB p f B k i) (i : Int) = true ∧ flipB (stB p f B k i) i = stB p f B k (i + B) := by
  have g : (stB p f B k i).getD i false = true := by
    rw [stB_get p f B k i i hi]
    simp [still, hm]
  refine ⟨by unfold isB; rw [Int.toNat_natCast, g]; simp, ?_⟩
  unfold flipB
  rw [g]
  apply List.ext_getElem
  · simp [stB]
  · intro m h1 h2
    rw [List.getElem_set]
    simp only [stB, List.getElem_map, List.getElem_range]
    unfold still
    by_cases e : i = m
    · subst e
      have h3 : ¬ i < f := by omega
      have h4 : ¬ i + B ≤ i := by omega
      simp [h3, h4, hm]
    · rw [if_neg e]
      by_cases h3 : (m - f) % B = k
      · by_cases h5 : m < f
        · simp [h5]
        have h4 : (i ≤ m ↔ i + B ≤ m) := by
          constructor
          · intro hle
            have hmod : (m - f) % B = (i - f) % B := by omega
            have q1 := Nat.div_add_mod (m - f) B
            have q2 := Nat.div_add_mod (i - f) B
            have hlt : (i - f) / B < (m - f) / B := by
              rcases Nat.lt_or_ge ((i - f) / B) ((m - f) / B) with h | h
              · exact h
              · have := Nat.mul_le_mul_left B h
                omega
            have := Nat.mul_le_mul_left B (show (i - f) / B + 1 ≤ (m - f) / B from hlt)
            rw [Nat.mul_add] at this
            omega
          · intro h; omega
        simp [h3, h4]
      · simp [h3]
theorem st_mod (f B k i : Nat) (hf : f ≤ i) (h : (i - f) % B = k) : f ≤ i + B ∧ (i + B - f) % B = k := by
  refine ⟨by omega, ?_⟩
  rw [show i + B - f = i - f + B by omega, Nat.add_mod_right]
  exact h
end Go.Proofs.Ythnahdoagibckaa.Po05
