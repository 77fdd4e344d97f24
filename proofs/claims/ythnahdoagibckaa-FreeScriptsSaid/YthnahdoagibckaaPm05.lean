/- Plain facts for layer 5, further: the lowest free page, how many are free, the bytes of a map. No program in sight. -/
import Derived.Test.YthnahdoagibckaaPl05
import Derived.Lib.BitFns
namespace Go.Proofs.Ythnahdoagibckaa.Pm05
open Go.RowKit Go.Proofs.Ythnahdoagibckaa.Pl05
set_option linter.unusedVariables false

/-! ### the highest bit -/
theorem bitLenAux_spec : ∀ (f x : Nat), x < 2 ^ f → x ≠ 0 → 2 ^ (Lib.bitLenAux f x - 1) ≤ x ∧ x < 2 ^ (Lib.bitLenAux f x) ∧ 0 < Lib.bitLenAux f x
  | 0, x, h, h0 => by simp at h; omega
  | f + 1, x, h, h0 => by
    simp only [Lib.bitLenAux, if_neg h0]
    by_cases h2 : x / 2 = 0
    · have : x = 1 := by omega
      subst this
      cases f <;> simp [Lib.bitLenAux]
    · obtain ⟨l, u, p⟩ := bitLenAux_spec f (x / 2) (by rw [Nat.pow_succ] at h; omega) h2
      obtain ⟨m, hm⟩ : ∃ m, Lib.bitLenAux f (x / 2) = m + 1 := ⟨_, (Nat.sub_add_cancel p).symm⟩
      rw [hm] at l u ⊢
      have e : 1 + (m + 1) - 1 = m + 1 := by omega
      have e2 : 1 + (m + 1) = m + 1 + 1 := by omega
      rw [e, e2]
      simp only [Nat.add_sub_cancel, Nat.pow_succ] at *
      omega
theorem bitLen_spec (x : Nat) (h : x < 2 ^ 64) (h0 : x ≠ 0) : 2 ^ (Lib.bitLen x - 1) ≤ x ∧ x < 2 ^ (Lib.bitLen x) ∧ 0 < Lib.bitLen x := bitLenAux_spec 64 x h h0

def inv (x : Nat) : Nat := 18446744073709551615 - x
theorem inv_lt (x : Nat) : inv x < 2 ^ 64 := by unfold inv; omega
theorem inv_xor (x : Nat) (h : x < 2 ^ 64) : 18446744073709551615 ^^^ x = inv x := by
  unfold inv
  apply Nat.eq_of_testBit_eq
  intro i
  rw [show (18446744073709551615 : Nat) = 2 ^ 64 - 1 from rfl, Nat.testBit_xor, Nat.testBit_two_pow_sub_one]
  have := Nat.testBit_two_pow_sub_succ h i
  rw [show 2 ^ 64 - 1 - x = 2 ^ 64 - (x + 1) by omega, this]
  by_cases hi : i < 64
  · simp [hi]
  · have : x.testBit i = false := Nat.testBit_lt_two_pow (Nat.lt_of_lt_of_le h (Nat.pow_le_pow_right (by decide) (by omega)))
    simp [hi, this]
theorem inv_bit (x i : Nat) (h : x < 2 ^ 64) (hi : i < 64) : (inv x).testBit i = !x.testBit i := by
  rw [← inv_xor x h, Nat.testBit_xor, show (18446744073709551615 : Nat) = 2 ^ 64 - 1 from rfl, Nat.testBit_two_pow_sub_one]
  simp [hi]
/-- The first bit of a word that isn't set, and all ahead of it are. -/
theorem first_zero (x : Nat) (h : x < 2 ^ 64) (h0 : inv x ≠ 0) :
    64 - Lib.bitLen (inv x) < 64 ∧ x.testBit (63 - (64 - Lib.bitLen (inv x))) = false ∧ ∀ i, i < 64 - Lib.bitLen (inv x) → x.testBit (63 - i) = true := by
  obtain ⟨l, u, p⟩ := bitLen_spec (inv x) (inv_lt x) h0
  have le : Lib.bitLen (inv x) ≤ 64 := Lib.bitLen_le _ 64 (by omega) (inv_lt x)
  refine ⟨by omega, ?_, fun i hi => ?_⟩
  · have e : 63 - (64 - Lib.bitLen (inv x)) = Lib.bitLen (inv x) - 1 := by omega
    rw [e]
    have hb : (inv x).testBit (Lib.bitLen (inv x) - 1) = true := by
      obtain ⟨m, hm⟩ : ∃ m, Lib.bitLen (inv x) = m + 1 := ⟨_, (Nat.sub_add_cancel p).symm⟩
      rw [hm] at l u ⊢
      simp only [Nat.add_sub_cancel] at *
      rw [Nat.testBit_eq_decide_div_mod_eq]
      have : inv x / 2 ^ m = 1 := by
        apply Nat.div_eq_of_lt_le
        · simpa using l
        · simpa [Nat.pow_succ, Nat.mul_comm] using u
      simp [this]
    rw [inv_bit x _ h (by omega)] at hb
    simpa using hb
  · have hb : (inv x).testBit (63 - i) = false := Nat.testBit_lt_two_pow (Nat.lt_of_lt_of_le u (Nat.pow_le_pow_right (by decide) (by omega)))
    rw [inv_bit x _ h (by omega)] at hb
    simpa using hb
theorem all_ones (x : Nat) (h : x < 2 ^ 64) (h0 : inv x = 0) (i : Nat) (hi : i < 64) : x.testBit i = true := by
  have := inv_bit x i h hi
  rw [h0] at this
  simpa using this

/-! ### the lowest free page -/
def free (bs : List Bool) : Option Nat := bs.findIdx? (fun b => !b)
theorem free_of (bs : List Bool) (n : Nat) (hn : n < bs.length) (h : bs.getD n false = false) (ha : ∀ m, m < n → bs.getD m false = true) : free bs = some n := by
  unfold free
  rw [List.findIdx?_eq_some_iff_getElem]
  refine ⟨hn, ?_, fun j hj => ?_⟩
  · simpa [List.getD_eq_getElem?_getD, hn] using h
  · have := ha j hj
    have hl : j < bs.length := by omega
    simpa [List.getD_eq_getElem?_getD, hl] using this
theorem free_none (bs : List Bool) (ha : ∀ m, m < bs.length → bs.getD m false = true) : free bs = none := by
  unfold free
  rw [List.findIdx?_eq_none_iff]
  intro x hx
  obtain ⟨j, hj, rfl⟩ := List.mem_iff_getElem.1 hx
  have := ha j hj
  simpa [List.getD_eq_getElem?_getD, hj] using this
theorem free_some {bs : List Bool} {n : Nat} (h : free bs = some n) : n < bs.length ∧ bs.getD n false = false ∧ ∀ m, m < n → bs.getD m false = true := by
  unfold free at h
  rw [List.findIdx?_eq_some_iff_getElem] at h
  obtain ⟨hn, h1, h2⟩ := h
  refine ⟨hn, by simpa [List.getD_eq_getElem?_getD, hn] using h1, fun m hm => ?_⟩
  have := h2 m hm
  have hl : m < bs.length := by omega
  simpa [List.getD_eq_getElem?_getD, hl] using this
theorem free_no {bs : List Bool} (h : free bs = none) (m : Nat) (hm : m < bs.length) : bs.getD m false = true := by
  unfold free at h
  rw [List.findIdx?_eq_none_iff] at h
  have := h bs[m] (List.getElem_mem hm)
  simpa [List.getD_eq_getElem?_getD, hm] using this

/-! ### how many are taken -/
def cnt (f : Nat → Bool) : Nat → Nat
  | 0 => 0
  | n + 1 => cnt f n + (f n).toNat
theorem cnt_congr {f g : Nat → Bool} (n : Nat) (h : ∀ m, m < n → f m = g m) : cnt f n = cnt g n := by
  induction n with
  | zero => rfl
  | succ n ih => simp only [cnt]; rw [ih (fun m hm => h m (by omega)), h n (by omega)]
theorem cnt_add (f : Nat → Bool) (n m : Nat) : cnt f (n + m) = cnt f n + cnt (fun i => f (n + i)) m := by
  induction m with
  | zero => rfl
  | succ m ih => rw [← Nat.add_assoc]; simp only [cnt]; rw [ih]; omega
theorem cnt_one (f : Nat → Bool) (n : Nat) : cnt f (n + 1) = (f 0).toNat + cnt (fun i => f (i + 1)) n := by
  rw [Nat.add_comm n 1, cnt_add]
  simp only [cnt]
  rw [cnt_congr n (fun m _ => by rw [Nat.add_comm])]
  omega
theorem cnt_rev (f : Nat → Bool) (n : Nat) : cnt (fun i => f (n - 1 - i)) n = cnt f n := by
  induction n with
  | zero => rfl
  | succ n ih =>
    rw [cnt_one]
    simp only [cnt]
    have : cnt (fun i => f (n + 1 - 1 - (i + 1))) n = cnt (fun i => f (n - 1 - i)) n := cnt_congr n (fun m hm => by congr 1; omega)
    rw [this, ih]
    simp
    omega
theorem pc_cnt (n x : Nat) : pc n x = cnt (fun i => x.testBit i) n := by
  induction n generalizing x with
  | zero => rfl
  | succ n ih =>
    rw [pc, cnt_one, ih]
    congr 1
    · rw [Nat.testBit_zero]
      rcases Nat.mod_two_eq_zero_or_one x with h | h <;> simp [h]
    · exact cnt_congr n (fun m _ => by rw [Nat.testBit_succ])
theorem pc_word (x : Nat) : pc 64 x = cnt (fun i => x.testBit (63 - i)) 64 := by rw [pc_cnt]; exact (cnt_rev (fun i => x.testBit i) 64).symm
def sumPc (ws : List Nat) (k : Nat) : Nat := cnt (bitAt ws) (64 * k)
theorem sumPc_succ (ws : List Nat) (k : Nat) : sumPc ws (k + 1) = sumPc ws k + pc 64 (ws.getD k 0) := by
  unfold sumPc
  rw [Nat.mul_succ, cnt_add, pc_word]
  congr 1
  apply cnt_congr
  intro m hm
  unfold bitAt
  rw [show (64 * k + m) / 64 = k by omega, show (64 * k + m) % 64 = m by omega]
/-- How many are taken. -/
def taken (bs : List Bool) : Nat := bs.countP (fun b => b)
theorem cnt_list (bs : List Bool) : cnt (fun n => bs.getD n false) bs.length = taken bs := by
  induction bs with
  | nil => rfl
  | cons b bs ih =>
    rw [List.length_cons, cnt_one]
    have : cnt (fun i => (b :: bs).getD (i + 1) false) bs.length = cnt (fun n => bs.getD n false) bs.length := cnt_congr _ (fun m _ => by simp)
    rw [this, ih]
    unfold taken
    cases b <;> simp [List.countP_cons] <;> omega
theorem cnt_false {f : Nat → Bool} (n m : Nat) (h : ∀ i, n ≤ i → f i = false) (hm : n ≤ m) : cnt f m = cnt f n := by
  obtain ⟨d, rfl⟩ : ∃ d, m = n + d := ⟨m - n, by omega⟩
  rw [cnt_add]
  have : cnt (fun i => f (n + i)) d = 0 := by
    clear hm
    induction d with
    | zero => rfl
    | succ d ih => simp only [cnt]; rw [ih, h (n + d) (by omega)]; rfl
  omega
theorem sumPc_all {ws : List Nat} {bs : List Bool} (h : Rel ws bs) : sumPc ws ws.length = taken bs := by
  unfold sumPc
  rw [cnt_congr (f := bitAt ws) (g := fun n => bs.getD n false) _ (fun m _ => h.bit m), cnt_false bs.length _ (fun i hi => by simp [List.getD_eq_getElem?_getD, List.getElem?_eq_none hi]) (by have := h.len; omega)]
  exact cnt_list bs
theorem taken_le (bs : List Bool) : taken bs ≤ bs.length := List.countP_le_length
theorem sumPc_le (ws : List Nat) (k : Nat) : sumPc ws k ≤ 64 * k := by
  unfold sumPc
  generalize 64 * k = n
  induction n with
  | zero => simp [cnt]
  | succ n ih => simp only [cnt]; have : (bitAt ws n).toNat ≤ 1 := Bool.toNat_le _; omega
end Go.Proofs.Ythnahdoagibckaa.Pm05
