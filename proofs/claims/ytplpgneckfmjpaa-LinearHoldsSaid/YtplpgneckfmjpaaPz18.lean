/- Plain facts for layer 18: chains. No program in sight. -/
import Derived.Test.YtplpgneckfmjpaaGd
namespace Go.Proofs.Ytplpgneckfmjpaa.Pz18
open Go.Proofs.Ytplpgneckfmjpaa.Pk08 Go.Proofs.Ytplpgneckfmjpaa.Pq08 Go.Proofs.Ytplpgneckfmjpaa.Pl08 Go.Proofs.Ytplpgneckfmjpaa.Ki08 Go.Proofs.Ytplpgneckfmjpaa.Kj08 Go.Proofs.Ytplpgneckfmjpaa.Pm08 Go.Proofs.Ytplpgneckfmjpaa.Px16 Go.Proofs.Ytplpgneckfmjpaa.Py16
set_option linter.unusedVariables false
set_option linter.unusedSimpArgs false
/-- May a level, and so many that are split, be? -/
def lvOk (l n : Int) : Bool := decide (0 ≤ l ∧ l ≤ 10 ∧ 0 ≤ n ∧ n < 2 ^ l.toNat)
theorem lvOk_iff {l n : Int} : lvOk l n = true ↔ (0 ≤ l ∧ l ≤ 10 ∧ 0 ≤ n ∧ n < 2 ^ l.toNat) := by unfold lvOk; rw [decide_eq_true_eq]
/-- A chain's cell: its depth, its address. -/
def cD (l n i : Nat) : Nat := if i < 2 * n then l + 1 else l
def cA (l n i : Nat) : Nat := if i < 2 * n then i else i - n
/-- The chain of a point. -/
def chain (k : List Nat) (l n : Nat) : Nat := if bitsK k l < n then bitsK k (l + 1) else bitsK k l + n
theorem bitsK_next (k : List Nat) (l : Nat) : bitsK k (l + 1) = 2 * bitsK k l + bitk k l := rfl
theorem cA_lt {l n i : Nat} (hn : n < 2 ^ l) (hi : i < 2 ^ l + n) : cA l n i < 2 ^ cD l n i := by
  unfold cA cD
  by_cases h : i < 2 * n
  · rw [if_pos h, if_pos h, Nat.pow_succ]; omega
  · rw [if_neg h, if_neg h]; omega
theorem chain_lt (k : List Nat) (l n : Nat) (hn : n < 2 ^ l) : chain k l n < 2 ^ l + n := by
  have h1 := bitsK_lt k l
  have h2 := bitk_lt k l
  unfold chain
  split
  · rw [bitsK_next]; omega
  · omega
theorem chain_iff (k : List Nat) (l n i : Nat) (hn : n < 2 ^ l) (hi : i < 2 ^ l + n) : bitsK k (cD l n i) = cA l n i ↔ i = chain k l n := by
  have h2 := bitk_lt k l
  unfold cD cA chain
  by_cases h : i < 2 * n
  · rw [if_pos h, if_pos h, bitsK_next]
    by_cases hb : bitsK k l < n
    · rw [if_pos hb]; omega
    · rw [if_neg hb]; omega
  · rw [if_neg h, if_neg h]
    by_cases hb : bitsK k l < n
    · rw [if_pos hb, bitsK_next]; omega
    · rw [if_neg hb]; omega
/-- The box of a chain. -/
def chLo (d l n i : Nat) : List Nat := (bx d (cD l n i) (cA l n i)).1
def chHi (d l n i : Nat) : List Nat := (bx d (cD l n i) (cA l n i)).2
theorem in_chain {k : List Nat} {d l n i : Nat} (hd : 0 < d) (hk : k.length = d) (hlt : ∀ x ∈ k, x < 4294967296) (hl : l ≤ 10) (hn : n < 2 ^ l) (hi : i < 2 ^ l + n) :
    inB k (chLo d l n i) (chHi d l n i) = true ↔ i = chain k l n := by
  have hc : cD l n i ≤ 32 := by unfold cD; split <;> omega
  unfold chLo chHi
  rw [in_bx d hd k hk hlt (cD l n i) (cA l n i) hc (cA_lt hn hi), chain_iff k l n i hn hi]
/-- The chains that a box meets. -/
def mc (d l n i : Nat) (lo hi : List Nat) : Bool := mt d (cD l n i) (cA l n i) lo hi
def half (d l a : Nat) (lo hi : List Nat) : List Nat := (if mt d (l + 1) (2 * a) lo hi = true then [2 * a] else []) ++ (if mt d (l + 1) (2 * a + 1) lo hi = true then [2 * a + 1] else [])
/-- What the program collects of cells. -/
def coll (d l n : Nat) (lo hi : List Nat) : List Nat → List Nat
  | [] => []
  | a :: ys => (if n ≤ a then [a + n] else half d l a lo hi) ++ coll d l n lo hi ys
theorem coll_append (d l n : Nat) (lo hi : List Nat) : ∀ xs ys, coll d l n lo hi (xs ++ ys) = coll d l n lo hi xs ++ coll d l n lo hi ys
  | [], ys => rfl
  | x :: xs, ys => by
    simp only [List.cons_append, coll]
    rw [coll_append d l n lo hi xs ys, List.append_assoc]
theorem range_two (n : Nat) : List.range (n + 2) = List.range n ++ [n, n + 1] := by
  rw [List.range_succ, List.range_succ, List.append_assoc]; rfl
theorem coll_to (d l n : Nat) (hd : 0 < d) (lo hi : List Nat) (hl : l ≤ 10) : ∀ m, m ≤ 2 ^ l → coll d l n lo hi ((List.range m).filter (fun i => mt d l i lo hi)) = (List.range (m + min m n)).filter (fun i => mc d l n i lo hi)
  | 0, _ => by simp [coll]
  | m + 1, hm => by
    rw [List.range_succ, List.filter_append, coll_append, coll_to d l n hd lo hi hl m (by omega)]
    by_cases h : m < n
    · have e : m + 1 + min (m + 1) n = (m + min m n) + 2 := by omega
      have e2 : m + min m n = 2 * m := by omega
      rw [e, range_two, List.filter_append, e2]
      congr 1
      have c1 : mc d l n (2 * m) lo hi = mt d (l + 1) (2 * m) lo hi := by unfold mc cD cA; rw [if_pos (by omega), if_pos (by omega)]
      have c2 : mc d l n (2 * m + 1) lo hi = mt d (l + 1) (2 * m + 1) lo hi := by unfold mc cD cA; rw [if_pos (by omega), if_pos (by omega)]
      simp only [List.filter_cons, List.filter_nil, c1, c2]
      have u1 : mt d (l + 1) (2 * m) lo hi = true → mt d l m lo hi = true := fun x => by
        have := mt_up d hd lo hi l (2 * m) (by omega) x
        rwa [show 2 * m / 2 = m by omega] at this
      have u2 : mt d (l + 1) (2 * m + 1) lo hi = true → mt d l m lo hi = true := fun x => by
        have := mt_up d hd lo hi l (2 * m + 1) (by omega) x
        rwa [show (2 * m + 1) / 2 = m by omega] at this
      by_cases ht : mt d l m lo hi = true
      · rw [if_pos ht]
        simp only [coll]
        rw [if_neg (by omega)]
        unfold half
        split <;> split <;> rfl
      · rw [if_neg ht]
        rw [if_neg (fun x => ht (u1 x)), if_neg (fun x => ht (u2 x))]
        rfl
    · have e : m + 1 + min (m + 1) n = (m + min m n) + 1 := by omega
      have e2 : m + min m n = m + n := by omega
      rw [e, List.range_succ, List.filter_append, e2]
      congr 1
      have c1 : mc d l n (m + n) lo hi = mt d l m lo hi := by
        unfold mc cD cA; rw [if_neg (by omega), if_neg (by omega), show m + n - n = m by omega]
      simp only [List.filter_cons, List.filter_nil, c1]
      by_cases ht : mt d l m lo hi = true
      · rw [if_pos ht, if_pos ht]
        simp only [coll]
        rw [if_pos (by omega)]
        rfl
      · rw [if_neg ht, if_neg ht]; rfl
theorem coll_all (d l n : Nat) (hd : 0 < d) (lo hi : List Nat) (hl : l ≤ 10) (hn : n < 2 ^ l) : coll d l n lo hi ((List.range (2 ^ l)).filter (fun i => mt d l i lo hi)) = (List.range (2 ^ l + n)).filter (fun i => mc d l n i lo hi) := by
  rw [coll_to d l n hd lo hi hl (2 ^ l) (Nat.le_refl _), show min (2 ^ l) n = n by omega]
/-! ### growing -/
def grow (l n : Int) : Int × Int × Int × Int := if lvOk l n = false then (0, 0, 0, 1) else if l = 10 then (0, 0, 0, 4) else if n + 1 = 2 ^ l.toNat then (l + 1, 0, 2 * n, 0) else (l, n + 1, 2 * n, 0)
def shrink (l n : Int) : Int × Int × Int × Int := if lvOk l n = false ∨ l = 0 then (0, 0, 0, 1) else if n = 0 then (l - 1, 2 ^ (l - 1).toNat - 1, 2 * (2 ^ (l - 1).toNat - 1), 0) else (l, n - 1, 2 * (n - 1), 0)
/-- Grown, a point stays in its chain, or goes to the next one. -/
theorem grow_chain (k : List Nat) (l n : Nat) (hn : n < 2 ^ l) (l' n' : Nat) (hg : (n + 1 = 2 ^ l ∧ l' = l + 1 ∧ n' = 0) ∨ (n + 1 < 2 ^ l ∧ l' = l ∧ n' = n + 1)) :
    (chain k l n < 2 * n → chain k l' n' = chain k l n) ∧ (2 * n < chain k l n → chain k l' n' = chain k l n + 1) ∧ (chain k l n = 2 * n → chain k l' n' = chain k l n ∨ chain k l' n' = chain k l n + 1) := by
  have h2 := bitk_lt k l
  have hb := bitsK_lt k l
  have hnx := bitsK_next k l
  rcases hg with ⟨h, rfl, rfl⟩ | ⟨h, rfl, rfl⟩
  · unfold chain
    rw [if_neg (Nat.not_lt_zero _)]
    by_cases c : bitsK k l < n
    · rw [if_pos c]; omega
    · rw [if_neg c]; omega
  · unfold chain
    by_cases c : bitsK k l' < n
    · rw [if_pos c, if_pos (by omega)]; omega
    · rw [if_neg c]
      by_cases c2 : bitsK k l' < n + 1
      · rw [if_pos c2]; omega
      · rw [if_neg c2]; omega
/-! ### one coordinate -/
theorem bits_one (a : Nat) (ha : a < 4294967296) : ∀ l, l ≤ 32 → bitsK [a] l = a / 2 ^ (32 - l)
  | 0, _ => by
    show 0 = a / 4294967296
    rw [Nat.div_eq_of_lt ha]
  | l + 1, h => by
    have ih := bits_one a ha l (by omega)
    rw [bitsK_next, ih]
    have hb : bitk [a] l = a / 2 ^ (32 - (l + 1)) % 2 := by
      unfold bitk
      simp only [List.length_singleton, Nat.mod_one, Nat.div_one]
      rw [show 31 - l = 32 - (l + 1) by omega]
      rfl
    rw [hb, pow_half l (by omega), Nat.mul_comm 2 (2 ^ (32 - (l + 1))), ← Nat.div_div_eq_div_mul]
    omega
theorem chain_mono (a b l n : Nat) (ha : a ≤ b) (hb : b < 4294967296) (hl : l ≤ 10) : chain [a] l n ≤ chain [b] l n := by
  have h1 := bits_one a (by omega) l (by omega)
  have h2 := bits_one b hb l (by omega)
  have h3 := bits_one a (by omega) (l + 1) (by omega)
  have h4 := bits_one b hb (l + 1) (by omega)
  have k1 : a / 2 ^ (32 - l) ≤ b / 2 ^ (32 - l) := Nat.div_le_div_right ha
  have k2 : a / 2 ^ (32 - (l + 1)) ≤ b / 2 ^ (32 - (l + 1)) := Nat.div_le_div_right ha
  have n1 := bitsK_next [a] l
  have n2 := bitk_lt [a] l
  unfold chain
  split <;> split <;> omega
end Go.Proofs.Ytplpgneckfmjpaa.Pz18
