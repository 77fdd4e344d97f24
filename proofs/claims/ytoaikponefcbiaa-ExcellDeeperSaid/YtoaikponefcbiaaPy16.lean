/- Plain facts for layer 16: ranges of addresses; the address beside. No program in sight. -/
import Derived.Test.YtoaikponefcbiaaPx16
namespace Go.Proofs.Ytoaikponefcbiaa.Py16
open Go.Proofs.Ytoaikponefcbiaa.Pk08 Go.Proofs.Ytoaikponefcbiaa.Pq08 Go.Proofs.Ytoaikponefcbiaa.Pl08 Go.Proofs.Ytoaikponefcbiaa.Ki08 Go.Proofs.Ytoaikponefcbiaa.Kj08 Go.Proofs.Ytoaikponefcbiaa.Pm08 Go.Proofs.Ytoaikponefcbiaa.Px16
set_option linter.unusedVariables false
set_option linter.unusedSimpArgs false
theorem bx_sub (d : Nat) (hd : 0 < d) (n a : Nat) (hn : n < 32) (j : Nat) (hj : j < d) : (bx d n (a / 2)).1.getD j 0 ≤ (bx d (n + 1) a).1.getD j 0 ∧ (bx d (n + 1) a).2.getD j 0 ≤ (bx d n (a / 2)).2.getD j 0 := by
  have hl := bx_len d n (a / 2)
  have hm : n % d < d := Nat.mod_lt n hd
  have hc := bx_cell d hd n (a / 2) (by omega) (n % d) hm
  rw [cnt_at] at hc
  have hc32 : n / d < 32 := Nat.lt_of_le_of_lt (Nat.div_le_self n d) hn
  have hmid := mid_cell hc32 hc
  have hp := pow_half (n / d) hc32
  have hp0 : 0 < 2 ^ (32 - (n / d + 1)) := Nat.pow_pos (by decide)
  have hw := hc.wd
  by_cases h : a % 2 = 1
  · rw [bx_odd d n a h]
    simp only
    rw [set_get _ _ _ _ (by omega)]
    by_cases e : n % d = j
    · rw [if_pos e]; subst e; omega
    · rw [if_neg e]; omega
  · rw [bx_even d n a h]
    simp only
    rw [set_get _ _ _ _ (by omega)]
    by_cases e : n % d = j
    · rw [if_pos e]; subst e; omega
    · rw [if_neg e]; omega
def mt (d n a : Nat) (lo hi : List Nat) : Bool := meetIs (bx d n a).1 (bx d n a).2 lo hi
theorem mt_up (d : Nat) (hd : 0 < d) (lo hi : List Nat) (n a : Nat) (hn : n < 32) (h : mt d (n + 1) a lo hi = true) : mt d n (a / 2) lo hi = true := by
  unfold mt at h ⊢
  have hl := bx_len d n (a / 2)
  have hl' := bx_len d (n + 1) a
  rw [meetIs_iff] at h ⊢
  obtain ⟨h1, h2, h3, h4, h5, h6⟩ := h
  refine ⟨by omega, by omega, by omega, by omega, by omega, fun i hi => ?_⟩
  have := bx_sub d hd n a hn i (by omega)
  have := h6 i (by omega)
  omega
theorem mt_ups (d : Nat) (hd : 0 < d) (lo hi : List Nat) (n : Nat) : ∀ m a, n + m ≤ 32 → mt d (n + m) a lo hi = true → mt d n (a / 2 ^ m) lo hi = true
  | 0, a, _, h => by simpa using h
  | m + 1, a, hn, h => by
    have h2 := mt_up d hd lo hi (n + m) a (by omega) h
    have := mt_ups d hd lo hi n m (a / 2) (by omega) h2
    rw [Nat.div_div_eq_div_mul, Nat.mul_comm 2, ← Nat.pow_succ] at this
    exact this
/-- The addresses in order, m bits below a, of those cells that a box meets. -/
def rg (d depth : Nat) (lo hi : List Nat) : Nat → Nat → List Nat
  | 0, a => if mt d depth a lo hi = true then [a] else []
  | m + 1, a => if mt d (depth - (m + 1)) a lo hi = true then rg d depth lo hi m (2 * a) ++ rg d depth lo hi m (2 * a + 1) else []
def fl (d depth : Nat) (lo hi : List Nat) (s n : Nat) : List Nat := (List.range' s n).filter (fun i => mt d depth i lo hi)
theorem rg_eq (d depth : Nat) (hd : 0 < d) (lo hi : List Nat) (hdp : depth ≤ 32) : ∀ m a, m ≤ depth → rg d depth lo hi m a = fl d depth lo hi (a * 2 ^ m) (2 ^ m)
  | 0, a, _ => by
    unfold fl
    simp only [rg, Nat.pow_zero, Nat.mul_one, List.range'_one, List.filter_cons, List.filter_nil]
  | m + 1, a, hm => by
    simp only [rg]
    have hp : a * 2 ^ (m + 1) = 2 * a * 2 ^ m := by rw [Nat.pow_succ, Nat.mul_comm (2 ^ m) 2, ← Nat.mul_assoc, Nat.mul_comm a 2]
    by_cases h : mt d (depth - (m + 1)) a lo hi = true
    · rw [if_pos h, rg_eq d depth hd lo hi hdp m (2 * a) (by omega), rg_eq d depth hd lo hi hdp m (2 * a + 1) (by omega)]
      unfold fl
      have e1 : (2 * a + 1) * 2 ^ m = 2 * a * 2 ^ m + 1 * 2 ^ m := by rw [Nat.add_mul]
      have e2 : 2 ^ (m + 1) = 2 ^ m + 2 ^ m := by rw [Nat.pow_succ]; omega
      rw [← List.filter_append, e1, hp, e2, List.range'_append]
    · rw [if_neg h]
      symm
      unfold fl
      rw [List.filter_eq_nil_iff]
      intro x hx hx2
      rw [List.mem_range'_1] at hx
      apply h
      have := mt_ups d hd lo hi (depth - (m + 1)) (m + 1) x (by omega) (by rw [show depth - (m + 1) + (m + 1) = depth by omega]; exact hx2)
      have hq : x / 2 ^ (m + 1) = a := by
        have h0 : 0 < 2 ^ (m + 1) := Nat.pow_pos (by decide)
        rw [Nat.div_eq_iff h0]
        rw [← Nat.mul_comm a] at *
        omega
      rw [hq] at this
      exact this
theorem rg_all (d depth : Nat) (hd : 0 < d) (lo hi : List Nat) (hdp : depth ≤ 32) (hm : 0 ≤ depth) : rg d depth lo hi depth 0 = (List.range (2 ^ depth)).filter (fun i => mt d depth i lo hi) := by
  rw [rg_eq d depth hd lo hi hdp depth 0 (Nat.le_refl _)]
  unfold fl
  rw [Nat.zero_mul, List.range_eq_range']
/-- All cells are met by the box of all points. -/
theorem mt_whole (d : Nat) (h1 : 1 ≤ d) (h6 : d ≤ 6) (n a : Nat) (hn : n ≤ 32) : mt d n a (List.replicate d 0) (List.replicate d 4294967295) = true := by
  have hl := bx_len d n a
  obtain ⟨_, _, _, _, g⟩ := chkB_parts (bx_chk d h1 h6 n a hn)
  unfold mt
  rw [meetIs_iff, List.length_replicate, List.length_replicate]
  refine ⟨by omega, by omega, by omega, by omega, by omega, fun i hi => ?_⟩
  rw [rep_get _ _ _ (by omega), rep_get _ _ _ (by omega)]
  have := g i (by omega)
  have := (bx_cell d (by omega) n a hn i (by omega)).le
  omega
theorem rg_whole (d depth : Nat) (h1 : 1 ≤ d) (h6 : d ≤ 6) (hdp : depth ≤ 32) : (List.range (2 ^ depth)).filter (fun i => mt d depth i (List.replicate d 0) (List.replicate d 4294967295)) = List.range (2 ^ depth) :=
  List.filter_eq_self.2 (fun i _ => mt_whole d h1 h6 depth i hdp)
theorem mt_one {k : List Nat} (h1 : 1 ≤ k.length) (h6 : k.length ≤ 6) (hlt : ∀ x ∈ k, x < 4294967296) (n a : Nat) (hn : n ≤ 32) (ha : a < 2 ^ n) : mt k.length n a k k = decide (bitsK k n = a) := by
  unfold mt
  rw [(meet_one (bx_chk k.length h1 h6 n a hn)).1, Bool.eq_iff_iff, decide_eq_true_eq]
  exact in_bx k.length (by omega) k rfl hlt n a hn ha
theorem filter_one (n x : Nat) (h : x < n) : (List.range n).filter (fun i => decide (x = i)) = [x] := by
  induction n with
  | zero => omega
  | succ n ih =>
    rw [List.range_succ, List.filter_append]
    by_cases e : x = n
    · subst e
      have : (List.range x).filter (fun i => decide (x = i)) = [] := by
        rw [List.filter_eq_nil_iff]
        intro i hi
        have := List.mem_range.1 hi
        simp; omega
      rw [this]; simp
    · rw [ih (by omega)]
      simp [e]
theorem rg_one {k : List Nat} (h1 : 1 ≤ k.length) (h6 : k.length ≤ 6) (hlt : ∀ x ∈ k, x < 4294967296) (n : Nat) (hn : n ≤ 32) : (List.range (2 ^ n)).filter (fun i => mt k.length n i k k) = [bitsK k n] := by
  rw [← filter_one (2 ^ n) (bitsK k n) (bitsK_lt k n)]
  apply List.filter_congr
  intro i hi
  exact mt_one h1 h6 hlt n i hn (List.mem_range.1 hi)
/-- Of one bit more the box is in that of one less. -/
theorem meet_deeper (d : Nat) (h1 : 1 ≤ d) (h6 : d ≤ 6) (n b : Nat) (hn : n < 32) : meetIs (bx d n (b / 2)).1 (bx d n (b / 2)).2 (bx d (n + 1) b).1 (bx d (n + 1) b).2 = true ∧ meetLo (bx d n (b / 2)).1 (bx d n (b / 2)).2 (bx d (n + 1) b).1 (bx d (n + 1) b).2 = (bx d (n + 1) b).1 ∧ meetHi (bx d n (b / 2)).1 (bx d n (b / 2)).2 (bx d (n + 1) b).1 (bx d (n + 1) b).2 = (bx d (n + 1) b).2 := by
  have hl := bx_len d n (b / 2)
  have hl' := bx_len d (n + 1) b
  obtain ⟨_, _, _, _, g⟩ := chkB_parts (bx_chk d h1 h6 (n + 1) b (by omega))
  have hs := bx_sub d (by omega) n b hn
  have hm : meetIs (bx d n (b / 2)).1 (bx d n (b / 2)).2 (bx d (n + 1) b).1 (bx d (n + 1) b).2 = true := by
    rw [meetIs_iff]
    refine ⟨by omega, by omega, by omega, by omega, by omega, fun i hi => ?_⟩
    have := hs i (by omega)
    have := g i (by omega)
    omega
  refine ⟨hm, ?_, ?_⟩
  · unfold meetLo
    rw [if_pos hm]
    refine list_eq (by rw [zipL_len]; omega) (fun i hi => ?_)
    rw [zipL_len] at hi
    rw [zipL_get _ _ _ _ hi]
    have := hs i (by omega)
    omega
  · unfold meetHi
    rw [if_pos hm]
    refine list_eq (by rw [zipL_len]; omega) (fun i hi => ?_)
    rw [zipL_len] at hi
    rw [zipL_get _ _ _ _ hi]
    have := hs i (by omega)
    omega
/-- The number beside. -/
def flip1 (n : Nat) : Nat := if n % 2 = 1 then n - 1 else n + 1
def bud (depth a bits : Nat) : Nat := flip1 (a / 2 ^ (depth - bits)) * 2 ^ (depth - bits)
def budOk (depth a bits : Int) : Bool := decide (0 ≤ depth ∧ depth ≤ 12 ∧ 0 ≤ a ∧ a < 2 ^ depth.toNat ∧ 1 ≤ bits ∧ bits ≤ depth)
theorem flip1_ne (n : Nat) : flip1 n ≠ n := by unfold flip1; split <;> omega
theorem flip1_two (n : Nat) : flip1 (flip1 n) = n := by unfold flip1; split <;> split <;> omega
theorem flip1_lt (n m : Nat) (h : n < 2 * m) : flip1 n < 2 * m := by unfold flip1; split <;> omega
theorem bud_lt (depth a bits : Nat) (h1 : 1 ≤ bits) (h2 : bits ≤ depth) (ha : a < 2 ^ depth) : bud depth a bits < 2 ^ depth := by
  have hp : 2 ^ depth = 2 * 2 ^ (bits - 1) * 2 ^ (depth - bits) := by
    rw [← Nat.pow_add_one', ← Nat.pow_add]; congr 1; omega
  have h0 : 0 < 2 ^ (depth - bits) := Nat.pow_pos (by decide)
  have h3 : a / 2 ^ (depth - bits) < 2 * 2 ^ (bits - 1) := by
    rw [Nat.div_lt_iff_lt_mul h0, ← hp]; exact ha
  unfold bud
  rw [hp]
  exact Nat.mul_lt_mul_of_pos_right (flip1_lt _ _ h3) h0
theorem bud_ne (depth a bits : Nat) : bud depth a bits ≠ a := by
  intro e
  have h0 : 0 < 2 ^ (depth - bits) := Nat.pow_pos (by decide)
  have h : bud depth a bits / 2 ^ (depth - bits) = a / 2 ^ (depth - bits) := by rw [e]
  unfold bud at h
  rw [Nat.mul_div_cancel _ h0] at h
  exact flip1_ne _ h
theorem bud_two (depth a bits : Nat) : bud depth (bud depth a bits) bits = a / 2 ^ (depth - bits) * 2 ^ (depth - bits) := by
  have h0 : 0 < 2 ^ (depth - bits) := Nat.pow_pos (by decide)
  unfold bud
  rw [Nat.mul_div_cancel _ h0, flip1_two]
end Go.Proofs.Ytoaikponefcbiaa.Py16
