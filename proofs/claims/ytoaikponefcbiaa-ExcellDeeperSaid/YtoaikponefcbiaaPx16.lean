/- Plain facts for layers 11 and 16: boxes halved; the box of an address. No program in sight. -/
import Derived.Test.YtoaikponefcbiaaPm08
namespace Go.Proofs.Ytoaikponefcbiaa.Px16
open Go.Proofs.Ytoaikponefcbiaa.Pk08 Go.Proofs.Ytoaikponefcbiaa.Pq08 Go.Proofs.Ytoaikponefcbiaa.Pl08 Go.Proofs.Ytoaikponefcbiaa.Ki08 Go.Proofs.Ytoaikponefcbiaa.Kj08 Go.Proofs.Ytoaikponefcbiaa.Pm08
set_option linter.unusedVariables false
set_option linter.unusedSimpArgs false
/-- The last number of the lower half of a coordinate. -/
def midB (lo hi : List Nat) (i : Nat) : Nat := lo.getD i 0 + (hi.getD i 0 - lo.getD i 0) / 2
/-- May a box be halved there? -/
def hasB (lo hi : List Nat) (i : Int) : Bool := decide (0 ≤ i ∧ i < lo.length ∧ chkB lo hi lo.length = 0)
def wideB (lo hi : List Nat) (i : Int) : Bool := hasB lo hi i && decide (lo.getD i.toNat 0 < hi.getD i.toNat 0)
/-- The box of an address of n bits. -/
def bxLo (d : Nat) : Nat → Nat → List Nat × List Nat
  | 0, _ => (List.replicate d 0, List.replicate d 4294967295)
  | n + 1, a => if a % 2 = 1 then ((bxLo d n (a / 2)).1.set (n % d) (midB (bxLo d n (a / 2)).1 (bxLo d n (a / 2)).2 (n % d) + 1), (bxLo d n (a / 2)).2) else ((bxLo d n (a / 2)).1, (bxLo d n (a / 2)).2.set (n % d) (midB (bxLo d n (a / 2)).1 (bxLo d n (a / 2)).2 (n % d)))
def bx (d n a : Nat) : List Nat × List Nat := bxLo d n a
theorem bx_zero (d a : Nat) : bx d 0 a = (List.replicate d 0, List.replicate d 4294967295) := rfl
theorem bx_odd (d n a : Nat) (h : a % 2 = 1) : bx d (n + 1) a = ((bx d n (a / 2)).1.set (n % d) (midB (bx d n (a / 2)).1 (bx d n (a / 2)).2 (n % d) + 1), (bx d n (a / 2)).2) := by
  show bxLo d (n + 1) a = _
  simp only [bxLo]
  rw [if_pos h]; rfl
theorem bx_even (d n a : Nat) (h : ¬ a % 2 = 1) : bx d (n + 1) a = ((bx d n (a / 2)).1, (bx d n (a / 2)).2.set (n % d) (midB (bx d n (a / 2)).1 (bx d n (a / 2)).2 (n % d))) := by
  show bxLo d (n + 1) a = _
  simp only [bxLo]
  rw [if_neg h]; rfl
/-- How often a coordinate was halved. -/
def cnt (d n j : Nat) : Nat := n / d + if j < n % d then 1 else 0
theorem cnt_zero (d j : Nat) : cnt d 0 j = 0 := by simp [cnt]
theorem divmod_succ (d n : Nat) (hd : 0 < d) : ((n + 1) / d = n / d ∧ (n + 1) % d = n % d + 1 ∧ n % d + 1 < d) ∨ ((n + 1) / d = n / d + 1 ∧ (n + 1) % d = 0 ∧ n % d + 1 = d) := by
  have h1 := Nat.div_add_mod n d
  have h2 := Nat.mod_lt n hd
  by_cases h : n % d + 1 < d
  · left
    have e : n + 1 = d * (n / d) + (n % d + 1) := by omega
    have e1 : (n + 1) / d = n / d := by
      rw [e, Nat.mul_add_div hd, Nat.div_eq_of_lt h]; rfl
    have e2 : (n + 1) % d = n % d + 1 := by
      rw [e, Nat.mul_add_mod, Nat.mod_eq_of_lt h]
    exact ⟨e1, e2, h⟩
  · right
    have h3 : n % d + 1 = d := by omega
    have e : n + 1 = d * (n / d + 1) := by rw [Nat.mul_add, Nat.mul_one]; omega
    have e1 : (n + 1) / d = n / d + 1 := by rw [e, Nat.mul_div_cancel_left _ hd]
    have e2 : (n + 1) % d = 0 := by rw [e, Nat.mul_mod_right]
    exact ⟨e1, e2, h3⟩
theorem cnt_succ (d n j : Nat) (hd : 0 < d) (hj : j < d) : cnt d (n + 1) j = cnt d n j + if n % d = j then 1 else 0 := by
  unfold cnt
  rcases divmod_succ d n hd with ⟨h1, h2, h3⟩ | ⟨h1, h2, h3⟩
  · rw [h1, h2]; split <;> split <;> split <;> omega
  · rw [h1, h2]; split <;> split <;> split <;> omega
theorem cnt_at (d n : Nat) : cnt d n (n % d) = n / d := by unfold cnt; rw [if_neg (by omega)]; rfl
/-- What a coordinate of a box of an address is. -/
structure Cell (lo hi c : Nat) : Prop where
  dv : 2 ^ (32 - c) ∣ lo
  wd : hi + 1 = lo + 2 ^ (32 - c)
  le : hi < 4294967296
theorem bx_len (d n a : Nat) : (bx d n a).1.length = d ∧ (bx d n a).2.length = d := by
  induction n generalizing a with
  | zero => simp [bx_zero]
  | succ n ih =>
    by_cases h : a % 2 = 1
    · rw [bx_odd d n a h]; simp [ih]
    · rw [bx_even d n a h]; simp [ih]
theorem pow_half (c : Nat) (h : c < 32) : 2 ^ (32 - c) = 2 * 2 ^ (32 - (c + 1)) := by
  have : 32 - c = (32 - (c + 1)) + 1 := by omega
  rw [this, Nat.pow_succ, Nat.mul_comm]
theorem mid_cell {lo hi : List Nat} {i c : Nat} (hc : c < 32) (h : Cell (lo.getD i 0) (hi.getD i 0) c) : midB lo hi i + 1 = lo.getD i 0 + 2 ^ (32 - (c + 1)) := by
  have h1 := h.wd
  have h2 := pow_half c hc
  have h3 : 0 < 2 ^ (32 - (c + 1)) := Nat.pow_pos (by decide)
  unfold midB
  omega
theorem bx_cell (d : Nat) (hd : 0 < d) : ∀ n a, n ≤ 32 → ∀ j, j < d → Cell ((bx d n a).1.getD j 0) ((bx d n a).2.getD j 0) (cnt d n j)
  | 0, a, _, j, hj => by
    rw [bx_zero, cnt_zero]
    simp only
    rw [rep_get _ _ _ hj, rep_get _ _ _ hj]
    exact ⟨⟨0, by simp⟩, by simp, by omega⟩
  | n + 1, a, hn, j, hj => by
    have ih := bx_cell d hd n (a / 2) (by omega) j hj
    have hl := bx_len d n (a / 2)
    have hm : n % d < d := Nat.mod_lt n hd
    rw [cnt_succ d n j hd hj]
    by_cases e : n % d = j
    · subst e
      rw [if_pos rfl]
      rw [cnt_at] at ih ⊢
      have hc : n / d < 32 := Nat.lt_of_le_of_lt (Nat.div_le_self n d) (by omega)
      have hmid := mid_cell hc ih
      have hp := pow_half (n / d) hc
      have hp0 : 0 < 2 ^ (32 - (n / d + 1)) := Nat.pow_pos (by decide)
      obtain ⟨q, hq⟩ := ih.dv
      have hw := ih.wd
      have hle := ih.le
      rw [hp] at hq
      have hq' : (bx d n (a / 2)).1.getD (n % d) 0 = 2 ^ (32 - (n / d + 1)) * (2 * q) := by rw [hq, Nat.mul_comm 2 (2 ^ _), Nat.mul_assoc]
      by_cases h : a % 2 = 1
      · rw [bx_odd d n a h]
        simp only
        rw [set_get _ _ _ _ (by omega), if_pos rfl]
        refine ⟨?_, by omega, hle⟩
        rw [hmid, hq']
        exact ⟨2 * q + 1, by rw [Nat.mul_add, Nat.mul_one]⟩
      · rw [bx_even d n a h]
        simp only
        rw [set_get _ _ _ _ (by omega), if_pos rfl]
        exact ⟨⟨2 * q, hq'⟩, by omega, by omega⟩
    · rw [if_neg e, Nat.add_zero]
      by_cases h : a % 2 = 1
      · rw [bx_odd d n a h]
        simp only
        rw [set_get _ _ _ _ (by omega), if_neg e]
        exact ih
      · rw [bx_even d n a h]
        simp only
        rw [set_get _ _ _ _ (by omega), if_neg e]
        exact ih
theorem bx_chk (d : Nat) (h1 : 1 ≤ d) (h6 : d ≤ 6) (n a : Nat) (hn : n ≤ 32) : chkB (bx d n a).1 (bx d n a).2 d = 0 := by
  have hl := bx_len d n a
  rw [chkB_zero, leL_iff]
  refine ⟨by omega, by omega, by omega, by omega, fun j hj => ?_⟩
  have hc := bx_cell d (by omega) n a hn j (by omega)
  have h0 : 0 < 2 ^ (32 - cnt d n j) := Nat.pow_pos (by decide)
  have := hc.wd
  omega
theorem bx_wide (d : Nat) (h1 : 1 ≤ d) (h6 : d ≤ 6) (n a : Nat) (hn : n < 32) : wideB (bx d n a).1 (bx d n a).2 ((n % d : Nat) : Int) = true := by
  have hl := bx_len d n a
  have hm : n % d < d := Nat.mod_lt n (by omega)
  have hc := bx_cell d (by omega) n a (by omega) (n % d) hm
  rw [cnt_at] at hc
  have hc32 : n / d < 32 := Nat.lt_of_le_of_lt (Nat.div_le_self n d) (by omega)
  have hp := pow_half (n / d) hc32
  have hp0 : 0 < 2 ^ (32 - (n / d + 1)) := Nat.pow_pos (by decide)
  have hw := hc.wd
  unfold wideB hasB
  rw [Bool.and_eq_true, decide_eq_true_eq, decide_eq_true_eq, Int.toNat_natCast, hl.1]
  exact ⟨⟨by omega, by omega, bx_chk d h1 h6 n a (by omega)⟩, by omega⟩
theorem bx_lt (d : Nat) (hd : 0 < d) (n a : Nat) (hn : n ≤ 32) : (∀ x ∈ (bx d n a).1, x < 4294967296) ∧ (∀ x ∈ (bx d n a).2, x < 4294967296) := by
  have hl := bx_len d n a
  constructor
  · intro x hx
    obtain ⟨j, hj, rfl⟩ := List.mem_iff_getElem.1 hx
    have hc := bx_cell d hd n a hn j (by omega)
    have h0 : 0 < 2 ^ (32 - cnt d n j) := Nat.pow_pos (by decide)
    have h1 := hc.wd
    have h2 := hc.le
    have e : (bx d n a).1.getD j 0 = (bx d n a).1[j] := by simp [List.getD_eq_getElem?_getD, hj]
    rw [e] at h1
    omega
  · intro x hx
    obtain ⟨j, hj, rfl⟩ := List.mem_iff_getElem.1 hx
    have hc := bx_cell d hd n a hn j (by omega)
    have := hc.le
    rw [List.getD_eq_getElem?_getD (l := (bx d n a).2), List.getElem?_eq_getElem hj] at this
    simpa using this
theorem bit_of {q V r k : Nat} (hV : 0 < V) (hk : k = V * (2 * q) + r) (hr : r < 2 * V) : k / V % 2 = if r < V then 0 else 1 := by
  subst hk
  rw [Nat.mul_add_div hV]
  by_cases h : r < V
  · rw [if_pos h, Nat.div_eq_of_lt h]; omega
  · rw [if_neg h]
    have : r / V = 1 := by
      rw [Nat.div_eq_iff hV]
      omega
    omega
/-- A point is in the box of its address, and in no other one. -/
theorem in_bx (d : Nat) (hd : 0 < d) (k : List Nat) (hk : k.length = d) (hlt : ∀ x ∈ k, x < 4294967296) : ∀ n a, n ≤ 32 → a < 2 ^ n → (inB k (bx d n a).1 (bx d n a).2 = true ↔ bitsK k n = a)
  | 0, a, _, ha => by
    have : a = 0 := by simpa using ha
    subst this
    rw [bx_zero]
    simp only [bitsK, iff_true]
    exact in_whole hk hlt
  | n + 1, a, hn, ha => by
    have ha2 : a / 2 < 2 ^ n := by rw [Nat.pow_succ] at ha; omega
    have ih := in_bx d hd k hk hlt n (a / 2) (by omega) ha2
    have hl := bx_len d n (a / 2)
    have hm : n % d < d := Nat.mod_lt n hd
    have hc := bx_cell d hd n (a / 2) (by omega) (n % d) hm
    rw [cnt_at] at hc
    have hc32 : n / d < 32 := Nat.lt_of_le_of_lt (Nat.div_le_self n d) (by omega)
    have hmid := mid_cell hc32 hc
    have hp := pow_half (n / d) hc32
    have hp0 : 0 < 2 ^ (32 - (n / d + 1)) := Nat.pow_pos (by decide)
    have hw := hc.wd
    obtain ⟨q, hq⟩ := hc.dv
    rw [hp] at hq
    have hq' : (bx d n (a / 2)).1.getD (n % d) 0 = 2 ^ (32 - (n / d + 1)) * (2 * q) := by rw [hq, Nat.mul_comm 2 (2 ^ _), Nat.mul_assoc]
    have hbk : bitk k n = k.getD (n % d) 0 / 2 ^ (32 - (n / d + 1)) % 2 := by
      unfold bitk
      rw [hk]
      have : 31 - n / d = 32 - (n / d + 1) := by omega
      rw [this]
    have hbl := bitk_lt k n
    have hside : ∀ i, i < d → (bx d n (a / 2)).1.getD i 0 ≤ k.getD i 0 → k.getD i 0 ≤ (bx d n (a / 2)).2.getD i 0 → i = n % d → bitk k n = if k.getD i 0 < (bx d n (a / 2)).1.getD i 0 + 2 ^ (32 - (n / d + 1)) then 0 else 1 := by
      intro i hi h1 h2 e
      subst e
      rw [hbk, bit_of (q := q) (r := k.getD (n % d) 0 - (bx d n (a / 2)).1.getD (n % d) 0) hp0 (by omega) (by omega)]
      by_cases h : k.getD (n % d) 0 < (bx d n (a / 2)).1.getD (n % d) 0 + 2 ^ (32 - (n / d + 1))
      · rw [if_pos h, if_pos (by omega)]
      · rw [if_neg h, if_neg (by omega)]
    have hbs : bitsK k (n + 1) = 2 * bitsK k n + bitk k n := rfl
    rw [hbs]
    by_cases h : a % 2 = 1
    · rw [bx_odd d n a h]
      simp only
      rw [inB_iff, List.length_set]
      constructor
      · rintro ⟨_, _, g⟩
        have gm := g (n % d) (by omega)
        rw [set_get _ _ _ _ (by omega), if_pos rfl] at gm
        have hin : inB k (bx d n (a / 2)).1 (bx d n (a / 2)).2 = true := (inB_iff _ _ _).2 ⟨by omega, by omega, fun i hi => by
          have := g i hi
          rw [set_get _ _ _ _ (by omega)] at this
          by_cases e : n % d = i
          · rw [if_pos e] at this; subst e; omega
          · rw [if_neg e] at this; exact this⟩
        have := ih.1 hin
        have hs := hside (n % d) hm (by omega) gm.2 rfl
        rw [if_neg (by omega)] at hs
        omega
      · intro e
        have hin := ih.2 (by omega)
        obtain ⟨g1, g2, g⟩ := (inB_iff _ _ _).1 hin
        refine ⟨by omega, by omega, fun i hi => ?_⟩
        rw [set_get _ _ _ _ (by omega)]
        by_cases e' : n % d = i
        · rw [if_pos e']
          subst e'
          have gm := g (n % d) hi
          have hs := hside (n % d) hm gm.1 gm.2 rfl
          by_cases hx : k.getD (n % d) 0 < (bx d n (a / 2)).1.getD (n % d) 0 + 2 ^ (32 - (n / d + 1))
          · rw [if_pos hx] at hs; omega
          · omega
        · rw [if_neg e']; exact g i hi
    · rw [bx_even d n a h]
      simp only
      rw [inB_iff, List.length_set]
      constructor
      · rintro ⟨_, _, g⟩
        have gm := g (n % d) (by omega)
        rw [set_get _ _ _ _ (by omega), if_pos rfl] at gm
        have hin : inB k (bx d n (a / 2)).1 (bx d n (a / 2)).2 = true := (inB_iff _ _ _).2 ⟨by omega, by omega, fun i hi => by
          have := g i hi
          rw [set_get _ _ _ _ (by omega)] at this
          by_cases e : n % d = i
          · rw [if_pos e] at this; subst e; omega
          · rw [if_neg e] at this; exact this⟩
        have := ih.1 hin
        have hs := hside (n % d) hm gm.1 (by omega) rfl
        rw [if_pos (by omega)] at hs
        omega
      · intro e
        have hin := ih.2 (by omega)
        obtain ⟨g1, g2, g⟩ := (inB_iff _ _ _).1 hin
        refine ⟨by omega, by omega, fun i hi => ?_⟩
        rw [set_get _ _ _ _ (by omega)]
        by_cases e' : n % d = i
        · rw [if_pos e']
          subst e'
          have gm := g (n % d) hi
          have hs := hside (n % d) hm gm.1 gm.2 rfl
          by_cases hx : k.getD (n % d) 0 < (bx d n (a / 2)).1.getD (n % d) 0 + 2 ^ (32 - (n / d + 1))
          · omega
          · rw [if_neg hx] at hs; omega
        · rw [if_neg e']; exact g i hi
end Go.Proofs.Ytoaikponefcbiaa.Px16
