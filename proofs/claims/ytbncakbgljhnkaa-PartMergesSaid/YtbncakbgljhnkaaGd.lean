/- Several parts in one text: each begins with its own sentence. -/
import Derived.Test.YtbncakbgljhnkaaGa
import Derived.Test.YtbncakbgljhnkaaGb
import Derived.Test.YtbncakbgljhnkaaGc
import Derived.Deep.QuietTactic
import Derived.BigQuiet
import Derived.BigRegion
import Derived.Deep.DeepCutAuto
import Derived.Deep.LoopGhost
import Derived.Deep.RegionHeld3
/- Plain facts for layers 11 and 16: boxes halved; the box of an address. No program in sight. -/
namespace Go.Proofs.Ytbncakbgljhnkaa.Px16
open Go.Proofs.Ytbncakbgljhnkaa.Pk08 Go.Proofs.Ytbncakbgljhnkaa.Pq08 Go.Proofs.Ytbncakbgljhnkaa.Pl08 Go.Proofs.Ytbncakbgljhnkaa.Ki08 Go.Proofs.Ytbncakbgljhnkaa.Kj08 Go.Proofs.Ytbncakbgljhnkaa.Pm08
set_option linter.unusedVariables false
set_option linter.unusedSimpArgs false
/-- The last number of the lower half of a coordinate. -/
def midB (lo hi : List Nat) (i : Nat) : Nat := lo.getD i 0 + (hi.getD i 0 - lo.getD i 0) / 2
/-- May a box be halved there? -/
def hasB (lo hi : List Nat) (i : Int) : Bool := decide (0 ≤ i ∧ i < lo.length ∧ chkB lo hi lo.length = 0)
def wideB (lo hi : List Nat) (i : Int) : Bool := hasB lo hi i && decide (lo.getD i.toNat 0 < hi.getD i.toNat 0)
/-- The box of an address of n bits. -/
def bxLo (d : Nat) : Nat → Nat → List Nat × List Nat
  | 0, _ => (List.replicate d 0, List.replicate d 4294967295)
  | n + 1, a => if a % 2 = 1 then ((bxLo d n (a / 2)).1.set (n % d) (midB (bxLo d n (a / 2)).1 (bxLo d n (a / 2)).2 (n % d) + 1), (bxLo d n (a / 2)).2) else ((bxLo d n (a / 2)).1, (bxLo d n (a / 2)).2.set (n % d) (midB (bxLo d n (a / 2)).1 (bxLo d n (a / 2)).2 (n % d)))
def bx (d n a : Nat) : List Nat × List Nat := bxLo d n a
theorem bx_zero (d a : Nat) : bx d 0 a = (List.replicate d 0, List.replicate d 4294967295) := rfl
theorem bx_odd (d n a : Nat) (h : a % 2 = 1) : bx d (n + 1) a = ((bx d n (a / 2)).1.set (n % d) (midB (bx d n (a / 2)).1 (bx d n (a / 2)).2 (n % d) + 1), (bx d n (a / 2)).2) := by
  show bxLo d (n + 1) a = _
  simp only [bxLo]
  rw [if_pos h]; rfl
theorem bx_even (d n a : Nat) (h : ¬ a % 2 = 1) : bx d (n + 1) a = ((bx d n (a / 2)).1, (bx d n (a / 2)).2.set (n % d) (midB (bx d n (a / 2)).1 (bx d n (a / 2)).2 (n % d))) := by
  show bxLo d (n + 1) a = _
  simp only [bxLo]
  rw [if_neg h]; rfl
/-- How often a coordinate was halved. -/
def cnt (d n j : Nat) : Nat := n / d + if j < n % d then 1 else 0
theorem cnt_zero (d j : Nat) : cnt d 0 j = 0 := by simp [cnt]
theorem divmod_succ (d n : Nat) (hd : 0 < d) : ((n + 1) / d = n / d ∧ (n + 1) % d = n % d + 1 ∧ n % d + 1 < d) ∨ ((n + 1) / d = n / d + 1 ∧ (n + 1) % d = 0 ∧ n % d + 1 = d) := by
  have h1 := Nat.div_add_mod n d
  have h2 := Nat.mod_lt n hd
  by_cases h : n % d + 1 < d
  · left
    have e : n + 1 = d * (n / d) + (n % d + 1) := by omega
    have e1 : (n + 1) / d = n / d := by
      rw [e, Nat.mul_add_div hd, Nat.div_eq_of_lt h]; rfl
    have e2 : (n + 1) % d = n % d + 1 := by
      rw [e, Nat.mul_add_mod, Nat.mod_eq_of_lt h]
    exact ⟨e1, e2, h⟩
  · right
    have h3 : n % d + 1 = d := by omega
    have e : n + 1 = d * (n / d + 1) := by rw [Nat.mul_add, Nat.mul_one]; omega
    have e1 : (n + 1) / d = n / d + 1 := by rw [e, Nat.mul_div_cancel_left _ hd]
    have e2 : (n + 1) % d = 0 := by rw [e, Nat.mul_mod_right]
    exact ⟨e1, e2, h3⟩
theorem cnt_succ (d n j : Nat) (hd : 0 < d) (hj : j < d) : cnt d (n + 1) j = cnt d n j + if n % d = j then 1 else 0 := by
  unfold cnt
  rcases divmod_succ d n hd with ⟨h1, h2, h3⟩ | ⟨h1, h2, h3⟩
  · rw [h1, h2]; split <;> split <;> split <;> omega
  · rw [h1, h2]; split <;> split <;> split <;> omega
theorem cnt_at (d n : Nat) : cnt d n (n % d) = n / d := by unfold cnt; rw [if_neg (by omega)]; rfl
/-- What a coordinate of a box of an address is. -/
structure Cell (lo hi c : Nat) : Prop where
  dv : 2 ^ (32 - c) ∣ lo
  wd : hi + 1 = lo + 2 ^ (32 - c)
  le : hi < 4294967296
theorem bx_len (d n a : Nat) : (bx d n a).1.length = d ∧ (bx d n a).2.length = d := by
  induction n generalizing a with
  | zero => simp [bx_zero]
  | succ n ih =>
    by_cases h : a % 2 = 1
    · rw [bx_odd d n a h]; simp [ih]
    · rw [bx_even d n a h]; simp [ih]
theorem pow_half (c : Nat) (h : c < 32) : 2 ^ (32 - c) = 2 * 2 ^ (32 - (c + 1)) := by
  have : 32 - c = (32 - (c + 1)) + 1 := by omega
  rw [this, Nat.pow_succ, Nat.mul_comm]
theorem mid_cell {lo hi : List Nat} {i c : Nat} (hc : c < 32) (h : Cell (lo.getD i 0) (hi.getD i 0) c) : midB lo hi i + 1 = lo.getD i 0 + 2 ^ (32 - (c + 1)) := by
  have h1 := h.wd
  have h2 := pow_half c hc
  have h3 : 0 < 2 ^ (32 - (c + 1)) := Nat.pow_pos (by decide)
  unfold midB
  omega
theorem bx_cell (d : Nat) (hd : 0 < d) : ∀ n a, n ≤ 32 → ∀ j, j < d → Cell ((bx d n a).1.getD j 0) ((bx d n a).2.getD j 0) (cnt d n j)
  | 0, a, _, j, hj => by
    rw [bx_zero, cnt_zero]
    simp only
    rw [rep_get _ _ _ hj, rep_get _ _ _ hj]
    exact ⟨⟨0, by simp⟩, by simp, by omega⟩
  | n + 1, a, hn, j, hj => by
    have ih := bx_cell d hd n (a / 2) (by omega) j hj
    have hl := bx_len d n (a / 2)
    have hm : n % d < d := Nat.mod_lt n hd
    rw [cnt_succ d n j hd hj]
    by_cases e : n % d = j
    · subst e
      rw [if_pos rfl]
      rw [cnt_at] at ih ⊢
      have hc : n / d < 32 := Nat.lt_of_le_of_lt (Nat.div_le_self n d) (by omega)
      have hmid := mid_cell hc ih
      have hp := pow_half (n / d) hc
      have hp0 : 0 < 2 ^ (32 - (n / d + 1)) := Nat.pow_pos (by decide)
      obtain ⟨q, hq⟩ := ih.dv
      have hw := ih.wd
      have hle := ih.le
      rw [hp] at hq
      have hq' : (bx d n (a / 2)).1.getD (n % d) 0 = 2 ^ (32 - (n / d + 1)) * (2 * q) := by rw [hq, Nat.mul_comm 2 (2 ^ _), Nat.mul_assoc]
      by_cases h : a % 2 = 1
      · rw [bx_odd d n a h]
        simp only
        rw [set_get _ _ _ _ (by omega), if_pos rfl]
        refine ⟨?_, by omega, hle⟩
        rw [hmid, hq']
        exact ⟨2 * q + 1, by rw [Nat.mul_add, Nat.mul_one]⟩
      · rw [bx_even d n a h]
        simp only
        rw [set_get _ _ _ _ (by omega), if_pos rfl]
        exact ⟨⟨2 * q, hq'⟩, by omega, by omega⟩
    · rw [if_neg e, Nat.add_zero]
      by_cases h : a % 2 = 1
      · rw [bx_odd d n a h]
        simp only
        rw [set_get _ _ _ _ (by omega), if_neg e]
        exact ih
      · rw [bx_even d n a h]
        simp only
        rw [set_get _ _ _ _ (by omega), if_neg e]
        exact ih
theorem bx_chk (d : Nat) (h1 : 1 ≤ d) (h6 : d ≤ 6) (n a : Nat) (hn : n ≤ 32) : chkB (bx d n a).1 (bx d n a).2 d = 0 := by
  have hl := bx_len d n a
  rw [chkB_zero, leL_iff]
  refine ⟨by omega, by omega, by omega, by omega, fun j hj => ?_⟩
  have hc := bx_cell d (by omega) n a hn j (by omega)
  have h0 : 0 < 2 ^ (32 - cnt d n j) := Nat.pow_pos (by decide)
  have := hc.wd
  omega
theorem bx_wide (d : Nat) (h1 : 1 ≤ d) (h6 : d ≤ 6) (n a : Nat) (hn : n < 32) : wideB (bx d n a).1 (bx d n a).2 ((n % d : Nat) : Int) = true := by
  have hl := bx_len d n a
  have hm : n % d < d := Nat.mod_lt n (by omega)
  have hc := bx_cell d (by omega) n a (by omega) (n % d) hm
  rw [cnt_at] at hc
  have hc32 : n / d < 32 := Nat.lt_of_le_of_lt (Nat.div_le_self n d) (by omega)
  have hp := pow_half (n / d) hc32
  have hp0 : 0 < 2 ^ (32 - (n / d + 1)) := Nat.pow_pos (by decide)
  have hw := hc.wd
  unfold wideB hasB
  rw [Bool.and_eq_true, decide_eq_true_eq, decide_eq_true_eq, Int.toNat_natCast, hl.1]
  exact ⟨⟨by omega, by omega, bx_chk d h1 h6 n a (by omega)⟩, by omega⟩
theorem bx_lt (d : Nat) (hd : 0 < d) (n a : Nat) (hn : n ≤ 32) : (∀ x ∈ (bx d n a).1, x < 4294967296) ∧ (∀ x ∈ (bx d n a).2, x < 4294967296) := by
  have hl := bx_len d n a
  constructor
  · intro x hx
    obtain ⟨j, hj, rfl⟩ := List.mem_iff_getElem.1 hx
    have hc := bx_cell d hd n a hn j (by omega)
    have h0 : 0 < 2 ^ (32 - cnt d n j) := Nat.pow_pos (by decide)
    have h1 := hc.wd
    have h2 := hc.le
    have e : (bx d n a).1.getD j 0 = (bx d n a).1[j] := by simp [List.getD_eq_getElem?_getD, hj]
    rw [e] at h1
    omega
  · intro x hx
    obtain ⟨j, hj, rfl⟩ := List.mem_iff_getElem.1 hx
    have hc := bx_cell d hd n a hn j (by omega)
    have := hc.le
    rw [List.getD_eq_getElem?_getD (l := (bx d n a).2), List.getElem?_eq_getElem hj] at this
    simpa using this
theorem bit_of {q V r k : Nat} (hV : 0 < V) (hk : k = V * (2 * q) + r) (hr : r < 2 * V) : k / V % 2 = if r < V then 0 else 1 := by
  subst hk
  rw [Nat.mul_add_div hV]
  by_cases h : r < V
  · rw [if_pos h, Nat.div_eq_of_lt h]; omega
  · rw [if_neg h]
    have : r / V = 1 := by
      rw [Nat.div_eq_iff hV]
      omega
    omega
/-- A point is in the box of its address, and in no other one. -/
theorem in_bx (d : Nat) (hd : 0 < d) (k : List Nat) (hk : k.length = d) (hlt : ∀ x ∈ k, x < 4294967296) : ∀ n a, n ≤ 32 → a < 2 ^ n → (inB k (bx d n a).1 (bx d n a).2 = true ↔ bitsK k n = a)
  | 0, a, _, ha => by
    have : a = 0 := by simpa using ha
    subst this
    rw [bx_zero]
    simp only [bitsK, iff_true]
    exact in_whole hk hlt
  | n + 1, a, hn, ha => by
    have ha2 : a / 2 < 2 ^ n := by rw [Nat.pow_succ] at ha; omega
    have ih := in_bx d hd k hk hlt n (a / 2) (by omega) ha2
    have hl := bx_len d n (a / 2)
    have hm : n % d < d := Nat.mod_lt n hd
    have hc := bx_cell d hd n (a / 2) (by omega) (n % d) hm
    rw [cnt_at] at hc
    have hc32 : n / d < 32 := Nat.lt_of_le_of_lt (Nat.div_le_self n d) (by omega)
    have hmid := mid_cell hc32 hc
    have hp := pow_half (n / d) hc32
    have hp0 : 0 < 2 ^ (32 - (n / d + 1)) := Nat.pow_pos (by decide)
    have hw := hc.wd
    obtain ⟨q, hq⟩ := hc.dv
    rw [hp] at hq
    have hq' : (bx d n (a / 2)).1.getD (n % d) 0 = 2 ^ (32 - (n / d + 1)) * (2 * q) := by rw [hq, Nat.mul_comm 2 (2 ^ _), Nat.mul_assoc]
    have hbk : bitk k n = k.getD (n % d) 0 / 2 ^ (32 - (n / d + 1)) % 2 := by
      unfold bitk
      rw [hk]
      have : 31 - n / d = 32 - (n / d + 1) := by omega
      rw [this]
    have hbl := bitk_lt k n
    have hside : ∀ i, i < d → (bx d n (a / 2)).1.getD i 0 ≤ k.getD i 0 → k.getD i 0 ≤ (bx d n (a / 2)).2.getD i 0 → i = n % d → bitk k n = if k.getD i 0 < (bx d n (a / 2)).1.getD i 0 + 2 ^ (32 - (n / d + 1)) then 0 else 1 := by
      intro i hi h1 h2 e
      subst e
      rw [hbk, bit_of (q := q) (r := k.getD (n % d) 0 - (bx d n (a / 2)).1.getD (n % d) 0) hp0 (by omega) (by omega)]
      by_cases h : k.getD (n % d) 0 < (bx d n (a / 2)).1.getD (n % d) 0 + 2 ^ (32 - (n / d + 1))
      · rw [if_pos h, if_pos (by omega)]
      · rw [if_neg h, if_neg (by omega)]
    have hbs : bitsK k (n + 1) = 2 * bitsK k n + bitk k n := rfl
    rw [hbs]
    by_cases h : a % 2 = 1
    · rw [bx_odd d n a h]
      simp only
      rw [inB_iff, List.length_set]
      constructor
      · rintro ⟨_, _, g⟩
        have gm := g (n % d) (by omega)
        rw [set_get _ _ _ _ (by omega), if_pos rfl] at gm
        have hin : inB k (bx d n (a / 2)).1 (bx d n (a / 2)).2 = true := (inB_iff _ _ _).2 ⟨by omega, by omega, fun i hi => by
          have := g i hi
          rw [set_get _ _ _ _ (by omega)] at this
          by_cases e : n % d = i
          · rw [if_pos e] at this; subst e; omega
          · rw [if_neg e] at this; exact this⟩
        have := ih.1 hin
        have hs := hside (n % d) hm (by omega) gm.2 rfl
        rw [if_neg (by omega)] at hs
        omega
      · intro e
        have hin := ih.2 (by omega)
        obtain ⟨g1, g2, g⟩ := (inB_iff _ _ _).1 hin
        refine ⟨by omega, by omega, fun i hi => ?_⟩
        rw [set_get _ _ _ _ (by omega)]
        by_cases e' : n % d = i
        · rw [if_pos e']
          subst e'
          have gm := g (n % d) hi
          have hs := hside (n % d) hm gm.1 gm.2 rfl
          by_cases hx : k.getD (n % d) 0 < (bx d n (a / 2)).1.getD (n % d) 0 + 2 ^ (32 - (n / d + 1))
          · rw [if_pos hx] at hs; omega
          · omega
        · rw [if_neg e']; exact g i hi
    · rw [bx_even d n a h]
      simp only
      rw [inB_iff, List.length_set]
      constructor
      · rintro ⟨_, _, g⟩
        have gm := g (n % d) (by omega)
        rw [set_get _ _ _ _ (by omega), if_pos rfl] at gm
        have hin : inB k (bx d n (a / 2)).1 (bx d n (a / 2)).2 = true := (inB_iff _ _ _).2 ⟨by omega, by omega, fun i hi => by
          have := g i hi
          rw [set_get _ _ _ _ (by omega)] at this
          by_cases e : n % d = i
          · rw [if_pos e] at this; subst e; omega
          · rw [if_neg e] at this; exact this⟩
        have := ih.1 hin
        have hs := hside (n % d) hm gm.1 (by omega) rfl
        rw [if_pos (by omega)] at hs
        omega
      · intro e
        have hin := ih.2 (by omega)
        obtain ⟨g1, g2, g⟩ := (inB_iff _ _ _).1 hin
        refine ⟨by omega, by omega, fun i hi => ?_⟩
        rw [set_get _ _ _ _ (by omega)]
        by_cases e' : n % d = i
        · rw [if_pos e']
          subst e'
          have gm := g (n % d) hi
          have hs := hside (n % d) hm gm.1 gm.2 rfl
          by_cases hx : k.getD (n % d) 0 < (bx d n (a / 2)).1.getD (n % d) 0 + 2 ^ (32 - (n / d + 1))
          · omega
          · rw [if_neg hx] at hs; omega
        · rw [if_neg e']; exact g i hi
end Go.Proofs.Ytbncakbgljhnkaa.Px16
/- Layer 11: whether a box has a coordinate, its middle there, and its halves (the program's). -/
namespace Go.Proofs.Ytbncakbgljhnkaa.Ha16
open Go.RowKit Go.Proofs.Ytbncakbgljhnkaa.Pk08 Go.Proofs.Ytbncakbgljhnkaa.Base Go.Proofs.Ytbncakbgljhnkaa.App Go.Proofs.Ytbncakbgljhnkaa.Ky Go.Proofs.Ytbncakbgljhnkaa.Bx Go.Proofs.Ytbncakbgljhnkaa.Kk Go.Proofs.Ytbncakbgljhnkaa.Bo Go.Proofs.Ytbncakbgljhnkaa.Cl Go.Proofs.Ytbncakbgljhnkaa.Pl08 Go.Proofs.Ytbncakbgljhnkaa.Kc08 Go.Proofs.Ytbncakbgljhnkaa.Ke08 Go.Proofs.Ytbncakbgljhnkaa.Px16
set_option linter.unusedVariables false
set_option linter.unusedSimpArgs false
theorem hasB_iff {lo hi : List Nat} {i : Int} : hasB lo hi i = true ↔ (0 ≤ i ∧ i < lo.length ∧ chkB lo hi lo.length = 0) := by unfold hasB; rw [decide_eq_true_eq]
/-- What a box is that has a coordinate. -/
theorem has_parts {lo hi : List Nat} {j : Nat} (h : hasB lo hi j = true) : j < lo.length ∧ lo.length ≤ 6 ∧ hi.length = lo.length ∧ lo.getD j 0 ≤ hi.getD j 0 := by
  obtain ⟨h1, h2, h3⟩ := hasB_iff.1 h
  obtain ⟨h4, h5, h6, h7⟩ := chkB_zero.1 h3
  obtain ⟨h8, h9⟩ := (leL_iff _ _).1 h7
  exact ⟨by omega, by omega, h8.symm, h9 j (by omega)⟩
def midE (lo hi : List Nat) (i : Int) : Nat := if hasB lo hi i = true then midB lo hi i.toNat else 0
section
variable {w : World} {A B : Option Addr} {n cn m cm : Nat} {lo hi : List Nat}
theorem has_any (i : Int) (hl : Kv w A n cn lo) (hh : Kv w B m cm hi) :
    Calls Try.prog 33 #[.agg #[.slice A n cn, .slice B m cm], .int .i64 i] w fun e w' => e = .returned (.bool (hasB lo hi i)) ∧ Fr No w w' := by
  have hlen := Lib.hid hl.len
  by_cases h0 : 0 ≤ i
  · by_cases h1 : i < (n : Int)
    · have E := Lib.hid (show hasB lo hi i = (chkB lo hi n == 0) by
        unfold hasB
        rw [← hlen.out]
        by_cases h : chkB lo hi n = 0 <;> simp [h, h0, h1])
      rw [E.out]
      go_enter Try.func33, Try.ntmps33
      go_wp2_with (go_at_call 48; ((with_reducible refine (checkBox_any (lo := lo) (hi := hi) _ ?_ ?_).mono ?_); (iterate 2 (repeat (first | with_reducible assumption | ((with_reducible refine Kv.lit_new _ _ _ _ _ _ ?_ ?_ ?_ ?_) <;> (first | (simp; done) | rfl | decide)) | with_reducible exact Kv.none_ _ | with_reducible refine Kv.alloc ?_ _ | with_reducible refine Kv.drew ?_ | with_reducible refine Kv.drewN ?_ _ | with_reducible refine Kv.no ?_ (by assumption)))); rintro e w1 ⟨rfl, hf1⟩))
      go_ret
      refine ⟨rfl, ?_⟩
      (repeat (first | with_reducible exact Fr.refl _ _ | with_reducible refine Fr.setCell ?_ (.inr (by first | (simp; done) | (simp; omega))) _ | with_reducible refine Fr.alloc ?_ _ | with_reducible refine Fr.drew ?_ | with_reducible refine Fr.drewN ?_ _ | with_reducible refine Fr.tr ?_ (by assumption)))
    · have E := Lib.hid (show hasB lo hi i = false by
        unfold hasB
        rw [← hlen.out]
        simp [h0, h1])
      rw [E.out]
      have h1' : (n : Int) ≤ i := by omega
      clear h1
      go_enter Try.func33, Try.ntmps33
      go_wp2
      go_ret
      refine ⟨rfl, ?_⟩
      (repeat (first | with_reducible exact Fr.refl _ _ | with_reducible refine Fr.setCell ?_ (.inr (by first | (simp; done) | (simp; omega))) _ | with_reducible refine Fr.alloc ?_ _ | with_reducible refine Fr.drew ?_ | with_reducible refine Fr.drewN ?_ _ | with_reducible refine Fr.tr ?_ (by assumption)))
  · have E := Lib.hid (show hasB lo hi i = false by
      unfold hasB
      simp [h0])
    rw [E.out]
    have h0' : i < 0 := by omega
    clear h0
    go_enter Try.func33, Try.ntmps33
    go_wp2
    go_ret
    refine ⟨rfl, ?_⟩
    (repeat (first | with_reducible exact Fr.refl _ _ | with_reducible refine Fr.setCell ?_ (.inr (by first | (simp; done) | (simp; omega))) _ | with_reducible refine Fr.alloc ?_ _ | with_reducible refine Fr.drew ?_ | with_reducible refine Fr.drewN ?_ _ | with_reducible refine Fr.tr ?_ (by assumption)))
set_option maxHeartbeats 800000 in
theorem middle_no (i : Int) (hl : Kv w A n cn lo) (hh : Kv w B m cm hi) (hb : hasB lo hi i = false) :
    Calls Try.prog 30 #[.agg #[.slice A n cn, .slice B m cm], .int .i64 i] w fun e w' => e = .returned (.tuple #[.int .u32 0, .bool false]) ∧ Fr No w w' := by
  have Hb := Lib.hid hb
  clear hb
  go_enter Try.func30, Try.ntmps30
  go_wp2_with (go_at_call 33; ((with_reducible refine (has_any (lo := lo) (hi := hi) _ ?_ ?_).mono ?_); (iterate 2 (repeat (first | with_reducible assumption | ((with_reducible refine Kv.lit_new _ _ _ _ _ _ ?_ ?_ ?_ ?_) <;> (first | (simp; done) | rfl | decide)) | with_reducible exact Kv.none_ _ | with_reducible refine Kv.alloc ?_ _ | with_reducible refine Kv.drew ?_ | with_reducible refine Kv.drewN ?_ _ | with_reducible refine Kv.no ?_ (by assumption)))); rintro e w1 ⟨rfl, hf1⟩; rw [Hb.out]))
  go_ret2
  refine ⟨rfl, ?_⟩
  (repeat (first | with_reducible exact Fr.refl _ _ | with_reducible refine Fr.setCell ?_ (.inr (by first | (simp; done) | (simp; omega))) _ | with_reducible refine Fr.alloc ?_ _ | with_reducible refine Fr.drew ?_ | with_reducible refine Fr.drewN ?_ _ | with_reducible refine Fr.tr ?_ (by assumption)))
set_option maxHeartbeats 800000 in
theorem middle_yes (j : Nat) (hl : Kv w A n cn lo) (hh : Kv w B m cm hi) (hb : hasB lo hi j = true) :
    Calls Try.prog 30 #[.agg #[.slice A n cn, .slice B m cm], .int .i64 (j : Int)] w fun e w' => e = .returned (.tuple #[.int .u32 (midB lo hi j : Int), .bool (decide (lo.getD j 0 < hi.getD j 0))]) ∧ Fr No w w' := by
  obtain ⟨p1, p2, p3, p4⟩ := has_parts hb
  have q1 : j < n := by have := hl.len; omega
  have q2 : j < m := by have := hh.len; omega
  have q3 := hl.cap
  have q4 := hl.most
  have q5 := hh.cap
  have q6 := hh.most
  have hmx : maxLen ≤ 9223372036854775807 := by decide
  obtain ⟨ga, oa, rfl, ca⟩ := hl.get j (by omega)
  obtain ⟨gb, ob, rfl, cb⟩ := hh.get j (by omega)
  have la := World.block_lt_of_cell? w _ ca
  have lb := World.block_lt_of_cell? w _ cb
  have hmid := Lib.hid (show (midB lo hi j : Int) = (lo.getD j 0 : Int) + ((hi.getD j 0 : Int) - (lo.getD j 0 : Int)) / 2 by unfold midB; omega)
  have b1 := hl.ltD j
  have b2 := hh.ltD j
  have Hb := Lib.hid hb
  rw [hmid.out]
  clear hb hmid
  generalize lo.getD j 0 = x at *
  generalize hi.getD j 0 = y at *
  go_enter Try.func30, Try.ntmps30
  go_wp2_with (go_at_call 33; ((with_reducible refine (has_any (lo := lo) (hi := hi) _ ?_ ?_).mono ?_); (iterate 2 (repeat (first | with_reducible assumption | ((with_reducible refine Kv.lit_new _ _ _ _ _ _ ?_ ?_ ?_ ?_) <;> (first | (simp; done) | rfl | decide)) | with_reducible exact Kv.none_ _ | with_reducible refine Kv.alloc ?_ _ | with_reducible refine Kv.drew ?_ | with_reducible refine Kv.drewN ?_ _ | with_reducible refine Kv.no ?_ (by assumption)))); rintro e w1 ⟨rfl, hf1⟩; rw [Hb.out]; obtain ⟨yza, yzb, yzl, yzm, yzn, yzo, yzp, yzq⟩ := (show Ob w1 w.heap.size #[.slice (some ⟨ga, oa, none⟩) n cn, .slice (some ⟨gb, ob, none⟩) m cm] 25 by (repeat (first | with_reducible assumption | with_reducible refine Ob.other ?_ (by first | (simp; done) | (simp; omega)) _ | ((with_reducible refine Ob.new_ _ _ _ _ ?_) <;> (simp; done)) | with_reducible refine Ob.alloc ?_ _ | with_reducible refine Ob.drew ?_ | with_reducible refine Ob.drewN ?_ _ | with_reducible refine Ob.no ?_ (by assumption)))).two; have ca1 : w1.cell? ⟨ga, oa + j, none⟩ = some (.int .u32 (x : Int)) := (by (repeat (first | with_reducible assumption | with_reducible refine cel_alloc ?_ _ | with_reducible refine cel_drew ?_ | with_reducible refine cel_drewN ?_ _ | with_reducible refine cel_set ?_ (by first | (simp; done) | (simp; omega)) _ | with_reducible refine cel_no ?_ (by assumption)))); have cb1 : w1.cell? ⟨gb, ob + j, none⟩ = some (.int .u32 (y : Int)) := (by (repeat (first | with_reducible assumption | with_reducible refine cel_alloc ?_ _ | with_reducible refine cel_drew ?_ | with_reducible refine cel_drewN ?_ _ | with_reducible refine cel_set ?_ (by first | (simp; done) | (simp; omega)) _ | with_reducible refine cel_no ?_ (by assumption))))))
  go_quiet (fail)
  go_wp2
  go_ret2
  refine ⟨rfl, ?_⟩
  (repeat (first | with_reducible exact Fr.refl _ _ | with_reducible refine Fr.setCell ?_ (.inr (by first | (simp; done) | (simp; omega))) _ | with_reducible refine Fr.alloc ?_ _ | with_reducible refine Fr.drew ?_ | with_reducible refine Fr.drewN ?_ _ | with_reducible refine Fr.tr ?_ (by assumption)))
theorem middle_any (i : Int) (hl : Kv w A n cn lo) (hh : Kv w B m cm hi) :
    Calls Try.prog 30 #[.agg #[.slice A n cn, .slice B m cm], .int .i64 i] w fun e w' => e = .returned (.tuple #[.int .u32 (midE lo hi i : Int), .bool (wideB lo hi i)]) ∧ Fr No w w' := by
  cases hb : hasB lo hi i with
  | false =>
    have e1 : midE lo hi i = 0 := by unfold midE; rw [hb]; rfl
    have e2 : wideB lo hi i = false := by unfold wideB; rw [hb]; rfl
    rw [e1, e2]
    exact middle_no i hl hh hb
  | true =>
    obtain ⟨j, rfl⟩ := Int.eq_ofNat_of_zero_le (hasB_iff.1 hb).1
    have e1 : midE lo hi j = midB lo hi j := by unfold midE; rw [hb, Int.toNat_natCast]; rfl
    have e2 : wideB lo hi j = decide (lo.getD j 0 < hi.getD j 0) := by unfold wideB; rw [hb, Int.toNat_natCast]; rfl
    rw [e1, e2]
    exact middle_yes j hl hh hb
def nilBox : Value := .agg #[.slice none 0 0, .slice none 0 0]
set_option maxHeartbeats 800000 in
theorem halves_no (i : Int) (hl : Kv w A n cn lo) (hh : Kv w B m cm hi) (hb : wideB lo hi i = false) :
    Calls Try.prog 11 #[.agg #[.slice A n cn, .slice B m cm], .int .i64 i] w fun e w' => e = .returned (.tuple #[.agg #[.slice none 0 0, .slice none 0 0], .agg #[.slice none 0 0, .slice none 0 0], .bool false]) ∧ Fr No w w' := by
  have Hb := Lib.hid hb
  clear hb
  go_enter Try.func11, Try.ntmps11
  go_wp2_with (go_at_call 30; ((with_reducible refine (middle_any (lo := lo) (hi := hi) _ ?_ ?_).mono ?_); (iterate 2 (repeat (first | with_reducible assumption | ((with_reducible refine Kv.lit_new _ _ _ _ _ _ ?_ ?_ ?_ ?_) <;> (first | (simp; done) | rfl | decide)) | with_reducible exact Kv.none_ _ | with_reducible refine Kv.alloc ?_ _ | with_reducible refine Kv.drew ?_ | with_reducible refine Kv.drewN ?_ _ | with_reducible refine Kv.no ?_ (by assumption)))); rintro e w1 ⟨rfl, hf1⟩; rw [Hb.out]; obtain ⟨q0, q1, q2, q3⟩ := Ob.four (show Ob w1 (w.heap.size + 1) #[.slice none 0 0, .slice none 0 0] 25 by (repeat (first | with_reducible assumption | with_reducible refine Ob.other ?_ (by first | (simp; done) | (simp; omega)) _ | ((with_reducible refine Ob.new_ _ _ _ _ ?_) <;> (simp; done)) | with_reducible refine Ob.alloc ?_ _ | with_reducible refine Ob.drew ?_ | with_reducible refine Ob.drewN ?_ _ | with_reducible refine Ob.no ?_ (by assumption)))); obtain ⟨r0, r1, r2, r3⟩ := Ob.four (show Ob w1 (w.heap.size + 1 + 1) #[.slice none 0 0, .slice none 0 0] 25 by (repeat (first | with_reducible assumption | with_reducible refine Ob.other ?_ (by first | (simp; done) | (simp; omega)) _ | ((with_reducible refine Ob.new_ _ _ _ _ ?_) <;> (simp; done)) | with_reducible refine Ob.alloc ?_ _ | with_reducible refine Ob.drew ?_ | with_reducible refine Ob.drewN ?_ _ | with_reducible refine Ob.no ?_ (by assumption))))))
  refine bodyPost_ret (v := .tuple #[.agg #[.slice none 0 0, .slice none 0 0], .agg #[.slice none 0 0, .slice none 0 0], .bool false]) (by simp [results, Try.results11, go_sem, q0, q1, r0, r1]) rfl ?_
  refine ⟨rfl, ?_⟩
  (repeat (first | with_reducible exact Fr.refl _ _ | with_reducible refine Fr.setCell ?_ (.inr (by first | (simp; done) | (simp; omega))) _ | with_reducible refine Fr.alloc ?_ _ | with_reducible refine Fr.drew ?_ | with_reducible refine Fr.drewN ?_ _ | with_reducible refine Fr.tr ?_ (by assumption)))
/-- Behind the first statement that makes a box: the box, and what was there. -/
structure H1 (w wx : World) (A B : Option Addr) (n cn cm : Nat) (lo hi : List Nat) (g a ca b cb : Nat) : Prop where
  arg : Ob wx w.heap.size #[.slice A n cn, .slice B n cm] 25
  r1 : Ob wx (w.heap.size + 1) #[.slice none 0 0, .slice none 0 0] 25
  r2 : Ob wx (w.heap.size + 1 + 1) #[.slice none 0 0, .slice none 0 0] 25
  bx : Bo 25 35 wx (w.heap.size + 1 + 1 + 1) g a ca b cb n lo hi
  fr : Fr No w wx
/-- Both boxes stand; B0 parts their blocks. -/
structure H2 (w wx : World) (B0 n : Nat) (lo hi lo2 hi2 : List Nat) (g a ca b cb k c cc d cd : Nat) : Prop where
  r1 : Ob wx (w.heap.size + 1) #[.slice none 0 0, .slice none 0 0] 25
  r2 : Ob wx (w.heap.size + 1 + 1) #[.slice none 0 0, .slice none 0 0] 25
  bx : Bo 25 35 wx (w.heap.size + 1 + 1 + 1) g a ca b cb n lo hi
  b2 : Bo 25 35 wx (w.heap.size + 1 + 1 + 1) k c cc d cd n lo2 hi2
  lt : a < B0 ∧ b < B0 ∧ g < B0 ∧ B0 ≤ k ∧ B0 ≤ c ∧ B0 ≤ d
  fr : Fr No w wx
theorem H2.set {w wx : World} {B0 n : Nat} {lo hi lo2 hi2 : List Nat} {g a ca b cb k c cc d cd : Nat} (h : H2 w wx B0 n lo hi lo2 hi2 g a ca b cb k c cc d cd) (j x y : Nat) :
    H2 w ((wx.setCell ⟨b, j, none⟩ (.int .u32 (x : Int))).setCell ⟨c, j, none⟩ (.int .u32 (y : Int))) B0 n lo (hi.set j x) (lo2.set j y) hi2 g a ca b cb k c cc d cd := by
  obtain ⟨l1, l2, l3, l4, l5, l6⟩ := h.lt
  obtain ⟨u1, u2, u3, u4, u5, u6⟩ := h.bx.blk
  obtain ⟨v1, v2, v3, v4, v5, v6⟩ := h.b2.blk
  refine ⟨(h.r1.other (p := ⟨b, j, none⟩) (by show ¬ _ = b; omega) _).other (p := ⟨c, j, none⟩) (by show ¬ _ = c; omega) _, (h.r2.other (p := ⟨b, j, none⟩) (by show ¬ _ = b; omega) _).other (p := ⟨c, j, none⟩) (by show ¬ _ = c; omega) _, ?_, ?_, h.lt, ?_⟩
  · exact (h.bx.setHi j x).other (p := ⟨c, j, none⟩) (by show ¬ g = c ∧ ¬ a = c ∧ ¬ b = c; omega) _
  · exact (h.b2.other (p := ⟨b, j, none⟩) (by show ¬ k = b ∧ ¬ c = b ∧ ¬ d = b; omega) _).setLo j y
  · exact (h.fr.setCell (p := ⟨b, j, none⟩) (.inr (by show w.heap.size ≤ b; omega)) _).setCell (p := ⟨c, j, none⟩) (.inr (by show w.heap.size ≤ c; omega)) _
theorem H2.drew {w wx : World} {B0 n : Nat} {lo hi lo2 hi2 : List Nat} {g a ca b cb k c cc d cd : Nat} (h : H2 w wx B0 n lo hi lo2 hi2 g a ca b cb k c cc d cd) : H2 w wx.drew B0 n lo hi lo2 hi2 g a ca b cb k c cc d cd := ⟨h.r1.drew, h.r2.drew, h.bx.drew, h.b2.drew, h.lt, h.fr.drew⟩
set_option maxHeartbeats 3200000 in
theorem halves_yes (j : Nat) (hl : Kv w A n cn lo) (hh : Kv w B n cm hi) (hb : wideB lo hi j = true) :
    Calls Try.prog 11 #[.agg #[.slice A n cn, .slice B n cm], .int .i64 (j : Int)] w fun e w' => ∃ a ca b cb c cc d cd, e = .returned (.tuple #[.agg #[.slice (some ⟨a, 0, none⟩) n ca, .slice (some ⟨b, 0, none⟩) n cb], .agg #[.slice (some ⟨c, 0, none⟩) n cc, .slice (some ⟨d, 0, none⟩) n cd], .bool true]) ∧
      w'.ownsRow w.heap.size 35 1 (.slice (some ⟨a, 0, none⟩) n ca) n (u32s lo) ∧ w'.ownsRow w.heap.size 35 1 (.slice (some ⟨b, 0, none⟩) n cb) n (u32s (hi.set j (midB lo hi j))) ∧
      w'.ownsRow w.heap.size 35 1 (.slice (some ⟨c, 0, none⟩) n cc) n (u32s (lo.set j (midB lo hi j + 1))) ∧ w'.ownsRow w.heap.size 35 1 (.slice (some ⟨d, 0, none⟩) n cd) n (u32s hi) ∧
      a ≠ b ∧ c ≠ d ∧ a ≠ d ∧ b ≠ c ∧ Fr No w w' := by
  have hw : hasB lo hi j = true ∧ lo.getD j 0 < hi.getD j 0 := by
    unfold wideB at hb
    rw [Bool.and_eq_true, decide_eq_true_eq, Int.toNat_natCast] at hb
    exact hb
  obtain ⟨p1, p2, p3, p4⟩ := has_parts hw.1
  have q1 : j < n := by have := hl.len; omega
  have q2 : n ≤ 6 := by have := hl.len; omega
  have q3 : n ≤ 1000000 := by omega
  have hm : midE lo hi j = midB lo hi j := by unfold midE; rw [hw.1, Int.toNat_natCast]; rfl
  have Hm := Lib.hid hm
  have Hb := Lib.hid hb
  have m1 : midB lo hi j + 1 < 4294967296 := by have := hh.ltD j; have := hw.2; unfold midB; omega
  clear hb hm hw p4
  generalize hmid : midB lo hi j = mid at *
  clear hmid
  go_enter Try.func11, Try.ntmps11
  go_wp2_with (go_at_call 30; ((with_reducible refine (middle_any (lo := lo) (hi := hi) _ ?_ ?_).mono ?_); (iterate 2 (repeat (first | with_reducible assumption | ((with_reducible refine Kv.lit_new _ _ _ _ _ _ ?_ ?_ ?_ ?_) <;> (first | (simp; done) | rfl | decide)) | with_reducible exact Kv.none_ _ | with_reducible refine Kv.alloc ?_ _ | with_reducible refine Kv.drew ?_ | with_reducible refine Kv.drewN ?_ _ | with_reducible refine Kv.no ?_ (by assumption)))); rintro e w1 ⟨rfl, hf1⟩; rw [Hb.out, Hm.out]; have hA : Ob w1 w.heap.size #[.slice A n cn, .slice B n cm] 25 := (by (repeat (first | with_reducible assumption | with_reducible refine Ob.other ?_ (by first | (simp; done) | (simp; omega)) _ | ((with_reducible refine Ob.new_ _ _ _ _ ?_) <;> (simp; done)) | with_reducible refine Ob.alloc ?_ _ | with_reducible refine Ob.drew ?_ | with_reducible refine Ob.drewN ?_ _ | with_reducible refine Ob.no ?_ (by assumption)))); have hR1 : Ob w1 (w.heap.size + 1) #[.slice none 0 0, .slice none 0 0] 25 := (by (repeat (first | with_reducible assumption | with_reducible refine Ob.other ?_ (by first | (simp; done) | (simp; omega)) _ | ((with_reducible refine Ob.new_ _ _ _ _ ?_) <;> (simp; done)) | with_reducible refine Ob.alloc ?_ _ | with_reducible refine Ob.drew ?_ | with_reducible refine Ob.drewN ?_ _ | with_reducible refine Ob.no ?_ (by assumption)))); have hR2 : Ob w1 (w.heap.size + 1 + 1) #[.slice none 0 0, .slice none 0 0] 25 := (by (repeat (first | with_reducible assumption | with_reducible refine Ob.other ?_ (by first | (simp; done) | (simp; omega)) _ | ((with_reducible refine Ob.new_ _ _ _ _ ?_) <;> (simp; done)) | with_reducible refine Ob.alloc ?_ _ | with_reducible refine Ob.drew ?_ | with_reducible refine Ob.drewN ?_ _ | with_reducible refine Ob.no ?_ (by assumption)))); have hl1 : Kv w1 A n cn lo := (by (repeat (first | with_reducible assumption | ((with_reducible refine Kv.lit_new _ _ _ _ _ _ ?_ ?_ ?_ ?_) <;> (first | (simp; done) | rfl | decide)) | with_reducible exact Kv.none_ _ | with_reducible refine Kv.alloc ?_ _ | with_reducible refine Kv.drew ?_ | with_reducible refine Kv.drewN ?_ _ | with_reducible refine Kv.no ?_ (by assumption)))); have hh1 : Kv w1 B n cm hi := (by (repeat (first | with_reducible assumption | ((with_reducible refine Kv.lit_new _ _ _ _ _ _ ?_ ?_ ?_ ?_) <;> (first | (simp; done) | rfl | decide)) | with_reducible exact Kv.none_ _ | with_reducible refine Kv.alloc ?_ _ | with_reducible refine Kv.drew ?_ | with_reducible refine Kv.drewN ?_ _ | with_reducible refine Kv.no ?_ (by assumption)))); have hF1 : Fr No w w1 := (by (repeat (first | with_reducible exact Fr.refl _ _ | with_reducible refine Fr.setCell ?_ (.inr (by first | (simp; done) | (simp; omega))) _ | with_reducible refine Fr.alloc ?_ _ | with_reducible refine Fr.drew ?_ | with_reducible refine Fr.drewN ?_ _ | with_reducible refine Fr.tr ?_ (by assumption))))))
  have hz1 := hF1.size
  have hz2 := hf1.size
  simp at hz2
  go_upto_region 5 with (fail)
  go_cut [9] (fun v wx => ∃ g a ca b cb, v = .pointer (some ⟨g, 0, none⟩) ∧ Hid (H1 w wx A B n cn cm lo hi g a ca b cb))
  case first =>
    go_region_held3 (fun w' => w'.cell? ⟨w.heap.size, 0, none⟩ = some (.slice A n cn) ∧ w'.cell? ⟨w.heap.size, 1, none⟩ = some (.slice B n cm))
      ((refine cells2 (t := 25) ?_; (repeat (first | with_reducible assumption | with_reducible refine Ob.other ?_ (by first | (simp; done) | (simp; omega)) _ | ((with_reducible refine Ob.new_ _ _ _ _ ?_) <;> (simp; done)) | with_reducible refine Ob.alloc ?_ _ | with_reducible refine Ob.drew ?_ | with_reducible refine Ob.drewN ?_ _ | with_reducible refine Ob.no ?_ (by assumption)))))
      (first
        | (go_at_call 31; ((with_reducible refine (clone_any (ks := lo) ?_ q3).mono ?_); (repeat (first | with_reducible assumption | ((with_reducible refine Kv.lit_new _ _ _ _ _ _ ?_ ?_ ?_ ?_) <;> (first | (simp; done) | rfl | decide)) | with_reducible exact Kv.none_ _ | with_reducible refine Kv.alloc ?_ _ | with_reducible refine Kv.drew ?_ | with_reducible refine Kv.drewN ?_ _ | with_reducible refine Kv.no ?_ (by assumption))); rintro e w2 ⟨A2, c2, rfl, ho2, hf2⟩; obtain ⟨a2, rfl, l2, k2⟩ := own_some ho2 (Nat.lt_of_le_of_lt (Nat.zero_le _) q1); have hp2 := own_base ho2 (show w.heap.size + 1 + 1 + 1 ≤ _ from (by first | omega | (simp; omega)))))
        | (go_at_call 31; ((with_reducible refine (clone_any (ks := hi) ?_ q3).mono ?_); (repeat (first | with_reducible assumption | ((with_reducible refine Kv.lit_new _ _ _ _ _ _ ?_ ?_ ?_ ?_) <;> (first | (simp; done) | rfl | decide)) | with_reducible exact Kv.none_ _ | with_reducible refine Kv.alloc ?_ _ | with_reducible refine Kv.drew ?_ | with_reducible refine Kv.drewN ?_ _ | with_reducible refine Kv.no ?_ (by assumption))); rintro e w3 ⟨A3, c3, rfl, ho3, hf3⟩; obtain ⟨a3, rfl, l3, k3⟩ := own_some ho3 (Nat.lt_of_le_of_lt (Nat.zero_le _) q1); have hz2 := hf2.size; (try simp at hz2); have hp3 := own_base ho3 (show w.heap.size + 1 + 1 + 1 ≤ _ from (by first | omega | (simp; omega))); have hz3 := hf3.size; (try simp at hz3); (try simp at l2); (try simp at l3); (try (refine use_ (a := Ob w3 w1.heap.size #[.slice none 0 0, .slice none 0 0] 25) ?_ (fun zz => ?_); (focus ((repeat (first | with_reducible assumption | with_reducible refine Ob.other ?_ (by first | (simp; done) | (simp; omega)) _ | ((with_reducible refine Ob.new_ _ _ _ _ ?_) <;> (simp; done)) | with_reducible refine Ob.alloc ?_ _ | with_reducible refine Ob.drew ?_ | with_reducible refine Ob.drewN ?_ _ | with_reducible refine Ob.no ?_ (by assumption))); done)); obtain ⟨z0, z1, z2, z3⟩ := Ob.four zz; clear zz)); (try (refine use_ (a := Ob w3 w2.heap.size #[.slice none 0 0, .slice none 0 0] 25) ?_ (fun zz => ?_); (focus ((repeat (first | with_reducible assumption | with_reducible refine Ob.other ?_ (by first | (simp; done) | (simp; omega)) _ | ((with_reducible refine Ob.new_ _ _ _ _ ?_) <;> (simp; done)) | with_reducible refine Ob.alloc ?_ _ | with_reducible refine Ob.drew ?_ | with_reducible refine Ob.drewN ?_ _ | with_reducible refine Ob.no ?_ (by assumption))); done)); obtain ⟨z0, z1, z2, z3⟩ := Ob.four zz; clear zz))))
        | fail)
    all_goals
      go_wp2_with fail
      go_meet
      refine ⟨_, a2, c2, a3, c3, rfl, Lib.hid ⟨?_, ?_, ?_, ⟨?_, ?_, ?_, ?_, ?_⟩, ?_⟩⟩
      all_goals try (first | ((with_reducible refine Ob.put2 (x := .slice none 0 0) (y := .slice none 0 0) ?_ _ _); (repeat (first | with_reducible assumption | with_reducible refine Ob.other ?_ (by first | (simp; done) | (simp; omega)) _ | ((with_reducible refine Ob.new_ _ _ _ _ ?_) <;> (simp; done)) | with_reducible refine Ob.alloc ?_ _ | with_reducible refine Ob.drew ?_ | with_reducible refine Ob.drewN ?_ _ | with_reducible refine Ob.no ?_ (by assumption))); done) | ((repeat (first | with_reducible assumption | with_reducible refine Ob.other ?_ (by first | (simp; done) | (simp; omega)) _ | ((with_reducible refine Ob.new_ _ _ _ _ ?_) <;> (simp; done)) | with_reducible refine Ob.alloc ?_ _ | with_reducible refine Ob.drew ?_ | with_reducible refine Ob.drewN ?_ _ | with_reducible refine Ob.no ?_ (by assumption))); done))
      all_goals try ((repeat (first | with_reducible assumption | with_reducible refine own_putb ?_ (by first | (simp; done) | (simp; omega)) _ | with_reducible refine World.ownsRow.alloc ?_ _ | with_reducible refine World.ownsRow.drew ?_ | with_reducible refine own_drewN ?_ _ | with_reducible refine own_no ?_ (by assumption))); done)
      all_goals try (first | omega | (refine ⟨?_, ?_, ?_⟩ <;> omega))
      all_goals try ((repeat (first | with_reducible exact Fr.refl _ _ | with_reducible refine Fr.setCell ?_ (.inr (by first | (simp; done) | (simp; omega))) _ | with_reducible refine Fr.alloc ?_ _ | with_reducible refine Fr.drew ?_ | with_reducible refine Fr.drewN ?_ _ | with_reducible refine Fr.tr ?_ (by assumption))); done)
  case rest =>
    clear hz1 hz2 hA hR1 hR2 hl1 hh1 hF1 hf1
    obtain ⟨g, a, ca, b, cb, rfl, H⟩ := hcut
    generalize wc = w1 at *
    have hA := H.out.arg
    have hR1 := H.out.r1
    have hR2 := H.out.r2
    have hl1 := hl.no H.out.fr
    have hh1 := hh.no H.out.fr
    have hF1 := H.out.fr
    have hB := H.out.bx
    obtain ⟨u1, u2, u3, u4, u5, u6⟩ := H.out.bx.blk
    have hz1 := hF1.size
    go_upto_region 6 with (fail)
    go_cut [10] (fun v wx => ∃ k c cc d cd, v = .pointer (some ⟨k, 0, none⟩) ∧ Hid (H2 w wx w1.heap.size n lo hi lo hi g a ca b cb k c cc d cd))
    case first =>
      go_region_held3 (fun w' => w'.cell? ⟨w.heap.size, 0, none⟩ = some (.slice A n cn) ∧ w'.cell? ⟨w.heap.size, 1, none⟩ = some (.slice B n cm))
        ((refine cells2 (t := 25) ?_; (repeat (first | with_reducible assumption | with_reducible refine Ob.other ?_ (by first | (simp; done) | (simp; omega)) _ | ((with_reducible refine Ob.new_ _ _ _ _ ?_) <;> (simp; done)) | with_reducible refine Ob.alloc ?_ _ | with_reducible refine Ob.drew ?_ | with_reducible refine Ob.drewN ?_ _ | with_reducible refine Ob.no ?_ (by assumption)))))
        (first
          | (go_at_call 31; ((with_reducible refine (clone_any (ks := lo) ?_ q3).mono ?_); (repeat (first | with_reducible assumption | ((with_reducible refine Kv.lit_new _ _ _ _ _ _ ?_ ?_ ?_ ?_) <;> (first | (simp; done) | rfl | decide)) | with_reducible exact Kv.none_ _ | with_reducible refine Kv.alloc ?_ _ | with_reducible refine Kv.drew ?_ | with_reducible refine Kv.drewN ?_ _ | with_reducible refine Kv.no ?_ (by assumption))); rintro e w2 ⟨A2, c2, rfl, ho2, hf2⟩; obtain ⟨a2, rfl, l2, k2⟩ := own_some ho2 (Nat.lt_of_le_of_lt (Nat.zero_le _) q1); have hp2 := own_base ho2 (show w.heap.size + 1 + 1 + 1 ≤ _ from (by first | omega | (simp; omega)))))
          | (go_at_call 31; ((with_reducible refine (clone_any (ks := hi) ?_ q3).mono ?_); (repeat (first | with_reducible assumption | ((with_reducible refine Kv.lit_new _ _ _ _ _ _ ?_ ?_ ?_ ?_) <;> (first | (simp; done) | rfl | decide)) | with_reducible exact Kv.none_ _ | with_reducible refine Kv.alloc ?_ _ | with_reducible refine Kv.drew ?_ | with_reducible refine Kv.drewN ?_ _ | with_reducible refine Kv.no ?_ (by assumption))); rintro e w3 ⟨A3, c3, rfl, ho3, hf3⟩; obtain ⟨a3, rfl, l3, k3⟩ := own_some ho3 (Nat.lt_of_le_of_lt (Nat.zero_le _) q1); have hz2 := hf2.size; (try simp at hz2); have hp3 := own_base ho3 (show w.heap.size + 1 + 1 + 1 ≤ _ from (by first | omega | (simp; omega))); have hz3 := hf3.size; (try simp at hz3); (try simp at l2); (try simp at l3); (try (refine use_ (a := Ob w3 w1.heap.size #[.slice none 0 0, .slice none 0 0] 25) ?_ (fun zz => ?_); (focus ((repeat (first | with_reducible assumption | with_reducible refine Ob.other ?_ (by first | (simp; done) | (simp; omega)) _ | ((with_reducible refine Ob.new_ _ _ _ _ ?_) <;> (simp; done)) | with_reducible refine Ob.alloc ?_ _ | with_reducible refine Ob.drew ?_ | with_reducible refine Ob.drewN ?_ _ | with_reducible refine Ob.no ?_ (by assumption))); done)); obtain ⟨z0, z1, z2, z3⟩ := Ob.four zz; clear zz)); (try (refine use_ (a := Ob w3 w2.heap.size #[.slice none 0 0, .slice none 0 0] 25) ?_ (fun zz => ?_); (focus ((repeat (first | with_reducible assumption | with_reducible refine Ob.other ?_ (by first | (simp; done) | (simp; omega)) _ | ((with_reducible refine Ob.new_ _ _ _ _ ?_) <;> (simp; done)) | with_reducible refine Ob.alloc ?_ _ | with_reducible refine Ob.drew ?_ | with_reducible refine Ob.drewN ?_ _ | with_reducible refine Ob.no ?_ (by assumption))); done)); obtain ⟨z0, z1, z2, z3⟩ := Ob.four zz; clear zz))))
          | fail)
      all_goals
        go_wp2_with fail
        go_meet
        refine ⟨_, a2, c2, a3, c3, rfl, Lib.hid ⟨?_, ?_, ?_, ⟨?_, ?_, ?_, ?_, ?_⟩, ?_, ?_⟩⟩
        all_goals try (first | ((with_reducible refine Ob.put2 (x := .slice none 0 0) (y := .slice none 0 0) ?_ _ _); (repeat (first | with_reducible assumption | with_reducible refine Ob.other ?_ (by first | (simp; done) | (simp; omega)) _ | ((with_reducible refine Ob.new_ _ _ _ _ ?_) <;> (simp; done)) | with_reducible refine Ob.alloc ?_ _ | with_reducible refine Ob.drew ?_ | with_reducible refine Ob.drewN ?_ _ | with_reducible refine Ob.no ?_ (by assumption))); done) | ((repeat (first | with_reducible assumption | with_reducible refine Ob.other ?_ (by first | (simp; done) | (simp; omega)) _ | ((with_reducible refine Ob.new_ _ _ _ _ ?_) <;> (simp; done)) | with_reducible refine Ob.alloc ?_ _ | with_reducible refine Ob.drew ?_ | with_reducible refine Ob.drewN ?_ _ | with_reducible refine Ob.no ?_ (by assumption))); done))
        all_goals try ((repeat (first | with_reducible assumption | with_reducible refine own_putb ?_ (by first | (simp; done) | (simp; omega)) _ | with_reducible refine World.ownsRow.alloc ?_ _ | with_reducible refine World.ownsRow.drew ?_ | with_reducible refine own_drewN ?_ _ | with_reducible refine own_no ?_ (by assumption))); done)
        all_goals try (first | omega | (refine ⟨?_, ?_, ?_⟩ <;> omega))
        all_goals try ((repeat (first | with_reducible exact Fr.refl _ _ | with_reducible refine Fr.setCell ?_ (.inr (by first | (simp; done) | (simp; omega))) _ | with_reducible refine Fr.alloc ?_ _ | with_reducible refine Fr.drew ?_ | with_reducible refine Fr.drewN ?_ _ | with_reducible refine Fr.tr ?_ (by assumption))); done)
        all_goals try (repeat (first | with_reducible assumption | with_reducible refine Bo.alloc ?_ _ | with_reducible refine Bo.drew ?_ | with_reducible refine Bo.other ?_ (by simp; omega) _ | with_reducible refine Bo.no ?_ (by assumption)))
    case rest =>
      clear hz1 hA hR1 hR2 hl1 hh1 hF1 hB
      obtain ⟨k, c, cc, d, cd, rfl, H2⟩ := hcut
      generalize w1.heap.size = B0 at *
      clear H u1 u2 u3 u4 u5 u6
      generalize wc = w2 at *
      obtain ⟨x0, x1, x2, x3, x4, x5⟩ := H2.out.bx.eyes q1
      obtain ⟨y0, y1, y2, y3, y4, y5⟩ := H2.out.b2.eyes q1
      have hcap := H2.out.bx.ob
      have k1 : n ≤ cb := by
        rcases H2.out.bx.hi.2 with ⟨h, _⟩ | ⟨_, _, _, h, _, _, h2, _⟩
        · cases h
        · injection h with _ _ h; omega
      have k2 : n ≤ cc := by
        rcases H2.out.b2.lo.2 with ⟨h, _⟩ | ⟨_, _, _, h, _, _, h2, _⟩
        · cases h
        · injection h with _ _ h; omega
      obtain ⟨l1, l2, l3, l4, l5, l6⟩ := H2.out.lt
      have nbc : b ≠ c := by omega
      have ngb : g ≠ b := H2.out.bx.ne.2.2
      have ngc : g ≠ c := by omega
      have nkb : k ≠ b := by omega
      have nkc : k ≠ c := H2.out.b2.ne.2.1
      have hwr : IntKind.u32.wrap ((mid : Int) + 1) = ((mid + 1 : Nat) : Int) := (Go.IntWalk.u32_in _ (by omega)).trans (by omega)
      go_upto_region 7 with (fail)
      go_cut [] (fun wx => Hid (Ha16.H2 w wx B0 n lo (hi.set j mid) (lo.set j (mid + 1)) hi g a ca b cb k c cc d cd))
      case first =>
        go_region_held3 (fun w' => w'.cell? ⟨g, 1, none⟩ = some (.slice (some ⟨b, 0, none⟩) n cb) ∧ w'.cell? ⟨k, 0, none⟩ = some (.slice (some ⟨c, 0, none⟩) n cc))
          (first | exact ⟨x1, y0⟩ | exact ⟨cel_set x1 ngb _, cel_set y0 nkb _⟩ | exact ⟨cel_set (cel_set x1 ngb _) ngc _, cel_set (cel_set y0 nkb _) nkc _⟩ | fail) (fail)
        all_goals
          go_wp2_with fail
          go_meet
          exact Lib.hid (H2.out.set j mid (mid + 1)).drew
      case rest =>
        clear x0 x1 x2 x3 x4 x5 y0 y1 y2 y3 y4 y5 hcap k1 k2 nbc ngb ngc nkb nkc H2 hwr

        have H3 := Lib.hid hcut.out
        clear hcut
        generalize wc = w3 at *
        obtain ⟨x0, x1⟩ := cells2 H3.out.bx.ob
        obtain ⟨y0, y1⟩ := cells2 H3.out.b2.ob
        obtain ⟨z0, z1, z2, z3⟩ := Ob.four H3.out.r1
        obtain ⟨v0, v1, v2, v3⟩ := Ob.four H3.out.r2
        obtain ⟨u1, u2, u3, u4, u5, u6⟩ := H3.out.bx.blk
        obtain ⟨t1, t2, t3, t4, t5, t6⟩ := H3.out.b2.blk
        go_wp2_with fail
        go_region_held3 (fun w' => w'.cell? ⟨g, 0, none⟩ = some (.slice (some ⟨a, 0, none⟩) n ca) ∧ w'.cell? ⟨g, 1, none⟩ = some (.slice (some ⟨b, 0, none⟩) n cb) ∧ w'.cell? ⟨k, 0, none⟩ = some (.slice (some ⟨c, 0, none⟩) n cc) ∧ w'.cell? ⟨k, 1, none⟩ = some (.slice (some ⟨d, 0, none⟩) n cd))
          (refine ⟨?_, ?_, ?_, ?_⟩ <;> (repeat (first | with_reducible assumption | with_reducible refine cel_alloc ?_ _ | with_reducible refine cel_drew ?_ | with_reducible refine cel_drewN ?_ _ | with_reducible refine cel_set ?_ (by first | (simp; done) | (simp; omega)) _ | with_reducible refine cel_no ?_ (by assumption)))) (fail)
        have P1 : Ob ((((w3.setCell ⟨w.heap.size + 1, 0, none⟩ (.slice (some ⟨a, 0, none⟩) n ca)).setCell ⟨w.heap.size + 1, 1, none⟩ (.slice (some ⟨b, 0, none⟩) n cb)).setCell ⟨w.heap.size + 1 + 1, 0, none⟩ (.slice (some ⟨c, 0, none⟩) n cc)).setCell ⟨w.heap.size + 1 + 1, 1, none⟩ (.slice (some ⟨d, 0, none⟩) n cd)) (w.heap.size + 1) #[.slice (some ⟨a, 0, none⟩) n ca, .slice (some ⟨b, 0, none⟩) n cb] 25 := ((Ob.put2 H3.out.r1 _ _).other (p := ⟨w.heap.size + 1 + 1, 0, none⟩) (by simp) _).other (p := ⟨w.heap.size + 1 + 1, 1, none⟩) (by simp) _
        have P2 : Ob ((((w3.setCell ⟨w.heap.size + 1, 0, none⟩ (.slice (some ⟨a, 0, none⟩) n ca)).setCell ⟨w.heap.size + 1, 1, none⟩ (.slice (some ⟨b, 0, none⟩) n cb)).setCell ⟨w.heap.size + 1 + 1, 0, none⟩ (.slice (some ⟨c, 0, none⟩) n cc)).setCell ⟨w.heap.size + 1 + 1, 1, none⟩ (.slice (some ⟨d, 0, none⟩) n cd)) (w.heap.size + 1 + 1) #[.slice (some ⟨c, 0, none⟩) n cc, .slice (some ⟨d, 0, none⟩) n cd] 25 := Ob.put2 ((H3.out.r2.other (p := ⟨w.heap.size + 1, 0, none⟩) (by simp) _).other (p := ⟨w.heap.size + 1, 1, none⟩) (by simp) _) _ _
        obtain ⟨r0, r1⟩ := cells2 P1
        obtain ⟨r2, r3⟩ := cells2 P2
        go_wp2
        refine bodyPost_ret (v := .tuple #[.agg #[.slice (some ⟨a, 0, none⟩) n ca, .slice (some ⟨b, 0, none⟩) n cb], .agg #[.slice (some ⟨c, 0, none⟩) n cc, .slice (some ⟨d, 0, none⟩) n cd], .bool true]) (by simp [results, Try.results11, go_sem, r0, r1, r2, r3]) rfl ?_
        obtain ⟨l1, l2, l3, l4, l5, l6⟩ := H3.out.lt
        have o1 := H3.out.bx.lo
        have o2 := H3.out.bx.hi
        have o3 := H3.out.b2.lo
        have o4 := H3.out.b2.hi
        have F := H3.out.fr
        refine ⟨a, ca, b, cb, c, cc, d, cd, rfl, ?_, ?_, ?_, ?_, H3.out.bx.ne.1, H3.out.b2.ne.1, by omega, by omega, ?_⟩
        · refine own_base (base := w.heap.size + 1 + 1 + 1) ?_ (by omega)
          (repeat (first | with_reducible assumption | with_reducible refine own_putb ?_ (by first | (simp; done) | (simp; omega)) _ | with_reducible refine World.ownsRow.alloc ?_ _ | with_reducible refine World.ownsRow.drew ?_ | with_reducible refine own_drewN ?_ _ | with_reducible refine own_no ?_ (by assumption)))
        · refine own_base (base := w.heap.size + 1 + 1 + 1) ?_ (by omega)
          (repeat (first | with_reducible assumption | with_reducible refine own_putb ?_ (by first | (simp; done) | (simp; omega)) _ | with_reducible refine World.ownsRow.alloc ?_ _ | with_reducible refine World.ownsRow.drew ?_ | with_reducible refine own_drewN ?_ _ | with_reducible refine own_no ?_ (by assumption)))
        · refine own_base (base := w.heap.size + 1 + 1 + 1) ?_ (by omega)
          (repeat (first | with_reducible assumption | with_reducible refine own_putb ?_ (by first | (simp; done) | (simp; omega)) _ | with_reducible refine World.ownsRow.alloc ?_ _ | with_reducible refine World.ownsRow.drew ?_ | with_reducible refine own_drewN ?_ _ | with_reducible refine own_no ?_ (by assumption)))
        · refine own_base (base := w.heap.size + 1 + 1 + 1) ?_ (by omega)
          (repeat (first | with_reducible assumption | with_reducible refine own_putb ?_ (by first | (simp; done) | (simp; omega)) _ | with_reducible refine World.ownsRow.alloc ?_ _ | with_reducible refine World.ownsRow.drew ?_ | with_reducible refine own_drewN ?_ _ | with_reducible refine own_no ?_ (by assumption)))
        · (repeat (first | with_reducible exact Fr.refl _ _ | with_reducible refine Fr.setCell ?_ (.inr (by first | (simp; done) | (simp; omega))) _ | with_reducible refine Fr.alloc ?_ _ | with_reducible refine Fr.drew ?_ | with_reducible refine Fr.drewN ?_ _ | with_reducible refine Fr.tr ?_ (by assumption)))
end
end Go.Proofs.Ytbncakbgljhnkaa.Ha16
/- Layer 11: a box's halves, the document's. -/
namespace Go.Proofs.Ytbncakbgljhnkaa.Hb16
open Go.RowKit Go.Proofs.Ytbncakbgljhnkaa.Pk08 Go.Proofs.Ytbncakbgljhnkaa.Base Go.Proofs.Ytbncakbgljhnkaa.App Go.Proofs.Ytbncakbgljhnkaa.Str Go.Proofs.Ytbncakbgljhnkaa.Ky Go.Proofs.Ytbncakbgljhnkaa.Bx Go.Proofs.Ytbncakbgljhnkaa.Kk Go.Proofs.Ytbncakbgljhnkaa.Bo Go.Proofs.Ytbncakbgljhnkaa.As Go.Proofs.Ytbncakbgljhnkaa.Cl Go.Proofs.Ytbncakbgljhnkaa.Pl08 Go.Proofs.Ytbncakbgljhnkaa.Kc08 Go.Proofs.Ytbncakbgljhnkaa.Kh08 Go.Proofs.Ytbncakbgljhnkaa.Ki08 Go.Proofs.Ytbncakbgljhnkaa.Px16 Go.Proofs.Ytbncakbgljhnkaa.Ha16
set_option linter.unusedVariables false
set_option linter.unusedSimpArgs false
attribute [local go_sem ↓ high] builtin_app
section
variable {w : World} {A B : Option Addr} {n cn m cm : Nat} {lo hi : List Nat}
theorem rcopy_any {c : Nat} {ks : List Nat} (hk : Kv w A n c ks) (hn : n ≤ 1000000) :
    Calls Try.prog 32 #[.slice A n c] w fun e w' => ∃ A1 c1, e = .returned (.slice A1 n c1) ∧ w'.ownsRow w.heap.size 35 1 (.slice A1 n c1) n (u32s ks) ∧ Fr No w w' := by
  have hl := hk.len
  have hmx : (1000000 : Nat) * 4 ≤ 140737488355328 := by decide
  obtain ⟨A1, c1, w1, hrun, hown, hgr, hat⟩ := app_eq (P := Try.prog) (w := w) w.heap.size 23 35 (.int .u32 0) 1 4 Try.underlying23 info_u32 rfl (by decide) (by decide) (World.ownsRow_nil _ _ _ _) A n c (u32s ks) (by rw [u32s_len]; omega) hk.rc (u32s_one ks) (by omega) (Nat.le_refl _)
  have hf : Fr No w w1 := (Fr.refl No w).grown hgr (fun k hk => by simp [Value.ownBlock] at hk)
  rw [Nat.zero_add] at hrun hown
  have Hown := Lib.hid hown
  have Hf := Lib.hid hf
  clear hown hgr hat hf hk hl
  go_enter Try.func32, Try.ntmps32
  go_wp2
  go_ret
  exact ⟨A1, c1, rfl, Hown.out, Hf.out⟩
set_option maxHeartbeats 1600000 in
theorem rhalves_out (i : Int) (hl : Kv w A n cn lo) (hh : Kv w B m cm hi) (hb : hasB lo hi i = false) :
    Calls Try.prog 12 #[.agg #[.slice A n cn, .slice B m cm], .int .i64 i] w fun e w' => e = .returned (.tuple #[.agg #[.slice none 0 0, .slice none 0 0], .agg #[.slice none 0 0, .slice none 0 0], .bool false]) ∧ Fr No w w' := by
  have hlen := hl.len
  have hc : chkB lo hi n = 1 ∨ (chkB lo hi n = 0 ∧ i < 0) ∨ (chkB lo hi n = 0 ∧ 0 ≤ i ∧ (n : Int) ≤ i) := by
    by_cases h0 : chkB lo hi n = 0
    · by_cases h1 : i < 0
      · exact .inr (.inl ⟨h0, h1⟩)
      · refine .inr (.inr ⟨h0, by omega, ?_⟩)
        rw [hlen] at h0
        unfold hasB at hb
        have := of_decide_eq_false hb
        have h2 : ¬ i < lo.length := fun x => this ⟨by omega, x, h0⟩
        omega
    · exact .inl (Go.Proofs.Ytbncakbgljhnkaa.Kj08.chkB_one h0)
  clear hlen hb
  rcases hc with h0 | ⟨h0, h1⟩ | ⟨h0, h1, h2⟩
  · have H0 := Lib.hid h0
    clear h0
    go_enter Try.func12, Try.ntmps12
    go_wp2
    (refine wp_region_held_drew (S := fun w' => w'.cell? ⟨w.heap.size, 0, none⟩ = some (.slice A n cn) ∧ w'.cell? ⟨w.heap.size, 1, none⟩ = some (.slice B m cm)) (by kernel_rfl) ?_ (fun hHeld => ?_); focus ((try dsimp only); (refine cells2 (t := 25) ?_; (repeat (first | with_reducible assumption | with_reducible refine Ob.other ?_ (by first | (simp; done) | (simp; omega)) _ | ((with_reducible refine Ob.new_ _ _ _ _ ?_) <;> (simp; done)) | with_reducible refine Ob.alloc ?_ _ | with_reducible refine Ob.drew ?_ | with_reducible refine Ob.drewN ?_ _ | with_reducible refine Ob.no ?_ (by assumption)))); done))
    ((refine wpAnyH_take (i := 0) (v := ?_) rfl (by kernel_rfl) (by kernel_rfl) (by kernel_rfl) (fun _ _ _ h => h) (Or.inl ⟨by rfl, ?_⟩) (by assumption) ?_; rotate_left; focus (intro w hSw; (try dsimp only at hSw); go_simp; (try with_reducible rfl); done)); (try simp only [Act.put, List.setIfInBounds_toArray, List.set_cons_zero, List.set_cons_succ, List.getElem_toArray, List.getElem_cons_zero, List.getElem_cons_succ]); (refine wpAnyH_take (i := 1) (v := ?_) rfl (by kernel_rfl) (by kernel_rfl) (by kernel_rfl) (fun _ _ _ h => h) (Or.inl ⟨by rfl, ?_⟩) (by assumption) ?_; rotate_left; focus (intro w hSw; (try dsimp only at hSw); go_simp; (try with_reducible rfl); done)); (try simp only [Act.put, List.setIfInBounds_toArray, List.set_cons_zero, List.set_cons_succ, List.getElem_toArray, List.getElem_cons_zero, List.getElem_cons_succ]); (refine wpAnyH_take (i := 2) (v := ?_) rfl (by kernel_rfl) (by kernel_rfl) (by kernel_rfl) (fun _ _ _ h => h) (Or.inl ⟨by rfl, ?_⟩) (by assumption) ?_; rotate_left; focus (intro w hSw; (try dsimp only at hSw); go_simp; (try with_reducible rfl); done)); (try simp only [Act.put, List.setIfInBounds_toArray, List.set_cons_zero, List.set_cons_succ, List.getElem_toArray, List.getElem_cons_zero, List.getElem_cons_succ]); (refine wpAnyH_take (i := 3) (v := ?_) rfl (by kernel_rfl) (by kernel_rfl) (by kernel_rfl) (fun _ _ _ h => h) (Or.inl ⟨by rfl, ?_⟩) (by assumption) ?_; rotate_left; focus (intro w hSw; (try dsimp only at hSw); go_simp; (try with_reducible rfl); done)); (try simp only [Act.put, List.setIfInBounds_toArray, List.set_cons_zero, List.set_cons_succ, List.getElem_toArray, List.getElem_cons_zero, List.getElem_cons_succ]))
    (refine wpAnyH_ready (rs := [4]) (by kernel_rfl) (by simp) ?_; refine AllReadyH.cons rfl (fun K hK => ?_) AllReadyH.nil; go_simp; (go_at_call 25; ((with_reducible refine (rcheckBox_any (lo := lo) (hi := hi) _ ?_ ?_).mono ?_); (iterate 2 (repeat (first | with_reducible assumption | ((with_reducible refine Kv.lit_new _ _ _ _ _ _ ?_ ?_ ?_ ?_) <;> (first | (simp; done) | rfl | decide)) | with_reducible exact Kv.none_ _ | with_reducible refine Kv.alloc ?_ _ | with_reducible refine Kv.drew ?_ | with_reducible refine Kv.drewN ?_ _ | with_reducible refine Kv.no ?_ (by assumption)))); rintro e w1 ⟨rfl, hf1⟩; rw [H0.out]; obtain ⟨q0, q1, q2, q3⟩ := Ob.four (show Ob w1 (w.heap.size + 1) #[.slice none 0 0, .slice none 0 0] 25 by (repeat (first | with_reducible assumption | with_reducible refine Ob.other ?_ (by first | (simp; done) | (simp; omega)) _ | ((with_reducible refine Ob.new_ _ _ _ _ ?_) <;> (simp; done)) | with_reducible refine Ob.alloc ?_ _ | with_reducible refine Ob.drew ?_ | with_reducible refine Ob.drewN ?_ _ | with_reducible refine Ob.no ?_ (by assumption)))); obtain ⟨r0, r1, r2, r3⟩ := Ob.four (show Ob w1 (w.heap.size + 1 + 1) #[.slice none 0 0, .slice none 0 0] 25 by (repeat (first | with_reducible assumption | with_reducible refine Ob.other ?_ (by first | (simp; done) | (simp; omega)) _ | ((with_reducible refine Ob.new_ _ _ _ _ ?_) <;> (simp; done)) | with_reducible refine Ob.alloc ?_ _ | with_reducible refine Ob.drew ?_ | with_reducible refine Ob.drewN ?_ _ | with_reducible refine Ob.no ?_ (by assumption)))))); (try go_wp2_with fail); refine hK.out _ _ ?_ (fun hHeld => ?_); focus ((try dsimp only); (refine cells2 (t := 25) ?_; (repeat (first | with_reducible assumption | with_reducible refine Ob.other ?_ (by first | (simp; done) | (simp; omega)) _ | ((with_reducible refine Ob.new_ _ _ _ _ ?_) <;> (simp; done)) | with_reducible refine Ob.alloc ?_ _ | with_reducible refine Ob.drew ?_ | with_reducible refine Ob.drewN ?_ _ | with_reducible refine Ob.no ?_ (by assumption)))); done)); (clear hK K); (try simp only [Act.put, List.setIfInBounds_toArray, List.set_cons_zero, List.set_cons_succ, List.getElem_toArray, List.getElem_cons_zero, List.getElem_cons_succ])
    ((refine wpAnyH_take (i := 5) (v := ?_) rfl (by kernel_rfl) (by kernel_rfl) (by kernel_rfl) (fun _ _ _ h => h) (Or.inl ⟨by rfl, ?_⟩) (by assumption) ?_; rotate_left; focus (intro w hSw; (try dsimp only at hSw); go_simp; (try with_reducible rfl); done)); (try simp only [Act.put, List.setIfInBounds_toArray, List.set_cons_zero, List.set_cons_succ, List.getElem_toArray, List.getElem_cons_zero, List.getElem_cons_succ]); (refine wpAnyH_take (i := 6) (v := ?_) rfl (by kernel_rfl) (by kernel_rfl) (by kernel_rfl) (fun _ _ _ h => h) (Or.inl ⟨by rfl, ?_⟩) (by assumption) ?_; rotate_left; focus (intro w hSw; (try dsimp only at hSw); go_simp; (try with_reducible rfl); done)); (try simp only [Act.put, List.setIfInBounds_toArray, List.set_cons_zero, List.set_cons_succ, List.getElem_toArray, List.getElem_cons_zero, List.getElem_cons_succ]))
    ((refine wpAnyH_take (i := 7) (v := undef) rfl (by kernel_rfl) (by kernel_rfl) (by kernel_rfl) (fun _ _ _ h => h) (Or.inr ⟨by rfl, rfl⟩) (by assumption) ?_); (try simp only [Act.put, List.setIfInBounds_toArray, List.set_cons_zero, List.set_cons_succ, List.getElem_toArray, List.getElem_cons_zero, List.getElem_cons_succ]); (refine wpAnyH_take (i := 8) (v := undef) rfl (by kernel_rfl) (by kernel_rfl) (by kernel_rfl) (fun _ _ _ h => h) (Or.inr ⟨by rfl, rfl⟩) (by assumption) ?_); (try simp only [Act.put, List.setIfInBounds_toArray, List.set_cons_zero, List.set_cons_succ, List.getElem_toArray, List.getElem_cons_zero, List.getElem_cons_succ]))
    ((refine wpAnyH_take (i := 9) (v := ?_) rfl (by kernel_rfl) (by kernel_rfl) (by kernel_rfl) (fun _ _ _ h => h) (Or.inl ⟨by rfl, ?_⟩) (by assumption) ?_; rotate_left; focus (intro w hSw; (try dsimp only at hSw); go_simp; (try with_reducible rfl); done)); (try simp only [Act.put, List.setIfInBounds_toArray, List.set_cons_zero, List.set_cons_succ, List.getElem_toArray, List.getElem_cons_zero, List.getElem_cons_succ]); (refine wpAnyH_take (i := 10) (v := ?_) rfl (by kernel_rfl) (by kernel_rfl) (by kernel_rfl) (fun _ _ _ h => h) (Or.inl ⟨by rfl, ?_⟩) (by assumption) ?_; rotate_left; focus (intro w hSw; (try dsimp only at hSw); go_simp; (try with_reducible rfl); done)); (try simp only [Act.put, List.setIfInBounds_toArray, List.set_cons_zero, List.set_cons_succ, List.getElem_toArray, List.getElem_cons_zero, List.getElem_cons_succ]))
    ((refine wpAnyH_take (i := 11) (v := undef) rfl (by kernel_rfl) (by kernel_rfl) (by kernel_rfl) (fun _ _ _ h => h) (Or.inr ⟨by rfl, rfl⟩) (by assumption) ?_); (try simp only [Act.put, List.setIfInBounds_toArray, List.set_cons_zero, List.set_cons_succ, List.getElem_toArray, List.getElem_cons_zero, List.getElem_cons_succ]); (refine wpAnyH_take (i := 12) (v := undef) rfl (by kernel_rfl) (by kernel_rfl) (by kernel_rfl) (fun _ _ _ h => h) (Or.inr ⟨by rfl, rfl⟩) (by assumption) ?_); (try simp only [Act.put, List.setIfInBounds_toArray, List.set_cons_zero, List.set_cons_succ, List.getElem_toArray, List.getElem_cons_zero, List.getElem_cons_succ]); (refine wpAnyH_take (i := 13) (v := undef) rfl (by kernel_rfl) (by kernel_rfl) (by kernel_rfl) (fun _ _ _ h => h) (Or.inr ⟨by rfl, rfl⟩) (by assumption) ?_); (try simp only [Act.put, List.setIfInBounds_toArray, List.set_cons_zero, List.set_cons_succ, List.getElem_toArray, List.getElem_cons_zero, List.getElem_cons_succ]); (refine wpAnyH_take (i := 14) (v := undef) rfl (by kernel_rfl) (by kernel_rfl) (by kernel_rfl) (fun _ _ _ h => h) (Or.inr ⟨by rfl, rfl⟩) (by assumption) ?_); (try simp only [Act.put, List.setIfInBounds_toArray, List.set_cons_zero, List.set_cons_succ, List.getElem_toArray, List.getElem_cons_zero, List.getElem_cons_succ]); (refine wpAnyH_take (i := 15) (v := undef) rfl (by kernel_rfl) (by kernel_rfl) (by kernel_rfl) (fun _ _ _ h => h) (Or.inr ⟨by rfl, rfl⟩) (by assumption) ?_); (try simp only [Act.put, List.setIfInBounds_toArray, List.set_cons_zero, List.set_cons_succ, List.getElem_toArray, List.getElem_cons_zero, List.getElem_cons_succ]))
    ((refine wpAnyH_take (i := 16) (v := ?_) rfl (by kernel_rfl) (by kernel_rfl) (by kernel_rfl) (fun _ _ _ h => h) (Or.inl ⟨by rfl, ?_⟩) (by assumption) ?_; rotate_left; focus (intro w hSw; (try dsimp only at hSw); go_simp; (try with_reducible rfl); done)); (try simp only [Act.put, List.setIfInBounds_toArray, List.set_cons_zero, List.set_cons_succ, List.getElem_toArray, List.getElem_cons_zero, List.getElem_cons_succ]); (refine wpAnyH_take (i := 17) (v := ?_) rfl (by kernel_rfl) (by kernel_rfl) (by kernel_rfl) (fun _ _ _ h => h) (Or.inl ⟨by rfl, ?_⟩) (by assumption) ?_; rotate_left; focus (intro w hSw; (try dsimp only at hSw); go_simp; (try with_reducible rfl); done)); (try simp only [Act.put, List.setIfInBounds_toArray, List.set_cons_zero, List.set_cons_succ, List.getElem_toArray, List.getElem_cons_zero, List.getElem_cons_succ]))
    ((refine wpAnyH_take (i := 18) (v := undef) rfl (by kernel_rfl) (by kernel_rfl) (by kernel_rfl) (fun _ _ _ h => h) (Or.inr ⟨by rfl, rfl⟩) (by assumption) ?_); (try simp only [Act.put, List.setIfInBounds_toArray, List.set_cons_zero, List.set_cons_succ, List.getElem_toArray, List.getElem_cons_zero, List.getElem_cons_succ]); (refine wpAnyH_take (i := 19) (v := undef) rfl (by kernel_rfl) (by kernel_rfl) (by kernel_rfl) (fun _ _ _ h => h) (Or.inr ⟨by rfl, rfl⟩) (by assumption) ?_); (try simp only [Act.put, List.setIfInBounds_toArray, List.set_cons_zero, List.set_cons_succ, List.getElem_toArray, List.getElem_cons_zero, List.getElem_cons_succ]); (refine wpAnyH_take (i := 20) (v := undef) rfl (by kernel_rfl) (by kernel_rfl) (by kernel_rfl) (fun _ _ _ h => h) (Or.inr ⟨by rfl, rfl⟩) (by assumption) ?_); (try simp only [Act.put, List.setIfInBounds_toArray, List.set_cons_zero, List.set_cons_succ, List.getElem_toArray, List.getElem_cons_zero, List.getElem_cons_succ]); (refine wpAnyH_take (i := 21) (v := undef) rfl (by kernel_rfl) (by kernel_rfl) (by kernel_rfl) (fun _ _ _ h => h) (Or.inr ⟨by rfl, rfl⟩) (by assumption) ?_); (try simp only [Act.put, List.setIfInBounds_toArray, List.set_cons_zero, List.set_cons_succ, List.getElem_toArray, List.getElem_cons_zero, List.getElem_cons_succ]); (refine wpAnyH_take (i := 22) (v := undef) rfl (by kernel_rfl) (by kernel_rfl) (by kernel_rfl) (fun _ _ _ h => h) (Or.inr ⟨by rfl, rfl⟩) (by assumption) ?_); (try simp only [Act.put, List.setIfInBounds_toArray, List.set_cons_zero, List.set_cons_succ, List.getElem_toArray, List.getElem_cons_zero, List.getElem_cons_succ]); (refine wpAnyH_take (i := 23) (v := undef) rfl (by kernel_rfl) (by kernel_rfl) (by kernel_rfl) (fun _ _ _ h => h) (Or.inr ⟨by rfl, rfl⟩) (by assumption) ?_); (try simp only [Act.put, List.setIfInBounds_toArray, List.set_cons_zero, List.set_cons_succ, List.getElem_toArray, List.getElem_cons_zero, List.getElem_cons_succ]); (refine wpAnyH_take (i := 24) (v := undef) rfl (by kernel_rfl) (by kernel_rfl) (by kernel_rfl) (fun _ _ _ h => h) (Or.inr ⟨by rfl, rfl⟩) (by assumption) ?_); (try simp only [Act.put, List.setIfInBounds_toArray, List.set_cons_zero, List.set_cons_succ, List.getElem_toArray, List.getElem_cons_zero, List.getElem_cons_succ]); (refine wpAnyH_take (i := 25) (v := undef) rfl (by kernel_rfl) (by kernel_rfl) (by kernel_rfl) (fun _ _ _ h => h) (Or.inr ⟨by rfl, rfl⟩) (by assumption) ?_); (try simp only [Act.put, List.setIfInBounds_toArray, List.set_cons_zero, List.set_cons_succ, List.getElem_toArray, List.getElem_cons_zero, List.getElem_cons_succ]); (refine wpAnyH_take (i := 26) (v := undef) rfl (by kernel_rfl) (by kernel_rfl) (by kernel_rfl) (fun _ _ _ h => h) (Or.inr ⟨by rfl, rfl⟩) (by assumption) ?_); (try simp only [Act.put, List.setIfInBounds_toArray, List.set_cons_zero, List.set_cons_succ, List.getElem_toArray, List.getElem_cons_zero, List.getElem_cons_succ]); (refine wpAnyH_take (i := 27) (v := undef) rfl (by kernel_rfl) (by kernel_rfl) (by kernel_rfl) (fun _ _ _ h => h) (Or.inr ⟨by rfl, rfl⟩) (by assumption) ?_); (try simp only [Act.put, List.setIfInBounds_toArray, List.set_cons_zero, List.set_cons_succ, List.getElem_toArray, List.getElem_cons_zero, List.getElem_cons_succ]); (refine wpAnyH_take (i := 28) (v := undef) rfl (by kernel_rfl) (by kernel_rfl) (by kernel_rfl) (fun _ _ _ h => h) (Or.inr ⟨by rfl, rfl⟩) (by assumption) ?_); (try simp only [Act.put, List.setIfInBounds_toArray, List.set_cons_zero, List.set_cons_succ, List.getElem_toArray, List.getElem_cons_zero, List.getElem_cons_succ]))
    ((refine wpAnyH_take (i := 29) (v := ?_) rfl (by kernel_rfl) (by kernel_rfl) (by kernel_rfl) (fun _ _ _ h => h) (Or.inl ⟨by rfl, ?_⟩) (by assumption) ?_; rotate_left; focus (intro w hSw; (try dsimp only at hSw); go_simp; (try with_reducible rfl); done)); (try simp only [Act.put, List.setIfInBounds_toArray, List.set_cons_zero, List.set_cons_succ, List.getElem_toArray, List.getElem_cons_zero, List.getElem_cons_succ]))
    (refine wpAnyH_done (by kernel_rfl) ?_ _)
    go_wp2
    refine bodyPost_ret (v := .tuple #[.agg #[.slice none 0 0, .slice none 0 0], .agg #[.slice none 0 0, .slice none 0 0], .bool false]) (by simp [results, Try.results12, go_sem, q0, q1, r0, r1]) rfl ?_
    refine ⟨rfl, ?_⟩
    (repeat (first | with_reducible exact Fr.refl _ _ | with_reducible refine Fr.setCell ?_ (.inr (by first | (simp; done) | (simp; omega))) _ | with_reducible refine Fr.alloc ?_ _ | with_reducible refine Fr.drew ?_ | with_reducible refine Fr.drewN ?_ _ | with_reducible refine Fr.tr ?_ (by assumption)))
  · have H0 := Lib.hid h0
    have h1b : decide (i < 0) = true := decide_eq_true h1
    clear h0
    go_enter Try.func12, Try.ntmps12
    go_wp2
    (refine wp_region_held_drew (S := fun w' => w'.cell? ⟨w.heap.size, 0, none⟩ = some (.slice A n cn) ∧ w'.cell? ⟨w.heap.size, 1, none⟩ = some (.slice B m cm)) (by kernel_rfl) ?_ (fun hHeld => ?_); focus ((try dsimp only); (refine cells2 (t := 25) ?_; (repeat (first | with_reducible assumption | with_reducible refine Ob.other ?_ (by first | (simp; done) | (simp; omega)) _ | ((with_reducible refine Ob.new_ _ _ _ _ ?_) <;> (simp; done)) | with_reducible refine Ob.alloc ?_ _ | with_reducible refine Ob.drew ?_ | with_reducible refine Ob.drewN ?_ _ | with_reducible refine Ob.no ?_ (by assumption)))); done))
    ((refine wpAnyH_take (i := 0) (v := ?_) rfl (by kernel_rfl) (by kernel_rfl) (by kernel_rfl) (fun _ _ _ h => h) (Or.inl ⟨by rfl, ?_⟩) (by assumption) ?_; rotate_left; focus (intro w hSw; (try dsimp only at hSw); go_simp; (try with_reducible rfl); done)); (try simp only [Act.put, List.setIfInBounds_toArray, List.set_cons_zero, List.set_cons_succ, List.getElem_toArray, List.getElem_cons_zero, List.getElem_cons_succ]); (refine wpAnyH_take (i := 1) (v := ?_) rfl (by kernel_rfl) (by kernel_rfl) (by kernel_rfl) (fun _ _ _ h => h) (Or.inl ⟨by rfl, ?_⟩) (by assumption) ?_; rotate_left; focus (intro w hSw; (try dsimp only at hSw); go_simp; (try with_reducible rfl); done)); (try simp only [Act.put, List.setIfInBounds_toArray, List.set_cons_zero, List.set_cons_succ, List.getElem_toArray, List.getElem_cons_zero, List.getElem_cons_succ]); (refine wpAnyH_take (i := 2) (v := ?_) rfl (by kernel_rfl) (by kernel_rfl) (by kernel_rfl) (fun _ _ _ h => h) (Or.inl ⟨by rfl, ?_⟩) (by assumption) ?_; rotate_left; focus (intro w hSw; (try dsimp only at hSw); go_simp; (try with_reducible rfl); done)); (try simp only [Act.put, List.setIfInBounds_toArray, List.set_cons_zero, List.set_cons_succ, List.getElem_toArray, List.getElem_cons_zero, List.getElem_cons_succ]); (refine wpAnyH_take (i := 3) (v := ?_) rfl (by kernel_rfl) (by kernel_rfl) (by kernel_rfl) (fun _ _ _ h => h) (Or.inl ⟨by rfl, ?_⟩) (by assumption) ?_; rotate_left; focus (intro w hSw; (try dsimp only at hSw); go_simp; (try with_reducible rfl); done)); (try simp only [Act.put, List.setIfInBounds_toArray, List.set_cons_zero, List.set_cons_succ, List.getElem_toArray, List.getElem_cons_zero, List.getElem_cons_succ]))
    (refine wpAnyH_ready (rs := [4]) (by kernel_rfl) (by simp) ?_; refine AllReadyH.cons rfl (fun K hK => ?_) AllReadyH.nil; go_simp; (go_at_call 25; ((with_reducible refine (rcheckBox_any (lo := lo) (hi := hi) _ ?_ ?_).mono ?_); (iterate 2 (repeat (first | with_reducible assumption | ((with_reducible refine Kv.lit_new _ _ _ _ _ _ ?_ ?_ ?_ ?_) <;> (first | (simp; done) | rfl | decide)) | with_reducible exact Kv.none_ _ | with_reducible refine Kv.alloc ?_ _ | with_reducible refine Kv.drew ?_ | with_reducible refine Kv.drewN ?_ _ | with_reducible refine Kv.no ?_ (by assumption)))); rintro e w1 ⟨rfl, hf1⟩; rw [H0.out]; obtain ⟨q0, q1, q2, q3⟩ := Ob.four (show Ob w1 (w.heap.size + 1) #[.slice none 0 0, .slice none 0 0] 25 by (repeat (first | with_reducible assumption | with_reducible refine Ob.other ?_ (by first | (simp; done) | (simp; omega)) _ | ((with_reducible refine Ob.new_ _ _ _ _ ?_) <;> (simp; done)) | with_reducible refine Ob.alloc ?_ _ | with_reducible refine Ob.drew ?_ | with_reducible refine Ob.drewN ?_ _ | with_reducible refine Ob.no ?_ (by assumption)))); obtain ⟨r0, r1, r2, r3⟩ := Ob.four (show Ob w1 (w.heap.size + 1 + 1) #[.slice none 0 0, .slice none 0 0] 25 by (repeat (first | with_reducible assumption | with_reducible refine Ob.other ?_ (by first | (simp; done) | (simp; omega)) _ | ((with_reducible refine Ob.new_ _ _ _ _ ?_) <;> (simp; done)) | with_reducible refine Ob.alloc ?_ _ | with_reducible refine Ob.drew ?_ | with_reducible refine Ob.drewN ?_ _ | with_reducible refine Ob.no ?_ (by assumption)))))); (try go_wp2_with fail); refine hK.out _ _ ?_ (fun hHeld => ?_); focus ((try dsimp only); (refine cells2 (t := 25) ?_; (repeat (first | with_reducible assumption | with_reducible refine Ob.other ?_ (by first | (simp; done) | (simp; omega)) _ | ((with_reducible refine Ob.new_ _ _ _ _ ?_) <;> (simp; done)) | with_reducible refine Ob.alloc ?_ _ | with_reducible refine Ob.drew ?_ | with_reducible refine Ob.drewN ?_ _ | with_reducible refine Ob.no ?_ (by assumption)))); done)); (clear hK K); (try simp only [Act.put, List.setIfInBounds_toArray, List.set_cons_zero, List.set_cons_succ, List.getElem_toArray, List.getElem_cons_zero, List.getElem_cons_succ])
    ((refine wpAnyH_take (i := 5) (v := ?_) rfl (by kernel_rfl) (by kernel_rfl) (by kernel_rfl) (fun _ _ _ h => h) (Or.inl ⟨by rfl, ?_⟩) (by assumption) ?_; rotate_left; focus (intro w hSw; (try dsimp only at hSw); go_simp; (try with_reducible rfl); done)); (try simp only [Act.put, List.setIfInBounds_toArray, List.set_cons_zero, List.set_cons_succ, List.getElem_toArray, List.getElem_cons_zero, List.getElem_cons_succ]); (refine wpAnyH_take (i := 6) (v := ?_) rfl (by kernel_rfl) (by kernel_rfl) (by kernel_rfl) (fun _ _ _ h => h) (Or.inl ⟨by rfl, ?_⟩) (by assumption) ?_; rotate_left; focus (intro w hSw; (try dsimp only at hSw); go_simp; (try with_reducible rfl); done)); (try simp only [Act.put, List.setIfInBounds_toArray, List.set_cons_zero, List.set_cons_succ, List.getElem_toArray, List.getElem_cons_zero, List.getElem_cons_succ]))
    ((refine wpAnyH_take (i := 7) (v := ?_) rfl (by kernel_rfl) (by kernel_rfl) (by kernel_rfl) (fun _ _ _ h => h) (Or.inl ⟨by rfl, ?_⟩) (by assumption) ?_; rotate_left; focus (intro w hSw; (try dsimp only at hSw); go_simp; (try with_reducible rfl); done)); (try simp only [Act.put, List.setIfInBounds_toArray, List.set_cons_zero, List.set_cons_succ, List.getElem_toArray, List.getElem_cons_zero, List.getElem_cons_succ]); (refine wpAnyH_take (i := 8) (v := ?_) rfl (by kernel_rfl) (by kernel_rfl) (by kernel_rfl) (fun _ _ _ h => h) (Or.inl ⟨by rfl, ?_⟩) (by assumption) ?_; rotate_left; focus (intro w hSw; (try dsimp only at hSw); go_simp; (try with_reducible rfl); done)); (try simp only [Act.put, List.setIfInBounds_toArray, List.set_cons_zero, List.set_cons_succ, List.getElem_toArray, List.getElem_cons_zero, List.getElem_cons_succ]))
    ((refine wpAnyH_take (i := 9) (v := ?_) rfl (by kernel_rfl) (by kernel_rfl) (by kernel_rfl) (fun _ _ _ h => h) (Or.inl ⟨by rfl, ?_⟩) (by assumption) ?_; rotate_left; focus (intro w hSw; (try dsimp only at hSw); go_simp; (try with_reducible rfl); done)); (try simp only [Act.put, List.setIfInBounds_toArray, List.set_cons_zero, List.set_cons_succ, List.getElem_toArray, List.getElem_cons_zero, List.getElem_cons_succ]); (refine wpAnyH_take (i := 10) (v := ?_) rfl (by kernel_rfl) (by kernel_rfl) (by kernel_rfl) (fun _ _ _ h => h) (Or.inl ⟨by rfl, ?_⟩) (by assumption) ?_; rotate_left; focus (intro w hSw; (try dsimp only at hSw); go_simp; (try with_reducible rfl); done)); (try simp only [Act.put, List.setIfInBounds_toArray, List.set_cons_zero, List.set_cons_succ, List.getElem_toArray, List.getElem_cons_zero, List.getElem_cons_succ]))
    ((refine wpAnyH_take (i := 11) (v := undef) rfl (by kernel_rfl) (by kernel_rfl) (by kernel_rfl) (fun _ _ _ h => h) (Or.inr ⟨by rfl, rfl⟩) (by assumption) ?_); (try simp only [Act.put, List.setIfInBounds_toArray, List.set_cons_zero, List.set_cons_succ, List.getElem_toArray, List.getElem_cons_zero, List.getElem_cons_succ]); (refine wpAnyH_take (i := 12) (v := undef) rfl (by kernel_rfl) (by kernel_rfl) (by kernel_rfl) (fun _ _ _ h => h) (Or.inr ⟨by rfl, rfl⟩) (by assumption) ?_); (try simp only [Act.put, List.setIfInBounds_toArray, List.set_cons_zero, List.set_cons_succ, List.getElem_toArray, List.getElem_cons_zero, List.getElem_cons_succ]); (refine wpAnyH_take (i := 13) (v := undef) rfl (by kernel_rfl) (by kernel_rfl) (by kernel_rfl) (fun _ _ _ h => h) (Or.inr ⟨by rfl, rfl⟩) (by assumption) ?_); (try simp only [Act.put, List.setIfInBounds_toArray, List.set_cons_zero, List.set_cons_succ, List.getElem_toArray, List.getElem_cons_zero, List.getElem_cons_succ]); (refine wpAnyH_take (i := 14) (v := undef) rfl (by kernel_rfl) (by kernel_rfl) (by kernel_rfl) (fun _ _ _ h => h) (Or.inr ⟨by rfl, rfl⟩) (by assumption) ?_); (try simp only [Act.put, List.setIfInBounds_toArray, List.set_cons_zero, List.set_cons_succ, List.getElem_toArray, List.getElem_cons_zero, List.getElem_cons_succ]); (refine wpAnyH_take (i := 15) (v := undef) rfl (by kernel_rfl) (by kernel_rfl) (by kernel_rfl) (fun _ _ _ h => h) (Or.inr ⟨by rfl, rfl⟩) (by assumption) ?_); (try simp only [Act.put, List.setIfInBounds_toArray, List.set_cons_zero, List.set_cons_succ, List.getElem_toArray, List.getElem_cons_zero, List.getElem_cons_succ]))
    ((refine wpAnyH_take (i := 16) (v := ?_) rfl (by kernel_rfl) (by kernel_rfl) (by kernel_rfl) (fun _ _ _ h => h) (Or.inl ⟨by rfl, ?_⟩) (by assumption) ?_; rotate_left; focus (intro w hSw; (try dsimp only at hSw); go_simp; (try with_reducible rfl); done)); (try simp only [Act.put, List.setIfInBounds_toArray, List.set_cons_zero, List.set_cons_succ, List.getElem_toArray, List.getElem_cons_zero, List.getElem_cons_succ]); (refine wpAnyH_take (i := 17) (v := ?_) rfl (by kernel_rfl) (by kernel_rfl) (by kernel_rfl) (fun _ _ _ h => h) (Or.inl ⟨by rfl, ?_⟩) (by assumption) ?_; rotate_left; focus (intro w hSw; (try dsimp only at hSw); go_simp; (try with_reducible rfl); done)); (try simp only [Act.put, List.setIfInBounds_toArray, List.set_cons_zero, List.set_cons_succ, List.getElem_toArray, List.getElem_cons_zero, List.getElem_cons_succ]))
    ((refine wpAnyH_take (i := 18) (v := undef) rfl (by kernel_rfl) (by kernel_rfl) (by kernel_rfl) (fun _ _ _ h => h) (Or.inr ⟨by rfl, rfl⟩) (by assumption) ?_); (try simp only [Act.put, List.setIfInBounds_toArray, List.set_cons_zero, List.set_cons_succ, List.getElem_toArray, List.getElem_cons_zero, List.getElem_cons_succ]); (refine wpAnyH_take (i := 19) (v := undef) rfl (by kernel_rfl) (by kernel_rfl) (by kernel_rfl) (fun _ _ _ h => h) (Or.inr ⟨by rfl, rfl⟩) (by assumption) ?_); (try simp only [Act.put, List.setIfInBounds_toArray, List.set_cons_zero, List.set_cons_succ, List.getElem_toArray, List.getElem_cons_zero, List.getElem_cons_succ]); (refine wpAnyH_take (i := 20) (v := undef) rfl (by kernel_rfl) (by kernel_rfl) (by kernel_rfl) (fun _ _ _ h => h) (Or.inr ⟨by rfl, rfl⟩) (by assumption) ?_); (try simp only [Act.put, List.setIfInBounds_toArray, List.set_cons_zero, List.set_cons_succ, List.getElem_toArray, List.getElem_cons_zero, List.getElem_cons_succ]); (refine wpAnyH_take (i := 21) (v := undef) rfl (by kernel_rfl) (by kernel_rfl) (by kernel_rfl) (fun _ _ _ h => h) (Or.inr ⟨by rfl, rfl⟩) (by assumption) ?_); (try simp only [Act.put, List.setIfInBounds_toArray, List.set_cons_zero, List.set_cons_succ, List.getElem_toArray, List.getElem_cons_zero, List.getElem_cons_succ]); (refine wpAnyH_take (i := 22) (v := undef) rfl (by kernel_rfl) (by kernel_rfl) (by kernel_rfl) (fun _ _ _ h => h) (Or.inr ⟨by rfl, rfl⟩) (by assumption) ?_); (try simp only [Act.put, List.setIfInBounds_toArray, List.set_cons_zero, List.set_cons_succ, List.getElem_toArray, List.getElem_cons_zero, List.getElem_cons_succ]); (refine wpAnyH_take (i := 23) (v := undef) rfl (by kernel_rfl) (by kernel_rfl) (by kernel_rfl) (fun _ _ _ h => h) (Or.inr ⟨by rfl, rfl⟩) (by assumption) ?_); (try simp only [Act.put, List.setIfInBounds_toArray, List.set_cons_zero, List.set_cons_succ, List.getElem_toArray, List.getElem_cons_zero, List.getElem_cons_succ]); (refine wpAnyH_take (i := 24) (v := undef) rfl (by kernel_rfl) (by kernel_rfl) (by kernel_rfl) (fun _ _ _ h => h) (Or.inr ⟨by rfl, rfl⟩) (by assumption) ?_); (try simp only [Act.put, List.setIfInBounds_toArray, List.set_cons_zero, List.set_cons_succ, List.getElem_toArray, List.getElem_cons_zero, List.getElem_cons_succ]); (refine wpAnyH_take (i := 25) (v := undef) rfl (by kernel_rfl) (by kernel_rfl) (by kernel_rfl) (fun _ _ _ h => h) (Or.inr ⟨by rfl, rfl⟩) (by assumption) ?_); (try simp only [Act.put, List.setIfInBounds_toArray, List.set_cons_zero, List.set_cons_succ, List.getElem_toArray, List.getElem_cons_zero, List.getElem_cons_succ]); (refine wpAnyH_take (i := 26) (v := undef) rfl (by kernel_rfl) (by kernel_rfl) (by kernel_rfl) (fun _ _ _ h => h) (Or.inr ⟨by rfl, rfl⟩) (by assumption) ?_); (try simp only [Act.put, List.setIfInBounds_toArray, List.set_cons_zero, List.set_cons_succ, List.getElem_toArray, List.getElem_cons_zero, List.getElem_cons_succ]); (refine wpAnyH_take (i := 27) (v := undef) rfl (by kernel_rfl) (by kernel_rfl) (by kernel_rfl) (fun _ _ _ h => h) (Or.inr ⟨by rfl, rfl⟩) (by assumption) ?_); (try simp only [Act.put, List.setIfInBounds_toArray, List.set_cons_zero, List.set_cons_succ, List.getElem_toArray, List.getElem_cons_zero, List.getElem_cons_succ]); (refine wpAnyH_take (i := 28) (v := undef) rfl (by kernel_rfl) (by kernel_rfl) (by kernel_rfl) (fun _ _ _ h => h) (Or.inr ⟨by rfl, rfl⟩) (by assumption) ?_); (try simp only [Act.put, List.setIfInBounds_toArray, List.set_cons_zero, List.set_cons_succ, List.getElem_toArray, List.getElem_cons_zero, List.getElem_cons_succ]))
    ((refine wpAnyH_take (i := 29) (v := ?_) rfl (by kernel_rfl) (by kernel_rfl) (by kernel_rfl) (fun _ _ _ h => h) (Or.inl ⟨by rfl, ?_⟩) (by assumption) ?_; rotate_left; focus (intro w hSw; (try dsimp only at hSw); go_simp; (try with_reducible rfl); done)); (try simp only [Act.put, List.setIfInBounds_toArray, List.set_cons_zero, List.set_cons_succ, List.getElem_toArray, List.getElem_cons_zero, List.getElem_cons_succ]))
    (refine wpAnyH_done (by kernel_rfl) ?_ _)
    go_wp2
    refine bodyPost_ret (v := .tuple #[.agg #[.slice none 0 0, .slice none 0 0], .agg #[.slice none 0 0, .slice none 0 0], .bool false]) (by simp [results, Try.results12, go_sem, q0, q1, r0, r1]) rfl ?_
    refine ⟨rfl, ?_⟩
    (repeat (first | with_reducible exact Fr.refl _ _ | with_reducible refine Fr.setCell ?_ (.inr (by first | (simp; done) | (simp; omega))) _ | with_reducible refine Fr.alloc ?_ _ | with_reducible refine Fr.drew ?_ | with_reducible refine Fr.drewN ?_ _ | with_reducible refine Fr.tr ?_ (by assumption)))
  · have H0 := Lib.hid h0
    have h1b : decide (i < 0) = false := decide_eq_false (by omega)
    have h2b : decide ((n : Int) ≤ i) = true := decide_eq_true h2
    clear h0
    go_enter Try.func12, Try.ntmps12
    go_wp2
    (refine wp_region_held_drew (S := fun w' => w'.cell? ⟨w.heap.size, 0, none⟩ = some (.slice A n cn) ∧ w'.cell? ⟨w.heap.size, 1, none⟩ = some (.slice B m cm)) (by kernel_rfl) ?_ (fun hHeld => ?_); focus ((try dsimp only); (refine cells2 (t := 25) ?_; (repeat (first | with_reducible assumption | with_reducible refine Ob.other ?_ (by first | (simp; done) | (simp; omega)) _ | ((with_reducible refine Ob.new_ _ _ _ _ ?_) <;> (simp; done)) | with_reducible refine Ob.alloc ?_ _ | with_reducible refine Ob.drew ?_ | with_reducible refine Ob.drewN ?_ _ | with_reducible refine Ob.no ?_ (by assumption)))); done))
    ((refine wpAnyH_take (i := 0) (v := ?_) rfl (by kernel_rfl) (by kernel_rfl) (by kernel_rfl) (fun _ _ _ h => h) (Or.inl ⟨by rfl, ?_⟩) (by assumption) ?_; rotate_left; focus (intro w hSw; (try dsimp only at hSw); go_simp; (try with_reducible rfl); done)); (try simp only [Act.put, List.setIfInBounds_toArray, List.set_cons_zero, List.set_cons_succ, List.getElem_toArray, List.getElem_cons_zero, List.getElem_cons_succ]); (refine wpAnyH_take (i := 1) (v := ?_) rfl (by kernel_rfl) (by kernel_rfl) (by kernel_rfl) (fun _ _ _ h => h) (Or.inl ⟨by rfl, ?_⟩) (by assumption) ?_; rotate_left; focus (intro w hSw; (try dsimp only at hSw); go_simp; (try with_reducible rfl); done)); (try simp only [Act.put, List.setIfInBounds_toArray, List.set_cons_zero, List.set_cons_succ, List.getElem_toArray, List.getElem_cons_zero, List.getElem_cons_succ]); (refine wpAnyH_take (i := 2) (v := ?_) rfl (by kernel_rfl) (by kernel_rfl) (by kernel_rfl) (fun _ _ _ h => h) (Or.inl ⟨by rfl, ?_⟩) (by assumption) ?_; rotate_left; focus (intro w hSw; (try dsimp only at hSw); go_simp; (try with_reducible rfl); done)); (try simp only [Act.put, List.setIfInBounds_toArray, List.set_cons_zero, List.set_cons_succ, List.getElem_toArray, List.getElem_cons_zero, List.getElem_cons_succ]); (refine wpAnyH_take (i := 3) (v := ?_) rfl (by kernel_rfl) (by kernel_rfl) (by kernel_rfl) (fun _ _ _ h => h) (Or.inl ⟨by rfl, ?_⟩) (by assumption) ?_; rotate_left; focus (intro w hSw; (try dsimp only at hSw); go_simp; (try with_reducible rfl); done)); (try simp only [Act.put, List.setIfInBounds_toArray, List.set_cons_zero, List.set_cons_succ, List.getElem_toArray, List.getElem_cons_zero, List.getElem_cons_succ]))
    (refine wpAnyH_ready (rs := [4]) (by kernel_rfl) (by simp) ?_; refine AllReadyH.cons rfl (fun K hK => ?_) AllReadyH.nil; go_simp; (go_at_call 25; ((with_reducible refine (rcheckBox_any (lo := lo) (hi := hi) _ ?_ ?_).mono ?_); (iterate 2 (repeat (first | with_reducible assumption | ((with_reducible refine Kv.lit_new _ _ _ _ _ _ ?_ ?_ ?_ ?_) <;> (first | (simp; done) | rfl | decide)) | with_reducible exact Kv.none_ _ | with_reducible refine Kv.alloc ?_ _ | with_reducible refine Kv.drew ?_ | with_reducible refine Kv.drewN ?_ _ | with_reducible refine Kv.no ?_ (by assumption)))); rintro e w1 ⟨rfl, hf1⟩; rw [H0.out]; obtain ⟨q0, q1, q2, q3⟩ := Ob.four (show Ob w1 (w.heap.size + 1) #[.slice none 0 0, .slice none 0 0] 25 by (repeat (first | with_reducible assumption | with_reducible refine Ob.other ?_ (by first | (simp; done) | (simp; omega)) _ | ((with_reducible refine Ob.new_ _ _ _ _ ?_) <;> (simp; done)) | with_reducible refine Ob.alloc ?_ _ | with_reducible refine Ob.drew ?_ | with_reducible refine Ob.drewN ?_ _ | with_reducible refine Ob.no ?_ (by assumption)))); obtain ⟨r0, r1, r2, r3⟩ := Ob.four (show Ob w1 (w.heap.size + 1 + 1) #[.slice none 0 0, .slice none 0 0] 25 by (repeat (first | with_reducible assumption | with_reducible refine Ob.other ?_ (by first | (simp; done) | (simp; omega)) _ | ((with_reducible refine Ob.new_ _ _ _ _ ?_) <;> (simp; done)) | with_reducible refine Ob.alloc ?_ _ | with_reducible refine Ob.drew ?_ | with_reducible refine Ob.drewN ?_ _ | with_reducible refine Ob.no ?_ (by assumption)))))); (try go_wp2_with fail); refine hK.out _ _ ?_ (fun hHeld => ?_); focus ((try dsimp only); (refine cells2 (t := 25) ?_; (repeat (first | with_reducible assumption | with_reducible refine Ob.other ?_ (by first | (simp; done) | (simp; omega)) _ | ((with_reducible refine Ob.new_ _ _ _ _ ?_) <;> (simp; done)) | with_reducible refine Ob.alloc ?_ _ | with_reducible refine Ob.drew ?_ | with_reducible refine Ob.drewN ?_ _ | with_reducible refine Ob.no ?_ (by assumption)))); done)); (clear hK K); (try simp only [Act.put, List.setIfInBounds_toArray, List.set_cons_zero, List.set_cons_succ, List.getElem_toArray, List.getElem_cons_zero, List.getElem_cons_succ])
    ((refine wpAnyH_take (i := 5) (v := ?_) rfl (by kernel_rfl) (by kernel_rfl) (by kernel_rfl) (fun _ _ _ h => h) (Or.inl ⟨by rfl, ?_⟩) (by assumption) ?_; rotate_left; focus (intro w hSw; (try dsimp only at hSw); go_simp; (try with_reducible rfl); done)); (try simp only [Act.put, List.setIfInBounds_toArray, List.set_cons_zero, List.set_cons_succ, List.getElem_toArray, List.getElem_cons_zero, List.getElem_cons_succ]); (refine wpAnyH_take (i := 6) (v := ?_) rfl (by kernel_rfl) (by kernel_rfl) (by kernel_rfl) (fun _ _ _ h => h) (Or.inl ⟨by rfl, ?_⟩) (by assumption) ?_; rotate_left; focus (intro w hSw; (try dsimp only at hSw); go_simp; (try with_reducible rfl); done)); (try simp only [Act.put, List.setIfInBounds_toArray, List.set_cons_zero, List.set_cons_succ, List.getElem_toArray, List.getElem_cons_zero, List.getElem_cons_succ]))
    ((refine wpAnyH_take (i := 7) (v := ?_) rfl (by kernel_rfl) (by kernel_rfl) (by kernel_rfl) (fun _ _ _ h => h) (Or.inl ⟨by rfl, ?_⟩) (by assumption) ?_; rotate_left; focus (intro w hSw; (try dsimp only at hSw); go_simp; (try with_reducible rfl); done)); (try simp only [Act.put, List.setIfInBounds_toArray, List.set_cons_zero, List.set_cons_succ, List.getElem_toArray, List.getElem_cons_zero, List.getElem_cons_succ]); (refine wpAnyH_take (i := 8) (v := ?_) rfl (by kernel_rfl) (by kernel_rfl) (by kernel_rfl) (fun _ _ _ h => h) (Or.inl ⟨by rfl, ?_⟩) (by assumption) ?_; rotate_left; focus (intro w hSw; (try dsimp only at hSw); go_simp; (try with_reducible rfl); done)); (try simp only [Act.put, List.setIfInBounds_toArray, List.set_cons_zero, List.set_cons_succ, List.getElem_toArray, List.getElem_cons_zero, List.getElem_cons_succ]))
    ((refine wpAnyH_take (i := 9) (v := ?_) rfl (by kernel_rfl) (by kernel_rfl) (by kernel_rfl) (fun _ _ _ h => h) (Or.inl ⟨by rfl, ?_⟩) (by assumption) ?_; rotate_left; focus (intro w hSw; (try dsimp only at hSw); go_simp; (try with_reducible rfl); done)); (try simp only [Act.put, List.setIfInBounds_toArray, List.set_cons_zero, List.set_cons_succ, List.getElem_toArray, List.getElem_cons_zero, List.getElem_cons_succ]); (refine wpAnyH_take (i := 10) (v := ?_) rfl (by kernel_rfl) (by kernel_rfl) (by kernel_rfl) (fun _ _ _ h => h) (Or.inl ⟨by rfl, ?_⟩) (by assumption) ?_; rotate_left; focus (intro w hSw; (try dsimp only at hSw); go_simp; (try with_reducible rfl); done)); (try simp only [Act.put, List.setIfInBounds_toArray, List.set_cons_zero, List.set_cons_succ, List.getElem_toArray, List.getElem_cons_zero, List.getElem_cons_succ]))
    ((refine wpAnyH_take (i := 11) (v := ?_) rfl (by kernel_rfl) (by kernel_rfl) (by kernel_rfl) (fun _ _ _ h => h) (Or.inl ⟨by rfl, ?_⟩) (by assumption) ?_; rotate_left; focus (intro w hSw; (try dsimp only at hSw); go_simp; (try with_reducible rfl); done)); (try simp only [Act.put, List.setIfInBounds_toArray, List.set_cons_zero, List.set_cons_succ, List.getElem_toArray, List.getElem_cons_zero, List.getElem_cons_succ]); (refine wpAnyH_take (i := 12) (v := ?_) rfl (by kernel_rfl) (by kernel_rfl) (by kernel_rfl) (fun _ _ _ h => h) (Or.inl ⟨by rfl, ?_⟩) (by assumption) ?_; rotate_left; focus (intro w hSw; (try dsimp only at hSw); go_simp; (try with_reducible rfl); done)); (try simp only [Act.put, List.setIfInBounds_toArray, List.set_cons_zero, List.set_cons_succ, List.getElem_toArray, List.getElem_cons_zero, List.getElem_cons_succ]); (refine wpAnyH_take (i := 13) (v := ?_) rfl (by kernel_rfl) (by kernel_rfl) (by kernel_rfl) (fun _ _ _ h => h) (Or.inl ⟨by rfl, ?_⟩) (by assumption) ?_; rotate_left; focus (intro w hSw; (try dsimp only at hSw); go_simp; (try with_reducible rfl); done)); (try simp only [Act.put, List.setIfInBounds_toArray, List.set_cons_zero, List.set_cons_succ, List.getElem_toArray, List.getElem_cons_zero, List.getElem_cons_succ]); (refine wpAnyH_take (i := 14) (v := ?_) rfl (by kernel_rfl) (by kernel_rfl) (by kernel_rfl) (fun _ _ _ h => h) (Or.inl ⟨by rfl, ?_⟩) (by assumption) ?_; rotate_left; focus (intro w hSw; (try dsimp only at hSw); go_simp; (try with_reducible rfl); done)); (try simp only [Act.put, List.setIfInBounds_toArray, List.set_cons_zero, List.set_cons_succ, List.getElem_toArray, List.getElem_cons_zero, List.getElem_cons_succ]); (refine wpAnyH_take (i := 15) (v := ?_) rfl (by kernel_rfl) (by kernel_rfl) (by kernel_rfl) (fun _ _ _ h => h) (Or.inl ⟨by rfl, ?_⟩) (by assumption) ?_; rotate_left; focus (intro w hSw; (try dsimp only at hSw); go_simp; (try with_reducible rfl); done)); (try simp only [Act.put, List.setIfInBounds_toArray, List.set_cons_zero, List.set_cons_succ, List.getElem_toArray, List.getElem_cons_zero, List.getElem_cons_succ]))
    ((refine wpAnyH_take (i := 16) (v := ?_) rfl (by kernel_rfl) (by kernel_rfl) (by kernel_rfl) (fun _ _ _ h => h) (Or.inl ⟨by rfl, ?_⟩) (by assumption) ?_; rotate_left; focus (intro w hSw; (try dsimp only at hSw); go_simp; (try with_reducible rfl); done)); (try simp only [Act.put, List.setIfInBounds_toArray, List.set_cons_zero, List.set_cons_succ, List.getElem_toArray, List.getElem_cons_zero, List.getElem_cons_succ]); (refine wpAnyH_take (i := 17) (v := ?_) rfl (by kernel_rfl) (by kernel_rfl) (by kernel_rfl) (fun _ _ _ h => h) (Or.inl ⟨by rfl, ?_⟩) (by assumption) ?_; rotate_left; focus (intro w hSw; (try dsimp only at hSw); go_simp; (try with_reducible rfl); done)); (try simp only [Act.put, List.setIfInBounds_toArray, List.set_cons_zero, List.set_cons_succ, List.getElem_toArray, List.getElem_cons_zero, List.getElem_cons_succ]))
    ((refine wpAnyH_take (i := 18) (v := undef) rfl (by kernel_rfl) (by kernel_rfl) (by kernel_rfl) (fun _ _ _ h => h) (Or.inr ⟨by rfl, rfl⟩) (by assumption) ?_); (try simp only [Act.put, List.setIfInBounds_toArray, List.set_cons_zero, List.set_cons_succ, List.getElem_toArray, List.getElem_cons_zero, List.getElem_cons_succ]); (refine wpAnyH_take (i := 19) (v := undef) rfl (by kernel_rfl) (by kernel_rfl) (by kernel_rfl) (fun _ _ _ h => h) (Or.inr ⟨by rfl, rfl⟩) (by assumption) ?_); (try simp only [Act.put, List.setIfInBounds_toArray, List.set_cons_zero, List.set_cons_succ, List.getElem_toArray, List.getElem_cons_zero, List.getElem_cons_succ]); (refine wpAnyH_take (i := 20) (v := undef) rfl (by kernel_rfl) (by kernel_rfl) (by kernel_rfl) (fun _ _ _ h => h) (Or.inr ⟨by rfl, rfl⟩) (by assumption) ?_); (try simp only [Act.put, List.setIfInBounds_toArray, List.set_cons_zero, List.set_cons_succ, List.getElem_toArray, List.getElem_cons_zero, List.getElem_cons_succ]); (refine wpAnyH_take (i := 21) (v := undef) rfl (by kernel_rfl) (by kernel_rfl) (by kernel_rfl) (fun _ _ _ h => h) (Or.inr ⟨by rfl, rfl⟩) (by assumption) ?_); (try simp only [Act.put, List.setIfInBounds_toArray, List.set_cons_zero, List.set_cons_succ, List.getElem_toArray, List.getElem_cons_zero, List.getElem_cons_succ]); (refine wpAnyH_take (i := 22) (v := undef) rfl (by kernel_rfl) (by kernel_rfl) (by kernel_rfl) (fun _ _ _ h => h) (Or.inr ⟨by rfl, rfl⟩) (by assumption) ?_); (try simp only [Act.put, List.setIfInBounds_toArray, List.set_cons_zero, List.set_cons_succ, List.getElem_toArray, List.getElem_cons_zero, List.getElem_cons_succ]); (refine wpAnyH_take (i := 23) (v := undef) rfl (by kernel_rfl) (by kernel_rfl) (by kernel_rfl) (fun _ _ _ h => h) (Or.inr ⟨by rfl, rfl⟩) (by assumption) ?_); (try simp only [Act.put, List.setIfInBounds_toArray, List.set_cons_zero, List.set_cons_succ, List.getElem_toArray, List.getElem_cons_zero, List.getElem_cons_succ]); (refine wpAnyH_take (i := 24) (v := undef) rfl (by kernel_rfl) (by kernel_rfl) (by kernel_rfl) (fun _ _ _ h => h) (Or.inr ⟨by rfl, rfl⟩) (by assumption) ?_); (try simp only [Act.put, List.setIfInBounds_toArray, List.set_cons_zero, List.set_cons_succ, List.getElem_toArray, List.getElem_cons_zero, List.getElem_cons_succ]); (refine wpAnyH_take (i := 25) (v := undef) rfl (by kernel_rfl) (by kernel_rfl) (by kernel_rfl) (fun _ _ _ h => h) (Or.inr ⟨by rfl, rfl⟩) (by assumption) ?_); (try simp only [Act.put, List.setIfInBounds_toArray, List.set_cons_zero, List.set_cons_succ, List.getElem_toArray, List.getElem_cons_zero, List.getElem_cons_succ]); (refine wpAnyH_take (i := 26) (v := undef) rfl (by kernel_rfl) (by kernel_rfl) (by kernel_rfl) (fun _ _ _ h => h) (Or.inr ⟨by rfl, rfl⟩) (by assumption) ?_); (try simp only [Act.put, List.setIfInBounds_toArray, List.set_cons_zero, List.set_cons_succ, List.getElem_toArray, List.getElem_cons_zero, List.getElem_cons_succ]); (refine wpAnyH_take (i := 27) (v := undef) rfl (by kernel_rfl) (by kernel_rfl) (by kernel_rfl) (fun _ _ _ h => h) (Or.inr ⟨by rfl, rfl⟩) (by assumption) ?_); (try simp only [Act.put, List.setIfInBounds_toArray, List.set_cons_zero, List.set_cons_succ, List.getElem_toArray, List.getElem_cons_zero, List.getElem_cons_succ]); (refine wpAnyH_take (i := 28) (v := undef) rfl (by kernel_rfl) (by kernel_rfl) (by kernel_rfl) (fun _ _ _ h => h) (Or.inr ⟨by rfl, rfl⟩) (by assumption) ?_); (try simp only [Act.put, List.setIfInBounds_toArray, List.set_cons_zero, List.set_cons_succ, List.getElem_toArray, List.getElem_cons_zero, List.getElem_cons_succ]))
    ((refine wpAnyH_take (i := 29) (v := ?_) rfl (by kernel_rfl) (by kernel_rfl) (by kernel_rfl) (fun _ _ _ h => h) (Or.inl ⟨by rfl, ?_⟩) (by assumption) ?_; rotate_left; focus (intro w hSw; (try dsimp only at hSw); go_simp; (try with_reducible rfl); done)); (try simp only [Act.put, List.setIfInBounds_toArray, List.set_cons_zero, List.set_cons_succ, List.getElem_toArray, List.getElem_cons_zero, List.getElem_cons_succ]))
    (refine wpAnyH_done (by kernel_rfl) ?_ _)
    go_wp2
    refine bodyPost_ret (v := .tuple #[.agg #[.slice none 0 0, .slice none 0 0], .agg #[.slice none 0 0, .slice none 0 0], .bool false]) (by simp [results, Try.results12, go_sem, q0, q1, r0, r1]) rfl ?_
    refine ⟨rfl, ?_⟩
    (repeat (first | with_reducible exact Fr.refl _ _ | with_reducible refine Fr.setCell ?_ (.inr (by first | (simp; done) | (simp; omega))) _ | with_reducible refine Fr.alloc ?_ _ | with_reducible refine Fr.drew ?_ | with_reducible refine Fr.drewN ?_ _ | with_reducible refine Fr.tr ?_ (by assumption)))
set_option maxHeartbeats 1600000 in
theorem rhalves_thin (j : Nat) (hl : Kv w A n cn lo) (hh : Kv w B m cm hi) (hb : hasB lo hi j = true) (he : lo.getD j 0 = hi.getD j 0) :
    Calls Try.prog 12 #[.agg #[.slice A n cn, .slice B m cm], .int .i64 (j : Int)] w fun e w' => e = .returned (.tuple #[.agg #[.slice none 0 0, .slice none 0 0], .agg #[.slice none 0 0, .slice none 0 0], .bool false]) ∧ Fr No w w' := by
  obtain ⟨p1, p2, p3, p4⟩ := has_parts hb
  have H0 := Lib.hid (show chkB lo hi n = 0 by rw [hl.len]; exact (hasB_iff.1 hb).2.2)
  have h1 : (0 : Int) ≤ (j : Int) := by omega
  have h1b : decide ((j : Int) < 0) = false := decide_eq_false (by omega)
  have h2 : j < n := by have := hl.len; omega
  have h2b : decide (n ≤ j) = false := decide_eq_false (by omega)
  have h3 : j < m := by have := hh.len; omega
  have q3 := hl.cap
  have q4 := hl.most
  have q5 := hh.cap
  have q6 := hh.most
  have hmx : maxLen ≤ 9223372036854775807 := by decide
  obtain ⟨ga, oa, rfl, ca⟩ := hl.get j (by omega)
  obtain ⟨gb, ob, rfl, cb⟩ := hh.get j (by omega)
  rw [he] at ca
  clear hb he p4
  generalize hi.getD j 0 = y at *
  go_enter Try.func12, Try.ntmps12
  go_wp2
  (refine wp_region_held_drew (S := fun w' => w'.cell? ⟨w.heap.size, 0, none⟩ = some (.slice (some ⟨ga, oa, none⟩) n cn) ∧ w'.cell? ⟨w.heap.size, 1, none⟩ = some (.slice (some ⟨gb, ob, none⟩) m cm) ∧ w'.cell? ⟨ga, oa + j, none⟩ = some (.int .u32 (y : Int)) ∧ w'.cell? ⟨gb, ob + j, none⟩ = some (.int .u32 (y : Int))) (by kernel_rfl) ?_ (fun hHeld => ?_); focus ((try dsimp only); (refine four4 (cells2 (t := 25) ?_) ?_ ?_; (repeat (first | with_reducible assumption | with_reducible refine Ob.other ?_ (by first | (simp; done) | (simp; omega)) _ | ((with_reducible refine Ob.new_ _ _ _ _ ?_) <;> (simp; done)) | with_reducible refine Ob.alloc ?_ _ | with_reducible refine Ob.drew ?_ | with_reducible refine Ob.drewN ?_ _ | with_reducible refine Ob.no ?_ (by assumption))); (repeat (first | with_reducible assumption | with_reducible refine cel_alloc ?_ _ | with_reducible refine cel_drew ?_ | with_reducible refine cel_drewN ?_ _ | with_reducible refine cel_set ?_ (by first | (simp; done) | (simp; omega)) _ | with_reducible refine cel_no ?_ (by assumption))); (repeat (first | with_reducible assumption | with_reducible refine cel_alloc ?_ _ | with_reducible refine cel_drew ?_ | with_reducible refine cel_drewN ?_ _ | with_reducible refine cel_set ?_ (by first | (simp; done) | (simp; omega)) _ | with_reducible refine cel_no ?_ (by assumption)))); done))
  ((refine wpAnyH_take (i := 0) (v := ?_) rfl (by kernel_rfl) (by kernel_rfl) (by kernel_rfl) (fun _ _ _ h => h) (Or.inl ⟨by rfl, ?_⟩) (by assumption) ?_; rotate_left; focus (intro w hSw; (try dsimp only at hSw); go_simp; (try with_reducible rfl); done)); (try simp only [Act.put, List.setIfInBounds_toArray, List.set_cons_zero, List.set_cons_succ, List.getElem_toArray, List.getElem_cons_zero, List.getElem_cons_succ]); (refine wpAnyH_take (i := 1) (v := ?_) rfl (by kernel_rfl) (by kernel_rfl) (by kernel_rfl) (fun _ _ _ h => h) (Or.inl ⟨by rfl, ?_⟩) (by assumption) ?_; rotate_left; focus (intro w hSw; (try dsimp only at hSw); go_simp; (try with_reducible rfl); done)); (try simp only [Act.put, List.setIfInBounds_toArray, List.set_cons_zero, List.set_cons_succ, List.getElem_toArray, List.getElem_cons_zero, List.getElem_cons_succ]); (refine wpAnyH_take (i := 2) (v := ?_) rfl (by kernel_rfl) (by kernel_rfl) (by kernel_rfl) (fun _ _ _ h => h) (Or.inl ⟨by rfl, ?_⟩) (by assumption) ?_; rotate_left; focus (intro w hSw; (try dsimp only at hSw); go_simp; (try with_reducible rfl); done)); (try simp only [Act.put, List.setIfInBounds_toArray, List.set_cons_zero, List.set_cons_succ, List.getElem_toArray, List.getElem_cons_zero, List.getElem_cons_succ]); (refine wpAnyH_take (i := 3) (v := ?_) rfl (by kernel_rfl) (by kernel_rfl) (by kernel_rfl) (fun _ _ _ h => h) (Or.inl ⟨by rfl, ?_⟩) (by assumption) ?_; rotate_left; focus (intro w hSw; (try dsimp only at hSw); go_simp; (try with_reducible rfl); done)); (try simp only [Act.put, List.setIfInBounds_toArray, List.set_cons_zero, List.set_cons_succ, List.getElem_toArray, List.getElem_cons_zero, List.getElem_cons_succ]))
  (refine wpAnyH_ready (rs := [4]) (by kernel_rfl) (by simp) ?_; refine AllReadyH.cons rfl (fun K hK => ?_) AllReadyH.nil; go_simp; (go_at_call 25; ((with_reducible refine (rcheckBox_any (lo := lo) (hi := hi) _ ?_ ?_).mono ?_); (iterate 2 (repeat (first | with_reducible assumption | ((with_reducible refine Kv.lit_new _ _ _ _ _ _ ?_ ?_ ?_ ?_) <;> (first | (simp; done) | rfl | decide)) | with_reducible exact Kv.none_ _ | with_reducible refine Kv.alloc ?_ _ | with_reducible refine Kv.drew ?_ | with_reducible refine Kv.drewN ?_ _ | with_reducible refine Kv.no ?_ (by assumption)))); rintro e w1 ⟨rfl, hf1⟩; rw [H0.out]; obtain ⟨q0, q1, q2, q3⟩ := Ob.four (show Ob w1 (w.heap.size + 1) #[.slice none 0 0, .slice none 0 0] 25 by (repeat (first | with_reducible assumption | with_reducible refine Ob.other ?_ (by first | (simp; done) | (simp; omega)) _ | ((with_reducible refine Ob.new_ _ _ _ _ ?_) <;> (simp; done)) | with_reducible refine Ob.alloc ?_ _ | with_reducible refine Ob.drew ?_ | with_reducible refine Ob.drewN ?_ _ | with_reducible refine Ob.no ?_ (by assumption)))); obtain ⟨r0, r1, r2, r3⟩ := Ob.four (show Ob w1 (w.heap.size + 1 + 1) #[.slice none 0 0, .slice none 0 0] 25 by (repeat (first | with_reducible assumption | with_reducible refine Ob.other ?_ (by first | (simp; done) | (simp; omega)) _ | ((with_reducible refine Ob.new_ _ _ _ _ ?_) <;> (simp; done)) | with_reducible refine Ob.alloc ?_ _ | with_reducible refine Ob.drew ?_ | with_reducible refine Ob.drewN ?_ _ | with_reducible refine Ob.no ?_ (by assumption)))))); (try go_wp2_with fail); refine hK.out _ _ ?_ (fun hHeld => ?_); focus ((try dsimp only); (refine four4 (cells2 (t := 25) ?_) ?_ ?_; (repeat (first | with_reducible assumption | with_reducible refine Ob.other ?_ (by first | (simp; done) | (simp; omega)) _ | ((with_reducible refine Ob.new_ _ _ _ _ ?_) <;> (simp; done)) | with_reducible refine Ob.alloc ?_ _ | with_reducible refine Ob.drew ?_ | with_reducible refine Ob.drewN ?_ _ | with_reducible refine Ob.no ?_ (by assumption))); (repeat (first | with_reducible assumption | with_reducible refine cel_alloc ?_ _ | with_reducible refine cel_drew ?_ | with_reducible refine cel_drewN ?_ _ | with_reducible refine cel_set ?_ (by first | (simp; done) | (simp; omega)) _ | with_reducible refine cel_no ?_ (by assumption))); (repeat (first | with_reducible assumption | with_reducible refine cel_alloc ?_ _ | with_reducible refine cel_drew ?_ | with_reducible refine cel_drewN ?_ _ | with_reducible refine cel_set ?_ (by first | (simp; done) | (simp; omega)) _ | with_reducible refine cel_no ?_ (by assumption)))); done)); (clear hK K); (try simp only [Act.put, List.setIfInBounds_toArray, List.set_cons_zero, List.set_cons_succ, List.getElem_toArray, List.getElem_cons_zero, List.getElem_cons_succ])
  ((refine wpAnyH_take (i := 5) (v := ?_) rfl (by kernel_rfl) (by kernel_rfl) (by kernel_rfl) (fun _ _ _ h => h) (Or.inl ⟨by rfl, ?_⟩) (by assumption) ?_; rotate_left; focus (intro w hSw; (try dsimp only at hSw); go_simp; (try with_reducible rfl); done)); (try simp only [Act.put, List.setIfInBounds_toArray, List.set_cons_zero, List.set_cons_succ, List.getElem_toArray, List.getElem_cons_zero, List.getElem_cons_succ]); (refine wpAnyH_take (i := 6) (v := ?_) rfl (by kernel_rfl) (by kernel_rfl) (by kernel_rfl) (fun _ _ _ h => h) (Or.inl ⟨by rfl, ?_⟩) (by assumption) ?_; rotate_left; focus (intro w hSw; (try dsimp only at hSw); go_simp; (try with_reducible rfl); done)); (try simp only [Act.put, List.setIfInBounds_toArray, List.set_cons_zero, List.set_cons_succ, List.getElem_toArray, List.getElem_cons_zero, List.getElem_cons_succ]); (refine wpAnyH_take (i := 7) (v := ?_) rfl (by kernel_rfl) (by kernel_rfl) (by kernel_rfl) (fun _ _ _ h => h) (Or.inl ⟨by rfl, ?_⟩) (by assumption) ?_; rotate_left; focus (intro w hSw; (try dsimp only at hSw); go_simp; (try with_reducible rfl); done)); (try simp only [Act.put, List.setIfInBounds_toArray, List.set_cons_zero, List.set_cons_succ, List.getElem_toArray, List.getElem_cons_zero, List.getElem_cons_succ]); (refine wpAnyH_take (i := 8) (v := ?_) rfl (by kernel_rfl) (by kernel_rfl) (by kernel_rfl) (fun _ _ _ h => h) (Or.inl ⟨by rfl, ?_⟩) (by assumption) ?_; rotate_left; focus (intro w hSw; (try dsimp only at hSw); go_simp; (try with_reducible rfl); done)); (try simp only [Act.put, List.setIfInBounds_toArray, List.set_cons_zero, List.set_cons_succ, List.getElem_toArray, List.getElem_cons_zero, List.getElem_cons_succ]); (refine wpAnyH_take (i := 9) (v := ?_) rfl (by kernel_rfl) (by kernel_rfl) (by kernel_rfl) (fun _ _ _ h => h) (Or.inl ⟨by rfl, ?_⟩) (by assumption) ?_; rotate_left; focus (intro w hSw; (try dsimp only at hSw); go_simp; (try with_reducible rfl); done)); (try simp only [Act.put, List.setIfInBounds_toArray, List.set_cons_zero, List.set_cons_succ, List.getElem_toArray, List.getElem_cons_zero, List.getElem_cons_succ]); (refine wpAnyH_take (i := 10) (v := ?_) rfl (by kernel_rfl) (by kernel_rfl) (by kernel_rfl) (fun _ _ _ h => h) (Or.inl ⟨by rfl, ?_⟩) (by assumption) ?_; rotate_left; focus (intro w hSw; (try dsimp only at hSw); go_simp; (try with_reducible rfl); done)); (try simp only [Act.put, List.setIfInBounds_toArray, List.set_cons_zero, List.set_cons_succ, List.getElem_toArray, List.getElem_cons_zero, List.getElem_cons_succ]); (refine wpAnyH_take (i := 11) (v := ?_) rfl (by kernel_rfl) (by kernel_rfl) (by kernel_rfl) (fun _ _ _ h => h) (Or.inl ⟨by rfl, ?_⟩) (by assumption) ?_; rotate_left; focus (intro w hSw; (try dsimp only at hSw); go_simp; (try with_reducible rfl); done)); (try simp only [Act.put, List.setIfInBounds_toArray, List.set_cons_zero, List.set_cons_succ, List.getElem_toArray, List.getElem_cons_zero, List.getElem_cons_succ]); (refine wpAnyH_take (i := 12) (v := ?_) rfl (by kernel_rfl) (by kernel_rfl) (by kernel_rfl) (fun _ _ _ h => h) (Or.inl ⟨by rfl, ?_⟩) (by assumption) ?_; rotate_left; focus (intro w hSw; (try dsimp only at hSw); go_simp; (try with_reducible rfl); done)); (try simp only [Act.put, List.setIfInBounds_toArray, List.set_cons_zero, List.set_cons_succ, List.getElem_toArray, List.getElem_cons_zero, List.getElem_cons_succ]); (refine wpAnyH_take (i := 13) (v := ?_) rfl (by kernel_rfl) (by kernel_rfl) (by kernel_rfl) (fun _ _ _ h => h) (Or.inl ⟨by rfl, ?_⟩) (by assumption) ?_; rotate_left; focus (intro w hSw; (try dsimp only at hSw); go_simp; (try with_reducible rfl); done)); (try simp only [Act.put, List.setIfInBounds_toArray, List.set_cons_zero, List.set_cons_succ, List.getElem_toArray, List.getElem_cons_zero, List.getElem_cons_succ]); (refine wpAnyH_take (i := 14) (v := ?_) rfl (by kernel_rfl) (by kernel_rfl) (by kernel_rfl) (fun _ _ _ h => h) (Or.inl ⟨by rfl, ?_⟩) (by assumption) ?_; rotate_left; focus (intro w hSw; (try dsimp only at hSw); go_simp; (try with_reducible rfl); done)); (try simp only [Act.put, List.setIfInBounds_toArray, List.set_cons_zero, List.set_cons_succ, List.getElem_toArray, List.getElem_cons_zero, List.getElem_cons_succ]); (refine wpAnyH_take (i := 15) (v := ?_) rfl (by kernel_rfl) (by kernel_rfl) (by kernel_rfl) (fun _ _ _ h => h) (Or.inl ⟨by rfl, ?_⟩) (by assumption) ?_; rotate_left; focus (intro w hSw; (try dsimp only at hSw); go_simp; (try with_reducible rfl); done)); (try simp only [Act.put, List.setIfInBounds_toArray, List.set_cons_zero, List.set_cons_succ, List.getElem_toArray, List.getElem_cons_zero, List.getElem_cons_succ]); (refine wpAnyH_take (i := 16) (v := ?_) rfl (by kernel_rfl) (by kernel_rfl) (by kernel_rfl) (fun _ _ _ h => h) (Or.inl ⟨by rfl, ?_⟩) (by assumption) ?_; rotate_left; focus (intro w hSw; (try dsimp only at hSw); go_simp; (try with_reducible rfl); done)); (try simp only [Act.put, List.setIfInBounds_toArray, List.set_cons_zero, List.set_cons_succ, List.getElem_toArray, List.getElem_cons_zero, List.getElem_cons_succ]); (refine wpAnyH_take (i := 17) (v := ?_) rfl (by kernel_rfl) (by kernel_rfl) (by kernel_rfl) (fun _ _ _ h => h) (Or.inl ⟨by rfl, ?_⟩) (by assumption) ?_; rotate_left; focus (intro w hSw; (try dsimp only at hSw); go_simp; (try with_reducible rfl); done)); (try simp only [Act.put, List.setIfInBounds_toArray, List.set_cons_zero, List.set_cons_succ, List.getElem_toArray, List.getElem_cons_zero, List.getElem_cons_succ]); (refine wpAnyH_take (i := 18) (v := ?_) rfl (by kernel_rfl) (by kernel_rfl) (by kernel_rfl) (fun _ _ _ h => h) (Or.inl ⟨by rfl, ?_⟩) (by assumption) ?_; rotate_left; focus (intro w hSw; (try dsimp only at hSw); go_simp; (try with_reducible rfl); done)); (try simp only [Act.put, List.setIfInBounds_toArray, List.set_cons_zero, List.set_cons_succ, List.getElem_toArray, List.getElem_cons_zero, List.getElem_cons_succ]); (refine wpAnyH_take (i := 19) (v := ?_) rfl (by kernel_rfl) (by kernel_rfl) (by kernel_rfl) (fun _ _ _ h => h) (Or.inl ⟨by rfl, ?_⟩) (by assumption) ?_; rotate_left; focus (intro w hSw; (try dsimp only at hSw); go_simp; (try with_reducible rfl); done)); (try simp only [Act.put, List.setIfInBounds_toArray, List.set_cons_zero, List.set_cons_succ, List.getElem_toArray, List.getElem_cons_zero, List.getElem_cons_succ]); (refine wpAnyH_take (i := 20) (v := ?_) rfl (by kernel_rfl) (by kernel_rfl) (by kernel_rfl) (fun _ _ _ h => h) (Or.inl ⟨by rfl, ?_⟩) (by assumption) ?_; rotate_left; focus (intro w hSw; (try dsimp only at hSw); go_simp; (try with_reducible rfl); done)); (try simp only [Act.put, List.setIfInBounds_toArray, List.set_cons_zero, List.set_cons_succ, List.getElem_toArray, List.getElem_cons_zero, List.getElem_cons_succ]); (refine wpAnyH_take (i := 21) (v := ?_) rfl (by kernel_rfl) (by kernel_rfl) (by kernel_rfl) (fun _ _ _ h => h) (Or.inl ⟨by rfl, ?_⟩) (by assumption) ?_; rotate_left; focus (intro w hSw; (try dsimp only at hSw); go_simp; (try with_reducible rfl); done)); (try simp only [Act.put, List.setIfInBounds_toArray, List.set_cons_zero, List.set_cons_succ, List.getElem_toArray, List.getElem_cons_zero, List.getElem_cons_succ]); (refine wpAnyH_take (i := 22) (v := ?_) rfl (by kernel_rfl) (by kernel_rfl) (by kernel_rfl) (fun _ _ _ h => h) (Or.inl ⟨by rfl, ?_⟩) (by assumption) ?_; rotate_left; focus (intro w hSw; (try dsimp only at hSw); go_simp; (try with_reducible rfl); done)); (try simp only [Act.put, List.setIfInBounds_toArray, List.set_cons_zero, List.set_cons_succ, List.getElem_toArray, List.getElem_cons_zero, List.getElem_cons_succ]); (refine wpAnyH_take (i := 23) (v := ?_) rfl (by kernel_rfl) (by kernel_rfl) (by kernel_rfl) (fun _ _ _ h => h) (Or.inl ⟨by rfl, ?_⟩) (by assumption) ?_; rotate_left; focus (intro w hSw; (try dsimp only at hSw); go_simp; (try with_reducible rfl); done)); (try simp only [Act.put, List.setIfInBounds_toArray, List.set_cons_zero, List.set_cons_succ, List.getElem_toArray, List.getElem_cons_zero, List.getElem_cons_succ]); (refine wpAnyH_take (i := 24) (v := ?_) rfl (by kernel_rfl) (by kernel_rfl) (by kernel_rfl) (fun _ _ _ h => h) (Or.inl ⟨by rfl, ?_⟩) (by assumption) ?_; rotate_left; focus (intro w hSw; (try dsimp only at hSw); go_simp; (try with_reducible rfl); done)); (try simp only [Act.put, List.setIfInBounds_toArray, List.set_cons_zero, List.set_cons_succ, List.getElem_toArray, List.getElem_cons_zero, List.getElem_cons_succ]); (refine wpAnyH_take (i := 25) (v := ?_) rfl (by kernel_rfl) (by kernel_rfl) (by kernel_rfl) (fun _ _ _ h => h) (Or.inl ⟨by rfl, ?_⟩) (by assumption) ?_; rotate_left; focus (intro w hSw; (try dsimp only at hSw); go_simp; (try with_reducible rfl); done)); (try simp only [Act.put, List.setIfInBounds_toArray, List.set_cons_zero, List.set_cons_succ, List.getElem_toArray, List.getElem_cons_zero, List.getElem_cons_succ]); (refine wpAnyH_take (i := 26) (v := ?_) rfl (by kernel_rfl) (by kernel_rfl) (by kernel_rfl) (fun _ _ _ h => h) (Or.inl ⟨by rfl, ?_⟩) (by assumption) ?_; rotate_left; focus (intro w hSw; (try dsimp only at hSw); go_simp; (try with_reducible rfl); done)); (try simp only [Act.put, List.setIfInBounds_toArray, List.set_cons_zero, List.set_cons_succ, List.getElem_toArray, List.getElem_cons_zero, List.getElem_cons_succ]); (refine wpAnyH_take (i := 27) (v := ?_) rfl (by kernel_rfl) (by kernel_rfl) (by kernel_rfl) (fun _ _ _ h => h) (Or.inl ⟨by rfl, ?_⟩) (by assumption) ?_; rotate_left; focus (intro w hSw; (try dsimp only at hSw); go_simp; (try with_reducible rfl); done)); (try simp only [Act.put, List.setIfInBounds_toArray, List.set_cons_zero, List.set_cons_succ, List.getElem_toArray, List.getElem_cons_zero, List.getElem_cons_succ]); (refine wpAnyH_take (i := 28) (v := ?_) rfl (by kernel_rfl) (by kernel_rfl) (by kernel_rfl) (fun _ _ _ h => h) (Or.inl ⟨by rfl, ?_⟩) (by assumption) ?_; rotate_left; focus (intro w hSw; (try dsimp only at hSw); go_simp; (try with_reducible rfl); done)); (try simp only [Act.put, List.setIfInBounds_toArray, List.set_cons_zero, List.set_cons_succ, List.getElem_toArray, List.getElem_cons_zero, List.getElem_cons_succ]); (refine wpAnyH_take (i := 29) (v := ?_) rfl (by kernel_rfl) (by kernel_rfl) (by kernel_rfl) (fun _ _ _ h => h) (Or.inl ⟨by rfl, ?_⟩) (by assumption) ?_; rotate_left; focus (intro w hSw; (try dsimp only at hSw); go_simp; (try with_reducible rfl); done)); (try simp only [Act.put, List.setIfInBounds_toArray, List.set_cons_zero, List.set_cons_succ, List.getElem_toArray, List.getElem_cons_zero, List.getElem_cons_succ]))
  (refine wpAnyH_done (by kernel_rfl) ?_ _)
  go_wp2
  refine bodyPost_ret (v := .tuple #[.agg #[.slice none 0 0, .slice none 0 0], .agg #[.slice none 0 0, .slice none 0 0], .bool false]) (by simp [results, Try.results12, go_sem, q0, q1, r0, r1]) rfl ?_
  refine ⟨rfl, ?_⟩
  (repeat (first | with_reducible exact Fr.refl _ _ | with_reducible refine Fr.setCell ?_ (.inr (by first | (simp; done) | (simp; omega))) _ | with_reducible refine Fr.alloc ?_ _ | with_reducible refine Fr.drew ?_ | with_reducible refine Fr.drewN ?_ _ | with_reducible refine Fr.tr ?_ (by assumption)))
end
end Go.Proofs.Ytbncakbgljhnkaa.Hb16
/- Layer 11: a box's halves, the document's, where it is wide. -/
namespace Go.Proofs.Ytbncakbgljhnkaa.Hc16
open Go.RowKit Go.Proofs.Ytbncakbgljhnkaa.Pk08 Go.Proofs.Ytbncakbgljhnkaa.Base Go.Proofs.Ytbncakbgljhnkaa.App Go.Proofs.Ytbncakbgljhnkaa.Str Go.Proofs.Ytbncakbgljhnkaa.Ky Go.Proofs.Ytbncakbgljhnkaa.Bx Go.Proofs.Ytbncakbgljhnkaa.Kk Go.Proofs.Ytbncakbgljhnkaa.Bo Go.Proofs.Ytbncakbgljhnkaa.As Go.Proofs.Ytbncakbgljhnkaa.Cl Go.Proofs.Ytbncakbgljhnkaa.Pl08 Go.Proofs.Ytbncakbgljhnkaa.Kc08 Go.Proofs.Ytbncakbgljhnkaa.Kh08 Go.Proofs.Ytbncakbgljhnkaa.Ki08 Go.Proofs.Ytbncakbgljhnkaa.Px16 Go.Proofs.Ytbncakbgljhnkaa.Ha16 Go.Proofs.Ytbncakbgljhnkaa.Hb16
set_option linter.unusedVariables false
set_option linter.unusedSimpArgs false
attribute [local go_sem ↓ high] builtin_app
section
variable {w : World} {A B : Option Addr} {n cn m cm : Nat} {lo hi : List Nat}
set_option maxRecDepth 100000 in
set_option maxHeartbeats 3200000 in
theorem rhalves_yes (j : Nat) (hl : Kv w A n cn lo) (hh : Kv w B n cm hi) (hb : wideB lo hi j = true) :
    Calls Try.prog 12 #[.agg #[.slice A n cn, .slice B n cm], .int .i64 (j : Int)] w fun e w' => ∃ a ca b cb c cc d cd, e = .returned (.tuple #[.agg #[.slice (some ⟨a, 0, none⟩) n ca, .slice (some ⟨b, 0, none⟩) n cb], .agg #[.slice (some ⟨c, 0, none⟩) n cc, .slice (some ⟨d, 0, none⟩) n cd], .bool true]) ∧
      w'.ownsRow w.heap.size 35 1 (.slice (some ⟨a, 0, none⟩) n ca) n (u32s lo) ∧ w'.ownsRow w.heap.size 35 1 (.slice (some ⟨b, 0, none⟩) n cb) n (u32s (hi.set j (midB lo hi j))) ∧
      w'.ownsRow w.heap.size 35 1 (.slice (some ⟨c, 0, none⟩) n cc) n (u32s (lo.set j (midB lo hi j + 1))) ∧ w'.ownsRow w.heap.size 35 1 (.slice (some ⟨d, 0, none⟩) n cd) n (u32s hi) ∧
      a ≠ b ∧ c ≠ d ∧ a ≠ d ∧ b ≠ c ∧ Fr No w w' := by
  have hw : hasB lo hi j = true ∧ lo.getD j 0 < hi.getD j 0 := by
    unfold wideB at hb
    rw [Bool.and_eq_true, decide_eq_true_eq, Int.toNat_natCast] at hb
    exact hb
  obtain ⟨p1, p2, p3, p4⟩ := has_parts hw.1
  have q1 : j < n := by have := hl.len; omega
  have q2 : n ≤ 6 := by have := hl.len; omega
  have q3 : n ≤ 1000000 := by omega
  have hm : midE lo hi j = midB lo hi j := by unfold midE; rw [hw.1, Int.toNat_natCast]; rfl
  have Hm := Lib.hid hm
  have Hb := Lib.hid hb
  have m1 : midB lo hi j + 1 < 4294967296 := by have := hh.ltD j; have := hw.2; unfold midB; omega
  have hwb := hw.1
  have hw2 := hw.2
  clear hb hm hw p4 Hb Hm
  generalize hmid : midB lo hi j = mid at *
  have H0 := Lib.hid (show chkB lo hi n = 0 by rw [hl.len]; exact (hasB_iff.1 hwb).2.2)
  have g1 : (0 : Int) ≤ (j : Int) := by omega
  have g1b : decide ((j : Int) < 0) = false := decide_eq_false (by omega)
  have g2b : decide (n ≤ j) = false := decide_eq_false (by omega)
  have g3 := hl.cap
  have g4 := hl.most
  have g5 := hh.cap
  have g6 := hh.most
  have hmx : maxLen ≤ 9223372036854775807 := by decide
  obtain ⟨ga, oa, hga, ca⟩ := hl.get j (by omega)
  obtain ⟨gb, ob, hgb, cb⟩ := hh.get j (by omega)
  subst hga
  subst hgb
  have bx1 := hl.ltD j
  have bx2 := hh.ltD j
  have Hmd := Lib.hid hmid
  clear hmid hwb
  generalize hxe : lo.getD j 0 = x at *
  generalize hye : hi.getD j 0 = y at *
  have Hmd2 : Hid ((x : Int) + ((y : Int) - (x : Int)) / 2 = (mid : Int)) := Lib.hid (by rw [← Hmd.out]; unfold midB; rw [hxe, hye]; omega)
  clear hxe hye Hmd
  have hne : (x == y) = false := beq_eq_false_iff_ne.2 (by omega)
  have hne2 : ((x : Int) == (y : Int)) = false := beq_eq_false_iff_ne.2 (by omega)
  have p4 : x ≤ y := by omega
  go_enter Try.func12, Try.ntmps12
  go_wp2
  (refine wp_region_held_drew (S := fun w' => w'.cell? ⟨w.heap.size, 0, none⟩ = some (.slice (some ⟨ga, oa, none⟩) n cn) ∧ w'.cell? ⟨w.heap.size, 1, none⟩ = some (.slice (some ⟨gb, ob, none⟩) n cm) ∧ w'.cell? ⟨ga, oa + j, none⟩ = some (.int .u32 (x : Int)) ∧ w'.cell? ⟨gb, ob + j, none⟩ = some (.int .u32 (y : Int))) (by kernel_rfl) ?_ (fun hHeld => ?_); focus ((try dsimp only); (refine four4 (cells2 (t := 25) ?_) ?_ ?_; (repeat (first | with_reducible assumption | with_reducible refine Ob.other ?_ (by first | (simp; done) | (simp; omega)) _ | ((with_reducible refine Ob.new_ _ _ _ _ ?_) <;> (simp; done)) | with_reducible refine Ob.alloc ?_ _ | with_reducible refine Ob.drew ?_ | with_reducible refine Ob.drewN ?_ _ | with_reducible refine Ob.no ?_ (by assumption))); (repeat (first | with_reducible assumption | with_reducible refine cel_alloc ?_ _ | with_reducible refine cel_drew ?_ | with_reducible refine cel_drewN ?_ _ | with_reducible refine cel_set ?_ (by first | (simp; done) | (simp; omega)) _ | with_reducible refine cel_no ?_ (by assumption))); (repeat (first | with_reducible assumption | with_reducible refine cel_alloc ?_ _ | with_reducible refine cel_drew ?_ | with_reducible refine cel_drewN ?_ _ | with_reducible refine cel_set ?_ (by first | (simp; done) | (simp; omega)) _ | with_reducible refine cel_no ?_ (by assumption)))); done))
  ((refine wpAnyH_take (i := 0) (v := ?_) rfl (by kernel_rfl) (by kernel_rfl) (by kernel_rfl) (fun _ _ _ h => h) (Or.inl ⟨by rfl, ?_⟩) (by assumption) ?_; rotate_left; focus (intro w hSw; (try dsimp only at hSw); go_simp; (try with_reducible rfl); done)); (try simp only [Act.put, List.setIfInBounds_toArray, List.set_cons_zero, List.set_cons_succ, List.getElem_toArray, List.getElem_cons_zero, List.getElem_cons_succ]); (refine wpAnyH_take (i := 1) (v := ?_) rfl (by kernel_rfl) (by kernel_rfl) (by kernel_rfl) (fun _ _ _ h => h) (Or.inl ⟨by rfl, ?_⟩) (by assumption) ?_; rotate_left; focus (intro w hSw; (try dsimp only at hSw); go_simp; (try with_reducible rfl); done)); (try simp only [Act.put, List.setIfInBounds_toArray, List.set_cons_zero, List.set_cons_succ, List.getElem_toArray, List.getElem_cons_zero, List.getElem_cons_succ]); (refine wpAnyH_take (i := 2) (v := ?_) rfl (by kernel_rfl) (by kernel_rfl) (by kernel_rfl) (fun _ _ _ h => h) (Or.inl ⟨by rfl, ?_⟩) (by assumption) ?_; rotate_left; focus (intro w hSw; (try dsimp only at hSw); go_simp; (try with_reducible rfl); done)); (try simp only [Act.put, List.setIfInBounds_toArray, List.set_cons_zero, List.set_cons_succ, List.getElem_toArray, List.getElem_cons_zero, List.getElem_cons_succ]); (refine wpAnyH_take (i := 3) (v := ?_) rfl (by kernel_rfl) (by kernel_rfl) (by kernel_rfl) (fun _ _ _ h => h) (Or.inl ⟨by rfl, ?_⟩) (by assumption) ?_; rotate_left; focus (intro w hSw; (try dsimp only at hSw); go_simp; (try with_reducible rfl); done)); (try simp only [Act.put, List.setIfInBounds_toArray, List.set_cons_zero, List.set_cons_succ, List.getElem_toArray, List.getElem_cons_zero, List.getElem_cons_succ]))
  (refine wpAnyH_ready (rs := [4]) (by kernel_rfl) (by simp) ?_; refine AllReadyH.cons rfl (fun K hK => ?_) AllReadyH.nil; go_simp; (go_at_call 25; ((with_reducible refine (rcheckBox_any (lo := lo) (hi := hi) _ ?_ ?_).mono ?_); (iterate 2 (repeat (first | with_reducible assumption | ((with_reducible refine Kv.lit_new _ _ _ _ _ _ ?_ ?_ ?_ ?_) <;> (first | (simp; done) | rfl | decide)) | with_reducible exact Kv.none_ _ | with_reducible refine Kv.alloc ?_ _ | with_reducible refine Kv.drew ?_ | with_reducible refine Kv.drewN ?_ _ | with_reducible refine Kv.no ?_ (by assumption)))); rintro e w1 ⟨rfl, hf1⟩; rw [H0.out]; obtain ⟨q0, q1, q2, q3⟩ := Ob.four (show Ob w1 (w.heap.size + 1) #[.slice none 0 0, .slice none 0 0] 25 by (repeat (first | with_reducible assumption | with_reducible refine Ob.other ?_ (by first | (simp; done) | (simp; omega)) _ | ((with_reducible refine Ob.new_ _ _ _ _ ?_) <;> (simp; done)) | with_reducible refine Ob.alloc ?_ _ | with_reducible refine Ob.drew ?_ | with_reducible refine Ob.drewN ?_ _ | with_reducible refine Ob.no ?_ (by assumption)))); obtain ⟨r0, r1, r2, r3⟩ := Ob.four (show Ob w1 (w.heap.size + 1 + 1) #[.slice none 0 0, .slice none 0 0] 25 by (repeat (first | with_reducible assumption | with_reducible refine Ob.other ?_ (by first | (simp; done) | (simp; omega)) _ | ((with_reducible refine Ob.new_ _ _ _ _ ?_) <;> (simp; done)) | with_reducible refine Ob.alloc ?_ _ | with_reducible refine Ob.drew ?_ | with_reducible refine Ob.drewN ?_ _ | with_reducible refine Ob.no ?_ (by assumption)))))); (try go_wp2_with fail); refine hK.out _ _ ?_ (fun hHeld => ?_); focus ((try dsimp only); (refine four4 (cells2 (t := 25) ?_) ?_ ?_; (repeat (first | with_reducible assumption | with_reducible refine Ob.other ?_ (by first | (simp; done) | (simp; omega)) _ | ((with_reducible refine Ob.new_ _ _ _ _ ?_) <;> (simp; done)) | with_reducible refine Ob.alloc ?_ _ | with_reducible refine Ob.drew ?_ | with_reducible refine Ob.drewN ?_ _ | with_reducible refine Ob.no ?_ (by assumption))); (repeat (first | with_reducible assumption | with_reducible refine cel_alloc ?_ _ | with_reducible refine cel_drew ?_ | with_reducible refine cel_drewN ?_ _ | with_reducible refine cel_set ?_ (by first | (simp; done) | (simp; omega)) _ | with_reducible refine cel_no ?_ (by assumption))); (repeat (first | with_reducible assumption | with_reducible refine cel_alloc ?_ _ | with_reducible refine cel_drew ?_ | with_reducible refine cel_drewN ?_ _ | with_reducible refine cel_set ?_ (by first | (simp; done) | (simp; omega)) _ | with_reducible refine cel_no ?_ (by assumption)))); done)); (clear hK K); (try simp only [Act.put, List.setIfInBounds_toArray, List.set_cons_zero, List.set_cons_succ, List.getElem_toArray, List.getElem_cons_zero, List.getElem_cons_succ])
  ((refine wpAnyH_take (i := 5) (v := ?_) rfl (by kernel_rfl) (by kernel_rfl) (by kernel_rfl) (fun _ _ _ h => h) (Or.inl ⟨by rfl, ?_⟩) (by assumption) ?_; rotate_left; focus (intro w hSw; (try dsimp only at hSw); go_simp; (try with_reducible rfl); done)); (try simp only [Act.put, List.setIfInBounds_toArray, List.set_cons_zero, List.set_cons_succ, List.getElem_toArray, List.getElem_cons_zero, List.getElem_cons_succ]); (refine wpAnyH_take (i := 6) (v := ?_) rfl (by kernel_rfl) (by kernel_rfl) (by kernel_rfl) (fun _ _ _ h => h) (Or.inl ⟨by rfl, ?_⟩) (by assumption) ?_; rotate_left; focus (intro w hSw; (try dsimp only at hSw); go_simp; (try with_reducible rfl); done)); (try simp only [Act.put, List.setIfInBounds_toArray, List.set_cons_zero, List.set_cons_succ, List.getElem_toArray, List.getElem_cons_zero, List.getElem_cons_succ]); (refine wpAnyH_take (i := 7) (v := ?_) rfl (by kernel_rfl) (by kernel_rfl) (by kernel_rfl) (fun _ _ _ h => h) (Or.inl ⟨by rfl, ?_⟩) (by assumption) ?_; rotate_left; focus (intro w hSw; (try dsimp only at hSw); go_simp; (try with_reducible rfl); done)); (try simp only [Act.put, List.setIfInBounds_toArray, List.set_cons_zero, List.set_cons_succ, List.getElem_toArray, List.getElem_cons_zero, List.getElem_cons_succ]); (refine wpAnyH_take (i := 8) (v := ?_) rfl (by kernel_rfl) (by kernel_rfl) (by kernel_rfl) (fun _ _ _ h => h) (Or.inl ⟨by rfl, ?_⟩) (by assumption) ?_; rotate_left; focus (intro w hSw; (try dsimp only at hSw); go_simp; (try with_reducible rfl); done)); (try simp only [Act.put, List.setIfInBounds_toArray, List.set_cons_zero, List.set_cons_succ, List.getElem_toArray, List.getElem_cons_zero, List.getElem_cons_succ]); (refine wpAnyH_take (i := 9) (v := ?_) rfl (by kernel_rfl) (by kernel_rfl) (by kernel_rfl) (fun _ _ _ h => h) (Or.inl ⟨by rfl, ?_⟩) (by assumption) ?_; rotate_left; focus (intro w hSw; (try dsimp only at hSw); go_simp; (try with_reducible rfl); done)); (try simp only [Act.put, List.setIfInBounds_toArray, List.set_cons_zero, List.set_cons_succ, List.getElem_toArray, List.getElem_cons_zero, List.getElem_cons_succ]); (refine wpAnyH_take (i := 10) (v := ?_) rfl (by kernel_rfl) (by kernel_rfl) (by kernel_rfl) (fun _ _ _ h => h) (Or.inl ⟨by rfl, ?_⟩) (by assumption) ?_; rotate_left; focus (intro w hSw; (try dsimp only at hSw); go_simp; (try with_reducible rfl); done)); (try simp only [Act.put, List.setIfInBounds_toArray, List.set_cons_zero, List.set_cons_succ, List.getElem_toArray, List.getElem_cons_zero, List.getElem_cons_succ]); (refine wpAnyH_take (i := 11) (v := ?_) rfl (by kernel_rfl) (by kernel_rfl) (by kernel_rfl) (fun _ _ _ h => h) (Or.inl ⟨by rfl, ?_⟩) (by assumption) ?_; rotate_left; focus (intro w hSw; (try dsimp only at hSw); go_simp; (try with_reducible rfl); done)); (try simp only [Act.put, List.setIfInBounds_toArray, List.set_cons_zero, List.set_cons_succ, List.getElem_toArray, List.getElem_cons_zero, List.getElem_cons_succ]); (refine wpAnyH_take (i := 12) (v := ?_) rfl (by kernel_rfl) (by kernel_rfl) (by kernel_rfl) (fun _ _ _ h => h) (Or.inl ⟨by rfl, ?_⟩) (by assumption) ?_; rotate_left; focus (intro w hSw; (try dsimp only at hSw); go_simp; (try with_reducible rfl); done)); (try simp only [Act.put, List.setIfInBounds_toArray, List.set_cons_zero, List.set_cons_succ, List.getElem_toArray, List.getElem_cons_zero, List.getElem_cons_succ]); (refine wpAnyH_take (i := 13) (v := ?_) rfl (by kernel_rfl) (by kernel_rfl) (by kernel_rfl) (fun _ _ _ h => h) (Or.inl ⟨by rfl, ?_⟩) (by assumption) ?_; rotate_left; focus (intro w hSw; (try dsimp only at hSw); go_simp; (try with_reducible rfl); done)); (try simp only [Act.put, List.setIfInBounds_toArray, List.set_cons_zero, List.set_cons_succ, List.getElem_toArray, List.getElem_cons_zero, List.getElem_cons_succ]); (refine wpAnyH_take (i := 14) (v := ?_) rfl (by kernel_rfl) (by kernel_rfl) (by kernel_rfl) (fun _ _ _ h => h) (Or.inl ⟨by rfl, ?_⟩) (by assumption) ?_; rotate_left; focus (intro w hSw; (try dsimp only at hSw); go_simp; (try with_reducible rfl); done)); (try simp only [Act.put, List.setIfInBounds_toArray, List.set_cons_zero, List.set_cons_succ, List.getElem_toArray, List.getElem_cons_zero, List.getElem_cons_succ]); (refine wpAnyH_take (i := 15) (v := ?_) rfl (by kernel_rfl) (by kernel_rfl) (by kernel_rfl) (fun _ _ _ h => h) (Or.inl ⟨by rfl, ?_⟩) (by assumption) ?_; rotate_left; focus (intro w hSw; (try dsimp only at hSw); go_simp; (try with_reducible rfl); done)); (try simp only [Act.put, List.setIfInBounds_toArray, List.set_cons_zero, List.set_cons_succ, List.getElem_toArray, List.getElem_cons_zero, List.getElem_cons_succ]); (refine wpAnyH_take (i := 16) (v := ?_) rfl (by kernel_rfl) (by kernel_rfl) (by kernel_rfl) (fun _ _ _ h => h) (Or.inl ⟨by rfl, ?_⟩) (by assumption) ?_; rotate_left; focus (intro w hSw; (try dsimp only at hSw); go_simp; (try with_reducible rfl); done)); (try simp only [Act.put, List.setIfInBounds_toArray, List.set_cons_zero, List.set_cons_succ, List.getElem_toArray, List.getElem_cons_zero, List.getElem_cons_succ]); (refine wpAnyH_take (i := 17) (v := ?_) rfl (by kernel_rfl) (by kernel_rfl) (by kernel_rfl) (fun _ _ _ h => h) (Or.inl ⟨by rfl, ?_⟩) (by assumption) ?_; rotate_left; focus (intro w hSw; (try dsimp only at hSw); go_simp; (try with_reducible rfl); done)); (try simp only [Act.put, List.setIfInBounds_toArray, List.set_cons_zero, List.set_cons_succ, List.getElem_toArray, List.getElem_cons_zero, List.getElem_cons_succ]); (refine wpAnyH_take (i := 18) (v := ?_) rfl (by kernel_rfl) (by kernel_rfl) (by kernel_rfl) (fun _ _ _ h => h) (Or.inl ⟨by rfl, ?_⟩) (by assumption) ?_; rotate_left; focus (intro w hSw; (try dsimp only at hSw); go_simp; (try with_reducible rfl); done)); (try simp only [Act.put, List.setIfInBounds_toArray, List.set_cons_zero, List.set_cons_succ, List.getElem_toArray, List.getElem_cons_zero, List.getElem_cons_succ]); (refine wpAnyH_take (i := 19) (v := ?_) rfl (by kernel_rfl) (by kernel_rfl) (by kernel_rfl) (fun _ _ _ h => h) (Or.inl ⟨by rfl, ?_⟩) (by assumption) ?_; rotate_left; focus (intro w hSw; (try dsimp only at hSw); go_simp; (try with_reducible rfl); done)); (try simp only [Act.put, List.setIfInBounds_toArray, List.set_cons_zero, List.set_cons_succ, List.getElem_toArray, List.getElem_cons_zero, List.getElem_cons_succ]); (refine wpAnyH_take (i := 20) (v := ?_) rfl (by kernel_rfl) (by kernel_rfl) (by kernel_rfl) (fun _ _ _ h => h) (Or.inl ⟨by rfl, ?_⟩) (by assumption) ?_; rotate_left; focus (intro w hSw; (try dsimp only at hSw); go_simp; (try with_reducible rfl); done)); (try simp only [Act.put, List.setIfInBounds_toArray, List.set_cons_zero, List.set_cons_succ, List.getElem_toArray, List.getElem_cons_zero, List.getElem_cons_succ]); (refine wpAnyH_take (i := 21) (v := ?_) rfl (by kernel_rfl) (by kernel_rfl) (by kernel_rfl) (fun _ _ _ h => h) (Or.inl ⟨by rfl, ?_⟩) (by assumption) ?_; rotate_left; focus (intro w hSw; (try dsimp only at hSw); go_simp; (try with_reducible rfl); done)); (try simp only [Act.put, List.setIfInBounds_toArray, List.set_cons_zero, List.set_cons_succ, List.getElem_toArray, List.getElem_cons_zero, List.getElem_cons_succ]); (refine wpAnyH_take (i := 22) (v := ?_) rfl (by kernel_rfl) (by kernel_rfl) (by kernel_rfl) (fun _ _ _ h => h) (Or.inl ⟨by rfl, ?_⟩) (by assumption) ?_; rotate_left; focus (intro w hSw; (try dsimp only at hSw); go_simp; (try with_reducible rfl); done)); (try simp only [Act.put, List.setIfInBounds_toArray, List.set_cons_zero, List.set_cons_succ, List.getElem_toArray, List.getElem_cons_zero, List.getElem_cons_succ]); (refine wpAnyH_take (i := 23) (v := ?_) rfl (by kernel_rfl) (by kernel_rfl) (by kernel_rfl) (fun _ _ _ h => h) (Or.inl ⟨by rfl, ?_⟩) (by assumption) ?_; rotate_left; focus (intro w hSw; (try dsimp only at hSw); go_simp; (try with_reducible rfl); done)); (try simp only [Act.put, List.setIfInBounds_toArray, List.set_cons_zero, List.set_cons_succ, List.getElem_toArray, List.getElem_cons_zero, List.getElem_cons_succ]); (refine wpAnyH_take (i := 24) (v := ?_) rfl (by kernel_rfl) (by kernel_rfl) (by kernel_rfl) (fun _ _ _ h => h) (Or.inl ⟨by rfl, ?_⟩) (by assumption) ?_; rotate_left; focus (intro w hSw; (try dsimp only at hSw); go_simp; (try with_reducible rfl); done)); (try simp only [Act.put, List.setIfInBounds_toArray, List.set_cons_zero, List.set_cons_succ, List.getElem_toArray, List.getElem_cons_zero, List.getElem_cons_succ]); (refine wpAnyH_take (i := 25) (v := ?_) rfl (by kernel_rfl) (by kernel_rfl) (by kernel_rfl) (fun _ _ _ h => h) (Or.inl ⟨by rfl, ?_⟩) (by assumption) ?_; rotate_left; focus (intro w hSw; (try dsimp only at hSw); go_simp; (try with_reducible rfl); done)); (try simp only [Act.put, List.setIfInBounds_toArray, List.set_cons_zero, List.set_cons_succ, List.getElem_toArray, List.getElem_cons_zero, List.getElem_cons_succ]); (refine wpAnyH_take (i := 26) (v := ?_) rfl (by kernel_rfl) (by kernel_rfl) (by kernel_rfl) (fun _ _ _ h => h) (Or.inl ⟨by rfl, ?_⟩) (by assumption) ?_; rotate_left; focus (intro w hSw; (try dsimp only at hSw); go_simp; (try with_reducible rfl); done)); (try simp only [Act.put, List.setIfInBounds_toArray, List.set_cons_zero, List.set_cons_succ, List.getElem_toArray, List.getElem_cons_zero, List.getElem_cons_succ]); (refine wpAnyH_take (i := 27) (v := ?_) rfl (by kernel_rfl) (by kernel_rfl) (by kernel_rfl) (fun _ _ _ h => h) (Or.inl ⟨by rfl, ?_⟩) (by assumption) ?_; rotate_left; focus (intro w hSw; (try dsimp only at hSw); go_simp; (try with_reducible rfl); done)); (try simp only [Act.put, List.setIfInBounds_toArray, List.set_cons_zero, List.set_cons_succ, List.getElem_toArray, List.getElem_cons_zero, List.getElem_cons_succ]); (refine wpAnyH_take (i := 28) (v := ?_) rfl (by kernel_rfl) (by kernel_rfl) (by kernel_rfl) (fun _ _ _ h => h) (Or.inl ⟨by rfl, ?_⟩) (by assumption) ?_; rotate_left; focus (intro w hSw; (try dsimp only at hSw); go_simp; (try with_reducible rfl); done)); (try simp only [Act.put, List.setIfInBounds_toArray, List.set_cons_zero, List.set_cons_succ, List.getElem_toArray, List.getElem_cons_zero, List.getElem_cons_succ]); (refine wpAnyH_take (i := 29) (v := ?_) rfl (by kernel_rfl) (by kernel_rfl) (by kernel_rfl) (fun _ _ _ h => h) (Or.inl ⟨by rfl, ?_⟩) (by assumption) ?_; rotate_left; focus (intro w hSw; (try dsimp only at hSw); go_simp; (try with_reducible rfl); done)); (try simp only [Act.put, List.setIfInBounds_toArray, List.set_cons_zero, List.set_cons_succ, List.getElem_toArray, List.getElem_cons_zero, List.getElem_cons_succ]))
  (refine wpAnyH_done (by kernel_rfl) ?_ _)
  have hA : Ob w1 w.heap.size #[.slice (some ⟨ga, oa, none⟩) n cn, .slice (some ⟨gb, ob, none⟩) n cm] 25 := (by (repeat (first | with_reducible assumption | with_reducible refine Ob.other ?_ (by first | (simp; done) | (simp; omega)) _ | ((with_reducible refine Ob.new_ _ _ _ _ ?_) <;> (simp; done)) | with_reducible refine Ob.alloc ?_ _ | with_reducible refine Ob.drew ?_ | with_reducible refine Ob.drewN ?_ _ | with_reducible refine Ob.no ?_ (by assumption))))
  have hR1 : Ob w1 (w.heap.size + 1) #[.slice none 0 0, .slice none 0 0] 25 := (by (repeat (first | with_reducible assumption | with_reducible refine Ob.other ?_ (by first | (simp; done) | (simp; omega)) _ | ((with_reducible refine Ob.new_ _ _ _ _ ?_) <;> (simp; done)) | with_reducible refine Ob.alloc ?_ _ | with_reducible refine Ob.drew ?_ | with_reducible refine Ob.drewN ?_ _ | with_reducible refine Ob.no ?_ (by assumption))))
  have hR2 : Ob w1 (w.heap.size + 1 + 1) #[.slice none 0 0, .slice none 0 0] 25 := (by (repeat (first | with_reducible assumption | with_reducible refine Ob.other ?_ (by first | (simp; done) | (simp; omega)) _ | ((with_reducible refine Ob.new_ _ _ _ _ ?_) <;> (simp; done)) | with_reducible refine Ob.alloc ?_ _ | with_reducible refine Ob.drew ?_ | with_reducible refine Ob.drewN ?_ _ | with_reducible refine Ob.no ?_ (by assumption))))
  have hl1 : Kv w1 (some ⟨ga, oa, none⟩) n cn lo := (by (repeat (first | with_reducible assumption | ((with_reducible refine Kv.lit_new _ _ _ _ _ _ ?_ ?_ ?_ ?_) <;> (first | (simp; done) | rfl | decide)) | with_reducible exact Kv.none_ _ | with_reducible refine Kv.alloc ?_ _ | with_reducible refine Kv.drew ?_ | with_reducible refine Kv.drewN ?_ _ | with_reducible refine Kv.no ?_ (by assumption))))
  have hh1 : Kv w1 (some ⟨gb, ob, none⟩) n cm hi := (by (repeat (first | with_reducible assumption | ((with_reducible refine Kv.lit_new _ _ _ _ _ _ ?_ ?_ ?_ ?_) <;> (first | (simp; done) | rfl | decide)) | with_reducible exact Kv.none_ _ | with_reducible refine Kv.alloc ?_ _ | with_reducible refine Kv.drew ?_ | with_reducible refine Kv.drewN ?_ _ | with_reducible refine Kv.no ?_ (by assumption))))
  have hF1 : Fr No w w1 := (by (repeat (first | with_reducible exact Fr.refl _ _ | with_reducible refine Fr.setCell ?_ (.inr (by first | (simp; done) | (simp; omega))) _ | with_reducible refine Fr.alloc ?_ _ | with_reducible refine Fr.drew ?_ | with_reducible refine Fr.drewN ?_ _ | with_reducible refine Fr.tr ?_ (by assumption))))
  obtain ⟨s0, s1⟩ := cells2 hA
  have ca1 : w1.cell? ⟨ga, oa + j, none⟩ = some (.int .u32 (x : Int)) := (by (repeat (first | with_reducible assumption | with_reducible refine cel_alloc ?_ _ | with_reducible refine cel_drew ?_ | with_reducible refine cel_drewN ?_ _ | with_reducible refine cel_set ?_ (by first | (simp; done) | (simp; omega)) _ | with_reducible refine cel_no ?_ (by assumption))))
  have cb1 : w1.cell? ⟨gb, ob + j, none⟩ = some (.int .u32 (y : Int)) := (by (repeat (first | with_reducible assumption | with_reducible refine cel_alloc ?_ _ | with_reducible refine cel_drew ?_ | with_reducible refine cel_drewN ?_ _ | with_reducible refine cel_set ?_ (by first | (simp; done) | (simp; omega)) _ | with_reducible refine cel_no ?_ (by assumption))))
  go_wp2
  go_quiet (fail)
  rw [Hmd2.out]
  have hA' := hA.drewN nq
  have hR1' := hR1.drewN nq
  have hR2' := hR2.drewN nq
  have hl1' := hl1.no ((Fr.refl No w1).drewN nq)
  have hh1' := hh1.no ((Fr.refl No w1).drewN nq)
  have hF1' := hF1.drewN nq
  clear hA hR1 hR2 hl1 hh1 hF1 s0 s1 ca1 cb1 hf1 q0 q1 q2 q3 r0 r1 r2 r3
  generalize w1.drewN nq = w1 at *
  have hA := hA'
  have hR1 := hR1'
  have hR2 := hR2'
  have hl1 := hl1'
  have hh1 := hh1'
  have hF1 := hF1'
  clear hA' hR1' hR2' hl1' hh1' hF1'
  have hz1 := hF1.size
  have hz2 : w.heap.size + 1 + 1 + 1 ≤ w1.heap.size := by have := hR2.lt; omega
  go_wp2_with fail
  go_upto_region 5 with (fail)
  go_cut [8] (fun v wx => ∃ g a ca b cb, v = .pointer (some ⟨g, 0, none⟩) ∧ Hid (H1 w wx (some ⟨ga, oa, none⟩) (some ⟨gb, ob, none⟩) n cn cm lo hi g a ca b cb))
  case first =>
    go_region_held3 (fun w' => w'.cell? ⟨w.heap.size, 0, none⟩ = some (.slice (some ⟨ga, oa, none⟩) n cn) ∧ w'.cell? ⟨w.heap.size, 1, none⟩ = some (.slice (some ⟨gb, ob, none⟩) n cm))
      ((refine cells2 (t := 25) ?_; (repeat (first | with_reducible assumption | with_reducible refine Ob.other ?_ (by first | (simp; done) | (simp; omega)) _ | ((with_reducible refine Ob.new_ _ _ _ _ ?_) <;> (simp; done)) | with_reducible refine Ob.alloc ?_ _ | with_reducible refine Ob.drew ?_ | with_reducible refine Ob.drewN ?_ _ | with_reducible refine Ob.no ?_ (by assumption)))))
      (first
        | (go_at_call 32; ((with_reducible refine (rcopy_any (ks := lo) ?_ q3).mono ?_); (repeat (first | with_reducible assumption | ((with_reducible refine Kv.lit_new _ _ _ _ _ _ ?_ ?_ ?_ ?_) <;> (first | (simp; done) | rfl | decide)) | with_reducible exact Kv.none_ _ | with_reducible refine Kv.alloc ?_ _ | with_reducible refine Kv.drew ?_ | with_reducible refine Kv.drewN ?_ _ | with_reducible refine Kv.no ?_ (by assumption))); rintro e w2 ⟨A2, c2, rfl, ho2, hf2⟩; obtain ⟨a2, rfl, l2, k2⟩ := own_some ho2 (Nat.lt_of_le_of_lt (Nat.zero_le _) q1); have hp2 := own_base ho2 (show w.heap.size + 1 + 1 + 1 ≤ _ from (by first | omega | (simp; omega)))))
        | (go_at_call 32; ((with_reducible refine (rcopy_any (ks := hi) ?_ q3).mono ?_); (repeat (first | with_reducible assumption | ((with_reducible refine Kv.lit_new _ _ _ _ _ _ ?_ ?_ ?_ ?_) <;> (first | (simp; done) | rfl | decide)) | with_reducible exact Kv.none_ _ | with_reducible refine Kv.alloc ?_ _ | with_reducible refine Kv.drew ?_ | with_reducible refine Kv.drewN ?_ _ | with_reducible refine Kv.no ?_ (by assumption))); rintro e w3 ⟨A3, c3, rfl, ho3, hf3⟩; obtain ⟨a3, rfl, l3, k3⟩ := own_some ho3 (Nat.lt_of_le_of_lt (Nat.zero_le _) q1); have hz2 := hf2.size; (try simp at hz2); have hp3 := own_base ho3 (show w.heap.size + 1 + 1 + 1 ≤ _ from (by first | omega | (simp; omega))); have hz3 := hf3.size; (try simp at hz3); (try simp at l2); (try simp at l3); (try (refine use_ (a := Ob w3 w1.heap.size #[.slice none 0 0, .slice none 0 0] 25) ?_ (fun zz => ?_); (focus ((repeat (first | with_reducible assumption | with_reducible refine Ob.other ?_ (by first | (simp; done) | (simp; omega)) _ | ((with_reducible refine Ob.new_ _ _ _ _ ?_) <;> (simp; done)) | with_reducible refine Ob.alloc ?_ _ | with_reducible refine Ob.drew ?_ | with_reducible refine Ob.drewN ?_ _ | with_reducible refine Ob.no ?_ (by assumption))); done)); obtain ⟨z0, z1, z2, z3⟩ := Ob.four zz; clear zz)); (try (refine use_ (a := Ob w3 w2.heap.size #[.slice none 0 0, .slice none 0 0] 25) ?_ (fun zz => ?_); (focus ((repeat (first | with_reducible assumption | with_reducible refine Ob.other ?_ (by first | (simp; done) | (simp; omega)) _ | ((with_reducible refine Ob.new_ _ _ _ _ ?_) <;> (simp; done)) | with_reducible refine Ob.alloc ?_ _ | with_reducible refine Ob.drew ?_ | with_reducible refine Ob.drewN ?_ _ | with_reducible refine Ob.no ?_ (by assumption))); done)); obtain ⟨z0, z1, z2, z3⟩ := Ob.four zz; clear zz))))
        | fail)
    all_goals
      go_wp2_with fail
      go_meet
      refine ⟨_, a2, c2, a3, c3, rfl, Lib.hid ⟨?_, ?_, ?_, ⟨?_, ?_, ?_, ?_, ?_⟩, ?_⟩⟩
      all_goals try (first | ((with_reducible refine Ob.put2 (x := .slice none 0 0) (y := .slice none 0 0) ?_ _ _); (repeat (first | with_reducible assumption | with_reducible refine Ob.other ?_ (by first | (simp; done) | (simp; omega)) _ | ((with_reducible refine Ob.new_ _ _ _ _ ?_) <;> (simp; done)) | with_reducible refine Ob.alloc ?_ _ | with_reducible refine Ob.drew ?_ | with_reducible refine Ob.drewN ?_ _ | with_reducible refine Ob.no ?_ (by assumption))); done) | ((repeat (first | with_reducible assumption | with_reducible refine Ob.other ?_ (by first | (simp; done) | (simp; omega)) _ | ((with_reducible refine Ob.new_ _ _ _ _ ?_) <;> (simp; done)) | with_reducible refine Ob.alloc ?_ _ | with_reducible refine Ob.drew ?_ | with_reducible refine Ob.drewN ?_ _ | with_reducible refine Ob.no ?_ (by assumption))); done))
      all_goals try ((repeat (first | with_reducible assumption | with_reducible refine own_putb ?_ (by first | (simp; done) | (simp; omega)) _ | with_reducible refine World.ownsRow.alloc ?_ _ | with_reducible refine World.ownsRow.drew ?_ | with_reducible refine own_drewN ?_ _ | with_reducible refine own_no ?_ (by assumption))); done)
      all_goals try (first | omega | (refine ⟨?_, ?_, ?_⟩ <;> omega))
      all_goals try ((repeat (first | with_reducible exact Fr.refl _ _ | with_reducible refine Fr.setCell ?_ (.inr (by first | (simp; done) | (simp; omega))) _ | with_reducible refine Fr.alloc ?_ _ | with_reducible refine Fr.drew ?_ | with_reducible refine Fr.drewN ?_ _ | with_reducible refine Fr.tr ?_ (by assumption))); done)
  case rest =>
    clear hz1 hz2 hA hR1 hR2 hl1 hh1 hF1
    obtain ⟨g, a, ca, b, cb, rfl, H⟩ := hcut
    generalize wc = w1 at *
    have hA := H.out.arg
    have hR1 := H.out.r1
    have hR2 := H.out.r2
    have hl1 := hl.no H.out.fr
    have hh1 := hh.no H.out.fr
    have hF1 := H.out.fr
    have hB := H.out.bx
    obtain ⟨u1, u2, u3, u4, u5, u6⟩ := H.out.bx.blk
    have hz1 := hF1.size
    go_upto_region 6 with (fail)
    go_cut [9] (fun v wx => ∃ k c cc d cd, v = .pointer (some ⟨k, 0, none⟩) ∧ Hid (H2 w wx w1.heap.size n lo hi lo hi g a ca b cb k c cc d cd))
    case first =>
      go_region_held3 (fun w' => w'.cell? ⟨w.heap.size, 0, none⟩ = some (.slice (some ⟨ga, oa, none⟩) n cn) ∧ w'.cell? ⟨w.heap.size, 1, none⟩ = some (.slice (some ⟨gb, ob, none⟩) n cm))
        ((refine cells2 (t := 25) ?_; (repeat (first | with_reducible assumption | with_reducible refine Ob.other ?_ (by first | (simp; done) | (simp; omega)) _ | ((with_reducible refine Ob.new_ _ _ _ _ ?_) <;> (simp; done)) | with_reducible refine Ob.alloc ?_ _ | with_reducible refine Ob.drew ?_ | with_reducible refine Ob.drewN ?_ _ | with_reducible refine Ob.no ?_ (by assumption)))))
        (first
          | (go_at_call 32; ((with_reducible refine (rcopy_any (ks := lo) ?_ q3).mono ?_); (repeat (first | with_reducible assumption | ((with_reducible refine Kv.lit_new _ _ _ _ _ _ ?_ ?_ ?_ ?_) <;> (first | (simp; done) | rfl | decide)) | with_reducible exact Kv.none_ _ | with_reducible refine Kv.alloc ?_ _ | with_reducible refine Kv.drew ?_ | with_reducible refine Kv.drewN ?_ _ | with_reducible refine Kv.no ?_ (by assumption))); rintro e w2 ⟨A2, c2, rfl, ho2, hf2⟩; obtain ⟨a2, rfl, l2, k2⟩ := own_some ho2 (Nat.lt_of_le_of_lt (Nat.zero_le _) q1); have hp2 := own_base ho2 (show w.heap.size + 1 + 1 + 1 ≤ _ from (by first | omega | (simp; omega)))))
          | (go_at_call 32; ((with_reducible refine (rcopy_any (ks := hi) ?_ q3).mono ?_); (repeat (first | with_reducible assumption | ((with_reducible refine Kv.lit_new _ _ _ _ _ _ ?_ ?_ ?_ ?_) <;> (first | (simp; done) | rfl | decide)) | with_reducible exact Kv.none_ _ | with_reducible refine Kv.alloc ?_ _ | with_reducible refine Kv.drew ?_ | with_reducible refine Kv.drewN ?_ _ | with_reducible refine Kv.no ?_ (by assumption))); rintro e w3 ⟨A3, c3, rfl, ho3, hf3⟩; obtain ⟨a3, rfl, l3, k3⟩ := own_some ho3 (Nat.lt_of_le_of_lt (Nat.zero_le _) q1); have hz2 := hf2.size; (try simp at hz2); have hp3 := own_base ho3 (show w.heap.size + 1 + 1 + 1 ≤ _ from (by first | omega | (simp; omega))); have hz3 := hf3.size; (try simp at hz3); (try simp at l2); (try simp at l3); (try (refine use_ (a := Ob w3 w1.heap.size #[.slice none 0 0, .slice none 0 0] 25) ?_ (fun zz => ?_); (focus ((repeat (first | with_reducible assumption | with_reducible refine Ob.other ?_ (by first | (simp; done) | (simp; omega)) _ | ((with_reducible refine Ob.new_ _ _ _ _ ?_) <;> (simp; done)) | with_reducible refine Ob.alloc ?_ _ | with_reducible refine Ob.drew ?_ | with_reducible refine Ob.drewN ?_ _ | with_reducible refine Ob.no ?_ (by assumption))); done)); obtain ⟨z0, z1, z2, z3⟩ := Ob.four zz; clear zz)); (try (refine use_ (a := Ob w3 w2.heap.size #[.slice none 0 0, .slice none 0 0] 25) ?_ (fun zz => ?_); (focus ((repeat (first | with_reducible assumption | with_reducible refine Ob.other ?_ (by first | (simp; done) | (simp; omega)) _ | ((with_reducible refine Ob.new_ _ _ _ _ ?_) <;> (simp; done)) | with_reducible refine Ob.alloc ?_ _ | with_reducible refine Ob.drew ?_ | with_reducible refine Ob.drewN ?_ _ | with_reducible refine Ob.no ?_ (by assumption))); done)); obtain ⟨z0, z1, z2, z3⟩ := Ob.four zz; clear zz))))
          | fail)
      all_goals
        go_wp2_with fail
        go_meet
        refine ⟨_, a2, c2, a3, c3, rfl, Lib.hid ⟨?_, ?_, ?_, ⟨?_, ?_, ?_, ?_, ?_⟩, ?_, ?_⟩⟩
        all_goals try (first | ((with_reducible refine Ob.put2 (x := .slice none 0 0) (y := .slice none 0 0) ?_ _ _); (repeat (first | with_reducible assumption | with_reducible refine Ob.other ?_ (by first | (simp; done) | (simp; omega)) _ | ((with_reducible refine Ob.new_ _ _ _ _ ?_) <;> (simp; done)) | with_reducible refine Ob.alloc ?_ _ | with_reducible refine Ob.drew ?_ | with_reducible refine Ob.drewN ?_ _ | with_reducible refine Ob.no ?_ (by assumption))); done) | ((repeat (first | with_reducible assumption | with_reducible refine Ob.other ?_ (by first | (simp; done) | (simp; omega)) _ | ((with_reducible refine Ob.new_ _ _ _ _ ?_) <;> (simp; done)) | with_reducible refine Ob.alloc ?_ _ | with_reducible refine Ob.drew ?_ | with_reducible refine Ob.drewN ?_ _ | with_reducible refine Ob.no ?_ (by assumption))); done))
        all_goals try ((repeat (first | with_reducible assumption | with_reducible refine own_putb ?_ (by first | (simp; done) | (simp; omega)) _ | with_reducible refine World.ownsRow.alloc ?_ _ | with_reducible refine World.ownsRow.drew ?_ | with_reducible refine own_drewN ?_ _ | with_reducible refine own_no ?_ (by assumption))); done)
        all_goals try (first | omega | (refine ⟨?_, ?_, ?_⟩ <;> omega))
        all_goals try ((repeat (first | with_reducible exact Fr.refl _ _ | with_reducible refine Fr.setCell ?_ (.inr (by first | (simp; done) | (simp; omega))) _ | with_reducible refine Fr.alloc ?_ _ | with_reducible refine Fr.drew ?_ | with_reducible refine Fr.drewN ?_ _ | with_reducible refine Fr.tr ?_ (by assumption))); done)
        all_goals try (repeat (first | with_reducible assumption | with_reducible refine Bo.alloc ?_ _ | with_reducible refine Bo.drew ?_ | with_reducible refine Bo.other ?_ (by simp; omega) _ | with_reducible refine Bo.no ?_ (by assumption)))
    case rest =>
      clear hz1 hA hR1 hR2 hl1 hh1 hF1 hB
      obtain ⟨k, c, cc, d, cd, rfl, H2⟩ := hcut
      generalize w1.heap.size = B0 at *
      clear H u1 u2 u3 u4 u5 u6
      generalize wc = w2 at *
      obtain ⟨x0, x1, x2, x3, x4, x5⟩ := H2.out.bx.eyes q1
      obtain ⟨y0, y1, y2, y3, y4, y5⟩ := H2.out.b2.eyes q1
      have hcap := H2.out.bx.ob
      have k1 : n ≤ cb := by
        rcases H2.out.bx.hi.2 with ⟨h, _⟩ | ⟨_, _, _, h, _, _, h2, _⟩
        · cases h
        · injection h with _ _ h; omega
      have k2 : n ≤ cc := by
        rcases H2.out.b2.lo.2 with ⟨h, _⟩ | ⟨_, _, _, h, _, _, h2, _⟩
        · cases h
        · injection h with _ _ h; omega
      obtain ⟨l1, l2, l3, l4, l5, l6⟩ := H2.out.lt
      have nbc : b ≠ c := by omega
      have ngb : g ≠ b := H2.out.bx.ne.2.2
      have ngc : g ≠ c := by omega
      have nkb : k ≠ b := by omega
      have nkc : k ≠ c := H2.out.b2.ne.2.1
      have hwr : IntKind.u32.wrap ((mid : Int) + 1) = ((mid + 1 : Nat) : Int) := (Go.IntWalk.u32_in _ (by omega)).trans (by omega)
      go_wp2_with fail
      have h3 : Ha16.H2 w ((w2.setCell ⟨b, j, none⟩ (.int .u32 (mid : Int))).setCell ⟨c, j, none⟩ (.int .u32 ((mid : Int) + 1))) B0 n lo (hi.set j mid) (lo.set j (mid + 1)) hi g a ca b cb k c cc d cd := H2.out.set j mid (mid + 1)
      have H3 := Lib.hid h3
      clear x0 x1 x2 x3 x4 x5 y0 y1 y2 y3 y4 y5 hcap k1 k2 nbc ngb ngc nkb nkc H2 h3
      generalize ((w2.setCell ⟨b, j, none⟩ (.int .u32 (mid : Int))).setCell ⟨c, j, none⟩ (.int .u32 ((mid : Int) + 1))) = w3 at *
      obtain ⟨x0, x1⟩ := cells2 H3.out.bx.ob
      obtain ⟨y0, y1⟩ := cells2 H3.out.b2.ob
      obtain ⟨z0, z1, z2, z3⟩ := Ob.four H3.out.r1
      obtain ⟨v0, v1, v2, v3⟩ := Ob.four H3.out.r2
      obtain ⟨u1, u2, u3, u4, u5, u6⟩ := H3.out.bx.blk
      obtain ⟨t1, t2, t3, t4, t5, t6⟩ := H3.out.b2.blk
      go_region_held3 (fun w' => w'.cell? ⟨g, 0, none⟩ = some (.slice (some ⟨a, 0, none⟩) n ca) ∧ w'.cell? ⟨g, 1, none⟩ = some (.slice (some ⟨b, 0, none⟩) n cb) ∧ w'.cell? ⟨k, 0, none⟩ = some (.slice (some ⟨c, 0, none⟩) n cc) ∧ w'.cell? ⟨k, 1, none⟩ = some (.slice (some ⟨d, 0, none⟩) n cd))
        (refine ⟨?_, ?_, ?_, ?_⟩ <;> (repeat (first | with_reducible assumption | with_reducible refine cel_alloc ?_ _ | with_reducible refine cel_drew ?_ | with_reducible refine cel_drewN ?_ _ | with_reducible refine cel_set ?_ (by first | (simp; done) | (simp; omega)) _ | with_reducible refine cel_no ?_ (by assumption)))) (fail)
      have P1 : Ob ((((w3.setCell ⟨w.heap.size + 1, 0, none⟩ (.slice (some ⟨a, 0, none⟩) n ca)).setCell ⟨w.heap.size + 1, 1, none⟩ (.slice (some ⟨b, 0, none⟩) n cb)).setCell ⟨w.heap.size + 1 + 1, 0, none⟩ (.slice (some ⟨c, 0, none⟩) n cc)).setCell ⟨w.heap.size + 1 + 1, 1, none⟩ (.slice (some ⟨d, 0, none⟩) n cd)) (w.heap.size + 1) #[.slice (some ⟨a, 0, none⟩) n ca, .slice (some ⟨b, 0, none⟩) n cb] 25 := ((Ob.put2 H3.out.r1 _ _).other (p := ⟨w.heap.size + 1 + 1, 0, none⟩) (by simp) _).other (p := ⟨w.heap.size + 1 + 1, 1, none⟩) (by simp) _
      have P2 : Ob ((((w3.setCell ⟨w.heap.size + 1, 0, none⟩ (.slice (some ⟨a, 0, none⟩) n ca)).setCell ⟨w.heap.size + 1, 1, none⟩ (.slice (some ⟨b, 0, none⟩) n cb)).setCell ⟨w.heap.size + 1 + 1, 0, none⟩ (.slice (some ⟨c, 0, none⟩) n cc)).setCell ⟨w.heap.size + 1 + 1, 1, none⟩ (.slice (some ⟨d, 0, none⟩) n cd)) (w.heap.size + 1 + 1) #[.slice (some ⟨c, 0, none⟩) n cc, .slice (some ⟨d, 0, none⟩) n cd] 25 := Ob.put2 ((H3.out.r2.other (p := ⟨w.heap.size + 1, 0, none⟩) (by simp) _).other (p := ⟨w.heap.size + 1, 1, none⟩) (by simp) _) _ _
      obtain ⟨r0, r1⟩ := cells2 P1
      obtain ⟨r2, r3⟩ := cells2 P2
      go_wp2
      refine bodyPost_ret (v := .tuple #[.agg #[.slice (some ⟨a, 0, none⟩) n ca, .slice (some ⟨b, 0, none⟩) n cb], .agg #[.slice (some ⟨c, 0, none⟩) n cc, .slice (some ⟨d, 0, none⟩) n cd], .bool true]) (by simp [results, Try.results12, go_sem, r0, r1, r2, r3]) rfl ?_
      obtain ⟨l1, l2, l3, l4, l5, l6⟩ := H3.out.lt
      have o1 := H3.out.bx.lo
      have o2 := H3.out.bx.hi
      have o3 := H3.out.b2.lo
      have o4 := H3.out.b2.hi
      have F := H3.out.fr
      refine ⟨a, ca, b, cb, c, cc, d, cd, rfl, ?_, ?_, ?_, ?_, H3.out.bx.ne.1, H3.out.b2.ne.1, by omega, by omega, ?_⟩
      · refine own_base (base := w.heap.size + 1 + 1 + 1) ?_ (by omega)
        (repeat (first | with_reducible assumption | with_reducible refine own_putb ?_ (by first | (simp; done) | (simp; omega)) _ | with_reducible refine World.ownsRow.alloc ?_ _ | with_reducible refine World.ownsRow.drew ?_ | with_reducible refine own_drewN ?_ _ | with_reducible refine own_no ?_ (by assumption)))
      · refine own_base (base := w.heap.size + 1 + 1 + 1) ?_ (by omega)
        (repeat (first | with_reducible assumption | with_reducible refine own_putb ?_ (by first | (simp; done) | (simp; omega)) _ | with_reducible refine World.ownsRow.alloc ?_ _ | with_reducible refine World.ownsRow.drew ?_ | with_reducible refine own_drewN ?_ _ | with_reducible refine own_no ?_ (by assumption)))
      · refine own_base (base := w.heap.size + 1 + 1 + 1) ?_ (by omega)
        (repeat (first | with_reducible assumption | with_reducible refine own_putb ?_ (by first | (simp; done) | (simp; omega)) _ | with_reducible refine World.ownsRow.alloc ?_ _ | with_reducible refine World.ownsRow.drew ?_ | with_reducible refine own_drewN ?_ _ | with_reducible refine own_no ?_ (by assumption)))
      · refine own_base (base := w.heap.size + 1 + 1 + 1) ?_ (by omega)
        (repeat (first | with_reducible assumption | with_reducible refine own_putb ?_ (by first | (simp; done) | (simp; omega)) _ | with_reducible refine World.ownsRow.alloc ?_ _ | with_reducible refine World.ownsRow.drew ?_ | with_reducible refine own_drewN ?_ _ | with_reducible refine own_no ?_ (by assumption)))
      · (repeat (first | with_reducible exact Fr.refl _ _ | with_reducible refine Fr.setCell ?_ (.inr (by first | (simp; done) | (simp; omega))) _ | with_reducible refine Fr.alloc ?_ _ | with_reducible refine Fr.drew ?_ | with_reducible refine Fr.drewN ?_ _ | with_reducible refine Fr.tr ?_ (by assumption)))
end
end Go.Proofs.Ytbncakbgljhnkaa.Hc16
