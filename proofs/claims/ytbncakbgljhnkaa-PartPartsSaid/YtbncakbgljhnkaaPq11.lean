/- Layer 11 in plain Lean: what halves are; two points are parted. No program in sight. -/
import Derived.Test.YtbncakbgljhnkaaPz11
namespace Go.Proofs.Ytbncakbgljhnkaa.Pq11
open Go.Proofs.Ytbncakbgljhnkaa.Pk08 Go.Proofs.Ytbncakbgljhnkaa.Pl08 Go.Proofs.Ytbncakbgljhnkaa.Pm08 Go.Proofs.Ytbncakbgljhnkaa.Px16 Go.Proofs.Ytbncakbgljhnkaa.Ha16 Go.Proofs.Ytbncakbgljhnkaa.Rv Go.Proofs.Ytbncakbgljhnkaa.Py11 Go.Proofs.Ytbncakbgljhnkaa.Pz11
set_option linter.unusedVariables false
set_option linter.unusedSimpArgs false
theorem wide_parts {lo hi : List Nat} {j : Nat} (hw : wideB lo hi (j : Int) = true) : j < lo.length ∧ lo.length ≤ 6 ∧ hi.length = lo.length ∧ lo.getD j 0 < hi.getD j 0 ∧ chkB lo hi lo.length = 0 := by
  have hb := wide_has hw
  obtain ⟨p1, p2, p3, p4⟩ := has_parts hb
  unfold wideB at hw
  rw [Bool.and_eq_true, decide_eq_true_eq, Int.toNat_natCast] at hw
  exact ⟨p1, p2, p3, hw.2, (hasB_iff.1 hb).2.2⟩
theorem mid_in {lo hi : List Nat} {j : Nat} (h : lo.getD j 0 < hi.getD j 0) : lo.getD j 0 ≤ midB lo hi j ∧ midB lo hi j < hi.getD j 0 := by
  unfold midB
  omega
theorem setD (l : List Nat) (m v j : Nat) (hm : m < l.length) : (l.set m v).getD j 0 = if m = j then v else l.getD j 0 := set_get l m v j hm
theorem inb_x {lo hi k : List Nat} {j : Nat} (hw : wideB lo hi (j : Int) = true) : inB k lo (hi.set j (midB lo hi j)) = true ↔ (inB k lo hi = true ∧ k.getD j 0 ≤ midB lo hi j) := by
  obtain ⟨p1, p2, p3, p4, p5⟩ := wide_parts hw
  obtain ⟨m1, m2⟩ := mid_in p4
  rw [inB_iff, inB_iff]
  constructor
  · rintro ⟨h1, h2, h3⟩
    rw [List.length_set] at h2
    have hj := h3 j (by omega)
    rw [setD _ _ _ _ (by omega), if_pos rfl] at hj
    refine ⟨⟨h1, h2, fun i hi => ?_⟩, hj.2⟩
    have h4 := h3 i hi
    rw [setD _ _ _ _ (by omega)] at h4
    split at h4
    · next e => subst e; omega
    · exact h4
  · rintro ⟨⟨h1, h2, h3⟩, h4⟩
    refine ⟨h1, by rw [List.length_set]; exact h2, fun i hi => ?_⟩
    have h5 := h3 i hi
    rw [setD _ _ _ _ (by omega)]
    split
    · next e => subst e; exact ⟨h5.1, h4⟩
    · exact h5
theorem inb_y {lo hi k : List Nat} {j : Nat} (hw : wideB lo hi (j : Int) = true) : inB k (lo.set j (midB lo hi j + 1)) hi = true ↔ (inB k lo hi = true ∧ midB lo hi j < k.getD j 0) := by
  obtain ⟨p1, p2, p3, p4, p5⟩ := wide_parts hw
  obtain ⟨m1, m2⟩ := mid_in p4
  rw [inB_iff, inB_iff]
  constructor
  · rintro ⟨h1, h2, h3⟩
    rw [List.length_set] at h1
    have hj := h3 j (by omega)
    rw [setD _ _ _ _ (by omega), if_pos rfl] at hj
    refine ⟨⟨h1, h2, fun i hi => ?_⟩, by omega⟩
    have h4 := h3 i hi
    rw [setD _ _ _ _ (by omega)] at h4
    split at h4
    · next e => subst e; omega
    · exact h4
  · rintro ⟨⟨h1, h2, h3⟩, h4⟩
    refine ⟨by rw [List.length_set]; exact h1, h2, fun i hi => ?_⟩
    have h5 := h3 i hi
    rw [setD _ _ _ _ (by omega)]
    split
    · next e => subst e; omega
    · exact h5
theorem chk_x {lo hi : List Nat} {j : Nat} (hw : wideB lo hi (j : Int) = true) : chkB lo (hi.set j (midB lo hi j)) lo.length = 0 := by
  obtain ⟨p1, p2, p3, p4, p5⟩ := wide_parts hw
  obtain ⟨m1, m2⟩ := mid_in p4
  obtain ⟨q1, q2, q3, q4⟩ := chkB_zero.1 p5
  refine chkB_zero.2 ⟨q1, q2, q3, (leL_iff _ _).2 ⟨by rw [List.length_set]; exact p3.symm, fun i hi => ?_⟩⟩
  rw [setD _ _ _ _ (by omega)]
  split
  · next e => subst e; exact m1
  · exact ((leL_iff _ _).1 q4).2 i hi
theorem chk_y {lo hi : List Nat} {j : Nat} (hw : wideB lo hi (j : Int) = true) : chkB (lo.set j (midB lo hi j + 1)) hi lo.length = 0 := by
  obtain ⟨p1, p2, p3, p4, p5⟩ := wide_parts hw
  obtain ⟨m1, m2⟩ := mid_in p4
  obtain ⟨q1, q2, q3, q4⟩ := chkB_zero.1 p5
  refine chkB_zero.2 ⟨q1, q2, by rw [List.length_set], (leL_iff _ _).2 ⟨by rw [List.length_set]; exact p3.symm, fun i hi => ?_⟩⟩
  rw [List.length_set] at hi
  rw [setD _ _ _ _ (by omega)]
  split
  · next e => subst e; omega
  · exact ((leL_iff _ _).1 q4).2 i hi
/-- Which of a box's halves a point is in. -/
theorem in_cases {lo hi k : List Nat} {j : Nat} (hw : wideB lo hi (j : Int) = true) :
    (inB k lo hi = true ∧ inB k lo (hi.set j (midB lo hi j)) = true ∧ inB k (lo.set j (midB lo hi j + 1)) hi = false) ∨
    (inB k lo hi = true ∧ inB k lo (hi.set j (midB lo hi j)) = false ∧ inB k (lo.set j (midB lo hi j + 1)) hi = true) ∨
    (inB k lo hi = false ∧ inB k lo (hi.set j (midB lo hi j)) = false ∧ inB k (lo.set j (midB lo hi j + 1)) hi = false) := by
  have hx := inb_x (k := k) hw
  have hy := inb_y (k := k) hw
  cases h0 : inB k lo hi with
  | false =>
    right; right
    refine ⟨rfl, ?_, ?_⟩
    · cases h : inB k lo (hi.set j (midB lo hi j)) with
      | false => rfl
      | true => have := (hx.1 h).1; rw [h0] at this; cases this
    · cases h : inB k (lo.set j (midB lo hi j + 1)) hi with
      | false => rfl
      | true => have := (hy.1 h).1; rw [h0] at this; cases this
  | true =>
    by_cases h1 : k.getD j 0 ≤ midB lo hi j
    · left
      refine ⟨rfl, hx.2 ⟨h0, h1⟩, ?_⟩
      cases h : inB k (lo.set j (midB lo hi j + 1)) hi with
      | false => rfl
      | true => have := (hy.1 h).2; omega
    · right; left
      refine ⟨rfl, ?_, hy.2 ⟨h0, by omega⟩⟩
      cases h : inB k lo (hi.set j (midB lo hi j)) with
      | false => rfl
      | true => have := (hx.1 h).2; omega
/-! ### sizes -/
def Szs (lo hi es : List Nat) : Prop := es.length = lo.length ∧ hi.length = lo.length ∧ ∀ j, j < lo.length → hi.getD j 0 + 1 = lo.getD j 0 + 2 ^ (es.getD j 0)
theorem sum_pred : ∀ (es : List Nat) (j : Nat), j < es.length → 0 < es.getD j 0 → (es.set j (es.getD j 0 - 1)).sum + 1 = es.sum
  | [], j, h, _ => by simp at h
  | e :: es, 0, h, h0 => by
    simp only [List.getD_cons_zero] at h0 ⊢
    simp only [List.set_cons_zero, List.sum_cons]
    omega
  | e :: es, j + 1, h, h0 => by
    simp only [List.getD_cons_succ] at h0 ⊢
    simp only [List.set_cons_succ, List.sum_cons]
    have := sum_pred es j (by simpa using h) h0
    omega
theorem sum_zero : ∀ (es : List Nat), es.sum = 0 → ∀ j, es.getD j 0 = 0
  | [], _, j => by simp
  | e :: es, h, 0 => by simp only [List.sum_cons] at h; simp; omega
  | e :: es, h, j + 1 => by
    simp only [List.sum_cons] at h
    have := sum_zero es (by omega) j
    simpa using this
theorem sum_rep (n : Nat) : (List.replicate n 32).sum = 32 * n := by
  induction n with
  | zero => rfl
  | succ n ih => rw [List.replicate_succ, List.sum_cons, ih]; omega
theorem szs_start (n : Nat) : Szs (List.replicate n 0) (List.replicate n 4294967295) (List.replicate n 32) := by
  refine ⟨by simp, by simp, fun j hj => ?_⟩
  rw [List.length_replicate] at hj
  rw [rep_get n 4294967295 j hj, rep_get n 0 j hj, rep_get n 32 j hj]
theorem szs_pos {lo hi es : List Nat} {j : Nat} (h : Szs lo hi es) (hj : j < lo.length) (hl : lo.getD j 0 < hi.getD j 0) : 0 < es.getD j 0 := by
  have := h.2.2 j hj
  rcases Nat.eq_zero_or_pos (es.getD j 0) with e | e
  · rw [e] at this; omega
  · exact e
theorem szs_x {lo hi es : List Nat} {j : Nat} (h : Szs lo hi es) (hj : j < lo.length) (hl : lo.getD j 0 < hi.getD j 0) : Szs lo (hi.set j (midB lo hi j)) (es.set j (es.getD j 0 - 1)) := by
  have hp := szs_pos h hj hl
  obtain ⟨h1, h2, h3⟩ := h
  refine ⟨by rw [List.length_set]; exact h1, by rw [List.length_set]; exact h2, fun i hi => ?_⟩
  rw [setD _ _ _ _ (by omega), setD _ _ _ _ (by omega)]
  split
  · next e =>
    subst e
    have h4 := h3 j hj
    have h5 : 2 ^ (es.getD j 0) = 2 * 2 ^ (es.getD j 0 - 1) := by
      rw [← Nat.pow_succ', show (es.getD j 0 - 1).succ = es.getD j 0 by omega]
    have h6 : 0 < 2 ^ (es.getD j 0 - 1) := Nat.pos_of_ne_zero (by simp)
    unfold midB
    omega
  · exact h3 i hi
theorem szs_y {lo hi es : List Nat} {j : Nat} (h : Szs lo hi es) (hj : j < lo.length) (hl : lo.getD j 0 < hi.getD j 0) : Szs (lo.set j (midB lo hi j + 1)) hi (es.set j (es.getD j 0 - 1)) := by
  have hp := szs_pos h hj hl
  obtain ⟨h1, h2, h3⟩ := h
  refine ⟨by rw [List.length_set, List.length_set]; exact h1, by rw [List.length_set]; exact h2, fun i hi => ?_⟩
  rw [List.length_set] at hi
  rw [setD _ _ _ _ (by omega), setD _ _ _ _ (by omega)]
  split
  · next e =>
    subst e
    have h4 := h3 j hj
    have h5 : 2 ^ (es.getD j 0) = 2 * 2 ^ (es.getD j 0 - 1) := by
      rw [← Nat.pow_succ', show (es.getD j 0 - 1).succ = es.getD j 0 by omega]
    have h6 : 0 < 2 ^ (es.getD j 0 - 1) := Nat.pos_of_ne_zero (by simp)
    unfold midB
    omega
  · exact h3 i hi
/-- Two points of a box that are not the same: it is wide somewhere. -/
theorem wide_some {lo hi a b : List Nat} (hc : chkB lo hi lo.length = 0) (ha : inB a lo hi = true) (hb : inB b lo hi = true) (hne : a ≠ b) : ∃ j, j < lo.length ∧ wideB lo hi (j : Int) = true := by
  obtain ⟨a1, a2, a3⟩ := (inB_iff _ _ _).1 ha
  obtain ⟨b1, b2, b3⟩ := (inB_iff _ _ _).1 hb
  have : ∃ j, j < a.length ∧ a.getD j 0 ≠ b.getD j 0 := by
    refine Classical.byContradiction fun hn => hne (list_eq (by omega) (fun i hi => Classical.byContradiction fun h => hn ⟨i, hi, h⟩))
  obtain ⟨j, hj, hd⟩ := this
  have h1 := a3 j hj
  have h2 := b3 j (by omega)
  refine ⟨j, by omega, ?_⟩
  unfold wideB
  rw [Bool.and_eq_true, decide_eq_true_eq, Int.toNat_natCast]
  exact ⟨hasB_iff.2 ⟨by omega, by omega, hc⟩, by omega⟩
theorem same_end {lo hi es a b : List Nat} (h : Szs lo hi es) (h0 : es.sum = 0) (ha : inB a lo hi = true) (hb : inB b lo hi = true) : a = b := by
  obtain ⟨a1, a2, a3⟩ := (inB_iff _ _ _).1 ha
  obtain ⟨b1, b2, b3⟩ := (inB_iff _ _ _).1 hb
  refine list_eq (by omega) (fun i hi => ?_)
  have h1 := h.2.2 i (by omega)
  rw [sum_zero es h0 i] at h1
  have h2 := a3 i hi
  have h3 := b3 i (by omega)
  omega
/-- What is chosen is wide, if something is. -/
theorem scan_mem {p : Nat → Bool} {f n j : Nat} (hf : f < n) (hj : j < n) (h : p j = true) : ∃ a, scan p f n = some a ∧ p a = true ∧ a < n := by
  unfold scan
  cases hs : (List.range n).find? (fun i => p ((f + i) % n)) with
  | none =>
    rw [List.find?_range_eq_none] at hs
    have := hs ((j + n - f) % n) (Nat.mod_lt _ (by omega))
    have e : (f + (j + n - f) % n) % n = j := by
      rw [Nat.add_mod, Nat.mod_mod, ← Nat.add_mod, show f + (j + n - f) = j + n by omega, Nat.add_mod_right, Nat.mod_eq_of_lt hj]
    rw [e, h] at this
    simp at this
  | some i =>
    rw [List.find?_range_eq_some] at hs
    exact ⟨(f + i) % n, rfl, hs.1, Nat.mod_lt _ (by omega)⟩
theorem scan_sound {p : Nat → Bool} {f n a : Nat} (hn : 0 < n) (h : scan p f n = some a) : p a = true ∧ a < n := by
  unfold scan at h
  rw [Option.map_eq_some_iff] at h
  obtain ⟨i, h1, rfl⟩ := h
  rw [List.find?_range_eq_some] at h1
  exact ⟨h1.1, Nat.mod_lt _ hn⟩
theorem ch_wide {lo hi : List Nat} {rs : List Rec} {f : Nat} (hf : f < lo.length) (hc : chkB lo hi lo.length = 0) (hw : ∃ j, j < lo.length ∧ wideB lo hi (j : Int) = true) : ∃ a : Nat, a < lo.length ∧ wideB lo hi (a : Int) = true ∧ chAt lo hi rs f = (a : Int) ∧ chOk lo hi rs f = true := by
  have hb : hasB lo hi (f : Int) = true := hasB_iff.2 ⟨by omega, by omega, hc⟩
  obtain ⟨j, hj, hj2⟩ := hw
  have key : ∃ a : Nat, a < lo.length ∧ wideB lo hi (a : Int) = true ∧ chO lo hi rs f = some a := by
    unfold chO
    rw [if_pos hb, Int.toNat_natCast]
    unfold chN
    cases hs : scan (fun k => bothB lo hi rs k) f lo.length with
    | some a =>
      obtain ⟨h1, h2⟩ := scan_sound (by omega) hs
      refine ⟨a, h2, ?_, rfl⟩
      unfold bothB at h1
      rw [Bool.and_eq_true, Bool.and_eq_true] at h1
      exact h1.1.1
    | none =>
      obtain ⟨a, h1, h2, h3⟩ := scan_mem (p := fun k => wideB lo hi k) hf hj hj2
      exact ⟨a, h3, h2, h1⟩
  obtain ⟨a, h1, h2, h3⟩ := key
  refine ⟨a, h1, h2, ?_, ?_⟩
  · unfold chAt; rw [h3]
  · unfold chOk; rw [h3]; rfl
end Go.Proofs.Ytbncakbgljhnkaa.Pq11
