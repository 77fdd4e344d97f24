/- Plain laws for layer 8: what two boxes have both; the box of those with some coordinates. No program in sight. -/
import Derived.Test.YtoaikponefcbiaaPl08
import Derived.Test.YtoaikponefcbiaaKr08
namespace Go.Proofs.Ytoaikponefcbiaa.Pm08
open Go.Proofs.Ytoaikponefcbiaa.Pk08 Go.Proofs.Ytoaikponefcbiaa.Pq08 Go.Proofs.Ytoaikponefcbiaa.Pl08 Go.Proofs.Ytoaikponefcbiaa.Ki08 Go.Proofs.Ytoaikponefcbiaa.Kj08 Go.Proofs.Ytoaikponefcbiaa.Kr08
set_option linter.unusedVariables false
set_option linter.unusedSimpArgs false
theorem zipL_get (f : Nat → Nat → Nat) (a b : List Nat) (i : Nat) (h : i < a.length) : (zipL f a b).getD i 0 = f (a.getD i 0) (b.getD i 0) := by
  simp [zipL, List.getD_eq_getElem?_getD, List.getElem?_map, List.getElem?_range h]
theorem inB_iff (k lo hi : List Nat) : inB k lo hi = true ↔ (lo.length = k.length ∧ k.length = hi.length ∧ ∀ i, i < k.length → lo.getD i 0 ≤ k.getD i 0 ∧ k.getD i 0 ≤ hi.getD i 0) := by
  unfold inB
  rw [Bool.and_eq_true, leL_iff, leL_iff]
  constructor
  · rintro ⟨⟨h1, h2⟩, h3, h4⟩
    exact ⟨h1, h3, fun i hi' => ⟨h2 i (by omega), h4 i hi'⟩⟩
  · rintro ⟨h1, h2, h3⟩
    exact ⟨⟨h1, fun i hi' => (h3 i (by omega)).1⟩, h2, fun i hi' => (h3 i hi').2⟩
theorem list_eq {a b : List Nat} (hl : a.length = b.length) (h : ∀ i, i < a.length → a.getD i 0 = b.getD i 0) : a = b := by
  apply List.ext_getElem hl
  intro i h1 h2
  have := h i h1
  simpa [List.getD_eq_getElem?_getD, h1, h2] using this
theorem zipL_comm (f : Nat → Nat → Nat) (hf : ∀ x y, f x y = f y x) (a b : List Nat) (h : a.length = b.length) : zipL f a b = zipL f b a := by
  apply list_eq (by rw [zipL_len, zipL_len, h])
  intro i hi
  rw [zipL_len] at hi
  rw [zipL_get f a b i hi, zipL_get f b a i (by omega), hf]
theorem meetIs_iff (al ah bl bh : List Nat) : meetIs al ah bl bh = true ↔ (ah.length = al.length ∧ bl.length = al.length ∧ bh.length = al.length ∧ 1 ≤ al.length ∧ al.length ≤ 6 ∧ ∀ i, i < al.length → max (al.getD i 0) (bl.getD i 0) ≤ min (ah.getD i 0) (bh.getD i 0)) := by
  unfold meetIs
  rw [decide_eq_true_eq]
  constructor
  · rintro ⟨h1, h2, h3, h4⟩
    rw [chkB_zero, zipL_len, leL_iff, zipL_len, zipL_len] at h4
    obtain ⟨h5, h6, _, h7, h8⟩ := h4
    refine ⟨h1, h2, h3, by omega, by omega, fun i hi => ?_⟩
    have := h8 i hi
    rwa [zipL_get _ _ _ _ hi, zipL_get _ _ _ _ (by omega)] at this
  · rintro ⟨h1, h2, h3, h4, h5, h6⟩
    refine ⟨h1, h2, h3, ?_⟩
    rw [chkB_zero, zipL_len, leL_iff, zipL_len, zipL_len]
    refine ⟨by omega, by omega, rfl, by omega, fun i hi => ?_⟩
    rw [zipL_get _ _ _ _ hi, zipL_get _ _ _ _ (by omega)]
    exact h6 i hi
theorem chkB_parts {lo hi : List Nat} {n : Nat} (h : chkB lo hi n = 0) : 1 ≤ n ∧ n ≤ 6 ∧ lo.length = n ∧ hi.length = n ∧ ∀ i, i < n → lo.getD i 0 ≤ hi.getD i 0 := by
  rw [chkB_zero, leL_iff] at h
  obtain ⟨h1, h2, h3, h4, h5⟩ := h
  exact ⟨by omega, by omega, by omega, by omega, fun i hi => h5 i (by omega)⟩
theorem meet_comm {al ah bl bh : List Nat} {n : Nat} (ha : chkB al ah n = 0) (hb : chkB bl bh n = 0) : meetIs bl bh al ah = meetIs al ah bl bh ∧ meetLo bl bh al ah = meetLo al ah bl bh ∧ meetHi bl bh al ah = meetHi al ah bl bh := by
  obtain ⟨h1, h2, h3, h4, _⟩ := chkB_parts ha
  obtain ⟨_, _, h5, h6, _⟩ := chkB_parts hb
  have e : meetIs bl bh al ah = meetIs al ah bl bh := by
    rw [Bool.eq_iff_iff, meetIs_iff, meetIs_iff]
    constructor
    · rintro ⟨_, _, _, _, _, h⟩
      exact ⟨by omega, by omega, by omega, by omega, by omega, fun i hi => by have := h i (by omega); omega⟩
    · rintro ⟨_, _, _, _, _, h⟩
      exact ⟨by omega, by omega, by omega, by omega, by omega, fun i hi => by have := h i (by omega); omega⟩
  refine ⟨e, ?_, ?_⟩
  · unfold meetLo; rw [e, zipL_comm max Nat.max_comm bl al (by omega)]
  · unfold meetHi; rw [e, zipL_comm min Nat.min_comm bh ah (by omega)]
theorem meet_both {k al ah bl bh : List Nat} (ha : chkB al ah k.length = 0) (hb : chkB bl bh k.length = 0) :
    (meetIs al ah bl bh && inB k (meetLo al ah bl bh) (meetHi al ah bl bh)) = (inB k al ah && inB k bl bh) := by
  obtain ⟨h1, h2, h3, h4, h5⟩ := chkB_parts ha
  obtain ⟨_, _, h6, h7, h8⟩ := chkB_parts hb
  rw [Bool.eq_iff_iff, Bool.and_eq_true, Bool.and_eq_true, inB_iff k al ah, inB_iff k bl bh]
  constructor
  · rintro ⟨hm, hi⟩
    unfold meetLo meetHi at hi
    rw [if_pos hm, if_pos hm, inB_iff, zipL_len, zipL_len] at hi
    obtain ⟨i1, i2, i3⟩ := hi
    have hh : ∀ i, i < k.length → al.getD i 0 ≤ k.getD i 0 ∧ bl.getD i 0 ≤ k.getD i 0 ∧ k.getD i 0 ≤ ah.getD i 0 ∧ k.getD i 0 ≤ bh.getD i 0 := fun i hi => by
      have := i3 i hi
      rw [zipL_get _ _ _ _ (by omega), zipL_get _ _ _ _ (by omega)] at this
      omega
    exact ⟨⟨by omega, by omega, fun i hi => ⟨(hh i hi).1, (hh i hi).2.2.1⟩⟩, by omega, by omega, fun i hi => ⟨(hh i hi).2.1, (hh i hi).2.2.2⟩⟩
  · rintro ⟨⟨_, _, g1⟩, _, _, g2⟩
    have hm : meetIs al ah bl bh = true := (meetIs_iff al ah bl bh).2 ⟨by omega, by omega, by omega, by omega, by omega, fun i hi => by have := g1 i (by omega); have := g2 i (by omega); omega⟩
    refine ⟨hm, ?_⟩
    unfold meetLo meetHi
    rw [if_pos hm, if_pos hm, inB_iff, zipL_len, zipL_len]
    refine ⟨by omega, by omega, fun i hi => ?_⟩
    rw [zipL_get _ _ _ _ (by omega), zipL_get _ _ _ _ (by omega)]
    have := g1 i hi
    have := g2 i hi
    omega
theorem meet_one {k lo hi : List Nat} (h : chkB lo hi k.length = 0) : meetIs lo hi k k = inB k lo hi ∧ (meetIs lo hi k k = true → meetLo lo hi k k = k ∧ meetHi lo hi k k = k) := by
  obtain ⟨h1, h2, h3, h4, h5⟩ := chkB_parts h
  have e : meetIs lo hi k k = inB k lo hi := by
    rw [Bool.eq_iff_iff, meetIs_iff, inB_iff]
    constructor
    · rintro ⟨_, _, _, _, _, g⟩
      exact ⟨by omega, by omega, fun i hi => by have := g i (by omega); omega⟩
    · rintro ⟨_, _, g⟩
      exact ⟨by omega, by omega, by omega, by omega, by omega, fun i hi => by have := g i (by omega); omega⟩
  refine ⟨e, fun hm => ?_⟩
  have g := (meetIs_iff lo hi k k).1 hm
  obtain ⟨_, _, _, _, _, g⟩ := g
  unfold meetLo meetHi
  rw [if_pos hm, if_pos hm]
  refine ⟨list_eq (by rw [zipL_len]; omega) (fun i hi => ?_), list_eq (by rw [zipL_len]; omega) (fun i hi => ?_)⟩
  · rw [zipL_len] at hi
    rw [zipL_get _ _ _ _ hi]
    have := g i (by omega)
    omega
  · rw [zipL_len] at hi
    rw [zipL_get _ _ _ _ hi]
    have := g i (by omega)
    omega
theorem corner {lo hi : List Nat} {n : Nat} (h : chkB lo hi n = 0) : inB lo lo hi = true ∧ inB hi lo hi = true := by
  obtain ⟨h1, h2, h3, h4, h5⟩ := chkB_parts h
  exact ⟨(inB_iff _ _ _).2 ⟨rfl, by omega, fun i hi => ⟨Nat.le_refl _, h5 i (by omega)⟩⟩, (inB_iff _ _ _).2 ⟨by omega, rfl, fun i hi => ⟨h5 i (by omega), Nat.le_refl _⟩⟩⟩
theorem in_self (k : List Nat) : inB k k k = true := (inB_iff _ _ _).2 ⟨rfl, rfl, fun i hi => ⟨Nat.le_refl _, Nat.le_refl _⟩⟩
theorem rep_get (d v i : Nat) (h : i < d) : (List.replicate d v).getD i 0 = v := by simp [List.getD_eq_getElem?_getD, List.getElem?_replicate, h]
theorem in_whole {k : List Nat} {d : Nat} (hd : k.length = d) (hk : ∀ x ∈ k, x < 4294967296) : inB k (List.replicate d 0) (List.replicate d 4294967295) = true := by
  rw [inB_iff, List.length_replicate, List.length_replicate]
  refine ⟨by omega, by omega, fun i hi => ?_⟩
  rw [rep_get d _ i (by omega), rep_get d _ i (by omega)]
  have := hk (k.getD i 0) (by rw [List.getD_eq_getElem?_getD, List.getElem?_eq_getElem hi]; exact List.getElem_mem hi)
  omega
theorem set_get (l : List Nat) (m v j : Nat) (hm : m < l.length) : (l.set m v).getD j 0 = if m = j then v else l.getD j 0 := by
  rw [List.getD_eq_getElem?_getD, List.getElem?_set]
  by_cases h : m = j
  · subst h; rw [if_pos rfl, if_pos hm, if_pos rfl]; rfl
  · rw [if_neg h, if_neg h, ← List.getD_eq_getElem?_getD]
/-- Are the first i of the coordinates the point's? -/
def hasP (xs : List Int) (ks p : List Nat) : Nat → Bool
  | 0 => true
  | i + 1 => hasP xs ks p i && (p.getD (xs.getD i 0).toNat 0 == ks.getD i 0)
theorem okP_step {d : Int} {xs : List Int} {i : Nat} (h : okP d xs (i + 1) = true) : okP d xs i = true ∧ prev xs i < xs.getD i 0 ∧ xs.getD i 0 < d := by
  simp only [okP, Bool.and_eq_true, decide_eq_true_eq] at h
  exact ⟨h.1, h.2.1, h.2.2⟩
theorem setP_above (d : Nat) (base : List Nat) (hb : base.length = d) (xs : List Int) (ks : List Nat) : ∀ i, okP d xs i = true → ∀ m : Nat, prev xs i < m → (setP base xs ks i).getD m 0 = base.getD m 0
  | 0, _, m, _ => rfl
  | i + 1, h, m, hm => by
    obtain ⟨h1, h2, h3⟩ := okP_step h
    have h0 := prev_ge d xs i h1
    have hm' : xs.getD i 0 < m := hm
    simp only [setP]
    rw [set_get _ _ _ _ (by rw [setP_len]; omega), if_neg (by omega)]
    exact setP_above d base hb xs ks i h1 m (by omega)
theorem in_part (d : Nat) (xs : List Int) (ks p : List Nat) (hp : p.length = d) (hk : ∀ x ∈ p, x < 4294967296) : ∀ i, okP d xs i = true →
    ((∀ j, j < d → (setP (List.replicate d 0) xs ks i).getD j 0 ≤ p.getD j 0 ∧ p.getD j 0 ≤ (setP (List.replicate d 4294967295) xs ks i).getD j 0) ↔ hasP xs ks p i = true)
  | 0, _ => by
    simp only [setP, hasP, iff_true]
    intro j hj
    rw [rep_get _ _ _ hj, rep_get _ _ _ hj]
    have := hk (p.getD j 0) (by rw [List.getD_eq_getElem?_getD, List.getElem?_eq_getElem (by omega)]; exact List.getElem_mem _)
    omega
  | i + 1, h => by
    obtain ⟨h1, h2, h3⟩ := okP_step h
    have h0 := prev_ge d xs i h1
    have ih := in_part d xs ks p hp hk i h1
    obtain ⟨m, hm⟩ := Int.eq_ofNat_of_zero_le (show 0 ≤ xs.getD i 0 by omega)
    have hmd : m < d := by omega
    have a1 := setP_above d (List.replicate d 0) (by simp) xs ks i h1 m (by omega)
    have a2 := setP_above d (List.replicate d 4294967295) (by simp) xs ks i h1 m (by omega)
    rw [rep_get _ _ _ hmd] at a1 a2
    have hpm := hk (p.getD m 0) (by rw [List.getD_eq_getElem?_getD, List.getElem?_eq_getElem (by omega)]; exact List.getElem_mem _)
    simp only [setP, hasP, Bool.and_eq_true, beq_iff_eq]
    rw [← ih, hm, Int.toNat_natCast]
    constructor
    · intro g
      have gm := g m hmd
      rw [set_get _ _ _ _ (by rw [setP_len]; simpa using hmd), set_get _ _ _ _ (by rw [setP_len]; simpa using hmd), if_pos rfl, if_pos rfl] at gm
      refine ⟨fun j hj => ?_, by omega⟩
      by_cases e : m = j
      · subst e; omega
      · have := g j hj
        rw [set_get _ _ _ _ (by rw [setP_len]; simpa using hmd), set_get _ _ _ _ (by rw [setP_len]; simpa using hmd), if_neg e, if_neg e] at this
        exact this
    · rintro ⟨g, gm⟩ j hj
      rw [set_get _ _ _ _ (by rw [setP_len]; simpa using hmd), set_get _ _ _ _ (by rw [setP_len]; simpa using hmd)]
      by_cases e : m = j
      · subst e; rw [if_pos rfl, if_pos rfl]; omega
      · rw [if_neg e, if_neg e]; exact g j hj
theorem in_partial {d : Nat} {xs : List Int} {ks p : List Nat} (hp : p.length = d) (hk : ∀ x ∈ p, x < 4294967296) (ho : partE d xs = 0) : inB p (partLo d xs ks) (partHi d xs ks) = hasP xs ks p xs.length := by
  have hok : partOk d xs = true := by
    unfold partE at ho
    by_cases h : partOk d xs = true
    · exact h
    · rw [if_neg h] at ho; exact absurd ho (by decide)
  unfold partLo partHi
  rw [if_pos hok, if_pos hok, Bool.eq_iff_iff, inB_iff, setP_len, setP_len, List.length_replicate, List.length_replicate, ← in_part d xs ks p hp hk xs.length hok]
  constructor
  · rintro ⟨_, _, g⟩; exact fun j hj => g j (by omega)
  · intro g; exact ⟨by omega, by omega, fun j hj => g j (by omega)⟩
end Go.Proofs.Ytoaikponefcbiaa.Pm08
