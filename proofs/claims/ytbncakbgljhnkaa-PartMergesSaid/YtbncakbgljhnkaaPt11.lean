/- Layer 11 in plain Lean: records split, two buckets put together. No program in sight. -/
import Derived.Test.YtbncakbgljhnkaaGe
namespace Go.Proofs.Ytbncakbgljhnkaa.Pt11
open Go.Proofs.Ytbncakbgljhnkaa.Pk08 Go.Proofs.Ytbncakbgljhnkaa.Pl08 Go.Proofs.Ytbncakbgljhnkaa.Rp
set_option linter.unusedVariables false
set_option linter.unusedSimpArgs false
abbrev r0 : Rec := ([], ByteArray.empty)
theorem getD_eq (rs : List Rec) (i : Nat) (h : i < rs.length) : rs.getD i r0 = rs[i] := by simp [List.getD_eq_getElem?_getD, h]
theorem take_succ (rs : List Rec) (i : Nat) (h : i < rs.length) : rs.take (i + 1) = rs.take i ++ [rs.getD i r0] := by
  rw [List.take_succ_eq_append_getElem h, getD_eq rs i h]
theorem drop_cons (rs : List Rec) (i : Nat) (h : i < rs.length) : rs.drop i = rs.getD i r0 :: rs.drop (i + 1) := by
  rw [List.drop_eq_getElem_cons h, getD_eq rs i h]
/-! ### split -/
def spOk (i : Int) (rs : List Rec) : Bool := rs.all (fun r => decide (0 ≤ i ∧ i < r.1.length))
def isLow (i : Int) (b : Nat) (r : Rec) : Bool := decide (r.1.getD i.toNat 0 < b)
def lows (i : Int) (b : Nat) (rs : List Rec) : List Rec := rs.filter (isLow i b)
def highs (i : Int) (b : Nat) (rs : List Rec) : List Rec := rs.filter (fun r => !isLow i b r)
def spL (i : Int) (b : Nat) (rs : List Rec) : List Rec := if spOk i rs = true then lows i b rs else []
def spH (i : Int) (b : Nat) (rs : List Rec) : List Rec := if spOk i rs = true then highs i b rs else []
def spE (i : Int) (rs : List Rec) : Int := if spOk i rs = true then 0 else 1
theorem spOk_iff (i : Int) (rs : List Rec) : spOk i rs = true ↔ ∀ j, j < rs.length → 0 ≤ i ∧ i < (rs.getD j r0).1.length := by
  unfold spOk
  rw [List.all_eq_true]
  constructor
  · intro h j hj
    rw [getD_eq rs j hj]
    simpa using h _ (List.getElem_mem hj)
  · intro h r hr
    obtain ⟨j, hj, rfl⟩ := List.mem_iff_getElem.1 hr
    have := h j hj
    rw [getD_eq rs j hj] at this
    simpa using this
theorem sp_no {i : Int} {rs : List Rec} (j : Nat) (hj : j < rs.length) (h : i < 0 ∨ ((rs.getD j r0).1.length : Int) ≤ i) (b : Nat) : spL i b rs = [] ∧ spH i b rs = [] ∧ spE i rs = 1 := by
  have hn : ¬ spOk i rs = true := fun hc => by have := (spOk_iff i rs).1 hc j hj; omega
  refine ⟨?_, ?_, ?_⟩
  · unfold spL; rw [if_neg hn]
  · unfold spH; rw [if_neg hn]
  · unfold spE; rw [if_neg hn]
theorem sp_yes {i : Int} {rs : List Rec} (h : ∀ j, j < rs.length → 0 ≤ i ∧ i < (rs.getD j r0).1.length) (b : Nat) : spL i b rs = lows i b rs ∧ spH i b rs = highs i b rs ∧ spE i rs = 0 := by
  have hy := (spOk_iff i rs).2 h
  refine ⟨?_, ?_, ?_⟩
  · unfold spL; rw [if_pos hy]
  · unfold spH; rw [if_pos hy]
  · unfold spE; rw [if_pos hy]
theorem lows_snoc (i : Int) (b : Nat) (rs : List Rec) (r : Rec) : lows i b (rs ++ [r]) = lows i b rs ++ (if isLow i b r = true then [r] else []) := by
  unfold lows
  rw [List.filter_append]
  congr 1
  by_cases h : isLow i b r = true <;> simp [List.filter_cons, h]
theorem highs_snoc (i : Int) (b : Nat) (rs : List Rec) (r : Rec) : highs i b (rs ++ [r]) = highs i b rs ++ (if isLow i b r = true then [] else [r]) := by
  unfold highs
  rw [List.filter_append]
  congr 1
  by_cases h : isLow i b r = true <;> simp [List.filter_cons, h]
theorem lows_le (i : Int) (b : Nat) (rs : List Rec) : (lows i b rs).length ≤ rs.length := List.length_filter_le _ _
theorem highs_le (i : Int) (b : Nat) (rs : List Rec) : (highs i b rs).length ≤ rs.length := List.length_filter_le _ _
/-! ### put together -/
def mg : List Rec → List Rec → List Rec
  | [], b => b
  | x :: xs, [] => x :: xs
  | x :: xs, y :: ys => if cmp x.1 y.1 < 0 then x :: mg xs (y :: ys) else if 0 < cmp x.1 y.1 then y :: mg (x :: xs) ys else y :: mg xs ys
termination_by a b => a.length + b.length
theorem mg_nil_left (b : List Rec) : mg [] b = b := by rw [mg]
theorem mg_nil_right (a : List Rec) : mg a [] = a := by cases a <;> rw [mg]
theorem mg_lt (x y : Rec) (xs ys : List Rec) (h : cmp x.1 y.1 < 0) : mg (x :: xs) (y :: ys) = x :: mg xs (y :: ys) := by rw [mg, if_pos h]
theorem mg_gt (x y : Rec) (xs ys : List Rec) (h : 0 < cmp x.1 y.1) : mg (x :: xs) (y :: ys) = y :: mg (x :: xs) ys := by rw [mg, if_neg (by omega), if_pos h]
theorem mg_eq (x y : Rec) (xs ys : List Rec) (h : cmp x.1 y.1 = 0) : mg (x :: xs) (y :: ys) = y :: mg xs ys := by rw [mg, if_neg (by omega), if_neg (by omega)]
theorem mem_mg_sub : ∀ (n : Nat) (a b : List Rec), a.length + b.length = n → ∀ z, z ∈ mg a b → z ∈ a ∨ z ∈ b
  | n, [], b, _, z, h => by rw [mg_nil_left] at h; exact .inr h
  | n, x :: xs, [], _, z, h => by rw [mg_nil_right] at h; exact .inl h
  | n, x :: xs, y :: ys, hn, z, h => by
    rw [mg] at h
    simp only [List.length_cons] at hn
    split at h
    · rcases List.mem_cons.1 h with rfl | h
      · exact .inl List.mem_cons_self
      · rcases mem_mg_sub (xs.length + (y :: ys).length) xs (y :: ys) rfl z h with h | h
        · exact .inl (List.mem_cons_of_mem _ h)
        · exact .inr h
    · split at h
      · rcases List.mem_cons.1 h with rfl | h
        · exact .inr List.mem_cons_self
        · rcases mem_mg_sub ((x :: xs).length + ys.length) (x :: xs) ys rfl z h with h | h
          · exact .inl h
          · exact .inr (List.mem_cons_of_mem _ h)
      · rcases List.mem_cons.1 h with rfl | h
        · exact .inr List.mem_cons_self
        · rcases mem_mg_sub (xs.length + ys.length) xs ys rfl z h with h | h
          · exact .inl (List.mem_cons_of_mem _ h)
          · exact .inr (List.mem_cons_of_mem _ h)
termination_by n a b => a.length + b.length
theorem lt_irr {x y : Rec} (h : lt x y) : x.1 ≠ y.1 := fun e => by
  have h' : cmp x.1 y.1 < 0 := h
  rw [e, cmp_self] at h'
  omega
theorem mg_strict : ∀ (a b : List Rec), Strict a → Strict b → Strict (mg a b)
  | [], b, _, hb => by rw [mg_nil_left]; exact hb
  | x :: xs, [], ha, _ => by rw [mg_nil_right]; exact ha
  | x :: xs, y :: ys, ha, hb => by
    obtain ⟨a1, a2⟩ := List.pairwise_cons.1 ha
    obtain ⟨b1, b2⟩ := List.pairwise_cons.1 hb
    rw [mg]
    split
    · next h =>
      refine List.pairwise_cons.2 ⟨fun z hz => ?_, mg_strict xs (y :: ys) a2 hb⟩
      rcases mem_mg_sub _ xs (y :: ys) rfl z hz with hz | hz
      · exact a1 z hz
      · rcases List.mem_cons.1 hz with rfl | hz
        · exact h
        · exact lt_trans (show lt x y from h) (b1 z hz)
    · split
      · next hnl h =>
        have hyx : lt y x := by have := cmp_swap x.1 y.1; show cmp y.1 x.1 < 0; omega
        refine List.pairwise_cons.2 ⟨fun z hz => ?_, mg_strict (x :: xs) ys ha b2⟩
        rcases mem_mg_sub _ (x :: xs) ys rfl z hz with hz | hz
        · rcases List.mem_cons.1 hz with rfl | hz
          · exact hyx
          · exact lt_trans hyx (a1 z hz)
        · exact b1 z hz
      · next hnl h =>
        have e : x.1 = y.1 := (cmp_zero _ _).1 (by omega)
        refine List.pairwise_cons.2 ⟨fun z hz => ?_, mg_strict xs ys a2 b2⟩
        rcases mem_mg_sub _ xs ys rfl z hz with hz | hz
        · have := a1 z hz
          show cmp y.1 z.1 < 0
          rw [← e]; exact this
        · exact b1 z hz
termination_by a b => a.length + b.length
theorem mem_mg : ∀ (a b : List Rec), Strict a → Strict b → ∀ z, z ∈ mg a b ↔ z ∈ b ∨ (z ∈ a ∧ ∀ y ∈ b, y.1 ≠ z.1)
  | [], b, _, _, z => by rw [mg_nil_left]; simp
  | x :: xs, [], _, _, z => by rw [mg_nil_right]; simp
  | x :: xs, y :: ys, ha, hb, z => by
    obtain ⟨a1, a2⟩ := List.pairwise_cons.1 ha
    obtain ⟨b1, b2⟩ := List.pairwise_cons.1 hb
    rw [mg]
    split
    · next h =>
      have ih := mem_mg xs (y :: ys) a2 hb z
      rw [List.mem_cons, ih]
      constructor
      · rintro (rfl | h1 | ⟨h1, h2⟩)
        · refine .inr ⟨List.mem_cons_self, fun u hu e => ?_⟩
          rcases List.mem_cons.1 hu with rfl | hu
          · exact lt_irr (show lt z u from h) e.symm
          · exact lt_irr (lt_trans (show lt z y from h) (b1 u hu)) e.symm
        · exact .inl h1
        · exact .inr ⟨List.mem_cons_of_mem _ h1, h2⟩
      · rintro (h1 | ⟨h1, h2⟩)
        · exact .inr (.inl h1)
        · rcases List.mem_cons.1 h1 with rfl | h1
          · exact .inl rfl
          · exact .inr (.inr ⟨h1, h2⟩)
    · split
      · next hnl h =>
        have hyx : lt y x := by have := cmp_swap x.1 y.1; show cmp y.1 x.1 < 0; omega
        have ih := mem_mg (x :: xs) ys ha b2 z
        rw [List.mem_cons, ih]
        constructor
        · rintro (rfl | h1 | ⟨h1, h2⟩)
          · exact .inl List.mem_cons_self
          · exact .inl (List.mem_cons_of_mem _ h1)
          · refine .inr ⟨h1, fun u hu e => ?_⟩
            rcases List.mem_cons.1 hu with rfl | hu
            · rcases List.mem_cons.1 h1 with rfl | h1
              · exact lt_irr hyx e
              · exact lt_irr (lt_trans hyx (a1 z h1)) e
            · exact h2 u hu e
        · rintro (h1 | ⟨h1, h2⟩)
          · rcases List.mem_cons.1 h1 with rfl | h1
            · exact .inl rfl
            · exact .inr (.inl h1)
          · exact .inr (.inr ⟨h1, fun u hu => h2 u (List.mem_cons_of_mem _ hu)⟩)
      · next hnl h =>
        have e : x.1 = y.1 := (cmp_zero _ _).1 (by omega)
        have ih := mem_mg xs ys a2 b2 z
        rw [List.mem_cons, ih]
        constructor
        · rintro (rfl | h1 | ⟨h1, h2⟩)
          · exact .inl List.mem_cons_self
          · exact .inl (List.mem_cons_of_mem _ h1)
          · refine .inr ⟨List.mem_cons_of_mem _ h1, fun u hu e2 => ?_⟩
            rcases List.mem_cons.1 hu with rfl | hu
            · exact lt_irr (a1 z h1) (e.trans e2)
            · exact h2 u hu e2
        · rintro (h1 | ⟨h1, h2⟩)
          · rcases List.mem_cons.1 h1 with rfl | h1
            · exact .inl rfl
            · exact .inr (.inl h1)
          · rcases List.mem_cons.1 h1 with rfl | h1
            · exact absurd e.symm (h2 y List.mem_cons_self)
            · exact .inr (.inr ⟨h1, fun u hu => h2 u (List.mem_cons_of_mem _ hu)⟩)
termination_by a b => a.length + b.length
theorem mg_len : ∀ (a b : List Rec), (mg a b).length ≤ a.length + b.length
  | [], b => by rw [mg_nil_left]; simp
  | x :: xs, [] => by rw [mg_nil_right]; simp
  | x :: xs, y :: ys => by
    rw [mg]
    split
    · have := mg_len xs (y :: ys); simp only [List.length_cons] at this ⊢; omega
    · split
      · have := mg_len (x :: xs) ys; simp only [List.length_cons] at this ⊢; omega
      · have := mg_len xs ys; simp only [List.length_cons] at this ⊢; omega
termination_by a b => a.length + b.length
/-- The document's way. -/
def mrgIn (a b : List Rec) : List Rec := a.filter (fun x => !(b.any (fun y => decide (x.1 = y.1)))) ++ b
def mrgL (a b : List Rec) : List Rec := sorted (mrgIn a b)
theorem mem_mrgIn (a b : List Rec) (z : Rec) : z ∈ mrgIn a b ↔ z ∈ b ∨ (z ∈ a ∧ ∀ y ∈ b, y.1 ≠ z.1) := by
  unfold mrgIn
  rw [List.mem_append, List.mem_filter]
  constructor
  · rintro (⟨h1, h2⟩ | h)
    · right
      refine ⟨h1, fun y hy e => ?_⟩
      have : b.any (fun y => decide (z.1 = y.1)) = true := List.any_eq_true.2 ⟨y, hy, decide_eq_true e.symm⟩
      rw [this] at h2
      simp at h2
    · exact .inl h
  · rintro (h | ⟨h1, h2⟩)
    · exact .inr h
    · left
      refine ⟨h1, ?_⟩
      rw [Bool.not_eq_true', Bool.eq_false_iff]
      intro hc
      obtain ⟨y, hy, he⟩ := List.any_eq_true.1 hc
      exact h2 y hy (of_decide_eq_true he).symm
theorem mrg_uniq {a b : List Rec} (ha : Strict a) (hb : Strict b) : Uniq (mrgIn a b) := by
  unfold mrgIn Uniq
  refine List.pairwise_append.2 ⟨?_, strict_uniq hb, ?_⟩
  · exact List.Pairwise.sublist List.filter_sublist (strict_uniq ha)
  · intro x hx y hy e
    rw [List.mem_filter] at hx
    have : b.any (fun y => decide (x.1 = y.1)) = true := List.any_eq_true.2 ⟨y, hy, decide_eq_true e⟩
    rw [this] at hx
    simp at hx
theorem mrg_eq {a b : List Rec} (ha : Strict a) (hb : Strict b) : mrgL a b = mg a b :=
  strict_ext (sorted_strict (mrg_uniq ha hb)) (mg_strict a b ha hb) (fun z => by
    unfold mrgL
    rw [Go.Proofs.Ytbncakbgljhnkaa.Rp.mem_sorted, mem_mrgIn, mem_mg a b ha hb])
theorem lows_strict {l : List Rec} (h : Strict l) (i : Int) (b : Nat) : Strict (lows i b l) := List.Pairwise.sublist List.filter_sublist h
theorem highs_strict {l : List Rec} (h : Strict l) (i : Int) (b : Nat) : Strict (highs i b l) := List.Pairwise.sublist List.filter_sublist h
theorem low_key {i : Int} {b : Nat} {x y : Rec} (e : x.1 = y.1) : isLow i b x = isLow i b y := by unfold isLow; rw [e]
theorem mg_back {l : List Rec} (h : Strict l) (i : Int) (b : Nat) : mg (lows i b l) (highs i b l) = l ∧ mg (highs i b l) (lows i b l) = l := by
  have h1 := lows_strict h i b
  have h2 := highs_strict h i b
  constructor
  · refine strict_ext (mg_strict _ _ h1 h2) h (fun z => ?_)
    rw [mem_mg _ _ h1 h2]
    unfold lows highs
    simp only [List.mem_filter]
    constructor
    · rintro (h | ⟨h, _⟩) <;> exact h.1
    · intro hz
      cases hl : isLow i b z with
      | false => exact .inl ⟨hz, by simp⟩
      | true =>
        refine .inr ⟨⟨hz, rfl⟩, fun y hy e => ?_⟩
        have := low_key (i := i) (b := b) e
        rw [hl] at this
        rw [this] at hy
        simp at hy
  · refine strict_ext (mg_strict _ _ h2 h1) h (fun z => ?_)
    rw [mem_mg _ _ h2 h1]
    unfold lows highs
    simp only [List.mem_filter]
    constructor
    · rintro (h | ⟨h, _⟩) <;> exact h.1
    · intro hz
      cases hl : isLow i b z with
      | true => exact .inl ⟨hz, rfl⟩
      | false =>
        refine .inr ⟨⟨hz, by simp⟩, fun y hy e => ?_⟩
        have := low_key (i := i) (b := b) e
        rw [hl] at this
        rw [this] at hy
        simp at hy
theorem mg_twice {a b : List Rec} (ha : Strict a) (hb : Strict b) : mg (mg a b) b = mg a b := by
  have h := mg_strict a b ha hb
  refine strict_ext (mg_strict _ _ h hb) h (fun z => ?_)
  rw [mem_mg _ _ h hb, mem_mg _ _ ha hb]
  constructor
  · rintro (h | ⟨h | h, h2⟩)
    · exact .inl h
    · exact .inl h
    · exact .inr h
  · rintro (h | ⟨h, h2⟩)
    · exact .inl h
    · exact .inr ⟨.inr ⟨h, h2⟩, h2⟩
/-- A record of a list that rises is found at its place. -/
theorem fpos_mem {l : List Rec} (hs : Strict l) {r : Rec} (hr : r ∈ l) : fis l r.1 = true ∧ fpos l r.1 < l.length ∧ l.getD (fpos l r.1) r0 = r := by
  have h := (mem_fis hs).1 ⟨r, hr, rfl⟩
  obtain ⟨h1, h2⟩ := (fis_iff l r.1).1 h
  refine ⟨h, h1, ?_⟩
  rw [getD_eq l _ h1]
  obtain ⟨i, hi, e⟩ := List.mem_iff_getElem.1 hr
  have : i = fpos l r.1 := by
    rcases Nat.lt_trichotomy i (fpos l r.1) with h3 | h3 | h3
    · have := fpos_before l r.1 i hi h3
      rw [e, cmp_self] at this
      omega
    · exact h3
    · have := fpos_after l r.1 hs i hi h3
      rw [e, cmp_self] at this
      omega
  subst this
  exact e
theorem put_last {l : List Rec} {r : Rec} (h : ∀ x ∈ l, lt x r) : put l r = l ++ [r] := by
  have hp : fpos l r.1 = l.length := fpos_unique l r.1 l.length (Nat.le_refl _) (fun i hi _ => h _ (List.getElem_mem hi)) (fun hx => by omega)
  have hf : ¬ fis l r.1 = true := fun hc => by obtain ⟨hx, _⟩ := (fis_iff l r.1).1 hc; omega
  unfold put
  rw [if_neg hf, hp, List.take_length, List.drop_length]
theorem put_over {l : List Rec} {x r : Rec} (h : ∀ z ∈ l, lt z r) (e : x.1 = r.1) : put (l ++ [x]) r = l ++ [r] := by
  have hp : fpos (l ++ [x]) r.1 = l.length := fpos_unique (l ++ [x]) r.1 l.length (by simp) (fun i hi hl => by rw [List.getElem_append_left hl]; exact h _ (List.getElem_mem hl)) (fun hx => by
    rw [List.getElem_append_right (Nat.le_refl _)]
    simp [e, cmp_self])
  have hf : fis (l ++ [x]) r.1 = true := (fis_iff _ _).2 ⟨by rw [hp]; simp, by simp [hp, e]⟩
  unfold put
  rw [if_pos hf, hp]
  simp
end Go.Proofs.Ytbncakbgljhnkaa.Pt11
