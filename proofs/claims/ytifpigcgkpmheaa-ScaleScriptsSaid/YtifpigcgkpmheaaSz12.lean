/- Layer 12, plain: the cells of points and of boxes. -/
import Derived.Test.YtifpigcgkpmheaaSw12
import Derived.Test.YtifpigcgkpmheaaGc
import Derived.StillTailTactics
namespace Go.Proofs.Ytifpigcgkpmheaa.Sz12
open Go.RowKit Go.Proofs.Ytifpigcgkpmheaa.Pk08 Go.Proofs.Ytifpigcgkpmheaa.Pq08 Go.Proofs.Ytifpigcgkpmheaa.Ki08 Go.Proofs.Ytifpigcgkpmheaa.Base Go.Proofs.Ytifpigcgkpmheaa.App Go.Proofs.Ytifpigcgkpmheaa.Ky Go.Proofs.Ytifpigcgkpmheaa.Iv Go.Proofs.Ytifpigcgkpmheaa.Bx Go.Proofs.Ytifpigcgkpmheaa.Pl08 Go.Proofs.Ytifpigcgkpmheaa.Pm08 Go.Proofs.Ytifpigcgkpmheaa.Kj08 Go.Proofs.Ytifpigcgkpmheaa.Sa12 Go.Proofs.Ytifpigcgkpmheaa.Sb12 Go.Proofs.Ytifpigcgkpmheaa.Sc12 Go.Proofs.Ytifpigcgkpmheaa.Sf12 Go.Proofs.Ytifpigcgkpmheaa.Sg12 Go.Proofs.Ytifpigcgkpmheaa.Sh12
set_option linter.unusedVariables false
set_option linter.unusedSimpArgs false
section
variable {rows : List (List Nat)} {r ks lo hi : List Nat} {xs ys : List Int} {x y i : Nat}
theorem itv_mono (r : List Nat) (h : x ≤ y) : itv r x ≤ itv r y := by
  induction r with
  | nil => exact Nat.le_refl _
  | cons a t ih =>
    unfold itv
    split
    · rw [if_pos (by omega)]; omega
    · omega
theorem getD_in {l : List Nat} (hi : i < l.length) : l.getD i 0 ∈ l := by
  have e : l.getD i 0 = l[i] := by simp [List.getD_eq_getElem?_getD, hi]
  rw [e]; exact List.getElem_mem hi
theorem cell_in (hx : x < 4294967296) : lowV r (itv r x) ≤ x ∧ x ≤ highV r (itv r x) := by
  have h1 := itv_le r x
  have h2 := itv_in r x
  have h3 := itv_at r x
  unfold lowV highV
  constructor
  · split
    · omega
    · exact h2 _ (by omega)
  · split
    · omega
    · have := h3 (by omega); omega
theorem boxLo_get (hl : xs.length = rows.length) (hi : i < rows.length) : (boxLo rows xs).getD i 0 = lowV (rows.getD i []) (xs.getD i 0).toNat := by
  have h2 : i < xs.length := by omega
  simp [boxLo, List.getD_eq_getElem?_getD, List.getElem?_zipWith, hi, h2]
theorem boxHi_get (hl : xs.length = rows.length) (hi : i < rows.length) : (boxHi rows xs).getD i 0 = highV (rows.getD i []) (xs.getD i 0).toNat := by
  have h2 : i < xs.length := by omega
  simp [boxHi, List.getD_eq_getElem?_getD, List.getElem?_zipWith, hi, h2]
theorem boxLo_len (hl : xs.length = rows.length) : (boxLo rows xs).length = rows.length := by simp [boxLo, hl]
theorem boxHi_len (hl : xs.length = rows.length) : (boxHi rows xs).length = rows.length := by simp [boxHi, hl]
theorem find_ok (hl : lo.length = rows.length) (hh : hi.length = rows.length) (hle : ∀ i, i < rows.length → lo.getD i 0 ≤ hi.getD i 0) : boxOk rows (findL rows lo) (findL rows hi) := by
  refine ⟨findL_len hl, findL_len hh, fun i hi' => ?_⟩
  rw [findL_get hl hi', findL_get hh hi']
  have := itv_mono (rows.getD i []) (hle i hi')
  have := itv_le (rows.getD i []) (hi.getD i 0)
  omega
theorem cells_in (hl : ks.length = rows.length) (hk : ∀ x ∈ ks, x < 4294967296) (hi : i < rows.length) : (boxLo rows (findL rows ks)).getD i 0 ≤ ks.getD i 0 ∧ ks.getD i 0 ≤ (boxHi rows (findL rows ks)).getD i 0 := by
  rw [boxLo_get (findL_len hl) hi, boxHi_get (findL_len hl) hi, findL_get hl hi, Int.toNat_natCast]
  exact cell_in (hk _ (getD_in (by omega)))
theorem in_cell (hl : ks.length = rows.length) (hk : ∀ x ∈ ks, x < 4294967296) : inB ks (boxLo rows (findL rows ks)) (boxHi rows (findL rows ks)) = true := by
  rw [inB_iff, boxLo_len (findL_len hl), boxHi_len (findL_len hl)]
  exact ⟨hl.symm, hl, fun i hi => cells_in hl hk (by omega)⟩
theorem zip_eq {f : Nat → Nat → Nat} {a b : List Nat} (hl : a.length = b.length) (h : ∀ i, i < b.length → f (a.getD i 0) (b.getD i 0) = b.getD i 0) : zipL f a b = b := by
  have hz : (zipL f a b).length = a.length := by simp [zipL]
  apply List.ext_getElem
  · omega
  · intro i h1 h2
    have e1 : (zipL f a b).getD i 0 = (zipL f a b)[i] := by simp [List.getD_eq_getElem?_getD, h1]
    have e2 : b.getD i 0 = b[i] := by simp [List.getD_eq_getElem?_getD, h2]
    rw [← e1, zipL_get f a b i (by omega), h i h2, e2]
theorem meets_law {d : Nat} (hd : rows.length = d) (hc : chkB lo hi d = 0) (hlo : ∀ x ∈ lo, x < 4294967296) (hhi : ∀ x ∈ hi, x < 4294967296) : meetIs (boxLo rows (findL rows lo)) (boxHi rows (findL rows hi)) lo hi = true ∧ meetLo (boxLo rows (findL rows lo)) (boxHi rows (findL rows hi)) lo hi = lo ∧ meetHi (boxLo rows (findL rows lo)) (boxHi rows (findL rows hi)) lo hi = hi := by
  obtain ⟨c1, c2, c3, c4⟩ := chkB_zero.1 hc
  have hl : lo.length = rows.length := by omega
  have hh : hi.length = rows.length := by rw [← ((leL_iff _ _).1 c4).1]; exact hl
  have z1 : zipL max (boxLo rows (findL rows lo)) lo = lo := zip_eq (by rw [boxLo_len (findL_len hl), hl]) (fun i hi' => by
    have := (cells_in hl hlo (i := i) (by omega)).1; omega)
  have z2 : zipL min (boxHi rows (findL rows hi)) hi = hi := zip_eq (by rw [boxHi_len (findL_len hh), hh]) (fun i hi' => by
    have := (cells_in hh hhi (i := i) (by omega)).2; omega)
  have hm : meetIs (boxLo rows (findL rows lo)) (boxHi rows (findL rows hi)) lo hi = true := by
    unfold meetIs
    rw [z1, z2, boxLo_len (findL_len hl), boxHi_len (findL_len hh), hl, hh]
    exact decide_eq_true ⟨rfl, rfl, rfl, by rw [hd]; exact hc⟩
  unfold meetLo meetHi
  rw [if_pos hm, if_pos hm, z1, z2]
  exact ⟨hm, rfl, rfl⟩
end
end Go.Proofs.Ytifpigcgkpmheaa.Sz12
