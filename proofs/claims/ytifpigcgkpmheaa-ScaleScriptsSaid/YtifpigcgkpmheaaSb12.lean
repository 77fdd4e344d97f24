/- Layer 12: rows of rising numbers in memory. -/
import Derived.Test.YtifpigcgkpmheaaSa12
import Derived.Test.YtifpigcgkpmheaaFa
namespace Go.Proofs.Ytifpigcgkpmheaa.Sb12
open Go.RowKit Go.Proofs.Ytifpigcgkpmheaa.Base Go.Proofs.Ytifpigcgkpmheaa.App Go.Proofs.Ytifpigcgkpmheaa.Str Go.Proofs.Ytifpigcgkpmheaa.Ky Go.Proofs.Ytifpigcgkpmheaa.Bx Go.Proofs.Ytifpigcgkpmheaa.Bo Go.Proofs.Ytifpigcgkpmheaa.As Go.Proofs.Ytifpigcgkpmheaa.Ro Go.Proofs.Ytifpigcgkpmheaa.Ki08 Go.Proofs.Ytifpigcgkpmheaa.Sa12
set_option linter.unusedVariables false
set_option linter.unusedSimpArgs false
abbrev Rw := Option Addr × Nat
def rv (q : Rw) (r : List Nat) : Value := .slice q.1 r.length q.2
def rvs (qs : List Rw) (rows : List (List Nat)) : List Value := List.zipWith rv qs rows
def q0 : Rw := (none, 0)
/-- The block of a value. -/
abbrev vbk (v : Value) : Option Nat := v.ownBlock
theorem rvs_get {qs : List Rw} {rows : List (List Nat)} (hl : qs.length = rows.length) {i : Nat} (hi : i < rows.length) : (rvs qs rows)[i]? = some (rv (qs.getD i q0) (rows.getD i [])) := by
  have h1 : i < qs.length := by omega
  simp [rvs, List.getElem?_zipWith, List.getD_eq_getElem?_getD, hi, h1]
theorem rvs_len {qs : List Rw} {rows : List (List Nat)} (hl : qs.length = rows.length) : (rvs qs rows).length = rows.length := by simp [rvs, hl]
theorem rvs_set : ∀ {qs : List Rw} {rows : List (List Nat)} (i : Nat) (q : Rw) (r : List Nat), rvs (qs.set i q) (rows.set i r) = (rvs qs rows).set i (rv q r)
  | [], rows, i, q, r => by simp [rvs]
  | a :: qs, [], i, q, r => by simp [rvs]
  | a :: qs, b :: rows, 0, q, r => rfl
  | a :: qs, b :: rows, i + 1, q, r => by
    have ih := rvs_set (qs := qs) (rows := rows) i q r
    simp only [rvs, List.set_cons_succ, List.zipWith_cons_cons] at ih ⊢
    rw [ih]
theorem getD_set {α : Type} (l : List α) (i j : Nat) (x d : α) (h : i < l.length) : (l.set i x).getD j d = if j = i then x else l.getD j d := by
  by_cases e : j = i
  · subst e; simp [List.getD_eq_getElem?_getD, h]
  · rw [if_neg e]; simp [List.getD_eq_getElem?_getD, List.getElem?_set_ne (Ne.symm e)]
/-- Rows that are read. -/
structure Sr (w : World) (gs : Nat) (T : Option Addr) (ct : Nat) (rows : List (List Nat)) : Prop where
  c0 : w.cell? ⟨gs, 0, none⟩ = some (.slice T rows.length ct)
  cap : rows.length ≤ ct
  most : ct ≤ maxLen
  get : ∀ i, i < rows.length → ∃ gt A c, T = some ⟨gt, 0, none⟩ ∧ w.cell? ⟨gt, i, none⟩ = some (.slice A (rows.getD i []).length c) ∧ Kv w A (rows.getD i []).length c (rows.getD i [])
theorem Sr.no {w w1 : World} {gs ct : Nat} {T : Option Addr} {rows : List (List Nat)} (h : Sr w gs T ct rows) (f : Fr No w w1) : Sr w1 gs T ct rows :=
  ⟨cel_no h.c0 f, h.cap, h.most, fun i hi => by
    obtain ⟨gt, A, c, h1, h2, h3⟩ := h.get i hi
    exact ⟨gt, A, c, h1, cel_no h2 f, h3.no f⟩⟩
/-- Rows of the blocks P, of the types that a program gives them. -/
structure Sc (tS tE : TypeId) (P : Nat → Prop) (w : World) (gs : Nat) (T : Option Addr) (ct : Nat) (qs : List Rw) (rows : List (List Nat)) : Prop where
  ql : qs.length = rows.length
  ob : Ob w gs #[.slice T rows.length ct] tS
  tb : w.ownsRow 0 tE 1 (.slice T rows.length ct) rows.length (rvs qs rows)
  pg : P gs
  pt : ∀ k, vbk (.slice T rows.length ct) = some k → P k ∧ k ≠ gs
  row : ∀ i, i < rows.length → w.ownsRow 0 47 1 (rv (qs.getD i q0) (rows.getD i [])) (rows.getD i []).length (u32s (rows.getD i []))
  pr : ∀ i, i < rows.length → ∀ k, vbk (rv (qs.getD i q0) (rows.getD i [])) = some k → P k ∧ k ≠ gs ∧ vbk (.slice T rows.length ct) ≠ some k
  ne : ∀ i j, i < rows.length → j < rows.length → i ≠ j → ∀ k, vbk (rv (qs.getD i q0) (rows.getD i [])) = some k → vbk (rv (qs.getD j q0) (rows.getD j [])) ≠ some k
  blt : ∀ b, P b → b < w.heap.size
  lt : ∀ r ∈ rows, ∀ x ∈ r, x < 4294967296
section
variable {tS tE : TypeId} {P S : Nat → Prop} {w w1 : World} {gs ct : Nat} {T : Option Addr} {qs : List Rw} {rows : List (List Nat)}
theorem own_fr1 {v : Value} {n sz base : Nat} {e : TypeId} {xs : List Value} (h : w.ownsRow base e sz v n xs) (f : Fr S w w1) (hv : ∀ k, vbk v = some k → ¬ S k) : w1.ownsRow base e sz v n xs := own_fr h f hv
theorem Sc.fr (h : Sc tS tE P w gs T ct qs rows) (f : Fr S w w1) (hd : ∀ b, P b → ¬ S b) : Sc tS tE P w1 gs T ct qs rows :=
  ⟨h.ql, h.ob.fr f (hd _ h.pg), own_fr1 h.tb f (fun k hk => hd _ (h.pt k hk).1), h.pg, h.pt, fun i hi => own_fr1 (h.row i hi) f (fun k hk => hd _ (h.pr i hi k hk).1), h.pr, h.ne, fun b hb => Nat.lt_of_lt_of_le (h.blt b hb) f.size, h.lt⟩
theorem Sc.no (h : Sc tS tE P w gs T ct qs rows) (f : Fr No w w1) : Sc tS tE P w1 gs T ct qs rows := h.fr f (fun _ _ x => x)
theorem rowD_lt (h : ∀ r ∈ rows, ∀ x ∈ r, x < 4294967296) (i : Nat) : ∀ x ∈ rows.getD i [], x < 4294967296 := by
  by_cases hi : i < rows.length
  · have e : rows.getD i [] = rows[i] := by simp [List.getD_eq_getElem?_getD, hi]
    rw [e]; exact h _ (List.getElem_mem hi)
  · have e : rows.getD i [] = [] := by simp [List.getD_eq_getElem?_getD, List.getElem?_eq_none (show rows.length ≤ i by omega)]
    rw [e]; intro x hx; simp at hx
theorem Sc.sr (h : Sc tS tE P w gs T ct qs rows) : Sr w gs T ct rows := by
  obtain ⟨h1, h2⟩ := own_cap h.tb
  refine ⟨h.ob.cell 0 rfl, h1, h2, fun i hi => ?_⟩
  rcases h.tb.2 with ⟨h4, h5⟩ | ⟨g, cap, cur, h4, hg, _⟩
  · omega
  · injection h4 with h4
    subst h4
    have hc := h.tb.cellAt i (by omega)
    rw [rvs_get h.ql hi] at hc
    exact ⟨g, _, _, rfl, hc, Kv.of_own (h.row i hi) (rowD_lt h.lt i)⟩
/-- A row is replaced. -/
theorem Sc.set (h : Sc tS tE P w gs T ct qs rows) {i gt : Nat} (hi : i < rows.length) (hT : T = some ⟨gt, 0, none⟩) {q : Rw} {r : List Nat} (f : Fr (fun k => vbk (rv (qs.getD i q0) (rows.getD i [])) = some k) w w1) (ho : w1.ownsRow 0 47 1 (rv q r) r.length (u32s r)) (hat : ∀ k, vbk (rv q r) = some k → vbk (rv (qs.getD i q0) (rows.getD i [])) = some k ∨ w.heap.size ≤ k) (hlt : ∀ x ∈ r, x < 4294967296) :
    Sc tS tE (fun b => (P b ∨ w.heap.size ≤ b) ∧ b < w1.heap.size) (w1.setCell ⟨gt, i, none⟩ (rv q r)) gs T ct (qs.set i q) (rows.set i r) ∧ Fr P w (w1.setCell ⟨gt, i, none⟩ (rv q r)) := by
  subst hT
  have hbk : vbk (.slice (some ⟨gt, 0, none⟩) rows.length ct) = some gt := rfl
  obtain ⟨hPt, htg⟩ := h.pt gt hbk
  have hsz := f.size
  have hrl : (rows.set i r).length = rows.length := List.length_set
  have hni : ∀ k, P k → vbk (rv (qs.getD i q0) (rows.getD i [])) ≠ some k → k < w.heap.size := fun k hk _ => h.blt k hk
  have f2 : Fr (fun k => k = gt) w1 (w1.setCell ⟨gt, i, none⟩ (rv q r)) := (Fr.refl (fun k => k = gt) w1).setCell (p := ⟨gt, i, none⟩) (.inl rfl) _
  have hng : ∀ k, vbk (rv (qs.getD i q0) (rows.getD i [])) = some k → k ≠ gt := fun k hk e => by subst e; exact (h.pr i hi k hk).2.2 rfl
  have hnew : ∀ k, vbk (rv q r) = some k → k ≠ gt ∧ k ≠ gs := fun k hk => by
    rcases hat k hk with e | e
    · exact ⟨hng k e, (h.pr i hi k e).2.1⟩
    · have h1 := h.blt gt hPt; have h2 := h.blt gs h.pg; omega
  refine ⟨⟨by simp [h.ql], ?_, ?_, ⟨.inl h.pg, ?_⟩, ?_, ?_, ?_, ?_, ?_, ?_⟩, ?_⟩
  · rw [hrl]
    exact (h.ob.fr f (fun e => (h.pr i hi _ e).2.1 rfl)).fr f2 (fun e => htg e.symm)
  · rw [hrl, rvs_set]
    have h3 := own_fr1 h.tb f (fun k hk e => by rw [hbk] at hk; injection hk with hk; exact hng k e hk.symm)
    exact (h3.stored i (rv q r)).1
  · have := h.blt gs h.pg; omega
  · intro k hk
    rw [hrl, hbk] at hk
    injection hk with hk
    subst hk
    exact ⟨⟨.inl hPt, by have := h.blt gt hPt; omega⟩, htg⟩
  · intro j hj
    rw [hrl] at hj
    rw [getD_set _ _ _ _ _ (by rw [h.ql]; exact hi), getD_set _ _ _ _ _ hi]
    by_cases e : j = i
    · simp only [if_pos e]
      exact own_fr1 ho f2 (fun k hk e2 => (hnew k hk).1 e2)
    · simp only [if_neg e]
      exact own_fr1 (own_fr1 (h.row j hj) f (fun k hk e2 => h.ne j i hj hi e k hk e2)) f2 (fun k hk e2 => (h.pr j hj k hk).2.2 (by rw [hbk, e2]))
  · intro j hj k hk
    rw [hrl] at hj ⊢
    rw [getD_set _ _ _ _ _ (by rw [h.ql]; exact hi), getD_set _ _ _ _ _ hi] at hk
    by_cases e : j = i
    · simp only [if_pos e] at hk
      have hlt2 : k < w1.heap.size := (ho.lt k hk).2
      refine ⟨⟨?_, hlt2⟩, (hnew k hk).2, fun e2 => ?_⟩
      · rcases hat k hk with e3 | e3
        · exact .inl (h.pr i hi k e3).1
        · exact .inr e3
      · rw [hbk] at e2; injection e2 with e2; exact (hnew k hk).1 e2.symm
    · simp only [if_neg e] at hk
      obtain ⟨p1, p2, p3⟩ := h.pr j hj k hk
      exact ⟨⟨.inl p1, by have := h.blt k p1; omega⟩, p2, p3⟩
  · intro a b ha hb hab k hk
    rw [hrl] at ha hb
    rw [getD_set _ _ _ _ _ (by rw [h.ql]; exact hi), getD_set _ _ _ _ _ hi] at hk
    rw [getD_set _ _ _ _ _ (by rw [h.ql]; exact hi), getD_set _ _ _ _ _ hi]
    by_cases ea : a = i
    · have eb : ¬ b = i := fun e => hab (by rw [ea, e])
      simp only [if_pos ea] at hk
      simp only [if_neg eb]
      intro e2
      rcases hat k hk with e3 | e3
      · exact h.ne i b hi hb (fun e => eb e.symm) k e3 e2
      · have := h.blt k (h.pr b hb k e2).1; omega
    · simp only [if_neg ea] at hk
      by_cases eb : b = i
      · simp only [if_pos eb]
        intro e2
        rcases hat k e2 with e3 | e3
        · exact h.ne a i ha hi ea k hk e3
        · have := h.blt k (h.pr a ha k hk).1; omega
      · simp only [if_neg eb]
        exact h.ne a b ha hb hab k hk
  · intro b hb; have h1 := hb.2; simpa using h1
  · intro r' hr'
    rcases List.mem_or_eq_of_mem_set hr' with e | e
    · exact h.lt r' e
    · rw [e]; exact hlt
  · exact (f.mono (fun b e => (h.pr i hi b e).1)).tr (f2.mono (fun b e => by rw [e]; exact hPt))
end
end Go.Proofs.Ytifpigcgkpmheaa.Sb12
