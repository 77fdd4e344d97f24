/- Layer 12: a row more; a copy of a scale. -/
import Derived.Test.YtifpigcgkpmheaaSi12
import Derived.StillTailTactics
namespace Go.Proofs.Ytifpigcgkpmheaa.Sj12
open Go.RowKit Go.Proofs.Ytifpigcgkpmheaa.Pk08 Go.Proofs.Ytifpigcgkpmheaa.Base Go.Proofs.Ytifpigcgkpmheaa.App Go.Proofs.Ytifpigcgkpmheaa.Str Go.Proofs.Ytifpigcgkpmheaa.Ky Go.Proofs.Ytifpigcgkpmheaa.Iv Go.Proofs.Ytifpigcgkpmheaa.Bx Go.Proofs.Ytifpigcgkpmheaa.Bo Go.Proofs.Ytifpigcgkpmheaa.As Go.Proofs.Ytifpigcgkpmheaa.Ro Go.Proofs.Ytifpigcgkpmheaa.Pl08 Go.Proofs.Ytifpigcgkpmheaa.Kc08 Go.Proofs.Ytifpigcgkpmheaa.Ke08 Go.Proofs.Ytifpigcgkpmheaa.Ki08 Go.Proofs.Ytifpigcgkpmheaa.Ic Go.Proofs.Ytifpigcgkpmheaa.Sa12 Go.Proofs.Ytifpigcgkpmheaa.Sb12 Go.Proofs.Ytifpigcgkpmheaa.Sc12 Go.Proofs.Ytifpigcgkpmheaa.Sd12 Go.Proofs.Ytifpigcgkpmheaa.Sf12 Go.Proofs.Ytifpigcgkpmheaa.Sg12 Go.Proofs.Ytifpigcgkpmheaa.Sh12
set_option linter.unusedVariables false
set_option linter.unusedSimpArgs false
attribute [local go_sem ↓ high] builtin_app
section
variable {tS tE tL : TypeId} {P S : Nat → Prop} {w W w1 : World} {gs gt ct : Nat} {T : Option Addr} {qs : List Rw} {rows : List (List Nat)}
theorem getD_app {α : Type} (l : List α) (x d : α) (i : Nat) : (l ++ [x]).getD i d = if i < l.length then l.getD i d else if i = l.length then x else d := by
  by_cases h1 : i < l.length
  · rw [if_pos h1]; simp [List.getD_eq_getElem?_getD, List.getElem?_append_left h1]
  · rw [if_neg h1]
    by_cases h2 : i = l.length
    · subst h2; rw [if_pos rfl]; simp [List.getD_eq_getElem?_getD]
    · rw [if_neg h2]; simp [List.getD_eq_getElem?_getD, List.getElem?_eq_none (show (l ++ [x]).length ≤ i by simp; omega)]
theorem rvs_app (hl : qs.length = rows.length) (q : Rw) (r : List Nat) : rvs (qs ++ [q]) (rows ++ [r]) = rvs qs rows ++ [rv q r] := by
  simp [rvs, List.zipWith_append hl]
theorem Sc.push (ht : Try.prog.underlying tL = some (.slice tE)) (hinfo : (Try.prog.info? tE).map (fun i => (i.zero, i.size, i.bytes)) = some (some (.slice none 0 0), 1, 24)) (h : Sc tS tE P W gs T ct qs rows) {q : Rw} {r : List Nat} (ho : W.ownsRow 0 47 1 (rv q r) r.length (u32s r)) (hk : ∀ k, vbk (rv q r) = some k → ¬ P k) (hlt : ∀ x ∈ r, x < 4294967296) (hl : rows.length ≤ 1000) :
    ∃ T1 c1 w1, (appSem #[tL, tL] tL #[.slice T rows.length ct, .slice (some ⟨W.heap.size, 0, none⟩) 1 1]).run Try.prog (W.alloc (.cells #[rv q r] tE)) = .ok (.slice T1 (rows.length + 1) c1) w1 ∧ (w1.cell? ⟨gs, 0, none⟩ = some (.slice T rows.length ct) ∧ w1.frozen? ⟨gs, 0, none⟩ = false) ∧ (∃ P', Sc tS tE P' (w1.setCell ⟨gs, 0, none⟩ (.slice T1 (rows.length + 1) c1)) gs T1 c1 (qs ++ [q]) (rows ++ [r]) ∧ ∀ b, P' b → P b ∨ W.heap.size ≤ b ∨ vbk (rv q r) = some b) ∧ Fr P W w1 := by
  obtain ⟨T1, c1, w1, hrun, hown, _, hat, hf⟩ := push_one (t := tL) ht hinfo rfl (by decide) (by decide) h.tb (Nat.zero_le _) (rv q r) rfl (by omega)
  have hsz := hf.size
  have hgsl := h.ob.lt
  have g1 := h.ob.fr hf (fun e => (h.pt _ e).2 rfl)
  have f2 : Fr (fun k => k = gs) w1 (w1.setCell ⟨gs, 0, none⟩ (.slice T1 (rows.length + 1) c1)) := (Fr.refl (fun k => k = gs) w1).setCell (p := ⟨gs, 0, none⟩) (.inl rfl) _
  have hrl : (rows ++ [r]).length = rows.length + 1 := by simp
  have hqk : ∀ k, vbk (rv q r) = some k → k < W.heap.size := fun k e => (ho.lt k e).2
  have hT1 : ∀ k, vbk (.slice T1 (rows.length + 1) c1) = some k → k ≠ gs ∧ (P k ∨ W.heap.size ≤ k) := fun k e => by
    rcases hat k e with e2 | e2
    · exact ⟨(h.pt k e2).2, .inl (h.pt k e2).1⟩
    · exact ⟨by omega, .inr e2⟩
  have hrows : ∀ i, i < rows.length → ∀ k, vbk (rv (qs.getD i q0) (rows.getD i [])) = some k → vbk (.slice T1 (rows.length + 1) c1) ≠ some k := fun i hi k e e2 => by
    rcases hat k e2 with e3 | e3
    · exact (h.pr i hi k e).2.2 e3
    · have := h.blt k (h.pr i hi k e).1; omega
  have hnewr : ∀ k, vbk (rv q r) = some k → vbk (.slice T1 (rows.length + 1) c1) ≠ some k := fun k e e2 => by
    rcases hat k e2 with e3 | e3
    · exact hk k e (h.pt k e3).1
    · have := hqk k e; omega
  have hget : ∀ i, i < rows.length + 1 → (i < rows.length ∧ rv ((qs ++ [q]).getD i q0) ((rows ++ [r]).getD i []) = rv (qs.getD i q0) (rows.getD i []) ∧ (rows ++ [r]).getD i [] = rows.getD i []) ∨ (i = rows.length ∧ rv ((qs ++ [q]).getD i q0) ((rows ++ [r]).getD i []) = rv q r ∧ (rows ++ [r]).getD i [] = r) := fun i hi => by
    rw [getD_app, getD_app, h.ql]
    by_cases e : i < rows.length
    · simp only [if_pos e]; exact .inl ⟨e, trivial, trivial⟩
    · have e2 : i = rows.length := by omega
      simp only [if_neg e, if_pos e2]; exact .inr ⟨e2, trivial, trivial⟩
  have hold : ∀ i, i < rows.length → w1.ownsRow 0 47 1 (rv (qs.getD i q0) (rows.getD i [])) (rows.getD i []).length (u32s (rows.getD i [])) := fun i hi => own_fr1 (h.row i hi) hf (fun k e e2 => (h.pr i hi k e).2.2 e2)
  have honew : w1.ownsRow 0 47 1 (rv q r) r.length (u32s r) := own_fr1 ho hf (fun k e e2 => hk k e (h.pt k e2).1)
  refine ⟨T1, c1, w1, hrun, ⟨g1.cell 0 rfl, g1.frozen 0⟩, ⟨fun b => (P b ∨ W.heap.size ≤ b ∨ vbk (rv q r) = some b) ∧ b < w1.heap.size, ⟨by simp [h.ql], ?_, ?_, ⟨.inl h.pg, by omega⟩, ?_, ?_, ?_, ?_, ?_, ?_⟩, fun b hb => hb.1⟩, hf.mono (fun b e => (h.pt b e).1)⟩
  · rw [hrl]; exact g1.set 0 _
  · rw [hrl, rvs_app h.ql]
    exact own_fr1 hown f2 (fun k e e2 => (hT1 k e).1 e2)
  · intro k e
    rw [hrl] at e
    have h1 := hT1 k e
    have h2 := (hown.lt k e).2
    exact ⟨⟨by rcases h1.2 with a | a; exact .inl a; exact .inr (.inl a), h2⟩, h1.1⟩
  · intro i hi
    rw [hrl] at hi
    rcases hget i hi with ⟨e1, e2, e3⟩ | ⟨e1, e2, e3⟩
    · rw [e2, e3]; exact own_fr1 (hold i e1) f2 (fun k e e4 => (h.pr i e1 k e).2.1 e4)
    · rw [e2, e3]; exact own_fr1 honew f2 (fun k e e4 => by subst e4; exact hk _ e h.pg)
  · intro i hi k e
    rw [hrl] at hi ⊢
    rcases hget i hi with ⟨e1, e2, e3⟩ | ⟨e1, e2, e3⟩
    · rw [e2] at e
      obtain ⟨p1, p2, p3⟩ := h.pr i e1 k e
      exact ⟨⟨.inl p1, by have := h.blt k p1; omega⟩, p2, hrows i e1 k e⟩
    · rw [e2] at e
      exact ⟨⟨.inr (.inr e), by have := hqk k e; omega⟩, fun e4 => by subst e4; exact hk _ e h.pg, hnewr k e⟩
  · intro i j hi hj hij k e e'
    rw [hrl] at hi hj
    rcases hget i hi with ⟨i1, i2, _⟩ | ⟨i1, i2, _⟩ <;> rcases hget j hj with ⟨j1, j2, _⟩ | ⟨j1, j2, _⟩
    · rw [i2] at e; rw [j2] at e'; exact h.ne i j i1 j1 hij k e e'
    · rw [i2] at e; rw [j2] at e'; exact hk k e' (h.pr i i1 k e).1
    · rw [i2] at e; rw [j2] at e'; exact hk k e (h.pr j j1 k e').1
    · omega
  · intro b hb; have h1 := hb.2; simpa using h1
  · intro r' hr'
    rcases List.mem_append.1 hr' with e | e
    · exact h.lt r' e
    · rw [List.mem_singleton.1 e]; exact hlt
end
end Go.Proofs.Ytifpigcgkpmheaa.Sj12
