/- Slices of whole numbers that are read. No program in sight. -/
import Derived.Test.YtoaikponefcbiaaKy
namespace Go.Proofs.Ytoaikponefcbiaa.Iv
open Go.RowKit Go.Proofs.Ytoaikponefcbiaa.Base Go.Proofs.Ytoaikponefcbiaa.App Go.Proofs.Ytoaikponefcbiaa.Ty
set_option linter.unusedVariables false
/-- A slice of whole numbers that is read. -/
structure Iv (w : World) (A : Option Addr) (n c : Nat) (xs : List Int) : Prop where
  len : n = xs.length
  cap : n ≤ c
  most : c ≤ maxLen
  wf : ∀ i, i < xs.length → -9223372036854775808 ≤ xs.getD i 0 ∧ xs.getD i 0 ≤ 9223372036854775807
  at_ : 0 < xs.length → ∃ b off, A = some ⟨b, off, none⟩ ∧ ∀ i, i < xs.length → w.cell? ⟨b, off + i, none⟩ = some (.int .i64 (xs.getD i 0))
section
variable {S : Nat → Prop} {w w1 : World} {A : Option Addr} {n c : Nat} {xs : List Int}
theorem Iv.fr (h : Iv w A n c xs) (f : Fr S w w1) (hn : ∀ b off, A = some ⟨b, off, none⟩ → ¬ S b) : Iv w1 A n c xs := by
  refine ⟨h.len, h.cap, h.most, h.wf, fun h0 => ?_⟩
  obtain ⟨b, off, h1, h2⟩ := h.at_ h0
  refine ⟨b, off, h1, fun i hi => ?_⟩
  have hb := World.block_lt_of_cell? w _ (h2 i hi)
  rw [World.cell?_of_block (w := w) (f.block _ hb (hn b off h1))]
  exact h2 i hi
theorem Iv.no (h : Iv w A n c xs) (f : Fr No w w1) : Iv w1 A n c xs := h.fr f (fun _ _ _ x => x)
theorem Iv.get (h : Iv w A n c xs) (i : Nat) (hi : i < xs.length) : ∃ b off, A = some ⟨b, off, none⟩ ∧ w.cell? ⟨b, off + i, none⟩ = some (.int .i64 (xs.getD i 0)) := by
  obtain ⟨b, off, h1, h2⟩ := h.at_ (by omega)
  exact ⟨b, off, h1, h2 i hi⟩
/-- An argument's slice. -/
theorem Iv.of_rd {e : TypeId} {xs : List Int} (h : Rd (.sl e (.int .i64)) w xs [.slice A n c]) : Iv w A n c xs := by
  obtain ⟨h1, h2, h3, h4⟩ := h.slice
  refine ⟨h1, h2, h3, fun i hi => ?_, fun h0 => ?_⟩
  · obtain ⟨ad, ecs, _, _, h5, _⟩ := h4 i hi
    have h6 : (decide (IntKind.i64.min ≤ xs[i]) && decide (xs[i] ≤ IntKind.i64.max)) = true := h5.2
    rw [show IntKind.i64.min = -9223372036854775808 from by decide, show IntKind.i64.max = 9223372036854775807 from by decide, Bool.and_eq_true, decide_eq_true_eq, decide_eq_true_eq] at h6
    have e : xs.getD i 0 = xs[i] := by simp [List.getD_eq_getElem?_getD, hi]
    rw [e]
    exact h6
  · obtain ⟨b, off, h5, h6⟩ := h.addr h0 (by decide)
    refine ⟨b, off, h5, fun i hi => ?_⟩
    obtain ⟨ecs, h7, h8, h9⟩ := h6 i hi
    have h10 : ecs = [.int .i64 xs[i]] := h8.1
    have h11 := h9 0 (.int .i64 xs[i]) (by rw [h10]; rfl)
    have e : xs.getD i 0 = xs[i] := by simp [List.getD_eq_getElem?_getD, hi]
    rw [e]
    simpa [Ty.sz] using h11
end
end Go.Proofs.Ytoaikponefcbiaa.Iv
