/- A point stays where a box is stored into an object of two slices. No program in sight. -/
import Derived.Test.YtoaikponefcbiaaBx
namespace Go.Proofs.Ytoaikponefcbiaa.Kk
open Go.RowKit Go.Proofs.Ytoaikponefcbiaa.Base Go.Proofs.Ytoaikponefcbiaa.App Go.Proofs.Ytoaikponefcbiaa.Ky Go.Proofs.Ytoaikponefcbiaa.Bx
set_option linter.unusedVariables false
section
variable {w : World} {A B C D F : Option Addr} {n c r a b d e f g : Nat} {ks : List Nat} {T : TypeId}
theorem kv_apart (h : Kv w A n c ks) (hO : Ob w r #[.slice B a b, .slice C d e] T) (h0 : 0 < ks.length) : ∀ k off, A = some ⟨k, off, none⟩ → k ≠ r := by
  intro k off hk e
  subst e
  obtain ⟨b', off', h1, h2⟩ := h.get 0 h0
  rw [hk] at h1
  injection h1 with h1
  injection h1 with e1 e2
  subst e1; subst e2
  have hO' : w.heap[k]? = some (.cells #[.slice B a b, .slice C d e] T (0, 0)) := hO
  simp only [World.cell?, hO', Nat.add_zero] at h2
  rcases off with _ | _ | off
  · simp at h2
  · simp at h2
  · simp at h2
theorem Kv.put1 (h : Kv w A n c ks) (hO : Ob w r #[.slice B a b, .slice C d e] T) (j : Nat) (v : Value) : Kv (w.setCell ⟨r, j, none⟩ v) A n c ks := by
  rcases Nat.eq_zero_or_pos ks.length with h0 | h0
  · exact ⟨h.len, h.cap, h.most, h.lt, fun hx => by omega⟩
  · exact h.fr (S := fun k => k = r) ((Fr.refl (fun k => k = r) w).setCell (p := ⟨r, j, none⟩) (.inl rfl) v) (fun k off hk (he : k = r) => kv_apart h hO h0 k off hk he)
theorem Kv.put2 (h : Kv w A n c ks) (hO : Ob w r #[.slice B a b, .slice C d e] T) (v : Value) : Kv ((w.setCell ⟨r, 0, none⟩ (.slice D f g)).setCell ⟨r, 1, none⟩ v) A n c ks :=
  Kv.put1 (Kv.put1 h hO 0 _) (hO.set 0 (.slice D f g)) 1 v
end
end Go.Proofs.Ytoaikponefcbiaa.Kk
