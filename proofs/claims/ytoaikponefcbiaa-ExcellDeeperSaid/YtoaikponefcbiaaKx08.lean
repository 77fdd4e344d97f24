/- Layer 8, the document's: the box of those with some coordinates. -/
import Derived.Test.YtoaikponefcbiaaKw08
import Derived.Test.YtoaikponefcbiaaKr08
import Derived.IntWalk
namespace Go.Proofs.Ytoaikponefcbiaa.Kx08
open Go.RowKit Go.Proofs.Ytoaikponefcbiaa.Pk08 Go.Proofs.Ytoaikponefcbiaa.Pq08 Go.Proofs.Ytoaikponefcbiaa.Base Go.Proofs.Ytoaikponefcbiaa.App Go.Proofs.Ytoaikponefcbiaa.Str Go.Proofs.Ytoaikponefcbiaa.Ky Go.Proofs.Ytoaikponefcbiaa.Iv Go.Proofs.Ytoaikponefcbiaa.Bx Go.Proofs.Ytoaikponefcbiaa.Ki08 Go.Proofs.Ytoaikponefcbiaa.Kj08 Go.Proofs.Ytoaikponefcbiaa.Kr08 Go.Proofs.Ytoaikponefcbiaa.Kw08
set_option linter.unusedVariables false
set_option linter.unusedSimpArgs false
/-- What holds from round to round: the result's place, the box, its two rows. -/
structure Rn (w wr : World) (g s t d cs ct : Nat) (xs : List Int) (ks : List Nat) (i : Nat) : Prop where
  ok : okP d xs i = true
  res : Ob wr w.heap.size #[.slice none 0 0, .slice none 0 0] 28
  box : Ob wr g #[.slice (some ⟨s, 0, none⟩) d cs, .slice (some ⟨t, 0, none⟩) d ct] 28
  lo : wr.ownsRow (w.heap.size + 1) 50 1 (.slice (some ⟨s, 0, none⟩) d cs) d (u32s (setP (List.replicate d 0) xs ks i))
  hi : wr.ownsRow (w.heap.size + 1) 50 1 (.slice (some ⟨t, 0, none⟩) d ct) d (u32s (setP (List.replicate d 4294967295) xs ks i))
  ne : s ≠ t ∧ s < g ∧ t < g
  fr : Fr No w wr
theorem Rn.drewN {w wr : World} {g s t d cs ct : Nat} {xs : List Int} {ks : List Nat} {i : Nat} (h : Rn w wr g s t d cs ct xs ks i) (n : Nat) : Rn w (wr.drewN n) g s t d cs ct xs ks i :=
  ⟨h.ok, h.res.drewN n, h.box.drewN n, own_fr h.lo ((Fr.refl No wr).drewN n) (fun _ _ x => x), own_fr h.hi ((Fr.refl No wr).drewN n) (fun _ _ x => x), h.ne, h.fr.drewN n⟩
theorem Rn.drew {w wr : World} {g s t d cs ct : Nat} {xs : List Int} {ks : List Nat} {i : Nat} (h : Rn w wr g s t d cs ct xs ks i) : Rn w wr.drew g s t d cs ct xs ks i :=
  ⟨h.ok, h.res.drew, h.box.drew, h.lo.drew, h.hi.drew, h.ne, h.fr.drew⟩
theorem Rn.next {w wr : World} {g s t d cs ct : Nat} {xs : List Int} {ks : List Nat} {i m y : Nat} (h : Rn w wr g s t d cs ct xs ks i) (hx : xs.getD i 0 = (m : Int)) (hk : ks.getD i 0 = y) (h1 : prev xs i < xs.getD i 0) (h2 : xs.getD i 0 < d) :
    Rn w ((wr.setCell ⟨s, m, none⟩ (.int .u32 (y : Int))).setCell ⟨t, m, none⟩ (.int .u32 (y : Int))) g s t d cs ct xs ks (i + 1) := by
  obtain ⟨ne1, ne2, ne3⟩ := h.ne
  have ls := (h.lo.lt s rfl).1
  have lt' := (h.hi.lt t rfl).1
  refine ⟨?_, ?_, ?_, ?_, ?_, h.ne, ?_⟩
  · simp only [okP, Bool.and_eq_true, decide_eq_true_eq]
    exact ⟨h.ok, h1, h2⟩
  · exact (h.res.other (p := ⟨s, m, none⟩) (by show ¬ (w.heap.size = s); omega) _).other (p := ⟨t, m, none⟩) (by show ¬ (w.heap.size = t); omega) _
  · exact (h.box.other (p := ⟨s, m, none⟩) (by show ¬ (g = s); omega) _).other (p := ⟨t, m, none⟩) (by show ¬ (g = t); omega) _
  · have h0 := (h.lo.stored m (.int .u32 (y : Int))).1
    rw [u32s_set] at h0
    have e : setP (List.replicate d 0) xs ks (i + 1) = (setP (List.replicate d 0) xs ks i).set m y := by simp only [setP]; rw [hx, hk, Int.toNat_natCast]
    rw [e]
    exact own_fr h0 (S := fun k => k = t) ((Fr.refl (fun k => k = t) _).setCell (p := ⟨t, m, none⟩) (.inl rfl) _) (fun k hk (hb : k = t) => by simp [Value.ownBlock] at hk; omega)
  · have h0 := own_fr h.hi (S := fun k => k = s) ((Fr.refl (fun k => k = s) _).setCell (p := ⟨s, m, none⟩) (.inl rfl) (.int .u32 (y : Int))) (fun k hk (hb : k = s) => by simp [Value.ownBlock] at hk; omega)
    have h1 := (h0.stored m (.int .u32 (y : Int))).1
    rw [u32s_set] at h1
    have e : setP (List.replicate d 4294967295) xs ks (i + 1) = (setP (List.replicate d 4294967295) xs ks i).set m y := by simp only [setP]; rw [hx, hk, Int.toNat_natCast]
    rw [e]
    exact h1
  · exact ((h.fr.setCell (p := ⟨s, m, none⟩) (.inr (by show w.heap.size ≤ s; omega)) _).setCell (p := ⟨t, m, none⟩) (.inr (by show w.heap.size ≤ t; omega)) _)
theorem own_some {w : World} {base e n c : Nat} {A : Option Addr} {xs : List Value} (h : w.ownsRow base e 1 (.slice A n c) n xs) (hn : 0 < n) : ∃ s, A = some ⟨s, 0, none⟩ := by
  rcases h.2 with ⟨h1, h2⟩ | ⟨g, cap, cur, h1, _⟩
  · omega
  · injection h1 with h1; exact ⟨g, h1⟩
section
variable {w : World} {A B : Option Addr} {n m cn cm : Nat} {xs : List Int} {ks : List Nat}
end
end Go.Proofs.Ytoaikponefcbiaa.Kx08
