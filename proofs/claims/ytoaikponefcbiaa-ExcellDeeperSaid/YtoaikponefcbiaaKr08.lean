/- Layer 8, further: Partial (under way). -/
import Derived.Test.YtoaikponefcbiaaKs08
namespace Go.Proofs.Ytoaikponefcbiaa.Kr08
open Go.RowKit Go.Proofs.Ytoaikponefcbiaa.Pk08 Go.Proofs.Ytoaikponefcbiaa.Pq08 Go.Proofs.Ytoaikponefcbiaa.Base Go.Proofs.Ytoaikponefcbiaa.App Go.Proofs.Ytoaikponefcbiaa.Str Go.Proofs.Ytoaikponefcbiaa.Ky Go.Proofs.Ytoaikponefcbiaa.Iv Go.Proofs.Ytoaikponefcbiaa.Kc08 Go.Proofs.Ytoaikponefcbiaa.Kd08 Go.Proofs.Ytoaikponefcbiaa.Ke08 Go.Proofs.Ytoaikponefcbiaa.Ki08 Go.Proofs.Ytoaikponefcbiaa.Kj08 Go.Proofs.Ytoaikponefcbiaa.Kn08 Go.Proofs.Ytoaikponefcbiaa.Ko08
set_option linter.unusedVariables false
set_option linter.unusedSimpArgs false
def partOk (d : Nat) (xs : List Int) : Bool := okP d xs xs.length
def partLo (d : Nat) (xs : List Int) (ks : List Nat) : List Nat := if partOk d xs = true then setP (List.replicate d 0) xs ks xs.length else []
def partHi (d : Nat) (xs : List Int) (ks : List Nat) : List Nat := if partOk d xs = true then setP (List.replicate d 4294967295) xs ks xs.length else []
def partE (d : Nat) (xs : List Int) : Int := if partOk d xs = true then 0 else 1
theorem part_no {d : Nat} {xs : List Int} {i : Nat} (hi : i < xs.length) (h : ¬ (prev xs i < xs.getD i 0 ∧ xs.getD i 0 < d)) : partOk d xs = false := by
  cases ho : partOk d xs with
  | false => rfl
  | true =>
    have := okP_le d xs xs.length (i + 1) (by omega) ho
    simp only [okP, Bool.and_eq_true, decide_eq_true_eq] at this
    exact absurd this.2 h
theorem setP_lt {base : List Nat} {xs : List Int} {ks : List Nat} (hb : ∀ x ∈ base, x < 4294967296) (hk : ∀ i, ks.getD i 0 < 4294967296) (i : Nat) : ∀ x ∈ setP base xs ks i, x < 4294967296 := by
  induction i with
  | zero => exact hb
  | succ i ih =>
    intro x hx
    simp only [setP] at hx
    rcases List.mem_or_eq_of_mem_set hx with h | h
    · exact ih x h
    · rw [h]; exact hk i
/-- What holds from round to round: the result's place, the box, its two rows. -/
structure Rnd (w wr : World) (g s t d : Nat) (xs : List Int) (ks : List Nat) (i : Nat) : Prop where
  ok : okP d xs i = true
  res : Ob wr w.heap.size #[.slice none 0 0, .slice none 0 0] 28
  box : Ob wr g #[.slice (some ⟨s, 0, none⟩) d d, .slice (some ⟨t, 0, none⟩) d d] 28
  lo : wr.ownsRow (w.heap.size + 1) 50 1 (.slice (some ⟨s, 0, none⟩) d d) d (u32s (setP (List.replicate d 0) xs ks i))
  hi : wr.ownsRow (w.heap.size + 1) 50 1 (.slice (some ⟨t, 0, none⟩) d d) d (u32s (setP (List.replicate d 4294967295) xs ks i))
  ne : s ≠ t ∧ s < g ∧ t < g
  fr : Fr No w wr
section
variable {w : World} {A B : Option Addr} {n cn cm : Nat} {xs : List Int} {ks : List Nat}
end
end Go.Proofs.Ytoaikponefcbiaa.Kr08
