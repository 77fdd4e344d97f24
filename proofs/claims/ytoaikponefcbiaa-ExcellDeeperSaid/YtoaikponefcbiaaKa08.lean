/- Layer 8, further: Whole and Partial of whatever they are given, the program's and the document's. -/
import Derived.Test.YtoaikponefcbiaaKx08
import Derived.Test.YtoaikponefcbiaaKp08
namespace Go.Proofs.Ytoaikponefcbiaa.Ka08
open Go.RowKit Go.Proofs.Ytoaikponefcbiaa.Pk08 Go.Proofs.Ytoaikponefcbiaa.Pq08 Go.Proofs.Ytoaikponefcbiaa.Base Go.Proofs.Ytoaikponefcbiaa.App Go.Proofs.Ytoaikponefcbiaa.Str Go.Proofs.Ytoaikponefcbiaa.Ky Go.Proofs.Ytoaikponefcbiaa.Iv Go.Proofs.Ytoaikponefcbiaa.Bx Go.Proofs.Ytoaikponefcbiaa.Kc08 Go.Proofs.Ytoaikponefcbiaa.Ki08 Go.Proofs.Ytoaikponefcbiaa.Kj08 Go.Proofs.Ytoaikponefcbiaa.Kn08 Go.Proofs.Ytoaikponefcbiaa.Ko08 Go.Proofs.Ytoaikponefcbiaa.Kp08 Go.Proofs.Ytoaikponefcbiaa.Kq08 Go.Proofs.Ytoaikponefcbiaa.Kr08 Go.Proofs.Ytoaikponefcbiaa.Kw08 Go.Proofs.Ytoaikponefcbiaa.Kx08
set_option linter.unusedVariables false
set_option linter.unusedSimpArgs false
/-- The corners of the box of all points. -/
def wLo (d : Int) : List Nat := if 1 ≤ d ∧ d ≤ 6 then List.replicate d.toNat 0 else []
def wHi (d : Int) : List Nat := if 1 ≤ d ∧ d ≤ 6 then List.replicate d.toNat 4294967295 else []
/-- A box of two points is returned. -/
def BoxOne (w : World) (lo hi : List Nat) (e : Ending) (w' : World) : Prop :=
  ∃ A n c B m d, e = .returned (.agg #[.slice A n c, .slice B m d]) ∧ Kv w' A n c lo ∧ Kv w' B m d hi ∧ Fr No w w'
theorem wLo_in {d : Int} (h : 1 ≤ d ∧ d ≤ 6) : wLo d = List.replicate d.toNat 0 := by unfold wLo; rw [if_pos h]
theorem wHi_in {d : Int} (h : 1 ≤ d ∧ d ≤ 6) : wHi d = List.replicate d.toNat 4294967295 := by unfold wHi; rw [if_pos h]
theorem wLo_out {d : Int} (h : ¬ (1 ≤ d ∧ d ≤ 6)) : wLo d = [] := by unfold wLo; rw [if_neg h]
theorem wHi_out {d : Int} (h : ¬ (1 ≤ d ∧ d ≤ 6)) : wHi d = [] := by unfold wHi; rw [if_neg h]
theorem whole_any (d : Int) (w : World) : Calls Try.prog 25 #[.int .i64 d] w (BoxOne w (wLo d) (wHi d)) := by
  by_cases h : 1 ≤ d ∧ d ≤ 6
  · obtain ⟨k, rfl⟩ := Int.eq_ofNat_of_zero_le (show 0 ≤ d by omega)
    rw [wLo_in h, wHi_in h, Int.toNat_natCast]
    refine (whole_ok k (by omega) (by omega) w).mono ?_
    rintro e w' ⟨s, t, _, rfl, h1, h2, hf⟩
    exact ⟨_, _, _, _, _, _, rfl, Kv.of_own h1 (by simp), Kv.of_own h2 (by simp), hf⟩
  · rw [wLo_out h, wHi_out h]
    refine (whole_bad d h w).mono ?_
    rintro e w' ⟨rfl, hf⟩
    exact ⟨_, _, _, _, _, _, rfl, Kv.none_ _, Kv.none_ _, hf⟩
theorem rwhole_any (d : Int) (w : World) : Calls Try.prog 22 #[.int .i64 d] w (BoxOne w (wLo d) (wHi d)) := by
  by_cases h : 1 ≤ d ∧ d ≤ 6
  · obtain ⟨k, rfl⟩ := Int.eq_ofNat_of_zero_le (show 0 ≤ d by omega)
    rw [wLo_in h, wHi_in h, Int.toNat_natCast]
    refine (rwhole_ok k (by omega) w).mono ?_
    rintro e w' ⟨A, n, ca, B, m, cb, rfl, h1, h2, _, hf⟩
    exact ⟨_, _, _, _, _, _, rfl, Kv.of_own h1 (by simp), Kv.of_own h2 (by simp), hf⟩
  · rw [wLo_out h, wHi_out h]
    refine (rwhole_bad d h w).mono ?_
    rintro e w' ⟨rfl, hf⟩
    exact ⟨_, _, _, _, _, _, rfl, Kv.none_ _, Kv.none_ _, hf⟩
/-- The box of those with some coordinates, or why there is none. -/
def pIn (d : Int) (xs : List Int) (ks : List Nat) : Prop := 1 ≤ d ∧ d ≤ 6 ∧ xs.length = ks.length
instance (d : Int) (xs : List Int) (ks : List Nat) : Decidable (pIn d xs ks) := inferInstanceAs (Decidable (_ ∧ _))
def pLo (d : Int) (xs : List Int) (ks : List Nat) : List Nat := if pIn d xs ks then partLo d.toNat xs ks else []
def pHi (d : Int) (xs : List Int) (ks : List Nat) : List Nat := if pIn d xs ks then partHi d.toNat xs ks else []
def pE (d : Int) (xs : List Int) (ks : List Nat) : Int := if pIn d xs ks then partE d.toNat xs else 1
theorem pE_rng (d : Int) (xs : List Int) (ks : List Nat) : pE d xs ks = 0 ∨ pE d xs ks = 1 := by
  unfold pE partE
  split
  · split
    · exact .inl rfl
    · exact .inr rfl
  · exact .inr rfl
theorem pE_in {d : Int} {xs : List Int} {ks : List Nat} (h : pE d xs ks = 0) : pIn d xs ks ∧ partE d.toNat xs = 0 := by
  unfold pE at h
  by_cases hp : pIn d xs ks
  · rw [if_pos hp] at h; exact ⟨hp, h⟩
  · rw [if_neg hp] at h; exact absurd h (by decide)
section
variable {w : World} {A B : Option Addr} {n m cn cm : Nat} {xs : List Int} {ks : List Nat}
end
end Go.Proofs.Ytoaikponefcbiaa.Ka08
