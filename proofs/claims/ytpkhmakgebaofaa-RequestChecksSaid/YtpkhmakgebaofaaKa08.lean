/- Layer 8, further: Whole and Partial of whatever they are given, the program's and the document's. -/
import Derived.Test.YtpkhmakgebaofaaKx08
import Derived.Test.YtpkhmakgebaofaaKp08
namespace Go.Proofs.Ytpkhmakgebaofaa.Ka08
open Go.RowKit Go.Proofs.Ytpkhmakgebaofaa.Pk08 Go.Proofs.Ytpkhmakgebaofaa.Pq08 Go.Proofs.Ytpkhmakgebaofaa.Base Go.Proofs.Ytpkhmakgebaofaa.App Go.Proofs.Ytpkhmakgebaofaa.Str Go.Proofs.Ytpkhmakgebaofaa.Ky Go.Proofs.Ytpkhmakgebaofaa.Iv Go.Proofs.Ytpkhmakgebaofaa.Bx Go.Proofs.Ytpkhmakgebaofaa.Kc08 Go.Proofs.Ytpkhmakgebaofaa.Ki08 Go.Proofs.Ytpkhmakgebaofaa.Kj08 Go.Proofs.Ytpkhmakgebaofaa.Kn08 Go.Proofs.Ytpkhmakgebaofaa.Ko08 Go.Proofs.Ytpkhmakgebaofaa.Kp08 Go.Proofs.Ytpkhmakgebaofaa.Kq08 Go.Proofs.Ytpkhmakgebaofaa.Kr08 Go.Proofs.Ytpkhmakgebaofaa.Kw08 Go.Proofs.Ytpkhmakgebaofaa.Kx08
set_option linter.unusedVariables false
set_option linter.unusedSimpArgs false
/-- The corners of the box of all points. -/
def wLo (d : Int) : List Nat := if 1 ≤ d ∧ d ≤ 6 then List.replicate d.toNat 0 else []
def wHi (d : Int) : List Nat := if 1 ≤ d ∧ d ≤ 6 then List.replicate d.toNat 4294967295 else []
/-- A box of two points is returned. -/
def BoxOne (w : World) (lo hi : List Nat) (e : Ending) (w' : World) : Prop :=
  ∃ A n c B m d, e = .returned (.agg #[.slice A n c, .slice B m d]) ∧ Kv w' A n c lo ∧ Kv w' B m d hi ∧ Fr No w w'
theorem wLo_in {d : Int} (h : 1 ≤ d ∧ d ≤ 6) : wLo d = List.replicate d.toNat 0 := by unfold wLo; rw [if_pos h]
theorem wHi_in {d : Int} (h : 1 ≤ d ∧ d ≤ 6) : wHi d = List.replicate d.toNat 4294967295 := by unfold wHi; rw [if_pos h]
theorem wLo_out {d : Int} (h : ¬ (1 ≤ d ∧ d ≤ 6)) : wLo d = [] := by unfold wLo; rw [if_neg h]
theorem wHi_out {d : Int} (h : ¬ (1 ≤ d ∧ d ≤ 6)) : wHi d = [] := by unfold wHi; rw [if_neg h]
theorem whole_any (d : Int) (w : World) : Calls Try.prog 24 #[.int .i64 d] w (BoxOne w (wLo d) (wHi d)) := by
  by_cases h : 1 ≤ d ∧ d ≤ 6
  · obtain ⟨k, rfl⟩ := Int.eq_ofNat_of_zero_le (show 0 ≤ d by omega)
    rw [wLo_in h, wHi_in h, Int.toNat_natCast]
    refine (whole_ok k (by omega) (by omega) w).mono ?_
    rintro e w' ⟨s, t, _, rfl, h1, h2, hf⟩
    exact ⟨_, _, _, _, _, _, rfl, Kv.of_own h1 (by simp), Kv.of_own h2 (by simp), hf⟩
  · rw [wLo_out h, wHi_out h]
    refine (whole_bad d h w).mono ?_
    rintro e w' ⟨rfl, hf⟩
    exact ⟨_, _, _, _, _, _, rfl, Kv.none_ _, Kv.none_ _, hf⟩
theorem rwhole_any (d : Int) (w : World) : Calls Try.prog 25 #[.int .i64 d] w (BoxOne w (wLo d) (wHi d)) := by
  by_cases h : 1 ≤ d ∧ d ≤ 6
  · obtain ⟨k, rfl⟩ := Int.eq_ofNat_of_zero_le (show 0 ≤ d by omega)
    rw [wLo_in h, wHi_in h, Int.toNat_natCast]
    refine (rwhole_ok k (by omega) w).mono ?_
    rintro e w' ⟨A, n, ca, B, m, cb, rfl, h1, h2, _, hf⟩
    exact ⟨_, _, _, _, _, _, rfl, Kv.of_own h1 (by simp), Kv.of_own h2 (by simp), hf⟩
  · rw [wLo_out h, wHi_out h]
    refine (rwhole_bad d h w).mono ?_
    rintro e w' ⟨rfl, hf⟩
    exact ⟨_, _, _, _, _, _, rfl, Kv.none_ _, Kv.none_ _, hf⟩
/-- The box of those with some coordinates, or why there is none. -/
def pIn (d : Int) (xs : List Int) (ks : List Nat) : Prop := 1 ≤ d ∧ d ≤ 6 ∧ xs.length = ks.length
instance (d : Int) (xs : List Int) (ks : List Nat) : Decidable (pIn d xs ks) := inferInstanceAs (Decidable (_ ∧ _))
def pLo (d : Int) (xs : List Int) (ks : List Nat) : List Nat := if pIn d xs ks then partLo d.toNat xs ks else []
def pHi (d : Int) (xs : List Int) (ks : List Nat) : List Nat := if pIn d xs ks then partHi d.toNat xs ks else []
def pE (d : Int) (xs : List Int) (ks : List Nat) : Int := if pIn d xs ks then partE d.toNat xs else 1
theorem pE_rng (d : Int) (xs : List Int) (ks : List Nat) : pE d xs ks = 0 ∨ pE d xs ks = 1 := by
  unfold pE partE
  split
  · split
    · exact .inl rfl
    · exact .inr rfl
  · exact .inr rfl
theorem pE_in {d : Int} {xs : List Int} {ks : List Nat} (h : pE d xs ks = 0) : pIn d xs ks ∧ partE d.toNat xs = 0 := by
  unfold pE at h
  by_cases hp : pIn d xs ks
  · rw [if_pos hp] at h; exact ⟨hp, h⟩
  · rw [if_neg hp] at h; exact absurd h (by decide)
section
variable {w : World} {A B : Option Addr} {n m cn cm : Nat} {xs : List Int} {ks : List Nat}
theorem partial_any (d : Int) (hx : Iv w A n cn xs) (hk : Kv w B m cm ks) :
    Calls Try.prog 15 #[.int .i64 d, .slice A n cn, .slice B m cm] w (BoxRet w (pLo d xs ks) (pHi d xs ks) (.int .i64 (pE d xs ks))) := by
  by_cases h : pIn d xs ks
  · obtain ⟨h1, h2, h3⟩ := h
    obtain ⟨k, rfl⟩ := Int.eq_ofNat_of_zero_le (show 0 ≤ d by omega)
    have hnm : n = m := by rw [hx.len, hk.len, h3]
    subst hnm
    unfold pLo pHi pE
    rw [if_pos ⟨h1, h2, h3⟩, if_pos ⟨h1, h2, h3⟩, if_pos ⟨h1, h2, h3⟩, Int.toNat_natCast]
    exact partial_in k (by omega) (by omega) hx hk
  · unfold pLo pHi pE
    rw [if_neg h, if_neg h, if_neg h]
    refine (partial_bad d A B n cn m cm (fun x => h ⟨x.1, x.2.1, by rw [← hx.len, ← hk.len]; exact x.2.2⟩) w).mono ?_
    rintro e w' ⟨rfl, hf⟩
    exact ⟨_, _, _, _, _, _, rfl, Kv.none_ _, Kv.none_ _, hf⟩
theorem rpartial_any (d : Int) (hx : Iv w A n cn xs) (hk : Kv w B m cm ks) :
    Calls Try.prog 17 #[.int .i64 d, .slice A n cn, .slice B m cm] w (BoxRet w (pLo d xs ks) (pHi d xs ks) (.int .i64 (pE d xs ks))) := by
  have hn : n ≤ 9223372036854775807 := by
    have h1 := hx.cap
    have h2 := hx.most
    have h3 : maxLen ≤ 9223372036854775807 := by decide
    omega
  by_cases h : pIn d xs ks
  · obtain ⟨h1, h2, h3⟩ := h
    obtain ⟨k, rfl⟩ := Int.eq_ofNat_of_zero_le (show 0 ≤ d by omega)
    have hnm : n = m := by rw [hx.len, hk.len, h3]
    subst hnm
    unfold pLo pHi pE
    rw [if_pos ⟨h1, h2, h3⟩, if_pos ⟨h1, h2, h3⟩, if_pos ⟨h1, h2, h3⟩, Int.toNat_natCast]
    exact rpartial_in k (by omega) (by omega) hx hk
  · unfold pLo pHi pE
    rw [if_neg h, if_neg h, if_neg h]
    refine (rpartial_bad d (fun x => h ⟨x.1, x.2.1, by rw [← hx.len, ← hk.len]; exact x.2.2⟩) hn hk.len_le).mono ?_
    rintro e w' ⟨rfl, hf⟩
    exact ⟨_, _, _, _, _, _, rfl, Kv.none_ _, Kv.none_ _, hf⟩
end
end Go.Proofs.Ytpkhmakgebaofaa.Ka08
