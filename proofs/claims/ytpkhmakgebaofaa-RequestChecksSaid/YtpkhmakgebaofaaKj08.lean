/- Layer 8, further: what two boxes have both. -/
import Derived.Test.YtpkhmakgebaofaaKi08
import Derived.Test.YtpkhmakgebaofaaKe08
import Derived.Handy
namespace Go.Proofs.Ytpkhmakgebaofaa.Kj08
open Go.RowKit Go.Proofs.Ytpkhmakgebaofaa.Pk08 Go.Proofs.Ytpkhmakgebaofaa.Base Go.Proofs.Ytpkhmakgebaofaa.App Go.Proofs.Ytpkhmakgebaofaa.Str Go.Proofs.Ytpkhmakgebaofaa.Ky Go.Proofs.Ytpkhmakgebaofaa.Kc08 Go.Proofs.Ytpkhmakgebaofaa.Kd08 Go.Proofs.Ytpkhmakgebaofaa.Ke08 Go.Proofs.Ytpkhmakgebaofaa.Ki08
set_option linter.unusedVariables false
set_option linter.unusedSimpArgs false
/-- A box of two points, and a bool or a code, are returned. -/
def BoxRet (w : World) (lo hi : List Nat) (last : Value) (e : Ending) (w' : World) : Prop :=
  ∃ A n c B m d, e = .returned (.tuple #[.agg #[.slice A n c, .slice B m d], last]) ∧ Kv w' A n c lo ∧ Kv w' B m d hi ∧ Fr No w w'
theorem four {w' : World} {s t : Nat} {a b c d : Value} {T : TypeId} (h1 : Ob w' s #[a, b] T) (h2 : Ob w' t #[c, d] T) :
    w'.cell? ⟨s, 0, none⟩ = some a ∧ w'.cell? ⟨s, 1, none⟩ = some b ∧ w'.cell? ⟨t, 0, none⟩ = some c ∧ w'.cell? ⟨t, 1, none⟩ = some d :=
  ⟨h1.cell 0 rfl, h1.cell 1 rfl, h2.cell 0 rfl, h2.cell 1 rfl⟩
theorem put4 {w' : World} {s t z : Nat} {a b c d : Value} {T : TypeId} (h1 : Ob w' s #[a, b] T) (h2 : Ob w' t #[c, d] T) (n1 : s ≠ z) (n2 : t ≠ z) (u v : Value) :
    ((w'.setCell ⟨z, 0, none⟩ u).setCell ⟨z, 1, none⟩ v).cell? ⟨s, 0, none⟩ = some a ∧ ((w'.setCell ⟨z, 0, none⟩ u).setCell ⟨z, 1, none⟩ v).cell? ⟨s, 1, none⟩ = some b ∧ ((w'.setCell ⟨z, 0, none⟩ u).setCell ⟨z, 1, none⟩ v).cell? ⟨t, 0, none⟩ = some c ∧ ((w'.setCell ⟨z, 0, none⟩ u).setCell ⟨z, 1, none⟩ v).cell? ⟨t, 1, none⟩ = some d :=
  four ((h1.other n1 u).other n1 v) ((h2.other n2 u).other n2 v)
theorem kv_set2 {w : World} {t z n c : Nat} {ks : List Nat} (h : Kv w (some ⟨t, 0, none⟩) n c ks) (hn : t ≠ z) (u v : Value) : Kv ((w.setCell ⟨z, 0, none⟩ u).setCell ⟨z, 1, none⟩ v) (some ⟨t, 0, none⟩) n c ks :=
  h.fr (S := fun k => k = z) (((Fr.refl (fun k => k = z) w).setCell (p := ⟨z, 0, none⟩) (.inl rfl) u).setCell (p := ⟨z, 1, none⟩) (.inl rfl) v) (fun b off e (hb : b = z) => by
    injection e with e
    injection e with e1 e2
    exact hn (e1.trans hb))
theorem chkB_one {lo hi : List Nat} {d : Int} (h : ¬ chkB lo hi d = 0) : chkB lo hi d = 1 := by
  unfold chkB at h ⊢
  split
  · next h2 => rw [if_pos h2] at h; exact absurd rfl h
  · rfl
/-- Two points are put together in a box at z; the result's place is r. -/
structure Ready (w wE : World) (r t1 t2 z n : Nat) (lo hi : List Nat) : Prop where
  hz : Ob wE z #[.slice (some ⟨t1, 0, none⟩) n n, .slice (some ⟨t2, 0, none⟩) n n] 25
  hr : Ob wE r #[.slice none 0 0, .slice none 0 0] 25
  k1 : Kv wE (some ⟨t1, 0, none⟩) n n lo
  k2 : Kv wE (some ⟨t2, 0, none⟩) n n hi
  fr : Fr No w wE
  ne : z ≠ r
  n1 : t1 ≠ r
  n2 : t2 ≠ r
  le : w.heap.size ≤ r
def meetIs (al ah bl bh : List Nat) : Bool := decide (ah.length = al.length ∧ bl.length = al.length ∧ bh.length = al.length ∧ chkB (zipL max al bl) (zipL min ah bh) al.length = 0)
def meetLo (al ah bl bh : List Nat) : List Nat := if meetIs al ah bl bh = true then zipL max al bl else []
def meetHi (al ah bl bh : List Nat) : List Nat := if meetIs al ah bl bh = true then zipL min ah bh else []
theorem max_lt (x y : Nat) (hx : x < 4294967296) (hy : y < 4294967296) : max x y < 4294967296 := by omega
theorem min_lt (x y : Nat) (hx : x < 4294967296) (hy : y < 4294967296) : min x y < 4294967296 := by omega
section
variable {w : World} {A B C D : Option Addr} {n m p q cn cm cp cq : Nat} {al ah bl bh : List Nat}
end
end Go.Proofs.Ytpkhmakgebaofaa.Kj08
