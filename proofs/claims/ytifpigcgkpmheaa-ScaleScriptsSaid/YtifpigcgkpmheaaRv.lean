/- Slices of records that are read: a point and its data each. No program in sight. -/
import Derived.Test.YtifpigcgkpmheaaGa
namespace Go.Proofs.Ytifpigcgkpmheaa.Rv
open Go.RowKit Go.Proofs.Ytifpigcgkpmheaa.Base Go.Proofs.Ytifpigcgkpmheaa.App Go.Proofs.Ytifpigcgkpmheaa.Ty Go.Proofs.Ytifpigcgkpmheaa.Ky
set_option linter.unusedVariables false
/-- A record: its point, its data. -/
abbrev Rec := List Nat × ByteArray
def rec0 : Rec := ([], ByteArray.empty)
abbrev recT (E : TypeId) : Ty := .cn (.sl E (.int .u32)) (.cn .str .nl)
/-- One record's two cells. -/
def R1 (w : World) (u v : Value) (r : Rec) : Prop := ∃ KA kc, u = .slice KA r.1.length kc ∧ v = .string r.2 ∧ Kv w KA r.1.length kc r.1 ∧ r.2.size ≤ maxLen
/-- A slice of records that is read. -/
structure Rv (w : World) (A : Option Addr) (n c : Nat) (rs : List Rec) : Prop where
  len : n = rs.length
  cap : n ≤ c
  most : c ≤ maxLen
  at_ : 0 < rs.length → ∃ b off, A = some ⟨b, off, none⟩ ∧ ∀ i, i < rs.length → ∃ KA kc, w.cell? ⟨b, off + i * 2, none⟩ = some (.slice KA (rs.getD i rec0).1.length kc) ∧ w.cell? ⟨b, off + i * 2 + 1, none⟩ = some (.string (rs.getD i rec0).2) ∧ Kv w KA (rs.getD i rec0).1.length kc (rs.getD i rec0).1 ∧ (rs.getD i rec0).2.size ≤ maxLen
section
variable {w w1 : World} {A : Option Addr} {n c : Nat} {rs : List Rec}
theorem Rv.no (h : Rv w A n c rs) (f : Fr No w w1) : Rv w1 A n c rs := by
  refine ⟨h.len, h.cap, h.most, fun h0 => ?_⟩
  obtain ⟨b, off, h1, h2⟩ := h.at_ h0
  refine ⟨b, off, h1, fun i hi => ?_⟩
  obtain ⟨KA, kc, h3, h4, h5, h6⟩ := h2 i hi
  have hb := World.block_lt_of_cell? w _ h3
  refine ⟨KA, kc, ?_, ?_, h5.no f, h6⟩
  · rw [World.cell?_of_block (w := w) (f.block _ hb (fun x => x))]; exact h3
  · rw [World.cell?_of_block (w := w) (a := ⟨b, off + i * 2 + 1, none⟩) (f.block _ hb (fun x => x))]; exact h4
theorem Rv.alloc (h : Rv w A n c rs) (o : Obj) : Rv (w.alloc o) A n c rs := h.no ((Fr.refl No w).alloc o)
theorem Rv.drew (h : Rv w A n c rs) : Rv w.drew A n c rs := h.no (Fr.refl No w).drew
theorem Rv.drewN (h : Rv w A n c rs) (k : Nat) : Rv (w.drewN k) A n c rs := h.no ((Fr.refl No w).drewN k)
theorem Rv.none_ (w : World) : Rv w none 0 0 [] := ⟨rfl, Nat.le_refl _, Nat.zero_le _, fun h => by simp at h⟩
theorem Rv.get (h : Rv w A n c rs) (i : Nat) (hi : i < rs.length) : ∃ b off KA kc, A = some ⟨b, off, none⟩ ∧ w.cell? ⟨b, off + i * 2, none⟩ = some (.slice KA (rs.getD i rec0).1.length kc) ∧ w.cell? ⟨b, off + i * 2 + 1, none⟩ = some (.string (rs.getD i rec0).2) ∧ Kv w KA (rs.getD i rec0).1.length kc (rs.getD i rec0).1 ∧ (rs.getD i rec0).2.size ≤ maxLen := by
  obtain ⟨b, off, h1, h2⟩ := h.at_ (by omega)
  obtain ⟨KA, kc, h3⟩ := h2 i hi
  exact ⟨b, off, KA, kc, h1, h3⟩
theorem Rv.len_le (h : Rv w A n c rs) : n ≤ 9223372036854775807 := by
  have h1 := h.cap
  have h2 := h.most
  have h3 : maxLen ≤ 9223372036854775807 := by decide
  omega
/-- An argument that is a record. -/
theorem rd_rec {E : TypeId} {x : (recT E).D} {cs : List Value} (h : Rd (recT E) w x cs) : ∃ KA n kc ks s, cs = [.slice KA n kc, .string s] ∧ Kv w KA n kc ks ∧ s.size ≤ maxLen := by
  obtain ⟨c1, c2, rfl, h1, c3, c4, rfl, h2, h3⟩ := h
  have h3' : c4 = [] := h3
  subst h3'
  have h1' := h1
  obtain ⟨A, c, rfl, _⟩ := h1'
  obtain ⟨rfl, hs⟩ := h2
  exact ⟨A, _, c, _, _, rfl, Kv.of_rd h1, hs⟩
/-- An argument's slice of records. -/
theorem Rv.of_rd {e E : TypeId} {xs : List (recT E).D} (h : Rd (.sl e (recT E)) w xs [.slice A n c]) : ∃ rs, Rv w A n c rs := by
  obtain ⟨h1, h2, h3, h4⟩ := h.slice
  have hx : ∀ i, i < xs.length → ∃ r : Rec, ∀ b off, A = some ⟨b, off, none⟩ → ∃ KA kc, w.cell? ⟨b, off + i * 2, none⟩ = some (.slice KA r.1.length kc) ∧ w.cell? ⟨b, off + i * 2 + 1, none⟩ = some (.string r.2) ∧ Kv w KA r.1.length kc r.1 ∧ r.2.size ≤ maxLen := by
    intro i hi
    obtain ⟨b, off, h5, h6⟩ := h.addr (by omega) (by simp [Ty.sz])
    obtain ⟨ecs, h7, h8, h9⟩ := h6 i hi
    obtain ⟨KA, kn, kc, ks, s, rfl, hk, hs⟩ := rd_rec h8
    refine ⟨(ks, s), fun b' off' e' => ?_⟩
    rw [h5] at e'
    injection e' with e'
    injection e' with e1 e2
    subst e1; subst e2
    have h10 := h9 0 _ rfl
    have h11 := h9 1 _ rfl
    have hl := hk.len
    subst hl
    exact ⟨KA, kc, h10, h11, hk, hs⟩
  obtain ⟨rs, hl, hq⟩ := list_of xs.length hx
  refine ⟨rs, by rw [hl]; exact h1, h2, h3, fun h0 => ?_⟩
  obtain ⟨b, off, h5, _⟩ := h.addr (by omega) (by simp [Ty.sz])
  refine ⟨b, off, h5, fun i hi => ?_⟩
  have e : rs.getD i rec0 = rs[i] := by simp [List.getD_eq_getElem?_getD, hi]
  rw [e]
  exact hq i hi b off h5
end
end Go.Proofs.Ytifpigcgkpmheaa.Rv
