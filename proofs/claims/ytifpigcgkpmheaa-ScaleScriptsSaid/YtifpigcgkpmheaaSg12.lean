/- Layer 12: the box of cells. -/
import Derived.Test.YtifpigcgkpmheaaSf12
import Derived.Deep.QuietTactic
import Derived.StillTailTactics
namespace Go.Proofs.Ytifpigcgkpmheaa.Sg12
open Go.RowKit Go.Proofs.Ytifpigcgkpmheaa.Pk08 Go.Proofs.Ytifpigcgkpmheaa.Base Go.Proofs.Ytifpigcgkpmheaa.App Go.Proofs.Ytifpigcgkpmheaa.Str Go.Proofs.Ytifpigcgkpmheaa.Ky Go.Proofs.Ytifpigcgkpmheaa.Iv Go.Proofs.Ytifpigcgkpmheaa.Bx Go.Proofs.Ytifpigcgkpmheaa.Bo Go.Proofs.Ytifpigcgkpmheaa.As Go.Proofs.Ytifpigcgkpmheaa.Ro Go.Proofs.Ytifpigcgkpmheaa.Kc08 Go.Proofs.Ytifpigcgkpmheaa.Ki08 Go.Proofs.Ytifpigcgkpmheaa.Ic Go.Proofs.Ytifpigcgkpmheaa.Sa12 Go.Proofs.Ytifpigcgkpmheaa.Sb12 Go.Proofs.Ytifpigcgkpmheaa.Sc12 Go.Proofs.Ytifpigcgkpmheaa.Sd12 Go.Proofs.Ytifpigcgkpmheaa.Sf12
set_option linter.unusedVariables false
set_option linter.unusedSimpArgs false
attribute [local go_sem ↓ high] builtin_app
def lowV (r : List Nat) (i : Nat) : Nat := if i = 0 then 0 else r.getD (i - 1) 0
def highV (r : List Nat) (i : Nat) : Nat := if i = r.length then 4294967295 else r.getD i 0 - 1
section
variable {w : World} {A : Option Addr} {n c : Nat} {r : List Nat}
theorem low_any (hk : Kv w A n c r) (i : Nat) (hi : i ≤ n) : Calls Try.prog 49 #[.slice A n c, .int .i64 (i : Int)] w fun e w' => e = .returned (.int .u32 ((lowV r i : Nat) : Int)) ∧ w = w' := by
  have hcn := hk.cap
  have hcm := hk.most
  have hmx : maxLen ≤ 9223372036854775807 := by decide
  rcases Nat.eq_zero_or_pos i with h0 | h0
  · subst h0
    have e : lowV r 0 = 0 := rfl
    rw [e]
    clear hk e
    go_enter Try.func49, Try.ntmps49
    go_wp2
    go_ret
    exact ⟨rfl, rfl⟩
  · obtain ⟨j, rfl⟩ : ∃ j, i = j + 1 := ⟨i - 1, by omega⟩
    have e : lowV r (j + 1) = r.getD j 0 := by unfold lowV; rw [if_neg (by omega), Nat.add_sub_cancel]
    rw [e]
    have hj : j < n := by omega
    obtain ⟨b, off, rfl, c0⟩ := hk.get j (by rw [← hk.len]; exact hj)
    have hj1 : ((j + 1 : Nat) : Int) - 1 = (j : Int) := by omega
    have hwj : IntKind.i64.wrap (((j + 1 : Nat) : Int) - 1) = (j : Int) := by rw [hj1]; exact IntWalk.i64_in _ (by omega)
    clear hk e hj1
    generalize r.getD j 0 = y at *
    go_enter Try.func49, Try.ntmps49
    go_wp2
    go_ret
    exact ⟨rfl, rfl⟩
theorem high_any (hk : Kv w A n c r) (i : Nat) (hi : i ≤ n) (hp : ∀ x ∈ r, 0 < x ∧ x < 4294967296) : Calls Try.prog 50 #[.slice A n c, .int .i64 (i : Int)] w fun e w' => e = .returned (.int .u32 ((highV r i : Nat) : Int)) ∧ w = w' := by
  have hcn := hk.cap
  have hcm := hk.most
  have hmx : maxLen ≤ 9223372036854775807 := by decide
  have hl := hk.len
  by_cases h0 : i = n
  · subst h0
    have e : highV r i = 4294967295 := by unfold highV; rw [if_pos hl]
    rw [e]
    clear hk e hl
    go_enter Try.func50, Try.ntmps50
    go_wp2
    go_ret
    exact ⟨rfl, rfl⟩
  · have hin : i < n := by omega
    have e : highV r i = r.getD i 0 - 1 := by unfold highV; rw [if_neg (by omega)]
    have hil : i < r.length := by omega
    have hy := hp (r.getD i 0) (by rw [show r.getD i 0 = r[i] by simp [List.getD_eq_getElem?_getD, hil]]; exact List.getElem_mem hil)
    obtain ⟨b, off, rfl, c0⟩ := hk.get i hil
    rw [e]
    clear hk e hl hil hp
    generalize r.getD i 0 = y at *
    have hne : ((i : Int) == (n : Int)) = false := by rw [beq_eq_false_iff_ne]; omega
    have hy1 : ((y - 1 : Nat) : Int) = (y : Int) - 1 := by omega
    rw [hy1]
    clear hy1
    go_enter Try.func50, Try.ntmps50
    go_wp2
    go_ret
    exact ⟨rfl, rfl⟩
end
/-- A box that grows: the result's cell, the box's, its rows. -/
structure Bw (w wr : World) (g6 gb : Nat) (al bl : List Nat) (A : Option Addr) (ca : Nat) (B : Option Addr) (cb : Nat) : Prop where
  o6 : Ob wr g6 #[.slice none 0 0, .slice none 0 0] 43
  ob : Ob wr gb #[.slice A al.length ca, .slice B bl.length cb] 43
  ra : wr.ownsRow w.heap.size 47 1 (.slice A al.length ca) al.length (u32s al)
  rb : wr.ownsRow w.heap.size 47 1 (.slice B bl.length cb) bl.length (u32s bl)
  na : ∀ k, vbk (.slice A al.length ca) = some k → k ≠ gb ∧ k ≠ g6 ∧ vbk (.slice B bl.length cb) ≠ some k
  nb : ∀ k, vbk (.slice B bl.length cb) = some k → k ≠ gb ∧ k ≠ g6
  ge : w.heap.size ≤ gb ∧ w.heap.size ≤ g6 ∧ gb ≠ g6
  fr : Fr No w wr
section
variable {w wr w1 : World} {g6 gb ca cb : Nat} {al bl : List Nat} {A B : Option Addr}
theorem Bw.no (h : Bw w wr g6 gb al bl A ca B cb) (f : Fr No wr w1) : Bw w w1 g6 gb al bl A ca B cb :=
  ⟨h.o6.no f, h.ob.no f, own_no h.ra f, own_no h.rb f, h.na, h.nb, h.ge, h.fr.tr f⟩
theorem Bw.pushA (h : Bw w wr g6 gb al bl A ca B cb) (v : Nat) (hl : al.length ≤ 1000000) :
    ∃ A1 c1 w1, (appSem #[37, 37] 37 #[.slice A al.length ca, .slice (some ⟨wr.heap.size, 0, none⟩) 1 1]).run Try.prog (wr.alloc (.cells #[.int .u32 (v : Int)] 47)) = .ok (.slice A1 (al.length + 1) c1) w1 ∧ (w1.cell? ⟨gb, 0, none⟩ = some (.slice A al.length ca) ∧ w1.frozen? ⟨gb, 0, none⟩ = false) ∧ Fr No w w1 ∧ Bw w (w1.setCell ⟨gb, 0, none⟩ (.slice A1 (al.length + 1) c1)) g6 gb (al ++ [v]) bl A1 c1 B cb := by
  obtain ⟨A1, c1, w1, hrun, hown, hfr, hat, hf⟩ := push_one (t := 37) Try.underlying37 info_u32 rfl (by decide) (by decide) h.ra h.fr.size (.int .u32 (v : Int)) rfl hl
  have g1 := h.ob.fr hf (fun e => (h.na _ e).1 rfl)
  have g6' := h.o6.fr hf (fun e => (h.na _ e).2.1 rfl)
  have rb' := own_fr1 h.rb hf (fun k hk e => (h.na k e).2.2 hk)
  have hfw := hfr w (Nat.le_refl _) h.fr
  have hgbl := h.ob.lt
  have hg6l := h.o6.lt
  have f2 : Fr (fun k => k = gb) w1 (w1.setCell ⟨gb, 0, none⟩ (.slice A1 (al.length + 1) c1)) := (Fr.refl (fun k => k = gb) w1).setCell (p := ⟨gb, 0, none⟩) (.inl rfl) _
  have hu : u32s al ++ [Value.int .u32 (v : Int)] = u32s (al ++ [v]) := by simp [u32s]
  rw [hu] at hown
  have hll : (al ++ [v]).length = al.length + 1 := by simp
  have hnew : ∀ k, vbk (.slice A1 (al.length + 1) c1) = some k → k ≠ gb ∧ k ≠ g6 ∧ vbk (.slice B bl.length cb) ≠ some k := fun k hk => by
    rcases hat k hk with e | e
    · exact h.na k e
    · exact ⟨by omega, by omega, fun e2 => by have := (h.rb.lt k e2).2; omega⟩
  refine ⟨A1, c1, w1, hrun, ⟨g1.cell 0 rfl, g1.frozen 0⟩, hfw, ⟨g6'.fr f2 (fun e => h.ge.2.2 e.symm), by rw [hll]; exact g1.set 0 _, by rw [hll]; exact own_fr1 hown f2 (fun k hk e => (hnew k hk).1 e), own_fr1 rb' f2 (fun k hk e => (h.nb k hk).1 e), by rw [hll]; exact hnew, h.nb, h.ge, hfw.setCell (p := ⟨gb, 0, none⟩) (.inr h.ge.1) _⟩⟩
theorem Bw.pushB (h : Bw w wr g6 gb al bl A ca B cb) (v : Nat) (hl : bl.length ≤ 1000000) :
    ∃ B1 c1 w1, (appSem #[37, 37] 37 #[.slice B bl.length cb, .slice (some ⟨wr.heap.size, 0, none⟩) 1 1]).run Try.prog (wr.alloc (.cells #[.int .u32 (v : Int)] 47)) = .ok (.slice B1 (bl.length + 1) c1) w1 ∧ (w1.cell? ⟨gb, 1, none⟩ = some (.slice B bl.length cb) ∧ w1.frozen? ⟨gb, 1, none⟩ = false) ∧ Fr No w w1 ∧ Bw w (w1.setCell ⟨gb, 1, none⟩ (.slice B1 (bl.length + 1) c1)) g6 gb al (bl ++ [v]) A ca B1 c1 := by
  obtain ⟨B1, c1, w1, hrun, hown, hfr, hat, hf⟩ := push_one (t := 37) Try.underlying37 info_u32 rfl (by decide) (by decide) h.rb h.fr.size (.int .u32 (v : Int)) rfl hl
  have g1 := h.ob.fr hf (fun e => (h.nb _ e).1 rfl)
  have g6' := h.o6.fr hf (fun e => (h.nb _ e).2 rfl)
  have ra' := own_fr1 h.ra hf (fun k hk e => (h.na k hk).2.2 e)
  have hfw := hfr w (Nat.le_refl _) h.fr
  have hgbl := h.ob.lt
  have hg6l := h.o6.lt
  have f2 : Fr (fun k => k = gb) w1 (w1.setCell ⟨gb, 1, none⟩ (.slice B1 (bl.length + 1) c1)) := (Fr.refl (fun k => k = gb) w1).setCell (p := ⟨gb, 1, none⟩) (.inl rfl) _
  have hu : u32s bl ++ [Value.int .u32 (v : Int)] = u32s (bl ++ [v]) := by simp [u32s]
  rw [hu] at hown
  have hll : (bl ++ [v]).length = bl.length + 1 := by simp
  have hnew : ∀ k, vbk (.slice B1 (bl.length + 1) c1) = some k → k ≠ gb ∧ k ≠ g6 ∧ vbk (.slice A al.length ca) ≠ some k := fun k hk => by
    rcases hat k hk with e | e
    · exact ⟨(h.nb k e).1, (h.nb k e).2, fun e2 => (h.na k e2).2.2 e⟩
    · exact ⟨by omega, by omega, fun e2 => by have := (h.ra.lt k e2).2; omega⟩
  refine ⟨B1, c1, w1, hrun, ⟨g1.cell 1 rfl, g1.frozen 1⟩, hfw, ⟨g6'.fr f2 (fun e => h.ge.2.2 e.symm), by rw [hll]; exact g1.set 1 _, own_fr1 ra' f2 (fun k hk e => (h.na k hk).1 e), by rw [hll]; exact own_fr1 hown f2 (fun k hk e => (hnew k hk).1 e), fun k hk => ⟨(h.na k hk).1, (h.na k hk).2.1, fun e => by rw [hll] at e; exact (hnew k e).2.2 hk⟩, fun k hk => ⟨(hnew k (by rw [hll] at hk; exact hk)).1, (hnew k (by rw [hll] at hk; exact hk)).2.1⟩, h.ge, hfw.setCell (p := ⟨gb, 1, none⟩) (.inr h.ge.1) _⟩⟩
end
end Go.Proofs.Ytifpigcgkpmheaa.Sg12
