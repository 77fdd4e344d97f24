/- Layer 12: the steps of the law's live. -/
import Derived.Test.YtifpigcgkpmheaaSt12
import Derived.Test.YtifpigcgkpmheaaGb
import Derived.Test.YtifpigcgkpmheaaGc
import Derived.Test.YtifpigcgkpmheaaIn
import Derived.StillTailTactics
namespace Go.Proofs.Ytifpigcgkpmheaa.Su12
open Go.RowKit Go.Proofs.Ytifpigcgkpmheaa.Pk08 Go.Proofs.Ytifpigcgkpmheaa.Base Go.Proofs.Ytifpigcgkpmheaa.App Go.Proofs.Ytifpigcgkpmheaa.Str Go.Proofs.Ytifpigcgkpmheaa.Ky Go.Proofs.Ytifpigcgkpmheaa.Iv Go.Proofs.Ytifpigcgkpmheaa.Bx Go.Proofs.Ytifpigcgkpmheaa.Bo Go.Proofs.Ytifpigcgkpmheaa.As Go.Proofs.Ytifpigcgkpmheaa.Ro Go.Proofs.Ytifpigcgkpmheaa.Pl08 Go.Proofs.Ytifpigcgkpmheaa.Kc08 Go.Proofs.Ytifpigcgkpmheaa.Ke08 Go.Proofs.Ytifpigcgkpmheaa.Ki08 Go.Proofs.Ytifpigcgkpmheaa.Ka08 Go.Proofs.Ytifpigcgkpmheaa.Ic Go.Proofs.Ytifpigcgkpmheaa.In Go.Proofs.Ytifpigcgkpmheaa.Fa Go.Proofs.Ytifpigcgkpmheaa.Sa12 Go.Proofs.Ytifpigcgkpmheaa.Sb12 Go.Proofs.Ytifpigcgkpmheaa.Sc12 Go.Proofs.Ytifpigcgkpmheaa.Sd12 Go.Proofs.Ytifpigcgkpmheaa.Se12 Go.Proofs.Ytifpigcgkpmheaa.Sf12 Go.Proofs.Ytifpigcgkpmheaa.Sg12 Go.Proofs.Ytifpigcgkpmheaa.Sh12 Go.Proofs.Ytifpigcgkpmheaa.Si12 Go.Proofs.Ytifpigcgkpmheaa.Sl12 Go.Proofs.Ytifpigcgkpmheaa.Sp12 Go.Proofs.Ytifpigcgkpmheaa.Sq12 Go.Proofs.Ytifpigcgkpmheaa.Sr12 Go.Proofs.Ytifpigcgkpmheaa.Ss12 Go.Proofs.Ytifpigcgkpmheaa.St12
set_option linter.unusedVariables false
set_option linter.unusedSimpArgs false
theorem e1 : insI [[], []] 0 9 = 0 ∧ insE [[], []] 0 9 = 0 ∧ insL [[], []] 0 9 = [[9], []] := by decide
theorem e2 : insI [[9], []] 0 5 = 0 ∧ insE [[9], []] 0 5 = 0 ∧ insL [[9], []] 0 5 = [[5, 9], []] := by decide
theorem e3 : insI [[5, 9], []] 0 5 = 0 ∧ insE [[5, 9], []] 0 5 = 1 ∧ insL [[5, 9], []] 0 5 = [[5, 9], []] := by decide
theorem e4 : remE [[5, 9], []] 0 0 = 0 ∧ remL [[5, 9], []] 0 0 = [[9], []] := by decide
theorem e5 : remE [[9], []] 1 0 = 1 ∧ remL [[9], []] 1 0 = [[9], []] := by decide
theorem gd0 : Gd [[], []] := ⟨by decide, by decide, fun r hr => by simp at hr; subst hr; exact ⟨by simp [Inc], by decide, fun x hx => by simp at hx⟩⟩
theorem gd1 : Gd [[9], []] := e1.2.2 ▸ gd0.ins (x := 9) (by decide) 0
theorem gd2 : Gd [[5, 9], []] := e2.2.2 ▸ gd1.ins (x := 5) (by decide) 0
section
variable {w0 w : World} {gs X Z : Nat}
theorem pA (h : Osc w0 w gs [[], []]) : Calls Try.prog 21 #[.pointer (some ⟨gs, 0, none⟩), .int .i64 0, .int .u32 9] w fun en w' => en = .returned (.tuple #[.int .i64 0, .int .i64 0]) ∧ Osc w0 w' gs [[9], []] := by
  have := os_insert (x := 9) h gd0 0 (by decide)
  rw [e1.1, e1.2.1, e1.2.2] at this
  exact this
theorem pB (h : Osc w0 w gs [[9], []]) : Calls Try.prog 21 #[.pointer (some ⟨gs, 0, none⟩), .int .i64 0, .int .u32 5] w fun en w' => en = .returned (.tuple #[.int .i64 0, .int .i64 0]) ∧ Osc w0 w' gs [[5, 9], []] := by
  have := os_insert (x := 5) h gd1 0 (by decide)
  rw [e2.1, e2.2.1, e2.2.2] at this
  exact this
theorem pC (h : Osc w0 w gs [[5, 9], []]) : Calls Try.prog 21 #[.pointer (some ⟨gs, 0, none⟩), .int .i64 0, .int .u32 5] w fun en w' => en = .returned (.tuple #[.int .i64 0, .int .i64 1]) ∧ Osc w0 w' gs [[5, 9], []] := by
  have := os_insert (x := 5) h gd2 0 (by decide)
  rw [e3.1, e3.2.1, e3.2.2] at this
  exact this
theorem pD (h : Osp X Z w0 w gs [[5, 9], []]) (hz : Z ≤ w.heap.size) : Calls Try.prog 22 #[.pointer (some ⟨gs, 0, none⟩), .int .i64 0, .int .i64 0] w fun en w' => en = .returned (.int .i64 0) ∧ Osp X Z w0 w' gs [[9], []] ∧ Fr (fun k => k < X ∨ Z ≤ k) w w' := by
  have := osp_remove h hz gd2 0 0
  rw [e4.1, e4.2] at this
  exact this
theorem pE (h : Osp X Z w0 w gs [[9], []]) (hz : Z ≤ w.heap.size) : Calls Try.prog 22 #[.pointer (some ⟨gs, 0, none⟩), .int .i64 1, .int .i64 0] w fun en w' => en = .returned (.int .i64 1) ∧ Osp X Z w0 w' gs [[9], []] ∧ Fr (fun k => k < X ∨ Z ≤ k) w w' := by
  have := osp_remove h hz gd1 1 0
  rw [e5.1, e5.2] at this
  exact this
theorem pF {K : Option Addr} {c : Nat} (h : Osc w0 w gs [[5, 9], []]) (hk : Kv w K 2 c [7, 7]) : Calls Try.prog 18 #[.pointer (some ⟨gs, 0, none⟩), .slice K 2 c] w fun en w' => ∃ A n' c', en = .returned (.tuple #[.slice A n' c', .int .i64 0]) ∧ Iv w' A n' c' [1, 0] ∧ Fr No w w' ∧ Nw w A := by
  have := os_find h gd2 hk (by decide)
  rw [show findL [[5, 9], []] [7, 7] = [1, 0] from by decide] at this
  exact this
theorem bok : boxOk [[5, 9], []] [1, 0] [1, 0] := ⟨rfl, rfl, fun i hi => by
  have : i = 0 ∨ i = 1 := by simp at hi; omega
  rcases this with rfl | rfl <;> decide⟩
theorem pG {X Y : Option Addr} {xn xc yn yc : Nat} (h : Osc w0 w gs [[5, 9], []]) (hx : Iv w X xn xc [1, 0]) (hy : Iv w Y yn yc [1, 0]) : Calls Try.prog 19 #[.pointer (some ⟨gs, 0, none⟩), .slice X xn xc, .slice Y yn yc] w (BoxOut w [5, 0] [8, 4294967295] 0) :=
  os_box h gd2 hx hy [5, 0] [8, 4294967295] 0 (fun _ => by decide) (fun e => absurd bok e)
theorem pH (h : Osc w0 w gs [[5, 9], []]) : Calls Try.prog 12 #[.pointer (some ⟨gs, 0, none⟩)] w fun en w' => en = .returned (.string { data := #[2, 0, 0, 0, 5, 0, 0, 0, 9, 0] }) ∧ Fr No w w' := by
  have := os_encode h gd2
  rw [show txt (encS [[5, 9], []]) = { data := #[2, 0, 0, 0, 5, 0, 0, 0, 9, 0] } from by decide] at this
  exact this
theorem b10 : bys { data := #[2, 0, 0, 0, 5, 0, 0, 0, 9, 0] } = [2, 0, 0, 0, 5, 0, 0, 0, 9, 0] := by decide
theorem d10 : decE 2 [2, 0, 0, 0, 5, 0, 0, 0, 9, 0] = 0 ∧ decR 2 [2, 0, 0, 0, 5, 0, 0, 0, 9, 0] = [[5, 9], []] := by decide
theorem pI (f : Fr No w0 w) : Calls Try.prog 10 #[.int .i64 2, .string { data := #[2, 0, 0, 0, 5, 0, 0, 0, 9, 0] }] w fun en w' => ∃ g, en = .returned (.tuple #[.pointer (some ⟨g, 0, none⟩), .int .i64 0]) ∧ Osc w0 w' g [[5, 9], []] ∧ Fr No w w' := by
  refine (sdecode_any 2 { data := #[2, 0, 0, 0, 5, 0, 0, 0, 9, 0] } (by decide)).mono ?_
  rintro en w' ⟨p, rfl, hf, h⟩
  rw [b10, d10.1, d10.2] at h
  rw [b10, d10.1]
  rcases h with ⟨h, _⟩ | ⟨_, g, P, T, ct, qs, rfl, hs, hb⟩
  · exact absurd rfl h
  · exact ⟨g, rfl, ⟨P, T, ct, qs, hs, fun b hb' => Nat.le_trans f.size (hb b hb'), f.tr hf⟩, hf⟩
theorem pJ (h : Osc w0 w gs [[9], []]) : Calls Try.prog 14 #[.pointer (some ⟨gs, 0, none⟩)] w fun en w' => ∃ A n c, en = .returned (.slice A n c) ∧ Iv w' A n c [2, 1] ∧ Fr No w w' ∧ Nw w A := by
  have := os_sizes h gd1
  rw [show sizesL [[9], []] = [2, 1] from by decide] at this
  exact this
theorem pK {L H : Option Addr} {ln lc hn hc : Nat} (h : Osc w0 w gs [[9], []]) (hl : Kv w L ln lc (wLo 2)) (hh : Kv w H hn hc (wHi 2)) : Calls Try.prog 24 #[.pointer (some ⟨gs, 0, none⟩), .agg #[.slice L ln lc, .slice H hn hc]] w (TwoOut w [0, 0] [1, 0] 0) :=
  os_meet h gd1 hl hh [0, 0] [1, 0] 0 (fun _ => by decide) (fun e => absurd e (by decide))
theorem pN (f : Fr No w0 w) : Calls Try.prog 27 #[.int .i64 2] w fun en w' => ∃ gs, en = .returned (.tuple #[.pointer (some ⟨gs, 0, none⟩), .int .i64 0]) ∧ Osc w0 w' gs [[], []] := os_new (d := 2) (by decide) (by decide) f
end
end Go.Proofs.Ytifpigcgkpmheaa.Su12
