/- Layer 12: the law's live. -/
import Derived.Test.YtifpigcgkpmheaaSu12
import Derived.StillTailTactics
namespace Go.Proofs.Ytifpigcgkpmheaa.Sv12
open Go.RowKit Go.Proofs.Ytifpigcgkpmheaa.Pk08 Go.Proofs.Ytifpigcgkpmheaa.Base Go.Proofs.Ytifpigcgkpmheaa.App Go.Proofs.Ytifpigcgkpmheaa.Str Go.Proofs.Ytifpigcgkpmheaa.Ky Go.Proofs.Ytifpigcgkpmheaa.Iv Go.Proofs.Ytifpigcgkpmheaa.Bx Go.Proofs.Ytifpigcgkpmheaa.Bo Go.Proofs.Ytifpigcgkpmheaa.As Go.Proofs.Ytifpigcgkpmheaa.Ro Go.Proofs.Ytifpigcgkpmheaa.Pl08 Go.Proofs.Ytifpigcgkpmheaa.Kc08 Go.Proofs.Ytifpigcgkpmheaa.Ke08 Go.Proofs.Ytifpigcgkpmheaa.Ki08 Go.Proofs.Ytifpigcgkpmheaa.Ka08 Go.Proofs.Ytifpigcgkpmheaa.Ic Go.Proofs.Ytifpigcgkpmheaa.In Go.Proofs.Ytifpigcgkpmheaa.Fa Go.Proofs.Ytifpigcgkpmheaa.Sa12 Go.Proofs.Ytifpigcgkpmheaa.Sb12 Go.Proofs.Ytifpigcgkpmheaa.Sc12 Go.Proofs.Ytifpigcgkpmheaa.Sd12 Go.Proofs.Ytifpigcgkpmheaa.Se12 Go.Proofs.Ytifpigcgkpmheaa.Sf12 Go.Proofs.Ytifpigcgkpmheaa.Sg12 Go.Proofs.Ytifpigcgkpmheaa.Sh12 Go.Proofs.Ytifpigcgkpmheaa.Si12 Go.Proofs.Ytifpigcgkpmheaa.Sl12 Go.Proofs.Ytifpigcgkpmheaa.Sp12 Go.Proofs.Ytifpigcgkpmheaa.Sq12 Go.Proofs.Ytifpigcgkpmheaa.Sr12 Go.Proofs.Ytifpigcgkpmheaa.Ss12 Go.Proofs.Ytifpigcgkpmheaa.St12 Go.Proofs.Ytifpigcgkpmheaa.Su12
set_option linter.unusedVariables false
set_option linter.unusedSimpArgs false
/-- A scale of blocks from X on and below Z. -/
def Owin (X Z : Nat) (w : World) (gs : Nat) (rows : List (List Nat)) : Prop := ∃ P T ct qs, Sp P w gs T ct qs rows ∧ ∀ b, P b → X ≤ b ∧ b < Z
section
variable {X Z : Nat} {w0 w w1 : World} {gs : Nat} {rows : List (List Nat)}
theorem Osc.win (h : Osc w0 w gs rows) : Owin w0.heap.size w.heap.size w gs rows := by
  obtain ⟨P, T, ct, qs, h1, h2, h3⟩ := h
  exact ⟨P, T, ct, qs, h1, fun b hb => ⟨h2 b hb, h1.blt b hb⟩⟩
theorem Owin.no (h : Owin X Z w gs rows) (f : Fr No w w1) : Owin X Z w1 gs rows := by
  obtain ⟨P, T, ct, qs, h1, h2⟩ := h
  exact ⟨P, T, ct, qs, h1.no f, h2⟩
theorem Owin.past (h : Owin X Z w gs rows) (f : Fr (fun k => k < X ∨ Z ≤ k) w w1) : Owin X Z w1 gs rows := by
  obtain ⟨P, T, ct, qs, h1, h2⟩ := h
  exact ⟨P, T, ct, qs, h1.fr f (fun b hb e => by have := h2 b hb; omega), h2⟩
theorem pX (h : Owin X Z w gs [[5, 9], []]) : Calls Try.prog 12 #[.pointer (some ⟨gs, 0, none⟩)] w fun en w' => en = .returned (.string { data := #[2, 0, 0, 0, 5, 0, 0, 0, 9, 0] }) ∧ Fr No w w' := by
  obtain ⟨P, T, ct, qs, h1, h2⟩ := h
  have := sencode_any h1.sr gd2
  rw [show txt (encS [[5, 9], []]) = { data := #[2, 0, 0, 0, 5, 0, 0, 0, 9, 0] } from by decide] at this
  exact this
theorem pS {C D : Option Addr} {A B : Option Addr} {n cn m cm p cp q cq : Nat} (hl : Kv w A n cn [5, 0]) (hh : Kv w B m cm [8, 4294967295]) (ha : Kv w C p cp [5, 0]) (hb : Kv w D q cq [8, 4294967295]) : Calls Try.prog 26 #[.agg #[.slice A n cn, .slice B m cm], .agg #[.slice C p cp, .slice D q cq]] w fun e w' => e = .returned (.bool true) ∧ Fr No w w' := sameBox_any hl hh ha hb
theorem pQ {A B : Option Addr} {n cn m cm : Nat} {xs : List Int} (ha : Iv w A n cn xs) (hb : Iv w B m cm xs) : Calls Try.prog 13 #[.slice A n cn, .slice B m cm] w fun e w' => e = .returned (.bool true) ∧ Fr No w w' := by
  have := ints_any ha hb
  rw [decide_eq_true rfl] at this
  exact this
end
set_option maxRecDepth 8000 in
set_option maxHeartbeats 3200000 in
theorem live (w : World) : Calls Try.prog 9 #[] w fun e w' => e = .returned (.bool true) ∧ Fr No w w' := by
  go_enter Try.func9, Try.ntmps9
  go_wp2_with (go_at_call 27; ((with_reducible refine (pN (w0 := w) (Fr.refl _ _)).mono ?_); rintro en w1 ⟨gs, rfl, hs1⟩))
  go_wp2_with (go_at_call 27; ((with_reducible refine (new_no (z := 0) (by decide)).mono ?_); rintro en w2 ⟨rfl, rfl⟩))
  go_wp2_with (go_at_call 21; ((with_reducible refine (pA hs1).mono ?_); rintro en w3 ⟨rfl, hs3⟩))
  go_wp2_with (go_at_call 21; ((with_reducible refine (pB hs3).mono ?_); rintro en w4 ⟨rfl, hs4⟩))
  go_wp2_with (go_at_call 21; ((with_reducible refine (pC hs4).mono ?_); rintro en w5 ⟨rfl, hs5⟩))
  clear hs1 hs3 hs4
  go_wp2_with (go_at_call 18; ((with_reducible refine (pF (w0 := w) ?_ ?_).mono ?_); (focus (refine hs5.no ?_; (repeat (first | with_reducible exact Fr.refl _ _ | with_reducible refine Fr.setCell ?_ (.inr (by first | (simp; done) | (simp; omega))) _ | with_reducible refine Fr.alloc ?_ _ | with_reducible refine Fr.drew ?_ | with_reducible refine Fr.drewN ?_ _ | with_reducible refine Fr.tr ?_ (by assumption))); done)); (focus (repeat (first | with_reducible assumption | ((with_reducible refine Kv.lit_new _ _ _ _ _ _ ?_ ?_ ?_ ?_) <;> (first | (simp; done) | rfl | decide)) | with_reducible exact Kv.none_ _ | with_reducible refine Kv.alloc ?_ _ | with_reducible refine Kv.drew ?_ | with_reducible refine Kv.drewN ?_ _ | with_reducible refine Kv.no ?_ (by assumption)))); rintro en w6 ⟨A6, n6, c6, rfl, hi6, hf6, hn6⟩))
  have hl6 : ∀ b off, A6 = some ⟨b, off, none⟩ → w5.heap.size ≤ b := Nw.mono hn6 (by simp)
  have hf56 : Fr No w5 w6 := by (repeat (first | with_reducible exact Fr.refl _ _ | with_reducible refine Fr.setCell ?_ (.inr (by first | (simp; done) | (simp; omega))) _ | with_reducible refine Fr.alloc ?_ _ | with_reducible refine Fr.drew ?_ | with_reducible refine Fr.drewN ?_ _ | with_reducible refine Fr.tr ?_ (by assumption)))
  clear hn6 hf6
  go_wp2_with (go_at_call 19; ((with_reducible refine (pG (w0 := w) (hs5.no hf56) hi6 hi6).mono ?_); rintro en w7 ⟨A7, n7, c7, B7, m7, d7, rfl, hk7, hh7, hf7, hA7, hB7⟩))
  have hlA : ∀ b off, A7 = some ⟨b, off, none⟩ → w5.heap.size ≤ b := Nw.mono hA7 hf56.size
  have hlB : ∀ b off, B7 = some ⟨b, off, none⟩ → w5.heap.size ≤ b := Nw.mono hB7 hf56.size
  have hsz7 := (hf56.tr hf7).size
  clear hA7 hB7
  have hO7 := Ob.new w7 #[.slice A7 n7 c7, .slice B7 m7 d7] 43
  go_wp2_with (go_at_call 12; ((with_reducible refine (pH (w0 := w) ?_).mono ?_); (focus (refine hs5.no ?_; (repeat (first | with_reducible exact Fr.refl _ _ | with_reducible refine Fr.setCell ?_ (.inr (by first | (simp; done) | (simp; omega))) _ | with_reducible refine Fr.alloc ?_ _ | with_reducible refine Fr.drew ?_ | with_reducible refine Fr.drewN ?_ _ | with_reducible refine Fr.tr ?_ (by assumption))); done)); rintro en w8 ⟨rfl, hf8⟩))
  go_wp2_with (go_at_call 10; ((with_reducible refine (pI (w0 := w5) ?_).mono ?_); (focus ((repeat (first | with_reducible exact Fr.refl _ _ | with_reducible refine Fr.setCell ?_ (.inr (by first | (simp; done) | (simp; omega))) _ | with_reducible refine Fr.alloc ?_ _ | with_reducible refine Fr.drew ?_ | with_reducible refine Fr.drewN ?_ _ | with_reducible refine Fr.tr ?_ (by assumption))); done)); rintro en w9 ⟨gx, rfl, hx9, hf9⟩))
  have hs9 := hs5.sp (w1 := w9) (by (repeat (first | with_reducible exact Fr.refl _ _ | with_reducible refine Fr.setCell ?_ (.inr (by first | (simp; done) | (simp; omega))) _ | with_reducible refine Fr.alloc ?_ _ | with_reducible refine Fr.drew ?_ | with_reducible refine Fr.drewN ?_ _ | with_reducible refine Fr.tr ?_ (by assumption)))) w9.heap.size
  have hO9 : Ob w9 w7.heap.size #[.slice A7 n7 c7, .slice B7 m7 d7] 43 := by (repeat (first | with_reducible assumption | with_reducible refine Ob.other ?_ (by first | (simp; done) | (simp; omega)) _ | ((with_reducible refine Ob.new_ _ _ _ _ ?_) <;> (simp; done)) | with_reducible refine Ob.alloc ?_ _ | with_reducible refine Ob.drew ?_ | with_reducible refine Ob.drewN ?_ _ | with_reducible refine Ob.no ?_ (by assumption)))
  have hi9 : Iv w9 A6 n6 c6 [1, 0] := by have hf := hi6; (repeat (first | with_reducible assumption | ((with_reducible refine Iv.lit_new _ _ _ _ _ _ ?_ ?_ ?_ ?_) <;> (first | (simp; done) | rfl | decide)) | with_reducible exact Iv.none_ _ | with_reducible refine Iv.alloc ?_ _ | with_reducible refine Iv.drew ?_ | with_reducible refine Iv.drewN ?_ _ | with_reducible refine Iv.no ?_ (by assumption)))
  have hk9 : Kv w9 A7 n7 c7 [5, 0] := by (repeat (first | with_reducible assumption | ((with_reducible refine Kv.lit_new _ _ _ _ _ _ ?_ ?_ ?_ ?_) <;> (first | (simp; done) | rfl | decide)) | with_reducible exact Kv.none_ _ | with_reducible refine Kv.alloc ?_ _ | with_reducible refine Kv.drew ?_ | with_reducible refine Kv.drewN ?_ _ | with_reducible refine Kv.no ?_ (by assumption)))
  have hh9 : Kv w9 B7 m7 d7 [8, 4294967295] := by (repeat (first | with_reducible assumption | ((with_reducible refine Kv.lit_new _ _ _ _ _ _ ?_ ?_ ?_ ?_) <;> (first | (simp; done) | rfl | decide)) | with_reducible exact Kv.none_ _ | with_reducible refine Kv.alloc ?_ _ | with_reducible refine Kv.drew ?_ | with_reducible refine Kv.drewN ?_ _ | with_reducible refine Kv.no ?_ (by assumption)))
  have hlt9 := hO9.lt
  have hx9 := Osc.win hx9
  have hf09 := hs9.osc.fr
  have hx5 := hs5.fr.size
  clear hi6 hk7 hh7 hO7 hf7 hf8 hf9 hf56 hs5
  go_wp2_with (go_at_call 22; ((with_reducible refine (pD hs9 (Nat.le_refl _)).mono ?_); rintro en w10 ⟨rfl, hs10, hg10⟩))
  have hO10 := Ob.fr hO9 hg10 (by omega)
  have hi10 := Iv.win hi9 hg10 hl6 (Iv.blt hi9 (by decide))
  have hk10 := Kv.win hk9 hg10 hlA (Kv.blt hk9 (by decide))
  have hh10 := Kv.win hh9 hg10 hlB (Kv.blt hh9 (by decide))
  have hx10 := hx9.past hg10
  have hzi := Iv.blt hi9 (by decide)
  have hzk := Kv.blt hk9 (by decide)
  have hzh := Kv.blt hh9 (by decide)
  have hsz10 := hg10.size
  clear hs9 hO9 hi9 hk9 hh9 hx9 hf09 hg10
  go_wp2_with (go_at_call 22; ((with_reducible refine (pE hs10 hsz10).mono ?_); rintro en w11 ⟨rfl, hs11, hg11⟩; (have hO11 := Ob.fr hO10 hg11 (by omega)); (have hi11 := Iv.win hi10 hg11 hl6 hzi); (have hk11 := Kv.win hk10 hg11 hlA hzk); (have hh11 := Kv.win hh10 hg11 hlB hzh); (have hx11 := hx10.past hg11); (have hs11 := hs11.osc); (have hf011 := hs11.fr); clear hs10 hO10 hi10 hk10 hh10 hx10 hg11 hl6 hlA hlB hzi hzk hzh))
  go_wp2_with first
    | (go_at_call 37; ((with_reducible refine (rwhole_any 2 _).mono ?_); rintro en w12 ⟨A12, n12, c12, B12, m12, d12, rfl, hk12, hh12, hf12⟩))
    | (go_at_call 24; ((with_reducible refine (pK (hs11.no hf12) hk12 hh12).mono ?_); rintro en w13 ⟨A13, n13, c13, B13, m13, d13, rfl, hp13, hq13, hf13⟩))
    | fail
  have hx13 : Owin w5.heap.size w9.heap.size w13 gx [[5, 9], []] := hx11.no (by (repeat (first | with_reducible exact Fr.refl _ _ | with_reducible refine Fr.setCell ?_ (.inr (by first | (simp; done) | (simp; omega))) _ | with_reducible refine Fr.alloc ?_ _ | with_reducible refine Fr.drew ?_ | with_reducible refine Fr.drewN ?_ _ | with_reducible refine Fr.tr ?_ (by assumption))))
  have hO13 : Ob w13 w7.heap.size #[.slice A7 n7 c7, .slice B7 m7 d7] 43 := by (repeat (first | with_reducible assumption | with_reducible refine Ob.other ?_ (by first | (simp; done) | (simp; omega)) _ | ((with_reducible refine Ob.new_ _ _ _ _ ?_) <;> (simp; done)) | with_reducible refine Ob.alloc ?_ _ | with_reducible refine Ob.drew ?_ | with_reducible refine Ob.drewN ?_ _ | with_reducible refine Ob.no ?_ (by assumption)))
  have hi13 : Iv w13 A6 n6 c6 [1, 0] := by (repeat (first | with_reducible assumption | ((with_reducible refine Iv.lit_new _ _ _ _ _ _ ?_ ?_ ?_ ?_) <;> (first | (simp; done) | rfl | decide)) | with_reducible exact Iv.none_ _ | with_reducible refine Iv.alloc ?_ _ | with_reducible refine Iv.drew ?_ | with_reducible refine Iv.drewN ?_ _ | with_reducible refine Iv.no ?_ (by assumption)))
  have hk13 : Kv w13 A7 n7 c7 [5, 0] := by (repeat (first | with_reducible assumption | ((with_reducible refine Kv.lit_new _ _ _ _ _ _ ?_ ?_ ?_ ?_) <;> (first | (simp; done) | rfl | decide)) | with_reducible exact Kv.none_ _ | with_reducible refine Kv.alloc ?_ _ | with_reducible refine Kv.drew ?_ | with_reducible refine Kv.drewN ?_ _ | with_reducible refine Kv.no ?_ (by assumption)))
  have hh13 : Kv w13 B7 m7 d7 [8, 4294967295] := by (repeat (first | with_reducible assumption | ((with_reducible refine Kv.lit_new _ _ _ _ _ _ ?_ ?_ ?_ ?_) <;> (first | (simp; done) | rfl | decide)) | with_reducible exact Kv.none_ _ | with_reducible refine Kv.alloc ?_ _ | with_reducible refine Kv.drew ?_ | with_reducible refine Kv.drewN ?_ _ | with_reducible refine Kv.no ?_ (by assumption)))
  have hs13 := (hs11.no hf12).no hf13
  have hf013 := hs13.fr
  clear hx11 hO11 hi11 hk11 hh11 hs11 hf011 hk12 hh12 hf12 hf13
  go_wp2_with first
    | (go_at_call 13; ((with_reducible refine (pQ (xs := [1, 0]) ?_ ?_).mono ?_); (focus ((repeat (first | with_reducible assumption | ((with_reducible refine Iv.lit_new _ _ _ _ _ _ ?_ ?_ ?_ ?_) <;> (first | (simp; done) | rfl | decide)) | with_reducible exact Iv.none_ _ | with_reducible refine Iv.alloc ?_ _ | with_reducible refine Iv.drew ?_ | with_reducible refine Iv.drewN ?_ _ | with_reducible refine Iv.no ?_ (by assumption))); done)); (focus ((repeat (first | with_reducible assumption | ((with_reducible refine Iv.lit_new _ _ _ _ _ _ ?_ ?_ ?_ ?_) <;> (first | (simp; done) | rfl | decide)) | with_reducible exact Iv.none_ _ | with_reducible refine Iv.alloc ?_ _ | with_reducible refine Iv.drew ?_ | with_reducible refine Iv.drewN ?_ _ | with_reducible refine Iv.no ?_ (by assumption))); done)); rintro en w14 ⟨rfl, hf14⟩; (obtain ⟨q0, q1, q2, q3⟩ := Ob.four (show Ob w14 w7.heap.size #[.slice A7 n7 c7, .slice B7 m7 d7] 43 by (repeat (first | with_reducible assumption | with_reducible refine Ob.other ?_ (by first | (simp; done) | (simp; omega)) _ | ((with_reducible refine Ob.new_ _ _ _ _ ?_) <;> (simp; done)) | with_reducible refine Ob.alloc ?_ _ | with_reducible refine Ob.drew ?_ | with_reducible refine Ob.drewN ?_ _ | with_reducible refine Ob.no ?_ (by assumption)))))))
    | (go_at_call 26; ((with_reducible refine (pS ?_ ?_ ?_ ?_).mono ?_); (focus ((repeat (first | with_reducible assumption | ((with_reducible refine Kv.lit_new _ _ _ _ _ _ ?_ ?_ ?_ ?_) <;> (first | (simp; done) | rfl | decide)) | with_reducible exact Kv.none_ _ | with_reducible refine Kv.alloc ?_ _ | with_reducible refine Kv.drew ?_ | with_reducible refine Kv.drewN ?_ _ | with_reducible refine Kv.no ?_ (by assumption))); done)); (focus ((repeat (first | with_reducible assumption | ((with_reducible refine Kv.lit_new _ _ _ _ _ _ ?_ ?_ ?_ ?_) <;> (first | (simp; done) | rfl | decide)) | with_reducible exact Kv.none_ _ | with_reducible refine Kv.alloc ?_ _ | with_reducible refine Kv.drew ?_ | with_reducible refine Kv.drewN ?_ _ | with_reducible refine Kv.no ?_ (by assumption))); done)); (focus ((repeat (first | with_reducible assumption | ((with_reducible refine Kv.lit_new _ _ _ _ _ _ ?_ ?_ ?_ ?_) <;> (first | (simp; done) | rfl | decide)) | with_reducible exact Kv.none_ _ | with_reducible refine Kv.alloc ?_ _ | with_reducible refine Kv.drew ?_ | with_reducible refine Kv.drewN ?_ _ | with_reducible refine Kv.no ?_ (by assumption))); done)); (focus ((repeat (first | with_reducible assumption | ((with_reducible refine Kv.lit_new _ _ _ _ _ _ ?_ ?_ ?_ ?_) <;> (first | (simp; done) | rfl | decide)) | with_reducible exact Kv.none_ _ | with_reducible refine Kv.alloc ?_ _ | with_reducible refine Kv.drew ?_ | with_reducible refine Kv.drewN ?_ _ | with_reducible refine Kv.no ?_ (by assumption))); done)); rintro en w15 ⟨rfl, hf15⟩))
    | (go_at_call 12; ((with_reducible refine (pX (X := w5.heap.size) (Z := w9.heap.size) (hx13.no ?_)).mono ?_); (focus ((repeat (first | with_reducible exact Fr.refl _ _ | with_reducible refine Fr.setCell ?_ (.inr (by first | (simp; done) | (simp; omega))) _ | with_reducible refine Fr.alloc ?_ _ | with_reducible refine Fr.drew ?_ | with_reducible refine Fr.drewN ?_ _ | with_reducible refine Fr.tr ?_ (by assumption))); done)); rintro en w16 ⟨rfl, hf16⟩))
    | (go_at_call 14; ((with_reducible refine (pJ (w0 := w) (hs13.no ?_)).mono ?_); (focus ((repeat (first | with_reducible exact Fr.refl _ _ | with_reducible refine Fr.setCell ?_ (.inr (by first | (simp; done) | (simp; omega))) _ | with_reducible refine Fr.alloc ?_ _ | with_reducible refine Fr.drew ?_ | with_reducible refine Fr.drewN ?_ _ | with_reducible refine Fr.tr ?_ (by assumption))); done)); rintro en w17 ⟨A17, n17, c17, rfl, hi17, hf17, _⟩))
    | fail
  go_wp2_with first
    | (go_at_call 13; ((with_reducible refine (pQ (xs := [2, 1]) ?_ ?_).mono ?_); (focus ((repeat (first | with_reducible assumption | ((with_reducible refine Iv.lit_new _ _ _ _ _ _ ?_ ?_ ?_ ?_) <;> (first | (simp; done) | rfl | decide)) | with_reducible exact Iv.none_ _ | with_reducible refine Iv.alloc ?_ _ | with_reducible refine Iv.drew ?_ | with_reducible refine Iv.drewN ?_ _ | with_reducible refine Iv.no ?_ (by assumption))); done)); (focus ((repeat (first | with_reducible assumption | ((with_reducible refine Iv.lit_new _ _ _ _ _ _ ?_ ?_ ?_ ?_) <;> (first | (simp; done) | rfl | decide)) | with_reducible exact Iv.none_ _ | with_reducible refine Iv.alloc ?_ _ | with_reducible refine Iv.drew ?_ | with_reducible refine Iv.drewN ?_ _ | with_reducible refine Iv.no ?_ (by assumption))); done)); rintro en w18 ⟨rfl, hf18⟩))
    | (go_at_call 13; ((with_reducible refine (pQ (A := A13) (xs := [0, 0]) ?_ ?_).mono ?_); (focus ((repeat (first | with_reducible assumption | ((with_reducible refine Iv.lit_new _ _ _ _ _ _ ?_ ?_ ?_ ?_) <;> (first | (simp; done) | rfl | decide)) | with_reducible exact Iv.none_ _ | with_reducible refine Iv.alloc ?_ _ | with_reducible refine Iv.drew ?_ | with_reducible refine Iv.drewN ?_ _ | with_reducible refine Iv.no ?_ (by assumption))); done)); (focus ((repeat (first | with_reducible assumption | ((with_reducible refine Iv.lit_new _ _ _ _ _ _ ?_ ?_ ?_ ?_) <;> (first | (simp; done) | rfl | decide)) | with_reducible exact Iv.none_ _ | with_reducible refine Iv.alloc ?_ _ | with_reducible refine Iv.drew ?_ | with_reducible refine Iv.drewN ?_ _ | with_reducible refine Iv.no ?_ (by assumption))); done)); rintro en w19 ⟨rfl, hf19⟩))
    | (go_at_call 13; ((with_reducible refine (pQ (A := B13) (xs := [1, 0]) ?_ ?_).mono ?_); (focus ((repeat (first | with_reducible assumption | ((with_reducible refine Iv.lit_new _ _ _ _ _ _ ?_ ?_ ?_ ?_) <;> (first | (simp; done) | rfl | decide)) | with_reducible exact Iv.none_ _ | with_reducible refine Iv.alloc ?_ _ | with_reducible refine Iv.drew ?_ | with_reducible refine Iv.drewN ?_ _ | with_reducible refine Iv.no ?_ (by assumption))); done)); (focus ((repeat (first | with_reducible assumption | ((with_reducible refine Iv.lit_new _ _ _ _ _ _ ?_ ?_ ?_ ?_) <;> (first | (simp; done) | rfl | decide)) | with_reducible exact Iv.none_ _ | with_reducible refine Iv.alloc ?_ _ | with_reducible refine Iv.drew ?_ | with_reducible refine Iv.drewN ?_ _ | with_reducible refine Iv.no ?_ (by assumption))); done)); rintro en w20 ⟨rfl, hf20⟩))
    | fail
  go_ret
  exact ⟨rfl, by (repeat (first | with_reducible exact Fr.refl _ _ | with_reducible refine Fr.setCell ?_ (.inr (by first | (simp; done) | (simp; omega))) _ | with_reducible refine Fr.alloc ?_ _ | with_reducible refine Fr.drew ?_ | with_reducible refine Fr.drewN ?_ _ | with_reducible refine Fr.tr ?_ (by assumption)))⟩
end Go.Proofs.Ytifpigcgkpmheaa.Sv12
