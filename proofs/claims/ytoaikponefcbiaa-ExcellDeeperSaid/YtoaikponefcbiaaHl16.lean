/- Layer 16: the box of any address; some answers that the document gives. -/
import Derived.Test.YtoaikponefcbiaaHk16
namespace Go.Proofs.Ytoaikponefcbiaa.Hl16
open Go.RowKit Go.Proofs.Ytoaikponefcbiaa.Pk08 Go.Proofs.Ytoaikponefcbiaa.Base Go.Proofs.Ytoaikponefcbiaa.App Go.Proofs.Ytoaikponefcbiaa.Ky Go.Proofs.Ytoaikponefcbiaa.Iv Go.Proofs.Ytoaikponefcbiaa.Bx Go.Proofs.Ytoaikponefcbiaa.Kk Go.Proofs.Ytoaikponefcbiaa.Bo Go.Proofs.Ytoaikponefcbiaa.As Go.Proofs.Ytoaikponefcbiaa.Cl Go.Proofs.Ytoaikponefcbiaa.Pl08 Go.Proofs.Ytoaikponefcbiaa.Kc08 Go.Proofs.Ytoaikponefcbiaa.Ke08 Go.Proofs.Ytoaikponefcbiaa.Kh08 Go.Proofs.Ytoaikponefcbiaa.Kj08 Go.Proofs.Ytoaikponefcbiaa.Km08 Go.Proofs.Ytoaikponefcbiaa.Ka08 Go.Proofs.Ytoaikponefcbiaa.Px16 Go.Proofs.Ytoaikponefcbiaa.Py16 Go.Proofs.Ytoaikponefcbiaa.Hd16 Go.Proofs.Ytoaikponefcbiaa.He16 Go.Proofs.Ytoaikponefcbiaa.Hf16 Go.Proofs.Ytoaikponefcbiaa.Hg16 Go.Proofs.Ytoaikponefcbiaa.Hh16 Go.Proofs.Ytoaikponefcbiaa.Hi16 Go.Proofs.Ytoaikponefcbiaa.Hj16 Go.Proofs.Ytoaikponefcbiaa.Hk16
set_option linter.unusedVariables false
set_option linter.unusedSimpArgs false
def bxOk (d n a : Int) : Bool := decide (1 ≤ d ∧ d ≤ 6) && adB n a
def bxL (d n a : Int) : List Nat := if bxOk d n a = true then (bx d.toNat n.toNat a.toNat).1 else []
def bxH (d n a : Int) : List Nat := if bxOk d n a = true then (bx d.toNat n.toNat a.toNat).2 else []
def bxE (d n a : Int) : Int := if bxOk d n a = true then 0 else 1
theorem bx_out {d n a : Int} (h : bxOk d n a = false) : bxL d n a = [] ∧ bxH d n a = [] ∧ bxE d n a = 1 ∧ (d < 1 ∨ (1 ≤ d ∧ 6 < d) ∨ (1 ≤ d ∧ d ≤ 6 ∧ adB n a = false)) := by
  refine ⟨by unfold bxL; rw [h]; rfl, by unfold bxH; rw [h]; rfl, by unfold bxE; rw [h]; rfl, ?_⟩
  unfold bxOk at h
  by_cases h1 : d < 1
  · exact .inl h1
  · by_cases h2 : 6 < d
    · exact .inr (.inl ⟨by omega, h2⟩)
    · rw [decide_eq_true (⟨by omega, by omega⟩ : 1 ≤ d ∧ d ≤ 6)] at h
      exact .inr (.inr ⟨by omega, by omega, by simpa using h⟩)
theorem bx_in {d n a : Int} (h : bxOk d n a = true) : ∃ (e u b : Nat), d = (e : Int) ∧ n = (u : Int) ∧ a = (b : Int) ∧ 1 ≤ e ∧ e ≤ 6 ∧ u ≤ 12 ∧ b < 2 ^ u ∧ bxL d n a = (bx e u b).1 ∧ bxH d n a = (bx e u b).2 ∧ bxE d n a = 0 := by
  have h' := h
  unfold bxOk at h'
  rw [Bool.and_eq_true, decide_eq_true_eq] at h'
  obtain ⟨⟨h1, h2⟩, h3⟩ := h'
  obtain ⟨h4, h5, h6, h7⟩ := of_decide_eq_true h3
  obtain ⟨e, rfl⟩ := Int.eq_ofNat_of_zero_le (show 0 ≤ d by omega)
  obtain ⟨u, rfl⟩ := Int.eq_ofNat_of_zero_le h4
  obtain ⟨b, rfl⟩ := Int.eq_ofNat_of_zero_le h6
  refine ⟨e, u, b, rfl, rfl, rfl, by omega, by omega, by omega, ?_, by unfold bxL; rw [if_pos h, Int.toNat_natCast, Int.toNat_natCast, Int.toNat_natCast], by unfold bxH; rw [if_pos h, Int.toNat_natCast, Int.toNat_natCast, Int.toNat_natCast], by unfold bxE; rw [if_pos h]⟩
  rw [Int.toNat_natCast] at h7
  have : ((2 ^ u : Nat) : Int) = (2 : Int) ^ u := by simp
  omega
section
variable {w : World}
theorem box_bad (d n a : Int) (h : bxOk d n a = false) :
    Calls Try.prog 10 #[.int .i64 d, .int .i64 n, .int .i64 a] w (BoxRet w [] [] (.int .i64 1)) := by
  obtain ⟨_, _, _, hc⟩ := bx_out h
  clear h
  obtain ⟨q0, q1, q2, q3⟩ := Ob.four (Ob.new w #[.slice none 0 0, .slice none 0 0] 28)
  rcases hc with h1 | ⟨h1, h2⟩ | ⟨h1, h2, h3⟩
  · go_enter Try.func10, Try.ntmps10
    go_wp2
    refine bodyPost_ret (v := .tuple #[.agg #[.slice none 0 0, .slice none 0 0], .int .i64 1]) (by simp [results, Try.results10, go_sem]) rfl ?_
    exact ⟨_, 0, 0, _, 0, 0, rfl, Kv.none_ _, Kv.none_ _, by (repeat (first | with_reducible exact Fr.refl _ _ | with_reducible refine Fr.setCell ?_ (.inr (by first | (simp; done) | (simp; omega))) _ | with_reducible refine Fr.alloc ?_ _ | with_reducible refine Fr.drew ?_ | with_reducible refine Fr.drewN ?_ _ | with_reducible refine Fr.tr ?_ (by assumption)))⟩
  · go_enter Try.func10, Try.ntmps10
    go_wp2
    refine bodyPost_ret (v := .tuple #[.agg #[.slice none 0 0, .slice none 0 0], .int .i64 1]) (by simp [results, Try.results10, go_sem]) rfl ?_
    exact ⟨_, 0, 0, _, 0, 0, rfl, Kv.none_ _, Kv.none_ _, by (repeat (first | with_reducible exact Fr.refl _ _ | with_reducible refine Fr.setCell ?_ (.inr (by first | (simp; done) | (simp; omega))) _ | with_reducible refine Fr.alloc ?_ _ | with_reducible refine Fr.drew ?_ | with_reducible refine Fr.drewN ?_ _ | with_reducible refine Fr.tr ?_ (by assumption)))⟩
  · have H3 := Lib.hid h3
    clear h3
    go_enter Try.func10, Try.ntmps10
    go_wp2_with (go_at_call 24; ((with_reducible refine (isAddress_any _ _ _).mono ?_); rintro e w1 ⟨rfl, rfl⟩; rw [H3.out]))
    refine bodyPost_ret (v := .tuple #[.agg #[.slice none 0 0, .slice none 0 0], .int .i64 1]) (by simp [results, Try.results10, go_sem]) rfl ?_
    exact ⟨_, 0, 0, _, 0, 0, rfl, Kv.none_ _, Kv.none_ _, by (repeat (first | with_reducible exact Fr.refl _ _ | with_reducible refine Fr.setCell ?_ (.inr (by first | (simp; done) | (simp; omega))) _ | with_reducible refine Fr.alloc ?_ _ | with_reducible refine Fr.drew ?_ | with_reducible refine Fr.drewN ?_ _ | with_reducible refine Fr.tr ?_ (by assumption)))⟩
theorem rbox_bad (d n a : Int) (h : bxOk d n a = false) :
    Calls Try.prog 11 #[.int .i64 d, .int .i64 n, .int .i64 a] w (BoxRet w [] [] (.int .i64 1)) := by
  obtain ⟨_, _, _, hc⟩ := bx_out h
  clear h
  obtain ⟨q0, q1, q2, q3⟩ := Ob.four (Ob.new w #[.slice none 0 0, .slice none 0 0] 28)
  rcases hc with h1 | ⟨h1, h2⟩ | ⟨h1, h2, h3⟩
  · go_enter Try.func11, Try.ntmps11
    go_wp2
    refine bodyPost_ret (v := .tuple #[.agg #[.slice none 0 0, .slice none 0 0], .int .i64 1]) (by simp [results, Try.results11, go_sem]) rfl ?_
    exact ⟨_, 0, 0, _, 0, 0, rfl, Kv.none_ _, Kv.none_ _, by (repeat (first | with_reducible exact Fr.refl _ _ | with_reducible refine Fr.setCell ?_ (.inr (by first | (simp; done) | (simp; omega))) _ | with_reducible refine Fr.alloc ?_ _ | with_reducible refine Fr.drew ?_ | with_reducible refine Fr.drewN ?_ _ | with_reducible refine Fr.tr ?_ (by assumption)))⟩
  · go_enter Try.func11, Try.ntmps11
    go_wp2
    refine bodyPost_ret (v := .tuple #[.agg #[.slice none 0 0, .slice none 0 0], .int .i64 1]) (by simp [results, Try.results11, go_sem]) rfl ?_
    exact ⟨_, 0, 0, _, 0, 0, rfl, Kv.none_ _, Kv.none_ _, by (repeat (first | with_reducible exact Fr.refl _ _ | with_reducible refine Fr.setCell ?_ (.inr (by first | (simp; done) | (simp; omega))) _ | with_reducible refine Fr.alloc ?_ _ | with_reducible refine Fr.drew ?_ | with_reducible refine Fr.drewN ?_ _ | with_reducible refine Fr.tr ?_ (by assumption)))⟩
  · have H3 := Lib.hid h3
    clear h3
    go_enter Try.func11, Try.ntmps11
    go_wp2_with (go_at_call 27; ((with_reducible refine (is_any _ _ _).mono ?_); rintro e w1 ⟨rfl, rfl⟩; rw [H3.out]))
    refine bodyPost_ret (v := .tuple #[.agg #[.slice none 0 0, .slice none 0 0], .int .i64 1]) (by simp [results, Try.results11, go_sem]) rfl ?_
    exact ⟨_, 0, 0, _, 0, 0, rfl, Kv.none_ _, Kv.none_ _, by (repeat (first | with_reducible exact Fr.refl _ _ | with_reducible refine Fr.setCell ?_ (.inr (by first | (simp; done) | (simp; omega))) _ | with_reducible refine Fr.alloc ?_ _ | with_reducible refine Fr.drew ?_ | with_reducible refine Fr.drewN ?_ _ | with_reducible refine Fr.tr ?_ (by assumption)))⟩
theorem box_any (d n a : Int) :
    Calls Try.prog 10 #[.int .i64 d, .int .i64 n, .int .i64 a] w (BoxRet w (bxL d n a) (bxH d n a) (.int .i64 (bxE d n a))) := by
  cases h : bxOk d n a with
  | true =>
    obtain ⟨e, u, b, rfl, rfl, rfl, h1, h2, h3, h4, h5, h6, h7⟩ := bx_in h
    rw [h5, h6, h7]
    exact box_ok e u b h1 h2 h3 h4
  | false =>
    obtain ⟨h1, h2, h3, _⟩ := bx_out h
    rw [h1, h2, h3]
    exact box_bad d n a h
theorem rbox_any (d n a : Int) :
    Calls Try.prog 11 #[.int .i64 d, .int .i64 n, .int .i64 a] w (BoxRet w (bxL d n a) (bxH d n a) (.int .i64 (bxE d n a))) := by
  cases h : bxOk d n a with
  | true =>
    obtain ⟨e, u, b, rfl, rfl, rfl, h1, h2, h3, h4, h5, h6, h7⟩ := bx_in h
    rw [h5, h6, h7]
    exact rbox_ok e u b h1 h2 h3 h4
  | false =>
    obtain ⟨h1, h2, h3, _⟩ := bx_out h
    rw [h1, h2, h3]
    exact rbox_bad d n a h
/-! ### some answers -/
theorem l1 : bxL 2 2 2 = [2147483648, 0] ∧ bxH 2 2 2 = [4294967295, 2147483647] ∧ bxE 2 2 2 = 0 := by decide +kernel
theorem l2 : fdV [2147483648, 5] 2 = 2 ∧ fdE [2147483648, 5] 2 = 0 := by decide +kernel
theorem l3 : fdV [1] 13 = 0 ∧ fdE [1] 13 = 1 := by decide +kernel
theorem l4 : rgL [0, 0] [0, 4294967295] 2 2 = [0, 1] ∧ rgE [0, 0] [0, 4294967295] 2 2 = 0 := by decide +kernel
theorem l5 : buV 3 5 2 = 6 ∧ buE 3 5 2 = 0 := by decide +kernel
theorem l6 : ((cmp [2147483648, 0] [2147483648, 0] == 0) && (cmp [4294967295, 2147483647] [4294967295, 2147483647] == 0)) = true := by decide +kernel
theorem l7 : decide (([0, 1] : List Int) = [0, 1]) = true := by decide +kernel
theorem la : Calls Try.prog 10 #[.int .i64 2, .int .i64 2, .int .i64 2] w (BoxRet w [2147483648, 0] [4294967295, 2147483647] (.int .i64 0)) := by
  have h := box_any (w := w) 2 2 2
  rw [l1.1, l1.2.1, l1.2.2] at h
  exact h
variable {A B : Option Addr} {c c2 : Nat}
theorem lb (hk : Kv w A 2 c [2147483648, 5]) : Calls Try.prog 12 #[.slice A 2 c, .int .i64 2] w fun e w' => e = .returned (.tuple #[.int .i64 2, .int .i64 0]) ∧ w = w' := by
  have h := find_any 2 hk
  rw [l2.1, l2.2] at h
  exact h
theorem lc (hk : Kv w A 1 c [1]) : Calls Try.prog 12 #[.slice A 1 c, .int .i64 13] w fun e w' => e = .returned (.tuple #[.int .i64 0, .int .i64 1]) ∧ w = w' := by
  have h := find_any 13 hk
  rw [l3.1, l3.2] at h
  exact h
theorem ld (hk : Kv w A 2 c [0, 0]) (hh : Kv w B 2 c2 [0, 4294967295]) : Calls Try.prog 17 #[.agg #[.slice A 2 c, .slice B 2 c2], .int .i64 2, .int .i64 2] w (IntsRet w [0, 1] (.int .i64 0)) := by
  have h := range_any 2 2 hk hh
  rw [l4.1, l4.2] at h
  exact h
theorem le : Calls Try.prog 14 #[.int .i64 3, .int .i64 5, .int .i64 2] w fun e w' => e = .returned (.tuple #[.int .i64 6, .int .i64 0]) ∧ w = w' := by
  have h := buddy_any (w := w) 3 5 2
  rw [l5.1, l5.2] at h
  exact h
end
set_option maxRecDepth 8000 in
set_option maxHeartbeats 3200000 in
theorem live (w : World) : Calls Try.prog 9 #[] w fun e w' => e = .returned (.bool true) ∧ Fr No w w' := by
  go_enter Try.func9, Try.ntmps9
  go_wp2_with (go_at_call 10; ((with_reducible refine (la).mono ?_); rintro e w1 ⟨A1, n1, c1, B1, m1, d1, rfl, hl1, hh1, hf1⟩))
  go_wp2_with (go_at_call 12; ((with_reducible refine (lb ?_).mono ?_); (iterate 1 (repeat (first | with_reducible assumption | ((with_reducible refine Kv.lit_new _ _ _ _ _ _ ?_ ?_ ?_ ?_) <;> (first | (simp; done) | rfl | decide)) | with_reducible exact Kv.none_ _ | with_reducible refine Kv.alloc ?_ _ | with_reducible refine Kv.drew ?_ | with_reducible refine Kv.drewN ?_ _ | with_reducible refine Kv.no ?_ (by assumption)))); rintro e w2 ⟨rfl, rfl⟩))
  go_wp2_with (go_at_call 12; ((with_reducible refine (lc ?_).mono ?_); (iterate 1 (repeat (first | with_reducible assumption | ((with_reducible refine Kv.lit_new _ _ _ _ _ _ ?_ ?_ ?_ ?_) <;> (first | (simp; done) | rfl | decide)) | with_reducible exact Kv.none_ _ | with_reducible refine Kv.alloc ?_ _ | with_reducible refine Kv.drew ?_ | with_reducible refine Kv.drewN ?_ _ | with_reducible refine Kv.no ?_ (by assumption)))); rintro e w2 ⟨rfl, rfl⟩))
  go_wp2_with (go_at_call 17; ((with_reducible refine (ld ?_ ?_).mono ?_); (iterate 2 (repeat (first | with_reducible assumption | ((with_reducible refine Kv.lit_new _ _ _ _ _ _ ?_ ?_ ?_ ?_) <;> (first | (simp; done) | rfl | decide)) | with_reducible exact Kv.none_ _ | with_reducible refine Kv.alloc ?_ _ | with_reducible refine Kv.drew ?_ | with_reducible refine Kv.drewN ?_ _ | with_reducible refine Kv.no ?_ (by assumption)))); rintro e w2 ⟨A2, n2, c2, rfl, hv2, hf2⟩; obtain ⟨yba, ybb, ybl, ybm, ybn, ybo, ybp, ybq⟩ := (show Ob w2 w1.heap.size #[.slice A1 n1 c1, .slice B1 m1 d1] 28 by (repeat (first | with_reducible assumption | with_reducible refine Ob.other ?_ (by first | (simp; done) | (simp; omega)) _ | ((with_reducible refine Ob.new_ _ _ _ _ ?_) <;> (simp; done)) | with_reducible refine Ob.alloc ?_ _ | with_reducible refine Ob.drew ?_ | with_reducible refine Ob.drewN ?_ _ | with_reducible refine Ob.no ?_ (by assumption)))).two))
  go_wp2_with (go_at_call 14; ((with_reducible refine (le).mono ?_); rintro e w3 ⟨rfl, rfl⟩))
  go_wp2_with (go_at_call 16; ((with_reducible refine (sameBox_any (lo := [2147483648, 0]) (hi := [4294967295, 2147483647]) (a := [2147483648, 0]) (b := [4294967295, 2147483647]) ?_ ?_ ?_ ?_).mono ?_); (iterate 4 (repeat (first | with_reducible assumption | ((with_reducible refine Kv.lit_new _ _ _ _ _ _ ?_ ?_ ?_ ?_) <;> (first | (simp; done) | rfl | decide)) | with_reducible exact Kv.none_ _ | with_reducible refine Kv.alloc ?_ _ | with_reducible refine Kv.drew ?_ | with_reducible refine Kv.drewN ?_ _ | with_reducible refine Kv.no ?_ (by assumption)))); rintro e w4 ⟨rfl, hf4⟩; rw [l6]))
  go_wp2_with (go_at_call 19; ((with_reducible refine (ints_any (xs := [0, 1]) (ys := [0, 1]) ?_ ?_).mono ?_); (iterate 2 (repeat (first | with_reducible assumption | ((with_reducible refine Iv.lit_new _ _ _ _ _ _ ?_ ?_ ?_ ?_) <;> (first | (simp; done) | rfl | decide)) | with_reducible exact Iv.none_ _ | with_reducible refine Iv.alloc ?_ _ | with_reducible refine Iv.drew ?_ | with_reducible refine Iv.drewN ?_ _ | with_reducible refine Iv.no ?_ (by assumption)))); rintro e w5 ⟨rfl, hf5⟩; rw [l7]))
  go_ret
  refine ⟨rfl, ?_⟩
  (repeat (first | with_reducible exact Fr.refl _ _ | with_reducible refine Fr.setCell ?_ (.inr (by first | (simp; done) | (simp; omega))) _ | with_reducible refine Fr.alloc ?_ _ | with_reducible refine Fr.drew ?_ | with_reducible refine Fr.drewN ?_ _ | with_reducible refine Fr.tr ?_ (by assumption)))
end Go.Proofs.Ytoaikponefcbiaa.Hl16
