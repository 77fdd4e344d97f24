/- Layer 18's laws LinearFinds, LinearRanges, LinearGrows. -/
import Derived.Test.YtplpgneckfmjpaaLg18
namespace Go.Proofs.Ytplpgneckfmjpaa.Lh18
open Go.RowKit Go.Proofs.Ytplpgneckfmjpaa.Pk08 Go.Proofs.Ytplpgneckfmjpaa.Base Go.Proofs.Ytplpgneckfmjpaa.App Go.Proofs.Ytplpgneckfmjpaa.Ty Go.Proofs.Ytplpgneckfmjpaa.Ky Go.Proofs.Ytplpgneckfmjpaa.Iv Go.Proofs.Ytplpgneckfmjpaa.Bx Go.Proofs.Ytplpgneckfmjpaa.Kk Go.Proofs.Ytplpgneckfmjpaa.Bo Go.Proofs.Ytplpgneckfmjpaa.As Go.Proofs.Ytplpgneckfmjpaa.Kc08 Go.Proofs.Ytplpgneckfmjpaa.Ke08 Go.Proofs.Ytplpgneckfmjpaa.Kh08 Go.Proofs.Ytplpgneckfmjpaa.Kj08 Go.Proofs.Ytplpgneckfmjpaa.Km08 Go.Proofs.Ytplpgneckfmjpaa.Px16 Go.Proofs.Ytplpgneckfmjpaa.Py16 Go.Proofs.Ytplpgneckfmjpaa.Pz18 Go.Proofs.Ytplpgneckfmjpaa.Hd16 Go.Proofs.Ytplpgneckfmjpaa.He16 Go.Proofs.Ytplpgneckfmjpaa.Hg16 Go.Proofs.Ytplpgneckfmjpaa.Hi16 Go.Proofs.Ytplpgneckfmjpaa.Hj16 Go.Proofs.Ytplpgneckfmjpaa.Hk16 Go.Proofs.Ytplpgneckfmjpaa.Lz18 Go.Proofs.Ytplpgneckfmjpaa.La18 Go.Proofs.Ytplpgneckfmjpaa.Lb18 Go.Proofs.Ytplpgneckfmjpaa.Lc18 Go.Proofs.Ytplpgneckfmjpaa.Ld18 Go.Proofs.Ytplpgneckfmjpaa.Le18 Go.Proofs.Ytplpgneckfmjpaa.Lf18 Go.Proofs.Ytplpgneckfmjpaa.Lg18
set_option linter.unusedVariables false
set_option linter.unusedSimpArgs false
theorem pair_self (a b : List Nat) : ((cmp a a == 0) && (cmp b b == 0)) = true := by rw [Go.Proofs.Ytplpgneckfmjpaa.Pl08.cmp_self, Go.Proofs.Ytplpgneckfmjpaa.Pl08.cmp_self]; rfl
theorem ints_self (xs : List Int) : decide (xs = xs) = true := decide_eq_true rfl
abbrev caseT (E : TypeId) : Ty := .cn (.sl E (.int .u32)) (.cn (.int .i64) (.cn (.int .i64) (.cn (.int .i64) .nl)))
theorem rd_case {E : TypeId} {w : World} {x : (caseT E).D} {cs : Array Value} (h : Rd (caseT E) w x cs.toList) :
    ∃ (a b d : Int) (A : Option Addr) (n c : Nat) (k : List Nat), cs = #[.slice A n c, .int .i64 a, .int .i64 b, .int .i64 d] ∧ Kv w A n c k := by
  obtain ⟨c1, c2, hc, h4, c3, c4, rfl, ⟨rfl, _⟩, c5, c6, rfl, ⟨rfl, _⟩, c7, c8, rfl, ⟨rfl, _⟩, h5⟩ := h
  have h5' : c8 = [] := h5
  subst h5'
  have h4' := h4
  obtain ⟨A, c, rfl, _⟩ := h4'
  refine ⟨x.2.1, x.2.2.1, x.2.2.2.1, A, _, c, _, ?_, Kv.of_rd h4⟩
  rw [← Array.toArray_toList (xs := cs), hc]
  rfl
section
variable {w : World}
theorem grow_t (l n : Int) : Calls Try.prog 20 #[.int .i64 l, .int .i64 n] w fun e w' => e = .returned (.tuple #[.int .i64 (grow l n).1, .int .i64 (grow l n).2.1, .int .i64 (grow l n).2.2.1, .int .i64 (grow l n).2.2.2]) ∧ w = w' := grow_any l n
theorem rgrow_t (l n : Int) : Calls Try.prog 21 #[.int .i64 l, .int .i64 n] w fun e w' => e = .returned (.tuple #[.int .i64 (grow l n).1, .int .i64 (grow l n).2.1, .int .i64 (grow l n).2.2.1, .int .i64 (grow l n).2.2.2]) ∧ w = w' := rgrow_any l n
theorem shrink_t (l n : Int) : Calls Try.prog 22 #[.int .i64 l, .int .i64 n] w fun e w' => e = .returned (.tuple #[.int .i64 (shrink l n).1, .int .i64 (shrink l n).2.1, .int .i64 (shrink l n).2.2.1, .int .i64 (shrink l n).2.2.2]) ∧ w = w' := shrink_any l n
theorem rshrink_t (l n : Int) : Calls Try.prog 23 #[.int .i64 l, .int .i64 n] w fun e w' => e = .returned (.tuple #[.int .i64 (shrink l n).1, .int .i64 (shrink l n).2.1, .int .i64 (shrink l n).2.2.1, .int .i64 (shrink l n).2.2.2]) ∧ w = w' := rshrink_any l n
end
set_option maxRecDepth 100000 in
set_option maxHeartbeats 3200000 in
theorem law_finds {E : TypeId} (w : World) (cs : Array Value) (x : (caseT E).D) (h : Rd (caseT E) w x cs.toList) :
    Calls Try.prog 3 #[.agg cs] w fun e w' => e = .returned (.bool true) ∧ Fr No w w' := by
  obtain ⟨l, t, i, A, n, c, k, rfl, hk⟩ := rd_case h
  clear h x
  have hc : 20 < n ∨ (n ≤ 20 ∧ 7 < l ∧ l ≤ 10) ∨ (n ≤ 20 ∧ l ≤ 7) ∨ (n ≤ 20 ∧ 7 < l ∧ 10 < l) := by omega
  rcases hc with h1 | ⟨h1, h2, h3⟩ | ⟨h1, h2⟩ | ⟨h1, h2, h3⟩
  · go_enter Try.func3, Try.ntmps3
    go_wp2
    go_quiet (fail)
    go_wp2_with (go_at_call 9; ((with_reducible refine (live _).mono ?_); rintro e wl ⟨rfl, hfl⟩))
    go_ret
    exact ⟨rfl, by (repeat (first | with_reducible exact Fr.refl _ _ | with_reducible refine Fr.setCell ?_ (.inr (by first | (simp; done) | (simp; omega))) _ | with_reducible refine Fr.alloc ?_ _ | with_reducible refine Fr.drew ?_ | with_reducible refine Fr.drewN ?_ _ | with_reducible refine Fr.tr ?_ (by assumption)))⟩
  · go_enter Try.func3, Try.ntmps3
    go_wp2
    go_quiet (fail)
    go_wp2_with (go_at_call 9; ((with_reducible refine (live _).mono ?_); rintro e wl ⟨rfl, hfl⟩))
    go_ret
    exact ⟨rfl, by (repeat (first | with_reducible exact Fr.refl _ _ | with_reducible refine Fr.setCell ?_ (.inr (by first | (simp; done) | (simp; omega))) _ | with_reducible refine Fr.alloc ?_ _ | with_reducible refine Fr.drew ?_ | with_reducible refine Fr.drewN ?_ _ | with_reducible refine Fr.tr ?_ (by assumption)))⟩
  all_goals
    go_enter Try.func3, Try.ntmps3
    go_wp2
    go_quiet (fail)
    go_wp2_with (go_at_call 10; ((with_reducible refine (count_any _ _).mono ?_); rintro e w1 ⟨rfl, rfl⟩))
    go_wp2_with (go_at_call 11; ((with_reducible refine (rcount_any _ _).mono ?_); rintro e w1 ⟨rfl, rfl⟩))
    go_wp2_with (go_at_call 12; ((with_reducible refine (lfind_any (k := k) _ _ ?_).mono ?_); (iterate 1 (repeat (first | with_reducible assumption | ((with_reducible refine Kv.lit_new _ _ _ _ _ _ ?_ ?_ ?_ ?_) <;> (first | (simp; done) | rfl | decide)) | with_reducible exact Kv.none_ _ | with_reducible refine Kv.alloc ?_ _ | with_reducible refine Kv.drew ?_ | with_reducible refine Kv.drewN ?_ _ | with_reducible refine Kv.no ?_ (by assumption)))); rintro e w1 ⟨rfl, rfl⟩))
    go_wp2_with (go_at_call 13; ((with_reducible refine (rlfind_any (k := k) _ _ ?_).mono ?_); (iterate 1 (repeat (first | with_reducible assumption | ((with_reducible refine Kv.lit_new _ _ _ _ _ _ ?_ ?_ ?_ ?_) <;> (first | (simp; done) | rfl | decide)) | with_reducible exact Kv.none_ _ | with_reducible refine Kv.alloc ?_ _ | with_reducible refine Kv.drew ?_ | with_reducible refine Kv.drewN ?_ _ | with_reducible refine Kv.no ?_ (by assumption)))); rintro e w3 ⟨rfl, hf3⟩))
    go_wp2_with (go_at_call 14; ((with_reducible refine (lbox_any _ _ _ _).mono ?_); rintro e w1 ⟨A1, n1, c1, B1, m1, d1, rfl, hl1, hh1, hf1⟩))
    go_wp2_with (go_at_call 15; ((with_reducible refine (rlbox_any _ _ _ _).mono ?_); rintro e w2 ⟨A2, n2, c2, B2, m2, d2, rfl, hl2, hh2, hf2⟩; obtain ⟨yba, ybb, ybl, ybm, ybn, ybo, ybp, ybq⟩ := (show Ob w2 w1.heap.size #[.slice A1 n1 c1, .slice B1 m1 d1] 32 by (repeat (first | with_reducible assumption | with_reducible refine Ob.other ?_ (by first | (simp; done) | (simp; omega)) _ | ((with_reducible refine Ob.new_ _ _ _ _ ?_) <;> (simp; done)) | with_reducible refine Ob.alloc ?_ _ | with_reducible refine Ob.drew ?_ | with_reducible refine Ob.drewN ?_ _ | with_reducible refine Ob.no ?_ (by assumption)))).two))
    go_wp2_with (go_at_call 16; ((with_reducible refine (sameBox_any (lo := lbL n l t i) (hi := lbH n l t i) (a := lbL n l t i) (b := lbH n l t i) ?_ ?_ ?_ ?_).mono ?_); (iterate 4 (repeat (first | with_reducible assumption | ((with_reducible refine Kv.lit_new _ _ _ _ _ _ ?_ ?_ ?_ ?_) <;> (first | (simp; done) | rfl | decide)) | with_reducible exact Kv.none_ _ | with_reducible refine Kv.alloc ?_ _ | with_reducible refine Kv.drew ?_ | with_reducible refine Kv.drewN ?_ _ | with_reducible refine Kv.no ?_ (by assumption)))); rintro e w5 ⟨rfl, hf5⟩; rw [pair_self]))
    go_wp2_with (go_at_call 9; ((with_reducible refine (live _).mono ?_); rintro e wl ⟨rfl, hfl⟩))
    go_ret
    exact ⟨rfl, by (repeat (first | with_reducible exact Fr.refl _ _ | with_reducible refine Fr.setCell ?_ (.inr (by first | (simp; done) | (simp; omega))) _ | with_reducible refine Fr.alloc ?_ _ | with_reducible refine Fr.drew ?_ | with_reducible refine Fr.drewN ?_ _ | with_reducible refine Fr.tr ?_ (by assumption)))⟩
set_option maxHeartbeats 3200000 in
theorem law_ranges {E E2 : TypeId} (w : World) (cs : Array Value) (x : (Ty.cn (.sl E (.int .u32)) (.cn (.sl E2 (.int .u32)) .nl)).D) (h : Rd (.cn (.sl E (.int .u32)) (.cn (.sl E2 (.int .u32)) .nl)) w x cs.toList) (l : Int) (hl' : (Lit.int .i64 l).wf = true) (t : Int) (ht : (Lit.int .i64 t).wf = true) :
    Calls Try.prog 4 #[.agg cs, .int .i64 l, .int .i64 t] w fun e w' => e = .returned (.bool true) ∧ Fr No w w' := by
  obtain ⟨A, n, c, B, m, e, lo, hi, rfl, hl, hh⟩ := rd_box h
  clear h x hl' ht
  have hc : 20 < n ∨ (n ≤ 20 ∧ 20 < m) ∨ (n ≤ 20 ∧ m ≤ 20 ∧ 6 < l ∧ l ≤ 10) ∨ (n ≤ 20 ∧ m ≤ 20 ∧ l ≤ 6) ∨ (n ≤ 20 ∧ m ≤ 20 ∧ 6 < l ∧ 10 < l) := by omega
  rcases hc with h1 | ⟨h1, h2⟩ | ⟨h1, h2, h3, h4⟩ | ⟨h1, h2, h3⟩ | ⟨h1, h2, h3, h4⟩
  · go_enter Try.func4, Try.ntmps4
    go_wp2_with (go_at_call 9; ((with_reducible refine (live _).mono ?_); rintro e wl ⟨rfl, hfl⟩))
    go_ret
    exact ⟨rfl, by (repeat (first | with_reducible exact Fr.refl _ _ | with_reducible refine Fr.setCell ?_ (.inr (by first | (simp; done) | (simp; omega))) _ | with_reducible refine Fr.alloc ?_ _ | with_reducible refine Fr.drew ?_ | with_reducible refine Fr.drewN ?_ _ | with_reducible refine Fr.tr ?_ (by assumption)))⟩
  · go_enter Try.func4, Try.ntmps4
    go_wp2_with (go_at_call 9; ((with_reducible refine (live _).mono ?_); rintro e wl ⟨rfl, hfl⟩))
    go_ret
    exact ⟨rfl, by (repeat (first | with_reducible exact Fr.refl _ _ | with_reducible refine Fr.setCell ?_ (.inr (by first | (simp; done) | (simp; omega))) _ | with_reducible refine Fr.alloc ?_ _ | with_reducible refine Fr.drew ?_ | with_reducible refine Fr.drewN ?_ _ | with_reducible refine Fr.tr ?_ (by assumption)))⟩
  · go_enter Try.func4, Try.ntmps4
    go_wp2_with (go_at_call 9; ((with_reducible refine (live _).mono ?_); rintro e wl ⟨rfl, hfl⟩))
    go_ret
    exact ⟨rfl, by (repeat (first | with_reducible exact Fr.refl _ _ | with_reducible refine Fr.setCell ?_ (.inr (by first | (simp; done) | (simp; omega))) _ | with_reducible refine Fr.alloc ?_ _ | with_reducible refine Fr.drew ?_ | with_reducible refine Fr.drewN ?_ _ | with_reducible refine Fr.tr ?_ (by assumption)))⟩
  all_goals
    go_enter Try.func4, Try.ntmps4
    go_wp2_with (go_at_call 17; ((with_reducible refine (lrange_any (lo := lo) (hi := hi) _ _ ?_ ?_).mono ?_); (iterate 2 (repeat (first | with_reducible assumption | ((with_reducible refine Kv.lit_new _ _ _ _ _ _ ?_ ?_ ?_ ?_) <;> (first | (simp; done) | rfl | decide)) | with_reducible exact Kv.none_ _ | with_reducible refine Kv.alloc ?_ _ | with_reducible refine Kv.drew ?_ | with_reducible refine Kv.drewN ?_ _ | with_reducible refine Kv.no ?_ (by assumption)))); rintro e w1 ⟨A1, n1, c1, rfl, hv1, hf1⟩; obtain ⟨yba, ybb, ybl, ybm, ybn, ybo, ybp, ybq⟩ := (show Ob w1 w.heap.size #[.slice A n c, .slice B m e] 32 by (repeat (first | with_reducible assumption | with_reducible refine Ob.other ?_ (by first | (simp; done) | (simp; omega)) _ | ((with_reducible refine Ob.new_ _ _ _ _ ?_) <;> (simp; done)) | with_reducible refine Ob.alloc ?_ _ | with_reducible refine Ob.drew ?_ | with_reducible refine Ob.drewN ?_ _ | with_reducible refine Ob.no ?_ (by assumption)))).two))
    go_wp2_with (go_at_call 18; ((with_reducible refine (rlrange_any (lo := lo) (hi := hi) _ _ ?_ ?_).mono ?_); (iterate 2 (repeat (first | with_reducible assumption | ((with_reducible refine Kv.lit_new _ _ _ _ _ _ ?_ ?_ ?_ ?_) <;> (first | (simp; done) | rfl | decide)) | with_reducible exact Kv.none_ _ | with_reducible refine Kv.alloc ?_ _ | with_reducible refine Kv.drew ?_ | with_reducible refine Kv.drewN ?_ _ | with_reducible refine Kv.no ?_ (by assumption)))); rintro e w2 ⟨A2, n2, c2, rfl, hv2, hf2⟩))
    go_wp2_with (go_at_call 19; ((with_reducible refine (ints_any (xs := lrL lo hi l t) (ys := lrL lo hi l t) ?_ ?_).mono ?_); (iterate 2 (repeat (first | with_reducible assumption | ((with_reducible refine Iv.lit_new _ _ _ _ _ _ ?_ ?_ ?_ ?_) <;> (first | (simp; done) | rfl | decide)) | with_reducible exact Iv.none_ _ | with_reducible refine Iv.alloc ?_ _ | with_reducible refine Iv.drew ?_ | with_reducible refine Iv.drewN ?_ _ | with_reducible refine Iv.no ?_ (by assumption)))); rintro e w5 ⟨rfl, hf5⟩; rw [ints_self]))
    go_wp2_with (go_at_call 9; ((with_reducible refine (live _).mono ?_); rintro e wl ⟨rfl, hfl⟩))
    go_ret
    exact ⟨rfl, by (repeat (first | with_reducible exact Fr.refl _ _ | with_reducible refine Fr.setCell ?_ (.inr (by first | (simp; done) | (simp; omega))) _ | with_reducible refine Fr.alloc ?_ _ | with_reducible refine Fr.drew ?_ | with_reducible refine Fr.drewN ?_ _ | with_reducible refine Fr.tr ?_ (by assumption)))⟩
set_option maxRecDepth 100000 in
set_option maxHeartbeats 3200000 in
theorem law_grows (w : World) (l : Int) (hl : (Lit.int .i64 l).wf = true) (t : Int) (ht : (Lit.int .i64 t).wf = true) :
    Calls Try.prog 5 #[.int .i64 l, .int .i64 t] w fun e w' => e = .returned (.bool true) ∧ Fr No w w' := by
  clear hl ht
  go_enter Try.func5, Try.ntmps5
  go_wp2_with (go_at_call 20; ((with_reducible refine (grow_t _ _).mono ?_); rintro e w1 ⟨rfl, rfl⟩))
  go_wp2_with (go_at_call 21; ((with_reducible refine (rgrow_t _ _).mono ?_); rintro e w1 ⟨rfl, rfl⟩))
  go_wp2_with (go_at_call 22; ((with_reducible refine (shrink_t _ _).mono ?_); rintro e w1 ⟨rfl, rfl⟩))
  go_wp2_with (go_at_call 23; ((with_reducible refine (rshrink_t _ _).mono ?_); rintro e w1 ⟨rfl, rfl⟩))
  go_wp2_with (go_at_call 9; ((with_reducible refine (live _).mono ?_); rintro e wl ⟨rfl, hfl⟩))
  go_ret
  exact ⟨rfl, by (repeat (first | with_reducible exact Fr.refl _ _ | with_reducible refine Fr.setCell ?_ (.inr (by first | (simp; done) | (simp; omega))) _ | with_reducible refine Fr.alloc ?_ _ | with_reducible refine Fr.drew ?_ | with_reducible refine Fr.drewN ?_ _ | with_reducible refine Fr.tr ?_ (by assumption)))⟩
end Go.Proofs.Ytplpgneckfmjpaa.Lh18
