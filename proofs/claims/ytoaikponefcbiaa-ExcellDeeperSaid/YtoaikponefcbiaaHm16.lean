/- Layer 16's laws ExcellBoxes, ExcellRanges, ExcellTwice. -/
import Derived.Test.YtoaikponefcbiaaHl16
import Derived.Test.YtoaikponefcbiaaTy
namespace Go.Proofs.Ytoaikponefcbiaa.Hm16
open Go.RowKit Go.Proofs.Ytoaikponefcbiaa.Pk08 Go.Proofs.Ytoaikponefcbiaa.Base Go.Proofs.Ytoaikponefcbiaa.App Go.Proofs.Ytoaikponefcbiaa.Ty Go.Proofs.Ytoaikponefcbiaa.Ky Go.Proofs.Ytoaikponefcbiaa.Iv Go.Proofs.Ytoaikponefcbiaa.Bx Go.Proofs.Ytoaikponefcbiaa.Kk Go.Proofs.Ytoaikponefcbiaa.Bo Go.Proofs.Ytoaikponefcbiaa.As Go.Proofs.Ytoaikponefcbiaa.Cl Go.Proofs.Ytoaikponefcbiaa.Kc08 Go.Proofs.Ytoaikponefcbiaa.Ke08 Go.Proofs.Ytoaikponefcbiaa.Kh08 Go.Proofs.Ytoaikponefcbiaa.Kj08 Go.Proofs.Ytoaikponefcbiaa.Km08 Go.Proofs.Ytoaikponefcbiaa.Ka08 Go.Proofs.Ytoaikponefcbiaa.Px16 Go.Proofs.Ytoaikponefcbiaa.Py16 Go.Proofs.Ytoaikponefcbiaa.Hd16 Go.Proofs.Ytoaikponefcbiaa.He16 Go.Proofs.Ytoaikponefcbiaa.Hf16 Go.Proofs.Ytoaikponefcbiaa.Hg16 Go.Proofs.Ytoaikponefcbiaa.Hh16 Go.Proofs.Ytoaikponefcbiaa.Hi16 Go.Proofs.Ytoaikponefcbiaa.Hj16 Go.Proofs.Ytoaikponefcbiaa.Hk16 Go.Proofs.Ytoaikponefcbiaa.Hl16
set_option linter.unusedVariables false
set_option linter.unusedSimpArgs false
theorem pair_self (a b : List Nat) : ((cmp a a == 0) && (cmp b b == 0)) = true := by rw [Go.Proofs.Ytoaikponefcbiaa.Pl08.cmp_self, Go.Proofs.Ytoaikponefcbiaa.Pl08.cmp_self]; rfl
theorem ints_self (xs : List Int) : decide (xs = xs) = true := decide_eq_true rfl
abbrev caseT (E : TypeId) : Ty := .cn (.int .i64) (.cn (.int .i64) (.cn (.int .i64) (.cn (.sl E (.int .u32)) .nl)))
theorem rd_case {E : TypeId} {w : World} {x : (caseT E).D} {cs : Array Value} (h : Rd (caseT E) w x cs.toList) :
    ∃ (a b d : Int) (A : Option Addr) (n c : Nat) (k : List Nat), cs = #[.int .i64 a, .int .i64 b, .int .i64 d, .slice A n c] ∧ Kv w A n c k := by
  obtain ⟨c1, c2, hc, ⟨rfl, _⟩, c3, c4, rfl, ⟨rfl, _⟩, c5, c6, rfl, ⟨rfl, _⟩, c7, c8, rfl, h4, h5⟩ := h
  have h5' : c8 = [] := h5
  subst h5'
  have h4' := h4
  obtain ⟨A, c, rfl, _⟩ := h4'
  refine ⟨x.1, x.2.1, x.2.2.1, A, _, c, _, ?_, Kv.of_rd h4⟩
  rw [← Array.toArray_toList (xs := cs), hc]
  rfl
set_option maxRecDepth 100000 in
set_option maxHeartbeats 3200000 in
theorem law_boxes {E : TypeId} (w : World) (cs : Array Value) (x : (caseT E).D) (h : Rd (caseT E) w x cs.toList) :
    Calls Try.prog 3 #[.agg cs] w fun e w' => e = .returned (.bool true) ∧ Fr No w w' := by
  obtain ⟨d, t, a, A, n, c, k, rfl, hk⟩ := rd_case h
  clear h x
  by_cases hn : 20 < n
  · go_enter Try.func3, Try.ntmps3
    go_wp2
    go_quiet (fail)
    go_wp2_with (go_at_call 9; ((with_reducible refine (live _).mono ?_); rintro e wl ⟨rfl, hfl⟩))
    go_ret
    refine ⟨rfl, ?_⟩
    (repeat (first | with_reducible exact Fr.refl _ _ | with_reducible refine Fr.setCell ?_ (.inr (by first | (simp; done) | (simp; omega))) _ | with_reducible refine Fr.alloc ?_ _ | with_reducible refine Fr.drew ?_ | with_reducible refine Fr.drewN ?_ _ | with_reducible refine Fr.tr ?_ (by assumption)))
  · have hn' : n ≤ 20 := by omega
    clear hn
    go_enter Try.func3, Try.ntmps3
    go_wp2
    go_quiet (fail)
    go_wp2_with (go_at_call 10; ((with_reducible refine (box_any _ _ _).mono ?_); rintro e w1 ⟨A1, n1, c1, B1, m1, d1, rfl, hl1, hh1, hf1⟩))
    go_wp2_with (go_at_call 11; ((with_reducible refine (rbox_any _ _ _).mono ?_); rintro e w2 ⟨A2, n2, c2, B2, m2, d2, rfl, hl2, hh2, hf2⟩))
    go_wp2_with (go_at_call 12; ((with_reducible refine (find_any (k := k) _ ?_).mono ?_); (iterate 1 (repeat (first | with_reducible assumption | ((with_reducible refine Kv.lit_new _ _ _ _ _ _ ?_ ?_ ?_ ?_) <;> (first | (simp; done) | rfl | decide)) | with_reducible exact Kv.none_ _ | with_reducible refine Kv.alloc ?_ _ | with_reducible refine Kv.drew ?_ | with_reducible refine Kv.drewN ?_ _ | with_reducible refine Kv.no ?_ (by assumption)))); rintro e w3 ⟨rfl, rfl⟩))
    go_wp2_with (go_at_call 13; ((with_reducible refine (rfind_any (k := k) _ ?_).mono ?_); (iterate 1 (repeat (first | with_reducible assumption | ((with_reducible refine Kv.lit_new _ _ _ _ _ _ ?_ ?_ ?_ ?_) <;> (first | (simp; done) | rfl | decide)) | with_reducible exact Kv.none_ _ | with_reducible refine Kv.alloc ?_ _ | with_reducible refine Kv.drew ?_ | with_reducible refine Kv.drewN ?_ _ | with_reducible refine Kv.no ?_ (by assumption)))); rintro e w3 ⟨rfl, hf3⟩))
    go_wp2_with (go_at_call 14; ((with_reducible refine (buddy_any _ _ _).mono ?_); rintro e w4 ⟨rfl, rfl⟩))
    go_wp2_with (go_at_call 15; ((with_reducible refine (rbuddy_any _ _ _).mono ?_); rintro e w4 ⟨rfl, rfl⟩; obtain ⟨yba, ybb, ybl, ybm, ybn, ybo, ybp, ybq⟩ := (show Ob w3 w1.heap.size #[.slice A1 n1 c1, .slice B1 m1 d1] 28 by (repeat (first | with_reducible assumption | with_reducible refine Ob.other ?_ (by first | (simp; done) | (simp; omega)) _ | ((with_reducible refine Ob.new_ _ _ _ _ ?_) <;> (simp; done)) | with_reducible refine Ob.alloc ?_ _ | with_reducible refine Ob.drew ?_ | with_reducible refine Ob.drewN ?_ _ | with_reducible refine Ob.no ?_ (by assumption)))).two; obtain ⟨yca, ycb, ycl, ycm, ycn, yco, ycp, ycq⟩ := (show Ob w3 w2.heap.size #[.slice A2 n2 c2, .slice B2 m2 d2] 28 by (repeat (first | with_reducible assumption | with_reducible refine Ob.other ?_ (by first | (simp; done) | (simp; omega)) _ | ((with_reducible refine Ob.new_ _ _ _ _ ?_) <;> (simp; done)) | with_reducible refine Ob.alloc ?_ _ | with_reducible refine Ob.drew ?_ | with_reducible refine Ob.drewN ?_ _ | with_reducible refine Ob.no ?_ (by assumption)))).two))
    go_wp2_with (go_at_call 16; ((with_reducible refine (sameBox_any (lo := bxL d t a) (hi := bxH d t a) (a := bxL d t a) (b := bxH d t a) ?_ ?_ ?_ ?_).mono ?_); (iterate 4 (repeat (first | with_reducible assumption | ((with_reducible refine Kv.lit_new _ _ _ _ _ _ ?_ ?_ ?_ ?_) <;> (first | (simp; done) | rfl | decide)) | with_reducible exact Kv.none_ _ | with_reducible refine Kv.alloc ?_ _ | with_reducible refine Kv.drew ?_ | with_reducible refine Kv.drewN ?_ _ | with_reducible refine Kv.no ?_ (by assumption)))); rintro e w5 ⟨rfl, hf5⟩; rw [pair_self]))
    go_wp2_with (go_at_call 9; ((with_reducible refine (live _).mono ?_); rintro e wl ⟨rfl, hfl⟩))
    go_ret
    refine ⟨rfl, ?_⟩
    (repeat (first | with_reducible exact Fr.refl _ _ | with_reducible refine Fr.setCell ?_ (.inr (by first | (simp; done) | (simp; omega))) _ | with_reducible refine Fr.alloc ?_ _ | with_reducible refine Fr.drew ?_ | with_reducible refine Fr.drewN ?_ _ | with_reducible refine Fr.tr ?_ (by assumption)))
abbrev bxT (E E2 : TypeId) : Ty := .cn (.sl E (.int .u32)) (.cn (.sl E2 (.int .u32)) .nl)
theorem rd_bx {E E2 : TypeId} {w : World} {x : (bxT E E2).D} {cs : Array Value} (h : Rd (bxT E E2) w x cs.toList) :
    ∃ A n c B m d lo hi, cs = #[.slice A n c, .slice B m d] ∧ Kv w A n c lo ∧ Kv w B m d hi := by
  obtain ⟨c1, c2, hc, h1, c3, c4, rfl, h2, h5⟩ := h
  have h5' : c4 = [] := h5
  subst h5'
  have h1' := h1
  have h2' := h2
  obtain ⟨A, c, rfl, _⟩ := h1'
  obtain ⟨B, d, rfl, _⟩ := h2'
  refine ⟨A, _, c, B, _, d, _, _, ?_, Kv.of_rd h1, Kv.of_rd h2⟩
  rw [← Array.toArray_toList (xs := cs), hc]
  rfl
set_option maxHeartbeats 3200000 in
theorem law_ranges {E E2 : TypeId} (w : World) (cs : Array Value) (x : (bxT E E2).D) (h : Rd (bxT E E2) w x cs.toList) (d : Int) (hd : (Lit.int .i64 d).wf = true) (t : Int) (ht : (Lit.int .i64 t).wf = true) :
    Calls Try.prog 4 #[.agg cs, .int .i64 d, .int .i64 t] w fun e w' => e = .returned (.bool true) ∧ Fr No w w' := by
  obtain ⟨A, n, c, B, m, e, lo, hi, rfl, hl, hh⟩ := rd_bx h
  clear h x hd ht
  have hc : 20 < n ∨ (n ≤ 20 ∧ 20 < m) ∨ (n ≤ 20 ∧ m ≤ 20 ∧ 8 < t ∧ t ≤ 12) ∨ (n ≤ 20 ∧ m ≤ 20 ∧ t ≤ 8) ∨ (n ≤ 20 ∧ m ≤ 20 ∧ 8 < t ∧ 12 < t) := by omega
  rcases hc with h1 | ⟨h1, h2⟩ | ⟨h1, h2, h3, h4⟩ | ⟨h1, h2, h3⟩ | ⟨h1, h2, h3, h4⟩
  · go_enter Try.func4, Try.ntmps4
    go_wp2_with (go_at_call 9; ((with_reducible refine (live _).mono ?_); rintro e wl ⟨rfl, hfl⟩))
    go_ret
    exact ⟨rfl, by (repeat (first | with_reducible exact Fr.refl _ _ | with_reducible refine Fr.setCell ?_ (.inr (by first | (simp; done) | (simp; omega))) _ | with_reducible refine Fr.alloc ?_ _ | with_reducible refine Fr.drew ?_ | with_reducible refine Fr.drewN ?_ _ | with_reducible refine Fr.tr ?_ (by assumption)))⟩
  · go_enter Try.func4, Try.ntmps4
    go_wp2_with (go_at_call 9; ((with_reducible refine (live _).mono ?_); rintro e wl ⟨rfl, hfl⟩))
    go_ret
    exact ⟨rfl, by (repeat (first | with_reducible exact Fr.refl _ _ | with_reducible refine Fr.setCell ?_ (.inr (by first | (simp; done) | (simp; omega))) _ | with_reducible refine Fr.alloc ?_ _ | with_reducible refine Fr.drew ?_ | with_reducible refine Fr.drewN ?_ _ | with_reducible refine Fr.tr ?_ (by assumption)))⟩
  · go_enter Try.func4, Try.ntmps4
    go_wp2_with (go_at_call 9; ((with_reducible refine (live _).mono ?_); rintro e wl ⟨rfl, hfl⟩))
    go_ret
    exact ⟨rfl, by (repeat (first | with_reducible exact Fr.refl _ _ | with_reducible refine Fr.setCell ?_ (.inr (by first | (simp; done) | (simp; omega))) _ | with_reducible refine Fr.alloc ?_ _ | with_reducible refine Fr.drew ?_ | with_reducible refine Fr.drewN ?_ _ | with_reducible refine Fr.tr ?_ (by assumption)))⟩
  all_goals
    go_enter Try.func4, Try.ntmps4
    go_wp2_with (go_at_call 17; ((with_reducible refine (range_any (lo := lo) (hi := hi) _ _ ?_ ?_).mono ?_); (iterate 2 (repeat (first | with_reducible assumption | ((with_reducible refine Kv.lit_new _ _ _ _ _ _ ?_ ?_ ?_ ?_) <;> (first | (simp; done) | rfl | decide)) | with_reducible exact Kv.none_ _ | with_reducible refine Kv.alloc ?_ _ | with_reducible refine Kv.drew ?_ | with_reducible refine Kv.drewN ?_ _ | with_reducible refine Kv.no ?_ (by assumption)))); rintro e w1 ⟨A1, n1, c1, rfl, hv1, hf1⟩; obtain ⟨yba, ybb, ybl, ybm, ybn, ybo, ybp, ybq⟩ := (show Ob w1 w.heap.size #[.slice A n c, .slice B m e] 28 by (repeat (first | with_reducible assumption | with_reducible refine Ob.other ?_ (by first | (simp; done) | (simp; omega)) _ | ((with_reducible refine Ob.new_ _ _ _ _ ?_) <;> (simp; done)) | with_reducible refine Ob.alloc ?_ _ | with_reducible refine Ob.drew ?_ | with_reducible refine Ob.drewN ?_ _ | with_reducible refine Ob.no ?_ (by assumption)))).two))
    go_wp2_with (go_at_call 18; ((with_reducible refine (rrange_any (lo := lo) (hi := hi) _ _ ?_ ?_).mono ?_); (iterate 2 (repeat (first | with_reducible assumption | ((with_reducible refine Kv.lit_new _ _ _ _ _ _ ?_ ?_ ?_ ?_) <;> (first | (simp; done) | rfl | decide)) | with_reducible exact Kv.none_ _ | with_reducible refine Kv.alloc ?_ _ | with_reducible refine Kv.drew ?_ | with_reducible refine Kv.drewN ?_ _ | with_reducible refine Kv.no ?_ (by assumption)))); rintro e w2 ⟨A2, n2, c2, rfl, hv2, hf2⟩))
    go_wp2_with (go_at_call 19; ((with_reducible refine (ints_any (xs := rgL lo hi d t) (ys := rgL lo hi d t) ?_ ?_).mono ?_); (iterate 2 (repeat (first | with_reducible assumption | ((with_reducible refine Iv.lit_new _ _ _ _ _ _ ?_ ?_ ?_ ?_) <;> (first | (simp; done) | rfl | decide)) | with_reducible exact Iv.none_ _ | with_reducible refine Iv.alloc ?_ _ | with_reducible refine Iv.drew ?_ | with_reducible refine Iv.drewN ?_ _ | with_reducible refine Iv.no ?_ (by assumption)))); rintro e w5 ⟨rfl, hf5⟩; rw [ints_self]))
    go_wp2_with (go_at_call 9; ((with_reducible refine (live _).mono ?_); rintro e wl ⟨rfl, hfl⟩))
    go_ret
    exact ⟨rfl, by (repeat (first | with_reducible exact Fr.refl _ _ | with_reducible refine Fr.setCell ?_ (.inr (by first | (simp; done) | (simp; omega))) _ | with_reducible refine Fr.alloc ?_ _ | with_reducible refine Fr.drew ?_ | with_reducible refine Fr.drewN ?_ _ | with_reducible refine Fr.tr ?_ (by assumption)))⟩
theorem buE_cases (n a b : Int) : (buE n a b = 0 ∧ budOk n a b = true) ∨ (buE n a b = 1 ∧ buV n a b = 0) := by
  cases h : budOk n a b with
  | true => exact .inl ⟨by unfold buE; rw [if_pos h], rfl⟩
  | false => exact .inr ⟨by unfold buE; rw [h]; rfl, by unfold buV; rw [h]; rfl⟩
theorem bu_twice {n a b : Int} (h : budOk n a b = true) : buE n (buV n a b) b = 0 ∧ buV n (buV n a b) b = a / 2 ^ (n - b).toNat * 2 ^ (n - b).toNat ∧ buV n a b ≠ buV n (buV n a b) b ∧ 0 ≤ n - b ∧ n - b ≤ 12 ∧ 0 ≤ a ∧ a / 2 ^ (n - b).toNat * 2 ^ (n - b).toNat ≤ a ∧ a < 4096 := by
  obtain ⟨n0, n1, a0, a1, b0, b1⟩ := of_decide_eq_true h
  obtain ⟨n, rfl⟩ := Int.eq_ofNat_of_zero_le n0
  obtain ⟨a, rfl⟩ := Int.eq_ofNat_of_zero_le a0
  obtain ⟨b, rfl⟩ := Int.eq_ofNat_of_zero_le (show 0 ≤ b by omega)
  have hp : ((2 ^ n : Nat) : Int) = (2 : Int) ^ n := by simp
  have a2 : a < 2 ^ n := by rw [Int.toNat_natCast] at a1; omega
  have hv : buV n a b = ((bud n a b : Nat) : Int) := by unfold buV; rw [if_pos h, Int.toNat_natCast, Int.toNat_natCast, Int.toNat_natCast]
  have hl := bud_lt n a b (by omega) (by omega) a2
  have h2 : budOk n ((bud n a b : Nat) : Int) b = true := decide_eq_true ⟨n0, n1, Int.natCast_nonneg _, by rw [Int.toNat_natCast]; omega, b0, b1⟩
  have hv2 : buV n ((bud n a b : Nat) : Int) b = ((bud n (bud n a b) b : Nat) : Int) := by unfold buV; rw [if_pos h2, Int.toNat_natCast, Int.toNat_natCast, Int.toNat_natCast]
  have hnb : ((n : Int) - (b : Int)).toNat = n - b := by omega
  have h12 := Nat.pow_le_pow_right (show 0 < 2 by decide) (show n ≤ 12 by omega)
  rw [hv, hv2, hnb, bud_two]
  refine ⟨by unfold buE; rw [if_pos h2], by simp, ?_, by omega, by omega, by omega, ?_, by omega⟩
  · intro e
    have e' : bud n a b = a / 2 ^ (n - b) * 2 ^ (n - b) := by exact_mod_cast e
    have e2 := bud_ne n (bud n a b) b
    rw [bud_two] at e2
    exact e2 e'.symm
  · have := Nat.div_mul_le_self a (2 ^ (n - b))
    have h4 : ((a / 2 ^ (n - b) * 2 ^ (n - b) : Nat) : Int) ≤ (a : Int) := by omega
    simpa using h4
set_option maxHeartbeats 3200000 in
theorem law_twice (w : World) (n : Int) (hn : (Lit.int .i64 n).wf = true) (a : Int) (ha : (Lit.int .i64 a).wf = true) (b : Int) (hb : (Lit.int .i64 b).wf = true) :
    Calls Try.prog 7 #[.int .i64 n, .int .i64 a, .int .i64 b] w fun e w' => e = .returned (.bool true) ∧ Fr No w w' := by
  clear hn ha hb
  rcases buE_cases n a b with ⟨h1, h2⟩ | ⟨h1, h2⟩
  · obtain ⟨h3, h4, h5, h6, h7, h8, h9, h10⟩ := bu_twice h2
    have H1 := Lib.hid h1
    have H3 := Lib.hid h3
    have H4 := Lib.hid h4
    have hne : (buV n a b != buV n (buV n a b) b) = true := bne_iff_ne.2 h5
    rw [h4] at hne
    have hw1 : wrap64 (a / 2 ^ (n - b).toNat * 2 ^ (n - b).toNat) = a / 2 ^ (n - b).toNat * 2 ^ (n - b).toNat := IntWalk.wrap64_in _ (by
      have : 0 ≤ a / 2 ^ (n - b).toNat * 2 ^ (n - b).toNat := Int.mul_nonneg (Int.ediv_nonneg h8 (Int.le_of_lt (Int.pow_pos (by decide)))) (Int.le_of_lt (Int.pow_pos (by decide)))
      omega)
    clear h1 h2 h3 h4 h5
    go_enter Try.func7, Try.ntmps7
    go_wp2_with (go_at_call 14; ((with_reducible refine (buddy_any _ _ _).mono ?_); rintro e w4 ⟨rfl, rfl⟩; rw [H1.out]))
    go_wp2_with (first
      | (go_at_call 14; ((with_reducible refine (buddy_any _ _ _).mono ?_); rintro e w4 ⟨rfl, rfl⟩; rw [H3.out, H4.out]))
      | (go_at_call 9; ((with_reducible refine (live _).mono ?_); rintro e wl ⟨rfl, hfl⟩))
      | fail)
    go_ret
    exact ⟨rfl, by (repeat (first | with_reducible exact Fr.refl _ _ | with_reducible refine Fr.setCell ?_ (.inr (by first | (simp; done) | (simp; omega))) _ | with_reducible refine Fr.alloc ?_ _ | with_reducible refine Fr.drew ?_ | with_reducible refine Fr.drewN ?_ _ | with_reducible refine Fr.tr ?_ (by assumption)))⟩
  · have H1 := Lib.hid h1
    have H2 := Lib.hid h2
    clear h1 h2
    go_enter Try.func7, Try.ntmps7
    go_wp2_with (first
      | (go_at_call 14; ((with_reducible refine (buddy_any _ _ _).mono ?_); rintro e w4 ⟨rfl, rfl⟩; rw [H1.out, H2.out]))
      | (go_at_call 9; ((with_reducible refine (live _).mono ?_); rintro e wl ⟨rfl, hfl⟩))
      | fail)
    go_ret
    exact ⟨rfl, by (repeat (first | with_reducible exact Fr.refl _ _ | with_reducible refine Fr.setCell ?_ (.inr (by first | (simp; done) | (simp; omega))) _ | with_reducible refine Fr.alloc ?_ _ | with_reducible refine Fr.drew ?_ | with_reducible refine Fr.drewN ?_ _ | with_reducible refine Fr.tr ?_ (by assumption)))⟩
end Go.Proofs.Ytoaikponefcbiaa.Hm16
