/- Layer 18: the box of a chain (the program's). -/
import Derived.Test.YtplpgneckfmjpaaLb18
namespace Go.Proofs.Ytplpgneckfmjpaa.Lc18
open Go.RowKit Go.Proofs.Ytplpgneckfmjpaa.Pk08 Go.Proofs.Ytplpgneckfmjpaa.Base Go.Proofs.Ytplpgneckfmjpaa.App Go.Proofs.Ytplpgneckfmjpaa.Ky Go.Proofs.Ytplpgneckfmjpaa.Bx Go.Proofs.Ytplpgneckfmjpaa.Kk Go.Proofs.Ytplpgneckfmjpaa.Bo Go.Proofs.Ytplpgneckfmjpaa.Kc08 Go.Proofs.Ytplpgneckfmjpaa.Kj08 Go.Proofs.Ytplpgneckfmjpaa.Px16 Go.Proofs.Ytplpgneckfmjpaa.Py16 Go.Proofs.Ytplpgneckfmjpaa.Pz18 Go.Proofs.Ytplpgneckfmjpaa.Hd16 Go.Proofs.Ytplpgneckfmjpaa.Hg16 Go.Proofs.Ytplpgneckfmjpaa.Lz18 Go.Proofs.Ytplpgneckfmjpaa.La18 Go.Proofs.Ytplpgneckfmjpaa.Lb18
set_option linter.unusedVariables false
set_option linter.unusedSimpArgs false
def lbOk (d l n i : Int) : Bool := lvOk l n && decide (1 ≤ d ∧ d ≤ 6 ∧ 0 ≤ i ∧ i < 2 ^ l.toNat + n)
def lbL (d l n i : Int) : List Nat := if lbOk d l n i = true then chLo d.toNat l.toNat n.toNat i.toNat else []
def lbH (d l n i : Int) : List Nat := if lbOk d l n i = true then chHi d.toNat l.toNat n.toNat i.toNat else []
def lbE (d l n i : Int) : Int := if lbOk d l n i = true then 0 else 1
theorem lb_no {d l n i : Int} (h : lbOk d l n i = false) : lbL d l n i = [] ∧ lbH d l n i = [] ∧ lbE d l n i = 1 := ⟨by unfold lbL; rw [h]; rfl, by unfold lbH; rw [h]; rfl, by unfold lbE; rw [h]; rfl⟩
theorem ad_small {u a : Nat} (h1 : u ≤ 12) (h2 : a < 2 ^ u) : adB (u : Int) (a : Int) = true := decide_eq_true ⟨by omega, by omega, by omega, by
  rw [Int.toNat_natCast]
  have : ((2 ^ u : Nat) : Int) = (2 : Int) ^ u := by simp
  omega⟩
/-- The chain's box is that of its cell. -/
theorem lb_cell {d : Int} {u m i : Nat} (hv : lvOk (u : Int) (m : Int) = true) (hu : u ≤ 10) (hm : m < 2 ^ u) (hi : i < 2 ^ u + m) :
    lbL d u m i = bxL d (cD u m i : Nat) (cA u m i : Nat) ∧ lbH d u m i = bxH d (cD u m i : Nat) (cA u m i : Nat) ∧ lbE d u m i = bxE d (cD u m i : Nat) (cA u m i : Nat) := by
  have hc := cA_lt hm hi
  have hd12 : cD u m i ≤ 12 := by unfold cD; split <;> omega
  have had := ad_small hd12 hc
  have hp : ((2 ^ u : Nat) : Int) = (2 : Int) ^ u := by simp
  by_cases hd : 1 ≤ d ∧ d ≤ 6
  · have o1 : lbOk d u m i = true := by
      unfold lbOk
      rw [hv, Int.toNat_natCast, decide_eq_true ⟨hd.1, hd.2, by omega, by omega⟩]
      rfl
    have o2 : bxOk d (cD u m i : Nat) (cA u m i : Nat) = true := by
      unfold bxOk
      rw [had, decide_eq_true hd]
      rfl
    unfold lbL lbH lbE bxL bxH bxE
    rw [if_pos o1, if_pos o1, if_pos o1, if_pos o2, if_pos o2, if_pos o2]
    simp only [Int.toNat_natCast]
    exact ⟨rfl, rfl, trivial⟩
  · have o1 : lbOk d u m i = false := by
      unfold lbOk
      rw [decide_eq_false (fun x => hd ⟨x.1, x.2.1⟩), Bool.and_false]
    have o2 : bxOk d (cD u m i : Nat) (cA u m i : Nat) = false := by
      unfold bxOk
      rw [decide_eq_false hd, Bool.false_and]
    unfold lbL lbH lbE bxL bxH bxE
    simp [o1, o2]
section
variable {w : World}
theorem lbox_bad (d l n i : Int) (h : lvOk l n = false ∨ (lvOk l n = true ∧ i < 0) ∨ (lvOk l n = true ∧ 0 ≤ i ∧ 2 ^ l.toNat + n ≤ i)) :
    Calls Try.prog 14 #[.int .i64 d, .int .i64 l, .int .i64 n, .int .i64 i] w (BoxRet w [] [] (.int .i64 1)) := by
  obtain ⟨q0, q1, q2, q3⟩ := Ob.four (Ob.new w #[.slice none 0 0, .slice none 0 0] 32)
  rcases h with h | ⟨h, h1⟩ | ⟨h, h1, h2⟩
  · have E := Lib.hid (show cnE l n = 1 by unfold cnE; rw [h]; rfl)
    clear h
    go_enter Try.func14, Try.ntmps14
    go_wp2_with (go_at_call 10; ((with_reducible refine (count_any _ _).mono ?_); rintro e w1 ⟨rfl, rfl⟩; rw [E.out]))
    refine bodyPost_ret (v := .tuple #[.agg #[.slice none 0 0, .slice none 0 0], .int .i64 1]) (by simp [results, Try.results14, go_sem]) rfl ?_
    exact ⟨_, 0, 0, _, 0, 0, rfl, Kv.none_ _, Kv.none_ _, by (repeat (first | with_reducible exact Fr.refl _ _ | with_reducible refine Fr.setCell ?_ (.inr (by first | (simp; done) | (simp; omega))) _ | with_reducible refine Fr.alloc ?_ _ | with_reducible refine Fr.drew ?_ | with_reducible refine Fr.drewN ?_ _ | with_reducible refine Fr.tr ?_ (by assumption)))⟩
  · have E := Lib.hid (show cnE l n = 0 by unfold cnE; rw [if_pos h])
    clear h
    go_enter Try.func14, Try.ntmps14
    go_wp2_with (go_at_call 10; ((with_reducible refine (count_any _ _).mono ?_); rintro e w1 ⟨rfl, rfl⟩; rw [E.out]))
    refine bodyPost_ret (v := .tuple #[.agg #[.slice none 0 0, .slice none 0 0], .int .i64 1]) (by simp [results, Try.results14, go_sem]) rfl ?_
    exact ⟨_, 0, 0, _, 0, 0, rfl, Kv.none_ _, Kv.none_ _, by (repeat (first | with_reducible exact Fr.refl _ _ | with_reducible refine Fr.setCell ?_ (.inr (by first | (simp; done) | (simp; omega))) _ | with_reducible refine Fr.alloc ?_ _ | with_reducible refine Fr.drew ?_ | with_reducible refine Fr.drewN ?_ _ | with_reducible refine Fr.tr ?_ (by assumption)))⟩
  · have E := Lib.hid (show cnE l n = 0 by unfold cnE; rw [if_pos h])
    have E2 := Lib.hid (show cnV l n = 2 ^ l.toNat + n by unfold cnV; rw [if_pos h])
    clear h
    generalize 2 ^ l.toNat + n = z at *
    go_enter Try.func14, Try.ntmps14
    go_wp2_with (go_at_call 10; ((with_reducible refine (count_any _ _).mono ?_); rintro e w1 ⟨rfl, rfl⟩; rw [E.out, E2.out]))
    refine bodyPost_ret (v := .tuple #[.agg #[.slice none 0 0, .slice none 0 0], .int .i64 1]) (by simp [results, Try.results14, go_sem]) rfl ?_
    exact ⟨_, 0, 0, _, 0, 0, rfl, Kv.none_ _, Kv.none_ _, by (repeat (first | with_reducible exact Fr.refl _ _ | with_reducible refine Fr.setCell ?_ (.inr (by first | (simp; done) | (simp; omega))) _ | with_reducible refine Fr.alloc ?_ _ | with_reducible refine Fr.drew ?_ | with_reducible refine Fr.drewN ?_ _ | with_reducible refine Fr.tr ?_ (by assumption)))⟩
set_option maxHeartbeats 800000 in
theorem lbox_in (d : Int) (u m i : Nat) (hv : lvOk (u : Int) (m : Int) = true) (hu : u ≤ 10) (hm : m < 2 ^ u) (hi : i < 2 ^ u + m) :
    Calls Try.prog 14 #[.int .i64 d, .int .i64 (u : Int), .int .i64 (m : Int), .int .i64 (i : Int)] w (BoxRet w (lbL d u m i) (lbH d u m i) (.int .i64 (lbE d u m i))) := by
  obtain ⟨c1, c2, c3⟩ := lb_cell (d := d) hv hu hm hi
  have hp : ((2 ^ u : Nat) : Int) = (2 : Int) ^ u := by simp
  have hu2 := Nat.pow_le_pow_right (show 0 < 2 by decide) hu
  have hu3 : (2 : Nat) ^ 10 = 1024 := rfl
  have E := Lib.hid (show cnE (u : Int) (m : Int) = 0 by unfold cnE; rw [if_pos hv])
  have E2 := Lib.hid (show cnV (u : Int) (m : Int) = ((2 ^ u + m : Nat) : Int) by unfold cnV; rw [if_pos hv, Int.toNat_natCast]; simp)
  have hil : i < 2 ^ u + m := hi
  have hO := Ob.new w #[.slice none 0 0, .slice none 0 0] 32
  rw [c1, c2, c3]
  by_cases hlt : i < 2 * m
  · have d1 : cD u m i = u + 1 := by unfold cD; rw [if_pos hlt]
    have d2 : cA u m i = i := by unfold cA; rw [if_pos hlt]
    rw [d1, d2]
    have hb := box_any (w := w.alloc (.cells #[.slice none 0 0, .slice none 0 0] 32)) d ((u + 1 : Nat) : Int) (i : Int)
    rw [show ((u + 1 : Nat) : Int) = (u : Int) + 1 by omega] at hb ⊢
    have Hb := Lib.hid hb
    have hz : i < 2048 := by omega
    have hm2 : m < 1024 := by omega
    clear c1 c2 c3 d1 d2 hb hv hm hu3 hi hp
    generalize bxL d ((u : Int) + 1) i = lo at *
    generalize bxH d ((u : Int) + 1) i = hi at *
    generalize bxE d ((u : Int) + 1) i = er at *
    generalize 2 ^ u + m = z at *
    go_enter Try.func14, Try.ntmps14
    go_wp2_with (go_at_call 10; ((with_reducible refine (count_any _ _).mono ?_); rintro e w1 ⟨rfl, rfl⟩; rw [E.out, E2.out]))
    go_wp2_with (go_at_call 31; ((with_reducible refine (Hb.out).mono ?_); rintro e w1 ⟨A1, n1, c1, B1, m1, d1, rfl, hl1, hh1, hf1⟩; obtain ⟨z0, z1, z2, z3⟩ := Ob.four (show Ob w1 w.heap.size #[.slice none 0 0, .slice none 0 0] 32 by (repeat (first | with_reducible assumption | with_reducible refine Ob.other ?_ (by first | (simp; done) | (simp; omega)) _ | ((with_reducible refine Ob.new_ _ _ _ _ ?_) <;> (simp; done)) | with_reducible refine Ob.alloc ?_ _ | with_reducible refine Ob.drew ?_ | with_reducible refine Ob.drewN ?_ _ | with_reducible refine Ob.no ?_ (by assumption))))))
    have hO1 : Ob w1 w.heap.size #[.slice none 0 0, .slice none 0 0] 32 := by (repeat (first | with_reducible assumption | with_reducible refine Ob.other ?_ (by first | (simp; done) | (simp; omega)) _ | ((with_reducible refine Ob.new_ _ _ _ _ ?_) <;> (simp; done)) | with_reducible refine Ob.alloc ?_ _ | with_reducible refine Ob.drew ?_ | with_reducible refine Ob.drewN ?_ _ | with_reducible refine Ob.no ?_ (by assumption)))
    have P := Ob.put2 hO1 (.slice A1 n1 c1) (.slice B1 m1 d1)
    obtain ⟨r0, r1⟩ := cells2 P
    refine bodyPost_ret (v := .tuple #[.agg #[.slice A1 n1 c1, .slice B1 m1 d1], .int .i64 er]) (by simp [results, Try.results14, go_sem, r0, r1]) rfl ?_
    exact ⟨A1, n1, c1, B1, m1, d1, rfl, Kv.put2 hl1 hO1 _, Kv.put2 hh1 hO1 _, by (repeat (first | with_reducible exact Fr.refl _ _ | with_reducible refine Fr.setCell ?_ (.inr (by first | (simp; done) | (simp; omega))) _ | with_reducible refine Fr.alloc ?_ _ | with_reducible refine Fr.drew ?_ | with_reducible refine Fr.drewN ?_ _ | with_reducible refine Fr.tr ?_ (by assumption)))⟩
  · have d1 : cD u m i = u := by unfold cD; rw [if_neg hlt]
    have d2 : cA u m i = i - m := by unfold cA; rw [if_neg hlt]
    rw [d1, d2]
    have hb := box_any (w := w.alloc (.cells #[.slice none 0 0, .slice none 0 0] 32)) d (u : Int) ((i - m : Nat) : Int)
    rw [show ((i - m : Nat) : Int) = (i : Int) - m by omega] at hb ⊢
    have Hb := Lib.hid hb
    have hz : i < 2048 := by omega
    have hm2 : m < 1024 := by omega
    have hge : 2 * m ≤ i := by omega
    clear c1 c2 c3 d1 d2 hb hv hm hu3 hi hp hlt
    generalize bxL d (u : Int) ((i : Int) - m) = lo at *
    generalize bxH d (u : Int) ((i : Int) - m) = hi at *
    generalize bxE d (u : Int) ((i : Int) - m) = er at *
    generalize 2 ^ u + m = z at *
    go_enter Try.func14, Try.ntmps14
    go_wp2_with (go_at_call 10; ((with_reducible refine (count_any _ _).mono ?_); rintro e w1 ⟨rfl, rfl⟩; rw [E.out, E2.out]))
    go_wp2_with (go_at_call 31; ((with_reducible refine (Hb.out).mono ?_); rintro e w1 ⟨A1, n1, c1, B1, m1, d1, rfl, hl1, hh1, hf1⟩; obtain ⟨z0, z1, z2, z3⟩ := Ob.four (show Ob w1 w.heap.size #[.slice none 0 0, .slice none 0 0] 32 by (repeat (first | with_reducible assumption | with_reducible refine Ob.other ?_ (by first | (simp; done) | (simp; omega)) _ | ((with_reducible refine Ob.new_ _ _ _ _ ?_) <;> (simp; done)) | with_reducible refine Ob.alloc ?_ _ | with_reducible refine Ob.drew ?_ | with_reducible refine Ob.drewN ?_ _ | with_reducible refine Ob.no ?_ (by assumption))))))
    have hO1 : Ob w1 w.heap.size #[.slice none 0 0, .slice none 0 0] 32 := by (repeat (first | with_reducible assumption | with_reducible refine Ob.other ?_ (by first | (simp; done) | (simp; omega)) _ | ((with_reducible refine Ob.new_ _ _ _ _ ?_) <;> (simp; done)) | with_reducible refine Ob.alloc ?_ _ | with_reducible refine Ob.drew ?_ | with_reducible refine Ob.drewN ?_ _ | with_reducible refine Ob.no ?_ (by assumption)))
    have P := Ob.put2 hO1 (.slice A1 n1 c1) (.slice B1 m1 d1)
    obtain ⟨r0, r1⟩ := cells2 P
    refine bodyPost_ret (v := .tuple #[.agg #[.slice A1 n1 c1, .slice B1 m1 d1], .int .i64 er]) (by simp [results, Try.results14, go_sem, r0, r1]) rfl ?_
    exact ⟨A1, n1, c1, B1, m1, d1, rfl, Kv.put2 hl1 hO1 _, Kv.put2 hh1 hO1 _, by (repeat (first | with_reducible exact Fr.refl _ _ | with_reducible refine Fr.setCell ?_ (.inr (by first | (simp; done) | (simp; omega))) _ | with_reducible refine Fr.alloc ?_ _ | with_reducible refine Fr.drew ?_ | with_reducible refine Fr.drewN ?_ _ | with_reducible refine Fr.tr ?_ (by assumption)))⟩
theorem lbox_any (d l n i : Int) :
    Calls Try.prog 14 #[.int .i64 d, .int .i64 l, .int .i64 n, .int .i64 i] w (BoxRet w (lbL d l n i) (lbH d l n i) (.int .i64 (lbE d l n i))) := by
  cases h : lvOk l n with
  | false =>
    obtain ⟨e1, e2, e3⟩ := lb_no (d := d) (l := l) (n := n) (i := i) (by unfold lbOk; rw [h]; rfl)
    rw [e1, e2, e3]
    exact lbox_bad d l n i (.inl h)
  | true =>
    by_cases h1 : i < 0
    · obtain ⟨e1, e2, e3⟩ := lb_no (d := d) (l := l) (n := n) (i := i) (by unfold lbOk; rw [decide_eq_false (fun x => by omega), Bool.and_false])
      rw [e1, e2, e3]
      exact lbox_bad d l n i (.inr (.inl ⟨h, h1⟩))
    · by_cases h2 : 2 ^ l.toNat + n ≤ i
      · obtain ⟨e1, e2, e3⟩ := lb_no (d := d) (l := l) (n := n) (i := i) (by unfold lbOk; rw [decide_eq_false (fun x => by omega), Bool.and_false])
        rw [e1, e2, e3]
        exact lbox_bad d l n i (.inr (.inr ⟨h, by omega, h2⟩))
      · obtain ⟨u, m, rfl, rfl, g1, g2, g3, g4, g5, g6⟩ := lv_in h
        obtain ⟨j, rfl⟩ := Int.eq_ofNat_of_zero_le (show 0 ≤ i by omega)
        rw [Int.toNat_natCast] at h2
        have hp : ((2 ^ u : Nat) : Int) = (2 : Int) ^ u := by simp
        exact lbox_in d u m j h g1 g2 (by omega)
end
end Go.Proofs.Ytplpgneckfmjpaa.Lc18
