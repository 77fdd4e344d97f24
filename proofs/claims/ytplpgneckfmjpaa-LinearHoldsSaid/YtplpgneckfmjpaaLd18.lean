/- Layer 18: the cell of a chain, its box, the chain of a point (the document's). -/
import Derived.Test.YtplpgneckfmjpaaLc18
namespace Go.Proofs.Ytplpgneckfmjpaa.Ld18
open Go.RowKit Go.Proofs.Ytplpgneckfmjpaa.Pk08 Go.Proofs.Ytplpgneckfmjpaa.Base Go.Proofs.Ytplpgneckfmjpaa.App Go.Proofs.Ytplpgneckfmjpaa.Ky Go.Proofs.Ytplpgneckfmjpaa.Bx Go.Proofs.Ytplpgneckfmjpaa.Kk Go.Proofs.Ytplpgneckfmjpaa.Bo Go.Proofs.Ytplpgneckfmjpaa.Kc08 Go.Proofs.Ytplpgneckfmjpaa.Kj08 Go.Proofs.Ytplpgneckfmjpaa.Px16 Go.Proofs.Ytplpgneckfmjpaa.Py16 Go.Proofs.Ytplpgneckfmjpaa.Pz18 Go.Proofs.Ytplpgneckfmjpaa.Hd16 Go.Proofs.Ytplpgneckfmjpaa.Hg16 Go.Proofs.Ytplpgneckfmjpaa.Lz18 Go.Proofs.Ytplpgneckfmjpaa.La18 Go.Proofs.Ytplpgneckfmjpaa.Lb18 Go.Proofs.Ytplpgneckfmjpaa.Lc18
set_option linter.unusedVariables false
set_option linter.unusedSimpArgs false
section
variable {w : World}
set_option maxHeartbeats 1600000 in
theorem cell_any (u m i : Nat) (hu : u ≤ 10) (hm : m < 2 ^ u) (hi : i < 2 ^ u + m) :
    Calls Try.prog 29 #[.int .i64 (u : Int), .int .i64 (m : Int), .int .i64 (i : Int)] w fun e w' => e = .returned (.tuple #[.int .i64 ((cD u m i : Nat) : Int), .int .i64 ((cA u m i : Nat) : Int)]) ∧ w = w' := by
  obtain ⟨p1, p2⟩ := two_le u (by omega)
  have hw : wrap64 ((2 : Int) ^ u) = 2 ^ u := IntWalk.wrap64_in _ (by omega)
  have Hp := Lib.hid (show ((2 ^ u : Nat) : Int) = (2 : Int) ^ u by simp)
  have hu2 := Nat.pow_le_pow_right (show 0 < 2 by decide) hu
  have hu3 : (2 : Nat) ^ 10 = 1024 := rfl
  have hi2 : i < 2048 := by omega
  have hm2 : m < 1024 := by omega
  have Hi := Lib.hid hi
  have Hm := Lib.hid hm
  have H10 := Lib.hid (show 2 ^ u ≤ 1024 by omega)
  clear hi hm hu2 hu3
  go_enter Try.func29, Try.ntmps29
  go_wp2
  go_loop [8, 9] (fun v a => ∃ b q : Nat, a = .int .i64 b ∧ v = .int .i64 q ∧ Hid (b ≤ 2 ^ u ∧ q = b + min b m ∧ q ≤ i)) (fun _ a => 2 ^ u - (intOf a).toNat)
  case atStart => exact ⟨0, 0, rfl, rfl, Lib.hid ⟨Nat.zero_le _, by simp, Nat.zero_le _⟩⟩
  case round =>
    obtain ⟨b, q, rfl, rfl, H⟩ := hrel
    have hlt : b < 2 ^ u := by
      obtain ⟨h1, h2, h3⟩ := H.out
      have h4 := Hi.out
      have h5 := Hm.out
      omega
    have hlt2 : (b : Int) < 2 ^ u := by have := Hp.out; omega
    have hb : b < 1024 := by have := H10.out; omega
    have Hlt := Lib.hid hlt
    clear hlt
    have hq : q < 2048 := by have := H.out.2.2; omega
    by_cases hbm : b < m
    · have Hq := Lib.hid (show q = 2 * b by have := H.out.2.1; omega)
      by_cases h1 : i = q
      · have E1 := Lib.hid (show cD u m i = u + 1 by unfold cD; rw [if_pos (by have := Hq.out; omega)])
        have E2 := Lib.hid (show cA u m i = i by unfold cA; rw [if_pos (by have := Hq.out; omega)])
        have E3 := Lib.hid (show (2 * (b : Int) + (i : Int) - (q : Int)) = (i : Int) by have := Hq.out; omega)
        have hb1 : ((i : Int) == (q : Int)) = true := beq_iff_eq.2 (by omega)
        have hb2 : (i == q) = true := beq_iff_eq.2 h1
        clear h1
        go_wp2
        go_ret2
        exact ⟨by rw [E1.out, E2.out, E3.out]; rfl, rfl⟩
      · have hb1 : ((i : Int) == (q : Int)) = false := beq_eq_false_iff_ne.2 (by omega)
        have hb2 : (i == q) = false := beq_eq_false_iff_ne.2 h1
        by_cases h2 : i = q + 1
        · have E1 := Lib.hid (show cD u m i = u + 1 by unfold cD; rw [if_pos (by have := Hq.out; omega)])
          have E2 := Lib.hid (show cA u m i = i by unfold cA; rw [if_pos (by have := Hq.out; omega)])
          have E3 := Lib.hid (show (2 * (b : Int) + (i : Int) - (q : Int)) = (i : Int) by have := Hq.out; omega)
          have hb3 : ((i : Int) == (q : Int) + 1) = true := beq_iff_eq.2 (by omega)
          clear h1 h2
          go_wp2
          go_ret2
          exact ⟨by rw [E1.out, E2.out, E3.out]; rfl, rfl⟩
        · have hb3 : ((i : Int) == (q : Int) + 1) = false := beq_eq_false_iff_ne.2 (by omega)
          have K := Lib.hid (show b + 1 ≤ 2 ^ u ∧ q + 2 = b + 1 + min (b + 1) m ∧ q + 2 ≤ i by
            have := H.out
            have := Hlt.out
            have := Hq.out
            omega)
          clear h1 h2
          go_wp2
          go_round
          case rel => exact ⟨b + 1, q + 2, by go_num, by go_num, K⟩
          case measure => have := Hlt.out; simp [intOf]; omega
    · have Hq := Lib.hid (show q = b + m by have := H.out.2.1; omega)
      have hge : m ≤ b := by omega
      clear hbm
      by_cases h1 : i = q
      · have E1 := Lib.hid (show cD u m i = u by unfold cD; rw [if_neg (by have := Hq.out; omega)])
        have E2 := Lib.hid (show cA u m i = b by unfold cA; rw [if_neg (by have := Hq.out; omega)]; have := Hq.out; omega)
        have hb1 : ((i : Int) == (q : Int)) = true := beq_iff_eq.2 (by omega)
        have hb2 : (i == q) = true := beq_iff_eq.2 h1
        clear h1
        go_wp2
        go_ret2
        exact ⟨by rw [E1.out, E2.out]; rfl, rfl⟩
      · have hb1 : ((i : Int) == (q : Int)) = false := beq_eq_false_iff_ne.2 (by omega)
        have hb2 : (i == q) = false := beq_eq_false_iff_ne.2 h1
        have K := Lib.hid (show b + 1 ≤ 2 ^ u ∧ q + 1 = b + 1 + min (b + 1) m ∧ q + 1 ≤ i by
          have := H.out
          have := Hlt.out
          have := Hq.out
          omega)
        clear h1
        go_wp2
        go_round
        case rel => exact ⟨b + 1, q + 1, by go_num, by go_num, K⟩
        case measure => have := Hlt.out; simp [intOf]; omega
theorem lb_cases (d l n i : Int) : (lvOk l n = false ∧ lbOk d l n i = false) ∨ (lvOk l n = true ∧ lbOk d l n i = false ∧ (d < 1 ∨ (1 ≤ d ∧ 6 < d) ∨ (1 ≤ d ∧ d ≤ 6 ∧ i < 0) ∨ (1 ≤ d ∧ d ≤ 6 ∧ 0 ≤ i ∧ cnV l n ≤ i))) ∨ (lvOk l n = true ∧ 1 ≤ d ∧ d ≤ 6 ∧ 0 ≤ i ∧ i < cnV l n) := by
  cases h : lvOk l n with
  | false => exact .inl ⟨rfl, by unfold lbOk; rw [h]; rfl⟩
  | true =>
    have e : cnV l n = 2 ^ l.toNat + n := by unfold cnV; rw [if_pos h]
    by_cases h1 : 1 ≤ d ∧ d ≤ 6 ∧ 0 ≤ i ∧ i < 2 ^ l.toNat + n
    · exact .inr (.inr ⟨rfl, h1.1, h1.2.1, h1.2.2.1, by rw [e]; exact h1.2.2.2⟩)
    · refine .inr (.inl ⟨rfl, by unfold lbOk; rw [decide_eq_false h1, Bool.and_false], ?_⟩)
      rw [e]
      generalize 2 ^ l.toNat + n = z at *
      omega
set_option maxHeartbeats 800000 in
theorem rlbox_any (d l n i : Int) :
    Calls Try.prog 15 #[.int .i64 d, .int .i64 l, .int .i64 n, .int .i64 i] w (BoxRet w (lbL d l n i) (lbH d l n i) (.int .i64 (lbE d l n i))) := by
  obtain ⟨q0, q1, q2, q3⟩ := Ob.four (Ob.new w #[.slice none 0 0, .slice none 0 0] 32)
  rcases lb_cases d l n i with ⟨h, ho⟩ | ⟨h, ho, hc⟩ | ⟨h, h1, h2, h3, h4⟩
  · obtain ⟨e1, e2, e3⟩ := lb_no ho
    rw [e1, e2, e3]
    have E := Lib.hid (show cnE l n = 1 by unfold cnE; rw [h]; rfl)
    clear h ho e1 e2 e3
    go_enter Try.func15, Try.ntmps15
    go_wp2_with (go_at_call 11; ((with_reducible refine (rcount_any _ _).mono ?_); rintro e w1 ⟨rfl, rfl⟩; rw [E.out]))
    refine bodyPost_ret (v := .tuple #[.agg #[.slice none 0 0, .slice none 0 0], .int .i64 1]) (by simp [results, Try.results15, go_sem]) rfl ?_
    exact ⟨_, 0, 0, _, 0, 0, rfl, Kv.none_ _, Kv.none_ _, by (repeat (first | with_reducible exact Fr.refl _ _ | with_reducible refine Fr.setCell ?_ (.inr (by first | (simp; done) | (simp; omega))) _ | with_reducible refine Fr.alloc ?_ _ | with_reducible refine Fr.drew ?_ | with_reducible refine Fr.drewN ?_ _ | with_reducible refine Fr.tr ?_ (by assumption)))⟩
  · obtain ⟨e1, e2, e3⟩ := lb_no ho
    rw [e1, e2, e3]
    have E := Lib.hid (show cnE l n = 0 by unfold cnE; rw [if_pos h])
    clear h ho e1 e2 e3
    rcases hc with g1 | ⟨g1, g2⟩ | ⟨g1, g2, g3⟩ | ⟨g1, g2, g3, g4⟩
    all_goals
      go_enter Try.func15, Try.ntmps15
      go_wp2_with (go_at_call 11; ((with_reducible refine (rcount_any _ _).mono ?_); rintro e w1 ⟨rfl, rfl⟩; rw [E.out]))
      refine bodyPost_ret (v := .tuple #[.agg #[.slice none 0 0, .slice none 0 0], .int .i64 1]) (by simp [results, Try.results15, go_sem]) rfl ?_
      exact ⟨_, 0, 0, _, 0, 0, rfl, Kv.none_ _, Kv.none_ _, by (repeat (first | with_reducible exact Fr.refl _ _ | with_reducible refine Fr.setCell ?_ (.inr (by first | (simp; done) | (simp; omega))) _ | with_reducible refine Fr.alloc ?_ _ | with_reducible refine Fr.drew ?_ | with_reducible refine Fr.drewN ?_ _ | with_reducible refine Fr.tr ?_ (by assumption)))⟩
  · obtain ⟨u, m, rfl, rfl, g1, g2, g3, g4, g5, g6⟩ := lv_in h
    obtain ⟨j, rfl⟩ := Int.eq_ofNat_of_zero_le h3
    have hp : ((2 ^ u : Nat) : Int) = (2 : Int) ^ u := by simp
    have e2 : cnV (u : Int) (m : Int) = ((2 ^ u + m : Nat) : Int) := by unfold cnV; rw [if_pos h, Int.toNat_natCast]; simp
    have hj : j < 2 ^ u + m := by rw [e2] at h4; omega
    have e2' : cnV (u : Int) (m : Int) ≤ 2048 := by rw [e2]; have := Nat.pow_le_pow_right (show 0 < 2 by decide) g1; have h3' : (2 : Nat) ^ 10 = 1024 := rfl; omega
    obtain ⟨c1, c2, c3⟩ := lb_cell (d := d) h g1 g2 hj
    rw [c1, c2, c3]
    have E := Lib.hid (show cnE (u : Int) (m : Int) = 0 by unfold cnE; rw [if_pos h])
    have Hu := Lib.hid g1
    have Hm := Lib.hid g2
    have Hj := Lib.hid hj
    clear h hp e2 c1 c2 c3 g1 g2 g3 g4 g5 g6
    go_enter Try.func15, Try.ntmps15
    go_wp2_with (go_at_call 11; ((with_reducible refine (rcount_any _ _).mono ?_); rintro e w1 ⟨rfl, rfl⟩; rw [E.out]))
    go_wp2_with (go_at_call 29; ((with_reducible refine (cell_any u m j Hu.out Hm.out Hj.out).mono ?_); rintro e w1 ⟨rfl, rfl⟩))
    go_wp2_with (go_at_call 32; ((with_reducible refine (rbox_any _ _ _).mono ?_); rintro e w1 ⟨A1, n1, c1, B1, m1, d1, rfl, hl1, hh1, hf1⟩; obtain ⟨z0, z1, z2, z3⟩ := Ob.four (show Ob w1 w.heap.size #[.slice none 0 0, .slice none 0 0] 32 by (repeat (first | with_reducible assumption | with_reducible refine Ob.other ?_ (by first | (simp; done) | (simp; omega)) _ | ((with_reducible refine Ob.new_ _ _ _ _ ?_) <;> (simp; done)) | with_reducible refine Ob.alloc ?_ _ | with_reducible refine Ob.drew ?_ | with_reducible refine Ob.drewN ?_ _ | with_reducible refine Ob.no ?_ (by assumption))))))
    have hO1 : Ob w1 w.heap.size #[.slice none 0 0, .slice none 0 0] 32 := by (repeat (first | with_reducible assumption | with_reducible refine Ob.other ?_ (by first | (simp; done) | (simp; omega)) _ | ((with_reducible refine Ob.new_ _ _ _ _ ?_) <;> (simp; done)) | with_reducible refine Ob.alloc ?_ _ | with_reducible refine Ob.drew ?_ | with_reducible refine Ob.drewN ?_ _ | with_reducible refine Ob.no ?_ (by assumption)))
    have P := Ob.put2 hO1 (.slice A1 n1 c1) (.slice B1 m1 d1)
    obtain ⟨r0, r1⟩ := cells2 P
    refine bodyPost_ret (v := .tuple #[.agg #[.slice A1 n1 c1, .slice B1 m1 d1], .int .i64 (bxE d (cD u m j : Nat) (cA u m j : Nat))]) (by simp [results, Try.results15, go_sem, r0, r1]) rfl ?_
    exact ⟨A1, n1, c1, B1, m1, d1, rfl, Kv.put2 hl1 hO1 _, Kv.put2 hh1 hO1 _, by (repeat (first | with_reducible exact Fr.refl _ _ | with_reducible refine Fr.setCell ?_ (.inr (by first | (simp; done) | (simp; omega))) _ | with_reducible refine Fr.alloc ?_ _ | with_reducible refine Fr.drew ?_ | with_reducible refine Fr.drewN ?_ _ | with_reducible refine Fr.tr ?_ (by assumption)))⟩
section
variable {A : Option Addr} {n c : Nat} {k : List Nat}
set_option maxHeartbeats 1600000 in
theorem rlfind_any (l t : Int) (hk : Kv w A n c k) :
    Calls Try.prog 13 #[.slice A n c, .int .i64 l, .int .i64 t] w fun e w' => e = .returned (.tuple #[.int .i64 (lfV k l t), .int .i64 (lfE k l t)]) ∧ Fr No w w' := by
  have hl := hk.len
  cases h : lvOk l t with
  | false =>
    obtain ⟨e1, e2⟩ := lf_no (k := k) (l := l) (n := t) (by unfold lfOk; rw [h]; rfl)
    rw [e1, e2]
    have E := Lib.hid (show cnE l t = 1 by unfold cnE; rw [h]; rfl)
    clear h e1 e2
    go_enter Try.func13, Try.ntmps13
    go_wp2_with (go_at_call 11; ((with_reducible refine (rcount_any _ _).mono ?_); rintro e w1 ⟨rfl, rfl⟩; rw [E.out]))
    go_ret2
    exact ⟨rfl, Fr.refl _ _⟩
  | true =>
    have E := Lib.hid (show cnE l t = 0 by unfold cnE; rw [if_pos h])
    by_cases hn : 1 ≤ n ∧ n ≤ 6
    · obtain ⟨u, m, rfl, rfl, g1, g2, g3, g4, g5, g6⟩ := lv_in h
      have C := Lib.hid (show chk n (n : Int) = 0 by unfold chk; rw [if_pos ⟨by omega, by omega, rfl⟩])
      have f3 : lfOk k.length u m = true := by unfold lfOk; rw [h, decide_eq_true ⟨by omega, by omega⟩]; rfl
      have e5 : lfV k u m = ((chain k u m : Nat) : Int) := by unfold lfV; rw [if_pos f3, Int.toNat_natCast, Int.toNat_natCast]
      have e6 : lfE k u m = 0 := by unfold lfE; rw [if_pos f3]
      rw [e5, e6]
      have E2 := Lib.hid (show cnV (u : Int) (m : Int) = ((2 ^ u + m : Nat) : Int) by unfold cnV; rw [if_pos h, Int.toNat_natCast]; simp)
      have Hc := Lib.hid (chain_lt k u m g2)
      have Hu := Lib.hid g1
      have Hm := Lib.hid g2
      have Hn := Lib.hid hn
      have Hl := Lib.hid hl
      have H10 := Lib.hid (show 2 ^ u + m ≤ 2048 by omega)
      clear h f3 e5 e6 g1 g2 g3 g4 g5 g6 hn hl
      go_enter Try.func13, Try.ntmps13
      go_wp2_with (first
        | (go_at_call 11; ((with_reducible refine (rcount_any _ _).mono ?_); rintro e w1 ⟨rfl, rfl⟩; rw [E.out]))
        | (go_at_call 28; ((with_reducible refine (rcheck_any _ _ _ _ _).mono ?_); rintro e w1 ⟨rfl, rfl⟩; rw [C.out]))
        | fail)
      go_loopw [10] (fun v wr => ∃ i : Nat, v = .int .i64 i ∧ Hid (i ≤ chain k u m ∧ Fr No w wr)) (fun v _ => 2 ^ u + m - (intOf v).toNat)
      case atStart => exact ⟨0, rfl, Lib.hid ⟨Nat.zero_le _, Fr.refl _ _⟩⟩
      case round =>
        obtain ⟨i, rfl, Hi⟩ := hrel
        have hil : i < 2 ^ u + m := by have := Hi.out.1; have := Hc.out; omega
        have Hil := Lib.hid hil
        have hlt : (i : Int) < cnV u m := by rw [E2.out]; omega
        have hz2 : cnV (u : Int) (m : Int) ≤ 2048 := by rw [E2.out]; have := H10.out; omega
        have kr := hk.no Hi.out.2
        have hd : cD u m i ≤ 12 := by unfold cD; split <;> have := Hu.out <;> omega
        have fo : fdOk k.length ((cD u m i : Nat) : Int) = true := decide_eq_true ⟨by omega, by omega, by have := Hl.out; have := Hn.out; omega, by have := Hl.out; have := Hn.out; omega⟩
        have F1 := Lib.hid (show fdV k ((cD u m i : Nat) : Int) = ((bitsK k (cD u m i) : Nat) : Int) by unfold fdV; rw [if_pos fo, Int.toNat_natCast])
        have Hix := Lib.hid (chain_iff k u m i Hm.out hil)
        clear hil fo
        by_cases hx : bitsK k (cD u m i) = cA u m i
        · have hb1 : (((bitsK k (cD u m i) : Nat) : Int) == ((cA u m i : Nat) : Int)) = true := beq_iff_eq.2 (by omega)
          have hb2 : (bitsK k (cD u m i) == cA u m i) = true := beq_iff_eq.2 hx
          have Hr := Lib.hid (Hix.out.1 hx)
          clear hx
          go_wp2_with (first
            | (go_at_call 29; ((with_reducible refine (cell_any u m i Hu.out Hm.out Hil.out).mono ?_); rintro e w1 ⟨rfl, rfl⟩))
            | (go_at_call 30; ((with_reducible refine (rfind_any (k := k) _ ?_).mono ?_); (iterate 1 (repeat (first | with_reducible assumption | ((with_reducible refine Kv.lit_new _ _ _ _ _ _ ?_ ?_ ?_ ?_) <;> (first | (simp; done) | rfl | decide)) | with_reducible exact Kv.none_ _ | with_reducible refine Kv.alloc ?_ _ | with_reducible refine Kv.drew ?_ | with_reducible refine Kv.drewN ?_ _ | with_reducible refine Kv.no ?_ (by assumption)))); rintro e w2 ⟨rfl, hf2⟩; rw [F1.out]))
            | fail)
          go_ret2
          exact ⟨by rw [← Hr.out]; rfl, by have hq := Hi.out.2; (repeat (first | with_reducible exact Fr.refl _ _ | with_reducible refine Fr.setCell ?_ (.inr (by first | (simp; done) | (simp; omega))) _ | with_reducible refine Fr.alloc ?_ _ | with_reducible refine Fr.drew ?_ | with_reducible refine Fr.drewN ?_ _ | with_reducible refine Fr.tr ?_ (by assumption)))⟩
        · have hb1 : (((bitsK k (cD u m i) : Nat) : Int) == ((cA u m i : Nat) : Int)) = false := beq_eq_false_iff_ne.2 (by omega)
          have hb2 : (bitsK k (cD u m i) == cA u m i) = false := beq_eq_false_iff_ne.2 hx
          have Hr := Lib.hid (fun e => hx (Hix.out.2 e))
          clear hx
          go_wp2_with (first
            | (go_at_call 29; ((with_reducible refine (cell_any u m i Hu.out Hm.out Hil.out).mono ?_); rintro e w1 ⟨rfl, rfl⟩))
            | (go_at_call 30; ((with_reducible refine (rfind_any (k := k) _ ?_).mono ?_); (iterate 1 (repeat (first | with_reducible assumption | ((with_reducible refine Kv.lit_new _ _ _ _ _ _ ?_ ?_ ?_ ?_) <;> (first | (simp; done) | rfl | decide)) | with_reducible exact Kv.none_ _ | with_reducible refine Kv.alloc ?_ _ | with_reducible refine Kv.drew ?_ | with_reducible refine Kv.drewN ?_ _ | with_reducible refine Kv.no ?_ (by assumption)))); rintro e w2 ⟨rfl, hf2⟩; rw [F1.out]))
            | fail)
          go_roundw
          case rel => exact ⟨i + 1, by go_num, Lib.hid ⟨Nat.lt_of_le_of_ne Hi.out.1 Hr.out, by have hq := Hi.out.2; (repeat (first | with_reducible exact Fr.refl _ _ | with_reducible refine Fr.setCell ?_ (.inr (by first | (simp; done) | (simp; omega))) _ | with_reducible refine Fr.alloc ?_ _ | with_reducible refine Fr.drew ?_ | with_reducible refine Fr.drewN ?_ _ | with_reducible refine Fr.tr ?_ (by assumption)))⟩⟩
          case measure => have := Hil.out; simp [intOf]; omega
    · obtain ⟨e1, e2⟩ := lf_no (k := k) (l := l) (n := t) (by unfold lfOk; rw [decide_eq_false (fun x => hn ⟨by omega, by omega⟩)]; simp)
      rw [e1, e2]
      have C := Lib.hid (show chk n (n : Int) = 1 by unfold chk; rw [if_neg (fun x => hn ⟨by omega, by omega⟩)])
      clear h e1 e2 hn hl
      go_enter Try.func13, Try.ntmps13
      go_wp2_with (first
        | (go_at_call 11; ((with_reducible refine (rcount_any _ _).mono ?_); rintro e w1 ⟨rfl, rfl⟩; rw [E.out]))
        | (go_at_call 28; ((with_reducible refine (rcheck_any _ _ _ _ _).mono ?_); rintro e w1 ⟨rfl, rfl⟩; rw [C.out]))
        | fail)
      go_ret2
      exact ⟨rfl, Fr.refl _ _⟩
end
end
end Go.Proofs.Ytplpgneckfmjpaa.Ld18
