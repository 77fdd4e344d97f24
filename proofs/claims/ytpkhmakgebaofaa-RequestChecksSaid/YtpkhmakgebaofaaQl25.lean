/- Layer 25's laws RequestClosed, RequestOne. -/
import Derived.Test.YtpkhmakgebaofaaQh25
namespace Go.Proofs.Ytpkhmakgebaofaa.Ql25
open Go.RowKit Go.Proofs.Ytpkhmakgebaofaa.Pk08 Go.Proofs.Ytpkhmakgebaofaa.Base Go.Proofs.Ytpkhmakgebaofaa.App Go.Proofs.Ytpkhmakgebaofaa.Ty Go.Proofs.Ytpkhmakgebaofaa.Ky Go.Proofs.Ytpkhmakgebaofaa.Iv Go.Proofs.Ytpkhmakgebaofaa.Bx Go.Proofs.Ytpkhmakgebaofaa.Kk Go.Proofs.Ytpkhmakgebaofaa.Rv Go.Proofs.Ytpkhmakgebaofaa.Ra Go.Proofs.Ytpkhmakgebaofaa.Kc08 Go.Proofs.Ytpkhmakgebaofaa.Ke08 Go.Proofs.Ytpkhmakgebaofaa.Kh08 Go.Proofs.Ytpkhmakgebaofaa.Kj08 Go.Proofs.Ytpkhmakgebaofaa.Ka08 Go.Proofs.Ytpkhmakgebaofaa.Cl Go.Proofs.Ytpkhmakgebaofaa.Qb25 Go.Proofs.Ytpkhmakgebaofaa.Qc25 Go.Proofs.Ytpkhmakgebaofaa.Qd25 Go.Proofs.Ytpkhmakgebaofaa.Qe25 Go.Proofs.Ytpkhmakgebaofaa.Qf25 Go.Proofs.Ytpkhmakgebaofaa.Qg25 Go.Proofs.Ytpkhmakgebaofaa.Qh25
set_option linter.unusedVariables false
set_option linter.unusedSimpArgs false
abbrev reqT (E1 E2 E3 E4 E5 E6 : TypeId) : Ty := .cn (.int .i64) (.cn (.sl E1 (.int .u32)) (.cn .str (.cn (.cn (.sl E2 (.int .u32)) (.cn (.sl E3 (.int .u32)) .nl)) (.cn (.sl E4 (.int .i64)) (.cn (.int .i64) (.cn (.sl E5 (recT E6)) .nl))))))
theorem rd_reqL {E1 E2 E3 E4 E5 E6 : TypeId} {w : World} {x : (reqT E1 E2 E3 E4 E5 E6).D} {cs : List Value} (h : Rd (reqT E1 E2 E3 E4 E5 E6) w x cs) :
    ∃ D q d, cs = (#[.int .i64 D, .slice q.K q.kn q.kc, .string q.S, .slice q.A q.an q.ac, .slice q.B q.bn q.bc, .slice q.X q.xn q.xc, .int .i64 q.M, .slice q.R q.rn q.rc] : Array Value).toList ∧ Rq w q d := by
  obtain ⟨c1, c2, rfl, ⟨rfl, _⟩, c3, c4, rfl, h2, c5, c6, rfl, ⟨rfl, hs⟩, c7, c8, rfl, hb, c9, c10, rfl, h5, c11, c12, rfl, ⟨rfl, _⟩, c13, c14, rfl, h7, h8⟩ := h
  have h8' : c14 = [] := h8
  subst h8'
  obtain ⟨c15, c16, rfl, hb1, c17, c18, rfl, hb2, hb3⟩ := hb
  have hb3' : c18 = [] := hb3
  subst hb3'
  have h2' := h2
  have hb1' := hb1
  have hb2' := hb2
  have h5' := h5
  have h7' := h7
  obtain ⟨K, kc, rfl, _⟩ := h2'
  obtain ⟨A, ac, rfl, _⟩ := hb1'
  obtain ⟨B, bc, rfl, _⟩ := hb2'
  obtain ⟨X, xc, rfl, _⟩ := h5'
  obtain ⟨R, rc, rfl, _⟩ := h7'
  obtain ⟨rs, hr⟩ := Rv.of_rd h7
  exact ⟨_, ⟨0, K, _, kc, _, A, _, ac, B, _, bc, X, _, xc, _, R, _, rc⟩, ⟨_, _, _, _, rs⟩, rfl, Kv.of_rd h2, hs, Kv.of_rd hb1, Kv.of_rd hb2, Iv.of_rd h5, hr⟩
theorem rd_req {E1 E2 E3 E4 E5 E6 : TypeId} {w : World} {x : (reqT E1 E2 E3 E4 E5 E6).D} {cs : Array Value} (h : Rd (reqT E1 E2 E3 E4 E5 E6) w x cs.toList) :
    ∃ D q d, cs = #[.int .i64 D, .slice q.K q.kn q.kc, .string q.S, .slice q.A q.an q.ac, .slice q.B q.bn q.bc, .slice q.X q.xn q.xc, .int .i64 q.M, .slice q.R q.rn q.rc] ∧ Rq w q d := by
  obtain ⟨D, q, d, hc, hq⟩ := rd_reqL h
  refine ⟨D, q, d, ?_, hq⟩
  rw [← Array.toArray_toList (xs := cs), hc]
theorem okD_ins {D : Int} {q : RqC} {d : RqD} {m : Int} (h9 : D ≠ 9) (h10 : D ≠ 10) (h11 : D ≠ 11) : okD D q d m true = okD D q d m false := by
  unfold okD
  rw [if_neg h9, if_neg h9, if_neg (show ¬ (D = 10 ∨ D = 11) from fun x => x.elim h10 h11), if_neg (show ¬ (D = 10 ∨ D = 11) from fun x => x.elim h10 h11)]
theorem chkR_ins {D : Int} {q : RqC} {d : RqD} {m : Int} (h9 : D ≠ 9) (h10 : D ≠ 10) (h11 : D ≠ 11) : chkR D q d m true true = chkR D q d m true false := by
  unfold chkR
  rw [okD_ins h9 h10 h11]
theorem chk_m {n : Nat} {m : Int} (h : chk n m = 0) : (n : Int) = m := by
  unfold chk at h
  split at h
  · next hx => exact hx.2.2
  · cases h
theorem one_dim {D : Int} {q : RqC} {d : RqD} {a b : Int} (h1 : 1 ≤ D) (h7 : D ≤ 7) (h5 : D ≠ 5) (ha : chkR D q d a true false = 0) (hb : chkR D q d b true false = 0) : a = b := by
  have ka := (chkR_zero ha).2.2.2
  have kb := (chkR_zero hb).2.2.2
  have hD : D = 1 ∨ D = 2 ∨ D = 3 ∨ D = 4 ∨ D = 6 ∨ D = 7 := by omega
  rcases hD with rfl | rfl | rfl | rfl | rfl | rfl
  · have xa : recC q.kn q.S a = 0 := beq_iff_eq.1 (show (recC q.kn q.S a == 0) = true from ka)
    have xb : recC q.kn q.S b = 0 := beq_iff_eq.1 (show (recC q.kn q.S b == 0) = true from kb)
    unfold recC at xa xb
    split at xa
    · next hx =>
      rw [if_pos hx] at xb
      have := chk_m xa
      have := chk_m xb
      omega
    · cases xa
  · have xa := chk_m (beq_iff_eq.1 (show (chk q.kn a == 0) = true from ka))
    have xb := chk_m (beq_iff_eq.1 (show (chk q.kn b == 0) = true from kb))
    omega
  · have xa := chk_m (beq_iff_eq.1 (show (chk q.kn a == 0) = true from ka))
    have xb := chk_m (beq_iff_eq.1 (show (chk q.kn b == 0) = true from kb))
    omega
  · have xa := Go.Proofs.Ytpkhmakgebaofaa.Pl08.chkB_zero.1 (beq_iff_eq.1 (show (chkB d.lo d.hi a == 0) = true from ka))
    have xb := Go.Proofs.Ytpkhmakgebaofaa.Pl08.chkB_zero.1 (beq_iff_eq.1 (show (chkB d.lo d.hi b == 0) = true from kb))
    omega
  · have xa := Go.Proofs.Ytpkhmakgebaofaa.Pl08.chkB_zero.1 (beq_iff_eq.1 (show (chkB d.lo d.hi a == 0) = true from ka))
    have xb := Go.Proofs.Ytpkhmakgebaofaa.Pl08.chkB_zero.1 (beq_iff_eq.1 (show (chkB d.lo d.hi b == 0) = true from kb))
    omega
  · have ya : (decide (0 ≤ q.M) && (decide (q.M ≤ 1000) && (chk q.kn a == 0))) = true := ka
    have yb : (decide (0 ≤ q.M) && (decide (q.M ≤ 1000) && (chk q.kn b == 0))) = true := kb
    simp only [Bool.and_eq_true, decide_eq_true_eq, beq_iff_eq] at ya yb
    have := chk_m ya.2.2
    have := chk_m yb.2.2
    omega
set_option maxHeartbeats 3200000 in
theorem law_one {E1 E2 E3 E4 E5 E6 : TypeId} (w : World) (cs : Array Value) (x : (reqT E1 E2 E3 E4 E5 E6).D) (h : Rd (reqT E1 E2 E3 E4 E5 E6) w x cs.toList) (a : Int) (ha : (Lit.int .i64 a).wf = true) (b : Int) (hb : (Lit.int .i64 b).wf = true) :
    Calls Try.prog 5 #[.agg cs, .int .i64 a, .int .i64 b] w fun e w' => e = .returned (.bool true) ∧ Fr No w w' := by
  obtain ⟨D, q, d, rfl, hq⟩ := rd_req h
  clear h ha hb x
  cases hs0 : smallB q d with
  | false =>
    have hs := Lib.hid hs0
    clear hs0
    go_enter Try.func5, Try.ntmps5
    go_wp2_with (first
      | (go_at_call 6; ((with_reducible refine (small_any (q := q) (d := d) (D := D) ?_).mono ?_); (repeat (first | with_reducible assumption | with_reducible refine Rq.alloc ?_ _ | with_reducible refine Rq.drew ?_ | with_reducible refine Rq.drewN ?_ _ | with_reducible refine Rq.no ?_ (by assumption))); rintro e ws ⟨rfl, hfs⟩; rw [hs.out]; obtain ⟨y0, y1, y2, y3, y4, y5, y6, y7⟩ := eight (show Ob ws w.heap.size #[.int .i64 D, .slice q.K q.kn q.kc, .string q.S, .slice q.A q.an q.ac, .slice q.B q.bn q.bc, .slice q.X q.xn q.xc, .int .i64 q.M, .slice q.R q.rn q.rc] 29 by (repeat (first | with_reducible assumption | with_reducible refine Ob.other ?_ (by first | (simp; done) | (simp; omega)) _ | ((with_reducible refine Ob.new_ _ _ _ _ ?_) <;> (simp; done)) | with_reducible refine Ob.alloc ?_ _ | with_reducible refine Ob.drew ?_ | with_reducible refine Ob.drewN ?_ _ | with_reducible refine Ob.no ?_ (by assumption))))))
      | (go_at_call 7; ((with_reducible refine (live _).mono ?_); rintro e wl ⟨rfl, hfl⟩)))
    go_ret
    refine ⟨rfl, ?_⟩
    (repeat (first | with_reducible exact Fr.refl _ _ | with_reducible refine Fr.setCell ?_ (.inr (by first | (simp; done) | (simp; omega))) _ | with_reducible refine Fr.alloc ?_ _ | with_reducible refine Fr.drew ?_ | with_reducible refine Fr.drewN ?_ _ | with_reducible refine Fr.tr ?_ (by assumption)))
  | true =>
    have hs := Lib.hid hs0
    clear hs0
    by_cases hg : a = b ∨ D < 1 ∨ 7 < D ∨ D = 5
    · have hg' : (a == b) = true ∨ ((a == b) = false ∧ D < 1) ∨ ((a == b) = false ∧ 1 ≤ D ∧ 7 < D) ∨ ((a == b) = false ∧ 1 ≤ D ∧ D ≤ 7 ∧ (D == 5) = true) := by
        by_cases e1 : a = b
        · exact .inl (beq_iff_eq.2 e1)
        · have e1' : (a == b) = false := beq_eq_false_iff_ne.2 e1
          by_cases e2 : D < 1
          · exact .inr (.inl ⟨e1', e2⟩)
          · by_cases e3 : 7 < D
            · exact .inr (.inr (.inl ⟨e1', by omega, e3⟩))
            · exact .inr (.inr (.inr ⟨e1', by omega, by omega, beq_iff_eq.2 (by omega)⟩))
      clear hg
      rcases hg' with e1 | ⟨e1, e2⟩ | ⟨e1, e2, e3⟩ | ⟨e1, e2, e3, e4⟩
      all_goals
        go_enter Try.func5, Try.ntmps5
        go_wp2_with (first
          | (go_at_call 6; ((with_reducible refine (small_any (q := q) (d := d) (D := D) ?_).mono ?_); (repeat (first | with_reducible assumption | with_reducible refine Rq.alloc ?_ _ | with_reducible refine Rq.drew ?_ | with_reducible refine Rq.drewN ?_ _ | with_reducible refine Rq.no ?_ (by assumption))); rintro e ws ⟨rfl, hfs⟩; rw [hs.out]; obtain ⟨y0, y1, y2, y3, y4, y5, y6, y7⟩ := eight (show Ob ws w.heap.size #[.int .i64 D, .slice q.K q.kn q.kc, .string q.S, .slice q.A q.an q.ac, .slice q.B q.bn q.bc, .slice q.X q.xn q.xc, .int .i64 q.M, .slice q.R q.rn q.rc] 29 by (repeat (first | with_reducible assumption | with_reducible refine Ob.other ?_ (by first | (simp; done) | (simp; omega)) _ | ((with_reducible refine Ob.new_ _ _ _ _ ?_) <;> (simp; done)) | with_reducible refine Ob.alloc ?_ _ | with_reducible refine Ob.drew ?_ | with_reducible refine Ob.drewN ?_ _ | with_reducible refine Ob.no ?_ (by assumption))))))
          | (go_at_call 7; ((with_reducible refine (live _).mono ?_); rintro e wl ⟨rfl, hfl⟩)))
        go_ret
        refine ⟨rfl, ?_⟩
        (repeat (first | with_reducible exact Fr.refl _ _ | with_reducible refine Fr.setCell ?_ (.inr (by first | (simp; done) | (simp; omega))) _ | with_reducible refine Fr.alloc ?_ _ | with_reducible refine Fr.drew ?_ | with_reducible refine Fr.drewN ?_ _ | with_reducible refine Fr.tr ?_ (by assumption)))
    · have e1 : (a == b) = false := beq_eq_false_iff_ne.2 (fun x => hg (.inl x))
      have e2 : 1 ≤ D := Int.not_lt.1 (fun x => hg (.inr (.inl (by omega))))
      have e3 : D ≤ 7 := Int.not_lt.1 (fun x => hg (.inr (.inr (.inl (by omega)))))
      have e4 : (D == 5) = false := beq_eq_false_iff_ne.2 (fun x => hg (.inr (.inr (.inr x))))
      have hor : chkR D q d a true false = 1 ∨ (chkR D q d a true false = 0 ∧ chkR D q d b true false = 1) := by
        rcases chkR_rng D q d a true false with ca | ca
        · rcases chkR_rng D q d b true false with cb | cb
          · exact absurd (one_dim e2 e3 (by simpa using e4) ca cb) (fun x => hg (.inl x))
          · exact .inr ⟨ca, cb⟩
        · exact .inl ca
      clear hg
      rcases hor with ca | ⟨ca, cb⟩
      · have Ca := Lib.hid ca
        clear ca
        go_enter Try.func5, Try.ntmps5
        go_wp2_with (go_at_call 6; ((with_reducible refine (small_any (q := q) (d := d) (D := D) ?_).mono ?_); (repeat (first | with_reducible assumption | with_reducible refine Rq.alloc ?_ _ | with_reducible refine Rq.drew ?_ | with_reducible refine Rq.drewN ?_ _ | with_reducible refine Rq.no ?_ (by assumption))); rintro e ws ⟨rfl, hfs⟩; rw [hs.out]; obtain ⟨y0, y1, y2, y3, y4, y5, y6, y7⟩ := eight (show Ob ws w.heap.size #[.int .i64 D, .slice q.K q.kn q.kc, .string q.S, .slice q.A q.an q.ac, .slice q.B q.bn q.bc, .slice q.X q.xn q.xc, .int .i64 q.M, .slice q.R q.rn q.rc] 29 by (repeat (first | with_reducible assumption | with_reducible refine Ob.other ?_ (by first | (simp; done) | (simp; omega)) _ | ((with_reducible refine Ob.new_ _ _ _ _ ?_) <;> (simp; done)) | with_reducible refine Ob.alloc ?_ _ | with_reducible refine Ob.drew ?_ | with_reducible refine Ob.drewN ?_ _ | with_reducible refine Ob.no ?_ (by assumption))))))
        go_wp2_with (go_at_call 9; ((with_reducible refine (own_any (q := q) (D := D)).mono ?_); rintro e w1 ⟨rfl, hf1⟩; skip))
        go_wp2_with (go_at_call 11; ((with_reducible refine (rqcheck_any (q := q) (d := d) (D := D) ?_ _ _ _).mono ?_); (repeat (first | with_reducible assumption | with_reducible refine Rq.alloc ?_ _ | with_reducible refine Rq.drew ?_ | with_reducible refine Rq.drewN ?_ _ | with_reducible refine Rq.no ?_ (by assumption))); rintro e w2 ⟨rfl, hf2⟩; rw [Ca.out]))
        go_wp2_with (go_at_call 7; ((with_reducible refine (live _).mono ?_); rintro e wl ⟨rfl, hfl⟩))
        go_ret
        refine ⟨rfl, ?_⟩
        (repeat (first | with_reducible exact Fr.refl _ _ | with_reducible refine Fr.setCell ?_ (.inr (by first | (simp; done) | (simp; omega))) _ | with_reducible refine Fr.alloc ?_ _ | with_reducible refine Fr.drew ?_ | with_reducible refine Fr.drewN ?_ _ | with_reducible refine Fr.tr ?_ (by assumption)))
      · have Ca := Lib.hid ca
        have Cb := Lib.hid cb
        clear ca cb
        go_enter Try.func5, Try.ntmps5
        go_wp2_with (go_at_call 6; ((with_reducible refine (small_any (q := q) (d := d) (D := D) ?_).mono ?_); (repeat (first | with_reducible assumption | with_reducible refine Rq.alloc ?_ _ | with_reducible refine Rq.drew ?_ | with_reducible refine Rq.drewN ?_ _ | with_reducible refine Rq.no ?_ (by assumption))); rintro e ws ⟨rfl, hfs⟩; rw [hs.out]; obtain ⟨y0, y1, y2, y3, y4, y5, y6, y7⟩ := eight (show Ob ws w.heap.size #[.int .i64 D, .slice q.K q.kn q.kc, .string q.S, .slice q.A q.an q.ac, .slice q.B q.bn q.bc, .slice q.X q.xn q.xc, .int .i64 q.M, .slice q.R q.rn q.rc] 29 by (repeat (first | with_reducible assumption | with_reducible refine Ob.other ?_ (by first | (simp; done) | (simp; omega)) _ | ((with_reducible refine Ob.new_ _ _ _ _ ?_) <;> (simp; done)) | with_reducible refine Ob.alloc ?_ _ | with_reducible refine Ob.drew ?_ | with_reducible refine Ob.drewN ?_ _ | with_reducible refine Ob.no ?_ (by assumption))))))
        go_wp2_with (go_at_call 9; ((with_reducible refine (own_any (q := q) (D := D)).mono ?_); rintro e w1 ⟨rfl, hf1⟩; skip))
        go_wp2_with (go_at_call 11; ((with_reducible refine (rqcheck_any (q := q) (d := d) (D := D) ?_ a _ _).mono ?_); (repeat (first | with_reducible assumption | with_reducible refine Rq.alloc ?_ _ | with_reducible refine Rq.drew ?_ | with_reducible refine Rq.drewN ?_ _ | with_reducible refine Rq.no ?_ (by assumption))); rintro e w2 ⟨rfl, hf2⟩; (rw [Ca.out]; obtain ⟨yw2a, yw2b, yw2c, yw2d, yw2e, yw2f, yw2g, yw2h⟩ := eight (show Ob w2 w.heap.size #[.int .i64 D, .slice q.K q.kn q.kc, .string q.S, .slice q.A q.an q.ac, .slice q.B q.bn q.bc, .slice q.X q.xn q.xc, .int .i64 q.M, .slice q.R q.rn q.rc] 29 by (repeat (first | with_reducible assumption | with_reducible refine Ob.other ?_ (by first | (simp; done) | (simp; omega)) _ | ((with_reducible refine Ob.new_ _ _ _ _ ?_) <;> (simp; done)) | with_reducible refine Ob.alloc ?_ _ | with_reducible refine Ob.drew ?_ | with_reducible refine Ob.drewN ?_ _ | with_reducible refine Ob.no ?_ (by assumption)))))))
        go_wp2_with (go_at_call 9; ((with_reducible refine (own_any (q := q) (D := D)).mono ?_); rintro e w3 ⟨rfl, hf3⟩; skip))
        go_wp2_with (go_at_call 11; ((with_reducible refine (rqcheck_any (q := q) (d := d) (D := D) ?_ b _ _).mono ?_); (repeat (first | with_reducible assumption | with_reducible refine Rq.alloc ?_ _ | with_reducible refine Rq.drew ?_ | with_reducible refine Rq.drewN ?_ _ | with_reducible refine Rq.no ?_ (by assumption))); rintro e w4 ⟨rfl, hf4⟩; rw [Cb.out]))
        go_wp2_with (go_at_call 7; ((with_reducible refine (live _).mono ?_); rintro e wl ⟨rfl, hfl⟩))
        go_ret
        refine ⟨rfl, ?_⟩
        (repeat (first | with_reducible exact Fr.refl _ _ | with_reducible refine Fr.setCell ?_ (.inr (by first | (simp; done) | (simp; omega))) _ | with_reducible refine Fr.alloc ?_ _ | with_reducible refine Fr.drew ?_ | with_reducible refine Fr.drewN ?_ _ | with_reducible refine Fr.tr ?_ (by assumption)))
end Go.Proofs.Ytpkhmakgebaofaa.Ql25
