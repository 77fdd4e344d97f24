/- Layer 25's law RequestClosed. -/
import Derived.Test.YtpkhmakgebaofaaQl25
import Derived.BigRegion
namespace Go.Proofs.Ytpkhmakgebaofaa.Qm25
open Go.RowKit Go.Proofs.Ytpkhmakgebaofaa.Pk08 Go.Proofs.Ytpkhmakgebaofaa.Base Go.Proofs.Ytpkhmakgebaofaa.App Go.Proofs.Ytpkhmakgebaofaa.Ty Go.Proofs.Ytpkhmakgebaofaa.Ky Go.Proofs.Ytpkhmakgebaofaa.Iv Go.Proofs.Ytpkhmakgebaofaa.Bx Go.Proofs.Ytpkhmakgebaofaa.Kk Go.Proofs.Ytpkhmakgebaofaa.Rv Go.Proofs.Ytpkhmakgebaofaa.Ra Go.Proofs.Ytpkhmakgebaofaa.Kc08 Go.Proofs.Ytpkhmakgebaofaa.Ke08 Go.Proofs.Ytpkhmakgebaofaa.Kh08 Go.Proofs.Ytpkhmakgebaofaa.Kj08 Go.Proofs.Ytpkhmakgebaofaa.Ka08 Go.Proofs.Ytpkhmakgebaofaa.Cl Go.Proofs.Ytpkhmakgebaofaa.Qb25 Go.Proofs.Ytpkhmakgebaofaa.Qc25 Go.Proofs.Ytpkhmakgebaofaa.Qd25 Go.Proofs.Ytpkhmakgebaofaa.Qe25 Go.Proofs.Ytpkhmakgebaofaa.Qf25 Go.Proofs.Ytpkhmakgebaofaa.Qg25 Go.Proofs.Ytpkhmakgebaofaa.Qh25 Go.Proofs.Ytpkhmakgebaofaa.Ql25
set_option linter.unusedVariables false
set_option linter.unusedSimpArgs false
attribute [local irreducible] chkR
theorem chk_closed {D : Int} {q : RqC} {d : RqD} {m : Int} {ins : Bool} : chkR D q d m false ins = 1 := chkR_no (fun x => by cases x.1)
theorem chk_in {D : Int} {q : RqC} {d : RqD} {m : Int} (h : 1 ≤ m ∧ m ≤ 6) : (D = 9 → chkR D q d m true true = 1 ∧ chkR D q d m true false = 0) ∧ (D = 10 ∨ D = 11 → chkR D q d m true true = 0 ∧ chkR D q d m true false = 1) := by
  constructor
  · rintro rfl
    exact ⟨by rw [chkR_b h.1 h.2 (b := false) rfl]; rfl, by rw [chkR_b h.1 h.2 (b := true) rfl]; rfl⟩
  · rintro (rfl | rfl)
    · exact ⟨by rw [chkR_b h.1 h.2 (b := true) rfl]; rfl, by rw [chkR_b h.1 h.2 (b := false) rfl]; rfl⟩
    · exact ⟨by rw [chkR_b h.1 h.2 (b := true) rfl]; rfl, by rw [chkR_b h.1 h.2 (b := false) rfl]; rfl⟩
theorem chk_out {D : Int} {q : RqC} {d : RqD} {m : Int} {op ins : Bool} (h : ¬ (1 ≤ m ∧ m ≤ 6)) : chkR D q d m op ins = 1 := chkR_no (fun x => h ⟨x.2.1, x.2.2.1⟩)
set_option maxHeartbeats 3200000 in
theorem law_closed {E1 E2 E3 E4 E5 E6 : TypeId} (w : World) (cs : Array Value) (x : (reqT E1 E2 E3 E4 E5 E6).D) (h : Rd (reqT E1 E2 E3 E4 E5 E6) w x cs.toList) (m : Int) (hm : (Lit.int .i64 m).wf = true) (ins : Bool) :
    Calls Try.prog 4 #[.agg cs, .int .i64 m, .bool ins] w fun e w' => e = .returned (.bool true) ∧ Fr No w w' := by
  obtain ⟨D, q, d, rfl, hq⟩ := rd_req h
  clear h hm x
  cases hs0 : smallB q d with
  | false =>
    have hs := Lib.hid hs0
    clear hs0
    go_enter Try.func4, Try.ntmps4
    go_wp2_with (first
      | (go_at_call 6; ((with_reducible refine (small_any (q := q) (d := d) (D := D) ?_).mono ?_); (repeat (first | with_reducible assumption | with_reducible refine Rq.alloc ?_ _ | with_reducible refine Rq.drew ?_ | with_reducible refine Rq.drewN ?_ _ | with_reducible refine Rq.no ?_ (by assumption))); rintro e ws ⟨rfl, hfs⟩; rw [hs.out]; obtain ⟨y0, y1, y2, y3, y4, y5, y6, y7⟩ := eight (show Ob ws w.heap.size #[.int .i64 D, .slice q.K q.kn q.kc, .string q.S, .slice q.A q.an q.ac, .slice q.B q.bn q.bc, .slice q.X q.xn q.xc, .int .i64 q.M, .slice q.R q.rn q.rc] 29 by (repeat (first | with_reducible assumption | with_reducible refine Ob.other ?_ (by first | (simp; done) | (simp; omega)) _ | ((with_reducible refine Ob.new_ _ _ _ _ ?_) <;> (simp; done)) | with_reducible refine Ob.alloc ?_ _ | with_reducible refine Ob.drew ?_ | with_reducible refine Ob.drewN ?_ _ | with_reducible refine Ob.no ?_ (by assumption))))))
      | (go_at_call 7; ((with_reducible refine (live _).mono ?_); rintro e wl ⟨rfl, hfl⟩)))
    go_ret
    refine ⟨rfl, ?_⟩
    (repeat (first | with_reducible exact Fr.refl _ _ | with_reducible refine Fr.setCell ?_ (.inr (by first | (simp; done) | (simp; omega))) _ | with_reducible refine Fr.alloc ?_ _ | with_reducible refine Fr.drew ?_ | with_reducible refine Fr.drewN ?_ _ | with_reducible refine Fr.tr ?_ (by assumption)))
  | true =>
    have hs := Lib.hid hs0
    clear hs0
    have Hcl := Lib.hid (chk_closed (D := D) (q := q) (d := d) (m := m) (ins := ins))
    by_cases h9 : D = 9 ∨ D = 10 ∨ D = 11
    · have hD : (D == 9) = true ∨ ((D == 9) = false ∧ (D == 10) = true) ∨ ((D == 9) = false ∧ (D == 10) = false ∧ (D == 11) = true) := by
        rcases h9 with rfl | rfl | rfl <;> decide
      have hv : ∃ a b : Int, Hid (chkR D q d m true true = a) ∧ Hid (chkR D q d m true false = b) ∧ ((1 ≤ m ∧ m ≤ 6 ∧ ((a = 1 ∧ b = 0) ∨ (a = 0 ∧ b = 1))) ∨ ((m < 1 ∨ (1 ≤ m ∧ decide (m ≤ 6) = false)) ∧ a = 1 ∧ b = 1)) := by
        by_cases hr : 1 ≤ m ∧ m ≤ 6
        · rcases h9 with h9 | h9
          · obtain ⟨u, v⟩ := (chk_in (D := D) (q := q) (d := d) hr).1 h9
            exact ⟨1, 0, Lib.hid u, Lib.hid v, .inl ⟨hr.1, hr.2, .inl ⟨rfl, rfl⟩⟩⟩
          · obtain ⟨u, v⟩ := (chk_in (D := D) (q := q) (d := d) hr).2 h9
            exact ⟨0, 1, Lib.hid u, Lib.hid v, .inl ⟨hr.1, hr.2, .inr ⟨rfl, rfl⟩⟩⟩
        · exact ⟨1, 1, Lib.hid (chk_out hr), Lib.hid (chk_out hr), (by
            by_cases h1 : m < 1
            · exact .inr ⟨.inl h1, rfl, rfl⟩
            · exact .inr ⟨.inr ⟨by omega, decide_eq_false (by omega)⟩, rfl, rfl⟩)⟩
      clear h9
      obtain ⟨a, b, Ha, Hb, hv⟩ := hv
      rcases hD with d1 | ⟨d1, d2⟩ | ⟨d1, d2, d3⟩ <;> rcases hv with ⟨m1, m2, ⟨rfl, rfl⟩ | ⟨rfl, rfl⟩⟩ | ⟨m1 | ⟨m1, m2⟩, rfl, rfl⟩
      all_goals
        go_enter Try.func4, Try.ntmps4
        go_wp2_with (go_at_call 6; ((with_reducible refine (small_any (q := q) (d := d) (D := D) ?_).mono ?_); (repeat (first | with_reducible assumption | with_reducible refine Rq.alloc ?_ _ | with_reducible refine Rq.drew ?_ | with_reducible refine Rq.drewN ?_ _ | with_reducible refine Rq.no ?_ (by assumption))); rintro e ws ⟨rfl, hfs⟩; rw [hs.out]; obtain ⟨y0, y1, y2, y3, y4, y5, y6, y7⟩ := eight (show Ob ws w.heap.size #[.int .i64 D, .slice q.K q.kn q.kc, .string q.S, .slice q.A q.an q.ac, .slice q.B q.bn q.bc, .slice q.X q.xn q.xc, .int .i64 q.M, .slice q.R q.rn q.rc] 29 by (repeat (first | with_reducible assumption | with_reducible refine Ob.other ?_ (by first | (simp; done) | (simp; omega)) _ | ((with_reducible refine Ob.new_ _ _ _ _ ?_) <;> (simp; done)) | with_reducible refine Ob.alloc ?_ _ | with_reducible refine Ob.drew ?_ | with_reducible refine Ob.drewN ?_ _ | with_reducible refine Ob.no ?_ (by assumption))))))
        go_wp2_with (go_at_call 9; ((with_reducible refine (own_any (q := q) (D := D)).mono ?_); rintro e w1 ⟨rfl, hf1⟩; skip))
        go_wp2_with (go_at_call 11; ((with_reducible refine (rqcheck_any (q := q) (d := d) (D := D) ?_ _ _ _).mono ?_); (repeat (first | with_reducible assumption | with_reducible refine Rq.alloc ?_ _ | with_reducible refine Rq.drew ?_ | with_reducible refine Rq.drewN ?_ _ | with_reducible refine Rq.no ?_ (by assumption))); rintro e w2 ⟨rfl, hf2⟩; (rw [Ha.out]; obtain ⟨yw2a, yw2b, yw2c, yw2d, yw2e, yw2f, yw2g, yw2h⟩ := eight (show Ob w2 w.heap.size #[.int .i64 D, .slice q.K q.kn q.kc, .string q.S, .slice q.A q.an q.ac, .slice q.B q.bn q.bc, .slice q.X q.xn q.xc, .int .i64 q.M, .slice q.R q.rn q.rc] 29 by (repeat (first | with_reducible assumption | with_reducible refine Ob.other ?_ (by first | (simp; done) | (simp; omega)) _ | ((with_reducible refine Ob.new_ _ _ _ _ ?_) <;> (simp; done)) | with_reducible refine Ob.alloc ?_ _ | with_reducible refine Ob.drew ?_ | with_reducible refine Ob.drewN ?_ _ | with_reducible refine Ob.no ?_ (by assumption)))))))
        go_wp2_with (go_at_call 9; ((with_reducible refine (own_any (q := q) (D := D)).mono ?_); rintro e w3 ⟨rfl, hf3⟩; skip))
        go_wp2_with (go_at_call 11; ((with_reducible refine (rqcheck_any (q := q) (d := d) (D := D) ?_ _ _ _).mono ?_); (repeat (first | with_reducible assumption | with_reducible refine Rq.alloc ?_ _ | with_reducible refine Rq.drew ?_ | with_reducible refine Rq.drewN ?_ _ | with_reducible refine Rq.no ?_ (by assumption))); rintro e w4 ⟨rfl, hf4⟩; (rw [Hb.out]; obtain ⟨yw4a, yw4b, yw4c, yw4d, yw4e, yw4f, yw4g, yw4h⟩ := eight (show Ob w4 w.heap.size #[.int .i64 D, .slice q.K q.kn q.kc, .string q.S, .slice q.A q.an q.ac, .slice q.B q.bn q.bc, .slice q.X q.xn q.xc, .int .i64 q.M, .slice q.R q.rn q.rc] 29 by (repeat (first | with_reducible assumption | with_reducible refine Ob.other ?_ (by first | (simp; done) | (simp; omega)) _ | ((with_reducible refine Ob.new_ _ _ _ _ ?_) <;> (simp; done)) | with_reducible refine Ob.alloc ?_ _ | with_reducible refine Ob.drew ?_ | with_reducible refine Ob.drewN ?_ _ | with_reducible refine Ob.no ?_ (by assumption)))))))
        go_wp2_with (go_at_call 9; ((with_reducible refine (own_any (q := q) (D := D)).mono ?_); rintro e w5 ⟨rfl, hf5⟩; skip))
        go_wp2_with (go_at_call 11; ((with_reducible refine (rqcheck_any (q := q) (d := d) (D := D) ?_ _ _ _).mono ?_); (repeat (first | with_reducible assumption | with_reducible refine Rq.alloc ?_ _ | with_reducible refine Rq.drew ?_ | with_reducible refine Rq.drewN ?_ _ | with_reducible refine Rq.no ?_ (by assumption))); rintro e w6 ⟨rfl, hf6⟩; (rw [Hcl.out]; obtain ⟨yw6a, yw6b, yw6c, yw6d, yw6e, yw6f, yw6g, yw6h⟩ := eight (show Ob w6 w.heap.size #[.int .i64 D, .slice q.K q.kn q.kc, .string q.S, .slice q.A q.an q.ac, .slice q.B q.bn q.bc, .slice q.X q.xn q.xc, .int .i64 q.M, .slice q.R q.rn q.rc] 29 by (repeat (first | with_reducible assumption | with_reducible refine Ob.other ?_ (by first | (simp; done) | (simp; omega)) _ | ((with_reducible refine Ob.new_ _ _ _ _ ?_) <;> (simp; done)) | with_reducible refine Ob.alloc ?_ _ | with_reducible refine Ob.drew ?_ | with_reducible refine Ob.drewN ?_ _ | with_reducible refine Ob.no ?_ (by assumption)))))))
        go_wp2_with (go_at_call 7; ((with_reducible refine (live _).mono ?_); rintro e wl ⟨rfl, hfl⟩))
        go_ret
        refine ⟨rfl, ?_⟩
        (repeat (first | with_reducible exact Fr.refl _ _ | with_reducible refine Fr.setCell ?_ (.inr (by first | (simp; done) | (simp; omega))) _ | with_reducible refine Fr.alloc ?_ _ | with_reducible refine Fr.drew ?_ | with_reducible refine Fr.drewN ?_ _ | with_reducible refine Fr.tr ?_ (by assumption)))
    · have d1 : (D == 9) = false := beq_eq_false_iff_ne.2 (fun x => h9 (.inl x))
      have d2 : (D == 10) = false := beq_eq_false_iff_ne.2 (fun x => h9 (.inr (.inl x)))
      have d3 : (D == 11) = false := beq_eq_false_iff_ne.2 (fun x => h9 (.inr (.inr x)))
      have He := Lib.hid (chkR_ins (D := D) (q := q) (d := d) (m := m) (fun x => h9 (.inl x)) (fun x => h9 (.inr (.inl x))) (fun x => h9 (.inr (.inr x))))
      clear h9
      go_enter Try.func4, Try.ntmps4
      go_wp2_with (go_at_call 6; ((with_reducible refine (small_any (q := q) (d := d) (D := D) ?_).mono ?_); (repeat (first | with_reducible assumption | with_reducible refine Rq.alloc ?_ _ | with_reducible refine Rq.drew ?_ | with_reducible refine Rq.drewN ?_ _ | with_reducible refine Rq.no ?_ (by assumption))); rintro e ws ⟨rfl, hfs⟩; rw [hs.out]; obtain ⟨y0, y1, y2, y3, y4, y5, y6, y7⟩ := eight (show Ob ws w.heap.size #[.int .i64 D, .slice q.K q.kn q.kc, .string q.S, .slice q.A q.an q.ac, .slice q.B q.bn q.bc, .slice q.X q.xn q.xc, .int .i64 q.M, .slice q.R q.rn q.rc] 29 by (repeat (first | with_reducible assumption | with_reducible refine Ob.other ?_ (by first | (simp; done) | (simp; omega)) _ | ((with_reducible refine Ob.new_ _ _ _ _ ?_) <;> (simp; done)) | with_reducible refine Ob.alloc ?_ _ | with_reducible refine Ob.drew ?_ | with_reducible refine Ob.drewN ?_ _ | with_reducible refine Ob.no ?_ (by assumption))))))
      go_wp2_with (go_at_call 9; ((with_reducible refine (own_any (q := q) (D := D)).mono ?_); rintro e w1 ⟨rfl, hf1⟩; skip))
      go_wp2_with (go_at_call 11; ((with_reducible refine (rqcheck_any (q := q) (d := d) (D := D) ?_ _ _ _).mono ?_); (repeat (first | with_reducible assumption | with_reducible refine Rq.alloc ?_ _ | with_reducible refine Rq.drew ?_ | with_reducible refine Rq.drewN ?_ _ | with_reducible refine Rq.no ?_ (by assumption))); rintro e w2 ⟨rfl, hf2⟩; (rw [He.out]; obtain ⟨yw2a, yw2b, yw2c, yw2d, yw2e, yw2f, yw2g, yw2h⟩ := eight (show Ob w2 w.heap.size #[.int .i64 D, .slice q.K q.kn q.kc, .string q.S, .slice q.A q.an q.ac, .slice q.B q.bn q.bc, .slice q.X q.xn q.xc, .int .i64 q.M, .slice q.R q.rn q.rc] 29 by (repeat (first | with_reducible assumption | with_reducible refine Ob.other ?_ (by first | (simp; done) | (simp; omega)) _ | ((with_reducible refine Ob.new_ _ _ _ _ ?_) <;> (simp; done)) | with_reducible refine Ob.alloc ?_ _ | with_reducible refine Ob.drew ?_ | with_reducible refine Ob.drewN ?_ _ | with_reducible refine Ob.no ?_ (by assumption)))))))
      go_wp2_with (go_at_call 9; ((with_reducible refine (own_any (q := q) (D := D)).mono ?_); rintro e w3 ⟨rfl, hf3⟩; skip))
      go_wp2_with (go_at_call 11; ((with_reducible refine (rqcheck_any (q := q) (d := d) (D := D) ?_ _ _ _).mono ?_); (repeat (first | with_reducible assumption | with_reducible refine Rq.alloc ?_ _ | with_reducible refine Rq.drew ?_ | with_reducible refine Rq.drewN ?_ _ | with_reducible refine Rq.no ?_ (by assumption))); rintro e w4 ⟨rfl, hf4⟩; (obtain ⟨yw4a, yw4b, yw4c, yw4d, yw4e, yw4f, yw4g, yw4h⟩ := eight (show Ob w4 w.heap.size #[.int .i64 D, .slice q.K q.kn q.kc, .string q.S, .slice q.A q.an q.ac, .slice q.B q.bn q.bc, .slice q.X q.xn q.xc, .int .i64 q.M, .slice q.R q.rn q.rc] 29 by (repeat (first | with_reducible assumption | with_reducible refine Ob.other ?_ (by first | (simp; done) | (simp; omega)) _ | ((with_reducible refine Ob.new_ _ _ _ _ ?_) <;> (simp; done)) | with_reducible refine Ob.alloc ?_ _ | with_reducible refine Ob.drew ?_ | with_reducible refine Ob.drewN ?_ _ | with_reducible refine Ob.no ?_ (by assumption)))))))
      go_wp2_with (go_at_call 9; ((with_reducible refine (own_any (q := q) (D := D)).mono ?_); rintro e w5 ⟨rfl, hf5⟩; skip))
      go_wp2_with (go_at_call 11; ((with_reducible refine (rqcheck_any (q := q) (d := d) (D := D) ?_ _ _ _).mono ?_); (repeat (first | with_reducible assumption | with_reducible refine Rq.alloc ?_ _ | with_reducible refine Rq.drew ?_ | with_reducible refine Rq.drewN ?_ _ | with_reducible refine Rq.no ?_ (by assumption))); rintro e w6 ⟨rfl, hf6⟩; (rw [Hcl.out]; obtain ⟨yw6a, yw6b, yw6c, yw6d, yw6e, yw6f, yw6g, yw6h⟩ := eight (show Ob w6 w.heap.size #[.int .i64 D, .slice q.K q.kn q.kc, .string q.S, .slice q.A q.an q.ac, .slice q.B q.bn q.bc, .slice q.X q.xn q.xc, .int .i64 q.M, .slice q.R q.rn q.rc] 29 by (repeat (first | with_reducible assumption | with_reducible refine Ob.other ?_ (by first | (simp; done) | (simp; omega)) _ | ((with_reducible refine Ob.new_ _ _ _ _ ?_) <;> (simp; done)) | with_reducible refine Ob.alloc ?_ _ | with_reducible refine Ob.drew ?_ | with_reducible refine Ob.drewN ?_ _ | with_reducible refine Ob.no ?_ (by assumption)))))))
      go_wp2_with (go_at_call 7; ((with_reducible refine (live _).mono ?_); rintro e wl ⟨rfl, hfl⟩))
      go_ret
      refine ⟨rfl, ?_⟩
      (repeat (first | with_reducible exact Fr.refl _ _ | with_reducible refine Fr.setCell ?_ (.inr (by first | (simp; done) | (simp; omega))) _ | with_reducible refine Fr.alloc ?_ _ | with_reducible refine Fr.drew ?_ | with_reducible refine Fr.drewN ?_ _ | with_reducible refine Fr.tr ?_ (by assumption)))
end Go.Proofs.Ytpkhmakgebaofaa.Qm25
