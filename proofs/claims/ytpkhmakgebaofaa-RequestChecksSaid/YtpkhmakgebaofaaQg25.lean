/- Layer 25: the box that is asked for, further. -/
import Derived.Test.YtpkhmakgebaofaaQf25
import Derived.Deep.RegionHeld3
namespace Go.Proofs.Ytpkhmakgebaofaa.Qg25
open Go.RowKit Go.Proofs.Ytpkhmakgebaofaa.Pk08 Go.Proofs.Ytpkhmakgebaofaa.Base Go.Proofs.Ytpkhmakgebaofaa.App Go.Proofs.Ytpkhmakgebaofaa.Ky Go.Proofs.Ytpkhmakgebaofaa.Iv Go.Proofs.Ytpkhmakgebaofaa.Bx Go.Proofs.Ytpkhmakgebaofaa.Kk Go.Proofs.Ytpkhmakgebaofaa.Rv Go.Proofs.Ytpkhmakgebaofaa.Ra Go.Proofs.Ytpkhmakgebaofaa.Kc08 Go.Proofs.Ytpkhmakgebaofaa.Ke08 Go.Proofs.Ytpkhmakgebaofaa.Kh08 Go.Proofs.Ytpkhmakgebaofaa.Kj08 Go.Proofs.Ytpkhmakgebaofaa.Ka08 Go.Proofs.Ytpkhmakgebaofaa.Cl Go.Proofs.Ytpkhmakgebaofaa.Qb25 Go.Proofs.Ytpkhmakgebaofaa.Qc25 Go.Proofs.Ytpkhmakgebaofaa.Qd25 Go.Proofs.Ytpkhmakgebaofaa.Qe25 Go.Proofs.Ytpkhmakgebaofaa.Qf25
set_option linter.unusedVariables false
set_option linter.unusedSimpArgs false
theorem pE_of {q : RqC} {d : RqD} {m : Int} {op ins : Bool} (h : chkR 5 q d m op ins = 0) : pE m d.ats d.ks = 0 := by
  have h4 := (chkR_zero h).2.2.2
  have h5 : (pE m d.ats d.ks == 0) = true := h4
  exact beq_iff_eq.1 h5
theorem chkB_of {D : Int} {q : RqC} {d : RqD} {m : Int} {op ins : Bool} (hD : D = 4 ∨ D = 6) (h : chkR D q d m op ins = 0) : chkB d.lo d.hi m = 0 := by
  have h4 := (chkR_zero h).2.2.2
  rcases hD with rfl | rfl
  · have h5 : (chkB d.lo d.hi m == 0) = true := h4
    exact beq_iff_eq.1 h5
  · have h5 : (chkB d.lo d.hi m == 0) = true := h4
    exact beq_iff_eq.1 h5
theorem chkB_lens {lo hi : List Nat} {m : Int} (h : chkB lo hi m = 0) : lo.length ≤ 6 ∧ hi.length ≤ 6 := by
  obtain ⟨h1, h2, h3, h4⟩ := Go.Proofs.Ytpkhmakgebaofaa.Pl08.chkB_zero.1 h
  have := leL_eqlen h4
  omega
theorem two34 {w' : World} {g : Nat} {a0 a1 a2 a3 a4 a5 a6 a7 : Value} {T : TypeId} (h : Ob w' g #[a0, a1, a2, a3, a4, a5, a6, a7] T) :
    w'.cell? ⟨g, 3, none⟩ = some a3 ∧ w'.cell? ⟨g, 4, none⟩ = some a4 := ⟨h.cell 3 rfl, h.cell 4 rfl⟩
section
variable {w : World} {q : RqC} {d : RqD} {D : Int}
set_option maxHeartbeats 1600000 in
theorem box_5 (h : Rq w q d) (m : Int) (hc : chkR 5 q d m true false = 0) :
    Calls Try.prog 8 #[.agg #[.int .i64 5, .slice q.K q.kn q.kc, .string q.S, .slice q.A q.an q.ac, .slice q.B q.bn q.bc, .slice q.X q.xn q.xc, .int .i64 q.M, .slice q.R q.rn q.rc], .int .i64 m] w (BoxRet w (pLo m d.ats d.ks) (pHi m d.ats d.ks) (.int .i64 0)) := by
  have hO : Ob ((w.alloc (.cells #[.int .i64 5, .slice q.K q.kn q.kc, .string q.S, .slice q.A q.an q.ac, .slice q.B q.bn q.bc, .slice q.X q.xn q.xc, .int .i64 q.M, .slice q.R q.rn q.rc] 37)).alloc (.cells #[.slice none 0 0, .slice none 0 0] 25)) (w.heap.size + 1) #[.slice none 0 0, .slice none 0 0] 25 := by (repeat (first | with_reducible assumption | with_reducible refine Ob.other ?_ (by first | (simp; done) | (simp; omega)) _ | ((with_reducible refine Ob.new_ _ _ _ _ ?_) <;> (simp; done)) | with_reducible refine Ob.alloc ?_ _ | with_reducible refine Ob.drew ?_ | with_reducible refine Ob.drewN ?_ _ | with_reducible refine Ob.no ?_ (by assumption)))
  have hO2 : Ob ((w.alloc (.cells #[.int .i64 5, .slice q.K q.kn q.kc, .string q.S, .slice q.A q.an q.ac, .slice q.B q.bn q.bc, .slice q.X q.xn q.xc, .int .i64 q.M, .slice q.R q.rn q.rc] 37)).alloc (.cells #[.slice none 0 0, .slice none 0 0] 25)) w.heap.size #[.int .i64 5, .slice q.K q.kn q.kc, .string q.S, .slice q.A q.an q.ac, .slice q.B q.bn q.bc, .slice q.X q.xn q.xc, .int .i64 q.M, .slice q.R q.rn q.rc] 37 := by (repeat (first | with_reducible assumption | with_reducible refine Ob.other ?_ (by first | (simp; done) | (simp; omega)) _ | ((with_reducible refine Ob.new_ _ _ _ _ ?_) <;> (simp; done)) | with_reducible refine Ob.alloc ?_ _ | with_reducible refine Ob.drew ?_ | with_reducible refine Ob.drewN ?_ _ | with_reducible refine Ob.no ?_ (by assumption)))
  have Hc := Lib.hid hc
  have Hp := Lib.hid (pE_of hc)
  have Hq := h.no (show Fr No w ((w.alloc (.cells #[.int .i64 5, .slice q.K q.kn q.kc, .string q.S, .slice q.A q.an q.ac, .slice q.B q.bn q.bc, .slice q.X q.xn q.xc, .int .i64 q.M, .slice q.R q.rn q.rc] 37)).alloc (.cells #[.slice none 0 0, .slice none 0 0] 25)) by (repeat (first | with_reducible exact Fr.refl _ _ | with_reducible refine Fr.setCell ?_ (.inr (by first | (simp; done) | (simp; omega))) _ | with_reducible refine Fr.alloc ?_ _ | with_reducible refine Fr.drew ?_ | with_reducible refine Fr.drewN ?_ _ | with_reducible refine Fr.tr ?_ (by assumption))))
  clear hc
  go_enter Try.func8, Try.ntmps8
  go_wp2_with (go_at_call 11; ((with_reducible refine (rqcheck_any Hq _ _ _).mono ?_); rintro e w1 ⟨rfl, hf1⟩; rw [Hc.out]; obtain ⟨y0, y1, y2, y3, y4, y5, y6, y7⟩ := eight (hO2.no hf1); have Hq1 := Hq.no hf1))
  have h1 := Hq1.x
  have h2 := Hq1.k
  go_wp2_with (go_at_call 15; ((with_reducible refine (partial_any (xs := d.ats) (ks := d.ks) _ ?_ ?_).mono ?_); (repeat (first | with_reducible assumption | ((with_reducible refine Iv.lit_new _ _ _ _ _ _ ?_ ?_ ?_ ?_) <;> (first | (simp; done) | rfl | decide)) | with_reducible exact Iv.none_ _ | with_reducible refine Iv.alloc ?_ _ | with_reducible refine Iv.drew ?_ | with_reducible refine Iv.drewN ?_ _ | with_reducible refine Iv.no ?_ (by assumption))); (repeat (first | with_reducible assumption | ((with_reducible refine Kv.lit_new _ _ _ _ _ _ ?_ ?_ ?_ ?_) <;> (first | (simp; done) | rfl | decide)) | with_reducible exact Kv.none_ _ | with_reducible refine Kv.alloc ?_ _ | with_reducible refine Kv.drew ?_ | with_reducible refine Kv.drewN ?_ _ | with_reducible refine Kv.no ?_ (by assumption))); rintro e w2 ⟨A2, p2, q2, B2, m2, n2, rfl, hl2, hh2, hf2⟩; rw [Hp.out]; obtain ⟨z0, z1, z2, z3⟩ := Ob.four ((hO.no hf1).no hf2)))
  have hO3 := (hO.no hf1).no hf2
  have hrf := (hO3.set 0 (.slice A2 p2 q2)).set 1 (.slice B2 m2 n2)
  have r0 := hrf.cell 0 (v := .slice A2 p2 q2) rfl
  have r1 := hrf.cell 1 (v := .slice B2 m2 n2) rfl
  refine bodyPost_ret (v := .tuple #[.agg #[.slice A2 p2 q2, .slice B2 m2 n2], .int .i64 0]) (by simp [results, Try.results8, go_sem, r0, r1]) rfl ?_
  refine ⟨_, p2, q2, _, m2, n2, rfl, Kv.put2 hl2 hO3 _, Kv.put2 hh2 hO3 _, ?_⟩
  (repeat (first | with_reducible exact Fr.refl _ _ | with_reducible refine Fr.setCell ?_ (.inr (by first | (simp; done) | (simp; omega))) _ | with_reducible refine Fr.alloc ?_ _ | with_reducible refine Fr.drew ?_ | with_reducible refine Fr.drewN ?_ _ | with_reducible refine Fr.tr ?_ (by assumption)))
set_option maxHeartbeats 1600000 in
theorem box_4 (h : Rq w q d) (m : Int) (hD : D = 4 ∨ D = 6) (hc : chkR D q d m true false = 0) :
    Calls Try.prog 8 #[.agg #[.int .i64 D, .slice q.K q.kn q.kc, .string q.S, .slice q.A q.an q.ac, .slice q.B q.bn q.bc, .slice q.X q.xn q.xc, .int .i64 q.M, .slice q.R q.rn q.rc], .int .i64 m] w (BoxRet w d.lo d.hi (.int .i64 0)) := by
  have hlen := chkB_lens (chkB_of hD hc)
  have ha : q.an ≤ 1000000 := by have := h.lo.len; omega
  have hb : q.bn ≤ 1000000 := by have := h.hi.len; omega
  clear hlen
  rcases hD with rfl | rfl
  · have hO : Ob ((w.alloc (.cells #[.int .i64 4, .slice q.K q.kn q.kc, .string q.S, .slice q.A q.an q.ac, .slice q.B q.bn q.bc, .slice q.X q.xn q.xc, .int .i64 q.M, .slice q.R q.rn q.rc] 37)).alloc (.cells #[.slice none 0 0, .slice none 0 0] 25)) (w.heap.size + 1) #[.slice none 0 0, .slice none 0 0] 25 := by (repeat (first | with_reducible assumption | with_reducible refine Ob.other ?_ (by first | (simp; done) | (simp; omega)) _ | ((with_reducible refine Ob.new_ _ _ _ _ ?_) <;> (simp; done)) | with_reducible refine Ob.alloc ?_ _ | with_reducible refine Ob.drew ?_ | with_reducible refine Ob.drewN ?_ _ | with_reducible refine Ob.no ?_ (by assumption)))
    have hO2 : Ob ((w.alloc (.cells #[.int .i64 4, .slice q.K q.kn q.kc, .string q.S, .slice q.A q.an q.ac, .slice q.B q.bn q.bc, .slice q.X q.xn q.xc, .int .i64 q.M, .slice q.R q.rn q.rc] 37)).alloc (.cells #[.slice none 0 0, .slice none 0 0] 25)) w.heap.size #[.int .i64 4, .slice q.K q.kn q.kc, .string q.S, .slice q.A q.an q.ac, .slice q.B q.bn q.bc, .slice q.X q.xn q.xc, .int .i64 q.M, .slice q.R q.rn q.rc] 37 := by (repeat (first | with_reducible assumption | with_reducible refine Ob.other ?_ (by first | (simp; done) | (simp; omega)) _ | ((with_reducible refine Ob.new_ _ _ _ _ ?_) <;> (simp; done)) | with_reducible refine Ob.alloc ?_ _ | with_reducible refine Ob.drew ?_ | with_reducible refine Ob.drewN ?_ _ | with_reducible refine Ob.no ?_ (by assumption)))
    have Hc := Lib.hid hc
    have Hq := h.no (show Fr No w ((w.alloc (.cells #[.int .i64 4, .slice q.K q.kn q.kc, .string q.S, .slice q.A q.an q.ac, .slice q.B q.bn q.bc, .slice q.X q.xn q.xc, .int .i64 q.M, .slice q.R q.rn q.rc] 37)).alloc (.cells #[.slice none 0 0, .slice none 0 0] 25)) by (repeat (first | with_reducible exact Fr.refl _ _ | with_reducible refine Fr.setCell ?_ (.inr (by first | (simp; done) | (simp; omega))) _ | with_reducible refine Fr.alloc ?_ _ | with_reducible refine Fr.drew ?_ | with_reducible refine Fr.drewN ?_ _ | with_reducible refine Fr.tr ?_ (by assumption))))
    clear hc
    go_enter Try.func8, Try.ntmps8
    go_wp2_with (go_at_call 11; ((with_reducible refine (rqcheck_any Hq _ _ _).mono ?_); rintro e w1 ⟨rfl, hf1⟩; rw [Hc.out]; obtain ⟨y0, y1, y2, y3, y4, y5, y6, y7⟩ := eight (hO2.no hf1); have Hq1 := Hq.no hf1; have hO1 := hO.no hf1))
    have h1 := Hq1.lo
    have h2 := Hq1.hi
    go_region_held3 (fun w' => w'.cell? ⟨w.heap.size, 3, none⟩ = some (.slice q.A q.an q.ac) ∧ w'.cell? ⟨w.heap.size, 4, none⟩ = some (.slice q.B q.bn q.bc))
      ((refine two34 (T := 37) (a0 := .int .i64 4) (a1 := .slice q.K q.kn q.kc) (a2 := .string q.S) (a5 := .slice q.X q.xn q.xc) (a6 := .int .i64 q.M) (a7 := .slice q.R q.rn q.rc) ?_; (repeat (first | with_reducible assumption | with_reducible refine Ob.other ?_ (by first | (simp; done) | (simp; omega)) _ | ((with_reducible refine Ob.new_ _ _ _ _ ?_) <;> (simp; done)) | with_reducible refine Ob.alloc ?_ _ | with_reducible refine Ob.drew ?_ | with_reducible refine Ob.drewN ?_ _ | with_reducible refine Ob.no ?_ (by assumption)))))
      (first
        | (go_at_call 16; ((with_reducible refine (clone_any (ks := d.lo) ?_ ha).mono ?_); (repeat (first | with_reducible assumption | ((with_reducible refine Kv.lit_new _ _ _ _ _ _ ?_ ?_ ?_ ?_) <;> (first | (simp; done) | rfl | decide)) | with_reducible exact Kv.none_ _ | with_reducible refine Kv.alloc ?_ _ | with_reducible refine Kv.drew ?_ | with_reducible refine Kv.drewN ?_ _ | with_reducible refine Kv.no ?_ (by assumption))); rintro e w2 ⟨A2, p2, rfl, ho2, hf2⟩; have hl2 := Kv.of_own ho2 h1.lt))
        | (go_at_call 16; ((with_reducible refine (clone_any (ks := d.hi) ?_ hb).mono ?_); (repeat (first | with_reducible assumption | ((with_reducible refine Kv.lit_new _ _ _ _ _ _ ?_ ?_ ?_ ?_) <;> (first | (simp; done) | rfl | decide)) | with_reducible exact Kv.none_ _ | with_reducible refine Kv.alloc ?_ _ | with_reducible refine Kv.drew ?_ | with_reducible refine Kv.drewN ?_ _ | with_reducible refine Kv.no ?_ (by assumption))); rintro e w3 ⟨A3, p3, rfl, ho3, hf3⟩; have hl3 := Kv.of_own ho3 h2.lt; have hO3 := (hO1.drew.no hf2).no hf3; obtain ⟨z0, z1, z2, z3⟩ := Ob.four hO3))
        | fail)
    have hrf := (hO3.set 0 (.slice A2 q.an p2)).set 1 (.slice A3 q.bn p3)
    have r0 := hrf.cell 0 (v := .slice A2 q.an p2) rfl
    have r1 := hrf.cell 1 (v := .slice A3 q.bn p3) rfl
    go_wp2
    refine bodyPost_ret (v := .tuple #[.agg #[.slice A2 q.an p2, .slice A3 q.bn p3], .int .i64 0]) (by simp [results, Try.results8, go_sem, r0, r1]) rfl ?_
    refine ⟨_, _, p2, _, _, p3, rfl, Kv.put2 (hl2.no hf3) hO3 _, Kv.put2 hl3 hO3 _, ?_⟩
    (repeat (first | with_reducible exact Fr.refl _ _ | with_reducible refine Fr.setCell ?_ (.inr (by first | (simp; done) | (simp; omega))) _ | with_reducible refine Fr.alloc ?_ _ | with_reducible refine Fr.drew ?_ | with_reducible refine Fr.drewN ?_ _ | with_reducible refine Fr.tr ?_ (by assumption)))
  · have hO : Ob ((w.alloc (.cells #[.int .i64 6, .slice q.K q.kn q.kc, .string q.S, .slice q.A q.an q.ac, .slice q.B q.bn q.bc, .slice q.X q.xn q.xc, .int .i64 q.M, .slice q.R q.rn q.rc] 37)).alloc (.cells #[.slice none 0 0, .slice none 0 0] 25)) (w.heap.size + 1) #[.slice none 0 0, .slice none 0 0] 25 := by (repeat (first | with_reducible assumption | with_reducible refine Ob.other ?_ (by first | (simp; done) | (simp; omega)) _ | ((with_reducible refine Ob.new_ _ _ _ _ ?_) <;> (simp; done)) | with_reducible refine Ob.alloc ?_ _ | with_reducible refine Ob.drew ?_ | with_reducible refine Ob.drewN ?_ _ | with_reducible refine Ob.no ?_ (by assumption)))
    have hO2 : Ob ((w.alloc (.cells #[.int .i64 6, .slice q.K q.kn q.kc, .string q.S, .slice q.A q.an q.ac, .slice q.B q.bn q.bc, .slice q.X q.xn q.xc, .int .i64 q.M, .slice q.R q.rn q.rc] 37)).alloc (.cells #[.slice none 0 0, .slice none 0 0] 25)) w.heap.size #[.int .i64 6, .slice q.K q.kn q.kc, .string q.S, .slice q.A q.an q.ac, .slice q.B q.bn q.bc, .slice q.X q.xn q.xc, .int .i64 q.M, .slice q.R q.rn q.rc] 37 := by (repeat (first | with_reducible assumption | with_reducible refine Ob.other ?_ (by first | (simp; done) | (simp; omega)) _ | ((with_reducible refine Ob.new_ _ _ _ _ ?_) <;> (simp; done)) | with_reducible refine Ob.alloc ?_ _ | with_reducible refine Ob.drew ?_ | with_reducible refine Ob.drewN ?_ _ | with_reducible refine Ob.no ?_ (by assumption)))
    have Hc := Lib.hid hc
    have Hq := h.no (show Fr No w ((w.alloc (.cells #[.int .i64 6, .slice q.K q.kn q.kc, .string q.S, .slice q.A q.an q.ac, .slice q.B q.bn q.bc, .slice q.X q.xn q.xc, .int .i64 q.M, .slice q.R q.rn q.rc] 37)).alloc (.cells #[.slice none 0 0, .slice none 0 0] 25)) by (repeat (first | with_reducible exact Fr.refl _ _ | with_reducible refine Fr.setCell ?_ (.inr (by first | (simp; done) | (simp; omega))) _ | with_reducible refine Fr.alloc ?_ _ | with_reducible refine Fr.drew ?_ | with_reducible refine Fr.drewN ?_ _ | with_reducible refine Fr.tr ?_ (by assumption))))
    clear hc
    go_enter Try.func8, Try.ntmps8
    go_wp2_with (go_at_call 11; ((with_reducible refine (rqcheck_any Hq _ _ _).mono ?_); rintro e w1 ⟨rfl, hf1⟩; rw [Hc.out]; obtain ⟨y0, y1, y2, y3, y4, y5, y6, y7⟩ := eight (hO2.no hf1); have Hq1 := Hq.no hf1; have hO1 := hO.no hf1))
    have h1 := Hq1.lo
    have h2 := Hq1.hi
    go_region_held3 (fun w' => w'.cell? ⟨w.heap.size, 3, none⟩ = some (.slice q.A q.an q.ac) ∧ w'.cell? ⟨w.heap.size, 4, none⟩ = some (.slice q.B q.bn q.bc))
      ((refine two34 (T := 37) (a0 := .int .i64 6) (a1 := .slice q.K q.kn q.kc) (a2 := .string q.S) (a5 := .slice q.X q.xn q.xc) (a6 := .int .i64 q.M) (a7 := .slice q.R q.rn q.rc) ?_; (repeat (first | with_reducible assumption | with_reducible refine Ob.other ?_ (by first | (simp; done) | (simp; omega)) _ | ((with_reducible refine Ob.new_ _ _ _ _ ?_) <;> (simp; done)) | with_reducible refine Ob.alloc ?_ _ | with_reducible refine Ob.drew ?_ | with_reducible refine Ob.drewN ?_ _ | with_reducible refine Ob.no ?_ (by assumption)))))
      (first
        | (go_at_call 16; ((with_reducible refine (clone_any (ks := d.lo) ?_ ha).mono ?_); (repeat (first | with_reducible assumption | ((with_reducible refine Kv.lit_new _ _ _ _ _ _ ?_ ?_ ?_ ?_) <;> (first | (simp; done) | rfl | decide)) | with_reducible exact Kv.none_ _ | with_reducible refine Kv.alloc ?_ _ | with_reducible refine Kv.drew ?_ | with_reducible refine Kv.drewN ?_ _ | with_reducible refine Kv.no ?_ (by assumption))); rintro e w2 ⟨A2, p2, rfl, ho2, hf2⟩; have hl2 := Kv.of_own ho2 h1.lt))
        | (go_at_call 16; ((with_reducible refine (clone_any (ks := d.hi) ?_ hb).mono ?_); (repeat (first | with_reducible assumption | ((with_reducible refine Kv.lit_new _ _ _ _ _ _ ?_ ?_ ?_ ?_) <;> (first | (simp; done) | rfl | decide)) | with_reducible exact Kv.none_ _ | with_reducible refine Kv.alloc ?_ _ | with_reducible refine Kv.drew ?_ | with_reducible refine Kv.drewN ?_ _ | with_reducible refine Kv.no ?_ (by assumption))); rintro e w3 ⟨A3, p3, rfl, ho3, hf3⟩; have hl3 := Kv.of_own ho3 h2.lt; have hO3 := (hO1.drew.no hf2).no hf3; obtain ⟨z0, z1, z2, z3⟩ := Ob.four hO3))
        | fail)
    have hrf := (hO3.set 0 (.slice A2 q.an p2)).set 1 (.slice A3 q.bn p3)
    have r0 := hrf.cell 0 (v := .slice A2 q.an p2) rfl
    have r1 := hrf.cell 1 (v := .slice A3 q.bn p3) rfl
    go_wp2
    refine bodyPost_ret (v := .tuple #[.agg #[.slice A2 q.an p2, .slice A3 q.bn p3], .int .i64 0]) (by simp [results, Try.results8, go_sem, r0, r1]) rfl ?_
    refine ⟨_, _, p2, _, _, p3, rfl, Kv.put2 (hl2.no hf3) hO3 _, Kv.put2 hl3 hO3 _, ?_⟩
    (repeat (first | with_reducible exact Fr.refl _ _ | with_reducible refine Fr.setCell ?_ (.inr (by first | (simp; done) | (simp; omega))) _ | with_reducible refine Fr.alloc ?_ _ | with_reducible refine Fr.drew ?_ | with_reducible refine Fr.drewN ?_ _ | with_reducible refine Fr.tr ?_ (by assumption)))
theorem rq_box (h : Rq w q d) (m : Int) :
    Calls Try.prog 8 #[.agg #[.int .i64 D, .slice q.K q.kn q.kc, .string q.S, .slice q.A q.an q.ac, .slice q.B q.bn q.bc, .slice q.X q.xn q.xc, .int .i64 q.M, .slice q.R q.rn q.rc], .int .i64 m] w (BoxRet w (boxLo D q d m) (boxHi D q d m) (.int .i64 (boxE D q d m))) := by
  by_cases hb : boxOk D q d m
  · have e1 : boxE D q d m = 0 := by unfold boxE; rw [if_pos hb]
    by_cases h5 : D = 5
    · subst h5
      have e2 : boxLo 5 q d m = pLo m d.ats d.ks := by unfold boxLo; rw [if_pos hb]; rfl
      have e3 : boxHi 5 q d m = pHi m d.ats d.ks := by unfold boxHi; rw [if_pos hb]; rfl
      rw [e1, e2, e3]
      exact box_5 h m hb.2.2
    · have e2 : boxLo D q d m = d.lo := by unfold boxLo; rw [if_pos hb, if_neg h5]
      have e3 : boxHi D q d m = d.hi := by unfold boxHi; rw [if_pos hb, if_neg h5]
      rw [e1, e2, e3]
      exact box_4 h m (by have := hb.1; have := hb.2.1; omega) hb.2.2
  · obtain ⟨e1, e2, e3⟩ := box_no hb
    rw [e1, e2, e3]
    by_cases h46 : 4 ≤ D ∧ D ≤ 6
    · refine (box_bad h m h46.1 h46.2 ?_).mono (fun e w' hx => nil_ret hx)
      rcases chkR_rng D q d m true false with hc | hc
      · exact absurd ⟨h46.1, h46.2, hc⟩ hb
      · exact hc
    · exact (box_out h m (by omega)).mono (fun e w' hx => nil_ret hx)
/-! ### the document's -/
set_option maxHeartbeats 1600000 in
theorem rbox_bad (h : Rq w q d) (m : Int) (hc : chkR D q d m true false = 1) :
    Calls Try.prog 10 #[.agg #[.int .i64 D, .slice q.K q.kn q.kc, .string q.S, .slice q.A q.an q.ac, .slice q.B q.bn q.bc, .slice q.X q.xn q.xc, .int .i64 q.M, .slice q.R q.rn q.rc], .int .i64 m] w (NilBox w) := by
  have hO : Ob ((w.alloc (.cells #[.int .i64 D, .slice q.K q.kn q.kc, .string q.S, .slice q.A q.an q.ac, .slice q.B q.bn q.bc, .slice q.X q.xn q.xc, .int .i64 q.M, .slice q.R q.rn q.rc] 29)).alloc (.cells #[.slice none 0 0, .slice none 0 0] 25)) (w.heap.size + 1) #[.slice none 0 0, .slice none 0 0] 25 := by (repeat (first | with_reducible assumption | with_reducible refine Ob.other ?_ (by first | (simp; done) | (simp; omega)) _ | ((with_reducible refine Ob.new_ _ _ _ _ ?_) <;> (simp; done)) | with_reducible refine Ob.alloc ?_ _ | with_reducible refine Ob.drew ?_ | with_reducible refine Ob.drewN ?_ _ | with_reducible refine Ob.no ?_ (by assumption)))
  have Hc := Lib.hid hc
  have Hq := h.no (show Fr No w ((w.alloc (.cells #[.int .i64 D, .slice q.K q.kn q.kc, .string q.S, .slice q.A q.an q.ac, .slice q.B q.bn q.bc, .slice q.X q.xn q.xc, .int .i64 q.M, .slice q.R q.rn q.rc] 29)).alloc (.cells #[.slice none 0 0, .slice none 0 0] 25)) by (repeat (first | with_reducible exact Fr.refl _ _ | with_reducible refine Fr.setCell ?_ (.inr (by first | (simp; done) | (simp; omega))) _ | with_reducible refine Fr.alloc ?_ _ | with_reducible refine Fr.drew ?_ | with_reducible refine Fr.drewN ?_ _ | with_reducible refine Fr.tr ?_ (by assumption))))
  clear hc
  go_enter Try.func10, Try.ntmps10
  go_wp2_with (go_at_call 12; ((with_reducible refine (rrqcheck_any Hq _ _ _).mono ?_); rintro e w1 ⟨rfl, hf1⟩; rw [Hc.out]; obtain ⟨q0, q1, q2, q3⟩ := Ob.four (hO.no hf1)))
  refine bodyPost_ret (v := .tuple #[.agg #[.slice none 0 0, .slice none 0 0], .int .i64 1]) (by simp [results, Try.results10, go_sem, q0, q1]) rfl ?_
  refine ⟨rfl, ?_⟩
  (repeat (first | with_reducible exact Fr.refl _ _ | with_reducible refine Fr.setCell ?_ (.inr (by first | (simp; done) | (simp; omega))) _ | with_reducible refine Fr.alloc ?_ _ | with_reducible refine Fr.drew ?_ | with_reducible refine Fr.drewN ?_ _ | with_reducible refine Fr.tr ?_ (by assumption)))
set_option maxHeartbeats 1600000 in
theorem rbox_out (h : Rq w q d) (m : Int) (hD : D < 4 ∨ (4 ≤ D ∧ 6 < D)) (hc : chkR D q d m true false = 0) :
    Calls Try.prog 10 #[.agg #[.int .i64 D, .slice q.K q.kn q.kc, .string q.S, .slice q.A q.an q.ac, .slice q.B q.bn q.bc, .slice q.X q.xn q.xc, .int .i64 q.M, .slice q.R q.rn q.rc], .int .i64 m] w (NilBox w) := by
  have hO : Ob ((w.alloc (.cells #[.int .i64 D, .slice q.K q.kn q.kc, .string q.S, .slice q.A q.an q.ac, .slice q.B q.bn q.bc, .slice q.X q.xn q.xc, .int .i64 q.M, .slice q.R q.rn q.rc] 29)).alloc (.cells #[.slice none 0 0, .slice none 0 0] 25)) (w.heap.size + 1) #[.slice none 0 0, .slice none 0 0] 25 := by (repeat (first | with_reducible assumption | with_reducible refine Ob.other ?_ (by first | (simp; done) | (simp; omega)) _ | ((with_reducible refine Ob.new_ _ _ _ _ ?_) <;> (simp; done)) | with_reducible refine Ob.alloc ?_ _ | with_reducible refine Ob.drew ?_ | with_reducible refine Ob.drewN ?_ _ | with_reducible refine Ob.no ?_ (by assumption)))
  have hO2 : Ob ((w.alloc (.cells #[.int .i64 D, .slice q.K q.kn q.kc, .string q.S, .slice q.A q.an q.ac, .slice q.B q.bn q.bc, .slice q.X q.xn q.xc, .int .i64 q.M, .slice q.R q.rn q.rc] 29)).alloc (.cells #[.slice none 0 0, .slice none 0 0] 25)) w.heap.size #[.int .i64 D, .slice q.K q.kn q.kc, .string q.S, .slice q.A q.an q.ac, .slice q.B q.bn q.bc, .slice q.X q.xn q.xc, .int .i64 q.M, .slice q.R q.rn q.rc] 29 := by (repeat (first | with_reducible assumption | with_reducible refine Ob.other ?_ (by first | (simp; done) | (simp; omega)) _ | ((with_reducible refine Ob.new_ _ _ _ _ ?_) <;> (simp; done)) | with_reducible refine Ob.alloc ?_ _ | with_reducible refine Ob.drew ?_ | with_reducible refine Ob.drewN ?_ _ | with_reducible refine Ob.no ?_ (by assumption)))
  have Hc := Lib.hid hc
  have Hq := h.no (show Fr No w ((w.alloc (.cells #[.int .i64 D, .slice q.K q.kn q.kc, .string q.S, .slice q.A q.an q.ac, .slice q.B q.bn q.bc, .slice q.X q.xn q.xc, .int .i64 q.M, .slice q.R q.rn q.rc] 29)).alloc (.cells #[.slice none 0 0, .slice none 0 0] 25)) by (repeat (first | with_reducible exact Fr.refl _ _ | with_reducible refine Fr.setCell ?_ (.inr (by first | (simp; done) | (simp; omega))) _ | with_reducible refine Fr.alloc ?_ _ | with_reducible refine Fr.drew ?_ | with_reducible refine Fr.drewN ?_ _ | with_reducible refine Fr.tr ?_ (by assumption))))
  clear hc
  rcases hD with hD | ⟨hD1, hD2⟩
  all_goals
    go_enter Try.func10, Try.ntmps10
    go_wp2_with (go_at_call 12; ((with_reducible refine (rrqcheck_any Hq _ _ _).mono ?_); rintro e w1 ⟨rfl, hf1⟩; rw [Hc.out]; obtain ⟨q0, q1, q2, q3⟩ := Ob.four (hO.no hf1); obtain ⟨y0, y1, y2, y3, y4, y5, y6, y7⟩ := eight (hO2.no hf1)))
    refine bodyPost_ret (v := .tuple #[.agg #[.slice none 0 0, .slice none 0 0], .int .i64 1]) (by simp [results, Try.results10, go_sem, q0, q1]) rfl ?_
    refine ⟨rfl, ?_⟩
    (repeat (first | with_reducible exact Fr.refl _ _ | with_reducible refine Fr.setCell ?_ (.inr (by first | (simp; done) | (simp; omega))) _ | with_reducible refine Fr.alloc ?_ _ | with_reducible refine Fr.drew ?_ | with_reducible refine Fr.drewN ?_ _ | with_reducible refine Fr.tr ?_ (by assumption)))
set_option maxHeartbeats 1600000 in
theorem rbox_5 (h : Rq w q d) (m : Int) (hc : chkR 5 q d m true false = 0) :
    Calls Try.prog 10 #[.agg #[.int .i64 5, .slice q.K q.kn q.kc, .string q.S, .slice q.A q.an q.ac, .slice q.B q.bn q.bc, .slice q.X q.xn q.xc, .int .i64 q.M, .slice q.R q.rn q.rc], .int .i64 m] w (BoxRet w (pLo m d.ats d.ks) (pHi m d.ats d.ks) (.int .i64 0)) := by
  have hO : Ob ((w.alloc (.cells #[.int .i64 5, .slice q.K q.kn q.kc, .string q.S, .slice q.A q.an q.ac, .slice q.B q.bn q.bc, .slice q.X q.xn q.xc, .int .i64 q.M, .slice q.R q.rn q.rc] 29)).alloc (.cells #[.slice none 0 0, .slice none 0 0] 25)) (w.heap.size + 1) #[.slice none 0 0, .slice none 0 0] 25 := by (repeat (first | with_reducible assumption | with_reducible refine Ob.other ?_ (by first | (simp; done) | (simp; omega)) _ | ((with_reducible refine Ob.new_ _ _ _ _ ?_) <;> (simp; done)) | with_reducible refine Ob.alloc ?_ _ | with_reducible refine Ob.drew ?_ | with_reducible refine Ob.drewN ?_ _ | with_reducible refine Ob.no ?_ (by assumption)))
  have hO2 : Ob ((w.alloc (.cells #[.int .i64 5, .slice q.K q.kn q.kc, .string q.S, .slice q.A q.an q.ac, .slice q.B q.bn q.bc, .slice q.X q.xn q.xc, .int .i64 q.M, .slice q.R q.rn q.rc] 29)).alloc (.cells #[.slice none 0 0, .slice none 0 0] 25)) w.heap.size #[.int .i64 5, .slice q.K q.kn q.kc, .string q.S, .slice q.A q.an q.ac, .slice q.B q.bn q.bc, .slice q.X q.xn q.xc, .int .i64 q.M, .slice q.R q.rn q.rc] 29 := by (repeat (first | with_reducible assumption | with_reducible refine Ob.other ?_ (by first | (simp; done) | (simp; omega)) _ | ((with_reducible refine Ob.new_ _ _ _ _ ?_) <;> (simp; done)) | with_reducible refine Ob.alloc ?_ _ | with_reducible refine Ob.drew ?_ | with_reducible refine Ob.drewN ?_ _ | with_reducible refine Ob.no ?_ (by assumption)))
  have Hc := Lib.hid hc
  have Hp := Lib.hid (pE_of hc)
  have Hq := h.no (show Fr No w ((w.alloc (.cells #[.int .i64 5, .slice q.K q.kn q.kc, .string q.S, .slice q.A q.an q.ac, .slice q.B q.bn q.bc, .slice q.X q.xn q.xc, .int .i64 q.M, .slice q.R q.rn q.rc] 29)).alloc (.cells #[.slice none 0 0, .slice none 0 0] 25)) by (repeat (first | with_reducible exact Fr.refl _ _ | with_reducible refine Fr.setCell ?_ (.inr (by first | (simp; done) | (simp; omega))) _ | with_reducible refine Fr.alloc ?_ _ | with_reducible refine Fr.drew ?_ | with_reducible refine Fr.drewN ?_ _ | with_reducible refine Fr.tr ?_ (by assumption))))
  clear hc
  go_enter Try.func10, Try.ntmps10
  go_wp2_with (go_at_call 12; ((with_reducible refine (rrqcheck_any Hq _ _ _).mono ?_); rintro e w1 ⟨rfl, hf1⟩; rw [Hc.out]; obtain ⟨y0, y1, y2, y3, y4, y5, y6, y7⟩ := eight (hO2.no hf1); have Hq1 := Hq.no hf1))
  have h1 := Hq1.x
  have h2 := Hq1.k
  go_wp2_with (go_at_call 17; ((with_reducible refine (rpartial_any (xs := d.ats) (ks := d.ks) _ ?_ ?_).mono ?_); (repeat (first | with_reducible assumption | ((with_reducible refine Iv.lit_new _ _ _ _ _ _ ?_ ?_ ?_ ?_) <;> (first | (simp; done) | rfl | decide)) | with_reducible exact Iv.none_ _ | with_reducible refine Iv.alloc ?_ _ | with_reducible refine Iv.drew ?_ | with_reducible refine Iv.drewN ?_ _ | with_reducible refine Iv.no ?_ (by assumption))); (repeat (first | with_reducible assumption | ((with_reducible refine Kv.lit_new _ _ _ _ _ _ ?_ ?_ ?_ ?_) <;> (first | (simp; done) | rfl | decide)) | with_reducible exact Kv.none_ _ | with_reducible refine Kv.alloc ?_ _ | with_reducible refine Kv.drew ?_ | with_reducible refine Kv.drewN ?_ _ | with_reducible refine Kv.no ?_ (by assumption))); rintro e w2 ⟨A2, p2, q2, B2, m2, n2, rfl, hl2, hh2, hf2⟩; rw [Hp.out]; obtain ⟨z0, z1, z2, z3⟩ := Ob.four ((hO.no hf1).no hf2)))
  have hO3 := (hO.no hf1).no hf2
  have hrf := (hO3.set 0 (.slice A2 p2 q2)).set 1 (.slice B2 m2 n2)
  have r0 := hrf.cell 0 (v := .slice A2 p2 q2) rfl
  have r1 := hrf.cell 1 (v := .slice B2 m2 n2) rfl
  refine bodyPost_ret (v := .tuple #[.agg #[.slice A2 p2 q2, .slice B2 m2 n2], .int .i64 0]) (by simp [results, Try.results10, go_sem, r0, r1]) rfl ?_
  refine ⟨_, p2, q2, _, m2, n2, rfl, Kv.put2 hl2 hO3 _, Kv.put2 hh2 hO3 _, ?_⟩
  (repeat (first | with_reducible exact Fr.refl _ _ | with_reducible refine Fr.setCell ?_ (.inr (by first | (simp; done) | (simp; omega))) _ | with_reducible refine Fr.alloc ?_ _ | with_reducible refine Fr.drew ?_ | with_reducible refine Fr.drewN ?_ _ | with_reducible refine Fr.tr ?_ (by assumption)))
set_option maxHeartbeats 1600000 in
theorem rbox_4 (h : Rq w q d) (m : Int) (hD : D = 4 ∨ D = 6) (hc : chkR D q d m true false = 0) :
    Calls Try.prog 10 #[.agg #[.int .i64 D, .slice q.K q.kn q.kc, .string q.S, .slice q.A q.an q.ac, .slice q.B q.bn q.bc, .slice q.X q.xn q.xc, .int .i64 q.M, .slice q.R q.rn q.rc], .int .i64 m] w (BoxRet w d.lo d.hi (.int .i64 0)) := by
  rcases hD with rfl | rfl
  · have hO : Ob ((w.alloc (.cells #[.int .i64 4, .slice q.K q.kn q.kc, .string q.S, .slice q.A q.an q.ac, .slice q.B q.bn q.bc, .slice q.X q.xn q.xc, .int .i64 q.M, .slice q.R q.rn q.rc] 29)).alloc (.cells #[.slice none 0 0, .slice none 0 0] 25)) (w.heap.size + 1) #[.slice none 0 0, .slice none 0 0] 25 := by (repeat (first | with_reducible assumption | with_reducible refine Ob.other ?_ (by first | (simp; done) | (simp; omega)) _ | ((with_reducible refine Ob.new_ _ _ _ _ ?_) <;> (simp; done)) | with_reducible refine Ob.alloc ?_ _ | with_reducible refine Ob.drew ?_ | with_reducible refine Ob.drewN ?_ _ | with_reducible refine Ob.no ?_ (by assumption)))
    have hO2 : Ob ((w.alloc (.cells #[.int .i64 4, .slice q.K q.kn q.kc, .string q.S, .slice q.A q.an q.ac, .slice q.B q.bn q.bc, .slice q.X q.xn q.xc, .int .i64 q.M, .slice q.R q.rn q.rc] 29)).alloc (.cells #[.slice none 0 0, .slice none 0 0] 25)) w.heap.size #[.int .i64 4, .slice q.K q.kn q.kc, .string q.S, .slice q.A q.an q.ac, .slice q.B q.bn q.bc, .slice q.X q.xn q.xc, .int .i64 q.M, .slice q.R q.rn q.rc] 29 := by (repeat (first | with_reducible assumption | with_reducible refine Ob.other ?_ (by first | (simp; done) | (simp; omega)) _ | ((with_reducible refine Ob.new_ _ _ _ _ ?_) <;> (simp; done)) | with_reducible refine Ob.alloc ?_ _ | with_reducible refine Ob.drew ?_ | with_reducible refine Ob.drewN ?_ _ | with_reducible refine Ob.no ?_ (by assumption)))
    have Hc := Lib.hid hc
    have Hq := h.no (show Fr No w ((w.alloc (.cells #[.int .i64 4, .slice q.K q.kn q.kc, .string q.S, .slice q.A q.an q.ac, .slice q.B q.bn q.bc, .slice q.X q.xn q.xc, .int .i64 q.M, .slice q.R q.rn q.rc] 29)).alloc (.cells #[.slice none 0 0, .slice none 0 0] 25)) by (repeat (first | with_reducible exact Fr.refl _ _ | with_reducible refine Fr.setCell ?_ (.inr (by first | (simp; done) | (simp; omega))) _ | with_reducible refine Fr.alloc ?_ _ | with_reducible refine Fr.drew ?_ | with_reducible refine Fr.drewN ?_ _ | with_reducible refine Fr.tr ?_ (by assumption))))
    clear hc
    go_enter Try.func10, Try.ntmps10
    go_wp2_with (go_at_call 12; ((with_reducible refine (rrqcheck_any Hq _ _ _).mono ?_); rintro e w1 ⟨rfl, hf1⟩; rw [Hc.out]; obtain ⟨y0, y1, y2, y3, y4, y5, y6, y7⟩ := eight (hO2.no hf1); have Hq1 := Hq.no hf1; have hO1 := hO.no hf1; obtain ⟨z0, z1, z2, z3⟩ := Ob.four hO1))
    have hrf := (hO1.set 0 (.slice q.A q.an q.ac)).set 1 (.slice q.B q.bn q.bc)
    have r0 := hrf.cell 0 (v := .slice q.A q.an q.ac) rfl
    have r1 := hrf.cell 1 (v := .slice q.B q.bn q.bc) rfl
    refine bodyPost_ret (v := .tuple #[.agg #[.slice q.A q.an q.ac, .slice q.B q.bn q.bc], .int .i64 0]) (by simp [results, Try.results10, go_sem, r0, r1]) rfl ?_
    refine ⟨_, _, _, _, _, _, rfl, Kv.put2 Hq1.lo hO1 _, Kv.put2 Hq1.hi hO1 _, ?_⟩
    (repeat (first | with_reducible exact Fr.refl _ _ | with_reducible refine Fr.setCell ?_ (.inr (by first | (simp; done) | (simp; omega))) _ | with_reducible refine Fr.alloc ?_ _ | with_reducible refine Fr.drew ?_ | with_reducible refine Fr.drewN ?_ _ | with_reducible refine Fr.tr ?_ (by assumption)))
  · have hO : Ob ((w.alloc (.cells #[.int .i64 6, .slice q.K q.kn q.kc, .string q.S, .slice q.A q.an q.ac, .slice q.B q.bn q.bc, .slice q.X q.xn q.xc, .int .i64 q.M, .slice q.R q.rn q.rc] 29)).alloc (.cells #[.slice none 0 0, .slice none 0 0] 25)) (w.heap.size + 1) #[.slice none 0 0, .slice none 0 0] 25 := by (repeat (first | with_reducible assumption | with_reducible refine Ob.other ?_ (by first | (simp; done) | (simp; omega)) _ | ((with_reducible refine Ob.new_ _ _ _ _ ?_) <;> (simp; done)) | with_reducible refine Ob.alloc ?_ _ | with_reducible refine Ob.drew ?_ | with_reducible refine Ob.drewN ?_ _ | with_reducible refine Ob.no ?_ (by assumption)))
    have hO2 : Ob ((w.alloc (.cells #[.int .i64 6, .slice q.K q.kn q.kc, .string q.S, .slice q.A q.an q.ac, .slice q.B q.bn q.bc, .slice q.X q.xn q.xc, .int .i64 q.M, .slice q.R q.rn q.rc] 29)).alloc (.cells #[.slice none 0 0, .slice none 0 0] 25)) w.heap.size #[.int .i64 6, .slice q.K q.kn q.kc, .string q.S, .slice q.A q.an q.ac, .slice q.B q.bn q.bc, .slice q.X q.xn q.xc, .int .i64 q.M, .slice q.R q.rn q.rc] 29 := by (repeat (first | with_reducible assumption | with_reducible refine Ob.other ?_ (by first | (simp; done) | (simp; omega)) _ | ((with_reducible refine Ob.new_ _ _ _ _ ?_) <;> (simp; done)) | with_reducible refine Ob.alloc ?_ _ | with_reducible refine Ob.drew ?_ | with_reducible refine Ob.drewN ?_ _ | with_reducible refine Ob.no ?_ (by assumption)))
    have Hc := Lib.hid hc
    have Hq := h.no (show Fr No w ((w.alloc (.cells #[.int .i64 6, .slice q.K q.kn q.kc, .string q.S, .slice q.A q.an q.ac, .slice q.B q.bn q.bc, .slice q.X q.xn q.xc, .int .i64 q.M, .slice q.R q.rn q.rc] 29)).alloc (.cells #[.slice none 0 0, .slice none 0 0] 25)) by (repeat (first | with_reducible exact Fr.refl _ _ | with_reducible refine Fr.setCell ?_ (.inr (by first | (simp; done) | (simp; omega))) _ | with_reducible refine Fr.alloc ?_ _ | with_reducible refine Fr.drew ?_ | with_reducible refine Fr.drewN ?_ _ | with_reducible refine Fr.tr ?_ (by assumption))))
    clear hc
    go_enter Try.func10, Try.ntmps10
    go_wp2_with (go_at_call 12; ((with_reducible refine (rrqcheck_any Hq _ _ _).mono ?_); rintro e w1 ⟨rfl, hf1⟩; rw [Hc.out]; obtain ⟨y0, y1, y2, y3, y4, y5, y6, y7⟩ := eight (hO2.no hf1); have Hq1 := Hq.no hf1; have hO1 := hO.no hf1; obtain ⟨z0, z1, z2, z3⟩ := Ob.four hO1))
    have hrf := (hO1.set 0 (.slice q.A q.an q.ac)).set 1 (.slice q.B q.bn q.bc)
    have r0 := hrf.cell 0 (v := .slice q.A q.an q.ac) rfl
    have r1 := hrf.cell 1 (v := .slice q.B q.bn q.bc) rfl
    refine bodyPost_ret (v := .tuple #[.agg #[.slice q.A q.an q.ac, .slice q.B q.bn q.bc], .int .i64 0]) (by simp [results, Try.results10, go_sem, r0, r1]) rfl ?_
    refine ⟨_, _, _, _, _, _, rfl, Kv.put2 Hq1.lo hO1 _, Kv.put2 Hq1.hi hO1 _, ?_⟩
    (repeat (first | with_reducible exact Fr.refl _ _ | with_reducible refine Fr.setCell ?_ (.inr (by first | (simp; done) | (simp; omega))) _ | with_reducible refine Fr.alloc ?_ _ | with_reducible refine Fr.drew ?_ | with_reducible refine Fr.drewN ?_ _ | with_reducible refine Fr.tr ?_ (by assumption)))
theorem rrq_box (h : Rq w q d) (m : Int) :
    Calls Try.prog 10 #[.agg #[.int .i64 D, .slice q.K q.kn q.kc, .string q.S, .slice q.A q.an q.ac, .slice q.B q.bn q.bc, .slice q.X q.xn q.xc, .int .i64 q.M, .slice q.R q.rn q.rc], .int .i64 m] w (BoxRet w (boxLo D q d m) (boxHi D q d m) (.int .i64 (boxE D q d m))) := by
  by_cases hb : boxOk D q d m
  · have e1 : boxE D q d m = 0 := by unfold boxE; rw [if_pos hb]
    by_cases h5 : D = 5
    · subst h5
      have e2 : boxLo 5 q d m = pLo m d.ats d.ks := by unfold boxLo; rw [if_pos hb]; rfl
      have e3 : boxHi 5 q d m = pHi m d.ats d.ks := by unfold boxHi; rw [if_pos hb]; rfl
      rw [e1, e2, e3]
      exact rbox_5 h m hb.2.2
    · have e2 : boxLo D q d m = d.lo := by unfold boxLo; rw [if_pos hb, if_neg h5]
      have e3 : boxHi D q d m = d.hi := by unfold boxHi; rw [if_pos hb, if_neg h5]
      rw [e1, e2, e3]
      exact rbox_4 h m (by have := hb.1; have := hb.2.1; omega) hb.2.2
  · obtain ⟨e1, e2, e3⟩ := box_no hb
    rw [e1, e2, e3]
    rcases chkR_rng D q d m true false with hc | hc
    · exact (rbox_out h m (by
        have : ¬ (4 ≤ D ∧ D ≤ 6) := fun x => hb ⟨x.1, x.2, hc⟩
        omega) hc).mono (fun e w' hx => nil_ret hx)
    · exact (rbox_bad h m hc).mono (fun e w' hx => nil_ret hx)
end
end Go.Proofs.Ytpkhmakgebaofaa.Qg25
