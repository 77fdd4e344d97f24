/- Layer 25's law RequestChecks. -/
import Derived.Test.YtpkhmakgebaofaaQl25
import Derived.BigRegion
namespace Go.Proofs.Ytpkhmakgebaofaa.Qn25
open Go.RowKit Go.Proofs.Ytpkhmakgebaofaa.Pk08 Go.Proofs.Ytpkhmakgebaofaa.Base Go.Proofs.Ytpkhmakgebaofaa.App Go.Proofs.Ytpkhmakgebaofaa.Ty Go.Proofs.Ytpkhmakgebaofaa.Ky Go.Proofs.Ytpkhmakgebaofaa.Iv Go.Proofs.Ytpkhmakgebaofaa.Bx Go.Proofs.Ytpkhmakgebaofaa.Kk Go.Proofs.Ytpkhmakgebaofaa.Rv Go.Proofs.Ytpkhmakgebaofaa.Ra Go.Proofs.Ytpkhmakgebaofaa.Kc08 Go.Proofs.Ytpkhmakgebaofaa.Ke08 Go.Proofs.Ytpkhmakgebaofaa.Kh08 Go.Proofs.Ytpkhmakgebaofaa.Kj08 Go.Proofs.Ytpkhmakgebaofaa.Ka08 Go.Proofs.Ytpkhmakgebaofaa.Cl Go.Proofs.Ytpkhmakgebaofaa.Qb25 Go.Proofs.Ytpkhmakgebaofaa.Qc25 Go.Proofs.Ytpkhmakgebaofaa.Qd25 Go.Proofs.Ytpkhmakgebaofaa.Qe25 Go.Proofs.Ytpkhmakgebaofaa.Qf25 Go.Proofs.Ytpkhmakgebaofaa.Qg25 Go.Proofs.Ytpkhmakgebaofaa.Qh25 Go.Proofs.Ytpkhmakgebaofaa.Ql25
set_option linter.unusedVariables false
set_option linter.unusedSimpArgs false
attribute [local irreducible] chkR
abbrev caseT (E1 E2 E3 E4 E5 E6 : TypeId) : Ty := .cn (reqT E1 E2 E3 E4 E5 E6) (.cn (.int .i64) (.cn .bool (.cn .bool .nl)))
theorem rd_case {E1 E2 E3 E4 E5 E6 : TypeId} {w : World} {x : (caseT E1 E2 E3 E4 E5 E6).D} {cs : Array Value} (h : Rd (caseT E1 E2 E3 E4 E5 E6) w x cs.toList) :
    ∃ (D : Int) (q : RqC) (d : RqD) (m : Int) (op ins : Bool), cs = #[.int .i64 D, .slice q.K q.kn q.kc, .string q.S, .slice q.A q.an q.ac, .slice q.B q.bn q.bc, .slice q.X q.xn q.xc, .int .i64 q.M, .slice q.R q.rn q.rc, .int .i64 m, .bool op, .bool ins] ∧ Rq w q d := by
  obtain ⟨c1, c2, hc, h1, c3, c4, rfl, ⟨rfl, _⟩, c5, c6, rfl, h3, c7, c8, rfl, h4, h5⟩ := h
  have h5' : c8 = [] := h5
  have h3' : c5 = [.bool x.2.2.1] := h3
  have h4' : c7 = [.bool x.2.2.2.1] := h4
  subst h5'; subst h3'; subst h4'
  obtain ⟨D, q, d, hl, hq⟩ := rd_reqL h1
  subst hl
  refine ⟨D, q, d, x.2.1, x.2.2.1, x.2.2.2.1, ?_, hq⟩
  rw [← Array.toArray_toList (xs := cs), hc]
  rfl
theorem pair_self (a b : List Nat) : ((cmp a a == 0) && (cmp b b == 0)) = true := by rw [Go.Proofs.Ytpkhmakgebaofaa.Pl08.cmp_self, Go.Proofs.Ytpkhmakgebaofaa.Pl08.cmp_self]; rfl
theorem twelve {w' : World} {g s t : Nat} {a0 a1 a2 a3 a4 a5 a6 a7 b0 b1 c0 c1 : Value} {T U : TypeId} (h : Ob w' g #[a0, a1, a2, a3, a4, a5, a6, a7] T) (h1 : Ob w' s #[b0, b1] U) (h2 : Ob w' t #[c0, c1] U) :
    w'.cell? ⟨g, 0, none⟩ = some a0 ∧ w'.cell? ⟨g, 1, none⟩ = some a1 ∧ w'.cell? ⟨g, 2, none⟩ = some a2 ∧ w'.cell? ⟨g, 3, none⟩ = some a3 ∧ w'.cell? ⟨g, 4, none⟩ = some a4 ∧ w'.cell? ⟨g, 5, none⟩ = some a5 ∧ w'.cell? ⟨g, 6, none⟩ = some a6 ∧ w'.cell? ⟨g, 7, none⟩ = some a7 ∧
      w'.cell? ⟨s, 0, none⟩ = some b0 ∧ w'.cell? ⟨s, 1, none⟩ = some b1 ∧ w'.cell? ⟨t, 0, none⟩ = some c0 ∧ w'.cell? ⟨t, 1, none⟩ = some c1 :=
  ⟨h.cell 0 rfl, h.cell 1 rfl, h.cell 2 rfl, h.cell 3 rfl, h.cell 4 rfl, h.cell 5 rfl, h.cell 6 rfl, h.cell 7 rfl, h1.cell 0 rfl, h1.cell 1 rfl, h2.cell 0 rfl, h2.cell 1 rfl⟩
set_option maxHeartbeats 3200000 in
theorem law_checks {E1 E2 E3 E4 E5 E6 : TypeId} (w : World) (cs : Array Value) (x : (caseT E1 E2 E3 E4 E5 E6).D) (h : Rd (caseT E1 E2 E3 E4 E5 E6) w x cs.toList) :
    Calls Try.prog 3 #[.agg cs] w fun e w' => e = .returned (.bool true) ∧ Fr No w w' := by
  obtain ⟨D, q, d, m, op, ins, rfl, hq⟩ := rd_case h
  clear h x
  have hO : Ob (w.alloc (.cells #[.int .i64 D, .slice q.K q.kn q.kc, .string q.S, .slice q.A q.an q.ac, .slice q.B q.bn q.bc, .slice q.X q.xn q.xc, .int .i64 q.M, .slice q.R q.rn q.rc, .int .i64 m, .bool op, .bool ins] 31)) w.heap.size #[.int .i64 D, .slice q.K q.kn q.kc, .string q.S, .slice q.A q.an q.ac, .slice q.B q.bn q.bc, .slice q.X q.xn q.xc, .int .i64 q.M, .slice q.R q.rn q.rc, .int .i64 m, .bool op, .bool ins] 31 := by (repeat (first | with_reducible assumption | with_reducible refine Ob.other ?_ (by first | (simp; done) | (simp; omega)) _ | ((with_reducible refine Ob.new_ _ _ _ _ ?_) <;> (simp; done)) | with_reducible refine Ob.alloc ?_ _ | with_reducible refine Ob.drew ?_ | with_reducible refine Ob.drewN ?_ _ | with_reducible refine Ob.no ?_ (by assumption)))
  cases hs0 : smallB q d with
  | false =>
    have hs := Lib.hid hs0
    clear hs0
    go_enter Try.func3, Try.ntmps3
    go_wp2
    go_big_region
    go_wp2_with (first
      | (go_at_call 6; ((with_reducible refine (small_any (q := q) (d := d) (D := D) ?_).mono ?_); (repeat (first | with_reducible assumption | with_reducible refine Rq.alloc ?_ _ | with_reducible refine Rq.drew ?_ | with_reducible refine Rq.drewN ?_ _ | with_reducible refine Rq.no ?_ (by assumption))); rintro e ws ⟨rfl, hfs⟩; rw [hs.out]; obtain ⟨ysa, ysb, ysc, ysd, yse, ysf, ysg, ysh⟩ := eight (show Ob ws (w.heap.size + 1) #[.int .i64 D, .slice q.K q.kn q.kc, .string q.S, .slice q.A q.an q.ac, .slice q.B q.bn q.bc, .slice q.X q.xn q.xc, .int .i64 q.M, .slice q.R q.rn q.rc] 29 by (repeat (first | with_reducible assumption | with_reducible refine Ob.other ?_ (by first | (simp; done) | (simp; omega)) _ | ((with_reducible refine Ob.new_ _ _ _ _ ?_) <;> (simp; done)) | with_reducible refine Ob.alloc ?_ _ | with_reducible refine Ob.drew ?_ | with_reducible refine Ob.drewN ?_ _ | with_reducible refine Ob.no ?_ (by assumption))))))
      | (go_at_call 7; ((with_reducible refine (live _).mono ?_); rintro e wl ⟨rfl, hfl⟩)))
    go_ret
    refine ⟨rfl, ?_⟩
    (repeat (first | with_reducible exact Fr.refl _ _ | with_reducible refine Fr.setCell ?_ (.inr (by first | (simp; done) | (simp; omega))) _ | with_reducible refine Fr.alloc ?_ _ | with_reducible refine Fr.drew ?_ | with_reducible refine Fr.drewN ?_ _ | with_reducible refine Fr.tr ?_ (by assumption)))
  | true =>
    have hs := Lib.hid hs0
    clear hs0
    go_enter Try.func3, Try.ntmps3
    go_wp2
    go_big_region
    go_wp2_with (go_at_call 6; ((with_reducible refine (small_any (q := q) (d := d) (D := D) ?_).mono ?_); (repeat (first | with_reducible assumption | with_reducible refine Rq.alloc ?_ _ | with_reducible refine Rq.drew ?_ | with_reducible refine Rq.drewN ?_ _ | with_reducible refine Rq.no ?_ (by assumption))); rintro e ws ⟨rfl, hfs⟩; rw [hs.out]; obtain ⟨ysa, ysb, ysc, ysd, yse, ysf, ysg, ysh⟩ := eight (show Ob ws (w.heap.size + 1) #[.int .i64 D, .slice q.K q.kn q.kc, .string q.S, .slice q.A q.an q.ac, .slice q.B q.bn q.bc, .slice q.X q.xn q.xc, .int .i64 q.M, .slice q.R q.rn q.rc] 29 by (repeat (first | with_reducible assumption | with_reducible refine Ob.other ?_ (by first | (simp; done) | (simp; omega)) _ | ((with_reducible refine Ob.new_ _ _ _ _ ?_) <;> (simp; done)) | with_reducible refine Ob.alloc ?_ _ | with_reducible refine Ob.drew ?_ | with_reducible refine Ob.drewN ?_ _ | with_reducible refine Ob.no ?_ (by assumption))))))
    go_wp2_with (go_at_call 9; ((with_reducible refine (own_any (q := q) (D := D)).mono ?_); rintro e w1 ⟨rfl, hf1⟩; skip))
    go_wp2_with (go_at_call 8; ((with_reducible refine (rq_box (q := q) (d := d) (D := D) ?_ m).mono ?_); (repeat (first | with_reducible assumption | with_reducible refine Rq.alloc ?_ _ | with_reducible refine Rq.drew ?_ | with_reducible refine Rq.drewN ?_ _ | with_reducible refine Rq.no ?_ (by assumption))); rintro e w2 ⟨A2, n2, c2, B2, m2, d2, rfl, hl2, hh2, hf2⟩; have hz2 : w.heap.size + 1 < w2.heap.size := (show Ob w2 (w.heap.size + 1) #[.int .i64 D, .slice q.K q.kn q.kc, .string q.S, .slice q.A q.an q.ac, .slice q.B q.bn q.bc, .slice q.X q.xn q.xc, .int .i64 q.M, .slice q.R q.rn q.rc] 29 by (repeat (first | with_reducible assumption | with_reducible refine Ob.other ?_ (by first | (simp; done) | (simp; omega)) _ | ((with_reducible refine Ob.new_ _ _ _ _ ?_) <;> (simp; done)) | with_reducible refine Ob.alloc ?_ _ | with_reducible refine Ob.drew ?_ | with_reducible refine Ob.drewN ?_ _ | with_reducible refine Ob.no ?_ (by assumption)))).lt; obtain ⟨yta, ytb, ytc, ytd, yte, ytf, ytg, yth⟩ := eight (show Ob w2 (w.heap.size + 1) #[.int .i64 D, .slice q.K q.kn q.kc, .string q.S, .slice q.A q.an q.ac, .slice q.B q.bn q.bc, .slice q.X q.xn q.xc, .int .i64 q.M, .slice q.R q.rn q.rc] 29 by (repeat (first | with_reducible assumption | with_reducible refine Ob.other ?_ (by first | (simp; done) | (simp; omega)) _ | ((with_reducible refine Ob.new_ _ _ _ _ ?_) <;> (simp; done)) | with_reducible refine Ob.alloc ?_ _ | with_reducible refine Ob.drew ?_ | with_reducible refine Ob.drewN ?_ _ | with_reducible refine Ob.no ?_ (by assumption))))))
    go_wp2_with (go_at_call 10; ((with_reducible refine (rrq_box (q := q) (d := d) (D := D) ?_ m).mono ?_); (repeat (first | with_reducible assumption | with_reducible refine Rq.alloc ?_ _ | with_reducible refine Rq.drew ?_ | with_reducible refine Rq.drewN ?_ _ | with_reducible refine Rq.no ?_ (by assumption))); rintro e w3 ⟨A3, n3, c3, B3, m3, d3, rfl, hl3, hh3, hf3⟩; have hz3 : w.heap.size + 1 < w3.heap.size := (show Ob w3 (w.heap.size + 1) #[.int .i64 D, .slice q.K q.kn q.kc, .string q.S, .slice q.A q.an q.ac, .slice q.B q.bn q.bc, .slice q.X q.xn q.xc, .int .i64 q.M, .slice q.R q.rn q.rc] 29 by (repeat (first | with_reducible assumption | with_reducible refine Ob.other ?_ (by first | (simp; done) | (simp; omega)) _ | ((with_reducible refine Ob.new_ _ _ _ _ ?_) <;> (simp; done)) | with_reducible refine Ob.alloc ?_ _ | with_reducible refine Ob.drew ?_ | with_reducible refine Ob.drewN ?_ _ | with_reducible refine Ob.no ?_ (by assumption)))).lt))
    go_region_held3 (fun w' => w'.cell? ⟨w.heap.size + 1, 0, none⟩ = some (.int .i64 D) ∧ w'.cell? ⟨w.heap.size + 1, 1, none⟩ = some (.slice q.K q.kn q.kc) ∧ w'.cell? ⟨w.heap.size + 1, 2, none⟩ = some (.string q.S) ∧ w'.cell? ⟨w.heap.size + 1, 3, none⟩ = some (.slice q.A q.an q.ac) ∧ w'.cell? ⟨w.heap.size + 1, 4, none⟩ = some (.slice q.B q.bn q.bc) ∧ w'.cell? ⟨w.heap.size + 1, 5, none⟩ = some (.slice q.X q.xn q.xc) ∧ w'.cell? ⟨w.heap.size + 1, 6, none⟩ = some (.int .i64 q.M) ∧ w'.cell? ⟨w.heap.size + 1, 7, none⟩ = some (.slice q.R q.rn q.rc) ∧
          w'.cell? ⟨w2.heap.size, 0, none⟩ = some (.slice A2 n2 c2) ∧ w'.cell? ⟨w2.heap.size, 1, none⟩ = some (.slice B2 m2 d2) ∧ w'.cell? ⟨w3.heap.size, 0, none⟩ = some (.slice A3 n3 c3) ∧ w'.cell? ⟨w3.heap.size, 1, none⟩ = some (.slice B3 m3 d3))
      ((refine twelve (T := 29) (U := 25) ?_ ?_ ?_ <;> (repeat (first | with_reducible assumption | with_reducible refine Ob.other ?_ (by first | (simp; done) | (simp; omega)) _ | ((with_reducible refine Ob.new_ _ _ _ _ ?_) <;> (simp; done)) | with_reducible refine Ob.alloc ?_ _ | with_reducible refine Ob.drew ?_ | with_reducible refine Ob.drewN ?_ _ | with_reducible refine Ob.no ?_ (by assumption)))))
      (first
        | (go_at_call 9; ((with_reducible refine (own_any (q := q) (D := D)).mono ?_); rintro e w4 ⟨rfl, hf4⟩; skip))
        | (go_at_call 11; ((with_reducible refine (rqcheck_any (q := q) (d := d) (D := D) ?_ m op ins).mono ?_); (repeat (first | with_reducible assumption | with_reducible refine Rq.alloc ?_ _ | with_reducible refine Rq.drew ?_ | with_reducible refine Rq.drewN ?_ _ | with_reducible refine Rq.no ?_ (by assumption))); rintro e w5 ⟨rfl, hf5⟩; skip))
        | (go_at_call 12; ((with_reducible refine (rrqcheck_any (q := q) (d := d) (D := D) ?_ m op ins).mono ?_); (repeat (first | with_reducible assumption | with_reducible refine Rq.alloc ?_ _ | with_reducible refine Rq.drew ?_ | with_reducible refine Rq.drewN ?_ _ | with_reducible refine Rq.no ?_ (by assumption))); rintro e w6 ⟨rfl, hf6⟩))
        | (go_at_call 13; ((with_reducible refine (sameBox_any (lo := boxLo D q d m) (hi := boxHi D q d m) (a := boxLo D q d m) (b := boxHi D q d m) ?_ ?_ ?_ ?_).mono ?_); (iterate 4 (repeat (first | with_reducible assumption | ((with_reducible refine Kv.lit_new _ _ _ _ _ _ ?_ ?_ ?_ ?_) <;> (first | (simp; done) | rfl | decide)) | with_reducible exact Kv.none_ _ | with_reducible refine Kv.alloc ?_ _ | with_reducible refine Kv.drew ?_ | with_reducible refine Kv.drewN ?_ _ | with_reducible refine Kv.no ?_ (by assumption)))); rintro e w7 ⟨rfl, hf7⟩; rw [pair_self]))
        | (go_at_call 7; ((with_reducible refine (live _).mono ?_); rintro e wl ⟨rfl, hfl⟩))
        | fail)
    go_wp2
    go_ret
    refine ⟨rfl, ?_⟩
    (repeat (first | with_reducible exact Fr.refl _ _ | with_reducible refine Fr.setCell ?_ (.inr (by first | (simp; done) | (simp; omega))) _ | with_reducible refine Fr.alloc ?_ _ | with_reducible refine Fr.drew ?_ | with_reducible refine Fr.drewN ?_ _ | with_reducible refine Fr.tr ?_ (by assumption)))
end Go.Proofs.Ytpkhmakgebaofaa.Qn25
