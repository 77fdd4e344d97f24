/- Layer 25: the box that is asked for, the program's and the document's; a request handed on; whether one is small. -/
import Derived.Test.YtpkhmakgebaofaaQe25
import Derived.Test.YtpkhmakgebaofaaCl
import Derived.Test.YtpkhmakgebaofaaKk
namespace Go.Proofs.Ytpkhmakgebaofaa.Qf25
open Go.RowKit Go.Proofs.Ytpkhmakgebaofaa.Pk08 Go.Proofs.Ytpkhmakgebaofaa.Base Go.Proofs.Ytpkhmakgebaofaa.App Go.Proofs.Ytpkhmakgebaofaa.Ky Go.Proofs.Ytpkhmakgebaofaa.Iv Go.Proofs.Ytpkhmakgebaofaa.Bx Go.Proofs.Ytpkhmakgebaofaa.Kk Go.Proofs.Ytpkhmakgebaofaa.Rv Go.Proofs.Ytpkhmakgebaofaa.Ra Go.Proofs.Ytpkhmakgebaofaa.Kc08 Go.Proofs.Ytpkhmakgebaofaa.Ke08 Go.Proofs.Ytpkhmakgebaofaa.Kh08 Go.Proofs.Ytpkhmakgebaofaa.Kj08 Go.Proofs.Ytpkhmakgebaofaa.Ka08 Go.Proofs.Ytpkhmakgebaofaa.Cl Go.Proofs.Ytpkhmakgebaofaa.Qb25 Go.Proofs.Ytpkhmakgebaofaa.Qc25 Go.Proofs.Ytpkhmakgebaofaa.Qd25 Go.Proofs.Ytpkhmakgebaofaa.Qe25
set_option linter.unusedVariables false
set_option linter.unusedSimpArgs false
/-- The box that is asked for, or that there is none. -/
def boxOk (D : Int) (q : RqC) (d : RqD) (m : Int) : Prop := 4 ≤ D ∧ D ≤ 6 ∧ chkR D q d m true false = 0
instance (D : Int) (q : RqC) (d : RqD) (m : Int) : Decidable (boxOk D q d m) := inferInstanceAs (Decidable (_ ∧ _))
def boxE (D : Int) (q : RqC) (d : RqD) (m : Int) : Int := if boxOk D q d m then 0 else 1
def boxLo (D : Int) (q : RqC) (d : RqD) (m : Int) : List Nat := if boxOk D q d m then (if D = 5 then pLo m d.ats d.ks else d.lo) else []
def boxHi (D : Int) (q : RqC) (d : RqD) (m : Int) : List Nat := if boxOk D q d m then (if D = 5 then pHi m d.ats d.ks else d.hi) else []
theorem box_no {D : Int} {q : RqC} {d : RqD} {m : Int} (h : ¬ boxOk D q d m) : boxE D q d m = 1 ∧ boxLo D q d m = [] ∧ boxHi D q d m = [] := ⟨by unfold boxE; rw [if_neg h], by unfold boxLo; rw [if_neg h], by unfold boxHi; rw [if_neg h]⟩
theorem chkR_zero {D : Int} {q : RqC} {d : RqD} {m : Int} {op ins : Bool} (h : chkR D q d m op ins = 0) : op = true ∧ 1 ≤ m ∧ m ≤ 6 ∧ okD D q d m ins = true := by
  unfold chkR at h
  split at h
  · assumption
  · cases h
section
variable {w : World} {q : RqC} {d : RqD} {D : Int}
theorem own_any :
    Calls Try.prog 9 #[.agg #[.int .i64 D, .slice q.K q.kn q.kc, .string q.S, .slice q.A q.an q.ac, .slice q.B q.bn q.bc, .slice q.X q.xn q.xc, .int .i64 q.M, .slice q.R q.rn q.rc]] w fun e w' => e = .returned (.agg #[.int .i64 D, .slice q.K q.kn q.kc, .string q.S, .slice q.A q.an q.ac, .slice q.B q.bn q.bc, .slice q.X q.xn q.xc, .int .i64 q.M, .slice q.R q.rn q.rc]) ∧ Fr No w w' := by
  go_enter Try.func9, Try.ntmps9
  go_wp2
  refine bodyPost_ret (v := .agg #[.int .i64 D, .slice q.K q.kn q.kc, .string q.S, .slice q.A q.an q.ac, .slice q.B q.bn q.bc, .slice q.X q.xn q.xc, .int .i64 q.M, .slice q.R q.rn q.rc]) (by simp [results, Try.results9, go_sem]) rfl ?_
  refine ⟨rfl, ?_⟩
  (repeat (first | with_reducible exact Fr.refl _ _ | with_reducible refine Fr.setCell ?_ (.inr (by first | (simp; done) | (simp; omega))) _ | with_reducible refine Fr.alloc ?_ _ | with_reducible refine Fr.drew ?_ | with_reducible refine Fr.drewN ?_ _ | with_reducible refine Fr.tr ?_ (by assumption)))
def smallB (q : RqC) (d : RqD) : Bool := decide (q.kn ≤ 20) && (decide (q.S.size ≤ 100) && (decide (q.an ≤ 20) && (decide (q.bn ≤ 20) && (decide (q.xn ≤ 20) && fewB d.rs))))
theorem small_any (h : Rq w q d) :
    Calls Try.prog 6 #[.agg #[.int .i64 D, .slice q.K q.kn q.kc, .string q.S, .slice q.A q.an q.ac, .slice q.B q.bn q.bc, .slice q.X q.xn q.xc, .int .i64 q.M, .slice q.R q.rn q.rc]] w fun e w' => e = .returned (.bool (smallB q d)) ∧ Fr No w w' := by
  have hr := h.r
  by_cases h1 : q.kn ≤ 20
  · by_cases h2 : q.S.size ≤ 100
    · by_cases h3 : q.an ≤ 20
      · by_cases h4 : q.bn ≤ 20
        · by_cases h5 : q.xn ≤ 20
          · have e : smallB q d = fewB d.rs := by unfold smallB; simp [h1, h2, h3, h4, h5]
            rw [e]; clear e
            go_enter Try.func6, Try.ntmps6
            go_wp2_with (go_at_call 14; ((with_reducible refine (few_any (rs := d.rs) ?_).mono ?_); (repeat (first | with_reducible assumption | with_reducible exact Rv.none_ _ | with_reducible refine Rv.alloc ?_ _ | with_reducible refine Rv.drew ?_ | with_reducible refine Rv.drewN ?_ _ | with_reducible refine Rv.no ?_ (by assumption))); rintro e w1 ⟨rfl, rfl⟩))
            go_ret
            refine ⟨rfl, ?_⟩
            (repeat (first | with_reducible exact Fr.refl _ _ | with_reducible refine Fr.setCell ?_ (.inr (by first | (simp; done) | (simp; omega))) _ | with_reducible refine Fr.alloc ?_ _ | with_reducible refine Fr.drew ?_ | with_reducible refine Fr.drewN ?_ _ | with_reducible refine Fr.tr ?_ (by assumption)))
          · have e : smallB q d = false := by unfold smallB; simp [h5]
            rw [e]; clear e
            go_enter Try.func6, Try.ntmps6
            go_wp2
            go_ret
            refine ⟨rfl, ?_⟩
            (repeat (first | with_reducible exact Fr.refl _ _ | with_reducible refine Fr.setCell ?_ (.inr (by first | (simp; done) | (simp; omega))) _ | with_reducible refine Fr.alloc ?_ _ | with_reducible refine Fr.drew ?_ | with_reducible refine Fr.drewN ?_ _ | with_reducible refine Fr.tr ?_ (by assumption)))
        · have e : smallB q d = false := by unfold smallB; simp [h4]
          rw [e]; clear e
          go_enter Try.func6, Try.ntmps6
          go_wp2
          go_ret
          refine ⟨rfl, ?_⟩
          (repeat (first | with_reducible exact Fr.refl _ _ | with_reducible refine Fr.setCell ?_ (.inr (by first | (simp; done) | (simp; omega))) _ | with_reducible refine Fr.alloc ?_ _ | with_reducible refine Fr.drew ?_ | with_reducible refine Fr.drewN ?_ _ | with_reducible refine Fr.tr ?_ (by assumption)))
      · have e : smallB q d = false := by unfold smallB; simp [h3]
        rw [e]; clear e
        go_enter Try.func6, Try.ntmps6
        go_wp2
        go_ret
        refine ⟨rfl, ?_⟩
        (repeat (first | with_reducible exact Fr.refl _ _ | with_reducible refine Fr.setCell ?_ (.inr (by first | (simp; done) | (simp; omega))) _ | with_reducible refine Fr.alloc ?_ _ | with_reducible refine Fr.drew ?_ | with_reducible refine Fr.drewN ?_ _ | with_reducible refine Fr.tr ?_ (by assumption)))
    · have e : smallB q d = false := by unfold smallB; simp [h2]
      rw [e]; clear e
      go_enter Try.func6, Try.ntmps6
      go_wp2
      go_ret
      refine ⟨rfl, ?_⟩
      (repeat (first | with_reducible exact Fr.refl _ _ | with_reducible refine Fr.setCell ?_ (.inr (by first | (simp; done) | (simp; omega))) _ | with_reducible refine Fr.alloc ?_ _ | with_reducible refine Fr.drew ?_ | with_reducible refine Fr.drewN ?_ _ | with_reducible refine Fr.tr ?_ (by assumption)))
  · have e : smallB q d = false := by unfold smallB; simp [h1]
    rw [e]; clear e
    go_enter Try.func6, Try.ntmps6
    go_wp2
    go_ret
    refine ⟨rfl, ?_⟩
    (repeat (first | with_reducible exact Fr.refl _ _ | with_reducible refine Fr.setCell ?_ (.inr (by first | (simp; done) | (simp; omega))) _ | with_reducible refine Fr.alloc ?_ _ | with_reducible refine Fr.drew ?_ | with_reducible refine Fr.drewN ?_ _ | with_reducible refine Fr.tr ?_ (by assumption)))
/-! ### Box -/
def NilBox (w : World) (e : Ending) (w' : World) : Prop := e = .returned (.tuple #[.agg #[.slice none 0 0, .slice none 0 0], .int .i64 1]) ∧ Fr No w w'
theorem nil_ret {w : World} {e : Ending} {w' : World} (h : NilBox w e w') : BoxRet w [] [] (.int .i64 1) e w' := ⟨_, 0, 0, _, 0, 0, h.1, Kv.none_ _, Kv.none_ _, h.2⟩
set_option maxHeartbeats 1600000 in
theorem box_out (h : Rq w q d) (m : Int) (hD : D < 4 ∨ (4 ≤ D ∧ 6 < D)) :
    Calls Try.prog 8 #[.agg #[.int .i64 D, .slice q.K q.kn q.kc, .string q.S, .slice q.A q.an q.ac, .slice q.B q.bn q.bc, .slice q.X q.xn q.xc, .int .i64 q.M, .slice q.R q.rn q.rc], .int .i64 m] w (NilBox w) := by
  have hO : Ob ((w.alloc (.cells #[.int .i64 D, .slice q.K q.kn q.kc, .string q.S, .slice q.A q.an q.ac, .slice q.B q.bn q.bc, .slice q.X q.xn q.xc, .int .i64 q.M, .slice q.R q.rn q.rc] 37)).alloc (.cells #[.slice none 0 0, .slice none 0 0] 25)) (w.heap.size + 1) #[.slice none 0 0, .slice none 0 0] 25 := by (repeat (first | with_reducible assumption | with_reducible refine Ob.other ?_ (by first | (simp; done) | (simp; omega)) _ | ((with_reducible refine Ob.new_ _ _ _ _ ?_) <;> (simp; done)) | with_reducible refine Ob.alloc ?_ _ | with_reducible refine Ob.drew ?_ | with_reducible refine Ob.drewN ?_ _ | with_reducible refine Ob.no ?_ (by assumption)))
  have q0 := hO.cell 0 (v := .slice none 0 0) rfl
  have q1 := hO.cell 1 (v := .slice none 0 0) rfl
  rcases hD with hD | ⟨hD1, hD2⟩
  all_goals
    go_enter Try.func8, Try.ntmps8
    go_wp2
    refine bodyPost_ret (v := .tuple #[.agg #[.slice none 0 0, .slice none 0 0], .int .i64 1]) (by simp [results, Try.results8, go_sem, q0, q1]) rfl ?_
    refine ⟨rfl, ?_⟩
    (repeat (first | with_reducible exact Fr.refl _ _ | with_reducible refine Fr.setCell ?_ (.inr (by first | (simp; done) | (simp; omega))) _ | with_reducible refine Fr.alloc ?_ _ | with_reducible refine Fr.drew ?_ | with_reducible refine Fr.drewN ?_ _ | with_reducible refine Fr.tr ?_ (by assumption)))
set_option maxHeartbeats 1600000 in
theorem box_bad (h : Rq w q d) (m : Int) (h4 : 4 ≤ D) (h6 : D ≤ 6) (hc : chkR D q d m true false = 1) :
    Calls Try.prog 8 #[.agg #[.int .i64 D, .slice q.K q.kn q.kc, .string q.S, .slice q.A q.an q.ac, .slice q.B q.bn q.bc, .slice q.X q.xn q.xc, .int .i64 q.M, .slice q.R q.rn q.rc], .int .i64 m] w (NilBox w) := by
  have hO : Ob ((w.alloc (.cells #[.int .i64 D, .slice q.K q.kn q.kc, .string q.S, .slice q.A q.an q.ac, .slice q.B q.bn q.bc, .slice q.X q.xn q.xc, .int .i64 q.M, .slice q.R q.rn q.rc] 37)).alloc (.cells #[.slice none 0 0, .slice none 0 0] 25)) (w.heap.size + 1) #[.slice none 0 0, .slice none 0 0] 25 := by (repeat (first | with_reducible assumption | with_reducible refine Ob.other ?_ (by first | (simp; done) | (simp; omega)) _ | ((with_reducible refine Ob.new_ _ _ _ _ ?_) <;> (simp; done)) | with_reducible refine Ob.alloc ?_ _ | with_reducible refine Ob.drew ?_ | with_reducible refine Ob.drewN ?_ _ | with_reducible refine Ob.no ?_ (by assumption)))
  have hO2 : Ob ((w.alloc (.cells #[.int .i64 D, .slice q.K q.kn q.kc, .string q.S, .slice q.A q.an q.ac, .slice q.B q.bn q.bc, .slice q.X q.xn q.xc, .int .i64 q.M, .slice q.R q.rn q.rc] 37)).alloc (.cells #[.slice none 0 0, .slice none 0 0] 25)) w.heap.size #[.int .i64 D, .slice q.K q.kn q.kc, .string q.S, .slice q.A q.an q.ac, .slice q.B q.bn q.bc, .slice q.X q.xn q.xc, .int .i64 q.M, .slice q.R q.rn q.rc] 37 := by (repeat (first | with_reducible assumption | with_reducible refine Ob.other ?_ (by first | (simp; done) | (simp; omega)) _ | ((with_reducible refine Ob.new_ _ _ _ _ ?_) <;> (simp; done)) | with_reducible refine Ob.alloc ?_ _ | with_reducible refine Ob.drew ?_ | with_reducible refine Ob.drewN ?_ _ | with_reducible refine Ob.no ?_ (by assumption)))
  have Hc := Lib.hid hc
  have Hq := h.no (show Fr No w ((w.alloc (.cells #[.int .i64 D, .slice q.K q.kn q.kc, .string q.S, .slice q.A q.an q.ac, .slice q.B q.bn q.bc, .slice q.X q.xn q.xc, .int .i64 q.M, .slice q.R q.rn q.rc] 37)).alloc (.cells #[.slice none 0 0, .slice none 0 0] 25)) by (repeat (first | with_reducible exact Fr.refl _ _ | with_reducible refine Fr.setCell ?_ (.inr (by first | (simp; done) | (simp; omega))) _ | with_reducible refine Fr.alloc ?_ _ | with_reducible refine Fr.drew ?_ | with_reducible refine Fr.drewN ?_ _ | with_reducible refine Fr.tr ?_ (by assumption))))
  clear hc
  go_enter Try.func8, Try.ntmps8
  go_wp2_with (go_at_call 11; ((with_reducible refine (rqcheck_any Hq _ _ _).mono ?_); rintro e w1 ⟨rfl, hf1⟩; rw [Hc.out]; obtain ⟨q0, q1, q2, q3⟩ := Ob.four (hO.no hf1)))
  refine bodyPost_ret (v := .tuple #[.agg #[.slice none 0 0, .slice none 0 0], .int .i64 1]) (by simp [results, Try.results8, go_sem, q0, q1]) rfl ?_
  refine ⟨rfl, ?_⟩
  (repeat (first | with_reducible exact Fr.refl _ _ | with_reducible refine Fr.setCell ?_ (.inr (by first | (simp; done) | (simp; omega))) _ | with_reducible refine Fr.alloc ?_ _ | with_reducible refine Fr.drew ?_ | with_reducible refine Fr.drewN ?_ _ | with_reducible refine Fr.tr ?_ (by assumption)))
end
end Go.Proofs.Ytpkhmakgebaofaa.Qf25
