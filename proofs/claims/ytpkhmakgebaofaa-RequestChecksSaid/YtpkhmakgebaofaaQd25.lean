/- Layer 25: whether a request may be. -/
import Derived.Test.YtpkhmakgebaofaaQc25
import Derived.Deep.RegionHeld3
namespace Go.Proofs.Ytpkhmakgebaofaa.Qd25
open Go.RowKit Go.Proofs.Ytpkhmakgebaofaa.Pk08 Go.Proofs.Ytpkhmakgebaofaa.Base Go.Proofs.Ytpkhmakgebaofaa.App Go.Proofs.Ytpkhmakgebaofaa.Ky Go.Proofs.Ytpkhmakgebaofaa.Iv Go.Proofs.Ytpkhmakgebaofaa.Rv Go.Proofs.Ytpkhmakgebaofaa.Ra Go.Proofs.Ytpkhmakgebaofaa.Kc08 Go.Proofs.Ytpkhmakgebaofaa.Ke08 Go.Proofs.Ytpkhmakgebaofaa.Kj08 Go.Proofs.Ytpkhmakgebaofaa.Ka08 Go.Proofs.Ytpkhmakgebaofaa.Qb25 Go.Proofs.Ytpkhmakgebaofaa.Qc25
set_option linter.unusedVariables false
set_option linter.unusedSimpArgs false
/-- What must be so, by the kind D. -/
def okD (D : Int) (q : RqC) (d : RqD) (m : Int) (ins : Bool) : Bool :=
  if D = 1 then recC q.kn q.S m == 0
  else if D = 2 ∨ D = 3 then chk q.kn m == 0
  else if D = 4 ∨ D = 6 then chkB d.lo d.hi m == 0
  else if D = 5 then pE m d.ats d.ks == 0
  else if D = 7 then (decide (0 ≤ q.M) && (decide (q.M ≤ 1000) && (chk q.kn m == 0)))
  else if D = 8 then (decide (q.rn ≤ 1000) && okAll d.rs m)
  else if D = 9 then !ins
  else if D = 10 ∨ D = 11 then ins
  else decide (D = 12)
def chkR (D : Int) (q : RqC) (d : RqD) (m : Int) (op ins : Bool) : Int := if op = true ∧ 1 ≤ m ∧ m ≤ 6 ∧ okD D q d m ins = true then 0 else 1
theorem chkR_rng (D : Int) (q : RqC) (d : RqD) (m : Int) (op ins : Bool) : chkR D q d m op ins = 0 ∨ chkR D q d m op ins = 1 := by unfold chkR; split <;> simp
theorem chkR_no {D : Int} {q : RqC} {d : RqD} {m : Int} {op ins : Bool} (h : ¬ (op = true ∧ 1 ≤ m ∧ m ≤ 6 ∧ okD D q d m ins = true)) : chkR D q d m op ins = 1 := by unfold chkR; rw [if_neg h]
theorem chkR_b {D : Int} {q : RqC} {d : RqD} {m : Int} {ins : Bool} (h1 : 1 ≤ m) (h2 : m ≤ 6) {b : Bool} (hb : okD D q d m ins = b) : chkR D q d m true ins = if b = true then 0 else 1 := by
  unfold chkR
  rw [hb]
  by_cases h : b = true
  · rw [if_pos ⟨rfl, h1, h2, h⟩, if_pos h]
  · rw [if_neg (fun x => h x.2.2.2), if_neg h]
theorem okD_out {D : Int} {q : RqC} {d : RqD} {m : Int} {ins : Bool} (h : D < 1 ∨ 12 < D) : okD D q d m ins = false := by
  unfold okD
  rw [if_neg (by omega), if_neg (by omega), if_neg (by omega), if_neg (by omega), if_neg (by omega), if_neg (by omega), if_neg (by omega), if_neg (by omega)]
  exact decide_eq_false (by omega)
theorem eight {w' : World} {g : Nat} {a0 a1 a2 a3 a4 a5 a6 a7 : Value} {T : TypeId} (h : Ob w' g #[a0, a1, a2, a3, a4, a5, a6, a7] T) :
    w'.cell? ⟨g, 0, none⟩ = some a0 ∧ w'.cell? ⟨g, 1, none⟩ = some a1 ∧ w'.cell? ⟨g, 2, none⟩ = some a2 ∧ w'.cell? ⟨g, 3, none⟩ = some a3 ∧ w'.cell? ⟨g, 4, none⟩ = some a4 ∧ w'.cell? ⟨g, 5, none⟩ = some a5 ∧ w'.cell? ⟨g, 6, none⟩ = some a6 ∧ w'.cell? ⟨g, 7, none⟩ = some a7 :=
  ⟨h.cell 0 rfl, h.cell 1 rfl, h.cell 2 rfl, h.cell 3 rfl, h.cell 4 rfl, h.cell 5 rfl, h.cell 6 rfl, h.cell 7 rfl⟩
section
variable {w : World} {q : RqC} {d : RqD} {D : Int}
set_option maxHeartbeats 1600000 in
theorem check_no (m : Int) (op ins : Bool) (h : op = false ∨ (op = true ∧ m < 1) ∨ (op = true ∧ 1 ≤ m ∧ 6 < m) ∨ (op = true ∧ 1 ≤ m ∧ m ≤ 6 ∧ D < 1) ∨ (op = true ∧ 1 ≤ m ∧ m ≤ 6 ∧ 1 ≤ D ∧ 12 < D)) :
    Calls Try.prog 11 #[.agg #[.int .i64 D, .slice q.K q.kn q.kc, .string q.S, .slice q.A q.an q.ac, .slice q.B q.bn q.bc, .slice q.X q.xn q.xc, .int .i64 q.M, .slice q.R q.rn q.rc], .int .i64 m, .bool op, .bool ins] w fun e w' => e = .returned (.int .i64 1) ∧ Fr No w w' := by
  have hO : Ob (w.alloc (.cells #[.int .i64 D, .slice q.K q.kn q.kc, .string q.S, .slice q.A q.an q.ac, .slice q.B q.bn q.bc, .slice q.X q.xn q.xc, .int .i64 q.M, .slice q.R q.rn q.rc] 37)) w.heap.size #[.int .i64 D, .slice q.K q.kn q.kc, .string q.S, .slice q.A q.an q.ac, .slice q.B q.bn q.bc, .slice q.X q.xn q.xc, .int .i64 q.M, .slice q.R q.rn q.rc] 37 := by (repeat (first | with_reducible assumption | with_reducible refine Ob.other ?_ (by first | (simp; done) | (simp; omega)) _ | ((with_reducible refine Ob.new_ _ _ _ _ ?_) <;> (simp; done)) | with_reducible refine Ob.alloc ?_ _ | with_reducible refine Ob.drew ?_ | with_reducible refine Ob.drewN ?_ _ | with_reducible refine Ob.no ?_ (by assumption)))
  have c0 := hO.cell 0 (v := .int .i64 D) rfl
  rcases h with rfl | ⟨rfl, h1⟩ | ⟨rfl, h1, h2⟩ | ⟨rfl, h1, h2, h3⟩ | ⟨rfl, h1, h2, h3, h4⟩
  · go_enter Try.func11, Try.ntmps11
    go_wp2
    go_quiet (fail)
    go_wp2
    go_ret
    refine ⟨rfl, ?_⟩
    (repeat (first | with_reducible exact Fr.refl _ _ | with_reducible refine Fr.setCell ?_ (.inr (by first | (simp; done) | (simp; omega))) _ | with_reducible refine Fr.alloc ?_ _ | with_reducible refine Fr.drew ?_ | with_reducible refine Fr.drewN ?_ _ | with_reducible refine Fr.tr ?_ (by assumption)))
  · have d1 : decide (m < 1) = true := decide_eq_true h1
    go_enter Try.func11, Try.ntmps11
    go_wp2
    go_quiet (fail)
    go_wp2
    go_ret
    refine ⟨rfl, ?_⟩
    (repeat (first | with_reducible exact Fr.refl _ _ | with_reducible refine Fr.setCell ?_ (.inr (by first | (simp; done) | (simp; omega))) _ | with_reducible refine Fr.alloc ?_ _ | with_reducible refine Fr.drew ?_ | with_reducible refine Fr.drewN ?_ _ | with_reducible refine Fr.tr ?_ (by assumption)))
  · have d1 : decide (m < 1) = false := decide_eq_false (by omega)
    have d2 : decide (6 < m) = true := decide_eq_true h2
    go_enter Try.func11, Try.ntmps11
    go_wp2
    go_quiet (fail)
    go_wp2
    go_ret
    refine ⟨rfl, ?_⟩
    (repeat (first | with_reducible exact Fr.refl _ _ | with_reducible refine Fr.setCell ?_ (.inr (by first | (simp; done) | (simp; omega))) _ | with_reducible refine Fr.alloc ?_ _ | with_reducible refine Fr.drew ?_ | with_reducible refine Fr.drewN ?_ _ | with_reducible refine Fr.tr ?_ (by assumption)))
  · have d1 : decide (m < 1) = false := decide_eq_false (by omega)
    have d2 : decide (6 < m) = false := decide_eq_false (by omega)
    have d3 : decide (D < 1) = true := decide_eq_true h3
    go_enter Try.func11, Try.ntmps11
    go_wp2
    go_quiet (fail)
    go_wp2
    go_ret
    refine ⟨rfl, ?_⟩
    (repeat (first | with_reducible exact Fr.refl _ _ | with_reducible refine Fr.setCell ?_ (.inr (by first | (simp; done) | (simp; omega))) _ | with_reducible refine Fr.alloc ?_ _ | with_reducible refine Fr.drew ?_ | with_reducible refine Fr.drewN ?_ _ | with_reducible refine Fr.tr ?_ (by assumption)))
  · have d1 : decide (m < 1) = false := decide_eq_false (by omega)
    have d2 : decide (6 < m) = false := decide_eq_false (by omega)
    have d3 : decide (D < 1) = false := decide_eq_false (by omega)
    have d4 : decide (12 < D) = true := decide_eq_true h4
    go_enter Try.func11, Try.ntmps11
    go_wp2
    go_quiet (fail)
    go_wp2
    go_ret
    refine ⟨rfl, ?_⟩
    (repeat (first | with_reducible exact Fr.refl _ _ | with_reducible refine Fr.setCell ?_ (.inr (by first | (simp; done) | (simp; omega))) _ | with_reducible refine Fr.alloc ?_ _ | with_reducible refine Fr.drew ?_ | with_reducible refine Fr.drewN ?_ _ | with_reducible refine Fr.tr ?_ (by assumption)))
theorem idx1 (w : World) : (Instr.index 51 (.agg rulesV) (.int .i64 1)).run Try.prog w = .ok (.func (.func 26) #[] #[]) w := by kernel_rfl
set_option maxHeartbeats 1600000 in
theorem check_1 (h : Rq w q d) (m : Int) (h1 : 1 ≤ m) (h2 : m ≤ 6) (ins : Bool) {b : Bool} (hb : okD 1 q d m ins = b) :
    Calls Try.prog 11 #[.agg #[.int .i64 1, .slice q.K q.kn q.kc, .string q.S, .slice q.A q.an q.ac, .slice q.B q.bn q.bc, .slice q.X q.xn q.xc, .int .i64 q.M, .slice q.R q.rn q.rc], .int .i64 m, .bool true, .bool ins] w fun e w' => e = .returned (.int .i64 (if b = true then 0 else 1)) ∧ Fr No w w' := by
  have hO : Ob (w.alloc (.cells #[.int .i64 1, .slice q.K q.kn q.kc, .string q.S, .slice q.A q.an q.ac, .slice q.B q.bn q.bc, .slice q.X q.xn q.xc, .int .i64 q.M, .slice q.R q.rn q.rc] 37)) w.heap.size #[.int .i64 1, .slice q.K q.kn q.kc, .string q.S, .slice q.A q.an q.ac, .slice q.B q.bn q.bc, .slice q.X q.xn q.xc, .int .i64 q.M, .slice q.R q.rn q.rc] 37 := by (repeat (first | with_reducible assumption | with_reducible refine Ob.other ?_ (by first | (simp; done) | (simp; omega)) _ | ((with_reducible refine Ob.new_ _ _ _ _ ?_) <;> (simp; done)) | with_reducible refine Ob.alloc ?_ _ | with_reducible refine Ob.drew ?_ | with_reducible refine Ob.drewN ?_ _ | with_reducible refine Ob.no ?_ (by assumption)))
  have Hb := Lib.hid (show (recC q.kn q.S m == 0) = b from hb)
  clear hb
  have d1 : decide (m < 1) = false := decide_eq_false (by omega)
  have d2 : decide (6 < m) = false := decide_eq_false (by omega)
  have hix := idx1
  go_enter Try.func11, Try.ntmps11
  go_wp2
  go_region_held3 (fun w' => w'.cell? ⟨w.heap.size, 0, none⟩ = some (.int .i64 1) ∧ w'.cell? ⟨w.heap.size, 1, none⟩ = some (.slice q.K q.kn q.kc) ∧ w'.cell? ⟨w.heap.size, 2, none⟩ = some (.string q.S) ∧ w'.cell? ⟨w.heap.size, 3, none⟩ = some (.slice q.A q.an q.ac) ∧ w'.cell? ⟨w.heap.size, 4, none⟩ = some (.slice q.B q.bn q.bc) ∧ w'.cell? ⟨w.heap.size, 5, none⟩ = some (.slice q.X q.xn q.xc) ∧ w'.cell? ⟨w.heap.size, 6, none⟩ = some (.int .i64 q.M) ∧ w'.cell? ⟨w.heap.size, 7, none⟩ = some (.slice q.R q.rn q.rc))
    ((refine eight (T := 37) ?_; (repeat (first | with_reducible assumption | with_reducible refine Ob.other ?_ (by first | (simp; done) | (simp; omega)) _ | ((with_reducible refine Ob.new_ _ _ _ _ ?_) <;> (simp; done)) | with_reducible refine Ob.alloc ?_ _ | with_reducible refine Ob.drew ?_ | with_reducible refine Ob.drewN ?_ _ | with_reducible refine Ob.no ?_ (by assumption)))))
    (first
      | (go_at_call 18; ((with_reducible refine (rules_any).mono ?_); rintro e w1 ⟨rfl, hf1⟩))
      | (have Hq := (h.no (show Fr No w w1 by (repeat (first | with_reducible exact Fr.refl _ _ | with_reducible refine Fr.setCell ?_ (.inr (by first | (simp; done) | (simp; omega))) _ | with_reducible refine Fr.alloc ?_ _ | with_reducible refine Fr.drew ?_ | with_reducible refine Fr.drewN ?_ _ | with_reducible refine Fr.tr ?_ (by assumption))))); (go_at_call 26; ((with_reducible refine (isPut_any Hq _ _).mono ?_); rintro e w2 ⟨rfl, hf2⟩; rw [Hb.out])))
      | fail)
  all_goals
    go_wp2
    all_goals
      go_ret
      refine ⟨by first | rfl | simp_all, ?_⟩
      (repeat (first | with_reducible exact Fr.refl _ _ | with_reducible refine Fr.setCell ?_ (.inr (by first | (simp; done) | (simp; omega))) _ | with_reducible refine Fr.alloc ?_ _ | with_reducible refine Fr.drew ?_ | with_reducible refine Fr.drewN ?_ _ | with_reducible refine Fr.tr ?_ (by assumption)))
theorem idx2 (w : World) : (Instr.index 51 (.agg rulesV) (.int .i64 2)).run Try.prog w = .ok (.func (.func 27) #[] #[]) w := by kernel_rfl
set_option maxHeartbeats 1600000 in
theorem check_2 (h : Rq w q d) (m : Int) (h1 : 1 ≤ m) (h2 : m ≤ 6) (ins : Bool) {b : Bool} (hb : okD 2 q d m ins = b) :
    Calls Try.prog 11 #[.agg #[.int .i64 2, .slice q.K q.kn q.kc, .string q.S, .slice q.A q.an q.ac, .slice q.B q.bn q.bc, .slice q.X q.xn q.xc, .int .i64 q.M, .slice q.R q.rn q.rc], .int .i64 m, .bool true, .bool ins] w fun e w' => e = .returned (.int .i64 (if b = true then 0 else 1)) ∧ Fr No w w' := by
  have hO : Ob (w.alloc (.cells #[.int .i64 2, .slice q.K q.kn q.kc, .string q.S, .slice q.A q.an q.ac, .slice q.B q.bn q.bc, .slice q.X q.xn q.xc, .int .i64 q.M, .slice q.R q.rn q.rc] 37)) w.heap.size #[.int .i64 2, .slice q.K q.kn q.kc, .string q.S, .slice q.A q.an q.ac, .slice q.B q.bn q.bc, .slice q.X q.xn q.xc, .int .i64 q.M, .slice q.R q.rn q.rc] 37 := by (repeat (first | with_reducible assumption | with_reducible refine Ob.other ?_ (by first | (simp; done) | (simp; omega)) _ | ((with_reducible refine Ob.new_ _ _ _ _ ?_) <;> (simp; done)) | with_reducible refine Ob.alloc ?_ _ | with_reducible refine Ob.drew ?_ | with_reducible refine Ob.drewN ?_ _ | with_reducible refine Ob.no ?_ (by assumption)))
  have Hb := Lib.hid (show (chk q.kn m == 0) = b from hb)
  clear hb
  have d1 : decide (m < 1) = false := decide_eq_false (by omega)
  have d2 : decide (6 < m) = false := decide_eq_false (by omega)
  have hix := idx2
  go_enter Try.func11, Try.ntmps11
  go_wp2
  go_region_held3 (fun w' => w'.cell? ⟨w.heap.size, 0, none⟩ = some (.int .i64 2) ∧ w'.cell? ⟨w.heap.size, 1, none⟩ = some (.slice q.K q.kn q.kc) ∧ w'.cell? ⟨w.heap.size, 2, none⟩ = some (.string q.S) ∧ w'.cell? ⟨w.heap.size, 3, none⟩ = some (.slice q.A q.an q.ac) ∧ w'.cell? ⟨w.heap.size, 4, none⟩ = some (.slice q.B q.bn q.bc) ∧ w'.cell? ⟨w.heap.size, 5, none⟩ = some (.slice q.X q.xn q.xc) ∧ w'.cell? ⟨w.heap.size, 6, none⟩ = some (.int .i64 q.M) ∧ w'.cell? ⟨w.heap.size, 7, none⟩ = some (.slice q.R q.rn q.rc))
    ((refine eight (T := 37) ?_; (repeat (first | with_reducible assumption | with_reducible refine Ob.other ?_ (by first | (simp; done) | (simp; omega)) _ | ((with_reducible refine Ob.new_ _ _ _ _ ?_) <;> (simp; done)) | with_reducible refine Ob.alloc ?_ _ | with_reducible refine Ob.drew ?_ | with_reducible refine Ob.drewN ?_ _ | with_reducible refine Ob.no ?_ (by assumption)))))
    (first
      | (go_at_call 18; ((with_reducible refine (rules_any).mono ?_); rintro e w1 ⟨rfl, hf1⟩))
      | (have Hq := (h.no (show Fr No w w1 by (repeat (first | with_reducible exact Fr.refl _ _ | with_reducible refine Fr.setCell ?_ (.inr (by first | (simp; done) | (simp; omega))) _ | with_reducible refine Fr.alloc ?_ _ | with_reducible refine Fr.drew ?_ | with_reducible refine Fr.drewN ?_ _ | with_reducible refine Fr.tr ?_ (by assumption))))); (go_at_call 27; ((with_reducible refine (isKey_any _ _).mono ?_); rintro e w2 ⟨rfl, hf2⟩; rw [Hb.out])))
      | fail)
  all_goals
    go_wp2
    all_goals
      go_ret
      refine ⟨by first | rfl | simp_all, ?_⟩
      (repeat (first | with_reducible exact Fr.refl _ _ | with_reducible refine Fr.setCell ?_ (.inr (by first | (simp; done) | (simp; omega))) _ | with_reducible refine Fr.alloc ?_ _ | with_reducible refine Fr.drew ?_ | with_reducible refine Fr.drewN ?_ _ | with_reducible refine Fr.tr ?_ (by assumption)))
theorem idx3 (w : World) : (Instr.index 51 (.agg rulesV) (.int .i64 3)).run Try.prog w = .ok (.func (.func 27) #[] #[]) w := by kernel_rfl
set_option maxHeartbeats 1600000 in
theorem check_3 (h : Rq w q d) (m : Int) (h1 : 1 ≤ m) (h2 : m ≤ 6) (ins : Bool) {b : Bool} (hb : okD 3 q d m ins = b) :
    Calls Try.prog 11 #[.agg #[.int .i64 3, .slice q.K q.kn q.kc, .string q.S, .slice q.A q.an q.ac, .slice q.B q.bn q.bc, .slice q.X q.xn q.xc, .int .i64 q.M, .slice q.R q.rn q.rc], .int .i64 m, .bool true, .bool ins] w fun e w' => e = .returned (.int .i64 (if b = true then 0 else 1)) ∧ Fr No w w' := by
  have hO : Ob (w.alloc (.cells #[.int .i64 3, .slice q.K q.kn q.kc, .string q.S, .slice q.A q.an q.ac, .slice q.B q.bn q.bc, .slice q.X q.xn q.xc, .int .i64 q.M, .slice q.R q.rn q.rc] 37)) w.heap.size #[.int .i64 3, .slice q.K q.kn q.kc, .string q.S, .slice q.A q.an q.ac, .slice q.B q.bn q.bc, .slice q.X q.xn q.xc, .int .i64 q.M, .slice q.R q.rn q.rc] 37 := by (repeat (first | with_reducible assumption | with_reducible refine Ob.other ?_ (by first | (simp; done) | (simp; omega)) _ | ((with_reducible refine Ob.new_ _ _ _ _ ?_) <;> (simp; done)) | with_reducible refine Ob.alloc ?_ _ | with_reducible refine Ob.drew ?_ | with_reducible refine Ob.drewN ?_ _ | with_reducible refine Ob.no ?_ (by assumption)))
  have Hb := Lib.hid (show (chk q.kn m == 0) = b from hb)
  clear hb
  have d1 : decide (m < 1) = false := decide_eq_false (by omega)
  have d2 : decide (6 < m) = false := decide_eq_false (by omega)
  have hix := idx3
  go_enter Try.func11, Try.ntmps11
  go_wp2
  go_region_held3 (fun w' => w'.cell? ⟨w.heap.size, 0, none⟩ = some (.int .i64 3) ∧ w'.cell? ⟨w.heap.size, 1, none⟩ = some (.slice q.K q.kn q.kc) ∧ w'.cell? ⟨w.heap.size, 2, none⟩ = some (.string q.S) ∧ w'.cell? ⟨w.heap.size, 3, none⟩ = some (.slice q.A q.an q.ac) ∧ w'.cell? ⟨w.heap.size, 4, none⟩ = some (.slice q.B q.bn q.bc) ∧ w'.cell? ⟨w.heap.size, 5, none⟩ = some (.slice q.X q.xn q.xc) ∧ w'.cell? ⟨w.heap.size, 6, none⟩ = some (.int .i64 q.M) ∧ w'.cell? ⟨w.heap.size, 7, none⟩ = some (.slice q.R q.rn q.rc))
    ((refine eight (T := 37) ?_; (repeat (first | with_reducible assumption | with_reducible refine Ob.other ?_ (by first | (simp; done) | (simp; omega)) _ | ((with_reducible refine Ob.new_ _ _ _ _ ?_) <;> (simp; done)) | with_reducible refine Ob.alloc ?_ _ | with_reducible refine Ob.drew ?_ | with_reducible refine Ob.drewN ?_ _ | with_reducible refine Ob.no ?_ (by assumption)))))
    (first
      | (go_at_call 18; ((with_reducible refine (rules_any).mono ?_); rintro e w1 ⟨rfl, hf1⟩))
      | (have Hq := (h.no (show Fr No w w1 by (repeat (first | with_reducible exact Fr.refl _ _ | with_reducible refine Fr.setCell ?_ (.inr (by first | (simp; done) | (simp; omega))) _ | with_reducible refine Fr.alloc ?_ _ | with_reducible refine Fr.drew ?_ | with_reducible refine Fr.drewN ?_ _ | with_reducible refine Fr.tr ?_ (by assumption))))); (go_at_call 27; ((with_reducible refine (isKey_any _ _).mono ?_); rintro e w2 ⟨rfl, hf2⟩; rw [Hb.out])))
      | fail)
  all_goals
    go_wp2
    all_goals
      go_ret
      refine ⟨by first | rfl | simp_all, ?_⟩
      (repeat (first | with_reducible exact Fr.refl _ _ | with_reducible refine Fr.setCell ?_ (.inr (by first | (simp; done) | (simp; omega))) _ | with_reducible refine Fr.alloc ?_ _ | with_reducible refine Fr.drew ?_ | with_reducible refine Fr.drewN ?_ _ | with_reducible refine Fr.tr ?_ (by assumption)))
theorem idx4 (w : World) : (Instr.index 51 (.agg rulesV) (.int .i64 4)).run Try.prog w = .ok (.func (.func 28) #[] #[]) w := by kernel_rfl
set_option maxHeartbeats 1600000 in
theorem check_4 (h : Rq w q d) (m : Int) (h1 : 1 ≤ m) (h2 : m ≤ 6) (ins : Bool) {b : Bool} (hb : okD 4 q d m ins = b) :
    Calls Try.prog 11 #[.agg #[.int .i64 4, .slice q.K q.kn q.kc, .string q.S, .slice q.A q.an q.ac, .slice q.B q.bn q.bc, .slice q.X q.xn q.xc, .int .i64 q.M, .slice q.R q.rn q.rc], .int .i64 m, .bool true, .bool ins] w fun e w' => e = .returned (.int .i64 (if b = true then 0 else 1)) ∧ Fr No w w' := by
  have hO : Ob (w.alloc (.cells #[.int .i64 4, .slice q.K q.kn q.kc, .string q.S, .slice q.A q.an q.ac, .slice q.B q.bn q.bc, .slice q.X q.xn q.xc, .int .i64 q.M, .slice q.R q.rn q.rc] 37)) w.heap.size #[.int .i64 4, .slice q.K q.kn q.kc, .string q.S, .slice q.A q.an q.ac, .slice q.B q.bn q.bc, .slice q.X q.xn q.xc, .int .i64 q.M, .slice q.R q.rn q.rc] 37 := by (repeat (first | with_reducible assumption | with_reducible refine Ob.other ?_ (by first | (simp; done) | (simp; omega)) _ | ((with_reducible refine Ob.new_ _ _ _ _ ?_) <;> (simp; done)) | with_reducible refine Ob.alloc ?_ _ | with_reducible refine Ob.drew ?_ | with_reducible refine Ob.drewN ?_ _ | with_reducible refine Ob.no ?_ (by assumption)))
  have Hb := Lib.hid (show (chkB d.lo d.hi m == 0) = b from hb)
  clear hb
  have d1 : decide (m < 1) = false := decide_eq_false (by omega)
  have d2 : decide (6 < m) = false := decide_eq_false (by omega)
  have hix := idx4
  go_enter Try.func11, Try.ntmps11
  go_wp2
  go_region_held3 (fun w' => w'.cell? ⟨w.heap.size, 0, none⟩ = some (.int .i64 4) ∧ w'.cell? ⟨w.heap.size, 1, none⟩ = some (.slice q.K q.kn q.kc) ∧ w'.cell? ⟨w.heap.size, 2, none⟩ = some (.string q.S) ∧ w'.cell? ⟨w.heap.size, 3, none⟩ = some (.slice q.A q.an q.ac) ∧ w'.cell? ⟨w.heap.size, 4, none⟩ = some (.slice q.B q.bn q.bc) ∧ w'.cell? ⟨w.heap.size, 5, none⟩ = some (.slice q.X q.xn q.xc) ∧ w'.cell? ⟨w.heap.size, 6, none⟩ = some (.int .i64 q.M) ∧ w'.cell? ⟨w.heap.size, 7, none⟩ = some (.slice q.R q.rn q.rc))
    ((refine eight (T := 37) ?_; (repeat (first | with_reducible assumption | with_reducible refine Ob.other ?_ (by first | (simp; done) | (simp; omega)) _ | ((with_reducible refine Ob.new_ _ _ _ _ ?_) <;> (simp; done)) | with_reducible refine Ob.alloc ?_ _ | with_reducible refine Ob.drew ?_ | with_reducible refine Ob.drewN ?_ _ | with_reducible refine Ob.no ?_ (by assumption)))))
    (first
      | (go_at_call 18; ((with_reducible refine (rules_any).mono ?_); rintro e w1 ⟨rfl, hf1⟩))
      | (have Hq := (h.no (show Fr No w w1 by (repeat (first | with_reducible exact Fr.refl _ _ | with_reducible refine Fr.setCell ?_ (.inr (by first | (simp; done) | (simp; omega))) _ | with_reducible refine Fr.alloc ?_ _ | with_reducible refine Fr.drew ?_ | with_reducible refine Fr.drewN ?_ _ | with_reducible refine Fr.tr ?_ (by assumption))))); (go_at_call 28; ((with_reducible refine (isBox_any Hq _ _).mono ?_); rintro e w2 ⟨rfl, hf2⟩; rw [Hb.out])))
      | fail)
  all_goals
    go_wp2
    all_goals
      go_ret
      refine ⟨by first | rfl | simp_all, ?_⟩
      (repeat (first | with_reducible exact Fr.refl _ _ | with_reducible refine Fr.setCell ?_ (.inr (by first | (simp; done) | (simp; omega))) _ | with_reducible refine Fr.alloc ?_ _ | with_reducible refine Fr.drew ?_ | with_reducible refine Fr.drewN ?_ _ | with_reducible refine Fr.tr ?_ (by assumption)))
theorem idx5 (w : World) : (Instr.index 51 (.agg rulesV) (.int .i64 5)).run Try.prog w = .ok (.func (.func 29) #[] #[]) w := by kernel_rfl
set_option maxHeartbeats 1600000 in
theorem check_5 (h : Rq w q d) (m : Int) (h1 : 1 ≤ m) (h2 : m ≤ 6) (ins : Bool) {b : Bool} (hb : okD 5 q d m ins = b) :
    Calls Try.prog 11 #[.agg #[.int .i64 5, .slice q.K q.kn q.kc, .string q.S, .slice q.A q.an q.ac, .slice q.B q.bn q.bc, .slice q.X q.xn q.xc, .int .i64 q.M, .slice q.R q.rn q.rc], .int .i64 m, .bool true, .bool ins] w fun e w' => e = .returned (.int .i64 (if b = true then 0 else 1)) ∧ Fr No w w' := by
  have hO : Ob (w.alloc (.cells #[.int .i64 5, .slice q.K q.kn q.kc, .string q.S, .slice q.A q.an q.ac, .slice q.B q.bn q.bc, .slice q.X q.xn q.xc, .int .i64 q.M, .slice q.R q.rn q.rc] 37)) w.heap.size #[.int .i64 5, .slice q.K q.kn q.kc, .string q.S, .slice q.A q.an q.ac, .slice q.B q.bn q.bc, .slice q.X q.xn q.xc, .int .i64 q.M, .slice q.R q.rn q.rc] 37 := by (repeat (first | with_reducible assumption | with_reducible refine Ob.other ?_ (by first | (simp; done) | (simp; omega)) _ | ((with_reducible refine Ob.new_ _ _ _ _ ?_) <;> (simp; done)) | with_reducible refine Ob.alloc ?_ _ | with_reducible refine Ob.drew ?_ | with_reducible refine Ob.drewN ?_ _ | with_reducible refine Ob.no ?_ (by assumption)))
  have Hb := Lib.hid (show (pE m d.ats d.ks == 0) = b from hb)
  clear hb
  have d1 : decide (m < 1) = false := decide_eq_false (by omega)
  have d2 : decide (6 < m) = false := decide_eq_false (by omega)
  have hix := idx5
  go_enter Try.func11, Try.ntmps11
  go_wp2
  go_region_held3 (fun w' => w'.cell? ⟨w.heap.size, 0, none⟩ = some (.int .i64 5) ∧ w'.cell? ⟨w.heap.size, 1, none⟩ = some (.slice q.K q.kn q.kc) ∧ w'.cell? ⟨w.heap.size, 2, none⟩ = some (.string q.S) ∧ w'.cell? ⟨w.heap.size, 3, none⟩ = some (.slice q.A q.an q.ac) ∧ w'.cell? ⟨w.heap.size, 4, none⟩ = some (.slice q.B q.bn q.bc) ∧ w'.cell? ⟨w.heap.size, 5, none⟩ = some (.slice q.X q.xn q.xc) ∧ w'.cell? ⟨w.heap.size, 6, none⟩ = some (.int .i64 q.M) ∧ w'.cell? ⟨w.heap.size, 7, none⟩ = some (.slice q.R q.rn q.rc))
    ((refine eight (T := 37) ?_; (repeat (first | with_reducible assumption | with_reducible refine Ob.other ?_ (by first | (simp; done) | (simp; omega)) _ | ((with_reducible refine Ob.new_ _ _ _ _ ?_) <;> (simp; done)) | with_reducible refine Ob.alloc ?_ _ | with_reducible refine Ob.drew ?_ | with_reducible refine Ob.drewN ?_ _ | with_reducible refine Ob.no ?_ (by assumption)))))
    (first
      | (go_at_call 18; ((with_reducible refine (rules_any).mono ?_); rintro e w1 ⟨rfl, hf1⟩))
      | (have Hq := (h.no (show Fr No w w1 by (repeat (first | with_reducible exact Fr.refl _ _ | with_reducible refine Fr.setCell ?_ (.inr (by first | (simp; done) | (simp; omega))) _ | with_reducible refine Fr.alloc ?_ _ | with_reducible refine Fr.drew ?_ | with_reducible refine Fr.drewN ?_ _ | with_reducible refine Fr.tr ?_ (by assumption))))); (go_at_call 29; ((with_reducible refine (isPartial_any Hq _ _).mono ?_); rintro e w2 ⟨rfl, hf2⟩; rw [Hb.out])))
      | fail)
  all_goals
    go_wp2
    all_goals
      go_ret
      refine ⟨by first | rfl | simp_all, ?_⟩
      (repeat (first | with_reducible exact Fr.refl _ _ | with_reducible refine Fr.setCell ?_ (.inr (by first | (simp; done) | (simp; omega))) _ | with_reducible refine Fr.alloc ?_ _ | with_reducible refine Fr.drew ?_ | with_reducible refine Fr.drewN ?_ _ | with_reducible refine Fr.tr ?_ (by assumption)))
theorem idx6 (w : World) : (Instr.index 51 (.agg rulesV) (.int .i64 6)).run Try.prog w = .ok (.func (.func 28) #[] #[]) w := by kernel_rfl
set_option maxHeartbeats 1600000 in
theorem check_6 (h : Rq w q d) (m : Int) (h1 : 1 ≤ m) (h2 : m ≤ 6) (ins : Bool) {b : Bool} (hb : okD 6 q d m ins = b) :
    Calls Try.prog 11 #[.agg #[.int .i64 6, .slice q.K q.kn q.kc, .string q.S, .slice q.A q.an q.ac, .slice q.B q.bn q.bc, .slice q.X q.xn q.xc, .int .i64 q.M, .slice q.R q.rn q.rc], .int .i64 m, .bool true, .bool ins] w fun e w' => e = .returned (.int .i64 (if b = true then 0 else 1)) ∧ Fr No w w' := by
  have hO : Ob (w.alloc (.cells #[.int .i64 6, .slice q.K q.kn q.kc, .string q.S, .slice q.A q.an q.ac, .slice q.B q.bn q.bc, .slice q.X q.xn q.xc, .int .i64 q.M, .slice q.R q.rn q.rc] 37)) w.heap.size #[.int .i64 6, .slice q.K q.kn q.kc, .string q.S, .slice q.A q.an q.ac, .slice q.B q.bn q.bc, .slice q.X q.xn q.xc, .int .i64 q.M, .slice q.R q.rn q.rc] 37 := by (repeat (first | with_reducible assumption | with_reducible refine Ob.other ?_ (by first | (simp; done) | (simp; omega)) _ | ((with_reducible refine Ob.new_ _ _ _ _ ?_) <;> (simp; done)) | with_reducible refine Ob.alloc ?_ _ | with_reducible refine Ob.drew ?_ | with_reducible refine Ob.drewN ?_ _ | with_reducible refine Ob.no ?_ (by assumption)))
  have Hb := Lib.hid (show (chkB d.lo d.hi m == 0) = b from hb)
  clear hb
  have d1 : decide (m < 1) = false := decide_eq_false (by omega)
  have d2 : decide (6 < m) = false := decide_eq_false (by omega)
  have hix := idx6
  go_enter Try.func11, Try.ntmps11
  go_wp2
  go_region_held3 (fun w' => w'.cell? ⟨w.heap.size, 0, none⟩ = some (.int .i64 6) ∧ w'.cell? ⟨w.heap.size, 1, none⟩ = some (.slice q.K q.kn q.kc) ∧ w'.cell? ⟨w.heap.size, 2, none⟩ = some (.string q.S) ∧ w'.cell? ⟨w.heap.size, 3, none⟩ = some (.slice q.A q.an q.ac) ∧ w'.cell? ⟨w.heap.size, 4, none⟩ = some (.slice q.B q.bn q.bc) ∧ w'.cell? ⟨w.heap.size, 5, none⟩ = some (.slice q.X q.xn q.xc) ∧ w'.cell? ⟨w.heap.size, 6, none⟩ = some (.int .i64 q.M) ∧ w'.cell? ⟨w.heap.size, 7, none⟩ = some (.slice q.R q.rn q.rc))
    ((refine eight (T := 37) ?_; (repeat (first | with_reducible assumption | with_reducible refine Ob.other ?_ (by first | (simp; done) | (simp; omega)) _ | ((with_reducible refine Ob.new_ _ _ _ _ ?_) <;> (simp; done)) | with_reducible refine Ob.alloc ?_ _ | with_reducible refine Ob.drew ?_ | with_reducible refine Ob.drewN ?_ _ | with_reducible refine Ob.no ?_ (by assumption)))))
    (first
      | (go_at_call 18; ((with_reducible refine (rules_any).mono ?_); rintro e w1 ⟨rfl, hf1⟩))
      | (have Hq := (h.no (show Fr No w w1 by (repeat (first | with_reducible exact Fr.refl _ _ | with_reducible refine Fr.setCell ?_ (.inr (by first | (simp; done) | (simp; omega))) _ | with_reducible refine Fr.alloc ?_ _ | with_reducible refine Fr.drew ?_ | with_reducible refine Fr.drewN ?_ _ | with_reducible refine Fr.tr ?_ (by assumption))))); (go_at_call 28; ((with_reducible refine (isBox_any Hq _ _).mono ?_); rintro e w2 ⟨rfl, hf2⟩; rw [Hb.out])))
      | fail)
  all_goals
    go_wp2
    all_goals
      go_ret
      refine ⟨by first | rfl | simp_all, ?_⟩
      (repeat (first | with_reducible exact Fr.refl _ _ | with_reducible refine Fr.setCell ?_ (.inr (by first | (simp; done) | (simp; omega))) _ | with_reducible refine Fr.alloc ?_ _ | with_reducible refine Fr.drew ?_ | with_reducible refine Fr.drewN ?_ _ | with_reducible refine Fr.tr ?_ (by assumption)))
theorem idx7 (w : World) : (Instr.index 51 (.agg rulesV) (.int .i64 7)).run Try.prog w = .ok (.func (.func 30) #[] #[]) w := by kernel_rfl
set_option maxHeartbeats 1600000 in
theorem check_7 (h : Rq w q d) (m : Int) (h1 : 1 ≤ m) (h2 : m ≤ 6) (ins : Bool) {b : Bool} (hb : okD 7 q d m ins = b) :
    Calls Try.prog 11 #[.agg #[.int .i64 7, .slice q.K q.kn q.kc, .string q.S, .slice q.A q.an q.ac, .slice q.B q.bn q.bc, .slice q.X q.xn q.xc, .int .i64 q.M, .slice q.R q.rn q.rc], .int .i64 m, .bool true, .bool ins] w fun e w' => e = .returned (.int .i64 (if b = true then 0 else 1)) ∧ Fr No w w' := by
  have hO : Ob (w.alloc (.cells #[.int .i64 7, .slice q.K q.kn q.kc, .string q.S, .slice q.A q.an q.ac, .slice q.B q.bn q.bc, .slice q.X q.xn q.xc, .int .i64 q.M, .slice q.R q.rn q.rc] 37)) w.heap.size #[.int .i64 7, .slice q.K q.kn q.kc, .string q.S, .slice q.A q.an q.ac, .slice q.B q.bn q.bc, .slice q.X q.xn q.xc, .int .i64 q.M, .slice q.R q.rn q.rc] 37 := by (repeat (first | with_reducible assumption | with_reducible refine Ob.other ?_ (by first | (simp; done) | (simp; omega)) _ | ((with_reducible refine Ob.new_ _ _ _ _ ?_) <;> (simp; done)) | with_reducible refine Ob.alloc ?_ _ | with_reducible refine Ob.drew ?_ | with_reducible refine Ob.drewN ?_ _ | with_reducible refine Ob.no ?_ (by assumption)))
  have Hb := Lib.hid (show (decide (0 ≤ q.M) && (decide (q.M ≤ 1000) && (chk q.kn m == 0))) = b from hb)
  clear hb
  have d1 : decide (m < 1) = false := decide_eq_false (by omega)
  have d2 : decide (6 < m) = false := decide_eq_false (by omega)
  have hix := idx7
  go_enter Try.func11, Try.ntmps11
  go_wp2
  go_region_held3 (fun w' => w'.cell? ⟨w.heap.size, 0, none⟩ = some (.int .i64 7) ∧ w'.cell? ⟨w.heap.size, 1, none⟩ = some (.slice q.K q.kn q.kc) ∧ w'.cell? ⟨w.heap.size, 2, none⟩ = some (.string q.S) ∧ w'.cell? ⟨w.heap.size, 3, none⟩ = some (.slice q.A q.an q.ac) ∧ w'.cell? ⟨w.heap.size, 4, none⟩ = some (.slice q.B q.bn q.bc) ∧ w'.cell? ⟨w.heap.size, 5, none⟩ = some (.slice q.X q.xn q.xc) ∧ w'.cell? ⟨w.heap.size, 6, none⟩ = some (.int .i64 q.M) ∧ w'.cell? ⟨w.heap.size, 7, none⟩ = some (.slice q.R q.rn q.rc))
    ((refine eight (T := 37) ?_; (repeat (first | with_reducible assumption | with_reducible refine Ob.other ?_ (by first | (simp; done) | (simp; omega)) _ | ((with_reducible refine Ob.new_ _ _ _ _ ?_) <;> (simp; done)) | with_reducible refine Ob.alloc ?_ _ | with_reducible refine Ob.drew ?_ | with_reducible refine Ob.drewN ?_ _ | with_reducible refine Ob.no ?_ (by assumption)))))
    (first
      | (go_at_call 18; ((with_reducible refine (rules_any).mono ?_); rintro e w1 ⟨rfl, hf1⟩))
      | (have Hq := (h.no (show Fr No w w1 by (repeat (first | with_reducible exact Fr.refl _ _ | with_reducible refine Fr.setCell ?_ (.inr (by first | (simp; done) | (simp; omega))) _ | with_reducible refine Fr.alloc ?_ _ | with_reducible refine Fr.drew ?_ | with_reducible refine Fr.drewN ?_ _ | with_reducible refine Fr.tr ?_ (by assumption))))); (go_at_call 30; ((with_reducible refine (isNear_any _ _).mono ?_); rintro e w2 ⟨rfl, hf2⟩; rw [Hb.out])))
      | fail)
  all_goals
    go_wp2
    all_goals
      go_ret
      refine ⟨by first | rfl | simp_all, ?_⟩
      (repeat (first | with_reducible exact Fr.refl _ _ | with_reducible refine Fr.setCell ?_ (.inr (by first | (simp; done) | (simp; omega))) _ | with_reducible refine Fr.alloc ?_ _ | with_reducible refine Fr.drew ?_ | with_reducible refine Fr.drewN ?_ _ | with_reducible refine Fr.tr ?_ (by assumption)))
theorem idx8 (w : World) : (Instr.index 51 (.agg rulesV) (.int .i64 8)).run Try.prog w = .ok (.func (.func 31) #[] #[]) w := by kernel_rfl
set_option maxHeartbeats 1600000 in
theorem check_8 (h : Rq w q d) (m : Int) (h1 : 1 ≤ m) (h2 : m ≤ 6) (ins : Bool) {b : Bool} (hb : okD 8 q d m ins = b) :
    Calls Try.prog 11 #[.agg #[.int .i64 8, .slice q.K q.kn q.kc, .string q.S, .slice q.A q.an q.ac, .slice q.B q.bn q.bc, .slice q.X q.xn q.xc, .int .i64 q.M, .slice q.R q.rn q.rc], .int .i64 m, .bool true, .bool ins] w fun e w' => e = .returned (.int .i64 (if b = true then 0 else 1)) ∧ Fr No w w' := by
  have hO : Ob (w.alloc (.cells #[.int .i64 8, .slice q.K q.kn q.kc, .string q.S, .slice q.A q.an q.ac, .slice q.B q.bn q.bc, .slice q.X q.xn q.xc, .int .i64 q.M, .slice q.R q.rn q.rc] 37)) w.heap.size #[.int .i64 8, .slice q.K q.kn q.kc, .string q.S, .slice q.A q.an q.ac, .slice q.B q.bn q.bc, .slice q.X q.xn q.xc, .int .i64 q.M, .slice q.R q.rn q.rc] 37 := by (repeat (first | with_reducible assumption | with_reducible refine Ob.other ?_ (by first | (simp; done) | (simp; omega)) _ | ((with_reducible refine Ob.new_ _ _ _ _ ?_) <;> (simp; done)) | with_reducible refine Ob.alloc ?_ _ | with_reducible refine Ob.drew ?_ | with_reducible refine Ob.drewN ?_ _ | with_reducible refine Ob.no ?_ (by assumption)))
  have Hb := Lib.hid (show (decide (q.rn ≤ 1000) && okAll d.rs m) = b from hb)
  clear hb
  have d1 : decide (m < 1) = false := decide_eq_false (by omega)
  have d2 : decide (6 < m) = false := decide_eq_false (by omega)
  have hix := idx8
  go_enter Try.func11, Try.ntmps11
  go_wp2
  go_region_held3 (fun w' => w'.cell? ⟨w.heap.size, 0, none⟩ = some (.int .i64 8) ∧ w'.cell? ⟨w.heap.size, 1, none⟩ = some (.slice q.K q.kn q.kc) ∧ w'.cell? ⟨w.heap.size, 2, none⟩ = some (.string q.S) ∧ w'.cell? ⟨w.heap.size, 3, none⟩ = some (.slice q.A q.an q.ac) ∧ w'.cell? ⟨w.heap.size, 4, none⟩ = some (.slice q.B q.bn q.bc) ∧ w'.cell? ⟨w.heap.size, 5, none⟩ = some (.slice q.X q.xn q.xc) ∧ w'.cell? ⟨w.heap.size, 6, none⟩ = some (.int .i64 q.M) ∧ w'.cell? ⟨w.heap.size, 7, none⟩ = some (.slice q.R q.rn q.rc))
    ((refine eight (T := 37) ?_; (repeat (first | with_reducible assumption | with_reducible refine Ob.other ?_ (by first | (simp; done) | (simp; omega)) _ | ((with_reducible refine Ob.new_ _ _ _ _ ?_) <;> (simp; done)) | with_reducible refine Ob.alloc ?_ _ | with_reducible refine Ob.drew ?_ | with_reducible refine Ob.drewN ?_ _ | with_reducible refine Ob.no ?_ (by assumption)))))
    (first
      | (go_at_call 18; ((with_reducible refine (rules_any).mono ?_); rintro e w1 ⟨rfl, hf1⟩))
      | (have Hq := (h.no (show Fr No w w1 by (repeat (first | with_reducible exact Fr.refl _ _ | with_reducible refine Fr.setCell ?_ (.inr (by first | (simp; done) | (simp; omega))) _ | with_reducible refine Fr.alloc ?_ _ | with_reducible refine Fr.drew ?_ | with_reducible refine Fr.drewN ?_ _ | with_reducible refine Fr.tr ?_ (by assumption))))); (go_at_call 31; ((with_reducible refine (isLoad_any Hq _ _).mono ?_); rintro e w2 ⟨rfl, hf2⟩; rw [Hb.out])))
      | fail)
  all_goals
    go_wp2
    all_goals
      go_ret
      refine ⟨by first | rfl | simp_all, ?_⟩
      (repeat (first | with_reducible exact Fr.refl _ _ | with_reducible refine Fr.setCell ?_ (.inr (by first | (simp; done) | (simp; omega))) _ | with_reducible refine Fr.alloc ?_ _ | with_reducible refine Fr.drew ?_ | with_reducible refine Fr.drewN ?_ _ | with_reducible refine Fr.tr ?_ (by assumption)))
theorem idx9 (w : World) : (Instr.index 51 (.agg rulesV) (.int .i64 9)).run Try.prog w = .ok (.func (.func 32) #[] #[]) w := by kernel_rfl
set_option maxHeartbeats 1600000 in
theorem check_9 (h : Rq w q d) (m : Int) (h1 : 1 ≤ m) (h2 : m ≤ 6) (ins : Bool) {b : Bool} (hb : okD 9 q d m ins = b) :
    Calls Try.prog 11 #[.agg #[.int .i64 9, .slice q.K q.kn q.kc, .string q.S, .slice q.A q.an q.ac, .slice q.B q.bn q.bc, .slice q.X q.xn q.xc, .int .i64 q.M, .slice q.R q.rn q.rc], .int .i64 m, .bool true, .bool ins] w fun e w' => e = .returned (.int .i64 (if b = true then 0 else 1)) ∧ Fr No w w' := by
  have hO : Ob (w.alloc (.cells #[.int .i64 9, .slice q.K q.kn q.kc, .string q.S, .slice q.A q.an q.ac, .slice q.B q.bn q.bc, .slice q.X q.xn q.xc, .int .i64 q.M, .slice q.R q.rn q.rc] 37)) w.heap.size #[.int .i64 9, .slice q.K q.kn q.kc, .string q.S, .slice q.A q.an q.ac, .slice q.B q.bn q.bc, .slice q.X q.xn q.xc, .int .i64 q.M, .slice q.R q.rn q.rc] 37 := by (repeat (first | with_reducible assumption | with_reducible refine Ob.other ?_ (by first | (simp; done) | (simp; omega)) _ | ((with_reducible refine Ob.new_ _ _ _ _ ?_) <;> (simp; done)) | with_reducible refine Ob.alloc ?_ _ | with_reducible refine Ob.drew ?_ | with_reducible refine Ob.drewN ?_ _ | with_reducible refine Ob.no ?_ (by assumption)))
  have Hb := Lib.hid (show (!ins) = b from hb)
  clear hb
  have d1 : decide (m < 1) = false := decide_eq_false (by omega)
  have d2 : decide (6 < m) = false := decide_eq_false (by omega)
  have hix := idx9
  go_enter Try.func11, Try.ntmps11
  go_wp2
  go_region_held3 (fun w' => w'.cell? ⟨w.heap.size, 0, none⟩ = some (.int .i64 9) ∧ w'.cell? ⟨w.heap.size, 1, none⟩ = some (.slice q.K q.kn q.kc) ∧ w'.cell? ⟨w.heap.size, 2, none⟩ = some (.string q.S) ∧ w'.cell? ⟨w.heap.size, 3, none⟩ = some (.slice q.A q.an q.ac) ∧ w'.cell? ⟨w.heap.size, 4, none⟩ = some (.slice q.B q.bn q.bc) ∧ w'.cell? ⟨w.heap.size, 5, none⟩ = some (.slice q.X q.xn q.xc) ∧ w'.cell? ⟨w.heap.size, 6, none⟩ = some (.int .i64 q.M) ∧ w'.cell? ⟨w.heap.size, 7, none⟩ = some (.slice q.R q.rn q.rc))
    ((refine eight (T := 37) ?_; (repeat (first | with_reducible assumption | with_reducible refine Ob.other ?_ (by first | (simp; done) | (simp; omega)) _ | ((with_reducible refine Ob.new_ _ _ _ _ ?_) <;> (simp; done)) | with_reducible refine Ob.alloc ?_ _ | with_reducible refine Ob.drew ?_ | with_reducible refine Ob.drewN ?_ _ | with_reducible refine Ob.no ?_ (by assumption)))))
    (first
      | (go_at_call 18; ((with_reducible refine (rules_any).mono ?_); rintro e w1 ⟨rfl, hf1⟩))
      | (have Hq := (h.no (show Fr No w w1 by (repeat (first | with_reducible exact Fr.refl _ _ | with_reducible refine Fr.setCell ?_ (.inr (by first | (simp; done) | (simp; omega))) _ | with_reducible refine Fr.alloc ?_ _ | with_reducible refine Fr.drew ?_ | with_reducible refine Fr.drewN ?_ _ | with_reducible refine Fr.tr ?_ (by assumption))))); (go_at_call 32; ((with_reducible refine (isOutside_any _ _).mono ?_); rintro e w2 ⟨rfl, hf2⟩; rw [Hb.out])))
      | fail)
  all_goals
    go_wp2
    all_goals
      go_ret
      refine ⟨by first | rfl | simp_all, ?_⟩
      (repeat (first | with_reducible exact Fr.refl _ _ | with_reducible refine Fr.setCell ?_ (.inr (by first | (simp; done) | (simp; omega))) _ | with_reducible refine Fr.alloc ?_ _ | with_reducible refine Fr.drew ?_ | with_reducible refine Fr.drewN ?_ _ | with_reducible refine Fr.tr ?_ (by assumption)))
theorem idx10 (w : World) : (Instr.index 51 (.agg rulesV) (.int .i64 10)).run Try.prog w = .ok (.func (.func 33) #[] #[]) w := by kernel_rfl
set_option maxHeartbeats 1600000 in
theorem check_10 (h : Rq w q d) (m : Int) (h1 : 1 ≤ m) (h2 : m ≤ 6) (ins : Bool) {b : Bool} (hb : okD 10 q d m ins = b) :
    Calls Try.prog 11 #[.agg #[.int .i64 10, .slice q.K q.kn q.kc, .string q.S, .slice q.A q.an q.ac, .slice q.B q.bn q.bc, .slice q.X q.xn q.xc, .int .i64 q.M, .slice q.R q.rn q.rc], .int .i64 m, .bool true, .bool ins] w fun e w' => e = .returned (.int .i64 (if b = true then 0 else 1)) ∧ Fr No w w' := by
  have hO : Ob (w.alloc (.cells #[.int .i64 10, .slice q.K q.kn q.kc, .string q.S, .slice q.A q.an q.ac, .slice q.B q.bn q.bc, .slice q.X q.xn q.xc, .int .i64 q.M, .slice q.R q.rn q.rc] 37)) w.heap.size #[.int .i64 10, .slice q.K q.kn q.kc, .string q.S, .slice q.A q.an q.ac, .slice q.B q.bn q.bc, .slice q.X q.xn q.xc, .int .i64 q.M, .slice q.R q.rn q.rc] 37 := by (repeat (first | with_reducible assumption | with_reducible refine Ob.other ?_ (by first | (simp; done) | (simp; omega)) _ | ((with_reducible refine Ob.new_ _ _ _ _ ?_) <;> (simp; done)) | with_reducible refine Ob.alloc ?_ _ | with_reducible refine Ob.drew ?_ | with_reducible refine Ob.drewN ?_ _ | with_reducible refine Ob.no ?_ (by assumption)))
  have Hb := Lib.hid (show ins = b from hb)
  clear hb
  have d1 : decide (m < 1) = false := decide_eq_false (by omega)
  have d2 : decide (6 < m) = false := decide_eq_false (by omega)
  have hix := idx10
  go_enter Try.func11, Try.ntmps11
  go_wp2
  go_region_held3 (fun w' => w'.cell? ⟨w.heap.size, 0, none⟩ = some (.int .i64 10) ∧ w'.cell? ⟨w.heap.size, 1, none⟩ = some (.slice q.K q.kn q.kc) ∧ w'.cell? ⟨w.heap.size, 2, none⟩ = some (.string q.S) ∧ w'.cell? ⟨w.heap.size, 3, none⟩ = some (.slice q.A q.an q.ac) ∧ w'.cell? ⟨w.heap.size, 4, none⟩ = some (.slice q.B q.bn q.bc) ∧ w'.cell? ⟨w.heap.size, 5, none⟩ = some (.slice q.X q.xn q.xc) ∧ w'.cell? ⟨w.heap.size, 6, none⟩ = some (.int .i64 q.M) ∧ w'.cell? ⟨w.heap.size, 7, none⟩ = some (.slice q.R q.rn q.rc))
    ((refine eight (T := 37) ?_; (repeat (first | with_reducible assumption | with_reducible refine Ob.other ?_ (by first | (simp; done) | (simp; omega)) _ | ((with_reducible refine Ob.new_ _ _ _ _ ?_) <;> (simp; done)) | with_reducible refine Ob.alloc ?_ _ | with_reducible refine Ob.drew ?_ | with_reducible refine Ob.drewN ?_ _ | with_reducible refine Ob.no ?_ (by assumption)))))
    (first
      | (go_at_call 18; ((with_reducible refine (rules_any).mono ?_); rintro e w1 ⟨rfl, hf1⟩))
      | (have Hq := (h.no (show Fr No w w1 by (repeat (first | with_reducible exact Fr.refl _ _ | with_reducible refine Fr.setCell ?_ (.inr (by first | (simp; done) | (simp; omega))) _ | with_reducible refine Fr.alloc ?_ _ | with_reducible refine Fr.drew ?_ | with_reducible refine Fr.drewN ?_ _ | with_reducible refine Fr.tr ?_ (by assumption))))); (go_at_call 33; ((with_reducible refine (isInside_any _ _).mono ?_); rintro e w2 ⟨rfl, hf2⟩; rw [Hb.out])))
      | fail)
  all_goals
    go_wp2
    all_goals
      go_ret
      refine ⟨by first | rfl | simp_all, ?_⟩
      (repeat (first | with_reducible exact Fr.refl _ _ | with_reducible refine Fr.setCell ?_ (.inr (by first | (simp; done) | (simp; omega))) _ | with_reducible refine Fr.alloc ?_ _ | with_reducible refine Fr.drew ?_ | with_reducible refine Fr.drewN ?_ _ | with_reducible refine Fr.tr ?_ (by assumption)))
theorem idx11 (w : World) : (Instr.index 51 (.agg rulesV) (.int .i64 11)).run Try.prog w = .ok (.func (.func 33) #[] #[]) w := by kernel_rfl
set_option maxHeartbeats 1600000 in
theorem check_11 (h : Rq w q d) (m : Int) (h1 : 1 ≤ m) (h2 : m ≤ 6) (ins : Bool) {b : Bool} (hb : okD 11 q d m ins = b) :
    Calls Try.prog 11 #[.agg #[.int .i64 11, .slice q.K q.kn q.kc, .string q.S, .slice q.A q.an q.ac, .slice q.B q.bn q.bc, .slice q.X q.xn q.xc, .int .i64 q.M, .slice q.R q.rn q.rc], .int .i64 m, .bool true, .bool ins] w fun e w' => e = .returned (.int .i64 (if b = true then 0 else 1)) ∧ Fr No w w' := by
  have hO : Ob (w.alloc (.cells #[.int .i64 11, .slice q.K q.kn q.kc, .string q.S, .slice q.A q.an q.ac, .slice q.B q.bn q.bc, .slice q.X q.xn q.xc, .int .i64 q.M, .slice q.R q.rn q.rc] 37)) w.heap.size #[.int .i64 11, .slice q.K q.kn q.kc, .string q.S, .slice q.A q.an q.ac, .slice q.B q.bn q.bc, .slice q.X q.xn q.xc, .int .i64 q.M, .slice q.R q.rn q.rc] 37 := by (repeat (first | with_reducible assumption | with_reducible refine Ob.other ?_ (by first | (simp; done) | (simp; omega)) _ | ((with_reducible refine Ob.new_ _ _ _ _ ?_) <;> (simp; done)) | with_reducible refine Ob.alloc ?_ _ | with_reducible refine Ob.drew ?_ | with_reducible refine Ob.drewN ?_ _ | with_reducible refine Ob.no ?_ (by assumption)))
  have Hb := Lib.hid (show ins = b from hb)
  clear hb
  have d1 : decide (m < 1) = false := decide_eq_false (by omega)
  have d2 : decide (6 < m) = false := decide_eq_false (by omega)
  have hix := idx11
  go_enter Try.func11, Try.ntmps11
  go_wp2
  go_region_held3 (fun w' => w'.cell? ⟨w.heap.size, 0, none⟩ = some (.int .i64 11) ∧ w'.cell? ⟨w.heap.size, 1, none⟩ = some (.slice q.K q.kn q.kc) ∧ w'.cell? ⟨w.heap.size, 2, none⟩ = some (.string q.S) ∧ w'.cell? ⟨w.heap.size, 3, none⟩ = some (.slice q.A q.an q.ac) ∧ w'.cell? ⟨w.heap.size, 4, none⟩ = some (.slice q.B q.bn q.bc) ∧ w'.cell? ⟨w.heap.size, 5, none⟩ = some (.slice q.X q.xn q.xc) ∧ w'.cell? ⟨w.heap.size, 6, none⟩ = some (.int .i64 q.M) ∧ w'.cell? ⟨w.heap.size, 7, none⟩ = some (.slice q.R q.rn q.rc))
    ((refine eight (T := 37) ?_; (repeat (first | with_reducible assumption | with_reducible refine Ob.other ?_ (by first | (simp; done) | (simp; omega)) _ | ((with_reducible refine Ob.new_ _ _ _ _ ?_) <;> (simp; done)) | with_reducible refine Ob.alloc ?_ _ | with_reducible refine Ob.drew ?_ | with_reducible refine Ob.drewN ?_ _ | with_reducible refine Ob.no ?_ (by assumption)))))
    (first
      | (go_at_call 18; ((with_reducible refine (rules_any).mono ?_); rintro e w1 ⟨rfl, hf1⟩))
      | (have Hq := (h.no (show Fr No w w1 by (repeat (first | with_reducible exact Fr.refl _ _ | with_reducible refine Fr.setCell ?_ (.inr (by first | (simp; done) | (simp; omega))) _ | with_reducible refine Fr.alloc ?_ _ | with_reducible refine Fr.drew ?_ | with_reducible refine Fr.drewN ?_ _ | with_reducible refine Fr.tr ?_ (by assumption))))); (go_at_call 33; ((with_reducible refine (isInside_any _ _).mono ?_); rintro e w2 ⟨rfl, hf2⟩; rw [Hb.out])))
      | fail)
  all_goals
    go_wp2
    all_goals
      go_ret
      refine ⟨by first | rfl | simp_all, ?_⟩
      (repeat (first | with_reducible exact Fr.refl _ _ | with_reducible refine Fr.setCell ?_ (.inr (by first | (simp; done) | (simp; omega))) _ | with_reducible refine Fr.alloc ?_ _ | with_reducible refine Fr.drew ?_ | with_reducible refine Fr.drewN ?_ _ | with_reducible refine Fr.tr ?_ (by assumption)))
theorem idx12 (w : World) : (Instr.index 51 (.agg rulesV) (.int .i64 12)).run Try.prog w = .ok (.func (.func 34) #[] #[]) w := by kernel_rfl
set_option maxHeartbeats 1600000 in
theorem check_12 (h : Rq w q d) (m : Int) (h1 : 1 ≤ m) (h2 : m ≤ 6) (ins : Bool) {b : Bool} (hb : okD 12 q d m ins = b) :
    Calls Try.prog 11 #[.agg #[.int .i64 12, .slice q.K q.kn q.kc, .string q.S, .slice q.A q.an q.ac, .slice q.B q.bn q.bc, .slice q.X q.xn q.xc, .int .i64 q.M, .slice q.R q.rn q.rc], .int .i64 m, .bool true, .bool ins] w fun e w' => e = .returned (.int .i64 (if b = true then 0 else 1)) ∧ Fr No w w' := by
  have hO : Ob (w.alloc (.cells #[.int .i64 12, .slice q.K q.kn q.kc, .string q.S, .slice q.A q.an q.ac, .slice q.B q.bn q.bc, .slice q.X q.xn q.xc, .int .i64 q.M, .slice q.R q.rn q.rc] 37)) w.heap.size #[.int .i64 12, .slice q.K q.kn q.kc, .string q.S, .slice q.A q.an q.ac, .slice q.B q.bn q.bc, .slice q.X q.xn q.xc, .int .i64 q.M, .slice q.R q.rn q.rc] 37 := by (repeat (first | with_reducible assumption | with_reducible refine Ob.other ?_ (by first | (simp; done) | (simp; omega)) _ | ((with_reducible refine Ob.new_ _ _ _ _ ?_) <;> (simp; done)) | with_reducible refine Ob.alloc ?_ _ | with_reducible refine Ob.drew ?_ | with_reducible refine Ob.drewN ?_ _ | with_reducible refine Ob.no ?_ (by assumption)))
  have Hb := Lib.hid (show true = b from hb)
  clear hb
  have d1 : decide (m < 1) = false := decide_eq_false (by omega)
  have d2 : decide (6 < m) = false := decide_eq_false (by omega)
  have hix := idx12
  go_enter Try.func11, Try.ntmps11
  go_wp2
  go_region_held3 (fun w' => w'.cell? ⟨w.heap.size, 0, none⟩ = some (.int .i64 12) ∧ w'.cell? ⟨w.heap.size, 1, none⟩ = some (.slice q.K q.kn q.kc) ∧ w'.cell? ⟨w.heap.size, 2, none⟩ = some (.string q.S) ∧ w'.cell? ⟨w.heap.size, 3, none⟩ = some (.slice q.A q.an q.ac) ∧ w'.cell? ⟨w.heap.size, 4, none⟩ = some (.slice q.B q.bn q.bc) ∧ w'.cell? ⟨w.heap.size, 5, none⟩ = some (.slice q.X q.xn q.xc) ∧ w'.cell? ⟨w.heap.size, 6, none⟩ = some (.int .i64 q.M) ∧ w'.cell? ⟨w.heap.size, 7, none⟩ = some (.slice q.R q.rn q.rc))
    ((refine eight (T := 37) ?_; (repeat (first | with_reducible assumption | with_reducible refine Ob.other ?_ (by first | (simp; done) | (simp; omega)) _ | ((with_reducible refine Ob.new_ _ _ _ _ ?_) <;> (simp; done)) | with_reducible refine Ob.alloc ?_ _ | with_reducible refine Ob.drew ?_ | with_reducible refine Ob.drewN ?_ _ | with_reducible refine Ob.no ?_ (by assumption)))))
    (first
      | (go_at_call 18; ((with_reducible refine (rules_any).mono ?_); rintro e w1 ⟨rfl, hf1⟩))
      | (have Hq := (h.no (show Fr No w w1 by (repeat (first | with_reducible exact Fr.refl _ _ | with_reducible refine Fr.setCell ?_ (.inr (by first | (simp; done) | (simp; omega))) _ | with_reducible refine Fr.alloc ?_ _ | with_reducible refine Fr.drew ?_ | with_reducible refine Fr.drewN ?_ _ | with_reducible refine Fr.tr ?_ (by assumption))))); (go_at_call 34; ((with_reducible refine (always_any _ _).mono ?_); rintro e w2 ⟨rfl, hf2⟩; rw [Hb.out])))
      | fail)
  all_goals
    go_wp2
    all_goals
      go_ret
      refine ⟨by first | rfl | simp_all, ?_⟩
      (repeat (first | with_reducible exact Fr.refl _ _ | with_reducible refine Fr.setCell ?_ (.inr (by first | (simp; done) | (simp; omega))) _ | with_reducible refine Fr.alloc ?_ _ | with_reducible refine Fr.drew ?_ | with_reducible refine Fr.drewN ?_ _ | with_reducible refine Fr.tr ?_ (by assumption)))
theorem rqcheck_any (h : Rq w q d) (m : Int) (op ins : Bool) :
    Calls Try.prog 11 #[.agg #[.int .i64 D, .slice q.K q.kn q.kc, .string q.S, .slice q.A q.an q.ac, .slice q.B q.bn q.bc, .slice q.X q.xn q.xc, .int .i64 q.M, .slice q.R q.rn q.rc], .int .i64 m, .bool op, .bool ins] w fun e w' => e = .returned (.int .i64 (chkR D q d m op ins)) ∧ Fr No w w' := by
  by_cases hno : op = false ∨ (op = true ∧ m < 1) ∨ (op = true ∧ 1 ≤ m ∧ 6 < m) ∨ (op = true ∧ 1 ≤ m ∧ m ≤ 6 ∧ D < 1) ∨ (op = true ∧ 1 ≤ m ∧ m ≤ 6 ∧ 1 ≤ D ∧ 12 < D)
  · have e : chkR D q d m op ins = 1 := chkR_no (fun x => by
      obtain ⟨x1, x2, x3, x4⟩ := x
      rcases hno with h | ⟨_, h⟩ | ⟨_, _, h⟩ | ⟨_, _, _, h⟩ | ⟨_, _, _, _, h⟩
      · rw [h] at x1; cases x1
      · omega
      · omega
      · rw [okD_out (.inl h)] at x4; cases x4
      · rw [okD_out (.inr h)] at x4; cases x4)
    rw [e]
    exact check_no m op ins hno
  · cases op with
    | false => exact absurd (.inl rfl) hno
    | true =>
      have h1 : 1 ≤ m := Int.not_lt.1 (fun x => hno (.inr (.inl ⟨rfl, by omega⟩)))
      have h2 : m ≤ 6 := Int.not_lt.1 (fun x => hno (.inr (.inr (.inl ⟨rfl, h1, by omega⟩))))
      have h3 : 1 ≤ D := Int.not_lt.1 (fun x => hno (.inr (.inr (.inr (.inl ⟨rfl, h1, h2, by omega⟩)))))
      have h4 : D ≤ 12 := Int.not_lt.1 (fun x => hno (.inr (.inr (.inr (.inr ⟨rfl, h1, h2, h3, by omega⟩)))))
      rw [chkR_b h1 h2 rfl]
      have hD : D = 1 ∨ D = 2 ∨ D = 3 ∨ D = 4 ∨ D = 5 ∨ D = 6 ∨ D = 7 ∨ D = 8 ∨ D = 9 ∨ D = 10 ∨ D = 11 ∨ D = 12 := by omega
      rcases hD with rfl | rfl | rfl | rfl | rfl | rfl | rfl | rfl | rfl | rfl | rfl | rfl
      · exact check_1 h m h1 h2 ins rfl
      · exact check_2 h m h1 h2 ins rfl
      · exact check_3 h m h1 h2 ins rfl
      · exact check_4 h m h1 h2 ins rfl
      · exact check_5 h m h1 h2 ins rfl
      · exact check_6 h m h1 h2 ins rfl
      · exact check_7 h m h1 h2 ins rfl
      · exact check_8 h m h1 h2 ins rfl
      · exact check_9 h m h1 h2 ins rfl
      · exact check_10 h m h1 h2 ins rfl
      · exact check_11 h m h1 h2 ins rfl
      · exact check_12 h m h1 h2 ins rfl
end
end Go.Proofs.Ytpkhmakgebaofaa.Qd25
