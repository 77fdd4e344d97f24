/- Layer 25, the document's: whether a request may be. -/
import Derived.Test.YtpkhmakgebaofaaQd25
import Derived.Test.YtpkhmakgebaofaaKh08
import Derived.Deep.LoopGhost
namespace Go.Proofs.Ytpkhmakgebaofaa.Qe25
open Go.RowKit Go.Proofs.Ytpkhmakgebaofaa.Pk08 Go.Proofs.Ytpkhmakgebaofaa.Base Go.Proofs.Ytpkhmakgebaofaa.App Go.Proofs.Ytpkhmakgebaofaa.Ky Go.Proofs.Ytpkhmakgebaofaa.Iv Go.Proofs.Ytpkhmakgebaofaa.Rv Go.Proofs.Ytpkhmakgebaofaa.Ra Go.Proofs.Ytpkhmakgebaofaa.Kc08 Go.Proofs.Ytpkhmakgebaofaa.Ke08 Go.Proofs.Ytpkhmakgebaofaa.Kh08 Go.Proofs.Ytpkhmakgebaofaa.Kj08 Go.Proofs.Ytpkhmakgebaofaa.Ka08 Go.Proofs.Ytpkhmakgebaofaa.Qb25 Go.Proofs.Ytpkhmakgebaofaa.Qc25 Go.Proofs.Ytpkhmakgebaofaa.Qd25
set_option linter.unusedVariables false
set_option linter.unusedSimpArgs false
def codeOf (b : Bool) : Int := if b = true then 0 else 1
theorem code_eq {x : Int} (h : x = 0 ∨ x = 1) : (if (x == 0) = true then (0 : Int) else 1) = x := by rcases h with rfl | rfl <;> rfl
theorem chkB_rng (lo hi : List Nat) (m : Int) : chkB lo hi m = 0 ∨ chkB lo hi m = 1 := by unfold chkB; split <;> simp
section
variable {w : World} {q : RqC} {d : RqD} {D : Int}
theorem r1 (h : Rq w q d) (m : Int) (h1 : 1 ≤ m) (h2 : m ≤ 6) (ins : Bool) :
    Calls Try.prog 12 #[.agg #[.int .i64 1, .slice q.K q.kn q.kc, .string q.S, .slice q.A q.an q.ac, .slice q.B q.bn q.bc, .slice q.X q.xn q.xc, .int .i64 q.M, .slice q.R q.rn q.rc], .int .i64 m, .bool true, .bool ins] w fun e w' => e = .returned (.int .i64 (recC q.kn q.S m)) ∧ Fr No w w' := by
  have hs := h.s
  have hk := h.k
  have hlo := h.lo
  have hhi := h.hi
  have hx := h.x
  go_enter Try.func12, Try.ntmps12
  go_wp2_with (go_at_call 19; ((with_reducible refine (rrcheck_any _ hs).mono ?_); rintro e w1 ⟨rfl, hf1⟩))
  go_ret
  refine ⟨rfl, ?_⟩
  (repeat (first | with_reducible exact Fr.refl _ _ | with_reducible refine Fr.setCell ?_ (.inr (by first | (simp; done) | (simp; omega))) _ | with_reducible refine Fr.alloc ?_ _ | with_reducible refine Fr.drew ?_ | with_reducible refine Fr.drewN ?_ _ | with_reducible refine Fr.tr ?_ (by assumption)))
theorem r2 (h : Rq w q d) (m : Int) (h1 : 1 ≤ m) (h2 : m ≤ 6) (ins : Bool) :
    Calls Try.prog 12 #[.agg #[.int .i64 2, .slice q.K q.kn q.kc, .string q.S, .slice q.A q.an q.ac, .slice q.B q.bn q.bc, .slice q.X q.xn q.xc, .int .i64 q.M, .slice q.R q.rn q.rc], .int .i64 m, .bool true, .bool ins] w fun e w' => e = .returned (.int .i64 (chk q.kn m)) ∧ Fr No w w' := by
  have hs := h.s
  have hk := h.k
  have hlo := h.lo
  have hhi := h.hi
  have hx := h.x
  go_enter Try.func12, Try.ntmps12
  go_wp2_with (go_at_call 20; ((with_reducible refine (rcheck_any _ _ _ _ _).mono ?_); rintro e w1 ⟨rfl, rfl⟩))
  go_ret
  refine ⟨rfl, ?_⟩
  (repeat (first | with_reducible exact Fr.refl _ _ | with_reducible refine Fr.setCell ?_ (.inr (by first | (simp; done) | (simp; omega))) _ | with_reducible refine Fr.alloc ?_ _ | with_reducible refine Fr.drew ?_ | with_reducible refine Fr.drewN ?_ _ | with_reducible refine Fr.tr ?_ (by assumption)))
theorem r3 (h : Rq w q d) (m : Int) (h1 : 1 ≤ m) (h2 : m ≤ 6) (ins : Bool) :
    Calls Try.prog 12 #[.agg #[.int .i64 3, .slice q.K q.kn q.kc, .string q.S, .slice q.A q.an q.ac, .slice q.B q.bn q.bc, .slice q.X q.xn q.xc, .int .i64 q.M, .slice q.R q.rn q.rc], .int .i64 m, .bool true, .bool ins] w fun e w' => e = .returned (.int .i64 (chk q.kn m)) ∧ Fr No w w' := by
  have hs := h.s
  have hk := h.k
  have hlo := h.lo
  have hhi := h.hi
  have hx := h.x
  go_enter Try.func12, Try.ntmps12
  go_wp2_with (go_at_call 20; ((with_reducible refine (rcheck_any _ _ _ _ _).mono ?_); rintro e w1 ⟨rfl, rfl⟩))
  go_ret
  refine ⟨rfl, ?_⟩
  (repeat (first | with_reducible exact Fr.refl _ _ | with_reducible refine Fr.setCell ?_ (.inr (by first | (simp; done) | (simp; omega))) _ | with_reducible refine Fr.alloc ?_ _ | with_reducible refine Fr.drew ?_ | with_reducible refine Fr.drewN ?_ _ | with_reducible refine Fr.tr ?_ (by assumption)))
theorem r4 (h : Rq w q d) (m : Int) (h1 : 1 ≤ m) (h2 : m ≤ 6) (ins : Bool) :
    Calls Try.prog 12 #[.agg #[.int .i64 4, .slice q.K q.kn q.kc, .string q.S, .slice q.A q.an q.ac, .slice q.B q.bn q.bc, .slice q.X q.xn q.xc, .int .i64 q.M, .slice q.R q.rn q.rc], .int .i64 m, .bool true, .bool ins] w fun e w' => e = .returned (.int .i64 (chkB d.lo d.hi m)) ∧ Fr No w w' := by
  have hs := h.s
  have hk := h.k
  have hlo := h.lo
  have hhi := h.hi
  have hx := h.x
  go_enter Try.func12, Try.ntmps12
  go_wp2_with (go_at_call 21; ((with_reducible refine (rcheckBox_any (lo := d.lo) (hi := d.hi) _ ?_ ?_).mono ?_); (iterate 2 (repeat (first | with_reducible assumption | ((with_reducible refine Kv.lit_new _ _ _ _ _ _ ?_ ?_ ?_ ?_) <;> (first | (simp; done) | rfl | decide)) | with_reducible exact Kv.none_ _ | with_reducible refine Kv.alloc ?_ _ | with_reducible refine Kv.drew ?_ | with_reducible refine Kv.drewN ?_ _ | with_reducible refine Kv.no ?_ (by assumption)))); rintro e w1 ⟨rfl, hf1⟩))
  go_ret
  refine ⟨rfl, ?_⟩
  (repeat (first | with_reducible exact Fr.refl _ _ | with_reducible refine Fr.setCell ?_ (.inr (by first | (simp; done) | (simp; omega))) _ | with_reducible refine Fr.alloc ?_ _ | with_reducible refine Fr.drew ?_ | with_reducible refine Fr.drewN ?_ _ | with_reducible refine Fr.tr ?_ (by assumption)))
theorem r6 (h : Rq w q d) (m : Int) (h1 : 1 ≤ m) (h2 : m ≤ 6) (ins : Bool) :
    Calls Try.prog 12 #[.agg #[.int .i64 6, .slice q.K q.kn q.kc, .string q.S, .slice q.A q.an q.ac, .slice q.B q.bn q.bc, .slice q.X q.xn q.xc, .int .i64 q.M, .slice q.R q.rn q.rc], .int .i64 m, .bool true, .bool ins] w fun e w' => e = .returned (.int .i64 (chkB d.lo d.hi m)) ∧ Fr No w w' := by
  have hs := h.s
  have hk := h.k
  have hlo := h.lo
  have hhi := h.hi
  have hx := h.x
  go_enter Try.func12, Try.ntmps12
  go_wp2_with (go_at_call 21; ((with_reducible refine (rcheckBox_any (lo := d.lo) (hi := d.hi) _ ?_ ?_).mono ?_); (iterate 2 (repeat (first | with_reducible assumption | ((with_reducible refine Kv.lit_new _ _ _ _ _ _ ?_ ?_ ?_ ?_) <;> (first | (simp; done) | rfl | decide)) | with_reducible exact Kv.none_ _ | with_reducible refine Kv.alloc ?_ _ | with_reducible refine Kv.drew ?_ | with_reducible refine Kv.drewN ?_ _ | with_reducible refine Kv.no ?_ (by assumption)))); rintro e w1 ⟨rfl, hf1⟩))
  go_ret
  refine ⟨rfl, ?_⟩
  (repeat (first | with_reducible exact Fr.refl _ _ | with_reducible refine Fr.setCell ?_ (.inr (by first | (simp; done) | (simp; omega))) _ | with_reducible refine Fr.alloc ?_ _ | with_reducible refine Fr.drew ?_ | with_reducible refine Fr.drewN ?_ _ | with_reducible refine Fr.tr ?_ (by assumption)))
theorem r5 (h : Rq w q d) (m : Int) (h1 : 1 ≤ m) (h2 : m ≤ 6) (ins : Bool) :
    Calls Try.prog 12 #[.agg #[.int .i64 5, .slice q.K q.kn q.kc, .string q.S, .slice q.A q.an q.ac, .slice q.B q.bn q.bc, .slice q.X q.xn q.xc, .int .i64 q.M, .slice q.R q.rn q.rc], .int .i64 m, .bool true, .bool ins] w fun e w' => e = .returned (.int .i64 (pE m d.ats d.ks)) ∧ Fr No w w' := by
  have hs := h.s
  have hk := h.k
  have hlo := h.lo
  have hhi := h.hi
  have hx := h.x
  go_enter Try.func12, Try.ntmps12
  go_wp2_with (go_at_call 17; ((with_reducible refine (rpartial_any (xs := d.ats) (ks := d.ks) _ ?_ ?_).mono ?_); (repeat (first | with_reducible assumption | ((with_reducible refine Iv.lit_new _ _ _ _ _ _ ?_ ?_ ?_ ?_) <;> (first | (simp; done) | rfl | decide)) | with_reducible exact Iv.none_ _ | with_reducible refine Iv.alloc ?_ _ | with_reducible refine Iv.drew ?_ | with_reducible refine Iv.drewN ?_ _ | with_reducible refine Iv.no ?_ (by assumption))); (repeat (first | with_reducible assumption | ((with_reducible refine Kv.lit_new _ _ _ _ _ _ ?_ ?_ ?_ ?_) <;> (first | (simp; done) | rfl | decide)) | with_reducible exact Kv.none_ _ | with_reducible refine Kv.alloc ?_ _ | with_reducible refine Kv.drew ?_ | with_reducible refine Kv.drewN ?_ _ | with_reducible refine Kv.no ?_ (by assumption))); rintro e w2 ⟨A2, p2, q2, B2, m2, n2, rfl, hl2, hh2, hf2⟩))
  go_ret
  refine ⟨rfl, ?_⟩
  (repeat (first | with_reducible exact Fr.refl _ _ | with_reducible refine Fr.setCell ?_ (.inr (by first | (simp; done) | (simp; omega))) _ | with_reducible refine Fr.alloc ?_ _ | with_reducible refine Fr.drew ?_ | with_reducible refine Fr.drewN ?_ _ | with_reducible refine Fr.tr ?_ (by assumption)))
theorem r7a (h : Rq w q d) (m : Int) (h1 : 1 ≤ m) (h2 : m ≤ 6) (ins : Bool) (hM : q.M < 0) :
    Calls Try.prog 12 #[.agg #[.int .i64 7, .slice q.K q.kn q.kc, .string q.S, .slice q.A q.an q.ac, .slice q.B q.bn q.bc, .slice q.X q.xn q.xc, .int .i64 q.M, .slice q.R q.rn q.rc], .int .i64 m, .bool true, .bool ins] w fun e w' => e = .returned (.int .i64 (1)) ∧ Fr No w w' := by
  have hs := h.s
  have hk := h.k
  have hlo := h.lo
  have hhi := h.hi
  have hx := h.x
  go_enter Try.func12, Try.ntmps12
  go_wp2
  go_ret
  refine ⟨rfl, ?_⟩
  (repeat (first | with_reducible exact Fr.refl _ _ | with_reducible refine Fr.setCell ?_ (.inr (by first | (simp; done) | (simp; omega))) _ | with_reducible refine Fr.alloc ?_ _ | with_reducible refine Fr.drew ?_ | with_reducible refine Fr.drewN ?_ _ | with_reducible refine Fr.tr ?_ (by assumption)))
theorem r7b (h : Rq w q d) (m : Int) (h1 : 1 ≤ m) (h2 : m ≤ 6) (ins : Bool) (hM0 : 0 ≤ q.M) (hM : 1000 < q.M) :
    Calls Try.prog 12 #[.agg #[.int .i64 7, .slice q.K q.kn q.kc, .string q.S, .slice q.A q.an q.ac, .slice q.B q.bn q.bc, .slice q.X q.xn q.xc, .int .i64 q.M, .slice q.R q.rn q.rc], .int .i64 m, .bool true, .bool ins] w fun e w' => e = .returned (.int .i64 (1)) ∧ Fr No w w' := by
  have hs := h.s
  have hk := h.k
  have hlo := h.lo
  have hhi := h.hi
  have hx := h.x
  go_enter Try.func12, Try.ntmps12
  go_wp2
  go_ret
  refine ⟨rfl, ?_⟩
  (repeat (first | with_reducible exact Fr.refl _ _ | with_reducible refine Fr.setCell ?_ (.inr (by first | (simp; done) | (simp; omega))) _ | with_reducible refine Fr.alloc ?_ _ | with_reducible refine Fr.drew ?_ | with_reducible refine Fr.drewN ?_ _ | with_reducible refine Fr.tr ?_ (by assumption)))
theorem r7c (h : Rq w q d) (m : Int) (h1 : 1 ≤ m) (h2 : m ≤ 6) (ins : Bool) (hM0 : 0 ≤ q.M) (hM : q.M ≤ 1000) :
    Calls Try.prog 12 #[.agg #[.int .i64 7, .slice q.K q.kn q.kc, .string q.S, .slice q.A q.an q.ac, .slice q.B q.bn q.bc, .slice q.X q.xn q.xc, .int .i64 q.M, .slice q.R q.rn q.rc], .int .i64 m, .bool true, .bool ins] w fun e w' => e = .returned (.int .i64 (chk q.kn m)) ∧ Fr No w w' := by
  have hs := h.s
  have hk := h.k
  have hlo := h.lo
  have hhi := h.hi
  have hx := h.x
  go_enter Try.func12, Try.ntmps12
  go_wp2_with (go_at_call 20; ((with_reducible refine (rcheck_any _ _ _ _ _).mono ?_); rintro e w1 ⟨rfl, rfl⟩))
  go_ret
  refine ⟨rfl, ?_⟩
  (repeat (first | with_reducible exact Fr.refl _ _ | with_reducible refine Fr.setCell ?_ (.inr (by first | (simp; done) | (simp; omega))) _ | with_reducible refine Fr.alloc ?_ _ | with_reducible refine Fr.drew ?_ | with_reducible refine Fr.drewN ?_ _ | with_reducible refine Fr.tr ?_ (by assumption)))
theorem r8a (h : Rq w q d) (m : Int) (h1 : 1 ≤ m) (h2 : m ≤ 6) (ins : Bool) (hM : 1000 < q.rn) :
    Calls Try.prog 12 #[.agg #[.int .i64 8, .slice q.K q.kn q.kc, .string q.S, .slice q.A q.an q.ac, .slice q.B q.bn q.bc, .slice q.X q.xn q.xc, .int .i64 q.M, .slice q.R q.rn q.rc], .int .i64 m, .bool true, .bool ins] w fun e w' => e = .returned (.int .i64 (1)) ∧ Fr No w w' := by
  have hs := h.s
  have hk := h.k
  have hlo := h.lo
  have hhi := h.hi
  have hx := h.x
  go_enter Try.func12, Try.ntmps12
  go_wp2
  go_ret
  refine ⟨rfl, ?_⟩
  (repeat (first | with_reducible exact Fr.refl _ _ | with_reducible refine Fr.setCell ?_ (.inr (by first | (simp; done) | (simp; omega))) _ | with_reducible refine Fr.alloc ?_ _ | with_reducible refine Fr.drew ?_ | with_reducible refine Fr.drewN ?_ _ | with_reducible refine Fr.tr ?_ (by assumption)))
theorem r9a (h : Rq w q d) (m : Int) (h1 : 1 ≤ m) (h2 : m ≤ 6) :
    Calls Try.prog 12 #[.agg #[.int .i64 9, .slice q.K q.kn q.kc, .string q.S, .slice q.A q.an q.ac, .slice q.B q.bn q.bc, .slice q.X q.xn q.xc, .int .i64 q.M, .slice q.R q.rn q.rc], .int .i64 m, .bool true, .bool true] w fun e w' => e = .returned (.int .i64 (1)) ∧ Fr No w w' := by
  have hs := h.s
  have hk := h.k
  have hlo := h.lo
  have hhi := h.hi
  have hx := h.x
  go_enter Try.func12, Try.ntmps12
  go_wp2
  go_ret
  refine ⟨rfl, ?_⟩
  (repeat (first | with_reducible exact Fr.refl _ _ | with_reducible refine Fr.setCell ?_ (.inr (by first | (simp; done) | (simp; omega))) _ | with_reducible refine Fr.alloc ?_ _ | with_reducible refine Fr.drew ?_ | with_reducible refine Fr.drewN ?_ _ | with_reducible refine Fr.tr ?_ (by assumption)))
theorem r9b (h : Rq w q d) (m : Int) (h1 : 1 ≤ m) (h2 : m ≤ 6) :
    Calls Try.prog 12 #[.agg #[.int .i64 9, .slice q.K q.kn q.kc, .string q.S, .slice q.A q.an q.ac, .slice q.B q.bn q.bc, .slice q.X q.xn q.xc, .int .i64 q.M, .slice q.R q.rn q.rc], .int .i64 m, .bool true, .bool false] w fun e w' => e = .returned (.int .i64 (0)) ∧ Fr No w w' := by
  have hs := h.s
  have hk := h.k
  have hlo := h.lo
  have hhi := h.hi
  have hx := h.x
  go_enter Try.func12, Try.ntmps12
  go_wp2
  go_ret
  refine ⟨rfl, ?_⟩
  (repeat (first | with_reducible exact Fr.refl _ _ | with_reducible refine Fr.setCell ?_ (.inr (by first | (simp; done) | (simp; omega))) _ | with_reducible refine Fr.alloc ?_ _ | with_reducible refine Fr.drew ?_ | with_reducible refine Fr.drewN ?_ _ | with_reducible refine Fr.tr ?_ (by assumption)))
theorem r10a (h : Rq w q d) (m : Int) (h1 : 1 ≤ m) (h2 : m ≤ 6) :
    Calls Try.prog 12 #[.agg #[.int .i64 10, .slice q.K q.kn q.kc, .string q.S, .slice q.A q.an q.ac, .slice q.B q.bn q.bc, .slice q.X q.xn q.xc, .int .i64 q.M, .slice q.R q.rn q.rc], .int .i64 m, .bool true, .bool false] w fun e w' => e = .returned (.int .i64 (1)) ∧ Fr No w w' := by
  have hs := h.s
  have hk := h.k
  have hlo := h.lo
  have hhi := h.hi
  have hx := h.x
  go_enter Try.func12, Try.ntmps12
  go_wp2
  go_ret
  refine ⟨rfl, ?_⟩
  (repeat (first | with_reducible exact Fr.refl _ _ | with_reducible refine Fr.setCell ?_ (.inr (by first | (simp; done) | (simp; omega))) _ | with_reducible refine Fr.alloc ?_ _ | with_reducible refine Fr.drew ?_ | with_reducible refine Fr.drewN ?_ _ | with_reducible refine Fr.tr ?_ (by assumption)))
theorem r10b (h : Rq w q d) (m : Int) (h1 : 1 ≤ m) (h2 : m ≤ 6) :
    Calls Try.prog 12 #[.agg #[.int .i64 10, .slice q.K q.kn q.kc, .string q.S, .slice q.A q.an q.ac, .slice q.B q.bn q.bc, .slice q.X q.xn q.xc, .int .i64 q.M, .slice q.R q.rn q.rc], .int .i64 m, .bool true, .bool true] w fun e w' => e = .returned (.int .i64 (0)) ∧ Fr No w w' := by
  have hs := h.s
  have hk := h.k
  have hlo := h.lo
  have hhi := h.hi
  have hx := h.x
  go_enter Try.func12, Try.ntmps12
  go_wp2
  go_ret
  refine ⟨rfl, ?_⟩
  (repeat (first | with_reducible exact Fr.refl _ _ | with_reducible refine Fr.setCell ?_ (.inr (by first | (simp; done) | (simp; omega))) _ | with_reducible refine Fr.alloc ?_ _ | with_reducible refine Fr.drew ?_ | with_reducible refine Fr.drewN ?_ _ | with_reducible refine Fr.tr ?_ (by assumption)))
theorem r11a (h : Rq w q d) (m : Int) (h1 : 1 ≤ m) (h2 : m ≤ 6) :
    Calls Try.prog 12 #[.agg #[.int .i64 11, .slice q.K q.kn q.kc, .string q.S, .slice q.A q.an q.ac, .slice q.B q.bn q.bc, .slice q.X q.xn q.xc, .int .i64 q.M, .slice q.R q.rn q.rc], .int .i64 m, .bool true, .bool false] w fun e w' => e = .returned (.int .i64 (1)) ∧ Fr No w w' := by
  have hs := h.s
  have hk := h.k
  have hlo := h.lo
  have hhi := h.hi
  have hx := h.x
  go_enter Try.func12, Try.ntmps12
  go_wp2
  go_ret
  refine ⟨rfl, ?_⟩
  (repeat (first | with_reducible exact Fr.refl _ _ | with_reducible refine Fr.setCell ?_ (.inr (by first | (simp; done) | (simp; omega))) _ | with_reducible refine Fr.alloc ?_ _ | with_reducible refine Fr.drew ?_ | with_reducible refine Fr.drewN ?_ _ | with_reducible refine Fr.tr ?_ (by assumption)))
theorem r11b (h : Rq w q d) (m : Int) (h1 : 1 ≤ m) (h2 : m ≤ 6) :
    Calls Try.prog 12 #[.agg #[.int .i64 11, .slice q.K q.kn q.kc, .string q.S, .slice q.A q.an q.ac, .slice q.B q.bn q.bc, .slice q.X q.xn q.xc, .int .i64 q.M, .slice q.R q.rn q.rc], .int .i64 m, .bool true, .bool true] w fun e w' => e = .returned (.int .i64 (0)) ∧ Fr No w w' := by
  have hs := h.s
  have hk := h.k
  have hlo := h.lo
  have hhi := h.hi
  have hx := h.x
  go_enter Try.func12, Try.ntmps12
  go_wp2
  go_ret
  refine ⟨rfl, ?_⟩
  (repeat (first | with_reducible exact Fr.refl _ _ | with_reducible refine Fr.setCell ?_ (.inr (by first | (simp; done) | (simp; omega))) _ | with_reducible refine Fr.alloc ?_ _ | with_reducible refine Fr.drew ?_ | with_reducible refine Fr.drewN ?_ _ | with_reducible refine Fr.tr ?_ (by assumption)))
theorem r12 (h : Rq w q d) (m : Int) (h1 : 1 ≤ m) (h2 : m ≤ 6) (ins : Bool) :
    Calls Try.prog 12 #[.agg #[.int .i64 12, .slice q.K q.kn q.kc, .string q.S, .slice q.A q.an q.ac, .slice q.B q.bn q.bc, .slice q.X q.xn q.xc, .int .i64 q.M, .slice q.R q.rn q.rc], .int .i64 m, .bool true, .bool ins] w fun e w' => e = .returned (.int .i64 (0)) ∧ Fr No w w' := by
  have hs := h.s
  have hk := h.k
  have hlo := h.lo
  have hhi := h.hi
  have hx := h.x
  go_enter Try.func12, Try.ntmps12
  go_wp2
  go_ret
  refine ⟨rfl, ?_⟩
  (repeat (first | with_reducible exact Fr.refl _ _ | with_reducible refine Fr.setCell ?_ (.inr (by first | (simp; done) | (simp; omega))) _ | with_reducible refine Fr.alloc ?_ _ | with_reducible refine Fr.drew ?_ | with_reducible refine Fr.drewN ?_ _ | with_reducible refine Fr.tr ?_ (by assumption)))
set_option maxHeartbeats 1600000 in
theorem r8b (h : Rq w q d) (m : Int) (h1 : 1 ≤ m) (h2 : m ≤ 6) (ins : Bool) (hM : q.rn ≤ 1000) :
    Calls Try.prog 12 #[.agg #[.int .i64 8, .slice q.K q.kn q.kc, .string q.S, .slice q.A q.an q.ac, .slice q.B q.bn q.bc, .slice q.X q.xn q.xc, .int .i64 q.M, .slice q.R q.rn q.rc], .int .i64 m, .bool true, .bool ins] w fun e w' => e = .returned (.int .i64 (codeOf (okAll d.rs m))) ∧ Fr No w w' := by
  have f0 : Fr No w (w.alloc (.cells #[.int .i64 8, .slice q.K q.kn q.kc, .string q.S, .slice q.A q.an q.ac, .slice q.B q.bn q.bc, .slice q.X q.xn q.xc, .int .i64 q.M, .slice q.R q.rn q.rc] 29)) := by (repeat (first | with_reducible exact Fr.refl _ _ | with_reducible refine Fr.setCell ?_ (.inr (by first | (simp; done) | (simp; omega))) _ | with_reducible refine Fr.alloc ?_ _ | with_reducible refine Fr.drew ?_ | with_reducible refine Fr.drewN ?_ _ | with_reducible refine Fr.tr ?_ (by assumption)))
  have hO : Ob (w.alloc (.cells #[.int .i64 8, .slice q.K q.kn q.kc, .string q.S, .slice q.A q.an q.ac, .slice q.B q.bn q.bc, .slice q.X q.xn q.xc, .int .i64 q.M, .slice q.R q.rn q.rc] 29)) w.heap.size #[.int .i64 8, .slice q.K q.kn q.kc, .string q.S, .slice q.A q.an q.ac, .slice q.B q.bn q.bc, .slice q.X q.xn q.xc, .int .i64 q.M, .slice q.R q.rn q.rc] 29 := by (repeat (first | with_reducible assumption | with_reducible refine Ob.other ?_ (by first | (simp; done) | (simp; omega)) _ | ((with_reducible refine Ob.new_ _ _ _ _ ?_) <;> (simp; done)) | with_reducible refine Ob.alloc ?_ _ | with_reducible refine Ob.drew ?_ | with_reducible refine Ob.drewN ?_ _ | with_reducible refine Ob.no ?_ (by assumption)))
  have Hr := Lib.hid (h.r.no f0)
  have HO := Lib.hid hO
  have HF := Lib.hid f0
  clear hO f0
  go_enter Try.func12, Try.ntmps12
  go_wp2
  go_loopw [11] (fun v wr => ∃ i : Nat, i ≤ q.rn ∧ v = .int .i64 i ∧ Hid (okTo d.rs m i ∧ Fr No (w.alloc (.cells #[.int .i64 8, .slice q.K q.kn q.kc, .string q.S, .slice q.A q.an q.ac, .slice q.B q.bn q.bc, .slice q.X q.xn q.xc, .int .i64 q.M, .slice q.R q.rn q.rc] 29)) wr)) (fun v _ => q.rn - (intOf v).toNat)
  case atStart => exact ⟨0, Nat.zero_le _, rfl, Lib.hid ⟨fun j hj => by omega, Fr.refl _ _⟩⟩
  case round =>
    obtain ⟨i, hi, rfl, Hi⟩ := hrel
    have c7 := (HO.out.no Hi.out.2).cell 7 (v := .slice q.R q.rn q.rc) rfl
    by_cases hlt : i < q.rn
    · obtain ⟨b, off, KA, kc, hR, c0, c1, hk, hs⟩ := (Hr.out.no Hi.out.2).get i (by rw [← Hr.out.len]; exact hlt)
      rw [hR] at c7
      clear hR
      have Hno := Lib.hid (fun (hx : recC (d.rs.getD i rec0).1.length (d.rs.getD i rec0).2 m = 1) => show okAll d.rs m = false by
        cases h : okAll d.rs m with
        | false => rfl
        | true =>
          have := okAll_iff.1 h i (by rw [← Hr.out.len]; exact hlt)
          rw [hx] at this; exact absurd this (by decide))
      have Hyes := Lib.hid (fun (hx : recC (d.rs.getD i rec0).1.length (d.rs.getD i rec0).2 m = 0) => show okTo d.rs m (i + 1) by
        intro j hj
        by_cases e : j = i
        · subst e; exact hx
        · exact Hi.out.1 j (by omega))
      clear hk
      generalize d.rs.getD i rec0 = r at *
      obtain ⟨ks, s⟩ := r
      simp only at *
      rcases recC_rng ks.length s m with hx | hx
      · have K := Lib.hid (Hyes.out hx)
        clear Hyes Hno
        have Hx := Lib.hid hx
        clear hx
        go_wp2_with (go_at_call 19; ((with_reducible refine (rrcheck_any _ hs).mono ?_); rintro e w1 ⟨rfl, hf1⟩; rw [Hx.out]))
        go_roundw
        case rel => exact ⟨i + 1, by omega, by go_num, Lib.hid ⟨K.out, Hi.out.2.tr hf1⟩⟩
        case measure => simp [intOf]; omega
      · have K := Lib.hid (Hno.out hx)
        clear Hyes Hno
        have Hx := Lib.hid hx
        clear hx
        go_wp2_with (go_at_call 19; ((with_reducible refine (rrcheck_any _ hs).mono ?_); rintro e w1 ⟨rfl, hf1⟩; rw [Hx.out]))
        go_ret
        exact ⟨by rw [K.out]; rfl, (HF.out.tr Hi.out.2).tr hf1⟩
    · obtain rfl : i = q.rn := by omega
      have E := Lib.hid (show okAll d.rs m = true from okAll_iff.2 (by rw [← Hr.out.len]; exact Hi.out.1))
      go_wp2
      go_ret
      exact ⟨by rw [E.out]; rfl, HF.out.tr Hi.out.2⟩
theorem r_closed (m : Int) (op ins : Bool) (h : op = false ∨ (op = true ∧ m < 1) ∨ (op = true ∧ 1 ≤ m ∧ 6 < m)) :
    Calls Try.prog 12 #[.agg #[.int .i64 D, .slice q.K q.kn q.kc, .string q.S, .slice q.A q.an q.ac, .slice q.B q.bn q.bc, .slice q.X q.xn q.xc, .int .i64 q.M, .slice q.R q.rn q.rc], .int .i64 m, .bool op, .bool ins] w fun e w' => e = .returned (.int .i64 1) ∧ Fr No w w' := by
  rcases h with rfl | ⟨rfl, h1⟩ | ⟨rfl, h1, h2⟩
  all_goals
    go_enter Try.func12, Try.ntmps12
    go_wp2
    go_ret
    refine ⟨rfl, ?_⟩
    (repeat (first | with_reducible exact Fr.refl _ _ | with_reducible refine Fr.setCell ?_ (.inr (by first | (simp; done) | (simp; omega))) _ | with_reducible refine Fr.alloc ?_ _ | with_reducible refine Fr.drew ?_ | with_reducible refine Fr.drewN ?_ _ | with_reducible refine Fr.tr ?_ (by assumption)))
theorem r_other (m : Int) (h1 : 1 ≤ m) (h2 : m ≤ 6) (ins : Bool) (h : D < 1 ∨ 12 < D) :
    Calls Try.prog 12 #[.agg #[.int .i64 D, .slice q.K q.kn q.kc, .string q.S, .slice q.A q.an q.ac, .slice q.B q.bn q.bc, .slice q.X q.xn q.xc, .int .i64 q.M, .slice q.R q.rn q.rc], .int .i64 m, .bool true, .bool ins] w fun e w' => e = .returned (.int .i64 1) ∧ Fr No w w' := by
  have e1 : (D == 1) = false := beq_eq_false_iff_ne.2 (by omega)
  have e2 : (D == 2) = false := beq_eq_false_iff_ne.2 (by omega)
  have e3 : (D == 3) = false := beq_eq_false_iff_ne.2 (by omega)
  have e4 : (D == 4) = false := beq_eq_false_iff_ne.2 (by omega)
  have e5 : (D == 5) = false := beq_eq_false_iff_ne.2 (by omega)
  have e6 : (D == 6) = false := beq_eq_false_iff_ne.2 (by omega)
  have e7 : (D == 7) = false := beq_eq_false_iff_ne.2 (by omega)
  have e8 : (D == 8) = false := beq_eq_false_iff_ne.2 (by omega)
  have e9 : (D == 9) = false := beq_eq_false_iff_ne.2 (by omega)
  have e10 : (D == 10) = false := beq_eq_false_iff_ne.2 (by omega)
  have e11 : (D == 11) = false := beq_eq_false_iff_ne.2 (by omega)
  have e12 : (D == 12) = false := beq_eq_false_iff_ne.2 (by omega)
  clear h
  go_enter Try.func12, Try.ntmps12
  go_wp2
  go_ret
  refine ⟨rfl, ?_⟩
  (repeat (first | with_reducible exact Fr.refl _ _ | with_reducible refine Fr.setCell ?_ (.inr (by first | (simp; done) | (simp; omega))) _ | with_reducible refine Fr.alloc ?_ _ | with_reducible refine Fr.drew ?_ | with_reducible refine Fr.drewN ?_ _ | with_reducible refine Fr.tr ?_ (by assumption)))
theorem rrqcheck_any (h : Rq w q d) (m : Int) (op ins : Bool) :
    Calls Try.prog 12 #[.agg #[.int .i64 D, .slice q.K q.kn q.kc, .string q.S, .slice q.A q.an q.ac, .slice q.B q.bn q.bc, .slice q.X q.xn q.xc, .int .i64 q.M, .slice q.R q.rn q.rc], .int .i64 m, .bool op, .bool ins] w fun e w' => e = .returned (.int .i64 (chkR D q d m op ins)) ∧ Fr No w w' := by
  by_cases hno : op = false ∨ (op = true ∧ m < 1) ∨ (op = true ∧ 1 ≤ m ∧ 6 < m)
  · have e : chkR D q d m op ins = 1 := chkR_no (fun x => by
      obtain ⟨x1, x2, x3, x4⟩ := x
      rcases hno with h | ⟨_, h⟩ | ⟨_, _, h⟩
      · rw [h] at x1; cases x1
      · omega
      · omega)
    rw [e]
    exact r_closed m op ins hno
  · cases op with
    | false => exact absurd (.inl rfl) hno
    | true =>
      have h1 : 1 ≤ m := Int.not_lt.1 (fun x => hno (.inr (.inl ⟨rfl, by omega⟩)))
      have h2 : m ≤ 6 := Int.not_lt.1 (fun x => hno (.inr (.inr ⟨rfl, h1, by omega⟩)))
      by_cases hD0 : D < 1 ∨ 12 < D
      · rw [chkR_no (fun x => by rw [okD_out hD0] at x; cases x.2.2.2)]
        exact r_other m h1 h2 ins hD0
      · rw [chkR_b h1 h2 rfl]
        have hD : D = 1 ∨ D = 2 ∨ D = 3 ∨ D = 4 ∨ D = 5 ∨ D = 6 ∨ D = 7 ∨ D = 8 ∨ D = 9 ∨ D = 10 ∨ D = 11 ∨ D = 12 := by omega
        rcases hD with rfl | rfl | rfl | rfl | rfl | rfl | rfl | rfl | rfl | rfl | rfl | rfl
        · show Calls _ _ _ _ fun e w' => e = .returned (.int .i64 (if (recC q.kn q.S m == 0) = true then 0 else 1)) ∧ Fr No w w'
          rw [code_eq (recC_rng _ _ _)]
          exact r1 h m h1 h2 ins
        · show Calls _ _ _ _ fun e w' => e = .returned (.int .i64 (if (chk q.kn m == 0) = true then 0 else 1)) ∧ Fr No w w'
          rw [code_eq (chk_rng _ _)]
          exact r2 h m h1 h2 ins
        · show Calls _ _ _ _ fun e w' => e = .returned (.int .i64 (if (chk q.kn m == 0) = true then 0 else 1)) ∧ Fr No w w'
          rw [code_eq (chk_rng _ _)]
          exact r3 h m h1 h2 ins
        · show Calls _ _ _ _ fun e w' => e = .returned (.int .i64 (if (chkB d.lo d.hi m == 0) = true then 0 else 1)) ∧ Fr No w w'
          rw [code_eq (chkB_rng _ _ _)]
          exact r4 h m h1 h2 ins
        · show Calls _ _ _ _ fun e w' => e = .returned (.int .i64 (if (pE m d.ats d.ks == 0) = true then 0 else 1)) ∧ Fr No w w'
          rw [code_eq (pE_rng _ _ _)]
          exact r5 h m h1 h2 ins
        · show Calls _ _ _ _ fun e w' => e = .returned (.int .i64 (if (chkB d.lo d.hi m == 0) = true then 0 else 1)) ∧ Fr No w w'
          rw [code_eq (chkB_rng _ _ _)]
          exact r6 h m h1 h2 ins
        · show Calls _ _ _ _ fun e w' => e = .returned (.int .i64 (if (decide (0 ≤ q.M) && (decide (q.M ≤ 1000) && (chk q.kn m == 0))) = true then 0 else 1)) ∧ Fr No w w'
          by_cases x0 : 0 ≤ q.M
          · by_cases x1 : q.M ≤ 1000
            · rw [decide_eq_true x0, decide_eq_true x1, Bool.true_and, Bool.true_and, code_eq (chk_rng _ _)]
              exact r7c h m h1 h2 ins x0 x1
            · rw [decide_eq_true x0, decide_eq_false x1, Bool.true_and, Bool.false_and]
              exact r7b h m h1 h2 ins x0 (by omega)
          · rw [decide_eq_false x0, Bool.false_and]
            exact r7a h m h1 h2 ins (by omega)
        · show Calls _ _ _ _ fun e w' => e = .returned (.int .i64 (if (decide (q.rn ≤ 1000) && okAll d.rs m) = true then 0 else 1)) ∧ Fr No w w'
          by_cases x1 : q.rn ≤ 1000
          · rw [decide_eq_true x1, Bool.true_and]
            exact r8b h m h1 h2 ins x1
          · rw [decide_eq_false x1, Bool.false_and]
            exact r8a h m h1 h2 ins (by omega)
        · cases ins with
          | true => exact r9a h m h1 h2
          | false => exact r9b h m h1 h2
        · cases ins with
          | true => exact r10b h m h1 h2
          | false => exact r10a h m h1 h2
        · cases ins with
          | true => exact r11b h m h1 h2
          | false => exact r11a h m h1 h2
        · exact r12 h m h1 h2 ins
end
end Go.Proofs.Ytpkhmakgebaofaa.Qe25
