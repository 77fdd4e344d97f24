/- Layer 25: what must be so of each kind of request. -/
import Derived.Test.YtpkhmakgebaofaaQb25
import Derived.Test.YtpkhmakgebaofaaKa08
import Derived.Test.YtpkhmakgebaofaaKe08
import Derived.Laws.EntriesVeiled
namespace Go.Proofs.Ytpkhmakgebaofaa.Qc25
open Go.RowKit Go.Proofs.Ytpkhmakgebaofaa.Pk08 Go.Proofs.Ytpkhmakgebaofaa.Base Go.Proofs.Ytpkhmakgebaofaa.App Go.Proofs.Ytpkhmakgebaofaa.Ky Go.Proofs.Ytpkhmakgebaofaa.Iv Go.Proofs.Ytpkhmakgebaofaa.Rv Go.Proofs.Ytpkhmakgebaofaa.Ra Go.Proofs.Ytpkhmakgebaofaa.Kc08 Go.Proofs.Ytpkhmakgebaofaa.Ke08 Go.Proofs.Ytpkhmakgebaofaa.Kj08 Go.Proofs.Ytpkhmakgebaofaa.Ka08 Go.Proofs.Ytpkhmakgebaofaa.Qb25
set_option linter.unusedVariables false
set_option linter.unusedSimpArgs false
/-- A request's cells. -/
structure RqC where
  D : Int
  K : Option Addr
  kn : Nat
  kc : Nat
  S : ByteArray
  A : Option Addr
  an : Nat
  ac : Nat
  B : Option Addr
  bn : Nat
  bc : Nat
  X : Option Addr
  xn : Nat
  xc : Nat
  M : Int
  R : Option Addr
  rn : Nat
  rc : Nat
/-- What a request reads as. -/
structure RqD where
  ks : List Nat
  lo : List Nat
  hi : List Nat
  ats : List Int
  rs : List Rec
structure Rq (w : World) (q : RqC) (d : RqD) : Prop where
  k : Kv w q.K q.kn q.kc d.ks
  s : q.S.size ≤ maxLen
  lo : Kv w q.A q.an q.ac d.lo
  hi : Kv w q.B q.bn q.bc d.hi
  x : Iv w q.X q.xn q.xc d.ats
  r : Rv w q.R q.rn q.rc d.rs
theorem Rq.no {w w1 : World} {q : RqC} {d : RqD} (h : Rq w q d) (f : Fr No w w1) : Rq w1 q d := ⟨h.k.no f, h.s, h.lo.no f, h.hi.no f, h.x.no f, h.r.no f⟩
theorem Rq.alloc {w : World} {q : RqC} {d : RqD} (h : Rq w q d) (o : Obj) : Rq (w.alloc o) q d := h.no ((Fr.refl No w).alloc o)
theorem Rq.drew {w : World} {q : RqC} {d : RqD} (h : Rq w q d) : Rq w.drew q d := h.no (Fr.refl No w).drew
theorem Rq.drewN {w : World} {q : RqC} {d : RqD} (h : Rq w q d) (n : Nat) : Rq (w.drewN n) q d := h.no ((Fr.refl No w).drewN n)
section
variable {w : World} {q : RqC} {d : RqD} {D : Int}
theorem isPut_any (h : Rq w q d) (m : Int) (b : Bool) :
    Calls Try.prog 26 #[.agg #[.int .i64 D, .slice q.K q.kn q.kc, .string q.S, .slice q.A q.an q.ac, .slice q.B q.bn q.bc, .slice q.X q.xn q.xc, .int .i64 q.M, .slice q.R q.rn q.rc], .int .i64 m, .bool b] w fun e w' => e = .returned (.bool (recC q.kn q.S m == 0)) ∧ Fr No w w' := by
  have hs := h.s
  go_enter Try.func26, Try.ntmps26
  go_wp2_with (go_at_call 37; ((with_reducible refine (acheck_any _ hs).mono ?_); rintro e w1 ⟨rfl, hf1⟩))
  go_ret
  refine ⟨rfl, ?_⟩
  (repeat (first | with_reducible exact Fr.refl _ _ | with_reducible refine Fr.setCell ?_ (.inr (by first | (simp; done) | (simp; omega))) _ | with_reducible refine Fr.alloc ?_ _ | with_reducible refine Fr.drew ?_ | with_reducible refine Fr.drewN ?_ _ | with_reducible refine Fr.tr ?_ (by assumption)))
theorem isKey_any (m : Int) (b : Bool) :
    Calls Try.prog 27 #[.agg #[.int .i64 D, .slice q.K q.kn q.kc, .string q.S, .slice q.A q.an q.ac, .slice q.B q.bn q.bc, .slice q.X q.xn q.xc, .int .i64 q.M, .slice q.R q.rn q.rc], .int .i64 m, .bool b] w fun e w' => e = .returned (.bool (chk q.kn m == 0)) ∧ Fr No w w' := by
  go_enter Try.func27, Try.ntmps27
  go_wp2_with (go_at_call 38; ((with_reducible refine (check_any _ _ _ _ _).mono ?_); rintro e w1 ⟨rfl, rfl⟩))
  go_ret
  refine ⟨rfl, ?_⟩
  (repeat (first | with_reducible exact Fr.refl _ _ | with_reducible refine Fr.setCell ?_ (.inr (by first | (simp; done) | (simp; omega))) _ | with_reducible refine Fr.alloc ?_ _ | with_reducible refine Fr.drew ?_ | with_reducible refine Fr.drewN ?_ _ | with_reducible refine Fr.tr ?_ (by assumption)))
theorem isBox_any (h : Rq w q d) (m : Int) (b : Bool) :
    Calls Try.prog 28 #[.agg #[.int .i64 D, .slice q.K q.kn q.kc, .string q.S, .slice q.A q.an q.ac, .slice q.B q.bn q.bc, .slice q.X q.xn q.xc, .int .i64 q.M, .slice q.R q.rn q.rc], .int .i64 m, .bool b] w fun e w' => e = .returned (.bool (chkB d.lo d.hi m == 0)) ∧ Fr No w w' := by
  have h1 := h.lo
  have h2 := h.hi
  go_enter Try.func28, Try.ntmps28
  go_wp2_with (go_at_call 39; ((with_reducible refine (checkBox_any (lo := d.lo) (hi := d.hi) _ ?_ ?_).mono ?_); (iterate 2 (repeat (first | with_reducible assumption | ((with_reducible refine Kv.lit_new _ _ _ _ _ _ ?_ ?_ ?_ ?_) <;> (first | (simp; done) | rfl | decide)) | with_reducible exact Kv.none_ _ | with_reducible refine Kv.alloc ?_ _ | with_reducible refine Kv.drew ?_ | with_reducible refine Kv.drewN ?_ _ | with_reducible refine Kv.no ?_ (by assumption)))); rintro e w1 ⟨rfl, hf1⟩))
  go_ret
  refine ⟨rfl, ?_⟩
  (repeat (first | with_reducible exact Fr.refl _ _ | with_reducible refine Fr.setCell ?_ (.inr (by first | (simp; done) | (simp; omega))) _ | with_reducible refine Fr.alloc ?_ _ | with_reducible refine Fr.drew ?_ | with_reducible refine Fr.drewN ?_ _ | with_reducible refine Fr.tr ?_ (by assumption)))
theorem isPartial_any (h : Rq w q d) (m : Int) (b : Bool) :
    Calls Try.prog 29 #[.agg #[.int .i64 D, .slice q.K q.kn q.kc, .string q.S, .slice q.A q.an q.ac, .slice q.B q.bn q.bc, .slice q.X q.xn q.xc, .int .i64 q.M, .slice q.R q.rn q.rc], .int .i64 m, .bool b] w fun e w' => e = .returned (.bool (pE m d.ats d.ks == 0)) ∧ Fr No w w' := by
  have h1 := h.x
  have h2 := h.k
  go_enter Try.func29, Try.ntmps29
  go_wp2_with (go_at_call 15; ((with_reducible refine (partial_any (xs := d.ats) (ks := d.ks) _ ?_ ?_).mono ?_); (repeat (first | with_reducible assumption | ((with_reducible refine Iv.lit_new _ _ _ _ _ _ ?_ ?_ ?_ ?_) <;> (first | (simp; done) | rfl | decide)) | with_reducible exact Iv.none_ _ | with_reducible refine Iv.alloc ?_ _ | with_reducible refine Iv.drew ?_ | with_reducible refine Iv.drewN ?_ _ | with_reducible refine Iv.no ?_ (by assumption))); (repeat (first | with_reducible assumption | ((with_reducible refine Kv.lit_new _ _ _ _ _ _ ?_ ?_ ?_ ?_) <;> (first | (simp; done) | rfl | decide)) | with_reducible exact Kv.none_ _ | with_reducible refine Kv.alloc ?_ _ | with_reducible refine Kv.drew ?_ | with_reducible refine Kv.drewN ?_ _ | with_reducible refine Kv.no ?_ (by assumption))); rintro e w2 ⟨A2, p2, q2, B2, m2, n2, rfl, hl2, hh2, hf2⟩))
  go_ret
  refine ⟨rfl, ?_⟩
  (repeat (first | with_reducible exact Fr.refl _ _ | with_reducible refine Fr.setCell ?_ (.inr (by first | (simp; done) | (simp; omega))) _ | with_reducible refine Fr.alloc ?_ _ | with_reducible refine Fr.drew ?_ | with_reducible refine Fr.drewN ?_ _ | with_reducible refine Fr.tr ?_ (by assumption)))
theorem isNear_any (m : Int) (b : Bool) :
    Calls Try.prog 30 #[.agg #[.int .i64 D, .slice q.K q.kn q.kc, .string q.S, .slice q.A q.an q.ac, .slice q.B q.bn q.bc, .slice q.X q.xn q.xc, .int .i64 q.M, .slice q.R q.rn q.rc], .int .i64 m, .bool b] w fun e w' => e = .returned (.bool (decide (0 ≤ q.M) && (decide (q.M ≤ 1000) && (chk q.kn m == 0)))) ∧ Fr No w w' := by
  by_cases h0 : 0 ≤ q.M
  · by_cases h1 : q.M ≤ 1000
    · rw [decide_eq_true h0, decide_eq_true h1, Bool.true_and, Bool.true_and]
      go_enter Try.func30, Try.ntmps30
      go_wp2_with (go_at_call 27; ((with_reducible refine (isKey_any _ _).mono ?_); rintro e w1 ⟨rfl, hf1⟩))
      go_ret
      refine ⟨rfl, ?_⟩
      (repeat (first | with_reducible exact Fr.refl _ _ | with_reducible refine Fr.setCell ?_ (.inr (by first | (simp; done) | (simp; omega))) _ | with_reducible refine Fr.alloc ?_ _ | with_reducible refine Fr.drew ?_ | with_reducible refine Fr.drewN ?_ _ | with_reducible refine Fr.tr ?_ (by assumption)))
    · rw [decide_eq_true h0, decide_eq_false h1, Bool.true_and, Bool.false_and]
      have h1' : 1000 < q.M := by omega
      clear h1
      go_enter Try.func30, Try.ntmps30
      go_wp2
      go_ret
      refine ⟨rfl, ?_⟩
      (repeat (first | with_reducible exact Fr.refl _ _ | with_reducible refine Fr.setCell ?_ (.inr (by first | (simp; done) | (simp; omega))) _ | with_reducible refine Fr.alloc ?_ _ | with_reducible refine Fr.drew ?_ | with_reducible refine Fr.drewN ?_ _ | with_reducible refine Fr.tr ?_ (by assumption)))
  · rw [decide_eq_false h0, Bool.false_and]
    have h0' : q.M < 0 := by omega
    clear h0
    go_enter Try.func30, Try.ntmps30
    go_wp2
    go_ret
    refine ⟨rfl, ?_⟩
    (repeat (first | with_reducible exact Fr.refl _ _ | with_reducible refine Fr.setCell ?_ (.inr (by first | (simp; done) | (simp; omega))) _ | with_reducible refine Fr.alloc ?_ _ | with_reducible refine Fr.drew ?_ | with_reducible refine Fr.drewN ?_ _ | with_reducible refine Fr.tr ?_ (by assumption)))
theorem isOutside_any (m : Int) (b : Bool) :
    Calls Try.prog 32 #[.agg #[.int .i64 D, .slice q.K q.kn q.kc, .string q.S, .slice q.A q.an q.ac, .slice q.B q.bn q.bc, .slice q.X q.xn q.xc, .int .i64 q.M, .slice q.R q.rn q.rc], .int .i64 m, .bool b] w fun e w' => e = .returned (.bool (!b)) ∧ Fr No w w' := by
  go_enter Try.func32, Try.ntmps32
  go_wp2
  go_ret
  refine ⟨rfl, ?_⟩
  (repeat (first | with_reducible exact Fr.refl _ _ | with_reducible refine Fr.setCell ?_ (.inr (by first | (simp; done) | (simp; omega))) _ | with_reducible refine Fr.alloc ?_ _ | with_reducible refine Fr.drew ?_ | with_reducible refine Fr.drewN ?_ _ | with_reducible refine Fr.tr ?_ (by assumption)))
theorem isInside_any (m : Int) (b : Bool) :
    Calls Try.prog 33 #[.agg #[.int .i64 D, .slice q.K q.kn q.kc, .string q.S, .slice q.A q.an q.ac, .slice q.B q.bn q.bc, .slice q.X q.xn q.xc, .int .i64 q.M, .slice q.R q.rn q.rc], .int .i64 m, .bool b] w fun e w' => e = .returned (.bool b) ∧ Fr No w w' := by
  go_enter Try.func33, Try.ntmps33
  go_wp2
  go_ret
  refine ⟨rfl, ?_⟩
  (repeat (first | with_reducible exact Fr.refl _ _ | with_reducible refine Fr.setCell ?_ (.inr (by first | (simp; done) | (simp; omega))) _ | with_reducible refine Fr.alloc ?_ _ | with_reducible refine Fr.drew ?_ | with_reducible refine Fr.drewN ?_ _ | with_reducible refine Fr.tr ?_ (by assumption)))
theorem always_any (m : Int) (b : Bool) :
    Calls Try.prog 34 #[.agg #[.int .i64 D, .slice q.K q.kn q.kc, .string q.S, .slice q.A q.an q.ac, .slice q.B q.bn q.bc, .slice q.X q.xn q.xc, .int .i64 q.M, .slice q.R q.rn q.rc], .int .i64 m, .bool b] w fun e w' => e = .returned (.bool true) ∧ Fr No w w' := by
  go_enter Try.func34, Try.ntmps34
  go_wp2
  go_ret
  refine ⟨rfl, ?_⟩
  (repeat (first | with_reducible exact Fr.refl _ _ | with_reducible refine Fr.setCell ?_ (.inr (by first | (simp; done) | (simp; omega))) _ | with_reducible refine Fr.alloc ?_ _ | with_reducible refine Fr.drew ?_ | with_reducible refine Fr.drewN ?_ _ | with_reducible refine Fr.tr ?_ (by assumption)))
theorem isLoad_any (h : Rq w q d) (m : Int) (b : Bool) :
    Calls Try.prog 31 #[.agg #[.int .i64 D, .slice q.K q.kn q.kc, .string q.S, .slice q.A q.an q.ac, .slice q.B q.bn q.bc, .slice q.X q.xn q.xc, .int .i64 q.M, .slice q.R q.rn q.rc], .int .i64 m, .bool b] w fun e w' => e = .returned (.bool (decide (q.rn ≤ 1000) && okAll d.rs m)) ∧ Fr No w w' := by
  have hr := h.r
  by_cases h1 : q.rn ≤ 1000
  · rw [decide_eq_true h1, Bool.true_and]
    go_enter Try.func31, Try.ntmps31
    go_wp2_with (go_at_call 41; ((with_reducible refine (contains_any (rs := d.rs) m ?_ ?_).mono ?_); (repeat (first | with_reducible assumption | with_reducible exact Rv.none_ _ | with_reducible refine Rv.alloc ?_ _ | with_reducible refine Rv.drew ?_ | with_reducible refine Rv.drewN ?_ _ | with_reducible refine Rv.no ?_ (by assumption))); (refine Ob.cell (cs := #[.int .i64 m]) (t := 3) ?_ 0 rfl); (repeat (first | with_reducible assumption | with_reducible refine Ob.other ?_ (by first | (simp; done) | (simp; omega)) _ | ((with_reducible refine Ob.new_ _ _ _ _ ?_) <;> (simp; done)) | with_reducible refine Ob.alloc ?_ _ | with_reducible refine Ob.drew ?_ | with_reducible refine Ob.drewN ?_ _ | with_reducible refine Ob.no ?_ (by assumption))); rintro e w1 ⟨rfl, hf1⟩))
    go_ret
    refine ⟨by simp, ?_⟩
    (repeat (first | with_reducible exact Fr.refl _ _ | with_reducible refine Fr.setCell ?_ (.inr (by first | (simp; done) | (simp; omega))) _ | with_reducible refine Fr.alloc ?_ _ | with_reducible refine Fr.drew ?_ | with_reducible refine Fr.drewN ?_ _ | with_reducible refine Fr.tr ?_ (by assumption)))
  · rw [decide_eq_false h1, Bool.false_and]
    have h1' : 1000 < q.rn := by omega
    clear h1
    go_enter Try.func31, Try.ntmps31
    go_wp2
    go_ret
    refine ⟨rfl, ?_⟩
    (repeat (first | with_reducible exact Fr.refl _ _ | with_reducible refine Fr.setCell ?_ (.inr (by first | (simp; done) | (simp; omega))) _ | with_reducible refine Fr.alloc ?_ _ | with_reducible refine Fr.drew ?_ | with_reducible refine Fr.drewN ?_ _ | with_reducible refine Fr.tr ?_ (by assumption)))
def rulesV : Array Value := #[.nilFunc, .func (.func 26) #[] #[], .func (.func 27) #[] #[], .func (.func 27) #[] #[], .func (.func 28) #[] #[], .func (.func 29) #[] #[], .func (.func 28) #[] #[], .func (.func 30) #[] #[], .func (.func 31) #[] #[], .func (.func 32) #[] #[], .func (.func 33) #[] #[], .func (.func 33) #[] #[], .func (.func 34) #[] #[]]
theorem rules_any :
    Calls Try.prog 18 #[] w fun e w' => e = .returned (.agg rulesV) ∧ Fr No w w' := by
  go_enter Try.func18, Try.ntmps18
  go_wp2
  refine bodyPost_ret (v := .agg rulesV) (by simp [results, Try.results18, go_sem, rulesV]) rfl ?_
  refine ⟨rfl, ?_⟩
  (repeat (first | with_reducible exact Fr.refl _ _ | with_reducible refine Fr.setCell ?_ (.inr (by first | (simp; done) | (simp; omega))) _ | with_reducible refine Fr.alloc ?_ _ | with_reducible refine Fr.drew ?_ | with_reducible refine Fr.drewN ?_ _ | with_reducible refine Fr.tr ?_ (by assumption)))
end
end Go.Proofs.Ytpkhmakgebaofaa.Qc25
