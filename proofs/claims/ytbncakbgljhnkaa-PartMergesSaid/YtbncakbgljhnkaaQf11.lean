/- Layer 11, laws: records split, two buckets put together. -/
import Derived.Test.YtbncakbgljhnkaaRi
import Derived.Test.YtbncakbgljhnkaaRf
import Derived.Test.YtbncakbgljhnkaaQc11
import Derived.StillTailTactics
namespace Go.Proofs.Ytbncakbgljhnkaa.Qf11
open Go.RowKit Go.Proofs.Ytbncakbgljhnkaa.Pk08 Go.Proofs.Ytbncakbgljhnkaa.Base Go.Proofs.Ytbncakbgljhnkaa.App Go.Proofs.Ytbncakbgljhnkaa.Ty Go.Proofs.Ytbncakbgljhnkaa.Str Go.Proofs.Ytbncakbgljhnkaa.Ky Go.Proofs.Ytbncakbgljhnkaa.Bx Go.Proofs.Ytbncakbgljhnkaa.Kk Go.Proofs.Ytbncakbgljhnkaa.Bo Go.Proofs.Ytbncakbgljhnkaa.As Go.Proofs.Ytbncakbgljhnkaa.Pl08 Go.Proofs.Ytbncakbgljhnkaa.Kc08 Go.Proofs.Ytbncakbgljhnkaa.Rv Go.Proofs.Ytbncakbgljhnkaa.Ra Go.Proofs.Ytbncakbgljhnkaa.Rp Go.Proofs.Ytbncakbgljhnkaa.Ro Go.Proofs.Ytbncakbgljhnkaa.Rk Go.Proofs.Ytbncakbgljhnkaa.Rc Go.Proofs.Ytbncakbgljhnkaa.Rs Go.Proofs.Ytbncakbgljhnkaa.Ri Go.Proofs.Ytbncakbgljhnkaa.Rf Go.Proofs.Ytbncakbgljhnkaa.Pt11 Go.Proofs.Ytbncakbgljhnkaa.Pu11 Go.Proofs.Ytbncakbgljhnkaa.Pv11 Go.Proofs.Ytbncakbgljhnkaa.Pw11 Go.Proofs.Ytbncakbgljhnkaa.Px11 Go.Proofs.Ytbncakbgljhnkaa.Qb11 Go.Proofs.Ytbncakbgljhnkaa.Qc11
set_option linter.unusedVariables false
set_option linter.unusedSimpArgs false
/-- How many coordinates the first one has. -/
def dimZ (rs : List Rv.Rec) : Int := if rs.length = 0 then 1 else ((rs.getD 0 rec0).1.length : Int)
section
variable {w : World} {A : Option Addr} {n c : Nat} {rs : List Rv.Rec}
theorem dim_any (hr : Rv w A n c rs) : Calls Try.prog 21 #[.slice A n c] w fun e w' => e = .returned (.int .i64 (dimZ rs)) ∧ w = w' := by
  have hl := hr.len
  have hn := hr.len_le
  rcases Nat.eq_zero_or_pos n with h | h
  · have E := Lib.hid (show dimZ rs = 1 by unfold dimZ; rw [if_pos (by omega)])
    subst h
    clear hl hr
    go_enter Try.func21, Try.ntmps21
    go_wp2
    go_ret
    exact ⟨by rw [E.out]; rfl, rfl⟩
  · have E := Lib.hid (show dimZ rs = ((rs.getD 0 rec0).1.length : Int) by unfold dimZ; rw [if_neg (by omega)])
    obtain ⟨b, off, KA, kc, rfl, a0, a1, hk, hz⟩ := hr.get 0 (by omega)
    have hkl := hk.len_le
    simp only [Nat.zero_mul, Nat.add_zero] at a0 a1
    clear hl hr hk
    generalize (rs.getD 0 rec0).1.length = q at *
    go_enter Try.func21, Try.ntmps21
    go_wp2
    go_ret
    exact ⟨by rw [E.out]; rfl, rfl⟩
end
abbrev twoT (E1 E2 E3 E4 : TypeId) : Ty := .cn (.sl E1 (recT E2)) (.cn (.sl E3 (recT E4)) (.cn (.int .i64) (.cn (.int .u32) .nl)))
theorem rd_two {E1 E2 E3 E4 : TypeId} {w : World} {x : (twoT E1 E2 E3 E4).D} {cs : Array Value} (h : Rd (twoT E1 E2 E3 E4) w x cs.toList) :
    ∃ A n c B m d rs qs, ∃ (z : Int) (bd : Nat), cs = #[.slice A n c, .slice B m d, .int .i64 z, .int .u32 (bd : Int)] ∧ Rv w A n c rs ∧ Rv w B m d qs := by
  obtain ⟨c1, c2, hc, h1, c3, c4, rfl, h2, c5, c6, rfl, h3, c7, c8, rfl, h4, h5⟩ := h
  have h5' : c8 = [] := h5
  subst h5'
  have h1' := h1
  have h2' := h2
  obtain ⟨A, c, rfl, _⟩ := h1'
  obtain ⟨B, d, rfl, _⟩ := h2'
  obtain ⟨rfl, h3'⟩ := h3
  obtain ⟨rfl, h4'⟩ := h4
  obtain ⟨rs, hr⟩ := Rv.of_rd h1
  obtain ⟨qs, hq⟩ := Rv.of_rd h2
  obtain ⟨b, hb⟩ : ∃ b : Int, x.2.2.2.1 = b := ⟨_, rfl⟩
  obtain ⟨z, hz⟩ : ∃ z : Int, x.2.2.1 = z := ⟨_, rfl⟩
  rw [hb] at h4' hc
  rw [hz] at hc
  have h6 : (decide (IntKind.u32.min ≤ b) && decide (b ≤ IntKind.u32.max)) = true := h4'
  rw [show IntKind.u32.min = 0 from by decide, show IntKind.u32.max = 4294967295 from by decide, Bool.and_eq_true, decide_eq_true_eq, decide_eq_true_eq] at h6
  refine ⟨A, _, c, B, _, d, rs, qs, z, b.toNat, ?_, hr, hq⟩
  rw [← Array.toArray_toList (xs := cs), hc, Int.toNat_of_nonneg h6.1]
  rfl
theorem same_yes (rs : List Rv.Rec) : decide (rs = rs) = true := decide_eq_true rfl
set_option maxRecDepth 8000 in
set_option maxHeartbeats 6400000 in
theorem law_splits {E1 E2 E3 E4 : TypeId} (w : World) (cs : Array Value) (x : (twoT E1 E2 E3 E4).D) (h : Rd (twoT E1 E2 E3 E4) w x cs.toList) :
    Calls Try.prog 4 #[.agg cs] w fun e w' => e = .returned (.bool true) ∧ Fr No w w' := by
  obtain ⟨A, n, c, B, m, d, rs, qs, z, bd, rfl, hr, hq⟩ := rd_two h
  clear h x
  have Hr := Lib.hid hr
  have Hq := Lib.hid hq
  clear hr hq
  cases hf : fewB rs with
  | false =>
    have Hf := Lib.hid hf
    clear hf
    go_enter Try.func4, Try.ntmps4
    go_wp2
    go_quiet (fail)
    go_wp2_with (go_at_call 9; ((with_reducible refine (few_any (rs := rs) ?_).mono ?_); (focus ((have hr := Hr.out); (repeat (first | with_reducible assumption | with_reducible exact Rv.none_ _ | with_reducible refine Rv.alloc ?_ _ | with_reducible refine Rv.drew ?_ | with_reducible refine Rv.drewN ?_ _ | with_reducible refine Rv.no ?_ (by assumption))))); rintro e w1 ⟨rfl, rfl⟩; rw [Hf.out]))
    go_wp2_with (go_at_call 10; ((with_reducible refine (live _).mono ?_); rintro e wl ⟨rfl, hfl⟩))
    go_ret
    exact ⟨rfl, by (repeat (first | with_reducible exact Fr.refl _ _ | with_reducible refine Fr.setCell ?_ (.inr (by first | (simp; done) | (simp; omega))) _ | with_reducible refine Fr.alloc ?_ _ | with_reducible refine Fr.drew ?_ | with_reducible refine Fr.drewN ?_ _ | with_reducible refine Fr.tr ?_ (by assumption)))⟩
  | true =>
    have Hf := Lib.hid hf
    have Hs1 := Lib.hid (few_short hf)
    clear hf
    cases hg : fewB qs with
    | false =>
      have Hg := Lib.hid hg
      clear hg
      go_enter Try.func4, Try.ntmps4
      go_wp2
      go_quiet (fail)
      go_wp2_with (go_at_call 9; ((with_reducible refine (few_any (rs := rs) ?_).mono ?_); (focus ((have hr := Hr.out); (repeat (first | with_reducible assumption | with_reducible exact Rv.none_ _ | with_reducible refine Rv.alloc ?_ _ | with_reducible refine Rv.drew ?_ | with_reducible refine Rv.drewN ?_ _ | with_reducible refine Rv.no ?_ (by assumption))))); rintro e w1 ⟨rfl, rfl⟩; rw [Hf.out]))
      go_wp2_with (go_at_call 9; ((with_reducible refine (few_any (rs := qs) ?_).mono ?_); (focus ((have hr := Hq.out); (repeat (first | with_reducible assumption | with_reducible exact Rv.none_ _ | with_reducible refine Rv.alloc ?_ _ | with_reducible refine Rv.drew ?_ | with_reducible refine Rv.drewN ?_ _ | with_reducible refine Rv.no ?_ (by assumption))))); rintro e w1 ⟨rfl, rfl⟩; rw [Hg.out]))
      go_wp2_with (go_at_call 10; ((with_reducible refine (live _).mono ?_); rintro e wl ⟨rfl, hfl⟩))
      go_ret
      exact ⟨rfl, by (repeat (first | with_reducible exact Fr.refl _ _ | with_reducible refine Fr.setCell ?_ (.inr (by first | (simp; done) | (simp; omega))) _ | with_reducible refine Fr.alloc ?_ _ | with_reducible refine Fr.drew ?_ | with_reducible refine Fr.drewN ?_ _ | with_reducible refine Fr.tr ?_ (by assumption)))⟩
    | true =>
      have Hg := Lib.hid hg
      have Hs2 := Lib.hid (few_short hg)
      clear hg
      cases hi1 : isBk (dimZ rs) rs with
      | false =>
        have HI1 := Lib.hid hi1
        clear hi1
        go_enter Try.func4, Try.ntmps4
        go_wp2
        go_quiet (fail)
        go_wp2_with (go_at_call 9; ((with_reducible refine (few_any (rs := rs) ?_).mono ?_); (focus ((have hr := Hr.out); (repeat (first | with_reducible assumption | with_reducible exact Rv.none_ _ | with_reducible refine Rv.alloc ?_ _ | with_reducible refine Rv.drew ?_ | with_reducible refine Rv.drewN ?_ _ | with_reducible refine Rv.no ?_ (by assumption))))); rintro e w1 ⟨rfl, rfl⟩; rw [Hf.out]))
        go_wp2_with (go_at_call 9; ((with_reducible refine (few_any (rs := qs) ?_).mono ?_); (focus ((have hr := Hq.out); (repeat (first | with_reducible assumption | with_reducible exact Rv.none_ _ | with_reducible refine Rv.alloc ?_ _ | with_reducible refine Rv.drew ?_ | with_reducible refine Rv.drewN ?_ _ | with_reducible refine Rv.no ?_ (by assumption))))); rintro e w1 ⟨rfl, rfl⟩; rw [Hg.out]))
        go_wp2_with (go_at_call 16; ((with_reducible refine (copies_any (rs := rs) ?_ Hs1.out.1).mono ?_); (focus ((have hr := Hr.out); (repeat (first | with_reducible assumption | with_reducible exact Rv.none_ _ | with_reducible refine Rv.alloc ?_ _ | with_reducible refine Rv.drew ?_ | with_reducible refine Rv.drewN ?_ _ | with_reducible refine Rv.no ?_ (by assumption))))); rintro e u1 ⟨O1, on1, oc1, rfl, hou1, hfu1⟩; (have HOw := Lib.hid hou1.rv); (clear hou1)))
        obtain rfl : on1 = n := by rw [HOw.out.len, Hr.out.len]
        go_wp2_with (go_at_call 17; ((with_reducible refine (split_any (rs := rs) _ bd ?_ Hs1.out.1).mono ?_); (focus ((have hr := HOw.out); (repeat (first | with_reducible assumption | with_reducible exact Rv.none_ _ | with_reducible refine Rv.alloc ?_ _ | with_reducible refine Rv.drew ?_ | with_reducible refine Rv.drewN ?_ _ | with_reducible refine Rv.no ?_ (by assumption))))); rintro e u2 ⟨P2, p2, cP2, Q2, q2, cQ2, rfl, k1, k2, hfu2⟩; (have K1 := Lib.hid k1); (have K2 := Lib.hid k2); (clear k1 k2)))
        go_wp2_with (go_at_call 18; ((with_reducible refine (rsplit_any (rs := rs) _ bd ?_ Hs1.out.1).mono ?_); (focus ((have hr := Hr.out); (repeat (first | with_reducible assumption | with_reducible exact Rv.none_ _ | with_reducible refine Rv.alloc ?_ _ | with_reducible refine Rv.drew ?_ | with_reducible refine Rv.drewN ?_ _ | with_reducible refine Rv.no ?_ (by assumption))))); rintro e u3 ⟨P3, p3, cP3, Q3, q3, cQ3, rfl, k3, k4, hfu3⟩; (have K3 := Lib.hid k3); (have K4 := Lib.hid k4); (clear k3 k4)))
        go_wp2_with (go_at_call 19; ((with_reducible refine (same_any (rs := spL z bd rs) (qs := spL z bd rs) ?_ ?_).mono ?_); (focus ((have h := K1.out); (repeat (first | with_reducible assumption | with_reducible exact Rv.none_ _ | with_reducible refine Rv.alloc ?_ _ | with_reducible refine Rv.drew ?_ | with_reducible refine Rv.drewN ?_ _ | with_reducible refine Rv.no ?_ (by assumption))))); (focus ((have h := K3.out); (repeat (first | with_reducible assumption | with_reducible exact Rv.none_ _ | with_reducible refine Rv.alloc ?_ _ | with_reducible refine Rv.drew ?_ | with_reducible refine Rv.drewN ?_ _ | with_reducible refine Rv.no ?_ (by assumption))))); rintro e u4 ⟨rfl, hfu4⟩; rw [same_yes]))
        go_wp2_with (go_at_call 19; ((with_reducible refine (same_any (rs := spH z bd rs) (qs := spH z bd rs) ?_ ?_).mono ?_); (focus ((have h := K2.out); (repeat (first | with_reducible assumption | with_reducible exact Rv.none_ _ | with_reducible refine Rv.alloc ?_ _ | with_reducible refine Rv.drew ?_ | with_reducible refine Rv.drewN ?_ _ | with_reducible refine Rv.no ?_ (by assumption))))); (focus ((have h := K4.out); (repeat (first | with_reducible assumption | with_reducible exact Rv.none_ _ | with_reducible refine Rv.alloc ?_ _ | with_reducible refine Rv.drew ?_ | with_reducible refine Rv.drewN ?_ _ | with_reducible refine Rv.no ?_ (by assumption))))); rintro e u5 ⟨rfl, hfu5⟩; rw [same_yes]))
        go_wp2_with (go_at_call 19; ((with_reducible refine (same_any (rs := rs) (qs := rs) ?_ ?_).mono ?_); (focus ((have h := HOw.out); (repeat (first | with_reducible assumption | with_reducible exact Rv.none_ _ | with_reducible refine Rv.alloc ?_ _ | with_reducible refine Rv.drew ?_ | with_reducible refine Rv.drewN ?_ _ | with_reducible refine Rv.no ?_ (by assumption))))); (focus ((have h := Hr.out); (repeat (first | with_reducible assumption | with_reducible exact Rv.none_ _ | with_reducible refine Rv.alloc ?_ _ | with_reducible refine Rv.drew ?_ | with_reducible refine Rv.drewN ?_ _ | with_reducible refine Rv.no ?_ (by assumption))))); rintro e u6 ⟨rfl, hfu6⟩; rw [same_yes]))
        go_wp2_with (first | (go_at_call 21; ((with_reducible refine (dim_any (rs := rs) ?_).mono ?_); (focus ((have hr := Hr.out); (repeat (first | with_reducible assumption | with_reducible exact Rv.none_ _ | with_reducible refine Rv.alloc ?_ _ | with_reducible refine Rv.drew ?_ | with_reducible refine Rv.drewN ?_ _ | with_reducible refine Rv.no ?_ (by assumption))))); rintro e w1 ⟨rfl, rfl⟩)) | (go_at_call 20; ((with_reducible refine (ris_any (rs := rs) _ ?_).mono ?_); (focus ((have hr := Hr.out); (repeat (first | with_reducible assumption | with_reducible exact Rv.none_ _ | with_reducible refine Rv.alloc ?_ _ | with_reducible refine Rv.drew ?_ | with_reducible refine Rv.drewN ?_ _ | with_reducible refine Rv.no ?_ (by assumption))))); rintro e y1 ⟨rfl, hfy1⟩; rw [HI1.out])) | fail)
        go_wp2_with (go_at_call 10; ((with_reducible refine (live _).mono ?_); rintro e wl ⟨rfl, hfl⟩))
        go_ret
        exact ⟨rfl, by (repeat (first | with_reducible exact Fr.refl _ _ | with_reducible refine Fr.setCell ?_ (.inr (by first | (simp; done) | (simp; omega))) _ | with_reducible refine Fr.alloc ?_ _ | with_reducible refine Fr.drew ?_ | with_reducible refine Fr.drewN ?_ _ | with_reducible refine Fr.tr ?_ (by assumption)))⟩
      | true =>
        have HI1 := Lib.hid hi1
        clear hi1
        cases hi2 : isBk (dimZ rs) qs with
        | false =>
          have HI2 := Lib.hid hi2
          clear hi2
          go_enter Try.func4, Try.ntmps4
          go_wp2
          go_quiet (fail)
          go_wp2_with (go_at_call 9; ((with_reducible refine (few_any (rs := rs) ?_).mono ?_); (focus ((have hr := Hr.out); (repeat (first | with_reducible assumption | with_reducible exact Rv.none_ _ | with_reducible refine Rv.alloc ?_ _ | with_reducible refine Rv.drew ?_ | with_reducible refine Rv.drewN ?_ _ | with_reducible refine Rv.no ?_ (by assumption))))); rintro e w1 ⟨rfl, rfl⟩; rw [Hf.out]))
          go_wp2_with (go_at_call 9; ((with_reducible refine (few_any (rs := qs) ?_).mono ?_); (focus ((have hr := Hq.out); (repeat (first | with_reducible assumption | with_reducible exact Rv.none_ _ | with_reducible refine Rv.alloc ?_ _ | with_reducible refine Rv.drew ?_ | with_reducible refine Rv.drewN ?_ _ | with_reducible refine Rv.no ?_ (by assumption))))); rintro e w1 ⟨rfl, rfl⟩; rw [Hg.out]))
          go_wp2_with (go_at_call 16; ((with_reducible refine (copies_any (rs := rs) ?_ Hs1.out.1).mono ?_); (focus ((have hr := Hr.out); (repeat (first | with_reducible assumption | with_reducible exact Rv.none_ _ | with_reducible refine Rv.alloc ?_ _ | with_reducible refine Rv.drew ?_ | with_reducible refine Rv.drewN ?_ _ | with_reducible refine Rv.no ?_ (by assumption))))); rintro e u1 ⟨O1, on1, oc1, rfl, hou1, hfu1⟩; (have HOw := Lib.hid hou1.rv); (clear hou1)))
          obtain rfl : on1 = n := by rw [HOw.out.len, Hr.out.len]
          go_wp2_with (go_at_call 17; ((with_reducible refine (split_any (rs := rs) _ bd ?_ Hs1.out.1).mono ?_); (focus ((have hr := HOw.out); (repeat (first | with_reducible assumption | with_reducible exact Rv.none_ _ | with_reducible refine Rv.alloc ?_ _ | with_reducible refine Rv.drew ?_ | with_reducible refine Rv.drewN ?_ _ | with_reducible refine Rv.no ?_ (by assumption))))); rintro e u2 ⟨P2, p2, cP2, Q2, q2, cQ2, rfl, k1, k2, hfu2⟩; (have K1 := Lib.hid k1); (have K2 := Lib.hid k2); (clear k1 k2)))
          go_wp2_with (go_at_call 18; ((with_reducible refine (rsplit_any (rs := rs) _ bd ?_ Hs1.out.1).mono ?_); (focus ((have hr := Hr.out); (repeat (first | with_reducible assumption | with_reducible exact Rv.none_ _ | with_reducible refine Rv.alloc ?_ _ | with_reducible refine Rv.drew ?_ | with_reducible refine Rv.drewN ?_ _ | with_reducible refine Rv.no ?_ (by assumption))))); rintro e u3 ⟨P3, p3, cP3, Q3, q3, cQ3, rfl, k3, k4, hfu3⟩; (have K3 := Lib.hid k3); (have K4 := Lib.hid k4); (clear k3 k4)))
          go_wp2_with (go_at_call 19; ((with_reducible refine (same_any (rs := spL z bd rs) (qs := spL z bd rs) ?_ ?_).mono ?_); (focus ((have h := K1.out); (repeat (first | with_reducible assumption | with_reducible exact Rv.none_ _ | with_reducible refine Rv.alloc ?_ _ | with_reducible refine Rv.drew ?_ | with_reducible refine Rv.drewN ?_ _ | with_reducible refine Rv.no ?_ (by assumption))))); (focus ((have h := K3.out); (repeat (first | with_reducible assumption | with_reducible exact Rv.none_ _ | with_reducible refine Rv.alloc ?_ _ | with_reducible refine Rv.drew ?_ | with_reducible refine Rv.drewN ?_ _ | with_reducible refine Rv.no ?_ (by assumption))))); rintro e u4 ⟨rfl, hfu4⟩; rw [same_yes]))
          go_wp2_with (go_at_call 19; ((with_reducible refine (same_any (rs := spH z bd rs) (qs := spH z bd rs) ?_ ?_).mono ?_); (focus ((have h := K2.out); (repeat (first | with_reducible assumption | with_reducible exact Rv.none_ _ | with_reducible refine Rv.alloc ?_ _ | with_reducible refine Rv.drew ?_ | with_reducible refine Rv.drewN ?_ _ | with_reducible refine Rv.no ?_ (by assumption))))); (focus ((have h := K4.out); (repeat (first | with_reducible assumption | with_reducible exact Rv.none_ _ | with_reducible refine Rv.alloc ?_ _ | with_reducible refine Rv.drew ?_ | with_reducible refine Rv.drewN ?_ _ | with_reducible refine Rv.no ?_ (by assumption))))); rintro e u5 ⟨rfl, hfu5⟩; rw [same_yes]))
          go_wp2_with (go_at_call 19; ((with_reducible refine (same_any (rs := rs) (qs := rs) ?_ ?_).mono ?_); (focus ((have h := HOw.out); (repeat (first | with_reducible assumption | with_reducible exact Rv.none_ _ | with_reducible refine Rv.alloc ?_ _ | with_reducible refine Rv.drew ?_ | with_reducible refine Rv.drewN ?_ _ | with_reducible refine Rv.no ?_ (by assumption))))); (focus ((have h := Hr.out); (repeat (first | with_reducible assumption | with_reducible exact Rv.none_ _ | with_reducible refine Rv.alloc ?_ _ | with_reducible refine Rv.drew ?_ | with_reducible refine Rv.drewN ?_ _ | with_reducible refine Rv.no ?_ (by assumption))))); rintro e u6 ⟨rfl, hfu6⟩; rw [same_yes]))
          go_wp2_with (first | (go_at_call 21; ((with_reducible refine (dim_any (rs := rs) ?_).mono ?_); (focus ((have hr := Hr.out); (repeat (first | with_reducible assumption | with_reducible exact Rv.none_ _ | with_reducible refine Rv.alloc ?_ _ | with_reducible refine Rv.drew ?_ | with_reducible refine Rv.drewN ?_ _ | with_reducible refine Rv.no ?_ (by assumption))))); rintro e w1 ⟨rfl, rfl⟩)) | (go_at_call 20; ((with_reducible refine (ris_any (rs := rs) _ ?_).mono ?_); (focus ((have hr := Hr.out); (repeat (first | with_reducible assumption | with_reducible exact Rv.none_ _ | with_reducible refine Rv.alloc ?_ _ | with_reducible refine Rv.drew ?_ | with_reducible refine Rv.drewN ?_ _ | with_reducible refine Rv.no ?_ (by assumption))))); rintro e y1 ⟨rfl, hfy1⟩; rw [HI1.out])) | fail)
          go_wp2_with (first | (go_at_call 21; ((with_reducible refine (dim_any (rs := rs) ?_).mono ?_); (focus ((have hr := Hr.out); (repeat (first | with_reducible assumption | with_reducible exact Rv.none_ _ | with_reducible refine Rv.alloc ?_ _ | with_reducible refine Rv.drew ?_ | with_reducible refine Rv.drewN ?_ _ | with_reducible refine Rv.no ?_ (by assumption))))); rintro e w1 ⟨rfl, rfl⟩)) | (go_at_call 20; ((with_reducible refine (ris_any (rs := qs) _ ?_).mono ?_); (focus ((have hr := Hq.out); (repeat (first | with_reducible assumption | with_reducible exact Rv.none_ _ | with_reducible refine Rv.alloc ?_ _ | with_reducible refine Rv.drew ?_ | with_reducible refine Rv.drewN ?_ _ | with_reducible refine Rv.no ?_ (by assumption))))); rintro e y2 ⟨rfl, hfy2⟩; rw [HI2.out])) | fail)
          go_wp2_with (go_at_call 10; ((with_reducible refine (live _).mono ?_); rintro e wl ⟨rfl, hfl⟩))
          go_ret
          exact ⟨rfl, by (repeat (first | with_reducible exact Fr.refl _ _ | with_reducible refine Fr.setCell ?_ (.inr (by first | (simp; done) | (simp; omega))) _ | with_reducible refine Fr.alloc ?_ _ | with_reducible refine Fr.drew ?_ | with_reducible refine Fr.drewN ?_ _ | with_reducible refine Fr.tr ?_ (by assumption)))⟩
        | true =>
          have HI2 := Lib.hid hi2
          have Hm := Lib.hid (mrg_eq (isBk_strict HI1.out) (isBk_strict hi2))
          have hlens : n ≤ 60 ∧ m ≤ 60 := ⟨by have := Hr.out.len; have := Hs1.out.2; omega, by have := Hq.out.len; have := Hs2.out.2; omega⟩
          clear hi2
          go_enter Try.func4, Try.ntmps4
          go_wp2
          go_quiet (fail)
          go_wp2_with (go_at_call 9; ((with_reducible refine (few_any (rs := rs) ?_).mono ?_); (focus ((have hr := Hr.out); (repeat (first | with_reducible assumption | with_reducible exact Rv.none_ _ | with_reducible refine Rv.alloc ?_ _ | with_reducible refine Rv.drew ?_ | with_reducible refine Rv.drewN ?_ _ | with_reducible refine Rv.no ?_ (by assumption))))); rintro e w1 ⟨rfl, rfl⟩; rw [Hf.out]))
          go_wp2_with (go_at_call 9; ((with_reducible refine (few_any (rs := qs) ?_).mono ?_); (focus ((have hr := Hq.out); (repeat (first | with_reducible assumption | with_reducible exact Rv.none_ _ | with_reducible refine Rv.alloc ?_ _ | with_reducible refine Rv.drew ?_ | with_reducible refine Rv.drewN ?_ _ | with_reducible refine Rv.no ?_ (by assumption))))); rintro e w1 ⟨rfl, rfl⟩; rw [Hg.out]))
          go_wp2_with (go_at_call 16; ((with_reducible refine (copies_any (rs := rs) ?_ Hs1.out.1).mono ?_); (focus ((have hr := Hr.out); (repeat (first | with_reducible assumption | with_reducible exact Rv.none_ _ | with_reducible refine Rv.alloc ?_ _ | with_reducible refine Rv.drew ?_ | with_reducible refine Rv.drewN ?_ _ | with_reducible refine Rv.no ?_ (by assumption))))); rintro e u1 ⟨O1, on1, oc1, rfl, hou1, hfu1⟩; (have HOw := Lib.hid hou1.rv); (clear hou1)))
          obtain rfl : on1 = n := by rw [HOw.out.len, Hr.out.len]
          go_wp2_with (go_at_call 17; ((with_reducible refine (split_any (rs := rs) _ bd ?_ Hs1.out.1).mono ?_); (focus ((have hr := HOw.out); (repeat (first | with_reducible assumption | with_reducible exact Rv.none_ _ | with_reducible refine Rv.alloc ?_ _ | with_reducible refine Rv.drew ?_ | with_reducible refine Rv.drewN ?_ _ | with_reducible refine Rv.no ?_ (by assumption))))); rintro e u2 ⟨P2, p2, cP2, Q2, q2, cQ2, rfl, k1, k2, hfu2⟩; (have K1 := Lib.hid k1); (have K2 := Lib.hid k2); (clear k1 k2)))
          go_wp2_with (go_at_call 18; ((with_reducible refine (rsplit_any (rs := rs) _ bd ?_ Hs1.out.1).mono ?_); (focus ((have hr := Hr.out); (repeat (first | with_reducible assumption | with_reducible exact Rv.none_ _ | with_reducible refine Rv.alloc ?_ _ | with_reducible refine Rv.drew ?_ | with_reducible refine Rv.drewN ?_ _ | with_reducible refine Rv.no ?_ (by assumption))))); rintro e u3 ⟨P3, p3, cP3, Q3, q3, cQ3, rfl, k3, k4, hfu3⟩; (have K3 := Lib.hid k3); (have K4 := Lib.hid k4); (clear k3 k4)))
          go_wp2_with (go_at_call 19; ((with_reducible refine (same_any (rs := spL z bd rs) (qs := spL z bd rs) ?_ ?_).mono ?_); (focus ((have h := K1.out); (repeat (first | with_reducible assumption | with_reducible exact Rv.none_ _ | with_reducible refine Rv.alloc ?_ _ | with_reducible refine Rv.drew ?_ | with_reducible refine Rv.drewN ?_ _ | with_reducible refine Rv.no ?_ (by assumption))))); (focus ((have h := K3.out); (repeat (first | with_reducible assumption | with_reducible exact Rv.none_ _ | with_reducible refine Rv.alloc ?_ _ | with_reducible refine Rv.drew ?_ | with_reducible refine Rv.drewN ?_ _ | with_reducible refine Rv.no ?_ (by assumption))))); rintro e u4 ⟨rfl, hfu4⟩; rw [same_yes]))
          go_wp2_with (go_at_call 19; ((with_reducible refine (same_any (rs := spH z bd rs) (qs := spH z bd rs) ?_ ?_).mono ?_); (focus ((have h := K2.out); (repeat (first | with_reducible assumption | with_reducible exact Rv.none_ _ | with_reducible refine Rv.alloc ?_ _ | with_reducible refine Rv.drew ?_ | with_reducible refine Rv.drewN ?_ _ | with_reducible refine Rv.no ?_ (by assumption))))); (focus ((have h := K4.out); (repeat (first | with_reducible assumption | with_reducible exact Rv.none_ _ | with_reducible refine Rv.alloc ?_ _ | with_reducible refine Rv.drew ?_ | with_reducible refine Rv.drewN ?_ _ | with_reducible refine Rv.no ?_ (by assumption))))); rintro e u5 ⟨rfl, hfu5⟩; rw [same_yes]))
          go_wp2_with (go_at_call 19; ((with_reducible refine (same_any (rs := rs) (qs := rs) ?_ ?_).mono ?_); (focus ((have h := HOw.out); (repeat (first | with_reducible assumption | with_reducible exact Rv.none_ _ | with_reducible refine Rv.alloc ?_ _ | with_reducible refine Rv.drew ?_ | with_reducible refine Rv.drewN ?_ _ | with_reducible refine Rv.no ?_ (by assumption))))); (focus ((have h := Hr.out); (repeat (first | with_reducible assumption | with_reducible exact Rv.none_ _ | with_reducible refine Rv.alloc ?_ _ | with_reducible refine Rv.drew ?_ | with_reducible refine Rv.drewN ?_ _ | with_reducible refine Rv.no ?_ (by assumption))))); rintro e u6 ⟨rfl, hfu6⟩; rw [same_yes]))
          go_wp2_with (first | (go_at_call 21; ((with_reducible refine (dim_any (rs := rs) ?_).mono ?_); (focus ((have hr := Hr.out); (repeat (first | with_reducible assumption | with_reducible exact Rv.none_ _ | with_reducible refine Rv.alloc ?_ _ | with_reducible refine Rv.drew ?_ | with_reducible refine Rv.drewN ?_ _ | with_reducible refine Rv.no ?_ (by assumption))))); rintro e w1 ⟨rfl, rfl⟩)) | (go_at_call 20; ((with_reducible refine (ris_any (rs := rs) _ ?_).mono ?_); (focus ((have hr := Hr.out); (repeat (first | with_reducible assumption | with_reducible exact Rv.none_ _ | with_reducible refine Rv.alloc ?_ _ | with_reducible refine Rv.drew ?_ | with_reducible refine Rv.drewN ?_ _ | with_reducible refine Rv.no ?_ (by assumption))))); rintro e y1 ⟨rfl, hfy1⟩; rw [HI1.out])) | fail)
          go_wp2_with (first | (go_at_call 21; ((with_reducible refine (dim_any (rs := rs) ?_).mono ?_); (focus ((have hr := Hr.out); (repeat (first | with_reducible assumption | with_reducible exact Rv.none_ _ | with_reducible refine Rv.alloc ?_ _ | with_reducible refine Rv.drew ?_ | with_reducible refine Rv.drewN ?_ _ | with_reducible refine Rv.no ?_ (by assumption))))); rintro e w1 ⟨rfl, rfl⟩)) | (go_at_call 20; ((with_reducible refine (ris_any (rs := qs) _ ?_).mono ?_); (focus ((have hr := Hq.out); (repeat (first | with_reducible assumption | with_reducible exact Rv.none_ _ | with_reducible refine Rv.alloc ?_ _ | with_reducible refine Rv.drew ?_ | with_reducible refine Rv.drewN ?_ _ | with_reducible refine Rv.no ?_ (by assumption))))); rintro e y2 ⟨rfl, hfy2⟩; rw [HI2.out])) | fail)
          go_wp2_with (go_at_call 22; ((with_reducible refine (merge_any (rs := rs) (qs := qs) ?_ ?_ Hs1.out.1 Hs2.out.1 (by omega) (isBk_strict HI1.out) (isBk_strict HI2.out)).mono ?_); (focus ((have h := HOw.out); (repeat (first | with_reducible assumption | with_reducible exact Rv.none_ _ | with_reducible refine Rv.alloc ?_ _ | with_reducible refine Rv.drew ?_ | with_reducible refine Rv.drewN ?_ _ | with_reducible refine Rv.no ?_ (by assumption))))); (focus ((have h := Hq.out); (repeat (first | with_reducible assumption | with_reducible exact Rv.none_ _ | with_reducible refine Rv.alloc ?_ _ | with_reducible refine Rv.drew ?_ | with_reducible refine Rv.drewN ?_ _ | with_reducible refine Rv.no ?_ (by assumption))))); rintro e v1 ⟨V1, vn1, vc1, rfl, hov1, hfv1⟩; (have HV1 := Lib.hid hov1.rv); (clear hov1)))
          go_wp2_with (go_at_call 23; ((with_reducible refine (rmerge_any (rs := rs) (qs := qs) ?_ ?_ Hs1.out.1 Hs2.out.1 (by omega)).mono ?_); (focus ((have h := Hr.out); (repeat (first | with_reducible assumption | with_reducible exact Rv.none_ _ | with_reducible refine Rv.alloc ?_ _ | with_reducible refine Rv.drew ?_ | with_reducible refine Rv.drewN ?_ _ | with_reducible refine Rv.no ?_ (by assumption))))); (focus ((have h := Hq.out); (repeat (first | with_reducible assumption | with_reducible exact Rv.none_ _ | with_reducible refine Rv.alloc ?_ _ | with_reducible refine Rv.drew ?_ | with_reducible refine Rv.drewN ?_ _ | with_reducible refine Rv.no ?_ (by assumption))))); rintro e v2 ⟨V2, vn2, vc2, rfl, hov2, hfv2⟩; (have hv2 := hov2.rv); (rw [Hm.out] at hv2); (have HV2 := Lib.hid hv2); (clear hov2 hv2)))
          go_wp2_with (go_at_call 19; ((with_reducible refine (same_any (rs := mg rs qs) (qs := mg rs qs) ?_ ?_).mono ?_); (focus ((have h := HV1.out); (repeat (first | with_reducible assumption | with_reducible exact Rv.none_ _ | with_reducible refine Rv.alloc ?_ _ | with_reducible refine Rv.drew ?_ | with_reducible refine Rv.drewN ?_ _ | with_reducible refine Rv.no ?_ (by assumption))))); (focus ((have h := HV2.out); (repeat (first | with_reducible assumption | with_reducible exact Rv.none_ _ | with_reducible refine Rv.alloc ?_ _ | with_reducible refine Rv.drew ?_ | with_reducible refine Rv.drewN ?_ _ | with_reducible refine Rv.no ?_ (by assumption))))); rintro e v3 ⟨rfl, hfv3⟩; rw [same_yes]))
          go_wp2_with (go_at_call 19; ((with_reducible refine (same_any (rs := rs) (qs := rs) ?_ ?_).mono ?_); (focus ((have h := HOw.out); (repeat (first | with_reducible assumption | with_reducible exact Rv.none_ _ | with_reducible refine Rv.alloc ?_ _ | with_reducible refine Rv.drew ?_ | with_reducible refine Rv.drewN ?_ _ | with_reducible refine Rv.no ?_ (by assumption))))); (focus ((have h := Hr.out); (repeat (first | with_reducible assumption | with_reducible exact Rv.none_ _ | with_reducible refine Rv.alloc ?_ _ | with_reducible refine Rv.drew ?_ | with_reducible refine Rv.drewN ?_ _ | with_reducible refine Rv.no ?_ (by assumption))))); rintro e v4 ⟨rfl, hfv4⟩; rw [same_yes]))
          go_wp2_with (go_at_call 10; ((with_reducible refine (live _).mono ?_); rintro e wl ⟨rfl, hfl⟩))
          go_ret
          exact ⟨rfl, by (repeat (first | with_reducible exact Fr.refl _ _ | with_reducible refine Fr.setCell ?_ (.inr (by first | (simp; done) | (simp; omega))) _ | with_reducible refine Fr.alloc ?_ _ | with_reducible refine Fr.drew ?_ | with_reducible refine Fr.drewN ?_ _ | with_reducible refine Fr.tr ?_ (by assumption)))⟩
end Go.Proofs.Ytbncakbgljhnkaa.Qf11
