/- Layer 11, laws: a bucket that is split is put together again; two buckets, each Key once. -/
import Derived.Test.YtbncakbgljhnkaaQf11
import Derived.StillTailTactics
namespace Go.Proofs.Ytbncakbgljhnkaa.Qg11
open Go.RowKit Go.Proofs.Ytbncakbgljhnkaa.Pk08 Go.Proofs.Ytbncakbgljhnkaa.Base Go.Proofs.Ytbncakbgljhnkaa.App Go.Proofs.Ytbncakbgljhnkaa.Ty Go.Proofs.Ytbncakbgljhnkaa.Str Go.Proofs.Ytbncakbgljhnkaa.Ky Go.Proofs.Ytbncakbgljhnkaa.Bx Go.Proofs.Ytbncakbgljhnkaa.Kk Go.Proofs.Ytbncakbgljhnkaa.Bo Go.Proofs.Ytbncakbgljhnkaa.As Go.Proofs.Ytbncakbgljhnkaa.Pl08 Go.Proofs.Ytbncakbgljhnkaa.Kc08 Go.Proofs.Ytbncakbgljhnkaa.Rv Go.Proofs.Ytbncakbgljhnkaa.Ra Go.Proofs.Ytbncakbgljhnkaa.Rp Go.Proofs.Ytbncakbgljhnkaa.Ro Go.Proofs.Ytbncakbgljhnkaa.Rk Go.Proofs.Ytbncakbgljhnkaa.Rc Go.Proofs.Ytbncakbgljhnkaa.Rs Go.Proofs.Ytbncakbgljhnkaa.Ri Go.Proofs.Ytbncakbgljhnkaa.Rf Go.Proofs.Ytbncakbgljhnkaa.Pt11 Go.Proofs.Ytbncakbgljhnkaa.Pu11 Go.Proofs.Ytbncakbgljhnkaa.Pv11 Go.Proofs.Ytbncakbgljhnkaa.Pw11 Go.Proofs.Ytbncakbgljhnkaa.Px11 Go.Proofs.Ytbncakbgljhnkaa.Qb11 Go.Proofs.Ytbncakbgljhnkaa.Qc11 Go.Proofs.Ytbncakbgljhnkaa.Qf11
set_option linter.unusedVariables false
set_option linter.unusedSimpArgs false
theorem memD {ls : List Rv.Rec} (i : Nat) (h : i < ls.length) : ls.getD i rec0 ∈ ls := by
  have e : ls.getD i rec0 = ls[i] := by simp [List.getD_eq_getElem?_getD, h]
  rw [e]; exact List.getElem_mem h
theorem low_at {rs : List Rv.Rec} {z : Int} {bd i : Nat} (hs : spOk z rs = true) (hi : i < (lows z bd rs).length) : 0 ≤ z ∧ z < ((lows z bd rs).getD i rec0).1.length ∧ ((lows z bd rs).getD i rec0).1.getD z.toNat 0 < bd := by
  obtain ⟨h1, h2⟩ := List.mem_filter.1 (memD i hi)
  unfold spOk at hs
  have h3 := List.all_eq_true.1 hs _ h1
  rw [decide_eq_true_eq] at h3
  exact ⟨h3.1, h3.2, of_decide_eq_true h2⟩
theorem high_at {rs : List Rv.Rec} {z : Int} {bd i : Nat} (hs : spOk z rs = true) (hi : i < (highs z bd rs).length) : 0 ≤ z ∧ z < ((highs z bd rs).getD i rec0).1.length ∧ bd ≤ ((highs z bd rs).getD i rec0).1.getD z.toNat 0 := by
  obtain ⟨h1, h2⟩ := List.mem_filter.1 (memD i hi)
  unfold spOk at hs
  have h3 := List.all_eq_true.1 hs _ h1
  rw [decide_eq_true_eq] at h3
  rw [Bool.not_eq_true'] at h2
  exact ⟨h3.1, h3.2, by have h4 : ¬ (((highs z bd rs).getD i rec0).1.getD z.toNat 0 < bd) := of_decide_eq_false h2; omega⟩
set_option maxRecDepth 8000 in
set_option maxHeartbeats 6400000 in
theorem law_back {E1 E2 : TypeId} (w : World) (A : Option Addr) (n c : Nat) (x : List (recT E2).D) (h : Rd (.sl E1 (recT E2)) w x [.slice A n c]) (z : Int) (hz : (Lit.int .i64 z).wf = true) (b : Int) (hb : (Lit.int .u32 b).wf = true) :
    Calls Try.prog 5 #[.slice A n c, .int .i64 z, .int .u32 b] w fun e w' => e = .returned (.bool true) ∧ Fr No w w' := by
  obtain ⟨rs, hr⟩ := Rv.of_rd h
  have h6 : (decide (IntKind.u32.min ≤ b) && decide (b ≤ IntKind.u32.max)) = true := hb
  rw [show IntKind.u32.min = 0 from by decide, show IntKind.u32.max = 4294967295 from by decide, Bool.and_eq_true, decide_eq_true_eq, decide_eq_true_eq] at h6
  obtain ⟨bd, rfl⟩ : ∃ bd : Nat, b = (bd : Int) := ⟨b.toNat, by omega⟩
  clear h x hz hb h6
  have Hr := Lib.hid hr
  clear hr
  cases hf : fewB rs with
  | false =>
    have Hf := Lib.hid hf
    clear hf
    go_enter Try.func5, Try.ntmps5
    go_wp2_with (go_at_call 9; ((with_reducible refine (few_any (rs := rs) ?_).mono ?_); (focus ((have hr := Hr.out); (repeat (first | with_reducible assumption | with_reducible exact Rv.none_ _ | with_reducible refine Rv.alloc ?_ _ | with_reducible refine Rv.drew ?_ | with_reducible refine Rv.drewN ?_ _ | with_reducible refine Rv.no ?_ (by assumption))))); rintro e w1 ⟨rfl, rfl⟩; rw [Hf.out]))
    go_wp2_with (go_at_call 10; ((with_reducible refine (live _).mono ?_); rintro e wl ⟨rfl, hfl⟩))
    go_ret
    exact ⟨rfl, by (repeat (first | with_reducible exact Fr.refl _ _ | with_reducible refine Fr.setCell ?_ (.inr (by first | (simp; done) | (simp; omega))) _ | with_reducible refine Fr.alloc ?_ _ | with_reducible refine Fr.drew ?_ | with_reducible refine Fr.drewN ?_ _ | with_reducible refine Fr.tr ?_ (by assumption)))⟩
  | true =>
    have Hf := Lib.hid hf
    have Hs1 := Lib.hid (few_short hf)
    clear hf
    cases hi1 : isBk (dimZ rs) rs with
    | false =>
      have HI1 := Lib.hid hi1
      clear hi1
      go_enter Try.func5, Try.ntmps5
      go_wp2_with (go_at_call 9; ((with_reducible refine (few_any (rs := rs) ?_).mono ?_); (focus ((have hr := Hr.out); (repeat (first | with_reducible assumption | with_reducible exact Rv.none_ _ | with_reducible refine Rv.alloc ?_ _ | with_reducible refine Rv.drew ?_ | with_reducible refine Rv.drewN ?_ _ | with_reducible refine Rv.no ?_ (by assumption))))); rintro e w1 ⟨rfl, rfl⟩; rw [Hf.out]))
      go_wp2_with (first | (go_at_call 21; ((with_reducible refine (dim_any (rs := rs) ?_).mono ?_); (focus ((have hr := Hr.out); (repeat (first | with_reducible assumption | with_reducible exact Rv.none_ _ | with_reducible refine Rv.alloc ?_ _ | with_reducible refine Rv.drew ?_ | with_reducible refine Rv.drewN ?_ _ | with_reducible refine Rv.no ?_ (by assumption))))); rintro e w1 ⟨rfl, rfl⟩)) | (go_at_call 20; ((with_reducible refine (ris_any (rs := rs) _ ?_).mono ?_); (focus ((have hr := Hr.out); (repeat (first | with_reducible assumption | with_reducible exact Rv.none_ _ | with_reducible refine Rv.alloc ?_ _ | with_reducible refine Rv.drew ?_ | with_reducible refine Rv.drewN ?_ _ | with_reducible refine Rv.no ?_ (by assumption))))); rintro e y1 ⟨rfl, hfy1⟩; rw [HI1.out])) | fail)
      go_wp2_with (go_at_call 10; ((with_reducible refine (live _).mono ?_); rintro e wl ⟨rfl, hfl⟩))
      go_ret
      exact ⟨rfl, by (repeat (first | with_reducible exact Fr.refl _ _ | with_reducible refine Fr.setCell ?_ (.inr (by first | (simp; done) | (simp; omega))) _ | with_reducible refine Fr.alloc ?_ _ | with_reducible refine Fr.drew ?_ | with_reducible refine Fr.drewN ?_ _ | with_reducible refine Fr.tr ?_ (by assumption)))⟩
    | true =>
      have HI1 := Lib.hid hi1
      clear hi1
      cases hsp : spOk z rs with
      | false =>
        have E1 := Lib.hid (show spL z bd rs = [] by unfold spL; rw [hsp]; rfl)
        have E2 := Lib.hid (show spH z bd rs = [] by unfold spH; rw [hsp]; rfl)
        have E3 := Lib.hid (show spE z rs = 1 by unfold spE; rw [hsp]; rfl)
        clear hsp
        go_enter Try.func5, Try.ntmps5
        go_wp2_with (go_at_call 9; ((with_reducible refine (few_any (rs := rs) ?_).mono ?_); (focus ((have hr := Hr.out); (repeat (first | with_reducible assumption | with_reducible exact Rv.none_ _ | with_reducible refine Rv.alloc ?_ _ | with_reducible refine Rv.drew ?_ | with_reducible refine Rv.drewN ?_ _ | with_reducible refine Rv.no ?_ (by assumption))))); rintro e w1 ⟨rfl, rfl⟩; rw [Hf.out]))
        go_wp2_with (first | (go_at_call 21; ((with_reducible refine (dim_any (rs := rs) ?_).mono ?_); (focus ((have hr := Hr.out); (repeat (first | with_reducible assumption | with_reducible exact Rv.none_ _ | with_reducible refine Rv.alloc ?_ _ | with_reducible refine Rv.drew ?_ | with_reducible refine Rv.drewN ?_ _ | with_reducible refine Rv.no ?_ (by assumption))))); rintro e w1 ⟨rfl, rfl⟩)) | (go_at_call 20; ((with_reducible refine (ris_any (rs := rs) _ ?_).mono ?_); (focus ((have hr := Hr.out); (repeat (first | with_reducible assumption | with_reducible exact Rv.none_ _ | with_reducible refine Rv.alloc ?_ _ | with_reducible refine Rv.drew ?_ | with_reducible refine Rv.drewN ?_ _ | with_reducible refine Rv.no ?_ (by assumption))))); rintro e y1 ⟨rfl, hfy1⟩; rw [HI1.out])) | fail)
        go_wp2_with (go_at_call 17; ((with_reducible refine (split_any (rs := rs) _ bd ?_ Hs1.out.1).mono ?_); (focus ((have hr := Hr.out); (repeat (first | with_reducible assumption | with_reducible exact Rv.none_ _ | with_reducible refine Rv.alloc ?_ _ | with_reducible refine Rv.drew ?_ | with_reducible refine Rv.drewN ?_ _ | with_reducible refine Rv.no ?_ (by assumption))))); rintro e u2 ⟨P2, p2, cP2, Q2, q2, cQ2, rfl, k1, k2, hfu2⟩; rw [E3.out]; rw [E1.out] at k1; rw [E2.out] at k2; (obtain rfl : p2 = 0 := k1.len); (obtain rfl : q2 = 0 := k2.len); (clear k1 k2)))
        go_wp2_with (go_at_call 10; ((with_reducible refine (live _).mono ?_); rintro e wl ⟨rfl, hfl⟩))
        go_ret
        exact ⟨rfl, by (repeat (first | with_reducible exact Fr.refl _ _ | with_reducible refine Fr.setCell ?_ (.inr (by first | (simp; done) | (simp; omega))) _ | with_reducible refine Fr.alloc ?_ _ | with_reducible refine Fr.drew ?_ | with_reducible refine Fr.drewN ?_ _ | with_reducible refine Fr.tr ?_ (by assumption)))⟩
      | true =>
        have Hsp := Lib.hid hsp
        have E1 := Lib.hid (show spL z bd rs = lows z bd rs by unfold spL; rw [if_pos hsp])
        have E2 := Lib.hid (show spH z bd rs = highs z bd rs by unfold spH; rw [if_pos hsp])
        have E3 := Lib.hid (show spE z rs = 0 by unfold spE; rw [if_pos hsp])
        have HB := Lib.hid (mg_back (isBk_strict HI1.out) z bd)
        have HSa := Lib.hid (lows_strict (isBk_strict HI1.out) z bd)
        have HSb := Lib.hid (highs_strict (isBk_strict HI1.out) z bd)
        have HsA := Lib.hid (show Short (lows z bd rs) from short_sub Hs1.out.1 (lows_le _ _ _) (fun r hr => (List.mem_filter.1 hr).1))
        have HsB := Lib.hid (show Short (highs z bd rs) from short_sub Hs1.out.1 (highs_le _ _ _) (fun r hr => (List.mem_filter.1 hr).1))
        have HlA := Lib.hid (lows_le z bd rs)
        have HlB := Lib.hid (highs_le z bd rs)
        clear hsp
        go_enter Try.func5, Try.ntmps5
        go_wp2_with (go_at_call 9; ((with_reducible refine (few_any (rs := rs) ?_).mono ?_); (focus ((have hr := Hr.out); (repeat (first | with_reducible assumption | with_reducible exact Rv.none_ _ | with_reducible refine Rv.alloc ?_ _ | with_reducible refine Rv.drew ?_ | with_reducible refine Rv.drewN ?_ _ | with_reducible refine Rv.no ?_ (by assumption))))); rintro e w1 ⟨rfl, rfl⟩; rw [Hf.out]))
        go_wp2_with (first | (go_at_call 21; ((with_reducible refine (dim_any (rs := rs) ?_).mono ?_); (focus ((have hr := Hr.out); (repeat (first | with_reducible assumption | with_reducible exact Rv.none_ _ | with_reducible refine Rv.alloc ?_ _ | with_reducible refine Rv.drew ?_ | with_reducible refine Rv.drewN ?_ _ | with_reducible refine Rv.no ?_ (by assumption))))); rintro e w1 ⟨rfl, rfl⟩)) | (go_at_call 20; ((with_reducible refine (ris_any (rs := rs) _ ?_).mono ?_); (focus ((have hr := Hr.out); (repeat (first | with_reducible assumption | with_reducible exact Rv.none_ _ | with_reducible refine Rv.alloc ?_ _ | with_reducible refine Rv.drew ?_ | with_reducible refine Rv.drewN ?_ _ | with_reducible refine Rv.no ?_ (by assumption))))); rintro e y1 ⟨rfl, hfy1⟩; rw [HI1.out])) | fail)
        go_wp2_with (go_at_call 17; ((with_reducible refine (split_any (rs := rs) _ bd ?_ Hs1.out.1).mono ?_); (focus ((have hr := Hr.out); (repeat (first | with_reducible assumption | with_reducible exact Rv.none_ _ | with_reducible refine Rv.alloc ?_ _ | with_reducible refine Rv.drew ?_ | with_reducible refine Rv.drewN ?_ _ | with_reducible refine Rv.no ?_ (by assumption))))); rintro e u2 ⟨P2, p2, cP2, Q2, q2, cQ2, rfl, k1, k2, hfu2⟩; rw [E3.out]; rw [E1.out] at k1; rw [E2.out] at k2; (have K1 := Lib.hid k1); (have K2 := Lib.hid k2); (have hp2 := k1.len_le); (have hq2 := k2.len_le); (clear k1 k2)))
        have hp3 : p2 ≤ 60 := by have := K1.out.len; have := HlA.out; have := Hs1.out.2; omega
        have hq3 : q2 ≤ 60 := by have := K2.out.len; have := HlB.out; have := Hs1.out.2; omega
        go_loop [10] (fun v => ∃ i : Nat, i ≤ p2 ∧ v = .int .i64 i) (fun v => p2 - (intOf v).toNat)
        case atStart => exact ⟨0, Nat.zero_le _, rfl⟩
        case round =>
          obtain ⟨i, hi, rfl⟩ := hrel
          by_cases hlt : i < p2
          · obtain ⟨t1, t2, t3⟩ := low_at (bd := bd) Hsp.out (show i < (lows z bd rs).length by rw [← K1.out.len]; exact hlt)
            obtain ⟨t, rfl⟩ : ∃ t : Nat, z = (t : Int) := ⟨z.toNat, by omega⟩
            rw [Int.toNat_natCast] at t3
            obtain ⟨g, off, KA, kc, rfl, a0, a1, hk, hz⟩ := K1.out.get i (by rw [← K1.out.len]; exact hlt)
            obtain ⟨kb, ko, rfl, k0⟩ := hk.get t (by omega)
            have hkl := hk.len_le
            generalize ((lows (t : Int) bd rs).getD i rec0) = r at *
            obtain ⟨ks, s⟩ := r
            simp only at *
            generalize ks.getD t 0 = y at *
            have t4 : t < ks.length := by omega
            have t5 : ¬ ((bd : Nat) : Int) ≤ (y : Int) := by omega
            clear hk t2
            go_wp2
            go_round
            case rel => exact ⟨i + 1, by omega, by go_num⟩
            case measure => simp [intOf]; omega
          · obtain rfl : i = p2 := by omega
            go_wp2
            go_loop [11] (fun v => ∃ j : Nat, j ≤ q2 ∧ v = .int .i64 j) (fun v => q2 - (intOf v).toNat)
            case atStart => exact ⟨0, Nat.zero_le _, rfl⟩
            case round =>
              obtain ⟨j, hj, rfl⟩ := hrel
              by_cases hlt2 : j < q2
              · obtain ⟨t1, t2, t3⟩ := high_at (bd := bd) Hsp.out (show j < (highs z bd rs).length by rw [← K2.out.len]; exact hlt2)
                obtain ⟨t, rfl⟩ : ∃ t : Nat, z = (t : Int) := ⟨z.toNat, by omega⟩
                rw [Int.toNat_natCast] at t3
                obtain ⟨g, off, KA, kc, rfl, a0, a1, hk, hz⟩ := K2.out.get j (by rw [← K2.out.len]; exact hlt2)
                obtain ⟨kb, ko, rfl, k0⟩ := hk.get t (by omega)
                have hkl := hk.len_le
                generalize ((highs (t : Int) bd rs).getD j rec0) = r at *
                obtain ⟨ks, s⟩ := r
                simp only at *
                generalize ks.getD t 0 = y at *
                have t4 : t < ks.length := by omega
                have t5 : ¬ ((y : Nat) : Int) < (bd : Int) := by omega
                clear hk t2
                go_wp2
                go_round
                case rel => exact ⟨j + 1, by omega, by go_num⟩
                case measure => simp [intOf]; omega
              · obtain rfl : j = q2 := by omega
                go_wp2_with (go_at_call 22; ((with_reducible refine (merge_any (rs := lows z bd rs) (qs := highs z bd rs) ?_ ?_ HsA.out HsB.out (by omega) HSa.out HSb.out).mono ?_); (focus ((have h := K1.out); (repeat (first | with_reducible assumption | with_reducible exact Rv.none_ _ | with_reducible refine Rv.alloc ?_ _ | with_reducible refine Rv.drew ?_ | with_reducible refine Rv.drewN ?_ _ | with_reducible refine Rv.no ?_ (by assumption))))); (focus ((have h := K2.out); (repeat (first | with_reducible assumption | with_reducible exact Rv.none_ _ | with_reducible refine Rv.alloc ?_ _ | with_reducible refine Rv.drew ?_ | with_reducible refine Rv.drewN ?_ _ | with_reducible refine Rv.no ?_ (by assumption))))); rintro e v1 ⟨V1, vn1, vc1, rfl, hov1, hfv1⟩; (have hv1 := hov1.rv); (rw [HB.out.1] at hv1); (have HV1 := Lib.hid hv1); (clear hov1 hv1)))
                go_wp2_with (go_at_call 19; ((with_reducible refine (same_any (rs := rs) (qs := rs) ?_ ?_).mono ?_); (focus ((have h := HV1.out); (repeat (first | with_reducible assumption | with_reducible exact Rv.none_ _ | with_reducible refine Rv.alloc ?_ _ | with_reducible refine Rv.drew ?_ | with_reducible refine Rv.drewN ?_ _ | with_reducible refine Rv.no ?_ (by assumption))))); (focus ((have h := Hr.out); (repeat (first | with_reducible assumption | with_reducible exact Rv.none_ _ | with_reducible refine Rv.alloc ?_ _ | with_reducible refine Rv.drew ?_ | with_reducible refine Rv.drewN ?_ _ | with_reducible refine Rv.no ?_ (by assumption))))); rintro e v2 ⟨rfl, hfv2⟩; rw [same_yes]))
                go_wp2_with (go_at_call 22; ((with_reducible refine (merge_any (rs := highs z bd rs) (qs := lows z bd rs) ?_ ?_ HsB.out HsA.out (by omega) HSb.out HSa.out).mono ?_); (focus ((have h := K2.out); (repeat (first | with_reducible assumption | with_reducible exact Rv.none_ _ | with_reducible refine Rv.alloc ?_ _ | with_reducible refine Rv.drew ?_ | with_reducible refine Rv.drewN ?_ _ | with_reducible refine Rv.no ?_ (by assumption))))); (focus ((have h := K1.out); (repeat (first | with_reducible assumption | with_reducible exact Rv.none_ _ | with_reducible refine Rv.alloc ?_ _ | with_reducible refine Rv.drew ?_ | with_reducible refine Rv.drewN ?_ _ | with_reducible refine Rv.no ?_ (by assumption))))); rintro e v3 ⟨V3, vn3, vc3, rfl, hov3, hfv3⟩; (have hv3 := hov3.rv); (rw [HB.out.2] at hv3); (have HV3 := Lib.hid hv3); (clear hov3 hv3)))
                go_wp2_with (go_at_call 19; ((with_reducible refine (same_any (rs := rs) (qs := rs) ?_ ?_).mono ?_); (focus ((have h := HV3.out); (repeat (first | with_reducible assumption | with_reducible exact Rv.none_ _ | with_reducible refine Rv.alloc ?_ _ | with_reducible refine Rv.drew ?_ | with_reducible refine Rv.drewN ?_ _ | with_reducible refine Rv.no ?_ (by assumption))))); (focus ((have h := Hr.out); (repeat (first | with_reducible assumption | with_reducible exact Rv.none_ _ | with_reducible refine Rv.alloc ?_ _ | with_reducible refine Rv.drew ?_ | with_reducible refine Rv.drewN ?_ _ | with_reducible refine Rv.no ?_ (by assumption))))); rintro e v4 ⟨rfl, hfv4⟩; rw [same_yes]))
                go_wp2_with (go_at_call 10; ((with_reducible refine (live _).mono ?_); rintro e wl ⟨rfl, hfl⟩))
                go_ret
                exact ⟨rfl, by (repeat (first | with_reducible exact Fr.refl _ _ | with_reducible refine Fr.setCell ?_ (.inr (by first | (simp; done) | (simp; omega))) _ | with_reducible refine Fr.alloc ?_ _ | with_reducible refine Fr.drew ?_ | with_reducible refine Fr.drewN ?_ _ | with_reducible refine Fr.tr ?_ (by assumption)))⟩
end Go.Proofs.Ytbncakbgljhnkaa.Qg11
