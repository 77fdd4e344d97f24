/- Layer 8, further: the document's boxes. -/
import Derived.Test.YtoaikponefcbiaaKg08
namespace Go.Proofs.Ytoaikponefcbiaa.Kh08
open Go.RowKit Go.Proofs.Ytoaikponefcbiaa.Pk08 Go.Proofs.Ytoaikponefcbiaa.Base Go.Proofs.Ytoaikponefcbiaa.App Go.Proofs.Ytoaikponefcbiaa.Ky Go.Proofs.Ytoaikponefcbiaa.Kc08 Go.Proofs.Ytoaikponefcbiaa.Kd08 Go.Proofs.Ytoaikponefcbiaa.Kf08
set_option linter.unusedVariables false
set_option linter.unusedSimpArgs false
attribute [local irreducible] leL
section
variable {w : World} {A B C D : Option Addr} {n m p q cn cm cp cq : Nat} {a b k lo hi : List Nat}
set_option maxHeartbeats 1600000 in
theorem rin_any (hk : Kv w A n cn k) (hl : Kv w B m cm lo) (hh : Kv w C p cp hi) :
    Calls Try.prog 20 #[.slice A n cn, .agg #[.slice B m cm, .slice C p cp]] w fun e w' => e = .returned (.bool (inB k lo hi)) ∧ Fr No w w' := by
  have f0 : Fr No w (w.alloc (.cells #[.slice B m cm, .slice C p cp] 28)) := (Fr.refl No w).alloc _
  have hO := Ob.new w #[.slice B m cm, .slice C p cp] 28
  have Hk := Lib.hid hk
  have Hl := Lib.hid hl
  have Hh := Lib.hid hh
  have hcn := hk.cap
  have hcm := hk.most
  have hmx : maxLen ≤ 9223372036854775807 := by decide
  clear hk hl hh
  by_cases h1 : m = n
  · subst h1
    by_cases h2 : p = m
    · subst h2
      go_enter Try.func20, Try.ntmps20
      go_wp2
      go_loopw [5] (fun v wr => ∃ i : Nat, i ≤ p ∧ v = .int .i64 i ∧ Hid (leL (lo.drop i) (k.drop i) = leL lo k ∧ leL (k.drop i) (hi.drop i) = leL k hi ∧ Fr No (w.alloc (.cells #[.slice B p cm, .slice C p cp] 28)) wr)) (fun v _ => p - (intOf v).toNat)
      case atStart => exact ⟨0, Nat.zero_le _, rfl, Lib.hid ⟨rfl, rfl, Fr.refl _ _⟩⟩
      case round =>
        obtain ⟨i, hi1, rfl, Hi⟩ := hrel
        have hO1 := hO.fr Hi.out.2.2 (fun x => x)
        have d0 := hO1.cell 0 rfl
        have d1 := hO1.cell 1 rfl
        by_cases hlt : i < p
        · obtain ⟨ga, oa, rfl, ca⟩ := (Hk.out.no (f0.tr Hi.out.2.2)).get i (by rw [← Hk.out.len]; exact hlt)
          obtain ⟨gb, ob, rfl, cb⟩ := (Hl.out.no (f0.tr Hi.out.2.2)).get i (by rw [← Hl.out.len]; exact hlt)
          obtain ⟨gc, oc, rfl, cc⟩ := (Hh.out.no (f0.tr Hi.out.2.2)).get i (by rw [← Hh.out.len]; exact hlt)
          have k1 := leL_no lo k i (by rw [← Hl.out.len]; exact hlt) (by rw [← Hk.out.len]; exact hlt)
          have k2 := leL_on lo k i (by rw [← Hl.out.len]; exact hlt) (by rw [← Hk.out.len]; exact hlt)
          have k3 := leL_no k hi i (by rw [← Hk.out.len]; exact hlt) (by rw [← Hh.out.len]; exact hlt)
          have k4 := leL_on k hi i (by rw [← Hk.out.len]; exact hlt) (by rw [← Hh.out.len]; exact hlt)
          generalize k.getD i 0 = x at *
          generalize lo.getD i 0 = y at *
          generalize hi.getD i 0 = z at *
          by_cases hxy : y ≤ x
          · by_cases hxz : x ≤ z
            · have K := Lib.hid ((k2 hxy).symm.trans Hi.out.1)
              have K2 := Lib.hid ((k4 hxz).symm.trans Hi.out.2.1)
              have hd : decide ((x : Int) < y) = false := decide_eq_false (by omega)
              clear k1 k2 k3 k4
              go_wp2
              go_quiet (fail)
              go_wp2
              go_roundw
              case rel => exact ⟨i + 1, by omega, by go_num, Lib.hid ⟨K.out, K2.out, Hi.out.2.2.drewN _⟩⟩
              case measure => simp [intOf]; omega
            · have K := Lib.hid (k3 hxz)
              have hd : decide ((x : Int) < y) = false := decide_eq_false (by omega)
              clear k1 k2 k3 k4
              go_wp2
              go_quiet (fail)
              go_wp2
              go_ret
              have e : inB k lo hi = false := by unfold inB; rw [← Hi.out.2.1, K.out, Bool.and_false]
              rw [e]
              exact ⟨rfl, f0.tr (Hi.out.2.2.drewN _)⟩
          · have K := Lib.hid (k1 hxy)
            have hd : decide ((x : Int) < y) = true := decide_eq_true (by omega)
            clear k1 k2 k3 k4
            go_wp2
            go_quiet (fail)
            go_wp2
            go_ret
            have e : inB k lo hi = false := by unfold inB; rw [← Hi.out.1, K.out, Bool.false_and]
            rw [e]
            exact ⟨rfl, f0.tr (Hi.out.2.2.drewN _)⟩
        · have K := Lib.hid (leL_end lo k i (by have := Hl.out.len; omega) (by have := Hk.out.len; omega))
          have K2 := Lib.hid (leL_end k hi i (by have := Hk.out.len; omega) (by have := Hh.out.len; omega))
          go_wp2
          go_ret
          have e : inB k lo hi = true := by unfold inB; rw [← Hi.out.1, K.out, ← Hi.out.2.1, K2.out]; rfl
          rw [e]
          exact ⟨rfl, f0.tr Hi.out.2.2⟩
    · have e : inB k lo hi = false := by unfold inB; rw [leL_len k hi (by have := Hk.out.len; have := Hh.out.len; omega), Bool.and_false]
      have hb : ((p : Int) == m) = false := beq_eq_false_iff_ne.2 (by omega)
      rw [e]
      clear e
      go_enter Try.func20, Try.ntmps20
      go_wp2
      go_ret
      exact ⟨rfl, f0⟩
  · have e : inB k lo hi = false := by unfold inB; rw [leL_len lo k (by have := Hk.out.len; have := Hl.out.len; omega), Bool.false_and]
    have hb : ((m : Int) == n) = false := beq_eq_false_iff_ne.2 (by omega)
    rw [e]
    clear e
    go_enter Try.func20, Try.ntmps20
    go_wp2
    go_ret
    exact ⟨rfl, f0⟩
set_option maxHeartbeats 1600000 in
theorem rcheckBox_any (d : Int) (hl : Kv w B m cm lo) (hh : Kv w C p cp hi) :
    Calls Try.prog 36 #[.agg #[.slice B m cm, .slice C p cp], .int .i64 d] w fun e w' => e = .returned (.int .i64 (chkB lo hi d)) ∧ Fr No w w' := by
  have f0 : Fr No w (w.alloc (.cells #[.slice B m cm, .slice C p cp] 28)) := (Fr.refl No w).alloc _
  have hO := Ob.new w #[.slice B m cm, .slice C p cp] 28
  have Hl := Lib.hid hl
  have Hh := Lib.hid hh
  clear hl hh
  by_cases hc : chk m d = 0
  · by_cases hc2 : chk p d = 0
    · obtain ⟨d1, d2, d3⟩ : 1 ≤ d ∧ d ≤ 6 ∧ (m : Int) = d := by unfold chk at hc; split at hc <;> simp_all
      have d4 : (p : Int) = d := by unfold chk at hc2; split at hc2 <;> simp_all
      obtain rfl : p = m := by omega
      clear d4
      subst d3
      have hE : chkB lo hi (p : Int) = if leL lo hi = true then 0 else 1 := by unfold chkB; rw [← Hl.out.len, hc]; simp
      have HE := Lib.hid hE
      clear hE
      go_enter Try.func36, Try.ntmps36
      go_wp2_with (go_at_call 21; ((with_reducible refine (rcheck_any _ _ _ _ _).mono ?_); rintro e w' ⟨rfl, rfl⟩; rw [hc]))
      go_loopw [5] (fun v wr => ∃ i : Nat, i ≤ p ∧ v = .int .i64 i ∧ Hid (leL (lo.drop i) (hi.drop i) = leL lo hi ∧ Fr No (w.alloc (.cells #[.slice B p cm, .slice C p cp] 28)) wr)) (fun v _ => p - (intOf v).toNat)
      case atStart => exact ⟨0, Nat.zero_le _, rfl, Lib.hid ⟨rfl, Fr.refl _ _⟩⟩
      case round =>
        obtain ⟨i, hi1, rfl, Hi⟩ := hrel
        have hO1 := hO.fr Hi.out.2 (fun x => x)
        have e0 := hO1.cell 0 rfl
        have e1 := hO1.cell 1 rfl
        by_cases hlt : i < p
        · obtain ⟨gb, ob, rfl, cb⟩ := (Hl.out.no (f0.tr Hi.out.2)).get i (by rw [← Hl.out.len]; exact hlt)
          obtain ⟨gc, oc, rfl, cc⟩ := (Hh.out.no (f0.tr Hi.out.2)).get i (by rw [← Hh.out.len]; exact hlt)
          have k1 := leL_no lo hi i (by rw [← Hl.out.len]; exact hlt) (by rw [← Hh.out.len]; exact hlt)
          have k2 := leL_on lo hi i (by rw [← Hl.out.len]; exact hlt) (by rw [← Hh.out.len]; exact hlt)
          generalize lo.getD i 0 = y at *
          generalize hi.getD i 0 = z at *
          by_cases hxy : y ≤ z
          · have K := Lib.hid ((k2 hxy).symm.trans Hi.out.1)
            clear k1 k2
            go_wp2
            go_quiet (fail)
            go_wp2
            go_roundw
            case rel => exact ⟨i + 1, by omega, by go_num, Lib.hid ⟨K.out, Hi.out.2.drewN _⟩⟩
            case measure => simp [intOf]; omega
          · have K := Lib.hid (k1 hxy)
            clear k1 k2
            go_wp2
            go_quiet (fail)
            go_wp2
            go_ret
            rw [HE.out, ← Hi.out.1, K.out]
            exact ⟨rfl, f0.tr (Hi.out.2.drewN _)⟩
        · have K := Lib.hid (leL_end lo hi i (by have := Hl.out.len; omega) (by have := Hh.out.len; omega))
          go_wp2
          go_ret
          rw [HE.out, ← Hi.out.1, K.out]
          exact ⟨rfl, f0.tr Hi.out.2⟩
    · have hc1 : chk p d = 1 := by unfold chk at hc2 ⊢; split at hc2 <;> simp_all
      have e : chkB lo hi d = 1 := by
        have h3 : leL lo hi = false := leL_len lo hi (fun x => hc2 (by have := Hl.out.len; have := Hh.out.len; have e : p = m := by omega
                                                                       rw [e]; exact hc))
        unfold chkB; rw [h3]; simp
      rw [e]
      clear e hc2
      go_enter Try.func36, Try.ntmps36
      go_wp2_with (first
        | (go_at_call 21; ((with_reducible refine (rcheck_any B _ _ _ _).mono ?_); rintro e w' ⟨rfl, rfl⟩; rw [hc]))
        | (go_at_call 21; ((with_reducible refine (rcheck_any C _ _ _ _).mono ?_); rintro e w' ⟨rfl, rfl⟩; rw [hc1])))
      go_ret
      exact ⟨rfl, f0⟩
  · have e : chkB lo hi d = 1 := by unfold chkB; rw [← Hl.out.len, if_neg (fun x => hc x.1)]
    have hc1 : chk m d = 1 := by unfold chk at hc ⊢; split at hc <;> simp_all
    rw [e]
    clear e hc
    go_enter Try.func36, Try.ntmps36
    go_wp2_with (go_at_call 21; ((with_reducible refine (rcheck_any _ _ _ _ _).mono ?_); rintro e w' ⟨rfl, rfl⟩; rw [hc1]))
    go_ret
    exact ⟨rfl, f0⟩
end
end Go.Proofs.Ytoaikponefcbiaa.Kh08
