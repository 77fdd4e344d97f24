/- Layer 8, further: the document's Compare; boxes. -/
import Derived.Test.YtoaikponefcbiaaKc08
import Derived.Deep.RegionHeld3
namespace Go.Proofs.Ytoaikponefcbiaa.Kd08
open Go.RowKit Go.Proofs.Ytoaikponefcbiaa.Pk08 Go.Proofs.Ytoaikponefcbiaa.Base Go.Proofs.Ytoaikponefcbiaa.App Go.Proofs.Ytoaikponefcbiaa.Ky Go.Proofs.Ytoaikponefcbiaa.Kc08
set_option linter.unusedVariables false
set_option linter.unusedSimpArgs false
attribute [local irreducible] cmp leL
section
variable {w : World} {A B : Option Addr} {n m c d : Nat} {a b : List Nat}
set_option maxHeartbeats 800000 in
theorem rcompare (ha : Kv w A n c a) (hb : Kv w B m d b) :
    Calls Try.prog 42 #[.slice A n c, .slice B m d] w fun e w' => e = .returned (.int .i64 (cmp a b)) ∧ Fr No w w' := by
  have hac := ha.cap
  have hbc := hb.cap
  have ham := ha.most
  have hbm := hb.most
  have hmx : maxLen ≤ 9223372036854775807 := by decide
  obtain rfl := ha.len
  obtain rfl := hb.len
  have Ha := Lib.hid ha
  have Hb := Lib.hid hb
  clear ha hb
  go_enter Try.func42, Try.ntmps42
  go_wp2
  go_loopw [5] (fun v wr => ∃ i : Nat, i ≤ a.length ∧ i ≤ b.length ∧ v = .int .i64 i ∧ Hid (cmp (a.drop i) (b.drop i) = cmp a b ∧ Fr No w wr)) (fun v _ => a.length - (intOf v).toNat)
  case atStart => exact ⟨0, Nat.zero_le _, Nat.zero_le _, rfl, Lib.hid ⟨rfl, Fr.refl _ _⟩⟩
  case round =>
    obtain ⟨i, hi1, hi2, rfl, Hi⟩ := hrel
    by_cases hlt : i < a.length
    · by_cases hlt2 : i < b.length
      · obtain ⟨ga, oa, rfl, ca⟩ := (Ha.out.no Hi.out.2).get i hlt
        obtain ⟨gb, ob, rfl, cb⟩ := (Hb.out.no Hi.out.2).get i hlt2
        have k1 := cmp_lt a b i hlt hlt2
        have k2 := cmp_gt a b i hlt hlt2
        have k3 := cmp_on a b i hlt hlt2
        generalize a.getD i 0 = x at *
        generalize b.getD i 0 = y at *
        by_cases hxy : x < y
        · have K := Lib.hid (k1 hxy)
          clear k1 k2 k3
          go_wp2
          go_quiet (fail)
          go_wp2
          go_ret
          rw [← Hi.out.1, K.out]
          exact ⟨rfl, Hi.out.2.drewN _⟩
        · by_cases hyx : y < x
          · have K := Lib.hid (k2 hyx)
            clear k1 k2 k3
            go_wp2
            go_quiet (fail)
            go_wp2
            go_quiet (fail)
            go_wp2
            go_ret
            rw [← Hi.out.1, K.out]
            exact ⟨rfl, (Hi.out.2.drewN _).drewN _⟩
          · have K := Lib.hid ((k3 (by omega)).symm.trans Hi.out.1)
            clear k1 k2 k3
            go_wp2
            go_quiet (fail)
            go_wp2
            go_quiet (fail)
            go_wp2
            go_roundw
            case rel => exact ⟨i + 1, by omega, by omega, by go_num, Lib.hid ⟨K.out, Hi.out.2.drewN _⟩⟩
            case measure => simp [intOf]; omega
      · have K := Lib.hid (cmp_end a b i (by omega) hi1 hi2)
        go_wp2
        go_ret
        rw [← Hi.out.1, K.out, if_neg (by omega), if_pos (by omega)]
        exact ⟨rfl, Hi.out.2⟩
    · have K := Lib.hid (cmp_end a b i (by omega) hi1 hi2)
      by_cases hab : a.length < b.length
      · go_wp2
        go_ret
        rw [← Hi.out.1, K.out, if_pos hab]
        exact ⟨rfl, Hi.out.2⟩
      · go_wp2
        go_ret
        rw [← Hi.out.1, K.out, if_neg hab, if_neg (by omega)]
        exact ⟨rfl, Hi.out.2⟩
theorem same (ha : Kv w A n c a) (hb : Kv w B m d b) :
    Calls Try.prog 32 #[.slice A n c, .slice B m d] w fun e w' => e = .returned (.bool (cmp a b == 0)) ∧ Fr No w w' := by
  go_enter Try.func32, Try.ntmps32
  go_wp2_with (go_at_call 42; ((with_reducible refine (rcompare ha hb).mono ?_); rintro e w1 ⟨rfl, hf1⟩))
  go_ret
  exact ⟨rfl, hf1⟩
end
theorem atMost_any (x y : Nat) (w : World) :
    Calls Try.prog 45 #[.int .u32 (x : Int), .int .u32 (y : Int)] w fun e w' => e = .returned (.bool (decide (x ≤ y))) ∧ w = w' := by
  go_enter Try.func45, Try.ntmps45
  go_wp2
  go_ret
  exact ⟨by simp, rfl⟩
section
variable {w : World} {A B : Option Addr} {n m c d : Nat} {a b : List Nat}
set_option maxHeartbeats 800000 in
theorem all_any (ha : Kv w A n c a) (hb : Kv w B m d b) :
    Calls Try.prog 44 #[.slice A n c, .slice B m d, .func (.func 45) #[] #[]] w fun e w' => e = .returned (.bool (leL a b)) ∧ Fr No w w' := by
  have hac := ha.cap
  have hbc := hb.cap
  have ham := ha.most
  have hbm := hb.most
  have hmx : maxLen ≤ 9223372036854775807 := by decide
  have Ha := Lib.hid ha
  have Hb := Lib.hid hb
  clear ha hb
  by_cases hl : n = m
  · subst hl
    go_enter Try.func44, Try.ntmps44
    go_wp2
    go_loopw [15] (fun v wr => ∃ i : Nat, i ≤ n ∧ v = .int .i64 i ∧ Hid (leL (a.drop i) (b.drop i) = leL a b ∧ Fr No w wr)) (fun v _ => n - (intOf v).toNat)
    case atStart => exact ⟨0, Nat.zero_le _, rfl, Lib.hid ⟨rfl, Fr.refl _ _⟩⟩
    case round =>
      obtain ⟨i, hi1, rfl, Hi⟩ := hrel
      by_cases hlt : i < n
      · obtain ⟨ga, oa, rfl, ca⟩ := (Ha.out.no Hi.out.2).get i (by have := Ha.out.len; omega)
        obtain ⟨gb, ob, rfl, cb⟩ := (Hb.out.no Hi.out.2).get i (by have := Hb.out.len; omega)
        have k1 := leL_no a b i (by have := Ha.out.len; omega) (by have := Hb.out.len; omega)
        have k3 := leL_on a b i (by have := Ha.out.len; omega) (by have := Hb.out.len; omega)
        generalize a.getD i 0 = x at *
        generalize b.getD i 0 = y at *
        by_cases hxy : x ≤ y
        · have K := Lib.hid ((k3 hxy).symm.trans Hi.out.1)
          have hd : decide (x ≤ y) = true := decide_eq_true hxy
          clear k1 k3
          go_wp2
          have ca' : wr.drew.cell? ⟨ga, oa + i, none⟩ = some (.int .u32 (x : Int)) := ca
          have cb' : wr.drew.cell? ⟨gb, ob + i, none⟩ = some (.int .u32 (y : Int)) := cb
          go_region_held3 (fun w' => w'.cell? ⟨ga, oa + i, none⟩ = some (.int .u32 (x : Int)) ∧ w'.cell? ⟨gb, ob + i, none⟩ = some (.int .u32 (y : Int))) (exact ⟨ca', cb'⟩)
            (first | (go_at_call 45; ((with_reducible refine (atMost_any _ _ _).mono ?_); rintro e w' ⟨rfl, rfl⟩)))

          go_wp2
          go_roundw
          case rel => exact ⟨i + 1, by omega, by go_num, Lib.hid ⟨K.out, Hi.out.2.drew⟩⟩
          case measure => simp [intOf]; omega
        · have K := Lib.hid (k1 hxy)
          have hd : decide (x ≤ y) = false := decide_eq_false hxy
          clear k1 k3
          go_wp2
          have ca' : wr.drew.cell? ⟨ga, oa + i, none⟩ = some (.int .u32 (x : Int)) := ca
          have cb' : wr.drew.cell? ⟨gb, ob + i, none⟩ = some (.int .u32 (y : Int)) := cb
          go_region_held3 (fun w' => w'.cell? ⟨ga, oa + i, none⟩ = some (.int .u32 (x : Int)) ∧ w'.cell? ⟨gb, ob + i, none⟩ = some (.int .u32 (y : Int))) (exact ⟨ca', cb'⟩)
            (first | (go_at_call 45; ((with_reducible refine (atMost_any _ _ _).mono ?_); rintro e w' ⟨rfl, rfl⟩)))
          go_wp2
          go_ret
          rw [← Hi.out.1, K.out]
          exact ⟨rfl, Hi.out.2.drew⟩
      · have K := Lib.hid (leL_end a b i (by have := Ha.out.len; omega) (by have := Hb.out.len; omega))
        go_wp2
        go_ret
        rw [← Hi.out.1, K.out]
        exact ⟨rfl, Hi.out.2⟩
  · have K := Lib.hid (leL_len a b (by have := Ha.out.len; have := Hb.out.len; omega))
    have hl2 : ((n : Int) == m) = false := beq_eq_false_iff_ne.2 (by omega)
    go_enter Try.func44, Try.ntmps44
    go_wp2
    go_ret
    rw [K.out]
    exact ⟨rfl, Fr.refl _ _⟩
end
end Go.Proofs.Ytoaikponefcbiaa.Kd08
