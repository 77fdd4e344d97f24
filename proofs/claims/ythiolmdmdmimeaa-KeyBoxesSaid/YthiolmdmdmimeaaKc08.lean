/- Layer 8, function by function: how points stand, whether one may be. -/
import Derived.Test.YthiolmdmdmimeaaProg
import Derived.Test.YthiolmdmdmimeaaPk08
import Derived.Test.YthiolmdmdmimeaaKy
import Derived.WalkKit
import Derived.RowKit3
import Derived.WalkSpells
import Derived.BigQuiet
import Derived.Deep.QuietTactic
import Derived.WideLaws
import Derived.Lib.Hide
namespace Go.Proofs.Ythiolmdmdmimeaa.Kc08
open Go.RowKit Go.Proofs.Ythiolmdmdmimeaa.Pk08 Go.Proofs.Ythiolmdmdmimeaa.Base Go.Proofs.Ythiolmdmdmimeaa.App Go.Proofs.Ythiolmdmdmimeaa.Ky
set_option linter.unusedVariables false
set_option linter.unusedSimpArgs false
attribute [local irreducible] cmp leL

theorem isDim_any (d : Int) (w : World) :
    Calls Try.prog 30 #[.int .i64 d] w fun e w' => e = .returned (.bool (decide (1 ≤ d ∧ d ≤ 6))) ∧ w = w' := by
  by_cases h : 1 ≤ d
  · go_enter Try.func30, Try.ntmps30
    go_wp2
    go_ret
    exact ⟨by simp [h], rfl⟩
  · have hd : decide (1 ≤ d) = false := by simpa using h
    go_enter Try.func30, Try.ntmps30
    go_wp2
    go_ret
    exact ⟨by simp [h], rfl⟩
theorem check_any (A : Option Addr) (n c : Nat) (d : Int) (w : World) :
    Calls Try.prog 16 #[.slice A n c, .int .i64 d] w fun e w' => e = .returned (.int .i64 (chk n d)) ∧ w = w' := by
  by_cases h : 1 ≤ d ∧ d ≤ 6
  · have hd : decide (1 ≤ d ∧ d ≤ 6) = true := decide_eq_true h
    by_cases hn : (n : Int) = d
    · have e : chk n d = 0 := by unfold chk; rw [if_pos ⟨h.1, h.2, hn⟩]
      rw [e]
      clear e
      go_enter Try.func16, Try.ntmps16
      go_wp2_with (go_at_call 30; ((with_reducible refine (isDim_any _ _).mono ?_); rintro e w' ⟨rfl, rfl⟩; rw [hd]))
      go_ret
      exact ⟨rfl, rfl⟩
    · have e : chk n d = 1 := by unfold chk; rw [if_neg (fun x => hn x.2.2)]
      have hn2 : ((n : Int) == d) = false := beq_eq_false_iff_ne.2 hn
      rw [e]
      clear e
      go_enter Try.func16, Try.ntmps16
      go_wp2_with (go_at_call 30; ((with_reducible refine (isDim_any _ _).mono ?_); rintro e w' ⟨rfl, rfl⟩; rw [hd]))
      go_ret
      exact ⟨rfl, rfl⟩
  · have hd : decide (1 ≤ d ∧ d ≤ 6) = false := decide_eq_false h
    have e : chk n d = 1 := by unfold chk; rw [if_neg (fun x => h ⟨x.1, x.2.1⟩)]
    rw [e]
    clear e h
    go_enter Try.func16, Try.ntmps16
    go_wp2_with (go_at_call 30; ((with_reducible refine (isDim_any _ _).mono ?_); rintro e w' ⟨rfl, rfl⟩; rw [hd]))
    go_ret
    exact ⟨rfl, rfl⟩
theorem rcheck_any (A : Option Addr) (n c : Nat) (d : Int) (w : World) :
    Calls Try.prog 17 #[.slice A n c, .int .i64 d] w fun e w' => e = .returned (.int .i64 (chk n d)) ∧ w = w' := by
  by_cases h1 : d < 1
  · have e : chk n d = 1 := by unfold chk; rw [if_neg (fun x => by omega)]
    rw [e]; clear e
    go_enter Try.func17, Try.ntmps17
    go_wp2
    go_ret
    exact ⟨rfl, rfl⟩
  · by_cases h2 : 6 < d
    · have e : chk n d = 1 := by unfold chk; rw [if_neg (fun x => by omega)]
      rw [e]; clear e
      go_enter Try.func17, Try.ntmps17
      go_wp2
      go_ret
      exact ⟨rfl, rfl⟩
    · by_cases hn : (n : Int) = d
      · have e : chk n d = 0 := by unfold chk; rw [if_pos ⟨by omega, by omega, hn⟩]
        rw [e]; clear e
        go_enter Try.func17, Try.ntmps17
        go_wp2
        go_ret
        exact ⟨rfl, rfl⟩
      · have e : chk n d = 1 := by unfold chk; rw [if_neg (fun x => hn x.2.2)]
        have hn2 : ((n : Int) == d) = false := beq_eq_false_iff_ne.2 hn
        rw [e]; clear e
        go_enter Try.func17, Try.ntmps17
        go_wp2
        go_ret
        exact ⟨rfl, rfl⟩

/-! ### Compare -/
theorem isNaN_any (x : Int) (w : World) :
    Calls Try.prog 40 #[.int .u32 x] w fun e w' => e = .returned (.bool false) ∧ w = w' := by
  go_enter Try.func40, Try.ntmps40
  go_wp2
  go_ret
  exact ⟨by simp, rfl⟩
def c1 (x y : Nat) : Int := if x < y then -1 else if y < x then 1 else 0
theorem cmp_any (x y : Nat) (w : World) :
    Calls Try.prog 38 #[.int .u32 (x : Int), .int .u32 (y : Int)] w fun e w' => e = .returned (.int .i64 (c1 x y)) ∧ w = w' := by
  by_cases h : x < y
  · have e : c1 x y = -1 := by unfold c1; rw [if_pos h]
    rw [e]; clear e
    go_enter Try.func38, Try.ntmps38
    go_wp2_with (go_at_call 40; ((with_reducible refine (isNaN_any _ _).mono ?_); rintro e w' ⟨rfl, rfl⟩))
    go_ret
    exact ⟨rfl, rfl⟩
  · by_cases h2 : y < x
    · have e : c1 x y = 1 := by unfold c1; rw [if_neg h, if_pos h2]
      rw [e]; clear e
      go_enter Try.func38, Try.ntmps38
      go_wp2_with (go_at_call 40; ((with_reducible refine (isNaN_any _ _).mono ?_); rintro e w' ⟨rfl, rfl⟩))
      go_ret
      exact ⟨rfl, rfl⟩
    · have e : c1 x y = 0 := by unfold c1; rw [if_neg h, if_neg h2]
      rw [e]; clear e
      go_enter Try.func38, Try.ntmps38
      go_wp2_with (go_at_call 40; ((with_reducible refine (isNaN_any _ _).mono ?_); rintro e w' ⟨rfl, rfl⟩))
      go_ret
      exact ⟨rfl, rfl⟩
section
variable {w : World} {A B : Option Addr} {n m c d : Nat} {a b : List Nat}
set_option maxHeartbeats 800000 in
theorem scompare (ha : Kv w A n c a) (hb : Kv w B m d b) :
    Calls Try.prog 31 #[.slice A n c, .slice B m d] w fun e w' => e = .returned (.int .i64 (cmp a b)) ∧ w = w' := by
  have hac := ha.cap
  have hbc := hb.cap
  have ham := ha.most
  have hbm := hb.most
  have hmx : maxLen ≤ 9223372036854775807 := by decide
  obtain rfl := ha.len
  obtain rfl := hb.len
  have Ha := Lib.hid ha
  have Hb := Lib.hid hb
  clear ha hb
  go_enter Try.func31, Try.ntmps31
  go_wp2
  go_loop [11] (fun v => ∃ i : Nat, i ≤ a.length ∧ i ≤ b.length ∧ v = .int .i64 i ∧ Hid (cmp (a.drop i) (b.drop i) = cmp a b)) (fun v => a.length - (intOf v).toNat)
  case atStart => exact ⟨0, Nat.zero_le _, Nat.zero_le _, rfl, Lib.hid rfl⟩
  case round =>
    obtain ⟨i, hi1, hi2, rfl, Hi⟩ := hrel
    by_cases hlt : i < a.length
    · obtain ⟨ga, oa, rfl, ca⟩ := Ha.out.get i hlt
      by_cases hlt2 : i < b.length
      · obtain ⟨gb, ob, rfl, cb⟩ := Hb.out.get i hlt2
        have k1 := cmp_lt a b i hlt hlt2
        have k2 := cmp_gt a b i hlt hlt2
        have k3 := cmp_on a b i hlt hlt2
        generalize a.getD i 0 = x at *
        generalize b.getD i 0 = y at *
        by_cases hxy : x < y
        · have e : c1 x y = -1 := by unfold c1; rw [if_pos hxy]
          have K := Lib.hid (k1 hxy)
          clear k1 k2 k3
          go_wp2_with (go_at_call 38; ((with_reducible refine (cmp_any _ _ _).mono ?_); rintro e w' ⟨rfl, rfl⟩; rw [e]))
          go_ret
          rw [← Hi.out, K.out]
          exact ⟨rfl, rfl⟩
        · by_cases hyx : y < x
          · have e : c1 x y = 1 := by unfold c1; rw [if_neg hxy, if_pos hyx]
            have K := Lib.hid (k2 hyx)
            clear k1 k2 k3
            go_wp2_with (go_at_call 38; ((with_reducible refine (cmp_any _ _ _).mono ?_); rintro e w' ⟨rfl, rfl⟩; rw [e]))
            go_ret
            rw [← Hi.out, K.out]
            exact ⟨rfl, rfl⟩
          · have e : c1 x y = 0 := by unfold c1; rw [if_neg hxy, if_neg hyx]
            have K := Lib.hid ((k3 (by omega)).symm.trans Hi.out)
            clear k1 k2 k3
            go_wp2_with (go_at_call 38; ((with_reducible refine (cmp_any _ _ _).mono ?_); rintro e w' ⟨rfl, rfl⟩; rw [e]))
            go_round
            case rel => exact ⟨i + 1, by omega, by omega, by go_num, K⟩
            case measure => simp [intOf]; omega
      · have K := Lib.hid (cmp_end a b i (by omega) hi1 hi2)
        have hg : ((b.length : Int) ≤ i) := by omega
        go_wp2
        go_ret
        rw [← Hi.out, K.out, if_neg (by omega), if_pos (by omega)]
        exact ⟨rfl, rfl⟩
    · have K := Lib.hid (cmp_end a b i (by omega) hi1 hi2)
      by_cases hab : a.length < b.length
      · go_wp2
        go_ret
        rw [← Hi.out, K.out, if_pos hab]
        exact ⟨rfl, rfl⟩
      · go_wp2
        go_ret
        rw [← Hi.out, K.out, if_neg hab, if_neg (by omega)]
        exact ⟨rfl, rfl⟩
theorem compare (ha : Kv w A n c a) (hb : Kv w B m d b) :
    Calls Try.prog 14 #[.slice A n c, .slice B m d] w fun e w' => e = .returned (.int .i64 (cmp a b)) ∧ w = w' := by
  go_enter Try.func14, Try.ntmps14
  go_wp2_with (go_at_call 31; ((with_reducible refine (scompare ha hb).mono ?_); rintro e w' ⟨rfl, rfl⟩))
  go_ret
  exact ⟨rfl, rfl⟩
end
end Go.Proofs.Ythiolmdmdmimeaa.Kc08
