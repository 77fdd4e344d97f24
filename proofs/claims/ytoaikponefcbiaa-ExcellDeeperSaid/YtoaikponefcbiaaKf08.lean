/- Layer 8, further: the bits. -/
import Derived.Test.YtoaikponefcbiaaKe08
import Derived.Laws.BitsAllLaws
import Derived.IntWalk
namespace Go.Proofs.Ytoaikponefcbiaa.Kf08
open Go.RowKit Go.Proofs.Ytoaikponefcbiaa.Pk08 Go.Proofs.Ytoaikponefcbiaa.Base Go.Proofs.Ytoaikponefcbiaa.App Go.Proofs.Ytoaikponefcbiaa.Ky Go.Proofs.Ytoaikponefcbiaa.Kc08 Go.Proofs.Ytoaikponefcbiaa.Kd08
set_option linter.unusedVariables false
set_option linter.unusedSimpArgs false
theorem bitsK_succ (k : List Nat) (i : Nat) : bitsK k (i + 1) = 2 * bitsK k i + bitk k i := rfl
theorem i64_or_nat (a b : Nat) (ha : a < 9223372036854775808) (hb : b < 9223372036854775808) : bits .or .i64 (a : Int) (b : Int) = ((a ||| b : Nat) : Int) := by
  have hc : a ||| b < 2 ^ 63 := Nat.or_lt_two_pow ha hb
  show IntKind.i64.wrap ((BitVec.ofInt 64 (a : Int) ||| BitVec.ofInt 64 (b : Int)).toNat : Int) = _
  rw [BitVec.toNat_or, ofInt_u64 a (by omega), ofInt_u64 b (by omega)]
  exact IntWalk.i64_in _ (by omega)
theorem step_bit (B x d : Nat) (hB : B < 2 ^ 40) (hx : x < 4294967296) : bits .or .i64 ((B : Int) * 2) (wrap64 (bits .and .u32 ((x : Int) / 2 ^ d) 1)) = ((2 * B + x / 2 ^ d % 2 : Nat) : Int) := by
  have l : x / 2 ^ d < 4294967296 := Nat.lt_of_le_of_lt (Nat.div_le_self _ _) hx
  have e1 : ((x : Int) / 2 ^ d) = ((x / 2 ^ d : Nat) : Int) := by simp
  have e2 : bits .and .u32 ((x : Int) / 2 ^ d) 1 = ((x / 2 ^ d % 2 : Nat) : Int) := by
    rw [e1, ← nat_mask1]
    exact u32_and_nat (x / 2 ^ d) 1 l (by decide)
  have l2 : x / 2 ^ d % 2 < 2 := Nat.mod_lt _ (by decide)
  rw [e2, IntWalk.wrap64_in _ (by omega)]
  generalize x / 2 ^ d % 2 = y at *
  have e3 : ((B : Int) * 2) = ((2 * B : Nat) : Int) := by omega
  rw [e3, i64_or_nat _ _ (by omega) (by omega), nat_join 1 (2 * B) y (by omega) (by omega)]
attribute [local irreducible] bitsK
section
variable {w : World} {A B C D : Option Addr} {n m p q cn cm cp cq : Nat} {a b k lo hi : List Nat}
set_option maxHeartbeats 800000 in
theorem bits_ok (m : Nat) (hk : Kv w A n cn k) (ho : bitsOk k.length m) :
    Calls Try.prog 30 #[.slice A n cn, .int .i64 (m : Int)] w fun e w' => e = .returned (.tuple #[.int .i64 (bitsK k m : Int), .int .i64 0]) ∧ w = w' := by
  have hn := hk.len
  rw [← hn] at ho
  obtain ⟨h1, h2, h3, h4, h5⟩ := ho
  have Hk := Lib.hid hk
  clear hk hn
  have hd : decide (1 ≤ (n : Int) ∧ (n : Int) ≤ 6) = true := decide_eq_true ⟨by omega, by omega⟩
  go_enter Try.func30, Try.ntmps30
  go_wp2_with (go_at_call 37; ((with_reducible refine (isDim_any _ _).mono ?_); rintro e w' ⟨rfl, rfl⟩; rw [hd]))
  go_loop [26, 6] (fun v o => ∃ i : Nat, i ≤ m ∧ v = .int .i64 i ∧ o = .int .i64 (bitsK k i : Int)) (fun v _ => m - (intOf v).toNat)
  case atStart => exact ⟨0, Nat.zero_le _, rfl, by unfold bitsK; rfl⟩
  case round =>
    obtain ⟨i, hi, rfl, rfl⟩ := hrel
    have hb := bitsK_lt k i
    have h2i : 2 ^ i ≤ 2 ^ 30 := Nat.pow_le_pow_right (by decide) (by omega)
    by_cases hlt : i < m
    · have hil : i % n < n := Nat.mod_lt _ (by omega)
      obtain ⟨ga, oa, rfl, ca⟩ := Hk.out.get (i % n) (by rw [← Hk.out.len]; exact hil)
      have hdv : i / n < 32 := by
        rw [Nat.div_lt_iff_lt_mul (by omega)]
        omega
      have hbl := bitk_lt k i
      have hbk : bitk k i = k.getD (i % n) 0 / 2 ^ (31 - i / n) % 2 := by unfold bitk; rw [← Hk.out.len]
      have hbs := bitsK_succ k i
      have hi2 : (i : Int) % n < n := Int.emod_lt_of_pos _ (by omega)
      have hi3 : 0 ≤ (i : Int) % n := Int.emod_nonneg _ (by omega)
      have hxl := Hk.out.ltD (i % n)
      have hq : wrap64 ((i : Int) / n) = ((i / n : Nat) : Int) := by
        have e : ((i : Int) / n) = ((i / n : Nat) : Int) := by simp
        have hq0 : ∀ q : Nat, q < 32 → wrap64 (q : Int) = q := fun q hq => IntWalk.wrap64_in _ (by omega)
        rw [e]
        exact hq0 _ hdv
      generalize k.getD (i % n) 0 = x at *
      generalize hqe : i / n = qq at *
      have Hbk := Lib.hid hbk
      have Hbs := Lib.hid hbs
      have Hst := Lib.hid (step_bit (bitsK k i) x (31 - qq) (by omega) hxl)
      clear hbk hbs hqe hil
      go_wp2
      go_round
      case rel => exact ⟨i + 1, by omega, by go_num, by rw [Hbs.out, Hbk.out]; exact congrArg (Value.int .i64) Hst.out⟩
      case measure => simp [intOf]; omega
    · obtain rfl : i = m := by omega
      go_wp2
      go_ret2
      exact ⟨rfl, rfl⟩
theorem bits_bad (m : Int) (ho : ¬ bitsOk n m) (hc : n ≤ 9223372036854775807) (hm : (Lit.int .i64 m).wf = true) :
    Calls Try.prog 30 #[.slice A n cn, .int .i64 m] w fun e w' => e = .returned (.tuple #[.int .i64 0, .int .i64 1]) ∧ w = w' := by
  by_cases h1 : 1 ≤ n ∧ n ≤ 6
  · have hd : decide (1 ≤ (n : Int) ∧ (n : Int) ≤ 6) = true := decide_eq_true ⟨by omega, by omega⟩
    by_cases h0 : m < 0
    · clear ho
      go_enter Try.func30, Try.ntmps30
      go_wp2_with (go_at_call 37; ((with_reducible refine (isDim_any _ _).mono ?_); rintro e w' ⟨rfl, rfl⟩; rw [hd]))
      go_ret2
      exact ⟨rfl, rfl⟩
    · have h2 : 30 < m := by
        by_cases h : 30 < m
        · exact h
        · exact absurd ⟨h1.1, h1.2, by omega, by omega, by omega⟩ ho
      clear ho
      go_enter Try.func30, Try.ntmps30
      go_wp2_with (go_at_call 37; ((with_reducible refine (isDim_any _ _).mono ?_); rintro e w' ⟨rfl, rfl⟩; rw [hd]))
      go_ret2
      exact ⟨rfl, rfl⟩
  · have hd : decide (1 ≤ (n : Int) ∧ (n : Int) ≤ 6) = false := decide_eq_false (fun x => h1 ⟨by omega, by omega⟩)
    clear ho h1
    go_enter Try.func30, Try.ntmps30
    go_wp2_with (go_at_call 37; ((with_reducible refine (isDim_any _ _).mono ?_); rintro e w' ⟨rfl, rfl⟩; rw [hd]))
    go_ret2
    exact ⟨rfl, rfl⟩
theorem rbits_bad (m : Int) (ho : ¬ bitsOk n m) (hc : n ≤ 9223372036854775807) (hm : (Lit.int .i64 m).wf = true) :
    Calls Try.prog 31 #[.slice A n cn, .int .i64 m] w fun e w' => e = .returned (.tuple #[.int .i64 0, .int .i64 1]) ∧ w = w' := by
  by_cases h1 : n < 1
  · clear ho
    go_enter Try.func31, Try.ntmps31
    go_wp2
    go_ret2
    exact ⟨rfl, rfl⟩
  · by_cases h2 : 6 < n
    · clear ho
      go_enter Try.func31, Try.ntmps31
      go_wp2
      go_ret2
      exact ⟨rfl, rfl⟩
    · by_cases h3 : m < 0
      · clear ho
        go_enter Try.func31, Try.ntmps31
        go_wp2
        go_ret2
        exact ⟨rfl, rfl⟩
      · have h4 : 30 < m := by
          by_cases h : 30 < m
          · exact h
          · exact absurd ⟨by omega, by omega, by omega, by omega, by omega⟩ ho
        clear ho
        go_enter Try.func31, Try.ntmps31
        go_wp2
        go_ret2
        exact ⟨rfl, rfl⟩
end
end Go.Proofs.Ytoaikponefcbiaa.Kf08
