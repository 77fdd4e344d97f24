/- Layer 16: the cell beside one. -/
import Derived.Test.YtoaikponefcbiaaHg16
namespace Go.Proofs.Ytoaikponefcbiaa.Hh16
open Go.RowKit Go.Proofs.Ytoaikponefcbiaa.Pk08 Go.Proofs.Ytoaikponefcbiaa.Base Go.Proofs.Ytoaikponefcbiaa.App Go.Proofs.Ytoaikponefcbiaa.Px16 Go.Proofs.Ytoaikponefcbiaa.Py16 Go.Proofs.Ytoaikponefcbiaa.Hd16 Go.Proofs.Ytoaikponefcbiaa.He16 Go.Proofs.Ytoaikponefcbiaa.Hg16
set_option linter.unusedVariables false
set_option linter.unusedSimpArgs false
def buV (n a b : Int) : Int := if budOk n a b = true then ((bud n.toNat a.toNat b.toNat : Nat) : Int) else 0
def buE (n a b : Int) : Int := if budOk n a b = true then 0 else 1
theorem budOk_no {n a b : Int} (h : budOk n a b = false) : adB n a = false ∨ (adB n a = true ∧ b < 1) ∨ (adB n a = true ∧ 1 ≤ b ∧ n < b) := by
  cases hd : adB n a with
  | false => exact .inl rfl
  | true =>
    have hx := of_decide_eq_true hd
    have hy := of_decide_eq_false h
    by_cases h1 : b < 1
    · exact .inr (.inl ⟨rfl, h1⟩)
    · refine .inr (.inr ⟨rfl, by omega, ?_⟩)
      by_cases h2 : b ≤ n
      · exact absurd ⟨hx.1, hx.2.1, hx.2.2.1, hx.2.2.2, by omega, h2⟩ hy
      · omega
theorem i64_xor_one (q : Nat) (hq : q < 4611686018427387904) : bits .xor .i64 (q : Int) 1 = ((flip1 q : Nat) : Int) := by
  have hc : q ^^^ 1 < 2 ^ 63 := Nat.xor_lt_two_pow (by omega) (by decide)
  have hf : q ^^^ 1 = flip1 q := by
    have h0 : (q ^^^ 1) / 2 = q / 2 ^^^ 1 / 2 := Nat.xor_div_two
    have h1 : (q ^^^ 1) % 2 ^ 1 = (q % 2 ^ 1) ^^^ (1 % 2 ^ 1) := Nat.xor_mod_two_pow
    rw [show (1 / 2 : Nat) = 0 from rfl, Nat.xor_zero] at h0
    rw [show (2 ^ 1 : Nat) = 2 from rfl, show (1 % 2 : Nat) = 1 from rfl] at h1
    unfold flip1
    rcases Nat.mod_two_eq_zero_or_one q with h | h
    · rw [h, show (0 ^^^ 1 : Nat) = 1 from rfl] at h1
      rw [if_neg (by omega)]
      omega
    · rw [h, show (1 ^^^ 1 : Nat) = 0 from rfl] at h1
      rw [if_pos h]
      omega
  show IntKind.i64.wrap ((BitVec.ofInt 64 (q : Int) ^^^ BitVec.ofInt 64 ((1 : Nat) : Int)).toNat : Int) = _
  rw [BitVec.toNat_xor, ofInt_u64 q (by omega), ofInt_u64 1 (by omega), hf]
  rw [hf] at hc
  exact IntWalk.i64_in _ (by omega)
theorem flip1_even (q : Nat) (h : q % 2 = 0) : ((flip1 q : Nat) : Int) = (q : Int) + 1 := by unfold flip1; rw [if_neg (by omega)]; omega
theorem flip1_odd (q : Nat) (h : q % 2 = 1) : ((flip1 q : Nat) : Int) = (q : Int) - 1 := by unfold flip1; rw [if_pos h]; omega
theorem bud_small {n a b : Nat} (h1 : 1 ≤ b) (h2 : b ≤ n) (ha : a < 2 ^ n) (hn : n ≤ 12) : flip1 (a / 2 ^ (n - b)) * 2 ^ (n - b) < 4096 := by
  have h3 := bud_lt n a b h1 h2 ha
  have h4 := Nat.pow_le_pow_right (show 0 < 2 by decide) hn
  unfold bud at h3
  have h5 : (2 : Nat) ^ 12 = 4096 := rfl
  omega
section
variable {w : World}
theorem buddy_any (n a b : Int) :
    Calls Try.prog 14 #[.int .i64 n, .int .i64 a, .int .i64 b] w fun e w' => e = .returned (.tuple #[.int .i64 (buV n a b), .int .i64 (buE n a b)]) ∧ w = w' := by
  cases hb : budOk n a b with
  | false =>
    have E1 := Lib.hid (show buV n a b = 0 by unfold buV; rw [hb]; rfl)
    have E2 := Lib.hid (show buE n a b = 1 by unfold buE; rw [hb]; rfl)
    rw [E1.out, E2.out]
    rcases budOk_no hb with h | ⟨h, h1⟩ | ⟨h, h1, h2⟩
    all_goals
      have H := Lib.hid h
      clear h hb
      go_enter Try.func14, Try.ntmps14
      go_wp2_with (go_at_call 24; ((with_reducible refine (isAddress_any _ _ _).mono ?_); rintro e w1 ⟨rfl, rfl⟩; rw [H.out]))
      go_ret2
      exact ⟨rfl, rfl⟩
  | true =>
    obtain ⟨n0, n1, a0, a1, b0, b1⟩ := of_decide_eq_true hb
    obtain ⟨n, rfl⟩ := Int.eq_ofNat_of_zero_le n0
    obtain ⟨a, rfl⟩ := Int.eq_ofNat_of_zero_le a0
    obtain ⟨b, rfl⟩ := Int.eq_ofNat_of_zero_le (show 0 ≤ b by omega)
    have E1 := Lib.hid (show buV n a b = ((flip1 (a / 2 ^ (n - b)) * 2 ^ (n - b) : Nat) : Int) by unfold buV; rw [hb, Int.toNat_natCast, Int.toNat_natCast, Int.toNat_natCast]; rfl)
    have E2 := Lib.hid (show buE n a b = 0 by unfold buE; rw [hb]; rfl)
    have H := Lib.hid (show adB n a = true from decide_eq_true ⟨n0, n1, a0, a1⟩)
    rw [E1.out, E2.out]
    have a2 : a < 2 ^ n := by
      rw [Int.toNat_natCast] at a1
      have : ((2 ^ n : Nat) : Int) = (2 : Int) ^ n := by simp
      omega
    have a3 : a < 4096 := Nat.lt_of_lt_of_le a2 (Nat.pow_le_pow_right (show 0 < 2 by decide) (show n ≤ 12 by omega))
    have hsm := bud_small (n := n) (a := a) (b := b) (by omega) (by omega) a2 (by omega)
    have hx := i64_xor_one (a / 2 ^ (n - b)) (by have := Nat.div_le_self a (2 ^ (n - b)); omega)
    have e2 : ((a : Int) / 2 ^ (n - b)) = ((a / 2 ^ (n - b) : Nat) : Int) := by simp
    rw [← e2] at hx
    have Hm := Lib.hid (show wrap64 (((flip1 (a / 2 ^ (n - b)) : Nat) : Int) * 2 ^ (n - b)) = ((flip1 (a / 2 ^ (n - b)) * 2 ^ (n - b) : Nat) : Int) by
      have e3 : ((flip1 (a / 2 ^ (n - b)) : Nat) : Int) * 2 ^ (n - b) = ((flip1 (a / 2 ^ (n - b)) * 2 ^ (n - b) : Nat) : Int) := by simp
      rw [e3]
      exact IntWalk.wrap64_in _ (by omega))
    have hnb : n ≤ 12 := by omega
    have hbn : b ≤ n := by omega
    clear hb a1 a2 e2 hsm n0 n1 a0
    go_enter Try.func14, Try.ntmps14
    go_wp2_with (go_at_call 24; ((with_reducible refine (isAddress_any _ _ _).mono ?_); rintro e w1 ⟨rfl, rfl⟩; rw [H.out]))
    go_ret2
    exact ⟨by rw [Hm.out]; rfl, rfl⟩
theorem rbuddy_any (n a b : Int) :
    Calls Try.prog 15 #[.int .i64 n, .int .i64 a, .int .i64 b] w fun e w' => e = .returned (.tuple #[.int .i64 (buV n a b), .int .i64 (buE n a b)]) ∧ w = w' := by
  cases hb : budOk n a b with
  | false =>
    have E1 := Lib.hid (show buV n a b = 0 by unfold buV; rw [hb]; rfl)
    have E2 := Lib.hid (show buE n a b = 1 by unfold buE; rw [hb]; rfl)
    rw [E1.out, E2.out]
    rcases budOk_no hb with h | ⟨h, h1⟩ | ⟨h, h1, h2⟩
    all_goals
      have H := Lib.hid h
      clear h hb
      go_enter Try.func15, Try.ntmps15
      go_wp2_with (go_at_call 27; ((with_reducible refine (is_any _ _ _).mono ?_); rintro e w1 ⟨rfl, rfl⟩; rw [H.out]))
      go_ret2
      exact ⟨rfl, rfl⟩
  | true =>
    obtain ⟨n0, n1, a0, a1, b0, b1⟩ := of_decide_eq_true hb
    obtain ⟨n, rfl⟩ := Int.eq_ofNat_of_zero_le n0
    obtain ⟨a, rfl⟩ := Int.eq_ofNat_of_zero_le a0
    obtain ⟨b, rfl⟩ := Int.eq_ofNat_of_zero_le (show 0 ≤ b by omega)
    have E1 := Lib.hid (show buV n a b = ((flip1 (a / 2 ^ (n - b)) * 2 ^ (n - b) : Nat) : Int) by unfold buV; rw [hb, Int.toNat_natCast, Int.toNat_natCast, Int.toNat_natCast]; rfl)
    have E2 := Lib.hid (show buE n a b = 0 by unfold buE; rw [hb]; rfl)
    have H := Lib.hid (show adB n a = true from decide_eq_true ⟨n0, n1, a0, a1⟩)
    rw [E1.out, E2.out]
    have a2 : a < 2 ^ n := by
      rw [Int.toNat_natCast] at a1
      have : ((2 ^ n : Nat) : Int) = (2 : Int) ^ n := by simp
      omega
    have a3 : a < 4096 := Nat.lt_of_lt_of_le a2 (Nat.pow_le_pow_right (show 0 < 2 by decide) (show n ≤ 12 by omega))
    have hsm := bud_small (n := n) (a := a) (b := b) (by omega) (by omega) a2 (by omega)
    have e2 : ((a : Int) / 2 ^ (n - b)) = ((a / 2 ^ (n - b) : Nat) : Int) := by simp
    have hql := Nat.div_le_self a (2 ^ (n - b))
    have Hm := Lib.hid (show wrap64 (((flip1 (a / 2 ^ (n - b)) : Nat) : Int) * 2 ^ (n - b)) = ((flip1 (a / 2 ^ (n - b)) * 2 ^ (n - b) : Nat) : Int) by
      have e3 : ((flip1 (a / 2 ^ (n - b)) : Nat) : Int) * 2 ^ (n - b) = ((flip1 (a / 2 ^ (n - b)) * 2 ^ (n - b) : Nat) : Int) := by simp
      rw [e3]
      exact IntWalk.wrap64_in _ (by omega))
    have hnb : n ≤ 12 := by omega
    have hbn : b ≤ n := by omega
    have hp : a / 2 ^ (n - b) % 2 = 0 ∨ a / 2 ^ (n - b) % 2 = 1 := by omega
    have htm : ((a / 2 ^ (n - b) : Nat) : Int).tmod 2 = ((a / 2 ^ (n - b) % 2 : Nat) : Int) := by rw [Int.tmod_eq_emod_of_nonneg (Int.natCast_nonneg _)]; simp
    have F0 := Lib.hid (flip1_even (a / 2 ^ (n - b)))
    have F1 := Lib.hid (flip1_odd (a / 2 ^ (n - b)))
    generalize hQ : a / 2 ^ (n - b) = Q at *
    clear hQ hsm a1 a2 hb n0 n1 a0
    rcases hp with hp | hp
    · have Fx := Lib.hid (F0.out hp)
      have hq0 : (((Q % 2 : Nat) : Int) == 1) = false := by rw [hp]; rfl
      clear F0 F1 hp
      go_enter Try.func15, Try.ntmps15
      go_wp2_with (go_at_call 27; ((with_reducible refine (is_any _ _ _).mono ?_); rintro e w1 ⟨rfl, rfl⟩; rw [H.out]))
      go_ret2
      exact ⟨by rw [← Fx.out, Hm.out]; rfl, rfl⟩
    · have Fx := Lib.hid (F1.out hp)
      have hq0 : (((Q % 2 : Nat) : Int) == 1) = true := by rw [hp]; rfl
      clear F0 F1 hp
      go_enter Try.func15, Try.ntmps15
      go_wp2_with (go_at_call 27; ((with_reducible refine (is_any _ _ _).mono ?_); rintro e w1 ⟨rfl, rfl⟩; rw [H.out]))
      go_ret2
      exact ⟨by rw [← Fx.out, Hm.out]; rfl, rfl⟩
end
end Go.Proofs.Ytoaikponefcbiaa.Hh16
