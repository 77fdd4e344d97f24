/- Layer 16: depths, addresses. -/
import Derived.Test.YtoaikponefcbiaaHc16
import Derived.Test.YtoaikponefcbiaaPy16
import Derived.Test.YtoaikponefcbiaaKa08
namespace Go.Proofs.Ytoaikponefcbiaa.Hd16
open Go.RowKit Go.Proofs.Ytoaikponefcbiaa.Pk08 Go.Proofs.Ytoaikponefcbiaa.Base Go.Proofs.Ytoaikponefcbiaa.App Go.Proofs.Ytoaikponefcbiaa.Ky Go.Proofs.Ytoaikponefcbiaa.Bx Go.Proofs.Ytoaikponefcbiaa.Kk Go.Proofs.Ytoaikponefcbiaa.Bo Go.Proofs.Ytoaikponefcbiaa.Cl Go.Proofs.Ytoaikponefcbiaa.Pl08 Go.Proofs.Ytoaikponefcbiaa.Kc08 Go.Proofs.Ytoaikponefcbiaa.Px16 Go.Proofs.Ytoaikponefcbiaa.Py16 Go.Proofs.Ytoaikponefcbiaa.Ha16 Go.Proofs.Ytoaikponefcbiaa.Hb16 Go.Proofs.Ytoaikponefcbiaa.Hc16
set_option linter.unusedVariables false
set_option linter.unusedSimpArgs false
def dpB (n : Int) : Bool := decide (0 ≤ n ∧ n ≤ 12)
def adB (n a : Int) : Bool := decide (0 ≤ n ∧ n ≤ 12 ∧ 0 ≤ a ∧ a < 2 ^ n.toNat)
theorem isDepth_any (n : Int) (w : World) : Calls Try.prog 29 #[.int .i64 n] w fun e w' => e = .returned (.bool (dpB n)) ∧ w = w' := by
  by_cases h0 : 0 ≤ n
  · have E := Lib.hid (show dpB n = decide (n ≤ 12) by unfold dpB; simp [h0])
    rw [E.out]
    go_enter Try.func29, Try.ntmps29
    go_wp2
    go_ret
    exact ⟨rfl, rfl⟩
  · have E := Lib.hid (show dpB n = false by unfold dpB; simp [h0])
    have h0' : n < 0 := by omega
    clear h0
    rw [E.out]
    go_enter Try.func29, Try.ntmps29
    go_wp2
    go_ret
    exact ⟨rfl, rfl⟩
theorem two_le (m : Nat) (hm : m ≤ 12) : 0 ≤ (2 : Int) ^ m ∧ (2 : Int) ^ m ≤ 4096 := by
  have h1 := Nat.pow_le_pow_right (show 0 < 2 by decide) hm
  have h2 : (2 : Int) ^ m = ((2 ^ m : Nat) : Int) := by simp
  rw [h2]
  exact ⟨Int.natCast_nonneg _, Int.ofNat_le.2 h1⟩
theorem isAddress_any (n a : Int) (w : World) : Calls Try.prog 24 #[.int .i64 n, .int .i64 a] w fun e w' => e = .returned (.bool (adB n a)) ∧ w = w' := by
  cases hd : dpB n with
  | false =>
    have D := Lib.hid hd
    have E := Lib.hid (show adB n a = false by
      unfold dpB at hd
      have := of_decide_eq_false hd
      unfold adB
      exact decide_eq_false (fun x => this ⟨x.1, x.2.1⟩))
    clear hd
    rw [E.out]
    go_enter Try.func24, Try.ntmps24
    go_wp2_with (go_at_call 29; ((with_reducible refine (isDepth_any _ _).mono ?_); rintro e w1 ⟨rfl, rfl⟩; rw [D.out]))
    go_ret
    exact ⟨rfl, rfl⟩
  | true =>
    have hb := of_decide_eq_true hd
    obtain ⟨m, rfl⟩ := Int.eq_ofNat_of_zero_le hb.1
    have D := Lib.hid hd
    clear hd
    by_cases ha : 0 ≤ a
    · have E := Lib.hid (show adB m a = decide (a < 2 ^ m) by unfold adB; simp [ha]; omega)
      have hm : m ≤ 12 := by omega
      obtain ⟨p1, p2⟩ := two_le m (by omega)
      have hw : wrap64 ((2 : Int) ^ m) = 2 ^ m := IntWalk.wrap64_in _ (by omega)
      rw [E.out]
      clear hb
      go_enter Try.func24, Try.ntmps24
      go_wp2_with (go_at_call 29; ((with_reducible refine (isDepth_any _ _).mono ?_); rintro e w1 ⟨rfl, rfl⟩; rw [D.out]))

      go_ret
      exact ⟨rfl, rfl⟩
    · have E := Lib.hid (show adB m a = false by unfold adB; simp [ha])
      have ha' : a < 0 := by omega
      clear ha hb
      rw [E.out]
      go_enter Try.func24, Try.ntmps24
      go_wp2_with (go_at_call 29; ((with_reducible refine (isDepth_any _ _).mono ?_); rintro e w1 ⟨rfl, rfl⟩; rw [D.out]))
      go_ret
      exact ⟨rfl, rfl⟩
theorem is_any (n a : Int) (w : World) : Calls Try.prog 27 #[.int .i64 n, .int .i64 a] w fun e w' => e = .returned (.bool (adB n a)) ∧ w = w' := by
  by_cases h0 : 0 ≤ n
  · by_cases h1 : n ≤ 12
    · by_cases ha : 0 ≤ a
      · obtain ⟨m, rfl⟩ := Int.eq_ofNat_of_zero_le h0
        have E := Lib.hid (show adB m a = decide (a < 2 ^ m) by unfold adB; simp [ha]; omega)
        obtain ⟨p1, p2⟩ := two_le m (by omega)
        have hw : wrap64 ((2 : Int) ^ m) = 2 ^ m := IntWalk.wrap64_in _ (by omega)
        rw [E.out]
        go_enter Try.func27, Try.ntmps27
        go_wp2
        go_ret
        exact ⟨rfl, rfl⟩
      · have E := Lib.hid (show adB n a = false by unfold adB; simp [ha])
        have ha' : a < 0 := by omega
        clear ha
        rw [E.out]
        go_enter Try.func27, Try.ntmps27
        go_wp2
        go_ret
        exact ⟨rfl, rfl⟩
    · have E := Lib.hid (show adB n a = false by unfold adB; simp [h1])
      have h1' : 12 < n := by omega
      clear h1
      rw [E.out]
      go_enter Try.func27, Try.ntmps27
      go_wp2
      go_ret
      exact ⟨rfl, rfl⟩
  · have E := Lib.hid (show adB n a = false by unfold adB; simp [h0])
    have h0' : n < 0 := by omega
    clear h0
    rw [E.out]
    go_enter Try.func27, Try.ntmps27
    go_wp2
    go_ret
    exact ⟨rfl, rfl⟩
end Go.Proofs.Ytoaikponefcbiaa.Hd16
