/- Layer 8, further: the document's bits, boxes. -/
import Derived.Test.YtoaikponefcbiaaKf08
namespace Go.Proofs.Ytoaikponefcbiaa.Kg08
open Go.RowKit Go.Proofs.Ytoaikponefcbiaa.Pk08 Go.Proofs.Ytoaikponefcbiaa.Base Go.Proofs.Ytoaikponefcbiaa.App Go.Proofs.Ytoaikponefcbiaa.Ky Go.Proofs.Ytoaikponefcbiaa.Kc08 Go.Proofs.Ytoaikponefcbiaa.Kd08 Go.Proofs.Ytoaikponefcbiaa.Kf08
set_option linter.unusedVariables false
set_option linter.unusedSimpArgs false
attribute [local irreducible] bitsK
theorem rstep (B x i n : Nat) (hB : B < 2 ^ 40) (hx : x < 4294967296) (hq : i / n < 32) :
    wrap64 (2 * (B : Int) + wrap64 (((x : Int) / 2 ^ min (IntKind.u64.wrap (wrap64 (31 - wrap64 ((i : Int) / n)))).toNat 32).tmod 2)) = ((2 * B + x / 2 ^ (31 - i / n) % 2 : Nat) : Int) := by
  have e : ((i : Int) / n) = ((i / n : Nat) : Int) := by simp
  rw [e]
  generalize i / n = q at *
  have e1 : wrap64 (q : Int) = q := IntWalk.wrap64_in _ (by omega)
  have e2 : wrap64 (31 - (q : Int)) = ((31 - q : Nat) : Int) := by rw [IntWalk.wrap64_in _ (by omega)]; omega
  have e3 : IntKind.u64.wrap ((31 - q : Nat) : Int) = ((31 - q : Nat) : Int) := by rw [IntKind.wrap_u64]; omega
  rw [e1, e2, e3, Int.toNat_natCast, Nat.min_eq_left (by omega)]
  have e4 : ((x : Int) / 2 ^ (31 - q)) = ((x / 2 ^ (31 - q) : Nat) : Int) := by simp
  rw [e4]
  have l : x / 2 ^ (31 - q) < 4294967296 := Nat.lt_of_le_of_lt (Nat.div_le_self _ _) hx
  generalize x / 2 ^ (31 - q) = y at *
  have e5 : ((y : Int).tmod 2) = ((y % 2 : Nat) : Int) := by rw [Int.tmod_eq_emod_of_nonneg (by omega)]; omega
  rw [e5]
  have hy : y % 2 < 2 := Nat.mod_lt _ (by decide)
  generalize y % 2 = z at *
  rw [IntWalk.wrap64_in (z : Int) (by omega), IntWalk.wrap64_in _ (by omega)]
  omega
section
variable {w : World} {A B C D : Option Addr} {n m p q cn cm cp cq : Nat} {a b k lo hi : List Nat}
set_option maxHeartbeats 1600000 in
theorem rbits_ok (m : Nat) (hk : Kv w A n cn k) (ho : bitsOk k.length m) :
    Calls Try.prog 31 #[.slice A n cn, .int .i64 (m : Int)] w fun e w' => e = .returned (.tuple #[.int .i64 (bitsK k m : Int), .int .i64 0]) ∧ Fr No w w' := by
  have hn := hk.len
  rw [← hn] at ho
  obtain ⟨h1, h2, h3, h4, h5⟩ := ho
  have Hk := Lib.hid hk
  clear hk hn
  go_enter Try.func31, Try.ntmps31
  go_wp2
  go_loopw [7, 6] (fun v o wr => ∃ i : Nat, i ≤ m ∧ v = .int .i64 i ∧ o = .int .i64 (bitsK k i : Int) ∧ Hid (Fr No w wr)) (fun v _ _ => m - (intOf v).toNat)
  case atStart => exact ⟨0, Nat.zero_le _, rfl, by unfold bitsK; rfl, Lib.hid (Fr.refl _ _)⟩
  case round =>
    obtain ⟨i, hi, rfl, rfl, Hi⟩ := hrel
    have hb := bitsK_lt k i
    have h2i : 2 ^ i ≤ 2 ^ 30 := Nat.pow_le_pow_right (by decide) (by omega)
    by_cases hlt : i < m
    · have hil : i % n < n := Nat.mod_lt _ (by omega)
      obtain ⟨ga, oa, rfl, ca⟩ := (Hk.out.no Hi.out).get (i % n) (by rw [← Hk.out.len]; exact hil)
      have hdv : i / n < 32 := by
        rw [Nat.div_lt_iff_lt_mul (by omega)]
        omega
      have hbl := bitk_lt k i
      have hbk : bitk k i = k.getD (i % n) 0 / 2 ^ (31 - i / n) % 2 := by unfold bitk; rw [← Hk.out.len]
      have hbs := bitsK_succ k i
      have hi2 : (i : Int) % n < n := Int.emod_lt_of_pos _ (by omega)
      have hi3 : 0 ≤ (i : Int) % n := Int.emod_nonneg _ (by omega)
      have hxl := Hk.out.ltD (i % n)
      generalize k.getD (i % n) 0 = x at *
      have Hst := Lib.hid (rstep (bitsK k i) x i n (by omega) hxl hdv)
      have Hbk := Lib.hid hbk
      have Hbs := Lib.hid hbs
      clear hbk hbs hil hdv
      go_wp2
      go_quiet (fail)
      rw [Hst.out, ← Hbk.out, ← Hbs.out]
      go_wp2
      go_roundw
      case rel => exact ⟨i + 1, by omega, by go_num, rfl, Lib.hid (Hi.out.drewN _)⟩
      case measure => simp [intOf]; omega
    · obtain rfl : i = m := by omega
      go_wp2
      go_ret2
      exact ⟨rfl, Hi.out⟩
end
end Go.Proofs.Ytoaikponefcbiaa.Kg08
