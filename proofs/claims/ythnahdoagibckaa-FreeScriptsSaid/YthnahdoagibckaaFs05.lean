/- Layer 5: the program's map: how many are left, the lowest one taken, a new map. -/
import Derived.Test.YthnahdoagibckaaFr05
import Derived.Deep.OwnRows
import Derived.OwnWalk
namespace Go.Proofs.Ythnahdoagibckaa.Fs05
open Go.RowKit Go.Proofs.Ythnahdoagibckaa.Pl05 Go.Proofs.Ythnahdoagibckaa.Pm05 Go.Proofs.Ythnahdoagibckaa.Base Go.Proofs.Ythnahdoagibckaa.Wa05 Go.Proofs.Ythnahdoagibckaa.Fr05
set_option linter.unusedVariables false
set_option linter.unusedSimpArgs false

theorem sumPc_zero (ws : List Nat) : sumPc ws 0 = 0 := by simp [sumPc, cnt]
attribute [local irreducible] pc sumPc cnt taken
/-! ### Left -/
theorem left_nil (w : World) :
    Calls Try.prog 12 #[.pointer none] w fun e w' => e = .returned (.int .i64 0) ∧ w = w' := by
  go_enter Try.func12, Try.ntmps12
  go_wp2
  go_ret
  exact ⟨rfl, rfl⟩
set_option maxHeartbeats 800000 in
theorem left_at (g b : Nat) (bs : List Bool) (w : World) (h : Map w g b bs) :
    Calls Try.prog 12 #[.pointer (some ⟨g, 0, none⟩)] w fun e w' => e = .returned (.int .i64 ((bs.length - taken bs : Nat) : Int)) ∧ w = w' := by
  obtain ⟨cap, ws, ha⟩ := h
  have c0 := ha.c0
  have c1 := ha.c1
  obtain ⟨hl, hl2⟩ := ha.len
  have hm := ha.most
  have Hs := Lib.hid (sumPc_all ha.rel)
  have hcw : ∀ k, k < ws.length → w.cell? ⟨b, k, none⟩ = some (.int .u64 ((ws.getD k 0 : Nat) : Int)) := ha.cw
  have hlt := getD_lt ha.rel.lt
  have Hc := Lib.hid hcw
  have Hl := Lib.hid hlt
  have htl := taken_le bs
  clear hcw hlt hl ha
  go_enter Try.func12, Try.ntmps12
  go_wp2
  go_loop [3, 17] (fun n i => ∃ k : Nat, k ≤ ws.length ∧ i = .int .i64 k ∧ n = .int .i64 ((bs.length : Int) - (sumPc ws k : Int))) (fun _ i => ws.length - (intOf i).toNat)
  case atStart => exact ⟨0, Nat.zero_le _, rfl, by simp [sumPc_zero]⟩
  case round =>
    obtain ⟨k, hk, rfl, rfl⟩ := hrel
    have hp := sumPc_le ws k
    by_cases hlt : k < ws.length
    · have c := Hc.out k hlt
      have hx := Hl.out k
      have Hp := Lib.hid (sumPc_succ ws k)
      generalize ws.getD k 0 = x at *
      have hp2 := sumPc_le ws (k + 1)
      have hq : pc 64 x ≤ 64 * 17 := by have := Hp.out; omega
      go_wp2_with (go_at_call 26; refine (ones x hx _).mono ?_; rintro e w' ⟨rfl, rfl⟩)
      go_round
      case rel => exact ⟨k + 1, by omega, by go_num, by rw [Hp.out]; exact congrArg (Value.int .i64) (by omega)⟩
      case measure => simp [intOf]; omega
    · obtain rfl : k = ws.length := by omega
      go_wp2
      go_ret
      refine ⟨?_, rfl⟩
      show Ending.returned (Value.int IntKind.i64 ((bs.length : Int) - (sumPc ws ws.length : Int))) = _
      rw [Hs.out]
      exact congrArg (fun z => Ending.returned (Value.int IntKind.i64 z)) (by omega)

/-! ### Take -/
theorem u64_max : IntKind.u64.max = 18446744073709551615 := by decide
def takeN (bs : List Bool) : Int := match free bs with | some n => n | none => 0
def takeE (bs : List Bool) : Int := match free bs with | some _ => 0 | none => 2
def takeB (bs : List Bool) : List Bool := match free bs with | some n => flipB bs n | none => bs
theorem take_nil (w : World) :
    Calls Try.prog 15 #[.pointer none] w fun e w' => e = .returned (.tuple #[.int .i64 0, .int .i64 1]) ∧ w = w' := by
  go_enter Try.func15, Try.ntmps15
  go_wp2
  go_ret2
  exact ⟨rfl, rfl⟩
theorem step_full {ws : List Nat} {bs : List Bool} (h : Rel ws bs) (k : Nat) (hk : ∀ m, m < 64 * k → m < bs.length → bs.getD m false = true) (d : Nat)
    (hd : ∀ i, i < d → (ws.getD k 0).testBit (63 - i) = true) (hd2 : d = 64 ∨ bs.length ≤ 64 * k + d) : ∀ m, m < 64 * (k + 1) → m < bs.length → bs.getD m false = true := by
  intro m hm hl
  by_cases h1 : m < 64 * k
  · exact hk m h1 hl
  · rw [← h.bit m]
    unfold bitAt
    rw [show m / 64 = k by omega]
    exact hd (m % 64) (by omega)
theorem step_found {ws : List Nat} {bs : List Bool} (h : Rel ws bs) (k d : Nat) (hk : ∀ m, m < 64 * k → m < bs.length → bs.getD m false = true) (hd64 : d < 64)
    (hd : ∀ i, i < d → (ws.getD k 0).testBit (63 - i) = true) (hz : (ws.getD k 0).testBit (63 - d) = false) (hn : 64 * k + d < bs.length) : free bs = some (64 * k + d) := by
  refine free_of bs _ hn ?_ (fun m hm => ?_)
  · rw [← h.bit]
    unfold bitAt
    rw [show (64 * k + d) / 64 = k by omega, show (64 * k + d) % 64 = d by omega]
    exact hz
  · by_cases h1 : m < 64 * k
    · exact hk m h1 (by omega)
    · rw [← h.bit]
      unfold bitAt
      rw [show m / 64 = k by omega]
      exact hd (m % 64) (by omega)
set_option maxHeartbeats 1600000 in
theorem take_at (g b : Nat) (bs : List Bool) (w : World) (h : Map w g b bs) :
    Calls Try.prog 15 #[.pointer (some ⟨g, 0, none⟩)] w fun e w' => e = .returned (.tuple #[.int .i64 (takeN bs), .int .i64 (takeE bs)]) ∧ Map w' g b (takeB bs) ∧ Fr (fun k => k = b) w w' := by
  obtain ⟨cap, ws, ha⟩ := h
  have Ha := Lib.hid ha
  have c0 := ha.c0
  have c1 := ha.c1
  obtain ⟨hl, hl2⟩ := ha.len
  have hm := ha.most
  have hcw : ∀ k, k < ws.length → w.cell? ⟨b, k, none⟩ = some (.int .u64 ((ws.getD k 0 : Nat) : Int)) := ha.cw
  have hlt := getD_lt ha.rel.lt
  have Hc := Lib.hid hcw
  have Hl := Lib.hid hlt
  have He := Lib.hid hl
  clear hcw hlt hl ha
  go_enter Try.func15, Try.ntmps15
  go_wp2
  go_loop [14] (fun i => ∃ k : Nat, k ≤ ws.length ∧ i = .int .i64 k ∧ Hid (∀ m, m < 64 * k → m < bs.length → bs.getD m false = true)) (fun i => ws.length - (intOf i).toNat)
  case atStart => exact ⟨0, Nat.zero_le _, rfl, Lib.hid (fun m hm => by omega)⟩
  case round =>
    obtain ⟨k, hk, rfl, Hk⟩ := hrel
    by_cases hlt : k < ws.length
    · have c := Hc.out k hlt
      have hx := Hl.out k
      have hf0 := step_full Ha.out.rel k Hk.out
      have hf1 := step_found Ha.out.rel k
      generalize ws.getD k 0 = x at *
      have hxor : bits .xor .u64 IntKind.u64.max (x : Int) = ((inv x : Nat) : Int) := by
        rw [u64_max]
        have := w64_xor 18446744073709551615 x (by decide) hx
        rw [inv_xor x hx] at this
        exact this
      have hlz := fun W => zeros64 (inv x) (inv_lt x) W
      have fz := first_zero x hx
      have ao := all_ones x hx
      have hle : Lib.bitLen (inv x) ≤ 64 := Lib.bitLen_le _ 64 (by omega) (inv_lt x)
      generalize hd : 64 - Lib.bitLen (inv x) = d at *
      have hd64 : d ≤ 64 := by omega
      by_cases hy : inv x = 0
      · have Hf := Lib.hid (hf0 64 (fun i hi => ao hy _ (by omega)) (.inl rfl))
        have Hz := Lib.hid hlz
        rw [hy] at hxor
        have Hz2 : Hid (∀ W, Calls Try.prog 28 #[.int .u64 0] W fun e w' => e = .returned (.int .i64 (d : Int)) ∧ w' = W) := by
          have := Hz.out
          rw [hy] at this
          exact Lib.hid this
        clear hf0 hf1 hlz fz ao hd hle hy Hz
        go_wp2_with (go_at_call 28; refine (Hz2.out _).mono ?_; rintro e w' ⟨rfl, rfl⟩)
        go_round
        case rel => exact ⟨k + 1, by omega, by go_num, Hf⟩
        case measure => simp [intOf]; omega
      · obtain ⟨fz1, fz2, fz3⟩ := fz hy
        have b1 : (((inv x : Nat) : Int) != 0) = true := by rw [bne_iff_ne]; omega
        have b2 : (((inv x : Nat) : Int) == 0) = false := beq_eq_false_iff_ne.2 (by omega)
        by_cases hn : 64 * k + d < bs.length
        · have hfr := hf1 d Hk.out fz1 fz3 fz2 hn
          have Hz := Lib.hid hlz
          have e1 : takeN bs = ((64 * k + d : Nat) : Int) := by simp [takeN, hfr]
          have e2 : takeE bs = 0 := by simp [takeE, hfr]
          have e3 : takeB bs = flipB bs (64 * k + d) := by simp [takeB, hfr]
          have E1 := Lib.hid e1
          have E2 := Lib.hid e2
          have E3 := Lib.hid e3
          have hlt2 : (k : Int) * 64 + d < bs.length := by omega
          clear hf0 hf1 hlz fz ao hd hle hfr e1 e2 e3 fz2 fz3
          generalize inv x = y at *
          go_wp2_with (first | (go_at_call 28; refine (Hz.out _).mono ?_; rintro e w' ⟨rfl, rfl⟩) | (go_at_call 27; refine (turn_at _ _ _ _ _ ⟨cap, ws, Ha.out⟩ (by omega) hlt2).mono ?_; rintro e w' ⟨rfl, hm', hf'⟩))
          go_ret2
          rw [E1.out, E2.out, E3.out]
          have e5 : ((k : Int) * 64 + (d : Int)).toNat = 64 * k + d := by omega
          rw [e5] at hm'
          refine ⟨?_, hm', hf'⟩
          show Ending.returned (Value.tuple #[.int .i64 ((k : Int) * 64 + (d : Int)), .int .i64 0]) = _
          exact congrArg (fun z => Ending.returned (Value.tuple #[.int .i64 z, .int .i64 0])) (by omega)
        · have Hf := Lib.hid (hf0 d fz3 (.inr (by omega)))
          have Hz := Lib.hid hlz
          have hge : ¬ ((k : Int) * 64 + d < bs.length) := by omega
          have hge2 : decide ((k : Int) * 64 + d < bs.length) = false := decide_eq_false hge
          clear hf0 hf1 hlz fz ao hd hle fz2 fz3 hge
          generalize inv x = y at *
          go_wp2_with (go_at_call 28; refine (Hz.out _).mono ?_; rintro e w' ⟨rfl, rfl⟩)
          go_round
          case rel => exact ⟨k + 1, by omega, by go_num, Hf⟩
          case measure => simp [intOf]; omega
    · obtain rfl : k = ws.length := by omega
      have hfr : free bs = none := free_none bs (fun m hm => Hk.out m (by have := He.out; omega) hm)
      have e1 : takeN bs = 0 := by simp [takeN, hfr]
      have e2 : takeE bs = 2 := by simp [takeE, hfr]
      have e3 : takeB bs = bs := by simp [takeB, hfr]
      have E1 := Lib.hid e1
      have E2 := Lib.hid e2
      have E3 := Lib.hid e3
      clear e1 e2 e3 hfr
      go_wp2
      go_ret2
      rw [E1.out, E2.out, E3.out]
      exact ⟨rfl, ⟨cap, ws, Ha.out⟩, Fr.refl _ _⟩
end Go.Proofs.Ythnahdoagibckaa.Fs05
