/- Layer 16: the address of a point; the cell beside one; lists of numbers held against each other. -/
import Derived.Test.YtoaikponefcbiaaHf16
import Derived.Test.YtoaikponefcbiaaIv
import Derived.Test.YtoaikponefcbiaaKg08
namespace Go.Proofs.Ytoaikponefcbiaa.Hg16
open Go.RowKit Go.Proofs.Ytoaikponefcbiaa.Pk08 Go.Proofs.Ytoaikponefcbiaa.Base Go.Proofs.Ytoaikponefcbiaa.App Go.Proofs.Ytoaikponefcbiaa.Ky Go.Proofs.Ytoaikponefcbiaa.Iv Go.Proofs.Ytoaikponefcbiaa.Bx Go.Proofs.Ytoaikponefcbiaa.Kk Go.Proofs.Ytoaikponefcbiaa.Bo Go.Proofs.Ytoaikponefcbiaa.Cl Go.Proofs.Ytoaikponefcbiaa.Pl08 Go.Proofs.Ytoaikponefcbiaa.Kc08 Go.Proofs.Ytoaikponefcbiaa.Kf08 Go.Proofs.Ytoaikponefcbiaa.Kg08 Go.Proofs.Ytoaikponefcbiaa.Kj08 Go.Proofs.Ytoaikponefcbiaa.Ka08 Go.Proofs.Ytoaikponefcbiaa.Px16 Go.Proofs.Ytoaikponefcbiaa.Py16 Go.Proofs.Ytoaikponefcbiaa.Ha16 Go.Proofs.Ytoaikponefcbiaa.Hb16 Go.Proofs.Ytoaikponefcbiaa.Hc16 Go.Proofs.Ytoaikponefcbiaa.Hd16 Go.Proofs.Ytoaikponefcbiaa.He16 Go.Proofs.Ytoaikponefcbiaa.Hf16
set_option linter.unusedVariables false
set_option linter.unusedSimpArgs false
def fdOk (l : Nat) (n : Int) : Bool := decide (0 ≤ n ∧ n ≤ 12 ∧ 1 ≤ l ∧ l ≤ 6)
def fdV (k : List Nat) (n : Int) : Int := if fdOk k.length n = true then ((bitsK k n.toNat : Nat) : Int) else 0
def fdE (k : List Nat) (n : Int) : Int := if fdOk k.length n = true then 0 else 1
theorem wf_i64 {m : Int} (h : -9223372036854775808 ≤ m ∧ m ≤ 9223372036854775807) : (Lit.int .i64 m).wf = true := by
  show (decide (IntKind.i64.min ≤ m) && decide (m ≤ IntKind.i64.max)) = true
  rw [show IntKind.i64.min = -9223372036854775808 from by decide, show IntKind.i64.max = 9223372036854775807 from by decide, Bool.and_eq_true, decide_eq_true_eq, decide_eq_true_eq]
  exact h
section
variable {w : World} {A B : Option Addr} {n cn m cm : Nat} {k : List Nat} {xs ys : List Int}
theorem find_any (t : Int) (hk : Kv w A n cn k) :
    Calls Try.prog 12 #[.slice A n cn, .int .i64 t] w fun e w' => e = .returned (.tuple #[.int .i64 (fdV k t), .int .i64 (fdE k t)]) ∧ w = w' := by
  have hl := hk.len
  have hmx : maxLen ≤ 9223372036854775807 := by decide
  have hc := hk.cap
  have hm := hk.most
  cases hd : dpB t with
  | false =>
    have D := Lib.hid hd
    have hno : fdOk k.length t = false := by
      have := of_decide_eq_false hd
      exact decide_eq_false (fun x => this ⟨x.1, x.2.1⟩)
    have E1 := Lib.hid (show fdV k t = 0 by unfold fdV; rw [hno]; rfl)
    have E2 := Lib.hid (show fdE k t = 1 by unfold fdE; rw [hno]; rfl)
    rw [E1.out, E2.out]
    clear hd hno hl
    go_enter Try.func12, Try.ntmps12
    go_wp2_with (go_at_call 29; ((with_reducible refine (isDepth_any _ _).mono ?_); rintro e w1 ⟨rfl, rfl⟩; rw [D.out]))
    go_ret2
    exact ⟨rfl, rfl⟩
  | true =>
    have D := Lib.hid hd
    obtain ⟨t0, t1⟩ := of_decide_eq_true hd
    obtain ⟨u, rfl⟩ := Int.eq_ofNat_of_zero_le t0
    clear hd
    by_cases hn : 1 ≤ n ∧ n ≤ 6
    · have hyes : fdOk k.length (u : Int) = true := decide_eq_true ⟨by omega, by omega, by omega, by omega⟩
      have E1 := Lib.hid (show fdV k (u : Int) = ((bitsK k u : Nat) : Int) by unfold fdV; rw [hyes, Int.toNat_natCast]; rfl)
      have E2 := Lib.hid (show fdE k (u : Int) = 0 by unfold fdE; rw [hyes]; rfl)
      rw [E1.out, E2.out]
      have ho : bitsOk k.length (u : Int) := ⟨by omega, by omega, by omega, by omega, by omega⟩
      have Ho := Lib.hid ho
      clear ho hyes hl
      go_enter Try.func12, Try.ntmps12
      go_wp2_with (first
        | (go_at_call 29; ((with_reducible refine (isDepth_any _ _).mono ?_); rintro e w1 ⟨rfl, rfl⟩; rw [D.out]))
        | (go_at_call 30; ((with_reducible refine (bits_ok u hk Ho.out).mono ?_); rintro e w1 ⟨rfl, rfl⟩))
        | fail)
      go_ret2
      exact ⟨rfl, rfl⟩
    · have hno : fdOk k.length (u : Int) = false := decide_eq_false (fun x => hn ⟨by omega, by omega⟩)
      have E1 := Lib.hid (show fdV k (u : Int) = 0 by unfold fdV; rw [hno]; rfl)
      have E2 := Lib.hid (show fdE k (u : Int) = 1 by unfold fdE; rw [hno]; rfl)
      rw [E1.out, E2.out]
      have Ho := Lib.hid (show ¬ bitsOk n (u : Int) from fun x => hn ⟨x.1, x.2.1⟩)
      have Hw := Lib.hid (show (Lit.int .i64 (u : Int)).wf = true from wf_i64 (by omega))
      have Hn := Lib.hid (show n ≤ 9223372036854775807 by omega)
      clear hno hl hn
      go_enter Try.func12, Try.ntmps12
      go_wp2_with (first
        | (go_at_call 29; ((with_reducible refine (isDepth_any _ _).mono ?_); rintro e w1 ⟨rfl, rfl⟩; rw [D.out]))
        | (go_at_call 30; ((with_reducible refine (bits_bad (u : Int) Ho.out Hn.out Hw.out).mono ?_); rintro e w1 ⟨rfl, rfl⟩))
        | fail)
      go_ret2
      exact ⟨rfl, rfl⟩
theorem rfind_any (t : Int) (hk : Kv w A n cn k) :
    Calls Try.prog 13 #[.slice A n cn, .int .i64 t] w fun e w' => e = .returned (.tuple #[.int .i64 (fdV k t), .int .i64 (fdE k t)]) ∧ Fr No w w' := by
  have hl := hk.len
  have hmx : maxLen ≤ 9223372036854775807 := by decide
  have hc := hk.cap
  have hm := hk.most
  by_cases hn : 1 ≤ n ∧ n ≤ 6
  · have C := Lib.hid (show chk n (n : Int) = 0 by unfold chk; rw [if_pos ⟨by omega, by omega, rfl⟩])
    by_cases ht : 0 ≤ t ∧ t ≤ 12
    · obtain ⟨t0, t1⟩ := ht
      obtain ⟨u, rfl⟩ := Int.eq_ofNat_of_zero_le t0
      have hyes : fdOk k.length (u : Int) = true := decide_eq_true ⟨by omega, by omega, by omega, by omega⟩
      have E1 := Lib.hid (show fdV k (u : Int) = ((bitsK k u : Nat) : Int) by unfold fdV; rw [hyes, Int.toNat_natCast]; rfl)
      have E2 := Lib.hid (show fdE k (u : Int) = 0 by unfold fdE; rw [hyes]; rfl)
      rw [E1.out, E2.out]
      have ho : bitsOk k.length (u : Int) := ⟨by omega, by omega, by omega, by omega, by omega⟩
      have Ho := Lib.hid ho
      clear ho hyes hl hn
      go_enter Try.func13, Try.ntmps13
      go_wp2_with (first
        | (go_at_call 21; ((with_reducible refine (rcheck_any _ _ _ _ _).mono ?_); rintro e w1 ⟨rfl, rfl⟩; rw [C.out]))
        | (go_at_call 31; ((with_reducible refine (rbits_ok u hk Ho.out).mono ?_); rintro e w1 ⟨rfl, hf1⟩))
        | fail)
      go_ret2
      exact ⟨rfl, by (repeat (first | with_reducible exact Fr.refl _ _ | with_reducible refine Fr.setCell ?_ (.inr (by first | (simp; done) | (simp; omega))) _ | with_reducible refine Fr.alloc ?_ _ | with_reducible refine Fr.drew ?_ | with_reducible refine Fr.drewN ?_ _ | with_reducible refine Fr.tr ?_ (by assumption)))⟩
    · have hno : fdOk k.length t = false := decide_eq_false (fun x => ht ⟨x.1, x.2.1⟩)
      have E1 := Lib.hid (show fdV k t = 0 by unfold fdV; rw [hno]; rfl)
      have E2 := Lib.hid (show fdE k t = 1 by unfold fdE; rw [hno]; rfl)
      rw [E1.out, E2.out]
      have h3 : t < 0 ∨ (0 ≤ t ∧ 12 < t) := by omega
      clear hno hl hn ht
      rcases h3 with h3 | ⟨h3, h4⟩
      all_goals
        go_enter Try.func13, Try.ntmps13
        go_wp2_with (go_at_call 21; ((with_reducible refine (rcheck_any _ _ _ _ _).mono ?_); rintro e w1 ⟨rfl, rfl⟩; rw [C.out]))
        go_ret2
        exact ⟨rfl, by (repeat (first | with_reducible exact Fr.refl _ _ | with_reducible refine Fr.setCell ?_ (.inr (by first | (simp; done) | (simp; omega))) _ | with_reducible refine Fr.alloc ?_ _ | with_reducible refine Fr.drew ?_ | with_reducible refine Fr.drewN ?_ _ | with_reducible refine Fr.tr ?_ (by assumption)))⟩
  · have C := Lib.hid (show chk n (n : Int) = 1 by unfold chk; rw [if_neg (fun x => hn ⟨by omega, by omega⟩)])
    have hno : fdOk k.length t = false := decide_eq_false (fun x => hn ⟨by omega, by omega⟩)
    have E1 := Lib.hid (show fdV k t = 0 by unfold fdV; rw [hno]; rfl)
    have E2 := Lib.hid (show fdE k t = 1 by unfold fdE; rw [hno]; rfl)
    rw [E1.out, E2.out]
    clear hno hl hn
    go_enter Try.func13, Try.ntmps13
    go_wp2_with (go_at_call 21; ((with_reducible refine (rcheck_any _ _ _ _ _).mono ?_); rintro e w1 ⟨rfl, rfl⟩; rw [C.out]))
    go_ret2
    exact ⟨rfl, by (repeat (first | with_reducible exact Fr.refl _ _ | with_reducible refine Fr.setCell ?_ (.inr (by first | (simp; done) | (simp; omega))) _ | with_reducible refine Fr.alloc ?_ _ | with_reducible refine Fr.drew ?_ | with_reducible refine Fr.drewN ?_ _ | with_reducible refine Fr.tr ?_ (by assumption)))⟩
/-- Two lists of numbers, held against each other. -/
theorem ints_any (ha : Iv w A n cn xs) (hb : Iv w B m cm ys) :
    Calls Try.prog 19 #[.slice A n cn, .slice B m cm] w fun e w' => e = .returned (.bool (decide (xs = ys))) ∧ Fr No w w' := by
  have hl1 := ha.len
  have hl2 := hb.len
  have hmx : maxLen ≤ 9223372036854775807 := by decide
  have c1 := ha.cap
  have c2 := ha.most
  have c3 := hb.cap
  have c4 := hb.most
  have Ha := Lib.hid ha
  have Hb := Lib.hid hb
  clear ha hb
  by_cases he : n = m
  · subst he
    have L1 := Lib.hid hl1
    have L2 := Lib.hid hl2
    clear hl1 hl2
    go_enter Try.func19, Try.ntmps19
    go_wp2
    go_loopw [5] (fun v wr => ∃ i : Nat, i ≤ n ∧ v = .int .i64 i ∧ Hid ((∀ j, j < i → xs.getD j 0 = ys.getD j 0) ∧ Fr No w wr)) (fun v _ => n - (intOf v).toNat)
    case atStart => exact ⟨0, Nat.zero_le _, rfl, Lib.hid ⟨fun j hj => by omega, Fr.refl _ _⟩⟩
    case round =>
      obtain ⟨i, hi, rfl, Hi⟩ := hrel
      by_cases hlt : i < n
      · obtain ⟨ga, oa, rfl, ca⟩ := (Ha.out.no Hi.out.2).get i (by rw [← L1.out]; exact hlt)
        obtain ⟨gb, ob, rfl, cb⟩ := (Hb.out.no Hi.out.2).get i (by rw [← L2.out]; exact hlt)
        generalize hx : xs.getD i 0 = x at *
        generalize hy : ys.getD i 0 = y at *
        by_cases hxy : x = y
        · subst hxy
          have Hx := Lib.hid hx
          have Hy := Lib.hid hy
          clear hx hy
          go_wp2
          go_quiet (fail)
          go_wp2
          go_roundw
          case rel => exact ⟨i + 1, by omega, by go_num, Lib.hid ⟨fun j hj => by
            by_cases e : j = i
            · subst e; rw [Hx.out, Hy.out]
            · exact Hi.out.1 j (by omega), Hi.out.2.drewN _⟩⟩
          case measure => simp [intOf]; omega
        · have E := Lib.hid (show decide (xs = ys) = false from decide_eq_false (fun e => hxy (by rw [← hx, ← hy, e])))
          have hb1 : (x == y) = false := beq_eq_false_iff_ne.2 hxy
          clear hx hy hxy
          go_wp2
          go_quiet (fail)
          go_wp2
          go_ret
          exact ⟨by rw [E.out]; rfl, Hi.out.2.drewN _⟩
      · obtain rfl : i = n := by omega
        have E := Lib.hid (show decide (xs = ys) = true from decide_eq_true (by
          apply List.ext_getElem
          · rw [← L1.out, ← L2.out]
          · intro j h1 h2
            have := Hi.out.1 j (by rw [L1.out]; exact h1)
            simpa [List.getD_eq_getElem?_getD, h1, h2] using this))
        go_wp2
        go_ret
        exact ⟨by rw [E.out]; rfl, Hi.out.2⟩
  · have E := Lib.hid (show decide (xs = ys) = false from decide_eq_false (fun e => he (by rw [hl1, hl2, e])))
    have hb1 : (n == m) = false := beq_eq_false_iff_ne.2 he
    rw [E.out]
    clear hl1 hl2 he
    go_enter Try.func19, Try.ntmps19
    go_wp2
    go_ret
    exact ⟨rfl, Fr.refl _ _⟩
end
end Go.Proofs.Ytoaikponefcbiaa.Hg16
