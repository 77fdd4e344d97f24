/- Lists of whole numbers held against each other. -/
import Derived.Test.YtifpigcgkpmheaaGa
import Derived.Test.YtifpigcgkpmheaaGb
import Derived.Deep.QuietTactic
import Derived.StillTailTactics
namespace Go.Proofs.Ytifpigcgkpmheaa.In
open Go.RowKit Go.Proofs.Ytifpigcgkpmheaa.Base Go.Proofs.Ytifpigcgkpmheaa.App Go.Proofs.Ytifpigcgkpmheaa.Ky Go.Proofs.Ytifpigcgkpmheaa.Iv Go.Proofs.Ytifpigcgkpmheaa.Bx Go.Proofs.Ytifpigcgkpmheaa.Kk Go.Proofs.Ytifpigcgkpmheaa.Bo
set_option linter.unusedVariables false
set_option linter.unusedSimpArgs false
section
variable {w : World} {A B : Option Addr} {n cn m cm : Nat} {xs ys : List Int}
/-- Two lists of numbers, held against each other. -/
theorem ints_any (ha : Iv w A n cn xs) (hb : Iv w B m cm ys) :
    Calls Try.prog 13 #[.slice A n cn, .slice B m cm] w fun e w' => e = .returned (.bool (decide (xs = ys))) ∧ Fr No w w' := by
  have hl1 := ha.len
  have hl2 := hb.len
  have hmx : maxLen ≤ 9223372036854775807 := by decide
  have c1 := ha.cap
  have c2 := ha.most
  have c3 := hb.cap
  have c4 := hb.most
  have Ha := Lib.hid ha
  have Hb := Lib.hid hb
  clear ha hb
  by_cases he : n = m
  · subst he
    have L1 := Lib.hid hl1
    have L2 := Lib.hid hl2
    clear hl1 hl2
    go_enter Try.func13, Try.ntmps13
    go_wp2
    go_loopw [5] (fun v wr => ∃ i : Nat, i ≤ n ∧ v = .int .i64 i ∧ Hid ((∀ j, j < i → xs.getD j 0 = ys.getD j 0) ∧ Fr No w wr)) (fun v _ => n - (intOf v).toNat)
    case atStart => exact ⟨0, Nat.zero_le _, rfl, Lib.hid ⟨fun j hj => by omega, Fr.refl _ _⟩⟩
    case round =>
      obtain ⟨i, hi, rfl, Hi⟩ := hrel
      by_cases hlt : i < n
      · obtain ⟨ga, oa, rfl, ca⟩ := (Ha.out.no Hi.out.2).get i (by rw [← L1.out]; exact hlt)
        obtain ⟨gb, ob, rfl, cb⟩ := (Hb.out.no Hi.out.2).get i (by rw [← L2.out]; exact hlt)
        generalize hx : xs.getD i 0 = x at *
        generalize hy : ys.getD i 0 = y at *
        by_cases hxy : x = y
        · subst hxy
          have Hx := Lib.hid hx
          have Hy := Lib.hid hy
          clear hx hy
          go_wp2
          go_quiet (fail)
          go_wp2
          go_roundw
          case rel => exact ⟨i + 1, by omega, by go_num, Lib.hid ⟨fun j hj => by
            by_cases e : j = i
            · subst e; rw [Hx.out, Hy.out]
            · exact Hi.out.1 j (by omega), Hi.out.2.drewN _⟩⟩
          case measure => simp [intOf]; omega
        · have E := Lib.hid (show decide (xs = ys) = false from decide_eq_false (fun e => hxy (by rw [← hx, ← hy, e])))
          have hb1 : (x == y) = false := beq_eq_false_iff_ne.2 hxy
          clear hx hy hxy
          go_wp2
          go_quiet (fail)
          go_wp2
          go_ret
          exact ⟨by rw [E.out]; rfl, Hi.out.2.drewN _⟩
      · obtain rfl : i = n := by omega
        have E := Lib.hid (show decide (xs = ys) = true from decide_eq_true (by
          apply List.ext_getElem
          · rw [← L1.out, ← L2.out]
          · intro j h1 h2
            have := Hi.out.1 j (by rw [L1.out]; exact h1)
            simpa [List.getD_eq_getElem?_getD, h1, h2] using this))
        go_wp2
        go_ret
        exact ⟨by rw [E.out]; rfl, Hi.out.2⟩
  · have E := Lib.hid (show decide (xs = ys) = false from decide_eq_false (fun e => he (by rw [hl1, hl2, e])))
    have hb1 : (n == m) = false := beq_eq_false_iff_ne.2 he
    rw [E.out]
    clear hl1 hl2 he
    go_enter Try.func13, Try.ntmps13
    go_wp2
    go_ret
    exact ⟨rfl, Fr.refl _ _⟩
end
end Go.Proofs.Ytifpigcgkpmheaa.In
