/- Layer 8's laws: short. -/
import Derived.Test.YthiolmdmdmimeaaKq08
namespace Go.Proofs.Ythiolmdmdmimeaa.Ks08
open Go.RowKit Go.Proofs.Ythiolmdmdmimeaa.Pk08 Go.Proofs.Ythiolmdmdmimeaa.Base Go.Proofs.Ythiolmdmdmimeaa.App Go.Proofs.Ythiolmdmdmimeaa.Str Go.Proofs.Ythiolmdmdmimeaa.Ky
set_option linter.unusedVariables false
set_option linter.unusedSimpArgs false
def lens (vs : List (Option Addr × Nat × Nat)) (i : Nat) : Nat := (vs.getD i (none, 0, 0)).2.1
def allS (vs : List (Option Addr × Nat × Nat)) : Bool := vs.all (fun v => decide (v.2.1 ≤ 20))
theorem short_any (g : Nat) (vs : List (Option Addr × Nat × Nat)) (c : Nat) (w : World) (hl : vs.length ≤ 100)
    (hc : ∀ i, i < vs.length → w.cell? ⟨g, i, none⟩ = some (.slice (vs.getD i (none, 0, 0)).1 (vs.getD i (none, 0, 0)).2.1 (vs.getD i (none, 0, 0)).2.2)) :
    Calls Try.prog 10 #[.slice (some ⟨g, 0, none⟩) vs.length c] w fun e w' => e = .returned (.bool (allS vs)) ∧ w = w' := by
  have Hc := Lib.hid hc
  clear hc
  generalize hn : vs.length = n at *
  have Hn := Lib.hid hn
  clear hn
  go_enter Try.func10, Try.ntmps10
  go_wp2
  go_loop [3] (fun v => ∃ i : Nat, i ≤ n ∧ v = .int .i64 i ∧ Hid (∀ j, j < i → (vs.getD j (none, 0, 0)).2.1 ≤ 20)) (fun v => n - (intOf v).toNat)
  case atStart => exact ⟨0, Nat.zero_le _, rfl, Lib.hid (fun j hj => by omega)⟩
  case round =>
    obtain ⟨i, hi, rfl, Hi⟩ := hrel
    by_cases hlt : i < n
    · have ci := Hc.out i hlt
      generalize hv : vs.getD i (none, 0, 0) = v at *
      obtain ⟨A, m, d⟩ := v
      have Hv := Lib.hid hv
      clear hv
      by_cases h20 : m ≤ 20
      · go_wp2
        go_round
        case rel => exact ⟨i + 1, by omega, by go_num, Lib.hid (fun j hj => by
          by_cases e : j = i
          · subst e; rw [Hv.out]; exact h20
          · exact Hi.out j (by omega))⟩
        case measure => simp [intOf]; omega
      · go_wp2
        go_ret
        have e : allS vs = false := by
          unfold allS
          rw [List.all_eq_false]
          refine ⟨vs.getD i (none, 0, 0), ?_, by rw [Hv.out]; simpa using h20⟩
          have hi' : i < vs.length := by rw [Hn.out]; exact hlt
          rw [List.getD_eq_getElem?_getD, List.getElem?_eq_getElem hi']
          exact List.getElem_mem hi'
        rw [e]
        exact ⟨rfl, rfl⟩
    · go_wp2
      go_ret
      have e : allS vs = true := by
        unfold allS
        rw [List.all_eq_true]
        intro x hx
        obtain ⟨j, hj, rfl⟩ := List.mem_iff_getElem.1 hx
        have := Hi.out j (by rw [Hn.out] at hj; omega)
        rw [List.getD_eq_getElem?_getD, List.getElem?_eq_getElem hj] at this
        simpa using this
      rw [e]
      exact ⟨rfl, rfl⟩
end Go.Proofs.Ythiolmdmdmimeaa.Ks08
