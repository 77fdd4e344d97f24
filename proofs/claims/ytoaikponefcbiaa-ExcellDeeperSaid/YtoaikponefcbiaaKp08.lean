/- Layer 8, further: Whole of any number; short. -/
import Derived.Test.YtoaikponefcbiaaKo08
namespace Go.Proofs.Ytoaikponefcbiaa.Kp08
open Go.RowKit Go.Proofs.Ytoaikponefcbiaa.Pk08 Go.Proofs.Ytoaikponefcbiaa.Base Go.Proofs.Ytoaikponefcbiaa.App Go.Proofs.Ytoaikponefcbiaa.Str Go.Proofs.Ytoaikponefcbiaa.Ky Go.Proofs.Ytoaikponefcbiaa.Kc08 Go.Proofs.Ytoaikponefcbiaa.Kd08 Go.Proofs.Ytoaikponefcbiaa.Ke08 Go.Proofs.Ytoaikponefcbiaa.Ki08 Go.Proofs.Ytoaikponefcbiaa.Kj08 Go.Proofs.Ytoaikponefcbiaa.Kn08 Go.Proofs.Ytoaikponefcbiaa.Ko08
set_option linter.unusedVariables false
set_option linter.unusedSimpArgs false
theorem whole_bad (d : Int) (h : ¬ (1 ≤ d ∧ d ≤ 6)) (w : World) :
    Calls Try.prog 25 #[.int .i64 d] w fun e w' => e = .returned (.agg #[.slice none 0 0, .slice none 0 0]) ∧ Fr No w w' := by
  have hd : decide (1 ≤ d ∧ d ≤ 6) = false := decide_eq_false h
  have hO := Ob.new w #[.slice none 0 0, .slice none 0 0] 28
  have q0 := hO.cell 0 (v := .slice none 0 0) rfl
  have q1 := hO.cell 1 (v := .slice none 0 0) rfl
  clear h
  go_enter Try.func25, Try.ntmps25
  go_wp2_with (go_at_call 37; ((with_reducible refine (isDim_any _ _).mono ?_); rintro e w' ⟨rfl, rfl⟩; rw [hd]))
  refine bodyPost_ret (v := .agg #[.slice none 0 0, .slice none 0 0]) (by simp [results, Try.results25, go_sem, q0, q1]) rfl ?_
  exact ⟨rfl, (Fr.refl No w).alloc _⟩
end Go.Proofs.Ytoaikponefcbiaa.Kp08
