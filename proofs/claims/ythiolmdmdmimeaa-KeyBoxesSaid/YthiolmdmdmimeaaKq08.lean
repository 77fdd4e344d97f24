/- Layer 8, further: Partial that may not be: its first guard. -/
import Derived.Test.YthiolmdmdmimeaaKp08
import Derived.Test.YthiolmdmdmimeaaPq08
import Derived.Test.YthiolmdmdmimeaaIv
namespace Go.Proofs.Ythiolmdmdmimeaa.Kq08
open Go.RowKit Go.Proofs.Ythiolmdmdmimeaa.Pk08 Go.Proofs.Ythiolmdmdmimeaa.Pq08 Go.Proofs.Ythiolmdmdmimeaa.Base Go.Proofs.Ythiolmdmdmimeaa.App Go.Proofs.Ythiolmdmdmimeaa.Str Go.Proofs.Ythiolmdmdmimeaa.Ky Go.Proofs.Ythiolmdmdmimeaa.Kc08 Go.Proofs.Ythiolmdmdmimeaa.Kd08 Go.Proofs.Ythiolmdmdmimeaa.Ke08 Go.Proofs.Ythiolmdmdmimeaa.Ki08 Go.Proofs.Ythiolmdmdmimeaa.Kj08 Go.Proofs.Ythiolmdmdmimeaa.Kn08 Go.Proofs.Ythiolmdmdmimeaa.Ko08
set_option linter.unusedVariables false
set_option linter.unusedSimpArgs false
theorem partial_bad (d : Int) (A B : Option Addr) (n cn m cm : Nat) (h : ¬ (1 ≤ d ∧ d ≤ 6 ∧ n = m)) (w : World) :
    Calls Try.prog 25 #[.int .i64 d, .slice A n cn, .slice B m cm] w fun e w' => e = .returned (.tuple #[.agg #[.slice none 0 0, .slice none 0 0], .int .i64 1]) ∧ Fr No w w' := by
  have hO := Ob.new w #[.slice none 0 0, .slice none 0 0] 33
  have q0 := hO.cell 0 (v := .slice none 0 0) rfl
  have q1 := hO.cell 1 (v := .slice none 0 0) rfl
  by_cases hd0 : 1 ≤ d ∧ d ≤ 6
  · have hd : decide (1 ≤ d ∧ d ≤ 6) = true := decide_eq_true hd0
    have hn : ((n : Int) != m) = true := bne_iff_ne.2 (fun x => h ⟨hd0.1, hd0.2, by omega⟩)
    clear h hd0
    go_enter Try.func25, Try.ntmps25
    go_wp2_with (go_at_call 30; ((with_reducible refine (isDim_any _ _).mono ?_); rintro e w' ⟨rfl, rfl⟩; rw [hd]))
    refine bodyPost_ret (v := .tuple #[.agg #[.slice none 0 0, .slice none 0 0], .int .i64 1]) (by simp [results, Try.results25, go_sem, q0, q1]) rfl ?_
    exact ⟨rfl, (Fr.refl No w).alloc _⟩
  · have hd : decide (1 ≤ d ∧ d ≤ 6) = false := decide_eq_false hd0
    clear h hd0
    go_enter Try.func25, Try.ntmps25
    go_wp2_with (go_at_call 30; ((with_reducible refine (isDim_any _ _).mono ?_); rintro e w' ⟨rfl, rfl⟩; rw [hd]))
    refine bodyPost_ret (v := .tuple #[.agg #[.slice none 0 0, .slice none 0 0], .int .i64 1]) (by simp [results, Try.results25, go_sem, q0, q1]) rfl ?_
    exact ⟨rfl, (Fr.refl No w).alloc _⟩
end Go.Proofs.Ythiolmdmdmimeaa.Kq08
