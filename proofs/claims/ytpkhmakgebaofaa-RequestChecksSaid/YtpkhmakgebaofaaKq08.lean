/- Layer 8, further: Partial that may not be: its first guard. -/
import Derived.Test.YtpkhmakgebaofaaKp08
import Derived.Test.YtpkhmakgebaofaaPq08
import Derived.Test.YtpkhmakgebaofaaIv
namespace Go.Proofs.Ytpkhmakgebaofaa.Kq08
open Go.RowKit Go.Proofs.Ytpkhmakgebaofaa.Pk08 Go.Proofs.Ytpkhmakgebaofaa.Pq08 Go.Proofs.Ytpkhmakgebaofaa.Base Go.Proofs.Ytpkhmakgebaofaa.App Go.Proofs.Ytpkhmakgebaofaa.Str Go.Proofs.Ytpkhmakgebaofaa.Ky Go.Proofs.Ytpkhmakgebaofaa.Kc08 Go.Proofs.Ytpkhmakgebaofaa.Kd08 Go.Proofs.Ytpkhmakgebaofaa.Ke08 Go.Proofs.Ytpkhmakgebaofaa.Ki08 Go.Proofs.Ytpkhmakgebaofaa.Kj08 Go.Proofs.Ytpkhmakgebaofaa.Kn08 Go.Proofs.Ytpkhmakgebaofaa.Ko08
set_option linter.unusedVariables false
set_option linter.unusedSimpArgs false
theorem partial_bad (d : Int) (A B : Option Addr) (n cn m cm : Nat) (h : ¬ (1 ≤ d ∧ d ≤ 6 ∧ n = m)) (w : World) :
    Calls Try.prog 15 #[.int .i64 d, .slice A n cn, .slice B m cm] w fun e w' => e = .returned (.tuple #[.agg #[.slice none 0 0, .slice none 0 0], .int .i64 1]) ∧ Fr No w w' := by
  have hO := Ob.new w #[.slice none 0 0, .slice none 0 0] 25
  have q0 := hO.cell 0 (v := .slice none 0 0) rfl
  have q1 := hO.cell 1 (v := .slice none 0 0) rfl
  by_cases hd0 : 1 ≤ d ∧ d ≤ 6
  · have hd : decide (1 ≤ d ∧ d ≤ 6) = true := decide_eq_true hd0
    have hn : ((n : Int) != m) = true := bne_iff_ne.2 (fun x => h ⟨hd0.1, hd0.2, by omega⟩)
    clear h hd0
    go_enter Try.func15, Try.ntmps15
    go_wp2_with (go_at_call 23; ((with_reducible refine (isDim_any _ _).mono ?_); rintro e w' ⟨rfl, rfl⟩; rw [hd]))
    refine bodyPost_ret (v := .tuple #[.agg #[.slice none 0 0, .slice none 0 0], .int .i64 1]) (by simp [results, Try.results15, go_sem, q0, q1]) rfl ?_
    exact ⟨rfl, (Fr.refl No w).alloc _⟩
  · have hd : decide (1 ≤ d ∧ d ≤ 6) = false := decide_eq_false hd0
    clear h hd0
    go_enter Try.func15, Try.ntmps15
    go_wp2_with (go_at_call 23; ((with_reducible refine (isDim_any _ _).mono ?_); rintro e w' ⟨rfl, rfl⟩; rw [hd]))
    refine bodyPost_ret (v := .tuple #[.agg #[.slice none 0 0, .slice none 0 0], .int .i64 1]) (by simp [results, Try.results15, go_sem, q0, q1]) rfl ?_
    exact ⟨rfl, (Fr.refl No w).alloc _⟩
end Go.Proofs.Ytpkhmakgebaofaa.Kq08
