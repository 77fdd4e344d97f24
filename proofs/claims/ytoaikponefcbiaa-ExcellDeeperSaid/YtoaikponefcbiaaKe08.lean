/- Layer 8, further: whether a point is in a box, whether a box may be, whether two are the same. -/
import Derived.Test.YtoaikponefcbiaaKd08
namespace Go.Proofs.Ytoaikponefcbiaa.Ke08
open Go.RowKit Go.Proofs.Ytoaikponefcbiaa.Pk08 Go.Proofs.Ytoaikponefcbiaa.Base Go.Proofs.Ytoaikponefcbiaa.App Go.Proofs.Ytoaikponefcbiaa.Ky Go.Proofs.Ytoaikponefcbiaa.Kc08 Go.Proofs.Ytoaikponefcbiaa.Kd08
set_option linter.unusedVariables false
set_option linter.unusedSimpArgs false
attribute [local irreducible] cmp leL
section
variable {w : World} {A B C D : Option Addr} {n m p q cn cm cp cq : Nat} {a b k lo hi : List Nat}
set_option maxHeartbeats 800000 in
theorem checkBox_any (d : Int) (hl : Kv w B m cm lo) (hh : Kv w C p cp hi) :
    Calls Try.prog 33 #[.agg #[.slice B m cm, .slice C p cp], .int .i64 d] w fun e w' => e = .returned (.int .i64 (chkB lo hi d)) ∧ Fr No w w' := by
  have f0 : Fr No w (w.alloc (.cells #[.slice B m cm, .slice C p cp] 28)) := (Fr.refl No w).alloc _
  have Hl := Lib.hid (hl.no f0)
  have Hh := Lib.hid (hh.no f0)
  have Hn := Lib.hid hl.len
  clear hl hh
  by_cases hc : chk m d = 0
  · cases h1 : leL lo hi with
    | false =>
      have e : chkB lo hi d = 1 := by unfold chkB; rw [h1]; simp
      rw [e]
      clear e
      go_enter Try.func33, Try.ntmps33
      go_wp2_with (first
        | (go_at_call 43; ((with_reducible refine (check_any _ _ _ _ _).mono ?_); rintro e w' ⟨rfl, rfl⟩; rw [hc]))
        | (go_at_call 44; ((with_reducible refine (all_any Hl.out Hh.out).mono ?_); rintro e w2 ⟨rfl, hf2⟩; rw [h1])))
      go_ret
      exact ⟨rfl, f0.tr hf2⟩
    | true =>
      have e : chkB lo hi d = 0 := by unfold chkB; rw [← Hn.out, hc, h1]; simp
      rw [e]
      clear e
      go_enter Try.func33, Try.ntmps33
      go_wp2_with (first
        | (go_at_call 43; ((with_reducible refine (check_any _ _ _ _ _).mono ?_); rintro e w' ⟨rfl, rfl⟩; rw [hc]))
        | (go_at_call 44; ((with_reducible refine (all_any Hl.out Hh.out).mono ?_); rintro e w2 ⟨rfl, hf2⟩; rw [h1])))
      go_ret
      exact ⟨rfl, f0.tr hf2⟩
  · have e : chkB lo hi d = 1 := by unfold chkB; rw [← Hn.out, if_neg (fun x => hc x.1)]
    have hc1 : chk m d = 1 := by unfold chk at hc ⊢; split at hc <;> simp_all
    rw [e]
    clear e hc
    go_enter Try.func33, Try.ntmps33
    go_wp2_with (go_at_call 43; ((with_reducible refine (check_any _ _ _ _ _).mono ?_); rintro e w' ⟨rfl, rfl⟩; rw [hc1]))
    go_ret
    exact ⟨rfl, f0⟩
set_option maxHeartbeats 800000 in
theorem sameBox_any (hl : Kv w A n cn lo) (hh : Kv w B m cm hi) (ha : Kv w C p cp a) (hb : Kv w D q cq b) :
    Calls Try.prog 16 #[.agg #[.slice A n cn, .slice B m cm], .agg #[.slice C p cp, .slice D q cq]] w fun e w' => e = .returned (.bool ((cmp lo a == 0) && (cmp hi b == 0))) ∧ Fr No w w' := by
  have f0 : Fr No w ((w.alloc (.cells #[.slice A n cn, .slice B m cm] 28)).alloc (.cells #[.slice C p cp, .slice D q cq] 28)) := ((Fr.refl No w).alloc _).alloc _
  have hO := (Ob.new w #[.slice A n cn, .slice B m cm] 28).alloc (.cells #[.slice C p cp, .slice D q cq] 28)
  have hO2 := Ob.new (w.alloc (.cells #[.slice A n cn, .slice B m cm] 28)) #[.slice C p cp, .slice D q cq] 28
  have hs : (w.alloc (.cells #[.slice A n cn, .slice B m cm] 28)).heap.size = w.heap.size + 1 := by simp
  rw [hs] at hO2
  clear hs
  have Hl := Lib.hid (hl.no f0)
  have Hh := Lib.hid (hh.no f0)
  have Ha := Lib.hid (ha.no f0)
  have Hb := Lib.hid (hb.no f0)
  clear hl hh ha hb
  cases h1 : (cmp lo a == 0) with
  | false =>
    go_enter Try.func16, Try.ntmps16
    go_wp2_with (go_at_call 32; ((with_reducible refine (same Hl.out Ha.out).mono ?_); rintro e w1 ⟨rfl, hf1⟩; rw [h1]))
    go_ret
    exact ⟨rfl, f0.tr hf1⟩
  | true =>
    go_enter Try.func16, Try.ntmps16
    go_wp2_with (first
      | (go_at_call 32; ((with_reducible refine (same Hl.out Ha.out).mono ?_); rintro e w1 ⟨rfl, hf1⟩; rw [h1]; have cO := (hO.fr hf1 (fun x => x)).cell 1 rfl; have cO2 := (hO2.fr hf1 (fun x => x)).cell 1 rfl; have Hh1 := Lib.hid (Hh.out.no hf1); have Hb1 := Lib.hid (Hb.out.no hf1)))
      | (go_at_call 32; ((with_reducible refine (same Hh1.out Hb1.out).mono ?_); rintro e w2 ⟨rfl, hf2⟩)))
    go_ret
    exact ⟨rfl, (f0.tr hf1).tr hf2⟩
end
end Go.Proofs.Ytoaikponefcbiaa.Ke08
