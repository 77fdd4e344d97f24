/- Layer 8, further: Meet of any boxes. -/
import Derived.Test.YtoaikponefcbiaaKj08
namespace Go.Proofs.Ytoaikponefcbiaa.Km08
open Go.RowKit Go.Proofs.Ytoaikponefcbiaa.Pk08 Go.Proofs.Ytoaikponefcbiaa.Base Go.Proofs.Ytoaikponefcbiaa.App Go.Proofs.Ytoaikponefcbiaa.Str Go.Proofs.Ytoaikponefcbiaa.Ky Go.Proofs.Ytoaikponefcbiaa.Kc08 Go.Proofs.Ytoaikponefcbiaa.Kd08 Go.Proofs.Ytoaikponefcbiaa.Ke08 Go.Proofs.Ytoaikponefcbiaa.Ki08 Go.Proofs.Ytoaikponefcbiaa.Kj08
set_option linter.unusedVariables false
set_option linter.unusedSimpArgs false
section
variable {w : World} {A B C D : Option Addr} {n m p q cn cm cp cq : Nat} {al ah bl bh : List Nat}
theorem meet_none (h : ¬ (m = n ∧ p = n ∧ q = n)) (hal : Kv w A n cn al) (hah : Kv w B m cm ah) (hbl : Kv w C p cp bl) (hbh : Kv w D q cq bh) : meetIs al ah bl bh = false := by
  unfold meetIs
  apply decide_eq_false
  rintro ⟨h1, h2, h3, _⟩
  rw [← hal.len] at h1 h2 h3
  rw [← hah.len] at h1
  rw [← hbl.len] at h2
  rw [← hbh.len] at h3
  exact h ⟨h1, h2, h3⟩
set_option maxHeartbeats 1600000 in
theorem meet_out (hal : Kv w A n cn al) (hah : Kv w B m cm ah) (hbl : Kv w C p cp bl) (hbh : Kv w D q cq bh) (h : ¬ (m = n ∧ p = n ∧ q = n)) :
    Calls Try.prog 35 #[.agg #[.slice A n cn, .slice B m cm], .agg #[.slice C p cp, .slice D q cq]] w
      (BoxRet w (meetLo al ah bl bh) (meetHi al ah bl bh) (.bool (meetIs al ah bl bh))) := by
  have hm := meet_none h hal hah hbl hbh
  have m1 : meetLo al ah bl bh = [] := by unfold meetLo; rw [hm]; rfl
  have m2 : meetHi al ah bl bh = [] := by unfold meetHi; rw [hm]; rfl
  rw [m1, m2, hm]
  have f0 : Fr No w (((w.alloc (.cells #[.slice A n cn, .slice B m cm] 28)).alloc (.cells #[.slice C p cp, .slice D q cq] 28)).alloc (.cells #[.slice none 0 0, .slice none 0 0] 28)) := (((Fr.refl No w).alloc _).alloc _).alloc _
  have hOz := Ob.new ((w.alloc (.cells #[.slice A n cn, .slice B m cm] 28)).alloc (.cells #[.slice C p cp, .slice D q cq] 28)) #[.slice none 0 0, .slice none 0 0] 28
  have s2 : ((w.alloc (.cells #[.slice A n cn, .slice B m cm] 28)).alloc (.cells #[.slice C p cp, .slice D q cq] 28)).heap.size = w.heap.size + 1 + 1 := by simp
  rw [s2] at hOz
  clear hm m1 m2 s2 hal hah hbl hbh
  have hcase : ((m : Int) != n) = true ∨ (m = n ∧ ((p : Int) != n) = true) ∨ (m = n ∧ p = n ∧ ((q : Int) != n) = true) := by
    by_cases h1 : m = n
    · by_cases h2 : p = n
      · exact .inr (.inr ⟨h1, h2, bne_iff_ne.2 (fun x => h ⟨h1, h2, by omega⟩)⟩)
      · exact .inr (.inl ⟨h1, bne_iff_ne.2 (by omega)⟩)
    · exact .inl (bne_iff_ne.2 (by omega))
  clear h
  rcases hcase with h1 | ⟨rfl, h1⟩ | ⟨rfl, rfl, h1⟩
  all_goals
    go_enter Try.func35, Try.ntmps35
    go_wp2
    have q0 := hOz.cell 0 (v := .slice none 0 0) rfl
    have q1 := hOz.cell 1 (v := .slice none 0 0) rfl
    refine bodyPost_ret (v := .tuple #[.agg #[.slice none 0 0, .slice none 0 0], .bool false]) (by simp [results, Try.results35, go_sem, q0, q1]) rfl ?_
    exact ⟨_, 0, 0, _, 0, 0, rfl, Kv.none_ _, Kv.none_ _, by first | exact f0 | exact (f0.setCell (p := ⟨w.heap.size + 1 + 1, 0, none⟩) (.inr (by show w.heap.size ≤ w.heap.size + 1 + 1; omega)) _).setCell (p := ⟨w.heap.size + 1 + 1, 1, none⟩) (.inr (by show w.heap.size ≤ w.heap.size + 1 + 1; omega)) _⟩
theorem meet_any (hal : Kv w A n cn al) (hah : Kv w B m cm ah) (hbl : Kv w C p cp bl) (hbh : Kv w D q cq bh) (hn : n ≤ 1000000) :
    Calls Try.prog 35 #[.agg #[.slice A n cn, .slice B m cm], .agg #[.slice C p cp, .slice D q cq]] w
      (BoxRet w (meetLo al ah bl bh) (meetHi al ah bl bh) (.bool (meetIs al ah bl bh))) := by
  by_cases h : m = n ∧ p = n ∧ q = n
  · obtain ⟨rfl, rfl, rfl⟩ := h
    exact meet_in hal hah hbl hbh hn
  · exact meet_out hal hah hbl hbh h
end
end Go.Proofs.Ytoaikponefcbiaa.Km08
