/- Layer 8, further: the box of all points. -/
import Derived.Test.YtoaikponefcbiaaKn08
namespace Go.Proofs.Ytoaikponefcbiaa.Ko08
open Go.RowKit Go.Proofs.Ytoaikponefcbiaa.Pk08 Go.Proofs.Ytoaikponefcbiaa.Base Go.Proofs.Ytoaikponefcbiaa.App Go.Proofs.Ytoaikponefcbiaa.Str Go.Proofs.Ytoaikponefcbiaa.Ky Go.Proofs.Ytoaikponefcbiaa.Kc08 Go.Proofs.Ytoaikponefcbiaa.Kd08 Go.Proofs.Ytoaikponefcbiaa.Ke08 Go.Proofs.Ytoaikponefcbiaa.Ki08 Go.Proofs.Ytoaikponefcbiaa.Kj08 Go.Proofs.Ytoaikponefcbiaa.Kn08
set_option linter.unusedVariables false
set_option linter.unusedSimpArgs false
/-- A box of one's own two rows is returned. -/
def OwnBox (w : World) (n : Nat) (lo hi : List Nat) (e : Ending) (w' : World) : Prop :=
  ∃ s t, s ≠ t ∧ e = .returned (.agg #[.slice (some ⟨s, 0, none⟩) n n, .slice (some ⟨t, 0, none⟩) n n]) ∧ w'.ownsRow w.heap.size 50 1 (.slice (some ⟨s, 0, none⟩) n n) n (u32s lo) ∧ w'.ownsRow w.heap.size 50 1 (.slice (some ⟨t, 0, none⟩) n n) n (u32s hi) ∧ Fr No w w'
theorem one_kv (W : World) : Kv (W.alloc (.cells #[.int .u32 4294967295] 50)) (some ⟨W.heap.size, 0, none⟩) 1 1 [4294967295] := by
  refine ⟨rfl, Nat.le_refl _, by decide, fun x hx => by simp at hx; subst hx; decide, fun _ => ⟨_, 0, rfl, fun i hi => ?_⟩⟩
  have hi0 : i = 0 := by simpa using hi
  subst hi0
  exact (Ob.new W #[.int .u32 4294967295] 50).cell 0 rfl
theorem own_set2 {w : World} {base t z n : Nat} {xs : List Value} (h : w.ownsRow base 50 1 (.slice (some ⟨t, 0, none⟩) n n) n xs) (hn : t ≠ z) (u v : Value) : ((w.setCell ⟨z, 0, none⟩ u).setCell ⟨z, 1, none⟩ v).ownsRow base 50 1 (.slice (some ⟨t, 0, none⟩) n n) n xs :=
  own_fr h (S := fun k => k = z) (((Fr.refl (fun k => k = z) w).setCell (p := ⟨z, 0, none⟩) (.inl rfl) u).setCell (p := ⟨z, 1, none⟩) (.inl rfl) v) (fun k hk (hb : k = z) => by
    simp [Value.ownBlock] at hk
    omega)
theorem mk_own (W : World) (base d : Nat) (hb : base ≤ W.heap.size) (h : d ≤ 6) : (W.alloc (.cells (madeCells #[.int .u32 0] d) 50)).ownsRow base 50 1 (.slice (some ⟨W.heap.size, 0, none⟩) d d) d (u32s (List.replicate d 0)) := by
  have h0 := own_mk W base 50 (.int .u32 0) rfl d hb (by omega)
  have e : List.replicate d (Value.int .u32 0) = u32s (List.replicate d 0) := by simp [u32s]
  rwa [e] at h0
set_option maxHeartbeats 1600000 in
theorem whole_ok (d : Nat) (h1 : 1 ≤ d) (h2 : d ≤ 6) (w : World) :
    Calls Try.prog 25 #[.int .i64 (d : Int)] w (OwnBox w d (List.replicate d 0) (List.replicate d 4294967295)) := by
  have hd : decide (1 ≤ (d : Int) ∧ (d : Int) ≤ 6) = true := decide_eq_true ⟨by omega, by omega⟩
  have hr : ∀ W, (Instr.makeSlice 23 (.int .i64 (d : Int)) (.int .i64 (d : Int))).run Try.prog W = .ok (.slice (some ⟨W.heap.size, 0, none⟩) d d) (W.alloc (.cells (madeCells #[.int .u32 0] d) 50)) := fun W => by
    have := run_made (P := Try.prog) 23 50 (.int .u32 0) 4 Try.underlying23 info_u32 rfl (by decide) (d : Int) (by omega) (by omega) W
    rw [Int.toNat_natCast] at this
    exact this
  have hO := Ob.new w #[.slice none 0 0, .slice none 0 0] 28
  have e1 : (w.alloc (.cells #[.slice none 0 0, .slice none 0 0] 28)).heap.size = w.heap.size + 1 := by simp
  have e2 : ((w.alloc (.cells #[.slice none 0 0, .slice none 0 0] 28)).alloc (.cells (madeCells #[.int .u32 0] d) 50)).heap.size = w.heap.size + 1 + 1 := by simp
  have e3 : ((w.alloc (.cells #[.slice none 0 0, .slice none 0 0] 28)).alloc (.cells #[.int .u32 4294967295] 50)).heap.size = w.heap.size + 1 + 1 := by simp
  have kA := (one_kv ((w.alloc (.cells #[.slice none 0 0, .slice none 0 0] 28)).alloc (.cells (madeCells #[.int .u32 0] d) 50))).no (Fr.refl No _).drew
  have kC := (one_kv (w.alloc (.cells #[.slice none 0 0, .slice none 0 0] 28))).no (Fr.refl No _).drew
  have kB := (one_kv (w.alloc (.cells #[.slice none 0 0, .slice none 0 0] 28))).no ((Fr.refl No _).alloc (.cells (madeCells #[.int .u32 0] d) 50)).drew
  rw [e2] at kA
  rw [e1] at kB kC
  have HkA := Lib.hid kA
  have HkB := Lib.hid kB
  have HkC := Lib.hid kC
  have mA := (mk_own (w.alloc (.cells #[.slice none 0 0, .slice none 0 0] 28)) w.heap.size d (by simp) h2).alloc (.cells #[.int .u32 4294967295] 50)
  have mB := mk_own ((w.alloc (.cells #[.slice none 0 0, .slice none 0 0] 28)).alloc (.cells #[.int .u32 4294967295] 50)) w.heap.size d (by simp; omega) h2
  rw [e1] at mA
  rw [e3] at mB
  clear kA kB kC e1 e2 e3
  go_enter Try.func25, Try.ntmps25
  go_wp2_with (go_at_call 37; ((with_reducible refine (isDim_any _ _).mono ?_); rintro e w' ⟨rfl, rfl⟩; rw [hd]))
  go_region_held3 (fun _ => True) (trivial)
    (first
      | (go_at_call 38; ((with_reducible refine (repeat_one 4294967295 d h1 h2 HkA.out).mono ?_); rintro e w1 ⟨g, rfl, ho1, hf1⟩; have hOw := (((hO.alloc (.cells (madeCells #[.int .u32 0] d) 50)).alloc (.cells #[.int .u32 4294967295] 50)).drew).fr hf1 (fun x => x); have y0 := hOw.cell 0 rfl; have y1 := hOw.cell 1 rfl; have y2 := hOw.frozen 0; have y3 := hOw.frozen 1; have hOv := hOw.alloc (.cells (madeCells #[.int .u32 0] d) 50); have y4 := hOv.cell 0 rfl; have y5 := hOv.cell 1 rfl; have y6 := hOv.frozen 0; have y7 := hOv.frozen 1; have tag : 0 = 0 := rfl))
      | (go_at_call 38; ((with_reducible refine (repeat_one 4294967295 d h1 h2 HkB.out).mono ?_); rintro e w1 ⟨g, rfl, ho1, hf1⟩; have hOw := (((hO.alloc (.cells #[.int .u32 4294967295] 50)).alloc (.cells (madeCells #[.int .u32 0] d) 50)).drew).fr hf1 (fun x => x); have y0 := hOw.cell 0 rfl; have y1 := hOw.cell 1 rfl; have y2 := hOw.frozen 0; have y3 := hOw.frozen 1; have hOv := hOw.alloc (.cells (madeCells #[.int .u32 0] d) 50); have y4 := hOv.cell 0 rfl; have y5 := hOv.cell 1 rfl; have y6 := hOv.frozen 0; have y7 := hOv.frozen 1; have tag : 0 = 0 := rfl))
      | (go_at_call 38; ((with_reducible refine (repeat_one 4294967295 d h1 h2 HkC.out).mono ?_); rintro e w1 ⟨g, rfl, ho1, hf1⟩; have hOw := ((hO.alloc (.cells #[.int .u32 4294967295] 50)).drew).fr hf1 (fun x => x); have y0 := hOw.cell 0 rfl; have y1 := hOw.cell 1 rfl; have y2 := hOw.frozen 0; have y3 := hOw.frozen 1; have hOv := hOw.alloc (.cells (madeCells #[.int .u32 0] d) 50); have y4 := hOv.cell 0 rfl; have y5 := hOv.cell 1 rfl; have y6 := hOv.frozen 0; have y7 := hOv.frozen 1; have tag : 0 = 0 := rfl))
      | fail)
  · have hsz := (ho1.lt g rfl).1
    have hlt := (ho1.lt g rfl).2
    have hw1 := hf1.size
    simp at hsz hw1
    go_wp2
    have hrf := ((hOw).set 0 (.slice (some ⟨w.heap.size + 1, 0, none⟩) d d)).set 1 (.slice (some ⟨g, 0, none⟩) d d)
    have q0 := hrf.cell 0 (v := .slice (some ⟨w.heap.size + 1, 0, none⟩) d d) rfl
    have q1 := hrf.cell 1 (v := .slice (some ⟨g, 0, none⟩) d d) rfl
    refine bodyPost_ret (v := .agg #[.slice (some ⟨w.heap.size + 1, 0, none⟩) d d, .slice (some ⟨g, 0, none⟩) d d]) (by simp [results, Try.results25, go_sem, q0, q1]) rfl ?_
    exact ⟨w.heap.size + 1, g, by omega, rfl, own_set2 (own_fr mA.drew hf1 (fun _ _ x => x)) (by omega) _ _, own_set2 (own_base ho1 (by simp; omega)) (by omega) _ _, (((((((Fr.refl No w).alloc (.cells #[.slice none 0 0, .slice none 0 0] 28)).alloc (.cells (madeCells #[.int .u32 0] d) 50)).alloc (.cells #[.int .u32 4294967295] 50)).drew).tr hf1).setCell (p := ⟨w.heap.size, 0, none⟩) (.inr (Nat.le_refl _)) _).setCell (p := ⟨w.heap.size, 1, none⟩) (.inr (Nat.le_refl _)) _⟩
  · have hsz := (ho1.lt g rfl).1
    have hlt := (ho1.lt g rfl).2
    have hw1 := hf1.size
    simp at hsz hw1
    go_wp2
    have hrf := ((hOw).set 0 (.slice (some ⟨w.heap.size + 1 + 1, 0, none⟩) d d)).set 1 (.slice (some ⟨g, 0, none⟩) d d)
    have q0 := hrf.cell 0 (v := .slice (some ⟨w.heap.size + 1 + 1, 0, none⟩) d d) rfl
    have q1 := hrf.cell 1 (v := .slice (some ⟨g, 0, none⟩) d d) rfl
    refine bodyPost_ret (v := .agg #[.slice (some ⟨w.heap.size + 1 + 1, 0, none⟩) d d, .slice (some ⟨g, 0, none⟩) d d]) (by simp [results, Try.results25, go_sem, q0, q1]) rfl ?_
    exact ⟨w.heap.size + 1 + 1, g, by omega, rfl, own_set2 (own_fr mB.drew hf1 (fun _ _ x => x)) (by omega) _ _, own_set2 (own_base ho1 (by simp; omega)) (by omega) _ _, (((((((Fr.refl No w).alloc (.cells #[.slice none 0 0, .slice none 0 0] 28)).alloc (.cells #[.int .u32 4294967295] 50)).alloc (.cells (madeCells #[.int .u32 0] d) 50)).drew).tr hf1).setCell (p := ⟨w.heap.size, 0, none⟩) (.inr (Nat.le_refl _)) _).setCell (p := ⟨w.heap.size, 1, none⟩) (.inr (Nat.le_refl _)) _⟩
  · have hsz := (ho1.lt g rfl).1
    have hlt := (ho1.lt g rfl).2
    have hw1 := hf1.size
    simp at hsz hw1
    go_wp2
    have hrf := ((hOv).set 0 (.slice (some ⟨w1.heap.size, 0, none⟩) d d)).set 1 (.slice (some ⟨g, 0, none⟩) d d)
    have q0 := hrf.cell 0 (v := .slice (some ⟨w1.heap.size, 0, none⟩) d d) rfl
    have q1 := hrf.cell 1 (v := .slice (some ⟨g, 0, none⟩) d d) rfl
    refine bodyPost_ret (v := .agg #[.slice (some ⟨w1.heap.size, 0, none⟩) d d, .slice (some ⟨g, 0, none⟩) d d]) (by simp [results, Try.results25, go_sem, q0, q1]) rfl ?_
    exact ⟨w1.heap.size, g, by omega, rfl, own_set2 (mk_own w1 w.heap.size d (by omega) h2) (by omega) _ _, own_set2 ((own_base ho1 (by simp; omega)).alloc (.cells (madeCells #[.int .u32 0] d) 50)) (by omega) _ _, ((((((((Fr.refl No w).alloc (.cells #[.slice none 0 0, .slice none 0 0] 28)).alloc (.cells #[.int .u32 4294967295] 50)).drew).tr hf1).alloc (.cells (madeCells #[.int .u32 0] d) 50))).setCell (p := ⟨w.heap.size, 0, none⟩) (.inr (Nat.le_refl _)) _).setCell (p := ⟨w.heap.size, 1, none⟩) (.inr (Nat.le_refl _)) _⟩
end Go.Proofs.Ytoaikponefcbiaa.Ko08
