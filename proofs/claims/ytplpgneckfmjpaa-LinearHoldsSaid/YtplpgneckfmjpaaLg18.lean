/- Layer 18: some answers that the document gives. -/
import Derived.Test.YtplpgneckfmjpaaLf18
namespace Go.Proofs.Ytplpgneckfmjpaa.Lg18
open Go.RowKit Go.Proofs.Ytplpgneckfmjpaa.Pk08 Go.Proofs.Ytplpgneckfmjpaa.Base Go.Proofs.Ytplpgneckfmjpaa.App Go.Proofs.Ytplpgneckfmjpaa.Ky Go.Proofs.Ytplpgneckfmjpaa.Iv Go.Proofs.Ytplpgneckfmjpaa.Bx Go.Proofs.Ytplpgneckfmjpaa.Kk Go.Proofs.Ytplpgneckfmjpaa.Bo Go.Proofs.Ytplpgneckfmjpaa.As Go.Proofs.Ytplpgneckfmjpaa.Pl08 Go.Proofs.Ytplpgneckfmjpaa.Kc08 Go.Proofs.Ytplpgneckfmjpaa.Ke08 Go.Proofs.Ytplpgneckfmjpaa.Kj08 Go.Proofs.Ytplpgneckfmjpaa.Km08 Go.Proofs.Ytplpgneckfmjpaa.Px16 Go.Proofs.Ytplpgneckfmjpaa.Py16 Go.Proofs.Ytplpgneckfmjpaa.Pz18 Go.Proofs.Ytplpgneckfmjpaa.Hd16 Go.Proofs.Ytplpgneckfmjpaa.He16 Go.Proofs.Ytplpgneckfmjpaa.Hg16 Go.Proofs.Ytplpgneckfmjpaa.Hi16 Go.Proofs.Ytplpgneckfmjpaa.Hj16 Go.Proofs.Ytplpgneckfmjpaa.Hk16 Go.Proofs.Ytplpgneckfmjpaa.Lz18 Go.Proofs.Ytplpgneckfmjpaa.La18 Go.Proofs.Ytplpgneckfmjpaa.Lb18 Go.Proofs.Ytplpgneckfmjpaa.Lc18 Go.Proofs.Ytplpgneckfmjpaa.Ld18 Go.Proofs.Ytplpgneckfmjpaa.Le18 Go.Proofs.Ytplpgneckfmjpaa.Lf18
set_option linter.unusedVariables false
set_option linter.unusedSimpArgs false
theorem v1 : cnV 1 1 = 3 ∧ cnE 1 1 = 0 := by decide +kernel
theorem v2 : cnV 1 2 = 0 ∧ cnE 1 2 = 1 := by decide +kernel
theorem v3 : lfV [1073741824] 1 1 = 1 ∧ lfE [1073741824] 1 1 = 0 := by decide +kernel
theorem v4 : lbL 1 1 1 2 = [2147483648] ∧ lbH 1 1 1 2 = [4294967295] ∧ lbE 1 1 1 2 = 0 := by decide +kernel
theorem v5 : lrL [0] [1073741824] 1 1 = [0, 1] ∧ lrE [0] [1073741824] 1 1 = 0 := by decide +kernel
theorem v6 : grow 1 1 = (2, 0, 2, 0) ∧ shrink 2 0 = (1, 1, 2, 0) ∧ shrink 0 0 = (0, 0, 0, 1) := by decide +kernel
theorem v7 : ((cmp [2147483648] [2147483648] == 0) && (cmp [4294967295] [4294967295] == 0)) = true := by decide +kernel
theorem v8 : decide (([0, 1] : List Int) = [0, 1]) = true := by decide +kernel
section
variable {w : World} {A B : Option Addr} {c c2 : Nat}
theorem ka : Calls Try.prog 10 #[.int .i64 1, .int .i64 1] w fun e w' => e = .returned (.tuple #[.int .i64 3, .int .i64 0]) ∧ w = w' := by
  have h := count_any (w := w) 1 1
  rw [v1.1, v1.2] at h
  exact h
theorem kb : Calls Try.prog 10 #[.int .i64 1, .int .i64 2] w fun e w' => e = .returned (.tuple #[.int .i64 0, .int .i64 1]) ∧ w = w' := by
  have h := count_any (w := w) 1 2
  rw [v2.1, v2.2] at h
  exact h
theorem kc (hk : Kv w A 1 c [1073741824]) : Calls Try.prog 12 #[.slice A 1 c, .int .i64 1, .int .i64 1] w fun e w' => e = .returned (.tuple #[.int .i64 1, .int .i64 0]) ∧ w = w' := by
  have h := lfind_any 1 1 hk
  rw [v3.1, v3.2] at h
  exact h
theorem kd : Calls Try.prog 14 #[.int .i64 1, .int .i64 1, .int .i64 1, .int .i64 2] w (BoxRet w [2147483648] [4294967295] (.int .i64 0)) := by
  have h := lbox_any (w := w) 1 1 1 2
  rw [v4.1, v4.2.1, v4.2.2] at h
  exact h
theorem ke (hk : Kv w A 1 c [0]) (hh : Kv w B 1 c2 [1073741824]) : Calls Try.prog 17 #[.agg #[.slice A 1 c, .slice B 1 c2], .int .i64 1, .int .i64 1] w (IntsRet w [0, 1] (.int .i64 0)) := by
  have h := lrange_any 1 1 hk hh
  rw [v5.1, v5.2] at h
  exact h
theorem kf : Calls Try.prog 20 #[.int .i64 1, .int .i64 1] w fun e w' => e = .returned (.tuple #[.int .i64 2, .int .i64 0, .int .i64 2, .int .i64 0]) ∧ w = w' := by
  have h := grow_any (w := w) 1 1
  rw [v6.1] at h
  exact h
theorem kg : Calls Try.prog 22 #[.int .i64 2, .int .i64 0] w fun e w' => e = .returned (.tuple #[.int .i64 1, .int .i64 1, .int .i64 2, .int .i64 0]) ∧ w = w' := by
  have h := shrink_any (w := w) 2 0
  rw [v6.2.1] at h
  exact h
theorem kh : Calls Try.prog 22 #[.int .i64 0, .int .i64 0] w fun e w' => e = .returned (.tuple #[.int .i64 0, .int .i64 0, .int .i64 0, .int .i64 1]) ∧ w = w' := by
  have h := shrink_any (w := w) 0 0
  rw [v6.2.2] at h
  exact h
end
set_option maxRecDepth 100000 in
set_option maxHeartbeats 6400000 in
theorem live (w : World) : Calls Try.prog 9 #[] w fun e w' => e = .returned (.bool true) ∧ Fr No w w' := by
  go_enter Try.func9, Try.ntmps9
  go_wp2_with (go_at_call 10; ((with_reducible refine (ka).mono ?_); rintro e w1 ⟨rfl, rfl⟩))
  go_wp2_with (go_at_call 10; ((with_reducible refine (kb).mono ?_); rintro e w1 ⟨rfl, rfl⟩))
  go_wp2_with (go_at_call 12; ((with_reducible refine (kc ?_).mono ?_); (iterate 1 (repeat (first | with_reducible assumption | ((with_reducible refine Kv.lit_new _ _ _ _ _ _ ?_ ?_ ?_ ?_) <;> (first | (simp; done) | rfl | decide)) | with_reducible exact Kv.none_ _ | with_reducible refine Kv.alloc ?_ _ | with_reducible refine Kv.drew ?_ | with_reducible refine Kv.drewN ?_ _ | with_reducible refine Kv.no ?_ (by assumption)))); rintro e w2 ⟨rfl, rfl⟩))
  go_wp2_with (go_at_call 14; ((with_reducible refine (kd).mono ?_); rintro e w1 ⟨A1, n1, c1, B1, m1, d1, rfl, hl1, hh1, hf1⟩))
  go_wp2_with (go_at_call 17; ((with_reducible refine (ke ?_ ?_).mono ?_); (iterate 2 (repeat (first | with_reducible assumption | ((with_reducible refine Kv.lit_new _ _ _ _ _ _ ?_ ?_ ?_ ?_) <;> (first | (simp; done) | rfl | decide)) | with_reducible exact Kv.none_ _ | with_reducible refine Kv.alloc ?_ _ | with_reducible refine Kv.drew ?_ | with_reducible refine Kv.drewN ?_ _ | with_reducible refine Kv.no ?_ (by assumption)))); rintro e w2 ⟨A2, n2, c2, rfl, hv2, hf2⟩; obtain ⟨yba, ybb, ybl, ybm, ybn, ybo, ybp, ybq⟩ := (show Ob w2 w1.heap.size #[.slice A1 n1 c1, .slice B1 m1 d1] 32 by (repeat (first | with_reducible assumption | with_reducible refine Ob.other ?_ (by first | (simp; done) | (simp; omega)) _ | ((with_reducible refine Ob.new_ _ _ _ _ ?_) <;> (simp; done)) | with_reducible refine Ob.alloc ?_ _ | with_reducible refine Ob.drew ?_ | with_reducible refine Ob.drewN ?_ _ | with_reducible refine Ob.no ?_ (by assumption)))).two))
  go_wp2_with (go_at_call 20; ((with_reducible refine (kf).mono ?_); rintro e w3 ⟨rfl, rfl⟩))
  go_wp2_with (go_at_call 22; ((with_reducible refine (kg).mono ?_); rintro e w3 ⟨rfl, rfl⟩))
  go_wp2_with (go_at_call 22; ((with_reducible refine (kh).mono ?_); rintro e w3 ⟨rfl, rfl⟩))
  go_wp2_with (go_at_call 16; ((with_reducible refine (sameBox_any (lo := [2147483648]) (hi := [4294967295]) (a := [2147483648]) (b := [4294967295]) ?_ ?_ ?_ ?_).mono ?_); (iterate 4 (repeat (first | with_reducible assumption | ((with_reducible refine Kv.lit_new _ _ _ _ _ _ ?_ ?_ ?_ ?_) <;> (first | (simp; done) | rfl | decide)) | with_reducible exact Kv.none_ _ | with_reducible refine Kv.alloc ?_ _ | with_reducible refine Kv.drew ?_ | with_reducible refine Kv.drewN ?_ _ | with_reducible refine Kv.no ?_ (by assumption)))); rintro e w4 ⟨rfl, hf4⟩; rw [v7]))
  go_wp2_with (go_at_call 19; ((with_reducible refine (ints_any (xs := [0, 1]) (ys := [0, 1]) ?_ ?_).mono ?_); (iterate 2 (repeat (first | with_reducible assumption | ((with_reducible refine Iv.lit_new _ _ _ _ _ _ ?_ ?_ ?_ ?_) <;> (first | (simp; done) | rfl | decide)) | with_reducible exact Iv.none_ _ | with_reducible refine Iv.alloc ?_ _ | with_reducible refine Iv.drew ?_ | with_reducible refine Iv.drewN ?_ _ | with_reducible refine Iv.no ?_ (by assumption)))); rintro e w5 ⟨rfl, hf5⟩; rw [v8]))
  go_ret
  refine ⟨rfl, ?_⟩
  (repeat (first | with_reducible exact Fr.refl _ _ | with_reducible refine Fr.setCell ?_ (.inr (by first | (simp; done) | (simp; omega))) _ | with_reducible refine Fr.alloc ?_ _ | with_reducible refine Fr.drew ?_ | with_reducible refine Fr.drewN ?_ _ | with_reducible refine Fr.tr ?_ (by assumption)))
end Go.Proofs.Ytplpgneckfmjpaa.Lg18
