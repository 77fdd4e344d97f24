/- Layer 11: some answers that the document gives. -/
import Derived.Test.YtbncakbgljhnkaaQa11
import Derived.Test.YtbncakbgljhnkaaPw11
import Derived.Test.YtbncakbgljhnkaaRs
import Derived.Test.YtbncakbgljhnkaaGc
import Derived.Test.YtbncakbgljhnkaaGb
import Derived.StillTailTactics
namespace Go.Proofs.Ytbncakbgljhnkaa.Qb11
open Go.RowKit Go.Proofs.Ytbncakbgljhnkaa.Pk08 Go.Proofs.Ytbncakbgljhnkaa.Base Go.Proofs.Ytbncakbgljhnkaa.App Go.Proofs.Ytbncakbgljhnkaa.Str Go.Proofs.Ytbncakbgljhnkaa.Ky Go.Proofs.Ytbncakbgljhnkaa.Bx Go.Proofs.Ytbncakbgljhnkaa.Kk Go.Proofs.Ytbncakbgljhnkaa.Bo Go.Proofs.Ytbncakbgljhnkaa.As Go.Proofs.Ytbncakbgljhnkaa.Pl08 Go.Proofs.Ytbncakbgljhnkaa.Kc08 Go.Proofs.Ytbncakbgljhnkaa.Ke08 Go.Proofs.Ytbncakbgljhnkaa.Px16 Go.Proofs.Ytbncakbgljhnkaa.Ha16 Go.Proofs.Ytbncakbgljhnkaa.Rv Go.Proofs.Ytbncakbgljhnkaa.Rp Go.Proofs.Ytbncakbgljhnkaa.Ro Go.Proofs.Ytbncakbgljhnkaa.Rk Go.Proofs.Ytbncakbgljhnkaa.Rs Go.Proofs.Ytbncakbgljhnkaa.Pt11 Go.Proofs.Ytbncakbgljhnkaa.Pu11 Go.Proofs.Ytbncakbgljhnkaa.Pw11 Go.Proofs.Ytbncakbgljhnkaa.Px11 Go.Proofs.Ytbncakbgljhnkaa.Py11 Go.Proofs.Ytbncakbgljhnkaa.Pz11 Go.Proofs.Ytbncakbgljhnkaa.Qa11
set_option linter.unusedVariables false
set_option linter.unusedSimpArgs false
/-- The two records. -/
def rs0 : List Rv.Rec := [([1, 7], ByteArray.empty), ([5, 7], ByteArray.empty)]
def ra0 : List Rv.Rec := [([1, 7], ByteArray.empty)]
def rb0 : List Rv.Rec := [([5, 7], ByteArray.empty)]
theorem w0 : wideB [0, 7] [9, 7] 0 = true := by decide +kernel
theorem w1 : wideB [0, 7] [9, 7] 1 = false := by decide +kernel
theorem e1 : l1 [0, 7] [9, 7] 0 = [0, 7] ∧ h1 [0, 7] [9, 7] 0 = [4, 7] ∧ l2 [0, 7] [9, 7] 0 = [5, 7] ∧ h2 [0, 7] [9, 7] 0 = [9, 7] := by decide +kernel
theorem e2 : spL 0 5 rs0 = ra0 ∧ spH 0 5 rs0 = rb0 ∧ spE 0 rs0 = 0 := by decide +kernel
theorem e3 : spL 2 5 rs0 = [] ∧ spH 2 5 rs0 = [] ∧ spE 2 rs0 = 1 := by decide +kernel
theorem e4 : chAt [0, 7] [9, 7] rs0 1 = 0 ∧ chOk [0, 7] [9, 7] rs0 1 = true := by decide +kernel
theorem e5 : mg rb0 ra0 = rs0 := by
  unfold rb0 ra0 rs0
  rw [mg_gt _ _ _ _ (by decide +kernel), mg_nil_right]
theorem e6 : Short rs0 ∧ Short ra0 ∧ Short rb0 := by
  refine ⟨⟨by decide, ?_⟩, ⟨by decide, ?_⟩, ⟨by decide, ?_⟩⟩ <;> decide
theorem e7 : Strict ra0 ∧ Strict rb0 := ⟨List.pairwise_singleton _ _, List.pairwise_singleton _ _⟩
section
variable {w : World} {A B : Option Addr} {n cn m cm c : Nat}
theorem lA (hl : Kv w A n cn [0, 7]) (hh : Kv w B m cm [9, 7]) :
    Calls Try.prog 11 #[.agg #[.slice A n cn, .slice B m cm], .int .i64 0] w fun e w' => ∃ A1 c1 B1 d1 A2 c2 B2 d2, e = .returned (.tuple #[.agg #[.slice A1 2 c1, .slice B1 2 d1], .agg #[.slice A2 2 c2, .slice B2 2 d2], .bool true]) ∧ Kv w' A1 2 c1 [0, 7] ∧ Kv w' B1 2 d1 [4, 7] ∧ Kv w' A2 2 c2 [5, 7] ∧ Kv w' B2 2 d2 [9, 7] ∧ Fr No w w' := by
  refine (halves_any 0 hl hh).mono ?_
  rintro e w' ⟨A1, n1, c1, B1, m1, d1, A2, n2, c2, B2, m2, d2, rfl, k1, k2, k3, k4, hf⟩
  obtain ⟨q1, q2, q3, q4⟩ := e1
  rw [q1] at k1; rw [q2] at k2; rw [q3] at k3; rw [q4] at k4
  obtain rfl : n1 = 2 := k1.len
  obtain rfl : m1 = 2 := k2.len
  obtain rfl : n2 = 2 := k3.len
  obtain rfl : m2 = 2 := k4.len
  exact ⟨A1, c1, B1, d1, A2, c2, B2, d2, by rw [w0], k1, k2, k3, k4, hf⟩
theorem lB (hl : Kv w A n cn [0, 7]) (hh : Kv w B m cm [9, 7]) :
    Calls Try.prog 11 #[.agg #[.slice A n cn, .slice B m cm], .int .i64 1] w fun e w' => e = .returned (.tuple #[.agg #[.slice none 0 0, .slice none 0 0], .agg #[.slice none 0 0, .slice none 0 0], .bool false]) ∧ Fr No w w' := halves_no 1 hl hh w1
theorem lC (hr : Rv w A n c rs0) :
    Calls Try.prog 17 #[.slice A n c, .int .i64 0, .int .u32 5] w fun e w' => ∃ P cP Q cQ, e = .returned (.tuple #[.slice P 1 cP, .slice Q 1 cQ, .int .i64 0]) ∧ Rv w' P 1 cP ra0 ∧ Rv w' Q 1 cQ rb0 ∧ Fr No w w' := by
  refine (split_any 0 5 hr e6.1).mono ?_
  rintro e w' ⟨P, p, cP, Q, q, cQ, rfl, k1, k2, hf⟩
  obtain ⟨q1, q2, q3⟩ := e2
  rw [q1] at k1; rw [q2] at k2
  obtain rfl : p = 1 := k1.len
  obtain rfl : q = 1 := k2.len
  exact ⟨P, cP, Q, cQ, by rw [q3], k1, k2, hf⟩
theorem lD (hr : Rv w A n c rs0) :
    Calls Try.prog 17 #[.slice A n c, .int .i64 2, .int .u32 5] w fun e w' => ∃ P cP Q cQ, e = .returned (.tuple #[.slice P 0 cP, .slice Q 0 cQ, .int .i64 1]) ∧ Fr No w w' := by
  refine (split_any 2 5 hr e6.1).mono ?_
  rintro e w' ⟨P, p, cP, Q, q, cQ, rfl, k1, k2, hf⟩
  obtain ⟨q1, q2, q3⟩ := e3
  rw [q1] at k1; rw [q2] at k2
  obtain rfl : p = 0 := k1.len
  obtain rfl : q = 0 := k2.len
  exact ⟨P, cP, Q, cQ, by rw [q3], hf⟩
theorem lE {L : Option Addr} {ln lc : Nat} (hl : Kv w A n cn [0, 7]) (hh : Kv w B m cm [9, 7]) (hr : Rv w L ln lc rs0) :
    Calls Try.prog 13 #[.agg #[.slice A n cn, .slice B m cm], .slice L ln lc, .int .i64 1] w fun e w' => e = .returned (.tuple #[.int .i64 0, .bool true]) ∧ Fr No w w' := by
  have h := choose_any 1 hl hh hr
  rw [e4.1, e4.2] at h
  exact h
theorem lF (ha : Rv w A n cn rb0) (hb : Rv w B m cm ra0) : Calls Try.prog 22 #[.slice A n cn, .slice B m cm] w (RecsRet w rs0) := by
  have h := merge_any ha hb e6.2.2 e6.2.1 (by have h1 := ha.len; have h2 := hb.len; simp [ra0, rb0] at h1 h2; omega) e7.2 e7.1
  rw [e5] at h
  exact h
end
/-- Two records that were just written out. -/
theorem Rv.two_lit (w : World) (t1 t2 t3 : TypeId) : Rv (((w.alloc (.cells #[.int .u32 1, .int .u32 7] t1)).alloc (.cells #[.int .u32 5, .int .u32 7] t2)).alloc (.cells #[.slice (some ⟨w.heap.size, 0, none⟩) 2 2, .string ⟨#[]⟩, .slice (some ⟨w.heap.size + 1, 0, none⟩) 2 2, .string ⟨#[]⟩] t3)) (some ⟨w.heap.size + 1 + 1, 0, none⟩) 2 2 rs0 := by
  have h1 : Kv (w.alloc (.cells #[.int .u32 1, .int .u32 7] t1)) (some ⟨w.heap.size, 0, none⟩) 2 2 [1, 7] := Kv.lit_new w _ _ _ _ _ rfl rfl rfl (by decide)
  have h2 : Kv ((w.alloc (.cells #[.int .u32 1, .int .u32 7] t1)).alloc (.cells #[.int .u32 5, .int .u32 7] t2)) (some ⟨w.heap.size + 1, 0, none⟩) 2 2 [5, 7] := Kv.lit_new _ _ _ _ _ _ (by simp) rfl rfl (by decide)
  have h3 := Ob.new ((w.alloc (.cells #[.int .u32 1, .int .u32 7] t1)).alloc (.cells #[.int .u32 5, .int .u32 7] t2)) #[.slice (some ⟨w.heap.size, 0, none⟩) 2 2, .string ⟨#[]⟩, .slice (some ⟨w.heap.size + 1, 0, none⟩) 2 2, .string ⟨#[]⟩] t3
  simp only [World.size_alloc] at h3
  refine ⟨rfl, by decide, by decide, fun _ => ⟨w.heap.size + 1 + 1, 0, rfl, fun i hi => ?_⟩⟩
  have hi2 : i < 2 := hi
  rcases (show i = 0 ∨ i = 1 by omega) with rfl | rfl
  · exact ⟨_, 2, h3.cell 0 rfl, h3.cell 1 rfl, (h1.alloc _).alloc _, by decide⟩
  · exact ⟨_, 2, h3.cell 2 rfl, h3.cell 3 rfl, h2.alloc _, by decide⟩
set_option maxRecDepth 8000 in
set_option maxHeartbeats 3200000 in
theorem live (w : World) : Calls Try.prog 10 #[] w fun e w' => e = .returned (.bool true) ∧ Fr No w w' := by
  go_enter Try.func10, Try.ntmps10
  go_wp2_with (go_at_call 11; ((with_reducible refine (lA ?_ ?_).mono ?_); (iterate 2 (repeat (first | with_reducible assumption | ((with_reducible refine Kv.lit_new _ _ _ _ _ _ ?_ ?_ ?_ ?_) <;> (first | (simp; done) | rfl | decide)) | with_reducible exact Kv.none_ _ | with_reducible refine Kv.alloc ?_ _ | with_reducible refine Kv.drew ?_ | with_reducible refine Kv.drewN ?_ _ | with_reducible refine Kv.no ?_ (by assumption)))); rintro e w1 ⟨A1, c1, B1, d1, A2, c2, B2, d2, rfl, k1, k2, k3, k4, hf1⟩; obtain ⟨yba, ybb, ybl, ybm, ybn, ybo, ybp, ybq⟩ := (show Ob w1 (w.heap.size + 1 + 1) #[.slice (some ⟨w.heap.size, 0, none⟩) 2 2, .slice (some ⟨w.heap.size + 1, 0, none⟩) 2 2] 25 by (repeat (first | with_reducible assumption | with_reducible refine Ob.other ?_ (by first | (simp; done) | (simp; omega)) _ | ((with_reducible refine Ob.new_ _ _ _ _ ?_) <;> (simp; done)) | with_reducible refine Ob.alloc ?_ _ | with_reducible refine Ob.drew ?_ | with_reducible refine Ob.drewN ?_ _ | with_reducible refine Ob.no ?_ (by assumption)))).two))
  go_wp2_with (go_at_call 11; ((with_reducible refine (lB ?_ ?_).mono ?_); (iterate 2 (repeat (first | with_reducible assumption | ((with_reducible refine Kv.lit_new _ _ _ _ _ _ ?_ ?_ ?_ ?_) <;> (first | (simp; done) | rfl | decide)) | with_reducible exact Kv.none_ _ | with_reducible refine Kv.alloc ?_ _ | with_reducible refine Kv.drew ?_ | with_reducible refine Kv.drewN ?_ _ | with_reducible refine Kv.no ?_ (by assumption)))); rintro e w2 ⟨rfl, hf2⟩; obtain ⟨yb2a, yb2b, yb2l, yb2m, yb2n, yb2o, yb2p, yb2q⟩ := (show Ob w2 (w.heap.size + 1 + 1) #[.slice (some ⟨w.heap.size, 0, none⟩) 2 2, .slice (some ⟨w.heap.size + 1, 0, none⟩) 2 2] 25 by (repeat (first | with_reducible assumption | with_reducible refine Ob.other ?_ (by first | (simp; done) | (simp; omega)) _ | ((with_reducible refine Ob.new_ _ _ _ _ ?_) <;> (simp; done)) | with_reducible refine Ob.alloc ?_ _ | with_reducible refine Ob.drew ?_ | with_reducible refine Ob.drewN ?_ _ | with_reducible refine Ob.no ?_ (by assumption)))).two; obtain ⟨yx2a, yx2b, yx2l, yx2m, yx2n, yx2o, yx2p, yx2q⟩ := (show Ob w2 w1.heap.size #[.slice A1 2 c1, .slice B1 2 d1] 25 by (repeat (first | with_reducible assumption | with_reducible refine Ob.other ?_ (by first | (simp; done) | (simp; omega)) _ | ((with_reducible refine Ob.new_ _ _ _ _ ?_) <;> (simp; done)) | with_reducible refine Ob.alloc ?_ _ | with_reducible refine Ob.drew ?_ | with_reducible refine Ob.drewN ?_ _ | with_reducible refine Ob.no ?_ (by assumption)))).two; obtain ⟨yy2a, yy2b, yy2l, yy2m, yy2n, yy2o, yy2p, yy2q⟩ := (show Ob w2 (w1.heap.size + 1) #[.slice A2 2 c2, .slice B2 2 d2] 25 by (repeat (first | with_reducible assumption | with_reducible refine Ob.other ?_ (by first | (simp; done) | (simp; omega)) _ | ((with_reducible refine Ob.new_ _ _ _ _ ?_) <;> (simp; done)) | with_reducible refine Ob.alloc ?_ _ | with_reducible refine Ob.drew ?_ | with_reducible refine Ob.drewN ?_ _ | with_reducible refine Ob.no ?_ (by assumption)))).two))
  have hv := Rv.two_lit ((w2.alloc (.cells #[.slice none 0 0, .slice none 0 0] 25)).alloc (.cells #[.slice none 0 0, .slice none 0 0] 25)) 35 35 48
  simp only [World.size_alloc] at hv
  go_wp2_with (go_at_call 17; ((with_reducible refine (lC hv).mono ?_); rintro e w3 ⟨P3, p3, Q3, q3, rfl, m1, m2, hf3⟩; obtain ⟨yb3a, yb3b, yb3l, yb3m, yb3n, yb3o, yb3p, yb3q⟩ := (show Ob w3 (w.heap.size + 1 + 1) #[.slice (some ⟨w.heap.size, 0, none⟩) 2 2, .slice (some ⟨w.heap.size + 1, 0, none⟩) 2 2] 25 by (repeat (first | with_reducible assumption | with_reducible refine Ob.other ?_ (by first | (simp; done) | (simp; omega)) _ | ((with_reducible refine Ob.new_ _ _ _ _ ?_) <;> (simp; done)) | with_reducible refine Ob.alloc ?_ _ | with_reducible refine Ob.drew ?_ | with_reducible refine Ob.drewN ?_ _ | with_reducible refine Ob.no ?_ (by assumption)))).two; obtain ⟨yx3a, yx3b, yx3l, yx3m, yx3n, yx3o, yx3p, yx3q⟩ := (show Ob w3 w1.heap.size #[.slice A1 2 c1, .slice B1 2 d1] 25 by (repeat (first | with_reducible assumption | with_reducible refine Ob.other ?_ (by first | (simp; done) | (simp; omega)) _ | ((with_reducible refine Ob.new_ _ _ _ _ ?_) <;> (simp; done)) | with_reducible refine Ob.alloc ?_ _ | with_reducible refine Ob.drew ?_ | with_reducible refine Ob.drewN ?_ _ | with_reducible refine Ob.no ?_ (by assumption)))).two; obtain ⟨yy3a, yy3b, yy3l, yy3m, yy3n, yy3o, yy3p, yy3q⟩ := (show Ob w3 (w1.heap.size + 1) #[.slice A2 2 c2, .slice B2 2 d2] 25 by (repeat (first | with_reducible assumption | with_reducible refine Ob.other ?_ (by first | (simp; done) | (simp; omega)) _ | ((with_reducible refine Ob.new_ _ _ _ _ ?_) <;> (simp; done)) | with_reducible refine Ob.alloc ?_ _ | with_reducible refine Ob.drew ?_ | with_reducible refine Ob.drewN ?_ _ | with_reducible refine Ob.no ?_ (by assumption)))).two))
  have hv3 := Rv.no hv hf3
  clear hv
  go_wp2_with (go_at_call 17; ((with_reducible refine (lD hv3).mono ?_); rintro e w4 ⟨P4, p4, Q4, q4, rfl, hf4⟩; obtain ⟨yb4a, yb4b, yb4l, yb4m, yb4n, yb4o, yb4p, yb4q⟩ := (show Ob w4 (w.heap.size + 1 + 1) #[.slice (some ⟨w.heap.size, 0, none⟩) 2 2, .slice (some ⟨w.heap.size + 1, 0, none⟩) 2 2] 25 by (repeat (first | with_reducible assumption | with_reducible refine Ob.other ?_ (by first | (simp; done) | (simp; omega)) _ | ((with_reducible refine Ob.new_ _ _ _ _ ?_) <;> (simp; done)) | with_reducible refine Ob.alloc ?_ _ | with_reducible refine Ob.drew ?_ | with_reducible refine Ob.drewN ?_ _ | with_reducible refine Ob.no ?_ (by assumption)))).two; obtain ⟨yx4a, yx4b, yx4l, yx4m, yx4n, yx4o, yx4p, yx4q⟩ := (show Ob w4 w1.heap.size #[.slice A1 2 c1, .slice B1 2 d1] 25 by (repeat (first | with_reducible assumption | with_reducible refine Ob.other ?_ (by first | (simp; done) | (simp; omega)) _ | ((with_reducible refine Ob.new_ _ _ _ _ ?_) <;> (simp; done)) | with_reducible refine Ob.alloc ?_ _ | with_reducible refine Ob.drew ?_ | with_reducible refine Ob.drewN ?_ _ | with_reducible refine Ob.no ?_ (by assumption)))).two; obtain ⟨yy4a, yy4b, yy4l, yy4m, yy4n, yy4o, yy4p, yy4q⟩ := (show Ob w4 (w1.heap.size + 1) #[.slice A2 2 c2, .slice B2 2 d2] 25 by (repeat (first | with_reducible assumption | with_reducible refine Ob.other ?_ (by first | (simp; done) | (simp; omega)) _ | ((with_reducible refine Ob.new_ _ _ _ _ ?_) <;> (simp; done)) | with_reducible refine Ob.alloc ?_ _ | with_reducible refine Ob.drew ?_ | with_reducible refine Ob.drewN ?_ _ | with_reducible refine Ob.no ?_ (by assumption)))).two))
  have hv4 := Rv.no hv3 hf4
  go_wp2_with (go_at_call 13; ((with_reducible refine (lE ?_ ?_ hv4).mono ?_); (iterate 2 (repeat (first | with_reducible assumption | ((with_reducible refine Kv.lit_new _ _ _ _ _ _ ?_ ?_ ?_ ?_) <;> (first | (simp; done) | rfl | decide)) | with_reducible exact Kv.none_ _ | with_reducible refine Kv.alloc ?_ _ | with_reducible refine Kv.drew ?_ | with_reducible refine Kv.drewN ?_ _ | with_reducible refine Kv.no ?_ (by assumption)))); rintro e w5 ⟨rfl, hf5⟩; obtain ⟨yb5a, yb5b, yb5l, yb5m, yb5n, yb5o, yb5p, yb5q⟩ := (show Ob w5 (w.heap.size + 1 + 1) #[.slice (some ⟨w.heap.size, 0, none⟩) 2 2, .slice (some ⟨w.heap.size + 1, 0, none⟩) 2 2] 25 by (repeat (first | with_reducible assumption | with_reducible refine Ob.other ?_ (by first | (simp; done) | (simp; omega)) _ | ((with_reducible refine Ob.new_ _ _ _ _ ?_) <;> (simp; done)) | with_reducible refine Ob.alloc ?_ _ | with_reducible refine Ob.drew ?_ | with_reducible refine Ob.drewN ?_ _ | with_reducible refine Ob.no ?_ (by assumption)))).two; obtain ⟨yx5a, yx5b, yx5l, yx5m, yx5n, yx5o, yx5p, yx5q⟩ := (show Ob w5 w1.heap.size #[.slice A1 2 c1, .slice B1 2 d1] 25 by (repeat (first | with_reducible assumption | with_reducible refine Ob.other ?_ (by first | (simp; done) | (simp; omega)) _ | ((with_reducible refine Ob.new_ _ _ _ _ ?_) <;> (simp; done)) | with_reducible refine Ob.alloc ?_ _ | with_reducible refine Ob.drew ?_ | with_reducible refine Ob.drewN ?_ _ | with_reducible refine Ob.no ?_ (by assumption)))).two; obtain ⟨yy5a, yy5b, yy5l, yy5m, yy5n, yy5o, yy5p, yy5q⟩ := (show Ob w5 (w1.heap.size + 1) #[.slice A2 2 c2, .slice B2 2 d2] 25 by (repeat (first | with_reducible assumption | with_reducible refine Ob.other ?_ (by first | (simp; done) | (simp; omega)) _ | ((with_reducible refine Ob.new_ _ _ _ _ ?_) <;> (simp; done)) | with_reducible refine Ob.alloc ?_ _ | with_reducible refine Ob.drew ?_ | with_reducible refine Ob.drewN ?_ _ | with_reducible refine Ob.no ?_ (by assumption)))).two))
  have hv5 := Rv.no hv4 hf5
  have s1 : ((cmp [0, 7] [0, 7] == 0) && (cmp [4, 7] [4, 7] == 0)) = true := by decide
  have s2 : ((cmp [5, 7] [5, 7] == 0) && (cmp [9, 7] [9, 7] == 0)) = true := by decide
  go_wp2_with (go_at_call 15; ((with_reducible refine (sameBox_any (lo := [0, 7]) (hi := [4, 7]) (a := [0, 7]) (b := [4, 7]) ?_ ?_ ?_ ?_).mono ?_); (iterate 4 (repeat (first | with_reducible assumption | ((with_reducible refine Kv.lit_new _ _ _ _ _ _ ?_ ?_ ?_ ?_) <;> (first | (simp; done) | rfl | decide)) | with_reducible exact Kv.none_ _ | with_reducible refine Kv.alloc ?_ _ | with_reducible refine Kv.drew ?_ | with_reducible refine Kv.drewN ?_ _ | with_reducible refine Kv.no ?_ (by assumption)))); rintro e w6 ⟨rfl, hf6⟩; rw [s1]; obtain ⟨yb6a, yb6b, yb6l, yb6m, yb6n, yb6o, yb6p, yb6q⟩ := (show Ob w6 (w.heap.size + 1 + 1) #[.slice (some ⟨w.heap.size, 0, none⟩) 2 2, .slice (some ⟨w.heap.size + 1, 0, none⟩) 2 2] 25 by (repeat (first | with_reducible assumption | with_reducible refine Ob.other ?_ (by first | (simp; done) | (simp; omega)) _ | ((with_reducible refine Ob.new_ _ _ _ _ ?_) <;> (simp; done)) | with_reducible refine Ob.alloc ?_ _ | with_reducible refine Ob.drew ?_ | with_reducible refine Ob.drewN ?_ _ | with_reducible refine Ob.no ?_ (by assumption)))).two; obtain ⟨yx6a, yx6b, yx6l, yx6m, yx6n, yx6o, yx6p, yx6q⟩ := (show Ob w6 w1.heap.size #[.slice A1 2 c1, .slice B1 2 d1] 25 by (repeat (first | with_reducible assumption | with_reducible refine Ob.other ?_ (by first | (simp; done) | (simp; omega)) _ | ((with_reducible refine Ob.new_ _ _ _ _ ?_) <;> (simp; done)) | with_reducible refine Ob.alloc ?_ _ | with_reducible refine Ob.drew ?_ | with_reducible refine Ob.drewN ?_ _ | with_reducible refine Ob.no ?_ (by assumption)))).two; obtain ⟨yy6a, yy6b, yy6l, yy6m, yy6n, yy6o, yy6p, yy6q⟩ := (show Ob w6 (w1.heap.size + 1) #[.slice A2 2 c2, .slice B2 2 d2] 25 by (repeat (first | with_reducible assumption | with_reducible refine Ob.other ?_ (by first | (simp; done) | (simp; omega)) _ | ((with_reducible refine Ob.new_ _ _ _ _ ?_) <;> (simp; done)) | with_reducible refine Ob.alloc ?_ _ | with_reducible refine Ob.drew ?_ | with_reducible refine Ob.drewN ?_ _ | with_reducible refine Ob.no ?_ (by assumption)))).two))
  go_wp2_with (go_at_call 15; ((with_reducible refine (sameBox_any (lo := [5, 7]) (hi := [9, 7]) (a := [5, 7]) (b := [9, 7]) ?_ ?_ ?_ ?_).mono ?_); (iterate 4 (repeat (first | with_reducible assumption | ((with_reducible refine Kv.lit_new _ _ _ _ _ _ ?_ ?_ ?_ ?_) <;> (first | (simp; done) | rfl | decide)) | with_reducible exact Kv.none_ _ | with_reducible refine Kv.alloc ?_ _ | with_reducible refine Kv.drew ?_ | with_reducible refine Kv.drewN ?_ _ | with_reducible refine Kv.no ?_ (by assumption)))); rintro e w7 ⟨rfl, hf7⟩; rw [s2]))
  go_wp2_with (go_at_call 22; ((with_reducible refine (lF (w := w7) ?_ ?_).mono ?_); (focus (repeat (first | with_reducible assumption | with_reducible exact Rv.none_ _ | with_reducible refine Rv.alloc ?_ _ | with_reducible refine Rv.drew ?_ | with_reducible refine Rv.drewN ?_ _ | with_reducible refine Rv.no ?_ (by assumption)))); (focus (repeat (first | with_reducible assumption | with_reducible exact Rv.none_ _ | with_reducible refine Rv.alloc ?_ _ | with_reducible refine Rv.drew ?_ | with_reducible refine Rv.drewN ?_ _ | with_reducible refine Rv.no ?_ (by assumption)))); rintro e w8 ⟨A8, n8, c8, rfl, ho8, hf8⟩))
  have hd : decide (rs0 = rs0) = true := decide_eq_true rfl
  go_wp2_with (go_at_call 19; ((with_reducible refine (same_any (rs := rs0) (qs := rs0) ?_ ?_).mono ?_); (focus ((have h := ho8.rv); (repeat (first | with_reducible assumption | with_reducible exact Rv.none_ _ | with_reducible refine Rv.alloc ?_ _ | with_reducible refine Rv.drew ?_ | with_reducible refine Rv.drewN ?_ _ | with_reducible refine Rv.no ?_ (by assumption))))); (focus (repeat (first | with_reducible assumption | with_reducible exact Rv.none_ _ | with_reducible refine Rv.alloc ?_ _ | with_reducible refine Rv.drew ?_ | with_reducible refine Rv.drewN ?_ _ | with_reducible refine Rv.no ?_ (by assumption)))); rintro e w9 ⟨rfl, hf9⟩; rw [hd]))
  go_ret
  exact ⟨rfl, by (repeat (first | with_reducible exact Fr.refl _ _ | with_reducible refine Fr.setCell ?_ (.inr (by first | (simp; done) | (simp; omega))) _ | with_reducible refine Fr.alloc ?_ _ | with_reducible refine Fr.drew ?_ | with_reducible refine Fr.drewN ?_ _ | with_reducible refine Fr.tr ?_ (by assumption)))⟩
end Go.Proofs.Ytbncakbgljhnkaa.Qb11
