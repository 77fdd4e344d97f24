/- Layer 25: some answers that the document gives. -/
import Derived.Test.YtpkhmakgebaofaaQg25
namespace Go.Proofs.Ytpkhmakgebaofaa.Qh25
open Go.RowKit Go.Proofs.Ytpkhmakgebaofaa.Pk08 Go.Proofs.Ytpkhmakgebaofaa.Base Go.Proofs.Ytpkhmakgebaofaa.App Go.Proofs.Ytpkhmakgebaofaa.Ky Go.Proofs.Ytpkhmakgebaofaa.Iv Go.Proofs.Ytpkhmakgebaofaa.Bx Go.Proofs.Ytpkhmakgebaofaa.Kk Go.Proofs.Ytpkhmakgebaofaa.Rv Go.Proofs.Ytpkhmakgebaofaa.Ra Go.Proofs.Ytpkhmakgebaofaa.Kc08 Go.Proofs.Ytpkhmakgebaofaa.Ke08 Go.Proofs.Ytpkhmakgebaofaa.Kh08 Go.Proofs.Ytpkhmakgebaofaa.Kj08 Go.Proofs.Ytpkhmakgebaofaa.Ka08 Go.Proofs.Ytpkhmakgebaofaa.Cl Go.Proofs.Ytpkhmakgebaofaa.Qb25 Go.Proofs.Ytpkhmakgebaofaa.Qc25 Go.Proofs.Ytpkhmakgebaofaa.Qd25 Go.Proofs.Ytpkhmakgebaofaa.Qe25 Go.Proofs.Ytpkhmakgebaofaa.Qf25 Go.Proofs.Ytpkhmakgebaofaa.Qg25
set_option linter.unusedVariables false
set_option linter.unusedSimpArgs false
def qz (D : Int) (A : Option Addr) (n c : Nat) (X : Option Addr) (xn xc : Nat) : RqC := ⟨D, A, n, c, ByteArray.empty, none, 0, 0, none, 0, 0, X, xn, xc, 0, none, 0, 0⟩
def dz (ks : List Nat) (ats : List Int) : RqD := ⟨ks, [], [], ats, []⟩
theorem rqz {w : World} {A X : Option Addr} {n c xn xc : Nat} {ks : List Nat} {ats : List Int} (D : Int) (hk : Kv w A n c ks) (hx : Iv w X xn xc ats) : Rq w (qz D A n c X xn xc) (dz ks ats) :=
  ⟨hk, by show ByteArray.empty.size ≤ maxLen; exact Nat.zero_le _, Kv.none_ _, Kv.none_ _, hx, Rv.none_ _⟩
section
variable {w : World} {A X : Option Addr} {n c xn xc : Nat}
theorem la (hk : Kv w A 1 c [1]) :
    Calls Try.prog 11 #[.agg #[.int .i64 1, .slice A 1 c, .string ⟨#[]⟩, .slice none 0 0, .slice none 0 0, .slice none 0 0, .int .i64 0, .slice none 0 0], .int .i64 1, .bool true, .bool false] w fun e w' => e = .returned (.int .i64 0) ∧ Fr No w w' := by
  have h := rqcheck_any (D := 1) (rqz 1 hk (Iv.none_ w)) 1 true false
  have hv : chkR 1 (qz 1 A 1 c none 0 0) (dz [1] []) 1 true false = 0 := rfl
  rw [hv] at h
  exact h
theorem lb (hk : Kv w A 1 c [1]) :
    Calls Try.prog 11 #[.agg #[.int .i64 1, .slice A 1 c, .string ⟨#[]⟩, .slice none 0 0, .slice none 0 0, .slice none 0 0, .int .i64 0, .slice none 0 0], .int .i64 2, .bool true, .bool false] w fun e w' => e = .returned (.int .i64 1) ∧ Fr No w w' := by
  have h := rqcheck_any (D := 1) (rqz 1 hk (Iv.none_ w)) 2 true false
  have hv : chkR 1 (qz 1 A 1 c none 0 0) (dz [1] []) 2 true false = 1 := rfl
  rw [hv] at h
  exact h
theorem lc (hk : Kv w A 1 c [1]) :
    Calls Try.prog 11 #[.agg #[.int .i64 1, .slice A 1 c, .string ⟨#[]⟩, .slice none 0 0, .slice none 0 0, .slice none 0 0, .int .i64 0, .slice none 0 0], .int .i64 1, .bool false, .bool false] w fun e w' => e = .returned (.int .i64 1) ∧ Fr No w w' := by
  have h := rqcheck_any (D := 1) (rqz 1 hk (Iv.none_ w)) 1 false false
  have hv : chkR 1 (qz 1 A 1 c none 0 0) (dz [1] []) 1 false false = 1 := rfl
  rw [hv] at h
  exact h
theorem ld :
    Calls Try.prog 11 #[.agg #[.int .i64 10, .slice none 0 0, .string ⟨#[]⟩, .slice none 0 0, .slice none 0 0, .slice none 0 0, .int .i64 0, .slice none 0 0], .int .i64 1, .bool true, .bool false] w fun e w' => e = .returned (.int .i64 1) ∧ Fr No w w' := by
  have h := rqcheck_any (D := 10) (rqz 10 (Kv.none_ w) (Iv.none_ w)) 1 true false
  have hv : chkR 10 (qz 10 none 0 0 none 0 0) (dz [] []) 1 true false = 1 := rfl
  rw [hv] at h
  exact h
theorem le :
    Calls Try.prog 11 #[.agg #[.int .i64 9, .slice none 0 0, .string ⟨#[]⟩, .slice none 0 0, .slice none 0 0, .slice none 0 0, .int .i64 0, .slice none 0 0], .int .i64 1, .bool true, .bool true] w fun e w' => e = .returned (.int .i64 1) ∧ Fr No w w' := by
  have h := rqcheck_any (D := 9) (rqz 9 (Kv.none_ w) (Iv.none_ w)) 1 true true
  have hv : chkR 9 (qz 9 none 0 0 none 0 0) (dz [] []) 1 true true = 1 := rfl
  rw [hv] at h
  exact h
theorem lf :
    Calls Try.prog 11 #[.agg #[.int .i64 13, .slice none 0 0, .string ⟨#[]⟩, .slice none 0 0, .slice none 0 0, .slice none 0 0, .int .i64 0, .slice none 0 0], .int .i64 1, .bool true, .bool false] w fun e w' => e = .returned (.int .i64 1) ∧ Fr No w w' := by
  have h := rqcheck_any (D := 13) (rqz 13 (Kv.none_ w) (Iv.none_ w)) 1 true false
  have hv : chkR 13 (qz 13 none 0 0 none 0 0) (dz [] []) 1 true false = 1 := rfl
  rw [hv] at h
  exact h
theorem bx5 : boxE 5 (qz 5 none 1 1 none 1 1) (dz [7] [1]) 2 = 0 ∧ boxLo 5 (qz 5 none 1 1 none 1 1) (dz [7] [1]) 2 = [0, 7] ∧ boxHi 5 (qz 5 none 1 1 none 1 1) (dz [7] [1]) 2 = [4294967295, 7] := by decide
theorem lg (hk : Kv w A 1 c [7]) (hx : Iv w X 1 xc [1]) :
    Calls Try.prog 8 #[.agg #[.int .i64 5, .slice A 1 c, .string ⟨#[]⟩, .slice none 0 0, .slice none 0 0, .slice X 1 xc, .int .i64 0, .slice none 0 0], .int .i64 2] w (BoxRet w [0, 7] [4294967295, 7] (.int .i64 0)) := by
  have h := rq_box (D := 5) (rqz 5 hk hx) 2
  have e1 : boxE 5 (qz 5 A 1 c X 1 xc) (dz [7] [1]) 2 = 0 := bx5.1
  have e2 : boxLo 5 (qz 5 A 1 c X 1 xc) (dz [7] [1]) 2 = [0, 7] := bx5.2.1
  have e3 : boxHi 5 (qz 5 A 1 c X 1 xc) (dz [7] [1]) 2 = [4294967295, 7] := bx5.2.2
  rw [e1, e2, e3] at h
  exact h
theorem lh (hk : Kv w A 1 c [7]) :
    Calls Try.prog 8 #[.agg #[.int .i64 3, .slice A 1 c, .string ⟨#[]⟩, .slice none 0 0, .slice none 0 0, .slice none 0 0, .int .i64 0, .slice none 0 0], .int .i64 1] w (BoxRet w [] [] (.int .i64 1)) := by
  have h := rq_box (D := 3) (rqz 3 hk (Iv.none_ w)) 1
  have e1 : boxE 3 (qz 3 A 1 c none 0 0) (dz [7] []) 1 = 1 := rfl
  have e2 : boxLo 3 (qz 3 A 1 c none 0 0) (dz [7] []) 1 = [] := rfl
  have e3 : boxHi 3 (qz 3 A 1 c none 0 0) (dz [7] []) 1 = [] := rfl
  rw [e1, e2, e3] at h
  exact h
end
theorem s2 : ((cmp [0, 7] [0, 7] == 0) && (cmp [4294967295, 7] [4294967295, 7] == 0)) = true := by decide
set_option maxRecDepth 8000 in
set_option maxHeartbeats 3200000 in
theorem live (w : World) : Calls Try.prog 7 #[] w fun e w' => e = .returned (.bool true) ∧ Fr No w w' := by
  go_enter Try.func7, Try.ntmps7
  go_wp2_with (go_at_call 11; ((with_reducible refine (la ?_).mono ?_); (iterate 1 (repeat (first | with_reducible assumption | ((with_reducible refine Kv.lit_new _ _ _ _ _ _ ?_ ?_ ?_ ?_) <;> (first | (simp; done) | rfl | decide)) | with_reducible exact Kv.none_ _ | with_reducible refine Kv.alloc ?_ _ | with_reducible refine Kv.drew ?_ | with_reducible refine Kv.drewN ?_ _ | with_reducible refine Kv.no ?_ (by assumption)))); rintro e w1 ⟨rfl, hf1⟩))
  go_wp2_with (go_at_call 11; ((with_reducible refine (lb ?_).mono ?_); (iterate 1 (repeat (first | with_reducible assumption | ((with_reducible refine Kv.lit_new _ _ _ _ _ _ ?_ ?_ ?_ ?_) <;> (first | (simp; done) | rfl | decide)) | with_reducible exact Kv.none_ _ | with_reducible refine Kv.alloc ?_ _ | with_reducible refine Kv.drew ?_ | with_reducible refine Kv.drewN ?_ _ | with_reducible refine Kv.no ?_ (by assumption)))); rintro e w2 ⟨rfl, hf2⟩))
  go_wp2_with (go_at_call 11; ((with_reducible refine (lc ?_).mono ?_); (iterate 1 (repeat (first | with_reducible assumption | ((with_reducible refine Kv.lit_new _ _ _ _ _ _ ?_ ?_ ?_ ?_) <;> (first | (simp; done) | rfl | decide)) | with_reducible exact Kv.none_ _ | with_reducible refine Kv.alloc ?_ _ | with_reducible refine Kv.drew ?_ | with_reducible refine Kv.drewN ?_ _ | with_reducible refine Kv.no ?_ (by assumption)))); rintro e w3 ⟨rfl, hf3⟩))
  go_wp2_with (go_at_call 11; ((with_reducible refine (ld).mono ?_); rintro e w4 ⟨rfl, hf4⟩))
  go_wp2_with (go_at_call 11; ((with_reducible refine (le).mono ?_); rintro e w5 ⟨rfl, hf5⟩))
  go_wp2_with (go_at_call 11; ((with_reducible refine (lf).mono ?_); rintro e w6 ⟨rfl, hf6⟩))
  go_wp2_with (go_at_call 8; ((with_reducible refine (lg ?_ ?_).mono ?_); (repeat (first | with_reducible assumption | ((with_reducible refine Kv.lit_new _ _ _ _ _ _ ?_ ?_ ?_ ?_) <;> (first | (simp; done) | rfl | decide)) | with_reducible exact Kv.none_ _ | with_reducible refine Kv.alloc ?_ _ | with_reducible refine Kv.drew ?_ | with_reducible refine Kv.drewN ?_ _ | with_reducible refine Kv.no ?_ (by assumption))); (repeat (first | with_reducible assumption | ((with_reducible refine Iv.lit_new _ _ _ _ _ _ ?_ ?_ ?_ ?_) <;> (first | (simp; done) | rfl | decide)) | with_reducible exact Iv.none_ _ | with_reducible refine Iv.alloc ?_ _ | with_reducible refine Iv.drew ?_ | with_reducible refine Iv.drewN ?_ _ | with_reducible refine Iv.no ?_ (by assumption))); rintro e w7 ⟨A7, n7, c7, B7, m7, d7, rfl, hl7, hh7, hf7⟩))
  go_wp2_with (go_at_call 8; ((with_reducible refine (lh ?_).mono ?_); (iterate 1 (repeat (first | with_reducible assumption | ((with_reducible refine Kv.lit_new _ _ _ _ _ _ ?_ ?_ ?_ ?_) <;> (first | (simp; done) | rfl | decide)) | with_reducible exact Kv.none_ _ | with_reducible refine Kv.alloc ?_ _ | with_reducible refine Kv.drew ?_ | with_reducible refine Kv.drewN ?_ _ | with_reducible refine Kv.no ?_ (by assumption)))); rintro e w8 ⟨A8, n8, c8, B8, m8, d8, rfl, hl8, hh8, hf8⟩; obtain ⟨yb8a, yb8b, yb8l, yb8m, yb8n, yb8o, yb8p, yb8q⟩ := (show Ob w8 w7.heap.size #[.slice A7 n7 c7, .slice B7 m7 d7] 25 by (repeat (first | with_reducible assumption | with_reducible refine Ob.other ?_ (by first | (simp; done) | (simp; omega)) _ | ((with_reducible refine Ob.new_ _ _ _ _ ?_) <;> (simp; done)) | with_reducible refine Ob.alloc ?_ _ | with_reducible refine Ob.drew ?_ | with_reducible refine Ob.drewN ?_ _ | with_reducible refine Ob.no ?_ (by assumption)))).two))
  go_wp2_with (go_at_call 13; ((with_reducible refine (sameBox_any (lo := [0, 7]) (hi := [4294967295, 7]) (a := [0, 7]) (b := [4294967295, 7]) ?_ ?_ ?_ ?_).mono ?_); (iterate 4 (repeat (first | with_reducible assumption | ((with_reducible refine Kv.lit_new _ _ _ _ _ _ ?_ ?_ ?_ ?_) <;> (first | (simp; done) | rfl | decide)) | with_reducible exact Kv.none_ _ | with_reducible refine Kv.alloc ?_ _ | with_reducible refine Kv.drew ?_ | with_reducible refine Kv.drewN ?_ _ | with_reducible refine Kv.no ?_ (by assumption)))); rintro e w9 ⟨rfl, hf9⟩; rw [s2]))
  go_ret
  refine ⟨rfl, ?_⟩
  (repeat (first | with_reducible exact Fr.refl _ _ | with_reducible refine Fr.setCell ?_ (.inr (by first | (simp; done) | (simp; omega))) _ | with_reducible refine Fr.alloc ?_ _ | with_reducible refine Fr.drew ?_ | with_reducible refine Fr.drewN ?_ _ | with_reducible refine Fr.tr ?_ (by assumption)))
end Go.Proofs.Ytpkhmakgebaofaa.Qh25
