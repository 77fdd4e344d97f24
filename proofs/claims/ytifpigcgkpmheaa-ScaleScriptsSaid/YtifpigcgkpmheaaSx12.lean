/- Layer 12, law: a scale that is none has no bounds. -/
import Derived.Test.YtifpigcgkpmheaaSw12
import Derived.StillTailTactics
namespace Go.Proofs.Ytifpigcgkpmheaa.Sx12
open Go.RowKit Go.Proofs.Ytifpigcgkpmheaa.Pk08 Go.Proofs.Ytifpigcgkpmheaa.Base Go.Proofs.Ytifpigcgkpmheaa.App Go.Proofs.Ytifpigcgkpmheaa.Ty Go.Proofs.Ytifpigcgkpmheaa.Str Go.Proofs.Ytifpigcgkpmheaa.Ky Go.Proofs.Ytifpigcgkpmheaa.Iv Go.Proofs.Ytifpigcgkpmheaa.Bx Go.Proofs.Ytifpigcgkpmheaa.Bo Go.Proofs.Ytifpigcgkpmheaa.As Go.Proofs.Ytifpigcgkpmheaa.Ro Go.Proofs.Ytifpigcgkpmheaa.Pl08 Go.Proofs.Ytifpigcgkpmheaa.Kc08 Go.Proofs.Ytifpigcgkpmheaa.Ke08 Go.Proofs.Ytifpigcgkpmheaa.Ki08 Go.Proofs.Ytifpigcgkpmheaa.Ka08 Go.Proofs.Ytifpigcgkpmheaa.Ic Go.Proofs.Ytifpigcgkpmheaa.In Go.Proofs.Ytifpigcgkpmheaa.Fa Go.Proofs.Ytifpigcgkpmheaa.Sa12 Go.Proofs.Ytifpigcgkpmheaa.Sb12 Go.Proofs.Ytifpigcgkpmheaa.Sc12 Go.Proofs.Ytifpigcgkpmheaa.Sd12 Go.Proofs.Ytifpigcgkpmheaa.Se12 Go.Proofs.Ytifpigcgkpmheaa.Sf12 Go.Proofs.Ytifpigcgkpmheaa.Sg12 Go.Proofs.Ytifpigcgkpmheaa.Sh12 Go.Proofs.Ytifpigcgkpmheaa.Si12 Go.Proofs.Ytifpigcgkpmheaa.Sk12 Go.Proofs.Ytifpigcgkpmheaa.Sl12 Go.Proofs.Ytifpigcgkpmheaa.St12 Go.Proofs.Ytifpigcgkpmheaa.Sv12 Go.Proofs.Ytifpigcgkpmheaa.Sw12
set_option linter.unusedVariables false
set_option linter.unusedSimpArgs false
theorem op8 {w : World} {g : Nat} {v0 v1 v2 v3 v4 v5 v6 v7 : Value} {T : TypeId} (h : Ob w g #[v0, v1, v2, v3, v4, v5, v6, v7] T) : w.cell? ⟨g, 0, none⟩ = some v0 ∧ w.cell? ⟨g, 1, none⟩ = some v1 ∧ w.cell? ⟨g, 2, none⟩ = some v2 ∧ w.cell? ⟨g, 3, none⟩ = some v3 ∧ w.cell? ⟨g, 4, none⟩ = some v4 ∧ w.cell? ⟨g, 5, none⟩ = some v5 ∧ w.cell? ⟨g, 6, none⟩ = some v6 ∧ w.cell? ⟨g, 7, none⟩ = some v7 :=
  ⟨h.cell 0 rfl, h.cell 1 rfl, h.cell 2 rfl, h.cell 3 rfl, h.cell 4 rfl, h.cell 5 rfl, h.cell 6 rfl, h.cell 7 rfl⟩
section
variable {E1 E2 E3 E4 : TypeId} (w : World)
set_option maxRecDepth 8000 in
set_option maxHeartbeats 6400000 in
theorem law_nil (cs : Array Value) (x : (opT E1 E2 E3 E4).D) (h : Rd (opT E1 E2 E3 E4) w x cs.toList) :
    Calls Try.prog 8 #[.agg cs] w fun e w' => e = .returned (.bool true) ∧ Fr No w w' := by
  obtain ⟨z, a, i, x, L, ln, lc, H, hn, hc, X, xn, xc, Y, yn, yc, lo, hi, xs, ys, hcs, hx, hl, hh, hX, hY⟩ := rd_op h
  have hcs2 : cs = #[.int .i64 z, .int .i64 a, .int .i64 i, .int .u32 (x : Int), .slice L ln lc, .slice H hn hc, .slice X xn xc, .slice Y yn yc] := by rw [← Array.toArray_toList (xs := cs), hcs]
  subst hcs2
  have h1 : ln ≤ maxLen := Nat.le_trans hl.cap hl.most
  have h2 : hn ≤ maxLen := Nat.le_trans hh.cap hh.most
  have h3 : xn ≤ maxLen := Nat.le_trans hX.cap hX.most
  have h4 : yn ≤ maxLen := Nat.le_trans hY.cap hY.most
  clear h hcs hl hh hX hY
  have HO := Lib.hid (Ob.new w #[.int .i64 z, .int .i64 a, .int .i64 i, .int .u32 (x : Int), .slice L ln lc, .slice H hn hc, .slice X xn xc, .slice Y yn yc] 65)
  have HS := Lib.hid (fun W => short_any (w := W) (L := L) (H := H) (X := X) (Y := Y) (lc := lc) (hc := hc) (xc := xc) (yc := yc) (x := x) (z := z) (a := a) (i := i) h1 h2 h3 h4)
  clear h1 h2 h3 h4
  cases hb : shortB ln hn xn yn with
  | false =>
    rw [hb] at HS
    clear hb
    go_enter Try.func8, Try.ntmps8
    go_wp2_with first
      | (go_at_call 29; ((with_reducible refine (HS.out _).mono ?_); rintro e w1 ⟨rfl, hf1⟩))
      | (go_at_call 9; ((with_reducible refine (live _).mono ?_); rintro e wl ⟨rfl, hfl⟩))
      | fail
    go_ret
    exact ⟨rfl, by (repeat (first | with_reducible exact Fr.refl _ _ | with_reducible refine Fr.setCell ?_ (.inr (by first | (simp; done) | (simp; omega))) _ | with_reducible refine Fr.alloc ?_ _ | with_reducible refine Fr.drew ?_ | with_reducible refine Fr.drewN ?_ _ | with_reducible refine Fr.tr ?_ (by assumption)))⟩
  | true =>
    rw [hb] at HS
    clear hb
    go_enter Try.func8, Try.ntmps8
    go_wp2_with first
      | (go_at_call 29; ((with_reducible refine (HS.out _).mono ?_); rintro e w1 ⟨rfl, hf1⟩; (have ho1 := HO.out.no hf1); (obtain ⟨a0, a1, a2, a3, a4, a5, a6, a7⟩ := op8 ho1)))
      | (go_at_call 27; ((with_reducible refine (new_no (z := 7) (by decide)).mono ?_); rintro en w2 ⟨rfl, rfl⟩))
      | (go_at_call 21; ((with_reducible refine (insert_nil _ _).mono ?_); rintro en w3 ⟨rfl, rfl⟩))
      | (go_at_call 18; ((with_reducible refine (sfind_nil _).mono ?_); rintro en w4 ⟨rfl, rfl⟩))
      | (go_at_call 19; ((with_reducible refine (sbox_nil _).mono ?_); rintro en w5 ⟨A5, n5, c5, B5, m5, d5, rfl, hk5, hh5, hf5, _, _⟩; (obtain rfl : n5 = 0 := hk5.len); (have ho5 := ho1.no hf5); (obtain ⟨b0, b1, b2, b3, b4, b5, b6, b7⟩ := op8 (ho5.alloc (.cells #[.slice A5 0 c5, .slice B5 m5 d5] 43)))))
      | (go_at_call 24; ((with_reducible refine (smeet_nil _).mono ?_); rintro en w6 ⟨A6, n6, c6, B6, m6, d6, rfl, hi6, hj6, hf6⟩; (obtain rfl : n6 = 0 := hi6.len); (obtain rfl : m6 = 0 := hj6.len); (have ho6 := (ho5.alloc (.cells #[.slice A5 0 c5, .slice B5 m5 d5] 43)).no hf6); (obtain ⟨r0, r1, r2, r3, r4, r5, r6, r7⟩ := op8 ho6); (obtain ⟨q0, q1, q2, q3⟩ := Ob.four (show Ob w6 w5.heap.size #[.slice A5 0 c5, .slice B5 m5 d5] 43 by (repeat (first | with_reducible assumption | with_reducible refine Ob.other ?_ (by first | (simp; done) | (simp; omega)) _ | ((with_reducible refine Ob.new_ _ _ _ _ ?_) <;> (simp; done)) | with_reducible refine Ob.alloc ?_ _ | with_reducible refine Ob.drew ?_ | with_reducible refine Ob.drewN ?_ _ | with_reducible refine Ob.no ?_ (by assumption)))))))
      | (go_at_call 22; ((with_reducible refine (remove_nil _ _ _).mono ?_); rintro en w7 ⟨rfl, rfl⟩))
      | (go_at_call 14; ((with_reducible refine (sizes_nil _).mono ?_); rintro en w8 ⟨rfl, rfl⟩))
      | (go_at_call 12; ((with_reducible refine (sencode_nil _).mono ?_); rintro en w9 ⟨rfl, rfl⟩))
      | (go_at_call 31; ((with_reducible refine (scopy_nil _).mono ?_); rintro en w10 ⟨rfl, rfl⟩))
      | (go_at_call 9; ((with_reducible refine (live _).mono ?_); rintro e wl ⟨rfl, hfl⟩))
      | fail
    go_ret
    exact ⟨rfl, by (repeat (first | with_reducible exact Fr.refl _ _ | with_reducible refine Fr.setCell ?_ (.inr (by first | (simp; done) | (simp; omega))) _ | with_reducible refine Fr.alloc ?_ _ | with_reducible refine Fr.drew ?_ | with_reducible refine Fr.drewN ?_ _ | with_reducible refine Fr.tr ?_ (by assumption)))⟩
end
end Go.Proofs.Ytifpigcgkpmheaa.Sx12
