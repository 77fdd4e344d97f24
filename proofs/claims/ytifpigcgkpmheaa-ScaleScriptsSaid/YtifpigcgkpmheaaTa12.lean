/- Layer 12, law: the cells that a box meets are all of it. -/
import Derived.Test.YtifpigcgkpmheaaSz12
import Derived.StillTailTactics
namespace Go.Proofs.Ytifpigcgkpmheaa.Ta12
open Go.RowKit Go.Proofs.Ytifpigcgkpmheaa.Pk08 Go.Proofs.Ytifpigcgkpmheaa.Base Go.Proofs.Ytifpigcgkpmheaa.App Go.Proofs.Ytifpigcgkpmheaa.Ty Go.Proofs.Ytifpigcgkpmheaa.Str Go.Proofs.Ytifpigcgkpmheaa.Ky Go.Proofs.Ytifpigcgkpmheaa.Iv Go.Proofs.Ytifpigcgkpmheaa.Bx Go.Proofs.Ytifpigcgkpmheaa.Bo Go.Proofs.Ytifpigcgkpmheaa.As Go.Proofs.Ytifpigcgkpmheaa.Ro Go.Proofs.Ytifpigcgkpmheaa.Pl08 Go.Proofs.Ytifpigcgkpmheaa.Kc08 Go.Proofs.Ytifpigcgkpmheaa.Ke08 Go.Proofs.Ytifpigcgkpmheaa.Ki08 Go.Proofs.Ytifpigcgkpmheaa.Ka08 Go.Proofs.Ytifpigcgkpmheaa.Ic Go.Proofs.Ytifpigcgkpmheaa.In Go.Proofs.Ytifpigcgkpmheaa.Fa Go.Proofs.Ytifpigcgkpmheaa.Sa12 Go.Proofs.Ytifpigcgkpmheaa.Sb12 Go.Proofs.Ytifpigcgkpmheaa.Sc12 Go.Proofs.Ytifpigcgkpmheaa.Sd12 Go.Proofs.Ytifpigcgkpmheaa.Se12 Go.Proofs.Ytifpigcgkpmheaa.Sf12 Go.Proofs.Ytifpigcgkpmheaa.Sg12 Go.Proofs.Ytifpigcgkpmheaa.Sh12 Go.Proofs.Ytifpigcgkpmheaa.Si12 Go.Proofs.Ytifpigcgkpmheaa.Sk12 Go.Proofs.Ytifpigcgkpmheaa.Sl12 Go.Proofs.Ytifpigcgkpmheaa.St12 Go.Proofs.Ytifpigcgkpmheaa.Sv12 Go.Proofs.Ytifpigcgkpmheaa.Sw12 Go.Proofs.Ytifpigcgkpmheaa.Sw12 Go.Proofs.Ytifpigcgkpmheaa.Sz12 Go.Proofs.Ytifpigcgkpmheaa.Kj08 Go.Proofs.Ytifpigcgkpmheaa.Kh08 Go.Proofs.Ytifpigcgkpmheaa.Ky08
set_option linter.unusedVariables false
set_option linter.unusedSimpArgs false
theorem rd_bx {E1 E2 : TypeId} {w : World} {x : (bxT E1 E2).D} {cs : List Value} (h : Rd (bxT E1 E2) w x cs) :
    ∃ (L : Option Addr) (ln lc : Nat) (H : Option Addr) (hn hc : Nat) (lo hi : List Nat), cs = [.slice L ln lc, .slice H hn hc] ∧ Kv w L ln lc lo ∧ Kv w H hn hc hi := by
  obtain ⟨d1, d2, rfl, g1, d3, d4, rfl, g2, g3⟩ := h
  have g3' : d4 = [] := g3
  subst g3'
  have g1' := g1
  have g2' := g2
  obtain ⟨L, lc, rfl, _⟩ := g1'
  obtain ⟨H, hc', rfl, _⟩ := g2'
  exact ⟨L, _, lc, H, _, hc', _, _, rfl, Kv.of_rd g1, Kv.of_rd g2⟩
theorem sameBox_self {w : World} {A B C D : Option Addr} {n m p q cn cm cp cq : Nat} {lo hi : List Nat} (hl : Kv w A n cn lo) (hh : Kv w B m cm hi) (ha : Kv w C p cp lo) (hb : Kv w D q cq hi) :
    Calls Try.prog 26 #[.agg #[.slice A n cn, .slice B m cm], .agg #[.slice C p cp, .slice D q cq]] w fun e w' => e = .returned (.bool true) ∧ Fr No w w' := by
  have h := sameBox_any hl hh ha hb
  rw [cmp_self, cmp_self] at h
  exact h
section
variable {E E1 E2 E3 E4 E5 E6 : TypeId} (w : World)
set_option maxRecDepth 8000 in
set_option maxHeartbeats 6400000 in
theorem law_meets (d : Int) (hzd : (Lit.int .i64 d).wf = true) (A : Option Addr) (n c : Nat) (x : List (opT E1 E2 E3 E4).D) (h : Rd (.sl E (opT E1 E2 E3 E4)) w x [.slice A n c]) (cs : Array Value) (y : (bxT E5 E6).D) (hy : Rd (bxT E5 E6) w y cs.toList) :
    Calls Try.prog 6 #[.int .i64 d, .slice A n c, .agg cs] w fun e w' => e = .returned (.bool true) ∧ Fr No w w' := by
  obtain ⟨L, ln, lc, H, hn, hc, lo, hi, hcs, hl, hh⟩ := rd_bx hy
  have hcs2 : cs = #[.slice L ln lc, .slice H hn hc] := by rw [← Array.toArray_toList (xs := cs), hcs]
  subst hcs2
  have HS := Lib.hid (Ops.of_rd h)
  have HO := Lib.hid (Ob.new w #[.slice L ln lc, .slice H hn hc] 43)
  have hmx : maxLen ≤ 9223372036854775807 := by decide
  clear h hzd hcs hy
  rcases chkB_rng lo hi d with hb | hb
  · obtain ⟨q1, q2, q3, q4⟩ := chkB_zero.1 hb
    obtain ⟨d0, rfl⟩ : ∃ d0 : Nat, d = (d0 : Int) := ⟨d.toNat, by omega⟩
    have Hb := Lib.hid hb
    have HQ := Lib.hid (⟨q1, q2, q3, q4⟩ : 1 ≤ (d0 : Int) ∧ (d0 : Int) ≤ 6 ∧ (lo.length : Int) = d0 ∧ leL lo hi = true)
    have HG := Lib.hid (fun W (f : Fr No w W) => grown_in (d := d0) (HS.out.no f) (by omega) (by omega))
    have HL := Lib.hid hl
    have HH := Lib.hid hh
    clear hb q1 q2 q3 q4 hl hh
    go_enter Try.func6, Try.ntmps6
    go_upto_region 4 with first
      | (go_at_call 23; ((with_reducible refine (rcheckBox_any (lo := lo) (hi := hi) _ ?_ ?_).mono ?_); (focus ((have hk := HL.out); (repeat (first | with_reducible assumption | ((with_reducible refine Kv.lit_new _ _ _ _ _ _ ?_ ?_ ?_ ?_) <;> (first | (simp; done) | rfl | decide)) | with_reducible exact Kv.none_ _ | with_reducible refine Kv.alloc ?_ _ | with_reducible refine Kv.drew ?_ | with_reducible refine Kv.drewN ?_ _ | with_reducible refine Kv.no ?_ (by assumption))); done)); (focus ((have hk := HH.out); (repeat (first | with_reducible assumption | ((with_reducible refine Kv.lit_new _ _ _ _ _ _ ?_ ?_ ?_ ?_) <;> (first | (simp; done) | rfl | decide)) | with_reducible exact Kv.none_ _ | with_reducible refine Kv.alloc ?_ _ | with_reducible refine Kv.drew ?_ | with_reducible refine Kv.drewN ?_ _ | with_reducible refine Kv.no ?_ (by assumption))); done)); rintro e w1 ⟨rfl, hf1⟩; rw [Hb.out]))
      | (go_at_call 17; ((with_reducible refine (HG.out _ (by (repeat (first | with_reducible exact Fr.refl _ _ | with_reducible refine Fr.setCell ?_ (.inr (by first | (simp; done) | (simp; omega))) _ | with_reducible refine Fr.alloc ?_ _ | with_reducible refine Fr.drew ?_ | with_reducible refine Fr.drewN ?_ _ | with_reducible refine Fr.tr ?_ (by assumption))))).mono ?_); rintro en w2 ⟨gs, rows, rfl, hs2, hg, hlen⟩))
      | fail
    have HF2 := Lib.hid (show Fr No w w2 from (((Fr.refl No w).alloc _).tr hf1).tr hs2.fr)
    have ho2 := (HO.out.no hf1).no hs2.fr
    have hl2 := HL.out.no HF2.out
    have hh2 := HH.out.no HF2.out
    have HGd := Lib.hid hg
    have HS2 := Lib.hid hs2
    have HLaw := Lib.hid (meets_law hlen Hb.out hl2.lt hh2.lt)
    have Hbr := Lib.hid (show chkB lo hi rows.length = 0 by rw [hlen]; exact Hb.out)
    have hll : lo.length = rows.length := by have := HQ.out.2.2.1; omega
    have hhl : hi.length = rows.length := by rw [← ((leL_iff _ _).1 HQ.out.2.2.2).1]; exact hll
    have HOk := Lib.hid (find_ok hll hhl (fun i hi' => ((leL_iff _ _).1 HQ.out.2.2.2).2 i (by omega)))
    have HOl := Lib.hid (find_ok hll hll (fun i hi' => Nat.le_refl _))
    have HOh := Lib.hid (find_ok hhl hhl (fun i hi' => Nat.le_refl _))
    have HIl := Lib.hid (in_cell hll hl2.lt)
    have HIh := Lib.hid (in_cell hhl hh2.lt)
    have hfl : (findL rows lo).length = rows.length := findL_len hll
    have hlx : (boxLo rows (findL rows lo)).length = rows.length := boxLo_len (findL_len hll)
    have hfh : (findL rows hi).length = rows.length := findL_len hhl
    have hrd : rows.length = d0 := hlen
    have hd6 : d0 ≤ 6 := by have := HQ.out.2.1; omega
    clear hs2 hg hlen hf1 HG HQ Hb hll hhl
    have HM := Lib.hid (fun W (f : Fr No w2 W) => os_meet (HS2.out.no f) HGd.out (hl2.no f) (hh2.no f) (findL rows lo) (findL rows hi) 0 (fun _ => ⟨rfl, rfl, rfl⟩) (fun e => absurd (Hbr.out.symm.trans e) (by decide)))
    have HBx := Lib.hid (fun (W : World) (f : Fr No w2 W) (X Y : Option Addr) (xn xc yn yc : Nat) (xs ys : List Int) (hx : Iv W X xn xc xs) (hy : Iv W Y yn yc ys) (hok : boxOk rows xs ys) => os_box (HS2.out.no f) HGd.out hx hy (boxLo rows xs) (boxHi rows ys) 0 (fun _ => ⟨rfl, rfl, rfl⟩) (fun e => absurd hok e))
    have HBa := Lib.hid (fun (W : World) (f : Fr No w2 W) (X Y : Option Addr) (xn xc yn yc : Nat) (hx : Iv W X xn xc (findL rows lo)) (hy : Iv W Y yn yc (findL rows hi)) => HBx.out W f X Y xn xc yn yc _ _ hx hy HOk.out)
    have HBb := Lib.hid (fun (W : World) (f : Fr No w2 W) (X : Option Addr) (xn xc : Nat) (hx : Iv W X xn xc (findL rows lo)) => HBx.out W f X X xn xc xn xc _ _ hx hx HOl.out)
    have HBc := Lib.hid (fun (W : World) (f : Fr No w2 W) (X : Option Addr) (xn xc : Nat) (hx : Iv W X xn xc (findL rows hi)) => HBx.out W f X X xn xc xn xc _ _ hx hx HOh.out)
    clear HS2 HGd Hbr HBx HOk HOl HOh
    generalize findL rows lo = xs at *
    generalize findL rows hi = ys at *
    generalize boxLo rows xs = lx at *
    generalize boxHi rows xs = hx at *
    generalize boxLo rows ys = ly at *
    generalize boxHi rows ys = hy at *
    obtain ⟨b0, b1, b2, b3⟩ := Ob.four ho2
    go_upto_region 5 with first
      | (go_at_call 24; ((with_reducible refine (HM.out _ (Fr.refl _ _)).mono ?_); rintro en w3 ⟨A3, n3, c3, B3, m3, d3, rfl, hi3, hj3, hf3⟩))
      | fail
    obtain rfl : n3 = d0 := by rw [hi3.len]; omega
    obtain rfl : m3 = n3 := by rw [hj3.len]; omega
    have HRM := Lib.hid (fun (W : World) (A B C D : Option Addr) (n cn m cm p cp q cq : Nat) (h1 : Kv W A n cn lx) (h2 : Kv W B m cm hy) (h3 : Kv W C p cp lo) (h4 : Kv W D q cq hi) (hn : n ≤ 1000000) => rmeet_any h1 h2 h3 h4 hn)
    rw [HLaw.out.1, HLaw.out.2.1, HLaw.out.2.2] at HRM
    go_wp2_with first
      | (go_at_call 19; ((with_reducible refine (HBa.out _ hf3 _ _ _ _ _ _ hi3 hj3).mono ?_); rintro en w4 ⟨A4, n4, c4, B4, m4, d4, rfl, hk4, hq4, hf4, _, _⟩; (obtain ⟨x0, x1, _, _⟩ := Ob.four (show Ob (w4.alloc (.cells #[.slice A4 n4 c4, .slice B4 m4 d4] 43)) w.heap.size #[.slice L ln lc, .slice H hn hc] 43 by (repeat (first | with_reducible assumption | with_reducible refine Ob.other ?_ (by first | (simp; done) | (simp; omega)) _ | ((with_reducible refine Ob.new_ _ _ _ _ ?_) <;> (simp; done)) | with_reducible refine Ob.alloc ?_ _ | with_reducible refine Ob.drew ?_ | with_reducible refine Ob.drewN ?_ _ | with_reducible refine Ob.no ?_ (by assumption)))))))
      | (go_at_call 25; ((with_reducible refine (HRM.out _ _ _ _ _ _ _ _ _ _ _ _ _ ?_ ?_ ?_ ?_ ?_).mono ?_); (focus ((repeat (first | with_reducible assumption | ((with_reducible refine Kv.lit_new _ _ _ _ _ _ ?_ ?_ ?_ ?_) <;> (first | (simp; done) | rfl | decide)) | with_reducible exact Kv.none_ _ | with_reducible refine Kv.alloc ?_ _ | with_reducible refine Kv.drew ?_ | with_reducible refine Kv.drewN ?_ _ | with_reducible refine Kv.no ?_ (by assumption))); done)); (focus ((repeat (first | with_reducible assumption | ((with_reducible refine Kv.lit_new _ _ _ _ _ _ ?_ ?_ ?_ ?_) <;> (first | (simp; done) | rfl | decide)) | with_reducible exact Kv.none_ _ | with_reducible refine Kv.alloc ?_ _ | with_reducible refine Kv.drew ?_ | with_reducible refine Kv.drewN ?_ _ | with_reducible refine Kv.no ?_ (by assumption))); done)); (focus ((repeat (first | with_reducible assumption | ((with_reducible refine Kv.lit_new _ _ _ _ _ _ ?_ ?_ ?_ ?_) <;> (first | (simp; done) | rfl | decide)) | with_reducible exact Kv.none_ _ | with_reducible refine Kv.alloc ?_ _ | with_reducible refine Kv.drew ?_ | with_reducible refine Kv.drewN ?_ _ | with_reducible refine Kv.no ?_ (by assumption))); done)); (focus ((repeat (first | with_reducible assumption | ((with_reducible refine Kv.lit_new _ _ _ _ _ _ ?_ ?_ ?_ ?_) <;> (first | (simp; done) | rfl | decide)) | with_reducible exact Kv.none_ _ | with_reducible refine Kv.alloc ?_ _ | with_reducible refine Kv.drew ?_ | with_reducible refine Kv.drewN ?_ _ | with_reducible refine Kv.no ?_ (by assumption))); done)); (focus (rw [hk4.len]; omega)); rintro en w5 ⟨A5, n5, c5, B5, m5, d5, rfl, hk5, hq5, hf5⟩))
      | fail
    have H6 := HIl.out
    have H7 := HIh.out
    go_wp2_with first
      | (go_at_call 19; ((with_reducible refine (HBb.out _ ?_ A3 _ _ ?_).mono ?_); (focus ((repeat (first | with_reducible exact Fr.refl _ _ | with_reducible refine Fr.setCell ?_ (.inr (by first | (simp; done) | (simp; omega))) _ | with_reducible refine Fr.alloc ?_ _ | with_reducible refine Fr.drew ?_ | with_reducible refine Fr.drewN ?_ _ | with_reducible refine Fr.tr ?_ (by assumption))); done)); (focus ((repeat (first | with_reducible assumption | ((with_reducible refine Iv.lit_new _ _ _ _ _ _ ?_ ?_ ?_ ?_) <;> (first | (simp; done) | rfl | decide)) | with_reducible exact Iv.none_ _ | with_reducible refine Iv.alloc ?_ _ | with_reducible refine Iv.drew ?_ | with_reducible refine Iv.drewN ?_ _ | with_reducible refine Iv.no ?_ (by assumption))); done)); rintro en w6 ⟨A6, n6, c6, B6, m6, d6, rfl, hk6, hq6, hf6, _, _⟩))
      | (go_at_call 19; ((with_reducible refine (HBc.out _ ?_ B3 _ _ ?_).mono ?_); (focus ((repeat (first | with_reducible exact Fr.refl _ _ | with_reducible refine Fr.setCell ?_ (.inr (by first | (simp; done) | (simp; omega))) _ | with_reducible refine Fr.alloc ?_ _ | with_reducible refine Fr.drew ?_ | with_reducible refine Fr.drewN ?_ _ | with_reducible refine Fr.tr ?_ (by assumption))); done)); (focus ((repeat (first | with_reducible assumption | ((with_reducible refine Iv.lit_new _ _ _ _ _ _ ?_ ?_ ?_ ?_) <;> (first | (simp; done) | rfl | decide)) | with_reducible exact Iv.none_ _ | with_reducible refine Iv.alloc ?_ _ | with_reducible refine Iv.drew ?_ | with_reducible refine Iv.drewN ?_ _ | with_reducible refine Iv.no ?_ (by assumption))); done)); rintro en w7 ⟨A7, n7, c7, B7, m7, d7, rfl, hk7, hq7, hf7, _, _⟩; (obtain ⟨y0, y1, _, _⟩ := Ob.four (show Ob (w7.alloc (.cells #[.slice A7 n7 c7, .slice B7 m7 d7] 43)) w.heap.size #[.slice L ln lc, .slice H hn hc] 43 by (repeat (first | with_reducible assumption | with_reducible refine Ob.other ?_ (by first | (simp; done) | (simp; omega)) _ | ((with_reducible refine Ob.new_ _ _ _ _ ?_) <;> (simp; done)) | with_reducible refine Ob.alloc ?_ _ | with_reducible refine Ob.drew ?_ | with_reducible refine Ob.drewN ?_ _ | with_reducible refine Ob.no ?_ (by assumption))))); (obtain ⟨u0, u1, _, _⟩ := Ob.four (show Ob (w7.alloc (.cells #[.slice A7 n7 c7, .slice B7 m7 d7] 43)) w5.heap.size #[.slice A5 n5 c5, .slice B5 m5 d5] 43 by (repeat (first | with_reducible assumption | with_reducible refine Ob.other ?_ (by first | (simp; done) | (simp; omega)) _ | ((with_reducible refine Ob.new_ _ _ _ _ ?_) <;> (simp; done)) | with_reducible refine Ob.alloc ?_ _ | with_reducible refine Ob.drew ?_ | with_reducible refine Ob.drewN ?_ _ | with_reducible refine Ob.no ?_ (by assumption)))))))
      | fail
    go_wp2_with first
      | (go_at_call 26; ((with_reducible refine (sameBox_self (lo := lo) (hi := hi) ?_ ?_ ?_ ?_).mono ?_); (focus ((repeat (first | with_reducible assumption | ((with_reducible refine Kv.lit_new _ _ _ _ _ _ ?_ ?_ ?_ ?_) <;> (first | (simp; done) | rfl | decide)) | with_reducible exact Kv.none_ _ | with_reducible refine Kv.alloc ?_ _ | with_reducible refine Kv.drew ?_ | with_reducible refine Kv.drewN ?_ _ | with_reducible refine Kv.no ?_ (by assumption))); done)); (focus ((repeat (first | with_reducible assumption | ((with_reducible refine Kv.lit_new _ _ _ _ _ _ ?_ ?_ ?_ ?_) <;> (first | (simp; done) | rfl | decide)) | with_reducible exact Kv.none_ _ | with_reducible refine Kv.alloc ?_ _ | with_reducible refine Kv.drew ?_ | with_reducible refine Kv.drewN ?_ _ | with_reducible refine Kv.no ?_ (by assumption))); done)); (focus ((repeat (first | with_reducible assumption | ((with_reducible refine Kv.lit_new _ _ _ _ _ _ ?_ ?_ ?_ ?_) <;> (first | (simp; done) | rfl | decide)) | with_reducible exact Kv.none_ _ | with_reducible refine Kv.alloc ?_ _ | with_reducible refine Kv.drew ?_ | with_reducible refine Kv.drewN ?_ _ | with_reducible refine Kv.no ?_ (by assumption))); done)); (focus ((repeat (first | with_reducible assumption | ((with_reducible refine Kv.lit_new _ _ _ _ _ _ ?_ ?_ ?_ ?_) <;> (first | (simp; done) | rfl | decide)) | with_reducible exact Kv.none_ _ | with_reducible refine Kv.alloc ?_ _ | with_reducible refine Kv.drew ?_ | with_reducible refine Kv.drewN ?_ _ | with_reducible refine Kv.no ?_ (by assumption))); done)); rintro en w8 ⟨rfl, hf8⟩; (obtain ⟨y0, y1, _, _⟩ := Ob.four (show Ob w8 w.heap.size #[.slice L ln lc, .slice H hn hc] 43 by (repeat (first | with_reducible assumption | with_reducible refine Ob.other ?_ (by first | (simp; done) | (simp; omega)) _ | ((with_reducible refine Ob.new_ _ _ _ _ ?_) <;> (simp; done)) | with_reducible refine Ob.alloc ?_ _ | with_reducible refine Ob.drew ?_ | with_reducible refine Ob.drewN ?_ _ | with_reducible refine Ob.no ?_ (by assumption))))); (obtain ⟨u0, u1, _, _⟩ := Ob.four (show Ob w8 w6.heap.size #[.slice A6 n6 c6, .slice B6 m6 d6] 43 by (repeat (first | with_reducible assumption | with_reducible refine Ob.other ?_ (by first | (simp; done) | (simp; omega)) _ | ((with_reducible refine Ob.new_ _ _ _ _ ?_) <;> (simp; done)) | with_reducible refine Ob.alloc ?_ _ | with_reducible refine Ob.drew ?_ | with_reducible refine Ob.drewN ?_ _ | with_reducible refine Ob.no ?_ (by assumption)))))))
      | (go_at_call 20; ((with_reducible refine (rin_any (k := lo) (lo := lx) (hi := hx) ?_ ?_ ?_).mono ?_); (focus ((repeat (first | with_reducible assumption | ((with_reducible refine Kv.lit_new _ _ _ _ _ _ ?_ ?_ ?_ ?_) <;> (first | (simp; done) | rfl | decide)) | with_reducible exact Kv.none_ _ | with_reducible refine Kv.alloc ?_ _ | with_reducible refine Kv.drew ?_ | with_reducible refine Kv.drewN ?_ _ | with_reducible refine Kv.no ?_ (by assumption))); done)); (focus ((repeat (first | with_reducible assumption | ((with_reducible refine Kv.lit_new _ _ _ _ _ _ ?_ ?_ ?_ ?_) <;> (first | (simp; done) | rfl | decide)) | with_reducible exact Kv.none_ _ | with_reducible refine Kv.alloc ?_ _ | with_reducible refine Kv.drew ?_ | with_reducible refine Kv.drewN ?_ _ | with_reducible refine Kv.no ?_ (by assumption))); done)); (focus ((repeat (first | with_reducible assumption | ((with_reducible refine Kv.lit_new _ _ _ _ _ _ ?_ ?_ ?_ ?_) <;> (first | (simp; done) | rfl | decide)) | with_reducible exact Kv.none_ _ | with_reducible refine Kv.alloc ?_ _ | with_reducible refine Kv.drew ?_ | with_reducible refine Kv.drewN ?_ _ | with_reducible refine Kv.no ?_ (by assumption))); done)); rw [H6]; rintro en w9 ⟨rfl, hf9⟩; (obtain ⟨y0, y1, _, _⟩ := Ob.four (show Ob w9 w.heap.size #[.slice L ln lc, .slice H hn hc] 43 by (repeat (first | with_reducible assumption | with_reducible refine Ob.other ?_ (by first | (simp; done) | (simp; omega)) _ | ((with_reducible refine Ob.new_ _ _ _ _ ?_) <;> (simp; done)) | with_reducible refine Ob.alloc ?_ _ | with_reducible refine Ob.drew ?_ | with_reducible refine Ob.drewN ?_ _ | with_reducible refine Ob.no ?_ (by assumption))))); (obtain ⟨u0, u1, _, _⟩ := Ob.four (show Ob w9 w7.heap.size #[.slice A7 n7 c7, .slice B7 m7 d7] 43 by (repeat (first | with_reducible assumption | with_reducible refine Ob.other ?_ (by first | (simp; done) | (simp; omega)) _ | ((with_reducible refine Ob.new_ _ _ _ _ ?_) <;> (simp; done)) | with_reducible refine Ob.alloc ?_ _ | with_reducible refine Ob.drew ?_ | with_reducible refine Ob.drewN ?_ _ | with_reducible refine Ob.no ?_ (by assumption)))))))
      | (go_at_call 20; ((with_reducible refine (rin_any (k := hi) (lo := ly) (hi := hy) ?_ ?_ ?_).mono ?_); (focus ((repeat (first | with_reducible assumption | ((with_reducible refine Kv.lit_new _ _ _ _ _ _ ?_ ?_ ?_ ?_) <;> (first | (simp; done) | rfl | decide)) | with_reducible exact Kv.none_ _ | with_reducible refine Kv.alloc ?_ _ | with_reducible refine Kv.drew ?_ | with_reducible refine Kv.drewN ?_ _ | with_reducible refine Kv.no ?_ (by assumption))); done)); (focus ((repeat (first | with_reducible assumption | ((with_reducible refine Kv.lit_new _ _ _ _ _ _ ?_ ?_ ?_ ?_) <;> (first | (simp; done) | rfl | decide)) | with_reducible exact Kv.none_ _ | with_reducible refine Kv.alloc ?_ _ | with_reducible refine Kv.drew ?_ | with_reducible refine Kv.drewN ?_ _ | with_reducible refine Kv.no ?_ (by assumption))); done)); (focus ((repeat (first | with_reducible assumption | ((with_reducible refine Kv.lit_new _ _ _ _ _ _ ?_ ?_ ?_ ?_) <;> (first | (simp; done) | rfl | decide)) | with_reducible exact Kv.none_ _ | with_reducible refine Kv.alloc ?_ _ | with_reducible refine Kv.drew ?_ | with_reducible refine Kv.drewN ?_ _ | with_reducible refine Kv.no ?_ (by assumption))); done)); rw [H7]; rintro en w10 ⟨rfl, hf10⟩))
      | (go_at_call 9; ((with_reducible refine (live _).mono ?_); rintro e wl ⟨rfl, hfl⟩))
      | fail
    go_ret
    exact ⟨rfl, by have hf2 := HF2.out; (repeat (first | with_reducible exact Fr.refl _ _ | with_reducible refine Fr.setCell ?_ (.inr (by first | (simp; done) | (simp; omega))) _ | with_reducible refine Fr.alloc ?_ _ | with_reducible refine Fr.drew ?_ | with_reducible refine Fr.drewN ?_ _ | with_reducible refine Fr.tr ?_ (by assumption)))⟩
  · have Hb := Lib.hid hb
    have HL := Lib.hid hl
    have HH := Lib.hid hh
    clear hb hl hh
    go_enter Try.func6, Try.ntmps6
    go_wp2_with first
      | (go_at_call 23; ((with_reducible refine (rcheckBox_any (lo := lo) (hi := hi) _ ?_ ?_).mono ?_); (focus ((have hk := HL.out); (repeat (first | with_reducible assumption | ((with_reducible refine Kv.lit_new _ _ _ _ _ _ ?_ ?_ ?_ ?_) <;> (first | (simp; done) | rfl | decide)) | with_reducible exact Kv.none_ _ | with_reducible refine Kv.alloc ?_ _ | with_reducible refine Kv.drew ?_ | with_reducible refine Kv.drewN ?_ _ | with_reducible refine Kv.no ?_ (by assumption))); done)); (focus ((have hk := HH.out); (repeat (first | with_reducible assumption | ((with_reducible refine Kv.lit_new _ _ _ _ _ _ ?_ ?_ ?_ ?_) <;> (first | (simp; done) | rfl | decide)) | with_reducible exact Kv.none_ _ | with_reducible refine Kv.alloc ?_ _ | with_reducible refine Kv.drew ?_ | with_reducible refine Kv.drewN ?_ _ | with_reducible refine Kv.no ?_ (by assumption))); done)); rintro e w1 ⟨rfl, hf1⟩; rw [Hb.out]))
      | (go_at_call 9; ((with_reducible refine (live _).mono ?_); rintro e wl ⟨rfl, hfl⟩))
      | fail
    go_ret
    exact ⟨rfl, by (repeat (first | with_reducible exact Fr.refl _ _ | with_reducible refine Fr.setCell ?_ (.inr (by first | (simp; done) | (simp; omega))) _ | with_reducible refine Fr.alloc ?_ _ | with_reducible refine Fr.drew ?_ | with_reducible refine Fr.drewN ?_ _ | with_reducible refine Fr.tr ?_ (by assumption)))⟩
end
end Go.Proofs.Ytifpigcgkpmheaa.Ta12
