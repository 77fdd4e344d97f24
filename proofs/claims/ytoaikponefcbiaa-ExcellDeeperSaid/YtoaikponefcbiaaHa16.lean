/- Layer 11: whether a box has a coordinate, its middle there, and its halves (the program's). -/
import Derived.Test.YtoaikponefcbiaaPx16
import Derived.Test.YtoaikponefcbiaaBo
import Derived.Test.YtoaikponefcbiaaCl
import Derived.Test.YtoaikponefcbiaaKe08
import Derived.Deep.QuietTactic
import Derived.BigQuiet
import Derived.BigRegion
import Derived.Deep.DeepCutAuto
import Derived.Deep.LoopGhost
import Derived.Deep.RegionHeld3
namespace Go.Proofs.Ytoaikponefcbiaa.Ha16
open Go.RowKit Go.Proofs.Ytoaikponefcbiaa.Pk08 Go.Proofs.Ytoaikponefcbiaa.Base Go.Proofs.Ytoaikponefcbiaa.App Go.Proofs.Ytoaikponefcbiaa.Ky Go.Proofs.Ytoaikponefcbiaa.Bx Go.Proofs.Ytoaikponefcbiaa.Kk Go.Proofs.Ytoaikponefcbiaa.Bo Go.Proofs.Ytoaikponefcbiaa.Cl Go.Proofs.Ytoaikponefcbiaa.Pl08 Go.Proofs.Ytoaikponefcbiaa.Kc08 Go.Proofs.Ytoaikponefcbiaa.Ke08 Go.Proofs.Ytoaikponefcbiaa.Px16
set_option linter.unusedVariables false
set_option linter.unusedSimpArgs false
theorem hasB_iff {lo hi : List Nat} {i : Int} : hasB lo hi i = true ↔ (0 ≤ i ∧ i < lo.length ∧ chkB lo hi lo.length = 0) := by unfold hasB; rw [decide_eq_true_eq]
/-- What a box is that has a coordinate. -/
theorem has_parts {lo hi : List Nat} {j : Nat} (h : hasB lo hi j = true) : j < lo.length ∧ lo.length ≤ 6 ∧ hi.length = lo.length ∧ lo.getD j 0 ≤ hi.getD j 0 := by
  obtain ⟨h1, h2, h3⟩ := hasB_iff.1 h
  obtain ⟨h4, h5, h6, h7⟩ := chkB_zero.1 h3
  obtain ⟨h8, h9⟩ := (leL_iff _ _).1 h7
  exact ⟨by omega, by omega, h8.symm, h9 j (by omega)⟩
def midE (lo hi : List Nat) (i : Int) : Nat := if hasB lo hi i = true then midB lo hi i.toNat else 0
section
variable {w : World} {A B : Option Addr} {n cn m cm : Nat} {lo hi : List Nat}
theorem has_any (i : Int) (hl : Kv w A n cn lo) (hh : Kv w B m cm hi) :
    Calls Try.prog 50 #[.agg #[.slice A n cn, .slice B m cm], .int .i64 i] w fun e w' => e = .returned (.bool (hasB lo hi i)) ∧ Fr No w w' := by
  have hlen := Lib.hid hl.len
  by_cases h0 : 0 ≤ i
  · by_cases h1 : i < (n : Int)
    · have E := Lib.hid (show hasB lo hi i = (chkB lo hi n == 0) by
        unfold hasB
        rw [← hlen.out]
        by_cases h : chkB lo hi n = 0 <;> simp [h, h0, h1])
      rw [E.out]
      go_enter Try.func50, Try.ntmps50
      go_wp2_with (go_at_call 33; ((with_reducible refine (checkBox_any (lo := lo) (hi := hi) _ ?_ ?_).mono ?_); (iterate 2 (repeat (first | with_reducible assumption | ((with_reducible refine Kv.lit_new _ _ _ _ _ _ ?_ ?_ ?_ ?_) <;> (first | (simp; done) | rfl | decide)) | with_reducible exact Kv.none_ _ | with_reducible refine Kv.alloc ?_ _ | with_reducible refine Kv.drew ?_ | with_reducible refine Kv.drewN ?_ _ | with_reducible refine Kv.no ?_ (by assumption)))); rintro e w1 ⟨rfl, hf1⟩))
      go_ret
      refine ⟨rfl, ?_⟩
      (repeat (first | with_reducible exact Fr.refl _ _ | with_reducible refine Fr.setCell ?_ (.inr (by first | (simp; done) | (simp; omega))) _ | with_reducible refine Fr.alloc ?_ _ | with_reducible refine Fr.drew ?_ | with_reducible refine Fr.drewN ?_ _ | with_reducible refine Fr.tr ?_ (by assumption)))
    · have E := Lib.hid (show hasB lo hi i = false by
        unfold hasB
        rw [← hlen.out]
        simp [h0, h1])
      rw [E.out]
      have h1' : (n : Int) ≤ i := by omega
      clear h1
      go_enter Try.func50, Try.ntmps50
      go_wp2
      go_ret
      refine ⟨rfl, ?_⟩
      (repeat (first | with_reducible exact Fr.refl _ _ | with_reducible refine Fr.setCell ?_ (.inr (by first | (simp; done) | (simp; omega))) _ | with_reducible refine Fr.alloc ?_ _ | with_reducible refine Fr.drew ?_ | with_reducible refine Fr.drewN ?_ _ | with_reducible refine Fr.tr ?_ (by assumption)))
  · have E := Lib.hid (show hasB lo hi i = false by
      unfold hasB
      simp [h0])
    rw [E.out]
    have h0' : i < 0 := by omega
    clear h0
    go_enter Try.func50, Try.ntmps50
    go_wp2
    go_ret
    refine ⟨rfl, ?_⟩
    (repeat (first | with_reducible exact Fr.refl _ _ | with_reducible refine Fr.setCell ?_ (.inr (by first | (simp; done) | (simp; omega))) _ | with_reducible refine Fr.alloc ?_ _ | with_reducible refine Fr.drew ?_ | with_reducible refine Fr.drewN ?_ _ | with_reducible refine Fr.tr ?_ (by assumption)))
set_option maxHeartbeats 800000 in
theorem middle_no (i : Int) (hl : Kv w A n cn lo) (hh : Kv w B m cm hi) (hb : hasB lo hi i = false) :
    Calls Try.prog 39 #[.agg #[.slice A n cn, .slice B m cm], .int .i64 i] w fun e w' => e = .returned (.tuple #[.int .u32 0, .bool false]) ∧ Fr No w w' := by
  have Hb := Lib.hid hb
  clear hb
  go_enter Try.func39, Try.ntmps39
  go_wp2_with (go_at_call 50; ((with_reducible refine (has_any (lo := lo) (hi := hi) _ ?_ ?_).mono ?_); (iterate 2 (repeat (first | with_reducible assumption | ((with_reducible refine Kv.lit_new _ _ _ _ _ _ ?_ ?_ ?_ ?_) <;> (first | (simp; done) | rfl | decide)) | with_reducible exact Kv.none_ _ | with_reducible refine Kv.alloc ?_ _ | with_reducible refine Kv.drew ?_ | with_reducible refine Kv.drewN ?_ _ | with_reducible refine Kv.no ?_ (by assumption)))); rintro e w1 ⟨rfl, hf1⟩; rw [Hb.out]))
  go_ret2
  refine ⟨rfl, ?_⟩
  (repeat (first | with_reducible exact Fr.refl _ _ | with_reducible refine Fr.setCell ?_ (.inr (by first | (simp; done) | (simp; omega))) _ | with_reducible refine Fr.alloc ?_ _ | with_reducible refine Fr.drew ?_ | with_reducible refine Fr.drewN ?_ _ | with_reducible refine Fr.tr ?_ (by assumption)))
set_option maxHeartbeats 800000 in
theorem middle_yes (j : Nat) (hl : Kv w A n cn lo) (hh : Kv w B m cm hi) (hb : hasB lo hi j = true) :
    Calls Try.prog 39 #[.agg #[.slice A n cn, .slice B m cm], .int .i64 (j : Int)] w fun e w' => e = .returned (.tuple #[.int .u32 (midB lo hi j : Int), .bool (decide (lo.getD j 0 < hi.getD j 0))]) ∧ Fr No w w' := by
  obtain ⟨p1, p2, p3, p4⟩ := has_parts hb
  have q1 : j < n := by have := hl.len; omega
  have q2 : j < m := by have := hh.len; omega
  have q3 := hl.cap
  have q4 := hl.most
  have q5 := hh.cap
  have q6 := hh.most
  have hmx : maxLen ≤ 9223372036854775807 := by decide
  obtain ⟨ga, oa, rfl, ca⟩ := hl.get j (by omega)
  obtain ⟨gb, ob, rfl, cb⟩ := hh.get j (by omega)
  have la := World.block_lt_of_cell? w _ ca
  have lb := World.block_lt_of_cell? w _ cb
  have hmid := Lib.hid (show (midB lo hi j : Int) = (lo.getD j 0 : Int) + ((hi.getD j 0 : Int) - (lo.getD j 0 : Int)) / 2 by unfold midB; omega)
  have b1 := hl.ltD j
  have b2 := hh.ltD j
  have Hb := Lib.hid hb
  rw [hmid.out]
  clear hb hmid
  generalize lo.getD j 0 = x at *
  generalize hi.getD j 0 = y at *
  go_enter Try.func39, Try.ntmps39
  go_wp2_with (go_at_call 50; ((with_reducible refine (has_any (lo := lo) (hi := hi) _ ?_ ?_).mono ?_); (iterate 2 (repeat (first | with_reducible assumption | ((with_reducible refine Kv.lit_new _ _ _ _ _ _ ?_ ?_ ?_ ?_) <;> (first | (simp; done) | rfl | decide)) | with_reducible exact Kv.none_ _ | with_reducible refine Kv.alloc ?_ _ | with_reducible refine Kv.drew ?_ | with_reducible refine Kv.drewN ?_ _ | with_reducible refine Kv.no ?_ (by assumption)))); rintro e w1 ⟨rfl, hf1⟩; rw [Hb.out]; obtain ⟨yza, yzb, yzl, yzm, yzn, yzo, yzp, yzq⟩ := (show Ob w1 w.heap.size #[.slice (some ⟨ga, oa, none⟩) n cn, .slice (some ⟨gb, ob, none⟩) m cm] 28 by (repeat (first | with_reducible assumption | with_reducible refine Ob.other ?_ (by first | (simp; done) | (simp; omega)) _ | ((with_reducible refine Ob.new_ _ _ _ _ ?_) <;> (simp; done)) | with_reducible refine Ob.alloc ?_ _ | with_reducible refine Ob.drew ?_ | with_reducible refine Ob.drewN ?_ _ | with_reducible refine Ob.no ?_ (by assumption)))).two; have ca1 : w1.cell? ⟨ga, oa + j, none⟩ = some (.int .u32 (x : Int)) := (by (repeat (first | with_reducible assumption | with_reducible refine cel_alloc ?_ _ | with_reducible refine cel_drew ?_ | with_reducible refine cel_drewN ?_ _ | with_reducible refine cel_set ?_ (by first | (simp; done) | (simp; omega)) _ | with_reducible refine cel_no ?_ (by assumption)))); have cb1 : w1.cell? ⟨gb, ob + j, none⟩ = some (.int .u32 (y : Int)) := (by (repeat (first | with_reducible assumption | with_reducible refine cel_alloc ?_ _ | with_reducible refine cel_drew ?_ | with_reducible refine cel_drewN ?_ _ | with_reducible refine cel_set ?_ (by first | (simp; done) | (simp; omega)) _ | with_reducible refine cel_no ?_ (by assumption))))))
  go_quiet (fail)
  go_wp2
  go_ret2
  refine ⟨rfl, ?_⟩
  (repeat (first | with_reducible exact Fr.refl _ _ | with_reducible refine Fr.setCell ?_ (.inr (by first | (simp; done) | (simp; omega))) _ | with_reducible refine Fr.alloc ?_ _ | with_reducible refine Fr.drew ?_ | with_reducible refine Fr.drewN ?_ _ | with_reducible refine Fr.tr ?_ (by assumption)))
theorem middle_any (i : Int) (hl : Kv w A n cn lo) (hh : Kv w B m cm hi) :
    Calls Try.prog 39 #[.agg #[.slice A n cn, .slice B m cm], .int .i64 i] w fun e w' => e = .returned (.tuple #[.int .u32 (midE lo hi i : Int), .bool (wideB lo hi i)]) ∧ Fr No w w' := by
  cases hb : hasB lo hi i with
  | false =>
    have e1 : midE lo hi i = 0 := by unfold midE; rw [hb]; rfl
    have e2 : wideB lo hi i = false := by unfold wideB; rw [hb]; rfl
    rw [e1, e2]
    exact middle_no i hl hh hb
  | true =>
    obtain ⟨j, rfl⟩ := Int.eq_ofNat_of_zero_le (hasB_iff.1 hb).1
    have e1 : midE lo hi j = midB lo hi j := by unfold midE; rw [hb, Int.toNat_natCast]; rfl
    have e2 : wideB lo hi j = decide (lo.getD j 0 < hi.getD j 0) := by unfold wideB; rw [hb, Int.toNat_natCast]; rfl
    rw [e1, e2]
    exact middle_yes j hl hh hb
def nilBox : Value := .agg #[.slice none 0 0, .slice none 0 0]
set_option maxHeartbeats 800000 in
theorem halves_no (i : Int) (hl : Kv w A n cn lo) (hh : Kv w B m cm hi) (hb : wideB lo hi i = false) :
    Calls Try.prog 26 #[.agg #[.slice A n cn, .slice B m cm], .int .i64 i] w fun e w' => e = .returned (.tuple #[.agg #[.slice none 0 0, .slice none 0 0], .agg #[.slice none 0 0, .slice none 0 0], .bool false]) ∧ Fr No w w' := by
  have Hb := Lib.hid hb
  clear hb
  go_enter Try.func26, Try.ntmps26
  go_wp2_with (go_at_call 39; ((with_reducible refine (middle_any (lo := lo) (hi := hi) _ ?_ ?_).mono ?_); (iterate 2 (repeat (first | with_reducible assumption | ((with_reducible refine Kv.lit_new _ _ _ _ _ _ ?_ ?_ ?_ ?_) <;> (first | (simp; done) | rfl | decide)) | with_reducible exact Kv.none_ _ | with_reducible refine Kv.alloc ?_ _ | with_reducible refine Kv.drew ?_ | with_reducible refine Kv.drewN ?_ _ | with_reducible refine Kv.no ?_ (by assumption)))); rintro e w1 ⟨rfl, hf1⟩; rw [Hb.out]; obtain ⟨q0, q1, q2, q3⟩ := Ob.four (show Ob w1 (w.heap.size + 1) #[.slice none 0 0, .slice none 0 0] 28 by (repeat (first | with_reducible assumption | with_reducible refine Ob.other ?_ (by first | (simp; done) | (simp; omega)) _ | ((with_reducible refine Ob.new_ _ _ _ _ ?_) <;> (simp; done)) | with_reducible refine Ob.alloc ?_ _ | with_reducible refine Ob.drew ?_ | with_reducible refine Ob.drewN ?_ _ | with_reducible refine Ob.no ?_ (by assumption)))); obtain ⟨r0, r1, r2, r3⟩ := Ob.four (show Ob w1 (w.heap.size + 1 + 1) #[.slice none 0 0, .slice none 0 0] 28 by (repeat (first | with_reducible assumption | with_reducible refine Ob.other ?_ (by first | (simp; done) | (simp; omega)) _ | ((with_reducible refine Ob.new_ _ _ _ _ ?_) <;> (simp; done)) | with_reducible refine Ob.alloc ?_ _ | with_reducible refine Ob.drew ?_ | with_reducible refine Ob.drewN ?_ _ | with_reducible refine Ob.no ?_ (by assumption))))))
  refine bodyPost_ret (v := .tuple #[.agg #[.slice none 0 0, .slice none 0 0], .agg #[.slice none 0 0, .slice none 0 0], .bool false]) (by simp [results, Try.results26, go_sem, q0, q1, r0, r1]) rfl ?_
  refine ⟨rfl, ?_⟩
  (repeat (first | with_reducible exact Fr.refl _ _ | with_reducible refine Fr.setCell ?_ (.inr (by first | (simp; done) | (simp; omega))) _ | with_reducible refine Fr.alloc ?_ _ | with_reducible refine Fr.drew ?_ | with_reducible refine Fr.drewN ?_ _ | with_reducible refine Fr.tr ?_ (by assumption)))
/-- Behind the first statement that makes a box: the box, and what was there. -/
structure H1 (w wx : World) (A B : Option Addr) (n cn cm : Nat) (lo hi : List Nat) (g a ca b cb : Nat) : Prop where
  arg : Ob wx w.heap.size #[.slice A n cn, .slice B n cm] 28
  r1 : Ob wx (w.heap.size + 1) #[.slice none 0 0, .slice none 0 0] 28
  r2 : Ob wx (w.heap.size + 1 + 1) #[.slice none 0 0, .slice none 0 0] 28
  bx : Bo 28 50 wx (w.heap.size + 1 + 1 + 1) g a ca b cb n lo hi
  fr : Fr No w wx
/-- Both boxes stand; B0 parts their blocks. -/
structure H2 (w wx : World) (B0 n : Nat) (lo hi lo2 hi2 : List Nat) (g a ca b cb k c cc d cd : Nat) : Prop where
  r1 : Ob wx (w.heap.size + 1) #[.slice none 0 0, .slice none 0 0] 28
  r2 : Ob wx (w.heap.size + 1 + 1) #[.slice none 0 0, .slice none 0 0] 28
  bx : Bo 28 50 wx (w.heap.size + 1 + 1 + 1) g a ca b cb n lo hi
  b2 : Bo 28 50 wx (w.heap.size + 1 + 1 + 1) k c cc d cd n lo2 hi2
  lt : a < B0 ∧ b < B0 ∧ g < B0 ∧ B0 ≤ k ∧ B0 ≤ c ∧ B0 ≤ d
  fr : Fr No w wx
theorem H2.set {w wx : World} {B0 n : Nat} {lo hi lo2 hi2 : List Nat} {g a ca b cb k c cc d cd : Nat} (h : H2 w wx B0 n lo hi lo2 hi2 g a ca b cb k c cc d cd) (j x y : Nat) :
    H2 w ((wx.setCell ⟨b, j, none⟩ (.int .u32 (x : Int))).setCell ⟨c, j, none⟩ (.int .u32 (y : Int))) B0 n lo (hi.set j x) (lo2.set j y) hi2 g a ca b cb k c cc d cd := by
  obtain ⟨l1, l2, l3, l4, l5, l6⟩ := h.lt
  obtain ⟨u1, u2, u3, u4, u5, u6⟩ := h.bx.blk
  obtain ⟨v1, v2, v3, v4, v5, v6⟩ := h.b2.blk
  refine ⟨(h.r1.other (p := ⟨b, j, none⟩) (by show ¬ _ = b; omega) _).other (p := ⟨c, j, none⟩) (by show ¬ _ = c; omega) _, (h.r2.other (p := ⟨b, j, none⟩) (by show ¬ _ = b; omega) _).other (p := ⟨c, j, none⟩) (by show ¬ _ = c; omega) _, ?_, ?_, h.lt, ?_⟩
  · exact (h.bx.setHi j x).other (p := ⟨c, j, none⟩) (by show ¬ g = c ∧ ¬ a = c ∧ ¬ b = c; omega) _
  · exact (h.b2.other (p := ⟨b, j, none⟩) (by show ¬ k = b ∧ ¬ c = b ∧ ¬ d = b; omega) _).setLo j y
  · exact (h.fr.setCell (p := ⟨b, j, none⟩) (.inr (by show w.heap.size ≤ b; omega)) _).setCell (p := ⟨c, j, none⟩) (.inr (by show w.heap.size ≤ c; omega)) _
theorem H2.drew {w wx : World} {B0 n : Nat} {lo hi lo2 hi2 : List Nat} {g a ca b cb k c cc d cd : Nat} (h : H2 w wx B0 n lo hi lo2 hi2 g a ca b cb k c cc d cd) : H2 w wx.drew B0 n lo hi lo2 hi2 g a ca b cb k c cc d cd := ⟨h.r1.drew, h.r2.drew, h.bx.drew, h.b2.drew, h.lt, h.fr.drew⟩
set_option maxHeartbeats 3200000 in
theorem halves_yes (j : Nat) (hl : Kv w A n cn lo) (hh : Kv w B n cm hi) (hb : wideB lo hi j = true) :
    Calls Try.prog 26 #[.agg #[.slice A n cn, .slice B n cm], .int .i64 (j : Int)] w fun e w' => ∃ a ca b cb c cc d cd, e = .returned (.tuple #[.agg #[.slice (some ⟨a, 0, none⟩) n ca, .slice (some ⟨b, 0, none⟩) n cb], .agg #[.slice (some ⟨c, 0, none⟩) n cc, .slice (some ⟨d, 0, none⟩) n cd], .bool true]) ∧
      w'.ownsRow w.heap.size 50 1 (.slice (some ⟨a, 0, none⟩) n ca) n (u32s lo) ∧ w'.ownsRow w.heap.size 50 1 (.slice (some ⟨b, 0, none⟩) n cb) n (u32s (hi.set j (midB lo hi j))) ∧
      w'.ownsRow w.heap.size 50 1 (.slice (some ⟨c, 0, none⟩) n cc) n (u32s (lo.set j (midB lo hi j + 1))) ∧ w'.ownsRow w.heap.size 50 1 (.slice (some ⟨d, 0, none⟩) n cd) n (u32s hi) ∧
      a ≠ b ∧ c ≠ d ∧ a ≠ d ∧ b ≠ c ∧ Fr No w w' := by
  have hw : hasB lo hi j = true ∧ lo.getD j 0 < hi.getD j 0 := by
    unfold wideB at hb
    rw [Bool.and_eq_true, decide_eq_true_eq, Int.toNat_natCast] at hb
    exact hb
  obtain ⟨p1, p2, p3, p4⟩ := has_parts hw.1
  have q1 : j < n := by have := hl.len; omega
  have q2 : n ≤ 6 := by have := hl.len; omega
  have q3 : n ≤ 1000000 := by omega
  have hm : midE lo hi j = midB lo hi j := by unfold midE; rw [hw.1, Int.toNat_natCast]; rfl
  have Hm := Lib.hid hm
  have Hb := Lib.hid hb
  have m1 : midB lo hi j + 1 < 4294967296 := by have := hh.ltD j; have := hw.2; unfold midB; omega
  clear hb hm hw p4
  generalize hmid : midB lo hi j = mid at *
  clear hmid
  go_enter Try.func26, Try.ntmps26
  go_wp2_with (go_at_call 39; ((with_reducible refine (middle_any (lo := lo) (hi := hi) _ ?_ ?_).mono ?_); (iterate 2 (repeat (first | with_reducible assumption | ((with_reducible refine Kv.lit_new _ _ _ _ _ _ ?_ ?_ ?_ ?_) <;> (first | (simp; done) | rfl | decide)) | with_reducible exact Kv.none_ _ | with_reducible refine Kv.alloc ?_ _ | with_reducible refine Kv.drew ?_ | with_reducible refine Kv.drewN ?_ _ | with_reducible refine Kv.no ?_ (by assumption)))); rintro e w1 ⟨rfl, hf1⟩; rw [Hb.out, Hm.out]; have hA : Ob w1 w.heap.size #[.slice A n cn, .slice B n cm] 28 := (by (repeat (first | with_reducible assumption | with_reducible refine Ob.other ?_ (by first | (simp; done) | (simp; omega)) _ | ((with_reducible refine Ob.new_ _ _ _ _ ?_) <;> (simp; done)) | with_reducible refine Ob.alloc ?_ _ | with_reducible refine Ob.drew ?_ | with_reducible refine Ob.drewN ?_ _ | with_reducible refine Ob.no ?_ (by assumption)))); have hR1 : Ob w1 (w.heap.size + 1) #[.slice none 0 0, .slice none 0 0] 28 := (by (repeat (first | with_reducible assumption | with_reducible refine Ob.other ?_ (by first | (simp; done) | (simp; omega)) _ | ((with_reducible refine Ob.new_ _ _ _ _ ?_) <;> (simp; done)) | with_reducible refine Ob.alloc ?_ _ | with_reducible refine Ob.drew ?_ | with_reducible refine Ob.drewN ?_ _ | with_reducible refine Ob.no ?_ (by assumption)))); have hR2 : Ob w1 (w.heap.size + 1 + 1) #[.slice none 0 0, .slice none 0 0] 28 := (by (repeat (first | with_reducible assumption | with_reducible refine Ob.other ?_ (by first | (simp; done) | (simp; omega)) _ | ((with_reducible refine Ob.new_ _ _ _ _ ?_) <;> (simp; done)) | with_reducible refine Ob.alloc ?_ _ | with_reducible refine Ob.drew ?_ | with_reducible refine Ob.drewN ?_ _ | with_reducible refine Ob.no ?_ (by assumption)))); have hl1 : Kv w1 A n cn lo := (by (repeat (first | with_reducible assumption | ((with_reducible refine Kv.lit_new _ _ _ _ _ _ ?_ ?_ ?_ ?_) <;> (first | (simp; done) | rfl | decide)) | with_reducible exact Kv.none_ _ | with_reducible refine Kv.alloc ?_ _ | with_reducible refine Kv.drew ?_ | with_reducible refine Kv.drewN ?_ _ | with_reducible refine Kv.no ?_ (by assumption)))); have hh1 : Kv w1 B n cm hi := (by (repeat (first | with_reducible assumption | ((with_reducible refine Kv.lit_new _ _ _ _ _ _ ?_ ?_ ?_ ?_) <;> (first | (simp; done) | rfl | decide)) | with_reducible exact Kv.none_ _ | with_reducible refine Kv.alloc ?_ _ | with_reducible refine Kv.drew ?_ | with_reducible refine Kv.drewN ?_ _ | with_reducible refine Kv.no ?_ (by assumption)))); have hF1 : Fr No w w1 := (by (repeat (first | with_reducible exact Fr.refl _ _ | with_reducible refine Fr.setCell ?_ (.inr (by first | (simp; done) | (simp; omega))) _ | with_reducible refine Fr.alloc ?_ _ | with_reducible refine Fr.drew ?_ | with_reducible refine Fr.drewN ?_ _ | with_reducible refine Fr.tr ?_ (by assumption))))))
  have hz1 := hF1.size
  have hz2 := hf1.size
  simp at hz2
  go_upto_region 5 with (fail)
  go_cut [9] (fun v wx => ∃ g a ca b cb, v = .pointer (some ⟨g, 0, none⟩) ∧ Hid (H1 w wx A B n cn cm lo hi g a ca b cb))
  case first =>
    go_region_held3 (fun w' => w'.cell? ⟨w.heap.size, 0, none⟩ = some (.slice A n cn) ∧ w'.cell? ⟨w.heap.size, 1, none⟩ = some (.slice B n cm))
      ((refine cells2 (t := 28) ?_; (repeat (first | with_reducible assumption | with_reducible refine Ob.other ?_ (by first | (simp; done) | (simp; omega)) _ | ((with_reducible refine Ob.new_ _ _ _ _ ?_) <;> (simp; done)) | with_reducible refine Ob.alloc ?_ _ | with_reducible refine Ob.drew ?_ | with_reducible refine Ob.drewN ?_ _ | with_reducible refine Ob.no ?_ (by assumption)))))
      (first
        | (go_at_call 40; ((with_reducible refine (clone_any (ks := lo) ?_ q3).mono ?_); (repeat (first | with_reducible assumption | ((with_reducible refine Kv.lit_new _ _ _ _ _ _ ?_ ?_ ?_ ?_) <;> (first | (simp; done) | rfl | decide)) | with_reducible exact Kv.none_ _ | with_reducible refine Kv.alloc ?_ _ | with_reducible refine Kv.drew ?_ | with_reducible refine Kv.drewN ?_ _ | with_reducible refine Kv.no ?_ (by assumption))); rintro e w2 ⟨A2, c2, rfl, ho2, hf2⟩; obtain ⟨a2, rfl, l2, k2⟩ := own_some ho2 (Nat.lt_of_le_of_lt (Nat.zero_le _) q1); have hp2 := own_base ho2 (show w.heap.size + 1 + 1 + 1 ≤ _ from (by first | omega | (simp; omega)))))
        | (go_at_call 40; ((with_reducible refine (clone_any (ks := hi) ?_ q3).mono ?_); (repeat (first | with_reducible assumption | ((with_reducible refine Kv.lit_new _ _ _ _ _ _ ?_ ?_ ?_ ?_) <;> (first | (simp; done) | rfl | decide)) | with_reducible exact Kv.none_ _ | with_reducible refine Kv.alloc ?_ _ | with_reducible refine Kv.drew ?_ | with_reducible refine Kv.drewN ?_ _ | with_reducible refine Kv.no ?_ (by assumption))); rintro e w3 ⟨A3, c3, rfl, ho3, hf3⟩; obtain ⟨a3, rfl, l3, k3⟩ := own_some ho3 (Nat.lt_of_le_of_lt (Nat.zero_le _) q1); have hz2 := hf2.size; (try simp at hz2); have hp3 := own_base ho3 (show w.heap.size + 1 + 1 + 1 ≤ _ from (by first | omega | (simp; omega))); have hz3 := hf3.size; (try simp at hz3); (try simp at l2); (try simp at l3); (try (refine use_ (a := Ob w3 w1.heap.size #[.slice none 0 0, .slice none 0 0] 28) ?_ (fun zz => ?_); (focus ((repeat (first | with_reducible assumption | with_reducible refine Ob.other ?_ (by first | (simp; done) | (simp; omega)) _ | ((with_reducible refine Ob.new_ _ _ _ _ ?_) <;> (simp; done)) | with_reducible refine Ob.alloc ?_ _ | with_reducible refine Ob.drew ?_ | with_reducible refine Ob.drewN ?_ _ | with_reducible refine Ob.no ?_ (by assumption))); done)); obtain ⟨z0, z1, z2, z3⟩ := Ob.four zz; clear zz)); (try (refine use_ (a := Ob w3 w2.heap.size #[.slice none 0 0, .slice none 0 0] 28) ?_ (fun zz => ?_); (focus ((repeat (first | with_reducible assumption | with_reducible refine Ob.other ?_ (by first | (simp; done) | (simp; omega)) _ | ((with_reducible refine Ob.new_ _ _ _ _ ?_) <;> (simp; done)) | with_reducible refine Ob.alloc ?_ _ | with_reducible refine Ob.drew ?_ | with_reducible refine Ob.drewN ?_ _ | with_reducible refine Ob.no ?_ (by assumption))); done)); obtain ⟨z0, z1, z2, z3⟩ := Ob.four zz; clear zz))))
        | fail)
    all_goals
      go_wp2_with fail
      go_meet
      refine ⟨_, a2, c2, a3, c3, rfl, Lib.hid ⟨?_, ?_, ?_, ⟨?_, ?_, ?_, ?_, ?_⟩, ?_⟩⟩
      all_goals try (first | ((with_reducible refine Ob.put2 (x := .slice none 0 0) (y := .slice none 0 0) ?_ _ _); (repeat (first | with_reducible assumption | with_reducible refine Ob.other ?_ (by first | (simp; done) | (simp; omega)) _ | ((with_reducible refine Ob.new_ _ _ _ _ ?_) <;> (simp; done)) | with_reducible refine Ob.alloc ?_ _ | with_reducible refine Ob.drew ?_ | with_reducible refine Ob.drewN ?_ _ | with_reducible refine Ob.no ?_ (by assumption))); done) | ((repeat (first | with_reducible assumption | with_reducible refine Ob.other ?_ (by first | (simp; done) | (simp; omega)) _ | ((with_reducible refine Ob.new_ _ _ _ _ ?_) <;> (simp; done)) | with_reducible refine Ob.alloc ?_ _ | with_reducible refine Ob.drew ?_ | with_reducible refine Ob.drewN ?_ _ | with_reducible refine Ob.no ?_ (by assumption))); done))
      all_goals try ((repeat (first | with_reducible assumption | with_reducible refine own_putb ?_ (by first | (simp; done) | (simp; omega)) _ | with_reducible refine World.ownsRow.alloc ?_ _ | with_reducible refine World.ownsRow.drew ?_ | with_reducible refine own_drewN ?_ _ | with_reducible refine own_no ?_ (by assumption))); done)
      all_goals try (first | omega | (refine ⟨?_, ?_, ?_⟩ <;> omega))
      all_goals try ((repeat (first | with_reducible exact Fr.refl _ _ | with_reducible refine Fr.setCell ?_ (.inr (by first | (simp; done) | (simp; omega))) _ | with_reducible refine Fr.alloc ?_ _ | with_reducible refine Fr.drew ?_ | with_reducible refine Fr.drewN ?_ _ | with_reducible refine Fr.tr ?_ (by assumption))); done)
  case rest =>
    clear hz1 hz2 hA hR1 hR2 hl1 hh1 hF1 hf1
    obtain ⟨g, a, ca, b, cb, rfl, H⟩ := hcut
    generalize wc = w1 at *
    have hA := H.out.arg
    have hR1 := H.out.r1
    have hR2 := H.out.r2
    have hl1 := hl.no H.out.fr
    have hh1 := hh.no H.out.fr
    have hF1 := H.out.fr
    have hB := H.out.bx
    obtain ⟨u1, u2, u3, u4, u5, u6⟩ := H.out.bx.blk
    have hz1 := hF1.size
    go_upto_region 6 with (fail)
    go_cut [10] (fun v wx => ∃ k c cc d cd, v = .pointer (some ⟨k, 0, none⟩) ∧ Hid (H2 w wx w1.heap.size n lo hi lo hi g a ca b cb k c cc d cd))
    case first =>
      go_region_held3 (fun w' => w'.cell? ⟨w.heap.size, 0, none⟩ = some (.slice A n cn) ∧ w'.cell? ⟨w.heap.size, 1, none⟩ = some (.slice B n cm))
        ((refine cells2 (t := 28) ?_; (repeat (first | with_reducible assumption | with_reducible refine Ob.other ?_ (by first | (simp; done) | (simp; omega)) _ | ((with_reducible refine Ob.new_ _ _ _ _ ?_) <;> (simp; done)) | with_reducible refine Ob.alloc ?_ _ | with_reducible refine Ob.drew ?_ | with_reducible refine Ob.drewN ?_ _ | with_reducible refine Ob.no ?_ (by assumption)))))
        (first
          | (go_at_call 40; ((with_reducible refine (clone_any (ks := lo) ?_ q3).mono ?_); (repeat (first | with_reducible assumption | ((with_reducible refine Kv.lit_new _ _ _ _ _ _ ?_ ?_ ?_ ?_) <;> (first | (simp; done) | rfl | decide)) | with_reducible exact Kv.none_ _ | with_reducible refine Kv.alloc ?_ _ | with_reducible refine Kv.drew ?_ | with_reducible refine Kv.drewN ?_ _ | with_reducible refine Kv.no ?_ (by assumption))); rintro e w2 ⟨A2, c2, rfl, ho2, hf2⟩; obtain ⟨a2, rfl, l2, k2⟩ := own_some ho2 (Nat.lt_of_le_of_lt (Nat.zero_le _) q1); have hp2 := own_base ho2 (show w.heap.size + 1 + 1 + 1 ≤ _ from (by first | omega | (simp; omega)))))
          | (go_at_call 40; ((with_reducible refine (clone_any (ks := hi) ?_ q3).mono ?_); (repeat (first | with_reducible assumption | ((with_reducible refine Kv.lit_new _ _ _ _ _ _ ?_ ?_ ?_ ?_) <;> (first | (simp; done) | rfl | decide)) | with_reducible exact Kv.none_ _ | with_reducible refine Kv.alloc ?_ _ | with_reducible refine Kv.drew ?_ | with_reducible refine Kv.drewN ?_ _ | with_reducible refine Kv.no ?_ (by assumption))); rintro e w3 ⟨A3, c3, rfl, ho3, hf3⟩; obtain ⟨a3, rfl, l3, k3⟩ := own_some ho3 (Nat.lt_of_le_of_lt (Nat.zero_le _) q1); have hz2 := hf2.size; (try simp at hz2); have hp3 := own_base ho3 (show w.heap.size + 1 + 1 + 1 ≤ _ from (by first | omega | (simp; omega))); have hz3 := hf3.size; (try simp at hz3); (try simp at l2); (try simp at l3); (try (refine use_ (a := Ob w3 w1.heap.size #[.slice none 0 0, .slice none 0 0] 28) ?_ (fun zz => ?_); (focus ((repeat (first | with_reducible assumption | with_reducible refine Ob.other ?_ (by first | (simp; done) | (simp; omega)) _ | ((with_reducible refine Ob.new_ _ _ _ _ ?_) <;> (simp; done)) | with_reducible refine Ob.alloc ?_ _ | with_reducible refine Ob.drew ?_ | with_reducible refine Ob.drewN ?_ _ | with_reducible refine Ob.no ?_ (by assumption))); done)); obtain ⟨z0, z1, z2, z3⟩ := Ob.four zz; clear zz)); (try (refine use_ (a := Ob w3 w2.heap.size #[.slice none 0 0, .slice none 0 0] 28) ?_ (fun zz => ?_); (focus ((repeat (first | with_reducible assumption | with_reducible refine Ob.other ?_ (by first | (simp; done) | (simp; omega)) _ | ((with_reducible refine Ob.new_ _ _ _ _ ?_) <;> (simp; done)) | with_reducible refine Ob.alloc ?_ _ | with_reducible refine Ob.drew ?_ | with_reducible refine Ob.drewN ?_ _ | with_reducible refine Ob.no ?_ (by assumption))); done)); obtain ⟨z0, z1, z2, z3⟩ := Ob.four zz; clear zz))))
          | fail)
      all_goals
        go_wp2_with fail
        go_meet
        refine ⟨_, a2, c2, a3, c3, rfl, Lib.hid ⟨?_, ?_, ?_, ⟨?_, ?_, ?_, ?_, ?_⟩, ?_, ?_⟩⟩
        all_goals try (first | ((with_reducible refine Ob.put2 (x := .slice none 0 0) (y := .slice none 0 0) ?_ _ _); (repeat (first | with_reducible assumption | with_reducible refine Ob.other ?_ (by first | (simp; done) | (simp; omega)) _ | ((with_reducible refine Ob.new_ _ _ _ _ ?_) <;> (simp; done)) | with_reducible refine Ob.alloc ?_ _ | with_reducible refine Ob.drew ?_ | with_reducible refine Ob.drewN ?_ _ | with_reducible refine Ob.no ?_ (by assumption))); done) | ((repeat (first | with_reducible assumption | with_reducible refine Ob.other ?_ (by first | (simp; done) | (simp; omega)) _ | ((with_reducible refine Ob.new_ _ _ _ _ ?_) <;> (simp; done)) | with_reducible refine Ob.alloc ?_ _ | with_reducible refine Ob.drew ?_ | with_reducible refine Ob.drewN ?_ _ | with_reducible refine Ob.no ?_ (by assumption))); done))
        all_goals try ((repeat (first | with_reducible assumption | with_reducible refine own_putb ?_ (by first | (simp; done) | (simp; omega)) _ | with_reducible refine World.ownsRow.alloc ?_ _ | with_reducible refine World.ownsRow.drew ?_ | with_reducible refine own_drewN ?_ _ | with_reducible refine own_no ?_ (by assumption))); done)
        all_goals try (first | omega | (refine ⟨?_, ?_, ?_⟩ <;> omega))
        all_goals try ((repeat (first | with_reducible exact Fr.refl _ _ | with_reducible refine Fr.setCell ?_ (.inr (by first | (simp; done) | (simp; omega))) _ | with_reducible refine Fr.alloc ?_ _ | with_reducible refine Fr.drew ?_ | with_reducible refine Fr.drewN ?_ _ | with_reducible refine Fr.tr ?_ (by assumption))); done)
        all_goals try (repeat (first | with_reducible assumption | with_reducible refine Bo.alloc ?_ _ | with_reducible refine Bo.drew ?_ | with_reducible refine Bo.other ?_ (by simp; omega) _ | with_reducible refine Bo.no ?_ (by assumption)))
    case rest =>
      clear hz1 hA hR1 hR2 hl1 hh1 hF1 hB
      obtain ⟨k, c, cc, d, cd, rfl, H2⟩ := hcut
      generalize w1.heap.size = B0 at *
      clear H u1 u2 u3 u4 u5 u6
      generalize wc = w2 at *
      obtain ⟨x0, x1, x2, x3, x4, x5⟩ := H2.out.bx.eyes q1
      obtain ⟨y0, y1, y2, y3, y4, y5⟩ := H2.out.b2.eyes q1
      have hcap := H2.out.bx.ob
      have k1 : n ≤ cb := by
        rcases H2.out.bx.hi.2 with ⟨h, _⟩ | ⟨_, _, _, h, _, _, h2, _⟩
        · cases h
        · injection h with _ _ h; omega
      have k2 : n ≤ cc := by
        rcases H2.out.b2.lo.2 with ⟨h, _⟩ | ⟨_, _, _, h, _, _, h2, _⟩
        · cases h
        · injection h with _ _ h; omega
      obtain ⟨l1, l2, l3, l4, l5, l6⟩ := H2.out.lt
      have nbc : b ≠ c := by omega
      have ngb : g ≠ b := H2.out.bx.ne.2.2
      have ngc : g ≠ c := by omega
      have nkb : k ≠ b := by omega
      have nkc : k ≠ c := H2.out.b2.ne.2.1
      have hwr : IntKind.u32.wrap ((mid : Int) + 1) = ((mid + 1 : Nat) : Int) := (Go.IntWalk.u32_in _ (by omega)).trans (by omega)
      go_upto_region 7 with (fail)
      go_cut [] (fun wx => Hid (Ha16.H2 w wx B0 n lo (hi.set j mid) (lo.set j (mid + 1)) hi g a ca b cb k c cc d cd))
      case first =>
        go_region_held3 (fun w' => w'.cell? ⟨g, 1, none⟩ = some (.slice (some ⟨b, 0, none⟩) n cb) ∧ w'.cell? ⟨k, 0, none⟩ = some (.slice (some ⟨c, 0, none⟩) n cc))
          (first | exact ⟨x1, y0⟩ | exact ⟨cel_set x1 ngb _, cel_set y0 nkb _⟩ | exact ⟨cel_set (cel_set x1 ngb _) ngc _, cel_set (cel_set y0 nkb _) nkc _⟩ | fail) (fail)
        all_goals
          go_wp2_with fail
          go_meet
          exact Lib.hid (H2.out.set j mid (mid + 1)).drew
      case rest =>
        clear x0 x1 x2 x3 x4 x5 y0 y1 y2 y3 y4 y5 hcap k1 k2 nbc ngb ngc nkb nkc H2 hwr

        have H3 := Lib.hid hcut.out
        clear hcut
        generalize wc = w3 at *
        obtain ⟨x0, x1⟩ := cells2 H3.out.bx.ob
        obtain ⟨y0, y1⟩ := cells2 H3.out.b2.ob
        obtain ⟨z0, z1, z2, z3⟩ := Ob.four H3.out.r1
        obtain ⟨v0, v1, v2, v3⟩ := Ob.four H3.out.r2
        obtain ⟨u1, u2, u3, u4, u5, u6⟩ := H3.out.bx.blk
        obtain ⟨t1, t2, t3, t4, t5, t6⟩ := H3.out.b2.blk
        go_wp2_with fail
        go_region_held3 (fun w' => w'.cell? ⟨g, 0, none⟩ = some (.slice (some ⟨a, 0, none⟩) n ca) ∧ w'.cell? ⟨g, 1, none⟩ = some (.slice (some ⟨b, 0, none⟩) n cb) ∧ w'.cell? ⟨k, 0, none⟩ = some (.slice (some ⟨c, 0, none⟩) n cc) ∧ w'.cell? ⟨k, 1, none⟩ = some (.slice (some ⟨d, 0, none⟩) n cd))
          (refine ⟨?_, ?_, ?_, ?_⟩ <;> (repeat (first | with_reducible assumption | with_reducible refine cel_alloc ?_ _ | with_reducible refine cel_drew ?_ | with_reducible refine cel_drewN ?_ _ | with_reducible refine cel_set ?_ (by first | (simp; done) | (simp; omega)) _ | with_reducible refine cel_no ?_ (by assumption)))) (fail)
        have P1 : Ob ((((w3.setCell ⟨w.heap.size + 1, 0, none⟩ (.slice (some ⟨a, 0, none⟩) n ca)).setCell ⟨w.heap.size + 1, 1, none⟩ (.slice (some ⟨b, 0, none⟩) n cb)).setCell ⟨w.heap.size + 1 + 1, 0, none⟩ (.slice (some ⟨c, 0, none⟩) n cc)).setCell ⟨w.heap.size + 1 + 1, 1, none⟩ (.slice (some ⟨d, 0, none⟩) n cd)) (w.heap.size + 1) #[.slice (some ⟨a, 0, none⟩) n ca, .slice (some ⟨b, 0, none⟩) n cb] 28 := ((Ob.put2 H3.out.r1 _ _).other (p := ⟨w.heap.size + 1 + 1, 0, none⟩) (by simp) _).other (p := ⟨w.heap.size + 1 + 1, 1, none⟩) (by simp) _
        have P2 : Ob ((((w3.setCell ⟨w.heap.size + 1, 0, none⟩ (.slice (some ⟨a, 0, none⟩) n ca)).setCell ⟨w.heap.size + 1, 1, none⟩ (.slice (some ⟨b, 0, none⟩) n cb)).setCell ⟨w.heap.size + 1 + 1, 0, none⟩ (.slice (some ⟨c, 0, none⟩) n cc)).setCell ⟨w.heap.size + 1 + 1, 1, none⟩ (.slice (some ⟨d, 0, none⟩) n cd)) (w.heap.size + 1 + 1) #[.slice (some ⟨c, 0, none⟩) n cc, .slice (some ⟨d, 0, none⟩) n cd] 28 := Ob.put2 ((H3.out.r2.other (p := ⟨w.heap.size + 1, 0, none⟩) (by simp) _).other (p := ⟨w.heap.size + 1, 1, none⟩) (by simp) _) _ _
        obtain ⟨r0, r1⟩ := cells2 P1
        obtain ⟨r2, r3⟩ := cells2 P2
        go_wp2
        refine bodyPost_ret (v := .tuple #[.agg #[.slice (some ⟨a, 0, none⟩) n ca, .slice (some ⟨b, 0, none⟩) n cb], .agg #[.slice (some ⟨c, 0, none⟩) n cc, .slice (some ⟨d, 0, none⟩) n cd], .bool true]) (by simp [results, Try.results26, go_sem, r0, r1, r2, r3]) rfl ?_
        obtain ⟨l1, l2, l3, l4, l5, l6⟩ := H3.out.lt
        have o1 := H3.out.bx.lo
        have o2 := H3.out.bx.hi
        have o3 := H3.out.b2.lo
        have o4 := H3.out.b2.hi
        have F := H3.out.fr
        refine ⟨a, ca, b, cb, c, cc, d, cd, rfl, ?_, ?_, ?_, ?_, H3.out.bx.ne.1, H3.out.b2.ne.1, by omega, by omega, ?_⟩
        · refine own_base (base := w.heap.size + 1 + 1 + 1) ?_ (by omega)
          (repeat (first | with_reducible assumption | with_reducible refine own_putb ?_ (by first | (simp; done) | (simp; omega)) _ | with_reducible refine World.ownsRow.alloc ?_ _ | with_reducible refine World.ownsRow.drew ?_ | with_reducible refine own_drewN ?_ _ | with_reducible refine own_no ?_ (by assumption)))
        · refine own_base (base := w.heap.size + 1 + 1 + 1) ?_ (by omega)
          (repeat (first | with_reducible assumption | with_reducible refine own_putb ?_ (by first | (simp; done) | (simp; omega)) _ | with_reducible refine World.ownsRow.alloc ?_ _ | with_reducible refine World.ownsRow.drew ?_ | with_reducible refine own_drewN ?_ _ | with_reducible refine own_no ?_ (by assumption)))
        · refine own_base (base := w.heap.size + 1 + 1 + 1) ?_ (by omega)
          (repeat (first | with_reducible assumption | with_reducible refine own_putb ?_ (by first | (simp; done) | (simp; omega)) _ | with_reducible refine World.ownsRow.alloc ?_ _ | with_reducible refine World.ownsRow.drew ?_ | with_reducible refine own_drewN ?_ _ | with_reducible refine own_no ?_ (by assumption)))
        · refine own_base (base := w.heap.size + 1 + 1 + 1) ?_ (by omega)
          (repeat (first | with_reducible assumption | with_reducible refine own_putb ?_ (by first | (simp; done) | (simp; omega)) _ | with_reducible refine World.ownsRow.alloc ?_ _ | with_reducible refine World.ownsRow.drew ?_ | with_reducible refine own_drewN ?_ _ | with_reducible refine own_no ?_ (by assumption)))
        · (repeat (first | with_reducible exact Fr.refl _ _ | with_reducible refine Fr.setCell ?_ (.inr (by first | (simp; done) | (simp; omega))) _ | with_reducible refine Fr.alloc ?_ _ | with_reducible refine Fr.drew ?_ | with_reducible refine Fr.drewN ?_ _ | with_reducible refine Fr.tr ?_ (by assumption)))
end
end Go.Proofs.Ytoaikponefcbiaa.Ha16
