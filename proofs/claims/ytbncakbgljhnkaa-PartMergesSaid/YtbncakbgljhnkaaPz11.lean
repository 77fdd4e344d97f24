/- Layer 11: at which coordinate a box is halved, the program's. -/
import Derived.Test.YtbncakbgljhnkaaPy11
import Derived.StillTailTactics
namespace Go.Proofs.Ytbncakbgljhnkaa.Pz11
open Go.RowKit Go.Proofs.Ytbncakbgljhnkaa.Pk08 Go.Proofs.Ytbncakbgljhnkaa.Base Go.Proofs.Ytbncakbgljhnkaa.App Go.Proofs.Ytbncakbgljhnkaa.Str Go.Proofs.Ytbncakbgljhnkaa.Ky Go.Proofs.Ytbncakbgljhnkaa.Bx Go.Proofs.Ytbncakbgljhnkaa.Kk Go.Proofs.Ytbncakbgljhnkaa.Bo Go.Proofs.Ytbncakbgljhnkaa.As Go.Proofs.Ytbncakbgljhnkaa.Pl08 Go.Proofs.Ytbncakbgljhnkaa.Kc08 Go.Proofs.Ytbncakbgljhnkaa.Px16 Go.Proofs.Ytbncakbgljhnkaa.Ha16 Go.Proofs.Ytbncakbgljhnkaa.Rv Go.Proofs.Ytbncakbgljhnkaa.Ro Go.Proofs.Ytbncakbgljhnkaa.Rk Go.Proofs.Ytbncakbgljhnkaa.Py11
set_option linter.unusedVariables false
set_option linter.unusedSimpArgs false
/-- Do both halves have records? -/
def bothB (lo hi : List Nat) (rs : List Rv.Rec) (i : Int) : Bool := wideB lo hi i && anyIn rs (l1 lo hi i) (h1 lo hi i) && anyIn rs (l2 lo hi i) (h2 lo hi i)
def scan (p : Nat → Bool) (f n : Nat) : Option Nat := ((List.range n).find? (fun i => p ((f + i) % n))).map (fun i => (f + i) % n)
theorem scan_some {p : Nat → Bool} {f n i : Nat} (hi : i < n) (h0 : ∀ j, j < i → p ((f + j) % n) = false) (h1 : p ((f + i) % n) = true) : scan p f n = some ((f + i) % n) := by
  unfold scan
  have : (List.range n).find? (fun i => p ((f + i) % n)) = some i := by
    rw [List.find?_range_eq_some]
    exact ⟨h1, List.mem_range.2 hi, fun j hj => by simp [h0 j hj]⟩
  rw [this]; rfl
theorem scan_none {p : Nat → Bool} {f n : Nat} (h0 : ∀ j, j < n → p ((f + j) % n) = false) : scan p f n = none := by
  unfold scan
  have : (List.range n).find? (fun i => p ((f + i) % n)) = none := by
    rw [List.find?_range_eq_none]
    exact fun j hj => by simp [h0 j hj]
  rw [this]; rfl
/-- Where a box with records is halved. -/
def chN (lo hi : List Nat) (rs : List Rv.Rec) (f : Nat) : Option Nat := match scan (fun k => bothB lo hi rs k) f lo.length with
  | some a => some a
  | none => scan (fun k => wideB lo hi k) f lo.length
def chO (lo hi : List Nat) (rs : List Rv.Rec) (f : Int) : Option Nat := if hasB lo hi f = true then chN lo hi rs f.toNat else none
def chAt (lo hi : List Nat) (rs : List Rv.Rec) (f : Int) : Int := match chO lo hi rs f with
  | some a => (a : Int)
  | none => 0
def chOk (lo hi : List Nat) (rs : List Rv.Rec) (f : Int) : Bool := (chO lo hi rs f).isSome
/-- The test of the first, of the second turn. -/
def tst (lo hi : List Nat) (rs : List Rv.Rec) (e k : Nat) : Bool := if e = 0 then bothB lo hi rs k else wideB lo hi k
theorem ch_hit {lo hi : List Nat} {rs : List Rv.Rec} {f e i : Nat} (hh : hasB lo hi f = true) (he : e < 2) (hi0 : i < lo.length) (h0 : ∀ e' j, e' < e → j < lo.length → tst lo hi rs e' ((f + j) % lo.length) = false) (h1 : ∀ j, j < i → tst lo hi rs e ((f + j) % lo.length) = false) (h2 : tst lo hi rs e ((f + i) % lo.length) = true) : chAt lo hi rs f = (((f + i) % lo.length : Nat) : Int) ∧ chOk lo hi rs f = true := by
  have key : chO lo hi rs f = some ((f + i) % lo.length) := by
    unfold chO
    rw [if_pos hh, Int.toNat_natCast]
    unfold chN
    rcases (show e = 0 ∨ e = 1 by omega) with rfl | rfl
    · rw [scan_some (p := fun k => bothB lo hi rs k) hi0 (fun j hj => h1 j hj) h2]
    · rw [scan_none (p := fun k => bothB lo hi rs k) (fun j hj => h0 0 j (by omega) hj)]
      exact scan_some (p := fun k => wideB lo hi k) hi0 (fun j hj => h1 j hj) h2
  unfold chAt chOk
  rw [key]
  exact ⟨rfl, rfl⟩
theorem ch_none {lo hi : List Nat} {rs : List Rv.Rec} {f : Nat} (h0 : ∀ e' j, e' < 2 → j < lo.length → tst lo hi rs e' ((f + j) % lo.length) = false) : chAt lo hi rs f = 0 ∧ chOk lo hi rs f = false := by
  have key : chO lo hi rs f = none := by
    unfold chO
    split
    · rw [Int.toNat_natCast]
      unfold chN
      rw [scan_none (p := fun k => bothB lo hi rs k) (fun j hj => h0 0 j (by omega) hj)]
      exact scan_none (p := fun k => wideB lo hi k) (fun j hj => h0 1 j (by omega) hj)
    · rfl
  unfold chAt chOk
  rw [key]
  exact ⟨rfl, rfl⟩
theorem ch_out {lo hi : List Nat} {rs : List Rv.Rec} {f : Int} (hh : hasB lo hi f = false) : chAt lo hi rs f = 0 ∧ chOk lo hi rs f = false := by
  have key : chO lo hi rs f = none := by unfold chO; rw [hh]; rfl
  unfold chAt chOk
  rw [key]
  exact ⟨rfl, rfl⟩
section
variable {w : World} {A B L : Option Addr} {n cn m cm ln lc gb gl : Nat} {lo hi : List Nat} {rs : List Rv.Rec}
set_option maxHeartbeats 1600000 in
theorem wide_any (i : Int) (hb : Ob w gb #[.slice A n cn, .slice B m cm] 25) (hl : Kv w A n cn lo) (hh : Kv w B m cm hi) :
    Calls Try.prog 39 #[.int .i64 i, .pointer (some ⟨gb, 0, none⟩)] w fun e w' => e = .returned (.bool (wideB lo hi i)) ∧ Fr No w w' := by
  obtain ⟨x0, x1⟩ := cells2 hb
  clear hb
  go_enter Try.func39, Try.ntmps39
  go_wp2_with (go_at_call 30; ((with_reducible refine (middle_any (lo := lo) (hi := hi) _ hl hh).mono ?_); rintro e w5 ⟨rfl, hf5⟩))
  go_ret
  exact ⟨rfl, hf5⟩
set_option maxHeartbeats 1600000 in
theorem parts_any (i : Int) (hb : Ob w gb #[.slice A n cn, .slice B m cm] 25) (hx : Ob w gl #[.slice L ln lc] 26) (hl : Kv w A n cn lo) (hh : Kv w B m cm hi) (hr : Rv w L ln lc rs) :
    Calls Try.prog 34 #[.int .i64 i, .pointer (some ⟨gb, 0, none⟩), .pointer (some ⟨gl, 0, none⟩)] w fun e w' => e = .returned (.bool (bothB lo hi rs i)) ∧ Fr No w w' := by
  obtain ⟨x0, x1⟩ := cells2 hb
  have Hx := Lib.hid hx
  have Hl := Lib.hid hl
  have Hh := Lib.hid hh
  have Hr := Lib.hid hr
  have HB := Lib.hid (show bothB lo hi rs i = (wideB lo hi i && anyIn rs (l1 lo hi i) (h1 lo hi i) && anyIn rs (l2 lo hi i) (h2 lo hi i)) from rfl)
  clear hb hx hl hh hr
  cases hw : wideB lo hi i with
  | false =>
    rw [hw, Bool.false_and, Bool.false_and] at HB
    have Hw := Lib.hid hw
    clear hw
    go_enter Try.func34, Try.ntmps34
    go_wp2_with (go_at_call 11; ((with_reducible refine (halves_any (lo := lo) (hi := hi) _ Hl.out Hh.out).mono ?_); rintro e w5 ⟨A1, n1, c1, B1, m1, d1, C1, p1, q1, D1, r1, s1, rfl, k1, k2, k3, k4, hf5⟩; rw [Hw.out]))
    go_ret
    exact ⟨by rw [HB.out]; rfl, by (repeat (first | with_reducible exact Fr.refl _ _ | with_reducible refine Fr.setCell ?_ (.inr (by first | (simp; done) | (simp; omega))) _ | with_reducible refine Fr.alloc ?_ _ | with_reducible refine Fr.drew ?_ | with_reducible refine Fr.drewN ?_ _ | with_reducible refine Fr.tr ?_ (by assumption)))⟩
  | true =>
    rw [hw, Bool.true_and] at HB
    have Hw := Lib.hid hw
    clear hw
    cases ha : anyIn rs (l1 lo hi i) (h1 lo hi i) with
    | false =>
      rw [ha, Bool.false_and] at HB
      have Ha := Lib.hid ha
      clear ha
      go_enter Try.func34, Try.ntmps34
      go_wp2_with (first
        | (go_at_call 11; ((with_reducible refine (halves_any (lo := lo) (hi := hi) _ Hl.out Hh.out).mono ?_); rintro e w5 ⟨A1, n1, c1, B1, m1, d1, C1, p1, q1, D1, r1, s1, rfl, k1, k2, k3, k4, hf5⟩; rw [Hw.out]; (have K1 := Lib.hid k1); (have K2 := Lib.hid k2); (have K3 := Lib.hid k3); (have K4 := Lib.hid k4); (have HX5 := Lib.hid (((Hx.out.no hf5).alloc (.cells #[.slice A1 n1 c1, .slice B1 m1 d1] 25)).alloc (.cells #[.slice C1 p1 q1, .slice D1 r1 s1] 25))); (have HR5 := Lib.hid (((Hr.out.no hf5).alloc (.cells #[.slice A1 n1 c1, .slice B1 m1 d1] 25)).alloc (.cells #[.slice C1 p1 q1, .slice D1 r1 s1] 25))); (have z2 := Ob.new (w5.alloc (.cells #[.slice A1 n1 c1, .slice B1 m1 d1] 25)) #[.slice C1 p1 q1, .slice D1 r1 s1] 25); (have Z2 := Lib.hid z2); (clear z2 k1 k2 k3 k4)))
        | (go_at_call 35; ((with_reducible refine (inbox_any (lo := l1 lo hi i) (hi := h1 lo hi i) HX5.out HR5.out ((K1.out.alloc _).alloc _) ((K2.out.alloc _).alloc _)).mono ?_); rintro e w6 ⟨rfl, hf6⟩; rw [Ha.out]; (obtain ⟨y0, y1⟩ := cells2 (Z2.out.no hf6)); (simp only [World.size_alloc] at y0 y1)))
        | fail)
      go_ret
      exact ⟨by rw [HB.out]; rfl, by (repeat (first | with_reducible exact Fr.refl _ _ | with_reducible refine Fr.setCell ?_ (.inr (by first | (simp; done) | (simp; omega))) _ | with_reducible refine Fr.alloc ?_ _ | with_reducible refine Fr.drew ?_ | with_reducible refine Fr.drewN ?_ _ | with_reducible refine Fr.tr ?_ (by assumption)))⟩
    | true =>
      rw [ha, Bool.true_and] at HB
      have Ha := Lib.hid ha
      clear ha
      go_enter Try.func34, Try.ntmps34
      go_wp2_with (first
        | (go_at_call 11; ((with_reducible refine (halves_any (lo := lo) (hi := hi) _ Hl.out Hh.out).mono ?_); rintro e w5 ⟨A1, n1, c1, B1, m1, d1, C1, p1, q1, D1, r1, s1, rfl, k1, k2, k3, k4, hf5⟩; rw [Hw.out]; (have K1 := Lib.hid k1); (have K2 := Lib.hid k2); (have K3 := Lib.hid k3); (have K4 := Lib.hid k4); (have HX5 := Lib.hid (((Hx.out.no hf5).alloc (.cells #[.slice A1 n1 c1, .slice B1 m1 d1] 25)).alloc (.cells #[.slice C1 p1 q1, .slice D1 r1 s1] 25))); (have HR5 := Lib.hid (((Hr.out.no hf5).alloc (.cells #[.slice A1 n1 c1, .slice B1 m1 d1] 25)).alloc (.cells #[.slice C1 p1 q1, .slice D1 r1 s1] 25))); (have z2 := Ob.new (w5.alloc (.cells #[.slice A1 n1 c1, .slice B1 m1 d1] 25)) #[.slice C1 p1 q1, .slice D1 r1 s1] 25); (have Z2 := Lib.hid z2); (clear z2 k1 k2 k3 k4)))
        | (go_at_call 35; ((with_reducible refine (inbox_any (lo := l1 lo hi i) (hi := h1 lo hi i) HX5.out HR5.out ((K1.out.alloc _).alloc _) ((K2.out.alloc _).alloc _)).mono ?_); rintro e w6 ⟨rfl, hf6⟩; rw [Ha.out]; (obtain ⟨y0, y1⟩ := cells2 (Z2.out.no hf6)); (simp only [World.size_alloc] at y0 y1)))
        | (go_at_call 35; ((with_reducible refine (inbox_any (lo := l2 lo hi i) (hi := h2 lo hi i) (HX5.out.no hf6) (HR5.out.no hf6) (((K3.out.alloc _).alloc _).no hf6) (((K4.out.alloc _).alloc _).no hf6)).mono ?_); rintro e w7 ⟨rfl, hf7⟩))
        | fail)
      go_ret
      exact ⟨by rw [HB.out]; rfl, by (repeat (first | with_reducible exact Fr.refl _ _ | with_reducible refine Fr.setCell ?_ (.inr (by first | (simp; done) | (simp; omega))) _ | with_reducible refine Fr.alloc ?_ _ | with_reducible refine Fr.drew ?_ | with_reducible refine Fr.drewN ?_ _ | with_reducible refine Fr.tr ?_ (by assumption)))⟩
/-- What stands while the turns go on. -/
structure Cs (w wr : World) (A : Option Addr) (n cn : Nat) (B : Option Addr) (m cm : Nat) (L : Option Addr) (ln lc gs : Nat) : Prop where
  b : Ob wr w.heap.size #[.slice A n cn, .slice B m cm] 25
  l : Ob wr (w.heap.size + 1) #[.slice L ln lc] 26
  s : Ob wr gs #[.func (.func 34) #[] #[.pointer (some ⟨w.heap.size, 0, none⟩), .pointer (some ⟨w.heap.size + 1, 0, none⟩)], .func (.func 39) #[] #[.pointer (some ⟨w.heap.size, 0, none⟩)]] 65
  fr : Fr No w wr
theorem Cs.no {wr w1 : World} {gs : Nat} (h : Cs w wr A n cn B m cm L ln lc gs) (f : Fr No wr w1) : Cs w w1 A n cn B m cm L ln lc gs := ⟨h.b.no f, h.l.no f, h.s.no f, h.fr.tr f⟩
set_option maxHeartbeats 3200000 in
theorem choose_any (f : Int) (hl : Kv w A n cn lo) (hh : Kv w B m cm hi) (hr : Rv w L ln lc rs) :
    Calls Try.prog 13 #[.agg #[.slice A n cn, .slice B m cm], .slice L ln lc, .int .i64 f] w fun e w' => e = .returned (.tuple #[.int .i64 (chAt lo hi rs f), .bool (chOk lo hi rs f)]) ∧ Fr No w w' := by
  have Hl := Lib.hid hl
  have Hh := Lib.hid hh
  have Hr := Lib.hid hr
  have HN := Lib.hid hl.len
  clear hl hh hr
  cases hb : hasB lo hi f with
  | false =>
    obtain ⟨e1, e2⟩ := ch_out (rs := rs) hb
    have E1 := Lib.hid e1
    have E2 := Lib.hid e2
    have Hb := Lib.hid hb
    clear hb e1 e2
    go_enter Try.func13, Try.ntmps13
    go_wp2_with (go_at_call 33; ((with_reducible refine (has_any (lo := lo) (hi := hi) _ ?_ ?_).mono ?_); (focus ((have hk := Hl.out); (repeat (first | with_reducible assumption | ((with_reducible refine Kv.lit_new _ _ _ _ _ _ ?_ ?_ ?_ ?_) <;> (first | (simp; done) | rfl | decide)) | with_reducible exact Kv.none_ _ | with_reducible refine Kv.alloc ?_ _ | with_reducible refine Kv.drew ?_ | with_reducible refine Kv.drewN ?_ _ | with_reducible refine Kv.no ?_ (by assumption))))); (focus ((have hk := Hh.out); (repeat (first | with_reducible assumption | ((with_reducible refine Kv.lit_new _ _ _ _ _ _ ?_ ?_ ?_ ?_) <;> (first | (simp; done) | rfl | decide)) | with_reducible exact Kv.none_ _ | with_reducible refine Kv.alloc ?_ _ | with_reducible refine Kv.drew ?_ | with_reducible refine Kv.drewN ?_ _ | with_reducible refine Kv.no ?_ (by assumption))))); rintro e w5 ⟨rfl, hf5⟩; rw [Hb.out]))
    go_ret2
    exact ⟨by rw [E1.out, E2.out]; rfl, by (repeat (first | with_reducible exact Fr.refl _ _ | with_reducible refine Fr.setCell ?_ (.inr (by first | (simp; done) | (simp; omega))) _ | with_reducible refine Fr.alloc ?_ _ | with_reducible refine Fr.drew ?_ | with_reducible refine Fr.drewN ?_ _ | with_reducible refine Fr.tr ?_ (by assumption)))⟩
  | true =>
    obtain ⟨f', rfl⟩ : ∃ j : Nat, f = (j : Int) := ⟨f.toNat, by have := (hasB_iff.1 hb).1; omega⟩
    obtain ⟨p1, p2, p3, p4⟩ := has_parts hb
    rw [← HN.out] at p1 p2
    have Hb := Lib.hid hb
    clear hb p3 p4
    go_enter Try.func13, Try.ntmps13
    go_wp2_with (go_at_call 33; ((with_reducible refine (has_any (lo := lo) (hi := hi) _ ?_ ?_).mono ?_); (focus ((have hk := Hl.out); (repeat (first | with_reducible assumption | ((with_reducible refine Kv.lit_new _ _ _ _ _ _ ?_ ?_ ?_ ?_) <;> (first | (simp; done) | rfl | decide)) | with_reducible exact Kv.none_ _ | with_reducible refine Kv.alloc ?_ _ | with_reducible refine Kv.drew ?_ | with_reducible refine Kv.drewN ?_ _ | with_reducible refine Kv.no ?_ (by assumption))))); (focus ((have hk := Hh.out); (repeat (first | with_reducible assumption | ((with_reducible refine Kv.lit_new _ _ _ _ _ _ ?_ ?_ ?_ ?_) <;> (first | (simp; done) | rfl | decide)) | with_reducible exact Kv.none_ _ | with_reducible refine Kv.alloc ?_ _ | with_reducible refine Kv.drew ?_ | with_reducible refine Kv.drewN ?_ _ | with_reducible refine Kv.no ?_ (by assumption))))); rintro e w5 ⟨rfl, hf5⟩; rw [Hb.out]))
    go_loopw [24] (fun x wr => ∃ e : Nat, x = .int .i64 e ∧ Hid (e ≤ 2 ∧ (∀ e' j, e' < e → j < n → tst lo hi rs e' ((f' + j) % n) = false) ∧ Cs w wr A n cn B m cm L ln lc w5.heap.size)) (fun x _ => 2 - (intOf x).toNat)
    case atStart =>
      refine ⟨0, rfl, Lib.hid ⟨by omega, fun e' j h => by omega, ?_, ?_, ?_, ?_⟩⟩
      · (repeat (first | with_reducible assumption | with_reducible refine Ob.other ?_ (by first | (simp; done) | (simp; omega)) _ | ((with_reducible refine Ob.new_ _ _ _ _ ?_) <;> (simp; done)) | with_reducible refine Ob.alloc ?_ _ | with_reducible refine Ob.drew ?_ | with_reducible refine Ob.drewN ?_ _ | with_reducible refine Ob.no ?_ (by assumption)))
      · (repeat (first | with_reducible assumption | with_reducible refine Ob.other ?_ (by first | (simp; done) | (simp; omega)) _ | ((with_reducible refine Ob.new_ _ _ _ _ ?_) <;> (simp; done)) | with_reducible refine Ob.alloc ?_ _ | with_reducible refine Ob.drew ?_ | with_reducible refine Ob.drewN ?_ _ | with_reducible refine Ob.no ?_ (by assumption)))
      · exact Ob.new w5 _ _
      · (repeat (first | with_reducible exact Fr.refl _ _ | with_reducible refine Fr.setCell ?_ (.inr (by first | (simp; done) | (simp; omega))) _ | with_reducible refine Fr.alloc ?_ _ | with_reducible refine Fr.drew ?_ | with_reducible refine Fr.drewN ?_ _ | with_reducible refine Fr.tr ?_ (by assumption)))
    case round =>
      obtain ⟨e, rfl, He⟩ := hrel
      clear hf5
      generalize w5.heap.size = gs at *
      obtain ⟨wo, rfl⟩ : ∃ wo : World, wo = wr := ⟨_, rfl⟩
      have hc1 := He.out.2.2.s.cell 0 rfl
      have hc2 := He.out.2.2.s.cell 1 rfl
      obtain ⟨x0, x1⟩ := cells2 He.out.2.2.b
      by_cases h2 : e < 2
      · have H2 := Lib.hid h2
        rcases (show e = 0 ∨ e = 1 by omega) with rfl | rfl
        · rw [show (((0 : Nat)) : Int) = (0 : Int) from rfl]
          go_wp2
          go_loopw [31] (fun x wr => ∃ i : Nat, x = .int .i64 i ∧ Hid (i ≤ n ∧ (∀ j, j < i → tst lo hi rs 0 ((f' + j) % n) = false) ∧ Fr No wo wr)) (fun x _ => n - (intOf x).toNat)
          case atStart => exact ⟨0, rfl, Lib.hid ⟨Nat.zero_le _, fun j hj => by omega, Fr.refl _ _⟩⟩
          case round =>
            obtain ⟨i, rfl, Hi⟩ := hrel
            have HC := Lib.hid (He.out.2.2.no Hi.out.2.2)
            have z0 := cel_no x0 Hi.out.2.2
            have z1 := cel_no x1 Hi.out.2.2
            by_cases hlt : i < n
            · have Hlt := Lib.hid hlt
              have hdne : n ≠ 0 := by omega
              have htm : ((f' : Int) + (i : Int)).tmod (n : Int) = (((f' + i) % n : Nat) : Int) := by
                rw [Int.tmod_eq_emod_of_nonneg (by omega), Int.natCast_emod, Int.natCast_add]
              have htm2 : ((f' : Int) + (i : Int)) % (n : Int) = (((f' + i) % n : Nat) : Int) := by rw [Int.natCast_emod, Int.natCast_add]
              have Hl2 := Lib.hid (Hl.out.no HC.out.fr)
              have Hh2 := Lib.hid (Hh.out.no HC.out.fr)
              have Hr2 := Lib.hid (Hr.out.no HC.out.fr)
              cases ht : tst lo hi rs 0 ((f' + i) % n) with
              | true =>
                obtain ⟨e1, e2⟩ := ch_hit (lo := lo) (hi := hi) (rs := rs) (f := f') (e := 0) (i := i) Hb.out (by omega) (by rw [← HN.out]; exact hlt) (fun e' j h1 h2 => by have := He.out.2.1 e' j h1 (by rw [HN.out]; exact h2); rwa [HN.out] at this) (fun j hj => by have := Hi.out.2.1 j hj; rwa [HN.out] at this) (by rw [← HN.out]; exact ht)
                rw [← HN.out] at e1
                have E1 := Lib.hid e1
                have E2 := Lib.hid e2
                have Ht := Lib.hid (show bothB lo hi rs (((f' + i) % n : Nat) : Int) = true from ht)
                clear e1 e2 ht
                generalize (f' + i) % n = k at *
                go_wp2_with (go_at_call 34; ((with_reducible refine (parts_any (lo := lo) (hi := hi) (rs := rs) _ HC.out.b HC.out.l Hl2.out Hh2.out Hr2.out).mono ?_); rintro e w6 ⟨rfl, hf6⟩; rw [Ht.out]))
                go_ret2
                exact ⟨by rw [E1.out, E2.out]; rfl, by have := HC.out.fr; (repeat (first | with_reducible exact Fr.refl _ _ | with_reducible refine Fr.setCell ?_ (.inr (by first | (simp; done) | (simp; omega))) _ | with_reducible refine Fr.alloc ?_ _ | with_reducible refine Fr.drew ?_ | with_reducible refine Fr.drewN ?_ _ | with_reducible refine Fr.tr ?_ (by assumption)))⟩
              | false =>
                have Hnx := Lib.hid (show ∀ j, j < i + 1 → tst lo hi rs 0 ((f' + j) % n) = false from fun j hj => by
                  by_cases e : j = i
                  · subst e; exact ht
                  · exact Hi.out.2.1 j (by omega))
                have Ht := Lib.hid (show bothB lo hi rs (((f' + i) % n : Nat) : Int) = false from ht)
                clear ht
                generalize (f' + i) % n = k at *
                go_wp2_with (go_at_call 34; ((with_reducible refine (parts_any (lo := lo) (hi := hi) (rs := rs) _ HC.out.b HC.out.l Hl2.out Hh2.out Hr2.out).mono ?_); rintro e w6 ⟨rfl, hf6⟩; rw [Ht.out]))
                go_roundw
                case rel => exact ⟨i + 1, by go_num, Lib.hid ⟨Hlt.out, Hnx.out, by have := Hi.out.2.2; (repeat (first | with_reducible exact Fr.refl _ _ | with_reducible refine Fr.setCell ?_ (.inr (by first | (simp; done) | (simp; omega))) _ | with_reducible refine Fr.alloc ?_ _ | with_reducible refine Fr.drew ?_ | with_reducible refine Fr.drewN ?_ _ | with_reducible refine Fr.tr ?_ (by assumption)))⟩⟩
                case measure => have := Hlt.out; simp [intOf]; omega
            · obtain rfl : i = n := by have := Hi.out.1; omega
              go_wp2
              go_roundw
              case rel => exact ⟨1, by go_num, Lib.hid ⟨by omega, fun e' j h1 h2 => by
                by_cases e : e' = 0
                · subst e; exact Hi.out.2.1 j h2
                · exact He.out.2.1 e' j (by omega) h2, HC.out⟩⟩
              case measure => simp [intOf]
        · rw [show (((1 : Nat)) : Int) = (1 : Int) from rfl]
          go_wp2
          go_loopw [31] (fun x wr => ∃ i : Nat, x = .int .i64 i ∧ Hid (i ≤ n ∧ (∀ j, j < i → tst lo hi rs 1 ((f' + j) % n) = false) ∧ Fr No wo wr)) (fun x _ => n - (intOf x).toNat)
          case atStart => exact ⟨0, rfl, Lib.hid ⟨Nat.zero_le _, fun j hj => by omega, Fr.refl _ _⟩⟩
          case round =>
            obtain ⟨i, rfl, Hi⟩ := hrel
            have HC := Lib.hid (He.out.2.2.no Hi.out.2.2)
            have z0 := cel_no x0 Hi.out.2.2
            have z1 := cel_no x1 Hi.out.2.2
            by_cases hlt : i < n
            · have Hlt := Lib.hid hlt
              have hdne : n ≠ 0 := by omega
              have htm : ((f' : Int) + (i : Int)).tmod (n : Int) = (((f' + i) % n : Nat) : Int) := by
                rw [Int.tmod_eq_emod_of_nonneg (by omega), Int.natCast_emod, Int.natCast_add]
              have htm2 : ((f' : Int) + (i : Int)) % (n : Int) = (((f' + i) % n : Nat) : Int) := by rw [Int.natCast_emod, Int.natCast_add]
              have Hl2 := Lib.hid (Hl.out.no HC.out.fr)
              have Hh2 := Lib.hid (Hh.out.no HC.out.fr)
              have Hr2 := Lib.hid (Hr.out.no HC.out.fr)
              cases ht : tst lo hi rs 1 ((f' + i) % n) with
              | true =>
                obtain ⟨e1, e2⟩ := ch_hit (lo := lo) (hi := hi) (rs := rs) (f := f') (e := 1) (i := i) Hb.out (by omega) (by rw [← HN.out]; exact hlt) (fun e' j h1 h2 => by have := He.out.2.1 e' j h1 (by rw [HN.out]; exact h2); rwa [HN.out] at this) (fun j hj => by have := Hi.out.2.1 j hj; rwa [HN.out] at this) (by rw [← HN.out]; exact ht)
                rw [← HN.out] at e1
                have E1 := Lib.hid e1
                have E2 := Lib.hid e2
                have Ht := Lib.hid (show wideB lo hi (((f' + i) % n : Nat) : Int) = true from ht)
                clear e1 e2 ht
                generalize (f' + i) % n = k at *
                go_wp2_with (go_at_call 39; ((with_reducible refine (wide_any (lo := lo) (hi := hi) _ HC.out.b Hl2.out Hh2.out).mono ?_); rintro e w6 ⟨rfl, hf6⟩; rw [Ht.out]))
                go_ret2
                exact ⟨by rw [E1.out, E2.out]; rfl, by have := HC.out.fr; (repeat (first | with_reducible exact Fr.refl _ _ | with_reducible refine Fr.setCell ?_ (.inr (by first | (simp; done) | (simp; omega))) _ | with_reducible refine Fr.alloc ?_ _ | with_reducible refine Fr.drew ?_ | with_reducible refine Fr.drewN ?_ _ | with_reducible refine Fr.tr ?_ (by assumption)))⟩
              | false =>
                have Hnx := Lib.hid (show ∀ j, j < i + 1 → tst lo hi rs 1 ((f' + j) % n) = false from fun j hj => by
                  by_cases e : j = i
                  · subst e; exact ht
                  · exact Hi.out.2.1 j (by omega))
                have Ht := Lib.hid (show wideB lo hi (((f' + i) % n : Nat) : Int) = false from ht)
                clear ht
                generalize (f' + i) % n = k at *
                go_wp2_with (go_at_call 39; ((with_reducible refine (wide_any (lo := lo) (hi := hi) _ HC.out.b Hl2.out Hh2.out).mono ?_); rintro e w6 ⟨rfl, hf6⟩; rw [Ht.out]))
                go_roundw
                case rel => exact ⟨i + 1, by go_num, Lib.hid ⟨Hlt.out, Hnx.out, by have := Hi.out.2.2; (repeat (first | with_reducible exact Fr.refl _ _ | with_reducible refine Fr.setCell ?_ (.inr (by first | (simp; done) | (simp; omega))) _ | with_reducible refine Fr.alloc ?_ _ | with_reducible refine Fr.drew ?_ | with_reducible refine Fr.drewN ?_ _ | with_reducible refine Fr.tr ?_ (by assumption)))⟩⟩
                case measure => have := Hlt.out; simp [intOf]; omega
            · obtain rfl : i = n := by have := Hi.out.1; omega
              go_wp2
              go_roundw
              case rel => exact ⟨2, by go_num, Lib.hid ⟨by omega, fun e' j h1 h2 => by
                by_cases e : e' = 1
                · subst e; exact Hi.out.2.1 j h2
                · exact He.out.2.1 e' j (by omega) h2, HC.out⟩⟩
              case measure => simp [intOf]
      · obtain rfl : e = 2 := by have := He.out.1; omega
        obtain ⟨e1, e2⟩ := ch_none (lo := lo) (hi := hi) (rs := rs) (f := f') (fun e' j h1 h2 => by have := He.out.2.1 e' j h1 (by rw [HN.out]; exact h2); rwa [HN.out] at this)
        have E1 := Lib.hid e1
        have E2 := Lib.hid e2
        clear e1 e2
        go_wp2
        go_ret2
        exact ⟨by rw [E1.out, E2.out]; rfl, He.out.2.2.fr⟩
end
end Go.Proofs.Ytbncakbgljhnkaa.Pz11
