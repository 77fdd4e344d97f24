/- Layer 8's laws KeyPoints, KeyOrder, KeyBits. -/
import Derived.Test.YthiolmdmdmimeaaKt08
namespace Go.Proofs.Ythiolmdmdmimeaa.Ku08
open Go.RowKit Go.Proofs.Ythiolmdmdmimeaa.Pk08 Go.Proofs.Ythiolmdmdmimeaa.Pq08 Go.Proofs.Ythiolmdmdmimeaa.Pl08 Go.Proofs.Ythiolmdmdmimeaa.Pm08 Go.Proofs.Ythiolmdmdmimeaa.Base Go.Proofs.Ythiolmdmdmimeaa.App Go.Proofs.Ythiolmdmdmimeaa.Str Go.Proofs.Ythiolmdmdmimeaa.Ty Go.Proofs.Ythiolmdmdmimeaa.Ky Go.Proofs.Ythiolmdmdmimeaa.Iv Go.Proofs.Ythiolmdmdmimeaa.Kc08 Go.Proofs.Ythiolmdmdmimeaa.Kd08 Go.Proofs.Ythiolmdmdmimeaa.Ke08 Go.Proofs.Ythiolmdmdmimeaa.Kf08 Go.Proofs.Ythiolmdmdmimeaa.Kg08 Go.Proofs.Ythiolmdmdmimeaa.Kh08 Go.Proofs.Ythiolmdmdmimeaa.Ki08 Go.Proofs.Ythiolmdmdmimeaa.Kj08 Go.Proofs.Ythiolmdmdmimeaa.Km08 Go.Proofs.Ythiolmdmdmimeaa.Kn08 Go.Proofs.Ythiolmdmdmimeaa.Ko08 Go.Proofs.Ythiolmdmdmimeaa.Kr08 Go.Proofs.Ythiolmdmdmimeaa.Ks08 Go.Proofs.Ythiolmdmdmimeaa.Kt08
set_option linter.unusedVariables false
set_option linter.unusedSimpArgs false
attribute [local irreducible] cmp leL bitsK
def sh2 (n m : Nat) : Bool := allS [(none, n, 0), (none, m, 0)]
def sh3 (n m p : Nat) : Bool := allS [(none, n, 0), (none, m, 0), (none, p, 0)]
def sh5 (n m p q r : Nat) : Bool := allS [(none, n, 0), (none, m, 0), (none, p, 0), (none, q, 0), (none, r, 0)]
theorem short2 {w : World} {A B : Option Addr} {n c m d g : Nat} (h : Ob w g #[.slice A n c, .slice B m d] 23) :
    Calls Try.prog 10 #[.slice (some ⟨g, 0, none⟩) 2 2] w fun e w' => e = .returned (.bool (sh2 n m)) ∧ w = w' :=
  short_any g [(A, n, c), (B, m, d)] 2 w (by simp) (fun i hi => by
    have : i = 0 ∨ i = 1 := by simp at hi; omega
    rcases this with rfl | rfl
    · exact h.cell 0 rfl
    · exact h.cell 1 rfl)
theorem short3 {w : World} {A B C : Option Addr} {n c m d p q g : Nat} (h : Ob w g #[.slice A n c, .slice B m d, .slice C p q] 23) :
    Calls Try.prog 10 #[.slice (some ⟨g, 0, none⟩) 3 3] w fun e w' => e = .returned (.bool (sh3 n m p)) ∧ w = w' :=
  short_any g [(A, n, c), (B, m, d), (C, p, q)] 3 w (by simp) (fun i hi => by
    have : i = 0 ∨ i = 1 ∨ i = 2 := by simp at hi; omega
    rcases this with rfl | rfl | rfl
    · exact h.cell 0 rfl
    · exact h.cell 1 rfl
    · exact h.cell 2 rfl)
theorem short5 {w : World} {A B C D F : Option Addr} {n c m d p q r s t u g : Nat} (h : Ob w g #[.slice A n c, .slice B m d, .slice C p q, .slice D r s, .slice F t u] 23) :
    Calls Try.prog 10 #[.slice (some ⟨g, 0, none⟩) 5 5] w fun e w' => e = .returned (.bool (sh5 n m p r t)) ∧ w = w' :=
  short_any g [(A, n, c), (B, m, d), (C, p, q), (D, r, s), (F, t, u)] 5 w (by simp) (fun i hi => by
    have : i = 0 ∨ i = 1 ∨ i = 2 ∨ i = 3 ∨ i = 4 := by simp at hi; omega
    rcases this with rfl | rfl | rfl | rfl | rfl
    · exact h.cell 0 rfl
    · exact h.cell 1 rfl
    · exact h.cell 2 rfl
    · exact h.cell 3 rfl
    · exact h.cell 4 rfl)
set_option maxHeartbeats 1600000 in
theorem law_points {E E2 : TypeId} (w : World) (A : Option Addr) (n c : Nat) (x : List Int) (ha : Rd (.sl E (.int .u32)) w x [.slice A n c]) (B : Option Addr) (m d : Nat) (y : List Int) (hb : Rd (.sl E2 (.int .u32)) w y [.slice B m d]) (q : Int) (hq : (Lit.int .i64 q).wf = true) :
    Calls Try.prog 3 #[.slice A n c, .slice B m d, .int .i64 q] w fun e w' => e = .returned (.bool true) ∧ Fr No w w' := by
  replace ha := Kv.of_rd ha
  replace hb := Kv.of_rd hb
  generalize x.map Int.toNat = a at *
  generalize y.map Int.toNat = b at *
  have hnl := ha.len_le
  have Hal := Lib.hid ha.len
  cases hs : sh2 n m with
  | false =>
    go_enter Try.func3, Try.ntmps3
    go_wp2_with (first
      | (go_at_call 10; ((with_reducible refine (short2 (A := A) (n := n) (c := c) (B := B) (m := m) (d := d) ?_).mono ?_); (repeat (first | with_reducible assumption | ((with_reducible refine Ob.new_ _ _ _ _ ?_) <;> (simp; done)) | with_reducible refine Ob.alloc ?_ _ | with_reducible refine Ob.drew ?_ | with_reducible refine Ob.drewN ?_ _ | with_reducible refine Ob.no ?_ (by assumption))); rintro e w1 ⟨rfl, rfl⟩; rw [hs]))
      | (go_at_call 11; ((with_reducible refine (live _).mono ?_); rintro e wl ⟨rfl, hfl⟩)))
    go_ret
    refine ⟨rfl, ?_⟩
    (repeat (first | with_reducible exact Fr.refl _ _ | with_reducible refine Fr.alloc ?_ _ | with_reducible refine Fr.drew ?_ | with_reducible refine Fr.drewN ?_ _ | with_reducible refine Fr.tr ?_ (by assumption)))
  | true =>
    by_cases ho : bitsOk n q
    · obtain ⟨k, rfl⟩ := Int.eq_ofNat_of_zero_le ho.2.2.1
      have ho' : bitsOk a.length k := by rw [← Hal.out]; exact ho
      clear hq ho
      go_enter Try.func3, Try.ntmps3
      go_wp2_with (first
        | (go_at_call 10; ((with_reducible refine (short2 (A := A) (n := n) (c := c) (B := B) (m := m) (d := d) ?_).mono ?_); (repeat (first | with_reducible assumption | ((with_reducible refine Ob.new_ _ _ _ _ ?_) <;> (simp; done)) | with_reducible refine Ob.alloc ?_ _ | with_reducible refine Ob.drew ?_ | with_reducible refine Ob.drewN ?_ _ | with_reducible refine Ob.no ?_ (by assumption))); rintro e w1 ⟨rfl, rfl⟩; rw [hs]))
        | (go_at_call 12; ((with_reducible refine (bits_ok (k := a) k ?_ ho').mono ?_); (iterate 1 (repeat (first | with_reducible assumption | ((with_reducible refine Kv.lit_new _ _ _ _ _ _ ?_ ?_ ?_ ?_) <;> (first | (simp; done) | rfl | decide)) | with_reducible exact Kv.none_ _ | with_reducible refine Kv.alloc ?_ _ | with_reducible refine Kv.drew ?_ | with_reducible refine Kv.drewN ?_ _ | with_reducible refine Kv.no ?_ (by assumption)))); rintro e w2 ⟨rfl, rfl⟩))
        | (go_at_call 13; ((with_reducible refine (rbits_ok (k := a) k ?_ ho').mono ?_); (iterate 1 (repeat (first | with_reducible assumption | ((with_reducible refine Kv.lit_new _ _ _ _ _ _ ?_ ?_ ?_ ?_) <;> (first | (simp; done) | rfl | decide)) | with_reducible exact Kv.none_ _ | with_reducible refine Kv.alloc ?_ _ | with_reducible refine Kv.drew ?_ | with_reducible refine Kv.drewN ?_ _ | with_reducible refine Kv.no ?_ (by assumption)))); rintro e w3 ⟨rfl, hf3⟩))
        | (go_at_call 14; ((with_reducible refine (compare (a := a) (b := b) ?_ ?_).mono ?_); (iterate 2 (repeat (first | with_reducible assumption | ((with_reducible refine Kv.lit_new _ _ _ _ _ _ ?_ ?_ ?_ ?_) <;> (first | (simp; done) | rfl | decide)) | with_reducible exact Kv.none_ _ | with_reducible refine Kv.alloc ?_ _ | with_reducible refine Kv.drew ?_ | with_reducible refine Kv.drewN ?_ _ | with_reducible refine Kv.no ?_ (by assumption)))); rintro e w4 ⟨rfl, rfl⟩))
        | (go_at_call 15; ((with_reducible refine (rcompare (a := a) (b := b) ?_ ?_).mono ?_); (iterate 2 (repeat (first | with_reducible assumption | ((with_reducible refine Kv.lit_new _ _ _ _ _ _ ?_ ?_ ?_ ?_) <;> (first | (simp; done) | rfl | decide)) | with_reducible exact Kv.none_ _ | with_reducible refine Kv.alloc ?_ _ | with_reducible refine Kv.drew ?_ | with_reducible refine Kv.drewN ?_ _ | with_reducible refine Kv.no ?_ (by assumption)))); rintro e w5 ⟨rfl, hf5⟩))
        | (go_at_call 16; ((with_reducible refine (check_any _ _ _ _ _).mono ?_); rintro e w6 ⟨rfl, rfl⟩))
        | (go_at_call 17; ((with_reducible refine (rcheck_any _ _ _ _ _).mono ?_); rintro e w7 ⟨rfl, rfl⟩))
        | (go_at_call 11; ((with_reducible refine (live _).mono ?_); rintro e wl ⟨rfl, hfl⟩)))
      go_ret
      refine ⟨rfl, ?_⟩
      (repeat (first | with_reducible exact Fr.refl _ _ | with_reducible refine Fr.alloc ?_ _ | with_reducible refine Fr.drew ?_ | with_reducible refine Fr.drewN ?_ _ | with_reducible refine Fr.tr ?_ (by assumption)))
    · go_enter Try.func3, Try.ntmps3
      go_wp2_with (first
        | (go_at_call 10; ((with_reducible refine (short2 (A := A) (n := n) (c := c) (B := B) (m := m) (d := d) ?_).mono ?_); (repeat (first | with_reducible assumption | ((with_reducible refine Ob.new_ _ _ _ _ ?_) <;> (simp; done)) | with_reducible refine Ob.alloc ?_ _ | with_reducible refine Ob.drew ?_ | with_reducible refine Ob.drewN ?_ _ | with_reducible refine Ob.no ?_ (by assumption))); rintro e w1 ⟨rfl, rfl⟩; rw [hs]))
        | (go_at_call 12; ((with_reducible refine (bits_bad _ ho hnl hq).mono ?_); rintro e w2 ⟨rfl, rfl⟩))
        | (go_at_call 13; ((with_reducible refine (rbits_bad _ ho hnl hq).mono ?_); rintro e w3 ⟨rfl, rfl⟩))
        | (go_at_call 14; ((with_reducible refine (compare (a := a) (b := b) ?_ ?_).mono ?_); (iterate 2 (repeat (first | with_reducible assumption | ((with_reducible refine Kv.lit_new _ _ _ _ _ _ ?_ ?_ ?_ ?_) <;> (first | (simp; done) | rfl | decide)) | with_reducible exact Kv.none_ _ | with_reducible refine Kv.alloc ?_ _ | with_reducible refine Kv.drew ?_ | with_reducible refine Kv.drewN ?_ _ | with_reducible refine Kv.no ?_ (by assumption)))); rintro e w4 ⟨rfl, rfl⟩))
        | (go_at_call 15; ((with_reducible refine (rcompare (a := a) (b := b) ?_ ?_).mono ?_); (iterate 2 (repeat (first | with_reducible assumption | ((with_reducible refine Kv.lit_new _ _ _ _ _ _ ?_ ?_ ?_ ?_) <;> (first | (simp; done) | rfl | decide)) | with_reducible exact Kv.none_ _ | with_reducible refine Kv.alloc ?_ _ | with_reducible refine Kv.drew ?_ | with_reducible refine Kv.drewN ?_ _ | with_reducible refine Kv.no ?_ (by assumption)))); rintro e w5 ⟨rfl, hf5⟩))
        | (go_at_call 16; ((with_reducible refine (check_any _ _ _ _ _).mono ?_); rintro e w6 ⟨rfl, rfl⟩))
        | (go_at_call 17; ((with_reducible refine (rcheck_any _ _ _ _ _).mono ?_); rintro e w7 ⟨rfl, rfl⟩))
        | (go_at_call 11; ((with_reducible refine (live _).mono ?_); rintro e wl ⟨rfl, hfl⟩)))
      go_ret
      refine ⟨rfl, ?_⟩
      (repeat (first | with_reducible exact Fr.refl _ _ | with_reducible refine Fr.alloc ?_ _ | with_reducible refine Fr.drew ?_ | with_reducible refine Fr.drewN ?_ _ | with_reducible refine Fr.tr ?_ (by assumption)))
set_option maxHeartbeats 3200000 in
theorem law_order {E E2 E3 : TypeId} (w : World) (A : Option Addr) (n c : Nat) (x : List Int) (ha : Rd (.sl E (.int .u32)) w x [.slice A n c]) (B : Option Addr) (m d : Nat) (y : List Int) (hb : Rd (.sl E2 (.int .u32)) w y [.slice B m d]) (C : Option Addr) (p q : Nat) (z : List Int) (hc : Rd (.sl E3 (.int .u32)) w z [.slice C p q]) :
    Calls Try.prog 6 #[.slice A n c, .slice B m d, .slice C p q] w fun e w' => e = .returned (.bool true) ∧ Fr No w w' := by
  replace ha := Kv.of_rd ha
  replace hb := Kv.of_rd hb
  replace hc := Kv.of_rd hc
  generalize x.map Int.toNat = a at *
  generalize y.map Int.toNat = b at *
  generalize z.map Int.toNat = k at *
  cases hs : sh3 n m p with
  | false =>
    go_enter Try.func6, Try.ntmps6
    go_wp2_with (first
      | (go_at_call 10; ((with_reducible refine (short3 (A := A) (n := n) (c := c) (B := B) (m := m) (d := d) (C := C) (p := p) (q := q) ?_).mono ?_); (repeat (first | with_reducible assumption | ((with_reducible refine Ob.new_ _ _ _ _ ?_) <;> (simp; done)) | with_reducible refine Ob.alloc ?_ _ | with_reducible refine Ob.drew ?_ | with_reducible refine Ob.drewN ?_ _ | with_reducible refine Ob.no ?_ (by assumption))); rintro e w1 ⟨rfl, rfl⟩; rw [hs]))
      | (go_at_call 11; ((with_reducible refine (live _).mono ?_); rintro e wl ⟨rfl, hfl⟩)))
    go_ret
    refine ⟨rfl, ?_⟩
    (repeat (first | with_reducible exact Fr.refl _ _ | with_reducible refine Fr.alloc ?_ _ | with_reducible refine Fr.drew ?_ | with_reducible refine Fr.drewN ?_ _ | with_reducible refine Fr.tr ?_ (by assumption)))
  | true =>
    have hsw := cmp_swap a b
    have hrg := cmp_rng a b
    have htr := cmp_le_trans a b k
    have Hab : ∃ v : Int, (v = -1 ∨ v = 0 ∨ v = 1) ∧ cmp a b = v ∧ cmp b a = -v := ⟨cmp a b, by omega, rfl, hsw⟩
    clear hsw hrg
    obtain ⟨v, hv, h1, h2⟩ := Hab
    have H1 := Lib.hid h1
    have H2 := Lib.hid h2
    rw [h1] at htr
    clear h1 h2
    rcases hv with rfl | rfl | rfl
    · by_cases hu : cmp b k ≤ 0
      · replace htr := htr (by omega) hu
        go_enter Try.func6, Try.ntmps6
        go_wp2_with (first
          | (go_at_call 10; ((with_reducible refine (short3 (A := A) (n := n) (c := c) (B := B) (m := m) (d := d) (C := C) (p := p) (q := q) ?_).mono ?_); (repeat (first | with_reducible assumption | ((with_reducible refine Ob.new_ _ _ _ _ ?_) <;> (simp; done)) | with_reducible refine Ob.alloc ?_ _ | with_reducible refine Ob.drew ?_ | with_reducible refine Ob.drewN ?_ _ | with_reducible refine Ob.no ?_ (by assumption))); rintro e w1 ⟨rfl, rfl⟩; rw [hs]))
          | (go_at_call 14; ((with_reducible refine (compare (a := a) (b := b) ?_ ?_).mono ?_); (iterate 2 (repeat (first | with_reducible assumption | ((with_reducible refine Kv.lit_new _ _ _ _ _ _ ?_ ?_ ?_ ?_) <;> (first | (simp; done) | rfl | decide)) | with_reducible exact Kv.none_ _ | with_reducible refine Kv.alloc ?_ _ | with_reducible refine Kv.drew ?_ | with_reducible refine Kv.drewN ?_ _ | with_reducible refine Kv.no ?_ (by assumption)))); rintro e w2 ⟨rfl, rfl⟩; rw [H1.out]))
          | (go_at_call 14; ((with_reducible refine (compare (a := b) (b := k) ?_ ?_).mono ?_); (iterate 2 (repeat (first | with_reducible assumption | ((with_reducible refine Kv.lit_new _ _ _ _ _ _ ?_ ?_ ?_ ?_) <;> (first | (simp; done) | rfl | decide)) | with_reducible exact Kv.none_ _ | with_reducible refine Kv.alloc ?_ _ | with_reducible refine Kv.drew ?_ | with_reducible refine Kv.drewN ?_ _ | with_reducible refine Kv.no ?_ (by assumption)))); rintro e w2 ⟨rfl, rfl⟩))
          | (go_at_call 14; ((with_reducible refine (compare (a := b) (b := a) ?_ ?_).mono ?_); (iterate 2 (repeat (first | with_reducible assumption | ((with_reducible refine Kv.lit_new _ _ _ _ _ _ ?_ ?_ ?_ ?_) <;> (first | (simp; done) | rfl | decide)) | with_reducible exact Kv.none_ _ | with_reducible refine Kv.alloc ?_ _ | with_reducible refine Kv.drew ?_ | with_reducible refine Kv.drewN ?_ _ | with_reducible refine Kv.no ?_ (by assumption)))); rintro e w2 ⟨rfl, rfl⟩; rw [H2.out]))
          | (go_at_call 14; ((with_reducible refine (compare (a := a) (b := k) ?_ ?_).mono ?_); (iterate 2 (repeat (first | with_reducible assumption | ((with_reducible refine Kv.lit_new _ _ _ _ _ _ ?_ ?_ ?_ ?_) <;> (first | (simp; done) | rfl | decide)) | with_reducible exact Kv.none_ _ | with_reducible refine Kv.alloc ?_ _ | with_reducible refine Kv.drew ?_ | with_reducible refine Kv.drewN ?_ _ | with_reducible refine Kv.no ?_ (by assumption)))); rintro e w2 ⟨rfl, rfl⟩))
          | (go_at_call 29; ((with_reducible refine (same (a := a) (b := b) ?_ ?_).mono ?_); (iterate 2 (repeat (first | with_reducible assumption | ((with_reducible refine Kv.lit_new _ _ _ _ _ _ ?_ ?_ ?_ ?_) <;> (first | (simp; done) | rfl | decide)) | with_reducible exact Kv.none_ _ | with_reducible refine Kv.alloc ?_ _ | with_reducible refine Kv.drew ?_ | with_reducible refine Kv.drewN ?_ _ | with_reducible refine Kv.no ?_ (by assumption)))); rintro e w3 ⟨rfl, hf3⟩; rw [H1.out]))
          | (go_at_call 11; ((with_reducible refine (live _).mono ?_); rintro e wl ⟨rfl, hfl⟩)))
        go_ret
        refine ⟨rfl, ?_⟩
        (repeat (first | with_reducible exact Fr.refl _ _ | with_reducible refine Fr.alloc ?_ _ | with_reducible refine Fr.drew ?_ | with_reducible refine Fr.drewN ?_ _ | with_reducible refine Fr.tr ?_ (by assumption)))
      · clear htr
        have hu' : 0 < cmp b k := by omega
        clear hu
        go_enter Try.func6, Try.ntmps6
        go_wp2_with (first
          | (go_at_call 10; ((with_reducible refine (short3 (A := A) (n := n) (c := c) (B := B) (m := m) (d := d) (C := C) (p := p) (q := q) ?_).mono ?_); (repeat (first | with_reducible assumption | ((with_reducible refine Ob.new_ _ _ _ _ ?_) <;> (simp; done)) | with_reducible refine Ob.alloc ?_ _ | with_reducible refine Ob.drew ?_ | with_reducible refine Ob.drewN ?_ _ | with_reducible refine Ob.no ?_ (by assumption))); rintro e w1 ⟨rfl, rfl⟩; rw [hs]))
          | (go_at_call 14; ((with_reducible refine (compare (a := a) (b := b) ?_ ?_).mono ?_); (iterate 2 (repeat (first | with_reducible assumption | ((with_reducible refine Kv.lit_new _ _ _ _ _ _ ?_ ?_ ?_ ?_) <;> (first | (simp; done) | rfl | decide)) | with_reducible exact Kv.none_ _ | with_reducible refine Kv.alloc ?_ _ | with_reducible refine Kv.drew ?_ | with_reducible refine Kv.drewN ?_ _ | with_reducible refine Kv.no ?_ (by assumption)))); rintro e w2 ⟨rfl, rfl⟩; rw [H1.out]))
          | (go_at_call 14; ((with_reducible refine (compare (a := b) (b := k) ?_ ?_).mono ?_); (iterate 2 (repeat (first | with_reducible assumption | ((with_reducible refine Kv.lit_new _ _ _ _ _ _ ?_ ?_ ?_ ?_) <;> (first | (simp; done) | rfl | decide)) | with_reducible exact Kv.none_ _ | with_reducible refine Kv.alloc ?_ _ | with_reducible refine Kv.drew ?_ | with_reducible refine Kv.drewN ?_ _ | with_reducible refine Kv.no ?_ (by assumption)))); rintro e w2 ⟨rfl, rfl⟩))
          | (go_at_call 14; ((with_reducible refine (compare (a := b) (b := a) ?_ ?_).mono ?_); (iterate 2 (repeat (first | with_reducible assumption | ((with_reducible refine Kv.lit_new _ _ _ _ _ _ ?_ ?_ ?_ ?_) <;> (first | (simp; done) | rfl | decide)) | with_reducible exact Kv.none_ _ | with_reducible refine Kv.alloc ?_ _ | with_reducible refine Kv.drew ?_ | with_reducible refine Kv.drewN ?_ _ | with_reducible refine Kv.no ?_ (by assumption)))); rintro e w2 ⟨rfl, rfl⟩; rw [H2.out]))
          | (go_at_call 29; ((with_reducible refine (same (a := a) (b := b) ?_ ?_).mono ?_); (iterate 2 (repeat (first | with_reducible assumption | ((with_reducible refine Kv.lit_new _ _ _ _ _ _ ?_ ?_ ?_ ?_) <;> (first | (simp; done) | rfl | decide)) | with_reducible exact Kv.none_ _ | with_reducible refine Kv.alloc ?_ _ | with_reducible refine Kv.drew ?_ | with_reducible refine Kv.drewN ?_ _ | with_reducible refine Kv.no ?_ (by assumption)))); rintro e w3 ⟨rfl, hf3⟩; rw [H1.out]))
          | (go_at_call 11; ((with_reducible refine (live _).mono ?_); rintro e wl ⟨rfl, hfl⟩)))
        go_ret
        refine ⟨rfl, ?_⟩
        (repeat (first | with_reducible exact Fr.refl _ _ | with_reducible refine Fr.alloc ?_ _ | with_reducible refine Fr.drew ?_ | with_reducible refine Fr.drewN ?_ _ | with_reducible refine Fr.tr ?_ (by assumption)))
    · by_cases hu : cmp b k ≤ 0
      · replace htr := htr (by omega) hu
        go_enter Try.func6, Try.ntmps6
        go_wp2_with (first
          | (go_at_call 10; ((with_reducible refine (short3 (A := A) (n := n) (c := c) (B := B) (m := m) (d := d) (C := C) (p := p) (q := q) ?_).mono ?_); (repeat (first | with_reducible assumption | ((with_reducible refine Ob.new_ _ _ _ _ ?_) <;> (simp; done)) | with_reducible refine Ob.alloc ?_ _ | with_reducible refine Ob.drew ?_ | with_reducible refine Ob.drewN ?_ _ | with_reducible refine Ob.no ?_ (by assumption))); rintro e w1 ⟨rfl, rfl⟩; rw [hs]))
          | (go_at_call 14; ((with_reducible refine (compare (a := a) (b := b) ?_ ?_).mono ?_); (iterate 2 (repeat (first | with_reducible assumption | ((with_reducible refine Kv.lit_new _ _ _ _ _ _ ?_ ?_ ?_ ?_) <;> (first | (simp; done) | rfl | decide)) | with_reducible exact Kv.none_ _ | with_reducible refine Kv.alloc ?_ _ | with_reducible refine Kv.drew ?_ | with_reducible refine Kv.drewN ?_ _ | with_reducible refine Kv.no ?_ (by assumption)))); rintro e w2 ⟨rfl, rfl⟩; rw [H1.out]))
          | (go_at_call 14; ((with_reducible refine (compare (a := b) (b := k) ?_ ?_).mono ?_); (iterate 2 (repeat (first | with_reducible assumption | ((with_reducible refine Kv.lit_new _ _ _ _ _ _ ?_ ?_ ?_ ?_) <;> (first | (simp; done) | rfl | decide)) | with_reducible exact Kv.none_ _ | with_reducible refine Kv.alloc ?_ _ | with_reducible refine Kv.drew ?_ | with_reducible refine Kv.drewN ?_ _ | with_reducible refine Kv.no ?_ (by assumption)))); rintro e w2 ⟨rfl, rfl⟩))
          | (go_at_call 14; ((with_reducible refine (compare (a := b) (b := a) ?_ ?_).mono ?_); (iterate 2 (repeat (first | with_reducible assumption | ((with_reducible refine Kv.lit_new _ _ _ _ _ _ ?_ ?_ ?_ ?_) <;> (first | (simp; done) | rfl | decide)) | with_reducible exact Kv.none_ _ | with_reducible refine Kv.alloc ?_ _ | with_reducible refine Kv.drew ?_ | with_reducible refine Kv.drewN ?_ _ | with_reducible refine Kv.no ?_ (by assumption)))); rintro e w2 ⟨rfl, rfl⟩; rw [H2.out]))
          | (go_at_call 14; ((with_reducible refine (compare (a := a) (b := k) ?_ ?_).mono ?_); (iterate 2 (repeat (first | with_reducible assumption | ((with_reducible refine Kv.lit_new _ _ _ _ _ _ ?_ ?_ ?_ ?_) <;> (first | (simp; done) | rfl | decide)) | with_reducible exact Kv.none_ _ | with_reducible refine Kv.alloc ?_ _ | with_reducible refine Kv.drew ?_ | with_reducible refine Kv.drewN ?_ _ | with_reducible refine Kv.no ?_ (by assumption)))); rintro e w2 ⟨rfl, rfl⟩))
          | (go_at_call 29; ((with_reducible refine (same (a := a) (b := b) ?_ ?_).mono ?_); (iterate 2 (repeat (first | with_reducible assumption | ((with_reducible refine Kv.lit_new _ _ _ _ _ _ ?_ ?_ ?_ ?_) <;> (first | (simp; done) | rfl | decide)) | with_reducible exact Kv.none_ _ | with_reducible refine Kv.alloc ?_ _ | with_reducible refine Kv.drew ?_ | with_reducible refine Kv.drewN ?_ _ | with_reducible refine Kv.no ?_ (by assumption)))); rintro e w3 ⟨rfl, hf3⟩; rw [H1.out]))
          | (go_at_call 11; ((with_reducible refine (live _).mono ?_); rintro e wl ⟨rfl, hfl⟩)))
        go_ret
        refine ⟨rfl, ?_⟩
        (repeat (first | with_reducible exact Fr.refl _ _ | with_reducible refine Fr.alloc ?_ _ | with_reducible refine Fr.drew ?_ | with_reducible refine Fr.drewN ?_ _ | with_reducible refine Fr.tr ?_ (by assumption)))
      · clear htr
        have hu' : 0 < cmp b k := by omega
        clear hu
        go_enter Try.func6, Try.ntmps6
        go_wp2_with (first
          | (go_at_call 10; ((with_reducible refine (short3 (A := A) (n := n) (c := c) (B := B) (m := m) (d := d) (C := C) (p := p) (q := q) ?_).mono ?_); (repeat (first | with_reducible assumption | ((with_reducible refine Ob.new_ _ _ _ _ ?_) <;> (simp; done)) | with_reducible refine Ob.alloc ?_ _ | with_reducible refine Ob.drew ?_ | with_reducible refine Ob.drewN ?_ _ | with_reducible refine Ob.no ?_ (by assumption))); rintro e w1 ⟨rfl, rfl⟩; rw [hs]))
          | (go_at_call 14; ((with_reducible refine (compare (a := a) (b := b) ?_ ?_).mono ?_); (iterate 2 (repeat (first | with_reducible assumption | ((with_reducible refine Kv.lit_new _ _ _ _ _ _ ?_ ?_ ?_ ?_) <;> (first | (simp; done) | rfl | decide)) | with_reducible exact Kv.none_ _ | with_reducible refine Kv.alloc ?_ _ | with_reducible refine Kv.drew ?_ | with_reducible refine Kv.drewN ?_ _ | with_reducible refine Kv.no ?_ (by assumption)))); rintro e w2 ⟨rfl, rfl⟩; rw [H1.out]))
          | (go_at_call 14; ((with_reducible refine (compare (a := b) (b := k) ?_ ?_).mono ?_); (iterate 2 (repeat (first | with_reducible assumption | ((with_reducible refine Kv.lit_new _ _ _ _ _ _ ?_ ?_ ?_ ?_) <;> (first | (simp; done) | rfl | decide)) | with_reducible exact Kv.none_ _ | with_reducible refine Kv.alloc ?_ _ | with_reducible refine Kv.drew ?_ | with_reducible refine Kv.drewN ?_ _ | with_reducible refine Kv.no ?_ (by assumption)))); rintro e w2 ⟨rfl, rfl⟩))
          | (go_at_call 14; ((with_reducible refine (compare (a := b) (b := a) ?_ ?_).mono ?_); (iterate 2 (repeat (first | with_reducible assumption | ((with_reducible refine Kv.lit_new _ _ _ _ _ _ ?_ ?_ ?_ ?_) <;> (first | (simp; done) | rfl | decide)) | with_reducible exact Kv.none_ _ | with_reducible refine Kv.alloc ?_ _ | with_reducible refine Kv.drew ?_ | with_reducible refine Kv.drewN ?_ _ | with_reducible refine Kv.no ?_ (by assumption)))); rintro e w2 ⟨rfl, rfl⟩; rw [H2.out]))
          | (go_at_call 29; ((with_reducible refine (same (a := a) (b := b) ?_ ?_).mono ?_); (iterate 2 (repeat (first | with_reducible assumption | ((with_reducible refine Kv.lit_new _ _ _ _ _ _ ?_ ?_ ?_ ?_) <;> (first | (simp; done) | rfl | decide)) | with_reducible exact Kv.none_ _ | with_reducible refine Kv.alloc ?_ _ | with_reducible refine Kv.drew ?_ | with_reducible refine Kv.drewN ?_ _ | with_reducible refine Kv.no ?_ (by assumption)))); rintro e w3 ⟨rfl, hf3⟩; rw [H1.out]))
          | (go_at_call 11; ((with_reducible refine (live _).mono ?_); rintro e wl ⟨rfl, hfl⟩)))
        go_ret
        refine ⟨rfl, ?_⟩
        (repeat (first | with_reducible exact Fr.refl _ _ | with_reducible refine Fr.alloc ?_ _ | with_reducible refine Fr.drew ?_ | with_reducible refine Fr.drewN ?_ _ | with_reducible refine Fr.tr ?_ (by assumption)))
    · clear htr
      go_enter Try.func6, Try.ntmps6
      go_wp2_with (first
        | (go_at_call 10; ((with_reducible refine (short3 (A := A) (n := n) (c := c) (B := B) (m := m) (d := d) (C := C) (p := p) (q := q) ?_).mono ?_); (repeat (first | with_reducible assumption | ((with_reducible refine Ob.new_ _ _ _ _ ?_) <;> (simp; done)) | with_reducible refine Ob.alloc ?_ _ | with_reducible refine Ob.drew ?_ | with_reducible refine Ob.drewN ?_ _ | with_reducible refine Ob.no ?_ (by assumption))); rintro e w1 ⟨rfl, rfl⟩; rw [hs]))
        | (go_at_call 14; ((with_reducible refine (compare (a := a) (b := b) ?_ ?_).mono ?_); (iterate 2 (repeat (first | with_reducible assumption | ((with_reducible refine Kv.lit_new _ _ _ _ _ _ ?_ ?_ ?_ ?_) <;> (first | (simp; done) | rfl | decide)) | with_reducible exact Kv.none_ _ | with_reducible refine Kv.alloc ?_ _ | with_reducible refine Kv.drew ?_ | with_reducible refine Kv.drewN ?_ _ | with_reducible refine Kv.no ?_ (by assumption)))); rintro e w2 ⟨rfl, rfl⟩; rw [H1.out]))
        | (go_at_call 14; ((with_reducible refine (compare (a := b) (b := k) ?_ ?_).mono ?_); (iterate 2 (repeat (first | with_reducible assumption | ((with_reducible refine Kv.lit_new _ _ _ _ _ _ ?_ ?_ ?_ ?_) <;> (first | (simp; done) | rfl | decide)) | with_reducible exact Kv.none_ _ | with_reducible refine Kv.alloc ?_ _ | with_reducible refine Kv.drew ?_ | with_reducible refine Kv.drewN ?_ _ | with_reducible refine Kv.no ?_ (by assumption)))); rintro e w2 ⟨rfl, rfl⟩))
        | (go_at_call 14; ((with_reducible refine (compare (a := b) (b := a) ?_ ?_).mono ?_); (iterate 2 (repeat (first | with_reducible assumption | ((with_reducible refine Kv.lit_new _ _ _ _ _ _ ?_ ?_ ?_ ?_) <;> (first | (simp; done) | rfl | decide)) | with_reducible exact Kv.none_ _ | with_reducible refine Kv.alloc ?_ _ | with_reducible refine Kv.drew ?_ | with_reducible refine Kv.drewN ?_ _ | with_reducible refine Kv.no ?_ (by assumption)))); rintro e w2 ⟨rfl, rfl⟩; rw [H2.out]))
        | (go_at_call 29; ((with_reducible refine (same (a := a) (b := b) ?_ ?_).mono ?_); (iterate 2 (repeat (first | with_reducible assumption | ((with_reducible refine Kv.lit_new _ _ _ _ _ _ ?_ ?_ ?_ ?_) <;> (first | (simp; done) | rfl | decide)) | with_reducible exact Kv.none_ _ | with_reducible refine Kv.alloc ?_ _ | with_reducible refine Kv.drew ?_ | with_reducible refine Kv.drewN ?_ _ | with_reducible refine Kv.no ?_ (by assumption)))); rintro e w3 ⟨rfl, hf3⟩; rw [H1.out]))
        | (go_at_call 11; ((with_reducible refine (live _).mono ?_); rintro e wl ⟨rfl, hfl⟩)))
      go_ret
      refine ⟨rfl, ?_⟩
      (repeat (first | with_reducible exact Fr.refl _ _ | with_reducible refine Fr.alloc ?_ _ | with_reducible refine Fr.drew ?_ | with_reducible refine Fr.drewN ?_ _ | with_reducible refine Fr.tr ?_ (by assumption)))
set_option maxHeartbeats 3200000 in
theorem law_bits {E : TypeId} (w : World) (A : Option Addr) (n c : Nat) (x : List Int) (ha : Rd (.sl E (.int .u32)) w x [.slice A n c]) (p : Int) (hp : (Lit.int .i64 p).wf = true) (q : Int) (hq : (Lit.int .i64 q).wf = true) :
    Calls Try.prog 8 #[.slice A n c, .int .i64 p, .int .i64 q] w fun e w' => e = .returned (.bool true) ∧ Fr No w w' := by
  replace ha := Kv.of_rd ha
  generalize x.map Int.toNat = a at *
  have hnl := ha.len_le
  have Hal := Lib.hid ha.len
  by_cases h20 : 20 < n
  · go_enter Try.func8, Try.ntmps8
    go_wp2_with (first
      | (go_at_call 11; ((with_reducible refine (live _).mono ?_); rintro e wl ⟨rfl, hfl⟩)))
    go_ret
    refine ⟨rfl, ?_⟩
    (repeat (first | with_reducible exact Fr.refl _ _ | with_reducible refine Fr.alloc ?_ _ | with_reducible refine Fr.drew ?_ | with_reducible refine Fr.drewN ?_ _ | with_reducible refine Fr.tr ?_ (by assumption)))
  · by_cases ho : bitsOk n p
    · obtain ⟨k, rfl⟩ := Int.eq_ofNat_of_zero_le ho.2.2.1
      have ho' : bitsOk a.length k := by rw [← Hal.out]; exact ho
      by_cases hr : bitsOk n q
      · obtain ⟨l, rfl⟩ := Int.eq_ofNat_of_zero_le hr.2.2.1
        have hr' : bitsOk a.length l := by rw [← Hal.out]; exact hr
        obtain ⟨_, _, _, o1, _⟩ := ho
        obtain ⟨_, _, _, o2, _⟩ := hr
        by_cases hkl : k ≤ l
        · have hpre := bitsK_pre a k (l - k)
          rw [show k + (l - k) = l by omega] at hpre
          have hlt := bitsK_lt a k
          have h30 : 2 ^ k ≤ 2 ^ 30 := Nat.pow_le_pow_right (by decide) (by omega)
          have heq : (((bitsK a k : Nat) : Int) == ((bitsK a l : Nat) : Int) / 2 ^ (l - k)) = true := by
            rw [beq_iff_eq, hpre, Int.natCast_ediv]
            simp
          have hwr : ((bitsK a k : Nat) : Int) < wrap64 (2 ^ k) := by
            have e : (2 : Int) ^ k = ((2 ^ k : Nat) : Int) := by simp
            rw [e, IntWalk.wrap64_in _ (by omega)]
            omega
          clear hpre hlt h30 hp hq
          go_enter Try.func8, Try.ntmps8
          go_wp2_with (first
            | (go_at_call 12; ((with_reducible refine (bits_ok (k := a) k ?_ ho').mono ?_); (repeat (first | with_reducible assumption | ((with_reducible refine Kv.lit_new _ _ _ _ _ _ ?_ ?_ ?_ ?_) <;> (first | (simp; done) | rfl | decide)) | with_reducible exact Kv.none_ _ | with_reducible refine Kv.alloc ?_ _ | with_reducible refine Kv.drew ?_ | with_reducible refine Kv.drewN ?_ _ | with_reducible refine Kv.no ?_ (by assumption))); rintro e w2 ⟨rfl, rfl⟩))
            | (go_at_call 12; ((with_reducible refine (bits_ok (k := a) l ?_ hr').mono ?_); (repeat (first | with_reducible assumption | ((with_reducible refine Kv.lit_new _ _ _ _ _ _ ?_ ?_ ?_ ?_) <;> (first | (simp; done) | rfl | decide)) | with_reducible exact Kv.none_ _ | with_reducible refine Kv.alloc ?_ _ | with_reducible refine Kv.drew ?_ | with_reducible refine Kv.drewN ?_ _ | with_reducible refine Kv.no ?_ (by assumption))); rintro e w2 ⟨rfl, rfl⟩))
            | (go_at_call 11; ((with_reducible refine (live _).mono ?_); rintro e wl ⟨rfl, hfl⟩)))
          go_ret
          refine ⟨rfl, ?_⟩
          (repeat (first | with_reducible exact Fr.refl _ _ | with_reducible refine Fr.alloc ?_ _ | with_reducible refine Fr.drew ?_ | with_reducible refine Fr.drewN ?_ _ | with_reducible refine Fr.tr ?_ (by assumption)))
        · have hkl' : (l : Int) < k := by omega
          go_enter Try.func8, Try.ntmps8
          go_wp2_with (first
            | (go_at_call 12; ((with_reducible refine (bits_ok (k := a) k ?_ ho').mono ?_); (repeat (first | with_reducible assumption | ((with_reducible refine Kv.lit_new _ _ _ _ _ _ ?_ ?_ ?_ ?_) <;> (first | (simp; done) | rfl | decide)) | with_reducible exact Kv.none_ _ | with_reducible refine Kv.alloc ?_ _ | with_reducible refine Kv.drew ?_ | with_reducible refine Kv.drewN ?_ _ | with_reducible refine Kv.no ?_ (by assumption))); rintro e w2 ⟨rfl, rfl⟩))
            | (go_at_call 12; ((with_reducible refine (bits_ok (k := a) l ?_ hr').mono ?_); (repeat (first | with_reducible assumption | ((with_reducible refine Kv.lit_new _ _ _ _ _ _ ?_ ?_ ?_ ?_) <;> (first | (simp; done) | rfl | decide)) | with_reducible exact Kv.none_ _ | with_reducible refine Kv.alloc ?_ _ | with_reducible refine Kv.drew ?_ | with_reducible refine Kv.drewN ?_ _ | with_reducible refine Kv.no ?_ (by assumption))); rintro e w2 ⟨rfl, rfl⟩))
            | (go_at_call 11; ((with_reducible refine (live _).mono ?_); rintro e wl ⟨rfl, hfl⟩)))
          go_ret
          refine ⟨rfl, ?_⟩
          (repeat (first | with_reducible exact Fr.refl _ _ | with_reducible refine Fr.alloc ?_ _ | with_reducible refine Fr.drew ?_ | with_reducible refine Fr.drewN ?_ _ | with_reducible refine Fr.tr ?_ (by assumption)))
      · clear ho
        go_enter Try.func8, Try.ntmps8
        go_wp2_with (first
          | (go_at_call 12; ((with_reducible refine (bits_ok (k := a) k ?_ ho').mono ?_); (repeat (first | with_reducible assumption | ((with_reducible refine Kv.lit_new _ _ _ _ _ _ ?_ ?_ ?_ ?_) <;> (first | (simp; done) | rfl | decide)) | with_reducible exact Kv.none_ _ | with_reducible refine Kv.alloc ?_ _ | with_reducible refine Kv.drew ?_ | with_reducible refine Kv.drewN ?_ _ | with_reducible refine Kv.no ?_ (by assumption))); rintro e w2 ⟨rfl, rfl⟩))
          | (go_at_call 12; ((with_reducible refine (bits_bad q hr hnl hq).mono ?_); rintro e w2 ⟨rfl, rfl⟩))
          | (go_at_call 11; ((with_reducible refine (live _).mono ?_); rintro e wl ⟨rfl, hfl⟩)))
        go_ret
        refine ⟨rfl, ?_⟩
        (repeat (first | with_reducible exact Fr.refl _ _ | with_reducible refine Fr.alloc ?_ _ | with_reducible refine Fr.drew ?_ | with_reducible refine Fr.drewN ?_ _ | with_reducible refine Fr.tr ?_ (by assumption)))
    · by_cases hr : bitsOk n q
      · obtain ⟨l, rfl⟩ := Int.eq_ofNat_of_zero_le hr.2.2.1
        have hr' : bitsOk a.length l := by rw [← Hal.out]; exact hr
        clear hr
        go_enter Try.func8, Try.ntmps8
        go_wp2_with (first
          | (go_at_call 12; ((with_reducible refine (bits_bad p ho hnl hp).mono ?_); rintro e w2 ⟨rfl, rfl⟩))
          | (go_at_call 12; ((with_reducible refine (bits_ok (k := a) l ?_ hr').mono ?_); (repeat (first | with_reducible assumption | ((with_reducible refine Kv.lit_new _ _ _ _ _ _ ?_ ?_ ?_ ?_) <;> (first | (simp; done) | rfl | decide)) | with_reducible exact Kv.none_ _ | with_reducible refine Kv.alloc ?_ _ | with_reducible refine Kv.drew ?_ | with_reducible refine Kv.drewN ?_ _ | with_reducible refine Kv.no ?_ (by assumption))); rintro e w2 ⟨rfl, rfl⟩))
          | (go_at_call 11; ((with_reducible refine (live _).mono ?_); rintro e wl ⟨rfl, hfl⟩)))
        go_ret
        refine ⟨rfl, ?_⟩
        (repeat (first | with_reducible exact Fr.refl _ _ | with_reducible refine Fr.alloc ?_ _ | with_reducible refine Fr.drew ?_ | with_reducible refine Fr.drewN ?_ _ | with_reducible refine Fr.tr ?_ (by assumption)))
      · go_enter Try.func8, Try.ntmps8
        go_wp2_with (first
          | (go_at_call 12; ((with_reducible refine (bits_bad p ho hnl hp).mono ?_); rintro e w2 ⟨rfl, rfl⟩))
          | (go_at_call 12; ((with_reducible refine (bits_bad q hr hnl hq).mono ?_); rintro e w2 ⟨rfl, rfl⟩))
          | (go_at_call 11; ((with_reducible refine (live _).mono ?_); rintro e wl ⟨rfl, hfl⟩)))
        go_ret
        refine ⟨rfl, ?_⟩
        (repeat (first | with_reducible exact Fr.refl _ _ | with_reducible refine Fr.alloc ?_ _ | with_reducible refine Fr.drew ?_ | with_reducible refine Fr.drewN ?_ _ | with_reducible refine Fr.tr ?_ (by assumption)))
end Go.Proofs.Ythiolmdmdmimeaa.Ku08
