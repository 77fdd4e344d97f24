/- Layer 8's law KeyBoxes. -/
import Derived.Test.YthiolmdmdmimeaaKv08
import Derived.Test.YthiolmdmdmimeaaKy08
namespace Go.Proofs.Ythiolmdmdmimeaa.Kb08
open Go.RowKit Go.Proofs.Ythiolmdmdmimeaa.Pk08 Go.Proofs.Ythiolmdmdmimeaa.Pq08 Go.Proofs.Ythiolmdmdmimeaa.Pl08 Go.Proofs.Ythiolmdmdmimeaa.Pm08 Go.Proofs.Ythiolmdmdmimeaa.Base Go.Proofs.Ythiolmdmdmimeaa.App Go.Proofs.Ythiolmdmdmimeaa.Str Go.Proofs.Ythiolmdmdmimeaa.Ty Go.Proofs.Ythiolmdmdmimeaa.Ky Go.Proofs.Ythiolmdmdmimeaa.Iv Go.Proofs.Ythiolmdmdmimeaa.Kc08 Go.Proofs.Ythiolmdmdmimeaa.Kd08 Go.Proofs.Ythiolmdmdmimeaa.Ke08 Go.Proofs.Ythiolmdmdmimeaa.Kf08 Go.Proofs.Ythiolmdmdmimeaa.Kg08 Go.Proofs.Ythiolmdmdmimeaa.Kh08 Go.Proofs.Ythiolmdmdmimeaa.Ki08 Go.Proofs.Ythiolmdmdmimeaa.Kj08 Go.Proofs.Ythiolmdmdmimeaa.Km08 Go.Proofs.Ythiolmdmdmimeaa.Kn08 Go.Proofs.Ythiolmdmdmimeaa.Ko08 Go.Proofs.Ythiolmdmdmimeaa.Kr08 Go.Proofs.Ythiolmdmdmimeaa.Ks08 Go.Proofs.Ythiolmdmdmimeaa.Kt08 Go.Proofs.Ythiolmdmdmimeaa.Ku08 Go.Proofs.Ythiolmdmdmimeaa.Kv08 Go.Proofs.Ythiolmdmdmimeaa.Ky08
set_option linter.unusedVariables false
set_option linter.unusedSimpArgs false
attribute [local irreducible] cmp leL bitsK
theorem six {w' : World} {s t u : Nat} {a b c d e f : Value} {T : TypeId} (h1 : Ob w' s #[a, b] T) (h2 : Ob w' t #[c, d] T) (h3 : Ob w' u #[e, f] T) :
    w'.cell? ⟨s, 0, none⟩ = some a ∧ w'.cell? ⟨s, 1, none⟩ = some b ∧ w'.cell? ⟨t, 0, none⟩ = some c ∧ w'.cell? ⟨t, 1, none⟩ = some d ∧ w'.cell? ⟨u, 0, none⟩ = some e ∧ w'.cell? ⟨u, 1, none⟩ = some f :=
  ⟨h1.cell 0 rfl, h1.cell 1 rfl, h2.cell 0 rfl, h2.cell 1 rfl, h3.cell 0 rfl, h3.cell 1 rfl⟩
theorem sh5_le {n m p q r : Nat} (h : sh5 n m p q r = true) : m ≤ 1000000 := by
  unfold sh5 allS at h
  simp at h
  omega
set_option maxHeartbeats 3200000 in
theorem law_boxes {E E1 E2 E3 E4 : TypeId} (w : World) (K : Option Addr) (n c : Nat) (x : List Int) (hk : Rd (.sl E (.int .u32)) w x [.slice K n c]) (cs : Array Value) (y : (boxT E1 E2).D) (ha : Rd (boxT E1 E2) w y cs.toList) (ds : Array Value) (z : (boxT E3 E4).D) (hb : Rd (boxT E3 E4) w z ds.toList) :
    Calls Try.prog 4 #[.slice K n c, .agg cs, .agg ds] w fun e w' => e = .returned (.bool true) ∧ Fr No w w' := by
  replace hk := Kv.of_rd hk
  obtain ⟨A, n1, c1, B, n2, c2, al, ah, rfl, hal, hah⟩ := rd_box ha
  obtain ⟨C, n3, c3, D, n4, c4, bl, bh, rfl, hbl, hbh⟩ := rd_box hb
  clear ha hb y z
  generalize x.map Int.toNat = k at *
  cases hs : sh5 n n1 n2 n3 n4 with
  | false =>
    go_enter Try.func4, Try.ntmps4
    go_wp2_with (first
      | (go_at_call 10; ((with_reducible refine (short5 (A := K) (n := n) (c := c) (B := A) (m := n1) (d := c1) (C := B) (p := n2) (q := c2) (D := C) (r := n3) (s := c3) (F := D) (t := n4) (u := c4) ?_).mono ?_); (repeat (first | with_reducible assumption | ((with_reducible refine Ob.new_ _ _ _ _ ?_) <;> (simp; done)) | with_reducible refine Ob.alloc ?_ _ | with_reducible refine Ob.drew ?_ | with_reducible refine Ob.drewN ?_ _ | with_reducible refine Ob.no ?_ (by assumption))); rintro e w1 ⟨rfl, rfl⟩; rw [hs]))
      | (go_at_call 11; ((with_reducible refine (live _).mono ?_); rintro e wl ⟨rfl, hfl⟩)))
    go_ret
    refine ⟨rfl, ?_⟩
    (repeat (first | with_reducible exact Fr.refl _ _ | with_reducible refine Fr.alloc ?_ _ | with_reducible refine Fr.drew ?_ | with_reducible refine Fr.drewN ?_ _ | with_reducible refine Fr.tr ?_ (by assumption)))
  | true =>
    have hl1 := sh5_le hs
    go_enter Try.func4, Try.ntmps4
    go_wp2_with (go_at_call 10; ((with_reducible refine (short5 (A := K) (n := n) (c := c) (B := A) (m := n1) (d := c1) (C := B) (p := n2) (q := c2) (D := C) (r := n3) (s := c3) (F := D) (t := n4) (u := c4) ?_).mono ?_); (repeat (first | with_reducible assumption | ((with_reducible refine Ob.new_ _ _ _ _ ?_) <;> (simp; done)) | with_reducible refine Ob.alloc ?_ _ | with_reducible refine Ob.drew ?_ | with_reducible refine Ob.drewN ?_ _ | with_reducible refine Ob.no ?_ (by assumption))); rintro e w1 ⟨rfl, rfl⟩; rw [hs]))
    go_wp2_with (go_at_call 18; ((with_reducible refine (meet_any (al := al) (ah := ah) (bl := bl) (bh := bh) ?_ ?_ ?_ ?_ hl1).mono ?_); (iterate 4 (repeat (first | with_reducible assumption | ((with_reducible refine Kv.lit_new _ _ _ _ _ _ ?_ ?_ ?_ ?_) <;> (first | (simp; done) | rfl | decide)) | with_reducible exact Kv.none_ _ | with_reducible refine Kv.alloc ?_ _ | with_reducible refine Kv.drew ?_ | with_reducible refine Kv.drewN ?_ _ | with_reducible refine Kv.no ?_ (by assumption)))); rintro e w3 ⟨A3, p1, q1, B3, p2, q2, rfl, hlo3, hhi3, hf3⟩; obtain ⟨ya3a, ya3b, ya3l, ya3m, ya3n, ya3o, ya3p, ya3q⟩ := (show Ob w3 w.heap.size #[.slice A n1 c1, .slice B n2 c2] 33 by (repeat (first | with_reducible assumption | ((with_reducible refine Ob.new_ _ _ _ _ ?_) <;> (simp; done)) | with_reducible refine Ob.alloc ?_ _ | with_reducible refine Ob.drew ?_ | with_reducible refine Ob.drewN ?_ _ | with_reducible refine Ob.no ?_ (by assumption)))).two; obtain ⟨yb3a, yb3b, yb3l, yb3m, yb3n, yb3o, yb3p, yb3q⟩ := (show Ob w3 (w.heap.size + 1) #[.slice C n3 c3, .slice D n4 c4] 33 by (repeat (first | with_reducible assumption | ((with_reducible refine Ob.new_ _ _ _ _ ?_) <;> (simp; done)) | with_reducible refine Ob.alloc ?_ _ | with_reducible refine Ob.drew ?_ | with_reducible refine Ob.drewN ?_ _ | with_reducible refine Ob.no ?_ (by assumption)))).two))
    go_wp2_with (go_at_call 19; ((with_reducible refine (rmeet_any (al := al) (ah := ah) (bl := bl) (bh := bh) ?_ ?_ ?_ ?_ hl1).mono ?_); (iterate 4 (repeat (first | with_reducible assumption | ((with_reducible refine Kv.lit_new _ _ _ _ _ _ ?_ ?_ ?_ ?_) <;> (first | (simp; done) | rfl | decide)) | with_reducible exact Kv.none_ _ | with_reducible refine Kv.alloc ?_ _ | with_reducible refine Kv.drew ?_ | with_reducible refine Kv.drewN ?_ _ | with_reducible refine Kv.no ?_ (by assumption)))); rintro e w4 ⟨A4, p3, q3, B4, p4, q4, rfl, hlo4, hhi4, hf4⟩))
    go_region_held3 (fun w' => w'.cell? ⟨w.heap.size, 0, none⟩ = some (.slice A n1 c1) ∧ w'.cell? ⟨w.heap.size, 1, none⟩ = some (.slice B n2 c2) ∧ w'.cell? ⟨w3.heap.size, 0, none⟩ = some (.slice A3 p1 q1) ∧ w'.cell? ⟨w3.heap.size, 1, none⟩ = some (.slice B3 p2 q2) ∧ w'.cell? ⟨w4.heap.size, 0, none⟩ = some (.slice A4 p3 q3) ∧ w'.cell? ⟨w4.heap.size, 1, none⟩ = some (.slice B4 p4 q4))
      ((refine six (T := 33) ?_ ?_ ?_ <;> (repeat (first | with_reducible assumption | ((with_reducible refine Ob.new_ _ _ _ _ ?_) <;> (simp; done)) | with_reducible refine Ob.alloc ?_ _ | with_reducible refine Ob.drew ?_ | with_reducible refine Ob.drewN ?_ _ | with_reducible refine Ob.no ?_ (by assumption)))))
      (first
        | (go_at_call 20; ((with_reducible refine (in_any (k := k) (lo := al) (hi := ah) ?_ ?_ ?_).mono ?_); (iterate 3 (repeat (first | with_reducible assumption | ((with_reducible refine Kv.lit_new _ _ _ _ _ _ ?_ ?_ ?_ ?_) <;> (first | (simp; done) | rfl | decide)) | with_reducible exact Kv.none_ _ | with_reducible refine Kv.alloc ?_ _ | with_reducible refine Kv.drew ?_ | with_reducible refine Kv.drewN ?_ _ | with_reducible refine Kv.no ?_ (by assumption)))); rintro e w5 ⟨rfl, hf5⟩))
        | (go_at_call 21; ((with_reducible refine (rin_any (k := k) (lo := al) (hi := ah) ?_ ?_ ?_).mono ?_); (iterate 3 (repeat (first | with_reducible assumption | ((with_reducible refine Kv.lit_new _ _ _ _ _ _ ?_ ?_ ?_ ?_) <;> (first | (simp; done) | rfl | decide)) | with_reducible exact Kv.none_ _ | with_reducible refine Kv.alloc ?_ _ | with_reducible refine Kv.drew ?_ | with_reducible refine Kv.drewN ?_ _ | with_reducible refine Kv.no ?_ (by assumption)))); rintro e w6 ⟨rfl, hf6⟩))
        | (go_at_call 22; ((with_reducible refine (checkBox_any (lo := al) (hi := ah) _ ?_ ?_).mono ?_); (iterate 2 (repeat (first | with_reducible assumption | ((with_reducible refine Kv.lit_new _ _ _ _ _ _ ?_ ?_ ?_ ?_) <;> (first | (simp; done) | rfl | decide)) | with_reducible exact Kv.none_ _ | with_reducible refine Kv.alloc ?_ _ | with_reducible refine Kv.drew ?_ | with_reducible refine Kv.drewN ?_ _ | with_reducible refine Kv.no ?_ (by assumption)))); rintro e w7 ⟨rfl, hf7⟩))
        | (go_at_call 23; ((with_reducible refine (rcheckBox_any (lo := al) (hi := ah) _ ?_ ?_).mono ?_); (iterate 2 (repeat (first | with_reducible assumption | ((with_reducible refine Kv.lit_new _ _ _ _ _ _ ?_ ?_ ?_ ?_) <;> (first | (simp; done) | rfl | decide)) | with_reducible exact Kv.none_ _ | with_reducible refine Kv.alloc ?_ _ | with_reducible refine Kv.drew ?_ | with_reducible refine Kv.drewN ?_ _ | with_reducible refine Kv.no ?_ (by assumption)))); rintro e w8 ⟨rfl, hf8⟩))
        | (go_at_call 24; ((with_reducible refine (sameBox_any (lo := meetLo al ah bl bh) (hi := meetHi al ah bl bh) (a := meetLo al ah bl bh) (b := meetHi al ah bl bh) ?_ ?_ ?_ ?_).mono ?_); (iterate 4 (repeat (first | with_reducible assumption | ((with_reducible refine Kv.lit_new _ _ _ _ _ _ ?_ ?_ ?_ ?_) <;> (first | (simp; done) | rfl | decide)) | with_reducible exact Kv.none_ _ | with_reducible refine Kv.alloc ?_ _ | with_reducible refine Kv.drew ?_ | with_reducible refine Kv.drewN ?_ _ | with_reducible refine Kv.no ?_ (by assumption)))); rintro e w9 ⟨rfl, hf9⟩; rw [pair_self]))
        | (go_at_call 11; ((with_reducible refine (live _).mono ?_); rintro e wl ⟨rfl, hfl⟩))
        | fail)
    go_wp2
    go_ret
    refine ⟨rfl, ?_⟩
    (repeat (first | with_reducible exact Fr.refl _ _ | with_reducible refine Fr.alloc ?_ _ | with_reducible refine Fr.drew ?_ | with_reducible refine Fr.drewN ?_ _ | with_reducible refine Fr.tr ?_ (by assumption)))
end Go.Proofs.Ythiolmdmdmimeaa.Kb08
