/- Layer 18's law LinearHolds. -/
import Derived.Test.YtplpgneckfmjpaaLi18
namespace Go.Proofs.Ytplpgneckfmjpaa.Lj18
open Go.RowKit Go.Proofs.Ytplpgneckfmjpaa.Pk08 Go.Proofs.Ytplpgneckfmjpaa.Base Go.Proofs.Ytplpgneckfmjpaa.App Go.Proofs.Ytplpgneckfmjpaa.Ty Go.Proofs.Ytplpgneckfmjpaa.Ky Go.Proofs.Ytplpgneckfmjpaa.Iv Go.Proofs.Ytplpgneckfmjpaa.Bx Go.Proofs.Ytplpgneckfmjpaa.Kk Go.Proofs.Ytplpgneckfmjpaa.Bo Go.Proofs.Ytplpgneckfmjpaa.As Go.Proofs.Ytplpgneckfmjpaa.Kc08 Go.Proofs.Ytplpgneckfmjpaa.Ke08 Go.Proofs.Ytplpgneckfmjpaa.Kh08 Go.Proofs.Ytplpgneckfmjpaa.Kj08 Go.Proofs.Ytplpgneckfmjpaa.Km08 Go.Proofs.Ytplpgneckfmjpaa.Px16 Go.Proofs.Ytplpgneckfmjpaa.Py16 Go.Proofs.Ytplpgneckfmjpaa.Pz18 Go.Proofs.Ytplpgneckfmjpaa.Hd16 Go.Proofs.Ytplpgneckfmjpaa.He16 Go.Proofs.Ytplpgneckfmjpaa.Hg16 Go.Proofs.Ytplpgneckfmjpaa.Hi16 Go.Proofs.Ytplpgneckfmjpaa.Hj16 Go.Proofs.Ytplpgneckfmjpaa.Hk16 Go.Proofs.Ytplpgneckfmjpaa.Lz18 Go.Proofs.Ytplpgneckfmjpaa.La18 Go.Proofs.Ytplpgneckfmjpaa.Lb18 Go.Proofs.Ytplpgneckfmjpaa.Lc18 Go.Proofs.Ytplpgneckfmjpaa.Ld18 Go.Proofs.Ytplpgneckfmjpaa.Le18 Go.Proofs.Ytplpgneckfmjpaa.Lf18 Go.Proofs.Ytplpgneckfmjpaa.Lg18 Go.Proofs.Ytplpgneckfmjpaa.Lh18 Go.Proofs.Ytplpgneckfmjpaa.Li18
set_option linter.unusedVariables false
set_option linter.unusedSimpArgs false
theorem lf_cases (k : List Nat) (l t : Int) : lfE k l t = 1 ∨ (lfE k l t = 0 ∧ ∃ u m : Nat, l = (u : Int) ∧ t = (m : Int) ∧ u ≤ 10 ∧ m < 2 ^ u ∧ 1 ≤ k.length ∧ k.length ≤ 6 ∧ lfV k l t = ((chain k u m : Nat) : Int)) := by
  cases h : lfOk k.length l t with
  | false => exact .inl (lf_no h).2
  | true =>
    have h' := h
    unfold lfOk at h'
    rw [Bool.and_eq_true, decide_eq_true_eq] at h'
    obtain ⟨u, m, rfl, rfl, g1, g2, _⟩ := lv_in h'.1
    exact .inr ⟨by unfold lfE; rw [if_pos h], u, m, rfl, rfl, g1, g2, h'.2.1, h'.2.2, by unfold lfV; rw [if_pos h, Int.toNat_natCast, Int.toNat_natCast]⟩
theorem lf_at (k : List Nat) {u m : Nat} (h1 : 1 ≤ k.length) (h6 : k.length ≤ 6) (hu : u ≤ 10) (hm : m < 2 ^ u) : lfE k (u : Int) (m : Int) = 0 ∧ lfV k (u : Int) (m : Int) = ((chain k u m : Nat) : Int) := by
  have o : lfOk k.length (u : Int) (m : Int) = true := by unfold lfOk; rw [lv_mk hu hm, decide_eq_true ⟨h1, h6⟩]; rfl
  exact ⟨by unfold lfE; rw [if_pos o], by unfold lfV; rw [if_pos o, Int.toNat_natCast, Int.toNat_natCast]⟩
/-- A chain that is not the point's has it not. -/
theorem nb {k : List Nat} {u m : Nat} (h1 : 1 ≤ k.length) (h6 : k.length ≤ 6) (hlt : ∀ x ∈ k, x < 4294967296) (hu : u ≤ 10) (hm : m < 2 ^ u) (i : Int) (hi : i ≠ ((chain k u m : Nat) : Int)) :
    lbE (k.length : Int) u m i = 1 ∨ (lbE (k.length : Int) u m i = 0 ∧ inB k (lbL (k.length : Int) u m i) (lbH (k.length : Int) u m i) = false) := by
  cases ho : lbOk (k.length : Int) (u : Int) (m : Int) i with
  | false => exact .inl (lb_no ho).2.2
  | true =>
    right
    refine ⟨by unfold lbE; rw [if_pos ho], ?_⟩
    have h := ho
    unfold lbOk at h
    rw [Bool.and_eq_true, decide_eq_true_eq] at h
    obtain ⟨_, _, _, h3, h4⟩ := h
    obtain ⟨j, rfl⟩ := Int.eq_ofNat_of_zero_le h3
    rw [Int.toNat_natCast] at h4
    have hp : ((2 ^ u : Nat) : Int) = (2 : Int) ^ u := by simp
    have hj : j < 2 ^ u + m := by omega
    obtain ⟨e1, e2, _⟩ := lb_len (d := k.length) ⟨h1, h6⟩ (lv_mk hu hm) hj
    rw [e1, e2]
    cases hx : inB k (chLo k.length u m j) (chHi k.length u m j) with
    | false => rfl
    | true =>
      have := (in_chain (by omega) rfl hlt hu hm hj).1 hx
      exact absurd (by rw [this]) hi
theorem nb_in {k : List Nat} {u m : Nat} (h1 : 1 ≤ k.length) (h6 : k.length ≤ 6) (hlt : ∀ x ∈ k, x < 4294967296) (hu : u ≤ 10) (hm : m < 2 ^ u) :
    lbE (k.length : Int) u m ((chain k u m : Nat) : Int) = 0 ∧ inB k (lbL (k.length : Int) u m ((chain k u m : Nat) : Int)) (lbH (k.length : Int) u m ((chain k u m : Nat) : Int)) = true := by
  have hj := chain_lt k u m hm
  have hp : ((2 ^ u : Nat) : Int) = (2 : Int) ^ u := by simp
  obtain ⟨e1, e2, _⟩ := lb_len (d := k.length) ⟨h1, h6⟩ (lv_mk hu hm) hj
  have ho : lbOk (k.length : Int) (u : Int) (m : Int) ((chain k u m : Nat) : Int) = true := by
    unfold lbOk
    rw [lv_mk hu hm, Int.toNat_natCast, decide_eq_true ⟨by omega, by omega, by omega, by omega⟩]
    rfl
  refine ⟨by unfold lbE; rw [if_pos ho], ?_⟩
  rw [e1, e2]
  exact (in_chain (by omega) rfl hlt hu hm hj).2 rfl
set_option maxRecDepth 100000 in
set_option maxHeartbeats 6400000 in
theorem law_holds {E : TypeId} (w : World) (A : Option Addr) (n c : Nat) (x : List Int) (h : Rd (.sl E (.int .u32)) w x [.slice A n c]) (l : Int) (hl : (Lit.int .i64 l).wf = true) (t : Int) (ht : (Lit.int .i64 t).wf = true) :
    Calls Try.prog 7 #[.slice A n c, .int .i64 l, .int .i64 t] w fun e w' => e = .returned (.bool true) ∧ Fr No w w' := by
  replace h := Kv.of_rd h
  generalize x.map Int.toNat = k at *
  clear hl ht x
  rcases lf_cases k l t with h1 | ⟨h1, u, m, rfl, rfl, hu, hm, k1, k6, hv⟩
  · have H1 := Lib.hid h1
    clear h1
    go_enter Try.func7, Try.ntmps7
    go_wp2_with (go_at_call 12; ((with_reducible refine (lfind_any (k := k) _ _ ?_).mono ?_); (iterate 1 (repeat (first | with_reducible assumption | ((with_reducible refine Kv.lit_new _ _ _ _ _ _ ?_ ?_ ?_ ?_) <;> (first | (simp; done) | rfl | decide)) | with_reducible exact Kv.none_ _ | with_reducible refine Kv.alloc ?_ _ | with_reducible refine Kv.drew ?_ | with_reducible refine Kv.drewN ?_ _ | with_reducible refine Kv.no ?_ (by assumption)))); rintro e w1 ⟨rfl, rfl⟩; rw [H1.out]))
    go_wp2_with (go_at_call 9; ((with_reducible refine (live _).mono ?_); rintro e wl ⟨rfl, hfl⟩))
    go_ret
    exact ⟨rfl, by (repeat (first | with_reducible exact Fr.refl _ _ | with_reducible refine Fr.setCell ?_ (.inr (by first | (simp; done) | (simp; omega))) _ | with_reducible refine Fr.alloc ?_ _ | with_reducible refine Fr.drew ?_ | with_reducible refine Fr.drewN ?_ _ | with_reducible refine Fr.tr ?_ (by assumption)))⟩
  · by_cases h9 : 9 < u
    · have H1 := Lib.hid h1
      have h9' : (9 : Int) < (u : Int) := by omega
      clear h1
      go_enter Try.func7, Try.ntmps7
      go_wp2_with (go_at_call 12; ((with_reducible refine (lfind_any (k := k) _ _ ?_).mono ?_); (iterate 1 (repeat (first | with_reducible assumption | ((with_reducible refine Kv.lit_new _ _ _ _ _ _ ?_ ?_ ?_ ?_) <;> (first | (simp; done) | rfl | decide)) | with_reducible exact Kv.none_ _ | with_reducible refine Kv.alloc ?_ _ | with_reducible refine Kv.drew ?_ | with_reducible refine Kv.drewN ?_ _ | with_reducible refine Kv.no ?_ (by assumption)))); rintro e w1 ⟨rfl, rfl⟩; rw [H1.out]))
      go_wp2_with (go_at_call 9; ((with_reducible refine (live _).mono ?_); rintro e wl ⟨rfl, hfl⟩))
      go_ret
      exact ⟨rfl, by (repeat (first | with_reducible exact Fr.refl _ _ | with_reducible refine Fr.setCell ?_ (.inr (by first | (simp; done) | (simp; omega))) _ | with_reducible refine Fr.alloc ?_ _ | with_reducible refine Fr.drew ?_ | with_reducible refine Fr.drewN ?_ _ | with_reducible refine Fr.tr ?_ (by assumption)))⟩
    · have hln := h.len
      obtain ⟨i0, i1⟩ := nb_in k1 k6 h.lt hu hm
      have n1 := nb k1 k6 h.lt hu hm (((chain k u m : Nat) : Int) + 1) (by omega)
      have n2 := nb k1 k6 h.lt hu hm (((chain k u m : Nat) : Int) - 1) (by omega)
      rw [← hln] at i0 i1 n1 n2
      have hgz : (grow (u : Int) (m : Int)).2.2.2 = 0 := by
        rcases grow_cases (u : Int) (m : Int) with ⟨q1, _⟩ | ⟨_, q2, _⟩ | ⟨_, _, _, q⟩ | ⟨_, _, _, q⟩
        · rw [lv_mk hu hm] at q1; cases q1
        · omega
        · rw [q]
        · rw [q]
      obtain ⟨u', m', v, q, e1, e2, _, _, g3, g4, hg, _, _, hor⟩ := grow_in hgz
      obtain rfl : u = u' := by omega
      obtain rfl : m = m' := by omega
      obtain ⟨f1, f2⟩ := lf_at k k1 k6 g3 g4
      obtain ⟨gc1, gc2, gc3⟩ := grow_chain k u m hm v q hor
      have hcl := chain_lt k u m hm
      have hu2 := Nat.pow_le_pow_right (show 0 < 2 by decide) hu
      have hu3 : (2 : Nat) ^ 10 = 1024 := rfl
      have hres : (chain k u m < 2 * m ∧ lfV k (v : Int) (q : Int) = ((chain k u m : Nat) : Int)) ∨ (2 * m < chain k u m ∧ lfV k (v : Int) (q : Int) = ((chain k u m : Nat) : Int) + 1) ∨ (chain k u m = 2 * m ∧ (lfV k (v : Int) (q : Int) = ((chain k u m : Nat) : Int) ∨ lfV k (v : Int) (q : Int) = ((chain k u m : Nat) : Int) + 1)) := by
        rw [f2]
        rcases Nat.lt_trichotomy (chain k u m) (2 * m) with hx | hx | hx
        · exact .inl ⟨hx, by rw [gc1 hx]⟩
        · refine .inr (.inr ⟨hx, ?_⟩)
          rcases gc3 hx with hy | hy
          · exact .inl (by rw [hy])
          · exact .inr (by rw [hy]; omega)
        · exact .inr (.inl ⟨hx, by rw [gc2 hx]; omega⟩)
      have H1 := Lib.hid h1
      have Hv := Lib.hid hv
      have I0 := Lib.hid i0
      have I1 := Lib.hid i1
      have Hg := Lib.hid hg
      have F1 := Lib.hid f1
      have hN : chain k u m < 2048 := by omega
      have hm2 : m < 1024 := by omega
      have h9' : (u : Int) ≤ 9 := by omega
      have hn6 : n ≤ 6 := by omega
      clear h1 hv i0 i1 hgz e1 e2 g3 g4 hg hor f1 f2 gc1 gc2 gc3 hcl hu2 hu3 k1 k6 hln h9 hu hm
      generalize chain k u m = N at *
      generalize (v : Int) = va at *
      generalize (q : Int) = qa at *
      have hres' : (((N : Int) < 2 * (m : Int)) ∧ Hid (lfV k va qa = (N : Int))) ∨ ((2 * (m : Int) < (N : Int)) ∧ Hid (lfV k va qa = (N : Int) + 1)) ∨ ((2 * (m : Int) ≤ (N : Int) ∧ (N : Int) ≤ 2 * (m : Int)) ∧ Hid (lfV k va qa = (N : Int))) ∨ ((2 * (m : Int) ≤ (N : Int) ∧ (N : Int) ≤ 2 * (m : Int)) ∧ Hid (lfV k va qa = (N : Int) + 1)) := by
        rcases hres with ⟨a1, a2⟩ | ⟨a1, a2⟩ | ⟨a1, a2 | a2⟩
        · exact .inl ⟨by omega, Lib.hid a2⟩
        · exact .inr (.inl ⟨by omega, Lib.hid a2⟩)
        · exact .inr (.inr (.inl ⟨⟨by omega, by omega⟩, Lib.hid a2⟩))
        · exact .inr (.inr (.inr ⟨⟨by omega, by omega⟩, Lib.hid a2⟩))
      clear hres
      have n1' : Hid (lbE (n : Int) u m ((N : Int) + 1) = 1) ∨ (Hid (lbE (n : Int) u m ((N : Int) + 1) = 0) ∧ Hid (inB k (lbL (n : Int) u m ((N : Int) + 1)) (lbH (n : Int) u m ((N : Int) + 1)) = false)) := n1.imp Lib.hid (fun x => ⟨Lib.hid x.1, Lib.hid x.2⟩)
      have n2' : Hid (lbE (n : Int) u m ((N : Int) - 1) = 1) ∨ (Hid (lbE (n : Int) u m ((N : Int) - 1) = 0) ∧ Hid (inB k (lbL (n : Int) u m ((N : Int) - 1)) (lbH (n : Int) u m ((N : Int) - 1)) = false)) := n2.imp Lib.hid (fun x => ⟨Lib.hid x.1, Lib.hid x.2⟩)
      clear n1 n2
      go_enter Try.func7, Try.ntmps7
      go_wp2_with (go_at_call 12; ((with_reducible refine (lfind_any (k := k) _ _ ?_).mono ?_); (iterate 1 (repeat (first | with_reducible assumption | ((with_reducible refine Kv.lit_new _ _ _ _ _ _ ?_ ?_ ?_ ?_) <;> (first | (simp; done) | rfl | decide)) | with_reducible exact Kv.none_ _ | with_reducible refine Kv.alloc ?_ _ | with_reducible refine Kv.drew ?_ | with_reducible refine Kv.drewN ?_ _ | with_reducible refine Kv.no ?_ (by assumption)))); rintro e w1 ⟨rfl, rfl⟩; rw [H1.out, Hv.out]))
      go_wp2_with (go_at_call 14; ((with_reducible refine (lbox_any _ _ _ _).mono ?_); rintro e w1 ⟨A1, n1, c1, B1, m1, d1, rfl, hl1, hh1, hf1⟩; rw [I0.out]))
      go_wp2_with (go_at_call 24; ((with_reducible refine (rin_any (k := k) (lo := lbL (n : Int) u m (N : Int)) (hi := lbH (n : Int) u m (N : Int)) ?_ ?_ ?_).mono ?_); (iterate 3 (repeat (first | with_reducible assumption | ((with_reducible refine Kv.lit_new _ _ _ _ _ _ ?_ ?_ ?_ ?_) <;> (first | (simp; done) | rfl | decide)) | with_reducible exact Kv.none_ _ | with_reducible refine Kv.alloc ?_ _ | with_reducible refine Kv.drew ?_ | with_reducible refine Kv.drewN ?_ _ | with_reducible refine Kv.no ?_ (by assumption)))); rintro e w2 ⟨rfl, hf2⟩; rw [I1.out]))
      rcases n1' with E1 | ⟨E1, I2⟩ <;> rcases n2' with E2 | ⟨E2, I3⟩ <;> rcases hres' with ⟨a1, R⟩ | ⟨a1, R⟩ | ⟨⟨a1, a2⟩, R⟩ | ⟨⟨a1, a2⟩, R⟩
      all_goals
        go_wp2_with (go_at_call 14; ((with_reducible refine (lbox_any _ _ _ _).mono ?_); rintro e w3 ⟨A3, n3, c3, B3, m3, d3, rfl, hl3, hh3, hf3⟩; rw [E1.out]))
        go_wp2_with (go_at_call 14; ((with_reducible refine (lbox_any _ _ _ _).mono ?_); rintro e w4 ⟨A4, n4, c4, B4, m4, d4, rfl, hl4, hh4, hf4⟩; rw [E2.out]; obtain ⟨yba, ybb, ybl, ybm, ybn, ybo, ybp, ybq⟩ := (show Ob w4 w3.heap.size #[.slice A3 n3 c3, .slice B3 m3 d3] 32 by (repeat (first | with_reducible assumption | with_reducible refine Ob.other ?_ (by first | (simp; done) | (simp; omega)) _ | ((with_reducible refine Ob.new_ _ _ _ _ ?_) <;> (simp; done)) | with_reducible refine Ob.alloc ?_ _ | with_reducible refine Ob.drew ?_ | with_reducible refine Ob.drewN ?_ _ | with_reducible refine Ob.no ?_ (by assumption)))).two))
        go_wp2_with (first
          | (go_at_call 24; ((with_reducible refine (rin_any (k := k) (lo := lbL (n : Int) u m ((N : Int) + 1)) (hi := lbH (n : Int) u m ((N : Int) + 1)) ?_ ?_ ?_).mono ?_); (iterate 3 (repeat (first | with_reducible assumption | ((with_reducible refine Kv.lit_new _ _ _ _ _ _ ?_ ?_ ?_ ?_) <;> (first | (simp; done) | rfl | decide)) | with_reducible exact Kv.none_ _ | with_reducible refine Kv.alloc ?_ _ | with_reducible refine Kv.drew ?_ | with_reducible refine Kv.drewN ?_ _ | with_reducible refine Kv.no ?_ (by assumption)))); rintro e w5 ⟨rfl, hf5⟩; rw [I2.out]; obtain ⟨yca, ycb, ycl, ycm, ycn, yco, ycp, ycq⟩ := (show Ob w5 w4.heap.size #[.slice A4 n4 c4, .slice B4 m4 d4] 32 by (repeat (first | with_reducible assumption | with_reducible refine Ob.other ?_ (by first | (simp; done) | (simp; omega)) _ | ((with_reducible refine Ob.new_ _ _ _ _ ?_) <;> (simp; done)) | with_reducible refine Ob.alloc ?_ _ | with_reducible refine Ob.drew ?_ | with_reducible refine Ob.drewN ?_ _ | with_reducible refine Ob.no ?_ (by assumption)))).two))
          | (go_at_call 24; ((with_reducible refine (rin_any (k := k) (lo := lbL (n : Int) u m ((N : Int) - 1)) (hi := lbH (n : Int) u m ((N : Int) - 1)) ?_ ?_ ?_).mono ?_); (iterate 3 (repeat (first | with_reducible assumption | ((with_reducible refine Kv.lit_new _ _ _ _ _ _ ?_ ?_ ?_ ?_) <;> (first | (simp; done) | rfl | decide)) | with_reducible exact Kv.none_ _ | with_reducible refine Kv.alloc ?_ _ | with_reducible refine Kv.drew ?_ | with_reducible refine Kv.drewN ?_ _ | with_reducible refine Kv.no ?_ (by assumption)))); rintro e w6 ⟨rfl, hf6⟩; rw [I3.out]))
          | (go_at_call 20; ((with_reducible refine (grow_eq Hg.out).mono ?_); rintro e w7 ⟨rfl, rfl⟩))
          | (go_at_call 12; ((with_reducible refine (lfind_any (k := k) _ _ ?_).mono ?_); (iterate 1 (repeat (first | with_reducible assumption | ((with_reducible refine Kv.lit_new _ _ _ _ _ _ ?_ ?_ ?_ ?_) <;> (first | (simp; done) | rfl | decide)) | with_reducible exact Kv.none_ _ | with_reducible refine Kv.alloc ?_ _ | with_reducible refine Kv.drew ?_ | with_reducible refine Kv.drewN ?_ _ | with_reducible refine Kv.no ?_ (by assumption)))); rintro e w8 ⟨rfl, rfl⟩; rw [F1.out, R.out]))
          | (go_at_call 9; ((with_reducible refine (live _).mono ?_); rintro e wl ⟨rfl, hfl⟩))
          | fail)
        go_ret
        exact ⟨rfl, by (repeat (first | with_reducible exact Fr.refl _ _ | with_reducible refine Fr.setCell ?_ (.inr (by first | (simp; done) | (simp; omega))) _ | with_reducible refine Fr.alloc ?_ _ | with_reducible refine Fr.drew ?_ | with_reducible refine Fr.drewN ?_ _ | with_reducible refine Fr.tr ?_ (by assumption)))⟩
end Go.Proofs.Ytplpgneckfmjpaa.Lj18
