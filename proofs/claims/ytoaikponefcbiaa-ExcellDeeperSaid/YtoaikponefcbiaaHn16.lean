/- Layer 16's laws ExcellHolds, ExcellAll, ExcellDeeper. -/
import Derived.Test.YtoaikponefcbiaaHm16
namespace Go.Proofs.Ytoaikponefcbiaa.Hn16
open Go.RowKit Go.Proofs.Ytoaikponefcbiaa.Pk08 Go.Proofs.Ytoaikponefcbiaa.Base Go.Proofs.Ytoaikponefcbiaa.App Go.Proofs.Ytoaikponefcbiaa.Ty Go.Proofs.Ytoaikponefcbiaa.Ky Go.Proofs.Ytoaikponefcbiaa.Iv Go.Proofs.Ytoaikponefcbiaa.Bx Go.Proofs.Ytoaikponefcbiaa.Kk Go.Proofs.Ytoaikponefcbiaa.Bo Go.Proofs.Ytoaikponefcbiaa.As Go.Proofs.Ytoaikponefcbiaa.Cl Go.Proofs.Ytoaikponefcbiaa.Kc08 Go.Proofs.Ytoaikponefcbiaa.Ke08 Go.Proofs.Ytoaikponefcbiaa.Kf08 Go.Proofs.Ytoaikponefcbiaa.Kh08 Go.Proofs.Ytoaikponefcbiaa.Kj08 Go.Proofs.Ytoaikponefcbiaa.Km08 Go.Proofs.Ytoaikponefcbiaa.Ky08 Go.Proofs.Ytoaikponefcbiaa.Ka08 Go.Proofs.Ytoaikponefcbiaa.Px16 Go.Proofs.Ytoaikponefcbiaa.Py16 Go.Proofs.Ytoaikponefcbiaa.Hd16 Go.Proofs.Ytoaikponefcbiaa.He16 Go.Proofs.Ytoaikponefcbiaa.Hf16 Go.Proofs.Ytoaikponefcbiaa.Hg16 Go.Proofs.Ytoaikponefcbiaa.Hh16 Go.Proofs.Ytoaikponefcbiaa.Hi16 Go.Proofs.Ytoaikponefcbiaa.Hj16 Go.Proofs.Ytoaikponefcbiaa.Hk16 Go.Proofs.Ytoaikponefcbiaa.Hl16 Go.Proofs.Ytoaikponefcbiaa.Hm16
set_option linter.unusedVariables false
set_option linter.unusedSimpArgs false
theorem fd_cases (k : List Nat) (t : Int) : (fdE k t = 1 ∧ fdOk k.length t = false) ∨ (fdE k t = 0 ∧ ∃ u : Nat, t = (u : Int) ∧ u ≤ 12 ∧ 1 ≤ k.length ∧ k.length ≤ 6 ∧ fdV k t = ((bitsK k u : Nat) : Int)) := by
  cases h : fdOk k.length t with
  | false => exact .inl ⟨by unfold fdE; rw [h]; rfl, rfl⟩
  | true =>
    obtain ⟨h1, h2, h3, h4⟩ := of_decide_eq_true h
    obtain ⟨u, rfl⟩ := Int.eq_ofNat_of_zero_le h1
    exact .inr ⟨by unfold fdE; rw [if_pos h], u, rfl, by omega, h3, h4, by unfold fdV; rw [if_pos h, Int.toNat_natCast]⟩
theorem bu_ok {u a b : Nat} (h1 : 1 ≤ b) (h2 : b ≤ u) (hu : u ≤ 12) (ha : a < 2 ^ u) : buV u a b = ((bud u a b : Nat) : Int) ∧ buE u a b = 0 := by
  have hp : ((2 ^ u : Nat) : Int) = (2 : Int) ^ u := by simp
  have h : budOk u a b = true := decide_eq_true ⟨by omega, by omega, by omega, by rw [Int.toNat_natCast]; omega, by omega, by omega⟩
  exact ⟨by unfold buV; rw [if_pos h, Int.toNat_natCast, Int.toNat_natCast, Int.toNat_natCast], by unfold buE; rw [if_pos h]⟩
set_option maxHeartbeats 3200000 in
theorem law_holds {E : TypeId} (w : World) (A : Option Addr) (n c : Nat) (x : List Int) (h : Rd (.sl E (.int .u32)) w x [.slice A n c]) (t : Int) (ht : (Lit.int .i64 t).wf = true) :
    Calls Try.prog 5 #[.slice A n c, .int .i64 t] w fun e w' => e = .returned (.bool true) ∧ Fr No w w' := by
  replace h := Kv.of_rd h
  generalize x.map Int.toNat = k at *
  clear ht x
  by_cases hn : 6 < n
  · go_enter Try.func5, Try.ntmps5
    go_wp2_with (go_at_call 9; ((with_reducible refine (live _).mono ?_); rintro e wl ⟨rfl, hfl⟩))
    go_ret
    exact ⟨rfl, by (repeat (first | with_reducible exact Fr.refl _ _ | with_reducible refine Fr.setCell ?_ (.inr (by first | (simp; done) | (simp; omega))) _ | with_reducible refine Fr.alloc ?_ _ | with_reducible refine Fr.drew ?_ | with_reducible refine Fr.drewN ?_ _ | with_reducible refine Fr.tr ?_ (by assumption)))⟩
  · have hn' : n ≤ 6 := by omega
    clear hn
    rcases fd_cases k t with ⟨h1, _⟩ | ⟨h1, u, rfl, hu, k1, k6, h2⟩
    · have H1 := Lib.hid h1
      clear h1
      go_enter Try.func5, Try.ntmps5
      go_wp2_with (first
        | (go_at_call 12; ((with_reducible refine (find_any (k := k) _ ?_).mono ?_); (iterate 1 (repeat (first | with_reducible assumption | ((with_reducible refine Kv.lit_new _ _ _ _ _ _ ?_ ?_ ?_ ?_) <;> (first | (simp; done) | rfl | decide)) | with_reducible exact Kv.none_ _ | with_reducible refine Kv.alloc ?_ _ | with_reducible refine Kv.drew ?_ | with_reducible refine Kv.drewN ?_ _ | with_reducible refine Kv.no ?_ (by assumption)))); rintro e w3 ⟨rfl, rfl⟩; rw [H1.out]))
        | (go_at_call 9; ((with_reducible refine (live _).mono ?_); rintro e wl ⟨rfl, hfl⟩))
        | fail)
      go_ret
      exact ⟨rfl, by (repeat (first | with_reducible exact Fr.refl _ _ | with_reducible refine Fr.setCell ?_ (.inr (by first | (simp; done) | (simp; omega))) _ | with_reducible refine Fr.alloc ?_ _ | with_reducible refine Fr.drew ?_ | with_reducible refine Fr.drewN ?_ _ | with_reducible refine Fr.tr ?_ (by assumption)))⟩
    · have H1 := Lib.hid h1
      have H2 := Lib.hid h2
      have ha := bitsK_lt k u
      have Ha := Lib.hid ha
      have hin := Lib.hid (fun (b : Nat) (hb : b < 2 ^ u) => in_bx k.length (by omega) k rfl h.lt u b (by omega) hb)
      have Hin := Lib.hid (show inB k (bx n u (bitsK k u)).1 (bx n u (bitsK k u)).2 = true by rw [h.len]; exact (hin.out _ ha).2 rfl)
      have Hno := Lib.hid (fun (b : Nat) (b1 : 1 ≤ b) (b2 : b ≤ u) => show inB k (bx n u (bud u (bitsK k u) b)).1 (bx n u (bud u (bitsK k u) b)).2 = false by
        cases hx : inB k (bx n u (bud u (bitsK k u) b)).1 (bx n u (bud u (bitsK k u) b)).2 with
        | false => rfl
        | true =>
          rw [h.len] at hx
          exact absurd ((hin.out _ (bud_lt u (bitsK k u) b b1 b2 ha)).1 hx).symm (bud_ne u (bitsK k u) b))
      have Hbl := Lib.hid (fun (b : Nat) (b1 : 1 ≤ b) (b2 : b ≤ u) => bud_lt u (bitsK k u) b b1 b2 ha)
      have n1 : 1 ≤ n := by have := h.len; omega
      clear h1 h2 hin ha k1 k6
      generalize bitsK k u = a at *
      go_enter Try.func5, Try.ntmps5
      go_wp2_with (go_at_call 12; ((with_reducible refine (find_any (k := k) _ ?_).mono ?_); (iterate 1 (repeat (first | with_reducible assumption | ((with_reducible refine Kv.lit_new _ _ _ _ _ _ ?_ ?_ ?_ ?_) <;> (first | (simp; done) | rfl | decide)) | with_reducible exact Kv.none_ _ | with_reducible refine Kv.alloc ?_ _ | with_reducible refine Kv.drew ?_ | with_reducible refine Kv.drewN ?_ _ | with_reducible refine Kv.no ?_ (by assumption)))); rintro e w3 ⟨rfl, rfl⟩; rw [H1.out, H2.out]))
      go_wp2_with (go_at_call 10; ((with_reducible refine (box_ok n u a n1 hn' hu Ha.out).mono ?_); rintro e w1 ⟨A1, m1, c1, B1, m2, d1, rfl, hl1, hh1, hf1⟩))
      go_wp2_with (go_at_call 20; ((with_reducible refine (rin_any (k := k) (lo := (bx n u a).1) (hi := (bx n u a).2) ?_ ?_ ?_).mono ?_); (iterate 3 (repeat (first | with_reducible assumption | ((with_reducible refine Kv.lit_new _ _ _ _ _ _ ?_ ?_ ?_ ?_) <;> (first | (simp; done) | rfl | decide)) | with_reducible exact Kv.none_ _ | with_reducible refine Kv.alloc ?_ _ | with_reducible refine Kv.drew ?_ | with_reducible refine Kv.drewN ?_ _ | with_reducible refine Kv.no ?_ (by assumption)))); rintro e w2 ⟨rfl, hf2⟩; rw [Hin.out]))
      go_loopw [9] (fun v wr => ∃ b : Nat, 1 ≤ b ∧ b ≤ u + 1 ∧ v = .int .i64 b ∧ Hid (Fr No w wr)) (fun v _ => u + 1 - (intOf v).toNat)
      case atStart => exact ⟨1, by omega, by omega, rfl, Lib.hid (by (repeat (first | with_reducible exact Fr.refl _ _ | with_reducible refine Fr.setCell ?_ (.inr (by first | (simp; done) | (simp; omega))) _ | with_reducible refine Fr.alloc ?_ _ | with_reducible refine Fr.drew ?_ | with_reducible refine Fr.drewN ?_ _ | with_reducible refine Fr.tr ?_ (by assumption))))⟩
      case round =>
        obtain ⟨b, b1, b2, rfl, Hi⟩ := hrel
        clear hl1 hh1 hf1 hf2
        have kr := h.no Hi.out
        by_cases hlt : b ≤ u
        · obtain ⟨e1, e2⟩ := bu_ok b1 hlt hu Ha.out
          have E1 := Lib.hid e1
          have E2 := Lib.hid e2
          have N1 := Lib.hid (Hno.out b b1 hlt)
          have L1 := Lib.hid (Hbl.out b b1 hlt)
          clear e1 e2
          go_wp2_with (go_at_call 14; ((with_reducible refine (buddy_any _ _ _).mono ?_); rintro e w4 ⟨rfl, rfl⟩; rw [E1.out, E2.out]))
          go_wp2_with (go_at_call 10; ((with_reducible refine (box_ok n u (bud u a b) n1 hn' hu L1.out).mono ?_); rintro e w5 ⟨A5, m5, c5, B5, m6, d5, rfl, hl5, hh5, hf5⟩))
          go_wp2_with (go_at_call 20; ((with_reducible refine (rin_any (k := k) (lo := (bx n u (bud u a b)).1) (hi := (bx n u (bud u a b)).2) ?_ ?_ ?_).mono ?_); (iterate 3 (repeat (first | with_reducible assumption | ((with_reducible refine Kv.lit_new _ _ _ _ _ _ ?_ ?_ ?_ ?_) <;> (first | (simp; done) | rfl | decide)) | with_reducible exact Kv.none_ _ | with_reducible refine Kv.alloc ?_ _ | with_reducible refine Kv.drew ?_ | with_reducible refine Kv.drewN ?_ _ | with_reducible refine Kv.no ?_ (by assumption)))); rintro e w6 ⟨rfl, hf6⟩; rw [N1.out]))
          go_roundw
          case rel => exact ⟨b + 1, by omega, by omega, by go_num, Lib.hid (by have hq := Hi.out; (repeat (first | with_reducible exact Fr.refl _ _ | with_reducible refine Fr.setCell ?_ (.inr (by first | (simp; done) | (simp; omega))) _ | with_reducible refine Fr.alloc ?_ _ | with_reducible refine Fr.drew ?_ | with_reducible refine Fr.drewN ?_ _ | with_reducible refine Fr.tr ?_ (by assumption))))⟩
          case measure => simp [intOf]; omega
        · have hgt : u < b := by omega
          clear hlt
          go_wp2_with (go_at_call 9; ((with_reducible refine (live _).mono ?_); rintro e wl ⟨rfl, hfl⟩))
          go_ret
          exact ⟨rfl, by have hq := Hi.out; (repeat (first | with_reducible exact Fr.refl _ _ | with_reducible refine Fr.setCell ?_ (.inr (by first | (simp; done) | (simp; omega))) _ | with_reducible refine Fr.alloc ?_ _ | with_reducible refine Fr.drew ?_ | with_reducible refine Fr.drewN ?_ _ | with_reducible refine Fr.tr ?_ (by assumption)))⟩
theorem iv_one (w : World) (t : TypeId) (z : Int) (hz : -9223372036854775808 ≤ z ∧ z ≤ 9223372036854775807) : Iv (w.alloc (.cells #[.int .i64 z] t)) (some ⟨w.heap.size, 0, none⟩) 1 1 [z] := by
  refine ⟨rfl, Nat.le_refl _, by decide, fun i hi => ?_, fun _ => ⟨w.heap.size, 0, rfl, fun i hi => ?_⟩⟩
  · have : i = 0 := by simpa using hi
    subst this
    exact hz
  · have : i = 0 := by simpa using hi
    subst this
    exact (Ob.new w #[.int .i64 z] t).cell 0 rfl
theorem chk_one {k : List Nat} (h1 : 1 ≤ k.length) (h6 : k.length ≤ 6) : chkB k k (k.length : Int) = 0 := Go.Proofs.Ytoaikponefcbiaa.Pl08.chkB_zero.2 ⟨by omega, by omega, rfl, Go.Proofs.Ytoaikponefcbiaa.Pl08.leL_refl k⟩
theorem chk_whole {d : Nat} (h1 : 1 ≤ d) (h6 : d ≤ 6) : chkB (List.replicate d 0) (List.replicate d 4294967295) (d : Int) = 0 := by
  have := bx_chk d h1 h6 0 0 (by omega)
  rwa [bx_zero] at this
theorem rgL_whole {d u : Nat} (h1 : 1 ≤ d) (h6 : d ≤ 6) (hu : u ≤ 12) : rgL (List.replicate d 0) (List.replicate d 4294967295) d u = ints (List.range (2 ^ u)) ∧ rgE (List.replicate d 0) (List.replicate d 4294967295) d u = 0 := by
  have ho : rgOk (List.replicate d 0) (List.replicate d 4294967295) d u = true := by
    unfold rgOk
    rw [chk_whole h1 h6]
    simp [dpB]
    omega
  refine ⟨?_, by unfold rgE; rw [if_pos ho]⟩
  unfold rgL
  rw [if_pos ho, Int.toNat_natCast, Int.toNat_natCast, rg_all d u (by omega) _ _ (by omega) (Nat.zero_le _), rg_whole d u h1 h6 (by omega)]
theorem rgL_one {k : List Nat} {u : Nat} (h1 : 1 ≤ k.length) (h6 : k.length ≤ 6) (hlt : ∀ x ∈ k, x < 4294967296) (hu : u ≤ 12) : rgL k k k.length u = [((bitsK k u : Nat) : Int)] ∧ rgE k k k.length u = 0 := by
  have ho : rgOk k k k.length u = true := by
    unfold rgOk
    rw [chk_one h1 h6]
    simp [dpB]
    omega
  refine ⟨?_, by unfold rgE; rw [if_pos ho]⟩
  unfold rgL
  rw [if_pos ho, Int.toNat_natCast, Int.toNat_natCast, rg_all k.length u (by omega) _ _ (by omega) (Nat.zero_le _), rg_one h1 h6 hlt u (by omega)]
  rfl
set_option maxHeartbeats 3200000 in
theorem law_all {E : TypeId} (w : World) (A : Option Addr) (n c : Nat) (x : List Int) (h : Rd (.sl E (.int .u32)) w x [.slice A n c]) (t : Int) (ht : (Lit.int .i64 t).wf = true) :
    Calls Try.prog 6 #[.slice A n c, .int .i64 t] w fun e w' => e = .returned (.bool true) ∧ Fr No w w' := by
  replace h := Kv.of_rd h
  generalize x.map Int.toNat = k at *
  clear ht x
  have hc : (chk n (n : Int) = 1) ∨ (chk n (n : Int) = 0 ∧ t < 0) ∨ (chk n (n : Int) = 0 ∧ 0 ≤ t ∧ 8 < t) ∨ (chk n (n : Int) = 0 ∧ 0 ≤ t ∧ t ≤ 8 ∧ 1 ≤ n ∧ n ≤ 6) := by
    by_cases h1 : 1 ≤ n ∧ n ≤ 6
    · have e : chk n (n : Int) = 0 := by unfold chk; rw [if_pos ⟨by omega, by omega, rfl⟩]
      by_cases h2 : t < 0
      · exact .inr (.inl ⟨e, h2⟩)
      · by_cases h3 : 8 < t
        · exact .inr (.inr (.inl ⟨e, by omega, h3⟩))
        · exact .inr (.inr (.inr ⟨e, by omega, by omega, h1.1, h1.2⟩))
    · exact .inl (by unfold chk; rw [if_neg (fun x => h1 ⟨by omega, by omega⟩)])
  rcases hc with h1 | ⟨h1, h2⟩ | ⟨h1, h2, h3⟩ | ⟨h1, h2, h3, h4, h5⟩
  · have H1 := Lib.hid h1
    clear h1
    go_enter Try.func6, Try.ntmps6
    go_wp2_with (first
      | (go_at_call 21; ((with_reducible refine (rcheck_any _ _ _ _ _).mono ?_); rintro e w1 ⟨rfl, rfl⟩; rw [H1.out]))
      | (go_at_call 9; ((with_reducible refine (live _).mono ?_); rintro e wl ⟨rfl, hfl⟩))
      | fail)
    go_ret
    exact ⟨rfl, by (repeat (first | with_reducible exact Fr.refl _ _ | with_reducible refine Fr.setCell ?_ (.inr (by first | (simp; done) | (simp; omega))) _ | with_reducible refine Fr.alloc ?_ _ | with_reducible refine Fr.drew ?_ | with_reducible refine Fr.drewN ?_ _ | with_reducible refine Fr.tr ?_ (by assumption)))⟩
  · have H1 := Lib.hid h1
    clear h1
    go_enter Try.func6, Try.ntmps6
    go_wp2_with (first
      | (go_at_call 21; ((with_reducible refine (rcheck_any _ _ _ _ _).mono ?_); rintro e w1 ⟨rfl, rfl⟩; rw [H1.out]))
      | (go_at_call 9; ((with_reducible refine (live _).mono ?_); rintro e wl ⟨rfl, hfl⟩))
      | fail)
    go_ret
    exact ⟨rfl, by (repeat (first | with_reducible exact Fr.refl _ _ | with_reducible refine Fr.setCell ?_ (.inr (by first | (simp; done) | (simp; omega))) _ | with_reducible refine Fr.alloc ?_ _ | with_reducible refine Fr.drew ?_ | with_reducible refine Fr.drewN ?_ _ | with_reducible refine Fr.tr ?_ (by assumption)))⟩
  · have H1 := Lib.hid h1
    clear h1
    go_enter Try.func6, Try.ntmps6
    go_wp2_with (first
      | (go_at_call 21; ((with_reducible refine (rcheck_any _ _ _ _ _).mono ?_); rintro e w1 ⟨rfl, rfl⟩; rw [H1.out]))
      | (go_at_call 9; ((with_reducible refine (live _).mono ?_); rintro e wl ⟨rfl, hfl⟩))
      | fail)
    go_ret
    exact ⟨rfl, by (repeat (first | with_reducible exact Fr.refl _ _ | with_reducible refine Fr.setCell ?_ (.inr (by first | (simp; done) | (simp; omega))) _ | with_reducible refine Fr.alloc ?_ _ | with_reducible refine Fr.drew ?_ | with_reducible refine Fr.drewN ?_ _ | with_reducible refine Fr.tr ?_ (by assumption)))⟩
  · obtain ⟨u, rfl⟩ := Int.eq_ofNat_of_zero_le h2
    have hu : u ≤ 8 := by omega
    have H1 := Lib.hid h1
    have hl := h.len
    obtain ⟨e1, e2⟩ := rgL_whole (d := n) (u := u) h4 h5 (by omega)
    obtain ⟨e3, e4⟩ := rgL_one (k := k) (u := u) (by omega) (by omega) h.lt (by omega)
    rw [← hl] at e3 e4
    have hfo : fdOk k.length (u : Int) = true := decide_eq_true ⟨by omega, by omega, by omega, by omega⟩
    have E1 := Lib.hid e1
    have E2 := Lib.hid e2
    have E3 := Lib.hid e3
    have E4 := Lib.hid e4
    have E5 := Lib.hid (show fdV k (u : Int) = ((bitsK k u : Nat) : Int) by unfold fdV; rw [if_pos hfo, Int.toNat_natCast])
    have E6 := Lib.hid (show fdE k (u : Int) = 0 by unfold fdE; rw [if_pos hfo])
    have W1 := Lib.hid (show wLo (n : Int) = List.replicate n 0 by rw [wLo_in ⟨by omega, by omega⟩, Int.toNat_natCast])
    have W2 := Lib.hid (show wHi (n : Int) = List.replicate n 4294967295 by rw [wHi_in ⟨by omega, by omega⟩, Int.toNat_natCast])
    obtain ⟨p1, p2⟩ := two_le u (by omega)
    have hw : wrap64 ((2 : Int) ^ u) = 2 ^ u := IntWalk.wrap64_in _ (by omega)
    have Hp := Lib.hid (show ((2 ^ u : Nat) : Int) = (2 : Int) ^ u by simp)
    have hne : (((2 ^ u : Nat) : Int) != (2 : Int) ^ u) = false := by rw [Hp.out]; simp
    have Ha := Lib.hid (bitsK_lt k u)
    have Hl := Lib.hid hl
    clear h1 h2 h3 e1 e2 e3 e4 hfo hl
    go_enter Try.func6, Try.ntmps6
    go_wp2_with (go_at_call 21; ((with_reducible refine (rcheck_any _ _ _ _ _).mono ?_); rintro e w1 ⟨rfl, rfl⟩; rw [H1.out]))
    go_wp2_with (go_at_call 22; ((with_reducible refine (rwhole_any _ _).mono ?_); rintro e w2 ⟨A0, n0, c0, B0, m0, d0, rfl, hl0, hh0, hf0⟩; rw [W1.out] at hl0; rw [W2.out] at hh0; obtain rfl : n = n0 := (by have := hl0.len; simp at this; omega); obtain rfl : n = m0 := (by have := hh0.len; simp at this; omega)))
    go_wp2_with (go_at_call 17; ((with_reducible refine (range_any (lo := List.replicate n 0) (hi := List.replicate n 4294967295) _ _ ?_ ?_).mono ?_); (iterate 2 (repeat (first | with_reducible assumption | ((with_reducible refine Kv.lit_new _ _ _ _ _ _ ?_ ?_ ?_ ?_) <;> (first | (simp; done) | rfl | decide)) | with_reducible exact Kv.none_ _ | with_reducible refine Kv.alloc ?_ _ | with_reducible refine Kv.drew ?_ | with_reducible refine Kv.drewN ?_ _ | with_reducible refine Kv.no ?_ (by assumption)))); rintro e w3 ⟨A3, n3, c3, rfl, hv3, hf3⟩; rw [E1.out] at hv3; rw [E2.out]; obtain rfl : 2 ^ u = n3 := (by have := hv3.len; simp [ints] at this; omega)))
    go_wp2_with (go_at_call 17; ((with_reducible refine (range_any (lo := k) (hi := k) _ _ ?_ ?_).mono ?_); (iterate 2 (repeat (first | with_reducible assumption | ((with_reducible refine Kv.lit_new _ _ _ _ _ _ ?_ ?_ ?_ ?_) <;> (first | (simp; done) | rfl | decide)) | with_reducible exact Kv.none_ _ | with_reducible refine Kv.alloc ?_ _ | with_reducible refine Kv.drew ?_ | with_reducible refine Kv.drewN ?_ _ | with_reducible refine Kv.no ?_ (by assumption)))); rintro e w4 ⟨A4, n4, c4, rfl, hv4, hf4⟩; rw [E3.out] at hv4; rw [E4.out]))
    go_wp2_with (go_at_call 12; ((with_reducible refine (find_any (k := k) _ ?_).mono ?_); (iterate 1 (repeat (first | with_reducible assumption | ((with_reducible refine Kv.lit_new _ _ _ _ _ _ ?_ ?_ ?_ ?_) <;> (first | (simp; done) | rfl | decide)) | with_reducible exact Kv.none_ _ | with_reducible refine Kv.alloc ?_ _ | with_reducible refine Kv.drew ?_ | with_reducible refine Kv.drewN ?_ _ | with_reducible refine Kv.no ?_ (by assumption)))); rintro e w5 ⟨rfl, rfl⟩; rw [E5.out, E6.out]))
    go_loopw [12] (fun v wr => ∃ i : Nat, i ≤ 2 ^ u ∧ v = .int .i64 i ∧ Hid (Fr No w4 wr)) (fun v _ => 2 ^ u - (intOf v).toNat)
    case atStart => exact ⟨0, Nat.zero_le _, rfl, Lib.hid (Fr.refl _ _)⟩
    case round =>
      obtain ⟨i, hi, rfl, Hi⟩ := hrel
      have hv := (hv3.no hf4).no Hi.out
      by_cases hlt : i < 2 ^ u
      · obtain ⟨g, o, rfl, ca⟩ := hv.get i (by simp [ints]; exact hlt)
        rw [ints_get] at ca
        have eg : (List.range (2 ^ u)).getD i 0 = i := by simp [List.getD_eq_getElem?_getD, hlt]
        rw [eg] at ca
        have q1 := hv.cap
        have q2 := hv.most
        have hmx : maxLen ≤ 9223372036854775807 := by decide
        clear hv eg
        go_wp2
        go_roundw
        case rel => exact ⟨i + 1, by omega, by go_num, Hi⟩
        case measure => simp [intOf]; omega
      · obtain rfl : i = 2 ^ u := by omega
        have hv5 := hv4.no Hi.out
        have hb := Lib.hid (show -9223372036854775808 ≤ ((bitsK k u : Nat) : Int) ∧ ((bitsK k u : Nat) : Int) ≤ 9223372036854775807 by
          have h1 := Ha.out
          have h2 := Nat.pow_le_pow_right (show 0 < 2 by decide) hu
          have h3 : (2 : Nat) ^ 8 = 256 := rfl
          omega)
        clear hv hv3 hv4 hlt
        generalize bitsK k u = a at *
        go_wp2_with (go_at_call 19; ((with_reducible refine (ints_any (xs := [(a : Int)]) (ys := [(a : Int)]) ?_ ?_).mono ?_); (focus ((repeat (first | with_reducible assumption | ((with_reducible refine Iv.lit_new _ _ _ _ _ _ ?_ ?_ ?_ ?_) <;> (first | (simp; done) | rfl | decide)) | with_reducible exact Iv.none_ _ | with_reducible refine Iv.alloc ?_ _ | with_reducible refine Iv.drew ?_ | with_reducible refine Iv.drewN ?_ _ | with_reducible refine Iv.no ?_ (by assumption))); done)); (focus (exact iv_one _ _ _ hb.out)); rintro e w7 ⟨rfl, hf7⟩; rw [ints_self]))
        go_wp2_with (go_at_call 9; ((with_reducible refine (live _).mono ?_); rintro e wl ⟨rfl, hfl⟩))
        go_ret
        exact ⟨rfl, by have hq := Hi.out; (repeat (first | with_reducible exact Fr.refl _ _ | with_reducible refine Fr.setCell ?_ (.inr (by first | (simp; done) | (simp; omega))) _ | with_reducible refine Fr.alloc ?_ _ | with_reducible refine Fr.drew ?_ | with_reducible refine Fr.drewN ?_ _ | with_reducible refine Fr.tr ?_ (by assumption)))⟩
theorem box_at {w : World} {d m a : Nat} {zd zm za : Int} (e1 : zd = (d : Int)) (e2 : zm = (m : Int)) (e3 : za = (a : Int)) (h1 : 1 ≤ d) (h6 : d ≤ 6) (hm : m ≤ 12) (ha : a < 2 ^ m) :
    Calls Try.prog 10 #[.int .i64 zd, .int .i64 zm, .int .i64 za] w (BoxRet w (bx d m a).1 (bx d m a).2 (.int .i64 0)) := by
  subst e1; subst e2; subst e3
  exact box_ok d m a h1 h6 hm ha
theorem bits_half (k : List Nat) (u : Nat) : bitsK k (u + 1) / 2 = bitsK k u := by
  rw [bitsK_succ]
  have := bitk_lt k u
  omega
set_option maxHeartbeats 3200000 in
theorem law_deeper {E : TypeId} (w : World) (A : Option Addr) (n c : Nat) (x : List Int) (h : Rd (.sl E (.int .u32)) w x [.slice A n c]) (t : Int) (ht : (Lit.int .i64 t).wf = true) :
    Calls Try.prog 8 #[.slice A n c, .int .i64 t] w fun e w' => e = .returned (.bool true) ∧ Fr No w w' := by
  replace h := Kv.of_rd h
  generalize x.map Int.toNat = k at *
  clear ht x
  have hl := h.len
  have hc : 6 < n ∨ (n ≤ 6 ∧ t < 0) ∨ (n ≤ 6 ∧ 0 ≤ t ∧ 11 < t) ∨ (n ≤ 6 ∧ 0 ≤ t ∧ t ≤ 11) := by omega
  rcases hc with h1 | ⟨h1, h2⟩ | ⟨h1, h2, h3⟩ | ⟨h1, h2, h3⟩
  · go_enter Try.func8, Try.ntmps8
    go_wp2_with (go_at_call 9; ((with_reducible refine (live _).mono ?_); rintro e wl ⟨rfl, hfl⟩))
    go_ret
    exact ⟨rfl, by (repeat (first | with_reducible exact Fr.refl _ _ | with_reducible refine Fr.setCell ?_ (.inr (by first | (simp; done) | (simp; omega))) _ | with_reducible refine Fr.alloc ?_ _ | with_reducible refine Fr.drew ?_ | with_reducible refine Fr.drewN ?_ _ | with_reducible refine Fr.tr ?_ (by assumption)))⟩
  · go_enter Try.func8, Try.ntmps8
    go_wp2_with (go_at_call 9; ((with_reducible refine (live _).mono ?_); rintro e wl ⟨rfl, hfl⟩))
    go_ret
    exact ⟨rfl, by (repeat (first | with_reducible exact Fr.refl _ _ | with_reducible refine Fr.setCell ?_ (.inr (by first | (simp; done) | (simp; omega))) _ | with_reducible refine Fr.alloc ?_ _ | with_reducible refine Fr.drew ?_ | with_reducible refine Fr.drewN ?_ _ | with_reducible refine Fr.tr ?_ (by assumption)))⟩
  · go_enter Try.func8, Try.ntmps8
    go_wp2_with (go_at_call 9; ((with_reducible refine (live _).mono ?_); rintro e wl ⟨rfl, hfl⟩))
    go_ret
    exact ⟨rfl, by (repeat (first | with_reducible exact Fr.refl _ _ | with_reducible refine Fr.setCell ?_ (.inr (by first | (simp; done) | (simp; omega))) _ | with_reducible refine Fr.alloc ?_ _ | with_reducible refine Fr.drew ?_ | with_reducible refine Fr.drewN ?_ _ | with_reducible refine Fr.tr ?_ (by assumption)))⟩
  · obtain ⟨u, rfl⟩ := Int.eq_ofNat_of_zero_le h2
    by_cases hn0 : n = 0
    · have f1 : fdOk k.length (u : Int) = false := decide_eq_false (fun x => by omega)
      have E1 := Lib.hid (show fdE k (u : Int) = 1 by unfold fdE; rw [f1]; rfl)
      subst hn0
      clear f1 hl
      go_enter Try.func8, Try.ntmps8
      go_wp2_with (go_at_call 12; ((with_reducible refine (find_any (k := k) _ ?_).mono ?_); (iterate 1 (repeat (first | with_reducible assumption | ((with_reducible refine Kv.lit_new _ _ _ _ _ _ ?_ ?_ ?_ ?_) <;> (first | (simp; done) | rfl | decide)) | with_reducible exact Kv.none_ _ | with_reducible refine Kv.alloc ?_ _ | with_reducible refine Kv.drew ?_ | with_reducible refine Kv.drewN ?_ _ | with_reducible refine Kv.no ?_ (by assumption)))); rintro e w1 ⟨rfl, rfl⟩; rw [E1.out]))
      go_wp2_with (first
        | (go_at_call 12; ((with_reducible refine (find_any (k := k) _ ?_).mono ?_); (iterate 1 (repeat (first | with_reducible assumption | ((with_reducible refine Kv.lit_new _ _ _ _ _ _ ?_ ?_ ?_ ?_) <;> (first | (simp; done) | rfl | decide)) | with_reducible exact Kv.none_ _ | with_reducible refine Kv.alloc ?_ _ | with_reducible refine Kv.drew ?_ | with_reducible refine Kv.drewN ?_ _ | with_reducible refine Kv.no ?_ (by assumption)))); rintro e w1 ⟨rfl, rfl⟩))
        | (go_at_call 9; ((with_reducible refine (live _).mono ?_); rintro e wl ⟨rfl, hfl⟩))
        | fail)
      go_ret
      exact ⟨rfl, by (repeat (first | with_reducible exact Fr.refl _ _ | with_reducible refine Fr.setCell ?_ (.inr (by first | (simp; done) | (simp; omega))) _ | with_reducible refine Fr.alloc ?_ _ | with_reducible refine Fr.drew ?_ | with_reducible refine Fr.drewN ?_ _ | with_reducible refine Fr.tr ?_ (by assumption)))⟩
    · have f1 : fdOk k.length (u : Int) = true := decide_eq_true ⟨by omega, by omega, by omega, by omega⟩
      have f2 : fdOk k.length ((u : Int) + 1) = true := decide_eq_true ⟨by omega, by omega, by omega, by omega⟩
      have E1 := Lib.hid (show fdE k (u : Int) = 0 by unfold fdE; rw [if_pos f1])
      have E2 := Lib.hid (show fdE k ((u : Int) + 1) = 0 by unfold fdE; rw [if_pos f2])
      have E3 := Lib.hid (show fdV k (u : Int) = ((bitsK k (u + 1) / 2 : Nat) : Int) by unfold fdV; rw [if_pos f1, Int.toNat_natCast, bits_half])
      have E4 := Lib.hid (show fdV k ((u : Int) + 1) = ((bitsK k (u + 1) : Nat) : Int) by unfold fdV; rw [if_pos f2]; rfl)
      have hb := bitsK_lt k (u + 1)
      have hb2 : bitsK k (u + 1) / 2 < 2 ^ u := by rw [bits_half]; exact bitsK_lt k u
      obtain ⟨m1, m2, m3⟩ := meet_deeper n (by omega) (by omega) u (bitsK k (u + 1)) (by omega)
      have M1 := Lib.hid m1
      have M2 := Lib.hid m2
      have M3 := Lib.hid m3
      have Hb1 := Lib.hid hb
      have Hb2 := Lib.hid hb2
      have L1 := Lib.hid (bx_len n u (bitsK k (u + 1) / 2)).1
      have hbig : bitsK k (u + 1) < 4096 := Nat.lt_of_lt_of_le hb (Nat.pow_le_pow_right (show 0 < 2 by decide) (show u + 1 ≤ 12 by omega))
      have n1 : 1 ≤ n := by omega
      have hu : u + 1 ≤ 12 := by omega
      have hn0' : (n == 0) = false := beq_eq_false_iff_ne.2 hn0
      clear f1 f2 hb hb2 m1 m2 m3 hl
      generalize bitsK k (u + 1) = b at *
      have Ht := Lib.hid (show ((b : Int)).tdiv 2 = ((b / 2 : Nat) : Int) by rw [Int.tdiv_eq_ediv_of_nonneg (Int.natCast_nonneg _)]; simp)
      have hcast : ((b / 2 : Nat) : Int) = (b : Int) / 2 := by simp
      have Hc := Lib.hid hcast
      clear hcast
      go_enter Try.func8, Try.ntmps8
      go_wp2_with (go_at_call 12; ((with_reducible refine (find_any (k := k) _ ?_).mono ?_); (iterate 1 (repeat (first | with_reducible assumption | ((with_reducible refine Kv.lit_new _ _ _ _ _ _ ?_ ?_ ?_ ?_) <;> (first | (simp; done) | rfl | decide)) | with_reducible exact Kv.none_ _ | with_reducible refine Kv.alloc ?_ _ | with_reducible refine Kv.drew ?_ | with_reducible refine Kv.drewN ?_ _ | with_reducible refine Kv.no ?_ (by assumption)))); rintro e w1 ⟨rfl, rfl⟩; rw [E1.out, E3.out]))
      go_wp2_with (go_at_call 12; ((with_reducible refine (find_any (k := k) _ ?_).mono ?_); (iterate 1 (repeat (first | with_reducible assumption | ((with_reducible refine Kv.lit_new _ _ _ _ _ _ ?_ ?_ ?_ ?_) <;> (first | (simp; done) | rfl | decide)) | with_reducible exact Kv.none_ _ | with_reducible refine Kv.alloc ?_ _ | with_reducible refine Kv.drew ?_ | with_reducible refine Kv.drewN ?_ _ | with_reducible refine Kv.no ?_ (by assumption)))); rintro e w1 ⟨rfl, rfl⟩; rw [E2.out, E4.out]))
      go_wp2_with (go_at_call 10; ((with_reducible refine (box_at (d := n) (m := u) (a := b / 2) ?_ ?_ ?_ n1 h1 (by omega) Hb2.out).mono ?_); (iterate 3 omega); rintro e w1 ⟨A1, n2, c1, B1, m2, d1, rfl, hl1, hh1, hf1⟩))
      go_wp2_with (go_at_call 10; ((with_reducible refine (box_at (d := n) (m := u + 1) (a := b) ?_ ?_ ?_ n1 h1 hu Hb1.out).mono ?_); (iterate 3 omega); rintro e w2 ⟨A2, n3, c2, B2', m3, d2, rfl, hl2, hh2, hf2⟩; obtain ⟨yba, ybb, ybl, ybm, ybn, ybo, ybp, ybq⟩ := (show Ob w2 w1.heap.size #[.slice A1 n2 c1, .slice B1 m2 d1] 28 by (repeat (first | with_reducible assumption | with_reducible refine Ob.other ?_ (by first | (simp; done) | (simp; omega)) _ | ((with_reducible refine Ob.new_ _ _ _ _ ?_) <;> (simp; done)) | with_reducible refine Ob.alloc ?_ _ | with_reducible refine Ob.drew ?_ | with_reducible refine Ob.drewN ?_ _ | with_reducible refine Ob.no ?_ (by assumption)))).two))
      have gn2 : n2 ≤ 1000000 := by have := hl1.len; have := L1.out; omega
      go_wp2_with (go_at_call 23; ((with_reducible refine (rmeet_any (al := (bx n u (b / 2)).1) (ah := (bx n u (b / 2)).2) (bl := (bx n (u + 1) b).1) (bh := (bx n (u + 1) b).2) ?_ ?_ ?_ ?_ gn2).mono ?_); (iterate 4 (repeat (first | with_reducible assumption | ((with_reducible refine Kv.lit_new _ _ _ _ _ _ ?_ ?_ ?_ ?_) <;> (first | (simp; done) | rfl | decide)) | with_reducible exact Kv.none_ _ | with_reducible refine Kv.alloc ?_ _ | with_reducible refine Kv.drew ?_ | with_reducible refine Kv.drewN ?_ _ | with_reducible refine Kv.no ?_ (by assumption)))); rintro e w4 ⟨A4, n4, c4, B4, m4, d4, rfl, hl4, hh4, hf4⟩; rw [M1.out]; rw [M2.out] at hl4; rw [M3.out] at hh4; obtain ⟨yca, ycb, ycl, ycm, ycn, yco, ycp, ycq⟩ := (show Ob w4 w2.heap.size #[.slice A2 n3 c2, .slice B2' m3 d2] 28 by (repeat (first | with_reducible assumption | with_reducible refine Ob.other ?_ (by first | (simp; done) | (simp; omega)) _ | ((with_reducible refine Ob.new_ _ _ _ _ ?_) <;> (simp; done)) | with_reducible refine Ob.alloc ?_ _ | with_reducible refine Ob.drew ?_ | with_reducible refine Ob.drewN ?_ _ | with_reducible refine Ob.no ?_ (by assumption)))).two))
      go_wp2_with (go_at_call 16; ((with_reducible refine (sameBox_any (lo := (bx n (u + 1) b).1) (hi := (bx n (u + 1) b).2) (a := (bx n (u + 1) b).1) (b := (bx n (u + 1) b).2) ?_ ?_ ?_ ?_).mono ?_); (iterate 4 (repeat (first | with_reducible assumption | ((with_reducible refine Kv.lit_new _ _ _ _ _ _ ?_ ?_ ?_ ?_) <;> (first | (simp; done) | rfl | decide)) | with_reducible exact Kv.none_ _ | with_reducible refine Kv.alloc ?_ _ | with_reducible refine Kv.drew ?_ | with_reducible refine Kv.drewN ?_ _ | with_reducible refine Kv.no ?_ (by assumption)))); rintro e w5 ⟨rfl, hf5⟩; rw [pair_self]))
      go_wp2_with (go_at_call 9; ((with_reducible refine (live _).mono ?_); rintro e wl ⟨rfl, hfl⟩))
      go_ret
      exact ⟨rfl, by (repeat (first | with_reducible exact Fr.refl _ _ | with_reducible refine Fr.setCell ?_ (.inr (by first | (simp; done) | (simp; omega))) _ | with_reducible refine Fr.alloc ?_ _ | with_reducible refine Fr.drew ?_ | with_reducible refine Fr.drewN ?_ _ | with_reducible refine Fr.tr ?_ (by assumption)))⟩
end Go.Proofs.Ytoaikponefcbiaa.Hn16
