/- Layer 18's laws LinearBack, LinearOrder, LinearHolds. -/
import Derived.Test.YtplpgneckfmjpaaLh18
namespace Go.Proofs.Ytplpgneckfmjpaa.Li18
open Go.RowKit Go.Proofs.Ytplpgneckfmjpaa.Pk08 Go.Proofs.Ytplpgneckfmjpaa.Base Go.Proofs.Ytplpgneckfmjpaa.App Go.Proofs.Ytplpgneckfmjpaa.Ty Go.Proofs.Ytplpgneckfmjpaa.Ky Go.Proofs.Ytplpgneckfmjpaa.Iv Go.Proofs.Ytplpgneckfmjpaa.Bx Go.Proofs.Ytplpgneckfmjpaa.Kk Go.Proofs.Ytplpgneckfmjpaa.Bo Go.Proofs.Ytplpgneckfmjpaa.As Go.Proofs.Ytplpgneckfmjpaa.Kc08 Go.Proofs.Ytplpgneckfmjpaa.Ke08 Go.Proofs.Ytplpgneckfmjpaa.Kh08 Go.Proofs.Ytplpgneckfmjpaa.Kj08 Go.Proofs.Ytplpgneckfmjpaa.Km08 Go.Proofs.Ytplpgneckfmjpaa.Px16 Go.Proofs.Ytplpgneckfmjpaa.Py16 Go.Proofs.Ytplpgneckfmjpaa.Pz18 Go.Proofs.Ytplpgneckfmjpaa.Hd16 Go.Proofs.Ytplpgneckfmjpaa.He16 Go.Proofs.Ytplpgneckfmjpaa.Hg16 Go.Proofs.Ytplpgneckfmjpaa.Hi16 Go.Proofs.Ytplpgneckfmjpaa.Hj16 Go.Proofs.Ytplpgneckfmjpaa.Hk16 Go.Proofs.Ytplpgneckfmjpaa.Lz18 Go.Proofs.Ytplpgneckfmjpaa.La18 Go.Proofs.Ytplpgneckfmjpaa.Lb18 Go.Proofs.Ytplpgneckfmjpaa.Lc18 Go.Proofs.Ytplpgneckfmjpaa.Ld18 Go.Proofs.Ytplpgneckfmjpaa.Le18 Go.Proofs.Ytplpgneckfmjpaa.Lf18 Go.Proofs.Ytplpgneckfmjpaa.Lg18 Go.Proofs.Ytplpgneckfmjpaa.Lh18
set_option linter.unusedVariables false
set_option linter.unusedSimpArgs false
theorem lv_mk {u m : Nat} (hu : u ≤ 10) (hm : m < 2 ^ u) : lvOk (u : Int) (m : Int) = true := by
  have hp : ((2 ^ u : Nat) : Int) = (2 : Int) ^ u := by simp
  exact lvOk_iff.2 ⟨by omega, by omega, by omega, by rw [Int.toNat_natCast]; omega⟩
theorem cn_of {u m : Nat} (hu : u ≤ 10) (hm : m < 2 ^ u) : cnE (u : Int) (m : Int) = 0 ∧ cnV (u : Int) (m : Int) = ((2 ^ u + m : Nat) : Int) := by
  have h := lv_mk hu hm
  exact ⟨by unfold cnE; rw [if_pos h], by unfold cnV; rw [if_pos h, Int.toNat_natCast]; simp⟩
/-- What comes behind what is grown. -/
theorem grow_in {l n : Int} (h : (grow l n).2.2.2 = 0) : ∃ u m v q : Nat, l = (u : Int) ∧ n = (m : Int) ∧ u ≤ 10 ∧ m < 2 ^ u ∧ v ≤ 10 ∧ q < 2 ^ v ∧ grow l n = ((v : Int), (q : Int), 2 * (m : Int), 0) ∧ shrink (v : Int) (q : Int) = ((u : Int), (m : Int), 2 * (m : Int), 0) ∧ 2 ^ v + q = 2 ^ u + m + 1 ∧ ((m + 1 = 2 ^ u ∧ v = u + 1 ∧ q = 0) ∨ (m + 1 < 2 ^ u ∧ v = u ∧ q = m + 1)) := by
  rcases grow_cases l n with ⟨h1, hg⟩ | ⟨h1, h2, hg⟩ | ⟨h1, h2, h3, hg⟩ | ⟨h1, h2, h3, hg⟩
  · rw [hg] at h; cases h
  · rw [hg] at h; cases h
  · obtain ⟨u, m, rfl, rfl, g1, g2, g3, g4, g5, g6⟩ := lv_in h1
    rw [Int.toNat_natCast] at h3
    have hp : ((2 ^ u : Nat) : Int) = (2 : Int) ^ u := by simp
    have e : m + 1 = 2 ^ u := by omega
    refine ⟨u, m, u + 1, 0, rfl, rfl, g1, g2, by omega, Nat.pow_pos (by decide), ?_, ?_, by rw [Nat.pow_succ]; omega, .inl ⟨e, rfl, rfl⟩⟩
    · rw [hg]; rfl
    · have hl := lv_mk (u := u + 1) (m := 0) (by omega) (Nat.pow_pos (by decide))
      rcases shrink_cases ((u + 1 : Nat) : Int) ((0 : Nat) : Int) with ⟨k1, _⟩ | ⟨_, k2, _⟩ | ⟨_, _, _, k4⟩ | ⟨_, _, k3, _⟩
      · rw [hl] at k1; cases k1
      · omega
      · have e0 : (((u + 1 : Nat) : Int) - 1).toNat = u := by omega
        have e1 : (((u + 1 : Nat) : Int) - 1) = u := by omega
        have e2 : (2 : Int) ^ u - 1 = (m : Int) := by omega
        rw [k4, e0, e1, e2]
      · exact absurd rfl k3
  · obtain ⟨u, m, rfl, rfl, g1, g2, g3, g4, g5, g6⟩ := lv_in h1
    rw [Int.toNat_natCast] at h3
    have hp : ((2 ^ u : Nat) : Int) = (2 : Int) ^ u := by simp
    have e : m + 1 < 2 ^ u := by omega
    refine ⟨u, m, u, m + 1, rfl, rfl, g1, g2, g1, e, ?_, ?_, by omega, .inr ⟨e, rfl, rfl⟩⟩
    · rw [hg]; rfl
    · have hl := lv_mk (u := u) (m := m + 1) g1 e
      have hu0 : u ≠ 0 := by
        rintro rfl
        simp at e
      rcases shrink_cases (u : Int) ((m + 1 : Nat) : Int) with ⟨k1, _⟩ | ⟨_, k2, _⟩ | ⟨_, _, k3, _⟩ | ⟨_, _, _, k4⟩
      · rw [hl] at k1; cases k1
      · omega
      · omega
      · have e1 : (((m + 1 : Nat) : Int) - 1) = (m : Int) := by omega
        rw [k4, e1]
theorem grow_no {l n : Int} (h : (grow l n).2.2.2 ≠ 0) : grow l n = (0, 0, 0, (grow l n).2.2.2) := by
  rcases grow_cases l n with ⟨h1, hg⟩ | ⟨h1, h2, hg⟩ | ⟨h1, h2, h3, hg⟩ | ⟨h1, h2, h3, hg⟩
  · rw [hg]
  · rw [hg]
  · rw [hg] at h; exact absurd rfl h
  · rw [hg] at h; exact absurd rfl h
section
variable {w : World}
theorem grow_eq {l n a b c d : Int} (h : grow l n = (a, b, c, d)) : Calls Try.prog 20 #[.int .i64 l, .int .i64 n] w fun e w' => e = .returned (.tuple #[.int .i64 a, .int .i64 b, .int .i64 c, .int .i64 d]) ∧ w = w' := by
  have := grow_any (w := w) l n
  rw [h] at this
  exact this
theorem shrink_eq {l n a b c d : Int} (h : shrink l n = (a, b, c, d)) : Calls Try.prog 22 #[.int .i64 l, .int .i64 n] w fun e w' => e = .returned (.tuple #[.int .i64 a, .int .i64 b, .int .i64 c, .int .i64 d]) ∧ w = w' := by
  have := shrink_any (w := w) l n
  rw [h] at this
  exact this
theorem count_eq {l n a b : Int} (h1 : cnV l n = a) (h2 : cnE l n = b) : Calls Try.prog 10 #[.int .i64 l, .int .i64 n] w fun e w' => e = .returned (.tuple #[.int .i64 a, .int .i64 b]) ∧ w = w' := by
  have := count_any (w := w) l n
  rw [h1, h2] at this
  exact this
end
set_option maxRecDepth 100000 in
set_option maxHeartbeats 3200000 in
theorem law_back (w : World) (l : Int) (hl : (Lit.int .i64 l).wf = true) (n : Int) (hn : (Lit.int .i64 n).wf = true) :
    Calls Try.prog 6 #[.int .i64 l, .int .i64 n] w fun e w' => e = .returned (.bool true) ∧ Fr No w w' := by
  clear hl hn
  by_cases h : (grow l n).2.2.2 = 0
  · obtain ⟨u, m, v, q, rfl, rfl, g1, g2, g3, g4, hg, hs, hc, _⟩ := grow_in h
    obtain ⟨c1, c2⟩ := cn_of g1 g2
    obtain ⟨c3, c4⟩ := cn_of g3 g4
    have hu2 := Nat.pow_le_pow_right (show 0 < 2 by decide) g1
    have hu3 : (2 : Nat) ^ 10 = 1024 := rfl
    have Hg := Lib.hid hg
    have Hs := Lib.hid hs
    have C1 := Lib.hid c1
    have C3 := Lib.hid c3
    obtain ⟨z, hz⟩ : ∃ z : Nat, z = 2 ^ u + m := ⟨_, rfl⟩
    have C2 := Lib.hid (show cnV (u : Int) (m : Int) = (z : Int) by rw [c2, hz])
    have C4 := Lib.hid (show cnV (v : Int) (q : Int) = (z : Int) + 1 by rw [c4, hc, hz]; omega)
    have hz2 : z ≤ 2048 := by omega
    have hmz : 2 * m < z := by omega
    have hmz2 : 2 * (m : Int) < (z : Int) := by omega
    have hm0 : (0 : Int) ≤ 2 * (m : Int) := by omega
    clear h g1 g2 g3 g4 hg hs hc c1 c2 c3 c4 hu2 hu3 hz
    generalize (v : Int) = a at *
    generalize (q : Int) = b at *
    go_enter Try.func6, Try.ntmps6
    go_wp2_with (go_at_call 20; ((with_reducible refine (grow_eq Hg.out).mono ?_); rintro e w1 ⟨rfl, rfl⟩))
    go_wp2_with (go_at_call 22; ((with_reducible refine (shrink_eq Hs.out).mono ?_); rintro e w1 ⟨rfl, rfl⟩))
    go_wp2_with (go_at_call 10; ((with_reducible refine (count_eq C2.out C1.out).mono ?_); rintro e w1 ⟨rfl, rfl⟩))
    go_wp2_with (go_at_call 10; ((with_reducible refine (count_eq C4.out C3.out).mono ?_); rintro e w1 ⟨rfl, rfl⟩))
    go_wp2_with (go_at_call 9; ((with_reducible refine (live _).mono ?_); rintro e wl ⟨rfl, hfl⟩))
    go_ret
    exact ⟨rfl, by (repeat (first | with_reducible exact Fr.refl _ _ | with_reducible refine Fr.setCell ?_ (.inr (by first | (simp; done) | (simp; omega))) _ | with_reducible refine Fr.alloc ?_ _ | with_reducible refine Fr.drew ?_ | with_reducible refine Fr.drewN ?_ _ | with_reducible refine Fr.tr ?_ (by assumption)))⟩
  · have hg := grow_no h
    have hb : ((grow l n).2.2.2 != 0) = true := bne_iff_ne.2 h
    generalize (grow l n).2.2.2 = z at *
    have Hg := Lib.hid hg
    clear h hg
    go_enter Try.func6, Try.ntmps6
    go_wp2_with (go_at_call 20; ((with_reducible refine (grow_eq Hg.out).mono ?_); rintro e w1 ⟨rfl, rfl⟩))
    go_wp2_with (go_at_call 9; ((with_reducible refine (live _).mono ?_); rintro e wl ⟨rfl, hfl⟩))
    go_ret
    exact ⟨rfl, by (repeat (first | with_reducible exact Fr.refl _ _ | with_reducible refine Fr.setCell ?_ (.inr (by first | (simp; done) | (simp; omega))) _ | with_reducible refine Fr.alloc ?_ _ | with_reducible refine Fr.drew ?_ | with_reducible refine Fr.drewN ?_ _ | with_reducible refine Fr.tr ?_ (by assumption)))⟩
abbrev twoT : Ty := .cn (.int .u32) (.cn (.int .u32) (.cn (.int .i64) (.cn (.int .i64) .nl)))
theorem u32_nat {x : Int} (h : (Lit.int .u32 x).wf = true) : ∃ a : Nat, x = (a : Int) ∧ a < 4294967296 := by
  have h6 : (decide (IntKind.u32.min ≤ x) && decide (x ≤ IntKind.u32.max)) = true := h
  rw [show IntKind.u32.min = 0 from by decide, show IntKind.u32.max = 4294967295 from by decide, Bool.and_eq_true, decide_eq_true_eq, decide_eq_true_eq] at h6
  exact ⟨x.toNat, by omega, by omega⟩
theorem rd_two {w : World} {x : twoT.D} {cs : Array Value} (h : Rd twoT w x cs.toList) :
    ∃ (a b : Nat) (l t : Int), cs = #[.int .u32 (a : Int), .int .u32 (b : Int), .int .i64 l, .int .i64 t] ∧ a < 4294967296 ∧ b < 4294967296 := by
  obtain ⟨c1, c2, hc, ⟨rfl, g1⟩, c3, c4, rfl, ⟨rfl, g2⟩, c5, c6, rfl, ⟨rfl, _⟩, c7, c8, rfl, ⟨rfl, _⟩, h5⟩ := h
  have h5' : c8 = [] := h5
  subst h5'
  obtain ⟨a, ha, ha2⟩ := u32_nat g1
  obtain ⟨b, hb, hb2⟩ := u32_nat g2
  refine ⟨a, b, x.2.2.1, x.2.2.2.1, ?_, ha2, hb2⟩
  rw [← Array.toArray_toList (xs := cs), hc]
  have ha' : x.1 = (a : Int) := ha
  have hb' : x.2.1 = (b : Int) := hb
  rw [← ha', ← hb']
  rfl
theorem kv_one (w : World) (t : TypeId) (a g : Nat) (ha : a < 4294967296) (hg : w.heap.size = g) : Kv (w.alloc (.cells #[.int .u32 (a : Int)] t)) (some ⟨g, 0, none⟩) 1 1 [a] := by
  subst hg
  refine ⟨rfl, Nat.le_refl _, by decide, fun x hx => by simp at hx; subst hx; exact ha, fun _ => ⟨w.heap.size, 0, rfl, fun i hi => ?_⟩⟩
  have : i = 0 := by simpa using hi
  subst this
  exact (Ob.new w #[.int .u32 (a : Int)] t).cell 0 rfl
theorem lf_cases1 (a : Nat) (l t : Int) : (lfE [a] l t = 1 ∧ lvOk l t = false) ∨ (lfE [a] l t = 0 ∧ ∃ u m : Nat, l = (u : Int) ∧ t = (m : Int) ∧ u ≤ 10 ∧ lfV [a] l t = ((chain [a] u m : Nat) : Int)) := by
  cases h : lvOk l t with
  | false => exact .inl ⟨(lf_no (by unfold lfOk; rw [h]; rfl)).2, rfl⟩
  | true =>
    obtain ⟨u, m, rfl, rfl, g1, _⟩ := lv_in h
    have o : lfOk [a].length (u : Int) (m : Int) = true := by unfold lfOk; rw [h]; rfl
    exact .inr ⟨by unfold lfE; rw [if_pos o], u, m, rfl, rfl, g1, by unfold lfV; rw [if_pos o, Int.toNat_natCast, Int.toNat_natCast]⟩
theorem lfE_one (a b : Nat) (l t : Int) : lfE [a] l t = lfE [b] l t := rfl
set_option maxRecDepth 100000 in
set_option maxHeartbeats 3200000 in
theorem law_order (w : World) (cs : Array Value) (x : twoT.D) (h : Rd twoT w x cs.toList) :
    Calls Try.prog 8 #[.agg cs] w fun e w' => e = .returned (.bool true) ∧ Fr No w w' := by
  obtain ⟨a, b, l, t, rfl, ha, hb⟩ := rd_two h
  clear h x
  rcases lf_cases1 a l t with ⟨h1, _⟩ | ⟨h1, u, m, rfl, rfl, hu, hv⟩
  · have H1 := Lib.hid h1
    have H2 := Lib.hid (show lfE [b] l t = 1 from h1)
    clear h1
    go_enter Try.func8, Try.ntmps8
    go_wp2
    go_quiet (fail)
    go_wp2_with (go_at_call 12; ((with_reducible refine (lfind_any (k := [a]) _ _ ?_).mono ?_); (focus ((repeat (first | with_reducible refine Kv.drewN ?_ _ | with_reducible refine Kv.drew ?_)); refine kv_one _ _ _ _ ha ?_; simp)); rintro e w1 ⟨rfl, rfl⟩; rw [H1.out]))
    go_wp2_with (go_at_call 12; ((with_reducible refine (lfind_any (k := [b]) _ _ ?_).mono ?_); (focus ((repeat (first | with_reducible refine Kv.drewN ?_ _ | with_reducible refine Kv.drew ?_)); refine kv_one _ _ _ _ hb ?_; simp)); rintro e w1 ⟨rfl, rfl⟩; rw [H2.out]))
    go_wp2_with (go_at_call 9; ((with_reducible refine (live _).mono ?_); rintro e wl ⟨rfl, hfl⟩))
    go_ret
    exact ⟨rfl, by (repeat (first | with_reducible exact Fr.refl _ _ | with_reducible refine Fr.setCell ?_ (.inr (by first | (simp; done) | (simp; omega))) _ | with_reducible refine Fr.alloc ?_ _ | with_reducible refine Fr.drew ?_ | with_reducible refine Fr.drewN ?_ _ | with_reducible refine Fr.tr ?_ (by assumption)))⟩
  · have H1 := Lib.hid h1
    have H2 := Lib.hid (show lfE [b] (u : Int) (m : Int) = 0 from h1)
    have hv2 : lfV [b] (u : Int) (m : Int) = ((chain [b] u m : Nat) : Int) := by
      rcases lf_cases1 b u m with ⟨k1, _⟩ | ⟨k1, u', m', e1, e2, _, k2⟩
      · rw [show lfE [b] (u : Int) (m : Int) = 0 from h1] at k1; cases k1
      · obtain rfl : u = u' := by omega
        obtain rfl : m = m' := by omega
        exact k2
    have H3 := Lib.hid hv
    have H4 := Lib.hid hv2
    have hor : b < a ∨ (a ≤ b ∧ chain [a] u m ≤ chain [b] u m) := by
      by_cases hab : b < a
      · exact .inl hab
      · exact .inr ⟨by omega, chain_mono a b u m (by omega) hb hu⟩
    clear h1 hv hv2
    generalize chain [a] u m = p at *
    generalize chain [b] u m = q at *
    rcases hor with h5 | ⟨h5, h6⟩
    all_goals
      go_enter Try.func8, Try.ntmps8
      go_wp2
      go_quiet (fail)
      go_wp2_with (go_at_call 12; ((with_reducible refine (lfind_any (k := [a]) _ _ ?_).mono ?_); (focus ((repeat (first | with_reducible refine Kv.drewN ?_ _ | with_reducible refine Kv.drew ?_)); refine kv_one _ _ _ _ ha ?_; simp)); rintro e w1 ⟨rfl, rfl⟩; rw [H1.out, H3.out]))
      go_wp2_with (go_at_call 12; ((with_reducible refine (lfind_any (k := [b]) _ _ ?_).mono ?_); (focus ((repeat (first | with_reducible refine Kv.drewN ?_ _ | with_reducible refine Kv.drew ?_)); refine kv_one _ _ _ _ hb ?_; simp)); rintro e w1 ⟨rfl, rfl⟩; rw [H2.out, H4.out]))
      go_wp2_with (go_at_call 9; ((with_reducible refine (live _).mono ?_); rintro e wl ⟨rfl, hfl⟩))
      go_ret
      exact ⟨rfl, by (repeat (first | with_reducible exact Fr.refl _ _ | with_reducible refine Fr.setCell ?_ (.inr (by first | (simp; done) | (simp; omega))) _ | with_reducible refine Fr.alloc ?_ _ | with_reducible refine Fr.drew ?_ | with_reducible refine Fr.drewN ?_ _ | with_reducible refine Fr.tr ?_ (by assumption)))⟩
end Go.Proofs.Ytplpgneckfmjpaa.Li18
