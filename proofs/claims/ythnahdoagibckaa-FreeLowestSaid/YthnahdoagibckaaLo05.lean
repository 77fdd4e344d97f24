/- The law FreeLowest: pages are taken from the lowest one on, and given back in strides. -/
import Derived.Test.YthnahdoagibckaaLn05
import Derived.Test.YthnahdoagibckaaPo05
namespace Go.Proofs.Ythnahdoagibckaa.Lo05
open Go.RowKit Go.Proofs.Ythnahdoagibckaa.Pl05 Go.Proofs.Ythnahdoagibckaa.Pm05 Go.Proofs.Ythnahdoagibckaa.Pn05 Go.Proofs.Ythnahdoagibckaa.Base Go.Proofs.Ythnahdoagibckaa.App Go.Proofs.Ythnahdoagibckaa.Str Go.Proofs.Ythnahdoagibckaa.Ty Go.Proofs.Ythnahdoagibckaa.Fr05 Go.Proofs.Ythnahdoagibckaa.Fs05 Go.Proofs.Ythnahdoagibckaa.Fn05 Go.Proofs.Ythnahdoagibckaa.Cl05 Go.Proofs.Ythnahdoagibckaa.Fe05 Go.Proofs.Ythnahdoagibckaa.Fd05 Go.Proofs.Ythnahdoagibckaa.Li05 Go.Proofs.Ythnahdoagibckaa.Po05
set_option linter.unusedVariables false
set_option linter.unusedSimpArgs false

theorem take_new (p i g b : Nat) (w : World) (h : Map w g b (newB p i)) (hi : i < p) :
    Calls Try.prog 15 #[.pointer (some ⟨g, 0, none⟩)] w fun e w' => e = .returned (.tuple #[.int .i64 i, .int .i64 0]) ∧ Map w' g b (newB p (i + 1)) ∧ Fr (fun k => k = b) w w' :=
  (take_at g b _ w h).mono fun e w' x => by
    have hf := newB_free p i hi
    simpa [takeN, takeE, takeB, hf, newB_succ p i hi] using x
theorem take_full (p g b : Nat) (w : World) (h : Map w g b (newB p p)) :
    Calls Try.prog 15 #[.pointer (some ⟨g, 0, none⟩)] w fun e w' => e = .returned (.tuple #[.int .i64 0, .int .i64 2]) ∧ Map w' g b (newB p p) ∧ Fr (fun k => k = b) w w' :=
  (take_at g b _ w h).mono fun e w' x => by
    have hf := newB_none p
    simpa [takeN, takeE, takeB, hf] using x
theorem is_new (p i g b : Nat) (w : World) (h : Map w g b (newB p (i + 1))) (hi : i < p) :
    Calls Try.prog 16 #[.pointer (some ⟨g, 0, none⟩), .int .i64 i] w fun e w' => e = .returned (.bool true) ∧ w = w' := by
  obtain ⟨cap, ws, ha⟩ := h
  have hb : Fr05.isB (newB p (i + 1)) i = true := by
    unfold Fr05.isB
    rw [Int.toNat_natCast, newB_get p (i + 1) i hi]
    simp
  exact (is_at g b cap ws _ i w ha).mono fun e w' x => by rw [hb] at x; exact x
theorem left_new (p f g b : Nat) (w : World) (h : Map w g b (newB p f)) (hf : f ≤ p) :
    Calls Try.prog 12 #[.pointer (some ⟨g, 0, none⟩)] w fun e w' => e = .returned (.int .i64 ((p : Int) - f)) ∧ w = w' :=
  (left_at g b _ w h).mono fun e w' x => by
    rw [newB_len, newB_taken p f hf] at x
    have e1 : ((p : Int) - f) = ((p - f : Nat) : Int) := by omega
    rw [e1]
    exact x
theorem give_st (p f B k i g b : Nat) (w : World) (h : Map w g b (stB p f B k i)) (hk : k < B) (hi : i < p) (hf : f ≤ i) (hm : (i - f) % B = k) :
    Calls Try.prog 17 #[.pointer (some ⟨g, 0, none⟩), .int .i64 i] w fun e w' => e = .returned (.int .i64 0) ∧ Map w' g b (stB p f B k (i + B)) ∧ Fr (fun k => k = b) w w' :=
  (give_at g b _ i w h).mono fun e w' x => by
    obtain ⟨h1, h2⟩ := st_take p f B k i hk hi hf hm
    have e1 : giveC (stB p f B k i) i = 0 := by simp [giveC, h1]
    have e2 : giveB (stB p f B k i) i = stB p f B k (i + B) := by unfold giveB; rw [e1, if_pos rfl, Int.toNat_natCast, h2]
    rw [e1, e2] at x
    exact x
set_option maxHeartbeats 1600000 in
theorem law (w : World) (p : Int) (hp : (Lit.int .i64 p).wf = true) (f : Int) (hf : (Lit.int .i64 f).wf = true) (by' : Int) (hb : (Lit.int .i64 by').wf = true) :
    Calls Try.prog 4 #[.int .i64 p, .int .i64 f, .int .i64 by'] w fun e w' => e = .returned (.bool true) ∧ Fr No w w' := by
  by_cases hn : newOk p f
  · obtain ⟨p, rfl⟩ := Int.eq_ofNat_of_zero_le (show 0 ≤ p by have := hn.1; omega)
    obtain ⟨f, rfl⟩ := Int.eq_ofNat_of_zero_le hn.2.2.1
    have hfp : f ≤ p := by have := hn.2.2.2; omega
    have hp1 : 1 ≤ p := by have := hn.1; omega
    clear hp hf
    by_cases hg : 200 < p
    · go_enter Try.func4, Try.ntmps4
      go_wp2_with (first
        | (go_at_call 14; ((with_reducible refine (new_ok _ _ _ hn).mono ?_); rintro e w1 ⟨g, b, rfl, hm1, hg1, hb1, hf1⟩))
        | (go_at_call 8; ((with_reducible refine (live _).mono ?_); rintro e w5 ⟨rfl, hf5⟩)))
      go_ret
      exact ⟨rfl, hf1.tr hf5⟩
    · by_cases hy : by' < 1
      · go_enter Try.func4, Try.ntmps4
        go_wp2_with (first
          | (go_at_call 14; ((with_reducible refine (new_ok _ _ _ hn).mono ?_); rintro e w1 ⟨g, b, rfl, hm1, hg1, hb1, hf1⟩))
          | (go_at_call 8; ((with_reducible refine (live _).mono ?_); rintro e w5 ⟨rfl, hf5⟩)))
        go_ret
        exact ⟨rfl, hf1.tr hf5⟩
      · obtain ⟨B, hB⟩ := Int.eq_ofNat_of_zero_le (show 0 ≤ min by' 200 by omega)
        have hB0 : 0 < B := by omega
        have hB2 : B ≤ 200 := by omega
        have hBy : (B : Int) ≤ by' := by omega
        have hBk : ∀ k : Nat, k < B ↔ ((k : Int) < by' ∧ (k : Int) < 200) := fun k => by omega
        have HB := Lib.hid hBk
        clear hb hBk
        go_enter Try.func4, Try.ntmps4
        go_wp2_with (go_at_call 14; ((with_reducible refine (new_ok _ _ _ hn).mono ?_); rintro e w1 ⟨g, b, rfl, hm1, hg1, hb1, hf1⟩))
        go_wp2_with (go_at_call 11; ((with_reducible refine (encode_at _ _ _ _ hm1).mono ?_); rintro e w2 ⟨rfl, hf2⟩; have hm2 := hm1.fr hf2 (fun x => x) (fun x => x); replace hf2 := hf1.tr hf2; clear hm1 hf1))
        generalize hS : encS (newB p f) = S at *
        have HS := Lib.hid hS
        clear hS
        go_loopw [10] (fun v wr => ∃ i : Nat, f ≤ i ∧ i ≤ p ∧ v = .int .i64 i ∧ Hid (Map wr g b (newB p i) ∧ Fr No w wr)) (fun v _ => p - (intOf v).toNat)
        case atStart => exact ⟨f, Nat.le_refl _, hfp, rfl, Lib.hid ⟨hm2, hf2⟩⟩
        case round =>
          obtain ⟨i, hi1, hi2, rfl, Hi⟩ := hrel
          clear hm2 hf2
          by_cases hlt : i < p
          · go_wp2_with (go_at_call 15; ((with_reducible refine (take_new _ _ _ _ _ Hi.out.1 hlt).mono ?_); rintro e w3 ⟨rfl, hm3, hf3⟩; replace hf3 : Fr No w w3 := Hi.out.2.trans hf3 (fun k hk => .inr (by omega)); clear Hi))
            go_wp2_with (go_at_call 16; ((with_reducible refine (is_new _ _ _ _ _ hm3 hlt).mono ?_); rintro e w4 ⟨rfl, rfl⟩))
            go_roundw
            case rel => exact ⟨i + 1, by omega, by omega, by go_num, Lib.hid ⟨hm3, hf3⟩⟩
            case measure => simp [intOf]; omega
          · obtain rfl : i = p := by omega
            go_wp2_with (go_at_call 15; ((with_reducible refine (take_full _ _ _ _ Hi.out.1).mono ?_); rintro e w3 ⟨rfl, hm3, hf3⟩; replace hf3 : Fr No w w3 := Hi.out.2.trans hf3 (fun k hk => .inr (by omega)); clear Hi))
            go_wp2_with (go_at_call 12; ((with_reducible refine (left_new _ _ _ _ _ hm3 (Nat.le_refl _)).mono ?_); rintro e w4 ⟨rfl, rfl⟩))
            go_loopw [15] (fun v wr => ∃ k : Nat, k ≤ B ∧ v = .int .i64 k ∧ Hid (Map wr g b (stB i f B k (f + k)) ∧ Fr No w wr)) (fun v _ => B - (intOf v).toNat)
            case atStart => exact ⟨0, Nat.zero_le _, rfl, Lib.hid ⟨by show Map _ _ _ (stB i f B 0 f); rw [st_start i f B hB0]; exact hm3, hf3⟩⟩
            case round =>
              obtain ⟨k, hk1, rfl, Hk⟩ := hrel
              clear hm3 hf3
              by_cases hlt2 : k < B
              · obtain ⟨hka, hkb⟩ := (HB.out k).1 hlt2
                go_wp2
                go_loopw [16] (fun v wr => ∃ n : Nat, f ≤ n ∧ n ≤ 1000 ∧ v = .int .i64 n ∧ Hid ((n - f) % B = k ∧ Map wr g b (stB i f B k n) ∧ Fr No w wr)) (fun v _ => 1000 - (intOf v).toNat)
                case atStart => exact ⟨f + k, by omega, by omega, by go_num, Lib.hid ⟨by rw [Nat.add_sub_cancel_left]; exact Nat.mod_eq_of_lt hlt2, Hk.out⟩⟩
                case round =>
                  obtain ⟨n, hn1, hn2, rfl, Hn⟩ := hrel
                  clear Hk
                  by_cases hlt3 : n < i
                  · go_wp2_with (go_at_call 17; ((with_reducible refine (give_st _ _ _ _ _ _ _ _ Hn.out.2.1 hlt2 hlt3 hn1 Hn.out.1).mono ?_); rintro e w5 ⟨rfl, hm5, hf5⟩; replace hf5 : Fr No w w5 := Hn.out.2.2.trans hf5 (fun k hk => .inr (by omega))))
                    go_roundw
                    case rel => exact ⟨n + B, by omega, by omega, by go_num, Lib.hid ⟨(st_mod f B k n hn1 Hn.out.1).2, hm5, hf5⟩⟩
                    case measure => simp [intOf]; omega
                  · go_wp2
                    go_roundw
                    case rel => exact ⟨k + 1, by omega, by go_num, Lib.hid ⟨by rw [← st_next i f B k n (by omega)]; exact Hn.out.2.1, Hn.out.2.2⟩⟩
                    case measure => simp [intOf]; omega
              · obtain rfl : k = B := by omega
                have hm6 := Hk.out.1
                have hf6 := Hk.out.2
                rw [st_end i f k _ hB0] at hm6
                have hno : ¬ ((k : Int) < by' ∧ (k : Int) < 200) := fun h => absurd ((HB.out k).2 h) (by omega)
                clear Hk
                by_cases hq : (k : Int) < by'
                · have hq2 : ¬ (k : Int) < 200 := fun h => hno ⟨hq, h⟩
                  clear hno
                  go_wp2_with (go_at_call 11; ((with_reducible refine (encode_at _ _ _ _ hm6).mono ?_); rintro e w7 ⟨rfl, hf7⟩; rw [HS.out]; have hm7 := hm6.fr hf7 (fun x => x) (fun x => x); replace hf7 := hf6.tr hf7; clear hm6 hf6))
                  go_wp2_with (first
                    | (go_at_call 12; ((with_reducible refine (left_new _ _ _ _ _ hm7 hfp).mono ?_); rintro e w8 ⟨rfl, rfl⟩))
                    | (go_at_call 8; ((with_reducible refine (live _).mono ?_); rintro e w9 ⟨rfl, hf9⟩)))
                  go_ret
                  exact ⟨rfl, hf7.tr hf9⟩
                · clear hno
                  go_wp2_with (go_at_call 11; ((with_reducible refine (encode_at _ _ _ _ hm6).mono ?_); rintro e w7 ⟨rfl, hf7⟩; rw [HS.out]; have hm7 := hm6.fr hf7 (fun x => x) (fun x => x); replace hf7 := hf6.tr hf7; clear hm6 hf6))
                  go_wp2_with (first
                    | (go_at_call 12; ((with_reducible refine (left_new _ _ _ _ _ hm7 hfp).mono ?_); rintro e w8 ⟨rfl, rfl⟩))
                    | (go_at_call 8; ((with_reducible refine (live _).mono ?_); rintro e w9 ⟨rfl, hf9⟩)))
                  go_ret
                  exact ⟨rfl, hf7.tr hf9⟩
  · go_enter Try.func4, Try.ntmps4
    go_wp2_with (first
      | (go_at_call 14; ((with_reducible refine (new_bad _ _ _ hn).mono ?_); rintro e w1 ⟨rfl, rfl⟩))
      | (go_at_call 8; ((with_reducible refine (live _).mono ?_); rintro e w5 ⟨rfl, hf5⟩)))
    go_ret
    exact ⟨rfl, hf5⟩
end Go.Proofs.Ythnahdoagibckaa.Lo05
