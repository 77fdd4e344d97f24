/- The law FreeBack: a page that is given back is the next one; maps that are written alike are alike. -/
import Derived.Test.YthnahdoagibckaaPb05
namespace Go.Proofs.Ythnahdoagibckaa.Lb05
open Go.RowKit Go.Proofs.Ythnahdoagibckaa.Pl05 Go.Proofs.Ythnahdoagibckaa.Pm05 Go.Proofs.Ythnahdoagibckaa.Pn05 Go.Proofs.Ythnahdoagibckaa.Base Go.Proofs.Ythnahdoagibckaa.App Go.Proofs.Ythnahdoagibckaa.Str Go.Proofs.Ythnahdoagibckaa.Ty Go.Proofs.Ythnahdoagibckaa.Fr05 Go.Proofs.Ythnahdoagibckaa.Fs05 Go.Proofs.Ythnahdoagibckaa.Fn05 Go.Proofs.Ythnahdoagibckaa.Cl05 Go.Proofs.Ythnahdoagibckaa.Fe05 Go.Proofs.Ythnahdoagibckaa.Fd05 Go.Proofs.Ythnahdoagibckaa.Li05 Go.Proofs.Ythnahdoagibckaa.Pb05
set_option linter.unusedVariables false
set_option linter.unusedSimpArgs false

theorem take_b (g b a : Nat) (bs : List Bool) (w : World) (h : Map w g b bs) (hf : free bs = some a) :
    Calls Try.prog 15 #[.pointer (some ⟨g, 0, none⟩)] w fun e w' => e = .returned (.tuple #[.int .i64 a, .int .i64 0]) ∧ Map w' g b (flipB bs a) ∧ Fr (fun k => k = b) w w' :=
  (take_at g b _ w h).mono fun e w' x => by
    simpa [takeN, takeE, takeB, hf] using x
theorem give_b (g b : Nat) (n : Nat) (bs : List Bool) (w : World) (h : Map w g b bs) (hi : Fr05.isB bs n = true) :
    Calls Try.prog 17 #[.pointer (some ⟨g, 0, none⟩), .int .i64 n] w fun e w' => e = .returned (.int .i64 0) ∧ Map w' g b (flipB bs n) ∧ Fr (fun k => k = b) w w' :=
  (give_at g b _ n w h).mono fun e w' x => by
    have e1 : giveC bs n = 0 := by simp [giveC, hi]
    have e2 : giveB bs n = flipB bs n := by unfold giveB; rw [e1, if_pos rfl, Int.toNat_natCast]
    rw [e1, e2] at x
    exact x
theorem is_b (g b : Nat) (n : Int) (bs : List Bool) (x : Bool) (w : World) (h : Map w g b bs) (hi : Fr05.isB bs n = x) :
    Calls Try.prog 16 #[.pointer (some ⟨g, 0, none⟩), .int .i64 n] w fun e w' => e = .returned (.bool x) ∧ w = w' := by
  obtain ⟨cap, ws, ha⟩ := h
  subst hi
  exact is_at g b cap ws bs n w ha
theorem map_lt {w : World} {g b : Nat} {bs : List Bool} (h : Map w g b bs) : g < w.heap.size ∧ b < w.heap.size := by
  obtain ⟨cap, ws, ha⟩ := h
  exact ha.lt
set_option maxHeartbeats 3200000 in
theorem law (w : World) (p : Int) (hp : (Lit.int .i64 p).wf = true) {E : TypeId} (A' : Option Addr) (n' c' : Nat) (xs : List op.D) (h : Rd (.sl E op) w xs [.slice A' n' c']) (q : Int) (hq : (Lit.int .i64 q).wf = true) :
    Calls Try.prog 5 #[.int .i64 p, .slice A' n' c', .int .i64 q] w fun e w' => e = .returned (.bool true) ∧ Fr No w w' := by
  by_cases hn : newOk p 0
  · obtain ⟨p, rfl⟩ := Int.eq_ofNat_of_zero_le (show 0 ≤ p by have := hn.1; omega)
    have hp1 : 1 ≤ p := by have := hn.1; omega
    have hp2 : p ≤ 1000 := by have := hn.2.1; omega
    have hnn : newOk p (0 : Nat) := hn
    clear hp hn
    have hlen := h.slice.2.1
    have hcap := h.slice.2.2.1
    have Hh := Lib.hid h
    clear h
    go_enter Try.func5, Try.ntmps5
    go_wp2_with (go_at_call 14; ((refine (new_ok p 0 _ hnn).mono ?_); rintro e w1 ⟨g, b, rfl, hm1, hg1, hb1, hf1⟩))
    go_loopw [9] (fun v wr => ∃ (i : Nat) (bs : List Bool), i ≤ n' ∧ i ≤ 100 ∧ v = .int .i64 i ∧ Hid (bs.length = p ∧ Map wr g b bs ∧ Fr No w wr)) (fun v _ => 100 - (intOf v).toNat)
    case atStart => exact ⟨0, _, Nat.zero_le _, Nat.zero_le _, rfl, Lib.hid ⟨newB_len _ _, hm1, hf1⟩⟩
    case round =>
      obtain ⟨i, bs, hi1, hi2, rfl, Hi⟩ := hrel
      clear hm1 hf1
      by_cases hlt : i < n' ∧ i < 100
      · obtain ⟨hlt1, hlt2⟩ := hlt
        obtain ⟨sb, so, d, k, rfl, c0, c1⟩ := op_at (Hh.out.fr Hi.out.2.2) i hlt1
        go_wp2_with (go_at_call 18; ((with_reducible refine (mark_at _ _ _ _ _ Hi.out.2.1).mono ?_); rintro e w5 ⟨rfl, hm5, hf5⟩; replace hf5 : Fr No w w5 := Hi.out.2.2.trans hf5 (fun k hk => .inr (by omega)); have hl5 := (markB_len bs k).trans Hi.out.1))
        go_roundw
        case rel => exact ⟨i + 1, _, by omega, by omega, by go_num, Lib.hid ⟨hl5, hm5, hf5⟩⟩
        case measure => simp [intOf]; omega
      · have hno : ¬ ((i : Int) < n' ∧ (i : Int) < 100) := fun x => hlt (by omega)
        clear hlt
        obtain ⟨hbl, hm2, hf2⟩ := Hi.out
        obtain ⟨hgl, hbl2⟩ := map_lt hm2
        have Hb := Lib.hid hbl
        clear Hi hbl
        have hor : ¬ (i : Int) < n' ∨ ((i : Int) < n' ∧ ¬ (i : Int) < 100) := by omega
        clear hno
        cases his : Fr05.isB bs q with
        | false =>
          have His := Lib.hid his
          clear his
          rcases hor with hor | ⟨hor, hor2⟩
          all_goals
            go_wp2_with (go_at_call 11; ((with_reducible refine (encode_at _ _ _ _ hm2).mono ?_); rintro e w3 ⟨rfl, hf3⟩; have hm3 := hm2.fr hf3 (fun x => x) (fun x => x); have hw3 := hf3.size; replace hf3 := hf2.tr hf3; clear hm2 hf2))
            go_wp2_with (go_at_call 9; ((with_reducible refine (dec_enc _ _ _ Hb.out hp1 hp2).mono ?_); rintro e w4 ⟨g4, b4, rfl, hx4, hg4, hb4, hf4⟩; have hm4 := hm3.fr hf4 (fun x => x) (fun x => x); replace hf4 := hf3.tr hf4; clear hm3 hf3))
            go_wp2_with (first
              | (go_at_call 12; ((with_reducible refine (left_at _ _ _ _ hm4).mono ?_); rintro e w8 ⟨rfl, rfl⟩))
              | (go_at_call 12; ((with_reducible refine (left_at _ _ _ _ hx4).mono ?_); rintro e w8 ⟨rfl, rfl⟩))
              | (go_at_call 16; ((with_reducible refine (is_b _ _ _ _ _ _ hm4 His.out).mono ?_); rintro e w8 ⟨rfl, rfl⟩))
              | (go_at_call 8; ((with_reducible refine (live _).mono ?_); rintro e w9 ⟨rfl, hf9⟩)))
            go_ret
            exact ⟨rfl, hf4.tr hf9⟩
        | true =>
          obtain ⟨n, rfl, hq1, hq2⟩ := is_true his
          obtain ⟨a, hfa, hle, hfb, hia⟩ := back bs n hq1 hq2
          have hff := flip_flip (flipB bs n) a
          have His := Lib.hid his
          have Hff := Lib.hid hff
          have Hfa := Lib.hid hfa
          have Hfb := Lib.hid hfb
          have Hia := Lib.hid hia
          clear his hff hfa hfb hia hq2 hq
          by_cases hlt : a < n
          · rcases hor with hor | ⟨hor, hor2⟩
            all_goals
              go_wp2_with (go_at_call 11; ((with_reducible refine (encode_at _ _ _ _ hm2).mono ?_); rintro e w3 ⟨rfl, hf3⟩; have hm3 := hm2.fr hf3 (fun x => x) (fun x => x); have hw3 := hf3.size; replace hf3 := hf2.tr hf3; clear hm2 hf2))
              go_wp2_with (go_at_call 9; ((with_reducible refine (dec_enc _ _ _ Hb.out hp1 hp2).mono ?_); rintro e w4 ⟨g4, b4, rfl, hx4, hg4, hb4, hf4⟩; have hm4 := hm3.fr hf4 (fun x => x) (fun x => x); replace hf4 := hf3.tr hf4; clear hm3 hf3))
              go_wp2_with (first
                | (go_at_call 12; ((with_reducible refine (left_at _ _ _ _ hm4).mono ?_); rintro e w8 ⟨rfl, rfl⟩))
                | (go_at_call 12; ((with_reducible refine (left_at _ _ _ _ hx4).mono ?_); rintro e w8 ⟨rfl, rfl⟩))
                | (go_at_call 16; ((with_reducible refine (is_b _ _ _ _ _ _ hm4 His.out).mono ?_); rintro e w8 ⟨rfl, rfl⟩))
                | (go_at_call 17; ((with_reducible refine (give_b _ _ _ _ _ hm4 His.out).mono ?_); rintro e w10 ⟨rfl, hm10, hf10⟩; have hx10 := hx4.fr hf10 (fun (x : g4 = b) => by omega) (fun (x : b4 = b) => by omega); replace hf10 : Fr No w w10 := hf4.trans hf10 (fun k hk => .inr (by omega)))))
              go_wp2_with (go_at_call 11; ((with_reducible refine (encode_at _ _ _ _ hm10).mono ?_); rintro e w11 ⟨rfl, hf11⟩; have hm11 := hm10.fr hf11 (fun x => x) (fun x => x); have hx11 := hx10.fr hf11 (fun x => x) (fun x => x); replace hf11 := hf10.tr hf11))
              go_wp2_with (go_at_call 15; ((with_reducible refine (take_b _ _ _ _ _ hm11 Hfa.out).mono ?_); rintro e w12 ⟨rfl, hm12, hf12⟩; have hx12 := hx11.fr hf12 (fun (x : g4 = b) => by omega) (fun (x : b4 = b) => by omega); replace hf12 : Fr No w w12 := hf11.trans hf12 (fun k hk => .inr (by omega))))
              go_wp2_with (go_at_call 15; ((with_reducible refine (take_b _ _ _ _ _ hx12 (Hfb.out hlt)).mono ?_); rintro e w13 ⟨rfl, hx13, hf13⟩; have hm13 := hm12.fr hf13 (fun (x : g = b4) => by omega) (fun (x : b = b4) => by omega); replace hf13 : Fr No w w13 := hf12.trans hf13 (fun k hk => .inr (by omega))))
              go_wp2_with (go_at_call 17; ((with_reducible refine (give_b _ _ _ _ _ hm13 Hia.out).mono ?_); rintro e w14 ⟨rfl, hm14, hf14⟩; rw [Hff.out] at hm14; replace hf14 : Fr No w w14 := hf13.trans hf14 (fun k hk => .inr (by omega))))
              go_wp2_with (go_at_call 11; ((with_reducible refine (encode_at _ _ _ _ hm14).mono ?_); rintro e w15 ⟨rfl, hf15⟩; replace hf15 := hf14.tr hf15))
              go_wp2_with (go_at_call 8; ((with_reducible refine (live _).mono ?_); rintro e w9 ⟨rfl, hf9⟩))
              go_ret
              exact ⟨rfl, hf15.tr hf9⟩
          · obtain rfl : a = n := by omega
            rcases hor with hor | ⟨hor, hor2⟩
            all_goals
              go_wp2_with (go_at_call 11; ((with_reducible refine (encode_at _ _ _ _ hm2).mono ?_); rintro e w3 ⟨rfl, hf3⟩; have hm3 := hm2.fr hf3 (fun x => x) (fun x => x); have hw3 := hf3.size; replace hf3 := hf2.tr hf3; clear hm2 hf2))
              go_wp2_with (go_at_call 9; ((with_reducible refine (dec_enc _ _ _ Hb.out hp1 hp2).mono ?_); rintro e w4 ⟨g4, b4, rfl, hx4, hg4, hb4, hf4⟩; have hm4 := hm3.fr hf4 (fun x => x) (fun x => x); replace hf4 := hf3.tr hf4; clear hm3 hf3))
              go_wp2_with (first
                | (go_at_call 12; ((with_reducible refine (left_at _ _ _ _ hm4).mono ?_); rintro e w8 ⟨rfl, rfl⟩))
                | (go_at_call 12; ((with_reducible refine (left_at _ _ _ _ hx4).mono ?_); rintro e w8 ⟨rfl, rfl⟩))
                | (go_at_call 16; ((with_reducible refine (is_b _ _ _ _ _ _ hm4 His.out).mono ?_); rintro e w8 ⟨rfl, rfl⟩))
                | (go_at_call 17; ((with_reducible refine (give_b _ _ _ _ _ hm4 His.out).mono ?_); rintro e w10 ⟨rfl, hm10, hf10⟩; have hx10 := hx4.fr hf10 (fun (x : g4 = b) => by omega) (fun (x : b4 = b) => by omega); replace hf10 : Fr No w w10 := hf4.trans hf10 (fun k hk => .inr (by omega)))))
              go_wp2_with (go_at_call 11; ((with_reducible refine (encode_at _ _ _ _ hm10).mono ?_); rintro e w11 ⟨rfl, hf11⟩; have hm11 := hm10.fr hf11 (fun x => x) (fun x => x); have hx11 := hx10.fr hf11 (fun x => x) (fun x => x); replace hf11 := hf10.tr hf11))
              go_wp2_with (go_at_call 15; ((with_reducible refine (take_b _ _ _ _ _ hm11 Hfa.out).mono ?_); rintro e w12 ⟨rfl, hm12, hf12⟩; have hx12 := hx11.fr hf12 (fun (x : g4 = b) => by omega) (fun (x : b4 = b) => by omega); replace hf12 : Fr No w w12 := hf11.trans hf12 (fun k hk => .inr (by omega))))
              go_wp2_with (go_at_call 15; ((with_reducible refine (take_at _ _ _ _ hx12).mono ?_); rintro e w13 ⟨rfl, hx13, hf13⟩; have hm13 := hm12.fr hf13 (fun (x : g = b4) => by omega) (fun (x : b = b4) => by omega); replace hf13 : Fr No w w13 := hf12.trans hf13 (fun k hk => .inr (by omega))))
              go_wp2_with (go_at_call 17; ((with_reducible refine (give_b _ _ _ _ _ hm13 Hia.out).mono ?_); rintro e w14 ⟨rfl, hm14, hf14⟩; rw [Hff.out] at hm14; replace hf14 : Fr No w w14 := hf13.trans hf14 (fun k hk => .inr (by omega))))
              go_wp2_with (go_at_call 11; ((with_reducible refine (encode_at _ _ _ _ hm14).mono ?_); rintro e w15 ⟨rfl, hf15⟩; replace hf15 := hf14.tr hf15))
              go_wp2_with (go_at_call 8; ((with_reducible refine (live _).mono ?_); rintro e w9 ⟨rfl, hf9⟩))
              go_ret
              exact ⟨rfl, hf15.tr hf9⟩
  · go_enter Try.func5, Try.ntmps5
    go_wp2_with (first
      | (go_at_call 14; ((with_reducible refine (new_bad _ _ _ hn).mono ?_); rintro e w1 ⟨rfl, rfl⟩))
      | (go_at_call 8; ((with_reducible refine (live _).mono ?_); rintro e w5 ⟨rfl, hf5⟩)))
    go_ret
    exact ⟨rfl, hf5⟩
end Go.Proofs.Ythnahdoagibckaa.Lb05
