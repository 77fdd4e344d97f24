/- Layer 5: the answers that the document gives. -/
import Derived.Test.YthnahdoagibckaaRd05
namespace Go.Proofs.Ythnahdoagibckaa.Li05
open Go.RowKit Go.Proofs.Ythnahdoagibckaa.Pl05 Go.Proofs.Ythnahdoagibckaa.Pm05 Go.Proofs.Ythnahdoagibckaa.Pn05 Go.Proofs.Ythnahdoagibckaa.Base Go.Proofs.Ythnahdoagibckaa.App Go.Proofs.Ythnahdoagibckaa.Str Go.Proofs.Ythnahdoagibckaa.Fr05 Go.Proofs.Ythnahdoagibckaa.Fs05 Go.Proofs.Ythnahdoagibckaa.Fn05 Go.Proofs.Ythnahdoagibckaa.Cl05 Go.Proofs.Ythnahdoagibckaa.Fe05 Go.Proofs.Ythnahdoagibckaa.Fd05
set_option linter.unusedVariables false
set_option linter.unusedSimpArgs false

def la : List Bool := [true, true, false, false, false, false, false, false, false, false]
def lb : List Bool := [true, true, true, false, false, false, false, false, false, false]
def lc : List Bool := [true, true, true, false, false, false, false, false, false, true]
def ld : List Bool := [false, true, true, false, false, false, false, false, false, true]
def sd : ByteArray := ⟨#[96, 64]⟩
def sx : ByteArray := ⟨#[0, 1]⟩
theorem la_new : newB 10 2 = la := by decide
theorem la_n : takeN la = 2 := by decide
theorem la_e : takeE la = 0 := by decide
theorem la_b : takeB la = lb := by decide
theorem lb_m : markC lb 9 = 0 := by decide
theorem lb_b : markB lb 9 = lc := by decide
theorem lc_m : markC lc 9 = 1 := by decide
theorem lc_b : markB lc 9 = lc := by decide
theorem lc_g : giveC lc 0 = 0 := by decide
theorem lc_h : giveB lc 0 = ld := by decide
theorem ld_g : giveC ld 5 = 1 := by decide
theorem ld_h : giveB ld 5 = ld := by decide
theorem ld_s : encS ld = sd := by rfl
theorem ld_b : bitsOf 10 sd = ld := by decide
theorem ld_t : ld.length - taken ld = 7 := by decide
theorem ld_9 : isB ld 9 = true := by decide
theorem ld_0 : isB ld 0 = false := by decide
theorem sx_no : encS (bitsOf 10 sx) ≠ sx := fun h => by
  have := congrArg (fun s : ByteArray => byteS s 1) h
  exact absurd this (by decide)
theorem live_new (w : World) : Calls Try.prog 14 #[.int .i64 10, .int .i64 2] w fun e w' => ∃ g b, e = .returned (.tuple #[.pointer (some ⟨g, 0, none⟩), .int .i64 0]) ∧ Map w' g b la ∧ w.heap.size ≤ g ∧ w.heap.size ≤ b ∧ Fr No w w' := by
  have h := new_ok 10 2 w (by decide)
  rw [la_new] at h
  exact h
theorem live_dec (w : World) : Calls Try.prog 9 #[.int .i64 10, .string sd] w fun e w' => ∃ g b, e = .returned (.tuple #[.pointer (some ⟨g, 0, none⟩), .int .i64 0]) ∧ Map w' g b ld ∧ Fr No w w' := by
  refine (decode_any 10 sd w (by decide)).mono fun e w' h => ?_
  have hb : encS (bitsOf (10 : Int).toNat sd) = sd := by
    show encS (bitsOf 10 sd) = sd
    rw [ld_b, ld_s]
  rcases h with ⟨_, _, _, g, b, he, hm, _, _, hf⟩ | ⟨hn, _⟩ | ⟨_, _, hn, _⟩
  · have hm' : Map w' g b (bitsOf 10 sd) := hm
    rw [ld_b] at hm'
    exact ⟨g, b, he, hm', hf⟩
  · exact absurd ⟨by decide, by decide⟩ hn
  · exact absurd hb hn
theorem live_not (w : World) : Calls Try.prog 9 #[.int .i64 10, .string sx] w fun e w' => e = .returned (.tuple #[.pointer none, .int .i64 6]) ∧ Fr No w w' := by
  refine (decode_any 10 sx w (by decide)).mono fun e w' h => ?_
  rcases h with ⟨_, _, hb, _⟩ | ⟨hn, _⟩ | ⟨_, _, _, he, hf⟩
  · exact absurd hb sx_no
  · exact absurd ⟨by decide, by decide⟩ hn
  · exact ⟨he, hf⟩
theorem sx_fold : (⟨#[0, 1]⟩ : ByteArray) = sx := rfl
theorem sd_fold : (⟨#[96, 64]⟩ : ByteArray) = sd := rfl
set_option maxHeartbeats 1600000 in
theorem live (w : World) : Calls Try.prog 8 #[] w fun e w' => e = .returned (.bool true) ∧ Fr No w w' := by
  have hsd : sd.toList = [96, 64] := ByteArray.toList_mk [96, 64]
  go_enter Try.func8, Try.ntmps8
  go_wp2_with (go_at_call 14; ((with_reducible refine (live_new _).mono ?_); rintro e w1 ⟨g, b, rfl, hm1, hg, hb, hf1⟩))
  go_wp2_with (go_at_call 14; ((with_reducible refine (new_bad 10 11 _ (by decide)).mono ?_); rintro e w1 ⟨rfl, rfl⟩))
  go_wp2_with (go_at_call 15; ((with_reducible refine (take_at _ _ _ _ hm1).mono ?_); rintro e w2 ⟨rfl, hm2, hf2⟩; rw [la_n, la_e]; rw [la_b] at hm2; replace hf2 : Fr No w w2 := hf1.trans hf2 (fun k hk => .inr (by omega)); clear hm1 hf1))
  go_wp2_with (go_at_call 18; ((with_reducible refine (mark_at _ _ _ 9 _ hm2).mono ?_); rintro e w3 ⟨rfl, hm3, hf3⟩; rw [lb_m]; rw [lb_b] at hm3; replace hf3 : Fr No w w3 := hf2.trans hf3 (fun k hk => .inr (by omega)); clear hm2 hf2))
  go_wp2_with (go_at_call 18; ((with_reducible refine (mark_at _ _ _ 9 _ hm3).mono ?_); rintro e w4 ⟨rfl, hm4, hf4⟩; rw [lc_m]; rw [lc_b] at hm4; replace hf4 : Fr No w w4 := hf3.trans hf4 (fun k hk => .inr (by omega)); clear hm3 hf3))
  go_wp2_with (go_at_call 17; ((with_reducible refine (give_at _ _ _ 0 _ hm4).mono ?_); rintro e w5 ⟨rfl, hm5, hf5⟩; rw [lc_g]; rw [lc_h] at hm5; replace hf5 : Fr No w w5 := hf4.trans hf5 (fun k hk => .inr (by omega)); clear hm4 hf4))
  go_wp2_with (go_at_call 17; ((with_reducible refine (give_at _ _ _ 5 _ hm5).mono ?_); rintro e w6 ⟨rfl, hm6, hf6⟩; rw [ld_g]; rw [ld_h] at hm6; replace hf6 : Fr No w w6 := hf5.trans hf6 (fun k hk => .inr (by omega)); clear hm5 hf5))
  go_wp2_with (go_at_call 11; ((with_reducible refine (encode_at _ _ _ _ hm6).mono ?_); rintro e w7 ⟨rfl, hf7⟩; rw [ld_s]; have hm7 := hm6.fr hf7 (fun x => x) (fun x => x); replace hf7 := hf6.tr hf7; clear hm6 hf6))
  go_wp2_with (go_at_call 9; ((with_reducible refine (live_dec _).mono ?_); rintro e w8 ⟨g2, b2, rfl, hx8, hf8⟩; have hm8 := hm7.fr hf8 (fun x => x) (fun x => x); replace hf8 := hf7.tr hf8; clear hm7 hf7))
  go_wp2_with (go_at_call 9; ((refine (live_not _).mono ?_); rintro e w9 ⟨rfl, hf9⟩; have hm9 := hm8.fr hf9 (fun x => x) (fun x => x); have hx9 := hx8.fr hf9 (fun x => x) (fun x => x); replace hf9 := hf8.tr hf9; clear hm8 hf8 hx8))
  go_wp2_with (go_at_call 11; ((with_reducible refine (encode_at _ _ _ _ hx9).mono ?_); rintro e w10 ⟨rfl, hf10⟩; rw [ld_s]; have hm10 := hm9.fr hf10 (fun x => x) (fun x => x); replace hf10 := hf9.tr hf10; clear hm9 hf9 hx9))
  go_wp2_with (go_at_call 12; ((with_reducible refine (left_at _ _ _ _ hm10).mono ?_); rintro e w11 ⟨rfl, rfl⟩; rw [ld_t]))
  obtain ⟨cap, ws, ha⟩ := hm10
  go_wp2_with (go_at_call 16; ((with_reducible refine (is_at _ _ _ _ _ 9 _ ha).mono ?_); rintro e w12 ⟨rfl, rfl⟩; rw [ld_9]))
  go_wp2_with (go_at_call 16; ((with_reducible refine (is_at _ _ _ _ _ 0 _ ha).mono ?_); rintro e w13 ⟨rfl, rfl⟩; rw [ld_0]))
  go_ret
  exact ⟨rfl, hf10⟩
end Go.Proofs.Ythnahdoagibckaa.Li05
