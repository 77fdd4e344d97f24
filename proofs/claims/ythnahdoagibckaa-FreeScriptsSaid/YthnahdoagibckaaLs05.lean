/- The law FreeScripts: whatever is taken, marked and given back, the map is what the document says. -/
import Derived.Test.YthnahdoagibckaaLb05
import Derived.Deep.RegionHeld3
namespace Go.Proofs.Ythnahdoagibckaa.Ls05
open Go.RowKit Go.Proofs.Ythnahdoagibckaa.Pl05 Go.Proofs.Ythnahdoagibckaa.Pm05 Go.Proofs.Ythnahdoagibckaa.Pn05 Go.Proofs.Ythnahdoagibckaa.Base Go.Proofs.Ythnahdoagibckaa.App Go.Proofs.Ythnahdoagibckaa.Str Go.Proofs.Ythnahdoagibckaa.Ty Go.Proofs.Ythnahdoagibckaa.Fr05 Go.Proofs.Ythnahdoagibckaa.Fs05 Go.Proofs.Ythnahdoagibckaa.Fn05 Go.Proofs.Ythnahdoagibckaa.Cl05 Go.Proofs.Ythnahdoagibckaa.Fe05 Go.Proofs.Ythnahdoagibckaa.Fd05 Go.Proofs.Ythnahdoagibckaa.Li05 Go.Proofs.Ythnahdoagibckaa.Pb05 Go.Proofs.Ythnahdoagibckaa.Lb05
set_option linter.unusedVariables false
set_option linter.unusedSimpArgs false

theorem ris_b (g b : Nat) (n : Int) (bs : List Bool) (w : World) (h : Rr05.RMap w g b bs) :
    Calls Try.prog 25 #[.pointer (some ⟨g, 0, none⟩), .int .i64 n] w fun e w' => e = .returned (.bool (Fr05.isB bs n)) ∧ w = w' := by
  obtain ⟨cap, ha⟩ := h
  exact Rr05.is_at g b cap bs n w ha
theorem rmap_lt {w : World} {g b : Nat} {bs : List Bool} (h : Rr05.RMap w g b bs) : g < w.heap.size ∧ b < w.heap.size := by
  obtain ⟨cap, ha⟩ := h
  exact ha.lt
/-- What holds from round to round. -/
structure Both (w wr : World) (g b g2 b2 p : Nat) (bs : List Bool) : Prop where
  len : bs.length = p
  m : Map wr g b bs
  k : Rr05.RMap wr g2 b2 bs
  fr : Fr No w wr
theorem Both.no {w wr w1 : World} {g b g2 b2 p : Nat} {bs : List Bool} (h : Both w wr g b g2 b2 p bs) (f : Fr No wr w1) : Both w w1 g b g2 b2 p bs :=
  ⟨h.len, h.m.fr f (fun x => x) (fun x => x), h.k.fr f (fun x => x) (fun x => x), h.fr.tr f⟩
set_option maxRecDepth 8000 in
set_option maxHeartbeats 3200000 in
theorem law (w : World) (p : Int) (hp : (Lit.int .i64 p).wf = true) (f : Int) (hf : (Lit.int .i64 f).wf = true) {E : TypeId} (A' : Option Addr) (n' c' : Nat) (xs : List op.D) (h : Rd (.sl E op) w xs [.slice A' n' c']) :
    Calls Try.prog 6 #[.int .i64 p, .int .i64 f, .slice A' n' c'] w fun e w' => e = .returned (.bool true) ∧ Fr No w w' := by
  by_cases hn : newOk p f
  · obtain ⟨p, rfl⟩ := Int.eq_ofNat_of_zero_le (show 0 ≤ p by have := hn.1; omega)
    obtain ⟨f, rfl⟩ := Int.eq_ofNat_of_zero_le hn.2.2.1
    have hlen := h.slice.2.1
    have hcap := h.slice.2.2.1
    have Hh := Lib.hid h
    clear h hp hf
    go_enter Try.func6, Try.ntmps6
    go_wp2_with (go_at_call 14; ((with_reducible refine (new_ok _ _ _ hn).mono ?_); rintro e w1 ⟨g, b, rfl, hm1, hg1, hb1, hf1⟩))
    obtain ⟨hgl, hbl⟩ := map_lt hm1
    have hs1 := hf1.size
    go_wp2_with (go_at_call 19; ((with_reducible refine (Rn05.rnew_ok _ _ _ hn).mono ?_); rintro e w2 ⟨g2, b2, rfl, hr2, hg2, hb2, hf2⟩; have hm2 := hm1.fr hf2 (fun x => x) (fun x => x); replace hf2 := hf1.tr hf2; clear hm1 hf1))
    go_loopw [11] (fun v wr => ∃ (i : Nat) (bs : List Bool), i ≤ n' ∧ i ≤ 100 ∧ v = .int .i64 i ∧ Hid (Both w wr g b g2 b2 p bs)) (fun v _ => 100 - (intOf v).toNat)
    case atStart => exact ⟨0, _, Nat.zero_le _, Nat.zero_le _, rfl, Lib.hid ⟨newB_len _ _, hm2, hr2, hf2⟩⟩
    case round =>
      obtain ⟨i, bs, hi1, hi2, rfl, Hi⟩ := hrel
      clear hm2 hr2 hf2
      by_cases hlt : i < n' ∧ i < 100
      · obtain ⟨hlt1, hlt2⟩ := hlt
        obtain ⟨sb, so, d, k, rfl, c0, c1⟩ := op_at (Hh.out.fr Hi.out.fr) i hlt1
        have hO0 : Ob (wr.alloc (.cells #[.int .i64 d, .int .i64 k] 41)) wr.heap.size #[.int .i64 d, .int .i64 k] 41 := Ob.new _ _ _
        have hB0 : Both w (wr.alloc (.cells #[.int .i64 d, .int .i64 k] 41)) g b g2 b2 p bs := Hi.out.no ((Fr.refl No wr).alloc _)
        obtain ⟨hgw, hbw⟩ := map_lt Hi.out.m
        obtain ⟨hgw2, hbw2⟩ := rmap_lt Hi.out.k
        clear Hi
        go_wp2_with (go_at_call 20; ((with_reducible refine (Re05.rencode_at _ _ _ _ hB0.k).mono ?_); rintro e w3 ⟨rfl, hf3⟩; have hB3 := hB0.no hf3; have hO3 := hO0.fr hf3 (fun x => x); have hz3 := hf3.size; clear hB0 hO0 c0 c1))
        have hz3' : wr.heap.size < w3.heap.size := hO3.lt
        generalize hS : encS bs = S at *
        have HS := Lib.hid hS
        clear hS
        by_cases hd0 : d = 0
        · subst hd0
          go_wp2_with (go_at_call 21; ((with_reducible refine (copy_at _ _ _ _ hB3.m).mono ?_); rintro e w4 ⟨g5, b5, rfl, hx4, hg5, hb5, hf4⟩; have hB4 := hB3.no hf4; have hO4 := hO3.fr hf4 (fun x => x); have d0 : w4.cell? ⟨wr.heap.size, 0, none⟩ = some (.int .i64 0) := hO4.cell 0 rfl; clear hB3 hO3; have hne1 : g5 ≠ b ∧ b5 ≠ b ∧ g5 ≠ b2 ∧ b5 ≠ b2 ∧ wr.heap.size ≠ b ∧ wr.heap.size ≠ b2 ∧ g2 ≠ b ∧ b2 ≠ b ∧ g ≠ b2 := (by omega); obtain ⟨x1, x2, x3, x4, x5, x6, x7, x8, x9⟩ := hne1; have hlen4 := hB4.len))
          go_wp2_with (go_at_call 15; ((with_reducible refine (take_at _ _ _ _ hB4.m).mono ?_); rintro e w5 ⟨rfl, hm5, hf5⟩; have hr5 := hB4.k.fr hf5 (fun (x : g2 = b) => x7 x) (fun (x : b2 = b) => x8 x); have hx5 := hx4.fr hf5 (fun (x : g5 = b) => x1 x) (fun (x : b5 = b) => x2 x); have hO5 := hO4.fr hf5 (fun (x : wr.heap.size = b) => x5 x); have hF5 : Fr No w w5 := hB4.fr.trans hf5 (fun k hk => .inr (by omega))))
          go_wp2_with (go_at_call 22; ((with_reducible refine (Rr05.take_at _ _ _ _ hr5).mono ?_); rintro e w6 ⟨rfl, hr6, hf6⟩; have hm6 := hm5.fr hf6 (fun (x : g = b2) => x9 x) (fun (x : b = b2) => x8 x.symm); have hx6 := hx5.fr hf6 (fun (x : g5 = b2) => x3 x) (fun (x : b5 = b2) => x4 x); have hO6 := hO5.fr hf6 (fun (x : wr.heap.size = b2) => x6 x); have hF6 : Fr No w w6 := hF5.trans hf6 (fun k hk => .inr (by omega))))
          generalize hcs : takeB bs = cs at *
          have hB6 : Both w w6 g b g2 b2 p cs := ⟨by rw [← hcs, takeB_len]; exact hlen4, hm6, hr6, hF6⟩
          clear hcs hm6 hr6 hF6 hm5 hr5 hx5 hO5 hF5 hB4 hx4 hO4
          have s6 : w6.drew.cell? ⟨wr.heap.size, 1, none⟩ = some (.int .i64 k) := (hO6.fr ((Fr.refl No w6).drew) (fun x => x)).cell 1 rfl
          have hB6d : Both w w6.drew g b g2 b2 p cs := hB6.no ((Fr.refl No w6).drew)
          have hx6d := hx6.fr ((Fr.refl No w6).drew) (fun x => x) (fun x => x)
          have hO6d := hO6.fr ((Fr.refl No w6).drew) (fun x => x)
          go_region_held3 (fun w' => w'.cell? ⟨wr.heap.size, 1, none⟩ = some (.int .i64 k)) (assumption)
            (first
              | (go_at_call 11; ((with_reducible refine (encode_at _ _ _ _ hB6d.m).mono ?_); rintro e w7 ⟨rfl, hf7⟩; have hB7 := hB6d.no hf7; have hx7 := hx6d.fr hf7 (fun x => x) (fun x => x); have hO7 := hO6d.fr hf7 (fun x => x); have s7 : w7.cell? ⟨wr.heap.size, 1, none⟩ = some (.int .i64 k) := hO7.cell 1 rfl))
              | (go_at_call 20; ((with_reducible refine (Re05.rencode_at _ _ _ _ hB7.k).mono ?_); rintro e w8 ⟨rfl, hf8⟩; have hB8 := hB7.no hf8; have hx8 := hx7.fr hf8 (fun x => x) (fun x => x); have hO8 := hO7.fr hf8 (fun x => x); have s8 : w8.cell? ⟨wr.heap.size, 1, none⟩ = some (.int .i64 k) := hO8.cell 1 rfl))
              | (go_at_call 12; ((with_reducible refine (left_at _ _ _ _ hB8.m).mono ?_); rintro e w9 ⟨rfl, rfl⟩))
              | (go_at_call 13; ((with_reducible refine (Rr05.left_at _ _ _ _ hB8.k).mono ?_); rintro e w9 ⟨rfl, rfl⟩))
              | (go_at_call 16; ((with_reducible refine (is_b _ _ _ _ _ _ hB8.m rfl).mono ?_); rintro e w9 ⟨rfl, rfl⟩))
              | (go_at_call 25; ((with_reducible refine (ris_b _ _ _ _ _ hB8.k).mono ?_); rintro e w9 ⟨rfl, rfl⟩))
              | (go_at_call 11; ((with_reducible refine (encode_at _ _ _ _ hx8).mono ?_); rintro e w10 ⟨rfl, hf10⟩; rw [HS.out]; have hB10 := hB8.no hf10; have s10 : w10.cell? ⟨wr.heap.size, 1, none⟩ = some (.int .i64 k) := (hO8.fr hf10 (fun x => x)).cell 1 rfl)))
          all_goals
            have HB10 := Lib.hid hB10
            clear hf7 hB7 hx7 hO7 s7 hf8 hB8 hx8 hO8 s8 hf10 hB10 s10 hB6 s6 hB6d hx6d hO6d hf5 hf6 hx6 hO6 x1 x2 x3 x4 x5 x6 x7 x8 x9 hlen4
            go_wp2
            go_roundw
            case rel => exact ⟨i + 1, cs, by omega, by omega, by go_num, HB10⟩
            case measure => simp [intOf]; omega
        · by_cases hd1 : d = 1
          · subst hd1
            clear hd0
            go_wp2_with (go_at_call 21; ((with_reducible refine (copy_at _ _ _ _ hB3.m).mono ?_); rintro e w4 ⟨g5, b5, rfl, hx4, hg5, hb5, hf4⟩; have hB4 := hB3.no hf4; have hO4 := hO3.fr hf4 (fun x => x); have d0 : w4.cell? ⟨wr.heap.size, 0, none⟩ = some (.int .i64 1) := hO4.cell 0 rfl; clear hB3 hO3; have hne1 : g5 ≠ b ∧ b5 ≠ b ∧ g5 ≠ b2 ∧ b5 ≠ b2 ∧ wr.heap.size ≠ b ∧ wr.heap.size ≠ b2 ∧ g2 ≠ b ∧ b2 ≠ b ∧ g ≠ b2 := (by omega); obtain ⟨x1, x2, x3, x4, x5, x6, x7, x8, x9⟩ := hne1; have hlen4 := hB4.len))
            have s4 : w4.drew.cell? ⟨wr.heap.size, 1, none⟩ = some (.int .i64 k) := (hO4.fr ((Fr.refl No w4).drew) (fun x => x)).cell 1 rfl
            have hB4d : Both w w4.drew g b g2 b2 p bs := hB4.no ((Fr.refl No w4).drew)
            have hx4d := hx4.fr ((Fr.refl No w4).drew) (fun x => x) (fun x => x)
            have hO4d := hO4.fr ((Fr.refl No w4).drew) (fun x => x)
            go_region_held3 (fun w' => w'.cell? ⟨wr.heap.size, 1, none⟩ = some (.int .i64 k)) (assumption)
              (first
                | (go_at_call 18; ((with_reducible refine (mark_at _ _ _ _ _ hB4d.m).mono ?_); rintro e w5 ⟨rfl, hm5, hf5⟩; have hr5 := hB4d.k.fr hf5 (fun (x : g2 = b) => x7 x) (fun (x : b2 = b) => x8 x); have hx5 := hx4d.fr hf5 (fun (x : g5 = b) => x1 x) (fun (x : b5 = b) => x2 x); have hO5 := hO4d.fr hf5 (fun (x : wr.heap.size = b) => x5 x); have hF5 : Fr No w w5 := hB4d.fr.trans hf5 (fun k hk => .inr (by omega)); have s5 : w5.cell? ⟨wr.heap.size, 1, none⟩ = some (.int .i64 k) := hO5.cell 1 rfl))
                | (go_at_call 23; ((with_reducible refine (Rr05.mark_at _ _ _ _ _ hr5).mono ?_); rintro e w6 ⟨rfl, hr6, hf6⟩; have hm6 := hm5.fr hf6 (fun (x : g = b2) => x9 x) (fun (x : b = b2) => x8 x.symm); have hx6 := hx5.fr hf6 (fun (x : g5 = b2) => x3 x) (fun (x : b5 = b2) => x4 x); have hO6 := hO5.fr hf6 (fun (x : wr.heap.size = b2) => x6 x); have hF6 : Fr No w w6 := hF5.trans hf6 (fun k hk => .inr (by omega)); have s6' : w6.cell? ⟨wr.heap.size, 1, none⟩ = some (.int .i64 k) := hO6.cell 1 rfl)))
            go_wp2
            generalize hcs : markB bs k = cs at *
            have hB6 : Both w w6 g b g2 b2 p cs := ⟨by rw [← hcs, markB_len]; exact hlen4, hm6, hr6, hF6⟩
            clear hcs hm6 hr6 hF6 hm5 hr5 hx5 hO5 hF5 hB4 hx4 hO4 s4 hB4d hx4d hO4d s5 s6'
            have s6 : w6.drew.cell? ⟨wr.heap.size, 1, none⟩ = some (.int .i64 k) := (hO6.fr ((Fr.refl No w6).drew) (fun x => x)).cell 1 rfl
            have hB6d : Both w w6.drew g b g2 b2 p cs := hB6.no ((Fr.refl No w6).drew)
            have hx6d := hx6.fr ((Fr.refl No w6).drew) (fun x => x) (fun x => x)
            have hO6d := hO6.fr ((Fr.refl No w6).drew) (fun x => x)
            go_region_held3 (fun w' => w'.cell? ⟨wr.heap.size, 1, none⟩ = some (.int .i64 k)) (assumption)
              (first
                | (go_at_call 11; ((with_reducible refine (encode_at _ _ _ _ hB6d.m).mono ?_); rintro e w7 ⟨rfl, hf7⟩; have hB7 := hB6d.no hf7; have hx7 := hx6d.fr hf7 (fun x => x) (fun x => x); have hO7 := hO6d.fr hf7 (fun x => x); have s7 : w7.cell? ⟨wr.heap.size, 1, none⟩ = some (.int .i64 k) := hO7.cell 1 rfl))
                | (go_at_call 20; ((with_reducible refine (Re05.rencode_at _ _ _ _ hB7.k).mono ?_); rintro e w8 ⟨rfl, hf8⟩; have hB8 := hB7.no hf8; have hx8 := hx7.fr hf8 (fun x => x) (fun x => x); have hO8 := hO7.fr hf8 (fun x => x); have s8 : w8.cell? ⟨wr.heap.size, 1, none⟩ = some (.int .i64 k) := hO8.cell 1 rfl))
                | (go_at_call 12; ((with_reducible refine (left_at _ _ _ _ hB8.m).mono ?_); rintro e w9 ⟨rfl, rfl⟩))
                | (go_at_call 13; ((with_reducible refine (Rr05.left_at _ _ _ _ hB8.k).mono ?_); rintro e w9 ⟨rfl, rfl⟩))
                | (go_at_call 16; ((with_reducible refine (is_b _ _ _ _ _ _ hB8.m rfl).mono ?_); rintro e w9 ⟨rfl, rfl⟩))
                | (go_at_call 25; ((with_reducible refine (ris_b _ _ _ _ _ hB8.k).mono ?_); rintro e w9 ⟨rfl, rfl⟩))
                | (go_at_call 11; ((with_reducible refine (encode_at _ _ _ _ hx8).mono ?_); rintro e w10 ⟨rfl, hf10⟩; rw [HS.out]; have hB10 := hB8.no hf10; have s10 : w10.cell? ⟨wr.heap.size, 1, none⟩ = some (.int .i64 k) := (hO8.fr hf10 (fun x => x)).cell 1 rfl)))
            all_goals
              have HB10 := Lib.hid hB10
              clear hf7 hB7 hx7 hO7 s7 hf8 hB8 hx8 hO8 s8 hf10 hB10 s10 hB6 s6 hB6d hx6d hO6d hf5 hf6 hx6 hO6 x1 x2 x3 x4 x5 x6 x7 x8 x9 hlen4
              go_wp2
              go_roundw
              case rel => exact ⟨i + 1, cs, by omega, by omega, by go_num, HB10⟩
              case measure => simp [intOf]; omega
          · have hd2 : (d == 0) = false := beq_eq_false_iff_ne.2 hd0
            have hd3 : (d == 1) = false := beq_eq_false_iff_ne.2 hd1
            go_wp2_with (go_at_call 21; ((with_reducible refine (copy_at _ _ _ _ hB3.m).mono ?_); rintro e w4 ⟨g5, b5, rfl, hx4, hg5, hb5, hf4⟩; have hB4 := hB3.no hf4; have hO4 := hO3.fr hf4 (fun x => x); have d0 : w4.cell? ⟨wr.heap.size, 0, none⟩ = some (.int .i64 d) := hO4.cell 0 rfl; clear hB3 hO3; have hne1 : g5 ≠ b ∧ b5 ≠ b ∧ g5 ≠ b2 ∧ b5 ≠ b2 ∧ wr.heap.size ≠ b ∧ wr.heap.size ≠ b2 ∧ g2 ≠ b ∧ b2 ≠ b ∧ g ≠ b2 := (by omega); obtain ⟨x1, x2, x3, x4, x5, x6, x7, x8, x9⟩ := hne1; have hlen4 := hB4.len))
            have s4 : w4.drew.cell? ⟨wr.heap.size, 1, none⟩ = some (.int .i64 k) := (hO4.fr ((Fr.refl No w4).drew) (fun x => x)).cell 1 rfl
            have hB4d : Both w w4.drew g b g2 b2 p bs := hB4.no ((Fr.refl No w4).drew)
            have hx4d := hx4.fr ((Fr.refl No w4).drew) (fun x => x) (fun x => x)
            have hO4d := hO4.fr ((Fr.refl No w4).drew) (fun x => x)
            go_region_held3 (fun w' => w'.cell? ⟨wr.heap.size, 1, none⟩ = some (.int .i64 k)) (assumption)
              (first
                | (go_at_call 17; ((with_reducible refine (give_at _ _ _ _ _ hB4d.m).mono ?_); rintro e w5 ⟨rfl, hm5, hf5⟩; have hr5 := hB4d.k.fr hf5 (fun (x : g2 = b) => x7 x) (fun (x : b2 = b) => x8 x); have hx5 := hx4d.fr hf5 (fun (x : g5 = b) => x1 x) (fun (x : b5 = b) => x2 x); have hO5 := hO4d.fr hf5 (fun (x : wr.heap.size = b) => x5 x); have hF5 : Fr No w w5 := hB4d.fr.trans hf5 (fun k hk => .inr (by omega)); have s5 : w5.cell? ⟨wr.heap.size, 1, none⟩ = some (.int .i64 k) := hO5.cell 1 rfl))
                | (go_at_call 24; ((with_reducible refine (Rr05.give_at _ _ _ _ _ hr5).mono ?_); rintro e w6 ⟨rfl, hr6, hf6⟩; have hm6 := hm5.fr hf6 (fun (x : g = b2) => x9 x) (fun (x : b = b2) => x8 x.symm); have hx6 := hx5.fr hf6 (fun (x : g5 = b2) => x3 x) (fun (x : b5 = b2) => x4 x); have hO6 := hO5.fr hf6 (fun (x : wr.heap.size = b2) => x6 x); have hF6 : Fr No w w6 := hF5.trans hf6 (fun k hk => .inr (by omega)); have s6' : w6.cell? ⟨wr.heap.size, 1, none⟩ = some (.int .i64 k) := hO6.cell 1 rfl)))
            go_wp2
            generalize hcs : giveB bs k = cs at *
            have hB6 : Both w w6 g b g2 b2 p cs := ⟨by rw [← hcs, giveB_len]; exact hlen4, hm6, hr6, hF6⟩
            clear hcs hm6 hr6 hF6 hm5 hr5 hx5 hO5 hF5 hB4 hx4 hO4 s4 hB4d hx4d hO4d s5 s6'
            have s6 : w6.drew.cell? ⟨wr.heap.size, 1, none⟩ = some (.int .i64 k) := (hO6.fr ((Fr.refl No w6).drew) (fun x => x)).cell 1 rfl
            have hB6d : Both w w6.drew g b g2 b2 p cs := hB6.no ((Fr.refl No w6).drew)
            have hx6d := hx6.fr ((Fr.refl No w6).drew) (fun x => x) (fun x => x)
            have hO6d := hO6.fr ((Fr.refl No w6).drew) (fun x => x)
            go_region_held3 (fun w' => w'.cell? ⟨wr.heap.size, 1, none⟩ = some (.int .i64 k)) (assumption)
              (first
                | (go_at_call 11; ((with_reducible refine (encode_at _ _ _ _ hB6d.m).mono ?_); rintro e w7 ⟨rfl, hf7⟩; have hB7 := hB6d.no hf7; have hx7 := hx6d.fr hf7 (fun x => x) (fun x => x); have hO7 := hO6d.fr hf7 (fun x => x); have s7 : w7.cell? ⟨wr.heap.size, 1, none⟩ = some (.int .i64 k) := hO7.cell 1 rfl))
                | (go_at_call 20; ((with_reducible refine (Re05.rencode_at _ _ _ _ hB7.k).mono ?_); rintro e w8 ⟨rfl, hf8⟩; have hB8 := hB7.no hf8; have hx8 := hx7.fr hf8 (fun x => x) (fun x => x); have hO8 := hO7.fr hf8 (fun x => x); have s8 : w8.cell? ⟨wr.heap.size, 1, none⟩ = some (.int .i64 k) := hO8.cell 1 rfl))
                | (go_at_call 12; ((with_reducible refine (left_at _ _ _ _ hB8.m).mono ?_); rintro e w9 ⟨rfl, rfl⟩))
                | (go_at_call 13; ((with_reducible refine (Rr05.left_at _ _ _ _ hB8.k).mono ?_); rintro e w9 ⟨rfl, rfl⟩))
                | (go_at_call 16; ((with_reducible refine (is_b _ _ _ _ _ _ hB8.m rfl).mono ?_); rintro e w9 ⟨rfl, rfl⟩))
                | (go_at_call 25; ((with_reducible refine (ris_b _ _ _ _ _ hB8.k).mono ?_); rintro e w9 ⟨rfl, rfl⟩))
                | (go_at_call 11; ((with_reducible refine (encode_at _ _ _ _ hx8).mono ?_); rintro e w10 ⟨rfl, hf10⟩; rw [HS.out]; have hB10 := hB8.no hf10; have s10 : w10.cell? ⟨wr.heap.size, 1, none⟩ = some (.int .i64 k) := (hO8.fr hf10 (fun x => x)).cell 1 rfl)))
            all_goals
              have HB10 := Lib.hid hB10
              clear hf7 hB7 hx7 hO7 s7 hf8 hB8 hx8 hO8 s8 hf10 hB10 s10 hB6 s6 hB6d hx6d hO6d hf5 hf6 hx6 hO6 x1 x2 x3 x4 x5 x6 x7 x8 x9 hlen4
              go_wp2
              go_roundw
              case rel => exact ⟨i + 1, cs, by omega, by omega, by go_num, HB10⟩
              case measure => simp [intOf]; omega
      · have hno : ¬ ((i : Int) < n' ∧ (i : Int) < 100) := fun x => hlt (by omega)
        clear hlt
        have hor : ¬ (i : Int) < n' ∨ ((i : Int) < n' ∧ ¬ (i : Int) < 100) := by omega
        clear hno
        rcases hor with hor | ⟨hor, hor2⟩
        all_goals
          go_wp2_with (go_at_call 8; ((with_reducible refine (live _).mono ?_); rintro e w5 ⟨rfl, hf5⟩))
          go_ret
          exact ⟨rfl, Hi.out.fr.tr hf5⟩
  · go_enter Try.func6, Try.ntmps6
    go_wp2_with (first
      | (go_at_call 14; ((with_reducible refine (new_bad _ _ _ hn).mono ?_); rintro e w1 ⟨rfl, rfl⟩))
      | (go_at_call 19; ((with_reducible refine (Rn05.rnew_bad _ _ _ hn).mono ?_); rintro e w1 ⟨rfl, rfl⟩)))
    go_loop [11] (fun v => v = .int .i64 0) (fun _ => 0)
    case atStart => rfl
    case round =>
      obtain rfl := hrel
      by_cases h0 : 0 < n'
      · go_wp2_with (go_at_call 8; ((with_reducible refine (live _).mono ?_); rintro e w5 ⟨rfl, hf5⟩))
        go_ret
        exact ⟨rfl, hf5⟩
      · go_wp2_with (go_at_call 8; ((with_reducible refine (live _).mono ?_); rintro e w5 ⟨rfl, hf5⟩))
        go_ret
        exact ⟨rfl, hf5⟩
end Go.Proofs.Ythnahdoagibckaa.Ls05
