/- Layer 9, law: records that are put in the other order make the same atlas. -/
import Derived.Test.YteckbcfigklkpaaAk09
import Derived.Test.YteckbcfigklkpaaGb
import Derived.StillTailTactics
namespace Go.Proofs.Yteckbcfigklkpaa.Al09
open Go.RowKit Go.Proofs.Yteckbcfigklkpaa.Pk08 Go.Proofs.Yteckbcfigklkpaa.Base Go.Proofs.Yteckbcfigklkpaa.App Go.Proofs.Yteckbcfigklkpaa.Ty Go.Proofs.Yteckbcfigklkpaa.Str Go.Proofs.Yteckbcfigklkpaa.Ky Go.Proofs.Yteckbcfigklkpaa.Bx Go.Proofs.Yteckbcfigklkpaa.Bo Go.Proofs.Yteckbcfigklkpaa.As Go.Proofs.Yteckbcfigklkpaa.Pl08 Go.Proofs.Yteckbcfigklkpaa.Kc08 Go.Proofs.Yteckbcfigklkpaa.Kd08 Go.Proofs.Yteckbcfigklkpaa.Rv Go.Proofs.Yteckbcfigklkpaa.Ra Go.Proofs.Yteckbcfigklkpaa.Rp Go.Proofs.Yteckbcfigklkpaa.Ro Go.Proofs.Yteckbcfigklkpaa.Rk Go.Proofs.Yteckbcfigklkpaa.Ab09 Go.Proofs.Yteckbcfigklkpaa.Ac09 Go.Proofs.Yteckbcfigklkpaa.Ad09 Go.Proofs.Yteckbcfigklkpaa.Af09 Go.Proofs.Yteckbcfigklkpaa.Ag09 Go.Proofs.Yteckbcfigklkpaa.Ah09 Go.Proofs.Yteckbcfigklkpaa.Ai09 Go.Proofs.Yteckbcfigklkpaa.Aj09 Go.Proofs.Yteckbcfigklkpaa.Ak09
set_option linter.unusedVariables false
set_option linter.unusedSimpArgs false
set_option maxRecDepth 8000 in
set_option maxHeartbeats 6400000 in
theorem law_any {E1 E2 : TypeId} (w : World) (d : Int) (hz : (Lit.int .i64 d).wf = true) (A : Option Addr) (n c : Nat) (x : List (recT E2).D) (h : Rd (.sl E1 (recT E2)) w x [.slice A n c]) :
    Calls Try.prog 7 #[.int .i64 d, .slice A n c] w fun e w' => e = .returned (.bool true) ∧ Fr No w w' := by
  obtain ⟨rs, hr⟩ := Rv.of_rd h
  clear h x hz
  have Hr := Lib.hid hr
  have HN := Lib.hid hr.len
  clear hr
  by_cases hd : 1 ≤ d ∧ d ≤ 6
  · have Hd := Lib.hid hd
    cases hf : fewB rs with
    | false =>
      have Hf := Lib.hid hf
      clear hf
      have mark : True := trivial
      go_enter Try.func7, Try.ntmps7
      go_wp2_with first
        | (go_at_call 8; (clear mark); ((with_reducible refine (new_ft Hd.out).mono ?_); rintro en w1 ⟨ga, rfl, ht1, hga, hf1⟩))
        | (go_at_call 8; ((with_reducible refine (new_ft Hd.out).mono ?_); rintro en w2 ⟨gb, rfl, ht2, hgb, hf2⟩))
        | (go_at_call 28; ((with_reducible refine (few_any (rs := rs) (Hr.out.no (hf1.tr hf2))).mono ?_); rintro e w3 ⟨rfl, rfl⟩; rw [Hf.out]))
        | (go_at_call 11; ((with_reducible refine (live _).mono ?_); rintro e wl ⟨rfl, hfl⟩))
        | fail
      go_ret
      exact ⟨rfl, (hf1.tr hf2).tr hfl⟩
    | true =>
      have Hf := Lib.hid hf
      have hn60 : n ≤ 60 := by have := (fewB_iff.1 hf).1; have := HN.out; omega
      clear hf
      have mark : True := trivial
      go_enter Try.func7, Try.ntmps7
      go_wp2_with first
        | (go_at_call 8; (clear mark); ((with_reducible refine (new_ft Hd.out).mono ?_); rintro en w1 ⟨ga, rfl, ht1, hga, hf1⟩))
        | (go_at_call 8; ((with_reducible refine (new_ft Hd.out).mono ?_); rintro en w2 ⟨gb, rfl, ht2, hgb, hf2⟩))
        | (go_at_call 28; ((with_reducible refine (few_any (rs := rs) (Hr.out.no (hf1.tr hf2))).mono ?_); rintro e w3 ⟨rfl, rfl⟩; rw [Hf.out]))
        | fail
      have HT := Lib.hid (Two.start ht1 ht2 hf1 hf2 hga hgb)
      clear ht1 ht2 hga hgb hf1 hf2
      go_loopw [9] (fun v wr => ∃ i : Nat, v = .int .i64 i ∧ i ≤ n ∧ Hid ((∀ a b, a < b → b < i → (rs.getD a rec0).1 ≠ (rs.getD b rec0).1) ∧ Two w wr ga gb d (PL [] (rs.take i) d) (PL [] (rs.reverse.take i) d))) (fun v _ => n - (intOf v).toNat)
      case atStart => exact ⟨0, rfl, Nat.zero_le _, Lib.hid ⟨fun a b h1 h2 => by omega, HT.out⟩⟩
      case round =>
        obtain ⟨i, rfl, hin, Hi⟩ := hrel
        by_cases hlt : i < n
        · have Hrw := Lib.hid (Hr.out.no Hi.out.2.fr)
          obtain ⟨b, off, KA, ka, rfl, a0, a1, hka, hza⟩ := Hrw.out.get i (by rw [← HN.out]; exact hlt)
          have Hka := Lib.hid hka
          clear hka
          generalize hri : rs.getD i rec0 = ri at *
          obtain ⟨ks, s⟩ := ri
          simp only at *
          have Hri := Lib.hid hri
          clear hri
          go_wp2
          go_loopw [10] (fun v wq => ∃ k : Nat, v = .int .i64 k ∧ k ≤ i ∧ Hid ((∀ a, a < k → (rs.getD a rec0).1 ≠ ks) ∧ Fr No wr wq)) (fun v _ => i - (intOf v).toNat)
          case atStart => exact ⟨0, rfl, Nat.zero_le _, Lib.hid ⟨fun a h1 => by omega, Fr.refl _ _⟩⟩
          case round =>
            obtain ⟨k, rfl, hki, Hk⟩ := hrel
            by_cases hlk : k < i
            · obtain ⟨b2, off2, KB, kb, hbb, b0, b1, hkb, hzb⟩ := (Hrw.out.no Hk.out.2).get k (by rw [← HN.out]; omega)
              injection hbb with hbb
              injection hbb with hb1 hb2
              subst hb1; subst hb2
              have a2 := cel_no a0 Hk.out.2
              have Hkb := Lib.hid hkb
              have Hkaq := Lib.hid (Hka.out.no Hk.out.2)
              clear hkb
              generalize hrk : rs.getD k rec0 = rk at *
              obtain ⟨ls, u⟩ := rk
              simp only at *
              have Hrk := Lib.hid hrk
              clear hrk
              have hkn : k < n := by omega
              cases hc : (cmp ls ks == 0) with
              | false =>
                have Hc := Lib.hid hc
                have Hne := Lib.hid (show ls ≠ ks from fun e => by subst e; rw [cmp_self] at hc; cases hc)
                clear hc
                go_wp2
                go_region_held3 (fun w' => w'.cell? ⟨b, off + i * 2, none⟩ = some (.slice KA ks.length ka) ∧ w'.cell? ⟨b, off + k * 2, none⟩ = some (.slice KB ls.length kb)) ((refine ⟨?_, ?_⟩; (repeat (first | with_reducible assumption | with_reducible refine cel_alloc ?_ _ | with_reducible refine cel_drew ?_ | with_reducible refine cel_drewN ?_ _ | with_reducible refine cel_set ?_ (by first | (simp; done) | (simp; omega)) _ | with_reducible refine cel_no ?_ (by assumption))); (repeat (first | with_reducible assumption | with_reducible refine cel_alloc ?_ _ | with_reducible refine cel_drew ?_ | with_reducible refine cel_drewN ?_ _ | with_reducible refine cel_set ?_ (by first | (simp; done) | (simp; omega)) _ | with_reducible refine cel_no ?_ (by assumption)))))
                  ((go_at_call 33; ((with_reducible refine (Go.Proofs.Yteckbcfigklkpaa.Kd08.same (a := ls) (b := ks) ?_ ?_).mono ?_); (focus ((have hk := Hkb.out); (repeat (first | with_reducible assumption | ((with_reducible refine Kv.lit_new _ _ _ _ _ _ ?_ ?_ ?_ ?_) <;> (first | (simp; done) | rfl | decide)) | with_reducible exact Kv.none_ _ | with_reducible refine Kv.alloc ?_ _ | with_reducible refine Kv.drew ?_ | with_reducible refine Kv.drewN ?_ _ | with_reducible refine Kv.no ?_ (by assumption))))); (focus ((have hk := Hkaq.out); (repeat (first | with_reducible assumption | ((with_reducible refine Kv.lit_new _ _ _ _ _ _ ?_ ?_ ?_ ?_) <;> (first | (simp; done) | rfl | decide)) | with_reducible exact Kv.none_ _ | with_reducible refine Kv.alloc ?_ _ | with_reducible refine Kv.drew ?_ | with_reducible refine Kv.drewN ?_ _ | with_reducible refine Kv.no ?_ (by assumption))))); rintro e w5 ⟨rfl, hf5⟩; rw [Hc.out])))
                go_wp2
                go_roundw
                case rel => exact ⟨k + 1, by go_num, hlk, Lib.hid ⟨fun a ha => by
                  by_cases e : a = k
                  · subst e; rw [Hrk.out]; exact Hne.out
                  · exact Hk.out.1 a (by omega), by have := Hk.out.2; (repeat (first | with_reducible exact Fr.refl _ _ | with_reducible refine Fr.setCell ?_ (.inr (by first | (simp; done) | (simp; omega))) _ | with_reducible refine Fr.alloc ?_ _ | with_reducible refine Fr.drew ?_ | with_reducible refine Fr.drewN ?_ _ | with_reducible refine Fr.tr ?_ (by assumption)))⟩⟩
                case measure => simp [intOf]; omega
              | true =>
                have Hc := Lib.hid hc
                clear hc
                go_wp2
                go_region_held3 (fun w' => w'.cell? ⟨b, off + i * 2, none⟩ = some (.slice KA ks.length ka) ∧ w'.cell? ⟨b, off + k * 2, none⟩ = some (.slice KB ls.length kb)) ((refine ⟨?_, ?_⟩; (repeat (first | with_reducible assumption | with_reducible refine cel_alloc ?_ _ | with_reducible refine cel_drew ?_ | with_reducible refine cel_drewN ?_ _ | with_reducible refine cel_set ?_ (by first | (simp; done) | (simp; omega)) _ | with_reducible refine cel_no ?_ (by assumption))); (repeat (first | with_reducible assumption | with_reducible refine cel_alloc ?_ _ | with_reducible refine cel_drew ?_ | with_reducible refine cel_drewN ?_ _ | with_reducible refine cel_set ?_ (by first | (simp; done) | (simp; omega)) _ | with_reducible refine cel_no ?_ (by assumption)))))
                  ((go_at_call 33; ((with_reducible refine (Go.Proofs.Yteckbcfigklkpaa.Kd08.same (a := ls) (b := ks) ?_ ?_).mono ?_); (focus ((have hk := Hkb.out); (repeat (first | with_reducible assumption | ((with_reducible refine Kv.lit_new _ _ _ _ _ _ ?_ ?_ ?_ ?_) <;> (first | (simp; done) | rfl | decide)) | with_reducible exact Kv.none_ _ | with_reducible refine Kv.alloc ?_ _ | with_reducible refine Kv.drew ?_ | with_reducible refine Kv.drewN ?_ _ | with_reducible refine Kv.no ?_ (by assumption))))); (focus ((have hk := Hkaq.out); (repeat (first | with_reducible assumption | ((with_reducible refine Kv.lit_new _ _ _ _ _ _ ?_ ?_ ?_ ?_) <;> (first | (simp; done) | rfl | decide)) | with_reducible exact Kv.none_ _ | with_reducible refine Kv.alloc ?_ _ | with_reducible refine Kv.drew ?_ | with_reducible refine Kv.drewN ?_ _ | with_reducible refine Kv.no ?_ (by assumption))))); rintro e w5 ⟨rfl, hf5⟩; rw [Hc.out])))
                go_wp2_with first
                  | (go_at_call 11; ((with_reducible refine (live _).mono ?_); rintro e wl ⟨rfl, hfl⟩))
                  | fail
                go_ret
                exact ⟨rfl, by have h1 := Hi.out.2.fr; have h2 := Hk.out.2; (repeat (first | with_reducible exact Fr.refl _ _ | with_reducible refine Fr.setCell ?_ (.inr (by first | (simp; done) | (simp; omega))) _ | with_reducible refine Fr.alloc ?_ _ | with_reducible refine Fr.drew ?_ | with_reducible refine Fr.drewN ?_ _ | with_reducible refine Fr.tr ?_ (by assumption)))⟩
            · obtain rfl : k = i := by omega
              obtain ⟨j, hj⟩ : ∃ j : Nat, j + 1 + k = n := ⟨n - 1 - k, by omega⟩
              have hjn : j < n := by omega
              have HT2 := Lib.hid (Hi.out.2.no Hk.out.2)
              have HFq := Lib.hid HT2.out.fr
              obtain ⟨b2, off2, KB, kb, hbb, b0, b1, hkb, hzb⟩ := Hr.out.get j (by rw [← HN.out]; exact hjn)
              injection hbb with hbb
              injection hbb with hb1 hb2
              subst hb1; subst hb2
              have a2 := cel_no a0 Hk.out.2
              have a3 := cel_no a1 Hk.out.2
              have Hkb := Lib.hid hkb
              have Hkaq := Lib.hid (Hka.out.no Hk.out.2)
              have hwj1 : IntKind.i64.wrap ((n : Int) - 1) = (n : Int) - 1 := IntWalk.i64_in _ (by omega)
              have hwj2 : IntKind.i64.wrap ((n : Int) - 1 - (k : Int)) = (j : Int) := by rw [show (n : Int) - 1 - (k : Int) = (j : Int) by omega]; exact IntWalk.i64_in _ (by omega)
              have hwj3 : wrap64 ((n : Int) - 1) = (n : Int) - 1 := IntWalk.wrap64_in _ (by omega)
              have hwj4 : wrap64 ((n : Int) - 1 - (k : Int)) = (j : Int) := by rw [show (n : Int) - 1 - (k : Int) = (j : Int) by omega]; exact IntWalk.wrap64_in _ (by omega)
              have HL1 := Lib.hid (show (PL [] (rs.take k) d).length ≤ 60 by have h1 := PL_le (d := d) (rs.take k) []; rw [List.length_take] at h1; simp only [List.length_nil] at h1; omega)
              have HL2 := Lib.hid (show (PL [] (rs.reverse.take k) d).length ≤ 60 by have h1 := PL_le (d := d) (rs.reverse.take k) []; rw [List.length_take] at h1; simp only [List.length_nil] at h1; omega)
              have HS1 := Lib.hid (show PL [] (rs.take (k + 1)) d = putL (PL [] (rs.take k) d) (ks, s) d by rw [PL_succ (by rw [← HN.out]; exact hlt), Hri.out])
              have HS2 := Lib.hid (show PL [] (rs.reverse.take (k + 1)) d = putL (PL [] (rs.reverse.take k) d) (rs.getD j rec0) d by rw [PL_succ (by rw [List.length_reverse, ← HN.out]; exact hlt), rev_getD (by rw [← HN.out]; exact hlt), show rs.length - 1 - k = j by have := HN.out; omega])
              have HD := Lib.hid (show ∀ a b, a < b → b < k + 1 → (rs.getD a rec0).1 ≠ (rs.getD b rec0).1 from fun a b h1 h2 => by
                by_cases e : b = k
                · subst e; rw [Hri.out]; exact Hk.out.1 a h1
                · exact Hi.out.1 a b h1 (by omega))
              clear hkb
              generalize rs.getD j rec0 = rj at *
              obtain ⟨ls, u⟩ := rj
              simp only at *
              generalize PL [] (rs.take k) d = ra at *
              generalize PL [] (rs.reverse.take k) d = rb at *
              have mark : True := trivial
              go_wp2_with first
                | (go_at_call 16; (clear mark); ((with_reducible refine (HT2.out.put Hkaq.out hza (by have := HL1.out; omega)).mono ?_); rintro en w3 ⟨rfl, ht3⟩; (have d0 := cel_no b0 ht3.fr); (have d1 := cel_no b1 ht3.fr)))
                | (go_at_call 16; ((with_reducible refine (ht3.put2 (Hkb.out.no ht3.fr) hzb (by have := HL2.out; omega)).mono ?_); rintro en w4 ⟨rfl, ht4⟩))
                | fail
              go_roundw
              case rel => exact ⟨k + 1, by go_num, hlt, Lib.hid ⟨HD.out, by rw [HS1.out, HS2.out]; exact ht4⟩⟩
              case measure => simp [intOf]; omega
        · obtain rfl : i = n := by omega
          have HP := Lib.hid (show rs.Pairwise (fun a b => a.1 ≠ b.1) from pair_of (fun a b h1 h2 => Hi.out.1 a b h1 (by rw [HN.out]; exact h2)))
          have HT2 := Lib.hid (show Two w wr ga gb d (PL [] rs d) (PL [] rs d) by
            have h1 := Hi.out.2
            rw [List.take_of_length_le (by rw [← HN.out]; exact Nat.le_refl _), List.take_of_length_le (by rw [List.length_reverse, ← HN.out]; exact Nat.le_refl _), PL_rev HP.out] at h1
            exact h1)
          have HS := Lib.hid HT2.out.sa.st
          have hl := HT2.out.sa.le
          have HA := Lib.hid HT2.out.sa
          have HB := Lib.hid HT2.out.symm.sa
          generalize PL [] rs d = rr at *
          clear Hi HT HP HT2
          go_wp2_with first
            | (go_at_call 26; ((with_reducible refine (all_s HA.out).mono ?_); rintro en w4 ⟨A4, n4, c4, rfl, ho4, hf4⟩))
            | fail
          have HR4 := Lib.hid ho4.rv
          obtain rfl : n4 = rr.length := HR4.out.len
          have HA4 := Lib.hid (HA.out.no hf4)
          have HB4 := Lib.hid (HB.out.no hf4)
          clear ho4 HA HB hf4
          go_loopw [12] (fun v wq => ∃ p : Nat, v = .int .i64 ((p : Int) + 1) ∧ Hid ((0 < p → p + 1 ≤ rr.length) ∧ Fr No w4 wq)) (fun v _ => rr.length + 1 - (intOf v).toNat)
          case atStart => exact ⟨0, rfl, Lib.hid ⟨fun h => by omega, Fr.refl _ _⟩⟩
          case round =>
            obtain ⟨p, rfl, Hp⟩ := hrel
            by_cases hlp : p + 1 < rr.length
            · obtain ⟨b3, off3, KA3, ka3, rfl, a0, a1, hka3, hza3⟩ := (HR4.out.no Hp.out.2).get p (by omega)
              obtain ⟨b4, off4, KB4, kb4, hbb, b0, b1, hkb4, hzb4⟩ := (HR4.out.no Hp.out.2).get (p + 1) hlp
              injection hbb with hbb
              injection hbb with hb1 hb2
              subst hb1; subst hb2
              have hc := strict_at HS.out hlp
              have Hka := Lib.hid hka3
              have Hkb := Lib.hid hkb4
              clear hka3 hkb4
              generalize rr.getD p rec0 = r1 at *
              generalize rr.getD (p + 1) rec0 = r2 at *
              obtain ⟨ks, s⟩ := r1
              obtain ⟨ls, u⟩ := r2
              simp only at *
              have hdc : decide (0 ≤ cmp ks ls) = false := decide_eq_false (by omega)
              have hwp1 : IntKind.i64.wrap (p : Int) = (p : Int) := IntWalk.i64_in _ (by omega)
              have hwp2 : wrap64 (p : Int) = (p : Int) := IntWalk.wrap64_in _ (by omega)
              have hlp2 : p < rr.length := by omega
              have hip1 : (0 : Int) ≤ (p : Int) + 1 := by omega
              have hip2 : (p : Int) + 1 < (rr.length : Int) := by omega
              have hip3 : (p : Int) < (rr.length : Int) := by omega
              go_wp2
              go_region_held3 (fun w' => w'.cell? ⟨b3, off3 + p * 2, none⟩ = some (.slice KA3 ks.length ka3) ∧ w'.cell? ⟨b3, off3 + (p + 1) * 2, none⟩ = some (.slice KB4 ls.length kb4)) ((refine ⟨?_, ?_⟩; (repeat (first | with_reducible assumption | with_reducible refine cel_alloc ?_ _ | with_reducible refine cel_drew ?_ | with_reducible refine cel_drewN ?_ _ | with_reducible refine cel_set ?_ (by first | (simp; done) | (simp; omega)) _ | with_reducible refine cel_no ?_ (by assumption))); (repeat (first | with_reducible assumption | with_reducible refine cel_alloc ?_ _ | with_reducible refine cel_drew ?_ | with_reducible refine cel_drewN ?_ _ | with_reducible refine cel_set ?_ (by first | (simp; done) | (simp; omega)) _ | with_reducible refine cel_no ?_ (by assumption)))))
                ((go_at_call 31; ((with_reducible refine (rcompare (a := ks) (b := ls) ?_ ?_).mono ?_); (focus ((have hk := Hka.out); (repeat (first | with_reducible assumption | ((with_reducible refine Kv.lit_new _ _ _ _ _ _ ?_ ?_ ?_ ?_) <;> (first | (simp; done) | rfl | decide)) | with_reducible exact Kv.none_ _ | with_reducible refine Kv.alloc ?_ _ | with_reducible refine Kv.drew ?_ | with_reducible refine Kv.drewN ?_ _ | with_reducible refine Kv.no ?_ (by assumption))))); (focus ((have hk := Hkb.out); (repeat (first | with_reducible assumption | ((with_reducible refine Kv.lit_new _ _ _ _ _ _ ?_ ?_ ?_ ?_) <;> (first | (simp; done) | rfl | decide)) | with_reducible exact Kv.none_ _ | with_reducible refine Kv.alloc ?_ _ | with_reducible refine Kv.drew ?_ | with_reducible refine Kv.drewN ?_ _ | with_reducible refine Kv.no ?_ (by assumption))))); rintro e w5 ⟨rfl, hf5⟩)))
              go_wp2
              go_roundw
              case rel => exact ⟨p + 1, by go_num, Lib.hid ⟨fun _ => by omega, by have := Hp.out.2; (repeat (first | with_reducible exact Fr.refl _ _ | with_reducible refine Fr.setCell ?_ (.inr (by first | (simp; done) | (simp; omega))) _ | with_reducible refine Fr.alloc ?_ _ | with_reducible refine Fr.drew ?_ | with_reducible refine Fr.drewN ?_ _ | with_reducible refine Fr.tr ?_ (by assumption)))⟩⟩
              case measure => simp [intOf]; omega
            · have hnl : ¬ ((p : Int) + 1 < (rr.length : Int)) := by omega
              go_wp2_with first
                | (go_at_call 26; ((with_reducible refine (all_s (HB4.out.no Hp.out.2)).mono ?_); rintro en w6 ⟨A6, n6, c6, rfl, ho6, hf6⟩))
                | (go_at_call 25; ((with_reducible refine (lS ((HR4.out.no Hp.out.2).no hf6) ho6.rv).mono ?_); rintro en w7 ⟨rfl, hf7⟩))
                | (go_at_call 27; ((with_reducible refine (len_s (((HA4.out.no Hp.out.2).no hf6).no hf7)).mono ?_); rintro en w8 ⟨rfl, rfl⟩))
                | (go_at_call 11; ((with_reducible refine (live _).mono ?_); rintro e wl ⟨rfl, hfl⟩))
                | fail
              go_ret
              exact ⟨rfl, (((HA4.out.fr.tr Hp.out.2).tr hf6).tr hf7).tr hfl⟩
  · have Hd := Lib.hid hd
    go_enter Try.func7, Try.ntmps7
    go_wp2_with first
      | (go_at_call 8; ((with_reducible refine (new_no Hd.out).mono ?_); rintro en w1 ⟨rfl, rfl⟩))
      | (go_at_call 11; ((with_reducible refine (live _).mono ?_); rintro e wl ⟨rfl, hfl⟩))
      | fail
    go_ret
    exact ⟨rfl, hfl⟩
end Go.Proofs.Yteckbcfigklkpaa.Al09
