/- Layer 8's law KeyPartial. -/
import Derived.Test.YthiolmdmdmimeaaKv08
import Derived.Test.YthiolmdmdmimeaaKa08
import Derived.Deep.LoopGhost
import Derived.BigRegion
namespace Go.Proofs.Ythiolmdmdmimeaa.Kg2
open Go.RowKit Go.Proofs.Ythiolmdmdmimeaa.Pk08 Go.Proofs.Ythiolmdmdmimeaa.Pq08 Go.Proofs.Ythiolmdmdmimeaa.Pl08 Go.Proofs.Ythiolmdmdmimeaa.Pm08 Go.Proofs.Ythiolmdmdmimeaa.Base Go.Proofs.Ythiolmdmdmimeaa.App Go.Proofs.Ythiolmdmdmimeaa.Str Go.Proofs.Ythiolmdmdmimeaa.Ty Go.Proofs.Ythiolmdmdmimeaa.Ky Go.Proofs.Ythiolmdmdmimeaa.Iv Go.Proofs.Ythiolmdmdmimeaa.Kc08 Go.Proofs.Ythiolmdmdmimeaa.Kd08 Go.Proofs.Ythiolmdmdmimeaa.Ke08 Go.Proofs.Ythiolmdmdmimeaa.Ki08 Go.Proofs.Ythiolmdmdmimeaa.Kj08 Go.Proofs.Ythiolmdmdmimeaa.Kr08 Go.Proofs.Ythiolmdmdmimeaa.Ks08 Go.Proofs.Ythiolmdmdmimeaa.Kt08 Go.Proofs.Ythiolmdmdmimeaa.Ku08 Go.Proofs.Ythiolmdmdmimeaa.Kv08 Go.Proofs.Ythiolmdmdmimeaa.Ka08
set_option linter.unusedVariables false
set_option linter.unusedSimpArgs false
attribute [local irreducible] cmp leL bitsK
abbrev someT (E1 E2 E3 : TypeId) : Ty := .cn (.int .i64) (.cn (.sl E1 (.int .i64)) (.cn (.sl E2 (.int .u32)) (.cn (.sl E3 (.int .u32)) .nl)))
theorem rd_some {E1 E2 E3 : TypeId} {w : World} {x : (someT E1 E2 E3).D} {cs : Array Value} (h : Rd (someT E1 E2 E3) w x cs.toList) :
    ∃ (d : Int) (A : Option Addr) (n c : Nat) (B : Option Addr) (m b : Nat) (C : Option Addr) (p q : Nat) (xs : List Int) (ks ps : List Nat), cs = #[.int .i64 d, .slice A n c, .slice B m b, .slice C p q] ∧ (Lit.int .i64 d).wf = true ∧ Iv w A n c xs ∧ Kv w B m b ks ∧ Kv w C p q ps := by
  obtain ⟨c1, c2, hc, ⟨h1, hw⟩, c3, c4, rfl, h2, c5, c6, rfl, h3, c7, c8, rfl, h4, h5⟩ := h
  have h5' : c8 = [] := h5
  subst h5'; subst h1
  have h2' := h2
  have h3' := h3
  have h4' := h4
  obtain ⟨A, c, rfl, _⟩ := h2'
  obtain ⟨B, b, rfl, _⟩ := h3'
  obtain ⟨C, q, rfl, _⟩ := h4'
  refine ⟨_, A, _, c, B, _, b, C, _, q, _, _, _, ?_, hw, Iv.of_rd h2, Kv.of_rd h3, Kv.of_rd h4⟩
  rw [← Array.toArray_toList (xs := cs), hc]
  rfl
set_option maxHeartbeats 3200000 in
theorem law_partial {E1 E2 E3 : TypeId} (w : World) (cs : Array Value) (x : (someT E1 E2 E3).D) (h : Rd (someT E1 E2 E3) w x cs.toList) :
    Calls Try.prog 5 #[.agg cs] w fun e w' => e = .returned (.bool true) ∧ Fr No w w' := by
  obtain ⟨d, A, n, c, B, m, b, C, p, q, xs, ks, ps, rfl, hd, hx, hk, hp⟩ := rd_some h
  clear h x
  have hO : Ob (w.alloc (.cells #[.int .i64 d, .slice A n c, .slice B m b, .slice C p q] 42)) w.heap.size #[.int .i64 d, .slice A n c, .slice B m b, .slice C p q] 42 := by (repeat (first | with_reducible assumption | ((with_reducible refine Ob.new_ _ _ _ _ ?_) <;> (simp; done)) | with_reducible refine Ob.alloc ?_ _ | with_reducible refine Ob.drew ?_ | with_reducible refine Ob.drewN ?_ _ | with_reducible refine Ob.no ?_ (by assumption)))
  have c0 := hO.cell 0 (v := .int .i64 d) rfl
  have c1 := hO.cell 1 (v := .slice A n c) rfl
  have c2 := hO.cell 2 (v := .slice B m b) rfl
  have c3 := hO.cell 3 (v := .slice C p q) rfl
  clear hO
  by_cases h20 : 20 < n
  · go_enter Try.func5, Try.ntmps5
    go_wp2
    go_quiet (fail)
    go_wp2_with (first
      | (go_at_call 11; ((with_reducible refine (live _).mono ?_); rintro e wl ⟨rfl, hfl⟩)))
    go_ret
    refine ⟨rfl, ?_⟩
    (repeat (first | with_reducible exact Fr.refl _ _ | with_reducible refine Fr.alloc ?_ _ | with_reducible refine Fr.drew ?_ | with_reducible refine Fr.drewN ?_ _ | with_reducible refine Fr.tr ?_ (by assumption)))
  · have h20' : decide (20 < n) = false := decide_eq_false h20
    cases hs : sh2 m p with
    | false =>
      go_enter Try.func5, Try.ntmps5
      go_wp2
      go_quiet (fail)
      go_wp2_with (first
        | (go_at_call 10; ((with_reducible refine (short2 (A := B) (n := m) (c := b) (B := C) (m := p) (d := q) ?_).mono ?_); (repeat (first | with_reducible assumption | ((with_reducible refine Ob.new_ _ _ _ _ ?_) <;> (simp; done)) | with_reducible refine Ob.alloc ?_ _ | with_reducible refine Ob.drew ?_ | with_reducible refine Ob.drewN ?_ _ | with_reducible refine Ob.no ?_ (by assumption))); rintro e w1 ⟨rfl, rfl⟩; rw [hs]))
        | (go_at_call 11; ((with_reducible refine (live _).mono ?_); rintro e wl ⟨rfl, hfl⟩)))
      go_ret
      refine ⟨rfl, ?_⟩
      (repeat (first | with_reducible exact Fr.refl _ _ | with_reducible refine Fr.alloc ?_ _ | with_reducible refine Fr.drew ?_ | with_reducible refine Fr.drewN ?_ _ | with_reducible refine Fr.tr ?_ (by assumption)))
    | true =>
      rcases pE_rng d xs ks with he | he
      · have Hin := Lib.hid (pE_in he)
        have Hxl := Lib.hid hx.len
        have Hpl := Lib.hid hp.len
        by_cases hpd : (p : Int) = d
        · have Hpd := Lib.hid hpd
          have hpd1 : ((p : Int) != d) = false := by rw [hpd]; simp
          have he0 := Lib.hid he
          have Hip := Lib.hid (show inB ps (pLo d xs ks) (pHi d xs ks) = hasP xs ks ps xs.length by
            unfold pLo pHi
            rw [if_pos Hin.out.1, if_pos Hin.out.1]
            exact in_partial (by have := Hin.out.1.1; have := Hpl.out; omega) hp.lt Hin.out.2)
          have Hiw := Lib.hid (show inB ps (wLo d) (wHi d) = true by
            have h1 := Hin.out.1
            rw [wLo_in ⟨h1.1, h1.2.1⟩, wHi_in ⟨h1.1, h1.2.1⟩]
            exact in_whole (by have := Hpl.out; omega) hp.lt)
          clear hpd he
          go_enter Try.func5, Try.ntmps5
          go_wp2
          go_quiet (fail)
          go_wp2_with (go_at_call 10; ((with_reducible refine (short2 (A := B) (n := m) (c := b) (B := C) (m := p) (d := q) ?_).mono ?_); (repeat (first | with_reducible assumption | ((with_reducible refine Ob.new_ _ _ _ _ ?_) <;> (simp; done)) | with_reducible refine Ob.alloc ?_ _ | with_reducible refine Ob.drew ?_ | with_reducible refine Ob.drewN ?_ _ | with_reducible refine Ob.no ?_ (by assumption))); rintro e w1 ⟨rfl, rfl⟩; rw [hs]))
          go_wp2_with (go_at_call 25; ((with_reducible refine (partial_any (xs := xs) (ks := ks) _ ?_ ?_).mono ?_); (repeat (first | with_reducible assumption | ((with_reducible refine Iv.lit_new _ _ _ _ _ _ ?_ ?_ ?_ ?_) <;> (first | (simp; done) | rfl | decide)) | with_reducible exact Iv.none_ _ | with_reducible refine Iv.alloc ?_ _ | with_reducible refine Iv.drew ?_ | with_reducible refine Iv.drewN ?_ _ | with_reducible refine Iv.no ?_ (by assumption))); (repeat (first | with_reducible assumption | ((with_reducible refine Kv.lit_new _ _ _ _ _ _ ?_ ?_ ?_ ?_) <;> (first | (simp; done) | rfl | decide)) | with_reducible exact Kv.none_ _ | with_reducible refine Kv.alloc ?_ _ | with_reducible refine Kv.drew ?_ | with_reducible refine Kv.drewN ?_ _ | with_reducible refine Kv.no ?_ (by assumption))); rintro e w2 ⟨A2, p2, q2, B2, m2, n2, rfl, hl2, hh2, hf2⟩; rw [he0.out]))
          go_wp2_with (go_at_call 26; ((with_reducible refine (rpartial_any (xs := xs) (ks := ks) _ ?_ ?_).mono ?_); (repeat (first | with_reducible assumption | ((with_reducible refine Iv.lit_new _ _ _ _ _ _ ?_ ?_ ?_ ?_) <;> (first | (simp; done) | rfl | decide)) | with_reducible exact Iv.none_ _ | with_reducible refine Iv.alloc ?_ _ | with_reducible refine Iv.drew ?_ | with_reducible refine Iv.drewN ?_ _ | with_reducible refine Iv.no ?_ (by assumption))); (repeat (first | with_reducible assumption | ((with_reducible refine Kv.lit_new _ _ _ _ _ _ ?_ ?_ ?_ ?_) <;> (first | (simp; done) | rfl | decide)) | with_reducible exact Kv.none_ _ | with_reducible refine Kv.alloc ?_ _ | with_reducible refine Kv.drew ?_ | with_reducible refine Kv.drewN ?_ _ | with_reducible refine Kv.no ?_ (by assumption))); rintro e w3 ⟨A3, p3, q3, B3, m3, n3, rfl, hl3, hh3, hf3⟩; rw [he0.out]; obtain ⟨ya3a, ya3b, ya3l, ya3m, ya3n, ya3o, ya3p, ya3q⟩ := (show Ob w3 w2.heap.size #[.slice A2 p2 q2, .slice B2 m2 n2] 33 by (repeat (first | with_reducible assumption | ((with_reducible refine Ob.new_ _ _ _ _ ?_) <;> (simp; done)) | with_reducible refine Ob.alloc ?_ _ | with_reducible refine Ob.drew ?_ | with_reducible refine Ob.drewN ?_ _ | with_reducible refine Ob.no ?_ (by assumption)))).two))
          go_wp2_with (go_at_call 24; ((with_reducible refine (sameBox_any (lo := pLo d xs ks) (hi := pHi d xs ks) (a := pLo d xs ks) (b := pHi d xs ks) ?_ ?_ ?_ ?_).mono ?_); (iterate 4 (repeat (first | with_reducible assumption | ((with_reducible refine Kv.lit_new _ _ _ _ _ _ ?_ ?_ ?_ ?_) <;> (first | (simp; done) | rfl | decide)) | with_reducible exact Kv.none_ _ | with_reducible refine Kv.alloc ?_ _ | with_reducible refine Kv.drew ?_ | with_reducible refine Kv.drewN ?_ _ | with_reducible refine Kv.no ?_ (by assumption)))); rintro e w4 ⟨rfl, hf4⟩; rw [pair_self]))
          go_wp2_with (go_at_call 27; ((with_reducible refine (whole_any _ _).mono ?_); rintro e w5 ⟨A5, p5, q5, B5, m5, n5, rfl, hl5, hh5, hf5⟩))
          go_wp2_with (go_at_call 28; ((with_reducible refine (rwhole_any _ _).mono ?_); rintro e w6 ⟨A6, p6, q6, B6, m6, n6, rfl, hl6, hh6, hf6⟩))
          go_wp2_with (go_at_call 24; ((with_reducible refine (sameBox_any (lo := wLo d) (hi := wHi d) (a := wLo d) (b := wHi d) ?_ ?_ ?_ ?_).mono ?_); (iterate 4 (repeat (first | with_reducible assumption | ((with_reducible refine Kv.lit_new _ _ _ _ _ _ ?_ ?_ ?_ ?_) <;> (first | (simp; done) | rfl | decide)) | with_reducible exact Kv.none_ _ | with_reducible refine Kv.alloc ?_ _ | with_reducible refine Kv.drew ?_ | with_reducible refine Kv.drewN ?_ _ | with_reducible refine Kv.no ?_ (by assumption)))); rintro e w7 ⟨rfl, hf7⟩; rw [pair_self]))
          have O7 : Ob w7 w2.heap.size #[.slice A2 p2 q2, .slice B2 m2 n2] 33 := by (repeat (first | with_reducible assumption | ((with_reducible refine Ob.new_ _ _ _ _ ?_) <;> (simp; done)) | with_reducible refine Ob.alloc ?_ _ | with_reducible refine Ob.drew ?_ | with_reducible refine Ob.drewN ?_ _ | with_reducible refine Ob.no ?_ (by assumption)))
          have L7 : Kv w7 A2 p2 q2 (pLo d xs ks) := by (repeat (first | with_reducible assumption | ((with_reducible refine Kv.lit_new _ _ _ _ _ _ ?_ ?_ ?_ ?_) <;> (first | (simp; done) | rfl | decide)) | with_reducible exact Kv.none_ _ | with_reducible refine Kv.alloc ?_ _ | with_reducible refine Kv.drew ?_ | with_reducible refine Kv.drewN ?_ _ | with_reducible refine Kv.no ?_ (by assumption)))
          have H7 : Kv w7 B2 m2 n2 (pHi d xs ks) := by (repeat (first | with_reducible assumption | ((with_reducible refine Kv.lit_new _ _ _ _ _ _ ?_ ?_ ?_ ?_) <;> (first | (simp; done) | rfl | decide)) | with_reducible exact Kv.none_ _ | with_reducible refine Kv.alloc ?_ _ | with_reducible refine Kv.drew ?_ | with_reducible refine Kv.drewN ?_ _ | with_reducible refine Kv.no ?_ (by assumption)))
          have F7 : Fr No w w7 := by (repeat (first | with_reducible exact Fr.refl _ _ | with_reducible refine Fr.alloc ?_ _ | with_reducible refine Fr.drew ?_ | with_reducible refine Fr.drewN ?_ _ | with_reducible refine Fr.tr ?_ (by assumption)))
          have F7' := Lib.hid F7
          have O7' := Lib.hid O7
          have L7' := Lib.hid L7
          have H7' := Lib.hid H7
          have Hx := Lib.hid hx
          have Hk := Lib.hid hk
          have Hp := Lib.hid hp
          clear F7 O7 L7 H7 hf2 hf3 hf4 hf5 hf6 hf7 hl2 hh2 hl3 hh3 hl5 hh5 hl6 hh6 hx hk hp c0 c1 c2 c3
          go_loopg [11, 12] n (fun g u v wr => ∃ i : Nat, i ≤ n ∧ g = n - i ∧ v = .int .i64 i ∧ u = .bool (hasP xs ks ps i) ∧ Hid (Fr No w7 wr))
          case atStart => exact ⟨0, Nat.zero_le _, rfl, rfl, rfl, Lib.hid (Fr.refl _ _)⟩
          case round =>
            obtain ⟨i, hi, hgk, rfl, rfl, Hf⟩ := hrel
            have Hgk := Lib.hid hgk
            clear hgk
            by_cases hlt : i < n
            · have hxi : 0 ≤ xs.getD i 0 ∧ xs.getD i 0 < d := by
                have ho := Hin.out.2
                have h1 := Hin.out.1.1
                unfold partE at ho
                have hok : partOk d.toNat xs = true := by
                  by_cases hh : partOk d.toNat xs = true
                  · exact hh
                  · rw [if_neg hh] at ho; exact absurd ho (by decide)
                have ho1 := okP_le d.toNat xs xs.length (i + 1) (by rw [← Hxl.out]; omega) hok
                obtain ⟨g1, g2, g3⟩ := okP_step ho1
                have g4 := prev_ge d.toNat xs i g1
                omega
              have hnm : n = m := by rw [Hx.out.len, Hk.out.len]; exact Hin.out.1.2.2
              obtain ⟨j, hj⟩ := Int.eq_ofNat_of_zero_le hxi.1
              have hjp : j < p := by have := Hpd.out; omega
              obtain ⟨ga, oa, rfl, ca⟩ := (Hx.out.no (F7'.out.tr Hf.out)).get i (by rw [← Hx.out.len]; exact hlt)
              obtain ⟨gb, ob, rfl, cb⟩ := (Hk.out.no (F7'.out.tr Hf.out)).get i (by rw [← Hk.out.len]; omega)
              obtain ⟨gc, oc, rfl, cc⟩ := (Hp.out.no (F7'.out.tr Hf.out)).get j (by rw [← Hp.out.len]; exact hjp)
              have hjm : (j : Int) < p := by omega
              have him : (i : Int) < m := by omega
              rw [hj] at ca
              have Hnx := Lib.hid (show hasP xs ks ps (i + 1) = (hasP xs ks ps i && (ps.getD j 0 == ks.getD i 0)) by
                show (hasP xs ks ps i && (ps.getD (xs.getD i 0).toNat 0 == ks.getD i 0)) = _
                rw [hj, Int.toNat_natCast])
              generalize ks.getD i 0 = kk at *
              generalize ps.getD j 0 = pp at *
              clear hj hxi hnm
              cases hh : hasP xs ks ps i with
              | false =>
                rw [hh] at Hnx
                clear hh
                go_wp2
                go_quiet (fail)
                go_wp2
                go_roundg (n - (i + 1))
                case measure => rw [Hgk.out]; omega
                case rel => exact ⟨i + 1, by omega, rfl, by go_num, by rw [Hnx.out]; rfl, Lib.hid (Hf.out.drewN _)⟩
              | true =>
                rw [hh] at Hnx
                clear hh
                have hb : ((pp : Int) == kk) = (pp == kk) := by
                  rw [Bool.eq_iff_iff, beq_iff_eq, beq_iff_eq]; omega
                go_wp2
                go_quiet (fail)
                go_wp2
                go_roundg (n - (i + 1))
                case measure => rw [Hgk.out]; omega
                case rel => exact ⟨i + 1, by omega, rfl, by go_num, by rw [Hnx.out]; simp, Lib.hid (Hf.out.drewN _)⟩
            · obtain rfl : i = n := by omega
              have Hh := Lib.hid (show inB ps (pLo d xs ks) (pHi d xs ks) = hasP xs ks ps i by rw [Hip.out, Hxl.out])
              generalize hasP xs ks ps i = hv at *
              obtain ⟨x0, x1, _⟩ := Ob.two (O7'.out.no Hf.out)
              have hl8 := L7'.out.no Hf.out
              have hh8 := H7'.out.no Hf.out
              have hp8 := Hp.out.no (F7'.out.tr Hf.out)
              go_wp2_with (go_at_call 20; ((with_reducible refine (in_any (k := ps) (lo := pLo d xs ks) (hi := pHi d xs ks) ?_ ?_ ?_).mono ?_); (iterate 3 (repeat (first | with_reducible assumption | ((with_reducible refine Kv.lit_new _ _ _ _ _ _ ?_ ?_ ?_ ?_) <;> (first | (simp; done) | rfl | decide)) | with_reducible exact Kv.none_ _ | with_reducible refine Kv.alloc ?_ _ | with_reducible refine Kv.drew ?_ | with_reducible refine Kv.drewN ?_ _ | with_reducible refine Kv.no ?_ (by assumption)))); rintro e w8 ⟨rfl, hf8⟩; rw [Hh.out]))
              go_wp2_with (go_at_call 27; ((with_reducible refine (whole_any _ _).mono ?_); rintro e w9 ⟨A5, p5, q5, B5, m5, n5, rfl, hl9, hh9, hf9⟩))
              go_wp2_with (go_at_call 20; ((with_reducible refine (in_any (k := ps) (lo := wLo d) (hi := wHi d) ?_ ?_ ?_).mono ?_); (iterate 3 (repeat (first | with_reducible assumption | ((with_reducible refine Kv.lit_new _ _ _ _ _ _ ?_ ?_ ?_ ?_) <;> (first | (simp; done) | rfl | decide)) | with_reducible exact Kv.none_ _ | with_reducible refine Kv.alloc ?_ _ | with_reducible refine Kv.drew ?_ | with_reducible refine Kv.drewN ?_ _ | with_reducible refine Kv.no ?_ (by assumption)))); rintro e w10 ⟨rfl, hf10⟩; rw [Hiw.out]))
              go_wp2_with (go_at_call 11; ((with_reducible refine (live _).mono ?_); rintro e wl ⟨rfl, hfl⟩))
              go_ret
              have f8 : Fr No wr w8 := by (repeat (first | with_reducible exact Fr.refl _ _ | with_reducible refine Fr.alloc ?_ _ | with_reducible refine Fr.drew ?_ | with_reducible refine Fr.drewN ?_ _ | with_reducible refine Fr.tr ?_ (by assumption)))
              have f9 : Fr No w8 w9 := by (repeat (first | with_reducible exact Fr.refl _ _ | with_reducible refine Fr.alloc ?_ _ | with_reducible refine Fr.drew ?_ | with_reducible refine Fr.drewN ?_ _ | with_reducible refine Fr.tr ?_ (by assumption)))
              have f10 : Fr No w9 w10 := by (repeat (first | with_reducible exact Fr.refl _ _ | with_reducible refine Fr.alloc ?_ _ | with_reducible refine Fr.drew ?_ | with_reducible refine Fr.drewN ?_ _ | with_reducible refine Fr.tr ?_ (by assumption)))
              have f11 : Fr No w10 wl := by (repeat (first | with_reducible exact Fr.refl _ _ | with_reducible refine Fr.alloc ?_ _ | with_reducible refine Fr.drew ?_ | with_reducible refine Fr.drewN ?_ _ | with_reducible refine Fr.tr ?_ (by assumption)))
              exact ⟨rfl, ((((F7'.out.tr Hf.out).tr f8).tr f9).tr f10).tr f11⟩
        · have hpd1 : ((p : Int) != d) = true := bne_iff_ne.2 hpd
          have he0 := Lib.hid he
          clear hpd he
          go_enter Try.func5, Try.ntmps5
          go_wp2
          go_quiet (fail)
          go_wp2_with (go_at_call 10; ((with_reducible refine (short2 (A := B) (n := m) (c := b) (B := C) (m := p) (d := q) ?_).mono ?_); (repeat (first | with_reducible assumption | ((with_reducible refine Ob.new_ _ _ _ _ ?_) <;> (simp; done)) | with_reducible refine Ob.alloc ?_ _ | with_reducible refine Ob.drew ?_ | with_reducible refine Ob.drewN ?_ _ | with_reducible refine Ob.no ?_ (by assumption))); rintro e w1 ⟨rfl, rfl⟩; rw [hs]))
          go_wp2_with (go_at_call 25; ((with_reducible refine (partial_any (xs := xs) (ks := ks) _ ?_ ?_).mono ?_); (repeat (first | with_reducible assumption | ((with_reducible refine Iv.lit_new _ _ _ _ _ _ ?_ ?_ ?_ ?_) <;> (first | (simp; done) | rfl | decide)) | with_reducible exact Iv.none_ _ | with_reducible refine Iv.alloc ?_ _ | with_reducible refine Iv.drew ?_ | with_reducible refine Iv.drewN ?_ _ | with_reducible refine Iv.no ?_ (by assumption))); (repeat (first | with_reducible assumption | ((with_reducible refine Kv.lit_new _ _ _ _ _ _ ?_ ?_ ?_ ?_) <;> (first | (simp; done) | rfl | decide)) | with_reducible exact Kv.none_ _ | with_reducible refine Kv.alloc ?_ _ | with_reducible refine Kv.drew ?_ | with_reducible refine Kv.drewN ?_ _ | with_reducible refine Kv.no ?_ (by assumption))); rintro e w2 ⟨A2, p2, q2, B2, m2, n2, rfl, hl2, hh2, hf2⟩; rw [he0.out]))
          go_wp2_with (go_at_call 26; ((with_reducible refine (rpartial_any (xs := xs) (ks := ks) _ ?_ ?_).mono ?_); (repeat (first | with_reducible assumption | ((with_reducible refine Iv.lit_new _ _ _ _ _ _ ?_ ?_ ?_ ?_) <;> (first | (simp; done) | rfl | decide)) | with_reducible exact Iv.none_ _ | with_reducible refine Iv.alloc ?_ _ | with_reducible refine Iv.drew ?_ | with_reducible refine Iv.drewN ?_ _ | with_reducible refine Iv.no ?_ (by assumption))); (repeat (first | with_reducible assumption | ((with_reducible refine Kv.lit_new _ _ _ _ _ _ ?_ ?_ ?_ ?_) <;> (first | (simp; done) | rfl | decide)) | with_reducible exact Kv.none_ _ | with_reducible refine Kv.alloc ?_ _ | with_reducible refine Kv.drew ?_ | with_reducible refine Kv.drewN ?_ _ | with_reducible refine Kv.no ?_ (by assumption))); rintro e w3 ⟨A3, p3, q3, B3, m3, n3, rfl, hl3, hh3, hf3⟩; rw [he0.out]; obtain ⟨ya3a, ya3b, ya3l, ya3m, ya3n, ya3o, ya3p, ya3q⟩ := (show Ob w3 w2.heap.size #[.slice A2 p2 q2, .slice B2 m2 n2] 33 by (repeat (first | with_reducible assumption | ((with_reducible refine Ob.new_ _ _ _ _ ?_) <;> (simp; done)) | with_reducible refine Ob.alloc ?_ _ | with_reducible refine Ob.drew ?_ | with_reducible refine Ob.drewN ?_ _ | with_reducible refine Ob.no ?_ (by assumption)))).two))
          go_wp2_with (go_at_call 24; ((with_reducible refine (sameBox_any (lo := pLo d xs ks) (hi := pHi d xs ks) (a := pLo d xs ks) (b := pHi d xs ks) ?_ ?_ ?_ ?_).mono ?_); (iterate 4 (repeat (first | with_reducible assumption | ((with_reducible refine Kv.lit_new _ _ _ _ _ _ ?_ ?_ ?_ ?_) <;> (first | (simp; done) | rfl | decide)) | with_reducible exact Kv.none_ _ | with_reducible refine Kv.alloc ?_ _ | with_reducible refine Kv.drew ?_ | with_reducible refine Kv.drewN ?_ _ | with_reducible refine Kv.no ?_ (by assumption)))); rintro e w4 ⟨rfl, hf4⟩; rw [pair_self]))
          go_wp2_with (go_at_call 27; ((with_reducible refine (whole_any _ _).mono ?_); rintro e w5 ⟨A5, p5, q5, B5, m5, n5, rfl, hl5, hh5, hf5⟩))
          go_wp2_with (go_at_call 28; ((with_reducible refine (rwhole_any _ _).mono ?_); rintro e w6 ⟨A6, p6, q6, B6, m6, n6, rfl, hl6, hh6, hf6⟩))
          go_wp2_with (go_at_call 24; ((with_reducible refine (sameBox_any (lo := wLo d) (hi := wHi d) (a := wLo d) (b := wHi d) ?_ ?_ ?_ ?_).mono ?_); (iterate 4 (repeat (first | with_reducible assumption | ((with_reducible refine Kv.lit_new _ _ _ _ _ _ ?_ ?_ ?_ ?_) <;> (first | (simp; done) | rfl | decide)) | with_reducible exact Kv.none_ _ | with_reducible refine Kv.alloc ?_ _ | with_reducible refine Kv.drew ?_ | with_reducible refine Kv.drewN ?_ _ | with_reducible refine Kv.no ?_ (by assumption)))); rintro e w7 ⟨rfl, hf7⟩; rw [pair_self]))
          go_wp2_with (go_at_call 11; ((with_reducible refine (live _).mono ?_); rintro e wl ⟨rfl, hfl⟩))
          go_ret
          refine ⟨rfl, ?_⟩
          (repeat (first | with_reducible exact Fr.refl _ _ | with_reducible refine Fr.alloc ?_ _ | with_reducible refine Fr.drew ?_ | with_reducible refine Fr.drewN ?_ _ | with_reducible refine Fr.tr ?_ (by assumption)))
      · have he0 := Lib.hid he
        clear he
        go_enter Try.func5, Try.ntmps5
        go_wp2
        go_quiet (fail)
        go_wp2_with (go_at_call 10; ((with_reducible refine (short2 (A := B) (n := m) (c := b) (B := C) (m := p) (d := q) ?_).mono ?_); (repeat (first | with_reducible assumption | ((with_reducible refine Ob.new_ _ _ _ _ ?_) <;> (simp; done)) | with_reducible refine Ob.alloc ?_ _ | with_reducible refine Ob.drew ?_ | with_reducible refine Ob.drewN ?_ _ | with_reducible refine Ob.no ?_ (by assumption))); rintro e w1 ⟨rfl, rfl⟩; rw [hs]))
        go_wp2_with (go_at_call 25; ((with_reducible refine (partial_any (xs := xs) (ks := ks) _ ?_ ?_).mono ?_); (repeat (first | with_reducible assumption | ((with_reducible refine Iv.lit_new _ _ _ _ _ _ ?_ ?_ ?_ ?_) <;> (first | (simp; done) | rfl | decide)) | with_reducible exact Iv.none_ _ | with_reducible refine Iv.alloc ?_ _ | with_reducible refine Iv.drew ?_ | with_reducible refine Iv.drewN ?_ _ | with_reducible refine Iv.no ?_ (by assumption))); (repeat (first | with_reducible assumption | ((with_reducible refine Kv.lit_new _ _ _ _ _ _ ?_ ?_ ?_ ?_) <;> (first | (simp; done) | rfl | decide)) | with_reducible exact Kv.none_ _ | with_reducible refine Kv.alloc ?_ _ | with_reducible refine Kv.drew ?_ | with_reducible refine Kv.drewN ?_ _ | with_reducible refine Kv.no ?_ (by assumption))); rintro e w2 ⟨A2, p2, q2, B2, m2, n2, rfl, hl2, hh2, hf2⟩; rw [he0.out]))
        go_wp2_with (go_at_call 26; ((with_reducible refine (rpartial_any (xs := xs) (ks := ks) _ ?_ ?_).mono ?_); (repeat (first | with_reducible assumption | ((with_reducible refine Iv.lit_new _ _ _ _ _ _ ?_ ?_ ?_ ?_) <;> (first | (simp; done) | rfl | decide)) | with_reducible exact Iv.none_ _ | with_reducible refine Iv.alloc ?_ _ | with_reducible refine Iv.drew ?_ | with_reducible refine Iv.drewN ?_ _ | with_reducible refine Iv.no ?_ (by assumption))); (repeat (first | with_reducible assumption | ((with_reducible refine Kv.lit_new _ _ _ _ _ _ ?_ ?_ ?_ ?_) <;> (first | (simp; done) | rfl | decide)) | with_reducible exact Kv.none_ _ | with_reducible refine Kv.alloc ?_ _ | with_reducible refine Kv.drew ?_ | with_reducible refine Kv.drewN ?_ _ | with_reducible refine Kv.no ?_ (by assumption))); rintro e w3 ⟨A3, p3, q3, B3, m3, n3, rfl, hl3, hh3, hf3⟩; rw [he0.out]; obtain ⟨ya3a, ya3b, ya3l, ya3m, ya3n, ya3o, ya3p, ya3q⟩ := (show Ob w3 w2.heap.size #[.slice A2 p2 q2, .slice B2 m2 n2] 33 by (repeat (first | with_reducible assumption | ((with_reducible refine Ob.new_ _ _ _ _ ?_) <;> (simp; done)) | with_reducible refine Ob.alloc ?_ _ | with_reducible refine Ob.drew ?_ | with_reducible refine Ob.drewN ?_ _ | with_reducible refine Ob.no ?_ (by assumption)))).two))
        go_wp2_with (go_at_call 24; ((with_reducible refine (sameBox_any (lo := pLo d xs ks) (hi := pHi d xs ks) (a := pLo d xs ks) (b := pHi d xs ks) ?_ ?_ ?_ ?_).mono ?_); (iterate 4 (repeat (first | with_reducible assumption | ((with_reducible refine Kv.lit_new _ _ _ _ _ _ ?_ ?_ ?_ ?_) <;> (first | (simp; done) | rfl | decide)) | with_reducible exact Kv.none_ _ | with_reducible refine Kv.alloc ?_ _ | with_reducible refine Kv.drew ?_ | with_reducible refine Kv.drewN ?_ _ | with_reducible refine Kv.no ?_ (by assumption)))); rintro e w4 ⟨rfl, hf4⟩; rw [pair_self]))
        go_wp2_with (go_at_call 27; ((with_reducible refine (whole_any _ _).mono ?_); rintro e w5 ⟨A5, p5, q5, B5, m5, n5, rfl, hl5, hh5, hf5⟩))
        go_wp2_with (go_at_call 28; ((with_reducible refine (rwhole_any _ _).mono ?_); rintro e w6 ⟨A6, p6, q6, B6, m6, n6, rfl, hl6, hh6, hf6⟩))
        go_wp2_with (go_at_call 24; ((with_reducible refine (sameBox_any (lo := wLo d) (hi := wHi d) (a := wLo d) (b := wHi d) ?_ ?_ ?_ ?_).mono ?_); (iterate 4 (repeat (first | with_reducible assumption | ((with_reducible refine Kv.lit_new _ _ _ _ _ _ ?_ ?_ ?_ ?_) <;> (first | (simp; done) | rfl | decide)) | with_reducible exact Kv.none_ _ | with_reducible refine Kv.alloc ?_ _ | with_reducible refine Kv.drew ?_ | with_reducible refine Kv.drewN ?_ _ | with_reducible refine Kv.no ?_ (by assumption)))); rintro e w7 ⟨rfl, hf7⟩; rw [pair_self]))
        go_wp2_with (go_at_call 11; ((with_reducible refine (live _).mono ?_); rintro e wl ⟨rfl, hfl⟩))
        go_ret
        refine ⟨rfl, ?_⟩
        (repeat (first | with_reducible exact Fr.refl _ _ | with_reducible refine Fr.alloc ?_ _ | with_reducible refine Fr.drew ?_ | with_reducible refine Fr.drewN ?_ _ | with_reducible refine Fr.tr ?_ (by assumption)))
end Go.Proofs.Ythiolmdmdmimeaa.Kg2
