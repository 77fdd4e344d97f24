/- Layer 11, law: of two buckets that are put together each Key is there once. -/
import Derived.Test.YtbncakbgljhnkaaQf11
import Derived.StillTailTactics
namespace Go.Proofs.Ytbncakbgljhnkaa.Qh11
open Go.RowKit Go.Proofs.Ytbncakbgljhnkaa.Pk08 Go.Proofs.Ytbncakbgljhnkaa.Base Go.Proofs.Ytbncakbgljhnkaa.App Go.Proofs.Ytbncakbgljhnkaa.Ty Go.Proofs.Ytbncakbgljhnkaa.Str Go.Proofs.Ytbncakbgljhnkaa.Ky Go.Proofs.Ytbncakbgljhnkaa.Bx Go.Proofs.Ytbncakbgljhnkaa.Kk Go.Proofs.Ytbncakbgljhnkaa.Bo Go.Proofs.Ytbncakbgljhnkaa.As Go.Proofs.Ytbncakbgljhnkaa.Pl08 Go.Proofs.Ytbncakbgljhnkaa.Kc08 Go.Proofs.Ytbncakbgljhnkaa.Rv Go.Proofs.Ytbncakbgljhnkaa.Ra Go.Proofs.Ytbncakbgljhnkaa.Rp Go.Proofs.Ytbncakbgljhnkaa.Ro Go.Proofs.Ytbncakbgljhnkaa.Rk Go.Proofs.Ytbncakbgljhnkaa.Rc Go.Proofs.Ytbncakbgljhnkaa.Rs Go.Proofs.Ytbncakbgljhnkaa.Ri Go.Proofs.Ytbncakbgljhnkaa.Rf Go.Proofs.Ytbncakbgljhnkaa.Pt11 Go.Proofs.Ytbncakbgljhnkaa.Pu11 Go.Proofs.Ytbncakbgljhnkaa.Pv11 Go.Proofs.Ytbncakbgljhnkaa.Pw11 Go.Proofs.Ytbncakbgljhnkaa.Px11 Go.Proofs.Ytbncakbgljhnkaa.Qb11 Go.Proofs.Ytbncakbgljhnkaa.Qc11 Go.Proofs.Ytbncakbgljhnkaa.Qf11
set_option linter.unusedVariables false
set_option linter.unusedSimpArgs false
theorem memD {ls : List Rv.Rec} (i : Nat) (h : i < ls.length) : ls.getD i rec0 ∈ ls := by
  have e : ls.getD i rec0 = ls[i] := by simp [List.getD_eq_getElem?_getD, h]
  rw [e]; exact List.getElem_mem h
theorem mg_bk {d : Int} {rs qs : List Rv.Rec} (h1 : isBk d rs = true) (h2 : isBk d qs = true) : isBk d (mg rs qs) = true :=
  isBk_of (mg_strict _ _ (isBk_strict h1) (isBk_strict h2)) (fun r hr => by
    rcases mem_mg_sub _ rs qs rfl r hr with h | h
    · exact isBk_rec h1 r h
    · exact isBk_rec h2 r h)
/-- Where the records of the second one are. -/
theorem mg_right {rs qs : List Rv.Rec} (h1 : Strict rs) (h2 : Strict qs) {r : Rv.Rec} (hr : r ∈ qs) : fis (mg rs qs) r.1 = true ∧ fpos (mg rs qs) r.1 < (mg rs qs).length ∧ (mg rs qs).getD (fpos (mg rs qs) r.1) rec0 = r :=
  fpos_mem (mg_strict _ _ h1 h2) ((mem_mg rs qs h1 h2 r).2 (.inl hr))
theorem mg_left {rs qs : List Rv.Rec} (h1 : Strict rs) (h2 : Strict qs) {r : Rv.Rec} (hr : r ∈ rs) : fis (mg rs qs) r.1 = true := by
  refine (mem_fis (mg_strict _ _ h1 h2)).1 ?_
  by_cases h : ∃ y ∈ qs, y.1 = r.1
  · obtain ⟨y, hy, e⟩ := h
    exact ⟨y, (mem_mg rs qs h1 h2 y).2 (.inl hy), e⟩
  · exact ⟨r, (mem_mg rs qs h1 h2 r).2 (.inr ⟨hr, fun y hy e => h ⟨y, hy, e⟩⟩), rfl⟩
set_option maxRecDepth 8000 in
set_option maxHeartbeats 6400000 in
theorem law_merges {E1 E2 E3 E4 : TypeId} (w : World) (A : Option Addr) (n c : Nat) (x : List (recT E2).D) (h : Rd (.sl E1 (recT E2)) w x [.slice A n c]) (B : Option Addr) (m d : Nat) (y : List (recT E4).D) (h' : Rd (.sl E3 (recT E4)) w y [.slice B m d]) :
    Calls Try.prog 8 #[.slice A n c, .slice B m d] w fun e w' => e = .returned (.bool true) ∧ Fr No w w' := by
  obtain ⟨rs, hr⟩ := Rv.of_rd h
  obtain ⟨qs, hq⟩ := Rv.of_rd h'
  clear h x h' y
  have Hr := Lib.hid hr
  have Hq := Lib.hid hq
  clear hr hq
  cases hf : fewB rs with
  | false =>
    have Hf := Lib.hid hf
    clear hf
    go_enter Try.func8, Try.ntmps8
    go_wp2_with (go_at_call 9; ((with_reducible refine (few_any (rs := rs) ?_).mono ?_); (focus ((have hr := Hr.out); (repeat (first | with_reducible assumption | with_reducible exact Rv.none_ _ | with_reducible refine Rv.alloc ?_ _ | with_reducible refine Rv.drew ?_ | with_reducible refine Rv.drewN ?_ _ | with_reducible refine Rv.no ?_ (by assumption))))); rintro e w1 ⟨rfl, rfl⟩; rw [Hf.out]))
    go_wp2_with (go_at_call 10; ((with_reducible refine (live _).mono ?_); rintro e wl ⟨rfl, hfl⟩))
    go_ret
    exact ⟨rfl, by (repeat (first | with_reducible exact Fr.refl _ _ | with_reducible refine Fr.setCell ?_ (.inr (by first | (simp; done) | (simp; omega))) _ | with_reducible refine Fr.alloc ?_ _ | with_reducible refine Fr.drew ?_ | with_reducible refine Fr.drewN ?_ _ | with_reducible refine Fr.tr ?_ (by assumption)))⟩
  | true =>
    have Hf := Lib.hid hf
    have Hs1 := Lib.hid (few_short hf)
    clear hf
    cases hg : fewB qs with
    | false =>
      have Hg := Lib.hid hg
      clear hg
      go_enter Try.func8, Try.ntmps8
      go_wp2_with (go_at_call 9; ((with_reducible refine (few_any (rs := rs) ?_).mono ?_); (focus ((have hr := Hr.out); (repeat (first | with_reducible assumption | with_reducible exact Rv.none_ _ | with_reducible refine Rv.alloc ?_ _ | with_reducible refine Rv.drew ?_ | with_reducible refine Rv.drewN ?_ _ | with_reducible refine Rv.no ?_ (by assumption))))); rintro e w1 ⟨rfl, rfl⟩; rw [Hf.out]))
      go_wp2_with (go_at_call 9; ((with_reducible refine (few_any (rs := qs) ?_).mono ?_); (focus ((have hr := Hq.out); (repeat (first | with_reducible assumption | with_reducible exact Rv.none_ _ | with_reducible refine Rv.alloc ?_ _ | with_reducible refine Rv.drew ?_ | with_reducible refine Rv.drewN ?_ _ | with_reducible refine Rv.no ?_ (by assumption))))); rintro e w1 ⟨rfl, rfl⟩; rw [Hg.out]))
      go_wp2_with (go_at_call 10; ((with_reducible refine (live _).mono ?_); rintro e wl ⟨rfl, hfl⟩))
      go_ret
      exact ⟨rfl, by (repeat (first | with_reducible exact Fr.refl _ _ | with_reducible refine Fr.setCell ?_ (.inr (by first | (simp; done) | (simp; omega))) _ | with_reducible refine Fr.alloc ?_ _ | with_reducible refine Fr.drew ?_ | with_reducible refine Fr.drewN ?_ _ | with_reducible refine Fr.tr ?_ (by assumption)))⟩
    | true =>
      have Hg := Lib.hid hg
      have Hs2 := Lib.hid (few_short hg)
      clear hg
      cases hi1 : isBk (dimZ rs) rs with
      | false =>
        have HI1 := Lib.hid hi1
        clear hi1
        go_enter Try.func8, Try.ntmps8
        go_wp2_with (go_at_call 9; ((with_reducible refine (few_any (rs := rs) ?_).mono ?_); (focus ((have hr := Hr.out); (repeat (first | with_reducible assumption | with_reducible exact Rv.none_ _ | with_reducible refine Rv.alloc ?_ _ | with_reducible refine Rv.drew ?_ | with_reducible refine Rv.drewN ?_ _ | with_reducible refine Rv.no ?_ (by assumption))))); rintro e w1 ⟨rfl, rfl⟩; rw [Hf.out]))
        go_wp2_with (go_at_call 9; ((with_reducible refine (few_any (rs := qs) ?_).mono ?_); (focus ((have hr := Hq.out); (repeat (first | with_reducible assumption | with_reducible exact Rv.none_ _ | with_reducible refine Rv.alloc ?_ _ | with_reducible refine Rv.drew ?_ | with_reducible refine Rv.drewN ?_ _ | with_reducible refine Rv.no ?_ (by assumption))))); rintro e w1 ⟨rfl, rfl⟩; rw [Hg.out]))
        go_wp2_with (first | (go_at_call 21; ((with_reducible refine (dim_any (rs := rs) ?_).mono ?_); (focus ((have hr := Hr.out); (repeat (first | with_reducible assumption | with_reducible exact Rv.none_ _ | with_reducible refine Rv.alloc ?_ _ | with_reducible refine Rv.drew ?_ | with_reducible refine Rv.drewN ?_ _ | with_reducible refine Rv.no ?_ (by assumption))))); rintro e w1 ⟨rfl, rfl⟩)) | (go_at_call 20; ((with_reducible refine (ris_any (rs := rs) _ ?_).mono ?_); (focus ((have hr := Hr.out); (repeat (first | with_reducible assumption | with_reducible exact Rv.none_ _ | with_reducible refine Rv.alloc ?_ _ | with_reducible refine Rv.drew ?_ | with_reducible refine Rv.drewN ?_ _ | with_reducible refine Rv.no ?_ (by assumption))))); rintro e y1 ⟨rfl, hfy1⟩; rw [HI1.out])) | fail)
        go_wp2_with (go_at_call 10; ((with_reducible refine (live _).mono ?_); rintro e wl ⟨rfl, hfl⟩))
        go_ret
        exact ⟨rfl, by (repeat (first | with_reducible exact Fr.refl _ _ | with_reducible refine Fr.setCell ?_ (.inr (by first | (simp; done) | (simp; omega))) _ | with_reducible refine Fr.alloc ?_ _ | with_reducible refine Fr.drew ?_ | with_reducible refine Fr.drewN ?_ _ | with_reducible refine Fr.tr ?_ (by assumption)))⟩
      | true =>
        have HI1 := Lib.hid hi1
        clear hi1
        cases hi2 : isBk (dimZ rs) qs with
        | false =>
          have HI2 := Lib.hid hi2
          clear hi2
          go_enter Try.func8, Try.ntmps8
          go_wp2_with (go_at_call 9; ((with_reducible refine (few_any (rs := rs) ?_).mono ?_); (focus ((have hr := Hr.out); (repeat (first | with_reducible assumption | with_reducible exact Rv.none_ _ | with_reducible refine Rv.alloc ?_ _ | with_reducible refine Rv.drew ?_ | with_reducible refine Rv.drewN ?_ _ | with_reducible refine Rv.no ?_ (by assumption))))); rintro e w1 ⟨rfl, rfl⟩; rw [Hf.out]))
          go_wp2_with (go_at_call 9; ((with_reducible refine (few_any (rs := qs) ?_).mono ?_); (focus ((have hr := Hq.out); (repeat (first | with_reducible assumption | with_reducible exact Rv.none_ _ | with_reducible refine Rv.alloc ?_ _ | with_reducible refine Rv.drew ?_ | with_reducible refine Rv.drewN ?_ _ | with_reducible refine Rv.no ?_ (by assumption))))); rintro e w1 ⟨rfl, rfl⟩; rw [Hg.out]))
          go_wp2_with (first | (go_at_call 21; ((with_reducible refine (dim_any (rs := rs) ?_).mono ?_); (focus ((have hr := Hr.out); (repeat (first | with_reducible assumption | with_reducible exact Rv.none_ _ | with_reducible refine Rv.alloc ?_ _ | with_reducible refine Rv.drew ?_ | with_reducible refine Rv.drewN ?_ _ | with_reducible refine Rv.no ?_ (by assumption))))); rintro e w1 ⟨rfl, rfl⟩)) | (go_at_call 20; ((with_reducible refine (ris_any (rs := rs) _ ?_).mono ?_); (focus ((have hr := Hr.out); (repeat (first | with_reducible assumption | with_reducible exact Rv.none_ _ | with_reducible refine Rv.alloc ?_ _ | with_reducible refine Rv.drew ?_ | with_reducible refine Rv.drewN ?_ _ | with_reducible refine Rv.no ?_ (by assumption))))); rintro e y1 ⟨rfl, hfy1⟩; rw [HI1.out])) | fail)
          go_wp2_with (first | (go_at_call 21; ((with_reducible refine (dim_any (rs := rs) ?_).mono ?_); (focus ((have hr := Hr.out); (repeat (first | with_reducible assumption | with_reducible exact Rv.none_ _ | with_reducible refine Rv.alloc ?_ _ | with_reducible refine Rv.drew ?_ | with_reducible refine Rv.drewN ?_ _ | with_reducible refine Rv.no ?_ (by assumption))))); rintro e w1 ⟨rfl, rfl⟩)) | (go_at_call 20; ((with_reducible refine (ris_any (rs := qs) _ ?_).mono ?_); (focus ((have hr := Hq.out); (repeat (first | with_reducible assumption | with_reducible exact Rv.none_ _ | with_reducible refine Rv.alloc ?_ _ | with_reducible refine Rv.drew ?_ | with_reducible refine Rv.drewN ?_ _ | with_reducible refine Rv.no ?_ (by assumption))))); rintro e y2 ⟨rfl, hfy2⟩; rw [HI2.out])) | fail)
          go_wp2_with (go_at_call 10; ((with_reducible refine (live _).mono ?_); rintro e wl ⟨rfl, hfl⟩))
          go_ret
          exact ⟨rfl, by (repeat (first | with_reducible exact Fr.refl _ _ | with_reducible refine Fr.setCell ?_ (.inr (by first | (simp; done) | (simp; omega))) _ | with_reducible refine Fr.alloc ?_ _ | with_reducible refine Fr.drew ?_ | with_reducible refine Fr.drewN ?_ _ | with_reducible refine Fr.tr ?_ (by assumption)))⟩
        | true =>
          have HI2 := Lib.hid hi2
          have HS1 := Lib.hid (isBk_strict HI1.out)
          have HS2 := Lib.hid (isBk_strict HI2.out)
          have HI3 := Lib.hid (mg_bk HI1.out HI2.out)
          have hlens : n ≤ 60 ∧ m ≤ 60 := ⟨by have := Hr.out.len; have := Hs1.out.2; omega, by have := Hq.out.len; have := Hs2.out.2; omega⟩
          have HL := Lib.hid (mg_len rs qs)
          have HT := Lib.hid (mg_twice HS1.out HS2.out)
          have HR := Lib.hid (fun r (hr : r ∈ qs) => mg_right HS1.out HS2.out hr)
          have HE := Lib.hid (fun r (hr : r ∈ rs) => mg_left HS1.out HS2.out hr)
          have HSm := Lib.hid (mg_strict rs qs HS1.out HS2.out)
          have Hsm := Lib.hid (show Short (mg rs qs) from ⟨by have := HL.out; have := Hs1.out.2; have := Hs2.out.2; omega, fun r hr => by
            rcases mem_mg_sub _ rs qs rfl r hr with h | h
            · exact Hs1.out.1.2 r h
            · exact Hs2.out.1.2 r h⟩)
          clear hi2
          go_enter Try.func8, Try.ntmps8
          go_wp2_with (go_at_call 9; ((with_reducible refine (few_any (rs := rs) ?_).mono ?_); (focus ((have hr := Hr.out); (repeat (first | with_reducible assumption | with_reducible exact Rv.none_ _ | with_reducible refine Rv.alloc ?_ _ | with_reducible refine Rv.drew ?_ | with_reducible refine Rv.drewN ?_ _ | with_reducible refine Rv.no ?_ (by assumption))))); rintro e w1 ⟨rfl, rfl⟩; rw [Hf.out]))
          go_wp2_with (go_at_call 9; ((with_reducible refine (few_any (rs := qs) ?_).mono ?_); (focus ((have hr := Hq.out); (repeat (first | with_reducible assumption | with_reducible exact Rv.none_ _ | with_reducible refine Rv.alloc ?_ _ | with_reducible refine Rv.drew ?_ | with_reducible refine Rv.drewN ?_ _ | with_reducible refine Rv.no ?_ (by assumption))))); rintro e w1 ⟨rfl, rfl⟩; rw [Hg.out]))
          go_wp2_with (first | (go_at_call 21; ((with_reducible refine (dim_any (rs := rs) ?_).mono ?_); (focus ((have hr := Hr.out); (repeat (first | with_reducible assumption | with_reducible exact Rv.none_ _ | with_reducible refine Rv.alloc ?_ _ | with_reducible refine Rv.drew ?_ | with_reducible refine Rv.drewN ?_ _ | with_reducible refine Rv.no ?_ (by assumption))))); rintro e w1 ⟨rfl, rfl⟩)) | (go_at_call 20; ((with_reducible refine (ris_any (rs := rs) _ ?_).mono ?_); (focus ((have hr := Hr.out); (repeat (first | with_reducible assumption | with_reducible exact Rv.none_ _ | with_reducible refine Rv.alloc ?_ _ | with_reducible refine Rv.drew ?_ | with_reducible refine Rv.drewN ?_ _ | with_reducible refine Rv.no ?_ (by assumption))))); rintro e y1 ⟨rfl, hfy1⟩; rw [HI1.out])) | fail)
          go_wp2_with (first | (go_at_call 21; ((with_reducible refine (dim_any (rs := rs) ?_).mono ?_); (focus ((have hr := Hr.out); (repeat (first | with_reducible assumption | with_reducible exact Rv.none_ _ | with_reducible refine Rv.alloc ?_ _ | with_reducible refine Rv.drew ?_ | with_reducible refine Rv.drewN ?_ _ | with_reducible refine Rv.no ?_ (by assumption))))); rintro e w1 ⟨rfl, rfl⟩)) | (go_at_call 20; ((with_reducible refine (ris_any (rs := qs) _ ?_).mono ?_); (focus ((have hr := Hq.out); (repeat (first | with_reducible assumption | with_reducible exact Rv.none_ _ | with_reducible refine Rv.alloc ?_ _ | with_reducible refine Rv.drew ?_ | with_reducible refine Rv.drewN ?_ _ | with_reducible refine Rv.no ?_ (by assumption))))); rintro e y2 ⟨rfl, hfy2⟩; rw [HI2.out])) | fail)
          go_wp2_with (first | (go_at_call 22; ((with_reducible refine (merge_any (rs := rs) (qs := qs) ?_ ?_ Hs1.out.1 Hs2.out.1 (by omega) HS1.out HS2.out).mono ?_); (focus ((have h := Hr.out); (repeat (first | with_reducible assumption | with_reducible exact Rv.none_ _ | with_reducible refine Rv.alloc ?_ _ | with_reducible refine Rv.drew ?_ | with_reducible refine Rv.drewN ?_ _ | with_reducible refine Rv.no ?_ (by assumption))))); (focus ((have h := Hq.out); (repeat (first | with_reducible assumption | with_reducible exact Rv.none_ _ | with_reducible refine Rv.alloc ?_ _ | with_reducible refine Rv.drew ?_ | with_reducible refine Rv.drewN ?_ _ | with_reducible refine Rv.no ?_ (by assumption))))); rintro e v1 ⟨V1, vn1, vc1, rfl, hov1, hfv1⟩; (have HV1 := Lib.hid hov1.rv); (clear hov1))) | (go_at_call 21; ((with_reducible refine (dim_any (rs := rs) ?_).mono ?_); (focus ((have hr := Hr.out); (repeat (first | with_reducible assumption | with_reducible exact Rv.none_ _ | with_reducible refine Rv.alloc ?_ _ | with_reducible refine Rv.drew ?_ | with_reducible refine Rv.drewN ?_ _ | with_reducible refine Rv.no ?_ (by assumption))))); rintro e w1 ⟨rfl, rfl⟩)) | fail)
          generalize hM : mg rs qs = ms at *
          clear hM
          have hvn : vn1 ≤ 120 := by have := HV1.out.len; have := HL.out; have := Hr.out.len; have := Hq.out.len; omega
          go_wp2_with (go_at_call 20; ((with_reducible refine (ris_any (rs := ms) _ ?_).mono ?_); (focus ((have h := HV1.out); (repeat (first | with_reducible assumption | with_reducible exact Rv.none_ _ | with_reducible refine Rv.alloc ?_ _ | with_reducible refine Rv.drew ?_ | with_reducible refine Rv.drewN ?_ _ | with_reducible refine Rv.no ?_ (by assumption))))); rintro e v2 ⟨rfl, hfv2⟩; rw [HI3.out]))
          have HV2 := Lib.hid (Rv.no HV1.out (by (repeat (first | with_reducible exact Fr.refl _ _ | with_reducible refine Fr.setCell ?_ (.inr (by first | (simp; done) | (simp; omega))) _ | with_reducible refine Fr.alloc ?_ _ | with_reducible refine Fr.drew ?_ | with_reducible refine Fr.drewN ?_ _ | with_reducible refine Fr.tr ?_ (by assumption))) : Fr No v1 v2))
          have HF2 := Lib.hid (by (repeat (first | with_reducible exact Fr.refl _ _ | with_reducible refine Fr.setCell ?_ (.inr (by first | (simp; done) | (simp; omega))) _ | with_reducible refine Fr.alloc ?_ _ | with_reducible refine Fr.drew ?_ | with_reducible refine Fr.drewN ?_ _ | with_reducible refine Fr.tr ?_ (by assumption))) : Fr No w v2)
          go_loopw [6] (fun v wr => ∃ i : Nat, i ≤ m ∧ v = .int .i64 i ∧ Hid (Fr No v2 wr)) (fun v _ => m - (intOf v).toNat)
          case atStart => exact ⟨0, Nat.zero_le _, rfl, Lib.hid (Fr.refl _ _)⟩
          case round =>
            obtain ⟨i, hi, rfl, Hi⟩ := hrel
            have HFr := Lib.hid (HF2.out.tr Hi.out)
            have HVr := Lib.hid (HV2.out.no Hi.out)
            by_cases hlt : i < m
            · obtain ⟨g, off, KA, kc, rfl, a0, a1, hk, hz⟩ := (Hq.out.no HFr.out).get i (by rw [← Hq.out.len]; exact hlt)
              obtain ⟨r1, r2, r3⟩ := HR.out _ (memD i (by rw [← Hq.out.len]; exact hlt))
              have Hk := Lib.hid hk
              clear hk
              generalize qs.getD i rec0 = r at *
              obtain ⟨ks, s⟩ := r
              simp only at *
              obtain ⟨g2, off2, KB, kd, rfl, b0, b1, hk2, hz2⟩ := HVr.out.get (fpos ms ks) r2
              rw [r3] at b0 b1
              simp only at b0 b1
              have Hk2 := Lib.hid hk2
              have R1 := Lib.hid r1
              have hfp : fpos ms ks < vn1 := by rw [HV1.out.len]; exact r2
              clear hk2 r1 r3 hz2
              generalize hfx : fpos ms ks = q at *
              have Hfx := Lib.hid hfx
              clear hfx
              have hss := str_yes (rfl : s = s)
              go_wp2_with (go_at_call 29; ((with_reducible refine (rfind_any (rs := ms) (k := ks) HVr.out Hk.out).mono ?_); rintro e v3 ⟨rfl, hfv3⟩; rw [Hfx.out, R1.out]; (have a0' := cel_no a0 hfv3); (have a1' := cel_no a1 hfv3); (have b0' := cel_no b0 hfv3); (have b1' := cel_no b1 hfv3)))
              (refine wp_region_held_drew (S := fun w' => w'.cell? ⟨g, off + i * 2 + 1, none⟩ = some (.string s) ∧ w'.cell? ⟨g2, off2 + q * 2 + 1, none⟩ = some (.string s)) (by kernel_rfl) ?_ (fun hHeld => ?_); focus ((try dsimp only); (refine ⟨?_, ?_⟩; (repeat (first | with_reducible assumption | with_reducible refine cel_alloc ?_ _ | with_reducible refine cel_drew ?_ | with_reducible refine cel_drewN ?_ _ | with_reducible refine cel_set ?_ (by first | (simp; done) | (simp; omega)) _ | with_reducible refine cel_no ?_ (by assumption))); (repeat (first | with_reducible assumption | with_reducible refine cel_alloc ?_ _ | with_reducible refine cel_drew ?_ | with_reducible refine cel_drewN ?_ _ | with_reducible refine cel_set ?_ (by first | (simp; done) | (simp; omega)) _ | with_reducible refine cel_no ?_ (by assumption)))); done))
              ((refine wpAnyH_take (i := 0) (v := ?_) rfl (by kernel_rfl) (by kernel_rfl) (by kernel_rfl) (fun _ _ _ h => h) (Or.inl ⟨by rfl, ?_⟩) (by assumption) ?_; rotate_left; focus (intro w hSw; (try dsimp only at hSw); go_simp; (try with_reducible rfl); done)); (try simp only [Act.put, List.setIfInBounds_toArray, List.set_cons_zero, List.set_cons_succ, List.getElem_toArray, List.getElem_cons_zero, List.getElem_cons_succ]); (refine wpAnyH_take (i := 1) (v := ?_) rfl (by kernel_rfl) (by kernel_rfl) (by kernel_rfl) (fun _ _ _ h => h) (Or.inl ⟨by rfl, ?_⟩) (by assumption) ?_; rotate_left; focus (intro w hSw; (try dsimp only at hSw); go_simp; (try with_reducible rfl); done)); (try simp only [Act.put, List.setIfInBounds_toArray, List.set_cons_zero, List.set_cons_succ, List.getElem_toArray, List.getElem_cons_zero, List.getElem_cons_succ]); (refine wpAnyH_take (i := 2) (v := ?_) rfl (by kernel_rfl) (by kernel_rfl) (by kernel_rfl) (fun _ _ _ h => h) (Or.inl ⟨by rfl, ?_⟩) (by assumption) ?_; rotate_left; focus (intro w hSw; (try dsimp only at hSw); go_simp; (try with_reducible rfl); done)); (try simp only [Act.put, List.setIfInBounds_toArray, List.set_cons_zero, List.set_cons_succ, List.getElem_toArray, List.getElem_cons_zero, List.getElem_cons_succ]); (refine wpAnyH_take (i := 3) (v := ?_) rfl (by kernel_rfl) (by kernel_rfl) (by kernel_rfl) (fun _ _ _ h => h) (Or.inl ⟨by rfl, ?_⟩) (by assumption) ?_; rotate_left; focus (intro w hSw; (try dsimp only at hSw); go_simp; (try with_reducible rfl); done)); (try simp only [Act.put, List.setIfInBounds_toArray, List.set_cons_zero, List.set_cons_succ, List.getElem_toArray, List.getElem_cons_zero, List.getElem_cons_succ]); (refine wpAnyH_take (i := 4) (v := ?_) rfl (by kernel_rfl) (by kernel_rfl) (by kernel_rfl) (fun _ _ _ h => h) (Or.inl ⟨by rfl, ?_⟩) (by assumption) ?_; rotate_left; focus (intro w hSw; (try dsimp only at hSw); go_simp; (try with_reducible rfl); done)); (try simp only [Act.put, List.setIfInBounds_toArray, List.set_cons_zero, List.set_cons_succ, List.getElem_toArray, List.getElem_cons_zero, List.getElem_cons_succ]); (refine wpAnyH_take (i := 5) (v := ?_) rfl (by kernel_rfl) (by kernel_rfl) (by kernel_rfl) (fun _ _ _ h => h) (Or.inl ⟨by rfl, ?_⟩) (by assumption) ?_; rotate_left; focus (intro w hSw; (try dsimp only at hSw); go_simp; (try with_reducible rfl); done)); (try simp only [Act.put, List.setIfInBounds_toArray, List.set_cons_zero, List.set_cons_succ, List.getElem_toArray, List.getElem_cons_zero, List.getElem_cons_succ]); (refine wpAnyH_take (i := 6) (v := ?_) rfl (by kernel_rfl) (by kernel_rfl) (by kernel_rfl) (fun _ _ _ h => h) (Or.inl ⟨by rfl, ?_⟩) (by assumption) ?_; rotate_left; focus (intro w hSw; (try dsimp only at hSw); go_simp; (try with_reducible rfl); done)); (try simp only [Act.put, List.setIfInBounds_toArray, List.set_cons_zero, List.set_cons_succ, List.getElem_toArray, List.getElem_cons_zero, List.getElem_cons_succ]); (refine wpAnyH_take (i := 7) (v := ?_) rfl (by kernel_rfl) (by kernel_rfl) (by kernel_rfl) (fun _ _ _ h => h) (Or.inl ⟨by rfl, ?_⟩) (by assumption) ?_; rotate_left; focus (intro w hSw; (try dsimp only at hSw); go_simp; (try with_reducible rfl); done)); (try simp only [Act.put, List.setIfInBounds_toArray, List.set_cons_zero, List.set_cons_succ, List.getElem_toArray, List.getElem_cons_zero, List.getElem_cons_succ]); (refine wpAnyH_take (i := 8) (v := ?_) rfl (by kernel_rfl) (by kernel_rfl) (by kernel_rfl) (fun _ _ _ h => h) (Or.inl ⟨by rfl, ?_⟩) (by assumption) ?_; rotate_left; focus (intro w hSw; (try dsimp only at hSw); go_simp; (try with_reducible rfl); done)); (try simp only [Act.put, List.setIfInBounds_toArray, List.set_cons_zero, List.set_cons_succ, List.getElem_toArray, List.getElem_cons_zero, List.getElem_cons_succ]); (refine wpAnyH_take (i := 9) (v := ?_) rfl (by kernel_rfl) (by kernel_rfl) (by kernel_rfl) (fun _ _ _ h => h) (Or.inl ⟨by rfl, ?_⟩) (by assumption) ?_; rotate_left; focus (intro w hSw; (try dsimp only at hSw); go_simp; (try with_reducible rfl); done)); (try simp only [Act.put, List.setIfInBounds_toArray, List.set_cons_zero, List.set_cons_succ, List.getElem_toArray, List.getElem_cons_zero, List.getElem_cons_succ]); (refine wpAnyH_take (i := 10) (v := ?_) rfl (by kernel_rfl) (by kernel_rfl) (by kernel_rfl) (fun _ _ _ h => h) (Or.inl ⟨by rfl, ?_⟩) (by assumption) ?_; rotate_left; focus (intro w hSw; (try dsimp only at hSw); go_simp; (try with_reducible rfl); done)); (try simp only [Act.put, List.setIfInBounds_toArray, List.set_cons_zero, List.set_cons_succ, List.getElem_toArray, List.getElem_cons_zero, List.getElem_cons_succ]); (refine wpAnyH_take (i := 11) (v := ?_) rfl (by kernel_rfl) (by kernel_rfl) (by kernel_rfl) (fun _ _ _ h => h) (Or.inl ⟨by rfl, ?_⟩) (by assumption) ?_; rotate_left; focus (intro w hSw; (try dsimp only at hSw); go_simp; (try with_reducible rfl); done)); (try simp only [Act.put, List.setIfInBounds_toArray, List.set_cons_zero, List.set_cons_succ, List.getElem_toArray, List.getElem_cons_zero, List.getElem_cons_succ]); (refine wpAnyH_take (i := 12) (v := ?_) rfl (by kernel_rfl) (by kernel_rfl) (by kernel_rfl) (fun _ _ _ h => h) (Or.inl ⟨by rfl, ?_⟩) (by assumption) ?_; rotate_left; focus (intro w hSw; (try dsimp only at hSw); go_simp; (try with_reducible rfl); done)); (try simp only [Act.put, List.setIfInBounds_toArray, List.set_cons_zero, List.set_cons_succ, List.getElem_toArray, List.getElem_cons_zero, List.getElem_cons_succ]); (refine wpAnyH_take (i := 13) (v := ?_) rfl (by kernel_rfl) (by kernel_rfl) (by kernel_rfl) (fun _ _ _ h => h) (Or.inl ⟨by rfl, ?_⟩) (by assumption) ?_; rotate_left; focus (intro w hSw; (try dsimp only at hSw); go_simp; (try with_reducible rfl); done)); (try simp only [Act.put, List.setIfInBounds_toArray, List.set_cons_zero, List.set_cons_succ, List.getElem_toArray, List.getElem_cons_zero, List.getElem_cons_succ]); (refine wpAnyH_take (i := 14) (v := ?_) rfl (by kernel_rfl) (by kernel_rfl) (by kernel_rfl) (fun _ _ _ h => h) (Or.inl ⟨by rfl, ?_⟩) (by assumption) ?_; rotate_left; focus (intro w hSw; (try dsimp only at hSw); go_simp; (try with_reducible rfl); done)); (try simp only [Act.put, List.setIfInBounds_toArray, List.set_cons_zero, List.set_cons_succ, List.getElem_toArray, List.getElem_cons_zero, List.getElem_cons_succ]))
              (refine wpAnyH_done (by kernel_rfl) ?_ _)
              go_wp2
              go_roundw
              case rel => exact ⟨i + 1, by omega, by go_num, Lib.hid (by have := Hi.out; (repeat (first | with_reducible exact Fr.refl _ _ | with_reducible refine Fr.setCell ?_ (.inr (by first | (simp; done) | (simp; omega))) _ | with_reducible refine Fr.alloc ?_ _ | with_reducible refine Fr.drew ?_ | with_reducible refine Fr.drewN ?_ _ | with_reducible refine Fr.tr ?_ (by assumption))))⟩
              case measure => simp [intOf]; omega
            · obtain rfl : i = m := by omega
              clear hlt
              obtain ⟨wo, rfl⟩ : ∃ wo : World, wo = wr := ⟨_, rfl⟩
              go_wp2
              go_loopw [9] (fun v wr => ∃ j : Nat, j ≤ n ∧ v = .int .i64 j ∧ Hid (Fr No wo wr)) (fun v _ => n - (intOf v).toNat)
              case atStart => exact ⟨0, Nat.zero_le _, rfl, Lib.hid (Fr.refl _ _)⟩
              case round =>
                obtain ⟨j, hj, rfl, Hj⟩ := hrel
                have HFs := Lib.hid (HFr.out.tr Hj.out)
                have HVs := Lib.hid (HVr.out.no Hj.out)
                by_cases hlt : j < n
                · obtain ⟨g, off, KA, kc, rfl, a0, a1, hk, hz⟩ := (Hr.out.no HFs.out).get j (by rw [← Hr.out.len]; exact hlt)
                  have R1 := Lib.hid (HE.out _ (memD j (by rw [← Hr.out.len]; exact hlt)))
                  have Hk := Lib.hid hk
                  clear hk
                  generalize rs.getD j rec0 = r at *
                  obtain ⟨ks, s⟩ := r
                  simp only at *
                  go_wp2_with (go_at_call 29; ((with_reducible refine (rfind_any (rs := ms) (k := ks) HVs.out Hk.out).mono ?_); rintro e v3 ⟨rfl, hfv3⟩; rw [R1.out]))
                  go_roundw
                  case rel => exact ⟨j + 1, by omega, by go_num, Lib.hid (by have := Hj.out; (repeat (first | with_reducible exact Fr.refl _ _ | with_reducible refine Fr.setCell ?_ (.inr (by first | (simp; done) | (simp; omega))) _ | with_reducible refine Fr.alloc ?_ _ | with_reducible refine Fr.drew ?_ | with_reducible refine Fr.drewN ?_ _ | with_reducible refine Fr.tr ?_ (by assumption))))⟩
                  case measure => simp [intOf]; omega
                · obtain rfl : j = n := by omega
                  have hle : vn1 ≤ j + i := by have := HV1.out.len; have := HL.out; have := Hr.out.len; have := Hq.out.len; omega
                  have hle2 : ((vn1 : Nat) : Int) ≤ (j : Int) + (i : Int) := by omega
                  go_wp2_with (go_at_call 22; ((with_reducible refine (merge_any (rs := ms) (qs := qs) ?_ ?_ Hsm.out Hs2.out.1 (by omega) HSm.out HS2.out).mono ?_); (focus ((have h := HVs.out); (repeat (first | with_reducible assumption | with_reducible exact Rv.none_ _ | with_reducible refine Rv.alloc ?_ _ | with_reducible refine Rv.drew ?_ | with_reducible refine Rv.drewN ?_ _ | with_reducible refine Rv.no ?_ (by assumption))))); (focus ((have h := Hq.out.no HFs.out); (repeat (first | with_reducible assumption | with_reducible exact Rv.none_ _ | with_reducible refine Rv.alloc ?_ _ | with_reducible refine Rv.drew ?_ | with_reducible refine Rv.drewN ?_ _ | with_reducible refine Rv.no ?_ (by assumption))))); rintro e v5 ⟨V5, vn5, vc5, rfl, hov5, hfv5⟩; (have hv5 := hov5.rv); (rw [HT.out] at hv5); (have HV5 := Lib.hid hv5); (clear hov5 hv5)))
                  go_wp2_with (go_at_call 19; ((with_reducible refine (same_any (rs := ms) (qs := ms) ?_ ?_).mono ?_); (focus ((have h := HV5.out); (repeat (first | with_reducible assumption | with_reducible exact Rv.none_ _ | with_reducible refine Rv.alloc ?_ _ | with_reducible refine Rv.drew ?_ | with_reducible refine Rv.drewN ?_ _ | with_reducible refine Rv.no ?_ (by assumption))))); (focus ((have h := HVs.out); (repeat (first | with_reducible assumption | with_reducible exact Rv.none_ _ | with_reducible refine Rv.alloc ?_ _ | with_reducible refine Rv.drew ?_ | with_reducible refine Rv.drewN ?_ _ | with_reducible refine Rv.no ?_ (by assumption))))); rintro e v6 ⟨rfl, hfv6⟩; rw [same_yes]))
                  go_wp2_with (go_at_call 10; ((with_reducible refine (live _).mono ?_); rintro e wl ⟨rfl, hfl⟩))
                  go_ret
                  exact ⟨rfl, by have := HFs.out; (repeat (first | with_reducible exact Fr.refl _ _ | with_reducible refine Fr.setCell ?_ (.inr (by first | (simp; done) | (simp; omega))) _ | with_reducible refine Fr.alloc ?_ _ | with_reducible refine Fr.drew ?_ | with_reducible refine Fr.drewN ?_ _ | with_reducible refine Fr.tr ?_ (by assumption)))⟩
end Go.Proofs.Ytbncakbgljhnkaa.Qh11
