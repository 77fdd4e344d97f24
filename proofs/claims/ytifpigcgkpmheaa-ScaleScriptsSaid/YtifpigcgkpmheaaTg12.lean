/- Layer 12, law: whatever is inserted, removed and looked for, a scale is what the document says. -/
import Derived.Test.YtifpigcgkpmheaaTf12
import Derived.Test.YtifpigcgkpmheaaSx12
import Derived.Test.YtifpigcgkpmheaaTa12
import Derived.Deep.CutBlock
import Derived.Deep.DeepCutAuto
import Derived.StillTailTactics
namespace Go.Proofs.Ytifpigcgkpmheaa.Tg12
open Go.RowKit Go.Proofs.Ytifpigcgkpmheaa.Pk08 Go.Proofs.Ytifpigcgkpmheaa.Base Go.Proofs.Ytifpigcgkpmheaa.App Go.Proofs.Ytifpigcgkpmheaa.Ty Go.Proofs.Ytifpigcgkpmheaa.Str Go.Proofs.Ytifpigcgkpmheaa.Ky Go.Proofs.Ytifpigcgkpmheaa.Iv Go.Proofs.Ytifpigcgkpmheaa.Bx Go.Proofs.Ytifpigcgkpmheaa.Bo Go.Proofs.Ytifpigcgkpmheaa.As Go.Proofs.Ytifpigcgkpmheaa.Ro Go.Proofs.Ytifpigcgkpmheaa.Pl08 Go.Proofs.Ytifpigcgkpmheaa.Kc08 Go.Proofs.Ytifpigcgkpmheaa.Ke08 Go.Proofs.Ytifpigcgkpmheaa.Ki08 Go.Proofs.Ytifpigcgkpmheaa.Ka08 Go.Proofs.Ytifpigcgkpmheaa.Ic Go.Proofs.Ytifpigcgkpmheaa.In Go.Proofs.Ytifpigcgkpmheaa.Fa Go.Proofs.Ytifpigcgkpmheaa.Sa12 Go.Proofs.Ytifpigcgkpmheaa.Sb12 Go.Proofs.Ytifpigcgkpmheaa.Sc12 Go.Proofs.Ytifpigcgkpmheaa.Sd12 Go.Proofs.Ytifpigcgkpmheaa.Se12 Go.Proofs.Ytifpigcgkpmheaa.Sf12 Go.Proofs.Ytifpigcgkpmheaa.Sg12 Go.Proofs.Ytifpigcgkpmheaa.Sh12 Go.Proofs.Ytifpigcgkpmheaa.Si12 Go.Proofs.Ytifpigcgkpmheaa.Sk12 Go.Proofs.Ytifpigcgkpmheaa.Sl12 Go.Proofs.Ytifpigcgkpmheaa.St12 Go.Proofs.Ytifpigcgkpmheaa.Sv12 Go.Proofs.Ytifpigcgkpmheaa.Sw12 Go.Proofs.Ytifpigcgkpmheaa.Sw12 Go.Proofs.Ytifpigcgkpmheaa.Kj08 Go.Proofs.Ytifpigcgkpmheaa.Kh08 Go.Proofs.Ytifpigcgkpmheaa.Ky08 Go.Proofs.Ytifpigcgkpmheaa.Sm12 Go.Proofs.Ytifpigcgkpmheaa.Wd Go.Proofs.Ytifpigcgkpmheaa.Kw08 Go.Proofs.Ytifpigcgkpmheaa.Kx08 Go.Proofs.Ytifpigcgkpmheaa.Ka08 Go.Proofs.Ytifpigcgkpmheaa.Sz12 Go.Proofs.Ytifpigcgkpmheaa.Td12 Go.Proofs.Ytifpigcgkpmheaa.Tc12 Go.Proofs.Ytifpigcgkpmheaa.Te12 Go.Proofs.Ytifpigcgkpmheaa.Sn12 Go.Proofs.Ytifpigcgkpmheaa.So12 Go.Proofs.Ytifpigcgkpmheaa.Sx12 Go.Proofs.Ytifpigcgkpmheaa.Ta12 Go.Proofs.Ytifpigcgkpmheaa.Tf12
set_option linter.unusedVariables false
set_option linter.unusedSimpArgs false
section
variable {E E1 E2 E3 E4 : TypeId} (w : World)
set_option maxRecDepth 8000 in
set_option maxHeartbeats 12800000 in
theorem law_scripts (d : Int) (hzd : (Lit.int .i64 d).wf = true) (A : Option Addr) (n c : Nat) (x : List (opT E1 E2 E3 E4).D) (h : Rd (.sl E (opT E1 E2 E3 E4)) w x [.slice A n c]) :
    Calls Try.prog 7 #[.int .i64 d, .slice A n c] w fun e w' => e = .returned (.bool true) ∧ Fr No w w' := by
  have HS := Lib.hid (Ops.of_rd h)
  have hcap := HS.out.cap
  have hmost := HS.out.most
  have hmx : maxLen ≤ 9223372036854775807 := by decide
  clear h x hzd
  by_cases hd : 1 ≤ d ∧ d ≤ 6
  · obtain ⟨d0, rfl⟩ : ∃ d0 : Nat, d = (d0 : Int) := ⟨d.toNat, by omega⟩
    have hd1 : 1 ≤ d0 := by omega
    have hd6 : d0 ≤ 6 := by omega
    have HG0 := Lib.hid (gd_new hd1 hd6)
    have Hd := Lib.hid (show 1 ≤ d0 ∧ d0 ≤ 6 from ⟨hd1, hd6⟩)
    clear hd hd1 hd6
    go_enter Try.func7, Try.ntmps7
    go_wp2_with first
      | (go_at_call 27; ((with_reducible refine (os_new (w0 := w) Hd.out.1 Hd.out.2 (Fr.refl _ _)).mono ?_); rintro en w1 ⟨gs, rfl, hs1⟩))
      | (go_at_call 28; ((with_reducible refine (tw_start Hd.out.1 Hd.out.2 hs1).mono ?_); rintro en w2 ⟨gk, rfl, hs2⟩))
      | fail
    have HD0 := Lib.hid hs2
    clear hs1 hs2
    go_loopw [9] (fun v wr => ∃ i : Nat, v = .int .i64 i ∧ i ≤ n ∧ i ≤ 60 ∧ Hid (∃ rows, TwoSc 0 0 w wr gs gk rows rows ∧ Gd rows)) (fun v _ => n - (intOf v).toNat)
    case atStart => exact ⟨0, rfl, Nat.zero_le _, Nat.zero_le _, Lib.hid ⟨_, HD0.out, HG0.out⟩⟩
    case round =>
      obtain ⟨i, rfl, hin, hi60, Hi⟩ := hrel
      obtain ⟨rows, hD, hg⟩ := Hi.out
      have HDi := Lib.hid hD
      have HGd := Lib.hid hg
      clear Hi hD hg HD0 HG0
      by_cases hlt : i < n
      · by_cases hlt60 : i < 60
        · obtain ⟨b, off, z, a, ii, x, L, ln, lc, H, hn, hc, P, pn, pc, Y, yn, yc, lo, hi, xs, ys, rfl, ⟨q0, q1, q2, q3, q4, q5, q6, q7⟩, hx, hl, hh, hX, hY⟩ := HS.out.at_ i hlt
          have a0 := cel_no q0 HDi.out.fr
          have a1 := cel_no q1 HDi.out.fr
          have a2 := cel_no q2 HDi.out.fr
          have a3 := cel_no q3 HDi.out.fr
          have a4 := cel_no q4 HDi.out.fr
          have a5 := cel_no q5 HDi.out.fr
          have a6 := cel_no q6 HDi.out.fr
          have a7 := cel_no q7 HDi.out.fr
          clear q0 q1 q2 q3 q4 q5 q6 q7
          have HLl := Lib.hid (fun W (f : Fr No w W) => hl.no f)
          have HHl := Lib.hid (fun W (f : Fr No w W) => hh.no f)
          have HXl := Lib.hid (fun W (f : Fr No w W) => hX.no f)
          have HYl := Lib.hid (fun W (f : Fr No w W) => hY.no f)
          have hx := Lib.hid hx
          have h1 : ln ≤ maxLen := Nat.le_trans hl.cap hl.most
          have h2 : hn ≤ maxLen := Nat.le_trans hh.cap hh.most
          have h3 : pn ≤ maxLen := Nat.le_trans hX.cap hX.most
          have h4 : yn ≤ maxLen := Nat.le_trans hY.cap hY.most
          have HO := Lib.hid (Ob.new wr #[.int .i64 z, .int .i64 a, .int .i64 ii, .int .u32 (x : Int), .slice L ln lc, .slice H hn hc, .slice P pn pc, .slice Y yn yc] 65)
          have HSh := Lib.hid (fun W => short_any (w := W) (L := L) (H := H) (X := P) (Y := Y) (lc := lc) (hc := hc) (xc := pc) (yc := yc) (x := x) (z := z) (a := a) (i := ii) h1 h2 h3 h4)
          have HFa := Lib.hid (show Fr No wr (wr.alloc (.cells #[.int .i64 z, .int .i64 a, .int .i64 ii, .int .u32 (x : Int), .slice L ln lc, .slice H hn hc, .slice P pn pc, .slice Y yn yc] 65)) by (repeat (first | with_reducible exact Fr.refl _ _ | with_reducible refine Fr.setCell ?_ (.inr (by first | (simp; done) | (simp; omega))) _ | with_reducible refine Fr.alloc ?_ _ | with_reducible refine Fr.drew ?_ | with_reducible refine Fr.drewN ?_ _ | with_reducible refine Fr.tr ?_ (by assumption))))
          clear hl hh hX hY h1 h2 h3 h4
          cases hb : shortB ln hn pn yn with
          | false =>
            rw [hb] at HSh
            clear hb
            go_wp2_with first
              | (go_at_call 29; ((with_reducible refine (HSh.out _).mono ?_); rintro e w3 ⟨rfl, hf3⟩))
              | (go_at_call 9; ((with_reducible refine (live _).mono ?_); rintro e wl ⟨rfl, hfl⟩))
              | fail
            go_ret
            exact ⟨rfl, ((HDi.out.fr.tr HFa.out).tr hf3).tr hfl⟩
          | true =>
            rw [hb] at HSh
            clear hb
            have HES := Lib.hid (fun (X Z : Nat) (V : World) (h : TwoSc X Z w V gs gk rows rows) => tw_encS h HGd.out)
            have HEK := Lib.hid (fun (X Z : Nat) (V : World) (h : TwoSc X Z w V gs gk rows rows) => tw_encK h HGd.out)
            have HEO := Lib.hid (fun (X Z : Nat) (V : World) (g : Nat) (h : Owin X Z V g rows) => ow_enc h HGd.out)
            generalize txt (encS rows) = S at *
            go_upto_block 2 with first
              | (go_at_call 29; ((with_reducible refine (HSh.out _).mono ?_); rintro e w3 ⟨rfl, hf3⟩))
              | (go_at_call 30; ((with_reducible refine (HEK.out _ _ _ (HDi.out.no (HFa.out.tr hf3))).mono ?_); rintro en w4 ⟨rfl, hf4⟩))
              | (go_at_call 31; ((with_reducible refine (tw_copy (HDi.out.no ((HFa.out.tr hf3).tr hf4)) HGd.out).mono ?_); rintro en w5 ⟨go, rfl, hc5, hf5⟩; (obtain ⟨e0, e1, e2, e3, e4, e5, e6, e7⟩ := op8 (((HO.out.no hf3).no hf4).no hf5))))
              | fail
            have HF5 := Lib.hid (show Fr No wr w5 from ((HFa.out.tr hf3).tr hf4).tr hf5)
            have HK5 := Lib.hid (Owin.wide hc5 ((HFa.out.tr hf3).tr hf4).size)
            have HD5 := Lib.hid (HDi.out.bar HF5.out w5.heap.size)
            have HO5 := Lib.hid (((HO.out.no hf3).no hf4).no hf5)
            have hol := HO5.out.lt
            have HXn := Lib.hid (show ¬ (wr.heap.size < wr.heap.size ∨ w5.heap.size ≤ wr.heap.size) by omega)
            have HZ5 := Lib.hid (Nat.le_refl w5.heap.size)
            clear e0 e1 e2 e3 e4 e5 e6 e7 hc5 hf3 hf4 hf5 HO HSh HFa a0 a1 a2 a3 a4 a5 a6 a7 HDi HF5 hol
            obtain ⟨Z, hZ⟩ : ∃ Z, Z = w5.heap.size := ⟨_, rfl⟩
            rw [← hZ] at HD5 HK5 HXn
            have HZ5 := Lib.hid (show Z ≤ w5.heap.size by omega)
            clear hZ
            generalize wr.heap.size = X at *
            go_cut [13] (fun v wx => v = .bool true ∧ Hid (∃ rows2, TwoSc X Z w wx gs gk rows2 rows2 ∧ Gd rows2 ∧ Owin X Z wx go rows))
            case first =>
              obtain ⟨a0, a1, a2, a3, a4, a5, a6, a7⟩ := op8 HO5.out
              by_cases hz0 : z = 0
              · as_aux_lemma =>
                  subst hz0
                  have HG2 := Lib.hid (Gd.ins HGd.out hx.out a)
                  have HIs := Lib.hid (fun (V : World) (h : TwoSc X Z w V gs gk rows rows) (hz : Z ≤ V.heap.size) => tw_insS h hz HGd.out a hx.out)
                  have HIk := Lib.hid (fun (V : World) (h : TwoSc X Z w V gs gk (insL rows a x) rows) (hz : Z ≤ V.heap.size) => tw_insK h hz HGd.out a hx.out)
                  generalize insL rows a x = rows2 at *
                  generalize insI rows a x = pi at *
                  generalize insE rows a x = pe at *
                  go_wp2_with first
                    | (go_at_call 21; ((with_reducible refine (HIs.out _ HD5.out HZ5.out).mono ?_); rintro en w6 ⟨rfl, hd6, hf6⟩; (have HO6 := Lib.hid (Ob.fr HO5.out hf6 HXn.out)); (have HK6 := Lib.hid (HK5.out.past hf6)); (have hz6 := Nat.le_trans HZ5.out hf6.size); (obtain ⟨b0, b1, b2, b3, b4, b5, b6, b7⟩ := op8 HO6.out)))
                    | (go_at_call 32; ((with_reducible refine (HIk.out _ hd6 hz6).mono ?_); rintro en w7 ⟨rfl, hd7, hf7⟩; (have HK7 := HK6.out.past hf7)))
                    | fail
                  have hf7' := hd7.fr
                  clear HIs HIk HO5 hd6 hf6 hf7 HK6 HD5 HK5 HO6 b0 b1 b2 b3 b4 b5 b6 b7 a0 a1 a2 a3 a4 a5 a6 a7
                  go_meet
                  exact ⟨rfl, Lib.hid ⟨_, hd7, HG2.out, HK7⟩⟩
              · by_cases hz1 : z = 1
                · as_aux_lemma =>
                    subst hz1
                    have HG2 := Lib.hid (Gd.rem HGd.out a ii)
                    have HRs := Lib.hid (fun (V : World) (rk : List (List Nat)) (h : TwoSc X Z w V gs gk rows rk) (hz : Z ≤ V.heap.size) => tw_remS h hz HGd.out a ii)
                    have HRk := Lib.hid (fun (V : World) (rs : List (List Nat)) (h : TwoSc X Z w V gs gk rs rows) (hz : Z ≤ V.heap.size) => tw_remK h hz HGd.out a ii)
                    generalize remL rows a ii = rows2 at *
                    generalize remE rows a ii = pe at *
                    go_upto_region 23 with fail
                    (refine wp_region_held_drew (S := fun w' => w'.cell? ⟨X, 1, none⟩ = some (.int .i64 a) ∧ w'.cell? ⟨X, 2, none⟩ = some (.int .i64 ii)) (by kernel_rfl) ?_ (fun hHeld => ?_); focus ((try dsimp only); (refine ⟨?_, ?_⟩; (repeat (first | with_reducible assumption | with_reducible refine cel_alloc ?_ _ | with_reducible refine cel_drew ?_ | with_reducible refine cel_drewN ?_ _ | with_reducible refine cel_set ?_ (by first | (simp; done) | (simp; omega)) _ | with_reducible refine cel_no ?_ (by assumption))); (repeat (first | with_reducible assumption | with_reducible refine cel_alloc ?_ _ | with_reducible refine cel_drew ?_ | with_reducible refine cel_drewN ?_ _ | with_reducible refine cel_set ?_ (by first | (simp; done) | (simp; omega)) _ | with_reducible refine cel_no ?_ (by assumption)))); done))
                    ((refine wpAnyH_take (i := 0) (v := ?_) rfl (by kernel_rfl) (by kernel_rfl) (by kernel_rfl) (fun _ _ _ h => h) (Or.inl ⟨by rfl, ?_⟩) (by assumption) ?_; rotate_left; focus (intro w hSw; (try dsimp only at hSw); go_simp; (try with_reducible rfl); done)); (try simp only [Act.put, List.setIfInBounds_toArray, List.set_cons_zero, List.set_cons_succ, List.getElem_toArray, List.getElem_cons_zero, List.getElem_cons_succ]); (refine wpAnyH_take (i := 1) (v := ?_) rfl (by kernel_rfl) (by kernel_rfl) (by kernel_rfl) (fun _ _ _ h => h) (Or.inl ⟨by rfl, ?_⟩) (by assumption) ?_; rotate_left; focus (intro w hSw; (try dsimp only at hSw); go_simp; (try with_reducible rfl); done)); (try simp only [Act.put, List.setIfInBounds_toArray, List.set_cons_zero, List.set_cons_succ, List.getElem_toArray, List.getElem_cons_zero, List.getElem_cons_succ]); (refine wpAnyH_take (i := 2) (v := ?_) rfl (by kernel_rfl) (by kernel_rfl) (by kernel_rfl) (fun _ _ _ h => h) (Or.inl ⟨by rfl, ?_⟩) (by assumption) ?_; rotate_left; focus (intro w hSw; (try dsimp only at hSw); go_simp; (try with_reducible rfl); done)); (try simp only [Act.put, List.setIfInBounds_toArray, List.set_cons_zero, List.set_cons_succ, List.getElem_toArray, List.getElem_cons_zero, List.getElem_cons_succ]); (refine wpAnyH_take (i := 3) (v := ?_) rfl (by kernel_rfl) (by kernel_rfl) (by kernel_rfl) (fun _ _ _ h => h) (Or.inl ⟨by rfl, ?_⟩) (by assumption) ?_; rotate_left; focus (intro w hSw; (try dsimp only at hSw); go_simp; (try with_reducible rfl); done)); (try simp only [Act.put, List.setIfInBounds_toArray, List.set_cons_zero, List.set_cons_succ, List.getElem_toArray, List.getElem_cons_zero, List.getElem_cons_succ]); (refine wpAnyH_take (i := 4) (v := ?_) rfl (by kernel_rfl) (by kernel_rfl) (by kernel_rfl) (fun _ _ _ h => h) (Or.inl ⟨by rfl, ?_⟩) (by assumption) ?_; rotate_left; focus (intro w hSw; (try dsimp only at hSw); go_simp; (try with_reducible rfl); done)); (try simp only [Act.put, List.setIfInBounds_toArray, List.set_cons_zero, List.set_cons_succ, List.getElem_toArray, List.getElem_cons_zero, List.getElem_cons_succ]); (refine wpAnyH_take (i := 6) (v := ?_) rfl (by kernel_rfl) (by kernel_rfl) (by kernel_rfl) (fun _ _ _ h => h) (Or.inl ⟨by rfl, ?_⟩) (by assumption) ?_; rotate_left; focus (intro w hSw; (try dsimp only at hSw); go_simp; (try with_reducible rfl); done)); (try simp only [Act.put, List.setIfInBounds_toArray, List.set_cons_zero, List.set_cons_succ, List.getElem_toArray, List.getElem_cons_zero, List.getElem_cons_succ]); (refine wpAnyH_take (i := 7) (v := ?_) rfl (by kernel_rfl) (by kernel_rfl) (by kernel_rfl) (fun _ _ _ h => h) (Or.inl ⟨by rfl, ?_⟩) (by assumption) ?_; rotate_left; focus (intro w hSw; (try dsimp only at hSw); go_simp; (try with_reducible rfl); done)); (try simp only [Act.put, List.setIfInBounds_toArray, List.set_cons_zero, List.set_cons_succ, List.getElem_toArray, List.getElem_cons_zero, List.getElem_cons_succ]); (refine wpAnyH_take (i := 8) (v := ?_) rfl (by kernel_rfl) (by kernel_rfl) (by kernel_rfl) (fun _ _ _ h => h) (Or.inl ⟨by rfl, ?_⟩) (by assumption) ?_; rotate_left; focus (intro w hSw; (try dsimp only at hSw); go_simp; (try with_reducible rfl); done)); (try simp only [Act.put, List.setIfInBounds_toArray, List.set_cons_zero, List.set_cons_succ, List.getElem_toArray, List.getElem_cons_zero, List.getElem_cons_succ]); (refine wpAnyH_take (i := 9) (v := ?_) rfl (by kernel_rfl) (by kernel_rfl) (by kernel_rfl) (fun _ _ _ h => h) (Or.inl ⟨by rfl, ?_⟩) (by assumption) ?_; rotate_left; focus (intro w hSw; (try dsimp only at hSw); go_simp; (try with_reducible rfl); done)); (try simp only [Act.put, List.setIfInBounds_toArray, List.set_cons_zero, List.set_cons_succ, List.getElem_toArray, List.getElem_cons_zero, List.getElem_cons_succ]); (refine wpAnyH_take (i := 10) (v := ?_) rfl (by kernel_rfl) (by kernel_rfl) (by kernel_rfl) (fun _ _ _ h => h) (Or.inl ⟨by rfl, ?_⟩) (by assumption) ?_; rotate_left; focus (intro w hSw; (try dsimp only at hSw); go_simp; (try with_reducible rfl); done)); (try simp only [Act.put, List.setIfInBounds_toArray, List.set_cons_zero, List.set_cons_succ, List.getElem_toArray, List.getElem_cons_zero, List.getElem_cons_succ]))
                    have HZd : Z ≤ w5.drew.heap.size := HZ5.out
                    (refine wpAnyH_ready (rs := [5]) (by kernel_rfl) (by simp) ?_; refine AllReadyH.cons rfl (fun K hK => ?_) AllReadyH.nil; (try simp only [Act.put, List.setIfInBounds_toArray, List.set_cons_zero, List.set_cons_succ, List.getElem_toArray, List.getElem_cons_zero, List.getElem_cons_succ]); go_simp; (go_at_call 22; ((with_reducible refine (HRs.out _ _ (HD5.out.no (Fr.refl No w5).drew) HZd).mono ?_); rintro en w6 ⟨rfl, hd6, hf6⟩; (have HO6 := Lib.hid (Ob.fr (HO5.out.drew) hf6 HXn.out)); (have HK6 := Lib.hid ((HK5.out.no (Fr.refl No w5).drew).past hf6)); (have hz6 := Nat.le_trans HZd hf6.size); (obtain ⟨b0, b1, b2, b3, b4, b5, b6, b7⟩ := op8 HO6.out))); (try go_wp2_with fail); refine hK.out _ _ ?_ (fun hHeld => ?_); focus ((try dsimp only); (refine ⟨?_, ?_⟩; (repeat (first | with_reducible assumption | with_reducible refine cel_alloc ?_ _ | with_reducible refine cel_drew ?_ | with_reducible refine cel_drewN ?_ _ | with_reducible refine cel_set ?_ (by first | (simp; done) | (simp; omega)) _ | with_reducible refine cel_no ?_ (by assumption))); (repeat (first | with_reducible assumption | with_reducible refine cel_alloc ?_ _ | with_reducible refine cel_drew ?_ | with_reducible refine cel_drewN ?_ _ | with_reducible refine cel_set ?_ (by first | (simp; done) | (simp; omega)) _ | with_reducible refine cel_no ?_ (by assumption)))); done)); (clear hK K); (try simp only [Act.put, List.setIfInBounds_toArray, List.set_cons_zero, List.set_cons_succ, List.getElem_toArray, List.getElem_cons_zero, List.getElem_cons_succ])
                    (refine wpAnyH_ready (rs := [11]) (by kernel_rfl) (by simp) ?_; refine AllReadyH.cons rfl (fun K hK => ?_) AllReadyH.nil; (try simp only [Act.put, List.setIfInBounds_toArray, List.set_cons_zero, List.set_cons_succ, List.getElem_toArray, List.getElem_cons_zero, List.getElem_cons_succ]); go_simp; (go_at_call 33; ((with_reducible refine (HRk.out _ _ hd6 hz6).mono ?_); rintro en w7 ⟨rfl, hd7, hf7⟩; (have HK7 := HK6.out.past hf7); (have HO7 := Lib.hid (Ob.fr HO6.out hf7 HXn.out)); (obtain ⟨e0, e1, e2, e3, e4, e5, e6, e7⟩ := op8 HO7.out))); (try go_wp2_with fail); refine hK.out _ _ ?_ (fun hHeld => ?_); focus ((try dsimp only); (refine ⟨?_, ?_⟩; (repeat (first | with_reducible assumption | with_reducible refine cel_alloc ?_ _ | with_reducible refine cel_drew ?_ | with_reducible refine cel_drewN ?_ _ | with_reducible refine cel_set ?_ (by first | (simp; done) | (simp; omega)) _ | with_reducible refine cel_no ?_ (by assumption))); (repeat (first | with_reducible assumption | with_reducible refine cel_alloc ?_ _ | with_reducible refine cel_drew ?_ | with_reducible refine cel_drewN ?_ _ | with_reducible refine cel_set ?_ (by first | (simp; done) | (simp; omega)) _ | with_reducible refine cel_no ?_ (by assumption)))); done)); (clear hK K); (try simp only [Act.put, List.setIfInBounds_toArray, List.set_cons_zero, List.set_cons_succ, List.getElem_toArray, List.getElem_cons_zero, List.getElem_cons_succ])
                    (refine wpAnyH_take (i := 12) (v := ?_) rfl (by kernel_rfl) (by kernel_rfl) (by kernel_rfl) (fun _ _ _ h => h) (Or.inl ⟨by rfl, ?_⟩) (by assumption) ?_; rotate_left; focus (intro w hSw; (try dsimp only at hSw); go_simp; (try with_reducible rfl); done)); (try simp only [Act.put, List.setIfInBounds_toArray, List.set_cons_zero, List.set_cons_succ, List.getElem_toArray, List.getElem_cons_zero, List.getElem_cons_succ])
                    (refine wpAnyH_ready (rs := [13]) (by kernel_rfl) (by simp) ?_; refine AllReadyH.cons rfl (fun K hK => ?_) AllReadyH.nil; (try simp only [Act.put, List.setIfInBounds_toArray, List.set_cons_zero, List.set_cons_succ, List.getElem_toArray, List.getElem_cons_zero, List.getElem_cons_succ]); go_simp; refine hK.out _ _ ?_ (fun hHeld => ?_); focus ((try dsimp only); (refine ⟨?_, ?_⟩; (repeat (first | with_reducible assumption | with_reducible refine cel_alloc ?_ _ | with_reducible refine cel_drew ?_ | with_reducible refine cel_drewN ?_ _ | with_reducible refine cel_set ?_ (by first | (simp; done) | (simp; omega)) _ | with_reducible refine cel_no ?_ (by assumption))); (repeat (first | with_reducible assumption | with_reducible refine cel_alloc ?_ _ | with_reducible refine cel_drew ?_ | with_reducible refine cel_drewN ?_ _ | with_reducible refine cel_set ?_ (by first | (simp; done) | (simp; omega)) _ | with_reducible refine cel_no ?_ (by assumption)))); done)); (clear hK K); (try simp only [Act.put, List.setIfInBounds_toArray, List.set_cons_zero, List.set_cons_succ, List.getElem_toArray, List.getElem_cons_zero, List.getElem_cons_succ])
                    (refine wpAnyH_done (by kernel_rfl) ?_ _)
                    have hf7' := hd7.fr
                    clear HRs HRk HO5 hd6 hf6 hf7 HK6 HD5 HK5 HO6 HO7 b0 b1 b2 b3 b4 b5 b6 b7 e0 e1 e2 e3 e4 e5 e6 e7 a0 a1 a2 a3 a4 a5 a6 a7
                    go_wp2_with fail
                    go_meet
                    exact ⟨rfl, Lib.hid ⟨_, hd7, HG2.out, HK7⟩⟩
                · by_cases hz2 : z = 2
                  · as_aux_lemma =>
                      subst hz2
                      have HFs := Lib.hid (fun (V : World) (f : Fr No w5 V) => tw_findS (HD5.out.no f) HGd.out (HLl.out _ (HD5.out.fr.tr f)))
                      have HFk := Lib.hid (fun (V : World) (f : Fr No w5 V) => tw_findK (HD5.out.no f) HGd.out (HLl.out _ (HD5.out.fr.tr f)))
                      generalize fX rows ln lo = fx at *
                      rcases chk_rng ln rows.length with hck | hck
                      · rw [hck] at HFs HFk
                        clear hck
                        go_wp2_with first
                          | (go_at_call 18; ((with_reducible refine (HFs.out _ (Fr.refl _ _)).mono ?_); rintro en w6 ⟨A6, n6, c6, rfl, hi6, hf6⟩; (have HO6 := Lib.hid (HO5.out.no hf6)); (obtain ⟨b0, b1, b2, b3, b4, b5, b6, b7⟩ := op8 HO6.out)))
                          | (go_at_call 34; ((with_reducible refine (HFk.out _ hf6).mono ?_); rintro en w7 ⟨A7, n7, c7, rfl, hi7, hf7⟩))
                          | (go_at_call 13; ((with_reducible refine (pQ (xs := fx) ?_ ?_).mono ?_); (focus ((repeat (first | with_reducible assumption | ((with_reducible refine Iv.lit_new _ _ _ _ _ _ ?_ ?_ ?_ ?_) <;> (first | (simp; done) | rfl | decide)) | with_reducible exact Iv.none_ _ | with_reducible refine Iv.alloc ?_ _ | with_reducible refine Iv.drew ?_ | with_reducible refine Iv.drewN ?_ _ | with_reducible refine Iv.no ?_ (by assumption))); done)); (focus ((repeat (first | with_reducible assumption | ((with_reducible refine Iv.lit_new _ _ _ _ _ _ ?_ ?_ ?_ ?_) <;> (first | (simp; done) | rfl | decide)) | with_reducible exact Iv.none_ _ | with_reducible refine Iv.alloc ?_ _ | with_reducible refine Iv.drew ?_ | with_reducible refine Iv.drewN ?_ _ | with_reducible refine Iv.no ?_ (by assumption))); done)); rintro en w8 ⟨rfl, hf8⟩))
                          | fail
                        have hd8 := HD5.out.no ((hf6.tr hf7).tr hf8)
                        have HK8 := HK5.out.no ((hf6.tr hf7).tr hf8)
                        have HG2 := HGd
                        clear HFs HFk HO5 HO6 b0 b1 b2 b3 b4 b5 b6 b7 a0 a1 a2 a3 a4 a5 a6 a7 hi6 hi7 hf6 hf7 hf8
                        go_meet
                        exact ⟨rfl, Lib.hid ⟨_, hd8, HG2.out, HK8⟩⟩
                      · rw [hck] at HFs HFk
                        clear hck
                        go_wp2_with first
                          | (go_at_call 18; ((with_reducible refine (HFs.out _ (Fr.refl _ _)).mono ?_); rintro en w6 ⟨A6, n6, c6, rfl, hi6, hf6⟩; (have HO6 := Lib.hid (HO5.out.no hf6)); (obtain ⟨b0, b1, b2, b3, b4, b5, b6, b7⟩ := op8 HO6.out)))
                          | (go_at_call 34; ((with_reducible refine (HFk.out _ hf6).mono ?_); rintro en w7 ⟨A7, n7, c7, rfl, hi7, hf7⟩))
                          | (go_at_call 13; ((with_reducible refine (pQ (xs := fx) ?_ ?_).mono ?_); (focus ((repeat (first | with_reducible assumption | ((with_reducible refine Iv.lit_new _ _ _ _ _ _ ?_ ?_ ?_ ?_) <;> (first | (simp; done) | rfl | decide)) | with_reducible exact Iv.none_ _ | with_reducible refine Iv.alloc ?_ _ | with_reducible refine Iv.drew ?_ | with_reducible refine Iv.drewN ?_ _ | with_reducible refine Iv.no ?_ (by assumption))); done)); (focus ((repeat (first | with_reducible assumption | ((with_reducible refine Iv.lit_new _ _ _ _ _ _ ?_ ?_ ?_ ?_) <;> (first | (simp; done) | rfl | decide)) | with_reducible exact Iv.none_ _ | with_reducible refine Iv.alloc ?_ _ | with_reducible refine Iv.drew ?_ | with_reducible refine Iv.drewN ?_ _ | with_reducible refine Iv.no ?_ (by assumption))); done)); rintro en w8 ⟨rfl, hf8⟩))
                          | fail
                        have hd8 := HD5.out.no ((hf6.tr hf7).tr hf8)
                        have HK8 := HK5.out.no ((hf6.tr hf7).tr hf8)
                        have HG2 := HGd
                        clear HFs HFk HO5 HO6 b0 b1 b2 b3 b4 b5 b6 b7 a0 a1 a2 a3 a4 a5 a6 a7 hi6 hi7 hf6 hf7 hf8
                        go_meet
                        exact ⟨rfl, Lib.hid ⟨_, hd8, HG2.out, HK8⟩⟩
                  · by_cases hz3 : z = 3
                    · as_aux_lemma =>
                        subst hz3
                        have HFs := Lib.hid (fun (V : World) (f : Fr No w5 V) => tw_boxS (HD5.out.no f) HGd.out (HXl.out _ (HD5.out.fr.tr f)) (HYl.out _ (HD5.out.fr.tr f)))
                        have HFk := Lib.hid (fun (V : World) (f : Fr No w5 V) => tw_boxK (HD5.out.no f) HGd.out (HXl.out _ (HD5.out.fr.tr f)) (HYl.out _ (HD5.out.fr.tr f)))
                        generalize bXl rows xs ys = bl at *
                        generalize bXh rows xs ys = bh at *
                        generalize bXz rows xs ys = bz at *
                        go_wp2_with first
                          | (go_at_call 19; ((with_reducible refine (HFs.out _ (Fr.refl _ _)).mono ?_); rintro en w6 ⟨A6, n6, c6, B6, m6, d6, rfl, hk6, hq6, hf6⟩; (obtain ⟨b0, b1, b2, b3, b4, b5, b6, b7⟩ := op8 (show Ob (w6.alloc (.cells #[.slice A6 n6 c6, .slice B6 m6 d6] 43)) X #[.int .i64 3, .int .i64 a, .int .i64 ii, .int .u32 (x : Int), .slice L ln lc, .slice H hn hc, .slice P pn pc, .slice Y yn yc] 65 by have ho := HO5.out; (repeat (first | with_reducible assumption | with_reducible refine Ob.other ?_ (by first | (simp; done) | (simp; omega)) _ | ((with_reducible refine Ob.new_ _ _ _ _ ?_) <;> (simp; done)) | with_reducible refine Ob.alloc ?_ _ | with_reducible refine Ob.drew ?_ | with_reducible refine Ob.drewN ?_ _ | with_reducible refine Ob.no ?_ (by assumption)))))))
                          | (go_at_call 35; ((with_reducible refine (HFk.out _ ?_).mono ?_); (focus ((repeat (first | with_reducible exact Fr.refl _ _ | with_reducible refine Fr.setCell ?_ (.inr (by first | (simp; done) | (simp; omega))) _ | with_reducible refine Fr.alloc ?_ _ | with_reducible refine Fr.drew ?_ | with_reducible refine Fr.drewN ?_ _ | with_reducible refine Fr.tr ?_ (by assumption))); done)); rintro en w7 ⟨A7, n7, c7, B7, m7, d7, rfl, hk7, hq7, hf7⟩; (obtain ⟨u0, u1, _, _⟩ := Ob.four (show Ob (w7.alloc (.cells #[.slice A7 n7 c7, .slice B7 m7 d7] 43)) w6.heap.size #[.slice A6 n6 c6, .slice B6 m6 d6] 43 by (repeat (first | with_reducible assumption | with_reducible refine Ob.other ?_ (by first | (simp; done) | (simp; omega)) _ | ((with_reducible refine Ob.new_ _ _ _ _ ?_) <;> (simp; done)) | with_reducible refine Ob.alloc ?_ _ | with_reducible refine Ob.drew ?_ | with_reducible refine Ob.drewN ?_ _ | with_reducible refine Ob.no ?_ (by assumption)))))))
                          | (go_at_call 26; ((with_reducible refine (sameBox_self (lo := bl) (hi := bh) ?_ ?_ ?_ ?_).mono ?_); (focus ((repeat (first | with_reducible assumption | ((with_reducible refine Kv.lit_new _ _ _ _ _ _ ?_ ?_ ?_ ?_) <;> (first | (simp; done) | rfl | decide)) | with_reducible exact Kv.none_ _ | with_reducible refine Kv.alloc ?_ _ | with_reducible refine Kv.drew ?_ | with_reducible refine Kv.drewN ?_ _ | with_reducible refine Kv.no ?_ (by assumption))); done)); (focus ((repeat (first | with_reducible assumption | ((with_reducible refine Kv.lit_new _ _ _ _ _ _ ?_ ?_ ?_ ?_) <;> (first | (simp; done) | rfl | decide)) | with_reducible exact Kv.none_ _ | with_reducible refine Kv.alloc ?_ _ | with_reducible refine Kv.drew ?_ | with_reducible refine Kv.drewN ?_ _ | with_reducible refine Kv.no ?_ (by assumption))); done)); (focus ((repeat (first | with_reducible assumption | ((with_reducible refine Kv.lit_new _ _ _ _ _ _ ?_ ?_ ?_ ?_) <;> (first | (simp; done) | rfl | decide)) | with_reducible exact Kv.none_ _ | with_reducible refine Kv.alloc ?_ _ | with_reducible refine Kv.drew ?_ | with_reducible refine Kv.drewN ?_ _ | with_reducible refine Kv.no ?_ (by assumption))); done)); (focus ((repeat (first | with_reducible assumption | ((with_reducible refine Kv.lit_new _ _ _ _ _ _ ?_ ?_ ?_ ?_) <;> (first | (simp; done) | rfl | decide)) | with_reducible exact Kv.none_ _ | with_reducible refine Kv.alloc ?_ _ | with_reducible refine Kv.drew ?_ | with_reducible refine Kv.drewN ?_ _ | with_reducible refine Kv.no ?_ (by assumption))); done)); rintro en w8 ⟨rfl, hf8⟩))
                          | fail
                        have hF8 : Fr No w5 w8 := by (repeat (first | with_reducible exact Fr.refl _ _ | with_reducible refine Fr.setCell ?_ (.inr (by first | (simp; done) | (simp; omega))) _ | with_reducible refine Fr.alloc ?_ _ | with_reducible refine Fr.drew ?_ | with_reducible refine Fr.drewN ?_ _ | with_reducible refine Fr.tr ?_ (by assumption)))
                        have hd8 := HD5.out.no hF8
                        have HK8 := HK5.out.no hF8
                        have HG2 := HGd
                        clear HFs HFk HO5 b0 b1 b2 b3 b4 b5 b6 b7 a0 a1 a2 a3 a4 a5 a6 a7 u0 u1 hk6 hq6 hk7 hq7 hf6 hf7 hf8 hF8
                        go_meet
                        exact ⟨rfl, Lib.hid ⟨_, hd8, HG2.out, HK8⟩⟩
                    · have hb0 : (z == 0) = false := by rw [beq_eq_false_iff_ne]; exact hz0
                      have hb1 : (z == 1) = false := by rw [beq_eq_false_iff_ne]; exact hz1
                      have hb2 : (z == 2) = false := by rw [beq_eq_false_iff_ne]; exact hz2
                      have hb3 : (z == 3) = false := by rw [beq_eq_false_iff_ne]; exact hz3
                      as_aux_lemma =>
                        have HFs := Lib.hid (fun (V : World) (f : Fr No w5 V) => tw_meetS (HD5.out.no f) HGd.out (HLl.out _ (HD5.out.fr.tr f)) (HHl.out _ (HD5.out.fr.tr f)))
                        have HFk := Lib.hid (fun (V : World) (f : Fr No w5 V) => tw_meetK (HD5.out.no f) HGd.out (HLl.out _ (HD5.out.fr.tr f)) (HHl.out _ (HD5.out.fr.tr f)))
                        generalize mX rows lo hi lo = ml at *
                        generalize mX rows lo hi hi = mh at *
                        generalize chkB lo hi rows.length = mz at *
                        go_wp2_with first
                          | (go_at_call 24; ((with_reducible refine (HFs.out _ (Fr.refl _ _)).mono ?_); rintro en w6 ⟨A6, n6, c6, B6, m6, d6, rfl, hk6, hq6, hf6⟩; (obtain ⟨b0, b1, b2, b3, b4, b5, b6, b7⟩ := op8 (HO5.out.no hf6))))
                          | (go_at_call 36; ((with_reducible refine (HFk.out _ hf6).mono ?_); rintro en w7 ⟨A7, n7, c7, B7, m7, d7, rfl, hk7, hq7, hf7⟩))
                          | (go_at_call 13; ((with_reducible refine (pQ (A := A6) (xs := ml) ?_ ?_).mono ?_); (focus ((repeat (first | with_reducible assumption | ((with_reducible refine Iv.lit_new _ _ _ _ _ _ ?_ ?_ ?_ ?_) <;> (first | (simp; done) | rfl | decide)) | with_reducible exact Iv.none_ _ | with_reducible refine Iv.alloc ?_ _ | with_reducible refine Iv.drew ?_ | with_reducible refine Iv.drewN ?_ _ | with_reducible refine Iv.no ?_ (by assumption))); done)); (focus ((repeat (first | with_reducible assumption | ((with_reducible refine Iv.lit_new _ _ _ _ _ _ ?_ ?_ ?_ ?_) <;> (first | (simp; done) | rfl | decide)) | with_reducible exact Iv.none_ _ | with_reducible refine Iv.alloc ?_ _ | with_reducible refine Iv.drew ?_ | with_reducible refine Iv.drewN ?_ _ | with_reducible refine Iv.no ?_ (by assumption))); done)); rintro en w8 ⟨rfl, hf8⟩))
                          | (go_at_call 13; ((with_reducible refine (pQ (A := B6) (xs := mh) ?_ ?_).mono ?_); (focus ((repeat (first | with_reducible assumption | ((with_reducible refine Iv.lit_new _ _ _ _ _ _ ?_ ?_ ?_ ?_) <;> (first | (simp; done) | rfl | decide)) | with_reducible exact Iv.none_ _ | with_reducible refine Iv.alloc ?_ _ | with_reducible refine Iv.drew ?_ | with_reducible refine Iv.drewN ?_ _ | with_reducible refine Iv.no ?_ (by assumption))); done)); (focus ((repeat (first | with_reducible assumption | ((with_reducible refine Iv.lit_new _ _ _ _ _ _ ?_ ?_ ?_ ?_) <;> (first | (simp; done) | rfl | decide)) | with_reducible exact Iv.none_ _ | with_reducible refine Iv.alloc ?_ _ | with_reducible refine Iv.drew ?_ | with_reducible refine Iv.drewN ?_ _ | with_reducible refine Iv.no ?_ (by assumption))); done)); rintro en w9 ⟨rfl, hf9⟩))
                          | fail
                        have hF8 : Fr No w5 w9 := by (repeat (first | with_reducible exact Fr.refl _ _ | with_reducible refine Fr.setCell ?_ (.inr (by first | (simp; done) | (simp; omega))) _ | with_reducible refine Fr.alloc ?_ _ | with_reducible refine Fr.drew ?_ | with_reducible refine Fr.drewN ?_ _ | with_reducible refine Fr.tr ?_ (by assumption)))
                        have hd8 := HD5.out.no hF8
                        have HK8 := HK5.out.no hF8
                        have HG2 := HGd
                        clear HFs HFk HO5 b0 b1 b2 b3 b4 b5 b6 b7 a0 a1 a2 a3 a4 a5 a6 a7 hk6 hq6 hk7 hq7 hf6 hf7 hf8 hf9 hF8
                        go_meet
                        exact ⟨rfl, Lib.hid ⟨_, hd8, HG2.out, HK8⟩⟩
            case rest =>
              obtain ⟨rfl, Hc⟩ := hcut
              obtain ⟨rows2, hd7, hg2, HK7⟩ := Hc.out
              have HG2 := Lib.hid hg2
              have hf7' := hd7.fr
              clear Hc hg2 HO5 HD5 HK5 HXn HZ5
              as_aux_lemma =>
                have HEs := Lib.hid (fun (V : World) (f : Fr No wc V) => tw_encS (hd7.no f) HG2.out)
                have HEk := Lib.hid (fun (V : World) (f : Fr No wc V) => tw_encK (hd7.no f) HG2.out)
                have HSs := Lib.hid (fun (V : World) (f : Fr No wc V) => tw_sizS (hd7.no f) HG2.out)
                have HSk := Lib.hid (fun (V : World) (f : Fr No wc V) => tw_sizK (hd7.no f) HG2.out)
                generalize txt (encS rows2) = S2 at *
                have HOe := Lib.hid (fun (V : World) (f : Fr No wc V) => HEO.out _ _ _ _ (HK7.no f))
                have HDz := Lib.hid (fun (V : World) (f : Fr No wc V) => TwoSc.free (hd7.no f))
                generalize sizesL rows2 = zs at *
                clear HES HEK HEO
                go_wp2_with first
                  | (go_at_call 12; ((with_reducible refine (HEs.out _ (Fr.refl _ _)).mono ?_); rintro en wa ⟨rfl, hfa⟩))
                  | (go_at_call 30; ((with_reducible refine (HEk.out _ ?_).mono ?_); (focus ((repeat (first | with_reducible exact Fr.refl _ _ | with_reducible refine Fr.setCell ?_ (.inr (by first | (simp; done) | (simp; omega))) _ | with_reducible refine Fr.alloc ?_ _ | with_reducible refine Fr.drew ?_ | with_reducible refine Fr.drewN ?_ _ | with_reducible refine Fr.tr ?_ (by assumption))); done)); rintro en wb ⟨rfl, hfb⟩))
                  | (go_at_call 14; ((with_reducible refine (HSs.out _ ?_).mono ?_); (focus ((repeat (first | with_reducible exact Fr.refl _ _ | with_reducible refine Fr.setCell ?_ (.inr (by first | (simp; done) | (simp; omega))) _ | with_reducible refine Fr.alloc ?_ _ | with_reducible refine Fr.drew ?_ | with_reducible refine Fr.drewN ?_ _ | with_reducible refine Fr.tr ?_ (by assumption))); done)); rintro en wc ⟨Ac, nc, cc, rfl, hic, hfc⟩))
                  | (go_at_call 15; ((with_reducible refine (HSk.out _ ?_).mono ?_); (focus ((repeat (first | with_reducible exact Fr.refl _ _ | with_reducible refine Fr.setCell ?_ (.inr (by first | (simp; done) | (simp; omega))) _ | with_reducible refine Fr.alloc ?_ _ | with_reducible refine Fr.drew ?_ | with_reducible refine Fr.drewN ?_ _ | with_reducible refine Fr.tr ?_ (by assumption))); done)); rintro en wd ⟨Ad, nd, cd, rfl, hid_, hfd⟩))
                  | (go_at_call 13; ((with_reducible refine (pQ (xs := zs) ?_ ?_).mono ?_); (focus ((repeat (first | with_reducible assumption | ((with_reducible refine Iv.lit_new _ _ _ _ _ _ ?_ ?_ ?_ ?_) <;> (first | (simp; done) | rfl | decide)) | with_reducible exact Iv.none_ _ | with_reducible refine Iv.alloc ?_ _ | with_reducible refine Iv.drew ?_ | with_reducible refine Iv.drewN ?_ _ | with_reducible refine Iv.no ?_ (by assumption))); done)); (focus ((repeat (first | with_reducible assumption | ((with_reducible refine Iv.lit_new _ _ _ _ _ _ ?_ ?_ ?_ ?_) <;> (first | (simp; done) | rfl | decide)) | with_reducible exact Iv.none_ _ | with_reducible refine Iv.alloc ?_ _ | with_reducible refine Iv.drew ?_ | with_reducible refine Iv.drewN ?_ _ | with_reducible refine Iv.no ?_ (by assumption))); done)); rintro en we ⟨rfl, hfe⟩))
                  | (go_at_call 12; ((with_reducible refine (HOe.out _ ?_).mono ?_); (focus ((repeat (first | with_reducible exact Fr.refl _ _ | with_reducible refine Fr.setCell ?_ (.inr (by first | (simp; done) | (simp; omega))) _ | with_reducible refine Fr.alloc ?_ _ | with_reducible refine Fr.drew ?_ | with_reducible refine Fr.drewN ?_ _ | with_reducible refine Fr.tr ?_ (by assumption))); done)); rintro en wg ⟨rfl, hfg⟩))
                  | fail
                go_roundw
                case rel => exact ⟨i + 1, by go_num, hlt, hlt60, Lib.hid ⟨rows2, HDz.out _ (by (repeat (first | with_reducible exact Fr.refl _ _ | with_reducible refine Fr.setCell ?_ (.inr (by first | (simp; done) | (simp; omega))) _ | with_reducible refine Fr.alloc ?_ _ | with_reducible refine Fr.drew ?_ | with_reducible refine Fr.drewN ?_ _ | with_reducible refine Fr.tr ?_ (by assumption)))), HG2.out⟩⟩
                case measure => simp [intOf]; omega
        · obtain rfl : i = 60 := by omega
          go_wp2_with (go_at_call 9; ((with_reducible refine (live _).mono ?_); rintro e wl ⟨rfl, hfl⟩))
          go_ret
          exact ⟨rfl, HDi.out.fr.tr hfl⟩
      · obtain rfl : i = n := by omega
        go_wp2_with (go_at_call 9; ((with_reducible refine (live _).mono ?_); rintro e wl ⟨rfl, hfl⟩))
        go_ret
        exact ⟨rfl, HDi.out.fr.tr hfl⟩
  · have Hd := Lib.hid hd
    clear hd
    go_enter Try.func7, Try.ntmps7
    go_wp2_with first
      | (go_at_call 27; ((with_reducible refine (new_no Hd.out).mono ?_); rintro en w1 ⟨rfl, rfl⟩))
      | (go_at_call 28; ((with_reducible refine (rnew_no Hd.out).mono ?_); rintro en w2 ⟨rfl, rfl⟩))
      | fail
    go_loopw [9] (fun v wr => v = .int .i64 0 ∧ Hid (w = wr)) (fun v _ => 0)
    case atStart => exact ⟨rfl, Lib.hid rfl⟩
    case round =>
      obtain ⟨rfl, Hi⟩ := hrel
      obtain rfl := Hi.out
      by_cases h0 : 0 < n
      · go_wp2_with (go_at_call 9; ((with_reducible refine (live _).mono ?_); rintro e wl ⟨rfl, hfl⟩))
        go_ret
        exact ⟨rfl, hfl⟩
      · obtain rfl : n = 0 := by omega
        go_wp2_with (go_at_call 9; ((with_reducible refine (live _).mono ?_); rintro e wl ⟨rfl, hfl⟩))
        go_ret
        exact ⟨rfl, hfl⟩
end
end Go.Proofs.Ytifpigcgkpmheaa.Tg12
