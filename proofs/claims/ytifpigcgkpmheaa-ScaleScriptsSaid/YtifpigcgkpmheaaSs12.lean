/- Layer 12: the scale of any bytes. -/
import Derived.Test.YtifpigcgkpmheaaSr12
import Derived.StillTailTactics
namespace Go.Proofs.Ytifpigcgkpmheaa.Ss12
open Go.RowKit Go.Proofs.Ytifpigcgkpmheaa.Pk08 Go.Proofs.Ytifpigcgkpmheaa.Base Go.Proofs.Ytifpigcgkpmheaa.App Go.Proofs.Ytifpigcgkpmheaa.Str Go.Proofs.Ytifpigcgkpmheaa.Ky Go.Proofs.Ytifpigcgkpmheaa.Iv Go.Proofs.Ytifpigcgkpmheaa.Bx Go.Proofs.Ytifpigcgkpmheaa.Bo Go.Proofs.Ytifpigcgkpmheaa.As Go.Proofs.Ytifpigcgkpmheaa.Ro Go.Proofs.Ytifpigcgkpmheaa.Pl08 Go.Proofs.Ytifpigcgkpmheaa.Kc08 Go.Proofs.Ytifpigcgkpmheaa.Ki08 Go.Proofs.Ytifpigcgkpmheaa.Ic Go.Proofs.Ytifpigcgkpmheaa.Fa Go.Proofs.Ytifpigcgkpmheaa.Sa12 Go.Proofs.Ytifpigcgkpmheaa.Sb12 Go.Proofs.Ytifpigcgkpmheaa.Sc12 Go.Proofs.Ytifpigcgkpmheaa.Sd12 Go.Proofs.Ytifpigcgkpmheaa.Sf12 Go.Proofs.Ytifpigcgkpmheaa.Sg12 Go.Proofs.Ytifpigcgkpmheaa.Sp12 Go.Proofs.Ytifpigcgkpmheaa.Sq12 Go.Proofs.Ytifpigcgkpmheaa.Sr12
set_option linter.unusedVariables false
set_option linter.unusedSimpArgs false
attribute [local go_sem ↓ high] builtin_app
section
variable {w : World}
/-- What Decode answers. -/
def DecOut (w : World) (d : Int) (t : List Nat) (en : Ending) (w' : World) : Prop :=
  ∃ p, en = .returned (.tuple #[.pointer p, .int .i64 ((decE d t : Nat) : Int)]) ∧ Fr No w w' ∧ ((decE d t ≠ 0 ∧ p = none) ∨ (decE d t = 0 ∧ ∃ gs P T ct qs, p = some ⟨gs, 0, none⟩ ∧ Sp P w' gs T ct qs (decR d t) ∧ ∀ b, P b → w.heap.size ≤ b))
set_option maxRecDepth 8000 in
set_option maxHeartbeats 3200000 in
theorem sdecode_any (d : Int) (s : ByteArray) (hs : s.size ≤ 4096) : Calls Try.prog 10 #[.int .i64 d, .string s] w (DecOut w d (bys s)) := by
  by_cases hd : 1 ≤ d ∧ d ≤ 6
  · obtain ⟨D, rfl⟩ : ∃ D : Nat, d = (D : Int) := ⟨d.toNat, by omega⟩
    have hD : 1 ≤ D ∧ D ≤ 6 := by omega
    generalize hQ : DecOut w (D : Int) (bys s) = Q at *
    have hmx : maxLen ≤ 9223372036854775807 := by decide
    go_enter Try.func10, Try.ntmps10
    go_wp2_with first
      | (go_at_call 27; ((with_reducible refine (new_yes D hD.1 hD.2).mono ?_); rintro en w1 ⟨gs, gt, rfl, hgs, hgt, hsc, hf1⟩))
      | (go_at_call 38; ((with_reducible refine (of_any s hs).mono ?_); rintro en w2 ⟨ga, gb, ca, rfl, ha, hca, hby, hga, hgb, hne, hf2⟩; (have c0 := cel_no (hsc.ob.cell 0 rfl) hf2); simp only [List.getElem_toArray, List.getElem_cons_zero, List.length_replicate] at c0))
      | fail
    have hsg := hsc.blt gs (.inl rfl)
    have hst := hsc.blt gt (.inr rfl)
    have Hlt := Lib.hid (show ∀ i, (bys s).getD i 0 < 256 from fun i => by
      by_cases h : i < (bys s).length
      · rw [show (bys s).getD i 0 = (bys s)[i] by simp [List.getD_eq_getElem?_getD, h]]; exact bys_lt s _ (List.getElem_mem h)
      · rw [show (bys s).getD i 0 = 0 by simp [List.getD_eq_getElem?_getD, List.getElem?_eq_none (show (bys s).length ≤ i by omega)]]; decide)
    have HA := Lib.hid (show ∀ W, Fr (fun b => b = gs ∨ b = gt) w2 W → W.cell? ⟨ga, 0, none⟩ = some (.slice (some ⟨gb, 0, none⟩) s.size ca) ∧ ∀ i, i < s.size → W.cell? ⟨gb, i, none⟩ = some (.int .u8 (((bys s).getD i 0 : Nat) : Int)) from fun W f => ⟨cel_fr (ha.cell 0 rfl) f (fun e => by rcases e with e | e <;> simp only at e <;> omega), fun i hi => cel_fr (hby i hi) f (fun e => by rcases e with e | e <;> simp only at e <;> omega)⟩)
    have HW := Lib.hid (show ∀ W, Fr (fun b => b = gs ∨ b = gt) w2 W → Fr No w W from fun W f => (hf1.tr hf2).trans f (fun k e => .inr (by rcases e with e | e <;> omega)))
    have HB := Lib.hid (show ∀ b, (b = gs ∨ b = gt) ∨ w2.heap.size ≤ b → w.heap.size ≤ b from fun b e => by have h1 := (hf1.tr hf2).size; omega)
    have HS0 := Lib.hid (ScPost.same (hsc.no hf2) (Fr.refl No w2))
    have Hbl := Lib.hid (bys_len s)
    clear hgs hgt hsc hf1 ha hby hga hgb hne hf2 hsg hst c0
    go_loopw [9, 35] (fun v u wr => ∃ i a : Nat, u = .int .i64 i ∧ v = .int .i64 a ∧ i ≤ D ∧ a ≤ s.size ∧ Hid (∃ rs, rds (bys s) i = some (rs, a) ∧ ScPost 75 78 (fun b => b = gs ∨ b = gt) w2 gs (rs ++ List.replicate (D - rs.length) []) wr)) (fun _ u _ => D - (intOf u).toNat)
    case atStart => exact ⟨0, 0, rfl, rfl, Nat.zero_le _, Nat.zero_le _, Lib.hid ⟨[], rfl, HS0.out⟩⟩
    case round =>
      obtain ⟨i, a, rfl, rfl, hin, has, Hi⟩ := hrel
      obtain ⟨rs, hrs, hpo⟩ := Hi.out
      have Hrl := Lib.hid (rds_len hrs)
      have Hrs := Lib.hid hrs
      clear Hi hrs
      by_cases hlt : i < D
      · rw [cur_start (by rw [Hrl.out]; exact hlt)] at hpo
        have Hpo := Lib.hid hpo
        have Hne : ∃ n e : Nat, n < 256 ∧ Calls Try.prog 39 #[.pointer (some ⟨ga, 0, none⟩), .int .i64 a, .int .i64 1] wr (fun en w' => en = .returned (.tuple #[.int .u32 (n : Int), .int .i64 (e : Int)]) ∧ wr = w') ∧ ((a < s.size ∧ n = (bys s).getD a 0 ∧ e = 0) ∨ (a = s.size ∧ n = 0 ∧ e = 1)) := by
          obtain ⟨P1, T1, ct1, qs1, hsc1, hP1, hfr1⟩ := Hpo.out
          obtain ⟨a1, a2⟩ := HA.out wr hfr1
          by_cases h : a < s.size
          · have h1 : numk (bys s) a 1 = (bys s).getD a 0 := by simp [numk]
            have := fget_in (w := wr) (bys s) a 1 (.inl rfl) a1 hs hca h a2 Hlt.out
            rw [h1] at this
            exact ⟨(bys s).getD a 0, 0, Hlt.out a, this, .inl ⟨h, rfl, rfl⟩⟩
          · exact ⟨0, 1, by decide, fget_out (w := wr) a 1 (.inl rfl) a1 hs (by omega) (by omega), .inr ⟨by omega, rfl, rfl⟩⟩
        obtain ⟨n, e, hn256, hG1, hne⟩ := Hne
        have HG1 := Lib.hid hG1
        have HN := Lib.hid hne
        clear hG1 hne hpo
        go_wp2_with first
          | (go_at_call 39; ((with_reducible refine HG1.out.mono ?_); rintro en w5 ⟨rfl, rfl⟩))
          | fail
        go_loopw [9, 47] (fun v u wq => ∃ k : Nat, u = .int .u32 k ∧ v = .int .i64 ((a + 1 + 4 * k : Nat) : Int) ∧ k ≤ n ∧ a + 1 + 4 * k ≤ s.size + 1 ∧ (a < s.size → a + 1 + 4 * k ≤ s.size) ∧ Hid (ScPost 75 78 (fun b => b = gs ∨ b = gt) w2 gs (cur rs D (bnds (bys s) (a + 1) k)) wq)) (fun _ u _ => n - (intOf u).toNat)
        case atStart => exact ⟨0, rfl, by go_num, Nat.zero_le _, by omega, fun _ => by omega, Hpo⟩
        case round =>
          obtain ⟨k, rfl, rfl, hkn, hka, hkf, Hk⟩ := hrel
          by_cases hk : k < n
          · by_cases hf : a + 1 + 4 * k + 4 ≤ s.size
            · obtain ⟨P1, T1, ct1, qs1, hsc1, hP1, hfr1⟩ := Hk.out
              have hcl := cur_len (bnds (bys s) (a + 1) k) (show rs.length < D by rw [Hrl.out]; exact hlt)
              have hil : i < (cur rs D (bnds (bys s) (a + 1) k)).length := by rw [hcl]; exact hlt
              obtain ⟨g5, hT, c0, c1, fz, n1, n2, n3, k1, k2, hkv, hblk⟩ := Sc.at_ hsc1 hil
              have hrow : (cur rs D (bnds (bys s) (a + 1) k)).getD i [] = bnds (bys s) (a + 1) k := by rw [← Hrl.out]; exact cur_get _ _ _
              obtain ⟨a1, a2⟩ := HA.out _ hfr1
              have HG2 := Lib.hid (show Calls Try.prog 39 #[.pointer (some ⟨ga, 0, none⟩), .int .i64 ((a : Int) + 1 + 4 * (k : Int)), .int .i64 4] wr (fun en w' => en = .returned (.tuple #[(.int .u32 ((numk (bys s) (a + 1 + 4 * k) 4 : Nat) : Int)), .int .i64 0]) ∧ wr = w') from by have this := fget_in (bys s) (a + 1 + 4 * k) 4 (.inr rfl) a1 hs hca hf a2 Hlt.out; rw [show ((a + 1 + 4 * k : Nat) : Int) = (a : Int) + 1 + 4 * (k : Int) by omega] at this; exact this)
              obtain ⟨A1, c5, w5, hrun, b1, b2, b3, hpush⟩ := row_push (tR := 78) (y := numk (bys s) (a + 1 + 4 * k) 4) Try.underlying78 hsc1 hil hT (numk4_lt Hlt.out _) (n := k) (by rw [hrow, bnds_len]) (by omega)
              have HPn := Lib.hid (ScPost.tr hfr1 hP1 hpush)
              rw [hrow, ← bnds_succ, ← Hrl.out, cur_set, Hrl.out] at HPn
              rw [hcl, hT] at c0 b1
              rw [hcl] at k1
              unfold rv at c1
              rw [hrow, bnds_len] at c1
              clear hpush hkv hblk hsc1 hcl hil hrow a1 a2 hT
              clear Hk hfr1 hP1
              generalize numk (bys s) (a + 1 + 4 * k) 4 = y at *
              generalize (qs1.getD i q0).1 = R5 at *
              generalize (qs1.getD i q0).2 = m5 at *
              go_wp2_with first
                | (go_at_call 39; ((with_reducible refine HG2.out.mono ?_); rintro en w6 ⟨rfl, rfl⟩))
                | fail
              (refine wp_region_held_drew (S := fun w' => w'.cell? ⟨gs, 0, none⟩ = some (.slice (some ⟨g5, 0, none⟩) D ct1)) (by kernel_rfl) ?_ (fun hHeld => ?_); focus ((try dsimp only); (repeat (first | with_reducible assumption | with_reducible refine cel_alloc ?_ _ | with_reducible refine cel_drew ?_ | with_reducible refine cel_drewN ?_ _ | with_reducible refine cel_set ?_ (by first | (simp; done) | (simp; omega)) _ | with_reducible refine cel_no ?_ (by assumption))); done))
              ((refine wpAnyH_take (i := 0) (v := ?_) rfl (by kernel_rfl) (by kernel_rfl) (by kernel_rfl) (fun _ _ _ h => h) (Or.inl ⟨by rfl, ?_⟩) (by assumption) ?_; rotate_left; focus (intro w hSw; (try dsimp only at hSw); go_simp; (try with_reducible rfl); done)); (try simp only [Act.put, List.setIfInBounds_toArray, List.set_cons_zero, List.set_cons_succ, List.getElem_toArray, List.getElem_cons_zero, List.getElem_cons_succ]); (refine wpAnyH_take (i := 1) (v := ?_) rfl (by kernel_rfl) (by kernel_rfl) (by kernel_rfl) (fun _ _ _ h => h) (Or.inl ⟨by rfl, ?_⟩) (by assumption) ?_; rotate_left; focus (intro w hSw; (try dsimp only at hSw); go_simp; (try with_reducible rfl); done)); (try simp only [Act.put, List.setIfInBounds_toArray, List.set_cons_zero, List.set_cons_succ, List.getElem_toArray, List.getElem_cons_zero, List.getElem_cons_succ]); (refine wpAnyH_take (i := 2) (v := ?_) rfl (by kernel_rfl) (by kernel_rfl) (by kernel_rfl) (fun _ _ _ h => h) (Or.inl ⟨by rfl, ?_⟩) (by assumption) ?_; rotate_left; focus (intro w hSw; (try dsimp only at hSw); go_simp; (try with_reducible rfl); done)); (try simp only [Act.put, List.setIfInBounds_toArray, List.set_cons_zero, List.set_cons_succ, List.getElem_toArray, List.getElem_cons_zero, List.getElem_cons_succ]); (refine wpAnyH_take (i := 3) (v := ?_) rfl (by kernel_rfl) (by kernel_rfl) (by kernel_rfl) (fun _ _ _ h => h) (Or.inl ⟨by rfl, ?_⟩) (by assumption) ?_; rotate_left; focus (intro w hSw; (try dsimp only at hSw); go_simp; (try with_reducible rfl); done)); (try simp only [Act.put, List.setIfInBounds_toArray, List.set_cons_zero, List.set_cons_succ, List.getElem_toArray, List.getElem_cons_zero, List.getElem_cons_succ]); (refine wpAnyH_take (i := 4) (v := ?_) rfl (by kernel_rfl) (by kernel_rfl) (by kernel_rfl) (fun _ _ _ h => h) (Or.inl ⟨by rfl, ?_⟩) (by assumption) ?_; rotate_left; focus (intro w hSw; (try dsimp only at hSw); go_simp; (try with_reducible rfl); done)); (try simp only [Act.put, List.setIfInBounds_toArray, List.set_cons_zero, List.set_cons_succ, List.getElem_toArray, List.getElem_cons_zero, List.getElem_cons_succ]); (refine wpAnyH_take (i := 5) (v := ?_) rfl (by kernel_rfl) (by kernel_rfl) (by kernel_rfl) (fun _ _ _ h => h) (Or.inl ⟨by rfl, ?_⟩) (by assumption) ?_; rotate_left; focus (intro w hSw; (try dsimp only at hSw); go_simp; (try with_reducible rfl); done)); (try simp only [Act.put, List.setIfInBounds_toArray, List.set_cons_zero, List.set_cons_succ, List.getElem_toArray, List.getElem_cons_zero, List.getElem_cons_succ]); (refine wpAnyH_take (i := 6) (v := ?_) rfl (by kernel_rfl) (by kernel_rfl) (by kernel_rfl) (fun _ _ _ h => h) (Or.inl ⟨by rfl, ?_⟩) (by assumption) ?_; rotate_left; focus (intro w hSw; (try dsimp only at hSw); go_simp; (try with_reducible rfl); done)); (try simp only [Act.put, List.setIfInBounds_toArray, List.set_cons_zero, List.set_cons_succ, List.getElem_toArray, List.getElem_cons_zero, List.getElem_cons_succ]); (refine wpAnyH_take (i := 7) (v := ?_) rfl (by kernel_rfl) (by kernel_rfl) (by kernel_rfl) (fun _ _ _ h => h) (Or.inl ⟨by rfl, ?_⟩) (by assumption) ?_; rotate_left; focus (intro w hSw; (try dsimp only at hSw); go_simp; (try with_reducible rfl); done)); (try simp only [Act.put, List.setIfInBounds_toArray, List.set_cons_zero, List.set_cons_succ, List.getElem_toArray, List.getElem_cons_zero, List.getElem_cons_succ]); (refine wpAnyH_take (i := 8) (v := ?_) rfl (by kernel_rfl) (by kernel_rfl) (by kernel_rfl) (fun _ _ _ h => h) (Or.inl ⟨by rfl, ?_⟩) (by assumption) ?_; rotate_left; focus (intro w hSw; (try dsimp only at hSw); go_simp; (try with_reducible rfl); done)); (try simp only [Act.put, List.setIfInBounds_toArray, List.set_cons_zero, List.set_cons_succ, List.getElem_toArray, List.getElem_cons_zero, List.getElem_cons_succ]); (refine wpAnyH_take (i := 9) (v := ?_) rfl (by kernel_rfl) (by kernel_rfl) (by kernel_rfl) (fun _ _ _ h => h) (Or.inl ⟨by rfl, ?_⟩) (by assumption) ?_; rotate_left; focus (intro w hSw; (try dsimp only at hSw); go_simp; (try with_reducible rfl); done)); (try simp only [Act.put, List.setIfInBounds_toArray, List.set_cons_zero, List.set_cons_succ, List.getElem_toArray, List.getElem_cons_zero, List.getElem_cons_succ]); (refine wpAnyH_take (i := 10) (v := ?_) rfl (by kernel_rfl) (by kernel_rfl) (by kernel_rfl) (fun _ _ _ h => h) (Or.inl ⟨by rfl, ?_⟩) (by assumption) ?_; rotate_left; focus (intro w hSw; (try dsimp only at hSw); go_simp; (try with_reducible rfl); done)); (try simp only [Act.put, List.setIfInBounds_toArray, List.set_cons_zero, List.set_cons_succ, List.getElem_toArray, List.getElem_cons_zero, List.getElem_cons_succ]); (refine wpAnyH_take (i := 12) (v := ?_) rfl (by kernel_rfl) (by kernel_rfl) (by kernel_rfl) (fun _ _ _ h => h) (Or.inl ⟨by rfl, ?_⟩) (by assumption) ?_; rotate_left; focus (intro w hSw; (try dsimp only at hSw); go_simp; (try with_reducible rfl); done)); (try simp only [Act.put, List.setIfInBounds_toArray, List.set_cons_zero, List.set_cons_succ, List.getElem_toArray, List.getElem_cons_zero, List.getElem_cons_succ]))
              (refine wpAnyH_ready (rs := [11, 13]) (by kernel_rfl) (by simp) ?_; refine AllReadyH.cons rfl (fun K hK => ?_) (AllReadyH.cons rfl (fun K hK => ?_) AllReadyH.nil))
              ((try simp only [Act.put, List.setIfInBounds_toArray, List.set_cons_zero, List.set_cons_succ, List.getElem_toArray, List.getElem_cons_zero, List.getElem_cons_succ]); go_simp; refine hK.out _ _ ?_ (fun hHeld => ?_); focus ((try dsimp only); (repeat (first | with_reducible assumption | with_reducible refine cel_alloc ?_ _ | with_reducible refine cel_drew ?_ | with_reducible refine cel_drewN ?_ _ | with_reducible refine cel_set ?_ (by first | (simp; done) | (simp; omega)) _ | with_reducible refine cel_no ?_ (by assumption))); done)); (clear hK K); (try simp only [Act.put, List.setIfInBounds_toArray, List.set_cons_zero, List.set_cons_succ, List.getElem_toArray, List.getElem_cons_zero, List.getElem_cons_succ])
              · (refine wpAnyH_ready (rs := [13]) (by kernel_rfl) (by simp) ?_; refine AllReadyH.cons rfl (fun K hK => ?_) AllReadyH.nil; (try simp only [Act.put, List.setIfInBounds_toArray, List.set_cons_zero, List.set_cons_succ, List.getElem_toArray, List.getElem_cons_zero, List.getElem_cons_succ]); go_simp; refine hK.out _ _ ?_ (fun hHeld => ?_); focus ((try dsimp only); (repeat (first | with_reducible assumption | with_reducible refine cel_alloc ?_ _ | with_reducible refine cel_drew ?_ | with_reducible refine cel_drewN ?_ _ | with_reducible refine cel_set ?_ (by first | (simp; done) | (simp; omega)) _ | with_reducible refine cel_no ?_ (by assumption))); done)); (clear hK K); (try simp only [Act.put, List.setIfInBounds_toArray, List.set_cons_zero, List.set_cons_succ, List.getElem_toArray, List.getElem_cons_zero, List.getElem_cons_succ])
                (refine wpAnyH_ready (rs := [14]) (by kernel_rfl) (by simp) ?_; refine AllReadyH.cons rfl (fun K hK => ?_) AllReadyH.nil; (try simp only [Act.put, List.setIfInBounds_toArray, List.set_cons_zero, List.set_cons_succ, List.getElem_toArray, List.getElem_cons_zero, List.getElem_cons_succ]); go_simp; skip; (try go_wp2_with fail); refine hK.out _ _ ?_ (fun hHeld => ?_); focus ((try dsimp only); (repeat (first | with_reducible assumption | with_reducible refine cel_alloc ?_ _ | with_reducible refine cel_drew ?_ | with_reducible refine cel_drewN ?_ _ | with_reducible refine cel_set ?_ (by first | (simp; done) | (simp; omega)) _ | with_reducible refine cel_no ?_ (by assumption))); done)); (clear hK K); (try simp only [Act.put, List.setIfInBounds_toArray, List.set_cons_zero, List.set_cons_succ, List.getElem_toArray, List.getElem_cons_zero, List.getElem_cons_succ])
                (refine wpAnyH_take (i := 15) (v := ?_) rfl (by kernel_rfl) (by kernel_rfl) (by kernel_rfl) (fun _ _ _ h => h) (Or.inl ⟨by rfl, ?_⟩) (by assumption) ?_; rotate_left; focus (intro w hSw; (try dsimp only at hSw); go_simp; (try with_reducible rfl); done)); (try simp only [Act.put, List.setIfInBounds_toArray, List.set_cons_zero, List.set_cons_succ, List.getElem_toArray, List.getElem_cons_zero, List.getElem_cons_succ])
                (refine wpAnyH_ready (rs := [16]) (by kernel_rfl) (by simp) ?_; refine AllReadyH.cons rfl (fun K hK => ?_) AllReadyH.nil; (try simp only [Act.put, List.setIfInBounds_toArray, List.set_cons_zero, List.set_cons_succ, List.getElem_toArray, List.getElem_cons_zero, List.getElem_cons_succ]); go_simp; refine hK.out _ _ ?_ (fun hHeld => ?_); focus ((try dsimp only); (repeat (first | with_reducible assumption | with_reducible refine cel_alloc ?_ _ | with_reducible refine cel_drew ?_ | with_reducible refine cel_drewN ?_ _ | with_reducible refine cel_set ?_ (by first | (simp; done) | (simp; omega)) _ | with_reducible refine cel_no ?_ (by assumption))); done)); (clear hK K); (try simp only [Act.put, List.setIfInBounds_toArray, List.set_cons_zero, List.set_cons_succ, List.getElem_toArray, List.getElem_cons_zero, List.getElem_cons_succ])
                (refine wpAnyH_done (by kernel_rfl) ?_ _)
                (try go_wp2)
                go_roundw
                case rel => exact ⟨k + 1, by go_num, by go_num, hk, by omega, fun _ => by omega, HPn⟩
                case measure => simp [intOf]; omega
              ((try simp only [Act.put, List.setIfInBounds_toArray, List.set_cons_zero, List.set_cons_succ, List.getElem_toArray, List.getElem_cons_zero, List.getElem_cons_succ]); go_simp; refine hK.out _ _ ?_ (fun hHeld => ?_); focus ((try dsimp only); (repeat (first | with_reducible assumption | with_reducible refine cel_alloc ?_ _ | with_reducible refine cel_drew ?_ | with_reducible refine cel_drewN ?_ _ | with_reducible refine cel_set ?_ (by first | (simp; done) | (simp; omega)) _ | with_reducible refine cel_no ?_ (by assumption))); done)); (clear hK K); (try simp only [Act.put, List.setIfInBounds_toArray, List.set_cons_zero, List.set_cons_succ, List.getElem_toArray, List.getElem_cons_zero, List.getElem_cons_succ])
              (refine wpAnyH_ready (rs := [11]) (by kernel_rfl) (by simp) ?_; refine AllReadyH.cons rfl (fun K hK => ?_) AllReadyH.nil; (try simp only [Act.put, List.setIfInBounds_toArray, List.set_cons_zero, List.set_cons_succ, List.getElem_toArray, List.getElem_cons_zero, List.getElem_cons_succ]); go_simp; refine hK.out _ _ ?_ (fun hHeld => ?_); focus ((try dsimp only); (repeat (first | with_reducible assumption | with_reducible refine cel_alloc ?_ _ | with_reducible refine cel_drew ?_ | with_reducible refine cel_drewN ?_ _ | with_reducible refine cel_set ?_ (by first | (simp; done) | (simp; omega)) _ | with_reducible refine cel_no ?_ (by assumption))); done)); (clear hK K); (try simp only [Act.put, List.setIfInBounds_toArray, List.set_cons_zero, List.set_cons_succ, List.getElem_toArray, List.getElem_cons_zero, List.getElem_cons_succ])
              (refine wpAnyH_ready (rs := [14]) (by kernel_rfl) (by simp) ?_; refine AllReadyH.cons rfl (fun K hK => ?_) AllReadyH.nil; (try simp only [Act.put, List.setIfInBounds_toArray, List.set_cons_zero, List.set_cons_succ, List.getElem_toArray, List.getElem_cons_zero, List.getElem_cons_succ]); go_simp; skip; (try go_wp2_with fail); refine hK.out _ _ ?_ (fun hHeld => ?_); focus ((try dsimp only); (repeat (first | with_reducible assumption | with_reducible refine cel_alloc ?_ _ | with_reducible refine cel_drew ?_ | with_reducible refine cel_drewN ?_ _ | with_reducible refine cel_set ?_ (by first | (simp; done) | (simp; omega)) _ | with_reducible refine cel_no ?_ (by assumption))); done)); (clear hK K); (try simp only [Act.put, List.setIfInBounds_toArray, List.set_cons_zero, List.set_cons_succ, List.getElem_toArray, List.getElem_cons_zero, List.getElem_cons_succ])
              (refine wpAnyH_take (i := 15) (v := ?_) rfl (by kernel_rfl) (by kernel_rfl) (by kernel_rfl) (fun _ _ _ h => h) (Or.inl ⟨by rfl, ?_⟩) (by assumption) ?_; rotate_left; focus (intro w hSw; (try dsimp only at hSw); go_simp; (try with_reducible rfl); done)); (try simp only [Act.put, List.setIfInBounds_toArray, List.set_cons_zero, List.set_cons_succ, List.getElem_toArray, List.getElem_cons_zero, List.getElem_cons_succ])
              (refine wpAnyH_ready (rs := [16]) (by kernel_rfl) (by simp) ?_; refine AllReadyH.cons rfl (fun K hK => ?_) AllReadyH.nil; (try simp only [Act.put, List.setIfInBounds_toArray, List.set_cons_zero, List.set_cons_succ, List.getElem_toArray, List.getElem_cons_zero, List.getElem_cons_succ]); go_simp; refine hK.out _ _ ?_ (fun hHeld => ?_); focus ((try dsimp only); (repeat (first | with_reducible assumption | with_reducible refine cel_alloc ?_ _ | with_reducible refine cel_drew ?_ | with_reducible refine cel_drewN ?_ _ | with_reducible refine cel_set ?_ (by first | (simp; done) | (simp; omega)) _ | with_reducible refine cel_no ?_ (by assumption))); done)); (clear hK K); (try simp only [Act.put, List.setIfInBounds_toArray, List.set_cons_zero, List.set_cons_succ, List.getElem_toArray, List.getElem_cons_zero, List.getElem_cons_succ])
              (refine wpAnyH_done (by kernel_rfl) ?_ _)
              (try go_wp2)
              go_roundw
              case rel => exact ⟨k + 1, by go_num, by go_num, hk, by omega, fun _ => by omega, HPn⟩
              case measure => simp [intOf]; omega
            · have Hdn := Lib.hid (show rds (bys s) D = none from by
                rcases HN.out with ⟨h1, h2, h3⟩ | ⟨h1, h2, h3⟩
                · exact rds_cut Hrs.out (by unfold rd1; rw [if_neg]; rw [Hbl.out, ← h2]; omega) hlt
                · omega)
              obtain ⟨P1, T1, ct1, qs1, hsc1, hP1, hfr1⟩ := Hk.out
              obtain ⟨a1, a2⟩ := HA.out _ hfr1
              have HG2 := Lib.hid (show Calls Try.prog 39 #[.pointer (some ⟨ga, 0, none⟩), .int .i64 ((a : Int) + 1 + 4 * (k : Int)), .int .i64 4] wr (fun en w' => en = .returned (.tuple #[.int .u32 0, .int .i64 1]) ∧ wr = w') from by have this := fget_out (a + 1 + 4 * k) 4 (.inr rfl) a1 hs (by omega) (by omega); rw [show ((a + 1 + 4 * k : Nat) : Int) = (a : Int) + 1 + 4 * (k : Int) by omega] at this; exact this)
              have HF2 := Lib.hid (HW.out _ hfr1)
              clear hsc1 hP1 hfr1 a1 a2 Hk
              go_wp2_with first
                | (go_at_call 39; ((with_reducible refine HG2.out.mono ?_); rintro en w6 ⟨rfl, rfl⟩))
                | fail
              (try go_ret2)
              subst hQ
              exact ⟨none, by rw [decE_none hD Hdn.out]; rfl, HF2.out, .inl ⟨by rw [decE_none hD Hdn.out]; decide, rfl⟩⟩
          · obtain rfl : k = n := by omega
            by_cases ha : a < s.size
            · have Hnx := Lib.hid (show k = (bys s).getD a 0 ∧ e = 0 from by rcases HN.out with ⟨h1, h2, h3⟩ | ⟨h1, h2, h3⟩; exact ⟨h2, h3⟩; omega)
              obtain rfl := Hnx.out.2
              by_cases hfit : a + 1 + 4 * k ≤ s.size
              · have Hrn := Lib.hid (rds_next Hrs.out (show rd1 (bys s) a = some (bnds (bys s) (a + 1) k, a + 1 + 4 * k) by unfold rd1; rw [if_pos (by rw [Hbl.out, ← Hnx.out.1]; exact ⟨ha, hfit⟩), ← Hnx.out.1]))
                rw [cur_end] at Hk
                go_wp2
                go_roundw
                case rel => exact ⟨i + 1, a + 1 + 4 * k, by go_num, by go_num, hlt, hfit, Lib.hid ⟨_, Hrn.out, Hk.out⟩⟩
                case measure => simp [intOf]; omega
              · exfalso; omega
            · have Hnx := Lib.hid (show k = 0 ∧ e = 1 from by rcases HN.out with ⟨h1, h2, h3⟩ | ⟨h1, h2, h3⟩; omega; exact ⟨h2, h3⟩)
              obtain rfl := Hnx.out.2
              have Hdn := Lib.hid (show rds (bys s) D = none from rds_cut Hrs.out (by unfold rd1; rw [if_neg]; rw [Hbl.out]; omega) hlt)
              have HF2 := Lib.hid (by obtain ⟨P1, T1, ct1, qs1, hsc1, hP1, hfr1⟩ := Hk.out; exact HW.out _ hfr1)
              go_wp2
              (try go_ret2)
              subst hQ
              exact ⟨none, by rw [decE_none hD Hdn.out]; rfl, HF2.out, .inl ⟨by rw [decE_none hD Hdn.out]; decide, rfl⟩⟩
      · obtain rfl : i = D := by omega
        rw [Hrl.out, Nat.sub_self, List.replicate_zero, List.append_nil] at hpo
        obtain ⟨P1, T1, ct1, qs1, hsc1, hP1, hfr1⟩ := hpo
        have HF2 := Lib.hid (HW.out _ hfr1)
        have HSc := Lib.hid hsc1
        have HPb := Lib.hid (fun b (hb : P1 b) => HB.out b (hP1 b hb))
        have c0 := hsc1.sr.c0
        have HSB := Lib.hid (somebad_any hsc1.sr (by rw [Hrl.out]; omega))
        rw [Hrl.out] at c0 HSB
        have HE := Lib.hid (decE_some hD Hrs.out)
        have HRr := Lib.hid (decR_some Hrs.out)
        clear hsc1 hP1 hfr1
        rw [Hbl.out] at HE
        by_cases has2 : a = s.size
        · subst has2
          by_cases hm : allMay rs
          · rw [if_pos ⟨rfl, hm⟩] at HE
            rw [decide_eq_true hm] at HSB
            clear hm
            go_wp2_with first
              | (go_at_call 40; ((with_reducible refine HSB.out.mono ?_); rintro en w6 ⟨rfl, rfl⟩))
              | fail
            (try go_ret2)
            subst hQ
            exact ⟨some ⟨gs, 0, none⟩, by rw [HE.out]; rfl, HF2.out, .inr ⟨HE.out, gs, P1, T1, ct1, qs1, rfl, by rw [HRr.out]; exact HSc.out, HPb.out⟩⟩
          · rw [if_neg (fun e => hm e.2)] at HE
            rw [decide_eq_false hm] at HSB
            clear hm
            go_wp2_with first
              | (go_at_call 40; ((with_reducible refine HSB.out.mono ?_); rintro en w6 ⟨rfl, rfl⟩))
              | fail
            (try go_ret2)
            subst hQ
            exact ⟨none, by rw [HE.out]; rfl, HF2.out, .inl ⟨by rw [HE.out]; decide, rfl⟩⟩
        · rw [if_neg (fun e => has2 e.1)] at HE
          have hab : ((a : Int) == (s.size : Int)) = false := by rw [beq_eq_false_iff_ne]; omega
          go_wp2
          (try go_ret2)
          subst hQ
          exact ⟨none, by rw [HE.out]; rfl, HF2.out, .inl ⟨by rw [HE.out]; decide, rfl⟩⟩
  · have HE := Lib.hid (decE_out hd (bys s))
    go_enter Try.func10, Try.ntmps10
    go_wp2_with first
      | (go_at_call 27; ((with_reducible refine (new_no hd).mono ?_); rintro en w1 ⟨rfl, rfl⟩))
      | fail
    go_ret2
    exact ⟨none, by rw [HE.out]; rfl, Fr.refl _ _, .inl ⟨by rw [HE.out]; decide, rfl⟩⟩
end
end Go.Proofs.Ytifpigcgkpmheaa.Ss12
