/- Layer 12: the document's scale of any bytes. -/
import Derived.Test.YtifpigcgkpmheaaTc12
import Derived.Test.YtifpigcgkpmheaaSs12
import Derived.Deep.QuietTactic
import Derived.StillTailTactics
namespace Go.Proofs.Ytifpigcgkpmheaa.Th12
open Go.RowKit Go.Proofs.Ytifpigcgkpmheaa.Pk08 Go.Proofs.Ytifpigcgkpmheaa.Base Go.Proofs.Ytifpigcgkpmheaa.App Go.Proofs.Ytifpigcgkpmheaa.Ty Go.Proofs.Ytifpigcgkpmheaa.Str Go.Proofs.Ytifpigcgkpmheaa.Ky Go.Proofs.Ytifpigcgkpmheaa.Iv Go.Proofs.Ytifpigcgkpmheaa.Bx Go.Proofs.Ytifpigcgkpmheaa.Bo Go.Proofs.Ytifpigcgkpmheaa.As Go.Proofs.Ytifpigcgkpmheaa.Ro Go.Proofs.Ytifpigcgkpmheaa.Pl08 Go.Proofs.Ytifpigcgkpmheaa.Kc08 Go.Proofs.Ytifpigcgkpmheaa.Ke08 Go.Proofs.Ytifpigcgkpmheaa.Ki08 Go.Proofs.Ytifpigcgkpmheaa.Ka08 Go.Proofs.Ytifpigcgkpmheaa.Ic Go.Proofs.Ytifpigcgkpmheaa.In Go.Proofs.Ytifpigcgkpmheaa.Fa Go.Proofs.Ytifpigcgkpmheaa.Sa12 Go.Proofs.Ytifpigcgkpmheaa.Sb12 Go.Proofs.Ytifpigcgkpmheaa.Sc12 Go.Proofs.Ytifpigcgkpmheaa.Sd12 Go.Proofs.Ytifpigcgkpmheaa.Se12 Go.Proofs.Ytifpigcgkpmheaa.Sf12 Go.Proofs.Ytifpigcgkpmheaa.Sg12 Go.Proofs.Ytifpigcgkpmheaa.Sh12 Go.Proofs.Ytifpigcgkpmheaa.Si12 Go.Proofs.Ytifpigcgkpmheaa.Sk12 Go.Proofs.Ytifpigcgkpmheaa.Sl12 Go.Proofs.Ytifpigcgkpmheaa.St12 Go.Proofs.Ytifpigcgkpmheaa.Sv12 Go.Proofs.Ytifpigcgkpmheaa.Sw12 Go.Proofs.Ytifpigcgkpmheaa.Sw12 Go.Proofs.Ytifpigcgkpmheaa.Kj08 Go.Proofs.Ytifpigcgkpmheaa.Kh08 Go.Proofs.Ytifpigcgkpmheaa.Ky08 Go.Proofs.Ytifpigcgkpmheaa.Sm12 Go.Proofs.Ytifpigcgkpmheaa.Wd Go.Proofs.Ytifpigcgkpmheaa.Sp12 Go.Proofs.Ytifpigcgkpmheaa.Sq12 Go.Proofs.Ytifpigcgkpmheaa.Sr12 Go.Proofs.Ytifpigcgkpmheaa.Ss12 Go.Proofs.Ytifpigcgkpmheaa.Tc12
set_option linter.unusedVariables false
set_option linter.unusedSimpArgs false
attribute [local go_sem ↓ high] builtin_app
theorem numk_from (bs : List Nat) (a k n : Nat) (h : k ≤ n) : numk ((bs.drop a).take n) 0 k = numk bs a k := by
  induction k with
  | zero => rfl
  | succ k ih =>
    rw [numk, numk, ih (by omega)]
    congr 1
    simp only [List.getD_eq_getElem?_getD, List.getElem?_take, Nat.zero_add, List.getElem?_drop]
    rw [if_pos (by omega)]
theorem sub_num4 (s : ByteArray) (a : Nat) (h : a + 4 ≤ s.size) : numk (bys (sub s a 4)) 0 (sub s a 4).size = numk (bys s) a 4 ∧ (sub s a 4).size = 4 := by
  have h1 : bys (sub s a 4) = ((bys s).drop a).take 4 := bys_txt _ (fun x hx => bys_lt s x (List.mem_of_mem_drop (List.mem_of_mem_take hx)))
  have h2 : (sub s a 4).size = 4 := by rw [sub, txt_size]; simp [bys_len]; omega
  refine ⟨?_, h2⟩
  rw [h2, h1, numk_from _ _ _ _ (Nat.le_refl _)]
def okk (r : List Nat) (k : Nat) : Prop := lowV r k < r.getD k 0 ∧ k < 63
theorem may_okk (r : List Nat) : mayR r ↔ ∀ k, k < r.length → okk r k := by
  constructor
  · rintro ⟨h1, h2⟩ k hk
    exact ⟨h1 k hk, by omega⟩
  · intro h
    refine ⟨fun k hk => (h k hk).1, ?_⟩
    rcases Nat.lt_or_ge 63 r.length with e | e
    · have := (h 63 e).2; omega
    · exact e
/-- What the document's Decode answers. -/
def RDec (w : World) (d : Int) (t : List Nat) (en : Ending) (w' : World) : Prop :=
  ∃ p, en = .returned (.tuple #[.pointer p, .int .i64 ((decE d t : Nat) : Int)]) ∧ Fr No w w' ∧ ((decE d t ≠ 0 ∧ p = none) ∨ (decE d t = 0 ∧ ∃ gs P T ct qs, p = some ⟨gs, 0, none⟩ ∧ Sd P w' gs T ct qs (decR d t) ∧ ∀ b, P b → w.heap.size ≤ b))
section
variable {w : World}
set_option maxRecDepth 8000 in
set_option maxHeartbeats 6400000 in
theorem rdecode_any (d : Int) (s : ByteArray) (hs : s.size ≤ 4096) : Calls Try.prog 11 #[.int .i64 d, .string s] w (RDec w d (bys s)) := by
  by_cases hd : 1 ≤ d ∧ d ≤ 6
  · obtain ⟨D, rfl⟩ : ∃ D : Nat, d = (D : Int) := ⟨d.toNat, by omega⟩
    have hD : 1 ≤ D ∧ D ≤ 6 := by omega
    generalize hQ : RDec w (D : Int) (bys s) = Q at *
    have hmx : maxLen ≤ 9223372036854775807 := by decide
    have Hbl := Lib.hid (bys_len s)
    go_enter Try.func11, Try.ntmps11
    go_wp2_with first
      | (go_at_call 28; ((with_reducible refine (rnew_yes D hD.1 hD.2).mono ?_); rintro en w1 ⟨gs, gt, rfl, hgs, hgt, hsc, hf1⟩))
      | fail
    have hsg := hsc.blt gs (.inl rfl)
    have hst := hsc.blt gt (.inr rfl)
    have Hlt := Lib.hid (show ∀ i, (bys s).getD i 0 < 256 from bys_getD_lt s)
    have HW := Lib.hid (show ∀ W, Fr (fun b => b = gs ∨ b = gt) w1 W → Fr No w W from fun W f => hf1.trans f (fun k e => .inr (by rcases e with e | e <;> omega)))
    have HB := Lib.hid (show ∀ b, (b = gs ∨ b = gt) ∨ w1.heap.size ≤ b → w.heap.size ≤ b from fun b e => by have h1 := hf1.size; omega)
    have HS0 := Lib.hid (ScPost.same hsc (Fr.refl No w1))
    clear hgs hgt hsc hf1 hsg hst
    go_loopw [8, 9] (fun v u wr => ∃ i a : Nat, u = .int .i64 i ∧ v = .int .i64 a ∧ i ≤ D ∧ a ≤ s.size ∧ Hid (∃ rs, rds (bys s) i = some (rs, a) ∧ ScPost 83 36 (fun b => b = gs ∨ b = gt) w1 gs (rs ++ List.replicate (D - rs.length) []) wr)) (fun _ u _ => D - (intOf u).toNat)
    case atStart => exact ⟨0, 0, rfl, rfl, Nat.zero_le _, Nat.zero_le _, Lib.hid ⟨[], rfl, HS0.out⟩⟩
    case round =>
      obtain ⟨i, a, rfl, rfl, hin, has, Hi⟩ := hrel
      obtain ⟨rs, hrs, hpo⟩ := Hi.out
      have Hrl := Lib.hid (rds_len hrs)
      have Hrs := Lib.hid hrs
      clear Hi hrs
      by_cases hlt : i < D
      · rw [cur_start (by rw [Hrl.out]; exact hlt)] at hpo
        have Hpo := Lib.hid hpo
        have HF2 := Lib.hid (by obtain ⟨P1, T1, ct1, qs1, hsc1, hP1, hfr1⟩ := Hpo.out; exact HW.out _ hfr1)
        clear hpo
        by_cases ha : a < s.size
        · have hba := bys_at s a ha
          have Hba := Lib.hid hba
          have hn256 : s[a].toNat < 256 := s[a].toNat_lt
          clear hba
          by_cases hfit : a + 1 + 4 * s[a].toNat ≤ s.size
          · have Hrn := Lib.hid (rds_next Hrs.out (show rd1 (bys s) a = some (bnds (bys s) (a + 1) s[a].toNat, a + 1 + 4 * s[a].toNat) by unfold rd1; rw [Hba.out, if_pos (by rw [Hbl.out]; exact ⟨ha, hfit⟩)]))
            go_upto_region 14 with fail
            obtain ⟨nn, hnn⟩ : ∃ nn, s[a].toNat = nn := ⟨_, rfl⟩
            rw [hnn] at Hrn hfit hn256
            simp only [hnn]
            have hda : decide (s.size ≤ a) = false := decide_eq_false (by omega)
            have hdb : decide ((s.size : Int) < (a : Int) + 1 + 4 * (nn : Int)) = false := decide_eq_false (by omega)
            simp only [hda, hdb]
            clear hda hdb
            go_wp2
            go_loopw [8, 11] (fun v u wq => ∃ k : Nat, u = .int .i64 k ∧ v = .int .i64 ((a + 1 + 4 * k : Nat) : Int) ∧ k ≤ nn ∧ Hid (ScPost 83 36 (fun b => b = gs ∨ b = gt) w1 gs (cur rs D (bnds (bys s) (a + 1) k)) wq)) (fun _ u _ => nn - (intOf u).toNat)
            case atStart => exact ⟨0, rfl, by go_num, Nat.zero_le _, Hpo⟩
            case round =>
              obtain ⟨k, rfl, rfl, hkn, Hk⟩ := hrel
              by_cases hk : k < nn
              · have hf : a + 1 + 4 * k + 4 ≤ s.size := by omega
                obtain ⟨P1, T1, ct1, qs1, hsc1, hP1, hfr1⟩ := Hk.out
                have hcl := cur_len (bnds (bys s) (a + 1) k) (show rs.length < D by rw [Hrl.out]; exact hlt)
                have hil : i < (cur rs D (bnds (bys s) (a + 1) k)).length := by rw [hcl]; exact hlt
                obtain ⟨g5, hT, c0, c1, fz, n1, n2, n3, k1, k2, hkv, hblk⟩ := Sc.at_ hsc1 hil
                have hrow : (cur rs D (bnds (bys s) (a + 1) k)).getD i [] = bnds (bys s) (a + 1) k := by rw [← Hrl.out]; exact cur_get _ _ _
                obtain ⟨hn1, hn2⟩ := sub_num4 s (a + 1 + 4 * k) hf
                have hNw := fun W => narrow_any (w := W) (sub s (a + 1 + 4 * k) 4) (by rw [hn2]; exact Nat.le_refl _)
                rw [hn1] at hNw
                have hsub := sub_extract s (a + 1 + 4 * k) 4
                have hv4 : numk (bys s) (a + 1 + 4 * k) 4 < 4294967296 := numk4_lt Hlt.out _
                obtain ⟨A1, c5, w5, hrun, b1, b2, b3, hpush⟩ := row_push (tR := 36) (y := numk (bys s) (a + 1 + 4 * k) 4) Try.underlying36 hsc1 hil hT hv4 (n := k) (by rw [hrow, bnds_len]) (by omega)
                have HPn := Lib.hid (ScPost.tr hfr1 hP1 hpush)
                rw [hrow, ← bnds_succ, ← Hrl.out, cur_set, Hrl.out] at HPn
                rw [hcl, hT] at c0 b1
                rw [hcl] at k1
                unfold rv at c1
                rw [hrow, bnds_len] at c1
                clear hpush hkv hblk hsc1 hcl hil hrow hT
                clear Hk hfr1 hP1 hn1 hn2
                generalize sub s (a + 1 + 4 * k) 4 = tk at *
                generalize numk (bys s) (a + 1 + 4 * k) 4 = y at *
                generalize (qs1.getD i q0).1 = R5 at *
                generalize (qs1.getD i q0).2 = m5 at *
                go_upto_region 17 with fail
                have hw3 : IntKind.i64.wrap ((a : Int) + 1 + 4 * (k : Int) + 4) = (a : Int) + 1 + 4 * (k : Int) + 4 := IntWalk.i64_in _ (by omega)
                have hw4 : (0 : Int) ≤ (a : Int) + 1 + 4 * (k : Int) + 4 ∧ (a : Int) + 1 + 4 * (k : Int) + 4 ≤ (s.size : Int) := by omega
                have hw5 : (0 : Int) ≤ (a : Int) + 1 + 4 * (k : Int) ∧ (a : Int) + 1 + 4 * (k : Int) ≤ (a : Int) + 1 + 4 * (k : Int) + 4 := by omega
                have hw6 : ((a : Int) + 1 + 4 * (k : Int)).toNat = a + 1 + 4 * k := by omega
                have hw7 : ((a : Int) + 1 + 4 * (k : Int) + 4).toNat = a + 1 + 4 * k + 4 := by omega
                have hw8 : IntKind.u32.wrap (y : Int) = (y : Int) := IntWalk.u32_in _ (by omega)
                (refine wp_region_held_drew (S := fun w' => w'.cell? ⟨gs, 0, none⟩ = some (.slice (some ⟨g5, 0, none⟩) D ct1)) (by kernel_rfl) ?_ (fun hHeld => ?_); focus ((try dsimp only); (repeat (first | with_reducible assumption | with_reducible refine cel_alloc ?_ _ | with_reducible refine cel_drew ?_ | with_reducible refine cel_drewN ?_ _ | with_reducible refine cel_set ?_ (by first | (simp; done) | (simp; omega)) _ | with_reducible refine cel_no ?_ (by assumption))); done))
                ((refine wpAnyH_take (i := 0) (v := ?_) rfl (by kernel_rfl) (by kernel_rfl) (by kernel_rfl) (fun _ _ _ h => h) (Or.inl ⟨by rfl, ?_⟩) (by assumption) ?_; rotate_left; focus (intro w hSw; (try dsimp only at hSw); go_simp; (try with_reducible rfl); done)); (try simp only [Act.put, List.setIfInBounds_toArray, List.set_cons_zero, List.set_cons_succ, List.getElem_toArray, List.getElem_cons_zero, List.getElem_cons_succ]); (refine wpAnyH_take (i := 1) (v := ?_) rfl (by kernel_rfl) (by kernel_rfl) (by kernel_rfl) (fun _ _ _ h => h) (Or.inl ⟨by rfl, ?_⟩) (by assumption) ?_; rotate_left; focus (intro w hSw; (try dsimp only at hSw); go_simp; (try with_reducible rfl); done)); (try simp only [Act.put, List.setIfInBounds_toArray, List.set_cons_zero, List.set_cons_succ, List.getElem_toArray, List.getElem_cons_zero, List.getElem_cons_succ]); (refine wpAnyH_take (i := 2) (v := ?_) rfl (by kernel_rfl) (by kernel_rfl) (by kernel_rfl) (fun _ _ _ h => h) (Or.inl ⟨by rfl, ?_⟩) (by assumption) ?_; rotate_left; focus (intro w hSw; (try dsimp only at hSw); go_simp; (try with_reducible rfl); done)); (try simp only [Act.put, List.setIfInBounds_toArray, List.set_cons_zero, List.set_cons_succ, List.getElem_toArray, List.getElem_cons_zero, List.getElem_cons_succ]); (refine wpAnyH_take (i := 3) (v := ?_) rfl (by kernel_rfl) (by kernel_rfl) (by kernel_rfl) (fun _ _ _ h => h) (Or.inl ⟨by rfl, ?_⟩) (by assumption) ?_; rotate_left; focus (intro w hSw; (try dsimp only at hSw); go_simp; (try with_reducible rfl); done)); (try simp only [Act.put, List.setIfInBounds_toArray, List.set_cons_zero, List.set_cons_succ, List.getElem_toArray, List.getElem_cons_zero, List.getElem_cons_succ]); (refine wpAnyH_take (i := 4) (v := ?_) rfl (by kernel_rfl) (by kernel_rfl) (by kernel_rfl) (fun _ _ _ h => h) (Or.inl ⟨by rfl, ?_⟩) (by assumption) ?_; rotate_left; focus (intro w hSw; (try dsimp only at hSw); go_simp; (try with_reducible rfl); done)); (try simp only [Act.put, List.setIfInBounds_toArray, List.set_cons_zero, List.set_cons_succ, List.getElem_toArray, List.getElem_cons_zero, List.getElem_cons_succ]); (refine wpAnyH_take (i := 5) (v := ?_) rfl (by kernel_rfl) (by kernel_rfl) (by kernel_rfl) (fun _ _ _ h => h) (Or.inl ⟨by rfl, ?_⟩) (by assumption) ?_; rotate_left; focus (intro w hSw; (try dsimp only at hSw); go_simp; (try with_reducible rfl); done)); (try simp only [Act.put, List.setIfInBounds_toArray, List.set_cons_zero, List.set_cons_succ, List.getElem_toArray, List.getElem_cons_zero, List.getElem_cons_succ]); (refine wpAnyH_take (i := 6) (v := ?_) rfl (by kernel_rfl) (by kernel_rfl) (by kernel_rfl) (fun _ _ _ h => h) (Or.inl ⟨by rfl, ?_⟩) (by assumption) ?_; rotate_left; focus (intro w hSw; (try dsimp only at hSw); go_simp; (try with_reducible rfl); done)); (try simp only [Act.put, List.setIfInBounds_toArray, List.set_cons_zero, List.set_cons_succ, List.getElem_toArray, List.getElem_cons_zero, List.getElem_cons_succ]); (refine wpAnyH_take (i := 7) (v := ?_) rfl (by kernel_rfl) (by kernel_rfl) (by kernel_rfl) (fun _ _ _ h => h) (Or.inl ⟨by rfl, ?_⟩) (by assumption) ?_; rotate_left; focus (intro w hSw; (try dsimp only at hSw); go_simp; (try with_reducible rfl); done)); (try simp only [Act.put, List.setIfInBounds_toArray, List.set_cons_zero, List.set_cons_succ, List.getElem_toArray, List.getElem_cons_zero, List.getElem_cons_succ]); (refine wpAnyH_take (i := 8) (v := ?_) rfl (by kernel_rfl) (by kernel_rfl) (by kernel_rfl) (fun _ _ _ h => h) (Or.inl ⟨by rfl, ?_⟩) (by assumption) ?_; rotate_left; focus (intro w hSw; (try dsimp only at hSw); go_simp; (try with_reducible rfl); done)); (try simp only [Act.put, List.setIfInBounds_toArray, List.set_cons_zero, List.set_cons_succ, List.getElem_toArray, List.getElem_cons_zero, List.getElem_cons_succ]); (refine wpAnyH_take (i := 9) (v := ?_) rfl (by kernel_rfl) (by kernel_rfl) (by kernel_rfl) (fun _ _ _ h => h) (Or.inl ⟨by rfl, ?_⟩) (by assumption) ?_; rotate_left; focus (intro w hSw; (try dsimp only at hSw); go_simp; (try with_reducible rfl); done)); (try simp only [Act.put, List.setIfInBounds_toArray, List.set_cons_zero, List.set_cons_succ, List.getElem_toArray, List.getElem_cons_zero, List.getElem_cons_succ]); (refine wpAnyH_take (i := 10) (v := ?_) rfl (by kernel_rfl) (by kernel_rfl) (by kernel_rfl) (fun _ _ _ h => h) (Or.inl ⟨by rfl, ?_⟩) (by assumption) ?_; rotate_left; focus (intro w hSw; (try dsimp only at hSw); go_simp; (try with_reducible rfl); done)); (try simp only [Act.put, List.setIfInBounds_toArray, List.set_cons_zero, List.set_cons_succ, List.getElem_toArray, List.getElem_cons_zero, List.getElem_cons_succ]); (refine wpAnyH_take (i := 12) (v := ?_) rfl (by kernel_rfl) (by kernel_rfl) (by kernel_rfl) (fun _ _ _ h => h) (Or.inl ⟨by rfl, ?_⟩) (by assumption) ?_; rotate_left; focus (intro w hSw; (try dsimp only at hSw); go_simp; (try with_reducible rfl); done)); (try simp only [Act.put, List.setIfInBounds_toArray, List.set_cons_zero, List.set_cons_succ, List.getElem_toArray, List.getElem_cons_zero, List.getElem_cons_succ]); (refine wpAnyH_take (i := 13) (v := ?_) rfl (by kernel_rfl) (by kernel_rfl) (by kernel_rfl) (fun _ _ _ h => h) (Or.inl ⟨by rfl, ?_⟩) (by assumption) ?_; rotate_left; focus (intro w hSw; (try dsimp only at hSw); go_simp; (try with_reducible rfl); done)); (try simp only [Act.put, List.setIfInBounds_toArray, List.set_cons_zero, List.set_cons_succ, List.getElem_toArray, List.getElem_cons_zero, List.getElem_cons_succ]); (refine wpAnyH_take (i := 14) (v := ?_) rfl (by kernel_rfl) (by kernel_rfl) (by kernel_rfl) (fun _ _ _ h => h) (Or.inl ⟨by rfl, ?_⟩) (by assumption) ?_; rotate_left; focus (intro w hSw; (try dsimp only at hSw); go_simp; (try with_reducible rfl); done)); (try simp only [Act.put, List.setIfInBounds_toArray, List.set_cons_zero, List.set_cons_succ, List.getElem_toArray, List.getElem_cons_zero, List.getElem_cons_succ]))
                (refine wpAnyH_take (i := 15) (v := ?_) rfl (by kernel_rfl) (by kernel_rfl) (by kernel_rfl) (fun _ _ _ h => h) (Or.inl ⟨by rfl, ?_⟩) (by assumption) ?_; rotate_left; focus (intro w hSw; (try dsimp only at hSw); go_simp; (try simp only [hw3]); (try with_reducible rfl); done)); (try simp only [Act.put, List.setIfInBounds_toArray, List.set_cons_zero, List.set_cons_succ, List.getElem_toArray, List.getElem_cons_zero, List.getElem_cons_succ])
                (refine wpAnyH_take (i := 16) (v := ?_) rfl (by kernel_rfl) (by kernel_rfl) (by kernel_rfl) (fun _ _ _ h => h) (Or.inl ⟨by rfl, ?_⟩) (by assumption) ?_; rotate_left; focus (intro w hSw; (try dsimp only at hSw); go_simp; (try simp only [if_pos hw4, if_pos hw5, hw6, hw7, hsub]); (try with_reducible rfl); done)); (try simp only [Act.put, List.setIfInBounds_toArray, List.set_cons_zero, List.set_cons_succ, List.getElem_toArray, List.getElem_cons_zero, List.getElem_cons_succ])
                (refine wpAnyH_ready (rs := [11, 17]) (by kernel_rfl) (by simp) ?_; refine AllReadyH.cons rfl (fun K hK => ?_) (AllReadyH.cons rfl (fun K hK => ?_) AllReadyH.nil))
                ((try simp only [Act.put, List.setIfInBounds_toArray, List.set_cons_zero, List.set_cons_succ, List.getElem_toArray, List.getElem_cons_zero, List.getElem_cons_succ]); go_simp; refine hK.out _ _ ?_ (fun hHeld => ?_); focus ((try dsimp only); (repeat (first | with_reducible assumption | with_reducible refine cel_alloc ?_ _ | with_reducible refine cel_drew ?_ | with_reducible refine cel_drewN ?_ _ | with_reducible refine cel_set ?_ (by first | (simp; done) | (simp; omega)) _ | with_reducible refine cel_no ?_ (by assumption))); done)); (clear hK K); (try simp only [Act.put, List.setIfInBounds_toArray, List.set_cons_zero, List.set_cons_succ, List.getElem_toArray, List.getElem_cons_zero, List.getElem_cons_succ])
                · (refine wpAnyH_ready (rs := [17]) (by kernel_rfl) (by simp) ?_; refine AllReadyH.cons rfl (fun K hK => ?_) AllReadyH.nil; (try simp only [Act.put, List.setIfInBounds_toArray, List.set_cons_zero, List.set_cons_succ, List.getElem_toArray, List.getElem_cons_zero, List.getElem_cons_succ]); go_simp; (go_at_call 43; ((with_reducible refine (hNw _).mono ?_); rintro e w5 ⟨rfl, rfl⟩)); (try go_wp2_with fail); refine hK.out _ _ ?_ (fun hHeld => ?_); focus ((try dsimp only); (repeat (first | with_reducible assumption | with_reducible refine cel_alloc ?_ _ | with_reducible refine cel_drew ?_ | with_reducible refine cel_drewN ?_ _ | with_reducible refine cel_set ?_ (by first | (simp; done) | (simp; omega)) _ | with_reducible refine cel_no ?_ (by assumption))); done)); (clear hK K); (try simp only [Act.put, List.setIfInBounds_toArray, List.set_cons_zero, List.set_cons_succ, List.getElem_toArray, List.getElem_cons_zero, List.getElem_cons_succ])
                  (refine wpAnyH_take (i := 18) (v := ?_) rfl (by kernel_rfl) (by kernel_rfl) (by kernel_rfl) (fun _ _ _ h => h) (Or.inl ⟨by rfl, ?_⟩) (by assumption) ?_; rotate_left; focus (intro w hSw; (try dsimp only at hSw); go_simp; (try simp only [hw8]); (try with_reducible rfl); done)); (try simp only [Act.put, List.setIfInBounds_toArray, List.set_cons_zero, List.set_cons_succ, List.getElem_toArray, List.getElem_cons_zero, List.getElem_cons_succ])
                  (refine wpAnyH_ready (rs := [19]) (by kernel_rfl) (by simp) ?_; refine AllReadyH.cons rfl (fun K hK => ?_) AllReadyH.nil; (try simp only [Act.put, List.setIfInBounds_toArray, List.set_cons_zero, List.set_cons_succ, List.getElem_toArray, List.getElem_cons_zero, List.getElem_cons_succ]); go_simp; refine hK.out _ _ ?_ (fun hHeld => ?_); focus ((try dsimp only); (repeat (first | with_reducible assumption | with_reducible refine cel_alloc ?_ _ | with_reducible refine cel_drew ?_ | with_reducible refine cel_drewN ?_ _ | with_reducible refine cel_set ?_ (by first | (simp; done) | (simp; omega)) _ | with_reducible refine cel_no ?_ (by assumption))); done)); (clear hK K); (try simp only [Act.put, List.setIfInBounds_toArray, List.set_cons_zero, List.set_cons_succ, List.getElem_toArray, List.getElem_cons_zero, List.getElem_cons_succ])
                  (refine wpAnyH_ready (rs := [20]) (by kernel_rfl) (by simp) ?_; refine AllReadyH.cons rfl (fun K hK => ?_) AllReadyH.nil; (try simp only [Act.put, List.setIfInBounds_toArray, List.set_cons_zero, List.set_cons_succ, List.getElem_toArray, List.getElem_cons_zero, List.getElem_cons_succ]); go_simp; skip; (try go_wp2_with fail); refine hK.out _ _ ?_ (fun hHeld => ?_); focus ((try dsimp only); (repeat (first | with_reducible assumption | with_reducible refine cel_alloc ?_ _ | with_reducible refine cel_drew ?_ | with_reducible refine cel_drewN ?_ _ | with_reducible refine cel_set ?_ (by first | (simp; done) | (simp; omega)) _ | with_reducible refine cel_no ?_ (by assumption))); done)); (clear hK K); (try simp only [Act.put, List.setIfInBounds_toArray, List.set_cons_zero, List.set_cons_succ, List.getElem_toArray, List.getElem_cons_zero, List.getElem_cons_succ])
                  (refine wpAnyH_take (i := 21) (v := ?_) rfl (by kernel_rfl) (by kernel_rfl) (by kernel_rfl) (fun _ _ _ h => h) (Or.inl ⟨by rfl, ?_⟩) (by assumption) ?_; rotate_left; focus (intro w hSw; (try dsimp only at hSw); go_simp; (try with_reducible rfl); done)); (try simp only [Act.put, List.setIfInBounds_toArray, List.set_cons_zero, List.set_cons_succ, List.getElem_toArray, List.getElem_cons_zero, List.getElem_cons_succ])
                  (refine wpAnyH_ready (rs := [22]) (by kernel_rfl) (by simp) ?_; refine AllReadyH.cons rfl (fun K hK => ?_) AllReadyH.nil; (try simp only [Act.put, List.setIfInBounds_toArray, List.set_cons_zero, List.set_cons_succ, List.getElem_toArray, List.getElem_cons_zero, List.getElem_cons_succ]); go_simp; refine hK.out _ _ ?_ (fun hHeld => ?_); focus ((try dsimp only); (repeat (first | with_reducible assumption | with_reducible refine cel_alloc ?_ _ | with_reducible refine cel_drew ?_ | with_reducible refine cel_drewN ?_ _ | with_reducible refine cel_set ?_ (by first | (simp; done) | (simp; omega)) _ | with_reducible refine cel_no ?_ (by assumption))); done)); (clear hK K); (try simp only [Act.put, List.setIfInBounds_toArray, List.set_cons_zero, List.set_cons_succ, List.getElem_toArray, List.getElem_cons_zero, List.getElem_cons_succ])
                  (refine wpAnyH_done (by kernel_rfl) ?_ _)
                  (try go_wp2)
                  go_roundw
                  case rel => exact ⟨k + 1, by go_num, by go_num, hk, HPn⟩
                  case measure => simp [intOf]; omega
                ((try simp only [Act.put, List.setIfInBounds_toArray, List.set_cons_zero, List.set_cons_succ, List.getElem_toArray, List.getElem_cons_zero, List.getElem_cons_succ]); go_simp; (go_at_call 43; ((with_reducible refine (hNw _).mono ?_); rintro e w5 ⟨rfl, rfl⟩)); (try go_wp2_with fail); refine hK.out _ _ ?_ (fun hHeld => ?_); focus ((try dsimp only); (repeat (first | with_reducible assumption | with_reducible refine cel_alloc ?_ _ | with_reducible refine cel_drew ?_ | with_reducible refine cel_drewN ?_ _ | with_reducible refine cel_set ?_ (by first | (simp; done) | (simp; omega)) _ | with_reducible refine cel_no ?_ (by assumption))); done)); (clear hK K); (try simp only [Act.put, List.setIfInBounds_toArray, List.set_cons_zero, List.set_cons_succ, List.getElem_toArray, List.getElem_cons_zero, List.getElem_cons_succ])
                (refine wpAnyH_take (i := 18) (v := ?_) rfl (by kernel_rfl) (by kernel_rfl) (by kernel_rfl) (fun _ _ _ h => h) (Or.inl ⟨by rfl, ?_⟩) (by assumption) ?_; rotate_left; focus (intro w hSw; (try dsimp only at hSw); go_simp; (try simp only [hw8]); (try with_reducible rfl); done)); (try simp only [Act.put, List.setIfInBounds_toArray, List.set_cons_zero, List.set_cons_succ, List.getElem_toArray, List.getElem_cons_zero, List.getElem_cons_succ])
                (refine wpAnyH_ready (rs := [11, 19]) (by kernel_rfl) (by simp) ?_; refine AllReadyH.cons rfl (fun K hK => ?_) (AllReadyH.cons rfl (fun K hK => ?_) AllReadyH.nil))
                ((try simp only [Act.put, List.setIfInBounds_toArray, List.set_cons_zero, List.set_cons_succ, List.getElem_toArray, List.getElem_cons_zero, List.getElem_cons_succ]); go_simp; refine hK.out _ _ ?_ (fun hHeld => ?_); focus ((try dsimp only); (repeat (first | with_reducible assumption | with_reducible refine cel_alloc ?_ _ | with_reducible refine cel_drew ?_ | with_reducible refine cel_drewN ?_ _ | with_reducible refine cel_set ?_ (by first | (simp; done) | (simp; omega)) _ | with_reducible refine cel_no ?_ (by assumption))); done)); (clear hK K); (try simp only [Act.put, List.setIfInBounds_toArray, List.set_cons_zero, List.set_cons_succ, List.getElem_toArray, List.getElem_cons_zero, List.getElem_cons_succ])
                · (refine wpAnyH_ready (rs := [19]) (by kernel_rfl) (by simp) ?_; refine AllReadyH.cons rfl (fun K hK => ?_) AllReadyH.nil; (try simp only [Act.put, List.setIfInBounds_toArray, List.set_cons_zero, List.set_cons_succ, List.getElem_toArray, List.getElem_cons_zero, List.getElem_cons_succ]); go_simp; refine hK.out _ _ ?_ (fun hHeld => ?_); focus ((try dsimp only); (repeat (first | with_reducible assumption | with_reducible refine cel_alloc ?_ _ | with_reducible refine cel_drew ?_ | with_reducible refine cel_drewN ?_ _ | with_reducible refine cel_set ?_ (by first | (simp; done) | (simp; omega)) _ | with_reducible refine cel_no ?_ (by assumption))); done)); (clear hK K); (try simp only [Act.put, List.setIfInBounds_toArray, List.set_cons_zero, List.set_cons_succ, List.getElem_toArray, List.getElem_cons_zero, List.getElem_cons_succ])
                  (refine wpAnyH_ready (rs := [20]) (by kernel_rfl) (by simp) ?_; refine AllReadyH.cons rfl (fun K hK => ?_) AllReadyH.nil; (try simp only [Act.put, List.setIfInBounds_toArray, List.set_cons_zero, List.set_cons_succ, List.getElem_toArray, List.getElem_cons_zero, List.getElem_cons_succ]); go_simp; skip; (try go_wp2_with fail); refine hK.out _ _ ?_ (fun hHeld => ?_); focus ((try dsimp only); (repeat (first | with_reducible assumption | with_reducible refine cel_alloc ?_ _ | with_reducible refine cel_drew ?_ | with_reducible refine cel_drewN ?_ _ | with_reducible refine cel_set ?_ (by first | (simp; done) | (simp; omega)) _ | with_reducible refine cel_no ?_ (by assumption))); done)); (clear hK K); (try simp only [Act.put, List.setIfInBounds_toArray, List.set_cons_zero, List.set_cons_succ, List.getElem_toArray, List.getElem_cons_zero, List.getElem_cons_succ])
                  (refine wpAnyH_take (i := 21) (v := ?_) rfl (by kernel_rfl) (by kernel_rfl) (by kernel_rfl) (fun _ _ _ h => h) (Or.inl ⟨by rfl, ?_⟩) (by assumption) ?_; rotate_left; focus (intro w hSw; (try dsimp only at hSw); go_simp; (try with_reducible rfl); done)); (try simp only [Act.put, List.setIfInBounds_toArray, List.set_cons_zero, List.set_cons_succ, List.getElem_toArray, List.getElem_cons_zero, List.getElem_cons_succ])
                  (refine wpAnyH_ready (rs := [22]) (by kernel_rfl) (by simp) ?_; refine AllReadyH.cons rfl (fun K hK => ?_) AllReadyH.nil; (try simp only [Act.put, List.setIfInBounds_toArray, List.set_cons_zero, List.set_cons_succ, List.getElem_toArray, List.getElem_cons_zero, List.getElem_cons_succ]); go_simp; refine hK.out _ _ ?_ (fun hHeld => ?_); focus ((try dsimp only); (repeat (first | with_reducible assumption | with_reducible refine cel_alloc ?_ _ | with_reducible refine cel_drew ?_ | with_reducible refine cel_drewN ?_ _ | with_reducible refine cel_set ?_ (by first | (simp; done) | (simp; omega)) _ | with_reducible refine cel_no ?_ (by assumption))); done)); (clear hK K); (try simp only [Act.put, List.setIfInBounds_toArray, List.set_cons_zero, List.set_cons_succ, List.getElem_toArray, List.getElem_cons_zero, List.getElem_cons_succ])
                  (refine wpAnyH_done (by kernel_rfl) ?_ _)
                  (try go_wp2)
                  go_roundw
                  case rel => exact ⟨k + 1, by go_num, by go_num, hk, HPn⟩
                  case measure => simp [intOf]; omega
                ((try simp only [Act.put, List.setIfInBounds_toArray, List.set_cons_zero, List.set_cons_succ, List.getElem_toArray, List.getElem_cons_zero, List.getElem_cons_succ]); go_simp; refine hK.out _ _ ?_ (fun hHeld => ?_); focus ((try dsimp only); (repeat (first | with_reducible assumption | with_reducible refine cel_alloc ?_ _ | with_reducible refine cel_drew ?_ | with_reducible refine cel_drewN ?_ _ | with_reducible refine cel_set ?_ (by first | (simp; done) | (simp; omega)) _ | with_reducible refine cel_no ?_ (by assumption))); done)); (clear hK K); (try simp only [Act.put, List.setIfInBounds_toArray, List.set_cons_zero, List.set_cons_succ, List.getElem_toArray, List.getElem_cons_zero, List.getElem_cons_succ])
                (refine wpAnyH_ready (rs := [11]) (by kernel_rfl) (by simp) ?_; refine AllReadyH.cons rfl (fun K hK => ?_) AllReadyH.nil; (try simp only [Act.put, List.setIfInBounds_toArray, List.set_cons_zero, List.set_cons_succ, List.getElem_toArray, List.getElem_cons_zero, List.getElem_cons_succ]); go_simp; refine hK.out _ _ ?_ (fun hHeld => ?_); focus ((try dsimp only); (repeat (first | with_reducible assumption | with_reducible refine cel_alloc ?_ _ | with_reducible refine cel_drew ?_ | with_reducible refine cel_drewN ?_ _ | with_reducible refine cel_set ?_ (by first | (simp; done) | (simp; omega)) _ | with_reducible refine cel_no ?_ (by assumption))); done)); (clear hK K); (try simp only [Act.put, List.setIfInBounds_toArray, List.set_cons_zero, List.set_cons_succ, List.getElem_toArray, List.getElem_cons_zero, List.getElem_cons_succ])
                (refine wpAnyH_ready (rs := [20]) (by kernel_rfl) (by simp) ?_; refine AllReadyH.cons rfl (fun K hK => ?_) AllReadyH.nil; (try simp only [Act.put, List.setIfInBounds_toArray, List.set_cons_zero, List.set_cons_succ, List.getElem_toArray, List.getElem_cons_zero, List.getElem_cons_succ]); go_simp; skip; (try go_wp2_with fail); refine hK.out _ _ ?_ (fun hHeld => ?_); focus ((try dsimp only); (repeat (first | with_reducible assumption | with_reducible refine cel_alloc ?_ _ | with_reducible refine cel_drew ?_ | with_reducible refine cel_drewN ?_ _ | with_reducible refine cel_set ?_ (by first | (simp; done) | (simp; omega)) _ | with_reducible refine cel_no ?_ (by assumption))); done)); (clear hK K); (try simp only [Act.put, List.setIfInBounds_toArray, List.set_cons_zero, List.set_cons_succ, List.getElem_toArray, List.getElem_cons_zero, List.getElem_cons_succ])
                (refine wpAnyH_take (i := 21) (v := ?_) rfl (by kernel_rfl) (by kernel_rfl) (by kernel_rfl) (fun _ _ _ h => h) (Or.inl ⟨by rfl, ?_⟩) (by assumption) ?_; rotate_left; focus (intro w hSw; (try dsimp only at hSw); go_simp; (try with_reducible rfl); done)); (try simp only [Act.put, List.setIfInBounds_toArray, List.set_cons_zero, List.set_cons_succ, List.getElem_toArray, List.getElem_cons_zero, List.getElem_cons_succ])
                (refine wpAnyH_ready (rs := [22]) (by kernel_rfl) (by simp) ?_; refine AllReadyH.cons rfl (fun K hK => ?_) AllReadyH.nil; (try simp only [Act.put, List.setIfInBounds_toArray, List.set_cons_zero, List.set_cons_succ, List.getElem_toArray, List.getElem_cons_zero, List.getElem_cons_succ]); go_simp; refine hK.out _ _ ?_ (fun hHeld => ?_); focus ((try dsimp only); (repeat (first | with_reducible assumption | with_reducible refine cel_alloc ?_ _ | with_reducible refine cel_drew ?_ | with_reducible refine cel_drewN ?_ _ | with_reducible refine cel_set ?_ (by first | (simp; done) | (simp; omega)) _ | with_reducible refine cel_no ?_ (by assumption))); done)); (clear hK K); (try simp only [Act.put, List.setIfInBounds_toArray, List.set_cons_zero, List.set_cons_succ, List.getElem_toArray, List.getElem_cons_zero, List.getElem_cons_succ])
                (refine wpAnyH_done (by kernel_rfl) ?_ _)
                (try go_wp2)
                go_roundw
                case rel => exact ⟨k + 1, by go_num, by go_num, hk, HPn⟩
                case measure => simp [intOf]; omega
              · obtain rfl : k = nn := by omega
                rw [cur_end] at Hk
                go_wp2
                go_roundw
                case rel => exact ⟨i + 1, a + 1 + 4 * k, by go_num, by go_num, hlt, hfit, Lib.hid ⟨_, Hrn.out, Hk.out⟩⟩
                case measure => simp [intOf]; omega
          · have Hdn := Lib.hid (show rds (bys s) D = none from rds_cut Hrs.out (by unfold rd1; rw [Hba.out, if_neg]; rw [Hbl.out]; omega) hlt)
            go_wp2
            (try go_ret2)
            subst hQ
            exact ⟨none, by rw [decE_none hD Hdn.out]; rfl, HF2.out, .inl ⟨by rw [decE_none hD Hdn.out]; decide, rfl⟩⟩
        · have Hdn := Lib.hid (show rds (bys s) D = none from rds_cut Hrs.out (by unfold rd1; rw [if_neg]; rw [Hbl.out]; omega) hlt)
          go_wp2
          (try go_ret2)
          subst hQ
          exact ⟨none, by rw [decE_none hD Hdn.out]; rfl, HF2.out, .inl ⟨by rw [decE_none hD Hdn.out]; decide, rfl⟩⟩
      · obtain rfl : i = D := by omega
        rw [Hrl.out, Nat.sub_self, List.replicate_zero, List.append_nil] at hpo
        obtain ⟨wo, hwo⟩ : ∃ x, x = wr := ⟨wr, rfl⟩
        subst hwo
        obtain ⟨P1, T1, ct1, qs1, hsc1, hP1, hfr1⟩ := hpo
        have HF2 := Lib.hid (HW.out _ hfr1)
        have HSc := Lib.hid hsc1
        have HPb := Lib.hid (fun b (hb : P1 b) => HB.out b (hP1 b hb))
        have HE := Lib.hid (decE_some hD Hrs.out)
        have HRr := Lib.hid (decR_some Hrs.out)
        have HSr := Lib.hid hsc1.sr
        have c0 := hsc1.sr.c0
        have hcp := hsc1.sr.cap
        have hcm := hsc1.sr.most
        have hrl := Hrl.out
        rw [Hbl.out] at HE
        clear hsc1 hP1 hfr1
        by_cases has2 : a = s.size
        · subst has2
          go_wp2
          go_loopw [12] (fun v wx => ∃ j : Nat, v = .int .i64 j ∧ j ≤ i ∧ Hid ((∀ x ∈ rs.take j, mayR x) ∧ Fr No wo wx)) (fun v _ => i - (intOf v).toNat)
          case atStart => exact ⟨0, rfl, Nat.zero_le _, Lib.hid ⟨fun x hx => by simp at hx, Fr.refl _ _⟩⟩
          case round =>
            obtain ⟨j, rfl, hji, Hj⟩ := hrel
            by_cases hjlt : j < i
            · obtain ⟨g5, R, cr, hT, c1, hk⟩ := HSr.out.get j (by rw [hrl]; exact hjlt)
              subst hT
              have HK := Lib.hid hk
              have Hnb := Lib.hid (show (¬ mayR (rs.getD j [])) → decE (i : Int) (bys s) = 6 from fun e => by
                rw [HE.out, if_neg (fun q => e (q.2 _ (by
                  have hj2 : j < rs.length := by rw [hrl]; exact hjlt
                  have e2 : rs.getD j [] = rs[j] := by simp [List.getD_eq_getElem?_getD, hj2]
                  rw [e2]; exact List.getElem_mem hj2)))])
              have Htk := Lib.hid (show mayR (rs.getD j []) → ∀ x ∈ rs.take (j + 1), mayR x from fun e x hx => by
                have hj2 : j < rs.length := by rw [hrl]; exact hjlt
                have e3 : rs.take (j + 1) = rs.take j ++ [rs.getD j []] := by rw [List.take_add_one]; simp [List.getD_eq_getElem?_getD, hj2]
                rw [e3] at hx
                rcases List.mem_append.1 hx with q | q
                · exact Hj.out.1 x q
                · rw [List.mem_singleton.1 q]; exact e)
              have Hjf := Lib.hid Hj.out.2
              rw [may_okk] at Hnb Htk
              have hkc := hk.cap
              have hkm := hk.most
              clear hk Hj
              generalize rs.getD j [] = r at *
              obtain ⟨m, hm⟩ : ∃ m, r.length = m := ⟨_, rfl⟩
              have Hm := Lib.hid hm
              rw [hm] at c1 Hnb Htk HK hkc
              clear hm
              go_wp2
              go_loopw [13] (fun v wy => ∃ k : Nat, v = .int .i64 k ∧ k ≤ m ∧ Hid ((∀ q, q < k → okk r q) ∧ Fr No wo wy)) (fun v _ => m - (intOf v).toNat)
              case atStart => exact ⟨0, rfl, Nat.zero_le _, Lib.hid ⟨fun q hq => by omega, Hjf.out⟩⟩
              case round =>
                obtain ⟨k, rfl, hkm2, Hk⟩ := hrel
                by_cases hk : k < m
                · have f := Hk.out.2
                  have d0 := cel_no c0 f
                  have d1 := cel_no c1 f
                  obtain ⟨b7, o7, rfl, ck0⟩ := HK.out.get k (by rw [Hm.out]; exact hk)
                  have ck := cel_no ck0 f
                  have HFz := Lib.hid (HF2.out.tr f)
                  have HFw := Lib.hid f
                  have HOk2 := Lib.hid (show okk r k → ∀ q, q < k + 1 → okk r q from fun e q hq => by
                    by_cases eq : q = k
                    · subst eq; exact e
                    · exact Hk.out.1 q (by omega))
                  clear f Hk
                  by_cases hy : r.getD k 0 = 0
                  · have HE6 := Lib.hid (Hnb.out (fun q => by have := (q k hk).1; omega))
                    rw [hy] at ck
                    go_upto_region 27 with fail
                    go_quiet (fail)
                    go_wp2
                    (try go_ret2)
                    subst hQ
                    exact ⟨none, by rw [HE6.out]; rfl, HFz.out.drewN _, .inl ⟨by rw [HE6.out]; decide, rfl⟩⟩
                  · have hyb : (((r.getD k 0 : Nat) : Int) == 0) = false := by rw [beq_eq_false_iff_ne]; omega
                    have hy2 : decide (r.getD k 0 = 0) = false := decide_eq_false hy
                    have hy2 : decide (r.getD k 0 = 0) = false := decide_eq_false hy
                    by_cases h63 : 63 ≤ k
                    · have HE6 := Lib.hid (Hnb.out (fun q => by have := (q k hk).2; omega))
                      have hk2 : decide ((63 : Int) ≤ (k : Int)) = true := decide_eq_true (by omega)
                      have hk3 : decide (63 ≤ k) = true := decide_eq_true h63
                      generalize r.getD k 0 = y at *
                      go_upto_region 27 with fail
                      go_quiet (fail)
                      go_wp2
                      (try go_ret2)
                      subst hQ
                      exact ⟨none, by rw [HE6.out]; rfl, HFz.out.drewN _, .inl ⟨by rw [HE6.out]; decide, rfl⟩⟩
                    · rcases Nat.eq_zero_or_pos k with h0 | h0
                      · subst h0
                        have HOk := Lib.hid (HOk2.out ⟨by show 0 < r.getD 0 0; omega, by omega⟩)
                        simp only [Nat.add_zero] at ck
                        generalize r.getD 0 0 = y at *
                        go_upto_region 27 with fail
                        go_quiet (fail)
                        go_wp2
                        go_roundw
                        case rel => exact ⟨_, by go_num, hk, Lib.hid ⟨HOk.out, HFw.out.drewN _⟩⟩
                        case measure => simp [intOf]; omega
                      · obtain ⟨p, rfl⟩ : ∃ p, k = p + 1 := ⟨k - 1, by omega⟩
                        obtain ⟨b8, o8, e8, cp0⟩ := HK.out.get p (by rw [Hm.out]; omega)
                        injection e8 with e8
                        injection e8 with e9 e10
                        subst e9
                        subst e10
                        have cp := cel_no cp0 HFw.out
                        have hwp : IntKind.i64.wrap (p : Int) = (p : Int) := IntWalk.i64_in _ (by omega)
                        have hpm : p < m := by omega
                        have hp0 : (0 : Int) < (p : Int) + 1 := by omega
                        have hk2 : decide ((63 : Int) ≤ (p : Int) + 1) = false := decide_eq_false (by omega)
                        have hk3 : decide (63 ≤ p + 1) = false := decide_eq_false (by omega)
                        have hk4 : decide ((0 : Int) < (p : Int) + 1) = true := decide_eq_true (by omega)
                        by_cases hzy : r.getD p 0 < r.getD (p + 1) 0
                        · have HOk := Lib.hid (HOk2.out ⟨by unfold lowV; rw [if_neg (by omega), Nat.add_sub_cancel]; exact hzy, by omega⟩)
                          have hk5 : decide (((r.getD (p + 1) 0 : Nat) : Int) ≤ ((r.getD p 0 : Nat) : Int)) = false := decide_eq_false (by omega)
                          have hk6 : decide (r.getD (p + 1) 0 ≤ r.getD p 0) = false := decide_eq_false (by omega)
                          generalize r.getD (p + 1) 0 = y at *
                          generalize r.getD p 0 = z at *
                          go_upto_region 27 with fail
                          go_quiet (fail)
                          go_wp2
                          go_roundw
                          case rel => exact ⟨_, by go_num, hk, Lib.hid ⟨HOk.out, HFw.out.drewN _⟩⟩
                          case measure => simp [intOf]; omega
                        · have HE6 := Lib.hid (Hnb.out (fun q => by
                            have := (q (p + 1) hk).1
                            unfold lowV at this
                            rw [if_neg (by omega), Nat.add_sub_cancel] at this
                            omega))
                          have hk5 : decide (((r.getD (p + 1) 0 : Nat) : Int) ≤ ((r.getD p 0 : Nat) : Int)) = true := decide_eq_true (by omega)
                          have hk6 : decide (r.getD (p + 1) 0 ≤ r.getD p 0) = true := decide_eq_true (by omega)
                          generalize r.getD (p + 1) 0 = y at *
                          generalize r.getD p 0 = z at *
                          go_upto_region 27 with fail
                          go_quiet (fail)
                          go_wp2
                          (try go_ret2)
                          subst hQ
                          exact ⟨none, by rw [HE6.out]; rfl, HFz.out.drewN _, .inl ⟨by rw [HE6.out]; decide, rfl⟩⟩
                · obtain rfl : k = m := by omega
                  have HT := Lib.hid (Htk.out Hk.out.1)
                  have hff := Lib.hid Hk.out.2
                  have d0 := cel_no c0 Hk.out.2
                  have d1 := cel_no c1 Hk.out.2
                  clear Hk
                  go_wp2
                  go_roundw
                  case rel => exact ⟨j + 1, by go_num, hjlt, Lib.hid ⟨HT.out, hff.out⟩⟩
                  case measure => simp [intOf]; omega
            · obtain rfl : j = i := by omega
              have hall := Hj.out.1
              rw [List.take_of_length_le (by rw [hrl]; exact Nat.le_refl _)] at hall
              have HE0 := Lib.hid (show decE (j : Int) (bys s) = 0 by rw [HE.out, if_pos ⟨by first | rfl | trivial, hall⟩])
              go_wp2
              (try go_ret2)
              subst hQ
              exact ⟨some ⟨gs, 0, none⟩, by rw [HE0.out]; rfl, HF2.out.tr Hj.out.2, .inr ⟨HE0.out, gs, P1, T1, ct1, qs1, rfl, by rw [HRr.out]; exact HSc.out.no Hj.out.2, HPb.out⟩⟩
        · rw [if_neg (fun e => has2 e.1)] at HE
          have hab : ((a : Int) == (s.size : Int)) = false := by rw [beq_eq_false_iff_ne]; omega
          go_wp2
          (try go_ret2)
          subst hQ
          exact ⟨none, by rw [HE.out]; rfl, HF2.out, .inl ⟨by rw [HE.out]; decide, rfl⟩⟩
  · have HE := Lib.hid (decE_out hd (bys s))
    go_enter Try.func11, Try.ntmps11
    go_wp2_with first
      | (go_at_call 28; ((with_reducible refine (rnew_no hd).mono ?_); rintro en w1 ⟨rfl, rfl⟩))
      | fail
    go_ret2
    exact ⟨none, by rw [HE.out]; rfl, Fr.refl _ _, .inl ⟨by rw [HE.out]; decide, rfl⟩⟩
end
end Go.Proofs.Ytifpigcgkpmheaa.Th12
