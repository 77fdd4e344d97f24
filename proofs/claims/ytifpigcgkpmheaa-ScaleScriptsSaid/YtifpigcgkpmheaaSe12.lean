/- Layer 12: a bound taken out of a scale; no scale. -/
import Derived.Test.YtifpigcgkpmheaaSd12
import Derived.StillTailTactics
namespace Go.Proofs.Ytifpigcgkpmheaa.Se12
open Go.RowKit Go.Proofs.Ytifpigcgkpmheaa.Base Go.Proofs.Ytifpigcgkpmheaa.App Go.Proofs.Ytifpigcgkpmheaa.Str Go.Proofs.Ytifpigcgkpmheaa.Ky Go.Proofs.Ytifpigcgkpmheaa.Bx Go.Proofs.Ytifpigcgkpmheaa.Bo Go.Proofs.Ytifpigcgkpmheaa.As Go.Proofs.Ytifpigcgkpmheaa.Ro Go.Proofs.Ytifpigcgkpmheaa.Ki08 Go.Proofs.Ytifpigcgkpmheaa.Ic Go.Proofs.Ytifpigcgkpmheaa.Sa12 Go.Proofs.Ytifpigcgkpmheaa.Sb12 Go.Proofs.Ytifpigcgkpmheaa.Sc12 Go.Proofs.Ytifpigcgkpmheaa.Sd12
set_option linter.unusedVariables false
set_option linter.unusedSimpArgs false
def remE (rows : List (List Nat)) (z y : Int) : Nat := if (0 ≤ z ∧ z < rows.length) ∧ 0 ≤ y ∧ y < (rows.getD z.toNat []).length then 0 else 1
def remL (rows : List (List Nat)) (z y : Int) : List (List Nat) := if remE rows z y = 0 then rows.set z.toNat (remR (rows.getD z.toNat []) y.toNat) else rows
section
variable {tS tE : TypeId} {P S : Nat → Prop} {w w1 : World} {gs gt ct : Nat} {T : Option Addr} {qs : List Rw} {rows : List (List Nat)} {x : Nat}
theorem remR_sub (r : List Nat) (j : Nat) : List.Sublist (remR r j) r := by
  unfold remR
  have h := List.Sublist.append (List.Sublist.refl (r.take j)) (List.drop_sublist_drop_left r (show j ≤ j + 1 by omega))
  rw [List.take_append_drop] at h
  exact h
theorem Gd.rem (h : Gd rows) (z y : Int) : Gd (remL rows z y) := by
  unfold remL
  split
  · rename_i hc
    unfold remE at hc
    split at hc
    · rename_i hq
      obtain ⟨g1, g2, g3⟩ := h.row (i := z.toNat) (by omega)
      have hs := remR_sub (rows.getD z.toNat []) y.toNat
      exact h.set (List.Pairwise.sublist hs g1) (Nat.le_trans hs.length_le g2) (fun x hx => g3 x (hs.subset hx))
    · cases hc
  · exact h
set_option maxRecDepth 8000 in
set_option maxHeartbeats 3200000 in
theorem remove_any (h : Sp P w gs T ct qs rows) (hg : Gd rows) (z y : Int) : Calls Try.prog 22 #[.pointer (some ⟨gs, 0, none⟩), .int .i64 z, .int .i64 y] w fun en w' => en = .returned (.int .i64 ((remE rows z y : Nat) : Int)) ∧ ScPost 75 78 P w gs (remL rows z y) w' := by
  have H := Lib.hid h
  have HH := Lib.hid (has_any h.sr z)
  have c00 := h.sr.c0
  by_cases hz : 0 ≤ z ∧ z < rows.length
  · have hd : decide (0 ≤ z ∧ z < (rows.length : Int)) = true := decide_eq_true hz
    rw [hd] at HH
    obtain ⟨i, rfl⟩ : ∃ i : Nat, z = (i : Int) := ⟨z.toNat, by omega⟩
    have hi : i < rows.length := by omega
    obtain ⟨gt, hT, c0, c1, fz, n1, n2, n3, k1, k2, hkv, hblk⟩ := Sc.at_ h hi
    subst hT
    have hR := hg.row hi
    have hl63 : (rows.getD i []).length ≤ 63 := hR.2.1
    have hmx : maxLen ≤ 9223372036854775807 := by decide
    have hE : remE rows (i : Int) y = if 0 ≤ y ∧ y < (rows.getD i []).length then 0 else 1 := by
      unfold remE
      simp only [Int.toNat_natCast]
      by_cases hc : 0 ≤ y ∧ y < (rows.getD i []).length
      · rw [if_pos hc, if_pos ⟨hz, hc⟩]
      · rw [if_neg hc, if_neg (fun e => hc e.2)]
    have hLl : remL rows (i : Int) y = if remE rows (i : Int) y = 0 then rows.set i (remR (rows.getD i []) y.toNat) else rows := by unfold remL; simp only [Int.toNat_natCast]
    by_cases hy : 0 ≤ y ∧ y < (rows.getD i []).length
    · obtain ⟨j, rfl⟩ : ∃ j : Nat, y = (j : Int) := ⟨y.toNat, by omega⟩
      have hj : j < (rows.getD i []).length := by omega
      have e : remE rows (i : Int) (j : Int) = 0 := by rw [hE, if_pos hy]
      rw [hLl, e]
      simp only [if_true, Int.toNat_natCast]
      have HIR := Lib.hid (fun (W : World) (f : Fr No w W) => del_row h hi f hj (by omega) (IntKind.i64.wrap ((j : Int) + 1)) (IntWalk.i64_in _ (by omega)))
      have HS := Lib.hid (fun (W : World) (q : Rw) (r : List Nat) (f : Fr (fun k => vbk (rv (qs.getD i q0) (rows.getD i [])) = some k) w W) (ho : W.ownsRow 0 47 1 (rv q r) r.length (u32s r)) (hat : ∀ k, vbk (rv q r) = some k → vbk (rv (qs.getD i q0) (rows.getD i [])) = some k ∨ w.heap.size ≤ k) (hlt : ∀ x ∈ r, x < 4294967296) => ScPost.set h hi rfl f ho hat hlt)
      have Hlt := Lib.hid (show ∀ x ∈ remR (rows.getD i []) j, x < 4294967296 from fun x hx => (hR.2.2 x ((remR_sub _ _).subset hx)).2)
      have HKp := Lib.hid (fun W f => Sc.kept (w1 := W) H.out hi rfl f)
      simp only [rv] at HIR HS HKp c1
      clear h hg hz hd hR hkv e hE hLl hy
      generalize remR (rows.getD i []) j = r2 at *
      generalize (rows.getD i []).length = n at *
      generalize (qs.getD i q0).1 = A at *
      generalize (qs.getD i q0).2 = c at *
      go_enter Try.func22, Try.ntmps22
      go_wp2_with first
        | (go_at_call 51; ((with_reducible refine HH.out.mono ?_); rintro en w1 ⟨rfl, rfl⟩))
        | fail
      (refine wp_region_held_drew (S := fun w' => w'.cell? ⟨gs, 0, none⟩ = some (.slice (some ⟨gt, 0, none⟩) rows.length ct)) (by kernel_rfl) ?_ (fun hHeld => ?_); focus ((try dsimp only); (repeat (first | with_reducible assumption | with_reducible refine cel_alloc ?_ _ | with_reducible refine cel_drew ?_ | with_reducible refine cel_drewN ?_ _ | with_reducible refine cel_set ?_ (by first | (simp; done) | (simp; omega)) _ | with_reducible refine cel_no ?_ (by assumption))); done))
      ((refine wpAnyH_take (i := 0) (v := ?_) rfl (by kernel_rfl) (by kernel_rfl) (by kernel_rfl) (fun _ _ _ h => h) (Or.inl ⟨by rfl, ?_⟩) (by assumption) ?_; rotate_left; focus (intro w hSw; (try dsimp only at hSw); go_simp; (try with_reducible rfl); done)); (try simp only [Act.put, List.setIfInBounds_toArray, List.set_cons_zero, List.set_cons_succ, List.getElem_toArray, List.getElem_cons_zero, List.getElem_cons_succ]); (refine wpAnyH_take (i := 1) (v := ?_) rfl (by kernel_rfl) (by kernel_rfl) (by kernel_rfl) (fun _ _ _ h => h) (Or.inl ⟨by rfl, ?_⟩) (by assumption) ?_; rotate_left; focus (intro w hSw; (try dsimp only at hSw); go_simp; (try with_reducible rfl); done)); (try simp only [Act.put, List.setIfInBounds_toArray, List.set_cons_zero, List.set_cons_succ, List.getElem_toArray, List.getElem_cons_zero, List.getElem_cons_succ]); (refine wpAnyH_take (i := 2) (v := ?_) rfl (by kernel_rfl) (by kernel_rfl) (by kernel_rfl) (fun _ _ _ h => h) (Or.inl ⟨by rfl, ?_⟩) (by assumption) ?_; rotate_left; focus (intro w hSw; (try dsimp only at hSw); go_simp; (try with_reducible rfl); done)); (try simp only [Act.put, List.setIfInBounds_toArray, List.set_cons_zero, List.set_cons_succ, List.getElem_toArray, List.getElem_cons_zero, List.getElem_cons_succ]); (refine wpAnyH_take (i := 3) (v := ?_) rfl (by kernel_rfl) (by kernel_rfl) (by kernel_rfl) (fun _ _ _ h => h) (Or.inl ⟨by rfl, ?_⟩) (by assumption) ?_; rotate_left; focus (intro w hSw; (try dsimp only at hSw); go_simp; (try with_reducible rfl); done)); (try simp only [Act.put, List.setIfInBounds_toArray, List.set_cons_zero, List.set_cons_succ, List.getElem_toArray, List.getElem_cons_zero, List.getElem_cons_succ]); (refine wpAnyH_take (i := 4) (v := ?_) rfl (by kernel_rfl) (by kernel_rfl) (by kernel_rfl) (fun _ _ _ h => h) (Or.inl ⟨by rfl, ?_⟩) (by assumption) ?_; rotate_left; focus (intro w hSw; (try dsimp only at hSw); go_simp; (try with_reducible rfl); done)); (try simp only [Act.put, List.setIfInBounds_toArray, List.set_cons_zero, List.set_cons_succ, List.getElem_toArray, List.getElem_cons_zero, List.getElem_cons_succ]); (refine wpAnyH_take (i := 5) (v := ?_) rfl (by kernel_rfl) (by kernel_rfl) (by kernel_rfl) (fun _ _ _ h => h) (Or.inl ⟨by rfl, ?_⟩) (by assumption) ?_; rotate_left; focus (intro w hSw; (try dsimp only at hSw); go_simp; (try with_reducible rfl); done)); (try simp only [Act.put, List.setIfInBounds_toArray, List.set_cons_zero, List.set_cons_succ, List.getElem_toArray, List.getElem_cons_zero, List.getElem_cons_succ]); (refine wpAnyH_take (i := 6) (v := ?_) rfl (by kernel_rfl) (by kernel_rfl) (by kernel_rfl) (fun _ _ _ h => h) (Or.inl ⟨by rfl, ?_⟩) (by assumption) ?_; rotate_left; focus (intro w hSw; (try dsimp only at hSw); go_simp; (try with_reducible rfl); done)); (try simp only [Act.put, List.setIfInBounds_toArray, List.set_cons_zero, List.set_cons_succ, List.getElem_toArray, List.getElem_cons_zero, List.getElem_cons_succ]); (refine wpAnyH_take (i := 7) (v := ?_) rfl (by kernel_rfl) (by kernel_rfl) (by kernel_rfl) (fun _ _ _ h => h) (Or.inl ⟨by rfl, ?_⟩) (by assumption) ?_; rotate_left; focus (intro w hSw; (try dsimp only at hSw); go_simp; (try with_reducible rfl); done)); (try simp only [Act.put, List.setIfInBounds_toArray, List.set_cons_zero, List.set_cons_succ, List.getElem_toArray, List.getElem_cons_zero, List.getElem_cons_succ]); (refine wpAnyH_take (i := 8) (v := ?_) rfl (by kernel_rfl) (by kernel_rfl) (by kernel_rfl) (fun _ _ _ h => h) (Or.inl ⟨by rfl, ?_⟩) (by assumption) ?_; rotate_left; focus (intro w hSw; (try dsimp only at hSw); go_simp; (try with_reducible rfl); done)); (try simp only [Act.put, List.setIfInBounds_toArray, List.set_cons_zero, List.set_cons_succ, List.getElem_toArray, List.getElem_cons_zero, List.getElem_cons_succ]); (refine wpAnyH_take (i := 9) (v := ?_) rfl (by kernel_rfl) (by kernel_rfl) (by kernel_rfl) (fun _ _ _ h => h) (Or.inl ⟨by rfl, ?_⟩) (by assumption) ?_; rotate_left; focus (intro w hSw; (try dsimp only at hSw); go_simp; (try with_reducible rfl); done)); (try simp only [Act.put, List.setIfInBounds_toArray, List.set_cons_zero, List.set_cons_succ, List.getElem_toArray, List.getElem_cons_zero, List.getElem_cons_succ]); (refine wpAnyH_take (i := 10) (v := ?_) rfl (by kernel_rfl) (by kernel_rfl) (by kernel_rfl) (fun _ _ _ h => h) (Or.inl ⟨by rfl, ?_⟩) (by assumption) ?_; rotate_left; focus (intro w hSw; (try dsimp only at hSw); go_simp; (try with_reducible rfl); done)); (try simp only [Act.put, List.setIfInBounds_toArray, List.set_cons_zero, List.set_cons_succ, List.getElem_toArray, List.getElem_cons_zero, List.getElem_cons_succ]); (refine wpAnyH_take (i := 12) (v := ?_) rfl (by kernel_rfl) (by kernel_rfl) (by kernel_rfl) (fun _ _ _ h => h) (Or.inl ⟨by rfl, ?_⟩) (by assumption) ?_; rotate_left; focus (intro w hSw; (try dsimp only at hSw); go_simp; (try with_reducible rfl); done)); (try simp only [Act.put, List.setIfInBounds_toArray, List.set_cons_zero, List.set_cons_succ, List.getElem_toArray, List.getElem_cons_zero, List.getElem_cons_succ]); (refine wpAnyH_take (i := 13) (v := ?_) rfl (by kernel_rfl) (by kernel_rfl) (by kernel_rfl) (fun _ _ _ h => h) (Or.inl ⟨by rfl, ?_⟩) (by assumption) ?_; rotate_left; focus (intro w hSw; (try dsimp only at hSw); go_simp; (try with_reducible rfl); done)); (try simp only [Act.put, List.setIfInBounds_toArray, List.set_cons_zero, List.set_cons_succ, List.getElem_toArray, List.getElem_cons_zero, List.getElem_cons_succ]); (refine wpAnyH_take (i := 14) (v := ?_) rfl (by kernel_rfl) (by kernel_rfl) (by kernel_rfl) (fun _ _ _ h => h) (Or.inl ⟨by rfl, ?_⟩) (by assumption) ?_; rotate_left; focus (intro w hSw; (try dsimp only at hSw); go_simp; (try with_reducible rfl); done)); (try simp only [Act.put, List.setIfInBounds_toArray, List.set_cons_zero, List.set_cons_succ, List.getElem_toArray, List.getElem_cons_zero, List.getElem_cons_succ]))
      (refine wpAnyH_ready (rs := [11]) (by kernel_rfl) (by simp) ?_; refine AllReadyH.cons rfl (fun K hK => ?_) AllReadyH.nil; (try simp only [Act.put, List.setIfInBounds_toArray, List.set_cons_zero, List.set_cons_succ, List.getElem_toArray, List.getElem_cons_zero, List.getElem_cons_succ]); go_simp; refine hK.out _ _ ?_ (fun hHeld => ?_); focus ((try dsimp only); (repeat (first | with_reducible assumption | with_reducible refine cel_alloc ?_ _ | with_reducible refine cel_drew ?_ | with_reducible refine cel_drewN ?_ _ | with_reducible refine cel_set ?_ (by first | (simp; done) | (simp; omega)) _ | with_reducible refine cel_no ?_ (by assumption))); done)); (clear hK K); (try simp only [Act.put, List.setIfInBounds_toArray, List.set_cons_zero, List.set_cons_succ, List.getElem_toArray, List.getElem_cons_zero, List.getElem_cons_succ])
      (refine wpAnyH_ready (rs := [15]) (by kernel_rfl) (by simp) ?_; refine AllReadyH.cons rfl (fun K hK => ?_) AllReadyH.nil; (try simp only [Act.put, List.setIfInBounds_toArray, List.set_cons_zero, List.set_cons_succ, List.getElem_toArray, List.getElem_cons_zero, List.getElem_cons_succ]); go_simp; (go_at_call 54; ((with_reducible refine (HIR.out _ (show Fr No w _ by (repeat (first | with_reducible exact Fr.refl _ _ | with_reducible refine Fr.setCell ?_ (.inr (by first | (simp; done) | (simp; omega))) _ | with_reducible refine Fr.alloc ?_ _ | with_reducible refine Fr.drew ?_ | with_reducible refine Fr.drewN ?_ _ | with_reducible refine Fr.tr ?_ (by assumption))))).mono ?_); rintro en w8 ⟨q8, rfl, ho8, hf8, hat8⟩; (obtain ⟨y0, y1, y2⟩ := HKp.out w8 hf8))); (try go_wp2_with fail); refine hK.out _ _ ?_ (fun hHeld => ?_); focus ((try dsimp only); (repeat (first | with_reducible assumption | with_reducible refine cel_alloc ?_ _ | with_reducible refine cel_drew ?_ | with_reducible refine cel_drewN ?_ _ | with_reducible refine cel_set ?_ (by first | (simp; done) | (simp; omega)) _ | with_reducible refine cel_no ?_ (by assumption))); done)); (clear hK K); (try simp only [Act.put, List.setIfInBounds_toArray, List.set_cons_zero, List.set_cons_succ, List.getElem_toArray, List.getElem_cons_zero, List.getElem_cons_succ])
      (refine wpAnyH_take (i := 16) (v := ?_) rfl (by kernel_rfl) (by kernel_rfl) (by kernel_rfl) (fun _ _ _ h => h) (Or.inl ⟨by rfl, ?_⟩) (by assumption) ?_; rotate_left; focus (intro w hSw; (try dsimp only at hSw); go_simp; (try with_reducible rfl); done)); (try simp only [Act.put, List.setIfInBounds_toArray, List.set_cons_zero, List.set_cons_succ, List.getElem_toArray, List.getElem_cons_zero, List.getElem_cons_succ])
      (refine wpAnyH_ready (rs := [17]) (by kernel_rfl) (by simp) ?_; refine AllReadyH.cons rfl (fun K hK => ?_) AllReadyH.nil; (try simp only [Act.put, List.setIfInBounds_toArray, List.set_cons_zero, List.set_cons_succ, List.getElem_toArray, List.getElem_cons_zero, List.getElem_cons_succ]); go_simp; refine hK.out _ _ ?_ (fun hHeld => ?_); focus ((try dsimp only); (repeat (first | with_reducible assumption | with_reducible refine cel_alloc ?_ _ | with_reducible refine cel_drew ?_ | with_reducible refine cel_drewN ?_ _ | with_reducible refine cel_set ?_ (by first | (simp; done) | (simp; omega)) _ | with_reducible refine cel_no ?_ (by assumption))); done)); (clear hK K); (try simp only [Act.put, List.setIfInBounds_toArray, List.set_cons_zero, List.set_cons_succ, List.getElem_toArray, List.getElem_cons_zero, List.getElem_cons_succ])
      (refine wpAnyH_done (by kernel_rfl) ?_ _)
      (try go_wp2)
      go_ret
      exact ⟨rfl, HS.out w8 q8 r2 hf8 ho8 hat8 Hlt.out⟩
    · have e : remE rows (i : Int) y = 1 := by rw [hE, if_neg hy]
      rw [hLl, e]
      simp only [Nat.one_ne_zero, if_false]
      simp only [rv] at c1
      clear h hg hz hd hR hkv e hE hLl
      generalize (rows.getD i []).length = n at *
      generalize (qs.getD i q0).1 = A at *
      generalize (qs.getD i q0).2 = c at *
      by_cases hy0 : y < 0
      · clear hy
        go_enter Try.func22, Try.ntmps22
        go_wp2_with first
          | (go_at_call 51; ((with_reducible refine HH.out.mono ?_); rintro en w1 ⟨rfl, rfl⟩))
          | fail
        go_ret
        exact ⟨rfl, ScPost.same H.out (Fr.refl _ _)⟩
      · have hy1 : (n : Int) ≤ y := by omega
        clear hy
        go_enter Try.func22, Try.ntmps22
        go_wp2_with first
          | (go_at_call 51; ((with_reducible refine HH.out.mono ?_); rintro en w1 ⟨rfl, rfl⟩))
          | fail
        go_ret
        exact ⟨rfl, ScPost.same H.out (Fr.refl _ _)⟩
  · have e : remE rows z y = 1 := by unfold remE; rw [if_neg (fun e => hz e.1)]
    have hd : decide (0 ≤ z ∧ z < (rows.length : Int)) = false := decide_eq_false hz
    rw [hd] at HH
    unfold remL
    rw [e]
    simp only [Nat.one_ne_zero, if_false]
    clear h e hd hg
    go_enter Try.func22, Try.ntmps22
    go_wp2_with first
      | (go_at_call 51; ((with_reducible refine HH.out.mono ?_); rintro en w1 ⟨rfl, rfl⟩))
      | fail
    go_ret
    exact ⟨rfl, ScPost.same H.out (Fr.refl _ _)⟩
theorem insert_nil (z : Int) (W : World) : Calls Try.prog 21 #[.pointer none, .int .i64 z, .int .u32 (x : Int)] W fun en w' => en = .returned (.tuple #[.int .i64 0, .int .i64 1]) ∧ W = w' := by
  go_enter Try.func21, Try.ntmps21
  go_wp2_with first
    | (go_at_call 51; ((with_reducible refine (has_nil _ _).mono ?_); rintro en w1 ⟨rfl, rfl⟩))
    | fail
  go_ret2
  exact ⟨rfl, rfl⟩
theorem remove_nil (z y : Int) (W : World) : Calls Try.prog 22 #[.pointer none, .int .i64 z, .int .i64 y] W fun en w' => en = .returned (.int .i64 1) ∧ W = w' := by
  go_enter Try.func22, Try.ntmps22
  go_wp2_with first
    | (go_at_call 51; ((with_reducible refine (has_nil _ _).mono ?_); rintro en w1 ⟨rfl, rfl⟩))
    | fail
  go_ret
  exact ⟨rfl, rfl⟩
end
end Go.Proofs.Ytifpigcgkpmheaa.Se12
