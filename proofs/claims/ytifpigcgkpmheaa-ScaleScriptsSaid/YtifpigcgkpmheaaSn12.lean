/- Layer 12: the document's scale: a bound taken out, and put in. -/
import Derived.Test.YtifpigcgkpmheaaSm12
import Derived.Test.YtifpigcgkpmheaaSe12
import Derived.StillTailTactics
namespace Go.Proofs.Ytifpigcgkpmheaa.Sn12
open Go.RowKit Go.Proofs.Ytifpigcgkpmheaa.Pk08 Go.Proofs.Ytifpigcgkpmheaa.Base Go.Proofs.Ytifpigcgkpmheaa.App Go.Proofs.Ytifpigcgkpmheaa.Str Go.Proofs.Ytifpigcgkpmheaa.Ky Go.Proofs.Ytifpigcgkpmheaa.Iv Go.Proofs.Ytifpigcgkpmheaa.Bx Go.Proofs.Ytifpigcgkpmheaa.Bo Go.Proofs.Ytifpigcgkpmheaa.As Go.Proofs.Ytifpigcgkpmheaa.Ro Go.Proofs.Ytifpigcgkpmheaa.Pl08 Go.Proofs.Ytifpigcgkpmheaa.Kc08 Go.Proofs.Ytifpigcgkpmheaa.Ki08 Go.Proofs.Ytifpigcgkpmheaa.Ic Go.Proofs.Ytifpigcgkpmheaa.Sa12 Go.Proofs.Ytifpigcgkpmheaa.Sb12 Go.Proofs.Ytifpigcgkpmheaa.Sc12 Go.Proofs.Ytifpigcgkpmheaa.Sd12 Go.Proofs.Ytifpigcgkpmheaa.Se12 Go.Proofs.Ytifpigcgkpmheaa.Sf12 Go.Proofs.Ytifpigcgkpmheaa.Sm12
set_option linter.unusedVariables false
set_option linter.unusedSimpArgs false
attribute [local go_sem ↓ high] builtin_app
section
variable {P S : Nat → Prop} {w w1 W : World} {gs gt ct n c B q cP : Nat} {T A L : Option Addr} {qs : List Rw} {rows : List (List Nat)} {x : Nat} {r : List Nat} {xs : List Value}
theorem mem_itv (h : Inc r) : x ∈ r ↔ (0 < itv r x ∧ r.getD (itv r x - 1) 0 = x) := by
  have h1 := itv_in r x
  have h2 := itv_at r x
  have h3 := itv_le r x
  constructor
  · intro hx
    obtain ⟨j, hj, rfl⟩ := List.mem_iff_getElem.1 hx
    have ej : r.getD j 0 = r[j] := by simp [List.getD_eq_getElem?_getD, hj]
    generalize itv r r[j] = p at *
    have hpj : j < p := by
      rcases Nat.lt_or_ge j p with e | e
      · exact e
      · have h4 := h2 (by omega)
        have : r.getD p 0 ≤ r.getD j 0 := by
          rcases Nat.lt_or_ge p j with e2 | e2
          · exact Nat.le_of_lt (inc_lt h e2 hj)
          · have : p = j := by omega
            subst this; exact Nat.le_refl _
        omega
    refine ⟨by omega, ?_⟩
    have h5 := h1 (p - 1) (by omega)
    by_cases e : p - 1 = j
    · rw [e, ej]
    · have := inc_lt h (i := j) (j := p - 1) (by omega) (by omega); omega
  · rintro ⟨e1, e2⟩
    have hl : itv r x - 1 < r.length := by omega
    rw [← e2, show r.getD (itv r x - 1) 0 = r[itv r x - 1] by simp [List.getD_eq_getElem?_getD, hl]]
    exact List.getElem_mem hl
theorem rc_take (h : Kv w A n c r) (i : Nat) : Rc w A (u32s (r.take i)) := by
  intro j u hj
  refine h.rc j u ?_
  simp only [u32s, List.map_take] at hj ⊢
  rw [List.getElem?_take] at hj
  split at hj
  · exact hj
  · cases hj
theorem rc_drop {b off : Nat} (h : Kv w (some ⟨b, off, none⟩) n c r) (i : Nat) : Rc w (some ⟨b, off + i, none⟩) (u32s (r.drop i)) := by
  intro j u hj
  simp only [u32s, List.map_drop, List.getElem?_drop] at hj
  obtain ⟨ad, h1, h2⟩ := h.rc (i + j) u (by simpa [u32s] using hj)
  injection h1 with h1
  subst h1
  rw [add_lit] at h2
  exact ⟨_, rfl, by rw [add_lit, Nat.add_assoc]; exact h2⟩
/-- Numbers more behind a row of the call's own. -/
theorem app_many (hO : w.ownsRow B 47 1 (.slice A q cP) q xs) (hB : B ≤ w.heap.size) {ys : List Nat} {m d : Nat} (hm : m = ys.length) (hr : Rc w L (u32s ys)) (hq : q + m ≤ 1000000) :
    ∃ A1 c1 w1, (appSem #[36, 36] 36 #[.slice A q cP, .slice L m d]).run Try.prog w = .ok (.slice A1 (q + m) c1) w1 ∧ w1.ownsRow B 47 1 (.slice A1 (q + m) c1) (q + m) (xs ++ u32s ys) ∧ (∀ w0, w0.heap.size ≤ B → Fr No w0 w → Fr No w0 w1) := by
  obtain ⟨A1, c1, w1, hrun, hown, hgr, hat⟩ := app_eq (P := Try.prog) (w := w) B 36 47 (.int .u32 0) 1 4 Try.underlying36 info_u32 rfl (by decide) (by decide) hO L m d (u32s ys) (by rw [u32s_len, hm, Nat.mul_one]) hr (u32s_one ys) (by omega) hB
  exact ⟨A1, c1, w1, hrun, hown, fun w0 hw f => f.grown hgr (fun k hk => .inr (by have := (hO.lt k hk).1; omega))⟩
set_option maxRecDepth 8000 in
set_option maxHeartbeats 3200000 in
theorem rremove_any (h : Sd P w gs T ct qs rows) (hg : Gd rows) (z y : Int) : Calls Try.prog 33 #[.pointer (some ⟨gs, 0, none⟩), .int .i64 z, .int .i64 y] w fun en w' => en = .returned (.int .i64 ((remE rows z y : Nat) : Int)) ∧ ScPost 83 36 P w gs (remL rows z y) w' := by
  have H := Lib.hid h
  have c00 := h.sr.c0
  have hl6 := hg.2.1
  by_cases hz : 0 ≤ z ∧ z < rows.length
  · obtain ⟨i, rfl⟩ : ∃ i : Nat, z = (i : Int) := ⟨z.toNat, by omega⟩
    have hi : i < rows.length := by omega
    obtain ⟨gt, hT, c0, c1, fz, n1, n2, n3, k1, k2, hkv, hblk⟩ := Sc.at_ h hi
    subst hT
    have hR := hg.row hi
    have hl63 : (rows.getD i []).length ≤ 63 := hR.2.1
    have hmx : maxLen ≤ 9223372036854775807 := by decide
    have hE : remE rows (i : Int) y = if 0 ≤ y ∧ y < (rows.getD i []).length then 0 else 1 := by
      unfold remE
      simp only [Int.toNat_natCast]
      by_cases hc : 0 ≤ y ∧ y < (rows.getD i []).length
      · rw [if_pos hc, if_pos ⟨hz, hc⟩]
      · rw [if_neg hc, if_neg (fun e => hc e.2)]
    have hLl : remL rows (i : Int) y = if remE rows (i : Int) y = 0 then rows.set i (remR (rows.getD i []) y.toNat) else rows := by unfold remL; simp only [Int.toNat_natCast]
    by_cases hy : 0 ≤ y ∧ y < (rows.getD i []).length
    · obtain ⟨j, rfl⟩ : ∃ j : Nat, y = (j : Int) := ⟨y.toNat, by omega⟩
      have hj : j < (rows.getD i []).length := by omega
      have e : remE rows (i : Int) (j : Int) = 0 := by rw [hE, if_pos hy]
      rw [hLl, e]
      simp only [if_true, Int.toNat_natCast]
      have HS := Lib.hid (fun (W : World) (q : Rw) (r : List Nat) (f : Fr No w W) (ho : W.ownsRow 0 47 1 (rv q r) r.length (u32s r)) (hat : ∀ k, vbk (rv q r) = some k → vbk (rv (qs.getD i q0) (rows.getD i [])) = some k ∨ w.heap.size ≤ k) (hlt : ∀ x ∈ r, x < 4294967296) => ScPost.set h hi rfl (f.mono (fun b e => e.elim)) ho hat hlt)
      have Hlt := Lib.hid (show ∀ x ∈ remR (rows.getD i []) j, x < 4294967296 from fun x hx => (hR.2.2 x ((remR_sub _ _).subset hx)).2)
      have HRl := Lib.hid (remR_len hj)
      have Hfz := Lib.hid (fun W (f : Fr No w W) => (h.no f).tb.frozenAt i)
      simp only [rv] at HS c1
      obtain ⟨bk, ok, hA, ck⟩ := hkv.get j hj
      rw [hA] at hkv c1 HS
      have hcap := hkv.cap
      have hcm := hkv.most
      -- the runs
      obtain ⟨A1, cA1, wa, hruna, hOa, hfa⟩ := app_many (w := w) (World.ownsRow_nil w w.heap.size 47 1) (Nat.le_refl _) (ys := (rows.getD i []).take j) (m := j) (d := (qs.getD i q0).2) (by rw [List.length_take]; omega) (rc_take hkv j) (by omega)
      rw [Nat.zero_add, List.nil_append] at hOa
      rw [Nat.zero_add] at hruna
      have hfa0 := hfa w (Nat.le_refl _) (Fr.refl _ _)
      obtain ⟨A4, hA4⟩ : ∃ A4 : Option Addr, (if (qs.getD i q0).2 = j + 1 then (some ⟨bk, ok, none⟩ : Option Addr) else some ⟨bk, ok + (j + 1), none⟩) = A4 := ⟨_, rfl⟩
      have hkd := hkv.no hfa0.drew
      obtain ⟨A3, c3, wc, hrunc, hOc, hfc⟩ := app_many (w := wa.drew) (own_no hOa (Fr.refl No wa).drew) (by have := hfa0.size; exact this) (ys := (rows.getD i []).drop (j + 1)) (m := (rows.getD i []).length - (j + 1)) (d := (qs.getD i q0).2 - (j + 1)) (L := A4) (by rw [List.length_drop]) (by
        rw [← hA4]
        split
        · rename_i hcj
          rw [List.drop_of_length_le (by omega)]
          exact Rc.nil _ _
        · exact rc_drop hkd (j + 1)) (by omega)
      have hfc0 := hfc w (Nat.le_refl _) hfa0.drew
      have hu : u32s ((rows.getD i []).take j) ++ u32s ((rows.getD i []).drop (j + 1)) = u32s (remR (rows.getD i []) j) := by simp [remR, u32s]
      rw [hu] at hOc
      have hln : j + ((rows.getD i []).length - (j + 1)) = (remR (rows.getD i []) j).length := by rw [HRl.out]; omega
      rw [hln] at hrunc hOc
      have HOc := Lib.hid hOc
      have HFc := Lib.hid hfc0
      have d1 := cel_no c0 hfa0
      have d2 := cel_no c1 hfa0
      have d3 := cel_no c0 hfc0
      have d4 := cel_no c1 hfc0
      have d5 := Hfz.out _ hfc0
      clear h hg hz hR hkv hkd e hE hLl hy hOa hOc hfa hfc hfc0 hu hln ck hA
      generalize remR (rows.getD i []) j = r2 at *
      generalize (rows.getD i []).length = n at *
      generalize (qs.getD i q0).2 = c at *
      have hcj : j ≤ c := by omega
      go_enter Try.func33, Try.ntmps33
      go_wp2
      have hw1 : IntKind.i64.wrap ((j : Int) + 1) = (j : Int) + 1 := IntWalk.i64_in _ (by omega)
      have hw2 : (0 : Int) ≤ (j : Int) + 1 ∧ (j : Int) + 1 ≤ (n : Int) := by omega
      have hw3 : ((j : Int) + 1).toNat = j + 1 := by omega
      (refine wp_region_held_drew (S := fun w' => w'.cell? ⟨gs, 0, none⟩ = some (.slice (some ⟨gt, 0, none⟩) rows.length ct)) (by kernel_rfl) ?_ (fun hHeld => ?_); focus ((try dsimp only); (repeat (first | with_reducible assumption | with_reducible refine cel_alloc ?_ _ | with_reducible refine cel_drew ?_ | with_reducible refine cel_drewN ?_ _ | with_reducible refine cel_set ?_ (by first | (simp; done) | (simp; omega)) _ | with_reducible refine cel_no ?_ (by assumption))); done))
      ((refine wpAnyH_take (i := 0) (v := ?_) rfl (by kernel_rfl) (by kernel_rfl) (by kernel_rfl) (fun _ _ _ h => h) (Or.inl ⟨by rfl, ?_⟩) (by assumption) ?_; rotate_left; focus (intro w hSw; (try dsimp only at hSw); go_simp; (try with_reducible rfl); done)); (try simp only [Act.put, List.setIfInBounds_toArray, List.set_cons_zero, List.set_cons_succ, List.getElem_toArray, List.getElem_cons_zero, List.getElem_cons_succ]); (refine wpAnyH_take (i := 1) (v := ?_) rfl (by kernel_rfl) (by kernel_rfl) (by kernel_rfl) (fun _ _ _ h => h) (Or.inl ⟨by rfl, ?_⟩) (by assumption) ?_; rotate_left; focus (intro w hSw; (try dsimp only at hSw); go_simp; (try with_reducible rfl); done)); (try simp only [Act.put, List.setIfInBounds_toArray, List.set_cons_zero, List.set_cons_succ, List.getElem_toArray, List.getElem_cons_zero, List.getElem_cons_succ]); (refine wpAnyH_take (i := 2) (v := ?_) rfl (by kernel_rfl) (by kernel_rfl) (by kernel_rfl) (fun _ _ _ h => h) (Or.inl ⟨by rfl, ?_⟩) (by assumption) ?_; rotate_left; focus (intro w hSw; (try dsimp only at hSw); go_simp; (try with_reducible rfl); done)); (try simp only [Act.put, List.setIfInBounds_toArray, List.set_cons_zero, List.set_cons_succ, List.getElem_toArray, List.getElem_cons_zero, List.getElem_cons_succ]); (refine wpAnyH_take (i := 3) (v := ?_) rfl (by kernel_rfl) (by kernel_rfl) (by kernel_rfl) (fun _ _ _ h => h) (Or.inl ⟨by rfl, ?_⟩) (by assumption) ?_; rotate_left; focus (intro w hSw; (try dsimp only at hSw); go_simp; (try with_reducible rfl); done)); (try simp only [Act.put, List.setIfInBounds_toArray, List.set_cons_zero, List.set_cons_succ, List.getElem_toArray, List.getElem_cons_zero, List.getElem_cons_succ]); (refine wpAnyH_take (i := 4) (v := ?_) rfl (by kernel_rfl) (by kernel_rfl) (by kernel_rfl) (fun _ _ _ h => h) (Or.inl ⟨by rfl, ?_⟩) (by assumption) ?_; rotate_left; focus (intro w hSw; (try dsimp only at hSw); go_simp; (try with_reducible rfl); done)); (try simp only [Act.put, List.setIfInBounds_toArray, List.set_cons_zero, List.set_cons_succ, List.getElem_toArray, List.getElem_cons_zero, List.getElem_cons_succ]); (refine wpAnyH_take (i := 5) (v := ?_) rfl (by kernel_rfl) (by kernel_rfl) (by kernel_rfl) (fun _ _ _ h => h) (Or.inl ⟨by rfl, ?_⟩) (by assumption) ?_; rotate_left; focus (intro w hSw; (try dsimp only at hSw); go_simp; (try with_reducible rfl); done)); (try simp only [Act.put, List.setIfInBounds_toArray, List.set_cons_zero, List.set_cons_succ, List.getElem_toArray, List.getElem_cons_zero, List.getElem_cons_succ]); (refine wpAnyH_take (i := 6) (v := ?_) rfl (by kernel_rfl) (by kernel_rfl) (by kernel_rfl) (fun _ _ _ h => h) (Or.inl ⟨by rfl, ?_⟩) (by assumption) ?_; rotate_left; focus (intro w hSw; (try dsimp only at hSw); go_simp; (try with_reducible rfl); done)); (try simp only [Act.put, List.setIfInBounds_toArray, List.set_cons_zero, List.set_cons_succ, List.getElem_toArray, List.getElem_cons_zero, List.getElem_cons_succ]); (refine wpAnyH_take (i := 7) (v := ?_) rfl (by kernel_rfl) (by kernel_rfl) (by kernel_rfl) (fun _ _ _ h => h) (Or.inl ⟨by rfl, ?_⟩) (by assumption) ?_; rotate_left; focus (intro w hSw; (try dsimp only at hSw); go_simp; (try with_reducible rfl); done)); (try simp only [Act.put, List.setIfInBounds_toArray, List.set_cons_zero, List.set_cons_succ, List.getElem_toArray, List.getElem_cons_zero, List.getElem_cons_succ]); (refine wpAnyH_take (i := 8) (v := ?_) rfl (by kernel_rfl) (by kernel_rfl) (by kernel_rfl) (fun _ _ _ h => h) (Or.inl ⟨by rfl, ?_⟩) (by assumption) ?_; rotate_left; focus (intro w hSw; (try dsimp only at hSw); go_simp; (try with_reducible rfl); done)); (try simp only [Act.put, List.setIfInBounds_toArray, List.set_cons_zero, List.set_cons_succ, List.getElem_toArray, List.getElem_cons_zero, List.getElem_cons_succ]); (refine wpAnyH_take (i := 9) (v := ?_) rfl (by kernel_rfl) (by kernel_rfl) (by kernel_rfl) (fun _ _ _ h => h) (Or.inl ⟨by rfl, ?_⟩) (by assumption) ?_; rotate_left; focus (intro w hSw; (try dsimp only at hSw); go_simp; (try with_reducible rfl); done)); (try simp only [Act.put, List.setIfInBounds_toArray, List.set_cons_zero, List.set_cons_succ, List.getElem_toArray, List.getElem_cons_zero, List.getElem_cons_succ]); (refine wpAnyH_take (i := 10) (v := ?_) rfl (by kernel_rfl) (by kernel_rfl) (by kernel_rfl) (fun _ _ _ h => h) (Or.inl ⟨by rfl, ?_⟩) (by assumption) ?_; rotate_left; focus (intro w hSw; (try dsimp only at hSw); go_simp; (try with_reducible rfl); done)); (try simp only [Act.put, List.setIfInBounds_toArray, List.set_cons_zero, List.set_cons_succ, List.getElem_toArray, List.getElem_cons_zero, List.getElem_cons_succ]); (refine wpAnyH_take (i := 11) (v := ?_) rfl (by kernel_rfl) (by kernel_rfl) (by kernel_rfl) (fun _ _ _ h => h) (Or.inl ⟨by rfl, ?_⟩) (by assumption) ?_; rotate_left; focus (intro w hSw; (try dsimp only at hSw); go_simp; (try with_reducible rfl); done)); (try simp only [Act.put, List.setIfInBounds_toArray, List.set_cons_zero, List.set_cons_succ, List.getElem_toArray, List.getElem_cons_zero, List.getElem_cons_succ]); (refine wpAnyH_take (i := 13) (v := ?_) rfl (by kernel_rfl) (by kernel_rfl) (by kernel_rfl) (fun _ _ _ h => h) (Or.inl ⟨by rfl, ?_⟩) (by assumption) ?_; rotate_left; focus (intro w hSw; (try dsimp only at hSw); go_simp; (try with_reducible rfl); done)); (try simp only [Act.put, List.setIfInBounds_toArray, List.set_cons_zero, List.set_cons_succ, List.getElem_toArray, List.getElem_cons_zero, List.getElem_cons_succ]))
      (refine wpAnyH_take (i := 14) (v := ?_) rfl (by kernel_rfl) (by kernel_rfl) (by kernel_rfl) (fun _ _ _ h => h) (Or.inl ⟨by rfl, ?_⟩) (by assumption) ?_; rotate_left; focus (intro w hSw; (try dsimp only at hSw); go_simp; (try simp only [hw1]); (try with_reducible rfl); done)); (try simp only [Act.put, List.setIfInBounds_toArray, List.set_cons_zero, List.set_cons_succ, List.getElem_toArray, List.getElem_cons_zero, List.getElem_cons_succ])
      (refine wpAnyH_ready (rs := [12]) (by kernel_rfl) (by simp) ?_; refine AllReadyH.cons rfl (fun K hK => ?_) AllReadyH.nil; (try simp only [Act.put, List.setIfInBounds_toArray, List.set_cons_zero, List.set_cons_succ, List.getElem_toArray, List.getElem_cons_zero, List.getElem_cons_succ]); go_simp; refine hK.out _ _ ?_ (fun hHeld => ?_); focus ((try dsimp only); (repeat (first | with_reducible assumption | with_reducible refine cel_alloc ?_ _ | with_reducible refine cel_drew ?_ | with_reducible refine cel_drewN ?_ _ | with_reducible refine cel_set ?_ (by first | (simp; done) | (simp; omega)) _ | with_reducible refine cel_no ?_ (by assumption))); done)); (clear hK K); (try simp only [Act.put, List.setIfInBounds_toArray, List.set_cons_zero, List.set_cons_succ, List.getElem_toArray, List.getElem_cons_zero, List.getElem_cons_succ])
      (refine wpAnyH_take (i := 15) (v := ?_) rfl (by kernel_rfl) (by kernel_rfl) (by kernel_rfl) (fun _ _ _ h => h) (Or.inl ⟨by rfl, ?_⟩) (by assumption) ?_; rotate_left; focus (intro w hSw; (try dsimp only at hSw); go_simp; (try simp only [if_pos hw2, hw3, add_lit, hA4]); (try with_reducible rfl); done)); (try simp only [Act.put, List.setIfInBounds_toArray, List.set_cons_zero, List.set_cons_succ, List.getElem_toArray, List.getElem_cons_zero, List.getElem_cons_succ])
      (refine wpAnyH_ready (rs := [16]) (by kernel_rfl) (by simp) ?_; refine AllReadyH.cons rfl (fun K hK => ?_) AllReadyH.nil; (try simp only [Act.put, List.setIfInBounds_toArray, List.set_cons_zero, List.set_cons_succ, List.getElem_toArray, List.getElem_cons_zero, List.getElem_cons_succ]); go_simp; skip; (try go_wp2_with fail); refine hK.out _ _ ?_ (fun hHeld => ?_); focus ((try dsimp only); (repeat (first | with_reducible assumption | with_reducible refine cel_alloc ?_ _ | with_reducible refine cel_drew ?_ | with_reducible refine cel_drewN ?_ _ | with_reducible refine cel_set ?_ (by first | (simp; done) | (simp; omega)) _ | with_reducible refine cel_no ?_ (by assumption))); done)); (clear hK K); (try simp only [Act.put, List.setIfInBounds_toArray, List.set_cons_zero, List.set_cons_succ, List.getElem_toArray, List.getElem_cons_zero, List.getElem_cons_succ])
      (refine wpAnyH_take (i := 17) (v := ?_) rfl (by kernel_rfl) (by kernel_rfl) (by kernel_rfl) (fun _ _ _ h => h) (Or.inl ⟨by rfl, ?_⟩) (by assumption) ?_; rotate_left; focus (intro w hSw; (try dsimp only at hSw); go_simp; (try with_reducible rfl); done)); (try simp only [Act.put, List.setIfInBounds_toArray, List.set_cons_zero, List.set_cons_succ, List.getElem_toArray, List.getElem_cons_zero, List.getElem_cons_succ])
      (refine wpAnyH_ready (rs := [18]) (by kernel_rfl) (by simp) ?_; refine AllReadyH.cons rfl (fun K hK => ?_) AllReadyH.nil; (try simp only [Act.put, List.setIfInBounds_toArray, List.set_cons_zero, List.set_cons_succ, List.getElem_toArray, List.getElem_cons_zero, List.getElem_cons_succ]); go_simp; refine hK.out _ _ ?_ (fun hHeld => ?_); focus ((try dsimp only); (repeat (first | with_reducible assumption | with_reducible refine cel_alloc ?_ _ | with_reducible refine cel_drew ?_ | with_reducible refine cel_drewN ?_ _ | with_reducible refine cel_set ?_ (by first | (simp; done) | (simp; omega)) _ | with_reducible refine cel_no ?_ (by assumption))); done)); (clear hK K); (try simp only [Act.put, List.setIfInBounds_toArray, List.set_cons_zero, List.set_cons_succ, List.getElem_toArray, List.getElem_cons_zero, List.getElem_cons_succ])
      (refine wpAnyH_done (by kernel_rfl) ?_ _)
      (try go_wp2)
      go_ret
      exact ⟨rfl, HS.out wc (A3, c3) r2 HFc.out (own_base HOc.out (Nat.zero_le _)) (fun k hk => .inr (HOc.out.lt k hk).1) Hlt.out⟩
    · have e : remE rows (i : Int) y = 1 := by rw [hE, if_neg hy]
      rw [hLl, e]
      simp only [Nat.one_ne_zero, if_false]
      simp only [rv] at c1
      clear h hg hz hR hkv e hE hLl
      generalize (rows.getD i []).length = n at *
      generalize (qs.getD i q0).1 = A at *
      generalize (qs.getD i q0).2 = c at *
      by_cases hy0 : y < 0
      · clear hy
        go_enter Try.func33, Try.ntmps33
        go_wp2
        go_ret
        exact ⟨rfl, ScPost.same H.out (Fr.refl _ _)⟩
      · have hy1 : (n : Int) ≤ y := by omega
        clear hy
        go_enter Try.func33, Try.ntmps33
        go_wp2
        go_ret
        exact ⟨rfl, ScPost.same H.out (Fr.refl _ _)⟩
  · have e : remE rows z y = 1 := by unfold remE; rw [if_neg (fun e => hz e.1)]
    unfold remL
    rw [e]
    simp only [Nat.one_ne_zero, if_false]
    clear h e hg
    by_cases hz0 : z < 0
    · clear hz
      go_enter Try.func33, Try.ntmps33
      go_wp2
      go_ret
      exact ⟨rfl, ScPost.same H.out (Fr.refl _ _)⟩
    · have hz1 : (rows.length : Int) ≤ z := by omega
      clear hz
      go_enter Try.func33, Try.ntmps33
      go_wp2
      go_ret
      exact ⟨rfl, ScPost.same H.out (Fr.refl _ _)⟩
end
end Go.Proofs.Ytifpigcgkpmheaa.Sn12
