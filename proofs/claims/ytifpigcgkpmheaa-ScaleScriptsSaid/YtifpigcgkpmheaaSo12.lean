/- Layer 12: the document's scale: a bound put in. -/
import Derived.Test.YtifpigcgkpmheaaSn12
import Derived.StillTailTactics
namespace Go.Proofs.Ytifpigcgkpmheaa.So12
open Go.RowKit Go.Proofs.Ytifpigcgkpmheaa.Pk08 Go.Proofs.Ytifpigcgkpmheaa.Base Go.Proofs.Ytifpigcgkpmheaa.App Go.Proofs.Ytifpigcgkpmheaa.Str Go.Proofs.Ytifpigcgkpmheaa.Ky Go.Proofs.Ytifpigcgkpmheaa.Iv Go.Proofs.Ytifpigcgkpmheaa.Bx Go.Proofs.Ytifpigcgkpmheaa.Bo Go.Proofs.Ytifpigcgkpmheaa.As Go.Proofs.Ytifpigcgkpmheaa.Ro Go.Proofs.Ytifpigcgkpmheaa.Pl08 Go.Proofs.Ytifpigcgkpmheaa.Kc08 Go.Proofs.Ytifpigcgkpmheaa.Ki08 Go.Proofs.Ytifpigcgkpmheaa.Ic Go.Proofs.Ytifpigcgkpmheaa.Sa12 Go.Proofs.Ytifpigcgkpmheaa.Sb12 Go.Proofs.Ytifpigcgkpmheaa.Sc12 Go.Proofs.Ytifpigcgkpmheaa.Sd12 Go.Proofs.Ytifpigcgkpmheaa.Se12 Go.Proofs.Ytifpigcgkpmheaa.Sf12 Go.Proofs.Ytifpigcgkpmheaa.Sm12 Go.Proofs.Ytifpigcgkpmheaa.Sn12
set_option linter.unusedVariables false
set_option linter.unusedSimpArgs false
attribute [local go_sem ↓ high] builtin_app
section
variable {P S : Nat → Prop} {w w1 W : World} {gs gt ct n c B q cP : Nat} {T A L : Option Addr} {qs : List Rw} {rows : List (List Nat)} {x : Nat} {r : List Nat} {xs : List Value}
/-- The three appends of a bound put in. -/
theorem ins_runs {A4 : Option Addr} {p d : Nat} (hk : Kv w A n c r) (hp : p ≤ r.length) (hl : r.length ≤ 1000) (h4 : p < r.length → ∃ b off, A = some ⟨b, off, none⟩ ∧ A4 = some ⟨b, off + p, none⟩) :
    ∃ A1 c1 wa A2 c2 wb A3 c3 wc,
      (appSem #[36, 36] 36 #[.slice none 0 0, .slice A p c]).run Try.prog w = .ok (.slice A1 p c1) wa ∧
      (appSem #[36, 36] 36 #[.slice A1 p c1, .slice (some ⟨wa.heap.size, 0, none⟩) 1 1]).run Try.prog (wa.alloc (.cells #[.int .u32 (x : Int)] 47)) = .ok (.slice A2 (p + 1) c2) wb ∧
      (appSem #[36, 36] 36 #[.slice A2 (p + 1) c2, .slice A4 (n - p) d]).run Try.prog wb.drew = .ok (.slice A3 (r.length + 1) c3) wc ∧
      Fr No w wa ∧ Fr No w wb ∧ Fr No w wc ∧ wc.ownsRow w.heap.size 47 1 (.slice A3 (r.length + 1) c3) (r.length + 1) (u32s (r.take p ++ x :: r.drop p)) := by
  obtain rfl : n = r.length := hk.len
  obtain ⟨A1, c1, wa, hrun1, ho1, hf1⟩ := app_many (w := w) (World.ownsRow_nil w w.heap.size 47 1) (Nat.le_refl _) (ys := r.take p) (m := p) (d := c) (by rw [List.length_take]; omega) (rc_take hk p) (by omega)
  rw [Nat.zero_add, List.nil_append] at ho1
  rw [Nat.zero_add] at hrun1
  have f1 := hf1 w (Nat.le_refl _) (Fr.refl _ _)
  obtain ⟨A2, c2, wb, hrun2, ho2, hf2, _, _⟩ := push_one (t := 36) Try.underlying36 info_u32 rfl (by decide) (by decide) ho1 f1.size (.int .u32 (x : Int)) rfl (by omega)
  have f2 := hf2 w (Nat.le_refl _) f1
  have hkd := hk.no f2.drew
  obtain ⟨A3, c3, wc, hrun3, ho3, hf3⟩ := app_many (w := wb.drew) (own_no ho2 (Fr.refl No wb).drew) (by have := f2.size; exact this) (ys := r.drop p) (m := r.length - p) (d := d) (L := A4) (by rw [List.length_drop]) (by
    by_cases hpl : p < r.length
    · obtain ⟨b, off, e1, e2⟩ := h4 hpl
      rw [e2]
      rw [e1] at hkd
      exact rc_drop hkd p
    · rw [List.drop_of_length_le (by omega)]
      exact Rc.nil _ _) (by omega)
  have f3 := hf3 w (Nat.le_refl _) f2.drew
  have hln : p + 1 + (r.length - p) = r.length + 1 := by omega
  rw [hln] at hrun3 ho3
  have hu : u32s (r.take p) ++ [Value.int .u32 (x : Int)] ++ u32s (r.drop p) = u32s (r.take p ++ x :: r.drop p) := by simp [u32s]
  rw [hu] at ho3
  exact ⟨A1, c1, wa, A2, c2, wb, A3, c3, wc, hrun1, hrun2, hrun3, f1, f2, f3, ho3⟩
set_option maxRecDepth 8000 in
set_option maxHeartbeats 6400000 in
theorem rinsert_any (h : Sd P w gs T ct qs rows) (hg : Gd rows) (z : Int) (hx : x < 4294967296) : Calls Try.prog 32 #[.pointer (some ⟨gs, 0, none⟩), .int .i64 z, .int .u32 (x : Int)] w fun en w' => en = .returned (.tuple #[.int .i64 ((insI rows z x : Nat) : Int), .int .i64 ((insE rows z x : Nat) : Int)]) ∧ ScPost 83 36 P w gs (insL rows z x) w' := by
  have H := Lib.hid h
  have c00 := h.sr.c0
  have hl6 := hg.2.1
  by_cases hz : 0 ≤ z ∧ z < rows.length
  · obtain ⟨i, rfl⟩ : ∃ i : Nat, z = (i : Int) := ⟨z.toNat, by omega⟩
    have hi : i < rows.length := by omega
    obtain ⟨gt, hT, c0, c1, fz, n1, n2, n3, k1, k2, hkv, hblk⟩ := Sc.at_ h hi
    subst hT
    have hR := hg.row hi
    have hl63 : (rows.getD i []).length ≤ 63 := hR.2.1
    have hmx : maxLen ≤ 9223372036854775807 := by decide
    have HS := Lib.hid (fun (W : World) (q : Rw) (r : List Nat) (f : Fr No w W) (ho : W.ownsRow 0 47 1 (rv q r) r.length (u32s r)) (hat : ∀ k, vbk (rv q r) = some k → vbk (rv (qs.getD i q0) (rows.getD i [])) = some k ∨ w.heap.size ≤ k) (hlt : ∀ x ∈ r, x < 4294967296) => ScPost.set h hi rfl (f.mono (fun b e => e.elim)) ho hat hlt)
    have Hlt := Lib.hid (show ∀ y ∈ insR (rows.getD i []) x, y < 4294967296 from fun y hy => by
      rcases (mem_insR _ _ _).1 hy with e | e
      · rw [e]; exact hx
      · exact (hR.2.2 y e).2)
    have Hrow := Lib.hid (show ((qs.getD i q0).1 = none ∧ (rows.getD i []).length = 0) ∨ ∃ g, (qs.getD i q0).1 = some ⟨g, 0, none⟩ from by
      rcases (h.row i hi).2 with ⟨h4, h5⟩ | ⟨g, cap, cur, h4, _⟩
      · unfold rv at h4; injection h4 with e1 e2 e3; exact .inl ⟨e1, h5⟩
      · unfold rv at h4; injection h4 with e1 e2 e3; exact .inr ⟨g, e1⟩)
    have hE : insE rows (i : Int) x = if 0 < x ∧ x ∉ rows.getD i [] then (if (rows.getD i []).length = 63 then 4 else 0) else 1 := by
      unfold insE
      simp only [Int.toNat_natCast]
      by_cases hc : 0 < x ∧ x ∉ rows.getD i []
      · rw [if_pos hc, if_pos ⟨hz.1, hz.2, hc.1, hc.2⟩]
      · rw [if_neg hc, if_neg (fun e => hc ⟨e.2.2.1, e.2.2.2⟩)]
    have hIl : insI rows (i : Int) x = if insE rows (i : Int) x = 0 then itv (rows.getD i []) x else 0 := by unfold insI; simp only [Int.toNat_natCast]
    have hLl : insL rows (i : Int) x = if insE rows (i : Int) x = 0 then rows.set i (insR (rows.getD i []) x) else rows := by unfold insL; simp only [Int.toNat_natCast]
    have Hmem := Lib.hid (mem_itv (x := x) hR.1)
    have HI := Lib.hid (fun W (f : Fr No w W) => rinterval_any (x := x) (hkv.no f))
    have HIl := Lib.hid (insR_len (rows.getD i []) x)
    have hit := itv_le (rows.getD i []) x
    have Hfz := Lib.hid (fun W (f : Fr No w W) => (h.no f).tb.frozenAt i)
    simp only [rv] at HS c1
    by_cases hx0 : x = 0
    · have e : insE rows (i : Int) x = 1 := by rw [hE, if_neg (fun e => by omega)]
      rw [hIl, hLl, e]
      simp only [Nat.one_ne_zero, if_false]
      subst hx0
      clear e hE hIl hLl h hg hz hR hkv HS Hlt Hmem HI HIl hit Hrow
      go_enter Try.func32, Try.ntmps32
      go_wp2
      go_ret2
      exact ⟨rfl, ScPost.same H.out (Fr.refl _ _)⟩
    · have hxb : ((x : Int) == 0) = false := by rw [beq_eq_false_iff_ne]; omega
      by_cases hm : x ∈ rows.getD i []
      · have e : insE rows (i : Int) x = 1 := by rw [hE, if_neg (fun e => e.2 hm)]
        rw [hIl, hLl, e]
        simp only [Nat.one_ne_zero, if_false]
        obtain ⟨m1, m2⟩ := Hmem.out.1 hm
        obtain ⟨j, hj⟩ : ∃ j, itv (rows.getD i []) x = j + 1 := ⟨itv (rows.getD i []) x - 1, by omega⟩
        rw [hj] at m2 hit HI
        rw [Nat.add_sub_cancel] at m2
        obtain ⟨bk, ok, hA, ck⟩ := hkv.get j (by omega)
        rw [hA] at c1 HI
        rw [m2] at ck
        clear e hE hIl hLl hm h hg hz hR hkv HS Hlt Hmem HIl Hrow m1 m2 hj hA
        generalize (rows.getD i []).length = n at *
        generalize (qs.getD i q0).2 = c at *
        have hjn : j < n := by omega
        have hwj : IntKind.i64.wrap ((j : Int) + 1 - 1) = (j : Int) := by rw [show (j : Int) + 1 - 1 = (j : Int) by omega]; exact IntWalk.i64_in _ (by omega)
        go_enter Try.func32, Try.ntmps32
        go_wp2_with first
          | (go_at_call 59; ((with_reducible refine (HI.out _ (Fr.refl _ _)).mono ?_); rintro en w3 ⟨rfl, rfl⟩))
          | fail
        go_ret2
        exact ⟨rfl, ScPost.same H.out (Fr.refl _ _)⟩
      · have hno : ∀ j, itv (rows.getD i []) x = j + 1 → (rows.getD i []).getD j 0 ≠ x := fun j hj e => hm (Hmem.out.2 ⟨by omega, by rw [hj, Nat.add_sub_cancel]; exact e⟩)
        by_cases h63 : (rows.getD i []).length = 63
        · have e : insE rows (i : Int) x = 4 := by rw [hE, if_pos ⟨by omega, hm⟩, if_pos h63]
          rw [hIl, hLl, e]
          simp only [show ¬ (4 : Nat) = 0 from by decide, if_false]
          rcases Nat.eq_zero_or_pos (itv (rows.getD i []) x) with hp | hp
          · rw [hp] at HI
            rw [h63] at c1 HI
            clear e hE hIl hLl hm h hg hz hR hkv HS Hlt Hmem HIl Hrow hno hp hit hl63 h63
            generalize (qs.getD i q0).1 = A at *
            generalize (qs.getD i q0).2 = c at *
            go_enter Try.func32, Try.ntmps32
            go_wp2_with first
              | (go_at_call 59; ((with_reducible refine (HI.out _ (Fr.refl _ _)).mono ?_); rintro en w3 ⟨rfl, rfl⟩))
              | fail
            go_ret2
            exact ⟨rfl, ScPost.same H.out (Fr.refl _ _)⟩
          · obtain ⟨j, hj⟩ : ∃ j, itv (rows.getD i []) x = j + 1 := ⟨itv (rows.getD i []) x - 1, by omega⟩
            have hne := hno j hj
            obtain ⟨bk, ok, hA, ck⟩ := hkv.get j (by omega)
            rw [hj] at HI hit
            rw [h63] at c1 HI hit
            rw [hA] at c1 HI
            clear e hE hIl hLl hm h hg hz hR hkv HS Hlt Hmem HIl Hrow hno hp hj hl63 h63 hA
            generalize (rows.getD i []).getD j 0 = y at *
            generalize (qs.getD i q0).2 = c at *
            have hwj : IntKind.i64.wrap ((j : Int) + 1 - 1) = (j : Int) := by rw [show (j : Int) + 1 - 1 = (j : Int) by omega]; exact IntWalk.i64_in _ (by omega)
            have hyx : ((y : Int) == (x : Int)) = false := by rw [beq_eq_false_iff_ne]; omega
            have hj63 : j < 63 := by omega
            go_enter Try.func32, Try.ntmps32
            go_wp2_with first
              | (go_at_call 59; ((with_reducible refine (HI.out _ (Fr.refl _ _)).mono ?_); rintro en w3 ⟨rfl, rfl⟩))
              | fail
            go_ret2
            exact ⟨rfl, ScPost.same H.out (Fr.refl _ _)⟩
        · have e : insE rows (i : Int) x = 0 := by rw [hE, if_pos ⟨by omega, hm⟩, if_neg h63]
          rw [hIl, hLl, e]
          simp only [if_true]
          clear e hE hIl hLl hm hz Hmem
          rcases Hrow.out with ⟨hA, hn0⟩ | ⟨g, hA⟩
          · have hp0 : itv (rows.getD i []) x = 0 := by omega
            obtain ⟨A1, c1', wa, A2, c2, wb, A3, c3, wc, hr1, hr2, hr3, f1, f2, f3, ho3⟩ := ins_runs (x := x) (A4 := none) (d := (qs.getD i q0).2) hkv hit (by omega) (fun e => by omega)
            have hOc := (show wc.ownsRow w.heap.size 47 1 (.slice A3 (insR (rows.getD i []) x).length c3) (insR (rows.getD i []) x).length (u32s (insR (rows.getD i []) x)) by rw [HIl.out]; exact ho3)
            have HOc := Lib.hid hOc
            have F3 := Lib.hid f3
            rw [← HIl.out] at hr3
            have d1 := cel_no c0 f1
            have d2 := cel_no c0 f2
            have d3 := cel_no c0 f3
            have d4 := cel_no c1 f3
            have d5 := Hfz.out _ f3
            have d6 := cel_no c1 f2
            have d7 := cel_no c1 f1
            have hcap := hkv.cap
            have hcm := hkv.most
            have hn62 : (rows.getD i []).length < 63 := by omega
            rw [hp0] at HI hr1 hr2 hr3
            rw [hp0]
            rw [hn0] at c1 HI hr3 hcap d4 d6 d7
            rw [hA] at c1 HI hr1 HS d4 d6 d7
            have hn0' := Lib.hid hn0
            clear h hg hR hkv hno hit hl63 h63 hA hn0 hp0 ho3 hOc f1 f2 f3 Hrow HIl hn62
            rw [hn0'.out] at HS
            clear hn0'
            generalize insR (rows.getD i []) x = r2 at *
            generalize (qs.getD i q0).2 = c at *
            go_enter Try.func32, Try.ntmps32
            go_wp2_with first
              | (go_at_call 59; ((with_reducible refine (HI.out _ (Fr.refl _ _)).mono ?_); rintro en w3 ⟨rfl, rfl⟩))
              | fail
            (refine wp_region_held_drew (S := fun w' => w'.cell? ⟨gs, 0, none⟩ = some (.slice (some ⟨gt, 0, none⟩) rows.length ct)) (by kernel_rfl) ?_ (fun hHeld => ?_); focus ((try dsimp only); (repeat (first | with_reducible assumption | with_reducible refine cel_alloc ?_ _ | with_reducible refine cel_drew ?_ | with_reducible refine cel_drewN ?_ _ | with_reducible refine cel_set ?_ (by first | (simp; done) | (simp; omega)) _ | with_reducible refine cel_no ?_ (by assumption))); done))
            ((refine wpAnyH_take (i := 0) (v := ?_) rfl (by kernel_rfl) (by kernel_rfl) (by kernel_rfl) (fun _ _ _ h => h) (Or.inl ⟨by rfl, ?_⟩) (by assumption) ?_; rotate_left; focus (intro w hSw; (try dsimp only at hSw); go_simp; (try with_reducible rfl); done)); (try simp only [Act.put, List.setIfInBounds_toArray, List.set_cons_zero, List.set_cons_succ, List.getElem_toArray, List.getElem_cons_zero, List.getElem_cons_succ]); (refine wpAnyH_take (i := 1) (v := ?_) rfl (by kernel_rfl) (by kernel_rfl) (by kernel_rfl) (fun _ _ _ h => h) (Or.inl ⟨by rfl, ?_⟩) (by assumption) ?_; rotate_left; focus (intro w hSw; (try dsimp only at hSw); go_simp; (try with_reducible rfl); done)); (try simp only [Act.put, List.setIfInBounds_toArray, List.set_cons_zero, List.set_cons_succ, List.getElem_toArray, List.getElem_cons_zero, List.getElem_cons_succ]); (refine wpAnyH_take (i := 2) (v := ?_) rfl (by kernel_rfl) (by kernel_rfl) (by kernel_rfl) (fun _ _ _ h => h) (Or.inl ⟨by rfl, ?_⟩) (by assumption) ?_; rotate_left; focus (intro w hSw; (try dsimp only at hSw); go_simp; (try with_reducible rfl); done)); (try simp only [Act.put, List.setIfInBounds_toArray, List.set_cons_zero, List.set_cons_succ, List.getElem_toArray, List.getElem_cons_zero, List.getElem_cons_succ]); (refine wpAnyH_take (i := 3) (v := ?_) rfl (by kernel_rfl) (by kernel_rfl) (by kernel_rfl) (fun _ _ _ h => h) (Or.inl ⟨by rfl, ?_⟩) (by assumption) ?_; rotate_left; focus (intro w hSw; (try dsimp only at hSw); go_simp; (try with_reducible rfl); done)); (try simp only [Act.put, List.setIfInBounds_toArray, List.set_cons_zero, List.set_cons_succ, List.getElem_toArray, List.getElem_cons_zero, List.getElem_cons_succ]); (refine wpAnyH_take (i := 4) (v := ?_) rfl (by kernel_rfl) (by kernel_rfl) (by kernel_rfl) (fun _ _ _ h => h) (Or.inl ⟨by rfl, ?_⟩) (by assumption) ?_; rotate_left; focus (intro w hSw; (try dsimp only at hSw); go_simp; (try with_reducible rfl); done)); (try simp only [Act.put, List.setIfInBounds_toArray, List.set_cons_zero, List.set_cons_succ, List.getElem_toArray, List.getElem_cons_zero, List.getElem_cons_succ]); (refine wpAnyH_take (i := 5) (v := ?_) rfl (by kernel_rfl) (by kernel_rfl) (by kernel_rfl) (fun _ _ _ h => h) (Or.inl ⟨by rfl, ?_⟩) (by assumption) ?_; rotate_left; focus (intro w hSw; (try dsimp only at hSw); go_simp; (try with_reducible rfl); done)); (try simp only [Act.put, List.setIfInBounds_toArray, List.set_cons_zero, List.set_cons_succ, List.getElem_toArray, List.getElem_cons_zero, List.getElem_cons_succ]); (refine wpAnyH_take (i := 6) (v := ?_) rfl (by kernel_rfl) (by kernel_rfl) (by kernel_rfl) (fun _ _ _ h => h) (Or.inl ⟨by rfl, ?_⟩) (by assumption) ?_; rotate_left; focus (intro w hSw; (try dsimp only at hSw); go_simp; (try with_reducible rfl); done)); (try simp only [Act.put, List.setIfInBounds_toArray, List.set_cons_zero, List.set_cons_succ, List.getElem_toArray, List.getElem_cons_zero, List.getElem_cons_succ]); (refine wpAnyH_take (i := 7) (v := ?_) rfl (by kernel_rfl) (by kernel_rfl) (by kernel_rfl) (fun _ _ _ h => h) (Or.inl ⟨by rfl, ?_⟩) (by assumption) ?_; rotate_left; focus (intro w hSw; (try dsimp only at hSw); go_simp; (try with_reducible rfl); done)); (try simp only [Act.put, List.setIfInBounds_toArray, List.set_cons_zero, List.set_cons_succ, List.getElem_toArray, List.getElem_cons_zero, List.getElem_cons_succ]))
            (refine wpAnyH_take (i := 8) (v := ?_) rfl (by kernel_rfl) (by kernel_rfl) (by kernel_rfl) (fun _ _ _ h => h) (Or.inl ⟨by rfl, ?_⟩) (by assumption) ?_; rotate_left; focus (intro w hSw; (try dsimp only at hSw); go_simp; (try with_reducible rfl); done)); (try simp only [Act.put, List.setIfInBounds_toArray, List.set_cons_zero, List.set_cons_succ, List.getElem_toArray, List.getElem_cons_zero, List.getElem_cons_succ])
            (refine wpAnyH_ready (rs := [9]) (by kernel_rfl) (by simp) ?_; refine AllReadyH.cons rfl (fun K hK => ?_) AllReadyH.nil; (try simp only [Act.put, List.setIfInBounds_toArray, List.set_cons_zero, List.set_cons_succ, List.getElem_toArray, List.getElem_cons_zero, List.getElem_cons_succ]); go_simp; skip; (try go_wp2_with fail); refine hK.out _ _ ?_ (fun hHeld => ?_); focus ((try dsimp only); (repeat (first | with_reducible assumption | with_reducible refine cel_alloc ?_ _ | with_reducible refine cel_drew ?_ | with_reducible refine cel_drewN ?_ _ | with_reducible refine cel_set ?_ (by first | (simp; done) | (simp; omega)) _ | with_reducible refine cel_no ?_ (by assumption))); done)); (clear hK K); (try simp only [Act.put, List.setIfInBounds_toArray, List.set_cons_zero, List.set_cons_succ, List.getElem_toArray, List.getElem_cons_zero, List.getElem_cons_succ])
            (refine wpAnyH_take (i := 10) (v := ?_) rfl (by kernel_rfl) (by kernel_rfl) (by kernel_rfl) (fun _ _ _ h => h) (Or.inl ⟨by rfl, ?_⟩) (by assumption) ?_; rotate_left; focus (intro w hSw; (try dsimp only at hSw); go_simp; (try with_reducible rfl); done)); (try simp only [Act.put, List.setIfInBounds_toArray, List.set_cons_zero, List.set_cons_succ, List.getElem_toArray, List.getElem_cons_zero, List.getElem_cons_succ])
            (refine wpAnyH_ready (rs := [11]) (by kernel_rfl) (by simp) ?_; refine AllReadyH.cons rfl (fun K hK => ?_) AllReadyH.nil; (try simp only [Act.put, List.setIfInBounds_toArray, List.set_cons_zero, List.set_cons_succ, List.getElem_toArray, List.getElem_cons_zero, List.getElem_cons_succ]); go_simp; refine hK.out _ _ ?_ (fun hHeld => ?_); focus ((try dsimp only); (repeat (first | with_reducible assumption | with_reducible refine cel_alloc ?_ _ | with_reducible refine cel_drew ?_ | with_reducible refine cel_drewN ?_ _ | with_reducible refine cel_set ?_ (by first | (simp; done) | (simp; omega)) _ | with_reducible refine cel_no ?_ (by assumption))); done)); (clear hK K); (try simp only [Act.put, List.setIfInBounds_toArray, List.set_cons_zero, List.set_cons_succ, List.getElem_toArray, List.getElem_cons_zero, List.getElem_cons_succ])
            (refine wpAnyH_done (by kernel_rfl) ?_ _)
            (try go_wp2)
            go_ret2
            exact ⟨rfl, HS.out wc (A3, c3) r2 F3.out (own_base HOc.out (Nat.zero_le _)) (fun k hk => .inr (HOc.out.lt k hk).1) Hlt.out⟩
          · obtain ⟨p, hp⟩ : ∃ p, itv (rows.getD i []) x = p := ⟨_, rfl⟩
            obtain ⟨A4, hA4⟩ : ∃ A4 : Option Addr, (if (qs.getD i q0).2 = p then (some ⟨g, 0, none⟩ : Option Addr) else some ⟨g, p, none⟩) = A4 := ⟨_, rfl⟩
            obtain ⟨A1, c1', wa, A2, c2, wb, A3, c3, wc, hr1, hr2, hr3, f1, f2, f3, ho3⟩ := ins_runs (x := x) (A4 := A4) (d := (qs.getD i q0).2 - p) hkv hit (by omega) (fun e => ⟨g, 0, hA, by rw [← hA4, if_neg (by have := hkv.cap; omega), Nat.zero_add, hp]⟩)
            have hOc := (show wc.ownsRow w.heap.size 47 1 (.slice A3 (insR (rows.getD i []) x).length c3) (insR (rows.getD i []) x).length (u32s (insR (rows.getD i []) x)) by rw [HIl.out]; exact ho3)
            have HOc := Lib.hid hOc
            have F3 := Lib.hid f3
            rw [← HIl.out] at hr3
            have d1 := cel_no c0 f1
            have d2 := cel_no c0 f2
            have d3 := cel_no c0 f3
            have d4 := cel_no c1 f3
            have d5 := Hfz.out _ f3
            have d6 := cel_no c1 f2
            have d7 := cel_no c1 f1
            have hcap := hkv.cap
            have hcm := hkv.most
            have hn62 : (rows.getD i []).length < 63 := by omega
            have hcell : ∀ j, p = j + 1 → ∃ y, y ≠ x ∧ w.cell? ⟨g, j, none⟩ = some (.int .u32 (y : Int)) := fun j hj => by
              obtain ⟨b, o, e1, e2⟩ := hkv.get j (by omega)
              rw [hA] at e1
              injection e1 with e1
              injection e1 with e3 e4
              subst e3; subst e4
              rw [Nat.zero_add] at e2
              exact ⟨_, hno j (by rw [hp, hj]), e2⟩
            rw [hp] at HI hr1 hr2 hr3 hit
            rw [hp]
            rw [hA] at c1 HI hr1 HS d4 d6 d7
            clear h hg hR hkv hno hl63 h63 hA hp ho3 hOc f1 f2 f3 Hrow HIl
            generalize insR (rows.getD i []) x = r2 at *
            generalize (rows.getD i []).length = n at *
            generalize (qs.getD i q0).2 = c at *
            rcases Nat.eq_zero_or_pos p with hp0 | hp0
            · have hdp : decide (0 < p) = false := decide_eq_false (by omega)
              have hw6 : (0 : Int) ≤ (p : Int) ∧ (p : Int) ≤ (n : Int) := by omega
              have hpc : p ≤ c := by omega
              clear hcell hp0
              go_enter Try.func32, Try.ntmps32
              go_wp2_with first
                | (go_at_call 59; ((with_reducible refine (HI.out _ (Fr.refl _ _)).mono ?_); rintro en w3 ⟨rfl, rfl⟩))
                | fail
              (refine wp_region_held_drew (S := fun w' => w'.cell? ⟨gs, 0, none⟩ = some (.slice (some ⟨gt, 0, none⟩) rows.length ct)) (by kernel_rfl) ?_ (fun hHeld => ?_); focus ((try dsimp only); (repeat (first | with_reducible assumption | with_reducible refine cel_alloc ?_ _ | with_reducible refine cel_drew ?_ | with_reducible refine cel_drewN ?_ _ | with_reducible refine cel_set ?_ (by first | (simp; done) | (simp; omega)) _ | with_reducible refine cel_no ?_ (by assumption))); done))
              ((refine wpAnyH_take (i := 0) (v := ?_) rfl (by kernel_rfl) (by kernel_rfl) (by kernel_rfl) (fun _ _ _ h => h) (Or.inl ⟨by rfl, ?_⟩) (by assumption) ?_; rotate_left; focus (intro w hSw; (try dsimp only at hSw); go_simp; (try with_reducible rfl); done)); (try simp only [Act.put, List.setIfInBounds_toArray, List.set_cons_zero, List.set_cons_succ, List.getElem_toArray, List.getElem_cons_zero, List.getElem_cons_succ]); (refine wpAnyH_take (i := 1) (v := ?_) rfl (by kernel_rfl) (by kernel_rfl) (by kernel_rfl) (fun _ _ _ h => h) (Or.inl ⟨by rfl, ?_⟩) (by assumption) ?_; rotate_left; focus (intro w hSw; (try dsimp only at hSw); go_simp; (try with_reducible rfl); done)); (try simp only [Act.put, List.setIfInBounds_toArray, List.set_cons_zero, List.set_cons_succ, List.getElem_toArray, List.getElem_cons_zero, List.getElem_cons_succ]); (refine wpAnyH_take (i := 2) (v := ?_) rfl (by kernel_rfl) (by kernel_rfl) (by kernel_rfl) (fun _ _ _ h => h) (Or.inl ⟨by rfl, ?_⟩) (by assumption) ?_; rotate_left; focus (intro w hSw; (try dsimp only at hSw); go_simp; (try with_reducible rfl); done)); (try simp only [Act.put, List.setIfInBounds_toArray, List.set_cons_zero, List.set_cons_succ, List.getElem_toArray, List.getElem_cons_zero, List.getElem_cons_succ]); (refine wpAnyH_take (i := 3) (v := ?_) rfl (by kernel_rfl) (by kernel_rfl) (by kernel_rfl) (fun _ _ _ h => h) (Or.inl ⟨by rfl, ?_⟩) (by assumption) ?_; rotate_left; focus (intro w hSw; (try dsimp only at hSw); go_simp; (try with_reducible rfl); done)); (try simp only [Act.put, List.setIfInBounds_toArray, List.set_cons_zero, List.set_cons_succ, List.getElem_toArray, List.getElem_cons_zero, List.getElem_cons_succ]); (refine wpAnyH_take (i := 4) (v := ?_) rfl (by kernel_rfl) (by kernel_rfl) (by kernel_rfl) (fun _ _ _ h => h) (Or.inl ⟨by rfl, ?_⟩) (by assumption) ?_; rotate_left; focus (intro w hSw; (try dsimp only at hSw); go_simp; (try with_reducible rfl); done)); (try simp only [Act.put, List.setIfInBounds_toArray, List.set_cons_zero, List.set_cons_succ, List.getElem_toArray, List.getElem_cons_zero, List.getElem_cons_succ]); (refine wpAnyH_take (i := 5) (v := ?_) rfl (by kernel_rfl) (by kernel_rfl) (by kernel_rfl) (fun _ _ _ h => h) (Or.inl ⟨by rfl, ?_⟩) (by assumption) ?_; rotate_left; focus (intro w hSw; (try dsimp only at hSw); go_simp; (try with_reducible rfl); done)); (try simp only [Act.put, List.setIfInBounds_toArray, List.set_cons_zero, List.set_cons_succ, List.getElem_toArray, List.getElem_cons_zero, List.getElem_cons_succ]); (refine wpAnyH_take (i := 6) (v := ?_) rfl (by kernel_rfl) (by kernel_rfl) (by kernel_rfl) (fun _ _ _ h => h) (Or.inl ⟨by rfl, ?_⟩) (by assumption) ?_; rotate_left; focus (intro w hSw; (try dsimp only at hSw); go_simp; (try with_reducible rfl); done)); (try simp only [Act.put, List.setIfInBounds_toArray, List.set_cons_zero, List.set_cons_succ, List.getElem_toArray, List.getElem_cons_zero, List.getElem_cons_succ]); (refine wpAnyH_take (i := 7) (v := ?_) rfl (by kernel_rfl) (by kernel_rfl) (by kernel_rfl) (fun _ _ _ h => h) (Or.inl ⟨by rfl, ?_⟩) (by assumption) ?_; rotate_left; focus (intro w hSw; (try dsimp only at hSw); go_simp; (try with_reducible rfl); done)); (try simp only [Act.put, List.setIfInBounds_toArray, List.set_cons_zero, List.set_cons_succ, List.getElem_toArray, List.getElem_cons_zero, List.getElem_cons_succ]))
              (refine wpAnyH_take (i := 8) (v := ?_) rfl (by kernel_rfl) (by kernel_rfl) (by kernel_rfl) (fun _ _ _ h => h) (Or.inl ⟨by rfl, ?_⟩) (by assumption) ?_; rotate_left; focus (intro w hSw; (try dsimp only at hSw); go_simp; (try simp only [if_pos hw6, add_lit, hA4]); (try with_reducible rfl); done)); (try simp only [Act.put, List.setIfInBounds_toArray, List.set_cons_zero, List.set_cons_succ, List.getElem_toArray, List.getElem_cons_zero, List.getElem_cons_succ])
              (refine wpAnyH_ready (rs := [9]) (by kernel_rfl) (by simp) ?_; refine AllReadyH.cons rfl (fun K hK => ?_) AllReadyH.nil; (try simp only [Act.put, List.setIfInBounds_toArray, List.set_cons_zero, List.set_cons_succ, List.getElem_toArray, List.getElem_cons_zero, List.getElem_cons_succ]); go_simp; skip; (try go_wp2_with fail); refine hK.out _ _ ?_ (fun hHeld => ?_); focus ((try dsimp only); (repeat (first | with_reducible assumption | with_reducible refine cel_alloc ?_ _ | with_reducible refine cel_drew ?_ | with_reducible refine cel_drewN ?_ _ | with_reducible refine cel_set ?_ (by first | (simp; done) | (simp; omega)) _ | with_reducible refine cel_no ?_ (by assumption))); done)); (clear hK K); (try simp only [Act.put, List.setIfInBounds_toArray, List.set_cons_zero, List.set_cons_succ, List.getElem_toArray, List.getElem_cons_zero, List.getElem_cons_succ])
              (refine wpAnyH_take (i := 10) (v := ?_) rfl (by kernel_rfl) (by kernel_rfl) (by kernel_rfl) (fun _ _ _ h => h) (Or.inl ⟨by rfl, ?_⟩) (by assumption) ?_; rotate_left; focus (intro w hSw; (try dsimp only at hSw); go_simp; (try with_reducible rfl); done)); (try simp only [Act.put, List.setIfInBounds_toArray, List.set_cons_zero, List.set_cons_succ, List.getElem_toArray, List.getElem_cons_zero, List.getElem_cons_succ])
              (refine wpAnyH_ready (rs := [11]) (by kernel_rfl) (by simp) ?_; refine AllReadyH.cons rfl (fun K hK => ?_) AllReadyH.nil; (try simp only [Act.put, List.setIfInBounds_toArray, List.set_cons_zero, List.set_cons_succ, List.getElem_toArray, List.getElem_cons_zero, List.getElem_cons_succ]); go_simp; refine hK.out _ _ ?_ (fun hHeld => ?_); focus ((try dsimp only); (repeat (first | with_reducible assumption | with_reducible refine cel_alloc ?_ _ | with_reducible refine cel_drew ?_ | with_reducible refine cel_drewN ?_ _ | with_reducible refine cel_set ?_ (by first | (simp; done) | (simp; omega)) _ | with_reducible refine cel_no ?_ (by assumption))); done)); (clear hK K); (try simp only [Act.put, List.setIfInBounds_toArray, List.set_cons_zero, List.set_cons_succ, List.getElem_toArray, List.getElem_cons_zero, List.getElem_cons_succ])
              (refine wpAnyH_done (by kernel_rfl) ?_ _)
              (try go_wp2)
              go_ret2
              exact ⟨rfl, HS.out wc (A3, c3) r2 F3.out (own_base HOc.out (Nat.zero_le _)) (fun k hk => .inr (HOc.out.lt k hk).1) Hlt.out⟩
            · obtain ⟨j, rfl⟩ : ∃ j, p = j + 1 := ⟨p - 1, by omega⟩
              obtain ⟨y, hyx, ck⟩ := hcell j rfl
              have hyb : ((y : Int) == (x : Int)) = false := by rw [beq_eq_false_iff_ne]; omega
              have hwj : IntKind.i64.wrap ((j : Int) + 1 - 1) = (j : Int) := by rw [show (j : Int) + 1 - 1 = (j : Int) by omega]; exact IntWalk.i64_in _ (by omega)
              have hw6 : (0 : Int) ≤ (j : Int) + 1 ∧ (j : Int) + 1 ≤ (n : Int) := by omega
              have hw3 : ((j : Int) + 1).toNat = j + 1 := by omega
              have hjn : j < n := by omega
              have hpc : j + 1 ≤ c := by omega
              clear hcell hp0
              go_enter Try.func32, Try.ntmps32
              go_wp2_with first
                | (go_at_call 59; ((with_reducible refine (HI.out _ (Fr.refl _ _)).mono ?_); rintro en w3 ⟨rfl, rfl⟩))
                | fail
              (refine wp_region_held_drew (S := fun w' => w'.cell? ⟨gs, 0, none⟩ = some (.slice (some ⟨gt, 0, none⟩) rows.length ct)) (by kernel_rfl) ?_ (fun hHeld => ?_); focus ((try dsimp only); (repeat (first | with_reducible assumption | with_reducible refine cel_alloc ?_ _ | with_reducible refine cel_drew ?_ | with_reducible refine cel_drewN ?_ _ | with_reducible refine cel_set ?_ (by first | (simp; done) | (simp; omega)) _ | with_reducible refine cel_no ?_ (by assumption))); done))
              ((refine wpAnyH_take (i := 0) (v := ?_) rfl (by kernel_rfl) (by kernel_rfl) (by kernel_rfl) (fun _ _ _ h => h) (Or.inl ⟨by rfl, ?_⟩) (by assumption) ?_; rotate_left; focus (intro w hSw; (try dsimp only at hSw); go_simp; (try with_reducible rfl); done)); (try simp only [Act.put, List.setIfInBounds_toArray, List.set_cons_zero, List.set_cons_succ, List.getElem_toArray, List.getElem_cons_zero, List.getElem_cons_succ]); (refine wpAnyH_take (i := 1) (v := ?_) rfl (by kernel_rfl) (by kernel_rfl) (by kernel_rfl) (fun _ _ _ h => h) (Or.inl ⟨by rfl, ?_⟩) (by assumption) ?_; rotate_left; focus (intro w hSw; (try dsimp only at hSw); go_simp; (try with_reducible rfl); done)); (try simp only [Act.put, List.setIfInBounds_toArray, List.set_cons_zero, List.set_cons_succ, List.getElem_toArray, List.getElem_cons_zero, List.getElem_cons_succ]); (refine wpAnyH_take (i := 2) (v := ?_) rfl (by kernel_rfl) (by kernel_rfl) (by kernel_rfl) (fun _ _ _ h => h) (Or.inl ⟨by rfl, ?_⟩) (by assumption) ?_; rotate_left; focus (intro w hSw; (try dsimp only at hSw); go_simp; (try with_reducible rfl); done)); (try simp only [Act.put, List.setIfInBounds_toArray, List.set_cons_zero, List.set_cons_succ, List.getElem_toArray, List.getElem_cons_zero, List.getElem_cons_succ]); (refine wpAnyH_take (i := 3) (v := ?_) rfl (by kernel_rfl) (by kernel_rfl) (by kernel_rfl) (fun _ _ _ h => h) (Or.inl ⟨by rfl, ?_⟩) (by assumption) ?_; rotate_left; focus (intro w hSw; (try dsimp only at hSw); go_simp; (try with_reducible rfl); done)); (try simp only [Act.put, List.setIfInBounds_toArray, List.set_cons_zero, List.set_cons_succ, List.getElem_toArray, List.getElem_cons_zero, List.getElem_cons_succ]); (refine wpAnyH_take (i := 4) (v := ?_) rfl (by kernel_rfl) (by kernel_rfl) (by kernel_rfl) (fun _ _ _ h => h) (Or.inl ⟨by rfl, ?_⟩) (by assumption) ?_; rotate_left; focus (intro w hSw; (try dsimp only at hSw); go_simp; (try with_reducible rfl); done)); (try simp only [Act.put, List.setIfInBounds_toArray, List.set_cons_zero, List.set_cons_succ, List.getElem_toArray, List.getElem_cons_zero, List.getElem_cons_succ]); (refine wpAnyH_take (i := 5) (v := ?_) rfl (by kernel_rfl) (by kernel_rfl) (by kernel_rfl) (fun _ _ _ h => h) (Or.inl ⟨by rfl, ?_⟩) (by assumption) ?_; rotate_left; focus (intro w hSw; (try dsimp only at hSw); go_simp; (try with_reducible rfl); done)); (try simp only [Act.put, List.setIfInBounds_toArray, List.set_cons_zero, List.set_cons_succ, List.getElem_toArray, List.getElem_cons_zero, List.getElem_cons_succ]); (refine wpAnyH_take (i := 6) (v := ?_) rfl (by kernel_rfl) (by kernel_rfl) (by kernel_rfl) (fun _ _ _ h => h) (Or.inl ⟨by rfl, ?_⟩) (by assumption) ?_; rotate_left; focus (intro w hSw; (try dsimp only at hSw); go_simp; (try with_reducible rfl); done)); (try simp only [Act.put, List.setIfInBounds_toArray, List.set_cons_zero, List.set_cons_succ, List.getElem_toArray, List.getElem_cons_zero, List.getElem_cons_succ]); (refine wpAnyH_take (i := 7) (v := ?_) rfl (by kernel_rfl) (by kernel_rfl) (by kernel_rfl) (fun _ _ _ h => h) (Or.inl ⟨by rfl, ?_⟩) (by assumption) ?_; rotate_left; focus (intro w hSw; (try dsimp only at hSw); go_simp; (try with_reducible rfl); done)); (try simp only [Act.put, List.setIfInBounds_toArray, List.set_cons_zero, List.set_cons_succ, List.getElem_toArray, List.getElem_cons_zero, List.getElem_cons_succ]))
              (refine wpAnyH_take (i := 8) (v := ?_) rfl (by kernel_rfl) (by kernel_rfl) (by kernel_rfl) (fun _ _ _ h => h) (Or.inl ⟨by rfl, ?_⟩) (by assumption) ?_; rotate_left; focus (intro w hSw; (try dsimp only at hSw); go_simp; (try simp only [if_pos hw6, hw3, add_lit, hA4]); (try with_reducible rfl); done)); (try simp only [Act.put, List.setIfInBounds_toArray, List.set_cons_zero, List.set_cons_succ, List.getElem_toArray, List.getElem_cons_zero, List.getElem_cons_succ])
              (refine wpAnyH_ready (rs := [9]) (by kernel_rfl) (by simp) ?_; refine AllReadyH.cons rfl (fun K hK => ?_) AllReadyH.nil; (try simp only [Act.put, List.setIfInBounds_toArray, List.set_cons_zero, List.set_cons_succ, List.getElem_toArray, List.getElem_cons_zero, List.getElem_cons_succ]); go_simp; skip; (try go_wp2_with fail); refine hK.out _ _ ?_ (fun hHeld => ?_); focus ((try dsimp only); (repeat (first | with_reducible assumption | with_reducible refine cel_alloc ?_ _ | with_reducible refine cel_drew ?_ | with_reducible refine cel_drewN ?_ _ | with_reducible refine cel_set ?_ (by first | (simp; done) | (simp; omega)) _ | with_reducible refine cel_no ?_ (by assumption))); done)); (clear hK K); (try simp only [Act.put, List.setIfInBounds_toArray, List.set_cons_zero, List.set_cons_succ, List.getElem_toArray, List.getElem_cons_zero, List.getElem_cons_succ])
              (refine wpAnyH_take (i := 10) (v := ?_) rfl (by kernel_rfl) (by kernel_rfl) (by kernel_rfl) (fun _ _ _ h => h) (Or.inl ⟨by rfl, ?_⟩) (by assumption) ?_; rotate_left; focus (intro w hSw; (try dsimp only at hSw); go_simp; (try with_reducible rfl); done)); (try simp only [Act.put, List.setIfInBounds_toArray, List.set_cons_zero, List.set_cons_succ, List.getElem_toArray, List.getElem_cons_zero, List.getElem_cons_succ])
              (refine wpAnyH_ready (rs := [11]) (by kernel_rfl) (by simp) ?_; refine AllReadyH.cons rfl (fun K hK => ?_) AllReadyH.nil; (try simp only [Act.put, List.setIfInBounds_toArray, List.set_cons_zero, List.set_cons_succ, List.getElem_toArray, List.getElem_cons_zero, List.getElem_cons_succ]); go_simp; refine hK.out _ _ ?_ (fun hHeld => ?_); focus ((try dsimp only); (repeat (first | with_reducible assumption | with_reducible refine cel_alloc ?_ _ | with_reducible refine cel_drew ?_ | with_reducible refine cel_drewN ?_ _ | with_reducible refine cel_set ?_ (by first | (simp; done) | (simp; omega)) _ | with_reducible refine cel_no ?_ (by assumption))); done)); (clear hK K); (try simp only [Act.put, List.setIfInBounds_toArray, List.set_cons_zero, List.set_cons_succ, List.getElem_toArray, List.getElem_cons_zero, List.getElem_cons_succ])
              (refine wpAnyH_done (by kernel_rfl) ?_ _)
              (try go_wp2)
              go_ret2
              exact ⟨rfl, HS.out wc (A3, c3) r2 F3.out (own_base HOc.out (Nat.zero_le _)) (fun k hk => .inr (HOc.out.lt k hk).1) Hlt.out⟩
  · have e : insE rows z x = 1 := by unfold insE; rw [if_neg (fun e => hz ⟨e.1, e.2.1⟩)]
    unfold insI insL
    rw [e]
    simp only [Nat.one_ne_zero, if_false]
    clear h e hg
    by_cases hz0 : z < 0
    · clear hz
      go_enter Try.func32, Try.ntmps32
      go_wp2
      go_ret2
      exact ⟨rfl, ScPost.same H.out (Fr.refl _ _)⟩
    · have hz1 : (rows.length : Int) ≤ z := by omega
      clear hz
      go_enter Try.func32, Try.ntmps32
      go_wp2
      go_ret2
      exact ⟨rfl, ScPost.same H.out (Fr.refl _ _)⟩
end
end Go.Proofs.Ytifpigcgkpmheaa.So12
