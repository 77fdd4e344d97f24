/- Layer 12: a bound put into a scale, and taken out. -/
import Derived.Test.YtifpigcgkpmheaaSc12
import Derived.StillTailTactics
namespace Go.Proofs.Ytifpigcgkpmheaa.Sd12
open Go.RowKit Go.Proofs.Ytifpigcgkpmheaa.Base Go.Proofs.Ytifpigcgkpmheaa.App Go.Proofs.Ytifpigcgkpmheaa.Str Go.Proofs.Ytifpigcgkpmheaa.Ky Go.Proofs.Ytifpigcgkpmheaa.Bx Go.Proofs.Ytifpigcgkpmheaa.Bo Go.Proofs.Ytifpigcgkpmheaa.As Go.Proofs.Ytifpigcgkpmheaa.Ro Go.Proofs.Ytifpigcgkpmheaa.Ki08 Go.Proofs.Ytifpigcgkpmheaa.Ic Go.Proofs.Ytifpigcgkpmheaa.Sa12 Go.Proofs.Ytifpigcgkpmheaa.Sb12 Go.Proofs.Ytifpigcgkpmheaa.Sc12
set_option linter.unusedVariables false
set_option linter.unusedSimpArgs false
/-- What a change leaves. -/
def ScPost (tS tE : TypeId) (P : Nat → Prop) (w : World) (gs : Nat) (out : List (List Nat)) (w' : World) : Prop :=
  ∃ P' T ct qs, Sc tS tE P' w' gs T ct qs out ∧ (∀ b, P' b → P b ∨ w.heap.size ≤ b) ∧ Fr P w w'
section
variable {tS tE : TypeId} {P S : Nat → Prop} {w w1 : World} {gs gt ct : Nat} {T : Option Addr} {qs : List Rw} {rows : List (List Nat)} {x : Nat}
theorem ScPost.same (h : Sc tS tE P w gs T ct qs rows) (f : Fr No w w1) : ScPost tS tE P w gs rows w1 := ⟨P, T, ct, qs, h.no f, fun b hb => .inl hb, f.mono (fun b e => e.elim)⟩
theorem ScPost.set (h : Sc tS tE P w gs T ct qs rows) {i : Nat} (hi : i < rows.length) (hT : T = some ⟨gt, 0, none⟩) {q : Rw} {r : List Nat} (f : Fr (fun k => vbk (rv (qs.getD i q0) (rows.getD i [])) = some k) w w1) (ho : w1.ownsRow 0 47 1 (rv q r) r.length (u32s r)) (hat : ∀ k, vbk (rv q r) = some k → vbk (rv (qs.getD i q0) (rows.getD i [])) = some k ∨ w.heap.size ≤ k) (hlt : ∀ x ∈ r, x < 4294967296) :
    ScPost tS tE P w gs (rows.set i r) (w1.setCell ⟨gt, i, none⟩ (rv q r)) := by
  obtain ⟨h1, h2⟩ := h.set hi hT f ho hat hlt
  exact ⟨_, _, _, _, h1, fun b hb => hb.1, h2⟩
/-- What is known of a row's place. -/
theorem Sc.at_ (h : Sc tS tE P w gs T ct qs rows) {i : Nat} (hi : i < rows.length) : ∃ gt, T = some ⟨gt, 0, none⟩ ∧ w.cell? ⟨gs, 0, none⟩ = some (.slice T rows.length ct) ∧ w.cell? ⟨gt, i, none⟩ = some (rv (qs.getD i q0) (rows.getD i [])) ∧ w.frozen? ⟨gt, i, none⟩ = false ∧ gs ≠ gt ∧ gs < w.heap.size ∧ gt < w.heap.size ∧ rows.length ≤ ct ∧ ct ≤ maxLen ∧ Kv w (qs.getD i q0).1 (rows.getD i []).length (qs.getD i q0).2 (rows.getD i []) ∧ (∀ k, vbk (rv (qs.getD i q0) (rows.getD i [])) = some k → k ≠ gs ∧ k ≠ gt ∧ k < w.heap.size) := by
  obtain ⟨k1, k2⟩ := own_cap h.tb
  rcases h.tb.2 with ⟨h4, h5⟩ | ⟨g, cap, cur, h4, hg, _⟩
  · omega
  · injection h4 with h4
    subst h4
    have hc := h.tb.cellAt i (by omega)
    rw [rvs_get h.ql hi] at hc
    have hp := h.pt g rfl
    refine ⟨g, rfl, h.ob.cell 0 rfl, hc, h.tb.frozenAt i, fun e => hp.2 e.symm, h.ob.lt, h.blt g hp.1, k1, k2, Kv.of_own (h.row i hi) (rowD_lt h.lt i), fun k hk => ?_⟩
    obtain ⟨p1, p2, p3⟩ := h.pr i hi k hk
    exact ⟨p2, fun e => p3 (by rw [e]; rfl), h.blt k p1⟩
theorem Sc.kept (h : Sc tS tE P w gs T ct qs rows) {i : Nat} (hi : i < rows.length) (hT : T = some ⟨gt, 0, none⟩) (f : Fr (fun k => vbk (rv (qs.getD i q0) (rows.getD i [])) = some k) w w1) : w1.cell? ⟨gs, 0, none⟩ = some (.slice T rows.length ct) ∧ w1.cell? ⟨gt, i, none⟩ = some (rv (qs.getD i q0) (rows.getD i [])) ∧ w1.frozen? ⟨gt, i, none⟩ = false := by
  subst hT
  have hb : vbk (.slice (some ⟨gt, 0, none⟩) rows.length ct) = some gt := rfl
  have h1 := own_fr1 h.tb f (fun k hk e => (h.pr i hi k e).2.2 hk)
  have hc := h1.cellAt i (by omega)
  rw [rvs_get h.ql hi] at hc
  exact ⟨(h.ob.fr f (fun e => (h.pr i hi _ e).2.1 rfl)).cell 0 rfl, hc, h1.frozenAt i⟩
theorem own_lit1 (w : World) (v : Value) : ((w.alloc (.cells #[v] 47)).drew).ownsRow w.heap.size 47 1 (.slice (some ⟨w.heap.size, 0, none⟩) 1 1) 1 [v] :=
  Frg.own (show ((w.alloc (.cells #[v] 47)).drew).heap[w.heap.size]? = some (.cells #[v] 47 (0, 0)) from (Ob.new w #[v] 47).drew) (Nat.le_refl _) (Nat.le_refl _) (by decide) rfl rfl
/-- The run of slices.Insert on a row. -/
theorem ins_row (h : Sc tS tE P w gs T ct qs rows) {i vc bv : Nat} {V : Option Addr} (hi : i < rows.length) (f : Fr No w w1) (hV : w1.ownsRow bv 47 1 (.slice V 1 vc) 1 [.int .u32 (x : Int)]) (hbv : w.heap.size ≤ bv) (hlen : (rows.getD i []).length ≤ 63) :
    Calls Try.prog 53 #[rv (qs.getD i q0) (rows.getD i []), .int .i64 ((itv (rows.getD i []) x : Nat) : Int), .slice V 1 vc] w1 fun e w' => ∃ q, e = .returned (rv q (insR (rows.getD i []) x)) ∧ w'.ownsRow 0 47 1 (rv q (insR (rows.getD i []) x)) (insR (rows.getD i []) x).length (u32s (insR (rows.getD i []) x)) ∧ Fr (fun k => vbk (rv (qs.getD i q0) (rows.getD i [])) = some k) w w' ∧ (∀ k, vbk (rv q (insR (rows.getD i []) x)) = some k → vbk (rv (qs.getD i q0) (rows.getD i [])) = some k ∨ w.heap.size ≤ k) := by
  have hr := (Sc.no h f).row i hi
  have hb := Sc.at_ h hi
  obtain ⟨gt, _, _, _, _, _, _, _, _, _, _, hblk⟩ := hb
  have hsz := f.size
  have hle := itv_le (rows.getD i []) x
  have hne : (Value.slice V 1 vc).ownBlock ≠ (rv (qs.getD i q0) (rows.getD i [])).ownBlock := fun e => by
    rcases hV.2 with ⟨h9, h10⟩ | ⟨vb, vcap, vcur, h9, h11, _⟩
    · omega
    · injection h9 with e4 e5 e6
      subst e4
      have := (hblk vb (by show (rv (qs.getD i q0) (rows.getD i [])).ownBlock = some vb; rw [← e]; rfl)).2.2
      omega
  refine (ins_any (i := itv (rows.getD i []) x) hr hV hne (Nat.zero_le _) hle (by omega) (u32s_one _) (by intro v hv; simp at hv; subst hv; rfl)).mono ?_
  rintro e w' ⟨A1, c1, rfl, ho, hf, hat⟩
  have hl := insR_len (rows.getD i []) x
  have hu : (u32s (rows.getD i [])).take (itv (rows.getD i []) x) ++ [Value.int .u32 (x : Int)] ++ (u32s (rows.getD i [])).drop (itv (rows.getD i []) x) = u32s (insR (rows.getD i []) x) := by
    simp [insR, u32s, List.map_take, List.map_drop]
  rw [hu] at ho
  refine ⟨(A1, c1), by unfold rv; rw [hl], by unfold rv; rw [hl]; exact ho, (f.mono (fun b e => e.elim)).tr hf, fun k hk => ?_⟩
  unfold rv at hk
  rw [hl] at hk
  rcases hat with e | e
  · exact .inl (by rw [show vbk (rv (qs.getD i q0) (rows.getD i [])) = (rv (qs.getD i q0) (rows.getD i [])).ownBlock from rfl]; unfold rv; rw [← e]; exact hk)
  · rw [show vbk (Value.slice A1 ((rows.getD i []).length + 1) c1) = (Value.slice A1 ((rows.getD i []).length + 1) c1).ownBlock from rfl, e] at hk
    injection hk with hk
    exact .inr (by omega)
def remR (r : List Nat) (j : Nat) : List Nat := r.take j ++ r.drop (j + 1)
theorem remR_len {r : List Nat} {j : Nat} (h : j < r.length) : (remR r j).length = r.length - 1 := by
  unfold remR; rw [List.length_append, List.length_take, List.length_drop]; omega
theorem del_row (h : Sc tS tE P w gs T ct qs rows) {i j : Nat} (hi : i < rows.length) (f : Fr No w w1) (hj : j < (rows.getD i []).length) (hlen : (rows.getD i []).length ≤ 1000) (zj : Int) (hzj : zj = (j : Int) + 1) :
    Calls Try.prog 54 #[rv (qs.getD i q0) (rows.getD i []), .int .i64 (j : Int), .int .i64 zj] w1 fun e w' => ∃ q, e = .returned (rv q (remR (rows.getD i []) j)) ∧ w'.ownsRow 0 47 1 (rv q (remR (rows.getD i []) j)) (remR (rows.getD i []) j).length (u32s (remR (rows.getD i []) j)) ∧ Fr (fun k => vbk (rv (qs.getD i q0) (rows.getD i [])) = some k) w w' ∧ (∀ k, vbk (rv q (remR (rows.getD i []) j)) = some k → vbk (rv (qs.getD i q0) (rows.getD i [])) = some k ∨ w.heap.size ≤ k) := by
  have hr := (Sc.no h f).row i hi
  refine (del_any (i := j) hr hj (by omega) (u32s_one _) zj hzj).mono ?_
  rintro e w' ⟨rfl, ho, hf⟩
  have hl := remR_len hj
  have hu : (u32s (rows.getD i [])).take j ++ (u32s (rows.getD i [])).drop (j + 1) = u32s (remR (rows.getD i []) j) := by
    simp [remR, u32s, List.map_take, List.map_drop]
  rw [hu] at ho
  refine ⟨qs.getD i q0, by unfold rv; rw [hl], by unfold rv; rw [hl]; exact ho, (f.mono (fun b e => e.elim)).tr hf, fun k hk => .inl ?_⟩
  unfold rv at hk ⊢
  rcases hq : (qs.getD i q0).1 with _ | a
  · rw [hq] at hk; cases hk
  · rw [hq] at hk; exact hk
set_option maxRecDepth 8000 in
set_option maxHeartbeats 3200000 in
theorem insert_any (h : Sp P w gs T ct qs rows) (hg : Gd rows) (z : Int) (hx : x < 4294967296) : Calls Try.prog 21 #[.pointer (some ⟨gs, 0, none⟩), .int .i64 z, .int .u32 (x : Int)] w fun en w' => en = .returned (.tuple #[.int .i64 ((insI rows z x : Nat) : Int), .int .i64 ((insE rows z x : Nat) : Int)]) ∧ ScPost 75 78 P w gs (insL rows z x) w' := by
  have H := Lib.hid h
  have HH := Lib.hid (has_any h.sr z)
  have c00 := h.sr.c0
  by_cases hz : 0 ≤ z ∧ z < rows.length
  · have hd : decide (0 ≤ z ∧ z < (rows.length : Int)) = true := decide_eq_true hz
    rw [hd] at HH
    obtain ⟨i, rfl⟩ : ∃ i : Nat, z = (i : Int) := ⟨z.toNat, by omega⟩
    have hi : i < rows.length := by omega
    obtain ⟨gt, hT, c0, c1, fz, n1, n2, n3, k1, k2, hkv, hblk⟩ := Sc.at_ h hi
    subst hT
    have hR := hg.row hi
    have HC := Lib.hid (contains_any (x := x) hkv)
    have HI := Lib.hid (fun W (f : Fr No w W) => interval_any (x := x) (hkv.no f) hR.1 (by omega))
    have hmx : maxLen ≤ 9223372036854775807 := by decide
    have HIR := Lib.hid (fun (W : World) (V : Option Addr) (vc bv : Nat) (f : Fr No w W) (hV : W.ownsRow bv 47 1 (.slice V 1 vc) 1 [.int .u32 (x : Int)]) (hbv : w.heap.size ≤ bv) => ins_row (x := x) h hi f hV hbv hR.2.1)
    have HS := Lib.hid (fun (W : World) (q : Rw) (r : List Nat) (f : Fr (fun k => vbk (rv (qs.getD i q0) (rows.getD i [])) = some k) w W) (ho : W.ownsRow 0 47 1 (rv q r) r.length (u32s r)) (hat : ∀ k, vbk (rv q r) = some k → vbk (rv (qs.getD i q0) (rows.getD i [])) = some k ∨ w.heap.size ≤ k) (hlt : ∀ x ∈ r, x < 4294967296) => ScPost.set h hi rfl f ho hat hlt)
    have Hlt := Lib.hid (show ∀ y ∈ insR (rows.getD i []) x, y < 4294967296 from fun y hy => by
      rcases (mem_insR _ _ _).1 hy with e | e
      · rw [e]; exact hx
      · exact (hR.2.2 y e).2)
    have hl63 : (rows.getD i []).length ≤ 63 := hR.2.1
    have hit : itv (rows.getD i []) x ≤ 63 := Nat.le_trans (itv_le _ _) hl63
    have hE : insE rows (i : Int) x = if 0 < x ∧ x ∉ rows.getD i [] then (if (rows.getD i []).length = 63 then 4 else 0) else 1 := by
      unfold insE
      simp only [Int.toNat_natCast]
      by_cases hc : 0 < x ∧ x ∉ rows.getD i []
      · rw [if_pos hc, if_pos ⟨hz.1, hz.2, hc.1, hc.2⟩]
      · rw [if_neg hc, if_neg (fun e => hc ⟨e.2.2.1, e.2.2.2⟩)]
    have hIl : insI rows (i : Int) x = if insE rows (i : Int) x = 0 then itv (rows.getD i []) x else 0 := by unfold insI; simp only [Int.toNat_natCast]
    have hLl : insL rows (i : Int) x = if insE rows (i : Int) x = 0 then rows.set i (insR (rows.getD i []) x) else rows := by unfold insL; simp only [Int.toNat_natCast]
    clear h hg hz hd hR hkv
    by_cases hx0 : x = 0
    · have e : insE rows (i : Int) x = 1 := by rw [hE, if_neg (fun e => by omega)]
      rw [hIl, hLl, e]
      simp only [Nat.one_ne_zero, if_false]
      subst hx0
      clear e hE hIl hLl
      go_enter Try.func21, Try.ntmps21
      go_wp2_with first
        | (go_at_call 51; ((with_reducible refine HH.out.mono ?_); rintro en w1 ⟨rfl, rfl⟩))
        | fail
      go_ret2
      exact ⟨rfl, ScPost.same H.out (Fr.refl _ _)⟩
    · have hxb : ((x : Int) == 0) = false := by rw [beq_eq_false_iff_ne]; omega
      by_cases hm : x ∈ rows.getD i []
      · have e : insE rows (i : Int) x = 1 := by rw [hE, if_neg (fun e => e.2 hm)]
        rw [hIl, hLl, e]
        simp only [Nat.one_ne_zero, if_false]
        rw [decide_eq_true hm] at HC
        clear e hE hIl hLl hm
        unfold rv at c1
        generalize (rows.getD i []).length = n at *
        generalize (qs.getD i q0).1 = A at *
        generalize (qs.getD i q0).2 = c at *
        go_enter Try.func21, Try.ntmps21
        go_wp2_with first
          | (go_at_call 51; ((with_reducible refine HH.out.mono ?_); rintro en w1 ⟨rfl, rfl⟩))
          | (go_at_call 52; ((with_reducible refine HC.out.mono ?_); rintro en w2 ⟨rfl, rfl⟩))
          | fail
        go_ret2
        exact ⟨rfl, ScPost.same H.out (Fr.refl _ _)⟩
      · rw [decide_eq_false hm] at HC
        by_cases h63 : (rows.getD i []).length = 63
        · have e : insE rows (i : Int) x = 4 := by rw [hE, if_pos ⟨by omega, hm⟩, if_pos h63]
          rw [hIl, hLl, e]
          simp only [show ¬ (4 : Nat) = 0 from by decide, if_false]
          clear e hE hIl hLl hm
          unfold rv at c1
          rw [h63] at c1 HC
          generalize (qs.getD i q0).1 = A at *
          generalize (qs.getD i q0).2 = c at *
          clear h63
          go_enter Try.func21, Try.ntmps21
          go_wp2_with first
            | (go_at_call 51; ((with_reducible refine HH.out.mono ?_); rintro en w1 ⟨rfl, rfl⟩))
            | (go_at_call 52; ((with_reducible refine HC.out.mono ?_); rintro en w2 ⟨rfl, rfl⟩))
            | fail
          go_ret2
          exact ⟨rfl, ScPost.same H.out (Fr.refl _ _)⟩
        · have e : insE rows (i : Int) x = 0 := by rw [hE, if_pos ⟨by omega, hm⟩, if_neg h63]
          rw [hIl, hLl, e]
          simp only [if_true]
          clear e hE hIl hLl hm
          unfold rv at c1
          have HKp := Lib.hid (fun W f => Sc.kept (w1 := W) H.out hi rfl f)
          simp only [rv] at HIR HS HKp
          have hV := own_lit1 w (.int .u32 (x : Int))
          generalize insR (rows.getD i []) x = r2 at *
          generalize itv (rows.getD i []) x = p at *
          generalize (rows.getD i []).length = n at *
          generalize (qs.getD i q0).1 = A at *
          generalize (qs.getD i q0).2 = c at *
          have hn63 : ((n : Int) == 63) = false := by rw [beq_eq_false_iff_ne]; omega
          go_enter Try.func21, Try.ntmps21
          go_wp2_with first
            | (go_at_call 51; ((with_reducible refine HH.out.mono ?_); rintro en w1 ⟨rfl, rfl⟩))
            | (go_at_call 52; ((with_reducible refine HC.out.mono ?_); rintro en w2 ⟨rfl, rfl⟩))
            | (go_at_call 48; ((with_reducible refine (HI.out _ (Fr.refl _ _)).mono ?_); rintro en w3 ⟨rfl, rfl⟩))
            | fail
          (refine wp_region_held_drew (S := fun w' => w'.cell? ⟨gs, 0, none⟩ = some (.slice (some ⟨gt, 0, none⟩) rows.length ct)) (by kernel_rfl) ?_ (fun hHeld => ?_); focus ((try dsimp only); (repeat (first | with_reducible assumption | with_reducible refine cel_alloc ?_ _ | with_reducible refine cel_drew ?_ | with_reducible refine cel_drewN ?_ _ | with_reducible refine cel_set ?_ (by first | (simp; done) | (simp; omega)) _ | with_reducible refine cel_no ?_ (by assumption))); done))
          ((refine wpAnyH_take (i := 0) (v := ?_) rfl (by kernel_rfl) (by kernel_rfl) (by kernel_rfl) (fun _ _ _ h => h) (Or.inl ⟨by rfl, ?_⟩) (by assumption) ?_; rotate_left; focus (intro w hSw; (try dsimp only at hSw); go_simp; (try with_reducible rfl); done)); (try simp only [Act.put, List.setIfInBounds_toArray, List.set_cons_zero, List.set_cons_succ, List.getElem_toArray, List.getElem_cons_zero, List.getElem_cons_succ]); (refine wpAnyH_take (i := 1) (v := ?_) rfl (by kernel_rfl) (by kernel_rfl) (by kernel_rfl) (fun _ _ _ h => h) (Or.inl ⟨by rfl, ?_⟩) (by assumption) ?_; rotate_left; focus (intro w hSw; (try dsimp only at hSw); go_simp; (try with_reducible rfl); done)); (try simp only [Act.put, List.setIfInBounds_toArray, List.set_cons_zero, List.set_cons_succ, List.getElem_toArray, List.getElem_cons_zero, List.getElem_cons_succ]); (refine wpAnyH_take (i := 2) (v := ?_) rfl (by kernel_rfl) (by kernel_rfl) (by kernel_rfl) (fun _ _ _ h => h) (Or.inl ⟨by rfl, ?_⟩) (by assumption) ?_; rotate_left; focus (intro w hSw; (try dsimp only at hSw); go_simp; (try with_reducible rfl); done)); (try simp only [Act.put, List.setIfInBounds_toArray, List.set_cons_zero, List.set_cons_succ, List.getElem_toArray, List.getElem_cons_zero, List.getElem_cons_succ]); (refine wpAnyH_take (i := 3) (v := ?_) rfl (by kernel_rfl) (by kernel_rfl) (by kernel_rfl) (fun _ _ _ h => h) (Or.inl ⟨by rfl, ?_⟩) (by assumption) ?_; rotate_left; focus (intro w hSw; (try dsimp only at hSw); go_simp; (try with_reducible rfl); done)); (try simp only [Act.put, List.setIfInBounds_toArray, List.set_cons_zero, List.set_cons_succ, List.getElem_toArray, List.getElem_cons_zero, List.getElem_cons_succ]); (refine wpAnyH_take (i := 4) (v := ?_) rfl (by kernel_rfl) (by kernel_rfl) (by kernel_rfl) (fun _ _ _ h => h) (Or.inl ⟨by rfl, ?_⟩) (by assumption) ?_; rotate_left; focus (intro w hSw; (try dsimp only at hSw); go_simp; (try with_reducible rfl); done)); (try simp only [Act.put, List.setIfInBounds_toArray, List.set_cons_zero, List.set_cons_succ, List.getElem_toArray, List.getElem_cons_zero, List.getElem_cons_succ]); (refine wpAnyH_take (i := 5) (v := ?_) rfl (by kernel_rfl) (by kernel_rfl) (by kernel_rfl) (fun _ _ _ h => h) (Or.inl ⟨by rfl, ?_⟩) (by assumption) ?_; rotate_left; focus (intro w hSw; (try dsimp only at hSw); go_simp; (try with_reducible rfl); done)); (try simp only [Act.put, List.setIfInBounds_toArray, List.set_cons_zero, List.set_cons_succ, List.getElem_toArray, List.getElem_cons_zero, List.getElem_cons_succ]); (refine wpAnyH_take (i := 6) (v := ?_) rfl (by kernel_rfl) (by kernel_rfl) (by kernel_rfl) (fun _ _ _ h => h) (Or.inl ⟨by rfl, ?_⟩) (by assumption) ?_; rotate_left; focus (intro w hSw; (try dsimp only at hSw); go_simp; (try with_reducible rfl); done)); (try simp only [Act.put, List.setIfInBounds_toArray, List.set_cons_zero, List.set_cons_succ, List.getElem_toArray, List.getElem_cons_zero, List.getElem_cons_succ]); (refine wpAnyH_take (i := 7) (v := ?_) rfl (by kernel_rfl) (by kernel_rfl) (by kernel_rfl) (fun _ _ _ h => h) (Or.inl ⟨by rfl, ?_⟩) (by assumption) ?_; rotate_left; focus (intro w hSw; (try dsimp only at hSw); go_simp; (try with_reducible rfl); done)); (try simp only [Act.put, List.setIfInBounds_toArray, List.set_cons_zero, List.set_cons_succ, List.getElem_toArray, List.getElem_cons_zero, List.getElem_cons_succ]); (refine wpAnyH_take (i := 8) (v := ?_) rfl (by kernel_rfl) (by kernel_rfl) (by kernel_rfl) (fun _ _ _ h => h) (Or.inl ⟨by rfl, ?_⟩) (by assumption) ?_; rotate_left; focus (intro w hSw; (try dsimp only at hSw); go_simp; (try with_reducible rfl); done)); (try simp only [Act.put, List.setIfInBounds_toArray, List.set_cons_zero, List.set_cons_succ, List.getElem_toArray, List.getElem_cons_zero, List.getElem_cons_succ]); (refine wpAnyH_take (i := 9) (v := ?_) rfl (by kernel_rfl) (by kernel_rfl) (by kernel_rfl) (fun _ _ _ h => h) (Or.inl ⟨by rfl, ?_⟩) (by assumption) ?_; rotate_left; focus (intro w hSw; (try dsimp only at hSw); go_simp; (try with_reducible rfl); done)); (try simp only [Act.put, List.setIfInBounds_toArray, List.set_cons_zero, List.set_cons_succ, List.getElem_toArray, List.getElem_cons_zero, List.getElem_cons_succ]); (refine wpAnyH_take (i := 10) (v := ?_) rfl (by kernel_rfl) (by kernel_rfl) (by kernel_rfl) (fun _ _ _ h => h) (Or.inl ⟨by rfl, ?_⟩) (by assumption) ?_; rotate_left; focus (intro w hSw; (try dsimp only at hSw); go_simp; (try with_reducible rfl); done)); (try simp only [Act.put, List.setIfInBounds_toArray, List.set_cons_zero, List.set_cons_succ, List.getElem_toArray, List.getElem_cons_zero, List.getElem_cons_succ]); (refine wpAnyH_take (i := 12) (v := ?_) rfl (by kernel_rfl) (by kernel_rfl) (by kernel_rfl) (fun _ _ _ h => h) (Or.inl ⟨by rfl, ?_⟩) (by assumption) ?_; rotate_left; focus (intro w hSw; (try dsimp only at hSw); go_simp; (try with_reducible rfl); done)); (try simp only [Act.put, List.setIfInBounds_toArray, List.set_cons_zero, List.set_cons_succ, List.getElem_toArray, List.getElem_cons_zero, List.getElem_cons_succ]); (refine wpAnyH_take (i := 13) (v := ?_) rfl (by kernel_rfl) (by kernel_rfl) (by kernel_rfl) (fun _ _ _ h => h) (Or.inl ⟨by rfl, ?_⟩) (by assumption) ?_; rotate_left; focus (intro w hSw; (try dsimp only at hSw); go_simp; (try with_reducible rfl); done)); (try simp only [Act.put, List.setIfInBounds_toArray, List.set_cons_zero, List.set_cons_succ, List.getElem_toArray, List.getElem_cons_zero, List.getElem_cons_succ]))
          (refine wpAnyH_ready (rs := [11, 14]) (by kernel_rfl) (by simp) ?_; refine AllReadyH.cons rfl (fun K hK => ?_) (AllReadyH.cons rfl (fun K hK => ?_) AllReadyH.nil))
          ((try simp only [Act.put, List.setIfInBounds_toArray, List.set_cons_zero, List.set_cons_succ, List.getElem_toArray, List.getElem_cons_zero, List.getElem_cons_succ]); go_simp; refine hK.out _ _ ?_ (fun hHeld => ?_); focus ((try dsimp only); (repeat (first | with_reducible assumption | with_reducible refine cel_alloc ?_ _ | with_reducible refine cel_drew ?_ | with_reducible refine cel_drewN ?_ _ | with_reducible refine cel_set ?_ (by first | (simp; done) | (simp; omega)) _ | with_reducible refine cel_no ?_ (by assumption))); done)); (clear hK K); (try simp only [Act.put, List.setIfInBounds_toArray, List.set_cons_zero, List.set_cons_succ, List.getElem_toArray, List.getElem_cons_zero, List.getElem_cons_succ])
          · (refine wpAnyH_ready (rs := [14]) (by kernel_rfl) (by simp) ?_; refine AllReadyH.cons rfl (fun K hK => ?_) AllReadyH.nil; (try simp only [Act.put, List.setIfInBounds_toArray, List.set_cons_zero, List.set_cons_succ, List.getElem_toArray, List.getElem_cons_zero, List.getElem_cons_succ]); go_simp; refine hK.out _ _ ?_ (fun hHeld => ?_); focus ((try dsimp only); (repeat (first | with_reducible assumption | with_reducible refine cel_alloc ?_ _ | with_reducible refine cel_drew ?_ | with_reducible refine cel_drewN ?_ _ | with_reducible refine cel_set ?_ (by first | (simp; done) | (simp; omega)) _ | with_reducible refine cel_no ?_ (by assumption))); done)); (clear hK K); (try simp only [Act.put, List.setIfInBounds_toArray, List.set_cons_zero, List.set_cons_succ, List.getElem_toArray, List.getElem_cons_zero, List.getElem_cons_succ]); (refine wpAnyH_ready (rs := [15]) (by kernel_rfl) (by simp) ?_; refine AllReadyH.cons rfl (fun K hK => ?_) AllReadyH.nil; (try simp only [Act.put, List.setIfInBounds_toArray, List.set_cons_zero, List.set_cons_succ, List.getElem_toArray, List.getElem_cons_zero, List.getElem_cons_succ]); go_simp; (go_at_call 53; ((with_reducible refine (HIR.out _ _ _ w.heap.size (show Fr No w _ by (repeat (first | with_reducible exact Fr.refl _ _ | with_reducible refine Fr.setCell ?_ (.inr (by first | (simp; done) | (simp; omega))) _ | with_reducible refine Fr.alloc ?_ _ | with_reducible refine Fr.drew ?_ | with_reducible refine Fr.drewN ?_ _ | with_reducible refine Fr.tr ?_ (by assumption)))) hV (Nat.le_refl _)).mono ?_); rintro en w8 ⟨q8, rfl, ho8, hf8, hat8⟩; (obtain ⟨y0, y1, y2⟩ := HKp.out w8 hf8))); (try go_wp2_with fail); refine hK.out _ _ ?_ (fun hHeld => ?_); focus ((try dsimp only); (repeat (first | with_reducible assumption | with_reducible refine cel_alloc ?_ _ | with_reducible refine cel_drew ?_ | with_reducible refine cel_drewN ?_ _ | with_reducible refine cel_set ?_ (by first | (simp; done) | (simp; omega)) _ | with_reducible refine cel_no ?_ (by assumption))); done)); (clear hK K); (try simp only [Act.put, List.setIfInBounds_toArray, List.set_cons_zero, List.set_cons_succ, List.getElem_toArray, List.getElem_cons_zero, List.getElem_cons_succ]); (refine wpAnyH_take (i := 16) (v := ?_) rfl (by kernel_rfl) (by kernel_rfl) (by kernel_rfl) (fun _ _ _ h => h) (Or.inl ⟨by rfl, ?_⟩) (by assumption) ?_; rotate_left; focus (intro w hSw; (try dsimp only at hSw); go_simp; (try with_reducible rfl); done)); (try simp only [Act.put, List.setIfInBounds_toArray, List.set_cons_zero, List.set_cons_succ, List.getElem_toArray, List.getElem_cons_zero, List.getElem_cons_succ]); (refine wpAnyH_ready (rs := [17]) (by kernel_rfl) (by simp) ?_; refine AllReadyH.cons rfl (fun K hK => ?_) AllReadyH.nil; (try simp only [Act.put, List.setIfInBounds_toArray, List.set_cons_zero, List.set_cons_succ, List.getElem_toArray, List.getElem_cons_zero, List.getElem_cons_succ]); go_simp; refine hK.out _ _ ?_ (fun hHeld => ?_); focus ((try dsimp only); (repeat (first | with_reducible assumption | with_reducible refine cel_alloc ?_ _ | with_reducible refine cel_drew ?_ | with_reducible refine cel_drewN ?_ _ | with_reducible refine cel_set ?_ (by first | (simp; done) | (simp; omega)) _ | with_reducible refine cel_no ?_ (by assumption))); done)); (clear hK K); (try simp only [Act.put, List.setIfInBounds_toArray, List.set_cons_zero, List.set_cons_succ, List.getElem_toArray, List.getElem_cons_zero, List.getElem_cons_succ]); (refine wpAnyH_done (by kernel_rfl) ?_ _); (try go_wp2); go_ret2; exact ⟨rfl, HS.out w8 q8 r2 hf8 ho8 hat8 Hlt.out⟩
          ((try simp only [Act.put, List.setIfInBounds_toArray, List.set_cons_zero, List.set_cons_succ, List.getElem_toArray, List.getElem_cons_zero, List.getElem_cons_succ]); go_simp; refine hK.out _ _ ?_ (fun hHeld => ?_); focus ((try dsimp only); (repeat (first | with_reducible assumption | with_reducible refine cel_alloc ?_ _ | with_reducible refine cel_drew ?_ | with_reducible refine cel_drewN ?_ _ | with_reducible refine cel_set ?_ (by first | (simp; done) | (simp; omega)) _ | with_reducible refine cel_no ?_ (by assumption))); done)); (clear hK K); (try simp only [Act.put, List.setIfInBounds_toArray, List.set_cons_zero, List.set_cons_succ, List.getElem_toArray, List.getElem_cons_zero, List.getElem_cons_succ])
          · (refine wpAnyH_ready (rs := [11]) (by kernel_rfl) (by simp) ?_; refine AllReadyH.cons rfl (fun K hK => ?_) AllReadyH.nil; (try simp only [Act.put, List.setIfInBounds_toArray, List.set_cons_zero, List.set_cons_succ, List.getElem_toArray, List.getElem_cons_zero, List.getElem_cons_succ]); go_simp; refine hK.out _ _ ?_ (fun hHeld => ?_); focus ((try dsimp only); (repeat (first | with_reducible assumption | with_reducible refine cel_alloc ?_ _ | with_reducible refine cel_drew ?_ | with_reducible refine cel_drewN ?_ _ | with_reducible refine cel_set ?_ (by first | (simp; done) | (simp; omega)) _ | with_reducible refine cel_no ?_ (by assumption))); done)); (clear hK K); (try simp only [Act.put, List.setIfInBounds_toArray, List.set_cons_zero, List.set_cons_succ, List.getElem_toArray, List.getElem_cons_zero, List.getElem_cons_succ]); (refine wpAnyH_ready (rs := [15]) (by kernel_rfl) (by simp) ?_; refine AllReadyH.cons rfl (fun K hK => ?_) AllReadyH.nil; (try simp only [Act.put, List.setIfInBounds_toArray, List.set_cons_zero, List.set_cons_succ, List.getElem_toArray, List.getElem_cons_zero, List.getElem_cons_succ]); go_simp; (go_at_call 53; ((with_reducible refine (HIR.out _ _ _ w.heap.size (show Fr No w _ by (repeat (first | with_reducible exact Fr.refl _ _ | with_reducible refine Fr.setCell ?_ (.inr (by first | (simp; done) | (simp; omega))) _ | with_reducible refine Fr.alloc ?_ _ | with_reducible refine Fr.drew ?_ | with_reducible refine Fr.drewN ?_ _ | with_reducible refine Fr.tr ?_ (by assumption)))) hV (Nat.le_refl _)).mono ?_); rintro en w8 ⟨q8, rfl, ho8, hf8, hat8⟩; (obtain ⟨y0, y1, y2⟩ := HKp.out w8 hf8))); (try go_wp2_with fail); refine hK.out _ _ ?_ (fun hHeld => ?_); focus ((try dsimp only); (repeat (first | with_reducible assumption | with_reducible refine cel_alloc ?_ _ | with_reducible refine cel_drew ?_ | with_reducible refine cel_drewN ?_ _ | with_reducible refine cel_set ?_ (by first | (simp; done) | (simp; omega)) _ | with_reducible refine cel_no ?_ (by assumption))); done)); (clear hK K); (try simp only [Act.put, List.setIfInBounds_toArray, List.set_cons_zero, List.set_cons_succ, List.getElem_toArray, List.getElem_cons_zero, List.getElem_cons_succ]); (refine wpAnyH_take (i := 16) (v := ?_) rfl (by kernel_rfl) (by kernel_rfl) (by kernel_rfl) (fun _ _ _ h => h) (Or.inl ⟨by rfl, ?_⟩) (by assumption) ?_; rotate_left; focus (intro w hSw; (try dsimp only at hSw); go_simp; (try with_reducible rfl); done)); (try simp only [Act.put, List.setIfInBounds_toArray, List.set_cons_zero, List.set_cons_succ, List.getElem_toArray, List.getElem_cons_zero, List.getElem_cons_succ]); (refine wpAnyH_ready (rs := [17]) (by kernel_rfl) (by simp) ?_; refine AllReadyH.cons rfl (fun K hK => ?_) AllReadyH.nil; (try simp only [Act.put, List.setIfInBounds_toArray, List.set_cons_zero, List.set_cons_succ, List.getElem_toArray, List.getElem_cons_zero, List.getElem_cons_succ]); go_simp; refine hK.out _ _ ?_ (fun hHeld => ?_); focus ((try dsimp only); (repeat (first | with_reducible assumption | with_reducible refine cel_alloc ?_ _ | with_reducible refine cel_drew ?_ | with_reducible refine cel_drewN ?_ _ | with_reducible refine cel_set ?_ (by first | (simp; done) | (simp; omega)) _ | with_reducible refine cel_no ?_ (by assumption))); done)); (clear hK K); (try simp only [Act.put, List.setIfInBounds_toArray, List.set_cons_zero, List.set_cons_succ, List.getElem_toArray, List.getElem_cons_zero, List.getElem_cons_succ]); (refine wpAnyH_done (by kernel_rfl) ?_ _); (try go_wp2); go_ret2; exact ⟨rfl, HS.out w8 q8 r2 hf8 ho8 hat8 Hlt.out⟩
  · have e : insE rows z x = 1 := by unfold insE; rw [if_neg (fun e => hz ⟨e.1, e.2.1⟩)]
    have hd : decide (0 ≤ z ∧ z < (rows.length : Int)) = false := decide_eq_false hz
    rw [hd] at HH
    unfold insI insL
    rw [e]
    simp only [Nat.one_ne_zero, if_false]
    clear h e hd hg
    go_enter Try.func21, Try.ntmps21
    go_wp2_with first
      | (go_at_call 51; ((with_reducible refine HH.out.mono ?_); rintro en w1 ⟨rfl, rfl⟩))
      | fail
    go_ret2
    exact ⟨rfl, ScPost.same H.out (Fr.refl _ _)⟩
end
end Go.Proofs.Ytifpigcgkpmheaa.Sd12
