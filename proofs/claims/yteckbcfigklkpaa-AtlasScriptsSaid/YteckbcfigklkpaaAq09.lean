/- Layer 9: a record taken out of the document's; one got; the records of a window. -/
import Derived.Test.YteckbcfigklkpaaAp09
import Derived.StillTailTactics
namespace Go.Proofs.Yteckbcfigklkpaa.Aq09
open Go.RowKit Go.Proofs.Yteckbcfigklkpaa.Pk08 Go.Proofs.Yteckbcfigklkpaa.Base Go.Proofs.Yteckbcfigklkpaa.App Go.Proofs.Yteckbcfigklkpaa.Str Go.Proofs.Yteckbcfigklkpaa.Ky Go.Proofs.Yteckbcfigklkpaa.Bx Go.Proofs.Yteckbcfigklkpaa.Bo Go.Proofs.Yteckbcfigklkpaa.As Go.Proofs.Yteckbcfigklkpaa.Pl08 Go.Proofs.Yteckbcfigklkpaa.Kc08 Go.Proofs.Yteckbcfigklkpaa.Kd08 Go.Proofs.Yteckbcfigklkpaa.Kh08 Go.Proofs.Yteckbcfigklkpaa.Rv Go.Proofs.Yteckbcfigklkpaa.Ra Go.Proofs.Yteckbcfigklkpaa.Rp Go.Proofs.Yteckbcfigklkpaa.Ro Go.Proofs.Yteckbcfigklkpaa.Rk Go.Proofs.Yteckbcfigklkpaa.Rt Go.Proofs.Yteckbcfigklkpaa.Ab09 Go.Proofs.Yteckbcfigklkpaa.Ac09 Go.Proofs.Yteckbcfigklkpaa.Ad09 Go.Proofs.Yteckbcfigklkpaa.Ae09 Go.Proofs.Yteckbcfigklkpaa.Af09 Go.Proofs.Yteckbcfigklkpaa.An09 Go.Proofs.Yteckbcfigklkpaa.Ao09 Go.Proofs.Yteckbcfigklkpaa.Ap09
set_option linter.unusedVariables false
set_option linter.unusedSimpArgs false
attribute [local go_sem ↓ high] builtin_app
def ddel (ls : List Rv.Rec) (k : List Nat) : List Rv.Rec := if fnd ls k < ls.length then ls.take (fnd ls k) ++ ls.drop (fnd ls k + 1) else ls
def delE (ls : List Rv.Rec) (d : Int) (k : List Nat) : Nat := if chk k.length d = 0 then (if fnd ls k < ls.length then 0 else 5) else 1
section
variable {K : Nat → Prop} {w w1 : World} {gk : Nat} {d : Int} {A B : Option Addr} {n c m e : Nat} {ls : List Rv.Rec} {k ks : List Nat} {s : ByteArray}
theorem ddel_ok (h : ∀ r ∈ ls, recC r.1.length r.2 d = 0) (hl : ls.length ≤ 1000) : (∀ r ∈ ddel ls k, recC r.1.length r.2 d = 0) ∧ (ddel ls k).length ≤ 1000 := by
  unfold ddel
  split
  · refine ⟨fun x hx => ?_, by rw [List.length_append, List.length_take, List.length_drop]; omega⟩
    rcases List.mem_append.1 hx with h1 | h1
    · exact h x (List.mem_of_mem_take h1)
    · exact h x (List.mem_of_mem_drop h1)
  · exact ⟨h, hl⟩
set_option maxRecDepth 8000 in
set_option maxHeartbeats 3200000 in
theorem rdel_any (h : Dt w K gk d A n c ls) (hk : Kv w B m e k) : Calls Try.prog 19 #[.pointer (some ⟨gk, 0, none⟩), .slice B m e] w (DPost w K gk d A n c (if delE ls d k = 0 then ddel ls k else ls) (delE ls d k : Nat)) := by
  obtain rfl : m = k.length := hk.len
  obtain ⟨c0, c1⟩ := h.cells
  have hga := h.ob.lt
  have H := Lib.hid h
  have hn1 : n ≤ 1000 := by have := h.len; have := h.le; omega
  rcases chk_rng k.length d with hc | hc
  · have Hc := Lib.hid hc
    by_cases hfi : fnd ls k < ls.length
    · have e : delE ls d k = 0 := by unfold delE; rw [if_pos hc, if_pos hfi]
      rw [if_pos e, e]
      have hin : fnd ls k < n := by rw [h.len]; exact hfi
      have HF := Lib.hid (rfind_any h hk)
      rw [if_pos hin] at HF
      have HC := Lib.hid (ddel_ok (k := k) h.ok h.le)
      have Hp := Lib.hid (show ddel ls k = ls.take (fnd ls k) ++ ls.drop (fnd ls k + 1) by unfold ddel; rw [if_pos hfi])
      obtain ⟨g, KA, kc, hA, _, a0, a1, f0, f1, _, _⟩ := h.ow.cells (fnd ls k) hin
      subst hA
      have hcap := own_cap h.ow.choose_spec.2.1
      have hcn := hcap.1
      have hcm := hcap.2
      have hmx : maxLen ≤ 9223372036854775807 := by decide
      clear h hk hc hfi e a0 a1 f0 f1 hcap
      generalize ddel ls k = out at *
      generalize fnd ls k = i at *
      go_enter Try.func19, Try.ntmps19
      go_wp2_with first
        | (go_at_call 37; ((with_reducible refine (rcheck_any _ _ _ _ _).mono ?_); rintro en w5 ⟨rfl, rfl⟩; rw [Hc.out]))
        | (go_at_call 41; ((with_reducible refine HF.out.mono ?_); rintro en w6 ⟨rfl, hf6⟩; (have d1 := cel_no c1 hf6); (obtain ⟨A1, cA1, wa, hruna, hOa, hfa⟩ := ins_firstQ (A' := some ⟨g, 0, none⟩) (c2 := c) (p := i) (H.out.no hf6).ow (by omega) (by omega) (fun _ b off e => e)); (have d2 := cel_no d1 hfa); (obtain ⟨A4, hA4⟩ : ∃ A4 : Option Addr, (if c = i + 1 then (some ⟨g, 0, none⟩ : Option Addr) else some ⟨g, (i + 1) * 2, none⟩) = A4 := ⟨_, rfl⟩); (obtain ⟨A3, c3, wc, hrunc, hOc, hfc⟩ := ins_lastQ (A' := A4) (c' := (c - (i + 1))) (p := (i + 1)) (H.out.no hf6).ow (by omega) (by omega) (by omega) hOa hfa (fun h b off e => by injection e with e; injection e with e1 e2; subst e1; subst e2; rw [← hA4, if_neg (by omega)]; simp)); (have hbc := (H.out.ob.no (hf6.tr hfc))); (have g1 := hbc.cell 1 rfl); (have g2 := hbc.frozen 1); (have HOc := Lib.hid hOc); (clear hOc hOa)))
        | fail
      go_ret
      exact rput_end H.out (by rw [Hp.out]; exact (HOc.out.base_ (Nat.zero_le _)).mono (fun b hb => .inl hb)) hbc ((hf6.tr hfc).mono (fun b e => e.elim)) (fun k hk => .inr (Nat.le_trans hf6.size (HOc.out.blk k hk).1)) HC.out hga
    · have e : delE ls d k = 5 := by unfold delE; rw [if_pos hc, if_neg hfi]
      rw [if_neg (by rw [e]; decide), e]
      have HF := Lib.hid (rfind_any h hk)
      rw [if_neg (by rw [h.len]; exact hfi)] at HF
      clear h hk hc hfi e
      go_enter Try.func19, Try.ntmps19
      go_wp2_with first
        | (go_at_call 37; ((with_reducible refine (rcheck_any _ _ _ _ _).mono ?_); rintro en w5 ⟨rfl, rfl⟩; rw [Hc.out]))
        | (go_at_call 41; ((with_reducible refine HF.out.mono ?_); rintro en w6 ⟨rfl, hf6⟩))
        | fail
      go_ret
      exact ⟨rfl, ⟨K, A, n, c, H.out.no hf6, fun b hb => .inl hb, fun k hk => .inl hk⟩, hf6.mono (fun b e => e.elim)⟩
  · have e : delE ls d k = 1 := by unfold delE; rw [if_neg (by rw [hc]; decide)]
    rw [if_neg (by rw [e]; decide), e]
    have Hc := Lib.hid hc
    clear h hk hc e
    go_enter Try.func19, Try.ntmps19
    go_wp2_with first
      | (go_at_call 37; ((with_reducible refine (rcheck_any _ _ _ _ _).mono ?_); rintro en w5 ⟨rfl, rfl⟩; rw [Hc.out]))
      | fail
    go_ret
    exact ⟨rfl, ⟨K, A, n, c, H.out, fun b hb => .inl hb, fun k hk => .inl hk⟩, Fr.refl _ _⟩
def rgetS (ls : List Rv.Rec) (d : Int) (k : List Nat) : ByteArray := if delE ls d k = 0 then (ls.getD (fnd ls k) rec0).2 else { data := #[] }
set_option maxHeartbeats 1600000 in
theorem rget_any (h : Dt w K gk d A n c ls) (hk : Kv w B m e k) : Calls Try.prog 21 #[.pointer (some ⟨gk, 0, none⟩), .slice B m e] w fun en w' => en = .returned (.tuple #[.string (rgetS ls d k), .int .i64 ((delE ls d k : Nat) : Int)]) ∧ Fr No w w' := by
  obtain rfl : m = k.length := hk.len
  obtain ⟨c0, c1⟩ := h.cells
  have hn1 : n ≤ 1000 := by have := h.len; have := h.le; omega
  rcases chk_rng k.length d with hc | hc
  · have Hc := Lib.hid hc
    by_cases hfi : fnd ls k < ls.length
    · have e : delE ls d k = 0 := by unfold delE; rw [if_pos hc, if_pos hfi]
      have e2 : rgetS ls d k = (ls.getD (fnd ls k) rec0).2 := by unfold rgetS; rw [if_pos e]
      rw [e2, e]
      have hin : fnd ls k < n := by rw [h.len]; exact hfi
      have HF := Lib.hid (rfind_any h hk)
      rw [if_pos hin] at HF
      obtain ⟨g, KA, kc, hA, _, a0, a1, f0, f1, _, _⟩ := h.ow.cells (fnd ls k) hin
      subst hA
      have hcap := own_cap h.ow.choose_spec.2.1
      clear h hk hc hfi e e2 a0 f0 f1
      generalize fnd ls k = i at *
      generalize ls.getD i rec0 = r0 at *
      go_enter Try.func21, Try.ntmps21
      go_wp2_with first
        | (go_at_call 37; ((with_reducible refine (rcheck_any _ _ _ _ _).mono ?_); rintro en w5 ⟨rfl, rfl⟩; rw [Hc.out]))
        | (go_at_call 41; ((with_reducible refine HF.out.mono ?_); rintro en w6 ⟨rfl, hf6⟩; (have d1 := cel_no c1 hf6); (have d2 := cel_no a1 hf6)))
        | fail
      go_ret2
      exact ⟨rfl, hf6⟩
    · have e : delE ls d k = 5 := by unfold delE; rw [if_pos hc, if_neg hfi]
      have e2 : rgetS ls d k = { data := #[] } := by unfold rgetS; rw [if_neg (by rw [e]; decide)]
      rw [e2, e]
      have HF := Lib.hid (rfind_any h hk)
      rw [if_neg (by rw [h.len]; exact hfi)] at HF
      clear h hk hc hfi e e2
      go_enter Try.func21, Try.ntmps21
      go_wp2_with first
        | (go_at_call 37; ((with_reducible refine (rcheck_any _ _ _ _ _).mono ?_); rintro en w5 ⟨rfl, rfl⟩; rw [Hc.out]))
        | (go_at_call 41; ((with_reducible refine HF.out.mono ?_); rintro en w6 ⟨rfl, hf6⟩))
        | fail
      go_ret2
      exact ⟨rfl, hf6⟩
  · have e : delE ls d k = 1 := by unfold delE; rw [if_neg (by rw [hc]; decide)]
    have e2 : rgetS ls d k = { data := #[] } := by unfold rgetS; rw [if_neg (by rw [e]; decide)]
    rw [e2, e]
    have Hc := Lib.hid hc
    clear h hk hc e e2
    go_enter Try.func21, Try.ntmps21
    go_wp2_with first
      | (go_at_call 37; ((with_reducible refine (rcheck_any _ _ _ _ _).mono ?_); rintro en w5 ⟨rfl, rfl⟩; rw [Hc.out]))
      | fail
    go_ret2
    exact ⟨rfl, Fr.refl _ _⟩
theorem Ow.pk {P : Nat → Prop} {base i : Nat} {t : TypeId} (h : Ow w base t P A n c ls) (hi : i < n) : ∃ g KA kc, A = some ⟨g, 0, none⟩ ∧ w.cell? ⟨g, i * 2, none⟩ = some (.slice KA (ls.getD i rec0).1.length kc) ∧ w.cell? ⟨g, i * 2 + 1, none⟩ = some (.string (ls.getD i rec0).2) ∧ Pk w P (KA, kc, ls.getD i rec0) := by
  have hl := h.len
  obtain ⟨ps, rfl, h2, h3⟩ := h
  rw [recs_len] at hl
  rcases h2.2 with ⟨h4, h5⟩ | ⟨g, cap, cur, h4, hg, _⟩
  · omega
  · injection h4 with h4
    subst h4
    have ep : ps.getD i pr0 = ps[i]'(by omega) := by simp [List.getD_eq_getElem?_getD, show i < ps.length by omega]
    obtain ⟨c1, c2⟩ := rcells_get ps i (by omega)
    have hp := h3 _ (List.getElem_mem (show i < ps.length by omega))
    rw [recs_get]
    refine ⟨g, (ps.getD i pr0).1, (ps.getD i pr0).2.1, rfl, ?_, ?_, by rw [ep]; exact hp.mono (fun b hb => hb.1)⟩
    · rw [h2.cellAt _ (by omega), c1]
    · rw [h2.cellAt _ (by omega), c2]
set_option maxRecDepth 8000 in
set_option maxHeartbeats 3200000 in
theorem rwindow_any {L H : Option Addr} {ln lc hn hc : Nat} {lo hi : List Nat} (h : Dt w K gk d A n c ls) (hl : Kv w L ln lc lo) (hh : Kv w H hn hc hi) :
    Calls Try.prog 23 #[.pointer (some ⟨gk, 0, none⟩), .agg #[.slice L ln lc, .slice H hn hc]] w fun en w' => ∃ A1 n1 c1, en = .returned (.tuple #[.slice A1 n1 c1, .int .i64 (chkB lo hi d)]) ∧ Ow w' w.heap.size 33 (fun b => w.heap.size ≤ b) A1 n1 c1 (winL (sorted ls) lo hi d) ∧ Fr No w w' := by
  obtain ⟨c0, c1⟩ := h.cells
  have hga := h.ob.lt
  have HA := Lib.hid h
  have Hl := Lib.hid hl
  have Hh := Lib.hid hh
  have hrl : (sorted ls).length ≤ 1000 := by rw [sorted_len]; exact h.le
  clear h hl hh
  rcases chkB_rng lo hi d with hb | hb
  · have e : winL (sorted ls) lo hi d = (sorted ls).filter (keep lo hi) := by rw [winL, if_pos hb]
    rw [e, hb]
    have Hb := Lib.hid hb
    have HALL := Lib.hid (fun W (f : Fr No w W) => rall_any (HA.out.no f))
    clear hb e
    generalize sorted ls = rs at *
    go_enter Try.func23, Try.ntmps23
    go_wp2
    (refine wp_region_held_drew (S := fun w' => (w'.cell? ⟨w.heap.size, 0, none⟩ = some (.slice L ln lc) ∧ w'.cell? ⟨w.heap.size, 1, none⟩ = some (.slice H hn hc)) ∧ w'.cell? ⟨gk, 0, none⟩ = some (.int .i64 d)) (by kernel_rfl) ?_ (fun hHeld => ?_); focus ((try dsimp only); (refine ⟨cells2 (t := 35) ?_, ?_⟩; (repeat (first | with_reducible assumption | with_reducible refine Ob.other ?_ (by first | (simp; done) | (simp; omega)) _ | ((with_reducible refine Ob.new_ _ _ _ _ ?_) <;> (simp; done)) | with_reducible refine Ob.alloc ?_ _ | with_reducible refine Ob.drew ?_ | with_reducible refine Ob.drewN ?_ _ | with_reducible refine Ob.no ?_ (by assumption))); (repeat (first | with_reducible assumption | with_reducible refine cel_alloc ?_ _ | with_reducible refine cel_drew ?_ | with_reducible refine cel_drewN ?_ _ | with_reducible refine cel_set ?_ (by first | (simp; done) | (simp; omega)) _ | with_reducible refine cel_no ?_ (by assumption)))); done))
    ((refine wpAnyH_take (i := 0) (v := ?_) rfl (by kernel_rfl) (by kernel_rfl) (by kernel_rfl) (fun _ _ _ h => h) (Or.inl ⟨by rfl, ?_⟩) (by assumption) ?_; rotate_left; focus (intro w hSw; (try dsimp only at hSw); go_simp; (try with_reducible rfl); done)); (try simp only [Act.put, List.setIfInBounds_toArray, List.set_cons_zero, List.set_cons_succ, List.getElem_toArray, List.getElem_cons_zero, List.getElem_cons_succ]); (refine wpAnyH_take (i := 1) (v := ?_) rfl (by kernel_rfl) (by kernel_rfl) (by kernel_rfl) (fun _ _ _ h => h) (Or.inl ⟨by rfl, ?_⟩) (by assumption) ?_; rotate_left; focus (intro w hSw; (try dsimp only at hSw); go_simp; (try with_reducible rfl); done)); (try simp only [Act.put, List.setIfInBounds_toArray, List.set_cons_zero, List.set_cons_succ, List.getElem_toArray, List.getElem_cons_zero, List.getElem_cons_succ]); (refine wpAnyH_take (i := 2) (v := ?_) rfl (by kernel_rfl) (by kernel_rfl) (by kernel_rfl) (fun _ _ _ h => h) (Or.inl ⟨by rfl, ?_⟩) (by assumption) ?_; rotate_left; focus (intro w hSw; (try dsimp only at hSw); go_simp; (try with_reducible rfl); done)); (try simp only [Act.put, List.setIfInBounds_toArray, List.set_cons_zero, List.set_cons_succ, List.getElem_toArray, List.getElem_cons_zero, List.getElem_cons_succ]); (refine wpAnyH_take (i := 3) (v := ?_) rfl (by kernel_rfl) (by kernel_rfl) (by kernel_rfl) (fun _ _ _ h => h) (Or.inl ⟨by rfl, ?_⟩) (by assumption) ?_; rotate_left; focus (intro w hSw; (try dsimp only at hSw); go_simp; (try with_reducible rfl); done)); (try simp only [Act.put, List.setIfInBounds_toArray, List.set_cons_zero, List.set_cons_succ, List.getElem_toArray, List.getElem_cons_zero, List.getElem_cons_succ]); (refine wpAnyH_take (i := 4) (v := ?_) rfl (by kernel_rfl) (by kernel_rfl) (by kernel_rfl) (fun _ _ _ h => h) (Or.inl ⟨by rfl, ?_⟩) (by assumption) ?_; rotate_left; focus (intro w hSw; (try dsimp only at hSw); go_simp; (try with_reducible rfl); done)); (try simp only [Act.put, List.setIfInBounds_toArray, List.set_cons_zero, List.set_cons_succ, List.getElem_toArray, List.getElem_cons_zero, List.getElem_cons_succ]))
    (refine wpAnyH_ready (rs := [5]) (by kernel_rfl) (by simp) ?_; refine AllReadyH.cons rfl (fun K hK => ?_) AllReadyH.nil; (try simp only [Act.put, List.setIfInBounds_toArray, List.set_cons_zero, List.set_cons_succ, List.getElem_toArray, List.getElem_cons_zero, List.getElem_cons_succ]); go_simp; (go_at_call 29; ((with_reducible refine (rcheckBox_any (lo := lo) (hi := hi) _ ?_ ?_).mono ?_); (focus ((have hk := Hl.out); (repeat (first | with_reducible assumption | ((with_reducible refine Kv.lit_new _ _ _ _ _ _ ?_ ?_ ?_ ?_) <;> (first | (simp; done) | rfl | decide)) | with_reducible exact Kv.none_ _ | with_reducible refine Kv.alloc ?_ _ | with_reducible refine Kv.drew ?_ | with_reducible refine Kv.drewN ?_ _ | with_reducible refine Kv.no ?_ (by assumption))))); (focus ((have hk := Hh.out); (repeat (first | with_reducible assumption | ((with_reducible refine Kv.lit_new _ _ _ _ _ _ ?_ ?_ ?_ ?_) <;> (first | (simp; done) | rfl | decide)) | with_reducible exact Kv.none_ _ | with_reducible refine Kv.alloc ?_ _ | with_reducible refine Kv.drew ?_ | with_reducible refine Kv.drewN ?_ _ | with_reducible refine Kv.no ?_ (by assumption))))); rintro en w5 ⟨rfl, hf5⟩; rw [Hb.out])); (try go_wp2_with fail); refine hK.out _ _ ?_ (fun hHeld => ?_); focus ((try dsimp only); (refine ⟨cells2 (t := 35) ?_, ?_⟩; (repeat (first | with_reducible assumption | with_reducible refine Ob.other ?_ (by first | (simp; done) | (simp; omega)) _ | ((with_reducible refine Ob.new_ _ _ _ _ ?_) <;> (simp; done)) | with_reducible refine Ob.alloc ?_ _ | with_reducible refine Ob.drew ?_ | with_reducible refine Ob.drewN ?_ _ | with_reducible refine Ob.no ?_ (by assumption))); (repeat (first | with_reducible assumption | with_reducible refine cel_alloc ?_ _ | with_reducible refine cel_drew ?_ | with_reducible refine cel_drewN ?_ _ | with_reducible refine cel_set ?_ (by first | (simp; done) | (simp; omega)) _ | with_reducible refine cel_no ?_ (by assumption)))); done)); (clear hK K); (try simp only [Act.put, List.setIfInBounds_toArray, List.set_cons_zero, List.set_cons_succ, List.getElem_toArray, List.getElem_cons_zero, List.getElem_cons_succ])
    (refine wpAnyH_take (i := 6) (v := ?_) rfl (by kernel_rfl) (by kernel_rfl) (by kernel_rfl) (fun _ _ _ h => h) (Or.inl ⟨by rfl, ?_⟩) (by assumption) ?_; rotate_left; focus (intro w hSw; (try dsimp only at hSw); go_simp; (try with_reducible rfl); done)); (try simp only [Act.put, List.setIfInBounds_toArray, List.set_cons_zero, List.set_cons_succ, List.getElem_toArray, List.getElem_cons_zero, List.getElem_cons_succ])
    (refine wpAnyH_done (by kernel_rfl) ?_ _)
    have hf05 : Fr No w w5 := ((Fr.refl No w).alloc _).drew.tr hf5
    have hob5 := ((Ob.new w #[.slice L ln lc, .slice H hn hc] 35).drew).no hf5
    have HOB := Lib.hid hob5
    clear hob5
    go_wp2_with (go_at_call 12; ((with_reducible refine (HALL.out w5 hf05).mono ?_); rintro en w6 ⟨A6, n6, c6, rfl, ho6, hf6⟩))
    have hf06 := hf05.tr hf6
    have HO6 := Lib.hid (show Ow w6 w5.heap.size 33 (fun b => w.heap.size ≤ b ∧ b < w6.heap.size) A6 n6 c6 rs from ho6.lt.mono (fun b hb => ⟨Nat.le_trans hf05.size hb.1, hb.2⟩))
    have hn6 : n6 ≤ 1000 := by have := ho6.len; omega
    have HL6 := Lib.hid ho6.len
    have HOB6 := Lib.hid (HOB.out.no hf6)
    have HF06 := Lib.hid hf06
    clear ho6 hf6 hf5 HALL hf06
    go_loopw [7, 8] (fun v x wr => ∃ (j q : Nat) (P : Option Addr) (cP : Nat), x = .int .i64 j ∧ v = .slice P q cP ∧ Hid (j ≤ n6 ∧ q ≤ j ∧ Ow wr w6.heap.size 33 (fun b => w.heap.size ≤ b) P q cP ((rs.take j).filter (keep lo hi)) ∧ Fr No w6 wr)) (fun _ x _ => n6 - (intOf x).toNat)
    case atStart => exact ⟨0, 0, none, 0, rfl, rfl, Lib.hid ⟨Nat.zero_le _, Nat.le_refl _, by simpa using Ow.nil_ _ _ _ _, Fr.refl _ _⟩⟩
    case round =>
      obtain ⟨j, q, P, cP, rfl, rfl, Hj⟩ := hrel
      by_cases hlt : j < n6
      · obtain ⟨g, KA, kc, rfl, a0, a1, hpk⟩ := Ow.pk (HO6.out.no Hj.out.2.2.2) hlt
        have HPK := Lib.hid hpk
        have Hts := Lib.hid (Go.Proofs.Yteckbcfigklkpaa.Rk.take_succ rs j (by rw [HL6.out]; exact hlt))
        obtain ⟨b0, b1⟩ := cells2 (HOB6.out.no Hj.out.2.2.2)
        have HFr := Lib.hid (HF06.out.tr Hj.out.2.2.2)
        have Hlt := Lib.hid hlt
        have hq1 : q ≤ 1000 := by have := Hj.out.2.1; omega
        clear hpk
        generalize rs.getD j rec0 = r at *
        obtain ⟨ks, s⟩ := r
        simp only at *
        cases hkp : keep lo hi (ks, s) with
        | true =>
          have Hkp := Lib.hid (show inB ks lo hi = true from hkp)
          have Hfil := Lib.hid (show (rs.take (j + 1)).filter (keep lo hi) = (rs.take j).filter (keep lo hi) ++ [(ks, s)] by rw [Hts.out, List.filter_append, List.filter_cons_of_pos hkp, List.filter_nil])
          clear hkp
          generalize (rs.take j).filter (keep lo hi) = out at *
          go_wp2
          (refine wp_region_held_drew (S := fun w' => w'.cell? ⟨g, j * 2, none⟩ = some (.slice KA ks.length kc) ∧ w'.cell? ⟨w.heap.size, 0, none⟩ = some (.slice L ln lc) ∧ w'.cell? ⟨w.heap.size, 1, none⟩ = some (.slice H hn hc)) (by kernel_rfl) ?_ (fun hHeld => ?_); focus ((try dsimp only); (refine ⟨?_, ?_, ?_⟩; (repeat (first | with_reducible assumption | with_reducible refine cel_alloc ?_ _ | with_reducible refine cel_drew ?_ | with_reducible refine cel_drewN ?_ _ | with_reducible refine cel_set ?_ (by first | (simp; done) | (simp; omega)) _ | with_reducible refine cel_no ?_ (by assumption))); (repeat (first | with_reducible assumption | with_reducible refine cel_alloc ?_ _ | with_reducible refine cel_drew ?_ | with_reducible refine cel_drewN ?_ _ | with_reducible refine cel_set ?_ (by first | (simp; done) | (simp; omega)) _ | with_reducible refine cel_no ?_ (by assumption))); (repeat (first | with_reducible assumption | with_reducible refine cel_alloc ?_ _ | with_reducible refine cel_drew ?_ | with_reducible refine cel_drewN ?_ _ | with_reducible refine cel_set ?_ (by first | (simp; done) | (simp; omega)) _ | with_reducible refine cel_no ?_ (by assumption)))); done))
          ((refine wpAnyH_take (i := 0) (v := ?_) rfl (by kernel_rfl) (by kernel_rfl) (by kernel_rfl) (fun _ _ _ h => h) (Or.inl ⟨by rfl, ?_⟩) (by assumption) ?_; rotate_left; focus (intro w hSw; (try dsimp only at hSw); go_simp; (try with_reducible rfl); done)); (try simp only [Act.put, List.setIfInBounds_toArray, List.set_cons_zero, List.set_cons_succ, List.getElem_toArray, List.getElem_cons_zero, List.getElem_cons_succ]); (refine wpAnyH_take (i := 1) (v := ?_) rfl (by kernel_rfl) (by kernel_rfl) (by kernel_rfl) (fun _ _ _ h => h) (Or.inl ⟨by rfl, ?_⟩) (by assumption) ?_; rotate_left; focus (intro w hSw; (try dsimp only at hSw); go_simp; (try with_reducible rfl); done)); (try simp only [Act.put, List.setIfInBounds_toArray, List.set_cons_zero, List.set_cons_succ, List.getElem_toArray, List.getElem_cons_zero, List.getElem_cons_succ]); (refine wpAnyH_take (i := 2) (v := ?_) rfl (by kernel_rfl) (by kernel_rfl) (by kernel_rfl) (fun _ _ _ h => h) (Or.inl ⟨by rfl, ?_⟩) (by assumption) ?_; rotate_left; focus (intro w hSw; (try dsimp only at hSw); go_simp; (try with_reducible rfl); done)); (try simp only [Act.put, List.setIfInBounds_toArray, List.set_cons_zero, List.set_cons_succ, List.getElem_toArray, List.getElem_cons_zero, List.getElem_cons_succ]); (refine wpAnyH_take (i := 3) (v := ?_) rfl (by kernel_rfl) (by kernel_rfl) (by kernel_rfl) (fun _ _ _ h => h) (Or.inl ⟨by rfl, ?_⟩) (by assumption) ?_; rotate_left; focus (intro w hSw; (try dsimp only at hSw); go_simp; (try with_reducible rfl); done)); (try simp only [Act.put, List.setIfInBounds_toArray, List.set_cons_zero, List.set_cons_succ, List.getElem_toArray, List.getElem_cons_zero, List.getElem_cons_succ]); (refine wpAnyH_take (i := 4) (v := ?_) rfl (by kernel_rfl) (by kernel_rfl) (by kernel_rfl) (fun _ _ _ h => h) (Or.inl ⟨by rfl, ?_⟩) (by assumption) ?_; rotate_left; focus (intro w hSw; (try dsimp only at hSw); go_simp; (try with_reducible rfl); done)); (try simp only [Act.put, List.setIfInBounds_toArray, List.set_cons_zero, List.set_cons_succ, List.getElem_toArray, List.getElem_cons_zero, List.getElem_cons_succ]); (refine wpAnyH_take (i := 5) (v := ?_) rfl (by kernel_rfl) (by kernel_rfl) (by kernel_rfl) (fun _ _ _ h => h) (Or.inl ⟨by rfl, ?_⟩) (by assumption) ?_; rotate_left; focus (intro w hSw; (try dsimp only at hSw); go_simp; (try with_reducible rfl); done)); (try simp only [Act.put, List.setIfInBounds_toArray, List.set_cons_zero, List.set_cons_succ, List.getElem_toArray, List.getElem_cons_zero, List.getElem_cons_succ]))
          (refine wpAnyH_ready (rs := [6]) (by kernel_rfl) (by simp) ?_; refine AllReadyH.cons rfl (fun K hK => ?_) AllReadyH.nil; (try simp only [Act.put, List.setIfInBounds_toArray, List.set_cons_zero, List.set_cons_succ, List.getElem_toArray, List.getElem_cons_zero, List.getElem_cons_succ]); go_simp; (go_at_call 30; ((with_reducible refine (rin_any (k := ks) (lo := lo) (hi := hi) ?_ ?_ ?_).mono ?_); (focus ((have hk := HPK.out.1); (simp only at hk); (repeat (first | with_reducible assumption | ((with_reducible refine Kv.lit_new _ _ _ _ _ _ ?_ ?_ ?_ ?_) <;> (first | (simp; done) | rfl | decide)) | with_reducible exact Kv.none_ _ | with_reducible refine Kv.alloc ?_ _ | with_reducible refine Kv.drew ?_ | with_reducible refine Kv.drewN ?_ _ | with_reducible refine Kv.no ?_ (by assumption))))); (focus ((have hk := Hl.out.no HFr.out); (repeat (first | with_reducible assumption | ((with_reducible refine Kv.lit_new _ _ _ _ _ _ ?_ ?_ ?_ ?_) <;> (first | (simp; done) | rfl | decide)) | with_reducible exact Kv.none_ _ | with_reducible refine Kv.alloc ?_ _ | with_reducible refine Kv.drew ?_ | with_reducible refine Kv.drewN ?_ _ | with_reducible refine Kv.no ?_ (by assumption))))); (focus ((have hk := Hh.out.no HFr.out); (repeat (first | with_reducible assumption | ((with_reducible refine Kv.lit_new _ _ _ _ _ _ ?_ ?_ ?_ ?_) <;> (first | (simp; done) | rfl | decide)) | with_reducible exact Kv.none_ _ | with_reducible refine Kv.alloc ?_ _ | with_reducible refine Kv.drew ?_ | with_reducible refine Kv.drewN ?_ _ | with_reducible refine Kv.no ?_ (by assumption))))); rintro e w7 ⟨rfl, hf7⟩; rw [Hkp.out])); (try go_wp2_with fail); refine hK.out _ _ ?_ (fun hHeld => ?_); focus ((try dsimp only); (refine ⟨?_, ?_, ?_⟩; (repeat (first | with_reducible assumption | with_reducible refine cel_alloc ?_ _ | with_reducible refine cel_drew ?_ | with_reducible refine cel_drewN ?_ _ | with_reducible refine cel_set ?_ (by first | (simp; done) | (simp; omega)) _ | with_reducible refine cel_no ?_ (by assumption))); (repeat (first | with_reducible assumption | with_reducible refine cel_alloc ?_ _ | with_reducible refine cel_drew ?_ | with_reducible refine cel_drewN ?_ _ | with_reducible refine cel_set ?_ (by first | (simp; done) | (simp; omega)) _ | with_reducible refine cel_no ?_ (by assumption))); (repeat (first | with_reducible assumption | with_reducible refine cel_alloc ?_ _ | with_reducible refine cel_drew ?_ | with_reducible refine cel_drewN ?_ _ | with_reducible refine cel_set ?_ (by first | (simp; done) | (simp; omega)) _ | with_reducible refine cel_no ?_ (by assumption)))); done)); (clear hK K); (try simp only [Act.put, List.setIfInBounds_toArray, List.set_cons_zero, List.set_cons_succ, List.getElem_toArray, List.getElem_cons_zero, List.getElem_cons_succ])
          (refine wpAnyH_done (by kernel_rfl) ?_ _)
          have hf7d : Fr No wr w7 := by (repeat (first | with_reducible exact Fr.refl _ _ | with_reducible refine Fr.setCell ?_ (.inr (by first | (simp; done) | (simp; omega))) _ | with_reducible refine Fr.alloc ?_ _ | with_reducible refine Fr.drew ?_ | with_reducible refine Fr.drewN ?_ _ | with_reducible refine Fr.tr ?_ (by assumption)))
          have x0 := cel_no a0 hf7d
          have x1 := cel_no a1 hf7d
          have hO7 := Hj.out.2.2.1.no hf7d
          obtain ⟨A1, cA1, w9, hrun, hO9, hgr, hfr, hat⟩ := push_old (ks := ks) (s := s) (K := KA) (kc := kc) hO7 (by have := Hj.out.2.2.2.size; have := hf7d.size; omega) ((HPK.out.no hf7d).mono (fun b hb => ⟨hb.1, fun g o e => by subst e; have := (hO7.blk g rfl).1; omega⟩)) (by omega)
          have HF9 := Lib.hid (hfr w6 (Nat.le_refl _) (Hj.out.2.2.2.tr hf7d))
          have HO9 := Lib.hid hO9
          clear hO7 hO9 hgr hfr hat
          go_wp2
          go_roundw
          case rel => exact ⟨j + 1, q + 1, A1, cA1, by go_num, rfl, Lib.hid ⟨Hlt.out, by have := Hj.out.2.1; omega, by rw [Hfil.out]; exact HO9.out, HF9.out⟩⟩
          case measure => have := Hlt.out; simp [intOf]; omega
        | false =>
          have Hkp := Lib.hid (show inB ks lo hi = false from hkp)
          have Hfil := Lib.hid (show (rs.take (j + 1)).filter (keep lo hi) = (rs.take j).filter (keep lo hi) by rw [Hts.out, List.filter_append, List.filter_cons_of_neg (by rw [hkp]; simp), List.filter_nil, List.append_nil])
          clear hkp
          generalize (rs.take j).filter (keep lo hi) = out at *
          go_wp2
          (refine wp_region_held_drew (S := fun w' => w'.cell? ⟨g, j * 2, none⟩ = some (.slice KA ks.length kc) ∧ w'.cell? ⟨w.heap.size, 0, none⟩ = some (.slice L ln lc) ∧ w'.cell? ⟨w.heap.size, 1, none⟩ = some (.slice H hn hc)) (by kernel_rfl) ?_ (fun hHeld => ?_); focus ((try dsimp only); (refine ⟨?_, ?_, ?_⟩; (repeat (first | with_reducible assumption | with_reducible refine cel_alloc ?_ _ | with_reducible refine cel_drew ?_ | with_reducible refine cel_drewN ?_ _ | with_reducible refine cel_set ?_ (by first | (simp; done) | (simp; omega)) _ | with_reducible refine cel_no ?_ (by assumption))); (repeat (first | with_reducible assumption | with_reducible refine cel_alloc ?_ _ | with_reducible refine cel_drew ?_ | with_reducible refine cel_drewN ?_ _ | with_reducible refine cel_set ?_ (by first | (simp; done) | (simp; omega)) _ | with_reducible refine cel_no ?_ (by assumption))); (repeat (first | with_reducible assumption | with_reducible refine cel_alloc ?_ _ | with_reducible refine cel_drew ?_ | with_reducible refine cel_drewN ?_ _ | with_reducible refine cel_set ?_ (by first | (simp; done) | (simp; omega)) _ | with_reducible refine cel_no ?_ (by assumption)))); done))
          ((refine wpAnyH_take (i := 0) (v := ?_) rfl (by kernel_rfl) (by kernel_rfl) (by kernel_rfl) (fun _ _ _ h => h) (Or.inl ⟨by rfl, ?_⟩) (by assumption) ?_; rotate_left; focus (intro w hSw; (try dsimp only at hSw); go_simp; (try with_reducible rfl); done)); (try simp only [Act.put, List.setIfInBounds_toArray, List.set_cons_zero, List.set_cons_succ, List.getElem_toArray, List.getElem_cons_zero, List.getElem_cons_succ]); (refine wpAnyH_take (i := 1) (v := ?_) rfl (by kernel_rfl) (by kernel_rfl) (by kernel_rfl) (fun _ _ _ h => h) (Or.inl ⟨by rfl, ?_⟩) (by assumption) ?_; rotate_left; focus (intro w hSw; (try dsimp only at hSw); go_simp; (try with_reducible rfl); done)); (try simp only [Act.put, List.setIfInBounds_toArray, List.set_cons_zero, List.set_cons_succ, List.getElem_toArray, List.getElem_cons_zero, List.getElem_cons_succ]); (refine wpAnyH_take (i := 2) (v := ?_) rfl (by kernel_rfl) (by kernel_rfl) (by kernel_rfl) (fun _ _ _ h => h) (Or.inl ⟨by rfl, ?_⟩) (by assumption) ?_; rotate_left; focus (intro w hSw; (try dsimp only at hSw); go_simp; (try with_reducible rfl); done)); (try simp only [Act.put, List.setIfInBounds_toArray, List.set_cons_zero, List.set_cons_succ, List.getElem_toArray, List.getElem_cons_zero, List.getElem_cons_succ]); (refine wpAnyH_take (i := 3) (v := ?_) rfl (by kernel_rfl) (by kernel_rfl) (by kernel_rfl) (fun _ _ _ h => h) (Or.inl ⟨by rfl, ?_⟩) (by assumption) ?_; rotate_left; focus (intro w hSw; (try dsimp only at hSw); go_simp; (try with_reducible rfl); done)); (try simp only [Act.put, List.setIfInBounds_toArray, List.set_cons_zero, List.set_cons_succ, List.getElem_toArray, List.getElem_cons_zero, List.getElem_cons_succ]); (refine wpAnyH_take (i := 4) (v := ?_) rfl (by kernel_rfl) (by kernel_rfl) (by kernel_rfl) (fun _ _ _ h => h) (Or.inl ⟨by rfl, ?_⟩) (by assumption) ?_; rotate_left; focus (intro w hSw; (try dsimp only at hSw); go_simp; (try with_reducible rfl); done)); (try simp only [Act.put, List.setIfInBounds_toArray, List.set_cons_zero, List.set_cons_succ, List.getElem_toArray, List.getElem_cons_zero, List.getElem_cons_succ]); (refine wpAnyH_take (i := 5) (v := ?_) rfl (by kernel_rfl) (by kernel_rfl) (by kernel_rfl) (fun _ _ _ h => h) (Or.inl ⟨by rfl, ?_⟩) (by assumption) ?_; rotate_left; focus (intro w hSw; (try dsimp only at hSw); go_simp; (try with_reducible rfl); done)); (try simp only [Act.put, List.setIfInBounds_toArray, List.set_cons_zero, List.set_cons_succ, List.getElem_toArray, List.getElem_cons_zero, List.getElem_cons_succ]))
          (refine wpAnyH_ready (rs := [6]) (by kernel_rfl) (by simp) ?_; refine AllReadyH.cons rfl (fun K hK => ?_) AllReadyH.nil; (try simp only [Act.put, List.setIfInBounds_toArray, List.set_cons_zero, List.set_cons_succ, List.getElem_toArray, List.getElem_cons_zero, List.getElem_cons_succ]); go_simp; (go_at_call 30; ((with_reducible refine (rin_any (k := ks) (lo := lo) (hi := hi) ?_ ?_ ?_).mono ?_); (focus ((have hk := HPK.out.1); (simp only at hk); (repeat (first | with_reducible assumption | ((with_reducible refine Kv.lit_new _ _ _ _ _ _ ?_ ?_ ?_ ?_) <;> (first | (simp; done) | rfl | decide)) | with_reducible exact Kv.none_ _ | with_reducible refine Kv.alloc ?_ _ | with_reducible refine Kv.drew ?_ | with_reducible refine Kv.drewN ?_ _ | with_reducible refine Kv.no ?_ (by assumption))))); (focus ((have hk := Hl.out.no HFr.out); (repeat (first | with_reducible assumption | ((with_reducible refine Kv.lit_new _ _ _ _ _ _ ?_ ?_ ?_ ?_) <;> (first | (simp; done) | rfl | decide)) | with_reducible exact Kv.none_ _ | with_reducible refine Kv.alloc ?_ _ | with_reducible refine Kv.drew ?_ | with_reducible refine Kv.drewN ?_ _ | with_reducible refine Kv.no ?_ (by assumption))))); (focus ((have hk := Hh.out.no HFr.out); (repeat (first | with_reducible assumption | ((with_reducible refine Kv.lit_new _ _ _ _ _ _ ?_ ?_ ?_ ?_) <;> (first | (simp; done) | rfl | decide)) | with_reducible exact Kv.none_ _ | with_reducible refine Kv.alloc ?_ _ | with_reducible refine Kv.drew ?_ | with_reducible refine Kv.drewN ?_ _ | with_reducible refine Kv.no ?_ (by assumption))))); rintro e w7 ⟨rfl, hf7⟩; rw [Hkp.out])); (try go_wp2_with fail); refine hK.out _ _ ?_ (fun hHeld => ?_); focus ((try dsimp only); (refine ⟨?_, ?_, ?_⟩; (repeat (first | with_reducible assumption | with_reducible refine cel_alloc ?_ _ | with_reducible refine cel_drew ?_ | with_reducible refine cel_drewN ?_ _ | with_reducible refine cel_set ?_ (by first | (simp; done) | (simp; omega)) _ | with_reducible refine cel_no ?_ (by assumption))); (repeat (first | with_reducible assumption | with_reducible refine cel_alloc ?_ _ | with_reducible refine cel_drew ?_ | with_reducible refine cel_drewN ?_ _ | with_reducible refine cel_set ?_ (by first | (simp; done) | (simp; omega)) _ | with_reducible refine cel_no ?_ (by assumption))); (repeat (first | with_reducible assumption | with_reducible refine cel_alloc ?_ _ | with_reducible refine cel_drew ?_ | with_reducible refine cel_drewN ?_ _ | with_reducible refine cel_set ?_ (by first | (simp; done) | (simp; omega)) _ | with_reducible refine cel_no ?_ (by assumption)))); done)); (clear hK K); (try simp only [Act.put, List.setIfInBounds_toArray, List.set_cons_zero, List.set_cons_succ, List.getElem_toArray, List.getElem_cons_zero, List.getElem_cons_succ])
          (refine wpAnyH_done (by kernel_rfl) ?_ _)
          have hf7d : Fr No wr w7 := by (repeat (first | with_reducible exact Fr.refl _ _ | with_reducible refine Fr.setCell ?_ (.inr (by first | (simp; done) | (simp; omega))) _ | with_reducible refine Fr.alloc ?_ _ | with_reducible refine Fr.drew ?_ | with_reducible refine Fr.drewN ?_ _ | with_reducible refine Fr.tr ?_ (by assumption)))
          go_wp2
          go_roundw
          case rel => exact ⟨j + 1, q, P, cP, by go_num, rfl, Lib.hid ⟨Hlt.out, by have := Hj.out.2.1; omega, by rw [Hfil.out]; exact Hj.out.2.2.1.no hf7d, Hj.out.2.2.2.tr hf7d⟩⟩
          case measure => have := Hlt.out; simp [intOf]; omega
      · obtain rfl : j = n6 := by have := Hj.out.1; omega
        have e : rs.take j = rs := List.take_of_length_le (by rw [HL6.out]; exact Nat.le_refl _)
        have HJ := Lib.hid (show Ow wr w6.heap.size 33 (fun b => w.heap.size ≤ b) P q cP (rs.filter (keep lo hi)) by have := Hj.out.2.2.1; rw [e] at this; exact this)
        clear e
        go_wp2
        go_ret2
        exact ⟨P, q, cP, rfl, HJ.out.base_ HF06.out.size, HF06.out.tr Hj.out.2.2.2⟩
  · have e : winL (sorted ls) lo hi d = [] := by rw [winL, if_neg (by rw [hb]; decide)]
    rw [e, hb]
    have Hb := Lib.hid hb
    clear hb e
    go_enter Try.func23, Try.ntmps23
    go_wp2
    (refine wp_region_held_drew (S := fun w' => (w'.cell? ⟨w.heap.size, 0, none⟩ = some (.slice L ln lc) ∧ w'.cell? ⟨w.heap.size, 1, none⟩ = some (.slice H hn hc)) ∧ w'.cell? ⟨gk, 0, none⟩ = some (.int .i64 d)) (by kernel_rfl) ?_ (fun hHeld => ?_); focus ((try dsimp only); (refine ⟨cells2 (t := 35) ?_, ?_⟩; (repeat (first | with_reducible assumption | with_reducible refine Ob.other ?_ (by first | (simp; done) | (simp; omega)) _ | ((with_reducible refine Ob.new_ _ _ _ _ ?_) <;> (simp; done)) | with_reducible refine Ob.alloc ?_ _ | with_reducible refine Ob.drew ?_ | with_reducible refine Ob.drewN ?_ _ | with_reducible refine Ob.no ?_ (by assumption))); (repeat (first | with_reducible assumption | with_reducible refine cel_alloc ?_ _ | with_reducible refine cel_drew ?_ | with_reducible refine cel_drewN ?_ _ | with_reducible refine cel_set ?_ (by first | (simp; done) | (simp; omega)) _ | with_reducible refine cel_no ?_ (by assumption)))); done))
    ((refine wpAnyH_take (i := 0) (v := ?_) rfl (by kernel_rfl) (by kernel_rfl) (by kernel_rfl) (fun _ _ _ h => h) (Or.inl ⟨by rfl, ?_⟩) (by assumption) ?_; rotate_left; focus (intro w hSw; (try dsimp only at hSw); go_simp; (try with_reducible rfl); done)); (try simp only [Act.put, List.setIfInBounds_toArray, List.set_cons_zero, List.set_cons_succ, List.getElem_toArray, List.getElem_cons_zero, List.getElem_cons_succ]); (refine wpAnyH_take (i := 1) (v := ?_) rfl (by kernel_rfl) (by kernel_rfl) (by kernel_rfl) (fun _ _ _ h => h) (Or.inl ⟨by rfl, ?_⟩) (by assumption) ?_; rotate_left; focus (intro w hSw; (try dsimp only at hSw); go_simp; (try with_reducible rfl); done)); (try simp only [Act.put, List.setIfInBounds_toArray, List.set_cons_zero, List.set_cons_succ, List.getElem_toArray, List.getElem_cons_zero, List.getElem_cons_succ]); (refine wpAnyH_take (i := 2) (v := ?_) rfl (by kernel_rfl) (by kernel_rfl) (by kernel_rfl) (fun _ _ _ h => h) (Or.inl ⟨by rfl, ?_⟩) (by assumption) ?_; rotate_left; focus (intro w hSw; (try dsimp only at hSw); go_simp; (try with_reducible rfl); done)); (try simp only [Act.put, List.setIfInBounds_toArray, List.set_cons_zero, List.set_cons_succ, List.getElem_toArray, List.getElem_cons_zero, List.getElem_cons_succ]); (refine wpAnyH_take (i := 3) (v := ?_) rfl (by kernel_rfl) (by kernel_rfl) (by kernel_rfl) (fun _ _ _ h => h) (Or.inl ⟨by rfl, ?_⟩) (by assumption) ?_; rotate_left; focus (intro w hSw; (try dsimp only at hSw); go_simp; (try with_reducible rfl); done)); (try simp only [Act.put, List.setIfInBounds_toArray, List.set_cons_zero, List.set_cons_succ, List.getElem_toArray, List.getElem_cons_zero, List.getElem_cons_succ]); (refine wpAnyH_take (i := 4) (v := ?_) rfl (by kernel_rfl) (by kernel_rfl) (by kernel_rfl) (fun _ _ _ h => h) (Or.inl ⟨by rfl, ?_⟩) (by assumption) ?_; rotate_left; focus (intro w hSw; (try dsimp only at hSw); go_simp; (try with_reducible rfl); done)); (try simp only [Act.put, List.setIfInBounds_toArray, List.set_cons_zero, List.set_cons_succ, List.getElem_toArray, List.getElem_cons_zero, List.getElem_cons_succ]))
    (refine wpAnyH_ready (rs := [5]) (by kernel_rfl) (by simp) ?_; refine AllReadyH.cons rfl (fun K hK => ?_) AllReadyH.nil; (try simp only [Act.put, List.setIfInBounds_toArray, List.set_cons_zero, List.set_cons_succ, List.getElem_toArray, List.getElem_cons_zero, List.getElem_cons_succ]); go_simp; (go_at_call 29; ((with_reducible refine (rcheckBox_any (lo := lo) (hi := hi) _ ?_ ?_).mono ?_); (focus ((have hk := Hl.out); (repeat (first | with_reducible assumption | ((with_reducible refine Kv.lit_new _ _ _ _ _ _ ?_ ?_ ?_ ?_) <;> (first | (simp; done) | rfl | decide)) | with_reducible exact Kv.none_ _ | with_reducible refine Kv.alloc ?_ _ | with_reducible refine Kv.drew ?_ | with_reducible refine Kv.drewN ?_ _ | with_reducible refine Kv.no ?_ (by assumption))))); (focus ((have hk := Hh.out); (repeat (first | with_reducible assumption | ((with_reducible refine Kv.lit_new _ _ _ _ _ _ ?_ ?_ ?_ ?_) <;> (first | (simp; done) | rfl | decide)) | with_reducible exact Kv.none_ _ | with_reducible refine Kv.alloc ?_ _ | with_reducible refine Kv.drew ?_ | with_reducible refine Kv.drewN ?_ _ | with_reducible refine Kv.no ?_ (by assumption))))); rintro en w5 ⟨rfl, hf5⟩; rw [Hb.out])); (try go_wp2_with fail); refine hK.out _ _ ?_ (fun hHeld => ?_); focus ((try dsimp only); (refine ⟨cells2 (t := 35) ?_, ?_⟩; (repeat (first | with_reducible assumption | with_reducible refine Ob.other ?_ (by first | (simp; done) | (simp; omega)) _ | ((with_reducible refine Ob.new_ _ _ _ _ ?_) <;> (simp; done)) | with_reducible refine Ob.alloc ?_ _ | with_reducible refine Ob.drew ?_ | with_reducible refine Ob.drewN ?_ _ | with_reducible refine Ob.no ?_ (by assumption))); (repeat (first | with_reducible assumption | with_reducible refine cel_alloc ?_ _ | with_reducible refine cel_drew ?_ | with_reducible refine cel_drewN ?_ _ | with_reducible refine cel_set ?_ (by first | (simp; done) | (simp; omega)) _ | with_reducible refine cel_no ?_ (by assumption)))); done)); (clear hK K); (try simp only [Act.put, List.setIfInBounds_toArray, List.set_cons_zero, List.set_cons_succ, List.getElem_toArray, List.getElem_cons_zero, List.getElem_cons_succ])
    (refine wpAnyH_take (i := 6) (v := ?_) rfl (by kernel_rfl) (by kernel_rfl) (by kernel_rfl) (fun _ _ _ h => h) (Or.inl ⟨by rfl, ?_⟩) (by assumption) ?_; rotate_left; focus (intro w hSw; (try dsimp only at hSw); go_simp; (try with_reducible rfl); done)); (try simp only [Act.put, List.setIfInBounds_toArray, List.set_cons_zero, List.set_cons_succ, List.getElem_toArray, List.getElem_cons_zero, List.getElem_cons_succ])
    (refine wpAnyH_done (by kernel_rfl) ?_ _)
    go_wp2
    go_ret2
    exact ⟨none, 0, 0, rfl, Ow.nil_ _ _ _ _, ((Fr.refl No w).alloc _).drew.tr hf5⟩
end
end Go.Proofs.Yteckbcfigklkpaa.Aq09
