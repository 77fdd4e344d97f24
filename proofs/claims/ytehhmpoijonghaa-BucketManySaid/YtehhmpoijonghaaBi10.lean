/- Layer 10: a record cut out, and the document's put and cut. -/
import Derived.Test.YtehhmpoijonghaaBh10
import Derived.Test.YtehhmpoijonghaaRu
import Derived.Test.YtehhmpoijonghaaRc
import Derived.Deep.Upon
namespace Go.Proofs.Ytehhmpoijonghaa.Bi10
open Go.RowKit Go.Proofs.Ytehhmpoijonghaa.Pk08 Go.Proofs.Ytehhmpoijonghaa.Base Go.Proofs.Ytehhmpoijonghaa.App Go.Proofs.Ytehhmpoijonghaa.Str Go.Proofs.Ytehhmpoijonghaa.Ky Go.Proofs.Ytehhmpoijonghaa.Bx Go.Proofs.Ytehhmpoijonghaa.Bo Go.Proofs.Ytehhmpoijonghaa.As Go.Proofs.Ytehhmpoijonghaa.Pl08 Go.Proofs.Ytehhmpoijonghaa.Cl Go.Proofs.Ytehhmpoijonghaa.Rv Go.Proofs.Ytehhmpoijonghaa.Rp Go.Proofs.Ytehhmpoijonghaa.Ro Go.Proofs.Ytehhmpoijonghaa.Rk Go.Proofs.Ytehhmpoijonghaa.Rb Go.Proofs.Ytehhmpoijonghaa.Rc Go.Proofs.Ytehhmpoijonghaa.Rf Go.Proofs.Ytehhmpoijonghaa.Ru
set_option linter.unusedVariables false
set_option linter.unusedSimpArgs false
attribute [local go_sem ↓ high] builtin_app
section
variable {w : World} {A K : Option Addr} {n m c kc : Nat} {rs : List Rv.Rec} {k : List Nat} {s : ByteArray}
theorem Rv.some_ (h : Rv w A n c rs) (hn : 0 < n) : ∃ b off, A = some ⟨b, off, none⟩ := by
  obtain ⟨b, off, h1, _⟩ := h.at_ (by rw [← h.len]; exact hn)
  exact ⟨b, off, h1⟩
/-- What the append of a record cut out comes to. -/
theorem cut_core {A2 : Option Addr} {i c2 : Nat} (hr : Rv w A n c rs) (hi : i < n) (hn : n ≤ 1000000) (hA2 : ∀ b off, A = some ⟨b, off, none⟩ → A2 = some ⟨b, off + (i + 1) * 2, none⟩ ∨ i + 1 = n) {out : List Rv.Rec} (hout : out = rs.take i ++ rs.drop (i + 1)) :
    ∃ A3 n3 c3 w3, (appSem #[22, 22] 22 #[.slice A i i, .slice A2 (n - (i + 1)) c2]).run Try.prog w = .ok (.slice A3 n3 c3) w3 ∧ Rv w3 A3 n3 c3 out ∧ Fr No w w3 := by
  have hl := hr.len
  obtain ⟨b, off, hA⟩ := Rv.some_ hr (by omega)
  subst hA
  by_cases hm : i + 1 = n
  · obtain ⟨inf, hi1, hzz⟩ := Option.map_eq_some_iff.1 info_rec
    refine ⟨some ⟨b, off, none⟩, i, i, w, ?_, ?_, Fr.refl _ _⟩
    · rw [show n - (i + 1) = 0 by omega]
      refine run_append_nothing (P := Try.prog) w 22 22 22 38 inf Try.underlying22 hi1 _ i i (Nat.le_refl _) _ ?_
      rcases A2 with _ | a
      · exact Src.ofNil (P := Try.prog) w Try.underlying22 c2
      · exact Src.ofSlice (P := Try.prog) w Try.underlying22 a 0 c2 [] (by simp) (fun j u hj => by simp at hj) (fun u hu => by simp at hu)
    · have h := Rv.sub hr 0 i i (Nat.zero_le _) (by omega) (Nat.le_refl _) (Nat.le_trans (show i ≤ 1000000 by omega) (by decide)) (some ⟨b, off, none⟩) (fun _ b' off' e => by injection e with e; injection e with e1 e2; subst e1; subst e2; simp)
      rw [hout, List.drop_of_length_le (by omega)]
      simpa using h
  · obtain ⟨ps, hrs, hcs, hps⟩ := Rv.parts hr
    have hpl : ps.length = n := by rw [hl, ← hrs, recs_len]
    have h0 : Rcs w (some ⟨b, off, none⟩) i (rcells (ps.take i)) := by
      have := hcs.sub hpl 0 i (Nat.zero_le _) (by omega) (some ⟨b, off, none⟩) (fun h b' off' e => by rw [e]; simp)
      simpa using this
    have h2 : Rcs w A2 (n - (i + 1)) (rcells (ps.drop (i + 1))) := by
      have := hcs.sub hpl (i + 1) n hi (Nat.le_refl _) A2 (fun h b' off' e => by
        injection e with e; injection e with e1 e2; subst e1; subst e2
        rcases hA2 b off rfl with h | h
        · exact h
        · omega)
      rwa [List.take_of_length_le (by omega)] at this
    obtain ⟨A3, c3, w3, hrun, hO, hf⟩ := app_full (Pg := Try.prog) (w := w) (e := 38) (P := fun b => b < w.heap.size) 22 _ 40 Try.underlying22 info_rec rfl (by decide) (qs := ps.take i) (ps := ps.drop (i + 1)) (fun p hp => hps p (List.mem_of_mem_take hp)) (n := i) (by rw [List.length_take]; omega) h0 (c0 := i) (fun e => by cases e) (fun p hp => hps p (List.mem_of_mem_drop hp)) (m := n - (i + 1)) (by rw [List.length_drop]; omega) (A := A2) (c := c2) h2 (by omega) (by omega) (by omega)
    refine ⟨A3, _, c3, w3, hrun, ?_, hf⟩
    have e : recs (ps.take i) ++ recs (ps.drop (i + 1)) = out := by rw [recs_take, recs_drop, hrs, hout]
    rw [← e]
    exact hO.rv
set_option maxHeartbeats 1600000 in
theorem cut_any (hr : Rv w A n c rs) (hk : Kv w K m kc k) (hs : Strict rs) (hsh : Short rs) : Calls Try.prog 23 #[.slice A n c, .slice K m kc] w fun e w' => ∃ A1 n1 c1, e = .returned (.tuple #[.slice A1 n1 c1, .bool (fis rs k)]) ∧ Ow w' w.heap.size 38 (fun _ => True) A1 n1 c1 (cut rs k) ∧ Fr No w w' := by
  have hcap := hr.cap
  have hmost := hr.most
  have hfl : fpos rs k ≤ n := by have := fpos_le rs k; have := hr.len; omega
  have hn1 : n ≤ 1000000 := by have := hsh.1; have := hr.len; omega
  have Hr := Lib.hid hr
  have Hk := Lib.hid hk
  have Hs := Lib.hid hs
  have Hsh := Lib.hid hsh
  clear hr hk hs hsh
  cases hfis : fis rs k with
  | false =>
    have Hcut := Lib.hid (show cut rs k = rs by simp [cut, hfis])
    have Hfis := Lib.hid hfis
    clear hfis
    go_enter Try.func23, Try.ntmps23
    go_wp2_with first
      | (go_at_call 25; ((with_reducible refine (find_any (rs := rs) (k := k) ?_ ?_ Hs.out hn1).mono ?_); (focus ((have hr := Hr.out); (repeat (first | with_reducible assumption | with_reducible exact Rv.none_ _ | with_reducible refine Rv.alloc ?_ _ | with_reducible refine Rv.drew ?_ | with_reducible refine Rv.drewN ?_ _ | with_reducible refine Rv.no ?_ (by assumption))))); (focus ((have hk := Hk.out); (repeat (first | with_reducible assumption | ((with_reducible refine Kv.lit_new _ _ _ _ _ _ ?_ ?_ ?_ ?_) <;> (first | (simp; done) | rfl | decide)) | with_reducible exact Kv.none_ _ | with_reducible refine Kv.alloc ?_ _ | with_reducible refine Kv.drew ?_ | with_reducible refine Kv.drewN ?_ _ | with_reducible refine Kv.no ?_ (by assumption))))); rintro e w5 ⟨rfl, hf5⟩; rw [Hfis.out]))
      | (go_at_call 43; ((with_reducible refine (copied_any (rs := rs) (Hr.out.no hf5) Hsh.out).mono ?_); rintro e w6 ⟨A6, n6, c6, rfl, ho6, hf6⟩))
      | fail
    go_ret2
    exact ⟨A6, n6, c6, rfl, by rw [Hcut.out]; exact ho6.base_ hf5.size, hf5.tr hf6⟩
  | true =>
    have Hcut := Lib.hid (show cut rs k = rs.take (fpos rs k) ++ rs.drop (fpos rs k + 1) by simp [cut, hfis])
    have hin : fpos rs k < n := by obtain ⟨h1, _⟩ := (fis_iff rs k).1 hfis; have := Hr.out.len; omega
    have Hshc := Lib.hid (show Short (cut rs k) from ⟨by have := Hsh.out.1; rw [Hcut.out, List.length_append, List.length_take, List.length_drop]; omega, fun r hr => Hsh.out.2 r (by rw [Hcut.out] at hr; rcases List.mem_append.1 hr with h | h; exact List.mem_of_mem_take h; exact List.mem_of_mem_drop h)⟩)
    have Hfis := Lib.hid hfis
    clear hfis
    generalize hfp : fpos rs k = i at *
    have Hfp := Lib.hid hfp
    clear hfp
    generalize cut rs k = out at *
    obtain ⟨A2, hA2⟩ : ∃ A2, (if c = i + 1 then A else Option.map (fun x => x.add ((i + 1) * 2)) A) = A2 := ⟨_, rfl⟩
    go_enter Try.func23, Try.ntmps23
    go_wp2_with (go_at_call 25; ((with_reducible refine (find_any (rs := rs) (k := k) ?_ ?_ Hs.out hn1).mono ?_); (focus ((have hr := Hr.out); (repeat (first | with_reducible assumption | with_reducible exact Rv.none_ _ | with_reducible refine Rv.alloc ?_ _ | with_reducible refine Rv.drew ?_ | with_reducible refine Rv.drewN ?_ _ | with_reducible refine Rv.no ?_ (by assumption))))); (focus ((have hk := Hk.out); (repeat (first | with_reducible assumption | ((with_reducible refine Kv.lit_new _ _ _ _ _ _ ?_ ?_ ?_ ?_) <;> (first | (simp; done) | rfl | decide)) | with_reducible exact Kv.none_ _ | with_reducible refine Kv.alloc ?_ _ | with_reducible refine Kv.drew ?_ | with_reducible refine Kv.drewN ?_ _ | with_reducible refine Kv.no ?_ (by assumption))))); rintro e w5 ⟨rfl, hf5⟩; rw [Hfp.out, Hfis.out]))
    obtain ⟨A3, n3, c3, w3, hrun, hv3, hf3⟩ := cut_core (w := w5.drew) (A := A) (A2 := A2) (c2 := c - (i + 1)) (Hr.out.no hf5).drew hin hn1 (fun b off e => by
      subst e
      rw [← hA2]
      by_cases hc : c = i + 1
      · right; omega
      · left; rw [if_neg hc]; simp [add_lit]) Hcut.out
    have Hv3 := Lib.hid hv3
    have Hf3 := Lib.hid (show Fr No w w3 from hf5.drew.tr hf3)
    have hic : i ≤ c := by omega
    have hin2 : i ≤ n := by omega
    have hin3 : i + 1 ≤ n := hin
    clear hv3 hf3
    have hw1 : IntKind.i64.wrap ((i : Int) + 1) = (i : Int) + 1 := IntWalk.i64_in _ (by omega)
    have hw2 : (0 : Int) ≤ (i : Int) + 1 ∧ (i : Int) + 1 ≤ (n : Int) := by omega
    have hw3 : ((i : Int) + 1).toNat = i + 1 := by omega
    (refine wp_region_held_drew (S := fun w' => n ≤ 1000000) (by kernel_rfl) ?_ (fun hHeld => ?_); focus ((try dsimp only); exact hn1; done))
    ((refine wpAnyH_take (i := 0) (v := ?_) rfl (by kernel_rfl) (by kernel_rfl) (by kernel_rfl) (fun _ _ _ h => h) (Or.inl ⟨by rfl, ?_⟩) (by assumption) ?_; rotate_left; focus (intro w hSw; (try dsimp only at hSw); go_simp; (try with_reducible rfl); done)); (try simp only [Act.put, List.setIfInBounds_toArray, List.set_cons_zero, List.set_cons_succ, List.getElem_toArray, List.getElem_cons_zero, List.getElem_cons_succ]); (refine wpAnyH_take (i := 1) (v := ?_) rfl (by kernel_rfl) (by kernel_rfl) (by kernel_rfl) (fun _ _ _ h => h) (Or.inl ⟨by rfl, ?_⟩) (by assumption) ?_; rotate_left; focus (intro w hSw; (try dsimp only at hSw); go_simp; (try with_reducible rfl); done)); (try simp only [Act.put, List.setIfInBounds_toArray, List.set_cons_zero, List.set_cons_succ, List.getElem_toArray, List.getElem_cons_zero, List.getElem_cons_succ]); (refine wpAnyH_take (i := 2) (v := ?_) rfl (by kernel_rfl) (by kernel_rfl) (by kernel_rfl) (fun _ _ _ h => h) (Or.inl ⟨by rfl, ?_⟩) (by assumption) ?_; rotate_left; focus (intro w hSw; (try dsimp only at hSw); go_simp; (try with_reducible rfl); done)); (try simp only [Act.put, List.setIfInBounds_toArray, List.set_cons_zero, List.set_cons_succ, List.getElem_toArray, List.getElem_cons_zero, List.getElem_cons_succ]); (refine wpAnyH_take (i := 3) (v := ?_) rfl (by kernel_rfl) (by kernel_rfl) (by kernel_rfl) (fun _ _ _ h => h) (Or.inl ⟨by rfl, ?_⟩) (by assumption) ?_; rotate_left; focus (intro w hSw; (try dsimp only at hSw); go_simp; (try with_reducible rfl); done)); (try simp only [Act.put, List.setIfInBounds_toArray, List.set_cons_zero, List.set_cons_succ, List.getElem_toArray, List.getElem_cons_zero, List.getElem_cons_succ]); (refine wpAnyH_take (i := 4) (v := ?_) rfl (by kernel_rfl) (by kernel_rfl) (by kernel_rfl) (fun _ _ _ h => h) (Or.inl ⟨by rfl, ?_⟩) (by assumption) ?_; rotate_left; focus (intro w hSw; (try dsimp only at hSw); go_simp; (try with_reducible rfl); done)); (try simp only [Act.put, List.setIfInBounds_toArray, List.set_cons_zero, List.set_cons_succ, List.getElem_toArray, List.getElem_cons_zero, List.getElem_cons_succ]); (refine wpAnyH_take (i := 5) (v := ?_) rfl (by kernel_rfl) (by kernel_rfl) (by kernel_rfl) (fun _ _ _ h => h) (Or.inl ⟨by rfl, ?_⟩) (by assumption) ?_; rotate_left; focus (intro w hSw; (try dsimp only at hSw); go_simp; (try with_reducible rfl); done)); (try simp only [Act.put, List.setIfInBounds_toArray, List.set_cons_zero, List.set_cons_succ, List.getElem_toArray, List.getElem_cons_zero, List.getElem_cons_succ]); (refine wpAnyH_take (i := 6) (v := ?_) rfl (by kernel_rfl) (by kernel_rfl) (by kernel_rfl) (fun _ _ _ h => h) (Or.inl ⟨by rfl, ?_⟩) (by assumption) ?_; rotate_left; focus (intro w hSw; (try dsimp only at hSw); go_simp; (try with_reducible rfl); done)); (try simp only [Act.put, List.setIfInBounds_toArray, List.set_cons_zero, List.set_cons_succ, List.getElem_toArray, List.getElem_cons_zero, List.getElem_cons_succ]))
    (refine wpAnyH_take (i := 7) (v := ?_) rfl (by kernel_rfl) (by kernel_rfl) (by kernel_rfl) (fun _ _ _ h => h) (Or.inl ⟨by rfl, ?_⟩) (by assumption) ?_; rotate_left; focus (intro w hSw; (try dsimp only at hSw); go_simp; (try simp only [hw1, if_pos hw2, hw3, hA2]); (try with_reducible rfl); done)); (try simp only [Act.put, List.setIfInBounds_toArray, List.set_cons_zero, List.set_cons_succ, List.getElem_toArray, List.getElem_cons_zero, List.getElem_cons_succ])
    (refine wpAnyH_ready (rs := [8]) (by kernel_rfl) (by simp) ?_; refine AllReadyH.cons rfl (fun K hK => ?_) AllReadyH.nil; (try simp only [Act.put, List.setIfInBounds_toArray, List.set_cons_zero, List.set_cons_succ, List.getElem_toArray, List.getElem_cons_zero, List.getElem_cons_succ]); go_simp; refine hK.out _ _ ?_ (fun hHeld => ?_); focus ((try dsimp only); exact hn1; done)); (clear hK K); (try simp only [Act.put, List.setIfInBounds_toArray, List.set_cons_zero, List.set_cons_succ, List.getElem_toArray, List.getElem_cons_zero, List.getElem_cons_succ])
    (refine wpAnyH_ready (rs := [9]) (by kernel_rfl) (by simp) ?_; refine AllReadyH.cons rfl (fun K hK => ?_) AllReadyH.nil; (try simp only [Act.put, List.setIfInBounds_toArray, List.set_cons_zero, List.set_cons_succ, List.getElem_toArray, List.getElem_cons_zero, List.getElem_cons_succ]); go_simp; (go_at_call 43; ((with_reducible refine (copied_any (rs := out) Hv3.out Hshc.out).mono ?_); rintro e w6 ⟨A6, n6, c6, rfl, ho6, hf6⟩)); (try go_wp2_with fail); refine hK.out _ _ ?_ (fun hHeld => ?_); focus ((try dsimp only); exact hn1; done)); (clear hK K); (try simp only [Act.put, List.setIfInBounds_toArray, List.set_cons_zero, List.set_cons_succ, List.getElem_toArray, List.getElem_cons_zero, List.getElem_cons_succ])
    ((refine wpAnyH_take (i := 10) (v := ?_) rfl (by kernel_rfl) (by kernel_rfl) (by kernel_rfl) (fun _ _ _ h => h) (Or.inl ⟨by rfl, ?_⟩) (by assumption) ?_; rotate_left; focus (intro w hSw; (try dsimp only at hSw); go_simp; (try with_reducible rfl); done)); (try simp only [Act.put, List.setIfInBounds_toArray, List.set_cons_zero, List.set_cons_succ, List.getElem_toArray, List.getElem_cons_zero, List.getElem_cons_succ]); (refine wpAnyH_take (i := 11) (v := ?_) rfl (by kernel_rfl) (by kernel_rfl) (by kernel_rfl) (fun _ _ _ h => h) (Or.inl ⟨by rfl, ?_⟩) (by assumption) ?_; rotate_left; focus (intro w hSw; (try dsimp only at hSw); go_simp; (try with_reducible rfl); done)); (try simp only [Act.put, List.setIfInBounds_toArray, List.set_cons_zero, List.set_cons_succ, List.getElem_toArray, List.getElem_cons_zero, List.getElem_cons_succ]))
    (refine wpAnyH_done (by kernel_rfl) ?_ _)
    go_wp2
    go_ret2
    exact ⟨A6, n6, c6, rfl, ho6.base_ Hf3.out.size, Hf3.out.tr hf6⟩
/-- The first append of the document's put and cut. -/
theorem first_app {A' : Option Addr} {i c' : Nat} {ps : List Pr} (hpl : ps.length = n) (hcs : Rcs w A n (rcells ps)) (hps : ∀ p ∈ ps, Pk w (fun b => b < w.heap.size) p) (hi : i ≤ n) (hn : n ≤ 1000000) (hA' : 0 < i → ∀ b off, A = some ⟨b, off, none⟩ → A' = some ⟨b, off, none⟩) :
    ∃ A1 c1 w1, (appSem #[22, 22] 22 #[.slice none 0 0, .slice A' i c']).run Try.prog w = .ok (.slice A1 i c1) w1 ∧ Ow w1 w.heap.size 38 (fun b => b < w.heap.size) A1 i c1 (recs (ps.take i)) ∧ Fr No w w1 := by
  have h0 : Rcs w A' i (rcells (ps.take i)) := by
    have := hcs.sub hpl 0 i (Nat.zero_le _) (by omega) A' (fun h b off e => by rw [hA' h b off e]; simp)
    simpa using this
  obtain ⟨A1, c1, w1, hrun, hO, hg, _⟩ := app_recs (Pg := Try.prog) 22 _ 40 Try.underlying22 info_rec rfl (by decide) (Ow.nil_ w w.heap.size 38 (fun b => b < w.heap.size)) (ps := ps.take i) (fun p hp => (hps p (List.mem_of_mem_take hp)).mono (fun b hb => ⟨hb, fun g o e => by cases e⟩)) (A := A') (m := i) (c := c') (by rw [List.length_take]; omega) h0 (by omega) (Nat.le_refl _)
  rw [Nat.zero_add] at hrun hO
  exact ⟨A1, c1, w1, hrun, by simpa using hO, (Fr.refl No w).grown hg (fun k hk => by cases hk)⟩
/-- What comes behind, once the list's block is the call's own. -/
theorem last_app {w1 : World} {A1 A2 : Option Addr} {c1 c2 i j : Nat} {ps : List Pr} {out : List Rv.Rec} (hO : Ow w1 w.heap.size 38 (fun b => b < w.heap.size) A1 i c1 out) (f1 : Fr No w w1) (hpl : ps.length = n) (hcs : Rcs w A n (rcells ps)) (hps : ∀ p ∈ ps, Pk w (fun b => b < w.heap.size) p) (hj : j ≤ n) (hi : i ≤ 1000001) (hn : n ≤ 1000000) (hA2 : j < n → ∀ b off, A = some ⟨b, off, none⟩ → A2 = some ⟨b, off + j * 2, none⟩) :
    ∃ A3 c3 w3, (appSem #[22, 22] 22 #[.slice A1 i c1, .slice A2 (n - j) c2]).run Try.prog w1 = .ok (.slice A3 (i + (n - j)) c3) w3 ∧ Ow w3 w.heap.size 38 (fun b => b < w.heap.size) A3 (i + (n - j)) c3 (out ++ recs (ps.drop j)) ∧ Fr No w w3 := by
  have h2 : Rcs w A2 (n - j) (rcells (ps.drop j)) := by
    have := hcs.sub hpl j n hj (Nat.le_refl _) A2 hA2
    rwa [List.take_of_length_le (by omega)] at this
  obtain ⟨A3, c3, w3, hrun, hO3, hg3, _⟩ := app_recs (Pg := Try.prog) 22 _ 40 Try.underlying22 info_rec rfl (by decide) hO (ps := ps.drop j) (fun p hp => ((hps p (List.mem_of_mem_drop hp)).no f1).mono (fun b hb => ⟨hb, fun g o e => by
    subst e
    have := (hO.blk g rfl).1
    omega⟩)) (A := A2) (m := n - j) (c := c2) (by rw [List.length_drop]; omega) (h2.no f1) (by omega) f1.size
  exact ⟨A3, c3, w3, hrun, hO3, f1.grown hg3 (fun q hq => .inr (hO.blk q hq).1)⟩
theorem rcut_core {A2 : Option Addr} {i j c' c2 : Nat} {out : List Rv.Rec} (hr : Rv w A n c rs) (hi : i ≤ n) (hj : j ≤ n) (hn : n ≤ 1000000) (hA2 : j < n → ∀ b off, A = some ⟨b, off, none⟩ → A2 = some ⟨b, off + j * 2, none⟩) (hout : out = rs.take i ++ rs.drop j) :
    ∃ A1 c1 w1 A3 n3 c3 w3, (appSem #[22, 22] 22 #[.slice none 0 0, .slice A i c']).run Try.prog w = .ok (.slice A1 i c1) w1 ∧ (appSem #[22, 22] 22 #[.slice A1 i c1, .slice A2 (n - j) c2]).run Try.prog w1 = .ok (.slice A3 n3 c3) w3 ∧ Rv w3 A3 n3 c3 out ∧ Fr No w w3 := by
  obtain ⟨ps, hrs, hcs, hps⟩ := Rv.parts hr
  have hpl : ps.length = n := by rw [hr.len, ← hrs, recs_len]
  obtain ⟨A1, c1, w1, hrun1, hO1, f1⟩ := first_app (A' := A) (c' := c') hpl hcs hps hi hn (fun _ b off e => e)
  obtain ⟨A3, c3, w3, hrun2, hO3, f3⟩ := last_app (A2 := A2) (c2 := c2) (j := j) hO1 f1 hpl hcs hps hj (by omega) hn hA2
  refine ⟨A1, c1, w1, A3, _, c3, w3, hrun1, hrun2, ?_, f3⟩
  have e : recs (ps.take i) ++ recs (ps.drop j) = out := by rw [recs_take, recs_drop, hrs, hout]
  rw [← e]
  exact hO3.rv
theorem rput_core {A2 : Option Addr} {i j c' c2 : Nat} {out : List Rv.Rec} (hr : Rv w A n c rs) (hk : Kv w K k.length kc k) (hz : s.size ≤ maxLen) (hi : i ≤ n) (hj : j ≤ n) (hn : n ≤ 1000000) (hA2 : j < n → ∀ b off, A = some ⟨b, off, none⟩ → A2 = some ⟨b, off + j * 2, none⟩) (hout : out = rs.take i ++ (k, s) :: rs.drop j) :
    ∃ A1 c1 w1 A5 c5 w5 A3 n3 c3 w3, (appSem #[22, 22] 22 #[.slice none 0 0, .slice A i c']).run Try.prog w = .ok (.slice A1 i c1) w1 ∧
      (appSem #[22, 22] 22 #[.slice A1 i c1, .slice (some ⟨w1.heap.size, 0, none⟩) 1 1]).run Try.prog (w1.alloc (.cells #[.slice K k.length kc, .string s] 38)) = .ok (.slice A5 (i + 1) c5) w5 ∧
      (appSem #[22, 22] 22 #[.slice A5 (i + 1) c5, .slice A2 (n - j) c2]).run Try.prog w5 = .ok (.slice A3 n3 c3) w3 ∧ Rv w3 A3 n3 c3 out ∧ Fr No w w3 ∧ Fr No w w1 := by
  obtain ⟨ps, hrs, hcs, hps⟩ := Rv.parts hr
  have hpl : ps.length = n := by rw [hr.len, ← hrs, recs_len]
  obtain ⟨A1, c1, w1, hrun1, hO1, f1⟩ := first_app (A' := A) (c' := c') hpl hcs hps hi hn (fun _ b off e => e)
  have hp : Pk w (fun b => b < w.heap.size) (K, kc, (k, s)) := (Pk.lt (P := fun _ => True) ⟨hk, hz, fun _ _ _ _ => trivial⟩).mono (fun b hb => hb.2)
  obtain ⟨A5, c5, w5, hrun5, hO5, hg5, hfr5, _⟩ := push_old hO1 f1.size ((hp.no f1).mono (fun b hb => ⟨hb, fun g o e => by
    subst e
    have := (hO1.blk g rfl).1
    omega⟩)) (by omega)
  have f5 := hfr5 w (Nat.le_refl _) f1
  obtain ⟨A3, c3, w3, hrun2, hO3, f3⟩ := last_app (A2 := A2) (c2 := c2) (j := j) hO5 f5 hpl hcs hps hj (by omega) hn hA2
  refine ⟨A1, c1, w1, A5, c5, w5, A3, _, c3, w3, hrun1, hrun5, hrun2, ?_, f3, f1⟩
  have e : recs (ps.take i) ++ [(k, s)] ++ recs (ps.drop j) = out := by rw [recs_take, recs_drop, hrs, hout]; simp
  rw [← e]
  exact hO3.rv
set_option maxHeartbeats 1600000 in
theorem rcut_any (hr : Rv w A n c rs) (hk : Kv w K m kc k) (hsh : Short rs) : Calls Try.prog 24 #[.slice A n c, .slice K m kc] w fun e w' => ∃ A1 n1 c1, e = .returned (.tuple #[.slice A1 n1 c1, .bool (fis rs k)]) ∧ Ow w' w.heap.size 38 (fun _ => True) A1 n1 c1 (cut rs k) ∧ Fr No w w' := by
  have hcap := hr.cap
  have hmost := hr.most
  have hfl : fpos rs k ≤ n := by have := fpos_le rs k; have := hr.len; omega
  have hn1 : n ≤ 1000000 := by have := hsh.1; have := hr.len; omega
  have Hr := Lib.hid hr
  have Hk := Lib.hid hk
  have Hsh := Lib.hid hsh
  clear hr hk hsh
  cases hfis : fis rs k with
  | false =>
    have Hcut := Lib.hid (show cut rs k = rs by simp [cut, hfis])
    have Hfis := Lib.hid hfis
    clear hfis
    go_enter Try.func24, Try.ntmps24
    go_wp2_with first
      | (go_at_call 26; ((with_reducible refine (rfind_any (rs := rs) (k := k) ?_ ?_).mono ?_); (focus ((have hr := Hr.out); (repeat (first | with_reducible assumption | with_reducible exact Rv.none_ _ | with_reducible refine Rv.alloc ?_ _ | with_reducible refine Rv.drew ?_ | with_reducible refine Rv.drewN ?_ _ | with_reducible refine Rv.no ?_ (by assumption))))); (focus ((have hk := Hk.out); (repeat (first | with_reducible assumption | ((with_reducible refine Kv.lit_new _ _ _ _ _ _ ?_ ?_ ?_ ?_) <;> (first | (simp; done) | rfl | decide)) | with_reducible exact Kv.none_ _ | with_reducible refine Kv.alloc ?_ _ | with_reducible refine Kv.drew ?_ | with_reducible refine Kv.drewN ?_ _ | with_reducible refine Kv.no ?_ (by assumption))))); rintro e w5 ⟨rfl, hf5⟩; rw [Hfis.out]))
      | (go_at_call 21; ((with_reducible refine (copies_any (rs := rs) (Hr.out.no hf5) Hsh.out).mono ?_); rintro e w6 ⟨A6, n6, c6, rfl, ho6, hf6⟩))
      | fail
    go_ret2
    exact ⟨A6, n6, c6, rfl, by rw [Hcut.out]; exact ho6.base_ hf5.size, hf5.tr hf6⟩
  | true =>
    have Hcut := Lib.hid (show cut rs k = rs.take (fpos rs k) ++ rs.drop (fpos rs k + 1) by simp [cut, hfis])
    have hin : fpos rs k < n := by obtain ⟨h1, _⟩ := (fis_iff rs k).1 hfis; have := Hr.out.len; omega
    have Hshc := Lib.hid (show Short (cut rs k) from ⟨by have := Hsh.out.1; rw [Hcut.out, List.length_append, List.length_take, List.length_drop]; omega, fun r hr => Hsh.out.2 r (by rw [Hcut.out] at hr; rcases List.mem_append.1 hr with h | h; exact List.mem_of_mem_take h; exact List.mem_of_mem_drop h)⟩)
    have Hfis := Lib.hid hfis
    clear hfis
    generalize hfp : fpos rs k = i at *
    have Hfp := Lib.hid hfp
    clear hfp
    generalize cut rs k = out at *
    obtain ⟨A2, hA2⟩ : ∃ A2, (if c = i + 1 then A else Option.map (fun x => x.add ((i + 1) * 2)) A) = A2 := ⟨_, rfl⟩
    have HA2 := Lib.hid (show i + 1 < n → ∀ b off, A = some ⟨b, off, none⟩ → A2 = some ⟨b, off + (i + 1) * 2, none⟩ from fun h b off e => by
      subst e
      rw [← hA2, if_neg (by omega)]
      simp [add_lit])
    have hic : i ≤ c := by omega
    have hin2 : i ≤ n := by omega
    have hin3 : i + 1 ≤ n := hin
    go_enter Try.func24, Try.ntmps24
    go_wp2_with first
      | (go_at_call 26; ((with_reducible refine (rfind_any (rs := rs) (k := k) ?_ ?_).mono ?_); (focus ((have hr := Hr.out); (repeat (first | with_reducible assumption | with_reducible exact Rv.none_ _ | with_reducible refine Rv.alloc ?_ _ | with_reducible refine Rv.drew ?_ | with_reducible refine Rv.drewN ?_ _ | with_reducible refine Rv.no ?_ (by assumption))))); (focus ((have hk := Hk.out); (repeat (first | with_reducible assumption | ((with_reducible refine Kv.lit_new _ _ _ _ _ _ ?_ ?_ ?_ ?_) <;> (first | (simp; done) | rfl | decide)) | with_reducible exact Kv.none_ _ | with_reducible refine Kv.alloc ?_ _ | with_reducible refine Kv.drew ?_ | with_reducible refine Kv.drewN ?_ _ | with_reducible refine Kv.no ?_ (by assumption))))); rintro e w5 ⟨rfl, hf5⟩; rw [Hfp.out, Hfis.out]; (obtain ⟨A1, c1, w1, A3, n3, c3, w3, hrun1, hrun2, hv3, hf3⟩ := rcut_core (c' := c) (A2 := A2) (c2 := c - (i + 1)) (j := i + 1) (Hr.out.no hf5) hin2 hin3 hn1 HA2.out Hcut.out); (have Hv3 := Lib.hid hv3); (have Hf3 := Lib.hid (hf5.tr hf3)); clear hv3 hf3))
      | (go_at_call 21; ((with_reducible refine (copies_any (rs := out) Hv3.out Hshc.out).mono ?_); rintro e w6 ⟨A6, n6, c6, rfl, ho6, hf6⟩))
      | fail
    go_ret2
    exact ⟨A6, n6, c6, rfl, ho6.base_ Hf3.out.size, Hf3.out.tr hf6⟩
set_option maxHeartbeats 1600000 in
theorem rput_any (hr : Rv w A n c rs) (hk : Kv w K k.length kc k) (hz : s.size ≤ maxLen) (hsh : Short (put rs (k, s))) (hn1 : n ≤ 1000000) : Calls Try.prog 27 #[.slice A n c, .agg #[.slice K k.length kc, .string s]] w (RecsRet w (put rs (k, s))) := by
  have hcap := hr.cap
  have hmost := hr.most
  have hfl : fpos rs k ≤ n := by have := fpos_le rs k; have := hr.len; omega
  have Hr := Lib.hid hr
  have Hk := Lib.hid hk
  have Hsh := Lib.hid hsh
  clear hr hk hsh
  have Hput := Lib.hid (show put rs (k, s) = rs.take (fpos rs k) ++ (k, s) :: rs.drop (if fis rs k = true then fpos rs k + 1 else fpos rs k) from rfl)
  have Hfi := Lib.hid (show fis rs k = true → fpos rs k + 1 ≤ n from fun h => by obtain ⟨h1, _⟩ := (fis_iff rs k).1 h; have := Hr.out.len; omega)
  generalize hfp : fpos rs k = i at *
  have Hfp := Lib.hid hfp
  clear hfp
  generalize put rs (k, s) = out at *
  have hic : i ≤ c := by omega
  cases hfis : fis rs k with
  | true =>
    have Hfis := Lib.hid hfis
    rw [hfis] at Hfi Hput
    clear hfis
    have hin := Hfi.out rfl
    obtain ⟨A2, hA2⟩ : ∃ A2, (if c = i + 1 then A else Option.map (fun x => x.add ((i + 1) * 2)) A) = A2 := ⟨_, rfl⟩
    have HA2 := Lib.hid (show i + 1 < n → ∀ b off, A = some ⟨b, off, none⟩ → A2 = some ⟨b, off + (i + 1) * 2, none⟩ from fun h b off e => by
      subst e
      rw [← hA2, if_neg (by omega)]
      simp [add_lit])
    go_enter Try.func27, Try.ntmps27
    go_wp2_with first
      | (go_at_call 26; ((with_reducible refine (rfind_any (rs := rs) (k := k) ?_ ?_).mono ?_); (focus ((have hr := Hr.out); (repeat (first | with_reducible assumption | with_reducible exact Rv.none_ _ | with_reducible refine Rv.alloc ?_ _ | with_reducible refine Rv.drew ?_ | with_reducible refine Rv.drewN ?_ _ | with_reducible refine Rv.no ?_ (by assumption))))); (focus ((have hk := Hk.out); (repeat (first | with_reducible assumption | ((with_reducible refine Kv.lit_new _ _ _ _ _ _ ?_ ?_ ?_ ?_) <;> (first | (simp; done) | rfl | decide)) | with_reducible exact Kv.none_ _ | with_reducible refine Kv.alloc ?_ _ | with_reducible refine Kv.drew ?_ | with_reducible refine Kv.drewN ?_ _ | with_reducible refine Kv.no ?_ (by assumption))))); rintro e w5 ⟨rfl, hf5⟩; rw [Hfp.out, Hfis.out]; (have hob := (Ob.new w #[.slice K k.length kc, .string s] 38).no hf5); (obtain ⟨A1, c1, w1, A5, c5, w7, A3, n3, c3, w3, hrun1, hrun5, hrun2, hv3, hf3, hf1⟩ := rput_core (c' := c) (A2 := A2) (c2 := c - (i + 1)) (i := i) (j := i + 1) (s := s) ((Hr.out.alloc _).no hf5) ((Hk.out.alloc _).no hf5) hz hfl hin hn1 HA2.out Hput.out); (obtain ⟨b0, b1⟩ := cells2 (hob.no hf1)); (have Hv3 := Lib.hid hv3); (have Hf3 := Lib.hid ((((Fr.refl No w).alloc _).tr hf5).tr hf3)); clear hv3 hf3 hf1 hob))
      | (go_at_call 21; ((with_reducible refine (copies_any (rs := out) Hv3.out Hsh.out).mono ?_); rintro e w6 ⟨A6, n6, c6, rfl, ho6, hf6⟩))
      | fail
    go_ret
    exact ⟨A6, n6, c6, rfl, ho6.base_ Hf3.out.size, Hf3.out.tr hf6⟩
  | false =>
    have Hfis := Lib.hid hfis
    rw [hfis] at Hfi Hput
    clear hfis
    obtain ⟨A2, hA2⟩ : ∃ A2, (if c = i then A else Option.map (fun x => x.add (i * 2)) A) = A2 := ⟨_, rfl⟩
    have HA2 := Lib.hid (show i < n → ∀ b off, A = some ⟨b, off, none⟩ → A2 = some ⟨b, off + i * 2, none⟩ from fun h b off e => by
      subst e
      rw [← hA2, if_neg (by omega)]
      simp [add_lit])
    go_enter Try.func27, Try.ntmps27
    go_wp2_with first
      | (go_at_call 26; ((with_reducible refine (rfind_any (rs := rs) (k := k) ?_ ?_).mono ?_); (focus ((have hr := Hr.out); (repeat (first | with_reducible assumption | with_reducible exact Rv.none_ _ | with_reducible refine Rv.alloc ?_ _ | with_reducible refine Rv.drew ?_ | with_reducible refine Rv.drewN ?_ _ | with_reducible refine Rv.no ?_ (by assumption))))); (focus ((have hk := Hk.out); (repeat (first | with_reducible assumption | ((with_reducible refine Kv.lit_new _ _ _ _ _ _ ?_ ?_ ?_ ?_) <;> (first | (simp; done) | rfl | decide)) | with_reducible exact Kv.none_ _ | with_reducible refine Kv.alloc ?_ _ | with_reducible refine Kv.drew ?_ | with_reducible refine Kv.drewN ?_ _ | with_reducible refine Kv.no ?_ (by assumption))))); rintro e w5 ⟨rfl, hf5⟩; rw [Hfp.out, Hfis.out]; (have hob := (Ob.new w #[.slice K k.length kc, .string s] 38).no hf5); (obtain ⟨A1, c1, w1, A5, c5, w7, A3, n3, c3, w3, hrun1, hrun5, hrun2, hv3, hf3, hf1⟩ := rput_core (c' := c) (A2 := A2) (c2 := c - i) (i := i) (j := i) (s := s) ((Hr.out.alloc _).no hf5) ((Hk.out.alloc _).no hf5) hz hfl hfl hn1 HA2.out Hput.out); (obtain ⟨b0, b1⟩ := cells2 (hob.no hf1)); (have Hv3 := Lib.hid hv3); (have Hf3 := Lib.hid ((((Fr.refl No w).alloc _).tr hf5).tr hf3)); clear hv3 hf3 hf1 hob))
      | (go_at_call 21; ((with_reducible refine (copies_any (rs := out) Hv3.out Hsh.out).mono ?_); rintro e w6 ⟨A6, n6, c6, rfl, ho6, hf6⟩))
      | fail
    go_ret
    exact ⟨A6, n6, c6, rfl, ho6.base_ Hf3.out.size, Hf3.out.tr hf6⟩
end
end Go.Proofs.Ytehhmpoijonghaa.Bi10
