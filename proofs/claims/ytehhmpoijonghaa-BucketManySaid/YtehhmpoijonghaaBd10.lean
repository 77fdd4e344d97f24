/- Layer 10: the cursor: what is put by it, and what is got by it. -/
import Derived.Test.YtehhmpoijonghaaFa
import Derived.StillTailTactics
import Derived.Deep.RegionHeld3
namespace Go.Proofs.Ytehhmpoijonghaa.Bd10
open Go.RowKit Go.Proofs.Ytehhmpoijonghaa.Pk08 Go.Proofs.Ytehhmpoijonghaa.Base Go.Proofs.Ytehhmpoijonghaa.App Go.Proofs.Ytehhmpoijonghaa.Str Go.Proofs.Ytehhmpoijonghaa.Ky Go.Proofs.Ytehhmpoijonghaa.Bx Go.Proofs.Ytehhmpoijonghaa.Bo Go.Proofs.Ytehhmpoijonghaa.Fa
set_option linter.unusedVariables false
set_option linter.unusedSimpArgs false
section
variable {w : World} {gc ga gb n c : Nat}
theorem moved_any (a sz e0 e : Nat) (A : Value) (h : Ob w gc #[A, .int .i64 a, .int .i64 e0] 58) (ha : a ≤ 1000000) (hs : sz ≤ 1000000) :
    Calls Try.prog 49 #[.pointer (some ⟨gc, 0, none⟩), .int .i64 sz, .int .i64 e] w fun en w' => en = .returned (.tuple #[]) ∧ Ob w' gc #[A, .int .i64 ((a + sz : Nat) : Int), .int .i64 ((if e0 = 0 then e else e0 : Nat) : Int)] 58 ∧ Fr (fun k => k = gc) w w' := by
  have c1 := h.cell 1 rfl
  have c2 := h.cell 2 rfl
  have f1 := h.frozen 1
  have f2 := h.frozen 2
  have H := Lib.hid h
  clear h
  by_cases h0 : e0 = 0
  · subst h0
    rw [show ((0 : Nat) : Int) = 0 from rfl] at c2
    have H2 := Lib.hid (H.out.set 2 (.int .i64 (e : Int)))
    have d1 := H2.out.cell 1 rfl
    have g1 := H2.out.frozen 1
    go_enter Try.func49, Try.ntmps49
    go_wp2
    go_end0
    refine ⟨rfl, ?_, ((Fr.refl (fun k => k = gc) w).setCell (.inl rfl) _).setCell (.inl rfl) _⟩
    have := H2.out.set 1 (.int .i64 ((a : Int) + sz))
    simpa using this
  · have h0' : ¬ ((e0 : Int) = 0) := by omega
    go_enter Try.func49, Try.ntmps49
    go_wp2
    go_end0
    refine ⟨rfl, ?_, (Fr.refl (fun k => k = gc) w).setCell (.inl rfl) _⟩
    have := H.out.set 1 (.int .i64 ((a : Int) + sz))
    simpa [h0] using this
theorem moved_at (a sz e0 e : Nat) (zs ze : Int) (hzs : zs = (sz : Nat)) (hze : ze = (e : Nat)) (A : Value) (h : Ob w gc #[A, .int .i64 a, .int .i64 e0] 58) (ha : a ≤ 1000000) (hs : sz ≤ 1000000) :
    Calls Try.prog 49 #[.pointer (some ⟨gc, 0, none⟩), .int .i64 zs, .int .i64 ze] w fun en w' => en = .returned (.tuple #[]) ∧ Ob w' gc #[A, .int .i64 ((a + sz : Nat) : Int), .int .i64 ((if e0 = 0 then e else e0 : Nat) : Int)] 58 ∧ Fr (fun k => k = gc) w w' := by
  subst hzs hze
  exact moved_any a sz e0 e A h ha hs
structure Wc (w0 w : World) (gc ga gb N : Nat) (p : List Nat) : Prop where
  fr : Fr No w0 w
  oc : Ob w gc #[.pointer (some ⟨ga, 0, none⟩), .int .i64 (p.length : Nat), .int .i64 0] 58
  oa : Ob w ga #[.slice (some ⟨gb, 0, none⟩) N N] 74
  ob : Ob w gb (u8s (p ++ List.replicate (N - p.length) 0)).toArray 5
  hc : w0.heap.size ≤ gc
  ha : w0.heap.size ≤ ga
  hb : w0.heap.size ≤ gb
  ca : gc ≠ ga
  cb : gc ≠ gb
  ab : ga ≠ gb
  le : p.length ≤ N
  N2 : N ≤ 4096
theorem drop_rep (m k : Nat) : (List.replicate m 0 : List Nat).drop k = List.replicate (m - k) 0 := by simp
/-- What a put comes to, behind the area's Put. -/
theorem Wc.put {w0 w w5 w6 : World} {N : Nat} {p b : List Nat} (h : Wc w0 w gc ga gb N p) (hfit : p.length + b.length ≤ N)
    (ho5 : Ob w5 gb (u8s (p ++ b ++ (List.replicate (N - p.length) 0).drop b.length)).toArray 5) (hf5 : Fr (fun k => k = gb) w.drew w5)
    (ho6 : Ob w6 gc #[.pointer (some ⟨ga, 0, none⟩), .int .i64 ((p.length + b.length : Nat) : Int), .int .i64 ((if 0 = 0 then 0 else 0 : Nat) : Int)] 58) (hf6 : Fr (fun k => k = gc) w5 w6) :
    Wc w0 w6 gc ga gb N (p ++ b) ∧ Fr (fun k => k = gc ∨ k = gb) w w6 := by
  have hf : Fr (fun k => k = gc ∨ k = gb) w w6 := ((Fr.refl _ w).drew.tr (hf5.mono (fun k e => .inr e))).tr (hf6.mono (fun k e => .inl e))
  refine ⟨⟨?_, ?_, ?_, ?_, h.hc, h.ha, h.hb, h.ca, h.cb, h.ab, by simp; omega, h.N2⟩, hf⟩
  · exact h.fr.trans hf (fun k e => .inr (by rcases e with rfl | rfl; exact h.hc; exact h.hb))
  · simpa using ho6
  · exact h.oa.fr hf (by rintro (e | e); exact h.ca e.symm; exact h.ab e)
  · have := ho5.fr hf6 (fun e => h.cb e.symm)
    rw [drop_rep] at this
    rw [List.length_append, ← Nat.sub_sub]
    exact this
section
variable {w0 : World} {N : Nat} {p : List Nat}
theorem be4_len (v : Nat) : (be4 v).length = 4 := rfl
theorem be1_len (v : Nat) : (be1 v).length = 1 := rfl
set_option maxHeartbeats 1600000 in
theorem cput4 (h : Wc w0 w gc ga gb N p) (v : Nat) (hv : v < 4294967296) (hfit : p.length + 4 ≤ N) :
    Calls Try.prog 33 #[.pointer (some ⟨gc, 0, none⟩), .int .i64 4, .int .u32 v] w fun e w' => e = .returned (.tuple #[]) ∧ Wc w0 w' gc ga gb N (p ++ be4 v) ∧ Fr (fun k => k = gc ∨ k = gb) w w' := by
  have hp := fput4 (w := w.drew) (ga := ga) (gb := gb) (T := 5) p (List.replicate (N - p.length) 0) v N hv (by simp; omega) (by have := h.le; simp; omega) h.N2 (h.oa.drew.cell 0 rfl) h.ob.drew
  have c0 := h.oc.cell 0 rfl
  have c1 : w.drew.cell? ⟨gc, 1, none⟩ = some (.int .i64 (p.length : Nat)) := h.oc.drew.cell 1 rfl
  have H := Lib.hid h
  have hle : p.length ≤ 4096 := by have := h.le; have := h.N2; omega
  have Hp := Lib.hid hp
  clear h hp
  go_enter Try.func33, Try.ntmps33
  go_wp2
  (refine wp_region_held_drew (S := fun w' => w'.cell? ⟨gc, 0, none⟩ = some (.pointer (some ⟨ga, 0, none⟩))) (by kernel_rfl) ?_ (fun hHeld => ?_); focus ((try dsimp only); exact c0; done))
  ((refine wpAnyH_take (i := 0) (v := ?_) rfl (by kernel_rfl) (by kernel_rfl) (by kernel_rfl) (fun _ _ _ h => h) (Or.inl ⟨by rfl, ?_⟩) (by assumption) ?_; rotate_left; focus (intro w hSw; (try dsimp only at hSw); go_simp; (try with_reducible rfl); done)); (try simp only [Act.put, List.setIfInBounds_toArray, List.set_cons_zero, List.set_cons_succ, List.getElem_toArray, List.getElem_cons_zero, List.getElem_cons_succ]); (refine wpAnyH_take (i := 1) (v := ?_) rfl (by kernel_rfl) (by kernel_rfl) (by kernel_rfl) (fun _ _ _ h => h) (Or.inl ⟨by rfl, ?_⟩) (by assumption) ?_; rotate_left; focus (intro w hSw; (try dsimp only at hSw); go_simp; (try with_reducible rfl); done)); (try simp only [Act.put, List.setIfInBounds_toArray, List.set_cons_zero, List.set_cons_succ, List.getElem_toArray, List.getElem_cons_zero, List.getElem_cons_succ]); (refine wpAnyH_take (i := 2) (v := ?_) rfl (by kernel_rfl) (by kernel_rfl) (by kernel_rfl) (fun _ _ _ h => h) (Or.inl ⟨by rfl, ?_⟩) (by assumption) ?_; rotate_left; focus (intro w hSw; (try dsimp only at hSw); go_simp; (try with_reducible rfl); done)); (try simp only [Act.put, List.setIfInBounds_toArray, List.set_cons_zero, List.set_cons_succ, List.getElem_toArray, List.getElem_cons_zero, List.getElem_cons_succ]); (refine wpAnyH_take (i := 3) (v := ?_) rfl (by kernel_rfl) (by kernel_rfl) (by kernel_rfl) (fun _ _ _ h => h) (Or.inl ⟨by rfl, ?_⟩) (by assumption) ?_; rotate_left; focus (intro w hSw; (try dsimp only at hSw); go_simp; (try with_reducible rfl); done)); (try simp only [Act.put, List.setIfInBounds_toArray, List.set_cons_zero, List.set_cons_succ, List.getElem_toArray, List.getElem_cons_zero, List.getElem_cons_succ]); (refine wpAnyH_take (i := 4) (v := ?_) rfl (by kernel_rfl) (by kernel_rfl) (by kernel_rfl) (fun _ _ _ h => h) (Or.inl ⟨by rfl, ?_⟩) (by assumption) ?_; rotate_left; focus (intro w hSw; (try dsimp only at hSw); go_simp; (try with_reducible rfl); done)); (try simp only [Act.put, List.setIfInBounds_toArray, List.set_cons_zero, List.set_cons_succ, List.getElem_toArray, List.getElem_cons_zero, List.getElem_cons_succ]); (refine wpAnyH_take (i := 5) (v := ?_) rfl (by kernel_rfl) (by kernel_rfl) (by kernel_rfl) (fun _ _ _ h => h) (Or.inl ⟨by rfl, ?_⟩) (by assumption) ?_; rotate_left; focus (intro w hSw; (try dsimp only at hSw); go_simp; (try with_reducible rfl); done)); (try simp only [Act.put, List.setIfInBounds_toArray, List.set_cons_zero, List.set_cons_succ, List.getElem_toArray, List.getElem_cons_zero, List.getElem_cons_succ]); (refine wpAnyH_take (i := 6) (v := ?_) rfl (by kernel_rfl) (by kernel_rfl) (by kernel_rfl) (fun _ _ _ h => h) (Or.inl ⟨by rfl, ?_⟩) (by assumption) ?_; rotate_left; focus (intro w hSw; (try dsimp only at hSw); go_simp; (try with_reducible rfl); done)); (try simp only [Act.put, List.setIfInBounds_toArray, List.set_cons_zero, List.set_cons_succ, List.getElem_toArray, List.getElem_cons_zero, List.getElem_cons_succ]); (refine wpAnyH_take (i := 7) (v := ?_) rfl (by kernel_rfl) (by kernel_rfl) (by kernel_rfl) (fun _ _ _ h => h) (Or.inl ⟨by rfl, ?_⟩) (by assumption) ?_; rotate_left; focus (intro w hSw; (try dsimp only at hSw); go_simp; (try with_reducible rfl); done)); (try simp only [Act.put, List.setIfInBounds_toArray, List.set_cons_zero, List.set_cons_succ, List.getElem_toArray, List.getElem_cons_zero, List.getElem_cons_succ]); (refine wpAnyH_take (i := 8) (v := ?_) rfl (by kernel_rfl) (by kernel_rfl) (by kernel_rfl) (fun _ _ _ h => h) (Or.inl ⟨by rfl, ?_⟩) (by assumption) ?_; rotate_left; focus (intro w hSw; (try dsimp only at hSw); go_simp; (try with_reducible rfl); done)); (try simp only [Act.put, List.setIfInBounds_toArray, List.set_cons_zero, List.set_cons_succ, List.getElem_toArray, List.getElem_cons_zero, List.getElem_cons_succ]); (refine wpAnyH_take (i := 10) (v := ?_) rfl (by kernel_rfl) (by kernel_rfl) (by kernel_rfl) (fun _ _ _ h => h) (Or.inl ⟨by rfl, ?_⟩) (by assumption) ?_; rotate_left; focus (intro w hSw; (try dsimp only at hSw); go_simp; (try with_reducible rfl); done)); (try simp only [Act.put, List.setIfInBounds_toArray, List.set_cons_zero, List.set_cons_succ, List.getElem_toArray, List.getElem_cons_zero, List.getElem_cons_succ]); (refine wpAnyH_take (i := 11) (v := ?_) rfl (by kernel_rfl) (by kernel_rfl) (by kernel_rfl) (fun _ _ _ h => h) (Or.inl ⟨by rfl, ?_⟩) (by assumption) ?_; rotate_left; focus (intro w hSw; (try dsimp only at hSw); go_simp; (try with_reducible rfl); done)); (try simp only [Act.put, List.setIfInBounds_toArray, List.set_cons_zero, List.set_cons_succ, List.getElem_toArray, List.getElem_cons_zero, List.getElem_cons_succ]))
  (refine wpAnyH_ready (rs := [9]) (by kernel_rfl) (by simp) ?_; refine AllReadyH.cons rfl (fun K hK => ?_) AllReadyH.nil; (try simp only [Act.put, List.setIfInBounds_toArray, List.set_cons_zero, List.set_cons_succ, List.getElem_toArray, List.getElem_cons_zero, List.getElem_cons_succ]); go_simp; refine hK.out _ _ ?_ (fun hHeld => ?_); focus ((try dsimp only); exact hHeld; done)); (clear hK K); (try simp only [Act.put, List.setIfInBounds_toArray, List.set_cons_zero, List.set_cons_succ, List.getElem_toArray, List.getElem_cons_zero, List.getElem_cons_succ])
  (refine wpAnyH_ready (rs := [12]) (by kernel_rfl) (by simp) ?_; refine AllReadyH.cons rfl (fun K hK => ?_) AllReadyH.nil; (try simp only [Act.put, List.setIfInBounds_toArray, List.set_cons_zero, List.set_cons_succ, List.getElem_toArray, List.getElem_cons_zero, List.getElem_cons_succ]); go_simp; (go_at_call 50; ((with_reducible refine Hp.out.mono ?_); rintro e w5 ⟨rfl, ho5, hf5⟩)); (try go_wp2_with fail); refine hK.out _ _ ?_ (fun hHeld => ?_); focus ((try dsimp only); exact (H.out.oc.drew.fr hf5 H.out.cb).cell 0 rfl; done)); (clear hK K); (try simp only [Act.put, List.setIfInBounds_toArray, List.set_cons_zero, List.set_cons_succ, List.getElem_toArray, List.getElem_cons_zero, List.getElem_cons_succ])
  (refine wpAnyH_ready (rs := [13]) (by kernel_rfl) (by simp) ?_; refine AllReadyH.cons rfl (fun K hK => ?_) AllReadyH.nil; (try simp only [Act.put, List.setIfInBounds_toArray, List.set_cons_zero, List.set_cons_succ, List.getElem_toArray, List.getElem_cons_zero, List.getElem_cons_succ]); go_simp; (go_at_call 49; ((with_reducible refine (moved_at p.length 4 0 0 4 0 rfl rfl _ (H.out.oc.drew.fr hf5 H.out.cb) (by omega) (by omega)).mono ?_); rintro e w6 ⟨rfl, ho6, hf6⟩)); (try go_wp2_with fail); refine hK.out _ _ ?_ (fun hHeld => ?_); focus ((try dsimp only); exact ho6.cell 0 rfl; done)); (clear hK K); (try simp only [Act.put, List.setIfInBounds_toArray, List.set_cons_zero, List.set_cons_succ, List.getElem_toArray, List.getElem_cons_zero, List.getElem_cons_succ])
  (refine wpAnyH_done (by kernel_rfl) ?_ _)
  go_wp2
  go_end0
  exact ⟨rfl, H.out.put hfit ho5 hf5 ho6 hf6⟩
set_option maxHeartbeats 1600000 in
theorem cput1 (h : Wc w0 w gc ga gb N p) (v : Nat) (hv : v < 256) (hfit : p.length + 1 ≤ N) :
    Calls Try.prog 33 #[.pointer (some ⟨gc, 0, none⟩), .int .i64 1, .int .u32 v] w fun e w' => e = .returned (.tuple #[]) ∧ Wc w0 w' gc ga gb N (p ++ be1 v) ∧ Fr (fun k => k = gc ∨ k = gb) w w' := by
  have hp := fput1 (w := w.drew) (ga := ga) (gb := gb) (T := 5) p (List.replicate (N - p.length) 0) v N hv (by simp; omega) (by have := h.le; simp; omega) h.N2 (h.oa.drew.cell 0 rfl) h.ob.drew
  have c0 := h.oc.cell 0 rfl
  have c1 : w.drew.cell? ⟨gc, 1, none⟩ = some (.int .i64 (p.length : Nat)) := h.oc.drew.cell 1 rfl
  have H := Lib.hid h
  have hle : p.length ≤ 4096 := by have := h.le; have := h.N2; omega
  have Hp := Lib.hid hp
  clear h hp
  go_enter Try.func33, Try.ntmps33
  go_wp2
  (refine wp_region_held_drew (S := fun w' => w'.cell? ⟨gc, 0, none⟩ = some (.pointer (some ⟨ga, 0, none⟩))) (by kernel_rfl) ?_ (fun hHeld => ?_); focus ((try dsimp only); exact c0; done))
  ((refine wpAnyH_take (i := 0) (v := ?_) rfl (by kernel_rfl) (by kernel_rfl) (by kernel_rfl) (fun _ _ _ h => h) (Or.inl ⟨by rfl, ?_⟩) (by assumption) ?_; rotate_left; focus (intro w hSw; (try dsimp only at hSw); go_simp; (try with_reducible rfl); done)); (try simp only [Act.put, List.setIfInBounds_toArray, List.set_cons_zero, List.set_cons_succ, List.getElem_toArray, List.getElem_cons_zero, List.getElem_cons_succ]); (refine wpAnyH_take (i := 1) (v := ?_) rfl (by kernel_rfl) (by kernel_rfl) (by kernel_rfl) (fun _ _ _ h => h) (Or.inl ⟨by rfl, ?_⟩) (by assumption) ?_; rotate_left; focus (intro w hSw; (try dsimp only at hSw); go_simp; (try with_reducible rfl); done)); (try simp only [Act.put, List.setIfInBounds_toArray, List.set_cons_zero, List.set_cons_succ, List.getElem_toArray, List.getElem_cons_zero, List.getElem_cons_succ]); (refine wpAnyH_take (i := 2) (v := ?_) rfl (by kernel_rfl) (by kernel_rfl) (by kernel_rfl) (fun _ _ _ h => h) (Or.inl ⟨by rfl, ?_⟩) (by assumption) ?_; rotate_left; focus (intro w hSw; (try dsimp only at hSw); go_simp; (try with_reducible rfl); done)); (try simp only [Act.put, List.setIfInBounds_toArray, List.set_cons_zero, List.set_cons_succ, List.getElem_toArray, List.getElem_cons_zero, List.getElem_cons_succ]); (refine wpAnyH_take (i := 3) (v := ?_) rfl (by kernel_rfl) (by kernel_rfl) (by kernel_rfl) (fun _ _ _ h => h) (Or.inl ⟨by rfl, ?_⟩) (by assumption) ?_; rotate_left; focus (intro w hSw; (try dsimp only at hSw); go_simp; (try with_reducible rfl); done)); (try simp only [Act.put, List.setIfInBounds_toArray, List.set_cons_zero, List.set_cons_succ, List.getElem_toArray, List.getElem_cons_zero, List.getElem_cons_succ]); (refine wpAnyH_take (i := 4) (v := ?_) rfl (by kernel_rfl) (by kernel_rfl) (by kernel_rfl) (fun _ _ _ h => h) (Or.inl ⟨by rfl, ?_⟩) (by assumption) ?_; rotate_left; focus (intro w hSw; (try dsimp only at hSw); go_simp; (try with_reducible rfl); done)); (try simp only [Act.put, List.setIfInBounds_toArray, List.set_cons_zero, List.set_cons_succ, List.getElem_toArray, List.getElem_cons_zero, List.getElem_cons_succ]); (refine wpAnyH_take (i := 5) (v := ?_) rfl (by kernel_rfl) (by kernel_rfl) (by kernel_rfl) (fun _ _ _ h => h) (Or.inl ⟨by rfl, ?_⟩) (by assumption) ?_; rotate_left; focus (intro w hSw; (try dsimp only at hSw); go_simp; (try with_reducible rfl); done)); (try simp only [Act.put, List.setIfInBounds_toArray, List.set_cons_zero, List.set_cons_succ, List.getElem_toArray, List.getElem_cons_zero, List.getElem_cons_succ]); (refine wpAnyH_take (i := 6) (v := ?_) rfl (by kernel_rfl) (by kernel_rfl) (by kernel_rfl) (fun _ _ _ h => h) (Or.inl ⟨by rfl, ?_⟩) (by assumption) ?_; rotate_left; focus (intro w hSw; (try dsimp only at hSw); go_simp; (try with_reducible rfl); done)); (try simp only [Act.put, List.setIfInBounds_toArray, List.set_cons_zero, List.set_cons_succ, List.getElem_toArray, List.getElem_cons_zero, List.getElem_cons_succ]); (refine wpAnyH_take (i := 7) (v := ?_) rfl (by kernel_rfl) (by kernel_rfl) (by kernel_rfl) (fun _ _ _ h => h) (Or.inl ⟨by rfl, ?_⟩) (by assumption) ?_; rotate_left; focus (intro w hSw; (try dsimp only at hSw); go_simp; (try with_reducible rfl); done)); (try simp only [Act.put, List.setIfInBounds_toArray, List.set_cons_zero, List.set_cons_succ, List.getElem_toArray, List.getElem_cons_zero, List.getElem_cons_succ]); (refine wpAnyH_take (i := 8) (v := ?_) rfl (by kernel_rfl) (by kernel_rfl) (by kernel_rfl) (fun _ _ _ h => h) (Or.inl ⟨by rfl, ?_⟩) (by assumption) ?_; rotate_left; focus (intro w hSw; (try dsimp only at hSw); go_simp; (try with_reducible rfl); done)); (try simp only [Act.put, List.setIfInBounds_toArray, List.set_cons_zero, List.set_cons_succ, List.getElem_toArray, List.getElem_cons_zero, List.getElem_cons_succ]); (refine wpAnyH_take (i := 10) (v := ?_) rfl (by kernel_rfl) (by kernel_rfl) (by kernel_rfl) (fun _ _ _ h => h) (Or.inl ⟨by rfl, ?_⟩) (by assumption) ?_; rotate_left; focus (intro w hSw; (try dsimp only at hSw); go_simp; (try with_reducible rfl); done)); (try simp only [Act.put, List.setIfInBounds_toArray, List.set_cons_zero, List.set_cons_succ, List.getElem_toArray, List.getElem_cons_zero, List.getElem_cons_succ]); (refine wpAnyH_take (i := 11) (v := ?_) rfl (by kernel_rfl) (by kernel_rfl) (by kernel_rfl) (fun _ _ _ h => h) (Or.inl ⟨by rfl, ?_⟩) (by assumption) ?_; rotate_left; focus (intro w hSw; (try dsimp only at hSw); go_simp; (try with_reducible rfl); done)); (try simp only [Act.put, List.setIfInBounds_toArray, List.set_cons_zero, List.set_cons_succ, List.getElem_toArray, List.getElem_cons_zero, List.getElem_cons_succ]))
  (refine wpAnyH_ready (rs := [9]) (by kernel_rfl) (by simp) ?_; refine AllReadyH.cons rfl (fun K hK => ?_) AllReadyH.nil; (try simp only [Act.put, List.setIfInBounds_toArray, List.set_cons_zero, List.set_cons_succ, List.getElem_toArray, List.getElem_cons_zero, List.getElem_cons_succ]); go_simp; refine hK.out _ _ ?_ (fun hHeld => ?_); focus ((try dsimp only); exact hHeld; done)); (clear hK K); (try simp only [Act.put, List.setIfInBounds_toArray, List.set_cons_zero, List.set_cons_succ, List.getElem_toArray, List.getElem_cons_zero, List.getElem_cons_succ])
  (refine wpAnyH_ready (rs := [12]) (by kernel_rfl) (by simp) ?_; refine AllReadyH.cons rfl (fun K hK => ?_) AllReadyH.nil; (try simp only [Act.put, List.setIfInBounds_toArray, List.set_cons_zero, List.set_cons_succ, List.getElem_toArray, List.getElem_cons_zero, List.getElem_cons_succ]); go_simp; (go_at_call 50; ((with_reducible refine Hp.out.mono ?_); rintro e w5 ⟨rfl, ho5, hf5⟩)); (try go_wp2_with fail); refine hK.out _ _ ?_ (fun hHeld => ?_); focus ((try dsimp only); exact (H.out.oc.drew.fr hf5 H.out.cb).cell 0 rfl; done)); (clear hK K); (try simp only [Act.put, List.setIfInBounds_toArray, List.set_cons_zero, List.set_cons_succ, List.getElem_toArray, List.getElem_cons_zero, List.getElem_cons_succ])
  (refine wpAnyH_ready (rs := [13]) (by kernel_rfl) (by simp) ?_; refine AllReadyH.cons rfl (fun K hK => ?_) AllReadyH.nil; (try simp only [Act.put, List.setIfInBounds_toArray, List.set_cons_zero, List.set_cons_succ, List.getElem_toArray, List.getElem_cons_zero, List.getElem_cons_succ]); go_simp; (go_at_call 49; ((with_reducible refine (moved_at p.length 1 0 0 1 0 rfl rfl _ (H.out.oc.drew.fr hf5 H.out.cb) (by omega) (by omega)).mono ?_); rintro e w6 ⟨rfl, ho6, hf6⟩)); (try go_wp2_with fail); refine hK.out _ _ ?_ (fun hHeld => ?_); focus ((try dsimp only); exact ho6.cell 0 rfl; done)); (clear hK K); (try simp only [Act.put, List.setIfInBounds_toArray, List.set_cons_zero, List.set_cons_succ, List.getElem_toArray, List.getElem_cons_zero, List.getElem_cons_succ])
  (refine wpAnyH_done (by kernel_rfl) ?_ _)
  go_wp2
  go_end0
  exact ⟨rfl, H.out.put hfit ho5 hf5 ho6 hf6⟩
set_option maxHeartbeats 1600000 in
theorem cput_text (h : Wc w0 w gc ga gb N p) (s : ByteArray) (hfit : p.length + s.size ≤ N) :
    Calls Try.prog 34 #[.pointer (some ⟨gc, 0, none⟩), .string s] w fun e w' => e = .returned (.tuple #[]) ∧ Wc w0 w' gc ga gb N (p ++ bys s) ∧ Fr (fun k => k = gc ∨ k = gb) w w' := by
  have hp := fput_text (w := w.drew) (ga := ga) (gb := gb) (T := 5) p (List.replicate (N - p.length) 0) s N (by simp; omega) (by have := h.le; simp; omega) h.N2 (h.oa.drew.cell 0 rfl) h.ob.drew
  have c0 := h.oc.cell 0 rfl
  have c1 : w.drew.cell? ⟨gc, 1, none⟩ = some (.int .i64 (p.length : Nat)) := h.oc.drew.cell 1 rfl
  have hle : p.length ≤ 4096 ∧ s.size ≤ 4096 := by have := h.le; have := h.N2; omega
  have hle1 := hle.1
  have hle2 := hle.2
  have hbl := bys_len s
  have H := Lib.hid h
  have Hp := Lib.hid hp
  have Hl := Lib.hid hbl
  clear h hp hle hbl
  go_enter Try.func34, Try.ntmps34
  go_wp2
  (refine wp_region_held_drew (S := fun w' => w'.cell? ⟨gc, 0, none⟩ = some (.pointer (some ⟨ga, 0, none⟩))) (by kernel_rfl) ?_ (fun hHeld => ?_); focus ((try dsimp only); exact c0; done))
  ((refine wpAnyH_take (i := 0) (v := ?_) rfl (by kernel_rfl) (by kernel_rfl) (by kernel_rfl) (fun _ _ _ h => h) (Or.inl ⟨by rfl, ?_⟩) (by assumption) ?_; rotate_left; focus (intro w hSw; (try dsimp only at hSw); go_simp; (try with_reducible rfl); done)); (try simp only [Act.put, List.setIfInBounds_toArray, List.set_cons_zero, List.set_cons_succ, List.getElem_toArray, List.getElem_cons_zero, List.getElem_cons_succ]); (refine wpAnyH_take (i := 1) (v := ?_) rfl (by kernel_rfl) (by kernel_rfl) (by kernel_rfl) (fun _ _ _ h => h) (Or.inl ⟨by rfl, ?_⟩) (by assumption) ?_; rotate_left; focus (intro w hSw; (try dsimp only at hSw); go_simp; (try with_reducible rfl); done)); (try simp only [Act.put, List.setIfInBounds_toArray, List.set_cons_zero, List.set_cons_succ, List.getElem_toArray, List.getElem_cons_zero, List.getElem_cons_succ]); (refine wpAnyH_take (i := 2) (v := ?_) rfl (by kernel_rfl) (by kernel_rfl) (by kernel_rfl) (fun _ _ _ h => h) (Or.inl ⟨by rfl, ?_⟩) (by assumption) ?_; rotate_left; focus (intro w hSw; (try dsimp only at hSw); go_simp; (try with_reducible rfl); done)); (try simp only [Act.put, List.setIfInBounds_toArray, List.set_cons_zero, List.set_cons_succ, List.getElem_toArray, List.getElem_cons_zero, List.getElem_cons_succ]); (refine wpAnyH_take (i := 3) (v := ?_) rfl (by kernel_rfl) (by kernel_rfl) (by kernel_rfl) (fun _ _ _ h => h) (Or.inl ⟨by rfl, ?_⟩) (by assumption) ?_; rotate_left; focus (intro w hSw; (try dsimp only at hSw); go_simp; (try with_reducible rfl); done)); (try simp only [Act.put, List.setIfInBounds_toArray, List.set_cons_zero, List.set_cons_succ, List.getElem_toArray, List.getElem_cons_zero, List.getElem_cons_succ]); (refine wpAnyH_take (i := 4) (v := ?_) rfl (by kernel_rfl) (by kernel_rfl) (by kernel_rfl) (fun _ _ _ h => h) (Or.inl ⟨by rfl, ?_⟩) (by assumption) ?_; rotate_left; focus (intro w hSw; (try dsimp only at hSw); go_simp; (try with_reducible rfl); done)); (try simp only [Act.put, List.setIfInBounds_toArray, List.set_cons_zero, List.set_cons_succ, List.getElem_toArray, List.getElem_cons_zero, List.getElem_cons_succ]); (refine wpAnyH_take (i := 5) (v := ?_) rfl (by kernel_rfl) (by kernel_rfl) (by kernel_rfl) (fun _ _ _ h => h) (Or.inl ⟨by rfl, ?_⟩) (by assumption) ?_; rotate_left; focus (intro w hSw; (try dsimp only at hSw); go_simp; (try with_reducible rfl); done)); (try simp only [Act.put, List.setIfInBounds_toArray, List.set_cons_zero, List.set_cons_succ, List.getElem_toArray, List.getElem_cons_zero, List.getElem_cons_succ]); (refine wpAnyH_take (i := 6) (v := ?_) rfl (by kernel_rfl) (by kernel_rfl) (by kernel_rfl) (fun _ _ _ h => h) (Or.inl ⟨by rfl, ?_⟩) (by assumption) ?_; rotate_left; focus (intro w hSw; (try dsimp only at hSw); go_simp; (try with_reducible rfl); done)); (try simp only [Act.put, List.setIfInBounds_toArray, List.set_cons_zero, List.set_cons_succ, List.getElem_toArray, List.getElem_cons_zero, List.getElem_cons_succ]); (refine wpAnyH_take (i := 7) (v := ?_) rfl (by kernel_rfl) (by kernel_rfl) (by kernel_rfl) (fun _ _ _ h => h) (Or.inl ⟨by rfl, ?_⟩) (by assumption) ?_; rotate_left; focus (intro w hSw; (try dsimp only at hSw); go_simp; (try with_reducible rfl); done)); (try simp only [Act.put, List.setIfInBounds_toArray, List.set_cons_zero, List.set_cons_succ, List.getElem_toArray, List.getElem_cons_zero, List.getElem_cons_succ]); (refine wpAnyH_take (i := 8) (v := ?_) rfl (by kernel_rfl) (by kernel_rfl) (by kernel_rfl) (fun _ _ _ h => h) (Or.inl ⟨by rfl, ?_⟩) (by assumption) ?_; rotate_left; focus (intro w hSw; (try dsimp only at hSw); go_simp; (try with_reducible rfl); done)); (try simp only [Act.put, List.setIfInBounds_toArray, List.set_cons_zero, List.set_cons_succ, List.getElem_toArray, List.getElem_cons_zero, List.getElem_cons_succ]); (refine wpAnyH_take (i := 9) (v := ?_) rfl (by kernel_rfl) (by kernel_rfl) (by kernel_rfl) (fun _ _ _ h => h) (Or.inl ⟨by rfl, ?_⟩) (by assumption) ?_; rotate_left; focus (intro w hSw; (try dsimp only at hSw); go_simp; (try with_reducible rfl); done)); (try simp only [Act.put, List.setIfInBounds_toArray, List.set_cons_zero, List.set_cons_succ, List.getElem_toArray, List.getElem_cons_zero, List.getElem_cons_succ]); (refine wpAnyH_take (i := 11) (v := ?_) rfl (by kernel_rfl) (by kernel_rfl) (by kernel_rfl) (fun _ _ _ h => h) (Or.inl ⟨by rfl, ?_⟩) (by assumption) ?_; rotate_left; focus (intro w hSw; (try dsimp only at hSw); go_simp; (try with_reducible rfl); done)); (try simp only [Act.put, List.setIfInBounds_toArray, List.set_cons_zero, List.set_cons_succ, List.getElem_toArray, List.getElem_cons_zero, List.getElem_cons_succ]))
  (refine wpAnyH_ready (rs := [10]) (by kernel_rfl) (by simp) ?_; refine AllReadyH.cons rfl (fun K hK => ?_) AllReadyH.nil; (try simp only [Act.put, List.setIfInBounds_toArray, List.set_cons_zero, List.set_cons_succ, List.getElem_toArray, List.getElem_cons_zero, List.getElem_cons_succ]); go_simp; refine hK.out _ _ ?_ (fun hHeld => ?_); focus ((try dsimp only); exact hHeld; done)); (clear hK K); (try simp only [Act.put, List.setIfInBounds_toArray, List.set_cons_zero, List.set_cons_succ, List.getElem_toArray, List.getElem_cons_zero, List.getElem_cons_succ])
  (refine wpAnyH_ready (rs := [12]) (by kernel_rfl) (by simp) ?_; refine AllReadyH.cons rfl (fun K hK => ?_) AllReadyH.nil; (try simp only [Act.put, List.setIfInBounds_toArray, List.set_cons_zero, List.set_cons_succ, List.getElem_toArray, List.getElem_cons_zero, List.getElem_cons_succ]); go_simp; (go_at_call 51; ((with_reducible refine Hp.out.mono ?_); rintro e w5 ⟨rfl, ho5, hf5⟩)); (try go_wp2_with fail); refine hK.out _ _ ?_ (fun hHeld => ?_); focus ((try dsimp only); exact (H.out.oc.drew.fr hf5 H.out.cb).cell 0 rfl; done)); (clear hK K); (try simp only [Act.put, List.setIfInBounds_toArray, List.set_cons_zero, List.set_cons_succ, List.getElem_toArray, List.getElem_cons_zero, List.getElem_cons_succ])
  (refine wpAnyH_ready (rs := [13]) (by kernel_rfl) (by simp) ?_; refine AllReadyH.cons rfl (fun K hK => ?_) AllReadyH.nil; (try simp only [Act.put, List.setIfInBounds_toArray, List.set_cons_zero, List.set_cons_succ, List.getElem_toArray, List.getElem_cons_zero, List.getElem_cons_succ]); go_simp; (go_at_call 49; ((with_reducible refine (moved_at p.length s.size 0 0 _ 0 rfl rfl _ (H.out.oc.drew.fr hf5 H.out.cb) (by omega) (by omega)).mono ?_); rintro e w6 ⟨rfl, ho6, hf6⟩)); (try go_wp2_with fail); refine hK.out _ _ ?_ (fun hHeld => ?_); focus ((try dsimp only); exact ho6.cell 0 rfl; done)); (clear hK K); (try simp only [Act.put, List.setIfInBounds_toArray, List.set_cons_zero, List.set_cons_succ, List.getElem_toArray, List.getElem_cons_zero, List.getElem_cons_succ])
  (refine wpAnyH_done (by kernel_rfl) ?_ _)
  go_wp2
  go_end0
  refine ⟨rfl, H.out.put (by rw [Hl.out]; exact hfit) ?_ hf5 ?_ hf6⟩
  · rw [Hl.out]; exact ho5
  · rw [Hl.out]; exact ho6
end
theorem cel_fr {S : Nat → Prop} {w w1 : World} {p : Addr} {v : Value} (h : w.cell? p = some v) (f : Fr S w w1) (hn : ¬ S p.block) : w1.cell? p = some v := by
  rw [World.cell?_of_block (w := w) (f.block _ (World.block_lt_of_cell? w _ h) hn)]
  exact h
/-- A cursor that reads a text. -/
structure Cr (w : World) (gc ga gb n c : Nat) (s : ByteArray) (a : Nat) : Prop where
  oc : Ob w gc #[.pointer (some ⟨ga, 0, none⟩), .int .i64 a, .int .i64 ((if a ≤ n then 0 else 1 : Nat) : Int)] 58
  c0 : w.cell? ⟨ga, 0, none⟩ = some (.slice (some ⟨gb, 0, none⟩) n c)
  hn : n ≤ 4096
  hc : n ≤ c
  hs : s.size = n
  hb : ∀ i, i < n → w.cell? ⟨gb, i, none⟩ = some (.int .u8 (((bys s).getD i 0 : Nat) : Int))
  ca : gc ≠ ga
  cb : gc ≠ gb
theorem Cr.fr {S : Nat → Prop} {w w1 : World} {s : ByteArray} {a : Nat} (h : Cr w gc ga gb n c s a) (f : Fr S w w1) (hS : ∀ k, S k → k ≠ gc ∧ k ≠ ga ∧ k ≠ gb) : Cr w1 gc ga gb n c s a := by
  refine ⟨h.oc.fr f (fun e => (hS _ e).1 rfl), ?_, h.hn, h.hc, h.hs, fun i hi => ?_, h.ca, h.cb⟩
  · exact cel_fr h.c0 f (fun e => (hS _ e).2.1 rfl)
  · exact cel_fr (h.hb i hi) f (fun e => (hS _ e).2.2 rfl)
theorem bys_getD_lt (s : ByteArray) (i : Nat) : (bys s).getD i 0 < 256 := by
  rw [List.getD_eq_getElem?_getD]
  by_cases h : i < (bys s).length
  · rw [List.getElem?_eq_getElem h]; exact bys_lt s _ (List.getElem_mem h)
  · rw [List.getElem?_eq_none (by omega)]; decide
def gk (s : ByteArray) (a wd : Nat) : Nat := if a + wd ≤ s.size then numk (bys s) a wd else 0
def gt (s : ByteArray) (a sz : Nat) : ByteArray := if a + sz ≤ s.size then sub s a sz else { data := #[] }
theorem Cr.get {s : ByteArray} {a : Nat} (h : Cr w gc ga gb n c s a) (wd : Nat) (hw : wd = 1 ∨ wd = 4) (ha : a ≤ 100000) :
    Calls Try.prog 52 #[.pointer (some ⟨ga, 0, none⟩), .int .i64 a, .int .i64 wd] w fun e w' => e = .returned (.tuple #[.int .u32 ((gk s a wd : Nat) : Int), .int .i64 ((if a + wd ≤ n then 0 else 1 : Nat) : Int)]) ∧ w = w' := by
  by_cases hf : a + wd ≤ n
  · rw [if_pos hf, gk, if_pos (by rw [h.hs]; exact hf)]
    exact fget_in (bys s) a wd hw h.c0 h.hn h.hc hf h.hb (bys_getD_lt s)
  · rw [if_neg hf, gk, if_neg (by rw [h.hs]; exact hf)]
    exact fget_out a wd hw h.c0 h.hn (by omega) (by omega)
theorem Cr.txt {s : ByteArray} {a : Nat} (h : Cr w gc ga gb n c s a) (sz : Nat) (hz : sz ≤ 100000) (ha : a ≤ 100000) :
    Calls Try.prog 53 #[.pointer (some ⟨ga, 0, none⟩), .int .i64 a, .int .i64 sz] w fun e w' => e = .returned (.tuple #[.string (gt s a sz), .int .i64 ((if a + sz ≤ n then 0 else 1 : Nat) : Int)]) ∧ w = w' := by
  by_cases hf : a + sz ≤ n
  · rw [if_pos hf, gt, if_pos (by rw [h.hs]; exact hf)]
    exact ftext_in s a sz h.c0 h.hn h.hc hf h.hs h.hb
  · rw [if_neg hf, gt, if_neg (by rw [h.hs]; exact hf)]
    exact ftext_out a sz h.c0 h.hn (by omega) (by omega) (by omega)
theorem Cr.on {s : ByteArray} {a wd : Nat} {w w6 : World} (h : Cr w gc ga gb n c s a)
    (ho6 : Ob w6 gc #[.pointer (some ⟨ga, 0, none⟩), .int .i64 ((a + wd : Nat) : Int), .int .i64 ((if (if a ≤ n then 0 else 1) = 0 then (if a + wd ≤ n then 0 else 1) else (if a ≤ n then 0 else 1) : Nat) : Int)] 58) (hf6 : Fr (fun k => k = gc) w w6) :
    Cr w6 gc ga gb n c s (a + wd) := by
  have e : (if (if a ≤ n then 0 else 1) = 0 then (if a + wd ≤ n then 0 else 1) else (if a ≤ n then 0 else 1) : Nat) = if a + wd ≤ n then 0 else 1 := by
    by_cases h1 : a ≤ n
    · rw [if_pos h1, if_pos rfl]
    · rw [if_neg h1, if_neg (by decide), if_neg (by omega)]
  rw [e] at ho6
  refine ⟨ho6, cel_fr h.c0 hf6 (fun e => h.ca e.symm), h.hn, h.hc, h.hs, fun i hi => cel_fr (h.hb i hi) hf6 (fun e => h.cb e.symm), h.ca, h.cb⟩
set_option maxHeartbeats 1600000 in
theorem cget {s : ByteArray} {a : Nat} (h : Cr w gc ga gb n c s a) (wd : Nat) (zw : Int) (hzw : zw = (wd : Nat)) (hw : wd = 1 ∨ wd = 4) (ha : a ≤ 100000) :
    Calls Try.prog 38 #[.pointer (some ⟨gc, 0, none⟩), .int .i64 zw] w fun e w' => e = .returned (.int .u32 ((gk s a wd : Nat) : Int)) ∧ Cr w' gc ga gb n c s (a + wd) ∧ Fr (fun k => k = gc) w w' := by
  subst hzw
  have hd := h.fr ((Fr.refl (fun _ => False) w).drew) (fun k e => e.elim)
  have hg := hd.get wd hw ha
  have c0 := h.oc.cell 0 rfl
  have c1 := h.oc.cell 1 rfl
  have H := Lib.hid h
  have Hg := Lib.hid hg
  have Hd := Lib.hid hd
  have hw4 : wd ≤ 4 := by omega
  clear h hg hd hw
  generalize gk s a wd = tx at *
  generalize hev : (if a + wd ≤ n then 0 else 1 : Nat) = ev at *
  have Hev := Lib.hid hev
  clear hev
  go_enter Try.func38, Try.ntmps38
  go_wp2
  (refine wp_region_held_drew (S := fun w' => w'.cell? ⟨gc, 0, none⟩ = some (.pointer (some ⟨ga, 0, none⟩)) ∧ w'.cell? ⟨gc, 1, none⟩ = some (.int .i64 a)) (by kernel_rfl) ?_ (fun hHeld => ?_); focus ((try dsimp only); exact ⟨c0, c1⟩; done))
  ((refine wpAnyH_take (i := 0) (v := ?_) rfl (by kernel_rfl) (by kernel_rfl) (by kernel_rfl) (fun _ _ _ h => h) (Or.inl ⟨by rfl, ?_⟩) (by assumption) ?_; rotate_left; focus (intro w hSw; (try dsimp only at hSw); go_simp; (try with_reducible rfl); done)); (try simp only [Act.put, List.setIfInBounds_toArray, List.set_cons_zero, List.set_cons_succ, List.getElem_toArray, List.getElem_cons_zero, List.getElem_cons_succ]); (refine wpAnyH_take (i := 1) (v := ?_) rfl (by kernel_rfl) (by kernel_rfl) (by kernel_rfl) (fun _ _ _ h => h) (Or.inl ⟨by rfl, ?_⟩) (by assumption) ?_; rotate_left; focus (intro w hSw; (try dsimp only at hSw); go_simp; (try with_reducible rfl); done)); (try simp only [Act.put, List.setIfInBounds_toArray, List.set_cons_zero, List.set_cons_succ, List.getElem_toArray, List.getElem_cons_zero, List.getElem_cons_succ]); (refine wpAnyH_take (i := 2) (v := ?_) rfl (by kernel_rfl) (by kernel_rfl) (by kernel_rfl) (fun _ _ _ h => h) (Or.inl ⟨by rfl, ?_⟩) (by assumption) ?_; rotate_left; focus (intro w hSw; (try dsimp only at hSw); go_simp; (try with_reducible rfl); done)); (try simp only [Act.put, List.setIfInBounds_toArray, List.set_cons_zero, List.set_cons_succ, List.getElem_toArray, List.getElem_cons_zero, List.getElem_cons_succ]); (refine wpAnyH_take (i := 3) (v := ?_) rfl (by kernel_rfl) (by kernel_rfl) (by kernel_rfl) (fun _ _ _ h => h) (Or.inl ⟨by rfl, ?_⟩) (by assumption) ?_; rotate_left; focus (intro w hSw; (try dsimp only at hSw); go_simp; (try with_reducible rfl); done)); (try simp only [Act.put, List.setIfInBounds_toArray, List.set_cons_zero, List.set_cons_succ, List.getElem_toArray, List.getElem_cons_zero, List.getElem_cons_succ]); (refine wpAnyH_take (i := 4) (v := ?_) rfl (by kernel_rfl) (by kernel_rfl) (by kernel_rfl) (fun _ _ _ h => h) (Or.inl ⟨by rfl, ?_⟩) (by assumption) ?_; rotate_left; focus (intro w hSw; (try dsimp only at hSw); go_simp; (try with_reducible rfl); done)); (try simp only [Act.put, List.setIfInBounds_toArray, List.set_cons_zero, List.set_cons_succ, List.getElem_toArray, List.getElem_cons_zero, List.getElem_cons_succ]); (refine wpAnyH_take (i := 5) (v := ?_) rfl (by kernel_rfl) (by kernel_rfl) (by kernel_rfl) (fun _ _ _ h => h) (Or.inl ⟨by rfl, ?_⟩) (by assumption) ?_; rotate_left; focus (intro w hSw; (try dsimp only at hSw); go_simp; (try with_reducible rfl); done)); (try simp only [Act.put, List.setIfInBounds_toArray, List.set_cons_zero, List.set_cons_succ, List.getElem_toArray, List.getElem_cons_zero, List.getElem_cons_succ]); (refine wpAnyH_take (i := 6) (v := ?_) rfl (by kernel_rfl) (by kernel_rfl) (by kernel_rfl) (fun _ _ _ h => h) (Or.inl ⟨by rfl, ?_⟩) (by assumption) ?_; rotate_left; focus (intro w hSw; (try dsimp only at hSw); go_simp; (try with_reducible rfl); done)); (try simp only [Act.put, List.setIfInBounds_toArray, List.set_cons_zero, List.set_cons_succ, List.getElem_toArray, List.getElem_cons_zero, List.getElem_cons_succ]); (refine wpAnyH_take (i := 7) (v := ?_) rfl (by kernel_rfl) (by kernel_rfl) (by kernel_rfl) (fun _ _ _ h => h) (Or.inl ⟨by rfl, ?_⟩) (by assumption) ?_; rotate_left; focus (intro w hSw; (try dsimp only at hSw); go_simp; (try with_reducible rfl); done)); (try simp only [Act.put, List.setIfInBounds_toArray, List.set_cons_zero, List.set_cons_succ, List.getElem_toArray, List.getElem_cons_zero, List.getElem_cons_succ]); (refine wpAnyH_take (i := 8) (v := ?_) rfl (by kernel_rfl) (by kernel_rfl) (by kernel_rfl) (fun _ _ _ h => h) (Or.inl ⟨by rfl, ?_⟩) (by assumption) ?_; rotate_left; focus (intro w hSw; (try dsimp only at hSw); go_simp; (try with_reducible rfl); done)); (try simp only [Act.put, List.setIfInBounds_toArray, List.set_cons_zero, List.set_cons_succ, List.getElem_toArray, List.getElem_cons_zero, List.getElem_cons_succ]))
  (refine wpAnyH_ready (rs := [9]) (by kernel_rfl) (by simp) ?_; refine AllReadyH.cons rfl (fun K hK => ?_) AllReadyH.nil; (try simp only [Act.put, List.setIfInBounds_toArray, List.set_cons_zero, List.set_cons_succ, List.getElem_toArray, List.getElem_cons_zero, List.getElem_cons_succ]); go_simp; (go_at_call 52; ((with_reducible refine Hg.out.mono ?_); rintro e w5 ⟨rfl, rfl⟩)); (try go_wp2_with fail); refine hK.out _ _ ?_ (fun hHeld => ?_); focus ((try dsimp only); exact ⟨c0, c1⟩; done)); (clear hK K); (try simp only [Act.put, List.setIfInBounds_toArray, List.set_cons_zero, List.set_cons_succ, List.getElem_toArray, List.getElem_cons_zero, List.getElem_cons_succ])
  ((refine wpAnyH_take (i := 10) (v := ?_) rfl (by kernel_rfl) (by kernel_rfl) (by kernel_rfl) (fun _ _ _ h => h) (Or.inl ⟨by rfl, ?_⟩) (by assumption) ?_; rotate_left; focus (intro w hSw; (try dsimp only at hSw); go_simp; (try with_reducible rfl); done)); (try simp only [Act.put, List.setIfInBounds_toArray, List.set_cons_zero, List.set_cons_succ, List.getElem_toArray, List.getElem_cons_zero, List.getElem_cons_succ]); (refine wpAnyH_take (i := 11) (v := ?_) rfl (by kernel_rfl) (by kernel_rfl) (by kernel_rfl) (fun _ _ _ h => h) (Or.inl ⟨by rfl, ?_⟩) (by assumption) ?_; rotate_left; focus (intro w hSw; (try dsimp only at hSw); go_simp; (try with_reducible rfl); done)); (try simp only [Act.put, List.setIfInBounds_toArray, List.set_cons_zero, List.set_cons_succ, List.getElem_toArray, List.getElem_cons_zero, List.getElem_cons_succ]); (refine wpAnyH_take (i := 12) (v := ?_) rfl (by kernel_rfl) (by kernel_rfl) (by kernel_rfl) (fun _ _ _ h => h) (Or.inl ⟨by rfl, ?_⟩) (by assumption) ?_; rotate_left; focus (intro w hSw; (try dsimp only at hSw); go_simp; (try with_reducible rfl); done)); (try simp only [Act.put, List.setIfInBounds_toArray, List.set_cons_zero, List.set_cons_succ, List.getElem_toArray, List.getElem_cons_zero, List.getElem_cons_succ]); (refine wpAnyH_take (i := 13) (v := ?_) rfl (by kernel_rfl) (by kernel_rfl) (by kernel_rfl) (fun _ _ _ h => h) (Or.inl ⟨by rfl, ?_⟩) (by assumption) ?_; rotate_left; focus (intro w hSw; (try dsimp only at hSw); go_simp; (try with_reducible rfl); done)); (try simp only [Act.put, List.setIfInBounds_toArray, List.set_cons_zero, List.set_cons_succ, List.getElem_toArray, List.getElem_cons_zero, List.getElem_cons_succ]); (refine wpAnyH_take (i := 14) (v := ?_) rfl (by kernel_rfl) (by kernel_rfl) (by kernel_rfl) (fun _ _ _ h => h) (Or.inl ⟨by rfl, ?_⟩) (by assumption) ?_; rotate_left; focus (intro w hSw; (try dsimp only at hSw); go_simp; (try with_reducible rfl); done)); (try simp only [Act.put, List.setIfInBounds_toArray, List.set_cons_zero, List.set_cons_succ, List.getElem_toArray, List.getElem_cons_zero, List.getElem_cons_succ]))
  (refine wpAnyH_done (by kernel_rfl) ?_ _)
  go_wp2_with (go_at_call 49; ((with_reducible refine (moved_at a wd _ ev _ _ rfl rfl _ Hd.out.oc (by omega) (by omega)).mono ?_); rintro e w6 ⟨rfl, ho6, hf6⟩))
  go_ret
  refine ⟨rfl, Hd.out.on ?_ hf6, ((Fr.refl _ w).drew).tr hf6⟩
  rw [Hev.out]; exact ho6
set_option maxHeartbeats 1600000 in
theorem ctext {s : ByteArray} {a : Nat} (h : Cr w gc ga gb n c s a) (sz : Nat) (hz : sz ≤ 100000) (ha : a ≤ 100000) :
    Calls Try.prog 39 #[.pointer (some ⟨gc, 0, none⟩), .int .i64 sz] w fun e w' => e = .returned (.string (gt s a sz)) ∧ Cr w' gc ga gb n c s (a + sz) ∧ Fr (fun k => k = gc) w w' := by
  have hd := h.fr ((Fr.refl (fun _ => False) w).drew) (fun k e => e.elim)
  have hg := hd.txt sz hz ha
  have c0 := h.oc.cell 0 rfl
  have c1 := h.oc.cell 1 rfl
  have H := Lib.hid h
  have Hg := Lib.hid hg
  have Hd := Lib.hid hd
  clear h hg hd
  generalize gt s a sz = tx at *
  generalize hev : (if a + sz ≤ n then 0 else 1 : Nat) = ev at *
  have Hev := Lib.hid hev
  clear hev
  go_enter Try.func39, Try.ntmps39
  go_wp2
  (refine wp_region_held_drew (S := fun w' => w'.cell? ⟨gc, 0, none⟩ = some (.pointer (some ⟨ga, 0, none⟩)) ∧ w'.cell? ⟨gc, 1, none⟩ = some (.int .i64 a)) (by kernel_rfl) ?_ (fun hHeld => ?_); focus ((try dsimp only); exact ⟨c0, c1⟩; done))
  ((refine wpAnyH_take (i := 0) (v := ?_) rfl (by kernel_rfl) (by kernel_rfl) (by kernel_rfl) (fun _ _ _ h => h) (Or.inl ⟨by rfl, ?_⟩) (by assumption) ?_; rotate_left; focus (intro w hSw; (try dsimp only at hSw); go_simp; (try with_reducible rfl); done)); (try simp only [Act.put, List.setIfInBounds_toArray, List.set_cons_zero, List.set_cons_succ, List.getElem_toArray, List.getElem_cons_zero, List.getElem_cons_succ]); (refine wpAnyH_take (i := 1) (v := ?_) rfl (by kernel_rfl) (by kernel_rfl) (by kernel_rfl) (fun _ _ _ h => h) (Or.inl ⟨by rfl, ?_⟩) (by assumption) ?_; rotate_left; focus (intro w hSw; (try dsimp only at hSw); go_simp; (try with_reducible rfl); done)); (try simp only [Act.put, List.setIfInBounds_toArray, List.set_cons_zero, List.set_cons_succ, List.getElem_toArray, List.getElem_cons_zero, List.getElem_cons_succ]); (refine wpAnyH_take (i := 2) (v := ?_) rfl (by kernel_rfl) (by kernel_rfl) (by kernel_rfl) (fun _ _ _ h => h) (Or.inl ⟨by rfl, ?_⟩) (by assumption) ?_; rotate_left; focus (intro w hSw; (try dsimp only at hSw); go_simp; (try with_reducible rfl); done)); (try simp only [Act.put, List.setIfInBounds_toArray, List.set_cons_zero, List.set_cons_succ, List.getElem_toArray, List.getElem_cons_zero, List.getElem_cons_succ]); (refine wpAnyH_take (i := 3) (v := ?_) rfl (by kernel_rfl) (by kernel_rfl) (by kernel_rfl) (fun _ _ _ h => h) (Or.inl ⟨by rfl, ?_⟩) (by assumption) ?_; rotate_left; focus (intro w hSw; (try dsimp only at hSw); go_simp; (try with_reducible rfl); done)); (try simp only [Act.put, List.setIfInBounds_toArray, List.set_cons_zero, List.set_cons_succ, List.getElem_toArray, List.getElem_cons_zero, List.getElem_cons_succ]); (refine wpAnyH_take (i := 4) (v := ?_) rfl (by kernel_rfl) (by kernel_rfl) (by kernel_rfl) (fun _ _ _ h => h) (Or.inl ⟨by rfl, ?_⟩) (by assumption) ?_; rotate_left; focus (intro w hSw; (try dsimp only at hSw); go_simp; (try with_reducible rfl); done)); (try simp only [Act.put, List.setIfInBounds_toArray, List.set_cons_zero, List.set_cons_succ, List.getElem_toArray, List.getElem_cons_zero, List.getElem_cons_succ]); (refine wpAnyH_take (i := 5) (v := ?_) rfl (by kernel_rfl) (by kernel_rfl) (by kernel_rfl) (fun _ _ _ h => h) (Or.inl ⟨by rfl, ?_⟩) (by assumption) ?_; rotate_left; focus (intro w hSw; (try dsimp only at hSw); go_simp; (try with_reducible rfl); done)); (try simp only [Act.put, List.setIfInBounds_toArray, List.set_cons_zero, List.set_cons_succ, List.getElem_toArray, List.getElem_cons_zero, List.getElem_cons_succ]); (refine wpAnyH_take (i := 6) (v := ?_) rfl (by kernel_rfl) (by kernel_rfl) (by kernel_rfl) (fun _ _ _ h => h) (Or.inl ⟨by rfl, ?_⟩) (by assumption) ?_; rotate_left; focus (intro w hSw; (try dsimp only at hSw); go_simp; (try with_reducible rfl); done)); (try simp only [Act.put, List.setIfInBounds_toArray, List.set_cons_zero, List.set_cons_succ, List.getElem_toArray, List.getElem_cons_zero, List.getElem_cons_succ]); (refine wpAnyH_take (i := 7) (v := ?_) rfl (by kernel_rfl) (by kernel_rfl) (by kernel_rfl) (fun _ _ _ h => h) (Or.inl ⟨by rfl, ?_⟩) (by assumption) ?_; rotate_left; focus (intro w hSw; (try dsimp only at hSw); go_simp; (try with_reducible rfl); done)); (try simp only [Act.put, List.setIfInBounds_toArray, List.set_cons_zero, List.set_cons_succ, List.getElem_toArray, List.getElem_cons_zero, List.getElem_cons_succ]); (refine wpAnyH_take (i := 8) (v := ?_) rfl (by kernel_rfl) (by kernel_rfl) (by kernel_rfl) (fun _ _ _ h => h) (Or.inl ⟨by rfl, ?_⟩) (by assumption) ?_; rotate_left; focus (intro w hSw; (try dsimp only at hSw); go_simp; (try with_reducible rfl); done)); (try simp only [Act.put, List.setIfInBounds_toArray, List.set_cons_zero, List.set_cons_succ, List.getElem_toArray, List.getElem_cons_zero, List.getElem_cons_succ]))
  (refine wpAnyH_ready (rs := [9]) (by kernel_rfl) (by simp) ?_; refine AllReadyH.cons rfl (fun K hK => ?_) AllReadyH.nil; (try simp only [Act.put, List.setIfInBounds_toArray, List.set_cons_zero, List.set_cons_succ, List.getElem_toArray, List.getElem_cons_zero, List.getElem_cons_succ]); go_simp; (go_at_call 53; ((with_reducible refine Hg.out.mono ?_); rintro e w5 ⟨rfl, rfl⟩)); (try go_wp2_with fail); refine hK.out _ _ ?_ (fun hHeld => ?_); focus ((try dsimp only); exact ⟨c0, c1⟩; done)); (clear hK K); (try simp only [Act.put, List.setIfInBounds_toArray, List.set_cons_zero, List.set_cons_succ, List.getElem_toArray, List.getElem_cons_zero, List.getElem_cons_succ])
  ((refine wpAnyH_take (i := 10) (v := ?_) rfl (by kernel_rfl) (by kernel_rfl) (by kernel_rfl) (fun _ _ _ h => h) (Or.inl ⟨by rfl, ?_⟩) (by assumption) ?_; rotate_left; focus (intro w hSw; (try dsimp only at hSw); go_simp; (try with_reducible rfl); done)); (try simp only [Act.put, List.setIfInBounds_toArray, List.set_cons_zero, List.set_cons_succ, List.getElem_toArray, List.getElem_cons_zero, List.getElem_cons_succ]); (refine wpAnyH_take (i := 11) (v := ?_) rfl (by kernel_rfl) (by kernel_rfl) (by kernel_rfl) (fun _ _ _ h => h) (Or.inl ⟨by rfl, ?_⟩) (by assumption) ?_; rotate_left; focus (intro w hSw; (try dsimp only at hSw); go_simp; (try with_reducible rfl); done)); (try simp only [Act.put, List.setIfInBounds_toArray, List.set_cons_zero, List.set_cons_succ, List.getElem_toArray, List.getElem_cons_zero, List.getElem_cons_succ]); (refine wpAnyH_take (i := 12) (v := ?_) rfl (by kernel_rfl) (by kernel_rfl) (by kernel_rfl) (fun _ _ _ h => h) (Or.inl ⟨by rfl, ?_⟩) (by assumption) ?_; rotate_left; focus (intro w hSw; (try dsimp only at hSw); go_simp; (try with_reducible rfl); done)); (try simp only [Act.put, List.setIfInBounds_toArray, List.set_cons_zero, List.set_cons_succ, List.getElem_toArray, List.getElem_cons_zero, List.getElem_cons_succ]); (refine wpAnyH_take (i := 13) (v := ?_) rfl (by kernel_rfl) (by kernel_rfl) (by kernel_rfl) (fun _ _ _ h => h) (Or.inl ⟨by rfl, ?_⟩) (by assumption) ?_; rotate_left; focus (intro w hSw; (try dsimp only at hSw); go_simp; (try with_reducible rfl); done)); (try simp only [Act.put, List.setIfInBounds_toArray, List.set_cons_zero, List.set_cons_succ, List.getElem_toArray, List.getElem_cons_zero, List.getElem_cons_succ]); (refine wpAnyH_take (i := 14) (v := ?_) rfl (by kernel_rfl) (by kernel_rfl) (by kernel_rfl) (fun _ _ _ h => h) (Or.inl ⟨by rfl, ?_⟩) (by assumption) ?_; rotate_left; focus (intro w hSw; (try dsimp only at hSw); go_simp; (try with_reducible rfl); done)); (try simp only [Act.put, List.setIfInBounds_toArray, List.set_cons_zero, List.set_cons_succ, List.getElem_toArray, List.getElem_cons_zero, List.getElem_cons_succ]))
  (refine wpAnyH_done (by kernel_rfl) ?_ _)
  go_wp2_with (go_at_call 49; ((with_reducible refine (moved_at a sz _ ev _ _ rfl rfl _ Hd.out.oc (by omega) (by omega)).mono ?_); rintro e w6 ⟨rfl, ho6, hf6⟩))
  go_ret
  refine ⟨rfl, Hd.out.on ?_ hf6, ((Fr.refl _ w).drew).tr hf6⟩
  rw [Hev.out]; exact ho6
theorem Wc.start {w9 : World} {ga gb N : Nat} (hf : Fr No w w9) (hoa : Ob w9 ga #[.slice (some ⟨gb, 0, none⟩) N N] 74) (hob : Ob w9 gb (u8s (List.replicate N 0)).toArray 5) (hga : w.heap.size ≤ ga) (hgb : w.heap.size ≤ gb) (hab : ga ≠ gb) (hN : N ≤ 4096) :
    Wc w (w9.alloc (.cells #[.pointer (some ⟨ga, 0, none⟩), .int .i64 0, .int .i64 0] 58)) w9.heap.size ga gb N [] := by
  have h1 := hoa.lt
  have h2 := hob.lt
  have h3 := hf.size
  exact ⟨hf.alloc _, Ob.new _ _ _, hoa.alloc _, by simpa using hob.alloc _, h3, hga, hgb, by omega, by omega, hab, Nat.zero_le _, hN⟩
theorem Wc.alloc_ {w0 w : World} {gc ga gb N : Nat} {p : List Nat} (h : Wc w0 w gc ga gb N p) (o : Obj) : Wc w0 (w.alloc o) gc ga gb N p :=
  ⟨h.fr.alloc o, h.oc.alloc o, h.oa.alloc o, h.ob.alloc o, h.hc, h.ha, h.hb, h.ca, h.cb, h.ab, h.le, h.N2⟩
theorem Wc.lt_ {w0 w : World} {gc ga gb N : Nat} {p : List Nat} (h : Wc w0 w gc ga gb N p) : gc < w.heap.size ∧ gb < w.heap.size := ⟨h.oc.lt, h.ob.lt⟩
theorem Wc.bytes {w0 w : World} {gc ga gb N : Nat} {p : List Nat} (h : Wc w0 w gc ga gb N p) (hl : p.length = N) : Calls Try.prog 35 #[.pointer (some ⟨ga, 0, none⟩)] w fun e w' => e = .returned (.string (txt p)) ∧ w = w' := by
  have ho := h.ob
  rw [show N - p.length = 0 by omega, List.replicate_zero, List.append_nil] at ho
  refine bytes_any p N hl (h.oa.cell 0 rfl) (fun i hi => ho.cell i ?_)
  simp [u8s, List.getD_eq_getElem?_getD, show i < p.length by omega]
theorem Cr.start {w5 : World} {ga gb n c : Nat} {s : ByteArray} (hoa : Ob w5 ga #[.slice (some ⟨gb, 0, none⟩) n c] 74) (hn : n ≤ 4096) (hc : n ≤ c) (hs : s.size = n) (hb : ∀ i, i < n → w5.cell? ⟨gb, i, none⟩ = some (.int .u8 (((bys s).getD i 0 : Nat) : Int))) (hg : gb < ga) :
    Cr (w5.alloc (.cells #[.pointer (some ⟨ga, 0, none⟩), .int .i64 0, .int .i64 0] 58)) w5.heap.size ga gb n c s 0 := by
  have h1 := hoa.lt
  refine ⟨by rw [if_pos (Nat.zero_le _)]; exact Ob.new _ _ _, (hoa.alloc _).cell 0 rfl, hn, hc, hs, fun i hi => cel_alloc (hb i hi) _, by omega, by omega⟩
theorem Cr.two_in {w : World} {ga gb n c : Nat} {s : ByteArray} {a : Nat} (h : Cr w gc ga gb n c s a) (ha : a ≤ n) : w.cell? ⟨gc, 2, none⟩ = some (.int .i64 0) := by
  have := h.oc.cell 2 rfl
  rw [if_pos ha] at this
  exact this
theorem Cr.two_out {w : World} {ga gb n c : Nat} {s : ByteArray} {a : Nat} (h : Cr w gc ga gb n c s a) (ha : ¬ a ≤ n) : w.cell? ⟨gc, 2, none⟩ = some (.int .i64 1) := by
  have := h.oc.cell 2 rfl
  rw [if_neg ha] at this
  exact this
theorem Cr.drew_ {w : World} {ga gb n c : Nat} {s : ByteArray} {a : Nat} (h : Cr w gc ga gb n c s a) : Cr w.drew gc ga gb n c s a := h.fr ((Fr.refl (fun _ => False) w).drew) (fun k e => e.elim)
end
end Go.Proofs.Ytehhmpoijonghaa.Bd10
