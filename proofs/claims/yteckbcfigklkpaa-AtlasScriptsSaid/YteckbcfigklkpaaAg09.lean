/- Layer 9: an atlas since some world; no atlas; some answers that the document gives. -/
import Derived.Test.YteckbcfigklkpaaAf09
import Derived.Test.YteckbcfigklkpaaRs
namespace Go.Proofs.Yteckbcfigklkpaa.Ag09
open Go.RowKit Go.Proofs.Yteckbcfigklkpaa.Pk08 Go.Proofs.Yteckbcfigklkpaa.Base Go.Proofs.Yteckbcfigklkpaa.App Go.Proofs.Yteckbcfigklkpaa.Str Go.Proofs.Yteckbcfigklkpaa.Ky Go.Proofs.Yteckbcfigklkpaa.Bx Go.Proofs.Yteckbcfigklkpaa.Bo Go.Proofs.Yteckbcfigklkpaa.As Go.Proofs.Yteckbcfigklkpaa.Pl08 Go.Proofs.Yteckbcfigklkpaa.Kc08 Go.Proofs.Yteckbcfigklkpaa.Ke08 Go.Proofs.Yteckbcfigklkpaa.Cl Go.Proofs.Yteckbcfigklkpaa.Rv Go.Proofs.Yteckbcfigklkpaa.Ra Go.Proofs.Yteckbcfigklkpaa.Rp Go.Proofs.Yteckbcfigklkpaa.Ro Go.Proofs.Yteckbcfigklkpaa.Rk Go.Proofs.Yteckbcfigklkpaa.Rb Go.Proofs.Yteckbcfigklkpaa.Rf Go.Proofs.Yteckbcfigklkpaa.Rs Go.Proofs.Yteckbcfigklkpaa.Ia Go.Proofs.Yteckbcfigklkpaa.Ib Go.Proofs.Yteckbcfigklkpaa.Aa09 Go.Proofs.Yteckbcfigklkpaa.Ab09 Go.Proofs.Yteckbcfigklkpaa.Ac09 Go.Proofs.Yteckbcfigklkpaa.Ad09 Go.Proofs.Yteckbcfigklkpaa.Ae09 Go.Proofs.Yteckbcfigklkpaa.Af09
set_option linter.unusedVariables false
set_option linter.unusedSimpArgs false
/-- An atlas that was made since the world w0. -/
structure Sa (w0 w : World) (ga : Nat) (d : Int) (rs : List Rv.Rec) : Prop where
  fr : Fr No w0 w
  hg : w0.heap.size ≤ ga
  ex : ∃ K A n c, At w K ga d A n c rs ∧ (∀ k, obk A n c = some k → w0.heap.size ≤ k)
section
variable {w0 w w1 : World} {ga gb : Nat} {d : Int} {A B L H : Option Addr} {n c m e ln lc hn hc : Nat} {rs : List Rv.Rec} {ks lo hi : List Nat} {s : ByteArray}
theorem Sa.no (h : Sa w0 w ga d rs) (f : Fr No w w1) : Sa w0 w1 ga d rs := by
  obtain ⟨K, A, n, c, h1, h2⟩ := h.ex
  exact ⟨h.fr.tr f, h.hg, K, A, n, c, h1.no f, h2⟩
theorem Sa.le (h : Sa w0 w ga d rs) : rs.length ≤ 1000 := by
  obtain ⟨K, A, n, c, h1, h2⟩ := h.ex
  exact h1.le
theorem Sa.st (h : Sa w0 w ga d rs) : Strict rs := by
  obtain ⟨K, A, n, c, h1, h2⟩ := h.ex
  exact h1.st
theorem Sa.ok (h : Sa w0 w ga d rs) : ∀ r ∈ rs, recC r.1.length r.2 d = 0 := by
  obtain ⟨K, A, n, c, h1, h2⟩ := h.ex
  exact h1.ok
/-- What a Put leaves of the records. -/
def putL (rs : List Rv.Rec) (r : Rv.Rec) (d : Int) : List Rv.Rec := if recC r.1.length r.2 d = 0 then put rs r else rs
theorem put_s (h : Sa w0 w ga d rs) (hk : Kv w B m e ks) (hsz : s.size ≤ maxLen) (hl : rs.length < 1000) : Calls Try.prog 16 #[.pointer (some ⟨ga, 0, none⟩), .agg #[.slice B m e, .string s]] w fun en w' => en = .returned (.int .i64 (recC ks.length s d)) ∧ Sa w0 w' ga d (putL rs (ks, s) d) := by
  obtain rfl : m = ks.length := hk.len
  obtain ⟨K, A, n, c, h1, h2⟩ := h.ex
  have fin : ∀ out ex en w', PutPost w K ga d A n c out ex en w' → en = .returned (.int .i64 ex) ∧ Sa w0 w' ga d out := by
    rintro out ex en w' ⟨rfl, ⟨K', A', n', c', q1, q2, q3⟩, hf⟩
    refine ⟨rfl, h.fr.trans hf (fun k e => .inr (by rcases e with rfl | e; exact h.hg; exact h2 k e)), h.hg, K', A', n', c', q1, fun k hk => ?_⟩
    rcases q3 with q3 | ⟨b, q3, q4⟩
    · exact h2 k (by rw [← q3]; exact hk)
    · rw [q3] at hk; injection hk with hk; have := h.fr.size; omega
  rcases recC_rng ks.length s d with hr | hr
  · have e : putL rs (ks, s) d = put rs (ks, s) := by rw [putL, if_pos hr]
    rw [e, hr]
    cases hf : fis rs ks with
    | true => exact (aput_over h1 hk hsz hr hf).mono (fin _ _)
    | false => exact (aput_new h1 hk hsz hr hf hl).mono (fin _ _)
  · have e : putL rs (ks, s) d = rs := by rw [putL, if_neg (by simp only [hr]; decide)]
    rw [e, hr]
    exact (aput_no h1 hsz hr).mono (fin _ _)
def delL (rs : List Rv.Rec) (k : List Nat) (d : Int) : List Rv.Rec := if hasE rs d k = 0 then cut rs k else rs
theorem del_s (h : Sa w0 w ga d rs) (hk : Kv w B m e ks) : Calls Try.prog 18 #[.pointer (some ⟨ga, 0, none⟩), .slice B m e] w fun en w' => en = .returned (.int .i64 ((hasE rs d ks : Nat) : Int)) ∧ Sa w0 w' ga d (delL rs ks d) := by
  obtain ⟨K, A, n, c, h1, h2⟩ := h.ex
  refine (adelete_any h1 hk).mono ?_
  rintro en w' ⟨n', rfl, q1, hf⟩
  exact ⟨rfl, h.fr.trans hf (fun k e => .inr (by rcases e with rfl | e; exact h.hg; exact h2 k e)), h.hg, K, A, n', c, q1, fun k hk => h2 k (by rw [obk_any A n c n' c]; exact hk)⟩
theorem get_s (h : Sa w0 w ga d rs) (hk : Kv w B m e ks) : Calls Try.prog 20 #[.pointer (some ⟨ga, 0, none⟩), .slice B m e] w fun en w' => en = .returned (.tuple #[.string (getS rs d ks), .int .i64 ((hasE rs d ks : Nat) : Int)]) ∧ Fr No w w' := by
  obtain ⟨K, A, n, c, h1, h2⟩ := h.ex
  exact get_any h1 hk
theorem len_s (h : Sa w0 w ga d rs) : Calls Try.prog 27 #[.pointer (some ⟨ga, 0, none⟩)] w fun en w' => en = .returned (.int .i64 (rs.length : Nat)) ∧ w = w' := by
  obtain ⟨K, A, n, c, h1, h2⟩ := h.ex
  have := h1.len
  subst this
  exact len_any h1
theorem all_s (h : Sa w0 w ga d rs) : Calls Try.prog 26 #[.pointer (some ⟨ga, 0, none⟩)] w fun en w' => ∃ A1 n1 c1, en = .returned (.slice A1 n1 c1) ∧ Ow w' w.heap.size 33 (fun b => w.heap.size ≤ b) A1 n1 c1 rs ∧ Fr No w w' := by
  obtain ⟨K, A, n, c, h1, h2⟩ := h.ex
  exact all_fresh h1
theorem window_s (h : Sa w0 w ga d rs) (hl : Kv w L ln lc lo) (hh : Kv w H hn hc hi) : Calls Try.prog 22 #[.pointer (some ⟨ga, 0, none⟩), .agg #[.slice L ln lc, .slice H hn hc]] w fun en w' => ∃ A1 n1 c1, en = .returned (.tuple #[.slice A1 n1 c1, .int .i64 (chkB lo hi d)]) ∧ Ow w' w.heap.size 33 (fun b => w.heap.size ≤ b) A1 n1 c1 (winL rs lo hi d) ∧ Fr No w w' := by
  obtain ⟨K, A, n, c, h1, h2⟩ := h.ex
  exact window_any h1 hl hh
theorem count_s (h : Sa w0 w ga d rs) (hl : Kv w L ln lc lo) (hh : Kv w H hn hc hi) : Calls Try.prog 24 #[.pointer (some ⟨ga, 0, none⟩), .agg #[.slice L ln lc, .slice H hn hc]] w fun en w' => en = .returned (.tuple #[.int .i64 ((winL rs lo hi d).length : Nat), .int .i64 (chkB lo hi d)]) ∧ Fr No w w' := by
  obtain ⟨K, A, n, c, h1, h2⟩ := h.ex
  exact count_any h1 hl hh
theorem new_s (hd : 1 ≤ d ∧ d ≤ 6) (f : Fr No w0 w) : Calls Try.prog 8 #[.int .i64 d] w fun en w' => ∃ ga, en = .returned (.tuple #[.pointer (some ⟨ga, 0, none⟩), .int .i64 0]) ∧ Sa w0 w' ga d [] ∧ w.heap.size ≤ ga ∧ Fr No w w' := by
  refine (new_any d).mono ?_
  intro en w' h
  rw [if_pos hd] at h
  obtain ⟨ga, h1, rfl, h2, h3⟩ := h
  exact ⟨ga, rfl, ⟨f.tr h3, Nat.le_trans f.size h1, _, none, 0, 0, h2, fun k e => by cases e⟩, h1, h3⟩
theorem new_no (hd : ¬ (1 ≤ d ∧ d ≤ 6)) : Calls Try.prog 8 #[.int .i64 d] w fun en w' => en = .returned (.tuple #[.pointer none, .int .i64 1]) ∧ w = w' := by
  refine (new_any d).mono ?_
  intro en w' h
  rw [if_neg hd] at h
  exact h
/-- An atlas all of which was made since the world w1. -/
structure Fre (w1 w : World) (ga : Nat) (d : Int) (rs : List Rv.Rec) : Prop where
  ex : ∃ K A n c, At w K ga d A n c rs ∧ w1.heap.size ≤ ga ∧ (∀ k, obk A n c = some k → w1.heap.size ≤ k) ∧ (∀ b, K b → w1.heap.size ≤ b)
theorem Fre.fr {S : Nat → Prop} {w1 w w2 : World} (h : Fre w1 w ga d rs) (f : Fr S w w2) (hS : ∀ b, S b → b < w1.heap.size) : Fre w1 w2 ga d rs := by
  obtain ⟨K, A, n, c, h1, h2, h3, h4⟩ := h.ex
  exact ⟨K, A, n, c, h1.fr f (fun e => by have := hS _ e; omega) (fun k hk e => by have := hS _ e; have := h3 k hk; omega) (fun b hb e => by have := hS _ e; have := h4 b hb; omega), h2, h3, h4⟩
theorem Fre.no {w1 w w2 : World} (h : Fre w1 w ga d rs) (f : Fr No w w2) : Fre w1 w2 ga d rs := h.fr f (fun _ e => e.elim)
theorem Fre.sa {w1 w : World} (h : Fre w1 w ga d rs) (f : Fr No w1 w) : Sa w1 w ga d rs := by
  obtain ⟨K, A, n, c, h1, h2, h3, h4⟩ := h.ex
  exact ⟨f, h2, K, A, n, c, h1, h3⟩
theorem Fre.len_ {w1 w : World} (h : Fre w1 w ga d rs) : Calls Try.prog 27 #[.pointer (some ⟨ga, 0, none⟩)] w fun en w' => en = .returned (.int .i64 (rs.length : Nat)) ∧ w = w' := by
  obtain ⟨K, A, n, c, h1, h2⟩ := h.ex
  have := h1.len
  subst this
  exact len_any h1
theorem Fre.all_ {w1 w : World} (h : Fre w1 w ga d rs) : Calls Try.prog 26 #[.pointer (some ⟨ga, 0, none⟩)] w fun en w' => ∃ A1 n1 c1, en = .returned (.slice A1 n1 c1) ∧ Ow w' w.heap.size 33 (fun b => w.heap.size ≤ b) A1 n1 c1 rs ∧ Fr No w w' := by
  obtain ⟨K, A, n, c, h1, h2⟩ := h.ex
  exact all_fresh h1
set_option maxHeartbeats 1600000 in
theorem copy_s (h : Sa w0 w ga d rs) : Calls Try.prog 13 #[.pointer (some ⟨ga, 0, none⟩)] w fun en w' => ∃ g2, en = .returned (.pointer (some ⟨g2, 0, none⟩)) ∧ Fre w w' g2 d rs ∧ Fr No w w' := by
  have hall := all_s h
  obtain ⟨K, A, n, c, h1, h2⟩ := h.ex
  obtain ⟨c0, c1⟩ := h1.cells
  have HC := Lib.hid (show Strict rs ∧ (∀ r ∈ rs, recC r.1.length r.2 d = 0) ∧ rs.length ≤ 1000 from ⟨h1.st, h1.ok, h1.le⟩)
  have HA := Lib.hid (all_s (h.no (Fr.refl No w).drew))
  clear h h1 h2 hall
  go_enter Try.func13, Try.ntmps13
  go_wp2
  (refine wp_region_held_drew (S := fun w' => w'.cell? ⟨ga, 0, none⟩ = some (.int .i64 d)) (by kernel_rfl) ?_ (fun hHeld => ?_); focus ((try dsimp only); (repeat (first | with_reducible assumption | with_reducible refine cel_alloc ?_ _ | with_reducible refine cel_drew ?_ | with_reducible refine cel_drewN ?_ _ | with_reducible refine cel_set ?_ (by first | (simp; done) | (simp; omega)) _ | with_reducible refine cel_no ?_ (by assumption))); done))
  ((refine wpAnyH_take (i := 0) (v := ?_) rfl (by kernel_rfl) (by kernel_rfl) (by kernel_rfl) (fun _ _ _ h => h) (Or.inl ⟨by rfl, ?_⟩) (by assumption) ?_; rotate_left; focus (intro w hSw; (try dsimp only at hSw); go_simp; (try with_reducible rfl); done)); (try simp only [Act.put, List.setIfInBounds_toArray, List.set_cons_zero, List.set_cons_succ, List.getElem_toArray, List.getElem_cons_zero, List.getElem_cons_succ]); (refine wpAnyH_take (i := 1) (v := ?_) rfl (by kernel_rfl) (by kernel_rfl) (by kernel_rfl) (fun _ _ _ h => h) (Or.inl ⟨by rfl, ?_⟩) (by assumption) ?_; rotate_left; focus (intro w hSw; (try dsimp only at hSw); go_simp; (try with_reducible rfl); done)); (try simp only [Act.put, List.setIfInBounds_toArray, List.set_cons_zero, List.set_cons_succ, List.getElem_toArray, List.getElem_cons_zero, List.getElem_cons_succ]); (refine wpAnyH_take (i := 2) (v := ?_) rfl (by kernel_rfl) (by kernel_rfl) (by kernel_rfl) (fun _ _ _ h => h) (Or.inl ⟨by rfl, ?_⟩) (by assumption) ?_; rotate_left; focus (intro w hSw; (try dsimp only at hSw); go_simp; (try with_reducible rfl); done)); (try simp only [Act.put, List.setIfInBounds_toArray, List.set_cons_zero, List.set_cons_succ, List.getElem_toArray, List.getElem_cons_zero, List.getElem_cons_succ]); (refine wpAnyH_take (i := 3) (v := ?_) rfl (by kernel_rfl) (by kernel_rfl) (by kernel_rfl) (fun _ _ _ h => h) (Or.inl ⟨by rfl, ?_⟩) (by assumption) ?_; rotate_left; focus (intro w hSw; (try dsimp only at hSw); go_simp; (try with_reducible rfl); done)); (try simp only [Act.put, List.setIfInBounds_toArray, List.set_cons_zero, List.set_cons_succ, List.getElem_toArray, List.getElem_cons_zero, List.getElem_cons_succ]); (refine wpAnyH_take (i := 4) (v := ?_) rfl (by kernel_rfl) (by kernel_rfl) (by kernel_rfl) (fun _ _ _ h => h) (Or.inl ⟨by rfl, ?_⟩) (by assumption) ?_; rotate_left; focus (intro w hSw; (try dsimp only at hSw); go_simp; (try with_reducible rfl); done)); (try simp only [Act.put, List.setIfInBounds_toArray, List.set_cons_zero, List.set_cons_succ, List.getElem_toArray, List.getElem_cons_zero, List.getElem_cons_succ]))
  (refine wpAnyH_ready (rs := [5]) (by kernel_rfl) (by simp) ?_; refine AllReadyH.cons rfl (fun K hK => ?_) AllReadyH.nil; (try simp only [Act.put, List.setIfInBounds_toArray, List.set_cons_zero, List.set_cons_succ, List.getElem_toArray, List.getElem_cons_zero, List.getElem_cons_succ]); go_simp; (go_at_call 26; ((with_reducible refine HA.out.mono ?_); rintro en w6 ⟨A6, n6, c6, rfl, ho6, hf6⟩)); (try go_wp2_with fail); refine hK.out _ _ ?_ (fun hHeld => ?_); focus ((try dsimp only); (repeat (first | with_reducible assumption | with_reducible refine cel_alloc ?_ _ | with_reducible refine cel_drew ?_ | with_reducible refine cel_drewN ?_ _ | with_reducible refine cel_set ?_ (by first | (simp; done) | (simp; omega)) _ | with_reducible refine cel_no ?_ (by assumption))); done)); (clear hK K); (try simp only [Act.put, List.setIfInBounds_toArray, List.set_cons_zero, List.set_cons_succ, List.getElem_toArray, List.getElem_cons_zero, List.getElem_cons_succ])
  (refine wpAnyH_take (i := 6) (v := ?_) rfl (by kernel_rfl) (by kernel_rfl) (by kernel_rfl) (fun _ _ _ h => h) (Or.inl ⟨by rfl, ?_⟩) (by assumption) ?_; rotate_left; focus (intro w hSw; (try dsimp only at hSw); go_simp; (try with_reducible rfl); done)); (try simp only [Act.put, List.setIfInBounds_toArray, List.set_cons_zero, List.set_cons_succ, List.getElem_toArray, List.getElem_cons_zero, List.getElem_cons_succ])
  (refine wpAnyH_ready (rs := [7]) (by kernel_rfl) (by simp) ?_; refine AllReadyH.cons rfl (fun K hK => ?_) AllReadyH.nil; (try simp only [Act.put, List.setIfInBounds_toArray, List.set_cons_zero, List.set_cons_succ, List.getElem_toArray, List.getElem_cons_zero, List.getElem_cons_succ]); go_simp; refine hK.out _ _ ?_ (fun hHeld => ?_); focus ((try dsimp only); (repeat (first | with_reducible assumption | with_reducible refine cel_alloc ?_ _ | with_reducible refine cel_drew ?_ | with_reducible refine cel_drewN ?_ _ | with_reducible refine cel_set ?_ (by first | (simp; done) | (simp; omega)) _ | with_reducible refine cel_no ?_ (by assumption))); done)); (clear hK K); (try simp only [Act.put, List.setIfInBounds_toArray, List.set_cons_zero, List.set_cons_succ, List.getElem_toArray, List.getElem_cons_zero, List.getElem_cons_succ])
  (refine wpAnyH_take (i := 8) (v := ?_) rfl (by kernel_rfl) (by kernel_rfl) (by kernel_rfl) (fun _ _ _ h => h) (Or.inl ⟨by rfl, ?_⟩) (by assumption) ?_; rotate_left; focus (intro w hSw; (try dsimp only at hSw); go_simp; (try with_reducible rfl); done)); (try simp only [Act.put, List.setIfInBounds_toArray, List.set_cons_zero, List.set_cons_succ, List.getElem_toArray, List.getElem_cons_zero, List.getElem_cons_succ])
  (refine wpAnyH_done (by kernel_rfl) ?_ _)
  go_wp2
  go_ret
  have hf : Fr No w (w6.alloc (.cells #[.int .i64 d, .slice A6 n6 c6] 72)) := ((Fr.refl No w).drew.tr hf6).alloc _
  refine ⟨w6.heap.size, rfl, ⟨⟨fun b => w.heap.size ≤ b ∧ b < w6.heap.size, A6, n6, c6, ⟨Ob.new _ _ _, (ho6.lt.base_ (Nat.zero_le _)).alloc _, (fun e => by omega), (fun e => by have := (ho6.blk _ e).2; omega), HC.out.1, HC.out.2.1, HC.out.2.2⟩, (by have := hf6.size; exact this), (fun k hk => (ho6.blk k hk).1), (fun b hb => hb.1)⟩⟩, hf⟩
/-! ### no atlas -/
theorem get_nil (W : World) : Calls Try.prog 20 #[.pointer none, .slice B m e] W fun en w' => en = .returned (.tuple #[.string { data := #[] }, .int .i64 1]) ∧ W = w' := by
  go_enter Try.func20, Try.ntmps20
  go_wp2
  go_ret2
  exact ⟨rfl, rfl⟩
theorem delete_nil (W : World) : Calls Try.prog 18 #[.pointer none, .slice B m e] W fun en w' => en = .returned (.int .i64 1) ∧ W = w' := by
  go_enter Try.func18, Try.ntmps18
  go_wp2
  go_ret
  exact ⟨rfl, rfl⟩
theorem all_nil (W : World) : Calls Try.prog 26 #[.pointer none] W fun en w' => en = .returned (.slice none 0 0) ∧ W = w' := by
  go_enter Try.func26, Try.ntmps26
  go_wp2
  go_ret
  exact ⟨rfl, rfl⟩
theorem len_nil (W : World) : Calls Try.prog 27 #[.pointer none] W fun en w' => en = .returned (.int .i64 0) ∧ W = w' := by
  go_enter Try.func27, Try.ntmps27
  go_wp2
  go_ret
  exact ⟨rfl, rfl⟩
theorem copy_nil (W : World) : Calls Try.prog 13 #[.pointer none] W fun en w' => en = .returned (.pointer none) ∧ W = w' := by
  go_enter Try.func13, Try.ntmps13
  go_wp2
  go_ret
  exact ⟨rfl, rfl⟩
set_option maxHeartbeats 1600000 in
theorem window_nil (W : World) : Calls Try.prog 22 #[.pointer none, .agg #[.slice L ln lc, .slice H hn hc]] W fun en w' => en = .returned (.tuple #[.slice none 0 0, .int .i64 1]) ∧ Fr No W w' := by
  go_enter Try.func22, Try.ntmps22
  go_wp2
  (refine wp_region_held_drew (S := fun w' => w'.cell? ⟨W.heap.size, 0, none⟩ = some (.slice L ln lc) ∧ w'.cell? ⟨W.heap.size, 1, none⟩ = some (.slice H hn hc)) (by kernel_rfl) ?_ (fun hHeld => ?_); focus ((try dsimp only); (refine cells2 (t := 35) ?_; (repeat (first | with_reducible assumption | with_reducible refine Ob.other ?_ (by first | (simp; done) | (simp; omega)) _ | ((with_reducible refine Ob.new_ _ _ _ _ ?_) <;> (simp; done)) | with_reducible refine Ob.alloc ?_ _ | with_reducible refine Ob.drew ?_ | with_reducible refine Ob.drewN ?_ _ | with_reducible refine Ob.no ?_ (by assumption)))); done))
  ((refine wpAnyH_take (i := 0) (v := ?_) rfl (by kernel_rfl) (by kernel_rfl) (by kernel_rfl) (fun _ _ _ h => h) (Or.inl ⟨by rfl, ?_⟩) (by assumption) ?_; rotate_left; focus (intro w hSw; (try dsimp only at hSw); go_simp; (try with_reducible rfl); done)); (try simp only [Act.put, List.setIfInBounds_toArray, List.set_cons_zero, List.set_cons_succ, List.getElem_toArray, List.getElem_cons_zero, List.getElem_cons_succ]); (refine wpAnyH_take (i := 1) (v := ?_) rfl (by kernel_rfl) (by kernel_rfl) (by kernel_rfl) (fun _ _ _ h => h) (Or.inl ⟨by rfl, ?_⟩) (by assumption) ?_; rotate_left; focus (intro w hSw; (try dsimp only at hSw); go_simp; (try with_reducible rfl); done)); (try simp only [Act.put, List.setIfInBounds_toArray, List.set_cons_zero, List.set_cons_succ, List.getElem_toArray, List.getElem_cons_zero, List.getElem_cons_succ]); (refine wpAnyH_take (i := 2) (v := ?_) rfl (by kernel_rfl) (by kernel_rfl) (by kernel_rfl) (fun _ _ _ h => h) (Or.inl ⟨by rfl, ?_⟩) (by assumption) ?_; rotate_left; focus (intro w hSw; (try dsimp only at hSw); go_simp; (try with_reducible rfl); done)); (try simp only [Act.put, List.setIfInBounds_toArray, List.set_cons_zero, List.set_cons_succ, List.getElem_toArray, List.getElem_cons_zero, List.getElem_cons_succ]))
  ((refine wpAnyH_take (i := 3) (v := undef) rfl (by kernel_rfl) (by kernel_rfl) (by kernel_rfl) (fun _ _ _ h => h) (Or.inr ⟨by rfl, rfl⟩) (by assumption) ?_); (try simp only [Act.put, List.setIfInBounds_toArray, List.set_cons_zero, List.set_cons_succ, List.getElem_toArray, List.getElem_cons_zero, List.getElem_cons_succ]); (refine wpAnyH_take (i := 4) (v := undef) rfl (by kernel_rfl) (by kernel_rfl) (by kernel_rfl) (fun _ _ _ h => h) (Or.inr ⟨by rfl, rfl⟩) (by assumption) ?_); (try simp only [Act.put, List.setIfInBounds_toArray, List.set_cons_zero, List.set_cons_succ, List.getElem_toArray, List.getElem_cons_zero, List.getElem_cons_succ]); (refine wpAnyH_take (i := 5) (v := undef) rfl (by kernel_rfl) (by kernel_rfl) (by kernel_rfl) (fun _ _ _ h => h) (Or.inr ⟨by rfl, rfl⟩) (by assumption) ?_); (try simp only [Act.put, List.setIfInBounds_toArray, List.set_cons_zero, List.set_cons_succ, List.getElem_toArray, List.getElem_cons_zero, List.getElem_cons_succ]); (refine wpAnyH_take (i := 6) (v := undef) rfl (by kernel_rfl) (by kernel_rfl) (by kernel_rfl) (fun _ _ _ h => h) (Or.inr ⟨by rfl, rfl⟩) (by assumption) ?_); (try simp only [Act.put, List.setIfInBounds_toArray, List.set_cons_zero, List.set_cons_succ, List.getElem_toArray, List.getElem_cons_zero, List.getElem_cons_succ]); (refine wpAnyH_take (i := 7) (v := undef) rfl (by kernel_rfl) (by kernel_rfl) (by kernel_rfl) (fun _ _ _ h => h) (Or.inr ⟨by rfl, rfl⟩) (by assumption) ?_); (try simp only [Act.put, List.setIfInBounds_toArray, List.set_cons_zero, List.set_cons_succ, List.getElem_toArray, List.getElem_cons_zero, List.getElem_cons_succ]); (refine wpAnyH_take (i := 8) (v := undef) rfl (by kernel_rfl) (by kernel_rfl) (by kernel_rfl) (fun _ _ _ h => h) (Or.inr ⟨by rfl, rfl⟩) (by assumption) ?_); (try simp only [Act.put, List.setIfInBounds_toArray, List.set_cons_zero, List.set_cons_succ, List.getElem_toArray, List.getElem_cons_zero, List.getElem_cons_succ]); (refine wpAnyH_take (i := 9) (v := undef) rfl (by kernel_rfl) (by kernel_rfl) (by kernel_rfl) (fun _ _ _ h => h) (Or.inr ⟨by rfl, rfl⟩) (by assumption) ?_); (try simp only [Act.put, List.setIfInBounds_toArray, List.set_cons_zero, List.set_cons_succ, List.getElem_toArray, List.getElem_cons_zero, List.getElem_cons_succ]))
  (refine wpAnyH_take (i := 10) (v := ?_) rfl (by kernel_rfl) (by kernel_rfl) (by kernel_rfl) (fun _ _ _ h => h) (Or.inl ⟨by rfl, ?_⟩) (by assumption) ?_; rotate_left; focus (intro w hSw; (try dsimp only at hSw); go_simp; (try with_reducible rfl); done)); (try simp only [Act.put, List.setIfInBounds_toArray, List.set_cons_zero, List.set_cons_succ, List.getElem_toArray, List.getElem_cons_zero, List.getElem_cons_succ])
  (refine wpAnyH_done (by kernel_rfl) ?_ _)
  go_wp2
  go_ret2
  exact ⟨rfl, by (repeat (first | with_reducible exact Fr.refl _ _ | with_reducible refine Fr.setCell ?_ (.inr (by first | (simp; done) | (simp; omega))) _ | with_reducible refine Fr.alloc ?_ _ | with_reducible refine Fr.drew ?_ | with_reducible refine Fr.drewN ?_ _ | with_reducible refine Fr.tr ?_ (by assumption)))⟩
theorem count_nil (W : World) : Calls Try.prog 24 #[.pointer none, .agg #[.slice L ln lc, .slice H hn hc]] W fun en w' => en = .returned (.tuple #[.int .i64 0, .int .i64 1]) ∧ Fr No W w' := by
  go_enter Try.func24, Try.ntmps24
  go_wp2_with (go_at_call 22; ((with_reducible refine (window_nil _).mono ?_); rintro en w6 ⟨rfl, hf6⟩))
  go_ret2
  exact ⟨rfl, by (repeat (first | with_reducible exact Fr.refl _ _ | with_reducible refine Fr.setCell ?_ (.inr (by first | (simp; done) | (simp; omega))) _ | with_reducible refine Fr.alloc ?_ _ | with_reducible refine Fr.drew ?_ | with_reducible refine Fr.drewN ?_ _ | with_reducible refine Fr.tr ?_ (by assumption)))⟩
set_option maxHeartbeats 1600000 in
theorem put_nil (W : World) : Calls Try.prog 16 #[.pointer none, .agg #[.slice B m e, .string s]] W fun en w' => en = .returned (.int .i64 1) ∧ Fr No W w' := by
  go_enter Try.func16, Try.ntmps16
  go_wp2
  (refine wp_region_held_drew (S := fun w' => w'.cell? ⟨W.heap.size, 0, none⟩ = some (.slice B m e) ∧ w'.cell? ⟨W.heap.size, 1, none⟩ = some (.string s)) (by kernel_rfl) ?_ (fun hHeld => ?_); focus ((try dsimp only); (refine cells2 (t := 33) ?_; (repeat (first | with_reducible assumption | with_reducible refine Ob.other ?_ (by first | (simp; done) | (simp; omega)) _ | ((with_reducible refine Ob.new_ _ _ _ _ ?_) <;> (simp; done)) | with_reducible refine Ob.alloc ?_ _ | with_reducible refine Ob.drew ?_ | with_reducible refine Ob.drewN ?_ _ | with_reducible refine Ob.no ?_ (by assumption)))); done))
  ((refine wpAnyH_take (i := 0) (v := ?_) rfl (by kernel_rfl) (by kernel_rfl) (by kernel_rfl) (fun _ _ _ h => h) (Or.inl ⟨by rfl, ?_⟩) (by assumption) ?_; rotate_left; focus (intro w hSw; (try dsimp only at hSw); go_simp; (try with_reducible rfl); done)); (try simp only [Act.put, List.setIfInBounds_toArray, List.set_cons_zero, List.set_cons_succ, List.getElem_toArray, List.getElem_cons_zero, List.getElem_cons_succ]); (refine wpAnyH_take (i := 1) (v := ?_) rfl (by kernel_rfl) (by kernel_rfl) (by kernel_rfl) (fun _ _ _ h => h) (Or.inl ⟨by rfl, ?_⟩) (by assumption) ?_; rotate_left; focus (intro w hSw; (try dsimp only at hSw); go_simp; (try with_reducible rfl); done)); (try simp only [Act.put, List.setIfInBounds_toArray, List.set_cons_zero, List.set_cons_succ, List.getElem_toArray, List.getElem_cons_zero, List.getElem_cons_succ]); (refine wpAnyH_take (i := 2) (v := ?_) rfl (by kernel_rfl) (by kernel_rfl) (by kernel_rfl) (fun _ _ _ h => h) (Or.inl ⟨by rfl, ?_⟩) (by assumption) ?_; rotate_left; focus (intro w hSw; (try dsimp only at hSw); go_simp; (try with_reducible rfl); done)); (try simp only [Act.put, List.setIfInBounds_toArray, List.set_cons_zero, List.set_cons_succ, List.getElem_toArray, List.getElem_cons_zero, List.getElem_cons_succ]))
  ((refine wpAnyH_take (i := 3) (v := undef) rfl (by kernel_rfl) (by kernel_rfl) (by kernel_rfl) (fun _ _ _ h => h) (Or.inr ⟨by rfl, rfl⟩) (by assumption) ?_); (try simp only [Act.put, List.setIfInBounds_toArray, List.set_cons_zero, List.set_cons_succ, List.getElem_toArray, List.getElem_cons_zero, List.getElem_cons_succ]); (refine wpAnyH_take (i := 4) (v := undef) rfl (by kernel_rfl) (by kernel_rfl) (by kernel_rfl) (fun _ _ _ h => h) (Or.inr ⟨by rfl, rfl⟩) (by assumption) ?_); (try simp only [Act.put, List.setIfInBounds_toArray, List.set_cons_zero, List.set_cons_succ, List.getElem_toArray, List.getElem_cons_zero, List.getElem_cons_succ]); (refine wpAnyH_take (i := 5) (v := undef) rfl (by kernel_rfl) (by kernel_rfl) (by kernel_rfl) (fun _ _ _ h => h) (Or.inr ⟨by rfl, rfl⟩) (by assumption) ?_); (try simp only [Act.put, List.setIfInBounds_toArray, List.set_cons_zero, List.set_cons_succ, List.getElem_toArray, List.getElem_cons_zero, List.getElem_cons_succ]); (refine wpAnyH_take (i := 6) (v := undef) rfl (by kernel_rfl) (by kernel_rfl) (by kernel_rfl) (fun _ _ _ h => h) (Or.inr ⟨by rfl, rfl⟩) (by assumption) ?_); (try simp only [Act.put, List.setIfInBounds_toArray, List.set_cons_zero, List.set_cons_succ, List.getElem_toArray, List.getElem_cons_zero, List.getElem_cons_succ]); (refine wpAnyH_take (i := 7) (v := undef) rfl (by kernel_rfl) (by kernel_rfl) (by kernel_rfl) (fun _ _ _ h => h) (Or.inr ⟨by rfl, rfl⟩) (by assumption) ?_); (try simp only [Act.put, List.setIfInBounds_toArray, List.set_cons_zero, List.set_cons_succ, List.getElem_toArray, List.getElem_cons_zero, List.getElem_cons_succ]); (refine wpAnyH_take (i := 8) (v := undef) rfl (by kernel_rfl) (by kernel_rfl) (by kernel_rfl) (fun _ _ _ h => h) (Or.inr ⟨by rfl, rfl⟩) (by assumption) ?_); (try simp only [Act.put, List.setIfInBounds_toArray, List.set_cons_zero, List.set_cons_succ, List.getElem_toArray, List.getElem_cons_zero, List.getElem_cons_succ]); (refine wpAnyH_take (i := 9) (v := undef) rfl (by kernel_rfl) (by kernel_rfl) (by kernel_rfl) (fun _ _ _ h => h) (Or.inr ⟨by rfl, rfl⟩) (by assumption) ?_); (try simp only [Act.put, List.setIfInBounds_toArray, List.set_cons_zero, List.set_cons_succ, List.getElem_toArray, List.getElem_cons_zero, List.getElem_cons_succ]))
  (refine wpAnyH_take (i := 10) (v := ?_) rfl (by kernel_rfl) (by kernel_rfl) (by kernel_rfl) (fun _ _ _ h => h) (Or.inl ⟨by rfl, ?_⟩) (by assumption) ?_; rotate_left; focus (intro w hSw; (try dsimp only at hSw); go_simp; (try with_reducible rfl); done)); (try simp only [Act.put, List.setIfInBounds_toArray, List.set_cons_zero, List.set_cons_succ, List.getElem_toArray, List.getElem_cons_zero, List.getElem_cons_succ])
  (refine wpAnyH_done (by kernel_rfl) ?_ _)
  go_wp2
  go_ret
  exact ⟨rfl, by (repeat (first | with_reducible exact Fr.refl _ _ | with_reducible refine Fr.setCell ?_ (.inr (by first | (simp; done) | (simp; omega))) _ | with_reducible refine Fr.alloc ?_ _ | with_reducible refine Fr.drew ?_ | with_reducible refine Fr.drewN ?_ _ | with_reducible refine Fr.tr ?_ (by assumption)))⟩
end
end Go.Proofs.Yteckbcfigklkpaa.Ag09
