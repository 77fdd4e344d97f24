/- Layer 9, law: of a window that is cut in two both have as many records as it. -/
import Derived.Test.YteckbcfigklkpaaAk09
import Derived.Test.YteckbcfigklkpaaGb
import Derived.StillTailTactics
import Derived.Deep.DeepCutAuto
namespace Go.Proofs.Yteckbcfigklkpaa.Am09
open Go.RowKit Go.Proofs.Yteckbcfigklkpaa.Pk08 Go.Proofs.Yteckbcfigklkpaa.Base Go.Proofs.Yteckbcfigklkpaa.App Go.Proofs.Yteckbcfigklkpaa.Ty Go.Proofs.Yteckbcfigklkpaa.Str Go.Proofs.Yteckbcfigklkpaa.Ky Go.Proofs.Yteckbcfigklkpaa.Bx Go.Proofs.Yteckbcfigklkpaa.Bo Go.Proofs.Yteckbcfigklkpaa.As Go.Proofs.Yteckbcfigklkpaa.Pl08 Go.Proofs.Yteckbcfigklkpaa.Kc08 Go.Proofs.Yteckbcfigklkpaa.Kd08 Go.Proofs.Yteckbcfigklkpaa.Kh08 Go.Proofs.Yteckbcfigklkpaa.Rv Go.Proofs.Yteckbcfigklkpaa.Ra Go.Proofs.Yteckbcfigklkpaa.Rp Go.Proofs.Yteckbcfigklkpaa.Ro Go.Proofs.Yteckbcfigklkpaa.Rk Go.Proofs.Yteckbcfigklkpaa.Ab09 Go.Proofs.Yteckbcfigklkpaa.Ac09 Go.Proofs.Yteckbcfigklkpaa.Ad09 Go.Proofs.Yteckbcfigklkpaa.Ae09 Go.Proofs.Yteckbcfigklkpaa.Af09 Go.Proofs.Yteckbcfigklkpaa.Ag09 Go.Proofs.Yteckbcfigklkpaa.Ah09 Go.Proofs.Yteckbcfigklkpaa.Ai09 Go.Proofs.Yteckbcfigklkpaa.Aj09 Go.Proofs.Yteckbcfigklkpaa.Ak09
set_option linter.unusedVariables false
set_option linter.unusedSimpArgs false
/-! ### plain -/
def midC (lo hi : List Nat) (j : Nat) : Nat := lo.getD j 0 + (hi.getD j 0 - lo.getD j 0) / 2
theorem setD (l : List Nat) (j x i : Nat) (h : j < l.length) : (l.set j x).getD i 0 = if i = j then x else l.getD i 0 := by
  by_cases e : i = j
  · subst e; simp [List.getD_eq_getElem?_getD, h]
  · rw [if_neg e]; simp [List.getD_eq_getElem?_getD, List.getElem?_set_ne (Ne.symm e)]
theorem inB_iff (k lo hi : List Nat) : inB k lo hi = true ↔ (lo.length = k.length ∧ k.length = hi.length ∧ ∀ i, i < k.length → lo.getD i 0 ≤ k.getD i 0 ∧ k.getD i 0 ≤ hi.getD i 0) := by
  unfold inB
  rw [Bool.and_eq_true, leL_iff, leL_iff]
  constructor
  · rintro ⟨⟨h1, h2⟩, h3, h4⟩
    exact ⟨h1, h3, fun i hi' => ⟨h2 i (by omega), h4 i hi'⟩⟩
  · rintro ⟨h1, h2, h3⟩
    exact ⟨⟨h1, fun i hi' => (h3 i (by omega)).1⟩, h2, fun i hi' => (h3 i hi').2⟩
section
variable {lo hi : List Nat} {d : Int} {j m : Nat}
theorem chk_parts (h : chkB lo hi d = 0) : (lo.length : Int) = d ∧ hi.length = lo.length ∧ lo.length ≤ 6 ∧ ∀ i, i < lo.length → lo.getD i 0 ≤ hi.getD i 0 := by
  obtain ⟨q1, q2, q3, q4⟩ := chkB_zero.1 h
  obtain ⟨q5, q6⟩ := (leL_iff _ _).1 q4
  exact ⟨q3, q5.symm, by omega, q6⟩
theorem chk_x (h : chkB lo hi d = 0) (hj : j < lo.length) (h1 : lo.getD j 0 ≤ m) : chkB lo (hi.set j m) d = 0 := by
  obtain ⟨q1, q2, q3, q4⟩ := chkB_zero.1 h
  obtain ⟨q5, q6⟩ := (leL_iff _ _).1 q4
  refine chkB_zero.2 ⟨q1, q2, q3, (leL_iff _ _).2 ⟨by rw [List.length_set]; exact q5, fun i hi' => ?_⟩⟩
  rw [setD _ _ _ _ (by omega)]
  split
  · next e => subst e; exact h1
  · exact q6 i hi'
theorem chk_y (h : chkB lo hi d = 0) (hj : j < lo.length) (h1 : m ≤ hi.getD j 0) : chkB (lo.set j m) hi d = 0 := by
  obtain ⟨q1, q2, q3, q4⟩ := chkB_zero.1 h
  obtain ⟨q5, q6⟩ := (leL_iff _ _).1 q4
  refine chkB_zero.2 ⟨q1, q2, by rw [List.length_set]; exact q3, (leL_iff _ _).2 ⟨by rw [List.length_set]; exact q5, fun i hi' => ?_⟩⟩
  rw [List.length_set] at hi'
  rw [setD _ _ _ _ (by omega)]
  split
  · next e => subst e; exact h1
  · exact q6 i hi'
theorem in_x {k : List Nat} (hj : j < hi.length) (h1 : m ≤ hi.getD j 0) : inB k lo (hi.set j m) = (inB k lo hi && decide (k.getD j 0 ≤ m)) := by
  rw [Bool.eq_iff_iff, Bool.and_eq_true, decide_eq_true_eq, inB_iff, inB_iff]
  constructor
  · rintro ⟨a1, a2, a3⟩
    rw [List.length_set] at a2
    have hk := a3 j (by omega)
    rw [setD _ _ _ _ hj, if_pos rfl] at hk
    refine ⟨⟨a1, a2, fun i hi' => ?_⟩, hk.2⟩
    have h4 := a3 i hi'
    rw [setD _ _ _ _ hj] at h4
    split at h4
    · next e => subst e; omega
    · exact h4
  · rintro ⟨⟨a1, a2, a3⟩, h4⟩
    refine ⟨a1, by rw [List.length_set]; exact a2, fun i hi' => ?_⟩
    have h5 := a3 i hi'
    rw [setD _ _ _ _ hj]
    split
    · next e => subst e; omega
    · exact h5
theorem in_y {k : List Nat} (hj : j < lo.length) (h1 : lo.getD j 0 ≤ m) : inB k (lo.set j (m + 1)) hi = (inB k lo hi && !decide (k.getD j 0 ≤ m)) := by
  rw [Bool.eq_iff_iff, Bool.and_eq_true, Bool.not_eq_true', decide_eq_false_iff_not, inB_iff, inB_iff]
  constructor
  · rintro ⟨a1, a2, a3⟩
    rw [List.length_set] at a1
    have hk := a3 j (by omega)
    rw [setD _ _ _ _ hj, if_pos rfl] at hk
    refine ⟨⟨a1, a2, fun i hi' => ?_⟩, by omega⟩
    have h4 := a3 i hi'
    rw [setD _ _ _ _ hj] at h4
    split at h4
    · next e => subst e; omega
    · exact h4
  · rintro ⟨⟨a1, a2, a3⟩, h4⟩
    refine ⟨by rw [List.length_set]; exact a1, a2, fun i hi' => ?_⟩
    have h5 := a3 i hi'
    rw [setD _ _ _ _ hj]
    split
    · next e => subst e; omega
    · exact h5
theorem part_len (p q : Rv.Rec → Bool) (rs : List Rv.Rec) : (rs.filter (fun r => p r && q r)).length + (rs.filter (fun r => p r && !q r)).length = (rs.filter p).length := by
  induction rs with
  | nil => rfl
  | cons r rs ih =>
    simp only [List.filter_cons]
    cases p r <;> cases q r <;> simp <;> omega
theorem cut_len (rs : List Rv.Rec) (h : chkB lo hi d = 0) (hj : j < lo.length) (h1 : lo.getD j 0 ≤ m) (h2 : m < hi.getD j 0) : (winL rs lo (hi.set j m) d).length + (winL rs (lo.set j (m + 1)) hi d).length = (winL rs lo hi d).length := by
  obtain ⟨q1, q2, q3, q4⟩ := chk_parts h
  rw [winL, winL, winL, if_pos h, if_pos (chk_x h hj h1), if_pos (chk_y h hj (by omega))]
  rw [← part_len (keep lo hi) (fun r => decide (r.1.getD j 0 ≤ m)) rs]
  congr 2
  · congr 1; funext r; exact in_x (by omega) (by omega)
  · congr 1; funext r; exact in_y hj h1
theorem win_in {rs : List Rv.Rec} (i : Nat) (hi' : i < (winL rs lo hi d).length) : inB ((winL rs lo hi d).getD i rec0).1 lo hi = true := by
  have e : (winL rs lo hi d).getD i rec0 = (winL rs lo hi d)[i] := by simp [List.getD_eq_getElem?_getD, hi']
  rw [e]
  have hm := List.getElem_mem hi'
  generalize (winL rs lo hi d)[i] = r at *
  unfold winL at hm
  split at hm
  · exact (List.mem_filter.1 hm).2
  · simp at hm
theorem win_strict {rs : List Rv.Rec} (h : Strict rs) : Strict (winL rs lo hi d) := by
  unfold winL
  split
  · exact List.Pairwise.sublist List.filter_sublist h
  · exact strict_nil
theorem win_le (rs : List Rv.Rec) : (winL rs lo hi d).length ≤ rs.length := by
  unfold winL
  split
  · exact List.length_filter_le _ _
  · simp
end
abbrev cutT (E1 E2 E3 E4 : TypeId) : Ty := .cn (.int .i64) (.cn (.sl E1 (recT E2)) (.cn (bxT E3 E4) (.cn (.int .i64) .nl)))
theorem rd_cut {E1 E2 E3 E4 : TypeId} {w : World} {x : (cutT E1 E2 E3 E4).D} {cs : Array Value} (h : Rd (cutT E1 E2 E3 E4) w x cs.toList) :
    ∃ (d : Int) (A : Option Addr) (n c : Nat) (rs : List Rv.Rec) (L : Option Addr) (ln lc : Nat) (H : Option Addr) (hn hc : Nat) (lo hi : List Nat) (z : Int), cs = #[.int .i64 d, .slice A n c, .slice L ln lc, .slice H hn hc, .int .i64 z] ∧ Rv w A n c rs ∧ Kv w L ln lc lo ∧ Kv w H hn hc hi := by
  obtain ⟨c1, c2, hc, ⟨rfl, _⟩, c3, c4, rfl, h2, c5, c6, rfl, h3, c7, c8, rfl, ⟨rfl, ht⟩, h5⟩ := h
  have h5' : c8 = [] := h5
  subst h5'
  have h2' := h2
  obtain ⟨A, c, rfl, _⟩ := h2'
  obtain ⟨rs, hr⟩ := Rv.of_rd h2
  obtain ⟨d1, d2, rfl, g1, d3, d4, rfl, g2, g3⟩ := h3
  have g3' : d4 = [] := g3
  subst g3'
  have g1' := g1
  have g2' := g2
  obtain ⟨L, lc, rfl, _⟩ := g1'
  obtain ⟨H, hc', rfl, _⟩ := g2'
  refine ⟨x.1, A, _, c, rs, L, _, lc, H, _, hc', _, _, x.2.2.2.1, ?_, hr, Kv.of_rd g1, Kv.of_rd g2⟩
  rw [← Array.toArray_toList (xs := cs), hc]
  rfl
/-- A box of two rows of which the second is the call's own. -/
structure BxH (w wx : World) (L : Option Addr) (ln lc hn : Nat) (hi : List Nat) (g C cc : Nat) : Prop where
  ob : Ob wx g #[.slice L ln lc, .slice (some ⟨C, 0, none⟩) hn cc] 35
  ow : wx.ownsRow w.heap.size 66 1 (.slice (some ⟨C, 0, none⟩) hn cc) hn (u32s hi)
  ne : C ≠ g
  ge : w.heap.size ≤ g ∧ w.heap.size ≤ C
  fr : Fr No w wx
structure BxL (w wx : World) (H : Option Addr) (hn hc ln : Nat) (lo : List Nat) (g C cc : Nat) : Prop where
  ob : Ob wx g #[.slice (some ⟨C, 0, none⟩) ln cc, .slice H hn hc] 35
  ow : wx.ownsRow w.heap.size 66 1 (.slice (some ⟨C, 0, none⟩) ln cc) ln (u32s lo)
  ne : C ≠ g
  ge : w.heap.size ≤ g ∧ w.heap.size ≤ C
  fr : Fr No w wx
theorem set_lt {l : List Nat} {j x : Nat} (hl : ∀ y ∈ l, y < 4294967296) (hx : x < 4294967296) : ∀ y ∈ l.set j x, y < 4294967296 := by
  intro y hy
  rcases List.mem_or_eq_of_mem_set hy with h | h
  · exact hl y h
  · omega
theorem two_set {wq wc w2 : World} {L H : Option Addr} {ln lc hn hc gx C cc gy D dd j m : Nat} {lo hi : List Nat} (h1 : BxH wq wc L ln lc hn hi gx C cc) (h2 : BxL wc w2 H hn hc ln lo gy D dd) (hl : ∀ y ∈ lo, y < 4294967296) (hh : ∀ y ∈ hi, y < 4294967296) (hm : m + 1 < 4294967296) :
    Ob ((w2.setCell ⟨C, j, none⟩ (.int .u32 (m : Int))).setCell ⟨D, j, none⟩ (.int .u32 ((m : Int) + 1))) gx #[.slice L ln lc, .slice (some ⟨C, 0, none⟩) hn cc] 35 ∧
    Ob ((w2.setCell ⟨C, j, none⟩ (.int .u32 (m : Int))).setCell ⟨D, j, none⟩ (.int .u32 ((m : Int) + 1))) gy #[.slice (some ⟨D, 0, none⟩) ln dd, .slice H hn hc] 35 ∧
    Kv ((w2.setCell ⟨C, j, none⟩ (.int .u32 (m : Int))).setCell ⟨D, j, none⟩ (.int .u32 ((m : Int) + 1))) (some ⟨C, 0, none⟩) hn cc (hi.set j m) ∧
    Kv ((w2.setCell ⟨C, j, none⟩ (.int .u32 (m : Int))).setCell ⟨D, j, none⟩ (.int .u32 ((m : Int) + 1))) (some ⟨D, 0, none⟩) ln dd (lo.set j (m + 1)) ∧
    Fr No wq ((w2.setCell ⟨C, j, none⟩ (.int .u32 (m : Int))).setCell ⟨D, j, none⟩ (.int .u32 ((m : Int) + 1))) := by
  simp only [show ((m : Int) + 1) = ((m + 1 : Nat) : Int) from rfl]
  have a1 := h1.ob.lt
  have a2 := (h1.ow.lt C rfl)
  have a3 := h1.ge
  have a4 := h2.ge
  have a5 := h1.ne
  have a6 := h2.ne
  have a7 := h1.fr.size
  have c1 := ((own_no h1.ow h2.fr).stored j (.int .u32 (m : Int))).1
  rw [u32s_set] at c1
  have c2 := own_putb (p := ⟨D, j, none⟩) c1 (by simp; omega) (.int .u32 ((m + 1 : Nat) : Int))
  have d1 := own_putb (p := ⟨C, j, none⟩) h2.ow (by simp; omega) (.int .u32 (m : Int))
  have d2 := (d1.stored j (.int .u32 ((m + 1 : Nat) : Int))).1
  rw [u32s_set] at d2
  refine ⟨?_, ?_, Kv.of_own c2 (set_lt hh (by omega)), Kv.of_own d2 (set_lt hl hm), ?_⟩
  · exact ((h1.ob.no h2.fr).other (p := ⟨C, j, none⟩) (by simp; omega) _).other (p := ⟨D, j, none⟩) (by simp; omega) _
  · exact (h2.ob.other (p := ⟨C, j, none⟩) (by simp; omega) _).other (p := ⟨D, j, none⟩) (by simp; omega) _
  · exact ((h1.fr.tr h2.fr).setCell (p := ⟨C, j, none⟩) (.inr a3.2) _).setCell (p := ⟨D, j, none⟩) (.inr (by show wq.heap.size ≤ D; omega)) _
set_option maxRecDepth 8000 in
set_option maxHeartbeats 6400000 in
theorem law_cut {E1 E2 E3 E4 : TypeId} (w : World) (cs : Array Value) (x : (cutT E1 E2 E3 E4).D) (h : Rd (cutT E1 E2 E3 E4) w x cs.toList) :
    Calls Try.prog 6 #[.agg cs] w fun e w' => e = .returned (.bool true) ∧ Fr No w w' := by
  obtain ⟨d, A, n, c, rs, L, ln, lc, H, hn, hc, lo, hi, z, rfl, hr, hl, hh⟩ := rd_cut h
  clear h x
  have Hr := Lib.hid hr
  have Hl := Lib.hid hl
  have Hh := Lib.hid hh
  have HN := Lib.hid hr.len
  have HO := Lib.hid (Ob.new w #[.int .i64 d, .slice A n c, .slice L ln lc, .slice H hn hc, .int .i64 z] 62)
  clear hr hl hh
  go_enter Try.func6, Try.ntmps6
  go_wp2
  obtain ⟨b0, b1, b2, b3, b4⟩ := five HO.out
  (refine wp_region_held_drew (S := fun w' => w'.cell? ⟨w.heap.size, 0, none⟩ = some (.int .i64 d) ∧ w'.cell? ⟨w.heap.size, 1, none⟩ = some (.slice A n c) ∧ w'.cell? ⟨w.heap.size, 2, none⟩ = some (.slice L ln lc) ∧ w'.cell? ⟨w.heap.size, 3, none⟩ = some (.slice H hn hc) ∧ w'.cell? ⟨w.heap.size, 4, none⟩ = some (.int .i64 z)) (by kernel_rfl) ?_ (fun hHeld => ?_); focus ((try dsimp only); exact ⟨b0, b1, b2, b3, b4⟩; done))
  ((refine wpAnyH_take (i := 0) (v := ?_) rfl (by kernel_rfl) (by kernel_rfl) (by kernel_rfl) (fun _ _ _ h => h) (Or.inl ⟨by rfl, ?_⟩) (by assumption) ?_; rotate_left; focus (intro w hSw; (try dsimp only at hSw); go_simp; (try with_reducible rfl); done)); (try simp only [Act.put, List.setIfInBounds_toArray, List.set_cons_zero, List.set_cons_succ, List.getElem_toArray, List.getElem_cons_zero, List.getElem_cons_succ]); (refine wpAnyH_take (i := 1) (v := ?_) rfl (by kernel_rfl) (by kernel_rfl) (by kernel_rfl) (fun _ _ _ h => h) (Or.inl ⟨by rfl, ?_⟩) (by assumption) ?_; rotate_left; focus (intro w hSw; (try dsimp only at hSw); go_simp; (try with_reducible rfl); done)); (try simp only [Act.put, List.setIfInBounds_toArray, List.set_cons_zero, List.set_cons_succ, List.getElem_toArray, List.getElem_cons_zero, List.getElem_cons_succ]); (refine wpAnyH_take (i := 2) (v := ?_) rfl (by kernel_rfl) (by kernel_rfl) (by kernel_rfl) (fun _ _ _ h => h) (Or.inl ⟨by rfl, ?_⟩) (by assumption) ?_; rotate_left; focus (intro w hSw; (try dsimp only at hSw); go_simp; (try with_reducible rfl); done)); (try simp only [Act.put, List.setIfInBounds_toArray, List.set_cons_zero, List.set_cons_succ, List.getElem_toArray, List.getElem_cons_zero, List.getElem_cons_succ]); (refine wpAnyH_take (i := 3) (v := ?_) rfl (by kernel_rfl) (by kernel_rfl) (by kernel_rfl) (fun _ _ _ h => h) (Or.inl ⟨by rfl, ?_⟩) (by assumption) ?_; rotate_left; focus (intro w hSw; (try dsimp only at hSw); go_simp; (try with_reducible rfl); done)); (try simp only [Act.put, List.setIfInBounds_toArray, List.set_cons_zero, List.set_cons_succ, List.getElem_toArray, List.getElem_cons_zero, List.getElem_cons_succ]); (refine wpAnyH_take (i := 4) (v := ?_) rfl (by kernel_rfl) (by kernel_rfl) (by kernel_rfl) (fun _ _ _ h => h) (Or.inl ⟨by rfl, ?_⟩) (by assumption) ?_; rotate_left; focus (intro w hSw; (try dsimp only at hSw); go_simp; (try with_reducible rfl); done)); (try simp only [Act.put, List.setIfInBounds_toArray, List.set_cons_zero, List.set_cons_succ, List.getElem_toArray, List.getElem_cons_zero, List.getElem_cons_succ]); (refine wpAnyH_take (i := 5) (v := ?_) rfl (by kernel_rfl) (by kernel_rfl) (by kernel_rfl) (fun _ _ _ h => h) (Or.inl ⟨by rfl, ?_⟩) (by assumption) ?_; rotate_left; focus (intro w hSw; (try dsimp only at hSw); go_simp; (try with_reducible rfl); done)); (try simp only [Act.put, List.setIfInBounds_toArray, List.set_cons_zero, List.set_cons_succ, List.getElem_toArray, List.getElem_cons_zero, List.getElem_cons_succ]); (refine wpAnyH_take (i := 6) (v := ?_) rfl (by kernel_rfl) (by kernel_rfl) (by kernel_rfl) (fun _ _ _ h => h) (Or.inl ⟨by rfl, ?_⟩) (by assumption) ?_; rotate_left; focus (intro w hSw; (try dsimp only at hSw); go_simp; (try with_reducible rfl); done)); (try simp only [Act.put, List.setIfInBounds_toArray, List.set_cons_zero, List.set_cons_succ, List.getElem_toArray, List.getElem_cons_zero, List.getElem_cons_succ]); (refine wpAnyH_take (i := 7) (v := ?_) rfl (by kernel_rfl) (by kernel_rfl) (by kernel_rfl) (fun _ _ _ h => h) (Or.inl ⟨by rfl, ?_⟩) (by assumption) ?_; rotate_left; focus (intro w hSw; (try dsimp only at hSw); go_simp; (try with_reducible rfl); done)); (try simp only [Act.put, List.setIfInBounds_toArray, List.set_cons_zero, List.set_cons_succ, List.getElem_toArray, List.getElem_cons_zero, List.getElem_cons_succ]))
  (refine wpAnyH_ready (rs := [8]) (by kernel_rfl) (by simp) ?_; refine AllReadyH.cons rfl (fun K hK => ?_) AllReadyH.nil; (try simp only [Act.put, List.setIfInBounds_toArray, List.set_cons_zero, List.set_cons_succ, List.getElem_toArray, List.getElem_cons_zero, List.getElem_cons_succ]); go_simp; refine hK.out _ _ ?_ (fun hHeld => ?_); focus ((try dsimp only); (refine ⟨?_, ?_, ?_, ?_, ?_⟩; (repeat (first | with_reducible assumption | with_reducible refine cel_alloc ?_ _ | with_reducible refine cel_drew ?_ | with_reducible refine cel_drewN ?_ _ | with_reducible refine cel_set ?_ (by first | (simp; done) | (simp; omega)) _ | with_reducible refine cel_no ?_ (by assumption))); (repeat (first | with_reducible assumption | with_reducible refine cel_alloc ?_ _ | with_reducible refine cel_drew ?_ | with_reducible refine cel_drewN ?_ _ | with_reducible refine cel_set ?_ (by first | (simp; done) | (simp; omega)) _ | with_reducible refine cel_no ?_ (by assumption))); (repeat (first | with_reducible assumption | with_reducible refine cel_alloc ?_ _ | with_reducible refine cel_drew ?_ | with_reducible refine cel_drewN ?_ _ | with_reducible refine cel_set ?_ (by first | (simp; done) | (simp; omega)) _ | with_reducible refine cel_no ?_ (by assumption))); (repeat (first | with_reducible assumption | with_reducible refine cel_alloc ?_ _ | with_reducible refine cel_drew ?_ | with_reducible refine cel_drewN ?_ _ | with_reducible refine cel_set ?_ (by first | (simp; done) | (simp; omega)) _ | with_reducible refine cel_no ?_ (by assumption))); (repeat (first | with_reducible assumption | with_reducible refine cel_alloc ?_ _ | with_reducible refine cel_drew ?_ | with_reducible refine cel_drewN ?_ _ | with_reducible refine cel_set ?_ (by first | (simp; done) | (simp; omega)) _ | with_reducible refine cel_no ?_ (by assumption)))); done)); (clear hK K); (try simp only [Act.put, List.setIfInBounds_toArray, List.set_cons_zero, List.set_cons_succ, List.getElem_toArray, List.getElem_cons_zero, List.getElem_cons_succ])
  ((refine wpAnyH_take (i := 9) (v := ?_) rfl (by kernel_rfl) (by kernel_rfl) (by kernel_rfl) (fun _ _ _ h => h) (Or.inl ⟨by rfl, ?_⟩) (by assumption) ?_; rotate_left; focus (intro w hSw; (try dsimp only at hSw); go_simp; (try with_reducible rfl); done)); (try simp only [Act.put, List.setIfInBounds_toArray, List.set_cons_zero, List.set_cons_succ, List.getElem_toArray, List.getElem_cons_zero, List.getElem_cons_succ]); (refine wpAnyH_take (i := 10) (v := ?_) rfl (by kernel_rfl) (by kernel_rfl) (by kernel_rfl) (fun _ _ _ h => h) (Or.inl ⟨by rfl, ?_⟩) (by assumption) ?_; rotate_left; focus (intro w hSw; (try dsimp only at hSw); go_simp; (try with_reducible rfl); done)); (try simp only [Act.put, List.setIfInBounds_toArray, List.set_cons_zero, List.set_cons_succ, List.getElem_toArray, List.getElem_cons_zero, List.getElem_cons_succ]))
  (refine wpAnyH_ready (rs := [11]) (by kernel_rfl) (by simp) ?_; refine AllReadyH.cons rfl (fun K hK => ?_) AllReadyH.nil; (try simp only [Act.put, List.setIfInBounds_toArray, List.set_cons_zero, List.set_cons_succ, List.getElem_toArray, List.getElem_cons_zero, List.getElem_cons_succ]); go_simp; refine hK.out _ _ ?_ (fun hHeld => ?_); focus ((try dsimp only); (refine ⟨?_, ?_, ?_, ?_, ?_⟩; (repeat (first | with_reducible assumption | with_reducible refine cel_alloc ?_ _ | with_reducible refine cel_drew ?_ | with_reducible refine cel_drewN ?_ _ | with_reducible refine cel_set ?_ (by first | (simp; done) | (simp; omega)) _ | with_reducible refine cel_no ?_ (by assumption))); (repeat (first | with_reducible assumption | with_reducible refine cel_alloc ?_ _ | with_reducible refine cel_drew ?_ | with_reducible refine cel_drewN ?_ _ | with_reducible refine cel_set ?_ (by first | (simp; done) | (simp; omega)) _ | with_reducible refine cel_no ?_ (by assumption))); (repeat (first | with_reducible assumption | with_reducible refine cel_alloc ?_ _ | with_reducible refine cel_drew ?_ | with_reducible refine cel_drewN ?_ _ | with_reducible refine cel_set ?_ (by first | (simp; done) | (simp; omega)) _ | with_reducible refine cel_no ?_ (by assumption))); (repeat (first | with_reducible assumption | with_reducible refine cel_alloc ?_ _ | with_reducible refine cel_drew ?_ | with_reducible refine cel_drewN ?_ _ | with_reducible refine cel_set ?_ (by first | (simp; done) | (simp; omega)) _ | with_reducible refine cel_no ?_ (by assumption))); (repeat (first | with_reducible assumption | with_reducible refine cel_alloc ?_ _ | with_reducible refine cel_drew ?_ | with_reducible refine cel_drewN ?_ _ | with_reducible refine cel_set ?_ (by first | (simp; done) | (simp; omega)) _ | with_reducible refine cel_no ?_ (by assumption)))); done)); (clear hK K); (try simp only [Act.put, List.setIfInBounds_toArray, List.set_cons_zero, List.set_cons_succ, List.getElem_toArray, List.getElem_cons_zero, List.getElem_cons_succ])
  (refine wpAnyH_take (i := 12) (v := ?_) rfl (by kernel_rfl) (by kernel_rfl) (by kernel_rfl) (fun _ _ _ h => h) (Or.inl ⟨by rfl, ?_⟩) (by assumption) ?_; rotate_left; focus (intro w hSw; (try dsimp only at hSw); go_simp; (try with_reducible rfl); done)); (try simp only [Act.put, List.setIfInBounds_toArray, List.set_cons_zero, List.set_cons_succ, List.getElem_toArray, List.getElem_cons_zero, List.getElem_cons_succ])
  (refine wpAnyH_done (by kernel_rfl) ?_ _)
  have hfw : Fr No w (((w.alloc (.cells #[.int .i64 d, .slice A n c, .slice L ln lc, .slice H hn hc, .int .i64 z] 62)).alloc (.cells #[.slice L ln lc, .slice H hn hc] 35)).drew) := by (repeat (first | with_reducible exact Fr.refl _ _ | with_reducible refine Fr.setCell ?_ (.inr (by first | (simp; done) | (simp; omega))) _ | with_reducible refine Fr.alloc ?_ _ | with_reducible refine Fr.drew ?_ | with_reducible refine Fr.drewN ?_ _ | with_reducible refine Fr.tr ?_ (by assumption)))
  have hoR : Ob (((w.alloc (.cells #[.int .i64 d, .slice A n c, .slice L ln lc, .slice H hn hc, .int .i64 z] 62)).alloc (.cells #[.slice L ln lc, .slice H hn hc] 35)).drew) (w.heap.size + 1) #[.slice L ln lc, .slice H hn hc] 35 := by
    have := Ob.new (w.alloc (.cells #[.int .i64 d, .slice A n c, .slice L ln lc, .slice H hn hc, .int .i64 z] 62)) #[.slice L ln lc, .slice H hn hc] 35
    simpa using this.drew
  have HFW := Lib.hid hfw
  have HOR := Lib.hid hoR
  clear b0 b1 b2 b3 b4 hfw hoR
  generalize ((w.alloc (.cells #[.int .i64 d, .slice A n c, .slice L ln lc, .slice H hn hc, .int .i64 z] 62)).alloc (.cells #[.slice L ln lc, .slice H hn hc] 35)).drew = v1 at *
  generalize w.heap.size + 1 = gr at *
  by_cases hd : 1 ≤ d ∧ d ≤ 6
  · cases hf : fewB rs with
    | false =>
      have Hf := Lib.hid hf
      clear hf
      go_wp2_with first
        | (go_at_call 8; ((with_reducible refine (new_s (w0 := v1) hd (Fr.refl _ _)).mono ?_); rintro en w1 ⟨ga, rfl, hs1, hga, hf1⟩))
        | (go_at_call 28; ((with_reducible refine (few_any (rs := rs) (Hr.out.no (HFW.out.tr hf1))).mono ?_); rintro e w2 ⟨rfl, rfl⟩; rw [Hf.out]))
        | (go_at_call 11; ((with_reducible refine (live _).mono ?_); rintro e wl ⟨rfl, hfl⟩))
        | fail
      go_ret
      exact ⟨rfl, (HFW.out.tr hf1).tr hfl⟩
    | true =>
      have Hf := Lib.hid hf
      have hn60 : n ≤ 60 := by have := (fewB_iff.1 hf).1; have := HN.out; omega
      clear hf
      rcases chkB_rng lo hi d with hb | hb
      · have Hb := Lib.hid hb
        clear hb
        by_cases hz0 : z < 0
        · go_wp2_with first
            | (go_at_call 8; ((with_reducible refine (new_s (w0 := v1) hd (Fr.refl _ _)).mono ?_); rintro en w1 ⟨ga, rfl, hs1, hga, hf1⟩; (obtain ⟨r0, r1⟩ := cells2 (HOR.out.no hf1))))
            | (go_at_call 28; ((with_reducible refine (few_any (rs := rs) (Hr.out.no (HFW.out.tr hf1))).mono ?_); rintro e w2 ⟨rfl, rfl⟩; rw [Hf.out]))
            | (go_at_call 29; ((with_reducible refine (rcheckBox_any (lo := lo) (hi := hi) _ (Hl.out.no (HFW.out.tr hf1)) (Hh.out.no (HFW.out.tr hf1))).mono ?_); rintro e w3 ⟨rfl, hf3⟩; rw [Hb.out]))
            | (go_at_call 11; ((with_reducible refine (live _).mono ?_); rintro e wl ⟨rfl, hfl⟩))
            | fail
          go_ret
          exact ⟨rfl, ((HFW.out.tr hf1).tr hf3).tr hfl⟩
        · by_cases hzd : d ≤ z
          · go_wp2_with first
              | (go_at_call 8; ((with_reducible refine (new_s (w0 := v1) hd (Fr.refl _ _)).mono ?_); rintro en w1 ⟨ga, rfl, hs1, hga, hf1⟩; (obtain ⟨r0, r1⟩ := cells2 (HOR.out.no hf1))))
              | (go_at_call 28; ((with_reducible refine (few_any (rs := rs) (Hr.out.no (HFW.out.tr hf1))).mono ?_); rintro e w2 ⟨rfl, rfl⟩; rw [Hf.out]))
              | (go_at_call 29; ((with_reducible refine (rcheckBox_any (lo := lo) (hi := hi) _ (Hl.out.no (HFW.out.tr hf1)) (Hh.out.no (HFW.out.tr hf1))).mono ?_); rintro e w3 ⟨rfl, hf3⟩; rw [Hb.out]))
              | (go_at_call 11; ((with_reducible refine (live _).mono ?_); rintro e wl ⟨rfl, hfl⟩))
              | fail
            go_ret
            exact ⟨rfl, ((HFW.out.tr hf1).tr hf3).tr hfl⟩
          · obtain ⟨j, rfl⟩ : ∃ j : Nat, z = (j : Int) := ⟨z.toNat, by omega⟩
            go_wp2_with first
              | (go_at_call 8; ((with_reducible refine (new_s (w0 := v1) hd (Fr.refl _ _)).mono ?_); rintro en w1 ⟨ga, rfl, hs1, hga, hf1⟩; (obtain ⟨r0, r1⟩ := cells2 (HOR.out.no hf1))))
              | (go_at_call 28; ((with_reducible refine (few_any (rs := rs) (Hr.out.no (HFW.out.tr hf1))).mono ?_); rintro e w2 ⟨rfl, rfl⟩; rw [Hf.out]))
              | (go_at_call 29; ((with_reducible refine (rcheckBox_any (lo := lo) (hi := hi) _ (Hl.out.no (HFW.out.tr hf1)) (Hh.out.no (HFW.out.tr hf1))).mono ?_); rintro e w3 ⟨rfl, hf3⟩; rw [Hb.out]))
              | fail
            have Hs1 := Lib.hid (hs1.no hf3)
            have hchk := chk_parts Hb.out
            have hjl : j < lo.length := by omega
            clear hs1 hf1 hf3 r0 r1
            go_loopw [9] (fun v wr => ∃ i : Nat, v = .int .i64 i ∧ i ≤ n ∧ Hid (∃ cur, Sa v1 wr ga d cur ∧ cur.length ≤ i)) (fun v _ => n - (intOf v).toNat)
            case atStart => exact ⟨0, rfl, Nat.zero_le _, Lib.hid ⟨[], Hs1.out, Nat.le_refl 0⟩⟩
            case round =>
              obtain ⟨i, rfl, hin, Hi⟩ := hrel
              obtain ⟨cur, hsa, hcl⟩ := Hi.out
              by_cases hlt : i < n
              · obtain ⟨b, off, KA, ka, rfl, a0, a1, hka, hza⟩ := (Hr.out.no (HFW.out.tr hsa.fr)).get i (by rw [← HN.out]; exact hlt)
                have HP := Lib.hid (put_s (s := (rs.getD i rec0).2) hsa hka hza (by omega))
                have Hcl := Lib.hid (putL_len cur (rs.getD i rec0) d)
                generalize rs.getD i rec0 = r at *
                obtain ⟨ls, u⟩ := r
                simp only at *
                clear hsa Hi hka
                go_wp2_with (go_at_call 16; ((with_reducible refine HP.out.mono ?_); rintro en w3 ⟨rfl, hs3⟩))
                exact ⟨⟨i + 1, by go_num, hlt, Lib.hid ⟨_, hs3, by have := Hcl.out; omega⟩⟩, by simp [intOf]; omega⟩
              · obtain rfl : i = n := by omega
                have HS := Lib.hid hsa
                clear hsa Hi Hs1
                obtain ⟨r0, r1⟩ := cells2 (HOR.out.no HS.out.fr)
                have hR60 : (winL cur lo hi d).length ≤ 60 := by have := win_le (lo := lo) (hi := hi) (d := d) cur; omega
                have HWS := Lib.hid (win_strict (lo := lo) (hi := hi) (d := d) HS.out.st)
                have HWI := Lib.hid (fun i => win_in (rs := cur) (lo := lo) (hi := hi) (d := d) i)
                have HW := Lib.hid (window_s HS.out (Hl.out.no (HFW.out.tr HS.out.fr)) (Hh.out.no (HFW.out.tr HS.out.fr)))
                rw [Hb.out] at HW
                have HCL := Lib.hid (fun m => cut_len (m := m) cur Hb.out hjl)
                generalize hRR : winL cur lo hi d = R at *
                clear hRR
                go_wp2_with (go_at_call 22; ((with_reducible refine HW.out.mono ?_); rintro en w4 ⟨A4, n4, c4, rfl, ho4, hf4⟩))
                have HR4 := Lib.hid ho4.rv
                obtain rfl : n4 = R.length := HR4.out.len
                have HS4 := Lib.hid (HS.out.no hf4)
                clear HS ho4 hf4 HW r0 r1
                go_loopw [12] (fun v wq => ∃ p : Nat, v = .int .i64 p ∧ p ≤ R.length ∧ Hid (Fr No w4 wq)) (fun v _ => R.length - (intOf v).toNat)
                case atStart => exact ⟨0, rfl, Nat.zero_le _, Lib.hid (Fr.refl _ _)⟩
                case round =>
                  obtain ⟨p, rfl, hpn, Hp⟩ := hrel
                  by_cases hlp : p < R.length
                  · obtain ⟨b3, off3, KA3, ka3, rfl, a0, a1, hka3, hza3⟩ := (HR4.out.no Hp.out).get p hlp
                    have HFP := Lib.hid (HFW.out.tr (HS4.out.fr.tr Hp.out))
                    obtain ⟨y0, y1⟩ := cells2 (HOR.out.no (HS4.out.fr.tr Hp.out))
                    have Hka := Lib.hid hka3
                    have HlW := Lib.hid (Hl.out.no HFP.out)
                    have HhW := Lib.hid (Hh.out.no HFP.out)
                    have Hin := Lib.hid (HWI.out p hlp)
                    clear hka3
                    rcases Nat.eq_zero_or_pos p with hp0 | hp0
                    · have hdp : decide ((0 : Int) < (p : Int)) = false := decide_eq_false (by omega)
                      have hnp : ¬ (0 : Int) < (p : Int) := by omega
                      have hdp2 : decide (0 < p) = false := decide_eq_false (by omega)
                      clear hp0
                      generalize R.getD p rec0 = r1 at *
                      obtain ⟨ks, s⟩ := r1
                      simp only at *
                      go_wp2
                      (refine wp_region_held_drew (S := fun w' => w'.cell? ⟨b3, off3 + p * 2, none⟩ = some (.slice KA3 ks.length ka3) ∧ w'.cell? ⟨gr, 0, none⟩ = some (.slice L ln lc) ∧ w'.cell? ⟨gr, 1, none⟩ = some (.slice H hn hc)) (by kernel_rfl) ?_ (fun hHeld => ?_); focus ((try dsimp only); (refine ⟨?_, ?_, ?_⟩; (repeat (first | with_reducible assumption | with_reducible refine cel_alloc ?_ _ | with_reducible refine cel_drew ?_ | with_reducible refine cel_drewN ?_ _ | with_reducible refine cel_set ?_ (by first | (simp; done) | (simp; omega)) _ | with_reducible refine cel_no ?_ (by assumption))); (repeat (first | with_reducible assumption | with_reducible refine cel_alloc ?_ _ | with_reducible refine cel_drew ?_ | with_reducible refine cel_drewN ?_ _ | with_reducible refine cel_set ?_ (by first | (simp; done) | (simp; omega)) _ | with_reducible refine cel_no ?_ (by assumption))); (repeat (first | with_reducible assumption | with_reducible refine cel_alloc ?_ _ | with_reducible refine cel_drew ?_ | with_reducible refine cel_drewN ?_ _ | with_reducible refine cel_set ?_ (by first | (simp; done) | (simp; omega)) _ | with_reducible refine cel_no ?_ (by assumption)))); done))
                      ((refine wpAnyH_take (i := 0) (v := ?_) rfl (by kernel_rfl) (by kernel_rfl) (by kernel_rfl) (fun _ _ _ h => h) (Or.inl ⟨by rfl, ?_⟩) (by assumption) ?_; rotate_left; focus (intro w hSw; (try dsimp only at hSw); go_simp; (try with_reducible rfl); done)); (try simp only [Act.put, List.setIfInBounds_toArray, List.set_cons_zero, List.set_cons_succ, List.getElem_toArray, List.getElem_cons_zero, List.getElem_cons_succ]); (refine wpAnyH_take (i := 1) (v := ?_) rfl (by kernel_rfl) (by kernel_rfl) (by kernel_rfl) (fun _ _ _ h => h) (Or.inl ⟨by rfl, ?_⟩) (by assumption) ?_; rotate_left; focus (intro w hSw; (try dsimp only at hSw); go_simp; (try with_reducible rfl); done)); (try simp only [Act.put, List.setIfInBounds_toArray, List.set_cons_zero, List.set_cons_succ, List.getElem_toArray, List.getElem_cons_zero, List.getElem_cons_succ]); (refine wpAnyH_take (i := 2) (v := ?_) rfl (by kernel_rfl) (by kernel_rfl) (by kernel_rfl) (fun _ _ _ h => h) (Or.inl ⟨by rfl, ?_⟩) (by assumption) ?_; rotate_left; focus (intro w hSw; (try dsimp only at hSw); go_simp; (try with_reducible rfl); done)); (try simp only [Act.put, List.setIfInBounds_toArray, List.set_cons_zero, List.set_cons_succ, List.getElem_toArray, List.getElem_cons_zero, List.getElem_cons_succ]); (refine wpAnyH_take (i := 3) (v := ?_) rfl (by kernel_rfl) (by kernel_rfl) (by kernel_rfl) (fun _ _ _ h => h) (Or.inl ⟨by rfl, ?_⟩) (by assumption) ?_; rotate_left; focus (intro w hSw; (try dsimp only at hSw); go_simp; (try with_reducible rfl); done)); (try simp only [Act.put, List.setIfInBounds_toArray, List.set_cons_zero, List.set_cons_succ, List.getElem_toArray, List.getElem_cons_zero, List.getElem_cons_succ]); (refine wpAnyH_take (i := 4) (v := ?_) rfl (by kernel_rfl) (by kernel_rfl) (by kernel_rfl) (fun _ _ _ h => h) (Or.inl ⟨by rfl, ?_⟩) (by assumption) ?_; rotate_left; focus (intro w hSw; (try dsimp only at hSw); go_simp; (try with_reducible rfl); done)); (try simp only [Act.put, List.setIfInBounds_toArray, List.set_cons_zero, List.set_cons_succ, List.getElem_toArray, List.getElem_cons_zero, List.getElem_cons_succ]); (refine wpAnyH_take (i := 5) (v := ?_) rfl (by kernel_rfl) (by kernel_rfl) (by kernel_rfl) (fun _ _ _ h => h) (Or.inl ⟨by rfl, ?_⟩) (by assumption) ?_; rotate_left; focus (intro w hSw; (try dsimp only at hSw); go_simp; (try with_reducible rfl); done)); (try simp only [Act.put, List.setIfInBounds_toArray, List.set_cons_zero, List.set_cons_succ, List.getElem_toArray, List.getElem_cons_zero, List.getElem_cons_succ]))
                      (refine wpAnyH_ready (rs := [6]) (by kernel_rfl) (by simp) ?_; refine AllReadyH.cons rfl (fun K hK => ?_) AllReadyH.nil; go_simp; (go_at_call 30; ((with_reducible refine (rin_any (k := ks) (lo := lo) (hi := hi) ?_ ?_ ?_).mono ?_); (focus ((have hk := Hka.out); (repeat (first | with_reducible assumption | ((with_reducible refine Kv.lit_new _ _ _ _ _ _ ?_ ?_ ?_ ?_) <;> (first | (simp; done) | rfl | decide)) | with_reducible exact Kv.none_ _ | with_reducible refine Kv.alloc ?_ _ | with_reducible refine Kv.drew ?_ | with_reducible refine Kv.drewN ?_ _ | with_reducible refine Kv.no ?_ (by assumption))))); (focus ((have hk := HlW.out); (repeat (first | with_reducible assumption | ((with_reducible refine Kv.lit_new _ _ _ _ _ _ ?_ ?_ ?_ ?_) <;> (first | (simp; done) | rfl | decide)) | with_reducible exact Kv.none_ _ | with_reducible refine Kv.alloc ?_ _ | with_reducible refine Kv.drew ?_ | with_reducible refine Kv.drewN ?_ _ | with_reducible refine Kv.no ?_ (by assumption))))); (focus ((have hk := HhW.out); (repeat (first | with_reducible assumption | ((with_reducible refine Kv.lit_new _ _ _ _ _ _ ?_ ?_ ?_ ?_) <;> (first | (simp; done) | rfl | decide)) | with_reducible exact Kv.none_ _ | with_reducible refine Kv.alloc ?_ _ | with_reducible refine Kv.drew ?_ | with_reducible refine Kv.drewN ?_ _ | with_reducible refine Kv.no ?_ (by assumption))))); rintro e w5 ⟨rfl, hf5⟩; rw [Hin.out])); (try go_wp2_with fail); refine hK.out _ _ ?_ (fun hHeld => ?_); focus ((try dsimp only); (refine ⟨?_, ?_, ?_⟩; (repeat (first | with_reducible assumption | with_reducible refine cel_alloc ?_ _ | with_reducible refine cel_drew ?_ | with_reducible refine cel_drewN ?_ _ | with_reducible refine cel_set ?_ (by first | (simp; done) | (simp; omega)) _ | with_reducible refine cel_no ?_ (by assumption))); (repeat (first | with_reducible assumption | with_reducible refine cel_alloc ?_ _ | with_reducible refine cel_drew ?_ | with_reducible refine cel_drewN ?_ _ | with_reducible refine cel_set ?_ (by first | (simp; done) | (simp; omega)) _ | with_reducible refine cel_no ?_ (by assumption))); (repeat (first | with_reducible assumption | with_reducible refine cel_alloc ?_ _ | with_reducible refine cel_drew ?_ | with_reducible refine cel_drewN ?_ _ | with_reducible refine cel_set ?_ (by first | (simp; done) | (simp; omega)) _ | with_reducible refine cel_no ?_ (by assumption)))); done)); (clear hK K); (try simp only [Act.put, List.setIfInBounds_toArray, List.set_cons_zero, List.set_cons_succ, List.getElem_toArray, List.getElem_cons_zero, List.getElem_cons_succ])
                      ((refine wpAnyH_take (i := 7) (v := ?_) rfl (by kernel_rfl) (by kernel_rfl) (by kernel_rfl) (fun _ _ _ h => h) (Or.inl ⟨by rfl, ?_⟩) (by assumption) ?_; rotate_left; focus (intro w hSw; (try dsimp only at hSw); go_simp; (try with_reducible rfl); done)); (try simp only [Act.put, List.setIfInBounds_toArray, List.set_cons_zero, List.set_cons_succ, List.getElem_toArray, List.getElem_cons_zero, List.getElem_cons_succ]); (refine wpAnyH_take (i := 8) (v := ?_) rfl (by kernel_rfl) (by kernel_rfl) (by kernel_rfl) (fun _ _ _ h => h) (Or.inl ⟨by rfl, ?_⟩) (by assumption) ?_; rotate_left; focus (intro w hSw; (try dsimp only at hSw); go_simp; (try with_reducible rfl); done)); (try simp only [Act.put, List.setIfInBounds_toArray, List.set_cons_zero, List.set_cons_succ, List.getElem_toArray, List.getElem_cons_zero, List.getElem_cons_succ]); (refine wpAnyH_take (i := 9) (v := ?_) rfl (by kernel_rfl) (by kernel_rfl) (by kernel_rfl) (fun _ _ _ h => h) (Or.inl ⟨by rfl, ?_⟩) (by assumption) ?_; rotate_left; focus (intro w hSw; (try dsimp only at hSw); go_simp; (try with_reducible rfl); done)); (try simp only [Act.put, List.setIfInBounds_toArray, List.set_cons_zero, List.set_cons_succ, List.getElem_toArray, List.getElem_cons_zero, List.getElem_cons_succ]); (refine wpAnyH_take (i := 10) (v := ?_) rfl (by kernel_rfl) (by kernel_rfl) (by kernel_rfl) (fun _ _ _ h => h) (Or.inl ⟨by rfl, ?_⟩) (by assumption) ?_; rotate_left; focus (intro w hSw; (try dsimp only at hSw); go_simp; (try with_reducible rfl); done)); (try simp only [Act.put, List.setIfInBounds_toArray, List.set_cons_zero, List.set_cons_succ, List.getElem_toArray, List.getElem_cons_zero, List.getElem_cons_succ]); (refine wpAnyH_take (i := 11) (v := ?_) rfl (by kernel_rfl) (by kernel_rfl) (by kernel_rfl) (fun _ _ _ h => h) (Or.inl ⟨by rfl, ?_⟩) (by assumption) ?_; rotate_left; focus (intro w hSw; (try dsimp only at hSw); go_simp; (try with_reducible rfl); done)); (try simp only [Act.put, List.setIfInBounds_toArray, List.set_cons_zero, List.set_cons_succ, List.getElem_toArray, List.getElem_cons_zero, List.getElem_cons_succ]))
                      ((refine wpAnyH_take (i := 12) (v := undef) rfl (by kernel_rfl) (by kernel_rfl) (by kernel_rfl) (fun _ _ _ h => h) (Or.inr ⟨by rfl, rfl⟩) (by assumption) ?_); (try simp only [Act.put, List.setIfInBounds_toArray, List.set_cons_zero, List.set_cons_succ, List.getElem_toArray, List.getElem_cons_zero, List.getElem_cons_succ]); (refine wpAnyH_take (i := 13) (v := undef) rfl (by kernel_rfl) (by kernel_rfl) (by kernel_rfl) (fun _ _ _ h => h) (Or.inr ⟨by rfl, rfl⟩) (by assumption) ?_); (try simp only [Act.put, List.setIfInBounds_toArray, List.set_cons_zero, List.set_cons_succ, List.getElem_toArray, List.getElem_cons_zero, List.getElem_cons_succ]); (refine wpAnyH_take (i := 14) (v := undef) rfl (by kernel_rfl) (by kernel_rfl) (by kernel_rfl) (fun _ _ _ h => h) (Or.inr ⟨by rfl, rfl⟩) (by assumption) ?_); (try simp only [Act.put, List.setIfInBounds_toArray, List.set_cons_zero, List.set_cons_succ, List.getElem_toArray, List.getElem_cons_zero, List.getElem_cons_succ]); (refine wpAnyH_take (i := 15) (v := undef) rfl (by kernel_rfl) (by kernel_rfl) (by kernel_rfl) (fun _ _ _ h => h) (Or.inr ⟨by rfl, rfl⟩) (by assumption) ?_); (try simp only [Act.put, List.setIfInBounds_toArray, List.set_cons_zero, List.set_cons_succ, List.getElem_toArray, List.getElem_cons_zero, List.getElem_cons_succ]); (refine wpAnyH_take (i := 16) (v := undef) rfl (by kernel_rfl) (by kernel_rfl) (by kernel_rfl) (fun _ _ _ h => h) (Or.inr ⟨by rfl, rfl⟩) (by assumption) ?_); (try simp only [Act.put, List.setIfInBounds_toArray, List.set_cons_zero, List.set_cons_succ, List.getElem_toArray, List.getElem_cons_zero, List.getElem_cons_succ]); (refine wpAnyH_take (i := 17) (v := undef) rfl (by kernel_rfl) (by kernel_rfl) (by kernel_rfl) (fun _ _ _ h => h) (Or.inr ⟨by rfl, rfl⟩) (by assumption) ?_); (try simp only [Act.put, List.setIfInBounds_toArray, List.set_cons_zero, List.set_cons_succ, List.getElem_toArray, List.getElem_cons_zero, List.getElem_cons_succ]); (refine wpAnyH_take (i := 18) (v := undef) rfl (by kernel_rfl) (by kernel_rfl) (by kernel_rfl) (fun _ _ _ h => h) (Or.inr ⟨by rfl, rfl⟩) (by assumption) ?_); (try simp only [Act.put, List.setIfInBounds_toArray, List.set_cons_zero, List.set_cons_succ, List.getElem_toArray, List.getElem_cons_zero, List.getElem_cons_succ]); (refine wpAnyH_take (i := 19) (v := undef) rfl (by kernel_rfl) (by kernel_rfl) (by kernel_rfl) (fun _ _ _ h => h) (Or.inr ⟨by rfl, rfl⟩) (by assumption) ?_); (try simp only [Act.put, List.setIfInBounds_toArray, List.set_cons_zero, List.set_cons_succ, List.getElem_toArray, List.getElem_cons_zero, List.getElem_cons_succ]); (refine wpAnyH_take (i := 20) (v := undef) rfl (by kernel_rfl) (by kernel_rfl) (by kernel_rfl) (fun _ _ _ h => h) (Or.inr ⟨by rfl, rfl⟩) (by assumption) ?_); (try simp only [Act.put, List.setIfInBounds_toArray, List.set_cons_zero, List.set_cons_succ, List.getElem_toArray, List.getElem_cons_zero, List.getElem_cons_succ]); (refine wpAnyH_take (i := 21) (v := undef) rfl (by kernel_rfl) (by kernel_rfl) (by kernel_rfl) (fun _ _ _ h => h) (Or.inr ⟨by rfl, rfl⟩) (by assumption) ?_); (try simp only [Act.put, List.setIfInBounds_toArray, List.set_cons_zero, List.set_cons_succ, List.getElem_toArray, List.getElem_cons_zero, List.getElem_cons_succ]); (refine wpAnyH_take (i := 22) (v := undef) rfl (by kernel_rfl) (by kernel_rfl) (by kernel_rfl) (fun _ _ _ h => h) (Or.inr ⟨by rfl, rfl⟩) (by assumption) ?_); (try simp only [Act.put, List.setIfInBounds_toArray, List.set_cons_zero, List.set_cons_succ, List.getElem_toArray, List.getElem_cons_zero, List.getElem_cons_succ]); (refine wpAnyH_take (i := 23) (v := undef) rfl (by kernel_rfl) (by kernel_rfl) (by kernel_rfl) (fun _ _ _ h => h) (Or.inr ⟨by rfl, rfl⟩) (by assumption) ?_); (try simp only [Act.put, List.setIfInBounds_toArray, List.set_cons_zero, List.set_cons_succ, List.getElem_toArray, List.getElem_cons_zero, List.getElem_cons_succ]); (refine wpAnyH_take (i := 24) (v := undef) rfl (by kernel_rfl) (by kernel_rfl) (by kernel_rfl) (fun _ _ _ h => h) (Or.inr ⟨by rfl, rfl⟩) (by assumption) ?_); (try simp only [Act.put, List.setIfInBounds_toArray, List.set_cons_zero, List.set_cons_succ, List.getElem_toArray, List.getElem_cons_zero, List.getElem_cons_succ]))
                      ((refine wpAnyH_take (i := 25) (v := ?_) rfl (by kernel_rfl) (by kernel_rfl) (by kernel_rfl) (fun _ _ _ h => h) (Or.inl ⟨by rfl, ?_⟩) (by assumption) ?_; rotate_left; focus (intro w hSw; (try dsimp only at hSw); go_simp; (try with_reducible rfl); done)); (try simp only [Act.put, List.setIfInBounds_toArray, List.set_cons_zero, List.set_cons_succ, List.getElem_toArray, List.getElem_cons_zero, List.getElem_cons_succ]); (refine wpAnyH_take (i := 26) (v := ?_) rfl (by kernel_rfl) (by kernel_rfl) (by kernel_rfl) (fun _ _ _ h => h) (Or.inl ⟨by rfl, ?_⟩) (by assumption) ?_; rotate_left; focus (intro w hSw; (try dsimp only at hSw); go_simp; (try with_reducible rfl); done)); (try simp only [Act.put, List.setIfInBounds_toArray, List.set_cons_zero, List.set_cons_succ, List.getElem_toArray, List.getElem_cons_zero, List.getElem_cons_succ]))
                      (refine wpAnyH_done (by kernel_rfl) ?_ _)
                      go_wp2
                      go_roundw
                      case rel => exact ⟨p + 1, by go_num, hlp, Lib.hid (by have := Hp.out; (repeat (first | with_reducible exact Fr.refl _ _ | with_reducible refine Fr.setCell ?_ (.inr (by first | (simp; done) | (simp; omega))) _ | with_reducible refine Fr.alloc ?_ _ | with_reducible refine Fr.drew ?_ | with_reducible refine Fr.drewN ?_ _ | with_reducible refine Fr.tr ?_ (by assumption))))⟩
                      case measure => simp [intOf]; omega
                    · obtain ⟨q, rfl⟩ : ∃ q, p = q + 1 := ⟨p - 1, by omega⟩
                      simp only [show ((q + 1 : Nat) : Int) = (q : Int) + 1 from rfl]
                      obtain ⟨b4, off4, KB4, kb4, hbb, e0, e1, hkb4, hzb4⟩ := (HR4.out.no Hp.out).get q (by omega)
                      injection hbb with hbb
                      injection hbb with hb1 hb2
                      subst hb1; subst hb2
                      have hcm := strict_at HWS.out hlp
                      have Hkb := Lib.hid hkb4
                      clear hkb4
                      generalize R.getD q rec0 = r2 at *
                      generalize R.getD (q + 1) rec0 = r1 at *
                      obtain ⟨ks, s⟩ := r1
                      obtain ⟨ls, u⟩ := r2
                      simp only at *
                      have hdc : decide (0 ≤ cmp ls ks) = false := decide_eq_false (by omega)
                      have hlp2 : q < R.length := by omega
                      have hip1 : (0 : Int) ≤ (q : Int) + 1 := by omega
                      have hip2 : (q : Int) + 1 < (R.length : Int) := by omega
                      have hip3 : (q : Int) < (R.length : Int) := by omega
                      have hip4 : (0 : Int) < (q : Int) + 1 := by omega
                      have hwp1 : IntKind.i64.wrap (q : Int) = (q : Int) := IntWalk.i64_in _ (by omega)
                      have hwp2 : wrap64 (q : Int) = (q : Int) := IntWalk.wrap64_in _ (by omega)
                      go_wp2
                      (refine wp_region_held_drew (S := fun w' => w'.cell? ⟨b3, off3 + (q + 1) * 2, none⟩ = some (.slice KA3 ks.length ka3) ∧ w'.cell? ⟨b3, off3 + q * 2, none⟩ = some (.slice KB4 ls.length kb4) ∧ w'.cell? ⟨gr, 0, none⟩ = some (.slice L ln lc) ∧ w'.cell? ⟨gr, 1, none⟩ = some (.slice H hn hc)) (by kernel_rfl) ?_ (fun hHeld => ?_); focus ((try dsimp only); (refine ⟨?_, ?_, ?_, ?_⟩; (repeat (first | with_reducible assumption | with_reducible refine cel_alloc ?_ _ | with_reducible refine cel_drew ?_ | with_reducible refine cel_drewN ?_ _ | with_reducible refine cel_set ?_ (by first | (simp; done) | (simp; omega)) _ | with_reducible refine cel_no ?_ (by assumption))); (repeat (first | with_reducible assumption | with_reducible refine cel_alloc ?_ _ | with_reducible refine cel_drew ?_ | with_reducible refine cel_drewN ?_ _ | with_reducible refine cel_set ?_ (by first | (simp; done) | (simp; omega)) _ | with_reducible refine cel_no ?_ (by assumption))); (repeat (first | with_reducible assumption | with_reducible refine cel_alloc ?_ _ | with_reducible refine cel_drew ?_ | with_reducible refine cel_drewN ?_ _ | with_reducible refine cel_set ?_ (by first | (simp; done) | (simp; omega)) _ | with_reducible refine cel_no ?_ (by assumption))); (repeat (first | with_reducible assumption | with_reducible refine cel_alloc ?_ _ | with_reducible refine cel_drew ?_ | with_reducible refine cel_drewN ?_ _ | with_reducible refine cel_set ?_ (by first | (simp; done) | (simp; omega)) _ | with_reducible refine cel_no ?_ (by assumption)))); done))
                      ((refine wpAnyH_take (i := 0) (v := ?_) rfl (by kernel_rfl) (by kernel_rfl) (by kernel_rfl) (fun _ _ _ h => h) (Or.inl ⟨by rfl, ?_⟩) (by assumption) ?_; rotate_left; focus (intro w hSw; (try dsimp only at hSw); go_simp; (try with_reducible rfl); done)); (try simp only [Act.put, List.setIfInBounds_toArray, List.set_cons_zero, List.set_cons_succ, List.getElem_toArray, List.getElem_cons_zero, List.getElem_cons_succ]); (refine wpAnyH_take (i := 1) (v := ?_) rfl (by kernel_rfl) (by kernel_rfl) (by kernel_rfl) (fun _ _ _ h => h) (Or.inl ⟨by rfl, ?_⟩) (by assumption) ?_; rotate_left; focus (intro w hSw; (try dsimp only at hSw); go_simp; (try with_reducible rfl); done)); (try simp only [Act.put, List.setIfInBounds_toArray, List.set_cons_zero, List.set_cons_succ, List.getElem_toArray, List.getElem_cons_zero, List.getElem_cons_succ]); (refine wpAnyH_take (i := 2) (v := ?_) rfl (by kernel_rfl) (by kernel_rfl) (by kernel_rfl) (fun _ _ _ h => h) (Or.inl ⟨by rfl, ?_⟩) (by assumption) ?_; rotate_left; focus (intro w hSw; (try dsimp only at hSw); go_simp; (try with_reducible rfl); done)); (try simp only [Act.put, List.setIfInBounds_toArray, List.set_cons_zero, List.set_cons_succ, List.getElem_toArray, List.getElem_cons_zero, List.getElem_cons_succ]); (refine wpAnyH_take (i := 3) (v := ?_) rfl (by kernel_rfl) (by kernel_rfl) (by kernel_rfl) (fun _ _ _ h => h) (Or.inl ⟨by rfl, ?_⟩) (by assumption) ?_; rotate_left; focus (intro w hSw; (try dsimp only at hSw); go_simp; (try with_reducible rfl); done)); (try simp only [Act.put, List.setIfInBounds_toArray, List.set_cons_zero, List.set_cons_succ, List.getElem_toArray, List.getElem_cons_zero, List.getElem_cons_succ]); (refine wpAnyH_take (i := 4) (v := ?_) rfl (by kernel_rfl) (by kernel_rfl) (by kernel_rfl) (fun _ _ _ h => h) (Or.inl ⟨by rfl, ?_⟩) (by assumption) ?_; rotate_left; focus (intro w hSw; (try dsimp only at hSw); go_simp; (try with_reducible rfl); done)); (try simp only [Act.put, List.setIfInBounds_toArray, List.set_cons_zero, List.set_cons_succ, List.getElem_toArray, List.getElem_cons_zero, List.getElem_cons_succ]); (refine wpAnyH_take (i := 5) (v := ?_) rfl (by kernel_rfl) (by kernel_rfl) (by kernel_rfl) (fun _ _ _ h => h) (Or.inl ⟨by rfl, ?_⟩) (by assumption) ?_; rotate_left; focus (intro w hSw; (try dsimp only at hSw); go_simp; (try with_reducible rfl); done)); (try simp only [Act.put, List.setIfInBounds_toArray, List.set_cons_zero, List.set_cons_succ, List.getElem_toArray, List.getElem_cons_zero, List.getElem_cons_succ]))
                      (refine wpAnyH_ready (rs := [6]) (by kernel_rfl) (by simp) ?_; refine AllReadyH.cons rfl (fun K hK => ?_) AllReadyH.nil; go_simp; (go_at_call 30; ((with_reducible refine (rin_any (k := ks) (lo := lo) (hi := hi) ?_ ?_ ?_).mono ?_); (focus ((have hk := Hka.out); (repeat (first | with_reducible assumption | ((with_reducible refine Kv.lit_new _ _ _ _ _ _ ?_ ?_ ?_ ?_) <;> (first | (simp; done) | rfl | decide)) | with_reducible exact Kv.none_ _ | with_reducible refine Kv.alloc ?_ _ | with_reducible refine Kv.drew ?_ | with_reducible refine Kv.drewN ?_ _ | with_reducible refine Kv.no ?_ (by assumption))))); (focus ((have hk := HlW.out); (repeat (first | with_reducible assumption | ((with_reducible refine Kv.lit_new _ _ _ _ _ _ ?_ ?_ ?_ ?_) <;> (first | (simp; done) | rfl | decide)) | with_reducible exact Kv.none_ _ | with_reducible refine Kv.alloc ?_ _ | with_reducible refine Kv.drew ?_ | with_reducible refine Kv.drewN ?_ _ | with_reducible refine Kv.no ?_ (by assumption))))); (focus ((have hk := HhW.out); (repeat (first | with_reducible assumption | ((with_reducible refine Kv.lit_new _ _ _ _ _ _ ?_ ?_ ?_ ?_) <;> (first | (simp; done) | rfl | decide)) | with_reducible exact Kv.none_ _ | with_reducible refine Kv.alloc ?_ _ | with_reducible refine Kv.drew ?_ | with_reducible refine Kv.drewN ?_ _ | with_reducible refine Kv.no ?_ (by assumption))))); rintro e w5 ⟨rfl, hf5⟩; rw [Hin.out])); (try go_wp2_with fail); refine hK.out _ _ ?_ (fun hHeld => ?_); focus ((try dsimp only); (refine ⟨?_, ?_, ?_, ?_⟩; (repeat (first | with_reducible assumption | with_reducible refine cel_alloc ?_ _ | with_reducible refine cel_drew ?_ | with_reducible refine cel_drewN ?_ _ | with_reducible refine cel_set ?_ (by first | (simp; done) | (simp; omega)) _ | with_reducible refine cel_no ?_ (by assumption))); (repeat (first | with_reducible assumption | with_reducible refine cel_alloc ?_ _ | with_reducible refine cel_drew ?_ | with_reducible refine cel_drewN ?_ _ | with_reducible refine cel_set ?_ (by first | (simp; done) | (simp; omega)) _ | with_reducible refine cel_no ?_ (by assumption))); (repeat (first | with_reducible assumption | with_reducible refine cel_alloc ?_ _ | with_reducible refine cel_drew ?_ | with_reducible refine cel_drewN ?_ _ | with_reducible refine cel_set ?_ (by first | (simp; done) | (simp; omega)) _ | with_reducible refine cel_no ?_ (by assumption))); (repeat (first | with_reducible assumption | with_reducible refine cel_alloc ?_ _ | with_reducible refine cel_drew ?_ | with_reducible refine cel_drewN ?_ _ | with_reducible refine cel_set ?_ (by first | (simp; done) | (simp; omega)) _ | with_reducible refine cel_no ?_ (by assumption)))); done)); (clear hK K); (try simp only [Act.put, List.setIfInBounds_toArray, List.set_cons_zero, List.set_cons_succ, List.getElem_toArray, List.getElem_cons_zero, List.getElem_cons_succ])
                      ((refine wpAnyH_take (i := 7) (v := ?_) rfl (by kernel_rfl) (by kernel_rfl) (by kernel_rfl) (fun _ _ _ h => h) (Or.inl ⟨by rfl, ?_⟩) (by assumption) ?_; rotate_left; focus (intro w hSw; (try dsimp only at hSw); go_simp; (try with_reducible rfl); done)); (try simp only [Act.put, List.setIfInBounds_toArray, List.set_cons_zero, List.set_cons_succ, List.getElem_toArray, List.getElem_cons_zero, List.getElem_cons_succ]); (refine wpAnyH_take (i := 8) (v := ?_) rfl (by kernel_rfl) (by kernel_rfl) (by kernel_rfl) (fun _ _ _ h => h) (Or.inl ⟨by rfl, ?_⟩) (by assumption) ?_; rotate_left; focus (intro w hSw; (try dsimp only at hSw); go_simp; (try with_reducible rfl); done)); (try simp only [Act.put, List.setIfInBounds_toArray, List.set_cons_zero, List.set_cons_succ, List.getElem_toArray, List.getElem_cons_zero, List.getElem_cons_succ]); (refine wpAnyH_take (i := 9) (v := ?_) rfl (by kernel_rfl) (by kernel_rfl) (by kernel_rfl) (fun _ _ _ h => h) (Or.inl ⟨by rfl, ?_⟩) (by assumption) ?_; rotate_left; focus (intro w hSw; (try dsimp only at hSw); go_simp; (try with_reducible rfl); done)); (try simp only [Act.put, List.setIfInBounds_toArray, List.set_cons_zero, List.set_cons_succ, List.getElem_toArray, List.getElem_cons_zero, List.getElem_cons_succ]); (refine wpAnyH_take (i := 10) (v := ?_) rfl (by kernel_rfl) (by kernel_rfl) (by kernel_rfl) (fun _ _ _ h => h) (Or.inl ⟨by rfl, ?_⟩) (by assumption) ?_; rotate_left; focus (intro w hSw; (try dsimp only at hSw); go_simp; (try with_reducible rfl); done)); (try simp only [Act.put, List.setIfInBounds_toArray, List.set_cons_zero, List.set_cons_succ, List.getElem_toArray, List.getElem_cons_zero, List.getElem_cons_succ]); (refine wpAnyH_take (i := 11) (v := ?_) rfl (by kernel_rfl) (by kernel_rfl) (by kernel_rfl) (fun _ _ _ h => h) (Or.inl ⟨by rfl, ?_⟩) (by assumption) ?_; rotate_left; focus (intro w hSw; (try dsimp only at hSw); go_simp; (try with_reducible rfl); done)); (try simp only [Act.put, List.setIfInBounds_toArray, List.set_cons_zero, List.set_cons_succ, List.getElem_toArray, List.getElem_cons_zero, List.getElem_cons_succ]); (refine wpAnyH_take (i := 12) (v := ?_) rfl (by kernel_rfl) (by kernel_rfl) (by kernel_rfl) (fun _ _ _ h => h) (Or.inl ⟨by rfl, ?_⟩) (by assumption) ?_; rotate_left; focus (intro w hSw; (try dsimp only at hSw); go_simp; (try with_reducible rfl); done)); (try simp only [Act.put, List.setIfInBounds_toArray, List.set_cons_zero, List.set_cons_succ, List.getElem_toArray, List.getElem_cons_zero, List.getElem_cons_succ]); (refine wpAnyH_take (i := 13) (v := ?_) rfl (by kernel_rfl) (by kernel_rfl) (by kernel_rfl) (fun _ _ _ h => h) (Or.inl ⟨by rfl, ?_⟩) (by assumption) ?_; rotate_left; focus (intro w hSw; (try dsimp only at hSw); go_simp; (try with_reducible rfl); done)); (try simp only [Act.put, List.setIfInBounds_toArray, List.set_cons_zero, List.set_cons_succ, List.getElem_toArray, List.getElem_cons_zero, List.getElem_cons_succ]); (refine wpAnyH_take (i := 14) (v := ?_) rfl (by kernel_rfl) (by kernel_rfl) (by kernel_rfl) (fun _ _ _ h => h) (Or.inl ⟨by rfl, ?_⟩) (by assumption) ?_; rotate_left; focus (intro w hSw; (try dsimp only at hSw); go_simp; (try with_reducible rfl); done)); (try simp only [Act.put, List.setIfInBounds_toArray, List.set_cons_zero, List.set_cons_succ, List.getElem_toArray, List.getElem_cons_zero, List.getElem_cons_succ]); (refine wpAnyH_take (i := 15) (v := ?_) rfl (by kernel_rfl) (by kernel_rfl) (by kernel_rfl) (fun _ _ _ h => h) (Or.inl ⟨by rfl, ?_⟩) (by assumption) ?_; rotate_left; focus (intro w hSw; (try dsimp only at hSw); go_simp; (try with_reducible rfl); done)); (try simp only [Act.put, List.setIfInBounds_toArray, List.set_cons_zero, List.set_cons_succ, List.getElem_toArray, List.getElem_cons_zero, List.getElem_cons_succ]); (refine wpAnyH_take (i := 16) (v := ?_) rfl (by kernel_rfl) (by kernel_rfl) (by kernel_rfl) (fun _ _ _ h => h) (Or.inl ⟨by rfl, ?_⟩) (by assumption) ?_; rotate_left; focus (intro w hSw; (try dsimp only at hSw); go_simp; (try with_reducible rfl); done)); (try simp only [Act.put, List.setIfInBounds_toArray, List.set_cons_zero, List.set_cons_succ, List.getElem_toArray, List.getElem_cons_zero, List.getElem_cons_succ]); (refine wpAnyH_take (i := 17) (v := ?_) rfl (by kernel_rfl) (by kernel_rfl) (by kernel_rfl) (fun _ _ _ h => h) (Or.inl ⟨by rfl, ?_⟩) (by assumption) ?_; rotate_left; focus (intro w hSw; (try dsimp only at hSw); go_simp; (try with_reducible rfl); done)); (try simp only [Act.put, List.setIfInBounds_toArray, List.set_cons_zero, List.set_cons_succ, List.getElem_toArray, List.getElem_cons_zero, List.getElem_cons_succ]); (refine wpAnyH_take (i := 18) (v := ?_) rfl (by kernel_rfl) (by kernel_rfl) (by kernel_rfl) (fun _ _ _ h => h) (Or.inl ⟨by rfl, ?_⟩) (by assumption) ?_; rotate_left; focus (intro w hSw; (try dsimp only at hSw); go_simp; (try with_reducible rfl); done)); (try simp only [Act.put, List.setIfInBounds_toArray, List.set_cons_zero, List.set_cons_succ, List.getElem_toArray, List.getElem_cons_zero, List.getElem_cons_succ]); (refine wpAnyH_take (i := 19) (v := ?_) rfl (by kernel_rfl) (by kernel_rfl) (by kernel_rfl) (fun _ _ _ h => h) (Or.inl ⟨by rfl, ?_⟩) (by assumption) ?_; rotate_left; focus (intro w hSw; (try dsimp only at hSw); go_simp; (try with_reducible rfl); done)); (try simp only [Act.put, List.setIfInBounds_toArray, List.set_cons_zero, List.set_cons_succ, List.getElem_toArray, List.getElem_cons_zero, List.getElem_cons_succ]); (refine wpAnyH_take (i := 20) (v := ?_) rfl (by kernel_rfl) (by kernel_rfl) (by kernel_rfl) (fun _ _ _ h => h) (Or.inl ⟨by rfl, ?_⟩) (by assumption) ?_; rotate_left; focus (intro w hSw; (try dsimp only at hSw); go_simp; (try with_reducible rfl); done)); (try simp only [Act.put, List.setIfInBounds_toArray, List.set_cons_zero, List.set_cons_succ, List.getElem_toArray, List.getElem_cons_zero, List.getElem_cons_succ]); (refine wpAnyH_take (i := 21) (v := ?_) rfl (by kernel_rfl) (by kernel_rfl) (by kernel_rfl) (fun _ _ _ h => h) (Or.inl ⟨by rfl, ?_⟩) (by assumption) ?_; rotate_left; focus (intro w hSw; (try dsimp only at hSw); go_simp; (try with_reducible rfl); done)); (try simp only [Act.put, List.setIfInBounds_toArray, List.set_cons_zero, List.set_cons_succ, List.getElem_toArray, List.getElem_cons_zero, List.getElem_cons_succ]); (refine wpAnyH_take (i := 22) (v := ?_) rfl (by kernel_rfl) (by kernel_rfl) (by kernel_rfl) (fun _ _ _ h => h) (Or.inl ⟨by rfl, ?_⟩) (by assumption) ?_; rotate_left; focus (intro w hSw; (try dsimp only at hSw); go_simp; (try with_reducible rfl); done)); (try simp only [Act.put, List.setIfInBounds_toArray, List.set_cons_zero, List.set_cons_succ, List.getElem_toArray, List.getElem_cons_zero, List.getElem_cons_succ]))
                      (refine wpAnyH_ready (rs := [23]) (by kernel_rfl) (by simp) ?_; refine AllReadyH.cons rfl (fun K hK => ?_) AllReadyH.nil; go_simp; (go_at_call 31; ((with_reducible refine (rcompare (a := ls) (b := ks) ?_ ?_).mono ?_); (focus ((have hk := Hkb.out); (repeat (first | with_reducible assumption | ((with_reducible refine Kv.lit_new _ _ _ _ _ _ ?_ ?_ ?_ ?_) <;> (first | (simp; done) | rfl | decide)) | with_reducible exact Kv.none_ _ | with_reducible refine Kv.alloc ?_ _ | with_reducible refine Kv.drew ?_ | with_reducible refine Kv.drewN ?_ _ | with_reducible refine Kv.no ?_ (by assumption))))); (focus ((have hk := Hka.out); (repeat (first | with_reducible assumption | ((with_reducible refine Kv.lit_new _ _ _ _ _ _ ?_ ?_ ?_ ?_) <;> (first | (simp; done) | rfl | decide)) | with_reducible exact Kv.none_ _ | with_reducible refine Kv.alloc ?_ _ | with_reducible refine Kv.drew ?_ | with_reducible refine Kv.drewN ?_ _ | with_reducible refine Kv.no ?_ (by assumption))))); rintro e w6 ⟨rfl, hf6⟩)); (try go_wp2_with fail); refine hK.out _ _ ?_ (fun hHeld => ?_); focus ((try dsimp only); (refine ⟨?_, ?_, ?_, ?_⟩; (repeat (first | with_reducible assumption | with_reducible refine cel_alloc ?_ _ | with_reducible refine cel_drew ?_ | with_reducible refine cel_drewN ?_ _ | with_reducible refine cel_set ?_ (by first | (simp; done) | (simp; omega)) _ | with_reducible refine cel_no ?_ (by assumption))); (repeat (first | with_reducible assumption | with_reducible refine cel_alloc ?_ _ | with_reducible refine cel_drew ?_ | with_reducible refine cel_drewN ?_ _ | with_reducible refine cel_set ?_ (by first | (simp; done) | (simp; omega)) _ | with_reducible refine cel_no ?_ (by assumption))); (repeat (first | with_reducible assumption | with_reducible refine cel_alloc ?_ _ | with_reducible refine cel_drew ?_ | with_reducible refine cel_drewN ?_ _ | with_reducible refine cel_set ?_ (by first | (simp; done) | (simp; omega)) _ | with_reducible refine cel_no ?_ (by assumption))); (repeat (first | with_reducible assumption | with_reducible refine cel_alloc ?_ _ | with_reducible refine cel_drew ?_ | with_reducible refine cel_drewN ?_ _ | with_reducible refine cel_set ?_ (by first | (simp; done) | (simp; omega)) _ | with_reducible refine cel_no ?_ (by assumption)))); done)); (clear hK K); (try simp only [Act.put, List.setIfInBounds_toArray, List.set_cons_zero, List.set_cons_succ, List.getElem_toArray, List.getElem_cons_zero, List.getElem_cons_succ])
                      ((refine wpAnyH_take (i := 24) (v := ?_) rfl (by kernel_rfl) (by kernel_rfl) (by kernel_rfl) (fun _ _ _ h => h) (Or.inl ⟨by rfl, ?_⟩) (by assumption) ?_; rotate_left; focus (intro w hSw; (try dsimp only at hSw); go_simp; (try with_reducible rfl); done)); (try simp only [Act.put, List.setIfInBounds_toArray, List.set_cons_zero, List.set_cons_succ, List.getElem_toArray, List.getElem_cons_zero, List.getElem_cons_succ]); (refine wpAnyH_take (i := 25) (v := ?_) rfl (by kernel_rfl) (by kernel_rfl) (by kernel_rfl) (fun _ _ _ h => h) (Or.inl ⟨by rfl, ?_⟩) (by assumption) ?_; rotate_left; focus (intro w hSw; (try dsimp only at hSw); go_simp; (try with_reducible rfl); done)); (try simp only [Act.put, List.setIfInBounds_toArray, List.set_cons_zero, List.set_cons_succ, List.getElem_toArray, List.getElem_cons_zero, List.getElem_cons_succ]); (refine wpAnyH_take (i := 26) (v := ?_) rfl (by kernel_rfl) (by kernel_rfl) (by kernel_rfl) (fun _ _ _ h => h) (Or.inl ⟨by rfl, ?_⟩) (by assumption) ?_; rotate_left; focus (intro w hSw; (try dsimp only at hSw); go_simp; (try with_reducible rfl); done)); (try simp only [Act.put, List.setIfInBounds_toArray, List.set_cons_zero, List.set_cons_succ, List.getElem_toArray, List.getElem_cons_zero, List.getElem_cons_succ]))
                      (refine wpAnyH_done (by kernel_rfl) ?_ _)
                      clear hwp1 hwp2
                      go_wp2
                      go_roundw
                      case rel => exact ⟨q + 1 + 1, by go_num, hlp, Lib.hid (by have := Hp.out; (repeat (first | with_reducible exact Fr.refl _ _ | with_reducible refine Fr.setCell ?_ (.inr (by first | (simp; done) | (simp; omega))) _ | with_reducible refine Fr.alloc ?_ _ | with_reducible refine Fr.drew ?_ | with_reducible refine Fr.drewN ?_ _ | with_reducible refine Fr.tr ?_ (by assumption))))⟩
                      case measure => simp [intOf]; omega
                  · obtain rfl : p = R.length := by omega
                    have HFP := Lib.hid (HFW.out.tr (HS4.out.fr.tr Hp.out))
                    have HOq := Lib.hid (HOR.out.no (HS4.out.fr.tr Hp.out))
                    obtain ⟨y0, y1⟩ := cells2 HOq.out
                    have HlW := Lib.hid (Hl.out.no HFP.out)
                    have HhW := Lib.hid (Hh.out.no HFP.out)
                    have HSq := Lib.hid (HS4.out.no Hp.out)
                    have q1 : j < ln := by have := HlW.out.len; omega
                    have q2 : j < hn := by have := HhW.out.len; omega
                    have q3 := HlW.out.cap
                    have q4 := HlW.out.most
                    have q5 := HhW.out.cap
                    have q6 := HhW.out.most
                    have hmx : maxLen ≤ 9223372036854775807 := by decide
                    obtain ⟨ga4, oa, rfl, ca⟩ := HlW.out.get j hjl
                    obtain ⟨gb4, ob, rfl, cb⟩ := HhW.out.get j (by omega)
                    have bl1 := HlW.out.ltD j
                    have bl2 := HhW.out.ltD j
                    have hxy := hchk.2.2.2 j hjl
                    have Hchk := Lib.hid hchk
                    have hrc : R.length ≤ 60 := hR60
                    clear hchk HWS HWI Hp HR4
                    have HX := Lib.hid (fun m => chk_x (m := m) Hb.out hjl)
                    have HY := Lib.hid (fun m => chk_y (m := m) Hb.out hjl)
                    generalize lo.getD j 0 = x at *
                    generalize hi.getD j 0 = y at *
                    obtain ⟨mid, hmid⟩ : ∃ mid : Nat, (x : Int) + ((y : Int) - (x : Int)) / 2 = (mid : Int) ∧ x ≤ mid ∧ mid ≤ y ∧ (mid = y → x = y) ∧ (x < y → mid < y) := ⟨x + (y - x) / 2, by omega⟩
                    have Hmid := Lib.hid hmid
                    clear hmid
                    go_wp2
                    go_quiet (fail)
                    rw [Hmid.out.1]
                    have HQ := Lib.hid (show Fr No wr (wr.drewN nq) from (Fr.refl No wr).drewN nq)
                    have HOv := Lib.hid (HOq.out.no HQ.out)
                    have HFV := Lib.hid (HFP.out.tr HQ.out)
                    have HlV := Lib.hid (HlW.out.no HQ.out)
                    have HhV := Lib.hid (HhW.out.no HQ.out)
                    have HSV := Lib.hid (HSq.out.no HQ.out)
                    have cb2 := cel_no cb HQ.out
                    clear HOq HFP HlW HhW HSq HS4 y0 y1 ca cb
                    generalize wr.drewN nq = v2 at *
                    clear HQ
                    obtain ⟨y0, y1⟩ := cells2 HOv.out
                    by_cases hxe : x = y
                    · subst hxe
                      have hme : mid = x := by have := Hmid.out; omega
                      subst hme
                      go_wp2_with first
                        | (go_at_call 11; ((with_reducible refine (live _).mono ?_); rintro e wl ⟨rfl, hfl⟩))
                        | fail
                      go_ret
                      exact ⟨rfl, HFV.out.tr hfl⟩
                    · have hmy : mid < y := by have := Hmid.out.2; omega
                      have hne : ((mid : Int) == (y : Int)) = false := by rw [beq_eq_false_iff_ne]; omega
                      have HHl := Lib.hid HhV.out.lt
                      have HLl := Lib.hid HlV.out.lt
                      have hb1 : hn ≤ 1000000 := by have := HhV.out.len; have := Hchk.out; omega
                      have hb2 : ln ≤ 1000000 := by have := HlV.out.len; have := Hchk.out; omega
                      have hgr := HOv.out.lt
                      go_upto_region 20 with (fail)
                      go_cut [14] (fun v wx => ∃ g C cc, v = .pointer (some ⟨g, 0, none⟩) ∧ Hid (BxH v2 wx (some ⟨ga4, oa, none⟩) ln lc hn hi g C cc))
                      case first =>
                        go_region_held3 (fun w' => w'.cell? ⟨gr, 0, none⟩ = some (.slice (some ⟨ga4, oa, none⟩) ln lc) ∧ w'.cell? ⟨gr, 1, none⟩ = some (.slice (some ⟨gb4, ob, none⟩) hn hc)) ((refine ⟨?_, ?_⟩; (repeat (first | with_reducible assumption | with_reducible refine cel_alloc ?_ _ | with_reducible refine cel_drew ?_ | with_reducible refine cel_drewN ?_ _ | with_reducible refine cel_set ?_ (by first | (simp; done) | (simp; omega)) _ | with_reducible refine cel_no ?_ (by assumption))); (repeat (first | with_reducible assumption | with_reducible refine cel_alloc ?_ _ | with_reducible refine cel_drew ?_ | with_reducible refine cel_drewN ?_ _ | with_reducible refine cel_set ?_ (by first | (simp; done) | (simp; omega)) _ | with_reducible refine cel_no ?_ (by assumption)))))
                          ((go_at_call 32; ((with_reducible refine (rcopy_any (ks := hi) ?_ hb1).mono ?_); (focus ((have hk := HhV.out); (repeat (first | with_reducible assumption | ((with_reducible refine Kv.lit_new _ _ _ _ _ _ ?_ ?_ ?_ ?_) <;> (first | (simp; done) | rfl | decide)) | with_reducible exact Kv.none_ _ | with_reducible refine Kv.alloc ?_ _ | with_reducible refine Kv.drew ?_ | with_reducible refine Kv.drewN ?_ _ | with_reducible refine Kv.no ?_ (by assumption))))); rintro e w2 ⟨A2, c2, rfl, ho2, hf2⟩; obtain ⟨a2, rfl, l2, k2⟩ := own_some ho2 (Nat.lt_of_le_of_lt (Nat.zero_le _) q2); have hz2 := hf2.size; (try simp at hz2); (try simp at l2); have hp2 := own_base ho2 (show v2.heap.size ≤ _ from (by first | omega | (simp; done) | (simp; omega))); (try (refine use_ (a := Ob w2 v2.heap.size #[.slice none 0 0, .slice none 0 0] 35) ?_ (fun zz => ?_); (focus ((repeat (first | with_reducible assumption | with_reducible refine Ob.other ?_ (by first | (simp; done) | (simp; omega)) _ | ((with_reducible refine Ob.new_ _ _ _ _ ?_) <;> (simp; done)) | with_reducible refine Ob.alloc ?_ _ | with_reducible refine Ob.drew ?_ | with_reducible refine Ob.drewN ?_ _ | with_reducible refine Ob.no ?_ (by assumption))); done)); obtain ⟨z0, z1, z2, z3⟩ := Ob.four zz; clear zz)))))
                        all_goals
                          go_wp2_with fail
                          go_meet
                          refine ⟨_, a2, c2, rfl, Lib.hid ⟨?_, ?_, ?_, ?_, ?_⟩⟩
                          all_goals try (first | ((with_reducible refine Ob.put2 (x := .slice none 0 0) (y := .slice none 0 0) ?_ _ _); (repeat (first | with_reducible assumption | with_reducible refine Ob.other ?_ (by first | (simp; done) | (simp; omega)) _ | ((with_reducible refine Ob.new_ _ _ _ _ ?_) <;> (simp; done)) | with_reducible refine Ob.alloc ?_ _ | with_reducible refine Ob.drew ?_ | with_reducible refine Ob.drewN ?_ _ | with_reducible refine Ob.no ?_ (by assumption))); done) | ((repeat (first | with_reducible assumption | with_reducible refine Ob.other ?_ (by first | (simp; done) | (simp; omega)) _ | ((with_reducible refine Ob.new_ _ _ _ _ ?_) <;> (simp; done)) | with_reducible refine Ob.alloc ?_ _ | with_reducible refine Ob.drew ?_ | with_reducible refine Ob.drewN ?_ _ | with_reducible refine Ob.no ?_ (by assumption))); done))
                          all_goals try ((repeat (first | with_reducible assumption | with_reducible refine own_putb ?_ (by first | (simp; done) | (simp; omega)) _ | with_reducible refine World.ownsRow.alloc ?_ _ | with_reducible refine World.ownsRow.drew ?_ | with_reducible refine own_drewN ?_ _ | with_reducible refine own_no ?_ (by assumption))); done)
                          all_goals try (first | omega | (refine ⟨?_, ?_⟩ <;> omega) | (simp; omega) | (simp; refine ⟨?_, ?_⟩ <;> omega))
                          all_goals try ((repeat (first | with_reducible exact Fr.refl _ _ | with_reducible refine Fr.setCell ?_ (.inr (by first | (simp; done) | (simp; omega))) _ | with_reducible refine Fr.alloc ?_ _ | with_reducible refine Fr.drew ?_ | with_reducible refine Fr.drewN ?_ _ | with_reducible refine Fr.tr ?_ (by assumption))); done)
                          all_goals trace_state
                      case rest =>
                        obtain ⟨gx, C, cc, rfl, H1⟩ := hcut
                        generalize wc = v3 at *
                        have HlC := Lib.hid (HlV.out.no H1.out.fr)
                        have HOc := Lib.hid (HOv.out.no H1.out.fr)
                        obtain ⟨z0, z1⟩ := cells2 HOc.out
                        have hgr2 := HOc.out.lt
                        clear y0 y1 hgr
                        go_upto_region 21 with (fail)
                        go_cut [15] (fun v wx => ∃ g C cc, v = .pointer (some ⟨g, 0, none⟩) ∧ Hid (BxL v3 wx (some ⟨gb4, ob, none⟩) hn hc ln lo g C cc))
                        case first =>
                          go_region_held3 (fun w' => w'.cell? ⟨gr, 0, none⟩ = some (.slice (some ⟨ga4, oa, none⟩) ln lc) ∧ w'.cell? ⟨gr, 1, none⟩ = some (.slice (some ⟨gb4, ob, none⟩) hn hc)) ((refine ⟨?_, ?_⟩; (repeat (first | with_reducible assumption | with_reducible refine cel_alloc ?_ _ | with_reducible refine cel_drew ?_ | with_reducible refine cel_drewN ?_ _ | with_reducible refine cel_set ?_ (by first | (simp; done) | (simp; omega)) _ | with_reducible refine cel_no ?_ (by assumption))); (repeat (first | with_reducible assumption | with_reducible refine cel_alloc ?_ _ | with_reducible refine cel_drew ?_ | with_reducible refine cel_drewN ?_ _ | with_reducible refine cel_set ?_ (by first | (simp; done) | (simp; omega)) _ | with_reducible refine cel_no ?_ (by assumption)))))
                            ((go_at_call 32; ((with_reducible refine (rcopy_any (ks := lo) ?_ hb2).mono ?_); (focus ((have hk := HlC.out); (repeat (first | with_reducible assumption | ((with_reducible refine Kv.lit_new _ _ _ _ _ _ ?_ ?_ ?_ ?_) <;> (first | (simp; done) | rfl | decide)) | with_reducible exact Kv.none_ _ | with_reducible refine Kv.alloc ?_ _ | with_reducible refine Kv.drew ?_ | with_reducible refine Kv.drewN ?_ _ | with_reducible refine Kv.no ?_ (by assumption))))); rintro e w2 ⟨A2, c2, rfl, ho2, hf2⟩; obtain ⟨a2, rfl, l2, k2⟩ := own_some ho2 (Nat.lt_of_le_of_lt (Nat.zero_le _) q1); have hz2 := hf2.size; (try simp at hz2); (try simp at l2); have hp2 := own_base ho2 (show v3.heap.size ≤ _ from (by first | omega | (simp; done) | (simp; omega))); (try (refine use_ (a := Ob w2 v3.heap.size #[.slice none 0 0, .slice none 0 0] 35) ?_ (fun zz => ?_); (focus ((repeat (first | with_reducible assumption | with_reducible refine Ob.other ?_ (by first | (simp; done) | (simp; omega)) _ | ((with_reducible refine Ob.new_ _ _ _ _ ?_) <;> (simp; done)) | with_reducible refine Ob.alloc ?_ _ | with_reducible refine Ob.drew ?_ | with_reducible refine Ob.drewN ?_ _ | with_reducible refine Ob.no ?_ (by assumption))); done)); obtain ⟨z0, z1, z2, z3⟩ := Ob.four zz; clear zz)))))
                          all_goals
                            go_wp2_with fail
                            go_meet
                            refine ⟨_, a2, c2, rfl, Lib.hid ⟨?_, ?_, ?_, ?_, ?_⟩⟩
                            all_goals try (first | ((with_reducible refine Ob.put2 (x := .slice none 0 0) (y := .slice none 0 0) ?_ _ _); (repeat (first | with_reducible assumption | with_reducible refine Ob.other ?_ (by first | (simp; done) | (simp; omega)) _ | ((with_reducible refine Ob.new_ _ _ _ _ ?_) <;> (simp; done)) | with_reducible refine Ob.alloc ?_ _ | with_reducible refine Ob.drew ?_ | with_reducible refine Ob.drewN ?_ _ | with_reducible refine Ob.no ?_ (by assumption))); done) | ((repeat (first | with_reducible assumption | with_reducible refine Ob.other ?_ (by first | (simp; done) | (simp; omega)) _ | ((with_reducible refine Ob.new_ _ _ _ _ ?_) <;> (simp; done)) | with_reducible refine Ob.alloc ?_ _ | with_reducible refine Ob.drew ?_ | with_reducible refine Ob.drewN ?_ _ | with_reducible refine Ob.no ?_ (by assumption))); done))
                            all_goals try ((repeat (first | with_reducible assumption | with_reducible refine own_putb ?_ (by first | (simp; done) | (simp; omega)) _ | with_reducible refine World.ownsRow.alloc ?_ _ | with_reducible refine World.ownsRow.drew ?_ | with_reducible refine own_drewN ?_ _ | with_reducible refine own_no ?_ (by assumption))); done)
                            all_goals try (first | omega | (refine ⟨?_, ?_⟩ <;> omega) | (simp; omega) | (simp; refine ⟨?_, ?_⟩ <;> omega))
                            all_goals try ((repeat (first | with_reducible exact Fr.refl _ _ | with_reducible refine Fr.setCell ?_ (.inr (by first | (simp; done) | (simp; omega))) _ | with_reducible refine Fr.alloc ?_ _ | with_reducible refine Fr.drew ?_ | with_reducible refine Fr.drewN ?_ _ | with_reducible refine Fr.tr ?_ (by assumption))); done)
                        case rest =>
                          obtain ⟨gy, D, dd, rfl, H2⟩ := hcut
                          generalize wc = v4 at *
                          have hwr : IntKind.u32.wrap ((mid : Int) + 1) = ((mid + 1 : Nat) : Int) := (Go.IntWalk.u32_in _ (by omega)).trans (by omega)
                          have h5 := two_set (j := j) (m := mid) H1.out H2.out HLl.out HHl.out (by omega)
                          obtain ⟨x0, x1⟩ := cells2 (H1.out.ob.no H2.out.fr)
                          obtain ⟨x2, x3⟩ := cells2 H2.out.ob
                          have ho1 := own_no H1.out.ow H2.out.fr
                          have x4 := ho1.cellAt j (by omega)
                          have x5 := ho1.frozenAt j
                          have x6 := H2.out.ow.cellAt j (by omega)
                          have x7 := H2.out.ow.frozenAt j
                          rw [u32s_get hi j (by have := Hchk.out; omega)] at x4
                          rw [u32s_get lo j hjl] at x6
                          have k1 := (own_cap H1.out.ow).1
                          have k2 := (own_cap H1.out.ow).2
                          have k3 := (own_cap H2.out.ow).1
                          have k4 := (own_cap H2.out.ow).2
                          have n1 := H1.out.ne
                          have n2 := H2.out.ne
                          have n3 := H1.out.ob.lt
                          have n4 := (H1.out.ow.lt C rfl)
                          have n5 := H2.out.ge
                          have n6 : C ≠ gy := by omega
                          have n7 : D ≠ C := by omega
                          have n8 : gx ≠ D := by omega
                          have n9 : gx ≠ C := by omega
                          have n10 : gy ≠ C := by omega
                          have n11 : gy ≠ D := by omega
                          go_upto_region 24 with (fail)
                          obtain ⟨g1, g2, g3, g4, g5⟩ := h5
                          generalize ((v4.setCell ⟨C, j, none⟩ (.int .u32 (mid : Int))).setCell ⟨D, j, none⟩ (.int .u32 ((mid : Int) + 1))) = v5 at *
                          clear x0 x1 x2 x3 x4 x5 x6 x7 n1 n2 n3 n4 n5 n6 n7 n8 n9 n10 n11 ho1 k1 k2 k3 k4 hwr H1 H2 z0 z1 hgr2 HOc HlC
                          obtain ⟨y0, y1⟩ := cells2 g1
                          have HS5 := HSV.out.no g5
                          have hl5 := HlV.out.no g5
                          have hh5 := HhV.out.no g5
                          have hsum := HCL.out mid Hmid.out.2.1 hmy
                          have hF5 := HFV.out.tr g5
                          have HC1 := Lib.hid (count_s HS5 hl5 g3)
                          have HC2 := Lib.hid (fun W (f : Fr No v5 W) => count_s (HS5.no f) (g4.no f) (hh5.no f))
                          rw [HX.out mid Hmid.out.2.1] at HC1
                          rw [HY.out (mid + 1) (by omega)] at HC2
                          generalize (winL cur lo (hi.set j mid) d).length = a at *
                          generalize (winL cur (lo.set j (mid + 1)) hi d).length = b at *
                          have hsz : (a : Int) + (b : Int) = (R.length : Int) := by omega
                          have hba : a ≤ 60 ∧ b ≤ 60 := by omega
                          clear hsum HCL
                          go_wp2_with first
                            | (go_at_call 24; ((with_reducible refine HC1.out.mono ?_); rintro en w8 ⟨rfl, hf8⟩; (obtain ⟨y4, y5⟩ := cells2 (g2.no hf8))))
                            | (go_at_call 24; ((with_reducible refine (HC2.out _ hf8).mono ?_); rintro en w9 ⟨rfl, hf9⟩))
                            | (go_at_call 11; ((with_reducible refine (live _).mono ?_); rintro e wl ⟨rfl, hfl⟩))
                            | fail
                          go_ret
                          exact ⟨rfl, ((hF5.tr hf8).tr hf9).tr hfl⟩
      · have Hb := Lib.hid hb
        clear hb
        go_wp2_with first
          | (go_at_call 8; ((with_reducible refine (new_s (w0 := v1) hd (Fr.refl _ _)).mono ?_); rintro en w1 ⟨ga, rfl, hs1, hga, hf1⟩; (obtain ⟨r0, r1⟩ := cells2 (HOR.out.no hf1))))
          | (go_at_call 28; ((with_reducible refine (few_any (rs := rs) (Hr.out.no (HFW.out.tr hf1))).mono ?_); rintro e w2 ⟨rfl, rfl⟩; rw [Hf.out]))
          | (go_at_call 29; ((with_reducible refine (rcheckBox_any (lo := lo) (hi := hi) _ (Hl.out.no (HFW.out.tr hf1)) (Hh.out.no (HFW.out.tr hf1))).mono ?_); rintro e w3 ⟨rfl, hf3⟩; rw [Hb.out]))
          | (go_at_call 11; ((with_reducible refine (live _).mono ?_); rintro e wl ⟨rfl, hfl⟩))
          | fail
        go_ret
        exact ⟨rfl, ((HFW.out.tr hf1).tr hf3).tr hfl⟩
  · go_wp2_with first
      | (go_at_call 8; ((with_reducible refine (new_no hd).mono ?_); rintro en w1 ⟨rfl, rfl⟩))
      | (go_at_call 11; ((with_reducible refine (live _).mono ?_); rintro e wl ⟨rfl, hfl⟩))
      | fail
    go_ret
    exact ⟨rfl, HFW.out.tr hfl⟩
end Go.Proofs.Yteckbcfigklkpaa.Am09
