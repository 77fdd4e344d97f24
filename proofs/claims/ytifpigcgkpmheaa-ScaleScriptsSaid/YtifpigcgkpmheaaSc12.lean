/- Layer 12: a scale made; a bound put in, and taken out. -/
import Derived.Test.YtifpigcgkpmheaaSb12
import Derived.StillTailTactics
namespace Go.Proofs.Ytifpigcgkpmheaa.Sc12
open Go.RowKit Go.Proofs.Ytifpigcgkpmheaa.Base Go.Proofs.Ytifpigcgkpmheaa.App Go.Proofs.Ytifpigcgkpmheaa.Str Go.Proofs.Ytifpigcgkpmheaa.Ky Go.Proofs.Ytifpigcgkpmheaa.Bx Go.Proofs.Ytifpigcgkpmheaa.Bo Go.Proofs.Ytifpigcgkpmheaa.As Go.Proofs.Ytifpigcgkpmheaa.Ro Go.Proofs.Ytifpigcgkpmheaa.Ki08 Go.Proofs.Ytifpigcgkpmheaa.Ic Go.Proofs.Ytifpigcgkpmheaa.Sa12 Go.Proofs.Ytifpigcgkpmheaa.Sb12
set_option linter.unusedVariables false
set_option linter.unusedSimpArgs false
/-- The program's scale. -/
abbrev Sp (P : Nat → Prop) (w : World) (gs : Nat) (T : Option Addr) (ct : Nat) (qs : List Rw) (rows : List (List Nat)) : Prop := Sc 75 78 P w gs T ct qs rows
/-- Rows that may be. -/
def Gd (rows : List (List Nat)) : Prop := 1 ≤ rows.length ∧ rows.length ≤ 6 ∧ ∀ r ∈ rows, Inc r ∧ r.length ≤ 63 ∧ ∀ x ∈ r, 0 < x ∧ x < 4294967296
section
variable {tS tE : TypeId} {P S : Nat → Prop} {w w1 : World} {gs gt ct : Nat} {T : Option Addr} {qs : List Rw} {rows : List (List Nat)} {x : Nat}
theorem Gd.row (h : Gd rows) {i : Nat} (hi : i < rows.length) : Inc (rows.getD i []) ∧ (rows.getD i []).length ≤ 63 ∧ ∀ x ∈ rows.getD i [], 0 < x ∧ x < 4294967296 := by
  have e : rows.getD i [] = rows[i] := by simp [List.getD_eq_getElem?_getD, hi]
  rw [e]; exact h.2.2 _ (List.getElem_mem hi)
theorem Sc.made (d : Nat) (hd : 0 < d) (hd6 : d ≤ 6) {cs : Array Value} (h1 : Ob w gs #[.slice (some ⟨gt, 0, none⟩) d d] tS) (h2 : Ob w gt cs tE) (hc : cs.toList = List.replicate d (Value.slice none 0 0)) (hne : gs ≠ gt) :
    Sc tS tE (fun b => b = gs ∨ b = gt) w gs (some ⟨gt, 0, none⟩) d (List.replicate d (none, 0)) (List.replicate d []) := by
  have hv : rvs (List.replicate d ((none, 0) : Rw)) (List.replicate d []) = List.replicate d (Value.slice none 0 0) := by
    unfold rvs
    rw [List.zipWith_replicate, Nat.min_self]
    rfl
  have hg : ∀ i, i < (List.replicate d ([] : List Nat)).length → rv ((List.replicate d ((none, 0) : Rw)).getD i q0) ((List.replicate d ([] : List Nat)).getD i []) = .slice none 0 0 := fun i hi => by
    rw [List.length_replicate] at hi
    simp [List.getD_eq_getElem?_getD, List.getElem?_replicate, hi, rv]
  have hcs : cs.size = d := by rw [← Array.length_toList, hc, List.length_replicate]
  have hmx : 6 ≤ maxLen := by decide
  have hrl : (List.replicate d ([] : List Nat)).length = d := List.length_replicate
  refine ⟨by simp, by rw [hrl]; exact h1, ?_, .inl rfl, fun k hk => ?_, fun i hi => ?_, fun i hi k hk => ?_, fun i j hi hj hij k hk => ?_, fun b hb => ?_, fun r hr y hy => ?_⟩
  · rw [hrl, hv]
    refine ⟨by simp, .inr ⟨gt, d, cs, rfl, Nat.zero_le _, h2, Nat.le_refl _, by omega, by rw [hcs, Nat.mul_one], ?_⟩⟩
    rw [Nat.mul_one, List.take_of_length_le (by rw [Array.length_toList, hcs]; exact Nat.le_refl _)]
    exact hc
  · have : gt = k := by simpa [vbk, Value.ownBlock] using hk
    subst this
    exact ⟨.inr rfl, hne.symm⟩
  · rw [hg i hi]
    have e : (List.replicate d ([] : List Nat)).getD i [] = [] := by
      rw [hrl] at hi
      simp [List.getD_eq_getElem?_getD, List.getElem?_replicate, hi]
    rw [e]
    exact World.ownsRow_nil _ _ _ _
  · rw [hg i hi] at hk; cases hk
  · rw [hg i hi] at hk; cases hk
  · rcases hb with rfl | rfl
    · exact h1.lt
    · exact h2.lt
  · rw [List.eq_of_mem_replicate hr] at hy; simp at hy
theorem info_bounds : (Try.prog.info? 78).map (fun i => (i.zero, i.size, i.bytes)) = some (some (.slice none 0 0), 1, 24) := by kernel_rfl
theorem made_list (v : Value) (N : Nat) : (madeCells #[v] N).toList = List.replicate N v := by
  apply List.ext_getElem
  · simp [madeCells]
  · intro i h1 h2
    simp [madeCells, Nat.mod_one]
theorem new_yes (d : Nat) (h1 : 1 ≤ d) (h6 : d ≤ 6) : Calls Try.prog 27 #[.int .i64 (d : Int)] w fun en w' => ∃ gs gt, en = .returned (.tuple #[.pointer (some ⟨gs, 0, none⟩), .int .i64 0]) ∧ w.heap.size ≤ gs ∧ w.heap.size ≤ gt ∧ Sp (fun b => b = gs ∨ b = gt) w' gs (some ⟨gt, 0, none⟩) d (List.replicate d (none, 0)) (List.replicate d []) ∧ Fr No w w' := by
  have hmk : ∀ W : World, (Instr.makeSlice 73 (.int .i64 (d : Int)) (.int .i64 (d : Int))).run Try.prog W = .ok (.slice (some ⟨W.heap.size, 0, none⟩) d d) (W.alloc (.cells (madeCells #[.slice none 0 0] d) 78)) := by
    intro W
    have := run_made (P := Try.prog) 73 78 (.slice none 0 0) 24 Try.underlying73 info_bounds rfl (by decide) d (by omega) (by omega) W
    simpa using this
  have Hl := Lib.hid (made_list (.slice none 0 0) d)
  go_enter Try.func27, Try.ntmps27
  go_wp2
  go_ret2
  exact ⟨w.heap.size + 1, w.heap.size, rfl, by omega, Nat.le_refl _, Sc.made d (by omega) h6 (by (repeat (first | with_reducible assumption | with_reducible refine Ob.other ?_ (by first | (simp; done) | (simp; omega)) _ | ((with_reducible refine Ob.new_ _ _ _ _ ?_) <;> (simp; done)) | with_reducible refine Ob.alloc ?_ _ | with_reducible refine Ob.drew ?_ | with_reducible refine Ob.drewN ?_ _ | with_reducible refine Ob.no ?_ (by assumption)))) ((Ob.new _ _ _).alloc _) Hl.out (by omega), by (repeat (first | with_reducible exact Fr.refl _ _ | with_reducible refine Fr.setCell ?_ (.inr (by first | (simp; done) | (simp; omega))) _ | with_reducible refine Fr.alloc ?_ _ | with_reducible refine Fr.drew ?_ | with_reducible refine Fr.drewN ?_ _ | with_reducible refine Fr.tr ?_ (by assumption)))⟩
theorem new_no {z : Int} (h : ¬ (1 ≤ z ∧ z ≤ 6)) : Calls Try.prog 27 #[.int .i64 z] w fun en w' => en = .returned (.tuple #[.pointer none, .int .i64 1]) ∧ w = w' := by
  by_cases h1 : z < 1
  · go_enter Try.func27, Try.ntmps27
    go_wp2
    go_ret2
    exact ⟨rfl, rfl⟩
  · have h2 : 6 < z := by omega
    go_enter Try.func27, Try.ntmps27
    go_wp2
    go_ret2
    exact ⟨rfl, rfl⟩
theorem has_any (h : Sr w gs T ct rows) (z : Int) : Calls Try.prog 51 #[.pointer (some ⟨gs, 0, none⟩), .int .i64 z] w fun en w' => en = .returned (.bool (decide (0 ≤ z ∧ z < rows.length))) ∧ w = w' := by
  have c0 := h.c0
  clear h
  by_cases h0 : 0 ≤ z
  · by_cases h1 : z < rows.length
    · have e : decide (0 ≤ z ∧ z < (rows.length : Int)) = true := decide_eq_true ⟨h0, h1⟩
      rw [e]; clear e
      go_enter Try.func51, Try.ntmps51
      go_wp2
      go_ret
      exact ⟨rfl, rfl⟩
    · have e : decide (0 ≤ z ∧ z < (rows.length : Int)) = false := decide_eq_false (fun e => h1 e.2)
      rw [e]; clear e
      go_enter Try.func51, Try.ntmps51
      go_wp2
      go_ret
      exact ⟨rfl, rfl⟩
  · have e : decide (0 ≤ z ∧ z < (rows.length : Int)) = false := decide_eq_false (fun e => h0 e.1)
    rw [e]; clear e
    go_enter Try.func51, Try.ntmps51
    go_wp2
    go_ret
    exact ⟨rfl, rfl⟩
theorem has_nil (z : Int) (W : World) : Calls Try.prog 51 #[.pointer none, .int .i64 z] W fun en w' => en = .returned (.bool false) ∧ W = w' := by
  go_enter Try.func51, Try.ntmps51
  go_wp2
  go_ret
  exact ⟨rfl, rfl⟩
/-! ### a bound put in -/
def insR (r : List Nat) (x : Nat) : List Nat := r.take (itv r x) ++ x :: r.drop (itv r x)
def insE (rows : List (List Nat)) (z : Int) (x : Nat) : Nat :=
  if 0 ≤ z ∧ z < rows.length ∧ 0 < x ∧ x ∉ rows.getD z.toNat [] then (if (rows.getD z.toNat []).length = 63 then 4 else 0) else 1
def insI (rows : List (List Nat)) (z : Int) (x : Nat) : Nat := if insE rows z x = 0 then itv (rows.getD z.toNat []) x else 0
def insL (rows : List (List Nat)) (z : Int) (x : Nat) : List (List Nat) := if insE rows z x = 0 then rows.set z.toNat (insR (rows.getD z.toNat []) x) else rows
theorem insR_len (r : List Nat) (x : Nat) : (insR r x).length = r.length + 1 := by
  have := itv_le r x
  unfold insR
  rw [List.length_append, List.length_cons, List.length_take, List.length_drop]
  omega
theorem mem_insR (r : List Nat) (x y : Nat) : y ∈ insR r x ↔ y = x ∨ y ∈ r := by
  unfold insR
  rw [List.mem_append, List.mem_cons]
  constructor
  · rintro (h | h | h)
    · exact .inr (List.mem_of_mem_take h)
    · exact .inl h
    · exact .inr (List.mem_of_mem_drop h)
  · rintro (h | h)
    · exact .inr (.inl h)
    · rw [← List.take_append_drop (itv r x) r] at h
      rcases List.mem_append.1 h with h | h
      · exact .inl h
      · exact .inr (.inr h)
theorem insR_inc {r : List Nat} (h : Inc r) (hx : x ∉ r) : Inc (insR r x) := by
  have h1 := itv_in r x
  have h2 := itv_at r x
  have hle := itv_le r x
  unfold insR
  refine List.pairwise_append.2 ⟨List.Pairwise.sublist (List.take_sublist _ _) h, List.pairwise_cons.2 ⟨fun y hy => ?_, List.Pairwise.sublist (List.drop_sublist _ _) h⟩, fun y hy z hz => ?_⟩
  · obtain ⟨j, hj, rfl⟩ := List.mem_iff_getElem.1 hy
    rw [List.length_drop] at hj
    have h3 := h2 (by omega)
    rw [List.getElem_drop]
    have h4 : r.getD (itv r x) 0 ≤ r.getD (itv r x + j) 0 := by
      rcases Nat.eq_zero_or_pos j with e | e
      · subst e; exact Nat.le_refl _
      · exact Nat.le_of_lt (inc_lt h (by omega) (by omega))
    have h5 : r.getD (itv r x + j) 0 = r[itv r x + j] := by simp [List.getD_eq_getElem?_getD, show itv r x + j < r.length by omega]
    omega
  · obtain ⟨j, hj, rfl⟩ := List.mem_iff_getElem.1 hy
    rw [List.length_take] at hj
    rw [List.getElem_take]
    have h3 := h1 j (by omega)
    have h5 : r.getD j 0 = r[j] := by simp [List.getD_eq_getElem?_getD, show j < r.length by omega]
    have hjx : r[j] < x := by
      have : r[j] ≠ x := fun e => hx (by rw [← e]; exact List.getElem_mem _)
      omega
    rcases List.mem_cons.1 hz with e | hz
    · omega
    · obtain ⟨q, hq, rfl⟩ := List.mem_iff_getElem.1 hz
      rw [List.length_drop] at hq
      rw [List.getElem_drop]
      have h6 := inc_lt h (i := j) (j := itv r x + q) (by omega) (by omega)
      have h7 : r.getD (itv r x + q) 0 = r[itv r x + q] := by simp [List.getD_eq_getElem?_getD, show itv r x + q < r.length by omega]
      omega
theorem Gd.set (h : Gd rows) {i : Nat} {r : List Nat} (h1 : Inc r) (h2 : r.length ≤ 63) (h3 : ∀ x ∈ r, 0 < x ∧ x < 4294967296) : Gd (rows.set i r) := by
  refine ⟨by rw [List.length_set]; exact h.1, by rw [List.length_set]; exact h.2.1, fun r' hr' => ?_⟩
  rcases List.mem_or_eq_of_mem_set hr' with e | e
  · exact h.2.2 r' e
  · rw [e]; exact ⟨h1, h2, h3⟩
theorem insE_zero {z : Int} (h : insE rows z x = 0) : 0 ≤ z ∧ z < rows.length ∧ 0 < x ∧ x ∉ rows.getD z.toNat [] ∧ (rows.getD z.toNat []).length ≠ 63 := by
  unfold insE at h
  split at h
  · rename_i hc
    split at h
    · cases h
    · rename_i h63; exact ⟨hc.1, hc.2.1, hc.2.2.1, hc.2.2.2, h63⟩
  · cases h
theorem Gd.ins (h : Gd rows) (hx : x < 4294967296) (z : Int) : Gd (insL rows z x) := by
  unfold insL
  split
  · rename_i hc
    obtain ⟨q1, q2, q3, q4, q5⟩ := insE_zero hc
    obtain ⟨g1, g2, g3⟩ := h.row (i := z.toNat) (by omega)
    refine h.set (insR_inc g1 q4) (by rw [insR_len]; omega) (fun y hy => ?_)
    rcases (mem_insR _ _ _).1 hy with e | e
    · rw [e]; exact ⟨q3, hx⟩
    · exact g3 y e
  · exact h
end
end Go.Proofs.Ytifpigcgkpmheaa.Sc12
