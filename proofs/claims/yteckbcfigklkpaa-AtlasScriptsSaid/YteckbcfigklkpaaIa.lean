/- Rows of elements of more cells: copy and clear on them; Go's slices.Insert of one element into a list of the call's own (the roads of the shelf's text on it, turned to elements of two cells). -/
import Derived.Test.YteckbcfigklkpaaGe
import Derived.Lib.AppendZerosOnto
import Derived.Lib.Overlaps
import Derived.Lib.SliceRun
import Derived.Laws.CopyOwn
import Derived.Laws.Externs
import Derived.Deep.RegionHeld3
import Derived.StillTailTactics
namespace Go.Proofs.Yteckbcfigklkpaa.Ia
open Go.RowKit Go.Lib Go.Proofs.Yteckbcfigklkpaa.Base Go.Proofs.Yteckbcfigklkpaa.App Go.Proofs.Yteckbcfigklkpaa.Str Go.Proofs.Yteckbcfigklkpaa.Ky Go.Proofs.Yteckbcfigklkpaa.Bx Go.Proofs.Yteckbcfigklkpaa.Bo Go.Proofs.Yteckbcfigklkpaa.As Go.Proofs.Yteckbcfigklkpaa.Rv Go.Proofs.Yteckbcfigklkpaa.Ro Go.Proofs.Yteckbcfigklkpaa.Rk
set_option linter.unusedVariables false
set_option linter.unusedSimpArgs false
section
variable {P : Program}
/-- copy into a row, of elements of any number of cells. -/
theorem run_copy_wide (w : World) (dT sT ty elem : TypeId) (g o dLen dCap : Nat) (a : Addr) (sLen sCap m : Nat) (cur : Array Value) (t : TypeId) (cs : List Value) (sz : Nat)
    (hu : P.underlying dT = some (.slice elem)) (hs : (P.info? elem).map (·.size) = some sz)
    (hg : w.heap[g]? = some (.cells cur t (0, 0))) (hm : Nat.min sLen dLen = m) (hn : cs.length = m * sz)
    (hsrc : ∀ j v, cs[j]? = some v → w.cell? (a.add j) = some v) (hfit : o + cs.length ≤ cur.size) (h1 : ∀ v ∈ cs, v.oneCell' = true) :
    (Builtin.copy_ #[dT, sT] ty #[.slice (some ⟨g, o, none⟩) dLen dCap, .slice (some a) sLen sCap]).run P w =
      .ok (goInt m) (w.setRow g (cur.toList.take o ++ cs ++ cur.toList.drop (o + cs.length)).toArray) := by
  have hl := run_loadCells_list (P := P) w a cs hsrc
  have hst := run_storeCells_at P g o t cs 0 cur w hg (by simpa using hfit) h1
  cases hq : P.info? elem with
  | none => simp [hq] at hs
  | some i =>
    have hi : i.size = sz := by simpa [hq] using hs
    simp [Builtin.copy_, run_underlying hu, Builtin.lenOf, Builtin.firstCells, sizeOf, typeInfo, hq, hi, hm, ← hn, hl, hst]
/-- clear, of elements of any number of cells. -/
theorem run_clear_wide (w : World) (t e ty : TypeId) (z : Value) (ht : P.underlying t = some (.slice e)) (hv : ∀ w, (zeroValue e).run P w = .ok z w) (h1 : ∀ v ∈ z.cells.toList, v.oneCell' = true) (g o n c : Nat) (hn : 0 < n) (T : TypeId) (cur : Array Value)
    (hg : w.heap[g]? = some (.cells cur T (0, 0))) (hfit : o + n * z.cells.size ≤ cur.size) :
    (Builtin.clear_ #[t] ty #[.slice (some ⟨g, o, none⟩) n c]).run P w = .ok (.tuple #[]) (w.setRow g (cur.toList.take o ++ (Builtin.zeroCells z.cells n).toList ++ cur.toList.drop (o + n * z.cells.size)).toArray) := by
  have hlen : (Builtin.zeroCells z.cells n).toList.length = n * z.cells.size := by simp [Builtin.zeroCells]
  have hst := run_storeCells_at P g o T (Builtin.zeroCells z.cells n).toList 0 cur w hg (by rw [hlen]; simpa using hfit) (by
    intro v hv'
    simp only [Builtin.zeroCells, Array.toList_map, List.mem_map] at hv'
    obtain ⟨i, hi, rfl⟩ := hv'
    rcases Nat.eq_zero_or_pos z.cells.size with h0 | h0
    · simp [h0] at hi
    · have hlt : i % z.cells.size < z.cells.size := Nat.mod_lt _ h0
      rw [getElem!_pos z.cells _ hlt]
      exact h1 _ (by simp))
  rw [hlen] at hst
  simp only [Nat.add_zero] at hst
  obtain ⟨m, rfl⟩ : ∃ m, n = m + 1 := ⟨n - 1, by omega⟩
  simp [Builtin.clear_, run_underlying ht, hv, hst]
end
/-- copy and clear, for the walk. -/
def cpSem (ats : Array TypeId) (ty : TypeId) (args : Array Value) : Sem Value := Builtin.copy_ ats ty args
theorem builtin_cp {ats : Array TypeId} {ty : TypeId} {cs : Array Bool} {args : Array Value} : builtin .copy ats ty cs args = (do pure (.value (← cpSem ats ty args))) := rfl
def clSem (ats : Array TypeId) (ty : TypeId) (args : Array Value) : Sem Value := Builtin.clear_ ats ty args
theorem builtin_cl {ats : Array TypeId} {ty : TypeId} {cs : Array Bool} {args : Array Value} : builtin .clear ats ty cs args = (do pure (.value (← clSem ats ty args))) := rfl
attribute [local go_sem ↓ high] builtin_app builtin_cp builtin_cl
/-! ### Go's slices.Insert, of one element -/
theorem shift_list (cur xs vs : List Value) (n i sz : Nat) (hc : cur.take (n * sz) = xs) (hx : xs.length = n * sz) (hv : vs.length = sz) (hi : i ≤ n) (hl : (n + 1) * sz ≤ cur.length) (cur1 cur2 : List Value)
    (h1 : cur1 = cur.take ((i + 1) * sz) ++ xs.drop (i * sz) ++ cur.drop ((i + 1) * sz + (xs.drop (i * sz)).length))
    (h2 : cur2 = cur1.take (i * sz) ++ vs ++ cur1.drop (i * sz + vs.length)) :
    cur2.length = cur.length ∧ cur2.take ((n + 1) * sz) = xs.take (i * sz) ++ vs ++ xs.drop (i * sz) := by
  have e1 : (i + 1) * sz = i * sz + sz := by rw [Nat.add_mul, Nat.one_mul]
  have e2 : (n + 1) * sz = n * sz + sz := by rw [Nat.add_mul, Nat.one_mul]
  have e3 : i * sz ≤ n * sz := Nat.mul_le_mul_right _ hi
  rw [e2] at hl
  have hd : (xs.drop (i * sz)).length = n * sz - i * sz := by rw [List.length_drop, hx]
  have hl1 : cur1.length = cur.length := by
    rw [h1, e1, hd]; simp; omega
  have ht : cur1.take (i * sz) = xs.take (i * sz) := by
    rw [h1, e1, List.append_assoc, List.take_append_of_le_length (by simp; omega), List.take_take, Nat.min_eq_left (by omega), ← hc, List.take_take, Nat.min_eq_left e3]
  have hdr : cur1.drop (i * sz + sz) = xs.drop (i * sz) ++ cur.drop (n * sz + sz) := by
    rw [h1, e1, hd, List.append_assoc, List.drop_left' (by simp; omega), show i * sz + sz + (n * sz - i * sz) = n * sz + sz by omega]
  constructor
  · rw [h2, hv]; simp; omega
  · rw [h2, hv, ht, hdr, e2, ← List.append_assoc, List.take_left' (by simp; omega)]
section
variable {w : World} {A V : Option Addr} {n c i vc base bv : Nat} {xs vs : List Value}
theorem Fr_setRow {S : Nat → Prop} {w w1 : World} (h : Fr S w w1) {g : Nat} (hg : S g ∨ w.heap.size ≤ g) (cs : Array Value) : Fr S w (w1.setRow g cs) := by
  refine ⟨h.os, h.tape, h.output, by have := h.size; simpa [World.setRow] using this, fun k hk hn => ?_⟩
  have hne : g ≠ k := by rintro rfl; rcases hg with h1 | h1; exact hn h1; omega
  rw [← h.block k hk hn]
  simp [World.setRow, Array.getElem?_modify, hne]
theorem Frg.own {S : Nat → Prop} {w w1 : World} {g : Nat} {cur cur1 : Array Value} {T : TypeId} {n c base : Nat} {ys : List Value} (hg : w1.heap[g]? = some (.cells cur1 T (0, 0))) (hb : base ≤ g) (hn : n ≤ c) (hc : c ≤ maxLen) (hs : cur1.size = c * 2) (ht : cur1.toList.take (n * 2) = ys) : w1.ownsRow base T 2 (.slice (some ⟨g, 0, none⟩) n c) n ys := by
  refine ⟨?_, .inr ⟨g, c, cur1, rfl, hb, hg, hn, hc, hs, ht⟩⟩
  rw [← ht, List.length_take, Array.length_toList, hs]
  have : n * 2 ≤ c * 2 := Nat.mul_le_mul_right _ hn
  omega
set_option maxRecDepth 8000 in
set_option maxHeartbeats 3200000 in
/-- There is room, and it is not the end. -/
theorem ins_shift {g vb : Nat} {cur vcur : Array Value} {T : TypeId} (hg : w.heap[g]? = some (.cells cur 33 (0, 0))) (hvb : w.heap[vb]? = some (.cells vcur T (0, 0))) (hne : vb ≠ g) (hs : cur.size = c * 2) (hn : n ≤ 1000000) (hc : c ≤ maxLen) (hi : i < n) (hroom : n + 1 ≤ c) (ht : cur.toList.take (n * 2) = xs) (hxl : xs.length = n * 2) (hvt : vcur.toList.take 2 = vs) (hvl : vs.length = 2) (h1x : ∀ v ∈ xs, v.oneCell' = true) (h1v : ∀ v ∈ vs, v.oneCell' = true) :
    Calls Try.prog 39 #[.slice (some ⟨g, 0, none⟩) n c, .int .i64 i, .slice (some ⟨vb, 0, none⟩) 1 vc] w fun e w' => e = .returned (.slice (some ⟨g, 0, none⟩) (n + 1) c) ∧ (∃ cur2 : Array Value, w'.heap[g]? = some (.cells cur2 33 (0, 0)) ∧ cur2.size = c * 2 ∧ cur2.toList.take ((n + 1) * 2) = xs.take (i * 2) ++ vs ++ xs.drop (i * 2)) ∧ Fr (fun k => k = g) w w' := by
  have hmx : maxLen ≤ 9223372036854775807 := by decide
  have hsz : ∀ w, (Go.sizeOf 33).run Try.prog w = .ok 2 w := fun w => by
    obtain ⟨i0, hi0, hzz⟩ := Option.map_eq_some_iff.1 info_rec
    simp only [Prod.mk.injEq] at hzz
    simp [sizeOf, typeInfo, hi0, hzz.2.1]
  have hinf : (Try.prog.info? 33).map (·.size) = some 2 := by
    obtain ⟨i0, hi0, hzz⟩ := Option.map_eq_some_iff.1 info_rec
    simp only [Prod.mk.injEq] at hzz
    rw [hi0]; simp [hzz.2.1]
  have hov : ∀ lb cb, (callFunc 52 #[.slice (some ⟨vb, 0, none⟩) 1 vc, .slice (some ⟨g, (i + 1) * 2, none⟩) lb cb]).run Try.prog w = .ok (.value (.bool false)) w := fun lb cb => by
    rw [run_callFunc_extern Try.func52 (by kernel_rfl) (by kernel_rfl) (by kernel_rfl) (e := Extern.SlicesOverlaps.overlaps #[40, 40] #[4]) (by kernel_rfl),
      Lib.run_overlaps_apart w 40 4 33 Try.underlying40 2 hsz ⟨vb, 0, none⟩ ⟨g, (i + 1) * 2, none⟩ 1 vc lb cb hne T 33 vcur.size cur.size (by simp [World.shape?, hvb]) (by simp [World.shape?, hg]) (by omega) (by simp [World.frozen?, hvb]) (by simp [World.frozen?, hvb])]
    rfl
  obtain ⟨cs, hcs⟩ : ∃ cs, cs = xs.drop (i * 2) := ⟨_, rfl⟩
  have hcl : cs.length = (n - i) * 2 := by rw [hcs, List.length_drop, hxl, Nat.sub_mul]
  have hcurl : cur.toList.length = c * 2 := by rw [Array.length_toList, hs]
  have hrun1 := run_copy_wide (P := Try.prog) w.drew 40 40 3 33 g ((i + 1) * 2) (n + 1 - (i + 1)) (c - (i + 1)) ⟨g, i * 2, none⟩ (n + 1 - i) (c - i) (n - i) cur 33 cs 2 Try.underlying40 hinf hg (by simp only [Nat.min_def]; split <;> omega) hcl (fun j v hj => by
    rw [add_lit]
    have hj2 : xs[i * 2 + j]? = some v := by rw [hcs, List.getElem?_drop] at hj; exact hj
    rw [← ht, List.getElem?_take] at hj2
    split at hj2
    · exact Ob.cell (show Ob w.drew g cur 33 from hg) (i * 2 + j) (by simpa using hj2)
    · cases hj2) (by rw [hcl, hs]; omega) (fun v hv => h1x v (by rw [hcs] at hv; exact List.mem_of_mem_drop hv))
  obtain ⟨cur1, hcur1⟩ : ∃ cur1 : List Value, cur1 = cur.toList.take ((i + 1) * 2) ++ cs ++ cur.toList.drop ((i + 1) * 2 + cs.length) := ⟨_, rfl⟩
  rw [← hcur1] at hrun1
  have hg1 : (w.drew.setRow g cur1.toArray).heap[g]? = some (.cells cur1.toArray 33 (0, 0)) := setRow_heap w.drew g cur _ _ _ hg
  have hv1 : (w.drew.setRow g cur1.toArray).heap[vb]? = some (.cells vcur T (0, 0)) := by
    rw [← hvb]
    exact setRow_other w.drew g vb _ (by omega)
  have hf1 : Fr (fun k => k = g) w (w.drew.setRow g cur1.toArray) := Fr_setRow (Fr.refl (fun k => k = g) w).drew (.inl rfl) _
  have hl1 : cur1.length = c * 2 := by rw [hcur1]; simp [hcl, hs]; omega
  generalize w.drew.setRow g cur1.toArray = w1 at *
  have hrun2 := run_copy_wide (P := Try.prog) w1 40 40 3 33 g (i * 2) (n + 1 - i) (c - i) ⟨vb, 0, none⟩ 1 vc 1 cur1.toArray 33 vs 2 Try.underlying40 hinf hg1 (by simp only [Nat.min_def]; split <;> omega) (by rw [hvl]) (fun j v hj => by
    rw [add_lit]
    rw [← hvt, List.getElem?_take] at hj
    split at hj
    · exact Ob.cell (show Ob w1 vb vcur T from hv1) (0 + j) (by simpa using hj)
    · cases hj) (by rw [hvl]; simp [hl1]; omega) h1v
  rw [List.toList_toArray] at hrun2
  obtain ⟨cur2, hcur2⟩ : ∃ cur2 : List Value, cur2 = cur1.take (i * 2) ++ vs ++ cur1.drop (i * 2 + vs.length) := ⟨_, rfl⟩
  rw [← hcur2] at hrun2
  have hfin := shift_list cur.toList xs vs n i 2 ht hxl hvl (by omega) (by rw [hcurl]; omega) cur1 cur2 (by rw [hcur1, hcs]) hcur2
  have hg2 : (w1.setRow g cur2.toArray).heap[g]? = some (.cells cur2.toArray 33 (0, 0)) := setRow_heap w1 g _ _ _ _ hg1
  have hf2 : Fr (fun k => k = g) w (w1.setRow g cur2.toArray) := Fr_setRow hf1 (.inl rfl) _
  have Hg2 := Lib.hid hg2
  have Hf2 := Lib.hid hf2
  have Hfin := Lib.hid hfin
  have hr1 : (cpSem #[40, 40] 3 #[.slice (some ⟨g, (i + 1) * 2, none⟩) (n + 1 - (i + 1)) (c - (i + 1)), .slice (some ⟨g, i * 2, none⟩) (n + 1 - i) (c - i)]).run Try.prog w.drew = .ok (goInt ((n - i : Nat) : Int)) w1 := hrun1
  have hr2 : (cpSem #[40, 40] 3 #[.slice (some ⟨g, i * 2, none⟩) (n + 1 - i) (c - i), .slice (some ⟨vb, 0, none⟩) 1 vc]).run Try.prog w1 = .ok (goInt ((1 : Nat) : Int)) (w1.setRow g cur2.toArray) := hrun2
  clear hrun1 hrun2 hg1 hv1 hf1 hg2 hf2 hfin hcur1 hcur2 hcs hcl hl1 hcurl h1x h1v ht hvt hg hvb
  generalize w1.setRow g cur2.toArray = w2 at *
  generalize goInt ((1 : Nat) : Int) = z2 at *
  generalize goInt ((n - i : Nat) : Int) = z1 at *
  have hw1 : IntKind.i64.wrap ((i : Int) + 1) = (i : Int) + 1 := IntWalk.i64_in _ (by omega)
  have hw2 : (0 : Int) ≤ (i : Int) + 1 ∧ (i : Int) + 1 ≤ (n : Int) + 1 := by omega
  have hw3 : ((i : Int) + 1).toNat = i + 1 := by omega
  have hw4 : ¬ c = i + 1 := by omega
  have hw5 : ¬ c = i := by omega
  have hw6 : (0 : Int) ≤ (i : Int) ∧ (i : Int) ≤ (n : Int) + 1 := by omega
  go_enter Try.func39, Try.ntmps39
  go_wp2_with (simp only [hov])
  (refine wp_region_held_drew (S := fun w' => n ≤ 1000000) (by kernel_rfl) ?_ (fun hHeld => ?_); focus ((try dsimp only); exact hn; done))
  ((refine wpAnyH_take (i := 0) (v := ?_) rfl (by kernel_rfl) (by kernel_rfl) (by kernel_rfl) (fun _ _ _ h => h) (Or.inl ⟨by rfl, ?_⟩) (by assumption) ?_; rotate_left; focus (intro w hSw; (try dsimp only at hSw); go_simp; (try with_reducible rfl); done)); (try simp only [Act.put, List.setIfInBounds_toArray, List.set_cons_zero, List.set_cons_succ, List.getElem_toArray, List.getElem_cons_zero, List.getElem_cons_succ]); (refine wpAnyH_take (i := 1) (v := ?_) rfl (by kernel_rfl) (by kernel_rfl) (by kernel_rfl) (fun _ _ _ h => h) (Or.inl ⟨by rfl, ?_⟩) (by assumption) ?_; rotate_left; focus (intro w hSw; (try dsimp only at hSw); go_simp; (try with_reducible rfl); done)); (try simp only [Act.put, List.setIfInBounds_toArray, List.set_cons_zero, List.set_cons_succ, List.getElem_toArray, List.getElem_cons_zero, List.getElem_cons_succ]); (refine wpAnyH_take (i := 2) (v := ?_) rfl (by kernel_rfl) (by kernel_rfl) (by kernel_rfl) (fun _ _ _ h => h) (Or.inl ⟨by rfl, ?_⟩) (by assumption) ?_; rotate_left; focus (intro w hSw; (try dsimp only at hSw); go_simp; (try with_reducible rfl); done)); (try simp only [Act.put, List.setIfInBounds_toArray, List.set_cons_zero, List.set_cons_succ, List.getElem_toArray, List.getElem_cons_zero, List.getElem_cons_succ]); (refine wpAnyH_take (i := 3) (v := ?_) rfl (by kernel_rfl) (by kernel_rfl) (by kernel_rfl) (fun _ _ _ h => h) (Or.inl ⟨by rfl, ?_⟩) (by assumption) ?_; rotate_left; focus (intro w hSw; (try dsimp only at hSw); go_simp; (try with_reducible rfl); done)); (try simp only [Act.put, List.setIfInBounds_toArray, List.set_cons_zero, List.set_cons_succ, List.getElem_toArray, List.getElem_cons_zero, List.getElem_cons_succ]))
  (refine wpAnyH_take (i := 4) (v := ?_) rfl (by kernel_rfl) (by kernel_rfl) (by kernel_rfl) (fun _ _ _ h => h) (Or.inl ⟨by rfl, ?_⟩) (by assumption) ?_; rotate_left; focus (intro w hSw; (try dsimp only at hSw); go_simp; (try simp only [hw1, if_pos hw2, hw3, if_neg hw4, add_lit]); (try with_reducible rfl); done)); (try simp only [Act.put, List.setIfInBounds_toArray, List.set_cons_zero, List.set_cons_succ, List.getElem_toArray, List.getElem_cons_zero, List.getElem_cons_succ])
  ((refine wpAnyH_take (i := 5) (v := ?_) rfl (by kernel_rfl) (by kernel_rfl) (by kernel_rfl) (fun _ _ _ h => h) (Or.inl ⟨by rfl, ?_⟩) (by assumption) ?_; rotate_left; focus (intro w hSw; (try dsimp only at hSw); go_simp; (try with_reducible rfl); done)); (try simp only [Act.put, List.setIfInBounds_toArray, List.set_cons_zero, List.set_cons_succ, List.getElem_toArray, List.getElem_cons_zero, List.getElem_cons_succ]); (refine wpAnyH_take (i := 6) (v := ?_) rfl (by kernel_rfl) (by kernel_rfl) (by kernel_rfl) (fun _ _ _ h => h) (Or.inl ⟨by rfl, ?_⟩) (by assumption) ?_; rotate_left; focus (intro w hSw; (try dsimp only at hSw); go_simp; (try with_reducible rfl); done)); (try simp only [Act.put, List.setIfInBounds_toArray, List.set_cons_zero, List.set_cons_succ, List.getElem_toArray, List.getElem_cons_zero, List.getElem_cons_succ]))
  (refine wpAnyH_take (i := 7) (v := ?_) rfl (by kernel_rfl) (by kernel_rfl) (by kernel_rfl) (fun _ _ _ h => h) (Or.inl ⟨by rfl, ?_⟩) (by assumption) ?_; rotate_left; focus (intro w hSw; (try dsimp only at hSw); go_simp; (try simp only [if_pos hw6, if_neg hw5, add_lit]); (try with_reducible rfl); done)); (try simp only [Act.put, List.setIfInBounds_toArray, List.set_cons_zero, List.set_cons_succ, List.getElem_toArray, List.getElem_cons_zero, List.getElem_cons_succ])
  rw [show n + 1 - (i + 1) = n - i by omega] at hr1
  (refine wpAnyH_ready (rs := [8]) (by kernel_rfl) (by simp) ?_; refine AllReadyH.cons rfl (fun K hK => ?_) AllReadyH.nil; (try simp only [Act.put, List.setIfInBounds_toArray, List.set_cons_zero, List.set_cons_succ, List.getElem_toArray, List.getElem_cons_zero, List.getElem_cons_succ]); go_simp; refine hK.out _ _ ?_ (fun hHeld => ?_); focus ((try dsimp only); exact hn; done)); (clear hK K); (try simp only [Act.put, List.setIfInBounds_toArray, List.set_cons_zero, List.set_cons_succ, List.getElem_toArray, List.getElem_cons_zero, List.getElem_cons_succ])
  (refine wpAnyH_done (by kernel_rfl) ?_ _)
  go_wp2
  go_ret
  have hq := Hfin.out
  exact ⟨rfl, ⟨cur2.toArray, Hg2.out, by have := hq.1; simp [hs] at this; simpa using this, by simpa using hq.2⟩, Hf2.out⟩
theorem grow_list (xs vs z1 z2 : List Value) (n i sz G : Nat) (hx : xs.length = n * sz) (hv : vs.length = sz) (hi : i ≤ n) (h1 : z1.length = (n + 1 - i) * sz) (h2 : z2.length = (G - (n + 1)) * sz) (hG : n + 1 ≤ G) (row row1 row2 : List Value)
    (e0 : row = xs.take (i * sz) ++ z1 ++ z2) (e1 : row1 = row.take (i * sz) ++ vs ++ row.drop (i * sz + vs.length))
    (e2 : row2 = row1.take ((i + 1) * sz) ++ xs.drop (i * sz) ++ row1.drop ((i + 1) * sz + (xs.drop (i * sz)).length)) :
    row.length = G * sz ∧ row1.length = G * sz ∧ row2.length = G * sz ∧ row2.take ((n + 1) * sz) = xs.take (i * sz) ++ vs ++ xs.drop (i * sz) := by
  have q1 : (i + 1) * sz = i * sz + sz := by rw [Nat.add_mul, Nat.one_mul]
  have q2 : (n + 1) * sz = n * sz + sz := by rw [Nat.add_mul, Nat.one_mul]
  have q3 : i * sz ≤ n * sz := Nat.mul_le_mul_right _ hi
  have q4 : (n + 1) * sz ≤ G * sz := Nat.mul_le_mul_right _ hG
  have q5 : (n + 1 - i) * sz = (n + 1) * sz - i * sz := Nat.sub_mul _ _ _
  have q6 : (G - (n + 1)) * sz = G * sz - (n + 1) * sz := Nat.sub_mul _ _ _
  have hd : (xs.drop (i * sz)).length = n * sz - i * sz := by rw [List.length_drop, hx]
  have l0 : row.length = G * sz := by
    rw [e0]; simp only [List.length_append, List.length_take, hx, h1, h2, q5, q6]; omega
  have t0 : row.take (i * sz) = xs.take (i * sz) := by
    rw [e0, List.append_assoc, List.take_left' (by rw [List.length_take, hx]; omega)]
  have l1 : row1.length = G * sz := by
    rw [e1, hv]; simp only [List.length_append, List.length_take, List.length_drop, l0, hv]; omega
  have t1 : row1.take ((i + 1) * sz) = xs.take (i * sz) ++ vs := by
    rw [e1, t0, q1, List.take_left' (by simp only [List.length_append, List.length_take, hx, hv]; omega)]
  have l2 : row2.length = G * sz := by
    rw [e2, hd]; simp only [List.length_append, List.length_take, List.length_drop, l1, hd, hx]; omega
  refine ⟨l0, l1, l2, ?_⟩
  rw [e2, t1, hd, List.take_left' (by simp only [List.length_append, List.length_take, List.length_drop, hx, hv]; omega)]
theorem zero_len (z : Array Value) (n : Nat) : (Builtin.zeroCells z n).toList.length = n * z.size := by simp [Builtin.zeroCells]
set_option maxRecDepth 8000 in
set_option maxHeartbeats 3200000 in
/-- There is no room, and it is not the end. -/
theorem ins_grow {g vb : Nat} {cur vcur : Array Value} {T : TypeId} (hg : w.heap[g]? = some (.cells cur 33 (0, 0))) (hvb : w.heap[vb]? = some (.cells vcur T (0, 0))) (hs : cur.size = c * 2) (hn : n ≤ 1000000) (hnc : n ≤ c) (hi : i < n) (hroom : c < n + 1) (ht : cur.toList.take (n * 2) = xs) (hxl : xs.length = n * 2) (hvt : vcur.toList.take 2 = vs) (hvl : vs.length = 2) (h1x : ∀ v ∈ xs, v.oneCell' = true) (h1v : ∀ v ∈ vs, v.oneCell' = true) :
    Calls Try.prog 39 #[.slice (some ⟨g, 0, none⟩) n c, .int .i64 i, .slice (some ⟨vb, 0, none⟩) 1 vc] w fun e w' => ∃ G : Nat, e = .returned (.slice (some ⟨w.heap.size, 0, none⟩) (n + 1) G) ∧ n + 1 ≤ G ∧ G ≤ maxLen ∧ (∃ cur2 : Array Value, w'.heap[w.heap.size]? = some (.cells cur2 33 (0, 0)) ∧ cur2.size = G * 2 ∧ cur2.toList.take ((n + 1) * 2) = xs.take (i * 2) ++ vs ++ xs.drop (i * 2)) ∧ Fr No w w' := by
  have hmx : maxLen ≤ 9223372036854775807 := by decide
  have hmx2 : 9223372036854775807 ≤ maxLen := by decide
  obtain ⟨i0, hi0, hzz⟩ := Option.map_eq_some_iff.1 info_rec
  simp only [Prod.mk.injEq] at hzz
  obtain ⟨hz0, hz1, hz2⟩ := hzz
  have hinf : (Try.prog.info? 33).map (·.size) = some 2 := by rw [hi0]; simp [hz1]
  have hgl : g < w.heap.size := Ob.lt (show Ob w g cur 33 from hg)
  have hvl2 : vb < w.heap.size := Ob.lt (show Ob w vb vcur T from hvb)
  have hxc : ∀ j v, xs[j]? = some v → w.cell? ⟨g, j, none⟩ = some v := fun j v hj => by
    rw [← ht, List.getElem?_take] at hj
    split at hj
    · exact Ob.cell (show Ob w g cur 33 from hg) j (by simpa using hj)
    · cases hj
  have hold : (Builtin.firstCells i0.size i (.slice (some ⟨g, 0, none⟩) i c)).run Try.prog w.drew = .ok (xs.take (i * 2)).toArray w.drew := by
    rw [hz1]
    exact run_firstCells_some w.drew 2 i ⟨g, 0, none⟩ i c (xs.take (i * 2)) (by rw [List.length_take, hxl]; omega) (fun j v hj => by
      rw [add_lit, Nat.zero_add]
      rw [List.getElem?_take] at hj
      split at hj
      · exact hxc j v hj
      · cases hj)
  have hik : i + (n + 1 - i) = n + 1 := by omega
  have hra := Lib.run_append_grow_zeros w 40 3 40 33 i0 _ .i64 .i64 Try.underlying40 Try.underlying3 hi0 hz0 (some ⟨g, 0, none⟩) i c (xs.take (i * 2)) hold (n + 1 - i) (by omega) (by omega) (by omega) (by omega) (by rw [hz2]; omega) (by rw [hz2, hik]; exact growslice_fits hroom (by omega))
  rw [hik] at hra
  have hGn : n + 1 ≤ grownCap w (n + 1) c 33 := grownCap_ge w _ _ _
  have hGm : grownCap w (n + 1) c 33 ≤ maxLen := grownCap_le_maxLen w (n + 1) c 33 (by omega)
  generalize grownCap w (n + 1) c 33 = G at *
  obtain ⟨z1, hzl1⟩ : ∃ z1, z1 = (Builtin.zeroCells (Value.agg #[.slice none 0 0, .string ByteArray.empty]).cells (n + 1 - i)).toList := ⟨_, rfl⟩
  obtain ⟨z2, hzl2⟩ : ∃ z2, z2 = (Builtin.zeroCells (Value.agg #[.slice none 0 0, .string ByteArray.empty]).cells (G - (n + 1))).toList := ⟨_, rfl⟩
  obtain ⟨row, hrow⟩ : ∃ row : List Value, row = xs.take (i * 2) ++ z1 ++ z2 := ⟨_, rfl⟩
  have hrowA : (xs.take (i * 2)).toArray ++ Builtin.zeroCells (Value.agg #[.slice none 0 0, .string ByteArray.empty]).cells (n + 1 - i) ++ Builtin.zeroCells (Value.agg #[.slice none 0 0, .string ByteArray.empty]).cells (G - (n + 1)) = row.toArray := by
    apply Array.ext'
    simp [hrow, hzl1, hzl2]
  rw [hrowA] at hra
  obtain ⟨row1, hrow1⟩ : ∃ row1 : List Value, row1 = row.take (i * 2) ++ vs ++ row.drop (i * 2 + vs.length) := ⟨_, rfl⟩
  obtain ⟨cs, hcs⟩ : ∃ cs, cs = xs.drop (i * 2) := ⟨_, rfl⟩
  obtain ⟨row2, hrow2⟩ : ∃ row2 : List Value, row2 = row1.take ((i + 1) * 2) ++ cs ++ row1.drop ((i + 1) * 2 + cs.length) := ⟨_, rfl⟩
  obtain ⟨k0, k1, k2, k3⟩ := grow_list xs vs z1 z2 n i 2 G hxl hvl (by omega) (by rw [hzl1, zero_len]; rfl) (by rw [hzl2, zero_len]; rfl) hGn row row1 row2 hrow hrow1 (by rw [hrow2, hcs])
  have hcl : cs.length = (n - i) * 2 := by rw [hcs, List.length_drop, hxl, Nat.sub_mul]
  have hN : (w.drew.alloc (.cells row.toArray 33)).heap[w.heap.size]? = some (.cells row.toArray 33 (0, 0)) := Ob.new w.drew row.toArray 33
  have hV : (w.drew.alloc (.cells row.toArray 33)).heap[vb]? = some (.cells vcur T (0, 0)) := Ob.alloc (Ob.drew (show Ob w vb vcur T from hvb)) _
  have hX : (w.drew.alloc (.cells row.toArray 33)).heap[g]? = some (.cells cur 33 (0, 0)) := Ob.alloc (Ob.drew (show Ob w g cur 33 from hg)) _
  have hF0 : Fr No w (w.drew.alloc (.cells row.toArray 33)) := (Fr.refl No w).drew.alloc _
  generalize w.drew.alloc (.cells row.toArray 33) = w1 at *
  have hrun1 := run_copy_wide (P := Try.prog) w1 40 40 3 33 w.heap.size (i * 2) (n + 1 - i) (G - i) ⟨vb, 0, none⟩ 1 vc 1 row.toArray 33 vs 2 Try.underlying40 hinf hN (by simp only [Nat.min_def]; split <;> omega) (by rw [hvl]) (fun j v hj => by
    rw [add_lit]
    rw [← hvt, List.getElem?_take] at hj
    split at hj
    · exact Ob.cell (show Ob w1 vb vcur T from hV) (0 + j) (by simpa using hj)
    · cases hj) (by rw [hvl]; simp [k0]; omega) h1v
  rw [List.toList_toArray, ← hrow1] at hrun1
  have hN1 : (w1.setRow w.heap.size row1.toArray).heap[w.heap.size]? = some (.cells row1.toArray 33 (0, 0)) := setRow_heap w1 w.heap.size _ _ _ _ hN
  have hX1 : (w1.setRow w.heap.size row1.toArray).heap[g]? = some (.cells cur 33 (0, 0)) := by rw [← hX]; exact setRow_other w1 w.heap.size g _ (by omega)
  have hF1 : Fr No w (w1.setRow w.heap.size row1.toArray) := Fr_setRow hF0 (.inr (Nat.le_refl _)) _
  generalize w1.setRow w.heap.size row1.toArray = w2 at *
  have hrun2 := run_copy_wide (P := Try.prog) w2.drew 40 40 3 33 w.heap.size ((i + 1) * 2) (n + 1 - (i + 1)) (G - (i + 1)) ⟨g, i * 2, none⟩ (n - i) (c - i) (n - i) row1.toArray 33 cs 2 Try.underlying40 hinf hN1 (by simp only [Nat.min_def]; split <;> omega) hcl (fun j v hj => by
    rw [add_lit]
    have hj2 : xs[i * 2 + j]? = some v := by rw [hcs, List.getElem?_drop] at hj; exact hj
    rw [← ht, List.getElem?_take] at hj2
    split at hj2
    · exact Ob.cell (show Ob w2.drew g cur 33 from hX1) (i * 2 + j) (by simpa using hj2)
    · cases hj2) (by rw [hcl]; simp [k1]; omega) (fun v hv => h1x v (by rw [hcs] at hv; exact List.mem_of_mem_drop hv))
  rw [List.toList_toArray, ← hrow2] at hrun2
  have Hg2 := Lib.hid (show (w2.drew.setRow w.heap.size row2.toArray).heap[w.heap.size]? = some (.cells row2.toArray 33 (0, 0)) from setRow_heap w2.drew w.heap.size _ _ _ _ hN1)
  have Hf2 := Lib.hid (show Fr No w (w2.drew.setRow w.heap.size row2.toArray) from Fr_setRow hF1.drew (.inr (Nat.le_refl _)) _)
  have Hk2 := Lib.hid k2
  have Hk3 := Lib.hid k3
  have hr0 : (appSem #[40, 3] 40 #[.slice (some ⟨g, 0, none⟩) i c, .int .i64 ((n + 1 - i : Nat) : Int)]).run Try.prog w = .ok (.slice (some ⟨w.heap.size, 0, none⟩) (n + 1) G) w1 := hra
  have hr1 : (cpSem #[40, 40] 3 #[.slice (some ⟨w.heap.size, i * 2, none⟩) (n + 1 - i) (G - i), .slice (some ⟨vb, 0, none⟩) 1 vc]).run Try.prog w1 = .ok (goInt ((1 : Nat) : Int)) w2 := hrun1
  have hr2 : (cpSem #[40, 40] 3 #[.slice (some ⟨w.heap.size, (i + 1) * 2, none⟩) (n + 1 - (i + 1)) (G - (i + 1)), .slice (some ⟨g, i * 2, none⟩) (n - i) (c - i)]).run Try.prog w2.drew = .ok (goInt ((n - i : Nat) : Int)) (w2.drew.setRow w.heap.size row2.toArray) := hrun2
  have HG := Lib.hid (show n + 1 ≤ G ∧ G ≤ maxLen from ⟨hGn, hGm⟩)
  clear hra hrun1 hrun2 hN hV hX hF0 hN1 hX1 hF1 k0 k1 k2 k3 hrow hrow1 hrow2 hrowA hzl1 hzl2 hcs hcl hold hxc hg hvb ht hvt h1x h1v hi0 hz0 hz1 hz2
  generalize w2.drew.setRow w.heap.size row2.toArray = w3 at *
  generalize goInt ((n - i : Nat) : Int) = y1 at *
  generalize goInt ((1 : Nat) : Int) = y2 at *
  generalize hwz : w.heap.size = g2 at *
  have Hwz := Lib.hid hwz
  clear hwz
  have hin : (n : Int) + 1 - (i : Int) = ((n + 1 - i : Nat) : Int) := by omega
  rw [show n + 1 - (i + 1) = n - i by omega] at hr2
  have hw1 : IntKind.i64.wrap ((i : Int) + 1) = (i : Int) + 1 := IntWalk.i64_in _ (by omega)
  have hw2 : (0 : Int) ≤ (i : Int) + 1 ∧ (i : Int) + 1 ≤ (n : Int) + 1 := by omega
  have hw3 : ((i : Int) + 1).toNat = i + 1 := by omega
  have hw4 : ¬ G = i + 1 := by omega
  have hw5 : ¬ c = i := by omega
  have hw6 : (0 : Int) ≤ (i : Int) ∧ (i : Int) ≤ (n : Int) := by omega
  have hw7 : ¬ G = i := by omega
  go_enter Try.func39, Try.ntmps39
  go_wp2
  (refine wp_region_held_drew (S := fun w' => n ≤ 1000000) (by kernel_rfl) ?_ (fun hHeld => ?_); focus ((try dsimp only); exact hn; done))
  ((refine wpAnyH_take (i := 0) (v := ?_) rfl (by kernel_rfl) (by kernel_rfl) (by kernel_rfl) (fun _ _ _ h => h) (Or.inl ⟨by rfl, ?_⟩) (by assumption) ?_; rotate_left; focus (intro w hSw; (try dsimp only at hSw); go_simp; (try with_reducible rfl); done)); (try simp only [Act.put, List.setIfInBounds_toArray, List.set_cons_zero, List.set_cons_succ, List.getElem_toArray, List.getElem_cons_zero, List.getElem_cons_succ]); (refine wpAnyH_take (i := 1) (v := ?_) rfl (by kernel_rfl) (by kernel_rfl) (by kernel_rfl) (fun _ _ _ h => h) (Or.inl ⟨by rfl, ?_⟩) (by assumption) ?_; rotate_left; focus (intro w hSw; (try dsimp only at hSw); go_simp; (try with_reducible rfl); done)); (try simp only [Act.put, List.setIfInBounds_toArray, List.set_cons_zero, List.set_cons_succ, List.getElem_toArray, List.getElem_cons_zero, List.getElem_cons_succ]); (refine wpAnyH_take (i := 2) (v := ?_) rfl (by kernel_rfl) (by kernel_rfl) (by kernel_rfl) (fun _ _ _ h => h) (Or.inl ⟨by rfl, ?_⟩) (by assumption) ?_; rotate_left; focus (intro w hSw; (try dsimp only at hSw); go_simp; (try with_reducible rfl); done)); (try simp only [Act.put, List.setIfInBounds_toArray, List.set_cons_zero, List.set_cons_succ, List.getElem_toArray, List.getElem_cons_zero, List.getElem_cons_succ]); (refine wpAnyH_take (i := 3) (v := ?_) rfl (by kernel_rfl) (by kernel_rfl) (by kernel_rfl) (fun _ _ _ h => h) (Or.inl ⟨by rfl, ?_⟩) (by assumption) ?_; rotate_left; focus (intro w hSw; (try dsimp only at hSw); go_simp; (try with_reducible rfl); done)); (try simp only [Act.put, List.setIfInBounds_toArray, List.set_cons_zero, List.set_cons_succ, List.getElem_toArray, List.getElem_cons_zero, List.getElem_cons_succ]))
  (refine wpAnyH_take (i := 4) (v := ?_) rfl (by kernel_rfl) (by kernel_rfl) (by kernel_rfl) (fun _ _ _ h => h) (Or.inl ⟨by rfl, ?_⟩) (by assumption) ?_; rotate_left; focus (intro w hSw; (try dsimp only at hSw); go_simp; (try simp only [hw1, if_pos hw2, hw3, if_neg hw4, add_lit]); (try with_reducible rfl); done)); (try simp only [Act.put, List.setIfInBounds_toArray, List.set_cons_zero, List.set_cons_succ, List.getElem_toArray, List.getElem_cons_zero, List.getElem_cons_succ])
  ((refine wpAnyH_take (i := 5) (v := ?_) rfl (by kernel_rfl) (by kernel_rfl) (by kernel_rfl) (fun _ _ _ h => h) (Or.inl ⟨by rfl, ?_⟩) (by assumption) ?_; rotate_left; focus (intro w hSw; (try dsimp only at hSw); go_simp; (try with_reducible rfl); done)); (try simp only [Act.put, List.setIfInBounds_toArray, List.set_cons_zero, List.set_cons_succ, List.getElem_toArray, List.getElem_cons_zero, List.getElem_cons_succ]); (refine wpAnyH_take (i := 6) (v := ?_) rfl (by kernel_rfl) (by kernel_rfl) (by kernel_rfl) (fun _ _ _ h => h) (Or.inl ⟨by rfl, ?_⟩) (by assumption) ?_; rotate_left; focus (intro w hSw; (try dsimp only at hSw); go_simp; (try with_reducible rfl); done)); (try simp only [Act.put, List.setIfInBounds_toArray, List.set_cons_zero, List.set_cons_succ, List.getElem_toArray, List.getElem_cons_zero, List.getElem_cons_succ]))
  (refine wpAnyH_take (i := 7) (v := ?_) rfl (by kernel_rfl) (by kernel_rfl) (by kernel_rfl) (fun _ _ _ h => h) (Or.inl ⟨by rfl, ?_⟩) (by assumption) ?_; rotate_left; focus (intro w hSw; (try dsimp only at hSw); go_simp; (try simp only [if_pos hw6, if_neg hw5, add_lit]); (try with_reducible rfl); done)); (try simp only [Act.put, List.setIfInBounds_toArray, List.set_cons_zero, List.set_cons_succ, List.getElem_toArray, List.getElem_cons_zero, List.getElem_cons_succ])
  (refine wpAnyH_ready (rs := [8]) (by kernel_rfl) (by simp) ?_; refine AllReadyH.cons rfl (fun K hK => ?_) AllReadyH.nil; (try simp only [Act.put, List.setIfInBounds_toArray, List.set_cons_zero, List.set_cons_succ, List.getElem_toArray, List.getElem_cons_zero, List.getElem_cons_succ]); go_simp; refine hK.out _ _ ?_ (fun hHeld => ?_); focus ((try dsimp only); exact hn; done)); (clear hK K); (try simp only [Act.put, List.setIfInBounds_toArray, List.set_cons_zero, List.set_cons_succ, List.getElem_toArray, List.getElem_cons_zero, List.getElem_cons_succ])
  (refine wpAnyH_done (by kernel_rfl) ?_ _)
  go_wp2
  go_ret
  exact ⟨G, rfl, HG.out.1, HG.out.2, ⟨row2.toArray, Hg2.out, by simpa using Hk2.out, by simpa using Hk3.out⟩, Hf2.out⟩
theorem own_one {base n c : Nat} {v : Value} {xs : List Value} {ps : List Pr} (h : xs = rcells ps) : ∀ u ∈ xs, u.oneCell' = true := by subst h; exact rcells_one ps
/-- An insertion of one element, on any road. -/
theorem ins_any (hO : w.ownsRow base 33 2 (.slice A n c) n xs) (hV : w.ownsRow bv 33 2 (.slice V 1 vc) 1 vs) (hne : (Value.slice V 1 vc).ownBlock ≠ (Value.slice A n c).ownBlock) (hbase : base ≤ w.heap.size) (hi : i ≤ n) (hn : n ≤ 1000000) (h1x : ∀ v ∈ xs, v.oneCell' = true) (h1v : ∀ v ∈ vs, v.oneCell' = true) :
    Calls Try.prog 39 #[.slice A n c, .int .i64 i, .slice V 1 vc] w fun e w' => ∃ A1 c1, e = .returned (.slice A1 (n + 1) c1) ∧ w'.ownsRow base 33 2 (.slice A1 (n + 1) c1) (n + 1) (xs.take (i * 2) ++ vs ++ xs.drop (i * 2)) ∧ Fr (fun k => (Value.slice A n c).ownBlock = some k) w w' ∧ ((Value.slice A1 (n + 1) c1).ownBlock = (Value.slice A n c).ownBlock ∨ (Value.slice A1 (n + 1) c1).ownBlock = some w.heap.size) := by
  have hxl := hO.1
  have hvl : vs.length = 2 := hV.1
  obtain ⟨hnc, hcm⟩ := own_cap hO
  have hmx : maxLen ≤ 9223372036854775807 := by decide
  by_cases he : i = n
  · subst he
    obtain ⟨A1, c1, w1, hrun, hown, hgr, hat⟩ := app_eq (P := Try.prog) (w := w) base 40 33 (.agg #[.slice none 0 0, .string ByteArray.empty]) 2 40 Try.underlying40 info_rec rfl (by decide) (by decide) hO V 1 vc vs (by rw [hvl]) (by
      have h := own_rcs hV
      exact h.rc (by rw [hvl])) h1v (by omega) hbase
    have Hown := Lib.hid hown
    have Hgr := Lib.hid (grown_fr hgr)
    have Hat := Lib.hid hat
    clear hown hgr hat hO hV
    go_enter Try.func39, Try.ntmps39
    go_wp2
    all_goals
      go_ret
      (try subst_vars)
      refine ⟨A1, c1, rfl, ?_, Hgr.out, Hat.out⟩
      rw [List.take_of_length_le (by omega), List.drop_of_length_le (by omega), List.append_nil]
      exact Hown.out
  · have hlt : i < n := by omega
    rcases hO.2 with ⟨h7, h8⟩ | ⟨g, cap, cur, h7, hb, hg, hx1, hx2, hsz, ht⟩
    · omega
    rcases hV.2 with ⟨h9, h10⟩ | ⟨vb, vcap, vcur, h9, _, hvb, _, _, _, hvt⟩
    · omega
    injection h7 with e1 e2 e3
    injection h9 with e4 e5 e6
    subst e1; subst e3; subst e4; subst e6
    have hvg : vb ≠ g := fun e => hne (by simp [Value.ownBlock, e])
    by_cases hroom : n + 1 ≤ c
    · refine (ins_shift hg hvb hvg hsz hn hcm hlt hroom ht hxl hvt hvl h1x h1v).mono ?_
      rintro e w' ⟨rfl, ⟨cur2, q1, q2, q3⟩, hf⟩
      exact ⟨_, _, rfl, Frg.own (S := fun _ => True) (w := w) (cur := cur) q1 hb hroom hcm q2 q3, hf.mono (fun k e => by simp [Value.ownBlock, e]), .inl rfl⟩
    · refine (ins_grow hg hvb hsz hn hnc hlt (by omega) ht hxl hvt hvl h1x h1v).mono ?_
      rintro e w' ⟨G, rfl, hG1, hG2, ⟨cur2, q1, q2, q3⟩, hf⟩
      exact ⟨_, _, rfl, Frg.own (S := fun _ => True) (w := w) (cur := cur) q1 hbase hG1 hG2 q2 q3, hf.mono (fun k e => e.elim), .inr rfl⟩
end
end Go.Proofs.Yteckbcfigklkpaa.Ia
