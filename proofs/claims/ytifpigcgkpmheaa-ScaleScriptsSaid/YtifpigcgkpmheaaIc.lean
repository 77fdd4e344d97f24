/- Go's slices.Insert of one number into a row of the call's own, and slices.Delete of one (XIa's and XIb's roads, of elements of one cell). -/
import Derived.Test.YtifpigcgkpmheaaRo
import Derived.Test.YtifpigcgkpmheaaGb
import Derived.Lib.AppendZerosOnto
import Derived.Lib.Overlaps
import Derived.Lib.SliceRun
import Derived.Laws.CopyOwn
import Derived.Laws.Externs
import Derived.Deep.RegionHeld3
import Derived.Deep.Upon
import Derived.StillTailTactics
namespace Go.Proofs.Ytifpigcgkpmheaa.Ic
open Go.RowKit Go.Lib Go.Proofs.Ytifpigcgkpmheaa.Base Go.Proofs.Ytifpigcgkpmheaa.App Go.Proofs.Ytifpigcgkpmheaa.Str Go.Proofs.Ytifpigcgkpmheaa.Ky Go.Proofs.Ytifpigcgkpmheaa.Bx Go.Proofs.Ytifpigcgkpmheaa.Bo Go.Proofs.Ytifpigcgkpmheaa.As Go.Proofs.Ytifpigcgkpmheaa.Rv Go.Proofs.Ytifpigcgkpmheaa.Ro Go.Proofs.Ytifpigcgkpmheaa.Ki08
set_option linter.unusedVariables false
set_option linter.unusedSimpArgs false
section
variable {P : Program}
/-- copy into a row, of elements of any number of cells. -/
theorem run_copy_wide (w : World) (dT sT ty elem : TypeId) (g o dLen dCap : Nat) (a : Addr) (sLen sCap m : Nat) (cur : Array Value) (t : TypeId) (cs : List Value) (sz : Nat)
    (hu : P.underlying dT = some (.slice elem)) (hs : (P.info? elem).map (·.size) = some sz)
    (hg : w.heap[g]? = some (.cells cur t (0, 0))) (hm : Nat.min sLen dLen = m) (hn : cs.length = m * sz)
    (hsrc : ∀ j v, cs[j]? = some v → w.cell? (a.add j) = some v) (hfit : o + cs.length ≤ cur.size) (h1 : ∀ v ∈ cs, v.oneCell' = true) :
    (Builtin.copy_ #[dT, sT] ty #[.slice (some ⟨g, o, none⟩) dLen dCap, .slice (some a) sLen sCap]).run P w =
      .ok (goInt m) (w.setRow g (cur.toList.take o ++ cs ++ cur.toList.drop (o + cs.length)).toArray) := by
  have hl := run_loadCells_list (P := P) w a cs hsrc
  have hst := run_storeCells_at P g o t cs 0 cur w hg (by simpa using hfit) h1
  cases hq : P.info? elem with
  | none => simp [hq] at hs
  | some i =>
    have hi : i.size = sz := by simpa [hq] using hs
    simp [Builtin.copy_, run_underlying hu, Builtin.lenOf, Builtin.firstCells, sizeOf, typeInfo, hq, hi, hm, ← hn, hl, hst]
/-- clear, of elements of any number of cells. -/
theorem run_clear_wide (w : World) (t e ty : TypeId) (z : Value) (ht : P.underlying t = some (.slice e)) (hv : ∀ w, (zeroValue e).run P w = .ok z w) (h1 : ∀ v ∈ z.cells.toList, v.oneCell' = true) (g o n c : Nat) (hn : 0 < n) (T : TypeId) (cur : Array Value)
    (hg : w.heap[g]? = some (.cells cur T (0, 0))) (hfit : o + n * z.cells.size ≤ cur.size) :
    (Builtin.clear_ #[t] ty #[.slice (some ⟨g, o, none⟩) n c]).run P w = .ok (.tuple #[]) (w.setRow g (cur.toList.take o ++ (Builtin.zeroCells z.cells n).toList ++ cur.toList.drop (o + n * z.cells.size)).toArray) := by
  have hlen : (Builtin.zeroCells z.cells n).toList.length = n * z.cells.size := by simp [Builtin.zeroCells]
  have hst := run_storeCells_at P g o T (Builtin.zeroCells z.cells n).toList 0 cur w hg (by rw [hlen]; simpa using hfit) (by
    intro v hv'
    simp only [Builtin.zeroCells, Array.toList_map, List.mem_map] at hv'
    obtain ⟨i, hi, rfl⟩ := hv'
    rcases Nat.eq_zero_or_pos z.cells.size with h0 | h0
    · simp [h0] at hi
    · have hlt : i % z.cells.size < z.cells.size := Nat.mod_lt _ h0
      rw [getElem!_pos z.cells _ hlt]
      exact h1 _ (by simp))
  rw [hlen] at hst
  simp only [Nat.add_zero] at hst
  obtain ⟨m, rfl⟩ : ∃ m, n = m + 1 := ⟨n - 1, by omega⟩
  simp [Builtin.clear_, run_underlying ht, hv, hst]
end
/-- copy and clear, for the walk. -/
def cpSem (ats : Array TypeId) (ty : TypeId) (args : Array Value) : Sem Value := Builtin.copy_ ats ty args
theorem builtin_cp {ats : Array TypeId} {ty : TypeId} {cs : Array Bool} {args : Array Value} : builtin .copy ats ty cs args = (do pure (.value (← cpSem ats ty args))) := rfl
def clSem (ats : Array TypeId) (ty : TypeId) (args : Array Value) : Sem Value := Builtin.clear_ ats ty args
theorem builtin_cl {ats : Array TypeId} {ty : TypeId} {cs : Array Bool} {args : Array Value} : builtin .clear ats ty cs args = (do pure (.value (← clSem ats ty args))) := rfl
attribute [local go_sem ↓ high] builtin_app builtin_cp builtin_cl
/-! ### Go's slices.Insert, of one element -/
theorem shift_list (cur xs vs : List Value) (n i sz : Nat) (hc : cur.take (n * sz) = xs) (hx : xs.length = n * sz) (hv : vs.length = sz) (hi : i ≤ n) (hl : (n + 1) * sz ≤ cur.length) (cur1 cur2 : List Value)
    (h1 : cur1 = cur.take ((i + 1) * sz) ++ xs.drop (i * sz) ++ cur.drop ((i + 1) * sz + (xs.drop (i * sz)).length))
    (h2 : cur2 = cur1.take (i * sz) ++ vs ++ cur1.drop (i * sz + vs.length)) :
    cur2.length = cur.length ∧ cur2.take ((n + 1) * sz) = xs.take (i * sz) ++ vs ++ xs.drop (i * sz) := by
  have e1 : (i + 1) * sz = i * sz + sz := by rw [Nat.add_mul, Nat.one_mul]
  have e2 : (n + 1) * sz = n * sz + sz := by rw [Nat.add_mul, Nat.one_mul]
  have e3 : i * sz ≤ n * sz := Nat.mul_le_mul_right _ hi
  rw [e2] at hl
  have hd : (xs.drop (i * sz)).length = n * sz - i * sz := by rw [List.length_drop, hx]
  have hl1 : cur1.length = cur.length := by
    rw [h1, e1, hd]; simp; omega
  have ht : cur1.take (i * sz) = xs.take (i * sz) := by
    rw [h1, e1, List.append_assoc, List.take_append_of_le_length (by simp; omega), List.take_take, Nat.min_eq_left (by omega), ← hc, List.take_take, Nat.min_eq_left e3]
  have hdr : cur1.drop (i * sz + sz) = xs.drop (i * sz) ++ cur.drop (n * sz + sz) := by
    rw [h1, e1, hd, List.append_assoc, List.drop_left' (by simp; omega), show i * sz + sz + (n * sz - i * sz) = n * sz + sz by omega]
  constructor
  · rw [h2, hv]; simp; omega
  · rw [h2, hv, ht, hdr, e2, ← List.append_assoc, List.take_left' (by simp; omega)]
/-- copy, clear and the lists, of elements of one cell. -/
theorem run_copy_1 {P : Program} (w : World) (dT sT ty elem : TypeId) (g o dLen dCap : Nat) (a : Addr) (sLen sCap m : Nat) (cur : Array Value) (t : TypeId) (cs : List Value)
    (hu : P.underlying dT = some (.slice elem)) (hs : (P.info? elem).map (·.size) = some 1)
    (hg : w.heap[g]? = some (.cells cur t (0, 0))) (hm : Nat.min sLen dLen = m) (hn : cs.length = m)
    (hsrc : ∀ j v, cs[j]? = some v → w.cell? (a.add j) = some v) (hfit : o + cs.length ≤ cur.size) (h1 : ∀ v ∈ cs, v.oneCell' = true) :
    (Builtin.copy_ #[dT, sT] ty #[.slice (some ⟨g, o, none⟩) dLen dCap, .slice (some a) sLen sCap]).run P w =
      .ok (goInt m) (w.setRow g (cur.toList.take o ++ cs ++ cur.toList.drop (o + cs.length)).toArray) :=
  run_copy_wide w dT sT ty elem g o dLen dCap a sLen sCap m cur t cs 1 hu hs hg hm (by simpa using hn) hsrc hfit h1
theorem shift_list1 (cur xs vs : List Value) (n i : Nat) (hc : cur.take n = xs) (hx : xs.length = n) (hv : vs.length = 1) (hi : i ≤ n) (hl : n + 1 ≤ cur.length) (cur1 cur2 : List Value)
    (h1 : cur1 = cur.take (i + 1) ++ xs.drop i ++ cur.drop (i + 1 + (xs.drop i).length))
    (h2 : cur2 = cur1.take i ++ vs ++ cur1.drop (i + vs.length)) :
    cur2.length = cur.length ∧ cur2.take (n + 1) = xs.take i ++ vs ++ xs.drop i := by
  simpa using shift_list cur xs vs n i 1 (by simpa using hc) (by simpa using hx) hv hi (by simpa using hl) cur1 cur2 (by simpa using h1) (by simpa using h2)
section
variable {w : World} {A V : Option Addr} {n c i vc base bv : Nat} {xs vs : List Value}
theorem Fr_setRow {S : Nat → Prop} {w w1 : World} (h : Fr S w w1) {g : Nat} (hg : S g ∨ w.heap.size ≤ g) (cs : Array Value) : Fr S w (w1.setRow g cs) := by
  refine ⟨h.os, h.tape, h.output, by have := h.size; simpa [World.setRow] using this, fun k hk hn => ?_⟩
  have hne : g ≠ k := by rintro rfl; rcases hg with h1 | h1; exact hn h1; omega
  rw [← h.block k hk hn]
  simp [World.setRow, Array.getElem?_modify, hne]
theorem Frg.own {w1 : World} {g : Nat} {cur1 : Array Value} {T : TypeId} {n c base : Nat} {ys : List Value} (hg : w1.heap[g]? = some (.cells cur1 T (0, 0))) (hb : base ≤ g) (hn : n ≤ c) (hc : c ≤ maxLen) (hs : cur1.size = c) (ht : cur1.toList.take n = ys) : w1.ownsRow base T 1 (.slice (some ⟨g, 0, none⟩) n c) n ys := by
  refine ⟨?_, .inr ⟨g, c, cur1, rfl, hb, hg, hn, hc, by rw [hs, Nat.mul_one], by rw [Nat.mul_one]; exact ht⟩⟩
  rw [← ht, List.length_take, Array.length_toList, hs]
  omega
theorem app_types {P : Program} {t t2 ty e : TypeId} (ht : P.underlying t = .some (.slice e)) (ht2 : P.underlying t2 = .some (.slice e)) (w : World) (A B : Option Addr) (n c m d : Nat) : (Builtin.append_ #[t, t2] ty #[.slice A n c, .slice B m d]).run P w = (Builtin.append_ #[t, t] ty #[.slice A n c, .slice B m d]).run P w := by
  simp [Builtin.append_, run_underlying ht, run_underlying ht2]
set_option maxRecDepth 8000 in
set_option maxHeartbeats 3200000 in
/-- There is room, and it is not the end. -/
theorem ins_shift {g vb : Nat} {cur vcur : Array Value} {T : TypeId} (hg : w.heap[g]? = some (.cells cur 47 (0, 0))) (hvb : w.heap[vb]? = some (.cells vcur T (0, 0))) (hne : vb ≠ g) (hs : cur.size = c) (hn : n ≤ 1000000) (hc : c ≤ maxLen) (hi : i < n) (hroom : n + 1 ≤ c) (ht : cur.toList.take (n) = xs) (hxl : xs.length = n) (hvt : vcur.toList.take 1 = vs) (hvl : vs.length = 1) (h1x : ∀ v ∈ xs, v.oneCell' = true) (h1v : ∀ v ∈ vs, v.oneCell' = true) :
    Calls Try.prog 53 #[.slice (some ⟨g, 0, none⟩) n c, .int .i64 i, .slice (some ⟨vb, 0, none⟩) 1 vc] w fun e w' => e = .returned (.slice (some ⟨g, 0, none⟩) (n + 1) c) ∧ (∃ cur2 : Array Value, w'.heap[g]? = some (.cells cur2 47 (0, 0)) ∧ cur2.size = c ∧ cur2.toList.take ((n + 1)) = xs.take (i) ++ vs ++ xs.drop (i)) ∧ Fr (fun k => k = g) w w' := by
  have hmx : maxLen ≤ 9223372036854775807 := by decide
  have hsz : ∀ w, (Go.sizeOf 47).run Try.prog w =   .ok 1 w := fun w => by
    obtain ⟨i0, hi0, hzz⟩ := Option.map_eq_some_iff.1 info_u32
    simp only [Prod.mk.injEq] at hzz
    simp [sizeOf, typeInfo, hi0, hzz.2.1]
  have hinf : (Try.prog.info? 47).map (·.size) = some 1 := by
    obtain ⟨i0, hi0, hzz⟩ := Option.map_eq_some_iff.1 info_u32
    simp only [Prod.mk.injEq] at hzz
    rw [hi0]; simp [hzz.2.1]
  have hov : ∀ lb cb, (callFunc 65 #[.slice (some ⟨vb, 0, none⟩) 1 vc, .slice (some ⟨g, (i + 1), none⟩) lb cb]).run Try.prog w = .ok (.value (.bool false)) w := fun lb cb => by
    rw [run_callFunc_extern Try.func65 (by kernel_rfl) (by kernel_rfl) (by kernel_rfl) (e := Extern.SlicesOverlaps.overlaps #[36, 36] #[4]) (by kernel_rfl),
      Lib.run_overlaps_apart w 36 4 47 Try.underlying36 1 hsz ⟨vb, 0, none⟩ ⟨g, (i + 1), none⟩ 1 vc lb cb hne T 47 vcur.size cur.size (by simp [World.shape?, hvb]) (by simp [World.shape?, hg]) (by omega) (by simp [World.frozen?, hvb]) (by simp [World.frozen?, hvb])]
    rfl
  obtain ⟨cs, hcs⟩ : ∃ cs, cs = xs.drop (i) := ⟨_, rfl⟩
  have hcl : cs.length = (n - i) := by rw [hcs, List.length_drop, hxl]
  have hcurl : cur.toList.length = c := by rw [Array.length_toList, hs]
  have hrun1 := run_copy_1 (P := Try.prog) w.drew 78 78 3 47 g ((i + 1)) (n + 1 - (i + 1)) (c - (i + 1)) ⟨g, i, none⟩ (n + 1 - i) (c - i) (n - i) cur 47 cs Try.underlying78 hinf hg (by simp only [Nat.min_def]; split <;> omega) hcl (fun j v hj => by
    rw [add_lit]
    have hj2 : xs[i + j]? = some v := by rw [hcs, List.getElem?_drop] at hj; exact hj
    rw [← ht, List.getElem?_take] at hj2
    split at hj2
    · exact Ob.cell (show Ob w.drew g cur 47 from hg) (i + j) (by simpa using hj2)
    · cases hj2) (by rw [hcl, hs]; omega) (fun v hv => h1x v (by rw [hcs] at hv; exact List.mem_of_mem_drop hv))
  obtain ⟨cur1, hcur1⟩ : ∃ cur1 : List Value, cur1 = cur.toList.take ((i + 1)) ++ cs ++ cur.toList.drop ((i + 1) + cs.length) := ⟨_, rfl⟩
  rw [← hcur1] at hrun1
  have hg1 : (w.drew.setRow g cur1.toArray).heap[g]? = some (.cells cur1.toArray 47 (0, 0)) := setRow_heap w.drew g cur _ _ _ hg
  have hv1 : (w.drew.setRow g cur1.toArray).heap[vb]? = some (.cells vcur T (0, 0)) := by
    rw [← hvb]
    exact setRow_other w.drew g vb _ (by omega)
  have hf1 : Fr (fun k => k = g) w (w.drew.setRow g cur1.toArray) := Fr_setRow (Fr.refl (fun k => k = g) w).drew (.inl rfl) _
  have hl1 : cur1.length = c := by rw [hcur1]; simp [hcl, hs]; omega
  generalize w.drew.setRow g cur1.toArray = w1 at *
  have hrun2 := run_copy_1 (P := Try.prog) w1 78 36 3 47 g (i) (n + 1 - i) (c - i) ⟨vb, 0, none⟩ 1 vc 1 cur1.toArray 47 vs Try.underlying78 hinf hg1 (by simp only [Nat.min_def]; split <;> omega) (by rw [hvl]) (fun j v hj => by
    rw [add_lit]
    rw [← hvt, List.getElem?_take] at hj
    split at hj
    · exact Ob.cell (show Ob w1 vb vcur T from hv1) (0 + j) (by simpa using hj)
    · cases hj) (by rw [hvl]; simp [hl1]; omega) h1v
  rw [List.toList_toArray] at hrun2
  obtain ⟨cur2, hcur2⟩ : ∃ cur2 : List Value, cur2 = cur1.take (i) ++ vs ++ cur1.drop (i + vs.length) := ⟨_, rfl⟩
  rw [← hcur2] at hrun2
  have hfin := shift_list1 cur.toList xs vs n i ht hxl hvl (by omega) (by rw [hcurl]; omega) cur1 cur2 (by rw [hcur1, hcs]) hcur2
  have hg2 : (w1.setRow g cur2.toArray).heap[g]? = some (.cells cur2.toArray 47 (0, 0)) := setRow_heap w1 g _ _ _ _ hg1
  have hf2 : Fr (fun k => k = g) w (w1.setRow g cur2.toArray) := Fr_setRow hf1 (.inl rfl) _
  have Hg2 := Lib.hid hg2
  have Hf2 := Lib.hid hf2
  have Hfin := Lib.hid hfin
  have hr1 : (cpSem #[78, 78] 3 #[.slice (some ⟨g, (i + 1), none⟩) (n + 1 - (i + 1)) (c - (i + 1)), .slice (some ⟨g, i, none⟩) (n + 1 - i) (c - i)]).run Try.prog w.drew = .ok (goInt ((n - i : Nat) : Int)) w1 := hrun1
  have hr2 : (cpSem #[78, 36] 3 #[.slice (some ⟨g, i, none⟩) (n + 1 - i) (c - i), .slice (some ⟨vb, 0, none⟩) 1 vc]).run Try.prog w1 = .ok (goInt ((1 : Nat) : Int)) (w1.setRow g cur2.toArray) := hrun2
  clear hrun1 hrun2 hg1 hv1 hf1 hg2 hf2 hfin hcur1 hcur2 hcs hcl hl1 hcurl h1x h1v ht hvt hg hvb
  generalize w1.setRow g cur2.toArray = w2 at *
  generalize goInt ((1 : Nat) : Int) = z2 at *
  generalize goInt ((n - i : Nat) : Int) = z1 at *
  have hw1 : IntKind.i64.wrap ((i : Int) + 1) = (i : Int) + 1 := IntWalk.i64_in _ (by omega)
  have hw2 : (0 : Int) ≤ (i : Int) + 1 ∧ (i : Int) + 1 ≤ (n : Int) + 1 := by omega
  have hw3 : ((i : Int) + 1).toNat = i + 1 := by omega
  have hw4 : ¬ c = i + 1 := by omega
  have hw5 : ¬ c = i := by omega
  have hw6 : (0 : Int) ≤ (i : Int) ∧ (i : Int) ≤ (n : Int) + 1 := by omega
  go_enter Try.func53, Try.ntmps53
  go_wp2_with (simp only [hov])
  (refine wp_region_held_drew (S := fun w' => n ≤ 1000000) (by kernel_rfl) ?_ (fun hHeld => ?_); focus ((try dsimp only); exact hn; done))
  ((refine wpAnyH_take (i := 0) (v := ?_) rfl (by kernel_rfl) (by kernel_rfl) (by kernel_rfl) (fun _ _ _ h => h) (Or.inl ⟨by rfl, ?_⟩) (by assumption) ?_; rotate_left; focus (intro w hSw; (try dsimp only at hSw); go_simp; (try with_reducible rfl); done)); (try simp only [Act.put, List.setIfInBounds_toArray, List.set_cons_zero, List.set_cons_succ, List.getElem_toArray, List.getElem_cons_zero, List.getElem_cons_succ]); (refine wpAnyH_take (i := 1) (v := ?_) rfl (by kernel_rfl) (by kernel_rfl) (by kernel_rfl) (fun _ _ _ h => h) (Or.inl ⟨by rfl, ?_⟩) (by assumption) ?_; rotate_left; focus (intro w hSw; (try dsimp only at hSw); go_simp; (try with_reducible rfl); done)); (try simp only [Act.put, List.setIfInBounds_toArray, List.set_cons_zero, List.set_cons_succ, List.getElem_toArray, List.getElem_cons_zero, List.getElem_cons_succ]); (refine wpAnyH_take (i := 2) (v := ?_) rfl (by kernel_rfl) (by kernel_rfl) (by kernel_rfl) (fun _ _ _ h => h) (Or.inl ⟨by rfl, ?_⟩) (by assumption) ?_; rotate_left; focus (intro w hSw; (try dsimp only at hSw); go_simp; (try with_reducible rfl); done)); (try simp only [Act.put, List.setIfInBounds_toArray, List.set_cons_zero, List.set_cons_succ, List.getElem_toArray, List.getElem_cons_zero, List.getElem_cons_succ]); (refine wpAnyH_take (i := 3) (v := ?_) rfl (by kernel_rfl) (by kernel_rfl) (by kernel_rfl) (fun _ _ _ h => h) (Or.inl ⟨by rfl, ?_⟩) (by assumption) ?_; rotate_left; focus (intro w hSw; (try dsimp only at hSw); go_simp; (try with_reducible rfl); done)); (try simp only [Act.put, List.setIfInBounds_toArray, List.set_cons_zero, List.set_cons_succ, List.getElem_toArray, List.getElem_cons_zero, List.getElem_cons_succ]))
  (refine wpAnyH_take (i := 4) (v := ?_) rfl (by kernel_rfl) (by kernel_rfl) (by kernel_rfl) (fun _ _ _ h => h) (Or.inl ⟨by rfl, ?_⟩) (by assumption) ?_; rotate_left; focus (intro w hSw; (try dsimp only at hSw); go_simp; (try simp only [hw1, if_pos hw2, hw3, if_neg hw4, add_lit]); (try with_reducible rfl); done)); (try simp only [Act.put, List.setIfInBounds_toArray, List.set_cons_zero, List.set_cons_succ, List.getElem_toArray, List.getElem_cons_zero, List.getElem_cons_succ])
  ((refine wpAnyH_take (i := 5) (v := ?_) rfl (by kernel_rfl) (by kernel_rfl) (by kernel_rfl) (fun _ _ _ h => h) (Or.inl ⟨by rfl, ?_⟩) (by assumption) ?_; rotate_left; focus (intro w hSw; (try dsimp only at hSw); go_simp; (try with_reducible rfl); done)); (try simp only [Act.put, List.setIfInBounds_toArray, List.set_cons_zero, List.set_cons_succ, List.getElem_toArray, List.getElem_cons_zero, List.getElem_cons_succ]); (refine wpAnyH_take (i := 6) (v := ?_) rfl (by kernel_rfl) (by kernel_rfl) (by kernel_rfl) (fun _ _ _ h => h) (Or.inl ⟨by rfl, ?_⟩) (by assumption) ?_; rotate_left; focus (intro w hSw; (try dsimp only at hSw); go_simp; (try with_reducible rfl); done)); (try simp only [Act.put, List.setIfInBounds_toArray, List.set_cons_zero, List.set_cons_succ, List.getElem_toArray, List.getElem_cons_zero, List.getElem_cons_succ]))
  (refine wpAnyH_take (i := 7) (v := ?_) rfl (by kernel_rfl) (by kernel_rfl) (by kernel_rfl) (fun _ _ _ h => h) (Or.inl ⟨by rfl, ?_⟩) (by assumption) ?_; rotate_left; focus (intro w hSw; (try dsimp only at hSw); go_simp; (try simp only [if_pos hw6, if_neg hw5, add_lit]); (try with_reducible rfl); done)); (try simp only [Act.put, List.setIfInBounds_toArray, List.set_cons_zero, List.set_cons_succ, List.getElem_toArray, List.getElem_cons_zero, List.getElem_cons_succ])
  rw [show n + 1 - (i + 1) = n - i by omega] at hr1
  (refine wpAnyH_ready (rs := [8]) (by kernel_rfl) (by simp) ?_; refine AllReadyH.cons rfl (fun K hK => ?_) AllReadyH.nil; (try simp only [Act.put, List.setIfInBounds_toArray, List.set_cons_zero, List.set_cons_succ, List.getElem_toArray, List.getElem_cons_zero, List.getElem_cons_succ]); go_simp; refine hK.out _ _ ?_ (fun hHeld => ?_); focus ((try dsimp only); exact hn; done)); (clear hK K); (try simp only [Act.put, List.setIfInBounds_toArray, List.set_cons_zero, List.set_cons_succ, List.getElem_toArray, List.getElem_cons_zero, List.getElem_cons_succ])
  (refine wpAnyH_done (by kernel_rfl) ?_ _)
  go_wp2
  go_ret
  have hq := Hfin.out
  exact ⟨rfl, ⟨cur2.toArray, Hg2.out, by have := hq.1; simp [hs] at this; simpa using this, by simpa using hq.2⟩, Hf2.out⟩
theorem grow_list (xs vs z1 z2 : List Value) (n i sz G : Nat) (hx : xs.length = n * sz) (hv : vs.length = sz) (hi : i ≤ n) (h1 : z1.length = (n + 1 - i) * sz) (h2 : z2.length = (G - (n + 1)) * sz) (hG : n + 1 ≤ G) (row row1 row2 : List Value)
    (e0 : row = xs.take (i * sz) ++ z1 ++ z2) (e1 : row1 = row.take (i * sz) ++ vs ++ row.drop (i * sz + vs.length))
    (e2 : row2 = row1.take ((i + 1) * sz) ++ xs.drop (i * sz) ++ row1.drop ((i + 1) * sz + (xs.drop (i * sz)).length)) :
    row.length = G * sz ∧ row1.length = G * sz ∧ row2.length = G * sz ∧ row2.take ((n + 1) * sz) = xs.take (i * sz) ++ vs ++ xs.drop (i * sz) := by
  have q1 : (i + 1) * sz = i * sz + sz := by rw [Nat.add_mul, Nat.one_mul]
  have q2 : (n + 1) * sz = n * sz + sz := by rw [Nat.add_mul, Nat.one_mul]
  have q3 : i * sz ≤ n * sz := Nat.mul_le_mul_right _ hi
  have q4 : (n + 1) * sz ≤ G * sz := Nat.mul_le_mul_right _ hG
  have q5 : (n + 1 - i) * sz = (n + 1) * sz - i * sz := Nat.sub_mul _ _ _
  have q6 : (G - (n + 1)) * sz = G * sz - (n + 1) * sz := Nat.sub_mul _ _ _
  have hd : (xs.drop (i * sz)).length = n * sz - i * sz := by rw [List.length_drop, hx]
  have l0 : row.length = G * sz := by
    rw [e0]; simp only [List.length_append, List.length_take, hx, h1, h2, q5, q6]; omega
  have t0 : row.take (i * sz) = xs.take (i * sz) := by
    rw [e0, List.append_assoc, List.take_left' (by rw [List.length_take, hx]; omega)]
  have l1 : row1.length = G * sz := by
    rw [e1, hv]; simp only [List.length_append, List.length_take, List.length_drop, l0, hv]; omega
  have t1 : row1.take ((i + 1) * sz) = xs.take (i * sz) ++ vs := by
    rw [e1, t0, q1, List.take_left' (by simp only [List.length_append, List.length_take, hx, hv]; omega)]
  have l2 : row2.length = G * sz := by
    rw [e2, hd]; simp only [List.length_append, List.length_take, List.length_drop, l1, hd, hx]; omega
  refine ⟨l0, l1, l2, ?_⟩
  rw [e2, t1, hd, List.take_left' (by simp only [List.length_append, List.length_take, List.length_drop, hx, hv]; omega)]
theorem grow_list1 (xs vs z1 z2 : List Value) (n i G : Nat) (hx : xs.length = n) (hv : vs.length = 1) (hi : i ≤ n) (h1 : z1.length = n + 1 - i) (h2 : z2.length = G - (n + 1)) (hG : n + 1 ≤ G) (row row1 row2 : List Value)
    (e0 : row = xs.take i ++ z1 ++ z2) (e1 : row1 = row.take i ++ vs ++ row.drop (i + vs.length))
    (e2 : row2 = row1.take (i + 1) ++ xs.drop i ++ row1.drop (i + 1 + (xs.drop i).length)) :
    row.length = G ∧ row1.length = G ∧ row2.length = G ∧ row2.take (n + 1) = xs.take i ++ vs ++ xs.drop i := by
  simpa using grow_list xs vs z1 z2 n i 1 G (by simpa using hx) hv hi (by simpa using h1) (by simpa using h2) hG row row1 row2 (by simpa using e0) (by simpa using e1) (by simpa using e2)
theorem zero_len (z : Array Value) (n : Nat) : (Builtin.zeroCells z n).toList.length = n * z.size := by simp [Builtin.zeroCells]
set_option maxRecDepth 8000 in
set_option maxHeartbeats 3200000 in
/-- There is no room, and it is not the end. -/
theorem ins_grow {g vb : Nat} {cur vcur : Array Value} {T : TypeId} (hg : w.heap[g]? = some (.cells cur 47 (0, 0))) (hvb : w.heap[vb]? = some (.cells vcur T (0, 0))) (hs : cur.size = c) (hn : n ≤ 1000000) (hnc : n ≤ c) (hi : i < n) (hroom : c < n + 1) (ht : cur.toList.take (n) = xs) (hxl : xs.length = n) (hvt : vcur.toList.take 1 = vs) (hvl : vs.length = 1) (h1x : ∀ v ∈ xs, v.oneCell' = true) (h1v : ∀ v ∈ vs, v.oneCell' = true) :
    Calls Try.prog 53 #[.slice (some ⟨g, 0, none⟩) n c, .int .i64 i, .slice (some ⟨vb, 0, none⟩) 1 vc] w fun e w' => ∃ G : Nat, e = .returned (.slice (some ⟨w.heap.size, 0, none⟩) (n + 1) G) ∧ n + 1 ≤ G ∧ G ≤ maxLen ∧ (∃ cur2 : Array Value, w'.heap[w.heap.size]? = some (.cells cur2 47 (0, 0)) ∧ cur2.size = G ∧ cur2.toList.take ((n + 1)) = xs.take (i) ++ vs ++ xs.drop (i)) ∧ Fr No w w' := by
  have hmx : maxLen ≤ 9223372036854775807 := by decide
  have hmx2 : 9223372036854775807 ≤ maxLen := by decide
  obtain ⟨i0, hi0, hzz⟩ := Option.map_eq_some_iff.1 info_u32
  simp only [Prod.mk.injEq] at hzz
  obtain ⟨hz0, hz1, hz2⟩ := hzz
  have hinf : (Try.prog.info? 47).map (·.size) = some 1 := by rw [hi0]; simp [hz1]
  have hgl : g < w.heap.size := Ob.lt (show Ob w g cur 47 from hg)
  have hvl2 : vb < w.heap.size := Ob.lt (show Ob w vb vcur T from hvb)
  have hxc : ∀ j v, xs[j]? = some v → w.cell? ⟨g, j, none⟩ = some v := fun j v hj => by
    rw [← ht, List.getElem?_take] at hj
    split at hj
    · exact Ob.cell (show Ob w g cur 47 from hg) j (by simpa using hj)
    · cases hj
  have hold : (Builtin.firstCells i0.size i (.slice (some ⟨g, 0, none⟩) i c)).run Try.prog w.drew = .ok (xs.take (i)).toArray w.drew := by
    rw [hz1]
    exact run_firstCells_some w.drew 1 i ⟨g, 0, none⟩ i c (xs.take (i)) (by rw [List.length_take, hxl]; omega) (fun j v hj => by
      rw [add_lit, Nat.zero_add]
      rw [List.getElem?_take] at hj
      split at hj
      · exact hxc j v hj
      · cases hj)
  have hik : i + (n + 1 - i) = n + 1 := by omega
  have hra := Lib.run_append_grow_zeros w 78 3 78 47 i0 _ .i64 .i64 Try.underlying78 Try.underlying3 hi0 hz0 (some ⟨g, 0, none⟩) i c (xs.take (i)) hold (n + 1 - i) (by omega) (by omega) (by omega) (by omega) (by rw [hz2]; omega) (by rw [hz2, hik]; exact growslice_fits hroom (by omega))
  rw [hik] at hra
  have hGn : n + 1 ≤ grownCap w (n + 1) c 47 := grownCap_ge w _ _ _
  have hGm : grownCap w (n + 1) c 47 ≤ maxLen := grownCap_le_maxLen w (n + 1) c 47 (by omega)
  generalize grownCap w (n + 1) c 47 = G at *
  obtain ⟨z1, hzl1⟩ : ∃ z1, z1 = (Builtin.zeroCells (Value.int .u32 0).cells (n + 1 - i)).toList := ⟨_, rfl⟩
  obtain ⟨z2, hzl2⟩ : ∃ z2, z2 = (Builtin.zeroCells (Value.int .u32 0).cells (G - (n + 1))).toList := ⟨_, rfl⟩
  obtain ⟨row, hrow⟩ : ∃ row : List Value, row = xs.take (i) ++ z1 ++ z2 := ⟨_, rfl⟩
  have hrowA : (xs.take (i)).toArray ++ Builtin.zeroCells (Value.int .u32 0).cells (n + 1 - i) ++ Builtin.zeroCells (Value.int .u32 0).cells (G - (n + 1)) = row.toArray := by
    apply Array.ext'
    simp [hrow, hzl1, hzl2]
  rw [hrowA] at hra
  obtain ⟨row1, hrow1⟩ : ∃ row1 : List Value, row1 = row.take (i) ++ vs ++ row.drop (i + vs.length) := ⟨_, rfl⟩
  obtain ⟨cs, hcs⟩ : ∃ cs, cs = xs.drop (i) := ⟨_, rfl⟩
  obtain ⟨row2, hrow2⟩ : ∃ row2 : List Value, row2 = row1.take ((i + 1)) ++ cs ++ row1.drop ((i + 1) + cs.length) := ⟨_, rfl⟩
  obtain ⟨k0, k1, k2, k3⟩ := grow_list1 xs vs z1 z2 n i G hxl hvl (by omega) (by rw [hzl1, zero_len]; exact Nat.mul_one _) (by rw [hzl2, zero_len]; exact Nat.mul_one _) hGn row row1 row2 hrow hrow1 (by rw [hrow2, hcs])
  have hcl : cs.length = (n - i) := by rw [hcs, List.length_drop, hxl]
  have hN : (w.drew.alloc (.cells row.toArray 47)).heap[w.heap.size]? = some (.cells row.toArray 47 (0, 0)) := Ob.new w.drew row.toArray 47
  have hV : (w.drew.alloc (.cells row.toArray 47)).heap[vb]? = some (.cells vcur T (0, 0)) := Ob.alloc (Ob.drew (show Ob w vb vcur T from hvb)) _
  have hX : (w.drew.alloc (.cells row.toArray 47)).heap[g]? = some (.cells cur 47 (0, 0)) := Ob.alloc (Ob.drew (show Ob w g cur 47 from hg)) _
  have hF0 : Fr No w (w.drew.alloc (.cells row.toArray 47)) := (Fr.refl No w).drew.alloc _
  generalize w.drew.alloc (.cells row.toArray 47) = w1 at *
  have hrun1 := run_copy_1 (P := Try.prog) w1 78 36 3 47 w.heap.size (i) (n + 1 - i) (G - i) ⟨vb, 0, none⟩ 1 vc 1 row.toArray 47 vs Try.underlying78 hinf hN (by simp only [Nat.min_def]; split <;> omega) (by rw [hvl]) (fun j v hj => by
    rw [add_lit]
    rw [← hvt, List.getElem?_take] at hj
    split at hj
    · exact Ob.cell (show Ob w1 vb vcur T from hV) (0 + j) (by simpa using hj)
    · cases hj) (by rw [hvl]; simp [k0]; omega) h1v
  rw [List.toList_toArray, ← hrow1] at hrun1
  have hN1 : (w1.setRow w.heap.size row1.toArray).heap[w.heap.size]? = some (.cells row1.toArray 47 (0, 0)) := setRow_heap w1 w.heap.size _ _ _ _ hN
  have hX1 : (w1.setRow w.heap.size row1.toArray).heap[g]? = some (.cells cur 47 (0, 0)) := by rw [← hX]; exact setRow_other w1 w.heap.size g _ (by omega)
  have hF1 : Fr No w (w1.setRow w.heap.size row1.toArray) := Fr_setRow hF0 (.inr (Nat.le_refl _)) _
  generalize w1.setRow w.heap.size row1.toArray = w2 at *
  have hrun2 := run_copy_1 (P := Try.prog) w2.drew 78 78 3 47 w.heap.size ((i + 1)) (n + 1 - (i + 1)) (G - (i + 1)) ⟨g, i, none⟩ (n - i) (c - i) (n - i) row1.toArray 47 cs Try.underlying78 hinf hN1 (by simp only [Nat.min_def]; split <;> omega) hcl (fun j v hj => by
    rw [add_lit]
    have hj2 : xs[i + j]? = some v := by rw [hcs, List.getElem?_drop] at hj; exact hj
    rw [← ht, List.getElem?_take] at hj2
    split at hj2
    · exact Ob.cell (show Ob w2.drew g cur 47 from hX1) (i + j) (by simpa using hj2)
    · cases hj2) (by rw [hcl]; simp [k1]; omega) (fun v hv => h1x v (by rw [hcs] at hv; exact List.mem_of_mem_drop hv))
  rw [List.toList_toArray, ← hrow2] at hrun2
  have Hg2 := Lib.hid (show (w2.drew.setRow w.heap.size row2.toArray).heap[w.heap.size]? = some (.cells row2.toArray 47 (0, 0)) from setRow_heap w2.drew w.heap.size _ _ _ _ hN1)
  have Hf2 := Lib.hid (show Fr No w (w2.drew.setRow w.heap.size row2.toArray) from Fr_setRow hF1.drew (.inr (Nat.le_refl _)) _)
  have Hk2 := Lib.hid k2
  have Hk3 := Lib.hid k3
  have hr0 : (appSem #[78, 3] 78 #[.slice (some ⟨g, 0, none⟩) i c, .int .i64 ((n + 1 - i : Nat) : Int)]).run Try.prog w = .ok (.slice (some ⟨w.heap.size, 0, none⟩) (n + 1) G) w1 := hra
  have hr1 : (cpSem #[78, 36] 3 #[.slice (some ⟨w.heap.size, i, none⟩) (n + 1 - i) (G - i), .slice (some ⟨vb, 0, none⟩) 1 vc]).run Try.prog w1 = .ok (goInt ((1 : Nat) : Int)) w2 := hrun1
  have hr2 : (cpSem #[78, 78] 3 #[.slice (some ⟨w.heap.size, (i + 1), none⟩) (n + 1 - (i + 1)) (G - (i + 1)), .slice (some ⟨g, i, none⟩) (n - i) (c - i)]).run Try.prog w2.drew = .ok (goInt ((n - i : Nat) : Int)) (w2.drew.setRow w.heap.size row2.toArray) := hrun2
  have HG := Lib.hid (show n + 1 ≤ G ∧ G ≤ maxLen from ⟨hGn, hGm⟩)
  clear hra hrun1 hrun2 hN hV hX hF0 hN1 hX1 hF1 k0 k1 k2 k3 hrow hrow1 hrow2 hrowA hzl1 hzl2 hcs hcl hold hxc hg hvb ht hvt h1x h1v hi0 hz0 hz1 hz2
  generalize w2.drew.setRow w.heap.size row2.toArray = w3 at *
  generalize goInt ((n - i : Nat) : Int) = y1 at *
  generalize goInt ((1 : Nat) : Int) = y2 at *
  generalize hwz : w.heap.size = g2 at *
  have Hwz := Lib.hid hwz
  clear hwz
  have hin : (n : Int) + 1 - (i : Int) = ((n + 1 - i : Nat) : Int) := by omega
  rw [show n + 1 - (i + 1) = n - i by omega] at hr2
  have hw1 : IntKind.i64.wrap ((i : Int) + 1) = (i : Int) + 1 := IntWalk.i64_in _ (by omega)
  have hw2 : (0 : Int) ≤ (i : Int) + 1 ∧ (i : Int) + 1 ≤ (n : Int) + 1 := by omega
  have hw3 : ((i : Int) + 1).toNat = i + 1 := by omega
  have hw4 : ¬ G = i + 1 := by omega
  have hw5 : ¬ c = i := by omega
  have hw6 : (0 : Int) ≤ (i : Int) ∧ (i : Int) ≤ (n : Int) := by omega
  have hw7 : ¬ G = i := by omega
  go_enter Try.func53, Try.ntmps53
  go_wp2
  (refine wp_region_held_drew (S := fun w' => n ≤ 1000000) (by kernel_rfl) ?_ (fun hHeld => ?_); focus ((try dsimp only); exact hn; done))
  ((refine wpAnyH_take (i := 0) (v := ?_) rfl (by kernel_rfl) (by kernel_rfl) (by kernel_rfl) (fun _ _ _ h => h) (Or.inl ⟨by rfl, ?_⟩) (by assumption) ?_; rotate_left; focus (intro w hSw; (try dsimp only at hSw); go_simp; (try with_reducible rfl); done)); (try simp only [Act.put, List.setIfInBounds_toArray, List.set_cons_zero, List.set_cons_succ, List.getElem_toArray, List.getElem_cons_zero, List.getElem_cons_succ]); (refine wpAnyH_take (i := 1) (v := ?_) rfl (by kernel_rfl) (by kernel_rfl) (by kernel_rfl) (fun _ _ _ h => h) (Or.inl ⟨by rfl, ?_⟩) (by assumption) ?_; rotate_left; focus (intro w hSw; (try dsimp only at hSw); go_simp; (try with_reducible rfl); done)); (try simp only [Act.put, List.setIfInBounds_toArray, List.set_cons_zero, List.set_cons_succ, List.getElem_toArray, List.getElem_cons_zero, List.getElem_cons_succ]); (refine wpAnyH_take (i := 2) (v := ?_) rfl (by kernel_rfl) (by kernel_rfl) (by kernel_rfl) (fun _ _ _ h => h) (Or.inl ⟨by rfl, ?_⟩) (by assumption) ?_; rotate_left; focus (intro w hSw; (try dsimp only at hSw); go_simp; (try with_reducible rfl); done)); (try simp only [Act.put, List.setIfInBounds_toArray, List.set_cons_zero, List.set_cons_succ, List.getElem_toArray, List.getElem_cons_zero, List.getElem_cons_succ]); (refine wpAnyH_take (i := 3) (v := ?_) rfl (by kernel_rfl) (by kernel_rfl) (by kernel_rfl) (fun _ _ _ h => h) (Or.inl ⟨by rfl, ?_⟩) (by assumption) ?_; rotate_left; focus (intro w hSw; (try dsimp only at hSw); go_simp; (try with_reducible rfl); done)); (try simp only [Act.put, List.setIfInBounds_toArray, List.set_cons_zero, List.set_cons_succ, List.getElem_toArray, List.getElem_cons_zero, List.getElem_cons_succ]))
  (refine wpAnyH_take (i := 4) (v := ?_) rfl (by kernel_rfl) (by kernel_rfl) (by kernel_rfl) (fun _ _ _ h => h) (Or.inl ⟨by rfl, ?_⟩) (by assumption) ?_; rotate_left; focus (intro w hSw; (try dsimp only at hSw); go_simp; (try simp only [hw1, if_pos hw2, hw3, if_neg hw4, add_lit]); (try with_reducible rfl); done)); (try simp only [Act.put, List.setIfInBounds_toArray, List.set_cons_zero, List.set_cons_succ, List.getElem_toArray, List.getElem_cons_zero, List.getElem_cons_succ])
  ((refine wpAnyH_take (i := 5) (v := ?_) rfl (by kernel_rfl) (by kernel_rfl) (by kernel_rfl) (fun _ _ _ h => h) (Or.inl ⟨by rfl, ?_⟩) (by assumption) ?_; rotate_left; focus (intro w hSw; (try dsimp only at hSw); go_simp; (try with_reducible rfl); done)); (try simp only [Act.put, List.setIfInBounds_toArray, List.set_cons_zero, List.set_cons_succ, List.getElem_toArray, List.getElem_cons_zero, List.getElem_cons_succ]); (refine wpAnyH_take (i := 6) (v := ?_) rfl (by kernel_rfl) (by kernel_rfl) (by kernel_rfl) (fun _ _ _ h => h) (Or.inl ⟨by rfl, ?_⟩) (by assumption) ?_; rotate_left; focus (intro w hSw; (try dsimp only at hSw); go_simp; (try with_reducible rfl); done)); (try simp only [Act.put, List.setIfInBounds_toArray, List.set_cons_zero, List.set_cons_succ, List.getElem_toArray, List.getElem_cons_zero, List.getElem_cons_succ]))
  (refine wpAnyH_take (i := 7) (v := ?_) rfl (by kernel_rfl) (by kernel_rfl) (by kernel_rfl) (fun _ _ _ h => h) (Or.inl ⟨by rfl, ?_⟩) (by assumption) ?_; rotate_left; focus (intro w hSw; (try dsimp only at hSw); go_simp; (try simp only [if_pos hw6, if_neg hw5, add_lit]); (try with_reducible rfl); done)); (try simp only [Act.put, List.setIfInBounds_toArray, List.set_cons_zero, List.set_cons_succ, List.getElem_toArray, List.getElem_cons_zero, List.getElem_cons_succ])
  (refine wpAnyH_ready (rs := [8]) (by kernel_rfl) (by simp) ?_; refine AllReadyH.cons rfl (fun K hK => ?_) AllReadyH.nil; (try simp only [Act.put, List.setIfInBounds_toArray, List.set_cons_zero, List.set_cons_succ, List.getElem_toArray, List.getElem_cons_zero, List.getElem_cons_succ]); go_simp; refine hK.out _ _ ?_ (fun hHeld => ?_); focus ((try dsimp only); exact hn; done)); (clear hK K); (try simp only [Act.put, List.setIfInBounds_toArray, List.set_cons_zero, List.set_cons_succ, List.getElem_toArray, List.getElem_cons_zero, List.getElem_cons_succ])
  (refine wpAnyH_done (by kernel_rfl) ?_ _)
  go_wp2
  go_ret
  exact ⟨G, rfl, HG.out.1, HG.out.2, ⟨row2.toArray, Hg2.out, by simpa using Hk2.out, by simpa using Hk3.out⟩, Hf2.out⟩
set_option maxRecDepth 8000 in
set_option maxHeartbeats 1600000 in
/-- An insertion of one element, on any road. -/
theorem ins_any (hO : w.ownsRow base 47 1 (.slice A n c) n xs) (hV : w.ownsRow bv 47 1 (.slice V 1 vc) 1 vs) (hne : (Value.slice V 1 vc).ownBlock ≠ (Value.slice A n c).ownBlock) (hbase : base ≤ w.heap.size) (hi : i ≤ n) (hn : n ≤ 1000000) (h1x : ∀ v ∈ xs, v.oneCell' = true) (h1v : ∀ v ∈ vs, v.oneCell' = true) :
    Calls Try.prog 53 #[.slice A n c, .int .i64 i, .slice V 1 vc] w fun e w' => ∃ A1 c1, e = .returned (.slice A1 (n + 1) c1) ∧ w'.ownsRow base 47 1 (.slice A1 (n + 1) c1) (n + 1) (xs.take (i) ++ vs ++ xs.drop (i)) ∧ Fr (fun k => (Value.slice A n c).ownBlock = some k) w w' ∧ ((Value.slice A1 (n + 1) c1).ownBlock = (Value.slice A n c).ownBlock ∨ (Value.slice A1 (n + 1) c1).ownBlock = some w.heap.size) := by
  have hxl : xs.length = n := by simpa using hO.1
  have hvl : vs.length = 1 := hV.1
  obtain ⟨hnc, hcm⟩ := own_cap hO
  have hmx : maxLen ≤ 9223372036854775807 := by decide
  by_cases he : i = n
  · subst he
    obtain ⟨A1, c1, w1, hrun, hown, hgr, hat⟩ := app_eq (P := Try.prog) (w := w) base 78 47 (.int .u32 0) 1 4 Try.underlying78 info_u32 rfl (by decide) (by decide) hO V 1 vc vs (by rw [hvl]) (Rc.of_own hV) h1v (by omega) hbase
    have hrun : (appSem #[78, 36] 78 #[.slice A i c, .slice V 1 vc]).run Try.prog w = .ok (.slice A1 (i + 1) c1) w1 := (app_types Try.underlying78 Try.underlying36 w _ _ _ _ _ _).trans hrun
    have Hown := Lib.hid hown
    have Hgr := Lib.hid (grown_fr hgr)
    have Hat := Lib.hid hat
    clear hown hgr hat hO hV
    go_enter Try.func53, Try.ntmps53
    go_wp2
    all_goals
      go_ret
      (try subst_vars)
      refine ⟨A1, c1, rfl, ?_, Hgr.out, Hat.out⟩
      rw [List.take_of_length_le (by omega), List.drop_of_length_le (by omega), List.append_nil]
      exact Hown.out
  · have hlt : i < n := by omega
    rcases hO.2 with ⟨h7, h8⟩ | ⟨g, cap, cur, h7, hb, hg, hx1, hx2, hsz, ht⟩
    · omega
    rcases hV.2 with ⟨h9, h10⟩ | ⟨vb, vcap, vcur, h9, _, hvb, _, _, _, hvt⟩
    · omega
    injection h7 with e1 e2 e3
    injection h9 with e4 e5 e6
    subst e1; subst e3; subst e4; subst e6
    rw [Nat.mul_one] at hsz ht hvt
    have hvg : vb ≠ g := fun e => hne (by simp [Value.ownBlock, e])
    by_cases hroom : n + 1 ≤ c
    · refine (ins_shift hg hvb hvg hsz hn hcm hlt hroom ht hxl hvt hvl h1x h1v).mono ?_
      rintro e w' ⟨rfl, ⟨cur2, q1, q2, q3⟩, hf⟩
      exact ⟨_, _, rfl, Frg.own q1 hb hroom hcm q2 q3, hf.mono (fun k e => by simp [Value.ownBlock, e]), .inl rfl⟩
    · refine (ins_grow hg hvb hsz hn hnc hlt (by omega) ht hxl hvt hvl h1x h1v).mono ?_
      rintro e w' ⟨G, rfl, hG1, hG2, ⟨cur2, q1, q2, q3⟩, hf⟩
      exact ⟨_, _, rfl, Frg.own q1 hbase hG1 hG2 q2 q3, hf.mono (fun k e => e.elim), .inr rfl⟩
end
/-- append where there is room: the row. -/
theorem run_append_row {P : Program} (w : World) (t ty e : TypeId) (sz : Nat) (ht : P.underlying t = some (.slice e)) (hs : (P.info? e).map (·.size) = some sz) (g i c m c2 : Nat) (a : Addr) (cur : Array Value) (T : TypeId) (cs : List Value)
    (hg : w.heap[g]? = some (.cells cur T (0, 0))) (hroom : i + m ≤ c) (hl : cs.length = m * sz) (hsrc : ∀ j v, cs[j]? = some v → w.cell? (a.add j) = some v) (hfit : i * sz + cs.length ≤ cur.size) (h1 : ∀ v ∈ cs, v.oneCell' = true) :
    (Builtin.append_ #[t, t] ty #[.slice (some ⟨g, 0, none⟩) i c, .slice (some a) m c2]).run P w = .ok (.slice (some ⟨g, 0, none⟩) (i + m) c) (w.setRow g (cur.toList.take (i * sz) ++ cs ++ cur.toList.drop (i * sz + cs.length)).toArray) := by
  have hld := run_loadCells_list (P := P) w a cs hsrc
  have hst := run_storeCells_at P g (i * sz) T cs 0 cur w hg (by simpa using hfit) h1
  rw [hl] at hld
  cases hq : P.info? e with
  | none => simp [hq] at hs
  | some i0 =>
    have hi : i0.size = sz := by simpa [hq] using hs
    simp [Builtin.append_, run_underlying ht, Builtin.lenOf, Builtin.firstCells, sizeOf, typeInfo, hq, hi, hroom, hld, add_lit, hst]
theorem cut_list (cur xs z : List Value) (n i sz : Nat) (hc : cur.take (n * sz) = xs) (hx : xs.length = n * sz) (hi : i < n) (hl : n * sz ≤ cur.length) (hz : z.length = sz) (cur1 cur2 : List Value)
    (h1 : cur1 = cur.take (i * sz) ++ xs.drop ((i + 1) * sz) ++ cur.drop (i * sz + (xs.drop ((i + 1) * sz)).length))
    (h2 : cur2 = cur1.take ((n - 1) * sz) ++ z ++ cur1.drop ((n - 1) * sz + 1 * sz)) :
    cur1.length = cur.length ∧ cur2.length = cur.length ∧ cur2.take ((n - 1) * sz) = xs.take (i * sz) ++ xs.drop ((i + 1) * sz) := by
  obtain ⟨q, rfl⟩ : ∃ q, n = q + 1 := ⟨n - 1, by omega⟩
  have q1 : (i + 1) * sz = i * sz + sz := by rw [Nat.add_mul, Nat.one_mul]
  have q2 : (q + 1) * sz = q * sz + sz := by rw [Nat.add_mul, Nat.one_mul]
  have q3 : i * sz ≤ q * sz := Nat.mul_le_mul_right _ (by omega)
  rw [q2] at hl hx
  have hd : (xs.drop ((i + 1) * sz)).length = q * sz - i * sz := by rw [List.length_drop, hx, q1]; omega
  have l1 : cur1.length = cur.length := by rw [h1, hd]; simp; omega
  have ht : cur.take (i * sz) = xs.take (i * sz) := by rw [← hc, List.take_take, Nat.min_eq_left (by omega)]
  have t1 : cur1.take (q * sz) = xs.take (i * sz) ++ xs.drop ((i + 1) * sz) := by
    rw [h1, ht, List.take_left' (by rw [List.length_append, hd, List.length_take, hx]; omega)]
  rw [Nat.add_sub_cancel, Nat.one_mul] at h2
  rw [Nat.add_sub_cancel]
  refine ⟨l1, ?_, ?_⟩
  · rw [h2]; simp [hz]; omega
  · rw [h2, List.append_assoc, List.take_left' (by rw [List.length_take]; omega), t1]
theorem run_append_1 {P : Program} (w : World) (t ty e : TypeId) (ht : P.underlying t = some (.slice e)) (hs : (P.info? e).map (·.size) = some 1) (g i c m c2 : Nat) (a : Addr) (cur : Array Value) (T : TypeId) (cs : List Value)
    (hg : w.heap[g]? = some (.cells cur T (0, 0))) (hroom : i + m ≤ c) (hl : cs.length = m) (hsrc : ∀ j v, cs[j]? = some v → w.cell? (a.add j) = some v) (hfit : i + cs.length ≤ cur.size) (h1 : ∀ v ∈ cs, v.oneCell' = true) :
    (Builtin.append_ #[t, t] ty #[.slice (some ⟨g, 0, none⟩) i c, .slice (some a) m c2]).run P w = .ok (.slice (some ⟨g, 0, none⟩) (i + m) c) (w.setRow g (cur.toList.take i ++ cs ++ cur.toList.drop (i + cs.length)).toArray) := by
  have h := run_append_row (P := P) w t ty e 1 ht hs g i c m c2 a cur T cs hg hroom (by simpa using hl) hsrc (by simpa using hfit) h1
  rw [Nat.mul_one] at h
  exact h
theorem cut_list1 (cur xs z : List Value) (n i : Nat) (hc : cur.take n = xs) (hx : xs.length = n) (hi : i < n) (hl : n ≤ cur.length) (hz : z.length = 1) (cur1 cur2 : List Value)
    (h1 : cur1 = cur.take i ++ xs.drop (i + 1) ++ cur.drop (i + (xs.drop (i + 1)).length))
    (h2 : cur2 = cur1.take (n - 1) ++ z ++ cur1.drop (n - 1 + 1)) :
    cur1.length = cur.length ∧ cur2.length = cur.length ∧ cur2.take (n - 1) = xs.take i ++ xs.drop (i + 1) := by
  simpa using cut_list cur xs z n i 1 (by simpa using hc) (by simpa using hx) hi (by simpa using hl) hz cur1 cur2 (by simpa using h1) (by simpa using h2)
theorem zero_u32 (w : World) : (zeroValue 47).run Try.prog w = .ok (.int .u32 0) w := by
  obtain ⟨i0, hi0, hzz⟩ := Option.map_eq_some_iff.1 info_u32
  simp only [Prod.mk.injEq] at hzz
  simp [zeroValue, typeInfo, hi0, hzz.1]
section
variable {w : World} {A : Option Addr} {n c i base : Nat} {xs : List Value}
set_option maxRecDepth 8000 in
set_option maxHeartbeats 3200000 in
theorem del_any (hO : w.ownsRow base 47 1 (.slice A n c) n xs) (hi : i < n) (hn : n ≤ 1000000) (h1x : ∀ v ∈ xs, v.oneCell' = true) (zj : Int) (hzj : zj = (i : Int) + 1) :
    Calls Try.prog 54 #[.slice A n c, .int .i64 i, .int .i64 zj] w fun e w' => e = .returned (.slice A (n - 1) c) ∧ w'.ownsRow base 47 1 (.slice A (n - 1) c) (n - 1) (xs.take (i) ++ xs.drop ((i + 1))) ∧ Fr (fun k => (Value.slice A n c).ownBlock = some k) w w' := by
  subst hzj
  have hxl : xs.length = n := by simpa using hO.1
  obtain ⟨hnc, hcm⟩ := own_cap hO
  have hmx : maxLen ≤ 9223372036854775807 := by decide
  rcases hO.2 with ⟨h7, h8⟩ | ⟨g, cap, cur, h7, hb, hg, hx1, hx2, hsz, ht⟩
  · omega
  injection h7 with e1 e2 e3
  subst e1; subst e3
  have hinf : (Try.prog.info? 47).map (·.size) = some 1 := by
    obtain ⟨i0, hi0, hzz⟩ := Option.map_eq_some_iff.1 info_u32
    simp only [Prod.mk.injEq] at hzz
    rw [hi0]; simp [hzz.2.1]
  rw [Nat.mul_one] at hsz ht
  have hcurl : cur.toList.length = c := by rw [Array.length_toList, hsz]
  have hxc : ∀ j v, xs[j]? = some v → w.cell? ⟨g, j, none⟩ = some v := fun j v hj => by
    rw [← ht, List.getElem?_take] at hj
    split at hj
    · exact Ob.cell (show Ob w g cur 47 from hg) j (by simpa using hj)
    · cases hj
  obtain ⟨cs, hcs⟩ : ∃ cs, cs = xs.drop ((i + 1)) := ⟨_, rfl⟩
  have hcl : cs.length = (n - (i + 1)) := by rw [hcs, List.length_drop, hxl]
  obtain ⟨cur1, hcur1⟩ : ∃ cur1 : List Value, cur1 = cur.toList.take (i) ++ cs ++ cur.toList.drop (i + cs.length) := ⟨_, rfl⟩
  obtain ⟨z1, hzl1⟩ : ∃ z1, z1 = (Builtin.zeroCells (Value.int .u32 0).cells 1).toList := ⟨_, rfl⟩
  obtain ⟨cur2, hcur2⟩ : ∃ cur2 : List Value, cur2 = cur1.take ((n - 1)) ++ z1 ++ cur1.drop ((n - 1) + 1) := ⟨_, rfl⟩
  obtain ⟨k1, k2, k3⟩ := cut_list1 cur.toList xs z1 n i ht hxl hi (by rw [hcurl]; omega) (by rw [hzl1, zero_len]; rfl) cur1 cur2 (by rw [hcur1, hcs]) hcur2
  obtain ⟨A2, hA2⟩ : ∃ A2, (if c = i + 1 then (some ⟨g, 0, none⟩ : Option Addr) else some ⟨g, (i + 1), none⟩) = A2 := ⟨_, rfl⟩
  have hra : (appSem #[78, 78] 78 #[.slice (some ⟨g, 0, none⟩) i c, .slice A2 (n - (i + 1)) (c - (i + 1))]).run Try.prog w.drew = .ok (.slice (some ⟨g, 0, none⟩) (n - 1) c) (w.drew.setRow g cur1.toArray) := by
    by_cases hm : i + 1 = n
    · obtain ⟨inf, hi1, hzz⟩ := Option.map_eq_some_iff.1 info_u32
      have hc0 : cs = [] := List.eq_nil_of_length_eq_zero (by rw [hcl, hm]; simp)
      have hcc : cur1.toArray = cur := by
        apply Array.ext'
        rw [hcur1, hc0]
        simp
      rw [hcc, setRow_self w.drew g cur 47 (0, 0) hg]
      rw [show n - (i + 1) = 0 by omega, show n - 1 = i by omega]
      refine run_append_nothing (P := Try.prog) w.drew 78 78 78 47 inf Try.underlying78 hi1 _ i c (by omega) _ ?_
      rw [← hA2]
      split
      · exact Src.ofSlice (P := Try.prog) w.drew Try.underlying78 _ 0 _ [] (by simp) (fun j u hj => by simp at hj) (fun u hu => by simp at hu)
      · exact Src.ofSlice (P := Try.prog) w.drew Try.underlying78 _ 0 _ [] (by simp) (fun j u hj => by simp at hj) (fun u hu => by simp at hu)
    · have h := run_append_1 (P := Try.prog) w.drew 78 78 47 Try.underlying78 hinf g i c (n - (i + 1)) (c - (i + 1)) ⟨g, (i + 1), none⟩ cur 47 cs hg (by omega) hcl (fun j v hj => by
        rw [add_lit]
        have hj2 : xs[(i + 1) + j]? = some v := by rw [hcs, List.getElem?_drop] at hj; exact hj
        exact hxc _ v hj2) (by rw [hcl, hsz]; omega) (fun v hv => h1x v (by rw [hcs] at hv; exact List.mem_of_mem_drop hv))
      rw [← hcur1, show i + (n - (i + 1)) = n - 1 by omega] at h
      rw [← hA2, if_neg (by omega)]
      exact h
  have hg1 : (w.drew.setRow g cur1.toArray).heap[g]? = some (.cells cur1.toArray 47 (0, 0)) := setRow_heap w.drew g cur _ _ _ hg
  have hf1 : Fr (fun k => k = g) w (w.drew.setRow g cur1.toArray) := Fr_setRow (Fr.refl (fun k => k = g) w).drew (.inl rfl) _
  generalize w.drew.setRow g cur1.toArray = w1 at *
  have hrc := run_clear_wide (P := Try.prog) w1 78 47 0 _ Try.underlying78 zero_u32 (by decide) g ((n - 1)) 1 (c - (n - 1)) (by decide) 47 cur1.toArray hg1 (by simp [Value.cells, k1, hcurl]; omega)
  have hz2 : (Value.int .u32 0).cells.size = 1 := rfl
  rw [List.toList_toArray, hz2, ← hzl1, ← hcur2] at hrc
  have Hg2 := Lib.hid (show (w1.setRow g cur2.toArray).heap[g]? = some (.cells cur2.toArray 47 (0, 0)) from setRow_heap w1 g _ _ _ _ hg1)
  have Hf2 := Lib.hid (show Fr (fun k => k = g) w (w1.setRow g cur2.toArray) from Fr_setRow hf1 (.inl rfl) _)
  have Hk2 := Lib.hid k2
  have Hk3 := Lib.hid k3
  have hrd : (clSem #[78] 0 #[.slice (some ⟨g, (n - 1), none⟩) (n - (n - 1)) (c - (n - 1))]).run Try.prog w1 = .ok (.tuple #[]) (w1.setRow g cur2.toArray) := by rw [show n - (n - 1) = 1 by omega]; exact hrc
  have Hcurl := Lib.hid hcurl
  clear hrc hg1 hf1 k1 k2 k3 hcur1 hcur2 hzl1 hcs hcl hcurl hxc hg ht h1x hO hxl
  generalize w1.setRow g cur2.toArray = w2 at *
  have hw1 : IntKind.i64.wrap ((i : Int) + 1) = (i : Int) + 1 := IntWalk.i64_in _ (by omega)
  have hw2 : (0 : Int) ≤ (i : Int) + 1 ∧ (i : Int) + 1 ≤ (n : Int) := by omega
  have hw3 : ((i : Int) + 1).toNat = i + 1 := by omega
  go_enter Try.func54, Try.ntmps54
  go_wp2
  have hw4 : (0 : Int) ≤ (i : Int) ∧ (i : Int) ≤ (c : Int) := by omega
  (refine wp_region_held_drew (S := fun w' => n ≤ 1000000) (by kernel_rfl) ?_ (fun hHeld => ?_); focus ((try dsimp only); exact hn; done))
  ((refine wpAnyH_take (i := 0) (v := ?_) rfl (by kernel_rfl) (by kernel_rfl) (by kernel_rfl) (fun _ _ _ h => h) (Or.inl ⟨by rfl, ?_⟩) (by assumption) ?_; rotate_left; focus (intro w hSw; (try dsimp only at hSw); go_simp; (try with_reducible rfl); done)); (try simp only [Act.put, List.setIfInBounds_toArray, List.set_cons_zero, List.set_cons_succ, List.getElem_toArray, List.getElem_cons_zero, List.getElem_cons_succ]); (refine wpAnyH_take (i := 1) (v := ?_) rfl (by kernel_rfl) (by kernel_rfl) (by kernel_rfl) (fun _ _ _ h => h) (Or.inl ⟨by rfl, ?_⟩) (by assumption) ?_; rotate_left; focus (intro w hSw; (try dsimp only at hSw); go_simp; (try with_reducible rfl); done)); (try simp only [Act.put, List.setIfInBounds_toArray, List.set_cons_zero, List.set_cons_succ, List.getElem_toArray, List.getElem_cons_zero, List.getElem_cons_succ]))
  (refine wpAnyH_take (i := 2) (v := ?_) rfl (by kernel_rfl) (by kernel_rfl) (by kernel_rfl) (fun _ _ _ h => h) (Or.inl ⟨by rfl, ?_⟩) (by assumption) ?_; rotate_left; focus (intro w hSw; (try dsimp only at hSw); go_simp; (try simp only [if_pos hw4, ite_self, add_lit]); (try with_reducible rfl); done)); (try simp only [Act.put, List.setIfInBounds_toArray, List.set_cons_zero, List.set_cons_succ, List.getElem_toArray, List.getElem_cons_zero, List.getElem_cons_succ])
  ((refine wpAnyH_take (i := 3) (v := ?_) rfl (by kernel_rfl) (by kernel_rfl) (by kernel_rfl) (fun _ _ _ h => h) (Or.inl ⟨by rfl, ?_⟩) (by assumption) ?_; rotate_left; focus (intro w hSw; (try dsimp only at hSw); go_simp; (try with_reducible rfl); done)); (try simp only [Act.put, List.setIfInBounds_toArray, List.set_cons_zero, List.set_cons_succ, List.getElem_toArray, List.getElem_cons_zero, List.getElem_cons_succ]); (refine wpAnyH_take (i := 4) (v := ?_) rfl (by kernel_rfl) (by kernel_rfl) (by kernel_rfl) (fun _ _ _ h => h) (Or.inl ⟨by rfl, ?_⟩) (by assumption) ?_; rotate_left; focus (intro w hSw; (try dsimp only at hSw); go_simp; (try with_reducible rfl); done)); (try simp only [Act.put, List.setIfInBounds_toArray, List.set_cons_zero, List.set_cons_succ, List.getElem_toArray, List.getElem_cons_zero, List.getElem_cons_succ]))
  (refine wpAnyH_take (i := 5) (v := ?_) rfl (by kernel_rfl) (by kernel_rfl) (by kernel_rfl) (fun _ _ _ h => h) (Or.inl ⟨by rfl, ?_⟩) (by assumption) ?_; rotate_left; focus (intro w hSw; (try dsimp only at hSw); go_simp; (try simp only [if_pos hw2, hw3, add_lit, hA2]); (try with_reducible rfl); done)); (try simp only [Act.put, List.setIfInBounds_toArray, List.set_cons_zero, List.set_cons_succ, List.getElem_toArray, List.getElem_cons_zero, List.getElem_cons_succ])
  (refine wpAnyH_ready (rs := [6]) (by kernel_rfl) (by simp) ?_; refine AllReadyH.cons rfl (fun K hK => ?_) AllReadyH.nil; (try simp only [Act.put, List.setIfInBounds_toArray, List.set_cons_zero, List.set_cons_succ, List.getElem_toArray, List.getElem_cons_zero, List.getElem_cons_succ]); go_simp; refine hK.out _ _ ?_ (fun hHeld => ?_); focus ((try dsimp only); exact hn; done)); (clear hK K); (try simp only [Act.put, List.setIfInBounds_toArray, List.set_cons_zero, List.set_cons_succ, List.getElem_toArray, List.getElem_cons_zero, List.getElem_cons_succ])
  (refine wpAnyH_take (i := 7) (v := ?_) rfl (by kernel_rfl) (by kernel_rfl) (by kernel_rfl) (fun _ _ _ h => h) (Or.inl ⟨by rfl, ?_⟩) (by assumption) ?_; rotate_left; focus (intro w hSw; (try dsimp only at hSw); go_simp; (try with_reducible rfl); done)); (try simp only [Act.put, List.setIfInBounds_toArray, List.set_cons_zero, List.set_cons_succ, List.getElem_toArray, List.getElem_cons_zero, List.getElem_cons_succ])
  (refine wpAnyH_done (by kernel_rfl) ?_ _)
  go_wp2
  go_ret
  have h3 := Hk3.out
  refine ⟨rfl, ⟨?_, .inr ⟨g, c, cur2.toArray, rfl, hb, Hg2.out, by omega, hcm, by simp [Hk2.out, Hcurl.out], by simpa using h3⟩⟩, Hf2.out.mono (fun k e => by simp [Value.ownBlock, e])⟩
  rw [← h3, List.length_take, Hk2.out, Hcurl.out]
  omega
end
end Go.Proofs.Ytifpigcgkpmheaa.Ic
