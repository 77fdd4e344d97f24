/- Go's slices.Delete of one element out of a list of the call's own. -/
import Derived.Test.YteckbcfigklkpaaIa
import Derived.Deep.Upon
namespace Go.Proofs.Yteckbcfigklkpaa.Ib
open Go.RowKit Go.Lib Go.Proofs.Yteckbcfigklkpaa.Base Go.Proofs.Yteckbcfigklkpaa.App Go.Proofs.Yteckbcfigklkpaa.Str Go.Proofs.Yteckbcfigklkpaa.Ky Go.Proofs.Yteckbcfigklkpaa.Bx Go.Proofs.Yteckbcfigklkpaa.Bo Go.Proofs.Yteckbcfigklkpaa.As Go.Proofs.Yteckbcfigklkpaa.Rv Go.Proofs.Yteckbcfigklkpaa.Ro Go.Proofs.Yteckbcfigklkpaa.Rk Go.Proofs.Yteckbcfigklkpaa.Ia
set_option linter.unusedVariables false
set_option linter.unusedSimpArgs false
attribute [local go_sem ↓ high] builtin_app builtin_cp builtin_cl
/-- append where there is room: the row. -/
theorem run_append_row {P : Program} (w : World) (t ty e : TypeId) (sz : Nat) (ht : P.underlying t = some (.slice e)) (hs : (P.info? e).map (·.size) = some sz) (g i c m c2 : Nat) (a : Addr) (cur : Array Value) (T : TypeId) (cs : List Value)
    (hg : w.heap[g]? = some (.cells cur T (0, 0))) (hroom : i + m ≤ c) (hl : cs.length = m * sz) (hsrc : ∀ j v, cs[j]? = some v → w.cell? (a.add j) = some v) (hfit : i * sz + cs.length ≤ cur.size) (h1 : ∀ v ∈ cs, v.oneCell' = true) :
    (Builtin.append_ #[t, t] ty #[.slice (some ⟨g, 0, none⟩) i c, .slice (some a) m c2]).run P w = .ok (.slice (some ⟨g, 0, none⟩) (i + m) c) (w.setRow g (cur.toList.take (i * sz) ++ cs ++ cur.toList.drop (i * sz + cs.length)).toArray) := by
  have hld := run_loadCells_list (P := P) w a cs hsrc
  have hst := run_storeCells_at P g (i * sz) T cs 0 cur w hg (by simpa using hfit) h1
  rw [hl] at hld
  cases hq : P.info? e with
  | none => simp [hq] at hs
  | some i0 =>
    have hi : i0.size = sz := by simpa [hq] using hs
    simp [Builtin.append_, run_underlying ht, Builtin.lenOf, Builtin.firstCells, sizeOf, typeInfo, hq, hi, hroom, hld, add_lit, hst]
theorem cut_list (cur xs z : List Value) (n i sz : Nat) (hc : cur.take (n * sz) = xs) (hx : xs.length = n * sz) (hi : i < n) (hl : n * sz ≤ cur.length) (hz : z.length = sz) (cur1 cur2 : List Value)
    (h1 : cur1 = cur.take (i * sz) ++ xs.drop ((i + 1) * sz) ++ cur.drop (i * sz + (xs.drop ((i + 1) * sz)).length))
    (h2 : cur2 = cur1.take ((n - 1) * sz) ++ z ++ cur1.drop ((n - 1) * sz + 1 * sz)) :
    cur1.length = cur.length ∧ cur2.length = cur.length ∧ cur2.take ((n - 1) * sz) = xs.take (i * sz) ++ xs.drop ((i + 1) * sz) := by
  obtain ⟨q, rfl⟩ : ∃ q, n = q + 1 := ⟨n - 1, by omega⟩
  have q1 : (i + 1) * sz = i * sz + sz := by rw [Nat.add_mul, Nat.one_mul]
  have q2 : (q + 1) * sz = q * sz + sz := by rw [Nat.add_mul, Nat.one_mul]
  have q3 : i * sz ≤ q * sz := Nat.mul_le_mul_right _ (by omega)
  rw [q2] at hl hx
  have hd : (xs.drop ((i + 1) * sz)).length = q * sz - i * sz := by rw [List.length_drop, hx, q1]; omega
  have l1 : cur1.length = cur.length := by rw [h1, hd]; simp; omega
  have ht : cur.take (i * sz) = xs.take (i * sz) := by rw [← hc, List.take_take, Nat.min_eq_left (by omega)]
  have t1 : cur1.take (q * sz) = xs.take (i * sz) ++ xs.drop ((i + 1) * sz) := by
    rw [h1, ht, List.take_left' (by rw [List.length_append, hd, List.length_take, hx]; omega)]
  rw [Nat.add_sub_cancel, Nat.one_mul] at h2
  rw [Nat.add_sub_cancel]
  refine ⟨l1, ?_, ?_⟩
  · rw [h2]; simp [hz]; omega
  · rw [h2, List.append_assoc, List.take_left' (by rw [List.length_take]; omega), t1]
theorem zero_rec (w : World) : (zeroValue 33).run Try.prog w = .ok (.agg #[.slice none 0 0, .string ByteArray.empty]) w := by
  obtain ⟨i0, hi0, hzz⟩ := Option.map_eq_some_iff.1 info_rec
  simp only [Prod.mk.injEq] at hzz
  simp [zeroValue, typeInfo, hi0, hzz.1]
section
variable {w : World} {A : Option Addr} {n c i base : Nat} {xs : List Value}
set_option maxRecDepth 8000 in
set_option maxHeartbeats 3200000 in
theorem del_any (hO : w.ownsRow base 33 2 (.slice A n c) n xs) (hi : i < n) (hn : n ≤ 1000000) (h1x : ∀ v ∈ xs, v.oneCell' = true) (zj : Int) (hzj : zj = (i : Int) + 1) :
    Calls Try.prog 43 #[.slice A n c, .int .i64 i, .int .i64 zj] w fun e w' => e = .returned (.slice A (n - 1) c) ∧ w'.ownsRow base 33 2 (.slice A (n - 1) c) (n - 1) (xs.take (i * 2) ++ xs.drop ((i + 1) * 2)) ∧ Fr (fun k => (Value.slice A n c).ownBlock = some k) w w' := by
  subst hzj
  have hxl := hO.1
  obtain ⟨hnc, hcm⟩ := own_cap hO
  have hmx : maxLen ≤ 9223372036854775807 := by decide
  rcases hO.2 with ⟨h7, h8⟩ | ⟨g, cap, cur, h7, hb, hg, hx1, hx2, hsz, ht⟩
  · omega
  injection h7 with e1 e2 e3
  subst e1; subst e3
  have hinf : (Try.prog.info? 33).map (·.size) = some 2 := by
    obtain ⟨i0, hi0, hzz⟩ := Option.map_eq_some_iff.1 info_rec
    simp only [Prod.mk.injEq] at hzz
    rw [hi0]; simp [hzz.2.1]
  have hcurl : cur.toList.length = c * 2 := by rw [Array.length_toList, hsz]
  have hxc : ∀ j v, xs[j]? = some v → w.cell? ⟨g, j, none⟩ = some v := fun j v hj => by
    rw [← ht, List.getElem?_take] at hj
    split at hj
    · exact Ob.cell (show Ob w g cur 33 from hg) j (by simpa using hj)
    · cases hj
  obtain ⟨cs, hcs⟩ : ∃ cs, cs = xs.drop ((i + 1) * 2) := ⟨_, rfl⟩
  have hcl : cs.length = (n - (i + 1)) * 2 := by rw [hcs, List.length_drop, hxl, Nat.sub_mul]
  obtain ⟨cur1, hcur1⟩ : ∃ cur1 : List Value, cur1 = cur.toList.take (i * 2) ++ cs ++ cur.toList.drop (i * 2 + cs.length) := ⟨_, rfl⟩
  obtain ⟨z1, hzl1⟩ : ∃ z1, z1 = (Builtin.zeroCells (Value.agg #[.slice none 0 0, .string ByteArray.empty]).cells 1).toList := ⟨_, rfl⟩
  obtain ⟨cur2, hcur2⟩ : ∃ cur2 : List Value, cur2 = cur1.take ((n - 1) * 2) ++ z1 ++ cur1.drop ((n - 1) * 2 + 1 * 2) := ⟨_, rfl⟩
  obtain ⟨k1, k2, k3⟩ := cut_list cur.toList xs z1 n i 2 ht hxl hi (by rw [hcurl]; omega) (by rw [hzl1, zero_len]; rfl) cur1 cur2 (by rw [hcur1, hcs]) hcur2
  obtain ⟨A2, hA2⟩ : ∃ A2, (if c = i + 1 then (some ⟨g, 0, none⟩ : Option Addr) else some ⟨g, (i + 1) * 2, none⟩) = A2 := ⟨_, rfl⟩
  have hra : (appSem #[40, 40] 40 #[.slice (some ⟨g, 0, none⟩) i c, .slice A2 (n - (i + 1)) (c - (i + 1))]).run Try.prog w.drew = .ok (.slice (some ⟨g, 0, none⟩) (n - 1) c) (w.drew.setRow g cur1.toArray) := by
    by_cases hm : i + 1 = n
    · obtain ⟨inf, hi1, hzz⟩ := Option.map_eq_some_iff.1 info_rec
      have hc0 : cs = [] := List.eq_nil_of_length_eq_zero (by rw [hcl, hm]; simp)
      have hcc : cur1.toArray = cur := by
        apply Array.ext'
        rw [hcur1, hc0]
        simp
      rw [hcc, setRow_self w.drew g cur 33 (0, 0) hg]
      rw [show n - (i + 1) = 0 by omega, show n - 1 = i by omega]
      refine run_append_nothing (P := Try.prog) w.drew 40 40 40 33 inf Try.underlying40 hi1 _ i c (by omega) _ ?_
      rw [← hA2]
      split
      · exact Src.ofSlice (P := Try.prog) w.drew Try.underlying40 _ 0 _ [] (by simp) (fun j u hj => by simp at hj) (fun u hu => by simp at hu)
      · exact Src.ofSlice (P := Try.prog) w.drew Try.underlying40 _ 0 _ [] (by simp) (fun j u hj => by simp at hj) (fun u hu => by simp at hu)
    · have h := run_append_row (P := Try.prog) w.drew 40 40 33 2 Try.underlying40 hinf g i c (n - (i + 1)) (c - (i + 1)) ⟨g, (i + 1) * 2, none⟩ cur 33 cs hg (by omega) hcl (fun j v hj => by
        rw [add_lit]
        have hj2 : xs[(i + 1) * 2 + j]? = some v := by rw [hcs, List.getElem?_drop] at hj; exact hj
        exact hxc _ v hj2) (by rw [hcl, hsz]; omega) (fun v hv => h1x v (by rw [hcs] at hv; exact List.mem_of_mem_drop hv))
      rw [← hcur1, show i + (n - (i + 1)) = n - 1 by omega] at h
      rw [← hA2, if_neg (by omega)]
      exact h
  have hg1 : (w.drew.setRow g cur1.toArray).heap[g]? = some (.cells cur1.toArray 33 (0, 0)) := setRow_heap w.drew g cur _ _ _ hg
  have hf1 : Fr (fun k => k = g) w (w.drew.setRow g cur1.toArray) := Fr_setRow (Fr.refl (fun k => k = g) w).drew (.inl rfl) _
  generalize w.drew.setRow g cur1.toArray = w1 at *
  have hrc := run_clear_wide (P := Try.prog) w1 40 33 0 _ Try.underlying40 zero_rec (by decide) g ((n - 1) * 2) 1 (c - (n - 1)) (by decide) 33 cur1.toArray hg1 (by simp [Value.cells, k1, hcurl]; omega)
  have hz2 : (Value.agg #[.slice none 0 0, .string ByteArray.empty]).cells.size = 2 := rfl
  rw [List.toList_toArray, hz2, ← hzl1, ← hcur2] at hrc
  have Hg2 := Lib.hid (show (w1.setRow g cur2.toArray).heap[g]? = some (.cells cur2.toArray 33 (0, 0)) from setRow_heap w1 g _ _ _ _ hg1)
  have Hf2 := Lib.hid (show Fr (fun k => k = g) w (w1.setRow g cur2.toArray) from Fr_setRow hf1 (.inl rfl) _)
  have Hk2 := Lib.hid k2
  have Hk3 := Lib.hid k3
  have hrd : (clSem #[40] 0 #[.slice (some ⟨g, (n - 1) * 2, none⟩) (n - (n - 1)) (c - (n - 1))]).run Try.prog w1 = .ok (.tuple #[]) (w1.setRow g cur2.toArray) := by rw [show n - (n - 1) = 1 by omega]; exact hrc
  have Hcurl := Lib.hid hcurl
  clear hrc hg1 hf1 k1 k2 k3 hcur1 hcur2 hzl1 hcs hcl hcurl hxc hg ht h1x hO hxl
  generalize w1.setRow g cur2.toArray = w2 at *
  have hw1 : IntKind.i64.wrap ((i : Int) + 1) = (i : Int) + 1 := IntWalk.i64_in _ (by omega)
  have hw2 : (0 : Int) ≤ (i : Int) + 1 ∧ (i : Int) + 1 ≤ (n : Int) := by omega
  have hw3 : ((i : Int) + 1).toNat = i + 1 := by omega
  go_enter Try.func43, Try.ntmps43
  go_wp2
  have hw4 : (0 : Int) ≤ (i : Int) ∧ (i : Int) ≤ (c : Int) := by omega
  (refine wp_region_held_drew (S := fun w' => n ≤ 1000000) (by kernel_rfl) ?_ (fun hHeld => ?_); focus ((try dsimp only); exact hn; done))
  ((refine wpAnyH_take (i := 0) (v := ?_) rfl (by kernel_rfl) (by kernel_rfl) (by kernel_rfl) (fun _ _ _ h => h) (Or.inl ⟨by rfl, ?_⟩) (by assumption) ?_; rotate_left; focus (intro w hSw; (try dsimp only at hSw); go_simp; (try with_reducible rfl); done)); (try simp only [Act.put, List.setIfInBounds_toArray, List.set_cons_zero, List.set_cons_succ, List.getElem_toArray, List.getElem_cons_zero, List.getElem_cons_succ]); (refine wpAnyH_take (i := 1) (v := ?_) rfl (by kernel_rfl) (by kernel_rfl) (by kernel_rfl) (fun _ _ _ h => h) (Or.inl ⟨by rfl, ?_⟩) (by assumption) ?_; rotate_left; focus (intro w hSw; (try dsimp only at hSw); go_simp; (try with_reducible rfl); done)); (try simp only [Act.put, List.setIfInBounds_toArray, List.set_cons_zero, List.set_cons_succ, List.getElem_toArray, List.getElem_cons_zero, List.getElem_cons_succ]))
  (refine wpAnyH_take (i := 2) (v := ?_) rfl (by kernel_rfl) (by kernel_rfl) (by kernel_rfl) (fun _ _ _ h => h) (Or.inl ⟨by rfl, ?_⟩) (by assumption) ?_; rotate_left; focus (intro w hSw; (try dsimp only at hSw); go_simp; (try simp only [if_pos hw4, ite_self, add_lit]); (try with_reducible rfl); done)); (try simp only [Act.put, List.setIfInBounds_toArray, List.set_cons_zero, List.set_cons_succ, List.getElem_toArray, List.getElem_cons_zero, List.getElem_cons_succ])
  ((refine wpAnyH_take (i := 3) (v := ?_) rfl (by kernel_rfl) (by kernel_rfl) (by kernel_rfl) (fun _ _ _ h => h) (Or.inl ⟨by rfl, ?_⟩) (by assumption) ?_; rotate_left; focus (intro w hSw; (try dsimp only at hSw); go_simp; (try with_reducible rfl); done)); (try simp only [Act.put, List.setIfInBounds_toArray, List.set_cons_zero, List.set_cons_succ, List.getElem_toArray, List.getElem_cons_zero, List.getElem_cons_succ]); (refine wpAnyH_take (i := 4) (v := ?_) rfl (by kernel_rfl) (by kernel_rfl) (by kernel_rfl) (fun _ _ _ h => h) (Or.inl ⟨by rfl, ?_⟩) (by assumption) ?_; rotate_left; focus (intro w hSw; (try dsimp only at hSw); go_simp; (try with_reducible rfl); done)); (try simp only [Act.put, List.setIfInBounds_toArray, List.set_cons_zero, List.set_cons_succ, List.getElem_toArray, List.getElem_cons_zero, List.getElem_cons_succ]))
  (refine wpAnyH_take (i := 5) (v := ?_) rfl (by kernel_rfl) (by kernel_rfl) (by kernel_rfl) (fun _ _ _ h => h) (Or.inl ⟨by rfl, ?_⟩) (by assumption) ?_; rotate_left; focus (intro w hSw; (try dsimp only at hSw); go_simp; (try simp only [if_pos hw2, hw3, add_lit, hA2]); (try with_reducible rfl); done)); (try simp only [Act.put, List.setIfInBounds_toArray, List.set_cons_zero, List.set_cons_succ, List.getElem_toArray, List.getElem_cons_zero, List.getElem_cons_succ])
  (refine wpAnyH_ready (rs := [6]) (by kernel_rfl) (by simp) ?_; refine AllReadyH.cons rfl (fun K hK => ?_) AllReadyH.nil; (try simp only [Act.put, List.setIfInBounds_toArray, List.set_cons_zero, List.set_cons_succ, List.getElem_toArray, List.getElem_cons_zero, List.getElem_cons_succ]); go_simp; refine hK.out _ _ ?_ (fun hHeld => ?_); focus ((try dsimp only); exact hn; done)); (clear hK K); (try simp only [Act.put, List.setIfInBounds_toArray, List.set_cons_zero, List.set_cons_succ, List.getElem_toArray, List.getElem_cons_zero, List.getElem_cons_succ])
  (refine wpAnyH_take (i := 7) (v := ?_) rfl (by kernel_rfl) (by kernel_rfl) (by kernel_rfl) (fun _ _ _ h => h) (Or.inl ⟨by rfl, ?_⟩) (by assumption) ?_; rotate_left; focus (intro w hSw; (try dsimp only at hSw); go_simp; (try with_reducible rfl); done)); (try simp only [Act.put, List.setIfInBounds_toArray, List.set_cons_zero, List.set_cons_succ, List.getElem_toArray, List.getElem_cons_zero, List.getElem_cons_succ])
  (refine wpAnyH_done (by kernel_rfl) ?_ _)
  go_wp2
  go_ret
  have h3 := Hk3.out
  refine ⟨rfl, ⟨?_, .inr ⟨g, c, cur2.toArray, rfl, hb, Hg2.out, by omega, hcm, by simp [Hk2.out, Hcurl.out], by simpa using h3⟩⟩, Hf2.out.mono (fun k e => by simp [Value.ownBlock, e])⟩
  rw [← h3, List.length_take, Hk2.out, Hcurl.out]
  omega
end
end Go.Proofs.Yteckbcfigklkpaa.Ib
