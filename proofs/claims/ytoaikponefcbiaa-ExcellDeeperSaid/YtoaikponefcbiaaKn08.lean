/- Layer 8, further: slices.Repeat of one coordinate; the box of all points. -/
import Derived.Test.YtoaikponefcbiaaKm08
import Derived.Laws.CopyOwn
import Derived.Deep.RegionLaw
namespace Go.Proofs.Ytoaikponefcbiaa.Kn08
open Go.RowKit Go.Proofs.Ytoaikponefcbiaa.Pk08 Go.Proofs.Ytoaikponefcbiaa.Base Go.Proofs.Ytoaikponefcbiaa.App Go.Proofs.Ytoaikponefcbiaa.Str Go.Proofs.Ytoaikponefcbiaa.Ky Go.Proofs.Ytoaikponefcbiaa.Kc08 Go.Proofs.Ytoaikponefcbiaa.Kd08 Go.Proofs.Ytoaikponefcbiaa.Ke08 Go.Proofs.Ytoaikponefcbiaa.Ki08 Go.Proofs.Ytoaikponefcbiaa.Kj08
set_option linter.unusedVariables false
set_option linter.unusedSimpArgs false
theorem size_u32 : (Try.prog.info? 50).map (·.size) = some 1 := by kernel_rfl
theorem six {d : Nat} (h1 : 1 ≤ d) (h2 : d ≤ 6) : d = 1 ∨ d = 2 ∨ d = 3 ∨ d = 4 ∨ d = 5 ∨ d = 6 := by omega
theorem mul64_one (d : Nat) (h1 : 1 ≤ d) (h2 : d ≤ 6) (w : World) :
    Calls Try.prog 52 #[.int .u64 1, .int .u64 (d : Int)] w fun e w' => e = .returned (.tuple #[.int .u64 0, .int .u64 (d : Int)]) ∧ w = w' := by
  rcases six h1 h2 with rfl | rfl | rfl | rfl | rfl | rfl
  all_goals
    go_enter Try.func52, Try.ntmps52
    go_wp2
    go_ret2
    refine ⟨?_, rfl⟩
    first | rfl | decide +kernel
theorem mul_one_ (d : Nat) (h1 : 1 ≤ d) (h2 : d ≤ 6) (w : World) :
    Calls Try.prog 49 #[.int .u64 1, .int .u64 (d : Int)] w fun e w' => e = .returned (.tuple #[.int .u64 0, .int .u64 (d : Int)]) ∧ w = w' := by
  go_enter Try.func49, Try.ntmps49
  go_wp2_with (go_at_call 52; ((with_reducible refine (mul64_one _ h1 h2 _).mono ?_); rintro e w' ⟨rfl, rfl⟩))
  go_ret2
  exact ⟨rfl, rfl⟩
def part (v d n : Nat) : List Value := u32s (List.replicate n v ++ List.replicate (d - n) 0)
theorem part_len (v d n : Nat) (h : n ≤ d) : (part v d n).length = d := by simp [part, u32s]; omega
theorem part_all (v d : Nat) : part v d d = u32s (List.replicate d v) := by simp [part]
theorem part_next (v d n m : Nat) (h : n + m ≤ d) : splice (part v d n) n (u32s (List.replicate m v)) = part v d (n + m) := by
  unfold splice part u32s
  rw [List.map_append, List.map_append, List.take_append_of_le_length (by simp), List.take_of_length_le (by simp), List.length_map, List.length_replicate, List.drop_append]
  simp only [List.map_replicate, List.drop_replicate, List.length_replicate]
  rw [show n - (n + m) = 0 by omega, show d - n - (n + m - n) = d - (n + m) by omega]
  simp [← List.append_assoc, List.replicate_append_replicate]
theorem part_src (v d n : Nat) (w : World) (g : Nat) (hg : w.heap[g]? = some (.cells (part v d n).toArray 50 (0, 0))) (h : min n (d - n) ≤ n) :
    ∀ j u, (u32s (List.replicate (min n (d - n)) v))[j]? = some u → w.cell? ((⟨g, 0, none⟩ : Addr).add j) = some u := by
  intro j u hj
  have hob : Ob w g (part v d n).toArray 50 := hg
  have hj' : j < min n (d - n) := by have := (List.getElem?_eq_some_iff.1 hj).1; simpa [u32s] using this
  have e : (⟨g, 0, none⟩ : Addr).add j = ⟨g, j, none⟩ := by unfold Addr.add; split <;> simp_all
  rw [e]
  apply hob.cell
  rw [List.getElem?_toArray, ← hj]
  unfold part u32s
  rw [List.map_append, List.getElem?_append_left (by simp; omega)]
  simp only [List.map_replicate, List.getElem?_replicate]
  rw [if_pos (by omega), if_pos hj']
section
variable {w : World} {A : Option Addr} {c : Nat}
set_option maxHeartbeats 800000 in
theorem repeat_one (v d : Nat) (h1 : 1 ≤ d) (h2 : d ≤ 6) (hx : Kv w A 1 c [v]) :
    Calls Try.prog 38 #[.slice A 1 c, .int .i64 (d : Int)] w fun e w' => ∃ g, e = .returned (.slice (some ⟨g, 0, none⟩) d d) ∧ w'.ownsRow w.heap.size 50 1 (.slice (some ⟨g, 0, none⟩) d d) d (u32s (List.replicate d v)) ∧ Fr No w w' := by
  have hr : ∀ W, (Instr.makeSlice 23 (.int .i64 (d : Int)) (.int .i64 (d : Int))).run Try.prog W = .ok (.slice (some ⟨W.heap.size, 0, none⟩) d d) (W.alloc (.cells (madeCells #[.int .u32 0] d) 50)) := fun W => by
    have := run_made (P := Try.prog) 23 50 (.int .u32 0) 4 Try.underlying23 info_u32 rfl (by decide) (d : Int) (by omega) (by omega) W
    rw [Int.toNat_natCast] at this
    exact this
  obtain ⟨ad, hsrc⟩ : ∃ ad, A = some ad ∧ ∀ j u, (u32s [v])[j]? = some u → w.cell? (ad.add j) = some u := by
    obtain ⟨ad, h, _⟩ := hx.rc 0 (.int .u32 (v : Int)) rfl
    exact ⟨ad, h, fun j u hj => by obtain ⟨ad', h', hc⟩ := hx.rc j u hj; rw [h] at h'; injection h' with h'; subst h'; exact hc⟩
  have hg0 : (w.alloc (.cells (madeCells #[.int .u32 0] d) 50)).heap[w.heap.size]? = some (.cells (part v d 0).toArray 50 (0, 0)) := by
    have h := Ob.new w (madeCells #[.int .u32 0] d) 50
    have e : madeCells #[Value.int .u32 0] d = (part v d 0).toArray := by
      apply Array.ext'
      apply List.ext_getElem
      · simp [madeCells, part, u32s]
      · intro i h1 h2
        simp [madeCells, part, u32s, Nat.mod_one]
    rw [← e]
    exact h
  have hsrc2 : ∃ ad, A = some ad ∧ ∀ j u, (u32s [v])[j]? = some u → (w.alloc (.cells (madeCells #[.int .u32 0] d) 50)).cell? (ad.add j) = some u := by
    have hx2 := hx.no ((Fr.refl No w).alloc (.cells (madeCells #[.int .u32 0] d) 50))
    obtain ⟨ad, h, _⟩ := hx2.rc 0 (.int .u32 (v : Int)) rfl
    exact ⟨ad, h, fun j u hj => by obtain ⟨ad', h', hc⟩ := hx2.rc j u hj; rw [h] at h'; injection h' with h'; subst h'; exact hc⟩
  have hnx : splice (part v d 0) 0 (u32s [v]) = part v d 1 := part_next v d 0 1 (by omega)
  have hmin : (u32s [v]).length = Nat.min 1 d := by
    show 1 = min 1 d
    omega
  clear hx hsrc
  go_enter Try.func38, Try.ntmps38
  go_wp2_with (first
    | (go_at_call 49; ((with_reducible refine (mul_one_ _ h1 h2 _).mono ?_); rintro e w' ⟨rfl, rfl⟩))
    | (refine wpList_copy_splice rfl (.tmp 31) (.tmp 32) 23 23 rfl 50 Try.underlying23 size_u32 (some ⟨w.heap.size, 0, none⟩) A d d 1 c rfl rfl w.heap.size 0 (part v d 0) 50 hg0 (u32s [v]) hmin (fun _ => ⟨rfl, hsrc2⟩) (by rw [part_len v d 0 (by omega)]; simp [u32s]; omega) (u32s_one _) w.heap.size w ((Fr.refl No w).alloc _).no (Nat.le_refl _) ?_; intro w1 hw1 hb1; rw [hnx] at hw1)
    | fail)
  go_loopw [8] (fun x wr => ∃ n : Nat, 1 ≤ n ∧ n ≤ d ∧ x = .int .i64 n ∧ Hid (wr.heap[w.heap.size]? = some (.cells (part v d n).toArray 50 (0, 0)) ∧ Below w.heap.size w wr)) (fun x _ => d - (intOf x).toNat)
  case atStart => exact ⟨1, Nat.le_refl _, h1, by simp [u32s, goInt], Lib.hid ⟨hw1.out, hb1⟩⟩
  case round =>
    obtain ⟨n, hn1, hn2, rfl, Hn⟩ := hrel
    by_cases hlt : n < d
    · have hdn : ¬ d = n := by omega
      have hgd : wr.drew.heap[w.heap.size]? = some (.cells (part v d n).toArray 50 (0, 0)) := Hn.out.1
      have hbd : Below w.heap.size w wr.drew := ((Fr.ofBelow (S := No) Hn.out.2).drew).no
      have hsn : ∀ j u, (u32s (List.replicate (min n (d - n)) v))[j]? = some u → wr.drew.cell? ((⟨w.heap.size, 0, none⟩ : Addr).add j) = some u := part_src v d n wr.drew w.heap.size hgd (by omega)
      have hfit : n + (u32s (List.replicate (min n (d - n)) v)).length ≤ (part v d n).length := by rw [part_len v d n hn2]; simp [u32s]; omega
      have Hpn := Lib.hid (part_next v d n (min n (d - n)) (by omega))
      have Hw := Lib.hid (show IntKind.i64.wrap ((n : Int) + ((min n (d - n) : Nat) : Int)) = ((n + min n (d - n) : Nat) : Int) by rw [IntWalk.i64_in _ (by omega)]; omega)
      have hll : (u32s (List.replicate (min n (d - n)) v)).length = min n (d - n) := by simp [u32s]
      go_wp2
      go_region_law (refine step_copy_splice rfl (.tmp 41) (.tmp 44) 23 23 rfl 50 Try.underlying23 size_u32 (some ⟨w.heap.size, n, none⟩) (some ⟨w.heap.size, 0, none⟩) (d - n) (d - n) n d (by simp [Act.eval, Act.put, hdn]) (by simp [Act.eval, Act.put]) w.heap.size n (part v d n) 50 hgd (u32s (List.replicate (min n (d - n)) v)) hll (fun _ => ⟨rfl, _, rfl, hsn⟩) hfit (u32s_one _) w.heap.size w hbd (Nat.le_refl _) ?_; intro w4 hw4 hb4)
      rw [Hw.out]
      have hw5 := hw4.out
      rw [Hpn.out] at hw5
      have hX1 : n < n + min n (d - n) ∧ n + min n (d - n) ≤ d := by omega
      clear hw4 Hpn Hw hsn hfit hll
      generalize n + min n (d - n) = X at *
      simp only [Act.put, List.getElem_toArray, List.getElem_cons_succ, List.getElem_cons_zero, Array.setIfInBounds, List.size_toArray, List.length_cons, List.length_nil, Nat.reduceAdd, Nat.reduceLT, dite_true, List.set_toArray, List.set_cons_succ, List.set_cons_zero]
      go_wp2
      go_roundw
      case rel => exact ⟨X, by omega, by omega, rfl, Lib.hid ⟨hw5, hb4⟩⟩
      case measure => simp [intOf]; omega
    · obtain rfl : n = d := by omega
      go_wp2
      go_ret
      have hg := Hn.out.1
      rw [part_all] at hg
      have hm : (6 : Nat) ≤ maxLen := by decide
      exact ⟨_, rfl, ⟨by simp [u32s], .inr ⟨w.heap.size, n, _, rfl, Nat.le_refl _, hg, Nat.le_refl _, by omega, by simp [u32s], by simp [u32s]⟩⟩, Fr.ofBelow Hn.out.2⟩
end
end Go.Proofs.Ytoaikponefcbiaa.Kn08
