/- Layer 5: the program's map: a new one, a copy. -/
import Derived.Test.YthnahdoagibckaaFs05
import Derived.Deep.OwnRows
import Derived.OwnWalk
namespace Go.Proofs.Ythnahdoagibckaa.Fn05
open Go.RowKit Go.Proofs.Ythnahdoagibckaa.Pl05 Go.Proofs.Ythnahdoagibckaa.Pm05 Go.Proofs.Ythnahdoagibckaa.Base Go.Proofs.Ythnahdoagibckaa.Wa05 Go.Proofs.Ythnahdoagibckaa.Fr05
set_option linter.unusedVariables false
set_option linter.unusedSimpArgs false

theorem info_words : (Try.prog.info? 48).map (fun i => (i.zero, i.size, i.bytes)) = some (some (.int .u64 0), 1, 8) := by kernel_rfl
/-- Is a map of so many pages to be had, so many of them taken? -/
def newOk (p f : Int) : Prop := 1 ≤ p ∧ p ≤ 1000 ∧ 0 ≤ f ∧ f ≤ p
instance (p f : Int) : Decidable (newOk p f) := inferInstanceAs (Decidable (_ ∧ _))
def newB (p f : Nat) : List Bool := (List.range p).map (fun i => decide (i < f))
theorem newB_len (p f : Nat) : (newB p f).length = p := by simp [newB]
theorem newB_get (p f i : Nat) (h : i < p) : (newB p f).getD i false = decide (i < f) := by simp [newB, List.getD_eq_getElem?_getD, h]
theorem newB_succ (p f : Nat) (h : f < p) : flipB (newB p f) f = newB p (f + 1) := by
  unfold flipB
  rw [newB_get p f f h]
  apply List.ext_getElem
  · simp [newB]
  · intro i h1 h2
    rw [List.getElem_set]
    simp [newB] at h1 ⊢
    by_cases e : f = i
    · subst e; simp
    · have : i < f + 1 ↔ i < f := by omega
      simp [this, e]
theorem new_rel (p : Nat) (n : Nat) (hn : n = (p + 63) / 64) : Rel (List.replicate n 0) (newB p 0) := by
  refine ⟨by simp [newB_len, hn], fun m => ?_, fun x hx => ?_⟩
  · unfold bitAt
    have e : (List.replicate n 0).getD (m / 64) 0 = 0 := by
      rw [List.getD_eq_getElem?_getD, List.getElem?_replicate]; split <;> rfl
    rw [e]
    simp [newB, List.getD_eq_getElem?_getD, List.getElem?_map]
    cases h : (List.range p)[m]? <;> simp
  · rw [List.eq_of_mem_replicate hx]; decide
theorem run_words (n : Int) (h0 : 0 ≤ n) (h1 : n ≤ 1000000) (W : World) : (Instr.makeSlice 49 (.int .i64 n) (.int .i64 n)).run Try.prog W = .ok (.slice (some ⟨W.heap.size, 0, none⟩) n.toNat n.toNat) (W.alloc (.cells (madeCells #[.int .u64 0] n.toNat) 48)) := by
  obtain ⟨m, rfl⟩ := Int.eq_ofNat_of_zero_le h0
  rw [Int.toNat_natCast]
  exact run_make_row' 49 48 (.int .u64 0) 8 Try.underlying49 info_words rfl .i64 .i64 m (by omega) (by omega) W
theorem own_words (W : World) (n : Nat) (hn : n ≤ 1000000) : (W.alloc (.cells (madeCells #[.int .u64 0] n) 48)).ownsRow 0 48 1 (.slice (some ⟨W.heap.size, 0, none⟩) n n) n (words (List.replicate n 0)) := by
  have h := World.ownsRow_lit (base := 0) (e := 48) (size := 1) W (madeCells #[.int .u64 0] n) n (Nat.zero_le _) (by simp only [maxLen]; omega) (by simp [size_madeCells])
  have hl : (madeCells #[Value.int .u64 0] n).toList = words (List.replicate n 0) := by
    apply List.ext_getElem
    · simp [words, madeCells]
    · intro i h1 h2
      simp [words, madeCells, Nat.mod_one]
  rwa [hl] at h
theorem new_start (p n : Nat) (w : World) (hn : n = (p + 63) / 64) (h1 : 1 ≤ p) (h2 : p ≤ 1000) :
    Map ((w.alloc (.cells (madeCells #[.int .u64 0] n) 48)).alloc (.cells #[.int .i64 (p : Int), .slice (some ⟨w.heap.size, 0, none⟩) n n] 51)) (w.heap.size + 1) w.heap.size (newB p 0) := by
  have ho := (own_words w n (by omega)).alloc (.cells #[.int .i64 (p : Int), .slice (some ⟨w.heap.size, 0, none⟩) n n] 51)
  have hb := Ob.new (w.alloc (.cells (madeCells #[.int .u64 0] n) 48)) #[.int .i64 (p : Int), .slice (some ⟨w.heap.size, 0, none⟩) n n] 51
  have hs : (w.alloc (.cells (madeCells #[.int .u64 0] n) 48)).heap.size = w.heap.size + 1 := by simp
  rw [hs] at hb
  refine ⟨n, List.replicate n 0, ?_, ?_, by omega, new_rel p n hn, by rw [newB_len]; exact h2, by rw [newB_len]; exact h1⟩
  · rw [newB_len, List.length_replicate]; exact hb
  · rw [List.length_replicate]; exact ho
theorem new_bad (p f : Int) (w : World) (h : ¬ newOk p f) :
    Calls Try.prog 14 #[.int .i64 p, .int .i64 f] w fun e w' => e = .returned (.tuple #[.pointer none, .int .i64 1]) ∧ w = w' := by
  unfold newOk at h
  by_cases h1 : p < 1
  · go_enter Try.func14, Try.ntmps14
    clear h
    go_wp2
    go_ret2
    exact ⟨rfl, rfl⟩
  · by_cases h2 : 1000 < p
    · go_enter Try.func14, Try.ntmps14
      clear h
      go_wp2
      go_ret2
      exact ⟨rfl, rfl⟩
    · by_cases h3 : f < 0
      · go_enter Try.func14, Try.ntmps14
        clear h
        go_wp2
        go_ret2
        exact ⟨rfl, rfl⟩
      · have h4 : p < f := by omega
        go_enter Try.func14, Try.ntmps14
        clear h
        go_wp2
        go_ret2
        exact ⟨rfl, rfl⟩
set_option maxHeartbeats 400000 in
theorem new_ok (p f : Nat) (w : World) (h : newOk p f) :
    Calls Try.prog 14 #[.int .i64 p, .int .i64 f] w fun e w' => ∃ g b, e = .returned (.tuple #[.pointer (some ⟨g, 0, none⟩), .int .i64 0]) ∧ Map w' g b (newB p f) ∧ w.heap.size ≤ g ∧ w.heap.size ≤ b ∧ Fr No w w' := by
  obtain ⟨h1, h2, h3, h4⟩ := h
  have n1 : ¬ ((p : Int) < 1) := by omega
  have n2 : ¬ (1000 < (p : Int)) := by omega
  have n3 : ¬ ((f : Int) < 0) := by omega
  have n4 : ¬ ((p : Int) < f) := by omega
  obtain ⟨n, hn⟩ : ∃ n : Nat, n = (p + 63) / 64 := ⟨_, rfl⟩
  have hmk : ∀ W : World, (Instr.makeSlice 49 (.int .i64 (((p : Int) + 64 - 1) / 64)) (.int .i64 (((p : Int) + 64 - 1) / 64))).run Try.prog W = .ok (.slice (some ⟨W.heap.size, 0, none⟩) n n) (W.alloc (.cells (madeCells #[.int .u64 0] n) 48)) := by
    intro W
    have e : ((p : Int) + 64 - 1) / 64 = (n : Int) := by omega
    rw [e]
    simpa using run_words n (by omega) (by omega) W
  have hmk2 : ∀ W : World, (Instr.makeSlice 49 (.int .i64 (((p : Int) + 63) / 64)) (.int .i64 (((p : Int) + 63) / 64))).run Try.prog W = .ok (.slice (some ⟨W.heap.size, 0, none⟩) n n) (W.alloc (.cells (madeCells #[.int .u64 0] n) 48)) := by
    intro W
    have e : ((p : Int) + 63) / 64 = (n : Int) := by omega
    rw [e]
    simpa using run_words n (by omega) (by omega) W
  have Hn := Lib.hid hn
  clear hn
  go_enter Try.func14, Try.ntmps14
  go_wp2
  go_loopw [32] (fun i wr => ∃ k : Nat, k ≤ f ∧ i = .int .i64 k ∧ Hid (Map wr (w.heap.size + 1) w.heap.size (newB p k) ∧ Fr No w wr)) (fun i _ => f - (intOf i).toNat)
  case atStart => exact ⟨0, Nat.zero_le _, rfl, Lib.hid ⟨new_start p n w Hn.out (by omega) (by omega), ((Fr.refl No w).alloc _).alloc _⟩⟩
  case round =>
    obtain ⟨k, hk, rfl, Hr⟩ := hrel
    by_cases hlt : k < f
    · go_wp2_with (go_at_call 27; refine (turn_at _ _ _ _ _ Hr.out.1 (by omega) (by rw [newB_len]; omega)).mono ?_; rintro e w' ⟨rfl, hm', hf'⟩)
      have e5 : ((k : Int)).toNat = k := by omega
      rw [e5, newB_succ p k (by omega)] at hm'
      have Hm := Lib.hid (And.intro hm' (Hr.out.2.trans hf' (fun x hx => .inr (by omega))))
      clear hm' hf' e5
      go_roundw
      case rel => exact ⟨k + 1, by omega, by go_num, Hm⟩
      case measure => simp [intOf]; omega
    · obtain rfl : k = f := by omega
      go_wp2
      go_ret2
      exact ⟨_, _, rfl, Hr.out.1, by omega, by omega, Hr.out.2⟩
end Go.Proofs.Ythnahdoagibckaa.Fn05
