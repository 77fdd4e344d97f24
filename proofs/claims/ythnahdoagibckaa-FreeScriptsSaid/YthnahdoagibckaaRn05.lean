/- Layer 5: the document's map: a new one. -/
import Derived.Test.YthnahdoagibckaaRr05
namespace Go.Proofs.Ythnahdoagibckaa.Rn05
open Go.RowKit Go.Proofs.Ythnahdoagibckaa.Pl05 Go.Proofs.Ythnahdoagibckaa.Pm05 Go.Proofs.Ythnahdoagibckaa.Base Go.Proofs.Ythnahdoagibckaa.App Go.Proofs.Ythnahdoagibckaa.Str Go.Proofs.Ythnahdoagibckaa.Fr05 Go.Proofs.Ythnahdoagibckaa.Fs05 Go.Proofs.Ythnahdoagibckaa.Fn05 Go.Proofs.Ythnahdoagibckaa.Rr05
set_option linter.unusedVariables false
set_option linter.unusedSimpArgs false

theorem rnew_bad (p f : Int) (w : World) (h : ¬ newOk p f) :
    Calls Try.prog 19 #[.int .i64 p, .int .i64 f] w fun e w' => e = .returned (.tuple #[.pointer none, .int .i64 1]) ∧ w = w' := by
  unfold newOk at h
  by_cases h1 : p < 1
  · go_enter Try.func19, Try.ntmps19
    clear h
    go_wp2
    go_ret2
    exact ⟨rfl, rfl⟩
  · by_cases h2 : 1000 < p
    · go_enter Try.func19, Try.ntmps19
      clear h
      go_wp2
      go_ret2
      exact ⟨rfl, rfl⟩
    · by_cases h3 : f < 0
      · go_enter Try.func19, Try.ntmps19
        clear h
        go_wp2
        go_ret2
        exact ⟨rfl, rfl⟩
      · have h4 : p < f := by omega
        go_enter Try.func19, Try.ntmps19
        clear h
        go_wp2
        go_ret2
        exact ⟨rfl, rfl⟩
/-- What holds at a round's head: k pages are there. -/
def Grow (w wr : World) (f k : Nat) (v : Value) : Prop := Ob wr w.heap.size #[v] 55 ∧ wr.ownsRow (w.heap.size + 1) 4 1 v k (bls (newB k f)) ∧ Fr No w wr
theorem grow_start (w : World) (f : Nat) : Grow w (w.alloc (.cells #[.slice none 0 0] 55)) f 0 (.slice none 0 0) :=
  ⟨Ob.new _ _ _, World.ownsRow_nil _ _ _ _, (Fr.refl No w).alloc _⟩
theorem newB_snoc (k f : Nat) : newB k f ++ [decide (k < f)] = newB (k + 1) f := by simp [newB, List.range_succ]
theorem grow_ob {w wr w1 : World} {f k : Nat} {v v1 : Value} {o : Obj} (h : Grow w wr f k v)
    (hown : w1.ownsRow (w.heap.size + 1) 4 1 v1 (k + 1) (bls (newB k f) ++ [.bool (decide (k < f))])) (hg : (wr.alloc o).grownBy w1 v.ownBlock) (hat : v1.ownBlock = v.ownBlock ∨ v1.ownBlock = some (wr.alloc o).heap.size) :
    w1.cell? ⟨w.heap.size, 0, none⟩ = some v ∧ w1.frozen? ⟨w.heap.size, 0, none⟩ = false ∧ Hid (Grow w (w1.setCell ⟨w.heap.size, 0, none⟩ v1) f (k + 1) v1) := by
  obtain ⟨hb, ho, hf⟩ := h
  have hf1 : Fr (fun k => v.ownBlock = some k) (wr.alloc o) w1 := (Fr.refl _ _).grown hg (fun k hk => .inl hk)
  have hb1 : Ob w1 w.heap.size #[v] 55 := (hb.alloc o).fr hf1 (fun e => by have := (ho.lt _ e).1; omega)
  refine ⟨hb1.cell 0 rfl, hb1.frozen 0, hb1.set 0 v1, ?_, ?_⟩
  · have e : [Value.bool (decide (k < f))] = bls [decide (k < f)] := by simp [bls]
    rw [e] at hown
    have e2 : bls (newB k f) ++ bls [decide (k < f)] = bls (newB (k + 1) f) := by rw [← newB_snoc]; simp [bls]
    rw [e2] at hown
    exact own_move hown (fun k hk => Below.heap_setCell _ _ _ _ (by have := (hown.lt k hk).1; show k ≠ w.heap.size; omega))
  · exact ((hf.alloc o).grown hg (fun k hk => .inr (by have := (ho.lt k hk).1; omega))).setCell (.inr (Nat.le_refl _)) _
set_option maxHeartbeats 800000 in
theorem rnew_ok (p f : Nat) (w : World) (h : newOk p f) :
    Calls Try.prog 19 #[.int .i64 p, .int .i64 f] w fun e w' => ∃ g b, e = .returned (.tuple #[.pointer (some ⟨g, 0, none⟩), .int .i64 0]) ∧ RMap w' g b (newB p f) ∧ w.heap.size ≤ g ∧ w.heap.size ≤ b ∧ Fr No w w' := by
  obtain ⟨h1, h2, h3, h4⟩ := h
  have n1 : ¬ ((p : Int) < 1) := by omega
  have n2 : ¬ (1000 < (p : Int)) := by omega
  have n3 : ¬ ((f : Int) < 0) := by omega
  have n4 : ¬ ((p : Int) < f) := by omega
  go_enter Try.func19, Try.ntmps19
  go_wp2
  go_loopw [7] (fun i wr => ∃ k : Nat, k ≤ p ∧ i = .int .i64 k ∧ Hid (∃ v, Grow w wr f k v)) (fun i _ => p - (intOf i).toNat)
  case atStart => exact ⟨0, Nat.zero_le _, rfl, Lib.hid ⟨_, grow_start w f⟩⟩
  case round =>
    obtain ⟨k, hk, rfl, Hr⟩ := hrel
    by_cases hlt : k < p
    · obtain ⟨v, Hv⟩ := Hr.out
      obtain ⟨ao, co, rfl⟩ := own_slice Hv.2.1
      have c0 : wr.cell? ⟨w.heap.size, 0, none⟩ = some (.slice ao k co) := Hv.1.cell 0 rfl
      have Hg := Lib.hid Hv
      clear Hv Hr
      go_wp2_with (at_builtin; refine app_list (w.heap.size + 1) rfl (.tmp 34) (.tmp 38) 53 4 (.bool false) 1 1 rfl Try.underlying53 info_bool rfl (by decide) (by decide) (.slice ao k co) k (bls (newB k f)) rfl (Hg.out.2.1.alloc _) (some ⟨wr.heap.size, 0, none⟩) 1 1 [.bool (decide (k < f))] rfl rfl (Rc.new wr #[.bool (decide (k < f))] _) (by simp [Value.oneCell']) (by omega) (by have := Hg.out.1.lt; simp; omega) ?_; intro v1 w1 hown hgr hat; obtain ⟨a1, co1, rfl⟩ := own_slice hown; have hgn := grow_ob Hg.out hown hgr hat; obtain ⟨cg, fg, Hgn⟩ := hgn)
      clear hown hgr hat
      go_roundw
      case rel => exact ⟨k + 1, by omega, by go_num, Lib.hid ⟨_, Hgn.out⟩⟩
      case measure => simp [intOf]; omega
    · obtain rfl : k = p := by omega
      obtain ⟨v, Hv⟩ := Hr.out
      go_wp2
      go_ret2
      obtain ⟨A, c, rfl⟩ := own_slice Hv.2.1
      have hmx := own_max Hv.2.1
      rcases Hv.2.1.2 with ⟨_, h0⟩ | ⟨b, cap, cur, hv, hb, hh⟩
      · omega
      · rw [hv] at Hv
        refine ⟨w.heap.size, b, rfl, ⟨cap, ?_, ?_, by omega, by rw [newB_len]; omega, by rw [newB_len]; omega⟩, Nat.le_refl _, by omega, Hv.2.2⟩
        · rw [newB_len]; exact Hv.1
        · rw [newB_len]; exact own_base Hv.2.1 (Nat.zero_le _)
end Go.Proofs.Ythnahdoagibckaa.Rn05
