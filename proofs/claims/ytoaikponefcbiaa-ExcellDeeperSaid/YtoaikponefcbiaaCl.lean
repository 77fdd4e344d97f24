/- slices.Clone of a point. -/
import Derived.Test.YtoaikponefcbiaaAs
import Derived.Test.YtoaikponefcbiaaKi08
namespace Go.Proofs.Ytoaikponefcbiaa.Cl
open Go.RowKit Go.Proofs.Ytoaikponefcbiaa.Base Go.Proofs.Ytoaikponefcbiaa.App Go.Proofs.Ytoaikponefcbiaa.Str Go.Proofs.Ytoaikponefcbiaa.Ky Go.Proofs.Ytoaikponefcbiaa.Bx Go.Proofs.Ytoaikponefcbiaa.As Go.Proofs.Ytoaikponefcbiaa.Ki08
set_option linter.unusedVariables false
set_option linter.unusedSimpArgs false
attribute [local go_sem ↓ high] builtin_app
theorem Fr.of_grown {W w1 : World} {A : Option Addr} {n c B : Nat} {base e size m : Nat} {xs : List Value} (hg : W.grownBy w1 (Value.slice A n c).ownBlock) (ho : W.ownsRow base e size (.slice A n c) m xs) (hB : ∀ k, (Value.slice A n c).ownBlock = some k → B ≤ k) {w : World} (hw : B = w.heap.size) (f : Fr No w W) : Fr No w w1 :=
  f.grown hg (fun k hk => .inr (by have := hB k hk; omega))
section
variable {w : World} {A : Option Addr} {n c : Nat} {ks : List Nat}
set_option maxHeartbeats 800000 in
theorem clone_any (hk : Kv w A n c ks) (hn : n ≤ 1000000) :
    Calls Try.prog 40 #[.slice A n c] w fun e w' => ∃ A1 c1, e = .returned (.slice A1 n c1) ∧ w'.ownsRow w.heap.size 50 1 (.slice A1 n c1) n (u32s ks) ∧ Fr No w w' := by
  have hnil := fun (W : World) (x : Option Addr) (l m : Nat) => Lib.run_eql_slice_nil (P := Try.prog) W 23 50 x l m 0 0 Try.underlying23
  rcases A with _ | a
  · have h0 : n = 0 := by
      rcases Nat.eq_zero_or_pos n with h | h
      · exact h
      · obtain ⟨b, off, h1, _⟩ := hk.at_ (by have := hk.len; omega)
        cases h1
    subst h0
    have hks : ks = [] := List.eq_nil_of_length_eq_zero hk.len.symm
    subst hks
    clear hk
    go_enter Try.func40, Try.ntmps40
    go_wp2
    go_ret
    exact ⟨none, 0, rfl, World.ownsRow_nil _ _ _ _, Fr.refl _ _⟩
  · have hl := hk.len
    have hmx : (1000000 : Nat) * 4 ≤ 140737488355328 := by decide
    obtain ⟨A1, c1, w1, hrun, hown, hgr, hat⟩ := app_eq (P := Try.prog) (w := w.alloc (.cells #[] 50)) w.heap.size 23 50 (.int .u32 0) 1 4 Try.underlying23 info_u32 rfl (by decide) (by decide) (own_empty w w.heap.size 50 1 (Nat.le_refl _)) (some a) n c (u32s ks) (by rw [u32s_len]; omega) ((hk.alloc _).rc) (u32s_one ks) (by omega) (by simp)
    have hf : Fr No w w1 := ((Fr.refl No w).alloc _).grown hgr (fun k hk => .inr (by simp [Value.ownBlock] at hk; omega))
    rw [Nat.zero_add] at hrun hown
    have Hown := Lib.hid hown
    have Hf := Lib.hid hf
    clear hown hgr hat hf hk hl
    go_enter Try.func40, Try.ntmps40
    go_wp2
    go_ret
    exact ⟨A1, c1, rfl, Hown.out, Hf.out⟩
end
end Go.Proofs.Ytoaikponefcbiaa.Cl
