/- Records of their own: slices.Clone of a list, bucket.copied. -/
import Derived.Test.YteckbcfigklkpaaGe
import Derived.Test.YteckbcfigklkpaaGb
import Derived.StillTailTactics
namespace Go.Proofs.Yteckbcfigklkpaa.Rb
open Go.RowKit Go.Proofs.Yteckbcfigklkpaa.Pk08 Go.Proofs.Yteckbcfigklkpaa.Base Go.Proofs.Yteckbcfigklkpaa.App Go.Proofs.Yteckbcfigklkpaa.Str Go.Proofs.Yteckbcfigklkpaa.Ky Go.Proofs.Yteckbcfigklkpaa.Bx Go.Proofs.Yteckbcfigklkpaa.Bo Go.Proofs.Yteckbcfigklkpaa.As Go.Proofs.Yteckbcfigklkpaa.Pl08 Go.Proofs.Yteckbcfigklkpaa.Cl Go.Proofs.Yteckbcfigklkpaa.Rv Go.Proofs.Yteckbcfigklkpaa.Rp Go.Proofs.Yteckbcfigklkpaa.Ro Go.Proofs.Yteckbcfigklkpaa.Rk
set_option linter.unusedVariables false
set_option linter.unusedSimpArgs false
attribute [local go_sem ↓ high] builtin_app
section
variable {w : World} {A B : Option Addr} {n m c d : Nat} {rs : List Rv.Rec} {k : List Nat}
set_option maxHeartbeats 800000 in
theorem cloner_any (hr : Rv w A n c rs) (hn : n ≤ 1000000) :
    Calls Try.prog 54 #[.slice A n c] w fun e w' => ∃ A1 c1, e = .returned (.slice A1 n c1) ∧ Ow w' w.heap.size 33 (fun b => b < w.heap.size) A1 n c1 rs ∧ Fr No w w' := by
  have hnil := fun (W : World) (x : Option Addr) (l m : Nat) => Lib.run_eql_slice_nil (P := Try.prog) W 40 33 x l m 0 0 Try.underlying40
  rcases A with _ | a
  · have h0 : n = 0 := by
      rcases Nat.eq_zero_or_pos n with h | h
      · exact h
      · obtain ⟨b, off, h1, _⟩ := hr.at_ (by have := hr.len; omega)
        cases h1
    subst h0
    have hrs : rs = [] := List.eq_nil_of_length_eq_zero hr.len.symm
    subst hrs
    clear hr
    go_enter Try.func54, Try.ntmps54
    go_wp2
    go_ret
    exact ⟨none, 0, rfl, Ow.nil_ _ _ _ _, Fr.refl _ _⟩
  · have hl := hr.len
    obtain ⟨ps, hrs, hcs, hps⟩ := Rv.parts hr
    have hO : Ow (w.alloc (.cells #[] 33)) w.heap.size 33 (fun b => b < w.heap.size) (some ⟨w.heap.size, 0, none⟩) 0 0 [] := ⟨[], rfl, own_empty w w.heap.size _ 2 (Nat.le_refl _), fun p hp => by simp at hp⟩
    have fa : Fr No w (w.alloc (.cells #[] 33)) := (Fr.refl No w).alloc _
    obtain ⟨A1, c1, w1, hrun, hown, hgr, hat⟩ := app_recs (Pg := Try.prog) 40 _ 40 Try.underlying40 info_rec rfl (by decide) hO (ps := ps) (fun p hp => ((hps p hp).mono (P' := fun b => b < w.heap.size ∧ Av (some ⟨w.heap.size, 0, none⟩) b) (fun b hb => ⟨hb, fun g o e => by injection e with e; injection e with e; omega⟩)).no fa) (A := some a) (m := n) (c := c) (by rw [hl, ← hrs, recs_len]) (fun h0 => by
      obtain ⟨b, off, h1, h2⟩ := hcs h0
      exact ⟨b, off, h1, fun j u hj => cel_no (h2 j u hj) fa⟩) (by omega) (by simp)
    have hf : Fr No w w1 := fa.grown hgr (fun k hk => .inr (by simp [Value.ownBlock] at hk; omega))
    rw [Nat.zero_add] at hrun hown
    rw [List.nil_append, hrs] at hown
    have Hown := Lib.hid hown
    have Hf := Lib.hid hf
    clear hown hgr hat hf hr hl hps hcs hrs hO fa
    go_enter Try.func54, Try.ntmps54
    go_wp2
    go_ret
    exact ⟨A1, c1, rfl, Hown.out, Hf.out⟩
end
end Go.Proofs.Yteckbcfigklkpaa.Rb
