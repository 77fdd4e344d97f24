/- Records of their own: slices.Clone of a list, bucket.copied. -/
import Derived.Test.YtehhmpoijonghaaGe
import Derived.Test.YtehhmpoijonghaaGb
import Derived.StillTailTactics
namespace Go.Proofs.Ytehhmpoijonghaa.Rb
open Go.RowKit Go.Proofs.Ytehhmpoijonghaa.Pk08 Go.Proofs.Ytehhmpoijonghaa.Base Go.Proofs.Ytehhmpoijonghaa.App Go.Proofs.Ytehhmpoijonghaa.Str Go.Proofs.Ytehhmpoijonghaa.Ky Go.Proofs.Ytehhmpoijonghaa.Bx Go.Proofs.Ytehhmpoijonghaa.Bo Go.Proofs.Ytehhmpoijonghaa.As Go.Proofs.Ytehhmpoijonghaa.Pl08 Go.Proofs.Ytehhmpoijonghaa.Cl Go.Proofs.Ytehhmpoijonghaa.Rv Go.Proofs.Ytehhmpoijonghaa.Rp Go.Proofs.Ytehhmpoijonghaa.Ro Go.Proofs.Ytehhmpoijonghaa.Rk
set_option linter.unusedVariables false
set_option linter.unusedSimpArgs false
attribute [local go_sem ↓ high] builtin_app
section
variable {w : World} {A B : Option Addr} {n m c d : Nat} {rs : List Rv.Rec} {k : List Nat}
set_option maxHeartbeats 800000 in
theorem cloner_any (hr : Rv w A n c rs) (hn : n ≤ 1000000) :
    Calls Try.prog 54 #[.slice A n c] w fun e w' => ∃ A1 c1, e = .returned (.slice A1 n c1) ∧ Ow w' w.heap.size 38 (fun b => b < w.heap.size) A1 n c1 rs ∧ Fr No w w' := by
  have hnil := fun (W : World) (x : Option Addr) (l m : Nat) => Lib.run_eql_slice_nil (P := Try.prog) W 22 38 x l m 0 0 Try.underlying22
  rcases A with _ | a
  · have h0 : n = 0 := by
      rcases Nat.eq_zero_or_pos n with h | h
      · exact h
      · obtain ⟨b, off, h1, _⟩ := hr.at_ (by have := hr.len; omega)
        cases h1
    subst h0
    have hrs : rs = [] := List.eq_nil_of_length_eq_zero hr.len.symm
    subst hrs
    clear hr
    go_enter Try.func54, Try.ntmps54
    go_wp2
    go_ret
    exact ⟨none, 0, rfl, Ow.nil_ _ _ _ _, Fr.refl _ _⟩
  · have hl := hr.len
    obtain ⟨ps, hrs, hcs, hps⟩ := Rv.parts hr
    have hO : Ow (w.alloc (.cells #[] 38)) w.heap.size 38 (fun b => b < w.heap.size) (some ⟨w.heap.size, 0, none⟩) 0 0 [] := ⟨[], rfl, own_empty w w.heap.size _ 2 (Nat.le_refl _), fun p hp => by simp at hp⟩
    have fa : Fr No w (w.alloc (.cells #[] 38)) := (Fr.refl No w).alloc _
    obtain ⟨A1, c1, w1, hrun, hown, hgr, hat⟩ := app_recs (Pg := Try.prog) 22 _ 40 Try.underlying22 info_rec rfl (by decide) hO (ps := ps) (fun p hp => ((hps p hp).mono (P' := fun b => b < w.heap.size ∧ Av (some ⟨w.heap.size, 0, none⟩) b) (fun b hb => ⟨hb, fun g o e => by injection e with e; injection e with e; omega⟩)).no fa) (A := some a) (m := n) (c := c) (by rw [hl, ← hrs, recs_len]) (fun h0 => by
      obtain ⟨b, off, h1, h2⟩ := hcs h0
      exact ⟨b, off, h1, fun j u hj => cel_no (h2 j u hj) fa⟩) (by omega) (by simp)
    have hf : Fr No w w1 := fa.grown hgr (fun k hk => .inr (by simp [Value.ownBlock] at hk; omega))
    rw [Nat.zero_add] at hrun hown
    rw [List.nil_append, hrs] at hown
    have Hown := Lib.hid hown
    have Hf := Lib.hid hf
    clear hown hgr hat hf hr hl hps hcs hrs hO fa
    go_enter Try.func54, Try.ntmps54
    go_wp2
    go_ret
    exact ⟨A1, c1, rfl, Hown.out, Hf.out⟩
set_option maxHeartbeats 1600000 in
theorem copied_any (hr : Rv w A n c rs) (hs : Short rs) : Calls Try.prog 43 #[.slice A n c] w (RecsRet w rs) := by
  have hn := hr.len_le
  have hn1 : n ≤ 1000000 := by have := hr.len; have := hs.1; omega
  have Hr := Lib.hid hr
  have Hs := Lib.hid hs
  have Hl := Lib.hid hr.len
  clear hr hs
  go_enter Try.func43, Try.ntmps43
  go_wp2_with (go_at_call 54; ((with_reducible refine (cloner_any (rs := rs) ?_ hn1).mono ?_); (focus ((have hr := Hr.out); (repeat (first | with_reducible assumption | with_reducible exact Rv.none_ _ | with_reducible refine Rv.alloc ?_ _ | with_reducible refine Rv.drew ?_ | with_reducible refine Rv.drewN ?_ _ | with_reducible refine Rv.no ?_ (by assumption))))); rintro e w2 ⟨A1, c1, rfl, ho2, hf2⟩))
  have Ho := Lib.hid (ho2.mono (P' := fun _ => True) (fun _ _ => trivial))
  have HF := Lib.hid hf2
  clear ho2 hf2
  go_loopw [9] (fun x wr => ∃ j : Nat, x = .int .i64 j ∧ Hid (j ≤ n ∧ Ow wr w.heap.size 38 (fun _ => True) A1 n c1 rs ∧ Fr No w wr)) (fun x _ => n - (intOf x).toNat)
  case atStart => exact ⟨0, rfl, Lib.hid ⟨Nat.zero_le _, Ho.out, HF.out⟩⟩
  case round =>
    obtain ⟨j, rfl, Hj⟩ := hrel
    by_cases hlt : j < n
    · obtain ⟨g, KA, kc, rfl, hg, a0, a1, f0, f1, hka, hza⟩ := Hj.out.2.1.cells j hlt
      have hkn := Hs.out.get j (by rw [← Hl.out]; exact hlt)
      have Hst := Lib.hid (fun (W : World) (K : Option Addr) (kd : Nat) (hW : Fr No wr W) (hk : Kv W K (rs.getD j rec0).1.length kd (rs.getD j rec0).1) (hK : ∀ b off, K = some ⟨b, off, none⟩ → wr.heap.size ≤ b) => (Hj.out.2.1.no hW).store_key j hlt hk (fun b off e => ⟨trivial, by have := hK b off e; have := (Hj.out.2.1.blk g rfl).2; omega⟩))
      have hgl : g < wr.heap.size := (Hj.out.2.1.blk g rfl).2
      have Hg := Lib.hid hg
      have Hlt := Lib.hid hlt
      generalize hrr : rs.getD j rec0 = r at *
      clear hrr
      obtain ⟨ks, s⟩ := r
      simp only at *
      have Hka := Lib.hid hka
      clear hka
      go_wp2_with (go_at_call 55; ((with_reducible refine (clone_any (ks := ks) ?_ hkn).mono ?_); (focus ((have hk := Hka.out); (repeat (first | with_reducible assumption | ((with_reducible refine Kv.lit_new _ _ _ _ _ _ ?_ ?_ ?_ ?_) <;> (first | (simp; done) | rfl | decide)) | with_reducible exact Kv.none_ _ | with_reducible refine Kv.alloc ?_ _ | with_reducible refine Kv.drew ?_ | with_reducible refine Kv.drewN ?_ _ | with_reducible refine Kv.no ?_ (by assumption))))); rintro e w5 ⟨K1, kc1, rfl, hown5, hf5⟩; (have hf0 := ((Fr.refl No wr).alloc (.cells #[.slice KA ks.length kc, .string s] 38)).tr hf5); (have a05 := cel_no a0 hf0); (have b05 := hf0.bcell.2 g (j * 2) hgl); (rw [f0] at b05); (have HO5 := Lib.hid (Hst.out w5 K1 kc1 hf0 (Kv.of_own hown5 Hka.out.lt) (fun b off e => by subst e; have := (hown5.lt b rfl).1; simp at this; omega))); (have HF5 := Lib.hid hf0); (clear hown5 hf5 hf0)))
      go_roundw
      case rel => exact ⟨j + 1, by go_num, Lib.hid ⟨Hlt.out, HO5.out, (Hj.out.2.2.tr HF5.out).setCell (.inr Hg.out) _⟩⟩
      case measure => have := Hlt.out; simp [intOf]; omega
    · obtain rfl : j = n := by have := Hj.out.1; omega
      go_wp2
      go_ret
      exact ⟨A1, j, c1, rfl, Hj.out.2.1, Hj.out.2.2⟩
end
end Go.Proofs.Ytehhmpoijonghaa.Rb
