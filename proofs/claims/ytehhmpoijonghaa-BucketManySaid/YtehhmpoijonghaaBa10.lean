/- Layer 10: how many bytes records take, whether they fit, whether a list is a bucket. -/
import Derived.Test.YtehhmpoijonghaaRi
import Derived.Test.YtehhmpoijonghaaRb
import Derived.StillTailTactics
namespace Go.Proofs.Ytehhmpoijonghaa.Ba10
open Go.RowKit Go.Proofs.Ytehhmpoijonghaa.Pk08 Go.Proofs.Ytehhmpoijonghaa.Base Go.Proofs.Ytehhmpoijonghaa.App Go.Proofs.Ytehhmpoijonghaa.Str Go.Proofs.Ytehhmpoijonghaa.Ky Go.Proofs.Ytehhmpoijonghaa.Bx Go.Proofs.Ytehhmpoijonghaa.Bo Go.Proofs.Ytehhmpoijonghaa.As Go.Proofs.Ytehhmpoijonghaa.Pl08 Go.Proofs.Ytehhmpoijonghaa.Kc08 Go.Proofs.Ytehhmpoijonghaa.Rv Go.Proofs.Ytehhmpoijonghaa.Ra Go.Proofs.Ytehhmpoijonghaa.Rp Go.Proofs.Ytehhmpoijonghaa.Ro Go.Proofs.Ytehhmpoijonghaa.Rk Go.Proofs.Ytehhmpoijonghaa.Ri
set_option linter.unusedVariables false
set_option linter.unusedSimpArgs false
def szr (r : Rv.Rec) : Nat := 4 * r.1.length + 1 + r.2.size
def sizeR (rs : List Rv.Rec) : Nat := 1 + (rs.map szr).sum
/-- Small enough to be reckoned with. -/
def Tiny (rs : List Rv.Rec) : Prop := rs.length ≤ 1000 ∧ ∀ r ∈ rs, r.1.length ≤ 1000 ∧ r.2.size ≤ 1000
theorem sum_app (a b : List Nat) : (a ++ b).sum = a.sum + b.sum := by
  induction a with
  | nil => simp
  | cons x xs ih => simp only [List.cons_append, List.sum_cons, ih]; omega
theorem sizeR_succ (rs : List Rv.Rec) (i : Nat) (h : i < rs.length) : sizeR (rs.take (i + 1)) = sizeR (rs.take i) + szr (rs.getD i rec0) := by
  unfold sizeR
  rw [Go.Proofs.Ytehhmpoijonghaa.Rk.take_succ rs i h, List.map_append, sum_app]
  simp
  omega
theorem sizeR_le {rs : List Rv.Rec} (h : Tiny rs) : ∀ i, i ≤ rs.length → sizeR (rs.take i) ≤ 1 + i * 5001 := by
  intro i
  induction i with
  | zero => intro _; simp [sizeR]
  | succ i ih =>
    intro hi
    rw [sizeR_succ rs i (by omega)]
    have := ih (by omega)
    have e : rs.getD i rec0 = rs[i] := by simp [List.getD_eq_getElem?_getD, show i < rs.length by omega]
    have h2 := h.2 _ (List.getElem_mem (show i < rs.length by omega))
    rw [← e] at h2
    unfold szr
    omega
theorem Tiny.get {rs : List Rv.Rec} (h : Tiny rs) (i : Nat) (hi : i < rs.length) : (rs.getD i rec0).1.length ≤ 1000 ∧ (rs.getD i rec0).2.size ≤ 1000 := by
  have e : rs.getD i rec0 = rs[i] := by simp [List.getD_eq_getElem?_getD, hi]
  rw [e]; exact h.2 _ (List.getElem_mem hi)
def fitB (rs : List Rv.Rec) (cap : Int) : Bool := decide ((rs.length : Int) ≤ cap) && decide (sizeR rs ≤ 230)
def capB (cap : Int) : Bool := decide (2 ≤ cap) && decide (cap ≤ 16)
section
variable {w : World} {A : Option Addr} {n c : Nat} {rs : List Rv.Rec}
set_option maxHeartbeats 1600000 in
theorem size_any (hr : Rv w A n c rs) (ht : Tiny rs) : Calls Try.prog 13 #[.slice A n c] w fun e w' => e = .returned (.int .i64 ((sizeR rs : Nat) : Int)) ∧ Fr No w w' := by
  have hn : n ≤ 1000 := by have := hr.len; have := ht.1; omega
  have Hr := Lib.hid hr
  have Ht := Lib.hid ht
  have HN := Lib.hid hr.len
  clear hr ht
  go_enter Try.func13, Try.ntmps13
  go_wp2
  go_loopw [3, 8] (fun u v wr => ∃ i S : Nat, v = .int .i64 i ∧ u = .int .i64 S ∧ S ≤ 1 + i * 5001 ∧ i ≤ n ∧ Hid (S = sizeR (rs.take i) ∧ Fr No w wr)) (fun _ v _ => n - (intOf v).toNat)
  case atStart => exact ⟨0, 1, rfl, rfl, by omega, Nat.zero_le _, Lib.hid ⟨by simp [sizeR], Fr.refl _ _⟩⟩
  case round =>
    obtain ⟨i, S, rfl, rfl, hS, hi, Hi⟩ := hrel
    by_cases hlt : i < n
    · obtain ⟨b, off, KA, kc, rfl, a0, a1, hka, hza⟩ := (Hr.out.no Hi.out.2).get i (by rw [← HN.out]; exact hlt)
      have hsm := Ht.out.get i (by rw [← HN.out]; exact hlt)
      have Hsz := Lib.hid (sizeR_succ rs i (by rw [← HN.out]; exact hlt))
      rw [← Hi.out.1] at Hsz
      generalize rs.getD i rec0 = r at *
      obtain ⟨ks, s⟩ := r
      simp only [szr] at *
      clear hka
      obtain ⟨x0, x1⟩ := cells2 (Ob.new wr #[.slice KA ks.length kc, .string s] 38)
      have HF := Lib.hid Hi.out.2
      clear Hi
      generalize ks.length = kl at *
      generalize hss : s.size = sl at *
      go_wp2
      go_roundw
      case rel => exact ⟨i + 1, S + (4 * kl + 1 + sl), by go_num, by go_num, by omega, by omega, Lib.hid ⟨Hsz.out.symm, by have := HF.out; (repeat (first | with_reducible exact Fr.refl _ _ | with_reducible refine Fr.setCell ?_ (.inr (by first | (simp; done) | (simp; omega))) _ | with_reducible refine Fr.alloc ?_ _ | with_reducible refine Fr.drew ?_ | with_reducible refine Fr.drewN ?_ _ | with_reducible refine Fr.tr ?_ (by assumption)))⟩⟩
      case measure => simp [intOf]; omega
    · obtain rfl : i = n := by omega
      have e : rs.take i = rs := List.take_of_length_le (by rw [HN.out]; exact Nat.le_refl _)
      go_wp2
      go_ret
      exact ⟨by rw [← e, ← Hi.out.1]; rfl, Hi.out.2⟩
set_option maxHeartbeats 1600000 in
theorem rsize_any (hr : Rv w A n c rs) (ht : Tiny rs) : Calls Try.prog 14 #[.slice A n c] w fun e w' => e = .returned (.int .i64 ((sizeR rs : Nat) : Int)) ∧ Fr No w w' := by
  have hn : n ≤ 1000 := by have := hr.len; have := ht.1; omega
  have Hr := Lib.hid hr
  have Ht := Lib.hid ht
  have HN := Lib.hid hr.len
  clear hr ht
  go_enter Try.func14, Try.ntmps14
  go_wp2
  go_loopw [3, 4] (fun u v wr => ∃ i S : Nat, v = .int .i64 i ∧ u = .int .i64 S ∧ S ≤ 1 + i * 5001 ∧ i ≤ n ∧ Hid (S = sizeR (rs.take i) ∧ Fr No w wr)) (fun _ v _ => n - (intOf v).toNat)
  case atStart => exact ⟨0, 1, rfl, rfl, by omega, Nat.zero_le _, Lib.hid ⟨by simp [sizeR], Fr.refl _ _⟩⟩
  case round =>
    obtain ⟨i, S, rfl, rfl, hS, hi, Hi⟩ := hrel
    by_cases hlt : i < n
    · obtain ⟨b, off, KA, kc, rfl, a0, a1, hka, hza⟩ := (Hr.out.no Hi.out.2).get i (by rw [← HN.out]; exact hlt)
      have hsm := Ht.out.get i (by rw [← HN.out]; exact hlt)
      have Hsz := Lib.hid (sizeR_succ rs i (by rw [← HN.out]; exact hlt))
      rw [← Hi.out.1] at Hsz
      generalize rs.getD i rec0 = r at *
      obtain ⟨ks, s⟩ := r
      simp only [szr] at *
      clear hka
      have HF := Lib.hid Hi.out.2
      clear Hi
      generalize ks.length = kl at *
      generalize hss : s.size = sl at *
      go_wp2
      go_quiet (fail)
      go_wp2
      go_roundw
      case rel => exact ⟨i + 1, S + (4 * kl + 1 + sl), by go_num, by go_num, by omega, by omega, Lib.hid ⟨Hsz.out.symm, by have := HF.out; (repeat (first | with_reducible exact Fr.refl _ _ | with_reducible refine Fr.setCell ?_ (.inr (by first | (simp; done) | (simp; omega))) _ | with_reducible refine Fr.alloc ?_ _ | with_reducible refine Fr.drew ?_ | with_reducible refine Fr.drewN ?_ _ | with_reducible refine Fr.tr ?_ (by assumption)))⟩⟩
      case measure => simp [intOf]; omega
    · obtain rfl : i = n := by omega
      have e : rs.take i = rs := List.take_of_length_le (by rw [HN.out]; exact Nat.le_refl _)
      go_wp2
      go_ret
      exact ⟨by rw [← e, ← Hi.out.1]; rfl, Hi.out.2⟩
theorem fits_any (cap : Int) (hr : Rv w A n c rs) (ht : Tiny rs) : Calls Try.prog 15 #[.slice A n c, .int .i64 cap] w fun e w' => e = .returned (.bool (fitB rs cap)) ∧ Fr No w w' := by
  have HF := Lib.hid (show fitB rs cap = (decide ((n : Int) ≤ cap) && decide (sizeR rs ≤ 230)) by rw [hr.len]; rfl)
  have Hr := Lib.hid hr
  have hn := hr.len_le
  clear hr
  by_cases h : (n : Int) ≤ cap
  · rw [decide_eq_true h, Bool.true_and] at HF
    go_enter Try.func15, Try.ntmps15
    go_wp2_with (go_at_call 13; ((with_reducible refine (size_any (rs := rs) ?_ ht).mono ?_); (focus ((have h := Hr.out); (repeat (first | with_reducible assumption | with_reducible exact Rv.none_ _ | with_reducible refine Rv.alloc ?_ _ | with_reducible refine Rv.drew ?_ | with_reducible refine Rv.drewN ?_ _ | with_reducible refine Rv.no ?_ (by assumption))))); rintro e w5 ⟨rfl, hf5⟩))
    go_ret
    exact ⟨by rw [HF.out]; rw [show decide (sizeR rs ≤ 230) = decide (((sizeR rs : Nat) : Int) ≤ 230) from decide_eq_decide.mpr (by omega)]; simp [go_sem], by (repeat (first | with_reducible exact Fr.refl _ _ | with_reducible refine Fr.setCell ?_ (.inr (by first | (simp; done) | (simp; omega))) _ | with_reducible refine Fr.alloc ?_ _ | with_reducible refine Fr.drew ?_ | with_reducible refine Fr.drewN ?_ _ | with_reducible refine Fr.tr ?_ (by assumption)))⟩
  · rw [decide_eq_false h, Bool.false_and] at HF
    go_enter Try.func15, Try.ntmps15
    go_wp2
    go_ret
    exact ⟨by rw [HF.out]; rfl, Fr.refl _ _⟩
theorem cap_any (cap : Int) : Calls Try.prog 30 #[.int .i64 cap] w fun e w' => e = .returned (.bool (capB cap)) ∧ w = w' := by
  by_cases h : 2 ≤ cap
  · have E := Lib.hid (show capB cap = decide (cap ≤ 16) by unfold capB; rw [decide_eq_true h, Bool.true_and])
    go_enter Try.func30, Try.ntmps30
    go_wp2
    go_ret
    exact ⟨by rw [E.out]; rfl, rfl⟩
  · have E := Lib.hid (show capB cap = false by unfold capB; rw [decide_eq_false h, Bool.false_and])
    go_enter Try.func30, Try.ntmps30
    go_wp2
    go_ret
    exact ⟨by rw [E.out]; rfl, rfl⟩
end
end Go.Proofs.Ytehhmpoijonghaa.Ba10
