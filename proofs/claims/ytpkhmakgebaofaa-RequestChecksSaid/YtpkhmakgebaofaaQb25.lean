/- Layer 25: whether some records may be (isLoad), by the library's ContainsFunc. -/
import Derived.Test.YtpkhmakgebaofaaRa
import Derived.Test.YtpkhmakgebaofaaKd08
namespace Go.Proofs.Ytpkhmakgebaofaa.Qb25
open Go.RowKit Go.Proofs.Ytpkhmakgebaofaa.Pk08 Go.Proofs.Ytpkhmakgebaofaa.Base Go.Proofs.Ytpkhmakgebaofaa.App Go.Proofs.Ytpkhmakgebaofaa.Ky Go.Proofs.Ytpkhmakgebaofaa.Rv Go.Proofs.Ytpkhmakgebaofaa.Ra Go.Proofs.Ytpkhmakgebaofaa.Kc08
set_option linter.unusedVariables false
set_option linter.unusedSimpArgs false
/-- May each of the first i records be? -/
def okTo (rs : List Rec) (d : Int) (i : Nat) : Prop := ∀ j, j < i → recC (rs.getD j rec0).1.length (rs.getD j rec0).2 d = 0
def okAll (rs : List Rec) (d : Int) : Bool := rs.all (fun r => recC r.1.length r.2 d == 0)
theorem okAll_iff {rs : List Rec} {d : Int} : okAll rs d = true ↔ okTo rs d rs.length := by
  unfold okAll okTo
  rw [List.all_eq_true]
  constructor
  · intro h j hj
    have e : rs.getD j rec0 = rs[j] := by simp [List.getD_eq_getElem?_getD, hj]
    rw [e]
    simpa using h rs[j] (List.getElem_mem hj)
  · intro h r hr
    obtain ⟨i, hi, rfl⟩ := List.mem_iff_getElem.1 hr
    have e : rs.getD i rec0 = rs[i] := by simp [List.getD_eq_getElem?_getD, hi]
    have := h i hi
    rw [e] at this
    simpa using this
section
variable {w : World} {A : Option Addr} {n c g : Nat} {s : ByteArray} {rs : List Rec}
theorem bad_any (d : Int) (hs : s.size ≤ maxLen) (hc : w.cell? ⟨g, 0, none⟩ = some (.int .i64 d)) :
    Calls Try.prog 40 #[.agg #[.slice A n c, .string s], .pointer (some ⟨g, 0, none⟩)] w fun e w' => e = .returned (.bool (recC n s d != 0)) ∧ Fr No w w' := by
  have hb := World.block_lt_of_cell? w _ hc
  go_enter Try.func40, Try.ntmps40
  go_wp2_with (go_at_call 37; ((with_reducible refine (acheck_any _ hs).mono ?_); rintro e w1 ⟨rfl, hf1⟩))
  go_ret
  refine ⟨rfl, ?_⟩
  (repeat (first | with_reducible exact Fr.refl _ _ | with_reducible refine Fr.setCell ?_ (.inr (by first | (simp; done) | (simp; omega))) _ | with_reducible refine Fr.alloc ?_ _ | with_reducible refine Fr.drew ?_ | with_reducible refine Fr.drewN ?_ _ | with_reducible refine Fr.tr ?_ (by assumption)))
set_option maxHeartbeats 1600000 in
theorem index_any (d : Int) (hr : Rv w A n c rs) (hc : w.cell? ⟨g, 0, none⟩ = some (.int .i64 d)) :
    Calls Try.prog 45 #[.slice A n c, .func (.func 40) #[] #[.pointer (some ⟨g, 0, none⟩)]] w
      fun e w' => ∃ k : Int, e = .returned (.int .i64 k) ∧ decide (0 ≤ k) = !okAll rs d ∧ -1 ≤ k ∧ Fr No w w' := by
  have hn := hr.len_le
  have hb := World.block_lt_of_cell? w _ hc
  have Hr := Lib.hid hr
  have Hc := Lib.hid hc
  clear hr hc
  go_enter Try.func45, Try.ntmps45
  go_wp2
  go_loopw [8] (fun v wr => ∃ i : Nat, i ≤ n ∧ v = .int .i64 i ∧ Hid (okTo rs d i ∧ Fr No w wr)) (fun v _ => n - (intOf v).toNat)
  case atStart => exact ⟨0, Nat.zero_le _, rfl, Lib.hid ⟨fun j hj => by omega, Fr.refl _ _⟩⟩
  case round =>
    obtain ⟨i, hi, rfl, Hi⟩ := hrel
    by_cases hlt : i < n
    · obtain ⟨b, off, KA, kc, rfl, c0, c1, hk, hs⟩ := (Hr.out.no Hi.out.2).get i (by rw [← Hr.out.len]; exact hlt)
      have hcw : wr.cell? ⟨g, 0, none⟩ = some (.int .i64 d) := by rw [World.cell?_of_block (w := w) (a := ⟨g, 0, none⟩) (Hi.out.2.block _ hb (fun x => x))]; exact Hc.out
      have Hno := Lib.hid (fun (hx : recC (rs.getD i rec0).1.length (rs.getD i rec0).2 d = 1) => show okAll rs d = false by
        cases h : okAll rs d with
        | false => rfl
        | true =>
          have := okAll_iff.1 h i (by rw [← Hr.out.len]; exact hlt)
          rw [hx] at this; exact absurd this (by decide))
      have Hyes := Lib.hid (fun (hx : recC (rs.getD i rec0).1.length (rs.getD i rec0).2 d = 0) => show okTo rs d (i + 1) by
        intro j hj
        by_cases e : j = i
        · subst e; exact hx
        · exact Hi.out.1 j (by omega))
      clear hk
      generalize rs.getD i rec0 = r at *
      obtain ⟨ks, s⟩ := r
      simp only at *
      rcases recC_rng ks.length s d with hx | hx
      · have K := Lib.hid (Hyes.out hx)
        clear Hyes Hno
        have Hx := Lib.hid hx
        clear hx
        go_wp2_with (go_at_call 40; ((with_reducible refine (bad_any d hs hcw).mono ?_); rintro e w1 ⟨rfl, hf1⟩; rw [Hx.out]))
        go_roundw
        case rel => exact ⟨i + 1, by omega, by go_num, Lib.hid ⟨K.out, Hi.out.2.tr hf1⟩⟩
        case measure => simp [intOf]; omega
      · have K := Lib.hid (Hno.out hx)
        clear Hyes Hno
        have Hx := Lib.hid hx
        clear hx
        go_wp2_with (go_at_call 40; ((with_reducible refine (bad_any d hs hcw).mono ?_); rintro e w1 ⟨rfl, hf1⟩; rw [Hx.out]))
        go_ret
        exact ⟨_, rfl, by rw [K.out]; simp, by omega, Hi.out.2.tr hf1⟩
    · obtain rfl : i = n := by omega
      have E := Lib.hid (show okAll rs d = true from okAll_iff.2 (by rw [← Hr.out.len]; exact Hi.out.1))
      go_wp2
      go_ret
      exact ⟨-1, rfl, by rw [E.out]; rfl, by omega, Hi.out.2⟩
theorem contains_any (d : Int) (hr : Rv w A n c rs) (hc : w.cell? ⟨g, 0, none⟩ = some (.int .i64 d)) :
    Calls Try.prog 41 #[.slice A n c, .func (.func 40) #[] #[.pointer (some ⟨g, 0, none⟩)]] w
      fun e w' => e = .returned (.bool (!okAll rs d)) ∧ Fr No w w' := by
  go_enter Try.func41, Try.ntmps41
  go_wp2_with (go_at_call 45; ((with_reducible refine (index_any d hr hc).mono ?_); rintro e w1 ⟨k, rfl, hk, hk1, hf1⟩))
  go_ret
  exact ⟨by rw [← hk]; rfl, hf1⟩
end
end Go.Proofs.Ytpkhmakgebaofaa.Qb25
