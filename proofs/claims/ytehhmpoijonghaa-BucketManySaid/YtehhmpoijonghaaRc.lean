/- Records of their own: the document's copies. -/
import Derived.Test.YtehhmpoijonghaaGe
import Derived.StillTailTactics
namespace Go.Proofs.Ytehhmpoijonghaa.Rc
open Go.RowKit Go.Proofs.Ytehhmpoijonghaa.Base Go.Proofs.Ytehhmpoijonghaa.App Go.Proofs.Ytehhmpoijonghaa.Str Go.Proofs.Ytehhmpoijonghaa.Ky Go.Proofs.Ytehhmpoijonghaa.Bx Go.Proofs.Ytehhmpoijonghaa.Bo Go.Proofs.Ytehhmpoijonghaa.As Go.Proofs.Ytehhmpoijonghaa.Ki08 Go.Proofs.Ytehhmpoijonghaa.Rv Go.Proofs.Ytehhmpoijonghaa.Ro Go.Proofs.Ytehhmpoijonghaa.Rk
set_option linter.unusedVariables false
set_option linter.unusedSimpArgs false
attribute [local go_sem ↓ high] builtin_app
section
variable {w : World} {A : Option Addr} {n c : Nat} {rs : List Rec}
set_option maxHeartbeats 1600000 in
theorem copies_any (hr : Rv w A n c rs) (hs : Short rs) : Calls Try.prog 21 #[.slice A n c] w (RecsRet w rs) := by
  have hn := hr.len_le
  have Hr := Lib.hid hr
  have Hs := Lib.hid hs
  clear hr hs
  go_enter Try.func21, Try.ntmps21
  go_wp2
  go_loopw [3, 4] (fun v x wr => ∃ (j : Nat) (P : Option Addr) (c : Nat), x = .int .i64 j ∧ v = .slice P j c ∧ Hid (j ≤ n ∧ Ow wr w.heap.size 38 (fun _ => True) P j c (rs.take j) ∧ Fr No w wr)) (fun _ x _ => n - (intOf x).toNat)
  case atStart => exact ⟨0, none, 0, rfl, rfl, Lib.hid ⟨Nat.zero_le _, by simpa using Ow.nil_ _ _ _ _, Fr.refl _ _⟩⟩
  case round =>
    obtain ⟨j, P, cP, rfl, rfl, Hj⟩ := hrel
    by_cases hlt : j < n
    · obtain ⟨b, off, KA, kc, rfl, c0w, c1w, hkw, hz⟩ := Hr.out.get j (by rw [← Hr.out.len]; exact hlt)
      have c0 := cel_no c0w Hj.out.2.2
      have c1 := cel_no c1w Hj.out.2.2
      have hk := hkw.no Hj.out.2.2
      clear hkw
      have hkn := Hs.out.get j (by rw [← Hr.out.len]; exact hlt)
      have Htk := Lib.hid (take_succ rs j (by rw [← Hr.out.len]; exact hlt))
      have hj2 : j ≤ 2000000 := by have := Hs.out.1; have := Hr.out.len; omega
      have Hlt := Lib.hid hlt
      generalize hrr : rs.getD j rec0 = r at *
      clear hrr
      obtain ⟨ks, s⟩ := r
      simp only at *
      have Hk := Lib.hid hk
      clear hk
      go_wp2
      go_region_held3 (fun w' => w'.cell? ⟨b, off + j * 2, none⟩ = some (.slice KA ks.length kc) ∧ w'.cell? ⟨b, off + j * 2 + 1, none⟩ = some (.string s)) ((refine ⟨?_, ?_⟩; (repeat (first | with_reducible assumption | with_reducible refine cel_alloc ?_ _ | with_reducible refine cel_drew ?_ | with_reducible refine cel_drewN ?_ _ | with_reducible refine cel_set ?_ (by first | (simp; done) | (simp; omega)) _ | with_reducible refine cel_no ?_ (by assumption))); (repeat (first | with_reducible assumption | with_reducible refine cel_alloc ?_ _ | with_reducible refine cel_drew ?_ | with_reducible refine cel_drewN ?_ _ | with_reducible refine cel_set ?_ (by first | (simp; done) | (simp; omega)) _ | with_reducible refine cel_no ?_ (by assumption)))))
        ((go_at_call 42; ((with_reducible refine (rcopy_any (ks := ks) ?_ hkn).mono ?_); (focus ((have hk := Hk.out); (repeat (first | with_reducible assumption | ((with_reducible refine Kv.lit_new _ _ _ _ _ _ ?_ ?_ ?_ ?_) <;> (first | (simp; done) | rfl | decide)) | with_reducible exact Kv.none_ _ | with_reducible refine Kv.alloc ?_ _ | with_reducible refine Kv.drew ?_ | with_reducible refine Kv.drewN ?_ _ | with_reducible refine Kv.no ?_ (by assumption))))); rintro e w5 ⟨K1, kc1, rfl, hown5, hf5⟩; (obtain ⟨A1, cA1, w1, hrun, hO1, hgr, hfr⟩ := push_rec (wr := wr.drew) (B0 := w.heap.size) Hj.out.2.1.drew Hj.out.2.2.size hf5 hown5 rfl Hk.out.lt hz hj2 (fun _ _ => trivial)); (have HO1 := Lib.hid hO1); (have HF1 := Lib.hid (hfr w (Nat.le_refl _) Hj.out.2.2.drew)); (have d0 := cel_no c0w HF1.out); (have d1 := cel_no c1w HF1.out); (clear hO1 hgr hfr hown5))))
      go_wp2
      go_roundw
      case rel => exact ⟨j + 1, A1, cA1, by go_num, rfl, Lib.hid ⟨Hlt.out, by rw [Htk.out]; exact HO1.out, HF1.out⟩⟩
      case measure => have := Hlt.out; simp [intOf]; omega
    · obtain rfl : j = n := by have := Hj.out.1; omega
      have e : rs.take j = rs := List.take_of_length_le (by rw [Hr.out.len]; exact Nat.le_refl _)
      go_wp2
      go_ret
      exact ⟨P, j, cP, rfl, by rw [← e]; exact Hj.out.2.1, Hj.out.2.2⟩
end
end Go.Proofs.Ytehhmpoijonghaa.Rc
