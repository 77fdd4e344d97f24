/- Layer 11: a box's halves, the document's, where it is wide. -/
import Derived.Test.YtoaikponefcbiaaHb16
import Derived.Test.YtoaikponefcbiaaKh08
import Derived.Test.YtoaikponefcbiaaKj08
namespace Go.Proofs.Ytoaikponefcbiaa.Hc16
open Go.RowKit Go.Proofs.Ytoaikponefcbiaa.Pk08 Go.Proofs.Ytoaikponefcbiaa.Base Go.Proofs.Ytoaikponefcbiaa.App Go.Proofs.Ytoaikponefcbiaa.Str Go.Proofs.Ytoaikponefcbiaa.Ky Go.Proofs.Ytoaikponefcbiaa.Bx Go.Proofs.Ytoaikponefcbiaa.Kk Go.Proofs.Ytoaikponefcbiaa.Bo Go.Proofs.Ytoaikponefcbiaa.As Go.Proofs.Ytoaikponefcbiaa.Cl Go.Proofs.Ytoaikponefcbiaa.Pl08 Go.Proofs.Ytoaikponefcbiaa.Kc08 Go.Proofs.Ytoaikponefcbiaa.Kh08 Go.Proofs.Ytoaikponefcbiaa.Ki08 Go.Proofs.Ytoaikponefcbiaa.Px16 Go.Proofs.Ytoaikponefcbiaa.Ha16 Go.Proofs.Ytoaikponefcbiaa.Hb16
set_option linter.unusedVariables false
set_option linter.unusedSimpArgs false
attribute [local go_sem ↓ high] builtin_app
section
variable {w : World} {A B : Option Addr} {n cn m cm : Nat} {lo hi : List Nat}
set_option maxRecDepth 100000 in
set_option maxHeartbeats 3200000 in
theorem rhalves_yes (j : Nat) (hl : Kv w A n cn lo) (hh : Kv w B n cm hi) (hb : wideB lo hi j = true) :
    Calls Try.prog 28 #[.agg #[.slice A n cn, .slice B n cm], .int .i64 (j : Int)] w fun e w' => ∃ a ca b cb c cc d cd, e = .returned (.tuple #[.agg #[.slice (some ⟨a, 0, none⟩) n ca, .slice (some ⟨b, 0, none⟩) n cb], .agg #[.slice (some ⟨c, 0, none⟩) n cc, .slice (some ⟨d, 0, none⟩) n cd], .bool true]) ∧
      w'.ownsRow w.heap.size 50 1 (.slice (some ⟨a, 0, none⟩) n ca) n (u32s lo) ∧ w'.ownsRow w.heap.size 50 1 (.slice (some ⟨b, 0, none⟩) n cb) n (u32s (hi.set j (midB lo hi j))) ∧
      w'.ownsRow w.heap.size 50 1 (.slice (some ⟨c, 0, none⟩) n cc) n (u32s (lo.set j (midB lo hi j + 1))) ∧ w'.ownsRow w.heap.size 50 1 (.slice (some ⟨d, 0, none⟩) n cd) n (u32s hi) ∧
      a ≠ b ∧ c ≠ d ∧ a ≠ d ∧ b ≠ c ∧ Fr No w w' := by
  have hw : hasB lo hi j = true ∧ lo.getD j 0 < hi.getD j 0 := by
    unfold wideB at hb
    rw [Bool.and_eq_true, decide_eq_true_eq, Int.toNat_natCast] at hb
    exact hb
  obtain ⟨p1, p2, p3, p4⟩ := has_parts hw.1
  have q1 : j < n := by have := hl.len; omega
  have q2 : n ≤ 6 := by have := hl.len; omega
  have q3 : n ≤ 1000000 := by omega
  have hm : midE lo hi j = midB lo hi j := by unfold midE; rw [hw.1, Int.toNat_natCast]; rfl
  have Hm := Lib.hid hm
  have Hb := Lib.hid hb
  have m1 : midB lo hi j + 1 < 4294967296 := by have := hh.ltD j; have := hw.2; unfold midB; omega
  have hwb := hw.1
  have hw2 := hw.2
  clear hb hm hw p4 Hb Hm
  generalize hmid : midB lo hi j = mid at *
  have H0 := Lib.hid (show chkB lo hi n = 0 by rw [hl.len]; exact (hasB_iff.1 hwb).2.2)
  have g1 : (0 : Int) ≤ (j : Int) := by omega
  have g1b : decide ((j : Int) < 0) = false := decide_eq_false (by omega)
  have g2b : decide (n ≤ j) = false := decide_eq_false (by omega)
  have g3 := hl.cap
  have g4 := hl.most
  have g5 := hh.cap
  have g6 := hh.most
  have hmx : maxLen ≤ 9223372036854775807 := by decide
  obtain ⟨ga, oa, hga, ca⟩ := hl.get j (by omega)
  obtain ⟨gb, ob, hgb, cb⟩ := hh.get j (by omega)
  subst hga
  subst hgb
  have bx1 := hl.ltD j
  have bx2 := hh.ltD j
  have Hmd := Lib.hid hmid
  clear hmid hwb
  generalize hxe : lo.getD j 0 = x at *
  generalize hye : hi.getD j 0 = y at *
  have Hmd2 : Hid ((x : Int) + ((y : Int) - (x : Int)) / 2 = (mid : Int)) := Lib.hid (by rw [← Hmd.out]; unfold midB; rw [hxe, hye]; omega)
  clear hxe hye Hmd
  have hne : (x == y) = false := beq_eq_false_iff_ne.2 (by omega)
  have hne2 : ((x : Int) == (y : Int)) = false := beq_eq_false_iff_ne.2 (by omega)
  have p4 : x ≤ y := by omega
  go_enter Try.func28, Try.ntmps28
  go_wp2
  (refine wp_region_held_drew (S := fun w' => w'.cell? ⟨w.heap.size, 0, none⟩ = some (.slice (some ⟨ga, oa, none⟩) n cn) ∧ w'.cell? ⟨w.heap.size, 1, none⟩ = some (.slice (some ⟨gb, ob, none⟩) n cm) ∧ w'.cell? ⟨ga, oa + j, none⟩ = some (.int .u32 (x : Int)) ∧ w'.cell? ⟨gb, ob + j, none⟩ = some (.int .u32 (y : Int))) (by kernel_rfl) ?_ (fun hHeld => ?_); focus ((try dsimp only); (refine four4 (cells2 (t := 28) ?_) ?_ ?_; (repeat (first | with_reducible assumption | with_reducible refine Ob.other ?_ (by first | (simp; done) | (simp; omega)) _ | ((with_reducible refine Ob.new_ _ _ _ _ ?_) <;> (simp; done)) | with_reducible refine Ob.alloc ?_ _ | with_reducible refine Ob.drew ?_ | with_reducible refine Ob.drewN ?_ _ | with_reducible refine Ob.no ?_ (by assumption))); (repeat (first | with_reducible assumption | with_reducible refine cel_alloc ?_ _ | with_reducible refine cel_drew ?_ | with_reducible refine cel_drewN ?_ _ | with_reducible refine cel_set ?_ (by first | (simp; done) | (simp; omega)) _ | with_reducible refine cel_no ?_ (by assumption))); (repeat (first | with_reducible assumption | with_reducible refine cel_alloc ?_ _ | with_reducible refine cel_drew ?_ | with_reducible refine cel_drewN ?_ _ | with_reducible refine cel_set ?_ (by first | (simp; done) | (simp; omega)) _ | with_reducible refine cel_no ?_ (by assumption)))); done))
  ((refine wpAnyH_take (i := 0) (v := ?_) rfl (by kernel_rfl) (by kernel_rfl) (by kernel_rfl) (fun _ _ _ h => h) (Or.inl ⟨by rfl, ?_⟩) (by assumption) ?_; rotate_left; focus (intro w hSw; (try dsimp only at hSw); go_simp; (try with_reducible rfl); done)); (try simp only [Act.put, List.setIfInBounds_toArray, List.set_cons_zero, List.set_cons_succ, List.getElem_toArray, List.getElem_cons_zero, List.getElem_cons_succ]); (refine wpAnyH_take (i := 1) (v := ?_) rfl (by kernel_rfl) (by kernel_rfl) (by kernel_rfl) (fun _ _ _ h => h) (Or.inl ⟨by rfl, ?_⟩) (by assumption) ?_; rotate_left; focus (intro w hSw; (try dsimp only at hSw); go_simp; (try with_reducible rfl); done)); (try simp only [Act.put, List.setIfInBounds_toArray, List.set_cons_zero, List.set_cons_succ, List.getElem_toArray, List.getElem_cons_zero, List.getElem_cons_succ]); (refine wpAnyH_take (i := 2) (v := ?_) rfl (by kernel_rfl) (by kernel_rfl) (by kernel_rfl) (fun _ _ _ h => h) (Or.inl ⟨by rfl, ?_⟩) (by assumption) ?_; rotate_left; focus (intro w hSw; (try dsimp only at hSw); go_simp; (try with_reducible rfl); done)); (try simp only [Act.put, List.setIfInBounds_toArray, List.set_cons_zero, List.set_cons_succ, List.getElem_toArray, List.getElem_cons_zero, List.getElem_cons_succ]); (refine wpAnyH_take (i := 3) (v := ?_) rfl (by kernel_rfl) (by kernel_rfl) (by kernel_rfl) (fun _ _ _ h => h) (Or.inl ⟨by rfl, ?_⟩) (by assumption) ?_; rotate_left; focus (intro w hSw; (try dsimp only at hSw); go_simp; (try with_reducible rfl); done)); (try simp only [Act.put, List.setIfInBounds_toArray, List.set_cons_zero, List.set_cons_succ, List.getElem_toArray, List.getElem_cons_zero, List.getElem_cons_succ]))
  (refine wpAnyH_ready (rs := [4]) (by kernel_rfl) (by simp) ?_; refine AllReadyH.cons rfl (fun K hK => ?_) AllReadyH.nil; go_simp; (go_at_call 36; ((with_reducible refine (rcheckBox_any (lo := lo) (hi := hi) _ ?_ ?_).mono ?_); (iterate 2 (repeat (first | with_reducible assumption | ((with_reducible refine Kv.lit_new _ _ _ _ _ _ ?_ ?_ ?_ ?_) <;> (first | (simp; done) | rfl | decide)) | with_reducible exact Kv.none_ _ | with_reducible refine Kv.alloc ?_ _ | with_reducible refine Kv.drew ?_ | with_reducible refine Kv.drewN ?_ _ | with_reducible refine Kv.no ?_ (by assumption)))); rintro e w1 ⟨rfl, hf1⟩; rw [H0.out]; obtain ⟨q0, q1, q2, q3⟩ := Ob.four (show Ob w1 (w.heap.size + 1) #[.slice none 0 0, .slice none 0 0] 28 by (repeat (first | with_reducible assumption | with_reducible refine Ob.other ?_ (by first | (simp; done) | (simp; omega)) _ | ((with_reducible refine Ob.new_ _ _ _ _ ?_) <;> (simp; done)) | with_reducible refine Ob.alloc ?_ _ | with_reducible refine Ob.drew ?_ | with_reducible refine Ob.drewN ?_ _ | with_reducible refine Ob.no ?_ (by assumption)))); obtain ⟨r0, r1, r2, r3⟩ := Ob.four (show Ob w1 (w.heap.size + 1 + 1) #[.slice none 0 0, .slice none 0 0] 28 by (repeat (first | with_reducible assumption | with_reducible refine Ob.other ?_ (by first | (simp; done) | (simp; omega)) _ | ((with_reducible refine Ob.new_ _ _ _ _ ?_) <;> (simp; done)) | with_reducible refine Ob.alloc ?_ _ | with_reducible refine Ob.drew ?_ | with_reducible refine Ob.drewN ?_ _ | with_reducible refine Ob.no ?_ (by assumption)))))); (try go_wp2_with fail); refine hK.out _ _ ?_ (fun hHeld => ?_); focus ((try dsimp only); (refine four4 (cells2 (t := 28) ?_) ?_ ?_; (repeat (first | with_reducible assumption | with_reducible refine Ob.other ?_ (by first | (simp; done) | (simp; omega)) _ | ((with_reducible refine Ob.new_ _ _ _ _ ?_) <;> (simp; done)) | with_reducible refine Ob.alloc ?_ _ | with_reducible refine Ob.drew ?_ | with_reducible refine Ob.drewN ?_ _ | with_reducible refine Ob.no ?_ (by assumption))); (repeat (first | with_reducible assumption | with_reducible refine cel_alloc ?_ _ | with_reducible refine cel_drew ?_ | with_reducible refine cel_drewN ?_ _ | with_reducible refine cel_set ?_ (by first | (simp; done) | (simp; omega)) _ | with_reducible refine cel_no ?_ (by assumption))); (repeat (first | with_reducible assumption | with_reducible refine cel_alloc ?_ _ | with_reducible refine cel_drew ?_ | with_reducible refine cel_drewN ?_ _ | with_reducible refine cel_set ?_ (by first | (simp; done) | (simp; omega)) _ | with_reducible refine cel_no ?_ (by assumption)))); done)); (clear hK K); (try simp only [Act.put, List.setIfInBounds_toArray, List.set_cons_zero, List.set_cons_succ, List.getElem_toArray, List.getElem_cons_zero, List.getElem_cons_succ])
  ((refine wpAnyH_take (i := 5) (v := ?_) rfl (by kernel_rfl) (by kernel_rfl) (by kernel_rfl) (fun _ _ _ h => h) (Or.inl ⟨by rfl, ?_⟩) (by assumption) ?_; rotate_left; focus (intro w hSw; (try dsimp only at hSw); go_simp; (try with_reducible rfl); done)); (try simp only [Act.put, List.setIfInBounds_toArray, List.set_cons_zero, List.set_cons_succ, List.getElem_toArray, List.getElem_cons_zero, List.getElem_cons_succ]); (refine wpAnyH_take (i := 6) (v := ?_) rfl (by kernel_rfl) (by kernel_rfl) (by kernel_rfl) (fun _ _ _ h => h) (Or.inl ⟨by rfl, ?_⟩) (by assumption) ?_; rotate_left; focus (intro w hSw; (try dsimp only at hSw); go_simp; (try with_reducible rfl); done)); (try simp only [Act.put, List.setIfInBounds_toArray, List.set_cons_zero, List.set_cons_succ, List.getElem_toArray, List.getElem_cons_zero, List.getElem_cons_succ]); (refine wpAnyH_take (i := 7) (v := ?_) rfl (by kernel_rfl) (by kernel_rfl) (by kernel_rfl) (fun _ _ _ h => h) (Or.inl ⟨by rfl, ?_⟩) (by assumption) ?_; rotate_left; focus (intro w hSw; (try dsimp only at hSw); go_simp; (try with_reducible rfl); done)); (try simp only [Act.put, List.setIfInBounds_toArray, List.set_cons_zero, List.set_cons_succ, List.getElem_toArray, List.getElem_cons_zero, List.getElem_cons_succ]); (refine wpAnyH_take (i := 8) (v := ?_) rfl (by kernel_rfl) (by kernel_rfl) (by kernel_rfl) (fun _ _ _ h => h) (Or.inl ⟨by rfl, ?_⟩) (by assumption) ?_; rotate_left; focus (intro w hSw; (try dsimp only at hSw); go_simp; (try with_reducible rfl); done)); (try simp only [Act.put, List.setIfInBounds_toArray, List.set_cons_zero, List.set_cons_succ, List.getElem_toArray, List.getElem_cons_zero, List.getElem_cons_succ]); (refine wpAnyH_take (i := 9) (v := ?_) rfl (by kernel_rfl) (by kernel_rfl) (by kernel_rfl) (fun _ _ _ h => h) (Or.inl ⟨by rfl, ?_⟩) (by assumption) ?_; rotate_left; focus (intro w hSw; (try dsimp only at hSw); go_simp; (try with_reducible rfl); done)); (try simp only [Act.put, List.setIfInBounds_toArray, List.set_cons_zero, List.set_cons_succ, List.getElem_toArray, List.getElem_cons_zero, List.getElem_cons_succ]); (refine wpAnyH_take (i := 10) (v := ?_) rfl (by kernel_rfl) (by kernel_rfl) (by kernel_rfl) (fun _ _ _ h => h) (Or.inl ⟨by rfl, ?_⟩) (by assumption) ?_; rotate_left; focus (intro w hSw; (try dsimp only at hSw); go_simp; (try with_reducible rfl); done)); (try simp only [Act.put, List.setIfInBounds_toArray, List.set_cons_zero, List.set_cons_succ, List.getElem_toArray, List.getElem_cons_zero, List.getElem_cons_succ]); (refine wpAnyH_take (i := 11) (v := ?_) rfl (by kernel_rfl) (by kernel_rfl) (by kernel_rfl) (fun _ _ _ h => h) (Or.inl ⟨by rfl, ?_⟩) (by assumption) ?_; rotate_left; focus (intro w hSw; (try dsimp only at hSw); go_simp; (try with_reducible rfl); done)); (try simp only [Act.put, List.setIfInBounds_toArray, List.set_cons_zero, List.set_cons_succ, List.getElem_toArray, List.getElem_cons_zero, List.getElem_cons_succ]); (refine wpAnyH_take (i := 12) (v := ?_) rfl (by kernel_rfl) (by kernel_rfl) (by kernel_rfl) (fun _ _ _ h => h) (Or.inl ⟨by rfl, ?_⟩) (by assumption) ?_; rotate_left; focus (intro w hSw; (try dsimp only at hSw); go_simp; (try with_reducible rfl); done)); (try simp only [Act.put, List.setIfInBounds_toArray, List.set_cons_zero, List.set_cons_succ, List.getElem_toArray, List.getElem_cons_zero, List.getElem_cons_succ]); (refine wpAnyH_take (i := 13) (v := ?_) rfl (by kernel_rfl) (by kernel_rfl) (by kernel_rfl) (fun _ _ _ h => h) (Or.inl ⟨by rfl, ?_⟩) (by assumption) ?_; rotate_left; focus (intro w hSw; (try dsimp only at hSw); go_simp; (try with_reducible rfl); done)); (try simp only [Act.put, List.setIfInBounds_toArray, List.set_cons_zero, List.set_cons_succ, List.getElem_toArray, List.getElem_cons_zero, List.getElem_cons_succ]); (refine wpAnyH_take (i := 14) (v := ?_) rfl (by kernel_rfl) (by kernel_rfl) (by kernel_rfl) (fun _ _ _ h => h) (Or.inl ⟨by rfl, ?_⟩) (by assumption) ?_; rotate_left; focus (intro w hSw; (try dsimp only at hSw); go_simp; (try with_reducible rfl); done)); (try simp only [Act.put, List.setIfInBounds_toArray, List.set_cons_zero, List.set_cons_succ, List.getElem_toArray, List.getElem_cons_zero, List.getElem_cons_succ]); (refine wpAnyH_take (i := 15) (v := ?_) rfl (by kernel_rfl) (by kernel_rfl) (by kernel_rfl) (fun _ _ _ h => h) (Or.inl ⟨by rfl, ?_⟩) (by assumption) ?_; rotate_left; focus (intro w hSw; (try dsimp only at hSw); go_simp; (try with_reducible rfl); done)); (try simp only [Act.put, List.setIfInBounds_toArray, List.set_cons_zero, List.set_cons_succ, List.getElem_toArray, List.getElem_cons_zero, List.getElem_cons_succ]); (refine wpAnyH_take (i := 16) (v := ?_) rfl (by kernel_rfl) (by kernel_rfl) (by kernel_rfl) (fun _ _ _ h => h) (Or.inl ⟨by rfl, ?_⟩) (by assumption) ?_; rotate_left; focus (intro w hSw; (try dsimp only at hSw); go_simp; (try with_reducible rfl); done)); (try simp only [Act.put, List.setIfInBounds_toArray, List.set_cons_zero, List.set_cons_succ, List.getElem_toArray, List.getElem_cons_zero, List.getElem_cons_succ]); (refine wpAnyH_take (i := 17) (v := ?_) rfl (by kernel_rfl) (by kernel_rfl) (by kernel_rfl) (fun _ _ _ h => h) (Or.inl ⟨by rfl, ?_⟩) (by assumption) ?_; rotate_left; focus (intro w hSw; (try dsimp only at hSw); go_simp; (try with_reducible rfl); done)); (try simp only [Act.put, List.setIfInBounds_toArray, List.set_cons_zero, List.set_cons_succ, List.getElem_toArray, List.getElem_cons_zero, List.getElem_cons_succ]); (refine wpAnyH_take (i := 18) (v := ?_) rfl (by kernel_rfl) (by kernel_rfl) (by kernel_rfl) (fun _ _ _ h => h) (Or.inl ⟨by rfl, ?_⟩) (by assumption) ?_; rotate_left; focus (intro w hSw; (try dsimp only at hSw); go_simp; (try with_reducible rfl); done)); (try simp only [Act.put, List.setIfInBounds_toArray, List.set_cons_zero, List.set_cons_succ, List.getElem_toArray, List.getElem_cons_zero, List.getElem_cons_succ]); (refine wpAnyH_take (i := 19) (v := ?_) rfl (by kernel_rfl) (by kernel_rfl) (by kernel_rfl) (fun _ _ _ h => h) (Or.inl ⟨by rfl, ?_⟩) (by assumption) ?_; rotate_left; focus (intro w hSw; (try dsimp only at hSw); go_simp; (try with_reducible rfl); done)); (try simp only [Act.put, List.setIfInBounds_toArray, List.set_cons_zero, List.set_cons_succ, List.getElem_toArray, List.getElem_cons_zero, List.getElem_cons_succ]); (refine wpAnyH_take (i := 20) (v := ?_) rfl (by kernel_rfl) (by kernel_rfl) (by kernel_rfl) (fun _ _ _ h => h) (Or.inl ⟨by rfl, ?_⟩) (by assumption) ?_; rotate_left; focus (intro w hSw; (try dsimp only at hSw); go_simp; (try with_reducible rfl); done)); (try simp only [Act.put, List.setIfInBounds_toArray, List.set_cons_zero, List.set_cons_succ, List.getElem_toArray, List.getElem_cons_zero, List.getElem_cons_succ]); (refine wpAnyH_take (i := 21) (v := ?_) rfl (by kernel_rfl) (by kernel_rfl) (by kernel_rfl) (fun _ _ _ h => h) (Or.inl ⟨by rfl, ?_⟩) (by assumption) ?_; rotate_left; focus (intro w hSw; (try dsimp only at hSw); go_simp; (try with_reducible rfl); done)); (try simp only [Act.put, List.setIfInBounds_toArray, List.set_cons_zero, List.set_cons_succ, List.getElem_toArray, List.getElem_cons_zero, List.getElem_cons_succ]); (refine wpAnyH_take (i := 22) (v := ?_) rfl (by kernel_rfl) (by kernel_rfl) (by kernel_rfl) (fun _ _ _ h => h) (Or.inl ⟨by rfl, ?_⟩) (by assumption) ?_; rotate_left; focus (intro w hSw; (try dsimp only at hSw); go_simp; (try with_reducible rfl); done)); (try simp only [Act.put, List.setIfInBounds_toArray, List.set_cons_zero, List.set_cons_succ, List.getElem_toArray, List.getElem_cons_zero, List.getElem_cons_succ]); (refine wpAnyH_take (i := 23) (v := ?_) rfl (by kernel_rfl) (by kernel_rfl) (by kernel_rfl) (fun _ _ _ h => h) (Or.inl ⟨by rfl, ?_⟩) (by assumption) ?_; rotate_left; focus (intro w hSw; (try dsimp only at hSw); go_simp; (try with_reducible rfl); done)); (try simp only [Act.put, List.setIfInBounds_toArray, List.set_cons_zero, List.set_cons_succ, List.getElem_toArray, List.getElem_cons_zero, List.getElem_cons_succ]); (refine wpAnyH_take (i := 24) (v := ?_) rfl (by kernel_rfl) (by kernel_rfl) (by kernel_rfl) (fun _ _ _ h => h) (Or.inl ⟨by rfl, ?_⟩) (by assumption) ?_; rotate_left; focus (intro w hSw; (try dsimp only at hSw); go_simp; (try with_reducible rfl); done)); (try simp only [Act.put, List.setIfInBounds_toArray, List.set_cons_zero, List.set_cons_succ, List.getElem_toArray, List.getElem_cons_zero, List.getElem_cons_succ]); (refine wpAnyH_take (i := 25) (v := ?_) rfl (by kernel_rfl) (by kernel_rfl) (by kernel_rfl) (fun _ _ _ h => h) (Or.inl ⟨by rfl, ?_⟩) (by assumption) ?_; rotate_left; focus (intro w hSw; (try dsimp only at hSw); go_simp; (try with_reducible rfl); done)); (try simp only [Act.put, List.setIfInBounds_toArray, List.set_cons_zero, List.set_cons_succ, List.getElem_toArray, List.getElem_cons_zero, List.getElem_cons_succ]); (refine wpAnyH_take (i := 26) (v := ?_) rfl (by kernel_rfl) (by kernel_rfl) (by kernel_rfl) (fun _ _ _ h => h) (Or.inl ⟨by rfl, ?_⟩) (by assumption) ?_; rotate_left; focus (intro w hSw; (try dsimp only at hSw); go_simp; (try with_reducible rfl); done)); (try simp only [Act.put, List.setIfInBounds_toArray, List.set_cons_zero, List.set_cons_succ, List.getElem_toArray, List.getElem_cons_zero, List.getElem_cons_succ]); (refine wpAnyH_take (i := 27) (v := ?_) rfl (by kernel_rfl) (by kernel_rfl) (by kernel_rfl) (fun _ _ _ h => h) (Or.inl ⟨by rfl, ?_⟩) (by assumption) ?_; rotate_left; focus (intro w hSw; (try dsimp only at hSw); go_simp; (try with_reducible rfl); done)); (try simp only [Act.put, List.setIfInBounds_toArray, List.set_cons_zero, List.set_cons_succ, List.getElem_toArray, List.getElem_cons_zero, List.getElem_cons_succ]); (refine wpAnyH_take (i := 28) (v := ?_) rfl (by kernel_rfl) (by kernel_rfl) (by kernel_rfl) (fun _ _ _ h => h) (Or.inl ⟨by rfl, ?_⟩) (by assumption) ?_; rotate_left; focus (intro w hSw; (try dsimp only at hSw); go_simp; (try with_reducible rfl); done)); (try simp only [Act.put, List.setIfInBounds_toArray, List.set_cons_zero, List.set_cons_succ, List.getElem_toArray, List.getElem_cons_zero, List.getElem_cons_succ]); (refine wpAnyH_take (i := 29) (v := ?_) rfl (by kernel_rfl) (by kernel_rfl) (by kernel_rfl) (fun _ _ _ h => h) (Or.inl ⟨by rfl, ?_⟩) (by assumption) ?_; rotate_left; focus (intro w hSw; (try dsimp only at hSw); go_simp; (try with_reducible rfl); done)); (try simp only [Act.put, List.setIfInBounds_toArray, List.set_cons_zero, List.set_cons_succ, List.getElem_toArray, List.getElem_cons_zero, List.getElem_cons_succ]))
  (refine wpAnyH_done (by kernel_rfl) ?_ _)
  have hA : Ob w1 w.heap.size #[.slice (some ⟨ga, oa, none⟩) n cn, .slice (some ⟨gb, ob, none⟩) n cm] 28 := (by (repeat (first | with_reducible assumption | with_reducible refine Ob.other ?_ (by first | (simp; done) | (simp; omega)) _ | ((with_reducible refine Ob.new_ _ _ _ _ ?_) <;> (simp; done)) | with_reducible refine Ob.alloc ?_ _ | with_reducible refine Ob.drew ?_ | with_reducible refine Ob.drewN ?_ _ | with_reducible refine Ob.no ?_ (by assumption))))
  have hR1 : Ob w1 (w.heap.size + 1) #[.slice none 0 0, .slice none 0 0] 28 := (by (repeat (first | with_reducible assumption | with_reducible refine Ob.other ?_ (by first | (simp; done) | (simp; omega)) _ | ((with_reducible refine Ob.new_ _ _ _ _ ?_) <;> (simp; done)) | with_reducible refine Ob.alloc ?_ _ | with_reducible refine Ob.drew ?_ | with_reducible refine Ob.drewN ?_ _ | with_reducible refine Ob.no ?_ (by assumption))))
  have hR2 : Ob w1 (w.heap.size + 1 + 1) #[.slice none 0 0, .slice none 0 0] 28 := (by (repeat (first | with_reducible assumption | with_reducible refine Ob.other ?_ (by first | (simp; done) | (simp; omega)) _ | ((with_reducible refine Ob.new_ _ _ _ _ ?_) <;> (simp; done)) | with_reducible refine Ob.alloc ?_ _ | with_reducible refine Ob.drew ?_ | with_reducible refine Ob.drewN ?_ _ | with_reducible refine Ob.no ?_ (by assumption))))
  have hl1 : Kv w1 (some ⟨ga, oa, none⟩) n cn lo := (by (repeat (first | with_reducible assumption | ((with_reducible refine Kv.lit_new _ _ _ _ _ _ ?_ ?_ ?_ ?_) <;> (first | (simp; done) | rfl | decide)) | with_reducible exact Kv.none_ _ | with_reducible refine Kv.alloc ?_ _ | with_reducible refine Kv.drew ?_ | with_reducible refine Kv.drewN ?_ _ | with_reducible refine Kv.no ?_ (by assumption))))
  have hh1 : Kv w1 (some ⟨gb, ob, none⟩) n cm hi := (by (repeat (first | with_reducible assumption | ((with_reducible refine Kv.lit_new _ _ _ _ _ _ ?_ ?_ ?_ ?_) <;> (first | (simp; done) | rfl | decide)) | with_reducible exact Kv.none_ _ | with_reducible refine Kv.alloc ?_ _ | with_reducible refine Kv.drew ?_ | with_reducible refine Kv.drewN ?_ _ | with_reducible refine Kv.no ?_ (by assumption))))
  have hF1 : Fr No w w1 := (by (repeat (first | with_reducible exact Fr.refl _ _ | with_reducible refine Fr.setCell ?_ (.inr (by first | (simp; done) | (simp; omega))) _ | with_reducible refine Fr.alloc ?_ _ | with_reducible refine Fr.drew ?_ | with_reducible refine Fr.drewN ?_ _ | with_reducible refine Fr.tr ?_ (by assumption))))
  obtain ⟨s0, s1⟩ := cells2 hA
  have ca1 : w1.cell? ⟨ga, oa + j, none⟩ = some (.int .u32 (x : Int)) := (by (repeat (first | with_reducible assumption | with_reducible refine cel_alloc ?_ _ | with_reducible refine cel_drew ?_ | with_reducible refine cel_drewN ?_ _ | with_reducible refine cel_set ?_ (by first | (simp; done) | (simp; omega)) _ | with_reducible refine cel_no ?_ (by assumption))))
  have cb1 : w1.cell? ⟨gb, ob + j, none⟩ = some (.int .u32 (y : Int)) := (by (repeat (first | with_reducible assumption | with_reducible refine cel_alloc ?_ _ | with_reducible refine cel_drew ?_ | with_reducible refine cel_drewN ?_ _ | with_reducible refine cel_set ?_ (by first | (simp; done) | (simp; omega)) _ | with_reducible refine cel_no ?_ (by assumption))))
  go_wp2
  go_quiet (fail)
  rw [Hmd2.out]
  have hA' := hA.drewN nq
  have hR1' := hR1.drewN nq
  have hR2' := hR2.drewN nq
  have hl1' := hl1.no ((Fr.refl No w1).drewN nq)
  have hh1' := hh1.no ((Fr.refl No w1).drewN nq)
  have hF1' := hF1.drewN nq
  clear hA hR1 hR2 hl1 hh1 hF1 s0 s1 ca1 cb1 hf1 q0 q1 q2 q3 r0 r1 r2 r3
  generalize w1.drewN nq = w1 at *
  have hA := hA'
  have hR1 := hR1'
  have hR2 := hR2'
  have hl1 := hl1'
  have hh1 := hh1'
  have hF1 := hF1'
  clear hA' hR1' hR2' hl1' hh1' hF1'
  have hz1 := hF1.size
  have hz2 : w.heap.size + 1 + 1 + 1 ≤ w1.heap.size := by have := hR2.lt; omega
  go_wp2_with fail
  go_upto_region 5 with (fail)
  go_cut [8] (fun v wx => ∃ g a ca b cb, v = .pointer (some ⟨g, 0, none⟩) ∧ Hid (H1 w wx (some ⟨ga, oa, none⟩) (some ⟨gb, ob, none⟩) n cn cm lo hi g a ca b cb))
  case first =>
    go_region_held3 (fun w' => w'.cell? ⟨w.heap.size, 0, none⟩ = some (.slice (some ⟨ga, oa, none⟩) n cn) ∧ w'.cell? ⟨w.heap.size, 1, none⟩ = some (.slice (some ⟨gb, ob, none⟩) n cm))
      ((refine cells2 (t := 28) ?_; (repeat (first | with_reducible assumption | with_reducible refine Ob.other ?_ (by first | (simp; done) | (simp; omega)) _ | ((with_reducible refine Ob.new_ _ _ _ _ ?_) <;> (simp; done)) | with_reducible refine Ob.alloc ?_ _ | with_reducible refine Ob.drew ?_ | with_reducible refine Ob.drewN ?_ _ | with_reducible refine Ob.no ?_ (by assumption)))))
      (first
        | (go_at_call 41; ((with_reducible refine (rcopy_any (ks := lo) ?_ q3).mono ?_); (repeat (first | with_reducible assumption | ((with_reducible refine Kv.lit_new _ _ _ _ _ _ ?_ ?_ ?_ ?_) <;> (first | (simp; done) | rfl | decide)) | with_reducible exact Kv.none_ _ | with_reducible refine Kv.alloc ?_ _ | with_reducible refine Kv.drew ?_ | with_reducible refine Kv.drewN ?_ _ | with_reducible refine Kv.no ?_ (by assumption))); rintro e w2 ⟨A2, c2, rfl, ho2, hf2⟩; obtain ⟨a2, rfl, l2, k2⟩ := own_some ho2 (Nat.lt_of_le_of_lt (Nat.zero_le _) q1); have hp2 := own_base ho2 (show w.heap.size + 1 + 1 + 1 ≤ _ from (by first | omega | (simp; omega)))))
        | (go_at_call 41; ((with_reducible refine (rcopy_any (ks := hi) ?_ q3).mono ?_); (repeat (first | with_reducible assumption | ((with_reducible refine Kv.lit_new _ _ _ _ _ _ ?_ ?_ ?_ ?_) <;> (first | (simp; done) | rfl | decide)) | with_reducible exact Kv.none_ _ | with_reducible refine Kv.alloc ?_ _ | with_reducible refine Kv.drew ?_ | with_reducible refine Kv.drewN ?_ _ | with_reducible refine Kv.no ?_ (by assumption))); rintro e w3 ⟨A3, c3, rfl, ho3, hf3⟩; obtain ⟨a3, rfl, l3, k3⟩ := own_some ho3 (Nat.lt_of_le_of_lt (Nat.zero_le _) q1); have hz2 := hf2.size; (try simp at hz2); have hp3 := own_base ho3 (show w.heap.size + 1 + 1 + 1 ≤ _ from (by first | omega | (simp; omega))); have hz3 := hf3.size; (try simp at hz3); (try simp at l2); (try simp at l3); (try (refine use_ (a := Ob w3 w1.heap.size #[.slice none 0 0, .slice none 0 0] 28) ?_ (fun zz => ?_); (focus ((repeat (first | with_reducible assumption | with_reducible refine Ob.other ?_ (by first | (simp; done) | (simp; omega)) _ | ((with_reducible refine Ob.new_ _ _ _ _ ?_) <;> (simp; done)) | with_reducible refine Ob.alloc ?_ _ | with_reducible refine Ob.drew ?_ | with_reducible refine Ob.drewN ?_ _ | with_reducible refine Ob.no ?_ (by assumption))); done)); obtain ⟨z0, z1, z2, z3⟩ := Ob.four zz; clear zz)); (try (refine use_ (a := Ob w3 w2.heap.size #[.slice none 0 0, .slice none 0 0] 28) ?_ (fun zz => ?_); (focus ((repeat (first | with_reducible assumption | with_reducible refine Ob.other ?_ (by first | (simp; done) | (simp; omega)) _ | ((with_reducible refine Ob.new_ _ _ _ _ ?_) <;> (simp; done)) | with_reducible refine Ob.alloc ?_ _ | with_reducible refine Ob.drew ?_ | with_reducible refine Ob.drewN ?_ _ | with_reducible refine Ob.no ?_ (by assumption))); done)); obtain ⟨z0, z1, z2, z3⟩ := Ob.four zz; clear zz))))
        | fail)
    all_goals
      go_wp2_with fail
      go_meet
      refine ⟨_, a2, c2, a3, c3, rfl, Lib.hid ⟨?_, ?_, ?_, ⟨?_, ?_, ?_, ?_, ?_⟩, ?_⟩⟩
      all_goals try (first | ((with_reducible refine Ob.put2 (x := .slice none 0 0) (y := .slice none 0 0) ?_ _ _); (repeat (first | with_reducible assumption | with_reducible refine Ob.other ?_ (by first | (simp; done) | (simp; omega)) _ | ((with_reducible refine Ob.new_ _ _ _ _ ?_) <;> (simp; done)) | with_reducible refine Ob.alloc ?_ _ | with_reducible refine Ob.drew ?_ | with_reducible refine Ob.drewN ?_ _ | with_reducible refine Ob.no ?_ (by assumption))); done) | ((repeat (first | with_reducible assumption | with_reducible refine Ob.other ?_ (by first | (simp; done) | (simp; omega)) _ | ((with_reducible refine Ob.new_ _ _ _ _ ?_) <;> (simp; done)) | with_reducible refine Ob.alloc ?_ _ | with_reducible refine Ob.drew ?_ | with_reducible refine Ob.drewN ?_ _ | with_reducible refine Ob.no ?_ (by assumption))); done))
      all_goals try ((repeat (first | with_reducible assumption | with_reducible refine own_putb ?_ (by first | (simp; done) | (simp; omega)) _ | with_reducible refine World.ownsRow.alloc ?_ _ | with_reducible refine World.ownsRow.drew ?_ | with_reducible refine own_drewN ?_ _ | with_reducible refine own_no ?_ (by assumption))); done)
      all_goals try (first | omega | (refine ⟨?_, ?_, ?_⟩ <;> omega))
      all_goals try ((repeat (first | with_reducible exact Fr.refl _ _ | with_reducible refine Fr.setCell ?_ (.inr (by first | (simp; done) | (simp; omega))) _ | with_reducible refine Fr.alloc ?_ _ | with_reducible refine Fr.drew ?_ | with_reducible refine Fr.drewN ?_ _ | with_reducible refine Fr.tr ?_ (by assumption))); done)
  case rest =>
    clear hz1 hz2 hA hR1 hR2 hl1 hh1 hF1
    obtain ⟨g, a, ca, b, cb, rfl, H⟩ := hcut
    generalize wc = w1 at *
    have hA := H.out.arg
    have hR1 := H.out.r1
    have hR2 := H.out.r2
    have hl1 := hl.no H.out.fr
    have hh1 := hh.no H.out.fr
    have hF1 := H.out.fr
    have hB := H.out.bx
    obtain ⟨u1, u2, u3, u4, u5, u6⟩ := H.out.bx.blk
    have hz1 := hF1.size
    go_upto_region 6 with (fail)
    go_cut [9] (fun v wx => ∃ k c cc d cd, v = .pointer (some ⟨k, 0, none⟩) ∧ Hid (H2 w wx w1.heap.size n lo hi lo hi g a ca b cb k c cc d cd))
    case first =>
      go_region_held3 (fun w' => w'.cell? ⟨w.heap.size, 0, none⟩ = some (.slice (some ⟨ga, oa, none⟩) n cn) ∧ w'.cell? ⟨w.heap.size, 1, none⟩ = some (.slice (some ⟨gb, ob, none⟩) n cm))
        ((refine cells2 (t := 28) ?_; (repeat (first | with_reducible assumption | with_reducible refine Ob.other ?_ (by first | (simp; done) | (simp; omega)) _ | ((with_reducible refine Ob.new_ _ _ _ _ ?_) <;> (simp; done)) | with_reducible refine Ob.alloc ?_ _ | with_reducible refine Ob.drew ?_ | with_reducible refine Ob.drewN ?_ _ | with_reducible refine Ob.no ?_ (by assumption)))))
        (first
          | (go_at_call 41; ((with_reducible refine (rcopy_any (ks := lo) ?_ q3).mono ?_); (repeat (first | with_reducible assumption | ((with_reducible refine Kv.lit_new _ _ _ _ _ _ ?_ ?_ ?_ ?_) <;> (first | (simp; done) | rfl | decide)) | with_reducible exact Kv.none_ _ | with_reducible refine Kv.alloc ?_ _ | with_reducible refine Kv.drew ?_ | with_reducible refine Kv.drewN ?_ _ | with_reducible refine Kv.no ?_ (by assumption))); rintro e w2 ⟨A2, c2, rfl, ho2, hf2⟩; obtain ⟨a2, rfl, l2, k2⟩ := own_some ho2 (Nat.lt_of_le_of_lt (Nat.zero_le _) q1); have hp2 := own_base ho2 (show w.heap.size + 1 + 1 + 1 ≤ _ from (by first | omega | (simp; omega)))))
          | (go_at_call 41; ((with_reducible refine (rcopy_any (ks := hi) ?_ q3).mono ?_); (repeat (first | with_reducible assumption | ((with_reducible refine Kv.lit_new _ _ _ _ _ _ ?_ ?_ ?_ ?_) <;> (first | (simp; done) | rfl | decide)) | with_reducible exact Kv.none_ _ | with_reducible refine Kv.alloc ?_ _ | with_reducible refine Kv.drew ?_ | with_reducible refine Kv.drewN ?_ _ | with_reducible refine Kv.no ?_ (by assumption))); rintro e w3 ⟨A3, c3, rfl, ho3, hf3⟩; obtain ⟨a3, rfl, l3, k3⟩ := own_some ho3 (Nat.lt_of_le_of_lt (Nat.zero_le _) q1); have hz2 := hf2.size; (try simp at hz2); have hp3 := own_base ho3 (show w.heap.size + 1 + 1 + 1 ≤ _ from (by first | omega | (simp; omega))); have hz3 := hf3.size; (try simp at hz3); (try simp at l2); (try simp at l3); (try (refine use_ (a := Ob w3 w1.heap.size #[.slice none 0 0, .slice none 0 0] 28) ?_ (fun zz => ?_); (focus ((repeat (first | with_reducible assumption | with_reducible refine Ob.other ?_ (by first | (simp; done) | (simp; omega)) _ | ((with_reducible refine Ob.new_ _ _ _ _ ?_) <;> (simp; done)) | with_reducible refine Ob.alloc ?_ _ | with_reducible refine Ob.drew ?_ | with_reducible refine Ob.drewN ?_ _ | with_reducible refine Ob.no ?_ (by assumption))); done)); obtain ⟨z0, z1, z2, z3⟩ := Ob.four zz; clear zz)); (try (refine use_ (a := Ob w3 w2.heap.size #[.slice none 0 0, .slice none 0 0] 28) ?_ (fun zz => ?_); (focus ((repeat (first | with_reducible assumption | with_reducible refine Ob.other ?_ (by first | (simp; done) | (simp; omega)) _ | ((with_reducible refine Ob.new_ _ _ _ _ ?_) <;> (simp; done)) | with_reducible refine Ob.alloc ?_ _ | with_reducible refine Ob.drew ?_ | with_reducible refine Ob.drewN ?_ _ | with_reducible refine Ob.no ?_ (by assumption))); done)); obtain ⟨z0, z1, z2, z3⟩ := Ob.four zz; clear zz))))
          | fail)
      all_goals
        go_wp2_with fail
        go_meet
        refine ⟨_, a2, c2, a3, c3, rfl, Lib.hid ⟨?_, ?_, ?_, ⟨?_, ?_, ?_, ?_, ?_⟩, ?_, ?_⟩⟩
        all_goals try (first | ((with_reducible refine Ob.put2 (x := .slice none 0 0) (y := .slice none 0 0) ?_ _ _); (repeat (first | with_reducible assumption | with_reducible refine Ob.other ?_ (by first | (simp; done) | (simp; omega)) _ | ((with_reducible refine Ob.new_ _ _ _ _ ?_) <;> (simp; done)) | with_reducible refine Ob.alloc ?_ _ | with_reducible refine Ob.drew ?_ | with_reducible refine Ob.drewN ?_ _ | with_reducible refine Ob.no ?_ (by assumption))); done) | ((repeat (first | with_reducible assumption | with_reducible refine Ob.other ?_ (by first | (simp; done) | (simp; omega)) _ | ((with_reducible refine Ob.new_ _ _ _ _ ?_) <;> (simp; done)) | with_reducible refine Ob.alloc ?_ _ | with_reducible refine Ob.drew ?_ | with_reducible refine Ob.drewN ?_ _ | with_reducible refine Ob.no ?_ (by assumption))); done))
        all_goals try ((repeat (first | with_reducible assumption | with_reducible refine own_putb ?_ (by first | (simp; done) | (simp; omega)) _ | with_reducible refine World.ownsRow.alloc ?_ _ | with_reducible refine World.ownsRow.drew ?_ | with_reducible refine own_drewN ?_ _ | with_reducible refine own_no ?_ (by assumption))); done)
        all_goals try (first | omega | (refine ⟨?_, ?_, ?_⟩ <;> omega))
        all_goals try ((repeat (first | with_reducible exact Fr.refl _ _ | with_reducible refine Fr.setCell ?_ (.inr (by first | (simp; done) | (simp; omega))) _ | with_reducible refine Fr.alloc ?_ _ | with_reducible refine Fr.drew ?_ | with_reducible refine Fr.drewN ?_ _ | with_reducible refine Fr.tr ?_ (by assumption))); done)
        all_goals try (repeat (first | with_reducible assumption | with_reducible refine Bo.alloc ?_ _ | with_reducible refine Bo.drew ?_ | with_reducible refine Bo.other ?_ (by simp; omega) _ | with_reducible refine Bo.no ?_ (by assumption)))
    case rest =>
      clear hz1 hA hR1 hR2 hl1 hh1 hF1 hB
      obtain ⟨k, c, cc, d, cd, rfl, H2⟩ := hcut
      generalize w1.heap.size = B0 at *
      clear H u1 u2 u3 u4 u5 u6
      generalize wc = w2 at *
      obtain ⟨x0, x1, x2, x3, x4, x5⟩ := H2.out.bx.eyes q1
      obtain ⟨y0, y1, y2, y3, y4, y5⟩ := H2.out.b2.eyes q1
      have hcap := H2.out.bx.ob
      have k1 : n ≤ cb := by
        rcases H2.out.bx.hi.2 with ⟨h, _⟩ | ⟨_, _, _, h, _, _, h2, _⟩
        · cases h
        · injection h with _ _ h; omega
      have k2 : n ≤ cc := by
        rcases H2.out.b2.lo.2 with ⟨h, _⟩ | ⟨_, _, _, h, _, _, h2, _⟩
        · cases h
        · injection h with _ _ h; omega
      obtain ⟨l1, l2, l3, l4, l5, l6⟩ := H2.out.lt
      have nbc : b ≠ c := by omega
      have ngb : g ≠ b := H2.out.bx.ne.2.2
      have ngc : g ≠ c := by omega
      have nkb : k ≠ b := by omega
      have nkc : k ≠ c := H2.out.b2.ne.2.1
      have hwr : IntKind.u32.wrap ((mid : Int) + 1) = ((mid + 1 : Nat) : Int) := (Go.IntWalk.u32_in _ (by omega)).trans (by omega)
      go_wp2_with fail
      have h3 : Ha16.H2 w ((w2.setCell ⟨b, j, none⟩ (.int .u32 (mid : Int))).setCell ⟨c, j, none⟩ (.int .u32 ((mid : Int) + 1))) B0 n lo (hi.set j mid) (lo.set j (mid + 1)) hi g a ca b cb k c cc d cd := H2.out.set j mid (mid + 1)
      have H3 := Lib.hid h3
      clear x0 x1 x2 x3 x4 x5 y0 y1 y2 y3 y4 y5 hcap k1 k2 nbc ngb ngc nkb nkc H2 h3
      generalize ((w2.setCell ⟨b, j, none⟩ (.int .u32 (mid : Int))).setCell ⟨c, j, none⟩ (.int .u32 ((mid : Int) + 1))) = w3 at *
      obtain ⟨x0, x1⟩ := cells2 H3.out.bx.ob
      obtain ⟨y0, y1⟩ := cells2 H3.out.b2.ob
      obtain ⟨z0, z1, z2, z3⟩ := Ob.four H3.out.r1
      obtain ⟨v0, v1, v2, v3⟩ := Ob.four H3.out.r2
      obtain ⟨u1, u2, u3, u4, u5, u6⟩ := H3.out.bx.blk
      obtain ⟨t1, t2, t3, t4, t5, t6⟩ := H3.out.b2.blk
      go_region_held3 (fun w' => w'.cell? ⟨g, 0, none⟩ = some (.slice (some ⟨a, 0, none⟩) n ca) ∧ w'.cell? ⟨g, 1, none⟩ = some (.slice (some ⟨b, 0, none⟩) n cb) ∧ w'.cell? ⟨k, 0, none⟩ = some (.slice (some ⟨c, 0, none⟩) n cc) ∧ w'.cell? ⟨k, 1, none⟩ = some (.slice (some ⟨d, 0, none⟩) n cd))
        (refine ⟨?_, ?_, ?_, ?_⟩ <;> (repeat (first | with_reducible assumption | with_reducible refine cel_alloc ?_ _ | with_reducible refine cel_drew ?_ | with_reducible refine cel_drewN ?_ _ | with_reducible refine cel_set ?_ (by first | (simp; done) | (simp; omega)) _ | with_reducible refine cel_no ?_ (by assumption)))) (fail)
      have P1 : Ob ((((w3.setCell ⟨w.heap.size + 1, 0, none⟩ (.slice (some ⟨a, 0, none⟩) n ca)).setCell ⟨w.heap.size + 1, 1, none⟩ (.slice (some ⟨b, 0, none⟩) n cb)).setCell ⟨w.heap.size + 1 + 1, 0, none⟩ (.slice (some ⟨c, 0, none⟩) n cc)).setCell ⟨w.heap.size + 1 + 1, 1, none⟩ (.slice (some ⟨d, 0, none⟩) n cd)) (w.heap.size + 1) #[.slice (some ⟨a, 0, none⟩) n ca, .slice (some ⟨b, 0, none⟩) n cb] 28 := ((Ob.put2 H3.out.r1 _ _).other (p := ⟨w.heap.size + 1 + 1, 0, none⟩) (by simp) _).other (p := ⟨w.heap.size + 1 + 1, 1, none⟩) (by simp) _
      have P2 : Ob ((((w3.setCell ⟨w.heap.size + 1, 0, none⟩ (.slice (some ⟨a, 0, none⟩) n ca)).setCell ⟨w.heap.size + 1, 1, none⟩ (.slice (some ⟨b, 0, none⟩) n cb)).setCell ⟨w.heap.size + 1 + 1, 0, none⟩ (.slice (some ⟨c, 0, none⟩) n cc)).setCell ⟨w.heap.size + 1 + 1, 1, none⟩ (.slice (some ⟨d, 0, none⟩) n cd)) (w.heap.size + 1 + 1) #[.slice (some ⟨c, 0, none⟩) n cc, .slice (some ⟨d, 0, none⟩) n cd] 28 := Ob.put2 ((H3.out.r2.other (p := ⟨w.heap.size + 1, 0, none⟩) (by simp) _).other (p := ⟨w.heap.size + 1, 1, none⟩) (by simp) _) _ _
      obtain ⟨r0, r1⟩ := cells2 P1
      obtain ⟨r2, r3⟩ := cells2 P2
      go_wp2
      refine bodyPost_ret (v := .tuple #[.agg #[.slice (some ⟨a, 0, none⟩) n ca, .slice (some ⟨b, 0, none⟩) n cb], .agg #[.slice (some ⟨c, 0, none⟩) n cc, .slice (some ⟨d, 0, none⟩) n cd], .bool true]) (by simp [results, Try.results28, go_sem, r0, r1, r2, r3]) rfl ?_
      obtain ⟨l1, l2, l3, l4, l5, l6⟩ := H3.out.lt
      have o1 := H3.out.bx.lo
      have o2 := H3.out.bx.hi
      have o3 := H3.out.b2.lo
      have o4 := H3.out.b2.hi
      have F := H3.out.fr
      refine ⟨a, ca, b, cb, c, cc, d, cd, rfl, ?_, ?_, ?_, ?_, H3.out.bx.ne.1, H3.out.b2.ne.1, by omega, by omega, ?_⟩
      · refine own_base (base := w.heap.size + 1 + 1 + 1) ?_ (by omega)
        (repeat (first | with_reducible assumption | with_reducible refine own_putb ?_ (by first | (simp; done) | (simp; omega)) _ | with_reducible refine World.ownsRow.alloc ?_ _ | with_reducible refine World.ownsRow.drew ?_ | with_reducible refine own_drewN ?_ _ | with_reducible refine own_no ?_ (by assumption)))
      · refine own_base (base := w.heap.size + 1 + 1 + 1) ?_ (by omega)
        (repeat (first | with_reducible assumption | with_reducible refine own_putb ?_ (by first | (simp; done) | (simp; omega)) _ | with_reducible refine World.ownsRow.alloc ?_ _ | with_reducible refine World.ownsRow.drew ?_ | with_reducible refine own_drewN ?_ _ | with_reducible refine own_no ?_ (by assumption)))
      · refine own_base (base := w.heap.size + 1 + 1 + 1) ?_ (by omega)
        (repeat (first | with_reducible assumption | with_reducible refine own_putb ?_ (by first | (simp; done) | (simp; omega)) _ | with_reducible refine World.ownsRow.alloc ?_ _ | with_reducible refine World.ownsRow.drew ?_ | with_reducible refine own_drewN ?_ _ | with_reducible refine own_no ?_ (by assumption)))
      · refine own_base (base := w.heap.size + 1 + 1 + 1) ?_ (by omega)
        (repeat (first | with_reducible assumption | with_reducible refine own_putb ?_ (by first | (simp; done) | (simp; omega)) _ | with_reducible refine World.ownsRow.alloc ?_ _ | with_reducible refine World.ownsRow.drew ?_ | with_reducible refine own_drewN ?_ _ | with_reducible refine own_no ?_ (by assumption)))
      · (repeat (first | with_reducible exact Fr.refl _ _ | with_reducible refine Fr.setCell ?_ (.inr (by first | (simp; done) | (simp; omega))) _ | with_reducible refine Fr.alloc ?_ _ | with_reducible refine Fr.drew ?_ | with_reducible refine Fr.drewN ?_ _ | with_reducible refine Fr.tr ?_ (by assumption)))
end
end Go.Proofs.Ytoaikponefcbiaa.Hc16
