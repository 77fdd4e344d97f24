/- Several parts in one text: each begins with its own sentence. -/
import Derived.Test.YtplpgneckfmjpaaGa
import Derived.Test.YtplpgneckfmjpaaGb
import Derived.Test.YtplpgneckfmjpaaGc
import Derived.Test.YtplpgneckfmjpaaGd

/- Layer 11: a box's halves, the document's, where it is wide. -/
namespace Go.Proofs.Ytplpgneckfmjpaa.Hc16
open Go.RowKit Go.Proofs.Ytplpgneckfmjpaa.Pk08 Go.Proofs.Ytplpgneckfmjpaa.Base Go.Proofs.Ytplpgneckfmjpaa.App Go.Proofs.Ytplpgneckfmjpaa.Str Go.Proofs.Ytplpgneckfmjpaa.Ky Go.Proofs.Ytplpgneckfmjpaa.Bx Go.Proofs.Ytplpgneckfmjpaa.Kk Go.Proofs.Ytplpgneckfmjpaa.Bo Go.Proofs.Ytplpgneckfmjpaa.As Go.Proofs.Ytplpgneckfmjpaa.Cl Go.Proofs.Ytplpgneckfmjpaa.Pl08 Go.Proofs.Ytplpgneckfmjpaa.Kc08 Go.Proofs.Ytplpgneckfmjpaa.Kh08 Go.Proofs.Ytplpgneckfmjpaa.Ki08 Go.Proofs.Ytplpgneckfmjpaa.Px16 Go.Proofs.Ytplpgneckfmjpaa.Ha16 Go.Proofs.Ytplpgneckfmjpaa.Hb16
set_option linter.unusedVariables false
set_option linter.unusedSimpArgs false
attribute [local go_sem ↓ high] builtin_app
section
variable {w : World} {A B : Option Addr} {n cn m cm : Nat} {lo hi : List Nat}
set_option maxRecDepth 100000 in
set_option maxHeartbeats 3200000 in
theorem rhalves_yes (j : Nat) (hl : Kv w A n cn lo) (hh : Kv w B n cm hi) (hb : wideB lo hi j = true) :
    Calls Try.prog 46 #[.agg #[.slice A n cn, .slice B n cm], .int .i64 (j : Int)] w fun e w' => ∃ a ca b cb c cc d cd, e = .returned (.tuple #[.agg #[.slice (some ⟨a, 0, none⟩) n ca, .slice (some ⟨b, 0, none⟩) n cb], .agg #[.slice (some ⟨c, 0, none⟩) n cc, .slice (some ⟨d, 0, none⟩) n cd], .bool true]) ∧
      w'.ownsRow w.heap.size 47 1 (.slice (some ⟨a, 0, none⟩) n ca) n (u32s lo) ∧ w'.ownsRow w.heap.size 47 1 (.slice (some ⟨b, 0, none⟩) n cb) n (u32s (hi.set j (midB lo hi j))) ∧
      w'.ownsRow w.heap.size 47 1 (.slice (some ⟨c, 0, none⟩) n cc) n (u32s (lo.set j (midB lo hi j + 1))) ∧ w'.ownsRow w.heap.size 47 1 (.slice (some ⟨d, 0, none⟩) n cd) n (u32s hi) ∧
      a ≠ b ∧ c ≠ d ∧ a ≠ d ∧ b ≠ c ∧ Fr No w w' := by
  have hw : hasB lo hi j = true ∧ lo.getD j 0 < hi.getD j 0 := by
    unfold wideB at hb
    rw [Bool.and_eq_true, decide_eq_true_eq, Int.toNat_natCast] at hb
    exact hb
  obtain ⟨p1, p2, p3, p4⟩ := has_parts hw.1
  have q1 : j < n := by have := hl.len; omega
  have q2 : n ≤ 6 := by have := hl.len; omega
  have q3 : n ≤ 1000000 := by omega
  have hm : midE lo hi j = midB lo hi j := by unfold midE; rw [hw.1, Int.toNat_natCast]; rfl
  have Hm := Lib.hid hm
  have Hb := Lib.hid hb
  have m1 : midB lo hi j + 1 < 4294967296 := by have := hh.ltD j; have := hw.2; unfold midB; omega
  have hwb := hw.1
  have hw2 := hw.2
  clear hb hm hw p4 Hb Hm
  generalize hmid : midB lo hi j = mid at *
  have H0 := Lib.hid (show chkB lo hi n = 0 by rw [hl.len]; exact (hasB_iff.1 hwb).2.2)
  have g1 : (0 : Int) ≤ (j : Int) := by omega
  have g1b : decide ((j : Int) < 0) = false := decide_eq_false (by omega)
  have g2b : decide (n ≤ j) = false := decide_eq_false (by omega)
  have g3 := hl.cap
  have g4 := hl.most
  have g5 := hh.cap
  have g6 := hh.most
  have hmx : maxLen ≤ 9223372036854775807 := by decide
  obtain ⟨ga, oa, hga, ca⟩ := hl.get j (by omega)
  obtain ⟨gb, ob, hgb, cb⟩ := hh.get j (by omega)
  subst hga
  subst hgb
  have bx1 := hl.ltD j
  have bx2 := hh.ltD j
  have Hmd := Lib.hid hmid
  clear hmid hwb
  generalize hxe : lo.getD j 0 = x at *
  generalize hye : hi.getD j 0 = y at *
  have Hmd2 : Hid ((x : Int) + ((y : Int) - (x : Int)) / 2 = (mid : Int)) := Lib.hid (by rw [← Hmd.out]; unfold midB; rw [hxe, hye]; omega)
  clear hxe hye Hmd
  have hne : (x == y) = false := beq_eq_false_iff_ne.2 (by omega)
  have hne2 : ((x : Int) == (y : Int)) = false := beq_eq_false_iff_ne.2 (by omega)
  have p4 : x ≤ y := by omega
  go_enter Try.func46, Try.ntmps46
  go_wp2
  (refine wp_region_held_drew (S := fun w' => w'.cell? ⟨w.heap.size, 0, none⟩ = some (.slice (some ⟨ga, oa, none⟩) n cn) ∧ w'.cell? ⟨w.heap.size, 1, none⟩ = some (.slice (some ⟨gb, ob, none⟩) n cm) ∧ w'.cell? ⟨ga, oa + j, none⟩ = some (.int .u32 (x : Int)) ∧ w'.cell? ⟨gb, ob + j, none⟩ = some (.int .u32 (y : Int))) (by kernel_rfl) ?_ (fun hHeld => ?_); focus ((try dsimp only); (refine four4 (cells2 (t := 32) ?_) ?_ ?_; (repeat (first | with_reducible assumption | with_reducible refine Ob.other ?_ (by first | (simp; done) | (simp; omega)) _ | ((with_reducible refine Ob.new_ _ _ _ _ ?_) <;> (simp; done)) | with_reducible refine Ob.alloc ?_ _ | with_reducible refine Ob.drew ?_ | with_reducible refine Ob.drewN ?_ _ | with_reducible refine Ob.no ?_ (by assumption))); (repeat (first | with_reducible assumption | with_reducible refine cel_alloc ?_ _ | with_reducible refine cel_drew ?_ | with_reducible refine cel_drewN ?_ _ | with_reducible refine cel_set ?_ (by first | (simp; done) | (simp; omega)) _ | with_reducible refine cel_no ?_ (by assumption))); (repeat (first | with_reducible assumption | with_reducible refine cel_alloc ?_ _ | with_reducible refine cel_drew ?_ | with_reducible refine cel_drewN ?_ _ | with_reducible refine cel_set ?_ (by first | (simp; done) | (simp; omega)) _ | with_reducible refine cel_no ?_ (by assumption)))); done))
  ((refine wpAnyH_take (i := 0) (v := ?_) rfl (by kernel_rfl) (by kernel_rfl) (by kernel_rfl) (fun _ _ _ h => h) (Or.inl ⟨by rfl, ?_⟩) (by assumption) ?_; rotate_left; focus (intro w hSw; (try dsimp only at hSw); go_simp; (try with_reducible rfl); done)); (try simp only [Act.put, List.setIfInBounds_toArray, List.set_cons_zero, List.set_cons_succ, List.getElem_toArray, List.getElem_cons_zero, List.getElem_cons_succ]); (refine wpAnyH_take (i := 1) (v := ?_) rfl (by kernel_rfl) (by kernel_rfl) (by kernel_rfl) (fun _ _ _ h => h) (Or.inl ⟨by rfl, ?_⟩) (by assumption) ?_; rotate_left; focus (intro w hSw; (try dsimp only at hSw); go_simp; (try with_reducible rfl); done)); (try simp only [Act.put, List.setIfInBounds_toArray, List.set_cons_zero, List.set_cons_succ, List.getElem_toArray, List.getElem_cons_zero, List.getElem_cons_succ]); (refine wpAnyH_take (i := 2) (v := ?_) rfl (by kernel_rfl) (by kernel_rfl) (by kernel_rfl) (fun _ _ _ h => h) (Or.inl ⟨by rfl, ?_⟩) (by assumption) ?_; rotate_left; focus (intro w hSw; (try dsimp only at hSw); go_simp; (try with_reducible rfl); done)); (try simp only [Act.put, List.setIfInBounds_toArray, List.set_cons_zero, List.set_cons_succ, List.getElem_toArray, List.getElem_cons_zero, List.getElem_cons_succ]); (refine wpAnyH_take (i := 3) (v := ?_) rfl (by kernel_rfl) (by kernel_rfl) (by kernel_rfl) (fun _ _ _ h => h) (Or.inl ⟨by rfl, ?_⟩) (by assumption) ?_; rotate_left; focus (intro w hSw; (try dsimp only at hSw); go_simp; (try with_reducible rfl); done)); (try simp only [Act.put, List.setIfInBounds_toArray, List.set_cons_zero, List.set_cons_succ, List.getElem_toArray, List.getElem_cons_zero, List.getElem_cons_succ]))
  (refine wpAnyH_ready (rs := [4]) (by kernel_rfl) (by simp) ?_; refine AllReadyH.cons rfl (fun K hK => ?_) AllReadyH.nil; go_simp; (go_at_call 36; ((with_reducible refine (rcheckBox_any (lo := lo) (hi := hi) _ ?_ ?_).mono ?_); (iterate 2 (repeat (first | with_reducible assumption | ((with_reducible refine Kv.lit_new _ _ _ _ _ _ ?_ ?_ ?_ ?_) <;> (first | (simp; done) | rfl | decide)) | with_reducible exact Kv.none_ _ | with_reducible refine Kv.alloc ?_ _ | with_reducible refine Kv.drew ?_ | with_reducible refine Kv.drewN ?_ _ | with_reducible refine Kv.no ?_ (by assumption)))); rintro e w1 ⟨rfl, hf1⟩; rw [H0.out]; obtain ⟨q0, q1, q2, q3⟩ := Ob.four (show Ob w1 (w.heap.size + 1) #[.slice none 0 0, .slice none 0 0] 32 by (repeat (first | with_reducible assumption | with_reducible refine Ob.other ?_ (by first | (simp; done) | (simp; omega)) _ | ((with_reducible refine Ob.new_ _ _ _ _ ?_) <;> (simp; done)) | with_reducible refine Ob.alloc ?_ _ | with_reducible refine Ob.drew ?_ | with_reducible refine Ob.drewN ?_ _ | with_reducible refine Ob.no ?_ (by assumption)))); obtain ⟨r0, r1, r2, r3⟩ := Ob.four (show Ob w1 (w.heap.size + 1 + 1) #[.slice none 0 0, .slice none 0 0] 32 by (repeat (first | with_reducible assumption | with_reducible refine Ob.other ?_ (by first | (simp; done) | (simp; omega)) _ | ((with_reducible refine Ob.new_ _ _ _ _ ?_) <;> (simp; done)) | with_reducible refine Ob.alloc ?_ _ | with_reducible refine Ob.drew ?_ | with_reducible refine Ob.drewN ?_ _ | with_reducible refine Ob.no ?_ (by assumption)))))); (try go_wp2_with fail); refine hK.out _ _ ?_ (fun hHeld => ?_); focus ((try dsimp only); (refine four4 (cells2 (t := 32) ?_) ?_ ?_; (repeat (first | with_reducible assumption | with_reducible refine Ob.other ?_ (by first | (simp; done) | (simp; omega)) _ | ((with_reducible refine Ob.new_ _ _ _ _ ?_) <;> (simp; done)) | with_reducible refine Ob.alloc ?_ _ | with_reducible refine Ob.drew ?_ | with_reducible refine Ob.drewN ?_ _ | with_reducible refine Ob.no ?_ (by assumption))); (repeat (first | with_reducible assumption | with_reducible refine cel_alloc ?_ _ | with_reducible refine cel_drew ?_ | with_reducible refine cel_drewN ?_ _ | with_reducible refine cel_set ?_ (by first | (simp; done) | (simp; omega)) _ | with_reducible refine cel_no ?_ (by assumption))); (repeat (first | with_reducible assumption | with_reducible refine cel_alloc ?_ _ | with_reducible refine cel_drew ?_ | with_reducible refine cel_drewN ?_ _ | with_reducible refine cel_set ?_ (by first | (simp; done) | (simp; omega)) _ | with_reducible refine cel_no ?_ (by assumption)))); done)); (clear hK K); (try simp only [Act.put, List.setIfInBounds_toArray, List.set_cons_zero, List.set_cons_succ, List.getElem_toArray, List.getElem_cons_zero, List.getElem_cons_succ])
  ((refine wpAnyH_take (i := 5) (v := ?_) rfl (by kernel_rfl) (by kernel_rfl) (by kernel_rfl) (fun _ _ _ h => h) (Or.inl ⟨by rfl, ?_⟩) (by assumption) ?_; rotate_left; focus (intro w hSw; (try dsimp only at hSw); go_simp; (try with_reducible rfl); done)); (try simp only [Act.put, List.setIfInBounds_toArray, List.set_cons_zero, List.set_cons_succ, List.getElem_toArray, List.getElem_cons_zero, List.getElem_cons_succ]); (refine wpAnyH_take (i := 6) (v := ?_) rfl (by kernel_rfl) (by kernel_rfl) (by kernel_rfl) (fun _ _ _ h => h) (Or.inl ⟨by rfl, ?_⟩) (by assumption) ?_; rotate_left; focus (intro w hSw; (try dsimp only at hSw); go_simp; (try with_reducible rfl); done)); (try simp only [Act.put, List.setIfInBounds_toArray, List.set_cons_zero, List.set_cons_succ, List.getElem_toArray, List.getElem_cons_zero, List.getElem_cons_succ]); (refine wpAnyH_take (i := 7) (v := ?_) rfl (by kernel_rfl) (by kernel_rfl) (by kernel_rfl) (fun _ _ _ h => h) (Or.inl ⟨by rfl, ?_⟩) (by assumption) ?_; rotate_left; focus (intro w hSw; (try dsimp only at hSw); go_simp; (try with_reducible rfl); done)); (try simp only [Act.put, List.setIfInBounds_toArray, List.set_cons_zero, List.set_cons_succ, List.getElem_toArray, List.getElem_cons_zero, List.getElem_cons_succ]); (refine wpAnyH_take (i := 8) (v := ?_) rfl (by kernel_rfl) (by kernel_rfl) (by kernel_rfl) (fun _ _ _ h => h) (Or.inl ⟨by rfl, ?_⟩) (by assumption) ?_; rotate_left; focus (intro w hSw; (try dsimp only at hSw); go_simp; (try with_reducible rfl); done)); (try simp only [Act.put, List.setIfInBounds_toArray, List.set_cons_zero, List.set_cons_succ, List.getElem_toArray, List.getElem_cons_zero, List.getElem_cons_succ]); (refine wpAnyH_take (i := 9) (v := ?_) rfl (by kernel_rfl) (by kernel_rfl) (by kernel_rfl) (fun _ _ _ h => h) (Or.inl ⟨by rfl, ?_⟩) (by assumption) ?_; rotate_left; focus (intro w hSw; (try dsimp only at hSw); go_simp; (try with_reducible rfl); done)); (try simp only [Act.put, List.setIfInBounds_toArray, List.set_cons_zero, List.set_cons_succ, List.getElem_toArray, List.getElem_cons_zero, List.getElem_cons_succ]); (refine wpAnyH_take (i := 10) (v := ?_) rfl (by kernel_rfl) (by kernel_rfl) (by kernel_rfl) (fun _ _ _ h => h) (Or.inl ⟨by rfl, ?_⟩) (by assumption) ?_; rotate_left; focus (intro w hSw; (try dsimp only at hSw); go_simp; (try with_reducible rfl); done)); (try simp only [Act.put, List.setIfInBounds_toArray, List.set_cons_zero, List.set_cons_succ, List.getElem_toArray, List.getElem_cons_zero, List.getElem_cons_succ]); (refine wpAnyH_take (i := 11) (v := ?_) rfl (by kernel_rfl) (by kernel_rfl) (by kernel_rfl) (fun _ _ _ h => h) (Or.inl ⟨by rfl, ?_⟩) (by assumption) ?_; rotate_left; focus (intro w hSw; (try dsimp only at hSw); go_simp; (try with_reducible rfl); done)); (try simp only [Act.put, List.setIfInBounds_toArray, List.set_cons_zero, List.set_cons_succ, List.getElem_toArray, List.getElem_cons_zero, List.getElem_cons_succ]); (refine wpAnyH_take (i := 12) (v := ?_) rfl (by kernel_rfl) (by kernel_rfl) (by kernel_rfl) (fun _ _ _ h => h) (Or.inl ⟨by rfl, ?_⟩) (by assumption) ?_; rotate_left; focus (intro w hSw; (try dsimp only at hSw); go_simp; (try with_reducible rfl); done)); (try simp only [Act.put, List.setIfInBounds_toArray, List.set_cons_zero, List.set_cons_succ, List.getElem_toArray, List.getElem_cons_zero, List.getElem_cons_succ]); (refine wpAnyH_take (i := 13) (v := ?_) rfl (by kernel_rfl) (by kernel_rfl) (by kernel_rfl) (fun _ _ _ h => h) (Or.inl ⟨by rfl, ?_⟩) (by assumption) ?_; rotate_left; focus (intro w hSw; (try dsimp only at hSw); go_simp; (try with_reducible rfl); done)); (try simp only [Act.put, List.setIfInBounds_toArray, List.set_cons_zero, List.set_cons_succ, List.getElem_toArray, List.getElem_cons_zero, List.getElem_cons_succ]); (refine wpAnyH_take (i := 14) (v := ?_) rfl (by kernel_rfl) (by kernel_rfl) (by kernel_rfl) (fun _ _ _ h => h) (Or.inl ⟨by rfl, ?_⟩) (by assumption) ?_; rotate_left; focus (intro w hSw; (try dsimp only at hSw); go_simp; (try with_reducible rfl); done)); (try simp only [Act.put, List.setIfInBounds_toArray, List.set_cons_zero, List.set_cons_succ, List.getElem_toArray, List.getElem_cons_zero, List.getElem_cons_succ]); (refine wpAnyH_take (i := 15) (v := ?_) rfl (by kernel_rfl) (by kernel_rfl) (by kernel_rfl) (fun _ _ _ h => h) (Or.inl ⟨by rfl, ?_⟩) (by assumption) ?_; rotate_left; focus (intro w hSw; (try dsimp only at hSw); go_simp; (try with_reducible rfl); done)); (try simp only [Act.put, List.setIfInBounds_toArray, List.set_cons_zero, List.set_cons_succ, List.getElem_toArray, List.getElem_cons_zero, List.getElem_cons_succ]); (refine wpAnyH_take (i := 16) (v := ?_) rfl (by kernel_rfl) (by kernel_rfl) (by kernel_rfl) (fun _ _ _ h => h) (Or.inl ⟨by rfl, ?_⟩) (by assumption) ?_; rotate_left; focus (intro w hSw; (try dsimp only at hSw); go_simp; (try with_reducible rfl); done)); (try simp only [Act.put, List.setIfInBounds_toArray, List.set_cons_zero, List.set_cons_succ, List.getElem_toArray, List.getElem_cons_zero, List.getElem_cons_succ]); (refine wpAnyH_take (i := 17) (v := ?_) rfl (by kernel_rfl) (by kernel_rfl) (by kernel_rfl) (fun _ _ _ h => h) (Or.inl ⟨by rfl, ?_⟩) (by assumption) ?_; rotate_left; focus (intro w hSw; (try dsimp only at hSw); go_simp; (try with_reducible rfl); done)); (try simp only [Act.put, List.setIfInBounds_toArray, List.set_cons_zero, List.set_cons_succ, List.getElem_toArray, List.getElem_cons_zero, List.getElem_cons_succ]); (refine wpAnyH_take (i := 18) (v := ?_) rfl (by kernel_rfl) (by kernel_rfl) (by kernel_rfl) (fun _ _ _ h => h) (Or.inl ⟨by rfl, ?_⟩) (by assumption) ?_; rotate_left; focus (intro w hSw; (try dsimp only at hSw); go_simp; (try with_reducible rfl); done)); (try simp only [Act.put, List.setIfInBounds_toArray, List.set_cons_zero, List.set_cons_succ, List.getElem_toArray, List.getElem_cons_zero, List.getElem_cons_succ]); (refine wpAnyH_take (i := 19) (v := ?_) rfl (by kernel_rfl) (by kernel_rfl) (by kernel_rfl) (fun _ _ _ h => h) (Or.inl ⟨by rfl, ?_⟩) (by assumption) ?_; rotate_left; focus (intro w hSw; (try dsimp only at hSw); go_simp; (try with_reducible rfl); done)); (try simp only [Act.put, List.setIfInBounds_toArray, List.set_cons_zero, List.set_cons_succ, List.getElem_toArray, List.getElem_cons_zero, List.getElem_cons_succ]); (refine wpAnyH_take (i := 20) (v := ?_) rfl (by kernel_rfl) (by kernel_rfl) (by kernel_rfl) (fun _ _ _ h => h) (Or.inl ⟨by rfl, ?_⟩) (by assumption) ?_; rotate_left; focus (intro w hSw; (try dsimp only at hSw); go_simp; (try with_reducible rfl); done)); (try simp only [Act.put, List.setIfInBounds_toArray, List.set_cons_zero, List.set_cons_succ, List.getElem_toArray, List.getElem_cons_zero, List.getElem_cons_succ]); (refine wpAnyH_take (i := 21) (v := ?_) rfl (by kernel_rfl) (by kernel_rfl) (by kernel_rfl) (fun _ _ _ h => h) (Or.inl ⟨by rfl, ?_⟩) (by assumption) ?_; rotate_left; focus (intro w hSw; (try dsimp only at hSw); go_simp; (try with_reducible rfl); done)); (try simp only [Act.put, List.setIfInBounds_toArray, List.set_cons_zero, List.set_cons_succ, List.getElem_toArray, List.getElem_cons_zero, List.getElem_cons_succ]); (refine wpAnyH_take (i := 22) (v := ?_) rfl (by kernel_rfl) (by kernel_rfl) (by kernel_rfl) (fun _ _ _ h => h) (Or.inl ⟨by rfl, ?_⟩) (by assumption) ?_; rotate_left; focus (intro w hSw; (try dsimp only at hSw); go_simp; (try with_reducible rfl); done)); (try simp only [Act.put, List.setIfInBounds_toArray, List.set_cons_zero, List.set_cons_succ, List.getElem_toArray, List.getElem_cons_zero, List.getElem_cons_succ]); (refine wpAnyH_take (i := 23) (v := ?_) rfl (by kernel_rfl) (by kernel_rfl) (by kernel_rfl) (fun _ _ _ h => h) (Or.inl ⟨by rfl, ?_⟩) (by assumption) ?_; rotate_left; focus (intro w hSw; (try dsimp only at hSw); go_simp; (try with_reducible rfl); done)); (try simp only [Act.put, List.setIfInBounds_toArray, List.set_cons_zero, List.set_cons_succ, List.getElem_toArray, List.getElem_cons_zero, List.getElem_cons_succ]); (refine wpAnyH_take (i := 24) (v := ?_) rfl (by kernel_rfl) (by kernel_rfl) (by kernel_rfl) (fun _ _ _ h => h) (Or.inl ⟨by rfl, ?_⟩) (by assumption) ?_; rotate_left; focus (intro w hSw; (try dsimp only at hSw); go_simp; (try with_reducible rfl); done)); (try simp only [Act.put, List.setIfInBounds_toArray, List.set_cons_zero, List.set_cons_succ, List.getElem_toArray, List.getElem_cons_zero, List.getElem_cons_succ]); (refine wpAnyH_take (i := 25) (v := ?_) rfl (by kernel_rfl) (by kernel_rfl) (by kernel_rfl) (fun _ _ _ h => h) (Or.inl ⟨by rfl, ?_⟩) (by assumption) ?_; rotate_left; focus (intro w hSw; (try dsimp only at hSw); go_simp; (try with_reducible rfl); done)); (try simp only [Act.put, List.setIfInBounds_toArray, List.set_cons_zero, List.set_cons_succ, List.getElem_toArray, List.getElem_cons_zero, List.getElem_cons_succ]); (refine wpAnyH_take (i := 26) (v := ?_) rfl (by kernel_rfl) (by kernel_rfl) (by kernel_rfl) (fun _ _ _ h => h) (Or.inl ⟨by rfl, ?_⟩) (by assumption) ?_; rotate_left; focus (intro w hSw; (try dsimp only at hSw); go_simp; (try with_reducible rfl); done)); (try simp only [Act.put, List.setIfInBounds_toArray, List.set_cons_zero, List.set_cons_succ, List.getElem_toArray, List.getElem_cons_zero, List.getElem_cons_succ]); (refine wpAnyH_take (i := 27) (v := ?_) rfl (by kernel_rfl) (by kernel_rfl) (by kernel_rfl) (fun _ _ _ h => h) (Or.inl ⟨by rfl, ?_⟩) (by assumption) ?_; rotate_left; focus (intro w hSw; (try dsimp only at hSw); go_simp; (try with_reducible rfl); done)); (try simp only [Act.put, List.setIfInBounds_toArray, List.set_cons_zero, List.set_cons_succ, List.getElem_toArray, List.getElem_cons_zero, List.getElem_cons_succ]); (refine wpAnyH_take (i := 28) (v := ?_) rfl (by kernel_rfl) (by kernel_rfl) (by kernel_rfl) (fun _ _ _ h => h) (Or.inl ⟨by rfl, ?_⟩) (by assumption) ?_; rotate_left; focus (intro w hSw; (try dsimp only at hSw); go_simp; (try with_reducible rfl); done)); (try simp only [Act.put, List.setIfInBounds_toArray, List.set_cons_zero, List.set_cons_succ, List.getElem_toArray, List.getElem_cons_zero, List.getElem_cons_succ]); (refine wpAnyH_take (i := 29) (v := ?_) rfl (by kernel_rfl) (by kernel_rfl) (by kernel_rfl) (fun _ _ _ h => h) (Or.inl ⟨by rfl, ?_⟩) (by assumption) ?_; rotate_left; focus (intro w hSw; (try dsimp only at hSw); go_simp; (try with_reducible rfl); done)); (try simp only [Act.put, List.setIfInBounds_toArray, List.set_cons_zero, List.set_cons_succ, List.getElem_toArray, List.getElem_cons_zero, List.getElem_cons_succ]))
  (refine wpAnyH_done (by kernel_rfl) ?_ _)
  have hA : Ob w1 w.heap.size #[.slice (some ⟨ga, oa, none⟩) n cn, .slice (some ⟨gb, ob, none⟩) n cm] 32 := (by (repeat (first | with_reducible assumption | with_reducible refine Ob.other ?_ (by first | (simp; done) | (simp; omega)) _ | ((with_reducible refine Ob.new_ _ _ _ _ ?_) <;> (simp; done)) | with_reducible refine Ob.alloc ?_ _ | with_reducible refine Ob.drew ?_ | with_reducible refine Ob.drewN ?_ _ | with_reducible refine Ob.no ?_ (by assumption))))
  have hR1 : Ob w1 (w.heap.size + 1) #[.slice none 0 0, .slice none 0 0] 32 := (by (repeat (first | with_reducible assumption | with_reducible refine Ob.other ?_ (by first | (simp; done) | (simp; omega)) _ | ((with_reducible refine Ob.new_ _ _ _ _ ?_) <;> (simp; done)) | with_reducible refine Ob.alloc ?_ _ | with_reducible refine Ob.drew ?_ | with_reducible refine Ob.drewN ?_ _ | with_reducible refine Ob.no ?_ (by assumption))))
  have hR2 : Ob w1 (w.heap.size + 1 + 1) #[.slice none 0 0, .slice none 0 0] 32 := (by (repeat (first | with_reducible assumption | with_reducible refine Ob.other ?_ (by first | (simp; done) | (simp; omega)) _ | ((with_reducible refine Ob.new_ _ _ _ _ ?_) <;> (simp; done)) | with_reducible refine Ob.alloc ?_ _ | with_reducible refine Ob.drew ?_ | with_reducible refine Ob.drewN ?_ _ | with_reducible refine Ob.no ?_ (by assumption))))
  have hl1 : Kv w1 (some ⟨ga, oa, none⟩) n cn lo := (by (repeat (first | with_reducible assumption | ((with_reducible refine Kv.lit_new _ _ _ _ _ _ ?_ ?_ ?_ ?_) <;> (first | (simp; done) | rfl | decide)) | with_reducible exact Kv.none_ _ | with_reducible refine Kv.alloc ?_ _ | with_reducible refine Kv.drew ?_ | with_reducible refine Kv.drewN ?_ _ | with_reducible refine Kv.no ?_ (by assumption))))
  have hh1 : Kv w1 (some ⟨gb, ob, none⟩) n cm hi := (by (repeat (first | with_reducible assumption | ((with_reducible refine Kv.lit_new _ _ _ _ _ _ ?_ ?_ ?_ ?_) <;> (first | (simp; done) | rfl | decide)) | with_reducible exact Kv.none_ _ | with_reducible refine Kv.alloc ?_ _ | with_reducible refine Kv.drew ?_ | with_reducible refine Kv.drewN ?_ _ | with_reducible refine Kv.no ?_ (by assumption))))
  have hF1 : Fr No w w1 := (by (repeat (first | with_reducible exact Fr.refl _ _ | with_reducible refine Fr.setCell ?_ (.inr (by first | (simp; done) | (simp; omega))) _ | with_reducible refine Fr.alloc ?_ _ | with_reducible refine Fr.drew ?_ | with_reducible refine Fr.drewN ?_ _ | with_reducible refine Fr.tr ?_ (by assumption))))
  obtain ⟨s0, s1⟩ := cells2 hA
  have ca1 : w1.cell? ⟨ga, oa + j, none⟩ = some (.int .u32 (x : Int)) := (by (repeat (first | with_reducible assumption | with_reducible refine cel_alloc ?_ _ | with_reducible refine cel_drew ?_ | with_reducible refine cel_drewN ?_ _ | with_reducible refine cel_set ?_ (by first | (simp; done) | (simp; omega)) _ | with_reducible refine cel_no ?_ (by assumption))))
  have cb1 : w1.cell? ⟨gb, ob + j, none⟩ = some (.int .u32 (y : Int)) := (by (repeat (first | with_reducible assumption | with_reducible refine cel_alloc ?_ _ | with_reducible refine cel_drew ?_ | with_reducible refine cel_drewN ?_ _ | with_reducible refine cel_set ?_ (by first | (simp; done) | (simp; omega)) _ | with_reducible refine cel_no ?_ (by assumption))))
  go_wp2
  go_quiet (fail)
  rw [Hmd2.out]
  have hA' := hA.drewN nq
  have hR1' := hR1.drewN nq
  have hR2' := hR2.drewN nq
  have hl1' := hl1.no ((Fr.refl No w1).drewN nq)
  have hh1' := hh1.no ((Fr.refl No w1).drewN nq)
  have hF1' := hF1.drewN nq
  clear hA hR1 hR2 hl1 hh1 hF1 s0 s1 ca1 cb1 hf1 q0 q1 q2 q3 r0 r1 r2 r3
  generalize w1.drewN nq = w1 at *
  have hA := hA'
  have hR1 := hR1'
  have hR2 := hR2'
  have hl1 := hl1'
  have hh1 := hh1'
  have hF1 := hF1'
  clear hA' hR1' hR2' hl1' hh1' hF1'
  have hz1 := hF1.size
  have hz2 : w.heap.size + 1 + 1 + 1 ≤ w1.heap.size := by have := hR2.lt; omega
  go_wp2_with fail
  go_upto_region 5 with (fail)
  go_cut [8] (fun v wx => ∃ g a ca b cb, v = .pointer (some ⟨g, 0, none⟩) ∧ Hid (H1 w wx (some ⟨ga, oa, none⟩) (some ⟨gb, ob, none⟩) n cn cm lo hi g a ca b cb))
  case first =>
    go_region_held3 (fun w' => w'.cell? ⟨w.heap.size, 0, none⟩ = some (.slice (some ⟨ga, oa, none⟩) n cn) ∧ w'.cell? ⟨w.heap.size, 1, none⟩ = some (.slice (some ⟨gb, ob, none⟩) n cm))
      ((refine cells2 (t := 32) ?_; (repeat (first | with_reducible assumption | with_reducible refine Ob.other ?_ (by first | (simp; done) | (simp; omega)) _ | ((with_reducible refine Ob.new_ _ _ _ _ ?_) <;> (simp; done)) | with_reducible refine Ob.alloc ?_ _ | with_reducible refine Ob.drew ?_ | with_reducible refine Ob.drewN ?_ _ | with_reducible refine Ob.no ?_ (by assumption)))))
      (first
        | (go_at_call 57; ((with_reducible refine (rcopy_any (ks := lo) ?_ q3).mono ?_); (repeat (first | with_reducible assumption | ((with_reducible refine Kv.lit_new _ _ _ _ _ _ ?_ ?_ ?_ ?_) <;> (first | (simp; done) | rfl | decide)) | with_reducible exact Kv.none_ _ | with_reducible refine Kv.alloc ?_ _ | with_reducible refine Kv.drew ?_ | with_reducible refine Kv.drewN ?_ _ | with_reducible refine Kv.no ?_ (by assumption))); rintro e w2 ⟨A2, c2, rfl, ho2, hf2⟩; obtain ⟨a2, rfl, l2, k2⟩ := own_some ho2 (Nat.lt_of_le_of_lt (Nat.zero_le _) q1); have hp2 := own_base ho2 (show w.heap.size + 1 + 1 + 1 ≤ _ from (by first | omega | (simp; omega)))))
        | (go_at_call 57; ((with_reducible refine (rcopy_any (ks := hi) ?_ q3).mono ?_); (repeat (first | with_reducible assumption | ((with_reducible refine Kv.lit_new _ _ _ _ _ _ ?_ ?_ ?_ ?_) <;> (first | (simp; done) | rfl | decide)) | with_reducible exact Kv.none_ _ | with_reducible refine Kv.alloc ?_ _ | with_reducible refine Kv.drew ?_ | with_reducible refine Kv.drewN ?_ _ | with_reducible refine Kv.no ?_ (by assumption))); rintro e w3 ⟨A3, c3, rfl, ho3, hf3⟩; obtain ⟨a3, rfl, l3, k3⟩ := own_some ho3 (Nat.lt_of_le_of_lt (Nat.zero_le _) q1); have hz2 := hf2.size; (try simp at hz2); have hp3 := own_base ho3 (show w.heap.size + 1 + 1 + 1 ≤ _ from (by first | omega | (simp; omega))); have hz3 := hf3.size; (try simp at hz3); (try simp at l2); (try simp at l3); (try (refine use_ (a := Ob w3 w1.heap.size #[.slice none 0 0, .slice none 0 0] 32) ?_ (fun zz => ?_); (focus ((repeat (first | with_reducible assumption | with_reducible refine Ob.other ?_ (by first | (simp; done) | (simp; omega)) _ | ((with_reducible refine Ob.new_ _ _ _ _ ?_) <;> (simp; done)) | with_reducible refine Ob.alloc ?_ _ | with_reducible refine Ob.drew ?_ | with_reducible refine Ob.drewN ?_ _ | with_reducible refine Ob.no ?_ (by assumption))); done)); obtain ⟨z0, z1, z2, z3⟩ := Ob.four zz; clear zz)); (try (refine use_ (a := Ob w3 w2.heap.size #[.slice none 0 0, .slice none 0 0] 32) ?_ (fun zz => ?_); (focus ((repeat (first | with_reducible assumption | with_reducible refine Ob.other ?_ (by first | (simp; done) | (simp; omega)) _ | ((with_reducible refine Ob.new_ _ _ _ _ ?_) <;> (simp; done)) | with_reducible refine Ob.alloc ?_ _ | with_reducible refine Ob.drew ?_ | with_reducible refine Ob.drewN ?_ _ | with_reducible refine Ob.no ?_ (by assumption))); done)); obtain ⟨z0, z1, z2, z3⟩ := Ob.four zz; clear zz))))
        | fail)
    all_goals
      go_wp2_with fail
      go_meet
      refine ⟨_, a2, c2, a3, c3, rfl, Lib.hid ⟨?_, ?_, ?_, ⟨?_, ?_, ?_, ?_, ?_⟩, ?_⟩⟩
      all_goals try (first | ((with_reducible refine Ob.put2 (x := .slice none 0 0) (y := .slice none 0 0) ?_ _ _); (repeat (first | with_reducible assumption | with_reducible refine Ob.other ?_ (by first | (simp; done) | (simp; omega)) _ | ((with_reducible refine Ob.new_ _ _ _ _ ?_) <;> (simp; done)) | with_reducible refine Ob.alloc ?_ _ | with_reducible refine Ob.drew ?_ | with_reducible refine Ob.drewN ?_ _ | with_reducible refine Ob.no ?_ (by assumption))); done) | ((repeat (first | with_reducible assumption | with_reducible refine Ob.other ?_ (by first | (simp; done) | (simp; omega)) _ | ((with_reducible refine Ob.new_ _ _ _ _ ?_) <;> (simp; done)) | with_reducible refine Ob.alloc ?_ _ | with_reducible refine Ob.drew ?_ | with_reducible refine Ob.drewN ?_ _ | with_reducible refine Ob.no ?_ (by assumption))); done))
      all_goals try ((repeat (first | with_reducible assumption | with_reducible refine own_putb ?_ (by first | (simp; done) | (simp; omega)) _ | with_reducible refine World.ownsRow.alloc ?_ _ | with_reducible refine World.ownsRow.drew ?_ | with_reducible refine own_drewN ?_ _ | with_reducible refine own_no ?_ (by assumption))); done)
      all_goals try (first | omega | (refine ⟨?_, ?_, ?_⟩ <;> omega))
      all_goals try ((repeat (first | with_reducible exact Fr.refl _ _ | with_reducible refine Fr.setCell ?_ (.inr (by first | (simp; done) | (simp; omega))) _ | with_reducible refine Fr.alloc ?_ _ | with_reducible refine Fr.drew ?_ | with_reducible refine Fr.drewN ?_ _ | with_reducible refine Fr.tr ?_ (by assumption))); done)
  case rest =>
    clear hz1 hz2 hA hR1 hR2 hl1 hh1 hF1
    obtain ⟨g, a, ca, b, cb, rfl, H⟩ := hcut
    generalize wc = w1 at *
    have hA := H.out.arg
    have hR1 := H.out.r1
    have hR2 := H.out.r2
    have hl1 := hl.no H.out.fr
    have hh1 := hh.no H.out.fr
    have hF1 := H.out.fr
    have hB := H.out.bx
    obtain ⟨u1, u2, u3, u4, u5, u6⟩ := H.out.bx.blk
    have hz1 := hF1.size
    go_upto_region 6 with (fail)
    go_cut [9] (fun v wx => ∃ k c cc d cd, v = .pointer (some ⟨k, 0, none⟩) ∧ Hid (H2 w wx w1.heap.size n lo hi lo hi g a ca b cb k c cc d cd))
    case first =>
      go_region_held3 (fun w' => w'.cell? ⟨w.heap.size, 0, none⟩ = some (.slice (some ⟨ga, oa, none⟩) n cn) ∧ w'.cell? ⟨w.heap.size, 1, none⟩ = some (.slice (some ⟨gb, ob, none⟩) n cm))
        ((refine cells2 (t := 32) ?_; (repeat (first | with_reducible assumption | with_reducible refine Ob.other ?_ (by first | (simp; done) | (simp; omega)) _ | ((with_reducible refine Ob.new_ _ _ _ _ ?_) <;> (simp; done)) | with_reducible refine Ob.alloc ?_ _ | with_reducible refine Ob.drew ?_ | with_reducible refine Ob.drewN ?_ _ | with_reducible refine Ob.no ?_ (by assumption)))))
        (first
          | (go_at_call 57; ((with_reducible refine (rcopy_any (ks := lo) ?_ q3).mono ?_); (repeat (first | with_reducible assumption | ((with_reducible refine Kv.lit_new _ _ _ _ _ _ ?_ ?_ ?_ ?_) <;> (first | (simp; done) | rfl | decide)) | with_reducible exact Kv.none_ _ | with_reducible refine Kv.alloc ?_ _ | with_reducible refine Kv.drew ?_ | with_reducible refine Kv.drewN ?_ _ | with_reducible refine Kv.no ?_ (by assumption))); rintro e w2 ⟨A2, c2, rfl, ho2, hf2⟩; obtain ⟨a2, rfl, l2, k2⟩ := own_some ho2 (Nat.lt_of_le_of_lt (Nat.zero_le _) q1); have hp2 := own_base ho2 (show w.heap.size + 1 + 1 + 1 ≤ _ from (by first | omega | (simp; omega)))))
          | (go_at_call 57; ((with_reducible refine (rcopy_any (ks := hi) ?_ q3).mono ?_); (repeat (first | with_reducible assumption | ((with_reducible refine Kv.lit_new _ _ _ _ _ _ ?_ ?_ ?_ ?_) <;> (first | (simp; done) | rfl | decide)) | with_reducible exact Kv.none_ _ | with_reducible refine Kv.alloc ?_ _ | with_reducible refine Kv.drew ?_ | with_reducible refine Kv.drewN ?_ _ | with_reducible refine Kv.no ?_ (by assumption))); rintro e w3 ⟨A3, c3, rfl, ho3, hf3⟩; obtain ⟨a3, rfl, l3, k3⟩ := own_some ho3 (Nat.lt_of_le_of_lt (Nat.zero_le _) q1); have hz2 := hf2.size; (try simp at hz2); have hp3 := own_base ho3 (show w.heap.size + 1 + 1 + 1 ≤ _ from (by first | omega | (simp; omega))); have hz3 := hf3.size; (try simp at hz3); (try simp at l2); (try simp at l3); (try (refine use_ (a := Ob w3 w1.heap.size #[.slice none 0 0, .slice none 0 0] 32) ?_ (fun zz => ?_); (focus ((repeat (first | with_reducible assumption | with_reducible refine Ob.other ?_ (by first | (simp; done) | (simp; omega)) _ | ((with_reducible refine Ob.new_ _ _ _ _ ?_) <;> (simp; done)) | with_reducible refine Ob.alloc ?_ _ | with_reducible refine Ob.drew ?_ | with_reducible refine Ob.drewN ?_ _ | with_reducible refine Ob.no ?_ (by assumption))); done)); obtain ⟨z0, z1, z2, z3⟩ := Ob.four zz; clear zz)); (try (refine use_ (a := Ob w3 w2.heap.size #[.slice none 0 0, .slice none 0 0] 32) ?_ (fun zz => ?_); (focus ((repeat (first | with_reducible assumption | with_reducible refine Ob.other ?_ (by first | (simp; done) | (simp; omega)) _ | ((with_reducible refine Ob.new_ _ _ _ _ ?_) <;> (simp; done)) | with_reducible refine Ob.alloc ?_ _ | with_reducible refine Ob.drew ?_ | with_reducible refine Ob.drewN ?_ _ | with_reducible refine Ob.no ?_ (by assumption))); done)); obtain ⟨z0, z1, z2, z3⟩ := Ob.four zz; clear zz))))
          | fail)
      all_goals
        go_wp2_with fail
        go_meet
        refine ⟨_, a2, c2, a3, c3, rfl, Lib.hid ⟨?_, ?_, ?_, ⟨?_, ?_, ?_, ?_, ?_⟩, ?_, ?_⟩⟩
        all_goals try (first | ((with_reducible refine Ob.put2 (x := .slice none 0 0) (y := .slice none 0 0) ?_ _ _); (repeat (first | with_reducible assumption | with_reducible refine Ob.other ?_ (by first | (simp; done) | (simp; omega)) _ | ((with_reducible refine Ob.new_ _ _ _ _ ?_) <;> (simp; done)) | with_reducible refine Ob.alloc ?_ _ | with_reducible refine Ob.drew ?_ | with_reducible refine Ob.drewN ?_ _ | with_reducible refine Ob.no ?_ (by assumption))); done) | ((repeat (first | with_reducible assumption | with_reducible refine Ob.other ?_ (by first | (simp; done) | (simp; omega)) _ | ((with_reducible refine Ob.new_ _ _ _ _ ?_) <;> (simp; done)) | with_reducible refine Ob.alloc ?_ _ | with_reducible refine Ob.drew ?_ | with_reducible refine Ob.drewN ?_ _ | with_reducible refine Ob.no ?_ (by assumption))); done))
        all_goals try ((repeat (first | with_reducible assumption | with_reducible refine own_putb ?_ (by first | (simp; done) | (simp; omega)) _ | with_reducible refine World.ownsRow.alloc ?_ _ | with_reducible refine World.ownsRow.drew ?_ | with_reducible refine own_drewN ?_ _ | with_reducible refine own_no ?_ (by assumption))); done)
        all_goals try (first | omega | (refine ⟨?_, ?_, ?_⟩ <;> omega))
        all_goals try ((repeat (first | with_reducible exact Fr.refl _ _ | with_reducible refine Fr.setCell ?_ (.inr (by first | (simp; done) | (simp; omega))) _ | with_reducible refine Fr.alloc ?_ _ | with_reducible refine Fr.drew ?_ | with_reducible refine Fr.drewN ?_ _ | with_reducible refine Fr.tr ?_ (by assumption))); done)
        all_goals try (repeat (first | with_reducible assumption | with_reducible refine Bo.alloc ?_ _ | with_reducible refine Bo.drew ?_ | with_reducible refine Bo.other ?_ (by simp; omega) _ | with_reducible refine Bo.no ?_ (by assumption)))
    case rest =>
      clear hz1 hA hR1 hR2 hl1 hh1 hF1 hB
      obtain ⟨k, c, cc, d, cd, rfl, H2⟩ := hcut
      generalize w1.heap.size = B0 at *
      clear H u1 u2 u3 u4 u5 u6
      generalize wc = w2 at *
      obtain ⟨x0, x1, x2, x3, x4, x5⟩ := H2.out.bx.eyes q1
      obtain ⟨y0, y1, y2, y3, y4, y5⟩ := H2.out.b2.eyes q1
      have hcap := H2.out.bx.ob
      have k1 : n ≤ cb := by
        rcases H2.out.bx.hi.2 with ⟨h, _⟩ | ⟨_, _, _, h, _, _, h2, _⟩
        · cases h
        · injection h with _ _ h; omega
      have k2 : n ≤ cc := by
        rcases H2.out.b2.lo.2 with ⟨h, _⟩ | ⟨_, _, _, h, _, _, h2, _⟩
        · cases h
        · injection h with _ _ h; omega
      obtain ⟨l1, l2, l3, l4, l5, l6⟩ := H2.out.lt
      have nbc : b ≠ c := by omega
      have ngb : g ≠ b := H2.out.bx.ne.2.2
      have ngc : g ≠ c := by omega
      have nkb : k ≠ b := by omega
      have nkc : k ≠ c := H2.out.b2.ne.2.1
      have hwr : IntKind.u32.wrap ((mid : Int) + 1) = ((mid + 1 : Nat) : Int) := (Go.IntWalk.u32_in _ (by omega)).trans (by omega)
      go_wp2_with fail
      have h3 : Ha16.H2 w ((w2.setCell ⟨b, j, none⟩ (.int .u32 (mid : Int))).setCell ⟨c, j, none⟩ (.int .u32 ((mid : Int) + 1))) B0 n lo (hi.set j mid) (lo.set j (mid + 1)) hi g a ca b cb k c cc d cd := H2.out.set j mid (mid + 1)
      have H3 := Lib.hid h3
      clear x0 x1 x2 x3 x4 x5 y0 y1 y2 y3 y4 y5 hcap k1 k2 nbc ngb ngc nkb nkc H2 h3
      generalize ((w2.setCell ⟨b, j, none⟩ (.int .u32 (mid : Int))).setCell ⟨c, j, none⟩ (.int .u32 ((mid : Int) + 1))) = w3 at *
      obtain ⟨x0, x1⟩ := cells2 H3.out.bx.ob
      obtain ⟨y0, y1⟩ := cells2 H3.out.b2.ob
      obtain ⟨z0, z1, z2, z3⟩ := Ob.four H3.out.r1
      obtain ⟨v0, v1, v2, v3⟩ := Ob.four H3.out.r2
      obtain ⟨u1, u2, u3, u4, u5, u6⟩ := H3.out.bx.blk
      obtain ⟨t1, t2, t3, t4, t5, t6⟩ := H3.out.b2.blk
      go_region_held3 (fun w' => w'.cell? ⟨g, 0, none⟩ = some (.slice (some ⟨a, 0, none⟩) n ca) ∧ w'.cell? ⟨g, 1, none⟩ = some (.slice (some ⟨b, 0, none⟩) n cb) ∧ w'.cell? ⟨k, 0, none⟩ = some (.slice (some ⟨c, 0, none⟩) n cc) ∧ w'.cell? ⟨k, 1, none⟩ = some (.slice (some ⟨d, 0, none⟩) n cd))
        (refine ⟨?_, ?_, ?_, ?_⟩ <;> (repeat (first | with_reducible assumption | with_reducible refine cel_alloc ?_ _ | with_reducible refine cel_drew ?_ | with_reducible refine cel_drewN ?_ _ | with_reducible refine cel_set ?_ (by first | (simp; done) | (simp; omega)) _ | with_reducible refine cel_no ?_ (by assumption)))) (fail)
      have P1 : Ob ((((w3.setCell ⟨w.heap.size + 1, 0, none⟩ (.slice (some ⟨a, 0, none⟩) n ca)).setCell ⟨w.heap.size + 1, 1, none⟩ (.slice (some ⟨b, 0, none⟩) n cb)).setCell ⟨w.heap.size + 1 + 1, 0, none⟩ (.slice (some ⟨c, 0, none⟩) n cc)).setCell ⟨w.heap.size + 1 + 1, 1, none⟩ (.slice (some ⟨d, 0, none⟩) n cd)) (w.heap.size + 1) #[.slice (some ⟨a, 0, none⟩) n ca, .slice (some ⟨b, 0, none⟩) n cb] 32 := ((Ob.put2 H3.out.r1 _ _).other (p := ⟨w.heap.size + 1 + 1, 0, none⟩) (by simp) _).other (p := ⟨w.heap.size + 1 + 1, 1, none⟩) (by simp) _
      have P2 : Ob ((((w3.setCell ⟨w.heap.size + 1, 0, none⟩ (.slice (some ⟨a, 0, none⟩) n ca)).setCell ⟨w.heap.size + 1, 1, none⟩ (.slice (some ⟨b, 0, none⟩) n cb)).setCell ⟨w.heap.size + 1 + 1, 0, none⟩ (.slice (some ⟨c, 0, none⟩) n cc)).setCell ⟨w.heap.size + 1 + 1, 1, none⟩ (.slice (some ⟨d, 0, none⟩) n cd)) (w.heap.size + 1 + 1) #[.slice (some ⟨c, 0, none⟩) n cc, .slice (some ⟨d, 0, none⟩) n cd] 32 := Ob.put2 ((H3.out.r2.other (p := ⟨w.heap.size + 1, 0, none⟩) (by simp) _).other (p := ⟨w.heap.size + 1, 1, none⟩) (by simp) _) _ _
      obtain ⟨r0, r1⟩ := cells2 P1
      obtain ⟨r2, r3⟩ := cells2 P2
      go_wp2
      refine bodyPost_ret (v := .tuple #[.agg #[.slice (some ⟨a, 0, none⟩) n ca, .slice (some ⟨b, 0, none⟩) n cb], .agg #[.slice (some ⟨c, 0, none⟩) n cc, .slice (some ⟨d, 0, none⟩) n cd], .bool true]) (by simp [results, Try.results46, go_sem, r0, r1, r2, r3]) rfl ?_
      obtain ⟨l1, l2, l3, l4, l5, l6⟩ := H3.out.lt
      have o1 := H3.out.bx.lo
      have o2 := H3.out.bx.hi
      have o3 := H3.out.b2.lo
      have o4 := H3.out.b2.hi
      have F := H3.out.fr
      refine ⟨a, ca, b, cb, c, cc, d, cd, rfl, ?_, ?_, ?_, ?_, H3.out.bx.ne.1, H3.out.b2.ne.1, by omega, by omega, ?_⟩
      · refine own_base (base := w.heap.size + 1 + 1 + 1) ?_ (by omega)
        (repeat (first | with_reducible assumption | with_reducible refine own_putb ?_ (by first | (simp; done) | (simp; omega)) _ | with_reducible refine World.ownsRow.alloc ?_ _ | with_reducible refine World.ownsRow.drew ?_ | with_reducible refine own_drewN ?_ _ | with_reducible refine own_no ?_ (by assumption)))
      · refine own_base (base := w.heap.size + 1 + 1 + 1) ?_ (by omega)
        (repeat (first | with_reducible assumption | with_reducible refine own_putb ?_ (by first | (simp; done) | (simp; omega)) _ | with_reducible refine World.ownsRow.alloc ?_ _ | with_reducible refine World.ownsRow.drew ?_ | with_reducible refine own_drewN ?_ _ | with_reducible refine own_no ?_ (by assumption)))
      · refine own_base (base := w.heap.size + 1 + 1 + 1) ?_ (by omega)
        (repeat (first | with_reducible assumption | with_reducible refine own_putb ?_ (by first | (simp; done) | (simp; omega)) _ | with_reducible refine World.ownsRow.alloc ?_ _ | with_reducible refine World.ownsRow.drew ?_ | with_reducible refine own_drewN ?_ _ | with_reducible refine own_no ?_ (by assumption)))
      · refine own_base (base := w.heap.size + 1 + 1 + 1) ?_ (by omega)
        (repeat (first | with_reducible assumption | with_reducible refine own_putb ?_ (by first | (simp; done) | (simp; omega)) _ | with_reducible refine World.ownsRow.alloc ?_ _ | with_reducible refine World.ownsRow.drew ?_ | with_reducible refine own_drewN ?_ _ | with_reducible refine own_no ?_ (by assumption)))
      · (repeat (first | with_reducible exact Fr.refl _ _ | with_reducible refine Fr.setCell ?_ (.inr (by first | (simp; done) | (simp; omega))) _ | with_reducible refine Fr.alloc ?_ _ | with_reducible refine Fr.drew ?_ | with_reducible refine Fr.drewN ?_ _ | with_reducible refine Fr.tr ?_ (by assumption)))
end
end Go.Proofs.Ytplpgneckfmjpaa.Hc16
/- Layer 16: depths, addresses. -/
namespace Go.Proofs.Ytplpgneckfmjpaa.Hd16
open Go.RowKit Go.Proofs.Ytplpgneckfmjpaa.Pk08 Go.Proofs.Ytplpgneckfmjpaa.Base Go.Proofs.Ytplpgneckfmjpaa.App Go.Proofs.Ytplpgneckfmjpaa.Ky Go.Proofs.Ytplpgneckfmjpaa.Bx Go.Proofs.Ytplpgneckfmjpaa.Kk Go.Proofs.Ytplpgneckfmjpaa.Bo Go.Proofs.Ytplpgneckfmjpaa.Cl Go.Proofs.Ytplpgneckfmjpaa.Pl08 Go.Proofs.Ytplpgneckfmjpaa.Kc08 Go.Proofs.Ytplpgneckfmjpaa.Px16 Go.Proofs.Ytplpgneckfmjpaa.Py16 Go.Proofs.Ytplpgneckfmjpaa.Ha16 Go.Proofs.Ytplpgneckfmjpaa.Hb16 Go.Proofs.Ytplpgneckfmjpaa.Hc16
set_option linter.unusedVariables false
set_option linter.unusedSimpArgs false
def dpB (n : Int) : Bool := decide (0 ≤ n ∧ n ≤ 12)
def adB (n a : Int) : Bool := decide (0 ≤ n ∧ n ≤ 12 ∧ 0 ≤ a ∧ a < 2 ^ n.toNat)
theorem isDepth_any (n : Int) (w : World) : Calls Try.prog 38 #[.int .i64 n] w fun e w' => e = .returned (.bool (dpB n)) ∧ w = w' := by
  by_cases h0 : 0 ≤ n
  · have E := Lib.hid (show dpB n = decide (n ≤ 12) by unfold dpB; simp [h0])
    rw [E.out]
    go_enter Try.func38, Try.ntmps38
    go_wp2
    go_ret
    exact ⟨rfl, rfl⟩
  · have E := Lib.hid (show dpB n = false by unfold dpB; simp [h0])
    have h0' : n < 0 := by omega
    clear h0
    rw [E.out]
    go_enter Try.func38, Try.ntmps38
    go_wp2
    go_ret
    exact ⟨rfl, rfl⟩
theorem two_le (m : Nat) (hm : m ≤ 12) : 0 ≤ (2 : Int) ^ m ∧ (2 : Int) ^ m ≤ 4096 := by
  have h1 := Nat.pow_le_pow_right (show 0 < 2 by decide) hm
  have h2 : (2 : Int) ^ m = ((2 ^ m : Nat) : Int) := by simp
  rw [h2]
  exact ⟨Int.natCast_nonneg _, Int.ofNat_le.2 h1⟩
theorem isAddress_any (n a : Int) (w : World) : Calls Try.prog 41 #[.int .i64 n, .int .i64 a] w fun e w' => e = .returned (.bool (adB n a)) ∧ w = w' := by
  cases hd : dpB n with
  | false =>
    have D := Lib.hid hd
    have E := Lib.hid (show adB n a = false by
      unfold dpB at hd
      have := of_decide_eq_false hd
      unfold adB
      exact decide_eq_false (fun x => this ⟨x.1, x.2.1⟩))
    clear hd
    rw [E.out]
    go_enter Try.func41, Try.ntmps41
    go_wp2_with (go_at_call 38; ((with_reducible refine (isDepth_any _ _).mono ?_); rintro e w1 ⟨rfl, rfl⟩; rw [D.out]))
    go_ret
    exact ⟨rfl, rfl⟩
  | true =>
    have hb := of_decide_eq_true hd
    obtain ⟨m, rfl⟩ := Int.eq_ofNat_of_zero_le hb.1
    have D := Lib.hid hd
    clear hd
    by_cases ha : 0 ≤ a
    · have E := Lib.hid (show adB m a = decide (a < 2 ^ m) by unfold adB; simp [ha]; omega)
      have hm : m ≤ 12 := by omega
      obtain ⟨p1, p2⟩ := two_le m (by omega)
      have hw : wrap64 ((2 : Int) ^ m) = 2 ^ m := IntWalk.wrap64_in _ (by omega)
      rw [E.out]
      clear hb
      go_enter Try.func41, Try.ntmps41
      go_wp2_with (go_at_call 38; ((with_reducible refine (isDepth_any _ _).mono ?_); rintro e w1 ⟨rfl, rfl⟩; rw [D.out]))

      go_ret
      exact ⟨rfl, rfl⟩
    · have E := Lib.hid (show adB m a = false by unfold adB; simp [ha])
      have ha' : a < 0 := by omega
      clear ha hb
      rw [E.out]
      go_enter Try.func41, Try.ntmps41
      go_wp2_with (go_at_call 38; ((with_reducible refine (isDepth_any _ _).mono ?_); rintro e w1 ⟨rfl, rfl⟩; rw [D.out]))
      go_ret
      exact ⟨rfl, rfl⟩
theorem is_any (n a : Int) (w : World) : Calls Try.prog 44 #[.int .i64 n, .int .i64 a] w fun e w' => e = .returned (.bool (adB n a)) ∧ w = w' := by
  by_cases h0 : 0 ≤ n
  · by_cases h1 : n ≤ 12
    · by_cases ha : 0 ≤ a
      · obtain ⟨m, rfl⟩ := Int.eq_ofNat_of_zero_le h0
        have E := Lib.hid (show adB m a = decide (a < 2 ^ m) by unfold adB; simp [ha]; omega)
        obtain ⟨p1, p2⟩ := two_le m (by omega)
        have hw : wrap64 ((2 : Int) ^ m) = 2 ^ m := IntWalk.wrap64_in _ (by omega)
        rw [E.out]
        go_enter Try.func44, Try.ntmps44
        go_wp2
        go_ret
        exact ⟨rfl, rfl⟩
      · have E := Lib.hid (show adB n a = false by unfold adB; simp [ha])
        have ha' : a < 0 := by omega
        clear ha
        rw [E.out]
        go_enter Try.func44, Try.ntmps44
        go_wp2
        go_ret
        exact ⟨rfl, rfl⟩
    · have E := Lib.hid (show adB n a = false by unfold adB; simp [h1])
      have h1' : 12 < n := by omega
      clear h1
      rw [E.out]
      go_enter Try.func44, Try.ntmps44
      go_wp2
      go_ret
      exact ⟨rfl, rfl⟩
  · have E := Lib.hid (show adB n a = false by unfold adB; simp [h0])
    have h0' : n < 0 := by omega
    clear h0
    rw [E.out]
    go_enter Try.func44, Try.ntmps44
    go_wp2
    go_ret
    exact ⟨rfl, rfl⟩
end Go.Proofs.Ytplpgneckfmjpaa.Hd16
/- Layer 16: the box of an address, the program's. -/
namespace Go.Proofs.Ytplpgneckfmjpaa.He16
open Go.RowKit Go.Proofs.Ytplpgneckfmjpaa.Pk08 Go.Proofs.Ytplpgneckfmjpaa.Base Go.Proofs.Ytplpgneckfmjpaa.App Go.Proofs.Ytplpgneckfmjpaa.Ky Go.Proofs.Ytplpgneckfmjpaa.Bx Go.Proofs.Ytplpgneckfmjpaa.Kk Go.Proofs.Ytplpgneckfmjpaa.Bo Go.Proofs.Ytplpgneckfmjpaa.Cl Go.Proofs.Ytplpgneckfmjpaa.Pl08 Go.Proofs.Ytplpgneckfmjpaa.Kc08 Go.Proofs.Ytplpgneckfmjpaa.Kj08 Go.Proofs.Ytplpgneckfmjpaa.Ka08 Go.Proofs.Ytplpgneckfmjpaa.Px16 Go.Proofs.Ytplpgneckfmjpaa.Py16 Go.Proofs.Ytplpgneckfmjpaa.Ha16 Go.Proofs.Ytplpgneckfmjpaa.Hb16 Go.Proofs.Ytplpgneckfmjpaa.Hc16 Go.Proofs.Ytplpgneckfmjpaa.Hd16
set_option linter.unusedVariables false
set_option linter.unusedSimpArgs false
/-- Two boxes are returned, halves of one: to be read. -/
def HalRd (w : World) (n : Nat) (lo1 hi1 lo2 hi2 : List Nat) (e : Ending) (w' : World) : Prop :=
  ∃ a ca b cb c cc d cd, e = .returned (.tuple #[.agg #[.slice (some ⟨a, 0, none⟩) n ca, .slice (some ⟨b, 0, none⟩) n cb], .agg #[.slice (some ⟨c, 0, none⟩) n cc, .slice (some ⟨d, 0, none⟩) n cd], .bool true]) ∧
    Kv w' (some ⟨a, 0, none⟩) n ca lo1 ∧ Kv w' (some ⟨b, 0, none⟩) n cb hi1 ∧ Kv w' (some ⟨c, 0, none⟩) n cc lo2 ∧ Kv w' (some ⟨d, 0, none⟩) n cd hi2 ∧
    (w.heap.size ≤ a ∧ a < w'.heap.size ∧ w.heap.size ≤ b ∧ b < w'.heap.size ∧ w.heap.size ≤ c ∧ c < w'.heap.size ∧ w.heap.size ≤ d ∧ d < w'.heap.size) ∧ Fr No w w'
theorem set_lt {l : List Nat} {j x : Nat} (hl : ∀ y ∈ l, y < 4294967296) (hx : x < 4294967296) : ∀ y ∈ l.set j x, y < 4294967296 := by
  intro y hy
  rcases List.mem_or_eq_of_mem_set hy with h | h
  · exact hl y h
  · omega
theorem i64_and_one (q : Nat) (hq : q < 9223372036854775808) : bits .and .i64 (q : Int) 1 = ((q % 2 : Nat) : Int) := by
  show IntKind.i64.wrap ((BitVec.ofInt 64 (q : Int) &&& BitVec.ofInt 64 ((1 : Nat) : Int)).toNat : Int) = _
  rw [BitVec.toNat_and, ofInt_u64 q (by omega), ofInt_u64 1 (by omega), Nat.and_one_is_mod]
  exact IntWalk.i64_in _ (by omega)
theorem test_bit {a m i : Nat} (ha : a < 4096) (hi : i < m) (b : Bool) (h : a / 2 ^ (m - (i + 1)) % 2 = b.toNat) : (bits .and .i64 ((a : Int) / 2 ^ (m - 1 - i)) 1 == 1) = b := by
  have e1 : m - 1 - i = m - (i + 1) := by omega
  have e2 : ((a : Int) / 2 ^ (m - (i + 1))) = ((a / 2 ^ (m - (i + 1)) : Nat) : Int) := by simp
  have l : a / 2 ^ (m - (i + 1)) ≤ a := Nat.div_le_self _ _
  rw [e1, e2, i64_and_one _ (by omega), h]
  cases b <;> rfl
section
variable {w : World} {A B : Option Addr} {n cn m cm : Nat} {lo hi : List Nat}
theorem mid_lt {j : Nat} (hl : Kv w A n cn lo) (hh : Kv w B m cm hi) (hb : wideB lo hi j = true) : midB lo hi j + 1 < 4294967296 := by
  unfold wideB at hb
  rw [Bool.and_eq_true, decide_eq_true_eq, Int.toNat_natCast] at hb
  have := hh.ltD j
  have := hb.2
  unfold midB
  omega
theorem halves_mod (i k : Nat) (hl : Kv w A n cn lo) (hh : Kv w B n cm hi) (hb : wideB lo hi ((i % k : Nat) : Int) = true) :
    Calls Try.prog 43 #[.agg #[.slice A n cn, .slice B n cm], .int .i64 ((i : Int) % (k : Int))] w (HalRd w n lo (hi.set (i % k) (midB lo hi (i % k))) (lo.set (i % k) (midB lo hi (i % k) + 1)) hi) := by
  have h := halves_yes (i % k) hl hh hb
  rw [Int.natCast_emod] at h
  refine h.mono ?_
  rintro e w' ⟨a, ca, b, cb, c, cc, d, cd, rfl, h1, h2, h3, h4, _, _, _, _, hf⟩
  have hm := mid_lt hl hh hb
  exact ⟨a, ca, b, cb, c, cc, d, cd, rfl, Kv.of_own h1 hl.lt, Kv.of_own h2 (set_lt hh.lt (by omega)), Kv.of_own h3 (set_lt hl.lt hm), Kv.of_own h4 hh.lt, ⟨(h1.lt a rfl).1, (h1.lt a rfl).2, (h2.lt b rfl).1, (h2.lt b rfl).2, (h3.lt c rfl).1, (h3.lt c rfl).2, (h4.lt d rfl).1, (h4.lt d rfl).2⟩, hf⟩
theorem rhalves_mod (i k : Nat) (hl : Kv w A n cn lo) (hh : Kv w B n cm hi) (hb : wideB lo hi ((i % k : Nat) : Int) = true) :
    Calls Try.prog 46 #[.agg #[.slice A n cn, .slice B n cm], .int .i64 ((i : Int) % (k : Int))] w (HalRd w n lo (hi.set (i % k) (midB lo hi (i % k))) (lo.set (i % k) (midB lo hi (i % k) + 1)) hi) := by
  have h := rhalves_yes (i % k) hl hh hb
  rw [Int.natCast_emod] at h
  refine h.mono ?_
  rintro e w' ⟨a, ca, b, cb, c, cc, d, cd, rfl, h1, h2, h3, h4, _, _, _, _, hf⟩
  have hm := mid_lt hl hh hb
  exact ⟨a, ca, b, cb, c, cc, d, cd, rfl, Kv.of_own h1 hl.lt, Kv.of_own h2 (set_lt hh.lt (by omega)), Kv.of_own h3 (set_lt hl.lt hm), Kv.of_own h4 hh.lt, ⟨(h1.lt a rfl).1, (h1.lt a rfl).2, (h2.lt b rfl).1, (h2.lt b rfl).2, (h3.lt c rfl).1, (h3.lt c rfl).2, (h4.lt d rfl).1, (h4.lt d rfl).2⟩, hf⟩
end
/-- From round to round: the box at g is that of the first i bits. -/
def Lb (w : World) (g d m a i : Nat) (wr : World) : Prop :=
  ∃ A ca B cb, Ob wr w.heap.size #[.slice none 0 0, .slice none 0 0] 32 ∧ Ob wr g #[.slice A d ca, .slice B d cb] 32 ∧
    Kv wr A d ca (bx d i (a / 2 ^ (m - i))).1 ∧ Kv wr B d cb (bx d i (a / 2 ^ (m - i))).2 ∧ Fr No w wr ∧ w.heap.size < g
/-- In a round: both halves stand. -/
def Mb (w wr : World) (g g1 g2 d : Nat) (a1 b1 a2 b2 : Nat) (c1 d1 c2 d2 : Nat) (C E : Value) (l1 h1 l2 h2 : List Nat) (wx : World) : Prop :=
  Ob wx w.heap.size #[.slice none 0 0, .slice none 0 0] 32 ∧ Ob wx g #[C, E] 32 ∧
  Ob wx g1 #[.slice (some ⟨a1, 0, none⟩) d c1, .slice (some ⟨b1, 0, none⟩) d d1] 32 ∧ Ob wx g2 #[.slice (some ⟨a2, 0, none⟩) d c2, .slice (some ⟨b2, 0, none⟩) d d2] 32 ∧
  Kv wx (some ⟨a1, 0, none⟩) d c1 l1 ∧ Kv wx (some ⟨b1, 0, none⟩) d d1 h1 ∧ Kv wx (some ⟨a2, 0, none⟩) d c2 l2 ∧ Kv wx (some ⟨b2, 0, none⟩) d d2 h2 ∧
  (g < a1 ∧ g < b1 ∧ g < a2 ∧ g < b2 ∧ g < g1 ∧ g < g2) ∧ Fr No w wx
section
variable {w : World}
set_option maxHeartbeats 3200000 in
theorem box_ok (d m a : Nat) (h1 : 1 ≤ d) (h6 : d ≤ 6) (hm : m ≤ 12) (ha : a < 2 ^ m) :
    Calls Try.prog 31 #[.int .i64 (d : Int), .int .i64 (m : Int), .int .i64 (a : Int)] w (BoxRet w (bx d m a).1 (bx d m a).2 (.int .i64 0)) := by
  have Had := Lib.hid (show adB m a = true from decide_eq_true ⟨by omega, by omega, by omega, by
    rw [Int.toNat_natCast]
    have : ((2 ^ m : Nat) : Int) = (2 : Int) ^ m := by simp
    omega⟩)
  have Ha := Lib.hid ha
  have ha2 : a < 4096 := Nat.lt_of_lt_of_le ha (Nat.pow_le_pow_right (show 0 < 2 by decide) hm)
  have Hlo := Lib.hid (show wLo (d : Int) = List.replicate d 0 by rw [wLo_in ⟨by omega, by omega⟩, Int.toNat_natCast])
  have Hhi := Lib.hid (show wHi (d : Int) = List.replicate d 4294967295 by rw [wHi_in ⟨by omega, by omega⟩, Int.toNat_natCast])
  clear ha
  go_enter Try.func31, Try.ntmps31
  go_wp2_with (first
    | (go_at_call 41; ((with_reducible refine (isAddress_any _ _ _).mono ?_); rintro e w1 ⟨rfl, rfl⟩; rw [Had.out]))
    | (go_at_call 42; ((with_reducible refine (whole_any _ _).mono ?_); rintro e w1 ⟨A0, n0, c0, B0, m0, d0, rfl, hl0, hh0, hf0⟩; rw [Hlo.out] at hl0; rw [Hhi.out] at hh0; obtain rfl : d = n0 := (by have := hl0.len; simp at this; omega); obtain rfl : d = m0 := (by have := hh0.len; simp at this; omega)))
    | fail)
  have hsz := hf0.size
  simp at hsz
  go_loopw [29] (fun v wr => ∃ i : Nat, i ≤ m ∧ v = .int .i64 i ∧ Hid (Lb w w1.heap.size d m a i wr)) (fun v _ => m - (intOf v).toNat)
  case atStart =>
    refine ⟨0, Nat.zero_le _, rfl, Lib.hid ⟨A0, c0, B0, d0, ?_, ?_, ?_, ?_, ?_, by omega⟩⟩
    · (repeat (first | with_reducible assumption | with_reducible refine Ob.other ?_ (by first | (simp; done) | (simp; omega)) _ | ((with_reducible refine Ob.new_ _ _ _ _ ?_) <;> (simp; done)) | with_reducible refine Ob.alloc ?_ _ | with_reducible refine Ob.drew ?_ | with_reducible refine Ob.drewN ?_ _ | with_reducible refine Ob.no ?_ (by assumption)))
    · (repeat (first | with_reducible assumption | with_reducible refine Ob.other ?_ (by first | (simp; done) | (simp; omega)) _ | ((with_reducible refine Ob.new_ _ _ _ _ ?_) <;> (simp; done)) | with_reducible refine Ob.alloc ?_ _ | with_reducible refine Ob.drew ?_ | with_reducible refine Ob.drewN ?_ _ | with_reducible refine Ob.no ?_ (by assumption)))
    · rw [bx_zero]; (repeat (first | with_reducible assumption | ((with_reducible refine Kv.lit_new _ _ _ _ _ _ ?_ ?_ ?_ ?_) <;> (first | (simp; done) | rfl | decide)) | with_reducible exact Kv.none_ _ | with_reducible refine Kv.alloc ?_ _ | with_reducible refine Kv.drew ?_ | with_reducible refine Kv.drewN ?_ _ | with_reducible refine Kv.no ?_ (by assumption)))
    · rw [bx_zero]; (repeat (first | with_reducible assumption | ((with_reducible refine Kv.lit_new _ _ _ _ _ _ ?_ ?_ ?_ ?_) <;> (first | (simp; done) | rfl | decide)) | with_reducible exact Kv.none_ _ | with_reducible refine Kv.alloc ?_ _ | with_reducible refine Kv.drew ?_ | with_reducible refine Kv.drewN ?_ _ | with_reducible refine Kv.no ?_ (by assumption)))
    · (repeat (first | with_reducible exact Fr.refl _ _ | with_reducible refine Fr.setCell ?_ (.inr (by first | (simp; done) | (simp; omega))) _ | with_reducible refine Fr.alloc ?_ _ | with_reducible refine Fr.drew ?_ | with_reducible refine Fr.drewN ?_ _ | with_reducible refine Fr.tr ?_ (by assumption)))
  case round =>
    obtain ⟨i, hi, rfl, Hi⟩ := hrel
    obtain ⟨A, ca, B, cb, k1, k2, k3, k4, k5, k6⟩ := Hi.out
    clear hl0 hh0 hf0 hsz
    generalize w1.heap.size = g at *
    by_cases hlt : i < m
    · have hwide := bx_wide d h1 h6 i (a / 2 ^ (m - i)) (by omega)
      have hlen := bx_len d i (a / 2 ^ (m - i))
      have Hodd := Lib.hid (bx_odd d i (a / 2 ^ (m - (i + 1))))
      have Heven := Lib.hid (bx_even d i (a / 2 ^ (m - (i + 1))))
      have Hq := Lib.hid (show a / 2 ^ (m - (i + 1)) / 2 = a / 2 ^ (m - i) by
        rw [Nat.div_div_eq_div_mul, ← Nat.pow_succ]
        congr 2
        omega)
      rw [Hq.out] at Hodd Heven
      have Hw := Lib.hid hwide
      clear hwide hlen
      have gl := k2.lt
      generalize (bx d i (a / 2 ^ (m - i))).1 = lo at *
      generalize (bx d i (a / 2 ^ (m - i))).2 = hi2 at *
      obtain ⟨x0, x1, x2, x3⟩ := Ob.four k2
      have hz0 : (i : Int) % d < d := Int.emod_lt_of_pos _ (by omega)
      have hz1 : 0 ≤ (i : Int) % d := Int.emod_nonneg _ (by omega)
      have hdne : d ≠ 0 := by omega
      have htm : ((i : Int)).tmod (d : Int) = (i : Int) % d := Int.tmod_eq_emod_of_nonneg (by omega)
      have hq1 : (a / 2 ^ (m - (i + 1))) % 2 = 0 ∨ (a / 2 ^ (m - (i + 1))) % 2 = 1 := by omega
      go_wp2
      go_upto_region 8 with (fail)
      go_cut [10, 11] (fun v u wx => ∃ g1 g2 a1 b1 a2 b2 c1 d1 c2 d2, v = .pointer (some ⟨g1, 0, none⟩) ∧ u = .pointer (some ⟨g2, 0, none⟩) ∧ Hid (Mb w wr g g1 g2 d a1 b1 a2 b2 c1 d1 c2 d2 (.slice A d ca) (.slice B d cb) lo (hi2.set (i % d) (midB lo hi2 (i % d))) (lo.set (i % d) (midB lo hi2 (i % d) + 1)) hi2 wx))
      case first =>
        go_region_held3 (fun w' => w'.cell? ⟨g, 0, none⟩ = some (.slice A d ca) ∧ w'.cell? ⟨g, 1, none⟩ = some (.slice B d cb))
          ((refine cells2 (t := 32) ?_; (repeat (first | with_reducible assumption | with_reducible refine Ob.other ?_ (by first | (simp; done) | (simp; omega)) _ | ((with_reducible refine Ob.new_ _ _ _ _ ?_) <;> (simp; done)) | with_reducible refine Ob.alloc ?_ _ | with_reducible refine Ob.drew ?_ | with_reducible refine Ob.drewN ?_ _ | with_reducible refine Ob.no ?_ (by assumption)))))
          (first
            | (go_at_call 43; ((with_reducible refine (halves_mod (lo := lo) (hi := hi2) i d ?_ ?_ Hw.out).mono ?_); (iterate 2 (repeat (first | with_reducible assumption | ((with_reducible refine Kv.lit_new _ _ _ _ _ _ ?_ ?_ ?_ ?_) <;> (first | (simp; done) | rfl | decide)) | with_reducible exact Kv.none_ _ | with_reducible refine Kv.alloc ?_ _ | with_reducible refine Kv.drew ?_ | with_reducible refine Kv.drewN ?_ _ | with_reducible refine Kv.no ?_ (by assumption)))); rintro e w2 ⟨a1, c1, b1, d1, a2, c2, b2, d2, rfl, m1, m2, m3, m4, m5, hf2⟩; have hs2 := hf2.size; (try simp at hs2); (try simp at m5); (try (refine use_ (a := Ob w2 wr.heap.size #[.slice none 0 0, .slice none 0 0] 32) ?_ (fun zz => ?_); (focus ((repeat (first | with_reducible assumption | with_reducible refine Ob.other ?_ (by first | (simp; done) | (simp; omega)) _ | ((with_reducible refine Ob.new_ _ _ _ _ ?_) <;> (simp; done)) | with_reducible refine Ob.alloc ?_ _ | with_reducible refine Ob.drew ?_ | with_reducible refine Ob.drewN ?_ _ | with_reducible refine Ob.no ?_ (by assumption))); done)); obtain ⟨z0, z1, z2, z3, z4, z5, z6, z7⟩ := Ob.eight zz; clear zz)); (try (refine use_ (a := Ob w2 (wr.heap.size + 1) #[.slice none 0 0, .slice none 0 0] 32) ?_ (fun zz => ?_); (focus ((repeat (first | with_reducible assumption | with_reducible refine Ob.other ?_ (by first | (simp; done) | (simp; omega)) _ | ((with_reducible refine Ob.new_ _ _ _ _ ?_) <;> (simp; done)) | with_reducible refine Ob.alloc ?_ _ | with_reducible refine Ob.drew ?_ | with_reducible refine Ob.drewN ?_ _ | with_reducible refine Ob.no ?_ (by assumption))); done)); obtain ⟨z0, z1, z2, z3, z4, z5, z6, z7⟩ := Ob.eight zz; clear zz))))
            | fail)
        all_goals
          go_wp2_with fail
          go_meet
          refine ⟨_, _, a1, b1, a2, b2, c1, d1, c2, d2, rfl, rfl, Lib.hid ⟨?_, ?_, ?_, ?_, ?_, ?_, ?_, ?_, ?_, ?_⟩⟩
          all_goals try (first | ((repeat (first | with_reducible assumption | with_reducible refine Ob.other ?_ (by first | (simp; done) | (simp; omega)) _ | ((with_reducible refine Ob.new_ _ _ _ _ ?_) <;> (simp; done)) | with_reducible refine Ob.alloc ?_ _ | with_reducible refine Ob.drew ?_ | with_reducible refine Ob.drewN ?_ _ | with_reducible refine Ob.no ?_ (by assumption))); done) | ((with_reducible refine Ob.put2 (x := .slice none 0 0) (y := .slice none 0 0) ?_ _ _); (repeat (first | with_reducible assumption | with_reducible refine Ob.other ?_ (by first | (simp; done) | (simp; omega)) _ | ((with_reducible refine Ob.new_ _ _ _ _ ?_) <;> (simp; done)) | with_reducible refine Ob.alloc ?_ _ | with_reducible refine Ob.drew ?_ | with_reducible refine Ob.drewN ?_ _ | with_reducible refine Ob.no ?_ (by assumption))); done) | ((repeat (with_reducible refine Ob.other ?_ (by first | (simp; done) | (simp; omega)) _)); (with_reducible refine Ob.put2 (x := .slice none 0 0) (y := .slice none 0 0) ?_ _ _); (repeat (first | with_reducible assumption | with_reducible refine Ob.other ?_ (by first | (simp; done) | (simp; omega)) _ | ((with_reducible refine Ob.new_ _ _ _ _ ?_) <;> (simp; done)) | with_reducible refine Ob.alloc ?_ _ | with_reducible refine Ob.drew ?_ | with_reducible refine Ob.drewN ?_ _ | with_reducible refine Ob.no ?_ (by assumption))); done))
          all_goals try ((repeat (first | with_reducible assumption | with_reducible refine kv_other ?_ (by first | (simp; done) | (simp; omega)) _ | with_reducible refine Kv.alloc ?_ _ | with_reducible refine Kv.drew ?_ | with_reducible refine Kv.drewN ?_ _ | with_reducible refine Kv.no ?_ (by assumption))); done)
          all_goals try omega
          all_goals try ((repeat (first | with_reducible exact Fr.refl _ _ | with_reducible refine Fr.setCell ?_ (.inr (by first | (simp; done) | (simp; omega))) _ | with_reducible refine Fr.alloc ?_ _ | with_reducible refine Fr.drew ?_ | with_reducible refine Fr.drewN ?_ _ | with_reducible refine Fr.tr ?_ (by assumption))); done)
      case rest =>
        clear x0 x1 x2 x3 k1 k2 k3 k4 k5 Hw
        obtain ⟨g1, g2, a1, b1, a2, b2, c1, d1, c2, d2, rfl, rfl, HM⟩ := hcut
        generalize wc = wx at *
        obtain ⟨n1, n2, n3, n4, n5, n6, n7, n8, n9, n10⟩ := HM.out
        obtain ⟨x0, x1, x2, x3⟩ := Ob.four n2
        obtain ⟨y0, y1⟩ := cells2 n3
        obtain ⟨z0, z1⟩ := cells2 n4
        obtain ⟨o1, o2, o3, o4, o5, o6⟩ := n9
        have ne1 : g ≠ g1 := by omega
        have ne2 : g ≠ g2 := by omega
        clear n1 n2 n3 n4 n5 n6 n7 n8 n10
        rcases hq1 with hq1 | hq1
        · have ht := test_bit ha2 hlt false hq1
          have Hx := Lib.hid (Heven.out (by omega))
          clear hq1
          go_wp2
          go_roundw
          case rel =>
            obtain ⟨n1, n2, n3, n4, n5, n6, n7, n8, n9, n10⟩ := HM.out
            refine ⟨i + 1, by omega, by go_num, Lib.hid ⟨some ⟨a1, 0, none⟩, c1, some ⟨b1, 0, none⟩, d1, ?_, ?_, ?_, ?_, ?_, k6⟩⟩
            · (repeat (first | with_reducible assumption | with_reducible refine Ob.other ?_ (by first | (simp; done) | (simp; omega)) _ | ((with_reducible refine Ob.new_ _ _ _ _ ?_) <;> (simp; done)) | with_reducible refine Ob.alloc ?_ _ | with_reducible refine Ob.drew ?_ | with_reducible refine Ob.drewN ?_ _ | with_reducible refine Ob.no ?_ (by assumption)))
            · exact Ob.put2 n2 _ _
            · rw [Hx.out]; (repeat (first | with_reducible assumption | with_reducible refine kv_other ?_ (by first | (simp; done) | (simp; omega)) _ | with_reducible refine Kv.alloc ?_ _ | with_reducible refine Kv.drew ?_ | with_reducible refine Kv.drewN ?_ _ | with_reducible refine Kv.no ?_ (by assumption)))
            · rw [Hx.out]; (repeat (first | with_reducible assumption | with_reducible refine kv_other ?_ (by first | (simp; done) | (simp; omega)) _ | with_reducible refine Kv.alloc ?_ _ | with_reducible refine Kv.drew ?_ | with_reducible refine Kv.drewN ?_ _ | with_reducible refine Kv.no ?_ (by assumption)))
            · (repeat (first | with_reducible exact Fr.refl _ _ | with_reducible refine Fr.setCell ?_ (.inr (by first | (simp; done) | (simp; omega))) _ | with_reducible refine Fr.alloc ?_ _ | with_reducible refine Fr.drew ?_ | with_reducible refine Fr.drewN ?_ _ | with_reducible refine Fr.tr ?_ (by assumption)))
          case measure => simp [intOf]; omega
        · have ht := test_bit ha2 hlt true hq1
          have Hx := Lib.hid (Hodd.out hq1)
          clear hq1
          go_wp2
          go_roundw
          case rel =>
            obtain ⟨n1, n2, n3, n4, n5, n6, n7, n8, n9, n10⟩ := HM.out
            refine ⟨i + 1, by omega, by go_num, Lib.hid ⟨some ⟨a2, 0, none⟩, c2, some ⟨b2, 0, none⟩, d2, ?_, ?_, ?_, ?_, ?_, k6⟩⟩
            · (repeat (first | with_reducible assumption | with_reducible refine Ob.other ?_ (by first | (simp; done) | (simp; omega)) _ | ((with_reducible refine Ob.new_ _ _ _ _ ?_) <;> (simp; done)) | with_reducible refine Ob.alloc ?_ _ | with_reducible refine Ob.drew ?_ | with_reducible refine Ob.drewN ?_ _ | with_reducible refine Ob.no ?_ (by assumption)))
            · exact Ob.put2 (Ob.put2 n2 _ _) _ _
            · rw [Hx.out]; (repeat (first | with_reducible assumption | with_reducible refine kv_other ?_ (by first | (simp; done) | (simp; omega)) _ | with_reducible refine Kv.alloc ?_ _ | with_reducible refine Kv.drew ?_ | with_reducible refine Kv.drewN ?_ _ | with_reducible refine Kv.no ?_ (by assumption)))
            · rw [Hx.out]; (repeat (first | with_reducible assumption | with_reducible refine kv_other ?_ (by first | (simp; done) | (simp; omega)) _ | with_reducible refine Kv.alloc ?_ _ | with_reducible refine Kv.drew ?_ | with_reducible refine Kv.drewN ?_ _ | with_reducible refine Kv.no ?_ (by assumption)))
            · (repeat (first | with_reducible exact Fr.refl _ _ | with_reducible refine Fr.setCell ?_ (.inr (by first | (simp; done) | (simp; omega))) _ | with_reducible refine Fr.alloc ?_ _ | with_reducible refine Fr.drew ?_ | with_reducible refine Fr.drewN ?_ _ | with_reducible refine Fr.tr ?_ (by assumption)))
          case measure => simp [intOf]; omega
    · obtain rfl : i = m := by omega
      rw [Nat.sub_self, Nat.pow_zero, Nat.div_one] at k3 k4
      obtain ⟨x0, x1, x2, x3⟩ := Ob.four k1
      obtain ⟨y0, y1⟩ := cells2 k2
      have P := Ob.put2 k1 (.slice A d ca) (.slice B d cb)
      obtain ⟨r0, r1⟩ := cells2 P
      go_wp2
      refine bodyPost_ret (v := .tuple #[.agg #[.slice A d ca, .slice B d cb], .int .i64 0]) (by simp [results, Try.results31, go_sem, r0, r1]) rfl ?_
      exact ⟨A, d, ca, B, d, cb, rfl, Kv.put2 k3 k1 _, Kv.put2 k4 k1 _, by (repeat (first | with_reducible exact Fr.refl _ _ | with_reducible refine Fr.setCell ?_ (.inr (by first | (simp; done) | (simp; omega))) _ | with_reducible refine Fr.alloc ?_ _ | with_reducible refine Fr.drew ?_ | with_reducible refine Fr.drewN ?_ _ | with_reducible refine Fr.tr ?_ (by assumption)))⟩
end
end Go.Proofs.Ytplpgneckfmjpaa.He16
/- Layer 16: the box of an address, the document's. -/
namespace Go.Proofs.Ytplpgneckfmjpaa.Hf16
open Go.RowKit Go.Proofs.Ytplpgneckfmjpaa.Pk08 Go.Proofs.Ytplpgneckfmjpaa.Base Go.Proofs.Ytplpgneckfmjpaa.App Go.Proofs.Ytplpgneckfmjpaa.Ky Go.Proofs.Ytplpgneckfmjpaa.Bx Go.Proofs.Ytplpgneckfmjpaa.Kk Go.Proofs.Ytplpgneckfmjpaa.Bo Go.Proofs.Ytplpgneckfmjpaa.Cl Go.Proofs.Ytplpgneckfmjpaa.Pl08 Go.Proofs.Ytplpgneckfmjpaa.Kc08 Go.Proofs.Ytplpgneckfmjpaa.Kj08 Go.Proofs.Ytplpgneckfmjpaa.Ka08 Go.Proofs.Ytplpgneckfmjpaa.Px16 Go.Proofs.Ytplpgneckfmjpaa.Py16 Go.Proofs.Ytplpgneckfmjpaa.Ha16 Go.Proofs.Ytplpgneckfmjpaa.Hb16 Go.Proofs.Ytplpgneckfmjpaa.Hc16 Go.Proofs.Ytplpgneckfmjpaa.Hd16 Go.Proofs.Ytplpgneckfmjpaa.He16
set_option linter.unusedVariables false
set_option linter.unusedSimpArgs false
theorem rtest_bit {a m i : Nat} (ha : a < 4096) (hi : i < m) (b : Bool) (h : a / 2 ^ (m - (i + 1)) % 2 = b.toNat) : (((a : Int) / 2 ^ (m - 1 - i)).tmod 2 == 1) = b := by
  have e1 : m - 1 - i = m - (i + 1) := by omega
  have e2 : ((a : Int) / 2 ^ (m - (i + 1))) = ((a / 2 ^ (m - (i + 1)) : Nat) : Int) := by simp
  rw [e1, e2, Int.tmod_eq_emod_of_nonneg (Int.natCast_nonneg _)]
  cases b
  · rw [beq_eq_false_iff_ne]; simp at h; omega
  · rw [beq_iff_eq]; simp at h; omega
section
variable {w : World}
set_option maxHeartbeats 3200000 in
theorem rbox_ok (d m a : Nat) (h1 : 1 ≤ d) (h6 : d ≤ 6) (hm : m ≤ 12) (ha : a < 2 ^ m) :
    Calls Try.prog 32 #[.int .i64 (d : Int), .int .i64 (m : Int), .int .i64 (a : Int)] w (BoxRet w (bx d m a).1 (bx d m a).2 (.int .i64 0)) := by
  have Had := Lib.hid (show adB m a = true from decide_eq_true ⟨by omega, by omega, by omega, by
    rw [Int.toNat_natCast]
    have : ((2 ^ m : Nat) : Int) = (2 : Int) ^ m := by simp
    omega⟩)
  have Ha := Lib.hid ha
  have ha2 : a < 4096 := Nat.lt_of_lt_of_le ha (Nat.pow_le_pow_right (show 0 < 2 by decide) hm)
  have Hlo := Lib.hid (show wLo (d : Int) = List.replicate d 0 by rw [wLo_in ⟨by omega, by omega⟩, Int.toNat_natCast])
  have Hhi := Lib.hid (show wHi (d : Int) = List.replicate d 4294967295 by rw [wHi_in ⟨by omega, by omega⟩, Int.toNat_natCast])
  clear ha
  go_enter Try.func32, Try.ntmps32
  go_wp2_with (first
    | (go_at_call 44; ((with_reducible refine (is_any _ _ _).mono ?_); rintro e w1 ⟨rfl, rfl⟩; rw [Had.out]))
    | (go_at_call 45; ((with_reducible refine (rwhole_any _ _).mono ?_); rintro e w1 ⟨A0, n0, c0, B0, m0, d0, rfl, hl0, hh0, hf0⟩; rw [Hlo.out] at hl0; rw [Hhi.out] at hh0; obtain rfl : d = n0 := (by have := hl0.len; simp at this; omega); obtain rfl : d = m0 := (by have := hh0.len; simp at this; omega)))
    | fail)
  have hsz := hf0.size
  simp at hsz
  go_loopw [9] (fun v wr => ∃ i : Nat, i ≤ m ∧ v = .int .i64 i ∧ Hid (Lb w w1.heap.size d m a i wr)) (fun v _ => m - (intOf v).toNat)
  case atStart =>
    refine ⟨0, Nat.zero_le _, rfl, Lib.hid ⟨A0, c0, B0, d0, ?_, ?_, ?_, ?_, ?_, by omega⟩⟩
    · (repeat (first | with_reducible assumption | with_reducible refine Ob.other ?_ (by first | (simp; done) | (simp; omega)) _ | ((with_reducible refine Ob.new_ _ _ _ _ ?_) <;> (simp; done)) | with_reducible refine Ob.alloc ?_ _ | with_reducible refine Ob.drew ?_ | with_reducible refine Ob.drewN ?_ _ | with_reducible refine Ob.no ?_ (by assumption)))
    · (repeat (first | with_reducible assumption | with_reducible refine Ob.other ?_ (by first | (simp; done) | (simp; omega)) _ | ((with_reducible refine Ob.new_ _ _ _ _ ?_) <;> (simp; done)) | with_reducible refine Ob.alloc ?_ _ | with_reducible refine Ob.drew ?_ | with_reducible refine Ob.drewN ?_ _ | with_reducible refine Ob.no ?_ (by assumption)))
    · rw [bx_zero]; (repeat (first | with_reducible assumption | ((with_reducible refine Kv.lit_new _ _ _ _ _ _ ?_ ?_ ?_ ?_) <;> (first | (simp; done) | rfl | decide)) | with_reducible exact Kv.none_ _ | with_reducible refine Kv.alloc ?_ _ | with_reducible refine Kv.drew ?_ | with_reducible refine Kv.drewN ?_ _ | with_reducible refine Kv.no ?_ (by assumption)))
    · rw [bx_zero]; (repeat (first | with_reducible assumption | ((with_reducible refine Kv.lit_new _ _ _ _ _ _ ?_ ?_ ?_ ?_) <;> (first | (simp; done) | rfl | decide)) | with_reducible exact Kv.none_ _ | with_reducible refine Kv.alloc ?_ _ | with_reducible refine Kv.drew ?_ | with_reducible refine Kv.drewN ?_ _ | with_reducible refine Kv.no ?_ (by assumption)))
    · (repeat (first | with_reducible exact Fr.refl _ _ | with_reducible refine Fr.setCell ?_ (.inr (by first | (simp; done) | (simp; omega))) _ | with_reducible refine Fr.alloc ?_ _ | with_reducible refine Fr.drew ?_ | with_reducible refine Fr.drewN ?_ _ | with_reducible refine Fr.tr ?_ (by assumption)))
  case round =>
    obtain ⟨i, hi, rfl, Hi⟩ := hrel
    obtain ⟨A, ca, B, cb, k1, k2, k3, k4, k5, k6⟩ := Hi.out
    clear hl0 hh0 hf0 hsz
    generalize w1.heap.size = g at *
    by_cases hlt : i < m
    · have hwide := bx_wide d h1 h6 i (a / 2 ^ (m - i)) (by omega)
      have hlen := bx_len d i (a / 2 ^ (m - i))
      have Hodd := Lib.hid (bx_odd d i (a / 2 ^ (m - (i + 1))))
      have Heven := Lib.hid (bx_even d i (a / 2 ^ (m - (i + 1))))
      have Hq := Lib.hid (show a / 2 ^ (m - (i + 1)) / 2 = a / 2 ^ (m - i) by
        rw [Nat.div_div_eq_div_mul, ← Nat.pow_succ]
        congr 2
        omega)
      rw [Hq.out] at Hodd Heven
      have Hw := Lib.hid hwide
      clear hwide hlen
      have gl := k2.lt
      generalize (bx d i (a / 2 ^ (m - i))).1 = lo at *
      generalize (bx d i (a / 2 ^ (m - i))).2 = hi2 at *
      obtain ⟨x0, x1, x2, x3⟩ := Ob.four k2
      have hz0 : (i : Int) % d < d := Int.emod_lt_of_pos _ (by omega)
      have hz1 : 0 ≤ (i : Int) % d := Int.emod_nonneg _ (by omega)
      have hdne : d ≠ 0 := by omega
      have htm : ((i : Int)).tmod (d : Int) = (i : Int) % d := Int.tmod_eq_emod_of_nonneg (by omega)
      have hq1 : (a / 2 ^ (m - (i + 1))) % 2 = 0 ∨ (a / 2 ^ (m - (i + 1))) % 2 = 1 := by omega
      go_wp2
      go_upto_region 8 with (fail)
      go_cut [10, 11] (fun v u wx => ∃ g1 g2 a1 b1 a2 b2 c1 d1 c2 d2, v = .pointer (some ⟨g1, 0, none⟩) ∧ u = .pointer (some ⟨g2, 0, none⟩) ∧ Hid (Mb w wr g g1 g2 d a1 b1 a2 b2 c1 d1 c2 d2 (.slice A d ca) (.slice B d cb) lo (hi2.set (i % d) (midB lo hi2 (i % d))) (lo.set (i % d) (midB lo hi2 (i % d) + 1)) hi2 wx))
      case first =>
        go_region_held3 (fun w' => w'.cell? ⟨g, 0, none⟩ = some (.slice A d ca) ∧ w'.cell? ⟨g, 1, none⟩ = some (.slice B d cb))
          ((refine cells2 (t := 32) ?_; (repeat (first | with_reducible assumption | with_reducible refine Ob.other ?_ (by first | (simp; done) | (simp; omega)) _ | ((with_reducible refine Ob.new_ _ _ _ _ ?_) <;> (simp; done)) | with_reducible refine Ob.alloc ?_ _ | with_reducible refine Ob.drew ?_ | with_reducible refine Ob.drewN ?_ _ | with_reducible refine Ob.no ?_ (by assumption)))))
          (first
            | (go_at_call 46; ((with_reducible refine (rhalves_mod (lo := lo) (hi := hi2) i d ?_ ?_ Hw.out).mono ?_); (iterate 2 (repeat (first | with_reducible assumption | ((with_reducible refine Kv.lit_new _ _ _ _ _ _ ?_ ?_ ?_ ?_) <;> (first | (simp; done) | rfl | decide)) | with_reducible exact Kv.none_ _ | with_reducible refine Kv.alloc ?_ _ | with_reducible refine Kv.drew ?_ | with_reducible refine Kv.drewN ?_ _ | with_reducible refine Kv.no ?_ (by assumption)))); rintro e w2 ⟨a1, c1, b1, d1, a2, c2, b2, d2, rfl, m1, m2, m3, m4, m5, hf2⟩; have hs2 := hf2.size; (try simp at hs2); (try simp at m5); (try (refine use_ (a := Ob w2 wr.heap.size #[.slice none 0 0, .slice none 0 0] 32) ?_ (fun zz => ?_); (focus ((repeat (first | with_reducible assumption | with_reducible refine Ob.other ?_ (by first | (simp; done) | (simp; omega)) _ | ((with_reducible refine Ob.new_ _ _ _ _ ?_) <;> (simp; done)) | with_reducible refine Ob.alloc ?_ _ | with_reducible refine Ob.drew ?_ | with_reducible refine Ob.drewN ?_ _ | with_reducible refine Ob.no ?_ (by assumption))); done)); obtain ⟨z0, z1, z2, z3, z4, z5, z6, z7⟩ := Ob.eight zz; clear zz)); (try (refine use_ (a := Ob w2 (wr.heap.size + 1) #[.slice none 0 0, .slice none 0 0] 32) ?_ (fun zz => ?_); (focus ((repeat (first | with_reducible assumption | with_reducible refine Ob.other ?_ (by first | (simp; done) | (simp; omega)) _ | ((with_reducible refine Ob.new_ _ _ _ _ ?_) <;> (simp; done)) | with_reducible refine Ob.alloc ?_ _ | with_reducible refine Ob.drew ?_ | with_reducible refine Ob.drewN ?_ _ | with_reducible refine Ob.no ?_ (by assumption))); done)); obtain ⟨z0, z1, z2, z3, z4, z5, z6, z7⟩ := Ob.eight zz; clear zz))))
            | fail)
        all_goals
          go_wp2_with fail
          go_meet
          refine ⟨_, _, a1, b1, a2, b2, c1, d1, c2, d2, rfl, rfl, Lib.hid ⟨?_, ?_, ?_, ?_, ?_, ?_, ?_, ?_, ?_, ?_⟩⟩
          all_goals try (first | ((repeat (first | with_reducible assumption | with_reducible refine Ob.other ?_ (by first | (simp; done) | (simp; omega)) _ | ((with_reducible refine Ob.new_ _ _ _ _ ?_) <;> (simp; done)) | with_reducible refine Ob.alloc ?_ _ | with_reducible refine Ob.drew ?_ | with_reducible refine Ob.drewN ?_ _ | with_reducible refine Ob.no ?_ (by assumption))); done) | ((with_reducible refine Ob.put2 (x := .slice none 0 0) (y := .slice none 0 0) ?_ _ _); (repeat (first | with_reducible assumption | with_reducible refine Ob.other ?_ (by first | (simp; done) | (simp; omega)) _ | ((with_reducible refine Ob.new_ _ _ _ _ ?_) <;> (simp; done)) | with_reducible refine Ob.alloc ?_ _ | with_reducible refine Ob.drew ?_ | with_reducible refine Ob.drewN ?_ _ | with_reducible refine Ob.no ?_ (by assumption))); done) | ((repeat (with_reducible refine Ob.other ?_ (by first | (simp; done) | (simp; omega)) _)); (with_reducible refine Ob.put2 (x := .slice none 0 0) (y := .slice none 0 0) ?_ _ _); (repeat (first | with_reducible assumption | with_reducible refine Ob.other ?_ (by first | (simp; done) | (simp; omega)) _ | ((with_reducible refine Ob.new_ _ _ _ _ ?_) <;> (simp; done)) | with_reducible refine Ob.alloc ?_ _ | with_reducible refine Ob.drew ?_ | with_reducible refine Ob.drewN ?_ _ | with_reducible refine Ob.no ?_ (by assumption))); done))
          all_goals try ((repeat (first | with_reducible assumption | with_reducible refine kv_other ?_ (by first | (simp; done) | (simp; omega)) _ | with_reducible refine Kv.alloc ?_ _ | with_reducible refine Kv.drew ?_ | with_reducible refine Kv.drewN ?_ _ | with_reducible refine Kv.no ?_ (by assumption))); done)
          all_goals try omega
          all_goals try ((repeat (first | with_reducible exact Fr.refl _ _ | with_reducible refine Fr.setCell ?_ (.inr (by first | (simp; done) | (simp; omega))) _ | with_reducible refine Fr.alloc ?_ _ | with_reducible refine Fr.drew ?_ | with_reducible refine Fr.drewN ?_ _ | with_reducible refine Fr.tr ?_ (by assumption))); done)
      case rest =>
        clear x0 x1 x2 x3 k1 k2 k3 k4 k5 Hw
        obtain ⟨g1, g2, a1, b1, a2, b2, c1, d1, c2, d2, rfl, rfl, HM⟩ := hcut
        generalize wc = wx at *
        obtain ⟨n1, n2, n3, n4, n5, n6, n7, n8, n9, n10⟩ := HM.out
        obtain ⟨x0, x1, x2, x3⟩ := Ob.four n2
        obtain ⟨y0, y1⟩ := cells2 n3
        obtain ⟨z0, z1⟩ := cells2 n4
        obtain ⟨o1, o2, o3, o4, o5, o6⟩ := n9
        have ne1 : g ≠ g1 := by omega
        have ne2 : g ≠ g2 := by omega
        clear n1 n2 n3 n4 n5 n6 n7 n8 n10
        rcases hq1 with hq1 | hq1
        · have ht := rtest_bit ha2 hlt false hq1
          have Hx := Lib.hid (Heven.out (by omega))
          clear hq1
          go_wp2
          go_roundw
          case rel =>
            obtain ⟨n1, n2, n3, n4, n5, n6, n7, n8, n9, n10⟩ := HM.out
            refine ⟨i + 1, by omega, by go_num, Lib.hid ⟨some ⟨a1, 0, none⟩, c1, some ⟨b1, 0, none⟩, d1, ?_, ?_, ?_, ?_, ?_, k6⟩⟩
            · (repeat (first | with_reducible assumption | with_reducible refine Ob.other ?_ (by first | (simp; done) | (simp; omega)) _ | ((with_reducible refine Ob.new_ _ _ _ _ ?_) <;> (simp; done)) | with_reducible refine Ob.alloc ?_ _ | with_reducible refine Ob.drew ?_ | with_reducible refine Ob.drewN ?_ _ | with_reducible refine Ob.no ?_ (by assumption)))
            · exact Ob.put2 n2 _ _
            · rw [Hx.out]; (repeat (first | with_reducible assumption | with_reducible refine kv_other ?_ (by first | (simp; done) | (simp; omega)) _ | with_reducible refine Kv.alloc ?_ _ | with_reducible refine Kv.drew ?_ | with_reducible refine Kv.drewN ?_ _ | with_reducible refine Kv.no ?_ (by assumption)))
            · rw [Hx.out]; (repeat (first | with_reducible assumption | with_reducible refine kv_other ?_ (by first | (simp; done) | (simp; omega)) _ | with_reducible refine Kv.alloc ?_ _ | with_reducible refine Kv.drew ?_ | with_reducible refine Kv.drewN ?_ _ | with_reducible refine Kv.no ?_ (by assumption)))
            · (repeat (first | with_reducible exact Fr.refl _ _ | with_reducible refine Fr.setCell ?_ (.inr (by first | (simp; done) | (simp; omega))) _ | with_reducible refine Fr.alloc ?_ _ | with_reducible refine Fr.drew ?_ | with_reducible refine Fr.drewN ?_ _ | with_reducible refine Fr.tr ?_ (by assumption)))
          case measure => simp [intOf]; omega
        · have ht := rtest_bit ha2 hlt true hq1
          have Hx := Lib.hid (Hodd.out hq1)
          clear hq1
          go_wp2
          go_roundw
          case rel =>
            obtain ⟨n1, n2, n3, n4, n5, n6, n7, n8, n9, n10⟩ := HM.out
            refine ⟨i + 1, by omega, by go_num, Lib.hid ⟨some ⟨a2, 0, none⟩, c2, some ⟨b2, 0, none⟩, d2, ?_, ?_, ?_, ?_, ?_, k6⟩⟩
            · (repeat (first | with_reducible assumption | with_reducible refine Ob.other ?_ (by first | (simp; done) | (simp; omega)) _ | ((with_reducible refine Ob.new_ _ _ _ _ ?_) <;> (simp; done)) | with_reducible refine Ob.alloc ?_ _ | with_reducible refine Ob.drew ?_ | with_reducible refine Ob.drewN ?_ _ | with_reducible refine Ob.no ?_ (by assumption)))
            · exact Ob.put2 (Ob.put2 n2 _ _) _ _
            · rw [Hx.out]; (repeat (first | with_reducible assumption | with_reducible refine kv_other ?_ (by first | (simp; done) | (simp; omega)) _ | with_reducible refine Kv.alloc ?_ _ | with_reducible refine Kv.drew ?_ | with_reducible refine Kv.drewN ?_ _ | with_reducible refine Kv.no ?_ (by assumption)))
            · rw [Hx.out]; (repeat (first | with_reducible assumption | with_reducible refine kv_other ?_ (by first | (simp; done) | (simp; omega)) _ | with_reducible refine Kv.alloc ?_ _ | with_reducible refine Kv.drew ?_ | with_reducible refine Kv.drewN ?_ _ | with_reducible refine Kv.no ?_ (by assumption)))
            · (repeat (first | with_reducible exact Fr.refl _ _ | with_reducible refine Fr.setCell ?_ (.inr (by first | (simp; done) | (simp; omega))) _ | with_reducible refine Fr.alloc ?_ _ | with_reducible refine Fr.drew ?_ | with_reducible refine Fr.drewN ?_ _ | with_reducible refine Fr.tr ?_ (by assumption)))
          case measure => simp [intOf]; omega
    · obtain rfl : i = m := by omega
      rw [Nat.sub_self, Nat.pow_zero, Nat.div_one] at k3 k4
      obtain ⟨x0, x1, x2, x3⟩ := Ob.four k1
      obtain ⟨y0, y1⟩ := cells2 k2
      have P := Ob.put2 k1 (.slice A d ca) (.slice B d cb)
      obtain ⟨r0, r1⟩ := cells2 P
      go_wp2
      refine bodyPost_ret (v := .tuple #[.agg #[.slice A d ca, .slice B d cb], .int .i64 0]) (by simp [results, Try.results32, go_sem, r0, r1]) rfl ?_
      exact ⟨A, d, ca, B, d, cb, rfl, Kv.put2 k3 k1 _, Kv.put2 k4 k1 _, by (repeat (first | with_reducible exact Fr.refl _ _ | with_reducible refine Fr.setCell ?_ (.inr (by first | (simp; done) | (simp; omega))) _ | with_reducible refine Fr.alloc ?_ _ | with_reducible refine Fr.drew ?_ | with_reducible refine Fr.drewN ?_ _ | with_reducible refine Fr.tr ?_ (by assumption)))⟩
end
end Go.Proofs.Ytplpgneckfmjpaa.Hf16
/- Layer 16: the address of a point; the cell beside one; lists of numbers held against each other. -/
namespace Go.Proofs.Ytplpgneckfmjpaa.Hg16
open Go.RowKit Go.Proofs.Ytplpgneckfmjpaa.Pk08 Go.Proofs.Ytplpgneckfmjpaa.Base Go.Proofs.Ytplpgneckfmjpaa.App Go.Proofs.Ytplpgneckfmjpaa.Ky Go.Proofs.Ytplpgneckfmjpaa.Iv Go.Proofs.Ytplpgneckfmjpaa.Bx Go.Proofs.Ytplpgneckfmjpaa.Kk Go.Proofs.Ytplpgneckfmjpaa.Bo Go.Proofs.Ytplpgneckfmjpaa.Cl Go.Proofs.Ytplpgneckfmjpaa.Pl08 Go.Proofs.Ytplpgneckfmjpaa.Kc08 Go.Proofs.Ytplpgneckfmjpaa.Kf08 Go.Proofs.Ytplpgneckfmjpaa.Kg08 Go.Proofs.Ytplpgneckfmjpaa.Kj08 Go.Proofs.Ytplpgneckfmjpaa.Ka08 Go.Proofs.Ytplpgneckfmjpaa.Px16 Go.Proofs.Ytplpgneckfmjpaa.Py16 Go.Proofs.Ytplpgneckfmjpaa.Ha16 Go.Proofs.Ytplpgneckfmjpaa.Hb16 Go.Proofs.Ytplpgneckfmjpaa.Hc16 Go.Proofs.Ytplpgneckfmjpaa.Hd16 Go.Proofs.Ytplpgneckfmjpaa.He16 Go.Proofs.Ytplpgneckfmjpaa.Hf16
set_option linter.unusedVariables false
set_option linter.unusedSimpArgs false
def fdOk (l : Nat) (n : Int) : Bool := decide (0 ≤ n ∧ n ≤ 12 ∧ 1 ≤ l ∧ l ≤ 6)
def fdV (k : List Nat) (n : Int) : Int := if fdOk k.length n = true then ((bitsK k n.toNat : Nat) : Int) else 0
def fdE (k : List Nat) (n : Int) : Int := if fdOk k.length n = true then 0 else 1
theorem wf_i64 {m : Int} (h : -9223372036854775808 ≤ m ∧ m ≤ 9223372036854775807) : (Lit.int .i64 m).wf = true := by
  show (decide (IntKind.i64.min ≤ m) && decide (m ≤ IntKind.i64.max)) = true
  rw [show IntKind.i64.min = -9223372036854775808 from by decide, show IntKind.i64.max = 9223372036854775807 from by decide, Bool.and_eq_true, decide_eq_true_eq, decide_eq_true_eq]
  exact h
section
variable {w : World} {A B : Option Addr} {n cn m cm : Nat} {k : List Nat} {xs ys : List Int}
theorem find_any (t : Int) (hk : Kv w A n cn k) :
    Calls Try.prog 27 #[.slice A n cn, .int .i64 t] w fun e w' => e = .returned (.tuple #[.int .i64 (fdV k t), .int .i64 (fdE k t)]) ∧ w = w' := by
  have hl := hk.len
  have hmx : maxLen ≤ 9223372036854775807 := by decide
  have hc := hk.cap
  have hm := hk.most
  cases hd : dpB t with
  | false =>
    have D := Lib.hid hd
    have hno : fdOk k.length t = false := by
      have := of_decide_eq_false hd
      exact decide_eq_false (fun x => this ⟨x.1, x.2.1⟩)
    have E1 := Lib.hid (show fdV k t = 0 by unfold fdV; rw [hno]; rfl)
    have E2 := Lib.hid (show fdE k t = 1 by unfold fdE; rw [hno]; rfl)
    rw [E1.out, E2.out]
    clear hd hno hl
    go_enter Try.func27, Try.ntmps27
    go_wp2_with (go_at_call 38; ((with_reducible refine (isDepth_any _ _).mono ?_); rintro e w1 ⟨rfl, rfl⟩; rw [D.out]))
    go_ret2
    exact ⟨rfl, rfl⟩
  | true =>
    have D := Lib.hid hd
    obtain ⟨t0, t1⟩ := of_decide_eq_true hd
    obtain ⟨u, rfl⟩ := Int.eq_ofNat_of_zero_le t0
    clear hd
    by_cases hn : 1 ≤ n ∧ n ≤ 6
    · have hyes : fdOk k.length (u : Int) = true := decide_eq_true ⟨by omega, by omega, by omega, by omega⟩
      have E1 := Lib.hid (show fdV k (u : Int) = ((bitsK k u : Nat) : Int) by unfold fdV; rw [hyes, Int.toNat_natCast]; rfl)
      have E2 := Lib.hid (show fdE k (u : Int) = 0 by unfold fdE; rw [hyes]; rfl)
      rw [E1.out, E2.out]
      have ho : bitsOk k.length (u : Int) := ⟨by omega, by omega, by omega, by omega, by omega⟩
      have Ho := Lib.hid ho
      clear ho hyes hl
      go_enter Try.func27, Try.ntmps27
      go_wp2_with (first
        | (go_at_call 38; ((with_reducible refine (isDepth_any _ _).mono ?_); rintro e w1 ⟨rfl, rfl⟩; rw [D.out]))
        | (go_at_call 39; ((with_reducible refine (bits_ok u hk Ho.out).mono ?_); rintro e w1 ⟨rfl, rfl⟩))
        | fail)
      go_ret2
      exact ⟨rfl, rfl⟩
    · have hno : fdOk k.length (u : Int) = false := decide_eq_false (fun x => hn ⟨by omega, by omega⟩)
      have E1 := Lib.hid (show fdV k (u : Int) = 0 by unfold fdV; rw [hno]; rfl)
      have E2 := Lib.hid (show fdE k (u : Int) = 1 by unfold fdE; rw [hno]; rfl)
      rw [E1.out, E2.out]
      have Ho := Lib.hid (show ¬ bitsOk n (u : Int) from fun x => hn ⟨x.1, x.2.1⟩)
      have Hw := Lib.hid (show (Lit.int .i64 (u : Int)).wf = true from wf_i64 (by omega))
      have Hn := Lib.hid (show n ≤ 9223372036854775807 by omega)
      clear hno hl hn
      go_enter Try.func27, Try.ntmps27
      go_wp2_with (first
        | (go_at_call 38; ((with_reducible refine (isDepth_any _ _).mono ?_); rintro e w1 ⟨rfl, rfl⟩; rw [D.out]))
        | (go_at_call 39; ((with_reducible refine (bits_bad (u : Int) Ho.out Hn.out Hw.out).mono ?_); rintro e w1 ⟨rfl, rfl⟩))
        | fail)
      go_ret2
      exact ⟨rfl, rfl⟩
theorem rfind_any (t : Int) (hk : Kv w A n cn k) :
    Calls Try.prog 30 #[.slice A n cn, .int .i64 t] w fun e w' => e = .returned (.tuple #[.int .i64 (fdV k t), .int .i64 (fdE k t)]) ∧ Fr No w w' := by
  have hl := hk.len
  have hmx : maxLen ≤ 9223372036854775807 := by decide
  have hc := hk.cap
  have hm := hk.most
  by_cases hn : 1 ≤ n ∧ n ≤ 6
  · have C := Lib.hid (show chk n (n : Int) = 0 by unfold chk; rw [if_pos ⟨by omega, by omega, rfl⟩])
    by_cases ht : 0 ≤ t ∧ t ≤ 12
    · obtain ⟨t0, t1⟩ := ht
      obtain ⟨u, rfl⟩ := Int.eq_ofNat_of_zero_le t0
      have hyes : fdOk k.length (u : Int) = true := decide_eq_true ⟨by omega, by omega, by omega, by omega⟩
      have E1 := Lib.hid (show fdV k (u : Int) = ((bitsK k u : Nat) : Int) by unfold fdV; rw [hyes, Int.toNat_natCast]; rfl)
      have E2 := Lib.hid (show fdE k (u : Int) = 0 by unfold fdE; rw [hyes]; rfl)
      rw [E1.out, E2.out]
      have ho : bitsOk k.length (u : Int) := ⟨by omega, by omega, by omega, by omega, by omega⟩
      have Ho := Lib.hid ho
      clear ho hyes hl hn
      go_enter Try.func30, Try.ntmps30
      go_wp2_with (first
        | (go_at_call 28; ((with_reducible refine (rcheck_any _ _ _ _ _).mono ?_); rintro e w1 ⟨rfl, rfl⟩; rw [C.out]))
        | (go_at_call 40; ((with_reducible refine (rbits_ok u hk Ho.out).mono ?_); rintro e w1 ⟨rfl, hf1⟩))
        | fail)
      go_ret2
      exact ⟨rfl, by (repeat (first | with_reducible exact Fr.refl _ _ | with_reducible refine Fr.setCell ?_ (.inr (by first | (simp; done) | (simp; omega))) _ | with_reducible refine Fr.alloc ?_ _ | with_reducible refine Fr.drew ?_ | with_reducible refine Fr.drewN ?_ _ | with_reducible refine Fr.tr ?_ (by assumption)))⟩
    · have hno : fdOk k.length t = false := decide_eq_false (fun x => ht ⟨x.1, x.2.1⟩)
      have E1 := Lib.hid (show fdV k t = 0 by unfold fdV; rw [hno]; rfl)
      have E2 := Lib.hid (show fdE k t = 1 by unfold fdE; rw [hno]; rfl)
      rw [E1.out, E2.out]
      have h3 : t < 0 ∨ (0 ≤ t ∧ 12 < t) := by omega
      clear hno hl hn ht
      rcases h3 with h3 | ⟨h3, h4⟩
      all_goals
        go_enter Try.func30, Try.ntmps30
        go_wp2_with (go_at_call 28; ((with_reducible refine (rcheck_any _ _ _ _ _).mono ?_); rintro e w1 ⟨rfl, rfl⟩; rw [C.out]))
        go_ret2
        exact ⟨rfl, by (repeat (first | with_reducible exact Fr.refl _ _ | with_reducible refine Fr.setCell ?_ (.inr (by first | (simp; done) | (simp; omega))) _ | with_reducible refine Fr.alloc ?_ _ | with_reducible refine Fr.drew ?_ | with_reducible refine Fr.drewN ?_ _ | with_reducible refine Fr.tr ?_ (by assumption)))⟩
  · have C := Lib.hid (show chk n (n : Int) = 1 by unfold chk; rw [if_neg (fun x => hn ⟨by omega, by omega⟩)])
    have hno : fdOk k.length t = false := decide_eq_false (fun x => hn ⟨by omega, by omega⟩)
    have E1 := Lib.hid (show fdV k t = 0 by unfold fdV; rw [hno]; rfl)
    have E2 := Lib.hid (show fdE k t = 1 by unfold fdE; rw [hno]; rfl)
    rw [E1.out, E2.out]
    clear hno hl hn
    go_enter Try.func30, Try.ntmps30
    go_wp2_with (go_at_call 28; ((with_reducible refine (rcheck_any _ _ _ _ _).mono ?_); rintro e w1 ⟨rfl, rfl⟩; rw [C.out]))
    go_ret2
    exact ⟨rfl, by (repeat (first | with_reducible exact Fr.refl _ _ | with_reducible refine Fr.setCell ?_ (.inr (by first | (simp; done) | (simp; omega))) _ | with_reducible refine Fr.alloc ?_ _ | with_reducible refine Fr.drew ?_ | with_reducible refine Fr.drewN ?_ _ | with_reducible refine Fr.tr ?_ (by assumption)))⟩
/-- Two lists of numbers, held against each other. -/
theorem ints_any (ha : Iv w A n cn xs) (hb : Iv w B m cm ys) :
    Calls Try.prog 19 #[.slice A n cn, .slice B m cm] w fun e w' => e = .returned (.bool (decide (xs = ys))) ∧ Fr No w w' := by
  have hl1 := ha.len
  have hl2 := hb.len
  have hmx : maxLen ≤ 9223372036854775807 := by decide
  have c1 := ha.cap
  have c2 := ha.most
  have c3 := hb.cap
  have c4 := hb.most
  have Ha := Lib.hid ha
  have Hb := Lib.hid hb
  clear ha hb
  by_cases he : n = m
  · subst he
    have L1 := Lib.hid hl1
    have L2 := Lib.hid hl2
    clear hl1 hl2
    go_enter Try.func19, Try.ntmps19
    go_wp2
    go_loopw [5] (fun v wr => ∃ i : Nat, i ≤ n ∧ v = .int .i64 i ∧ Hid ((∀ j, j < i → xs.getD j 0 = ys.getD j 0) ∧ Fr No w wr)) (fun v _ => n - (intOf v).toNat)
    case atStart => exact ⟨0, Nat.zero_le _, rfl, Lib.hid ⟨fun j hj => by omega, Fr.refl _ _⟩⟩
    case round =>
      obtain ⟨i, hi, rfl, Hi⟩ := hrel
      by_cases hlt : i < n
      · obtain ⟨ga, oa, rfl, ca⟩ := (Ha.out.no Hi.out.2).get i (by rw [← L1.out]; exact hlt)
        obtain ⟨gb, ob, rfl, cb⟩ := (Hb.out.no Hi.out.2).get i (by rw [← L2.out]; exact hlt)
        generalize hx : xs.getD i 0 = x at *
        generalize hy : ys.getD i 0 = y at *
        by_cases hxy : x = y
        · subst hxy
          have Hx := Lib.hid hx
          have Hy := Lib.hid hy
          clear hx hy
          go_wp2
          go_quiet (fail)
          go_wp2
          go_roundw
          case rel => exact ⟨i + 1, by omega, by go_num, Lib.hid ⟨fun j hj => by
            by_cases e : j = i
            · subst e; rw [Hx.out, Hy.out]
            · exact Hi.out.1 j (by omega), Hi.out.2.drewN _⟩⟩
          case measure => simp [intOf]; omega
        · have E := Lib.hid (show decide (xs = ys) = false from decide_eq_false (fun e => hxy (by rw [← hx, ← hy, e])))
          have hb1 : (x == y) = false := beq_eq_false_iff_ne.2 hxy
          clear hx hy hxy
          go_wp2
          go_quiet (fail)
          go_wp2
          go_ret
          exact ⟨by rw [E.out]; rfl, Hi.out.2.drewN _⟩
      · obtain rfl : i = n := by omega
        have E := Lib.hid (show decide (xs = ys) = true from decide_eq_true (by
          apply List.ext_getElem
          · rw [← L1.out, ← L2.out]
          · intro j h1 h2
            have := Hi.out.1 j (by rw [L1.out]; exact h1)
            simpa [List.getD_eq_getElem?_getD, h1, h2] using this))
        go_wp2
        go_ret
        exact ⟨by rw [E.out]; rfl, Hi.out.2⟩
  · have E := Lib.hid (show decide (xs = ys) = false from decide_eq_false (fun e => he (by rw [hl1, hl2, e])))
    have hb1 : (n == m) = false := beq_eq_false_iff_ne.2 he
    rw [E.out]
    clear hl1 hl2 he
    go_enter Try.func19, Try.ntmps19
    go_wp2
    go_ret
    exact ⟨rfl, Fr.refl _ _⟩
end
end Go.Proofs.Ytplpgneckfmjpaa.Hg16
/- Layer 16: the cell beside one. -/
namespace Go.Proofs.Ytplpgneckfmjpaa.Hh16
open Go.RowKit Go.Proofs.Ytplpgneckfmjpaa.Pk08 Go.Proofs.Ytplpgneckfmjpaa.Base Go.Proofs.Ytplpgneckfmjpaa.App Go.Proofs.Ytplpgneckfmjpaa.Px16 Go.Proofs.Ytplpgneckfmjpaa.Py16 Go.Proofs.Ytplpgneckfmjpaa.Hd16 Go.Proofs.Ytplpgneckfmjpaa.He16 Go.Proofs.Ytplpgneckfmjpaa.Hg16
set_option linter.unusedVariables false
set_option linter.unusedSimpArgs false
def buV (n a b : Int) : Int := if budOk n a b = true then ((bud n.toNat a.toNat b.toNat : Nat) : Int) else 0
def buE (n a b : Int) : Int := if budOk n a b = true then 0 else 1
theorem budOk_no {n a b : Int} (h : budOk n a b = false) : adB n a = false ∨ (adB n a = true ∧ b < 1) ∨ (adB n a = true ∧ 1 ≤ b ∧ n < b) := by
  cases hd : adB n a with
  | false => exact .inl rfl
  | true =>
    have hx := of_decide_eq_true hd
    have hy := of_decide_eq_false h
    by_cases h1 : b < 1
    · exact .inr (.inl ⟨rfl, h1⟩)
    · refine .inr (.inr ⟨rfl, by omega, ?_⟩)
      by_cases h2 : b ≤ n
      · exact absurd ⟨hx.1, hx.2.1, hx.2.2.1, hx.2.2.2, by omega, h2⟩ hy
      · omega
theorem i64_xor_one (q : Nat) (hq : q < 4611686018427387904) : bits .xor .i64 (q : Int) 1 = ((flip1 q : Nat) : Int) := by
  have hc : q ^^^ 1 < 2 ^ 63 := Nat.xor_lt_two_pow (by omega) (by decide)
  have hf : q ^^^ 1 = flip1 q := by
    have h0 : (q ^^^ 1) / 2 = q / 2 ^^^ 1 / 2 := Nat.xor_div_two
    have h1 : (q ^^^ 1) % 2 ^ 1 = (q % 2 ^ 1) ^^^ (1 % 2 ^ 1) := Nat.xor_mod_two_pow
    rw [show (1 / 2 : Nat) = 0 from rfl, Nat.xor_zero] at h0
    rw [show (2 ^ 1 : Nat) = 2 from rfl, show (1 % 2 : Nat) = 1 from rfl] at h1
    unfold flip1
    rcases Nat.mod_two_eq_zero_or_one q with h | h
    · rw [h, show (0 ^^^ 1 : Nat) = 1 from rfl] at h1
      rw [if_neg (by omega)]
      omega
    · rw [h, show (1 ^^^ 1 : Nat) = 0 from rfl] at h1
      rw [if_pos h]
      omega
  show IntKind.i64.wrap ((BitVec.ofInt 64 (q : Int) ^^^ BitVec.ofInt 64 ((1 : Nat) : Int)).toNat : Int) = _
  rw [BitVec.toNat_xor, ofInt_u64 q (by omega), ofInt_u64 1 (by omega), hf]
  rw [hf] at hc
  exact IntWalk.i64_in _ (by omega)
theorem flip1_even (q : Nat) (h : q % 2 = 0) : ((flip1 q : Nat) : Int) = (q : Int) + 1 := by unfold flip1; rw [if_neg (by omega)]; omega
theorem flip1_odd (q : Nat) (h : q % 2 = 1) : ((flip1 q : Nat) : Int) = (q : Int) - 1 := by unfold flip1; rw [if_pos h]; omega
theorem bud_small {n a b : Nat} (h1 : 1 ≤ b) (h2 : b ≤ n) (ha : a < 2 ^ n) (hn : n ≤ 12) : flip1 (a / 2 ^ (n - b)) * 2 ^ (n - b) < 4096 := by
  have h3 := bud_lt n a b h1 h2 ha
  have h4 := Nat.pow_le_pow_right (show 0 < 2 by decide) hn
  unfold bud at h3
  have h5 : (2 : Nat) ^ 12 = 4096 := rfl
  omega
section
variable {w : World}
end
end Go.Proofs.Ytplpgneckfmjpaa.Hh16
