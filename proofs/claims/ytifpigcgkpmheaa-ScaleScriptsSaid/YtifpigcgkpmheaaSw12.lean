/- Layer 12: the calls of a script as they lie in memory; scales that are grown. -/
import Derived.Test.YtifpigcgkpmheaaSv12
import Derived.StillTailTactics
namespace Go.Proofs.Ytifpigcgkpmheaa.Sw12
open Go.RowKit Go.Proofs.Ytifpigcgkpmheaa.Pk08 Go.Proofs.Ytifpigcgkpmheaa.Base Go.Proofs.Ytifpigcgkpmheaa.App Go.Proofs.Ytifpigcgkpmheaa.Ty Go.Proofs.Ytifpigcgkpmheaa.Str Go.Proofs.Ytifpigcgkpmheaa.Ky Go.Proofs.Ytifpigcgkpmheaa.Iv Go.Proofs.Ytifpigcgkpmheaa.Bx Go.Proofs.Ytifpigcgkpmheaa.Bo Go.Proofs.Ytifpigcgkpmheaa.As Go.Proofs.Ytifpigcgkpmheaa.Ro Go.Proofs.Ytifpigcgkpmheaa.Pl08 Go.Proofs.Ytifpigcgkpmheaa.Kc08 Go.Proofs.Ytifpigcgkpmheaa.Ke08 Go.Proofs.Ytifpigcgkpmheaa.Ki08 Go.Proofs.Ytifpigcgkpmheaa.Ka08 Go.Proofs.Ytifpigcgkpmheaa.Ic Go.Proofs.Ytifpigcgkpmheaa.In Go.Proofs.Ytifpigcgkpmheaa.Fa Go.Proofs.Ytifpigcgkpmheaa.Sa12 Go.Proofs.Ytifpigcgkpmheaa.Sb12 Go.Proofs.Ytifpigcgkpmheaa.Sc12 Go.Proofs.Ytifpigcgkpmheaa.Sd12 Go.Proofs.Ytifpigcgkpmheaa.Se12 Go.Proofs.Ytifpigcgkpmheaa.Sf12 Go.Proofs.Ytifpigcgkpmheaa.Sg12 Go.Proofs.Ytifpigcgkpmheaa.Sh12 Go.Proofs.Ytifpigcgkpmheaa.Si12 Go.Proofs.Ytifpigcgkpmheaa.Sl12 Go.Proofs.Ytifpigcgkpmheaa.St12 Go.Proofs.Ytifpigcgkpmheaa.Sv12
set_option linter.unusedVariables false
set_option linter.unusedSimpArgs false
abbrev bxT (E1 E2 : TypeId) : Ty := .cn (.sl E1 (.int .u32)) (.cn (.sl E2 (.int .u32)) .nl)
abbrev opT (E1 E2 E3 E4 : TypeId) : Ty := .cn (.int .i64) (.cn (.int .i64) (.cn (.int .i64) (.cn (.int .u32) (.cn (bxT E1 E2) (.cn (.sl E3 (.int .i64)) (.cn (.sl E4 (.int .i64)) .nl))))))
theorem wf_u32 {z : Int} (h : (Lit.int .u32 z).wf = true) : ∃ x : Nat, z = (x : Int) ∧ x < 4294967296 := by
  have h6 : (decide (IntKind.u32.min ≤ z) && decide (z ≤ IntKind.u32.max)) = true := h
  rw [show IntKind.u32.min = 0 from by decide, show IntKind.u32.max = 4294967295 from by decide, Bool.and_eq_true, decide_eq_true_eq, decide_eq_true_eq] at h6
  exact ⟨z.toNat, by omega, by omega⟩
theorem wf_i64 {z : Int} (h : (Lit.int .i64 z).wf = true) : -9223372036854775808 ≤ z ∧ z ≤ 9223372036854775807 := by
  have h6 : (decide (IntKind.i64.min ≤ z) && decide (z ≤ IntKind.i64.max)) = true := h
  rw [show IntKind.i64.min = -9223372036854775808 from by decide, show IntKind.i64.max = 9223372036854775807 from by decide, Bool.and_eq_true, decide_eq_true_eq, decide_eq_true_eq] at h6
  exact h6
theorem rd_op {E1 E2 E3 E4 : TypeId} {w : World} {x : (opT E1 E2 E3 E4).D} {cs : List Value} (h : Rd (opT E1 E2 E3 E4) w x cs) :
    ∃ (z a i : Int) (b : Nat) (L : Option Addr) (ln lc : Nat) (H : Option Addr) (hn hc : Nat) (X : Option Addr) (xn xc : Nat) (Y : Option Addr) (yn yc : Nat) (lo hi : List Nat) (xs ys : List Int), cs = [.int .i64 z, .int .i64 a, .int .i64 i, .int .u32 (b : Int), .slice L ln lc, .slice H hn hc, .slice X xn xc, .slice Y yn yc] ∧ b < 4294967296 ∧ Kv w L ln lc lo ∧ Kv w H hn hc hi ∧ Iv w X xn xc xs ∧ Iv w Y yn yc ys := by
  obtain ⟨c1, c2, rfl, ⟨rfl, _⟩, c3, c4, rfl, ⟨rfl, _⟩, c5, c6, rfl, ⟨rfl, _⟩, c7, c8, rfl, ⟨rfl, hb⟩, c9, c10, rfl, hx, c11, c12, rfl, h1, c13, c14, rfl, h2, h3⟩ := h
  have h3' : c14 = [] := h3
  subst h3'
  obtain ⟨d1, d2, rfl, g1, d3, d4, rfl, g2, g3⟩ := hx
  have g3' : d4 = [] := g3
  subst g3'
  have g1' := g1
  have g2' := g2
  have h1' := h1
  have h2' := h2
  obtain ⟨L, lc, rfl, _⟩ := g1'
  obtain ⟨H, hc', rfl, _⟩ := g2'
  obtain ⟨X, xc, rfl, _⟩ := h1'
  obtain ⟨Y, yc, rfl, _⟩ := h2'
  obtain ⟨b, hbe, hbl⟩ := wf_u32 hb
  exact ⟨_, _, _, b, L, _, lc, H, _, hc', X, _, xc, Y, _, yc, _, _, _, _, by rw [hbe]; rfl, hbl, Kv.of_rd g1, Kv.of_rd g2, Iv.of_rd h1, Iv.of_rd h2⟩
/-- One call of a script, as it lies in memory. -/
def OpAt (w : World) (b o : Nat) (z a i : Int) (x : Nat) (L : Option Addr) (ln lc : Nat) (H : Option Addr) (hn hc : Nat) (X : Option Addr) (xn xc : Nat) (Y : Option Addr) (yn yc : Nat) (lo hi : List Nat) (xs ys : List Int) : Prop :=
  (w.cell? ⟨b, o, none⟩ = some (.int .i64 z) ∧ w.cell? ⟨b, o + 1, none⟩ = some (.int .i64 a) ∧ w.cell? ⟨b, o + 2, none⟩ = some (.int .i64 i) ∧ w.cell? ⟨b, o + 3, none⟩ = some (.int .u32 (x : Int)) ∧ w.cell? ⟨b, o + 4, none⟩ = some (.slice L ln lc) ∧ w.cell? ⟨b, o + 5, none⟩ = some (.slice H hn hc) ∧ w.cell? ⟨b, o + 6, none⟩ = some (.slice X xn xc) ∧ w.cell? ⟨b, o + 7, none⟩ = some (.slice Y yn yc)) ∧ x < 4294967296 ∧ Kv w L ln lc lo ∧ Kv w H hn hc hi ∧ Iv w X xn xc xs ∧ Iv w Y yn yc ys
structure Ops (w : World) (A : Option Addr) (n c : Nat) : Prop where
  cap : n ≤ c
  most : c ≤ maxLen
  at_ : ∀ k, k < n → ∃ b off z a i x L ln lc H hn hc X xn xc Y yn yc lo hi xs ys, A = some ⟨b, off, none⟩ ∧ OpAt w b (off + k * 8) z a i x L ln lc H hn hc X xn xc Y yn yc lo hi xs ys
theorem OpAt.no {w w1 : World} {b o x ln lc hn hc xn xc yn yc : Nat} {z a i : Int} {L H X Y : Option Addr} {lo hi : List Nat} {xs ys : List Int} (h : OpAt w b o z a i x L ln lc H hn hc X xn xc Y yn yc lo hi xs ys) (f : Fr No w w1) : OpAt w1 b o z a i x L ln lc H hn hc X xn xc Y yn yc lo hi xs ys := by
  obtain ⟨⟨q1, q2, q3, q4, q5, q6, q7, q8⟩, q9, r1, r2, r3, r4⟩ := h
  exact ⟨⟨cel_no q1 f, cel_no q2 f, cel_no q3 f, cel_no q4 f, cel_no q5 f, cel_no q6 f, cel_no q7 f, cel_no q8 f⟩, q9, r1.no f, r2.no f, r3.no f, r4.no f⟩
theorem Ops.no {w w1 : World} {A : Option Addr} {n c : Nat} (h : Ops w A n c) (f : Fr No w w1) : Ops w1 A n c := by
  refine ⟨h.cap, h.most, fun k hk => ?_⟩
  obtain ⟨b, off, z, a, i, x, L, ln, lc, H, hn, hc, X, xn, xc, Y, yn, yc, lo, hi, xs, ys, e, q⟩ := h.at_ k hk
  exact ⟨b, off, z, a, i, x, L, ln, lc, H, hn, hc, X, xn, xc, Y, yn, yc, lo, hi, xs, ys, e, q.no f⟩
theorem Ops.of_rd {w : World} {E E1 E2 E3 E4 : TypeId} {A : Option Addr} {n c : Nat} {xs : List (opT E1 E2 E3 E4).D} (h : Rd (.sl E (opT E1 E2 E3 E4)) w xs [.slice A n c]) : Ops w A n c := by
  obtain ⟨h1, h2, h3, h4⟩ := h.slice
  refine ⟨h2, h3, fun k hk => ?_⟩
  have hix : k < xs.length := by omega
  obtain ⟨b, off, h5, h6⟩ := h.addr (by omega) (by simp [Ty.sz])
  obtain ⟨ecs, h7, h8, h9⟩ := h6 k hix
  obtain ⟨z, a, i, x, L, ln, lc, H, hn, hc, X, xn, xc, Y, yn, yc, lo, hi, xs', ys', rfl, q1, q2, q3, q4, q5⟩ := rd_op h8
  exact ⟨b, off, z, a, i, x, L, ln, lc, H, hn, hc, X, xn, xc, Y, yn, yc, lo, hi, xs', ys', h5, ⟨h9 0 _ rfl, h9 1 _ rfl, h9 2 _ rfl, h9 3 _ rfl, h9 4 _ rfl, h9 5 _ rfl, h9 6 _ rfl, h9 7 _ rfl⟩, q1, q2, q3, q4, q5⟩
def shortB (ln hn xn yn : Nat) : Bool := decide (ln ≤ 20) && decide (hn ≤ 20) && decide (xn ≤ 20) && decide (yn ≤ 20)
section
variable {w : World} {A L H X Y : Option Addr} {n c ln lc hn hc xn xc yn yc x : Nat} {z a i : Int}
theorem short_any (h1 : ln ≤ maxLen) (h2 : hn ≤ maxLen) (h3 : xn ≤ maxLen) (h4 : yn ≤ maxLen) : Calls Try.prog 29 #[.agg #[.int .i64 z, .int .i64 a, .int .i64 i, .int .u32 (x : Int), .slice L ln lc, .slice H hn hc, .slice X xn xc, .slice Y yn yc]] w fun e w' => e = .returned (.bool (shortB ln hn xn yn)) ∧ Fr No w w' := by
  have hmx : maxLen ≤ 9223372036854775807 := by decide
  by_cases q1 : ln ≤ 20
  · by_cases q2 : hn ≤ 20
    · by_cases q3 : xn ≤ 20
      · by_cases q4 : yn ≤ 20
        · have hd : decide ((yn : Int) ≤ 20) = true := decide_eq_true (by omega)
          have e : shortB ln hn xn yn = true := by simp [shortB, q1, q2, q3, q4]
          rw [e]; clear e
          go_enter Try.func29, Try.ntmps29
          go_wp2
          go_ret
          exact ⟨rfl, by (repeat (first | with_reducible exact Fr.refl _ _ | with_reducible refine Fr.setCell ?_ (.inr (by first | (simp; done) | (simp; omega))) _ | with_reducible refine Fr.alloc ?_ _ | with_reducible refine Fr.drew ?_ | with_reducible refine Fr.drewN ?_ _ | with_reducible refine Fr.tr ?_ (by assumption)))⟩
        · have hd : decide ((yn : Int) ≤ 20) = false := decide_eq_false (by omega)
          have e : shortB ln hn xn yn = false := by simp [shortB, q4]
          rw [e]; clear e
          go_enter Try.func29, Try.ntmps29
          go_wp2
          go_ret
          exact ⟨rfl, by (repeat (first | with_reducible exact Fr.refl _ _ | with_reducible refine Fr.setCell ?_ (.inr (by first | (simp; done) | (simp; omega))) _ | with_reducible refine Fr.alloc ?_ _ | with_reducible refine Fr.drew ?_ | with_reducible refine Fr.drewN ?_ _ | with_reducible refine Fr.tr ?_ (by assumption)))⟩
      · have e : shortB ln hn xn yn = false := by simp [shortB, q3]
        rw [e]; clear e
        go_enter Try.func29, Try.ntmps29
        go_wp2
        go_ret
        exact ⟨rfl, by (repeat (first | with_reducible exact Fr.refl _ _ | with_reducible refine Fr.setCell ?_ (.inr (by first | (simp; done) | (simp; omega))) _ | with_reducible refine Fr.alloc ?_ _ | with_reducible refine Fr.drew ?_ | with_reducible refine Fr.drewN ?_ _ | with_reducible refine Fr.tr ?_ (by assumption)))⟩
    · have e : shortB ln hn xn yn = false := by simp [shortB, q2]
      rw [e]; clear e
      go_enter Try.func29, Try.ntmps29
      go_wp2
      go_ret
      exact ⟨rfl, by (repeat (first | with_reducible exact Fr.refl _ _ | with_reducible refine Fr.setCell ?_ (.inr (by first | (simp; done) | (simp; omega))) _ | with_reducible refine Fr.alloc ?_ _ | with_reducible refine Fr.drew ?_ | with_reducible refine Fr.drewN ?_ _ | with_reducible refine Fr.tr ?_ (by assumption)))⟩
  · have e : shortB ln hn xn yn = false := by simp [shortB, q1]
    rw [e]; clear e
    go_enter Try.func29, Try.ntmps29
    go_wp2
    go_ret
    exact ⟨rfl, by (repeat (first | with_reducible exact Fr.refl _ _ | with_reducible refine Fr.setCell ?_ (.inr (by first | (simp; done) | (simp; omega))) _ | with_reducible refine Fr.alloc ?_ _ | with_reducible refine Fr.drew ?_ | with_reducible refine Fr.drewN ?_ _ | with_reducible refine Fr.tr ?_ (by assumption)))⟩
theorem gd_new {d : Nat} (h1 : 1 ≤ d) (h6 : d ≤ 6) : Gd (List.replicate d ([] : List Nat)) := ⟨by simpa using h1, by simpa using h6, fun r hr => by
  rw [(List.mem_replicate.1 hr).2]
  exact ⟨by simp [Inc], by decide, fun x hx => by simp at hx⟩⟩
theorem insL_len (rows : List (List Nat)) (z : Int) (x : Nat) : (insL rows z x).length = rows.length := by
  unfold insL; split <;> simp
theorem grown_in {d : Nat} (h : Ops w A n c) (h1 : 1 ≤ d) (h6 : d ≤ 6) : Calls Try.prog 17 #[.int .i64 (d : Int), .slice A n c] w fun e w' => ∃ gs rows, e = .returned (.pointer (some ⟨gs, 0, none⟩)) ∧ Osc w w' gs rows ∧ Gd rows ∧ rows.length = d := by
  have HS := Lib.hid h
  have hcap := h.cap
  have hmost := h.most
  have hmx : maxLen ≤ 9223372036854775807 := by decide
  have H1 := Lib.hid h1
  have H6 := Lib.hid h6
  clear h h1 h6
  go_enter Try.func17, Try.ntmps17
  go_wp2_with (go_at_call 27; ((with_reducible refine (os_new (w0 := w) H1.out H6.out (Fr.refl _ _)).mono ?_); rintro en w1 ⟨gs, rfl, hs1⟩))
  have HO := Lib.hid hs1
  clear hs1
  go_loopw [7] (fun v wr => ∃ k : Nat, v = .int .i64 k ∧ k ≤ n ∧ k ≤ 60 ∧ Hid (∃ rows, Osc w wr gs rows ∧ Gd rows ∧ rows.length = d)) (fun v _ => n - (intOf v).toNat)
  case atStart => exact ⟨0, rfl, Nat.zero_le _, Nat.zero_le _, Lib.hid ⟨_, HO.out, gd_new H1.out H6.out, by simp⟩⟩
  case round =>
    obtain ⟨k, rfl, hkn, hk60, Hi⟩ := hrel
    obtain ⟨rows, ho, hg, hl⟩ := Hi.out
    have HOs := Lib.hid ho
    have HG := Lib.hid hg
    have HL := Lib.hid hl
    clear Hi ho hg hl HO
    by_cases hlt : k < n
    · by_cases hlt60 : k < 60
      · obtain ⟨b, off, z, a, i, x, L, ln, lc, H, hn, hc, X, xn, xc, Y, yn, yc, lo, hi, xs, ys, rfl, ⟨q0, q1, q2, q3, q4, q5, q6, q7⟩, hx, _⟩ := HS.out.at_ k hlt
        have c1 := cel_no q1 HOs.out.fr
        have c3 := cel_no q3 HOs.out.fr
        have HI := Lib.hid (fun W (f : Fr No wr W) => os_insert (x := x) (HOs.out.no f) HG.out a hx)
        have HGi := Lib.hid (Gd.ins HG.out hx a)
        have HLi := Lib.hid ((insL_len rows a x).trans HL.out)
        clear q0 q2 q4 q5 q6 q7 hx
        go_wp2
        (refine wp_region_held_drew (S := fun w' => w'.cell? ⟨b, off + k * 8 + 1, none⟩ = some (.int .i64 a) ∧ w'.cell? ⟨b, off + k * 8 + 3, none⟩ = some (.int .u32 (x : Int))) (by kernel_rfl) ?_ (fun hHeld => ?_); focus ((try dsimp only); (refine ⟨?_, ?_⟩; (repeat (first | with_reducible assumption | with_reducible refine cel_alloc ?_ _ | with_reducible refine cel_drew ?_ | with_reducible refine cel_drewN ?_ _ | with_reducible refine cel_set ?_ (by first | (simp; done) | (simp; omega)) _ | with_reducible refine cel_no ?_ (by assumption))); (repeat (first | with_reducible assumption | with_reducible refine cel_alloc ?_ _ | with_reducible refine cel_drew ?_ | with_reducible refine cel_drewN ?_ _ | with_reducible refine cel_set ?_ (by first | (simp; done) | (simp; omega)) _ | with_reducible refine cel_no ?_ (by assumption)))); done))
        ((refine wpAnyH_take (i := 0) (v := ?_) rfl (by kernel_rfl) (by kernel_rfl) (by kernel_rfl) (fun _ _ _ h => h) (Or.inl ⟨by rfl, ?_⟩) (by assumption) ?_; rotate_left; focus (intro w hSw; (try dsimp only at hSw); go_simp; (try with_reducible rfl); done)); (try simp only [Act.put, List.setIfInBounds_toArray, List.set_cons_zero, List.set_cons_succ, List.getElem_toArray, List.getElem_cons_zero, List.getElem_cons_succ]); (refine wpAnyH_take (i := 1) (v := ?_) rfl (by kernel_rfl) (by kernel_rfl) (by kernel_rfl) (fun _ _ _ h => h) (Or.inl ⟨by rfl, ?_⟩) (by assumption) ?_; rotate_left; focus (intro w hSw; (try dsimp only at hSw); go_simp; (try with_reducible rfl); done)); (try simp only [Act.put, List.setIfInBounds_toArray, List.set_cons_zero, List.set_cons_succ, List.getElem_toArray, List.getElem_cons_zero, List.getElem_cons_succ]); (refine wpAnyH_take (i := 2) (v := ?_) rfl (by kernel_rfl) (by kernel_rfl) (by kernel_rfl) (fun _ _ _ h => h) (Or.inl ⟨by rfl, ?_⟩) (by assumption) ?_; rotate_left; focus (intro w hSw; (try dsimp only at hSw); go_simp; (try with_reducible rfl); done)); (try simp only [Act.put, List.setIfInBounds_toArray, List.set_cons_zero, List.set_cons_succ, List.getElem_toArray, List.getElem_cons_zero, List.getElem_cons_succ]); (refine wpAnyH_take (i := 3) (v := ?_) rfl (by kernel_rfl) (by kernel_rfl) (by kernel_rfl) (fun _ _ _ h => h) (Or.inl ⟨by rfl, ?_⟩) (by assumption) ?_; rotate_left; focus (intro w hSw; (try dsimp only at hSw); go_simp; (try with_reducible rfl); done)); (try simp only [Act.put, List.setIfInBounds_toArray, List.set_cons_zero, List.set_cons_succ, List.getElem_toArray, List.getElem_cons_zero, List.getElem_cons_succ]); (refine wpAnyH_take (i := 4) (v := ?_) rfl (by kernel_rfl) (by kernel_rfl) (by kernel_rfl) (fun _ _ _ h => h) (Or.inl ⟨by rfl, ?_⟩) (by assumption) ?_; rotate_left; focus (intro w hSw; (try dsimp only at hSw); go_simp; (try with_reducible rfl); done)); (try simp only [Act.put, List.setIfInBounds_toArray, List.set_cons_zero, List.set_cons_succ, List.getElem_toArray, List.getElem_cons_zero, List.getElem_cons_succ]); (refine wpAnyH_take (i := 5) (v := ?_) rfl (by kernel_rfl) (by kernel_rfl) (by kernel_rfl) (fun _ _ _ h => h) (Or.inl ⟨by rfl, ?_⟩) (by assumption) ?_; rotate_left; focus (intro w hSw; (try dsimp only at hSw); go_simp; (try with_reducible rfl); done)); (try simp only [Act.put, List.setIfInBounds_toArray, List.set_cons_zero, List.set_cons_succ, List.getElem_toArray, List.getElem_cons_zero, List.getElem_cons_succ]); (refine wpAnyH_take (i := 6) (v := ?_) rfl (by kernel_rfl) (by kernel_rfl) (by kernel_rfl) (fun _ _ _ h => h) (Or.inl ⟨by rfl, ?_⟩) (by assumption) ?_; rotate_left; focus (intro w hSw; (try dsimp only at hSw); go_simp; (try with_reducible rfl); done)); (try simp only [Act.put, List.setIfInBounds_toArray, List.set_cons_zero, List.set_cons_succ, List.getElem_toArray, List.getElem_cons_zero, List.getElem_cons_succ]); (refine wpAnyH_take (i := 7) (v := ?_) rfl (by kernel_rfl) (by kernel_rfl) (by kernel_rfl) (fun _ _ _ h => h) (Or.inl ⟨by rfl, ?_⟩) (by assumption) ?_; rotate_left; focus (intro w hSw; (try dsimp only at hSw); go_simp; (try with_reducible rfl); done)); (try simp only [Act.put, List.setIfInBounds_toArray, List.set_cons_zero, List.set_cons_succ, List.getElem_toArray, List.getElem_cons_zero, List.getElem_cons_succ]); (refine wpAnyH_take (i := 8) (v := ?_) rfl (by kernel_rfl) (by kernel_rfl) (by kernel_rfl) (fun _ _ _ h => h) (Or.inl ⟨by rfl, ?_⟩) (by assumption) ?_; rotate_left; focus (intro w hSw; (try dsimp only at hSw); go_simp; (try with_reducible rfl); done)); (try simp only [Act.put, List.setIfInBounds_toArray, List.set_cons_zero, List.set_cons_succ, List.getElem_toArray, List.getElem_cons_zero, List.getElem_cons_succ]); (refine wpAnyH_take (i := 9) (v := ?_) rfl (by kernel_rfl) (by kernel_rfl) (by kernel_rfl) (fun _ _ _ h => h) (Or.inl ⟨by rfl, ?_⟩) (by assumption) ?_; rotate_left; focus (intro w hSw; (try dsimp only at hSw); go_simp; (try with_reducible rfl); done)); (try simp only [Act.put, List.setIfInBounds_toArray, List.set_cons_zero, List.set_cons_succ, List.getElem_toArray, List.getElem_cons_zero, List.getElem_cons_succ]); (refine wpAnyH_take (i := 10) (v := ?_) rfl (by kernel_rfl) (by kernel_rfl) (by kernel_rfl) (fun _ _ _ h => h) (Or.inl ⟨by rfl, ?_⟩) (by assumption) ?_; rotate_left; focus (intro w hSw; (try dsimp only at hSw); go_simp; (try with_reducible rfl); done)); (try simp only [Act.put, List.setIfInBounds_toArray, List.set_cons_zero, List.set_cons_succ, List.getElem_toArray, List.getElem_cons_zero, List.getElem_cons_succ]))
        (refine wpAnyH_ready (rs := [11]) (by kernel_rfl) (by simp) ?_; refine AllReadyH.cons rfl (fun K hK => ?_) AllReadyH.nil; (try simp only [Act.put, List.setIfInBounds_toArray, List.set_cons_zero, List.set_cons_succ, List.getElem_toArray, List.getElem_cons_zero, List.getElem_cons_succ]); go_simp; (go_at_call 21; ((with_reducible refine (HI.out _ (by (repeat (first | with_reducible exact Fr.refl _ _ | with_reducible refine Fr.setCell ?_ (.inr (by first | (simp; done) | (simp; omega))) _ | with_reducible refine Fr.alloc ?_ _ | with_reducible refine Fr.drew ?_ | with_reducible refine Fr.drewN ?_ _ | with_reducible refine Fr.tr ?_ (by assumption))))).mono ?_); rintro en w3 ⟨rfl, hs3⟩; (have HO3 := Lib.hid hs3); clear hs3)); (try go_wp2_with fail); refine hK.out _ _ ?_ (fun hHeld => ?_); focus ((try dsimp only); (exact ⟨cel_no q1 HO3.out.fr, cel_no q3 HO3.out.fr⟩); done)); (clear hK K); (try simp only [Act.put, List.setIfInBounds_toArray, List.set_cons_zero, List.set_cons_succ, List.getElem_toArray, List.getElem_cons_zero, List.getElem_cons_succ])
        (refine wpAnyH_done (by kernel_rfl) ?_ _)
        (try go_wp2)
        go_roundw
        case rel => exact ⟨k + 1, by go_num, hlt, hlt60, Lib.hid ⟨_, HO3.out, HGi.out, HLi.out⟩⟩
        case measure => simp [intOf]; omega
      · obtain rfl : k = 60 := by omega
        go_wp2
        go_ret
        exact ⟨gs, rows, rfl, HOs.out, HG.out, HL.out⟩
    · obtain rfl : k = n := by omega
      go_wp2
      go_ret
      exact ⟨gs, rows, rfl, HOs.out, HG.out, HL.out⟩
theorem grown_out {d : Int} (h : Ops w A n c) (hd : ¬ (1 ≤ d ∧ d ≤ 6)) : Calls Try.prog 17 #[.int .i64 d, .slice A n c] w fun e w' => e = .returned (.pointer none) ∧ Fr No w w' := by
  have HS := Lib.hid h
  have hcap := h.cap
  have hmost := h.most
  have hmx : maxLen ≤ 9223372036854775807 := by decide
  have Hd := Lib.hid hd
  clear h hd
  go_enter Try.func17, Try.ntmps17
  go_wp2_with (go_at_call 27; ((with_reducible refine (new_no Hd.out).mono ?_); rintro en w1 ⟨rfl, rfl⟩))
  go_loopw [7] (fun v wr => ∃ k : Nat, v = .int .i64 k ∧ k ≤ n ∧ k ≤ 60 ∧ Hid (Fr No w wr)) (fun v _ => n - (intOf v).toNat)
  case atStart => exact ⟨0, rfl, Nat.zero_le _, Nat.zero_le _, Lib.hid (Fr.refl _ _)⟩
  case round =>
    obtain ⟨k, rfl, hkn, hk60, Hi⟩ := hrel
    by_cases hlt : k < n
    · by_cases hlt60 : k < 60
      · obtain ⟨b, off, z, a, i, x, L, ln, lc, H, hn, hc, X, xn, xc, Y, yn, yc, lo, hi, xs, ys, rfl, ⟨q0, q1, q2, q3, q4, q5, q6, q7⟩, hx, _⟩ := HS.out.at_ k hlt
        have c1 := cel_no q1 Hi.out
        have c3 := cel_no q3 Hi.out
        clear q0 q1 q2 q3 q4 q5 q6 q7 hx
        go_wp2
        (refine wp_region_held_drew (S := fun w' => w'.cell? ⟨b, off + k * 8 + 1, none⟩ = some (.int .i64 a) ∧ w'.cell? ⟨b, off + k * 8 + 3, none⟩ = some (.int .u32 (x : Int))) (by kernel_rfl) ?_ (fun hHeld => ?_); focus ((try dsimp only); (refine ⟨?_, ?_⟩; (repeat (first | with_reducible assumption | with_reducible refine cel_alloc ?_ _ | with_reducible refine cel_drew ?_ | with_reducible refine cel_drewN ?_ _ | with_reducible refine cel_set ?_ (by first | (simp; done) | (simp; omega)) _ | with_reducible refine cel_no ?_ (by assumption))); (repeat (first | with_reducible assumption | with_reducible refine cel_alloc ?_ _ | with_reducible refine cel_drew ?_ | with_reducible refine cel_drewN ?_ _ | with_reducible refine cel_set ?_ (by first | (simp; done) | (simp; omega)) _ | with_reducible refine cel_no ?_ (by assumption)))); done))
        ((refine wpAnyH_take (i := 0) (v := ?_) rfl (by kernel_rfl) (by kernel_rfl) (by kernel_rfl) (fun _ _ _ h => h) (Or.inl ⟨by rfl, ?_⟩) (by assumption) ?_; rotate_left; focus (intro w hSw; (try dsimp only at hSw); go_simp; (try with_reducible rfl); done)); (try simp only [Act.put, List.setIfInBounds_toArray, List.set_cons_zero, List.set_cons_succ, List.getElem_toArray, List.getElem_cons_zero, List.getElem_cons_succ]); (refine wpAnyH_take (i := 1) (v := ?_) rfl (by kernel_rfl) (by kernel_rfl) (by kernel_rfl) (fun _ _ _ h => h) (Or.inl ⟨by rfl, ?_⟩) (by assumption) ?_; rotate_left; focus (intro w hSw; (try dsimp only at hSw); go_simp; (try with_reducible rfl); done)); (try simp only [Act.put, List.setIfInBounds_toArray, List.set_cons_zero, List.set_cons_succ, List.getElem_toArray, List.getElem_cons_zero, List.getElem_cons_succ]); (refine wpAnyH_take (i := 2) (v := ?_) rfl (by kernel_rfl) (by kernel_rfl) (by kernel_rfl) (fun _ _ _ h => h) (Or.inl ⟨by rfl, ?_⟩) (by assumption) ?_; rotate_left; focus (intro w hSw; (try dsimp only at hSw); go_simp; (try with_reducible rfl); done)); (try simp only [Act.put, List.setIfInBounds_toArray, List.set_cons_zero, List.set_cons_succ, List.getElem_toArray, List.getElem_cons_zero, List.getElem_cons_succ]); (refine wpAnyH_take (i := 3) (v := ?_) rfl (by kernel_rfl) (by kernel_rfl) (by kernel_rfl) (fun _ _ _ h => h) (Or.inl ⟨by rfl, ?_⟩) (by assumption) ?_; rotate_left; focus (intro w hSw; (try dsimp only at hSw); go_simp; (try with_reducible rfl); done)); (try simp only [Act.put, List.setIfInBounds_toArray, List.set_cons_zero, List.set_cons_succ, List.getElem_toArray, List.getElem_cons_zero, List.getElem_cons_succ]); (refine wpAnyH_take (i := 4) (v := ?_) rfl (by kernel_rfl) (by kernel_rfl) (by kernel_rfl) (fun _ _ _ h => h) (Or.inl ⟨by rfl, ?_⟩) (by assumption) ?_; rotate_left; focus (intro w hSw; (try dsimp only at hSw); go_simp; (try with_reducible rfl); done)); (try simp only [Act.put, List.setIfInBounds_toArray, List.set_cons_zero, List.set_cons_succ, List.getElem_toArray, List.getElem_cons_zero, List.getElem_cons_succ]); (refine wpAnyH_take (i := 5) (v := ?_) rfl (by kernel_rfl) (by kernel_rfl) (by kernel_rfl) (fun _ _ _ h => h) (Or.inl ⟨by rfl, ?_⟩) (by assumption) ?_; rotate_left; focus (intro w hSw; (try dsimp only at hSw); go_simp; (try with_reducible rfl); done)); (try simp only [Act.put, List.setIfInBounds_toArray, List.set_cons_zero, List.set_cons_succ, List.getElem_toArray, List.getElem_cons_zero, List.getElem_cons_succ]); (refine wpAnyH_take (i := 6) (v := ?_) rfl (by kernel_rfl) (by kernel_rfl) (by kernel_rfl) (fun _ _ _ h => h) (Or.inl ⟨by rfl, ?_⟩) (by assumption) ?_; rotate_left; focus (intro w hSw; (try dsimp only at hSw); go_simp; (try with_reducible rfl); done)); (try simp only [Act.put, List.setIfInBounds_toArray, List.set_cons_zero, List.set_cons_succ, List.getElem_toArray, List.getElem_cons_zero, List.getElem_cons_succ]); (refine wpAnyH_take (i := 7) (v := ?_) rfl (by kernel_rfl) (by kernel_rfl) (by kernel_rfl) (fun _ _ _ h => h) (Or.inl ⟨by rfl, ?_⟩) (by assumption) ?_; rotate_left; focus (intro w hSw; (try dsimp only at hSw); go_simp; (try with_reducible rfl); done)); (try simp only [Act.put, List.setIfInBounds_toArray, List.set_cons_zero, List.set_cons_succ, List.getElem_toArray, List.getElem_cons_zero, List.getElem_cons_succ]); (refine wpAnyH_take (i := 8) (v := ?_) rfl (by kernel_rfl) (by kernel_rfl) (by kernel_rfl) (fun _ _ _ h => h) (Or.inl ⟨by rfl, ?_⟩) (by assumption) ?_; rotate_left; focus (intro w hSw; (try dsimp only at hSw); go_simp; (try with_reducible rfl); done)); (try simp only [Act.put, List.setIfInBounds_toArray, List.set_cons_zero, List.set_cons_succ, List.getElem_toArray, List.getElem_cons_zero, List.getElem_cons_succ]); (refine wpAnyH_take (i := 9) (v := ?_) rfl (by kernel_rfl) (by kernel_rfl) (by kernel_rfl) (fun _ _ _ h => h) (Or.inl ⟨by rfl, ?_⟩) (by assumption) ?_; rotate_left; focus (intro w hSw; (try dsimp only at hSw); go_simp; (try with_reducible rfl); done)); (try simp only [Act.put, List.setIfInBounds_toArray, List.set_cons_zero, List.set_cons_succ, List.getElem_toArray, List.getElem_cons_zero, List.getElem_cons_succ]); (refine wpAnyH_take (i := 10) (v := ?_) rfl (by kernel_rfl) (by kernel_rfl) (by kernel_rfl) (fun _ _ _ h => h) (Or.inl ⟨by rfl, ?_⟩) (by assumption) ?_; rotate_left; focus (intro w hSw; (try dsimp only at hSw); go_simp; (try with_reducible rfl); done)); (try simp only [Act.put, List.setIfInBounds_toArray, List.set_cons_zero, List.set_cons_succ, List.getElem_toArray, List.getElem_cons_zero, List.getElem_cons_succ]))
        (refine wpAnyH_ready (rs := [11]) (by kernel_rfl) (by simp) ?_; refine AllReadyH.cons rfl (fun K hK => ?_) AllReadyH.nil; (try simp only [Act.put, List.setIfInBounds_toArray, List.set_cons_zero, List.set_cons_succ, List.getElem_toArray, List.getElem_cons_zero, List.getElem_cons_succ]); go_simp; (go_at_call 21; ((with_reducible refine (insert_nil _ _).mono ?_); rintro en w3 ⟨rfl, rfl⟩)); (try go_wp2_with fail); refine hK.out _ _ ?_ (fun hHeld => ?_); focus ((try dsimp only); (refine ⟨?_, ?_⟩; (repeat (first | with_reducible assumption | with_reducible refine cel_alloc ?_ _ | with_reducible refine cel_drew ?_ | with_reducible refine cel_drewN ?_ _ | with_reducible refine cel_set ?_ (by first | (simp; done) | (simp; omega)) _ | with_reducible refine cel_no ?_ (by assumption))); (repeat (first | with_reducible assumption | with_reducible refine cel_alloc ?_ _ | with_reducible refine cel_drew ?_ | with_reducible refine cel_drewN ?_ _ | with_reducible refine cel_set ?_ (by first | (simp; done) | (simp; omega)) _ | with_reducible refine cel_no ?_ (by assumption)))); done)); (clear hK K); (try simp only [Act.put, List.setIfInBounds_toArray, List.set_cons_zero, List.set_cons_succ, List.getElem_toArray, List.getElem_cons_zero, List.getElem_cons_succ])
        (refine wpAnyH_done (by kernel_rfl) ?_ _)
        (try go_wp2)
        go_roundw
        case rel => exact ⟨k + 1, by go_num, hlt, hlt60, Lib.hid (by have this := Hi.out; (repeat (first | with_reducible exact Fr.refl _ _ | with_reducible refine Fr.setCell ?_ (.inr (by first | (simp; done) | (simp; omega))) _ | with_reducible refine Fr.alloc ?_ _ | with_reducible refine Fr.drew ?_ | with_reducible refine Fr.drewN ?_ _ | with_reducible refine Fr.tr ?_ (by assumption))))⟩
        case measure => simp [intOf]; omega
      · obtain rfl : k = 60 := by omega
        go_wp2
        go_ret
        exact ⟨rfl, Hi.out⟩
    · obtain rfl : k = n := by omega
      go_wp2
      go_ret
      exact ⟨rfl, Hi.out⟩
end
end Go.Proofs.Ytifpigcgkpmheaa.Sw12
