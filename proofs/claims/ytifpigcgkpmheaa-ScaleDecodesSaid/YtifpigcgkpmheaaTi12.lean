/- Layer 12, law: the scale of any bytes, or why there is none. -/
import Derived.Test.YtifpigcgkpmheaaTh12
import Derived.StillTailTactics
namespace Go.Proofs.Ytifpigcgkpmheaa.Ti12
open Go.RowKit Go.Proofs.Ytifpigcgkpmheaa.Pk08 Go.Proofs.Ytifpigcgkpmheaa.Base Go.Proofs.Ytifpigcgkpmheaa.App Go.Proofs.Ytifpigcgkpmheaa.Ty Go.Proofs.Ytifpigcgkpmheaa.Str Go.Proofs.Ytifpigcgkpmheaa.Ky Go.Proofs.Ytifpigcgkpmheaa.Iv Go.Proofs.Ytifpigcgkpmheaa.Bx Go.Proofs.Ytifpigcgkpmheaa.Bo Go.Proofs.Ytifpigcgkpmheaa.As Go.Proofs.Ytifpigcgkpmheaa.Ro Go.Proofs.Ytifpigcgkpmheaa.Pl08 Go.Proofs.Ytifpigcgkpmheaa.Kc08 Go.Proofs.Ytifpigcgkpmheaa.Ke08 Go.Proofs.Ytifpigcgkpmheaa.Ki08 Go.Proofs.Ytifpigcgkpmheaa.Ka08 Go.Proofs.Ytifpigcgkpmheaa.Ic Go.Proofs.Ytifpigcgkpmheaa.In Go.Proofs.Ytifpigcgkpmheaa.Fa Go.Proofs.Ytifpigcgkpmheaa.Sa12 Go.Proofs.Ytifpigcgkpmheaa.Sb12 Go.Proofs.Ytifpigcgkpmheaa.Sc12 Go.Proofs.Ytifpigcgkpmheaa.Sd12 Go.Proofs.Ytifpigcgkpmheaa.Se12 Go.Proofs.Ytifpigcgkpmheaa.Sf12 Go.Proofs.Ytifpigcgkpmheaa.Sg12 Go.Proofs.Ytifpigcgkpmheaa.Sh12 Go.Proofs.Ytifpigcgkpmheaa.Si12 Go.Proofs.Ytifpigcgkpmheaa.Sk12 Go.Proofs.Ytifpigcgkpmheaa.Sl12 Go.Proofs.Ytifpigcgkpmheaa.St12 Go.Proofs.Ytifpigcgkpmheaa.Sv12 Go.Proofs.Ytifpigcgkpmheaa.Sw12 Go.Proofs.Ytifpigcgkpmheaa.Sw12 Go.Proofs.Ytifpigcgkpmheaa.Kj08 Go.Proofs.Ytifpigcgkpmheaa.Kh08 Go.Proofs.Ytifpigcgkpmheaa.Ky08 Go.Proofs.Ytifpigcgkpmheaa.Sm12 Go.Proofs.Ytifpigcgkpmheaa.Wd Go.Proofs.Ytifpigcgkpmheaa.Sp12 Go.Proofs.Ytifpigcgkpmheaa.Sq12 Go.Proofs.Ytifpigcgkpmheaa.Sr12 Go.Proofs.Ytifpigcgkpmheaa.Ss12 Go.Proofs.Ytifpigcgkpmheaa.Tc12 Go.Proofs.Ytifpigcgkpmheaa.Th12 Go.Proofs.Ytifpigcgkpmheaa.Sv12
set_option linter.unusedVariables false
set_option linter.unusedSimpArgs false
/-! ### the plain law -/
section
variable {t : List Nat} {a b n d : Nat} {r : List Nat} {rs : List (List Nat)}
theorem take1 (h : a < t.length) : t.take (a + 1) = t.take a ++ [t.getD a 0] := by
  rw [List.take_add_one]; simp [List.getD_eq_getElem?_getD, h]
theorem be4_numk (h : ∀ i, t.getD i 0 < 256) (b : Nat) : be4 (numk t b 4) = [t.getD b 0, t.getD (b + 1) 0, t.getD (b + 2) 0, t.getD (b + 3) 0] := by
  have h0 := h b
  have h1 := h (b + 1)
  have h2 := h (b + 2)
  have h3 := h (b + 3)
  simp only [be4, numk, Nat.add_zero, Nat.zero_mul, Nat.zero_add]
  generalize t.getD b 0 = x0 at *
  generalize t.getD (b + 1) 0 = x1 at *
  generalize t.getD (b + 2) 0 = x2 at *
  generalize t.getD (b + 3) 0 = x3 at *
  rw [show (((x0 * 256 + x1) * 256 + x2) * 256 + x3) / 16777216 = x0 by omega, show (((x0 * 256 + x1) * 256 + x2) * 256 + x3) / 65536 % 256 = x1 by omega, show (((x0 * 256 + x1) * 256 + x2) * 256 + x3) / 256 % 256 = x2 by omega, show (((x0 * 256 + x1) * 256 + x2) * 256 + x3) % 256 = x3 by omega]
theorem bnds_take (h : ∀ i, t.getD i 0 < 256) : ∀ n, a + 4 * n ≤ t.length → t.take a ++ (bnds t a n).flatMap be4 = t.take (a + 4 * n)
  | 0, _ => by simp [bnds]
  | n + 1, hn => by
    have ih := bnds_take h n (by omega)
    rw [bnds_succ, List.flatMap_append, ← List.append_assoc, ih]
    simp only [List.flatMap_cons, List.flatMap_nil, List.append_nil]
    rw [be4_numk h, show a + 4 * (n + 1) = a + 4 * n + 1 + 1 + 1 + 1 by omega, take1 (by omega), take1 (by omega), take1 (by omega), take1 (by omega)]
    simp only [List.append_assoc, List.cons_append, List.nil_append]
theorem rd1_take (h : ∀ i, t.getD i 0 < 256) (e : rd1 t a = some (r, b)) : t.take a ++ encR r = t.take b ∧ b ≤ t.length := by
  unfold rd1 at e
  split at e
  · rename_i hc
    injection e with e
    injection e with e1 e2
    subst e1
    subst e2
    refine ⟨?_, hc.2⟩
    have h2 := bnds_take (a := a + 1) h (t.getD a 0) hc.2
    rw [take1 hc.1] at h2
    unfold encR
    rw [bnds_len]
    show t.take a ++ ([t.getD a 0] ++ _) = _
    rw [← List.append_assoc]
    exact h2
  · cases e
theorem rds_take (h : ∀ i, t.getD i 0 < 256) : ∀ {k : Nat} {rs : List (List Nat)} {a : Nat}, rds t k = some (rs, a) → encS rs = t.take a ∧ a ≤ t.length
  | 0, rs, a, e => by injection e with e; injection e with e1 e2; subst e1; subst e2; exact ⟨by simp [encS], Nat.zero_le _⟩
  | k + 1, rs, a, e => by
    unfold rds at e
    split at e
    · cases e
    · rename_i rs1 a1 q1
      split at e
      · cases e
      · rename_i r b q2
        injection e with e; injection e with e1 e2
        subst e1
        subst e2
        obtain ⟨i1, i2⟩ := rds_take h q1
        obtain ⟨j1, j2⟩ := rd1_take h q2
        refine ⟨?_, j2⟩
        have : encS (rs1 ++ [r]) = encS rs1 ++ encR r := by simp [encS]
        rw [this, i1, j1]
theorem may_inc {r : List Nat} (h : mayR r) : Inc r ∧ ∀ x ∈ r, 0 < x := by
  have hs : ∀ n, n < r.length → ∀ m, m < n → r.getD m 0 < r.getD n 0 := by
    intro n
    induction n with
    | zero => intro _ m hm; omega
    | succ n ih =>
      intro hn m hm
      have h1 := h.1 (n + 1) hn
      unfold lowV at h1
      rw [if_neg (by omega), Nat.add_sub_cancel] at h1
      by_cases e : m = n
      · subst e; exact h1
      · exact Nat.lt_trans (ih (by omega) m (by omega)) h1
  refine ⟨?_, fun x hx => ?_⟩
  · unfold Inc
    rw [List.pairwise_iff_getElem]
    intro i j hi hj hij
    have := hs j hj i hij
    simpa [List.getD_eq_getElem?_getD, hi, hj] using this
  · obtain ⟨i, hi, rfl⟩ := List.mem_iff_getElem.1 hx
    have h1 := h.1 i hi
    have e : r.getD i 0 = r[i] := by simp [List.getD_eq_getElem?_getD, hi]
    rw [e] at h1
    omega
theorem dec_law {d : Int} {s : ByteArray} (h : decE d (bys s) = 0) : Gd (decR d (bys s)) ∧ txt (encS (decR d (bys s))) = s := by
  have hd : 1 ≤ d ∧ d ≤ 6 := by
    rcases Decidable.em (1 ≤ d ∧ d ≤ 6) with e | e
    · exact e
    · rw [decE_out e] at h; cases h
  obtain ⟨D, rfl⟩ : ∃ D : Nat, d = (D : Int) := ⟨d.toNat, by omega⟩
  have hD : 1 ≤ D ∧ D ≤ 6 := by omega
  have hlt : ∀ i, (bys s).getD i 0 < 256 := bys_getD_lt s
  cases e : rds (bys s) D with
  | none => rw [decE_none hD e] at h; cases h
  | some p =>
    obtain ⟨rs, a⟩ := p
    rw [decE_some hD e] at h
    split at h
    · rename_i hc
      rw [decR_some e]
      have hl := rds_len e
      have hm := rds_mem hlt e
      refine ⟨⟨by omega, by omega, fun r hr => ?_⟩, ?_⟩
      · obtain ⟨i1, i2⟩ := may_inc (hc.2 r hr)
        exact ⟨i1, (hc.2 r hr).2, fun x hx => ⟨i2 x hx, hm r hr x hx⟩⟩
      · rw [(rds_take hlt e).1, hc.1, List.take_of_length_le (Nat.le_refl _), txt_bys]
    · cases h
end
section
variable (w : World)
set_option maxRecDepth 8000 in
set_option maxHeartbeats 6400000 in
theorem law_decodes (d : Int) (hzd : (Lit.int .i64 d).wf = true) (s : ByteArray) (hs : s.size ≤ maxLen) :
    Calls Try.prog 3 #[.int .i64 d, .string s] w fun e w' => e = .returned (.bool true) ∧ Fr No w w' := by
  have hmx : maxLen ≤ 9223372036854775807 := by decide
  clear hzd
  by_cases hs2 : s.size ≤ 2000
  · have HDs := Lib.hid (fun W => sdecode_any (w := W) d s (by omega))
    have HDk := Lib.hid (fun W => rdecode_any (w := W) d s (by omega))
    by_cases he : decE d (bys s) = 0
    · obtain ⟨hg, ht⟩ := dec_law he
      have Hg := Lib.hid hg
      have Ht := Lib.hid ht
      have He := Lib.hid he
      clear hg ht he
      go_enter Try.func3, Try.ntmps3
      go_upto_region 5 with first
        | (go_at_call 10; ((with_reducible refine (HDs.out _).mono ?_); rintro en w1 ⟨p1, rfl, hf1, h1⟩; (rw [He.out])))
        | (go_at_call 11; ((with_reducible refine (HDk.out _).mono ?_); rintro en w2 ⟨p2, rfl, hf2, h2⟩; (rw [He.out])))
        | fail
      rcases h1 with ⟨q, _⟩ | ⟨_, gs, P1, T1, c1, qs1, rfl, hsc1, _⟩
      · exact absurd He.out q
      rcases h2 with ⟨q, _⟩ | ⟨_, gk, P2, T2, c2, qs2, rfl, hsc2, _⟩
      · exact absurd He.out q
      have HE := Lib.hid (fun W (f : Fr No w2 W) => sencode_any (((hsc1.no hf2).no f).sr) Hg.out)
      rw [Ht.out] at HE
      have HSs := Lib.hid (fun W (f : Fr No w2 W) => sizes_any (((hsc1.no hf2).no f).sr) Hg.out)
      have HSk := Lib.hid (fun W (f : Fr No w2 W) => rsizes_any ((hsc2.no f).sr) Hg.out)
      generalize sizesL (decR d (bys s)) = zs at *
      clear hsc1 hsc2 HDs HDk
      go_wp2_with first
        | (go_at_call 12; ((with_reducible refine (HE.out _ (Fr.refl _ _)).mono ?_); rintro en w3 ⟨rfl, hf3⟩))
        | (go_at_call 14; ((with_reducible refine (HSs.out _ ?_).mono ?_); (focus ((repeat (first | with_reducible exact Fr.refl _ _ | with_reducible refine Fr.setCell ?_ (.inr (by first | (simp; done) | (simp; omega))) _ | with_reducible refine Fr.alloc ?_ _ | with_reducible refine Fr.drew ?_ | with_reducible refine Fr.drewN ?_ _ | with_reducible refine Fr.tr ?_ (by assumption))); done)); rintro en w4 ⟨A4, n4, c4, rfl, hi4, hf4, _⟩))
        | (go_at_call 15; ((with_reducible refine (HSk.out _ ?_).mono ?_); (focus ((repeat (first | with_reducible exact Fr.refl _ _ | with_reducible refine Fr.setCell ?_ (.inr (by first | (simp; done) | (simp; omega))) _ | with_reducible refine Fr.alloc ?_ _ | with_reducible refine Fr.drew ?_ | with_reducible refine Fr.drewN ?_ _ | with_reducible refine Fr.tr ?_ (by assumption))); done)); rintro en w5 ⟨A5, n5, c5, rfl, hi5, hf5⟩))
        | (go_at_call 13; ((with_reducible refine (pQ (xs := zs) ?_ ?_).mono ?_); (focus ((repeat (first | with_reducible assumption | ((with_reducible refine Iv.lit_new _ _ _ _ _ _ ?_ ?_ ?_ ?_) <;> (first | (simp; done) | rfl | decide)) | with_reducible exact Iv.none_ _ | with_reducible refine Iv.alloc ?_ _ | with_reducible refine Iv.drew ?_ | with_reducible refine Iv.drewN ?_ _ | with_reducible refine Iv.no ?_ (by assumption))); done)); (focus ((repeat (first | with_reducible assumption | ((with_reducible refine Iv.lit_new _ _ _ _ _ _ ?_ ?_ ?_ ?_) <;> (first | (simp; done) | rfl | decide)) | with_reducible exact Iv.none_ _ | with_reducible refine Iv.alloc ?_ _ | with_reducible refine Iv.drew ?_ | with_reducible refine Iv.drewN ?_ _ | with_reducible refine Iv.no ?_ (by assumption))); done)); rintro en w6 ⟨rfl, hf6⟩))
        | (go_at_call 9; ((with_reducible refine (live _).mono ?_); rintro e wl ⟨rfl, hfl⟩))
        | fail
      go_ret
      exact ⟨rfl, by (repeat (first | with_reducible exact Fr.refl _ _ | with_reducible refine Fr.setCell ?_ (.inr (by first | (simp; done) | (simp; omega))) _ | with_reducible refine Fr.alloc ?_ _ | with_reducible refine Fr.drew ?_ | with_reducible refine Fr.drewN ?_ _ | with_reducible refine Fr.tr ?_ (by assumption)))⟩
    · have He := Lib.hid he
      go_enter Try.func3, Try.ntmps3
      go_upto_region 5 with first
        | (go_at_call 10; ((with_reducible refine (HDs.out _).mono ?_); rintro en w1 ⟨p1, rfl, hf1, h1⟩))
        | (go_at_call 11; ((with_reducible refine (HDk.out _).mono ?_); rintro en w2 ⟨p2, rfl, hf2, h2⟩))
        | fail
      rcases h1 with ⟨_, rfl⟩ | ⟨q, _⟩
      case inr => exact absurd q He.out
      rcases h2 with ⟨_, rfl⟩ | ⟨q, _⟩
      case inr => exact absurd q He.out
      generalize ((decE d (bys s) : Nat) : Int) = ze at *
      go_wp2_with first
        | (go_at_call 9; ((with_reducible refine (live _).mono ?_); rintro e wl ⟨rfl, hfl⟩))
        | fail
      go_ret
      exact ⟨rfl, by (repeat (first | with_reducible exact Fr.refl _ _ | with_reducible refine Fr.setCell ?_ (.inr (by first | (simp; done) | (simp; omega))) _ | with_reducible refine Fr.alloc ?_ _ | with_reducible refine Fr.drew ?_ | with_reducible refine Fr.drewN ?_ _ | with_reducible refine Fr.tr ?_ (by assumption)))⟩
  · go_enter Try.func3, Try.ntmps3
    go_wp2_with (go_at_call 9; ((with_reducible refine (live _).mono ?_); rintro e wl ⟨rfl, hfl⟩))
    go_ret
    exact ⟨rfl, by (repeat (first | with_reducible exact Fr.refl _ _ | with_reducible refine Fr.setCell ?_ (.inr (by first | (simp; done) | (simp; omega))) _ | with_reducible refine Fr.alloc ?_ _ | with_reducible refine Fr.drew ?_ | with_reducible refine Fr.drewN ?_ _ | with_reducible refine Fr.tr ?_ (by assumption)))⟩
end
end Go.Proofs.Ytifpigcgkpmheaa.Ti12
