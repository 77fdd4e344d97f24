/- Layer 16: the box of any address. -/
import Derived.Test.YtplpgneckfmjpaaGf
namespace Go.Proofs.Ytplpgneckfmjpaa.Lz18
open Go.RowKit Go.Proofs.Ytplpgneckfmjpaa.Pk08 Go.Proofs.Ytplpgneckfmjpaa.Base Go.Proofs.Ytplpgneckfmjpaa.App Go.Proofs.Ytplpgneckfmjpaa.Ky Go.Proofs.Ytplpgneckfmjpaa.Iv Go.Proofs.Ytplpgneckfmjpaa.Bx Go.Proofs.Ytplpgneckfmjpaa.Kk Go.Proofs.Ytplpgneckfmjpaa.Bo Go.Proofs.Ytplpgneckfmjpaa.As Go.Proofs.Ytplpgneckfmjpaa.Cl Go.Proofs.Ytplpgneckfmjpaa.Pl08 Go.Proofs.Ytplpgneckfmjpaa.Kc08 Go.Proofs.Ytplpgneckfmjpaa.Ke08 Go.Proofs.Ytplpgneckfmjpaa.Kh08 Go.Proofs.Ytplpgneckfmjpaa.Kj08 Go.Proofs.Ytplpgneckfmjpaa.Km08 Go.Proofs.Ytplpgneckfmjpaa.Ka08 Go.Proofs.Ytplpgneckfmjpaa.Px16 Go.Proofs.Ytplpgneckfmjpaa.Py16 Go.Proofs.Ytplpgneckfmjpaa.Hd16 Go.Proofs.Ytplpgneckfmjpaa.He16 Go.Proofs.Ytplpgneckfmjpaa.Hf16 Go.Proofs.Ytplpgneckfmjpaa.Hg16 Go.Proofs.Ytplpgneckfmjpaa.Hh16 Go.Proofs.Ytplpgneckfmjpaa.Hi16 Go.Proofs.Ytplpgneckfmjpaa.Hj16 Go.Proofs.Ytplpgneckfmjpaa.Hk16
set_option linter.unusedVariables false
set_option linter.unusedSimpArgs false
def bxOk (d n a : Int) : Bool := decide (1 ≤ d ∧ d ≤ 6) && adB n a
def bxL (d n a : Int) : List Nat := if bxOk d n a = true then (bx d.toNat n.toNat a.toNat).1 else []
def bxH (d n a : Int) : List Nat := if bxOk d n a = true then (bx d.toNat n.toNat a.toNat).2 else []
def bxE (d n a : Int) : Int := if bxOk d n a = true then 0 else 1
theorem bx_out {d n a : Int} (h : bxOk d n a = false) : bxL d n a = [] ∧ bxH d n a = [] ∧ bxE d n a = 1 ∧ (d < 1 ∨ (1 ≤ d ∧ 6 < d) ∨ (1 ≤ d ∧ d ≤ 6 ∧ adB n a = false)) := by
  refine ⟨by unfold bxL; rw [h]; rfl, by unfold bxH; rw [h]; rfl, by unfold bxE; rw [h]; rfl, ?_⟩
  unfold bxOk at h
  by_cases h1 : d < 1
  · exact .inl h1
  · by_cases h2 : 6 < d
    · exact .inr (.inl ⟨by omega, h2⟩)
    · rw [decide_eq_true (⟨by omega, by omega⟩ : 1 ≤ d ∧ d ≤ 6)] at h
      exact .inr (.inr ⟨by omega, by omega, by simpa using h⟩)
theorem bx_in {d n a : Int} (h : bxOk d n a = true) : ∃ (e u b : Nat), d = (e : Int) ∧ n = (u : Int) ∧ a = (b : Int) ∧ 1 ≤ e ∧ e ≤ 6 ∧ u ≤ 12 ∧ b < 2 ^ u ∧ bxL d n a = (bx e u b).1 ∧ bxH d n a = (bx e u b).2 ∧ bxE d n a = 0 := by
  have h' := h
  unfold bxOk at h'
  rw [Bool.and_eq_true, decide_eq_true_eq] at h'
  obtain ⟨⟨h1, h2⟩, h3⟩ := h'
  obtain ⟨h4, h5, h6, h7⟩ := of_decide_eq_true h3
  obtain ⟨e, rfl⟩ := Int.eq_ofNat_of_zero_le (show 0 ≤ d by omega)
  obtain ⟨u, rfl⟩ := Int.eq_ofNat_of_zero_le h4
  obtain ⟨b, rfl⟩ := Int.eq_ofNat_of_zero_le h6
  refine ⟨e, u, b, rfl, rfl, rfl, by omega, by omega, by omega, ?_, by unfold bxL; rw [if_pos h, Int.toNat_natCast, Int.toNat_natCast, Int.toNat_natCast], by unfold bxH; rw [if_pos h, Int.toNat_natCast, Int.toNat_natCast, Int.toNat_natCast], by unfold bxE; rw [if_pos h]⟩
  rw [Int.toNat_natCast] at h7
  have : ((2 ^ u : Nat) : Int) = (2 : Int) ^ u := by simp
  omega
section
variable {w : World}
theorem box_bad (d n a : Int) (h : bxOk d n a = false) :
    Calls Try.prog 31 #[.int .i64 d, .int .i64 n, .int .i64 a] w (BoxRet w [] [] (.int .i64 1)) := by
  obtain ⟨_, _, _, hc⟩ := bx_out h
  clear h
  obtain ⟨q0, q1, q2, q3⟩ := Ob.four (Ob.new w #[.slice none 0 0, .slice none 0 0] 32)
  rcases hc with h1 | ⟨h1, h2⟩ | ⟨h1, h2, h3⟩
  · go_enter Try.func31, Try.ntmps31
    go_wp2
    refine bodyPost_ret (v := .tuple #[.agg #[.slice none 0 0, .slice none 0 0], .int .i64 1]) (by simp [results, Try.results31, go_sem]) rfl ?_
    exact ⟨_, 0, 0, _, 0, 0, rfl, Kv.none_ _, Kv.none_ _, by (repeat (first | with_reducible exact Fr.refl _ _ | with_reducible refine Fr.setCell ?_ (.inr (by first | (simp; done) | (simp; omega))) _ | with_reducible refine Fr.alloc ?_ _ | with_reducible refine Fr.drew ?_ | with_reducible refine Fr.drewN ?_ _ | with_reducible refine Fr.tr ?_ (by assumption)))⟩
  · go_enter Try.func31, Try.ntmps31
    go_wp2
    refine bodyPost_ret (v := .tuple #[.agg #[.slice none 0 0, .slice none 0 0], .int .i64 1]) (by simp [results, Try.results31, go_sem]) rfl ?_
    exact ⟨_, 0, 0, _, 0, 0, rfl, Kv.none_ _, Kv.none_ _, by (repeat (first | with_reducible exact Fr.refl _ _ | with_reducible refine Fr.setCell ?_ (.inr (by first | (simp; done) | (simp; omega))) _ | with_reducible refine Fr.alloc ?_ _ | with_reducible refine Fr.drew ?_ | with_reducible refine Fr.drewN ?_ _ | with_reducible refine Fr.tr ?_ (by assumption)))⟩
  · have H3 := Lib.hid h3
    clear h3
    go_enter Try.func31, Try.ntmps31
    go_wp2_with (go_at_call 41; ((with_reducible refine (isAddress_any _ _ _).mono ?_); rintro e w1 ⟨rfl, rfl⟩; rw [H3.out]))
    refine bodyPost_ret (v := .tuple #[.agg #[.slice none 0 0, .slice none 0 0], .int .i64 1]) (by simp [results, Try.results31, go_sem]) rfl ?_
    exact ⟨_, 0, 0, _, 0, 0, rfl, Kv.none_ _, Kv.none_ _, by (repeat (first | with_reducible exact Fr.refl _ _ | with_reducible refine Fr.setCell ?_ (.inr (by first | (simp; done) | (simp; omega))) _ | with_reducible refine Fr.alloc ?_ _ | with_reducible refine Fr.drew ?_ | with_reducible refine Fr.drewN ?_ _ | with_reducible refine Fr.tr ?_ (by assumption)))⟩
theorem rbox_bad (d n a : Int) (h : bxOk d n a = false) :
    Calls Try.prog 32 #[.int .i64 d, .int .i64 n, .int .i64 a] w (BoxRet w [] [] (.int .i64 1)) := by
  obtain ⟨_, _, _, hc⟩ := bx_out h
  clear h
  obtain ⟨q0, q1, q2, q3⟩ := Ob.four (Ob.new w #[.slice none 0 0, .slice none 0 0] 32)
  rcases hc with h1 | ⟨h1, h2⟩ | ⟨h1, h2, h3⟩
  · go_enter Try.func32, Try.ntmps32
    go_wp2
    refine bodyPost_ret (v := .tuple #[.agg #[.slice none 0 0, .slice none 0 0], .int .i64 1]) (by simp [results, Try.results32, go_sem]) rfl ?_
    exact ⟨_, 0, 0, _, 0, 0, rfl, Kv.none_ _, Kv.none_ _, by (repeat (first | with_reducible exact Fr.refl _ _ | with_reducible refine Fr.setCell ?_ (.inr (by first | (simp; done) | (simp; omega))) _ | with_reducible refine Fr.alloc ?_ _ | with_reducible refine Fr.drew ?_ | with_reducible refine Fr.drewN ?_ _ | with_reducible refine Fr.tr ?_ (by assumption)))⟩
  · go_enter Try.func32, Try.ntmps32
    go_wp2
    refine bodyPost_ret (v := .tuple #[.agg #[.slice none 0 0, .slice none 0 0], .int .i64 1]) (by simp [results, Try.results32, go_sem]) rfl ?_
    exact ⟨_, 0, 0, _, 0, 0, rfl, Kv.none_ _, Kv.none_ _, by (repeat (first | with_reducible exact Fr.refl _ _ | with_reducible refine Fr.setCell ?_ (.inr (by first | (simp; done) | (simp; omega))) _ | with_reducible refine Fr.alloc ?_ _ | with_reducible refine Fr.drew ?_ | with_reducible refine Fr.drewN ?_ _ | with_reducible refine Fr.tr ?_ (by assumption)))⟩
  · have H3 := Lib.hid h3
    clear h3
    go_enter Try.func32, Try.ntmps32
    go_wp2_with (go_at_call 44; ((with_reducible refine (is_any _ _ _).mono ?_); rintro e w1 ⟨rfl, rfl⟩; rw [H3.out]))
    refine bodyPost_ret (v := .tuple #[.agg #[.slice none 0 0, .slice none 0 0], .int .i64 1]) (by simp [results, Try.results32, go_sem]) rfl ?_
    exact ⟨_, 0, 0, _, 0, 0, rfl, Kv.none_ _, Kv.none_ _, by (repeat (first | with_reducible exact Fr.refl _ _ | with_reducible refine Fr.setCell ?_ (.inr (by first | (simp; done) | (simp; omega))) _ | with_reducible refine Fr.alloc ?_ _ | with_reducible refine Fr.drew ?_ | with_reducible refine Fr.drewN ?_ _ | with_reducible refine Fr.tr ?_ (by assumption)))⟩
theorem box_any (d n a : Int) :
    Calls Try.prog 31 #[.int .i64 d, .int .i64 n, .int .i64 a] w (BoxRet w (bxL d n a) (bxH d n a) (.int .i64 (bxE d n a))) := by
  cases h : bxOk d n a with
  | true =>
    obtain ⟨e, u, b, rfl, rfl, rfl, h1, h2, h3, h4, h5, h6, h7⟩ := bx_in h
    rw [h5, h6, h7]
    exact box_ok e u b h1 h2 h3 h4
  | false =>
    obtain ⟨h1, h2, h3, _⟩ := bx_out h
    rw [h1, h2, h3]
    exact box_bad d n a h
theorem rbox_any (d n a : Int) :
    Calls Try.prog 32 #[.int .i64 d, .int .i64 n, .int .i64 a] w (BoxRet w (bxL d n a) (bxH d n a) (.int .i64 (bxE d n a))) := by
  cases h : bxOk d n a with
  | true =>
    obtain ⟨e, u, b, rfl, rfl, rfl, h1, h2, h3, h4, h5, h6, h7⟩ := bx_in h
    rw [h5, h6, h7]
    exact rbox_ok e u b h1 h2 h3 h4
  | false =>
    obtain ⟨h1, h2, h3, _⟩ := bx_out h
    rw [h1, h2, h3]
    exact rbox_bad d n a h
end
end Go.Proofs.Ytplpgneckfmjpaa.Lz18
