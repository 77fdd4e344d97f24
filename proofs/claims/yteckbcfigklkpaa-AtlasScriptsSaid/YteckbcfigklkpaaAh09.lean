/- Layer 9: some answers that the document gives. -/
import Derived.Test.YteckbcfigklkpaaAg09
namespace Go.Proofs.Yteckbcfigklkpaa.Ah09
open Go.RowKit Go.Proofs.Yteckbcfigklkpaa.Pk08 Go.Proofs.Yteckbcfigklkpaa.Base Go.Proofs.Yteckbcfigklkpaa.App Go.Proofs.Yteckbcfigklkpaa.Str Go.Proofs.Yteckbcfigklkpaa.Ky Go.Proofs.Yteckbcfigklkpaa.Bx Go.Proofs.Yteckbcfigklkpaa.Bo Go.Proofs.Yteckbcfigklkpaa.As Go.Proofs.Yteckbcfigklkpaa.Pl08 Go.Proofs.Yteckbcfigklkpaa.Kc08 Go.Proofs.Yteckbcfigklkpaa.Ke08 Go.Proofs.Yteckbcfigklkpaa.Cl Go.Proofs.Yteckbcfigklkpaa.Rv Go.Proofs.Yteckbcfigklkpaa.Ra Go.Proofs.Yteckbcfigklkpaa.Rp Go.Proofs.Yteckbcfigklkpaa.Ro Go.Proofs.Yteckbcfigklkpaa.Rk Go.Proofs.Yteckbcfigklkpaa.Rb Go.Proofs.Yteckbcfigklkpaa.Rf Go.Proofs.Yteckbcfigklkpaa.Rs Go.Proofs.Yteckbcfigklkpaa.Ia Go.Proofs.Yteckbcfigklkpaa.Ib Go.Proofs.Yteckbcfigklkpaa.Aa09 Go.Proofs.Yteckbcfigklkpaa.Ab09 Go.Proofs.Yteckbcfigklkpaa.Ac09 Go.Proofs.Yteckbcfigklkpaa.Ad09 Go.Proofs.Yteckbcfigklkpaa.Ae09 Go.Proofs.Yteckbcfigklkpaa.Af09 Go.Proofs.Yteckbcfigklkpaa.Ag09
set_option linter.unusedVariables false
set_option linter.unusedSimpArgs false
abbrev rX : Rv.Rec := ([3, 1], ⟨#[120]⟩)
abbrev rY : Rv.Rec := ([1, 5], ⟨#[121]⟩)
abbrev rZ : Rv.Rec := ([3, 1], ⟨#[122]⟩)
theorem q1 : putL [] rX 2 = [rX] ∧ recC 2 ⟨#[120]⟩ 2 = 0 := by decide +kernel
theorem q2 : putL [rX] rY 2 = [rY, rX] ∧ recC 2 ⟨#[121]⟩ 2 = 0 := by decide +kernel
theorem q3 : putL [rY, rX] rZ 2 = [rY, rZ] ∧ recC 2 ⟨#[122]⟩ 2 = 0 := by decide +kernel
theorem q4 : putL [rY, rZ] ([3], ⟨#[122]⟩) 2 = [rY, rZ] ∧ recC 1 ⟨#[122]⟩ 2 = 1 := by decide +kernel
theorem q5 : getS [rY, rZ] 2 [3, 1] = ⟨#[122]⟩ ∧ hasE [rY, rZ] 2 [3, 1] = 0 := by decide +kernel
theorem q6 : winL [rY, rZ] [0, 0] [2, 9] 2 = [rY] ∧ chkB [0, 0] [2, 9] 2 = 0 := by decide +kernel
theorem q7 : (winL [rY, rZ] [0, 0] [9, 9] 2).length = 2 ∧ chkB [0, 0] [9, 9] 2 = 0 := by decide +kernel
theorem q8 : hasE [rY, rZ] 2 [1, 5] = 0 ∧ cut [rY, rZ] [1, 5] = [rZ] := by decide +kernel
theorem q9 : hasE [rZ] 2 [1, 5] = 5 := by decide +kernel
theorem q10 : recC 1 ⟨#[]⟩ 1 = 0 := by decide +kernel
section
variable {w0 w : World} {ga : Nat} {A B L H K : Option Addr} {n c m e kc : Nat} {s : ByteArray}
theorem rec_any : Calls Try.prog 34 #[.string s, .slice K n c] w fun en w' => en = .returned (.agg #[.slice K n c, .string s]) ∧ Fr No w w' := by
  go_enter Try.func34, Try.ntmps34
  go_wp2
  obtain ⟨z0, z1⟩ := cells2 (Ob.new w #[.slice K n c, .string s] 33)
  refine bodyPost_ret (v := .agg #[.slice K n c, .string s]) (by simp [results, Try.results34, go_sem, z0, z1]) rfl ?_
  exact ⟨rfl, by (repeat (first | with_reducible exact Fr.refl _ _ | with_reducible refine Fr.setCell ?_ (.inr (by first | (simp; done) | (simp; omega))) _ | with_reducible refine Fr.alloc ?_ _ | with_reducible refine Fr.drew ?_ | with_reducible refine Fr.drewN ?_ _ | with_reducible refine Fr.tr ?_ (by assumption)))⟩
theorem pA (h : Sa w0 w ga 2 []) (hk : Kv w B 2 e [3, 1]) : Calls Try.prog 16 #[.pointer (some ⟨ga, 0, none⟩), .agg #[.slice B 2 e, .string ⟨#[120]⟩]] w fun en w' => en = .returned (.int .i64 0) ∧ Sa w0 w' ga 2 [rX] := by
  have h1 := put_s (s := ⟨#[120]⟩) h hk (by decide) (by decide)
  rw [show ([3, 1] : List Nat).length = 2 from rfl, q1.2, q1.1] at h1
  exact h1
theorem pB (h : Sa w0 w ga 2 [rX]) (hk : Kv w B 2 e [1, 5]) : Calls Try.prog 16 #[.pointer (some ⟨ga, 0, none⟩), .agg #[.slice B 2 e, .string ⟨#[121]⟩]] w fun en w' => en = .returned (.int .i64 0) ∧ Sa w0 w' ga 2 [rY, rX] := by
  have h1 := put_s (s := ⟨#[121]⟩) h hk (by decide) (by decide)
  rw [show ([1, 5] : List Nat).length = 2 from rfl, q2.2, q2.1] at h1
  exact h1
theorem pC (h : Sa w0 w ga 2 [rY, rX]) (hk : Kv w B 2 e [3, 1]) : Calls Try.prog 16 #[.pointer (some ⟨ga, 0, none⟩), .agg #[.slice B 2 e, .string ⟨#[122]⟩]] w fun en w' => en = .returned (.int .i64 0) ∧ Sa w0 w' ga 2 [rY, rZ] := by
  have h1 := put_s (s := ⟨#[122]⟩) h hk (by decide) (by decide)
  rw [show ([3, 1] : List Nat).length = 2 from rfl, q3.2, q3.1] at h1
  exact h1
theorem pD (h : Sa w0 w ga 2 [rY, rZ]) (hk : Kv w B 1 e [3]) : Calls Try.prog 16 #[.pointer (some ⟨ga, 0, none⟩), .agg #[.slice B 1 e, .string ⟨#[122]⟩]] w fun en w' => en = .returned (.int .i64 1) ∧ Sa w0 w' ga 2 [rY, rZ] := by
  have h1 := put_s (s := ⟨#[122]⟩) h hk (by decide) (by decide)
  rw [show ([3] : List Nat).length = 1 from rfl, q4.2, q4.1] at h1
  exact h1
theorem pE (h : Sa w0 w ga 2 [rY, rZ]) (hk : Kv w B 2 e [3, 1]) : Calls Try.prog 20 #[.pointer (some ⟨ga, 0, none⟩), .slice B 2 e] w fun en w' => en = .returned (.tuple #[.string ⟨#[122]⟩, .int .i64 0]) ∧ Fr No w w' := by
  have h1 := get_s h hk
  rw [q5.1, q5.2] at h1
  exact h1
theorem pF (h : Sa w0 w ga 2 [rY, rZ]) (hl : Kv w L n c [0, 0]) (hh : Kv w H m e [2, 9]) : Calls Try.prog 22 #[.pointer (some ⟨ga, 0, none⟩), .agg #[.slice L n c, .slice H m e]] w fun en w' => ∃ A1 n1 c1, en = .returned (.tuple #[.slice A1 n1 c1, .int .i64 0]) ∧ Ow w' w.heap.size 33 (fun b => w.heap.size ≤ b) A1 n1 c1 [rY] ∧ Fr No w w' := by
  have h1 := window_s h hl hh
  rw [q6.1, q6.2] at h1
  exact h1
theorem pG (h : Sa w0 w ga 2 [rY, rZ]) (hl : Kv w L n c [0, 0]) (hh : Kv w H m e [9, 9]) : Calls Try.prog 24 #[.pointer (some ⟨ga, 0, none⟩), .agg #[.slice L n c, .slice H m e]] w fun en w' => en = .returned (.tuple #[.int .i64 2, .int .i64 0]) ∧ Fr No w w' := by
  have h1 := count_s h hl hh
  rw [q7.1, q7.2] at h1
  exact h1
/-- An atlas in blocks from Y to X. -/
def Btw (Y X : Nat) (w : World) (ga : Nat) (rs : List Rv.Rec) : Prop := ∃ K A n c, At w K ga 2 A n c rs ∧ (∀ k, obk A n c = some k → Y ≤ k ∧ k < X) ∧ Y ≤ ga ∧ ga < X
theorem Btw.no {Y X : Nat} {w w1 : World} {rs : List Rv.Rec} (h : Btw Y X w ga rs) (f : Fr No w w1) : Btw Y X w1 ga rs := by
  obtain ⟨K, A, n, c, h1, h2⟩ := h
  exact ⟨K, A, n, c, h1.no f, h2⟩
theorem Btw.len_ {Y X : Nat} {w : World} {rs : List Rv.Rec} (h : Btw Y X w ga rs) : Calls Try.prog 27 #[.pointer (some ⟨ga, 0, none⟩)] w fun en w' => en = .returned (.int .i64 (rs.length : Nat)) ∧ w = w' := by
  obtain ⟨K, A, n, c, h1, h2⟩ := h
  have := h1.len
  subst this
  exact len_any h1
theorem Sa.btw {w0 w : World} {rs : List Rv.Rec} (h : Sa w0 w ga 2 rs) : Btw w0.heap.size w.heap.size w ga rs := by
  obtain ⟨K, A, n, c, h1, h2⟩ := h.ex
  exact ⟨K, A, n, c, h1, fun k hk => ⟨h2 k hk, (h1.ow.blk k hk).2⟩, h.hg, h1.ob.lt⟩
theorem pH {Y X : Nat} (hX : Btw Y X w ga [rY, rZ]) (hk : Kv w B 2 e [1, 5]) : Calls Try.prog 18 #[.pointer (some ⟨ga, 0, none⟩), .slice B 2 e] w fun en w' => en = .returned (.int .i64 0) ∧ Btw Y X w' ga [rZ] ∧ Fr (fun b => Y ≤ b ∧ b < X) w w' := by
  obtain ⟨K, A, n, c, h1, h2, h3⟩ := hX
  refine (adelete_any h1 hk).mono ?_
  rintro en w' ⟨n', rfl, q, hf⟩
  rw [if_pos q8.1, q8.2] at q
  exact ⟨by rw [q8.1]; rfl, ⟨K, A, n', c, q, fun k hk => h2 k (by rw [obk_any A n c n' c]; exact hk), h3⟩, hf.mono (fun b e => by rcases e with rfl | e; exact h3; exact h2 b e)⟩
theorem pI {Y X : Nat} (hX : Btw Y X w ga [rZ]) (hk : Kv w B 2 e [1, 5]) : Calls Try.prog 18 #[.pointer (some ⟨ga, 0, none⟩), .slice B 2 e] w fun en w' => en = .returned (.int .i64 5) ∧ Btw Y X w' ga [rZ] ∧ Fr (fun b => Y ≤ b ∧ b < X) w w' := by
  obtain ⟨K, A, n, c, h1, h2, h3⟩ := hX
  refine (adelete_any h1 hk).mono ?_
  rintro en w' ⟨n', rfl, q, hf⟩
  rw [if_neg (by rw [q9]; decide)] at q
  exact ⟨by rw [q9]; rfl, ⟨K, A, n', c, q, fun k hk => h2 k (by rw [obk_any A n c n' c]; exact hk), h3⟩, hf.mono (fun b e => by rcases e with rfl | e; exact h3; exact h2 b e)⟩
theorem Ow.lower {W wc w' : World} {rs : List Rv.Rec} (h : Ow w' wc.heap.size 33 (fun b => wc.heap.size ≤ b) A n c rs) (f : Fr No W wc) : Ow w' W.heap.size 33 (fun b => W.heap.size ≤ b) A n c rs :=
  (h.base_ f.size).mono (fun b hb => Nat.le_trans f.size hb)
theorem Ow.past {Y X : Nat} {w1 w2 w3 : World} {rs : List Rv.Rec} (h : Ow w1 X 33 (fun b => X ≤ b) A n c rs) (f : Fr No w1 w2) (g : Fr (fun b => Y ≤ b ∧ b < X) w2 w3) : Ow w3 X 33 (fun b => X ≤ b) A n c rs :=
  (h.no f).fr g (fun k hk e => by have := (h.blk k hk).1; omega) (fun b hb e => by omega)
theorem Fre.lower {W wc w' : World} {rs : List Rv.Rec} (h : Fre wc w' ga 2 rs) (f : Fr No W wc) : Fre W w' ga 2 rs := by
  obtain ⟨K, A, n, c, h1, h2, h3, h4⟩ := h.ex
  have := f.size
  exact ⟨K, A, n, c, h1, by omega, fun k hk => by have := h3 k hk; omega, fun b hb => by have := h4 b hb; omega⟩
theorem Fre.past {Y : Nat} {W w1 w2 w3 : World} {rs : List Rv.Rec} (h : Fre W w1 ga 2 rs) (f : Fr No w1 w2) (g : Fr (fun b => Y ≤ b ∧ b < W.heap.size) w2 w3) : Fre W w3 ga 2 rs := (h.no f).fr g (fun b e => e.2)
theorem lS {l : List Rv.Rec} {cn cm : Nat} (ha : Rv w A n cn l) (hb : Rv w B m cm l) : Calls Try.prog 25 #[.slice A n cn, .slice B m cm] w fun e w' => e = .returned (.bool true) ∧ Fr No w w' := by
  have h := same_any ha hb
  rw [decide_eq_true rfl] at h
  exact h
end
theorem rv_two {w : World} {g n m ca cb : Nat} {A B : Option Addr} {a b : List Nat} {s u : ByteArray} {t : TypeId} (h : Ob w g #[.slice A n ca, .string s, .slice B m cb, .string u] t) (ka : Kv w A n ca a) (kb : Kv w B m cb b) (hs : s.size ≤ maxLen) (hu : u.size ≤ maxLen) : Rv w (some ⟨g, 0, none⟩) 2 2 [(a, s), (b, u)] := by
  obtain rfl : n = a.length := ka.len
  obtain rfl : m = b.length := kb.len
  refine ⟨rfl, by decide, by decide, fun _ => ⟨g, 0, rfl, fun i hi => ?_⟩⟩
  have hi2 : i < 2 := hi
  rcases (show i = 0 ∨ i = 1 by omega) with rfl | rfl
  · exact ⟨_, _, h.cell 0 rfl, h.cell 1 rfl, ka, hs⟩
  · exact ⟨_, _, h.cell 2 rfl, h.cell 3 rfl, kb, hu⟩
set_option maxRecDepth 8000 in
set_option maxHeartbeats 6400000 in
theorem live (w : World) : Calls Try.prog 11 #[] w fun e w' => e = .returned (.bool true) ∧ Fr No w w' := by
  go_enter Try.func11, Try.ntmps11
  go_wp2_with (go_at_call 8; ((with_reducible refine (new_s (w0 := w) (d := 2) (by decide) (Fr.refl _ _)).mono ?_); rintro en w1 ⟨ga, rfl, hs1, hga, hf1⟩))
  go_wp2_with (go_at_call 8; ((with_reducible refine (new_no (d := 7) (by decide)).mono ?_); rintro en w2 ⟨rfl, rfl⟩))
  go_wp2_with (go_at_call 34; ((with_reducible refine rec_any.mono ?_); rintro en w3 ⟨rfl, hf3⟩))
  go_wp2_with (go_at_call 16; ((with_reducible refine (pA (w0 := w) ?_ ?_).mono ?_); (focus (refine hs1.no ?_; (repeat (first | with_reducible exact Fr.refl _ _ | with_reducible refine Fr.setCell ?_ (.inr (by first | (simp; done) | (simp; omega))) _ | with_reducible refine Fr.alloc ?_ _ | with_reducible refine Fr.drew ?_ | with_reducible refine Fr.drewN ?_ _ | with_reducible refine Fr.tr ?_ (by assumption))); done)); (focus (repeat (first | with_reducible assumption | ((with_reducible refine Kv.lit_new _ _ _ _ _ _ ?_ ?_ ?_ ?_) <;> (first | (simp; done) | rfl | decide)) | with_reducible exact Kv.none_ _ | with_reducible refine Kv.alloc ?_ _ | with_reducible refine Kv.drew ?_ | with_reducible refine Kv.drewN ?_ _ | with_reducible refine Kv.no ?_ (by assumption)))); rintro en w4 ⟨rfl, hs4⟩))
  go_wp2_with (go_at_call 34; ((with_reducible refine rec_any.mono ?_); rintro en w5 ⟨rfl, hf5⟩))
  go_wp2_with (go_at_call 16; ((with_reducible refine (pB (w0 := w) ?_ ?_).mono ?_); (focus (refine hs4.no ?_; (repeat (first | with_reducible exact Fr.refl _ _ | with_reducible refine Fr.setCell ?_ (.inr (by first | (simp; done) | (simp; omega))) _ | with_reducible refine Fr.alloc ?_ _ | with_reducible refine Fr.drew ?_ | with_reducible refine Fr.drewN ?_ _ | with_reducible refine Fr.tr ?_ (by assumption))); done)); (focus (repeat (first | with_reducible assumption | ((with_reducible refine Kv.lit_new _ _ _ _ _ _ ?_ ?_ ?_ ?_) <;> (first | (simp; done) | rfl | decide)) | with_reducible exact Kv.none_ _ | with_reducible refine Kv.alloc ?_ _ | with_reducible refine Kv.drew ?_ | with_reducible refine Kv.drewN ?_ _ | with_reducible refine Kv.no ?_ (by assumption)))); rintro en w6 ⟨rfl, hs6⟩))
  go_wp2_with (go_at_call 34; ((with_reducible refine rec_any.mono ?_); rintro en w7 ⟨rfl, hf7⟩))
  go_wp2_with (go_at_call 16; ((with_reducible refine (pC (w0 := w) ?_ ?_).mono ?_); (focus (refine hs6.no ?_; (repeat (first | with_reducible exact Fr.refl _ _ | with_reducible refine Fr.setCell ?_ (.inr (by first | (simp; done) | (simp; omega))) _ | with_reducible refine Fr.alloc ?_ _ | with_reducible refine Fr.drew ?_ | with_reducible refine Fr.drewN ?_ _ | with_reducible refine Fr.tr ?_ (by assumption))); done)); (focus (repeat (first | with_reducible assumption | ((with_reducible refine Kv.lit_new _ _ _ _ _ _ ?_ ?_ ?_ ?_) <;> (first | (simp; done) | rfl | decide)) | with_reducible exact Kv.none_ _ | with_reducible refine Kv.alloc ?_ _ | with_reducible refine Kv.drew ?_ | with_reducible refine Kv.drewN ?_ _ | with_reducible refine Kv.no ?_ (by assumption)))); rintro en w8 ⟨rfl, hs8⟩))
  go_wp2_with (go_at_call 34; ((with_reducible refine rec_any.mono ?_); rintro en w9 ⟨rfl, hf9⟩))
  go_wp2_with (go_at_call 16; ((with_reducible refine (pD (w0 := w) ?_ ?_).mono ?_); (focus (refine hs8.no ?_; (repeat (first | with_reducible exact Fr.refl _ _ | with_reducible refine Fr.setCell ?_ (.inr (by first | (simp; done) | (simp; omega))) _ | with_reducible refine Fr.alloc ?_ _ | with_reducible refine Fr.drew ?_ | with_reducible refine Fr.drewN ?_ _ | with_reducible refine Fr.tr ?_ (by assumption))); done)); (focus (repeat (first | with_reducible assumption | ((with_reducible refine Kv.lit_new _ _ _ _ _ _ ?_ ?_ ?_ ?_) <;> (first | (simp; done) | rfl | decide)) | with_reducible exact Kv.none_ _ | with_reducible refine Kv.alloc ?_ _ | with_reducible refine Kv.drew ?_ | with_reducible refine Kv.drewN ?_ _ | with_reducible refine Kv.no ?_ (by assumption)))); rintro en w10 ⟨rfl, hs10⟩))
  go_wp2_with (go_at_call 20; ((with_reducible refine (pE (w0 := w) ?_ ?_).mono ?_); (focus (refine hs10.no ?_; (repeat (first | with_reducible exact Fr.refl _ _ | with_reducible refine Fr.setCell ?_ (.inr (by first | (simp; done) | (simp; omega))) _ | with_reducible refine Fr.alloc ?_ _ | with_reducible refine Fr.drew ?_ | with_reducible refine Fr.drewN ?_ _ | with_reducible refine Fr.tr ?_ (by assumption))); done)); (focus (repeat (first | with_reducible assumption | ((with_reducible refine Kv.lit_new _ _ _ _ _ _ ?_ ?_ ?_ ?_) <;> (first | (simp; done) | rfl | decide)) | with_reducible exact Kv.none_ _ | with_reducible refine Kv.alloc ?_ _ | with_reducible refine Kv.drew ?_ | with_reducible refine Kv.drewN ?_ _ | with_reducible refine Kv.no ?_ (by assumption)))); rintro en w11 ⟨rfl, hf11⟩))
  go_wp2_with (go_at_call 22; ((with_reducible refine (pF (w0 := w) ?_ ?_ ?_).mono ?_); (focus (refine hs10.no ?_; (repeat (first | with_reducible exact Fr.refl _ _ | with_reducible refine Fr.setCell ?_ (.inr (by first | (simp; done) | (simp; omega))) _ | with_reducible refine Fr.alloc ?_ _ | with_reducible refine Fr.drew ?_ | with_reducible refine Fr.drewN ?_ _ | with_reducible refine Fr.tr ?_ (by assumption))); done)); (focus (repeat (first | with_reducible assumption | ((with_reducible refine Kv.lit_new _ _ _ _ _ _ ?_ ?_ ?_ ?_) <;> (first | (simp; done) | rfl | decide)) | with_reducible exact Kv.none_ _ | with_reducible refine Kv.alloc ?_ _ | with_reducible refine Kv.drew ?_ | with_reducible refine Kv.drewN ?_ _ | with_reducible refine Kv.no ?_ (by assumption)))); (focus (repeat (first | with_reducible assumption | ((with_reducible refine Kv.lit_new _ _ _ _ _ _ ?_ ?_ ?_ ?_) <;> (first | (simp; done) | rfl | decide)) | with_reducible exact Kv.none_ _ | with_reducible refine Kv.alloc ?_ _ | with_reducible refine Kv.drew ?_ | with_reducible refine Kv.drewN ?_ _ | with_reducible refine Kv.no ?_ (by assumption)))); rintro en w12 ⟨A12, n12, c12, rfl, ho12, hf12⟩))
  have hl12 := Ow.lower (W := w10) ho12 (by (repeat (first | with_reducible exact Fr.refl _ _ | with_reducible refine Fr.setCell ?_ (.inr (by first | (simp; done) | (simp; omega))) _ | with_reducible refine Fr.alloc ?_ _ | with_reducible refine Fr.drew ?_ | with_reducible refine Fr.drewN ?_ _ | with_reducible refine Fr.tr ?_ (by assumption))))
  have hf1012 : Fr No w10 w12 := by (repeat (first | with_reducible exact Fr.refl _ _ | with_reducible refine Fr.setCell ?_ (.inr (by first | (simp; done) | (simp; omega))) _ | with_reducible refine Fr.alloc ?_ _ | with_reducible refine Fr.drew ?_ | with_reducible refine Fr.drewN ?_ _ | with_reducible refine Fr.tr ?_ (by assumption)))
  clear ho12
  go_wp2_with (go_at_call 24; ((with_reducible refine (pG (w0 := w) ?_ ?_ ?_).mono ?_); (focus (refine hs10.no ?_; (repeat (first | with_reducible exact Fr.refl _ _ | with_reducible refine Fr.setCell ?_ (.inr (by first | (simp; done) | (simp; omega))) _ | with_reducible refine Fr.alloc ?_ _ | with_reducible refine Fr.drew ?_ | with_reducible refine Fr.drewN ?_ _ | with_reducible refine Fr.tr ?_ (by assumption))); done)); (focus (repeat (first | with_reducible assumption | ((with_reducible refine Kv.lit_new _ _ _ _ _ _ ?_ ?_ ?_ ?_) <;> (first | (simp; done) | rfl | decide)) | with_reducible exact Kv.none_ _ | with_reducible refine Kv.alloc ?_ _ | with_reducible refine Kv.drew ?_ | with_reducible refine Kv.drewN ?_ _ | with_reducible refine Kv.no ?_ (by assumption)))); (focus (repeat (first | with_reducible assumption | ((with_reducible refine Kv.lit_new _ _ _ _ _ _ ?_ ?_ ?_ ?_) <;> (first | (simp; done) | rfl | decide)) | with_reducible exact Kv.none_ _ | with_reducible refine Kv.alloc ?_ _ | with_reducible refine Kv.drew ?_ | with_reducible refine Kv.drewN ?_ _ | with_reducible refine Kv.no ?_ (by assumption)))); rintro en w13 ⟨rfl, hf13⟩))
  go_wp2_with (go_at_call 13; ((with_reducible refine (copy_s (w0 := w) (d := 2) (rs := [rY, rZ]) ?_).mono ?_); (focus (refine hs10.no ?_; (repeat (first | with_reducible exact Fr.refl _ _ | with_reducible refine Fr.setCell ?_ (.inr (by first | (simp; done) | (simp; omega))) _ | with_reducible refine Fr.alloc ?_ _ | with_reducible refine Fr.drew ?_ | with_reducible refine Fr.drewN ?_ _ | with_reducible refine Fr.tr ?_ (by assumption))); done)); rintro en w14 ⟨g2, rfl, hc14, hf14⟩))
  have hcc := Fre.lower (W := w10) hc14 (by (repeat (first | with_reducible exact Fr.refl _ _ | with_reducible refine Fr.setCell ?_ (.inr (by first | (simp; done) | (simp; omega))) _ | with_reducible refine Fr.alloc ?_ _ | with_reducible refine Fr.drew ?_ | with_reducible refine Fr.drewN ?_ _ | with_reducible refine Fr.tr ?_ (by assumption))))
  have hbt := Sa.btw hs10
  go_wp2_with (go_at_call 18; ((with_reducible refine (pH (Y := w.heap.size) (X := w10.heap.size) ?_ ?_).mono ?_); (focus (refine hbt.no ?_; (repeat (first | with_reducible exact Fr.refl _ _ | with_reducible refine Fr.setCell ?_ (.inr (by first | (simp; done) | (simp; omega))) _ | with_reducible refine Fr.alloc ?_ _ | with_reducible refine Fr.drew ?_ | with_reducible refine Fr.drewN ?_ _ | with_reducible refine Fr.tr ?_ (by assumption))); done)); (focus (repeat (first | with_reducible assumption | ((with_reducible refine Kv.lit_new _ _ _ _ _ _ ?_ ?_ ?_ ?_) <;> (first | (simp; done) | rfl | decide)) | with_reducible exact Kv.none_ _ | with_reducible refine Kv.alloc ?_ _ | with_reducible refine Kv.drew ?_ | with_reducible refine Kv.drewN ?_ _ | with_reducible refine Kv.no ?_ (by assumption)))); rintro en w15 ⟨rfl, hb15, hg15⟩))
  have hl15 := Ow.past hl12 (by (repeat (first | with_reducible exact Fr.refl _ _ | with_reducible refine Fr.setCell ?_ (.inr (by first | (simp; done) | (simp; omega))) _ | with_reducible refine Fr.alloc ?_ _ | with_reducible refine Fr.drew ?_ | with_reducible refine Fr.drewN ?_ _ | with_reducible refine Fr.tr ?_ (by assumption)))) hg15
  have hc15 := Fre.past hcc (by (repeat (first | with_reducible exact Fr.refl _ _ | with_reducible refine Fr.setCell ?_ (.inr (by first | (simp; done) | (simp; omega))) _ | with_reducible refine Fr.alloc ?_ _ | with_reducible refine Fr.drew ?_ | with_reducible refine Fr.drewN ?_ _ | with_reducible refine Fr.tr ?_ (by assumption)))) hg15
  have hf0 := hs10.fr
  have hfw := Fr.trans (show Fr No w _ by (repeat (first | with_reducible exact Fr.refl _ _ | with_reducible refine Fr.setCell ?_ (.inr (by first | (simp; done) | (simp; omega))) _ | with_reducible refine Fr.alloc ?_ _ | with_reducible refine Fr.drew ?_ | with_reducible refine Fr.drewN ?_ _ | with_reducible refine Fr.tr ?_ (by assumption)))) hg15 (fun k e => .inr e.1)
  go_wp2_with (go_at_call 18; ((with_reducible refine (pI (Y := w.heap.size) (X := w10.heap.size) ?_ ?_).mono ?_); (focus (refine hb15.no ?_; (repeat (first | with_reducible exact Fr.refl _ _ | with_reducible refine Fr.setCell ?_ (.inr (by first | (simp; done) | (simp; omega))) _ | with_reducible refine Fr.alloc ?_ _ | with_reducible refine Fr.drew ?_ | with_reducible refine Fr.drewN ?_ _ | with_reducible refine Fr.tr ?_ (by assumption))); done)); (focus (repeat (first | with_reducible assumption | ((with_reducible refine Kv.lit_new _ _ _ _ _ _ ?_ ?_ ?_ ?_) <;> (first | (simp; done) | rfl | decide)) | with_reducible exact Kv.none_ _ | with_reducible refine Kv.alloc ?_ _ | with_reducible refine Kv.drew ?_ | with_reducible refine Kv.drewN ?_ _ | with_reducible refine Kv.no ?_ (by assumption)))); rintro en w16 ⟨rfl, hb16, hg16⟩; (have hl16 := Ow.past hl15 (show Fr No w15 _ by (repeat (first | with_reducible exact Fr.refl _ _ | with_reducible refine Fr.setCell ?_ (.inr (by first | (simp; done) | (simp; omega))) _ | with_reducible refine Fr.alloc ?_ _ | with_reducible refine Fr.drew ?_ | with_reducible refine Fr.drewN ?_ _ | with_reducible refine Fr.tr ?_ (by assumption)))) hg16); (have hc16 := Fre.past hc15 (show Fr No w15 _ by (repeat (first | with_reducible exact Fr.refl _ _ | with_reducible refine Fr.setCell ?_ (.inr (by first | (simp; done) | (simp; omega))) _ | with_reducible refine Fr.alloc ?_ _ | with_reducible refine Fr.drew ?_ | with_reducible refine Fr.drewN ?_ _ | with_reducible refine Fr.tr ?_ (by assumption)))) hg16); (have hfw16 := Fr.trans (show Fr No w _ by (repeat (first | with_reducible exact Fr.refl _ _ | with_reducible refine Fr.setCell ?_ (.inr (by first | (simp; done) | (simp; omega))) _ | with_reducible refine Fr.alloc ?_ _ | with_reducible refine Fr.drew ?_ | with_reducible refine Fr.drewN ?_ _ | with_reducible refine Fr.tr ?_ (by assumption)))) hg16 (fun k e => .inr e.1))))
  clear hs1 hs4 hs6 hs8 hf1 hf3 hf5 hf7 hf9 hf11 hf12 hf13 hf14 hf1012 hg15 hg16 hb15 hl15 hc15 hfw hf0 hcc hc14 hl12 hbt hs10
  go_wp2_with (go_at_call 34; ((with_reducible refine rec_any.mono ?_); rintro en w17 ⟨rfl, hf17⟩))
  go_wp2_with (go_at_call 25; ((with_reducible refine (lS (l := [rY]) ?_ (rv_one (t := 33) (A := some ⟨w16.heap.size, 0, none⟩) (n := 2) (ca := 2) (a := [1, 5]) (s := ⟨#[121]⟩) ?_ ?_ (by decide))).mono ?_); (focus (refine Rv.no hl16.rv ?_; (repeat (first | with_reducible exact Fr.refl _ _ | with_reducible refine Fr.setCell ?_ (.inr (by first | (simp; done) | (simp; omega))) _ | with_reducible refine Fr.alloc ?_ _ | with_reducible refine Fr.drew ?_ | with_reducible refine Fr.drewN ?_ _ | with_reducible refine Fr.tr ?_ (by assumption))); done)); (focus (repeat (first | with_reducible assumption | with_reducible refine Ob.other ?_ (by first | (simp; done) | (simp; omega)) _ | ((with_reducible refine Ob.new_ _ _ _ _ ?_) <;> (simp; done)) | with_reducible refine Ob.alloc ?_ _ | with_reducible refine Ob.drew ?_ | with_reducible refine Ob.drewN ?_ _ | with_reducible refine Ob.no ?_ (by assumption)))); (focus (repeat (first | with_reducible assumption | ((with_reducible refine Kv.lit_new _ _ _ _ _ _ ?_ ?_ ?_ ?_) <;> (first | (simp; done) | rfl | decide)) | with_reducible exact Kv.none_ _ | with_reducible refine Kv.alloc ?_ _ | with_reducible refine Kv.drew ?_ | with_reducible refine Kv.drewN ?_ _ | with_reducible refine Kv.no ?_ (by assumption)))); rintro en w18 ⟨rfl, hf18⟩))
  go_wp2_with first
    | (go_at_call 27; ((with_reducible refine (Btw.len_ (Y := w.heap.size) (X := w10.heap.size) (rs := [rZ]) ?_).mono ?_); (focus (refine hb16.no ?_; (repeat (first | with_reducible exact Fr.refl _ _ | with_reducible refine Fr.setCell ?_ (.inr (by first | (simp; done) | (simp; omega))) _ | with_reducible refine Fr.alloc ?_ _ | with_reducible refine Fr.drew ?_ | with_reducible refine Fr.drewN ?_ _ | with_reducible refine Fr.tr ?_ (by assumption))); done)); rintro en w19 ⟨rfl, rfl⟩))
    | (go_at_call 27; ((with_reducible refine (Fre.len_ (w1 := w10) (d := 2) (rs := [rY, rZ]) ?_).mono ?_); (focus (refine hc16.no ?_; (repeat (first | with_reducible exact Fr.refl _ _ | with_reducible refine Fr.setCell ?_ (.inr (by first | (simp; done) | (simp; omega))) _ | with_reducible refine Fr.alloc ?_ _ | with_reducible refine Fr.drew ?_ | with_reducible refine Fr.drewN ?_ _ | with_reducible refine Fr.tr ?_ (by assumption))); done)); rintro en w20 ⟨rfl, rfl⟩))
    | (go_at_call 26; ((with_reducible refine (Fre.all_ (w1 := w10) (d := 2) (rs := [rY, rZ]) ?_).mono ?_); (focus (refine hc16.no ?_; (repeat (first | with_reducible exact Fr.refl _ _ | with_reducible refine Fr.setCell ?_ (.inr (by first | (simp; done) | (simp; omega))) _ | with_reducible refine Fr.alloc ?_ _ | with_reducible refine Fr.drew ?_ | with_reducible refine Fr.drewN ?_ _ | with_reducible refine Fr.tr ?_ (by assumption))); done)); rintro en w21 ⟨A21, n21, c21, rfl, ho21, hf21⟩))
    | fail
  go_wp2_with first
    | (go_at_call 34; ((with_reducible refine (rec_any (s := ⟨#[121]⟩)).mono ?_); rintro en w22 ⟨rfl, hf22⟩))
    | (go_at_call 34; ((with_reducible refine (rec_any (s := ⟨#[122]⟩)).mono ?_); rintro en w23 ⟨rfl, hf23⟩))
    | fail
  go_wp2_with (go_at_call 25; ((with_reducible refine (lS (l := [rY, rZ]) ?_ (rv_two (t := 33) (A := some ⟨w21.heap.size, 0, none⟩) (n := 2) (ca := 2) (B := some ⟨w22.heap.size, 0, none⟩) (m := 2) (cb := 2) (a := [1, 5]) (b := [3, 1]) (s := ⟨#[121]⟩) (u := ⟨#[122]⟩) ?_ ?_ ?_ (by decide) (by decide))).mono ?_); (focus (refine Rv.no ho21.rv ?_; (repeat (first | with_reducible exact Fr.refl _ _ | with_reducible refine Fr.setCell ?_ (.inr (by first | (simp; done) | (simp; omega))) _ | with_reducible refine Fr.alloc ?_ _ | with_reducible refine Fr.drew ?_ | with_reducible refine Fr.drewN ?_ _ | with_reducible refine Fr.tr ?_ (by assumption))); done)); (focus (repeat (first | with_reducible assumption | with_reducible refine Ob.other ?_ (by first | (simp; done) | (simp; omega)) _ | ((with_reducible refine Ob.new_ _ _ _ _ ?_) <;> (simp; done)) | with_reducible refine Ob.alloc ?_ _ | with_reducible refine Ob.drew ?_ | with_reducible refine Ob.drewN ?_ _ | with_reducible refine Ob.no ?_ (by assumption)))); (focus (repeat (first | with_reducible assumption | ((with_reducible refine Kv.lit_new _ _ _ _ _ _ ?_ ?_ ?_ ?_) <;> (first | (simp; done) | rfl | decide)) | with_reducible exact Kv.none_ _ | with_reducible refine Kv.alloc ?_ _ | with_reducible refine Kv.drew ?_ | with_reducible refine Kv.drewN ?_ _ | with_reducible refine Kv.no ?_ (by assumption)))); (focus (repeat (first | with_reducible assumption | ((with_reducible refine Kv.lit_new _ _ _ _ _ _ ?_ ?_ ?_ ?_) <;> (first | (simp; done) | rfl | decide)) | with_reducible exact Kv.none_ _ | with_reducible refine Kv.alloc ?_ _ | with_reducible refine Kv.drew ?_ | with_reducible refine Kv.drewN ?_ _ | with_reducible refine Kv.no ?_ (by assumption)))); rintro en w24 ⟨rfl, hf24⟩))
  go_wp2_with first
    | (go_at_call 34; ((with_reducible refine rec_any.mono ?_); rintro en w25 ⟨rfl, hf25⟩))
    | (go_at_call 14; ((with_reducible refine (acheck_any (s := ⟨#[]⟩) 1 (by decide)).mono ?_); rintro en w26 ⟨rfl, hf26⟩; rw [q10]))
    | fail
  go_ret
  exact ⟨rfl, by (repeat (first | with_reducible exact Fr.refl _ _ | with_reducible refine Fr.setCell ?_ (.inr (by first | (simp; done) | (simp; omega))) _ | with_reducible refine Fr.alloc ?_ _ | with_reducible refine Fr.drew ?_ | with_reducible refine Fr.drewN ?_ _ | with_reducible refine Fr.tr ?_ (by assumption)))⟩
end Go.Proofs.Yteckbcfigklkpaa.Ah09
