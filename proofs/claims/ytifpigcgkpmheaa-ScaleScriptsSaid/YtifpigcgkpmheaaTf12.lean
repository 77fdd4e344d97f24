/- Layer 12: both scales at once. -/
import Derived.Test.YtifpigcgkpmheaaTe12
import Derived.Test.YtifpigcgkpmheaaSo12
import Derived.StillTailTactics
namespace Go.Proofs.Ytifpigcgkpmheaa.Tf12
open Go.RowKit Go.Proofs.Ytifpigcgkpmheaa.Pk08 Go.Proofs.Ytifpigcgkpmheaa.Base Go.Proofs.Ytifpigcgkpmheaa.App Go.Proofs.Ytifpigcgkpmheaa.Ty Go.Proofs.Ytifpigcgkpmheaa.Str Go.Proofs.Ytifpigcgkpmheaa.Ky Go.Proofs.Ytifpigcgkpmheaa.Iv Go.Proofs.Ytifpigcgkpmheaa.Bx Go.Proofs.Ytifpigcgkpmheaa.Bo Go.Proofs.Ytifpigcgkpmheaa.As Go.Proofs.Ytifpigcgkpmheaa.Ro Go.Proofs.Ytifpigcgkpmheaa.Pl08 Go.Proofs.Ytifpigcgkpmheaa.Kc08 Go.Proofs.Ytifpigcgkpmheaa.Ke08 Go.Proofs.Ytifpigcgkpmheaa.Ki08 Go.Proofs.Ytifpigcgkpmheaa.Ka08 Go.Proofs.Ytifpigcgkpmheaa.Ic Go.Proofs.Ytifpigcgkpmheaa.In Go.Proofs.Ytifpigcgkpmheaa.Fa Go.Proofs.Ytifpigcgkpmheaa.Sa12 Go.Proofs.Ytifpigcgkpmheaa.Sb12 Go.Proofs.Ytifpigcgkpmheaa.Sc12 Go.Proofs.Ytifpigcgkpmheaa.Sd12 Go.Proofs.Ytifpigcgkpmheaa.Se12 Go.Proofs.Ytifpigcgkpmheaa.Sf12 Go.Proofs.Ytifpigcgkpmheaa.Sg12 Go.Proofs.Ytifpigcgkpmheaa.Sh12 Go.Proofs.Ytifpigcgkpmheaa.Si12 Go.Proofs.Ytifpigcgkpmheaa.Sk12 Go.Proofs.Ytifpigcgkpmheaa.Sl12 Go.Proofs.Ytifpigcgkpmheaa.St12 Go.Proofs.Ytifpigcgkpmheaa.Sv12 Go.Proofs.Ytifpigcgkpmheaa.Sw12 Go.Proofs.Ytifpigcgkpmheaa.Sw12 Go.Proofs.Ytifpigcgkpmheaa.Kj08 Go.Proofs.Ytifpigcgkpmheaa.Kh08 Go.Proofs.Ytifpigcgkpmheaa.Ky08 Go.Proofs.Ytifpigcgkpmheaa.Sm12 Go.Proofs.Ytifpigcgkpmheaa.Wd Go.Proofs.Ytifpigcgkpmheaa.Kw08 Go.Proofs.Ytifpigcgkpmheaa.Kx08 Go.Proofs.Ytifpigcgkpmheaa.Ka08 Go.Proofs.Ytifpigcgkpmheaa.Sz12 Go.Proofs.Ytifpigcgkpmheaa.Td12 Go.Proofs.Ytifpigcgkpmheaa.Tc12 Go.Proofs.Ytifpigcgkpmheaa.Te12 Go.Proofs.Ytifpigcgkpmheaa.Sn12 Go.Proofs.Ytifpigcgkpmheaa.So12
set_option linter.unusedVariables false
set_option linter.unusedSimpArgs false
/-- The program's scale and the document's, of no block from X on and below Z. -/
def TwoSc (X Z : Nat) (w0 w : World) (gs gk : Nat) (rs rk : List (List Nat)) : Prop := ∃ P T ct qs Q U cu ps, Sp P w gs T ct qs rs ∧ Sd Q w gk U cu ps rk ∧ (∀ b, P b → w0.heap.size ≤ b ∧ (b < X ∨ Z ≤ b)) ∧ (∀ b, Q b → w0.heap.size ≤ b ∧ (b < X ∨ Z ≤ b)) ∧ (∀ b, P b → ¬ Q b) ∧ Fr No w0 w
section
variable {X Z : Nat} {w0 w w1 w2 : World} {gs gk : Nat} {rs rk : List (List Nat)}
theorem TwoSc.fr (h : TwoSc X Z w0 w gs gk rs rk) : Fr No w0 w := by
  obtain ⟨P, T, ct, qs, Q, U, cu, ps, h1, h2, h3, h4, h5, h6⟩ := h
  exact h6
theorem TwoSc.no (h : TwoSc X Z w0 w gs gk rs rk) (f : Fr No w w1) : TwoSc X Z w0 w1 gs gk rs rk := by
  obtain ⟨P, T, ct, qs, Q, U, cu, ps, h1, h2, h3, h4, h5, h6⟩ := h
  exact ⟨P, T, ct, qs, Q, U, cu, ps, h1.no f, h2.no f, h3, h4, h5, h6.tr f⟩
theorem TwoSc.s (h : TwoSc X Z w0 w gs gk rs rk) : ∃ T ct, Sr w gs T ct rs := by
  obtain ⟨P, T, ct, qs, Q, U, cu, ps, h1, h2, h3, h4, h5, h6⟩ := h
  exact ⟨T, ct, h1.sr⟩
theorem TwoSc.k (h : TwoSc X Z w0 w gs gk rs rk) : ∃ T ct, Sr w gk T ct rk := by
  obtain ⟨P, T, ct, qs, Q, U, cu, ps, h1, h2, h3, h4, h5, h6⟩ := h
  exact ⟨U, cu, h2.sr⟩
/-- The window is set. -/
theorem TwoSc.bar {X1 Z1 : Nat} (h : TwoSc X1 Z1 w0 w gs gk rs rk) (f : Fr No w w1) (Z : Nat) : TwoSc w.heap.size Z w0 w1 gs gk rs rk := by
  obtain ⟨P, T, ct, qs, Q, U, cu, ps, h1, h2, h3, h4, h5, h6⟩ := h
  exact ⟨P, T, ct, qs, Q, U, cu, ps, h1.no f, h2.no f, fun b hb => ⟨(h3 b hb).1, .inl (h1.blt b hb)⟩, fun b hb => ⟨(h4 b hb).1, .inl (h2.blt b hb)⟩, h5, h6.tr f⟩
theorem TwoSc.free (h : TwoSc X Z w0 w gs gk rs rk) : TwoSc 0 0 w0 w gs gk rs rk := by
  obtain ⟨P, T, ct, qs, Q, U, cu, ps, h1, h2, h3, h4, h5, h6⟩ := h
  exact ⟨P, T, ct, qs, Q, U, cu, ps, h1, h2, fun b hb => ⟨(h3 b hb).1, .inr (Nat.zero_le _)⟩, fun b hb => ⟨(h4 b hb).1, .inr (Nat.zero_le _)⟩, h5, h6⟩
theorem TwoSc.postS {P Q : Nat → Prop} {U : Option Addr} {cu : Nat} {ps : List Rw} {out : List (List Nat)} (h1 : ScPost 75 78 P w gs out w1) (h2 : Sd Q w gk U cu ps rk) (h3 : ∀ b, P b → w0.heap.size ≤ b ∧ (b < X ∨ Z ≤ b)) (h4 : ∀ b, Q b → w0.heap.size ≤ b ∧ (b < X ∨ Z ≤ b)) (h5 : ∀ b, P b → ¬ Q b) (h6 : Fr No w0 w) (hz : Z ≤ w.heap.size) : TwoSc X Z w0 w1 gs gk out rk ∧ Fr (fun k => k < X ∨ Z ≤ k) w w1 := by
  obtain ⟨P', T, ct, qs, e1, e2, e3⟩ := h1
  refine ⟨⟨P', T, ct, qs, Q, U, cu, ps, e1, h2.fr e3 (fun b hb hp => h5 b hp hb), fun b hb => ?_, h4, fun b hb hq => ?_, h6.trans e3 (fun k e => .inr (h3 k e).1)⟩, e3.mono (fun k e => (h3 k e).2)⟩
  · rcases e2 b hb with e | e
    · exact h3 b e
    · exact ⟨Nat.le_trans h6.size e, .inr (Nat.le_trans hz e)⟩
  · rcases e2 b hb with e | e
    · exact h5 b e hq
    · have := h2.blt b hq; omega
theorem TwoSc.postK {P Q : Nat → Prop} {T : Option Addr} {ct : Nat} {qs : List Rw} {out : List (List Nat)} (h1 : Sp P w gs T ct qs rs) (h2 : ScPost 83 36 Q w gk out w1) (h3 : ∀ b, P b → w0.heap.size ≤ b ∧ (b < X ∨ Z ≤ b)) (h4 : ∀ b, Q b → w0.heap.size ≤ b ∧ (b < X ∨ Z ≤ b)) (h5 : ∀ b, P b → ¬ Q b) (h6 : Fr No w0 w) (hz : Z ≤ w.heap.size) : TwoSc X Z w0 w1 gs gk rs out ∧ Fr (fun k => k < X ∨ Z ≤ k) w w1 := by
  obtain ⟨Q', U, cu, ps, e1, e2, e3⟩ := h2
  refine ⟨⟨P, T, ct, qs, Q', U, cu, ps, h1.fr e3 (fun b hp hb => h5 b hp hb), e1, h3, fun b hb => ?_, fun b hp hb => ?_, h6.trans e3 (fun k e => .inr (h4 k e).1)⟩, e3.mono (fun k e => (h4 k e).2)⟩
  · rcases e2 b hb with e | e
    · exact h4 b e
    · exact ⟨Nat.le_trans h6.size e, .inr (Nat.le_trans hz e)⟩
  · rcases e2 b hb with e | e
    · exact h5 b hp e
    · have := h1.blt b hp; omega
theorem tw_start {d : Nat} (h1 : 1 ≤ d) (h6 : d ≤ 6) (hs : Osc w0 w gs (List.replicate d [])) : Calls Try.prog 28 #[.int .i64 (d : Int)] w fun en w' => ∃ gk, en = .returned (.tuple #[.pointer (some ⟨gk, 0, none⟩), .int .i64 0]) ∧ TwoSc 0 0 w0 w' gs gk (List.replicate d []) (List.replicate d []) := by
  refine (rnew_yes d h1 h6).mono ?_
  rintro en w' ⟨gk, gt, rfl, e1, e2, e3, e4⟩
  obtain ⟨P, T, ct, qs, p1, p2, p3⟩ := hs
  refine ⟨gk, rfl, P, T, ct, qs, _, _, _, _, p1.no e4, e3, fun b hb => ⟨p2 b hb, .inr (Nat.zero_le _)⟩, fun b hb => ⟨?_, .inr (Nat.zero_le _)⟩, fun b hp hb => ?_, p3.tr e4⟩
  · have := p3.size; rcases hb with e | e <;> omega
  · have := p1.blt b hp; rcases hb with e | e <;> omega
theorem tw_insS (h : TwoSc X Z w0 w gs gk rs rk) (hz : Z ≤ w.heap.size) (hg : Gd rs) (z : Int) {x : Nat} (hx : x < 4294967296) : Calls Try.prog 21 #[.pointer (some ⟨gs, 0, none⟩), .int .i64 z, .int .u32 (x : Int)] w fun en w' => en = .returned (.tuple #[.int .i64 ((insI rs z x : Nat) : Int), .int .i64 ((insE rs z x : Nat) : Int)]) ∧ TwoSc X Z w0 w' gs gk (insL rs z x) rk ∧ Fr (fun k => k < X ∨ Z ≤ k) w w' := by
  obtain ⟨P, T, ct, qs, Q, U, cu, ps, h1, h2, h3, h4, h5, h6⟩ := h
  refine (insert_any h1 hg z hx).mono ?_
  rintro en w' ⟨rfl, hp⟩
  exact ⟨rfl, TwoSc.postS hp h2 h3 h4 h5 h6 hz⟩
theorem tw_insK (h : TwoSc X Z w0 w gs gk rs rk) (hz : Z ≤ w.heap.size) (hg : Gd rk) (z : Int) {x : Nat} (hx : x < 4294967296) : Calls Try.prog 32 #[.pointer (some ⟨gk, 0, none⟩), .int .i64 z, .int .u32 (x : Int)] w fun en w' => en = .returned (.tuple #[.int .i64 ((insI rk z x : Nat) : Int), .int .i64 ((insE rk z x : Nat) : Int)]) ∧ TwoSc X Z w0 w' gs gk rs (insL rk z x) ∧ Fr (fun k => k < X ∨ Z ≤ k) w w' := by
  obtain ⟨P, T, ct, qs, Q, U, cu, ps, h1, h2, h3, h4, h5, h6⟩ := h
  refine (rinsert_any h2 hg z hx).mono ?_
  rintro en w' ⟨rfl, hp⟩
  exact ⟨rfl, TwoSc.postK h1 hp h3 h4 h5 h6 hz⟩
theorem tw_remS (h : TwoSc X Z w0 w gs gk rs rk) (hz : Z ≤ w.heap.size) (hg : Gd rs) (z y : Int) : Calls Try.prog 22 #[.pointer (some ⟨gs, 0, none⟩), .int .i64 z, .int .i64 y] w fun en w' => en = .returned (.int .i64 ((remE rs z y : Nat) : Int)) ∧ TwoSc X Z w0 w' gs gk (remL rs z y) rk ∧ Fr (fun k => k < X ∨ Z ≤ k) w w' := by
  obtain ⟨P, T, ct, qs, Q, U, cu, ps, h1, h2, h3, h4, h5, h6⟩ := h
  refine (remove_any h1 hg z y).mono ?_
  rintro en w' ⟨rfl, hp⟩
  exact ⟨rfl, TwoSc.postS hp h2 h3 h4 h5 h6 hz⟩
theorem tw_remK (h : TwoSc X Z w0 w gs gk rs rk) (hz : Z ≤ w.heap.size) (hg : Gd rk) (z y : Int) : Calls Try.prog 33 #[.pointer (some ⟨gk, 0, none⟩), .int .i64 z, .int .i64 y] w fun en w' => en = .returned (.int .i64 ((remE rk z y : Nat) : Int)) ∧ TwoSc X Z w0 w' gs gk rs (remL rk z y) ∧ Fr (fun k => k < X ∨ Z ≤ k) w w' := by
  obtain ⟨P, T, ct, qs, Q, U, cu, ps, h1, h2, h3, h4, h5, h6⟩ := h
  refine (rremove_any h2 hg z y).mono ?_
  rintro en w' ⟨rfl, hp⟩
  exact ⟨rfl, TwoSc.postK h1 hp h3 h4 h5 h6 hz⟩
/-- A list of numbers is returned, and a code. -/
def OneOut (w : World) (xs : List Int) (z : Int) (en : Ending) (w' : World) : Prop :=
  ∃ A n c, en = .returned (.tuple #[.slice A n c, .int .i64 z]) ∧ Iv w' A n c xs ∧ Fr No w w'
theorem chk_rng (n : Nat) (d : Int) : chk n d = 0 ∨ chk n d = 1 := by unfold chk; split <;> simp
def fX (rows : List (List Nat)) (n : Nat) (ks : List Nat) : List Int := if chk n rows.length = 0 then findL rows ks else []
section
variable {K : Option Addr} {n c : Nat} {ks : List Nat}
theorem tw_findS (h : TwoSc X Z w0 w gs gk rs rk) (hg : Gd rs) (hk : Kv w K n c ks) : Calls Try.prog 18 #[.pointer (some ⟨gs, 0, none⟩), .slice K n c] w (OneOut w (fX rs n ks) (chk n rs.length)) := by
  obtain ⟨T, ct, h1⟩ := h.s
  unfold fX
  rcases chk_rng n rs.length with e | e
  · rw [if_pos e, e]
    refine (sfind_any h1 hg hk e).mono ?_
    rintro en w' ⟨A, n', c', rfl, h2, h3, _⟩
    exact ⟨A, n', c', rfl, h2, h3⟩
  · rw [if_neg (by omega), e]
    refine (sfind_no h1 (by omega)).mono ?_
    rintro en w' ⟨rfl, rfl⟩
    exact ⟨none, 0, 0, rfl, Iv.none_ _, Fr.refl _ _⟩
theorem tw_findK (h : TwoSc X Z w0 w gs gk rs rk) (hg : Gd rk) (hk : Kv w K n c ks) : Calls Try.prog 34 #[.pointer (some ⟨gk, 0, none⟩), .slice K n c] w (OneOut w (fX rk n ks) (chk n rk.length)) := by
  obtain ⟨T, ct, h1⟩ := h.k
  unfold fX
  rcases chk_rng n rk.length with e | e
  · rw [if_pos e, e]
    refine (rfind_any h1 hg hk e).mono ?_
    rintro en w' ⟨A, n', c', rfl, h2, h3⟩
    exact ⟨A, n', c', rfl, h2, h3⟩
  · rw [if_neg (by omega), e]
    refine (rfind_no h1 (by omega)).mono ?_
    rintro en w' ⟨rfl, rfl⟩
    exact ⟨none, 0, 0, rfl, Iv.none_ _, Fr.refl _ _⟩
end
section
variable {A B : Option Addr} {n c m e : Nat} {xs ys : List Int} {lo hi : List Nat}
noncomputable section
open Classical in
def bXl (rows : List (List Nat)) (xs ys : List Int) : List Nat := if boxOk rows xs ys then boxLo rows xs else []
open Classical in
def bXh (rows : List (List Nat)) (xs ys : List Int) : List Nat := if boxOk rows xs ys then boxHi rows ys else []
open Classical in
def bXz (rows : List (List Nat)) (xs ys : List Int) : Int := if boxOk rows xs ys then 0 else 1
end
theorem bX_yes (h : boxOk rs xs ys) : bXl rs xs ys = boxLo rs xs ∧ bXh rs xs ys = boxHi rs ys ∧ bXz rs xs ys = 0 := by unfold bXl bXh bXz; rw [if_pos h, if_pos h, if_pos h]; exact ⟨rfl, rfl, rfl⟩
theorem bX_no (h : ¬ boxOk rs xs ys) : bXl rs xs ys = [] ∧ bXh rs xs ys = [] ∧ bXz rs xs ys = 1 := by unfold bXl bXh bXz; rw [if_neg h, if_neg h, if_neg h]; exact ⟨rfl, rfl, rfl⟩
theorem tw_boxS (h : TwoSc X Z w0 w gs gk rs rk) (hg : Gd rs) (hx : Iv w A n c xs) (hy : Iv w B m e ys) : Calls Try.prog 19 #[.pointer (some ⟨gs, 0, none⟩), .slice A n c, .slice B m e] w (BoxTwo w (bXl rs xs ys) (bXh rs xs ys) (bXz rs xs ys)) := by
  obtain ⟨T, ct, h1⟩ := h.s
  refine (sbox_any h1 hg hx hy _ _ _ bX_yes bX_no).mono ?_
  rintro en w' ⟨A', na, ca, B', nb, cb, rfl, q1, q2, q3, _, _⟩
  exact ⟨A', na, ca, B', nb, cb, rfl, q1, q2, q3⟩
theorem tw_boxK (h : TwoSc X Z w0 w gs gk rs rk) (hg : Gd rk) (hx : Iv w A n c xs) (hy : Iv w B m e ys) : Calls Try.prog 35 #[.pointer (some ⟨gk, 0, none⟩), .slice A n c, .slice B m e] w (BoxTwo w (bXl rk xs ys) (bXh rk xs ys) (bXz rk xs ys)) := by
  obtain ⟨T, ct, h1⟩ := h.k
  exact rbox_any h1 hg hx hy _ _ _ bX_yes bX_no
def mX (rows : List (List Nat)) (lo hi : List Nat) (ks : List Nat) : List Int := if chkB lo hi rows.length = 0 then findL rows ks else []
theorem tw_meetS (h : TwoSc X Z w0 w gs gk rs rk) (hg : Gd rs) (hx : Kv w A n c lo) (hy : Kv w B m e hi) : Calls Try.prog 24 #[.pointer (some ⟨gs, 0, none⟩), .agg #[.slice A n c, .slice B m e]] w (TwoOut w (mX rs lo hi lo) (mX rs lo hi hi) (chkB lo hi rs.length)) := by
  obtain ⟨T, ct, h1⟩ := h.s
  exact smeet_any h1 hg hx hy _ _ _ (fun q => by unfold mX; rw [if_pos q, if_pos q, q]; exact ⟨rfl, rfl, rfl⟩) (fun q => by unfold mX; rw [if_neg (by omega), if_neg (by omega), q]; exact ⟨rfl, rfl, rfl⟩)
theorem tw_meetK (h : TwoSc X Z w0 w gs gk rs rk) (hg : Gd rk) (hx : Kv w A n c lo) (hy : Kv w B m e hi) : Calls Try.prog 36 #[.pointer (some ⟨gk, 0, none⟩), .agg #[.slice A n c, .slice B m e]] w (TwoOut w (mX rk lo hi lo) (mX rk lo hi hi) (chkB lo hi rk.length)) := by
  obtain ⟨T, ct, h1⟩ := h.k
  exact rmeet_any h1 hg hx hy _ _ _ (fun q => by unfold mX; rw [if_pos q, if_pos q, q]; exact ⟨rfl, rfl, rfl⟩) (fun q => by unfold mX; rw [if_neg (by omega), if_neg (by omega), q]; exact ⟨rfl, rfl, rfl⟩)
end
theorem tw_encS (h : TwoSc X Z w0 w gs gk rs rk) (hg : Gd rs) : Calls Try.prog 12 #[.pointer (some ⟨gs, 0, none⟩)] w fun en w' => en = .returned (.string (txt (encS rs))) ∧ Fr No w w' := by
  obtain ⟨T, ct, h1⟩ := h.s
  exact sencode_any h1 hg
theorem tw_encK (h : TwoSc X Z w0 w gs gk rs rk) (hg : Gd rk) : Calls Try.prog 30 #[.pointer (some ⟨gk, 0, none⟩)] w fun en w' => en = .returned (.string (txt (encS rk))) ∧ Fr No w w' := by
  obtain ⟨T, ct, h1⟩ := h.k
  exact rencode_any h1 hg
theorem tw_sizS (h : TwoSc X Z w0 w gs gk rs rk) (hg : Gd rs) : Calls Try.prog 14 #[.pointer (some ⟨gs, 0, none⟩)] w fun en w' => ∃ A n c, en = .returned (.slice A n c) ∧ Iv w' A n c (sizesL rs) ∧ Fr No w w' := by
  obtain ⟨T, ct, h1⟩ := h.s
  refine (sizes_any h1 hg).mono ?_
  rintro en w' ⟨A, n, c, rfl, h2, h3, _⟩
  exact ⟨A, n, c, rfl, h2, h3⟩
theorem tw_sizK (h : TwoSc X Z w0 w gs gk rs rk) (hg : Gd rk) : Calls Try.prog 15 #[.pointer (some ⟨gk, 0, none⟩)] w fun en w' => ∃ A n c, en = .returned (.slice A n c) ∧ Iv w' A n c (sizesL rk) ∧ Fr No w w' := by
  obtain ⟨T, ct, h1⟩ := h.k
  exact rsizes_any h1 hg
theorem tw_copy (h : TwoSc X Z w0 w gs gk rs rk) (hg : Gd rs) : Calls Try.prog 31 #[.pointer (some ⟨gs, 0, none⟩)] w fun en w' => ∃ go, en = .returned (.pointer (some ⟨go, 0, none⟩)) ∧ Owin w.heap.size w'.heap.size w' go rs ∧ Fr No w w' := by
  obtain ⟨T, ct, h1⟩ := h.s
  refine (scopy_any h1 hg).mono ?_
  rintro en w' ⟨g2, P, T', ct', qs', rfl, h2, h3, h4⟩
  exact ⟨g2, rfl, ⟨P, T', ct', qs', h2, fun b hb => ⟨h3 b hb, h2.blt b hb⟩⟩, h4⟩
theorem Owin.wide {Y : Nat} (h : Owin X Z w gs rs) (hy : Y ≤ X) : Owin Y Z w gs rs := by
  obtain ⟨P, T, ct, qs, h1, h2⟩ := h
  exact ⟨P, T, ct, qs, h1, fun b hb => ⟨Nat.le_trans hy (h2 b hb).1, (h2 b hb).2⟩⟩
theorem ow_enc (h : Owin X Z w gs rs) (hg : Gd rs) : Calls Try.prog 12 #[.pointer (some ⟨gs, 0, none⟩)] w fun en w' => en = .returned (.string (txt (encS rs))) ∧ Fr No w w' := by
  obtain ⟨P, T, ct, qs, h1, h2⟩ := h
  exact sencode_any h1.sr hg
end
end Go.Proofs.Ytifpigcgkpmheaa.Tf12
