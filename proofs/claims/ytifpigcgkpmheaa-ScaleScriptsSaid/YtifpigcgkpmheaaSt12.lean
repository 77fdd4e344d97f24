/- Layer 12: a scale of the call's own. -/
import Derived.Test.YtifpigcgkpmheaaSs12
import Derived.Test.YtifpigcgkpmheaaSe12
import Derived.Test.YtifpigcgkpmheaaSi12
import Derived.Test.YtifpigcgkpmheaaSl12
import Derived.StillTailTactics
namespace Go.Proofs.Ytifpigcgkpmheaa.St12
open Go.RowKit Go.Proofs.Ytifpigcgkpmheaa.Pk08 Go.Proofs.Ytifpigcgkpmheaa.Base Go.Proofs.Ytifpigcgkpmheaa.App Go.Proofs.Ytifpigcgkpmheaa.Str Go.Proofs.Ytifpigcgkpmheaa.Ky Go.Proofs.Ytifpigcgkpmheaa.Iv Go.Proofs.Ytifpigcgkpmheaa.Bx Go.Proofs.Ytifpigcgkpmheaa.Bo Go.Proofs.Ytifpigcgkpmheaa.As Go.Proofs.Ytifpigcgkpmheaa.Ro Go.Proofs.Ytifpigcgkpmheaa.Pl08 Go.Proofs.Ytifpigcgkpmheaa.Kc08 Go.Proofs.Ytifpigcgkpmheaa.Ki08 Go.Proofs.Ytifpigcgkpmheaa.Ic Go.Proofs.Ytifpigcgkpmheaa.Fa Go.Proofs.Ytifpigcgkpmheaa.Sa12 Go.Proofs.Ytifpigcgkpmheaa.Sb12 Go.Proofs.Ytifpigcgkpmheaa.Sc12 Go.Proofs.Ytifpigcgkpmheaa.Sd12 Go.Proofs.Ytifpigcgkpmheaa.Se12 Go.Proofs.Ytifpigcgkpmheaa.Sf12 Go.Proofs.Ytifpigcgkpmheaa.Sg12 Go.Proofs.Ytifpigcgkpmheaa.Sh12 Go.Proofs.Ytifpigcgkpmheaa.Si12 Go.Proofs.Ytifpigcgkpmheaa.Sl12 Go.Proofs.Ytifpigcgkpmheaa.Sp12 Go.Proofs.Ytifpigcgkpmheaa.Sq12 Go.Proofs.Ytifpigcgkpmheaa.Sr12 Go.Proofs.Ytifpigcgkpmheaa.Ss12
set_option linter.unusedVariables false
set_option linter.unusedSimpArgs false
/-- A scale that was made since w0. -/
def Osc (w0 w : World) (gs : Nat) (rows : List (List Nat)) : Prop := ∃ P T ct qs, Sp P w gs T ct qs rows ∧ (∀ b, P b → w0.heap.size ≤ b) ∧ Fr No w0 w
section
variable {w0 w w1 : World} {gs : Nat} {rows : List (List Nat)}
theorem Osc.fr (h : Osc w0 w gs rows) : Fr No w0 w := by obtain ⟨_, _, _, _, _, _, f⟩ := h; exact f
theorem Osc.no (h : Osc w0 w gs rows) (f : Fr No w w1) : Osc w0 w1 gs rows := by
  obtain ⟨P, T, ct, qs, h1, h2, h3⟩ := h
  exact ⟨P, T, ct, qs, h1.no f, h2, h3.tr f⟩
theorem Osc.sr (h : Osc w0 w gs rows) : ∃ T ct, Sr w gs T ct rows := by
  obtain ⟨P, T, ct, qs, h1, h2, h3⟩ := h
  exact ⟨T, ct, h1.sr⟩
theorem Osc.post {P : Nat → Prop} {out : List (List Nat)} (h1 : ScPost 75 78 P w gs out w1) (h2 : ∀ b, P b → w0.heap.size ≤ b) (h3 : Fr No w0 w) : Osc w0 w1 gs out := by
  obtain ⟨P', T, ct, qs, h4, h5, h6⟩ := h1
  exact ⟨P', T, ct, qs, h4, fun b hb => by
    rcases h5 b hb with e | e
    · exact h2 b e
    · exact Nat.le_trans h3.size e, h3.trans h6 (fun k e => .inr (h2 k e))⟩
theorem os_new {d : Nat} (h1 : 1 ≤ d) (h6 : d ≤ 6) (f : Fr No w0 w) : Calls Try.prog 27 #[.int .i64 (d : Int)] w fun en w' => ∃ gs, en = .returned (.tuple #[.pointer (some ⟨gs, 0, none⟩), .int .i64 0]) ∧ Osc w0 w' gs (List.replicate d []) := by
  refine (new_yes d h1 h6).mono ?_
  rintro en w' ⟨gs, gt, rfl, h2, h3, hs, hf⟩
  exact ⟨gs, rfl, _, _, _, _, hs, fun b hb => by have := f.size; rcases hb with e | e <;> omega, f.tr hf⟩
theorem os_insert (h : Osc w0 w gs rows) (hg : Gd rows) (z : Int) {x : Nat} (hx : x < 4294967296) : Calls Try.prog 21 #[.pointer (some ⟨gs, 0, none⟩), .int .i64 z, .int .u32 (x : Int)] w fun en w' => en = .returned (.tuple #[.int .i64 ((insI rows z x : Nat) : Int), .int .i64 ((insE rows z x : Nat) : Int)]) ∧ Osc w0 w' gs (insL rows z x) := by
  obtain ⟨P, T, ct, qs, h1, h2, h3⟩ := h
  refine (insert_any h1 hg z hx).mono ?_
  rintro en w' ⟨rfl, hp⟩
  exact ⟨rfl, Osc.post hp h2 h3⟩
theorem os_remove (h : Osc w0 w gs rows) (hg : Gd rows) (z y : Int) : Calls Try.prog 22 #[.pointer (some ⟨gs, 0, none⟩), .int .i64 z, .int .i64 y] w fun en w' => en = .returned (.int .i64 ((remE rows z y : Nat) : Int)) ∧ Osc w0 w' gs (remL rows z y) := by
  obtain ⟨P, T, ct, qs, h1, h2, h3⟩ := h
  refine (remove_any h1 hg z y).mono ?_
  rintro en w' ⟨rfl, hp⟩
  exact ⟨rfl, Osc.post hp h2 h3⟩
theorem os_sizes (h : Osc w0 w gs rows) (hg : Gd rows) : Calls Try.prog 14 #[.pointer (some ⟨gs, 0, none⟩)] w fun en w' => ∃ A n c, en = .returned (.slice A n c) ∧ Iv w' A n c (sizesL rows) ∧ Fr No w w' ∧ Nw w A := by
  obtain ⟨T, ct, h1⟩ := h.sr
  exact sizes_any h1 hg
theorem os_find {K : Option Addr} {n c : Nat} {ks : List Nat} (h : Osc w0 w gs rows) (hg : Gd rows) (hk : Kv w K n c ks) (hc : chk n rows.length = 0) : Calls Try.prog 18 #[.pointer (some ⟨gs, 0, none⟩), .slice K n c] w fun en w' => ∃ A n' c', en = .returned (.tuple #[.slice A n' c', .int .i64 0]) ∧ Iv w' A n' c' (findL rows ks) ∧ Fr No w w' ∧ Nw w A := by
  obtain ⟨T, ct, h1⟩ := h.sr
  exact sfind_any h1 hg hk hc
theorem os_box {X Y : Option Addr} {xn xc yn yc : Nat} {xs ys : List Int} (h : Osc w0 w gs rows) (hg : Gd rows) (hx : Iv w X xn xc xs) (hy : Iv w Y yn yc ys) (lo hi : List Nat) (z : Int) (hyes : boxOk rows xs ys → lo = boxLo rows xs ∧ hi = boxHi rows ys ∧ z = 0) (hno : ¬ boxOk rows xs ys → lo = [] ∧ hi = [] ∧ z = 1) : Calls Try.prog 19 #[.pointer (some ⟨gs, 0, none⟩), .slice X xn xc, .slice Y yn yc] w (BoxOut w lo hi z) := by
  obtain ⟨T, ct, h1⟩ := h.sr
  exact sbox_any h1 hg hx hy lo hi z hyes hno
theorem os_meet {L H : Option Addr} {ln lc hn hc : Nat} {lo hi : List Nat} (h : Osc w0 w gs rows) (hg : Gd rows) (hl : Kv w L ln lc lo) (hh : Kv w H hn hc hi) (xs ys : List Int) (z : Int) (hyes : chkB lo hi rows.length = 0 → xs = findL rows lo ∧ ys = findL rows hi ∧ z = 0) (hno : chkB lo hi rows.length = 1 → xs = [] ∧ ys = [] ∧ z = 1) : Calls Try.prog 24 #[.pointer (some ⟨gs, 0, none⟩), .agg #[.slice L ln lc, .slice H hn hc]] w (TwoOut w xs ys z) := by
  obtain ⟨T, ct, h1⟩ := h.sr
  exact smeet_any h1 hg hl hh xs ys z hyes hno
theorem os_encode (h : Osc w0 w gs rows) (hg : Gd rows) : Calls Try.prog 12 #[.pointer (some ⟨gs, 0, none⟩)] w fun en w' => en = .returned (.string (txt (encS rows))) ∧ Fr No w w' := by
  obtain ⟨T, ct, h1⟩ := h.sr
  exact sencode_any h1 hg
end
/-- A scale that was made since w0, of no block from X on and below Z. -/
def Osp (X Z : Nat) (w0 w : World) (gs : Nat) (rows : List (List Nat)) : Prop := ∃ P T ct qs, Sp P w gs T ct qs rows ∧ (∀ b, P b → w0.heap.size ≤ b ∧ (b < X ∨ Z ≤ b)) ∧ Fr No w0 w
section
variable {X Z : Nat} {w0 w w1 : World} {gs : Nat} {rows : List (List Nat)}
theorem Osc.sp (h : Osc w0 w gs rows) (f : Fr No w w1) (Z : Nat) : Osp w.heap.size Z w0 w1 gs rows := by
  obtain ⟨P, T, ct, qs, h1, h2, h3⟩ := h
  exact ⟨P, T, ct, qs, h1.no f, fun b hb => ⟨h2 b hb, .inl (h1.blt b hb)⟩, h3.tr f⟩
theorem Osp.osc (h : Osp X Z w0 w gs rows) : Osc w0 w gs rows := by
  obtain ⟨P, T, ct, qs, h1, h2, h3⟩ := h
  exact ⟨P, T, ct, qs, h1, fun b hb => (h2 b hb).1, h3⟩
theorem Osp.no (h : Osp X Z w0 w gs rows) (f : Fr No w w1) : Osp X Z w0 w1 gs rows := by
  obtain ⟨P, T, ct, qs, h1, h2, h3⟩ := h
  exact ⟨P, T, ct, qs, h1.no f, h2, h3.tr f⟩
theorem Osp.post {P : Nat → Prop} {out : List (List Nat)} (h1 : ScPost 75 78 P w gs out w1) (h2 : ∀ b, P b → w0.heap.size ≤ b ∧ (b < X ∨ Z ≤ b)) (h3 : Fr No w0 w) (hz : Z ≤ w.heap.size) : Osp X Z w0 w1 gs out ∧ Fr (fun k => k < X ∨ Z ≤ k) w w1 := by
  obtain ⟨P', T, ct, qs, h4, h5, h6⟩ := h1
  exact ⟨⟨P', T, ct, qs, h4, fun b hb => by
    rcases h5 b hb with e | e
    · exact h2 b e
    · exact ⟨Nat.le_trans h3.size e, .inr (Nat.le_trans hz e)⟩, h3.trans h6 (fun k e => .inr (h2 k e).1)⟩, h6.mono (fun k e => (h2 k e).2)⟩
theorem osp_insert (h : Osp X Z w0 w gs rows) (hz : Z ≤ w.heap.size) (hg : Gd rows) (z : Int) {x : Nat} (hx : x < 4294967296) : Calls Try.prog 21 #[.pointer (some ⟨gs, 0, none⟩), .int .i64 z, .int .u32 (x : Int)] w fun en w' => en = .returned (.tuple #[.int .i64 ((insI rows z x : Nat) : Int), .int .i64 ((insE rows z x : Nat) : Int)]) ∧ Osp X Z w0 w' gs (insL rows z x) ∧ Fr (fun k => k < X ∨ Z ≤ k) w w' := by
  obtain ⟨P, T, ct, qs, h1, h2, h3⟩ := h
  refine (insert_any h1 hg z hx).mono ?_
  rintro en w' ⟨rfl, hp⟩
  exact ⟨rfl, Osp.post hp h2 h3 hz⟩
theorem osp_remove (h : Osp X Z w0 w gs rows) (hz : Z ≤ w.heap.size) (hg : Gd rows) (z y : Int) : Calls Try.prog 22 #[.pointer (some ⟨gs, 0, none⟩), .int .i64 z, .int .i64 y] w fun en w' => en = .returned (.int .i64 ((remE rows z y : Nat) : Int)) ∧ Osp X Z w0 w' gs (remL rows z y) ∧ Fr (fun k => k < X ∨ Z ≤ k) w w' := by
  obtain ⟨P, T, ct, qs, h1, h2, h3⟩ := h
  refine (remove_any h1 hg z y).mono ?_
  rintro en w' ⟨rfl, hp⟩
  exact ⟨rfl, Osp.post hp h2 h3 hz⟩
/-- What stands from X on and below Z stays. -/
theorem Kv.win {A : Option Addr} {n c : Nat} {ks : List Nat} (h : Kv w A n c ks) (f : Fr (fun k => k < X ∨ Z ≤ k) w w1) (hx : ∀ b off, A = some ⟨b, off, none⟩ → X ≤ b) (hz : ∀ b off, A = some ⟨b, off, none⟩ → b < Z) : Kv w1 A n c ks := h.fr f (fun b off e q => by
  have h1 := hx b off e
  have h2 := hz b off e
  rcases q with q | q <;> omega)
theorem Iv.win {A : Option Addr} {n c : Nat} {xs : List Int} (h : Iv w A n c xs) (f : Fr (fun k => k < X ∨ Z ≤ k) w w1) (hx : ∀ b off, A = some ⟨b, off, none⟩ → X ≤ b) (hz : ∀ b off, A = some ⟨b, off, none⟩ → b < Z) : Iv w1 A n c xs := h.fr f (fun b off e q => by
  have h1 := hx b off e
  have h2 := hz b off e
  rcases q with q | q <;> omega)
theorem Kv.blt {A : Option Addr} {n c : Nat} {ks : List Nat} (h : Kv w A n c ks) (hn : 0 < ks.length) : ∀ b off, A = some ⟨b, off, none⟩ → b < w.heap.size := fun b off e => by
  obtain ⟨b', off', rfl, c0⟩ := h.get 0 hn
  have := World.block_lt_of_cell? w _ c0
  injection e with e
  injection e with e1 e2
  simp only at this
  omega
theorem Iv.blt {A : Option Addr} {n c : Nat} {xs : List Int} (h : Iv w A n c xs) (hn : 0 < xs.length) : ∀ b off, A = some ⟨b, off, none⟩ → b < w.heap.size := fun b off e => by
  obtain ⟨b', off', rfl, c0⟩ := h.get 0 hn
  have := World.block_lt_of_cell? w _ c0
  injection e with e
  injection e with e1 e2
  simp only at this
  omega
end
end Go.Proofs.Ytifpigcgkpmheaa.St12
