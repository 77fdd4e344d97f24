/- Layer 12: what bytes say; a number behind a row. -/
import Derived.Test.YtifpigcgkpmheaaSq12
import Derived.StillTailTactics
namespace Go.Proofs.Ytifpigcgkpmheaa.Sr12
open Go.RowKit Go.Proofs.Ytifpigcgkpmheaa.Pk08 Go.Proofs.Ytifpigcgkpmheaa.Base Go.Proofs.Ytifpigcgkpmheaa.App Go.Proofs.Ytifpigcgkpmheaa.Str Go.Proofs.Ytifpigcgkpmheaa.Ky Go.Proofs.Ytifpigcgkpmheaa.Iv Go.Proofs.Ytifpigcgkpmheaa.Bx Go.Proofs.Ytifpigcgkpmheaa.Bo Go.Proofs.Ytifpigcgkpmheaa.As Go.Proofs.Ytifpigcgkpmheaa.Ro Go.Proofs.Ytifpigcgkpmheaa.Pl08 Go.Proofs.Ytifpigcgkpmheaa.Kc08 Go.Proofs.Ytifpigcgkpmheaa.Ki08 Go.Proofs.Ytifpigcgkpmheaa.Ic Go.Proofs.Ytifpigcgkpmheaa.Fa Go.Proofs.Ytifpigcgkpmheaa.Sa12 Go.Proofs.Ytifpigcgkpmheaa.Sb12 Go.Proofs.Ytifpigcgkpmheaa.Sc12 Go.Proofs.Ytifpigcgkpmheaa.Sd12 Go.Proofs.Ytifpigcgkpmheaa.Sf12 Go.Proofs.Ytifpigcgkpmheaa.Sg12 Go.Proofs.Ytifpigcgkpmheaa.Sp12 Go.Proofs.Ytifpigcgkpmheaa.Sq12
set_option linter.unusedVariables false
set_option linter.unusedSimpArgs false
/-! ### the plain law -/
/-- Numbers of four bytes. -/
def bnds (t : List Nat) (a n : Nat) : List Nat := (List.range n).map (fun j => numk t (a + 4 * j) 4)
theorem bnds_len (t : List Nat) (a n : Nat) : (bnds t a n).length = n := by simp [bnds]
theorem bnds_succ (t : List Nat) (a n : Nat) : bnds t a (n + 1) = bnds t a n ++ [numk t (a + 4 * n) 4] := by simp [bnds, List.range_succ]
theorem numk4_lt {t : List Nat} (h : ∀ i, t.getD i 0 < 256) (a : Nat) : numk t a 4 < 4294967296 := by
  have h0 := h (a + 0)
  have h1 := h (a + 1)
  have h2 := h (a + 2)
  have h3 := h (a + 3)
  simp only [numk]
  omega
theorem bnds_lt {t : List Nat} (h : ∀ i, t.getD i 0 < 256) (a n : Nat) : ∀ x ∈ bnds t a n, x < 4294967296 := by
  intro x hx
  obtain ⟨j, _, rfl⟩ := List.mem_map.1 hx
  exact numk4_lt h _
/-- A row of bytes, from a place on. -/
def rd1 (t : List Nat) (a : Nat) : Option (List Nat × Nat) :=
  if a < t.length ∧ a + 1 + 4 * t.getD a 0 ≤ t.length then some (bnds t (a + 1) (t.getD a 0), a + 1 + 4 * t.getD a 0) else none
/-- The first rows of bytes, and where they end. -/
def rds (t : List Nat) : Nat → Option (List (List Nat) × Nat)
  | 0 => some ([], 0)
  | k + 1 => match rds t k with
    | none => none
    | some (rs, a) => match rd1 t a with
      | none => none
      | some (r, b) => some (rs ++ [r], b)
theorem rds_len {t : List Nat} : ∀ {k : Nat} {rs : List (List Nat)} {a : Nat}, rds t k = some (rs, a) → rs.length = k
  | 0, rs, a, h => by injection h with h; injection h with h1 h2; subst h1; rfl
  | k + 1, rs, a, h => by
    unfold rds at h
    split at h
    · cases h
    · rename_i rs1 a1 e1
      split at h
      · cases h
      · rename_i r b e2
        injection h with h; injection h with h1 h2
        subst h1
        rw [List.length_append, rds_len e1]; rfl
theorem rds_none {t : List Nat} {i : Nat} (h : rds t i = none) : ∀ n, rds t (i + n) = none
  | 0 => h
  | n + 1 => by
    show rds t (i + n + 1) = none
    unfold rds
    rw [rds_none h n]
theorem rds_cut {t : List Nat} {i a d : Nat} {rs : List (List Nat)} (h : rds t i = some (rs, a)) (h1 : rd1 t a = none) (hid : i < d) : rds t d = none := by
  have h2 : rds t (i + 1) = none := by unfold rds; rw [h]; simp only [h1]
  have := rds_none h2 (d - (i + 1))
  rw [show i + 1 + (d - (i + 1)) = d by omega] at this
  exact this
theorem rds_next {t : List Nat} {i a b : Nat} {rs : List (List Nat)} {r : List Nat} (h : rds t i = some (rs, a)) (h1 : rd1 t a = some (r, b)) : rds t (i + 1) = some (rs ++ [r], b) := by
  unfold rds; rw [h]; simp only [h1]
theorem rds_mem {t : List Nat} (hb : ∀ i, t.getD i 0 < 256) : ∀ {k : Nat} {rs : List (List Nat)} {a : Nat}, rds t k = some (rs, a) → ∀ r ∈ rs, ∀ x ∈ r, x < 4294967296
  | 0, rs, a, h => by injection h with h; injection h with h1 h2; subst h1; intro r hr; simp at hr
  | k + 1, rs, a, h => by
    unfold rds at h
    split at h
    · cases h
    · rename_i rs1 a1 e1
      split at h
      · cases h
      · rename_i r b e2
        injection h with h; injection h with h1 h2
        subst h1
        intro r' hr'
        rcases List.mem_append.1 hr' with e | e
        · exact rds_mem hb e1 r' e
        · rw [List.mem_singleton.1 e]
          unfold rd1 at e2
          split at e2
          · injection e2 with e2; injection e2 with e3 e4
            subst e3
            exact bnds_lt hb _ _
          · cases e2
/-- How bytes are answered; the rows that they say. -/
def decE (d : Int) (t : List Nat) : Nat :=
  if 1 ≤ d ∧ d ≤ 6 then match rds t d.toNat with
    | none => 9
    | some (rs, a) => if a = t.length ∧ allMay rs then 0 else 6
  else 1
def decR (d : Int) (t : List Nat) : List (List Nat) := match rds t d.toNat with
  | none => []
  | some (rs, _) => rs
theorem decE_out {d : Int} (h : ¬ (1 ≤ d ∧ d ≤ 6)) (t : List Nat) : decE d t = 1 := by unfold decE; rw [if_neg h]
theorem decE_none {d : Nat} (h : 1 ≤ d ∧ d ≤ 6) {t : List Nat} (e : rds t d = none) : decE (d : Int) t = 9 := by
  unfold decE; rw [if_pos (by omega), Int.toNat_natCast, e]
theorem decE_some {d : Nat} (h : 1 ≤ d ∧ d ≤ 6) {t : List Nat} {rs : List (List Nat)} {a : Nat} (e : rds t d = some (rs, a)) : decE (d : Int) t = if a = t.length ∧ allMay rs then 0 else 6 := by
  unfold decE; rw [if_pos (by omega), Int.toNat_natCast, e]
theorem decR_some {d : Nat} {t : List Nat} {rs : List (List Nat)} {a : Nat} (e : rds t d = some (rs, a)) : decR (d : Int) t = rs := by
  unfold decR; rw [Int.toNat_natCast, e]
/-- The rows while the one at i is read. -/
def cur (rs : List (List Nat)) (d : Nat) (r : List Nat) : List (List Nat) := rs ++ r :: List.replicate (d - (rs.length + 1)) []
theorem cur_len {rs : List (List Nat)} {d : Nat} (r : List Nat) (h : rs.length < d) : (cur rs d r).length = d := by simp [cur]; omega
theorem cur_get (rs : List (List Nat)) (d : Nat) (r : List Nat) : (cur rs d r).getD rs.length [] = r := by simp [cur, List.getD_eq_getElem?_getD]
theorem cur_set (rs : List (List Nat)) (d : Nat) (r r' : List Nat) : (cur rs d r).set rs.length r' = cur rs d r' := by simp [cur]
theorem cur_start {rs : List (List Nat)} {d : Nat} (h : rs.length < d) : rs ++ List.replicate (d - rs.length) [] = cur rs d [] := by
  unfold cur; rw [show d - rs.length = (d - (rs.length + 1)) + 1 by omega, List.replicate_succ]
theorem cur_end (rs : List (List Nat)) (d : Nat) (r : List Nat) : cur rs d r = (rs ++ [r]) ++ List.replicate (d - (rs ++ [r]).length) [] := by simp [cur]
/-! ### memory -/
section
variable {tS tE tR : TypeId} {P P1 S : Nat → Prop} {w w1 w2 : World} {gs gt ct : Nat} {T : Option Addr} {qs : List Rw} {rows out out2 : List (List Nat)} {y : Nat}
theorem cel_fr {p : Addr} {v : Value} (h : w.cell? p = some v) (f : Fr S w w1) (hn : ¬ S p.block) : w1.cell? p = some v := by
  rw [World.cell?_of_block (w := w) (f.block _ (World.block_lt_of_cell? w _ h) hn)]
  exact h
theorem ScPost.tr (hw : Fr P w w1) (hP : ∀ b, P1 b → P b ∨ w.heap.size ≤ b) (h2 : ScPost tS tE P1 w1 gs out w2) : ScPost tS tE P w gs out w2 := by
  obtain ⟨P', T, ct, qs, h1, h3, h4⟩ := h2
  exact ⟨P', T, ct, qs, h1, fun b hb => by
    rcases h3 b hb with e | e
    · exact hP b e
    · exact .inr (Nat.le_trans hw.size e), hw.trans h4 hP⟩
theorem row_push (ht : Try.prog.underlying tR = some (.slice 47)) (h : Sc tS tE P w gs T ct qs rows) {i : Nat} (hi : i < rows.length) (hT : T = some ⟨gt, 0, none⟩) (hy : y < 4294967296) {n : Nat} (hn : (rows.getD i []).length = n) (hl : n ≤ 1000) :
    ∃ A1 c1 w1, (appSem #[tR, tR] tR #[.slice (qs.getD i q0).1 n (qs.getD i q0).2, .slice (some ⟨w.heap.size, 0, none⟩) 1 1]).run Try.prog ((w.alloc (.cells #[.int .u32 (y : Int)] 47)).drew) = .ok (.slice A1 (n + 1) c1) w1 ∧ w1.cell? ⟨gs, 0, none⟩ = some (.slice T rows.length ct) ∧ w1.frozen? ⟨gt, i, none⟩ = false ∧ w1.cell? ⟨gt, i, none⟩ = some (.slice (qs.getD i q0).1 n (qs.getD i q0).2) ∧ ScPost tS tE P w gs (rows.set i (rows.getD i [] ++ [y])) (w1.setCell ⟨gt, i, none⟩ (.slice A1 (n + 1) c1)) := by
  subst hn
  have h' := h.no ((Fr.refl No w).drew)
  obtain ⟨A1, c1, w1, hrun, hown, _, hat, hf⟩ := push_one (t := tR) ht info_u32 rfl (by decide) (by decide) (wr := w.drew) (show w.drew.ownsRow 0 47 1 (.slice (qs.getD i q0).1 (rows.getD i []).length (qs.getD i q0).2) (rows.getD i []).length (u32s (rows.getD i [])) from h'.row i hi) (Nat.zero_le _) (.int .u32 (y : Int)) rfl (by omega)
  have hfw : Fr (fun k => vbk (rv (qs.getD i q0) (rows.getD i [])) = some k) w w1 := (Fr.refl _ w).drew.tr hf
  obtain ⟨k1, k2, k3⟩ := Sc.kept h hi hT hfw
  have hln : (rows.getD i [] ++ [y]).length = (rows.getD i []).length + 1 := by simp
  have hu : u32s (rows.getD i []) ++ [Value.int .u32 (y : Int)] = u32s (rows.getD i [] ++ [y]) := by simp [u32s]
  rw [hu, ← hln] at hown
  have hlt : ∀ x ∈ rows.getD i [] ++ [y], x < 4294967296 := fun x hx => by
    rcases List.mem_append.1 hx with e | e
    · exact rowD_lt h.lt i x e
    · rw [List.mem_singleton.1 e]; exact hy
  have hp := ScPost.set h hi hT (q := (A1, c1)) (r := rows.getD i [] ++ [y]) hfw (by unfold rv; exact hown) (fun k hk => by
    unfold rv at hk; rw [hln] at hk; exact hat k hk) hlt
  unfold rv at hp
  rw [hln] at hp
  exact ⟨A1, c1, w1, hrun, k1, k3, k2, hp⟩
end
end Go.Proofs.Ytifpigcgkpmheaa.Sr12
