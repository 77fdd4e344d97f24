/- Several parts in one text: each begins with its own sentence. -/
import Derived.Test.YteckbcfigklkpaaGa
import Derived.Test.YteckbcfigklkpaaGb
import Derived.ArgAppend
/- Slices of records that are read: a point and its data each. No program in sight. -/
namespace Go.Proofs.Yteckbcfigklkpaa.Rv
open Go.RowKit Go.Proofs.Yteckbcfigklkpaa.Base Go.Proofs.Yteckbcfigklkpaa.App Go.Proofs.Yteckbcfigklkpaa.Ty Go.Proofs.Yteckbcfigklkpaa.Ky
set_option linter.unusedVariables false
/-- A record: its point, its data. -/
abbrev Rec := List Nat × ByteArray
def rec0 : Rec := ([], ByteArray.empty)
abbrev recT (E : TypeId) : Ty := .cn (.sl E (.int .u32)) (.cn .str .nl)
/-- One record's two cells. -/
def R1 (w : World) (u v : Value) (r : Rec) : Prop := ∃ KA kc, u = .slice KA r.1.length kc ∧ v = .string r.2 ∧ Kv w KA r.1.length kc r.1 ∧ r.2.size ≤ maxLen
/-- A slice of records that is read. -/
structure Rv (w : World) (A : Option Addr) (n c : Nat) (rs : List Rec) : Prop where
  len : n = rs.length
  cap : n ≤ c
  most : c ≤ maxLen
  at_ : 0 < rs.length → ∃ b off, A = some ⟨b, off, none⟩ ∧ ∀ i, i < rs.length → ∃ KA kc, w.cell? ⟨b, off + i * 2, none⟩ = some (.slice KA (rs.getD i rec0).1.length kc) ∧ w.cell? ⟨b, off + i * 2 + 1, none⟩ = some (.string (rs.getD i rec0).2) ∧ Kv w KA (rs.getD i rec0).1.length kc (rs.getD i rec0).1 ∧ (rs.getD i rec0).2.size ≤ maxLen
section
variable {w w1 : World} {A : Option Addr} {n c : Nat} {rs : List Rec}
theorem Rv.no (h : Rv w A n c rs) (f : Fr No w w1) : Rv w1 A n c rs := by
  refine ⟨h.len, h.cap, h.most, fun h0 => ?_⟩
  obtain ⟨b, off, h1, h2⟩ := h.at_ h0
  refine ⟨b, off, h1, fun i hi => ?_⟩
  obtain ⟨KA, kc, h3, h4, h5, h6⟩ := h2 i hi
  have hb := World.block_lt_of_cell? w _ h3
  refine ⟨KA, kc, ?_, ?_, h5.no f, h6⟩
  · rw [World.cell?_of_block (w := w) (f.block _ hb (fun x => x))]; exact h3
  · rw [World.cell?_of_block (w := w) (a := ⟨b, off + i * 2 + 1, none⟩) (f.block _ hb (fun x => x))]; exact h4
theorem Rv.alloc (h : Rv w A n c rs) (o : Obj) : Rv (w.alloc o) A n c rs := h.no ((Fr.refl No w).alloc o)
theorem Rv.drew (h : Rv w A n c rs) : Rv w.drew A n c rs := h.no (Fr.refl No w).drew
theorem Rv.drewN (h : Rv w A n c rs) (k : Nat) : Rv (w.drewN k) A n c rs := h.no ((Fr.refl No w).drewN k)
theorem Rv.none_ (w : World) : Rv w none 0 0 [] := ⟨rfl, Nat.le_refl _, Nat.zero_le _, fun h => by simp at h⟩
theorem Rv.get (h : Rv w A n c rs) (i : Nat) (hi : i < rs.length) : ∃ b off KA kc, A = some ⟨b, off, none⟩ ∧ w.cell? ⟨b, off + i * 2, none⟩ = some (.slice KA (rs.getD i rec0).1.length kc) ∧ w.cell? ⟨b, off + i * 2 + 1, none⟩ = some (.string (rs.getD i rec0).2) ∧ Kv w KA (rs.getD i rec0).1.length kc (rs.getD i rec0).1 ∧ (rs.getD i rec0).2.size ≤ maxLen := by
  obtain ⟨b, off, h1, h2⟩ := h.at_ (by omega)
  obtain ⟨KA, kc, h3⟩ := h2 i hi
  exact ⟨b, off, KA, kc, h1, h3⟩
theorem Rv.len_le (h : Rv w A n c rs) : n ≤ 9223372036854775807 := by
  have h1 := h.cap
  have h2 := h.most
  have h3 : maxLen ≤ 9223372036854775807 := by decide
  omega
/-- An argument that is a record. -/
theorem rd_rec {E : TypeId} {x : (recT E).D} {cs : List Value} (h : Rd (recT E) w x cs) : ∃ KA n kc ks s, cs = [.slice KA n kc, .string s] ∧ Kv w KA n kc ks ∧ s.size ≤ maxLen := by
  obtain ⟨c1, c2, rfl, h1, c3, c4, rfl, h2, h3⟩ := h
  have h3' : c4 = [] := h3
  subst h3'
  have h1' := h1
  obtain ⟨A, c, rfl, _⟩ := h1'
  obtain ⟨rfl, hs⟩ := h2
  exact ⟨A, _, c, _, _, rfl, Kv.of_rd h1, hs⟩
/-- An argument's slice of records. -/
theorem Rv.of_rd {e E : TypeId} {xs : List (recT E).D} (h : Rd (.sl e (recT E)) w xs [.slice A n c]) : ∃ rs, Rv w A n c rs := by
  obtain ⟨h1, h2, h3, h4⟩ := h.slice
  have hx : ∀ i, i < xs.length → ∃ r : Rec, ∀ b off, A = some ⟨b, off, none⟩ → ∃ KA kc, w.cell? ⟨b, off + i * 2, none⟩ = some (.slice KA r.1.length kc) ∧ w.cell? ⟨b, off + i * 2 + 1, none⟩ = some (.string r.2) ∧ Kv w KA r.1.length kc r.1 ∧ r.2.size ≤ maxLen := by
    intro i hi
    obtain ⟨b, off, h5, h6⟩ := h.addr (by omega) (by simp [Ty.sz])
    obtain ⟨ecs, h7, h8, h9⟩ := h6 i hi
    obtain ⟨KA, kn, kc, ks, s, rfl, hk, hs⟩ := rd_rec h8
    refine ⟨(ks, s), fun b' off' e' => ?_⟩
    rw [h5] at e'
    injection e' with e'
    injection e' with e1 e2
    subst e1; subst e2
    have h10 := h9 0 _ rfl
    have h11 := h9 1 _ rfl
    have hl := hk.len
    subst hl
    exact ⟨KA, kc, h10, h11, hk, hs⟩
  obtain ⟨rs, hl, hq⟩ := list_of xs.length hx
  refine ⟨rs, by rw [hl]; exact h1, h2, h3, fun h0 => ?_⟩
  obtain ⟨b, off, h5, _⟩ := h.addr (by omega) (by simp [Ty.sz])
  refine ⟨b, off, h5, fun i hi => ?_⟩
  have e : rs.getD i rec0 = rs[i] := by simp [List.getD_eq_getElem?_getD, hi]
  rw [e]
  exact hq i hi b off h5
end
end Go.Proofs.Yteckbcfigklkpaa.Rv
/- Plain facts on records: their order, where one is, put, cut, sorted. No program in sight. -/
namespace Go.Proofs.Yteckbcfigklkpaa.Rp
open Go.Proofs.Yteckbcfigklkpaa.Pk08 Go.Proofs.Yteckbcfigklkpaa.Pl08
set_option linter.unusedVariables false
set_option linter.unusedSimpArgs false
/-- A record: its point, its data. -/
abbrev Rec := List Nat × ByteArray
def lt (x y : Rec) : Prop := cmp x.1 y.1 < 0
instance (x y : Rec) : Decidable (lt x y) := inferInstanceAs (Decidable (_ < _))
def Strict (l : List Rec) : Prop := l.Pairwise lt
theorem cmp_lt_trans {a b c : List Nat} (h1 : cmp a b < 0) (h2 : cmp b c < 0) : cmp a c < 0 := by
  have h := cmp_le_trans a b c (by omega) (by omega)
  rcases Int.lt_or_eq_of_le h with h3 | h3
  · exact h3
  · have e := (cmp_zero a c).1 h3
    subst e
    have := cmp_swap a b
    omega
theorem cmp_lt_le {a b c : List Nat} (h1 : cmp a b < 0) (h2 : cmp b c ≤ 0) : cmp a c < 0 := by
  have h := cmp_le_trans a b c (by omega) h2
  rcases Int.lt_or_eq_of_le h with h3 | h3
  · exact h3
  · have e := (cmp_zero a c).1 h3
    subst e
    have := cmp_swap a b
    omega
theorem cmp_le_lt {a b c : List Nat} (h1 : cmp a b ≤ 0) (h2 : cmp b c < 0) : cmp a c < 0 := by
  have h := cmp_le_trans a b c h1 (by omega)
  rcases Int.lt_or_eq_of_le h with h3 | h3
  · exact h3
  · have e := (cmp_zero a c).1 h3
    subst e
    have := cmp_swap a b
    omega
theorem lt_trans {x y z : Rec} (h1 : lt x y) (h2 : lt y z) : lt x z := cmp_lt_trans h1 h2
/-- How many records stand ahead of a point. -/
def fpos : List Rec → List Nat → Nat
  | [], _ => 0
  | x :: xs, k => if cmp x.1 k < 0 then fpos xs k + 1 else 0
/-- Is a record of the point there? -/
def fis (l : List Rec) (k : List Nat) : Bool := match l[fpos l k]? with
  | some r => decide (r.1 = k)
  | none => false
theorem fpos_le (l : List Rec) (k : List Nat) : fpos l k ≤ l.length := by
  induction l with
  | nil => simp [fpos]
  | cons x xs ih => simp only [fpos]; split <;> simp <;> omega
theorem fpos_before (l : List Rec) (k : List Nat) : ∀ i (h : i < l.length), i < fpos l k → cmp l[i].1 k < 0 := by
  induction l with
  | nil => intro i h; simp at h
  | cons x xs ih =>
    intro i h hi
    simp only [fpos] at hi
    by_cases e : cmp x.1 k < 0
    · rw [if_pos e] at hi
      cases i with
      | zero => exact e
      | succ i => exact ih i (by simpa using h) (by omega)
    · rw [if_neg e] at hi; omega
theorem fpos_at (l : List Rec) (k : List Nat) (h : fpos l k < l.length) : ¬ cmp l[fpos l k].1 k < 0 := by
  induction l with
  | nil => simp at h
  | cons x xs ih =>
    by_cases e : cmp x.1 k < 0
    · have e2 : fpos (x :: xs) k = fpos xs k + 1 := by simp only [fpos]; rw [if_pos e]
      have h2 : fpos xs k < xs.length := by rw [e2] at h; simpa using h
      have := ih h2
      intro hc
      apply this
      simpa [e2] using hc
    · have e2 : fpos (x :: xs) k = 0 := by simp only [fpos]; rw [if_neg e]
      intro hc
      apply e
      simpa [e2] using hc
theorem fpos_after (l : List Rec) (k : List Nat) (hs : Strict l) : ∀ i (h : i < l.length), fpos l k < i → 0 < cmp l[i].1 k := by
  intro i h hi
  have h1 : fpos l k < l.length := by omega
  have h2 := fpos_at l k h1
  have h3 : lt l[fpos l k] l[i] := List.pairwise_iff_getElem.1 hs _ _ h1 h hi
  have h4 : cmp k l[fpos l k].1 ≤ 0 := by have := cmp_swap l[fpos l k].1 k; omega
  have h5 := cmp_le_lt h4 h3
  have := cmp_swap k l[i].1
  omega
/-- The place is the only one that parts a list that rises. -/
theorem fpos_unique (l : List Rec) (k : List Nat) (n : Nat) (hn : n ≤ l.length) (h1 : ∀ i (h : i < l.length), i < n → cmp l[i].1 k < 0) (h2 : ∀ h : n < l.length, ¬ cmp l[n].1 k < 0) : fpos l k = n := by
  rcases Nat.lt_trichotomy (fpos l k) n with h | h | h
  · exact absurd (h1 (fpos l k) (by omega) h) (fpos_at l k (by omega))
  · exact h
  · have := fpos_le l k
    exact absurd (fpos_before l k n (by omega) h) (h2 (by omega))
theorem fis_iff (l : List Rec) (k : List Nat) : fis l k = true ↔ ∃ h : fpos l k < l.length, l[fpos l k].1 = k := by
  unfold fis
  by_cases h : fpos l k < l.length
  · rw [List.getElem?_eq_getElem h]; simp [h]
  · rw [List.getElem?_eq_none (by omega)]; simp [h]
/-- A record put in; one taken out. -/
def put (l : List Rec) (r : Rec) : List Rec := l.take (fpos l r.1) ++ r :: l.drop (if fis l r.1 = true then fpos l r.1 + 1 else fpos l r.1)
def cut (l : List Rec) (k : List Nat) : List Rec := if fis l k = true then l.take (fpos l k) ++ l.drop (fpos l k + 1) else l
theorem strict_nil : Strict [] := List.Pairwise.nil
theorem strict_app {a b : List Rec} (ha : Strict a) (hb : Strict b) (h : ∀ x ∈ a, ∀ y ∈ b, lt x y) : Strict (a ++ b) := List.pairwise_append.2 ⟨ha, hb, h⟩
theorem strict_take {l : List Rec} (h : Strict l) (n : Nat) : Strict (l.take n) := List.Pairwise.sublist (List.take_sublist n l) h
theorem strict_drop {l : List Rec} (h : Strict l) (n : Nat) : Strict (l.drop n) := List.Pairwise.sublist (List.drop_sublist n l) h
theorem take_lt {l : List Rec} {k : List Nat} : ∀ x ∈ l.take (fpos l k), cmp x.1 k < 0 := by
  intro x hx
  obtain ⟨i, hi, rfl⟩ := List.mem_iff_getElem.1 hx
  rw [List.getElem_take]
  rw [List.length_take] at hi
  exact fpos_before l k i (by omega) (by omega)
theorem drop_gt {l : List Rec} {k : List Nat} (hs : Strict l) : ∀ x ∈ l.drop (if fis l k = true then fpos l k + 1 else fpos l k), 0 < cmp x.1 k := by
  intro x hx
  obtain ⟨i, hi, rfl⟩ := List.mem_iff_getElem.1 hx
  rw [List.getElem_drop]
  rw [List.length_drop] at hi
  by_cases h : fis l k = true
  · simp only [if_pos h] at hi ⊢
    exact fpos_after l k hs _ (by omega) (by omega)
  · simp only [if_neg h] at hi ⊢
    rcases Nat.eq_zero_or_pos i with e | e
    · subst e
      have h1 : fpos l k < l.length := by omega
      have h2 := fpos_at l k h1
      have h3 : ¬ cmp l[fpos l k].1 k = 0 := fun e => h ((fis_iff l k).2 ⟨h1, (cmp_zero _ _).1 e⟩)
      simp only [Nat.add_zero]
      omega
    · exact fpos_after l k hs _ (by omega) (by omega)
theorem put_strict {l : List Rec} {r : Rec} (hs : Strict l) : Strict (put l r) := by
  unfold put
  refine strict_app (strict_take hs _) ?_ ?_
  · refine List.pairwise_cons.2 ⟨fun y hy => ?_, strict_drop hs _⟩
    have := drop_gt hs y hy
    have := cmp_swap y.1 r.1
    show cmp r.1 y.1 < 0
    omega
  · intro x hx y hy
    have h1 := take_lt x hx
    rcases List.mem_cons.1 hy with rfl | hy
    · exact h1
    · have h2 := drop_gt hs y hy
      have h3 := cmp_swap y.1 r.1
      exact cmp_lt_trans h1 (show cmp r.1 y.1 < 0 by omega)
theorem cut_strict {l : List Rec} {k : List Nat} (hs : Strict l) : Strict (cut l k) := by
  unfold cut
  by_cases h : fis l k = true
  · rw [if_pos h]
    refine strict_app (strict_take hs _) (strict_drop hs _) ?_
    intro x hx y hy
    have h1 := take_lt x hx
    have h2 := drop_gt (k := k) hs y (by rw [if_pos h]; exact hy)
    have h3 := cmp_swap y.1 k
    exact cmp_lt_trans h1 (show cmp k y.1 < 0 by omega)
  · rw [if_neg h]; exact hs
theorem mem_fis {l : List Rec} {k : List Nat} (hs : Strict l) : (∃ r ∈ l, r.1 = k) ↔ fis l k = true := by
  constructor
  · rintro ⟨r, hr, rfl⟩
    obtain ⟨i, hi, rfl⟩ := List.mem_iff_getElem.1 hr
    have h0 : cmp l[i].1 l[i].1 = 0 := cmp_self _
    have e : fpos l l[i].1 = i := by
      rcases Nat.lt_trichotomy (fpos l l[i].1) i with h | h | h
      · have := fpos_after l l[i].1 hs i hi h; omega
      · exact h
      · have := fpos_before l l[i].1 i hi h; omega
    refine (fis_iff l l[i].1).2 ⟨by omega, ?_⟩
    simp [e]
  · intro h
    obtain ⟨h1, h2⟩ := (fis_iff l k).1 h
    exact ⟨_, List.getElem_mem h1, h2⟩
/-- Lists that rise with the same records are the same. -/
theorem strict_ext : ∀ {a b : List Rec}, Strict a → Strict b → (∀ x, x ∈ a ↔ x ∈ b) → a = b
  | [], [], _, _, _ => rfl
  | [], y :: ys, _, _, h => absurd ((h y).2 List.mem_cons_self) (by simp)
  | x :: xs, [], _, _, h => absurd ((h x).1 List.mem_cons_self) (by simp)
  | x :: xs, y :: ys, ha, hb, h => by
    obtain ⟨a1, a2⟩ := List.pairwise_cons.1 ha
    obtain ⟨b1, b2⟩ := List.pairwise_cons.1 hb
    have irr : ∀ {u v : Rec}, lt u v → lt v u → False := fun {u v} h1 h2 => by
      have h1' : cmp u.1 v.1 < 0 := h1
      have h2' : cmp v.1 u.1 < 0 := h2
      have := cmp_swap u.1 v.1
      omega
    have e : x = y := by
      rcases List.mem_cons.1 ((h x).1 List.mem_cons_self) with e | e
      · exact e
      · rcases List.mem_cons.1 ((h y).2 List.mem_cons_self) with e2 | e2
        · exact e2.symm
        · exact (irr (a1 y e2) (b1 x e)).elim
    subst e
    congr 1
    refine strict_ext a2 b2 (fun z => ?_)
    have hz := h z
    constructor
    · intro hm
      rcases List.mem_cons.1 (hz.1 (List.mem_cons_of_mem _ hm)) with e | e
      · subst e; exact (irr (a1 z hm) (a1 z hm)).elim
      · exact e
    · intro hm
      rcases List.mem_cons.1 (hz.2 (List.mem_cons_of_mem _ hm)) with e | e
      · subst e; exact (irr (b1 z hm) (b1 z hm)).elim
      · exact e
theorem mem_put {l : List Rec} {r : Rec} (hs : Strict l) (x : Rec) : x ∈ put l r ↔ x = r ∨ (x ∈ l ∧ x.1 ≠ r.1) := by
  unfold put
  rw [List.mem_append, List.mem_cons]
  constructor
  · rintro (h | h | h)
    · right
      refine ⟨List.mem_of_mem_take h, fun e => ?_⟩
      have := take_lt x h
      rw [e, cmp_self] at this
      omega
    · exact .inl h
    · right
      refine ⟨List.mem_of_mem_drop h, fun e => ?_⟩
      have := drop_gt hs x h
      rw [e, cmp_self] at this
      omega
  · rintro (h | ⟨h, hne⟩)
    · exact .inr (.inl h)
    · obtain ⟨i, hi, rfl⟩ := List.mem_iff_getElem.1 h
      rcases Nat.lt_trichotomy i (fpos l r.1) with h1 | h1 | h1
      · left
        exact List.mem_iff_getElem.2 ⟨i, by rw [List.length_take]; omega, by rw [List.getElem_take]⟩
      · right; right
        by_cases hf : fis l r.1 = true
        · obtain ⟨_, h2⟩ := (fis_iff l r.1).1 hf
          subst h1
          exact absurd h2 hne
        · rw [if_neg hf]
          exact List.mem_iff_getElem.2 ⟨0, by rw [List.length_drop]; omega, by rw [List.getElem_drop]; congr 1; omega⟩
      · right; right
        by_cases hf : fis l r.1 = true
        · rw [if_pos hf]
          exact List.mem_iff_getElem.2 ⟨i - (fpos l r.1 + 1), by rw [List.length_drop]; omega, by rw [List.getElem_drop]; congr 1; omega⟩
        · rw [if_neg hf]
          exact List.mem_iff_getElem.2 ⟨i - fpos l r.1, by rw [List.length_drop]; omega, by rw [List.getElem_drop]; congr 1; omega⟩
theorem mem_cut {l : List Rec} {k : List Nat} (hs : Strict l) (x : Rec) : x ∈ cut l k ↔ x ∈ l ∧ x.1 ≠ k := by
  by_cases hf : fis l k = true
  · have hp := mem_put (r := (k, ByteArray.empty)) hs x
    unfold cut
    rw [if_pos hf, List.mem_append]
    constructor
    · rintro (h | h)
      · refine ⟨List.mem_of_mem_take h, fun e => ?_⟩
        have := take_lt x h
        rw [e, cmp_self] at this
        omega
      · refine ⟨List.mem_of_mem_drop h, fun e => ?_⟩
        have := drop_gt (k := k) hs x (by rw [if_pos hf]; exact h)
        rw [e, cmp_self] at this
        omega
    · rintro ⟨h, hne⟩
      obtain ⟨i, hi, rfl⟩ := List.mem_iff_getElem.1 h
      obtain ⟨_, h2⟩ := (fis_iff l k).1 hf
      rcases Nat.lt_trichotomy i (fpos l k) with h1 | h1 | h1
      · left
        exact List.mem_iff_getElem.2 ⟨i, by rw [List.length_take]; omega, by rw [List.getElem_take]⟩
      · subst h1
        exact absurd h2 hne
      · right
        exact List.mem_iff_getElem.2 ⟨i - (fpos l k + 1), by rw [List.length_drop]; omega, by rw [List.getElem_drop]; congr 1; omega⟩
  · unfold cut
    rw [if_neg hf]
    exact ⟨fun h => ⟨h, fun e => hf ((mem_fis hs).1 ⟨x, h, e⟩)⟩, fun h => h.1⟩
/-- Put in a list that rises, behind those that are not above it. -/
def ins (r : Rec) : List Rec → List Rec
  | [] => [r]
  | x :: xs => if 0 < cmp x.1 r.1 then r :: x :: xs else x :: ins r xs
def sorted (l : List Rec) : List Rec := l.foldl (fun out r => ins r out) []
theorem mem_ins (r x : Rec) (l : List Rec) : x ∈ ins r l ↔ x = r ∨ x ∈ l := by
  induction l with
  | nil => simp [ins]
  | cons y ys ih =>
    simp only [ins]
    split
    · simp
    · simp only [List.mem_cons, ih]
      constructor
      · rintro (h | h | h)
        · exact .inr (.inl h)
        · exact .inl h
        · exact .inr (.inr h)
      · rintro (h | h | h)
        · exact .inr (.inl h)
        · exact .inl h
        · exact .inr (.inr h)
theorem ins_strict {r : Rec} {l : List Rec} (hs : Strict l) (hn : ∀ x ∈ l, x.1 ≠ r.1) : Strict (ins r l) := by
  induction l with
  | nil => exact List.pairwise_singleton _ _
  | cons y ys ih =>
    obtain ⟨h1, h2⟩ := List.pairwise_cons.1 hs
    simp only [ins]
    split
    · next h =>
      have hry : lt r y := by have := cmp_swap y.1 r.1; show cmp r.1 y.1 < 0; omega
      exact List.pairwise_cons.2 ⟨fun z hz => by
        rcases List.mem_cons.1 hz with rfl | hz
        · exact hry
        · exact lt_trans hry (h1 z hz), hs⟩
    · next h =>
      refine List.pairwise_cons.2 ⟨fun z hz => ?_, ih h2 (fun x hx => hn x (List.mem_cons_of_mem _ hx))⟩
      rcases (mem_ins r z ys).1 hz with rfl | hz
      · have hne : ¬ cmp y.1 z.1 = 0 := fun e => hn y List.mem_cons_self ((cmp_zero _ _).1 e)
        show cmp y.1 z.1 < 0
        omega
      · exact h1 z hz
def Uniq (l : List Rec) : Prop := l.Pairwise (fun x y => x.1 ≠ y.1)
theorem sorted_snoc (l : List Rec) (r : Rec) : sorted (l ++ [r]) = ins r (sorted l) := by unfold sorted; rw [List.foldl_append]; rfl
theorem mem_sorted (x : Rec) (l : List Rec) : x ∈ sorted l ↔ x ∈ l := by
  suffices h : ∀ (l acc : List Rec), x ∈ l.foldl (fun out r => ins r out) acc ↔ x ∈ acc ∨ x ∈ l by
    have := h l []
    simpa [sorted] using this
  intro l
  induction l with
  | nil => intro acc; simp
  | cons y ys ih =>
    intro acc
    rw [List.foldl_cons, ih, mem_ins, List.mem_cons]
    constructor
    · rintro ((h | h) | h)
      · exact .inr (.inl h)
      · exact .inl h
      · exact .inr (.inr h)
    · rintro (h | h | h)
      · exact .inl (.inr h)
      · exact .inl (.inl h)
      · exact .inr h
theorem sorted_strict {l : List Rec} (hu : Uniq l) : Strict (sorted l) := by
  suffices h : ∀ (l acc : List Rec), Strict acc → Uniq l → (∀ x ∈ acc, ∀ y ∈ l, x.1 ≠ y.1) → Strict (l.foldl (fun out r => ins r out) acc) from h l [] strict_nil hu (by simp)
  intro l
  induction l with
  | nil => intro acc ha _ _; exact ha
  | cons y ys ih =>
    intro acc ha hu hd
    obtain ⟨h1, h2⟩ := List.pairwise_cons.1 hu
    rw [List.foldl_cons]
    refine ih _ (ins_strict ha (fun x hx => hd x hx y List.mem_cons_self)) h2 (fun x hx z hz => ?_)
    rcases (mem_ins y x acc).1 hx with rfl | hx
    · exact h1 z hz
    · exact hd x hx z (List.mem_cons_of_mem _ hz)
theorem strict_uniq {l : List Rec} (hs : Strict l) : Uniq l := hs.imp (fun {a b} h e => by
  have h' : cmp a.1 b.1 < 0 := h
  rw [e, cmp_self] at h'
  omega)
theorem sorted_of_strict {l : List Rec} (hs : Strict l) : sorted l = l := strict_ext (sorted_strict (strict_uniq hs)) hs (fun x => mem_sorted x l)
end Go.Proofs.Yteckbcfigklkpaa.Rp
/- Records: whether one may be; whether there are few. -/
namespace Go.Proofs.Yteckbcfigklkpaa.Ra
open Go.RowKit Go.Proofs.Yteckbcfigklkpaa.Pk08 Go.Proofs.Yteckbcfigklkpaa.Base Go.Proofs.Yteckbcfigklkpaa.App Go.Proofs.Yteckbcfigklkpaa.Ky Go.Proofs.Yteckbcfigklkpaa.Rv Go.Proofs.Yteckbcfigklkpaa.Kc08
set_option linter.unusedVariables false
set_option linter.unusedSimpArgs false
/-- May a record be, of a point of n coordinates and its data? -/
def recC (n : Nat) (s : ByteArray) (d : Int) : Int := if s.size ≤ 40 then chk n d else 1
theorem chk_rng (n : Nat) (d : Int) : chk n d = 0 ∨ chk n d = 1 := by unfold chk; split <;> simp
theorem recC_rng (n : Nat) (s : ByteArray) (d : Int) : recC n s d = 0 ∨ recC n s d = 1 := by
  unfold recC; split
  · exact chk_rng n d
  · exact .inr rfl
section
variable {w : World} {A : Option Addr} {n c : Nat} {s : ByteArray}
theorem acheck_any (d : Int) (hs : s.size ≤ maxLen) :
    Calls Try.prog 14 #[.agg #[.slice A n c, .string s], .int .i64 d] w fun e w' => e = .returned (.int .i64 (recC n s d)) ∧ Fr No w w' := by
  have hmx : maxLen ≤ 9223372036854775807 := by decide
  by_cases h : 40 < s.size
  · have e : recC n s d = 1 := by unfold recC; rw [if_neg (by omega)]
    rw [e]; clear e
    go_enter Try.func14, Try.ntmps14
    go_wp2
    go_ret
    refine ⟨rfl, ?_⟩
    (repeat (first | with_reducible exact Fr.refl _ _ | with_reducible refine Fr.setCell ?_ (.inr (by first | (simp; done) | (simp; omega))) _ | with_reducible refine Fr.alloc ?_ _ | with_reducible refine Fr.drew ?_ | with_reducible refine Fr.drewN ?_ _ | with_reducible refine Fr.tr ?_ (by assumption)))
  · have e : recC n s d = chk n d := by unfold recC; rw [if_pos (by omega)]
    rw [e]; clear e
    go_enter Try.func14, Try.ntmps14
    go_wp2_with (go_at_call 36; ((with_reducible refine (check_any _ _ _ _ _).mono ?_); rintro e w1 ⟨rfl, rfl⟩))
    go_ret
    refine ⟨rfl, ?_⟩
    (repeat (first | with_reducible exact Fr.refl _ _ | with_reducible refine Fr.setCell ?_ (.inr (by first | (simp; done) | (simp; omega))) _ | with_reducible refine Fr.alloc ?_ _ | with_reducible refine Fr.drew ?_ | with_reducible refine Fr.drewN ?_ _ | with_reducible refine Fr.tr ?_ (by assumption)))
theorem rrcheck_any (d : Int) (hs : s.size ≤ maxLen) :
    Calls Try.prog 15 #[.agg #[.slice A n c, .string s], .int .i64 d] w fun e w' => e = .returned (.int .i64 (recC n s d)) ∧ Fr No w w' := by
  have hmx : maxLen ≤ 9223372036854775807 := by decide
  rcases chk_rng n d with hk | hk
  · by_cases h : 40 < s.size
    · have e : recC n s d = 1 := by unfold recC; rw [if_neg (by omega)]
      rw [e]; clear e
      go_enter Try.func15, Try.ntmps15
      go_wp2_with (go_at_call 37; ((with_reducible refine (rcheck_any _ _ _ _ _).mono ?_); rintro e w1 ⟨rfl, rfl⟩; rw [hk]))
      go_ret
      refine ⟨rfl, ?_⟩
      (repeat (first | with_reducible exact Fr.refl _ _ | with_reducible refine Fr.setCell ?_ (.inr (by first | (simp; done) | (simp; omega))) _ | with_reducible refine Fr.alloc ?_ _ | with_reducible refine Fr.drew ?_ | with_reducible refine Fr.drewN ?_ _ | with_reducible refine Fr.tr ?_ (by assumption)))
    · have e : recC n s d = 0 := by unfold recC; rw [if_pos (by omega), hk]
      rw [e]; clear e
      go_enter Try.func15, Try.ntmps15
      go_wp2_with (go_at_call 37; ((with_reducible refine (rcheck_any _ _ _ _ _).mono ?_); rintro e w1 ⟨rfl, rfl⟩; rw [hk]))
      go_ret
      refine ⟨rfl, ?_⟩
      (repeat (first | with_reducible exact Fr.refl _ _ | with_reducible refine Fr.setCell ?_ (.inr (by first | (simp; done) | (simp; omega))) _ | with_reducible refine Fr.alloc ?_ _ | with_reducible refine Fr.drew ?_ | with_reducible refine Fr.drewN ?_ _ | with_reducible refine Fr.tr ?_ (by assumption)))
  · have e : recC n s d = 1 := by
      unfold recC; split
      · exact hk
      · rfl
    rw [e]; clear e
    go_enter Try.func15, Try.ntmps15
    go_wp2_with (go_at_call 37; ((with_reducible refine (rcheck_any _ _ _ _ _).mono ?_); rintro e w1 ⟨rfl, rfl⟩; rw [hk]))
    go_ret
    refine ⟨rfl, ?_⟩
    (repeat (first | with_reducible exact Fr.refl _ _ | with_reducible refine Fr.setCell ?_ (.inr (by first | (simp; done) | (simp; omega))) _ | with_reducible refine Fr.alloc ?_ _ | with_reducible refine Fr.drew ?_ | with_reducible refine Fr.drewN ?_ _ | with_reducible refine Fr.tr ?_ (by assumption)))
end
/-- Are there at most 60 records, of 20 coordinates, 100 bytes? -/
def fewB (rs : List Rec) : Bool := decide (rs.length ≤ 60) && rs.all (fun r => decide (r.1.length ≤ 20) && decide (r.2.size ≤ 100))
theorem fewB_iff {rs : List Rec} : fewB rs = true ↔ rs.length ≤ 60 ∧ ∀ i, i < rs.length → (rs.getD i rec0).1.length ≤ 20 ∧ (rs.getD i rec0).2.size ≤ 100 := by
  unfold fewB
  rw [Bool.and_eq_true, decide_eq_true_eq, List.all_eq_true]
  constructor
  · rintro ⟨h1, h2⟩
    refine ⟨h1, fun i hi => ?_⟩
    have e : rs.getD i rec0 = rs[i] := by simp [List.getD_eq_getElem?_getD, hi]
    have := h2 rs[i] (List.getElem_mem hi)
    rw [e]
    simpa using this
  · rintro ⟨h1, h2⟩
    refine ⟨h1, fun r hr => ?_⟩
    obtain ⟨i, hi, rfl⟩ := List.mem_iff_getElem.1 hr
    have e : rs.getD i rec0 = rs[i] := by simp [List.getD_eq_getElem?_getD, hi]
    have := h2 i hi
    rw [e] at this
    simpa using this
section
variable {w : World} {A : Option Addr} {n c : Nat} {rs : List Rec}
set_option maxHeartbeats 800000 in
theorem few_any (hr : Rv w A n c rs) :
    Calls Try.prog 28 #[.slice A n c] w fun e w' => e = .returned (.bool (fewB rs)) ∧ w = w' := by
  have hn := hr.len_le
  have hmx : maxLen ≤ 9223372036854775807 := by decide
  have Hr := Lib.hid hr
  clear hr
  by_cases h60 : 60 < n
  · have e : fewB rs = false := by
      cases h : fewB rs with
      | false => rfl
      | true => have := (fewB_iff.1 h).1; have := Hr.out.len; omega
    rw [e]; clear e
    go_enter Try.func28, Try.ntmps28
    go_wp2
    go_ret
    exact ⟨rfl, rfl⟩
  · go_enter Try.func28, Try.ntmps28
    go_wp2
    go_loop [3] (fun v => ∃ i : Nat, i ≤ n ∧ v = .int .i64 i ∧ Hid (∀ j, j < i → (rs.getD j rec0).1.length ≤ 20 ∧ (rs.getD j rec0).2.size ≤ 100)) (fun v => n - (intOf v).toNat)
    case atStart => exact ⟨0, Nat.zero_le _, rfl, Lib.hid (fun j hj => by omega)⟩
    case round =>
      obtain ⟨i, hi, rfl, Hi⟩ := hrel
      by_cases hlt : i < n
      · obtain ⟨b, off, KA, kc, rfl, c0, c1, hk, hs⟩ := Hr.out.get i (by rw [← Hr.out.len]; exact hlt)
        have hkl := hk.len_le
        have hno : ¬ ((rs.getD i rec0).1.length ≤ 20 ∧ (rs.getD i rec0).2.size ≤ 100) → fewB rs = false := fun hx => by
          cases h : fewB rs with
          | false => rfl
          | true => exact absurd ((fewB_iff.1 h).2 i (by rw [← Hr.out.len]; exact hlt)) hx
        have Hno := Lib.hid hno
        have hyes : (rs.getD i rec0).1.length ≤ 20 ∧ (rs.getD i rec0).2.size ≤ 100 → ∀ j, j < i + 1 → (rs.getD j rec0).1.length ≤ 20 ∧ (rs.getD j rec0).2.size ≤ 100 := fun hx j hj => by
          by_cases e : j = i
          · subst e; exact hx
          · exact Hi.out j (by omega)
        have Hyes := Lib.hid hyes
        clear hno hyes hk
        generalize hrr : rs.getD i rec0 = r at *
        clear hrr
        obtain ⟨ks, s⟩ := r
        simp only at *
        by_cases h1 : 20 < ks.length
        · go_wp2
          go_ret
          exact ⟨by rw [Hno.out (by omega)]; rfl, rfl⟩
        · by_cases h2 : 100 < s.size
          · go_wp2
            go_ret
            exact ⟨by rw [Hno.out (by omega)]; rfl, rfl⟩
          · go_wp2
            go_round
            case rel => exact ⟨i + 1, by omega, by go_num, Lib.hid (Hyes.out ⟨by omega, by omega⟩)⟩
            case measure => simp [intOf]; omega
      · obtain rfl : i = n := by omega
        have E := Lib.hid (show fewB rs = true from fewB_iff.2 ⟨by have := Hr.out.len; omega, fun j hj => Hi.out j (by have := Hr.out.len; omega)⟩)
        go_wp2
        go_ret
        exact ⟨by rw [E.out]; rfl, rfl⟩
end
end Go.Proofs.Yteckbcfigklkpaa.Ra
/- Lists of records that are built: rows of the call's own, their points anywhere. No program in sight. -/
namespace Go.Proofs.Yteckbcfigklkpaa.Ro
open Go.RowKit Go.Proofs.Yteckbcfigklkpaa.Base Go.Proofs.Yteckbcfigklkpaa.App Go.Proofs.Yteckbcfigklkpaa.Ty Go.Proofs.Yteckbcfigklkpaa.Ky Go.Proofs.Yteckbcfigklkpaa.Bx Go.Proofs.Yteckbcfigklkpaa.As Go.Proofs.Yteckbcfigklkpaa.Rv
set_option linter.unusedVariables false
/-- A record that stands somewhere: its point's address and capacity, and what it is. -/
abbrev Pr := Option Addr × Nat × Rec
def pr0 : Pr := (none, 0, rec0)
def rcells (ps : List Pr) : List Value := ps.flatMap (fun p => [Value.slice p.1 p.2.2.1.length p.2.1, Value.string p.2.2.2])
def recs (ps : List Pr) : List Rec := ps.map (fun p => p.2.2)
theorem recs_len (ps : List Pr) : (recs ps).length = ps.length := by simp [recs]
theorem recs_app (ps qs : List Pr) : recs (ps ++ qs) = recs ps ++ recs qs := by simp [recs]
theorem recs_get (ps : List Pr) (i : Nat) : (recs ps).getD i rec0 = (ps.getD i pr0).2.2 := by
  unfold recs
  by_cases h : i < ps.length
  · simp [List.getD_eq_getElem?_getD, h]
  · simp [List.getD_eq_getElem?_getD, List.getElem?_eq_none (Nat.le_of_not_lt h), pr0]
theorem rcells_app (ps qs : List Pr) : rcells (ps ++ qs) = rcells ps ++ rcells qs := by simp [rcells]
theorem rcells_len (ps : List Pr) : (rcells ps).length = ps.length * 2 := by
  induction ps with
  | nil => rfl
  | cons p ps ih => simp only [rcells, List.flatMap_cons, List.length_append, List.length_cons, List.length_nil] at ih ⊢; omega
theorem rcells_one (ps : List Pr) : ∀ u ∈ rcells ps, u.oneCell' = true := by
  intro u hu
  simp only [rcells, List.mem_flatMap] at hu
  obtain ⟨p, _, hp⟩ := hu
  simp only [List.mem_cons, List.not_mem_nil, or_false] at hp
  rcases hp with rfl | rfl <;> rfl
theorem rcells_get (ps : List Pr) (i : Nat) (h : i < ps.length) : (rcells ps)[i * 2]? = some (.slice (ps.getD i pr0).1 (ps.getD i pr0).2.2.1.length (ps.getD i pr0).2.1) ∧ (rcells ps)[i * 2 + 1]? = some (.string (ps.getD i pr0).2.2.2) := by
  induction ps generalizing i with
  | nil => simp at h
  | cons p ps ih =>
    cases i with
    | zero => simp [rcells]
    | succ i =>
      have hi := ih i (by simpa using h)
      have e : rcells (p :: ps) = [Value.slice p.1 p.2.2.1.length p.2.1, Value.string p.2.2.2] ++ rcells ps := by simp [rcells]
      have e1 : (i + 1) * 2 = i * 2 + 2 := by omega
      have e2 : (i + 1) * 2 + 1 = i * 2 + 1 + 2 := by omega
      rw [e, e1, show i * 2 + 2 + 1 = i * 2 + 1 + 2 from by omega, List.getElem?_append_right (by simp), List.getElem?_append_right (by simp)]
      simpa using hi
theorem rcells_take (ps : List Pr) (i : Nat) : rcells (ps.take i) = (rcells ps).take (i * 2) := by
  induction ps generalizing i with
  | nil => simp [rcells]
  | cons p ps ih =>
    cases i with
    | zero => simp [rcells]
    | succ i =>
      have e : ∀ p ps, rcells (p :: ps) = Value.slice p.1 p.2.2.1.length p.2.1 :: Value.string p.2.2.2 :: rcells ps := fun p ps => by simp [rcells]
      rw [List.take_succ_cons, e, e, ih i, show (i + 1) * 2 = i * 2 + 1 + 1 from by omega, List.take_succ_cons, List.take_succ_cons]
theorem rcells_drop (ps : List Pr) (i : Nat) : rcells (ps.drop i) = (rcells ps).drop (i * 2) := by
  induction ps generalizing i with
  | nil => simp [rcells]
  | cons p ps ih =>
    cases i with
    | zero => simp [rcells]
    | succ i =>
      have e : ∀ p ps, rcells (p :: ps) = Value.slice p.1 p.2.2.1.length p.2.1 :: Value.string p.2.2.2 :: rcells ps := fun p ps => by simp [rcells]
      rw [List.drop_succ_cons, e, ih i, show (i + 1) * 2 = i * 2 + 1 + 1 from by omega, List.drop_succ_cons, List.drop_succ_cons]
theorem recs_take (ps : List Pr) (i : Nat) : recs (ps.take i) = (recs ps).take i := by simp [recs, List.map_take]
theorem recs_drop (ps : List Pr) (i : Nat) : recs (ps.drop i) = (recs ps).drop i := by simp [recs, List.map_drop]
/-- A record that is read, its point's block of the kind P. -/
def Pk (w : World) (P : Nat → Prop) (p : Pr) : Prop := Kv w p.1 p.2.2.1.length p.2.1 p.2.2.1 ∧ p.2.2.2.size ≤ maxLen ∧ (0 < p.2.2.1.length → ∀ b off, p.1 = some ⟨b, off, none⟩ → P b)
/-- Not the block that a slice lies in. -/
def Av (A : Option Addr) (b : Nat) : Prop := ∀ g o, A = some ⟨g, o, none⟩ → b ≠ g
section
variable {S P P' : Nat → Prop} {w w1 : World} {p : Pr}
theorem Pk.mono (h : Pk w P p) (hp : ∀ b, P b → P' b) : Pk w P' p := ⟨h.1, h.2.1, fun h0 b off e => hp b (h.2.2 h0 b off e)⟩
theorem Pk.lt (h : Pk w P p) : Pk w (fun b => P b ∧ b < w.heap.size) p := ⟨h.1, h.2.1, fun h0 b off e => ⟨h.2.2 h0 b off e, by
  obtain ⟨b', off', h1, h2⟩ := h.1.get 0 h0
  rw [e] at h1
  injection h1 with h1
  injection h1 with e1 e2
  subst e1; subst e2
  exact World.block_lt_of_cell? w _ h2⟩⟩
theorem Pk.fr (h : Pk w P p) (f : Fr S w w1) (hn : ∀ b, P b → ¬ S b) : Pk w1 P p := by
  refine ⟨?_, h.2.1, h.2.2⟩
  rcases Nat.eq_zero_or_pos p.2.2.1.length with h0 | h0
  · exact ⟨rfl, h.1.cap, h.1.most, h.1.lt, fun hx => by omega⟩
  · exact h.1.fr f (fun b off e => hn b (h.2.2 h0 b off e))
theorem Pk.no (h : Pk w P p) (f : Fr No w w1) : Pk w1 P p := h.fr f (fun _ _ x => x)
end
/-- A list of records of the call's own; its points are not in its own block, and of the kind P. -/
def Ow (w : World) (base : Nat) (e : TypeId) (P : Nat → Prop) (A : Option Addr) (n c : Nat) (rs : List Rec) : Prop :=
  ∃ ps, recs ps = rs ∧ w.ownsRow base e 2 (.slice A n c) n (rcells ps) ∧ ∀ p ∈ ps, Pk w (fun b => P b ∧ Av A b) p
section
variable {S P P' : Nat → Prop} {w w1 : World} {A : Option Addr} {n c base : Nat} {e : TypeId} {rs : List Rec}
theorem Ow.mono (h : Ow w base e P A n c rs) (hp : ∀ b, P b → P' b) : Ow w base e P' A n c rs := by
  obtain ⟨ps, h1, h2, h3⟩ := h
  exact ⟨ps, h1, h2, fun p hp' => (h3 p hp').mono (fun b hb => ⟨hp b hb.1, hb.2⟩)⟩
theorem Ow.lt (h : Ow w base e P A n c rs) : Ow w base e (fun b => P b ∧ b < w.heap.size) A n c rs := by
  obtain ⟨ps, h1, h2, h3⟩ := h
  exact ⟨ps, h1, h2, fun p hp' => (h3 p hp').lt.mono (fun b hb => ⟨⟨hb.1.1, hb.2⟩, hb.1.2⟩)⟩
theorem own_len2 {v : Value} {xs : List Value} (h : w.ownsRow base e 2 v n xs) : xs.length = n * 2 := h.1
theorem Ow.len (h : Ow w base e P A n c rs) : rs.length = n := by
  obtain ⟨ps, rfl, h2, h3⟩ := h
  have := own_len2 h2
  rw [rcells_len] at this
  rw [recs_len]; omega
theorem Ow.blk (h : Ow w base e P A n c rs) : ∀ k, (Value.slice A n c).ownBlock = some k → base ≤ k ∧ k < w.heap.size := by
  obtain ⟨ps, _, h2, _⟩ := h
  exact h2.lt
theorem Ow.nil_ (w : World) (base : Nat) (e : TypeId) (P : Nat → Prop) : Ow w base e P none 0 0 [] := ⟨[], rfl, World.ownsRow_nil _ _ _ _, fun p hp => by simp at hp⟩
/-- A frame that writes neither the list's block nor its points. -/
theorem Ow.fr (h : Ow w base e P A n c rs) (f : Fr S w w1) (hA : ∀ k, (Value.slice A n c).ownBlock = some k → ¬ S k) (hP : ∀ b, P b → ¬ S b) : Ow w1 base e P A n c rs := by
  obtain ⟨ps, h1, h2, h3⟩ := h
  exact ⟨ps, h1, own_fr h2 f hA, fun p hp => (h3 p hp).fr f (fun b hb => hP b hb.1)⟩
theorem Ow.no (h : Ow w base e P A n c rs) (f : Fr No w w1) : Ow w1 base e P A n c rs := h.fr f (fun _ _ x => x) (fun _ _ x => x)
theorem Ow.alloc (h : Ow w base e P A n c rs) (o : Obj) : Ow (w.alloc o) base e P A n c rs := h.no ((Fr.refl No w).alloc o)
theorem Ow.drew (h : Ow w base e P A n c rs) : Ow w.drew base e P A n c rs := h.no (Fr.refl No w).drew
theorem Ow.drewN (h : Ow w base e P A n c rs) (k : Nat) : Ow (w.drewN k) base e P A n c rs := h.no ((Fr.refl No w).drewN k)
theorem Ow.base_ (h : Ow w base e P A n c rs) {base' : Nat} (hb : base' ≤ base) : Ow w base' e P A n c rs := by
  obtain ⟨ps, h1, h2, h3⟩ := h
  exact ⟨ps, h1, own_base h2 hb, h3⟩
/-- The cells that a list's slice has. -/
def Rcs (w : World) (A : Option Addr) (n : Nat) (cs : List Value) : Prop := 0 < n → ∃ b off, A = some ⟨b, off, none⟩ ∧ ∀ j u, cs[j]? = some u → w.cell? ⟨b, off + j, none⟩ = some u
theorem add_lit (b off j : Nat) : (⟨b, off, none⟩ : Addr).add j = ⟨b, off + j, none⟩ := by unfold Addr.add; split <;> simp_all
theorem Rcs.rc {cs : List Value} (h : Rcs w A n cs) (hl : cs.length = n * 2) : Rc w A cs := by
  intro j u hj
  have h0 : j < cs.length := (List.getElem?_eq_some_iff.1 hj).1
  obtain ⟨b, off, rfl, h2⟩ := h (by omega)
  exact ⟨_, rfl, by rw [add_lit]; exact h2 j u hj⟩
/-- A list that is read, taken apart. -/
theorem Rv.parts (h : Rv w A n c rs) : ∃ ps, recs ps = rs ∧ Rcs w A n (rcells ps) ∧ ∀ p ∈ ps, Pk w (fun b => b < w.heap.size) p := by
  have hx : ∀ i, i < rs.length → ∃ p : Pr, p.2.2 = rs.getD i rec0 ∧ Pk w (fun b => b < w.heap.size) p ∧ ∃ b off, A = some ⟨b, off, none⟩ ∧ w.cell? ⟨b, off + i * 2, none⟩ = some (.slice p.1 p.2.2.1.length p.2.1) ∧ w.cell? ⟨b, off + i * 2 + 1, none⟩ = some (.string p.2.2.2) := by
    intro i hi
    obtain ⟨b, off, KA, kc, h1, h2, h3, h4, h5⟩ := h.get i hi
    refine ⟨(KA, kc, rs.getD i rec0), rfl, ?_, b, off, h1, h2, h3⟩
    exact (Pk.lt (P := fun _ => True) ⟨h4, h5, fun _ _ _ _ => trivial⟩).mono (fun b hb => hb.2)
  obtain ⟨ps, hl, hq⟩ := list_of rs.length hx
  refine ⟨ps, ?_, fun h0 => ?_, ?_⟩
  · apply List.ext_getElem
    · rw [recs_len]; exact hl
    · intro i h1 h2
      have := (hq i (by omega)).1
      simp only [recs, List.getElem_map]
      rw [this]
      simp [List.getD_eq_getElem?_getD, h2]
  · obtain ⟨b, off, hA, _⟩ := h.at_ (by have := h.len; omega)
    refine ⟨b, off, hA, fun j u hj => ?_⟩
    have hj' : j < (rcells ps).length := (List.getElem?_eq_some_iff.1 hj).1
    rw [rcells_len] at hj'
    obtain ⟨_, _, b', off', hA', h5, h6⟩ := hq (j / 2) (by omega)
    rw [hA] at hA'
    injection hA' with hA'
    injection hA' with e1 e2
    subst e1; subst e2
    have hg := rcells_get ps (j / 2) (by omega)
    have ep : ps.getD (j / 2) pr0 = ps[j / 2]'(by omega) := by simp [List.getD_eq_getElem?_getD, show j / 2 < ps.length by omega]
    rw [ep] at hg
    rcases Nat.mod_two_eq_zero_or_one j with hm | hm
    · have e : j / 2 * 2 = j := by omega
      rw [e] at hg h5
      rw [hg.1] at hj
      injection hj with hj
      rw [h5, hj]
    · have e : j / 2 * 2 + 1 = j := by omega
      rw [e] at hg
      rw [hg.2] at hj
      injection hj with hj
      rw [show b = b from rfl, show off + j = off + j / 2 * 2 + 1 from by omega, h6, hj]
  · intro p hp
    obtain ⟨i, hi, rfl⟩ := List.mem_iff_getElem.1 hp
    exact (hq i hi).2.1
/-- Put together again. -/
theorem Rv.of_parts {ps : List Pr} (hn : n = ps.length) (hc : n ≤ c) (hm : c ≤ maxLen) (h : Rcs w A n (rcells ps)) (hp : ∀ p ∈ ps, Pk w P p) : Rv w A n c (recs ps) := by
  refine ⟨by rw [recs_len]; exact hn, hc, hm, fun h0 => ?_⟩
  rw [recs_len] at h0
  obtain ⟨b, off, h1, h2⟩ := h (by omega)
  refine ⟨b, off, h1, fun i hi => ?_⟩
  rw [recs_len] at hi
  have ep : ps.getD i pr0 = ps[i] := by simp [List.getD_eq_getElem?_getD, hi]
  obtain ⟨h3, h4⟩ := rcells_get ps i hi
  have h5 := hp _ (List.getElem_mem hi)
  rw [recs_get]
  refine ⟨(ps.getD i pr0).1, (ps.getD i pr0).2.1, h2 _ _ h3, by have := h2 _ _ h4; rwa [← Nat.add_assoc] at this, ?_, ?_⟩
  · rw [ep]; exact h5.1
  · rw [ep]; exact h5.2.1
theorem own_cap {xs : List Value} {size : Nat} (h : w.ownsRow base e size (.slice A n c) n xs) : n ≤ c ∧ c ≤ maxLen := by
  rcases h.2 with ⟨h1, h2⟩ | ⟨g, cap, cur, h1, _, _, h2, h3, _⟩
  · injection h1 with _ h4 h5
    subst h2; subst h5
    exact ⟨Nat.le_refl _, Nat.zero_le _⟩
  · injection h1 with _ h4 h5
    subst h5
    exact ⟨h2, h3⟩
theorem own_rcs {xs : List Value} (h : w.ownsRow base e 2 (.slice A n c) n xs) : Rcs w A n xs := by
  intro h0
  rcases h.2 with ⟨h1, h2⟩ | ⟨g, cap, cur, h1, _⟩
  · omega
  · injection h1 with h1
    refine ⟨g, 0, h1, fun j u hj => ?_⟩
    subst h1
    have hj' : j < xs.length := (List.getElem?_eq_some_iff.1 hj).1
    rw [Nat.zero_add, h.cellAt j (by have := h.1; omega), hj]
theorem Ow.rv (h : Ow w base e P A n c rs) : Rv w A n c rs := by
  have hl := h.len
  obtain ⟨ps, rfl, h2, h3⟩ := h
  rw [recs_len] at hl
  exact Rv.of_parts hl.symm (own_cap h2).1 (own_cap h2).2 (own_rcs h2) h3
/-- Part of a list's slice. -/
theorem Rcs.sub {ps : List Pr} (h : Rcs w A n (rcells ps)) (hn : ps.length = n) (i j : Nat) (hij : i ≤ j) (hj : j ≤ n) (A1 : Option Addr) (hA : i < j → ∀ b off, A = some ⟨b, off, none⟩ → A1 = some ⟨b, off + i * 2, none⟩) : Rcs w A1 (j - i) (rcells ((ps.take j).drop i)) := by
  intro h0
  obtain ⟨b, off, h1, h2⟩ := h (by omega)
  refine ⟨b, off + i * 2, hA (by omega) b off h1, fun k u hk => ?_⟩
  rw [rcells_drop, rcells_take, List.getElem?_drop, List.getElem?_take] at hk
  split at hk
  · rw [Nat.add_assoc]; exact h2 _ _ hk
  · cases hk
theorem Rcs.no {cs : List Value} (h : Rcs w A n cs) (f : Fr No w w1) : Rcs w1 A n cs := by
  intro h0
  obtain ⟨b, off, h1, h2⟩ := h h0
  refine ⟨b, off, h1, fun j u hj => ?_⟩
  have hb := World.block_lt_of_cell? w _ (h2 j u hj)
  rw [World.cell?_of_block (w := w) (f.block _ hb (fun x => x))]
  exact h2 j u hj
theorem Rv.sub (h : Rv w A n c rs) (i j c1 : Nat) (hij : i ≤ j) (hj : j ≤ n) (hc : j - i ≤ c1) (hm : c1 ≤ maxLen) (A1 : Option Addr) (hA : i < j → ∀ b off, A = some ⟨b, off, none⟩ → A1 = some ⟨b, off + i * 2, none⟩) : Rv w A1 (j - i) c1 ((rs.take j).drop i) := by
  have hl := h.len
  obtain ⟨ps, rfl, h2, h3⟩ := Rv.parts h
  rw [recs_len] at hl
  rw [← recs_take, ← recs_drop]
  exact Rv.of_parts (by simp; omega) hc hm (h2.sub hl.symm i j hij hj A1 hA) (fun p hp => h3 p (List.mem_of_mem_take (List.mem_of_mem_drop hp)))
theorem rcells_cons (p : Pr) (ps : List Pr) : rcells (p :: ps) = Value.slice p.1 p.2.2.1.length p.2.1 :: Value.string p.2.2.2 :: rcells ps := by simp [rcells]
theorem rcells_key (ps : List Pr) (i : Nat) (q : Pr) (h : i < ps.length) (hq : q.2.2 = (ps.getD i pr0).2.2) : rcells (ps.set i q) = (rcells ps).set (i * 2) (.slice q.1 q.2.2.1.length q.2.1) := by
  induction ps generalizing i with
  | nil => simp at h
  | cons p ps ih =>
    cases i with
    | zero =>
      have e : q.2.2 = p.2.2 := by simpa using hq
      rw [List.set_cons_zero, rcells_cons, rcells_cons, e]
      rfl
    | succ i =>
      have hi := ih i (by simpa using h) (by simpa using hq)
      rw [List.set_cons_succ, rcells_cons, rcells_cons, hi, show (i + 1) * 2 = i * 2 + 1 + 1 from by omega, List.set_cons_succ, List.set_cons_succ]
theorem rcells_data (ps : List Pr) (i : Nat) (q : Pr) (h : i < ps.length) (hq : q.1 = (ps.getD i pr0).1 ∧ q.2.1 = (ps.getD i pr0).2.1 ∧ q.2.2.1 = (ps.getD i pr0).2.2.1) : rcells (ps.set i q) = (rcells ps).set (i * 2 + 1) (.string q.2.2.2) := by
  induction ps generalizing i with
  | nil => simp at h
  | cons p ps ih =>
    cases i with
    | zero =>
      obtain ⟨e1, e2, e3⟩ : q.1 = p.1 ∧ q.2.1 = p.2.1 ∧ q.2.2.1 = p.2.2.1 := by simpa using hq
      rw [List.set_cons_zero, rcells_cons, rcells_cons, e1, e2, e3]
      rfl
    | succ i =>
      have hi := ih i (by simpa using h) (by simpa using hq)
      rw [List.set_cons_succ, rcells_cons, rcells_cons, hi, show (i + 1) * 2 + 1 = i * 2 + 1 + 1 + 1 from by omega, List.set_cons_succ, List.set_cons_succ]
/-- A record's cells in a list of the call's own. -/
theorem Ow.cells (h : Ow w base e P A n c rs) (i : Nat) (hi : i < n) : ∃ g KA kc, A = some ⟨g, 0, none⟩ ∧ base ≤ g ∧ w.cell? ⟨g, i * 2, none⟩ = some (.slice KA (rs.getD i rec0).1.length kc) ∧ w.cell? ⟨g, i * 2 + 1, none⟩ = some (.string (rs.getD i rec0).2) ∧ w.frozen? ⟨g, i * 2, none⟩ = false ∧ w.frozen? ⟨g, i * 2 + 1, none⟩ = false ∧ Kv w KA (rs.getD i rec0).1.length kc (rs.getD i rec0).1 ∧ (rs.getD i rec0).2.size ≤ maxLen := by
  have hl := h.len
  obtain ⟨ps, rfl, h2, h3⟩ := h
  rw [recs_len] at hl
  rcases h2.2 with ⟨h4, h5⟩ | ⟨g, cap, cur, h4, hg, _⟩
  · omega
  · injection h4 with h4
    subst h4
    have ep : ps.getD i pr0 = ps[i]'(by omega) := by simp [List.getD_eq_getElem?_getD, show i < ps.length by omega]
    obtain ⟨c1, c2⟩ := rcells_get ps i (by omega)
    have hp := h3 _ (List.getElem_mem (show i < ps.length by omega))
    rw [recs_get]
    refine ⟨g, (ps.getD i pr0).1, (ps.getD i pr0).2.1, rfl, hg, ?_, ?_, h2.frozenAt _, h2.frozenAt _, by rw [ep]; exact hp.1, by rw [ep]; exact hp.2.1⟩
    · rw [h2.cellAt _ (by omega), c1]
    · rw [h2.cellAt _ (by omega), c2]
/-- A record's point is replaced by the same point elsewhere. -/
theorem Ow.store_key {g K kc : _} (h : Ow w base e P (some ⟨g, 0, none⟩) n c rs) (i : Nat) (hi : i < n) (hk : Kv w K (rs.getD i rec0).1.length kc (rs.getD i rec0).1) (hK : ∀ b off, K = some ⟨b, off, none⟩ → P b ∧ b ≠ g) : Ow (w.setCell ⟨g, i * 2, none⟩ (.slice K (rs.getD i rec0).1.length kc)) base e P (some ⟨g, 0, none⟩) n c rs := by
  have hl := h.len
  obtain ⟨ps, rfl, h2, h3⟩ := h
  rw [recs_len] at hl
  have hil : i < ps.length := by omega
  have ep : ps.getD i pr0 = ps[i] := by simp [List.getD_eq_getElem?_getD, hil]
  rw [recs_get] at hk ⊢
  refine ⟨ps.set i (K, kc, (ps.getD i pr0).2.2), ?_, ?_, fun p hp => ?_⟩
  · unfold recs
    rw [List.map_set]
    apply List.ext_getElem
    · simp
    · intro j h4 h5
      rw [List.getElem_set]
      split
      · next e => subst e; simp only [ep, List.getElem_map]
      · rfl
  · have h4 := (h2.stored (i * 2) (.slice K (ps.getD i pr0).2.2.1.length kc)).1
    rw [← rcells_key ps i (K, kc, (ps.getD i pr0).2.2) hil rfl] at h4
    exact h4
  · have f : Fr (fun k => k = g) w (w.setCell ⟨g, i * 2, none⟩ (.slice K (ps.getD i pr0).2.2.1.length kc)) := (Fr.refl (fun k => k = g) w).setCell (p := ⟨g, i * 2, none⟩) (.inl rfl) _
    have hall : Pk w (fun b => P b ∧ Av (some ⟨g, 0, none⟩) b) p := by
      rcases List.mem_or_eq_of_mem_set hp with hp | rfl
      · exact h3 p hp
      · have h5 := (h3 _ (List.getElem_mem hil)).2.1
        rw [← ep] at h5
        exact ⟨hk, h5, fun _ b off e => ⟨(hK b off e).1, fun g' o' eg => by injection eg with eg; injection eg with e1; subst e1; exact (hK b off e).2⟩⟩
    exact hall.fr f (fun b hb e => hb.2 g 0 rfl e)
end
section
variable {P P' : Nat → Prop} {w w1 : World} {A0 A : Option Addr} {n m c c0 base : Nat} {e : TypeId} {rs : List Rec}
/-- append to a list of the call's own. -/
theorem app_recs {Pg : Program} (t : TypeId) (z : Value) (bytes : Nat) (ht : Pg.underlying t = .some (.slice e))
    (hinfo : (Pg.info? e).map (fun i => (i.zero, i.size, i.bytes)) = .some (.some z, 2, bytes)) (hz : z.cells.size = 2) (hb0 : 0 < bytes)
    (hO : Ow w base e P A0 n c0 rs) {ps : List Pr} (hps : ∀ p ∈ ps, Pk w (fun b => P b ∧ Av A0 b) p) (hm : ps.length = m) (hr : Rcs w A m (rcells ps)) (hb : (n + m) * bytes ≤ 140737488355328) (hbase : base ≤ w.heap.size) :
    ∃ A1 c1 w1, (appSem #[t, t] t #[.slice A0 n c0, .slice A m c]).run Pg w = .ok (.slice A1 (n + m) c1) w1 ∧ Ow w1 base e P A1 (n + m) c1 (rs ++ recs ps) ∧ w.grownBy w1 (Value.slice A0 n c0).ownBlock ∧ ((Value.slice A1 (n + m) c1).ownBlock = (Value.slice A0 n c0).ownBlock ∨ (Value.slice A1 (n + m) c1).ownBlock = .some w.heap.size) := by
  obtain ⟨qs, rfl, h2, h3⟩ := hO
  have hl : (rcells ps).length = m * 2 := by rw [rcells_len, hm]
  obtain ⟨A1, c1, w1, hrun, hown, hgr, hat⟩ := app_eq (P := Pg) (w := w) base t e z 2 bytes ht hinfo hz (by decide) hb0 h2 A m c (rcells ps) hl (hr.rc hl) (rcells_one ps) hb hbase
  refine ⟨A1, c1, w1, hrun, ⟨qs ++ ps, recs_app _ _, by rw [rcells_app]; exact hown, fun p hp => ?_⟩, hgr, hat⟩
  have hall : Pk w (fun b => P b ∧ Av A0 b) p := by
    rcases List.mem_append.1 hp with hp | hp
    · exact h3 p hp
    · exact hps p hp
  have f := grown_fr hgr
  have h5 := hall.lt
  refine (h5.mono (P' := fun b => (P b ∧ Av A1 b) ∧ ¬ ((Value.slice A0 n c0).ownBlock = some b)) (fun b hb => ⟨⟨hb.1.1, fun g o eA => ?_⟩, fun hown => ?_⟩)).fr f (fun b hb => hb.2) |>.mono (fun b hb => hb.1)
  · subst eA
    rcases hat with hat | hat
    · rcases A0 with _ | ⟨g0, o0, s0⟩
      · cases hat
      · have h6 : g = g0 := by simpa [Value.ownBlock] using hat
        subst h6
        rcases h2.2 with ⟨h7, _⟩ | ⟨g', cap, cur, h7, _⟩
        · cases h7
        · injection h7 with h7
          injection h7 with h7
          injection h7 with h8 h9 h10
          subst h8; subst h9; subst h10
          exact hb.1.2 g 0 rfl
    · have h6 : g = w.heap.size := by simpa [Value.ownBlock] using hat
      have := hb.2
      omega
  · rcases A0 with _ | ⟨g0, o0, s0⟩
    · cases hown
    · rcases h2.2 with ⟨h7, _⟩ | ⟨g', cap, cur, h7, _⟩
      · cases h7
      · injection h7 with h7
        injection h7 with h7
        injection h7 with h8 h9 h10
        subst h8; subst h9; subst h10
        have h6 : g0 = b := by simpa [Value.ownBlock] using hown
        exact hb.1.2 g0 0 rfl h6.symm
/-- append to a slice that has no room: a list of the call's own. -/
theorem app_full {Pg : Program} (t : TypeId) (z : Value) (bytes : Nat) (ht : Pg.underlying t = .some (.slice e))
    (hinfo : (Pg.info? e).map (fun i => (i.zero, i.size, i.bytes)) = .some (.some z, 2, bytes)) (hz : z.cells.size = 2) (hb0 : 0 < bytes)
    {qs ps : List Pr} (hqs : ∀ p ∈ qs, Pk w P p) (hn : qs.length = n) (hr0 : Rcs w A0 n (rcells qs)) (h00 : A0 = none → c0 = 0) (hps : ∀ p ∈ ps, Pk w P p) (hm : ps.length = m) (hr : Rcs w A m (rcells ps)) (hroom : c0 < n + m) (hm0 : 0 < m) (hb : (n + m) * bytes ≤ 140737488355328) :
    ∃ A1 c1 w1, (appSem #[t, t] t #[.slice A0 n c0, .slice A m c]).run Pg w = .ok (.slice A1 (n + m) c1) w1 ∧ Ow w1 w.heap.size e P A1 (n + m) c1 (recs qs ++ recs ps) ∧ Fr No w w1 := by
  have hl : (rcells ps).length = m * 2 := by rw [rcells_len, hm]
  have hlo : (rcells qs).length = n * 2 := by rw [rcells_len, hn]
  have fin : ∀ v1 w1, (appSem #[t, t] t #[.slice A0 n c0, .slice A m c]).run Pg w = .ok v1 w1 → w1.ownsRow w.heap.size e 2 v1 (n + m) (rcells qs ++ rcells ps) → Fr No w w1 → ∃ A1 c1 w1, (appSem #[t, t] t #[.slice A0 n c0, .slice A m c]).run Pg w = .ok (.slice A1 (n + m) c1) w1 ∧ Ow w1 w.heap.size e P A1 (n + m) c1 (recs qs ++ recs ps) ∧ Fr No w w1 := by
    intro v1 w1 hrun hown f
    obtain ⟨A1, c1, rfl⟩ := own_slice hown
    refine ⟨A1, c1, w1, hrun, ⟨qs ++ ps, recs_app _ _, by rw [rcells_app]; exact hown, fun p hp => ?_⟩, f⟩
    have hall : Pk w P p := by
      rcases List.mem_append.1 hp with hp | hp
      · exact hqs p hp
      · exact hps p hp
    refine (hall.lt.no f).mono (fun b hb => ⟨hb.1, fun g o eA => ?_⟩)
    subst eA
    have := (hown.lt g rfl).1
    have := hb.2
    omega
  obtain ⟨b, off, rfl, hcells⟩ := hr hm0
  have hcells' : ∀ j u, (rcells ps)[j]? = some u → w.cell? ((⟨b, off, none⟩ : Addr).add j) = some u := fun j u hj => by rw [add_lit]; exact hcells j u hj
  have hlen : n + m ≤ 140737488355328 := Nat.le_trans (Nat.le_mul_of_pos_right _ hb0) hb
  have hmx : (140737488355328 : Nat) ≤ maxLen := by decide
  rcases A0 with _ | a0
  · have hn0 : n = 0 := by
      rcases Nat.eq_zero_or_pos n with h | h
      · exact h
      · obtain ⟨b', off', h', _⟩ := hr0 h
        cases h'
    subst hn0
    have := h00 rfl
    subst this
    have hq : qs = [] := List.eq_nil_of_length_eq_zero hn
    subst hq
    obtain ⟨A1, c1, w1, hrun, hown, hgr, hat⟩ := app_eq (P := Pg) (w := w) w.heap.size t e z 2 bytes ht hinfo hz (by decide) hb0 (World.ownsRow_nil w w.heap.size e 2) (some ⟨b, off, none⟩) m c (rcells ps) hl (hr.rc hl) (rcells_one ps) hb (Nat.le_refl _)
    exact fin _ _ hrun hown ((Fr.refl No w).grown hgr (fun k hk => by cases hk))
  · obtain ⟨i0, hi, hzz⟩ := Option.map_eq_some_iff.1 hinfo
    simp only [Prod.mk.injEq] at hzz
    obtain ⟨hz0, hz1, hz2⟩ := hzz
    have ho : ∀ j u, (rcells qs)[j]? = some u → w.cell? (a0.add j) = some u := fun j u hj => by
      have h0 : j < (rcells qs).length := (List.getElem?_eq_some_iff.1 hj).1
      obtain ⟨b', off', h1, h2⟩ := hr0 (by omega)
      injection h1 with h1
      subst h1
      rw [add_lit]; exact h2 j u hj
    obtain ⟨v1, w1, hrun, hown, hgr⟩ := run_append_arg_grows (P := Pg) w t t e i0 z 2 bytes ht hi hz0 hz1 hz2 hz (by decide) a0 n c0 (rcells qs) hlo ho ⟨b, off, none⟩ m c (rcells ps) hl hcells' hroom (by omega) hb
    exact fin _ _ hrun hown ((Fr.refl No w).grown hgr (fun k hk => by cases hk))
end
end Go.Proofs.Yteckbcfigklkpaa.Ro
/- Records: what the program says of their type; a point's copy. -/
namespace Go.Proofs.Yteckbcfigklkpaa.Rk
open Go.RowKit Go.Proofs.Yteckbcfigklkpaa.Base Go.Proofs.Yteckbcfigklkpaa.App Go.Proofs.Yteckbcfigklkpaa.Str Go.Proofs.Yteckbcfigklkpaa.Ky Go.Proofs.Yteckbcfigklkpaa.Bx Go.Proofs.Yteckbcfigklkpaa.As Go.Proofs.Yteckbcfigklkpaa.Ki08 Go.Proofs.Yteckbcfigklkpaa.Rv Go.Proofs.Yteckbcfigklkpaa.Ro
set_option linter.unusedVariables false
set_option linter.unusedSimpArgs false
attribute [local go_sem ↓ high] builtin_app
theorem info_rec : (Try.prog.info? 33).map (fun i => (i.zero, i.size, i.bytes)) = some (some (.agg #[.slice none 0 0, .string ByteArray.empty]), 2, 40) := by kernel_rfl
theorem Kv.of_own2 {w : World} {base n c : Nat} {A : Option Addr} {e : TypeId} {ks : List Nat} (h : w.ownsRow base e 1 (.slice A n c) n (u32s ks)) (hl : ∀ x ∈ ks, x < 4294967296) : Kv w A n c ks := Kv.of_own h hl
/-- Short enough to be put together. -/
def Short (rs : List Rec) : Prop := rs.length ≤ 1000000 ∧ ∀ r ∈ rs, r.1.length ≤ 1000000
theorem Short.get {rs : List Rec} (h : Short rs) (i : Nat) (hi : i < rs.length) : (rs.getD i rec0).1.length ≤ 1000000 := by
  have e : rs.getD i rec0 = rs[i] := by simp [List.getD_eq_getElem?_getD, hi]
  rw [e]; exact h.2 _ (List.getElem_mem hi)
/-- A list of records of the call's own is returned. -/
def RecsRet (w : World) (rs : List Rec) (e : Ending) (w' : World) : Prop :=
  ∃ A n c, e = .returned (.slice A n c) ∧ Ow w' w.heap.size 33 (fun _ => True) A n c rs ∧ Fr No w w'
section
variable {w : World} {A : Option Addr} {n c : Nat} {ks : List Nat}
/-- The copy of a point, once more. -/
theorem rcopy_any (hk : Kv w A n c ks) (hn : n ≤ 1000000) :
    Calls Try.prog 32 #[.slice A n c] w fun e w' => ∃ A1 c1, e = .returned (.slice A1 n c1) ∧ w'.ownsRow w.heap.size 66 1 (.slice A1 n c1) n (u32s ks) ∧ Fr No w w' := by
  have hl := hk.len
  have hmx : (1000000 : Nat) * 4 ≤ 140737488355328 := by decide
  obtain ⟨A1, c1, w1, hrun, hown, hgr, hat⟩ := app_eq (P := Try.prog) (w := w) w.heap.size 31 66 (.int .u32 0) 1 4 Try.underlying31 info_u32 rfl (by decide) (by decide) (World.ownsRow_nil _ _ _ _) A n c (u32s ks) (by rw [u32s_len]; omega) hk.rc (u32s_one ks) (by omega) (Nat.le_refl _)
  have hf : Fr No w w1 := (Fr.refl No w).grown hgr (fun k hk => by simp [Value.ownBlock] at hk)
  rw [Nat.zero_add] at hrun hown
  have Hown := Lib.hid hown
  have Hf := Lib.hid hf
  clear hown hgr hat hf hk hl
  go_enter Try.func32, Try.ntmps32
  go_wp2
  go_ret
  exact ⟨A1, c1, rfl, Hown.out, Hf.out⟩
end
/-- Where a record was just laid. -/
theorem rcs_new {w W : World} {p : Pr} {g : Nat} {t : TypeId} (h : Ob W g #[.slice p.1 p.2.2.1.length p.2.1, .string p.2.2.2] t) : Rcs W (some ⟨g, 0, none⟩) 1 (rcells [p]) := by
  intro _
  refine ⟨g, 0, rfl, fun j u hj => ?_⟩
  rw [Nat.zero_add]
  exact h.cell j (by simpa [rcells] using hj)
/-- One record more, its point apart from the list's block. -/
theorem app_one {w : World} {A0 : Option Addr} {n c0 base : Nat} {P : Nat → Prop} {rs : List Rec} (hO : Ow w base 33 P A0 n c0 rs) (p : Pr) (hp : Pk w (fun b => P b ∧ Av A0 b) p) {A : Option Addr} {c : Nat} (hr : Rcs w A 1 (rcells [p])) (hb : n ≤ 2000000) (hbase : base ≤ w.heap.size) :
    ∃ A1 c1 w1, (appSem #[40, 40] 40 #[.slice A0 n c0, .slice A 1 c]).run Try.prog w = .ok (.slice A1 (n + 1) c1) w1 ∧ Ow w1 base 33 P A1 (n + 1) c1 (rs ++ [p.2.2]) ∧ w.grownBy w1 (Value.slice A0 n c0).ownBlock ∧ ((Value.slice A1 (n + 1) c1).ownBlock = (Value.slice A0 n c0).ownBlock ∨ (Value.slice A1 (n + 1) c1).ownBlock = .some w.heap.size) :=
  app_recs 40 _ 40 Try.underlying40 info_rec rfl (by decide) hO (ps := [p]) (fun q hq => by simp at hq; subst hq; exact hp) rfl hr (by omega) hbase
/-- A record whose point was just made. -/
theorem pk_fresh {w5 : World} {B kn kc : Nat} {K A0 : Option Addr} {ks : List Nat} {s : ByteArray} {Q : Nat → Prop} {v : Value} (hown : w5.ownsRow B 66 1 (.slice K kn kc) kn (u32s ks)) (hkn : kn = ks.length) (hl : ∀ x ∈ ks, x < 4294967296) (hs : s.size ≤ maxLen) (hA : ∀ g o, A0 = some ⟨g, o, none⟩ → g < B) (hQ : ∀ b, B ≤ b → Q b) : Pk w5 (fun b => Q b ∧ Av A0 b) (K, kc, (ks, s)) := by
  refine ⟨?_, hs, fun _ b off e => ?_⟩
  · have := Kv.of_own hown hl
    rwa [hkn] at this
  · have e' : K = some ⟨b, off, none⟩ := e
    subst e'
    have hb := (hown.lt b rfl).1
    exact ⟨hQ b hb, fun g o eA => by have := hA g o eA; omega⟩
theorem Ow.at_lt {w : World} {base n c : Nat} {e : TypeId} {P : Nat → Prop} {A : Option Addr} {rs : List Rec} (h : Ow w base e P A n c rs) : ∀ g o, A = some ⟨g, o, none⟩ → g < w.heap.size := fun g o eA => by
  subst eA
  exact (h.blk g rfl).2
/-- A record with a point of its own, put behind. -/
theorem push_rec {wr w5 : World} {B0 j cP kn kc : Nat} {Q : Nat → Prop} {P K : Option Addr} {rs : List Rec} {ks : List Nat} {s : ByteArray} (hO : Ow wr B0 33 Q P j cP rs) (hB : B0 ≤ wr.heap.size) (f5 : Fr No wr w5) (hown : w5.ownsRow wr.heap.size 66 1 (.slice K kn kc) kn (u32s ks)) (hkn : kn = ks.length) (hl : ∀ x ∈ ks, x < 4294967296) (hs : s.size ≤ maxLen) (hj : j ≤ 2000000) (hQ : ∀ b, wr.heap.size ≤ b → Q b) :
    ∃ A1 c1 w1, (appSem #[40, 40] 40 #[.slice P j cP, .slice (some ⟨w5.heap.size, 0, none⟩) 1 1]).run Try.prog (w5.alloc (.cells #[.slice K kn kc, .string s] 33)) = .ok (.slice A1 (j + 1) c1) w1 ∧ Ow w1 B0 33 Q A1 (j + 1) c1 (rs ++ [(ks, s)]) ∧ (w5.alloc (.cells #[.slice K kn kc, .string s] 33)).grownBy w1 (Value.slice P j cP).ownBlock ∧ (∀ w, w.heap.size ≤ B0 → Fr No w wr → Fr No w w1) := by
  subst hkn
  have hP := (pk_fresh (v := .bool true) (A0 := P) (Q := Q) hown rfl hl hs (Ow.at_lt hO) hQ).no ((Fr.refl No w5).alloc (.cells #[.slice K ks.length kc, .string s] 33))
  have hO2 := (hO.no f5).alloc (.cells #[.slice K ks.length kc, .string s] 33)
  obtain ⟨A1, c1, w1, hrun, hO1, hgr, hat⟩ := app_one hO2 (K, kc, (ks, s)) hP (c := 1) (rcs_new (w := w5) (Ob.new w5 _ _)) hj (by have := f5.size; simp; omega)
  exact ⟨A1, c1, w1, hrun, hO1, hgr, fun w hw f => ((f.tr f5).alloc _).grown hgr (fun k hk => .inr (by have := (hO2.blk k hk).1; omega))⟩
/-- A record with a point of its own, put behind. -/
theorem push_rec2 {wr w5 : World} {B0 j cP kn kc : Nat} {Q : Nat → Prop} {P K : Option Addr} {rs : List Rec} {ks : List Nat} {s : ByteArray} (hO : Ow wr B0 33 Q P j cP rs) (hB : B0 ≤ wr.heap.size) (f5 : Fr No wr w5) (hown : w5.ownsRow wr.heap.size 66 1 (.slice K kn kc) kn (u32s ks)) (hkn : kn = ks.length) (hl : ∀ x ∈ ks, x < 4294967296) (hs : s.size ≤ maxLen) (hj : j ≤ 2000000) (hQ : ∀ b, wr.heap.size ≤ b → Q b) :
    ∃ A1 c1 w1, (appSem #[40, 40] 40 #[.slice P j cP, .slice (some ⟨w5.heap.size, 0, none⟩) 1 1]).run Try.prog (w5.alloc (.cells #[.slice K kn kc, .string s] 33)) = .ok (.slice A1 (j + 1) c1) w1 ∧ Ow w1 B0 33 Q A1 (j + 1) c1 (rs ++ [(ks, s)]) ∧ (w5.alloc (.cells #[.slice K kn kc, .string s] 33)).grownBy w1 (Value.slice P j cP).ownBlock ∧ (∀ w, w.heap.size ≤ B0 → Fr No w wr → Fr No w w1) ∧ ((Value.slice A1 (j + 1) c1).ownBlock = (Value.slice P j cP).ownBlock ∨ (Value.slice A1 (j + 1) c1).ownBlock = .some (w5.heap.size + 1)) := by
  subst hkn
  have hP := (pk_fresh (v := .bool true) (A0 := P) (Q := Q) hown rfl hl hs (Ow.at_lt hO) hQ).no ((Fr.refl No w5).alloc (.cells #[.slice K ks.length kc, .string s] 33))
  have hO2 := (hO.no f5).alloc (.cells #[.slice K ks.length kc, .string s] 33)
  obtain ⟨A1, c1, w1, hrun, hO1, hgr, hat⟩ := app_one hO2 (K, kc, (ks, s)) hP (c := 1) (rcs_new (w := w5) (Ob.new w5 _ _)) hj (by have := f5.size; simp; omega)
  exact ⟨A1, c1, w1, hrun, hO1, hgr, fun w hw f => ((f.tr f5).alloc _).grown hgr (fun k hk => .inr (by have := (hO2.blk k hk).1; omega)), by simpa using hat⟩
/-- A record as it stands elsewhere, put behind. -/
theorem push_old {w5 : World} {B0 j cP kc : Nat} {Q : Nat → Prop} {P K : Option Addr} {rs : List Rec} {ks : List Nat} {s : ByteArray} (hO : Ow w5 B0 33 Q P j cP rs) (hB : B0 ≤ w5.heap.size) (hk : Pk w5 (fun b => Q b ∧ Av P b) (K, kc, (ks, s))) (hj : j ≤ 2000000) :
    ∃ A1 c1 w1, (appSem #[40, 40] 40 #[.slice P j cP, .slice (some ⟨w5.heap.size, 0, none⟩) 1 1]).run Try.prog (w5.alloc (.cells #[.slice K ks.length kc, .string s] 33)) = .ok (.slice A1 (j + 1) c1) w1 ∧ Ow w1 B0 33 Q A1 (j + 1) c1 (rs ++ [(ks, s)]) ∧ (w5.alloc (.cells #[.slice K ks.length kc, .string s] 33)).grownBy w1 (Value.slice P j cP).ownBlock ∧ (∀ w, w.heap.size ≤ B0 → Fr No w w5 → Fr No w w1) ∧ ((Value.slice A1 (j + 1) c1).ownBlock = (Value.slice P j cP).ownBlock ∨ (Value.slice A1 (j + 1) c1).ownBlock = .some (w5.heap.size + 1)) := by
  have hP := hk.no ((Fr.refl No w5).alloc (.cells #[.slice K ks.length kc, .string s] 33))
  have hO2 := hO.alloc (.cells #[.slice K ks.length kc, .string s] 33)
  obtain ⟨A1, c1, w1, hrun, hO1, hgr, hat⟩ := app_one hO2 (K, kc, (ks, s)) hP (c := 1) (rcs_new (w := w5) (Ob.new w5 _ _)) hj (by simp; omega)
  exact ⟨A1, c1, w1, hrun, hO1, hgr, fun w hw f => (f.alloc _).grown hgr (fun k hk => .inr (by have := (hO2.blk k hk).1; omega)), by simpa using hat⟩
theorem take_succ (rs : List Rec) (i : Nat) (h : i < rs.length) : rs.take (i + 1) = rs.take i ++ [rs.getD i rec0] := by
  rw [List.take_succ_eq_append_getElem h]
  congr 2
  simp [List.getD_eq_getElem?_getD, h]
end Go.Proofs.Yteckbcfigklkpaa.Rk
