/- Lists of records that are built: rows of the call's own, their points anywhere. No program in sight. -/
import Derived.Test.YtifpigcgkpmheaaRv
import Derived.Test.YtifpigcgkpmheaaGa
import Derived.ArgAppend
namespace Go.Proofs.Ytifpigcgkpmheaa.Ro
open Go.RowKit Go.Proofs.Ytifpigcgkpmheaa.Base Go.Proofs.Ytifpigcgkpmheaa.App Go.Proofs.Ytifpigcgkpmheaa.Ty Go.Proofs.Ytifpigcgkpmheaa.Ky Go.Proofs.Ytifpigcgkpmheaa.Bx Go.Proofs.Ytifpigcgkpmheaa.As Go.Proofs.Ytifpigcgkpmheaa.Rv
set_option linter.unusedVariables false
/-- A record that stands somewhere: its point's address and capacity, and what it is. -/
abbrev Pr := Option Addr × Nat × Rec
def pr0 : Pr := (none, 0, rec0)
def rcells (ps : List Pr) : List Value := ps.flatMap (fun p => [Value.slice p.1 p.2.2.1.length p.2.1, Value.string p.2.2.2])
def recs (ps : List Pr) : List Rec := ps.map (fun p => p.2.2)
theorem recs_len (ps : List Pr) : (recs ps).length = ps.length := by simp [recs]
theorem recs_app (ps qs : List Pr) : recs (ps ++ qs) = recs ps ++ recs qs := by simp [recs]
theorem recs_get (ps : List Pr) (i : Nat) : (recs ps).getD i rec0 = (ps.getD i pr0).2.2 := by
  unfold recs
  by_cases h : i < ps.length
  · simp [List.getD_eq_getElem?_getD, h]
  · simp [List.getD_eq_getElem?_getD, List.getElem?_eq_none (Nat.le_of_not_lt h), pr0]
theorem rcells_app (ps qs : List Pr) : rcells (ps ++ qs) = rcells ps ++ rcells qs := by simp [rcells]
theorem rcells_len (ps : List Pr) : (rcells ps).length = ps.length * 2 := by
  induction ps with
  | nil => rfl
  | cons p ps ih => simp only [rcells, List.flatMap_cons, List.length_append, List.length_cons, List.length_nil] at ih ⊢; omega
theorem rcells_one (ps : List Pr) : ∀ u ∈ rcells ps, u.oneCell' = true := by
  intro u hu
  simp only [rcells, List.mem_flatMap] at hu
  obtain ⟨p, _, hp⟩ := hu
  simp only [List.mem_cons, List.not_mem_nil, or_false] at hp
  rcases hp with rfl | rfl <;> rfl
theorem rcells_get (ps : List Pr) (i : Nat) (h : i < ps.length) : (rcells ps)[i * 2]? = some (.slice (ps.getD i pr0).1 (ps.getD i pr0).2.2.1.length (ps.getD i pr0).2.1) ∧ (rcells ps)[i * 2 + 1]? = some (.string (ps.getD i pr0).2.2.2) := by
  induction ps generalizing i with
  | nil => simp at h
  | cons p ps ih =>
    cases i with
    | zero => simp [rcells]
    | succ i =>
      have hi := ih i (by simpa using h)
      have e : rcells (p :: ps) = [Value.slice p.1 p.2.2.1.length p.2.1, Value.string p.2.2.2] ++ rcells ps := by simp [rcells]
      have e1 : (i + 1) * 2 = i * 2 + 2 := by omega
      have e2 : (i + 1) * 2 + 1 = i * 2 + 1 + 2 := by omega
      rw [e, e1, show i * 2 + 2 + 1 = i * 2 + 1 + 2 from by omega, List.getElem?_append_right (by simp), List.getElem?_append_right (by simp)]
      simpa using hi
theorem rcells_take (ps : List Pr) (i : Nat) : rcells (ps.take i) = (rcells ps).take (i * 2) := by
  induction ps generalizing i with
  | nil => simp [rcells]
  | cons p ps ih =>
    cases i with
    | zero => simp [rcells]
    | succ i =>
      have e : ∀ p ps, rcells (p :: ps) = Value.slice p.1 p.2.2.1.length p.2.1 :: Value.string p.2.2.2 :: rcells ps := fun p ps => by simp [rcells]
      rw [List.take_succ_cons, e, e, ih i, show (i + 1) * 2 = i * 2 + 1 + 1 from by omega, List.take_succ_cons, List.take_succ_cons]
theorem rcells_drop (ps : List Pr) (i : Nat) : rcells (ps.drop i) = (rcells ps).drop (i * 2) := by
  induction ps generalizing i with
  | nil => simp [rcells]
  | cons p ps ih =>
    cases i with
    | zero => simp [rcells]
    | succ i =>
      have e : ∀ p ps, rcells (p :: ps) = Value.slice p.1 p.2.2.1.length p.2.1 :: Value.string p.2.2.2 :: rcells ps := fun p ps => by simp [rcells]
      rw [List.drop_succ_cons, e, ih i, show (i + 1) * 2 = i * 2 + 1 + 1 from by omega, List.drop_succ_cons, List.drop_succ_cons]
theorem recs_take (ps : List Pr) (i : Nat) : recs (ps.take i) = (recs ps).take i := by simp [recs, List.map_take]
theorem recs_drop (ps : List Pr) (i : Nat) : recs (ps.drop i) = (recs ps).drop i := by simp [recs, List.map_drop]
/-- A record that is read, its point's block of the kind P. -/
def Pk (w : World) (P : Nat → Prop) (p : Pr) : Prop := Kv w p.1 p.2.2.1.length p.2.1 p.2.2.1 ∧ p.2.2.2.size ≤ maxLen ∧ (0 < p.2.2.1.length → ∀ b off, p.1 = some ⟨b, off, none⟩ → P b)
/-- Not the block that a slice lies in. -/
def Av (A : Option Addr) (b : Nat) : Prop := ∀ g o, A = some ⟨g, o, none⟩ → b ≠ g
section
variable {S P P' : Nat → Prop} {w w1 : World} {p : Pr}
theorem Pk.mono (h : Pk w P p) (hp : ∀ b, P b → P' b) : Pk w P' p := ⟨h.1, h.2.1, fun h0 b off e => hp b (h.2.2 h0 b off e)⟩
theorem Pk.lt (h : Pk w P p) : Pk w (fun b => P b ∧ b < w.heap.size) p := ⟨h.1, h.2.1, fun h0 b off e => ⟨h.2.2 h0 b off e, by
  obtain ⟨b', off', h1, h2⟩ := h.1.get 0 h0
  rw [e] at h1
  injection h1 with h1
  injection h1 with e1 e2
  subst e1; subst e2
  exact World.block_lt_of_cell? w _ h2⟩⟩
theorem Pk.fr (h : Pk w P p) (f : Fr S w w1) (hn : ∀ b, P b → ¬ S b) : Pk w1 P p := by
  refine ⟨?_, h.2.1, h.2.2⟩
  rcases Nat.eq_zero_or_pos p.2.2.1.length with h0 | h0
  · exact ⟨rfl, h.1.cap, h.1.most, h.1.lt, fun hx => by omega⟩
  · exact h.1.fr f (fun b off e => hn b (h.2.2 h0 b off e))
theorem Pk.no (h : Pk w P p) (f : Fr No w w1) : Pk w1 P p := h.fr f (fun _ _ x => x)
end
/-- A list of records of the call's own; its points are not in its own block, and of the kind P. -/
def Ow (w : World) (base : Nat) (e : TypeId) (P : Nat → Prop) (A : Option Addr) (n c : Nat) (rs : List Rec) : Prop :=
  ∃ ps, recs ps = rs ∧ w.ownsRow base e 2 (.slice A n c) n (rcells ps) ∧ ∀ p ∈ ps, Pk w (fun b => P b ∧ Av A b) p
section
variable {S P P' : Nat → Prop} {w w1 : World} {A : Option Addr} {n c base : Nat} {e : TypeId} {rs : List Rec}
theorem Ow.mono (h : Ow w base e P A n c rs) (hp : ∀ b, P b → P' b) : Ow w base e P' A n c rs := by
  obtain ⟨ps, h1, h2, h3⟩ := h
  exact ⟨ps, h1, h2, fun p hp' => (h3 p hp').mono (fun b hb => ⟨hp b hb.1, hb.2⟩)⟩
theorem Ow.lt (h : Ow w base e P A n c rs) : Ow w base e (fun b => P b ∧ b < w.heap.size) A n c rs := by
  obtain ⟨ps, h1, h2, h3⟩ := h
  exact ⟨ps, h1, h2, fun p hp' => (h3 p hp').lt.mono (fun b hb => ⟨⟨hb.1.1, hb.2⟩, hb.1.2⟩)⟩
theorem own_len2 {v : Value} {xs : List Value} (h : w.ownsRow base e 2 v n xs) : xs.length = n * 2 := h.1
theorem Ow.len (h : Ow w base e P A n c rs) : rs.length = n := by
  obtain ⟨ps, rfl, h2, h3⟩ := h
  have := own_len2 h2
  rw [rcells_len] at this
  rw [recs_len]; omega
theorem Ow.blk (h : Ow w base e P A n c rs) : ∀ k, (Value.slice A n c).ownBlock = some k → base ≤ k ∧ k < w.heap.size := by
  obtain ⟨ps, _, h2, _⟩ := h
  exact h2.lt
theorem Ow.nil_ (w : World) (base : Nat) (e : TypeId) (P : Nat → Prop) : Ow w base e P none 0 0 [] := ⟨[], rfl, World.ownsRow_nil _ _ _ _, fun p hp => by simp at hp⟩
/-- A frame that writes neither the list's block nor its points. -/
theorem Ow.fr (h : Ow w base e P A n c rs) (f : Fr S w w1) (hA : ∀ k, (Value.slice A n c).ownBlock = some k → ¬ S k) (hP : ∀ b, P b → ¬ S b) : Ow w1 base e P A n c rs := by
  obtain ⟨ps, h1, h2, h3⟩ := h
  exact ⟨ps, h1, own_fr h2 f hA, fun p hp => (h3 p hp).fr f (fun b hb => hP b hb.1)⟩
theorem Ow.no (h : Ow w base e P A n c rs) (f : Fr No w w1) : Ow w1 base e P A n c rs := h.fr f (fun _ _ x => x) (fun _ _ x => x)
theorem Ow.alloc (h : Ow w base e P A n c rs) (o : Obj) : Ow (w.alloc o) base e P A n c rs := h.no ((Fr.refl No w).alloc o)
theorem Ow.drew (h : Ow w base e P A n c rs) : Ow w.drew base e P A n c rs := h.no (Fr.refl No w).drew
theorem Ow.drewN (h : Ow w base e P A n c rs) (k : Nat) : Ow (w.drewN k) base e P A n c rs := h.no ((Fr.refl No w).drewN k)
theorem Ow.base_ (h : Ow w base e P A n c rs) {base' : Nat} (hb : base' ≤ base) : Ow w base' e P A n c rs := by
  obtain ⟨ps, h1, h2, h3⟩ := h
  exact ⟨ps, h1, own_base h2 hb, h3⟩
/-- The cells that a list's slice has. -/
def Rcs (w : World) (A : Option Addr) (n : Nat) (cs : List Value) : Prop := 0 < n → ∃ b off, A = some ⟨b, off, none⟩ ∧ ∀ j u, cs[j]? = some u → w.cell? ⟨b, off + j, none⟩ = some u
theorem add_lit (b off j : Nat) : (⟨b, off, none⟩ : Addr).add j = ⟨b, off + j, none⟩ := by unfold Addr.add; split <;> simp_all
theorem Rcs.rc {cs : List Value} (h : Rcs w A n cs) (hl : cs.length = n * 2) : Rc w A cs := by
  intro j u hj
  have h0 : j < cs.length := (List.getElem?_eq_some_iff.1 hj).1
  obtain ⟨b, off, rfl, h2⟩ := h (by omega)
  exact ⟨_, rfl, by rw [add_lit]; exact h2 j u hj⟩
/-- A list that is read, taken apart. -/
theorem Rv.parts (h : Rv w A n c rs) : ∃ ps, recs ps = rs ∧ Rcs w A n (rcells ps) ∧ ∀ p ∈ ps, Pk w (fun b => b < w.heap.size) p := by
  have hx : ∀ i, i < rs.length → ∃ p : Pr, p.2.2 = rs.getD i rec0 ∧ Pk w (fun b => b < w.heap.size) p ∧ ∃ b off, A = some ⟨b, off, none⟩ ∧ w.cell? ⟨b, off + i * 2, none⟩ = some (.slice p.1 p.2.2.1.length p.2.1) ∧ w.cell? ⟨b, off + i * 2 + 1, none⟩ = some (.string p.2.2.2) := by
    intro i hi
    obtain ⟨b, off, KA, kc, h1, h2, h3, h4, h5⟩ := h.get i hi
    refine ⟨(KA, kc, rs.getD i rec0), rfl, ?_, b, off, h1, h2, h3⟩
    exact (Pk.lt (P := fun _ => True) ⟨h4, h5, fun _ _ _ _ => trivial⟩).mono (fun b hb => hb.2)
  obtain ⟨ps, hl, hq⟩ := list_of rs.length hx
  refine ⟨ps, ?_, fun h0 => ?_, ?_⟩
  · apply List.ext_getElem
    · rw [recs_len]; exact hl
    · intro i h1 h2
      have := (hq i (by omega)).1
      simp only [recs, List.getElem_map]
      rw [this]
      simp [List.getD_eq_getElem?_getD, h2]
  · obtain ⟨b, off, hA, _⟩ := h.at_ (by have := h.len; omega)
    refine ⟨b, off, hA, fun j u hj => ?_⟩
    have hj' : j < (rcells ps).length := (List.getElem?_eq_some_iff.1 hj).1
    rw [rcells_len] at hj'
    obtain ⟨_, _, b', off', hA', h5, h6⟩ := hq (j / 2) (by omega)
    rw [hA] at hA'
    injection hA' with hA'
    injection hA' with e1 e2
    subst e1; subst e2
    have hg := rcells_get ps (j / 2) (by omega)
    have ep : ps.getD (j / 2) pr0 = ps[j / 2]'(by omega) := by simp [List.getD_eq_getElem?_getD, show j / 2 < ps.length by omega]
    rw [ep] at hg
    rcases Nat.mod_two_eq_zero_or_one j with hm | hm
    · have e : j / 2 * 2 = j := by omega
      rw [e] at hg h5
      rw [hg.1] at hj
      injection hj with hj
      rw [h5, hj]
    · have e : j / 2 * 2 + 1 = j := by omega
      rw [e] at hg
      rw [hg.2] at hj
      injection hj with hj
      rw [show b = b from rfl, show off + j = off + j / 2 * 2 + 1 from by omega, h6, hj]
  · intro p hp
    obtain ⟨i, hi, rfl⟩ := List.mem_iff_getElem.1 hp
    exact (hq i hi).2.1
/-- Put together again. -/
theorem Rv.of_parts {ps : List Pr} (hn : n = ps.length) (hc : n ≤ c) (hm : c ≤ maxLen) (h : Rcs w A n (rcells ps)) (hp : ∀ p ∈ ps, Pk w P p) : Rv w A n c (recs ps) := by
  refine ⟨by rw [recs_len]; exact hn, hc, hm, fun h0 => ?_⟩
  rw [recs_len] at h0
  obtain ⟨b, off, h1, h2⟩ := h (by omega)
  refine ⟨b, off, h1, fun i hi => ?_⟩
  rw [recs_len] at hi
  have ep : ps.getD i pr0 = ps[i] := by simp [List.getD_eq_getElem?_getD, hi]
  obtain ⟨h3, h4⟩ := rcells_get ps i hi
  have h5 := hp _ (List.getElem_mem hi)
  rw [recs_get]
  refine ⟨(ps.getD i pr0).1, (ps.getD i pr0).2.1, h2 _ _ h3, by have := h2 _ _ h4; rwa [← Nat.add_assoc] at this, ?_, ?_⟩
  · rw [ep]; exact h5.1
  · rw [ep]; exact h5.2.1
theorem own_cap {xs : List Value} {size : Nat} (h : w.ownsRow base e size (.slice A n c) n xs) : n ≤ c ∧ c ≤ maxLen := by
  rcases h.2 with ⟨h1, h2⟩ | ⟨g, cap, cur, h1, _, _, h2, h3, _⟩
  · injection h1 with _ h4 h5
    subst h2; subst h5
    exact ⟨Nat.le_refl _, Nat.zero_le _⟩
  · injection h1 with _ h4 h5
    subst h5
    exact ⟨h2, h3⟩
theorem own_rcs {xs : List Value} (h : w.ownsRow base e 2 (.slice A n c) n xs) : Rcs w A n xs := by
  intro h0
  rcases h.2 with ⟨h1, h2⟩ | ⟨g, cap, cur, h1, _⟩
  · omega
  · injection h1 with h1
    refine ⟨g, 0, h1, fun j u hj => ?_⟩
    subst h1
    have hj' : j < xs.length := (List.getElem?_eq_some_iff.1 hj).1
    rw [Nat.zero_add, h.cellAt j (by have := h.1; omega), hj]
theorem Ow.rv (h : Ow w base e P A n c rs) : Rv w A n c rs := by
  have hl := h.len
  obtain ⟨ps, rfl, h2, h3⟩ := h
  rw [recs_len] at hl
  exact Rv.of_parts hl.symm (own_cap h2).1 (own_cap h2).2 (own_rcs h2) h3
/-- Part of a list's slice. -/
theorem Rcs.sub {ps : List Pr} (h : Rcs w A n (rcells ps)) (hn : ps.length = n) (i j : Nat) (hij : i ≤ j) (hj : j ≤ n) (A1 : Option Addr) (hA : i < j → ∀ b off, A = some ⟨b, off, none⟩ → A1 = some ⟨b, off + i * 2, none⟩) : Rcs w A1 (j - i) (rcells ((ps.take j).drop i)) := by
  intro h0
  obtain ⟨b, off, h1, h2⟩ := h (by omega)
  refine ⟨b, off + i * 2, hA (by omega) b off h1, fun k u hk => ?_⟩
  rw [rcells_drop, rcells_take, List.getElem?_drop, List.getElem?_take] at hk
  split at hk
  · rw [Nat.add_assoc]; exact h2 _ _ hk
  · cases hk
theorem Rcs.no {cs : List Value} (h : Rcs w A n cs) (f : Fr No w w1) : Rcs w1 A n cs := by
  intro h0
  obtain ⟨b, off, h1, h2⟩ := h h0
  refine ⟨b, off, h1, fun j u hj => ?_⟩
  have hb := World.block_lt_of_cell? w _ (h2 j u hj)
  rw [World.cell?_of_block (w := w) (f.block _ hb (fun x => x))]
  exact h2 j u hj
theorem Rv.sub (h : Rv w A n c rs) (i j c1 : Nat) (hij : i ≤ j) (hj : j ≤ n) (hc : j - i ≤ c1) (hm : c1 ≤ maxLen) (A1 : Option Addr) (hA : i < j → ∀ b off, A = some ⟨b, off, none⟩ → A1 = some ⟨b, off + i * 2, none⟩) : Rv w A1 (j - i) c1 ((rs.take j).drop i) := by
  have hl := h.len
  obtain ⟨ps, rfl, h2, h3⟩ := Rv.parts h
  rw [recs_len] at hl
  rw [← recs_take, ← recs_drop]
  exact Rv.of_parts (by simp; omega) hc hm (h2.sub hl.symm i j hij hj A1 hA) (fun p hp => h3 p (List.mem_of_mem_take (List.mem_of_mem_drop hp)))
theorem rcells_cons (p : Pr) (ps : List Pr) : rcells (p :: ps) = Value.slice p.1 p.2.2.1.length p.2.1 :: Value.string p.2.2.2 :: rcells ps := by simp [rcells]
theorem rcells_key (ps : List Pr) (i : Nat) (q : Pr) (h : i < ps.length) (hq : q.2.2 = (ps.getD i pr0).2.2) : rcells (ps.set i q) = (rcells ps).set (i * 2) (.slice q.1 q.2.2.1.length q.2.1) := by
  induction ps generalizing i with
  | nil => simp at h
  | cons p ps ih =>
    cases i with
    | zero =>
      have e : q.2.2 = p.2.2 := by simpa using hq
      rw [List.set_cons_zero, rcells_cons, rcells_cons, e]
      rfl
    | succ i =>
      have hi := ih i (by simpa using h) (by simpa using hq)
      rw [List.set_cons_succ, rcells_cons, rcells_cons, hi, show (i + 1) * 2 = i * 2 + 1 + 1 from by omega, List.set_cons_succ, List.set_cons_succ]
theorem rcells_data (ps : List Pr) (i : Nat) (q : Pr) (h : i < ps.length) (hq : q.1 = (ps.getD i pr0).1 ∧ q.2.1 = (ps.getD i pr0).2.1 ∧ q.2.2.1 = (ps.getD i pr0).2.2.1) : rcells (ps.set i q) = (rcells ps).set (i * 2 + 1) (.string q.2.2.2) := by
  induction ps generalizing i with
  | nil => simp at h
  | cons p ps ih =>
    cases i with
    | zero =>
      obtain ⟨e1, e2, e3⟩ : q.1 = p.1 ∧ q.2.1 = p.2.1 ∧ q.2.2.1 = p.2.2.1 := by simpa using hq
      rw [List.set_cons_zero, rcells_cons, rcells_cons, e1, e2, e3]
      rfl
    | succ i =>
      have hi := ih i (by simpa using h) (by simpa using hq)
      rw [List.set_cons_succ, rcells_cons, rcells_cons, hi, show (i + 1) * 2 + 1 = i * 2 + 1 + 1 + 1 from by omega, List.set_cons_succ, List.set_cons_succ]
/-- A record's cells in a list of the call's own. -/
theorem Ow.cells (h : Ow w base e P A n c rs) (i : Nat) (hi : i < n) : ∃ g KA kc, A = some ⟨g, 0, none⟩ ∧ base ≤ g ∧ w.cell? ⟨g, i * 2, none⟩ = some (.slice KA (rs.getD i rec0).1.length kc) ∧ w.cell? ⟨g, i * 2 + 1, none⟩ = some (.string (rs.getD i rec0).2) ∧ w.frozen? ⟨g, i * 2, none⟩ = false ∧ w.frozen? ⟨g, i * 2 + 1, none⟩ = false ∧ Kv w KA (rs.getD i rec0).1.length kc (rs.getD i rec0).1 ∧ (rs.getD i rec0).2.size ≤ maxLen := by
  have hl := h.len
  obtain ⟨ps, rfl, h2, h3⟩ := h
  rw [recs_len] at hl
  rcases h2.2 with ⟨h4, h5⟩ | ⟨g, cap, cur, h4, hg, _⟩
  · omega
  · injection h4 with h4
    subst h4
    have ep : ps.getD i pr0 = ps[i]'(by omega) := by simp [List.getD_eq_getElem?_getD, show i < ps.length by omega]
    obtain ⟨c1, c2⟩ := rcells_get ps i (by omega)
    have hp := h3 _ (List.getElem_mem (show i < ps.length by omega))
    rw [recs_get]
    refine ⟨g, (ps.getD i pr0).1, (ps.getD i pr0).2.1, rfl, hg, ?_, ?_, h2.frozenAt _, h2.frozenAt _, by rw [ep]; exact hp.1, by rw [ep]; exact hp.2.1⟩
    · rw [h2.cellAt _ (by omega), c1]
    · rw [h2.cellAt _ (by omega), c2]
/-- A record's point is replaced by the same point elsewhere. -/
theorem Ow.store_key {g K kc : _} (h : Ow w base e P (some ⟨g, 0, none⟩) n c rs) (i : Nat) (hi : i < n) (hk : Kv w K (rs.getD i rec0).1.length kc (rs.getD i rec0).1) (hK : ∀ b off, K = some ⟨b, off, none⟩ → P b ∧ b ≠ g) : Ow (w.setCell ⟨g, i * 2, none⟩ (.slice K (rs.getD i rec0).1.length kc)) base e P (some ⟨g, 0, none⟩) n c rs := by
  have hl := h.len
  obtain ⟨ps, rfl, h2, h3⟩ := h
  rw [recs_len] at hl
  have hil : i < ps.length := by omega
  have ep : ps.getD i pr0 = ps[i] := by simp [List.getD_eq_getElem?_getD, hil]
  rw [recs_get] at hk ⊢
  refine ⟨ps.set i (K, kc, (ps.getD i pr0).2.2), ?_, ?_, fun p hp => ?_⟩
  · unfold recs
    rw [List.map_set]
    apply List.ext_getElem
    · simp
    · intro j h4 h5
      rw [List.getElem_set]
      split
      · next e => subst e; simp only [ep, List.getElem_map]
      · rfl
  · have h4 := (h2.stored (i * 2) (.slice K (ps.getD i pr0).2.2.1.length kc)).1
    rw [← rcells_key ps i (K, kc, (ps.getD i pr0).2.2) hil rfl] at h4
    exact h4
  · have f : Fr (fun k => k = g) w (w.setCell ⟨g, i * 2, none⟩ (.slice K (ps.getD i pr0).2.2.1.length kc)) := (Fr.refl (fun k => k = g) w).setCell (p := ⟨g, i * 2, none⟩) (.inl rfl) _
    have hall : Pk w (fun b => P b ∧ Av (some ⟨g, 0, none⟩) b) p := by
      rcases List.mem_or_eq_of_mem_set hp with hp | rfl
      · exact h3 p hp
      · have h5 := (h3 _ (List.getElem_mem hil)).2.1
        rw [← ep] at h5
        exact ⟨hk, h5, fun _ b off e => ⟨(hK b off e).1, fun g' o' eg => by injection eg with eg; injection eg with e1; subst e1; exact (hK b off e).2⟩⟩
    exact hall.fr f (fun b hb e => hb.2 g 0 rfl e)
end
section
variable {P P' : Nat → Prop} {w w1 : World} {A0 A : Option Addr} {n m c c0 base : Nat} {e : TypeId} {rs : List Rec}
/-- append to a list of the call's own. -/
theorem app_recs {Pg : Program} (t : TypeId) (z : Value) (bytes : Nat) (ht : Pg.underlying t = .some (.slice e))
    (hinfo : (Pg.info? e).map (fun i => (i.zero, i.size, i.bytes)) = .some (.some z, 2, bytes)) (hz : z.cells.size = 2) (hb0 : 0 < bytes)
    (hO : Ow w base e P A0 n c0 rs) {ps : List Pr} (hps : ∀ p ∈ ps, Pk w (fun b => P b ∧ Av A0 b) p) (hm : ps.length = m) (hr : Rcs w A m (rcells ps)) (hb : (n + m) * bytes ≤ 140737488355328) (hbase : base ≤ w.heap.size) :
    ∃ A1 c1 w1, (appSem #[t, t] t #[.slice A0 n c0, .slice A m c]).run Pg w = .ok (.slice A1 (n + m) c1) w1 ∧ Ow w1 base e P A1 (n + m) c1 (rs ++ recs ps) ∧ w.grownBy w1 (Value.slice A0 n c0).ownBlock ∧ ((Value.slice A1 (n + m) c1).ownBlock = (Value.slice A0 n c0).ownBlock ∨ (Value.slice A1 (n + m) c1).ownBlock = .some w.heap.size) := by
  obtain ⟨qs, rfl, h2, h3⟩ := hO
  have hl : (rcells ps).length = m * 2 := by rw [rcells_len, hm]
  obtain ⟨A1, c1, w1, hrun, hown, hgr, hat⟩ := app_eq (P := Pg) (w := w) base t e z 2 bytes ht hinfo hz (by decide) hb0 h2 A m c (rcells ps) hl (hr.rc hl) (rcells_one ps) hb hbase
  refine ⟨A1, c1, w1, hrun, ⟨qs ++ ps, recs_app _ _, by rw [rcells_app]; exact hown, fun p hp => ?_⟩, hgr, hat⟩
  have hall : Pk w (fun b => P b ∧ Av A0 b) p := by
    rcases List.mem_append.1 hp with hp | hp
    · exact h3 p hp
    · exact hps p hp
  have f := grown_fr hgr
  have h5 := hall.lt
  refine (h5.mono (P' := fun b => (P b ∧ Av A1 b) ∧ ¬ ((Value.slice A0 n c0).ownBlock = some b)) (fun b hb => ⟨⟨hb.1.1, fun g o eA => ?_⟩, fun hown => ?_⟩)).fr f (fun b hb => hb.2) |>.mono (fun b hb => hb.1)
  · subst eA
    rcases hat with hat | hat
    · rcases A0 with _ | ⟨g0, o0, s0⟩
      · cases hat
      · have h6 : g = g0 := by simpa [Value.ownBlock] using hat
        subst h6
        rcases h2.2 with ⟨h7, _⟩ | ⟨g', cap, cur, h7, _⟩
        · cases h7
        · injection h7 with h7
          injection h7 with h7
          injection h7 with h8 h9 h10
          subst h8; subst h9; subst h10
          exact hb.1.2 g 0 rfl
    · have h6 : g = w.heap.size := by simpa [Value.ownBlock] using hat
      have := hb.2
      omega
  · rcases A0 with _ | ⟨g0, o0, s0⟩
    · cases hown
    · rcases h2.2 with ⟨h7, _⟩ | ⟨g', cap, cur, h7, _⟩
      · cases h7
      · injection h7 with h7
        injection h7 with h7
        injection h7 with h8 h9 h10
        subst h8; subst h9; subst h10
        have h6 : g0 = b := by simpa [Value.ownBlock] using hown
        exact hb.1.2 g0 0 rfl h6.symm
/-- append to a slice that has no room: a list of the call's own. -/
theorem app_full {Pg : Program} (t : TypeId) (z : Value) (bytes : Nat) (ht : Pg.underlying t = .some (.slice e))
    (hinfo : (Pg.info? e).map (fun i => (i.zero, i.size, i.bytes)) = .some (.some z, 2, bytes)) (hz : z.cells.size = 2) (hb0 : 0 < bytes)
    {qs ps : List Pr} (hqs : ∀ p ∈ qs, Pk w P p) (hn : qs.length = n) (hr0 : Rcs w A0 n (rcells qs)) (h00 : A0 = none → c0 = 0) (hps : ∀ p ∈ ps, Pk w P p) (hm : ps.length = m) (hr : Rcs w A m (rcells ps)) (hroom : c0 < n + m) (hm0 : 0 < m) (hb : (n + m) * bytes ≤ 140737488355328) :
    ∃ A1 c1 w1, (appSem #[t, t] t #[.slice A0 n c0, .slice A m c]).run Pg w = .ok (.slice A1 (n + m) c1) w1 ∧ Ow w1 w.heap.size e P A1 (n + m) c1 (recs qs ++ recs ps) ∧ Fr No w w1 := by
  have hl : (rcells ps).length = m * 2 := by rw [rcells_len, hm]
  have hlo : (rcells qs).length = n * 2 := by rw [rcells_len, hn]
  have fin : ∀ v1 w1, (appSem #[t, t] t #[.slice A0 n c0, .slice A m c]).run Pg w = .ok v1 w1 → w1.ownsRow w.heap.size e 2 v1 (n + m) (rcells qs ++ rcells ps) → Fr No w w1 → ∃ A1 c1 w1, (appSem #[t, t] t #[.slice A0 n c0, .slice A m c]).run Pg w = .ok (.slice A1 (n + m) c1) w1 ∧ Ow w1 w.heap.size e P A1 (n + m) c1 (recs qs ++ recs ps) ∧ Fr No w w1 := by
    intro v1 w1 hrun hown f
    obtain ⟨A1, c1, rfl⟩ := own_slice hown
    refine ⟨A1, c1, w1, hrun, ⟨qs ++ ps, recs_app _ _, by rw [rcells_app]; exact hown, fun p hp => ?_⟩, f⟩
    have hall : Pk w P p := by
      rcases List.mem_append.1 hp with hp | hp
      · exact hqs p hp
      · exact hps p hp
    refine (hall.lt.no f).mono (fun b hb => ⟨hb.1, fun g o eA => ?_⟩)
    subst eA
    have := (hown.lt g rfl).1
    have := hb.2
    omega
  obtain ⟨b, off, rfl, hcells⟩ := hr hm0
  have hcells' : ∀ j u, (rcells ps)[j]? = some u → w.cell? ((⟨b, off, none⟩ : Addr).add j) = some u := fun j u hj => by rw [add_lit]; exact hcells j u hj
  have hlen : n + m ≤ 140737488355328 := Nat.le_trans (Nat.le_mul_of_pos_right _ hb0) hb
  have hmx : (140737488355328 : Nat) ≤ maxLen := by decide
  rcases A0 with _ | a0
  · have hn0 : n = 0 := by
      rcases Nat.eq_zero_or_pos n with h | h
      · exact h
      · obtain ⟨b', off', h', _⟩ := hr0 h
        cases h'
    subst hn0
    have := h00 rfl
    subst this
    have hq : qs = [] := List.eq_nil_of_length_eq_zero hn
    subst hq
    obtain ⟨A1, c1, w1, hrun, hown, hgr, hat⟩ := app_eq (P := Pg) (w := w) w.heap.size t e z 2 bytes ht hinfo hz (by decide) hb0 (World.ownsRow_nil w w.heap.size e 2) (some ⟨b, off, none⟩) m c (rcells ps) hl (hr.rc hl) (rcells_one ps) hb (Nat.le_refl _)
    exact fin _ _ hrun hown ((Fr.refl No w).grown hgr (fun k hk => by cases hk))
  · obtain ⟨i0, hi, hzz⟩ := Option.map_eq_some_iff.1 hinfo
    simp only [Prod.mk.injEq] at hzz
    obtain ⟨hz0, hz1, hz2⟩ := hzz
    have ho : ∀ j u, (rcells qs)[j]? = some u → w.cell? (a0.add j) = some u := fun j u hj => by
      have h0 : j < (rcells qs).length := (List.getElem?_eq_some_iff.1 hj).1
      obtain ⟨b', off', h1, h2⟩ := hr0 (by omega)
      injection h1 with h1
      subst h1
      rw [add_lit]; exact h2 j u hj
    obtain ⟨v1, w1, hrun, hown, hgr⟩ := run_append_arg_grows (P := Pg) w t t e i0 z 2 bytes ht hi hz0 hz1 hz2 hz (by decide) a0 n c0 (rcells qs) hlo ho ⟨b, off, none⟩ m c (rcells ps) hl hcells' hroom (by omega) hb
    exact fin _ _ hrun hown ((Fr.refl No w).grown hgr (fun k hk => by cases hk))
end
end Go.Proofs.Ytifpigcgkpmheaa.Ro
