/- What arguments read as: kinds of data, and their readings in memory. No program in sight. -/
import Derived.Test.YtoaikponefcbiaaApp
import Derived.ProofKit
import Derived.ChangeArms
namespace Go.Proofs.Ytoaikponefcbiaa.Ty
open Go.RowKit Go.Proofs.Ytoaikponefcbiaa.Base Go.Proofs.Ytoaikponefcbiaa.App
set_option linter.unusedVariables false

inductive Ty where
  | int (k : IntKind)
  | bool
  | str
  | sl (e : TypeId) (t : Ty)
  | nl
  | cn (a b : Ty)
def Ty.D : Ty → Type
  | .int _ => Int
  | .bool => Bool
  | .str => ByteArray
  | .sl _ t => List t.D
  | .nl => Unit
  | .cn a b => a.D × b.D
def Ty.sz : Ty → Nat
  | .int _ => 1
  | .bool => 1
  | .str => 1
  | .sl _ _ => 1
  | .nl => 0
  | .cn a b => a.sz + b.sz
/-- The cells cs read as x. -/
def Rd : (t : Ty) → World → t.D → List Value → Prop
  | .int k, _, (n : Int), cs => cs = [.int k n] ∧ (Lit.int k n).wf = true
  | .bool, _, (b : Bool), cs => cs = [.bool b]
  | .str, _, (s : ByteArray), cs => cs = [.string s] ∧ s.size ≤ maxLen
  | .sl _ t, w, (xs : List t.D), cs => ∃ A c, cs = [.slice A xs.length c] ∧ xs.length ≤ c ∧ c ≤ maxLen ∧
      ∀ i (h : i < xs.length), ∃ ad ecs, A = some ad ∧ ecs.length = t.sz ∧ Rd t w xs[i] ecs ∧ ∀ j u, ecs[j]? = some u → w.cell? (ad.add (i * t.sz + j)) = some u
  | .nl, _, _, cs => cs = []
  | .cn a b, w, p, cs => ∃ c1 c2, cs = c1 ++ c2 ∧ Rd a w p.1 c1 ∧ Rd b w p.2 c2
theorem Rd.len : ∀ {t : Ty} {w : World} {x : t.D} {cs : List Value}, Rd t w x cs → cs.length = t.sz
  | .int k, w, x, cs, h => by rw [h.1]; rfl
  | .bool, w, x, cs, h => by
    have h' : cs = [.bool x] := h
    rw [h']; rfl
  | .str, w, x, cs, h => by rw [h.1]; rfl
  | .sl e t, w, x, cs, h => by
    obtain ⟨A, c, h', _⟩ := h
    rw [h']; rfl
  | .nl, w, x, cs, h => by
    have h' : cs = [] := h
    rw [h']; rfl
  | .cn a b, w, x, cs, h => by
    obtain ⟨c1, c2, rfl, h1, h2⟩ := h
    rw [List.length_append, Rd.len h1, Rd.len h2]; rfl
theorem Rd.below : ∀ {t : Ty} {w w1 : World} {x : t.D} {cs : List Value}, Rd t w x cs → Below w.heap.size w w1 → Rd t w1 x cs
  | .int k, w, w1, x, cs, h, hb => h
  | .bool, w, w1, x, cs, h, hb => h
  | .str, w, w1, x, cs, h, hb => h
  | .sl e t, w, w1, x, cs, h, hb => by
    obtain ⟨A, c, h1, h2, h3, h4⟩ := h
    refine ⟨A, c, h1, h2, h3, fun i hi => ?_⟩
    obtain ⟨ad, ecs, h5, h6, h7, h8⟩ := h4 i hi
    exact ⟨ad, ecs, h5, h6, Rd.below h7 hb, fun j u hj => (hb.cell (World.block_lt_of_cell? w _ (h8 j u hj))).trans (h8 j u hj)⟩
  | .nl, w, w1, x, cs, h, hb => h
  | .cn a b, w, w1, x, cs, h, hb => by
    obtain ⟨c1, c2, h1, h2, h3⟩ := h
    exact ⟨c1, c2, h1, h2.below hb, h3.below hb⟩
theorem Rd.fr {t : Ty} {w w1 : World} {x : t.D} {cs : List Value} (h : Rd t w x cs) (f : Fr No w w1) : Rd t w1 x cs := h.below f.no

/-- The type T of the program (or these fields, from this place on) is of the kind t. -/
def isB (P : Program) : Ty → TypeId ⊕ (List Field × Nat) → Bool
  | .int k, .inl T => match P.underlying T with | some (.int k') => decide (k' = k) | _ => false
  | .bool, .inl T => match P.underlying T with | some .bool => true | _ => false
  | .str, .inl T => match P.underlying T with | some .string => true | _ => false
  | .sl e t, .inl T => match P.underlying T with | some (.slice e') => decide (e' = e) && isB P t (.inl e) && decide (P.cellsOf e = t.sz) | _ => false
  | .cn a b, .inl T => match P.underlying T with
    | some (.struct fs) => decide (P.cellsOf T = a.sz + b.sz) && (match fs.toList with | f :: r => decide (f.offset = 0) && decide (P.cellsOf f.type = a.sz) && isB P a (.inl f.type) && isB P b (.inr (r, a.sz)) | [] => false)
    | _ => false
  | .cn a b, .inr (l, off) => match l with | f :: r => decide (f.offset = off) && decide (P.cellsOf f.type = a.sz) && isB P a (.inl f.type) && isB P b (.inr (r, off + a.sz)) | [] => false
  | .nl, .inr (l, _) => match l with | [] => true | _ => false
  | _, _ => false
theorem list_of {α : Type} {Q : Nat → α → Prop} : ∀ n : Nat, (∀ i, i < n → ∃ v, Q i v) → ∃ xs : List α, xs.length = n ∧ ∀ i (h : i < xs.length), Q i xs[i]
  | 0, _ => ⟨[], rfl, fun i h => by simp at h⟩
  | n + 1, h => by
    obtain ⟨xs, hl, hq⟩ := list_of n (fun i hi => h i (by omega))
    obtain ⟨v, hv⟩ := h n (by omega)
    refine ⟨xs ++ [v], by simp [hl], fun i hi => ?_⟩
    by_cases e : i < xs.length
    · rw [List.getElem_append_left e]; exact hq i e
    · have : i = n := by simp at hi; omega
      subst this
      rw [List.getElem_append_right (by omega)]
      simpa [hl] using hv
theorem add_add (a : Addr) (p j : Nat) : (a.add p).add j = a.add (p + j) := by
  unfold Addr.add
  by_cases h1 : p = 0 <;> by_cases h2 : j = 0 <;> simp [h1, h2, Nat.add_assoc]
theorem cells_get {w : World} {base n : Nat} {a : Addr} {ecs : List Value} (h : w.cells? base a n = some ecs) : ecs.length = n ∧ ∀ j u, ecs[j]? = some u → w.cell? (a.add j) = some u := by
  unfold World.cells? at h
  split at h
  · have hl : ecs.length = n := by simpa using mapM_some_length h
    refine ⟨hl, fun j u hj => ?_⟩
    have hj' : j < ecs.length := (List.getElem?_eq_some_iff.1 hj).1
    have := mapM_some_get h j j (by rw [List.getElem?_range (by omega)])
    rw [this]; exact hj
  · cases h
section
variable {H : Type} {enc : TypeId × Value → H} {P : Program} {w : World} {base : Nat} {spare : Nat → Bool} {held : Bool}
theorem rd_both : ∀ (t : Ty),
    (∀ T, isB P t (.inl T) = true → ∀ (fuel : Nat) (cs : List Value) x, DataW.trod enc P w base spare held fuel T cs = some x → ∃ v, Rd t w v cs) ∧
    (∀ l off, isB P t (.inr (l, off)) = true → ∀ (n : Nat) (cs : List Value), cs.length = off + t.sz → (∀ f ∈ l, ∃ y, DataW.trod enc P w base spare held n f.type ((cs.drop f.offset).take (P.cellsOf f.type)) = some y) → ∃ v, Rd t w v (cs.drop off))
  | .int k => by
    refine ⟨fun T h fuel cs x hx => ?_, fun l off h => by simp [isB] at h⟩
    have ht : P.underlying T = some (.int k) := by
      simp only [isB] at h
      split at h
      · next k' hk => rw [hk]; simp at h; rw [h]
      · cases h
    obtain ⟨n, h1, _, h2⟩ := DataW.trod_int ht hx
    exact ⟨n, h1, h2⟩
  | .bool => by
    refine ⟨fun T h fuel cs x hx => ?_, fun l off h => by simp [isB] at h⟩
    have ht : P.underlying T = some .bool := by
      simp only [isB] at h
      split at h
      · assumption
      · cases h
    obtain ⟨b, h1, _⟩ := DataW.trod_bool ht hx
    exact ⟨b, h1⟩
  | .str => by
    refine ⟨fun T h fuel cs x hx => ?_, fun l off h => by simp [isB] at h⟩
    have ht : P.underlying T = some .string := by
      simp only [isB] at h
      split at h
      · assumption
      · cases h
    obtain ⟨s, h1, _, h2⟩ := DataW.trod_string ht hx
    exact ⟨s, h1, h2⟩
  | .sl e t => by
    refine ⟨fun T h fuel cs x hx => ?_, fun l off h => by simp [isB] at h⟩
    have ht : P.underlying T = some (.slice e) ∧ isB P t (.inl e) = true ∧ P.cellsOf e = t.sz := by
      simp only [isB] at h
      split at h
      · next e' he =>
        simp only [Bool.and_eq_true, decide_eq_true_eq] at h
        obtain ⟨⟨h1, h2⟩, h3⟩ := h
        subst h1
        exact ⟨he, h2, h3⟩
      · cases h
    obtain ⟨ht1, ht2, ht3⟩ := ht
    rcases DataW.trod_slice ht1 hx with ⟨h1, _⟩ | ⟨a, len, cap, elems, rest, n, _, h1, _, _, h2, h3, h4, h5, _⟩
    · exact ⟨[], none, 0, h1, by simp, by simp [maxLen], fun i hi => by simp at hi⟩
    · obtain ⟨xs, hl, hq⟩ := list_of (Q := fun i v => ∃ ecs, ecs.length = t.sz ∧ Rd t w v ecs ∧ ∀ j u, ecs[j]? = some u → w.cell? (a.add (i * t.sz + j)) = some u) len (fun i hi => by
        have h6 := h5 i hi
        rw [List.getElem?_eq_getElem (by omega)] at h6
        obtain ⟨ecs, h7, h8⟩ := Option.bind_eq_some_iff.1 h6
        obtain ⟨v, hv⟩ := (rd_both t).1 e ht2 _ _ _ h8
        obtain ⟨h9, h10⟩ := cells_get h7
        refine ⟨v, ecs, by rw [h9, ht3], hv, fun j u hj => ?_⟩
        have := h10 j u hj
        rw [add_add, ht3] at this
        exact this)
      refine ⟨xs, some a, cap, by rw [hl]; exact h1, by omega, h3, fun i hi => ?_⟩
      obtain ⟨ecs, h6, h7, h8⟩ := hq i hi
      exact ⟨a, ecs, rfl, h6, h7, h8⟩
  | .nl => by
    refine ⟨fun T h => by simp [isB] at h, fun l off h n cs hc hf => ?_⟩
    refine ⟨(), ?_⟩
    show cs.drop off = []
    have : cs.length = off := by simpa [Ty.sz] using hc
    simp [this]
  | .cn a b => by
    have hin : ∀ l off, isB P (.cn a b) (.inr (l, off)) = true → ∀ (n : Nat) (cs : List Value), cs.length = off + (Ty.cn a b).sz → (∀ f ∈ l, ∃ y, DataW.trod enc P w base spare held n f.type ((cs.drop f.offset).take (P.cellsOf f.type)) = some y) → ∃ v, Rd (.cn a b) w v (cs.drop off) := by
      intro l off h n cs hc hf
      cases l with
      | nil => simp [isB] at h
      | cons f r =>
        simp only [isB, Bool.and_eq_true, decide_eq_true_eq] at h
        obtain ⟨⟨⟨h1, h2⟩, h3⟩, h4⟩ := h
        obtain ⟨y, hy⟩ := hf f List.mem_cons_self
        rw [h1, h2] at hy
        obtain ⟨v1, hv1⟩ := (rd_both a).1 _ h3 _ _ _ hy
        obtain ⟨v2, hv2⟩ := (rd_both b).2 r (off + a.sz) h4 n cs (by rw [hc]; simp only [Ty.sz]; omega) (fun g hg => hf g (List.mem_cons_of_mem _ hg))
        refine ⟨(v1, v2), (cs.drop off).take a.sz, cs.drop (off + a.sz), ?_, hv1, hv2⟩
        rw [← List.drop_drop, List.take_append_drop]
    refine ⟨fun T h fuel cs x hx => ?_, hin⟩
    simp only [isB] at h
    split at h
    · next fs hfs =>
      simp only [Bool.and_eq_true, decide_eq_true_eq] at h
      obtain ⟨h1, h2⟩ := h
      obtain ⟨xs, n, _, _, h3, h4, h5⟩ := DataW.trod_struct hfs hx
      have h6 : isB P (.cn a b) (.inr (fs.toList, 0)) = true := by
        cases hl : fs.toList with
        | nil => rw [hl] at h2; cases h2
        | cons f r =>
          rw [hl] at h2
          simp only [isB, Nat.zero_add]
          exact h2
      have h7 := hin fs.toList 0 h6 n cs (by rw [h3, h1]; simp [Ty.sz]) (fun f hf => by
        obtain ⟨i, hi, hfi⟩ := List.mem_iff_getElem.1 hf
        have hi' : i < fs.size := by simpa using hi
        have h8 := h5 i f (by rw [Array.getElem?_eq_getElem hi']; exact congrArg some (by simpa using hfi))
        rw [List.getElem?_eq_getElem (by omega)] at h8
        exact ⟨_, h8⟩)
      simpa using h7
    · cases h
/-- AN ARGUMENT OPENED. -/
theorem rd_of {t : Ty} {T : TypeId} (ht : isB P t (.inl T) = true) {v : Value} {d : DataW H} {ps : List MemPlace} (h : DataW.Trod enc P w base spare held T v d ps) : ∃ x, Rd t w x v.cells.toList := by
  obtain ⟨fuel, hf⟩ := h
  exact (rd_both t).1 T ht fuel _ _ hf
end
/-- A slice's value. -/
theorem Rd.slice {e : TypeId} {t : Ty} {w : World} {xs : List t.D} {A : Option Addr} {n c : Nat} (h : Rd (.sl e t) w xs [.slice A n c]) : n = xs.length ∧ n ≤ c ∧ c ≤ maxLen ∧
    ∀ i (h : i < xs.length), ∃ ad ecs, A = some ad ∧ ecs.length = t.sz ∧ Rd t w xs[i] ecs ∧ ∀ j u, ecs[j]? = some u → w.cell? (ad.add (i * t.sz + j)) = some u := by
  obtain ⟨A', c', h1, h2, h3, h4⟩ := h
  simp only [List.cons.injEq, Value.slice.injEq, and_true] at h1
  obtain ⟨rfl, rfl, rfl⟩ := h1
  exact ⟨rfl, h2, h3, h4⟩
/-- Its address: one block, if it has an element that takes a cell. -/
theorem Rd.addr {e : TypeId} {t : Ty} {w : World} {xs : List t.D} {A : Option Addr} {n c : Nat} (h : Rd (.sl e t) w xs [.slice A n c]) (hn : 0 < xs.length) (hs : 0 < t.sz) : ∃ b off, A = some ⟨b, off, none⟩ ∧
    ∀ i (h : i < xs.length), ∃ ecs, ecs.length = t.sz ∧ Rd t w xs[i] ecs ∧ ∀ j u, ecs[j]? = some u → w.cell? ⟨b, off + (i * t.sz + j), none⟩ = some u := by
  obtain ⟨_, _, _, h4⟩ := h.slice
  obtain ⟨ad, ecs, rfl, h5, h6, h7⟩ := h4 0 hn
  obtain ⟨b, off, spot⟩ := ad
  have h8 := h7 0 ecs[0] (by simp [h5, hs])
  have hsp : spot = none := by
    have := World.cell?_spot h8
    simpa [Addr.add] using this
  subst hsp
  refine ⟨b, off, rfl, fun i hi => ?_⟩
  obtain ⟨ad', ecs', h9, h10, h11, h12⟩ := h4 i hi
  injection h9 with h9
  subst h9
  refine ⟨ecs', h10, h11, fun j u hj => ?_⟩
  have h13 := h12 j u hj
  have e : (⟨b, off, none⟩ : Addr).add (i * t.sz + j) = ⟨b, off + (i * t.sz + j), none⟩ := by unfold Addr.add; split <;> simp_all
  rw [e] at h13
  exact h13
end Go.Proofs.Ytoaikponefcbiaa.Ty
