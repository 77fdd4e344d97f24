/- Points: slices of numbers that are read. No program in sight. -/
import Derived.Test.YtoaikponefcbiaaTy
import Derived.Test.YtoaikponefcbiaaStr
namespace Go.Proofs.Ytoaikponefcbiaa.Ky
open Go.RowKit Go.Proofs.Ytoaikponefcbiaa.Base Go.Proofs.Ytoaikponefcbiaa.App Go.Proofs.Ytoaikponefcbiaa.Ty
set_option linter.unusedVariables false

def u32s (xs : List Nat) : List Value := xs.map fun (x : Nat) => .int .u32 (x : Int)
theorem u32s_len (xs : List Nat) : (u32s xs).length = xs.length := by simp [u32s]
theorem u32s_get (xs : List Nat) (i : Nat) (h : i < xs.length) : (u32s xs)[i]? = some (.int .u32 ((xs.getD i 0 : Nat) : Int)) := by
  simp [u32s, List.getD_eq_getElem?_getD, h]
theorem u32s_set (xs : List Nat) (i x : Nat) : (u32s xs).set i (.int .u32 (x : Int)) = u32s (xs.set i x) := by simp [u32s, List.map_set]
theorem u32s_one (xs : List Nat) : ∀ u ∈ u32s xs, u.oneCell' = true := by
  intro u hu
  simp only [u32s, List.mem_map] at hu
  obtain ⟨x, _, rfl⟩ := hu
  rfl
theorem u32s_app (xs ys : List Nat) : u32s xs ++ u32s ys = u32s (xs ++ ys) := by simp [u32s]
/-- A point that is read: its slice's address, length and capacity. -/
structure Kv (w : World) (A : Option Addr) (n c : Nat) (ks : List Nat) : Prop where
  len : n = ks.length
  cap : n ≤ c
  most : c ≤ maxLen
  lt : ∀ x ∈ ks, x < 4294967296
  at_ : 0 < ks.length → ∃ b off, A = some ⟨b, off, none⟩ ∧ ∀ i, i < ks.length → w.cell? ⟨b, off + i, none⟩ = some (.int .u32 ((ks.getD i 0 : Nat) : Int))
section
variable {S : Nat → Prop} {w w1 : World} {A : Option Addr} {n c : Nat} {ks : List Nat}
theorem Kv.fr (h : Kv w A n c ks) (f : Fr S w w1) (hn : ∀ b off, A = some ⟨b, off, none⟩ → ¬ S b) : Kv w1 A n c ks := by
  refine ⟨h.len, h.cap, h.most, h.lt, fun h0 => ?_⟩
  obtain ⟨b, off, h1, h2⟩ := h.at_ h0
  refine ⟨b, off, h1, fun i hi => ?_⟩
  have hb := World.block_lt_of_cell? w _ (h2 i hi)
  rw [World.cell?_of_block (w := w) (f.block _ hb (hn b off h1))]
  exact h2 i hi
theorem Kv.no (h : Kv w A n c ks) (f : Fr No w w1) : Kv w1 A n c ks := h.fr f (fun _ _ _ x => x)
theorem Kv.get (h : Kv w A n c ks) (i : Nat) (hi : i < ks.length) : ∃ b off, A = some ⟨b, off, none⟩ ∧ w.cell? ⟨b, off + i, none⟩ = some (.int .u32 ((ks.getD i 0 : Nat) : Int)) := by
  obtain ⟨b, off, h1, h2⟩ := h.at_ (by omega)
  exact ⟨b, off, h1, h2 i hi⟩
theorem Kv.ltD (h : Kv w A n c ks) (i : Nat) : ks.getD i 0 < 4294967296 := by
  by_cases hi : i < ks.length
  · rw [List.getD_eq_getElem?_getD, List.getElem?_eq_getElem hi]
    exact h.lt _ (List.getElem_mem hi)
  · rw [List.getD_eq_getElem?_getD, List.getElem?_eq_none (by omega)]
    decide
theorem Kv.none_ (w : World) : Kv w none 0 0 [] := ⟨rfl, Nat.le_refl _, Nat.zero_le _, fun x h => by simp at h, fun h => by simp at h⟩
theorem Kv.rc (h : Kv w A n c ks) : Rc w A (u32s ks) := by
  intro j u hj
  have hj' : j < ks.length := by have := (List.getElem?_eq_some_iff.1 hj).1; rwa [u32s_len] at this
  obtain ⟨b, off, h1, h2⟩ := h.get j hj'
  refine ⟨_, h1, ?_⟩
  rw [u32s_get ks j hj'] at hj
  injection hj with hj
  subst hj
  have e : (⟨b, off, none⟩ : Addr).add j = ⟨b, off + j, none⟩ := by unfold Addr.add; split <;> simp_all
  rw [e]
  exact h2
/-- An argument's point. -/
theorem Kv.of_rd {e : TypeId} {xs : List Int} (h : Rd (.sl e (.int .u32)) w xs [.slice A n c]) : Kv w A n c (xs.map Int.toNat) := by
  obtain ⟨h1, h2, h3, h4⟩ := h.slice
  have hx : ∀ i (hi : i < xs.length), 0 ≤ xs[i] ∧ xs[i] < 4294967296 := fun i hi => by
    obtain ⟨ad, ecs, _, _, h5, _⟩ := h4 i hi
    have h6 : (decide (IntKind.u32.min ≤ xs[i]) && decide (xs[i] ≤ IntKind.u32.max)) = true := h5.2
    rw [show IntKind.u32.min = 0 from by decide, show IntKind.u32.max = 4294967295 from by decide, Bool.and_eq_true, decide_eq_true_eq, decide_eq_true_eq] at h6
    omega
  refine ⟨by rw [List.length_map]; exact h1, h2, h3, fun x hx' => ?_, fun h0 => ?_⟩
  · obtain ⟨y, hy, rfl⟩ := List.mem_map.1 hx'
    obtain ⟨i, hi, rfl⟩ := List.mem_iff_getElem.1 hy
    have := hx i hi
    omega
  · rw [List.length_map] at h0
    obtain ⟨b, off, h5, h6⟩ := h.addr h0 (by decide)
    refine ⟨b, off, h5, fun i hi => ?_⟩
    rw [List.length_map] at hi
    obtain ⟨ecs, h7, h8, h9⟩ := h6 i hi
    have h10 : ecs = [.int .u32 xs[i]] := h8.1
    have h11 := h9 0 (.int .u32 xs[i]) (by rw [h10]; rfl)
    have := hx i hi
    have e : ((xs.map Int.toNat).getD i 0 : Nat) = xs[i].toNat := by simp [List.getD_eq_getElem?_getD, hi]
    rw [e, Int.toNat_of_nonneg this.1]
    simpa [Ty.sz] using h11
/-- A row of one's own is read. -/
theorem Kv.of_own {base n : Nat} {e : TypeId} (h : w.ownsRow base e 1 (.slice A n c) n (u32s ks)) (hl : ∀ x ∈ ks, x < 4294967296) : Kv w A n c ks := by
  have hn : n = ks.length := by have := own_len h; rw [u32s_len] at this; exact this.symm
  have hc : n ≤ c ∧ c ≤ maxLen := by
    rcases h.2 with ⟨h1, h2⟩ | ⟨g, cap, cur, h1, _, _, h2, h3, _⟩
    · injection h1 with _ h4 h5
      subst h2; subst h5
      exact ⟨Nat.le_refl _, Nat.zero_le _⟩
    · injection h1 with _ h4 h5
      subst h5
      exact ⟨h2, h3⟩
  refine ⟨hn, hc.1, hc.2, hl, fun h0 => ?_⟩
  rcases h.2 with ⟨h1, h2⟩ | ⟨g, cap, cur, h1, _⟩
  · omega
  · injection h1 with h1
    refine ⟨g, 0, h1, fun i hi => ?_⟩
    subst h1
    rw [Nat.zero_add, h.cellAt i (by omega), u32s_get ks i hi]
end
end Go.Proofs.Ytoaikponefcbiaa.Ky
