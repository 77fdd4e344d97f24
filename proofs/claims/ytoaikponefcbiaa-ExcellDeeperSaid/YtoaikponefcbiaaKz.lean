/- Points, further: a point that was just written out. No program in sight. -/
import Derived.Test.YtoaikponefcbiaaIv
namespace Go.Proofs.Ytoaikponefcbiaa.Base
open Go.RowKit
set_option linter.unusedVariables false
theorem Ob.new_ (w : World) (cs : Array Value) (t : TypeId) (g : Nat) (hg : w.heap.size = g) : Ob (w.alloc (.cells cs t)) g cs t := by
  subst hg; exact Ob.new w cs t
theorem Ob.no {w w1 : World} {g : Nat} {cs : Array Value} {t : TypeId} (h : Ob w g cs t) (f : Fr No w w1) : Ob w1 g cs t := h.fr f (fun x => x)
theorem Ob.past {w : World} {g : Nat} {cs : Array Value} {t : TypeId} (h : Ob w g cs t) : g < w.heap.size ∧ g < w.heap.size + 1 ∧ g < w.heap.size + 1 + 1 ∧ g < w.heap.size + 1 + 1 + 1 ∧ g < w.heap.size + 1 + 1 + 1 + 1 ∧ g < w.heap.size + 1 + 1 + 1 + 1 + 1 := by
  have := h.lt; omega
/-- A box's two cells. -/
theorem Ob.two {w : World} {g : Nat} {a b : Value} {t : TypeId} (h : Ob w g #[a, b] t) : w.cell? ⟨g, 0, none⟩ = some a ∧ w.cell? ⟨g, 1, none⟩ = some b ∧ (g < w.heap.size ∧ g < w.heap.size + 1 ∧ g < w.heap.size + 1 + 1 ∧ g < w.heap.size + 1 + 1 + 1 ∧ g < w.heap.size + 1 + 1 + 1 + 1 ∧ g < w.heap.size + 1 + 1 + 1 + 1 + 1) := ⟨h.cell 0 rfl, h.cell 1 rfl, h.past⟩
end Go.Proofs.Ytoaikponefcbiaa.Base
namespace Go.Proofs.Ytoaikponefcbiaa.Ky
open Go.RowKit Go.Proofs.Ytoaikponefcbiaa.Base Go.Proofs.Ytoaikponefcbiaa.App Go.Proofs.Ytoaikponefcbiaa.Ty
set_option linter.unusedVariables false
section
variable {w w1 : World} {A : Option Addr} {n c : Nat} {ks : List Nat}
theorem Kv.of_ob {g : Nat} {t : TypeId} (h : Ob w g (u32s ks).toArray t) (hl : ∀ x ∈ ks, x < 4294967296) (hm : ks.length ≤ maxLen) : Kv w (some ⟨g, 0, none⟩) ks.length ks.length ks := by
  refine ⟨rfl, Nat.le_refl _, hm, hl, fun _ => ⟨g, 0, rfl, fun i hi => ?_⟩⟩
  rw [Nat.zero_add]
  exact h.cell i (by simpa using u32s_get ks i hi)
theorem Kv.alloc (h : Kv w A n c ks) (o : Obj) : Kv (w.alloc o) A n c ks := h.no ((Fr.refl No w).alloc o)
theorem Kv.drew (h : Kv w A n c ks) : Kv w.drew A n c ks := h.no (Fr.refl No w).drew
theorem Kv.drewN (h : Kv w A n c ks) (k : Nat) : Kv (w.drewN k) A n c ks := h.no ((Fr.refl No w).drewN k)
/-- A point that was just written out. -/
theorem Kv.lit_new (w : World) (cs : Array Value) (t : TypeId) (ks : List Nat) (g n : Nat) (hg : w.heap.size = g) (hc : cs = (u32s ks).toArray) (hn : n = ks.length) (hl : (ks.all (fun x => decide (x < 4294967296)) && decide (ks.length ≤ 1000)) = true) : Kv (w.alloc (.cells cs t)) (some ⟨g, 0, none⟩) n n ks := by
  subst hg; subst hn; subst hc
  rw [Bool.and_eq_true, List.all_eq_true, decide_eq_true_eq] at hl
  have hm : (1000 : Nat) ≤ maxLen := by decide
  exact Kv.of_ob (Ob.new w _ t) (fun x hx => by simpa using hl.1 x hx) (by omega)
end
/-- An argument that is a box. -/
theorem rd_box {E E2 : TypeId} {w : World} {x : (Ty.cn (.sl E (.int .u32)) (.cn (.sl E2 (.int .u32)) .nl)).D} {cs : Array Value} (h : Rd (.cn (.sl E (.int .u32)) (.cn (.sl E2 (.int .u32)) .nl)) w x cs.toList) :
    ∃ A n c B m d lo hi, cs = #[.slice A n c, .slice B m d] ∧ Kv w A n c lo ∧ Kv w B m d hi := by
  obtain ⟨c1, c2, hc, h1, c3, c4, rfl, h2, h3⟩ := h
  have h3' : c4 = [] := h3
  subst h3'
  have h1' := h1
  have h2' := h2
  obtain ⟨A, c, rfl, _⟩ := h1'
  obtain ⟨B, d, rfl, _⟩ := h2'
  refine ⟨A, _, c, B, _, d, _, _, ?_, Kv.of_rd h1, Kv.of_rd h2⟩
  rw [← Array.toArray_toList (xs := cs), hc]
  rfl
theorem Kv.len_le {w : World} {A : Option Addr} {n c : Nat} {ks : List Nat} (h : Kv w A n c ks) : n ≤ 9223372036854775807 := by
  have h1 := h.cap
  have h2 := h.most
  have h3 : maxLen ≤ 9223372036854775807 := by decide
  omega
end Go.Proofs.Ytoaikponefcbiaa.Ky
namespace Go.Proofs.Ytoaikponefcbiaa.Iv
open Go.RowKit Go.Proofs.Ytoaikponefcbiaa.Base Go.Proofs.Ytoaikponefcbiaa.App Go.Proofs.Ytoaikponefcbiaa.Ty
def i64s (xs : List Int) : List Value := xs.map fun (x : Int) => .int .i64 x
theorem i64s_len (xs : List Int) : (i64s xs).length = xs.length := by simp [i64s]
theorem i64s_get (xs : List Int) (i : Nat) (h : i < xs.length) : (i64s xs)[i]? = some (.int .i64 (xs.getD i 0)) := by
  simp [i64s, List.getD_eq_getElem?_getD, h]
theorem i64s_one (xs : List Int) : ∀ u ∈ i64s xs, u.oneCell' = true := by
  intro u hu
  simp only [i64s, List.mem_map] at hu
  obtain ⟨x, _, rfl⟩ := hu
  rfl
section
variable {w w1 : World} {A : Option Addr} {n c : Nat} {xs : List Int}
theorem Iv.alloc (h : Iv w A n c xs) (o : Obj) : Iv (w.alloc o) A n c xs := h.no ((Fr.refl No w).alloc o)
theorem Iv.drew (h : Iv w A n c xs) : Iv w.drew A n c xs := h.no (Fr.refl No w).drew
theorem Iv.drewN (h : Iv w A n c xs) (k : Nat) : Iv (w.drewN k) A n c xs := h.no ((Fr.refl No w).drewN k)
theorem Iv.none_ (w : World) : Iv w none 0 0 [] := ⟨rfl, Nat.le_refl _, Nat.zero_le _, fun i h => by simp at h, fun h => by simp at h⟩
theorem Iv.rc (h : Iv w A n c xs) : Rc w A (i64s xs) := by
  intro j u hj
  have hj' : j < xs.length := by have := (List.getElem?_eq_some_iff.1 hj).1; rwa [i64s_len] at this
  obtain ⟨b, off, h1, h2⟩ := h.get j hj'
  refine ⟨_, h1, ?_⟩
  rw [i64s_get xs j hj'] at hj
  injection hj with hj
  subst hj
  have e : (⟨b, off, none⟩ : Addr).add j = ⟨b, off + j, none⟩ := by unfold Addr.add; split <;> simp_all
  rw [e]
  exact h2
/-- Numbers that were just written out. -/
theorem Iv.lit_new (w : World) (cs : Array Value) (t : TypeId) (xs : List Int) (g n : Nat) (hg : w.heap.size = g) (hc : cs = (i64s xs).toArray) (hn : n = xs.length) (hl : (xs.all (fun x => decide (-9223372036854775808 ≤ x) && decide (x ≤ 9223372036854775807)) && decide (xs.length ≤ 1000)) = true) : Iv (w.alloc (.cells cs t)) (some ⟨g, 0, none⟩) n n xs := by
  subst hg; subst hn; subst hc
  rw [Bool.and_eq_true, List.all_eq_true, decide_eq_true_eq] at hl
  have hm : (1000 : Nat) ≤ maxLen := by decide
  refine ⟨rfl, Nat.le_refl _, by omega, fun i hi => ?_, fun _ => ⟨w.heap.size, 0, rfl, fun i hi => ?_⟩⟩
  · have := hl.1 (xs.getD i 0) (by rw [List.getD_eq_getElem?_getD, List.getElem?_eq_getElem hi]; exact List.getElem_mem hi)
    simpa using this
  · rw [Nat.zero_add]
    exact (Ob.new w (i64s xs).toArray t).cell i (by simpa using i64s_get xs i hi)
/-- A row of one's own is read. -/
theorem Iv.of_own {base n : Nat} {e : TypeId} (h : w.ownsRow base e 1 (.slice A n c) n (i64s xs)) (hl : ∀ i, i < xs.length → -9223372036854775808 ≤ xs.getD i 0 ∧ xs.getD i 0 ≤ 9223372036854775807) : Iv w A n c xs := by
  have hn : n = xs.length := by have := own_len h; rw [i64s_len] at this; exact this.symm
  have hc : n ≤ c ∧ c ≤ maxLen := by
    rcases h.2 with ⟨h1, h2⟩ | ⟨g, cap, cur, h1, _, _, h2, h3, _⟩
    · injection h1 with _ h4 h5
      subst h2; subst h5
      exact ⟨Nat.le_refl _, Nat.zero_le _⟩
    · injection h1 with _ h4 h5
      subst h5
      exact ⟨h2, h3⟩
  refine ⟨hn, hc.1, hc.2, hl, fun h0 => ?_⟩
  rcases h.2 with ⟨h1, h2⟩ | ⟨g, cap, cur, h1, _⟩
  · omega
  · injection h1 with h1
    refine ⟨g, 0, h1, fun i hi => ?_⟩
    subst h1
    rw [Nat.zero_add, h.cellAt i (by omega), i64s_get xs i hi]
end
end Go.Proofs.Ytoaikponefcbiaa.Iv
