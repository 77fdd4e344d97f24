/- append, by one law: a row of the call's own, and cells that are read. No program in sight. -/
import Derived.Test.YtoaikponefcbiaaBase
import Derived.Maps.AppendAt
import Derived.OwnWalk
import Derived.Laws.OwnMore
namespace Go.Proofs.Ytoaikponefcbiaa.App
open Go.RowKit Go.Proofs.Ytoaikponefcbiaa.Base
set_option linter.unusedVariables false

/-- The cells cs stand from A on. -/
def Rc (w : World) (A : Option Addr) (cs : List Value) : Prop := ∀ j u, cs[j]? = some u → ∃ ad, A = some ad ∧ w.cell? (ad.add j) = some u
theorem Rc.none_ (w : World) : Rc w none [] := fun j u h => by simp at h
theorem Rc.nil (w : World) (A : Option Addr) : Rc w A [] := fun j u h => by simp at h
theorem Rc.mk_ {w : World} {ad : Addr} {cs : List Value} (h : ∀ j u, cs[j]? = some u → w.cell? (ad.add j) = some u) : Rc w (some ad) cs := fun j u hj => ⟨ad, rfl, h j u hj⟩
theorem Rc.get {w : World} {A : Option Addr} {cs : List Value} (h : Rc w A cs) {ad : Addr} (ha : A = some ad) (j : Nat) (hj : j < cs.length) : w.cell? (ad.add j) = some cs[j] := by
  obtain ⟨ad', h1, h2⟩ := h j cs[j] (by simp [hj])
  rw [ha] at h1
  injection h1 with h1
  subst h1
  exact h2
theorem Rc.fr {S : Nat → Prop} {w w1 : World} {A : Option Addr} {cs : List Value} (h : Rc w A cs) (f : Fr S w w1) (hn : ∀ ad, A = .some ad → ¬ S ad.block) : Rc w1 A cs := fun j u hj => by
  obtain ⟨ad, h1, h2⟩ := h j u hj
  refine ⟨ad, h1, ?_⟩
  have hb := World.block_lt_of_cell? w _ h2
  have e : (ad.add j).block = ad.block := by unfold Addr.add; split <;> rfl
  rw [World.cell?_of_block (w := w) (f.block _ hb (by rw [e]; exact hn ad h1))]
  exact h2
theorem Rc.no {w w1 : World} {A : Option Addr} {cs : List Value} (h : Rc w A cs) (f : Fr No w w1) : Rc w1 A cs := h.fr f (fun _ _ x => x)
theorem Rc.of_own {w : World} {base n : Nat} {e : TypeId} {size : Nat} {A : Option Addr} {m c : Nat} {xs : List Value} (h : w.ownsRow base e size (.slice A m c) n xs) : Rc w A xs := by
  intro j u hj
  rcases h.2 with ⟨h1, h2⟩ | ⟨g, cap, cur, h1, _⟩
  · have := h.1
    subst h2
    have : xs = [] := List.eq_nil_of_length_eq_zero (by omega)
    subst this
    simp at hj
  · injection h1 with h1
    exact ⟨_, h1, h.cells (g := g) (by rw [h1]; rfl) j u hj⟩
/-- A block that was just made. -/
theorem Rc.new (w : World) (cs : Array Value) (t : TypeId) : Rc (w.alloc (.cells cs t)) (.some ⟨w.heap.size, 0, .none⟩) cs.toList := by
  refine Rc.mk_ (fun j u hj => ?_)
  have h := Ob.new w cs t
  have e : (⟨w.heap.size, 0, .none⟩ : Addr).add j = ⟨w.heap.size, j, .none⟩ := by unfold Addr.add; split <;> simp_all
  rw [e]
  exact h.cell j (by simpa using hj)

section
variable {P : Program} {ops : Array Oper} {rest : List Oper} {o : Oper} {a : Act} {Q : Exit → Act → World → Prop}
theorem app_run {w : World} (base : Nat) (t ty e : TypeId) (z : Value) (size bytes : Nat) (ht : P.underlying t = .some (.slice e))
    (hinfo : (P.info? e).map (fun i => (i.zero, i.size, i.bytes)) = .some (.some z, size, bytes)) (hz : z.cells.size = size) (hsz : 0 < size) (hb0 : 0 < bytes)
    (v : Value) (n : Nat) (xs : List Value) (HO : w.ownsRow base e size v n xs) (A : Option Addr) (m c : Nat) (news : List Value) (hl : news.length = m * size) (hr : Rc w A news)
    (h1 : ∀ u ∈ news, u.oneCell' = true) (hb : (n + m) * bytes ≤ 140737488355328) (hbase : base ≤ w.heap.size) :
    ∃ v1 w1, (Builtin.append_ #[t, t] ty #[v, .slice A m c]).run P w = .ok v1 w1 ∧ w1.ownsRow base e size v1 (n + m) (xs ++ news) ∧ w.grownBy w1 v.ownBlock ∧ (v1.ownBlock = v.ownBlock ∨ v1.ownBlock = .some w.heap.size) := by
  obtain ⟨i0, hi, hzz⟩ := Option.map_eq_some_iff.1 hinfo
  simp only [Prod.mk.injEq] at hzz
  obtain ⟨hz0, hz1, hz2⟩ := hzz
  have hlen : n + m ≤ 140737488355328 := Nat.le_trans (Nat.le_mul_of_pos_right _ hb0) hb
  rcases A with _ | ad
  · have h0 : news = [] := by
      cases news with
      | nil => rfl
      | cons u us => obtain ⟨ad, h, _⟩ := hr 0 u rfl; cases h
    subst h0
    have hm : m = 0 := by
      rcases Nat.eq_zero_or_pos m with h | h
      · exact h
      · have := Nat.mul_pos h hsz
        simp at hl
        omega
    subst hm
    refine ⟨v, w, ?_, by simpa using HO, World.grownBy.refl w _, .inl rfl⟩
    rcases HO.2 with ⟨rfl, hn⟩ | ⟨g, cap, cur, rfl, _, _, hnc, _⟩
    · simp [Builtin.append_, run_underlying ht, sizeOf, typeInfo, hi, Builtin.lenOf, Builtin.firstCells]
    · simp [Builtin.append_, run_underlying ht, sizeOf, typeInfo, hi, Builtin.lenOf, Builtin.firstCells, hnc, storeCells]
  · have hcells : ∀ j u, news[j]? = .some u → w.cell? (ad.add j) = .some u := by
      intro j u hj
      obtain ⟨ad', h, hc⟩ := hr j u hj
      injection h with h
      subst h
      exact hc
    obtain ⟨v1, w1, hr, h2, h3, _, h5⟩ := run_append_own_at (P := P) w base t ty e i0 z size bytes ht hi hz0 hz1 hz2 hz hsz v n xs HO ad m c news hl hcells h1 (by simp only [maxLen]; omega) hb hbase
    exact ⟨v1, w1, hr, h2, h3, h5⟩
/-- 'append(s, x...)' in a walk: behind 'at_builtin'. -/
theorem app_list {w : World} (base : Nat) (hgd : o.guard = .none) (s x : Operand) (t e : TypeId) (z : Value) (size bytes : Nat)
    (ho : o.op = .call { callee := .builtin .append, args := #[s, x], argTypes := #[t, t] }) (ht : P.underlying t = .some (.slice e))
    (hinfo : (P.info? e).map (fun i => (i.zero, i.size, i.bytes)) = .some (.some z, size, bytes)) (hz : z.cells.size = size) (hsz : 0 < size) (hb0 : 0 < bytes)
    (v : Value) (n : Nat) (xs : List Value) (hs : a.eval s = v) (HO : w.ownsRow base e size v n xs) (A : Option Addr) (m c : Nat) (news : List Value) (hx : a.eval x = .slice A m c)
    (hl : news.length = m * size) (hr : Rc w A news) (h1 : ∀ u ∈ news, u.oneCell' = true) (hb : (n + m) * bytes ≤ 140737488355328) (hbase : base ≤ w.heap.size)
    (h : ∀ v1 w1, w1.ownsRow base e size v1 (n + m) (xs ++ news) → w.grownBy w1 v.ownBlock → (v1.ownBlock = v.ownBlock ∨ v1.ownBlock = .some w.heap.size) → wpList P ops Q rest (a.put o.dst v1) w1) :
    wpList P ops Q (o :: rest) a w := by
  refine wpList_plain hgd fun K hK => ?_
  obtain ⟨v1, w1, hrun, h2, h3, h5⟩ := app_run (P := P) base t o.type e z size bytes ht hinfo hz hsz hb0 v n xs HO A m c news hl hr h1 hb hbase
  unfold Oper.wp execOp
  simp only [ho, resolve, invoke, builtin, Sem.run_bind, Sem.run_pure, Result.andThen_ok, List.map_toArray, List.map_cons, List.map_nil, hs, hx, hrun]
  exact hK _ _ (h v1 w1 h2 h3 h5)
end
/-- An empty row that was just made, '[]E{}'. -/
theorem own_empty (w : World) (base : Nat) (e : TypeId) (size : Nat) (hb : base ≤ w.heap.size) : (w.alloc (.cells #[] e)).ownsRow base e size (.slice (.some ⟨w.heap.size, 0, .none⟩) 0 0) 0 [] := by
  have h := World.ownsRow_lit (base := base) (e := e) (size := size) w #[] 0 hb (by simp [maxLen]) (by simp)
  simpa using h
/-- The frame behind an append to a row of the call's own. -/
theorem fr_app {S : Nat → Prop} {w w1 w2 : World} {v : Value} (f : Fr S w w1) (hg : w1.grownBy w2 v.ownBlock) (hv : ∀ k, v.ownBlock = .some k → S k ∨ w.heap.size ≤ k) : Fr S w w2 := f.grown hg hv
end Go.Proofs.Ytoaikponefcbiaa.App
