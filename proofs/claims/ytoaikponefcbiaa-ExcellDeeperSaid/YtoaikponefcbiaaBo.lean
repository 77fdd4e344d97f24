/- A box with two rows of the call's own, one block each; what a write does to it. No program in sight. -/
import Derived.Test.YtoaikponefcbiaaKk
namespace Go.Proofs.Ytoaikponefcbiaa.Bo
open Go.RowKit Go.Proofs.Ytoaikponefcbiaa.Base Go.Proofs.Ytoaikponefcbiaa.App Go.Proofs.Ytoaikponefcbiaa.Ky Go.Proofs.Ytoaikponefcbiaa.Bx
set_option linter.unusedVariables false
section
variable {w w1 : World} {base n : Nat} {e : TypeId} {size : Nat} {v : Value} {xs : List Value}
theorem own_no (h : w.ownsRow base e size v n xs) (f : Fr No w w1) : w1.ownsRow base e size v n xs := own_fr h f (fun _ _ x => x)
theorem own_drewN (h : w.ownsRow base e size v n xs) (m : Nat) : (w.drewN m).ownsRow base e size v n xs := own_no h ((Fr.refl No w).drewN m)
theorem own_some {A : Option Addr} {c : Nat} (h : w.ownsRow base e 1 (.slice A n c) n xs) (h0 : 0 < n) : ∃ g, A = some ⟨g, 0, none⟩ ∧ base ≤ g ∧ g < w.heap.size := by
  rcases h.2 with ⟨h1, h2⟩ | ⟨g, cap, cur, h1, hg, _⟩
  · omega
  · injection h1 with h1
    subst h1
    exact ⟨g, rfl, hg, (h.lt g rfl).2⟩
theorem own_other (h : w.ownsRow base e size v n xs) {p : Addr} (hn : ∀ k, v.ownBlock = some k → k ≠ p.block) (u : Value) : (w.setCell p u).ownsRow base e size v n xs :=
  own_fr h (S := fun k => k = p.block) ((Fr.refl (fun k => k = p.block) w).setCell (.inl rfl) u) (fun k hk (hb : k = p.block) => hn k hk hb)
end
theorem cel_no {w w1 : World} {p : Addr} {v : Value} (h : w.cell? p = some v) (f : Fr No w w1) : w1.cell? p = some v := by
  have hb := World.block_lt_of_cell? w _ h
  rw [World.cell?_of_block (w := w) (f.block _ hb (fun x => x))]
  exact h
theorem cel_alloc {w : World} {p : Addr} {v : Value} (h : w.cell? p = some v) (o : Obj) : (w.alloc o).cell? p = some v := cel_no h ((Fr.refl No w).alloc o)
theorem cel_drew {w : World} {p : Addr} {v : Value} (h : w.cell? p = some v) : w.drew.cell? p = some v := h
theorem cel_drewN {w : World} {p : Addr} {v : Value} (h : w.cell? p = some v) (n : Nat) : (w.drewN n).cell? p = some v := cel_no h ((Fr.refl No w).drewN n)
theorem cel_set {w : World} {p q : Addr} {v : Value} (h : w.cell? p = some v) (hn : p.block ≠ q.block) (u : Value) : (w.setCell q u).cell? p = some v := by
  rw [World.cell?_of_block (w := w) (Below.heap_setCell w q u p.block hn)]
  exact h
theorem own_putb {w : World} {base n a c : Nat} {e : TypeId} {size : Nat} {xs : List Value} (h : w.ownsRow base e size (.slice (some ⟨a, 0, none⟩) n c) n xs) {p : Addr} (hn : a ≠ p.block) (u : Value) : (w.setCell p u).ownsRow base e size (.slice (some ⟨a, 0, none⟩) n c) n xs :=
  own_other h (fun k hk => by simp [Value.ownBlock] at hk; omega) u
theorem Ob.put2 {w : World} {g : Nat} {x y : Value} {t : TypeId} (h : Ob w g #[x, y] t) (u v : Value) : Ob ((w.setCell ⟨g, 0, none⟩ u).setCell ⟨g, 1, none⟩ v) g #[u, v] t := (h.set 0 u).set 1 v
theorem cells2 {w : World} {g : Nat} {x y : Value} {t : TypeId} (h : Ob w g #[x, y] t) : w.cell? ⟨g, 0, none⟩ = some x ∧ w.cell? ⟨g, 1, none⟩ = some y := ⟨h.cell 0 rfl, h.cell 1 rfl⟩
theorem kv_other {w : World} {a o n c : Nat} {ks : List Nat} (h : Kv w (some ⟨a, o, none⟩) n c ks) {p : Addr} (hn : a ≠ p.block) (u : Value) : Kv (w.setCell p u) (some ⟨a, o, none⟩) n c ks :=
  h.fr (S := fun k => k = p.block) ((Fr.refl (fun k => k = p.block) w).setCell (.inl rfl) u) (fun b off e (hb : b = p.block) => by injection e with e; injection e with e1 e2; omega)
/-- What the walk asks of an object's two cells, behind an alloc too. -/
theorem Ob.eight {w : World} {g : Nat} {a b : Value} {t : TypeId} (h : Ob w g #[a, b] t) : w.cell? ⟨g, 0, none⟩ = some a ∧ w.cell? ⟨g, 1, none⟩ = some b ∧ w.frozen? ⟨g, 0, none⟩ = false ∧ w.frozen? ⟨g, 1, none⟩ = false ∧
    (∀ o, (w.alloc o).cell? ⟨g, 0, none⟩ = some a) ∧ (∀ o, (w.alloc o).cell? ⟨g, 1, none⟩ = some b) ∧ (∀ o, (w.alloc o).frozen? ⟨g, 0, none⟩ = false) ∧ (∀ o, (w.alloc o).frozen? ⟨g, 1, none⟩ = false) :=
  ⟨h.cell 0 rfl, h.cell 1 rfl, h.frozen 0, h.frozen 1, fun o => (h.alloc o).cell 0 rfl, fun o => (h.alloc o).cell 1 rfl, fun o => (h.alloc o).frozen 0, fun o => (h.alloc o).frozen 1⟩
theorem four4 {a b c d : Prop} (h : a ∧ b) (h1 : c) (h2 : d) : a ∧ b ∧ c ∧ d := ⟨h.1, h.2, h1, h2⟩
theorem use_ {a b : Prop} (h : a) (k : a → b) : b := k h
structure Bo (T e : TypeId) (w : World) (base g a ca b cb n : Nat) (lo hi : List Nat) : Prop where
  ob : Ob w g #[.slice (some ⟨a, 0, none⟩) n ca, .slice (some ⟨b, 0, none⟩) n cb] T
  lo : w.ownsRow base e 1 (.slice (some ⟨a, 0, none⟩) n ca) n (u32s lo)
  hi : w.ownsRow base e 1 (.slice (some ⟨b, 0, none⟩) n cb) n (u32s hi)
  ne : a ≠ b ∧ g ≠ a ∧ g ≠ b
  at_ : base ≤ g
section
variable {T e : TypeId} {w w1 : World} {base g a ca b cb n : Nat} {lo hi : List Nat}
theorem Bo.no (h : Bo T e w base g a ca b cb n lo hi) (f : Fr No w w1) : Bo T e w1 base g a ca b cb n lo hi := ⟨h.ob.no f, own_no h.lo f, own_no h.hi f, h.ne, h.at_⟩
theorem Bo.alloc (h : Bo T e w base g a ca b cb n lo hi) (o : Obj) : Bo T e (w.alloc o) base g a ca b cb n lo hi := h.no ((Fr.refl No w).alloc o)
theorem Bo.drew (h : Bo T e w base g a ca b cb n lo hi) : Bo T e w.drew base g a ca b cb n lo hi := h.no (Fr.refl No w).drew
theorem Bo.drewN (h : Bo T e w base g a ca b cb n lo hi) (m : Nat) : Bo T e (w.drewN m) base g a ca b cb n lo hi := h.no ((Fr.refl No w).drewN m)
theorem Bo.blk (h : Bo T e w base g a ca b cb n lo hi) : base ≤ a ∧ a < w.heap.size ∧ base ≤ b ∧ b < w.heap.size ∧ base ≤ g ∧ g < w.heap.size :=
  ⟨(h.lo.lt a rfl).1, (h.lo.lt a rfl).2, (h.hi.lt b rfl).1, (h.hi.lt b rfl).2, h.at_, h.ob.lt⟩
theorem Bo.len (h : Bo T e w base g a ca b cb n lo hi) : lo.length = n ∧ hi.length = n := by
  have h1 := own_len h.lo
  have h2 := own_len h.hi
  rw [u32s_len] at h1 h2
  exact ⟨h1, h2⟩
theorem Bo.setLo (h : Bo T e w base g a ca b cb n lo hi) (j x : Nat) : Bo T e (w.setCell ⟨a, j, none⟩ (.int .u32 (x : Int))) base g a ca b cb n (lo.set j x) hi := by
  obtain ⟨n1, n2, n3⟩ := h.ne
  refine ⟨h.ob.other (p := ⟨a, j, none⟩) n2 _, ?_, ?_, h.ne, h.at_⟩
  · have h0 := (h.lo.stored j (.int .u32 (x : Int))).1
    rw [u32s_set] at h0
    exact h0
  · exact own_other h.hi (p := ⟨a, j, none⟩) (fun k hk => by simp [Value.ownBlock] at hk; show k ≠ a; omega) _
theorem Bo.setHi (h : Bo T e w base g a ca b cb n lo hi) (j x : Nat) : Bo T e (w.setCell ⟨b, j, none⟩ (.int .u32 (x : Int))) base g a ca b cb n lo (hi.set j x) := by
  obtain ⟨n1, n2, n3⟩ := h.ne
  refine ⟨h.ob.other (p := ⟨b, j, none⟩) n3 _, ?_, ?_, h.ne, h.at_⟩
  · exact own_other h.lo (p := ⟨b, j, none⟩) (fun k hk => by simp [Value.ownBlock] at hk; show k ≠ b; omega) _
  · have h0 := (h.hi.stored j (.int .u32 (x : Int))).1
    rw [u32s_set] at h0
    exact h0
theorem Bo.other (h : Bo T e w base g a ca b cb n lo hi) {p : Addr} (hp : g ≠ p.block ∧ a ≠ p.block ∧ b ≠ p.block) (u : Value) : Bo T e (w.setCell p u) base g a ca b cb n lo hi :=
  ⟨h.ob.other hp.1 u, own_other h.lo (fun k hk => by simp [Value.ownBlock] at hk; have := hp.2.1; omega) u, own_other h.hi (fun k hk => by simp [Value.ownBlock] at hk; have := hp.2.2; omega) u, h.ne, h.at_⟩
/-- What the walk asks: the box's two cells, a coordinate's cell of each row. -/
theorem Bo.eyes (h : Bo T e w base g a ca b cb n lo hi) {j : Nat} (hj : j < n) : w.cell? ⟨g, 0, none⟩ = some (.slice (some ⟨a, 0, none⟩) n ca) ∧ w.cell? ⟨g, 1, none⟩ = some (.slice (some ⟨b, 0, none⟩) n cb) ∧
    w.cell? ⟨a, j, none⟩ = some (.int .u32 ((lo.getD j 0 : Nat) : Int)) ∧ w.cell? ⟨b, j, none⟩ = some (.int .u32 ((hi.getD j 0 : Nat) : Int)) ∧ w.frozen? ⟨a, j, none⟩ = false ∧ w.frozen? ⟨b, j, none⟩ = false := by
  have h1 := h.lo.cellAt j (by omega)
  have h2 := h.hi.cellAt j (by omega)
  obtain ⟨l1, l2⟩ := h.len
  rw [u32s_get _ j (by omega)] at h1 h2
  exact ⟨h.ob.cell 0 rfl, h.ob.cell 1 rfl, h1, h2, h.lo.frozenAt j, h.hi.frozenAt j⟩
end
end Go.Proofs.Ytoaikponefcbiaa.Bo
