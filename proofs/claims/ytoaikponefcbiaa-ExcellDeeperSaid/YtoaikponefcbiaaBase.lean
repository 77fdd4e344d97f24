/- What of the memory stays: frames, objects of a few cells, rows of the call's own. No program in sight. -/
import Derived.WalkKit
import Derived.RowKit3
import Derived.Deep.Draws
namespace Go.Proofs.Ytoaikponefcbiaa.Base
open Go.RowKit
set_option linter.unusedVariables false

/-- w' is w but for the blocks in S, and for new ones. -/
structure Fr (S : Nat → Prop) (w w' : World) : Prop where
  os : w'.os = w.os
  tape : w'.tape = w.tape
  output : w'.output = w.output
  size : w.heap.size ≤ w'.heap.size
  block : ∀ k, k < w.heap.size → ¬ S k → w'.heap[k]? = w.heap[k]?
/-- Nothing was written. -/
def No : Nat → Prop := fun _ => False
section
variable {S S' : Nat → Prop} {w w1 w2 : World}
theorem Fr.refl (S : Nat → Prop) (w : World) : Fr S w w := ⟨rfl, rfl, rfl, Nat.le_refl _, fun _ _ _ => rfl⟩
theorem Fr.mono (h : Fr S w w1) (hs : ∀ k, S k → S' k) : Fr S' w w1 := ⟨h.os, h.tape, h.output, h.size, fun k hk hn => h.block k hk (fun x => hn (hs k x))⟩
theorem Fr.trans (h : Fr S w w1) (h' : Fr S' w1 w2) (hs : ∀ k, S' k → S k ∨ w.heap.size ≤ k) : Fr S w w2 :=
  ⟨h'.os.trans h.os, h'.tape.trans h.tape, h'.output.trans h.output, Nat.le_trans h.size h'.size, fun k hk hn =>
    (h'.block k (Nat.lt_of_lt_of_le hk h.size) (fun x => (hs k x).elim hn (fun y => by omega))).trans (h.block k hk hn)⟩
theorem Fr.tr (h : Fr S w w1) (h' : Fr S w1 w2) : Fr S w w2 := h.trans h' (fun _ x => .inl x)
theorem Fr.alloc (h : Fr S w w1) (o : Obj) : Fr S w (w1.alloc o) := h.tr ⟨rfl, rfl, rfl, by simp, fun k hk _ => Below.heap_alloc _ _ _ hk⟩
theorem Fr.drew (h : Fr S w w1) : Fr S w w1.drew := ⟨h.os, h.tape, h.output, h.size, h.block⟩
theorem Fr.drewN (h : Fr S w w1) (n : Nat) : Fr S w (w1.drewN n) := by
  induction n with
  | zero => exact h
  | succ n ih => rw [← World.drew_drewN]; exact ih.drew
theorem Fr.setCell (h : Fr S w w1) {p : Addr} (hp : S p.block ∨ w.heap.size ≤ p.block) (u : Value) : Fr S w (w1.setCell p u) :=
  h.trans (S' := fun k => k = p.block) ⟨rfl, rfl, rfl, by simp [World.setCell], fun k _ hk => Below.heap_setCell _ _ _ _ hk⟩ (fun k hk => by subst hk; exact hp)
theorem Fr.grown {row : Option Nat} (h : Fr S w w1) (hg : w1.grownBy w2 row) (hr : ∀ k, row = some k → S k ∨ w.heap.size ≤ k) : Fr S w w2 :=
  h.trans (S' := fun k => row = some k) ⟨hg.os, hg.tape, hg.output, hg.size, fun k hk hn => hg.block k hk (fun e => hn e.symm)⟩ hr
theorem Fr.ofBelow (h : Below w.heap.size w w1) : Fr S w w1 := ⟨h.os, h.tape, h.output, h.size, fun k hk _ => h.block k hk⟩
theorem Fr.below (h : Fr S w w1) {B : Nat} (hB : B ≤ w.heap.size) (hS : ∀ k, S k → B ≤ k) : Below B w w1 := ⟨h.os, h.tape, h.output, h.size, fun k hk => h.block k (by omega) (fun x => by have := hS k x; omega)⟩
theorem Fr.no (h : Fr No w w1) : Below w.heap.size w w1 := h.below (Nat.le_refl _) (fun _ x => x.elim)
theorem Fr.of_no (h : Fr No w w1) : Fr S w w1 := h.mono (fun _ x => x.elim)
end

/-- The rules that a call leaves behind: old cells and old marks read as before. -/
theorem Fr.bcell {w w1 : World} (h : Fr No w w1) : (∀ b o, b < w.heap.size → w1.cell? ⟨b, o, none⟩ = w.cell? ⟨b, o, none⟩) ∧ (∀ b o, b < w.heap.size → w1.frozen? ⟨b, o, none⟩ = w.frozen? ⟨b, o, none⟩) :=
  ⟨fun b o hb => h.no.cell (p := ⟨b, o, none⟩) hb, fun b o hb => h.no.frozen (p := ⟨b, o, none⟩) hb⟩

/-! ### an object: a block of a few cells -/
def Ob (w : World) (g : Nat) (cs : Array Value) (t : TypeId) : Prop := w.heap[g]? = some (.cells cs t (0, 0))
section
variable {S : Nat → Prop} {w w1 : World} {g : Nat} {cs : Array Value} {t : TypeId}
theorem Ob.lt (h : Ob w g cs t) : g < w.heap.size := (Array.getElem?_eq_some_iff.1 h).1
theorem Ob.fr (h : Ob w g cs t) (f : Fr S w w1) (hn : ¬ S g) : Ob w1 g cs t := (f.block g h.lt hn).trans h
theorem Ob.cell (h : Ob w g cs t) (i : Nat) {v : Value} (hv : cs[i]? = some v) : w.cell? ⟨g, i, none⟩ = some v := by
  have h' : w.heap[g]? = some (.cells cs t (0, 0)) := h
  simp [World.cell?, h', hv]
theorem Ob.frozen (h : Ob w g cs t) (i : Nat) : w.frozen? ⟨g, i, none⟩ = false := by
  have h' : w.heap[g]? = some (.cells cs t (0, 0)) := h
  simp [World.frozen?, h']
theorem Ob.set (h : Ob w g cs t) (i : Nat) (v : Value) : Ob (w.setCell ⟨g, i, none⟩ v) g (cs.setIfInBounds i v) t := by
  have h' : w.heap[g]? = some (.cells cs t (0, 0)) := h
  simp [Ob, World.setCell, Array.getElem?_modify, h']
theorem Ob.new (w : World) (cs : Array Value) (t : TypeId) : Ob (w.alloc (.cells cs t)) w.heap.size cs t := by
  show (w.heap.push _)[w.heap.size]? = _
  simp
theorem Ob.other (h : Ob w g cs t) {p : Addr} (hn : g ≠ p.block) (v : Value) : Ob (w.setCell p v) g cs t := (Below.heap_setCell w p v g hn).trans h
theorem Ob.alloc (h : Ob w g cs t) (o : Obj) : Ob (w.alloc o) g cs t := h.fr ((Fr.refl No w).alloc o) (fun x => x)
theorem Ob.drew (h : Ob w g cs t) : Ob w.drew g cs t := h
theorem Ob.drewN (h : Ob w g cs t) (n : Nat) : Ob (w.drewN n) g cs t := h.fr ((Fr.refl No w).drewN n) (fun x => x)
end

/-! ### a row of the call's own -/
section
variable {S : Nat → Prop} {w w1 : World} {base n : Nat} {e : TypeId} {size : Nat} {v : Value} {xs : List Value}
theorem own_move (h : w.ownsRow base e size v n xs) (hm : ∀ k, v.ownBlock = some k → w1.heap[k]? = w.heap[k]?) : w1.ownsRow base e size v n xs := by
  obtain ⟨h1, h2⟩ := h
  refine ⟨h1, ?_⟩
  rcases h2 with h2 | ⟨g, cap, cur, rfl, hg, hh, r⟩
  · exact .inl h2
  · exact .inr ⟨g, cap, cur, rfl, hg, (hm g (by simp [Value.ownBlock])).trans hh, r⟩
theorem own_fr (h : w.ownsRow base e size v n xs) (f : Fr S w w1) (hn : ∀ k, v.ownBlock = some k → ¬ S k) : w1.ownsRow base e size v n xs :=
  own_move h (fun k hk => f.block k (h.lt k hk).2 (hn k hk))
theorem own_base (h : w.ownsRow base e size v n xs) {base' : Nat} (hb : base' ≤ base) : w.ownsRow base' e size v n xs := by
  obtain ⟨h1, h2⟩ := h
  refine ⟨h1, ?_⟩
  rcases h2 with h2 | ⟨g, cap, cur, rfl, hg, r⟩
  · exact .inl h2
  · exact .inr ⟨g, cap, cur, rfl, Nat.le_trans hb hg, r⟩
theorem own_up (h : w.ownsRow base e size v n xs) {base' : Nat} (hb : ∀ k, v.ownBlock = some k → base' ≤ k) : w.ownsRow base' e size v n xs := by
  obtain ⟨h1, h2⟩ := h
  refine ⟨h1, ?_⟩
  rcases h2 with h2 | ⟨g, cap, cur, rfl, hg, r⟩
  · exact .inl h2
  · exact .inr ⟨g, cap, cur, rfl, hb g (by simp [Value.ownBlock]), r⟩
theorem own_len (h : w.ownsRow base e 1 v n xs) : xs.length = n := by have := h.1; omega
theorem own_slice (h : w.ownsRow base e size v n xs) : ∃ A c, v = .slice A n c := by
  rcases h.2 with ⟨rfl, rfl⟩ | ⟨g, cap, cur, rfl, _⟩
  · exact ⟨none, 0, rfl⟩
  · exact ⟨_, cap, rfl⟩
theorem own_max (h : w.ownsRow base e size v n xs) : n ≤ maxLen := by
  rcases h.2 with ⟨_, h⟩ | ⟨_, _, _, _, _, _, h1, h2, _⟩ <;> omega
end
end Go.Proofs.Ytoaikponefcbiaa.Base
