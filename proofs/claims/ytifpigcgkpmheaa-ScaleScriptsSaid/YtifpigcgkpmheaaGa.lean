/- Several parts in one text: each begins with its own sentence. -/

import Derived.WalkKit
import Derived.RowKit3
import Derived.Deep.Draws
import Derived.Maps.AppendAt
import Derived.OwnWalk
import Derived.Laws.OwnMore
import Derived.ProofKit
import Derived.ChangeArms
import Derived.Laws.BytesArg
import Derived.Laws.MakeOwn
import Derived.Lib.ConvBytes
import Derived.Laws.StructEq
import Derived.Deep.OwnRows
import Derived.BigFrame
/- What of the memory stays: frames, objects of a few cells, rows of the call's own. No program in sight. -/
namespace Go.Proofs.Ytifpigcgkpmheaa.Base
open Go.RowKit
set_option linter.unusedVariables false

/-- w' is w but for the blocks in S, and for new ones. -/
structure Fr (S : Nat → Prop) (w w' : World) : Prop where
  os : w'.os = w.os
  tape : w'.tape = w.tape
  output : w'.output = w.output
  size : w.heap.size ≤ w'.heap.size
  block : ∀ k, k < w.heap.size → ¬ S k → w'.heap[k]? = w.heap[k]?
/-- Nothing was written. -/
def No : Nat → Prop := fun _ => False
section
variable {S S' : Nat → Prop} {w w1 w2 : World}
theorem Fr.refl (S : Nat → Prop) (w : World) : Fr S w w := ⟨rfl, rfl, rfl, Nat.le_refl _, fun _ _ _ => rfl⟩
theorem Fr.mono (h : Fr S w w1) (hs : ∀ k, S k → S' k) : Fr S' w w1 := ⟨h.os, h.tape, h.output, h.size, fun k hk hn => h.block k hk (fun x => hn (hs k x))⟩
theorem Fr.trans (h : Fr S w w1) (h' : Fr S' w1 w2) (hs : ∀ k, S' k → S k ∨ w.heap.size ≤ k) : Fr S w w2 :=
  ⟨h'.os.trans h.os, h'.tape.trans h.tape, h'.output.trans h.output, Nat.le_trans h.size h'.size, fun k hk hn =>
    (h'.block k (Nat.lt_of_lt_of_le hk h.size) (fun x => (hs k x).elim hn (fun y => by omega))).trans (h.block k hk hn)⟩
theorem Fr.tr (h : Fr S w w1) (h' : Fr S w1 w2) : Fr S w w2 := h.trans h' (fun _ x => .inl x)
theorem Fr.alloc (h : Fr S w w1) (o : Obj) : Fr S w (w1.alloc o) := h.tr ⟨rfl, rfl, rfl, by simp, fun k hk _ => Below.heap_alloc _ _ _ hk⟩
theorem Fr.drew (h : Fr S w w1) : Fr S w w1.drew := ⟨h.os, h.tape, h.output, h.size, h.block⟩
theorem Fr.drewN (h : Fr S w w1) (n : Nat) : Fr S w (w1.drewN n) := by
  induction n with
  | zero => exact h
  | succ n ih => rw [← World.drew_drewN]; exact ih.drew
theorem Fr.setCell (h : Fr S w w1) {p : Addr} (hp : S p.block ∨ w.heap.size ≤ p.block) (u : Value) : Fr S w (w1.setCell p u) :=
  h.trans (S' := fun k => k = p.block) ⟨rfl, rfl, rfl, by simp [World.setCell], fun k _ hk => Below.heap_setCell _ _ _ _ hk⟩ (fun k hk => by subst hk; exact hp)
theorem Fr.grown {row : Option Nat} (h : Fr S w w1) (hg : w1.grownBy w2 row) (hr : ∀ k, row = some k → S k ∨ w.heap.size ≤ k) : Fr S w w2 :=
  h.trans (S' := fun k => row = some k) ⟨hg.os, hg.tape, hg.output, hg.size, fun k hk hn => hg.block k hk (fun e => hn e.symm)⟩ hr
theorem Fr.ofBelow (h : Below w.heap.size w w1) : Fr S w w1 := ⟨h.os, h.tape, h.output, h.size, fun k hk _ => h.block k hk⟩
theorem Fr.below (h : Fr S w w1) {B : Nat} (hB : B ≤ w.heap.size) (hS : ∀ k, S k → B ≤ k) : Below B w w1 := ⟨h.os, h.tape, h.output, h.size, fun k hk => h.block k (by omega) (fun x => by have := hS k x; omega)⟩
theorem Fr.no (h : Fr No w w1) : Below w.heap.size w w1 := h.below (Nat.le_refl _) (fun _ x => x.elim)
theorem Fr.of_no (h : Fr No w w1) : Fr S w w1 := h.mono (fun _ x => x.elim)
end

/-- The rules that a call leaves behind: old cells and old marks read as before. -/
theorem Fr.bcell {w w1 : World} (h : Fr No w w1) : (∀ b o, b < w.heap.size → w1.cell? ⟨b, o, none⟩ = w.cell? ⟨b, o, none⟩) ∧ (∀ b o, b < w.heap.size → w1.frozen? ⟨b, o, none⟩ = w.frozen? ⟨b, o, none⟩) :=
  ⟨fun b o hb => h.no.cell (p := ⟨b, o, none⟩) hb, fun b o hb => h.no.frozen (p := ⟨b, o, none⟩) hb⟩

/-! ### an object: a block of a few cells -/
def Ob (w : World) (g : Nat) (cs : Array Value) (t : TypeId) : Prop := w.heap[g]? = some (.cells cs t (0, 0))
section
variable {S : Nat → Prop} {w w1 : World} {g : Nat} {cs : Array Value} {t : TypeId}
theorem Ob.lt (h : Ob w g cs t) : g < w.heap.size := (Array.getElem?_eq_some_iff.1 h).1
theorem Ob.fr (h : Ob w g cs t) (f : Fr S w w1) (hn : ¬ S g) : Ob w1 g cs t := (f.block g h.lt hn).trans h
theorem Ob.cell (h : Ob w g cs t) (i : Nat) {v : Value} (hv : cs[i]? = some v) : w.cell? ⟨g, i, none⟩ = some v := by
  have h' : w.heap[g]? = some (.cells cs t (0, 0)) := h
  simp [World.cell?, h', hv]
theorem Ob.frozen (h : Ob w g cs t) (i : Nat) : w.frozen? ⟨g, i, none⟩ = false := by
  have h' : w.heap[g]? = some (.cells cs t (0, 0)) := h
  simp [World.frozen?, h']
theorem Ob.set (h : Ob w g cs t) (i : Nat) (v : Value) : Ob (w.setCell ⟨g, i, none⟩ v) g (cs.setIfInBounds i v) t := by
  have h' : w.heap[g]? = some (.cells cs t (0, 0)) := h
  simp [Ob, World.setCell, Array.getElem?_modify, h']
theorem Ob.new (w : World) (cs : Array Value) (t : TypeId) : Ob (w.alloc (.cells cs t)) w.heap.size cs t := by
  show (w.heap.push _)[w.heap.size]? = _
  simp
theorem Ob.other (h : Ob w g cs t) {p : Addr} (hn : g ≠ p.block) (v : Value) : Ob (w.setCell p v) g cs t := (Below.heap_setCell w p v g hn).trans h
theorem Ob.alloc (h : Ob w g cs t) (o : Obj) : Ob (w.alloc o) g cs t := h.fr ((Fr.refl No w).alloc o) (fun x => x)
theorem Ob.drew (h : Ob w g cs t) : Ob w.drew g cs t := h
theorem Ob.drewN (h : Ob w g cs t) (n : Nat) : Ob (w.drewN n) g cs t := h.fr ((Fr.refl No w).drewN n) (fun x => x)
end

/-! ### a row of the call's own -/
section
variable {S : Nat → Prop} {w w1 : World} {base n : Nat} {e : TypeId} {size : Nat} {v : Value} {xs : List Value}
theorem own_move (h : w.ownsRow base e size v n xs) (hm : ∀ k, v.ownBlock = some k → w1.heap[k]? = w.heap[k]?) : w1.ownsRow base e size v n xs := by
  obtain ⟨h1, h2⟩ := h
  refine ⟨h1, ?_⟩
  rcases h2 with h2 | ⟨g, cap, cur, rfl, hg, hh, r⟩
  · exact .inl h2
  · exact .inr ⟨g, cap, cur, rfl, hg, (hm g (by simp [Value.ownBlock])).trans hh, r⟩
theorem own_fr (h : w.ownsRow base e size v n xs) (f : Fr S w w1) (hn : ∀ k, v.ownBlock = some k → ¬ S k) : w1.ownsRow base e size v n xs :=
  own_move h (fun k hk => f.block k (h.lt k hk).2 (hn k hk))
theorem own_base (h : w.ownsRow base e size v n xs) {base' : Nat} (hb : base' ≤ base) : w.ownsRow base' e size v n xs := by
  obtain ⟨h1, h2⟩ := h
  refine ⟨h1, ?_⟩
  rcases h2 with h2 | ⟨g, cap, cur, rfl, hg, r⟩
  · exact .inl h2
  · exact .inr ⟨g, cap, cur, rfl, Nat.le_trans hb hg, r⟩
theorem own_up (h : w.ownsRow base e size v n xs) {base' : Nat} (hb : ∀ k, v.ownBlock = some k → base' ≤ k) : w.ownsRow base' e size v n xs := by
  obtain ⟨h1, h2⟩ := h
  refine ⟨h1, ?_⟩
  rcases h2 with h2 | ⟨g, cap, cur, rfl, hg, r⟩
  · exact .inl h2
  · exact .inr ⟨g, cap, cur, rfl, hb g (by simp [Value.ownBlock]), r⟩
theorem own_len (h : w.ownsRow base e 1 v n xs) : xs.length = n := by have := h.1; omega
theorem own_slice (h : w.ownsRow base e size v n xs) : ∃ A c, v = .slice A n c := by
  rcases h.2 with ⟨rfl, rfl⟩ | ⟨g, cap, cur, rfl, _⟩
  · exact ⟨none, 0, rfl⟩
  · exact ⟨_, cap, rfl⟩
theorem own_max (h : w.ownsRow base e size v n xs) : n ≤ maxLen := by
  rcases h.2 with ⟨_, h⟩ | ⟨_, _, _, _, _, _, h1, h2, _⟩ <;> omega
end
end Go.Proofs.Ytifpigcgkpmheaa.Base
/- append, by one law: a row of the call's own, and cells that are read. No program in sight. -/
namespace Go.Proofs.Ytifpigcgkpmheaa.App
open Go.RowKit Go.Proofs.Ytifpigcgkpmheaa.Base
set_option linter.unusedVariables false

/-- The cells cs stand from A on. -/
def Rc (w : World) (A : Option Addr) (cs : List Value) : Prop := ∀ j u, cs[j]? = some u → ∃ ad, A = some ad ∧ w.cell? (ad.add j) = some u
theorem Rc.none_ (w : World) : Rc w none [] := fun j u h => by simp at h
theorem Rc.nil (w : World) (A : Option Addr) : Rc w A [] := fun j u h => by simp at h
theorem Rc.mk_ {w : World} {ad : Addr} {cs : List Value} (h : ∀ j u, cs[j]? = some u → w.cell? (ad.add j) = some u) : Rc w (some ad) cs := fun j u hj => ⟨ad, rfl, h j u hj⟩
theorem Rc.get {w : World} {A : Option Addr} {cs : List Value} (h : Rc w A cs) {ad : Addr} (ha : A = some ad) (j : Nat) (hj : j < cs.length) : w.cell? (ad.add j) = some cs[j] := by
  obtain ⟨ad', h1, h2⟩ := h j cs[j] (by simp [hj])
  rw [ha] at h1
  injection h1 with h1
  subst h1
  exact h2
theorem Rc.fr {S : Nat → Prop} {w w1 : World} {A : Option Addr} {cs : List Value} (h : Rc w A cs) (f : Fr S w w1) (hn : ∀ ad, A = .some ad → ¬ S ad.block) : Rc w1 A cs := fun j u hj => by
  obtain ⟨ad, h1, h2⟩ := h j u hj
  refine ⟨ad, h1, ?_⟩
  have hb := World.block_lt_of_cell? w _ h2
  have e : (ad.add j).block = ad.block := by unfold Addr.add; split <;> rfl
  rw [World.cell?_of_block (w := w) (f.block _ hb (by rw [e]; exact hn ad h1))]
  exact h2
theorem Rc.no {w w1 : World} {A : Option Addr} {cs : List Value} (h : Rc w A cs) (f : Fr No w w1) : Rc w1 A cs := h.fr f (fun _ _ x => x)
theorem Rc.of_own {w : World} {base n : Nat} {e : TypeId} {size : Nat} {A : Option Addr} {m c : Nat} {xs : List Value} (h : w.ownsRow base e size (.slice A m c) n xs) : Rc w A xs := by
  intro j u hj
  rcases h.2 with ⟨h1, h2⟩ | ⟨g, cap, cur, h1, _⟩
  · have := h.1
    subst h2
    have : xs = [] := List.eq_nil_of_length_eq_zero (by omega)
    subst this
    simp at hj
  · injection h1 with h1
    exact ⟨_, h1, h.cells (g := g) (by rw [h1]; rfl) j u hj⟩
/-- A block that was just made. -/
theorem Rc.new (w : World) (cs : Array Value) (t : TypeId) : Rc (w.alloc (.cells cs t)) (.some ⟨w.heap.size, 0, .none⟩) cs.toList := by
  refine Rc.mk_ (fun j u hj => ?_)
  have h := Ob.new w cs t
  have e : (⟨w.heap.size, 0, .none⟩ : Addr).add j = ⟨w.heap.size, j, .none⟩ := by unfold Addr.add; split <;> simp_all
  rw [e]
  exact h.cell j (by simpa using hj)

section
variable {P : Program} {ops : Array Oper} {rest : List Oper} {o : Oper} {a : Act} {Q : Exit → Act → World → Prop}
theorem app_run {w : World} (base : Nat) (t ty e : TypeId) (z : Value) (size bytes : Nat) (ht : P.underlying t = .some (.slice e))
    (hinfo : (P.info? e).map (fun i => (i.zero, i.size, i.bytes)) = .some (.some z, size, bytes)) (hz : z.cells.size = size) (hsz : 0 < size) (hb0 : 0 < bytes)
    (v : Value) (n : Nat) (xs : List Value) (HO : w.ownsRow base e size v n xs) (A : Option Addr) (m c : Nat) (news : List Value) (hl : news.length = m * size) (hr : Rc w A news)
    (h1 : ∀ u ∈ news, u.oneCell' = true) (hb : (n + m) * bytes ≤ 140737488355328) (hbase : base ≤ w.heap.size) :
    ∃ v1 w1, (Builtin.append_ #[t, t] ty #[v, .slice A m c]).run P w = .ok v1 w1 ∧ w1.ownsRow base e size v1 (n + m) (xs ++ news) ∧ w.grownBy w1 v.ownBlock ∧ (v1.ownBlock = v.ownBlock ∨ v1.ownBlock = .some w.heap.size) := by
  obtain ⟨i0, hi, hzz⟩ := Option.map_eq_some_iff.1 hinfo
  simp only [Prod.mk.injEq] at hzz
  obtain ⟨hz0, hz1, hz2⟩ := hzz
  have hlen : n + m ≤ 140737488355328 := Nat.le_trans (Nat.le_mul_of_pos_right _ hb0) hb
  rcases A with _ | ad
  · have h0 : news = [] := by
      cases news with
      | nil => rfl
      | cons u us => obtain ⟨ad, h, _⟩ := hr 0 u rfl; cases h
    subst h0
    have hm : m = 0 := by
      rcases Nat.eq_zero_or_pos m with h | h
      · exact h
      · have := Nat.mul_pos h hsz
        simp at hl
        omega
    subst hm
    refine ⟨v, w, ?_, by simpa using HO, World.grownBy.refl w _, .inl rfl⟩
    rcases HO.2 with ⟨rfl, hn⟩ | ⟨g, cap, cur, rfl, _, _, hnc, _⟩
    · simp [Builtin.append_, run_underlying ht, sizeOf, typeInfo, hi, Builtin.lenOf, Builtin.firstCells]
    · simp [Builtin.append_, run_underlying ht, sizeOf, typeInfo, hi, Builtin.lenOf, Builtin.firstCells, hnc, storeCells]
  · have hcells : ∀ j u, news[j]? = .some u → w.cell? (ad.add j) = .some u := by
      intro j u hj
      obtain ⟨ad', h, hc⟩ := hr j u hj
      injection h with h
      subst h
      exact hc
    obtain ⟨v1, w1, hr, h2, h3, _, h5⟩ := run_append_own_at (P := P) w base t ty e i0 z size bytes ht hi hz0 hz1 hz2 hz hsz v n xs HO ad m c news hl hcells h1 (by simp only [maxLen]; omega) hb hbase
    exact ⟨v1, w1, hr, h2, h3, h5⟩
/-- 'append(s, x...)' in a walk: behind 'at_builtin'. -/
theorem app_list {w : World} (base : Nat) (hgd : o.guard = .none) (s x : Operand) (t e : TypeId) (z : Value) (size bytes : Nat)
    (ho : o.op = .call { callee := .builtin .append, args := #[s, x], argTypes := #[t, t] }) (ht : P.underlying t = .some (.slice e))
    (hinfo : (P.info? e).map (fun i => (i.zero, i.size, i.bytes)) = .some (.some z, size, bytes)) (hz : z.cells.size = size) (hsz : 0 < size) (hb0 : 0 < bytes)
    (v : Value) (n : Nat) (xs : List Value) (hs : a.eval s = v) (HO : w.ownsRow base e size v n xs) (A : Option Addr) (m c : Nat) (news : List Value) (hx : a.eval x = .slice A m c)
    (hl : news.length = m * size) (hr : Rc w A news) (h1 : ∀ u ∈ news, u.oneCell' = true) (hb : (n + m) * bytes ≤ 140737488355328) (hbase : base ≤ w.heap.size)
    (h : ∀ v1 w1, w1.ownsRow base e size v1 (n + m) (xs ++ news) → w.grownBy w1 v.ownBlock → (v1.ownBlock = v.ownBlock ∨ v1.ownBlock = .some w.heap.size) → wpList P ops Q rest (a.put o.dst v1) w1) :
    wpList P ops Q (o :: rest) a w := by
  refine wpList_plain hgd fun K hK => ?_
  obtain ⟨v1, w1, hrun, h2, h3, h5⟩ := app_run (P := P) base t o.type e z size bytes ht hinfo hz hsz hb0 v n xs HO A m c news hl hr h1 hb hbase
  unfold Oper.wp execOp
  simp only [ho, resolve, invoke, builtin, Sem.run_bind, Sem.run_pure, Result.andThen_ok, List.map_toArray, List.map_cons, List.map_nil, hs, hx, hrun]
  exact hK _ _ (h v1 w1 h2 h3 h5)
end
/-- An empty row that was just made, '[]E{}'. -/
theorem own_empty (w : World) (base : Nat) (e : TypeId) (size : Nat) (hb : base ≤ w.heap.size) : (w.alloc (.cells #[] e)).ownsRow base e size (.slice (.some ⟨w.heap.size, 0, .none⟩) 0 0) 0 [] := by
  have h := World.ownsRow_lit (base := base) (e := e) (size := size) w #[] 0 hb (by simp [maxLen]) (by simp)
  simpa using h
/-- The frame behind an append to a row of the call's own. -/
theorem fr_app {S : Nat → Prop} {w w1 w2 : World} {v : Value} (f : Fr S w w1) (hg : w1.grownBy w2 v.ownBlock) (hv : ∀ k, v.ownBlock = .some k → S k ∨ w.heap.size ≤ k) : Fr S w w2 := f.grown hg hv
end Go.Proofs.Ytifpigcgkpmheaa.App
/- What arguments read as: kinds of data, and their readings in memory. No program in sight. -/
namespace Go.Proofs.Ytifpigcgkpmheaa.Ty
open Go.RowKit Go.Proofs.Ytifpigcgkpmheaa.Base Go.Proofs.Ytifpigcgkpmheaa.App
set_option linter.unusedVariables false

inductive Ty where
  | int (k : IntKind)
  | bool
  | str
  | sl (e : TypeId) (t : Ty)
  | nl
  | cn (a b : Ty)
def Ty.D : Ty → Type
  | .int _ => Int
  | .bool => Bool
  | .str => ByteArray
  | .sl _ t => List t.D
  | .nl => Unit
  | .cn a b => a.D × b.D
def Ty.sz : Ty → Nat
  | .int _ => 1
  | .bool => 1
  | .str => 1
  | .sl _ _ => 1
  | .nl => 0
  | .cn a b => a.sz + b.sz
/-- The cells cs read as x. -/
def Rd : (t : Ty) → World → t.D → List Value → Prop
  | .int k, _, (n : Int), cs => cs = [.int k n] ∧ (Lit.int k n).wf = true
  | .bool, _, (b : Bool), cs => cs = [.bool b]
  | .str, _, (s : ByteArray), cs => cs = [.string s] ∧ s.size ≤ maxLen
  | .sl _ t, w, (xs : List t.D), cs => ∃ A c, cs = [.slice A xs.length c] ∧ xs.length ≤ c ∧ c ≤ maxLen ∧
      ∀ i (h : i < xs.length), ∃ ad ecs, A = some ad ∧ ecs.length = t.sz ∧ Rd t w xs[i] ecs ∧ ∀ j u, ecs[j]? = some u → w.cell? (ad.add (i * t.sz + j)) = some u
  | .nl, _, _, cs => cs = []
  | .cn a b, w, p, cs => ∃ c1 c2, cs = c1 ++ c2 ∧ Rd a w p.1 c1 ∧ Rd b w p.2 c2
theorem Rd.len : ∀ {t : Ty} {w : World} {x : t.D} {cs : List Value}, Rd t w x cs → cs.length = t.sz
  | .int k, w, x, cs, h => by rw [h.1]; rfl
  | .bool, w, x, cs, h => by
    have h' : cs = [.bool x] := h
    rw [h']; rfl
  | .str, w, x, cs, h => by rw [h.1]; rfl
  | .sl e t, w, x, cs, h => by
    obtain ⟨A, c, h', _⟩ := h
    rw [h']; rfl
  | .nl, w, x, cs, h => by
    have h' : cs = [] := h
    rw [h']; rfl
  | .cn a b, w, x, cs, h => by
    obtain ⟨c1, c2, rfl, h1, h2⟩ := h
    rw [List.length_append, Rd.len h1, Rd.len h2]; rfl
theorem Rd.below : ∀ {t : Ty} {w w1 : World} {x : t.D} {cs : List Value}, Rd t w x cs → Below w.heap.size w w1 → Rd t w1 x cs
  | .int k, w, w1, x, cs, h, hb => h
  | .bool, w, w1, x, cs, h, hb => h
  | .str, w, w1, x, cs, h, hb => h
  | .sl e t, w, w1, x, cs, h, hb => by
    obtain ⟨A, c, h1, h2, h3, h4⟩ := h
    refine ⟨A, c, h1, h2, h3, fun i hi => ?_⟩
    obtain ⟨ad, ecs, h5, h6, h7, h8⟩ := h4 i hi
    exact ⟨ad, ecs, h5, h6, Rd.below h7 hb, fun j u hj => (hb.cell (World.block_lt_of_cell? w _ (h8 j u hj))).trans (h8 j u hj)⟩
  | .nl, w, w1, x, cs, h, hb => h
  | .cn a b, w, w1, x, cs, h, hb => by
    obtain ⟨c1, c2, h1, h2, h3⟩ := h
    exact ⟨c1, c2, h1, h2.below hb, h3.below hb⟩
theorem Rd.fr {t : Ty} {w w1 : World} {x : t.D} {cs : List Value} (h : Rd t w x cs) (f : Fr No w w1) : Rd t w1 x cs := h.below f.no

/-- The type T of the program (or these fields, from this place on) is of the kind t. -/
def isB (P : Program) : Ty → TypeId ⊕ (List Field × Nat) → Bool
  | .int k, .inl T => match P.underlying T with | some (.int k') => decide (k' = k) | _ => false
  | .bool, .inl T => match P.underlying T with | some .bool => true | _ => false
  | .str, .inl T => match P.underlying T with | some .string => true | _ => false
  | .sl e t, .inl T => match P.underlying T with | some (.slice e') => decide (e' = e) && isB P t (.inl e) && decide (P.cellsOf e = t.sz) | _ => false
  | .cn a b, .inl T => match P.underlying T with
    | some (.struct fs) => decide (P.cellsOf T = a.sz + b.sz) && (match fs.toList with | f :: r => decide (f.offset = 0) && decide (P.cellsOf f.type = a.sz) && isB P a (.inl f.type) && isB P b (.inr (r, a.sz)) | [] => false)
    | _ => false
  | .cn a b, .inr (l, off) => match l with | f :: r => decide (f.offset = off) && decide (P.cellsOf f.type = a.sz) && isB P a (.inl f.type) && isB P b (.inr (r, off + a.sz)) | [] => false
  | .nl, .inr (l, _) => match l with | [] => true | _ => false
  | _, _ => false
theorem list_of {α : Type} {Q : Nat → α → Prop} : ∀ n : Nat, (∀ i, i < n → ∃ v, Q i v) → ∃ xs : List α, xs.length = n ∧ ∀ i (h : i < xs.length), Q i xs[i]
  | 0, _ => ⟨[], rfl, fun i h => by simp at h⟩
  | n + 1, h => by
    obtain ⟨xs, hl, hq⟩ := list_of n (fun i hi => h i (by omega))
    obtain ⟨v, hv⟩ := h n (by omega)
    refine ⟨xs ++ [v], by simp [hl], fun i hi => ?_⟩
    by_cases e : i < xs.length
    · rw [List.getElem_append_left e]; exact hq i e
    · have : i = n := by simp at hi; omega
      subst this
      rw [List.getElem_append_right (by omega)]
      simpa [hl] using hv
theorem add_add (a : Addr) (p j : Nat) : (a.add p).add j = a.add (p + j) := by
  unfold Addr.add
  by_cases h1 : p = 0 <;> by_cases h2 : j = 0 <;> simp [h1, h2, Nat.add_assoc]
theorem cells_get {w : World} {base n : Nat} {a : Addr} {ecs : List Value} (h : w.cells? base a n = some ecs) : ecs.length = n ∧ ∀ j u, ecs[j]? = some u → w.cell? (a.add j) = some u := by
  unfold World.cells? at h
  split at h
  · have hl : ecs.length = n := by simpa using mapM_some_length h
    refine ⟨hl, fun j u hj => ?_⟩
    have hj' : j < ecs.length := (List.getElem?_eq_some_iff.1 hj).1
    have := mapM_some_get h j j (by rw [List.getElem?_range (by omega)])
    rw [this]; exact hj
  · cases h
section
variable {H : Type} {enc : TypeId × Value → H} {P : Program} {w : World} {base : Nat} {spare : Nat → Bool} {held : Bool}
theorem rd_both : ∀ (t : Ty),
    (∀ T, isB P t (.inl T) = true → ∀ (fuel : Nat) (cs : List Value) x, DataW.trod enc P w base spare held fuel T cs = some x → ∃ v, Rd t w v cs) ∧
    (∀ l off, isB P t (.inr (l, off)) = true → ∀ (n : Nat) (cs : List Value), cs.length = off + t.sz → (∀ f ∈ l, ∃ y, DataW.trod enc P w base spare held n f.type ((cs.drop f.offset).take (P.cellsOf f.type)) = some y) → ∃ v, Rd t w v (cs.drop off))
  | .int k => by
    refine ⟨fun T h fuel cs x hx => ?_, fun l off h => by simp [isB] at h⟩
    have ht : P.underlying T = some (.int k) := by
      simp only [isB] at h
      split at h
      · next k' hk => rw [hk]; simp at h; rw [h]
      · cases h
    obtain ⟨n, h1, _, h2⟩ := DataW.trod_int ht hx
    exact ⟨n, h1, h2⟩
  | .bool => by
    refine ⟨fun T h fuel cs x hx => ?_, fun l off h => by simp [isB] at h⟩
    have ht : P.underlying T = some .bool := by
      simp only [isB] at h
      split at h
      · assumption
      · cases h
    obtain ⟨b, h1, _⟩ := DataW.trod_bool ht hx
    exact ⟨b, h1⟩
  | .str => by
    refine ⟨fun T h fuel cs x hx => ?_, fun l off h => by simp [isB] at h⟩
    have ht : P.underlying T = some .string := by
      simp only [isB] at h
      split at h
      · assumption
      · cases h
    obtain ⟨s, h1, _, h2⟩ := DataW.trod_string ht hx
    exact ⟨s, h1, h2⟩
  | .sl e t => by
    refine ⟨fun T h fuel cs x hx => ?_, fun l off h => by simp [isB] at h⟩
    have ht : P.underlying T = some (.slice e) ∧ isB P t (.inl e) = true ∧ P.cellsOf e = t.sz := by
      simp only [isB] at h
      split at h
      · next e' he =>
        simp only [Bool.and_eq_true, decide_eq_true_eq] at h
        obtain ⟨⟨h1, h2⟩, h3⟩ := h
        subst h1
        exact ⟨he, h2, h3⟩
      · cases h
    obtain ⟨ht1, ht2, ht3⟩ := ht
    rcases DataW.trod_slice ht1 hx with ⟨h1, _⟩ | ⟨a, len, cap, elems, rest, n, _, h1, _, _, h2, h3, h4, h5, _⟩
    · exact ⟨[], none, 0, h1, by simp, by simp [maxLen], fun i hi => by simp at hi⟩
    · obtain ⟨xs, hl, hq⟩ := list_of (Q := fun i v => ∃ ecs, ecs.length = t.sz ∧ Rd t w v ecs ∧ ∀ j u, ecs[j]? = some u → w.cell? (a.add (i * t.sz + j)) = some u) len (fun i hi => by
        have h6 := h5 i hi
        rw [List.getElem?_eq_getElem (by omega)] at h6
        obtain ⟨ecs, h7, h8⟩ := Option.bind_eq_some_iff.1 h6
        obtain ⟨v, hv⟩ := (rd_both t).1 e ht2 _ _ _ h8
        obtain ⟨h9, h10⟩ := cells_get h7
        refine ⟨v, ecs, by rw [h9, ht3], hv, fun j u hj => ?_⟩
        have := h10 j u hj
        rw [add_add, ht3] at this
        exact this)
      refine ⟨xs, some a, cap, by rw [hl]; exact h1, by omega, h3, fun i hi => ?_⟩
      obtain ⟨ecs, h6, h7, h8⟩ := hq i hi
      exact ⟨a, ecs, rfl, h6, h7, h8⟩
  | .nl => by
    refine ⟨fun T h => by simp [isB] at h, fun l off h n cs hc hf => ?_⟩
    refine ⟨(), ?_⟩
    show cs.drop off = []
    have : cs.length = off := by simpa [Ty.sz] using hc
    simp [this]
  | .cn a b => by
    have hin : ∀ l off, isB P (.cn a b) (.inr (l, off)) = true → ∀ (n : Nat) (cs : List Value), cs.length = off + (Ty.cn a b).sz → (∀ f ∈ l, ∃ y, DataW.trod enc P w base spare held n f.type ((cs.drop f.offset).take (P.cellsOf f.type)) = some y) → ∃ v, Rd (.cn a b) w v (cs.drop off) := by
      intro l off h n cs hc hf
      cases l with
      | nil => simp [isB] at h
      | cons f r =>
        simp only [isB, Bool.and_eq_true, decide_eq_true_eq] at h
        obtain ⟨⟨⟨h1, h2⟩, h3⟩, h4⟩ := h
        obtain ⟨y, hy⟩ := hf f List.mem_cons_self
        rw [h1, h2] at hy
        obtain ⟨v1, hv1⟩ := (rd_both a).1 _ h3 _ _ _ hy
        obtain ⟨v2, hv2⟩ := (rd_both b).2 r (off + a.sz) h4 n cs (by rw [hc]; simp only [Ty.sz]; omega) (fun g hg => hf g (List.mem_cons_of_mem _ hg))
        refine ⟨(v1, v2), (cs.drop off).take a.sz, cs.drop (off + a.sz), ?_, hv1, hv2⟩
        rw [← List.drop_drop, List.take_append_drop]
    refine ⟨fun T h fuel cs x hx => ?_, hin⟩
    simp only [isB] at h
    split at h
    · next fs hfs =>
      simp only [Bool.and_eq_true, decide_eq_true_eq] at h
      obtain ⟨h1, h2⟩ := h
      obtain ⟨xs, n, _, _, h3, h4, h5⟩ := DataW.trod_struct hfs hx
      have h6 : isB P (.cn a b) (.inr (fs.toList, 0)) = true := by
        cases hl : fs.toList with
        | nil => rw [hl] at h2; cases h2
        | cons f r =>
          rw [hl] at h2
          simp only [isB, Nat.zero_add]
          exact h2
      have h7 := hin fs.toList 0 h6 n cs (by rw [h3, h1]; simp [Ty.sz]) (fun f hf => by
        obtain ⟨i, hi, hfi⟩ := List.mem_iff_getElem.1 hf
        have hi' : i < fs.size := by simpa using hi
        have h8 := h5 i f (by rw [Array.getElem?_eq_getElem hi']; exact congrArg some (by simpa using hfi))
        rw [List.getElem?_eq_getElem (by omega)] at h8
        exact ⟨_, h8⟩)
      simpa using h7
    · cases h
/-- AN ARGUMENT OPENED. -/
theorem rd_of {t : Ty} {T : TypeId} (ht : isB P t (.inl T) = true) {v : Value} {d : DataW H} {ps : List MemPlace} (h : DataW.Trod enc P w base spare held T v d ps) : ∃ x, Rd t w x v.cells.toList := by
  obtain ⟨fuel, hf⟩ := h
  exact (rd_both t).1 T ht fuel _ _ hf
end
/-- A slice's value. -/
theorem Rd.slice {e : TypeId} {t : Ty} {w : World} {xs : List t.D} {A : Option Addr} {n c : Nat} (h : Rd (.sl e t) w xs [.slice A n c]) : n = xs.length ∧ n ≤ c ∧ c ≤ maxLen ∧
    ∀ i (h : i < xs.length), ∃ ad ecs, A = some ad ∧ ecs.length = t.sz ∧ Rd t w xs[i] ecs ∧ ∀ j u, ecs[j]? = some u → w.cell? (ad.add (i * t.sz + j)) = some u := by
  obtain ⟨A', c', h1, h2, h3, h4⟩ := h
  simp only [List.cons.injEq, Value.slice.injEq, and_true] at h1
  obtain ⟨rfl, rfl, rfl⟩ := h1
  exact ⟨rfl, h2, h3, h4⟩
/-- Its address: one block, if it has an element that takes a cell. -/
theorem Rd.addr {e : TypeId} {t : Ty} {w : World} {xs : List t.D} {A : Option Addr} {n c : Nat} (h : Rd (.sl e t) w xs [.slice A n c]) (hn : 0 < xs.length) (hs : 0 < t.sz) : ∃ b off, A = some ⟨b, off, none⟩ ∧
    ∀ i (h : i < xs.length), ∃ ecs, ecs.length = t.sz ∧ Rd t w xs[i] ecs ∧ ∀ j u, ecs[j]? = some u → w.cell? ⟨b, off + (i * t.sz + j), none⟩ = some u := by
  obtain ⟨_, _, _, h4⟩ := h.slice
  obtain ⟨ad, ecs, rfl, h5, h6, h7⟩ := h4 0 hn
  obtain ⟨b, off, spot⟩ := ad
  have h8 := h7 0 ecs[0] (by simp [h5, hs])
  have hsp : spot = none := by
    have := World.cell?_spot h8
    simpa [Addr.add] using this
  subst hsp
  refine ⟨b, off, rfl, fun i hi => ?_⟩
  obtain ⟨ad', ecs', h9, h10, h11, h12⟩ := h4 i hi
  injection h9 with h9
  subst h9
  refine ⟨ecs', h10, h11, fun j u hj => ?_⟩
  have h13 := h12 j u hj
  have e : (⟨b, off, none⟩ : Addr).add (i * t.sz + j) = ⟨b, off + (i * t.sz + j), none⟩ := by unfold Addr.add; split <;> simp_all
  rw [e] at h13
  exact h13
end Go.Proofs.Ytifpigcgkpmheaa.Ty
/- Rows of bytes and texts. No program in sight. -/
namespace Go.Proofs.Ytifpigcgkpmheaa.Str
open Go.RowKit Go.Proofs.Ytifpigcgkpmheaa.Base Go.Proofs.Ytifpigcgkpmheaa.App
set_option linter.unusedVariables false

def u8s (xs : List Nat) : List Value := xs.map fun (x : Nat) => .int .u8 (x : Int)
theorem u8s_len (xs : List Nat) : (u8s xs).length = xs.length := by simp [u8s]
theorem u8s_set (xs : List Nat) (i x : Nat) : (u8s xs).set i (.int .u8 (x : Int)) = u8s (xs.set i x) := by simp [u8s, List.map_set]
theorem u8s_get (xs : List Nat) (i : Nat) (h : i < xs.length) : (u8s xs)[i]? = some (.int .u8 ((xs.getD i 0 : Nat) : Int)) := by
  simp [u8s, List.getD_eq_getElem?_getD, h]
theorem u8s_one (xs : List Nat) : ∀ u ∈ u8s xs, u.oneCell' = true := by
  intro u hu
  simp only [u8s, List.mem_map] at hu
  obtain ⟨x, _, rfl⟩ := hu
  rfl
theorem str_eq (a b : ByteArray) : (a.toList == b.toList) = decide (a = b) := by
  by_cases h : a = b
  · subst h; simp
  · have hn : a.toList ≠ b.toList := by
      rw [ByteArray.toList_eq, ByteArray.toList_eq]
      intro e
      apply h
      cases a; cases b
      congr
      exact Array.toList_inj.1 e
    rw [beq_eq_false_iff_ne.2 hn, decide_eq_false h]
theorem str_yes {a b : ByteArray} (h : a = b) : (a.toList == b.toList) = true := by rw [str_eq]; exact decide_eq_true h
theorem str_no {a b : ByteArray} (h : a ≠ b) : (a.toList == b.toList) = false := by rw [str_eq]; exact decide_eq_false h
/-- The text of bytes. -/
def txt (xs : List Nat) : ByteArray := strOfNums (xs.map (fun (x : Nat) => (x : Int)))
theorem own_text {P : Program} {w : World} {base n : Nat} {e' src dst e : TypeId} {v : Value} {xs : List Nat} (hs : P.underlying src = some (.slice e)) (he : P.underlying e = some (.int .u8)) (hd : P.underlying dst = some .string)
    (h : w.ownsRow base e' 1 v n (u8s xs)) : (convert src dst v).run P w = .ok (.string (txt xs)) w := by
  have hl : xs.length = n := by have := own_len h; rwa [u8s_len] at this
  rcases h.2 with ⟨rfl, rfl⟩ | ⟨g, cap, cur, rfl, _⟩
  · obtain rfl : xs = [] := List.eq_nil_of_length_eq_zero hl
    exact run_convert_bytes_nil w src e hs he 0 0 dst hd
  · refine run_convert_bytes_arg w src e hs he g 0 n cap (xs.map (fun (x : Nat) => (x : Int))) (by simp [hl]) (fun i hi => ?_) dst hd
    rw [Nat.zero_add, h.cellAt i (by omega), u8s_get xs i (by omega)]
    simp [List.getD_eq_getElem?_getD, List.getElem?_map, show i < xs.length by omega]
theorem run_made {P : Program} (t e : TypeId) (z : Value) (bytes : Nat) (ht : P.underlying t = some (.slice e)) (hinfo : (P.info? e).map (fun i => (i.zero, i.size, i.bytes)) = some (some z, 1, bytes)) (hz : z.cells = #[z]) (hb : 0 < bytes)
    (n : Int) (h0 : 0 ≤ n) (h1 : n * bytes ≤ 281474976710656) (W : World) :
    (Instr.makeSlice t (.int .i64 n) (.int .i64 n)).run P W = .ok (.slice (some ⟨W.heap.size, 0, none⟩) n.toNat n.toNat) (W.alloc (.cells (madeCells #[z] n.toNat) e)) := by
  obtain ⟨m, rfl⟩ := Int.eq_ofNat_of_zero_le h0
  rw [Int.toNat_natCast]
  have h2' : ((m * bytes : Nat) : Int) ≤ 281474976710656 := by rw [Int.natCast_mul]; exact h1
  have h2 : m * bytes ≤ 281474976710656 := by omega
  have hm : m ≤ 281474976710656 := Nat.le_trans (Nat.le_mul_of_pos_right _ hb) h2
  exact run_make_row' t e z bytes ht hinfo hz .i64 .i64 m (by rw [Nat.mul_comm]; exact h2) (by omega) W
theorem own_mk (W : World) (base : Nat) (e : TypeId) (z : Value) (hz : z.cells = #[z]) (n : Nat) (hb : base ≤ W.heap.size) (hn : n ≤ 281474976710656) :
    (W.alloc (.cells (madeCells #[z] n) e)).ownsRow base e 1 (.slice (some ⟨W.heap.size, 0, none⟩) n n) n (List.replicate n z) := by
  have h := World.ownsRow_lit (base := base) (e := e) (size := 1) W (madeCells #[z] n) n hb (by simp only [maxLen]; omega) (by simp [size_madeCells])
  have hl : (madeCells #[z] n).toList = List.replicate n z := by
    apply List.ext_getElem
    · simp [madeCells]
    · intro i h1 h2
      simp [madeCells, Nat.mod_one]
  rwa [hl] at h
theorem own_u8 (W : World) (base : Nat) (e : TypeId) (n : Nat) (hb : base ≤ W.heap.size) (hn : n ≤ 281474976710656) :
    (W.alloc (.cells (madeCells #[.int .u8 0] n) e)).ownsRow base e 1 (.slice (some ⟨W.heap.size, 0, none⟩) n n) n (u8s (List.replicate n 0)) := by
  have h := own_mk W base e (.int .u8 0) rfl n hb hn
  have hl : List.replicate n (Value.int .u8 0) = u8s (List.replicate n 0) := by simp [u8s]
  rw [hl] at h
  exact h
end Go.Proofs.Ytifpigcgkpmheaa.Str
/- Points: slices of numbers that are read. No program in sight. -/
namespace Go.Proofs.Ytifpigcgkpmheaa.Ky
open Go.RowKit Go.Proofs.Ytifpigcgkpmheaa.Base Go.Proofs.Ytifpigcgkpmheaa.App Go.Proofs.Ytifpigcgkpmheaa.Ty
set_option linter.unusedVariables false

def u32s (xs : List Nat) : List Value := xs.map fun (x : Nat) => .int .u32 (x : Int)
theorem u32s_len (xs : List Nat) : (u32s xs).length = xs.length := by simp [u32s]
theorem u32s_get (xs : List Nat) (i : Nat) (h : i < xs.length) : (u32s xs)[i]? = some (.int .u32 ((xs.getD i 0 : Nat) : Int)) := by
  simp [u32s, List.getD_eq_getElem?_getD, h]
theorem u32s_set (xs : List Nat) (i x : Nat) : (u32s xs).set i (.int .u32 (x : Int)) = u32s (xs.set i x) := by simp [u32s, List.map_set]
theorem u32s_one (xs : List Nat) : ∀ u ∈ u32s xs, u.oneCell' = true := by
  intro u hu
  simp only [u32s, List.mem_map] at hu
  obtain ⟨x, _, rfl⟩ := hu
  rfl
theorem u32s_app (xs ys : List Nat) : u32s xs ++ u32s ys = u32s (xs ++ ys) := by simp [u32s]
/-- A point that is read: its slice's address, length and capacity. -/
structure Kv (w : World) (A : Option Addr) (n c : Nat) (ks : List Nat) : Prop where
  len : n = ks.length
  cap : n ≤ c
  most : c ≤ maxLen
  lt : ∀ x ∈ ks, x < 4294967296
  at_ : 0 < ks.length → ∃ b off, A = some ⟨b, off, none⟩ ∧ ∀ i, i < ks.length → w.cell? ⟨b, off + i, none⟩ = some (.int .u32 ((ks.getD i 0 : Nat) : Int))
section
variable {S : Nat → Prop} {w w1 : World} {A : Option Addr} {n c : Nat} {ks : List Nat}
theorem Kv.fr (h : Kv w A n c ks) (f : Fr S w w1) (hn : ∀ b off, A = some ⟨b, off, none⟩ → ¬ S b) : Kv w1 A n c ks := by
  refine ⟨h.len, h.cap, h.most, h.lt, fun h0 => ?_⟩
  obtain ⟨b, off, h1, h2⟩ := h.at_ h0
  refine ⟨b, off, h1, fun i hi => ?_⟩
  have hb := World.block_lt_of_cell? w _ (h2 i hi)
  rw [World.cell?_of_block (w := w) (f.block _ hb (hn b off h1))]
  exact h2 i hi
theorem Kv.no (h : Kv w A n c ks) (f : Fr No w w1) : Kv w1 A n c ks := h.fr f (fun _ _ _ x => x)
theorem Kv.get (h : Kv w A n c ks) (i : Nat) (hi : i < ks.length) : ∃ b off, A = some ⟨b, off, none⟩ ∧ w.cell? ⟨b, off + i, none⟩ = some (.int .u32 ((ks.getD i 0 : Nat) : Int)) := by
  obtain ⟨b, off, h1, h2⟩ := h.at_ (by omega)
  exact ⟨b, off, h1, h2 i hi⟩
theorem Kv.ltD (h : Kv w A n c ks) (i : Nat) : ks.getD i 0 < 4294967296 := by
  by_cases hi : i < ks.length
  · rw [List.getD_eq_getElem?_getD, List.getElem?_eq_getElem hi]
    exact h.lt _ (List.getElem_mem hi)
  · rw [List.getD_eq_getElem?_getD, List.getElem?_eq_none (by omega)]
    decide
theorem Kv.none_ (w : World) : Kv w none 0 0 [] := ⟨rfl, Nat.le_refl _, Nat.zero_le _, fun x h => by simp at h, fun h => by simp at h⟩
theorem Kv.rc (h : Kv w A n c ks) : Rc w A (u32s ks) := by
  intro j u hj
  have hj' : j < ks.length := by have := (List.getElem?_eq_some_iff.1 hj).1; rwa [u32s_len] at this
  obtain ⟨b, off, h1, h2⟩ := h.get j hj'
  refine ⟨_, h1, ?_⟩
  rw [u32s_get ks j hj'] at hj
  injection hj with hj
  subst hj
  have e : (⟨b, off, none⟩ : Addr).add j = ⟨b, off + j, none⟩ := by unfold Addr.add; split <;> simp_all
  rw [e]
  exact h2
/-- An argument's point. -/
theorem Kv.of_rd {e : TypeId} {xs : List Int} (h : Rd (.sl e (.int .u32)) w xs [.slice A n c]) : Kv w A n c (xs.map Int.toNat) := by
  obtain ⟨h1, h2, h3, h4⟩ := h.slice
  have hx : ∀ i (hi : i < xs.length), 0 ≤ xs[i] ∧ xs[i] < 4294967296 := fun i hi => by
    obtain ⟨ad, ecs, _, _, h5, _⟩ := h4 i hi
    have h6 : (decide (IntKind.u32.min ≤ xs[i]) && decide (xs[i] ≤ IntKind.u32.max)) = true := h5.2
    rw [show IntKind.u32.min = 0 from by decide, show IntKind.u32.max = 4294967295 from by decide, Bool.and_eq_true, decide_eq_true_eq, decide_eq_true_eq] at h6
    omega
  refine ⟨by rw [List.length_map]; exact h1, h2, h3, fun x hx' => ?_, fun h0 => ?_⟩
  · obtain ⟨y, hy, rfl⟩ := List.mem_map.1 hx'
    obtain ⟨i, hi, rfl⟩ := List.mem_iff_getElem.1 hy
    have := hx i hi
    omega
  · rw [List.length_map] at h0
    obtain ⟨b, off, h5, h6⟩ := h.addr h0 (by decide)
    refine ⟨b, off, h5, fun i hi => ?_⟩
    rw [List.length_map] at hi
    obtain ⟨ecs, h7, h8, h9⟩ := h6 i hi
    have h10 : ecs = [.int .u32 xs[i]] := h8.1
    have h11 := h9 0 (.int .u32 xs[i]) (by rw [h10]; rfl)
    have := hx i hi
    have e : ((xs.map Int.toNat).getD i 0 : Nat) = xs[i].toNat := by simp [List.getD_eq_getElem?_getD, hi]
    rw [e, Int.toNat_of_nonneg this.1]
    simpa [Ty.sz] using h11
/-- A row of one's own is read. -/
theorem Kv.of_own {base n : Nat} {e : TypeId} (h : w.ownsRow base e 1 (.slice A n c) n (u32s ks)) (hl : ∀ x ∈ ks, x < 4294967296) : Kv w A n c ks := by
  have hn : n = ks.length := by have := own_len h; rw [u32s_len] at this; exact this.symm
  have hc : n ≤ c ∧ c ≤ maxLen := by
    rcases h.2 with ⟨h1, h2⟩ | ⟨g, cap, cur, h1, _, _, h2, h3, _⟩
    · injection h1 with _ h4 h5
      subst h2; subst h5
      exact ⟨Nat.le_refl _, Nat.zero_le _⟩
    · injection h1 with _ h4 h5
      subst h5
      exact ⟨h2, h3⟩
  refine ⟨hn, hc.1, hc.2, hl, fun h0 => ?_⟩
  rcases h.2 with ⟨h1, h2⟩ | ⟨g, cap, cur, h1, _⟩
  · omega
  · injection h1 with h1
    refine ⟨g, 0, h1, fun i hi => ?_⟩
    subst h1
    rw [Nat.zero_add, h.cellAt i (by omega), u32s_get ks i hi]
end
end Go.Proofs.Ytifpigcgkpmheaa.Ky
/- Slices of whole numbers that are read. No program in sight. -/
namespace Go.Proofs.Ytifpigcgkpmheaa.Iv
open Go.RowKit Go.Proofs.Ytifpigcgkpmheaa.Base Go.Proofs.Ytifpigcgkpmheaa.App Go.Proofs.Ytifpigcgkpmheaa.Ty
set_option linter.unusedVariables false
/-- A slice of whole numbers that is read. -/
structure Iv (w : World) (A : Option Addr) (n c : Nat) (xs : List Int) : Prop where
  len : n = xs.length
  cap : n ≤ c
  most : c ≤ maxLen
  wf : ∀ i, i < xs.length → -9223372036854775808 ≤ xs.getD i 0 ∧ xs.getD i 0 ≤ 9223372036854775807
  at_ : 0 < xs.length → ∃ b off, A = some ⟨b, off, none⟩ ∧ ∀ i, i < xs.length → w.cell? ⟨b, off + i, none⟩ = some (.int .i64 (xs.getD i 0))
section
variable {S : Nat → Prop} {w w1 : World} {A : Option Addr} {n c : Nat} {xs : List Int}
theorem Iv.fr (h : Iv w A n c xs) (f : Fr S w w1) (hn : ∀ b off, A = some ⟨b, off, none⟩ → ¬ S b) : Iv w1 A n c xs := by
  refine ⟨h.len, h.cap, h.most, h.wf, fun h0 => ?_⟩
  obtain ⟨b, off, h1, h2⟩ := h.at_ h0
  refine ⟨b, off, h1, fun i hi => ?_⟩
  have hb := World.block_lt_of_cell? w _ (h2 i hi)
  rw [World.cell?_of_block (w := w) (f.block _ hb (hn b off h1))]
  exact h2 i hi
theorem Iv.no (h : Iv w A n c xs) (f : Fr No w w1) : Iv w1 A n c xs := h.fr f (fun _ _ _ x => x)
theorem Iv.get (h : Iv w A n c xs) (i : Nat) (hi : i < xs.length) : ∃ b off, A = some ⟨b, off, none⟩ ∧ w.cell? ⟨b, off + i, none⟩ = some (.int .i64 (xs.getD i 0)) := by
  obtain ⟨b, off, h1, h2⟩ := h.at_ (by omega)
  exact ⟨b, off, h1, h2 i hi⟩
/-- An argument's slice. -/
theorem Iv.of_rd {e : TypeId} {xs : List Int} (h : Rd (.sl e (.int .i64)) w xs [.slice A n c]) : Iv w A n c xs := by
  obtain ⟨h1, h2, h3, h4⟩ := h.slice
  refine ⟨h1, h2, h3, fun i hi => ?_, fun h0 => ?_⟩
  · obtain ⟨ad, ecs, _, _, h5, _⟩ := h4 i hi
    have h6 : (decide (IntKind.i64.min ≤ xs[i]) && decide (xs[i] ≤ IntKind.i64.max)) = true := h5.2
    rw [show IntKind.i64.min = -9223372036854775808 from by decide, show IntKind.i64.max = 9223372036854775807 from by decide, Bool.and_eq_true, decide_eq_true_eq, decide_eq_true_eq] at h6
    have e : xs.getD i 0 = xs[i] := by simp [List.getD_eq_getElem?_getD, hi]
    rw [e]
    exact h6
  · obtain ⟨b, off, h5, h6⟩ := h.addr h0 (by decide)
    refine ⟨b, off, h5, fun i hi => ?_⟩
    obtain ⟨ecs, h7, h8, h9⟩ := h6 i hi
    have h10 : ecs = [.int .i64 xs[i]] := h8.1
    have h11 := h9 0 (.int .i64 xs[i]) (by rw [h10]; rfl)
    have e : xs.getD i 0 = xs[i] := by simp [List.getD_eq_getElem?_getD, hi]
    rw [e]
    simpa [Ty.sz] using h11
end
end Go.Proofs.Ytifpigcgkpmheaa.Iv
/- Points, further: a point that was just written out. No program in sight. -/
namespace Go.Proofs.Ytifpigcgkpmheaa.Base
open Go.RowKit
set_option linter.unusedVariables false
theorem Ob.new_ (w : World) (cs : Array Value) (t : TypeId) (g : Nat) (hg : w.heap.size = g) : Ob (w.alloc (.cells cs t)) g cs t := by
  subst hg; exact Ob.new w cs t
theorem Ob.no {w w1 : World} {g : Nat} {cs : Array Value} {t : TypeId} (h : Ob w g cs t) (f : Fr No w w1) : Ob w1 g cs t := h.fr f (fun x => x)
theorem Ob.past {w : World} {g : Nat} {cs : Array Value} {t : TypeId} (h : Ob w g cs t) : g < w.heap.size ∧ g < w.heap.size + 1 ∧ g < w.heap.size + 1 + 1 ∧ g < w.heap.size + 1 + 1 + 1 ∧ g < w.heap.size + 1 + 1 + 1 + 1 ∧ g < w.heap.size + 1 + 1 + 1 + 1 + 1 := by
  have := h.lt; omega
/-- A box's two cells. -/
theorem Ob.two {w : World} {g : Nat} {a b : Value} {t : TypeId} (h : Ob w g #[a, b] t) : w.cell? ⟨g, 0, none⟩ = some a ∧ w.cell? ⟨g, 1, none⟩ = some b ∧ (g < w.heap.size ∧ g < w.heap.size + 1 ∧ g < w.heap.size + 1 + 1 ∧ g < w.heap.size + 1 + 1 + 1 ∧ g < w.heap.size + 1 + 1 + 1 + 1 ∧ g < w.heap.size + 1 + 1 + 1 + 1 + 1) := ⟨h.cell 0 rfl, h.cell 1 rfl, h.past⟩
end Go.Proofs.Ytifpigcgkpmheaa.Base
namespace Go.Proofs.Ytifpigcgkpmheaa.Ky
open Go.RowKit Go.Proofs.Ytifpigcgkpmheaa.Base Go.Proofs.Ytifpigcgkpmheaa.App Go.Proofs.Ytifpigcgkpmheaa.Ty
set_option linter.unusedVariables false
section
variable {w w1 : World} {A : Option Addr} {n c : Nat} {ks : List Nat}
theorem Kv.of_ob {g : Nat} {t : TypeId} (h : Ob w g (u32s ks).toArray t) (hl : ∀ x ∈ ks, x < 4294967296) (hm : ks.length ≤ maxLen) : Kv w (some ⟨g, 0, none⟩) ks.length ks.length ks := by
  refine ⟨rfl, Nat.le_refl _, hm, hl, fun _ => ⟨g, 0, rfl, fun i hi => ?_⟩⟩
  rw [Nat.zero_add]
  exact h.cell i (by simpa using u32s_get ks i hi)
theorem Kv.alloc (h : Kv w A n c ks) (o : Obj) : Kv (w.alloc o) A n c ks := h.no ((Fr.refl No w).alloc o)
theorem Kv.drew (h : Kv w A n c ks) : Kv w.drew A n c ks := h.no (Fr.refl No w).drew
theorem Kv.drewN (h : Kv w A n c ks) (k : Nat) : Kv (w.drewN k) A n c ks := h.no ((Fr.refl No w).drewN k)
/-- A point that was just written out. -/
theorem Kv.lit_new (w : World) (cs : Array Value) (t : TypeId) (ks : List Nat) (g n : Nat) (hg : w.heap.size = g) (hc : cs = (u32s ks).toArray) (hn : n = ks.length) (hl : (ks.all (fun x => decide (x < 4294967296)) && decide (ks.length ≤ 1000)) = true) : Kv (w.alloc (.cells cs t)) (some ⟨g, 0, none⟩) n n ks := by
  subst hg; subst hn; subst hc
  rw [Bool.and_eq_true, List.all_eq_true, decide_eq_true_eq] at hl
  have hm : (1000 : Nat) ≤ maxLen := by decide
  exact Kv.of_ob (Ob.new w _ t) (fun x hx => by simpa using hl.1 x hx) (by omega)
end
/-- An argument that is a box. -/
theorem rd_box {E E2 : TypeId} {w : World} {x : (Ty.cn (.sl E (.int .u32)) (.cn (.sl E2 (.int .u32)) .nl)).D} {cs : Array Value} (h : Rd (.cn (.sl E (.int .u32)) (.cn (.sl E2 (.int .u32)) .nl)) w x cs.toList) :
    ∃ A n c B m d lo hi, cs = #[.slice A n c, .slice B m d] ∧ Kv w A n c lo ∧ Kv w B m d hi := by
  obtain ⟨c1, c2, hc, h1, c3, c4, rfl, h2, h3⟩ := h
  have h3' : c4 = [] := h3
  subst h3'
  have h1' := h1
  have h2' := h2
  obtain ⟨A, c, rfl, _⟩ := h1'
  obtain ⟨B, d, rfl, _⟩ := h2'
  refine ⟨A, _, c, B, _, d, _, _, ?_, Kv.of_rd h1, Kv.of_rd h2⟩
  rw [← Array.toArray_toList (xs := cs), hc]
  rfl
theorem Kv.len_le {w : World} {A : Option Addr} {n c : Nat} {ks : List Nat} (h : Kv w A n c ks) : n ≤ 9223372036854775807 := by
  have h1 := h.cap
  have h2 := h.most
  have h3 : maxLen ≤ 9223372036854775807 := by decide
  omega
end Go.Proofs.Ytifpigcgkpmheaa.Ky
namespace Go.Proofs.Ytifpigcgkpmheaa.Iv
open Go.RowKit Go.Proofs.Ytifpigcgkpmheaa.Base Go.Proofs.Ytifpigcgkpmheaa.App Go.Proofs.Ytifpigcgkpmheaa.Ty
def i64s (xs : List Int) : List Value := xs.map fun (x : Int) => .int .i64 x
theorem i64s_len (xs : List Int) : (i64s xs).length = xs.length := by simp [i64s]
theorem i64s_get (xs : List Int) (i : Nat) (h : i < xs.length) : (i64s xs)[i]? = some (.int .i64 (xs.getD i 0)) := by
  simp [i64s, List.getD_eq_getElem?_getD, h]
theorem i64s_one (xs : List Int) : ∀ u ∈ i64s xs, u.oneCell' = true := by
  intro u hu
  simp only [i64s, List.mem_map] at hu
  obtain ⟨x, _, rfl⟩ := hu
  rfl
section
variable {w w1 : World} {A : Option Addr} {n c : Nat} {xs : List Int}
theorem Iv.alloc (h : Iv w A n c xs) (o : Obj) : Iv (w.alloc o) A n c xs := h.no ((Fr.refl No w).alloc o)
theorem Iv.drew (h : Iv w A n c xs) : Iv w.drew A n c xs := h.no (Fr.refl No w).drew
theorem Iv.drewN (h : Iv w A n c xs) (k : Nat) : Iv (w.drewN k) A n c xs := h.no ((Fr.refl No w).drewN k)
theorem Iv.none_ (w : World) : Iv w none 0 0 [] := ⟨rfl, Nat.le_refl _, Nat.zero_le _, fun i h => by simp at h, fun h => by simp at h⟩
theorem Iv.rc (h : Iv w A n c xs) : Rc w A (i64s xs) := by
  intro j u hj
  have hj' : j < xs.length := by have := (List.getElem?_eq_some_iff.1 hj).1; rwa [i64s_len] at this
  obtain ⟨b, off, h1, h2⟩ := h.get j hj'
  refine ⟨_, h1, ?_⟩
  rw [i64s_get xs j hj'] at hj
  injection hj with hj
  subst hj
  have e : (⟨b, off, none⟩ : Addr).add j = ⟨b, off + j, none⟩ := by unfold Addr.add; split <;> simp_all
  rw [e]
  exact h2
/-- Numbers that were just written out. -/
theorem Iv.lit_new (w : World) (cs : Array Value) (t : TypeId) (xs : List Int) (g n : Nat) (hg : w.heap.size = g) (hc : cs = (i64s xs).toArray) (hn : n = xs.length) (hl : (xs.all (fun x => decide (-9223372036854775808 ≤ x) && decide (x ≤ 9223372036854775807)) && decide (xs.length ≤ 1000)) = true) : Iv (w.alloc (.cells cs t)) (some ⟨g, 0, none⟩) n n xs := by
  subst hg; subst hn; subst hc
  rw [Bool.and_eq_true, List.all_eq_true, decide_eq_true_eq] at hl
  have hm : (1000 : Nat) ≤ maxLen := by decide
  refine ⟨rfl, Nat.le_refl _, by omega, fun i hi => ?_, fun _ => ⟨w.heap.size, 0, rfl, fun i hi => ?_⟩⟩
  · have := hl.1 (xs.getD i 0) (by rw [List.getD_eq_getElem?_getD, List.getElem?_eq_getElem hi]; exact List.getElem_mem hi)
    simpa using this
  · rw [Nat.zero_add]
    exact (Ob.new w (i64s xs).toArray t).cell i (by simpa using i64s_get xs i hi)
/-- A row of one's own is read. -/
theorem Iv.of_own {base n : Nat} {e : TypeId} (h : w.ownsRow base e 1 (.slice A n c) n (i64s xs)) (hl : ∀ i, i < xs.length → -9223372036854775808 ≤ xs.getD i 0 ∧ xs.getD i 0 ≤ 9223372036854775807) : Iv w A n c xs := by
  have hn : n = xs.length := by have := own_len h; rw [i64s_len] at this; exact this.symm
  have hc : n ≤ c ∧ c ≤ maxLen := by
    rcases h.2 with ⟨h1, h2⟩ | ⟨g, cap, cur, h1, _, _, h2, h3, _⟩
    · injection h1 with _ h4 h5
      subst h2; subst h5
      exact ⟨Nat.le_refl _, Nat.zero_le _⟩
    · injection h1 with _ h4 h5
      subst h5
      exact ⟨h2, h3⟩
  refine ⟨hn, hc.1, hc.2, hl, fun h0 => ?_⟩
  rcases h.2 with ⟨h1, h2⟩ | ⟨g, cap, cur, h1, _⟩
  · omega
  · injection h1 with h1
    refine ⟨g, 0, h1, fun i hi => ?_⟩
    subst h1
    rw [Nat.zero_add, h.cellAt i (by omega), i64s_get xs i hi]
end
end Go.Proofs.Ytifpigcgkpmheaa.Iv
/- A box that is built coordinate by coordinate, by appends to its two points. No program in sight. -/
namespace Go.Proofs.Ytifpigcgkpmheaa.Bx
open Go.RowKit Go.Proofs.Ytifpigcgkpmheaa.Base Go.Proofs.Ytifpigcgkpmheaa.App Go.Proofs.Ytifpigcgkpmheaa.Ky
set_option linter.unusedVariables false
theorem grown_fr {W w1 : World} {row : Option Nat} (hg : W.grownBy w1 row) : Fr (fun k => row = some k) W w1 :=
  ⟨hg.os, hg.tape, hg.output, hg.size, fun k hk hn => hg.block k hk (fun e => hn e.symm)⟩
/-- The result's place r, the box at o, its two rows of the call's own. -/
structure Two (T e : TypeId) (w wr : World) (r o base : Nat) (A : Option Addr) (i ca : Nat) (lo : List Nat) (B : Option Addr) (j cb : Nat) (hi : List Nat) : Prop where
  res : Ob wr r #[.slice none 0 0, .slice none 0 0] T
  out : Ob wr o #[.slice A i ca, .slice B j cb] T
  lo : wr.ownsRow base e 1 (.slice A i ca) i (u32s lo)
  hi : wr.ownsRow base e 1 (.slice B j cb) j (u32s hi)
  ne : ∀ g, (Value.slice A i ca).ownBlock = some g → ¬ (Value.slice B j cb).ownBlock = some g
  fr : Fr No w wr
  at_ : w.heap.size ≤ r ∧ r < o ∧ o < base ∧ base ≤ wr.heap.size
section
variable {T e : TypeId} {w wr w1 : World} {r o base : Nat} {A B A1 : Option Addr} {i ca j cb c1 : Nat} {lo hi : List Nat}
theorem Two.drew (h : Two T e w wr r o base A i ca lo B j cb hi) : Two T e w wr.drew r o base A i ca lo B j cb hi :=
  ⟨h.res, h.out, h.lo.drew, h.hi.drew, h.ne, h.fr.drew, h.at_⟩
theorem Two.no (h : Two T e w wr r o base A i ca lo B j cb hi) (f : Fr No wr w1) : Two T e w w1 r o base A i ca lo B j cb hi :=
  ⟨h.res.no f, h.out.no f, own_fr h.lo f (fun _ _ x => x), own_fr h.hi f (fun _ _ x => x), h.ne, h.fr.tr f, by obtain ⟨a, b, c, d⟩ := h.at_; have := f.size; exact ⟨a, b, c, by omega⟩⟩
theorem Two.app0 (h : Two T e w wr r o base A i ca lo B j cb hi) (O : Obj) (x : Nat) (hown : w1.ownsRow base e 1 (.slice A1 (i + 1) c1) (i + 1) (u32s lo ++ [.int .u32 (x : Int)])) (hgr : (wr.alloc O).grownBy w1 (Value.slice A i ca).ownBlock)
    (hat : (Value.slice A1 (i + 1) c1).ownBlock = (Value.slice A i ca).ownBlock ∨ (Value.slice A1 (i + 1) c1).ownBlock = some (wr.alloc O).heap.size) :
    Ob w1 o #[.slice A i ca, .slice B j cb] T ∧ Two T e w (w1.setCell ⟨o, 0, none⟩ (.slice A1 (i + 1) c1)) r o base A1 (i + 1) c1 (lo ++ [x]) B j cb hi := by
  obtain ⟨a1, a2, a3, a4⟩ := h.at_
  have F := grown_fr hgr
  have hsz : (wr.alloc O).heap.size = wr.heap.size + 1 := by simp
  have out1 : Ob w1 o #[.slice A i ca, .slice B j cb] T := (h.out.alloc O).fr F (fun hk => by have := (h.lo.lt o hk).1; omega)
  have res1 : Ob w1 r #[.slice none 0 0, .slice none 0 0] T := (h.res.alloc O).fr F (fun hk => by have := (h.lo.lt r hk).1; omega)
  have hi1 := own_fr (h.hi.alloc O) F (fun k hk hs => h.ne k hs hk)
  refine ⟨out1, ?_, ?_, ?_, ?_, ?_, ?_, ?_⟩
  · exact res1.other (p := ⟨o, 0, none⟩) (show r ≠ o by omega) _
  · exact out1.set 0 (.slice A1 (i + 1) c1)
  · have e1 : u32s lo ++ [Value.int .u32 (x : Int)] = u32s (lo ++ [x]) := by simp [u32s]
    rw [← e1]
    exact own_fr hown (S := fun k => k = o) ((Fr.refl (fun k => k = o) w1).setCell (p := ⟨o, 0, none⟩) (.inl rfl) _) (fun k hk (hb : k = o) => by have := (hown.lt k hk).1; omega)
  · exact own_fr hi1 (S := fun k => k = o) ((Fr.refl (fun k => k = o) w1).setCell (p := ⟨o, 0, none⟩) (.inl rfl) _) (fun k hk (hb : k = o) => by have := (h.hi.lt k hk).1; omega)
  · intro g hg hB
    rcases hat with ht | ht
    · exact h.ne g (ht ▸ hg) hB
    · have h2 := (h.hi.lt g hB).2
      rw [ht] at hg
      injection hg with hg
      omega
  · exact ((h.fr.alloc O).grown hgr (fun k hk => .inr (by have := (h.lo.lt k hk).1; omega))).setCell (p := ⟨o, 0, none⟩) (.inr (show w.heap.size ≤ o by omega)) _
  · have := F.size
    have h2 : (w1.setCell ⟨o, 0, none⟩ (Value.slice A1 (i + 1) c1)).heap.size = w1.heap.size := by simp [World.setCell]
    rw [h2]
    exact ⟨a1, a2, a3, by omega⟩
theorem Two.app1 {B1 : Option Addr} (h : Two T e w wr r o base A i ca lo B j cb hi) (O : Obj) (x : Nat) (hown : w1.ownsRow base e 1 (.slice B1 (j + 1) c1) (j + 1) (u32s hi ++ [.int .u32 (x : Int)])) (hgr : (wr.alloc O).grownBy w1 (Value.slice B j cb).ownBlock)
    (hat : (Value.slice B1 (j + 1) c1).ownBlock = (Value.slice B j cb).ownBlock ∨ (Value.slice B1 (j + 1) c1).ownBlock = some (wr.alloc O).heap.size) :
    Ob w1 o #[.slice A i ca, .slice B j cb] T ∧ Two T e w (w1.setCell ⟨o, 1, none⟩ (.slice B1 (j + 1) c1)) r o base A i ca lo B1 (j + 1) c1 (hi ++ [x]) := by
  obtain ⟨a1, a2, a3, a4⟩ := h.at_
  have F := grown_fr hgr
  have hsz : (wr.alloc O).heap.size = wr.heap.size + 1 := by simp
  have out1 : Ob w1 o #[.slice A i ca, .slice B j cb] T := (h.out.alloc O).fr F (fun hk => by have := (h.hi.lt o hk).1; omega)
  have res1 : Ob w1 r #[.slice none 0 0, .slice none 0 0] T := (h.res.alloc O).fr F (fun hk => by have := (h.hi.lt r hk).1; omega)
  have lo1 := own_fr (h.lo.alloc O) F (fun k hk hs => h.ne k hk hs)
  refine ⟨out1, ?_, ?_, ?_, ?_, ?_, ?_, ?_⟩
  · exact res1.other (p := ⟨o, 1, none⟩) (show r ≠ o by omega) _
  · exact out1.set 1 (.slice B1 (j + 1) c1)
  · exact own_fr lo1 (S := fun k => k = o) ((Fr.refl (fun k => k = o) w1).setCell (p := ⟨o, 1, none⟩) (.inl rfl) _) (fun k hk (hb : k = o) => by have := (h.lo.lt k hk).1; omega)
  · have e1 : u32s hi ++ [Value.int .u32 (x : Int)] = u32s (hi ++ [x]) := by simp [u32s]
    rw [← e1]
    exact own_fr hown (S := fun k => k = o) ((Fr.refl (fun k => k = o) w1).setCell (p := ⟨o, 1, none⟩) (.inl rfl) _) (fun k hk (hb : k = o) => by have := (hown.lt k hk).1; omega)
  · intro g hA hg
    rcases hat with ht | ht
    · exact h.ne g hA (ht ▸ hg)
    · have h2 := (h.lo.lt g hA).2
      rw [ht] at hg
      injection hg with hg
      omega
  · exact ((h.fr.alloc O).grown hgr (fun k hk => .inr (by have := (h.hi.lt k hk).1; omega))).setCell (p := ⟨o, 1, none⟩) (.inr (show w.heap.size ≤ o by omega)) _
  · have := F.size
    have h2 : (w1.setCell ⟨o, 1, none⟩ (Value.slice B1 (j + 1) c1)).heap.size = w1.heap.size := by simp [World.setCell]
    rw [h2]
    exact ⟨a1, a2, a3, by omega⟩
theorem Rc.new_ (w : World) (cs : Array Value) (t : TypeId) (g : Nat) (hg : w.heap.size = g) : Rc (w.alloc (.cells cs t)) (some ⟨g, 0, none⟩) cs.toList := by
  subst hg; exact Rc.new w cs t
theorem Two.app0d (h : Two T e w wr r o base A i ca lo B j cb hi) (O : Obj) (x : Nat) (hown : w1.ownsRow base e 1 (.slice A1 (i + 1) c1) (i + 1) (u32s lo ++ [.int .u32 (x : Int)])) (hgr : ((wr.alloc O).drew).grownBy w1 (Value.slice A i ca).ownBlock)
    (hat : (Value.slice A1 (i + 1) c1).ownBlock = (Value.slice A i ca).ownBlock ∨ (Value.slice A1 (i + 1) c1).ownBlock = some ((wr.alloc O).drew).heap.size) :
    Ob w1 o #[.slice A i ca, .slice B j cb] T ∧ Two T e w (w1.setCell ⟨o, 0, none⟩ (.slice A1 (i + 1) c1)) r o base A1 (i + 1) c1 (lo ++ [x]) B j cb hi := h.drew.app0 O x hown hgr hat
theorem Two.app1d {B1 : Option Addr} (h : Two T e w wr r o base A i ca lo B j cb hi) (O : Obj) (x : Nat) (hown : w1.ownsRow base e 1 (.slice B1 (j + 1) c1) (j + 1) (u32s hi ++ [.int .u32 (x : Int)])) (hgr : ((wr.alloc O).drew).grownBy w1 (Value.slice B j cb).ownBlock)
    (hat : (Value.slice B1 (j + 1) c1).ownBlock = (Value.slice B j cb).ownBlock ∨ (Value.slice B1 (j + 1) c1).ownBlock = some ((wr.alloc O).drew).heap.size) :
    Ob w1 o #[.slice A i ca, .slice B j cb] T ∧ Two T e w (w1.setCell ⟨o, 1, none⟩ (.slice B1 (j + 1) c1)) r o base A i ca lo B1 (j + 1) c1 (hi ++ [x]) := h.drew.app1 O x hown hgr hat
/-- What the walk asks of the box's two cells. -/
theorem Ob.four {w : World} {g : Nat} {a b : Value} {t : TypeId} (h : Ob w g #[a, b] t) : w.cell? ⟨g, 0, none⟩ = some a ∧ w.cell? ⟨g, 1, none⟩ = some b ∧ w.frozen? ⟨g, 0, none⟩ = false ∧ w.frozen? ⟨g, 1, none⟩ = false := ⟨h.cell 0 rfl, h.cell 1 rfl, h.frozen 0, h.frozen 1⟩
end
/-- A box of two rows of one's own is returned. -/
def OwnTwo (e : TypeId) (w : World) (lo hi : List Nat) (en : Ending) (w' : World) : Prop :=
  ∃ A n ca B m cb, en = .returned (.agg #[.slice A n ca, .slice B m cb]) ∧ w'.ownsRow w.heap.size e 1 (.slice A n ca) n (u32s lo) ∧ w'.ownsRow w.heap.size e 1 (.slice B m cb) m (u32s hi) ∧
    (∀ g, (Value.slice A n ca).ownBlock = some g → ¬ (Value.slice B m cb).ownBlock = some g) ∧ Fr No w w'
end Go.Proofs.Ytifpigcgkpmheaa.Bx
/- append, run out of an equation that is laid ahead of the walk. No program in sight. -/
namespace Go.Proofs.Ytifpigcgkpmheaa.As
open Go.RowKit Go.Proofs.Ytifpigcgkpmheaa.Base Go.Proofs.Ytifpigcgkpmheaa.App Go.Proofs.Ytifpigcgkpmheaa.Ky
set_option linter.unusedVariables false
/-- append, under a name that the walk does not open. -/
def appSem (ats : Array TypeId) (ty : TypeId) (args : Array Value) : Sem Value := Builtin.append_ ats ty args
theorem builtin_app {ats : Array TypeId} {ty : TypeId} {cs : Array Bool} {args : Array Value} : builtin .append ats ty cs args = (do pure (.value (← appSem ats ty args))) := rfl
/-- What an append to a row of the call's own comes to. -/
theorem app_eq {P : Program} {w : World} (base : Nat) (t e : TypeId) (z : Value) (size bytes : Nat) (ht : P.underlying t = .some (.slice e))
    (hinfo : (P.info? e).map (fun i => (i.zero, i.size, i.bytes)) = .some (.some z, size, bytes)) (hz : z.cells.size = size) (hsz : 0 < size) (hb0 : 0 < bytes)
    {A0 : Option Addr} {n c0 : Nat} {xs : List Value} (HO : w.ownsRow base e size (.slice A0 n c0) n xs) (A : Option Addr) (m c : Nat) (news : List Value) (hl : news.length = m * size) (hr : Rc w A news)
    (h1 : ∀ u ∈ news, u.oneCell' = true) (hb : (n + m) * bytes ≤ 140737488355328) (hbase : base ≤ w.heap.size) :
    ∃ A1 c1 w1, (appSem #[t, t] t #[.slice A0 n c0, .slice A m c]).run P w = .ok (.slice A1 (n + m) c1) w1 ∧ w1.ownsRow base e size (.slice A1 (n + m) c1) (n + m) (xs ++ news) ∧ w.grownBy w1 (Value.slice A0 n c0).ownBlock ∧ ((Value.slice A1 (n + m) c1).ownBlock = (Value.slice A0 n c0).ownBlock ∨ (Value.slice A1 (n + m) c1).ownBlock = .some w.heap.size) := by
  obtain ⟨v1, w1, hrun, h2, h3, h5⟩ := app_run (P := P) base t t e z size bytes ht hinfo hz hsz hb0 (.slice A0 n c0) n xs HO A m c news hl hr h1 hb hbase
  obtain ⟨A1, c1, rfl⟩ := own_slice h2
  exact ⟨A1, c1, w1, hrun, h2, h3, h5⟩
end Go.Proofs.Ytifpigcgkpmheaa.As
/- A point stays where a box is stored into an object of two slices. No program in sight. -/
namespace Go.Proofs.Ytifpigcgkpmheaa.Kk
open Go.RowKit Go.Proofs.Ytifpigcgkpmheaa.Base Go.Proofs.Ytifpigcgkpmheaa.App Go.Proofs.Ytifpigcgkpmheaa.Ky Go.Proofs.Ytifpigcgkpmheaa.Bx
set_option linter.unusedVariables false
section
variable {w : World} {A B C D F : Option Addr} {n c r a b d e f g : Nat} {ks : List Nat} {T : TypeId}
theorem kv_apart (h : Kv w A n c ks) (hO : Ob w r #[.slice B a b, .slice C d e] T) (h0 : 0 < ks.length) : ∀ k off, A = some ⟨k, off, none⟩ → k ≠ r := by
  intro k off hk e
  subst e
  obtain ⟨b', off', h1, h2⟩ := h.get 0 h0
  rw [hk] at h1
  injection h1 with h1
  injection h1 with e1 e2
  subst e1; subst e2
  have hO' : w.heap[k]? = some (.cells #[.slice B a b, .slice C d e] T (0, 0)) := hO
  simp only [World.cell?, hO', Nat.add_zero] at h2
  rcases off with _ | _ | off
  · simp at h2
  · simp at h2
  · simp at h2
theorem Kv.put1 (h : Kv w A n c ks) (hO : Ob w r #[.slice B a b, .slice C d e] T) (j : Nat) (v : Value) : Kv (w.setCell ⟨r, j, none⟩ v) A n c ks := by
  rcases Nat.eq_zero_or_pos ks.length with h0 | h0
  · exact ⟨h.len, h.cap, h.most, h.lt, fun hx => by omega⟩
  · exact h.fr (S := fun k => k = r) ((Fr.refl (fun k => k = r) w).setCell (p := ⟨r, j, none⟩) (.inl rfl) v) (fun k off hk (he : k = r) => kv_apart h hO h0 k off hk he)
theorem Kv.put2 (h : Kv w A n c ks) (hO : Ob w r #[.slice B a b, .slice C d e] T) (v : Value) : Kv ((w.setCell ⟨r, 0, none⟩ (.slice D f g)).setCell ⟨r, 1, none⟩ v) A n c ks :=
  Kv.put1 (Kv.put1 h hO 0 _) (hO.set 0 (.slice D f g)) 1 v
end
end Go.Proofs.Ytifpigcgkpmheaa.Kk
/- A box with two rows of the call's own, one block each; what a write does to it. No program in sight. -/
namespace Go.Proofs.Ytifpigcgkpmheaa.Bo
open Go.RowKit Go.Proofs.Ytifpigcgkpmheaa.Base Go.Proofs.Ytifpigcgkpmheaa.App Go.Proofs.Ytifpigcgkpmheaa.Ky Go.Proofs.Ytifpigcgkpmheaa.Bx
set_option linter.unusedVariables false
section
variable {w w1 : World} {base n : Nat} {e : TypeId} {size : Nat} {v : Value} {xs : List Value}
theorem own_no (h : w.ownsRow base e size v n xs) (f : Fr No w w1) : w1.ownsRow base e size v n xs := own_fr h f (fun _ _ x => x)
theorem own_drewN (h : w.ownsRow base e size v n xs) (m : Nat) : (w.drewN m).ownsRow base e size v n xs := own_no h ((Fr.refl No w).drewN m)
theorem own_some {A : Option Addr} {c : Nat} (h : w.ownsRow base e 1 (.slice A n c) n xs) (h0 : 0 < n) : ∃ g, A = some ⟨g, 0, none⟩ ∧ base ≤ g ∧ g < w.heap.size := by
  rcases h.2 with ⟨h1, h2⟩ | ⟨g, cap, cur, h1, hg, _⟩
  · omega
  · injection h1 with h1
    subst h1
    exact ⟨g, rfl, hg, (h.lt g rfl).2⟩
theorem own_other (h : w.ownsRow base e size v n xs) {p : Addr} (hn : ∀ k, v.ownBlock = some k → k ≠ p.block) (u : Value) : (w.setCell p u).ownsRow base e size v n xs :=
  own_fr h (S := fun k => k = p.block) ((Fr.refl (fun k => k = p.block) w).setCell (.inl rfl) u) (fun k hk (hb : k = p.block) => hn k hk hb)
end
theorem cel_no {w w1 : World} {p : Addr} {v : Value} (h : w.cell? p = some v) (f : Fr No w w1) : w1.cell? p = some v := by
  have hb := World.block_lt_of_cell? w _ h
  rw [World.cell?_of_block (w := w) (f.block _ hb (fun x => x))]
  exact h
theorem cel_alloc {w : World} {p : Addr} {v : Value} (h : w.cell? p = some v) (o : Obj) : (w.alloc o).cell? p = some v := cel_no h ((Fr.refl No w).alloc o)
theorem cel_drew {w : World} {p : Addr} {v : Value} (h : w.cell? p = some v) : w.drew.cell? p = some v := h
theorem cel_drewN {w : World} {p : Addr} {v : Value} (h : w.cell? p = some v) (n : Nat) : (w.drewN n).cell? p = some v := cel_no h ((Fr.refl No w).drewN n)
theorem cel_set {w : World} {p q : Addr} {v : Value} (h : w.cell? p = some v) (hn : p.block ≠ q.block) (u : Value) : (w.setCell q u).cell? p = some v := by
  rw [World.cell?_of_block (w := w) (Below.heap_setCell w q u p.block hn)]
  exact h
theorem own_putb {w : World} {base n a c : Nat} {e : TypeId} {size : Nat} {xs : List Value} (h : w.ownsRow base e size (.slice (some ⟨a, 0, none⟩) n c) n xs) {p : Addr} (hn : a ≠ p.block) (u : Value) : (w.setCell p u).ownsRow base e size (.slice (some ⟨a, 0, none⟩) n c) n xs :=
  own_other h (fun k hk => by simp [Value.ownBlock] at hk; omega) u
theorem Ob.put2 {w : World} {g : Nat} {x y : Value} {t : TypeId} (h : Ob w g #[x, y] t) (u v : Value) : Ob ((w.setCell ⟨g, 0, none⟩ u).setCell ⟨g, 1, none⟩ v) g #[u, v] t := (h.set 0 u).set 1 v
theorem cells2 {w : World} {g : Nat} {x y : Value} {t : TypeId} (h : Ob w g #[x, y] t) : w.cell? ⟨g, 0, none⟩ = some x ∧ w.cell? ⟨g, 1, none⟩ = some y := ⟨h.cell 0 rfl, h.cell 1 rfl⟩
theorem kv_other {w : World} {a o n c : Nat} {ks : List Nat} (h : Kv w (some ⟨a, o, none⟩) n c ks) {p : Addr} (hn : a ≠ p.block) (u : Value) : Kv (w.setCell p u) (some ⟨a, o, none⟩) n c ks :=
  h.fr (S := fun k => k = p.block) ((Fr.refl (fun k => k = p.block) w).setCell (.inl rfl) u) (fun b off e (hb : b = p.block) => by injection e with e; injection e with e1 e2; omega)
/-- What the walk asks of an object's two cells, behind an alloc too. -/
theorem Ob.eight {w : World} {g : Nat} {a b : Value} {t : TypeId} (h : Ob w g #[a, b] t) : w.cell? ⟨g, 0, none⟩ = some a ∧ w.cell? ⟨g, 1, none⟩ = some b ∧ w.frozen? ⟨g, 0, none⟩ = false ∧ w.frozen? ⟨g, 1, none⟩ = false ∧
    (∀ o, (w.alloc o).cell? ⟨g, 0, none⟩ = some a) ∧ (∀ o, (w.alloc o).cell? ⟨g, 1, none⟩ = some b) ∧ (∀ o, (w.alloc o).frozen? ⟨g, 0, none⟩ = false) ∧ (∀ o, (w.alloc o).frozen? ⟨g, 1, none⟩ = false) :=
  ⟨h.cell 0 rfl, h.cell 1 rfl, h.frozen 0, h.frozen 1, fun o => (h.alloc o).cell 0 rfl, fun o => (h.alloc o).cell 1 rfl, fun o => (h.alloc o).frozen 0, fun o => (h.alloc o).frozen 1⟩
theorem four4 {a b c d : Prop} (h : a ∧ b) (h1 : c) (h2 : d) : a ∧ b ∧ c ∧ d := ⟨h.1, h.2, h1, h2⟩
theorem use_ {a b : Prop} (h : a) (k : a → b) : b := k h
structure Bo (T e : TypeId) (w : World) (base g a ca b cb n : Nat) (lo hi : List Nat) : Prop where
  ob : Ob w g #[.slice (some ⟨a, 0, none⟩) n ca, .slice (some ⟨b, 0, none⟩) n cb] T
  lo : w.ownsRow base e 1 (.slice (some ⟨a, 0, none⟩) n ca) n (u32s lo)
  hi : w.ownsRow base e 1 (.slice (some ⟨b, 0, none⟩) n cb) n (u32s hi)
  ne : a ≠ b ∧ g ≠ a ∧ g ≠ b
  at_ : base ≤ g
section
variable {T e : TypeId} {w w1 : World} {base g a ca b cb n : Nat} {lo hi : List Nat}
theorem Bo.no (h : Bo T e w base g a ca b cb n lo hi) (f : Fr No w w1) : Bo T e w1 base g a ca b cb n lo hi := ⟨h.ob.no f, own_no h.lo f, own_no h.hi f, h.ne, h.at_⟩
theorem Bo.alloc (h : Bo T e w base g a ca b cb n lo hi) (o : Obj) : Bo T e (w.alloc o) base g a ca b cb n lo hi := h.no ((Fr.refl No w).alloc o)
theorem Bo.drew (h : Bo T e w base g a ca b cb n lo hi) : Bo T e w.drew base g a ca b cb n lo hi := h.no (Fr.refl No w).drew
theorem Bo.drewN (h : Bo T e w base g a ca b cb n lo hi) (m : Nat) : Bo T e (w.drewN m) base g a ca b cb n lo hi := h.no ((Fr.refl No w).drewN m)
theorem Bo.blk (h : Bo T e w base g a ca b cb n lo hi) : base ≤ a ∧ a < w.heap.size ∧ base ≤ b ∧ b < w.heap.size ∧ base ≤ g ∧ g < w.heap.size :=
  ⟨(h.lo.lt a rfl).1, (h.lo.lt a rfl).2, (h.hi.lt b rfl).1, (h.hi.lt b rfl).2, h.at_, h.ob.lt⟩
theorem Bo.len (h : Bo T e w base g a ca b cb n lo hi) : lo.length = n ∧ hi.length = n := by
  have h1 := own_len h.lo
  have h2 := own_len h.hi
  rw [u32s_len] at h1 h2
  exact ⟨h1, h2⟩
theorem Bo.setLo (h : Bo T e w base g a ca b cb n lo hi) (j x : Nat) : Bo T e (w.setCell ⟨a, j, none⟩ (.int .u32 (x : Int))) base g a ca b cb n (lo.set j x) hi := by
  obtain ⟨n1, n2, n3⟩ := h.ne
  refine ⟨h.ob.other (p := ⟨a, j, none⟩) n2 _, ?_, ?_, h.ne, h.at_⟩
  · have h0 := (h.lo.stored j (.int .u32 (x : Int))).1
    rw [u32s_set] at h0
    exact h0
  · exact own_other h.hi (p := ⟨a, j, none⟩) (fun k hk => by simp [Value.ownBlock] at hk; show k ≠ a; omega) _
theorem Bo.setHi (h : Bo T e w base g a ca b cb n lo hi) (j x : Nat) : Bo T e (w.setCell ⟨b, j, none⟩ (.int .u32 (x : Int))) base g a ca b cb n lo (hi.set j x) := by
  obtain ⟨n1, n2, n3⟩ := h.ne
  refine ⟨h.ob.other (p := ⟨b, j, none⟩) n3 _, ?_, ?_, h.ne, h.at_⟩
  · exact own_other h.lo (p := ⟨b, j, none⟩) (fun k hk => by simp [Value.ownBlock] at hk; show k ≠ b; omega) _
  · have h0 := (h.hi.stored j (.int .u32 (x : Int))).1
    rw [u32s_set] at h0
    exact h0
theorem Bo.other (h : Bo T e w base g a ca b cb n lo hi) {p : Addr} (hp : g ≠ p.block ∧ a ≠ p.block ∧ b ≠ p.block) (u : Value) : Bo T e (w.setCell p u) base g a ca b cb n lo hi :=
  ⟨h.ob.other hp.1 u, own_other h.lo (fun k hk => by simp [Value.ownBlock] at hk; have := hp.2.1; omega) u, own_other h.hi (fun k hk => by simp [Value.ownBlock] at hk; have := hp.2.2; omega) u, h.ne, h.at_⟩
/-- What the walk asks: the box's two cells, a coordinate's cell of each row. -/
theorem Bo.eyes (h : Bo T e w base g a ca b cb n lo hi) {j : Nat} (hj : j < n) : w.cell? ⟨g, 0, none⟩ = some (.slice (some ⟨a, 0, none⟩) n ca) ∧ w.cell? ⟨g, 1, none⟩ = some (.slice (some ⟨b, 0, none⟩) n cb) ∧
    w.cell? ⟨a, j, none⟩ = some (.int .u32 ((lo.getD j 0 : Nat) : Int)) ∧ w.cell? ⟨b, j, none⟩ = some (.int .u32 ((hi.getD j 0 : Nat) : Int)) ∧ w.frozen? ⟨a, j, none⟩ = false ∧ w.frozen? ⟨b, j, none⟩ = false := by
  have h1 := h.lo.cellAt j (by omega)
  have h2 := h.hi.cellAt j (by omega)
  obtain ⟨l1, l2⟩ := h.len
  rw [u32s_get _ j (by omega)] at h1 h2
  exact ⟨h.ob.cell 0 rfl, h.ob.cell 1 rfl, h1, h2, h.lo.frozenAt j, h.hi.frozenAt j⟩
end
end Go.Proofs.Ytifpigcgkpmheaa.Bo
