/- A box that is built coordinate by coordinate, by appends to its two points. No program in sight. -/
import Derived.Test.YtoaikponefcbiaaKz
namespace Go.Proofs.Ytoaikponefcbiaa.Bx
open Go.RowKit Go.Proofs.Ytoaikponefcbiaa.Base Go.Proofs.Ytoaikponefcbiaa.App Go.Proofs.Ytoaikponefcbiaa.Ky
set_option linter.unusedVariables false
theorem grown_fr {W w1 : World} {row : Option Nat} (hg : W.grownBy w1 row) : Fr (fun k => row = some k) W w1 :=
  ⟨hg.os, hg.tape, hg.output, hg.size, fun k hk hn => hg.block k hk (fun e => hn e.symm)⟩
/-- The result's place r, the box at o, its two rows of the call's own. -/
structure Two (T e : TypeId) (w wr : World) (r o base : Nat) (A : Option Addr) (i ca : Nat) (lo : List Nat) (B : Option Addr) (j cb : Nat) (hi : List Nat) : Prop where
  res : Ob wr r #[.slice none 0 0, .slice none 0 0] T
  out : Ob wr o #[.slice A i ca, .slice B j cb] T
  lo : wr.ownsRow base e 1 (.slice A i ca) i (u32s lo)
  hi : wr.ownsRow base e 1 (.slice B j cb) j (u32s hi)
  ne : ∀ g, (Value.slice A i ca).ownBlock = some g → ¬ (Value.slice B j cb).ownBlock = some g
  fr : Fr No w wr
  at_ : w.heap.size ≤ r ∧ r < o ∧ o < base ∧ base ≤ wr.heap.size
section
variable {T e : TypeId} {w wr w1 : World} {r o base : Nat} {A B A1 : Option Addr} {i ca j cb c1 : Nat} {lo hi : List Nat}
theorem Two.drew (h : Two T e w wr r o base A i ca lo B j cb hi) : Two T e w wr.drew r o base A i ca lo B j cb hi :=
  ⟨h.res, h.out, h.lo.drew, h.hi.drew, h.ne, h.fr.drew, h.at_⟩
theorem Two.no (h : Two T e w wr r o base A i ca lo B j cb hi) (f : Fr No wr w1) : Two T e w w1 r o base A i ca lo B j cb hi :=
  ⟨h.res.no f, h.out.no f, own_fr h.lo f (fun _ _ x => x), own_fr h.hi f (fun _ _ x => x), h.ne, h.fr.tr f, by obtain ⟨a, b, c, d⟩ := h.at_; have := f.size; exact ⟨a, b, c, by omega⟩⟩
theorem Two.app0 (h : Two T e w wr r o base A i ca lo B j cb hi) (O : Obj) (x : Nat) (hown : w1.ownsRow base e 1 (.slice A1 (i + 1) c1) (i + 1) (u32s lo ++ [.int .u32 (x : Int)])) (hgr : (wr.alloc O).grownBy w1 (Value.slice A i ca).ownBlock)
    (hat : (Value.slice A1 (i + 1) c1).ownBlock = (Value.slice A i ca).ownBlock ∨ (Value.slice A1 (i + 1) c1).ownBlock = some (wr.alloc O).heap.size) :
    Ob w1 o #[.slice A i ca, .slice B j cb] T ∧ Two T e w (w1.setCell ⟨o, 0, none⟩ (.slice A1 (i + 1) c1)) r o base A1 (i + 1) c1 (lo ++ [x]) B j cb hi := by
  obtain ⟨a1, a2, a3, a4⟩ := h.at_
  have F := grown_fr hgr
  have hsz : (wr.alloc O).heap.size = wr.heap.size + 1 := by simp
  have out1 : Ob w1 o #[.slice A i ca, .slice B j cb] T := (h.out.alloc O).fr F (fun hk => by have := (h.lo.lt o hk).1; omega)
  have res1 : Ob w1 r #[.slice none 0 0, .slice none 0 0] T := (h.res.alloc O).fr F (fun hk => by have := (h.lo.lt r hk).1; omega)
  have hi1 := own_fr (h.hi.alloc O) F (fun k hk hs => h.ne k hs hk)
  refine ⟨out1, ?_, ?_, ?_, ?_, ?_, ?_, ?_⟩
  · exact res1.other (p := ⟨o, 0, none⟩) (show r ≠ o by omega) _
  · exact out1.set 0 (.slice A1 (i + 1) c1)
  · have e1 : u32s lo ++ [Value.int .u32 (x : Int)] = u32s (lo ++ [x]) := by simp [u32s]
    rw [← e1]
    exact own_fr hown (S := fun k => k = o) ((Fr.refl (fun k => k = o) w1).setCell (p := ⟨o, 0, none⟩) (.inl rfl) _) (fun k hk (hb : k = o) => by have := (hown.lt k hk).1; omega)
  · exact own_fr hi1 (S := fun k => k = o) ((Fr.refl (fun k => k = o) w1).setCell (p := ⟨o, 0, none⟩) (.inl rfl) _) (fun k hk (hb : k = o) => by have := (h.hi.lt k hk).1; omega)
  · intro g hg hB
    rcases hat with ht | ht
    · exact h.ne g (ht ▸ hg) hB
    · have h2 := (h.hi.lt g hB).2
      rw [ht] at hg
      injection hg with hg
      omega
  · exact ((h.fr.alloc O).grown hgr (fun k hk => .inr (by have := (h.lo.lt k hk).1; omega))).setCell (p := ⟨o, 0, none⟩) (.inr (show w.heap.size ≤ o by omega)) _
  · have := F.size
    have h2 : (w1.setCell ⟨o, 0, none⟩ (Value.slice A1 (i + 1) c1)).heap.size = w1.heap.size := by simp [World.setCell]
    rw [h2]
    exact ⟨a1, a2, a3, by omega⟩
theorem Two.app1 {B1 : Option Addr} (h : Two T e w wr r o base A i ca lo B j cb hi) (O : Obj) (x : Nat) (hown : w1.ownsRow base e 1 (.slice B1 (j + 1) c1) (j + 1) (u32s hi ++ [.int .u32 (x : Int)])) (hgr : (wr.alloc O).grownBy w1 (Value.slice B j cb).ownBlock)
    (hat : (Value.slice B1 (j + 1) c1).ownBlock = (Value.slice B j cb).ownBlock ∨ (Value.slice B1 (j + 1) c1).ownBlock = some (wr.alloc O).heap.size) :
    Ob w1 o #[.slice A i ca, .slice B j cb] T ∧ Two T e w (w1.setCell ⟨o, 1, none⟩ (.slice B1 (j + 1) c1)) r o base A i ca lo B1 (j + 1) c1 (hi ++ [x]) := by
  obtain ⟨a1, a2, a3, a4⟩ := h.at_
  have F := grown_fr hgr
  have hsz : (wr.alloc O).heap.size = wr.heap.size + 1 := by simp
  have out1 : Ob w1 o #[.slice A i ca, .slice B j cb] T := (h.out.alloc O).fr F (fun hk => by have := (h.hi.lt o hk).1; omega)
  have res1 : Ob w1 r #[.slice none 0 0, .slice none 0 0] T := (h.res.alloc O).fr F (fun hk => by have := (h.hi.lt r hk).1; omega)
  have lo1 := own_fr (h.lo.alloc O) F (fun k hk hs => h.ne k hk hs)
  refine ⟨out1, ?_, ?_, ?_, ?_, ?_, ?_, ?_⟩
  · exact res1.other (p := ⟨o, 1, none⟩) (show r ≠ o by omega) _
  · exact out1.set 1 (.slice B1 (j + 1) c1)
  · exact own_fr lo1 (S := fun k => k = o) ((Fr.refl (fun k => k = o) w1).setCell (p := ⟨o, 1, none⟩) (.inl rfl) _) (fun k hk (hb : k = o) => by have := (h.lo.lt k hk).1; omega)
  · have e1 : u32s hi ++ [Value.int .u32 (x : Int)] = u32s (hi ++ [x]) := by simp [u32s]
    rw [← e1]
    exact own_fr hown (S := fun k => k = o) ((Fr.refl (fun k => k = o) w1).setCell (p := ⟨o, 1, none⟩) (.inl rfl) _) (fun k hk (hb : k = o) => by have := (hown.lt k hk).1; omega)
  · intro g hA hg
    rcases hat with ht | ht
    · exact h.ne g hA (ht ▸ hg)
    · have h2 := (h.lo.lt g hA).2
      rw [ht] at hg
      injection hg with hg
      omega
  · exact ((h.fr.alloc O).grown hgr (fun k hk => .inr (by have := (h.hi.lt k hk).1; omega))).setCell (p := ⟨o, 1, none⟩) (.inr (show w.heap.size ≤ o by omega)) _
  · have := F.size
    have h2 : (w1.setCell ⟨o, 1, none⟩ (Value.slice B1 (j + 1) c1)).heap.size = w1.heap.size := by simp [World.setCell]
    rw [h2]
    exact ⟨a1, a2, a3, by omega⟩
theorem Rc.new_ (w : World) (cs : Array Value) (t : TypeId) (g : Nat) (hg : w.heap.size = g) : Rc (w.alloc (.cells cs t)) (some ⟨g, 0, none⟩) cs.toList := by
  subst hg; exact Rc.new w cs t
theorem Two.app0d (h : Two T e w wr r o base A i ca lo B j cb hi) (O : Obj) (x : Nat) (hown : w1.ownsRow base e 1 (.slice A1 (i + 1) c1) (i + 1) (u32s lo ++ [.int .u32 (x : Int)])) (hgr : ((wr.alloc O).drew).grownBy w1 (Value.slice A i ca).ownBlock)
    (hat : (Value.slice A1 (i + 1) c1).ownBlock = (Value.slice A i ca).ownBlock ∨ (Value.slice A1 (i + 1) c1).ownBlock = some ((wr.alloc O).drew).heap.size) :
    Ob w1 o #[.slice A i ca, .slice B j cb] T ∧ Two T e w (w1.setCell ⟨o, 0, none⟩ (.slice A1 (i + 1) c1)) r o base A1 (i + 1) c1 (lo ++ [x]) B j cb hi := h.drew.app0 O x hown hgr hat
theorem Two.app1d {B1 : Option Addr} (h : Two T e w wr r o base A i ca lo B j cb hi) (O : Obj) (x : Nat) (hown : w1.ownsRow base e 1 (.slice B1 (j + 1) c1) (j + 1) (u32s hi ++ [.int .u32 (x : Int)])) (hgr : ((wr.alloc O).drew).grownBy w1 (Value.slice B j cb).ownBlock)
    (hat : (Value.slice B1 (j + 1) c1).ownBlock = (Value.slice B j cb).ownBlock ∨ (Value.slice B1 (j + 1) c1).ownBlock = some ((wr.alloc O).drew).heap.size) :
    Ob w1 o #[.slice A i ca, .slice B j cb] T ∧ Two T e w (w1.setCell ⟨o, 1, none⟩ (.slice B1 (j + 1) c1)) r o base A i ca lo B1 (j + 1) c1 (hi ++ [x]) := h.drew.app1 O x hown hgr hat
/-- What the walk asks of the box's two cells. -/
theorem Ob.four {w : World} {g : Nat} {a b : Value} {t : TypeId} (h : Ob w g #[a, b] t) : w.cell? ⟨g, 0, none⟩ = some a ∧ w.cell? ⟨g, 1, none⟩ = some b ∧ w.frozen? ⟨g, 0, none⟩ = false ∧ w.frozen? ⟨g, 1, none⟩ = false := ⟨h.cell 0 rfl, h.cell 1 rfl, h.frozen 0, h.frozen 1⟩
end
/-- A box of two rows of one's own is returned. -/
def OwnTwo (e : TypeId) (w : World) (lo hi : List Nat) (en : Ending) (w' : World) : Prop :=
  ∃ A n ca B m cb, en = .returned (.agg #[.slice A n ca, .slice B m cb]) ∧ w'.ownsRow w.heap.size e 1 (.slice A n ca) n (u32s lo) ∧ w'.ownsRow w.heap.size e 1 (.slice B m cb) m (u32s hi) ∧
    (∀ g, (Value.slice A n ca).ownBlock = some g → ¬ (Value.slice B m cb).ownBlock = some g) ∧ Fr No w w'
end Go.Proofs.Ytoaikponefcbiaa.Bx
