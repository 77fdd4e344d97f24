/- Layer 8, further: coordinates put together. -/
import Derived.Test.YtpkhmakgebaofaaKh08
namespace Go.Proofs.Ytpkhmakgebaofaa.Ki08
open Go.RowKit Go.Proofs.Ytpkhmakgebaofaa.Pk08 Go.Proofs.Ytpkhmakgebaofaa.Base Go.Proofs.Ytpkhmakgebaofaa.App Go.Proofs.Ytpkhmakgebaofaa.Str Go.Proofs.Ytpkhmakgebaofaa.Ky Go.Proofs.Ytpkhmakgebaofaa.Kc08 Go.Proofs.Ytpkhmakgebaofaa.Kd08
set_option linter.unusedVariables false
set_option linter.unusedSimpArgs false
theorem info_u32 : (Try.prog.info? 47).map (fun i => (i.zero, i.size, i.bytes)) = some (some (.int .u32 0), 1, 4) := by kernel_rfl
/-- The first i put together, of n. -/
def zipTo (f : Nat → Nat → Nat) (a b : List Nat) (i n : Nat) : List Nat := (List.range n).map (fun j => if j < i then f (a.getD j 0) (b.getD j 0) else 0)
def zipL (f : Nat → Nat → Nat) (a b : List Nat) : List Nat := (List.range a.length).map (fun j => f (a.getD j 0) (b.getD j 0))
theorem zipTo_zero (f : Nat → Nat → Nat) (a b : List Nat) (n : Nat) : zipTo f a b 0 n = List.replicate n 0 := by
  apply List.ext_getElem <;> simp [zipTo]
theorem zipTo_succ (f : Nat → Nat → Nat) (a b : List Nat) (i n : Nat) : (zipTo f a b i n).set i (f (a.getD i 0) (b.getD i 0)) = zipTo f a b (i + 1) n := by
  apply List.ext_getElem
  · simp [zipTo]
  · intro j h1 h2
    rw [List.getElem_set]
    simp only [zipTo, List.getElem_map, List.getElem_range]
    by_cases e : i = j
    · subst e; rw [if_pos rfl, if_pos (by omega)]
    · rw [if_neg e]
      by_cases h : j < i
      · rw [if_pos h, if_pos (by omega)]
      · rw [if_neg h, if_neg (by omega)]
theorem zipTo_all (f : Nat → Nat → Nat) (a b : List Nat) : zipTo f a b a.length a.length = zipL f a b := by
  unfold zipTo zipL
  exact List.map_congr_left fun j hj => if_pos (List.mem_range.1 hj)
theorem zipTo_len (f : Nat → Nat → Nat) (a b : List Nat) (i n : Nat) : (zipTo f a b i n).length = n := by simp [zipTo]
theorem zipL_len (f : Nat → Nat → Nat) (a b : List Nat) : (zipL f a b).length = a.length := by simp [zipL]
theorem zipL_lt (f : Nat → Nat → Nat) (hf : ∀ x y, x < 4294967296 → y < 4294967296 → f x y < 4294967296) {w : World} {A B : Option Addr} {n m c d : Nat} {a b : List Nat} (ha : Kv w A n c a) (hb : Kv w B m d b) : ∀ x ∈ zipL f a b, x < 4294967296 := by
  intro x hx
  obtain ⟨j, _, rfl⟩ := List.mem_map.1 hx
  exact hf _ _ (ha.ltD j) (hb.ltD j)
theorem cell_set {w : World} {p q : Addr} {u v : Value} (h : w.cell? p = some v) (hn : p.block ≠ q.block) : (w.setCell q u).cell? p = some v := by
  rw [World.cell?_of_block (w := w) (Below.heap_setCell w q u _ hn)]
  exact h
section
variable {w : World} {A B C D : Option Addr} {n m p q cn cm cp cq : Nat} {a b k lo hi : List Nat}
end
end Go.Proofs.Ytpkhmakgebaofaa.Ki08
