/- Several parts in one text: each begins with its own sentence. -/
import Derived.Test.YtifpigcgkpmheaaGa
import Derived.Test.YtifpigcgkpmheaaGb
import Derived.Handy
import Derived.Laws.CopyOwn
import Derived.Deep.RegionLaw
import Derived.IntWalk
import Derived.Lib.MinMax
import Derived.BigRegion
import Derived.Deep.LoopGhost
import Derived.Deep.DeepCutAuto
import Derived.RegionTactic
/- Layer 8, further: what two boxes have both. -/
namespace Go.Proofs.Ytifpigcgkpmheaa.Kj08
open Go.RowKit Go.Proofs.Ytifpigcgkpmheaa.Pk08 Go.Proofs.Ytifpigcgkpmheaa.Base Go.Proofs.Ytifpigcgkpmheaa.App Go.Proofs.Ytifpigcgkpmheaa.Str Go.Proofs.Ytifpigcgkpmheaa.Ky Go.Proofs.Ytifpigcgkpmheaa.Kc08 Go.Proofs.Ytifpigcgkpmheaa.Kd08 Go.Proofs.Ytifpigcgkpmheaa.Ke08 Go.Proofs.Ytifpigcgkpmheaa.Ki08
set_option linter.unusedVariables false
set_option linter.unusedSimpArgs false
/-- A box of two points, and a bool or a code, are returned. -/
def BoxRet (w : World) (lo hi : List Nat) (last : Value) (e : Ending) (w' : World) : Prop :=
  ∃ A n c B m d, e = .returned (.tuple #[.agg #[.slice A n c, .slice B m d], last]) ∧ Kv w' A n c lo ∧ Kv w' B m d hi ∧ Fr No w w'
theorem four {w' : World} {s t : Nat} {a b c d : Value} {T : TypeId} (h1 : Ob w' s #[a, b] T) (h2 : Ob w' t #[c, d] T) :
    w'.cell? ⟨s, 0, none⟩ = some a ∧ w'.cell? ⟨s, 1, none⟩ = some b ∧ w'.cell? ⟨t, 0, none⟩ = some c ∧ w'.cell? ⟨t, 1, none⟩ = some d :=
  ⟨h1.cell 0 rfl, h1.cell 1 rfl, h2.cell 0 rfl, h2.cell 1 rfl⟩
theorem put4 {w' : World} {s t z : Nat} {a b c d : Value} {T : TypeId} (h1 : Ob w' s #[a, b] T) (h2 : Ob w' t #[c, d] T) (n1 : s ≠ z) (n2 : t ≠ z) (u v : Value) :
    ((w'.setCell ⟨z, 0, none⟩ u).setCell ⟨z, 1, none⟩ v).cell? ⟨s, 0, none⟩ = some a ∧ ((w'.setCell ⟨z, 0, none⟩ u).setCell ⟨z, 1, none⟩ v).cell? ⟨s, 1, none⟩ = some b ∧ ((w'.setCell ⟨z, 0, none⟩ u).setCell ⟨z, 1, none⟩ v).cell? ⟨t, 0, none⟩ = some c ∧ ((w'.setCell ⟨z, 0, none⟩ u).setCell ⟨z, 1, none⟩ v).cell? ⟨t, 1, none⟩ = some d :=
  four ((h1.other n1 u).other n1 v) ((h2.other n2 u).other n2 v)
theorem kv_set2 {w : World} {t z n c : Nat} {ks : List Nat} (h : Kv w (some ⟨t, 0, none⟩) n c ks) (hn : t ≠ z) (u v : Value) : Kv ((w.setCell ⟨z, 0, none⟩ u).setCell ⟨z, 1, none⟩ v) (some ⟨t, 0, none⟩) n c ks :=
  h.fr (S := fun k => k = z) (((Fr.refl (fun k => k = z) w).setCell (p := ⟨z, 0, none⟩) (.inl rfl) u).setCell (p := ⟨z, 1, none⟩) (.inl rfl) v) (fun b off e (hb : b = z) => by
    injection e with e
    injection e with e1 e2
    exact hn (e1.trans hb))
theorem chkB_one {lo hi : List Nat} {d : Int} (h : ¬ chkB lo hi d = 0) : chkB lo hi d = 1 := by
  unfold chkB at h ⊢
  split
  · next h2 => rw [if_pos h2] at h; exact absurd rfl h
  · rfl
/-- Two points are put together in a box at z; the result's place is r. -/
structure Ready (w wE : World) (r t1 t2 z n : Nat) (lo hi : List Nat) : Prop where
  hz : Ob wE z #[.slice (some ⟨t1, 0, none⟩) n n, .slice (some ⟨t2, 0, none⟩) n n] 43
  hr : Ob wE r #[.slice none 0 0, .slice none 0 0] 43
  k1 : Kv wE (some ⟨t1, 0, none⟩) n n lo
  k2 : Kv wE (some ⟨t2, 0, none⟩) n n hi
  fr : Fr No w wE
  ne : z ≠ r
  n1 : t1 ≠ r
  n2 : t2 ≠ r
  le : w.heap.size ≤ r
def meetIs (al ah bl bh : List Nat) : Bool := decide (ah.length = al.length ∧ bl.length = al.length ∧ bh.length = al.length ∧ chkB (zipL max al bl) (zipL min ah bh) al.length = 0)
def meetLo (al ah bl bh : List Nat) : List Nat := if meetIs al ah bl bh = true then zipL max al bl else []
def meetHi (al ah bl bh : List Nat) : List Nat := if meetIs al ah bl bh = true then zipL min ah bh else []
theorem max_lt (x y : Nat) (hx : x < 4294967296) (hy : y < 4294967296) : max x y < 4294967296 := by omega
theorem min_lt (x y : Nat) (hx : x < 4294967296) (hy : y < 4294967296) : min x y < 4294967296 := by omega
section
variable {w : World} {A B C D : Option Addr} {n m p q cn cm cp cq : Nat} {al ah bl bh : List Nat}
end
end Go.Proofs.Ytifpigcgkpmheaa.Kj08
/- Layer 8, further: Meet of any boxes. -/
namespace Go.Proofs.Ytifpigcgkpmheaa.Km08
open Go.RowKit Go.Proofs.Ytifpigcgkpmheaa.Pk08 Go.Proofs.Ytifpigcgkpmheaa.Base Go.Proofs.Ytifpigcgkpmheaa.App Go.Proofs.Ytifpigcgkpmheaa.Str Go.Proofs.Ytifpigcgkpmheaa.Ky Go.Proofs.Ytifpigcgkpmheaa.Kc08 Go.Proofs.Ytifpigcgkpmheaa.Kd08 Go.Proofs.Ytifpigcgkpmheaa.Ke08 Go.Proofs.Ytifpigcgkpmheaa.Ki08 Go.Proofs.Ytifpigcgkpmheaa.Kj08
set_option linter.unusedVariables false
set_option linter.unusedSimpArgs false
section
variable {w : World} {A B C D : Option Addr} {n m p q cn cm cp cq : Nat} {al ah bl bh : List Nat}
theorem meet_none (h : ¬ (m = n ∧ p = n ∧ q = n)) (hal : Kv w A n cn al) (hah : Kv w B m cm ah) (hbl : Kv w C p cp bl) (hbh : Kv w D q cq bh) : meetIs al ah bl bh = false := by
  unfold meetIs
  apply decide_eq_false
  rintro ⟨h1, h2, h3, _⟩
  rw [← hal.len] at h1 h2 h3
  rw [← hah.len] at h1
  rw [← hbl.len] at h2
  rw [← hbh.len] at h3
  exact h ⟨h1, h2, h3⟩
end
end Go.Proofs.Ytifpigcgkpmheaa.Km08
/- Layer 8, further: slices.Repeat of one coordinate; the box of all points. -/
namespace Go.Proofs.Ytifpigcgkpmheaa.Kn08
open Go.RowKit Go.Proofs.Ytifpigcgkpmheaa.Pk08 Go.Proofs.Ytifpigcgkpmheaa.Base Go.Proofs.Ytifpigcgkpmheaa.App Go.Proofs.Ytifpigcgkpmheaa.Str Go.Proofs.Ytifpigcgkpmheaa.Ky Go.Proofs.Ytifpigcgkpmheaa.Kc08 Go.Proofs.Ytifpigcgkpmheaa.Kd08 Go.Proofs.Ytifpigcgkpmheaa.Ke08 Go.Proofs.Ytifpigcgkpmheaa.Ki08 Go.Proofs.Ytifpigcgkpmheaa.Kj08
set_option linter.unusedVariables false
set_option linter.unusedSimpArgs false
theorem size_u32 : (Try.prog.info? 47).map (·.size) = some 1 := by kernel_rfl
theorem six {d : Nat} (h1 : 1 ≤ d) (h2 : d ≤ 6) : d = 1 ∨ d = 2 ∨ d = 3 ∨ d = 4 ∨ d = 5 ∨ d = 6 := by omega
def part (v d n : Nat) : List Value := u32s (List.replicate n v ++ List.replicate (d - n) 0)
theorem part_len (v d n : Nat) (h : n ≤ d) : (part v d n).length = d := by simp [part, u32s]; omega
theorem part_all (v d : Nat) : part v d d = u32s (List.replicate d v) := by simp [part]
theorem part_next (v d n m : Nat) (h : n + m ≤ d) : splice (part v d n) n (u32s (List.replicate m v)) = part v d (n + m) := by
  unfold splice part u32s
  rw [List.map_append, List.map_append, List.take_append_of_le_length (by simp), List.take_of_length_le (by simp), List.length_map, List.length_replicate, List.drop_append]
  simp only [List.map_replicate, List.drop_replicate, List.length_replicate]
  rw [show n - (n + m) = 0 by omega, show d - n - (n + m - n) = d - (n + m) by omega]
  simp [← List.append_assoc, List.replicate_append_replicate]
theorem part_src (v d n : Nat) (w : World) (g : Nat) (hg : w.heap[g]? = some (.cells (part v d n).toArray 47 (0, 0))) (h : min n (d - n) ≤ n) :
    ∀ j u, (u32s (List.replicate (min n (d - n)) v))[j]? = some u → w.cell? ((⟨g, 0, none⟩ : Addr).add j) = some u := by
  intro j u hj
  have hob : Ob w g (part v d n).toArray 47 := hg
  have hj' : j < min n (d - n) := by have := (List.getElem?_eq_some_iff.1 hj).1; simpa [u32s] using this
  have e : (⟨g, 0, none⟩ : Addr).add j = ⟨g, j, none⟩ := by unfold Addr.add; split <;> simp_all
  rw [e]
  apply hob.cell
  rw [List.getElem?_toArray, ← hj]
  unfold part u32s
  rw [List.map_append, List.getElem?_append_left (by simp; omega)]
  simp only [List.map_replicate, List.getElem?_replicate]
  rw [if_pos (by omega), if_pos hj']
section
variable {w : World} {A : Option Addr} {c : Nat}
end
end Go.Proofs.Ytifpigcgkpmheaa.Kn08
/- Layer 8, further: the box of all points. -/
namespace Go.Proofs.Ytifpigcgkpmheaa.Ko08
open Go.RowKit Go.Proofs.Ytifpigcgkpmheaa.Pk08 Go.Proofs.Ytifpigcgkpmheaa.Base Go.Proofs.Ytifpigcgkpmheaa.App Go.Proofs.Ytifpigcgkpmheaa.Str Go.Proofs.Ytifpigcgkpmheaa.Ky Go.Proofs.Ytifpigcgkpmheaa.Kc08 Go.Proofs.Ytifpigcgkpmheaa.Kd08 Go.Proofs.Ytifpigcgkpmheaa.Ke08 Go.Proofs.Ytifpigcgkpmheaa.Ki08 Go.Proofs.Ytifpigcgkpmheaa.Kj08 Go.Proofs.Ytifpigcgkpmheaa.Kn08
set_option linter.unusedVariables false
set_option linter.unusedSimpArgs false
/-- A box of one's own two rows is returned. -/
def OwnBox (w : World) (n : Nat) (lo hi : List Nat) (e : Ending) (w' : World) : Prop :=
  ∃ s t, s ≠ t ∧ e = .returned (.agg #[.slice (some ⟨s, 0, none⟩) n n, .slice (some ⟨t, 0, none⟩) n n]) ∧ w'.ownsRow w.heap.size 47 1 (.slice (some ⟨s, 0, none⟩) n n) n (u32s lo) ∧ w'.ownsRow w.heap.size 47 1 (.slice (some ⟨t, 0, none⟩) n n) n (u32s hi) ∧ Fr No w w'
theorem one_kv (W : World) : Kv (W.alloc (.cells #[.int .u32 4294967295] 47)) (some ⟨W.heap.size, 0, none⟩) 1 1 [4294967295] := by
  refine ⟨rfl, Nat.le_refl _, by decide, fun x hx => by simp at hx; subst hx; decide, fun _ => ⟨_, 0, rfl, fun i hi => ?_⟩⟩
  have hi0 : i = 0 := by simpa using hi
  subst hi0
  exact (Ob.new W #[.int .u32 4294967295] 47).cell 0 rfl
theorem own_set2 {w : World} {base t z n : Nat} {xs : List Value} (h : w.ownsRow base 47 1 (.slice (some ⟨t, 0, none⟩) n n) n xs) (hn : t ≠ z) (u v : Value) : ((w.setCell ⟨z, 0, none⟩ u).setCell ⟨z, 1, none⟩ v).ownsRow base 47 1 (.slice (some ⟨t, 0, none⟩) n n) n xs :=
  own_fr h (S := fun k => k = z) (((Fr.refl (fun k => k = z) w).setCell (p := ⟨z, 0, none⟩) (.inl rfl) u).setCell (p := ⟨z, 1, none⟩) (.inl rfl) v) (fun k hk (hb : k = z) => by
    simp [Value.ownBlock] at hk
    omega)
theorem mk_own (W : World) (base d : Nat) (hb : base ≤ W.heap.size) (h : d ≤ 6) : (W.alloc (.cells (madeCells #[.int .u32 0] d) 47)).ownsRow base 47 1 (.slice (some ⟨W.heap.size, 0, none⟩) d d) d (u32s (List.replicate d 0)) := by
  have h0 := own_mk W base 47 (.int .u32 0) rfl d hb (by omega)
  have e : List.replicate d (Value.int .u32 0) = u32s (List.replicate d 0) := by simp [u32s]
  rwa [e] at h0
end Go.Proofs.Ytifpigcgkpmheaa.Ko08
/- Layer 8, further: Whole of any number; short. -/
namespace Go.Proofs.Ytifpigcgkpmheaa.Kp08
open Go.RowKit Go.Proofs.Ytifpigcgkpmheaa.Pk08 Go.Proofs.Ytifpigcgkpmheaa.Base Go.Proofs.Ytifpigcgkpmheaa.App Go.Proofs.Ytifpigcgkpmheaa.Str Go.Proofs.Ytifpigcgkpmheaa.Ky Go.Proofs.Ytifpigcgkpmheaa.Kc08 Go.Proofs.Ytifpigcgkpmheaa.Kd08 Go.Proofs.Ytifpigcgkpmheaa.Ke08 Go.Proofs.Ytifpigcgkpmheaa.Ki08 Go.Proofs.Ytifpigcgkpmheaa.Kj08 Go.Proofs.Ytifpigcgkpmheaa.Kn08 Go.Proofs.Ytifpigcgkpmheaa.Ko08
set_option linter.unusedVariables false
set_option linter.unusedSimpArgs false
end Go.Proofs.Ytifpigcgkpmheaa.Kp08
/- Layer 8, further: Partial that may not be: its first guard. -/
namespace Go.Proofs.Ytifpigcgkpmheaa.Kq08
open Go.RowKit Go.Proofs.Ytifpigcgkpmheaa.Pk08 Go.Proofs.Ytifpigcgkpmheaa.Pq08 Go.Proofs.Ytifpigcgkpmheaa.Base Go.Proofs.Ytifpigcgkpmheaa.App Go.Proofs.Ytifpigcgkpmheaa.Str Go.Proofs.Ytifpigcgkpmheaa.Ky Go.Proofs.Ytifpigcgkpmheaa.Kc08 Go.Proofs.Ytifpigcgkpmheaa.Kd08 Go.Proofs.Ytifpigcgkpmheaa.Ke08 Go.Proofs.Ytifpigcgkpmheaa.Ki08 Go.Proofs.Ytifpigcgkpmheaa.Kj08 Go.Proofs.Ytifpigcgkpmheaa.Kn08 Go.Proofs.Ytifpigcgkpmheaa.Ko08
set_option linter.unusedVariables false
set_option linter.unusedSimpArgs false
end Go.Proofs.Ytifpigcgkpmheaa.Kq08
/- Layer 8's laws: short. -/
namespace Go.Proofs.Ytifpigcgkpmheaa.Ks08
open Go.RowKit Go.Proofs.Ytifpigcgkpmheaa.Pk08 Go.Proofs.Ytifpigcgkpmheaa.Base Go.Proofs.Ytifpigcgkpmheaa.App Go.Proofs.Ytifpigcgkpmheaa.Str Go.Proofs.Ytifpigcgkpmheaa.Ky
set_option linter.unusedVariables false
set_option linter.unusedSimpArgs false
def lens (vs : List (Option Addr × Nat × Nat)) (i : Nat) : Nat := (vs.getD i (none, 0, 0)).2.1
def allS (vs : List (Option Addr × Nat × Nat)) : Bool := vs.all (fun v => decide (v.2.1 ≤ 20))
end Go.Proofs.Ytifpigcgkpmheaa.Ks08
/- Layer 8, further: Partial (under way). -/
namespace Go.Proofs.Ytifpigcgkpmheaa.Kr08
open Go.RowKit Go.Proofs.Ytifpigcgkpmheaa.Pk08 Go.Proofs.Ytifpigcgkpmheaa.Pq08 Go.Proofs.Ytifpigcgkpmheaa.Base Go.Proofs.Ytifpigcgkpmheaa.App Go.Proofs.Ytifpigcgkpmheaa.Str Go.Proofs.Ytifpigcgkpmheaa.Ky Go.Proofs.Ytifpigcgkpmheaa.Iv Go.Proofs.Ytifpigcgkpmheaa.Kc08 Go.Proofs.Ytifpigcgkpmheaa.Kd08 Go.Proofs.Ytifpigcgkpmheaa.Ke08 Go.Proofs.Ytifpigcgkpmheaa.Ki08 Go.Proofs.Ytifpigcgkpmheaa.Kj08 Go.Proofs.Ytifpigcgkpmheaa.Kn08 Go.Proofs.Ytifpigcgkpmheaa.Ko08
set_option linter.unusedVariables false
set_option linter.unusedSimpArgs false
def partOk (d : Nat) (xs : List Int) : Bool := okP d xs xs.length
def partLo (d : Nat) (xs : List Int) (ks : List Nat) : List Nat := if partOk d xs = true then setP (List.replicate d 0) xs ks xs.length else []
def partHi (d : Nat) (xs : List Int) (ks : List Nat) : List Nat := if partOk d xs = true then setP (List.replicate d 4294967295) xs ks xs.length else []
def partE (d : Nat) (xs : List Int) : Int := if partOk d xs = true then 0 else 1
theorem part_no {d : Nat} {xs : List Int} {i : Nat} (hi : i < xs.length) (h : ¬ (prev xs i < xs.getD i 0 ∧ xs.getD i 0 < d)) : partOk d xs = false := by
  cases ho : partOk d xs with
  | false => rfl
  | true =>
    have := okP_le d xs xs.length (i + 1) (by omega) ho
    simp only [okP, Bool.and_eq_true, decide_eq_true_eq] at this
    exact absurd this.2 h
theorem setP_lt {base : List Nat} {xs : List Int} {ks : List Nat} (hb : ∀ x ∈ base, x < 4294967296) (hk : ∀ i, ks.getD i 0 < 4294967296) (i : Nat) : ∀ x ∈ setP base xs ks i, x < 4294967296 := by
  induction i with
  | zero => exact hb
  | succ i ih =>
    intro x hx
    simp only [setP] at hx
    rcases List.mem_or_eq_of_mem_set hx with h | h
    · exact ih x h
    · rw [h]; exact hk i
/-- What holds from round to round: the result's place, the box, its two rows. -/
structure Rnd (w wr : World) (g s t d : Nat) (xs : List Int) (ks : List Nat) (i : Nat) : Prop where
  ok : okP d xs i = true
  res : Ob wr w.heap.size #[.slice none 0 0, .slice none 0 0] 43
  box : Ob wr g #[.slice (some ⟨s, 0, none⟩) d d, .slice (some ⟨t, 0, none⟩) d d] 43
  lo : wr.ownsRow (w.heap.size + 1) 47 1 (.slice (some ⟨s, 0, none⟩) d d) d (u32s (setP (List.replicate d 0) xs ks i))
  hi : wr.ownsRow (w.heap.size + 1) 47 1 (.slice (some ⟨t, 0, none⟩) d d) d (u32s (setP (List.replicate d 4294967295) xs ks i))
  ne : s ≠ t ∧ s < g ∧ t < g
  fr : Fr No w wr
section
variable {w : World} {A B : Option Addr} {n cn cm : Nat} {xs : List Int} {ks : List Nat}
end
end Go.Proofs.Ytifpigcgkpmheaa.Kr08
/- Plain laws for layer 8: what two boxes have both; the box of those with some coordinates. No program in sight. -/
namespace Go.Proofs.Ytifpigcgkpmheaa.Pm08
open Go.Proofs.Ytifpigcgkpmheaa.Pk08 Go.Proofs.Ytifpigcgkpmheaa.Pq08 Go.Proofs.Ytifpigcgkpmheaa.Pl08 Go.Proofs.Ytifpigcgkpmheaa.Ki08 Go.Proofs.Ytifpigcgkpmheaa.Kj08 Go.Proofs.Ytifpigcgkpmheaa.Kr08
set_option linter.unusedVariables false
set_option linter.unusedSimpArgs false
theorem zipL_get (f : Nat → Nat → Nat) (a b : List Nat) (i : Nat) (h : i < a.length) : (zipL f a b).getD i 0 = f (a.getD i 0) (b.getD i 0) := by
  simp [zipL, List.getD_eq_getElem?_getD, List.getElem?_map, List.getElem?_range h]
theorem inB_iff (k lo hi : List Nat) : inB k lo hi = true ↔ (lo.length = k.length ∧ k.length = hi.length ∧ ∀ i, i < k.length → lo.getD i 0 ≤ k.getD i 0 ∧ k.getD i 0 ≤ hi.getD i 0) := by
  unfold inB
  rw [Bool.and_eq_true, leL_iff, leL_iff]
  constructor
  · rintro ⟨⟨h1, h2⟩, h3, h4⟩
    exact ⟨h1, h3, fun i hi' => ⟨h2 i (by omega), h4 i hi'⟩⟩
  · rintro ⟨h1, h2, h3⟩
    exact ⟨⟨h1, fun i hi' => (h3 i (by omega)).1⟩, h2, fun i hi' => (h3 i hi').2⟩
theorem list_eq {a b : List Nat} (hl : a.length = b.length) (h : ∀ i, i < a.length → a.getD i 0 = b.getD i 0) : a = b := by
  apply List.ext_getElem hl
  intro i h1 h2
  have := h i h1
  simpa [List.getD_eq_getElem?_getD, h1, h2] using this
theorem zipL_comm (f : Nat → Nat → Nat) (hf : ∀ x y, f x y = f y x) (a b : List Nat) (h : a.length = b.length) : zipL f a b = zipL f b a := by
  apply list_eq (by rw [zipL_len, zipL_len, h])
  intro i hi
  rw [zipL_len] at hi
  rw [zipL_get f a b i hi, zipL_get f b a i (by omega), hf]
theorem meetIs_iff (al ah bl bh : List Nat) : meetIs al ah bl bh = true ↔ (ah.length = al.length ∧ bl.length = al.length ∧ bh.length = al.length ∧ 1 ≤ al.length ∧ al.length ≤ 6 ∧ ∀ i, i < al.length → max (al.getD i 0) (bl.getD i 0) ≤ min (ah.getD i 0) (bh.getD i 0)) := by
  unfold meetIs
  rw [decide_eq_true_eq]
  constructor
  · rintro ⟨h1, h2, h3, h4⟩
    rw [chkB_zero, zipL_len, leL_iff, zipL_len, zipL_len] at h4
    obtain ⟨h5, h6, _, h7, h8⟩ := h4
    refine ⟨h1, h2, h3, by omega, by omega, fun i hi => ?_⟩
    have := h8 i hi
    rwa [zipL_get _ _ _ _ hi, zipL_get _ _ _ _ (by omega)] at this
  · rintro ⟨h1, h2, h3, h4, h5, h6⟩
    refine ⟨h1, h2, h3, ?_⟩
    rw [chkB_zero, zipL_len, leL_iff, zipL_len, zipL_len]
    refine ⟨by omega, by omega, rfl, by omega, fun i hi => ?_⟩
    rw [zipL_get _ _ _ _ hi, zipL_get _ _ _ _ (by omega)]
    exact h6 i hi
theorem chkB_parts {lo hi : List Nat} {n : Nat} (h : chkB lo hi n = 0) : 1 ≤ n ∧ n ≤ 6 ∧ lo.length = n ∧ hi.length = n ∧ ∀ i, i < n → lo.getD i 0 ≤ hi.getD i 0 := by
  rw [chkB_zero, leL_iff] at h
  obtain ⟨h1, h2, h3, h4, h5⟩ := h
  exact ⟨by omega, by omega, by omega, by omega, fun i hi => h5 i (by omega)⟩
theorem meet_comm {al ah bl bh : List Nat} {n : Nat} (ha : chkB al ah n = 0) (hb : chkB bl bh n = 0) : meetIs bl bh al ah = meetIs al ah bl bh ∧ meetLo bl bh al ah = meetLo al ah bl bh ∧ meetHi bl bh al ah = meetHi al ah bl bh := by
  obtain ⟨h1, h2, h3, h4, _⟩ := chkB_parts ha
  obtain ⟨_, _, h5, h6, _⟩ := chkB_parts hb
  have e : meetIs bl bh al ah = meetIs al ah bl bh := by
    rw [Bool.eq_iff_iff, meetIs_iff, meetIs_iff]
    constructor
    · rintro ⟨_, _, _, _, _, h⟩
      exact ⟨by omega, by omega, by omega, by omega, by omega, fun i hi => by have := h i (by omega); omega⟩
    · rintro ⟨_, _, _, _, _, h⟩
      exact ⟨by omega, by omega, by omega, by omega, by omega, fun i hi => by have := h i (by omega); omega⟩
  refine ⟨e, ?_, ?_⟩
  · unfold meetLo; rw [e, zipL_comm max Nat.max_comm bl al (by omega)]
  · unfold meetHi; rw [e, zipL_comm min Nat.min_comm bh ah (by omega)]
theorem meet_both {k al ah bl bh : List Nat} (ha : chkB al ah k.length = 0) (hb : chkB bl bh k.length = 0) :
    (meetIs al ah bl bh && inB k (meetLo al ah bl bh) (meetHi al ah bl bh)) = (inB k al ah && inB k bl bh) := by
  obtain ⟨h1, h2, h3, h4, h5⟩ := chkB_parts ha
  obtain ⟨_, _, h6, h7, h8⟩ := chkB_parts hb
  rw [Bool.eq_iff_iff, Bool.and_eq_true, Bool.and_eq_true, inB_iff k al ah, inB_iff k bl bh]
  constructor
  · rintro ⟨hm, hi⟩
    unfold meetLo meetHi at hi
    rw [if_pos hm, if_pos hm, inB_iff, zipL_len, zipL_len] at hi
    obtain ⟨i1, i2, i3⟩ := hi
    have hh : ∀ i, i < k.length → al.getD i 0 ≤ k.getD i 0 ∧ bl.getD i 0 ≤ k.getD i 0 ∧ k.getD i 0 ≤ ah.getD i 0 ∧ k.getD i 0 ≤ bh.getD i 0 := fun i hi => by
      have := i3 i hi
      rw [zipL_get _ _ _ _ (by omega), zipL_get _ _ _ _ (by omega)] at this
      omega
    exact ⟨⟨by omega, by omega, fun i hi => ⟨(hh i hi).1, (hh i hi).2.2.1⟩⟩, by omega, by omega, fun i hi => ⟨(hh i hi).2.1, (hh i hi).2.2.2⟩⟩
  · rintro ⟨⟨_, _, g1⟩, _, _, g2⟩
    have hm : meetIs al ah bl bh = true := (meetIs_iff al ah bl bh).2 ⟨by omega, by omega, by omega, by omega, by omega, fun i hi => by have := g1 i (by omega); have := g2 i (by omega); omega⟩
    refine ⟨hm, ?_⟩
    unfold meetLo meetHi
    rw [if_pos hm, if_pos hm, inB_iff, zipL_len, zipL_len]
    refine ⟨by omega, by omega, fun i hi => ?_⟩
    rw [zipL_get _ _ _ _ (by omega), zipL_get _ _ _ _ (by omega)]
    have := g1 i hi
    have := g2 i hi
    omega
theorem meet_one {k lo hi : List Nat} (h : chkB lo hi k.length = 0) : meetIs lo hi k k = inB k lo hi ∧ (meetIs lo hi k k = true → meetLo lo hi k k = k ∧ meetHi lo hi k k = k) := by
  obtain ⟨h1, h2, h3, h4, h5⟩ := chkB_parts h
  have e : meetIs lo hi k k = inB k lo hi := by
    rw [Bool.eq_iff_iff, meetIs_iff, inB_iff]
    constructor
    · rintro ⟨_, _, _, _, _, g⟩
      exact ⟨by omega, by omega, fun i hi => by have := g i (by omega); omega⟩
    · rintro ⟨_, _, g⟩
      exact ⟨by omega, by omega, by omega, by omega, by omega, fun i hi => by have := g i (by omega); omega⟩
  refine ⟨e, fun hm => ?_⟩
  have g := (meetIs_iff lo hi k k).1 hm
  obtain ⟨_, _, _, _, _, g⟩ := g
  unfold meetLo meetHi
  rw [if_pos hm, if_pos hm]
  refine ⟨list_eq (by rw [zipL_len]; omega) (fun i hi => ?_), list_eq (by rw [zipL_len]; omega) (fun i hi => ?_)⟩
  · rw [zipL_len] at hi
    rw [zipL_get _ _ _ _ hi]
    have := g i (by omega)
    omega
  · rw [zipL_len] at hi
    rw [zipL_get _ _ _ _ hi]
    have := g i (by omega)
    omega
theorem corner {lo hi : List Nat} {n : Nat} (h : chkB lo hi n = 0) : inB lo lo hi = true ∧ inB hi lo hi = true := by
  obtain ⟨h1, h2, h3, h4, h5⟩ := chkB_parts h
  exact ⟨(inB_iff _ _ _).2 ⟨rfl, by omega, fun i hi => ⟨Nat.le_refl _, h5 i (by omega)⟩⟩, (inB_iff _ _ _).2 ⟨by omega, rfl, fun i hi => ⟨h5 i (by omega), Nat.le_refl _⟩⟩⟩
theorem in_self (k : List Nat) : inB k k k = true := (inB_iff _ _ _).2 ⟨rfl, rfl, fun i hi => ⟨Nat.le_refl _, Nat.le_refl _⟩⟩
theorem rep_get (d v i : Nat) (h : i < d) : (List.replicate d v).getD i 0 = v := by simp [List.getD_eq_getElem?_getD, List.getElem?_replicate, h]
theorem in_whole {k : List Nat} {d : Nat} (hd : k.length = d) (hk : ∀ x ∈ k, x < 4294967296) : inB k (List.replicate d 0) (List.replicate d 4294967295) = true := by
  rw [inB_iff, List.length_replicate, List.length_replicate]
  refine ⟨by omega, by omega, fun i hi => ?_⟩
  rw [rep_get d _ i (by omega), rep_get d _ i (by omega)]
  have := hk (k.getD i 0) (by rw [List.getD_eq_getElem?_getD, List.getElem?_eq_getElem hi]; exact List.getElem_mem hi)
  omega
theorem set_get (l : List Nat) (m v j : Nat) (hm : m < l.length) : (l.set m v).getD j 0 = if m = j then v else l.getD j 0 := by
  rw [List.getD_eq_getElem?_getD, List.getElem?_set]
  by_cases h : m = j
  · subst h; rw [if_pos rfl, if_pos hm, if_pos rfl]; rfl
  · rw [if_neg h, if_neg h, ← List.getD_eq_getElem?_getD]
/-- Are the first i of the coordinates the point's? -/
def hasP (xs : List Int) (ks p : List Nat) : Nat → Bool
  | 0 => true
  | i + 1 => hasP xs ks p i && (p.getD (xs.getD i 0).toNat 0 == ks.getD i 0)
theorem okP_step {d : Int} {xs : List Int} {i : Nat} (h : okP d xs (i + 1) = true) : okP d xs i = true ∧ prev xs i < xs.getD i 0 ∧ xs.getD i 0 < d := by
  simp only [okP, Bool.and_eq_true, decide_eq_true_eq] at h
  exact ⟨h.1, h.2.1, h.2.2⟩
theorem setP_above (d : Nat) (base : List Nat) (hb : base.length = d) (xs : List Int) (ks : List Nat) : ∀ i, okP d xs i = true → ∀ m : Nat, prev xs i < m → (setP base xs ks i).getD m 0 = base.getD m 0
  | 0, _, m, _ => rfl
  | i + 1, h, m, hm => by
    obtain ⟨h1, h2, h3⟩ := okP_step h
    have h0 := prev_ge d xs i h1
    have hm' : xs.getD i 0 < m := hm
    simp only [setP]
    rw [set_get _ _ _ _ (by rw [setP_len]; omega), if_neg (by omega)]
    exact setP_above d base hb xs ks i h1 m (by omega)
theorem in_part (d : Nat) (xs : List Int) (ks p : List Nat) (hp : p.length = d) (hk : ∀ x ∈ p, x < 4294967296) : ∀ i, okP d xs i = true →
    ((∀ j, j < d → (setP (List.replicate d 0) xs ks i).getD j 0 ≤ p.getD j 0 ∧ p.getD j 0 ≤ (setP (List.replicate d 4294967295) xs ks i).getD j 0) ↔ hasP xs ks p i = true)
  | 0, _ => by
    simp only [setP, hasP, iff_true]
    intro j hj
    rw [rep_get _ _ _ hj, rep_get _ _ _ hj]
    have := hk (p.getD j 0) (by rw [List.getD_eq_getElem?_getD, List.getElem?_eq_getElem (by omega)]; exact List.getElem_mem _)
    omega
  | i + 1, h => by
    obtain ⟨h1, h2, h3⟩ := okP_step h
    have h0 := prev_ge d xs i h1
    have ih := in_part d xs ks p hp hk i h1
    obtain ⟨m, hm⟩ := Int.eq_ofNat_of_zero_le (show 0 ≤ xs.getD i 0 by omega)
    have hmd : m < d := by omega
    have a1 := setP_above d (List.replicate d 0) (by simp) xs ks i h1 m (by omega)
    have a2 := setP_above d (List.replicate d 4294967295) (by simp) xs ks i h1 m (by omega)
    rw [rep_get _ _ _ hmd] at a1 a2
    have hpm := hk (p.getD m 0) (by rw [List.getD_eq_getElem?_getD, List.getElem?_eq_getElem (by omega)]; exact List.getElem_mem _)
    simp only [setP, hasP, Bool.and_eq_true, beq_iff_eq]
    rw [← ih, hm, Int.toNat_natCast]
    constructor
    · intro g
      have gm := g m hmd
      rw [set_get _ _ _ _ (by rw [setP_len]; simpa using hmd), set_get _ _ _ _ (by rw [setP_len]; simpa using hmd), if_pos rfl, if_pos rfl] at gm
      refine ⟨fun j hj => ?_, by omega⟩
      by_cases e : m = j
      · subst e; omega
      · have := g j hj
        rw [set_get _ _ _ _ (by rw [setP_len]; simpa using hmd), set_get _ _ _ _ (by rw [setP_len]; simpa using hmd), if_neg e, if_neg e] at this
        exact this
    · rintro ⟨g, gm⟩ j hj
      rw [set_get _ _ _ _ (by rw [setP_len]; simpa using hmd), set_get _ _ _ _ (by rw [setP_len]; simpa using hmd)]
      by_cases e : m = j
      · subst e; rw [if_pos rfl, if_pos rfl]; omega
      · rw [if_neg e, if_neg e]; exact g j hj
theorem in_partial {d : Nat} {xs : List Int} {ks p : List Nat} (hp : p.length = d) (hk : ∀ x ∈ p, x < 4294967296) (ho : partE d xs = 0) : inB p (partLo d xs ks) (partHi d xs ks) = hasP xs ks p xs.length := by
  have hok : partOk d xs = true := by
    unfold partE at ho
    by_cases h : partOk d xs = true
    · exact h
    · rw [if_neg h] at ho; exact absurd ho (by decide)
  unfold partLo partHi
  rw [if_pos hok, if_pos hok, Bool.eq_iff_iff, inB_iff, setP_len, setP_len, List.length_replicate, List.length_replicate, ← in_part d xs ks p hp hk xs.length hok]
  constructor
  · rintro ⟨_, _, g⟩; exact fun j hj => g j (by omega)
  · intro g; exact ⟨by omega, by omega, fun j hj => g j (by omega)⟩
end Go.Proofs.Ytifpigcgkpmheaa.Pm08
/- Layer 8, the document's: the box of all points. -/
namespace Go.Proofs.Ytifpigcgkpmheaa.Kw08
open Go.RowKit Go.Proofs.Ytifpigcgkpmheaa.Pk08 Go.Proofs.Ytifpigcgkpmheaa.Pq08 Go.Proofs.Ytifpigcgkpmheaa.Base Go.Proofs.Ytifpigcgkpmheaa.App Go.Proofs.Ytifpigcgkpmheaa.Str Go.Proofs.Ytifpigcgkpmheaa.Ky Go.Proofs.Ytifpigcgkpmheaa.Bx Go.Proofs.Ytifpigcgkpmheaa.Ki08
set_option linter.unusedVariables false
set_option linter.unusedSimpArgs false
theorem rep_snoc (i x : Nat) : List.replicate i x ++ [x] = List.replicate (i + 1) x := by rw [List.replicate_succ']
set_option maxHeartbeats 1600000 in
theorem rwhole_ok (d : Nat) (h6 : d ≤ 6) (w : World) :
    Calls Try.prog 37 #[.int .i64 (d : Int)] w (OwnTwo 47 w (List.replicate d 0) (List.replicate d 4294967295)) := by
  go_enter Try.func37, Try.ntmps37
  go_wp2
  go_loopw [4] (fun v wr => ∃ (i : Nat) (A : Option Addr) (ca : Nat) (B : Option Addr) (cb : Nat), i ≤ d ∧ v = .int .i64 i ∧ Hid (Two 43 47 w wr w.heap.size (w.heap.size + 1) (w.heap.size + 1 + 1) A i ca (List.replicate i 0) B i cb (List.replicate i 4294967295))) (fun v _ => d - (intOf v).toNat)
  case atStart => exact ⟨0, none, 0, none, 0, Nat.zero_le _, rfl, Lib.hid ⟨by (repeat (first | with_reducible assumption | with_reducible refine Ob.other ?_ (by first | (simp; done) | (simp; omega)) _ | ((with_reducible refine Ob.new_ _ _ _ _ ?_) <;> (simp; done)) | with_reducible refine Ob.alloc ?_ _ | with_reducible refine Ob.drew ?_ | with_reducible refine Ob.drewN ?_ _ | with_reducible refine Ob.no ?_ (by assumption))), by (repeat (first | with_reducible assumption | with_reducible refine Ob.other ?_ (by first | (simp; done) | (simp; omega)) _ | ((with_reducible refine Ob.new_ _ _ _ _ ?_) <;> (simp; done)) | with_reducible refine Ob.alloc ?_ _ | with_reducible refine Ob.drew ?_ | with_reducible refine Ob.drewN ?_ _ | with_reducible refine Ob.no ?_ (by assumption))), World.ownsRow_nil _ _ _ _, World.ownsRow_nil _ _ _ _, fun g h => by simp [Value.ownBlock] at h, by (repeat (first | with_reducible exact Fr.refl _ _ | with_reducible refine Fr.setCell ?_ (.inr (by first | (simp; done) | (simp; omega))) _ | with_reducible refine Fr.alloc ?_ _ | with_reducible refine Fr.drew ?_ | with_reducible refine Fr.drewN ?_ _ | with_reducible refine Fr.tr ?_ (by assumption))), ⟨Nat.le_refl _, by omega, by omega, by simp⟩⟩⟩
  case round =>
    obtain ⟨i, A, ca, B, cb, hi, rfl, Hi⟩ := hrel
    by_cases hlt : i < d
    · obtain ⟨c0, c1, z0, z1⟩ := Ob.four Hi.out.out
      go_wp2_with (first
        | (at_builtin; refine app_list (w.heap.size + 1 + 1) rfl (.tmp 16) (.tmp 17) 37 47 (.int .u32 0) 1 4 rfl Try.underlying37 info_u32 rfl (by decide) (by decide) (.slice A i ca) i (u32s (List.replicate i 0)) rfl (Hi.out.lo.alloc _) (some ⟨wr.heap.size, 0, none⟩) 1 1 [.int .u32 0] rfl rfl (Rc.new wr #[.int .u32 0] _) (by simp [Value.oneCell']) (by omega) (by have := Hi.out.at_; simp; omega) ?_; intro v1 w1 hown hgr hat; obtain ⟨A1, ca1, rfl⟩ := own_slice hown; obtain ⟨hO1, hT1⟩ := Hi.out.app0 _ 0 hown hgr hat; obtain ⟨e0, e1, f0, f1⟩ := Ob.four hO1; have HT := Lib.hid hT1; clear hown hgr hat hT1)
        | (at_builtin; refine app_list (w.heap.size + 1 + 1) rfl (.tmp 21) (.tmp 22) 37 47 (.int .u32 0) 1 4 rfl Try.underlying37 info_u32 rfl (by decide) (by decide) (.slice B i cb) i (u32s (List.replicate i 4294967295)) rfl (HT.out.hi.alloc _) (some ⟨w1.heap.size, 0, none⟩) 1 1 [.int .u32 4294967295] rfl rfl (Rc.new_ _ #[.int .u32 4294967295] _ _ (by simp [World.setCell])) (by simp [Value.oneCell']) (by omega) (by have := HT.out.at_.2.2.2; simp at this ⊢; omega) ?_; intro v2 w2 hown hgr hat; obtain ⟨B1, cb1, rfl⟩ := own_slice hown; obtain ⟨hO2, hT2⟩ := HT.out.app1 _ 4294967295 hown hgr hat; obtain ⟨g0, g1, p0, p1⟩ := Ob.four hO2; rw [rep_snoc, rep_snoc] at hT2; have HT2 := Lib.hid hT2; clear hown hgr hat hT2)
        | fail)
      go_roundw
      case rel => exact ⟨i + 1, A1, ca1, B1, cb1, by omega, by go_num, HT2⟩
      case measure => simp [intOf]; omega
    · obtain rfl : i = d := by omega
      obtain ⟨c0, c1, z0, z1⟩ := Ob.four Hi.out.out
      obtain ⟨q0, q1, q2, q3⟩ := Ob.four Hi.out.res
      have hrf := (Hi.out.res.set 0 (.slice A i ca)).set 1 (.slice B i cb)
      have p0 := hrf.cell 0 (v := .slice A i ca) rfl
      have p1 := hrf.cell 1 (v := .slice B i cb) rfl
      go_wp2
      refine bodyPost_ret (v := .agg #[.slice A i ca, .slice B i cb]) (by simp [results, Try.results37, go_sem, p0, p1]) rfl ?_
      have a := Hi.out.at_
      have hsb : ∀ {m : Nat} {C : Option Addr} {cc : Nat} {xs : List Value}, wr.ownsRow (w.heap.size + 1 + 1) 47 1 (.slice C m cc) m xs → ((wr.setCell ⟨w.heap.size, 0, none⟩ (.slice A i ca)).setCell ⟨w.heap.size, 1, none⟩ (.slice B i cb)).ownsRow w.heap.size 47 1 (.slice C m cc) m xs := fun h =>
        own_base (own_fr h (S := fun k => k = w.heap.size) (((Fr.refl (fun k => k = w.heap.size) wr).setCell (p := ⟨w.heap.size, 0, none⟩) (.inl rfl) _).setCell (p := ⟨w.heap.size, 1, none⟩) (.inl rfl) _) (fun k hk (hb : k = w.heap.size) => by have := (h.lt k hk).1; omega)) (by omega)
      exact ⟨A, i, ca, B, i, cb, rfl, hsb Hi.out.lo, hsb Hi.out.hi, Hi.out.ne, (Hi.out.fr.setCell (p := ⟨w.heap.size, 0, none⟩) (.inr (Nat.le_refl _)) _).setCell (p := ⟨w.heap.size, 1, none⟩) (.inr (Nat.le_refl _)) _⟩
theorem rwhole_bad (d : Int) (h : ¬ (1 ≤ d ∧ d ≤ 6)) (w : World) :
    Calls Try.prog 37 #[.int .i64 d] w fun e w' => e = .returned (.agg #[.slice none 0 0, .slice none 0 0]) ∧ Fr No w w' := by
  have hO : Ob ((w.alloc (.cells #[.slice none 0 0, .slice none 0 0] 43)).alloc (.cells #[.slice none 0 0, .slice none 0 0] 43)) w.heap.size #[.slice none 0 0, .slice none 0 0] 43 := by (repeat (first | with_reducible assumption | with_reducible refine Ob.other ?_ (by first | (simp; done) | (simp; omega)) _ | ((with_reducible refine Ob.new_ _ _ _ _ ?_) <;> (simp; done)) | with_reducible refine Ob.alloc ?_ _ | with_reducible refine Ob.drew ?_ | with_reducible refine Ob.drewN ?_ _ | with_reducible refine Ob.no ?_ (by assumption)))
  have hO2 : Ob ((w.alloc (.cells #[.slice none 0 0, .slice none 0 0] 43)).alloc (.cells #[.slice none 0 0, .slice none 0 0] 43)) (w.heap.size + 1) #[.slice none 0 0, .slice none 0 0] 43 := by (repeat (first | with_reducible assumption | with_reducible refine Ob.other ?_ (by first | (simp; done) | (simp; omega)) _ | ((with_reducible refine Ob.new_ _ _ _ _ ?_) <;> (simp; done)) | with_reducible refine Ob.alloc ?_ _ | with_reducible refine Ob.drew ?_ | with_reducible refine Ob.drewN ?_ _ | with_reducible refine Ob.no ?_ (by assumption)))
  obtain ⟨q0, q1, q2, q3⟩ := Ob.four hO
  obtain ⟨c0, c1, z0, z1⟩ := Ob.four hO2
  have hrf := (hO.set 0 (.slice none 0 0)).set 1 (.slice none 0 0)
  have p0 := hrf.cell 0 (v := .slice none 0 0) rfl
  have p1 := hrf.cell 1 (v := .slice none 0 0) rfl
  go_enter Try.func37, Try.ntmps37
  go_wp2
  go_loop [4] (fun v => v = .int .i64 0) (fun _ => 0)
  case atStart => rfl
  case round =>
    obtain rfl := hrel
    have hg : d ≤ 0 ∨ (0 < d ∧ 6 < d) := by omega
    rcases hg with hg | ⟨hg1, hg2⟩
    all_goals
      go_wp2
      refine bodyPost_ret (v := .agg #[.slice none 0 0, .slice none 0 0]) (by simp [results, Try.results37, go_sem, p0, p1, q0, q1]) rfl ?_
      refine ⟨rfl, ?_⟩
      first
        | ((repeat (first | with_reducible exact Fr.refl _ _ | with_reducible refine Fr.setCell ?_ (.inr (by first | (simp; done) | (simp; omega))) _ | with_reducible refine Fr.alloc ?_ _ | with_reducible refine Fr.drew ?_ | with_reducible refine Fr.drewN ?_ _ | with_reducible refine Fr.tr ?_ (by assumption))); done)
        | exact ((((Fr.refl No w).alloc _).alloc _).setCell (p := ⟨w.heap.size, 0, none⟩) (.inr (Nat.le_refl _)) _).setCell (p := ⟨w.heap.size, 1, none⟩) (.inr (Nat.le_refl _)) _
end Go.Proofs.Ytifpigcgkpmheaa.Kw08
/- Layer 8, the document's: the box of those with some coordinates. -/
namespace Go.Proofs.Ytifpigcgkpmheaa.Kx08
open Go.RowKit Go.Proofs.Ytifpigcgkpmheaa.Pk08 Go.Proofs.Ytifpigcgkpmheaa.Pq08 Go.Proofs.Ytifpigcgkpmheaa.Base Go.Proofs.Ytifpigcgkpmheaa.App Go.Proofs.Ytifpigcgkpmheaa.Str Go.Proofs.Ytifpigcgkpmheaa.Ky Go.Proofs.Ytifpigcgkpmheaa.Iv Go.Proofs.Ytifpigcgkpmheaa.Bx Go.Proofs.Ytifpigcgkpmheaa.Ki08 Go.Proofs.Ytifpigcgkpmheaa.Kj08 Go.Proofs.Ytifpigcgkpmheaa.Kr08 Go.Proofs.Ytifpigcgkpmheaa.Kw08
set_option linter.unusedVariables false
set_option linter.unusedSimpArgs false
/-- What holds from round to round: the result's place, the box, its two rows. -/
structure Rn (w wr : World) (g s t d cs ct : Nat) (xs : List Int) (ks : List Nat) (i : Nat) : Prop where
  ok : okP d xs i = true
  res : Ob wr w.heap.size #[.slice none 0 0, .slice none 0 0] 43
  box : Ob wr g #[.slice (some ⟨s, 0, none⟩) d cs, .slice (some ⟨t, 0, none⟩) d ct] 43
  lo : wr.ownsRow (w.heap.size + 1) 47 1 (.slice (some ⟨s, 0, none⟩) d cs) d (u32s (setP (List.replicate d 0) xs ks i))
  hi : wr.ownsRow (w.heap.size + 1) 47 1 (.slice (some ⟨t, 0, none⟩) d ct) d (u32s (setP (List.replicate d 4294967295) xs ks i))
  ne : s ≠ t ∧ s < g ∧ t < g
  fr : Fr No w wr
theorem Rn.drewN {w wr : World} {g s t d cs ct : Nat} {xs : List Int} {ks : List Nat} {i : Nat} (h : Rn w wr g s t d cs ct xs ks i) (n : Nat) : Rn w (wr.drewN n) g s t d cs ct xs ks i :=
  ⟨h.ok, h.res.drewN n, h.box.drewN n, own_fr h.lo ((Fr.refl No wr).drewN n) (fun _ _ x => x), own_fr h.hi ((Fr.refl No wr).drewN n) (fun _ _ x => x), h.ne, h.fr.drewN n⟩
theorem Rn.drew {w wr : World} {g s t d cs ct : Nat} {xs : List Int} {ks : List Nat} {i : Nat} (h : Rn w wr g s t d cs ct xs ks i) : Rn w wr.drew g s t d cs ct xs ks i :=
  ⟨h.ok, h.res.drew, h.box.drew, h.lo.drew, h.hi.drew, h.ne, h.fr.drew⟩
theorem Rn.next {w wr : World} {g s t d cs ct : Nat} {xs : List Int} {ks : List Nat} {i m y : Nat} (h : Rn w wr g s t d cs ct xs ks i) (hx : xs.getD i 0 = (m : Int)) (hk : ks.getD i 0 = y) (h1 : prev xs i < xs.getD i 0) (h2 : xs.getD i 0 < d) :
    Rn w ((wr.setCell ⟨s, m, none⟩ (.int .u32 (y : Int))).setCell ⟨t, m, none⟩ (.int .u32 (y : Int))) g s t d cs ct xs ks (i + 1) := by
  obtain ⟨ne1, ne2, ne3⟩ := h.ne
  have ls := (h.lo.lt s rfl).1
  have lt' := (h.hi.lt t rfl).1
  refine ⟨?_, ?_, ?_, ?_, ?_, h.ne, ?_⟩
  · simp only [okP, Bool.and_eq_true, decide_eq_true_eq]
    exact ⟨h.ok, h1, h2⟩
  · exact (h.res.other (p := ⟨s, m, none⟩) (by show ¬ (w.heap.size = s); omega) _).other (p := ⟨t, m, none⟩) (by show ¬ (w.heap.size = t); omega) _
  · exact (h.box.other (p := ⟨s, m, none⟩) (by show ¬ (g = s); omega) _).other (p := ⟨t, m, none⟩) (by show ¬ (g = t); omega) _
  · have h0 := (h.lo.stored m (.int .u32 (y : Int))).1
    rw [u32s_set] at h0
    have e : setP (List.replicate d 0) xs ks (i + 1) = (setP (List.replicate d 0) xs ks i).set m y := by simp only [setP]; rw [hx, hk, Int.toNat_natCast]
    rw [e]
    exact own_fr h0 (S := fun k => k = t) ((Fr.refl (fun k => k = t) _).setCell (p := ⟨t, m, none⟩) (.inl rfl) _) (fun k hk (hb : k = t) => by simp [Value.ownBlock] at hk; omega)
  · have h0 := own_fr h.hi (S := fun k => k = s) ((Fr.refl (fun k => k = s) _).setCell (p := ⟨s, m, none⟩) (.inl rfl) (.int .u32 (y : Int))) (fun k hk (hb : k = s) => by simp [Value.ownBlock] at hk; omega)
    have h1 := (h0.stored m (.int .u32 (y : Int))).1
    rw [u32s_set] at h1
    have e : setP (List.replicate d 4294967295) xs ks (i + 1) = (setP (List.replicate d 4294967295) xs ks i).set m y := by simp only [setP]; rw [hx, hk, Int.toNat_natCast]
    rw [e]
    exact h1
  · exact ((h.fr.setCell (p := ⟨s, m, none⟩) (.inr (by show w.heap.size ≤ s; omega)) _).setCell (p := ⟨t, m, none⟩) (.inr (by show w.heap.size ≤ t; omega)) _)
theorem own_some {w : World} {base e n c : Nat} {A : Option Addr} {xs : List Value} (h : w.ownsRow base e 1 (.slice A n c) n xs) (hn : 0 < n) : ∃ s, A = some ⟨s, 0, none⟩ := by
  rcases h.2 with ⟨h1, h2⟩ | ⟨g, cap, cur, h1, _⟩
  · omega
  · injection h1 with h1; exact ⟨g, h1⟩
section
variable {w : World} {A B : Option Addr} {n m cn cm : Nat} {xs : List Int} {ks : List Nat}
end
end Go.Proofs.Ytifpigcgkpmheaa.Kx08
/- Layer 8, the document's: what two boxes have both. -/
namespace Go.Proofs.Ytifpigcgkpmheaa.Ky08
open Go.RowKit Go.Proofs.Ytifpigcgkpmheaa.Pk08 Go.Proofs.Ytifpigcgkpmheaa.Pq08 Go.Proofs.Ytifpigcgkpmheaa.Base Go.Proofs.Ytifpigcgkpmheaa.App Go.Proofs.Ytifpigcgkpmheaa.Str Go.Proofs.Ytifpigcgkpmheaa.Ky Go.Proofs.Ytifpigcgkpmheaa.Iv Go.Proofs.Ytifpigcgkpmheaa.Bx Go.Proofs.Ytifpigcgkpmheaa.As Go.Proofs.Ytifpigcgkpmheaa.Kh08 Go.Proofs.Ytifpigcgkpmheaa.Ki08 Go.Proofs.Ytifpigcgkpmheaa.Kj08 Go.Proofs.Ytifpigcgkpmheaa.Km08
set_option linter.unusedVariables false
set_option linter.unusedSimpArgs false
attribute [local go_sem ↓ high] builtin_app
/-- The first i put together. -/
def zipU (f : Nat → Nat → Nat) (a b : List Nat) (i : Nat) : List Nat := (List.range i).map (fun j => f (a.getD j 0) (b.getD j 0))
theorem zipU_succ (f : Nat → Nat → Nat) (a b : List Nat) (i : Nat) : zipU f a b i ++ [f (a.getD i 0) (b.getD i 0)] = zipU f a b (i + 1) := by
  simp [zipU, List.range_succ]
theorem zipU_all (f : Nat → Nat → Nat) (a b : List Nat) : zipU f a b a.length = zipL f a b := rfl
theorem zipU_lt (f : Nat → Nat → Nat) (hf : ∀ x y, x < 4294967296 → y < 4294967296 → f x y < 4294967296) {w : World} {A B : Option Addr} {n m c d : Nat} {a b : List Nat} (ha : Kv w A n c a) (hb : Kv w B m d b) (i : Nat) : ∀ x ∈ zipU f a b i, x < 4294967296 := by
  intro x hx
  obtain ⟨j, _, rfl⟩ := List.mem_map.1 hx
  exact hf _ _ (ha.ltD j) (hb.ltD j)
theorem cell_fr {S : Nat → Prop} {w w1 : World} {p : Addr} {v : Value} (h : w.cell? p = some v) (F : Fr S w w1) (hn : ¬ S p.block) : w1.cell? p = some v := by
  have hb := World.block_lt_of_cell? w _ h
  rw [World.cell?_of_block (w := w) (F.block _ hb hn)]; exact h
theorem cell_al {w : World} {p : Addr} {v : Value} (h : w.cell? p = some v) (o : Obj) : (w.alloc o).cell? p = some v := cell_fr h ((Fr.refl No w).alloc o) (fun x => x)
section
variable {w : World} {A B C D : Option Addr} {n m p q cn cm cp cq : Nat} {al ah bl bh : List Nat}
set_option maxHeartbeats 1600000 in
theorem rmeet_out (hal : Kv w A n cn al) (hah : Kv w B m cm ah) (hbl : Kv w C p cp bl) (hbh : Kv w D q cq bh) (h : ¬ (m = n ∧ p = n ∧ q = n)) :
    Calls Try.prog 25 #[.agg #[.slice A n cn, .slice B m cm], .agg #[.slice C p cp, .slice D q cq]] w
      (BoxRet w (meetLo al ah bl bh) (meetHi al ah bl bh) (.bool (meetIs al ah bl bh))) := by
  have hm := meet_none h hal hah hbl hbh
  have m1 : meetLo al ah bl bh = [] := by unfold meetLo; rw [hm]; rfl
  have m2 : meetHi al ah bl bh = [] := by unfold meetHi; rw [hm]; rfl
  rw [m1, m2, hm]
  have hOz : Ob (((w.alloc (.cells #[.slice A n cn, .slice B m cm] 43)).alloc (.cells #[.slice C p cp, .slice D q cq] 43)).alloc (.cells #[.slice none 0 0, .slice none 0 0] 43)) (w.heap.size + 1 + 1) #[.slice none 0 0, .slice none 0 0] 43 := by (repeat (first | with_reducible assumption | with_reducible refine Ob.other ?_ (by first | (simp; done) | (simp; omega)) _ | ((with_reducible refine Ob.new_ _ _ _ _ ?_) <;> (simp; done)) | with_reducible refine Ob.alloc ?_ _ | with_reducible refine Ob.drew ?_ | with_reducible refine Ob.drewN ?_ _ | with_reducible refine Ob.no ?_ (by assumption)))
  clear hm m1 m2 hal hah hbl hbh
  have hcase : ((m : Int) != n) = true ∨ (m = n ∧ ((p : Int) != n) = true) ∨ (m = n ∧ p = n ∧ ((q : Int) != n) = true) := by
    by_cases h1 : m = n
    · by_cases h2 : p = n
      · exact .inr (.inr ⟨h1, h2, bne_iff_ne.2 (fun x => h ⟨h1, h2, by omega⟩)⟩)
      · exact .inr (.inl ⟨h1, bne_iff_ne.2 (by omega)⟩)
    · exact .inl (bne_iff_ne.2 (by omega))
  clear h
  rcases hcase with h1 | ⟨rfl, h1⟩ | ⟨rfl, rfl, h1⟩
  all_goals
    go_enter Try.func25, Try.ntmps25
    go_wp2
    have q0 := hOz.cell 0 (v := .slice none 0 0) rfl
    have q1 := hOz.cell 1 (v := .slice none 0 0) rfl
    refine bodyPost_ret (v := .tuple #[.agg #[.slice none 0 0, .slice none 0 0], .bool false]) (by simp [results, Try.results25, go_sem, q0, q1]) rfl ?_
    exact ⟨_, 0, 0, _, 0, 0, rfl, Kv.none_ _, Kv.none_ _, by first | ((repeat (first | with_reducible exact Fr.refl _ _ | with_reducible refine Fr.setCell ?_ (.inr (by first | (simp; done) | (simp; omega))) _ | with_reducible refine Fr.alloc ?_ _ | with_reducible refine Fr.drew ?_ | with_reducible refine Fr.drewN ?_ _ | with_reducible refine Fr.tr ?_ (by assumption))); done) | exact ((((Fr.refl No w).alloc _).alloc _).alloc _).setCell (p := ⟨w.heap.size + 1 + 1, 0, none⟩) (.inr (by show w.heap.size ≤ w.heap.size + 1 + 1; omega)) _ |>.setCell (p := ⟨w.heap.size + 1 + 1, 1, none⟩) (.inr (by show w.heap.size ≤ w.heap.size + 1 + 1; omega)) _⟩
theorem cell_ad {w : World} {p : Addr} {v : Value} (h : w.cell? p = some v) (o : Obj) : ((w.alloc o).drew).cell? p = some v := cell_al h o
theorem own_not {w : World} {base e n k : Nat} {v : Value} {xs : List Value} (h : w.ownsRow base e 1 v n xs) (hk : k < base) : ¬ v.ownBlock = some k := fun hs => by have := (h.lt k hs).1; omega
theorem max_cast (x y : Nat) : max (x : Int) (y : Int) = ((max x y : Nat) : Int) := by omega
theorem min_cast (x y : Nat) : min (x : Int) (y : Int) = ((min x y : Nat) : Int) := by omega
/-- What holds from round to round. -/
structure Rm (w wr : World) (A B C D : Option Addr) (n cn cm cp cq : Nat) (al ah bl bh : List Nat) (i : Nat) (P : Option Addr) (cP : Nat) (Q : Option Addr) (cQ : Nat) : Prop where
  two : Two 43 47 w wr (w.heap.size + 1 + 1) (w.heap.size + 1 + 1 + 1) (w.heap.size + 1 + 1 + 1 + 1) P i cP (zipU max al bl i) Q i cQ (zipU min ah bh i)
  oa : Ob wr w.heap.size #[.slice A n cn, .slice B n cm] 43
  ob : Ob wr (w.heap.size + 1) #[.slice C n cp, .slice D n cq] 43
/-- Between the two statements of a round. -/
structure Mid (w wr : World) (A B C D : Option Addr) (n cn cm cp cq : Nat) (al ah bl bh : List Nat) (i : Nat) (P : Option Addr) (cP : Nat) (Q : Option Addr) (cQ : Nat) : Prop where
  two : Two 43 47 w wr (w.heap.size + 1 + 1) (w.heap.size + 1 + 1 + 1) (w.heap.size + 1 + 1 + 1 + 1) P (i + 1) cP (zipU max al bl (i + 1)) Q i cQ (zipU min ah bh i)
  oa : Ob wr w.heap.size #[.slice A n cn, .slice B n cm] 43
  ob : Ob wr (w.heap.size + 1) #[.slice C n cp, .slice D n cq] 43
section
variable {wr w1 : World} {i : Nat} {P P1 Q Q1 : Option Addr} {cP c1 cQ : Nat}
theorem far_cells {S : Nat → Prop} {W : World} {O : Obj} {B0 : Nat} (F : Fr S ((wr.alloc O).drew) W) (hS : ∀ b, b < B0 → ¬ S b) : ∀ b off v, b < B0 → wr.cell? ⟨b, off, none⟩ = some v → W.cell? ⟨b, off, none⟩ = some v :=
  fun b off v hb h => cell_fr (cell_ad h O) F (hS b hb)
theorem Rm.step0 (h : Rm w wr A B C D n cn cm cp cq al ah bl bh i P cP Q cQ) (O : Obj) {x y : Nat} (hx : Hid (al.getD i 0 = x)) (hy : Hid (bl.getD i 0 = y)) (hown : w1.ownsRow (w.heap.size + 1 + 1 + 1 + 1) 47 1 (.slice P1 (i + 1) c1) (i + 1) (u32s (zipU max al bl i) ++ [.int .u32 (max (x : Int) (y : Int))])) (hgr : ((wr.alloc O).drew).grownBy w1 (Value.slice P i cP).ownBlock)
    (hat : (Value.slice P1 (i + 1) c1).ownBlock = (Value.slice P i cP).ownBlock ∨ (Value.slice P1 (i + 1) c1).ownBlock = some ((wr.alloc O).drew).heap.size) :
    Ob w1 (w.heap.size + 1 + 1 + 1) #[.slice P i cP, .slice Q i cQ] 43 ∧ (∀ b off v, b < w.heap.size + 1 + 1 → wr.cell? ⟨b, off, none⟩ = some v → w1.cell? ⟨b, off, none⟩ = some v) ∧
      Mid w (w1.setCell ⟨w.heap.size + 1 + 1 + 1, 0, none⟩ (.slice P1 (i + 1) c1)) A B C D n cn cm cp cq al ah bl bh i P1 c1 Q cQ := by
  rw [max_cast] at hown
  have F := grown_fr hgr
  obtain ⟨h1, h2⟩ := h.two.app0d O _ hown hgr hat
  have hz := zipU_succ max al bl i
  rw [hx.out, hy.out] at hz
  rw [hz] at h2
  refine ⟨h1, far_cells F (fun b hb => own_not h.two.lo (by omega)), h2, ?_, ?_⟩
  · exact ((h.oa.alloc O).drew.fr F (own_not h.two.lo (by omega))).other (p := ⟨w.heap.size + 1 + 1 + 1, 0, none⟩) (show w.heap.size ≠ w.heap.size + 1 + 1 + 1 by omega) _
  · exact ((h.ob.alloc O).drew.fr F (own_not h.two.lo (by omega))).other (p := ⟨w.heap.size + 1 + 1 + 1, 0, none⟩) (show w.heap.size + 1 ≠ w.heap.size + 1 + 1 + 1 by omega) _
theorem Mid.step1 (h : Mid w wr A B C D n cn cm cp cq al ah bl bh i P cP Q cQ) (O : Obj) {x y : Nat} (hx : Hid (ah.getD i 0 = x)) (hy : Hid (bh.getD i 0 = y)) (hown : w1.ownsRow (w.heap.size + 1 + 1 + 1 + 1) 47 1 (.slice Q1 (i + 1) c1) (i + 1) (u32s (zipU min ah bh i) ++ [.int .u32 (min (x : Int) (y : Int))])) (hgr : ((wr.alloc O).drew).grownBy w1 (Value.slice Q i cQ).ownBlock)
    (hat : (Value.slice Q1 (i + 1) c1).ownBlock = (Value.slice Q i cQ).ownBlock ∨ (Value.slice Q1 (i + 1) c1).ownBlock = some ((wr.alloc O).drew).heap.size) :
    Ob w1 (w.heap.size + 1 + 1 + 1) #[.slice P (i + 1) cP, .slice Q i cQ] 43 ∧ (∀ b off v, b < w.heap.size + 1 + 1 → wr.cell? ⟨b, off, none⟩ = some v → w1.cell? ⟨b, off, none⟩ = some v) ∧
      Rm w (w1.setCell ⟨w.heap.size + 1 + 1 + 1, 1, none⟩ (.slice Q1 (i + 1) c1)) A B C D n cn cm cp cq al ah bl bh (i + 1) P cP Q1 c1 := by
  rw [min_cast] at hown
  have F := grown_fr hgr
  obtain ⟨h1, h2⟩ := h.two.app1d O _ hown hgr hat
  have hz := zipU_succ min ah bh i
  rw [hx.out, hy.out] at hz
  rw [hz] at h2
  refine ⟨h1, far_cells F (fun b hb => own_not h.two.hi (by omega)), h2, ?_, ?_⟩
  · exact ((h.oa.alloc O).drew.fr F (own_not h.two.hi (by omega))).other (p := ⟨w.heap.size + 1 + 1 + 1, 1, none⟩) (show w.heap.size ≠ w.heap.size + 1 + 1 + 1 by omega) _
  · exact ((h.ob.alloc O).drew.fr F (own_not h.two.hi (by omega))).other (p := ⟨w.heap.size + 1 + 1 + 1, 1, none⟩) (show w.heap.size + 1 ≠ w.heap.size + 1 + 1 + 1 by omega) _
end
set_option maxHeartbeats 3200000 in
theorem rmeet_in (hal : Kv w A n cn al) (hah : Kv w B n cm ah) (hbl : Kv w C n cp bl) (hbh : Kv w D n cq bh) (hn : n ≤ 1000000) :
    Calls Try.prog 25 #[.agg #[.slice A n cn, .slice B n cm], .agg #[.slice C n cp, .slice D n cq]] w
      (BoxRet w (meetLo al ah bl bh) (meetHi al ah bl bh) (.bool (meetIs al ah bl bh))) := by
  have Hal := Lib.hid hal
  have Hah := Lib.hid hah
  have Hbl := Lib.hid hbl
  have Hbh := Lib.hid hbh
  clear hal hah hbl hbh
  go_enter Try.func25, Try.ntmps25
  go_wp2
  go_loopg [8] n (fun k v wr => ∃ (i : Nat) (P : Option Addr) (cP : Nat) (Q : Option Addr) (cQ : Nat), i ≤ n ∧ k = n - i ∧ v = .int .i64 i ∧ Hid (Rm w wr A B C D n cn cm cp cq al ah bl bh i P cP Q cQ))
  case atStart => exact ⟨0, none, 0, none, 0, Nat.zero_le _, rfl, rfl, Lib.hid ⟨⟨by (repeat (first | with_reducible assumption | with_reducible refine Ob.other ?_ (by first | (simp; done) | (simp; omega)) _ | ((with_reducible refine Ob.new_ _ _ _ _ ?_) <;> (simp; done)) | with_reducible refine Ob.alloc ?_ _ | with_reducible refine Ob.drew ?_ | with_reducible refine Ob.drewN ?_ _ | with_reducible refine Ob.no ?_ (by assumption))), by (repeat (first | with_reducible assumption | with_reducible refine Ob.other ?_ (by first | (simp; done) | (simp; omega)) _ | ((with_reducible refine Ob.new_ _ _ _ _ ?_) <;> (simp; done)) | with_reducible refine Ob.alloc ?_ _ | with_reducible refine Ob.drew ?_ | with_reducible refine Ob.drewN ?_ _ | with_reducible refine Ob.no ?_ (by assumption))), World.ownsRow_nil _ _ _ _, World.ownsRow_nil _ _ _ _, fun g h => by simp [Value.ownBlock] at h, by (repeat (first | with_reducible exact Fr.refl _ _ | with_reducible refine Fr.setCell ?_ (.inr (by first | (simp; done) | (simp; omega))) _ | with_reducible refine Fr.alloc ?_ _ | with_reducible refine Fr.drew ?_ | with_reducible refine Fr.drewN ?_ _ | with_reducible refine Fr.tr ?_ (by assumption))), ⟨by omega, by omega, by omega, by simp⟩⟩, by (repeat (first | with_reducible assumption | with_reducible refine Ob.other ?_ (by first | (simp; done) | (simp; omega)) _ | ((with_reducible refine Ob.new_ _ _ _ _ ?_) <;> (simp; done)) | with_reducible refine Ob.alloc ?_ _ | with_reducible refine Ob.drew ?_ | with_reducible refine Ob.drewN ?_ _ | with_reducible refine Ob.no ?_ (by assumption))), by (repeat (first | with_reducible assumption | with_reducible refine Ob.other ?_ (by first | (simp; done) | (simp; omega)) _ | ((with_reducible refine Ob.new_ _ _ _ _ ?_) <;> (simp; done)) | with_reducible refine Ob.alloc ?_ _ | with_reducible refine Ob.drew ?_ | with_reducible refine Ob.drewN ?_ _ | with_reducible refine Ob.no ?_ (by assumption)))⟩⟩
  case round =>
    obtain ⟨i, P, cP, Q, cQ, hi, hgk, rfl, Hi⟩ := hrel
    have Hgk := Lib.hid hgk
    clear hgk
    by_cases hlt : i < n
    · obtain ⟨ga, oa, rfl, ca0⟩ := Hal.out.get i (by rw [← Hal.out.len]; exact hlt)
      obtain ⟨gb, ob, rfl, cb0⟩ := Hah.out.get i (by rw [← Hah.out.len]; exact hlt)
      obtain ⟨gc, oc, rfl, cc0⟩ := Hbl.out.get i (by rw [← Hbl.out.len]; exact hlt)
      obtain ⟨gd, od, rfl, cd0⟩ := Hbh.out.get i (by rw [← Hbh.out.len]; exact hlt)
      have na : ga < w.heap.size := World.block_lt_of_cell? w _ ca0
      have nb : gb < w.heap.size := World.block_lt_of_cell? w _ cb0
      have nc : gc < w.heap.size := World.block_lt_of_cell? w _ cc0
      have nd : gd < w.heap.size := World.block_lt_of_cell? w _ cd0
      generalize hx : al.getD i 0 = x at *
      generalize hy : bl.getD i 0 = y at *
      generalize hu : ah.getD i 0 = u at *
      generalize hv : bh.getD i 0 = v at *
      have Hx := Lib.hid hx
      have Hy := Lib.hid hy
      have Hu := Lib.hid hu
      have Hv := Lib.hid hv
      clear hx hy hu hv
      have Hcb := Lib.hid cb0
      have Hcd := Lib.hid cd0
      have ca := cell_fr ca0 Hi.out.two.fr (fun x => x)
      have cc := cell_fr cc0 Hi.out.two.fr (fun x => x)
      clear ca0 cb0 cc0 cd0
      have m0 : w.heap.size < w.heap.size + 1 + 1 := by omega
      have m1 : ga < w.heap.size + 1 + 1 := by omega
      have m2 : w.heap.size + 1 < w.heap.size + 1 + 1 := by omega
      have m3 : gc < w.heap.size + 1 + 1 := by omega
      have m4 : gb < w.heap.size + 1 + 1 := by omega
      have m5 : gd < w.heap.size + 1 + 1 := by omega
      have n0 : w.heap.size ≠ w.heap.size + 1 + 1 + 1 := by omega
      have n1 : ga ≠ w.heap.size + 1 + 1 + 1 := by omega
      have n2 : w.heap.size + 1 ≠ w.heap.size + 1 + 1 + 1 := by omega
      have n3 : gc ≠ w.heap.size + 1 + 1 + 1 := by omega
      have n4 : gb ≠ w.heap.size + 1 + 1 + 1 := by omega
      have n5 : gd ≠ w.heap.size + 1 + 1 + 1 := by omega
      obtain ⟨c0, c1, z0, z1⟩ := Ob.four Hi.out.two.out
      have a0 := (Ob.four Hi.out.oa).1
      have b0 := (Ob.four Hi.out.ob).1
      have hd0 : wr.drew.cell? ⟨w.heap.size + 1 + 1 + 1, 0, none⟩ = some (.slice P i cP) := c0
      have hd1 : ∀ o, ((wr.alloc o).drew).cell? ⟨w.heap.size + 1 + 1 + 1, 0, none⟩ = some (.slice P i cP) := fun o => cell_ad c0 o
      have hd2 : ∀ o, (wr.alloc o).cell? ⟨w.heap.size + 1 + 1 + 1, 0, none⟩ = some (.slice P i cP) := fun o => cell_al c0 o
      obtain ⟨P1, cP1, w1, hrun, hown, hgr, hat⟩ := app_eq (P := Try.prog) (w := (wr.alloc (.cells #[.int .u32 (max (x : Int) (y : Int))] 47)).drew) (w.heap.size + 1 + 1 + 1 + 1) 37 47 (.int .u32 0) 1 4 Try.underlying37 info_u32 rfl (by decide) (by decide) (Hi.out.two.lo.alloc _).drew (some ⟨wr.heap.size, 0, none⟩) 1 1 [.int .u32 (max (x : Int) (y : Int))] rfl (Rc.new_ _ #[.int .u32 (max (x : Int) (y : Int))] _ _ rfl) (by simp [Value.oneCell']) (by omega) (by have := Hi.out.two.at_.2.2.2; simp; omega)
      obtain ⟨hO1, hk, hM⟩ := Hi.out.step0 _ Hx Hy hown hgr hat
      obtain ⟨e0, e1, f0, f1⟩ := Ob.four hO1
      have HM := Lib.hid hM
      clear hown hgr hat hM hk
      go_upto_region 8 with (fail)
      go_cut [] (fun wx => ∃ (P1 : Option Addr) (cP1 : Nat), Hid (Mid w wx (some ⟨ga, oa, none⟩) (some ⟨gb, ob, none⟩) (some ⟨gc, oc, none⟩) (some ⟨gd, od, none⟩) n cn cm cp cq al ah bl bh i P1 cP1 Q cQ))
      case first =>
        go_big_region
        all_goals (go_wp2_with fail; go_meet; exact ⟨P1, cP1, HM⟩)
      case rest =>
        clear hd0 hd1 hd2 c0 c1 z0 z1 a0 b0 ca cc e0 e1 f0 f1 hO1 hrun HM
        obtain ⟨P1, cP1, HM⟩ := hcut
        generalize wc = W at *
        have cb := cell_fr Hcb.out HM.out.two.fr (fun x => x)
        have cd := cell_fr Hcd.out HM.out.two.fr (fun x => x)
        obtain ⟨c0, c1, z0, z1⟩ := Ob.four HM.out.two.out
        have a1 := (Ob.four HM.out.oa).2.1
        have b1 := (Ob.four HM.out.ob).2.1
        have hd0 : W.drew.cell? ⟨w.heap.size + 1 + 1 + 1, 1, none⟩ = some (.slice Q i cQ) := c1
        have hd1 : ∀ o, ((W.alloc o).drew).cell? ⟨w.heap.size + 1 + 1 + 1, 1, none⟩ = some (.slice Q i cQ) := fun o => cell_ad c1 o
        have hd2 : ∀ o, (W.alloc o).cell? ⟨w.heap.size + 1 + 1 + 1, 1, none⟩ = some (.slice Q i cQ) := fun o => cell_al c1 o
        obtain ⟨Q1, cQ1, w2, hrun, hown, hgr, hat⟩ := app_eq (P := Try.prog) (w := (W.alloc (.cells #[.int .u32 (min (u : Int) (v : Int))] 47)).drew) (w.heap.size + 1 + 1 + 1 + 1) 37 47 (.int .u32 0) 1 4 Try.underlying37 info_u32 rfl (by decide) (by decide) (HM.out.two.hi.alloc _).drew (some ⟨W.heap.size, 0, none⟩) 1 1 [.int .u32 (min (u : Int) (v : Int))] rfl (Rc.new_ _ #[.int .u32 (min (u : Int) (v : Int))] _ _ rfl) (by simp [Value.oneCell']) (by omega) (by have := HM.out.two.at_.2.2.2; simp; omega)
        obtain ⟨hO2, hk, hR⟩ := HM.out.step1 _ Hu Hv hown hgr hat
        obtain ⟨e0, e1, f0, f1⟩ := Ob.four hO2
        have HR := Lib.hid hR
        clear hown hgr hat hR hk
        go_wp2
        go_big_region
        all_goals
          clear hd0 hd1 hd2 c0 c1 z0 z1 a1 b1 cb cd e0 e1 f0 f1 hO2 HM Hcb Hcd hrun
          go_wp2
          go_roundg (n - (i + 1))
          case measure => rw [Hgk.out]; omega
          case rel => exact ⟨i + 1, P1, cP1, Q1, cQ1, by omega, rfl, by go_num, HR⟩
    · obtain rfl : i = n := by omega
      have hz1 : zipU max al bl i = zipL max al bl := by rw [Hal.out.len]; rfl
      have hz2 : zipU min ah bh i = zipL min ah bh := by rw [Hah.out.len]; rfl
      have hl1 : ∀ x ∈ zipL max al bl, x < 4294967296 := zipL_lt max max_lt Hal.out Hbl.out
      have hl2 : ∀ x ∈ zipL min ah bh, x < 4294967296 := zipL_lt min min_lt Hah.out Hbh.out
      have ho1 := Hi.out.two.lo
      have ho2 := Hi.out.two.hi
      rw [hz1] at ho1
      rw [hz2] at ho2
      have k1 := Kv.of_own ho1 hl1
      have k2 := Kv.of_own ho2 hl2
      have Hm := Lib.hid (show meetIs al ah bl bh = decide (chkB (zipL max al bl) (zipL min ah bh) i = 0) by
        unfold meetIs
        have e0 := Hal.out.len
        have e1 : ah.length = al.length := by rw [← Hal.out.len, ← Hah.out.len]
        have e2 : bl.length = al.length := by rw [← Hal.out.len, ← Hbl.out.len]
        have e3 : bh.length = al.length := by rw [← Hal.out.len, ← Hbh.out.len]
        rw [e0]
        simp [e1, e2, e3])
      clear hz1 hz2 hl1 hl2
      obtain ⟨c0, c1, z0, z1⟩ := Ob.four Hi.out.two.out
      have hB := Hi.out.two.at_
      have hS : ∀ {V : World} {C : Option Addr} {q c : Nat} {xs zs : List Nat} {u v : Value}, wr.ownsRow (w.heap.size + 1 + 1 + 1 + 1) 47 1 (.slice C q c) q (u32s xs) → Kv V C q c zs → Kv ((V.setCell ⟨w.heap.size + 1 + 1, 0, none⟩ u).setCell ⟨w.heap.size + 1 + 1, 1, none⟩ v) C q c zs := fun {V C q c xs zs u v} ho h =>
        h.fr (S := fun k => k = w.heap.size + 1 + 1) (((Fr.refl (fun k => k = w.heap.size + 1 + 1) V).setCell (p := ⟨w.heap.size + 1 + 1, 0, none⟩) (.inl rfl) _).setCell (p := ⟨w.heap.size + 1 + 1, 1, none⟩) (.inl rfl) _) (fun b off e (hb : b = w.heap.size + 1 + 1) => by
          subst hb
          rw [e] at ho
          have := (ho.lt (w.heap.size + 1 + 1) rfl).1
          omega)
      cases hck : decide (chkB (zipL max al bl) (zipL min ah bh) i = 0) with
      | true =>
        rw [hck] at Hm
        have hk := Lib.hid (of_decide_eq_true hck)
        clear hck
        go_wp2_with (go_at_call 23; ((with_reducible refine (rcheckBox_any _ k1 k2).mono ?_); rintro e w5 ⟨rfl, hf5⟩; rw [hk.out]; obtain ⟨d0, d1, d2, d3⟩ := Ob.four (Hi.out.two.out.no hf5); obtain ⟨q0, q1, q2, q3⟩ := Ob.four (Hi.out.two.res.no hf5)))
        have hrf := ((Hi.out.two.res.no hf5).set 0 (.slice P i cP)).set 1 (.slice Q i cQ)
        have p0 := hrf.cell 0 (v := .slice P i cP) rfl
        have p1 := hrf.cell 1 (v := .slice Q i cQ) rfl
        refine bodyPost_ret (v := .tuple #[.agg #[.slice P i cP, .slice Q i cQ], .bool true]) (by simp [results, Try.results25, go_sem, p0, p1]) rfl ?_
        have m1 : meetLo al ah bl bh = zipL max al bl := by unfold meetLo; rw [Hm.out]; rfl
        have m2 : meetHi al ah bl bh = zipL min ah bh := by unfold meetHi; rw [Hm.out]; rfl
        rw [Hm.out, m1, m2]
        exact ⟨_, i, cP, _, i, cQ, rfl, hS ho1 (k1.no hf5), hS ho2 (k2.no hf5), (((Hi.out.two.fr.tr hf5).setCell (p := ⟨w.heap.size + 1 + 1, 0, none⟩) (.inr (by show w.heap.size ≤ w.heap.size + 1 + 1; omega)) _).setCell (p := ⟨w.heap.size + 1 + 1, 1, none⟩) (.inr (by show w.heap.size ≤ w.heap.size + 1 + 1; omega)) _)⟩
      | false =>
        rw [hck] at Hm
        have hk := Lib.hid (chkB_one (of_decide_eq_false hck))
        clear hck
        go_wp2_with (go_at_call 23; ((with_reducible refine (rcheckBox_any _ k1 k2).mono ?_); rintro e w5 ⟨rfl, hf5⟩; rw [hk.out]; obtain ⟨d0, d1, d2, d3⟩ := Ob.four (Hi.out.two.out.no hf5); obtain ⟨q0, q1, q2, q3⟩ := Ob.four (Hi.out.two.res.no hf5)))
        have hrf := ((Hi.out.two.res.no hf5).set 0 (.slice none 0 0)).set 1 (.slice none 0 0)
        have p0 := hrf.cell 0 (v := .slice none 0 0) rfl
        have p1 := hrf.cell 1 (v := .slice none 0 0) rfl
        refine bodyPost_ret (v := .tuple #[.agg #[.slice none 0 0, .slice none 0 0], .bool false]) (by simp [results, Try.results25, go_sem, p0, p1, q0, q1]) rfl ?_
        have m1 : meetLo al ah bl bh = [] := by unfold meetLo; rw [Hm.out]; rfl
        have m2 : meetHi al ah bl bh = [] := by unfold meetHi; rw [Hm.out]; rfl
        rw [Hm.out, m1, m2]
        exact ⟨_, 0, 0, _, 0, 0, rfl, Kv.none_ _, Kv.none_ _, by
          first
            | exact (((Hi.out.two.fr.tr hf5).setCell (p := ⟨w.heap.size + 1 + 1, 0, none⟩) (.inr (by show w.heap.size ≤ w.heap.size + 1 + 1; omega)) _).setCell (p := ⟨w.heap.size + 1 + 1, 1, none⟩) (.inr (by show w.heap.size ≤ w.heap.size + 1 + 1; omega)) _)
            | exact Hi.out.two.fr.tr hf5⟩
theorem rmeet_any (hal : Kv w A n cn al) (hah : Kv w B m cm ah) (hbl : Kv w C p cp bl) (hbh : Kv w D q cq bh) (hn : n ≤ 1000000) :
    Calls Try.prog 25 #[.agg #[.slice A n cn, .slice B m cm], .agg #[.slice C p cp, .slice D q cq]] w
      (BoxRet w (meetLo al ah bl bh) (meetHi al ah bl bh) (.bool (meetIs al ah bl bh))) := by
  by_cases h : m = n ∧ p = n ∧ q = n
  · obtain ⟨rfl, rfl, rfl⟩ := h
    exact rmeet_in hal hah hbl hbh hn
  · exact rmeet_out hal hah hbl hbh h
end
end Go.Proofs.Ytifpigcgkpmheaa.Ky08
/- Layer 8, further: Whole and Partial of whatever they are given, the program's and the document's. -/
namespace Go.Proofs.Ytifpigcgkpmheaa.Ka08
open Go.RowKit Go.Proofs.Ytifpigcgkpmheaa.Pk08 Go.Proofs.Ytifpigcgkpmheaa.Pq08 Go.Proofs.Ytifpigcgkpmheaa.Base Go.Proofs.Ytifpigcgkpmheaa.App Go.Proofs.Ytifpigcgkpmheaa.Str Go.Proofs.Ytifpigcgkpmheaa.Ky Go.Proofs.Ytifpigcgkpmheaa.Iv Go.Proofs.Ytifpigcgkpmheaa.Bx Go.Proofs.Ytifpigcgkpmheaa.Kc08 Go.Proofs.Ytifpigcgkpmheaa.Ki08 Go.Proofs.Ytifpigcgkpmheaa.Kj08 Go.Proofs.Ytifpigcgkpmheaa.Kn08 Go.Proofs.Ytifpigcgkpmheaa.Ko08 Go.Proofs.Ytifpigcgkpmheaa.Kp08 Go.Proofs.Ytifpigcgkpmheaa.Kq08 Go.Proofs.Ytifpigcgkpmheaa.Kr08 Go.Proofs.Ytifpigcgkpmheaa.Kw08 Go.Proofs.Ytifpigcgkpmheaa.Kx08
set_option linter.unusedVariables false
set_option linter.unusedSimpArgs false
/-- The corners of the box of all points. -/
def wLo (d : Int) : List Nat := if 1 ≤ d ∧ d ≤ 6 then List.replicate d.toNat 0 else []
def wHi (d : Int) : List Nat := if 1 ≤ d ∧ d ≤ 6 then List.replicate d.toNat 4294967295 else []
/-- A box of two points is returned. -/
def BoxOne (w : World) (lo hi : List Nat) (e : Ending) (w' : World) : Prop :=
  ∃ A n c B m d, e = .returned (.agg #[.slice A n c, .slice B m d]) ∧ Kv w' A n c lo ∧ Kv w' B m d hi ∧ Fr No w w'
theorem wLo_in {d : Int} (h : 1 ≤ d ∧ d ≤ 6) : wLo d = List.replicate d.toNat 0 := by unfold wLo; rw [if_pos h]
theorem wHi_in {d : Int} (h : 1 ≤ d ∧ d ≤ 6) : wHi d = List.replicate d.toNat 4294967295 := by unfold wHi; rw [if_pos h]
theorem wLo_out {d : Int} (h : ¬ (1 ≤ d ∧ d ≤ 6)) : wLo d = [] := by unfold wLo; rw [if_neg h]
theorem wHi_out {d : Int} (h : ¬ (1 ≤ d ∧ d ≤ 6)) : wHi d = [] := by unfold wHi; rw [if_neg h]
theorem rwhole_any (d : Int) (w : World) : Calls Try.prog 37 #[.int .i64 d] w (BoxOne w (wLo d) (wHi d)) := by
  by_cases h : 1 ≤ d ∧ d ≤ 6
  · obtain ⟨k, rfl⟩ := Int.eq_ofNat_of_zero_le (show 0 ≤ d by omega)
    rw [wLo_in h, wHi_in h, Int.toNat_natCast]
    refine (rwhole_ok k (by omega) w).mono ?_
    rintro e w' ⟨A, n, ca, B, m, cb, rfl, h1, h2, _, hf⟩
    exact ⟨_, _, _, _, _, _, rfl, Kv.of_own h1 (by simp), Kv.of_own h2 (by simp), hf⟩
  · rw [wLo_out h, wHi_out h]
    refine (rwhole_bad d h w).mono ?_
    rintro e w' ⟨rfl, hf⟩
    exact ⟨_, _, _, _, _, _, rfl, Kv.none_ _, Kv.none_ _, hf⟩
/-- The box of those with some coordinates, or why there is none. -/
def pIn (d : Int) (xs : List Int) (ks : List Nat) : Prop := 1 ≤ d ∧ d ≤ 6 ∧ xs.length = ks.length
instance (d : Int) (xs : List Int) (ks : List Nat) : Decidable (pIn d xs ks) := inferInstanceAs (Decidable (_ ∧ _))
def pLo (d : Int) (xs : List Int) (ks : List Nat) : List Nat := if pIn d xs ks then partLo d.toNat xs ks else []
def pHi (d : Int) (xs : List Int) (ks : List Nat) : List Nat := if pIn d xs ks then partHi d.toNat xs ks else []
def pE (d : Int) (xs : List Int) (ks : List Nat) : Int := if pIn d xs ks then partE d.toNat xs else 1
theorem pE_rng (d : Int) (xs : List Int) (ks : List Nat) : pE d xs ks = 0 ∨ pE d xs ks = 1 := by
  unfold pE partE
  split
  · split
    · exact .inl rfl
    · exact .inr rfl
  · exact .inr rfl
theorem pE_in {d : Int} {xs : List Int} {ks : List Nat} (h : pE d xs ks = 0) : pIn d xs ks ∧ partE d.toNat xs = 0 := by
  unfold pE at h
  by_cases hp : pIn d xs ks
  · rw [if_pos hp] at h; exact ⟨hp, h⟩
  · rw [if_neg hp] at h; exact absurd h (by decide)
section
variable {w : World} {A B : Option Addr} {n m cn cm : Nat} {xs : List Int} {ks : List Nat}
end
end Go.Proofs.Ytifpigcgkpmheaa.Ka08
