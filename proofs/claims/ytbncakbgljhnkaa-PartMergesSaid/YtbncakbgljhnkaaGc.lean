/- Several parts in one text: each begins with its own sentence. -/
import Derived.Test.YtbncakbgljhnkaaGa
import Derived.Test.YtbncakbgljhnkaaGb
import Derived.Laws.CopyOwn
import Derived.Deep.RegionLaw
import Derived.IntWalk
/- Layer 8, further: Meet of any boxes. -/
namespace Go.Proofs.Ytbncakbgljhnkaa.Km08
open Go.RowKit Go.Proofs.Ytbncakbgljhnkaa.Pk08 Go.Proofs.Ytbncakbgljhnkaa.Base Go.Proofs.Ytbncakbgljhnkaa.App Go.Proofs.Ytbncakbgljhnkaa.Str Go.Proofs.Ytbncakbgljhnkaa.Ky Go.Proofs.Ytbncakbgljhnkaa.Kc08 Go.Proofs.Ytbncakbgljhnkaa.Kd08 Go.Proofs.Ytbncakbgljhnkaa.Ke08 Go.Proofs.Ytbncakbgljhnkaa.Ki08 Go.Proofs.Ytbncakbgljhnkaa.Kj08
set_option linter.unusedVariables false
set_option linter.unusedSimpArgs false
section
variable {w : World} {A B C D : Option Addr} {n m p q cn cm cp cq : Nat} {al ah bl bh : List Nat}
theorem meet_none (h : ¬ (m = n ∧ p = n ∧ q = n)) (hal : Kv w A n cn al) (hah : Kv w B m cm ah) (hbl : Kv w C p cp bl) (hbh : Kv w D q cq bh) : meetIs al ah bl bh = false := by
  unfold meetIs
  apply decide_eq_false
  rintro ⟨h1, h2, h3, _⟩
  rw [← hal.len] at h1 h2 h3
  rw [← hah.len] at h1
  rw [← hbl.len] at h2
  rw [← hbh.len] at h3
  exact h ⟨h1, h2, h3⟩
end
end Go.Proofs.Ytbncakbgljhnkaa.Km08
/- Layer 8, further: slices.Repeat of one coordinate; the box of all points. -/
namespace Go.Proofs.Ytbncakbgljhnkaa.Kn08
open Go.RowKit Go.Proofs.Ytbncakbgljhnkaa.Pk08 Go.Proofs.Ytbncakbgljhnkaa.Base Go.Proofs.Ytbncakbgljhnkaa.App Go.Proofs.Ytbncakbgljhnkaa.Str Go.Proofs.Ytbncakbgljhnkaa.Ky Go.Proofs.Ytbncakbgljhnkaa.Kc08 Go.Proofs.Ytbncakbgljhnkaa.Kd08 Go.Proofs.Ytbncakbgljhnkaa.Ke08 Go.Proofs.Ytbncakbgljhnkaa.Ki08 Go.Proofs.Ytbncakbgljhnkaa.Kj08
set_option linter.unusedVariables false
set_option linter.unusedSimpArgs false
theorem size_u32 : (Try.prog.info? 35).map (·.size) = some 1 := by kernel_rfl
theorem six {d : Nat} (h1 : 1 ≤ d) (h2 : d ≤ 6) : d = 1 ∨ d = 2 ∨ d = 3 ∨ d = 4 ∨ d = 5 ∨ d = 6 := by omega
def part (v d n : Nat) : List Value := u32s (List.replicate n v ++ List.replicate (d - n) 0)
theorem part_len (v d n : Nat) (h : n ≤ d) : (part v d n).length = d := by simp [part, u32s]; omega
theorem part_all (v d : Nat) : part v d d = u32s (List.replicate d v) := by simp [part]
theorem part_next (v d n m : Nat) (h : n + m ≤ d) : splice (part v d n) n (u32s (List.replicate m v)) = part v d (n + m) := by
  unfold splice part u32s
  rw [List.map_append, List.map_append, List.take_append_of_le_length (by simp), List.take_of_length_le (by simp), List.length_map, List.length_replicate, List.drop_append]
  simp only [List.map_replicate, List.drop_replicate, List.length_replicate]
  rw [show n - (n + m) = 0 by omega, show d - n - (n + m - n) = d - (n + m) by omega]
  simp [← List.append_assoc, List.replicate_append_replicate]
theorem part_src (v d n : Nat) (w : World) (g : Nat) (hg : w.heap[g]? = some (.cells (part v d n).toArray 35 (0, 0))) (h : min n (d - n) ≤ n) :
    ∀ j u, (u32s (List.replicate (min n (d - n)) v))[j]? = some u → w.cell? ((⟨g, 0, none⟩ : Addr).add j) = some u := by
  intro j u hj
  have hob : Ob w g (part v d n).toArray 35 := hg
  have hj' : j < min n (d - n) := by have := (List.getElem?_eq_some_iff.1 hj).1; simpa [u32s] using this
  have e : (⟨g, 0, none⟩ : Addr).add j = ⟨g, j, none⟩ := by unfold Addr.add; split <;> simp_all
  rw [e]
  apply hob.cell
  rw [List.getElem?_toArray, ← hj]
  unfold part u32s
  rw [List.map_append, List.getElem?_append_left (by simp; omega)]
  simp only [List.map_replicate, List.getElem?_replicate]
  rw [if_pos (by omega), if_pos hj']
section
variable {w : World} {A : Option Addr} {c : Nat}
end
end Go.Proofs.Ytbncakbgljhnkaa.Kn08
/- Layer 8, further: the box of all points. -/
namespace Go.Proofs.Ytbncakbgljhnkaa.Ko08
open Go.RowKit Go.Proofs.Ytbncakbgljhnkaa.Pk08 Go.Proofs.Ytbncakbgljhnkaa.Base Go.Proofs.Ytbncakbgljhnkaa.App Go.Proofs.Ytbncakbgljhnkaa.Str Go.Proofs.Ytbncakbgljhnkaa.Ky Go.Proofs.Ytbncakbgljhnkaa.Kc08 Go.Proofs.Ytbncakbgljhnkaa.Kd08 Go.Proofs.Ytbncakbgljhnkaa.Ke08 Go.Proofs.Ytbncakbgljhnkaa.Ki08 Go.Proofs.Ytbncakbgljhnkaa.Kj08 Go.Proofs.Ytbncakbgljhnkaa.Kn08
set_option linter.unusedVariables false
set_option linter.unusedSimpArgs false
/-- A box of one's own two rows is returned. -/
def OwnBox (w : World) (n : Nat) (lo hi : List Nat) (e : Ending) (w' : World) : Prop :=
  ∃ s t, s ≠ t ∧ e = .returned (.agg #[.slice (some ⟨s, 0, none⟩) n n, .slice (some ⟨t, 0, none⟩) n n]) ∧ w'.ownsRow w.heap.size 35 1 (.slice (some ⟨s, 0, none⟩) n n) n (u32s lo) ∧ w'.ownsRow w.heap.size 35 1 (.slice (some ⟨t, 0, none⟩) n n) n (u32s hi) ∧ Fr No w w'
theorem one_kv (W : World) : Kv (W.alloc (.cells #[.int .u32 4294967295] 35)) (some ⟨W.heap.size, 0, none⟩) 1 1 [4294967295] := by
  refine ⟨rfl, Nat.le_refl _, by decide, fun x hx => by simp at hx; subst hx; decide, fun _ => ⟨_, 0, rfl, fun i hi => ?_⟩⟩
  have hi0 : i = 0 := by simpa using hi
  subst hi0
  exact (Ob.new W #[.int .u32 4294967295] 35).cell 0 rfl
theorem own_set2 {w : World} {base t z n : Nat} {xs : List Value} (h : w.ownsRow base 35 1 (.slice (some ⟨t, 0, none⟩) n n) n xs) (hn : t ≠ z) (u v : Value) : ((w.setCell ⟨z, 0, none⟩ u).setCell ⟨z, 1, none⟩ v).ownsRow base 35 1 (.slice (some ⟨t, 0, none⟩) n n) n xs :=
  own_fr h (S := fun k => k = z) (((Fr.refl (fun k => k = z) w).setCell (p := ⟨z, 0, none⟩) (.inl rfl) u).setCell (p := ⟨z, 1, none⟩) (.inl rfl) v) (fun k hk (hb : k = z) => by
    simp [Value.ownBlock] at hk
    omega)
theorem mk_own (W : World) (base d : Nat) (hb : base ≤ W.heap.size) (h : d ≤ 6) : (W.alloc (.cells (madeCells #[.int .u32 0] d) 35)).ownsRow base 35 1 (.slice (some ⟨W.heap.size, 0, none⟩) d d) d (u32s (List.replicate d 0)) := by
  have h0 := own_mk W base 35 (.int .u32 0) rfl d hb (by omega)
  have e : List.replicate d (Value.int .u32 0) = u32s (List.replicate d 0) := by simp [u32s]
  rwa [e] at h0
end Go.Proofs.Ytbncakbgljhnkaa.Ko08
/- Layer 8, further: Whole of any number; short. -/
namespace Go.Proofs.Ytbncakbgljhnkaa.Kp08
open Go.RowKit Go.Proofs.Ytbncakbgljhnkaa.Pk08 Go.Proofs.Ytbncakbgljhnkaa.Base Go.Proofs.Ytbncakbgljhnkaa.App Go.Proofs.Ytbncakbgljhnkaa.Str Go.Proofs.Ytbncakbgljhnkaa.Ky Go.Proofs.Ytbncakbgljhnkaa.Kc08 Go.Proofs.Ytbncakbgljhnkaa.Kd08 Go.Proofs.Ytbncakbgljhnkaa.Ke08 Go.Proofs.Ytbncakbgljhnkaa.Ki08 Go.Proofs.Ytbncakbgljhnkaa.Kj08 Go.Proofs.Ytbncakbgljhnkaa.Kn08 Go.Proofs.Ytbncakbgljhnkaa.Ko08
set_option linter.unusedVariables false
set_option linter.unusedSimpArgs false
end Go.Proofs.Ytbncakbgljhnkaa.Kp08
/- Layer 8, further: Partial that may not be: its first guard. -/
namespace Go.Proofs.Ytbncakbgljhnkaa.Kq08
open Go.RowKit Go.Proofs.Ytbncakbgljhnkaa.Pk08 Go.Proofs.Ytbncakbgljhnkaa.Pq08 Go.Proofs.Ytbncakbgljhnkaa.Base Go.Proofs.Ytbncakbgljhnkaa.App Go.Proofs.Ytbncakbgljhnkaa.Str Go.Proofs.Ytbncakbgljhnkaa.Ky Go.Proofs.Ytbncakbgljhnkaa.Kc08 Go.Proofs.Ytbncakbgljhnkaa.Kd08 Go.Proofs.Ytbncakbgljhnkaa.Ke08 Go.Proofs.Ytbncakbgljhnkaa.Ki08 Go.Proofs.Ytbncakbgljhnkaa.Kj08 Go.Proofs.Ytbncakbgljhnkaa.Kn08 Go.Proofs.Ytbncakbgljhnkaa.Ko08
set_option linter.unusedVariables false
set_option linter.unusedSimpArgs false
end Go.Proofs.Ytbncakbgljhnkaa.Kq08
/- Layer 8's laws: short. -/
namespace Go.Proofs.Ytbncakbgljhnkaa.Ks08
open Go.RowKit Go.Proofs.Ytbncakbgljhnkaa.Pk08 Go.Proofs.Ytbncakbgljhnkaa.Base Go.Proofs.Ytbncakbgljhnkaa.App Go.Proofs.Ytbncakbgljhnkaa.Str Go.Proofs.Ytbncakbgljhnkaa.Ky
set_option linter.unusedVariables false
set_option linter.unusedSimpArgs false
def lens (vs : List (Option Addr × Nat × Nat)) (i : Nat) : Nat := (vs.getD i (none, 0, 0)).2.1
def allS (vs : List (Option Addr × Nat × Nat)) : Bool := vs.all (fun v => decide (v.2.1 ≤ 20))
end Go.Proofs.Ytbncakbgljhnkaa.Ks08
/- Layer 8, further: Partial (under way). -/
namespace Go.Proofs.Ytbncakbgljhnkaa.Kr08
open Go.RowKit Go.Proofs.Ytbncakbgljhnkaa.Pk08 Go.Proofs.Ytbncakbgljhnkaa.Pq08 Go.Proofs.Ytbncakbgljhnkaa.Base Go.Proofs.Ytbncakbgljhnkaa.App Go.Proofs.Ytbncakbgljhnkaa.Str Go.Proofs.Ytbncakbgljhnkaa.Ky Go.Proofs.Ytbncakbgljhnkaa.Iv Go.Proofs.Ytbncakbgljhnkaa.Kc08 Go.Proofs.Ytbncakbgljhnkaa.Kd08 Go.Proofs.Ytbncakbgljhnkaa.Ke08 Go.Proofs.Ytbncakbgljhnkaa.Ki08 Go.Proofs.Ytbncakbgljhnkaa.Kj08 Go.Proofs.Ytbncakbgljhnkaa.Kn08 Go.Proofs.Ytbncakbgljhnkaa.Ko08
set_option linter.unusedVariables false
set_option linter.unusedSimpArgs false
def partOk (d : Nat) (xs : List Int) : Bool := okP d xs xs.length
def partLo (d : Nat) (xs : List Int) (ks : List Nat) : List Nat := if partOk d xs = true then setP (List.replicate d 0) xs ks xs.length else []
def partHi (d : Nat) (xs : List Int) (ks : List Nat) : List Nat := if partOk d xs = true then setP (List.replicate d 4294967295) xs ks xs.length else []
def partE (d : Nat) (xs : List Int) : Int := if partOk d xs = true then 0 else 1
theorem part_no {d : Nat} {xs : List Int} {i : Nat} (hi : i < xs.length) (h : ¬ (prev xs i < xs.getD i 0 ∧ xs.getD i 0 < d)) : partOk d xs = false := by
  cases ho : partOk d xs with
  | false => rfl
  | true =>
    have := okP_le d xs xs.length (i + 1) (by omega) ho
    simp only [okP, Bool.and_eq_true, decide_eq_true_eq] at this
    exact absurd this.2 h
theorem setP_lt {base : List Nat} {xs : List Int} {ks : List Nat} (hb : ∀ x ∈ base, x < 4294967296) (hk : ∀ i, ks.getD i 0 < 4294967296) (i : Nat) : ∀ x ∈ setP base xs ks i, x < 4294967296 := by
  induction i with
  | zero => exact hb
  | succ i ih =>
    intro x hx
    simp only [setP] at hx
    rcases List.mem_or_eq_of_mem_set hx with h | h
    · exact ih x h
    · rw [h]; exact hk i
/-- What holds from round to round: the result's place, the box, its two rows. -/
structure Rnd (w wr : World) (g s t d : Nat) (xs : List Int) (ks : List Nat) (i : Nat) : Prop where
  ok : okP d xs i = true
  res : Ob wr w.heap.size #[.slice none 0 0, .slice none 0 0] 25
  box : Ob wr g #[.slice (some ⟨s, 0, none⟩) d d, .slice (some ⟨t, 0, none⟩) d d] 25
  lo : wr.ownsRow (w.heap.size + 1) 35 1 (.slice (some ⟨s, 0, none⟩) d d) d (u32s (setP (List.replicate d 0) xs ks i))
  hi : wr.ownsRow (w.heap.size + 1) 35 1 (.slice (some ⟨t, 0, none⟩) d d) d (u32s (setP (List.replicate d 4294967295) xs ks i))
  ne : s ≠ t ∧ s < g ∧ t < g
  fr : Fr No w wr
section
variable {w : World} {A B : Option Addr} {n cn cm : Nat} {xs : List Int} {ks : List Nat}
end
end Go.Proofs.Ytbncakbgljhnkaa.Kr08
/- Plain laws for layer 8: what two boxes have both; the box of those with some coordinates. No program in sight. -/
namespace Go.Proofs.Ytbncakbgljhnkaa.Pm08
open Go.Proofs.Ytbncakbgljhnkaa.Pk08 Go.Proofs.Ytbncakbgljhnkaa.Pq08 Go.Proofs.Ytbncakbgljhnkaa.Pl08 Go.Proofs.Ytbncakbgljhnkaa.Ki08 Go.Proofs.Ytbncakbgljhnkaa.Kj08 Go.Proofs.Ytbncakbgljhnkaa.Kr08
set_option linter.unusedVariables false
set_option linter.unusedSimpArgs false
theorem zipL_get (f : Nat → Nat → Nat) (a b : List Nat) (i : Nat) (h : i < a.length) : (zipL f a b).getD i 0 = f (a.getD i 0) (b.getD i 0) := by
  simp [zipL, List.getD_eq_getElem?_getD, List.getElem?_map, List.getElem?_range h]
theorem inB_iff (k lo hi : List Nat) : inB k lo hi = true ↔ (lo.length = k.length ∧ k.length = hi.length ∧ ∀ i, i < k.length → lo.getD i 0 ≤ k.getD i 0 ∧ k.getD i 0 ≤ hi.getD i 0) := by
  unfold inB
  rw [Bool.and_eq_true, leL_iff, leL_iff]
  constructor
  · rintro ⟨⟨h1, h2⟩, h3, h4⟩
    exact ⟨h1, h3, fun i hi' => ⟨h2 i (by omega), h4 i hi'⟩⟩
  · rintro ⟨h1, h2, h3⟩
    exact ⟨⟨h1, fun i hi' => (h3 i (by omega)).1⟩, h2, fun i hi' => (h3 i hi').2⟩
theorem list_eq {a b : List Nat} (hl : a.length = b.length) (h : ∀ i, i < a.length → a.getD i 0 = b.getD i 0) : a = b := by
  apply List.ext_getElem hl
  intro i h1 h2
  have := h i h1
  simpa [List.getD_eq_getElem?_getD, h1, h2] using this
theorem zipL_comm (f : Nat → Nat → Nat) (hf : ∀ x y, f x y = f y x) (a b : List Nat) (h : a.length = b.length) : zipL f a b = zipL f b a := by
  apply list_eq (by rw [zipL_len, zipL_len, h])
  intro i hi
  rw [zipL_len] at hi
  rw [zipL_get f a b i hi, zipL_get f b a i (by omega), hf]
theorem meetIs_iff (al ah bl bh : List Nat) : meetIs al ah bl bh = true ↔ (ah.length = al.length ∧ bl.length = al.length ∧ bh.length = al.length ∧ 1 ≤ al.length ∧ al.length ≤ 6 ∧ ∀ i, i < al.length → max (al.getD i 0) (bl.getD i 0) ≤ min (ah.getD i 0) (bh.getD i 0)) := by
  unfold meetIs
  rw [decide_eq_true_eq]
  constructor
  · rintro ⟨h1, h2, h3, h4⟩
    rw [chkB_zero, zipL_len, leL_iff, zipL_len, zipL_len] at h4
    obtain ⟨h5, h6, _, h7, h8⟩ := h4
    refine ⟨h1, h2, h3, by omega, by omega, fun i hi => ?_⟩
    have := h8 i hi
    rwa [zipL_get _ _ _ _ hi, zipL_get _ _ _ _ (by omega)] at this
  · rintro ⟨h1, h2, h3, h4, h5, h6⟩
    refine ⟨h1, h2, h3, ?_⟩
    rw [chkB_zero, zipL_len, leL_iff, zipL_len, zipL_len]
    refine ⟨by omega, by omega, rfl, by omega, fun i hi => ?_⟩
    rw [zipL_get _ _ _ _ hi, zipL_get _ _ _ _ (by omega)]
    exact h6 i hi
theorem chkB_parts {lo hi : List Nat} {n : Nat} (h : chkB lo hi n = 0) : 1 ≤ n ∧ n ≤ 6 ∧ lo.length = n ∧ hi.length = n ∧ ∀ i, i < n → lo.getD i 0 ≤ hi.getD i 0 := by
  rw [chkB_zero, leL_iff] at h
  obtain ⟨h1, h2, h3, h4, h5⟩ := h
  exact ⟨by omega, by omega, by omega, by omega, fun i hi => h5 i (by omega)⟩
theorem meet_comm {al ah bl bh : List Nat} {n : Nat} (ha : chkB al ah n = 0) (hb : chkB bl bh n = 0) : meetIs bl bh al ah = meetIs al ah bl bh ∧ meetLo bl bh al ah = meetLo al ah bl bh ∧ meetHi bl bh al ah = meetHi al ah bl bh := by
  obtain ⟨h1, h2, h3, h4, _⟩ := chkB_parts ha
  obtain ⟨_, _, h5, h6, _⟩ := chkB_parts hb
  have e : meetIs bl bh al ah = meetIs al ah bl bh := by
    rw [Bool.eq_iff_iff, meetIs_iff, meetIs_iff]
    constructor
    · rintro ⟨_, _, _, _, _, h⟩
      exact ⟨by omega, by omega, by omega, by omega, by omega, fun i hi => by have := h i (by omega); omega⟩
    · rintro ⟨_, _, _, _, _, h⟩
      exact ⟨by omega, by omega, by omega, by omega, by omega, fun i hi => by have := h i (by omega); omega⟩
  refine ⟨e, ?_, ?_⟩
  · unfold meetLo; rw [e, zipL_comm max Nat.max_comm bl al (by omega)]
  · unfold meetHi; rw [e, zipL_comm min Nat.min_comm bh ah (by omega)]
theorem meet_both {k al ah bl bh : List Nat} (ha : chkB al ah k.length = 0) (hb : chkB bl bh k.length = 0) :
    (meetIs al ah bl bh && inB k (meetLo al ah bl bh) (meetHi al ah bl bh)) = (inB k al ah && inB k bl bh) := by
  obtain ⟨h1, h2, h3, h4, h5⟩ := chkB_parts ha
  obtain ⟨_, _, h6, h7, h8⟩ := chkB_parts hb
  rw [Bool.eq_iff_iff, Bool.and_eq_true, Bool.and_eq_true, inB_iff k al ah, inB_iff k bl bh]
  constructor
  · rintro ⟨hm, hi⟩
    unfold meetLo meetHi at hi
    rw [if_pos hm, if_pos hm, inB_iff, zipL_len, zipL_len] at hi
    obtain ⟨i1, i2, i3⟩ := hi
    have hh : ∀ i, i < k.length → al.getD i 0 ≤ k.getD i 0 ∧ bl.getD i 0 ≤ k.getD i 0 ∧ k.getD i 0 ≤ ah.getD i 0 ∧ k.getD i 0 ≤ bh.getD i 0 := fun i hi => by
      have := i3 i hi
      rw [zipL_get _ _ _ _ (by omega), zipL_get _ _ _ _ (by omega)] at this
      omega
    exact ⟨⟨by omega, by omega, fun i hi => ⟨(hh i hi).1, (hh i hi).2.2.1⟩⟩, by omega, by omega, fun i hi => ⟨(hh i hi).2.1, (hh i hi).2.2.2⟩⟩
  · rintro ⟨⟨_, _, g1⟩, _, _, g2⟩
    have hm : meetIs al ah bl bh = true := (meetIs_iff al ah bl bh).2 ⟨by omega, by omega, by omega, by omega, by omega, fun i hi => by have := g1 i (by omega); have := g2 i (by omega); omega⟩
    refine ⟨hm, ?_⟩
    unfold meetLo meetHi
    rw [if_pos hm, if_pos hm, inB_iff, zipL_len, zipL_len]
    refine ⟨by omega, by omega, fun i hi => ?_⟩
    rw [zipL_get _ _ _ _ (by omega), zipL_get _ _ _ _ (by omega)]
    have := g1 i hi
    have := g2 i hi
    omega
theorem meet_one {k lo hi : List Nat} (h : chkB lo hi k.length = 0) : meetIs lo hi k k = inB k lo hi ∧ (meetIs lo hi k k = true → meetLo lo hi k k = k ∧ meetHi lo hi k k = k) := by
  obtain ⟨h1, h2, h3, h4, h5⟩ := chkB_parts h
  have e : meetIs lo hi k k = inB k lo hi := by
    rw [Bool.eq_iff_iff, meetIs_iff, inB_iff]
    constructor
    · rintro ⟨_, _, _, _, _, g⟩
      exact ⟨by omega, by omega, fun i hi => by have := g i (by omega); omega⟩
    · rintro ⟨_, _, g⟩
      exact ⟨by omega, by omega, by omega, by omega, by omega, fun i hi => by have := g i (by omega); omega⟩
  refine ⟨e, fun hm => ?_⟩
  have g := (meetIs_iff lo hi k k).1 hm
  obtain ⟨_, _, _, _, _, g⟩ := g
  unfold meetLo meetHi
  rw [if_pos hm, if_pos hm]
  refine ⟨list_eq (by rw [zipL_len]; omega) (fun i hi => ?_), list_eq (by rw [zipL_len]; omega) (fun i hi => ?_)⟩
  · rw [zipL_len] at hi
    rw [zipL_get _ _ _ _ hi]
    have := g i (by omega)
    omega
  · rw [zipL_len] at hi
    rw [zipL_get _ _ _ _ hi]
    have := g i (by omega)
    omega
theorem corner {lo hi : List Nat} {n : Nat} (h : chkB lo hi n = 0) : inB lo lo hi = true ∧ inB hi lo hi = true := by
  obtain ⟨h1, h2, h3, h4, h5⟩ := chkB_parts h
  exact ⟨(inB_iff _ _ _).2 ⟨rfl, by omega, fun i hi => ⟨Nat.le_refl _, h5 i (by omega)⟩⟩, (inB_iff _ _ _).2 ⟨by omega, rfl, fun i hi => ⟨h5 i (by omega), Nat.le_refl _⟩⟩⟩
theorem in_self (k : List Nat) : inB k k k = true := (inB_iff _ _ _).2 ⟨rfl, rfl, fun i hi => ⟨Nat.le_refl _, Nat.le_refl _⟩⟩
theorem rep_get (d v i : Nat) (h : i < d) : (List.replicate d v).getD i 0 = v := by simp [List.getD_eq_getElem?_getD, List.getElem?_replicate, h]
theorem in_whole {k : List Nat} {d : Nat} (hd : k.length = d) (hk : ∀ x ∈ k, x < 4294967296) : inB k (List.replicate d 0) (List.replicate d 4294967295) = true := by
  rw [inB_iff, List.length_replicate, List.length_replicate]
  refine ⟨by omega, by omega, fun i hi => ?_⟩
  rw [rep_get d _ i (by omega), rep_get d _ i (by omega)]
  have := hk (k.getD i 0) (by rw [List.getD_eq_getElem?_getD, List.getElem?_eq_getElem hi]; exact List.getElem_mem hi)
  omega
theorem set_get (l : List Nat) (m v j : Nat) (hm : m < l.length) : (l.set m v).getD j 0 = if m = j then v else l.getD j 0 := by
  rw [List.getD_eq_getElem?_getD, List.getElem?_set]
  by_cases h : m = j
  · subst h; rw [if_pos rfl, if_pos hm, if_pos rfl]; rfl
  · rw [if_neg h, if_neg h, ← List.getD_eq_getElem?_getD]
/-- Are the first i of the coordinates the point's? -/
def hasP (xs : List Int) (ks p : List Nat) : Nat → Bool
  | 0 => true
  | i + 1 => hasP xs ks p i && (p.getD (xs.getD i 0).toNat 0 == ks.getD i 0)
theorem okP_step {d : Int} {xs : List Int} {i : Nat} (h : okP d xs (i + 1) = true) : okP d xs i = true ∧ prev xs i < xs.getD i 0 ∧ xs.getD i 0 < d := by
  simp only [okP, Bool.and_eq_true, decide_eq_true_eq] at h
  exact ⟨h.1, h.2.1, h.2.2⟩
theorem setP_above (d : Nat) (base : List Nat) (hb : base.length = d) (xs : List Int) (ks : List Nat) : ∀ i, okP d xs i = true → ∀ m : Nat, prev xs i < m → (setP base xs ks i).getD m 0 = base.getD m 0
  | 0, _, m, _ => rfl
  | i + 1, h, m, hm => by
    obtain ⟨h1, h2, h3⟩ := okP_step h
    have h0 := prev_ge d xs i h1
    have hm' : xs.getD i 0 < m := hm
    simp only [setP]
    rw [set_get _ _ _ _ (by rw [setP_len]; omega), if_neg (by omega)]
    exact setP_above d base hb xs ks i h1 m (by omega)
theorem in_part (d : Nat) (xs : List Int) (ks p : List Nat) (hp : p.length = d) (hk : ∀ x ∈ p, x < 4294967296) : ∀ i, okP d xs i = true →
    ((∀ j, j < d → (setP (List.replicate d 0) xs ks i).getD j 0 ≤ p.getD j 0 ∧ p.getD j 0 ≤ (setP (List.replicate d 4294967295) xs ks i).getD j 0) ↔ hasP xs ks p i = true)
  | 0, _ => by
    simp only [setP, hasP, iff_true]
    intro j hj
    rw [rep_get _ _ _ hj, rep_get _ _ _ hj]
    have := hk (p.getD j 0) (by rw [List.getD_eq_getElem?_getD, List.getElem?_eq_getElem (by omega)]; exact List.getElem_mem _)
    omega
  | i + 1, h => by
    obtain ⟨h1, h2, h3⟩ := okP_step h
    have h0 := prev_ge d xs i h1
    have ih := in_part d xs ks p hp hk i h1
    obtain ⟨m, hm⟩ := Int.eq_ofNat_of_zero_le (show 0 ≤ xs.getD i 0 by omega)
    have hmd : m < d := by omega
    have a1 := setP_above d (List.replicate d 0) (by simp) xs ks i h1 m (by omega)
    have a2 := setP_above d (List.replicate d 4294967295) (by simp) xs ks i h1 m (by omega)
    rw [rep_get _ _ _ hmd] at a1 a2
    have hpm := hk (p.getD m 0) (by rw [List.getD_eq_getElem?_getD, List.getElem?_eq_getElem (by omega)]; exact List.getElem_mem _)
    simp only [setP, hasP, Bool.and_eq_true, beq_iff_eq]
    rw [← ih, hm, Int.toNat_natCast]
    constructor
    · intro g
      have gm := g m hmd
      rw [set_get _ _ _ _ (by rw [setP_len]; simpa using hmd), set_get _ _ _ _ (by rw [setP_len]; simpa using hmd), if_pos rfl, if_pos rfl] at gm
      refine ⟨fun j hj => ?_, by omega⟩
      by_cases e : m = j
      · subst e; omega
      · have := g j hj
        rw [set_get _ _ _ _ (by rw [setP_len]; simpa using hmd), set_get _ _ _ _ (by rw [setP_len]; simpa using hmd), if_neg e, if_neg e] at this
        exact this
    · rintro ⟨g, gm⟩ j hj
      rw [set_get _ _ _ _ (by rw [setP_len]; simpa using hmd), set_get _ _ _ _ (by rw [setP_len]; simpa using hmd)]
      by_cases e : m = j
      · subst e; rw [if_pos rfl, if_pos rfl]; omega
      · rw [if_neg e, if_neg e]; exact g j hj
theorem in_partial {d : Nat} {xs : List Int} {ks p : List Nat} (hp : p.length = d) (hk : ∀ x ∈ p, x < 4294967296) (ho : partE d xs = 0) : inB p (partLo d xs ks) (partHi d xs ks) = hasP xs ks p xs.length := by
  have hok : partOk d xs = true := by
    unfold partE at ho
    by_cases h : partOk d xs = true
    · exact h
    · rw [if_neg h] at ho; exact absurd ho (by decide)
  unfold partLo partHi
  rw [if_pos hok, if_pos hok, Bool.eq_iff_iff, inB_iff, setP_len, setP_len, List.length_replicate, List.length_replicate, ← in_part d xs ks p hp hk xs.length hok]
  constructor
  · rintro ⟨_, _, g⟩; exact fun j hj => g j (by omega)
  · intro g; exact ⟨by omega, by omega, fun j hj => g j (by omega)⟩
end Go.Proofs.Ytbncakbgljhnkaa.Pm08
/- Layer 8, the document's: the box of all points. -/
namespace Go.Proofs.Ytbncakbgljhnkaa.Kw08
open Go.RowKit Go.Proofs.Ytbncakbgljhnkaa.Pk08 Go.Proofs.Ytbncakbgljhnkaa.Pq08 Go.Proofs.Ytbncakbgljhnkaa.Base Go.Proofs.Ytbncakbgljhnkaa.App Go.Proofs.Ytbncakbgljhnkaa.Str Go.Proofs.Ytbncakbgljhnkaa.Ky Go.Proofs.Ytbncakbgljhnkaa.Bx Go.Proofs.Ytbncakbgljhnkaa.Ki08
set_option linter.unusedVariables false
set_option linter.unusedSimpArgs false
theorem rep_snoc (i x : Nat) : List.replicate i x ++ [x] = List.replicate (i + 1) x := by rw [List.replicate_succ']
set_option maxHeartbeats 1600000 in
theorem rwhole_ok (d : Nat) (h6 : d ≤ 6) (w : World) :
    Calls Try.prog 28 #[.int .i64 (d : Int)] w (OwnTwo 35 w (List.replicate d 0) (List.replicate d 4294967295)) := by
  go_enter Try.func28, Try.ntmps28
  go_wp2
  go_loopw [4] (fun v wr => ∃ (i : Nat) (A : Option Addr) (ca : Nat) (B : Option Addr) (cb : Nat), i ≤ d ∧ v = .int .i64 i ∧ Hid (Two 25 35 w wr w.heap.size (w.heap.size + 1) (w.heap.size + 1 + 1) A i ca (List.replicate i 0) B i cb (List.replicate i 4294967295))) (fun v _ => d - (intOf v).toNat)
  case atStart => exact ⟨0, none, 0, none, 0, Nat.zero_le _, rfl, Lib.hid ⟨by (repeat (first | with_reducible assumption | with_reducible refine Ob.other ?_ (by first | (simp; done) | (simp; omega)) _ | ((with_reducible refine Ob.new_ _ _ _ _ ?_) <;> (simp; done)) | with_reducible refine Ob.alloc ?_ _ | with_reducible refine Ob.drew ?_ | with_reducible refine Ob.drewN ?_ _ | with_reducible refine Ob.no ?_ (by assumption))), by (repeat (first | with_reducible assumption | with_reducible refine Ob.other ?_ (by first | (simp; done) | (simp; omega)) _ | ((with_reducible refine Ob.new_ _ _ _ _ ?_) <;> (simp; done)) | with_reducible refine Ob.alloc ?_ _ | with_reducible refine Ob.drew ?_ | with_reducible refine Ob.drewN ?_ _ | with_reducible refine Ob.no ?_ (by assumption))), World.ownsRow_nil _ _ _ _, World.ownsRow_nil _ _ _ _, fun g h => by simp [Value.ownBlock] at h, by (repeat (first | with_reducible exact Fr.refl _ _ | with_reducible refine Fr.setCell ?_ (.inr (by first | (simp; done) | (simp; omega))) _ | with_reducible refine Fr.alloc ?_ _ | with_reducible refine Fr.drew ?_ | with_reducible refine Fr.drewN ?_ _ | with_reducible refine Fr.tr ?_ (by assumption))), ⟨Nat.le_refl _, by omega, by omega, by simp⟩⟩⟩
  case round =>
    obtain ⟨i, A, ca, B, cb, hi, rfl, Hi⟩ := hrel
    by_cases hlt : i < d
    · obtain ⟨c0, c1, z0, z1⟩ := Ob.four Hi.out.out
      go_wp2_with (first
        | (at_builtin; refine app_list (w.heap.size + 1 + 1) rfl (.tmp 16) (.tmp 17) 23 35 (.int .u32 0) 1 4 rfl Try.underlying23 info_u32 rfl (by decide) (by decide) (.slice A i ca) i (u32s (List.replicate i 0)) rfl (Hi.out.lo.alloc _) (some ⟨wr.heap.size, 0, none⟩) 1 1 [.int .u32 0] rfl rfl (Rc.new wr #[.int .u32 0] _) (by simp [Value.oneCell']) (by omega) (by have := Hi.out.at_; simp; omega) ?_; intro v1 w1 hown hgr hat; obtain ⟨A1, ca1, rfl⟩ := own_slice hown; obtain ⟨hO1, hT1⟩ := Hi.out.app0 _ 0 hown hgr hat; obtain ⟨e0, e1, f0, f1⟩ := Ob.four hO1; have HT := Lib.hid hT1; clear hown hgr hat hT1)
        | (at_builtin; refine app_list (w.heap.size + 1 + 1) rfl (.tmp 21) (.tmp 22) 23 35 (.int .u32 0) 1 4 rfl Try.underlying23 info_u32 rfl (by decide) (by decide) (.slice B i cb) i (u32s (List.replicate i 4294967295)) rfl (HT.out.hi.alloc _) (some ⟨w1.heap.size, 0, none⟩) 1 1 [.int .u32 4294967295] rfl rfl (Rc.new_ _ #[.int .u32 4294967295] _ _ (by simp [World.setCell])) (by simp [Value.oneCell']) (by omega) (by have := HT.out.at_.2.2.2; simp at this ⊢; omega) ?_; intro v2 w2 hown hgr hat; obtain ⟨B1, cb1, rfl⟩ := own_slice hown; obtain ⟨hO2, hT2⟩ := HT.out.app1 _ 4294967295 hown hgr hat; obtain ⟨g0, g1, p0, p1⟩ := Ob.four hO2; rw [rep_snoc, rep_snoc] at hT2; have HT2 := Lib.hid hT2; clear hown hgr hat hT2)
        | fail)
      go_roundw
      case rel => exact ⟨i + 1, A1, ca1, B1, cb1, by omega, by go_num, HT2⟩
      case measure => simp [intOf]; omega
    · obtain rfl : i = d := by omega
      obtain ⟨c0, c1, z0, z1⟩ := Ob.four Hi.out.out
      obtain ⟨q0, q1, q2, q3⟩ := Ob.four Hi.out.res
      have hrf := (Hi.out.res.set 0 (.slice A i ca)).set 1 (.slice B i cb)
      have p0 := hrf.cell 0 (v := .slice A i ca) rfl
      have p1 := hrf.cell 1 (v := .slice B i cb) rfl
      go_wp2
      refine bodyPost_ret (v := .agg #[.slice A i ca, .slice B i cb]) (by simp [results, Try.results28, go_sem, p0, p1]) rfl ?_
      have a := Hi.out.at_
      have hsb : ∀ {m : Nat} {C : Option Addr} {cc : Nat} {xs : List Value}, wr.ownsRow (w.heap.size + 1 + 1) 35 1 (.slice C m cc) m xs → ((wr.setCell ⟨w.heap.size, 0, none⟩ (.slice A i ca)).setCell ⟨w.heap.size, 1, none⟩ (.slice B i cb)).ownsRow w.heap.size 35 1 (.slice C m cc) m xs := fun h =>
        own_base (own_fr h (S := fun k => k = w.heap.size) (((Fr.refl (fun k => k = w.heap.size) wr).setCell (p := ⟨w.heap.size, 0, none⟩) (.inl rfl) _).setCell (p := ⟨w.heap.size, 1, none⟩) (.inl rfl) _) (fun k hk (hb : k = w.heap.size) => by have := (h.lt k hk).1; omega)) (by omega)
      exact ⟨A, i, ca, B, i, cb, rfl, hsb Hi.out.lo, hsb Hi.out.hi, Hi.out.ne, (Hi.out.fr.setCell (p := ⟨w.heap.size, 0, none⟩) (.inr (Nat.le_refl _)) _).setCell (p := ⟨w.heap.size, 1, none⟩) (.inr (Nat.le_refl _)) _⟩
theorem rwhole_bad (d : Int) (h : ¬ (1 ≤ d ∧ d ≤ 6)) (w : World) :
    Calls Try.prog 28 #[.int .i64 d] w fun e w' => e = .returned (.agg #[.slice none 0 0, .slice none 0 0]) ∧ Fr No w w' := by
  have hO : Ob ((w.alloc (.cells #[.slice none 0 0, .slice none 0 0] 25)).alloc (.cells #[.slice none 0 0, .slice none 0 0] 25)) w.heap.size #[.slice none 0 0, .slice none 0 0] 25 := by (repeat (first | with_reducible assumption | with_reducible refine Ob.other ?_ (by first | (simp; done) | (simp; omega)) _ | ((with_reducible refine Ob.new_ _ _ _ _ ?_) <;> (simp; done)) | with_reducible refine Ob.alloc ?_ _ | with_reducible refine Ob.drew ?_ | with_reducible refine Ob.drewN ?_ _ | with_reducible refine Ob.no ?_ (by assumption)))
  have hO2 : Ob ((w.alloc (.cells #[.slice none 0 0, .slice none 0 0] 25)).alloc (.cells #[.slice none 0 0, .slice none 0 0] 25)) (w.heap.size + 1) #[.slice none 0 0, .slice none 0 0] 25 := by (repeat (first | with_reducible assumption | with_reducible refine Ob.other ?_ (by first | (simp; done) | (simp; omega)) _ | ((with_reducible refine Ob.new_ _ _ _ _ ?_) <;> (simp; done)) | with_reducible refine Ob.alloc ?_ _ | with_reducible refine Ob.drew ?_ | with_reducible refine Ob.drewN ?_ _ | with_reducible refine Ob.no ?_ (by assumption)))
  obtain ⟨q0, q1, q2, q3⟩ := Ob.four hO
  obtain ⟨c0, c1, z0, z1⟩ := Ob.four hO2
  have hrf := (hO.set 0 (.slice none 0 0)).set 1 (.slice none 0 0)
  have p0 := hrf.cell 0 (v := .slice none 0 0) rfl
  have p1 := hrf.cell 1 (v := .slice none 0 0) rfl
  go_enter Try.func28, Try.ntmps28
  go_wp2
  go_loop [4] (fun v => v = .int .i64 0) (fun _ => 0)
  case atStart => rfl
  case round =>
    obtain rfl := hrel
    have hg : d ≤ 0 ∨ (0 < d ∧ 6 < d) := by omega
    rcases hg with hg | ⟨hg1, hg2⟩
    all_goals
      go_wp2
      refine bodyPost_ret (v := .agg #[.slice none 0 0, .slice none 0 0]) (by simp [results, Try.results28, go_sem, p0, p1, q0, q1]) rfl ?_
      refine ⟨rfl, ?_⟩
      first
        | ((repeat (first | with_reducible exact Fr.refl _ _ | with_reducible refine Fr.setCell ?_ (.inr (by first | (simp; done) | (simp; omega))) _ | with_reducible refine Fr.alloc ?_ _ | with_reducible refine Fr.drew ?_ | with_reducible refine Fr.drewN ?_ _ | with_reducible refine Fr.tr ?_ (by assumption))); done)
        | exact ((((Fr.refl No w).alloc _).alloc _).setCell (p := ⟨w.heap.size, 0, none⟩) (.inr (Nat.le_refl _)) _).setCell (p := ⟨w.heap.size, 1, none⟩) (.inr (Nat.le_refl _)) _
end Go.Proofs.Ytbncakbgljhnkaa.Kw08
/- Layer 8, the document's: the box of those with some coordinates. -/
namespace Go.Proofs.Ytbncakbgljhnkaa.Kx08
open Go.RowKit Go.Proofs.Ytbncakbgljhnkaa.Pk08 Go.Proofs.Ytbncakbgljhnkaa.Pq08 Go.Proofs.Ytbncakbgljhnkaa.Base Go.Proofs.Ytbncakbgljhnkaa.App Go.Proofs.Ytbncakbgljhnkaa.Str Go.Proofs.Ytbncakbgljhnkaa.Ky Go.Proofs.Ytbncakbgljhnkaa.Iv Go.Proofs.Ytbncakbgljhnkaa.Bx Go.Proofs.Ytbncakbgljhnkaa.Ki08 Go.Proofs.Ytbncakbgljhnkaa.Kj08 Go.Proofs.Ytbncakbgljhnkaa.Kr08 Go.Proofs.Ytbncakbgljhnkaa.Kw08
set_option linter.unusedVariables false
set_option linter.unusedSimpArgs false
/-- What holds from round to round: the result's place, the box, its two rows. -/
structure Rn (w wr : World) (g s t d cs ct : Nat) (xs : List Int) (ks : List Nat) (i : Nat) : Prop where
  ok : okP d xs i = true
  res : Ob wr w.heap.size #[.slice none 0 0, .slice none 0 0] 25
  box : Ob wr g #[.slice (some ⟨s, 0, none⟩) d cs, .slice (some ⟨t, 0, none⟩) d ct] 25
  lo : wr.ownsRow (w.heap.size + 1) 35 1 (.slice (some ⟨s, 0, none⟩) d cs) d (u32s (setP (List.replicate d 0) xs ks i))
  hi : wr.ownsRow (w.heap.size + 1) 35 1 (.slice (some ⟨t, 0, none⟩) d ct) d (u32s (setP (List.replicate d 4294967295) xs ks i))
  ne : s ≠ t ∧ s < g ∧ t < g
  fr : Fr No w wr
theorem Rn.drewN {w wr : World} {g s t d cs ct : Nat} {xs : List Int} {ks : List Nat} {i : Nat} (h : Rn w wr g s t d cs ct xs ks i) (n : Nat) : Rn w (wr.drewN n) g s t d cs ct xs ks i :=
  ⟨h.ok, h.res.drewN n, h.box.drewN n, own_fr h.lo ((Fr.refl No wr).drewN n) (fun _ _ x => x), own_fr h.hi ((Fr.refl No wr).drewN n) (fun _ _ x => x), h.ne, h.fr.drewN n⟩
theorem Rn.drew {w wr : World} {g s t d cs ct : Nat} {xs : List Int} {ks : List Nat} {i : Nat} (h : Rn w wr g s t d cs ct xs ks i) : Rn w wr.drew g s t d cs ct xs ks i :=
  ⟨h.ok, h.res.drew, h.box.drew, h.lo.drew, h.hi.drew, h.ne, h.fr.drew⟩
theorem Rn.next {w wr : World} {g s t d cs ct : Nat} {xs : List Int} {ks : List Nat} {i m y : Nat} (h : Rn w wr g s t d cs ct xs ks i) (hx : xs.getD i 0 = (m : Int)) (hk : ks.getD i 0 = y) (h1 : prev xs i < xs.getD i 0) (h2 : xs.getD i 0 < d) :
    Rn w ((wr.setCell ⟨s, m, none⟩ (.int .u32 (y : Int))).setCell ⟨t, m, none⟩ (.int .u32 (y : Int))) g s t d cs ct xs ks (i + 1) := by
  obtain ⟨ne1, ne2, ne3⟩ := h.ne
  have ls := (h.lo.lt s rfl).1
  have lt' := (h.hi.lt t rfl).1
  refine ⟨?_, ?_, ?_, ?_, ?_, h.ne, ?_⟩
  · simp only [okP, Bool.and_eq_true, decide_eq_true_eq]
    exact ⟨h.ok, h1, h2⟩
  · exact (h.res.other (p := ⟨s, m, none⟩) (by show ¬ (w.heap.size = s); omega) _).other (p := ⟨t, m, none⟩) (by show ¬ (w.heap.size = t); omega) _
  · exact (h.box.other (p := ⟨s, m, none⟩) (by show ¬ (g = s); omega) _).other (p := ⟨t, m, none⟩) (by show ¬ (g = t); omega) _
  · have h0 := (h.lo.stored m (.int .u32 (y : Int))).1
    rw [u32s_set] at h0
    have e : setP (List.replicate d 0) xs ks (i + 1) = (setP (List.replicate d 0) xs ks i).set m y := by simp only [setP]; rw [hx, hk, Int.toNat_natCast]
    rw [e]
    exact own_fr h0 (S := fun k => k = t) ((Fr.refl (fun k => k = t) _).setCell (p := ⟨t, m, none⟩) (.inl rfl) _) (fun k hk (hb : k = t) => by simp [Value.ownBlock] at hk; omega)
  · have h0 := own_fr h.hi (S := fun k => k = s) ((Fr.refl (fun k => k = s) _).setCell (p := ⟨s, m, none⟩) (.inl rfl) (.int .u32 (y : Int))) (fun k hk (hb : k = s) => by simp [Value.ownBlock] at hk; omega)
    have h1 := (h0.stored m (.int .u32 (y : Int))).1
    rw [u32s_set] at h1
    have e : setP (List.replicate d 4294967295) xs ks (i + 1) = (setP (List.replicate d 4294967295) xs ks i).set m y := by simp only [setP]; rw [hx, hk, Int.toNat_natCast]
    rw [e]
    exact h1
  · exact ((h.fr.setCell (p := ⟨s, m, none⟩) (.inr (by show w.heap.size ≤ s; omega)) _).setCell (p := ⟨t, m, none⟩) (.inr (by show w.heap.size ≤ t; omega)) _)
theorem own_some {w : World} {base e n c : Nat} {A : Option Addr} {xs : List Value} (h : w.ownsRow base e 1 (.slice A n c) n xs) (hn : 0 < n) : ∃ s, A = some ⟨s, 0, none⟩ := by
  rcases h.2 with ⟨h1, h2⟩ | ⟨g, cap, cur, h1, _⟩
  · omega
  · injection h1 with h1; exact ⟨g, h1⟩
section
variable {w : World} {A B : Option Addr} {n m cn cm : Nat} {xs : List Int} {ks : List Nat}
end
end Go.Proofs.Ytbncakbgljhnkaa.Kx08
/- Layer 8, further: Whole and Partial of whatever they are given, the program's and the document's. -/
namespace Go.Proofs.Ytbncakbgljhnkaa.Ka08
open Go.RowKit Go.Proofs.Ytbncakbgljhnkaa.Pk08 Go.Proofs.Ytbncakbgljhnkaa.Pq08 Go.Proofs.Ytbncakbgljhnkaa.Base Go.Proofs.Ytbncakbgljhnkaa.App Go.Proofs.Ytbncakbgljhnkaa.Str Go.Proofs.Ytbncakbgljhnkaa.Ky Go.Proofs.Ytbncakbgljhnkaa.Iv Go.Proofs.Ytbncakbgljhnkaa.Bx Go.Proofs.Ytbncakbgljhnkaa.Kc08 Go.Proofs.Ytbncakbgljhnkaa.Ki08 Go.Proofs.Ytbncakbgljhnkaa.Kj08 Go.Proofs.Ytbncakbgljhnkaa.Kn08 Go.Proofs.Ytbncakbgljhnkaa.Ko08 Go.Proofs.Ytbncakbgljhnkaa.Kp08 Go.Proofs.Ytbncakbgljhnkaa.Kq08 Go.Proofs.Ytbncakbgljhnkaa.Kr08 Go.Proofs.Ytbncakbgljhnkaa.Kw08 Go.Proofs.Ytbncakbgljhnkaa.Kx08
set_option linter.unusedVariables false
set_option linter.unusedSimpArgs false
/-- The corners of the box of all points. -/
def wLo (d : Int) : List Nat := if 1 ≤ d ∧ d ≤ 6 then List.replicate d.toNat 0 else []
def wHi (d : Int) : List Nat := if 1 ≤ d ∧ d ≤ 6 then List.replicate d.toNat 4294967295 else []
/-- A box of two points is returned. -/
def BoxOne (w : World) (lo hi : List Nat) (e : Ending) (w' : World) : Prop :=
  ∃ A n c B m d, e = .returned (.agg #[.slice A n c, .slice B m d]) ∧ Kv w' A n c lo ∧ Kv w' B m d hi ∧ Fr No w w'
theorem wLo_in {d : Int} (h : 1 ≤ d ∧ d ≤ 6) : wLo d = List.replicate d.toNat 0 := by unfold wLo; rw [if_pos h]
theorem wHi_in {d : Int} (h : 1 ≤ d ∧ d ≤ 6) : wHi d = List.replicate d.toNat 4294967295 := by unfold wHi; rw [if_pos h]
theorem wLo_out {d : Int} (h : ¬ (1 ≤ d ∧ d ≤ 6)) : wLo d = [] := by unfold wLo; rw [if_neg h]
theorem wHi_out {d : Int} (h : ¬ (1 ≤ d ∧ d ≤ 6)) : wHi d = [] := by unfold wHi; rw [if_neg h]
theorem rwhole_any (d : Int) (w : World) : Calls Try.prog 28 #[.int .i64 d] w (BoxOne w (wLo d) (wHi d)) := by
  by_cases h : 1 ≤ d ∧ d ≤ 6
  · obtain ⟨k, rfl⟩ := Int.eq_ofNat_of_zero_le (show 0 ≤ d by omega)
    rw [wLo_in h, wHi_in h, Int.toNat_natCast]
    refine (rwhole_ok k (by omega) w).mono ?_
    rintro e w' ⟨A, n, ca, B, m, cb, rfl, h1, h2, _, hf⟩
    exact ⟨_, _, _, _, _, _, rfl, Kv.of_own h1 (by simp), Kv.of_own h2 (by simp), hf⟩
  · rw [wLo_out h, wHi_out h]
    refine (rwhole_bad d h w).mono ?_
    rintro e w' ⟨rfl, hf⟩
    exact ⟨_, _, _, _, _, _, rfl, Kv.none_ _, Kv.none_ _, hf⟩
/-- The box of those with some coordinates, or why there is none. -/
def pIn (d : Int) (xs : List Int) (ks : List Nat) : Prop := 1 ≤ d ∧ d ≤ 6 ∧ xs.length = ks.length
instance (d : Int) (xs : List Int) (ks : List Nat) : Decidable (pIn d xs ks) := inferInstanceAs (Decidable (_ ∧ _))
def pLo (d : Int) (xs : List Int) (ks : List Nat) : List Nat := if pIn d xs ks then partLo d.toNat xs ks else []
def pHi (d : Int) (xs : List Int) (ks : List Nat) : List Nat := if pIn d xs ks then partHi d.toNat xs ks else []
def pE (d : Int) (xs : List Int) (ks : List Nat) : Int := if pIn d xs ks then partE d.toNat xs else 1
theorem pE_rng (d : Int) (xs : List Int) (ks : List Nat) : pE d xs ks = 0 ∨ pE d xs ks = 1 := by
  unfold pE partE
  split
  · split
    · exact .inl rfl
    · exact .inr rfl
  · exact .inr rfl
theorem pE_in {d : Int} {xs : List Int} {ks : List Nat} (h : pE d xs ks = 0) : pIn d xs ks ∧ partE d.toNat xs = 0 := by
  unfold pE at h
  by_cases hp : pIn d xs ks
  · rw [if_pos hp] at h; exact ⟨hp, h⟩
  · rw [if_neg hp] at h; exact absurd h (by decide)
section
variable {w : World} {A B : Option Addr} {n m cn cm : Nat} {xs : List Int} {ks : List Nat}
end
end Go.Proofs.Ytbncakbgljhnkaa.Ka08
/- slices.Clone of a point. -/
namespace Go.Proofs.Ytbncakbgljhnkaa.Cl
open Go.RowKit Go.Proofs.Ytbncakbgljhnkaa.Base Go.Proofs.Ytbncakbgljhnkaa.App Go.Proofs.Ytbncakbgljhnkaa.Str Go.Proofs.Ytbncakbgljhnkaa.Ky Go.Proofs.Ytbncakbgljhnkaa.Bx Go.Proofs.Ytbncakbgljhnkaa.As Go.Proofs.Ytbncakbgljhnkaa.Ki08
set_option linter.unusedVariables false
set_option linter.unusedSimpArgs false
attribute [local go_sem ↓ high] builtin_app
theorem Fr.of_grown {W w1 : World} {A : Option Addr} {n c B : Nat} {base e size m : Nat} {xs : List Value} (hg : W.grownBy w1 (Value.slice A n c).ownBlock) (ho : W.ownsRow base e size (.slice A n c) m xs) (hB : ∀ k, (Value.slice A n c).ownBlock = some k → B ≤ k) {w : World} (hw : B = w.heap.size) (f : Fr No w W) : Fr No w w1 :=
  f.grown hg (fun k hk => .inr (by have := hB k hk; omega))
section
variable {w : World} {A : Option Addr} {n c : Nat} {ks : List Nat}
set_option maxHeartbeats 800000 in
theorem clone_any (hk : Kv w A n c ks) (hn : n ≤ 1000000) :
    Calls Try.prog 31 #[.slice A n c] w fun e w' => ∃ A1 c1, e = .returned (.slice A1 n c1) ∧ w'.ownsRow w.heap.size 35 1 (.slice A1 n c1) n (u32s ks) ∧ Fr No w w' := by
  have hnil := fun (W : World) (x : Option Addr) (l m : Nat) => Lib.run_eql_slice_nil (P := Try.prog) W 23 35 x l m 0 0 Try.underlying23
  rcases A with _ | a
  · have h0 : n = 0 := by
      rcases Nat.eq_zero_or_pos n with h | h
      · exact h
      · obtain ⟨b, off, h1, _⟩ := hk.at_ (by have := hk.len; omega)
        cases h1
    subst h0
    have hks : ks = [] := List.eq_nil_of_length_eq_zero hk.len.symm
    subst hks
    clear hk
    go_enter Try.func31, Try.ntmps31
    go_wp2
    go_ret
    exact ⟨none, 0, rfl, World.ownsRow_nil _ _ _ _, Fr.refl _ _⟩
  · have hl := hk.len
    have hmx : (1000000 : Nat) * 4 ≤ 140737488355328 := by decide
    obtain ⟨A1, c1, w1, hrun, hown, hgr, hat⟩ := app_eq (P := Try.prog) (w := w.alloc (.cells #[] 35)) w.heap.size 23 35 (.int .u32 0) 1 4 Try.underlying23 info_u32 rfl (by decide) (by decide) (own_empty w w.heap.size 35 1 (Nat.le_refl _)) (some a) n c (u32s ks) (by rw [u32s_len]; omega) ((hk.alloc _).rc) (u32s_one ks) (by omega) (by simp)
    have hf : Fr No w w1 := ((Fr.refl No w).alloc _).grown hgr (fun k hk => .inr (by simp [Value.ownBlock] at hk; omega))
    rw [Nat.zero_add] at hrun hown
    have Hown := Lib.hid hown
    have Hf := Lib.hid hf
    clear hown hgr hat hf hk hl
    go_enter Try.func31, Try.ntmps31
    go_wp2
    go_ret
    exact ⟨A1, c1, rfl, Hown.out, Hf.out⟩
end
end Go.Proofs.Ytbncakbgljhnkaa.Cl
