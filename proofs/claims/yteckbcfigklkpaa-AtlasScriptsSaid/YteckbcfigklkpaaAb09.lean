/- Layer 9: an atlas in memory; what is asked of it. -/
import Derived.Test.YteckbcfigklkpaaAa09
import Derived.Test.YteckbcfigklkpaaIb
import Derived.Test.YteckbcfigklkpaaGe
namespace Go.Proofs.Yteckbcfigklkpaa.Ab09
open Go.RowKit Go.Proofs.Yteckbcfigklkpaa.Pk08 Go.Proofs.Yteckbcfigklkpaa.Base Go.Proofs.Yteckbcfigklkpaa.App Go.Proofs.Yteckbcfigklkpaa.Str Go.Proofs.Yteckbcfigklkpaa.Ky Go.Proofs.Yteckbcfigklkpaa.Bx Go.Proofs.Yteckbcfigklkpaa.Bo Go.Proofs.Yteckbcfigklkpaa.As Go.Proofs.Yteckbcfigklkpaa.Pl08 Go.Proofs.Yteckbcfigklkpaa.Kc08 Go.Proofs.Yteckbcfigklkpaa.Cl Go.Proofs.Yteckbcfigklkpaa.Rv Go.Proofs.Yteckbcfigklkpaa.Ra Go.Proofs.Yteckbcfigklkpaa.Rp Go.Proofs.Yteckbcfigklkpaa.Ro Go.Proofs.Yteckbcfigklkpaa.Rk Go.Proofs.Yteckbcfigklkpaa.Rb Go.Proofs.Yteckbcfigklkpaa.Rf Go.Proofs.Yteckbcfigklkpaa.Ia Go.Proofs.Yteckbcfigklkpaa.Ib Go.Proofs.Yteckbcfigklkpaa.Aa09
set_option linter.unusedVariables false
set_option linter.unusedSimpArgs false
/-- The block of a slice. -/
abbrev obk (A : Option Addr) (n c : Nat) : Option Nat := (Value.slice A n c).ownBlock
/-- An atlas at ga, of the records rs; their points lie in blocks of K. -/
structure At (w : World) (K : Nat → Prop) (ga : Nat) (d : Int) (A : Option Addr) (n c : Nat) (rs : List Rv.Rec) : Prop where
  ob : Ob w ga #[.int .i64 d, .slice A n c] 72
  ow : Ow w 0 33 K A n c rs
  kg : ¬ K ga
  og : obk A n c ≠ some ga
  st : Strict rs
  ok : ∀ r ∈ rs, recC r.1.length r.2 d = 0
  le : rs.length ≤ 1000
section
variable {S K : Nat → Prop} {w w1 : World} {ga : Nat} {d : Int} {A B : Option Addr} {n c m e : Nat} {rs : List Rv.Rec} {k : List Nat}
theorem At.fr (h : At w K ga d A n c rs) (f : Fr S w w1) (hg : ¬ S ga) (ho : ∀ k, obk A n c = some k → ¬ S k) (hk : ∀ b, K b → ¬ S b) : At w1 K ga d A n c rs :=
  ⟨h.ob.fr f hg, h.ow.fr f ho hk, h.kg, h.og, h.st, h.ok, h.le⟩
theorem At.no (h : At w K ga d A n c rs) (f : Fr No w w1) : At w1 K ga d A n c rs := h.fr f (fun x => x) (fun _ _ x => x) (fun _ _ x => x)
theorem At.drew (h : At w K ga d A n c rs) : At w.drew K ga d A n c rs := h.no (Fr.refl No w).drew
theorem At.alloc (h : At w K ga d A n c rs) (o : Obj) : At (w.alloc o) K ga d A n c rs := h.no ((Fr.refl No w).alloc o)
theorem At.mono (h : At w K ga d A n c rs) {K' : Nat → Prop} (hk : ∀ b, K b → K' b) (hg : ¬ K' ga) : At w K' ga d A n c rs :=
  ⟨h.ob, h.ow.mono hk, hg, h.og, h.st, h.ok, h.le⟩
theorem At.rv (h : At w K ga d A n c rs) : Rv w A n c rs := h.ow.rv
theorem At.len (h : At w K ga d A n c rs) : n = rs.length := h.rv.len
theorem recC_len {n : Nat} {s : ByteArray} {d : Int} (h : recC n s d = 0) : n ≤ 6 ∧ s.size ≤ 40 ∧ (n : Int) = d ∧ 1 ≤ d ∧ d ≤ 6 := by
  unfold recC chk at h
  split at h
  · split at h
    · rename_i h2 h3; exact ⟨by omega, h2, h3.2.2, h3.1, h3.2.1⟩
    · cases h
  · cases h
theorem At.sh (h : At w K ga d A n c rs) : Short rs := ⟨by have := h.le; omega, fun r hr => by have := recC_len (h.ok r hr); omega⟩
theorem At.cells (h : At w K ga d A n c rs) : w.cell? ⟨ga, 0, none⟩ = some (.int .i64 d) ∧ w.cell? ⟨ga, 1, none⟩ = some (.slice A n c) := ⟨h.ob.cell 0 rfl, h.ob.cell 1 rfl⟩
theorem len_any (h : At w K ga d A n c rs) : Calls Try.prog 27 #[.pointer (some ⟨ga, 0, none⟩)] w fun e w' => e = .returned (.int .i64 (n : Nat)) ∧ w = w' := by
  obtain ⟨c0, c1⟩ := h.cells
  clear h
  go_enter Try.func27, Try.ntmps27
  go_wp2
  go_ret
  exact ⟨rfl, rfl⟩
theorem all_fresh (h : At w K ga d A n c rs) : Calls Try.prog 26 #[.pointer (some ⟨ga, 0, none⟩)] w fun e w' => ∃ A1 n1 c1, e = .returned (.slice A1 n1 c1) ∧ Ow w' w.heap.size 33 (fun b => w.heap.size ≤ b) A1 n1 c1 rs ∧ Fr No w w' := by
  obtain ⟨c0, c1⟩ := h.cells
  have hc := copied_fresh h.rv h.sh
  clear h
  go_enter Try.func26, Try.ntmps26
  go_wp2_with (go_at_call 40; ((with_reducible refine hc.mono ?_); rintro e w6 ⟨A6, n6, c6, rfl, ho6, hf6⟩))
  go_ret
  exact ⟨A6, n6, c6, rfl, ho6, hf6⟩
theorem all_any (h : At w K ga d A n c rs) : Calls Try.prog 26 #[.pointer (some ⟨ga, 0, none⟩)] w (RecsRet w rs) := by
  obtain ⟨c0, c1⟩ := h.cells
  have hc := copied_any h.rv h.sh
  clear h
  go_enter Try.func26, Try.ntmps26
  go_wp2_with (go_at_call 40; ((with_reducible refine hc.mono ?_); rintro e w6 ⟨A6, n6, c6, rfl, ho6, hf6⟩))
  go_ret
  exact ⟨A6, n6, c6, rfl, ho6, hf6⟩
theorem afind_any (h : At w K ga d A n c rs) (hk : Kv w B m e k) : Calls Try.prog 38 #[.pointer (some ⟨ga, 0, none⟩), .slice B m e] w fun en w' => en = .returned (.tuple #[.int .i64 ((fpos rs k : Nat) : Int), .bool (fis rs k)]) ∧ Fr No w w' := by
  obtain ⟨c0, c1⟩ := h.cells
  have hc := search_any h.rv hk h.st (by have := h.len; have := h.le; omega)
  clear h
  go_enter Try.func38, Try.ntmps38
  go_wp2_with (go_at_call 49; ((with_reducible refine hc.mono ?_); rintro en w6 ⟨rfl, hf6⟩))
  go_ret2
  exact ⟨rfl, hf6⟩
/-- Where a point is, or why it is not: 1: it may not be; 5: there is none. -/
def hasE (rs : List Rv.Rec) (d : Int) (k : List Nat) : Nat := if chk k.length d = 0 then (if fis rs k = true then 0 else 5) else 1
def hasI (rs : List Rv.Rec) (d : Int) (k : List Nat) : Nat := if chk k.length d = 0 then (if fis rs k = true then fpos rs k else 0) else 0
theorem has_any (h : At w K ga d A n c rs) (hk : Kv w B m e k) : Calls Try.prog 42 #[.pointer (some ⟨ga, 0, none⟩), .slice B m e] w fun en w' => en = .returned (.tuple #[.int .i64 ((hasI rs d k : Nat) : Int), .int .i64 ((hasE rs d k : Nat) : Int)]) ∧ Fr No w w' := by
  obtain ⟨c0, c1⟩ := h.cells
  have H := Lib.hid h
  have Hk := Lib.hid hk
  have hml : m = k.length := hk.len
  have hkl := hk.len_le
  subst hml
  clear h hk
  rcases chk_rng k.length d with hc | hc
  · cases hf : fis rs k with
    | true =>
      have e1 : hasI rs d k = fpos rs k := by simp [hasI, hc, hf]
      have e2 : hasE rs d k = 0 := by simp [hasE, hc, hf]
      rw [e1, e2]
      have Hf := Lib.hid hf
      have Hc := Lib.hid hc
      clear hf hc e1 e2
      go_enter Try.func42, Try.ntmps42
      go_wp2_with first
        | (go_at_call 36; ((with_reducible refine (check_any _ _ _ _ _).mono ?_); rintro en w1 ⟨rfl, rfl⟩; rw [Hc.out]))
        | (go_at_call 38; ((with_reducible refine (afind_any H.out Hk.out).mono ?_); rintro en w2 ⟨rfl, hf2⟩; rw [Hf.out]))
        | fail
      go_ret2
      exact ⟨rfl, by (repeat (first | with_reducible exact Fr.refl _ _ | with_reducible refine Fr.setCell ?_ (.inr (by first | (simp; done) | (simp; omega))) _ | with_reducible refine Fr.alloc ?_ _ | with_reducible refine Fr.drew ?_ | with_reducible refine Fr.drewN ?_ _ | with_reducible refine Fr.tr ?_ (by assumption)))⟩
    | false =>
      have e1 : hasI rs d k = 0 := by simp [hasI, hc, hf]
      have e2 : hasE rs d k = 5 := by simp [hasE, hc, hf]
      rw [e1, e2]
      have Hf := Lib.hid hf
      have Hc := Lib.hid hc
      clear hf hc e1 e2
      go_enter Try.func42, Try.ntmps42
      go_wp2_with first
        | (go_at_call 36; ((with_reducible refine (check_any _ _ _ _ _).mono ?_); rintro en w1 ⟨rfl, rfl⟩; rw [Hc.out]))
        | (go_at_call 38; ((with_reducible refine (afind_any H.out Hk.out).mono ?_); rintro en w2 ⟨rfl, hf2⟩; rw [Hf.out]))
        | fail
      go_ret2
      exact ⟨rfl, by (repeat (first | with_reducible exact Fr.refl _ _ | with_reducible refine Fr.setCell ?_ (.inr (by first | (simp; done) | (simp; omega))) _ | with_reducible refine Fr.alloc ?_ _ | with_reducible refine Fr.drew ?_ | with_reducible refine Fr.drewN ?_ _ | with_reducible refine Fr.tr ?_ (by assumption)))⟩
  · have e1 : hasI rs d k = 0 := by simp [hasI, hc]
    have e2 : hasE rs d k = 1 := by simp [hasE, hc]
    rw [e1, e2]
    have Hc := Lib.hid hc
    clear hc e1 e2
    go_enter Try.func42, Try.ntmps42
    go_wp2_with first
      | (go_at_call 36; ((with_reducible refine (check_any _ _ _ _ _).mono ?_); rintro en w1 ⟨rfl, rfl⟩; rw [Hc.out]))
      | fail
    go_ret2
    exact ⟨rfl, by (repeat (first | with_reducible exact Fr.refl _ _ | with_reducible refine Fr.setCell ?_ (.inr (by first | (simp; done) | (simp; omega))) _ | with_reducible refine Fr.alloc ?_ _ | with_reducible refine Fr.drew ?_ | with_reducible refine Fr.drewN ?_ _ | with_reducible refine Fr.tr ?_ (by assumption)))⟩
/-- What a point's data are. -/
def getS (rs : List Rv.Rec) (d : Int) (k : List Nat) : ByteArray := if hasE rs d k = 0 then (rs.getD (fpos rs k) rec0).2 else { data := #[] }
theorem hasE_cases (rs : List Rv.Rec) (d : Int) (k : List Nat) : (hasE rs d k = 0 ∧ fis rs k = true ∧ hasI rs d k = fpos rs k) ∨ (hasE rs d k ≠ 0 ∧ hasE rs d k ≤ 5) := by
  unfold hasE hasI
  split
  · split
    · rename_i h; exact .inl ⟨rfl, h, rfl⟩
    · right; omega
  · right; omega
theorem get_any (h : At w K ga d A n c rs) (hk : Kv w B m e k) : Calls Try.prog 20 #[.pointer (some ⟨ga, 0, none⟩), .slice B m e] w fun en w' => en = .returned (.tuple #[.string (getS rs d k), .int .i64 ((hasE rs d k : Nat) : Int)]) ∧ Fr No w w' := by
  obtain ⟨c0, c1⟩ := h.cells
  have H := Lib.hid h
  have hh := has_any h hk
  rcases hasE_cases rs d k with ⟨h1, h2, h3⟩ | ⟨h1, h2⟩
  · have hs : getS rs d k = (rs.getD (fpos rs k) rec0).2 := by rw [getS, if_pos h1]
    obtain ⟨hi, _⟩ := (fis_iff rs k).1 h2
    have hin : fpos rs k < n := by rw [h.len]; exact hi
    obtain ⟨b, off, KA, kc, hA, a0, a1, hka, hza⟩ := h.rv.get (fpos rs k) hi
    subst hA
    rw [hs, h1]
    rw [h1, h3] at hh
    have hn1 : n ≤ 1000 := by have := h.len; have := h.le; omega
    clear h hk hs h1 h2 h3 hka
    generalize fpos rs k = i at *
    generalize rs.getD i rec0 = r at *
    obtain ⟨ks, s⟩ := r
    simp only at *
    go_enter Try.func20, Try.ntmps20
    go_wp2_with (go_at_call 42; ((with_reducible refine hh.mono ?_); rintro en w6 ⟨rfl, hf6⟩; (have d1 := cel_no c1 hf6); (have b1 := cel_no a1 hf6)))
    go_ret2
    exact ⟨rfl, hf6⟩
  · have hs : getS rs d k = { data := #[] } := by rw [getS, if_neg h1]
    rw [hs]
    generalize hasI rs d k = q at *
    generalize hasE rs d k = ex at *
    clear h hk hs
    go_enter Try.func20, Try.ntmps20
    go_wp2_with (go_at_call 42; ((with_reducible refine hh.mono ?_); rintro en w6 ⟨rfl, hf6⟩))
    go_ret2
    exact ⟨rfl, hf6⟩
end
end Go.Proofs.Yteckbcfigklkpaa.Ab09
