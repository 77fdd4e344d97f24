/- Layer 12: the document's box of cells. -/
import Derived.Test.YtifpigcgkpmheaaTc12
import Derived.Test.YtifpigcgkpmheaaGc
import Derived.Deep.QuietTactic
import Derived.StillTailTactics
namespace Go.Proofs.Ytifpigcgkpmheaa.Td12
open Go.RowKit Go.Proofs.Ytifpigcgkpmheaa.Pk08 Go.Proofs.Ytifpigcgkpmheaa.Base Go.Proofs.Ytifpigcgkpmheaa.App Go.Proofs.Ytifpigcgkpmheaa.Ty Go.Proofs.Ytifpigcgkpmheaa.Str Go.Proofs.Ytifpigcgkpmheaa.Ky Go.Proofs.Ytifpigcgkpmheaa.Iv Go.Proofs.Ytifpigcgkpmheaa.Bx Go.Proofs.Ytifpigcgkpmheaa.Bo Go.Proofs.Ytifpigcgkpmheaa.As Go.Proofs.Ytifpigcgkpmheaa.Ro Go.Proofs.Ytifpigcgkpmheaa.Pl08 Go.Proofs.Ytifpigcgkpmheaa.Kc08 Go.Proofs.Ytifpigcgkpmheaa.Ke08 Go.Proofs.Ytifpigcgkpmheaa.Ki08 Go.Proofs.Ytifpigcgkpmheaa.Ka08 Go.Proofs.Ytifpigcgkpmheaa.Ic Go.Proofs.Ytifpigcgkpmheaa.In Go.Proofs.Ytifpigcgkpmheaa.Fa Go.Proofs.Ytifpigcgkpmheaa.Sa12 Go.Proofs.Ytifpigcgkpmheaa.Sb12 Go.Proofs.Ytifpigcgkpmheaa.Sc12 Go.Proofs.Ytifpigcgkpmheaa.Sd12 Go.Proofs.Ytifpigcgkpmheaa.Se12 Go.Proofs.Ytifpigcgkpmheaa.Sf12 Go.Proofs.Ytifpigcgkpmheaa.Sg12 Go.Proofs.Ytifpigcgkpmheaa.Sh12 Go.Proofs.Ytifpigcgkpmheaa.Si12 Go.Proofs.Ytifpigcgkpmheaa.Sk12 Go.Proofs.Ytifpigcgkpmheaa.Sl12 Go.Proofs.Ytifpigcgkpmheaa.St12 Go.Proofs.Ytifpigcgkpmheaa.Sv12 Go.Proofs.Ytifpigcgkpmheaa.Sw12 Go.Proofs.Ytifpigcgkpmheaa.Sw12 Go.Proofs.Ytifpigcgkpmheaa.Kj08 Go.Proofs.Ytifpigcgkpmheaa.Kh08 Go.Proofs.Ytifpigcgkpmheaa.Ky08 Go.Proofs.Ytifpigcgkpmheaa.Sm12 Go.Proofs.Ytifpigcgkpmheaa.Wd Go.Proofs.Ytifpigcgkpmheaa.Kw08 Go.Proofs.Ytifpigcgkpmheaa.Kx08 Go.Proofs.Ytifpigcgkpmheaa.Ka08
set_option linter.unusedVariables false
set_option linter.unusedSimpArgs false
/-- The list so far, one number behind it. -/
def mid (l : List Nat) (v i n : Nat) : List Nat := l.take i ++ List.replicate (n - i) v
section
variable {l : List Nat} {v i n : Nat}
theorem mid_len (h : i ≤ n) (hn : l.length = n) : (mid l v i n).length = n := by unfold mid; simp; omega
theorem mid_set (h : i < n) (hn : l.length = n) : (mid l v i n).set i (l.getD i 0) = mid l v (i + 1) n := by
  subst hn
  have e : l.take (i + 1) = l.take i ++ [l.getD i 0] := by rw [List.take_add_one]; simp [List.getD_eq_getElem?_getD, h]
  unfold mid
  rw [e, show l.length - i = (l.length - (i + 1)) + 1 by omega, List.replicate_succ, List.set_append_right _ _ (by rw [List.length_take]; omega), List.length_take, Nat.min_eq_left (by omega), Nat.sub_self, List.set_cons_zero, List.append_assoc]
  rfl
theorem mid_same (h : i < n) (hn : l.length = n) (hv : l.getD i 0 = v) : mid l v i n = mid l v (i + 1) n := by
  subst hn
  have e : l.take (i + 1) = l.take i ++ [l.getD i 0] := by rw [List.take_add_one]; simp [List.getD_eq_getElem?_getD, h]
  unfold mid
  rw [e, hv, show l.length - i = (l.length - (i + 1)) + 1 by omega, List.replicate_succ, List.append_assoc]
  rfl
theorem mid_zero : mid l v 0 n = List.replicate n v := by simp [mid]
theorem mid_all (hn : l.length = n) : mid l v n n = l := by subst hn; simp [mid]
end
section
variable {w wr w1 : World} {g6 gb ga ca cb i : Nat} {al bl : List Nat} {A B : Option Addr}
theorem u32s_set (l : List Nat) (i x : Nat) : (u32s l).set i (.int .u32 (x : Int)) = u32s (l.set i x) := by simp [u32s, List.map_set]
theorem own_at {e : TypeId} {n : Nat} {xs : List Value} {base : Nat} (h : w.ownsRow base e 1 (.slice A n ca) n xs) (hn : 0 < n) : ∃ ga, A = some ⟨ga, 0, none⟩ := by
  rcases h.2 with ⟨h4, h5⟩ | ⟨g, cap, cur, h4, hg, _⟩
  · omega
  · injection h4 with h4
    exact ⟨g, h4⟩
theorem Bw.setA (h : Bw w wr g6 gb al bl (some ⟨ga, 0, none⟩) ca B cb) (hi : i < al.length) (x : Nat) : (∃ v0, wr.cell? ⟨ga, i, none⟩ = some v0) ∧ wr.frozen? ⟨ga, i, none⟩ = false ∧ Bw w (wr.setCell ⟨ga, i, none⟩ (.int .u32 (x : Int))) g6 gb (al.set i x) bl (some ⟨ga, 0, none⟩) ca B cb := by
  obtain ⟨n1, n2, n3⟩ := h.na ga rfl
  have f2 : Fr (fun k => k = ga) wr (wr.setCell ⟨ga, i, none⟩ (.int .u32 (x : Int))) := (Fr.refl (fun k => k = ga) wr).setCell (p := ⟨ga, i, none⟩) (.inl rfl) _
  have e3 := (h.ra.stored i (.int .u32 (x : Int))).1
  rw [u32s_set] at e3
  have hll : (al.set i x).length = al.length := by simp
  have hul : i < (u32s al).length := by simpa [u32s] using hi
  exact ⟨⟨_, (h.ra.cellAt i (by omega)).trans (List.getElem?_eq_getElem hul)⟩, h.ra.frozenAt i, ⟨h.o6.fr f2 (fun e => n2 e.symm), by rw [hll]; exact h.ob.fr f2 (fun e => n1 e.symm), by rw [hll]; exact e3, own_fr1 h.rb f2 (fun k hk e => n3 (by rw [← e]; exact hk)), by rw [hll]; exact h.na, h.nb, h.ge, h.fr.setCell (p := ⟨ga, i, none⟩) (.inr (h.ra.lt ga rfl).1) _⟩⟩
theorem Bw.setB (h : Bw w wr g6 gb al bl A ca (some ⟨ga, 0, none⟩) cb) (hi : i < bl.length) (x : Nat) : (∃ v0, wr.cell? ⟨ga, i, none⟩ = some v0) ∧ wr.frozen? ⟨ga, i, none⟩ = false ∧ Bw w (wr.setCell ⟨ga, i, none⟩ (.int .u32 (x : Int))) g6 gb al (bl.set i x) A ca (some ⟨ga, 0, none⟩) cb := by
  obtain ⟨n1, n2⟩ := h.nb ga rfl
  have f2 : Fr (fun k => k = ga) wr (wr.setCell ⟨ga, i, none⟩ (.int .u32 (x : Int))) := (Fr.refl (fun k => k = ga) wr).setCell (p := ⟨ga, i, none⟩) (.inl rfl) _
  have e3 := (h.rb.stored i (.int .u32 (x : Int))).1
  rw [u32s_set] at e3
  have hll : (bl.set i x).length = bl.length := by simp
  have hul : i < (u32s bl).length := by simpa [u32s] using hi
  exact ⟨⟨_, (h.rb.cellAt i (by omega)).trans (List.getElem?_eq_getElem hul)⟩, h.rb.frozenAt i, ⟨h.o6.fr f2 (fun e => n2 e.symm), by rw [hll]; exact h.ob.fr f2 (fun e => n1 e.symm), own_fr1 h.ra f2 (fun k hk e => (h.na k hk).2.2 (by rw [e]; rfl)), by rw [hll]; exact e3, fun k hk => ⟨(h.na k hk).1, (h.na k hk).2.1, by rw [hll]; exact (h.na k hk).2.2⟩, by rw [hll]; exact h.nb, h.ge, h.fr.setCell (p := ⟨ga, i, none⟩) (.inr (h.rb.lt ga rfl).1) _⟩⟩
end
end Go.Proofs.Ytifpigcgkpmheaa.Td12
