/- Layer 10: the bytes of records, and the records of bytes (plain). -/
import Derived.Test.YtehhmpoijonghaaBd10
import Derived.Test.YtehhmpoijonghaaBa10
import Derived.Test.YtehhmpoijonghaaRi
namespace Go.Proofs.Ytehhmpoijonghaa.Bp10
open Go.RowKit Go.Proofs.Ytehhmpoijonghaa.Pk08 Go.Proofs.Ytehhmpoijonghaa.Base Go.Proofs.Ytehhmpoijonghaa.App Go.Proofs.Ytehhmpoijonghaa.Str Go.Proofs.Ytehhmpoijonghaa.Ky Go.Proofs.Ytehhmpoijonghaa.Bx Go.Proofs.Ytehhmpoijonghaa.Bo Go.Proofs.Ytehhmpoijonghaa.Rv Go.Proofs.Ytehhmpoijonghaa.Ra Go.Proofs.Ytehhmpoijonghaa.Rp Go.Proofs.Ytehhmpoijonghaa.Ro Go.Proofs.Ytehhmpoijonghaa.Rk Go.Proofs.Ytehhmpoijonghaa.Ri Go.Proofs.Ytehhmpoijonghaa.Fa Go.Proofs.Ytehhmpoijonghaa.Ba10 Go.Proofs.Ytehhmpoijonghaa.Bd10
set_option linter.unusedVariables false
set_option linter.unusedSimpArgs false
/-! ### written -/
def keyB (k : List Nat) : List Nat := k.flatMap be4
def recB (r : Rv.Rec) : List Nat := keyB r.1 ++ be1 r.2.size ++ bys r.2
def recsB (rs : List Rv.Rec) : List Nat := rs.flatMap recB
def encB (rs : List Rv.Rec) : List Nat := be1 rs.length ++ recsB rs
theorem keyB_len (k : List Nat) : (keyB k).length = 4 * k.length := by
  induction k with
  | nil => rfl
  | cons x xs ih => simp only [keyB, List.flatMap_cons, List.length_append, List.length_cons, be4_len] at *; omega
theorem keyB_app (a b : List Nat) : keyB (a ++ b) = keyB a ++ keyB b := by simp [keyB]
theorem keyB_one (v : Nat) : keyB [v] = be4 v := by simp [keyB]
theorem recB_len (r : Rv.Rec) : (recB r).length = szr r := by simp [recB, keyB_len, be1, bys_len, szr]; omega
theorem recsB_app (a b : List Rv.Rec) : recsB (a ++ b) = recsB a ++ recsB b := by simp [recsB]
theorem recsB_one (r : Rv.Rec) : recsB [r] = recB r := by simp [recsB]
theorem recsB_len (rs : List Rv.Rec) : 1 + (recsB rs).length = sizeR rs := by
  unfold sizeR
  induction rs with
  | nil => rfl
  | cons r rs ih => simp only [recsB, List.flatMap_cons, List.length_append, List.map_cons, List.sum_cons, recB_len] at *; omega
theorem encB_len (rs : List Rv.Rec) : (encB rs).length = sizeR rs := by rw [← recsB_len]; simp [encB, be1]; omega
theorem recsB_take (rs : List Rv.Rec) (i : Nat) (h : i < rs.length) : recsB (rs.take (i + 1)) = recsB (rs.take i) ++ recB (rs.getD i rec0) := by
  rw [Go.Proofs.Ytehhmpoijonghaa.Rk.take_succ rs i h, recsB_app, recsB_one]
theorem keyB_take (k : List Nat) (i : Nat) (h : i < k.length) : keyB (k.take (i + 1)) = keyB (k.take i) ++ be4 (k.getD i 0) := by
  have e : k.take (i + 1) = k.take i ++ [k.getD i 0] := by
    rw [List.take_add_one, List.getElem?_eq_getElem h, List.getD_eq_getElem?_getD, List.getElem?_eq_getElem h]
    rfl
  rw [e, keyB_app, keyB_one]
theorem be4_lt (v : Nat) (h : v < 4294967296) : ∀ x ∈ be4 v, x < 256 := by
  intro x hx
  simp only [be4, List.mem_cons, List.not_mem_nil, or_false] at hx
  omega
/-- May be written: coordinates and sizes are such. -/
def Wr (r : Rv.Rec) : Prop := (∀ x ∈ r.1, x < 4294967296) ∧ r.2.size < 256
theorem recB_lt {r : Rv.Rec} (h : Wr r) : ∀ x ∈ recB r, x < 256 := by
  intro x hx
  simp only [recB, keyB, List.mem_append, List.mem_flatMap] at hx
  rcases hx with (⟨y, hy, hx⟩ | hx) | hx
  · exact be4_lt y (h.1 y hy) x hx
  · simp only [be1, List.mem_singleton] at hx; rw [hx]; exact h.2
  · exact bys_lt _ x hx
theorem encB_lt {rs : List Rv.Rec} (h : ∀ r ∈ rs, Wr r) (hl : rs.length < 256) : ∀ x ∈ encB rs, x < 256 := by
  intro x hx
  simp only [encB, recsB, List.mem_append, List.mem_flatMap] at hx
  rcases hx with hx | ⟨r, hr, hx⟩
  · simp only [be1, List.mem_singleton] at hx; rw [hx]; exact hl
  · exact recB_lt (h r hr) x hx
/-- Whether records are written, and as what. -/
def encOk (rs : List Rv.Rec) (d cap : Int) : Bool := capB cap && fitB rs cap && isBk d rs
def encT (rs : List Rv.Rec) (d cap : Int) : ByteArray := if encOk rs d cap = true then txt (encB rs) else { data := #[] }
def encE (rs : List Rv.Rec) (d cap : Int) : Nat := if encOk rs d cap = true then 0 else 1
/-! ### read -/
def posB (s : ByteArray) (dim : Nat) : Nat → Nat
  | 0 => 1
  | i + 1 => posB s dim i + 4 * dim + 1 + (bys s).getD (posB s dim i + 4 * dim) 0
def recAt (s : ByteArray) (dim i : Nat) : Rv.Rec := ((List.range dim).map (fun k => gk s (posB s dim i + 4 * k) 4), gt s (posB s dim i + 4 * dim + 1) ((bys s).getD (posB s dim i + 4 * dim) 0))
def recsAt (s : ByteArray) (dim n : Nat) : List Rv.Rec := (List.range n).map (recAt s dim)
def cntB (s : ByteArray) : Nat := (bys s).getD 0 0
def decL (s : ByteArray) (dim : Nat) : List Rv.Rec := recsAt s dim (cntB s)
def cutB (s : ByteArray) (dim : Nat) : Bool := decide (s.size < posB s dim (cntB s))
def dimB (d : Int) : Bool := decide (1 ≤ d) && decide (d ≤ 6)
def formB (s : ByteArray) (dim : Nat) (cap : Int) : Bool := encOk (decL s dim) dim cap && decide (encT (decL s dim) dim cap = s)
def decE (s : ByteArray) (d cap : Int) : Nat := if (dimB d && capB cap) = true then (if cutB s d.toNat = true then 9 else if formB s d.toNat cap = true then 0 else 6) else 1
def decR (s : ByteArray) (d cap : Int) : List Rv.Rec := if decE s d cap = 0 then decL s d.toNat else []
theorem posB_mono (s : ByteArray) (dim i j : Nat) (h : i ≤ j) : posB s dim i ≤ posB s dim j := by
  induction j with
  | zero => obtain rfl : i = 0 := by omega
            exact Nat.le_refl _
  | succ j ih =>
    by_cases e : i = j + 1
    · subst e; exact Nat.le_refl _
    · have := ih (by omega)
      rw [posB]; omega
theorem posB_le (s : ByteArray) (dim i : Nat) (hd : dim ≤ 6) : posB s dim i ≤ 1 + i * 280 := by
  induction i with
  | zero => simp [posB]
  | succ i ih => rw [posB]; have := bys_getD_lt s (posB s dim i + 4 * dim); omega
theorem recsAt_succ (s : ByteArray) (dim n : Nat) : recsAt s dim (n + 1) = recsAt s dim n ++ [recAt s dim n] := by simp [recsAt, List.range_succ]
theorem recsAt_len (s : ByteArray) (dim n : Nat) : (recsAt s dim n).length = n := by simp [recsAt]
theorem cntB_lt (s : ByteArray) : cntB s < 256 := bys_getD_lt s 0
theorem gt_size (s : ByteArray) (a sz : Nat) : (gt s a sz).size ≤ sz := by
  unfold gt
  split
  · rw [sub, txt_size]; simp; omega
  · exact Nat.zero_le _
theorem numk_lt (s : ByteArray) (a k : Nat) : numk (bys s) a k < 256 ^ k := by
  induction k with
  | zero => simp [numk]
  | succ k ih => rw [numk, Nat.pow_succ]; have := bys_getD_lt s (a + k); omega
theorem gk_lt (s : ByteArray) (a k : Nat) : gk s a k < 256 ^ k := by
  unfold gk
  split
  · exact numk_lt s a k
  · exact Nat.pow_pos (by decide)
theorem gk1 (s : ByteArray) (a : Nat) : gk s a 1 = (bys s).getD a 0 := by
  unfold gk
  split
  · simp [numk]
  · rename_i h
    rw [List.getD_eq_getElem?_getD, List.getElem?_eq_none (by rw [bys_len]; omega)]
    rfl
theorem recAt_wr (s : ByteArray) (dim i : Nat) : Wr (recAt s dim i) := by
  refine ⟨fun x hx => ?_, ?_⟩
  · simp only [recAt, List.mem_map] at hx
    obtain ⟨k, _, rfl⟩ := hx
    exact gk_lt s _ 4
  · have h1 := gt_size s (posB s dim i + 4 * dim + 1) ((bys s).getD (posB s dim i + 4 * dim) 0)
    have h2 := bys_getD_lt s (posB s dim i + 4 * dim)
    simp only [recAt]; omega
theorem recsAt_tiny (s : ByteArray) (dim n : Nat) (hd : dim ≤ 6) (hn : n ≤ 1000) : Tiny (recsAt s dim n) := by
  refine ⟨by rw [recsAt_len]; exact hn, fun r hr => ?_⟩
  simp only [recsAt, List.mem_map] at hr
  obtain ⟨i, _, rfl⟩ := hr
  have h := (recAt_wr s dim i).2
  refine ⟨by simp [recAt]; omega, by omega⟩
/-! ### what was written is read -/
theorem numk_mid (p q : List Nat) (v : Nat) (hv : v < 4294967296) (a : Nat) (ha : a = p.length) : numk (p ++ be4 v ++ q) a 4 = v := by
  subst ha
  have g : ∀ k, k < 4 → (p ++ be4 v ++ q).getD (p.length + k) 0 = (be4 v).getD k 0 := by
    intro k hk
    simp only [List.getD_eq_getElem?_getD]
    rw [List.append_assoc, List.getElem?_append_right (by omega), Nat.add_sub_cancel_left, List.getElem?_append_left (by rw [be4_len]; exact hk)]
  simp only [numk]
  rw [g 0 (by decide), g 1 (by decide), g 2 (by decide), g 3 (by decide)]
  simp only [be4, List.getD_eq_getElem?_getD, List.getElem?_cons_zero, List.getElem?_cons_succ, Option.getD_some]
  omega
theorem get_mid (p q : List Nat) (v : Nat) (a : Nat) (ha : a = p.length) : (p ++ be1 v ++ q).getD a 0 = v := by
  subst ha
  simp [List.getD_eq_getElem?_getD, be1]
section
variable {rs : List Rv.Rec} {dim : Nat}
/-- What the bytes are, cut at a record. -/
theorem encB_cut (i : Nat) (h : i < rs.length) : encB rs = (be1 rs.length ++ recsB (rs.take i)) ++ recB (rs.getD i rec0) ++ recsB (rs.drop (i + 1)) := by
  have e : rs = rs.take i ++ [rs.getD i rec0] ++ rs.drop (i + 1) := by
    rw [← Go.Proofs.Ytehhmpoijonghaa.Rk.take_succ rs i h, List.take_append_drop]
  have e2 := congrArg recsB e
  rw [recsB_app, recsB_app, recsB_one] at e2
  rw [encB, e2]
  simp only [List.append_assoc]
theorem pos_enc (hw : ∀ r ∈ rs, Wr r ∧ r.1.length = dim) (hl : rs.length < 256) : ∀ i, i ≤ rs.length → posB (txt (encB rs)) dim i = sizeR (rs.take i) := by
  have hb : bys (txt (encB rs)) = encB rs := bys_txt _ (encB_lt (fun r hr => (hw r hr).1) hl)
  intro i
  induction i with
  | zero => intro _; simp [posB, sizeR]
  | succ i ih =>
    intro hi
    have hr : rs.getD i rec0 ∈ rs := by rw [Ri.recD i hi]; exact List.getElem_mem _
    have hd := (hw _ hr).2
    have hsz : sizeR (rs.take i) = (be1 rs.length ++ recsB (rs.take i)).length := by rw [← recsB_len]; simp [be1]; omega
    have hg : (encB rs).getD (posB (txt (encB rs)) dim i + 4 * dim) 0 = (rs.getD i rec0).2.size := by
      rw [ih (by omega), encB_cut i hi, recB]
      have : ((be1 rs.length ++ recsB (rs.take i)) ++ (keyB (rs.getD i rec0).1 ++ be1 (rs.getD i rec0).2.size ++ bys (rs.getD i rec0).2)) ++ recsB (rs.drop (i + 1)) = ((be1 rs.length ++ recsB (rs.take i)) ++ keyB (rs.getD i rec0).1) ++ be1 (rs.getD i rec0).2.size ++ (bys (rs.getD i rec0).2 ++ recsB (rs.drop (i + 1))) := by simp only [List.append_assoc]
      rw [this]
      exact get_mid _ _ _ _ (by rw [List.length_append, ← hsz, keyB_len, hd])
    rw [posB, hb, hg, ih (by omega), sizeR_succ rs i hi, szr, hd]
    omega
theorem rec_enc (hw : ∀ r ∈ rs, Wr r ∧ r.1.length = dim) (hl : rs.length < 256) (i : Nat) (hi : i < rs.length) : recAt (txt (encB rs)) dim i = rs.getD i rec0 := by
  have hb : bys (txt (encB rs)) = encB rs := bys_txt _ (encB_lt (fun r hr => (hw r hr).1) hl)
  have hr : rs.getD i rec0 ∈ rs := by rw [Ri.recD i hi]; exact List.getElem_mem _
  have hd := (hw _ hr).2
  have hwr := (hw _ hr).1
  have hsz : sizeR (rs.take i) = (be1 rs.length ++ recsB (rs.take i)).length := by rw [← recsB_len]; simp [be1]; omega
  have hcut := encB_cut i hi
  have hlen : (encB rs).length = sizeR (rs.take i) + szr (rs.getD i rec0) + (recsB (rs.drop (i + 1))).length := by rw [hcut, List.length_append, List.length_append, ← hsz, recB_len]
  have htl : (txt (encB rs)).size = (encB rs).length := txt_size _
  generalize hP : be1 rs.length ++ recsB (rs.take i) = P at hcut hsz
  generalize hQ : recsB (rs.drop (i + 1)) = Q at hcut hlen
  unfold recAt
  rw [pos_enc hw hl i (by omega), hb]
  generalize rs.getD i rec0 = r at *
  have hsr : szr r = 4 * dim + 1 + r.2.size := by rw [szr, hd]
  have hgn : (encB rs).getD (sizeR (rs.take i) + 4 * dim) 0 = r.2.size := by
    have : encB rs = (P ++ keyB r.1) ++ be1 r.2.size ++ (bys r.2 ++ Q) := by rw [hcut, recB]; simp only [List.append_assoc]
    rw [this]
    exact get_mid _ _ _ _ (by rw [List.length_append, ← hsz, keyB_len, hd])
  rw [hgn]
  refine Prod.ext ?_ ?_
  · apply List.ext_getElem
    · simp [hd]
    · intro k h1 h2
      have hk : k < dim := by simpa using h1
      simp only [List.getElem_map, List.getElem_range]
      rw [gk, if_pos (by rw [htl, hlen, hsr]; omega), hb]
      have hx : r.1.getD k 0 = r.1[k] := by simp [List.getD_eq_getElem?_getD, h2]
      have e1 : keyB r.1 = keyB (r.1.take k) ++ be4 r.1[k] ++ keyB (r.1.drop (k + 1)) := by
        rw [← hx, ← keyB_take r.1 k h2, ← keyB_app, List.take_append_drop]
      have : encB rs = (P ++ keyB (r.1.take k)) ++ be4 r.1[k] ++ (keyB (r.1.drop (k + 1)) ++ be1 r.2.size ++ bys r.2 ++ Q) := by rw [hcut, recB, e1]; simp only [List.append_assoc]
      rw [this]
      exact numk_mid _ _ _ (hwr.1 _ (List.getElem_mem h2)) _ (by rw [List.length_append, ← hsz, keyB_len, List.length_take]; omega)
  · simp only
    rw [gt, if_pos (by rw [htl, hlen, hsr]; omega), sub, hb]
    have : encB rs = (P ++ keyB r.1 ++ be1 r.2.size) ++ bys r.2 ++ Q := by rw [hcut, recB]; simp only [List.append_assoc]
    rw [this, List.append_assoc, List.drop_left' (by simp only [List.length_append, ← hsz, keyB_len, hd, be1, List.length_singleton]), List.take_left' (bys_len _), txt_bys]
theorem decL_enc (hw : ∀ r ∈ rs, Wr r ∧ r.1.length = dim) (hl : rs.length < 256) : decL (txt (encB rs)) dim = rs ∧ cutB (txt (encB rs)) dim = false := by
  have hb : bys (txt (encB rs)) = encB rs := bys_txt _ (encB_lt (fun r hr => (hw r hr).1) hl)
  have hc : cntB (txt (encB rs)) = rs.length := by rw [cntB, hb, encB]; simp [be1]
  constructor
  · rw [decL, hc, recsAt]
    apply List.ext_getElem
    · simp
    · intro i h1 h2
      simp only [List.getElem_map, List.getElem_range]
      rw [rec_enc hw hl i h2, Ri.recD i h2]
  · rw [cutB, hc, pos_enc hw hl _ (Nat.le_refl _), List.take_length, txt_size, encB_len, decide_eq_false_iff_not]
    omega
end
end Go.Proofs.Ytehhmpoijonghaa.Bp10
