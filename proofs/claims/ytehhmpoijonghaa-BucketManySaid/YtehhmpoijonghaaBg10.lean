/- Layer 10: Decode, the program's. -/
import Derived.Test.YtehhmpoijonghaaBf10
namespace Go.Proofs.Ytehhmpoijonghaa.Bg10
open Go.RowKit Go.Proofs.Ytehhmpoijonghaa.Pk08 Go.Proofs.Ytehhmpoijonghaa.Base Go.Proofs.Ytehhmpoijonghaa.App Go.Proofs.Ytehhmpoijonghaa.Str Go.Proofs.Ytehhmpoijonghaa.Ky Go.Proofs.Ytehhmpoijonghaa.Bx Go.Proofs.Ytehhmpoijonghaa.Bo Go.Proofs.Ytehhmpoijonghaa.As Go.Proofs.Ytehhmpoijonghaa.Ki08 Go.Proofs.Ytehhmpoijonghaa.Pl08 Go.Proofs.Ytehhmpoijonghaa.Kc08 Go.Proofs.Ytehhmpoijonghaa.Kd08 Go.Proofs.Ytehhmpoijonghaa.Rv Go.Proofs.Ytehhmpoijonghaa.Ra Go.Proofs.Ytehhmpoijonghaa.Rp Go.Proofs.Ytehhmpoijonghaa.Ro Go.Proofs.Ytehhmpoijonghaa.Rk Go.Proofs.Ytehhmpoijonghaa.Ri Go.Proofs.Ytehhmpoijonghaa.Fa Go.Proofs.Ytehhmpoijonghaa.Ba10 Go.Proofs.Ytehhmpoijonghaa.Bd10 Go.Proofs.Ytehhmpoijonghaa.Bp10 Go.Proofs.Ytehhmpoijonghaa.Be10 Go.Proofs.Ytehhmpoijonghaa.Bf10
set_option linter.unusedVariables false
set_option linter.unusedSimpArgs false
attribute [local go_sem ↓ high] builtin_app
/-! ### the ways of no records -/
theorem dec_no1 {s : ByteArray} {d cap : Int} (h : dimB d = false) : decE s d cap = 1 ∧ decR s d cap = [] := by simp [decE, decR, h]
theorem dec_no2 {s : ByteArray} {d cap : Int} (h : capB cap = false) : decE s d cap = 1 ∧ decR s d cap = [] := by simp [decE, decR, h]
theorem dec_cut {s : ByteArray} {dim : Nat} {cap : Int} (h1 : dimB dim = true) (h2 : capB cap = true) (h : cutB s dim = true) : decE s dim cap = 9 ∧ decR s dim cap = [] := by simp [decE, decR, h1, h2, h]
theorem dec_form {s : ByteArray} {dim : Nat} {cap : Int} (h1 : dimB dim = true) (h2 : capB cap = true) (h : cutB s dim = false) (h3 : formB s dim cap = false) : decE s dim cap = 6 ∧ decR s dim cap = [] := by simp [decE, decR, h1, h2, h, h3]
theorem dec_yes {s : ByteArray} {dim : Nat} {cap : Int} (h1 : dimB dim = true) (h2 : capB cap = true) (h : cutB s dim = false) (h3 : formB s dim cap = true) : decE s dim cap = 0 ∧ decR s dim cap = decL s dim := by simp [decE, decR, h1, h2, h, h3]
/-! ### a point being read -/
def part (ks : List Nat) (k : Nat) : List Nat := ks.take k ++ List.replicate (ks.length - k) 0
theorem part_len (ks : List Nat) (k : Nat) (h : k ≤ ks.length) : (part ks k).length = ks.length := by simp [part]; omega
theorem part_set (ks : List Nat) (k : Nat) (h : k < ks.length) : (part ks k).set k (ks.getD k 0) = part ks (k + 1) := by
  apply List.ext_getElem
  · rw [List.length_set, part_len _ _ (by omega), part_len _ _ h]
  · intro i h1 h2
    have hx : ks.getD k 0 = ks[k] := by simp [List.getD_eq_getElem?_getD, h]
    have hil : i < ks.length := by rw [part_len _ _ h] at h2; exact h2
    rw [List.getElem_set]
    simp only [part, List.getElem_append, List.getElem_take, List.length_take, List.getElem_replicate, hx]
    by_cases e : k = i
    · subst e
      rw [if_pos rfl, dif_pos (by omega)]
    · rw [if_neg e]
      by_cases hi : i < k
      · rw [dif_pos (by omega), dif_pos (by omega)]
      · rw [dif_neg (by omega), dif_neg (by omega)]
theorem part_zero (ks : List Nat) : part ks 0 = List.replicate ks.length 0 := by simp [part]
theorem part_all (ks : List Nat) : part ks ks.length = ks := by simp [part]
def keyAt (s : ByteArray) (dim j : Nat) : List Nat := (List.range dim).map (fun k => gk s (posB s dim j + 4 * k) 4)
theorem keyAt_len (s : ByteArray) (dim j : Nat) : (keyAt s dim j).length = dim := by simp [keyAt]
theorem keyAt_get (s : ByteArray) (dim j k : Nat) (h : k < dim) : (keyAt s dim j).getD k 0 = gk s (posB s dim j + 4 * k) 4 := by simp [keyAt, List.getD_eq_getElem?_getD, h]
theorem Kv_of_ob {w : World} {g : Nat} {ks : List Nat} {T : TypeId} (h : Ob w g (u32s ks).toArray T) (hl : ∀ x ∈ ks, x < 4294967296) (hm : ks.length ≤ 1000) : Kv w (some ⟨g, 0, none⟩) ks.length ks.length ks :=
  ⟨rfl, Nat.le_refl _, Nat.le_trans hm (by decide), hl, fun h0 => ⟨g, 0, rfl, fun i hi => by
    rw [Nat.zero_add]
    refine h.cell i ?_
    simp [u32s, List.getD_eq_getElem?_getD, hi]⟩⟩
section
variable {w : World}
theorem u32s_setA (xs : List Nat) (k v : Nat) : (u32s xs).toArray.setIfInBounds k (.int .u32 (v : Int)) = (u32s (xs.set k v)).toArray := by
  rw [List.setIfInBounds_toArray]
  simp [u32s, List.map_set]
theorem u32s_cell {w : World} {g : Nat} {T : TypeId} {xs : List Nat} (k : Nat) (h : k < xs.length) (ho : Ob w g (u32s xs).toArray T) : w.cell? ⟨g, k, none⟩ = some (.int .u32 ((xs.getD k 0 : Nat) : Int)) := by
  refine ho.cell k ?_
  simp [u32s, List.getD_eq_getElem?_getD, h]
/-- A record read is put behind the list. -/
theorem step_done {wr w8 : World} {gc ga gb n c j cP dim a : Nat} {P : Option Addr} {rs : List Rv.Rec} {ks : List Nat} {s tx e0 : ByteArray}
    (hO : Ow wr (gc + 1) 38 (fun b => gc + 1 ≤ b) P j cP rs) (hB : gc + 1 ≤ wr.heap.size) (hf : Fr (fun b => b = gc) wr w8)
    (hob : Ob w8 wr.heap.size (u32s ks).toArray 51) (hor : Ob w8 (wr.heap.size + 1) #[.slice (some ⟨wr.heap.size, 0, none⟩) dim dim, .string e0] 38)
    (hks : ks.length = dim) (hlt : ∀ x ∈ ks, x < 4294967296) (hdim : dim ≤ 6) (hj : j ≤ 2000000) (htx : tx.size ≤ maxLen)
    (hcr : Cr w8 gc ga gb n c s a) (hga : ga < gc) (hgb : gb < gc) (hfw : Fr No w wr) (hwg : w.heap.size ≤ gc) :
    ∃ A1 c1 w1, (appSem #[22, 22] 22 #[.slice P j cP, .slice (some ⟨w8.heap.size, 0, none⟩) 1 1]).run Try.prog ((w8.setCell ⟨wr.heap.size + 1, 1, none⟩ (.string tx)).alloc (.cells #[.slice (some ⟨wr.heap.size, 0, none⟩) dim dim, .string tx] 38)) = .ok (.slice A1 (j + 1) c1) w1 ∧ Hid (Cr w1 gc ga gb n c s a ∧ Ow w1 (gc + 1) 38 (fun b => gc + 1 ≤ b) A1 (j + 1) c1 (rs ++ [(ks, tx)]) ∧ Fr No w w1 ∧ gc + 1 ≤ w1.heap.size) := by
  subst hks
  have hs8 := hf.size
  have hf2 : Fr (fun b => b = gc) wr (w8.setCell ⟨wr.heap.size + 1, 1, none⟩ (.string tx)) := hf.setCell (.inr (by simp)) _
  have hO2 : Ow (w8.setCell ⟨wr.heap.size + 1, 1, none⟩ (.string tx)) (gc + 1) 38 (fun b => gc + 1 ≤ b) P j cP rs := by
    refine hO.fr hf2 (fun k hk e => ?_) (fun b hb e => ?_)
    · have := (hO.blk k hk).1; omega
    · omega
  have hob2 : Ob (w8.setCell ⟨wr.heap.size + 1, 1, none⟩ (.string tx)) wr.heap.size (u32s ks).toArray 51 := hob.other (by simp) _
  have hpk : Pk (w8.setCell ⟨wr.heap.size + 1, 1, none⟩ (.string tx)) (fun b => gc + 1 ≤ b ∧ Av P b) (some ⟨wr.heap.size, 0, none⟩, ks.length, (ks, tx)) := by
    refine ⟨Kv_of_ob hob2 hlt (Nat.le_trans hdim (by decide)), htx, fun _ b off e => ?_⟩
    have e' : b = wr.heap.size := by injection e with e; injection e with e1; exact e1.symm
    subst e'
    refine ⟨hB, fun g o eA => ?_⟩
    have := Ow.at_lt hO g o eA
    omega
  obtain ⟨A1, c1, w1, hrun, hO1, hgr, hfr, hat⟩ := push_old hO2 (by have := hf2.size; omega) hpk hj
  refine ⟨A1, c1, w1, by simpa using hrun, Lib.hid ⟨?_, hO1, ?_, ?_⟩⟩
  · have f1 : Fr (fun b => b = wr.heap.size + 1) w8 ((w8.setCell ⟨wr.heap.size + 1, 1, none⟩ (.string tx)).alloc (.cells #[.slice (some ⟨wr.heap.size, 0, none⟩) ks.length ks.length, .string tx] 38)) := ((Fr.refl (fun b => b = wr.heap.size + 1) w8).setCell (p := ⟨wr.heap.size + 1, 1, none⟩) (.inl rfl) _).alloc _
    have h1 := hcr.fr f1 (fun k e => by refine ⟨?_, ?_, ?_⟩ <;> omega)
    refine h1.fr (grown_fr hgr) (fun k e => ?_)
    have := (hO.blk k e).1
    refine ⟨?_, ?_, ?_⟩ <;> omega
  · exact hfr w (by omega) ((hfw.trans hf (fun k e => .inr (by omega))).setCell (.inr (by have := hfw.size; simp; omega)) _)
  · have := hO1
    have h2 := (grown_fr hgr).size
    have h3 := hf2.size
    simp at h2
    omega
set_option maxRecDepth 8000 in
set_option maxHeartbeats 3200000 in
theorem decode_any (s : ByteArray) (d cap : Int) (hs : s.size ≤ 300) : Calls Try.prog 17 #[.string s, .int .i64 d, .int .i64 cap] w fun e w' => ∃ A n c, e = .returned (.tuple #[.slice A n c, .int .i64 ((decE s d cap : Nat) : Int)]) ∧ Rv w' A n c (decR s d cap) ∧ Fr No w w' := by
  by_cases g1 : d < 1
  · obtain ⟨e1, e2⟩ := dec_no1 (s := s) (cap := cap) (show dimB d = false by simp [dimB]; omega)
    rw [e1, e2]
    go_enter Try.func17, Try.ntmps17
    go_wp2
    go_ret2
    exact ⟨none, 0, 0, rfl, Rv.none_ _, Fr.refl _ _⟩
  by_cases g2 : 6 < d
  · obtain ⟨e1, e2⟩ := dec_no1 (s := s) (cap := cap) (show dimB d = false by simp [dimB]; omega)
    rw [e1, e2]
    go_enter Try.func17, Try.ntmps17
    go_wp2
    go_ret2
    exact ⟨none, 0, 0, rfl, Rv.none_ _, Fr.refl _ _⟩
  have hd : dimB d = true := by simp [dimB]; omega
  obtain ⟨dim, rfl⟩ : ∃ dim : Nat, d = dim := ⟨d.toNat, by omega⟩
  have hdim : 1 ≤ dim := by omega
  have hdim6 : dim ≤ 6 := by omega
  cases h1 : capB cap with
  | false =>
    obtain ⟨e1, e2⟩ := dec_no2 (s := s) (d := dim) h1
    rw [e1, e2]
    go_enter Try.func17, Try.ntmps17
    go_wp2_with (go_at_call 30; ((with_reducible refine (cap_any _).mono ?_); rintro e w5 ⟨rfl, rfl⟩; rw [h1]))
    go_ret2
    exact ⟨none, 0, 0, rfl, Rv.none_ _, Fr.refl _ _⟩
  | true =>
    have hmk : ∀ W : World, (Instr.makeSlice 36 (.int .i64 (dim : Int)) (.int .i64 (dim : Int))).run Try.prog W = .ok (.slice (some ⟨W.heap.size, 0, none⟩) dim dim) (W.alloc (.cells (madeCells #[.int .u32 0] dim) 51)) := by
      intro W
      have := run_made (P := Try.prog) 36 51 (.int .u32 0) 4 Try.underlying36 info_u32 rfl (by decide) dim (by omega) (by omega) W
      simpa using this
    have hl : madeCells #[Value.int .u32 0] dim = (u32s (List.replicate dim 0)).toArray := by
      apply Array.ext'
      apply List.ext_getElem
      · simp [u32s, madeCells]
      · intro i h1 h2
        simp [u32s, madeCells, Nat.mod_one]
    rw [hl] at hmk
    clear hl
    have hg1 : gk s 0 1 = cntB s := gk1 s 0
    have hcl := cntB_lt s
    go_enter Try.func17, Try.ntmps17
    go_wp2_with first
      | (go_at_call 30; ((with_reducible refine (cap_any _).mono ?_); rintro e w5 ⟨rfl, rfl⟩; rw [h1]))
      | (go_at_call 37; ((with_reducible refine (of_any s (by omega)).mono ?_); rintro e w6 ⟨ga, gb, c6, rfl, hoa, hc6, hb6, hga, hgb, hab, hf6⟩))
      | (go_at_call 38; ((with_reducible refine (cget (Cr.start hoa (by omega) hc6 rfl hb6 hab) 1 1 rfl (.inl rfl) (by omega)).mono ?_); rintro e w7 ⟨rfl, hcr7, hf7⟩; rw [hg1]))
      | fail
    have hgl := hoa.lt
    have hfr7 : Fr No w w7 := ((hf6.alloc _).trans hf7 (fun k e => .inr (by subst e; exact hf6.size)))
    have hB0 : w6.heap.size + 1 ≤ w7.heap.size := by have := hf7.size; simpa using this
    have hwg : w.heap.size ≤ w6.heap.size := hf6.size
    clear hf7 hoa hb6 hf6
    generalize w6.heap.size = gc at *
    rw [Nat.zero_add] at hcr7
    have Hcr := Lib.hid (show Cr w7 gc ga gb s.size c6 s (posB s dim 0) from hcr7)
    have Hfr := Lib.hid hfr7
    have Hg := Lib.hid hgl
    have Hab := Lib.hid hab
    have Hga := Lib.hid hga
    have Hgb := Lib.hid hgb
    have HB0 := Lib.hid hB0
    have hcnt := Lib.hid (show cntB s = cntB s from rfl)
    clear hcr7 hfr7 hgl hab hga hgb hB0 hg1
    generalize hcd : cntB s = cnt at *
    have Hcd := Lib.hid hcd
    clear hcd hcnt
    go_loopw [12, 11] (fun v l wr => ∃ q j : Nat, ∃ (P : Option Addr) (cP : Nat), v = .int .u32 q ∧ l = .slice P j cP ∧ q + j = cnt ∧ Hid (Cr wr gc ga gb s.size c6 s (posB s dim j) ∧ Ow wr (gc + 1) 38 (fun b => gc + 1 ≤ b) P j cP (recsAt s dim j) ∧ Fr No w wr ∧ gc + 1 ≤ wr.heap.size)) (fun v _ _ => (intOf v).toNat)
    case atStart => exact ⟨cnt, 0, none, 0, rfl, rfl, rfl, Lib.hid ⟨Hcr.out, by simpa [recsAt] using Ow.nil_ _ _ _ _, Hfr.out, HB0.out⟩⟩
    case round =>
      obtain ⟨q, j, P, cP, rfl, rfl, hq, Hj⟩ := hrel
      by_cases hp : posB s dim j ≤ s.size
      · have c2 := Hj.out.1.two_in hp
        by_cases hq0 : q = 0
        · subst hq0
          obtain rfl : j = cnt := by omega
          have hcut : cutB s dim = false := by rw [cutB, Hcd.out, decide_eq_false_iff_not]; omega
          have hL : recsAt s dim j = decL s dim := by rw [decL, Hcd.out]
          have hrv := Hj.out.2.1.rv
          rw [hL] at hrv
          have Hrv := Lib.hid hrv
          have Htn := Lib.hid (show Tiny (decL s dim) by rw [← hL]; exact recsAt_tiny s dim j hdim6 (by omega))
          clear hrv hL
          cases hok : encOk (decL s dim) dim cap with
          | false =>
            obtain ⟨e1, e2⟩ := dec_form (s := s) (dim := dim) hd h1 hcut (by simp [formB, hok])
            go_wp2_with (go_at_call 11; ((with_reducible refine (encode_any (rs := decL s dim) _ _ ?_ Htn.out).mono ?_); (focus ((have h := Hrv.out); (repeat (first | with_reducible assumption | with_reducible exact Rv.none_ _ | with_reducible refine Rv.alloc ?_ _ | with_reducible refine Rv.drew ?_ | with_reducible refine Rv.drewN ?_ _ | with_reducible refine Rv.no ?_ (by assumption))))); rintro e w8 ⟨rfl, hf8⟩; rw [encE_no hok]))
            go_ret2
            rw [e1, e2]
            exact ⟨none, 0, 0, rfl, Rv.none_ _, Hj.out.2.2.1.tr hf8⟩
          | true =>
            by_cases heq : txt (encB (decL s dim)) = s
            · obtain ⟨e1, e2⟩ := dec_yes (s := s) (dim := dim) hd h1 hcut (by simp [formB, hok, encT, heq])
              go_wp2_with (go_at_call 11; ((with_reducible refine (encode_any (rs := decL s dim) _ _ ?_ Htn.out).mono ?_); (focus ((have h := Hrv.out); (repeat (first | with_reducible assumption | with_reducible exact Rv.none_ _ | with_reducible refine Rv.alloc ?_ _ | with_reducible refine Rv.drew ?_ | with_reducible refine Rv.drewN ?_ _ | with_reducible refine Rv.no ?_ (by assumption))))); rintro e w8 ⟨rfl, hf8⟩; rw [encE_yes hok, encT_yes hok, heq]))
              go_ret2
              rw [e1, e2]
              exact ⟨P, j, cP, rfl, Hrv.out.no hf8, Hj.out.2.2.1.tr hf8⟩
            · have hstr := str_no heq
              obtain ⟨e1, e2⟩ := dec_form (s := s) (dim := dim) hd h1 hcut (by simp [formB, hok, encT, heq])
              go_wp2_with (go_at_call 11; ((with_reducible refine (encode_any (rs := decL s dim) _ _ ?_ Htn.out).mono ?_); (focus ((have h := Hrv.out); (repeat (first | with_reducible assumption | with_reducible exact Rv.none_ _ | with_reducible refine Rv.alloc ?_ _ | with_reducible refine Rv.drew ?_ | with_reducible refine Rv.drewN ?_ _ | with_reducible refine Rv.no ?_ (by assumption))))); rintro e w8 ⟨rfl, hf8⟩; rw [encE_yes hok, encT_yes hok]))
              go_ret2
              rw [e1, e2]
              exact ⟨none, 0, 0, rfl, Rv.none_ _, Hj.out.2.2.1.tr hf8⟩
        · have hq1 : 0 < q := by omega
          obtain ⟨wq, hwq⟩ : ∃ x, x = wr := ⟨wr, rfl⟩
          subst hwq
          go_wp2
          have hjl : j ≤ 255 := by omega
          have hpl := posB_le s dim j hdim6
          have hpl2 : posB s dim j ≤ 71401 := by omega
          have hga1 := Hga.out
          have hgb1 := Hgb.out
          have hg1 := Hg.out
          have hab1 := Hab.out
          have hwr := Hj.out.2.2.2
          have HK := Lib.hid (keyAt_len s dim j)
          have hob0 : Ob ((wq.alloc (.cells (u32s (List.replicate dim 0)).toArray 51)).alloc (.cells #[.slice (some ⟨wq.heap.size, 0, none⟩) dim dim, .string { data := #[] }] 38)) wq.heap.size (u32s (part (keyAt s dim j) 0)).toArray 51 := by
            rw [part_zero, keyAt_len]
            exact (Ob.new _ _ _).alloc _
          have hob1 : Ob ((wq.alloc (.cells (u32s (List.replicate dim 0)).toArray 51)).alloc (.cells #[.slice (some ⟨wq.heap.size, 0, none⟩) dim dim, .string { data := #[] }] 38)) (wq.heap.size + 1) #[.slice (some ⟨wq.heap.size, 0, none⟩) dim dim, .string { data := #[] }] 38 := by
            have := Ob.new (wq.alloc (.cells (u32s (List.replicate dim 0)).toArray 51)) #[.slice (some ⟨wq.heap.size, 0, none⟩) dim dim, .string { data := #[] }] 38
            simpa using this
          have hfa : Fr No wq ((wq.alloc (.cells (u32s (List.replicate dim 0)).toArray 51)).alloc (.cells #[.slice (some ⟨wq.heap.size, 0, none⟩) dim dim, .string { data := #[] }] 38)) := ((Fr.refl _ _).alloc _).alloc _
          have hcr0 : Cr ((wq.alloc (.cells (u32s (List.replicate dim 0)).toArray 51)).alloc (.cells #[.slice (some ⟨wq.heap.size, 0, none⟩) dim dim, .string { data := #[] }] 38)) gc ga gb s.size c6 s (posB s dim j + 4 * 0) := Hj.out.1.fr hfa (fun k e => e.elim)
          have hgqc : gc + 1 ≤ wq.heap.size := hwr
          have HJ := Lib.hid hjl
          clear c2 hmk
          generalize ((wq.alloc (.cells (u32s (List.replicate dim 0)).toArray 51)).alloc (.cells #[.slice (some ⟨wq.heap.size, 0, none⟩) dim dim, .string { data := #[] }] 38)) = wa at *
          have hfa2 : Fr (fun b => b = gc) wq wa := hfa.mono (fun k e => e.elim)
          clear hfa
          go_loopw [57] (fun v wk => ∃ k : Nat, v = .int .i64 k ∧ k ≤ dim ∧ Hid (Cr wk gc ga gb s.size c6 s (posB s dim j + 4 * k) ∧ Ob wk wq.heap.size (u32s (part (keyAt s dim j) k)).toArray 51 ∧ Ob wk (wq.heap.size + 1) #[.slice (some ⟨wq.heap.size, 0, none⟩) dim dim, .string { data := #[] }] 38 ∧ Fr (fun b => b = gc) wq wk)) (fun v _ => dim - (intOf v).toNat)
          case atStart => exact ⟨0, rfl, Nat.zero_le _, Lib.hid ⟨hcr0, hob0, hob1, hfa2⟩⟩
          case round =>
            obtain ⟨k, rfl, hk, Hk⟩ := hrel
            clear hcr0 hob0 hob1 hfa2
            obtain ⟨x0, x1⟩ := cells2 Hk.out.2.2.1
            by_cases hkt : k < dim
            · have Hkey := Lib.hid (keyAt_get s dim j k hkt)
              generalize hv : gk s (posB s dim j + 4 * k) 4 = v at *
              have Hv := Lib.hid hv
              clear hv
              go_wp2
              (refine wp_region_held_drew (S := fun w' => w'.cell? ⟨wq.heap.size + 1, 0, none⟩ = some (.slice (some ⟨wq.heap.size, 0, none⟩) dim dim)) (by kernel_rfl) ?_ (fun hHeld => ?_); focus ((try dsimp only); exact x0; done))
              ((refine wpAnyH_take (i := 0) (v := ?_) rfl (by kernel_rfl) (by kernel_rfl) (by kernel_rfl) (fun _ _ _ h => h) (Or.inl ⟨by rfl, ?_⟩) (by assumption) ?_; rotate_left; focus (intro w hSw; (try dsimp only at hSw); go_simp; (try with_reducible rfl); done)); (try simp only [Act.put, List.setIfInBounds_toArray, List.set_cons_zero, List.set_cons_succ, List.getElem_toArray, List.getElem_cons_zero, List.getElem_cons_succ]); (refine wpAnyH_take (i := 1) (v := ?_) rfl (by kernel_rfl) (by kernel_rfl) (by kernel_rfl) (fun _ _ _ h => h) (Or.inl ⟨by rfl, ?_⟩) (by assumption) ?_; rotate_left; focus (intro w hSw; (try dsimp only at hSw); go_simp; (try with_reducible rfl); done)); (try simp only [Act.put, List.setIfInBounds_toArray, List.set_cons_zero, List.set_cons_succ, List.getElem_toArray, List.getElem_cons_zero, List.getElem_cons_succ]); (refine wpAnyH_take (i := 2) (v := ?_) rfl (by kernel_rfl) (by kernel_rfl) (by kernel_rfl) (fun _ _ _ h => h) (Or.inl ⟨by rfl, ?_⟩) (by assumption) ?_; rotate_left; focus (intro w hSw; (try dsimp only at hSw); go_simp; (try with_reducible rfl); done)); (try simp only [Act.put, List.setIfInBounds_toArray, List.set_cons_zero, List.set_cons_succ, List.getElem_toArray, List.getElem_cons_zero, List.getElem_cons_succ]); (refine wpAnyH_take (i := 3) (v := ?_) rfl (by kernel_rfl) (by kernel_rfl) (by kernel_rfl) (fun _ _ _ h => h) (Or.inl ⟨by rfl, ?_⟩) (by assumption) ?_; rotate_left; focus (intro w hSw; (try dsimp only at hSw); go_simp; (try with_reducible rfl); done)); (try simp only [Act.put, List.setIfInBounds_toArray, List.set_cons_zero, List.set_cons_succ, List.getElem_toArray, List.getElem_cons_zero, List.getElem_cons_succ]))
              (refine wpAnyH_ready (rs := [4]) (by kernel_rfl) (by simp) ?_; refine AllReadyH.cons rfl (fun K hK => ?_) AllReadyH.nil; (try simp only [Act.put, List.setIfInBounds_toArray, List.set_cons_zero, List.set_cons_succ, List.getElem_toArray, List.getElem_cons_zero, List.getElem_cons_succ]); go_simp; (go_at_call 38; ((with_reducible refine (cget Hk.out.1.drew_ 4 4 rfl (.inr rfl) (by omega)).mono ?_); rintro e w5 ⟨rfl, hcr5, hf5⟩; rw [Hv.out]; (have hb5 := (Hk.out.2.1.drew.fr hf5 (by omega))); (have hc5 := (Hk.out.2.2.1.drew.fr hf5 (by omega)).cell 0 rfl); (have b0 := u32s_cell k (by rw [part_len _ _ (by rw [HK.out]; omega), HK.out]; omega) hb5); have b1 := hb5.frozen k)); (try go_wp2_with fail); refine hK.out _ _ ?_ (fun hHeld => ?_); focus ((try dsimp only); exact hc5; done)); (clear hK K); (try simp only [Act.put, List.setIfInBounds_toArray, List.set_cons_zero, List.set_cons_succ, List.getElem_toArray, List.getElem_cons_zero, List.getElem_cons_succ])
              (refine wpAnyH_take (i := 5) (v := ?_) rfl (by kernel_rfl) (by kernel_rfl) (by kernel_rfl) (fun _ _ _ h => h) (Or.inl ⟨by rfl, ?_⟩) (by assumption) ?_; rotate_left; focus (intro w hSw; (try dsimp only at hSw); go_simp; (try with_reducible rfl); done)); (try simp only [Act.put, List.setIfInBounds_toArray, List.set_cons_zero, List.set_cons_succ, List.getElem_toArray, List.getElem_cons_zero, List.getElem_cons_succ])
              (refine wpAnyH_ready (rs := [6]) (by kernel_rfl) (by simp) ?_; refine AllReadyH.cons rfl (fun K hK => ?_) AllReadyH.nil; go_simp; skip; (try go_wp2_with fail); refine hK.out _ _ ?_ (fun hHeld => ?_); focus ((try dsimp only); (repeat (first | with_reducible assumption | with_reducible refine cel_alloc ?_ _ | with_reducible refine cel_drew ?_ | with_reducible refine cel_drewN ?_ _ | with_reducible refine cel_set ?_ (by first | (simp; done) | (simp; omega)) _ | with_reducible refine cel_no ?_ (by assumption))); done)); (clear hK K); (try simp only [Act.put, List.setIfInBounds_toArray, List.set_cons_zero, List.set_cons_succ, List.getElem_toArray, List.getElem_cons_zero, List.getElem_cons_succ])
              (refine wpAnyH_done (by kernel_rfl) ?_ _)
              go_wp2
              refine ⟨⟨k + 1, by go_num, hkt, Lib.hid ⟨?_, ?_, ?_, ?_⟩⟩, by simp [intOf]; omega⟩
              · rw [show posB s dim j + 4 * (k + 1) = posB s dim j + 4 * k + 4 by omega]
                exact hcr5.fr ((Fr.refl (fun b => b = wq.heap.size) w5).setCell (p := ⟨wq.heap.size, k, none⟩) (.inl rfl) _) (fun x e => by refine ⟨?_, ?_, ?_⟩ <;> omega)
              · have h5 := hb5.set k (.int .u32 (v : Int))
                rw [u32s_setA, ← Hkey.out, part_set _ k (by rw [HK.out]; exact hkt)] at h5
                rw [← Hkey.out]
                exact h5
              · exact (Hk.out.2.2.1.drew.fr hf5 (by omega)).other (by simp) _
              · exact (Hk.out.2.2.2.drew.tr hf5).setCell (.inr (Nat.le_refl _)) _
            · obtain rfl : dim = k := by omega
              have hob := Hk.out.2.1
              rw [show part (keyAt s dim j) dim = keyAt s dim j by have := part_all (keyAt s dim j); rwa [HK.out] at this] at hob
              have Hob := Lib.hid hob
              have hz1 := gk1 s (posB s dim j + 4 * dim)
              have hz2 := bys_getD_lt s (posB s dim j + 4 * dim)
              rw [← hz1] at hz2
              have Hz := Lib.hid hz1
              clear hz1 hob
              generalize hzd : gk s (posB s dim j + 4 * dim) 1 = z at *
              have Hgz := Lib.hid hzd
              clear hzd
              have hts := gt_size s (posB s dim j + 4 * dim + 1) z
              have Hrec := Lib.hid (show recAt s dim j = (keyAt s dim j, gt s (posB s dim j + 4 * dim + 1) z) by rw [Hz.out]; rfl)
              generalize htx : gt s (posB s dim j + 4 * dim + 1) z = tx at *
              have Htx := Lib.hid htx.symm
              clear htx
              have Hlt := Lib.hid (show ∀ x ∈ keyAt s dim j, x < 4294967296 from (recAt_wr s dim j).1)
              have Hmx := Lib.hid (show tx.size ≤ maxLen from Nat.le_trans hts (Nat.le_trans (Nat.le_of_lt hz2) (by decide)))
              go_wp2_with first
                | (go_at_call 38; ((with_reducible refine (cget Hk.out.1 1 1 rfl (.inl rfl) (by omega)).mono ?_); rintro e w5 ⟨rfl, hcr5, hf5⟩; rw [Hgz.out]))
                | (go_at_call 39; ((with_reducible refine (ctext hcr5 z (by omega) (by omega)).mono ?_); rintro e w8 ⟨rfl, hcr8, hf8⟩; (have hor8 := (Hk.out.2.2.1.fr hf5 (by omega)).fr hf8 (by omega)); (have hoc1 := hor8.cell 1 rfl); (have hoc0 := hor8.cell 0 rfl); (have hofz := hor8.frozen 1); (rw [← Htx.out]); (obtain ⟨A1, c1, w9, hrun, H9⟩ := step_done (w := w) Hj.out.2.1 hwr ((Hk.out.2.2.2.tr hf5).tr hf8) ((Hob.out.fr hf5 (by omega)).fr hf8 (by omega)) hor8 HK.out Hlt.out hdim6 (by omega) Hmx.out hcr8 hg1 (by omega) Hj.out.2.2.1 hwg)))
                | fail
              refine ⟨⟨q - 1, j + 1, A1, c1, by rw [show ((q - 1 : Nat) : Int) = (q : Int) - 1 by omega], rfl, by omega, Lib.hid ⟨?_, ?_, H9.out.2.2.1, H9.out.2.2.2⟩⟩, by simp [intOf]; omega⟩
              · rw [posB, ← Hz.out]; exact H9.out.1
              · rw [recsAt_succ, Hrec.out]; exact H9.out.2.1
      · have c2 := Hj.out.1.two_out hp
        have hcut : cutB s dim = true := by rw [cutB, Hcd.out, decide_eq_true_eq]; have := posB_mono s dim j cnt (by omega); omega
        obtain ⟨e1, e2⟩ := dec_cut (s := s) (dim := dim) hd h1 hcut
        by_cases hq0 : q = 0
        · subst hq0
          go_wp2
          go_ret2
          rw [e1, e2]
          exact ⟨none, 0, 0, rfl, Rv.none_ _, Hj.out.2.2.1⟩
        · have hq1 : 0 < q := by omega
          go_wp2
          go_ret2
          rw [e1, e2]
          exact ⟨none, 0, 0, rfl, Rv.none_ _, Hj.out.2.2.1⟩
end
end Go.Proofs.Ytehhmpoijonghaa.Bg10
