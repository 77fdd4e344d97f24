/- Layer 9: the records of a window: slices.DeleteFunc on a list of the call's own. -/
import Derived.Test.YteckbcfigklkpaaAd09
import Derived.Test.YteckbcfigklkpaaGb
namespace Go.Proofs.Yteckbcfigklkpaa.Ae09
open Go.RowKit Go.Lib Go.Proofs.Yteckbcfigklkpaa.Pk08 Go.Proofs.Yteckbcfigklkpaa.Base Go.Proofs.Yteckbcfigklkpaa.App Go.Proofs.Yteckbcfigklkpaa.Str Go.Proofs.Yteckbcfigklkpaa.Ky Go.Proofs.Yteckbcfigklkpaa.Bx Go.Proofs.Yteckbcfigklkpaa.Bo Go.Proofs.Yteckbcfigklkpaa.As Go.Proofs.Yteckbcfigklkpaa.Pl08 Go.Proofs.Yteckbcfigklkpaa.Kc08 Go.Proofs.Yteckbcfigklkpaa.Ke08 Go.Proofs.Yteckbcfigklkpaa.Cl Go.Proofs.Yteckbcfigklkpaa.Rv Go.Proofs.Yteckbcfigklkpaa.Ra Go.Proofs.Yteckbcfigklkpaa.Rp Go.Proofs.Yteckbcfigklkpaa.Ro Go.Proofs.Yteckbcfigklkpaa.Rk Go.Proofs.Yteckbcfigklkpaa.Rb Go.Proofs.Yteckbcfigklkpaa.Rf Go.Proofs.Yteckbcfigklkpaa.Ia Go.Proofs.Yteckbcfigklkpaa.Ib Go.Proofs.Yteckbcfigklkpaa.Aa09 Go.Proofs.Yteckbcfigklkpaa.Ab09 Go.Proofs.Yteckbcfigklkpaa.Ac09 Go.Proofs.Yteckbcfigklkpaa.Ad09
set_option linter.unusedVariables false
set_option linter.unusedSimpArgs false
attribute [local go_sem ↓ high] builtin_cl
/-- Is a record in a box? -/
def keep (lo hi : List Nat) (r : Rv.Rec) : Bool := inB r.1 lo hi
section
variable {K : Nat → Prop} {w w1 : World} {gb base : Nat} {A L H : Option Addr} {n c ln lc hn hc : Nat} {rs : List Rv.Rec} {lo hi ks : List Nat} {s : ByteArray}
/-- The box that is looked in. -/
structure Bb (w : World) (gb : Nat) (lo hi : List Nat) : Prop where
  ex : ∃ L ln lc H hn hc, Ob w gb #[.slice L ln lc, .slice H hn hc] 35 ∧ Kv w L ln lc lo ∧ Kv w H hn hc hi
theorem Bb.no (h : Bb w gb lo hi) (f : Fr No w w1) : Bb w1 gb lo hi := by
  obtain ⟨L, ln, lc, H, hn, hc, h1, h2, h3⟩ := h.ex
  exact ⟨L, ln, lc, H, hn, hc, h1.no f, h2.no f, h3.no f⟩
theorem win1_any (hk : Kv w A n c ks) (hb : Bb w gb lo hi) : Calls Try.prog 46 #[.agg #[.slice A n c, .string s], .pointer (some ⟨gb, 0, none⟩)] w fun e w' => e = .returned (.bool (!keep lo hi (ks, s))) ∧ Fr No w w' := by
  obtain ⟨L, ln, lc, H, hn, hc, h1, h2, h3⟩ := hb.ex
  obtain ⟨b0, b1⟩ := cells2 h1
  have hgl := h1.lt
  have hgl2 : gb ≠ w.heap.size := by omega
  have Hk := Lib.hid hk
  have H2 := Lib.hid h2
  have H3 := Lib.hid h3
  clear hk hb h1 h2 h3
  have e : keep lo hi (ks, s) = inB ks lo hi := rfl
  rw [e]; clear e
  go_enter Try.func46, Try.ntmps46
  go_wp2_with (go_at_call 47; ((with_reducible refine (in_any (k := ks) (lo := lo) (hi := hi) ?_ ?_ ?_).mono ?_); (focus ((have hk := Hk.out); (repeat (first | with_reducible assumption | ((with_reducible refine Kv.lit_new _ _ _ _ _ _ ?_ ?_ ?_ ?_) <;> (first | (simp; done) | rfl | decide)) | with_reducible exact Kv.none_ _ | with_reducible refine Kv.alloc ?_ _ | with_reducible refine Kv.drew ?_ | with_reducible refine Kv.drewN ?_ _ | with_reducible refine Kv.no ?_ (by assumption))))); (focus ((have hk := H2.out); (repeat (first | with_reducible assumption | ((with_reducible refine Kv.lit_new _ _ _ _ _ _ ?_ ?_ ?_ ?_) <;> (first | (simp; done) | rfl | decide)) | with_reducible exact Kv.none_ _ | with_reducible refine Kv.alloc ?_ _ | with_reducible refine Kv.drew ?_ | with_reducible refine Kv.drewN ?_ _ | with_reducible refine Kv.no ?_ (by assumption))))); (focus ((have hk := H3.out); (repeat (first | with_reducible assumption | ((with_reducible refine Kv.lit_new _ _ _ _ _ _ ?_ ?_ ?_ ?_) <;> (first | (simp; done) | rfl | decide)) | with_reducible exact Kv.none_ _ | with_reducible refine Kv.alloc ?_ _ | with_reducible refine Kv.drew ?_ | with_reducible refine Kv.drewN ?_ _ | with_reducible refine Kv.no ?_ (by assumption))))); rintro e w5 ⟨rfl, hf5⟩))
  go_ret
  exact ⟨rfl, by (repeat (first | with_reducible exact Fr.refl _ _ | with_reducible refine Fr.setCell ?_ (.inr (by first | (simp; done) | (simp; omega))) _ | with_reducible refine Fr.alloc ?_ _ | with_reducible refine Fr.drew ?_ | with_reducible refine Fr.drewN ?_ _ | with_reducible refine Fr.tr ?_ (by assumption)))⟩
/-- The first record that goes, or the list's end. -/
def firstOut (p : Rv.Rec → Bool) : List Rv.Rec → Nat
  | [] => 0
  | r :: rs => if p r = true then firstOut p rs + 1 else 0
theorem firstOut_le (p : Rv.Rec → Bool) (rs : List Rv.Rec) : firstOut p rs ≤ rs.length := by
  induction rs with
  | nil => exact Nat.le_refl _
  | cons r rs ih => unfold firstOut; split <;> simp <;> omega
theorem firstOut_in (p : Rv.Rec → Bool) (rs : List Rv.Rec) : ∀ i, i < firstOut p rs → p (rs.getD i rec0) = true := by
  induction rs with
  | nil => intro i hi; simp [firstOut] at hi
  | cons r rs ih =>
    intro i hi
    unfold firstOut at hi
    split at hi
    · rename_i h
      rcases i with _ | i
      · simpa using h
      · simpa using ih i (by omega)
    · omega
theorem firstOut_at (p : Rv.Rec → Bool) (rs : List Rv.Rec) (h : firstOut p rs < rs.length) : p (rs.getD (firstOut p rs) rec0) = false := by
  induction rs with
  | nil => simp at h
  | cons r rs ih =>
    unfold firstOut at h ⊢
    split
    · rename_i hr
      rw [if_pos hr] at h
      simpa using ih (by simpa using h)
    · rename_i hr
      simpa using hr
theorem firstOut_eq (p : Rv.Rec → Bool) (rs : List Rv.Rec) (n : Nat) (hn : n ≤ rs.length) (h1 : ∀ i, i < n → p (rs.getD i rec0) = true) (h2 : n < rs.length → p (rs.getD n rec0) = false) : firstOut p rs = n := by
  rcases Nat.lt_trichotomy (firstOut p rs) n with h | h | h
  · have := firstOut_at p rs (by omega)
    rw [h1 _ h] at this
    cases this
  · exact h
  · have h3 := firstOut_le p rs
    have := firstOut_in p rs n h
    rw [h2 (by omega)] at this
    cases this
set_option maxHeartbeats 1600000 in
theorem index_any (hr : Rv w A n c rs) (hb : Bb w gb lo hi) (hn1 : n ≤ 1000000) : Calls Try.prog 58 #[.slice A n c, .func (.func 46) #[] #[.pointer (some ⟨gb, 0, none⟩)]] w fun e w' => e = .returned (.int .i64 (if firstOut (keep lo hi) rs < n then ((firstOut (keep lo hi) rs : Nat) : Int) else -1)) ∧ Fr No w w' := by
  have hl := hr.len
  have Hr := Lib.hid hr
  have Hb := Lib.hid hb
  have HL := Lib.hid hl
  obtain ⟨z, hz⟩ : ∃ z : Int, (if firstOut (keep lo hi) rs < n then ((firstOut (keep lo hi) rs : Nat) : Int) else -1) = z := ⟨_, rfl⟩
  rw [hz]
  have Hz := Lib.hid hz
  clear hr hb hl hz
  go_enter Try.func58, Try.ntmps58
  go_wp2
  go_loopw [8] (fun v wr => ∃ i : Nat, v = .int .i64 i ∧ Hid (i ≤ n ∧ (∀ j, j < i → keep lo hi (rs.getD j rec0) = true) ∧ Fr No w wr)) (fun v _ => n - (intOf v).toNat)
  case atStart => exact ⟨0, rfl, Lib.hid ⟨Nat.zero_le _, fun j hj => by omega, Fr.refl _ _⟩⟩
  case round =>
    obtain ⟨i, rfl, Hi⟩ := hrel
    by_cases hlt : i < n
    · obtain ⟨b, off, KA, kc, rfl, a0, a1, hka, hza⟩ := (Hr.out.no Hi.out.2.2).get i (by rw [← HL.out]; exact hlt)
      have Hlt := Lib.hid hlt
      have Hyes := Lib.hid (show keep lo hi (rs.getD i rec0) = true → ∀ j, j < i + 1 → keep lo hi (rs.getD j rec0) = true from fun h j hj => by
        by_cases e : j = i
        · subst e; exact h
        · exact Hi.out.2.1 j (by omega))
      have Hno := Lib.hid (show keep lo hi (rs.getD i rec0) = false → firstOut (keep lo hi) rs = i from fun h => firstOut_eq _ rs i (by rw [← HL.out]; omega) Hi.out.2.1 (fun _ => h))
      generalize rs.getD i rec0 = r at *
      obtain ⟨ks, s⟩ := r
      simp only at *
      have Hka := Lib.hid hka
      clear hka
      cases hkp : keep lo hi (ks, s) with
      | true =>
        have Hkp := Lib.hid hkp
        have Hy := Lib.hid (Hyes.out hkp)
        clear hkp
        go_wp2_with (go_at_call 46; ((with_reducible refine (win1_any (lo := lo) (hi := hi) Hka.out (Hb.out.no Hi.out.2.2)).mono ?_); rintro e w5 ⟨rfl, hf5⟩; rw [Hkp.out]))
        go_roundw
        case rel => exact ⟨i + 1, by go_num, Lib.hid ⟨Hlt.out, Hy.out, Hi.out.2.2.tr hf5⟩⟩
        case measure => have := Hlt.out; simp [intOf]; omega
      | false =>
        have Hkp := Lib.hid hkp
        have Hn := Lib.hid (Hno.out hkp)
        clear hkp
        go_wp2_with (go_at_call 46; ((with_reducible refine (win1_any (lo := lo) (hi := hi) Hka.out (Hb.out.no Hi.out.2.2)).mono ?_); rintro e w5 ⟨rfl, hf5⟩; rw [Hkp.out]))
        go_ret
        exact ⟨by rw [← Hz.out, Hn.out, if_pos Hlt.out]; rfl, Hi.out.2.2.tr hf5⟩
    · obtain rfl : i = n := by have := Hi.out.1; omega
      have Hn := Lib.hid (show firstOut (keep lo hi) rs = i from firstOut_eq _ rs i (by rw [← HL.out]; omega) Hi.out.2.1 (fun h => by have := HL.out; omega))
      go_wp2
      go_ret
      exact ⟨by rw [← Hz.out, Hn.out, if_neg (by omega)]; rfl, Hi.out.2.2⟩
/-- A record of the list is laid over another one. -/
theorem copy_rec {g i j : Nat} {KA : Option Addr} {kl kc : Nat} {t : ByteArray} (h : Ow w base 33 K (some ⟨g, 0, none⟩) n c rs) (hi : i < n) (hj : j < n) (a0 : w.cell? ⟨g, j * 2, none⟩ = some (.slice KA kl kc)) (a1 : w.cell? ⟨g, j * 2 + 1, none⟩ = some (.string t)) :
    Ow ((w.setCell ⟨g, i * 2, none⟩ (.slice KA kl kc)).setCell ⟨g, i * 2 + 1, none⟩ (.string t)) base 33 K (some ⟨g, 0, none⟩) n c (rs.take i ++ rs.getD j rec0 :: rs.drop (i + 1)) := by
  have hl := h.len
  obtain ⟨ps, rfl, h2, h3⟩ := h
  rw [recs_len] at hl
  have hil : i < ps.length := by omega
  have hjl : j < ps.length := by omega
  have ei : ps.getD i pr0 = ps[i] := by simp [List.getD_eq_getElem?_getD, hil]
  have ej : ps.getD j pr0 = ps[j] := by simp [List.getD_eq_getElem?_getD, hjl]
  obtain ⟨c1, c2⟩ := rcells_get ps j hjl
  have q0 := h2.cellAt (j * 2) (by omega)
  have q1 := h2.cellAt (j * 2 + 1) (by omega)
  rw [c1, a0] at q0
  rw [c2, a1] at q1
  injection q0 with q0
  injection q0 with e1 e2 e3
  injection q1 with q1
  injection q1 with e4
  subst e1; subst e3; subst e4; subst e2
  have hset : (recs ps).take i ++ (recs ps).getD j rec0 :: (recs ps).drop (i + 1) = recs (ps.set i (ps.getD j pr0)) := by
    rw [recs_get]
    unfold recs
    rw [List.map_set, List.set_eq_take_append_cons_drop, if_pos (by simpa using hil)]
  rw [hset]
  refine ⟨_, rfl, ?_, fun p hp => ?_⟩
  · have h4 := (h2.stored (i * 2) (.slice (ps.getD j pr0).1 (ps.getD j pr0).2.2.1.length (ps.getD j pr0).2.1)).1
    have h5 := (h4.stored (i * 2 + 1) (.string (ps.getD j pr0).2.2.2)).1
    have hx : ((rcells ps).set (i * 2) (.slice (ps.getD j pr0).1 (ps.getD j pr0).2.2.1.length (ps.getD j pr0).2.1)).set (i * 2 + 1) (.string (ps.getD j pr0).2.2.2) = rcells (ps.set i (ps.getD j pr0)) := by
      have r1 := rcells_key (ps.set i ((ps.getD j pr0).1, (ps.getD j pr0).2.1, (ps.getD i pr0).2.2)) i
      apply List.ext_getElem?
      intro q
      have hlen : (rcells ps).length = ps.length * 2 := rcells_len ps
      have hlen2 : (rcells (ps.set i (ps.getD j pr0))).length = ps.length * 2 := by rw [rcells_len, List.length_set]
      by_cases hq : q < ps.length * 2
      · obtain ⟨a, b, hab, hb2⟩ : ∃ a b, q = a * 2 + b ∧ b < 2 := ⟨q / 2, q % 2, by omega, by omega⟩
        have hal : a < ps.length := by omega
        obtain ⟨u1, u2⟩ := rcells_get ps a hal
        obtain ⟨v1, v2⟩ := rcells_get (ps.set i (ps.getD j pr0)) a (by rw [List.length_set]; exact hal)
        by_cases hai : a = i
        · subst hai
          have eg : (ps.set a (ps.getD j pr0)).getD a pr0 = ps.getD j pr0 := by simp [List.getD_eq_getElem?_getD, hal]
          rw [eg] at v1 v2
          rcases (show b = 0 ∨ b = 1 by omega) with rfl | rfl
          · rw [show q = a * 2 from hab, v1, List.getElem?_set_ne (by omega), List.getElem?_set_self (by omega)]
          · rw [hab, v2, List.getElem?_set_self (by rw [List.length_set]; omega)]
        · have eg : (ps.set i (ps.getD j pr0)).getD a pr0 = ps.getD a pr0 := by simp [List.getD_eq_getElem?_getD, List.getElem?_set_ne (Ne.symm hai)]
          rw [eg] at v1 v2
          rcases (show b = 0 ∨ b = 1 by omega) with rfl | rfl
          · rw [show q = a * 2 from hab, v1, List.getElem?_set_ne (by omega), List.getElem?_set_ne (by omega), u1]
          · rw [hab, v2, List.getElem?_set_ne (by omega), List.getElem?_set_ne (by omega), u2]
      · rw [List.getElem?_eq_none (by simp [hlen]; omega), List.getElem?_eq_none (by omega)]
    rw [hx] at h5
    exact h5
  · have f : Fr (fun k => k = g) w ((w.setCell ⟨g, i * 2, none⟩ (.slice (ps.getD j pr0).1 (ps.getD j pr0).2.2.1.length (ps.getD j pr0).2.1)).setCell ⟨g, i * 2 + 1, none⟩ (.string (ps.getD j pr0).2.2.2)) := ((Fr.refl (fun k => k = g) w).setCell (p := ⟨g, i * 2, none⟩) (.inl rfl) _).setCell (p := ⟨g, i * 2 + 1, none⟩) (.inl rfl) _
    have hall : Pk w (fun b => K b ∧ Av (some ⟨g, 0, none⟩) b) p := by
      rcases List.mem_or_eq_of_mem_set hp with hp | rfl
      · exact h3 p hp
      · rw [ej]; exact h3 _ (List.getElem_mem hjl)
    exact hall.fr f (fun b hb e => hb.2 g 0 rfl e)
/-- What stands behind the records kept is cleared. -/
theorem clear_ow {g i : Nat} (h : Ow w base 33 K (some ⟨g, 0, none⟩) n c rs) (hi : i < n) :
    ∃ w2, (clSem #[40] 0 #[.slice (some ⟨g, i * 2, none⟩) (n - i) (c - i)]).run Try.prog w = .ok (.tuple #[]) w2 ∧ Ow w2 base 33 K (some ⟨g, 0, none⟩) i c (rs.take i) ∧ Fr (fun k => k = g) w w2 := by
  obtain ⟨ps, rfl, h2, h3⟩ := h
  rcases h2.2 with ⟨h7, h8⟩ | ⟨g', cap, cur, h7, hb, hg, hx1, hx2, hsz, ht⟩
  · cases h7
  injection h7 with e1 e2 e3
  injection e1 with e1
  injection e1 with e1 _ _
  subst e1; subst e3
  have hxl := h2.1
  have hlp : ps.length = n := by rw [rcells_len] at hxl; omega
  have hz2 : (Value.agg #[.slice none 0 0, .string ByteArray.empty]).cells.size = 2 := rfl
  have hr := run_clear_wide (P := Try.prog) w 40 33 0 _ Try.underlying40 zero_rec (by decide) g (i * 2) (n - i) (c - i) (by omega) 33 cur hg (by rw [hz2, hsz]; omega)
  refine ⟨_, hr, ⟨ps.take i, recs_take _ _, ⟨?_, .inr ⟨g, c, _, rfl, hb, setRow_heap w g _ _ _ _ hg, by omega, hx2, ?_, ?_⟩⟩, fun p hp => ?_⟩, Fr_setRow (Fr.refl (fun k => k = g) w) (.inl rfl) _⟩
  · rw [rcells_len, List.length_take]; omega
  · rw [List.size_toArray, List.length_append, List.length_append, List.length_take, List.length_drop, zero_len, hz2, Array.length_toList, hsz]; omega
  · rw [List.toList_toArray, List.append_assoc, List.take_left' (by rw [List.length_take, Array.length_toList, hsz]; omega), rcells_take, ← ht, List.take_take, Nat.min_eq_left (by omega)]
  · have hall := h3 p (List.mem_of_mem_take hp)
    exact hall.fr (Fr_setRow (Fr.refl (fun k => k = g) w) (.inl rfl) _) (fun b hb e => hb.2 g 0 rfl e)
end
end Go.Proofs.Yteckbcfigklkpaa.Ae09
