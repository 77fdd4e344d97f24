/- Layer 9, law: an atlas that is none has nothing. -/
import Derived.Test.YteckbcfigklkpaaAh09
import Derived.StillTailTactics
namespace Go.Proofs.Yteckbcfigklkpaa.Ai09
open Go.RowKit Go.Proofs.Yteckbcfigklkpaa.Pk08 Go.Proofs.Yteckbcfigklkpaa.Base Go.Proofs.Yteckbcfigklkpaa.App Go.Proofs.Yteckbcfigklkpaa.Ty Go.Proofs.Yteckbcfigklkpaa.Str Go.Proofs.Yteckbcfigklkpaa.Ky Go.Proofs.Yteckbcfigklkpaa.Bx Go.Proofs.Yteckbcfigklkpaa.Bo Go.Proofs.Yteckbcfigklkpaa.As Go.Proofs.Yteckbcfigklkpaa.Pl08 Go.Proofs.Yteckbcfigklkpaa.Rv Go.Proofs.Yteckbcfigklkpaa.Ra Go.Proofs.Yteckbcfigklkpaa.Rp Go.Proofs.Yteckbcfigklkpaa.Ro Go.Proofs.Yteckbcfigklkpaa.Rk Go.Proofs.Yteckbcfigklkpaa.Ab09 Go.Proofs.Yteckbcfigklkpaa.Ag09 Go.Proofs.Yteckbcfigklkpaa.Ah09
set_option linter.unusedVariables false
set_option linter.unusedSimpArgs false
abbrev bxT (E2 E3 : TypeId) : Ty := .cn (.sl E2 (.int .u32)) (.cn (.sl E3 (.int .u32)) .nl)
abbrev opT (E1 E2 E3 : TypeId) : Ty := .cn (.int .i64) (.cn (recT E1) (.cn (bxT E2 E3) .nl))
theorem rd_op {E1 E2 E3 : TypeId} {w : World} {x : (opT E1 E2 E3).D} {cs : List Value} (h : Rd (opT E1 E2 E3) w x cs) :
    ∃ (z : Int) (K : Option Addr) (kn kc : Nat) (ks : List Nat) (s : ByteArray) (L : Option Addr) (ln lc : Nat) (H : Option Addr) (hn hc : Nat) (lo hi : List Nat), cs = [.int .i64 z, .slice K kn kc, .string s, .slice L ln lc, .slice H hn hc] ∧ Kv w K kn kc ks ∧ s.size ≤ maxLen ∧ Kv w L ln lc lo ∧ Kv w H hn hc hi := by
  obtain ⟨c1, c2, hc, ⟨rfl, _⟩, c3, c4, rfl, h2, c5, c6, rfl, h3, h5⟩ := h
  have h5' : c6 = [] := h5
  subst h5'
  obtain ⟨K, kn, kc, ks, s, rfl, hk, hs⟩ := rd_rec h2
  obtain ⟨d1, d2, rfl, g1, d3, d4, rfl, g2, g3⟩ := h3
  have g3' : d4 = [] := g3
  subst g3'
  have g1' := g1
  have g2' := g2
  obtain ⟨L, lc, rfl, _⟩ := g1'
  obtain ⟨H, hc', rfl, _⟩ := g2'
  exact ⟨x.1, K, kn, kc, ks, s, L, _, lc, H, _, hc', _, _, by rw [hc]; rfl, hk, hs, Kv.of_rd g1, Kv.of_rd g2⟩
def shortB (kn sz ln hn : Nat) : Bool := decide (kn ≤ 20) && decide (sz ≤ 100) && decide (ln ≤ 20) && decide (hn ≤ 20)
section
variable {w : World} {K L H : Option Addr} {kn kc ln lc hn hc : Nat} {s : ByteArray} {z : Int}
theorem short_any (h1 : kn ≤ maxLen) (h2 : s.size ≤ maxLen) (h3 : ln ≤ maxLen) (h4 : hn ≤ maxLen) : Calls Try.prog 10 #[.agg #[.int .i64 z, .slice K kn kc, .string s, .slice L ln lc, .slice H hn hc]] w fun e w' => e = .returned (.bool (shortB kn s.size ln hn)) ∧ Fr No w w' := by
  have hmx : maxLen ≤ 9223372036854775807 := by decide
  by_cases q1 : kn ≤ 20
  · by_cases q2 : s.size ≤ 100
    · by_cases q3 : ln ≤ 20
      · by_cases q4 : hn ≤ 20
        · have hd : decide ((hn : Int) ≤ 20) = true := decide_eq_true (by omega)
          have e : shortB kn s.size ln hn = true := by simp [shortB, q1, q2, q3, q4]
          rw [e]; clear e
          go_enter Try.func10, Try.ntmps10
          go_wp2
          go_ret
          exact ⟨rfl, by (repeat (first | with_reducible exact Fr.refl _ _ | with_reducible refine Fr.setCell ?_ (.inr (by first | (simp; done) | (simp; omega))) _ | with_reducible refine Fr.alloc ?_ _ | with_reducible refine Fr.drew ?_ | with_reducible refine Fr.drewN ?_ _ | with_reducible refine Fr.tr ?_ (by assumption)))⟩
        · have hd : decide ((hn : Int) ≤ 20) = false := decide_eq_false (by omega)
          have e : shortB kn s.size ln hn = false := by simp [shortB, q4]
          rw [e]; clear e
          go_enter Try.func10, Try.ntmps10
          go_wp2
          go_ret
          exact ⟨rfl, by (repeat (first | with_reducible exact Fr.refl _ _ | with_reducible refine Fr.setCell ?_ (.inr (by first | (simp; done) | (simp; omega))) _ | with_reducible refine Fr.alloc ?_ _ | with_reducible refine Fr.drew ?_ | with_reducible refine Fr.drewN ?_ _ | with_reducible refine Fr.tr ?_ (by assumption)))⟩
      · have e : shortB kn s.size ln hn = false := by simp [shortB, q3]
        rw [e]; clear e
        go_enter Try.func10, Try.ntmps10
        go_wp2
        go_ret
        exact ⟨rfl, by (repeat (first | with_reducible exact Fr.refl _ _ | with_reducible refine Fr.setCell ?_ (.inr (by first | (simp; done) | (simp; omega))) _ | with_reducible refine Fr.alloc ?_ _ | with_reducible refine Fr.drew ?_ | with_reducible refine Fr.drewN ?_ _ | with_reducible refine Fr.tr ?_ (by assumption)))⟩
    · have e : shortB kn s.size ln hn = false := by simp [shortB, q2]
      rw [e]; clear e
      go_enter Try.func10, Try.ntmps10
      go_wp2
      go_ret
      exact ⟨rfl, by (repeat (first | with_reducible exact Fr.refl _ _ | with_reducible refine Fr.setCell ?_ (.inr (by first | (simp; done) | (simp; omega))) _ | with_reducible refine Fr.alloc ?_ _ | with_reducible refine Fr.drew ?_ | with_reducible refine Fr.drewN ?_ _ | with_reducible refine Fr.tr ?_ (by assumption)))⟩
  · have e : shortB kn s.size ln hn = false := by simp [shortB, q1]
    rw [e]; clear e
    go_enter Try.func10, Try.ntmps10
    go_wp2
    go_ret
    exact ⟨rfl, by (repeat (first | with_reducible exact Fr.refl _ _ | with_reducible refine Fr.setCell ?_ (.inr (by first | (simp; done) | (simp; omega))) _ | with_reducible refine Fr.alloc ?_ _ | with_reducible refine Fr.drew ?_ | with_reducible refine Fr.drewN ?_ _ | with_reducible refine Fr.tr ?_ (by assumption)))⟩
end
theorem five {w : World} {g : Nat} {v1 v2 v3 v4 v5 : Value} {T : TypeId} (h : Ob w g #[v1, v2, v3, v4, v5] T) : w.cell? ⟨g, 0, none⟩ = some v1 ∧ w.cell? ⟨g, 1, none⟩ = some v2 ∧ w.cell? ⟨g, 2, none⟩ = some v3 ∧ w.cell? ⟨g, 3, none⟩ = some v4 ∧ w.cell? ⟨g, 4, none⟩ = some v5 := ⟨h.cell 0 rfl, h.cell 1 rfl, h.cell 2 rfl, h.cell 3 rfl, h.cell 4 rfl⟩
set_option maxRecDepth 8000 in
set_option maxHeartbeats 6400000 in
theorem law_nil {E1 E2 E3 : TypeId} (w : World) (cs : Array Value) (x : (opT E1 E2 E3).D) (h : Rd (opT E1 E2 E3) w x cs.toList) :
    Calls Try.prog 4 #[.agg cs] w fun e w' => e = .returned (.bool true) ∧ Fr No w w' := by
  obtain ⟨z, K, kn, kc, ks, s, L, ln, lc, H, hn, hc, lo, hi, hcs, hk, hs, hl, hh⟩ := rd_op h
  have hcs2 : cs = #[.int .i64 z, .slice K kn kc, .string s, .slice L ln lc, .slice H hn hc] := by rw [← Array.toArray_toList (xs := cs), hcs]
  subst hcs2
  have hk1 : kn ≤ maxLen := Nat.le_trans hk.cap hk.most
  have hl1 : ln ≤ maxLen := Nat.le_trans hl.cap hl.most
  have hh1 : hn ≤ maxLen := Nat.le_trans hh.cap hh.most
  clear h x hcs hk hl hh
  have HO := Lib.hid (Ob.new w #[.int .i64 z, .slice K kn kc, .string s, .slice L ln lc, .slice H hn hc] 37)
  have HS := Lib.hid (fun W => short_any (w := W) (K := K) (L := L) (H := H) (kc := kc) (lc := lc) (hc := hc) (z := z) hk1 hs hl1 hh1)
  clear hk1 hs hl1 hh1
  cases hb : shortB kn s.size ln hn with
  | false =>
    rw [hb] at HS
    clear hb
    go_enter Try.func4, Try.ntmps4
    go_wp2_with first
      | (go_at_call 10; ((with_reducible refine (HS.out _).mono ?_); rintro e w1 ⟨rfl, hf1⟩))
      | (go_at_call 11; ((with_reducible refine (live _).mono ?_); rintro e wl ⟨rfl, hfl⟩))
      | fail
    go_ret
    exact ⟨rfl, by (repeat (first | with_reducible exact Fr.refl _ _ | with_reducible refine Fr.setCell ?_ (.inr (by first | (simp; done) | (simp; omega))) _ | with_reducible refine Fr.alloc ?_ _ | with_reducible refine Fr.drew ?_ | with_reducible refine Fr.drewN ?_ _ | with_reducible refine Fr.tr ?_ (by assumption)))⟩
  | true =>
    rw [hb] at HS
    clear hb
    go_enter Try.func4, Try.ntmps4
    go_wp2_with first
      | (go_at_call 10; ((with_reducible refine (HS.out _).mono ?_); rintro e w1 ⟨rfl, hf1⟩; (have ho1 := HO.out.no hf1); (obtain ⟨a0, a1, a2, a3, a4⟩ := five ho1)))
      | (go_at_call 8; ((with_reducible refine (new_no (d := 0) (by decide)).mono ?_); rintro en w2 ⟨rfl, rfl⟩))
      | (go_at_call 20; ((with_reducible refine (get_nil _).mono ?_); rintro en w3 ⟨rfl, rfl⟩))
      | (go_at_call 22; ((with_reducible refine (window_nil _).mono ?_); rintro en w4 ⟨rfl, hf4⟩; (have ho4 := ho1.no hf4); (obtain ⟨b0, b1, b2, b3, b4⟩ := five ho4)))
      | (go_at_call 24; ((with_reducible refine (count_nil _).mono ?_); rintro en w5 ⟨rfl, hf5⟩; (have ho5 := ho4.no hf5); (obtain ⟨d0, d1, d2, d3, d4⟩ := five ho5)))
      | (go_at_call 16; ((with_reducible refine (put_nil _).mono ?_); rintro en w6 ⟨rfl, hf6⟩; (have ho6 := ho5.no hf6); (obtain ⟨e0, e1, e2, e3, e4⟩ := five ho6)))
      | (go_at_call 18; ((with_reducible refine (delete_nil _).mono ?_); rintro en w7 ⟨rfl, rfl⟩))
      | (go_at_call 26; ((with_reducible refine (all_nil _).mono ?_); rintro en w8 ⟨rfl, rfl⟩))
      | (go_at_call 27; ((with_reducible refine (len_nil _).mono ?_); rintro en w9 ⟨rfl, rfl⟩))
      | (go_at_call 13; ((with_reducible refine (copy_nil _).mono ?_); rintro en w10 ⟨rfl, rfl⟩))
      | (go_at_call 11; ((with_reducible refine (live _).mono ?_); rintro e wl ⟨rfl, hfl⟩))
      | fail
    go_ret
    exact ⟨rfl, by (repeat (first | with_reducible exact Fr.refl _ _ | with_reducible refine Fr.setCell ?_ (.inr (by first | (simp; done) | (simp; omega))) _ | with_reducible refine Fr.alloc ?_ _ | with_reducible refine Fr.drew ?_ | with_reducible refine Fr.drewN ?_ _ | with_reducible refine Fr.tr ?_ (by assumption)))⟩
end Go.Proofs.Yteckbcfigklkpaa.Ai09
