/- Layer 11: records split at a bound, the document's. -/
import Derived.Test.YtbncakbgljhnkaaPt11
import Derived.Test.YtbncakbgljhnkaaRc
import Derived.StillTailTactics
namespace Go.Proofs.Ytbncakbgljhnkaa.Pu11
open Go.RowKit Go.Proofs.Ytbncakbgljhnkaa.Pk08 Go.Proofs.Ytbncakbgljhnkaa.Base Go.Proofs.Ytbncakbgljhnkaa.App Go.Proofs.Ytbncakbgljhnkaa.Str Go.Proofs.Ytbncakbgljhnkaa.Ky Go.Proofs.Ytbncakbgljhnkaa.Bx Go.Proofs.Ytbncakbgljhnkaa.Bo Go.Proofs.Ytbncakbgljhnkaa.As Go.Proofs.Ytbncakbgljhnkaa.Rv Go.Proofs.Ytbncakbgljhnkaa.Ro Go.Proofs.Ytbncakbgljhnkaa.Rk Go.Proofs.Ytbncakbgljhnkaa.Rc Go.Proofs.Ytbncakbgljhnkaa.Pt11
set_option linter.unusedVariables false
set_option linter.unusedSimpArgs false
attribute [local go_sem ↓ high] builtin_app
/-- Two lists of the call's own, apart; their points lie ahead of the call. -/
structure Sp (w wr : World) (P : Option Addr) (p cP : Nat) (la : List Rv.Rec) (Q : Option Addr) (q cQ : Nat) (lb : List Rv.Rec) : Prop where
  a : Ow wr w.heap.size 48 (fun b => b < w.heap.size) P p cP la
  b : Ow wr w.heap.size 48 (fun b => b < w.heap.size) Q q cQ lb
  ne : ∀ g, (Value.slice P p cP).ownBlock = some g → ¬ (Value.slice Q q cQ).ownBlock = some g
  fr : Fr No w wr
section
variable {w wr w1 : World} {P Q P1 Q1 : Option Addr} {p q cP cQ c1 : Nat} {la lb : List Rv.Rec}
theorem Sp.no (h : Sp w wr P p cP la Q q cQ lb) (f : Fr No wr w1) : Sp w w1 P p cP la Q q cQ lb := ⟨h.a.no f, h.b.no f, h.ne, h.fr.tr f⟩
theorem Sp.swap (h : Sp w wr P p cP la Q q cQ lb) : Sp w wr Q q cQ lb P p cP la := ⟨h.b, h.a, fun g hg hg2 => h.ne g hg2 hg, h.fr⟩
theorem Sp.push (h : Sp w wr P p cP la Q q cQ lb) {K : Option Addr} {kc : Nat} {ks : List Nat} {s : ByteArray} (hk : Pk wr (fun b => b < w.heap.size) (K, kc, (ks, s))) (hp : p ≤ 2000000) :
    ∃ A1 c1 w1, (appSem #[26, 26] 26 #[.slice P p cP, .slice (some ⟨wr.heap.size, 0, none⟩) 1 1]).run Try.prog (wr.alloc (.cells #[.slice K ks.length kc, .string s] 48)) = .ok (.slice A1 (p + 1) c1) w1 ∧ Sp w w1 A1 (p + 1) c1 (la ++ [(ks, s)]) Q q cQ lb := by
  obtain ⟨A1, c1, w1, hrun, hO, hgr, hfr, hat⟩ := push_old h.a h.fr.size (hk.mono (fun b hb => ⟨hb, fun g o e => by
    subst e
    have := (h.a.blk g rfl).1
    omega⟩)) hp
  refine ⟨A1, c1, w1, hrun, hO, ?_, ?_, hfr w (Nat.le_refl _) h.fr⟩
  · refine (h.b.alloc _).fr (grown_fr hgr) (fun k hk hs => h.ne k hs hk) (fun b hb hs => ?_)
    have := (h.a.blk b hs).1
    omega
  · intro g hg hg2
    rcases hat with e | e
    · exact h.ne g (e ▸ hg) hg2
    · rw [e] at hg
      injection hg with hg
      have := (h.b.blk g hg2).2
      omega
end
section
variable {w : World} {A : Option Addr} {n c : Nat} {rs : List Rv.Rec}
/-- Two lists of records are returned, and why there are none. -/
def TwoRet (w : World) (la lb : List Rv.Rec) (v : Value) (e : Ending) (w' : World) : Prop :=
  ∃ P p cP Q q cQ, e = .returned (.tuple #[.slice P p cP, .slice Q q cQ, v]) ∧ Rv w' P p cP la ∧ Rv w' Q q cQ lb ∧ Fr No w w'
theorem short_sub {rs ls : List Rv.Rec} (h : Short rs) (hl : ls.length ≤ rs.length) (hm : ∀ r ∈ ls, r ∈ rs) : Short ls := ⟨by have := h.1; omega, fun r hr => h.2 r (hm r hr)⟩
set_option maxHeartbeats 1600000 in
theorem rsplit_any (z : Int) (bd : Nat) (hr : Rv w A n c rs) (hs : Short rs) : Calls Try.prog 18 #[.slice A n c, .int .i64 z, .int .u32 (bd : Int)] w (TwoRet w (spL z bd rs) (spH z bd rs) (.int .i64 (spE z rs))) := by
  have hn := hr.len_le
  have hn1 : n ≤ 1000000 := by have := hr.len; have := hs.1; omega
  have Hr := Lib.hid hr
  have Hs := Lib.hid hs
  have Hl := Lib.hid hr.len
  clear hr hs
  go_enter Try.func18, Try.ntmps18
  go_wp2
  go_loopw [9, 10, 11] (fun u v x wr => ∃ (j : Nat) (P : Option Addr) (p cP : Nat) (Q : Option Addr) (q cQ : Nat), x = .int .i64 j ∧ u = .slice P p cP ∧ v = .slice Q q cQ ∧ Hid (j ≤ n ∧ (∀ i, i < j → 0 ≤ z ∧ z < (rs.getD i r0).1.length) ∧ Sp w wr P p cP (lows z bd (rs.take j)) Q q cQ (highs z bd (rs.take j)))) (fun _ _ x _ => n - (intOf x).toNat)
  case atStart => exact ⟨0, none, 0, 0, none, 0, 0, rfl, rfl, rfl, Lib.hid ⟨Nat.zero_le _, fun i hi => by omega, Ow.nil_ _ _ _ _, Ow.nil_ _ _ _ _, fun g h => by simp [Value.ownBlock] at h, Fr.refl _ _⟩⟩
  case round =>
    obtain ⟨j, P, p, cP, Q, q, cQ, rfl, rfl, rfl, Hj⟩ := hrel
    by_cases hlt : j < n
    · obtain ⟨b, off, KA, kc, rfl, c0w, c1w, hkw, hz⟩ := Hr.out.get j (by rw [← Hl.out]; exact hlt)
      have Hlt := Lib.hid hlt
      have c0 := cel_no c0w Hj.out.2.2.fr
      have c1 := cel_no c1w Hj.out.2.2.fr
      have Hpk := Lib.hid (((Pk.lt (P := fun _ => True) (p := (KA, kc, rs.getD j rec0)) ⟨hkw, hz, fun _ _ _ _ => trivial⟩).mono (P' := fun b => b < w.heap.size) (fun b hb => hb.2)).no Hj.out.2.2.fr)
      have Hno := Lib.hid (fun h => sp_no (i := z) (rs := rs) j (by rw [← Hl.out]; exact hlt) h bd)
      have Hyes := Lib.hid (show 0 ≤ z ∧ z < (rs.getD j r0).1.length → ∀ i, i < j + 1 → 0 ≤ z ∧ z < (rs.getD i r0).1.length from fun h i hi => by
        by_cases e : i = j
        · subst e; exact h
        · exact Hj.out.2.1 i (by omega))
      have Htk := Lib.hid (Go.Proofs.Ytbncakbgljhnkaa.Pt11.take_succ rs j (by rw [← Hl.out]; exact hlt))
      have Hla := Lib.hid (show lows z bd (rs.take (j + 1)) = lows z bd (rs.take j) ++ (if isLow z bd (rs.getD j r0) = true then [rs.getD j r0] else []) by rw [Htk.out, lows_snoc])
      have Hlb := Lib.hid (show highs z bd (rs.take (j + 1)) = highs z bd (rs.take j) ++ (if isLow z bd (rs.getD j r0) = true then [] else [rs.getD j r0]) by rw [Htk.out, highs_snoc])
      have Hp1 := Lib.hid (show p ≤ 2000000 by have h1 := Hj.out.2.2.a.len; have h2 := lows_le z bd (rs.take j); have h3 := List.length_take_le j rs; omega)
      have Hq1 := Lib.hid (show q ≤ 2000000 by have h1 := Hj.out.2.2.b.len; have h2 := highs_le z bd (rs.take j); have h3 := List.length_take_le j rs; omega)
      have Hk := Lib.hid (hkw.no Hj.out.2.2.fr)
      clear hkw c0w c1w Htk
      have hkl := Hk.out.len_le
      generalize lows z bd (rs.take j) = la at *
      generalize highs z bd (rs.take j) = lb at *
      generalize hrr : rs.getD j rec0 = r at *
      rw [show rs.getD j r0 = r from hrr] at Hno Hyes Hla Hlb
      clear hrr
      obtain ⟨ks, s⟩ := r
      simp only at *
      by_cases hz0 : z < 0
      · obtain ⟨n1, n2, n3⟩ := Hno.out (.inl hz0)
        have N1 := Lib.hid n1
        have N2 := Lib.hid n2
        have N3 := Lib.hid n3
        clear n1 n2 n3
        go_wp2
        ((try simp only [Exit.inBlock, Exit.then]); refine bodyPost_ret (results_tmp3 rfl _ _ _) rfl ?_)
        exact ⟨none, 0, 0, none, 0, 0, by rw [N3.out]; rfl, by rw [N1.out]; exact Rv.none_ _, by rw [N2.out]; exact Rv.none_ _, Hj.out.2.2.fr⟩
      · obtain ⟨t, rfl⟩ : ∃ t : Nat, z = (t : Int) := ⟨z.toNat, by omega⟩
        by_cases hz1 : t < ks.length
        · have Hy := Lib.hid (Hyes.out ⟨by omega, by omega⟩)
          obtain ⟨kb, ko, rfl, kcell⟩ := Hk.out.get t hz1
          by_cases hlow : ks.getD t 0 < bd
          · have hl2 : isLow (t : Int) bd (ks, s) = true := by unfold isLow; exact decide_eq_true (by simpa using hlow)
            rw [hl2, if_pos rfl] at Hla Hlb
            obtain ⟨A1, cA, w1, hrun, hSp⟩ := Hj.out.2.2.push Hpk.out Hp1.out
            have HS := Lib.hid hSp
            clear hSp
            generalize ks.getD t 0 = y at *
            have hlow2 : ((y : Nat) : Int) < (bd : Int) := by omega
            go_wp2
            go_roundw
            case rel => exact ⟨j + 1, A1, p + 1, cA, Q, q, cQ, by go_num, rfl, rfl, Lib.hid ⟨Hlt.out, Hy.out, by rw [Hla.out, Hlb.out, List.append_nil]; exact HS.out⟩⟩
            case measure => have := Hlt.out; simp [intOf]; omega
          · have hl2 : isLow (t : Int) bd (ks, s) = false := by unfold isLow; exact decide_eq_false (by simpa using hlow)
            rw [hl2, if_neg (by decide)] at Hla Hlb
            obtain ⟨A1, cA, w1, hrun, hSp⟩ := Hj.out.2.2.swap.push Hpk.out Hq1.out
            have HS := Lib.hid hSp.swap
            clear hSp
            generalize ks.getD t 0 = y at *
            have hlow2 : ¬ ((y : Nat) : Int) < (bd : Int) := by omega
            go_wp2
            go_roundw
            case rel => exact ⟨j + 1, P, p, cP, A1, q + 1, cA, by go_num, rfl, rfl, Lib.hid ⟨Hlt.out, Hy.out, by rw [Hla.out, Hlb.out, List.append_nil]; exact HS.out⟩⟩
            case measure => have := Hlt.out; simp [intOf]; omega
        · obtain ⟨n1, n2, n3⟩ := Hno.out (.inr (by omega))
          have N1 := Lib.hid n1
          have N2 := Lib.hid n2
          have N3 := Lib.hid n3
          clear n1 n2 n3
          go_wp2
          ((try simp only [Exit.inBlock, Exit.then]); refine bodyPost_ret (results_tmp3 rfl _ _ _) rfl ?_)
          exact ⟨none, 0, 0, none, 0, 0, by rw [N3.out]; rfl, by rw [N1.out]; exact Rv.none_ _, by rw [N2.out]; exact Rv.none_ _, Hj.out.2.2.fr⟩
    · obtain rfl : j = n := by have := Hj.out.1; omega
      have e : rs.take j = rs := List.take_of_length_le (by rw [Hl.out]; exact Nat.le_refl _)
      obtain ⟨n1, n2, n3⟩ := sp_yes (i := z) (rs := rs) (fun i hi => Hj.out.2.1 i (by rw [Hl.out]; exact hi)) bd
      have hSa := Hj.out.2.2
      rw [e, ← n1, ← n2] at hSa
      have HSa := Lib.hid hSa
      have N3 := Lib.hid n3
      have Hsa := Lib.hid (show Short (spL z bd rs) by rw [n1]; exact short_sub Hs.out (lows_le _ _ _) (fun r hr => (List.mem_filter.1 hr).1))
      have Hsb := Lib.hid (show Short (spH z bd rs) by rw [n2]; exact short_sub Hs.out (highs_le _ _ _) (fun r hr => (List.mem_filter.1 hr).1))
      clear hSa n1 n2 n3 e
      go_wp2_with (first
        | (go_at_call 16; ((with_reducible refine (copies_any (rs := spL z bd rs) ?_ Hsa.out).mono ?_); (focus ((have hr := HSa.out.a.rv); (repeat (first | with_reducible assumption | with_reducible exact Rv.none_ _ | with_reducible refine Rv.alloc ?_ _ | with_reducible refine Rv.drew ?_ | with_reducible refine Rv.drewN ?_ _ | with_reducible refine Rv.no ?_ (by assumption))))); rintro e w5 ⟨A5, n5, c5, rfl, ho5, hf5⟩))
        | (go_at_call 16; ((with_reducible refine (copies_any (rs := spH z bd rs) ?_ Hsb.out).mono ?_); (focus ((have hr := HSa.out.b.rv); (repeat (first | with_reducible assumption | with_reducible exact Rv.none_ _ | with_reducible refine Rv.alloc ?_ _ | with_reducible refine Rv.drew ?_ | with_reducible refine Rv.drewN ?_ _ | with_reducible refine Rv.no ?_ (by assumption))))); rintro e w6 ⟨A6, n6, c6, rfl, ho6, hf6⟩))
        | fail)
      ((try simp only [Exit.inBlock, Exit.then]); refine bodyPost_ret (results_tmp3 rfl _ _ _) rfl ?_)
      exact ⟨A5, n5, c5, A6, n6, c6, by rw [N3.out]; rfl, Rv.no ho5.rv hf6, ho6.rv, (HSa.out.fr.tr hf5).tr hf6⟩
end
end Go.Proofs.Ytbncakbgljhnkaa.Pu11
