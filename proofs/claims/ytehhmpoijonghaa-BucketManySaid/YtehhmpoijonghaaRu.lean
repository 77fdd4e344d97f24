/- A record put into a bucket (the program's). -/
import Derived.Test.YtehhmpoijonghaaRb
import Derived.Test.YtehhmpoijonghaaRf
import Derived.StillTailTactics
namespace Go.Proofs.Ytehhmpoijonghaa.Ru
open Go.RowKit Go.Proofs.Ytehhmpoijonghaa.Pk08 Go.Proofs.Ytehhmpoijonghaa.Base Go.Proofs.Ytehhmpoijonghaa.App Go.Proofs.Ytehhmpoijonghaa.Str Go.Proofs.Ytehhmpoijonghaa.Ky Go.Proofs.Ytehhmpoijonghaa.Bx Go.Proofs.Ytehhmpoijonghaa.Bo Go.Proofs.Ytehhmpoijonghaa.As Go.Proofs.Ytehhmpoijonghaa.Pl08 Go.Proofs.Ytehhmpoijonghaa.Cl Go.Proofs.Ytehhmpoijonghaa.Rv Go.Proofs.Ytehhmpoijonghaa.Rp Go.Proofs.Ytehhmpoijonghaa.Ro Go.Proofs.Ytehhmpoijonghaa.Rk Go.Proofs.Ytehhmpoijonghaa.Rb Go.Proofs.Ytehhmpoijonghaa.Rf
set_option linter.unusedVariables false
set_option linter.unusedSimpArgs false
attribute [local go_sem ↓ high] builtin_app
section
variable {w : World} {A K : Option Addr} {n m c kc : Nat} {rs : List Rv.Rec} {k : List Nat} {s : ByteArray}
/-- What the two appends of a record put in come to. -/
theorem put_core {w5 : World} {A A' A2 K : Option Addr} {n c i j c2 kc : Nat} {rs : List Rv.Rec} {k : List Nat} {s : ByteArray} (hr : Rv w5 A n c rs) (hk : Kv w5 K k.length kc k) (hz : s.size ≤ maxLen) (hi : i ≤ j) (hj : j ≤ n) (hn : n ≤ 1000000) (hA' : 0 < i → ∀ b off, A = some ⟨b, off, none⟩ → A' = some ⟨b, off, none⟩) (hA0 : A' = none → i = 0) (hA2 : j < n → ∀ b off, A = some ⟨b, off, none⟩ → A2 = some ⟨b, off + j * 2, none⟩) {out : List Rv.Rec} (hout : out = rs.take i ++ (k, s) :: rs.drop j) :
    ∃ A1 c1 w1 A3 c3 w3, (appSem #[22, 22] 22 #[.slice A' i i, .slice (some ⟨w5.heap.size, 0, none⟩) 1 1]).run Try.prog (w5.alloc (.cells #[.slice K k.length kc, .string s] 38)) = .ok (.slice A1 (i + 1) c1) w1 ∧
      (appSem #[22, 22] 22 #[.slice A1 (i + 1) c1, .slice A2 (n - j) c2]).run Try.prog w1 = .ok (.slice A3 (i + 1 + (n - j)) c3) w3 ∧ Rv w3 A3 (i + 1 + (n - j)) c3 out ∧ Fr No w5 w3 ∧ Fr No w5 w1 := by
  have hl := hr.len
  obtain ⟨ps, hrs, hcs, hps⟩ := Rv.parts hr
  have hpl : ps.length = n := by rw [hl, ← hrs, recs_len]
  have fa : Fr No w5 (w5.alloc (.cells #[.slice K k.length kc, .string s] 38)) := (Fr.refl No w5).alloc _
  have hp : Pk w5 (fun b => b < w5.heap.size) (K, kc, (k, s)) := (Pk.lt (P := fun _ => True) ⟨hk, hz, fun _ _ _ _ => trivial⟩).mono (fun b hb => hb.2)
  have h0 : Rcs w5 A' i (rcells (ps.take i)) := by
    have := hcs.sub hpl 0 i (Nat.zero_le _) (by omega) A' (fun h b off e => by rw [hA' h b off e]; simp)
    simpa using this
  have h2 : Rcs w5 A2 (n - j) (rcells (ps.drop j)) := by
    have := hcs.sub hpl j n hj (Nat.le_refl _) A2 hA2
    rwa [List.take_of_length_le (by omega)] at this
  obtain ⟨A1, c1, w1, hrun1, hO1, f1⟩ := app_full (Pg := Try.prog) (w := w5.alloc (.cells #[.slice K k.length kc, .string s] 38)) (e := 38) (P := fun b => b < w5.heap.size) 22 _ 40 Try.underlying22 info_rec rfl (by decide) (qs := ps.take i) (ps := [(K, kc, (k, s))]) (fun p hp => (hps p (List.mem_of_mem_take hp)).no fa) (n := i) (by rw [List.length_take]; omega) (h0.no fa) (c0 := i) hA0 (fun p hq => by simp at hq; subst hq; exact hp.no fa) (m := 1) rfl (A := some ⟨w5.heap.size, 0, none⟩) (c := 1) (rcs_new (w := w5) (Ob.new w5 _ _)) (by omega) (by decide) (by omega)
  have f01 := fa.tr f1
  obtain ⟨A3, c3, w3, hrun2, hO3, hg3, _⟩ := app_recs (Pg := Try.prog) 22 _ 40 Try.underlying22 info_rec rfl (by decide) hO1 (ps := ps.drop j) (fun p hp => ((hps p (List.mem_of_mem_drop hp)).no f01).mono (fun b hb => ⟨hb, fun g o e => by
    subst e
    have := (hO1.blk g rfl).1
    simp at this
    omega⟩)) (A := A2) (m := n - j) (c := c2) (by rw [List.length_drop]; omega) (h2.no f01) (by omega) (by have := f1.size; exact this)
  refine ⟨A1, c1, w1, A3, c3, w3, hrun1, hrun2, ?_, f01.grown hg3 (fun q hq => .inr (by have := (hO1.blk q hq).1; simp at this; omega)), f01⟩
  have e : recs (ps.take i) ++ recs [(K, kc, (k, s))] ++ recs (ps.drop j) = out := by
    rw [recs_take, recs_drop, hrs, hout]
    simp [recs]
  rw [← e]
  exact hO3.rv
set_option maxHeartbeats 1600000 in
theorem put_any (hr : Rv w A n c rs) (hk : Kv w K k.length kc k) (hz : s.size ≤ maxLen) (hs : Strict rs) (hsh : Short (put rs (k, s))) (hn1 : n ≤ 1000000) : Calls Try.prog 22 #[.slice A n c, .agg #[.slice K k.length kc, .string s]] w (RecsRet w (put rs (k, s))) := by
  have hcap := hr.cap
  have hmost := hr.most
  have hfl : fpos rs k ≤ n := by have := fpos_le rs k; have := hr.len; omega
  have Hr := Lib.hid hr
  have Hk := Lib.hid hk
  have Hs := Lib.hid hs
  have Hsh := Lib.hid hsh
  clear hr hk hs hsh
  have Hput := Lib.hid (show put rs (k, s) = rs.take (fpos rs k) ++ (k, s) :: rs.drop (if fis rs k = true then fpos rs k + 1 else fpos rs k) from rfl)
  have Hfi := Lib.hid (show fis rs k = true → fpos rs k + 1 ≤ n from fun h => by obtain ⟨h1, _⟩ := (fis_iff rs k).1 h; have := Hr.out.len; omega)
  generalize hfp : fpos rs k = i at *
  have Hfp := Lib.hid hfp
  clear hfp
  generalize put rs (k, s) = out at *
  cases hfis : fis rs k with
  | true =>
    have Hfis := Lib.hid hfis
    rw [hfis] at Hfi Hput
    clear hfis
    have hin := Hfi.out rfl
    obtain ⟨A2, hA2⟩ : ∃ A2, (if c = i + 1 then A else Option.map (fun x => x.add ((i + 1) * 2)) A) = A2 := ⟨_, rfl⟩
    go_enter Try.func22, Try.ntmps22
    go_wp2_with (go_at_call 25; ((with_reducible refine (find_any (rs := rs) (k := k) ?_ ?_ Hs.out hn1).mono ?_); (focus ((have hr := Hr.out); (repeat (first | with_reducible assumption | with_reducible exact Rv.none_ _ | with_reducible refine Rv.alloc ?_ _ | with_reducible refine Rv.drew ?_ | with_reducible refine Rv.drewN ?_ _ | with_reducible refine Rv.no ?_ (by assumption))))); (focus ((have hk := Hk.out); (repeat (first | with_reducible assumption | ((with_reducible refine Kv.lit_new _ _ _ _ _ _ ?_ ?_ ?_ ?_) <;> (first | (simp; done) | rfl | decide)) | with_reducible exact Kv.none_ _ | with_reducible refine Kv.alloc ?_ _ | with_reducible refine Kv.drew ?_ | with_reducible refine Kv.drewN ?_ _ | with_reducible refine Kv.no ?_ (by assumption))))); rintro e w5 ⟨rfl, hf5⟩; rw [Hfp.out, Hfis.out]))
    have hob := (Ob.new w #[.slice K k.length kc, .string s] 38).no hf5
    obtain ⟨b0, b1⟩ := cells2 hob
    obtain ⟨A', hA'⟩ : ∃ A', (if c = 0 then A else Option.map (fun x => x.add 0) A) = A' := ⟨_, rfl⟩
    obtain ⟨A1, c1, w1, A3, c3, w3, hrun1, hrun2, hv3, hf3, hf1⟩ := put_core (w5 := w5.drew) (A := A) (A' := A) (A2 := A2) (K := K) (n := n) (c := c) (i := i) (j := i + 1) (c2 := c - (i + 1)) (kc := kc) (rs := rs) (k := k) (s := s) ((Hr.out.alloc _).no hf5).drew ((Hk.out.alloc _).no hf5).drew hz (by omega) hin hn1 (fun _ b off e => e) (fun e => by
      subst e
      rcases Nat.eq_zero_or_pos n with h | h
      · omega
      · obtain ⟨b, off, h1, _⟩ := Hr.out.at_ (by rw [← Hr.out.len]; exact h)
        cases h1) (fun h b off e => by
      subst e
      rw [← hA2, if_neg (by omega)]
      simp [add_lit]) Hput.out
    obtain ⟨N, hN⟩ : ∃ N, i + 1 + (n - (i + 1)) = N := ⟨_, rfl⟩
    rw [hN] at hrun2 hv3
    clear hN
    have Hv3 := Lib.hid hv3
    have Hf3 := Lib.hid (show Fr No w w3 from (((Fr.refl No w).alloc _).tr hf5).drew.tr hf3)
    have hrun0 : (appSem #[22, 22] 22 #[.slice A i i, .slice (some ⟨w5.heap.size, 0, none⟩) 1 1]).run Try.prog ((w5.alloc (.cells #[.slice K k.length kc, .string s] 38)).drew) = .ok (.slice A1 (i + 1) c1) w1 := hrun1
    have hic : i ≤ c := by omega
    have hin2 : i ≤ n := by omega
    have d1 := cel_no (cel_drew b0) hf1
    have d2 := cel_no (cel_drew b1) hf1
    have d3 := cel_no (cel_drew b0) hf3
    have d4 := cel_no (cel_drew b1) hf3
    clear hv3 hf3 hf1 hrun1
    go_region_held3 (fun w' => w'.cell? ⟨w.heap.size, 0, none⟩ = some (.slice K k.length kc) ∧ w'.cell? ⟨w.heap.size, 1, none⟩ = some (.string s)) ((refine ⟨?_, ?_⟩; (repeat (first | with_reducible assumption | with_reducible refine cel_alloc ?_ _ | with_reducible refine cel_drew ?_ | with_reducible refine cel_drewN ?_ _ | with_reducible refine cel_set ?_ (by first | (simp; done) | (simp; omega)) _ | with_reducible refine cel_no ?_ (by assumption))); (repeat (first | with_reducible assumption | with_reducible refine cel_alloc ?_ _ | with_reducible refine cel_drew ?_ | with_reducible refine cel_drewN ?_ _ | with_reducible refine cel_set ?_ (by first | (simp; done) | (simp; omega)) _ | with_reducible refine cel_no ?_ (by assumption)))))
      ((go_at_call 43; ((with_reducible refine (copied_any (rs := out) Hv3.out Hsh.out).mono ?_); rintro e w6 ⟨A6, n6, c6, rfl, ho6, hf6⟩)))
    go_wp2
    go_ret
    exact ⟨A6, n6, c6, rfl, ho6.base_ Hf3.out.size, Hf3.out.tr hf6⟩
  | false =>
    have Hfis := Lib.hid hfis
    rw [hfis] at Hfi Hput
    clear hfis
    obtain ⟨A2, hA2⟩ : ∃ A2, (if c = i then A else Option.map (fun x => x.add (i * 2)) A) = A2 := ⟨_, rfl⟩
    go_enter Try.func22, Try.ntmps22
    go_wp2_with (go_at_call 25; ((with_reducible refine (find_any (rs := rs) (k := k) ?_ ?_ Hs.out hn1).mono ?_); (focus ((have hr := Hr.out); (repeat (first | with_reducible assumption | with_reducible exact Rv.none_ _ | with_reducible refine Rv.alloc ?_ _ | with_reducible refine Rv.drew ?_ | with_reducible refine Rv.drewN ?_ _ | with_reducible refine Rv.no ?_ (by assumption))))); (focus ((have hk := Hk.out); (repeat (first | with_reducible assumption | ((with_reducible refine Kv.lit_new _ _ _ _ _ _ ?_ ?_ ?_ ?_) <;> (first | (simp; done) | rfl | decide)) | with_reducible exact Kv.none_ _ | with_reducible refine Kv.alloc ?_ _ | with_reducible refine Kv.drew ?_ | with_reducible refine Kv.drewN ?_ _ | with_reducible refine Kv.no ?_ (by assumption))))); rintro e w5 ⟨rfl, hf5⟩; rw [Hfp.out, Hfis.out]))
    have hob := (Ob.new w #[.slice K k.length kc, .string s] 38).no hf5
    obtain ⟨b0, b1⟩ := cells2 hob
    obtain ⟨A', hA'⟩ : ∃ A', (if c = 0 then A else Option.map (fun x => x.add 0) A) = A' := ⟨_, rfl⟩
    obtain ⟨A1, c1, w1, A3, c3, w3, hrun1, hrun2, hv3, hf3, hf1⟩ := put_core (w5 := w5.drew) (A := A) (A' := A) (A2 := A2) (K := K) (n := n) (c := c) (i := i) (j := i) (c2 := c - i) (kc := kc) (rs := rs) (k := k) (s := s) ((Hr.out.alloc _).no hf5).drew ((Hk.out.alloc _).no hf5).drew hz (Nat.le_refl _) hfl hn1 (fun _ b off e => e) (fun e => by
      subst e
      rcases Nat.eq_zero_or_pos n with h | h
      · omega
      · obtain ⟨b, off, h1, _⟩ := Hr.out.at_ (by rw [← Hr.out.len]; exact h)
        cases h1) (fun h b off e => by
      subst e
      rw [← hA2, if_neg (by omega)]
      simp [add_lit]) Hput.out
    obtain ⟨N, hN⟩ : ∃ N, i + 1 + (n - i) = N := ⟨_, rfl⟩
    rw [hN] at hrun2 hv3
    clear hN
    have Hv3 := Lib.hid hv3
    have Hf3 := Lib.hid (show Fr No w w3 from (((Fr.refl No w).alloc _).tr hf5).drew.tr hf3)
    have hrun0 : (appSem #[22, 22] 22 #[.slice A i i, .slice (some ⟨w5.heap.size, 0, none⟩) 1 1]).run Try.prog ((w5.alloc (.cells #[.slice K k.length kc, .string s] 38)).drew) = .ok (.slice A1 (i + 1) c1) w1 := hrun1
    have hic : i ≤ c := by omega
    have hin2 : i ≤ n := by omega
    have d1 := cel_no (cel_drew b0) hf1
    have d2 := cel_no (cel_drew b1) hf1
    have d3 := cel_no (cel_drew b0) hf3
    have d4 := cel_no (cel_drew b1) hf3
    clear hv3 hf3 hf1 hrun1
    go_region_held3 (fun w' => w'.cell? ⟨w.heap.size, 0, none⟩ = some (.slice K k.length kc) ∧ w'.cell? ⟨w.heap.size, 1, none⟩ = some (.string s)) ((refine ⟨?_, ?_⟩; (repeat (first | with_reducible assumption | with_reducible refine cel_alloc ?_ _ | with_reducible refine cel_drew ?_ | with_reducible refine cel_drewN ?_ _ | with_reducible refine cel_set ?_ (by first | (simp; done) | (simp; omega)) _ | with_reducible refine cel_no ?_ (by assumption))); (repeat (first | with_reducible assumption | with_reducible refine cel_alloc ?_ _ | with_reducible refine cel_drew ?_ | with_reducible refine cel_drewN ?_ _ | with_reducible refine cel_set ?_ (by first | (simp; done) | (simp; omega)) _ | with_reducible refine cel_no ?_ (by assumption)))))
      ((go_at_call 43; ((with_reducible refine (copied_any (rs := out) Hv3.out Hsh.out).mono ?_); rintro e w6 ⟨A6, n6, c6, rfl, ho6, hf6⟩)))
    go_wp2
    go_ret
    exact ⟨A6, n6, c6, rfl, ho6.base_ Hf3.out.size, Hf3.out.tr hf6⟩
end
end Go.Proofs.Ytehhmpoijonghaa.Ru
