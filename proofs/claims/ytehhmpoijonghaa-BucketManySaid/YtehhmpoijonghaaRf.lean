/- Where a record stands: the document's way, the program's. -/
import Derived.Test.YtehhmpoijonghaaGe
import Derived.Test.YtehhmpoijonghaaGb
import Derived.StillTailTactics
namespace Go.Proofs.Ytehhmpoijonghaa.Rf
open Go.RowKit Go.Proofs.Ytehhmpoijonghaa.Pk08 Go.Proofs.Ytehhmpoijonghaa.Base Go.Proofs.Ytehhmpoijonghaa.App Go.Proofs.Ytehhmpoijonghaa.Str Go.Proofs.Ytehhmpoijonghaa.Ky Go.Proofs.Ytehhmpoijonghaa.Bx Go.Proofs.Ytehhmpoijonghaa.Bo Go.Proofs.Ytehhmpoijonghaa.Pl08 Go.Proofs.Ytehhmpoijonghaa.Kc08 Go.Proofs.Ytehhmpoijonghaa.Kd08 Go.Proofs.Ytehhmpoijonghaa.Rv Go.Proofs.Ytehhmpoijonghaa.Rp Go.Proofs.Ytehhmpoijonghaa.Ro Go.Proofs.Ytehhmpoijonghaa.Rk
set_option linter.unusedVariables false
set_option linter.unusedSimpArgs false
theorem recD {rs : List Rv.Rec} (i : Nat) (h : i < rs.length) : rs.getD i rec0 = rs[i] := by simp [List.getD_eq_getElem?_getD, h]
theorem fis_at {rs : List Rv.Rec} {k : List Nat} (h : fpos rs k < rs.length) : fis rs k = (cmp (rs.getD (fpos rs k) rec0).1 k == 0) := by
  unfold fis
  rw [List.getElem?_eq_getElem h, recD _ h, cmp_eqB]
theorem fis_out {rs : List Rv.Rec} {k : List Nat} (h : ¬ fpos rs k < rs.length) : fis rs k = false := by
  unfold fis
  rw [List.getElem?_eq_none (by omega)]
section
variable {w : World} {A B : Option Addr} {n m c d : Nat} {rs : List Rv.Rec} {k : List Nat}
set_option maxHeartbeats 1600000 in
theorem rfind_any (hr : Rv w A n c rs) (hk : Kv w B m d k) : Calls Try.prog 26 #[.slice A n c, .slice B m d] w fun e w' => e = .returned (.tuple #[.int .i64 ((fpos rs k : Nat) : Int), .bool (fis rs k)]) ∧ Fr No w w' := by
  have hn := hr.len_le
  have Hr := Lib.hid hr
  have Hk := Lib.hid hk
  clear hr hk
  go_enter Try.func26, Try.ntmps26
  go_wp2
  go_loopw [6] (fun v wr => ∃ i : Nat, v = .int .i64 i ∧ Hid (i ≤ n ∧ (∀ j, j < i → cmp (rs.getD j rec0).1 k < 0) ∧ Fr No w wr)) (fun v _ => n - (intOf v).toNat)
  case atStart => exact ⟨0, rfl, Lib.hid ⟨Nat.zero_le _, fun j hj => by omega, Fr.refl _ _⟩⟩
  case round =>
    obtain ⟨i, rfl, Hi⟩ := hrel
    have Hu := Lib.hid (show ∀ _ : ¬ (i < n ∧ cmp (rs.getD i rec0).1 k < 0), fpos rs k = i from fun h => fpos_unique rs k i (by rw [← Hr.out.len]; exact Hi.out.1) (fun j hj hji => by rw [← recD j hj]; exact Hi.out.2.1 j hji) (fun hx => by rw [← recD i hx]; exact fun hc => h ⟨by rw [Hr.out.len]; exact hx, hc⟩))
    by_cases hlt : i < n
    · obtain ⟨b, off, KA, kc, rfl, a0, a1, hka, hza⟩ := (Hr.out.no Hi.out.2.2).get i (by rw [← Hr.out.len]; exact hlt)
      have Hka := Lib.hid hka
      have Hkb := Lib.hid (Hk.out.no Hi.out.2.2)
      have Hlt := Lib.hid hlt
      clear hka
      by_cases hc : cmp (rs.getD i rec0).1 k < 0
      · have Hc := Lib.hid hc
        have Hyes := Lib.hid (show ∀ j, j < i + 1 → cmp (rs.getD j rec0).1 k < 0 from fun j hj => by
          by_cases e : j = i
          · subst e; exact Hc.out
          · exact Hi.out.2.1 j (by omega))
        clear Hu
        generalize hrr : rs.getD i rec0 = r at *
        clear hrr
        obtain ⟨ks, s⟩ := r
        simp only at *
        go_wp2_with (go_at_call 41; ((with_reducible refine (rcompare (a := ks) (b := k) ?_ ?_).mono ?_); (focus ((have hk := Hka.out); (repeat (first | with_reducible assumption | ((with_reducible refine Kv.lit_new _ _ _ _ _ _ ?_ ?_ ?_ ?_) <;> (first | (simp; done) | rfl | decide)) | with_reducible exact Kv.none_ _ | with_reducible refine Kv.alloc ?_ _ | with_reducible refine Kv.drew ?_ | with_reducible refine Kv.drewN ?_ _ | with_reducible refine Kv.no ?_ (by assumption))))); (focus ((have hk := Hkb.out); (repeat (first | with_reducible assumption | ((with_reducible refine Kv.lit_new _ _ _ _ _ _ ?_ ?_ ?_ ?_) <;> (first | (simp; done) | rfl | decide)) | with_reducible exact Kv.none_ _ | with_reducible refine Kv.alloc ?_ _ | with_reducible refine Kv.drew ?_ | with_reducible refine Kv.drewN ?_ _ | with_reducible refine Kv.no ?_ (by assumption))))); rintro e w5 ⟨rfl, hf5⟩))
        go_roundw
        case rel => exact ⟨i + 1, by go_num, Lib.hid ⟨Hlt.out, Hyes.out, by have := Hi.out.2.2; (repeat (first | with_reducible exact Fr.refl _ _ | with_reducible refine Fr.setCell ?_ (.inr (by first | (simp; done) | (simp; omega))) _ | with_reducible refine Fr.alloc ?_ _ | with_reducible refine Fr.drew ?_ | with_reducible refine Fr.drewN ?_ _ | with_reducible refine Fr.tr ?_ (by assumption)))⟩⟩
        case measure => have := Hlt.out; simp [intOf]; omega
      · have Hf := Lib.hid (Hu.out (fun h => hc h.2))
        have Hfi := Lib.hid (show fis rs k = (cmp (rs.getD i rec0).1 k == 0) by rw [fis_at (by rw [Hf.out, ← Hr.out.len]; exact Hlt.out), Hf.out])
        clear Hu
        generalize hrr : rs.getD i rec0 = r at *
        clear hrr
        obtain ⟨ks, s⟩ := r
        simp only at *
        go_wp2_with (first
          | (go_at_call 41; ((with_reducible refine (rcompare (a := ks) (b := k) ?_ ?_).mono ?_); (focus ((have hk := Hka.out); (repeat (first | with_reducible assumption | ((with_reducible refine Kv.lit_new _ _ _ _ _ _ ?_ ?_ ?_ ?_) <;> (first | (simp; done) | rfl | decide)) | with_reducible exact Kv.none_ _ | with_reducible refine Kv.alloc ?_ _ | with_reducible refine Kv.drew ?_ | with_reducible refine Kv.drewN ?_ _ | with_reducible refine Kv.no ?_ (by assumption))))); (focus ((have hk := Hkb.out); (repeat (first | with_reducible assumption | ((with_reducible refine Kv.lit_new _ _ _ _ _ _ ?_ ?_ ?_ ?_) <;> (first | (simp; done) | rfl | decide)) | with_reducible exact Kv.none_ _ | with_reducible refine Kv.alloc ?_ _ | with_reducible refine Kv.drew ?_ | with_reducible refine Kv.drewN ?_ _ | with_reducible refine Kv.no ?_ (by assumption))))); rintro e w5 ⟨rfl, hf5⟩; (obtain ⟨a05, a15⟩ : w5.cell? ⟨b, off + i * 2, none⟩ = some (.slice KA ks.length kc) ∧ w5.cell? ⟨b, off + i * 2 + 1, none⟩ = some (.string s) := (by refine ⟨?_, ?_⟩ <;> (repeat (first | with_reducible assumption | with_reducible refine cel_alloc ?_ _ | with_reducible refine cel_drew ?_ | with_reducible refine cel_drewN ?_ _ | with_reducible refine cel_set ?_ (by first | (simp; done) | (simp; omega)) _ | with_reducible refine cel_no ?_ (by assumption)))))))
          | (go_at_call 29; ((with_reducible refine (Go.Proofs.Ytehhmpoijonghaa.Kd08.same (a := ks) (b := k) ?_ ?_).mono ?_); (focus ((have hk := Hka.out); (repeat (first | with_reducible assumption | ((with_reducible refine Kv.lit_new _ _ _ _ _ _ ?_ ?_ ?_ ?_) <;> (first | (simp; done) | rfl | decide)) | with_reducible exact Kv.none_ _ | with_reducible refine Kv.alloc ?_ _ | with_reducible refine Kv.drew ?_ | with_reducible refine Kv.drewN ?_ _ | with_reducible refine Kv.no ?_ (by assumption))))); (focus ((have hk := Hkb.out); (repeat (first | with_reducible assumption | ((with_reducible refine Kv.lit_new _ _ _ _ _ _ ?_ ?_ ?_ ?_) <;> (first | (simp; done) | rfl | decide)) | with_reducible exact Kv.none_ _ | with_reducible refine Kv.alloc ?_ _ | with_reducible refine Kv.drew ?_ | with_reducible refine Kv.drewN ?_ _ | with_reducible refine Kv.no ?_ (by assumption))))); rintro e w6 ⟨rfl, hf6⟩))
          | fail)
        go_ret2
        exact ⟨by rw [Hf.out, Hfi.out]; rfl, by have := Hi.out.2.2; (repeat (first | with_reducible exact Fr.refl _ _ | with_reducible refine Fr.setCell ?_ (.inr (by first | (simp; done) | (simp; omega))) _ | with_reducible refine Fr.alloc ?_ _ | with_reducible refine Fr.drew ?_ | with_reducible refine Fr.drewN ?_ _ | with_reducible refine Fr.tr ?_ (by assumption)))⟩
    · obtain rfl : i = n := by have := Hi.out.1; omega
      have Hf := Lib.hid (Hu.out (fun h => hlt h.1))
      have Hfi := Lib.hid (show fis rs k = false from fis_out (by rw [Hf.out, ← Hr.out.len]; exact hlt))
      go_wp2
      go_ret2
      exact ⟨by rw [Hf.out, Hfi.out]; rfl, Hi.out.2.2⟩
set_option maxHeartbeats 1600000 in
theorem find1_any {ks : List Nat} {s : ByteArray} {n : Nat} (ha : Kv w A n c ks) (hk : Kv w B m d k) : Calls Try.prog 45 #[.agg #[.slice A n c, .string s], .slice B m d] w fun e w' => e = .returned (.int .i64 (cmp ks k)) ∧ Fr No w w' := by
  have Ha := Lib.hid ha
  have Hk := Lib.hid hk
  clear ha hk
  go_enter Try.func45, Try.ntmps45
  go_wp2_with (go_at_call 46; ((with_reducible refine (Go.Proofs.Ytehhmpoijonghaa.Kc08.compare (a := ks) (b := k) ?_ ?_).mono ?_); (focus ((have hk := Ha.out); (repeat (first | with_reducible assumption | ((with_reducible refine Kv.lit_new _ _ _ _ _ _ ?_ ?_ ?_ ?_) <;> (first | (simp; done) | rfl | decide)) | with_reducible exact Kv.none_ _ | with_reducible refine Kv.alloc ?_ _ | with_reducible refine Kv.drew ?_ | with_reducible refine Kv.drewN ?_ _ | with_reducible refine Kv.no ?_ (by assumption))))); (focus ((have hk := Hk.out); (repeat (first | with_reducible assumption | ((with_reducible refine Kv.lit_new _ _ _ _ _ _ ?_ ?_ ?_ ?_) <;> (first | (simp; done) | rfl | decide)) | with_reducible exact Kv.none_ _ | with_reducible refine Kv.alloc ?_ _ | with_reducible refine Kv.drew ?_ | with_reducible refine Kv.drewN ?_ _ | with_reducible refine Kv.no ?_ (by assumption))))); rintro e w5 ⟨rfl, rfl⟩))
  go_ret
  refine ⟨rfl, ?_⟩
  (repeat (first | with_reducible exact Fr.refl _ _ | with_reducible refine Fr.setCell ?_ (.inr (by first | (simp; done) | (simp; omega))) _ | with_reducible refine Fr.alloc ?_ _ | with_reducible refine Fr.drew ?_ | with_reducible refine Fr.drewN ?_ _ | with_reducible refine Fr.tr ?_ (by assumption)))
theorem search_any (hr : Rv w A n c rs) (hk : Kv w B m d k) (hs : Strict rs) (hn1 : n ≤ 1000000) : Calls Try.prog 44 #[.slice A n c, .slice B m d, .func (.func 45) #[] #[]] w fun e w' => e = .returned (.tuple #[.int .i64 ((fpos rs k : Nat) : Int), .bool (fis rs k)]) ∧ Fr No w w' := by
  have hn := hr.len_le
  have Hr := Lib.hid hr
  have Hk := Lib.hid hk
  have Hs := Lib.hid hs
  clear hr hk hs
  go_enter Try.func44, Try.ntmps44
  go_wp2
  go_loopw [9, 10] (fun u v wr => ∃ i j : Nat, u = .int .i64 i ∧ v = .int .i64 j ∧ Hid (i ≤ j ∧ j ≤ n ∧ (∀ x, x < i → cmp (rs.getD x rec0).1 k < 0) ∧ (∀ x, j ≤ x → x < n → 0 ≤ cmp (rs.getD x rec0).1 k) ∧ Fr No w wr)) (fun u v _ => (intOf v).toNat - (intOf u).toNat)
  case atStart => exact ⟨0, n, rfl, rfl, Lib.hid ⟨Nat.zero_le _, Nat.le_refl _, fun j hj => by omega, fun x h1 h2 => by omega, Fr.refl _ _⟩⟩
  case round =>
    obtain ⟨i, j, rfl, rfl, Hi⟩ := hrel
    by_cases hlt : i < j
    · have hjn := Hi.out.2.1
      have hdv : ((i : Int) + (j : Int)) / 2 = (((i + j) / 2 : Nat) : Int) := by omega
      have hhi : i ≤ (i + j) / 2 := by omega
      have hhj : (i + j) / 2 < j := by omega
      generalize (i + j) / 2 = h at *
      obtain ⟨b, off, KA, kc, rfl, a0, a1, hka, hza⟩ := (Hr.out.no Hi.out.2.2.2.2).get h (by rw [← Hr.out.len]; omega)
      have Hka := Lib.hid hka
      have Hkb := Lib.hid (Hk.out.no Hi.out.2.2.2.2)
      have Hlow := Lib.hid (show cmp (rs.getD h rec0).1 k < 0 → ∀ x, x < h + 1 → cmp (rs.getD x rec0).1 k < 0 from fun hc x hx => by
        by_cases e : x = h
        · subst e; exact hc
        · have hh : h < rs.length := by rw [← Hr.out.len]; omega
          have h1 := List.pairwise_iff_getElem.1 Hs.out x h (by omega) hh (by omega)
          rw [recD h hh] at hc
          rw [recD x (by omega)]
          exact cmp_lt_trans h1 hc)
      have Hhigh := Lib.hid (show ¬ cmp (rs.getD h rec0).1 k < 0 → ∀ x, h ≤ x → x < n → 0 ≤ cmp (rs.getD x rec0).1 k from fun hc x hx hxn => by
        refine Int.not_lt.1 (fun hc2 => ?_)
        by_cases e : x = h
        · subst e; exact hc hc2
        · have hh : h < rs.length := by rw [← Hr.out.len]; omega
          have hxl : x < rs.length := by rw [← Hr.out.len]; exact hxn
          have h1 := List.pairwise_iff_getElem.1 Hs.out h x hh hxl (by omega)
          rw [recD h hh] at hc
          rw [recD x hxl] at hc2
          exact hc (cmp_lt_trans h1 hc2))
      clear hka
      have Hjn := Lib.hid hjn
      by_cases hc : cmp (rs.getD h rec0).1 k < 0
      · have HL := Lib.hid (Hlow.out hc)
        clear Hlow Hhigh
        generalize hrr : rs.getD h rec0 = r at *
        clear hrr
        obtain ⟨ks, s⟩ := r
        simp only at *
        go_wp2_with (go_at_call 45; ((with_reducible refine (find1_any (ks := ks) (k := k) ?_ ?_).mono ?_); (focus ((have hk := Hka.out); (repeat (first | with_reducible assumption | ((with_reducible refine Kv.lit_new _ _ _ _ _ _ ?_ ?_ ?_ ?_) <;> (first | (simp; done) | rfl | decide)) | with_reducible exact Kv.none_ _ | with_reducible refine Kv.alloc ?_ _ | with_reducible refine Kv.drew ?_ | with_reducible refine Kv.drewN ?_ _ | with_reducible refine Kv.no ?_ (by assumption))))); (focus ((have hk := Hkb.out); (repeat (first | with_reducible assumption | ((with_reducible refine Kv.lit_new _ _ _ _ _ _ ?_ ?_ ?_ ?_) <;> (first | (simp; done) | rfl | decide)) | with_reducible exact Kv.none_ _ | with_reducible refine Kv.alloc ?_ _ | with_reducible refine Kv.drew ?_ | with_reducible refine Kv.drewN ?_ _ | with_reducible refine Kv.no ?_ (by assumption))))); rintro e w5 ⟨rfl, hf5⟩))
        go_roundw
        case rel => exact ⟨h + 1, j, by go_num, rfl, Lib.hid ⟨by omega, Hjn.out, HL.out, Hi.out.2.2.2.1, by have := Hi.out.2.2.2.2; (repeat (first | with_reducible exact Fr.refl _ _ | with_reducible refine Fr.setCell ?_ (.inr (by first | (simp; done) | (simp; omega))) _ | with_reducible refine Fr.alloc ?_ _ | with_reducible refine Fr.drew ?_ | with_reducible refine Fr.drewN ?_ _ | with_reducible refine Fr.tr ?_ (by assumption)))⟩⟩
        case measure => simp [intOf]; omega
      · have HH := Lib.hid (Hhigh.out hc)
        clear Hlow Hhigh
        generalize hrr : rs.getD h rec0 = r at *
        clear hrr
        obtain ⟨ks, s⟩ := r
        simp only at *
        go_wp2_with (go_at_call 45; ((with_reducible refine (find1_any (ks := ks) (k := k) ?_ ?_).mono ?_); (focus ((have hk := Hka.out); (repeat (first | with_reducible assumption | ((with_reducible refine Kv.lit_new _ _ _ _ _ _ ?_ ?_ ?_ ?_) <;> (first | (simp; done) | rfl | decide)) | with_reducible exact Kv.none_ _ | with_reducible refine Kv.alloc ?_ _ | with_reducible refine Kv.drew ?_ | with_reducible refine Kv.drewN ?_ _ | with_reducible refine Kv.no ?_ (by assumption))))); (focus ((have hk := Hkb.out); (repeat (first | with_reducible assumption | ((with_reducible refine Kv.lit_new _ _ _ _ _ _ ?_ ?_ ?_ ?_) <;> (first | (simp; done) | rfl | decide)) | with_reducible exact Kv.none_ _ | with_reducible refine Kv.alloc ?_ _ | with_reducible refine Kv.drew ?_ | with_reducible refine Kv.drewN ?_ _ | with_reducible refine Kv.no ?_ (by assumption))))); rintro e w5 ⟨rfl, hf5⟩))
        go_roundw
        case rel => exact ⟨i, h, rfl, rfl, Lib.hid ⟨hhi, by omega, Hi.out.2.2.1, HH.out, by have := Hi.out.2.2.2.2; (repeat (first | with_reducible exact Fr.refl _ _ | with_reducible refine Fr.setCell ?_ (.inr (by first | (simp; done) | (simp; omega))) _ | with_reducible refine Fr.alloc ?_ _ | with_reducible refine Fr.drew ?_ | with_reducible refine Fr.drewN ?_ _ | with_reducible refine Fr.tr ?_ (by assumption)))⟩⟩
        case measure => simp [intOf]; omega
    · obtain rfl : i = j := by have := Hi.out.1; omega
      have Hf := Lib.hid (show fpos rs k = i from fpos_unique rs k i (by rw [← Hr.out.len]; exact Hi.out.2.1) (fun x hx hxi => by rw [← recD x hx]; exact Hi.out.2.2.1 x hxi) (fun hx => by rw [← recD i hx]; exact Int.not_lt.2 (Hi.out.2.2.2.1 i (Nat.le_refl _) (by rw [Hr.out.len]; exact hx))))
      by_cases hlt2 : i < n
      · obtain ⟨b, off, KA, kc, rfl, a0, a1, hka, hza⟩ := (Hr.out.no Hi.out.2.2.2.2).get i (by rw [← Hr.out.len]; exact hlt2)
        have Hka := Lib.hid hka
        have Hkb := Lib.hid (Hk.out.no Hi.out.2.2.2.2)
        have Hfi := Lib.hid (show fis rs k = (cmp (rs.getD i rec0).1 k == 0) by rw [fis_at (by rw [Hf.out, ← Hr.out.len]; exact hlt2), Hf.out])
        clear hka
        generalize hrr : rs.getD i rec0 = r at *
        clear hrr
        obtain ⟨ks, s⟩ := r
        simp only at *
        go_wp2_with (go_at_call 45; ((with_reducible refine (find1_any (ks := ks) (k := k) ?_ ?_).mono ?_); (focus ((have hk := Hka.out); (repeat (first | with_reducible assumption | ((with_reducible refine Kv.lit_new _ _ _ _ _ _ ?_ ?_ ?_ ?_) <;> (first | (simp; done) | rfl | decide)) | with_reducible exact Kv.none_ _ | with_reducible refine Kv.alloc ?_ _ | with_reducible refine Kv.drew ?_ | with_reducible refine Kv.drewN ?_ _ | with_reducible refine Kv.no ?_ (by assumption))))); (focus ((have hk := Hkb.out); (repeat (first | with_reducible assumption | ((with_reducible refine Kv.lit_new _ _ _ _ _ _ ?_ ?_ ?_ ?_) <;> (first | (simp; done) | rfl | decide)) | with_reducible exact Kv.none_ _ | with_reducible refine Kv.alloc ?_ _ | with_reducible refine Kv.drew ?_ | with_reducible refine Kv.drewN ?_ _ | with_reducible refine Kv.no ?_ (by assumption))))); rintro e w5 ⟨rfl, hf5⟩))
        go_ret2
        exact ⟨by rw [Hf.out, Hfi.out]; rfl, by have := Hi.out.2.2.2.2; (repeat (first | with_reducible exact Fr.refl _ _ | with_reducible refine Fr.setCell ?_ (.inr (by first | (simp; done) | (simp; omega))) _ | with_reducible refine Fr.alloc ?_ _ | with_reducible refine Fr.drew ?_ | with_reducible refine Fr.drewN ?_ _ | with_reducible refine Fr.tr ?_ (by assumption)))⟩
      · have Hfi := Lib.hid (show fis rs k = false from fis_out (by rw [Hf.out, ← Hr.out.len]; exact hlt2))
        go_wp2
        go_ret2
        exact ⟨by rw [Hf.out, Hfi.out]; rfl, Hi.out.2.2.2.2⟩
theorem find_any (hr : Rv w A n c rs) (hk : Kv w B m d k) (hs : Strict rs) (hn1 : n ≤ 1000000) : Calls Try.prog 25 #[.slice A n c, .slice B m d] w fun e w' => e = .returned (.tuple #[.int .i64 ((fpos rs k : Nat) : Int), .bool (fis rs k)]) ∧ Fr No w w' := by
  have Hr := Lib.hid hr
  have Hk := Lib.hid hk
  have Hs := Lib.hid hs
  clear hr hk hs
  go_enter Try.func25, Try.ntmps25
  go_wp2_with (go_at_call 44; ((with_reducible refine (search_any (rs := rs) (k := k) ?_ ?_ Hs.out hn1).mono ?_); (focus ((have hr := Hr.out); (repeat (first | with_reducible assumption | with_reducible exact Rv.none_ _ | with_reducible refine Rv.alloc ?_ _ | with_reducible refine Rv.drew ?_ | with_reducible refine Rv.drewN ?_ _ | with_reducible refine Rv.no ?_ (by assumption))))); (focus ((have hk := Hk.out); (repeat (first | with_reducible assumption | ((with_reducible refine Kv.lit_new _ _ _ _ _ _ ?_ ?_ ?_ ?_) <;> (first | (simp; done) | rfl | decide)) | with_reducible exact Kv.none_ _ | with_reducible refine Kv.alloc ?_ _ | with_reducible refine Kv.drew ?_ | with_reducible refine Kv.drewN ?_ _ | with_reducible refine Kv.no ?_ (by assumption))))); rintro e w5 ⟨rfl, hf5⟩))
  go_ret2
  exact ⟨rfl, by (repeat (first | with_reducible exact Fr.refl _ _ | with_reducible refine Fr.setCell ?_ (.inr (by first | (simp; done) | (simp; omega))) _ | with_reducible refine Fr.alloc ?_ _ | with_reducible refine Fr.drew ?_ | with_reducible refine Fr.drewN ?_ _ | with_reducible refine Fr.tr ?_ (by assumption)))⟩
end
end Go.Proofs.Ytehhmpoijonghaa.Rf
