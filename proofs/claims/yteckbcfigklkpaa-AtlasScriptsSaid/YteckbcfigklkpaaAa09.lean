/- Layer 9: a record searched for, and records of their own (XRf's and XRb's walks, of the atlas's functions). -/
import Derived.Test.YteckbcfigklkpaaRb
import Derived.Test.YteckbcfigklkpaaRf
import Derived.StillTailTactics
namespace Go.Proofs.Yteckbcfigklkpaa.Aa09
open Go.RowKit Go.Proofs.Yteckbcfigklkpaa.Pk08 Go.Proofs.Yteckbcfigklkpaa.Base Go.Proofs.Yteckbcfigklkpaa.App Go.Proofs.Yteckbcfigklkpaa.Str Go.Proofs.Yteckbcfigklkpaa.Ky Go.Proofs.Yteckbcfigklkpaa.Bx Go.Proofs.Yteckbcfigklkpaa.Bo Go.Proofs.Yteckbcfigklkpaa.As Go.Proofs.Yteckbcfigklkpaa.Pl08 Go.Proofs.Yteckbcfigklkpaa.Kc08 Go.Proofs.Yteckbcfigklkpaa.Cl Go.Proofs.Yteckbcfigklkpaa.Rv Go.Proofs.Yteckbcfigklkpaa.Rp Go.Proofs.Yteckbcfigklkpaa.Ro Go.Proofs.Yteckbcfigklkpaa.Rk Go.Proofs.Yteckbcfigklkpaa.Rb Go.Proofs.Yteckbcfigklkpaa.Rf
set_option linter.unusedVariables false
set_option linter.unusedSimpArgs false
attribute [local go_sem ↓ high] builtin_app
/-- A list of records of the call's own; the points of its first j are of the kind Q. -/
def Owj (w : World) (base : Nat) (e : TypeId) (P Q : Nat → Prop) (j : Nat) (A : Option Addr) (n c : Nat) (rs : List Rv.Rec) : Prop :=
  ∃ ps, recs ps = rs ∧ w.ownsRow base e 2 (.slice A n c) n (rcells ps) ∧ ∀ i (h : i < ps.length), Pk w (fun b => (if i < j then Q b else P b) ∧ Av A b) ps[i]
section
variable {S P Q : Nat → Prop} {w w1 : World} {A : Option Addr} {n c base j : Nat} {e : TypeId} {rs : List Rv.Rec}
theorem Owj.start (h : Ow w base e P A n c rs) : Owj w base e P Q 0 A n c rs := by
  obtain ⟨ps, h1, h2, h3⟩ := h
  exact ⟨ps, h1, h2, fun i hi => (h3 _ (List.getElem_mem hi)).mono (fun b hb => ⟨by rw [if_neg (by omega)]; exact hb.1, hb.2⟩)⟩
theorem Owj.ow (h : Owj w base e P Q j A n c rs) : Ow w base e (fun b => Q b ∨ P b) A n c rs := by
  obtain ⟨ps, h1, h2, h3⟩ := h
  refine ⟨ps, h1, h2, fun p hp => ?_⟩
  obtain ⟨i, hi, rfl⟩ := List.mem_iff_getElem.1 hp
  exact (h3 i hi).mono (fun b hb => ⟨by have := hb.1; split at this; exact .inl this; exact .inr this, hb.2⟩)
theorem Owj.no (h : Owj w base e P Q j A n c rs) (f : Fr No w w1) : Owj w1 base e P Q j A n c rs := by
  obtain ⟨ps, h1, h2, h3⟩ := h
  exact ⟨ps, h1, own_fr h2 f (fun _ _ x => x), fun i hi => (h3 i hi).no f⟩
theorem Owj.fin (h : Owj w base e P Q n A n c rs) : Ow w base e Q A n c rs := by
  have hl := h.ow.len
  obtain ⟨ps, h1, h2, h3⟩ := h
  refine ⟨ps, h1, h2, fun p hp => ?_⟩
  obtain ⟨i, hi, rfl⟩ := List.mem_iff_getElem.1 hp
  have hin : i < n := by rw [← h1, recs_len] at hl; omega
  exact (h3 i hi).mono (fun b hb => ⟨by have := hb.1; rwa [if_pos hin] at this, hb.2⟩)
theorem Owj.store {g K kc : _} (h : Owj w base e P Q j (some ⟨g, 0, none⟩) n c rs) (hj : j < n) (hk : Kv w K (rs.getD j rec0).1.length kc (rs.getD j rec0).1) (hK : ∀ b off, K = some ⟨b, off, none⟩ → Q b ∧ b ≠ g) : Owj (w.setCell ⟨g, j * 2, none⟩ (.slice K (rs.getD j rec0).1.length kc)) base e P Q (j + 1) (some ⟨g, 0, none⟩) n c rs := by
  have hl := h.ow.len
  obtain ⟨ps, rfl, h2, h3⟩ := h
  rw [recs_len] at hl
  have hil : j < ps.length := by omega
  have ep : ps.getD j pr0 = ps[j] := by simp [List.getD_eq_getElem?_getD, hil]
  rw [recs_get] at hk ⊢
  refine ⟨ps.set j (K, kc, (ps.getD j pr0).2.2), ?_, ?_, fun i hi => ?_⟩
  · unfold recs
    rw [List.map_set]
    apply List.ext_getElem
    · simp
    · intro q h4 h5
      rw [List.getElem_set]
      split
      · next e => subst e; simp only [ep, List.getElem_map]
      · rfl
  · have h4 := (h2.stored (j * 2) (.slice K (ps.getD j pr0).2.2.1.length kc)).1
    rw [← rcells_key ps j (K, kc, (ps.getD j pr0).2.2) hil rfl] at h4
    exact h4
  · have f : Fr (fun k => k = g) w (w.setCell ⟨g, j * 2, none⟩ (.slice K (ps.getD j pr0).2.2.1.length kc)) := (Fr.refl (fun k => k = g) w).setCell (p := ⟨g, j * 2, none⟩) (.inl rfl) _
    have hi2 : i < ps.length := by simpa using hi
    have hall : Pk w (fun b => (if i < j + 1 then Q b else P b) ∧ Av (some ⟨g, 0, none⟩) b) (ps.set j (K, kc, (ps.getD j pr0).2.2))[i] := by
      by_cases e : j = i
      · subst e
        have h5 := (h3 _ hil).2.1
        rw [← ep] at h5
        rw [List.getElem_set_self]
        exact ⟨hk, h5, fun _ b off e => ⟨by rw [if_pos (by omega)]; exact (hK b off e).1, fun g' o' eg => by injection eg with eg; injection eg with e1; subst e1; exact (hK b off e).2⟩⟩
      · rw [List.getElem_set_ne e]
        refine (h3 i hi2).mono (fun b hb => ⟨?_, hb.2⟩)
        have h6 := hb.1
        by_cases hij : i < j
        · rw [if_pos hij] at h6; rw [if_pos (by omega)]; exact h6
        · rw [if_neg hij] at h6; rw [if_neg (by omega)]; exact h6
    exact hall.fr f (fun b hb e => hb.2 g 0 rfl e)
end
section
variable {w : World} {A B : Option Addr} {n m c d : Nat} {rs : List Rv.Rec} {k : List Nat}
set_option maxHeartbeats 1600000 in
theorem find1_any {ks : List Nat} {s : ByteArray} {n : Nat} (ha : Kv w A n c ks) (hk : Kv w B m d k) : Calls Try.prog 50 #[.agg #[.slice A n c, .string s], .slice B m d] w fun e w' => e = .returned (.int .i64 (cmp ks k)) ∧ Fr No w w' := by
  have Ha := Lib.hid ha
  have Hk := Lib.hid hk
  clear ha hk
  go_enter Try.func50, Try.ntmps50
  go_wp2_with (go_at_call 51; ((with_reducible refine (Go.Proofs.Yteckbcfigklkpaa.Kc08.compare (a := ks) (b := k) ?_ ?_).mono ?_); (focus ((have hk := Ha.out); (repeat (first | with_reducible assumption | ((with_reducible refine Kv.lit_new _ _ _ _ _ _ ?_ ?_ ?_ ?_) <;> (first | (simp; done) | rfl | decide)) | with_reducible exact Kv.none_ _ | with_reducible refine Kv.alloc ?_ _ | with_reducible refine Kv.drew ?_ | with_reducible refine Kv.drewN ?_ _ | with_reducible refine Kv.no ?_ (by assumption))))); (focus ((have hk := Hk.out); (repeat (first | with_reducible assumption | ((with_reducible refine Kv.lit_new _ _ _ _ _ _ ?_ ?_ ?_ ?_) <;> (first | (simp; done) | rfl | decide)) | with_reducible exact Kv.none_ _ | with_reducible refine Kv.alloc ?_ _ | with_reducible refine Kv.drew ?_ | with_reducible refine Kv.drewN ?_ _ | with_reducible refine Kv.no ?_ (by assumption))))); rintro e w5 ⟨rfl, rfl⟩))
  go_ret
  refine ⟨rfl, ?_⟩
  (repeat (first | with_reducible exact Fr.refl _ _ | with_reducible refine Fr.setCell ?_ (.inr (by first | (simp; done) | (simp; omega))) _ | with_reducible refine Fr.alloc ?_ _ | with_reducible refine Fr.drew ?_ | with_reducible refine Fr.drewN ?_ _ | with_reducible refine Fr.tr ?_ (by assumption)))
theorem search_any (hr : Rv w A n c rs) (hk : Kv w B m d k) (hs : Strict rs) (hn1 : n ≤ 1000000) : Calls Try.prog 49 #[.slice A n c, .slice B m d, .func (.func 50) #[] #[]] w fun e w' => e = .returned (.tuple #[.int .i64 ((fpos rs k : Nat) : Int), .bool (fis rs k)]) ∧ Fr No w w' := by
  have hn := hr.len_le
  have Hr := Lib.hid hr
  have Hk := Lib.hid hk
  have Hs := Lib.hid hs
  clear hr hk hs
  go_enter Try.func49, Try.ntmps49
  go_wp2
  go_loopw [9, 10] (fun u v wr => ∃ i j : Nat, u = .int .i64 i ∧ v = .int .i64 j ∧ Hid (i ≤ j ∧ j ≤ n ∧ (∀ x, x < i → cmp (rs.getD x rec0).1 k < 0) ∧ (∀ x, j ≤ x → x < n → 0 ≤ cmp (rs.getD x rec0).1 k) ∧ Fr No w wr)) (fun u v _ => (intOf v).toNat - (intOf u).toNat)
  case atStart => exact ⟨0, n, rfl, rfl, Lib.hid ⟨Nat.zero_le _, Nat.le_refl _, fun j hj => by omega, fun x h1 h2 => by omega, Fr.refl _ _⟩⟩
  case round =>
    obtain ⟨i, j, rfl, rfl, Hi⟩ := hrel
    by_cases hlt : i < j
    · have hjn := Hi.out.2.1
      have hdv : ((i : Int) + (j : Int)) / 2 = (((i + j) / 2 : Nat) : Int) := by omega
      have hhi : i ≤ (i + j) / 2 := by omega
      have hhj : (i + j) / 2 < j := by omega
      generalize (i + j) / 2 = h at *
      obtain ⟨b, off, KA, kc, rfl, a0, a1, hka, hza⟩ := (Hr.out.no Hi.out.2.2.2.2).get h (by rw [← Hr.out.len]; omega)
      have Hka := Lib.hid hka
      have Hkb := Lib.hid (Hk.out.no Hi.out.2.2.2.2)
      have Hlow := Lib.hid (show cmp (rs.getD h rec0).1 k < 0 → ∀ x, x < h + 1 → cmp (rs.getD x rec0).1 k < 0 from fun hc x hx => by
        by_cases e : x = h
        · subst e; exact hc
        · have hh : h < rs.length := by rw [← Hr.out.len]; omega
          have h1 := List.pairwise_iff_getElem.1 Hs.out x h (by omega) hh (by omega)
          rw [recD h hh] at hc
          rw [recD x (by omega)]
          exact cmp_lt_trans h1 hc)
      have Hhigh := Lib.hid (show ¬ cmp (rs.getD h rec0).1 k < 0 → ∀ x, h ≤ x → x < n → 0 ≤ cmp (rs.getD x rec0).1 k from fun hc x hx hxn => by
        refine Int.not_lt.1 (fun hc2 => ?_)
        by_cases e : x = h
        · subst e; exact hc hc2
        · have hh : h < rs.length := by rw [← Hr.out.len]; omega
          have hxl : x < rs.length := by rw [← Hr.out.len]; exact hxn
          have h1 := List.pairwise_iff_getElem.1 Hs.out h x hh hxl (by omega)
          rw [recD h hh] at hc
          rw [recD x hxl] at hc2
          exact hc (cmp_lt_trans h1 hc2))
      clear hka
      have Hjn := Lib.hid hjn
      by_cases hc : cmp (rs.getD h rec0).1 k < 0
      · have HL := Lib.hid (Hlow.out hc)
        clear Hlow Hhigh
        generalize hrr : rs.getD h rec0 = r at *
        clear hrr
        obtain ⟨ks, s⟩ := r
        simp only at *
        go_wp2_with (go_at_call 50; ((with_reducible refine (find1_any (ks := ks) (k := k) ?_ ?_).mono ?_); (focus ((have hk := Hka.out); (repeat (first | with_reducible assumption | ((with_reducible refine Kv.lit_new _ _ _ _ _ _ ?_ ?_ ?_ ?_) <;> (first | (simp; done) | rfl | decide)) | with_reducible exact Kv.none_ _ | with_reducible refine Kv.alloc ?_ _ | with_reducible refine Kv.drew ?_ | with_reducible refine Kv.drewN ?_ _ | with_reducible refine Kv.no ?_ (by assumption))))); (focus ((have hk := Hkb.out); (repeat (first | with_reducible assumption | ((with_reducible refine Kv.lit_new _ _ _ _ _ _ ?_ ?_ ?_ ?_) <;> (first | (simp; done) | rfl | decide)) | with_reducible exact Kv.none_ _ | with_reducible refine Kv.alloc ?_ _ | with_reducible refine Kv.drew ?_ | with_reducible refine Kv.drewN ?_ _ | with_reducible refine Kv.no ?_ (by assumption))))); rintro e w5 ⟨rfl, hf5⟩))
        go_roundw
        case rel => exact ⟨h + 1, j, by go_num, rfl, Lib.hid ⟨by omega, Hjn.out, HL.out, Hi.out.2.2.2.1, by have := Hi.out.2.2.2.2; (repeat (first | with_reducible exact Fr.refl _ _ | with_reducible refine Fr.setCell ?_ (.inr (by first | (simp; done) | (simp; omega))) _ | with_reducible refine Fr.alloc ?_ _ | with_reducible refine Fr.drew ?_ | with_reducible refine Fr.drewN ?_ _ | with_reducible refine Fr.tr ?_ (by assumption)))⟩⟩
        case measure => simp [intOf]; omega
      · have HH := Lib.hid (Hhigh.out hc)
        clear Hlow Hhigh
        generalize hrr : rs.getD h rec0 = r at *
        clear hrr
        obtain ⟨ks, s⟩ := r
        simp only at *
        go_wp2_with (go_at_call 50; ((with_reducible refine (find1_any (ks := ks) (k := k) ?_ ?_).mono ?_); (focus ((have hk := Hka.out); (repeat (first | with_reducible assumption | ((with_reducible refine Kv.lit_new _ _ _ _ _ _ ?_ ?_ ?_ ?_) <;> (first | (simp; done) | rfl | decide)) | with_reducible exact Kv.none_ _ | with_reducible refine Kv.alloc ?_ _ | with_reducible refine Kv.drew ?_ | with_reducible refine Kv.drewN ?_ _ | with_reducible refine Kv.no ?_ (by assumption))))); (focus ((have hk := Hkb.out); (repeat (first | with_reducible assumption | ((with_reducible refine Kv.lit_new _ _ _ _ _ _ ?_ ?_ ?_ ?_) <;> (first | (simp; done) | rfl | decide)) | with_reducible exact Kv.none_ _ | with_reducible refine Kv.alloc ?_ _ | with_reducible refine Kv.drew ?_ | with_reducible refine Kv.drewN ?_ _ | with_reducible refine Kv.no ?_ (by assumption))))); rintro e w5 ⟨rfl, hf5⟩))
        go_roundw
        case rel => exact ⟨i, h, rfl, rfl, Lib.hid ⟨hhi, by omega, Hi.out.2.2.1, HH.out, by have := Hi.out.2.2.2.2; (repeat (first | with_reducible exact Fr.refl _ _ | with_reducible refine Fr.setCell ?_ (.inr (by first | (simp; done) | (simp; omega))) _ | with_reducible refine Fr.alloc ?_ _ | with_reducible refine Fr.drew ?_ | with_reducible refine Fr.drewN ?_ _ | with_reducible refine Fr.tr ?_ (by assumption)))⟩⟩
        case measure => simp [intOf]; omega
    · obtain rfl : i = j := by have := Hi.out.1; omega
      have Hf := Lib.hid (show fpos rs k = i from fpos_unique rs k i (by rw [← Hr.out.len]; exact Hi.out.2.1) (fun x hx hxi => by rw [← recD x hx]; exact Hi.out.2.2.1 x hxi) (fun hx => by rw [← recD i hx]; exact Int.not_lt.2 (Hi.out.2.2.2.1 i (Nat.le_refl _) (by rw [Hr.out.len]; exact hx))))
      by_cases hlt2 : i < n
      · obtain ⟨b, off, KA, kc, rfl, a0, a1, hka, hza⟩ := (Hr.out.no Hi.out.2.2.2.2).get i (by rw [← Hr.out.len]; exact hlt2)
        have Hka := Lib.hid hka
        have Hkb := Lib.hid (Hk.out.no Hi.out.2.2.2.2)
        have Hfi := Lib.hid (show fis rs k = (cmp (rs.getD i rec0).1 k == 0) by rw [fis_at (by rw [Hf.out, ← Hr.out.len]; exact hlt2), Hf.out])
        clear hka
        generalize hrr : rs.getD i rec0 = r at *
        clear hrr
        obtain ⟨ks, s⟩ := r
        simp only at *
        go_wp2_with (go_at_call 50; ((with_reducible refine (find1_any (ks := ks) (k := k) ?_ ?_).mono ?_); (focus ((have hk := Hka.out); (repeat (first | with_reducible assumption | ((with_reducible refine Kv.lit_new _ _ _ _ _ _ ?_ ?_ ?_ ?_) <;> (first | (simp; done) | rfl | decide)) | with_reducible exact Kv.none_ _ | with_reducible refine Kv.alloc ?_ _ | with_reducible refine Kv.drew ?_ | with_reducible refine Kv.drewN ?_ _ | with_reducible refine Kv.no ?_ (by assumption))))); (focus ((have hk := Hkb.out); (repeat (first | with_reducible assumption | ((with_reducible refine Kv.lit_new _ _ _ _ _ _ ?_ ?_ ?_ ?_) <;> (first | (simp; done) | rfl | decide)) | with_reducible exact Kv.none_ _ | with_reducible refine Kv.alloc ?_ _ | with_reducible refine Kv.drew ?_ | with_reducible refine Kv.drewN ?_ _ | with_reducible refine Kv.no ?_ (by assumption))))); rintro e w5 ⟨rfl, hf5⟩))
        go_ret2
        exact ⟨by rw [Hf.out, Hfi.out]; rfl, by have := Hi.out.2.2.2.2; (repeat (first | with_reducible exact Fr.refl _ _ | with_reducible refine Fr.setCell ?_ (.inr (by first | (simp; done) | (simp; omega))) _ | with_reducible refine Fr.alloc ?_ _ | with_reducible refine Fr.drew ?_ | with_reducible refine Fr.drewN ?_ _ | with_reducible refine Fr.tr ?_ (by assumption)))⟩
      · have Hfi := Lib.hid (show fis rs k = false from fis_out (by rw [Hf.out, ← Hr.out.len]; exact hlt2))
        go_wp2
        go_ret2
        exact ⟨by rw [Hf.out, Hfi.out]; rfl, Hi.out.2.2.2.2⟩
set_option maxHeartbeats 1600000 in
theorem copied_fresh (hr : Rv w A n c rs) (hs : Short rs) : Calls Try.prog 40 #[.slice A n c] w fun e w' => ∃ A1 n1 c1, e = .returned (.slice A1 n1 c1) ∧ Ow w' w.heap.size 33 (fun b => w.heap.size ≤ b) A1 n1 c1 rs ∧ Fr No w w' := by
  have hn := hr.len_le
  have hn1 : n ≤ 1000000 := by have := hr.len; have := hs.1; omega
  have Hr := Lib.hid hr
  have Hs := Lib.hid hs
  have Hl := Lib.hid hr.len
  clear hr hs
  go_enter Try.func40, Try.ntmps40
  go_wp2_with (go_at_call 54; ((with_reducible refine (cloner_any (rs := rs) ?_ hn1).mono ?_); (focus ((have hr := Hr.out); (repeat (first | with_reducible assumption | with_reducible exact Rv.none_ _ | with_reducible refine Rv.alloc ?_ _ | with_reducible refine Rv.drew ?_ | with_reducible refine Rv.drewN ?_ _ | with_reducible refine Rv.no ?_ (by assumption))))); rintro e w2 ⟨A1, c1, rfl, ho2, hf2⟩))
  have Ho := Lib.hid (Owj.start (Q := fun b => w.heap.size ≤ b) (ho2.mono (P' := fun _ => True) (fun _ _ => trivial)))
  have HF := Lib.hid hf2
  clear ho2 hf2
  go_loopw [9] (fun x wr => ∃ j : Nat, x = .int .i64 j ∧ Hid (j ≤ n ∧ Owj wr w.heap.size 33 (fun _ => True) (fun b => w.heap.size ≤ b) j A1 n c1 rs ∧ Fr No w wr)) (fun x _ => n - (intOf x).toNat)
  case atStart => exact ⟨0, rfl, Lib.hid ⟨Nat.zero_le _, Ho.out, HF.out⟩⟩
  case round =>
    obtain ⟨j, rfl, Hj⟩ := hrel
    by_cases hlt : j < n
    · obtain ⟨g, KA, kc, rfl, hg, a0, a1, f0, f1, hka, hza⟩ := Hj.out.2.1.ow.cells j hlt
      have hkn := Hs.out.get j (by rw [← Hl.out]; exact hlt)
      have Hst := Lib.hid (fun (W : World) (K : Option Addr) (kd : Nat) (hW : Fr No wr W) (hk : Kv W K (rs.getD j rec0).1.length kd (rs.getD j rec0).1) (hK : ∀ b off, K = some ⟨b, off, none⟩ → wr.heap.size ≤ b) => (Hj.out.2.1.no hW).store hlt hk (fun b off e => ⟨by have := hK b off e; have := Hj.out.2.2.size; omega, by have := hK b off e; have := (Hj.out.2.1.ow.blk g rfl).2; omega⟩))
      have hgl : g < wr.heap.size := (Hj.out.2.1.ow.blk g rfl).2
      have Hg := Lib.hid hg
      have Hlt := Lib.hid hlt
      generalize hrr : rs.getD j rec0 = r at *
      clear hrr
      obtain ⟨ks, s⟩ := r
      simp only at *
      have Hka := Lib.hid hka
      clear hka
      go_wp2_with (go_at_call 55; ((with_reducible refine (clone_any (ks := ks) ?_ hkn).mono ?_); (focus ((have hk := Hka.out); (repeat (first | with_reducible assumption | ((with_reducible refine Kv.lit_new _ _ _ _ _ _ ?_ ?_ ?_ ?_) <;> (first | (simp; done) | rfl | decide)) | with_reducible exact Kv.none_ _ | with_reducible refine Kv.alloc ?_ _ | with_reducible refine Kv.drew ?_ | with_reducible refine Kv.drewN ?_ _ | with_reducible refine Kv.no ?_ (by assumption))))); rintro e w5 ⟨K1, kc1, rfl, hown5, hf5⟩; (have hf0 := ((Fr.refl No wr).alloc (.cells #[.slice KA ks.length kc, .string s] 33)).tr hf5); (have a05 := cel_no a0 hf0); (have b05 := hf0.bcell.2 g (j * 2) hgl); (rw [f0] at b05); (have HO5 := Lib.hid (Hst.out w5 K1 kc1 hf0 (Kv.of_own hown5 Hka.out.lt) (fun b off e => by subst e; have := (hown5.lt b rfl).1; simp at this; omega))); (have HF5 := Lib.hid hf0); (clear hown5 hf5 hf0)))
      go_roundw
      case rel => exact ⟨j + 1, by go_num, Lib.hid ⟨Hlt.out, HO5.out, (Hj.out.2.2.tr HF5.out).setCell (.inr Hg.out) _⟩⟩
      case measure => have := Hlt.out; simp [intOf]; omega
    · obtain rfl : j = n := by have := Hj.out.1; omega
      go_wp2
      go_ret
      exact ⟨A1, j, c1, rfl, Hj.out.2.1.fin, Hj.out.2.2⟩
theorem copied_any (hr : Rv w A n c rs) (hs : Short rs) : Calls Try.prog 40 #[.slice A n c] w (RecsRet w rs) :=
  (copied_fresh hr hs).mono (fun e w' ⟨A1, n1, c1, h1, h2, h3⟩ => ⟨A1, n1, c1, h1, h2.mono (fun _ _ => trivial), h3⟩)
end
end Go.Proofs.Yteckbcfigklkpaa.Aa09
