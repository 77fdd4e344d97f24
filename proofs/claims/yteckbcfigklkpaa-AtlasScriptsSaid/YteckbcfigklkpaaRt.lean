/- Records, rising: the document's Sorted. -/
import Derived.Test.YteckbcfigklkpaaGe
import Derived.Test.YteckbcfigklkpaaGb
import Derived.StillTailTactics
namespace Go.Proofs.Yteckbcfigklkpaa.Rt
open Go.RowKit Go.Proofs.Yteckbcfigklkpaa.Pk08 Go.Proofs.Yteckbcfigklkpaa.Base Go.Proofs.Yteckbcfigklkpaa.App Go.Proofs.Yteckbcfigklkpaa.Str Go.Proofs.Yteckbcfigklkpaa.Ky Go.Proofs.Yteckbcfigklkpaa.Bx Go.Proofs.Yteckbcfigklkpaa.Bo Go.Proofs.Yteckbcfigklkpaa.As Go.Proofs.Yteckbcfigklkpaa.Pl08 Go.Proofs.Yteckbcfigklkpaa.Kc08 Go.Proofs.Yteckbcfigklkpaa.Kd08 Go.Proofs.Yteckbcfigklkpaa.Rv Go.Proofs.Yteckbcfigklkpaa.Rp Go.Proofs.Yteckbcfigklkpaa.Ro Go.Proofs.Yteckbcfigklkpaa.Rk
set_option linter.unusedVariables false
set_option linter.unusedSimpArgs false
attribute [local go_sem ↓ high] builtin_app
/-- Rises, or stands. -/
def Weak (l : List Rv.Rec) : Prop := l.Pairwise (fun x y => cmp x.1 y.1 ≤ 0)
theorem weak_ins {r : Rv.Rec} {l : List Rv.Rec} (h : Weak l) : Weak (ins r l) := by
  induction l with
  | nil => exact List.pairwise_singleton _ _
  | cons y ys ih =>
    obtain ⟨h1, h2⟩ := List.pairwise_cons.1 h
    simp only [ins]
    split
    · next hc =>
      have hry : cmp r.1 y.1 ≤ 0 := by have := cmp_swap y.1 r.1; omega
      exact List.pairwise_cons.2 ⟨fun z hz => by
        rcases List.mem_cons.1 hz with rfl | hz
        · exact hry
        · exact cmp_le_trans _ _ _ hry (h1 z hz), h⟩
    · next hc =>
      refine List.pairwise_cons.2 ⟨fun z hz => ?_, ih h2⟩
      rcases (mem_ins r z ys).1 hz with rfl | hz
      · omega
      · exact h1 z hz
theorem weak_sorted (l : List Rv.Rec) : Weak (sorted l) := by
  suffices h : ∀ (l acc : List Rv.Rec), Weak acc → Weak (l.foldl (fun out r => ins r out) acc) from h l [] List.Pairwise.nil
  intro l
  induction l with
  | nil => intro acc h; exact h
  | cons y ys ih => intro acc h; exact ih _ (weak_ins h)
theorem ins_len (r : Rv.Rec) (l : List Rv.Rec) : (ins r l).length = l.length + 1 := by
  induction l with
  | nil => rfl
  | cons y ys ih => simp only [ins]; split <;> simp [ih]
theorem sorted_len (l : List Rv.Rec) : (sorted l).length = l.length := by
  suffices h : ∀ (l acc : List Rv.Rec), (l.foldl (fun out r => ins r out) acc).length = acc.length + l.length by simpa [sorted] using h l []
  intro l
  induction l with
  | nil => intro acc; rfl
  | cons y ys ih => intro acc; rw [List.foldl_cons, ih, ins_len, List.length_cons]; omega
theorem ins_at (r : Rv.Rec) : ∀ (l : List Rv.Rec) (p : Nat), p ≤ l.length → (∀ j, j < p → cmp (l.getD j rec0).1 r.1 ≤ 0) → (p < l.length → 0 < cmp (l.getD p rec0).1 r.1) → ins r l = l.take p ++ r :: l.drop p
  | [], p, hp, h1, h2 => by
    have : p = 0 := by simpa using hp
    subst this
    rfl
  | y :: ys, 0, hp, h1, h2 => by
    have := h2 (by simp)
    simp only [List.getD_cons_zero] at this
    simp only [ins]
    rw [if_pos this]
    rfl
  | y :: ys, p + 1, hp, h1, h2 => by
    have h3 := h1 0 (by omega)
    simp only [List.getD_cons_zero] at h3
    have ih := ins_at r ys p (by simpa using hp) (fun j hj => by have := h1 (j + 1) (by omega); simpa using this) (fun hl => by have := h2 (by simpa using hl); simpa using this)
    simp only [ins]
    rw [if_neg (by omega), ih]
    rfl
theorem recD {rs : List Rv.Rec} (i : Nat) (h : i < rs.length) : rs.getD i rec0 = rs[i] := by simp [List.getD_eq_getElem?_getD, h]
theorem ins_weak {r : Rv.Rec} {l : List Rv.Rec} (hw : Weak l) {p : Nat} (hp : p ≤ l.length) (h1 : ∀ x, p = x + 1 → cmp (l.getD x rec0).1 r.1 ≤ 0) (h2 : p < l.length → 0 < cmp (l.getD p rec0).1 r.1) : ins r l = l.take p ++ r :: l.drop p := by
  refine ins_at r l p hp (fun j hj => ?_) h2
  obtain ⟨x, rfl⟩ : ∃ x, p = x + 1 := ⟨p - 1, by omega⟩
  have h3 := h1 x rfl
  by_cases e : j = x
  · subst e; exact h3
  · have h4 := List.pairwise_iff_getElem.1 hw j x (by omega) (by omega) (by omega)
    rw [recD x (by omega)] at h3
    rw [recD j (by omega)]
    exact cmp_le_trans _ _ _ h4 h3
/-- The three appends of a record laid into its place, first and last. -/
theorem ins_first {wr : World} {A A' : Option Addr} {n c p c2 : Nat} {out : List Rv.Rec} (hv : Rv wr A n c out) (hp : p ≤ n) (hn : n ≤ 1000000) (hA' : 0 < p → ∀ b off, A = some ⟨b, off, none⟩ → A' = some ⟨b, off, none⟩) :
    ∃ A1 c1 w1, (appSem #[40, 40] 40 #[.slice none 0 0, .slice A' p c2]).run Try.prog wr = .ok (.slice A1 p c1) w1 ∧ Ow w1 wr.heap.size 33 (fun _ => True) A1 p c1 (out.take p) ∧ Fr No wr w1 := by
  have hl := hv.len
  obtain ⟨ps, hrs, hcs, hps⟩ := Rv.parts hv
  have hpl : ps.length = n := by rw [hl, ← hrs, recs_len]
  have h0 : Rcs wr A' p (rcells (ps.take p)) := by
    have := hcs.sub hpl 0 p (Nat.zero_le _) hp A' (fun h b off e => by rw [hA' h b off e]; simp)
    simpa using this
  obtain ⟨A1, c1, w1, hrun, hO, hg, _⟩ := app_recs (Pg := Try.prog) 40 _ 40 Try.underlying40 info_rec rfl (by decide) (Ow.nil_ wr wr.heap.size 33 (fun _ => True)) (ps := ps.take p) (fun q hq => (hps q (List.mem_of_mem_take hq)).mono (fun b hb => ⟨trivial, fun g o e => by cases e⟩)) (A := A') (m := p) (c := c2) (by rw [List.length_take]; omega) h0 (by omega) (Nat.le_refl _)
  rw [Nat.zero_add] at hrun hO
  rw [List.nil_append, recs_take, hrs] at hO
  exact ⟨A1, c1, w1, hrun, hO, (Fr.refl No wr).grown hg (fun k hk => by cases hk)⟩
theorem ins_last {wr w2 : World} {A A2 A' : Option Addr} {n c p c2 m c' : Nat} {out more : List Rv.Rec} (hv : Rv wr A n c out) (hp : p ≤ n) (hn : n ≤ 1000000) (hm : m ≤ 1000001) (hO2 : Ow w2 wr.heap.size 33 (fun _ => True) A2 m c2 more) (hf : Fr No wr w2) (hA' : p < n → ∀ b off, A = some ⟨b, off, none⟩ → A' = some ⟨b, off + p * 2, none⟩) :
    ∃ A3 c3 w3, (appSem #[40, 40] 40 #[.slice A2 m c2, .slice A' (n - p) c']).run Try.prog w2 = .ok (.slice A3 (m + (n - p)) c3) w3 ∧ Ow w3 wr.heap.size 33 (fun _ => True) A3 (m + (n - p)) c3 (more ++ out.drop p) ∧ Fr No wr w3 := by
  have hl := hv.len
  obtain ⟨ps, hrs, hcs, hps⟩ := Rv.parts hv
  have hpl : ps.length = n := by rw [hl, ← hrs, recs_len]
  have h2 : Rcs wr A' (n - p) (rcells (ps.drop p)) := by
    have := hcs.sub hpl p n hp (Nat.le_refl _) A' hA'
    rwa [List.take_of_length_le (by omega)] at this
  obtain ⟨A3, c3, w3, hrun, hO, hg, _⟩ := app_recs (Pg := Try.prog) 40 _ 40 Try.underlying40 info_rec rfl (by decide) hO2 (ps := ps.drop p) (fun q hq => ((hps q (List.mem_of_mem_drop hq)).no hf).mono (fun b hb => ⟨trivial, fun g o e => by
    subst e
    have := (hO2.blk g rfl).1
    omega⟩)) (A := A') (m := n - p) (c := c') (by rw [List.length_drop]; omega) (h2.no hf) (by omega) hf.size
  rw [recs_drop, hrs] at hO
  exact ⟨A3, c3, w3, hrun, hO, hf.grown hg (fun k hk => .inr (hO2.blk k hk).1)⟩
section
variable {w : World} {A : Option Addr} {n c : Nat} {rs : List Rv.Rec}
set_option maxRecDepth 8000 in
set_option maxHeartbeats 3200000 in
theorem sorted_any (hr : Rv w A n c rs) (hs : Short rs) : Calls Try.prog 35 #[.slice A n c] w (RecsRet w (sorted rs)) := by
  have hn := hr.len_le
  have hn1 : n ≤ 1000000 := by have := hr.len; have := hs.1; omega
  have Hr := Lib.hid hr
  have Hs := Lib.hid hs
  have Hl := Lib.hid hr.len
  clear hr hs
  go_enter Try.func35, Try.ntmps35
  go_wp2
  go_loopw [3, 4] (fun v x wr => ∃ (j : Nat) (P : Option Addr) (cP : Nat), x = .int .i64 j ∧ v = .slice P j cP ∧ Hid (j ≤ n ∧ Ow wr w.heap.size 33 (fun _ => True) P j cP (sorted (rs.take j)) ∧ Fr No w wr)) (fun _ x _ => n - (intOf x).toNat)
  case atStart => exact ⟨0, none, 0, rfl, rfl, Lib.hid ⟨Nat.zero_le _, by simpa [sorted] using Ow.nil_ _ _ _ _, Fr.refl _ _⟩⟩
  case round =>
    obtain ⟨j, P, cP, rfl, rfl, Hj⟩ := hrel
    obtain ⟨wo, rfl⟩ : ∃ wo : World, wo = wr := ⟨_, rfl⟩
    by_cases hlt : j < n
    · obtain ⟨b, off, KA, kc, rfl, c0w, c1w, hkw, hz⟩ := Hr.out.get j (by rw [← Hl.out]; exact hlt)
      have hkn := Hs.out.get j (by rw [← Hl.out]; exact hlt)
      have Htk := Lib.hid (take_succ rs j (by rw [← Hl.out]; exact hlt))
      have Hwk := Lib.hid (weak_sorted (rs.take j))
      have Hso := Lib.hid (show sorted (rs.take (j + 1)) = ins (rs.getD j rec0) (sorted (rs.take j)) by rw [Htk.out, sorted_snoc])
      have Hln := Lib.hid (show (sorted (rs.take j)).length = j by rw [sorted_len, List.length_take]; have := Hl.out; omega)
      have Hlt := Lib.hid hlt
      have hj1 : j ≤ 1000000 := by omega
      generalize sorted (rs.take j) = out at *
      generalize hrr : rs.getD j rec0 = r at *
      clear hrr Htk
      obtain ⟨ks, s⟩ := r
      simp only at *
      have Hk := Lib.hid hkw
      clear hkw
      go_wp2
      go_loopw [5] (fun v wr => ∃ p : Nat, v = .int .i64 p ∧ Hid (p ≤ j ∧ (p < j → 0 < cmp (out.getD p rec0).1 ks) ∧ Fr No wo wr)) (fun v _ => (intOf v).toNat)
      case atStart => exact ⟨j, rfl, Lib.hid ⟨Nat.le_refl _, fun h => by omega, Fr.refl _ _⟩⟩
      case round =>
        obtain ⟨p, rfl, Hp⟩ := hrel
        have HOp := Lib.hid (Hj.out.2.1.no Hp.out.2.2)
        have HFp := Lib.hid (Hj.out.2.2.tr Hp.out.2.2)
        have c0 := cel_no c0w HFp.out
        have c1 := cel_no c1w HFp.out
        have Hkp := Lib.hid (Hk.out.no HFp.out)
        rcases Nat.eq_zero_or_pos p with h0 | h0
        · subst h0
          have HX := Lib.hid (ins_weak (r := (ks, s)) Hwk.out (p := 0) (Nat.zero_le _) (fun x e => by omega) (fun h => Hp.out.2.1 (by rw [← Hln.out]; exact h)))
          go_wp2
          (refine wp_region_held_drew (S := fun w' => w'.cell? ⟨b, off + j * 2, none⟩ = some (.slice KA ks.length kc)) (by kernel_rfl) ?_ (fun hHeld => ?_); focus ((try dsimp only); (repeat (first | with_reducible assumption | with_reducible refine cel_alloc ?_ _ | with_reducible refine cel_drew ?_ | with_reducible refine cel_drewN ?_ _ | with_reducible refine cel_set ?_ (by first | (simp; done) | (simp; omega)) _ | with_reducible refine cel_no ?_ (by assumption))); done))
          ((refine wpAnyH_take (i := 0) (v := ?_) rfl (by kernel_rfl) (by kernel_rfl) (by kernel_rfl) (fun _ _ _ h => h) (Or.inl ⟨by rfl, ?_⟩) (by assumption) ?_; rotate_left; focus (intro w hSw; (try dsimp only at hSw); go_simp; (try with_reducible rfl); done)); (try simp only [Act.put, List.setIfInBounds_toArray, List.set_cons_zero, List.set_cons_succ, List.getElem_toArray, List.getElem_cons_zero, List.getElem_cons_succ]); (refine wpAnyH_take (i := 1) (v := ?_) rfl (by kernel_rfl) (by kernel_rfl) (by kernel_rfl) (fun _ _ _ h => h) (Or.inl ⟨by rfl, ?_⟩) (by assumption) ?_; rotate_left; focus (intro w hSw; (try dsimp only at hSw); go_simp; (try with_reducible rfl); done)); (try simp only [Act.put, List.setIfInBounds_toArray, List.set_cons_zero, List.set_cons_succ, List.getElem_toArray, List.getElem_cons_zero, List.getElem_cons_succ]); (refine wpAnyH_take (i := 2) (v := ?_) rfl (by kernel_rfl) (by kernel_rfl) (by kernel_rfl) (fun _ _ _ h => h) (Or.inl ⟨by rfl, ?_⟩) (by assumption) ?_; rotate_left; focus (intro w hSw; (try dsimp only at hSw); go_simp; (try with_reducible rfl); done)); (try simp only [Act.put, List.setIfInBounds_toArray, List.set_cons_zero, List.set_cons_succ, List.getElem_toArray, List.getElem_cons_zero, List.getElem_cons_succ]))
          ((refine wpAnyH_take (i := 3) (v := undef) rfl (by kernel_rfl) (by kernel_rfl) (by kernel_rfl) (fun _ _ _ h => h) (Or.inr ⟨by rfl, rfl⟩) (by assumption) ?_); (try simp only [Act.put, List.setIfInBounds_toArray, List.set_cons_zero, List.set_cons_succ, List.getElem_toArray, List.getElem_cons_zero, List.getElem_cons_succ]); (refine wpAnyH_take (i := 4) (v := undef) rfl (by kernel_rfl) (by kernel_rfl) (by kernel_rfl) (fun _ _ _ h => h) (Or.inr ⟨by rfl, rfl⟩) (by assumption) ?_); (try simp only [Act.put, List.setIfInBounds_toArray, List.set_cons_zero, List.set_cons_succ, List.getElem_toArray, List.getElem_cons_zero, List.getElem_cons_succ]); (refine wpAnyH_take (i := 5) (v := undef) rfl (by kernel_rfl) (by kernel_rfl) (by kernel_rfl) (fun _ _ _ h => h) (Or.inr ⟨by rfl, rfl⟩) (by assumption) ?_); (try simp only [Act.put, List.setIfInBounds_toArray, List.set_cons_zero, List.set_cons_succ, List.getElem_toArray, List.getElem_cons_zero, List.getElem_cons_succ]); (refine wpAnyH_take (i := 6) (v := undef) rfl (by kernel_rfl) (by kernel_rfl) (by kernel_rfl) (fun _ _ _ h => h) (Or.inr ⟨by rfl, rfl⟩) (by assumption) ?_); (try simp only [Act.put, List.setIfInBounds_toArray, List.set_cons_zero, List.set_cons_succ, List.getElem_toArray, List.getElem_cons_zero, List.getElem_cons_succ]); (refine wpAnyH_take (i := 7) (v := undef) rfl (by kernel_rfl) (by kernel_rfl) (by kernel_rfl) (fun _ _ _ h => h) (Or.inr ⟨by rfl, rfl⟩) (by assumption) ?_); (try simp only [Act.put, List.setIfInBounds_toArray, List.set_cons_zero, List.set_cons_succ, List.getElem_toArray, List.getElem_cons_zero, List.getElem_cons_succ]); (refine wpAnyH_take (i := 8) (v := undef) rfl (by kernel_rfl) (by kernel_rfl) (by kernel_rfl) (fun _ _ _ h => h) (Or.inr ⟨by rfl, rfl⟩) (by assumption) ?_); (try simp only [Act.put, List.setIfInBounds_toArray, List.set_cons_zero, List.set_cons_succ, List.getElem_toArray, List.getElem_cons_zero, List.getElem_cons_succ]); (refine wpAnyH_take (i := 9) (v := undef) rfl (by kernel_rfl) (by kernel_rfl) (by kernel_rfl) (fun _ _ _ h => h) (Or.inr ⟨by rfl, rfl⟩) (by assumption) ?_); (try simp only [Act.put, List.setIfInBounds_toArray, List.set_cons_zero, List.set_cons_succ, List.getElem_toArray, List.getElem_cons_zero, List.getElem_cons_succ]); (refine wpAnyH_take (i := 10) (v := undef) rfl (by kernel_rfl) (by kernel_rfl) (by kernel_rfl) (fun _ _ _ h => h) (Or.inr ⟨by rfl, rfl⟩) (by assumption) ?_); (try simp only [Act.put, List.setIfInBounds_toArray, List.set_cons_zero, List.set_cons_succ, List.getElem_toArray, List.getElem_cons_zero, List.getElem_cons_succ]); (refine wpAnyH_take (i := 11) (v := undef) rfl (by kernel_rfl) (by kernel_rfl) (by kernel_rfl) (fun _ _ _ h => h) (Or.inr ⟨by rfl, rfl⟩) (by assumption) ?_); (try simp only [Act.put, List.setIfInBounds_toArray, List.set_cons_zero, List.set_cons_succ, List.getElem_toArray, List.getElem_cons_zero, List.getElem_cons_succ]); (refine wpAnyH_take (i := 12) (v := undef) rfl (by kernel_rfl) (by kernel_rfl) (by kernel_rfl) (fun _ _ _ h => h) (Or.inr ⟨by rfl, rfl⟩) (by assumption) ?_); (try simp only [Act.put, List.setIfInBounds_toArray, List.set_cons_zero, List.set_cons_succ, List.getElem_toArray, List.getElem_cons_zero, List.getElem_cons_succ]); (refine wpAnyH_take (i := 13) (v := undef) rfl (by kernel_rfl) (by kernel_rfl) (by kernel_rfl) (fun _ _ _ h => h) (Or.inr ⟨by rfl, rfl⟩) (by assumption) ?_); (try simp only [Act.put, List.setIfInBounds_toArray, List.set_cons_zero, List.set_cons_succ, List.getElem_toArray, List.getElem_cons_zero, List.getElem_cons_succ]); (refine wpAnyH_take (i := 14) (v := undef) rfl (by kernel_rfl) (by kernel_rfl) (by kernel_rfl) (fun _ _ _ h => h) (Or.inr ⟨by rfl, rfl⟩) (by assumption) ?_); (try simp only [Act.put, List.setIfInBounds_toArray, List.set_cons_zero, List.set_cons_succ, List.getElem_toArray, List.getElem_cons_zero, List.getElem_cons_succ]); (refine wpAnyH_take (i := 15) (v := undef) rfl (by kernel_rfl) (by kernel_rfl) (by kernel_rfl) (fun _ _ _ h => h) (Or.inr ⟨by rfl, rfl⟩) (by assumption) ?_); (try simp only [Act.put, List.setIfInBounds_toArray, List.set_cons_zero, List.set_cons_succ, List.getElem_toArray, List.getElem_cons_zero, List.getElem_cons_succ]))
          ((refine wpAnyH_take (i := 16) (v := ?_) rfl (by kernel_rfl) (by kernel_rfl) (by kernel_rfl) (fun _ _ _ h => h) (Or.inl ⟨by rfl, ?_⟩) (by assumption) ?_; rotate_left; focus (intro w hSw; (try dsimp only at hSw); go_simp; (try with_reducible rfl); done)); (try simp only [Act.put, List.setIfInBounds_toArray, List.set_cons_zero, List.set_cons_succ, List.getElem_toArray, List.getElem_cons_zero, List.getElem_cons_succ]))
          (refine wpAnyH_done (by kernel_rfl) ?_ _)
          have HvW := Lib.hid (show Rv wr.drew P j cP out from HOp.out.rv.drew)
          have HFW := Lib.hid (show Fr No w wr.drew by exact HFp.out.drew)
          have HOo := Lib.hid (show w.heap.size ≤ wr.drew.heap.size from HFW.out.size)
          have hcP : j ≤ cP := HvW.out.cap
          have e0 := cel_no c0w HFW.out
          have e1 := cel_no c1w HFW.out
          obtain ⟨A1, cA1, wa, hruna, hOa, hfa⟩ := ins_first (A' := P) (c2 := cP) (p := 0) HvW.out (by omega) (by omega) (fun _ b off e => e)
          have g0 := cel_no e0 hfa
          have g1 := cel_no e1 hfa
          have HOa := Lib.hid hOa
          have Hfa := Lib.hid hfa
          clear hOa hfa
          go_wp2
          go_region_held3 (fun w' => w'.cell? ⟨b, off + j * 2, none⟩ = some (.slice KA ks.length kc) ∧ w'.cell? ⟨b, off + j * 2 + 1, none⟩ = some (.string s)) ((refine ⟨?_, ?_⟩; (repeat (first | with_reducible assumption | with_reducible refine cel_alloc ?_ _ | with_reducible refine cel_drew ?_ | with_reducible refine cel_drewN ?_ _ | with_reducible refine cel_set ?_ (by first | (simp; done) | (simp; omega)) _ | with_reducible refine cel_no ?_ (by assumption))); (repeat (first | with_reducible assumption | with_reducible refine cel_alloc ?_ _ | with_reducible refine cel_drew ?_ | with_reducible refine cel_drewN ?_ _ | with_reducible refine cel_set ?_ (by first | (simp; done) | (simp; omega)) _ | with_reducible refine cel_no ?_ (by assumption)))))
            ((go_at_call 32; ((with_reducible refine (rcopy_any (ks := ks) ?_ hkn).mono ?_); (focus (exact (Hk.out.no (HFW.out.tr Hfa.out)).drew)); rintro e w7 ⟨K1, kc1, rfl, hown7, hf7⟩; (obtain ⟨A2, cA2, wb, hrunb, hOb, hgb, hfb⟩ := push_rec (wr := wa.drew) (B0 := wr.drew.heap.size) HOa.out.drew Hfa.out.size hf7 hown7 rfl Hk.out.lt hz (by omega) (fun _ _ => trivial)); (have hfb2 := hfb wr.drew (Nat.le_refl _) Hfa.out.drew); (obtain ⟨A3, c3, wc, hrunc, hOc, hfc⟩ := ins_last (A' := P) (c' := cP) (p := 0) HvW.out (by omega) (by omega) (by omega) hOb hfb2 (fun _ b off e => by rw [e]; simp)); (simp only [Nat.zero_add] at hrunb); (simp only [Nat.sub_zero, Nat.zero_add] at hrunc hOc); (rw [show 1 + j = j + 1 from Nat.add_comm _ _] at hrunc hOc); (have HOc := Lib.hid hOc); (have HFc := Lib.hid hfc); (have d0 := cel_no e0 hfb2); (have d1 := cel_no e1 hfb2); (clear hOc hfc hgb hfb hOb hfb2 hown7))))
          go_wp2
          go_roundw
          case rel => exact ⟨j + 1, A3, c3, by go_num, rfl, Lib.hid ⟨Hlt.out, by rw [Hso.out, HX.out]; exact (by have h := HOc.out.base_ HOo.out; simpa using h), HFW.out.tr HFc.out⟩⟩
          case measure => have := Hlt.out; simp [intOf]; omega
        · obtain ⟨x, rfl⟩ : ∃ x, p = x + 1 := ⟨p - 1, by omega⟩
          have hxj : x < j := by have := Hp.out.1; omega
          have hx1 : (0 : Int) < (x : Int) + 1 := by omega
          have hwx : IntKind.i64.wrap (x : Int) = (x : Int) := IntWalk.i64_in _ (by omega)
          obtain ⟨g, KB, kd, rfl, hg, p0, p1, f0, f1, hkb, hzb⟩ := HOp.out.cells x hxj
          have HXs := Lib.hid (show cmp (out.getD x rec0).1 ks ≤ 0 → ins (ks, s) out = out.take (x + 1) ++ (ks, s) :: out.drop (x + 1) from fun hc => ins_weak (r := (ks, s)) Hwk.out (p := x + 1) (by rw [Hln.out]; exact Hp.out.1) (fun y e => (show y = x by omega) ▸ hc) (fun h => Hp.out.2.1 (by rw [← Hln.out]; exact h)))
          by_cases hc : 0 < cmp (out.getD x rec0).1 ks
          · have Hc := Lib.hid hc
            clear HXs
            generalize hqq : out.getD x rec0 = q at *
            obtain ⟨ls, t⟩ := q
            simp only at *
            have Hqq := Lib.hid hqq
            have Hkb := Lib.hid hkb
            clear hkb hqq
            go_wp2
            (refine wp_region_held_drew (S := fun w' => w'.cell? ⟨b, off + j * 2, none⟩ = some (.slice KA ks.length kc) ∧ w'.cell? ⟨g, x * 2, none⟩ = some (.slice KB ls.length kd)) (by kernel_rfl) ?_ (fun hHeld => ?_); focus ((try dsimp only); (refine ⟨?_, ?_⟩; (repeat (first | with_reducible assumption | with_reducible refine cel_alloc ?_ _ | with_reducible refine cel_drew ?_ | with_reducible refine cel_drewN ?_ _ | with_reducible refine cel_set ?_ (by first | (simp; done) | (simp; omega)) _ | with_reducible refine cel_no ?_ (by assumption))); (repeat (first | with_reducible assumption | with_reducible refine cel_alloc ?_ _ | with_reducible refine cel_drew ?_ | with_reducible refine cel_drewN ?_ _ | with_reducible refine cel_set ?_ (by first | (simp; done) | (simp; omega)) _ | with_reducible refine cel_no ?_ (by assumption)))); done))
            ((refine wpAnyH_take (i := 0) (v := ?_) rfl (by kernel_rfl) (by kernel_rfl) (by kernel_rfl) (fun _ _ _ h => h) (Or.inl ⟨by rfl, ?_⟩) (by assumption) ?_; rotate_left; focus (intro w hSw; (try dsimp only at hSw); go_simp; (try with_reducible rfl); done)); (try simp only [Act.put, List.setIfInBounds_toArray, List.set_cons_zero, List.set_cons_succ, List.getElem_toArray, List.getElem_cons_zero, List.getElem_cons_succ]); (refine wpAnyH_take (i := 1) (v := ?_) rfl (by kernel_rfl) (by kernel_rfl) (by kernel_rfl) (fun _ _ _ h => h) (Or.inl ⟨by rfl, ?_⟩) (by assumption) ?_; rotate_left; focus (intro w hSw; (try dsimp only at hSw); go_simp; (try with_reducible rfl); done)); (try simp only [Act.put, List.setIfInBounds_toArray, List.set_cons_zero, List.set_cons_succ, List.getElem_toArray, List.getElem_cons_zero, List.getElem_cons_succ]); (refine wpAnyH_take (i := 2) (v := ?_) rfl (by kernel_rfl) (by kernel_rfl) (by kernel_rfl) (fun _ _ _ h => h) (Or.inl ⟨by rfl, ?_⟩) (by assumption) ?_; rotate_left; focus (intro w hSw; (try dsimp only at hSw); go_simp; (try with_reducible rfl); done)); (try simp only [Act.put, List.setIfInBounds_toArray, List.set_cons_zero, List.set_cons_succ, List.getElem_toArray, List.getElem_cons_zero, List.getElem_cons_succ]))
            ((refine wpAnyH_take (i := 3) (v := ?_) rfl (by kernel_rfl) (by kernel_rfl) (by kernel_rfl) (fun _ _ _ h => h) (Or.inl ⟨by rfl, ?_⟩) (by assumption) ?_; rotate_left; focus (intro w hSw; (try dsimp only at hSw); go_simp; (try with_reducible rfl); done)); (try simp only [Act.put, List.setIfInBounds_toArray, List.set_cons_zero, List.set_cons_succ, List.getElem_toArray, List.getElem_cons_zero, List.getElem_cons_succ]); (refine wpAnyH_take (i := 4) (v := ?_) rfl (by kernel_rfl) (by kernel_rfl) (by kernel_rfl) (fun _ _ _ h => h) (Or.inl ⟨by rfl, ?_⟩) (by assumption) ?_; rotate_left; focus (intro w hSw; (try dsimp only at hSw); go_simp; (try with_reducible rfl); done)); (try simp only [Act.put, List.setIfInBounds_toArray, List.set_cons_zero, List.set_cons_succ, List.getElem_toArray, List.getElem_cons_zero, List.getElem_cons_succ]); (refine wpAnyH_take (i := 5) (v := ?_) rfl (by kernel_rfl) (by kernel_rfl) (by kernel_rfl) (fun _ _ _ h => h) (Or.inl ⟨by rfl, ?_⟩) (by assumption) ?_; rotate_left; focus (intro w hSw; (try dsimp only at hSw); go_simp; (try with_reducible rfl); done)); (try simp only [Act.put, List.setIfInBounds_toArray, List.set_cons_zero, List.set_cons_succ, List.getElem_toArray, List.getElem_cons_zero, List.getElem_cons_succ]); (refine wpAnyH_take (i := 6) (v := ?_) rfl (by kernel_rfl) (by kernel_rfl) (by kernel_rfl) (fun _ _ _ h => h) (Or.inl ⟨by rfl, ?_⟩) (by assumption) ?_; rotate_left; focus (intro w hSw; (try dsimp only at hSw); go_simp; (try with_reducible rfl); done)); (try simp only [Act.put, List.setIfInBounds_toArray, List.set_cons_zero, List.set_cons_succ, List.getElem_toArray, List.getElem_cons_zero, List.getElem_cons_succ]); (refine wpAnyH_take (i := 7) (v := ?_) rfl (by kernel_rfl) (by kernel_rfl) (by kernel_rfl) (fun _ _ _ h => h) (Or.inl ⟨by rfl, ?_⟩) (by assumption) ?_; rotate_left; focus (intro w hSw; (try dsimp only at hSw); go_simp; (try with_reducible rfl); done)); (try simp only [Act.put, List.setIfInBounds_toArray, List.set_cons_zero, List.set_cons_succ, List.getElem_toArray, List.getElem_cons_zero, List.getElem_cons_succ]); (refine wpAnyH_take (i := 8) (v := ?_) rfl (by kernel_rfl) (by kernel_rfl) (by kernel_rfl) (fun _ _ _ h => h) (Or.inl ⟨by rfl, ?_⟩) (by assumption) ?_; rotate_left; focus (intro w hSw; (try dsimp only at hSw); go_simp; (try with_reducible rfl); done)); (try simp only [Act.put, List.setIfInBounds_toArray, List.set_cons_zero, List.set_cons_succ, List.getElem_toArray, List.getElem_cons_zero, List.getElem_cons_succ]); (refine wpAnyH_take (i := 9) (v := ?_) rfl (by kernel_rfl) (by kernel_rfl) (by kernel_rfl) (fun _ _ _ h => h) (Or.inl ⟨by rfl, ?_⟩) (by assumption) ?_; rotate_left; focus (intro w hSw; (try dsimp only at hSw); go_simp; (try with_reducible rfl); done)); (try simp only [Act.put, List.setIfInBounds_toArray, List.set_cons_zero, List.set_cons_succ, List.getElem_toArray, List.getElem_cons_zero, List.getElem_cons_succ]); (refine wpAnyH_take (i := 10) (v := ?_) rfl (by kernel_rfl) (by kernel_rfl) (by kernel_rfl) (fun _ _ _ h => h) (Or.inl ⟨by rfl, ?_⟩) (by assumption) ?_; rotate_left; focus (intro w hSw; (try dsimp only at hSw); go_simp; (try with_reducible rfl); done)); (try simp only [Act.put, List.setIfInBounds_toArray, List.set_cons_zero, List.set_cons_succ, List.getElem_toArray, List.getElem_cons_zero, List.getElem_cons_succ]); (refine wpAnyH_take (i := 11) (v := ?_) rfl (by kernel_rfl) (by kernel_rfl) (by kernel_rfl) (fun _ _ _ h => h) (Or.inl ⟨by rfl, ?_⟩) (by assumption) ?_; rotate_left; focus (intro w hSw; (try dsimp only at hSw); go_simp; (try with_reducible rfl); done)); (try simp only [Act.put, List.setIfInBounds_toArray, List.set_cons_zero, List.set_cons_succ, List.getElem_toArray, List.getElem_cons_zero, List.getElem_cons_succ]); (refine wpAnyH_take (i := 12) (v := ?_) rfl (by kernel_rfl) (by kernel_rfl) (by kernel_rfl) (fun _ _ _ h => h) (Or.inl ⟨by rfl, ?_⟩) (by assumption) ?_; rotate_left; focus (intro w hSw; (try dsimp only at hSw); go_simp; (try with_reducible rfl); done)); (try simp only [Act.put, List.setIfInBounds_toArray, List.set_cons_zero, List.set_cons_succ, List.getElem_toArray, List.getElem_cons_zero, List.getElem_cons_succ]); (refine wpAnyH_take (i := 13) (v := ?_) rfl (by kernel_rfl) (by kernel_rfl) (by kernel_rfl) (fun _ _ _ h => h) (Or.inl ⟨by rfl, ?_⟩) (by assumption) ?_; rotate_left; focus (intro w hSw; (try dsimp only at hSw); go_simp; (try with_reducible rfl); done)); (try simp only [Act.put, List.setIfInBounds_toArray, List.set_cons_zero, List.set_cons_succ, List.getElem_toArray, List.getElem_cons_zero, List.getElem_cons_succ]))
            (refine wpAnyH_ready (rs := [14]) (by kernel_rfl) (by simp) ?_; refine AllReadyH.cons rfl (fun K hK => ?_) AllReadyH.nil; go_simp; (go_at_call 31; ((with_reducible refine (rcompare (a := ls) (b := ks) ?_ ?_).mono ?_); (focus ((have hk := Hkb.out); (repeat (first | with_reducible assumption | ((with_reducible refine Kv.lit_new _ _ _ _ _ _ ?_ ?_ ?_ ?_) <;> (first | (simp; done) | rfl | decide)) | with_reducible exact Kv.none_ _ | with_reducible refine Kv.alloc ?_ _ | with_reducible refine Kv.drew ?_ | with_reducible refine Kv.drewN ?_ _ | with_reducible refine Kv.no ?_ (by assumption))))); (focus ((have hk := Hkp.out); (repeat (first | with_reducible assumption | ((with_reducible refine Kv.lit_new _ _ _ _ _ _ ?_ ?_ ?_ ?_) <;> (first | (simp; done) | rfl | decide)) | with_reducible exact Kv.none_ _ | with_reducible refine Kv.alloc ?_ _ | with_reducible refine Kv.drew ?_ | with_reducible refine Kv.drewN ?_ _ | with_reducible refine Kv.no ?_ (by assumption))))); rintro e w6 ⟨rfl, hf6⟩)); (try go_wp2_with fail); refine hK.out _ _ ?_ (fun hHeld => ?_); focus ((try dsimp only); (refine ⟨?_, ?_⟩; (repeat (first | with_reducible assumption | with_reducible refine cel_alloc ?_ _ | with_reducible refine cel_drew ?_ | with_reducible refine cel_drewN ?_ _ | with_reducible refine cel_set ?_ (by first | (simp; done) | (simp; omega)) _ | with_reducible refine cel_no ?_ (by assumption))); (repeat (first | with_reducible assumption | with_reducible refine cel_alloc ?_ _ | with_reducible refine cel_drew ?_ | with_reducible refine cel_drewN ?_ _ | with_reducible refine cel_set ?_ (by first | (simp; done) | (simp; omega)) _ | with_reducible refine cel_no ?_ (by assumption)))); done)); (clear hK K); (try simp only [Act.put, List.setIfInBounds_toArray, List.set_cons_zero, List.set_cons_succ, List.getElem_toArray, List.getElem_cons_zero, List.getElem_cons_succ])
            ((refine wpAnyH_take (i := 15) (v := ?_) rfl (by kernel_rfl) (by kernel_rfl) (by kernel_rfl) (fun _ _ _ h => h) (Or.inl ⟨by rfl, ?_⟩) (by assumption) ?_; rotate_left; focus (intro w hSw; (try dsimp only at hSw); go_simp; (try with_reducible rfl); done)); (try simp only [Act.put, List.setIfInBounds_toArray, List.set_cons_zero, List.set_cons_succ, List.getElem_toArray, List.getElem_cons_zero, List.getElem_cons_succ]); (refine wpAnyH_take (i := 16) (v := ?_) rfl (by kernel_rfl) (by kernel_rfl) (by kernel_rfl) (fun _ _ _ h => h) (Or.inl ⟨by rfl, ?_⟩) (by assumption) ?_; rotate_left; focus (intro w hSw; (try dsimp only at hSw); go_simp; (try with_reducible rfl); done)); (try simp only [Act.put, List.setIfInBounds_toArray, List.set_cons_zero, List.set_cons_succ, List.getElem_toArray, List.getElem_cons_zero, List.getElem_cons_succ]))
            (refine wpAnyH_done (by kernel_rfl) ?_ _)
            go_wp2
            go_roundw
            case rel => exact ⟨x, by go_num, Lib.hid ⟨by omega, fun _ => by rw [Hqq.out]; exact Hc.out, by have := Hp.out.2.2; (repeat (first | with_reducible exact Fr.refl _ _ | with_reducible refine Fr.setCell ?_ (.inr (by first | (simp; done) | (simp; omega))) _ | with_reducible refine Fr.alloc ?_ _ | with_reducible refine Fr.drew ?_ | with_reducible refine Fr.drewN ?_ _ | with_reducible refine Fr.tr ?_ (by assumption)))⟩⟩
            case measure => simp [intOf]
          · have HX := Lib.hid (HXs.out (by omega))
            clear HXs
            generalize hqq : out.getD x rec0 = q at *
            obtain ⟨ls, t⟩ := q
            simp only at *
            have Hkb := Lib.hid hkb
            clear hkb hqq
            go_wp2
            (refine wp_region_held_drew (S := fun w' => w'.cell? ⟨b, off + j * 2, none⟩ = some (.slice KA ks.length kc) ∧ w'.cell? ⟨g, x * 2, none⟩ = some (.slice KB ls.length kd)) (by kernel_rfl) ?_ (fun hHeld => ?_); focus ((try dsimp only); (refine ⟨?_, ?_⟩; (repeat (first | with_reducible assumption | with_reducible refine cel_alloc ?_ _ | with_reducible refine cel_drew ?_ | with_reducible refine cel_drewN ?_ _ | with_reducible refine cel_set ?_ (by first | (simp; done) | (simp; omega)) _ | with_reducible refine cel_no ?_ (by assumption))); (repeat (first | with_reducible assumption | with_reducible refine cel_alloc ?_ _ | with_reducible refine cel_drew ?_ | with_reducible refine cel_drewN ?_ _ | with_reducible refine cel_set ?_ (by first | (simp; done) | (simp; omega)) _ | with_reducible refine cel_no ?_ (by assumption)))); done))
            ((refine wpAnyH_take (i := 0) (v := ?_) rfl (by kernel_rfl) (by kernel_rfl) (by kernel_rfl) (fun _ _ _ h => h) (Or.inl ⟨by rfl, ?_⟩) (by assumption) ?_; rotate_left; focus (intro w hSw; (try dsimp only at hSw); go_simp; (try with_reducible rfl); done)); (try simp only [Act.put, List.setIfInBounds_toArray, List.set_cons_zero, List.set_cons_succ, List.getElem_toArray, List.getElem_cons_zero, List.getElem_cons_succ]); (refine wpAnyH_take (i := 1) (v := ?_) rfl (by kernel_rfl) (by kernel_rfl) (by kernel_rfl) (fun _ _ _ h => h) (Or.inl ⟨by rfl, ?_⟩) (by assumption) ?_; rotate_left; focus (intro w hSw; (try dsimp only at hSw); go_simp; (try with_reducible rfl); done)); (try simp only [Act.put, List.setIfInBounds_toArray, List.set_cons_zero, List.set_cons_succ, List.getElem_toArray, List.getElem_cons_zero, List.getElem_cons_succ]); (refine wpAnyH_take (i := 2) (v := ?_) rfl (by kernel_rfl) (by kernel_rfl) (by kernel_rfl) (fun _ _ _ h => h) (Or.inl ⟨by rfl, ?_⟩) (by assumption) ?_; rotate_left; focus (intro w hSw; (try dsimp only at hSw); go_simp; (try with_reducible rfl); done)); (try simp only [Act.put, List.setIfInBounds_toArray, List.set_cons_zero, List.set_cons_succ, List.getElem_toArray, List.getElem_cons_zero, List.getElem_cons_succ]))
            ((refine wpAnyH_take (i := 3) (v := ?_) rfl (by kernel_rfl) (by kernel_rfl) (by kernel_rfl) (fun _ _ _ h => h) (Or.inl ⟨by rfl, ?_⟩) (by assumption) ?_; rotate_left; focus (intro w hSw; (try dsimp only at hSw); go_simp; (try with_reducible rfl); done)); (try simp only [Act.put, List.setIfInBounds_toArray, List.set_cons_zero, List.set_cons_succ, List.getElem_toArray, List.getElem_cons_zero, List.getElem_cons_succ]); (refine wpAnyH_take (i := 4) (v := ?_) rfl (by kernel_rfl) (by kernel_rfl) (by kernel_rfl) (fun _ _ _ h => h) (Or.inl ⟨by rfl, ?_⟩) (by assumption) ?_; rotate_left; focus (intro w hSw; (try dsimp only at hSw); go_simp; (try with_reducible rfl); done)); (try simp only [Act.put, List.setIfInBounds_toArray, List.set_cons_zero, List.set_cons_succ, List.getElem_toArray, List.getElem_cons_zero, List.getElem_cons_succ]); (refine wpAnyH_take (i := 5) (v := ?_) rfl (by kernel_rfl) (by kernel_rfl) (by kernel_rfl) (fun _ _ _ h => h) (Or.inl ⟨by rfl, ?_⟩) (by assumption) ?_; rotate_left; focus (intro w hSw; (try dsimp only at hSw); go_simp; (try with_reducible rfl); done)); (try simp only [Act.put, List.setIfInBounds_toArray, List.set_cons_zero, List.set_cons_succ, List.getElem_toArray, List.getElem_cons_zero, List.getElem_cons_succ]); (refine wpAnyH_take (i := 6) (v := ?_) rfl (by kernel_rfl) (by kernel_rfl) (by kernel_rfl) (fun _ _ _ h => h) (Or.inl ⟨by rfl, ?_⟩) (by assumption) ?_; rotate_left; focus (intro w hSw; (try dsimp only at hSw); go_simp; (try with_reducible rfl); done)); (try simp only [Act.put, List.setIfInBounds_toArray, List.set_cons_zero, List.set_cons_succ, List.getElem_toArray, List.getElem_cons_zero, List.getElem_cons_succ]); (refine wpAnyH_take (i := 7) (v := ?_) rfl (by kernel_rfl) (by kernel_rfl) (by kernel_rfl) (fun _ _ _ h => h) (Or.inl ⟨by rfl, ?_⟩) (by assumption) ?_; rotate_left; focus (intro w hSw; (try dsimp only at hSw); go_simp; (try with_reducible rfl); done)); (try simp only [Act.put, List.setIfInBounds_toArray, List.set_cons_zero, List.set_cons_succ, List.getElem_toArray, List.getElem_cons_zero, List.getElem_cons_succ]); (refine wpAnyH_take (i := 8) (v := ?_) rfl (by kernel_rfl) (by kernel_rfl) (by kernel_rfl) (fun _ _ _ h => h) (Or.inl ⟨by rfl, ?_⟩) (by assumption) ?_; rotate_left; focus (intro w hSw; (try dsimp only at hSw); go_simp; (try with_reducible rfl); done)); (try simp only [Act.put, List.setIfInBounds_toArray, List.set_cons_zero, List.set_cons_succ, List.getElem_toArray, List.getElem_cons_zero, List.getElem_cons_succ]); (refine wpAnyH_take (i := 9) (v := ?_) rfl (by kernel_rfl) (by kernel_rfl) (by kernel_rfl) (fun _ _ _ h => h) (Or.inl ⟨by rfl, ?_⟩) (by assumption) ?_; rotate_left; focus (intro w hSw; (try dsimp only at hSw); go_simp; (try with_reducible rfl); done)); (try simp only [Act.put, List.setIfInBounds_toArray, List.set_cons_zero, List.set_cons_succ, List.getElem_toArray, List.getElem_cons_zero, List.getElem_cons_succ]); (refine wpAnyH_take (i := 10) (v := ?_) rfl (by kernel_rfl) (by kernel_rfl) (by kernel_rfl) (fun _ _ _ h => h) (Or.inl ⟨by rfl, ?_⟩) (by assumption) ?_; rotate_left; focus (intro w hSw; (try dsimp only at hSw); go_simp; (try with_reducible rfl); done)); (try simp only [Act.put, List.setIfInBounds_toArray, List.set_cons_zero, List.set_cons_succ, List.getElem_toArray, List.getElem_cons_zero, List.getElem_cons_succ]); (refine wpAnyH_take (i := 11) (v := ?_) rfl (by kernel_rfl) (by kernel_rfl) (by kernel_rfl) (fun _ _ _ h => h) (Or.inl ⟨by rfl, ?_⟩) (by assumption) ?_; rotate_left; focus (intro w hSw; (try dsimp only at hSw); go_simp; (try with_reducible rfl); done)); (try simp only [Act.put, List.setIfInBounds_toArray, List.set_cons_zero, List.set_cons_succ, List.getElem_toArray, List.getElem_cons_zero, List.getElem_cons_succ]); (refine wpAnyH_take (i := 12) (v := ?_) rfl (by kernel_rfl) (by kernel_rfl) (by kernel_rfl) (fun _ _ _ h => h) (Or.inl ⟨by rfl, ?_⟩) (by assumption) ?_; rotate_left; focus (intro w hSw; (try dsimp only at hSw); go_simp; (try with_reducible rfl); done)); (try simp only [Act.put, List.setIfInBounds_toArray, List.set_cons_zero, List.set_cons_succ, List.getElem_toArray, List.getElem_cons_zero, List.getElem_cons_succ]); (refine wpAnyH_take (i := 13) (v := ?_) rfl (by kernel_rfl) (by kernel_rfl) (by kernel_rfl) (fun _ _ _ h => h) (Or.inl ⟨by rfl, ?_⟩) (by assumption) ?_; rotate_left; focus (intro w hSw; (try dsimp only at hSw); go_simp; (try with_reducible rfl); done)); (try simp only [Act.put, List.setIfInBounds_toArray, List.set_cons_zero, List.set_cons_succ, List.getElem_toArray, List.getElem_cons_zero, List.getElem_cons_succ]))
            (refine wpAnyH_ready (rs := [14]) (by kernel_rfl) (by simp) ?_; refine AllReadyH.cons rfl (fun K hK => ?_) AllReadyH.nil; go_simp; (go_at_call 31; ((with_reducible refine (rcompare (a := ls) (b := ks) ?_ ?_).mono ?_); (focus ((have hk := Hkb.out); (repeat (first | with_reducible assumption | ((with_reducible refine Kv.lit_new _ _ _ _ _ _ ?_ ?_ ?_ ?_) <;> (first | (simp; done) | rfl | decide)) | with_reducible exact Kv.none_ _ | with_reducible refine Kv.alloc ?_ _ | with_reducible refine Kv.drew ?_ | with_reducible refine Kv.drewN ?_ _ | with_reducible refine Kv.no ?_ (by assumption))))); (focus ((have hk := Hkp.out); (repeat (first | with_reducible assumption | ((with_reducible refine Kv.lit_new _ _ _ _ _ _ ?_ ?_ ?_ ?_) <;> (first | (simp; done) | rfl | decide)) | with_reducible exact Kv.none_ _ | with_reducible refine Kv.alloc ?_ _ | with_reducible refine Kv.drew ?_ | with_reducible refine Kv.drewN ?_ _ | with_reducible refine Kv.no ?_ (by assumption))))); rintro e w6 ⟨rfl, hf6⟩)); (try go_wp2_with fail); refine hK.out _ _ ?_ (fun hHeld => ?_); focus ((try dsimp only); (refine ⟨?_, ?_⟩; (repeat (first | with_reducible assumption | with_reducible refine cel_alloc ?_ _ | with_reducible refine cel_drew ?_ | with_reducible refine cel_drewN ?_ _ | with_reducible refine cel_set ?_ (by first | (simp; done) | (simp; omega)) _ | with_reducible refine cel_no ?_ (by assumption))); (repeat (first | with_reducible assumption | with_reducible refine cel_alloc ?_ _ | with_reducible refine cel_drew ?_ | with_reducible refine cel_drewN ?_ _ | with_reducible refine cel_set ?_ (by first | (simp; done) | (simp; omega)) _ | with_reducible refine cel_no ?_ (by assumption)))); done)); (clear hK K); (try simp only [Act.put, List.setIfInBounds_toArray, List.set_cons_zero, List.set_cons_succ, List.getElem_toArray, List.getElem_cons_zero, List.getElem_cons_succ])
            ((refine wpAnyH_take (i := 15) (v := ?_) rfl (by kernel_rfl) (by kernel_rfl) (by kernel_rfl) (fun _ _ _ h => h) (Or.inl ⟨by rfl, ?_⟩) (by assumption) ?_; rotate_left; focus (intro w hSw; (try dsimp only at hSw); go_simp; (try with_reducible rfl); done)); (try simp only [Act.put, List.setIfInBounds_toArray, List.set_cons_zero, List.set_cons_succ, List.getElem_toArray, List.getElem_cons_zero, List.getElem_cons_succ]); (refine wpAnyH_take (i := 16) (v := ?_) rfl (by kernel_rfl) (by kernel_rfl) (by kernel_rfl) (fun _ _ _ h => h) (Or.inl ⟨by rfl, ?_⟩) (by assumption) ?_; rotate_left; focus (intro w hSw; (try dsimp only at hSw); go_simp; (try with_reducible rfl); done)); (try simp only [Act.put, List.setIfInBounds_toArray, List.set_cons_zero, List.set_cons_succ, List.getElem_toArray, List.getElem_cons_zero, List.getElem_cons_succ]))
            (refine wpAnyH_done (by kernel_rfl) ?_ _)
            have HvW := Lib.hid (show Rv w6 (some ⟨g, 0, none⟩) j cP out from (Rv.no HOp.out.rv (by (repeat (first | with_reducible exact Fr.refl _ _ | with_reducible refine Fr.setCell ?_ (.inr (by first | (simp; done) | (simp; omega))) _ | with_reducible refine Fr.alloc ?_ _ | with_reducible refine Fr.drew ?_ | with_reducible refine Fr.drewN ?_ _ | with_reducible refine Fr.tr ?_ (by assumption))))))
            have HFW := Lib.hid (show Fr No w w6 by have := HFp.out; (repeat (first | with_reducible exact Fr.refl _ _ | with_reducible refine Fr.setCell ?_ (.inr (by first | (simp; done) | (simp; omega))) _ | with_reducible refine Fr.alloc ?_ _ | with_reducible refine Fr.drew ?_ | with_reducible refine Fr.drewN ?_ _ | with_reducible refine Fr.tr ?_ (by assumption))))
            have HOo := Lib.hid (show w.heap.size ≤ w6.heap.size from HFW.out.size)
            have hcP : j ≤ cP := HvW.out.cap
            have e0 := cel_no c0w HFW.out
            have e1 := cel_no c1w HFW.out
            obtain ⟨A1, cA1, wa, hruna, hOa, hfa⟩ := ins_first (A' := (some ⟨g, 0, none⟩)) (c2 := cP) (p := (x + 1)) HvW.out (by omega) (by omega) (fun _ b off e => e)
            have g0 := cel_no e0 hfa
            have g1 := cel_no e1 hfa
            have HOa := Lib.hid hOa
            have Hfa := Lib.hid hfa
            clear hOa hfa
            obtain ⟨A4, hA4⟩ : ∃ A4 : Option Addr, (if cP = x + 1 then (some ⟨g, 0, none⟩ : Option Addr) else some ⟨g, (x + 1) * 2, none⟩) = A4 := ⟨_, rfl⟩
            have hx1c : x + 1 ≤ cP := by omega
            have hx1j : x + 1 ≤ j := by omega
            go_wp2
            go_region_held3 (fun w' => w'.cell? ⟨b, off + j * 2, none⟩ = some (.slice KA ks.length kc) ∧ w'.cell? ⟨b, off + j * 2 + 1, none⟩ = some (.string s)) ((refine ⟨?_, ?_⟩; (repeat (first | with_reducible assumption | with_reducible refine cel_alloc ?_ _ | with_reducible refine cel_drew ?_ | with_reducible refine cel_drewN ?_ _ | with_reducible refine cel_set ?_ (by first | (simp; done) | (simp; omega)) _ | with_reducible refine cel_no ?_ (by assumption))); (repeat (first | with_reducible assumption | with_reducible refine cel_alloc ?_ _ | with_reducible refine cel_drew ?_ | with_reducible refine cel_drewN ?_ _ | with_reducible refine cel_set ?_ (by first | (simp; done) | (simp; omega)) _ | with_reducible refine cel_no ?_ (by assumption)))))
              ((go_at_call 32; ((with_reducible refine (rcopy_any (ks := ks) ?_ hkn).mono ?_); (focus (exact (Hk.out.no (HFW.out.tr Hfa.out)).drew)); rintro e w7 ⟨K1, kc1, rfl, hown7, hf7⟩; (obtain ⟨A2, cA2, wb, hrunb, hOb, hgb, hfb⟩ := push_rec (wr := wa.drew) (B0 := w6.heap.size) HOa.out.drew Hfa.out.size hf7 hown7 rfl Hk.out.lt hz (by omega) (fun _ _ => trivial)); (have hfb2 := hfb w6 (Nat.le_refl _) Hfa.out.drew); (obtain ⟨A3, c3, wc, hrunc, hOc, hfc⟩ := ins_last (A' := A4) (c' := (cP - (x + 1))) (p := (x + 1)) HvW.out (by omega) (by omega) (by omega) hOb hfb2 (fun h b off e => by injection e with e; injection e with e1 e2; subst e1; subst e2; rw [← hA4, if_neg (by omega)]; simp)); skip; (rw [show x + 1 + 1 + (j - (x + 1)) = j + 1 by omega] at hrunc hOc); (have HOc := Lib.hid hOc); (have HFc := Lib.hid hfc); (have d0 := cel_no e0 hfb2); (have d1 := cel_no e1 hfb2); (clear hOc hfc hgb hfb hOb hfb2 hown7))))
            go_wp2
            go_roundw
            case rel => exact ⟨j + 1, A3, c3, by go_num, rfl, Lib.hid ⟨Hlt.out, by rw [Hso.out, HX.out]; exact (by have h := HOc.out.base_ HOo.out; simpa using h), HFW.out.tr HFc.out⟩⟩
            case measure => have := Hlt.out; simp [intOf]; omega
    · obtain rfl : j = n := by have := Hj.out.1; omega
      have e : rs.take j = rs := List.take_of_length_le (by rw [Hl.out]; exact Nat.le_refl _)
      go_wp2
      go_ret
      exact ⟨P, j, cP, rfl, by rw [← e]; exact Hj.out.2.1, Hj.out.2.2⟩
end
end Go.Proofs.Yteckbcfigklkpaa.Rt
