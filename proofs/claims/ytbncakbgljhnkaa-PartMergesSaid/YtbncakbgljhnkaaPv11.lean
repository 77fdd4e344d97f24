/- Layer 11: two buckets put together, the document's. -/
import Derived.Test.YtbncakbgljhnkaaPu11
import Derived.Test.YtbncakbgljhnkaaRt
import Derived.StillTailTactics
namespace Go.Proofs.Ytbncakbgljhnkaa.Pv11
open Go.RowKit Go.Proofs.Ytbncakbgljhnkaa.Pk08 Go.Proofs.Ytbncakbgljhnkaa.Base Go.Proofs.Ytbncakbgljhnkaa.App Go.Proofs.Ytbncakbgljhnkaa.Str Go.Proofs.Ytbncakbgljhnkaa.Ky Go.Proofs.Ytbncakbgljhnkaa.Bx Go.Proofs.Ytbncakbgljhnkaa.Bo Go.Proofs.Ytbncakbgljhnkaa.As Go.Proofs.Ytbncakbgljhnkaa.Pl08 Go.Proofs.Ytbncakbgljhnkaa.Rv Go.Proofs.Ytbncakbgljhnkaa.Rp Go.Proofs.Ytbncakbgljhnkaa.Ro Go.Proofs.Ytbncakbgljhnkaa.Rk Go.Proofs.Ytbncakbgljhnkaa.Rc Go.Proofs.Ytbncakbgljhnkaa.Rt Go.Proofs.Ytbncakbgljhnkaa.Pt11
set_option linter.unusedVariables false
set_option linter.unusedSimpArgs false
attribute [local go_sem ↓ high] builtin_app
def tw (x : List Nat) (qs : List Rv.Rec) (k : Nat) : Bool := (qs.take k).any (fun y => decide (x = y.1))
theorem tw_succ (x : List Nat) (qs : List Rv.Rec) (k : Nat) (h : k < qs.length) : tw x qs (k + 1) = (tw x qs k || decide (x = (qs.getD k rec0).1)) := by
  unfold tw
  rw [Go.Proofs.Ytbncakbgljhnkaa.Rk.take_succ qs k h, List.any_append]
  simp
def keep1 (rs qs : List Rv.Rec) (i : Nat) : List Rv.Rec := (rs.take i).filter (fun x => !(qs.any (fun y => decide (x.1 = y.1))))
theorem keep1_succ (rs qs : List Rv.Rec) (i : Nat) (h : i < rs.length) : keep1 rs qs (i + 1) = keep1 rs qs i ++ (if tw (rs.getD i rec0).1 qs qs.length = true then [] else [rs.getD i rec0]) := by
  unfold keep1 tw
  rw [Go.Proofs.Ytbncakbgljhnkaa.Rk.take_succ rs i h, List.filter_append, List.take_length]
  congr 1
  by_cases hx : qs.any (fun y => decide ((rs.getD i rec0).1 = y.1)) = true
  · rw [if_pos hx, List.filter_cons, hx]; rfl
  · rw [if_neg hx, List.filter_cons, Bool.eq_false_iff.2 hx]; rfl
theorem keep1_len (rs qs : List Rv.Rec) (i : Nat) : (keep1 rs qs i).length ≤ rs.length := by
  unfold keep1
  exact Nat.le_trans (List.length_filter_le _ _) (by rw [List.length_take]; omega)
section
variable {w : World} {A B : Option Addr} {n m c d : Nat} {rs qs : List Rv.Rec}
/-- A list read, put behind a list of the call's own. -/
theorem app_all {W : World} {A0 : Option Addr} {p cP : Nat} {ls : List Rv.Rec} (hO : Ow W w.heap.size 48 (fun b => b < w.heap.size) A0 p cP ls) (hv : Rv w B m d qs) (f : Fr No w W) (hp : p ≤ 1000000) (hm : m ≤ 1000000) :
    ∃ A3 c3 w3, (appSem #[26, 26] 26 #[.slice A0 p cP, .slice B m d]).run Try.prog W = .ok (.slice A3 (p + m) c3) w3 ∧ Ow w3 w.heap.size 48 (fun b => b < w.heap.size) A3 (p + m) c3 (ls ++ qs) ∧ Fr No w w3 := by
  have hl := hv.len
  obtain ⟨ps, hrs, hcs, hps⟩ := Rv.parts hv
  obtain ⟨A3, c3, w3, hrun, hO3, hg, _⟩ := app_recs (Pg := Try.prog) 26 _ 40 Try.underlying26 info_rec rfl (by decide) hO (ps := ps) (fun q hq => ((hps q hq).no f).mono (fun b hb => ⟨hb, fun g o e => by
    subst e
    have := (hO.blk g rfl).1
    omega⟩)) (A := B) (m := m) (c := d) (by rw [hl, ← hrs, recs_len]) (hcs.no f) (by omega) f.size
  rw [hrs] at hO3
  exact ⟨A3, c3, w3, hrun, hO3, f.grown hg (fun k hk => .inr (hO.blk k hk).1)⟩
set_option maxHeartbeats 3200000 in
theorem rmerge_any (ha : Rv w A n c rs) (hb : Rv w B m d qs) (hs : Short rs) (hs2 : Short qs) (hlen : n + m ≤ 1000000) : Calls Try.prog 23 #[.slice A n c, .slice B m d] w (RecsRet w (mrgL rs qs)) := by
  have hn := ha.len_le
  have hm := hb.len_le
  have Ha := Lib.hid ha
  have Hb := Lib.hid hb
  have Hs := Lib.hid hs
  have Hs2 := Lib.hid hs2
  have Hl := Lib.hid ha.len
  have Hm := Lib.hid hb.len
  clear ha hb hs hs2
  go_enter Try.func23, Try.ntmps23
  go_wp2
  go_loopw [5, 6] (fun v x wr => ∃ (j : Nat) (P : Option Addr) (p cP : Nat), x = .int .i64 j ∧ v = .slice P p cP ∧ Hid (j ≤ n ∧ Ow wr w.heap.size 48 (fun b => b < w.heap.size) P p cP (keep1 rs qs j) ∧ Fr No w wr)) (fun _ x _ => n - (intOf x).toNat)
  case atStart => exact ⟨0, none, 0, 0, rfl, rfl, Lib.hid ⟨Nat.zero_le _, Ow.nil_ _ _ _ _, Fr.refl _ _⟩⟩
  case round =>
    obtain ⟨j, P, p, cP, rfl, rfl, Hj⟩ := hrel
    obtain ⟨wo, rfl⟩ : ∃ wo : World, wo = wr := ⟨_, rfl⟩
    have Hp1 := Lib.hid (show p ≤ n by have h1 := Hj.out.2.1.len; have h2 := keep1_len rs qs j; have := Hl.out; omega)
    by_cases hlt : j < n
    · obtain ⟨b, off, KA, kc, rfl, c0w, c1w, hkw, hz⟩ := Ha.out.get j (by rw [← Hl.out]; exact hlt)
      have Hlt := Lib.hid hlt
      have Hpk := Lib.hid ((Pk.lt (P := fun _ => True) (p := (KA, kc, rs.getD j rec0)) ⟨hkw, hz, fun _ _ _ _ => trivial⟩).mono (P' := fun b => b < w.heap.size) (fun b hb => hb.2))
      have Hke := Lib.hid (keep1_succ rs qs j (by rw [← Hl.out]; exact hlt))
      have Hk := Lib.hid hkw
      clear hkw
      generalize keep1 rs qs j = la at *
      generalize hrr : rs.getD j rec0 = r at *
      clear hrr
      obtain ⟨ks, s⟩ := r
      simp only at *
      go_wp2
      go_loopw [7, 8] (fun u v wr => ∃ k : Nat, v = .int .i64 k ∧ u = .bool (tw ks qs k) ∧ Hid (k ≤ m ∧ Fr No wo wr)) (fun _ v _ => m - (intOf v).toNat)
      case atStart => exact ⟨0, rfl, rfl, Lib.hid ⟨Nat.zero_le _, Fr.refl _ _⟩⟩
      case round =>
        obtain ⟨k, rfl, rfl, Hi⟩ := hrel
        have HFi := Lib.hid (Hj.out.2.2.tr Hi.out.2)
        have c0 := cel_no c0w HFi.out
        have c1 := cel_no c1w HFi.out
        by_cases hk2 : k < m
        · obtain ⟨b2, off2, KB, kd, rfl, q0, q1, hkb, hzb⟩ := (Hb.out.no HFi.out).get k (by rw [← Hm.out]; exact hk2)
          have Hts := Lib.hid (tw_succ ks qs k (by rw [← Hm.out]; exact hk2))
          have Hk2 := Lib.hid hk2
          generalize hqq : qs.getD k rec0 = q at *
          clear hqq
          obtain ⟨ls, t⟩ := q
          simp only at *
          have Hkb := Lib.hid hkb
          have Hka := Lib.hid (Hk.out.no HFi.out)
          clear hkb
          cases htw : tw ks qs k with
          | true =>
            rw [htw, Bool.true_or] at Hts
            clear htw
            go_wp2
            (refine wp_region_held_drew (S := fun w' => w'.cell? ⟨b, off + j * 2, none⟩ = some (.slice KA ks.length kc)) (by kernel_rfl) ?_ (fun hHeld => ?_); focus ((try dsimp only); (repeat (first | with_reducible assumption | with_reducible refine cel_alloc ?_ _ | with_reducible refine cel_drew ?_ | with_reducible refine cel_drewN ?_ _ | with_reducible refine cel_set ?_ (by first | (simp; done) | (simp; omega)) _ | with_reducible refine cel_no ?_ (by assumption))); done))
            ((refine wpAnyH_take (i := 0) (v := ?_) rfl (by kernel_rfl) (by kernel_rfl) (by kernel_rfl) (fun _ _ _ h => h) (Or.inl ⟨by rfl, ?_⟩) (by assumption) ?_; rotate_left; focus (intro w hSw; (try dsimp only at hSw); go_simp; (try with_reducible rfl); done)); (try simp only [Act.put, List.setIfInBounds_toArray, List.set_cons_zero, List.set_cons_succ, List.getElem_toArray, List.getElem_cons_zero, List.getElem_cons_succ]); (refine wpAnyH_take (i := 1) (v := ?_) rfl (by kernel_rfl) (by kernel_rfl) (by kernel_rfl) (fun _ _ _ h => h) (Or.inl ⟨by rfl, ?_⟩) (by assumption) ?_; rotate_left; focus (intro w hSw; (try dsimp only at hSw); go_simp; (try with_reducible rfl); done)); (try simp only [Act.put, List.setIfInBounds_toArray, List.set_cons_zero, List.set_cons_succ, List.getElem_toArray, List.getElem_cons_zero, List.getElem_cons_succ]))
            ((refine wpAnyH_take (i := 2) (v := undef) rfl (by kernel_rfl) (by kernel_rfl) (by kernel_rfl) (fun _ _ _ h => h) (Or.inr ⟨by rfl, rfl⟩) (by assumption) ?_); (try simp only [Act.put, List.setIfInBounds_toArray, List.set_cons_zero, List.set_cons_succ, List.getElem_toArray, List.getElem_cons_zero, List.getElem_cons_succ]); (refine wpAnyH_take (i := 3) (v := undef) rfl (by kernel_rfl) (by kernel_rfl) (by kernel_rfl) (fun _ _ _ h => h) (Or.inr ⟨by rfl, rfl⟩) (by assumption) ?_); (try simp only [Act.put, List.setIfInBounds_toArray, List.set_cons_zero, List.set_cons_succ, List.getElem_toArray, List.getElem_cons_zero, List.getElem_cons_succ]); (refine wpAnyH_take (i := 4) (v := undef) rfl (by kernel_rfl) (by kernel_rfl) (by kernel_rfl) (fun _ _ _ h => h) (Or.inr ⟨by rfl, rfl⟩) (by assumption) ?_); (try simp only [Act.put, List.setIfInBounds_toArray, List.set_cons_zero, List.set_cons_succ, List.getElem_toArray, List.getElem_cons_zero, List.getElem_cons_succ]); (refine wpAnyH_take (i := 5) (v := undef) rfl (by kernel_rfl) (by kernel_rfl) (by kernel_rfl) (fun _ _ _ h => h) (Or.inr ⟨by rfl, rfl⟩) (by assumption) ?_); (try simp only [Act.put, List.setIfInBounds_toArray, List.set_cons_zero, List.set_cons_succ, List.getElem_toArray, List.getElem_cons_zero, List.getElem_cons_succ]); (refine wpAnyH_take (i := 6) (v := undef) rfl (by kernel_rfl) (by kernel_rfl) (by kernel_rfl) (fun _ _ _ h => h) (Or.inr ⟨by rfl, rfl⟩) (by assumption) ?_); (try simp only [Act.put, List.setIfInBounds_toArray, List.set_cons_zero, List.set_cons_succ, List.getElem_toArray, List.getElem_cons_zero, List.getElem_cons_succ]); (refine wpAnyH_take (i := 7) (v := undef) rfl (by kernel_rfl) (by kernel_rfl) (by kernel_rfl) (fun _ _ _ h => h) (Or.inr ⟨by rfl, rfl⟩) (by assumption) ?_); (try simp only [Act.put, List.setIfInBounds_toArray, List.set_cons_zero, List.set_cons_succ, List.getElem_toArray, List.getElem_cons_zero, List.getElem_cons_succ]); (refine wpAnyH_take (i := 8) (v := undef) rfl (by kernel_rfl) (by kernel_rfl) (by kernel_rfl) (fun _ _ _ h => h) (Or.inr ⟨by rfl, rfl⟩) (by assumption) ?_); (try simp only [Act.put, List.setIfInBounds_toArray, List.set_cons_zero, List.set_cons_succ, List.getElem_toArray, List.getElem_cons_zero, List.getElem_cons_succ]); (refine wpAnyH_take (i := 9) (v := undef) rfl (by kernel_rfl) (by kernel_rfl) (by kernel_rfl) (fun _ _ _ h => h) (Or.inr ⟨by rfl, rfl⟩) (by assumption) ?_); (try simp only [Act.put, List.setIfInBounds_toArray, List.set_cons_zero, List.set_cons_succ, List.getElem_toArray, List.getElem_cons_zero, List.getElem_cons_succ]); (refine wpAnyH_take (i := 10) (v := undef) rfl (by kernel_rfl) (by kernel_rfl) (by kernel_rfl) (fun _ _ _ h => h) (Or.inr ⟨by rfl, rfl⟩) (by assumption) ?_); (try simp only [Act.put, List.setIfInBounds_toArray, List.set_cons_zero, List.set_cons_succ, List.getElem_toArray, List.getElem_cons_zero, List.getElem_cons_succ]); (refine wpAnyH_take (i := 11) (v := undef) rfl (by kernel_rfl) (by kernel_rfl) (by kernel_rfl) (fun _ _ _ h => h) (Or.inr ⟨by rfl, rfl⟩) (by assumption) ?_); (try simp only [Act.put, List.setIfInBounds_toArray, List.set_cons_zero, List.set_cons_succ, List.getElem_toArray, List.getElem_cons_zero, List.getElem_cons_succ]); (refine wpAnyH_take (i := 12) (v := undef) rfl (by kernel_rfl) (by kernel_rfl) (by kernel_rfl) (fun _ _ _ h => h) (Or.inr ⟨by rfl, rfl⟩) (by assumption) ?_); (try simp only [Act.put, List.setIfInBounds_toArray, List.set_cons_zero, List.set_cons_succ, List.getElem_toArray, List.getElem_cons_zero, List.getElem_cons_succ]))
            ((refine wpAnyH_take (i := 13) (v := ?_) rfl (by kernel_rfl) (by kernel_rfl) (by kernel_rfl) (fun _ _ _ h => h) (Or.inl ⟨by rfl, ?_⟩) (by assumption) ?_; rotate_left; focus (intro w hSw; (try dsimp only at hSw); go_simp; (try with_reducible rfl); done)); (try simp only [Act.put, List.setIfInBounds_toArray, List.set_cons_zero, List.set_cons_succ, List.getElem_toArray, List.getElem_cons_zero, List.getElem_cons_succ]); (refine wpAnyH_take (i := 14) (v := ?_) rfl (by kernel_rfl) (by kernel_rfl) (by kernel_rfl) (fun _ _ _ h => h) (Or.inl ⟨by rfl, ?_⟩) (by assumption) ?_; rotate_left; focus (intro w hSw; (try dsimp only at hSw); go_simp; (try with_reducible rfl); done)); (try simp only [Act.put, List.setIfInBounds_toArray, List.set_cons_zero, List.set_cons_succ, List.getElem_toArray, List.getElem_cons_zero, List.getElem_cons_succ]))
            (refine wpAnyH_done (by kernel_rfl) ?_ _)
            go_wp2
            go_roundw
            case rel => exact ⟨k + 1, by go_num, by rw [Hts.out], Lib.hid ⟨Hk2.out, by have := Hi.out.2; (repeat (first | with_reducible exact Fr.refl _ _ | with_reducible refine Fr.setCell ?_ (.inr (by first | (simp; done) | (simp; omega))) _ | with_reducible refine Fr.alloc ?_ _ | with_reducible refine Fr.drew ?_ | with_reducible refine Fr.drewN ?_ _ | with_reducible refine Fr.tr ?_ (by assumption)))⟩⟩
            case measure => have := Hk2.out; simp [intOf]; omega
          | false =>
            rw [htw, Bool.false_or, ← cmp_eqB] at Hts
            clear htw
            go_wp2
            (refine wp_region_held_drew (S := fun w' => w'.cell? ⟨b, off + j * 2, none⟩ = some (.slice KA ks.length kc) ∧ w'.cell? ⟨b2, off2 + k * 2, none⟩ = some (.slice KB ls.length kd)) (by kernel_rfl) ?_ (fun hHeld => ?_); focus ((try dsimp only); (refine ⟨?_, ?_⟩; (repeat (first | with_reducible assumption | with_reducible refine cel_alloc ?_ _ | with_reducible refine cel_drew ?_ | with_reducible refine cel_drewN ?_ _ | with_reducible refine cel_set ?_ (by first | (simp; done) | (simp; omega)) _ | with_reducible refine cel_no ?_ (by assumption))); (repeat (first | with_reducible assumption | with_reducible refine cel_alloc ?_ _ | with_reducible refine cel_drew ?_ | with_reducible refine cel_drewN ?_ _ | with_reducible refine cel_set ?_ (by first | (simp; done) | (simp; omega)) _ | with_reducible refine cel_no ?_ (by assumption)))); done))
            ((refine wpAnyH_take (i := 0) (v := ?_) rfl (by kernel_rfl) (by kernel_rfl) (by kernel_rfl) (fun _ _ _ h => h) (Or.inl ⟨by rfl, ?_⟩) (by assumption) ?_; rotate_left; focus (intro w hSw; (try dsimp only at hSw); go_simp; (try with_reducible rfl); done)); (try simp only [Act.put, List.setIfInBounds_toArray, List.set_cons_zero, List.set_cons_succ, List.getElem_toArray, List.getElem_cons_zero, List.getElem_cons_succ]); (refine wpAnyH_take (i := 1) (v := ?_) rfl (by kernel_rfl) (by kernel_rfl) (by kernel_rfl) (fun _ _ _ h => h) (Or.inl ⟨by rfl, ?_⟩) (by assumption) ?_; rotate_left; focus (intro w hSw; (try dsimp only at hSw); go_simp; (try with_reducible rfl); done)); (try simp only [Act.put, List.setIfInBounds_toArray, List.set_cons_zero, List.set_cons_succ, List.getElem_toArray, List.getElem_cons_zero, List.getElem_cons_succ]))
            ((refine wpAnyH_take (i := 2) (v := ?_) rfl (by kernel_rfl) (by kernel_rfl) (by kernel_rfl) (fun _ _ _ h => h) (Or.inl ⟨by rfl, ?_⟩) (by assumption) ?_; rotate_left; focus (intro w hSw; (try dsimp only at hSw); go_simp; (try with_reducible rfl); done)); (try simp only [Act.put, List.setIfInBounds_toArray, List.set_cons_zero, List.set_cons_succ, List.getElem_toArray, List.getElem_cons_zero, List.getElem_cons_succ]); (refine wpAnyH_take (i := 3) (v := ?_) rfl (by kernel_rfl) (by kernel_rfl) (by kernel_rfl) (fun _ _ _ h => h) (Or.inl ⟨by rfl, ?_⟩) (by assumption) ?_; rotate_left; focus (intro w hSw; (try dsimp only at hSw); go_simp; (try with_reducible rfl); done)); (try simp only [Act.put, List.setIfInBounds_toArray, List.set_cons_zero, List.set_cons_succ, List.getElem_toArray, List.getElem_cons_zero, List.getElem_cons_succ]); (refine wpAnyH_take (i := 4) (v := ?_) rfl (by kernel_rfl) (by kernel_rfl) (by kernel_rfl) (fun _ _ _ h => h) (Or.inl ⟨by rfl, ?_⟩) (by assumption) ?_; rotate_left; focus (intro w hSw; (try dsimp only at hSw); go_simp; (try with_reducible rfl); done)); (try simp only [Act.put, List.setIfInBounds_toArray, List.set_cons_zero, List.set_cons_succ, List.getElem_toArray, List.getElem_cons_zero, List.getElem_cons_succ]); (refine wpAnyH_take (i := 5) (v := ?_) rfl (by kernel_rfl) (by kernel_rfl) (by kernel_rfl) (fun _ _ _ h => h) (Or.inl ⟨by rfl, ?_⟩) (by assumption) ?_; rotate_left; focus (intro w hSw; (try dsimp only at hSw); go_simp; (try with_reducible rfl); done)); (try simp only [Act.put, List.setIfInBounds_toArray, List.set_cons_zero, List.set_cons_succ, List.getElem_toArray, List.getElem_cons_zero, List.getElem_cons_succ]); (refine wpAnyH_take (i := 6) (v := ?_) rfl (by kernel_rfl) (by kernel_rfl) (by kernel_rfl) (fun _ _ _ h => h) (Or.inl ⟨by rfl, ?_⟩) (by assumption) ?_; rotate_left; focus (intro w hSw; (try dsimp only at hSw); go_simp; (try with_reducible rfl); done)); (try simp only [Act.put, List.setIfInBounds_toArray, List.set_cons_zero, List.set_cons_succ, List.getElem_toArray, List.getElem_cons_zero, List.getElem_cons_succ]); (refine wpAnyH_take (i := 7) (v := ?_) rfl (by kernel_rfl) (by kernel_rfl) (by kernel_rfl) (fun _ _ _ h => h) (Or.inl ⟨by rfl, ?_⟩) (by assumption) ?_; rotate_left; focus (intro w hSw; (try dsimp only at hSw); go_simp; (try with_reducible rfl); done)); (try simp only [Act.put, List.setIfInBounds_toArray, List.set_cons_zero, List.set_cons_succ, List.getElem_toArray, List.getElem_cons_zero, List.getElem_cons_succ]); (refine wpAnyH_take (i := 8) (v := ?_) rfl (by kernel_rfl) (by kernel_rfl) (by kernel_rfl) (fun _ _ _ h => h) (Or.inl ⟨by rfl, ?_⟩) (by assumption) ?_; rotate_left; focus (intro w hSw; (try dsimp only at hSw); go_simp; (try with_reducible rfl); done)); (try simp only [Act.put, List.setIfInBounds_toArray, List.set_cons_zero, List.set_cons_succ, List.getElem_toArray, List.getElem_cons_zero, List.getElem_cons_succ]); (refine wpAnyH_take (i := 9) (v := ?_) rfl (by kernel_rfl) (by kernel_rfl) (by kernel_rfl) (fun _ _ _ h => h) (Or.inl ⟨by rfl, ?_⟩) (by assumption) ?_; rotate_left; focus (intro w hSw; (try dsimp only at hSw); go_simp; (try with_reducible rfl); done)); (try simp only [Act.put, List.setIfInBounds_toArray, List.set_cons_zero, List.set_cons_succ, List.getElem_toArray, List.getElem_cons_zero, List.getElem_cons_succ]); (refine wpAnyH_take (i := 10) (v := ?_) rfl (by kernel_rfl) (by kernel_rfl) (by kernel_rfl) (fun _ _ _ h => h) (Or.inl ⟨by rfl, ?_⟩) (by assumption) ?_; rotate_left; focus (intro w hSw; (try dsimp only at hSw); go_simp; (try with_reducible rfl); done)); (try simp only [Act.put, List.setIfInBounds_toArray, List.set_cons_zero, List.set_cons_succ, List.getElem_toArray, List.getElem_cons_zero, List.getElem_cons_succ]); (refine wpAnyH_take (i := 11) (v := ?_) rfl (by kernel_rfl) (by kernel_rfl) (by kernel_rfl) (fun _ _ _ h => h) (Or.inl ⟨by rfl, ?_⟩) (by assumption) ?_; rotate_left; focus (intro w hSw; (try dsimp only at hSw); go_simp; (try with_reducible rfl); done)); (try simp only [Act.put, List.setIfInBounds_toArray, List.set_cons_zero, List.set_cons_succ, List.getElem_toArray, List.getElem_cons_zero, List.getElem_cons_succ]))
            (refine wpAnyH_ready (rs := [12]) (by kernel_rfl) (by simp) ?_; refine AllReadyH.cons rfl (fun K hK => ?_) AllReadyH.nil; go_simp; (go_at_call 27; ((with_reducible refine (Go.Proofs.Ytbncakbgljhnkaa.Kd08.same (a := ks) (b := ls) ?_ ?_).mono ?_); (focus ((have hk := Hka.out); (repeat (first | with_reducible assumption | ((with_reducible refine Kv.lit_new _ _ _ _ _ _ ?_ ?_ ?_ ?_) <;> (first | (simp; done) | rfl | decide)) | with_reducible exact Kv.none_ _ | with_reducible refine Kv.alloc ?_ _ | with_reducible refine Kv.drew ?_ | with_reducible refine Kv.drewN ?_ _ | with_reducible refine Kv.no ?_ (by assumption))))); (focus ((have hk := Hkb.out); (repeat (first | with_reducible assumption | ((with_reducible refine Kv.lit_new _ _ _ _ _ _ ?_ ?_ ?_ ?_) <;> (first | (simp; done) | rfl | decide)) | with_reducible exact Kv.none_ _ | with_reducible refine Kv.alloc ?_ _ | with_reducible refine Kv.drew ?_ | with_reducible refine Kv.drewN ?_ _ | with_reducible refine Kv.no ?_ (by assumption))))); rintro e w5 ⟨rfl, hf5⟩)); (try go_wp2_with fail); refine hK.out _ _ ?_ (fun hHeld => ?_); focus ((try dsimp only); (refine ⟨?_, ?_⟩; (repeat (first | with_reducible assumption | with_reducible refine cel_alloc ?_ _ | with_reducible refine cel_drew ?_ | with_reducible refine cel_drewN ?_ _ | with_reducible refine cel_set ?_ (by first | (simp; done) | (simp; omega)) _ | with_reducible refine cel_no ?_ (by assumption))); (repeat (first | with_reducible assumption | with_reducible refine cel_alloc ?_ _ | with_reducible refine cel_drew ?_ | with_reducible refine cel_drewN ?_ _ | with_reducible refine cel_set ?_ (by first | (simp; done) | (simp; omega)) _ | with_reducible refine cel_no ?_ (by assumption)))); done)); (clear hK K); (try simp only [Act.put, List.setIfInBounds_toArray, List.set_cons_zero, List.set_cons_succ, List.getElem_toArray, List.getElem_cons_zero, List.getElem_cons_succ])
            ((refine wpAnyH_take (i := 13) (v := ?_) rfl (by kernel_rfl) (by kernel_rfl) (by kernel_rfl) (fun _ _ _ h => h) (Or.inl ⟨by rfl, ?_⟩) (by assumption) ?_; rotate_left; focus (intro w hSw; (try dsimp only at hSw); go_simp; (try with_reducible rfl); done)); (try simp only [Act.put, List.setIfInBounds_toArray, List.set_cons_zero, List.set_cons_succ, List.getElem_toArray, List.getElem_cons_zero, List.getElem_cons_succ]); (refine wpAnyH_take (i := 14) (v := ?_) rfl (by kernel_rfl) (by kernel_rfl) (by kernel_rfl) (fun _ _ _ h => h) (Or.inl ⟨by rfl, ?_⟩) (by assumption) ?_; rotate_left; focus (intro w hSw; (try dsimp only at hSw); go_simp; (try with_reducible rfl); done)); (try simp only [Act.put, List.setIfInBounds_toArray, List.set_cons_zero, List.set_cons_succ, List.getElem_toArray, List.getElem_cons_zero, List.getElem_cons_succ]))
            (refine wpAnyH_done (by kernel_rfl) ?_ _)
            go_wp2
            go_roundw
            case rel => exact ⟨k + 1, by go_num, by rw [Hts.out], Lib.hid ⟨Hk2.out, by have := Hi.out.2; (repeat (first | with_reducible exact Fr.refl _ _ | with_reducible refine Fr.setCell ?_ (.inr (by first | (simp; done) | (simp; omega))) _ | with_reducible refine Fr.alloc ?_ _ | with_reducible refine Fr.drew ?_ | with_reducible refine Fr.drewN ?_ _ | with_reducible refine Fr.tr ?_ (by assumption)))⟩⟩
            case measure => have := Hk2.out; simp [intOf]; omega
        · obtain rfl : k = m := by have := Hi.out.1; omega
          rw [← Hm.out] at Hke
          cases htw : tw ks qs k with
          | true =>
            rw [htw, if_pos rfl, List.append_nil] at Hke
            clear htw
            go_wp2
            go_roundw
            case rel => exact ⟨j + 1, P, p, cP, by go_num, rfl, Lib.hid ⟨Hlt.out, by rw [Hke.out]; exact Hj.out.2.1.no Hi.out.2, HFi.out⟩⟩
            case measure => have := Hlt.out; simp [intOf]; omega
          | false =>
            rw [htw, if_neg (by decide)] at Hke
            clear htw
            have HOi := Lib.hid (Hj.out.2.1.no Hi.out.2)
            obtain ⟨A1, cA, w1, hrun, hO, hgr, hfr, hat⟩ := push_old HOi.out HFi.out.size ((Hpk.out.no HFi.out).mono (fun b hb => ⟨hb, fun g o e => by
              subst e
              have := (HOi.out.blk g rfl).1
              omega⟩)) (by have := Hp1.out; omega)
            have HO1 := Lib.hid hO
            have HF1 := Lib.hid (hfr w (Nat.le_refl _) HFi.out)
            clear hO hgr hfr hat
            go_wp2
            go_roundw
            case rel => exact ⟨j + 1, A1, p + 1, cA, by go_num, rfl, Lib.hid ⟨Hlt.out, by rw [Hke.out]; exact HO1.out, HF1.out⟩⟩
            case measure => have := Hlt.out; simp [intOf]; omega
    · obtain rfl : j = n := by have := Hj.out.1; omega
      have e : keep1 rs qs j ++ qs = mrgIn rs qs := by unfold keep1 mrgIn; rw [List.take_of_length_le (by rw [Hl.out]; exact Nat.le_refl _)]
      obtain ⟨A3, c3, w3, hrun, hO3, hf3⟩ := app_all Hj.out.2.1 Hb.out Hj.out.2.2 (by have := Hp1.out; omega) (by omega)
      rw [e] at hO3
      have Hsh := Lib.hid (show Short (mrgIn rs qs) from ⟨by have h1 := hO3.len; have := Hp1.out; omega, fun r hr => by
        rcases (mem_mrgIn rs qs r).1 hr with h | h
        · exact Hs2.out.2 r h
        · exact Hs.out.2 r h.1⟩)
      have HO3 := Lib.hid hO3
      have HF3 := Lib.hid hf3
      clear hO3 hf3 e
      go_wp2_with (go_at_call 47; ((with_reducible refine (sorted_any (rs := mrgIn rs qs) ?_ Hsh.out).mono ?_); (focus ((have hr := HO3.out.rv); (repeat (first | with_reducible assumption | with_reducible exact Rv.none_ _ | with_reducible refine Rv.alloc ?_ _ | with_reducible refine Rv.drew ?_ | with_reducible refine Rv.drewN ?_ _ | with_reducible refine Rv.no ?_ (by assumption))))); rintro e w5 ⟨A5, n5, c5, rfl, ho5, hf5⟩))
      go_ret
      exact ⟨A5, n5, c5, rfl, ho5.base_ HF3.out.size, HF3.out.tr hf5⟩
end
end Go.Proofs.Ytbncakbgljhnkaa.Pv11
