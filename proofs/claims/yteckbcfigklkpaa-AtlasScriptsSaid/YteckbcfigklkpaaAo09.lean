/- Layer 9: the document's atlas in memory; what is asked of it, and what is put into it. -/
import Derived.Test.YteckbcfigklkpaaAn09
import Derived.Test.YteckbcfigklkpaaAg09
import Derived.Test.YteckbcfigklkpaaGb
import Derived.StillTailTactics
namespace Go.Proofs.Yteckbcfigklkpaa.Ao09
open Go.RowKit Go.Proofs.Yteckbcfigklkpaa.Pk08 Go.Proofs.Yteckbcfigklkpaa.Base Go.Proofs.Yteckbcfigklkpaa.App Go.Proofs.Yteckbcfigklkpaa.Str Go.Proofs.Yteckbcfigklkpaa.Ky Go.Proofs.Yteckbcfigklkpaa.Bx Go.Proofs.Yteckbcfigklkpaa.Bo Go.Proofs.Yteckbcfigklkpaa.As Go.Proofs.Yteckbcfigklkpaa.Pl08 Go.Proofs.Yteckbcfigklkpaa.Kc08 Go.Proofs.Yteckbcfigklkpaa.Kd08 Go.Proofs.Yteckbcfigklkpaa.Kh08 Go.Proofs.Yteckbcfigklkpaa.Rv Go.Proofs.Yteckbcfigklkpaa.Ra Go.Proofs.Yteckbcfigklkpaa.Rp Go.Proofs.Yteckbcfigklkpaa.Ro Go.Proofs.Yteckbcfigklkpaa.Rk Go.Proofs.Yteckbcfigklkpaa.Rt Go.Proofs.Yteckbcfigklkpaa.Ab09 Go.Proofs.Yteckbcfigklkpaa.Ac09 Go.Proofs.Yteckbcfigklkpaa.Ad09 Go.Proofs.Yteckbcfigklkpaa.Ae09 Go.Proofs.Yteckbcfigklkpaa.Af09 Go.Proofs.Yteckbcfigklkpaa.An09
set_option linter.unusedVariables false
set_option linter.unusedSimpArgs false
attribute [local go_sem ↓ high] builtin_app
def isNot (k : List Nat) (r : Rv.Rec) : Bool := !decide (r.1 = k)
/-- Where a point is, or the list's length. -/
def fnd (ls : List Rv.Rec) (k : List Nat) : Nat := firstOut (isNot k) ls
/-- The document's atlas at gk, of the records ls. -/
structure Dt (w : World) (K : Nat → Prop) (gk : Nat) (d : Int) (A : Option Addr) (n c : Nat) (ls : List Rv.Rec) : Prop where
  ob : Ob w gk #[.int .i64 d, .slice A n c] 55
  ow : Ow w 0 33 K A n c ls
  kg : ¬ K gk
  og : obk A n c ≠ some gk
  ok : ∀ r ∈ ls, recC r.1.length r.2 d = 0
  le : ls.length ≤ 1000
section
variable {S K : Nat → Prop} {w w1 : World} {gk : Nat} {d : Int} {A B : Option Addr} {n c m e : Nat} {ls : List Rv.Rec} {k ks : List Nat} {s : ByteArray}
theorem Dt.fr (h : Dt w K gk d A n c ls) (f : Fr S w w1) (hg : ¬ S gk) (ho : ∀ k, obk A n c = some k → ¬ S k) (hk : ∀ b, K b → ¬ S b) : Dt w1 K gk d A n c ls :=
  ⟨h.ob.fr f hg, h.ow.fr f ho hk, h.kg, h.og, h.ok, h.le⟩
theorem Dt.no (h : Dt w K gk d A n c ls) (f : Fr No w w1) : Dt w1 K gk d A n c ls := h.fr f (fun x => x) (fun _ _ x => x) (fun _ _ x => x)
theorem Dt.cells (h : Dt w K gk d A n c ls) : w.cell? ⟨gk, 0, none⟩ = some (.int .i64 d) ∧ w.cell? ⟨gk, 1, none⟩ = some (.slice A n c) := ⟨h.ob.cell 0 rfl, h.ob.cell 1 rfl⟩
theorem Dt.len (h : Dt w K gk d A n c ls) : n = ls.length := h.ow.rv.len
theorem Dt.sh (h : Dt w K gk d A n c ls) : Short ls := ⟨by have := h.le; omega, fun r hr => by have := recC_len (h.ok r hr); omega⟩
theorem rnew_any (d : Int) : Calls Try.prog 9 #[.int .i64 d] w fun en w' => if 1 ≤ d ∧ d ≤ 6 then (∃ gk, w.heap.size ≤ gk ∧ en = .returned (.tuple #[.pointer (some ⟨gk, 0, none⟩), .int .i64 0]) ∧ Dt w' (fun _ => False) gk d none 0 0 [] ∧ Fr No w w') else (en = .returned (.tuple #[.pointer none, .int .i64 1]) ∧ w = w') := by
  by_cases h1 : d < 1
  · have e : (1 ≤ d ∧ d ≤ 6) = False := by simp; omega
    simp only [e, if_false]
    clear e
    go_enter Try.func9, Try.ntmps9
    go_wp2
    go_ret2
    exact ⟨rfl, rfl⟩
  · by_cases h2 : 6 < d
    · have e : (1 ≤ d ∧ d ≤ 6) = False := by simp; omega
      simp only [e, if_false]
      clear e
      go_enter Try.func9, Try.ntmps9
      go_wp2
      go_ret2
      exact ⟨rfl, rfl⟩
    · have e : (1 ≤ d ∧ d ≤ 6) = True := by simp; omega
      simp only [e, if_true]
      clear e
      go_enter Try.func9, Try.ntmps9
      go_wp2
      go_ret2
      exact ⟨w.heap.size, Nat.le_refl _, rfl, ⟨Ob.new _ _ _, Ow.nil_ _ _ _ _, (fun e => e), (fun e => by cases e), (fun r hr => by simp at hr), by simp⟩, (Fr.refl No w).alloc _⟩
theorem rall_any (h : Dt w K gk d A n c ls) : Calls Try.prog 12 #[.pointer (some ⟨gk, 0, none⟩)] w fun e w' => ∃ A1 n1 c1, e = .returned (.slice A1 n1 c1) ∧ Ow w' w.heap.size 33 (fun b => w.heap.size ≤ b) A1 n1 c1 (sorted ls) ∧ Fr No w w' := by
  obtain ⟨c0, c1⟩ := h.cells
  have hc := sorted_fresh h.ow.rv h.sh
  clear h
  go_enter Try.func12, Try.ntmps12
  go_wp2_with (go_at_call 35; ((with_reducible refine hc.mono ?_); rintro e w6 ⟨A6, n6, c6, rfl, ho6, hf6⟩))
  go_ret
  exact ⟨A6, n6, c6, rfl, ho6, hf6⟩
set_option maxHeartbeats 1600000 in
theorem rfind_any (h : Dt w K gk d A n c ls) (hk : Kv w B m e k) : Calls Try.prog 41 #[.pointer (some ⟨gk, 0, none⟩), .slice B m e] w fun en w' => en = .returned (.int .i64 (if fnd ls k < n then ((fnd ls k : Nat) : Int) else -1)) ∧ Fr No w w' := by
  obtain ⟨c0, c1⟩ := h.cells
  have hn1 : n ≤ 1000 := by have := h.len; have := h.le; omega
  have HL := Lib.hid h.len
  have Hr := Lib.hid h.ow.rv
  have Hk := Lib.hid hk
  obtain ⟨z, hz⟩ : ∃ z : Int, (if fnd ls k < n then ((fnd ls k : Nat) : Int) else -1) = z := ⟨_, rfl⟩
  rw [hz]
  have Hz := Lib.hid hz
  clear h hk hz
  go_enter Try.func41, Try.ntmps41
  go_wp2
  go_loopw [5] (fun v wr => ∃ i : Nat, v = .int .i64 i ∧ Hid (i ≤ n ∧ (∀ j, j < i → isNot k (ls.getD j rec0) = true) ∧ Fr No w wr)) (fun v _ => n - (intOf v).toNat)
  case atStart => exact ⟨0, rfl, Lib.hid ⟨Nat.zero_le _, fun j hj => by omega, Fr.refl _ _⟩⟩
  case round =>
    obtain ⟨i, rfl, Hi⟩ := hrel
    have d1 := cel_no c1 Hi.out.2.2
    by_cases hlt : i < n
    · obtain ⟨b, off, KA, kc, rfl, a0, a1, hka, hza⟩ := (Hr.out.no Hi.out.2.2).get i (by rw [← HL.out]; exact hlt)
      have Hlt := Lib.hid hlt
      have Hyes := Lib.hid (show isNot k (ls.getD i rec0) = true → ∀ j, j < i + 1 → isNot k (ls.getD j rec0) = true from fun h j hj => by
        by_cases e : j = i
        · subst e; exact h
        · exact Hi.out.2.1 j (by omega))
      have Hno := Lib.hid (show isNot k (ls.getD i rec0) = false → fnd ls k = i from fun h => firstOut_eq _ ls i (by rw [← HL.out]; omega) Hi.out.2.1 (fun _ => h))
      have Hkw := Lib.hid (Hk.out.no Hi.out.2.2)
      generalize ls.getD i rec0 = r at *
      obtain ⟨qs, s⟩ := r
      simp only at *
      have Hka := Lib.hid hka
      clear hka
      cases hc : (cmp qs k == 0) with
      | true =>
        have Hc := Lib.hid hc
        have Hn := Lib.hid (Hno.out (by rw [cmp_eqB] at hc; unfold isNot; rw [hc]; rfl))
        clear hc
        go_wp2_with (go_at_call 33; ((with_reducible refine (Go.Proofs.Yteckbcfigklkpaa.Kd08.same (a := qs) (b := k) Hka.out Hkw.out).mono ?_); rintro e w5 ⟨rfl, hf5⟩; rw [Hc.out]))
        go_ret
        exact ⟨by rw [← Hz.out, Hn.out, if_pos Hlt.out]; rfl, Hi.out.2.2.tr hf5⟩
      | false =>
        have Hc := Lib.hid hc
        have Hy := Lib.hid (Hyes.out (by rw [cmp_eqB] at hc; unfold isNot; rw [hc]; rfl))
        clear hc
        go_wp2_with (go_at_call 33; ((with_reducible refine (Go.Proofs.Yteckbcfigklkpaa.Kd08.same (a := qs) (b := k) Hka.out Hkw.out).mono ?_); rintro e w5 ⟨rfl, hf5⟩; rw [Hc.out]))
        go_roundw
        case rel => exact ⟨i + 1, by go_num, Lib.hid ⟨Hlt.out, Hy.out, Hi.out.2.2.tr hf5⟩⟩
        case measure => have := Hlt.out; simp [intOf]; omega
    · obtain rfl : i = n := by have := Hi.out.1; omega
      have Hn := Lib.hid (show fnd ls k = i from firstOut_eq _ ls i (by rw [← HL.out]; omega) Hi.out.2.1 (fun h => by have := HL.out; omega))
      go_wp2
      go_ret
      exact ⟨by rw [← Hz.out, Hn.out, if_neg (by omega)]; rfl, Hi.out.2.2⟩
/-- What the document's Put leaves of the records. -/
def dput (ls : List Rv.Rec) (r : Rv.Rec) : List Rv.Rec := if fnd ls r.1 < ls.length then ls.take (fnd ls r.1) ++ ((ls.getD (fnd ls r.1) rec0).1, r.2) :: ls.drop (fnd ls r.1 + 1) else ls ++ [r]
theorem fnd_at (h : fnd ls k < ls.length) : (ls.getD (fnd ls k) rec0).1 = k := by
  have e : isNot k (ls.getD (fnd ls k) rec0) = false := firstOut_at (isNot k) ls h
  generalize ls.getD (fnd ls k) rec0 = r at *
  simpa [isNot] using e
theorem dput_ok {r0 : Rv.Rec} (h : ∀ r ∈ ls, recC r.1.length r.2 d = 0) (hr : recC r0.1.length r0.2 d = 0) : (∀ r ∈ dput ls r0, recC r.1.length r.2 d = 0) ∧ (dput ls r0).length ≤ ls.length + 1 := by
  unfold dput
  split
  · rename_i hi
    refine ⟨fun x hx => ?_, by rw [List.length_append, List.length_cons, List.length_take, List.length_drop]; omega⟩
    rcases List.mem_append.1 hx with h1 | h1
    · exact h x (List.mem_of_mem_take h1)
    · rcases List.mem_cons.1 h1 with h1 | h1
      · subst h1
        simp only [fnd_at hi]; exact hr
      · exact h x (List.mem_of_mem_drop h1)
  · refine ⟨fun x hx => ?_, by simp⟩
    rcases List.mem_append.1 hx with h1 | h1
    · exact h x h1
    · rw [List.mem_singleton.1 h1]; exact hr
/-- What a change leaves. -/
def DPost (w : World) (K : Nat → Prop) (gk : Nat) (d : Int) (A : Option Addr) (n c : Nat) (out : List Rv.Rec) (ex : Int) (en : Ending) (w' : World) : Prop :=
  en = .returned (.int .i64 ex) ∧ (∃ (K' : Nat → Prop) (A' : Option Addr) (n' c' : Nat), Dt w' K' gk d A' n' c' out ∧ (∀ b, K' b → K b ∨ w.heap.size ≤ b) ∧ (∀ k, obk A' n' c' = some k → obk A n c = some k ∨ w.heap.size ≤ k)) ∧ Fr (fun b => b = gk ∨ obk A n c = some b) w w'
set_option maxHeartbeats 1600000 in
theorem rput_no (h : Dt w K gk d A n c ls) (hsz : s.size ≤ maxLen) (hr : recC m s d = 1) : Calls Try.prog 17 #[.pointer (some ⟨gk, 0, none⟩), .agg #[.slice B m e, .string s]] w (DPost w K gk d A n c ls 1) := by
  have H := Lib.hid h
  obtain ⟨c0, c1⟩ := h.cells
  have hga := h.ob.lt
  have Hr := Lib.hid hr
  clear h hr
  go_enter Try.func17, Try.ntmps17
  go_wp2
  (refine wp_region_held_drew (S := fun w' => (w'.cell? ⟨w.heap.size, 0, none⟩ = some (.slice B m e) ∧ w'.cell? ⟨w.heap.size, 1, none⟩ = some (.string s)) ∧ w'.cell? ⟨gk, 0, none⟩ = some (.int .i64 d)) (by kernel_rfl) ?_ (fun hHeld => ?_); focus ((try dsimp only); (refine ⟨cells2 (t := 33) ?_, ?_⟩; (repeat (first | with_reducible assumption | with_reducible refine Ob.other ?_ (by first | (simp; done) | (simp; omega)) _ | ((with_reducible refine Ob.new_ _ _ _ _ ?_) <;> (simp; done)) | with_reducible refine Ob.alloc ?_ _ | with_reducible refine Ob.drew ?_ | with_reducible refine Ob.drewN ?_ _ | with_reducible refine Ob.no ?_ (by assumption))); (repeat (first | with_reducible assumption | with_reducible refine cel_alloc ?_ _ | with_reducible refine cel_drew ?_ | with_reducible refine cel_drewN ?_ _ | with_reducible refine cel_set ?_ (by first | (simp; done) | (simp; omega)) _ | with_reducible refine cel_no ?_ (by assumption)))); done))
  ((refine wpAnyH_take (i := 0) (v := ?_) rfl (by kernel_rfl) (by kernel_rfl) (by kernel_rfl) (fun _ _ _ h => h) (Or.inl ⟨by rfl, ?_⟩) (by assumption) ?_; rotate_left; focus (intro w hSw; (try dsimp only at hSw); go_simp; (try with_reducible rfl); done)); (try simp only [Act.put, List.setIfInBounds_toArray, List.set_cons_zero, List.set_cons_succ, List.getElem_toArray, List.getElem_cons_zero, List.getElem_cons_succ]); (refine wpAnyH_take (i := 1) (v := ?_) rfl (by kernel_rfl) (by kernel_rfl) (by kernel_rfl) (fun _ _ _ h => h) (Or.inl ⟨by rfl, ?_⟩) (by assumption) ?_; rotate_left; focus (intro w hSw; (try dsimp only at hSw); go_simp; (try with_reducible rfl); done)); (try simp only [Act.put, List.setIfInBounds_toArray, List.set_cons_zero, List.set_cons_succ, List.getElem_toArray, List.getElem_cons_zero, List.getElem_cons_succ]); (refine wpAnyH_take (i := 2) (v := ?_) rfl (by kernel_rfl) (by kernel_rfl) (by kernel_rfl) (fun _ _ _ h => h) (Or.inl ⟨by rfl, ?_⟩) (by assumption) ?_; rotate_left; focus (intro w hSw; (try dsimp only at hSw); go_simp; (try with_reducible rfl); done)); (try simp only [Act.put, List.setIfInBounds_toArray, List.set_cons_zero, List.set_cons_succ, List.getElem_toArray, List.getElem_cons_zero, List.getElem_cons_succ]); (refine wpAnyH_take (i := 3) (v := ?_) rfl (by kernel_rfl) (by kernel_rfl) (by kernel_rfl) (fun _ _ _ h => h) (Or.inl ⟨by rfl, ?_⟩) (by assumption) ?_; rotate_left; focus (intro w hSw; (try dsimp only at hSw); go_simp; (try with_reducible rfl); done)); (try simp only [Act.put, List.setIfInBounds_toArray, List.set_cons_zero, List.set_cons_succ, List.getElem_toArray, List.getElem_cons_zero, List.getElem_cons_succ]); (refine wpAnyH_take (i := 4) (v := ?_) rfl (by kernel_rfl) (by kernel_rfl) (by kernel_rfl) (fun _ _ _ h => h) (Or.inl ⟨by rfl, ?_⟩) (by assumption) ?_; rotate_left; focus (intro w hSw; (try dsimp only at hSw); go_simp; (try with_reducible rfl); done)); (try simp only [Act.put, List.setIfInBounds_toArray, List.set_cons_zero, List.set_cons_succ, List.getElem_toArray, List.getElem_cons_zero, List.getElem_cons_succ]))
  (refine wpAnyH_ready (rs := [5]) (by kernel_rfl) (by simp) ?_; refine AllReadyH.cons rfl (fun K hK => ?_) AllReadyH.nil; (try simp only [Act.put, List.setIfInBounds_toArray, List.set_cons_zero, List.set_cons_succ, List.getElem_toArray, List.getElem_cons_zero, List.getElem_cons_succ]); go_simp; (go_at_call 15; ((with_reducible refine (rrcheck_any _ hsz).mono ?_); rintro en w5 ⟨rfl, hf5⟩; rw [Hr.out])); (try go_wp2_with fail); refine hK.out _ _ ?_ (fun hHeld => ?_); focus ((try dsimp only); (refine ⟨cells2 (t := 33) ?_, ?_⟩; (repeat (first | with_reducible assumption | with_reducible refine Ob.other ?_ (by first | (simp; done) | (simp; omega)) _ | ((with_reducible refine Ob.new_ _ _ _ _ ?_) <;> (simp; done)) | with_reducible refine Ob.alloc ?_ _ | with_reducible refine Ob.drew ?_ | with_reducible refine Ob.drewN ?_ _ | with_reducible refine Ob.no ?_ (by assumption))); (repeat (first | with_reducible assumption | with_reducible refine cel_alloc ?_ _ | with_reducible refine cel_drew ?_ | with_reducible refine cel_drewN ?_ _ | with_reducible refine cel_set ?_ (by first | (simp; done) | (simp; omega)) _ | with_reducible refine cel_no ?_ (by assumption)))); done)); (clear hK K); (try simp only [Act.put, List.setIfInBounds_toArray, List.set_cons_zero, List.set_cons_succ, List.getElem_toArray, List.getElem_cons_zero, List.getElem_cons_succ])
  (refine wpAnyH_take (i := 6) (v := ?_) rfl (by kernel_rfl) (by kernel_rfl) (by kernel_rfl) (fun _ _ _ h => h) (Or.inl ⟨by rfl, ?_⟩) (by assumption) ?_; rotate_left; focus (intro w hSw; (try dsimp only at hSw); go_simp; (try with_reducible rfl); done)); (try simp only [Act.put, List.setIfInBounds_toArray, List.set_cons_zero, List.set_cons_succ, List.getElem_toArray, List.getElem_cons_zero, List.getElem_cons_succ])
  (refine wpAnyH_done (by kernel_rfl) ?_ _)
  go_wp2
  go_ret
  have hf : Fr No w w5 := ((Fr.refl No w).alloc _).drew.tr hf5
  exact ⟨rfl, ⟨K, A, n, c, H.out.no hf, fun b hb => .inl hb, fun k hk => .inl hk⟩, hf.mono (fun b e => e.elim)⟩
set_option maxHeartbeats 1600000 in
theorem rput_over (h : Dt w K gk d A n c ls) (hk : Kv w B ks.length e ks) (hsz : s.size ≤ maxLen) (hr : recC ks.length s d = 0) (hfi : fnd ls ks < ls.length) : Calls Try.prog 17 #[.pointer (some ⟨gk, 0, none⟩), .agg #[.slice B ks.length e, .string s]] w (DPost w K gk d A n c (dput ls (ks, s)) 0) := by
  obtain ⟨c0, c1⟩ := h.cells
  have hga := h.ob.lt
  have hin : fnd ls ks < n := by rw [h.len]; exact hfi
  have hn1 : n ≤ 1000 := by have := h.len; have := h.le; omega
  have hp : dput ls (ks, s) = ls.take (fnd ls ks) ++ ((ls.getD (fnd ls ks) rec0).1, s) :: ls.drop (fnd ls ks + 1) := by
    unfold dput; rw [if_pos hfi]
  obtain ⟨h4, h5⟩ := dput_ok (ls := ls) (r0 := (ks, s)) h.ok hr
  have hlen : (dput ls (ks, s)).length ≤ 1000 := by
    rw [hp, List.length_append, List.length_cons, List.length_take, List.length_drop]
    have := h.le; omega
  have HC := Lib.hid (show (∀ r ∈ dput ls (ks, s), recC r.1.length r.2 d = 0) ∧ (dput ls (ks, s)).length ≤ 1000 from ⟨h4, hlen⟩)
  obtain ⟨g, KA, kc, hA, _, a0, a1, f0, f1, _, _⟩ := h.ow.cells (fnd ls ks) hin
  subst hA
  have hgo : g ≠ gk := fun e => h.og (by rw [e]; rfl)
  have hgl : g < w.heap.size := (h.ow.blk g rfl).2
  have HD := Lib.hid (fun W (hW : Fr No w W) => by
    have := store_data (h.no hW).ow hin hsz
    rw [← hp] at this
    exact this)
  have H := Lib.hid h
  have Hk := Lib.hid hk
  have Hr := Lib.hid hr
  have HF := Lib.hid (fun W (hW : Fr No w W) (hkW : Kv W B ks.length e ks) => rfind_any (h.no hW) hkW)
  rw [if_pos hin] at HF
  have Hrun := Lib.hid a1
  clear h hk hr hfi hp h4 h5 hlen a0
  generalize dput ls (ks, s) = out at *
  generalize fnd ls ks = i at *
  generalize ls.getD i rec0 = r0 at *
  go_enter Try.func17, Try.ntmps17
  go_wp2
  (refine wp_region_held_drew (S := fun w' => (w'.cell? ⟨w.heap.size, 0, none⟩ = some (.slice B ks.length e) ∧ w'.cell? ⟨w.heap.size, 1, none⟩ = some (.string s)) ∧ w'.cell? ⟨gk, 0, none⟩ = some (.int .i64 d)) (by kernel_rfl) ?_ (fun hHeld => ?_); focus ((try dsimp only); (refine ⟨cells2 (t := 33) ?_, ?_⟩; (repeat (first | with_reducible assumption | with_reducible refine Ob.other ?_ (by first | (simp; done) | (simp; omega)) _ | ((with_reducible refine Ob.new_ _ _ _ _ ?_) <;> (simp; done)) | with_reducible refine Ob.alloc ?_ _ | with_reducible refine Ob.drew ?_ | with_reducible refine Ob.drewN ?_ _ | with_reducible refine Ob.no ?_ (by assumption))); (repeat (first | with_reducible assumption | with_reducible refine cel_alloc ?_ _ | with_reducible refine cel_drew ?_ | with_reducible refine cel_drewN ?_ _ | with_reducible refine cel_set ?_ (by first | (simp; done) | (simp; omega)) _ | with_reducible refine cel_no ?_ (by assumption)))); done))
  ((refine wpAnyH_take (i := 0) (v := ?_) rfl (by kernel_rfl) (by kernel_rfl) (by kernel_rfl) (fun _ _ _ h => h) (Or.inl ⟨by rfl, ?_⟩) (by assumption) ?_; rotate_left; focus (intro w hSw; (try dsimp only at hSw); go_simp; (try with_reducible rfl); done)); (try simp only [Act.put, List.setIfInBounds_toArray, List.set_cons_zero, List.set_cons_succ, List.getElem_toArray, List.getElem_cons_zero, List.getElem_cons_succ]); (refine wpAnyH_take (i := 1) (v := ?_) rfl (by kernel_rfl) (by kernel_rfl) (by kernel_rfl) (fun _ _ _ h => h) (Or.inl ⟨by rfl, ?_⟩) (by assumption) ?_; rotate_left; focus (intro w hSw; (try dsimp only at hSw); go_simp; (try with_reducible rfl); done)); (try simp only [Act.put, List.setIfInBounds_toArray, List.set_cons_zero, List.set_cons_succ, List.getElem_toArray, List.getElem_cons_zero, List.getElem_cons_succ]); (refine wpAnyH_take (i := 2) (v := ?_) rfl (by kernel_rfl) (by kernel_rfl) (by kernel_rfl) (fun _ _ _ h => h) (Or.inl ⟨by rfl, ?_⟩) (by assumption) ?_; rotate_left; focus (intro w hSw; (try dsimp only at hSw); go_simp; (try with_reducible rfl); done)); (try simp only [Act.put, List.setIfInBounds_toArray, List.set_cons_zero, List.set_cons_succ, List.getElem_toArray, List.getElem_cons_zero, List.getElem_cons_succ]); (refine wpAnyH_take (i := 3) (v := ?_) rfl (by kernel_rfl) (by kernel_rfl) (by kernel_rfl) (fun _ _ _ h => h) (Or.inl ⟨by rfl, ?_⟩) (by assumption) ?_; rotate_left; focus (intro w hSw; (try dsimp only at hSw); go_simp; (try with_reducible rfl); done)); (try simp only [Act.put, List.setIfInBounds_toArray, List.set_cons_zero, List.set_cons_succ, List.getElem_toArray, List.getElem_cons_zero, List.getElem_cons_succ]); (refine wpAnyH_take (i := 4) (v := ?_) rfl (by kernel_rfl) (by kernel_rfl) (by kernel_rfl) (fun _ _ _ h => h) (Or.inl ⟨by rfl, ?_⟩) (by assumption) ?_; rotate_left; focus (intro w hSw; (try dsimp only at hSw); go_simp; (try with_reducible rfl); done)); (try simp only [Act.put, List.setIfInBounds_toArray, List.set_cons_zero, List.set_cons_succ, List.getElem_toArray, List.getElem_cons_zero, List.getElem_cons_succ]))
  (refine wpAnyH_ready (rs := [5]) (by kernel_rfl) (by simp) ?_; refine AllReadyH.cons rfl (fun K hK => ?_) AllReadyH.nil; (try simp only [Act.put, List.setIfInBounds_toArray, List.set_cons_zero, List.set_cons_succ, List.getElem_toArray, List.getElem_cons_zero, List.getElem_cons_succ]); go_simp; (go_at_call 15; ((with_reducible refine (rrcheck_any _ hsz).mono ?_); rintro en w5 ⟨rfl, hf5⟩; rw [Hr.out])); (try go_wp2_with fail); refine hK.out _ _ ?_ (fun hHeld => ?_); focus ((try dsimp only); (refine ⟨cells2 (t := 33) ?_, ?_⟩; (repeat (first | with_reducible assumption | with_reducible refine Ob.other ?_ (by first | (simp; done) | (simp; omega)) _ | ((with_reducible refine Ob.new_ _ _ _ _ ?_) <;> (simp; done)) | with_reducible refine Ob.alloc ?_ _ | with_reducible refine Ob.drew ?_ | with_reducible refine Ob.drewN ?_ _ | with_reducible refine Ob.no ?_ (by assumption))); (repeat (first | with_reducible assumption | with_reducible refine cel_alloc ?_ _ | with_reducible refine cel_drew ?_ | with_reducible refine cel_drewN ?_ _ | with_reducible refine cel_set ?_ (by first | (simp; done) | (simp; omega)) _ | with_reducible refine cel_no ?_ (by assumption)))); done)); (clear hK K); (try simp only [Act.put, List.setIfInBounds_toArray, List.set_cons_zero, List.set_cons_succ, List.getElem_toArray, List.getElem_cons_zero, List.getElem_cons_succ])
  (refine wpAnyH_take (i := 6) (v := ?_) rfl (by kernel_rfl) (by kernel_rfl) (by kernel_rfl) (fun _ _ _ h => h) (Or.inl ⟨by rfl, ?_⟩) (by assumption) ?_; rotate_left; focus (intro w hSw; (try dsimp only at hSw); go_simp; (try with_reducible rfl); done)); (try simp only [Act.put, List.setIfInBounds_toArray, List.set_cons_zero, List.set_cons_succ, List.getElem_toArray, List.getElem_cons_zero, List.getElem_cons_succ])
  (refine wpAnyH_done (by kernel_rfl) ?_ _)
  have hf05 : Fr No w w5 := ((Fr.refl No w).alloc _).drew.tr hf5
  have hob5 := ((Ob.new w #[.slice B ks.length e, .string s] 33).drew).no hf5
  obtain ⟨b0, b1⟩ := cells2 hob5
  go_wp2_with (go_at_call 41; ((with_reducible refine (HF.out w5 hf05 (Hk.out.no hf05)).mono ?_); rintro en w6 ⟨rfl, hf6⟩))
  have hf06 := hf05.tr hf6
  have d1 := cel_no c1 hf06
  have x1 := cel_no Hrun.out hf06
  have x2 := hf06.bcell.2 g (i * 2 + 1) hgl
  rw [f1] at x2
  obtain ⟨y0, y1⟩ := cells2 (hob5.no hf6)
  have hne1 : w.heap.size ≠ g := by omega
  have hn1' : n ≤ 1000 := hn1
  (refine wp_region_held_drew (S := fun w' => w'.cell? ⟨gk, 1, none⟩ = some (.slice (some ⟨g, 0, none⟩) n c) ∧ w'.cell? ⟨w.heap.size, 1, none⟩ = some (.string s)) (by kernel_rfl) ?_ (fun hHeld => ?_); focus ((try dsimp only); (refine ⟨?_, ?_⟩; (repeat (first | with_reducible assumption | with_reducible refine cel_alloc ?_ _ | with_reducible refine cel_drew ?_ | with_reducible refine cel_drewN ?_ _ | with_reducible refine cel_set ?_ (by first | (simp; done) | (simp; omega)) _ | with_reducible refine cel_no ?_ (by assumption))); (repeat (first | with_reducible assumption | with_reducible refine cel_alloc ?_ _ | with_reducible refine cel_drew ?_ | with_reducible refine cel_drewN ?_ _ | with_reducible refine cel_set ?_ (by first | (simp; done) | (simp; omega)) _ | with_reducible refine cel_no ?_ (by assumption)))); done))
  ((refine wpAnyH_take (i := 0) (v := ?_) rfl (by kernel_rfl) (by kernel_rfl) (by kernel_rfl) (fun _ _ _ h => h) (Or.inl ⟨by rfl, ?_⟩) (by assumption) ?_; rotate_left; focus (intro w hSw; (try dsimp only at hSw); go_simp; (try with_reducible rfl); done)); (try simp only [Act.put, List.setIfInBounds_toArray, List.set_cons_zero, List.set_cons_succ, List.getElem_toArray, List.getElem_cons_zero, List.getElem_cons_succ]); (refine wpAnyH_take (i := 1) (v := ?_) rfl (by kernel_rfl) (by kernel_rfl) (by kernel_rfl) (fun _ _ _ h => h) (Or.inl ⟨by rfl, ?_⟩) (by assumption) ?_; rotate_left; focus (intro w hSw; (try dsimp only at hSw); go_simp; (try with_reducible rfl); done)); (try simp only [Act.put, List.setIfInBounds_toArray, List.set_cons_zero, List.set_cons_succ, List.getElem_toArray, List.getElem_cons_zero, List.getElem_cons_succ]); (refine wpAnyH_take (i := 2) (v := ?_) rfl (by kernel_rfl) (by kernel_rfl) (by kernel_rfl) (fun _ _ _ h => h) (Or.inl ⟨by rfl, ?_⟩) (by assumption) ?_; rotate_left; focus (intro w hSw; (try dsimp only at hSw); go_simp; (try with_reducible rfl); done)); (try simp only [Act.put, List.setIfInBounds_toArray, List.set_cons_zero, List.set_cons_succ, List.getElem_toArray, List.getElem_cons_zero, List.getElem_cons_succ]); (refine wpAnyH_take (i := 3) (v := ?_) rfl (by kernel_rfl) (by kernel_rfl) (by kernel_rfl) (fun _ _ _ h => h) (Or.inl ⟨by rfl, ?_⟩) (by assumption) ?_; rotate_left; focus (intro w hSw; (try dsimp only at hSw); go_simp; (try with_reducible rfl); done)); (try simp only [Act.put, List.setIfInBounds_toArray, List.set_cons_zero, List.set_cons_succ, List.getElem_toArray, List.getElem_cons_zero, List.getElem_cons_succ]); (refine wpAnyH_take (i := 4) (v := ?_) rfl (by kernel_rfl) (by kernel_rfl) (by kernel_rfl) (fun _ _ _ h => h) (Or.inl ⟨by rfl, ?_⟩) (by assumption) ?_; rotate_left; focus (intro w hSw; (try dsimp only at hSw); go_simp; (try with_reducible rfl); done)); (try simp only [Act.put, List.setIfInBounds_toArray, List.set_cons_zero, List.set_cons_succ, List.getElem_toArray, List.getElem_cons_zero, List.getElem_cons_succ]); (refine wpAnyH_take (i := 5) (v := ?_) rfl (by kernel_rfl) (by kernel_rfl) (by kernel_rfl) (fun _ _ _ h => h) (Or.inl ⟨by rfl, ?_⟩) (by assumption) ?_; rotate_left; focus (intro w hSw; (try dsimp only at hSw); go_simp; (try with_reducible rfl); done)); (try simp only [Act.put, List.setIfInBounds_toArray, List.set_cons_zero, List.set_cons_succ, List.getElem_toArray, List.getElem_cons_zero, List.getElem_cons_succ]); (refine wpAnyH_take (i := 6) (v := ?_) rfl (by kernel_rfl) (by kernel_rfl) (by kernel_rfl) (fun _ _ _ h => h) (Or.inl ⟨by rfl, ?_⟩) (by assumption) ?_; rotate_left; focus (intro w hSw; (try dsimp only at hSw); go_simp; (try with_reducible rfl); done)); (try simp only [Act.put, List.setIfInBounds_toArray, List.set_cons_zero, List.set_cons_succ, List.getElem_toArray, List.getElem_cons_zero, List.getElem_cons_succ]); (refine wpAnyH_take (i := 7) (v := ?_) rfl (by kernel_rfl) (by kernel_rfl) (by kernel_rfl) (fun _ _ _ h => h) (Or.inl ⟨by rfl, ?_⟩) (by assumption) ?_; rotate_left; focus (intro w hSw; (try dsimp only at hSw); go_simp; (try with_reducible rfl); done)); (try simp only [Act.put, List.setIfInBounds_toArray, List.set_cons_zero, List.set_cons_succ, List.getElem_toArray, List.getElem_cons_zero, List.getElem_cons_succ]); (refine wpAnyH_take (i := 8) (v := ?_) rfl (by kernel_rfl) (by kernel_rfl) (by kernel_rfl) (fun _ _ _ h => h) (Or.inl ⟨by rfl, ?_⟩) (by assumption) ?_; rotate_left; focus (intro w hSw; (try dsimp only at hSw); go_simp; (try with_reducible rfl); done)); (try simp only [Act.put, List.setIfInBounds_toArray, List.set_cons_zero, List.set_cons_succ, List.getElem_toArray, List.getElem_cons_zero, List.getElem_cons_succ]))
  (refine wpAnyH_ready (rs := [9]) (by kernel_rfl) (by simp) ?_; refine AllReadyH.cons rfl (fun K hK => ?_) AllReadyH.nil; (try simp only [Act.put, List.setIfInBounds_toArray, List.set_cons_zero, List.set_cons_succ, List.getElem_toArray, List.getElem_cons_zero, List.getElem_cons_succ]); go_simp; refine hK.out _ _ ?_ (fun hHeld => ?_); focus ((try dsimp only); (refine ⟨?_, ?_⟩; (repeat (first | with_reducible assumption | with_reducible refine cel_alloc ?_ _ | with_reducible refine cel_drew ?_ | with_reducible refine cel_drewN ?_ _ | with_reducible refine cel_set ?_ (by first | (simp; done) | (simp; omega)) _ | with_reducible refine cel_no ?_ (by assumption))); (repeat (first | with_reducible assumption | with_reducible refine cel_alloc ?_ _ | with_reducible refine cel_drew ?_ | with_reducible refine cel_drewN ?_ _ | with_reducible refine cel_set ?_ (by first | (simp; done) | (simp; omega)) _ | with_reducible refine cel_no ?_ (by assumption)))); done)); (clear hK K); (try simp only [Act.put, List.setIfInBounds_toArray, List.set_cons_zero, List.set_cons_succ, List.getElem_toArray, List.getElem_cons_zero, List.getElem_cons_succ])
  (refine wpAnyH_done (by kernel_rfl) ?_ _)
  go_wp2
  go_ret
  have how := HD.out w6 hf06
  refine ⟨rfl, ⟨K, some ⟨g, 0, none⟩, n, c, ⟨((H.out.ob.no hf06).other (by simp; omega) _).drew, how.drew, H.out.kg, H.out.og, HC.out.1, HC.out.2⟩, fun b hb => .inl hb, fun k hk => .inl hk⟩, ?_⟩
  exact ((hf06.mono (fun b e => e.elim)).setCell (p := ⟨g, i * 2 + 1, none⟩) (.inl (.inr rfl)) _).drew
end
end Go.Proofs.Yteckbcfigklkpaa.Ao09
