/- Layer 12: the document's scale made; where a number is; how many intervals there are; where a point is. -/
import Derived.Test.YtifpigcgkpmheaaSi12
import Derived.Test.YtifpigcgkpmheaaGb
import Derived.StillTailTactics
namespace Go.Proofs.Ytifpigcgkpmheaa.Sm12
open Go.RowKit Go.Proofs.Ytifpigcgkpmheaa.Pk08 Go.Proofs.Ytifpigcgkpmheaa.Base Go.Proofs.Ytifpigcgkpmheaa.App Go.Proofs.Ytifpigcgkpmheaa.Str Go.Proofs.Ytifpigcgkpmheaa.Ky Go.Proofs.Ytifpigcgkpmheaa.Iv Go.Proofs.Ytifpigcgkpmheaa.Bx Go.Proofs.Ytifpigcgkpmheaa.Bo Go.Proofs.Ytifpigcgkpmheaa.As Go.Proofs.Ytifpigcgkpmheaa.Ro Go.Proofs.Ytifpigcgkpmheaa.Pl08 Go.Proofs.Ytifpigcgkpmheaa.Kc08 Go.Proofs.Ytifpigcgkpmheaa.Kh08 Go.Proofs.Ytifpigcgkpmheaa.Ki08 Go.Proofs.Ytifpigcgkpmheaa.Ic Go.Proofs.Ytifpigcgkpmheaa.Sa12 Go.Proofs.Ytifpigcgkpmheaa.Sb12 Go.Proofs.Ytifpigcgkpmheaa.Sc12 Go.Proofs.Ytifpigcgkpmheaa.Sd12 Go.Proofs.Ytifpigcgkpmheaa.Sf12 Go.Proofs.Ytifpigcgkpmheaa.Si12
set_option linter.unusedVariables false
set_option linter.unusedSimpArgs false
attribute [local go_sem ↓ high] builtin_app
/-- The document's scale. -/
abbrev Sd (P : Nat → Prop) (w : World) (gs : Nat) (T : Option Addr) (ct : Nat) (qs : List Rw) (rows : List (List Nat)) : Prop := Sc 83 36 P w gs T ct qs rows
theorem info_u32s : (Try.prog.info? 36).map (fun i => (i.zero, i.size, i.bytes)) = some (some (.slice none 0 0), 1, 24) := by kernel_rfl
section
variable {P S : Nat → Prop} {w w1 : World} {gs gt ct n c : Nat} {T A : Option Addr} {qs : List Rw} {rows : List (List Nat)} {x : Nat} {r : List Nat}
theorem rnew_yes (d : Nat) (h1 : 1 ≤ d) (h6 : d ≤ 6) : Calls Try.prog 28 #[.int .i64 (d : Int)] w fun en w' => ∃ gs gt, en = .returned (.tuple #[.pointer (some ⟨gs, 0, none⟩), .int .i64 0]) ∧ w.heap.size ≤ gs ∧ w.heap.size ≤ gt ∧ Sd (fun b => b = gs ∨ b = gt) w' gs (some ⟨gt, 0, none⟩) d (List.replicate d (none, 0)) (List.replicate d []) ∧ Fr No w w' := by
  have hmk : ∀ W : World, (Instr.makeSlice 81 (.int .i64 (d : Int)) (.int .i64 (d : Int))).run Try.prog W = .ok (.slice (some ⟨W.heap.size, 0, none⟩) d d) (W.alloc (.cells (madeCells #[.slice none 0 0] d) 36)) := by
    intro W
    have := run_made (P := Try.prog) 81 36 (.slice none 0 0) 24 Try.underlying81 info_u32s rfl (by decide) d (by omega) (by omega) W
    simpa using this
  have Hl := Lib.hid (made_list (.slice none 0 0) d)
  go_enter Try.func28, Try.ntmps28
  go_wp2
  go_ret2
  exact ⟨w.heap.size + 1, w.heap.size, rfl, by omega, Nat.le_refl _, Sc.made d (by omega) h6 (by (repeat (first | with_reducible assumption | with_reducible refine Ob.other ?_ (by first | (simp; done) | (simp; omega)) _ | ((with_reducible refine Ob.new_ _ _ _ _ ?_) <;> (simp; done)) | with_reducible refine Ob.alloc ?_ _ | with_reducible refine Ob.drew ?_ | with_reducible refine Ob.drewN ?_ _ | with_reducible refine Ob.no ?_ (by assumption)))) ((Ob.new _ _ _).alloc _) Hl.out (by omega), by (repeat (first | with_reducible exact Fr.refl _ _ | with_reducible refine Fr.setCell ?_ (.inr (by first | (simp; done) | (simp; omega))) _ | with_reducible refine Fr.alloc ?_ _ | with_reducible refine Fr.drew ?_ | with_reducible refine Fr.drewN ?_ _ | with_reducible refine Fr.tr ?_ (by assumption)))⟩
theorem rnew_no {z : Int} (h : ¬ (1 ≤ z ∧ z ≤ 6)) : Calls Try.prog 28 #[.int .i64 z] w fun en w' => en = .returned (.tuple #[.pointer none, .int .i64 1]) ∧ w = w' := by
  by_cases h1 : z < 1
  · go_enter Try.func28, Try.ntmps28
    go_wp2
    go_ret2
    exact ⟨rfl, rfl⟩
  · have h2 : 6 < z := by omega
    go_enter Try.func28, Try.ntmps28
    go_wp2
    go_ret2
    exact ⟨rfl, rfl⟩
set_option maxHeartbeats 800000 in
theorem rinterval_any (hk : Kv w A n c r) : Calls Try.prog 59 #[.slice A n c, .int .u32 (x : Int)] w fun e w' => e = .returned (.int .i64 ((itv r x : Nat) : Int)) ∧ w = w' := by
  have Hk := Lib.hid hk
  have hcn := hk.cap
  have hcm := hk.most
  have hmx : maxLen ≤ 9223372036854775807 := by decide
  have HL := Lib.hid hk.len
  clear hk
  go_enter Try.func59, Try.ntmps59
  go_wp2
  go_loopw [5] (fun v wr => ∃ i : Nat, v = .int .i64 i ∧ i ≤ n ∧ Hid ((∀ j, j < i → r.getD j 0 ≤ x) ∧ w = wr)) (fun v _ => n - (intOf v).toNat)
  case atStart => exact ⟨0, rfl, Nat.zero_le _, Lib.hid ⟨fun j hj => by omega, rfl⟩⟩
  case round =>
    obtain ⟨i, rfl, hin, Hi⟩ := hrel
    obtain rfl := Hi.out.2
    by_cases hlt : i < n
    · obtain ⟨b, off, rfl, c0⟩ := Hk.out.get i (by rw [← HL.out]; exact hlt)
      have Hyes := Lib.hid (show r.getD i 0 ≤ x → ∀ j, j < i + 1 → r.getD j 0 ≤ x from fun h j hj => by
        by_cases e : j = i
        · subst e; exact h
        · exact Hi.out.1 j (by omega))
      have Hno := Lib.hid (show ¬ r.getD i 0 ≤ x → itv r x = i from fun h => itv_eq r x i (by rw [← HL.out]; omega) Hi.out.1 (fun _ => by omega))
      generalize r.getD i 0 = y at *
      by_cases hxy : y ≤ x
      · have hm := Lib.hid (Hyes.out hxy)
        go_wp2
        go_roundw
        case rel => exact ⟨i + 1, by go_num, hlt, Lib.hid ⟨hm.out, trivial⟩⟩
        case measure => simp [intOf]; omega
      · have hm := Lib.hid (Hno.out hxy)
        have hd : decide (y ≤ x) = false := decide_eq_false hxy
        go_wp2
        go_ret
        exact ⟨by rw [hm.out]; rfl, rfl⟩
    · obtain rfl : i = n := by omega
      have hm := Lib.hid (show itv r x = i from itv_eq r x i (by rw [← HL.out]; exact Nat.le_refl _) Hi.out.1 (fun h => by have := HL.out; omega))
      go_wp2
      go_ret
      exact ⟨by rw [hm.out]; rfl, rfl⟩
set_option maxHeartbeats 800000 in
theorem rsizes_any (h : Sr w gs T ct rows) (hg : Gd rows) : Calls Try.prog 15 #[.pointer (some ⟨gs, 0, none⟩)] w fun en w' => ∃ A n c, en = .returned (.slice A n c) ∧ Iv w' A n c (sizesL rows) ∧ Fr No w w' := by
  have c0 := h.c0
  have hcap := h.cap
  have hmost := h.most
  have hmx : maxLen ≤ 9223372036854775807 := by decide
  have HS := Lib.hid h
  have HG := Lib.hid hg
  have hl6 := hg.2.1
  have HR := Lib.hid (sizes_rng hg)
  clear h hg
  go_enter Try.func15, Try.ntmps15
  go_wp2
  go_loopw [3, 4] (fun v u wr => ∃ (i : Nat) (A : Option Addr) (c : Nat), u = .int .i64 i ∧ v = .slice A i c ∧ i ≤ rows.length ∧ Hid (wr.ownsRow w.heap.size 3 1 (.slice A i c) i (i64s (sizesL (rows.take i))) ∧ Fr No w wr)) (fun _ u _ => rows.length - (intOf u).toNat)
  case atStart => exact ⟨0, none, 0, rfl, rfl, Nat.zero_le _, Lib.hid ⟨World.ownsRow_nil _ _ _ _, Fr.refl _ _⟩⟩
  case round =>
    obtain ⟨i, A, c, rfl, rfl, hin, Hi⟩ := hrel
    have d0 := cel_no c0 Hi.out.2
    by_cases hlt : i < rows.length
    · obtain ⟨gt, B, cb, rfl, c1, hk⟩ := (HS.out.no Hi.out.2).get i hlt
      have hl63 := (HG.out.row hlt).2.1
      have Htk := Lib.hid (sizes_take hlt)
      generalize (rows.getD i []).length = m at *
      obtain ⟨A1, c2, w1, hrun, hown, hfr, _, _⟩ := push_one (t := 32) Try.underlying32 info_int rfl (by decide) (by decide) Hi.out.1 Hi.out.2.size (.int .i64 ((m : Int) + 1)) rfl (by omega)
      have Hown := Lib.hid hown
      have Hfr := Lib.hid (hfr w (Nat.le_refl _) Hi.out.2)
      clear hown hfr hk
      go_wp2
      go_roundw
      case rel => exact ⟨i + 1, A1, c2, by go_num, rfl, hlt, Lib.hid ⟨by rw [Htk.out]; have := Hown.out; simpa [i64s] using this, Hfr.out⟩⟩
      case measure => simp [intOf]; omega
    · obtain rfl : i = rows.length := by omega
      have HO := Lib.hid Hi.out.1
      rw [List.take_of_length_le (Nat.le_refl _)] at HO
      go_wp2
      go_ret
      exact ⟨A, rows.length, c, rfl, Iv.of_own HO.out HR.out, Hi.out.2⟩
theorem find_take {ks : List Nat} (hl : ks.length = rows.length) {i : Nat} (hi : i < rows.length) : (findL rows ks).take (i + 1) = (findL rows ks).take i ++ [((itv (rows.getD i []) (ks.getD i 0) : Nat) : Int)] := by
  have h2 : i < ks.length := by omega
  rw [List.take_add_one]
  congr 1
  simp [findL, List.getElem?_zipWith, List.getD_eq_getElem?_getD, hi, h2]
set_option maxRecDepth 8000 in
set_option maxHeartbeats 1600000 in
theorem rfind_any {K : Option Addr} {ks : List Nat} (h : Sr w gs T ct rows) (hg : Gd rows) (hk : Kv w K n c ks) (hc : chk n rows.length = 0) : Calls Try.prog 34 #[.pointer (some ⟨gs, 0, none⟩), .slice K n c] w fun en w' => ∃ A n' c', en = .returned (.tuple #[.slice A n' c', .int .i64 0]) ∧ Iv w' A n' c' (findL rows ks) ∧ Fr No w w' := by
  have c0 := h.c0
  have hcap := h.cap
  have hmost := h.most
  have hmx : maxLen ≤ 9223372036854775807 := by decide
  have hnr : n = rows.length := by
    unfold chk at hc
    split at hc
    · rename_i q; omega
    · cases hc
  have hkl : ks.length = rows.length := by rw [← hk.len]; exact hnr
  have HS := Lib.hid h
  have HG := Lib.hid hg
  have HK := Lib.hid hk
  have Hc := Lib.hid hc
  have hl6 := hg.2.1
  have HR := Lib.hid (find_rng hg hkl)
  have HL := Lib.hid hkl
  have hkc := hk.cap
  have hkm := hk.most
  subst hnr
  clear h hg hk hc hkl
  go_enter Try.func34, Try.ntmps34
  go_wp2_with first
    | (go_at_call 16; ((with_reducible refine (rcheck_any _ _ _ _ _).mono ?_); rintro en w1 ⟨rfl, rfl⟩; rw [Hc.out]))
    | fail
  go_loopw [6, 7] (fun v u wr => ∃ (i : Nat) (A : Option Addr) (c : Nat), u = .int .i64 i ∧ v = .slice A i c ∧ i ≤ rows.length ∧ Hid (wr.ownsRow w.heap.size 3 1 (.slice A i c) i (i64s ((findL rows ks).take i)) ∧ Fr No w wr)) (fun _ u _ => rows.length - (intOf u).toNat)
  case atStart => exact ⟨0, none, 0, rfl, rfl, Nat.zero_le _, Lib.hid ⟨World.ownsRow_nil _ _ _ _, Fr.refl _ _⟩⟩
  case round =>
    obtain ⟨i, A, c', rfl, rfl, hin, Hi⟩ := hrel
    have d0 := cel_no c0 Hi.out.2
    by_cases hlt : i < rows.length
    · obtain ⟨gt, B, cb, rfl, c10, hk⟩ := HS.out.get i hlt
      obtain ⟨bk, ok, rfl, ck0⟩ := HK.out.get i (by rw [HL.out]; exact hlt)
      have c1 := cel_no c10 Hi.out.2
      have ck := cel_no ck0 Hi.out.2
      have hm63 := (HG.out.row hlt).2.1
      have Htk := Lib.hid (find_take HL.out hlt)
      have hit : itv (rows.getD i []) (ks.getD i 0) ≤ 63 := Nat.le_trans (itv_le _ _) hm63
      have HI := Lib.hid (fun W (f : Fr No w W) => rinterval_any (x := ks.getD i 0) (hk.no f))
      obtain ⟨A1, c2, w9, hrun, hown, hfr, _, _⟩ := push_one (t := 32) Try.underlying32 info_int rfl (by decide) (by decide) (own_no Hi.out.1 (Fr.refl No wr).drew) (by have := Hi.out.2.size; exact this) (.int .i64 ((itv (rows.getD i []) (ks.getD i 0) : Nat) : Int)) rfl (by omega)
      have Hown := Lib.hid hown
      have Hfr := Lib.hid (hfr w (Nat.le_refl _) Hi.out.2.drew)
      have x0 := cel_no c0 Hfr.out
      have x1 := cel_no c10 Hfr.out
      have x2 := cel_no ck0 Hfr.out
      clear hown hfr hk
      generalize (findL rows ks).take i = xs at *
      generalize itv (rows.getD i []) (ks.getD i 0) = p at *
      generalize ks.getD i 0 = y at *
      generalize (rows.getD i []).length = m at *
      have hrun2 : (appSem #[32, 32] 32 #[.slice A i c', .slice (some ⟨wr.heap.size, 0, none⟩) 1 1]).run Try.prog ((wr.alloc (.cells #[.int .i64 (p : Int)] 3)).drew) = .ok (.slice A1 (i + 1) c2) w9 := hrun
      go_wp2
      (refine wp_region_held_drew (S := fun w' => w'.cell? ⟨gs, 0, none⟩ = some (.slice (some ⟨gt, 0, none⟩) rows.length ct) ∧ w'.cell? ⟨gt, i, none⟩ = some (.slice B m cb) ∧ w'.cell? ⟨bk, ok + i, none⟩ = some (.int .u32 (y : Int))) (by kernel_rfl) ?_ (fun hHeld => ?_); focus ((try dsimp only); (refine ⟨?_, ?_, ?_⟩; (repeat (first | with_reducible assumption | with_reducible refine cel_alloc ?_ _ | with_reducible refine cel_drew ?_ | with_reducible refine cel_drewN ?_ _ | with_reducible refine cel_set ?_ (by first | (simp; done) | (simp; omega)) _ | with_reducible refine cel_no ?_ (by assumption))); (repeat (first | with_reducible assumption | with_reducible refine cel_alloc ?_ _ | with_reducible refine cel_drew ?_ | with_reducible refine cel_drewN ?_ _ | with_reducible refine cel_set ?_ (by first | (simp; done) | (simp; omega)) _ | with_reducible refine cel_no ?_ (by assumption))); (repeat (first | with_reducible assumption | with_reducible refine cel_alloc ?_ _ | with_reducible refine cel_drew ?_ | with_reducible refine cel_drewN ?_ _ | with_reducible refine cel_set ?_ (by first | (simp; done) | (simp; omega)) _ | with_reducible refine cel_no ?_ (by assumption)))); done))
      ((refine wpAnyH_take (i := 0) (v := ?_) rfl (by kernel_rfl) (by kernel_rfl) (by kernel_rfl) (fun _ _ _ h => h) (Or.inl ⟨by rfl, ?_⟩) (by assumption) ?_; rotate_left; focus (intro w hSw; (try dsimp only at hSw); go_simp; (try with_reducible rfl); done)); (try simp only [Act.put, List.setIfInBounds_toArray, List.set_cons_zero, List.set_cons_succ, List.getElem_toArray, List.getElem_cons_zero, List.getElem_cons_succ]); (refine wpAnyH_take (i := 1) (v := ?_) rfl (by kernel_rfl) (by kernel_rfl) (by kernel_rfl) (fun _ _ _ h => h) (Or.inl ⟨by rfl, ?_⟩) (by assumption) ?_; rotate_left; focus (intro w hSw; (try dsimp only at hSw); go_simp; (try with_reducible rfl); done)); (try simp only [Act.put, List.setIfInBounds_toArray, List.set_cons_zero, List.set_cons_succ, List.getElem_toArray, List.getElem_cons_zero, List.getElem_cons_succ]); (refine wpAnyH_take (i := 2) (v := ?_) rfl (by kernel_rfl) (by kernel_rfl) (by kernel_rfl) (fun _ _ _ h => h) (Or.inl ⟨by rfl, ?_⟩) (by assumption) ?_; rotate_left; focus (intro w hSw; (try dsimp only at hSw); go_simp; (try with_reducible rfl); done)); (try simp only [Act.put, List.setIfInBounds_toArray, List.set_cons_zero, List.set_cons_succ, List.getElem_toArray, List.getElem_cons_zero, List.getElem_cons_succ]); (refine wpAnyH_take (i := 3) (v := ?_) rfl (by kernel_rfl) (by kernel_rfl) (by kernel_rfl) (fun _ _ _ h => h) (Or.inl ⟨by rfl, ?_⟩) (by assumption) ?_; rotate_left; focus (intro w hSw; (try dsimp only at hSw); go_simp; (try with_reducible rfl); done)); (try simp only [Act.put, List.setIfInBounds_toArray, List.set_cons_zero, List.set_cons_succ, List.getElem_toArray, List.getElem_cons_zero, List.getElem_cons_succ]); (refine wpAnyH_take (i := 4) (v := ?_) rfl (by kernel_rfl) (by kernel_rfl) (by kernel_rfl) (fun _ _ _ h => h) (Or.inl ⟨by rfl, ?_⟩) (by assumption) ?_; rotate_left; focus (intro w hSw; (try dsimp only at hSw); go_simp; (try with_reducible rfl); done)); (try simp only [Act.put, List.setIfInBounds_toArray, List.set_cons_zero, List.set_cons_succ, List.getElem_toArray, List.getElem_cons_zero, List.getElem_cons_succ]); (refine wpAnyH_take (i := 5) (v := ?_) rfl (by kernel_rfl) (by kernel_rfl) (by kernel_rfl) (fun _ _ _ h => h) (Or.inl ⟨by rfl, ?_⟩) (by assumption) ?_; rotate_left; focus (intro w hSw; (try dsimp only at hSw); go_simp; (try with_reducible rfl); done)); (try simp only [Act.put, List.setIfInBounds_toArray, List.set_cons_zero, List.set_cons_succ, List.getElem_toArray, List.getElem_cons_zero, List.getElem_cons_succ]); (refine wpAnyH_take (i := 6) (v := ?_) rfl (by kernel_rfl) (by kernel_rfl) (by kernel_rfl) (fun _ _ _ h => h) (Or.inl ⟨by rfl, ?_⟩) (by assumption) ?_; rotate_left; focus (intro w hSw; (try dsimp only at hSw); go_simp; (try with_reducible rfl); done)); (try simp only [Act.put, List.setIfInBounds_toArray, List.set_cons_zero, List.set_cons_succ, List.getElem_toArray, List.getElem_cons_zero, List.getElem_cons_succ]); (refine wpAnyH_take (i := 7) (v := ?_) rfl (by kernel_rfl) (by kernel_rfl) (by kernel_rfl) (fun _ _ _ h => h) (Or.inl ⟨by rfl, ?_⟩) (by assumption) ?_; rotate_left; focus (intro w hSw; (try dsimp only at hSw); go_simp; (try with_reducible rfl); done)); (try simp only [Act.put, List.setIfInBounds_toArray, List.set_cons_zero, List.set_cons_succ, List.getElem_toArray, List.getElem_cons_zero, List.getElem_cons_succ]); (refine wpAnyH_take (i := 8) (v := ?_) rfl (by kernel_rfl) (by kernel_rfl) (by kernel_rfl) (fun _ _ _ h => h) (Or.inl ⟨by rfl, ?_⟩) (by assumption) ?_; rotate_left; focus (intro w hSw; (try dsimp only at hSw); go_simp; (try with_reducible rfl); done)); (try simp only [Act.put, List.setIfInBounds_toArray, List.set_cons_zero, List.set_cons_succ, List.getElem_toArray, List.getElem_cons_zero, List.getElem_cons_succ]); (refine wpAnyH_take (i := 9) (v := ?_) rfl (by kernel_rfl) (by kernel_rfl) (by kernel_rfl) (fun _ _ _ h => h) (Or.inl ⟨by rfl, ?_⟩) (by assumption) ?_; rotate_left; focus (intro w hSw; (try dsimp only at hSw); go_simp; (try with_reducible rfl); done)); (try simp only [Act.put, List.setIfInBounds_toArray, List.set_cons_zero, List.set_cons_succ, List.getElem_toArray, List.getElem_cons_zero, List.getElem_cons_succ]); (refine wpAnyH_take (i := 10) (v := ?_) rfl (by kernel_rfl) (by kernel_rfl) (by kernel_rfl) (fun _ _ _ h => h) (Or.inl ⟨by rfl, ?_⟩) (by assumption) ?_; rotate_left; focus (intro w hSw; (try dsimp only at hSw); go_simp; (try with_reducible rfl); done)); (try simp only [Act.put, List.setIfInBounds_toArray, List.set_cons_zero, List.set_cons_succ, List.getElem_toArray, List.getElem_cons_zero, List.getElem_cons_succ]); (refine wpAnyH_take (i := 11) (v := ?_) rfl (by kernel_rfl) (by kernel_rfl) (by kernel_rfl) (fun _ _ _ h => h) (Or.inl ⟨by rfl, ?_⟩) (by assumption) ?_; rotate_left; focus (intro w hSw; (try dsimp only at hSw); go_simp; (try with_reducible rfl); done)); (try simp only [Act.put, List.setIfInBounds_toArray, List.set_cons_zero, List.set_cons_succ, List.getElem_toArray, List.getElem_cons_zero, List.getElem_cons_succ]))
      (refine wpAnyH_ready (rs := [12]) (by kernel_rfl) (by simp) ?_; refine AllReadyH.cons rfl (fun K hK => ?_) AllReadyH.nil; (try simp only [Act.put, List.setIfInBounds_toArray, List.set_cons_zero, List.set_cons_succ, List.getElem_toArray, List.getElem_cons_zero, List.getElem_cons_succ]); go_simp; (go_at_call 59; ((with_reducible refine (HI.out _ (show Fr No w _ by have this := Hi.out.2; (repeat (first | with_reducible exact Fr.refl _ _ | with_reducible refine Fr.setCell ?_ (.inr (by first | (simp; done) | (simp; omega))) _ | with_reducible refine Fr.alloc ?_ _ | with_reducible refine Fr.drew ?_ | with_reducible refine Fr.drewN ?_ _ | with_reducible refine Fr.tr ?_ (by assumption))))).mono ?_); rintro en w3 ⟨rfl, rfl⟩)); (try go_wp2_with fail); refine hK.out _ _ ?_ (fun hHeld => ?_); focus ((try dsimp only); (refine ⟨?_, ?_, ?_⟩; (repeat (first | with_reducible assumption | with_reducible refine cel_alloc ?_ _ | with_reducible refine cel_drew ?_ | with_reducible refine cel_drewN ?_ _ | with_reducible refine cel_set ?_ (by first | (simp; done) | (simp; omega)) _ | with_reducible refine cel_no ?_ (by assumption))); (repeat (first | with_reducible assumption | with_reducible refine cel_alloc ?_ _ | with_reducible refine cel_drew ?_ | with_reducible refine cel_drewN ?_ _ | with_reducible refine cel_set ?_ (by first | (simp; done) | (simp; omega)) _ | with_reducible refine cel_no ?_ (by assumption))); (repeat (first | with_reducible assumption | with_reducible refine cel_alloc ?_ _ | with_reducible refine cel_drew ?_ | with_reducible refine cel_drewN ?_ _ | with_reducible refine cel_set ?_ (by first | (simp; done) | (simp; omega)) _ | with_reducible refine cel_no ?_ (by assumption)))); done)); (clear hK K); (try simp only [Act.put, List.setIfInBounds_toArray, List.set_cons_zero, List.set_cons_succ, List.getElem_toArray, List.getElem_cons_zero, List.getElem_cons_succ])
      (refine wpAnyH_ready (rs := [13]) (by kernel_rfl) (by simp) ?_; refine AllReadyH.cons rfl (fun K hK => ?_) AllReadyH.nil; (try simp only [Act.put, List.setIfInBounds_toArray, List.set_cons_zero, List.set_cons_succ, List.getElem_toArray, List.getElem_cons_zero, List.getElem_cons_succ]); go_simp; refine hK.out _ _ ?_ (fun hHeld => ?_); focus ((try dsimp only); (refine ⟨?_, ?_, ?_⟩; (repeat (first | with_reducible assumption | with_reducible refine cel_alloc ?_ _ | with_reducible refine cel_drew ?_ | with_reducible refine cel_drewN ?_ _ | with_reducible refine cel_set ?_ (by first | (simp; done) | (simp; omega)) _ | with_reducible refine cel_no ?_ (by assumption))); (repeat (first | with_reducible assumption | with_reducible refine cel_alloc ?_ _ | with_reducible refine cel_drew ?_ | with_reducible refine cel_drewN ?_ _ | with_reducible refine cel_set ?_ (by first | (simp; done) | (simp; omega)) _ | with_reducible refine cel_no ?_ (by assumption))); (repeat (first | with_reducible assumption | with_reducible refine cel_alloc ?_ _ | with_reducible refine cel_drew ?_ | with_reducible refine cel_drewN ?_ _ | with_reducible refine cel_set ?_ (by first | (simp; done) | (simp; omega)) _ | with_reducible refine cel_no ?_ (by assumption)))); done)); (clear hK K); (try simp only [Act.put, List.setIfInBounds_toArray, List.set_cons_zero, List.set_cons_succ, List.getElem_toArray, List.getElem_cons_zero, List.getElem_cons_succ])
      (refine wpAnyH_ready (rs := [14]) (by kernel_rfl) (by simp) ?_; refine AllReadyH.cons rfl (fun K hK => ?_) AllReadyH.nil; (try simp only [Act.put, List.setIfInBounds_toArray, List.set_cons_zero, List.set_cons_succ, List.getElem_toArray, List.getElem_cons_zero, List.getElem_cons_succ]); go_simp; skip; (try go_wp2_with fail); refine hK.out _ _ ?_ (fun hHeld => ?_); focus ((try dsimp only); (refine ⟨?_, ?_, ?_⟩; (repeat (first | with_reducible assumption | with_reducible refine cel_alloc ?_ _ | with_reducible refine cel_drew ?_ | with_reducible refine cel_drewN ?_ _ | with_reducible refine cel_set ?_ (by first | (simp; done) | (simp; omega)) _ | with_reducible refine cel_no ?_ (by assumption))); (repeat (first | with_reducible assumption | with_reducible refine cel_alloc ?_ _ | with_reducible refine cel_drew ?_ | with_reducible refine cel_drewN ?_ _ | with_reducible refine cel_set ?_ (by first | (simp; done) | (simp; omega)) _ | with_reducible refine cel_no ?_ (by assumption))); (repeat (first | with_reducible assumption | with_reducible refine cel_alloc ?_ _ | with_reducible refine cel_drew ?_ | with_reducible refine cel_drewN ?_ _ | with_reducible refine cel_set ?_ (by first | (simp; done) | (simp; omega)) _ | with_reducible refine cel_no ?_ (by assumption)))); done)); (clear hK K); (try simp only [Act.put, List.setIfInBounds_toArray, List.set_cons_zero, List.set_cons_succ, List.getElem_toArray, List.getElem_cons_zero, List.getElem_cons_succ])
      (refine wpAnyH_take (i := 15) (v := ?_) rfl (by kernel_rfl) (by kernel_rfl) (by kernel_rfl) (fun _ _ _ h => h) (Or.inl ⟨by rfl, ?_⟩) (by assumption) ?_; rotate_left; focus (intro w hSw; (try dsimp only at hSw); go_simp; (try with_reducible rfl); done)); (try simp only [Act.put, List.setIfInBounds_toArray, List.set_cons_zero, List.set_cons_succ, List.getElem_toArray, List.getElem_cons_zero, List.getElem_cons_succ])
      (refine wpAnyH_done (by kernel_rfl) ?_ _)
      go_wp2
      go_roundw
      case rel => exact ⟨i + 1, A1, c2, by go_num, rfl, hlt, Lib.hid ⟨by rw [Htk.out]; have := Hown.out; simpa [i64s] using this, Hfr.out⟩⟩
      case measure => simp [intOf]; omega
    · obtain rfl : i = rows.length := by omega
      have HO := Lib.hid Hi.out.1
      rw [List.take_of_length_le (by rw [findL_len HL.out]; exact Nat.le_refl _)] at HO
      go_wp2
      go_ret2
      exact ⟨A, rows.length, c', rfl, Iv.of_own HO.out HR.out, Hi.out.2⟩
theorem rfind_no {K : Option Addr} (h : Sr w gs T ct rows) (hc : chk n rows.length ≠ 0) : Calls Try.prog 34 #[.pointer (some ⟨gs, 0, none⟩), .slice K n c] w fun en w' => en = .returned (.tuple #[.slice none 0 0, .int .i64 1]) ∧ w = w' := by
  have c0 := h.c0
  have Hc := Lib.hid (show chk n rows.length = 1 by unfold chk at hc ⊢; split <;> simp_all)
  clear h hc
  go_enter Try.func34, Try.ntmps34
  go_wp2_with first
    | (go_at_call 16; ((with_reducible refine (rcheck_any _ _ _ _ _).mono ?_); rintro en w1 ⟨rfl, rfl⟩; rw [Hc.out]))
    | fail
  go_ret2
  exact ⟨rfl, rfl⟩
set_option maxRecDepth 8000 in
set_option maxHeartbeats 3200000 in
theorem rmeet_any {L H : Option Addr} {ln lc hn hc : Nat} {lo hi : List Nat} (h : Sr w gs T ct rows) (hg : Gd rows) (hl : Kv w L ln lc lo) (hh : Kv w H hn hc hi) (xs ys : List Int) (z : Int) (hyes : chkB lo hi rows.length = 0 → xs = findL rows lo ∧ ys = findL rows hi ∧ z = 0) (hno : chkB lo hi rows.length = 1 → xs = [] ∧ ys = [] ∧ z = 1) : Calls Try.prog 36 #[.pointer (some ⟨gs, 0, none⟩), .agg #[.slice L ln lc, .slice H hn hc]] w (TwoOut w xs ys z) := by
  have c0 := h.c0
  have hcap := h.cap
  have hmost := h.most
  have hmx : maxLen ≤ 9223372036854775807 := by decide
  have hgsl := World.block_lt_of_cell? w _ c0
  simp only at hgsl
  have hl6 := hg.2.1
  have HL := Lib.hid hl
  have HH := Lib.hid hh
  have OB0 := Lib.hid (Ob.new w #[.slice L ln lc, .slice H hn hc] 43)
  have HFi := Lib.hid (fun W (f : Fr No w W) (e : chkB lo hi rows.length = 0) => rfind_any (h.no f) hg (hl.no f) (by rw [hl.len]; exact (chkB_chk e).1))
  have HFj := Lib.hid (fun W (f : Fr No w W) (e : chkB lo hi rows.length = 0) => rfind_any (h.no f) hg (hh.no f) (by rw [hh.len]; exact (chkB_chk e).2))
  have HYES := Lib.hid hyes
  have HNO := Lib.hid hno
  clear h hg hl hh hyes hno
  rcases chkB_rng lo hi rows.length with hb | hb
  · have Hb := Lib.hid hb
    obtain ⟨rfl, rfl, rfl⟩ := HYES.out hb
    clear hb HYES HNO
    go_enter Try.func36, Try.ntmps36
    go_wp2
    (refine wp_region_held_drew (S := fun w' => (w'.cell? ⟨w.heap.size, 0, none⟩ = some (.slice L ln lc) ∧ w'.cell? ⟨w.heap.size, 1, none⟩ = some (.slice H hn hc)) ∧ w'.cell? ⟨gs, 0, none⟩ = some (.slice T rows.length ct)) (by kernel_rfl) ?_ (fun hHeld => ?_); focus ((try dsimp only); (refine ⟨cells2 (t := 43) ?_, ?_⟩; (repeat (first | with_reducible assumption | with_reducible refine Ob.other ?_ (by first | (simp; done) | (simp; omega)) _ | ((with_reducible refine Ob.new_ _ _ _ _ ?_) <;> (simp; done)) | with_reducible refine Ob.alloc ?_ _ | with_reducible refine Ob.drew ?_ | with_reducible refine Ob.drewN ?_ _ | with_reducible refine Ob.no ?_ (by assumption))); (repeat (first | with_reducible assumption | with_reducible refine cel_alloc ?_ _ | with_reducible refine cel_drew ?_ | with_reducible refine cel_drewN ?_ _ | with_reducible refine cel_set ?_ (by first | (simp; done) | (simp; omega)) _ | with_reducible refine cel_no ?_ (by assumption)))); done))
    ((refine wpAnyH_take (i := 0) (v := ?_) rfl (by kernel_rfl) (by kernel_rfl) (by kernel_rfl) (fun _ _ _ h => h) (Or.inl ⟨by rfl, ?_⟩) (by assumption) ?_; rotate_left; focus (intro w hSw; (try dsimp only at hSw); go_simp; (try with_reducible rfl); done)); (try simp only [Act.put, List.setIfInBounds_toArray, List.set_cons_zero, List.set_cons_succ, List.getElem_toArray, List.getElem_cons_zero, List.getElem_cons_succ]); (refine wpAnyH_take (i := 1) (v := ?_) rfl (by kernel_rfl) (by kernel_rfl) (by kernel_rfl) (fun _ _ _ h => h) (Or.inl ⟨by rfl, ?_⟩) (by assumption) ?_; rotate_left; focus (intro w hSw; (try dsimp only at hSw); go_simp; (try with_reducible rfl); done)); (try simp only [Act.put, List.setIfInBounds_toArray, List.set_cons_zero, List.set_cons_succ, List.getElem_toArray, List.getElem_cons_zero, List.getElem_cons_succ]); (refine wpAnyH_take (i := 2) (v := ?_) rfl (by kernel_rfl) (by kernel_rfl) (by kernel_rfl) (fun _ _ _ h => h) (Or.inl ⟨by rfl, ?_⟩) (by assumption) ?_; rotate_left; focus (intro w hSw; (try dsimp only at hSw); go_simp; (try with_reducible rfl); done)); (try simp only [Act.put, List.setIfInBounds_toArray, List.set_cons_zero, List.set_cons_succ, List.getElem_toArray, List.getElem_cons_zero, List.getElem_cons_succ]); (refine wpAnyH_take (i := 3) (v := ?_) rfl (by kernel_rfl) (by kernel_rfl) (by kernel_rfl) (fun _ _ _ h => h) (Or.inl ⟨by rfl, ?_⟩) (by assumption) ?_; rotate_left; focus (intro w hSw; (try dsimp only at hSw); go_simp; (try with_reducible rfl); done)); (try simp only [Act.put, List.setIfInBounds_toArray, List.set_cons_zero, List.set_cons_succ, List.getElem_toArray, List.getElem_cons_zero, List.getElem_cons_succ]); (refine wpAnyH_take (i := 4) (v := ?_) rfl (by kernel_rfl) (by kernel_rfl) (by kernel_rfl) (fun _ _ _ h => h) (Or.inl ⟨by rfl, ?_⟩) (by assumption) ?_; rotate_left; focus (intro w hSw; (try dsimp only at hSw); go_simp; (try with_reducible rfl); done)); (try simp only [Act.put, List.setIfInBounds_toArray, List.set_cons_zero, List.set_cons_succ, List.getElem_toArray, List.getElem_cons_zero, List.getElem_cons_succ]); (refine wpAnyH_take (i := 5) (v := ?_) rfl (by kernel_rfl) (by kernel_rfl) (by kernel_rfl) (fun _ _ _ h => h) (Or.inl ⟨by rfl, ?_⟩) (by assumption) ?_; rotate_left; focus (intro w hSw; (try dsimp only at hSw); go_simp; (try with_reducible rfl); done)); (try simp only [Act.put, List.setIfInBounds_toArray, List.set_cons_zero, List.set_cons_succ, List.getElem_toArray, List.getElem_cons_zero, List.getElem_cons_succ]))
    (refine wpAnyH_ready (rs := [6]) (by kernel_rfl) (by simp) ?_; refine AllReadyH.cons rfl (fun K hK => ?_) AllReadyH.nil; (try simp only [Act.put, List.setIfInBounds_toArray, List.set_cons_zero, List.set_cons_succ, List.getElem_toArray, List.getElem_cons_zero, List.getElem_cons_succ]); go_simp; (go_at_call 23; ((with_reducible refine (rcheckBox_any (lo := lo) (hi := hi) _ ?_ ?_).mono ?_); (focus ((have hk := HL.out); (repeat (first | with_reducible assumption | ((with_reducible refine Kv.lit_new _ _ _ _ _ _ ?_ ?_ ?_ ?_) <;> (first | (simp; done) | rfl | decide)) | with_reducible exact Kv.none_ _ | with_reducible refine Kv.alloc ?_ _ | with_reducible refine Kv.drew ?_ | with_reducible refine Kv.drewN ?_ _ | with_reducible refine Kv.no ?_ (by assumption))))); (focus ((have hk := HH.out); (repeat (first | with_reducible assumption | ((with_reducible refine Kv.lit_new _ _ _ _ _ _ ?_ ?_ ?_ ?_) <;> (first | (simp; done) | rfl | decide)) | with_reducible exact Kv.none_ _ | with_reducible refine Kv.alloc ?_ _ | with_reducible refine Kv.drew ?_ | with_reducible refine Kv.drewN ?_ _ | with_reducible refine Kv.no ?_ (by assumption))))); rintro en w5 ⟨rfl, hf5⟩; rw [Hb.out])); (try go_wp2_with fail); refine hK.out _ _ ?_ (fun hHeld => ?_); focus ((try dsimp only); (refine ⟨cells2 (t := 43) ?_, ?_⟩; (repeat (first | with_reducible assumption | with_reducible refine Ob.other ?_ (by first | (simp; done) | (simp; omega)) _ | ((with_reducible refine Ob.new_ _ _ _ _ ?_) <;> (simp; done)) | with_reducible refine Ob.alloc ?_ _ | with_reducible refine Ob.drew ?_ | with_reducible refine Ob.drewN ?_ _ | with_reducible refine Ob.no ?_ (by assumption))); (repeat (first | with_reducible assumption | with_reducible refine cel_alloc ?_ _ | with_reducible refine cel_drew ?_ | with_reducible refine cel_drewN ?_ _ | with_reducible refine cel_set ?_ (by first | (simp; done) | (simp; omega)) _ | with_reducible refine cel_no ?_ (by assumption)))); done)); (clear hK K); (try simp only [Act.put, List.setIfInBounds_toArray, List.set_cons_zero, List.set_cons_succ, List.getElem_toArray, List.getElem_cons_zero, List.getElem_cons_succ])
    (refine wpAnyH_take (i := 7) (v := ?_) rfl (by kernel_rfl) (by kernel_rfl) (by kernel_rfl) (fun _ _ _ h => h) (Or.inl ⟨by rfl, ?_⟩) (by assumption) ?_; rotate_left; focus (intro w hSw; (try dsimp only at hSw); go_simp; (try with_reducible rfl); done)); (try simp only [Act.put, List.setIfInBounds_toArray, List.set_cons_zero, List.set_cons_succ, List.getElem_toArray, List.getElem_cons_zero, List.getElem_cons_succ])
    (refine wpAnyH_done (by kernel_rfl) ?_ _)
    have hf05 : Fr No w w5 := ((Fr.refl No w).alloc _).drew.tr hf5
    have HO5 := Lib.hid (((OB0.out).drew).no hf5)
    obtain ⟨b0, b1⟩ := cells2 HO5.out
    go_wp2_with first
      | (go_at_call 34; ((with_reducible refine (HFi.out _ hf05 Hb.out).mono ?_); rintro en w6 ⟨A6, n6, c6, rfl, hi6, hf6⟩; (obtain ⟨x0, x1⟩ := cells2 (HO5.out.no hf6))))
      | (go_at_call 34; ((with_reducible refine (HFj.out _ (hf05.tr hf6) Hb.out).mono ?_); rintro en w7 ⟨A7, n7, c7, rfl, hi7, hf7⟩))
      | fail
    refine bodyPost_ret (v := .tuple #[.slice A6 n6 c6, .slice A7 n7 c7, .int .i64 0]) (by simp [results, Try.results36, go_sem]) rfl ?_
    exact ⟨A6, n6, c6, A7, n7, c7, rfl, hi6.no hf7, hi7, (hf05.tr hf6).tr hf7⟩
  · have Hb := Lib.hid hb
    obtain ⟨rfl, rfl, rfl⟩ := HNO.out hb
    clear hb HYES HNO
    go_enter Try.func36, Try.ntmps36
    go_wp2
    (refine wp_region_held_drew (S := fun w' => (w'.cell? ⟨w.heap.size, 0, none⟩ = some (.slice L ln lc) ∧ w'.cell? ⟨w.heap.size, 1, none⟩ = some (.slice H hn hc)) ∧ w'.cell? ⟨gs, 0, none⟩ = some (.slice T rows.length ct)) (by kernel_rfl) ?_ (fun hHeld => ?_); focus ((try dsimp only); (refine ⟨cells2 (t := 43) ?_, ?_⟩; (repeat (first | with_reducible assumption | with_reducible refine Ob.other ?_ (by first | (simp; done) | (simp; omega)) _ | ((with_reducible refine Ob.new_ _ _ _ _ ?_) <;> (simp; done)) | with_reducible refine Ob.alloc ?_ _ | with_reducible refine Ob.drew ?_ | with_reducible refine Ob.drewN ?_ _ | with_reducible refine Ob.no ?_ (by assumption))); (repeat (first | with_reducible assumption | with_reducible refine cel_alloc ?_ _ | with_reducible refine cel_drew ?_ | with_reducible refine cel_drewN ?_ _ | with_reducible refine cel_set ?_ (by first | (simp; done) | (simp; omega)) _ | with_reducible refine cel_no ?_ (by assumption)))); done))
    ((refine wpAnyH_take (i := 0) (v := ?_) rfl (by kernel_rfl) (by kernel_rfl) (by kernel_rfl) (fun _ _ _ h => h) (Or.inl ⟨by rfl, ?_⟩) (by assumption) ?_; rotate_left; focus (intro w hSw; (try dsimp only at hSw); go_simp; (try with_reducible rfl); done)); (try simp only [Act.put, List.setIfInBounds_toArray, List.set_cons_zero, List.set_cons_succ, List.getElem_toArray, List.getElem_cons_zero, List.getElem_cons_succ]); (refine wpAnyH_take (i := 1) (v := ?_) rfl (by kernel_rfl) (by kernel_rfl) (by kernel_rfl) (fun _ _ _ h => h) (Or.inl ⟨by rfl, ?_⟩) (by assumption) ?_; rotate_left; focus (intro w hSw; (try dsimp only at hSw); go_simp; (try with_reducible rfl); done)); (try simp only [Act.put, List.setIfInBounds_toArray, List.set_cons_zero, List.set_cons_succ, List.getElem_toArray, List.getElem_cons_zero, List.getElem_cons_succ]); (refine wpAnyH_take (i := 2) (v := ?_) rfl (by kernel_rfl) (by kernel_rfl) (by kernel_rfl) (fun _ _ _ h => h) (Or.inl ⟨by rfl, ?_⟩) (by assumption) ?_; rotate_left; focus (intro w hSw; (try dsimp only at hSw); go_simp; (try with_reducible rfl); done)); (try simp only [Act.put, List.setIfInBounds_toArray, List.set_cons_zero, List.set_cons_succ, List.getElem_toArray, List.getElem_cons_zero, List.getElem_cons_succ]); (refine wpAnyH_take (i := 3) (v := ?_) rfl (by kernel_rfl) (by kernel_rfl) (by kernel_rfl) (fun _ _ _ h => h) (Or.inl ⟨by rfl, ?_⟩) (by assumption) ?_; rotate_left; focus (intro w hSw; (try dsimp only at hSw); go_simp; (try with_reducible rfl); done)); (try simp only [Act.put, List.setIfInBounds_toArray, List.set_cons_zero, List.set_cons_succ, List.getElem_toArray, List.getElem_cons_zero, List.getElem_cons_succ]); (refine wpAnyH_take (i := 4) (v := ?_) rfl (by kernel_rfl) (by kernel_rfl) (by kernel_rfl) (fun _ _ _ h => h) (Or.inl ⟨by rfl, ?_⟩) (by assumption) ?_; rotate_left; focus (intro w hSw; (try dsimp only at hSw); go_simp; (try with_reducible rfl); done)); (try simp only [Act.put, List.setIfInBounds_toArray, List.set_cons_zero, List.set_cons_succ, List.getElem_toArray, List.getElem_cons_zero, List.getElem_cons_succ]); (refine wpAnyH_take (i := 5) (v := ?_) rfl (by kernel_rfl) (by kernel_rfl) (by kernel_rfl) (fun _ _ _ h => h) (Or.inl ⟨by rfl, ?_⟩) (by assumption) ?_; rotate_left; focus (intro w hSw; (try dsimp only at hSw); go_simp; (try with_reducible rfl); done)); (try simp only [Act.put, List.setIfInBounds_toArray, List.set_cons_zero, List.set_cons_succ, List.getElem_toArray, List.getElem_cons_zero, List.getElem_cons_succ]))
    (refine wpAnyH_ready (rs := [6]) (by kernel_rfl) (by simp) ?_; refine AllReadyH.cons rfl (fun K hK => ?_) AllReadyH.nil; (try simp only [Act.put, List.setIfInBounds_toArray, List.set_cons_zero, List.set_cons_succ, List.getElem_toArray, List.getElem_cons_zero, List.getElem_cons_succ]); go_simp; (go_at_call 23; ((with_reducible refine (rcheckBox_any (lo := lo) (hi := hi) _ ?_ ?_).mono ?_); (focus ((have hk := HL.out); (repeat (first | with_reducible assumption | ((with_reducible refine Kv.lit_new _ _ _ _ _ _ ?_ ?_ ?_ ?_) <;> (first | (simp; done) | rfl | decide)) | with_reducible exact Kv.none_ _ | with_reducible refine Kv.alloc ?_ _ | with_reducible refine Kv.drew ?_ | with_reducible refine Kv.drewN ?_ _ | with_reducible refine Kv.no ?_ (by assumption))))); (focus ((have hk := HH.out); (repeat (first | with_reducible assumption | ((with_reducible refine Kv.lit_new _ _ _ _ _ _ ?_ ?_ ?_ ?_) <;> (first | (simp; done) | rfl | decide)) | with_reducible exact Kv.none_ _ | with_reducible refine Kv.alloc ?_ _ | with_reducible refine Kv.drew ?_ | with_reducible refine Kv.drewN ?_ _ | with_reducible refine Kv.no ?_ (by assumption))))); rintro en w5 ⟨rfl, hf5⟩; rw [Hb.out])); (try go_wp2_with fail); refine hK.out _ _ ?_ (fun hHeld => ?_); focus ((try dsimp only); (refine ⟨cells2 (t := 43) ?_, ?_⟩; (repeat (first | with_reducible assumption | with_reducible refine Ob.other ?_ (by first | (simp; done) | (simp; omega)) _ | ((with_reducible refine Ob.new_ _ _ _ _ ?_) <;> (simp; done)) | with_reducible refine Ob.alloc ?_ _ | with_reducible refine Ob.drew ?_ | with_reducible refine Ob.drewN ?_ _ | with_reducible refine Ob.no ?_ (by assumption))); (repeat (first | with_reducible assumption | with_reducible refine cel_alloc ?_ _ | with_reducible refine cel_drew ?_ | with_reducible refine cel_drewN ?_ _ | with_reducible refine cel_set ?_ (by first | (simp; done) | (simp; omega)) _ | with_reducible refine cel_no ?_ (by assumption)))); done)); (clear hK K); (try simp only [Act.put, List.setIfInBounds_toArray, List.set_cons_zero, List.set_cons_succ, List.getElem_toArray, List.getElem_cons_zero, List.getElem_cons_succ])
    (refine wpAnyH_take (i := 7) (v := ?_) rfl (by kernel_rfl) (by kernel_rfl) (by kernel_rfl) (fun _ _ _ h => h) (Or.inl ⟨by rfl, ?_⟩) (by assumption) ?_; rotate_left; focus (intro w hSw; (try dsimp only at hSw); go_simp; (try with_reducible rfl); done)); (try simp only [Act.put, List.setIfInBounds_toArray, List.set_cons_zero, List.set_cons_succ, List.getElem_toArray, List.getElem_cons_zero, List.getElem_cons_succ])
    (refine wpAnyH_done (by kernel_rfl) ?_ _)
    go_wp2
    refine bodyPost_ret (v := .tuple #[.slice none 0 0, .slice none 0 0, .int .i64 1]) (by simp [results, Try.results36, go_sem]) rfl ?_
    exact ⟨none, 0, 0, none, 0, 0, rfl, Iv.none_ _, Iv.none_ _, ((Fr.refl No w).alloc _).drew.tr hf5⟩
end
end Go.Proofs.Ytifpigcgkpmheaa.Sm12
