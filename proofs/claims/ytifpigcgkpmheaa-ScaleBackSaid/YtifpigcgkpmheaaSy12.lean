/- Layer 12, law: a bound that is inserted, and removed again, leaves all as it was. -/
import Derived.Test.YtifpigcgkpmheaaSw12
import Derived.Deep.QuietTactic
import Derived.StillTailTactics
namespace Go.Proofs.Ytifpigcgkpmheaa.Sy12
open Go.RowKit Go.Proofs.Ytifpigcgkpmheaa.Pk08 Go.Proofs.Ytifpigcgkpmheaa.Base Go.Proofs.Ytifpigcgkpmheaa.App Go.Proofs.Ytifpigcgkpmheaa.Ty Go.Proofs.Ytifpigcgkpmheaa.Str Go.Proofs.Ytifpigcgkpmheaa.Ky Go.Proofs.Ytifpigcgkpmheaa.Iv Go.Proofs.Ytifpigcgkpmheaa.Bx Go.Proofs.Ytifpigcgkpmheaa.Bo Go.Proofs.Ytifpigcgkpmheaa.As Go.Proofs.Ytifpigcgkpmheaa.Ro Go.Proofs.Ytifpigcgkpmheaa.Pl08 Go.Proofs.Ytifpigcgkpmheaa.Kc08 Go.Proofs.Ytifpigcgkpmheaa.Ke08 Go.Proofs.Ytifpigcgkpmheaa.Ki08 Go.Proofs.Ytifpigcgkpmheaa.Ka08 Go.Proofs.Ytifpigcgkpmheaa.Ic Go.Proofs.Ytifpigcgkpmheaa.In Go.Proofs.Ytifpigcgkpmheaa.Fa Go.Proofs.Ytifpigcgkpmheaa.Sa12 Go.Proofs.Ytifpigcgkpmheaa.Sb12 Go.Proofs.Ytifpigcgkpmheaa.Sc12 Go.Proofs.Ytifpigcgkpmheaa.Sd12 Go.Proofs.Ytifpigcgkpmheaa.Se12 Go.Proofs.Ytifpigcgkpmheaa.Sf12 Go.Proofs.Ytifpigcgkpmheaa.Sg12 Go.Proofs.Ytifpigcgkpmheaa.Sh12 Go.Proofs.Ytifpigcgkpmheaa.Si12 Go.Proofs.Ytifpigcgkpmheaa.Sk12 Go.Proofs.Ytifpigcgkpmheaa.Sl12 Go.Proofs.Ytifpigcgkpmheaa.St12 Go.Proofs.Ytifpigcgkpmheaa.Sv12 Go.Proofs.Ytifpigcgkpmheaa.Sw12
set_option linter.unusedVariables false
set_option linter.unusedSimpArgs false
section
variable {rows : List (List Nat)} {z : Int} {x : Nat}
theorem remR_insR (r : List Nat) (x : Nat) : remR (insR r x) (itv r x) = r := by
  have hl := itv_le r x
  unfold remR insR
  generalize itv r x = p at *
  have e1 : (r.take p ++ x :: r.drop p).take p = r.take p := by
    rw [List.take_append_of_le_length (by rw [List.length_take]; omega), List.take_take, Nat.min_self]
  have e2 : (r.take p ++ x :: r.drop p).drop (p + 1) = r.drop p := by
    rw [List.drop_append, List.drop_eq_nil_of_le (by rw [List.length_take]; omega), List.length_take, Nat.min_eq_left hl, Nat.add_sub_cancel_left]
    simp
  rw [e1, e2, List.take_append_drop]
theorem back_law (h : insE rows z x = 0) : remE (insL rows z x) z ((insI rows z x : Nat) : Int) = 0 ∧ remL (insL rows z x) z ((insI rows z x : Nat) : Int) = rows := by
  obtain ⟨h1, h2, h3, h4, h5⟩ := insE_zero h
  have hi : insI rows z x = itv (rows.getD z.toNat []) x := by unfold insI; rw [if_pos h]
  have hL : insL rows z x = rows.set z.toNat (insR (rows.getD z.toNat []) x) := by unfold insL; rw [if_pos h]
  have hz : z.toNat < rows.length := by omega
  have hg : (rows.set z.toNat (insR (rows.getD z.toNat []) x)).getD z.toNat [] = insR (rows.getD z.toNat []) x := by rw [getD_set _ _ _ _ _ hz, if_pos rfl]
  have hlen := insR_len (rows.getD z.toNat []) x
  have hle := itv_le (rows.getD z.toNat []) x
  have hE : remE (insL rows z x) z ((insI rows z x : Nat) : Int) = 0 := by
    unfold remE
    rw [hL, hg, hi, hlen, if_pos ⟨⟨h1, by simpa using h2⟩, by omega, by omega⟩]
  refine ⟨hE, ?_⟩
  unfold remL
  rw [if_pos hE, hL, hg, hi, Int.toNat_natCast, remR_insR, List.set_set]
  apply List.ext_getElem
  · simp
  · intro i h1 h2
    rw [List.getElem_set]
    split
    · rename_i e
      subst e
      simp [List.getD_eq_getElem?_getD, hz]
    · rfl
theorem sizes_ins (h : insE rows z x = 0) : (sizesL (insL rows z x)).getD z.toNat 0 = (sizesL rows).getD z.toNat 0 + 1 := by
  obtain ⟨h1, h2, h3, h4, h5⟩ := insE_zero h
  have hz : z.toNat < rows.length := by omega
  have hL : insL rows z x = rows.set z.toNat (insR (rows.getD z.toNat []) x) := by unfold insL; rw [if_pos h]
  have hlen := insR_len (rows.getD z.toNat []) x
  rw [hL]
  simp only [sizesL, List.getD_eq_getElem?_getD, List.getElem?_map] at hlen ⊢
  simp [hz] at hlen ⊢
  omega
theorem insL_no (h : insE rows z x ≠ 0) : insL rows z x = rows := by unfold insL; rw [if_neg h]
end
abbrev backT (E E1 E2 E3 E4 : TypeId) : Ty := .cn (.int .i64) (.cn (.sl E (opT E1 E2 E3 E4)) (.cn (.int .i64) (.cn (.int .u32) .nl)))
theorem rd_back {E E1 E2 E3 E4 : TypeId} {w : World} {x : (backT E E1 E2 E3 E4).D} {cs : List Value} (h : Rd (backT E E1 E2 E3 E4) w x cs) :
    ∃ (d : Int) (A : Option Addr) (n c : Nat) (a : Int) (b : Nat), cs = [.int .i64 d, .slice A n c, .int .i64 a, .int .u32 (b : Int)] ∧ b < 4294967296 ∧ Ops w A n c := by
  obtain ⟨c1, c2, rfl, ⟨rfl, _⟩, c3, c4, rfl, h1, c5, c6, rfl, ⟨rfl, _⟩, c7, c8, rfl, ⟨rfl, hb⟩, h3⟩ := h
  have h3' : c8 = [] := h3
  subst h3'
  have h1' := h1
  obtain ⟨A, c, rfl, _⟩ := h1'
  obtain ⟨b, hbe, hbl⟩ := wf_u32 hb
  exact ⟨_, A, _, c, _, b, by rw [hbe]; rfl, hbl, Ops.of_rd h1⟩
section
variable {E E1 E2 E3 E4 : TypeId} (w : World)
set_option maxRecDepth 8000 in
set_option maxHeartbeats 6400000 in
theorem law_back (cs : Array Value) (x : (backT E E1 E2 E3 E4).D) (h : Rd (backT E E1 E2 E3 E4) w x cs.toList) :
    Calls Try.prog 5 #[.agg cs] w fun e w' => e = .returned (.bool true) ∧ Fr No w w' := by
  obtain ⟨d, A, n, c, a, b, hcs, hb, hS⟩ := rd_back h
  have hcs2 : cs = #[.int .i64 d, .slice A n c, .int .i64 a, .int .u32 (b : Int)] := by rw [← Array.toArray_toList (xs := cs), hcs]
  subst hcs2
  have HS := Lib.hid hS
  have HB := Lib.hid hb
  have hO := Ob.new w #[.int .i64 d, .slice A n c, .int .i64 a, .int .u32 (b : Int)] 50
  have a0 := hO.cell 0 rfl
  have a1 := hO.cell 1 rfl
  have a2 := hO.cell 2 rfl
  have a3 := hO.cell 3 rfl
  clear h hcs hS hb hO
  simp only [List.getElem_toArray, List.getElem_cons_zero, List.getElem_cons_succ] at a0 a1 a2 a3
  by_cases hd : 1 ≤ d ∧ d ≤ 6
  · obtain ⟨d0, rfl⟩ : ∃ d0 : Nat, d = (d0 : Int) := ⟨d.toNat, by omega⟩
    have HG := Lib.hid (fun W (f : Fr No w W) => grown_in (d := d0) (HS.out.no f) (by omega) (by omega))
    clear hd
    go_enter Try.func5, Try.ntmps5
    go_wp2
    go_quiet (fail)
    generalize hwz : World.drewN _ _ = wz at *
    have HF0 := Lib.hid (show Fr No w wz by subst hwz; (repeat (first | with_reducible exact Fr.refl _ _ | with_reducible refine Fr.setCell ?_ (.inr (by first | (simp; done) | (simp; omega))) _ | with_reducible refine Fr.alloc ?_ _ | with_reducible refine Fr.drew ?_ | with_reducible refine Fr.drewN ?_ _ | with_reducible refine Fr.tr ?_ (by assumption))))
    clear hwz a0 a1 a2 a3
    go_upto_region 5 with first
      | (go_at_call 17; ((with_reducible refine (HG.out _ HF0.out).mono ?_); rintro en w1 ⟨gs, rows, rfl, hs1, hg, hlen⟩))
      | fail
    have HF1 := Lib.hid (HF0.out.tr hs1.fr)
    have HO := Lib.hid hs1
    have HGd := Lib.hid hg
    have HGi := Lib.hid (Gd.ins hg HB.out a)
    clear hs1 hg hlen HG
    have HEn := Lib.hid (fun W (f : Fr No w1 W) => os_encode (HO.out.no f) HGd.out)
    have HEm := Lib.hid (fun W (h : Osc wz W gs rows) => os_encode h HGd.out)
    have HIn := Lib.hid (fun W (f : Fr No w1 W) => os_insert (HO.out.no f) HGd.out a HB.out)
    by_cases he : insE rows a b = 0
    · rw [he] at HIn
      have hez := insE_zero he
      have HBk := Lib.hid (back_law he)
      have HSi := Lib.hid (sizes_ins he)
      have HLn := Lib.hid (insL_len rows a b)
      obtain ⟨k, rfl⟩ : ∃ k : Nat, a = (k : Int) := ⟨a.toNat, by omega⟩
      have hkr : k < rows.length := by omega
      have hl6 := HGd.out.2.1
      rw [Int.toNat_natCast] at HSi
      have HR2 := Lib.hid (fun i (hi : i < (sizesL (insL rows (k : Int) b)).length) => sizes_rng HGi.out i hi)
      clear he hez
      generalize insL rows (k : Int) b = rows2 at *
      generalize insI rows (k : Int) b = p at *
      have HRm := Lib.hid (fun (X Z : Nat) (W : World) (h : Osp X Z wz W gs rows2) (hz : Z ≤ W.heap.size) => osp_remove h hz HGi.out (k : Int) (p : Int))
      rw [HBk.out.1, HBk.out.2] at HRm
      have HSz := Lib.hid (fun W (h : Osc wz W gs rows2) => os_sizes h HGi.out)
      have HSl := Lib.hid (fun W (h : Osc wz W gs rows) => os_sizes h HGd.out)
      generalize txt (encS rows) = S at *
      go_upto_region 10 with first
        | (go_at_call 12; ((with_reducible refine (HEn.out _ (Fr.refl _ _)).mono ?_); rintro en w2 ⟨rfl, hf2⟩))
        | (go_at_call 21; ((with_reducible refine (HIn.out _ hf2).mono ?_); rintro en w3 ⟨rfl, hs3⟩))
        | (go_at_call 14; ((with_reducible refine (HSz.out _ hs3).mono ?_); rintro en w4 ⟨A4, n4, c4, rfl, hi4, hf4, hn4⟩))
        | fail
      have hsp := hs3.sp hf4 w4.heap.size
      have hl4 : n4 = rows.length := by rw [hi4.len, ← HLn.out]; simp [sizesL]
      have hgt := hi4.get k (by rw [← hi4.len]; omega)
      have hbl := Iv.blt hi4 (by rw [← hi4.len]; omega)
      clear HIn HEn HO hf2 hf4 hs3
      go_wp2_with first
        | (go_at_call 22; ((with_reducible refine (HRm.out _ _ _ hsp (Nat.le_refl _)).mono ?_); rintro en w5 ⟨rfl, hs5, hg5⟩; (have hi5 := Iv.win hi4 hg5 hn4 hbl); (have ho5 := hs5.osc); clear hs5 hg5 hsp))
        | (go_at_call 14; ((with_reducible refine (HSl.out _ ho5).mono ?_); rintro en w6 ⟨A6, n6, c6, rfl, hi6, hf6, _⟩; (obtain rfl : n6 = rows.length := (by rw [hi6.len]; simp [sizesL]))))
        | fail
      have hy : 0 ≤ (sizesL rows).getD k 0 ∧ (sizesL rows).getD k 0 ≤ 64 := by
        have e : (sizesL rows).getD k 0 = ((rows.getD k []).length : Int) + 1 := by simp [sizesL, List.getD_eq_getElem?_getD, hkr]
        have := (HGd.out.row hkr).2.1
        omega
      obtain ⟨b4, o4, rfl, e40⟩ := hi5.get k (by rw [← hi5.len]; omega)
      obtain ⟨b6, o6, rfl, e6⟩ := hi6.get k (by simpa [sizesL] using hkr)
      have e4 := cel_no e40 hf6
      have HEl := Lib.hid (HEm.out _ ((ho5.no hf6).no (Fr.refl No w6).drew))
      have HFz := Lib.hid (HF0.out.tr (ho5.no hf6).fr)
      have hi4c := hi4.cap
      have hi4m := hi4.most
      have hi6c := hi6.cap
      have hi6m := hi6.most
      have hmx : maxLen ≤ 9223372036854775807 := by decide
      rw [HSi.out] at e4
      generalize (sizesL rows).getD k 0 = y at *
      clear hi4 hi5 hi6 hgt hbl hn4 hl4 e40 ho5 hf6 HEm HSl HSz HRm HSi HR2
      (refine wp_region_held_drew (S := fun w' => w'.cell? ⟨b4, o4 + k, none⟩ = some (.int .i64 (y + 1)) ∧ w'.cell? ⟨b6, o6 + k, none⟩ = some (.int .i64 y)) (by kernel_rfl) ?_ (fun hHeld => ?_); focus ((try dsimp only); (refine ⟨?_, ?_⟩; (repeat (first | with_reducible assumption | with_reducible refine cel_alloc ?_ _ | with_reducible refine cel_drew ?_ | with_reducible refine cel_drewN ?_ _ | with_reducible refine cel_set ?_ (by first | (simp; done) | (simp; omega)) _ | with_reducible refine cel_no ?_ (by assumption))); (repeat (first | with_reducible assumption | with_reducible refine cel_alloc ?_ _ | with_reducible refine cel_drew ?_ | with_reducible refine cel_drewN ?_ _ | with_reducible refine cel_set ?_ (by first | (simp; done) | (simp; omega)) _ | with_reducible refine cel_no ?_ (by assumption)))); done))
      ((refine wpAnyH_take (i := 0) (v := ?_) rfl (by kernel_rfl) (by kernel_rfl) (by kernel_rfl) (fun _ _ _ h => h) (Or.inl ⟨by rfl, ?_⟩) (by assumption) ?_; rotate_left; focus (intro w hSw; (try dsimp only at hSw); go_simp; (try with_reducible rfl); done)); (try simp only [Act.put, List.setIfInBounds_toArray, List.set_cons_zero, List.set_cons_succ, List.getElem_toArray, List.getElem_cons_zero, List.getElem_cons_succ]); (refine wpAnyH_take (i := 1) (v := ?_) rfl (by kernel_rfl) (by kernel_rfl) (by kernel_rfl) (fun _ _ _ h => h) (Or.inl ⟨by rfl, ?_⟩) (by assumption) ?_; rotate_left; focus (intro w hSw; (try dsimp only at hSw); go_simp; (try with_reducible rfl); done)); (try simp only [Act.put, List.setIfInBounds_toArray, List.set_cons_zero, List.set_cons_succ, List.getElem_toArray, List.getElem_cons_zero, List.getElem_cons_succ]); (refine wpAnyH_take (i := 2) (v := ?_) rfl (by kernel_rfl) (by kernel_rfl) (by kernel_rfl) (fun _ _ _ h => h) (Or.inl ⟨by rfl, ?_⟩) (by assumption) ?_; rotate_left; focus (intro w hSw; (try dsimp only at hSw); go_simp; (try with_reducible rfl); done)); (try simp only [Act.put, List.setIfInBounds_toArray, List.set_cons_zero, List.set_cons_succ, List.getElem_toArray, List.getElem_cons_zero, List.getElem_cons_succ]); (refine wpAnyH_take (i := 3) (v := ?_) rfl (by kernel_rfl) (by kernel_rfl) (by kernel_rfl) (fun _ _ _ h => h) (Or.inl ⟨by rfl, ?_⟩) (by assumption) ?_; rotate_left; focus (intro w hSw; (try dsimp only at hSw); go_simp; (try with_reducible rfl); done)); (try simp only [Act.put, List.setIfInBounds_toArray, List.set_cons_zero, List.set_cons_succ, List.getElem_toArray, List.getElem_cons_zero, List.getElem_cons_succ]); (refine wpAnyH_take (i := 5) (v := ?_) rfl (by kernel_rfl) (by kernel_rfl) (by kernel_rfl) (fun _ _ _ h => h) (Or.inl ⟨by rfl, ?_⟩) (by assumption) ?_; rotate_left; focus (intro w hSw; (try dsimp only at hSw); go_simp; (try with_reducible rfl); done)); (try simp only [Act.put, List.setIfInBounds_toArray, List.set_cons_zero, List.set_cons_succ, List.getElem_toArray, List.getElem_cons_zero, List.getElem_cons_succ]))
      (refine wpAnyH_ready (rs := [4]) (by kernel_rfl) (by simp) ?_; refine AllReadyH.cons rfl (fun K hK => ?_) AllReadyH.nil; (try simp only [Act.put, List.setIfInBounds_toArray, List.set_cons_zero, List.set_cons_succ, List.getElem_toArray, List.getElem_cons_zero, List.getElem_cons_succ]); go_simp; (go_at_call 12; ((with_reducible refine HEl.out.mono ?_); rintro en w7 ⟨rfl, hf7⟩)); (try go_wp2_with fail); refine hK.out _ _ ?_ (fun hHeld => ?_); focus ((try dsimp only); (refine ⟨?_, ?_⟩; (repeat (first | with_reducible assumption | with_reducible refine cel_alloc ?_ _ | with_reducible refine cel_drew ?_ | with_reducible refine cel_drewN ?_ _ | with_reducible refine cel_set ?_ (by first | (simp; done) | (simp; omega)) _ | with_reducible refine cel_no ?_ (by assumption))); (repeat (first | with_reducible assumption | with_reducible refine cel_alloc ?_ _ | with_reducible refine cel_drew ?_ | with_reducible refine cel_drewN ?_ _ | with_reducible refine cel_set ?_ (by first | (simp; done) | (simp; omega)) _ | with_reducible refine cel_no ?_ (by assumption)))); done)); (clear hK K); (try simp only [Act.put, List.setIfInBounds_toArray, List.set_cons_zero, List.set_cons_succ, List.getElem_toArray, List.getElem_cons_zero, List.getElem_cons_succ])
      have hw := IntWalk.i64_in (y + 1) (by omega)
      ((refine wpAnyH_take (i := 6) (v := ?_) rfl (by kernel_rfl) (by kernel_rfl) (by kernel_rfl) (fun _ _ _ h => h) (Or.inl ⟨by rfl, ?_⟩) (by assumption) ?_; rotate_left; focus (intro w hSw; (try dsimp only at hSw); go_simp; (try with_reducible rfl); done)); (try simp only [Act.put, List.setIfInBounds_toArray, List.set_cons_zero, List.set_cons_succ, List.getElem_toArray, List.getElem_cons_zero, List.getElem_cons_succ]); (refine wpAnyH_take (i := 7) (v := ?_) rfl (by kernel_rfl) (by kernel_rfl) (by kernel_rfl) (fun _ _ _ h => h) (Or.inl ⟨by rfl, ?_⟩) (by assumption) ?_; rotate_left; focus (intro w hSw; (try dsimp only at hSw); go_simp; (try with_reducible rfl); done)); (try simp only [Act.put, List.setIfInBounds_toArray, List.set_cons_zero, List.set_cons_succ, List.getElem_toArray, List.getElem_cons_zero, List.getElem_cons_succ]); (refine wpAnyH_take (i := 8) (v := ?_) rfl (by kernel_rfl) (by kernel_rfl) (by kernel_rfl) (fun _ _ _ h => h) (Or.inl ⟨by rfl, ?_⟩) (by assumption) ?_; rotate_left; focus (intro w hSw; (try dsimp only at hSw); go_simp; (try with_reducible rfl); done)); (try simp only [Act.put, List.setIfInBounds_toArray, List.set_cons_zero, List.set_cons_succ, List.getElem_toArray, List.getElem_cons_zero, List.getElem_cons_succ]); (refine wpAnyH_take (i := 9) (v := ?_) rfl (by kernel_rfl) (by kernel_rfl) (by kernel_rfl) (fun _ _ _ h => h) (Or.inl ⟨by rfl, ?_⟩) (by assumption) ?_; rotate_left; focus (intro w hSw; (try dsimp only at hSw); go_simp; (try with_reducible rfl); done)); (try simp only [Act.put, List.setIfInBounds_toArray, List.set_cons_zero, List.set_cons_succ, List.getElem_toArray, List.getElem_cons_zero, List.getElem_cons_succ]); (refine wpAnyH_take (i := 10) (v := ?_) rfl (by kernel_rfl) (by kernel_rfl) (by kernel_rfl) (fun _ _ _ h => h) (Or.inl ⟨by rfl, ?_⟩) (by assumption) ?_; rotate_left; focus (intro w hSw; (try dsimp only at hSw); go_simp; (try with_reducible rfl); done)); (try simp only [Act.put, List.setIfInBounds_toArray, List.set_cons_zero, List.set_cons_succ, List.getElem_toArray, List.getElem_cons_zero, List.getElem_cons_succ]); (refine wpAnyH_take (i := 11) (v := ?_) rfl (by kernel_rfl) (by kernel_rfl) (by kernel_rfl) (fun _ _ _ h => h) (Or.inl ⟨by rfl, ?_⟩) (by assumption) ?_; rotate_left; focus (intro w hSw; (try dsimp only at hSw); go_simp; (try with_reducible rfl); done)); (try simp only [Act.put, List.setIfInBounds_toArray, List.set_cons_zero, List.set_cons_succ, List.getElem_toArray, List.getElem_cons_zero, List.getElem_cons_succ]); (refine wpAnyH_take (i := 12) (v := ?_) rfl (by kernel_rfl) (by kernel_rfl) (by kernel_rfl) (fun _ _ _ h => h) (Or.inl ⟨by rfl, ?_⟩) (by assumption) ?_; rotate_left; focus (intro w hSw; (try dsimp only at hSw); go_simp; (try with_reducible rfl); done)); (try simp only [Act.put, List.setIfInBounds_toArray, List.set_cons_zero, List.set_cons_succ, List.getElem_toArray, List.getElem_cons_zero, List.getElem_cons_succ]); (refine wpAnyH_take (i := 13) (v := ?_) rfl (by kernel_rfl) (by kernel_rfl) (by kernel_rfl) (fun _ _ _ h => h) (Or.inl ⟨by rfl, ?_⟩) (by assumption) ?_; rotate_left; focus (intro w hSw; (try dsimp only at hSw); go_simp; (try with_reducible rfl); done)); (try simp only [Act.put, List.setIfInBounds_toArray, List.set_cons_zero, List.set_cons_succ, List.getElem_toArray, List.getElem_cons_zero, List.getElem_cons_succ]); (refine wpAnyH_take (i := 14) (v := ?_) rfl (by kernel_rfl) (by kernel_rfl) (by kernel_rfl) (fun _ _ _ h => h) (Or.inl ⟨by rfl, ?_⟩) (by assumption) ?_; rotate_left; focus (intro w hSw; (try dsimp only at hSw); go_simp; (try with_reducible rfl); done)); (try simp only [Act.put, List.setIfInBounds_toArray, List.set_cons_zero, List.set_cons_succ, List.getElem_toArray, List.getElem_cons_zero, List.getElem_cons_succ]); (refine wpAnyH_take (i := 15) (v := ?_) rfl (by kernel_rfl) (by kernel_rfl) (by kernel_rfl) (fun _ _ _ h => h) (Or.inl ⟨by rfl, ?_⟩) (by assumption) ?_; rotate_left; focus (intro w hSw; (try dsimp only at hSw); go_simp; (try with_reducible rfl); done)); (try simp only [Act.put, List.setIfInBounds_toArray, List.set_cons_zero, List.set_cons_succ, List.getElem_toArray, List.getElem_cons_zero, List.getElem_cons_succ]); (refine wpAnyH_take (i := 16) (v := ?_) rfl (by kernel_rfl) (by kernel_rfl) (by kernel_rfl) (fun _ _ _ h => h) (Or.inl ⟨by rfl, ?_⟩) (by assumption) ?_; rotate_left; focus (intro w hSw; (try dsimp only at hSw); go_simp; (try with_reducible rfl); done)); (try simp only [Act.put, List.setIfInBounds_toArray, List.set_cons_zero, List.set_cons_succ, List.getElem_toArray, List.getElem_cons_zero, List.getElem_cons_succ]))
      (refine wpAnyH_take (i := 17) (v := ?_) rfl (by kernel_rfl) (by kernel_rfl) (by kernel_rfl) (fun _ _ _ h => h) (Or.inl ⟨by rfl, ?_⟩) (by assumption) ?_; rotate_left; focus (intro w hSw; (try dsimp only at hSw); go_simp; (try simp only [hw]); (try with_reducible rfl); done)); (try simp only [Act.put, List.setIfInBounds_toArray, List.set_cons_zero, List.set_cons_succ, List.getElem_toArray, List.getElem_cons_zero, List.getElem_cons_succ])
      ((refine wpAnyH_take (i := 18) (v := ?_) rfl (by kernel_rfl) (by kernel_rfl) (by kernel_rfl) (fun _ _ _ h => h) (Or.inl ⟨by rfl, ?_⟩) (by assumption) ?_; rotate_left; focus (intro w hSw; (try dsimp only at hSw); go_simp; (try with_reducible rfl); done)); (try simp only [Act.put, List.setIfInBounds_toArray, List.set_cons_zero, List.set_cons_succ, List.getElem_toArray, List.getElem_cons_zero, List.getElem_cons_succ]); (refine wpAnyH_take (i := 19) (v := ?_) rfl (by kernel_rfl) (by kernel_rfl) (by kernel_rfl) (fun _ _ _ h => h) (Or.inl ⟨by rfl, ?_⟩) (by assumption) ?_; rotate_left; focus (intro w hSw; (try dsimp only at hSw); go_simp; (try with_reducible rfl); done)); (try simp only [Act.put, List.setIfInBounds_toArray, List.set_cons_zero, List.set_cons_succ, List.getElem_toArray, List.getElem_cons_zero, List.getElem_cons_succ]); (refine wpAnyH_take (i := 20) (v := ?_) rfl (by kernel_rfl) (by kernel_rfl) (by kernel_rfl) (fun _ _ _ h => h) (Or.inl ⟨by rfl, ?_⟩) (by assumption) ?_; rotate_left; focus (intro w hSw; (try dsimp only at hSw); go_simp; (try with_reducible rfl); done)); (try simp only [Act.put, List.setIfInBounds_toArray, List.set_cons_zero, List.set_cons_succ, List.getElem_toArray, List.getElem_cons_zero, List.getElem_cons_succ]))
      (refine wpAnyH_ready (rs := [21]) (by kernel_rfl) (by simp) ?_; refine AllReadyH.cons rfl (fun K hK => ?_) AllReadyH.nil; (try simp only [Act.put, List.setIfInBounds_toArray, List.set_cons_zero, List.set_cons_succ, List.getElem_toArray, List.getElem_cons_zero, List.getElem_cons_succ]); go_simp; (go_at_call 9; ((with_reducible refine (live _).mono ?_); rintro en wl ⟨rfl, hfl⟩)); (try go_wp2_with fail); refine hK.out _ _ ?_ (fun hHeld => ?_); focus ((try dsimp only); (refine ⟨?_, ?_⟩; (repeat (first | with_reducible assumption | with_reducible refine cel_alloc ?_ _ | with_reducible refine cel_drew ?_ | with_reducible refine cel_drewN ?_ _ | with_reducible refine cel_set ?_ (by first | (simp; done) | (simp; omega)) _ | with_reducible refine cel_no ?_ (by assumption))); (repeat (first | with_reducible assumption | with_reducible refine cel_alloc ?_ _ | with_reducible refine cel_drew ?_ | with_reducible refine cel_drewN ?_ _ | with_reducible refine cel_set ?_ (by first | (simp; done) | (simp; omega)) _ | with_reducible refine cel_no ?_ (by assumption)))); done)); (clear hK K); (try simp only [Act.put, List.setIfInBounds_toArray, List.set_cons_zero, List.set_cons_succ, List.getElem_toArray, List.getElem_cons_zero, List.getElem_cons_succ])
      (refine wpAnyH_take (i := 22) (v := ?_) rfl (by kernel_rfl) (by kernel_rfl) (by kernel_rfl) (fun _ _ _ h => h) (Or.inl ⟨by rfl, ?_⟩) (by assumption) ?_; rotate_left; focus (intro w hSw; (try dsimp only at hSw); go_simp; (try with_reducible rfl); done)); (try simp only [Act.put, List.setIfInBounds_toArray, List.set_cons_zero, List.set_cons_succ, List.getElem_toArray, List.getElem_cons_zero, List.getElem_cons_succ])
      (refine wpAnyH_ready (rs := [23]) (by kernel_rfl) (by simp) ?_; refine AllReadyH.cons rfl (fun K hK => ?_) AllReadyH.nil; (try simp only [Act.put, List.setIfInBounds_toArray, List.set_cons_zero, List.set_cons_succ, List.getElem_toArray, List.getElem_cons_zero, List.getElem_cons_succ]); go_simp; refine hK.out _ _ ?_ (fun hHeld => ?_); focus ((try dsimp only); (refine ⟨?_, ?_⟩; (repeat (first | with_reducible assumption | with_reducible refine cel_alloc ?_ _ | with_reducible refine cel_drew ?_ | with_reducible refine cel_drewN ?_ _ | with_reducible refine cel_set ?_ (by first | (simp; done) | (simp; omega)) _ | with_reducible refine cel_no ?_ (by assumption))); (repeat (first | with_reducible assumption | with_reducible refine cel_alloc ?_ _ | with_reducible refine cel_drew ?_ | with_reducible refine cel_drewN ?_ _ | with_reducible refine cel_set ?_ (by first | (simp; done) | (simp; omega)) _ | with_reducible refine cel_no ?_ (by assumption)))); done)); (clear hK K); (try simp only [Act.put, List.setIfInBounds_toArray, List.set_cons_zero, List.set_cons_succ, List.getElem_toArray, List.getElem_cons_zero, List.getElem_cons_succ])
      (refine wpAnyH_done (by kernel_rfl) ?_ _)
      (try go_wp2)
      go_ret
      exact ⟨rfl, by have hfz := HFz.out; (repeat (first | with_reducible exact Fr.refl _ _ | with_reducible refine Fr.setCell ?_ (.inr (by first | (simp; done) | (simp; omega))) _ | with_reducible refine Fr.alloc ?_ _ | with_reducible refine Fr.drew ?_ | with_reducible refine Fr.drewN ?_ _ | with_reducible refine Fr.tr ?_ (by assumption)))⟩
    · have Hno := Lib.hid (insL_no he)
      rw [Hno.out] at HIn
      have hE : ((insE rows a b : Nat) : Int) ≠ 0 := by omega
      generalize txt (encS rows) = S at *
      generalize ((insE rows a b : Nat) : Int) = ze at *
      clear he
      go_wp2_with first
        | (go_at_call 12; ((with_reducible refine (HEn.out _ (Fr.refl _ w1)).mono ?_); rintro en w2 ⟨rfl, hf2⟩))
        | (go_at_call 21; ((with_reducible refine (HIn.out _ hf2).mono ?_); rintro en w3 ⟨rfl, hs3⟩))
        | (go_at_call 12; ((with_reducible refine (HEm.out _ hs3).mono ?_); rintro en w4 ⟨rfl, hf4⟩))
        | (go_at_call 9; ((with_reducible refine (live _).mono ?_); rintro e wl ⟨rfl, hfl⟩))
        | fail
      go_ret
      exact ⟨rfl, (HF0.out.tr hs3.fr).tr (by (repeat (first | with_reducible exact Fr.refl _ _ | with_reducible refine Fr.setCell ?_ (.inr (by first | (simp; done) | (simp; omega))) _ | with_reducible refine Fr.alloc ?_ _ | with_reducible refine Fr.drew ?_ | with_reducible refine Fr.drewN ?_ _ | with_reducible refine Fr.tr ?_ (by assumption))))⟩
  · have HD := Lib.hid hd
    have HG := Lib.hid (fun W (f : Fr No w W) => grown_out (HS.out.no f) HD.out)
    by_cases hd1 : d < 1
    · clear hd
      go_enter Try.func5, Try.ntmps5
      go_wp2
      go_quiet (fail)
      go_wp2_with first
        | (go_at_call 17; ((with_reducible refine (HG.out _ (by (repeat (first | with_reducible exact Fr.refl _ _ | with_reducible refine Fr.setCell ?_ (.inr (by first | (simp; done) | (simp; omega))) _ | with_reducible refine Fr.alloc ?_ _ | with_reducible refine Fr.drew ?_ | with_reducible refine Fr.drewN ?_ _ | with_reducible refine Fr.tr ?_ (by assumption))))).mono ?_); rintro en w1 ⟨rfl, hf1⟩))
        | (go_at_call 9; ((with_reducible refine (live _).mono ?_); rintro e wl ⟨rfl, hfl⟩))
        | fail
      go_ret
      exact ⟨rfl, by (repeat (first | with_reducible exact Fr.refl _ _ | with_reducible refine Fr.setCell ?_ (.inr (by first | (simp; done) | (simp; omega))) _ | with_reducible refine Fr.alloc ?_ _ | with_reducible refine Fr.drew ?_ | with_reducible refine Fr.drewN ?_ _ | with_reducible refine Fr.tr ?_ (by assumption)))⟩
    · have hd6 : 6 < d := by omega
      clear hd
      go_enter Try.func5, Try.ntmps5
      go_wp2
      go_quiet (fail)
      go_wp2_with first
        | (go_at_call 17; ((with_reducible refine (HG.out _ (by (repeat (first | with_reducible exact Fr.refl _ _ | with_reducible refine Fr.setCell ?_ (.inr (by first | (simp; done) | (simp; omega))) _ | with_reducible refine Fr.alloc ?_ _ | with_reducible refine Fr.drew ?_ | with_reducible refine Fr.drewN ?_ _ | with_reducible refine Fr.tr ?_ (by assumption))))).mono ?_); rintro en w1 ⟨rfl, hf1⟩))
        | (go_at_call 9; ((with_reducible refine (live _).mono ?_); rintro e wl ⟨rfl, hfl⟩))
        | fail
      go_ret
      exact ⟨rfl, by (repeat (first | with_reducible exact Fr.refl _ _ | with_reducible refine Fr.setCell ?_ (.inr (by first | (simp; done) | (simp; omega))) _ | with_reducible refine Fr.alloc ?_ _ | with_reducible refine Fr.drew ?_ | with_reducible refine Fr.drewN ?_ _ | with_reducible refine Fr.tr ?_ (by assumption)))⟩
end
end Go.Proofs.Ytifpigcgkpmheaa.Sy12
