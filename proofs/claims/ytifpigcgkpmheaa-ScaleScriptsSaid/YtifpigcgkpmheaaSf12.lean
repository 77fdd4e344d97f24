/- Layer 12: how many intervals there are, and where a point is. -/
import Derived.Test.YtifpigcgkpmheaaSe12
import Derived.Test.YtifpigcgkpmheaaGa
import Derived.StillTailTactics
namespace Go.Proofs.Ytifpigcgkpmheaa.Sf12
open Go.RowKit Go.Proofs.Ytifpigcgkpmheaa.Pk08 Go.Proofs.Ytifpigcgkpmheaa.Base Go.Proofs.Ytifpigcgkpmheaa.App Go.Proofs.Ytifpigcgkpmheaa.Str Go.Proofs.Ytifpigcgkpmheaa.Ky Go.Proofs.Ytifpigcgkpmheaa.Iv Go.Proofs.Ytifpigcgkpmheaa.Bx Go.Proofs.Ytifpigcgkpmheaa.Bo Go.Proofs.Ytifpigcgkpmheaa.As Go.Proofs.Ytifpigcgkpmheaa.Ro Go.Proofs.Ytifpigcgkpmheaa.Kc08 Go.Proofs.Ytifpigcgkpmheaa.Ki08 Go.Proofs.Ytifpigcgkpmheaa.Ic Go.Proofs.Ytifpigcgkpmheaa.Sa12 Go.Proofs.Ytifpigcgkpmheaa.Sb12 Go.Proofs.Ytifpigcgkpmheaa.Sc12 Go.Proofs.Ytifpigcgkpmheaa.Sd12
set_option linter.unusedVariables false
set_option linter.unusedSimpArgs false
attribute [local go_sem ↓ high] builtin_app
/-- One more behind a row of the call's own. -/
theorem push_one {t e : TypeId} {z : Value} {bytes : Nat} (ht : Try.prog.underlying t = some (.slice e)) (hinfo : (Try.prog.info? e).map (fun i => (i.zero, i.size, i.bytes)) = some (some z, 1, bytes)) (hz : z.cells.size = 1) (hb0 : 0 < bytes) (hb8 : bytes ≤ 100) {wr : World} {B q cP : Nat} {P : Option Addr} {xs : List Value} (hO : wr.ownsRow B e 1 (.slice P q cP) q xs) (hB : B ≤ wr.heap.size) (v : Value) (hv : v.oneCell' = true) (hq : q ≤ 1000000) :
    ∃ A1 c1 w1, (appSem #[t, t] t #[.slice P q cP, .slice (some ⟨wr.heap.size, 0, none⟩) 1 1]).run Try.prog (wr.alloc (.cells #[v] e)) = .ok (.slice A1 (q + 1) c1) w1 ∧ w1.ownsRow B e 1 (.slice A1 (q + 1) c1) (q + 1) (xs ++ [v]) ∧ (∀ w, w.heap.size ≤ B → Fr No w wr → Fr No w w1) ∧ (∀ k, vbk (.slice A1 (q + 1) c1) = some k → vbk (.slice P q cP) = some k ∨ wr.heap.size ≤ k) ∧ Fr (fun k => vbk (.slice P q cP) = some k) wr w1 := by
  have hO2 : (wr.alloc (.cells #[v] e)).ownsRow B e 1 (.slice P q cP) q xs := hO.alloc _
  have hrc : Rc (wr.alloc (.cells #[v] e)) (some ⟨wr.heap.size, 0, none⟩) [v] := Rc.new wr #[v] e
  obtain ⟨A1, c1, w1, hrun, hown, hgr, hat⟩ := app_eq (P := Try.prog) (w := wr.alloc (.cells #[v] e)) B t e z 1 bytes ht hinfo hz (by decide) hb0 hO2 (some ⟨wr.heap.size, 0, none⟩) 1 1 [v] rfl hrc (by intro u hu; simp at hu; subst hu; exact hv) (by have := Nat.mul_le_mul (show q + 1 ≤ 1000001 by omega) hb8; omega) (by simp; omega)
  refine ⟨A1, c1, w1, hrun, hown, fun w hw f => (f.alloc _).grown hgr (fun k hk => .inr (by have := (hO.lt k hk).1; omega)), fun k hk => ?_, ?_⟩
  · rcases hat with h | h
    · exact .inl (by rw [← show vbk (.slice A1 (q + 1) c1) = vbk (.slice P q cP) from h]; exact hk)
    · rw [show vbk (.slice A1 (q + 1) c1) = some (wr.alloc (.cells #[v] e)).heap.size from h] at hk
      injection hk with hk
      simp at hk
      exact .inr (by omega)
  · exact ((Fr.refl (fun k => vbk (.slice P q cP) = some k) wr).alloc _).grown hgr (fun k hk => .inl hk)
/-- Of no block that was there. -/
def Nw (w : World) (A : Option Addr) : Prop := ∀ b off, A = some ⟨b, off, none⟩ → w.heap.size ≤ b
theorem Nw.none_ (w : World) : Nw w none := fun _ _ e => by cases e
theorem Nw.own {w w1 : World} {A : Option Addr} {n c base : Nat} {e : TypeId} {xs : List Value} (h : w1.ownsRow base e 1 (.slice A n c) n xs) (hb : w.heap.size ≤ base) : Nw w A := fun b off q => by
  subst q
  exact Nat.le_trans hb (h.lt b rfl).1
theorem Nw.mono {w w1 : World} {A : Option Addr} (h : Nw w1 A) (hs : w.heap.size ≤ w1.heap.size) : Nw w A := fun b off q => Nat.le_trans hs (h b off q)
theorem info_int : (Try.prog.info? 3).map (fun i => (i.zero, i.size, i.bytes)) = some (some (.int .i64 0), 1, 8) := by kernel_rfl
def sizesL (rows : List (List Nat)) : List Int := rows.map (fun r => (r.length : Int) + 1)
section
variable {P S : Nat → Prop} {w w1 : World} {gs gt ct : Nat} {T : Option Addr} {qs : List Rw} {rows : List (List Nat)} {x : Nat}
theorem sizes_rng (h : Gd rows) : ∀ i, i < (sizesL rows).length → -9223372036854775808 ≤ (sizesL rows).getD i 0 ∧ (sizesL rows).getD i 0 ≤ 9223372036854775807 := by
  intro i hi
  have hi2 : i < rows.length := by simpa [sizesL] using hi
  have e : (sizesL rows).getD i 0 = ((rows.getD i []).length : Int) + 1 := by simp [sizesL, List.getD_eq_getElem?_getD, hi2]
  have := (h.row hi2).2.1
  omega
theorem sizes_take {i : Nat} (hi : i < rows.length) : sizesL (rows.take (i + 1)) = sizesL (rows.take i) ++ [((rows.getD i []).length : Int) + 1] := by
  have e : rows.take (i + 1) = rows.take i ++ [rows.getD i []] := by
    rw [List.take_add_one]; simp [List.getD_eq_getElem?_getD, hi]
  rw [e]; simp [sizesL]
set_option maxHeartbeats 800000 in
theorem sizes_any (h : Sr w gs T ct rows) (hg : Gd rows) : Calls Try.prog 14 #[.pointer (some ⟨gs, 0, none⟩)] w fun en w' => ∃ A n c, en = .returned (.slice A n c) ∧ Iv w' A n c (sizesL rows) ∧ Fr No w w' ∧ Nw w A := by
  have c0 := h.c0
  have hcap := h.cap
  have hmost := h.most
  have hmx : maxLen ≤ 9223372036854775807 := by decide
  have HS := Lib.hid h
  have HG := Lib.hid hg
  have hl6 := hg.2.1
  have HR := Lib.hid (sizes_rng hg)
  clear h hg
  go_enter Try.func14, Try.ntmps14
  go_wp2
  go_loopw [3, 13] (fun v u wr => ∃ (i : Nat) (A : Option Addr) (c : Nat), u = .int .i64 i ∧ v = .slice A i c ∧ i ≤ rows.length ∧ Hid (wr.ownsRow w.heap.size 3 1 (.slice A i c) i (i64s (sizesL (rows.take i))) ∧ Fr No w wr)) (fun _ u _ => rows.length - (intOf u).toNat)
  case atStart => exact ⟨0, none, 0, rfl, rfl, Nat.zero_le _, Lib.hid ⟨World.ownsRow_nil _ _ _ _, Fr.refl _ _⟩⟩
  case round =>
    obtain ⟨i, A, c, rfl, rfl, hin, Hi⟩ := hrel
    by_cases hlt : i < rows.length
    · obtain ⟨gt, B, cb, rfl, c1, hk⟩ := (HS.out.no Hi.out.2).get i hlt
      have hl63 := (HG.out.row hlt).2.1
      have Htk := Lib.hid (sizes_take hlt)
      generalize (rows.getD i []).length = m at *
      obtain ⟨A1, c2, w1, hrun, hown, hfr, _, _⟩ := push_one (t := 32) Try.underlying32 info_int rfl (by decide) (by decide) Hi.out.1 Hi.out.2.size (.int .i64 ((m : Int) + 1)) rfl (by omega)
      have Hown := Lib.hid hown
      have Hfr := Lib.hid (hfr w (Nat.le_refl _) Hi.out.2)
      clear hown hfr hk
      go_wp2
      go_roundw
      case rel => exact ⟨i + 1, A1, c2, by go_num, rfl, hlt, Lib.hid ⟨by rw [Htk.out]; have := Hown.out; simpa [i64s] using this, Hfr.out⟩⟩
      case measure => simp [intOf]; omega
    · obtain rfl : i = rows.length := by omega
      have HO := Lib.hid Hi.out.1
      rw [List.take_of_length_le (Nat.le_refl _)] at HO
      go_wp2
      go_ret
      exact ⟨A, rows.length, c, rfl, Iv.of_own HO.out HR.out, Hi.out.2, Nw.own HO.out (Nat.le_refl _)⟩
theorem sizes_nil (W : World) : Calls Try.prog 14 #[.pointer none] W fun en w' => en = .returned (.slice none 0 0) ∧ W = w' := by
  go_enter Try.func14, Try.ntmps14
  go_wp2
  go_ret
  exact ⟨rfl, rfl⟩
def findL (rows : List (List Nat)) (ks : List Nat) : List Int := List.zipWith (fun r x => ((itv r x : Nat) : Int)) rows ks
theorem findL_len {ks : List Nat} (hl : ks.length = rows.length) : (findL rows ks).length = rows.length := by simp [findL, hl]
theorem findL_get {ks : List Nat} (hl : ks.length = rows.length) {i : Nat} (hi : i < rows.length) : (findL rows ks).getD i 0 = ((itv (rows.getD i []) (ks.getD i 0) : Nat) : Int) := by
  have h2 : i < ks.length := by omega
  simp [findL, List.getD_eq_getElem?_getD, List.getElem?_zipWith, hi, h2]
/-- The list so far, zeros behind it. -/
def upto (xs : List Int) (i n : Nat) : List Int := xs.take i ++ List.replicate (n - i) 0
theorem upto_set {xs : List Int} {i n : Nat} (hi : i < n) (hn : xs.length = n) : (upto xs i n).set i (xs.getD i 0) = upto xs (i + 1) n := by
  subst hn
  have e : xs.take (i + 1) = xs.take i ++ [xs.getD i 0] := by rw [List.take_add_one]; simp [List.getD_eq_getElem?_getD, hi]
  unfold upto
  rw [e, show xs.length - i = (xs.length - (i + 1)) + 1 by omega, List.replicate_succ, List.set_append_right _ _ (by rw [List.length_take]; omega), List.length_take, Nat.min_eq_left (by omega), Nat.sub_self, List.set_cons_zero, List.append_assoc]
  rfl
theorem find_rng {ks : List Nat} (h : Gd rows) (hl : ks.length = rows.length) : ∀ i, i < (findL rows ks).length → -9223372036854775808 ≤ (findL rows ks).getD i 0 ∧ (findL rows ks).getD i 0 ≤ 9223372036854775807 := by
  intro i hi
  rw [findL_len hl] at hi
  rw [findL_get hl hi]
  have h1 := (h.row hi).2.1
  have h2 := itv_le (rows.getD i []) (ks.getD i 0)
  omega
set_option maxHeartbeats 1600000 in
theorem sfind_any {K : Option Addr} {n c : Nat} {ks : List Nat} (h : Sr w gs T ct rows) (hg : Gd rows) (hk : Kv w K n c ks) (hc : chk n rows.length = 0) : Calls Try.prog 18 #[.pointer (some ⟨gs, 0, none⟩), .slice K n c] w fun en w' => ∃ A n' c', en = .returned (.tuple #[.slice A n' c', .int .i64 0]) ∧ Iv w' A n' c' (findL rows ks) ∧ Fr No w w' ∧ Nw w A := by
  have c0 := h.c0
  have hcap := h.cap
  have hmost := h.most
  have hmx : maxLen ≤ 9223372036854775807 := by decide
  have hnr : n = rows.length := by
    unfold chk at hc
    split at hc
    · rename_i q; omega
    · cases hc
  have hkl : ks.length = rows.length := by rw [← hk.len]; exact hnr
  have HS := Lib.hid h
  have HG := Lib.hid hg
  have HK := Lib.hid hk
  have Hc := Lib.hid hc
  have hl6 := hg.2.1
  have HR := Lib.hid (find_rng hg hkl)
  have HL := Lib.hid hkl
  have hmk : ∀ W : World, (Instr.makeSlice 32 (.int .i64 (rows.length : Int)) (.int .i64 (rows.length : Int))).run Try.prog W = .ok (.slice (some ⟨W.heap.size, 0, none⟩) rows.length rows.length) (W.alloc (.cells (madeCells #[.int .i64 0] rows.length) 3)) := by
    intro W
    have := run_made (P := Try.prog) 32 3 (.int .i64 0) 8 Try.underlying32 info_int rfl (by decide) rows.length (by omega) (by omega) W
    simpa using this
  have Hl := Lib.hid (made_list (.int .i64 0) rows.length)
  subst hnr
  clear h hg hk hc hkl
  go_enter Try.func18, Try.ntmps18
  go_wp2_with first
    | (go_at_call 47; ((with_reducible refine (check_any _ _ _ _ _).mono ?_); rintro en w1 ⟨rfl, rfl⟩; rw [Hc.out]))
    | fail
  have HO0 := Lib.hid (show (w.alloc (.cells (madeCells #[.int .i64 0] rows.length) 3)).ownsRow w.heap.size 3 1 (.slice (some ⟨w.heap.size, 0, none⟩) rows.length rows.length) rows.length (i64s (upto (findL rows ks) 0 rows.length)) by
    refine Frg.own (Ob.new w (madeCells #[.int .i64 0] rows.length) 3) (Nat.le_refl _) (Nat.le_refl _) (by omega) (by rw [← Array.length_toList, Hl.out, List.length_replicate]) ?_
    rw [Hl.out, List.take_of_length_le (by simp)]
    simp [upto, i64s])
  have HF0 := Lib.hid (show Fr No w (w.alloc (.cells (madeCells #[.int .i64 0] rows.length) 3)) by (repeat (first | with_reducible exact Fr.refl _ _ | with_reducible refine Fr.setCell ?_ (.inr (by first | (simp; done) | (simp; omega))) _ | with_reducible refine Fr.alloc ?_ _ | with_reducible refine Fr.drew ?_ | with_reducible refine Fr.drewN ?_ _ | with_reducible refine Fr.tr ?_ (by assumption))))
  have HX := Lib.hid (findL_len (rows := rows) (ks := ks) HL.out)
  have hwl : w.heap.size < (w.alloc (.cells (madeCells #[.int .i64 0] rows.length) 3)).heap.size := by simp
  generalize hw1 : w.alloc (.cells (madeCells #[.int .i64 0] rows.length) 3) = w1 at *
  clear hw1
  have Hg0 := Lib.hid (Nat.le_refl w.heap.size)
  obtain ⟨g0, hg00⟩ : ∃ g0, g0 = w.heap.size := ⟨_, rfl⟩
  rw [← hg00] at HO0 hwl
  have Hg0 := Lib.hid (show w.heap.size ≤ g0 by omega)
  simp only [← hg00]
  clear hg00
  clear hmk Hl
  go_loopw [26] (fun v wr => ∃ i : Nat, v = .int .i64 i ∧ i ≤ rows.length ∧ Hid (wr.ownsRow g0 3 1 (.slice (some ⟨g0, 0, none⟩) rows.length rows.length) rows.length (i64s (upto (findL rows ks) i rows.length)) ∧ Fr No w wr)) (fun v _ => rows.length - (intOf v).toNat)
  case atStart => exact ⟨0, rfl, Nat.zero_le _, Lib.hid ⟨HO0.out, HF0.out⟩⟩
  case round =>
    obtain ⟨i, rfl, hin, Hi⟩ := hrel
    have d0 := cel_no c0 Hi.out.2
    by_cases hlt : i < rows.length
    · obtain ⟨gt, B, cb, rfl, c1, hk⟩ := (HS.out.no Hi.out.2).get i hlt
      obtain ⟨bk, ok, rfl, ck⟩ := (HK.out.no Hi.out.2).get i (by rw [HL.out]; exact hlt)
      have hR := HG.out.row hlt
      have HI := Lib.hid (interval_any (x := ks.getD i 0) hk hR.1 (by omega))
      have Hset := Lib.hid (upto_set (xs := findL rows ks) hlt HX.out)
      rw [findL_get HL.out hlt] at Hset
      have hul : i < (i64s (upto (findL rows ks) i rows.length)).length := by simp [i64s, upto, HX.out]; omega
      obtain ⟨v0, e1⟩ : ∃ v0, wr.cell? ⟨g0, i, none⟩ = some v0 := ⟨_, (Hi.out.1.cellAt i (by omega)).trans (List.getElem?_eq_getElem hul)⟩
      have e2 := Hi.out.1.frozenAt i
      have e3 := (Hi.out.1.stored i (.int .i64 ((itv (rows.getD i []) (ks.getD i 0) : Nat) : Int))).1
      have HE := Lib.hid (show (wr.setCell ⟨g0, i, none⟩ (.int .i64 ((itv (rows.getD i []) (ks.getD i 0) : Nat) : Int))).ownsRow g0 3 1 (.slice (some ⟨g0, 0, none⟩) rows.length rows.length) rows.length (i64s (upto (findL rows ks) (i + 1) rows.length)) by
        rw [← Hset.out]
        simpa [i64s, List.map_set] using e3)
      have hg0 : w.heap.size ≤ g0 := Hg0.out
      clear e3 hk hul Hset
      generalize itv (rows.getD i []) (ks.getD i 0) = p at *
      generalize ks.getD i 0 = y at *
      generalize (rows.getD i []).length = m at *
      go_wp2_with (go_at_call 48; ((with_reducible refine HI.out.mono ?_); rintro en w3 ⟨rfl, rfl⟩))
      go_roundw
      case rel => exact ⟨i + 1, by go_num, hlt, Lib.hid ⟨HE.out, Hi.out.2.setCell (p := ⟨g0, i, none⟩) (.inr hg0) _⟩⟩
      case measure => simp [intOf]; omega
    · obtain rfl : i = rows.length := by omega
      have HO := Lib.hid Hi.out.1
      have eu : upto (findL rows ks) rows.length rows.length = findL rows ks := by
        unfold upto; rw [List.take_of_length_le (by rw [HX.out]; exact Nat.le_refl _)]; simp
      rw [eu] at HO
      clear eu
      go_wp2
      go_ret2
      exact ⟨_, _, _, rfl, Iv.of_own HO.out HR.out, Hi.out.2, Nw.own HO.out Hg0.out⟩
theorem sfind_no {K : Option Addr} {n c : Nat} (h : Sr w gs T ct rows) (hc : chk n rows.length ≠ 0) : Calls Try.prog 18 #[.pointer (some ⟨gs, 0, none⟩), .slice K n c] w fun en w' => en = .returned (.tuple #[.slice none 0 0, .int .i64 1]) ∧ w = w' := by
  have c0 := h.c0
  have Hc := Lib.hid (show chk n rows.length = 1 by unfold chk at hc ⊢; split <;> simp_all)
  clear h hc
  go_enter Try.func18, Try.ntmps18
  go_wp2_with first
    | (go_at_call 47; ((with_reducible refine (check_any _ _ _ _ _).mono ?_); rintro en w1 ⟨rfl, rfl⟩; rw [Hc.out]))
    | fail
  go_ret2
  exact ⟨rfl, rfl⟩
theorem sfind_nil {K : Option Addr} {n c : Nat} (W : World) : Calls Try.prog 18 #[.pointer none, .slice K n c] W fun en w' => en = .returned (.tuple #[.slice none 0 0, .int .i64 1]) ∧ W = w' := by
  go_enter Try.func18, Try.ntmps18
  go_wp2
  go_ret2
  exact ⟨rfl, rfl⟩
end
end Go.Proofs.Ytifpigcgkpmheaa.Sf12
