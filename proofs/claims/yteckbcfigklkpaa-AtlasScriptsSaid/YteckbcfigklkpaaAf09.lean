/- Layer 9: DeleteFunc, Window, Count, New, Copy. -/
import Derived.Test.YteckbcfigklkpaaAe09
namespace Go.Proofs.Yteckbcfigklkpaa.Af09
open Go.RowKit Go.Lib Go.Proofs.Yteckbcfigklkpaa.Pk08 Go.Proofs.Yteckbcfigklkpaa.Base Go.Proofs.Yteckbcfigklkpaa.App Go.Proofs.Yteckbcfigklkpaa.Str Go.Proofs.Yteckbcfigklkpaa.Ky Go.Proofs.Yteckbcfigklkpaa.Bx Go.Proofs.Yteckbcfigklkpaa.Bo Go.Proofs.Yteckbcfigklkpaa.As Go.Proofs.Yteckbcfigklkpaa.Pl08 Go.Proofs.Yteckbcfigklkpaa.Kc08 Go.Proofs.Yteckbcfigklkpaa.Ke08 Go.Proofs.Yteckbcfigklkpaa.Cl Go.Proofs.Yteckbcfigklkpaa.Rv Go.Proofs.Yteckbcfigklkpaa.Ra Go.Proofs.Yteckbcfigklkpaa.Rp Go.Proofs.Yteckbcfigklkpaa.Ro Go.Proofs.Yteckbcfigklkpaa.Rk Go.Proofs.Yteckbcfigklkpaa.Rb Go.Proofs.Yteckbcfigklkpaa.Rf Go.Proofs.Yteckbcfigklkpaa.Ia Go.Proofs.Yteckbcfigklkpaa.Ib Go.Proofs.Yteckbcfigklkpaa.Aa09 Go.Proofs.Yteckbcfigklkpaa.Ab09 Go.Proofs.Yteckbcfigklkpaa.Ac09 Go.Proofs.Yteckbcfigklkpaa.Ad09 Go.Proofs.Yteckbcfigklkpaa.Ae09
set_option linter.unusedVariables false
set_option linter.unusedSimpArgs false
attribute [local go_sem ↓ high] builtin_cl
theorem filter_all (p : Rv.Rec → Bool) (rs : List Rv.Rec) (h : firstOut p rs = rs.length) : rs.filter p = rs := by
  rw [List.filter_eq_self]
  intro r hr
  obtain ⟨i, hi, rfl⟩ := List.mem_iff_getElem.1 hr
  have := firstOut_in p rs i (by omega)
  simpa [List.getD_eq_getElem?_getD, hi] using this
theorem filter_take (p : Rv.Rec → Bool) (rs : List Rv.Rec) (f : Nat) (hf : firstOut p rs = f) (hl : f < rs.length) : (rs.take (f + 1)).filter p = rs.take f ∧ (rs.take f).length = f := by
  have h1 : (rs.take f).filter p = rs.take f := by
    rw [List.filter_eq_self]
    intro r hr
    obtain ⟨i, hi, rfl⟩ := List.mem_iff_getElem.1 hr
    rw [List.length_take] at hi
    have := firstOut_in p rs i (by omega)
    simpa [List.getD_eq_getElem?_getD, show i < rs.length by omega] using this
  have h2 := firstOut_at p rs (by omega)
  rw [hf] at h2
  refine ⟨?_, by rw [List.length_take]; omega⟩
  rw [Go.Proofs.Yteckbcfigklkpaa.Rk.take_succ rs f hl, List.filter_append, h1, List.filter_cons_of_neg (by rw [h2]; simp), List.filter_nil, List.append_nil]
theorem over_list (l : List Rv.Rec) (r : Rv.Rec) (i j n : Nat) (hij : i < j) (hj : j < n) (hl : l.length = n) : (l.take i ++ r :: l.drop (i + 1)).take (i + 1) = l.take i ++ [r] ∧ (l.take i ++ r :: l.drop (i + 1)).drop (j + 1) = l.drop (j + 1) ∧ (l.take i ++ r :: l.drop (i + 1)).length = n := by
  have h1 : (l.take i).length = i := by rw [List.length_take]; omega
  refine ⟨?_, ?_, ?_⟩
  · rw [show l.take i ++ r :: l.drop (i + 1) = (l.take i ++ [r]) ++ l.drop (i + 1) by simp, List.take_left' (by rw [List.length_append, h1]; rfl)]
  · rw [List.drop_append, h1, List.drop_of_length_le (by omega), List.nil_append, show j + 1 - i = (j - i) + 1 by omega, List.drop_succ_cons, List.drop_drop, show i + 1 + (j - i) = j + 1 by omega]
  · rw [List.length_append, h1, List.length_cons, List.length_drop]; omega
section
variable {K : Nat → Prop} {w0 w w1 : World} {gb ga : Nat} {d : Int} {A B : Option Addr} {n c m e : Nat} {rs : List Rv.Rec} {lo hi ks : List Nat} {s : ByteArray}
set_option maxRecDepth 8000 in
set_option maxHeartbeats 3200000 in
theorem dfunc_any (hb : Bb w0 gb lo hi) (h0 : Fr No w0 w) (hO : Ow w w0.heap.size 33 K A n c rs) (hn1 : n ≤ 1000) :
    Calls Try.prog 45 #[.slice A n c, .func (.func 46) #[] #[.pointer (some ⟨gb, 0, none⟩)]] w fun en w' => ∃ n1, en = .returned (.slice A n1 c) ∧ Ow w' w0.heap.size 33 K A n1 c (rs.filter (keep lo hi)) ∧ Fr No w0 w' := by
  have hl := hO.len
  have hcap := own_cap hO.choose_spec.2.1
  have hnc := hcap.1
  have hmx : maxLen ≤ 9223372036854775807 := by decide
  have hcm := hcap.2
  have hix := index_any (lo := lo) (hi := hi) hO.rv (hb.no h0) (by omega)
  have hfl := firstOut_le (keep lo hi) rs
  have HO := Lib.hid hO
  have Hb := Lib.hid hb
  have H0 := Lib.hid h0
  have HL := Lib.hid hl
  clear hb h0 hO hl hcap
  by_cases hf : firstOut (keep lo hi) rs < n
  · rw [if_pos hf] at hix
    obtain ⟨g, KA0, kc0, hA, hg0, _⟩ := HO.out.cells 0 (by omega)
    subst hA
    have hft := filter_take (keep lo hi) rs _ rfl (by rw [HL.out]; exact hf)
    have Hft := Lib.hid hft
    clear hft hfl
    generalize firstOut (keep lo hi) rs = f at *
    have Hg0 := Lib.hid hg0
    clear hg0
    have hfm : ((f : Int) == -1) = false := by
      rw [beq_eq_false_iff_ne]; omega
    go_enter Try.func45, Try.ntmps45
    go_wp2_with (go_at_call 58; ((with_reducible refine hix.mono ?_); rintro en w5 ⟨rfl, hf5⟩))
    go_loopw [5, 6] (fun u v wr => ∃ i j : Nat, u = .int .i64 i ∧ v = .int .i64 j ∧ i < j ∧ j ≤ n ∧ Hid (∃ rs', Ow wr w0.heap.size 33 K (some ⟨g, 0, none⟩) n c rs' ∧ rs'.take i = (rs.take j).filter (keep lo hi) ∧ rs'.drop j = rs.drop j ∧ rs'.length = n ∧ ((rs.take j).filter (keep lo hi)).length = i ∧ Fr No w0 wr)) (fun _ v _ => n - (intOf v).toNat)
    case atStart => exact ⟨f, f + 1, by go_num, by go_num, by omega, hf, Lib.hid ⟨rs, HO.out.no hf5, Hft.out.1.symm, rfl, HL.out, by rw [Hft.out.1]; exact Hft.out.2, H0.out.tr hf5⟩⟩
    case round =>
      obtain ⟨i, j, rfl, rfl, hij, hjn, Hj⟩ := hrel
      obtain ⟨rs', hO', ht', hd', hl', hfi', hF'⟩ := Hj.out
      by_cases hlt : j < n
      · obtain ⟨g2, KA, kc, hA2, _, a0, a1, f0, f1, hka, hza⟩ := hO'.cells j hlt
        obtain ⟨g3, _, _, hA3, _, z0, z1, f2, f3, _, _⟩ := hO'.cells i (by omega)
        injection hA2 with hA2; injection hA2 with hA2 _ _; subst hA2
        injection hA3 with hA3; injection hA3 with hA3 _ _; subst hA3
        have hgd : rs'.getD j rec0 = rs.getD j rec0 := by
          have q := congrArg (fun l => l.getD 0 rec0) hd'
          simpa [List.getD_eq_getElem?_getD, List.getElem?_drop] using q
        have HC := Lib.hid (fun (W : World) (hW : Fr No wr W) => copy_rec (hO'.no hW) (i := i) (j := j) (by omega) hlt (cel_no a0 hW) (cel_no a1 hW))
        have hts := Go.Proofs.Yteckbcfigklkpaa.Rk.take_succ rs j (by rw [HL.out]; exact hlt)
        have Hts := Lib.hid hts
        have hgl : g < wr.heap.size := (hO'.blk g rfl).2
        have hgn : g ≠ wr.heap.size := by omega
        have hds : rs'.drop (j + 1) = rs.drop (j + 1) := by
          have q := congrArg (List.drop 1) hd'
          rw [List.drop_drop, List.drop_drop] at q
          exact q
        have Hds := Lib.hid hds
        have HOr := Lib.hid hO'
        have Hrest := Lib.hid (show rs'.take i = (rs.take j).filter (keep lo hi) ∧ rs'.length = n ∧ ((rs.take j).filter (keep lo hi)).length = i ∧ Fr No w0 wr from ⟨ht', hl', hfi', hF'⟩)
        rw [hgd] at HC
        rw [hgd] at a0 a1 hka hza
        clear hO' ht' hd' hl' hfi' hF' hgd hts hds Hj
        generalize rs.getD j rec0 = r at *
        obtain ⟨ks, s⟩ := r
        simp only at *
        have Hka := Lib.hid hka
        clear hka
        have hob := Ob.new wr #[.slice KA ks.length kc, .string s] 33
        have Hob := Lib.hid hob
        clear hob
        cases hkp : keep lo hi (ks, s) with
        | true =>
          have Hkp := Lib.hid hkp
          have hfil : (rs.take (j + 1)).filter (keep lo hi) = (rs.take j).filter (keep lo hi) ++ [(ks, s)] := by
            rw [Hts.out, List.filter_append, List.filter_cons_of_pos hkp, List.filter_nil]
          have Hfil := Lib.hid hfil
          clear hkp hfil
          go_wp2_with (go_at_call 46; ((with_reducible refine (win1_any (lo := lo) (hi := hi) (Hka.out.alloc _) (Hb.out.no (Hrest.out.2.2.2.alloc _))).mono ?_); rintro en w6 ⟨rfl, hf6⟩; rw [Hkp.out]; (obtain ⟨x0, x1⟩ := cells2 (Hob.out.no hf6)); (have hF6 := ((Fr.refl No wr).alloc (.cells #[.slice KA ks.length kc, .string s] 33)).tr hf6); (have y0 := cel_no z0 hF6); (have y1 := cel_no z1 hF6); (have y2 := hF6.bcell.2 g (i * 2) hgl); (rw [f2] at y2); (have y3 := hF6.bcell.2 g (i * 2 + 1) hgl); (rw [f3] at y3)))
          have hz := over_list rs' (ks, s) i j n (by omega) hlt Hrest.out.2.1
          exact ⟨⟨i + 1, j + 1, by go_num, by go_num, by omega, hlt, Lib.hid ⟨_, HC.out w6 hF6, by rw [hz.1, Hfil.out, Hrest.out.1], by rw [hz.2.1, Hds.out], hz.2.2, by rw [Hfil.out, List.length_append, Hrest.out.2.2.1]; rfl, ((Hrest.out.2.2.2.tr hF6).setCell (p := ⟨g, i * 2, none⟩) (.inr Hg0.out) _).setCell (p := ⟨g, i * 2 + 1, none⟩) (.inr Hg0.out) _⟩⟩, by simp [intOf]; omega⟩
        | false =>
          have Hkp := Lib.hid hkp
          have hfil : (rs.take (j + 1)).filter (keep lo hi) = (rs.take j).filter (keep lo hi) := by
            rw [Hts.out, List.filter_append, List.filter_cons_of_neg (by rw [hkp]; simp), List.filter_nil, List.append_nil]
          have Hfil := Lib.hid hfil
          clear hkp hfil
          go_wp2_with (go_at_call 46; ((with_reducible refine (win1_any (lo := lo) (hi := hi) (Hka.out.alloc _) (Hb.out.no (Hrest.out.2.2.2.alloc _))).mono ?_); rintro en w6 ⟨rfl, hf6⟩; rw [Hkp.out]; (have hF6 := ((Fr.refl No wr).alloc (.cells #[.slice KA ks.length kc, .string s] 33)).tr hf6)))
          go_roundw
          case rel => exact ⟨i, j + 1, rfl, by go_num, by omega, hlt, Lib.hid ⟨rs', HOr.out.no hF6, by rw [Hfil.out]; exact Hrest.out.1, Hds.out, Hrest.out.2.1, by rw [Hfil.out]; exact Hrest.out.2.2.1, Hrest.out.2.2.2.tr hF6⟩⟩
          case measure => simp [intOf]; omega
      · obtain rfl : j = n := by omega
        obtain ⟨w9, hcl, ho9, hf9⟩ := clear_ow hO' (i := i) (by omega)
        have Ho9 := Lib.hid (show Ow w9 w0.heap.size 33 K (some ⟨g, 0, none⟩) i c (rs.filter (keep lo hi)) by
          rw [ht', List.take_of_length_le (by rw [HL.out]; exact Nat.le_refl _)] at ho9
          exact ho9)
        have HF9 := Lib.hid (show Fr No w0 w9 from hF'.trans hf9 (fun k e => .inr (by rw [e]; exact Hg0.out)))
        clear ho9 hf9 hO' ht' hd' hl' hfi' hF'
        go_wp2
        go_ret
        exact ⟨i, rfl, Ho9.out, HF9.out⟩
  · rw [if_neg hf] at hix
    have HE := Lib.hid (filter_all (keep lo hi) rs (by rw [HL.out]; have := HL.out; omega))
    clear hfl hf
    go_enter Try.func45, Try.ntmps45
    go_wp2_with (go_at_call 58; ((with_reducible refine hix.mono ?_); rintro en w5 ⟨rfl, hf5⟩))
    go_ret
    exact ⟨n, rfl, by rw [HE.out]; exact HO.out.no hf5, H0.out.tr hf5⟩
theorem chkB_rng (lo hi : List Nat) (d : Int) : chkB lo hi d = 0 ∨ chkB lo hi d = 1 := by unfold chkB; split <;> simp
/-- The records of a window. -/
def winL (rs : List Rv.Rec) (lo hi : List Nat) (d : Int) : List Rv.Rec := if chkB lo hi d = 0 then rs.filter (keep lo hi) else []
set_option maxRecDepth 8000 in
set_option maxHeartbeats 3200000 in
theorem window_any {L H : Option Addr} {ln lc hn hc : Nat} (h : At w K ga d A n c rs) (hl : Kv w L ln lc lo) (hh : Kv w H hn hc hi) :
    Calls Try.prog 22 #[.pointer (some ⟨ga, 0, none⟩), .agg #[.slice L ln lc, .slice H hn hc]] w fun en w' => ∃ A1 n1 c1, en = .returned (.tuple #[.slice A1 n1 c1, .int .i64 (chkB lo hi d)]) ∧ Ow w' w.heap.size 33 (fun b => w.heap.size ≤ b) A1 n1 c1 (winL rs lo hi d) ∧ Fr No w w' := by
  obtain ⟨c0, c1⟩ := h.cells
  have hga := h.ob.lt
  have HA := Lib.hid h
  have Hl := Lib.hid hl
  have Hh := Lib.hid hh
  have hrl := h.le
  clear h hl hh
  rcases chkB_rng lo hi d with hb | hb
  · have e : winL rs lo hi d = rs.filter (keep lo hi) := by rw [winL, if_pos hb]
    rw [e, hb]
    have Hb := Lib.hid hb
    clear hb e
    go_enter Try.func22, Try.ntmps22
    go_wp2
    (refine wp_region_held_drew (S := fun w' => (w'.cell? ⟨w.heap.size, 0, none⟩ = some (.slice L ln lc) ∧ w'.cell? ⟨w.heap.size, 1, none⟩ = some (.slice H hn hc)) ∧ w'.cell? ⟨ga, 0, none⟩ = some (.int .i64 d)) (by kernel_rfl) ?_ (fun hHeld => ?_); focus ((try dsimp only); (refine ⟨cells2 (t := 35) ?_, ?_⟩; (repeat (first | with_reducible assumption | with_reducible refine Ob.other ?_ (by first | (simp; done) | (simp; omega)) _ | ((with_reducible refine Ob.new_ _ _ _ _ ?_) <;> (simp; done)) | with_reducible refine Ob.alloc ?_ _ | with_reducible refine Ob.drew ?_ | with_reducible refine Ob.drewN ?_ _ | with_reducible refine Ob.no ?_ (by assumption))); (repeat (first | with_reducible assumption | with_reducible refine cel_alloc ?_ _ | with_reducible refine cel_drew ?_ | with_reducible refine cel_drewN ?_ _ | with_reducible refine cel_set ?_ (by first | (simp; done) | (simp; omega)) _ | with_reducible refine cel_no ?_ (by assumption)))); done))
    ((refine wpAnyH_take (i := 0) (v := ?_) rfl (by kernel_rfl) (by kernel_rfl) (by kernel_rfl) (fun _ _ _ h => h) (Or.inl ⟨by rfl, ?_⟩) (by assumption) ?_; rotate_left; focus (intro w hSw; (try dsimp only at hSw); go_simp; (try with_reducible rfl); done)); (try simp only [Act.put, List.setIfInBounds_toArray, List.set_cons_zero, List.set_cons_succ, List.getElem_toArray, List.getElem_cons_zero, List.getElem_cons_succ]); (refine wpAnyH_take (i := 1) (v := ?_) rfl (by kernel_rfl) (by kernel_rfl) (by kernel_rfl) (fun _ _ _ h => h) (Or.inl ⟨by rfl, ?_⟩) (by assumption) ?_; rotate_left; focus (intro w hSw; (try dsimp only at hSw); go_simp; (try with_reducible rfl); done)); (try simp only [Act.put, List.setIfInBounds_toArray, List.set_cons_zero, List.set_cons_succ, List.getElem_toArray, List.getElem_cons_zero, List.getElem_cons_succ]); (refine wpAnyH_take (i := 2) (v := ?_) rfl (by kernel_rfl) (by kernel_rfl) (by kernel_rfl) (fun _ _ _ h => h) (Or.inl ⟨by rfl, ?_⟩) (by assumption) ?_; rotate_left; focus (intro w hSw; (try dsimp only at hSw); go_simp; (try with_reducible rfl); done)); (try simp only [Act.put, List.setIfInBounds_toArray, List.set_cons_zero, List.set_cons_succ, List.getElem_toArray, List.getElem_cons_zero, List.getElem_cons_succ]); (refine wpAnyH_take (i := 3) (v := ?_) rfl (by kernel_rfl) (by kernel_rfl) (by kernel_rfl) (fun _ _ _ h => h) (Or.inl ⟨by rfl, ?_⟩) (by assumption) ?_; rotate_left; focus (intro w hSw; (try dsimp only at hSw); go_simp; (try with_reducible rfl); done)); (try simp only [Act.put, List.setIfInBounds_toArray, List.set_cons_zero, List.set_cons_succ, List.getElem_toArray, List.getElem_cons_zero, List.getElem_cons_succ]); (refine wpAnyH_take (i := 4) (v := ?_) rfl (by kernel_rfl) (by kernel_rfl) (by kernel_rfl) (fun _ _ _ h => h) (Or.inl ⟨by rfl, ?_⟩) (by assumption) ?_; rotate_left; focus (intro w hSw; (try dsimp only at hSw); go_simp; (try with_reducible rfl); done)); (try simp only [Act.put, List.setIfInBounds_toArray, List.set_cons_zero, List.set_cons_succ, List.getElem_toArray, List.getElem_cons_zero, List.getElem_cons_succ]); (refine wpAnyH_take (i := 5) (v := ?_) rfl (by kernel_rfl) (by kernel_rfl) (by kernel_rfl) (fun _ _ _ h => h) (Or.inl ⟨by rfl, ?_⟩) (by assumption) ?_; rotate_left; focus (intro w hSw; (try dsimp only at hSw); go_simp; (try with_reducible rfl); done)); (try simp only [Act.put, List.setIfInBounds_toArray, List.set_cons_zero, List.set_cons_succ, List.getElem_toArray, List.getElem_cons_zero, List.getElem_cons_succ]); (refine wpAnyH_take (i := 6) (v := ?_) rfl (by kernel_rfl) (by kernel_rfl) (by kernel_rfl) (fun _ _ _ h => h) (Or.inl ⟨by rfl, ?_⟩) (by assumption) ?_; rotate_left; focus (intro w hSw; (try dsimp only at hSw); go_simp; (try with_reducible rfl); done)); (try simp only [Act.put, List.setIfInBounds_toArray, List.set_cons_zero, List.set_cons_succ, List.getElem_toArray, List.getElem_cons_zero, List.getElem_cons_succ]); (refine wpAnyH_take (i := 7) (v := ?_) rfl (by kernel_rfl) (by kernel_rfl) (by kernel_rfl) (fun _ _ _ h => h) (Or.inl ⟨by rfl, ?_⟩) (by assumption) ?_; rotate_left; focus (intro w hSw; (try dsimp only at hSw); go_simp; (try with_reducible rfl); done)); (try simp only [Act.put, List.setIfInBounds_toArray, List.set_cons_zero, List.set_cons_succ, List.getElem_toArray, List.getElem_cons_zero, List.getElem_cons_succ]))
    (refine wpAnyH_ready (rs := [8]) (by kernel_rfl) (by simp) ?_; refine AllReadyH.cons rfl (fun K hK => ?_) AllReadyH.nil; (try simp only [Act.put, List.setIfInBounds_toArray, List.set_cons_zero, List.set_cons_succ, List.getElem_toArray, List.getElem_cons_zero, List.getElem_cons_succ]); go_simp; (go_at_call 44; ((with_reducible refine (checkBox_any (lo := lo) (hi := hi) _ ?_ ?_).mono ?_); (focus ((have hk := Hl.out); (repeat (first | with_reducible assumption | ((with_reducible refine Kv.lit_new _ _ _ _ _ _ ?_ ?_ ?_ ?_) <;> (first | (simp; done) | rfl | decide)) | with_reducible exact Kv.none_ _ | with_reducible refine Kv.alloc ?_ _ | with_reducible refine Kv.drew ?_ | with_reducible refine Kv.drewN ?_ _ | with_reducible refine Kv.no ?_ (by assumption))))); (focus ((have hk := Hh.out); (repeat (first | with_reducible assumption | ((with_reducible refine Kv.lit_new _ _ _ _ _ _ ?_ ?_ ?_ ?_) <;> (first | (simp; done) | rfl | decide)) | with_reducible exact Kv.none_ _ | with_reducible refine Kv.alloc ?_ _ | with_reducible refine Kv.drew ?_ | with_reducible refine Kv.drewN ?_ _ | with_reducible refine Kv.no ?_ (by assumption))))); rintro en w5 ⟨rfl, hf5⟩; rw [Hb.out])); (try go_wp2_with fail); refine hK.out _ _ ?_ (fun hHeld => ?_); focus ((try dsimp only); (refine ⟨cells2 (t := 35) ?_, ?_⟩; (repeat (first | with_reducible assumption | with_reducible refine Ob.other ?_ (by first | (simp; done) | (simp; omega)) _ | ((with_reducible refine Ob.new_ _ _ _ _ ?_) <;> (simp; done)) | with_reducible refine Ob.alloc ?_ _ | with_reducible refine Ob.drew ?_ | with_reducible refine Ob.drewN ?_ _ | with_reducible refine Ob.no ?_ (by assumption))); (repeat (first | with_reducible assumption | with_reducible refine cel_alloc ?_ _ | with_reducible refine cel_drew ?_ | with_reducible refine cel_drewN ?_ _ | with_reducible refine cel_set ?_ (by first | (simp; done) | (simp; omega)) _ | with_reducible refine cel_no ?_ (by assumption)))); done)); (clear hK K); (try simp only [Act.put, List.setIfInBounds_toArray, List.set_cons_zero, List.set_cons_succ, List.getElem_toArray, List.getElem_cons_zero, List.getElem_cons_succ])
    ((refine wpAnyH_take (i := 9) (v := ?_) rfl (by kernel_rfl) (by kernel_rfl) (by kernel_rfl) (fun _ _ _ h => h) (Or.inl ⟨by rfl, ?_⟩) (by assumption) ?_; rotate_left; focus (intro w hSw; (try dsimp only at hSw); go_simp; (try with_reducible rfl); done)); (try simp only [Act.put, List.setIfInBounds_toArray, List.set_cons_zero, List.set_cons_succ, List.getElem_toArray, List.getElem_cons_zero, List.getElem_cons_succ]); (refine wpAnyH_take (i := 10) (v := ?_) rfl (by kernel_rfl) (by kernel_rfl) (by kernel_rfl) (fun _ _ _ h => h) (Or.inl ⟨by rfl, ?_⟩) (by assumption) ?_; rotate_left; focus (intro w hSw; (try dsimp only at hSw); go_simp; (try with_reducible rfl); done)); (try simp only [Act.put, List.setIfInBounds_toArray, List.set_cons_zero, List.set_cons_succ, List.getElem_toArray, List.getElem_cons_zero, List.getElem_cons_succ]))
    (refine wpAnyH_done (by kernel_rfl) ?_ _)
    have hf05 : Fr No w w5 := ((Fr.refl No w).alloc _).drew.tr hf5
    have hbb : Bb w5 w.heap.size lo hi := ⟨L, ln, lc, H, hn, hc, ((Ob.new w #[.slice L ln lc, .slice H hn hc] 35).drew).no hf5, Hl.out.no hf05, Hh.out.no hf05⟩
    have Hbb := Lib.hid hbb
    clear hbb
    go_wp2_with first
      | (go_at_call 26; ((with_reducible refine (all_fresh (HA.out.no hf05)).mono ?_); rintro en w6 ⟨A6, n6, c6, rfl, ho6, hf6⟩))
      | (go_at_call 45; ((with_reducible refine (dfunc_any Hbb.out hf6 ho6 (by have := ho6.len; omega)).mono ?_); rintro en w7 ⟨n7, rfl, ho7, hf7⟩))
      | fail
    go_ret2
    exact ⟨A6, n7, c6, rfl, (ho7.base_ hf05.size).mono (fun b hb => Nat.le_trans hf05.size hb), hf05.tr hf7⟩
  · have e : winL rs lo hi d = [] := by rw [winL, if_neg (by rw [hb]; decide)]
    rw [e, hb]
    have Hb := Lib.hid hb
    clear hb e
    go_enter Try.func22, Try.ntmps22
    go_wp2
    (refine wp_region_held_drew (S := fun w' => (w'.cell? ⟨w.heap.size, 0, none⟩ = some (.slice L ln lc) ∧ w'.cell? ⟨w.heap.size, 1, none⟩ = some (.slice H hn hc)) ∧ w'.cell? ⟨ga, 0, none⟩ = some (.int .i64 d)) (by kernel_rfl) ?_ (fun hHeld => ?_); focus ((try dsimp only); (refine ⟨cells2 (t := 35) ?_, ?_⟩; (repeat (first | with_reducible assumption | with_reducible refine Ob.other ?_ (by first | (simp; done) | (simp; omega)) _ | ((with_reducible refine Ob.new_ _ _ _ _ ?_) <;> (simp; done)) | with_reducible refine Ob.alloc ?_ _ | with_reducible refine Ob.drew ?_ | with_reducible refine Ob.drewN ?_ _ | with_reducible refine Ob.no ?_ (by assumption))); (repeat (first | with_reducible assumption | with_reducible refine cel_alloc ?_ _ | with_reducible refine cel_drew ?_ | with_reducible refine cel_drewN ?_ _ | with_reducible refine cel_set ?_ (by first | (simp; done) | (simp; omega)) _ | with_reducible refine cel_no ?_ (by assumption)))); done))
    ((refine wpAnyH_take (i := 0) (v := ?_) rfl (by kernel_rfl) (by kernel_rfl) (by kernel_rfl) (fun _ _ _ h => h) (Or.inl ⟨by rfl, ?_⟩) (by assumption) ?_; rotate_left; focus (intro w hSw; (try dsimp only at hSw); go_simp; (try with_reducible rfl); done)); (try simp only [Act.put, List.setIfInBounds_toArray, List.set_cons_zero, List.set_cons_succ, List.getElem_toArray, List.getElem_cons_zero, List.getElem_cons_succ]); (refine wpAnyH_take (i := 1) (v := ?_) rfl (by kernel_rfl) (by kernel_rfl) (by kernel_rfl) (fun _ _ _ h => h) (Or.inl ⟨by rfl, ?_⟩) (by assumption) ?_; rotate_left; focus (intro w hSw; (try dsimp only at hSw); go_simp; (try with_reducible rfl); done)); (try simp only [Act.put, List.setIfInBounds_toArray, List.set_cons_zero, List.set_cons_succ, List.getElem_toArray, List.getElem_cons_zero, List.getElem_cons_succ]); (refine wpAnyH_take (i := 2) (v := ?_) rfl (by kernel_rfl) (by kernel_rfl) (by kernel_rfl) (fun _ _ _ h => h) (Or.inl ⟨by rfl, ?_⟩) (by assumption) ?_; rotate_left; focus (intro w hSw; (try dsimp only at hSw); go_simp; (try with_reducible rfl); done)); (try simp only [Act.put, List.setIfInBounds_toArray, List.set_cons_zero, List.set_cons_succ, List.getElem_toArray, List.getElem_cons_zero, List.getElem_cons_succ]); (refine wpAnyH_take (i := 3) (v := ?_) rfl (by kernel_rfl) (by kernel_rfl) (by kernel_rfl) (fun _ _ _ h => h) (Or.inl ⟨by rfl, ?_⟩) (by assumption) ?_; rotate_left; focus (intro w hSw; (try dsimp only at hSw); go_simp; (try with_reducible rfl); done)); (try simp only [Act.put, List.setIfInBounds_toArray, List.set_cons_zero, List.set_cons_succ, List.getElem_toArray, List.getElem_cons_zero, List.getElem_cons_succ]); (refine wpAnyH_take (i := 4) (v := ?_) rfl (by kernel_rfl) (by kernel_rfl) (by kernel_rfl) (fun _ _ _ h => h) (Or.inl ⟨by rfl, ?_⟩) (by assumption) ?_; rotate_left; focus (intro w hSw; (try dsimp only at hSw); go_simp; (try with_reducible rfl); done)); (try simp only [Act.put, List.setIfInBounds_toArray, List.set_cons_zero, List.set_cons_succ, List.getElem_toArray, List.getElem_cons_zero, List.getElem_cons_succ]); (refine wpAnyH_take (i := 5) (v := ?_) rfl (by kernel_rfl) (by kernel_rfl) (by kernel_rfl) (fun _ _ _ h => h) (Or.inl ⟨by rfl, ?_⟩) (by assumption) ?_; rotate_left; focus (intro w hSw; (try dsimp only at hSw); go_simp; (try with_reducible rfl); done)); (try simp only [Act.put, List.setIfInBounds_toArray, List.set_cons_zero, List.set_cons_succ, List.getElem_toArray, List.getElem_cons_zero, List.getElem_cons_succ]); (refine wpAnyH_take (i := 6) (v := ?_) rfl (by kernel_rfl) (by kernel_rfl) (by kernel_rfl) (fun _ _ _ h => h) (Or.inl ⟨by rfl, ?_⟩) (by assumption) ?_; rotate_left; focus (intro w hSw; (try dsimp only at hSw); go_simp; (try with_reducible rfl); done)); (try simp only [Act.put, List.setIfInBounds_toArray, List.set_cons_zero, List.set_cons_succ, List.getElem_toArray, List.getElem_cons_zero, List.getElem_cons_succ]); (refine wpAnyH_take (i := 7) (v := ?_) rfl (by kernel_rfl) (by kernel_rfl) (by kernel_rfl) (fun _ _ _ h => h) (Or.inl ⟨by rfl, ?_⟩) (by assumption) ?_; rotate_left; focus (intro w hSw; (try dsimp only at hSw); go_simp; (try with_reducible rfl); done)); (try simp only [Act.put, List.setIfInBounds_toArray, List.set_cons_zero, List.set_cons_succ, List.getElem_toArray, List.getElem_cons_zero, List.getElem_cons_succ]))
    (refine wpAnyH_ready (rs := [8]) (by kernel_rfl) (by simp) ?_; refine AllReadyH.cons rfl (fun K hK => ?_) AllReadyH.nil; (try simp only [Act.put, List.setIfInBounds_toArray, List.set_cons_zero, List.set_cons_succ, List.getElem_toArray, List.getElem_cons_zero, List.getElem_cons_succ]); go_simp; (go_at_call 44; ((with_reducible refine (checkBox_any (lo := lo) (hi := hi) _ ?_ ?_).mono ?_); (focus ((have hk := Hl.out); (repeat (first | with_reducible assumption | ((with_reducible refine Kv.lit_new _ _ _ _ _ _ ?_ ?_ ?_ ?_) <;> (first | (simp; done) | rfl | decide)) | with_reducible exact Kv.none_ _ | with_reducible refine Kv.alloc ?_ _ | with_reducible refine Kv.drew ?_ | with_reducible refine Kv.drewN ?_ _ | with_reducible refine Kv.no ?_ (by assumption))))); (focus ((have hk := Hh.out); (repeat (first | with_reducible assumption | ((with_reducible refine Kv.lit_new _ _ _ _ _ _ ?_ ?_ ?_ ?_) <;> (first | (simp; done) | rfl | decide)) | with_reducible exact Kv.none_ _ | with_reducible refine Kv.alloc ?_ _ | with_reducible refine Kv.drew ?_ | with_reducible refine Kv.drewN ?_ _ | with_reducible refine Kv.no ?_ (by assumption))))); rintro en w5 ⟨rfl, hf5⟩; rw [Hb.out])); (try go_wp2_with fail); refine hK.out _ _ ?_ (fun hHeld => ?_); focus ((try dsimp only); (refine ⟨cells2 (t := 35) ?_, ?_⟩; (repeat (first | with_reducible assumption | with_reducible refine Ob.other ?_ (by first | (simp; done) | (simp; omega)) _ | ((with_reducible refine Ob.new_ _ _ _ _ ?_) <;> (simp; done)) | with_reducible refine Ob.alloc ?_ _ | with_reducible refine Ob.drew ?_ | with_reducible refine Ob.drewN ?_ _ | with_reducible refine Ob.no ?_ (by assumption))); (repeat (first | with_reducible assumption | with_reducible refine cel_alloc ?_ _ | with_reducible refine cel_drew ?_ | with_reducible refine cel_drewN ?_ _ | with_reducible refine cel_set ?_ (by first | (simp; done) | (simp; omega)) _ | with_reducible refine cel_no ?_ (by assumption)))); done)); (clear hK K); (try simp only [Act.put, List.setIfInBounds_toArray, List.set_cons_zero, List.set_cons_succ, List.getElem_toArray, List.getElem_cons_zero, List.getElem_cons_succ])
    ((refine wpAnyH_take (i := 9) (v := ?_) rfl (by kernel_rfl) (by kernel_rfl) (by kernel_rfl) (fun _ _ _ h => h) (Or.inl ⟨by rfl, ?_⟩) (by assumption) ?_; rotate_left; focus (intro w hSw; (try dsimp only at hSw); go_simp; (try with_reducible rfl); done)); (try simp only [Act.put, List.setIfInBounds_toArray, List.set_cons_zero, List.set_cons_succ, List.getElem_toArray, List.getElem_cons_zero, List.getElem_cons_succ]); (refine wpAnyH_take (i := 10) (v := ?_) rfl (by kernel_rfl) (by kernel_rfl) (by kernel_rfl) (fun _ _ _ h => h) (Or.inl ⟨by rfl, ?_⟩) (by assumption) ?_; rotate_left; focus (intro w hSw; (try dsimp only at hSw); go_simp; (try with_reducible rfl); done)); (try simp only [Act.put, List.setIfInBounds_toArray, List.set_cons_zero, List.set_cons_succ, List.getElem_toArray, List.getElem_cons_zero, List.getElem_cons_succ]))
    (refine wpAnyH_done (by kernel_rfl) ?_ _)
    go_wp2
    go_ret2
    exact ⟨none, 0, 0, rfl, Ow.nil_ _ _ _ _, ((Fr.refl No w).alloc _).drew.tr hf5⟩
theorem count_any {L H : Option Addr} {ln lc hn hc : Nat} (h : At w K ga d A n c rs) (hl : Kv w L ln lc lo) (hh : Kv w H hn hc hi) :
    Calls Try.prog 24 #[.pointer (some ⟨ga, 0, none⟩), .agg #[.slice L ln lc, .slice H hn hc]] w fun en w' => en = .returned (.tuple #[.int .i64 ((winL rs lo hi d).length : Nat), .int .i64 (chkB lo hi d)]) ∧ Fr No w w' := by
  have HA := Lib.hid h
  have Hl := Lib.hid hl
  have Hh := Lib.hid hh
  clear h hl hh
  have HW := Lib.hid (fun W (f : Fr No w W) => window_any (HA.out.no f) (Hl.out.no f) (Hh.out.no f))
  generalize winL rs lo hi d = out at *
  generalize chkB lo hi d = ex at *
  have hgl : w.heap.size < (w.alloc (.cells #[.slice L ln lc, .slice H hn hc] 35)).heap.size := by simp
  go_enter Try.func24, Try.ntmps24
  go_wp2_with (go_at_call 22; ((with_reducible refine (HW.out _ ((Fr.refl No w).alloc _)).mono ?_); rintro en w6 ⟨A6, n6, c6, rfl, hv6, hf6⟩; (obtain rfl : out.length = n6 := hv6.len)))
  go_ret2
  exact ⟨rfl, ((Fr.refl No w).alloc _).tr hf6⟩
theorem new_any (d : Int) : Calls Try.prog 8 #[.int .i64 d] w fun en w' => if 1 ≤ d ∧ d ≤ 6 then (∃ ga, w.heap.size ≤ ga ∧ en = .returned (.tuple #[.pointer (some ⟨ga, 0, none⟩), .int .i64 0]) ∧ At w' (fun _ => False) ga d none 0 0 [] ∧ Fr No w w') else (en = .returned (.tuple #[.pointer none, .int .i64 1]) ∧ w = w') := by
  by_cases h1 : d < 1
  · have e : (1 ≤ d ∧ d ≤ 6) = False := by simp; omega
    simp only [e, if_false]
    clear e
    go_enter Try.func8, Try.ntmps8
    go_wp2
    go_ret2
    exact ⟨rfl, rfl⟩
  · by_cases h2 : 6 < d
    · have e : (1 ≤ d ∧ d ≤ 6) = False := by simp; omega
      simp only [e, if_false]
      clear e
      go_enter Try.func8, Try.ntmps8
      go_wp2
      go_ret2
      exact ⟨rfl, rfl⟩
    · have e : (1 ≤ d ∧ d ≤ 6) = True := by simp; omega
      simp only [e, if_true]
      clear e
      go_enter Try.func8, Try.ntmps8
      go_wp2
      go_ret2
      exact ⟨w.heap.size, Nat.le_refl _, rfl, ⟨Ob.new _ _ _, Ow.nil_ _ _ _ _, (fun e => e), (fun e => by cases e), strict_nil, (fun r hr => by simp at hr), by simp⟩, (Fr.refl No w).alloc _⟩
end
end Go.Proofs.Yteckbcfigklkpaa.Af09
