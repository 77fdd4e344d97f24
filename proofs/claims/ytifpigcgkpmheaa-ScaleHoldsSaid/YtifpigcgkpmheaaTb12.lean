/- Layer 12, law: a point is in the box of its cell, and in that of no other one beside it. -/
import Derived.Test.YtifpigcgkpmheaaTa12
import Derived.StillTailTactics
namespace Go.Proofs.Ytifpigcgkpmheaa.Tb12
open Go.RowKit Go.Proofs.Ytifpigcgkpmheaa.Pk08 Go.Proofs.Ytifpigcgkpmheaa.Base Go.Proofs.Ytifpigcgkpmheaa.App Go.Proofs.Ytifpigcgkpmheaa.Ty Go.Proofs.Ytifpigcgkpmheaa.Str Go.Proofs.Ytifpigcgkpmheaa.Ky Go.Proofs.Ytifpigcgkpmheaa.Iv Go.Proofs.Ytifpigcgkpmheaa.Bx Go.Proofs.Ytifpigcgkpmheaa.Bo Go.Proofs.Ytifpigcgkpmheaa.As Go.Proofs.Ytifpigcgkpmheaa.Ro Go.Proofs.Ytifpigcgkpmheaa.Pl08 Go.Proofs.Ytifpigcgkpmheaa.Kc08 Go.Proofs.Ytifpigcgkpmheaa.Ke08 Go.Proofs.Ytifpigcgkpmheaa.Ki08 Go.Proofs.Ytifpigcgkpmheaa.Ka08 Go.Proofs.Ytifpigcgkpmheaa.Ic Go.Proofs.Ytifpigcgkpmheaa.In Go.Proofs.Ytifpigcgkpmheaa.Fa Go.Proofs.Ytifpigcgkpmheaa.Sa12 Go.Proofs.Ytifpigcgkpmheaa.Sb12 Go.Proofs.Ytifpigcgkpmheaa.Sc12 Go.Proofs.Ytifpigcgkpmheaa.Sd12 Go.Proofs.Ytifpigcgkpmheaa.Se12 Go.Proofs.Ytifpigcgkpmheaa.Sf12 Go.Proofs.Ytifpigcgkpmheaa.Sg12 Go.Proofs.Ytifpigcgkpmheaa.Sh12 Go.Proofs.Ytifpigcgkpmheaa.Si12 Go.Proofs.Ytifpigcgkpmheaa.Sk12 Go.Proofs.Ytifpigcgkpmheaa.Sl12 Go.Proofs.Ytifpigcgkpmheaa.St12 Go.Proofs.Ytifpigcgkpmheaa.Sv12 Go.Proofs.Ytifpigcgkpmheaa.Sw12 Go.Proofs.Ytifpigcgkpmheaa.Sw12 Go.Proofs.Ytifpigcgkpmheaa.Sz12 Go.Proofs.Ytifpigcgkpmheaa.Kj08 Go.Proofs.Ytifpigcgkpmheaa.Kh08 Go.Proofs.Ytifpigcgkpmheaa.Ky08 Go.Proofs.Ytifpigcgkpmheaa.Ta12 Go.Proofs.Ytifpigcgkpmheaa.Pm08
set_option linter.unusedVariables false
set_option linter.unusedSimpArgs false
attribute [local go_sem ↓ high] builtin_app
section
variable {rows : List (List Nat)} {ks : List Nat} {xs : List Int} {i j : Nat}
/-- The cell beside a cell. -/
def nxt (xs : List Int) (i : Nat) : List Int := xs.set i (xs.getD i 0 + 1)
theorem nxt_get (h : i < xs.length) : (nxt xs i).getD j 0 = if j = i then xs.getD i 0 + 1 else xs.getD j 0 := by
  unfold nxt; rw [getD_set _ _ _ _ _ h]
theorem nxt_len : (nxt xs i).length = xs.length := by simp [nxt]
theorem beside_no (hl : ks.length = rows.length) (hi : i < rows.length) (h : ¬ itv (rows.getD i []) (ks.getD i 0) + 1 ≤ (rows.getD i []).length) : ¬ boxOk rows (nxt (findL rows ks) i) (nxt (findL rows ks) i) := by
  rintro ⟨_, _, q⟩
  have := q i hi
  rw [nxt_get (by rw [findL_len hl]; exact hi), if_pos rfl, findL_get hl hi] at this
  omega
theorem beside_yes (hg : Gd rows) (hl : ks.length = rows.length) (hi : i < rows.length) (h : itv (rows.getD i []) (ks.getD i 0) + 1 ≤ (rows.getD i []).length) :
    boxOk rows (nxt (findL rows ks) i) (nxt (findL rows ks) i) ∧ inB ks (boxLo rows (nxt (findL rows ks) i)) (boxHi rows (nxt (findL rows ks) i)) = false ∧ (boxLo rows (nxt (findL rows ks) i)).getD i 0 = (boxHi rows (findL rows ks)).getD i 0 + 1 ∧ (boxHi rows (findL rows ks)).getD i 0 + 1 < 4294967296 := by
  have hx : i < (findL rows ks).length := by rw [findL_len hl]; exact hi
  have hn : (nxt (findL rows ks) i).length = rows.length := by rw [nxt_len, findL_len hl]
  have hat := itv_at (rows.getD i []) (ks.getD i 0)
  have hlo : (boxLo rows (nxt (findL rows ks) i)).getD i 0 = (rows.getD i []).getD (itv (rows.getD i []) (ks.getD i 0)) 0 := by
    rw [boxLo_get hn hi, nxt_get hx, if_pos rfl, findL_get hl hi]
    generalize itv (rows.getD i []) (ks.getD i 0) = p at *
    unfold lowV
    rw [show ((p : Int) + 1).toNat = p + 1 by omega, if_neg (by omega), Nat.add_sub_cancel]
  have hhi : (boxHi rows (findL rows ks)).getD i 0 = (rows.getD i []).getD (itv (rows.getD i []) (ks.getD i 0)) 0 - 1 := by
    rw [boxHi_get (findL_len hl) hi, findL_get hl hi, Int.toNat_natCast]
    unfold highV
    rw [if_neg (by omega)]
  have hp := (hg.row hi).2.2 _ (Sz12.getD_in (l := rows.getD i []) (i := itv (rows.getD i []) (ks.getD i 0)) (by omega))
  refine ⟨⟨hn, hn, fun j hj => ?_⟩, ?_, ?_, ?_⟩
  · rw [nxt_get hx]
    have := itv_le (rows.getD j []) (ks.getD j 0)
    split
    · rename_i e
      subst e
      rw [findL_get hl hj]
      omega
    · rw [findL_get hl hj]
      omega
  · cases hc : inB ks (boxLo rows (nxt (findL rows ks) i)) (boxHi rows (nxt (findL rows ks) i)) with
    | false => rfl
    | true =>
      have := (((inB_iff _ _ _).1 hc).2.2 i (by omega)).1
      rw [hlo] at this
      have := hat (by omega)
      omega
  · rw [hlo, hhi]; omega
  · rw [hhi]; omega
end
section
variable {w W : World} {A : Option Addr} {n c : Nat} {xs : List Int}
/-- A list of numbers, copied behind an empty one. -/
theorem app_ints (h : Iv W A n c xs) (hn : n ≤ 1000000) (hn0 : 0 < n) (hlt : ∀ i, i < xs.length → -9223372036854775808 ≤ xs.getD i 0 ∧ xs.getD i 0 ≤ 9223372036854775807) :
    ∃ g c1 w1, (appSem #[32, 32] 32 #[.slice none 0 0, .slice A n c]).run Try.prog W = .ok (.slice (some ⟨g, 0, none⟩) n c1) w1 ∧ w1.ownsRow W.heap.size 3 1 (.slice (some ⟨g, 0, none⟩) n c1) n (i64s xs) ∧ Fr No W w1 := by
  have hl : (i64s xs).length = n := by simp [i64s, h.len]
  obtain ⟨A1, c1, w1, hrun, hown, hgr, hat⟩ := app_eq (P := Try.prog) (w := W) W.heap.size 32 3 (.int .i64 0) 1 8 Try.underlying32 info_int rfl (by decide) (by decide) (World.ownsRow_nil _ _ _ _) A n c (i64s xs) (by omega) h.rc (by intro u hu; simp [i64s] at hu; obtain ⟨a, _, rfl⟩ := hu; rfl) (by omega) (Nat.le_refl _)
  rw [Nat.zero_add] at hrun hown
  rw [List.nil_append] at hown
  have hf : Fr No W w1 := (Fr.refl No W).grown hgr (fun k e => by cases e)
  rcases hown.2 with ⟨h4, h5⟩ | ⟨g, cap, cur, h4, hg, _⟩
  · omega
  · injection h4 with h4
    subst h4
    exact ⟨g, c1, w1, hrun, hown, hf⟩
end
section
variable {E E1 E2 E3 E4 E5 : TypeId} (w : World)
set_option maxRecDepth 8000 in
set_option maxHeartbeats 12800000 in
theorem law_holds (d : Int) (hzd : (Lit.int .i64 d).wf = true) (A : Option Addr) (n c : Nat) (x : List (opT E1 E2 E3 E4).D) (h : Rd (.sl E (opT E1 E2 E3 E4)) w x [.slice A n c]) (K : Option Addr) (kn kc : Nat) (y : List Int) (hy : Rd (.sl E5 (.int .u32)) w y [.slice K kn kc]) :
    Calls Try.prog 4 #[.int .i64 d, .slice A n c, .slice K kn kc] w fun e w' => e = .returned (.bool true) ∧ Fr No w w' := by
  have HS := Lib.hid (Ops.of_rd h)
  have HK := Lib.hid (Kv.of_rd hy)
  generalize y.map Int.toNat = ks at *
  have hmx : maxLen ≤ 9223372036854775807 := by decide
  clear h hzd hy
  by_cases hb : chk kn d = 0
  · have Hb := Lib.hid hb
    obtain ⟨q1, q2, q3⟩ : 1 ≤ d ∧ d ≤ 6 ∧ (kn : Int) = d := by
      unfold chk at hb
      split at hb
      · assumption
      · cases hb
    obtain ⟨d0, rfl⟩ : ∃ d0 : Nat, d = (d0 : Int) := ⟨d.toNat, by omega⟩
    obtain rfl : kn = d0 := by omega
    have HG := Lib.hid (fun W (f : Fr No w W) => grown_in (d := kn) (HS.out.no f) (by omega) (by omega))
    clear hb q3
    go_enter Try.func4, Try.ntmps4
    go_upto_region 4 with first
      | (go_at_call 16; ((with_reducible refine (rcheck_any _ _ _ _ _).mono ?_); rintro en w1 ⟨rfl, rfl⟩; rw [Hb.out]))
      | (go_at_call 17; ((with_reducible refine (HG.out _ (Fr.refl _ _)).mono ?_); rintro en w2 ⟨gs, rows, rfl, hs2, hg, hlen⟩))
      | fail
    have HF2 := Lib.hid hs2.fr
    have hk2 := HK.out.no HF2.out
    have HGd := Lib.hid hg
    have HS2 := Lib.hid hs2
    have hkl : ks.length = rows.length := by rw [hlen, ← hk2.len]
    have HKl := Lib.hid hkl
    have HOk := Lib.hid (find_ok hkl hkl (fun i hi' => Nat.le_refl _))
    have HIn := Lib.hid (in_cell hkl hk2.lt)
    have HFl := Lib.hid (findL_len hkl)
    have HFr := Lib.hid (find_rng hg hkl)
    subst hlen
    have HM := Lib.hid (fun W (f : Fr No w2 W) => os_find (HS2.out.no f) HGd.out (hk2.no f) Hb.out)
    have HBa := Lib.hid (fun (W : World) (f : Fr No w2 W) (X : Option Addr) (xn xc : Nat) (hx : Iv W X xn xc (findL rows ks)) => os_box (HS2.out.no f) HGd.out hx hx (boxLo rows (findL rows ks)) (boxHi rows (findL rows ks)) 0 (fun _ => ⟨rfl, rfl, rfl⟩) (fun e => absurd HOk.out e))
    have HSz := Lib.hid (fun W (f : Fr No w2 W) => os_sizes (HS2.out.no f) HGd.out)
    have H6 := HIn.out
    clear hs2 hg HG hkl HOk HIn
    go_upto_region 6 with first
      | (go_at_call 18; ((with_reducible refine (HM.out _ (Fr.refl _ _)).mono ?_); rintro en w3 ⟨A3, n3, c3, rfl, hi3, hf3, _⟩))
      | (go_at_call 19; ((with_reducible refine (HBa.out _ hf3 _ _ _ hi3).mono ?_); rintro en w4 ⟨A4, n4, c4, B4, m4, d4, rfl, hk4, hq4, hf4, _, _⟩))
      | fail
    obtain rfl : n3 = rows.length := by rw [hi3.len, HFl.out]
    go_upto_region 9 with first
      | (go_at_call 20; ((with_reducible refine (rin_any (k := ks) (lo := boxLo rows (findL rows ks)) (hi := boxHi rows (findL rows ks)) ?_ ?_ ?_).mono ?_); (focus ((repeat (first | with_reducible assumption | ((with_reducible refine Kv.lit_new _ _ _ _ _ _ ?_ ?_ ?_ ?_) <;> (first | (simp; done) | rfl | decide)) | with_reducible exact Kv.none_ _ | with_reducible refine Kv.alloc ?_ _ | with_reducible refine Kv.drew ?_ | with_reducible refine Kv.drewN ?_ _ | with_reducible refine Kv.no ?_ (by assumption))); done)); (focus ((repeat (first | with_reducible assumption | ((with_reducible refine Kv.lit_new _ _ _ _ _ _ ?_ ?_ ?_ ?_) <;> (first | (simp; done) | rfl | decide)) | with_reducible exact Kv.none_ _ | with_reducible refine Kv.alloc ?_ _ | with_reducible refine Kv.drew ?_ | with_reducible refine Kv.drewN ?_ _ | with_reducible refine Kv.no ?_ (by assumption))); done)); (focus ((repeat (first | with_reducible assumption | ((with_reducible refine Kv.lit_new _ _ _ _ _ _ ?_ ?_ ?_ ?_) <;> (first | (simp; done) | rfl | decide)) | with_reducible exact Kv.none_ _ | with_reducible refine Kv.alloc ?_ _ | with_reducible refine Kv.drew ?_ | with_reducible refine Kv.drewN ?_ _ | with_reducible refine Kv.no ?_ (by assumption))); done)); rw [H6]; rintro en w5 ⟨rfl, hf5⟩))
      | (go_at_call 14; ((with_reducible refine (HSz.out _ ?_).mono ?_); (focus ((repeat (first | with_reducible exact Fr.refl _ _ | with_reducible refine Fr.setCell ?_ (.inr (by first | (simp; done) | (simp; omega))) _ | with_reducible refine Fr.alloc ?_ _ | with_reducible refine Fr.drew ?_ | with_reducible refine Fr.drewN ?_ _ | with_reducible refine Fr.tr ?_ (by assumption))); done)); rintro en w6 ⟨A6, n6, c6, rfl, hi6, hf6, _⟩))
      | fail
    have hO6 : Ob w6 w4.heap.size #[.slice A4 n4 c4, .slice B4 m4 d4] 43 := by (repeat (first | with_reducible assumption | with_reducible refine Ob.other ?_ (by first | (simp; done) | (simp; omega)) _ | ((with_reducible refine Ob.new_ _ _ _ _ ?_) <;> (simp; done)) | with_reducible refine Ob.alloc ?_ _ | with_reducible refine Ob.drew ?_ | with_reducible refine Ob.drewN ?_ _ | with_reducible refine Ob.no ?_ (by assumption)))
    have hA6 : Iv w6 A3 rows.length c3 (findL rows ks) := by have hf := hi3; (repeat (first | with_reducible assumption | ((with_reducible refine Iv.lit_new _ _ _ _ _ _ ?_ ?_ ?_ ?_) <;> (first | (simp; done) | rfl | decide)) | with_reducible exact Iv.none_ _ | with_reducible refine Iv.alloc ?_ _ | with_reducible refine Iv.drew ?_ | with_reducible refine Iv.drewN ?_ _ | with_reducible refine Iv.no ?_ (by assumption)))
    have hK6 : Kv w6 K rows.length kc ks := by (repeat (first | with_reducible assumption | ((with_reducible refine Kv.lit_new _ _ _ _ _ _ ?_ ?_ ?_ ?_) <;> (first | (simp; done) | rfl | decide)) | with_reducible exact Kv.none_ _ | with_reducible refine Kv.alloc ?_ _ | with_reducible refine Kv.drew ?_ | with_reducible refine Kv.drewN ?_ _ | with_reducible refine Kv.no ?_ (by assumption)))
    have hB6 : Kv w6 B4 m4 d4 (boxHi rows (findL rows ks)) := by (repeat (first | with_reducible assumption | ((with_reducible refine Kv.lit_new _ _ _ _ _ _ ?_ ?_ ?_ ?_) <;> (first | (simp; done) | rfl | decide)) | with_reducible exact Kv.none_ _ | with_reducible refine Kv.alloc ?_ _ | with_reducible refine Kv.drew ?_ | with_reducible refine Kv.drewN ?_ _ | with_reducible refine Kv.no ?_ (by assumption)))
    have HF6 := Lib.hid (show Fr No w2 w6 by (repeat (first | with_reducible exact Fr.refl _ _ | with_reducible refine Fr.setCell ?_ (.inr (by first | (simp; done) | (simp; omega))) _ | with_reducible refine Fr.alloc ?_ _ | with_reducible refine Fr.drew ?_ | with_reducible refine Fr.drewN ?_ _ | with_reducible refine Fr.tr ?_ (by assumption))))
    obtain rfl : n6 = rows.length := by rw [hi6.len]; simp [sizesL]
    obtain rfl : m4 = rows.length := by rw [hB6.len, boxHi_len HFl.out]
    have HO := Lib.hid hO6
    have HA := Lib.hid hA6
    have HK6 := Lib.hid hK6
    have HB := Lib.hid hB6
    have HI6 := Lib.hid hi6
    have hBc := hB6.cap
    have hBm := hB6.most
    have hSc := hi6.cap
    have hSm := hi6.most
    have hAc := hA6.cap
    have hAm := hA6.most
    have hw46 := hO6.lt
    clear hi3 hf3 hk4 hq4 hf4 hf5 hi6 hf6 hO6 hA6 hK6 hB6 hk2 HM HBa HSz H6 HK
    go_wp2
    go_loopw [13] (fun v wr => ∃ i : Nat, v = .int .i64 i ∧ i ≤ rows.length ∧ Hid (Fr No w6 wr)) (fun v _ => rows.length - (intOf v).toNat)
    case atStart => exact ⟨0, rfl, Nat.zero_le _, Lib.hid (Fr.refl _ _)⟩
    case round =>
      obtain ⟨i, rfl, hin, Hi⟩ := hrel
      by_cases hlt : i < rows.length
      · have Hlt := Lib.hid hlt
        have hA := HA.out.no Hi.out
        obtain ⟨g9, c9, w9, hrun, hown, hf9⟩ := app_ints hA (by omega) (by omega) HFr.out
        have hA9 := hA.no hf9
        obtain ⟨b3, o3, rfl, ca0⟩ := hA9.get i (by rw [HFl.out]; exact hlt)
        have hx : 0 ≤ (findL rows ks).getD i 0 ∧ (findL rows ks).getD i 0 ≤ 63 := by
          rw [findL_get HKl.out hlt]
          have := itv_le (rows.getD i []) (ks.getD i 0)
          have := (HGd.out.row hlt).2.1
          omega
        have HNx := Lib.hid (show (i64s (findL rows ks)).set i (.int .i64 ((findL rows ks).getD i 0 + 1)) = i64s (nxt (findL rows ks) i) by simp [i64s, nxt, List.map_set])
        have hul : i < (i64s (findL rows ks)).length := by simp [i64s, HFl.out]; exact hlt
        obtain ⟨v0, e1⟩ : ∃ v0, w9.cell? ⟨g9, i, none⟩ = some v0 := ⟨_, (hown.cellAt i (by omega)).trans (List.getElem?_eq_getElem hul)⟩
        have e2 := hown.frozenAt i
        have e3 := (hown.stored i (.int .i64 ((findL rows ks).getD i 0 + 1))).1
        rw [HNx.out] at e3
        have HOw := Lib.hid e3
        have hg9 : wr.heap.size ≤ g9 := (hown.lt g9 rfl).1
        have HNr := Lib.hid (show ∀ k, k < (nxt (findL rows ks) i).length → -9223372036854775808 ≤ (nxt (findL rows ks) i).getD k 0 ∧ (nxt (findL rows ks) i).getD k 0 ≤ 9223372036854775807 from fun k hk => by
          rw [nxt_get (by rw [HFl.out]; exact hlt)]
          split
          · omega
          · exact HFr.out k (by rw [nxt_len] at hk; exact hk))
        have HCd := Lib.hid ((HOw.out.cellAt i (by omega)).trans (show (i64s (nxt (findL rows ks) i))[i]? = some (.int .i64 ((findL rows ks).getD i 0 + 1)) by rw [← HNx.out, List.getElem?_set_self hul]))
        clear hul e3 hA hA9 hown HNx
        have hf9w : Fr No w6 w9 := Hi.out.tr hf9
        have hsz := Hi.out.size
        by_cases hok : itv (rows.getD i []) (ks.getD i 0) + 1 ≤ (rows.getD i []).length
        · obtain ⟨hbo, hin', hlo', hhi'⟩ := beside_yes HGd.out HKl.out hlt hok
          have HBn := Lib.hid (fun (W : World) (f : Fr No w2 W) (X : Option Addr) (xn xc : Nat) (hx : Iv W X xn xc (nxt (findL rows ks) i)) => os_box (HS2.out.no f) HGd.out hx hx (boxLo rows (nxt (findL rows ks) i)) (boxHi rows (nxt (findL rows ks) i)) 0 (fun _ => ⟨rfl, rfl, rfl⟩) (fun e => absurd hbo e))
          have hin2 : inB ks (boxLo rows (nxt (findL rows ks) i)) (boxHi rows (nxt (findL rows ks) i)) = false := hin'
          have Hin := Lib.hid hin2
          have Hlo := Lib.hid hlo'
          have Hhi := Lib.hid hhi'
          have hbl := boxLo_len (rows := rows) hbo.1
          have Hbl := Lib.hid hbl
          have Hbh := Lib.hid (boxHi_len (rows := rows) HFl.out)
          have hsv : (sizesL rows).getD i 0 = ((rows.getD i []).length : Int) + 1 := by simp [sizesL, List.getD_eq_getElem?_getD, hlt]
          have hfi := findL_get HKl.out hlt
          have hrl := (HGd.out.row hlt).2.1
          have Hlss := Lib.hid (show (findL rows ks).getD i 0 + 1 < (sizesL rows).getD i 0 by rw [hsv, hfi]; omega)
          obtain ⟨b6, o6, rfl, cs0⟩ := HI6.out.get i (by simpa [sizesL] using hlt)
          obtain ⟨b4, o4, rfl, cb0⟩ := HB.out.get i (by rw [Hbh.out]; exact hlt)
          clear hok hbo hin' hin2 hlo' hhi' hbl hsv hfi
          generalize nxt (findL rows ks) i = ns at *
          generalize (findL rows ks).getD i 0 = xv at *
          generalize (sizesL rows).getD i 0 = sv at *
          go_upto_region 15 with fail
          have HFs := Lib.hid (show Fr No w6 (w9.setCell ⟨g9, i, none⟩ (.int .i64 (xv + 1))) from hf9w.setCell (.inr (by show w6.heap.size ≤ g9; omega)) _)
          generalize hws : w9.setCell ⟨g9, i, none⟩ (.int .i64 (xv + 1)) = ws at *
          have cd0 : ws.cell? ⟨g9, i, none⟩ = some (.int .i64 (xv + 1)) := HCd.out
          go_upto_region 16 with first
            | (go_at_call 19; ((with_reducible refine (HBn.out _ (HF6.out.tr HFs.out) _ _ _ (Iv.of_own HOw.out HNr.out)).mono ?_); rintro en w11 ⟨A11, n11, c11, B11, m11, d11, rfl, hk11, hq11, hf11, _, _⟩))
            | fail
          have hfs := HFs.out
          obtain rfl : n11 = rows.length := by rw [hk11.len, Hbl.out]
          obtain ⟨b11, o11, rfl, cl0⟩ := hk11.get i (by rw [Hbl.out]; exact hlt)
          have HK11 := Lib.hid hk11
          have HQ11 := Lib.hid hq11
          have cx0 := (HO.out.cell 1 rfl)
          simp only [List.getElem_toArray, List.getElem_cons_succ, List.getElem_cons_zero] at cx0
          have hc11 := hk11.cap
          have hm11 := hk11.most
          have hc9 := own_cap HOw.out
          rw [Hlo.out] at cl0
          have hHi := Hhi.out
          have hHx := Hin.out
          generalize (boxHi rows (findL rows ks)).getD i 0 = hv at *
          have hw := IntWalk.u32_in ((hv : Int) + 1) (by omega)
          have hlss : decide (xv + 1 < sv) = true := decide_eq_true Hlss.out
          have hnn : ((((hv + 1 : Nat) : Int) == (hv : Int) + 1)) = true := by rw [beq_iff_eq]; omega
          clear hk11 hq11
          (refine wp_region_held_drew (S := fun w' => ((w'.cell? ⟨g9, i, none⟩ = some (.int .i64 (xv + 1)) ∧ w'.cell? ⟨b6, o6 + i, none⟩ = some (.int .i64 sv)) ∧ (w'.cell? ⟨w11.heap.size, 0, none⟩ = some (.slice (some ⟨b11, o11, none⟩) rows.length c11) ∧ w'.cell? ⟨w11.heap.size, 1, none⟩ = some (.slice B11 m11 d11))) ∧ ((w'.cell? ⟨b11, o11 + i, none⟩ = some (.int .u32 ((hv + 1 : Nat) : Int)) ∧ w'.cell? ⟨w4.heap.size, 1, none⟩ = some (.slice (some ⟨b4, o4, none⟩) rows.length d4)) ∧ w'.cell? ⟨b4, o4 + i, none⟩ = some (.int .u32 (hv : Int)))) (by kernel_rfl) ?_ (fun hHeld => ?_); focus ((try dsimp only); (refine ⟨⟨⟨?_, ?_⟩, cells2 (t := 43) ?_⟩, ⟨?_, ?_⟩, ?_⟩; (repeat (first | with_reducible assumption | with_reducible refine cel_alloc ?_ _ | with_reducible refine cel_drew ?_ | with_reducible refine cel_drewN ?_ _ | with_reducible refine cel_set ?_ (by first | (simp; done) | (simp; omega)) _ | with_reducible refine cel_no ?_ (by assumption))); (repeat (first | with_reducible assumption | with_reducible refine cel_alloc ?_ _ | with_reducible refine cel_drew ?_ | with_reducible refine cel_drewN ?_ _ | with_reducible refine cel_set ?_ (by first | (simp; done) | (simp; omega)) _ | with_reducible refine cel_no ?_ (by assumption))); (repeat (first | with_reducible assumption | with_reducible refine Ob.other ?_ (by first | (simp; done) | (simp; omega)) _ | ((with_reducible refine Ob.new_ _ _ _ _ ?_) <;> (simp; done)) | with_reducible refine Ob.alloc ?_ _ | with_reducible refine Ob.drew ?_ | with_reducible refine Ob.drewN ?_ _ | with_reducible refine Ob.no ?_ (by assumption))); (repeat (first | with_reducible assumption | with_reducible refine cel_alloc ?_ _ | with_reducible refine cel_drew ?_ | with_reducible refine cel_drewN ?_ _ | with_reducible refine cel_set ?_ (by first | (simp; done) | (simp; omega)) _ | with_reducible refine cel_no ?_ (by assumption))); (repeat (first | with_reducible assumption | with_reducible refine cel_alloc ?_ _ | with_reducible refine cel_drew ?_ | with_reducible refine cel_drewN ?_ _ | with_reducible refine cel_set ?_ (by first | (simp; done) | (simp; omega)) _ | with_reducible refine cel_no ?_ (by assumption))); (repeat (first | with_reducible assumption | with_reducible refine cel_alloc ?_ _ | with_reducible refine cel_drew ?_ | with_reducible refine cel_drewN ?_ _ | with_reducible refine cel_set ?_ (by first | (simp; done) | (simp; omega)) _ | with_reducible refine cel_no ?_ (by assumption)))); done))
          ((refine wpAnyH_take (i := 0) (v := ?_) rfl (by kernel_rfl) (by kernel_rfl) (by kernel_rfl) (fun _ _ _ h => h) (Or.inl ⟨by rfl, ?_⟩) (by assumption) ?_; rotate_left; focus (intro w hSw; (try dsimp only at hSw); go_simp; (try with_reducible rfl); done)); (try simp only [Act.put, List.setIfInBounds_toArray, List.set_cons_zero, List.set_cons_succ, List.getElem_toArray, List.getElem_cons_zero, List.getElem_cons_succ]); (refine wpAnyH_take (i := 1) (v := ?_) rfl (by kernel_rfl) (by kernel_rfl) (by kernel_rfl) (fun _ _ _ h => h) (Or.inl ⟨by rfl, ?_⟩) (by assumption) ?_; rotate_left; focus (intro w hSw; (try dsimp only at hSw); go_simp; (try with_reducible rfl); done)); (try simp only [Act.put, List.setIfInBounds_toArray, List.set_cons_zero, List.set_cons_succ, List.getElem_toArray, List.getElem_cons_zero, List.getElem_cons_succ]); (refine wpAnyH_take (i := 2) (v := ?_) rfl (by kernel_rfl) (by kernel_rfl) (by kernel_rfl) (fun _ _ _ h => h) (Or.inl ⟨by rfl, ?_⟩) (by assumption) ?_; rotate_left; focus (intro w hSw; (try dsimp only at hSw); go_simp; (try with_reducible rfl); done)); (try simp only [Act.put, List.setIfInBounds_toArray, List.set_cons_zero, List.set_cons_succ, List.getElem_toArray, List.getElem_cons_zero, List.getElem_cons_succ]); (refine wpAnyH_take (i := 3) (v := ?_) rfl (by kernel_rfl) (by kernel_rfl) (by kernel_rfl) (fun _ _ _ h => h) (Or.inl ⟨by rfl, ?_⟩) (by assumption) ?_; rotate_left; focus (intro w hSw; (try dsimp only at hSw); go_simp; (try with_reducible rfl); done)); (try simp only [Act.put, List.setIfInBounds_toArray, List.set_cons_zero, List.set_cons_succ, List.getElem_toArray, List.getElem_cons_zero, List.getElem_cons_succ]); (refine wpAnyH_take (i := 4) (v := ?_) rfl (by kernel_rfl) (by kernel_rfl) (by kernel_rfl) (fun _ _ _ h => h) (Or.inl ⟨by rfl, ?_⟩) (by assumption) ?_; rotate_left; focus (intro w hSw; (try dsimp only at hSw); go_simp; (try with_reducible rfl); done)); (try simp only [Act.put, List.setIfInBounds_toArray, List.set_cons_zero, List.set_cons_succ, List.getElem_toArray, List.getElem_cons_zero, List.getElem_cons_succ]); (refine wpAnyH_take (i := 5) (v := ?_) rfl (by kernel_rfl) (by kernel_rfl) (by kernel_rfl) (fun _ _ _ h => h) (Or.inl ⟨by rfl, ?_⟩) (by assumption) ?_; rotate_left; focus (intro w hSw; (try dsimp only at hSw); go_simp; (try with_reducible rfl); done)); (try simp only [Act.put, List.setIfInBounds_toArray, List.set_cons_zero, List.set_cons_succ, List.getElem_toArray, List.getElem_cons_zero, List.getElem_cons_succ]); (refine wpAnyH_take (i := 6) (v := ?_) rfl (by kernel_rfl) (by kernel_rfl) (by kernel_rfl) (fun _ _ _ h => h) (Or.inl ⟨by rfl, ?_⟩) (by assumption) ?_; rotate_left; focus (intro w hSw; (try dsimp only at hSw); go_simp; (try with_reducible rfl); done)); (try simp only [Act.put, List.setIfInBounds_toArray, List.set_cons_zero, List.set_cons_succ, List.getElem_toArray, List.getElem_cons_zero, List.getElem_cons_succ]); (refine wpAnyH_take (i := 7) (v := ?_) rfl (by kernel_rfl) (by kernel_rfl) (by kernel_rfl) (fun _ _ _ h => h) (Or.inl ⟨by rfl, ?_⟩) (by assumption) ?_; rotate_left; focus (intro w hSw; (try dsimp only at hSw); go_simp; (try with_reducible rfl); done)); (try simp only [Act.put, List.setIfInBounds_toArray, List.set_cons_zero, List.set_cons_succ, List.getElem_toArray, List.getElem_cons_zero, List.getElem_cons_succ]); (refine wpAnyH_take (i := 8) (v := ?_) rfl (by kernel_rfl) (by kernel_rfl) (by kernel_rfl) (fun _ _ _ h => h) (Or.inl ⟨by rfl, ?_⟩) (by assumption) ?_; rotate_left; focus (intro w hSw; (try dsimp only at hSw); go_simp; (try with_reducible rfl); done)); (try simp only [Act.put, List.setIfInBounds_toArray, List.set_cons_zero, List.set_cons_succ, List.getElem_toArray, List.getElem_cons_zero, List.getElem_cons_succ]); (refine wpAnyH_take (i := 9) (v := ?_) rfl (by kernel_rfl) (by kernel_rfl) (by kernel_rfl) (fun _ _ _ h => h) (Or.inl ⟨by rfl, ?_⟩) (by assumption) ?_; rotate_left; focus (intro w hSw; (try dsimp only at hSw); go_simp; (try with_reducible rfl); done)); (try simp only [Act.put, List.setIfInBounds_toArray, List.set_cons_zero, List.set_cons_succ, List.getElem_toArray, List.getElem_cons_zero, List.getElem_cons_succ]))
          (refine wpAnyH_take (i := 10) (v := ?_) rfl (by kernel_rfl) (by kernel_rfl) (by kernel_rfl) (fun _ _ _ h => h) (Or.inl ⟨by rfl, ?_⟩) (by assumption) ?_; rotate_left; focus (intro w hSw; (try dsimp only at hSw); go_simp; (try simp only [hlss]); (try with_reducible rfl); done)); (try simp only [Act.put, List.setIfInBounds_toArray, List.set_cons_zero, List.set_cons_succ, List.getElem_toArray, List.getElem_cons_zero, List.getElem_cons_succ])
          ((refine wpAnyH_take (i := 11) (v := ?_) rfl (by kernel_rfl) (by kernel_rfl) (by kernel_rfl) (fun _ _ _ h => h) (Or.inl ⟨by rfl, ?_⟩) (by assumption) ?_; rotate_left; focus (intro w hSw; (try dsimp only at hSw); go_simp; (try with_reducible rfl); done)); (try simp only [Act.put, List.setIfInBounds_toArray, List.set_cons_zero, List.set_cons_succ, List.getElem_toArray, List.getElem_cons_zero, List.getElem_cons_succ]); (refine wpAnyH_take (i := 12) (v := ?_) rfl (by kernel_rfl) (by kernel_rfl) (by kernel_rfl) (fun _ _ _ h => h) (Or.inl ⟨by rfl, ?_⟩) (by assumption) ?_; rotate_left; focus (intro w hSw; (try dsimp only at hSw); go_simp; (try with_reducible rfl); done)); (try simp only [Act.put, List.setIfInBounds_toArray, List.set_cons_zero, List.set_cons_succ, List.getElem_toArray, List.getElem_cons_zero, List.getElem_cons_succ]); (refine wpAnyH_take (i := 13) (v := ?_) rfl (by kernel_rfl) (by kernel_rfl) (by kernel_rfl) (fun _ _ _ h => h) (Or.inl ⟨by rfl, ?_⟩) (by assumption) ?_; rotate_left; focus (intro w hSw; (try dsimp only at hSw); go_simp; (try with_reducible rfl); done)); (try simp only [Act.put, List.setIfInBounds_toArray, List.set_cons_zero, List.set_cons_succ, List.getElem_toArray, List.getElem_cons_zero, List.getElem_cons_succ]); (refine wpAnyH_take (i := 14) (v := ?_) rfl (by kernel_rfl) (by kernel_rfl) (by kernel_rfl) (fun _ _ _ h => h) (Or.inl ⟨by rfl, ?_⟩) (by assumption) ?_; rotate_left; focus (intro w hSw; (try dsimp only at hSw); go_simp; (try with_reducible rfl); done)); (try simp only [Act.put, List.setIfInBounds_toArray, List.set_cons_zero, List.set_cons_succ, List.getElem_toArray, List.getElem_cons_zero, List.getElem_cons_succ]); (refine wpAnyH_take (i := 15) (v := ?_) rfl (by kernel_rfl) (by kernel_rfl) (by kernel_rfl) (fun _ _ _ h => h) (Or.inl ⟨by rfl, ?_⟩) (by assumption) ?_; rotate_left; focus (intro w hSw; (try dsimp only at hSw); go_simp; (try with_reducible rfl); done)); (try simp only [Act.put, List.setIfInBounds_toArray, List.set_cons_zero, List.set_cons_succ, List.getElem_toArray, List.getElem_cons_zero, List.getElem_cons_succ]); (refine wpAnyH_take (i := 16) (v := ?_) rfl (by kernel_rfl) (by kernel_rfl) (by kernel_rfl) (fun _ _ _ h => h) (Or.inl ⟨by rfl, ?_⟩) (by assumption) ?_; rotate_left; focus (intro w hSw; (try dsimp only at hSw); go_simp; (try with_reducible rfl); done)); (try simp only [Act.put, List.setIfInBounds_toArray, List.set_cons_zero, List.set_cons_succ, List.getElem_toArray, List.getElem_cons_zero, List.getElem_cons_succ]); (refine wpAnyH_take (i := 17) (v := ?_) rfl (by kernel_rfl) (by kernel_rfl) (by kernel_rfl) (fun _ _ _ h => h) (Or.inl ⟨by rfl, ?_⟩) (by assumption) ?_; rotate_left; focus (intro w hSw; (try dsimp only at hSw); go_simp; (try with_reducible rfl); done)); (try simp only [Act.put, List.setIfInBounds_toArray, List.set_cons_zero, List.set_cons_succ, List.getElem_toArray, List.getElem_cons_zero, List.getElem_cons_succ]))
          (refine wpAnyH_ready (rs := [18]) (by kernel_rfl) (by simp) ?_; refine AllReadyH.cons rfl (fun K hK => ?_) AllReadyH.nil; (try simp only [Act.put, List.setIfInBounds_toArray, List.set_cons_zero, List.set_cons_succ, List.getElem_toArray, List.getElem_cons_zero, List.getElem_cons_succ]); go_simp; (go_at_call 20; ((with_reducible refine (rin_any (k := ks) (lo := boxLo rows ns) (hi := boxHi rows ns) ?_ ?_ ?_).mono ?_); (focus ((have hk := HK6.out); (repeat (first | with_reducible assumption | ((with_reducible refine Kv.lit_new _ _ _ _ _ _ ?_ ?_ ?_ ?_) <;> (first | (simp; done) | rfl | decide)) | with_reducible exact Kv.none_ _ | with_reducible refine Kv.alloc ?_ _ | with_reducible refine Kv.drew ?_ | with_reducible refine Kv.drewN ?_ _ | with_reducible refine Kv.no ?_ (by assumption))); done)); (focus ((have hk := HK11.out); (repeat (first | with_reducible assumption | ((with_reducible refine Kv.lit_new _ _ _ _ _ _ ?_ ?_ ?_ ?_) <;> (first | (simp; done) | rfl | decide)) | with_reducible exact Kv.none_ _ | with_reducible refine Kv.alloc ?_ _ | with_reducible refine Kv.drew ?_ | with_reducible refine Kv.drewN ?_ _ | with_reducible refine Kv.no ?_ (by assumption))); done)); (focus ((have hk := HQ11.out); (repeat (first | with_reducible assumption | ((with_reducible refine Kv.lit_new _ _ _ _ _ _ ?_ ?_ ?_ ?_) <;> (first | (simp; done) | rfl | decide)) | with_reducible exact Kv.none_ _ | with_reducible refine Kv.alloc ?_ _ | with_reducible refine Kv.drew ?_ | with_reducible refine Kv.drewN ?_ _ | with_reducible refine Kv.no ?_ (by assumption))); done)); rw [hHx]; rintro en w12 ⟨rfl, hf12⟩)); (try go_wp2_with fail); refine hK.out _ _ ?_ (fun hHeld => ?_); focus ((try dsimp only); (refine ⟨⟨⟨?_, ?_⟩, cells2 (t := 43) ?_⟩, ⟨?_, ?_⟩, ?_⟩; (repeat (first | with_reducible assumption | with_reducible refine cel_alloc ?_ _ | with_reducible refine cel_drew ?_ | with_reducible refine cel_drewN ?_ _ | with_reducible refine cel_set ?_ (by first | (simp; done) | (simp; omega)) _ | with_reducible refine cel_no ?_ (by assumption))); (repeat (first | with_reducible assumption | with_reducible refine cel_alloc ?_ _ | with_reducible refine cel_drew ?_ | with_reducible refine cel_drewN ?_ _ | with_reducible refine cel_set ?_ (by first | (simp; done) | (simp; omega)) _ | with_reducible refine cel_no ?_ (by assumption))); (repeat (first | with_reducible assumption | with_reducible refine Ob.other ?_ (by first | (simp; done) | (simp; omega)) _ | ((with_reducible refine Ob.new_ _ _ _ _ ?_) <;> (simp; done)) | with_reducible refine Ob.alloc ?_ _ | with_reducible refine Ob.drew ?_ | with_reducible refine Ob.drewN ?_ _ | with_reducible refine Ob.no ?_ (by assumption))); (repeat (first | with_reducible assumption | with_reducible refine cel_alloc ?_ _ | with_reducible refine cel_drew ?_ | with_reducible refine cel_drewN ?_ _ | with_reducible refine cel_set ?_ (by first | (simp; done) | (simp; omega)) _ | with_reducible refine cel_no ?_ (by assumption))); (repeat (first | with_reducible assumption | with_reducible refine cel_alloc ?_ _ | with_reducible refine cel_drew ?_ | with_reducible refine cel_drewN ?_ _ | with_reducible refine cel_set ?_ (by first | (simp; done) | (simp; omega)) _ | with_reducible refine cel_no ?_ (by assumption))); (repeat (first | with_reducible assumption | with_reducible refine cel_alloc ?_ _ | with_reducible refine cel_drew ?_ | with_reducible refine cel_drewN ?_ _ | with_reducible refine cel_set ?_ (by first | (simp; done) | (simp; omega)) _ | with_reducible refine cel_no ?_ (by assumption)))); done)); (clear hK K); (try simp only [Act.put, List.setIfInBounds_toArray, List.set_cons_zero, List.set_cons_succ, List.getElem_toArray, List.getElem_cons_zero, List.getElem_cons_succ])
          ((refine wpAnyH_take (i := 19) (v := ?_) rfl (by kernel_rfl) (by kernel_rfl) (by kernel_rfl) (fun _ _ _ h => h) (Or.inl ⟨by rfl, ?_⟩) (by assumption) ?_; rotate_left; focus (intro w hSw; (try dsimp only at hSw); go_simp; (try with_reducible rfl); done)); (try simp only [Act.put, List.setIfInBounds_toArray, List.set_cons_zero, List.set_cons_succ, List.getElem_toArray, List.getElem_cons_zero, List.getElem_cons_succ]); (refine wpAnyH_take (i := 20) (v := ?_) rfl (by kernel_rfl) (by kernel_rfl) (by kernel_rfl) (fun _ _ _ h => h) (Or.inl ⟨by rfl, ?_⟩) (by assumption) ?_; rotate_left; focus (intro w hSw; (try dsimp only at hSw); go_simp; (try with_reducible rfl); done)); (try simp only [Act.put, List.setIfInBounds_toArray, List.set_cons_zero, List.set_cons_succ, List.getElem_toArray, List.getElem_cons_zero, List.getElem_cons_succ]); (refine wpAnyH_take (i := 21) (v := ?_) rfl (by kernel_rfl) (by kernel_rfl) (by kernel_rfl) (fun _ _ _ h => h) (Or.inl ⟨by rfl, ?_⟩) (by assumption) ?_; rotate_left; focus (intro w hSw; (try dsimp only at hSw); go_simp; (try with_reducible rfl); done)); (try simp only [Act.put, List.setIfInBounds_toArray, List.set_cons_zero, List.set_cons_succ, List.getElem_toArray, List.getElem_cons_zero, List.getElem_cons_succ]); (refine wpAnyH_take (i := 22) (v := ?_) rfl (by kernel_rfl) (by kernel_rfl) (by kernel_rfl) (fun _ _ _ h => h) (Or.inl ⟨by rfl, ?_⟩) (by assumption) ?_; rotate_left; focus (intro w hSw; (try dsimp only at hSw); go_simp; (try with_reducible rfl); done)); (try simp only [Act.put, List.setIfInBounds_toArray, List.set_cons_zero, List.set_cons_succ, List.getElem_toArray, List.getElem_cons_zero, List.getElem_cons_succ]); (refine wpAnyH_take (i := 23) (v := ?_) rfl (by kernel_rfl) (by kernel_rfl) (by kernel_rfl) (fun _ _ _ h => h) (Or.inl ⟨by rfl, ?_⟩) (by assumption) ?_; rotate_left; focus (intro w hSw; (try dsimp only at hSw); go_simp; (try with_reducible rfl); done)); (try simp only [Act.put, List.setIfInBounds_toArray, List.set_cons_zero, List.set_cons_succ, List.getElem_toArray, List.getElem_cons_zero, List.getElem_cons_succ]); (refine wpAnyH_take (i := 24) (v := ?_) rfl (by kernel_rfl) (by kernel_rfl) (by kernel_rfl) (fun _ _ _ h => h) (Or.inl ⟨by rfl, ?_⟩) (by assumption) ?_; rotate_left; focus (intro w hSw; (try dsimp only at hSw); go_simp; (try with_reducible rfl); done)); (try simp only [Act.put, List.setIfInBounds_toArray, List.set_cons_zero, List.set_cons_succ, List.getElem_toArray, List.getElem_cons_zero, List.getElem_cons_succ]); (refine wpAnyH_take (i := 25) (v := ?_) rfl (by kernel_rfl) (by kernel_rfl) (by kernel_rfl) (fun _ _ _ h => h) (Or.inl ⟨by rfl, ?_⟩) (by assumption) ?_; rotate_left; focus (intro w hSw; (try dsimp only at hSw); go_simp; (try with_reducible rfl); done)); (try simp only [Act.put, List.setIfInBounds_toArray, List.set_cons_zero, List.set_cons_succ, List.getElem_toArray, List.getElem_cons_zero, List.getElem_cons_succ]); (refine wpAnyH_take (i := 26) (v := ?_) rfl (by kernel_rfl) (by kernel_rfl) (by kernel_rfl) (fun _ _ _ h => h) (Or.inl ⟨by rfl, ?_⟩) (by assumption) ?_; rotate_left; focus (intro w hSw; (try dsimp only at hSw); go_simp; (try with_reducible rfl); done)); (try simp only [Act.put, List.setIfInBounds_toArray, List.set_cons_zero, List.set_cons_succ, List.getElem_toArray, List.getElem_cons_zero, List.getElem_cons_succ]); (refine wpAnyH_take (i := 27) (v := ?_) rfl (by kernel_rfl) (by kernel_rfl) (by kernel_rfl) (fun _ _ _ h => h) (Or.inl ⟨by rfl, ?_⟩) (by assumption) ?_; rotate_left; focus (intro w hSw; (try dsimp only at hSw); go_simp; (try with_reducible rfl); done)); (try simp only [Act.put, List.setIfInBounds_toArray, List.set_cons_zero, List.set_cons_succ, List.getElem_toArray, List.getElem_cons_zero, List.getElem_cons_succ]); (refine wpAnyH_take (i := 28) (v := ?_) rfl (by kernel_rfl) (by kernel_rfl) (by kernel_rfl) (fun _ _ _ h => h) (Or.inl ⟨by rfl, ?_⟩) (by assumption) ?_; rotate_left; focus (intro w hSw; (try dsimp only at hSw); go_simp; (try with_reducible rfl); done)); (try simp only [Act.put, List.setIfInBounds_toArray, List.set_cons_zero, List.set_cons_succ, List.getElem_toArray, List.getElem_cons_zero, List.getElem_cons_succ]); (refine wpAnyH_take (i := 29) (v := ?_) rfl (by kernel_rfl) (by kernel_rfl) (by kernel_rfl) (fun _ _ _ h => h) (Or.inl ⟨by rfl, ?_⟩) (by assumption) ?_; rotate_left; focus (intro w hSw; (try dsimp only at hSw); go_simp; (try with_reducible rfl); done)); (try simp only [Act.put, List.setIfInBounds_toArray, List.set_cons_zero, List.set_cons_succ, List.getElem_toArray, List.getElem_cons_zero, List.getElem_cons_succ]))
          (refine wpAnyH_take (i := 30) (v := ?_) rfl (by kernel_rfl) (by kernel_rfl) (by kernel_rfl) (fun _ _ _ h => h) (Or.inl ⟨by rfl, ?_⟩) (by assumption) ?_; rotate_left; focus (intro w hSw; (try dsimp only at hSw); go_simp; (try simp only [hw]); (try with_reducible rfl); done)); (try simp only [Act.put, List.setIfInBounds_toArray, List.set_cons_zero, List.set_cons_succ, List.getElem_toArray, List.getElem_cons_zero, List.getElem_cons_succ])
          ((refine wpAnyH_take (i := 31) (v := ?_) rfl (by kernel_rfl) (by kernel_rfl) (by kernel_rfl) (fun _ _ _ h => h) (Or.inl ⟨by rfl, ?_⟩) (by assumption) ?_; rotate_left; focus (intro w hSw; (try dsimp only at hSw); go_simp; (try with_reducible rfl); done)); (try simp only [Act.put, List.setIfInBounds_toArray, List.set_cons_zero, List.set_cons_succ, List.getElem_toArray, List.getElem_cons_zero, List.getElem_cons_succ]); (refine wpAnyH_take (i := 32) (v := ?_) rfl (by kernel_rfl) (by kernel_rfl) (by kernel_rfl) (fun _ _ _ h => h) (Or.inl ⟨by rfl, ?_⟩) (by assumption) ?_; rotate_left; focus (intro w hSw; (try dsimp only at hSw); go_simp; (try with_reducible rfl); done)); (try simp only [Act.put, List.setIfInBounds_toArray, List.set_cons_zero, List.set_cons_succ, List.getElem_toArray, List.getElem_cons_zero, List.getElem_cons_succ]); (refine wpAnyH_take (i := 33) (v := ?_) rfl (by kernel_rfl) (by kernel_rfl) (by kernel_rfl) (fun _ _ _ h => h) (Or.inl ⟨by rfl, ?_⟩) (by assumption) ?_; rotate_left; focus (intro w hSw; (try dsimp only at hSw); go_simp; (try with_reducible rfl); done)); (try simp only [Act.put, List.setIfInBounds_toArray, List.set_cons_zero, List.set_cons_succ, List.getElem_toArray, List.getElem_cons_zero, List.getElem_cons_succ]); (refine wpAnyH_take (i := 34) (v := ?_) rfl (by kernel_rfl) (by kernel_rfl) (by kernel_rfl) (fun _ _ _ h => h) (Or.inl ⟨by rfl, ?_⟩) (by assumption) ?_; rotate_left; focus (intro w hSw; (try dsimp only at hSw); go_simp; (try with_reducible rfl); done)); (try simp only [Act.put, List.setIfInBounds_toArray, List.set_cons_zero, List.set_cons_succ, List.getElem_toArray, List.getElem_cons_zero, List.getElem_cons_succ]))
          (refine wpAnyH_done (by kernel_rfl) ?_ _)
          (try go_wp2)
          go_roundw
          case rel => exact ⟨i + 1, by go_num, Hlt.out, Lib.hid ((((HFs.out.tr hf11).alloc _).drew).tr hf12)⟩
          case measure => have := Hlt.out; simp [intOf]; omega
        · have hbo := beside_no HKl.out hlt hok
          have HBn := Lib.hid (fun (W : World) (f : Fr No w2 W) (X : Option Addr) (xn xc : Nat) (hx : Iv W X xn xc (nxt (findL rows ks) i)) => os_box (HS2.out.no f) HGd.out hx hx [] [] 1 (fun e => absurd e hbo) (fun _ => ⟨rfl, rfl, rfl⟩))
          have hsv : (sizesL rows).getD i 0 = ((rows.getD i []).length : Int) + 1 := by simp [sizesL, List.getD_eq_getElem?_getD, hlt]
          have hfi := findL_get HKl.out hlt
          have Hlss := Lib.hid (show ¬ (findL rows ks).getD i 0 + 1 < (sizesL rows).getD i 0 by rw [hsv, hfi]; omega)
          obtain ⟨b6, o6, rfl, cs0⟩ := HI6.out.get i (by simpa [sizesL] using hlt)
          clear hok hbo hsv hfi
          generalize nxt (findL rows ks) i = ns at *
          generalize (findL rows ks).getD i 0 = xv at *
          generalize (sizesL rows).getD i 0 = sv at *
          go_upto_region 15 with fail
          have HFs := Lib.hid (show Fr No w6 (w9.setCell ⟨g9, i, none⟩ (.int .i64 (xv + 1))) from hf9w.setCell (.inr (by show w6.heap.size ≤ g9; omega)) _)
          generalize hws : w9.setCell ⟨g9, i, none⟩ (.int .i64 (xv + 1)) = ws at *
          have cd0 : ws.cell? ⟨g9, i, none⟩ = some (.int .i64 (xv + 1)) := HCd.out
          go_upto_region 16 with first
            | (go_at_call 19; ((with_reducible refine (HBn.out _ (HF6.out.tr HFs.out) _ _ _ (Iv.of_own HOw.out HNr.out)).mono ?_); rintro en w11 ⟨A11, n11, c11, B11, m11, d11, rfl, hk11, hq11, hf11, _, _⟩))
            | fail
          have hfs := HFs.out
          have hc9 := own_cap HOw.out
          have hlss : decide (xv + 1 < sv) = false := decide_eq_false (Int.not_lt.2 Hlss.out)
          clear hk11 hq11
          (refine wp_region_held_drew (S := fun w' => w'.cell? ⟨g9, i, none⟩ = some (.int .i64 (xv + 1)) ∧ w'.cell? ⟨b6, o6 + i, none⟩ = some (.int .i64 sv)) (by kernel_rfl) ?_ (fun hHeld => ?_); focus ((try dsimp only); (refine ⟨?_, ?_⟩; (repeat (first | with_reducible assumption | with_reducible refine cel_alloc ?_ _ | with_reducible refine cel_drew ?_ | with_reducible refine cel_drewN ?_ _ | with_reducible refine cel_set ?_ (by first | (simp; done) | (simp; omega)) _ | with_reducible refine cel_no ?_ (by assumption))); (repeat (first | with_reducible assumption | with_reducible refine cel_alloc ?_ _ | with_reducible refine cel_drew ?_ | with_reducible refine cel_drewN ?_ _ | with_reducible refine cel_set ?_ (by first | (simp; done) | (simp; omega)) _ | with_reducible refine cel_no ?_ (by assumption)))); done))
          ((refine wpAnyH_take (i := 0) (v := ?_) rfl (by kernel_rfl) (by kernel_rfl) (by kernel_rfl) (fun _ _ _ h => h) (Or.inl ⟨by rfl, ?_⟩) (by assumption) ?_; rotate_left; focus (intro w hSw; (try dsimp only at hSw); go_simp; (try with_reducible rfl); done)); (try simp only [Act.put, List.setIfInBounds_toArray, List.set_cons_zero, List.set_cons_succ, List.getElem_toArray, List.getElem_cons_zero, List.getElem_cons_succ]); (refine wpAnyH_take (i := 1) (v := ?_) rfl (by kernel_rfl) (by kernel_rfl) (by kernel_rfl) (fun _ _ _ h => h) (Or.inl ⟨by rfl, ?_⟩) (by assumption) ?_; rotate_left; focus (intro w hSw; (try dsimp only at hSw); go_simp; (try with_reducible rfl); done)); (try simp only [Act.put, List.setIfInBounds_toArray, List.set_cons_zero, List.set_cons_succ, List.getElem_toArray, List.getElem_cons_zero, List.getElem_cons_succ]); (refine wpAnyH_take (i := 2) (v := ?_) rfl (by kernel_rfl) (by kernel_rfl) (by kernel_rfl) (fun _ _ _ h => h) (Or.inl ⟨by rfl, ?_⟩) (by assumption) ?_; rotate_left; focus (intro w hSw; (try dsimp only at hSw); go_simp; (try with_reducible rfl); done)); (try simp only [Act.put, List.setIfInBounds_toArray, List.set_cons_zero, List.set_cons_succ, List.getElem_toArray, List.getElem_cons_zero, List.getElem_cons_succ]); (refine wpAnyH_take (i := 3) (v := ?_) rfl (by kernel_rfl) (by kernel_rfl) (by kernel_rfl) (fun _ _ _ h => h) (Or.inl ⟨by rfl, ?_⟩) (by assumption) ?_; rotate_left; focus (intro w hSw; (try dsimp only at hSw); go_simp; (try with_reducible rfl); done)); (try simp only [Act.put, List.setIfInBounds_toArray, List.set_cons_zero, List.set_cons_succ, List.getElem_toArray, List.getElem_cons_zero, List.getElem_cons_succ]); (refine wpAnyH_take (i := 4) (v := ?_) rfl (by kernel_rfl) (by kernel_rfl) (by kernel_rfl) (fun _ _ _ h => h) (Or.inl ⟨by rfl, ?_⟩) (by assumption) ?_; rotate_left; focus (intro w hSw; (try dsimp only at hSw); go_simp; (try with_reducible rfl); done)); (try simp only [Act.put, List.setIfInBounds_toArray, List.set_cons_zero, List.set_cons_succ, List.getElem_toArray, List.getElem_cons_zero, List.getElem_cons_succ]); (refine wpAnyH_take (i := 5) (v := ?_) rfl (by kernel_rfl) (by kernel_rfl) (by kernel_rfl) (fun _ _ _ h => h) (Or.inl ⟨by rfl, ?_⟩) (by assumption) ?_; rotate_left; focus (intro w hSw; (try dsimp only at hSw); go_simp; (try with_reducible rfl); done)); (try simp only [Act.put, List.setIfInBounds_toArray, List.set_cons_zero, List.set_cons_succ, List.getElem_toArray, List.getElem_cons_zero, List.getElem_cons_succ]); (refine wpAnyH_take (i := 6) (v := ?_) rfl (by kernel_rfl) (by kernel_rfl) (by kernel_rfl) (fun _ _ _ h => h) (Or.inl ⟨by rfl, ?_⟩) (by assumption) ?_; rotate_left; focus (intro w hSw; (try dsimp only at hSw); go_simp; (try with_reducible rfl); done)); (try simp only [Act.put, List.setIfInBounds_toArray, List.set_cons_zero, List.set_cons_succ, List.getElem_toArray, List.getElem_cons_zero, List.getElem_cons_succ]); (refine wpAnyH_take (i := 7) (v := ?_) rfl (by kernel_rfl) (by kernel_rfl) (by kernel_rfl) (fun _ _ _ h => h) (Or.inl ⟨by rfl, ?_⟩) (by assumption) ?_; rotate_left; focus (intro w hSw; (try dsimp only at hSw); go_simp; (try with_reducible rfl); done)); (try simp only [Act.put, List.setIfInBounds_toArray, List.set_cons_zero, List.set_cons_succ, List.getElem_toArray, List.getElem_cons_zero, List.getElem_cons_succ]); (refine wpAnyH_take (i := 8) (v := ?_) rfl (by kernel_rfl) (by kernel_rfl) (by kernel_rfl) (fun _ _ _ h => h) (Or.inl ⟨by rfl, ?_⟩) (by assumption) ?_; rotate_left; focus (intro w hSw; (try dsimp only at hSw); go_simp; (try with_reducible rfl); done)); (try simp only [Act.put, List.setIfInBounds_toArray, List.set_cons_zero, List.set_cons_succ, List.getElem_toArray, List.getElem_cons_zero, List.getElem_cons_succ]); (refine wpAnyH_take (i := 9) (v := ?_) rfl (by kernel_rfl) (by kernel_rfl) (by kernel_rfl) (fun _ _ _ h => h) (Or.inl ⟨by rfl, ?_⟩) (by assumption) ?_; rotate_left; focus (intro w hSw; (try dsimp only at hSw); go_simp; (try with_reducible rfl); done)); (try simp only [Act.put, List.setIfInBounds_toArray, List.set_cons_zero, List.set_cons_succ, List.getElem_toArray, List.getElem_cons_zero, List.getElem_cons_succ]))
          (refine wpAnyH_take (i := 10) (v := ?_) rfl (by kernel_rfl) (by kernel_rfl) (by kernel_rfl) (fun _ _ _ h => h) (Or.inl ⟨by rfl, ?_⟩) (by assumption) ?_; rotate_left; focus (intro w hSw; (try dsimp only at hSw); go_simp; (try simp only [hlss]); (try with_reducible rfl); done)); (try simp only [Act.put, List.setIfInBounds_toArray, List.set_cons_zero, List.set_cons_succ, List.getElem_toArray, List.getElem_cons_zero, List.getElem_cons_succ])
          ((refine wpAnyH_take (i := 11) (v := ?_) rfl (by kernel_rfl) (by kernel_rfl) (by kernel_rfl) (fun _ _ _ h => h) (Or.inl ⟨by rfl, ?_⟩) (by assumption) ?_; rotate_left; focus (intro w hSw; (try dsimp only at hSw); go_simp; (try with_reducible rfl); done)); (try simp only [Act.put, List.setIfInBounds_toArray, List.set_cons_zero, List.set_cons_succ, List.getElem_toArray, List.getElem_cons_zero, List.getElem_cons_succ]); (refine wpAnyH_take (i := 12) (v := ?_) rfl (by kernel_rfl) (by kernel_rfl) (by kernel_rfl) (fun _ _ _ h => h) (Or.inl ⟨by rfl, ?_⟩) (by assumption) ?_; rotate_left; focus (intro w hSw; (try dsimp only at hSw); go_simp; (try with_reducible rfl); done)); (try simp only [Act.put, List.setIfInBounds_toArray, List.set_cons_zero, List.set_cons_succ, List.getElem_toArray, List.getElem_cons_zero, List.getElem_cons_succ]); (refine wpAnyH_take (i := 13) (v := ?_) rfl (by kernel_rfl) (by kernel_rfl) (by kernel_rfl) (fun _ _ _ h => h) (Or.inl ⟨by rfl, ?_⟩) (by assumption) ?_; rotate_left; focus (intro w hSw; (try dsimp only at hSw); go_simp; (try with_reducible rfl); done)); (try simp only [Act.put, List.setIfInBounds_toArray, List.set_cons_zero, List.set_cons_succ, List.getElem_toArray, List.getElem_cons_zero, List.getElem_cons_succ]); (refine wpAnyH_take (i := 14) (v := ?_) rfl (by kernel_rfl) (by kernel_rfl) (by kernel_rfl) (fun _ _ _ h => h) (Or.inl ⟨by rfl, ?_⟩) (by assumption) ?_; rotate_left; focus (intro w hSw; (try dsimp only at hSw); go_simp; (try with_reducible rfl); done)); (try simp only [Act.put, List.setIfInBounds_toArray, List.set_cons_zero, List.set_cons_succ, List.getElem_toArray, List.getElem_cons_zero, List.getElem_cons_succ]); (refine wpAnyH_take (i := 15) (v := ?_) rfl (by kernel_rfl) (by kernel_rfl) (by kernel_rfl) (fun _ _ _ h => h) (Or.inl ⟨by rfl, ?_⟩) (by assumption) ?_; rotate_left; focus (intro w hSw; (try dsimp only at hSw); go_simp; (try with_reducible rfl); done)); (try simp only [Act.put, List.setIfInBounds_toArray, List.set_cons_zero, List.set_cons_succ, List.getElem_toArray, List.getElem_cons_zero, List.getElem_cons_succ]))
          ((refine wpAnyH_take (i := 16) (v := undef) rfl (by kernel_rfl) (by kernel_rfl) (by kernel_rfl) (fun _ _ _ h => h) (Or.inr ⟨by rfl, rfl⟩) (by assumption) ?_); (try simp only [Act.put, List.setIfInBounds_toArray, List.set_cons_zero, List.set_cons_succ, List.getElem_toArray, List.getElem_cons_zero, List.getElem_cons_succ]); (refine wpAnyH_take (i := 17) (v := undef) rfl (by kernel_rfl) (by kernel_rfl) (by kernel_rfl) (fun _ _ _ h => h) (Or.inr ⟨by rfl, rfl⟩) (by assumption) ?_); (try simp only [Act.put, List.setIfInBounds_toArray, List.set_cons_zero, List.set_cons_succ, List.getElem_toArray, List.getElem_cons_zero, List.getElem_cons_succ]); (refine wpAnyH_take (i := 18) (v := undef) rfl (by kernel_rfl) (by kernel_rfl) (by kernel_rfl) (fun _ _ _ h => h) (Or.inr ⟨by rfl, rfl⟩) (by assumption) ?_); (try simp only [Act.put, List.setIfInBounds_toArray, List.set_cons_zero, List.set_cons_succ, List.getElem_toArray, List.getElem_cons_zero, List.getElem_cons_succ]); (refine wpAnyH_take (i := 19) (v := undef) rfl (by kernel_rfl) (by kernel_rfl) (by kernel_rfl) (fun _ _ _ h => h) (Or.inr ⟨by rfl, rfl⟩) (by assumption) ?_); (try simp only [Act.put, List.setIfInBounds_toArray, List.set_cons_zero, List.set_cons_succ, List.getElem_toArray, List.getElem_cons_zero, List.getElem_cons_succ]); (refine wpAnyH_take (i := 20) (v := undef) rfl (by kernel_rfl) (by kernel_rfl) (by kernel_rfl) (fun _ _ _ h => h) (Or.inr ⟨by rfl, rfl⟩) (by assumption) ?_); (try simp only [Act.put, List.setIfInBounds_toArray, List.set_cons_zero, List.set_cons_succ, List.getElem_toArray, List.getElem_cons_zero, List.getElem_cons_succ]); (refine wpAnyH_take (i := 21) (v := undef) rfl (by kernel_rfl) (by kernel_rfl) (by kernel_rfl) (fun _ _ _ h => h) (Or.inr ⟨by rfl, rfl⟩) (by assumption) ?_); (try simp only [Act.put, List.setIfInBounds_toArray, List.set_cons_zero, List.set_cons_succ, List.getElem_toArray, List.getElem_cons_zero, List.getElem_cons_succ]); (refine wpAnyH_take (i := 22) (v := undef) rfl (by kernel_rfl) (by kernel_rfl) (by kernel_rfl) (fun _ _ _ h => h) (Or.inr ⟨by rfl, rfl⟩) (by assumption) ?_); (try simp only [Act.put, List.setIfInBounds_toArray, List.set_cons_zero, List.set_cons_succ, List.getElem_toArray, List.getElem_cons_zero, List.getElem_cons_succ]); (refine wpAnyH_take (i := 23) (v := undef) rfl (by kernel_rfl) (by kernel_rfl) (by kernel_rfl) (fun _ _ _ h => h) (Or.inr ⟨by rfl, rfl⟩) (by assumption) ?_); (try simp only [Act.put, List.setIfInBounds_toArray, List.set_cons_zero, List.set_cons_succ, List.getElem_toArray, List.getElem_cons_zero, List.getElem_cons_succ]); (refine wpAnyH_take (i := 24) (v := undef) rfl (by kernel_rfl) (by kernel_rfl) (by kernel_rfl) (fun _ _ _ h => h) (Or.inr ⟨by rfl, rfl⟩) (by assumption) ?_); (try simp only [Act.put, List.setIfInBounds_toArray, List.set_cons_zero, List.set_cons_succ, List.getElem_toArray, List.getElem_cons_zero, List.getElem_cons_succ]); (refine wpAnyH_take (i := 25) (v := undef) rfl (by kernel_rfl) (by kernel_rfl) (by kernel_rfl) (fun _ _ _ h => h) (Or.inr ⟨by rfl, rfl⟩) (by assumption) ?_); (try simp only [Act.put, List.setIfInBounds_toArray, List.set_cons_zero, List.set_cons_succ, List.getElem_toArray, List.getElem_cons_zero, List.getElem_cons_succ]); (refine wpAnyH_take (i := 26) (v := undef) rfl (by kernel_rfl) (by kernel_rfl) (by kernel_rfl) (fun _ _ _ h => h) (Or.inr ⟨by rfl, rfl⟩) (by assumption) ?_); (try simp only [Act.put, List.setIfInBounds_toArray, List.set_cons_zero, List.set_cons_succ, List.getElem_toArray, List.getElem_cons_zero, List.getElem_cons_succ]); (refine wpAnyH_take (i := 27) (v := undef) rfl (by kernel_rfl) (by kernel_rfl) (by kernel_rfl) (fun _ _ _ h => h) (Or.inr ⟨by rfl, rfl⟩) (by assumption) ?_); (try simp only [Act.put, List.setIfInBounds_toArray, List.set_cons_zero, List.set_cons_succ, List.getElem_toArray, List.getElem_cons_zero, List.getElem_cons_succ]); (refine wpAnyH_take (i := 28) (v := undef) rfl (by kernel_rfl) (by kernel_rfl) (by kernel_rfl) (fun _ _ _ h => h) (Or.inr ⟨by rfl, rfl⟩) (by assumption) ?_); (try simp only [Act.put, List.setIfInBounds_toArray, List.set_cons_zero, List.set_cons_succ, List.getElem_toArray, List.getElem_cons_zero, List.getElem_cons_succ]); (refine wpAnyH_take (i := 29) (v := undef) rfl (by kernel_rfl) (by kernel_rfl) (by kernel_rfl) (fun _ _ _ h => h) (Or.inr ⟨by rfl, rfl⟩) (by assumption) ?_); (try simp only [Act.put, List.setIfInBounds_toArray, List.set_cons_zero, List.set_cons_succ, List.getElem_toArray, List.getElem_cons_zero, List.getElem_cons_succ]); (refine wpAnyH_take (i := 30) (v := undef) rfl (by kernel_rfl) (by kernel_rfl) (by kernel_rfl) (fun _ _ _ h => h) (Or.inr ⟨by rfl, rfl⟩) (by assumption) ?_); (try simp only [Act.put, List.setIfInBounds_toArray, List.set_cons_zero, List.set_cons_succ, List.getElem_toArray, List.getElem_cons_zero, List.getElem_cons_succ]); (refine wpAnyH_take (i := 31) (v := undef) rfl (by kernel_rfl) (by kernel_rfl) (by kernel_rfl) (fun _ _ _ h => h) (Or.inr ⟨by rfl, rfl⟩) (by assumption) ?_); (try simp only [Act.put, List.setIfInBounds_toArray, List.set_cons_zero, List.set_cons_succ, List.getElem_toArray, List.getElem_cons_zero, List.getElem_cons_succ]); (refine wpAnyH_take (i := 32) (v := undef) rfl (by kernel_rfl) (by kernel_rfl) (by kernel_rfl) (fun _ _ _ h => h) (Or.inr ⟨by rfl, rfl⟩) (by assumption) ?_); (try simp only [Act.put, List.setIfInBounds_toArray, List.set_cons_zero, List.set_cons_succ, List.getElem_toArray, List.getElem_cons_zero, List.getElem_cons_succ]))
          ((refine wpAnyH_take (i := 33) (v := ?_) rfl (by kernel_rfl) (by kernel_rfl) (by kernel_rfl) (fun _ _ _ h => h) (Or.inl ⟨by rfl, ?_⟩) (by assumption) ?_; rotate_left; focus (intro w hSw; (try dsimp only at hSw); go_simp; (try with_reducible rfl); done)); (try simp only [Act.put, List.setIfInBounds_toArray, List.set_cons_zero, List.set_cons_succ, List.getElem_toArray, List.getElem_cons_zero, List.getElem_cons_succ]); (refine wpAnyH_take (i := 34) (v := ?_) rfl (by kernel_rfl) (by kernel_rfl) (by kernel_rfl) (fun _ _ _ h => h) (Or.inl ⟨by rfl, ?_⟩) (by assumption) ?_; rotate_left; focus (intro w hSw; (try dsimp only at hSw); go_simp; (try with_reducible rfl); done)); (try simp only [Act.put, List.setIfInBounds_toArray, List.set_cons_zero, List.set_cons_succ, List.getElem_toArray, List.getElem_cons_zero, List.getElem_cons_succ]))
          (refine wpAnyH_done (by kernel_rfl) ?_ _)
          (try go_wp2)
          go_roundw
          case rel => exact ⟨i + 1, by go_num, Hlt.out, Lib.hid (((HFs.out.tr hf11).alloc _).drew)⟩
          case measure => have := Hlt.out; simp [intOf]; omega
      · obtain rfl : i = rows.length := by omega
        go_wp2_with (go_at_call 9; ((with_reducible refine (live _).mono ?_); rintro e wl ⟨rfl, hfl⟩))
        go_ret
        exact ⟨rfl, ((HF2.out.tr HF6.out).tr Hi.out).tr hfl⟩
  · have hb1 : chk kn d = 1 := by unfold chk at hb ⊢; split <;> simp_all
    have Hb := Lib.hid hb1
    clear hb hb1
    go_enter Try.func4, Try.ntmps4
    go_wp2_with first
      | (go_at_call 16; ((with_reducible refine (rcheck_any _ _ _ _ _).mono ?_); rintro en w1 ⟨rfl, rfl⟩; rw [Hb.out]))
      | (go_at_call 9; ((with_reducible refine (live _).mono ?_); rintro e wl ⟨rfl, hfl⟩))
      | fail
    go_ret
    exact ⟨rfl, by (repeat (first | with_reducible exact Fr.refl _ _ | with_reducible refine Fr.setCell ?_ (.inr (by first | (simp; done) | (simp; omega))) _ | with_reducible refine Fr.alloc ?_ _ | with_reducible refine Fr.drew ?_ | with_reducible refine Fr.drewN ?_ _ | with_reducible refine Fr.tr ?_ (by assumption)))⟩
end
end Go.Proofs.Ytifpigcgkpmheaa.Tb12
