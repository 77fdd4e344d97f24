/- Layer 12: the document's box of cells, walked. -/
import Derived.Test.YtifpigcgkpmheaaTd12
import Derived.Test.YtifpigcgkpmheaaSz12
import Derived.Deep.QuietTactic
import Derived.StillTailTactics
namespace Go.Proofs.Ytifpigcgkpmheaa.Te12
open Go.RowKit Go.Proofs.Ytifpigcgkpmheaa.Pk08 Go.Proofs.Ytifpigcgkpmheaa.Base Go.Proofs.Ytifpigcgkpmheaa.App Go.Proofs.Ytifpigcgkpmheaa.Ty Go.Proofs.Ytifpigcgkpmheaa.Str Go.Proofs.Ytifpigcgkpmheaa.Ky Go.Proofs.Ytifpigcgkpmheaa.Iv Go.Proofs.Ytifpigcgkpmheaa.Bx Go.Proofs.Ytifpigcgkpmheaa.Bo Go.Proofs.Ytifpigcgkpmheaa.As Go.Proofs.Ytifpigcgkpmheaa.Ro Go.Proofs.Ytifpigcgkpmheaa.Pl08 Go.Proofs.Ytifpigcgkpmheaa.Kc08 Go.Proofs.Ytifpigcgkpmheaa.Ke08 Go.Proofs.Ytifpigcgkpmheaa.Ki08 Go.Proofs.Ytifpigcgkpmheaa.Ka08 Go.Proofs.Ytifpigcgkpmheaa.Ic Go.Proofs.Ytifpigcgkpmheaa.In Go.Proofs.Ytifpigcgkpmheaa.Fa Go.Proofs.Ytifpigcgkpmheaa.Sa12 Go.Proofs.Ytifpigcgkpmheaa.Sb12 Go.Proofs.Ytifpigcgkpmheaa.Sc12 Go.Proofs.Ytifpigcgkpmheaa.Sd12 Go.Proofs.Ytifpigcgkpmheaa.Se12 Go.Proofs.Ytifpigcgkpmheaa.Sf12 Go.Proofs.Ytifpigcgkpmheaa.Sg12 Go.Proofs.Ytifpigcgkpmheaa.Sh12 Go.Proofs.Ytifpigcgkpmheaa.Si12 Go.Proofs.Ytifpigcgkpmheaa.Sk12 Go.Proofs.Ytifpigcgkpmheaa.Sl12 Go.Proofs.Ytifpigcgkpmheaa.St12 Go.Proofs.Ytifpigcgkpmheaa.Sv12 Go.Proofs.Ytifpigcgkpmheaa.Sw12 Go.Proofs.Ytifpigcgkpmheaa.Sw12 Go.Proofs.Ytifpigcgkpmheaa.Kj08 Go.Proofs.Ytifpigcgkpmheaa.Kh08 Go.Proofs.Ytifpigcgkpmheaa.Ky08 Go.Proofs.Ytifpigcgkpmheaa.Sm12 Go.Proofs.Ytifpigcgkpmheaa.Wd Go.Proofs.Ytifpigcgkpmheaa.Kw08 Go.Proofs.Ytifpigcgkpmheaa.Kx08 Go.Proofs.Ytifpigcgkpmheaa.Ka08 Go.Proofs.Ytifpigcgkpmheaa.Sz12 Go.Proofs.Ytifpigcgkpmheaa.Td12
set_option linter.unusedVariables false
set_option linter.unusedSimpArgs false
/-- A box is returned, and a code. -/
def BoxTwo (w : World) (lo hi : List Nat) (z : Int) (en : Ending) (w' : World) : Prop :=
  ∃ A na ca B nb cb, en = .returned (.tuple #[.agg #[.slice A na ca, .slice B nb cb], .int .i64 z]) ∧ Kv w' A na ca lo ∧ Kv w' B nb cb hi ∧ Fr No w w'
section
variable {w w1 : World} {gs gt ct xn xc yn yc : Nat} {T X Y : Option Addr} {rows : List (List Nat)} {xs ys : List Int}
set_option maxRecDepth 8000 in
set_option maxHeartbeats 12800000 in
theorem rbox_any (h : Sr w gs T ct rows) (hg : Gd rows) (hx : Iv w X xn xc xs) (hy : Iv w Y yn yc ys) (lo hi : List Nat) (z : Int) (hyes : boxOk rows xs ys → lo = boxLo rows xs ∧ hi = boxHi rows ys ∧ z = 0) (hno : ¬ boxOk rows xs ys → lo = [] ∧ hi = [] ∧ z = 1) : Calls Try.prog 35 #[.pointer (some ⟨gs, 0, none⟩), .slice X xn xc, .slice Y yn yc] w (BoxTwo w lo hi z) := by
  have HYES := Lib.hid hyes
  have HNO := Lib.hid hno
  clear hyes hno
  have c0 := h.c0
  have hcap := h.cap
  have hmost := h.most
  have hmx : maxLen ≤ 9223372036854775807 := by decide
  have HS := Lib.hid h
  have HG := Lib.hid hg
  have HX := Lib.hid hx
  have HY := Lib.hid hy
  have HXl := Lib.hid hx.len
  have HYl := Lib.hid hy.len
  have hxc := hx.cap
  have hxm := hx.most
  have hyc := hy.cap
  have hym := hy.most
  have hl6 := hg.2.1
  have hl1 := hg.1
  have HLT := Lib.hid (box_lt (xs := xs) (ys := ys) hg)
  have hgsl := World.block_lt_of_cell? w _ c0
  simp only at hgsl
  have OB0 := Lib.hid (Ob.new w #[.slice none 0 0, .slice none 0 0] 43)
  by_cases hxr : xn = rows.length
  · by_cases hyr : yn = rows.length
    · subst hxr
      have HYr := Lib.hid hyr
      clear h hg hx hy
      have hyr : yn = rows.length := HYr.out
      subst hyr
      have HRW := Lib.hid (fun W => rwhole_ok rows.length hl6 W)
      have e00 := cel_alloc c0 (.cells #[.slice none 0 0, .slice none 0 0] 43)
      have HlL := Lib.hid (boxLo_len (rows := rows) HXl.out.symm)
      have HlH := Lib.hid (boxHi_len (rows := rows) HYl.out.symm)
      go_enter Try.func35, Try.ntmps35
      go_wp2_with (go_at_call 37; ((with_reducible refine (HRW.out _).mono ?_); rintro en w1 ⟨A1, n1, ca1, B1, m1, cb1, rfl, h1, h2, hne1, hf1⟩))
      obtain rfl : n1 = rows.length := by have := (Kv.of_own h1 (by simp)).len; simpa using this
      obtain rfl : m1 = rows.length := by have := (Kv.of_own h2 (by simp)).len; simpa using this
      have hs0 : (w.alloc (.cells #[.slice none 0 0, .slice none 0 0] 43)).heap.size = w.heap.size + 1 := by simp
      rw [hs0] at h1 h2
      have hsw := hf1.size
      rw [hs0] at hsw
      have HB0 := Lib.hid (show Bw w (w1.alloc (.cells #[.slice A1 rows.length ca1, .slice B1 rows.length cb1] 43)) w.heap.size w1.heap.size (mid (boxLo rows xs) 0 0 rows.length) (mid (boxHi rows ys) 4294967295 0 rows.length) A1 ca1 B1 cb1 from by
        rw [mid_zero, mid_zero]
        have ew : (List.replicate rows.length 0).length = rows.length := by simp
        have ev : (List.replicate rows.length 4294967295).length = rows.length := by simp
        refine ⟨by have ho := OB0.out; (repeat (first | with_reducible assumption | with_reducible refine Ob.other ?_ (by first | (simp; done) | (simp; omega)) _ | ((with_reducible refine Ob.new_ _ _ _ _ ?_) <;> (simp; done)) | with_reducible refine Ob.alloc ?_ _ | with_reducible refine Ob.drew ?_ | with_reducible refine Ob.drewN ?_ _ | with_reducible refine Ob.no ?_ (by assumption))), ?_, ?_, ?_, ?_, ?_, ⟨by omega, Nat.le_refl _, by omega⟩, ((((Fr.refl No w).alloc _).tr hf1).alloc _)⟩
        · rw [ew, ev]; exact Ob.new _ _ _
        · rw [ew]; exact own_base (own_no h1 ((Fr.refl No w1).alloc _)) (by omega)
        · rw [ev]; exact own_base (own_no h2 ((Fr.refl No w1).alloc _)) (by omega)
        · rw [ew, ev]; intro k hk
          have := h1.lt k hk
          exact ⟨by omega, by omega, hne1 k hk⟩
        · rw [ev]; intro k hk
          have := h2.lt k hk
          exact ⟨by omega, by omega⟩)
      have hgb : w.heap.size < w1.heap.size := by omega
      clear h1 h2 hne1 hs0 HRW
      generalize w1.alloc (.cells #[.slice A1 rows.length ca1, .slice B1 rows.length cb1] 43) = wz at *
      clear hsw hf1 e00
      go_wp2
      go_loopw [9] (fun v wr => ∃ i : Nat, v = .int .i64 i ∧ i ≤ rows.length ∧ Hid ((∀ j, j < i → 0 ≤ xs.getD j 0 ∧ xs.getD j 0 ≤ ys.getD j 0 ∧ ys.getD j 0 ≤ (rows.getD j []).length) ∧ ∃ A ca B cb, Bw w wr w.heap.size w1.heap.size (mid (boxLo rows xs) 0 i rows.length) (mid (boxHi rows ys) 4294967295 i rows.length) A ca B cb)) (fun v _ => rows.length - (intOf v).toNat)
      case atStart => exact ⟨0, rfl, Nat.zero_le _, Lib.hid ⟨fun j hj => by omega, _, _, _, _, HB0.out⟩⟩
      case round =>
        obtain ⟨i, rfl, hin, Hi⟩ := hrel
        obtain ⟨Hok, A, ca, B, cb, hbw⟩ := Hi.out
        have HOk := Lib.hid Hok
        have HBw := Lib.hid hbw
        clear Hi Hok hbw
        by_cases hlt : i < rows.length
        · have HLm1 := Lib.hid (mid_len (v := 0) (Nat.le_of_lt hlt) HlL.out)
          have HLm2 := Lib.hid (mid_len (v := 4294967295) (Nat.le_of_lt hlt) HlH.out)
          obtain ⟨gA, hgA⟩ := own_at HBw.out.ra (by rw [HLm1.out]; omega)
          obtain ⟨gB, hgB⟩ := own_at HBw.out.rb (by rw [HLm2.out]; omega)
          subst hgA
          subst hgB
          obtain ⟨gt, D, cd, rfl, c10, hk0⟩ := HS.out.get i hlt
          have HK0 := Lib.hid hk0
          have c1 := cel_no c10 HBw.out.fr
          have hgtl := World.block_lt_of_cell? w _ c10
          simp only at hgtl
          obtain ⟨bx, ox, rfl, cx0⟩ := HX.out.get i (by rw [← HXl.out]; exact hlt)
          obtain ⟨by_, oy, rfl, cy0⟩ := HY.out.get i (by rw [← HYl.out]; exact hlt)
          have hbx := World.block_lt_of_cell? w _ cx0
          have hby := World.block_lt_of_cell? w _ cy0
          simp only at hbx hby
          have cx := cel_no cx0 HBw.out.fr
          have cy := cel_no cy0 HBw.out.fr
          have d0 := cel_no c0 HBw.out.fr
          have HKw := Lib.hid (fun W (f : Fr No w W) => hk0.no f)
          have HR := Lib.hid (HG.out.row hlt)
          obtain ⟨o0, o1, o2, o3⟩ := Ob.four HBw.out.o6
          have Hne := Lib.hid HBw.out.ge
          have hmm : (rows.getD i []).length ≤ 63 := HR.out.2.1
          have HgL := Lib.hid (boxLo_get HXl.out.symm hlt)
          have HgH := Lib.hid (boxHi_get HYl.out.symm hlt)
          have HMl := Lib.hid (show (mid (boxLo rows xs) 0 i rows.length).set i (lowV (rows.getD i []) (xs.getD i 0).toNat) = mid (boxLo rows xs) 0 (i + 1) rows.length by rw [← HgL.out]; exact mid_set hlt HlL.out)
          have HMh := Lib.hid (show (mid (boxHi rows ys) 4294967295 i rows.length).set i (highV (rows.getD i []) (ys.getD i 0).toNat) = mid (boxHi rows ys) 4294967295 (i + 1) rows.length by rw [← HgH.out]; exact mid_set hlt HlH.out)
          have Hno := Lib.hid (show ¬ (0 ≤ xs.getD i 0 ∧ xs.getD i 0 ≤ ys.getD i 0 ∧ ys.getD i 0 ≤ (rows.getD i []).length) → ¬ boxOk rows xs ys from fun e q => e (q.2.2 i hlt))
          have Hyes := Lib.hid (show (0 ≤ xs.getD i 0 ∧ xs.getD i 0 ≤ ys.getD i 0 ∧ ys.getD i 0 ≤ (rows.getD i []).length) → ∀ j, j < i + 1 → 0 ≤ xs.getD j 0 ∧ xs.getD j 0 ≤ ys.getD j 0 ∧ ys.getD j 0 ≤ (rows.getD j []).length from fun e j hj => by
            by_cases ej : j = i
            · subst ej; exact e
            · exact HOk.out j (by omega))
          clear hk0
          generalize hl : xs.getD i 0 = l at *
          generalize hh : ys.getD i 0 = h at *
          generalize hr : rows.getD i [] = r at *
          clear hl hh hr
          obtain ⟨m, hm⟩ : ∃ m, r.length = m := ⟨_, rfl⟩
          have Hm := Lib.hid hm
          rw [hm] at c1 c10 hmm Hno Hyes
          clear hm
          by_cases hl0 : l < 0
          · go_upto_region 7 with fail
            go_quiet (fail)
            go_wp2
            obtain ⟨rfl, rfl, rfl⟩ := HNO.out (Hno.out (by omega))
            refine bodyPost_ret (v := .tuple #[.agg #[.slice none 0 0, .slice none 0 0], .int .i64 1]) (by simp [results, Try.results35, go_sem, o0, o1]) rfl ?_
            exact ⟨none, 0, 0, none, 0, 0, rfl, Kv.none_ _, Kv.none_ _, (by have this := HBw.out.fr; have hh := Hne.out; exact (((this.drewN _).setCell (.inr hh.2.1) _).setCell (.inr hh.2.1) _))⟩
          · by_cases hlh : h < l
            · go_upto_region 7 with fail
              go_quiet (fail)
              go_wp2
              obtain ⟨rfl, rfl, rfl⟩ := HNO.out (Hno.out (by omega))
              refine bodyPost_ret (v := .tuple #[.agg #[.slice none 0 0, .slice none 0 0], .int .i64 1]) (by simp [results, Try.results35, go_sem, o0, o1]) rfl ?_
              exact ⟨none, 0, 0, none, 0, 0, rfl, Kv.none_ _, Kv.none_ _, (by have this := HBw.out.fr; have hh := Hne.out; exact (((this.drewN _).setCell (.inr hh.2.1) _).setCell (.inr hh.2.1) _))⟩
            · by_cases hmh : (m : Int) < h
              · go_upto_region 7 with fail
                go_quiet (fail)
                go_wp2
                obtain ⟨rfl, rfl, rfl⟩ := HNO.out (Hno.out (by omega))
                refine bodyPost_ret (v := .tuple #[.agg #[.slice none 0 0, .slice none 0 0], .int .i64 1]) (by simp [results, Try.results35, go_sem, o0, o1]) rfl ?_
                exact ⟨none, 0, 0, none, 0, 0, rfl, Kv.none_ _, Kv.none_ _, (by have this := HBw.out.fr; have hh := Hne.out; exact (((this.drewN _).setCell (.inr hh.2.1) _).setCell (.inr hh.2.1) _))⟩
              · obtain ⟨l0, rfl⟩ : ∃ l0 : Nat, l = (l0 : Int) := ⟨l.toNat, by omega⟩
                obtain ⟨h0, rfl⟩ : ∃ h0 : Nat, h = (h0 : Int) := ⟨h.toNat, by omega⟩
                have HYES2 := Lib.hid (Hyes.out ⟨by omega, by omega, by omega⟩)
                have HP := Lib.hid HR.out.2.2
                simp only [Int.toNat_natCast] at HgL HgH HMl HMh
                have hlm : l0 ≤ m := by omega
                have hhm0 : h0 ≤ m := by omega
                go_upto_region 7 with fail
                go_quiet (fail)
                have HBd := Lib.hid (HBw.out.no ((Fr.refl No wr).drewN nq))
                go_upto_region 9 with fail
                clear d0 c1 cx cy hl0 hlh hmh Hno Hyes HBw o0 o1 o2 o3
                generalize wr.drewN nq = wq at *
                by_cases hz : l0 = 0
                · obtain rfl : l0 = 0 := by omega
                  have HB1 := Lib.hid (show Bw w wq w.heap.size w1.heap.size (mid (boxLo rows xs) 0 (i + 1) rows.length) (mid (boxHi rows ys) 4294967295 i rows.length) (some ⟨gA, 0, none⟩) ca (some ⟨gB, 0, none⟩) cb by
                    have e : (boxLo rows xs).getD i 0 = 0 := by rw [HgL.out]; rfl
                    rw [← mid_same (l := boxLo rows xs) hlt HlL.out e]
                    exact HBd.out)
                  have f1 := HBd.out.fr
                  have cx := cel_no cx0 f1
                  go_upto_region 11 with fail
                  clear f1 cx HBd
                  have Hwx := Lib.hid (Eq.refl wq)
                  generalize wq = wx at *
                  have f1 := HB1.out.fr
                  have d0 := cel_no c0 f1
                  have c1 := cel_no c10 f1
                  have cy := cel_no cy0 f1
                  by_cases hhm : h0 < m
                  · have hd : decide (((h0 : Nat) : Int) < (m : Int)) = true := decide_eq_true (by omega)
                    go_quiet (fail)
                    go_upto_region 12 with fail
                    have HBe := Lib.hid (HB1.out.no ((Fr.refl No wx).drewN nq))
                    clear f1 d0 c1 cy
                    generalize wx.drewN nq = wy at *
                    have f1 := HBe.out.fr
                    have d0 := cel_no c0 f1
                    have c1 := cel_no c10 f1
                    have cy := cel_no cy0 f1
                    obtain ⟨bd, od, rfl, ck⟩ := (HKw.out wy f1).get h0 (by rw [Hm.out]; exact hhm)
                    have hbd := World.block_lt_of_cell? _ _ ck
                    have cko := (HK0.out).get h0 (by rw [Hm.out]; exact hhm)
                    obtain ⟨bd', od', e4, ck'⟩ := cko
                    injection e4 with e4
                    injection e4 with e5 e6
                    subst e5; subst e6
                    have hbd' := World.block_lt_of_cell? _ _ ck'
                    simp only at hbd'
                    have HS3 := Lib.hid (Bw.setB (HBe.out.no (Fr.refl No wy).drew) (i := i) (by rw [HLm2.out]; exact hlt) (highV r h0))
                    obtain ⟨⟨v1, ev1⟩, ef1, _⟩ := HS3.out
                    have hb3 := (Bw.setB HBe.out (i := i) (by rw [HLm2.out]; exact hlt) (highV r h0)).2.2.no (Fr.refl No _).drew
                    rw [HMh.out] at hb3
                    have HB2 := Lib.hid hb3
                    have hvv : highV r h0 = r.getD h0 0 - 1 := by unfold highV; rw [if_neg (by rw [Hm.out]; omega)]
                    have hpos := HP.out _ (Sz12.getD_in (l := r) (i := h0) (by rw [Hm.out]; exact hhm))
                    rw [hvv] at HB2
                    have hbB := (HBe.out.rb.lt gB rfl).1
                    have hnB := (HBe.out.nb gB rfl).1
                    obtain ⟨q0, q1, q2, q3⟩ := Ob.four HBe.out.ob
                    have ln2 := HLm2.out
                    have lnc := own_cap HBe.out.rb
                    generalize r.getD h0 0 = y at *
                    generalize (mid (boxHi rows ys) 4294967295 i rows.length) = ml2 at *
                    have hw := IntWalk.u32_in ((y : Int) - 1) (by omega)
                    have hwn : ((y - 1 : Nat) : Int) = (y : Int) - 1 := by omega
                    rw [hwn] at HB2
                    (refine wp_region_held_drew (S := fun w' => ((w'.cell? ⟨by_, oy + i, none⟩ = some (.int .i64 (h0 : Int)) ∧ w'.cell? ⟨gs, 0, none⟩ = some (.slice (some ⟨gt, 0, none⟩) rows.length ct)) ∧ (w'.cell? ⟨gt, i, none⟩ = some (.slice (some ⟨bd, od, none⟩) m cd) ∧ w'.cell? ⟨bd, od + h0, none⟩ = some (.int .u32 (y : Int)))) ∧ w'.cell? ⟨w1.heap.size, 1, none⟩ = some (.slice (some ⟨gB, 0, none⟩) ml2.length cb)) (by kernel_rfl) ?_ (fun hHeld => ?_); focus ((try dsimp only); (refine ⟨⟨⟨?_, ?_⟩, ⟨?_, ?_⟩⟩, ?_⟩; (repeat (first | with_reducible assumption | with_reducible refine cel_alloc ?_ _ | with_reducible refine cel_drew ?_ | with_reducible refine cel_drewN ?_ _ | with_reducible refine cel_set ?_ (by first | (simp; done) | (simp; omega)) _ | with_reducible refine cel_no ?_ (by assumption))); (repeat (first | with_reducible assumption | with_reducible refine cel_alloc ?_ _ | with_reducible refine cel_drew ?_ | with_reducible refine cel_drewN ?_ _ | with_reducible refine cel_set ?_ (by first | (simp; done) | (simp; omega)) _ | with_reducible refine cel_no ?_ (by assumption))); (repeat (first | with_reducible assumption | with_reducible refine cel_alloc ?_ _ | with_reducible refine cel_drew ?_ | with_reducible refine cel_drewN ?_ _ | with_reducible refine cel_set ?_ (by first | (simp; done) | (simp; omega)) _ | with_reducible refine cel_no ?_ (by assumption))); (repeat (first | with_reducible assumption | with_reducible refine cel_alloc ?_ _ | with_reducible refine cel_drew ?_ | with_reducible refine cel_drewN ?_ _ | with_reducible refine cel_set ?_ (by first | (simp; done) | (simp; omega)) _ | with_reducible refine cel_no ?_ (by assumption))); (repeat (first | with_reducible assumption | with_reducible refine cel_alloc ?_ _ | with_reducible refine cel_drew ?_ | with_reducible refine cel_drewN ?_ _ | with_reducible refine cel_set ?_ (by first | (simp; done) | (simp; omega)) _ | with_reducible refine cel_no ?_ (by assumption)))); done))
                    ((refine wpAnyH_take (i := 0) (v := ?_) rfl (by kernel_rfl) (by kernel_rfl) (by kernel_rfl) (fun _ _ _ h => h) (Or.inl ⟨by rfl, ?_⟩) (by assumption) ?_; rotate_left; focus (intro w hSw; (try dsimp only at hSw); go_simp; (try with_reducible rfl); done)); (try simp only [Act.put, List.setIfInBounds_toArray, List.set_cons_zero, List.set_cons_succ, List.getElem_toArray, List.getElem_cons_zero, List.getElem_cons_succ]); (refine wpAnyH_take (i := 1) (v := ?_) rfl (by kernel_rfl) (by kernel_rfl) (by kernel_rfl) (fun _ _ _ h => h) (Or.inl ⟨by rfl, ?_⟩) (by assumption) ?_; rotate_left; focus (intro w hSw; (try dsimp only at hSw); go_simp; (try with_reducible rfl); done)); (try simp only [Act.put, List.setIfInBounds_toArray, List.set_cons_zero, List.set_cons_succ, List.getElem_toArray, List.getElem_cons_zero, List.getElem_cons_succ]); (refine wpAnyH_take (i := 2) (v := ?_) rfl (by kernel_rfl) (by kernel_rfl) (by kernel_rfl) (fun _ _ _ h => h) (Or.inl ⟨by rfl, ?_⟩) (by assumption) ?_; rotate_left; focus (intro w hSw; (try dsimp only at hSw); go_simp; (try with_reducible rfl); done)); (try simp only [Act.put, List.setIfInBounds_toArray, List.set_cons_zero, List.set_cons_succ, List.getElem_toArray, List.getElem_cons_zero, List.getElem_cons_succ]); (refine wpAnyH_take (i := 3) (v := ?_) rfl (by kernel_rfl) (by kernel_rfl) (by kernel_rfl) (fun _ _ _ h => h) (Or.inl ⟨by rfl, ?_⟩) (by assumption) ?_; rotate_left; focus (intro w hSw; (try dsimp only at hSw); go_simp; (try with_reducible rfl); done)); (try simp only [Act.put, List.setIfInBounds_toArray, List.set_cons_zero, List.set_cons_succ, List.getElem_toArray, List.getElem_cons_zero, List.getElem_cons_succ]); (refine wpAnyH_take (i := 4) (v := ?_) rfl (by kernel_rfl) (by kernel_rfl) (by kernel_rfl) (fun _ _ _ h => h) (Or.inl ⟨by rfl, ?_⟩) (by assumption) ?_; rotate_left; focus (intro w hSw; (try dsimp only at hSw); go_simp; (try with_reducible rfl); done)); (try simp only [Act.put, List.setIfInBounds_toArray, List.set_cons_zero, List.set_cons_succ, List.getElem_toArray, List.getElem_cons_zero, List.getElem_cons_succ]); (refine wpAnyH_take (i := 5) (v := ?_) rfl (by kernel_rfl) (by kernel_rfl) (by kernel_rfl) (fun _ _ _ h => h) (Or.inl ⟨by rfl, ?_⟩) (by assumption) ?_; rotate_left; focus (intro w hSw; (try dsimp only at hSw); go_simp; (try with_reducible rfl); done)); (try simp only [Act.put, List.setIfInBounds_toArray, List.set_cons_zero, List.set_cons_succ, List.getElem_toArray, List.getElem_cons_zero, List.getElem_cons_succ]); (refine wpAnyH_take (i := 6) (v := ?_) rfl (by kernel_rfl) (by kernel_rfl) (by kernel_rfl) (fun _ _ _ h => h) (Or.inl ⟨by rfl, ?_⟩) (by assumption) ?_; rotate_left; focus (intro w hSw; (try dsimp only at hSw); go_simp; (try with_reducible rfl); done)); (try simp only [Act.put, List.setIfInBounds_toArray, List.set_cons_zero, List.set_cons_succ, List.getElem_toArray, List.getElem_cons_zero, List.getElem_cons_succ]); (refine wpAnyH_take (i := 7) (v := ?_) rfl (by kernel_rfl) (by kernel_rfl) (by kernel_rfl) (fun _ _ _ h => h) (Or.inl ⟨by rfl, ?_⟩) (by assumption) ?_; rotate_left; focus (intro w hSw; (try dsimp only at hSw); go_simp; (try with_reducible rfl); done)); (try simp only [Act.put, List.setIfInBounds_toArray, List.set_cons_zero, List.set_cons_succ, List.getElem_toArray, List.getElem_cons_zero, List.getElem_cons_succ]); (refine wpAnyH_take (i := 8) (v := ?_) rfl (by kernel_rfl) (by kernel_rfl) (by kernel_rfl) (fun _ _ _ h => h) (Or.inl ⟨by rfl, ?_⟩) (by assumption) ?_; rotate_left; focus (intro w hSw; (try dsimp only at hSw); go_simp; (try with_reducible rfl); done)); (try simp only [Act.put, List.setIfInBounds_toArray, List.set_cons_zero, List.set_cons_succ, List.getElem_toArray, List.getElem_cons_zero, List.getElem_cons_succ]); (refine wpAnyH_take (i := 9) (v := ?_) rfl (by kernel_rfl) (by kernel_rfl) (by kernel_rfl) (fun _ _ _ h => h) (Or.inl ⟨by rfl, ?_⟩) (by assumption) ?_; rotate_left; focus (intro w hSw; (try dsimp only at hSw); go_simp; (try with_reducible rfl); done)); (try simp only [Act.put, List.setIfInBounds_toArray, List.set_cons_zero, List.set_cons_succ, List.getElem_toArray, List.getElem_cons_zero, List.getElem_cons_succ]); (refine wpAnyH_take (i := 10) (v := ?_) rfl (by kernel_rfl) (by kernel_rfl) (by kernel_rfl) (fun _ _ _ h => h) (Or.inl ⟨by rfl, ?_⟩) (by assumption) ?_; rotate_left; focus (intro w hSw; (try dsimp only at hSw); go_simp; (try with_reducible rfl); done)); (try simp only [Act.put, List.setIfInBounds_toArray, List.set_cons_zero, List.set_cons_succ, List.getElem_toArray, List.getElem_cons_zero, List.getElem_cons_succ]); (refine wpAnyH_take (i := 11) (v := ?_) rfl (by kernel_rfl) (by kernel_rfl) (by kernel_rfl) (fun _ _ _ h => h) (Or.inl ⟨by rfl, ?_⟩) (by assumption) ?_; rotate_left; focus (intro w hSw; (try dsimp only at hSw); go_simp; (try with_reducible rfl); done)); (try simp only [Act.put, List.setIfInBounds_toArray, List.set_cons_zero, List.set_cons_succ, List.getElem_toArray, List.getElem_cons_zero, List.getElem_cons_succ]); (refine wpAnyH_take (i := 12) (v := ?_) rfl (by kernel_rfl) (by kernel_rfl) (by kernel_rfl) (fun _ _ _ h => h) (Or.inl ⟨by rfl, ?_⟩) (by assumption) ?_; rotate_left; focus (intro w hSw; (try dsimp only at hSw); go_simp; (try with_reducible rfl); done)); (try simp only [Act.put, List.setIfInBounds_toArray, List.set_cons_zero, List.set_cons_succ, List.getElem_toArray, List.getElem_cons_zero, List.getElem_cons_succ]); (refine wpAnyH_take (i := 13) (v := ?_) rfl (by kernel_rfl) (by kernel_rfl) (by kernel_rfl) (fun _ _ _ h => h) (Or.inl ⟨by rfl, ?_⟩) (by assumption) ?_; rotate_left; focus (intro w hSw; (try dsimp only at hSw); go_simp; (try with_reducible rfl); done)); (try simp only [Act.put, List.setIfInBounds_toArray, List.set_cons_zero, List.set_cons_succ, List.getElem_toArray, List.getElem_cons_zero, List.getElem_cons_succ]); (refine wpAnyH_take (i := 14) (v := ?_) rfl (by kernel_rfl) (by kernel_rfl) (by kernel_rfl) (fun _ _ _ h => h) (Or.inl ⟨by rfl, ?_⟩) (by assumption) ?_; rotate_left; focus (intro w hSw; (try dsimp only at hSw); go_simp; (try with_reducible rfl); done)); (try simp only [Act.put, List.setIfInBounds_toArray, List.set_cons_zero, List.set_cons_succ, List.getElem_toArray, List.getElem_cons_zero, List.getElem_cons_succ]); (refine wpAnyH_take (i := 15) (v := ?_) rfl (by kernel_rfl) (by kernel_rfl) (by kernel_rfl) (fun _ _ _ h => h) (Or.inl ⟨by rfl, ?_⟩) (by assumption) ?_; rotate_left; focus (intro w hSw; (try dsimp only at hSw); go_simp; (try with_reducible rfl); done)); (try simp only [Act.put, List.setIfInBounds_toArray, List.set_cons_zero, List.set_cons_succ, List.getElem_toArray, List.getElem_cons_zero, List.getElem_cons_succ]))
                    (refine wpAnyH_take (i := 16) (v := ?_) rfl (by kernel_rfl) (by kernel_rfl) (by kernel_rfl) (fun _ _ _ h => h) (Or.inl ⟨by rfl, ?_⟩) (by assumption) ?_; rotate_left; focus (intro w hSw; (try dsimp only at hSw); go_simp; (try simp only [hw]); (try with_reducible rfl); done)); (try simp only [Act.put, List.setIfInBounds_toArray, List.set_cons_zero, List.set_cons_succ, List.getElem_toArray, List.getElem_cons_zero, List.getElem_cons_succ])
                    (refine wpAnyH_take (i := 17) (v := ?_) rfl (by kernel_rfl) (by kernel_rfl) (by kernel_rfl) (fun _ _ _ h => h) (Or.inl ⟨by rfl, ?_⟩) (by assumption) ?_; rotate_left; focus (intro w hSw; (try dsimp only at hSw); go_simp; (try with_reducible rfl); done)); (try simp only [Act.put, List.setIfInBounds_toArray, List.set_cons_zero, List.set_cons_succ, List.getElem_toArray, List.getElem_cons_zero, List.getElem_cons_succ])
                    (refine wpAnyH_ready (rs := [18]) (by kernel_rfl) (by simp) ?_; refine AllReadyH.cons rfl (fun K hK => ?_) AllReadyH.nil; (try simp only [Act.put, List.setIfInBounds_toArray, List.set_cons_zero, List.set_cons_succ, List.getElem_toArray, List.getElem_cons_zero, List.getElem_cons_succ]); go_simp; refine hK.out _ _ ?_ (fun hHeld => ?_); focus ((try dsimp only); (refine ⟨⟨⟨?_, ?_⟩, ⟨?_, ?_⟩⟩, ?_⟩; (repeat (first | with_reducible assumption | with_reducible refine cel_alloc ?_ _ | with_reducible refine cel_drew ?_ | with_reducible refine cel_drewN ?_ _ | with_reducible refine cel_set ?_ (by first | (simp; done) | (simp; omega)) _ | with_reducible refine cel_no ?_ (by assumption))); (repeat (first | with_reducible assumption | with_reducible refine cel_alloc ?_ _ | with_reducible refine cel_drew ?_ | with_reducible refine cel_drewN ?_ _ | with_reducible refine cel_set ?_ (by first | (simp; done) | (simp; omega)) _ | with_reducible refine cel_no ?_ (by assumption))); (repeat (first | with_reducible assumption | with_reducible refine cel_alloc ?_ _ | with_reducible refine cel_drew ?_ | with_reducible refine cel_drewN ?_ _ | with_reducible refine cel_set ?_ (by first | (simp; done) | (simp; omega)) _ | with_reducible refine cel_no ?_ (by assumption))); (repeat (first | with_reducible assumption | with_reducible refine cel_alloc ?_ _ | with_reducible refine cel_drew ?_ | with_reducible refine cel_drewN ?_ _ | with_reducible refine cel_set ?_ (by first | (simp; done) | (simp; omega)) _ | with_reducible refine cel_no ?_ (by assumption))); (repeat (first | with_reducible assumption | with_reducible refine cel_alloc ?_ _ | with_reducible refine cel_drew ?_ | with_reducible refine cel_drewN ?_ _ | with_reducible refine cel_set ?_ (by first | (simp; done) | (simp; omega)) _ | with_reducible refine cel_no ?_ (by assumption)))); done)); (clear hK K); (try simp only [Act.put, List.setIfInBounds_toArray, List.set_cons_zero, List.set_cons_succ, List.getElem_toArray, List.getElem_cons_zero, List.getElem_cons_succ])
                    (refine wpAnyH_done (by kernel_rfl) ?_ _)
                    (try go_wp2)
                    go_roundw
                    case rel => exact ⟨i + 1, by go_num, hlt, Lib.hid ⟨HYES2.out, _, _, _, _, HB2.out⟩⟩
                    case measure => simp [intOf]; omega
                  · have hd : decide (((h0 : Nat) : Int) < (m : Int)) = false := decide_eq_false (by omega)
                    go_quiet (fail)
                    have HB2 := Lib.hid (show Bw w (wx.drewN nq) w.heap.size w1.heap.size (mid (boxLo rows xs) 0 (i + 1) rows.length) (mid (boxHi rows ys) 4294967295 (i + 1) rows.length) (some ⟨gA, 0, none⟩) ca (some ⟨gB, 0, none⟩) cb by
                      have e : (boxHi rows ys).getD i 0 = 4294967295 := by rw [HgH.out]; unfold highV; rw [if_pos (by rw [Hm.out]; omega)]
                      rw [← mid_same (l := boxHi rows ys) hlt HlH.out e]
                      exact HB1.out.no ((Fr.refl No wx).drewN nq))
                    (try go_wp2)
                    go_roundw
                    case rel => exact ⟨i + 1, by go_num, hlt, Lib.hid ⟨HYES2.out, _, _, _, _, HB2.out⟩⟩
                    case measure => simp [intOf]; omega
                · obtain ⟨p, rfl⟩ : ∃ p, l0 = p + 1 := ⟨l0 - 1, by omega⟩
                  obtain ⟨bd, od, e4, ck0⟩ := (HK0.out).get p (by rw [Hm.out]; omega)
                  have hD := Lib.hid e4
                  have hbd := World.block_lt_of_cell? _ _ ck0
                  simp only at hbd
                  have f1 := HBd.out.fr
                  have d0 := cel_no c0 f1
                  have c1 := cel_no c10 f1
                  have cx := cel_no cx0 f1
                  have ck := cel_no ck0 f1
                  rw [e4] at c1
                  have HS3 := Lib.hid (Bw.setA (HBd.out.no (Fr.refl No wq).drew) (i := i) (by rw [HLm1.out]; exact hlt) (lowV r (p + 1)))
                  obtain ⟨⟨v1, ev1⟩, ef1, _⟩ := HS3.out
                  have hb3 := (Bw.setA HBd.out (i := i) (by rw [HLm1.out]; exact hlt) (lowV r (p + 1))).2.2.no (Fr.refl No _).drew
                  rw [HMl.out] at hb3
                  have HB1 := Lib.hid hb3
                  have hvv : lowV r (p + 1) = r.getD p 0 := by unfold lowV; rw [if_neg (by omega), Nat.add_sub_cancel]
                  rw [hvv] at HB1
                  have hbA := (HBd.out.ra.lt gA rfl).1
                  have hnA := (HBd.out.na gA rfl).1
                  obtain ⟨q0, q1, q2, q3⟩ := Ob.four HBd.out.ob
                  have ln1 := HLm1.out
                  have lnc := own_cap HBd.out.ra
                  have hpm : p < m := by omega
                  have hw := IntWalk.i64_in (((p + 1 : Nat) : Int) - 1) (by omega)
                  have hw2 : ((p + 1 : Nat) : Int) - 1 = (p : Int) := by omega
                  rw [hw2] at hw
                  go_upto_region 10 with fail
                  have hbr : ∀ x, r.getD p 0 = x → x = x := fun _ _ => rfl
                  generalize hy0 : r.getD p 0 = y at *
                  generalize hml : (mid (boxLo rows xs) 0 i rows.length) = ml1 at *
                  (refine wp_region_held_drew (S := fun w' => ((w'.cell? ⟨bx, ox + i, none⟩ = some (.int .i64 ((p + 1 : Nat) : Int)) ∧ w'.cell? ⟨gs, 0, none⟩ = some (.slice (some ⟨gt, 0, none⟩) rows.length ct)) ∧ (w'.cell? ⟨gt, i, none⟩ = some (.slice (some ⟨bd, od, none⟩) m cd) ∧ w'.cell? ⟨bd, od + p, none⟩ = some (.int .u32 (y : Int)))) ∧ w'.cell? ⟨w1.heap.size, 0, none⟩ = some (.slice (some ⟨gA, 0, none⟩) ml1.length ca)) (by kernel_rfl) ?_ (fun hHeld => ?_); focus ((try dsimp only); (refine ⟨⟨⟨?_, ?_⟩, ⟨?_, ?_⟩⟩, ?_⟩; (repeat (first | with_reducible assumption | with_reducible refine cel_alloc ?_ _ | with_reducible refine cel_drew ?_ | with_reducible refine cel_drewN ?_ _ | with_reducible refine cel_set ?_ (by first | (simp; done) | (simp; omega)) _ | with_reducible refine cel_no ?_ (by assumption))); (repeat (first | with_reducible assumption | with_reducible refine cel_alloc ?_ _ | with_reducible refine cel_drew ?_ | with_reducible refine cel_drewN ?_ _ | with_reducible refine cel_set ?_ (by first | (simp; done) | (simp; omega)) _ | with_reducible refine cel_no ?_ (by assumption))); (repeat (first | with_reducible assumption | with_reducible refine cel_alloc ?_ _ | with_reducible refine cel_drew ?_ | with_reducible refine cel_drewN ?_ _ | with_reducible refine cel_set ?_ (by first | (simp; done) | (simp; omega)) _ | with_reducible refine cel_no ?_ (by assumption))); (repeat (first | with_reducible assumption | with_reducible refine cel_alloc ?_ _ | with_reducible refine cel_drew ?_ | with_reducible refine cel_drewN ?_ _ | with_reducible refine cel_set ?_ (by first | (simp; done) | (simp; omega)) _ | with_reducible refine cel_no ?_ (by assumption))); (repeat (first | with_reducible assumption | with_reducible refine cel_alloc ?_ _ | with_reducible refine cel_drew ?_ | with_reducible refine cel_drewN ?_ _ | with_reducible refine cel_set ?_ (by first | (simp; done) | (simp; omega)) _ | with_reducible refine cel_no ?_ (by assumption)))); done))
                  ((refine wpAnyH_take (i := 0) (v := ?_) rfl (by kernel_rfl) (by kernel_rfl) (by kernel_rfl) (fun _ _ _ h => h) (Or.inl ⟨by rfl, ?_⟩) (by assumption) ?_; rotate_left; focus (intro w hSw; (try dsimp only at hSw); go_simp; (try with_reducible rfl); done)); (try simp only [Act.put, List.setIfInBounds_toArray, List.set_cons_zero, List.set_cons_succ, List.getElem_toArray, List.getElem_cons_zero, List.getElem_cons_succ]); (refine wpAnyH_take (i := 1) (v := ?_) rfl (by kernel_rfl) (by kernel_rfl) (by kernel_rfl) (fun _ _ _ h => h) (Or.inl ⟨by rfl, ?_⟩) (by assumption) ?_; rotate_left; focus (intro w hSw; (try dsimp only at hSw); go_simp; (try with_reducible rfl); done)); (try simp only [Act.put, List.setIfInBounds_toArray, List.set_cons_zero, List.set_cons_succ, List.getElem_toArray, List.getElem_cons_zero, List.getElem_cons_succ]); (refine wpAnyH_take (i := 2) (v := ?_) rfl (by kernel_rfl) (by kernel_rfl) (by kernel_rfl) (fun _ _ _ h => h) (Or.inl ⟨by rfl, ?_⟩) (by assumption) ?_; rotate_left; focus (intro w hSw; (try dsimp only at hSw); go_simp; (try with_reducible rfl); done)); (try simp only [Act.put, List.setIfInBounds_toArray, List.set_cons_zero, List.set_cons_succ, List.getElem_toArray, List.getElem_cons_zero, List.getElem_cons_succ]); (refine wpAnyH_take (i := 3) (v := ?_) rfl (by kernel_rfl) (by kernel_rfl) (by kernel_rfl) (fun _ _ _ h => h) (Or.inl ⟨by rfl, ?_⟩) (by assumption) ?_; rotate_left; focus (intro w hSw; (try dsimp only at hSw); go_simp; (try with_reducible rfl); done)); (try simp only [Act.put, List.setIfInBounds_toArray, List.set_cons_zero, List.set_cons_succ, List.getElem_toArray, List.getElem_cons_zero, List.getElem_cons_succ]); (refine wpAnyH_take (i := 4) (v := ?_) rfl (by kernel_rfl) (by kernel_rfl) (by kernel_rfl) (fun _ _ _ h => h) (Or.inl ⟨by rfl, ?_⟩) (by assumption) ?_; rotate_left; focus (intro w hSw; (try dsimp only at hSw); go_simp; (try with_reducible rfl); done)); (try simp only [Act.put, List.setIfInBounds_toArray, List.set_cons_zero, List.set_cons_succ, List.getElem_toArray, List.getElem_cons_zero, List.getElem_cons_succ]); (refine wpAnyH_take (i := 5) (v := ?_) rfl (by kernel_rfl) (by kernel_rfl) (by kernel_rfl) (fun _ _ _ h => h) (Or.inl ⟨by rfl, ?_⟩) (by assumption) ?_; rotate_left; focus (intro w hSw; (try dsimp only at hSw); go_simp; (try with_reducible rfl); done)); (try simp only [Act.put, List.setIfInBounds_toArray, List.set_cons_zero, List.set_cons_succ, List.getElem_toArray, List.getElem_cons_zero, List.getElem_cons_succ]); (refine wpAnyH_take (i := 6) (v := ?_) rfl (by kernel_rfl) (by kernel_rfl) (by kernel_rfl) (fun _ _ _ h => h) (Or.inl ⟨by rfl, ?_⟩) (by assumption) ?_; rotate_left; focus (intro w hSw; (try dsimp only at hSw); go_simp; (try with_reducible rfl); done)); (try simp only [Act.put, List.setIfInBounds_toArray, List.set_cons_zero, List.set_cons_succ, List.getElem_toArray, List.getElem_cons_zero, List.getElem_cons_succ]); (refine wpAnyH_take (i := 7) (v := ?_) rfl (by kernel_rfl) (by kernel_rfl) (by kernel_rfl) (fun _ _ _ h => h) (Or.inl ⟨by rfl, ?_⟩) (by assumption) ?_; rotate_left; focus (intro w hSw; (try dsimp only at hSw); go_simp; (try with_reducible rfl); done)); (try simp only [Act.put, List.setIfInBounds_toArray, List.set_cons_zero, List.set_cons_succ, List.getElem_toArray, List.getElem_cons_zero, List.getElem_cons_succ]); (refine wpAnyH_take (i := 8) (v := ?_) rfl (by kernel_rfl) (by kernel_rfl) (by kernel_rfl) (fun _ _ _ h => h) (Or.inl ⟨by rfl, ?_⟩) (by assumption) ?_; rotate_left; focus (intro w hSw; (try dsimp only at hSw); go_simp; (try with_reducible rfl); done)); (try simp only [Act.put, List.setIfInBounds_toArray, List.set_cons_zero, List.set_cons_succ, List.getElem_toArray, List.getElem_cons_zero, List.getElem_cons_succ]); (refine wpAnyH_take (i := 9) (v := ?_) rfl (by kernel_rfl) (by kernel_rfl) (by kernel_rfl) (fun _ _ _ h => h) (Or.inl ⟨by rfl, ?_⟩) (by assumption) ?_; rotate_left; focus (intro w hSw; (try dsimp only at hSw); go_simp; (try with_reducible rfl); done)); (try simp only [Act.put, List.setIfInBounds_toArray, List.set_cons_zero, List.set_cons_succ, List.getElem_toArray, List.getElem_cons_zero, List.getElem_cons_succ]); (refine wpAnyH_take (i := 10) (v := ?_) rfl (by kernel_rfl) (by kernel_rfl) (by kernel_rfl) (fun _ _ _ h => h) (Or.inl ⟨by rfl, ?_⟩) (by assumption) ?_; rotate_left; focus (intro w hSw; (try dsimp only at hSw); go_simp; (try with_reducible rfl); done)); (try simp only [Act.put, List.setIfInBounds_toArray, List.set_cons_zero, List.set_cons_succ, List.getElem_toArray, List.getElem_cons_zero, List.getElem_cons_succ]); (refine wpAnyH_take (i := 11) (v := ?_) rfl (by kernel_rfl) (by kernel_rfl) (by kernel_rfl) (fun _ _ _ h => h) (Or.inl ⟨by rfl, ?_⟩) (by assumption) ?_; rotate_left; focus (intro w hSw; (try dsimp only at hSw); go_simp; (try with_reducible rfl); done)); (try simp only [Act.put, List.setIfInBounds_toArray, List.set_cons_zero, List.set_cons_succ, List.getElem_toArray, List.getElem_cons_zero, List.getElem_cons_succ]); (refine wpAnyH_take (i := 12) (v := ?_) rfl (by kernel_rfl) (by kernel_rfl) (by kernel_rfl) (fun _ _ _ h => h) (Or.inl ⟨by rfl, ?_⟩) (by assumption) ?_; rotate_left; focus (intro w hSw; (try dsimp only at hSw); go_simp; (try with_reducible rfl); done)); (try simp only [Act.put, List.setIfInBounds_toArray, List.set_cons_zero, List.set_cons_succ, List.getElem_toArray, List.getElem_cons_zero, List.getElem_cons_succ]); (refine wpAnyH_take (i := 13) (v := ?_) rfl (by kernel_rfl) (by kernel_rfl) (by kernel_rfl) (fun _ _ _ h => h) (Or.inl ⟨by rfl, ?_⟩) (by assumption) ?_; rotate_left; focus (intro w hSw; (try dsimp only at hSw); go_simp; (try with_reducible rfl); done)); (try simp only [Act.put, List.setIfInBounds_toArray, List.set_cons_zero, List.set_cons_succ, List.getElem_toArray, List.getElem_cons_zero, List.getElem_cons_succ]))
                  (refine wpAnyH_take (i := 14) (v := ?_) rfl (by kernel_rfl) (by kernel_rfl) (by kernel_rfl) (fun _ _ _ h => h) (Or.inl ⟨by rfl, ?_⟩) (by assumption) ?_; rotate_left; focus (intro w hSw; (try dsimp only at hSw); go_simp; (try simp only [hw]); (try with_reducible rfl); done)); (try simp only [Act.put, List.setIfInBounds_toArray, List.set_cons_zero, List.set_cons_succ, List.getElem_toArray, List.getElem_cons_zero, List.getElem_cons_succ])
                  ((refine wpAnyH_take (i := 15) (v := ?_) rfl (by kernel_rfl) (by kernel_rfl) (by kernel_rfl) (fun _ _ _ h => h) (Or.inl ⟨by rfl, ?_⟩) (by assumption) ?_; rotate_left; focus (intro w hSw; (try dsimp only at hSw); go_simp; (try with_reducible rfl); done)); (try simp only [Act.put, List.setIfInBounds_toArray, List.set_cons_zero, List.set_cons_succ, List.getElem_toArray, List.getElem_cons_zero, List.getElem_cons_succ]); (refine wpAnyH_take (i := 16) (v := ?_) rfl (by kernel_rfl) (by kernel_rfl) (by kernel_rfl) (fun _ _ _ h => h) (Or.inl ⟨by rfl, ?_⟩) (by assumption) ?_; rotate_left; focus (intro w hSw; (try dsimp only at hSw); go_simp; (try with_reducible rfl); done)); (try simp only [Act.put, List.setIfInBounds_toArray, List.set_cons_zero, List.set_cons_succ, List.getElem_toArray, List.getElem_cons_zero, List.getElem_cons_succ]); (refine wpAnyH_take (i := 17) (v := ?_) rfl (by kernel_rfl) (by kernel_rfl) (by kernel_rfl) (fun _ _ _ h => h) (Or.inl ⟨by rfl, ?_⟩) (by assumption) ?_; rotate_left; focus (intro w hSw; (try dsimp only at hSw); go_simp; (try with_reducible rfl); done)); (try simp only [Act.put, List.setIfInBounds_toArray, List.set_cons_zero, List.set_cons_succ, List.getElem_toArray, List.getElem_cons_zero, List.getElem_cons_succ]))
                  (refine wpAnyH_ready (rs := [18]) (by kernel_rfl) (by simp) ?_; refine AllReadyH.cons rfl (fun K hK => ?_) AllReadyH.nil; (try simp only [Act.put, List.setIfInBounds_toArray, List.set_cons_zero, List.set_cons_succ, List.getElem_toArray, List.getElem_cons_zero, List.getElem_cons_succ]); go_simp; refine hK.out _ _ ?_ (fun hHeld => ?_); focus ((try dsimp only); (refine ⟨⟨⟨?_, ?_⟩, ⟨?_, ?_⟩⟩, ?_⟩; (repeat (first | with_reducible assumption | with_reducible refine cel_alloc ?_ _ | with_reducible refine cel_drew ?_ | with_reducible refine cel_drewN ?_ _ | with_reducible refine cel_set ?_ (by first | (simp; done) | (simp; omega)) _ | with_reducible refine cel_no ?_ (by assumption))); (repeat (first | with_reducible assumption | with_reducible refine cel_alloc ?_ _ | with_reducible refine cel_drew ?_ | with_reducible refine cel_drewN ?_ _ | with_reducible refine cel_set ?_ (by first | (simp; done) | (simp; omega)) _ | with_reducible refine cel_no ?_ (by assumption))); (repeat (first | with_reducible assumption | with_reducible refine cel_alloc ?_ _ | with_reducible refine cel_drew ?_ | with_reducible refine cel_drewN ?_ _ | with_reducible refine cel_set ?_ (by first | (simp; done) | (simp; omega)) _ | with_reducible refine cel_no ?_ (by assumption))); (repeat (first | with_reducible assumption | with_reducible refine cel_alloc ?_ _ | with_reducible refine cel_drew ?_ | with_reducible refine cel_drewN ?_ _ | with_reducible refine cel_set ?_ (by first | (simp; done) | (simp; omega)) _ | with_reducible refine cel_no ?_ (by assumption))); (repeat (first | with_reducible assumption | with_reducible refine cel_alloc ?_ _ | with_reducible refine cel_drew ?_ | with_reducible refine cel_drewN ?_ _ | with_reducible refine cel_set ?_ (by first | (simp; done) | (simp; omega)) _ | with_reducible refine cel_no ?_ (by assumption)))); done)); (clear hK K); (try simp only [Act.put, List.setIfInBounds_toArray, List.set_cons_zero, List.set_cons_succ, List.getElem_toArray, List.getElem_cons_zero, List.getElem_cons_succ])
                  (refine wpAnyH_done (by kernel_rfl) ?_ _)
                  go_upto_region 11 with fail
                  clear f1 d0 c1 cx ck ck0 e4 hD hbd HS3 ev1 ef1 hb3 hvv hbA hnA q0 q1 q2 q3 ln1 lnc hw hw2 hbr HBd
                  generalize (wq.setCell ⟨gA, i, none⟩ (.int .u32 (y : Int))).drew = wx at *
                  clear hy0 hml
                  generalize y = ylow at *
                  have f1 := HB1.out.fr
                  have d0 := cel_no c0 f1
                  have c1 := cel_no c10 f1
                  have cy := cel_no cy0 f1
                  by_cases hhm : h0 < m
                  · have hd : decide (((h0 : Nat) : Int) < (m : Int)) = true := decide_eq_true (by omega)
                    go_quiet (fail)
                    go_upto_region 12 with fail
                    have HBe := Lib.hid (HB1.out.no ((Fr.refl No wx).drewN nq))
                    clear f1 d0 c1 cy
                    generalize wx.drewN nq = wy at *
                    have f1 := HBe.out.fr
                    have d0 := cel_no c0 f1
                    have c1 := cel_no c10 f1
                    have cy := cel_no cy0 f1
                    obtain ⟨bd, od, rfl, ck⟩ := (HKw.out wy f1).get h0 (by rw [Hm.out]; exact hhm)
                    have hbd := World.block_lt_of_cell? _ _ ck
                    have cko := (HK0.out).get h0 (by rw [Hm.out]; exact hhm)
                    obtain ⟨bd', od', e4, ck'⟩ := cko
                    injection e4 with e4
                    injection e4 with e5 e6
                    subst e5; subst e6
                    have hbd' := World.block_lt_of_cell? _ _ ck'
                    simp only at hbd'
                    have HS3 := Lib.hid (Bw.setB (HBe.out.no (Fr.refl No wy).drew) (i := i) (by rw [HLm2.out]; exact hlt) (highV r h0))
                    obtain ⟨⟨v1, ev1⟩, ef1, _⟩ := HS3.out
                    have hb3 := (Bw.setB HBe.out (i := i) (by rw [HLm2.out]; exact hlt) (highV r h0)).2.2.no (Fr.refl No _).drew
                    rw [HMh.out] at hb3
                    have HB2 := Lib.hid hb3
                    have hvv : highV r h0 = r.getD h0 0 - 1 := by unfold highV; rw [if_neg (by rw [Hm.out]; omega)]
                    have hpos := HP.out _ (Sz12.getD_in (l := r) (i := h0) (by rw [Hm.out]; exact hhm))
                    rw [hvv] at HB2
                    have hbB := (HBe.out.rb.lt gB rfl).1
                    have hnB := (HBe.out.nb gB rfl).1
                    obtain ⟨q0, q1, q2, q3⟩ := Ob.four HBe.out.ob
                    have ln2 := HLm2.out
                    have lnc := own_cap HBe.out.rb
                    generalize r.getD h0 0 = y at *
                    generalize (mid (boxHi rows ys) 4294967295 i rows.length) = ml2 at *
                    have hw := IntWalk.u32_in ((y : Int) - 1) (by omega)
                    have hwn : ((y - 1 : Nat) : Int) = (y : Int) - 1 := by omega
                    rw [hwn] at HB2
                    (refine wp_region_held_drew (S := fun w' => ((w'.cell? ⟨by_, oy + i, none⟩ = some (.int .i64 (h0 : Int)) ∧ w'.cell? ⟨gs, 0, none⟩ = some (.slice (some ⟨gt, 0, none⟩) rows.length ct)) ∧ (w'.cell? ⟨gt, i, none⟩ = some (.slice (some ⟨bd, od, none⟩) m cd) ∧ w'.cell? ⟨bd, od + h0, none⟩ = some (.int .u32 (y : Int)))) ∧ w'.cell? ⟨w1.heap.size, 1, none⟩ = some (.slice (some ⟨gB, 0, none⟩) ml2.length cb)) (by kernel_rfl) ?_ (fun hHeld => ?_); focus ((try dsimp only); (refine ⟨⟨⟨?_, ?_⟩, ⟨?_, ?_⟩⟩, ?_⟩; (repeat (first | with_reducible assumption | with_reducible refine cel_alloc ?_ _ | with_reducible refine cel_drew ?_ | with_reducible refine cel_drewN ?_ _ | with_reducible refine cel_set ?_ (by first | (simp; done) | (simp; omega)) _ | with_reducible refine cel_no ?_ (by assumption))); (repeat (first | with_reducible assumption | with_reducible refine cel_alloc ?_ _ | with_reducible refine cel_drew ?_ | with_reducible refine cel_drewN ?_ _ | with_reducible refine cel_set ?_ (by first | (simp; done) | (simp; omega)) _ | with_reducible refine cel_no ?_ (by assumption))); (repeat (first | with_reducible assumption | with_reducible refine cel_alloc ?_ _ | with_reducible refine cel_drew ?_ | with_reducible refine cel_drewN ?_ _ | with_reducible refine cel_set ?_ (by first | (simp; done) | (simp; omega)) _ | with_reducible refine cel_no ?_ (by assumption))); (repeat (first | with_reducible assumption | with_reducible refine cel_alloc ?_ _ | with_reducible refine cel_drew ?_ | with_reducible refine cel_drewN ?_ _ | with_reducible refine cel_set ?_ (by first | (simp; done) | (simp; omega)) _ | with_reducible refine cel_no ?_ (by assumption))); (repeat (first | with_reducible assumption | with_reducible refine cel_alloc ?_ _ | with_reducible refine cel_drew ?_ | with_reducible refine cel_drewN ?_ _ | with_reducible refine cel_set ?_ (by first | (simp; done) | (simp; omega)) _ | with_reducible refine cel_no ?_ (by assumption)))); done))
                    ((refine wpAnyH_take (i := 0) (v := ?_) rfl (by kernel_rfl) (by kernel_rfl) (by kernel_rfl) (fun _ _ _ h => h) (Or.inl ⟨by rfl, ?_⟩) (by assumption) ?_; rotate_left; focus (intro w hSw; (try dsimp only at hSw); go_simp; (try with_reducible rfl); done)); (try simp only [Act.put, List.setIfInBounds_toArray, List.set_cons_zero, List.set_cons_succ, List.getElem_toArray, List.getElem_cons_zero, List.getElem_cons_succ]); (refine wpAnyH_take (i := 1) (v := ?_) rfl (by kernel_rfl) (by kernel_rfl) (by kernel_rfl) (fun _ _ _ h => h) (Or.inl ⟨by rfl, ?_⟩) (by assumption) ?_; rotate_left; focus (intro w hSw; (try dsimp only at hSw); go_simp; (try with_reducible rfl); done)); (try simp only [Act.put, List.setIfInBounds_toArray, List.set_cons_zero, List.set_cons_succ, List.getElem_toArray, List.getElem_cons_zero, List.getElem_cons_succ]); (refine wpAnyH_take (i := 2) (v := ?_) rfl (by kernel_rfl) (by kernel_rfl) (by kernel_rfl) (fun _ _ _ h => h) (Or.inl ⟨by rfl, ?_⟩) (by assumption) ?_; rotate_left; focus (intro w hSw; (try dsimp only at hSw); go_simp; (try with_reducible rfl); done)); (try simp only [Act.put, List.setIfInBounds_toArray, List.set_cons_zero, List.set_cons_succ, List.getElem_toArray, List.getElem_cons_zero, List.getElem_cons_succ]); (refine wpAnyH_take (i := 3) (v := ?_) rfl (by kernel_rfl) (by kernel_rfl) (by kernel_rfl) (fun _ _ _ h => h) (Or.inl ⟨by rfl, ?_⟩) (by assumption) ?_; rotate_left; focus (intro w hSw; (try dsimp only at hSw); go_simp; (try with_reducible rfl); done)); (try simp only [Act.put, List.setIfInBounds_toArray, List.set_cons_zero, List.set_cons_succ, List.getElem_toArray, List.getElem_cons_zero, List.getElem_cons_succ]); (refine wpAnyH_take (i := 4) (v := ?_) rfl (by kernel_rfl) (by kernel_rfl) (by kernel_rfl) (fun _ _ _ h => h) (Or.inl ⟨by rfl, ?_⟩) (by assumption) ?_; rotate_left; focus (intro w hSw; (try dsimp only at hSw); go_simp; (try with_reducible rfl); done)); (try simp only [Act.put, List.setIfInBounds_toArray, List.set_cons_zero, List.set_cons_succ, List.getElem_toArray, List.getElem_cons_zero, List.getElem_cons_succ]); (refine wpAnyH_take (i := 5) (v := ?_) rfl (by kernel_rfl) (by kernel_rfl) (by kernel_rfl) (fun _ _ _ h => h) (Or.inl ⟨by rfl, ?_⟩) (by assumption) ?_; rotate_left; focus (intro w hSw; (try dsimp only at hSw); go_simp; (try with_reducible rfl); done)); (try simp only [Act.put, List.setIfInBounds_toArray, List.set_cons_zero, List.set_cons_succ, List.getElem_toArray, List.getElem_cons_zero, List.getElem_cons_succ]); (refine wpAnyH_take (i := 6) (v := ?_) rfl (by kernel_rfl) (by kernel_rfl) (by kernel_rfl) (fun _ _ _ h => h) (Or.inl ⟨by rfl, ?_⟩) (by assumption) ?_; rotate_left; focus (intro w hSw; (try dsimp only at hSw); go_simp; (try with_reducible rfl); done)); (try simp only [Act.put, List.setIfInBounds_toArray, List.set_cons_zero, List.set_cons_succ, List.getElem_toArray, List.getElem_cons_zero, List.getElem_cons_succ]); (refine wpAnyH_take (i := 7) (v := ?_) rfl (by kernel_rfl) (by kernel_rfl) (by kernel_rfl) (fun _ _ _ h => h) (Or.inl ⟨by rfl, ?_⟩) (by assumption) ?_; rotate_left; focus (intro w hSw; (try dsimp only at hSw); go_simp; (try with_reducible rfl); done)); (try simp only [Act.put, List.setIfInBounds_toArray, List.set_cons_zero, List.set_cons_succ, List.getElem_toArray, List.getElem_cons_zero, List.getElem_cons_succ]); (refine wpAnyH_take (i := 8) (v := ?_) rfl (by kernel_rfl) (by kernel_rfl) (by kernel_rfl) (fun _ _ _ h => h) (Or.inl ⟨by rfl, ?_⟩) (by assumption) ?_; rotate_left; focus (intro w hSw; (try dsimp only at hSw); go_simp; (try with_reducible rfl); done)); (try simp only [Act.put, List.setIfInBounds_toArray, List.set_cons_zero, List.set_cons_succ, List.getElem_toArray, List.getElem_cons_zero, List.getElem_cons_succ]); (refine wpAnyH_take (i := 9) (v := ?_) rfl (by kernel_rfl) (by kernel_rfl) (by kernel_rfl) (fun _ _ _ h => h) (Or.inl ⟨by rfl, ?_⟩) (by assumption) ?_; rotate_left; focus (intro w hSw; (try dsimp only at hSw); go_simp; (try with_reducible rfl); done)); (try simp only [Act.put, List.setIfInBounds_toArray, List.set_cons_zero, List.set_cons_succ, List.getElem_toArray, List.getElem_cons_zero, List.getElem_cons_succ]); (refine wpAnyH_take (i := 10) (v := ?_) rfl (by kernel_rfl) (by kernel_rfl) (by kernel_rfl) (fun _ _ _ h => h) (Or.inl ⟨by rfl, ?_⟩) (by assumption) ?_; rotate_left; focus (intro w hSw; (try dsimp only at hSw); go_simp; (try with_reducible rfl); done)); (try simp only [Act.put, List.setIfInBounds_toArray, List.set_cons_zero, List.set_cons_succ, List.getElem_toArray, List.getElem_cons_zero, List.getElem_cons_succ]); (refine wpAnyH_take (i := 11) (v := ?_) rfl (by kernel_rfl) (by kernel_rfl) (by kernel_rfl) (fun _ _ _ h => h) (Or.inl ⟨by rfl, ?_⟩) (by assumption) ?_; rotate_left; focus (intro w hSw; (try dsimp only at hSw); go_simp; (try with_reducible rfl); done)); (try simp only [Act.put, List.setIfInBounds_toArray, List.set_cons_zero, List.set_cons_succ, List.getElem_toArray, List.getElem_cons_zero, List.getElem_cons_succ]); (refine wpAnyH_take (i := 12) (v := ?_) rfl (by kernel_rfl) (by kernel_rfl) (by kernel_rfl) (fun _ _ _ h => h) (Or.inl ⟨by rfl, ?_⟩) (by assumption) ?_; rotate_left; focus (intro w hSw; (try dsimp only at hSw); go_simp; (try with_reducible rfl); done)); (try simp only [Act.put, List.setIfInBounds_toArray, List.set_cons_zero, List.set_cons_succ, List.getElem_toArray, List.getElem_cons_zero, List.getElem_cons_succ]); (refine wpAnyH_take (i := 13) (v := ?_) rfl (by kernel_rfl) (by kernel_rfl) (by kernel_rfl) (fun _ _ _ h => h) (Or.inl ⟨by rfl, ?_⟩) (by assumption) ?_; rotate_left; focus (intro w hSw; (try dsimp only at hSw); go_simp; (try with_reducible rfl); done)); (try simp only [Act.put, List.setIfInBounds_toArray, List.set_cons_zero, List.set_cons_succ, List.getElem_toArray, List.getElem_cons_zero, List.getElem_cons_succ]); (refine wpAnyH_take (i := 14) (v := ?_) rfl (by kernel_rfl) (by kernel_rfl) (by kernel_rfl) (fun _ _ _ h => h) (Or.inl ⟨by rfl, ?_⟩) (by assumption) ?_; rotate_left; focus (intro w hSw; (try dsimp only at hSw); go_simp; (try with_reducible rfl); done)); (try simp only [Act.put, List.setIfInBounds_toArray, List.set_cons_zero, List.set_cons_succ, List.getElem_toArray, List.getElem_cons_zero, List.getElem_cons_succ]); (refine wpAnyH_take (i := 15) (v := ?_) rfl (by kernel_rfl) (by kernel_rfl) (by kernel_rfl) (fun _ _ _ h => h) (Or.inl ⟨by rfl, ?_⟩) (by assumption) ?_; rotate_left; focus (intro w hSw; (try dsimp only at hSw); go_simp; (try with_reducible rfl); done)); (try simp only [Act.put, List.setIfInBounds_toArray, List.set_cons_zero, List.set_cons_succ, List.getElem_toArray, List.getElem_cons_zero, List.getElem_cons_succ]))
                    (refine wpAnyH_take (i := 16) (v := ?_) rfl (by kernel_rfl) (by kernel_rfl) (by kernel_rfl) (fun _ _ _ h => h) (Or.inl ⟨by rfl, ?_⟩) (by assumption) ?_; rotate_left; focus (intro w hSw; (try dsimp only at hSw); go_simp; (try simp only [hw]); (try with_reducible rfl); done)); (try simp only [Act.put, List.setIfInBounds_toArray, List.set_cons_zero, List.set_cons_succ, List.getElem_toArray, List.getElem_cons_zero, List.getElem_cons_succ])
                    (refine wpAnyH_take (i := 17) (v := ?_) rfl (by kernel_rfl) (by kernel_rfl) (by kernel_rfl) (fun _ _ _ h => h) (Or.inl ⟨by rfl, ?_⟩) (by assumption) ?_; rotate_left; focus (intro w hSw; (try dsimp only at hSw); go_simp; (try with_reducible rfl); done)); (try simp only [Act.put, List.setIfInBounds_toArray, List.set_cons_zero, List.set_cons_succ, List.getElem_toArray, List.getElem_cons_zero, List.getElem_cons_succ])
                    (refine wpAnyH_ready (rs := [18]) (by kernel_rfl) (by simp) ?_; refine AllReadyH.cons rfl (fun K hK => ?_) AllReadyH.nil; (try simp only [Act.put, List.setIfInBounds_toArray, List.set_cons_zero, List.set_cons_succ, List.getElem_toArray, List.getElem_cons_zero, List.getElem_cons_succ]); go_simp; refine hK.out _ _ ?_ (fun hHeld => ?_); focus ((try dsimp only); (refine ⟨⟨⟨?_, ?_⟩, ⟨?_, ?_⟩⟩, ?_⟩; (repeat (first | with_reducible assumption | with_reducible refine cel_alloc ?_ _ | with_reducible refine cel_drew ?_ | with_reducible refine cel_drewN ?_ _ | with_reducible refine cel_set ?_ (by first | (simp; done) | (simp; omega)) _ | with_reducible refine cel_no ?_ (by assumption))); (repeat (first | with_reducible assumption | with_reducible refine cel_alloc ?_ _ | with_reducible refine cel_drew ?_ | with_reducible refine cel_drewN ?_ _ | with_reducible refine cel_set ?_ (by first | (simp; done) | (simp; omega)) _ | with_reducible refine cel_no ?_ (by assumption))); (repeat (first | with_reducible assumption | with_reducible refine cel_alloc ?_ _ | with_reducible refine cel_drew ?_ | with_reducible refine cel_drewN ?_ _ | with_reducible refine cel_set ?_ (by first | (simp; done) | (simp; omega)) _ | with_reducible refine cel_no ?_ (by assumption))); (repeat (first | with_reducible assumption | with_reducible refine cel_alloc ?_ _ | with_reducible refine cel_drew ?_ | with_reducible refine cel_drewN ?_ _ | with_reducible refine cel_set ?_ (by first | (simp; done) | (simp; omega)) _ | with_reducible refine cel_no ?_ (by assumption))); (repeat (first | with_reducible assumption | with_reducible refine cel_alloc ?_ _ | with_reducible refine cel_drew ?_ | with_reducible refine cel_drewN ?_ _ | with_reducible refine cel_set ?_ (by first | (simp; done) | (simp; omega)) _ | with_reducible refine cel_no ?_ (by assumption)))); done)); (clear hK K); (try simp only [Act.put, List.setIfInBounds_toArray, List.set_cons_zero, List.set_cons_succ, List.getElem_toArray, List.getElem_cons_zero, List.getElem_cons_succ])
                    (refine wpAnyH_done (by kernel_rfl) ?_ _)
                    (try go_wp2)
                    go_roundw
                    case rel => exact ⟨i + 1, by go_num, hlt, Lib.hid ⟨HYES2.out, _, _, _, _, HB2.out⟩⟩
                    case measure => simp [intOf]; omega
                  · have hd : decide (((h0 : Nat) : Int) < (m : Int)) = false := decide_eq_false (by omega)
                    go_quiet (fail)
                    have HB2 := Lib.hid (show Bw w (wx.drewN nq) w.heap.size w1.heap.size (mid (boxLo rows xs) 0 (i + 1) rows.length) (mid (boxHi rows ys) 4294967295 (i + 1) rows.length) (some ⟨gA, 0, none⟩) ca (some ⟨gB, 0, none⟩) cb by
                      have e : (boxHi rows ys).getD i 0 = 4294967295 := by rw [HgH.out]; unfold highV; rw [if_pos (by rw [Hm.out]; omega)]
                      rw [← mid_same (l := boxHi rows ys) hlt HlH.out e]
                      exact HB1.out.no ((Fr.refl No wx).drewN nq))
                    (try go_wp2)
                    go_roundw
                    case rel => exact ⟨i + 1, by go_num, hlt, Lib.hid ⟨HYES2.out, _, _, _, _, HB2.out⟩⟩
                    case measure => simp [intOf]; omega
        · obtain rfl : i = rows.length := by omega
          have HBz := Lib.hid HBw.out
          rw [mid_all HlL.out, mid_all HlH.out] at HBz
          obtain ⟨rfl, rfl, rfl⟩ := HYES.out ⟨HXl.out.symm, HYl.out.symm, HOk.out⟩
          clear HOk HBw
          obtain ⟨o0, o1, o2, o3⟩ := Ob.four HBz.out.o6
          obtain ⟨p0, p1, p2, p3⟩ := Ob.four HBz.out.ob
          go_wp2
          have f6 : Fr (fun k => k = w.heap.size) wr ((wr.setCell ⟨w.heap.size, 0, none⟩ (.slice A (boxLo rows xs).length ca)).setCell ⟨w.heap.size, 1, none⟩ (.slice B (boxHi rows ys).length cb)) := ((Fr.refl (fun k => k = w.heap.size) wr).setCell (p := ⟨w.heap.size, 0, none⟩) (.inl rfl) _).setCell (p := ⟨w.heap.size, 1, none⟩) (.inl rfl) _
          refine bodyPost_ret (v := .tuple #[.agg #[.slice A (boxLo rows xs).length ca, .slice B (boxHi rows ys).length cb], .int .i64 0]) (by simp [results, Try.results35, go_sem, o0, o1]) rfl ?_
          exact ⟨A, _, ca, B, _, cb, rfl, Kv.of_own (own_fr1 HBz.out.ra f6 (fun k hk e => (HBz.out.na k hk).2.1 e)) HLT.out.1, Kv.of_own (own_fr1 HBz.out.rb f6 (fun k hk e => (HBz.out.nb k hk).2 e)) HLT.out.2, HBz.out.fr.trans f6 (fun k e => .inr (by rw [e]; exact Nat.le_refl _))⟩
    · have HNY := Lib.hid (show ¬ boxOk rows xs ys from fun e => hyr (by rw [HYl.out, e.2.1]))
      obtain ⟨rfl, rfl, rfl⟩ := HNO.out HNY.out
      have hyn : ((yn : Int) == (rows.length : Int)) = false := by rw [beq_eq_false_iff_ne]; omega
      clear HNO HYES HNY hx hy h hg
      subst hxr
      go_enter Try.func35, Try.ntmps35
      go_wp2
      obtain ⟨o0, o1, o2, o3⟩ := Ob.four OB0.out
      refine bodyPost_ret (v := .tuple #[.agg #[.slice none 0 0, .slice none 0 0], .int .i64 1]) (by simp [results, Try.results35, go_sem, o0, o1]) rfl ?_
      exact ⟨none, 0, 0, none, 0, 0, rfl, Kv.none_ _, Kv.none_ _, by (repeat (first | with_reducible exact Fr.refl _ _ | with_reducible refine Fr.setCell ?_ (.inr (by first | (simp; done) | (simp; omega))) _ | with_reducible refine Fr.alloc ?_ _ | with_reducible refine Fr.drew ?_ | with_reducible refine Fr.drewN ?_ _ | with_reducible refine Fr.tr ?_ (by assumption)))⟩
  · have HNX := Lib.hid (show ¬ boxOk rows xs ys from fun e => hxr (by rw [HXl.out, e.1]))
    obtain ⟨rfl, rfl, rfl⟩ := HNO.out HNX.out
    have hxn : ((xn : Int) == (rows.length : Int)) = false := by rw [beq_eq_false_iff_ne]; omega
    clear HNO HYES HNX hx hy h hg
    go_enter Try.func35, Try.ntmps35
    go_wp2
    obtain ⟨o0, o1, o2, o3⟩ := Ob.four OB0.out
    refine bodyPost_ret (v := .tuple #[.agg #[.slice none 0 0, .slice none 0 0], .int .i64 1]) (by simp [results, Try.results35, go_sem, o0, o1]) rfl ?_
    exact ⟨none, 0, 0, none, 0, 0, rfl, Kv.none_ _, Kv.none_ _, by (repeat (first | with_reducible exact Fr.refl _ _ | with_reducible refine Fr.setCell ?_ (.inr (by first | (simp; done) | (simp; omega))) _ | with_reducible refine Fr.alloc ?_ _ | with_reducible refine Fr.drew ?_ | with_reducible refine Fr.drewN ?_ _ | with_reducible refine Fr.tr ?_ (by assumption)))⟩
end
end Go.Proofs.Ytifpigcgkpmheaa.Te12
