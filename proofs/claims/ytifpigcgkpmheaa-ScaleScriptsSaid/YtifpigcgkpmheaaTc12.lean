/- Layer 12: the bytes of the document's scale. -/
import Derived.Test.YtifpigcgkpmheaaSw12
import Derived.Test.YtifpigcgkpmheaaSm12
import Derived.Test.YtifpigcgkpmheaaWd
import Derived.Deep.QuietTactic
import Derived.StillTailTactics
namespace Go.Proofs.Ytifpigcgkpmheaa.Tc12
open Go.RowKit Go.Proofs.Ytifpigcgkpmheaa.Pk08 Go.Proofs.Ytifpigcgkpmheaa.Base Go.Proofs.Ytifpigcgkpmheaa.App Go.Proofs.Ytifpigcgkpmheaa.Ty Go.Proofs.Ytifpigcgkpmheaa.Str Go.Proofs.Ytifpigcgkpmheaa.Ky Go.Proofs.Ytifpigcgkpmheaa.Iv Go.Proofs.Ytifpigcgkpmheaa.Bx Go.Proofs.Ytifpigcgkpmheaa.Bo Go.Proofs.Ytifpigcgkpmheaa.As Go.Proofs.Ytifpigcgkpmheaa.Ro Go.Proofs.Ytifpigcgkpmheaa.Pl08 Go.Proofs.Ytifpigcgkpmheaa.Kc08 Go.Proofs.Ytifpigcgkpmheaa.Ke08 Go.Proofs.Ytifpigcgkpmheaa.Ki08 Go.Proofs.Ytifpigcgkpmheaa.Ka08 Go.Proofs.Ytifpigcgkpmheaa.Ic Go.Proofs.Ytifpigcgkpmheaa.In Go.Proofs.Ytifpigcgkpmheaa.Fa Go.Proofs.Ytifpigcgkpmheaa.Sa12 Go.Proofs.Ytifpigcgkpmheaa.Sb12 Go.Proofs.Ytifpigcgkpmheaa.Sc12 Go.Proofs.Ytifpigcgkpmheaa.Sd12 Go.Proofs.Ytifpigcgkpmheaa.Se12 Go.Proofs.Ytifpigcgkpmheaa.Sf12 Go.Proofs.Ytifpigcgkpmheaa.Sg12 Go.Proofs.Ytifpigcgkpmheaa.Sh12 Go.Proofs.Ytifpigcgkpmheaa.Si12 Go.Proofs.Ytifpigcgkpmheaa.Sk12 Go.Proofs.Ytifpigcgkpmheaa.Sl12 Go.Proofs.Ytifpigcgkpmheaa.St12 Go.Proofs.Ytifpigcgkpmheaa.Sv12 Go.Proofs.Ytifpigcgkpmheaa.Sw12 Go.Proofs.Ytifpigcgkpmheaa.Sw12 Go.Proofs.Ytifpigcgkpmheaa.Kj08 Go.Proofs.Ytifpigcgkpmheaa.Kh08 Go.Proofs.Ytifpigcgkpmheaa.Ky08 Go.Proofs.Ytifpigcgkpmheaa.Sm12 Go.Proofs.Ytifpigcgkpmheaa.Wd
set_option linter.unusedVariables false
set_option linter.unusedSimpArgs false
section
variable {w w1 : World} {gs gt ct N : Nat} {T : Option Addr} {rows : List (List Nat)}
set_option maxRecDepth 8000 in
set_option maxHeartbeats 3200000 in
theorem rencode_any (h : Sr w gs T ct rows) (hg : Gd rows) : Calls Try.prog 30 #[.pointer (some ⟨gs, 0, none⟩)] w fun en w' => en = .returned (.string (txt (encS rows))) ∧ Fr No w w' := by
  have c0 := h.c0
  have hcap := h.cap
  have hmost := h.most
  have hmx : maxLen ≤ 9223372036854775807 := by decide
  have hl6 := hg.2.1
  have HS := Lib.hid h
  have HG := Lib.hid hg
  have hNb : (encS rows).length ≤ 1518 := by have := encS_bound (rows := rows) (fun r hr => (hg.2.2 r hr).2.1); omega
  clear h hg
  go_enter Try.func30, Try.ntmps30
  go_wp2
  go_loopw [3, 4] (fun v u wr => ∃ (i : Nat) (t : ByteArray), u = .int .i64 i ∧ v = .string t ∧ i ≤ rows.length ∧ t.size ≤ 1518 ∧ Hid (t = txt (encS (rows.take i)) ∧ Fr No w wr)) (fun _ u _ => rows.length - (intOf u).toNat)
  case atStart => exact ⟨0, { data := #[] }, rfl, rfl, Nat.zero_le _, Nat.zero_le _, Lib.hid ⟨rfl, Fr.refl _ _⟩⟩
  case round =>
    obtain ⟨i, t, rfl, rfl, hin, hL, Hi⟩ := hrel
    have d0 := cel_no c0 Hi.out.2
    by_cases hlt : i < rows.length
    · obtain ⟨gt, D, cd, rfl, c10, hk0⟩ := HS.out.get i hlt
      have c1 := cel_no c10 Hi.out.2
      have HK := Lib.hid (fun W (f : Fr No w W) => hk0.no f)
      have hm63 := (HG.out.row hlt).2.1
      have Hr32 := Lib.hid (show ∀ x ∈ rows.getD i [], x < 4294967296 from fun x hx => ((HG.out.row hlt).2.2 x hx).2)
      have Htk := Lib.hid (encS_take hlt)
      have hle : (encS (rows.take i)).length + 1 + 4 * (rows.getD i []).length ≤ 1518 := by have := encS_le hlt; omega
      have htl : t.size = (encS (rows.take i)).length := by rw [Hi.out.1, txt_size]
      have Hti := Lib.hid Hi.out.1
      have HF := Lib.hid Hi.out.2
      obtain ⟨m, hm⟩ : ∃ m, (rows.getD i []).length = m := ⟨_, rfl⟩
      have Hm := Lib.hid hm
      have HER := Lib.hid (show encR (rows.getD i []) = be1 m ++ (rows.getD i []).flatMap be4 by unfold encR; rw [hm])
      rw [hm] at c10 c1 HK hm63 hle
      clear hm hk0 Hi
      generalize rows.getD i [] = r at *
      generalize encS (rows.take i) = ex at *
      have H1s : (txt (be1 m)).size = 1 := txt_size _
      have HW1 := Lib.hid (fun W => wide1 (w := W) m (by omega) (m : Int) rfl)
      have Ht1 := Lib.hid (show t ++ txt (be1 m) = txt (ex ++ be1 m) by rw [Hti.out, txt_app])
      generalize txt (be1 m) = t1 at *
      go_wp2_with (go_at_call 57; ((with_reducible refine (HW1.out _).mono ?_); rintro en w2 ⟨rfl, hf2⟩))
      have HF2 := Lib.hid (HF.out.tr hf2)
      clear hf2 HF d0 c1
      go_loopw [3, 5] (fun v u wq => ∃ (j : Nat) (t2 : ByteArray), u = .int .i64 j ∧ v = .string t2 ∧ j ≤ m ∧ t2.size = ex.length + 1 + 4 * j ∧ Hid (t2 = txt (ex ++ be1 m ++ (r.take j).flatMap be4) ∧ Fr No w wq)) (fun _ u _ => m - (intOf u).toNat)
      case atStart => exact ⟨0, _, rfl, rfl, Nat.zero_le _, by rw [ByteArray.size_append, H1s]; omega, Lib.hid ⟨by rw [Ht1.out]; simp, HF2.out⟩⟩
      case round =>
        obtain ⟨j, t2, rfl, rfl, hjm, hz2, Hj⟩ := hrel
        have e0 := cel_no c0 Hj.out.2
        have e1 := cel_no c10 Hj.out.2
        by_cases hjlt : j < m
        · obtain ⟨bk, ok, rfl, ck⟩ := (HK.out _ Hj.out.2).get j (by rw [Hm.out]; exact hjlt)
          have hjr : j < r.length := by rw [Hm.out]; exact hjlt
          have hx : r.getD j 0 < 4294967296 := Hr32.out _ (by rw [show r.getD j 0 = r[j] by simp [List.getD_eq_getElem?_getD, hjr]]; exact List.getElem_mem hjr)
          have Htj := Lib.hid (show ex ++ be1 m ++ (r.take (j + 1)).flatMap be4 = ex ++ be1 m ++ (r.take j).flatMap be4 ++ be4 (r.getD j 0) by
            rw [List.take_add_one, List.flatMap_append]; simp [List.getD_eq_getElem?_getD, hjr])
          have H4s : (txt (be4 (r.getD j 0))).size = 4 := txt_size _
          have HW4 := Lib.hid (fun W (z : Int) (hz : z = ((r.getD j 0 : Nat) : Int)) => wide4 (w := W) (r.getD j 0) hx z hz)
          have Ht4 := Lib.hid (show t2 ++ txt (be4 (r.getD j 0)) = txt (ex ++ be1 m ++ (r.take (j + 1)).flatMap be4) by rw [Htj.out, Hj.out.1, txt_app])
          have HFj := Lib.hid Hj.out.2
          clear hjr Hj
          generalize r.getD j 0 = y at *
          generalize txt (be4 y) = t4 at *
          go_wp2_with (go_at_call 57; ((with_reducible refine (HW4.out _ _ (by first | rfl | omega)).mono ?_); rintro en w3 ⟨rfl, hf3⟩))
          go_roundw
          case rel => exact ⟨j + 1, _, by go_num, rfl, hjlt, by rw [ByteArray.size_append, H4s]; omega, Lib.hid ⟨Ht4.out, HFj.out.tr hf3⟩⟩
          case measure => simp [intOf]; omega
        · obtain rfl : j = m := by omega
          have HZ := Lib.hid (show t2 = txt (encS (rows.take (i + 1))) by
            rw [Hj.out.1, Htk.out, HER.out, List.take_of_length_le (by rw [Hm.out]; exact Nat.le_refl _), List.append_assoc])
          have hfj := Lib.hid Hj.out.2
          clear Hj
          go_wp2
          go_roundw
          case rel => exact ⟨i + 1, t2, by go_num, rfl, hlt, by omega, Lib.hid ⟨HZ.out, hfj.out⟩⟩
          case measure => simp [intOf]; omega
    · obtain rfl : i = rows.length := by omega
      have HZ := Lib.hid (show t = txt (encS rows) by have := Hi.out.1; rw [List.take_of_length_le (Nat.le_refl _)] at this; exact this)
      go_wp2
      go_ret
      exact ⟨by rw [HZ.out]; rfl, Hi.out.2⟩
end
end Go.Proofs.Ytifpigcgkpmheaa.Tc12
