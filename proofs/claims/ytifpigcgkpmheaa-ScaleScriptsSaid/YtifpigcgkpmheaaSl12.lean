/- Layer 12: the bytes of a scale. -/
import Derived.Test.YtifpigcgkpmheaaSk12
import Derived.Test.YtifpigcgkpmheaaFa
import Derived.StillTailTactics
namespace Go.Proofs.Ytifpigcgkpmheaa.Sl12
open Go.RowKit Go.Proofs.Ytifpigcgkpmheaa.Pk08 Go.Proofs.Ytifpigcgkpmheaa.Base Go.Proofs.Ytifpigcgkpmheaa.App Go.Proofs.Ytifpigcgkpmheaa.Str Go.Proofs.Ytifpigcgkpmheaa.Ky Go.Proofs.Ytifpigcgkpmheaa.Iv Go.Proofs.Ytifpigcgkpmheaa.Bx Go.Proofs.Ytifpigcgkpmheaa.Bo Go.Proofs.Ytifpigcgkpmheaa.As Go.Proofs.Ytifpigcgkpmheaa.Ro Go.Proofs.Ytifpigcgkpmheaa.Fa Go.Proofs.Ytifpigcgkpmheaa.Sa12 Go.Proofs.Ytifpigcgkpmheaa.Sb12 Go.Proofs.Ytifpigcgkpmheaa.Sc12 Go.Proofs.Ytifpigcgkpmheaa.Sd12 Go.Proofs.Ytifpigcgkpmheaa.Sf12
set_option linter.unusedVariables false
set_option linter.unusedSimpArgs false
def encR (r : List Nat) : List Nat := be1 r.length ++ r.flatMap be4
def encS (rows : List (List Nat)) : List Nat := rows.flatMap encR
theorem flat4_len (r : List Nat) : (r.flatMap be4).length = 4 * r.length := by
  induction r with
  | nil => rfl
  | cons x xs ih => simp only [List.flatMap_cons, List.length_append, ih, List.length_cons]; simp [be4]; omega
theorem encR_len (r : List Nat) : (encR r).length = 1 + 4 * r.length := by unfold encR; rw [List.length_append, flat4_len]; rfl
section
variable {rows : List (List Nat)}
theorem encS_take {i : Nat} (hi : i < rows.length) : encS (rows.take (i + 1)) = encS (rows.take i) ++ encR (rows.getD i []) := by
  have e : rows.take (i + 1) = rows.take i ++ [rows.getD i []] := by
    rw [List.take_add_one]; simp [List.getD_eq_getElem?_getD, hi]
  rw [e]; simp [encS]
theorem encS_le {i : Nat} (hi : i < rows.length) : (encS (rows.take i)).length + 1 + 4 * (rows.getD i []).length ≤ (encS rows).length := by
  have h1 := congrArg List.length (encS_take hi)
  rw [List.length_append, encR_len] at h1
  have h2 : encS rows = encS (rows.take (i + 1)) ++ encS (rows.drop (i + 1)) := by
    unfold encS; rw [← List.flatMap_append, List.take_append_drop]
  have h3 := congrArg List.length h2
  rw [List.length_append] at h3
  omega
theorem encS_bound (h : ∀ r ∈ rows, r.length ≤ 63) : (encS rows).length ≤ 253 * rows.length := by
  induction rows with
  | nil => simp [encS]
  | cons r rs ih =>
    have h1 := h r List.mem_cons_self
    have h2 := ih (fun x hx => h x (List.mem_cons_of_mem _ hx))
    simp only [encS, List.flatMap_cons, List.length_append, encR_len, List.length_cons] at *
    omega
end
/-- What is written, zeros behind it. -/
def st (xs : List Nat) (N : Nat) : List Nat := xs ++ List.replicate (N - xs.length) 0
theorem st_put (xs b : List Nat) (N : Nat) (h : xs.length + b.length ≤ N) : xs ++ b ++ (List.replicate (N - xs.length) 0).drop b.length = st (xs ++ b) N := by
  unfold st
  rw [List.drop_replicate, List.length_append, Nat.sub_sub]
section
variable {w w1 : World} {gs ga gb gt ct N : Nat} {T : Option Addr} {rows : List (List Nat)}
theorem sput1 (xs : List Nat) (v : Nat) (hv : v < 256) (hN : xs.length + 1 ≤ N) (hN2 : N ≤ 4096) (c0 : w.cell? ⟨ga, 0, none⟩ = some (.slice (some ⟨gb, 0, none⟩) N N)) (hob : Ob w gb (u8s (st xs N)).toArray 5) (z : Int) (hz : z = (xs.length : Nat)) :
    Calls Try.prog 45 #[.pointer (some ⟨ga, 0, none⟩), .int .i64 z, .int .i64 1, .int .u32 (v : Int)] w fun e w' => e = .returned (.int .i64 0) ∧ Ob w' gb (u8s (st (xs ++ be1 v) N)).toArray 5 ∧ Fr (fun k => k = gb) w w' := by
  subst hz
  have h := fput1 (T := 5) xs (List.replicate (N - xs.length) 0) v N hv (by rw [List.length_replicate]; omega) (by rw [List.length_replicate]; omega) hN2 c0 hob
  rw [show (1 : Nat) = (be1 v).length from rfl, st_put xs (be1 v) N (by simp [be1]; omega)] at h
  exact h
theorem sput4 (xs : List Nat) (v : Nat) (hv : v < 4294967296) (hN : xs.length + 4 ≤ N) (hN2 : N ≤ 4096) (c0 : w.cell? ⟨ga, 0, none⟩ = some (.slice (some ⟨gb, 0, none⟩) N N)) (hob : Ob w gb (u8s (st xs N)).toArray 5) (z : Int) (hz : z = (xs.length : Nat)) :
    Calls Try.prog 45 #[.pointer (some ⟨ga, 0, none⟩), .int .i64 z, .int .i64 4, .int .u32 (v : Int)] w fun e w' => e = .returned (.int .i64 0) ∧ Ob w' gb (u8s (st (xs ++ be4 v) N)).toArray 5 ∧ Fr (fun k => k = gb) w w' := by
  subst hz
  have h := fput4 (T := 5) xs (List.replicate (N - xs.length) 0) v N hv (by rw [List.length_replicate]; omega) (by rw [List.length_replicate]; omega) hN2 c0 hob
  rw [show xs ++ be4 v ++ List.drop 4 (List.replicate (N - xs.length) 0) = st (xs ++ be4 v) N from st_put xs (be4 v) N (by simp [be4]; omega)] at h
  exact h
set_option maxRecDepth 8000 in
set_option maxHeartbeats 3200000 in
theorem sencode_any (h : Sr w gs T ct rows) (hg : Gd rows) : Calls Try.prog 12 #[.pointer (some ⟨gs, 0, none⟩)] w fun en w' => en = .returned (.string (txt (encS rows))) ∧ Fr No w w' := by
  have c0 := h.c0
  have hcap := h.cap
  have hmost := h.most
  have hmx : maxLen ≤ 9223372036854775807 := by decide
  have hl6 := hg.2.1
  have HS := Lib.hid h
  have HG := Lib.hid hg
  have hNb : (encS rows).length ≤ 1518 := by have := encS_bound (rows := rows) (fun r hr => (hg.2.2 r hr).2.1); omega
  clear h hg
  go_enter Try.func12, Try.ntmps12
  go_wp2
  go_loopw [3, 20] (fun v u wr => ∃ i L : Nat, u = .int .i64 i ∧ v = .int .i64 L ∧ i ≤ rows.length ∧ L ≤ 1518 ∧ Hid (L = (encS (rows.take i)).length ∧ w = wr)) (fun _ u _ => rows.length - (intOf u).toNat)
  case atStart => exact ⟨0, 0, rfl, rfl, Nat.zero_le _, Nat.zero_le _, Lib.hid ⟨rfl, rfl⟩⟩
  case round =>
    obtain ⟨i, L, rfl, rfl, hin, hL, Hi⟩ := hrel
    obtain rfl := Hi.out.2
    by_cases hlt : i < rows.length
    · obtain ⟨gt, D, cd, rfl, c1, hk⟩ := HS.out.get i hlt
      have hm63 := (HG.out.row hlt).2.1
      have Htk := Lib.hid (show (encS (rows.take (i + 1))).length = L + 1 + 4 * (rows.getD i []).length by rw [encS_take hlt, List.length_append, encR_len, Hi.out.1]; omega)
      have Hle := Lib.hid (show L + 1 + 4 * (rows.getD i []).length ≤ 1518 by have := encS_le hlt; rw [← Hi.out.1] at this; omega)
      have hle := Hle.out
      clear hk
      generalize (rows.getD i []).length = m at *
      go_wp2
      go_roundw
      case rel => exact ⟨i + 1, L + 1 + 4 * m, by go_num, by go_num, hlt, Hle.out, Lib.hid ⟨Htk.out.symm, trivial⟩⟩
      case measure => simp [intOf]; omega
    · obtain rfl : i = rows.length := by omega
      have HLN := Lib.hid (show L = (encS rows).length by have := Hi.out.1; rw [List.take_of_length_le (Nat.le_refl _)] at this; exact this)
      clear Hi
      go_wp2_with first
        | (go_at_call 44; ((with_reducible refine (new_area L (by omega)).mono ?_); rintro en w1 ⟨ga, gb, rfl, ha1, hb1, hga, hgb, hne, hf1⟩; (have d0 := cel_no c0 hf1)))
        | fail
      have HA1 := Lib.hid (show Ob w1 ga #[.slice (some ⟨gb, 0, none⟩) L L] 99 from ha1)
      have HB1 := Lib.hid (show Ob w1 gb (u8s (st [] L)).toArray 5 by simpa [st] using hb1)
      have HF1 := Lib.hid hf1
      have Hgb := Lib.hid (show w.heap.size ≤ gb ∧ ga ≠ gb from ⟨hgb, hne⟩)
      clear ha1 hb1 hga hgb hne hf1
      go_loopw [8, 41] (fun v u wr => ∃ i K : Nat, u = .int .i64 i ∧ v = .int .i64 K ∧ i ≤ rows.length ∧ K ≤ 1518 ∧ Hid (K = (encS (rows.take i)).length ∧ Ob wr ga #[.slice (some ⟨gb, 0, none⟩) L L] 99 ∧ Ob wr gb (u8s (st (encS (rows.take i)) L)).toArray 5 ∧ Fr No w wr)) (fun _ u _ => rows.length - (intOf u).toNat)
      case atStart => exact ⟨0, 0, rfl, rfl, Nat.zero_le _, Nat.zero_le _, Lib.hid ⟨rfl, HA1.out, HB1.out, HF1.out⟩⟩
      case round =>
        obtain ⟨i, K, rfl, rfl, hin, hK, Hi⟩ := hrel
        by_cases hlt : i < rows.length
        · obtain ⟨gt, D, cd, rfl, c10, hk0⟩ := HS.out.get i hlt
          have c1 := cel_no c10 Hi.out.2.2.2
          have e0 := cel_no c0 Hi.out.2.2.2
          have HKw := Lib.hid (fun W (f : Fr No w W) => hk0.no f)
          have hm63 := (HG.out.row hlt).2.1
          have Hr32 := Lib.hid (show ∀ x ∈ rows.getD i [], x < 4294967296 from fun x hx => ((HG.out.row hlt).2.2 x hx).2)
          have Htk := Lib.hid (encS_take hlt)
          have hle : K + 1 + 4 * (rows.getD i []).length ≤ L := by have := encS_le hlt; rw [← Hi.out.1, ← HLN.out] at this; exact this
          have HP := Lib.hid (fun (W : World) (c : W.cell? ⟨ga, 0, none⟩ = some (.slice (some ⟨gb, 0, none⟩) L L)) (o : Ob W gb (u8s (st (encS (rows.take i)) L)).toArray 5) => sput1 (N := L) (encS (rows.take i)) (rows.getD i []).length (by omega) (by rw [← Hi.out.1]; omega) (by omega) c o (K : Int) (by rw [← Hi.out.1]))
          have HiK := Lib.hid Hi.out.1
          have a0 := Hi.out.2.1.cell 0 rfl
          have HA := Lib.hid Hi.out.2.1
          have HB := Lib.hid Hi.out.2.2.1
          have HF := Lib.hid Hi.out.2.2.2
          simp only [List.getElem_toArray, List.getElem_cons_zero] at a0
          obtain ⟨m, hm⟩ : ∃ m, (rows.getD i []).length = m := ⟨_, rfl⟩
          have Hm := Lib.hid hm
          have HER := Lib.hid (show encR (rows.getD i []) = be1 m ++ (rows.getD i []).flatMap be4 by unfold encR; rw [hm])
          rw [hm] at c10 c1 HKw hm63 hle HP
          clear hm hk0 Hi
          generalize rows.getD i [] = r at *
          generalize encS (rows.take i) = ex at *
          go_wp2_with first
            | (go_at_call 45; ((with_reducible refine (HP.out _ a0 HB.out).mono ?_); rintro en w2 ⟨rfl, hb2, hf2⟩; (have hfw2 := (show Fr No w w2 from HF.out.trans hf2 (fun k e => .inr (by rw [e]; exact Hgb.out.1)))); (have e2 := cel_no c0 hfw2); (have c2 := cel_no c10 hfw2)))
            | fail
          have HA2 := Lib.hid (HA.out.fr hf2 (fun e => Hgb.out.2 e))
          have HB2 := Lib.hid hb2
          have HF2 := Lib.hid hfw2
          clear hb2 hf2 hfw2
          go_loopw [8, 55] (fun v u wq => ∃ j : Nat, u = .int .i64 j ∧ v = .int .i64 ((K + 1 + 4 * j : Nat) : Int) ∧ j ≤ m ∧ Hid (Ob wq ga #[.slice (some ⟨gb, 0, none⟩) L L] 99 ∧ Ob wq gb (u8s (st (ex ++ be1 m ++ (r.take j).flatMap be4) L)).toArray 5 ∧ Fr No w wq)) (fun _ u _ => m - (intOf u).toNat)
          case atStart => exact ⟨0, rfl, by go_num, Nat.zero_le _, Lib.hid ⟨HA2.out, by simpa using HB2.out, HF2.out⟩⟩
          case round =>
            obtain ⟨j, rfl, rfl, hjm, Hj⟩ := hrel
            by_cases hjlt : j < m
            · obtain ⟨bk, ok, rfl, ck⟩ := (HKw.out _ Hj.out.2.2).get j (by rw [Hm.out]; exact hjlt)
              have hjr : j < r.length := by rw [Hm.out]; exact hjlt
              have Hx := Lib.hid (show r.getD j 0 < 4294967296 from Hr32.out _ (by rw [show r.getD j 0 = r[j] by simp [List.getD_eq_getElem?_getD, hjr]]; exact List.getElem_mem hjr))
              have Htj := Lib.hid (show ex ++ be1 m ++ (r.take (j + 1)).flatMap be4 = ex ++ be1 m ++ (r.take j).flatMap be4 ++ be4 (r.getD j 0) by
                rw [List.take_add_one, List.flatMap_append]; simp [List.getD_eq_getElem?_getD, hjr])
              have hxl : (ex ++ be1 m ++ (r.take j).flatMap be4).length = K + 1 + 4 * j := by
                rw [List.length_append, List.length_append, flat4_len, List.length_take, ← HiK.out, Nat.min_eq_left (by omega)]; rfl
              have HP4 := Lib.hid (fun (W : World) (z : Int) (hz : z = ((K + 1 + 4 * j : Nat) : Int)) (c : W.cell? ⟨ga, 0, none⟩ = some (.slice (some ⟨gb, 0, none⟩) L L)) (o : Ob W gb (u8s (st (ex ++ be1 m ++ (r.take j).flatMap be4) L)).toArray 5) => sput4 (N := L) (ex ++ be1 m ++ (r.take j).flatMap be4) (r.getD j 0) Hx.out (by rw [hxl]; omega) (by omega) c o z (by rw [hxl]; exact hz))
              have a1 := Hj.out.1.cell 0 rfl
              simp only [List.getElem_toArray, List.getElem_cons_zero] at a1
              clear hxl hjr
              generalize r.getD j 0 = y at *
              go_wp2_with first
                | (go_at_call 45; ((with_reducible refine (HP4.out _ _ (by omega) a1 Hj.out.2.1).mono ?_); rintro en w3 ⟨rfl, hb3, hf3⟩))
                | fail
              have HA3 := Lib.hid (Hj.out.1.fr hf3 (fun e => Hgb.out.2 e))
              have HB3 := Lib.hid hb3
              have HF3 := Lib.hid (Hj.out.2.2.trans hf3 (fun k e => .inr (by rw [e]; exact Hgb.out.1)))
              clear hb3 hf3
              go_roundw
              case rel => exact ⟨j + 1, by go_num, by go_num, hjlt, Lib.hid ⟨HA3.out, by rw [Htj.out]; exact HB3.out, HF3.out⟩⟩
              case measure => simp [intOf]; omega
            · obtain rfl : j = m := by omega
              have HZ := Lib.hid (show st (ex ++ be1 j ++ (r.take j).flatMap be4) L = st (encS (rows.take (i + 1))) L by
                rw [Htk.out, HER.out, List.take_of_length_le (by rw [Hm.out]; exact Nat.le_refl _), List.append_assoc])
              have HLz := Lib.hid (show K + 1 + 4 * j = (encS (rows.take (i + 1))).length by
                rw [Htk.out, List.length_append, encR_len, ← HiK.out, Hm.out]; omega)
              have HBz := Lib.hid Hj.out.2.1
              rw [HZ.out] at HBz
              go_wp2
              go_roundw
              case rel => exact ⟨i + 1, K + 1 + 4 * j, by go_num, by go_num, hlt, by omega, Lib.hid ⟨HLz.out, Hj.out.1, HBz.out, Hj.out.2.2⟩⟩
              case measure => simp [intOf]; omega
        · obtain rfl : i = rows.length := by omega
          have HZ := Lib.hid (show Ob wr gb (u8s (encS rows)).toArray 5 by
            have h1 := Hi.out.2.2.1
            rw [List.take_of_length_le (Nat.le_refl _)] at h1
            unfold st at h1
            rw [← HLN.out, Nat.sub_self, List.replicate_zero, List.append_nil] at h1
            exact h1)
          have a0 := Hi.out.2.1.cell 0 rfl
          simp only [List.getElem_toArray, List.getElem_cons_zero] at a0
          have HBy := Lib.hid (bytes_any (w := wr) (encS rows) L HLN.out.symm a0 (fun q hq => by
            have hq2 : q < (encS rows).length := by rw [← HLN.out]; exact hq
            exact HZ.out.cell q (by simp [u8s, List.getD_eq_getElem?_getD, hq2])))
          go_wp2_with first
            | (go_at_call 46; ((with_reducible refine HBy.out.mono ?_); rintro en w4 ⟨rfl, rfl⟩))
            | fail
          go_ret
          exact ⟨rfl, Hi.out.2.2.2⟩
theorem sencode_nil (W : World) : Calls Try.prog 12 #[.pointer none] W fun en w' => en = .returned (.string { data := #[] }) ∧ W = w' := by
  go_enter Try.func12, Try.ntmps12
  go_wp2
  go_ret
  exact ⟨rfl, rfl⟩
end
end Go.Proofs.Ytifpigcgkpmheaa.Sl12
