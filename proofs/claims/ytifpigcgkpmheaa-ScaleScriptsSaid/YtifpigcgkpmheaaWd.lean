/- The document's numbers as bytes, and back. -/
import Derived.Test.YtifpigcgkpmheaaFa
namespace Go.Proofs.Ytifpigcgkpmheaa.Wd
open Go.RowKit Go.Proofs.Ytifpigcgkpmheaa.Base Go.Proofs.Ytifpigcgkpmheaa.App Go.Proofs.Ytifpigcgkpmheaa.Str Go.Proofs.Ytifpigcgkpmheaa.Ky Go.Proofs.Ytifpigcgkpmheaa.Bx Go.Proofs.Ytifpigcgkpmheaa.Bo Go.Proofs.Ytifpigcgkpmheaa.Pk08 Go.Proofs.Ytifpigcgkpmheaa.Fa
set_option linter.unusedVariables false
set_option linter.unusedSimpArgs false
section
variable {w : World}
theorem bys_getD_lt (s : ByteArray) (i : Nat) : (bys s).getD i 0 < 256 := by
  rw [List.getD_eq_getElem?_getD]
  by_cases h : i < (bys s).length
  · rw [List.getElem?_eq_getElem h]; exact bys_lt s _ (List.getElem_mem h)
  · rw [List.getElem?_eq_none (by omega)]; decide
def wideL (v : Nat) : Nat → List Nat
  | 0 => []
  | k + 1 => (v / 256 ^ k % 256) :: wideL v k
theorem wideL_len (v k : Nat) : (wideL v k).length = k := by
  induction k with
  | zero => rfl
  | succ k ih => simp [wideL, ih]
theorem wide_any (v wd : Nat) (hw : wd ≤ 4) (hv : v < 4294967296) (z z2 : Int) (hz : z = (v : Nat)) (hz2 : z2 = (wd : Nat)) : Calls Try.prog 57 #[.int .i64 z, .int .i64 z2] w fun e w' => e = .returned (.string (txt (wideL v wd))) ∧ Fr No w w' := by
  subst hz hz2
  go_enter Try.func57, Try.ntmps57
  go_wp2
  go_loopw [0, 5, 6] (fun a b i wr => ∃ k q : Nat, ∃ t : ByteArray, k ≤ wd ∧ i = .int .i64 k ∧ a = .int .i64 q ∧ q < 4294967296 ∧ b = .string t ∧ t.size = k ∧ Hid (q = v / 256 ^ k ∧ t = txt (wideL v k) ∧ Fr No w wr)) (fun _ _ i _ => wd - (intOf i).toNat)
  case atStart => exact ⟨0, v, { data := #[] }, Nat.zero_le _, rfl, rfl, hv, rfl, rfl, Lib.hid ⟨by simp, rfl, Fr.refl _ _⟩⟩
  case round =>
    obtain ⟨k, q, t, hk, rfl, rfl, hq, rfl, ht, Hi⟩ := hrel
    by_cases hlt : k < wd
    · have hcv := run_convert_bytes_arg (P := Try.prog) (w := wr.alloc (.cells #[.int .u8 ((q % 256 : Nat) : Int)] 5)) 97 5 Try.underlying97 Try.underlying5 wr.heap.size 0 1 1 [((q % 256 : Nat) : Int)] rfl (fun i hi => by
        obtain rfl : i = 0 := by omega
        exact (Ob.new wr _ _).cell 0 rfl) 9 Try.underlying9
      have htx : strOfNums [((q % 256 : Nat) : Int)] = txt [q % 256] := rfl
      rw [htx] at hcv
      have h1 : (txt [q % 256]).size = 1 := txt_size _
      have Ht1 := Lib.hid (show txt [q % 256] = txt [q % 256] from rfl)
      rw [show ((q % 256 : Nat) : Int) = (q : Int) % 256 by omega] at hcv
      generalize hg1 : txt [q % 256] = t1 at hcv h1
      clear htx Ht1
      have Hg1 := Lib.hid hg1
      clear hg1
      go_wp2
      refine ⟨⟨k + 1, q / 256, t1 ++ t, hlt, by go_num, by go_num, by omega, rfl, by rw [ByteArray.size_append, h1, ht]; omega, Lib.hid ⟨?_, ?_, ?_⟩⟩, by simp [intOf]; omega⟩
      · rw [Hi.out.1, Nat.pow_succ, Nat.div_div_eq_div_mul]
      · rw [← Hg1.out, Hi.out.2.1, txt_app, Hi.out.1]; rfl
      · exact Hi.out.2.2.alloc _
    · obtain rfl : k = wd := by omega
      go_wp2
      go_ret
      exact ⟨by rw [Hi.out.2.1]; rfl, Hi.out.2.2⟩
theorem wide1 (v : Nat) (hv : v < 256) (z : Int) (hz : z = (v : Nat)) : Calls Try.prog 57 #[.int .i64 z, .int .i64 1] w fun e w' => e = .returned (.string (txt (be1 v))) ∧ Fr No w w' := by
  have h := wide_any (w := w) v 1 (by decide) (by omega) z 1 hz rfl
  have e : wideL v 1 = be1 v := by simp [wideL, be1]; omega
  rw [e] at h
  exact h
theorem wide4 (v : Nat) (hv : v < 4294967296) (z : Int) (hz : z = (v : Nat)) : Calls Try.prog 57 #[.int .i64 z, .int .i64 4] w fun e w' => e = .returned (.string (txt (be4 v))) ∧ Fr No w w' := by
  have h := wide_any (w := w) v 4 (by decide) (by omega) z 4 hz rfl
  have e : wideL v 4 = be4 v := by simp [wideL, be4]; omega
  rw [e] at h
  exact h
theorem bys_at (s : ByteArray) (k : Nat) (h : k < s.size) : (bys s).getD k 0 = s[k].toNat := by
  have h2 : k < s.data.toList.length := by rw [Array.length_toList]; exact h
  simp only [bys, List.getD_eq_getElem?_getD, List.getElem?_map, List.getElem?_eq_getElem h2]
  rfl
theorem narrow_any (s : ByteArray) (hs : s.size ≤ 4) : Calls Try.prog 43 #[.string s] w fun e w' => e = .returned (.int .i64 ((numk (bys s) 0 s.size : Nat) : Int)) ∧ w = w' := by
  go_enter Try.func43, Try.ntmps43
  go_wp2
  go_loopw [3, 4] (fun a i wr => ∃ k q : Nat, k ≤ s.size ∧ i = .int .i64 k ∧ a = .int .i64 q ∧ q < 256 ^ k ∧ Hid (q = numk (bys s) 0 k) ∧ w = wr) (fun _ i _ => s.size - (intOf i).toNat)
  case atStart => exact ⟨0, 0, Nat.zero_le _, rfl, rfl, by decide, Lib.hid rfl, rfl⟩
  case round =>
    obtain ⟨k, q, hk, rfl, rfl, hq, Hi, rfl⟩ := hrel
    by_cases hlt : k < s.size
    · have hp3 : 256 ^ k ≤ 256 ^ 3 := Nat.pow_le_pow_right (by decide) (by omega)
      have hb := bys_getD_lt s k
      have hbk := bys_at s k hlt
      rw [hbk] at hb
      have hq3 : q < 16777216 := by
        have : (256 : Nat) ^ 3 = 16777216 := by decide
        omega
      go_wp2
      refine ⟨⟨k + 1, q * 256 + s[k].toNat, hlt, by go_num, by go_num, by rw [Nat.pow_succ]; omega, Lib.hid ?_, trivial⟩, by simp [intOf]; omega⟩
      rw [numk, ← Hi.out, Nat.zero_add, hbk]
    · obtain rfl : k = s.size := by omega
      go_wp2
      go_ret
      exact ⟨by rw [Hi.out]; rfl, rfl⟩
end
end Go.Proofs.Ytifpigcgkpmheaa.Wd
