/- Layer 5: the document's map read from bytes. -/
import Derived.Test.YthnahdoagibckaaRe05
import Derived.Test.YthnahdoagibckaaFd05
namespace Go.Proofs.Ythnahdoagibckaa.Rd05
open Go.RowKit Go.Proofs.Ythnahdoagibckaa.Pl05 Go.Proofs.Ythnahdoagibckaa.Pm05 Go.Proofs.Ythnahdoagibckaa.Pn05 Go.Proofs.Ythnahdoagibckaa.Pd05 Go.Proofs.Ythnahdoagibckaa.Base Go.Proofs.Ythnahdoagibckaa.App Go.Proofs.Ythnahdoagibckaa.Str Go.Proofs.Ythnahdoagibckaa.Fr05 Go.Proofs.Ythnahdoagibckaa.Fs05 Go.Proofs.Ythnahdoagibckaa.Fn05 Go.Proofs.Ythnahdoagibckaa.Fe05 Go.Proofs.Ythnahdoagibckaa.Rr05 Go.Proofs.Ythnahdoagibckaa.Rn05 Go.Proofs.Ythnahdoagibckaa.Re05
set_option linter.unusedVariables false
set_option linter.unusedSimpArgs false

def part (p : Nat) (s : ByteArray) (k : Nat) : List Bool := (List.range p).map (fun n => decide (n < k) && bitOf s n)
theorem part_len (p : Nat) (s : ByteArray) (k : Nat) : (part p s k).length = p := by simp [part]
theorem part_zero (p : Nat) (s : ByteArray) : newB p 0 = part p s 0 := by simp [newB, part]
theorem part_succ (p : Nat) (s : ByteArray) (k : Nat) (h : k < p) : (part p s k).set k (bitOf s k) = part p s (k + 1) := by
  apply List.ext_getElem
  · simp [part]
  · intro i h1 h2
    rw [List.getElem_set]
    simp [part] at h1 ⊢
    by_cases e : k = i
    · subst e; simp
    · have : i < k + 1 ↔ i < k := by omega
      simp [e, this]
theorem byteS_out (s : ByteArray) (i : Nat) (h : s.size ≤ i) : byteS s i = 0 := by
  unfold byteS
  have : s.data.toList.length ≤ i := by rw [Array.length_toList]; exact h
  simp [List.getD_eq_getElem?_getD, List.getElem?_eq_none this]
theorem part_all (p : Nat) (s : ByteArray) (k : Nat) (hk : k ≤ p) (h : ¬ (k < p ∧ k / 8 < s.size)) : part p s k = bitsOf p s := by
  apply List.ext_getElem
  · simp [part, bitsOf]
  · intro i h1 h2
    simp only [part, List.length_map, List.length_range] at h1
    simp only [part, bitsOf, List.getElem_map, List.getElem_range]
    by_cases hki : i < k
    · simp [hki]
    · have : bitOf s i = false := by
        unfold bitOf
        rw [byteS_out s (i / 8) (by omega)]
        simp
      simp [this]
theorem bit_val (c d : Nat) : (((c : Int) / 2 ^ d % 2) == 1) = c.testBit d := by
  have e : ((c : Int) / 2 ^ d % 2) = ((c / 2 ^ d % 2 : Nat) : Int) := by simp
  rw [e, Nat.testBit_eq_decide_div_mod_eq]
  rcases Nat.mod_two_eq_zero_or_one (c / 2 ^ d) with h | h <;> simp [h]
theorem idx_str (s : ByteArray) (i : Nat) (h : i < s.size) (W : World) : (Instr.index 9 (.string s) (.int .i64 (i : Int))).run Try.prog W = .ok (.int .u8 (byteS s i : Int)) W := by
  rw [run_index_string _ _ _ _ _ Try.underlying9]
  simp [h, Go.Proofs.Ythnahdoagibckaa.Fd05.str_at s i h]
/-- What the document's Decode comes to. -/
def RDecPost (w : World) (p : Int) (s : ByteArray) (e : Ending) (w' : World) : Prop :=
  (1 ≤ p ∧ p ≤ 1000 ∧ encS (bitsOf p.toNat s) = s ∧ ∃ g b, e = .returned (.tuple #[.pointer (some ⟨g, 0, none⟩), .int .i64 0]) ∧ RMap w' g b (bitsOf p.toNat s) ∧ w.heap.size ≤ g ∧ w.heap.size ≤ b ∧ Fr No w w') ∨
  (¬ (1 ≤ p ∧ p ≤ 1000) ∧ e = .returned (.tuple #[.pointer none, .int .i64 1]) ∧ Fr No w w') ∨
  (1 ≤ p ∧ p ≤ 1000 ∧ encS (bitsOf p.toNat s) ≠ s ∧ e = .returned (.tuple #[.pointer none, .int .i64 6]) ∧ Fr No w w')
theorem rdec_bad (p : Int) (s : ByteArray) (w : World) (h : ¬ (1 ≤ p ∧ p ≤ 1000)) :
    Calls Try.prog 10 #[.int .i64 p, .string s] w (RDecPost w p s) := by
  have hn : ¬ newOk p 0 := fun x => h ⟨x.1, x.2.1⟩
  go_enter Try.func10, Try.ntmps10
  go_wp2_with (go_at_call 19; ((with_reducible refine (rnew_bad _ _ _ hn).mono ?_); rintro e w' ⟨rfl, rfl⟩))
  go_ret2
  exact .inr (.inl ⟨h, rfl, Fr.refl _ _⟩)
theorem rnew_ok0 (p : Nat) (w : World) (h1 : 1 ≤ p) (h2 : p ≤ 1000) :
    Calls Try.prog 19 #[.int .i64 p, .int .i64 0] w fun e w' => ∃ g b, e = .returned (.tuple #[.pointer (some ⟨g, 0, none⟩), .int .i64 0]) ∧ RMap w' g b (newB p 0) ∧ w.heap.size ≤ g ∧ w.heap.size ≤ b ∧ Fr No w w' :=
  rnew_ok p 0 w ⟨by omega, by omega, by omega, by omega⟩
def RRound (w wr : World) (g b p : Nat) (s : ByteArray) (k : Nat) : Prop := (∃ cap, At wr g b cap (part p s k)) ∧ Fr No w wr
set_option maxHeartbeats 800000 in
theorem rdec_in (p : Nat) (s : ByteArray) (w : World) (h1 : 1 ≤ p) (h2 : p ≤ 1000) (hs : s.size ≤ 140737488351232) :
    Calls Try.prog 10 #[.int .i64 p, .string s] w (RDecPost w p s) := by
  go_enter Try.func10, Try.ntmps10
  go_wp2_with (go_at_call 19; ((with_reducible refine (rnew_ok0 _ _ h1 h2).mono ?_); rintro e w1 ⟨g, b, rfl, hm, hg, hb, hf⟩))
  have Hm : Hid (RRound w w1 g b p s 0) := by
    rw [part_zero p s] at hm
    exact Lib.hid ⟨hm, hf⟩
  clear hf hm
  go_loopw [8] (fun i wr => ∃ k : Nat, k ≤ p ∧ i = .int .i64 k ∧ Hid (RRound w wr g b p s k)) (fun i _ => p - (intOf i).toNat)
  case atStart => exact ⟨0, Nat.zero_le _, rfl, Hm⟩
  case round =>
    obtain ⟨k, hk, rfl, Hr⟩ := hrel
    obtain ⟨⟨cap, hA⟩, hF⟩ := Hr.out
    have c0 : wr.cell? ⟨g, 0, none⟩ = some (.slice (some ⟨b, 0, none⟩) p cap) := by have := hA.c0; rwa [part_len] at this
    by_cases hin : k < p ∧ k / 8 < s.size
    · obtain ⟨hlt, hl8⟩ := hin
      have cb := hA.cb k (by rw [part_len]; exact hlt)
      have fb := hA.fb k
      have hp := hA.put k (bitOf s k)
      rw [part_succ p s k hlt] at hp
      have hidx : ∀ W : World, (Instr.index 9 (.string s) (.int .i64 ((k : Int) / 8))).run Try.prog W = .ok (.int .u8 (byteS s (k / 8) : Int)) W := by
        intro W
        have e : ((k : Int) / 8) = ((k / 8 : Nat) : Int) := by omega
        rw [e]
        exact idx_str s (k / 8) hl8 W
      have hc := byteS_lt s (k / 8)
      have Hv : Hid (bitOf s k = (byteS s (k / 8)).testBit (7 - k % 8)) := Lib.hid rfl
      have Hnx : Hid (RRound w (wr.setCell ⟨b, k, none⟩ (.bool (bitOf s k))).drew g b p s (k + 1)) := Lib.hid ⟨⟨cap, hp.fr ((Fr.refl No _).drew) (fun x => x) (fun x => x)⟩, (hF.setCell (p := ⟨b, k, none⟩) (.inr hb) _).drew⟩
      generalize byteS s (k / 8) = c at *
      generalize (part p s k).getD k false = x0 at *
      have hd1 : (k : Int) / 8 < (s.size : Int) := by omega
      clear hp hA hF Hr
      go_wp2
      go_region
      go_wp2
      have e1 : (((c : Int) / 2 ^ (7 - k % 8)).tmod 2 == 1) = bitOf s k := by rw [Int.tmod_eq_emod_of_nonneg (Int.ediv_nonneg (by omega) (by exact Int.le_of_lt (Int.pow_pos (by decide)))), bit_val, Hv.out]
      go_roundw
      case rel =>
        rw [e1]
        exact ⟨k + 1, by omega, by go_num, Hnx⟩
      case measure => simp [intOf]; omega
    · have e := part_all p s k hk hin
      have hR : RMap wr g b (bitsOf p s) := ⟨cap, by rw [← e]; exact hA⟩
      have HR := Lib.hid hR
      have HF := Lib.hid hF
      have hd2 : k < p → ¬ ((k : Int) / 8 < (s.size : Int)) := fun x y => hin ⟨x, by omega⟩
      clear hR hA hF Hr e hin
      by_cases hq : encS (bitsOf p s) = s
      · have q1 := str_yes hq
        have Hq := Lib.hid hq
        clear hq
        by_cases hkp : k < p
        · have hd3 : decide ((k : Int) / 8 < (s.size : Int)) = false := decide_eq_false (hd2 hkp)
          clear hd2
          go_wp2_with (go_at_call 20; ((with_reducible refine (rencode_at _ _ _ _ HR.out).mono ?_); rintro e w2 ⟨rfl, hf2⟩))
          go_ret2
          exact .inl ⟨by omega, by omega, Hq.out, g, b, rfl, HR.out.fr hf2 (fun x => x) (fun x => x), hg, hb, HF.out.tr hf2⟩
        · clear hd2
          go_wp2_with (go_at_call 20; ((with_reducible refine (rencode_at _ _ _ _ HR.out).mono ?_); rintro e w2 ⟨rfl, hf2⟩))
          go_ret2
          exact .inl ⟨by omega, by omega, Hq.out, g, b, rfl, HR.out.fr hf2 (fun x => x) (fun x => x), hg, hb, HF.out.tr hf2⟩
      · have q1 := str_no hq
        have Hq := Lib.hid hq
        clear hq
        by_cases hkp : k < p
        · have hd3 : decide ((k : Int) / 8 < (s.size : Int)) = false := decide_eq_false (hd2 hkp)
          clear hd2
          go_wp2_with (go_at_call 20; ((with_reducible refine (rencode_at _ _ _ _ HR.out).mono ?_); rintro e w2 ⟨rfl, hf2⟩))
          go_ret2
          exact .inr (.inr ⟨by omega, by omega, Hq.out, rfl, HF.out.tr hf2⟩)
        · clear hd2
          go_wp2_with (go_at_call 20; ((with_reducible refine (rencode_at _ _ _ _ HR.out).mono ?_); rintro e w2 ⟨rfl, hf2⟩))
          go_ret2
          exact .inr (.inr ⟨by omega, by omega, Hq.out, rfl, HF.out.tr hf2⟩)
theorem rdecode_any (p : Int) (s : ByteArray) (w : World) (hs : s.size ≤ 140737488351232) :
    Calls Try.prog 10 #[.int .i64 p, .string s] w (RDecPost w p s) := by
  by_cases h : 1 ≤ p ∧ p ≤ 1000
  · obtain ⟨m, rfl⟩ := Int.eq_ofNat_of_zero_le (show 0 ≤ p by omega)
    exact rdec_in m s w (by omega) (by omega) hs
  · exact rdec_bad p s w h
end Go.Proofs.Ythnahdoagibckaa.Rd05
