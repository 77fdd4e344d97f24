/- Plain Lean: a page given back is the next one; a map's bytes give the map. Operations of a script. -/
import Derived.Test.YthnahdoagibckaaRe05
import Derived.Test.YthnahdoagibckaaRd05
import Derived.Test.YthnahdoagibckaaLn05
import Derived.Test.YthnahdoagibckaaLd05
namespace Go.Proofs.Ythnahdoagibckaa.Pb05
open Go.RowKit Go.Proofs.Ythnahdoagibckaa.Pl05 Go.Proofs.Ythnahdoagibckaa.Pm05 Go.Proofs.Ythnahdoagibckaa.Pn05 Go.Proofs.Ythnahdoagibckaa.Base Go.Proofs.Ythnahdoagibckaa.Ty Go.Proofs.Ythnahdoagibckaa.Fr05 Go.Proofs.Ythnahdoagibckaa.Fs05 Go.Proofs.Ythnahdoagibckaa.Fn05
set_option linter.unusedVariables false
set_option linter.unusedSimpArgs false
theorem odd_bit (x : Nat) (b : Bool) : (2 * x + b.toNat).testBit 0 = b := by
  rw [Nat.testBit_zero]
  cases b <;> simp <;> omega
theorem bp_bit (f : Nat → Bool) : ∀ (n k : Nat), k < n → (bp f n).testBit (n - 1 - k) = f k
  | 0, k, h => by omega
  | n + 1, k, h => by
    by_cases e : k = n
    · subst e
      have h0 : k + 1 - 1 - k = 0 := by omega
      rw [h0]
      exact odd_bit _ _
    · have ih := bp_bit f n k (by omega)
      have h0 : n + 1 - 1 - k = (n - 1 - k) + 1 := by omega
      rw [h0, Nat.testBit_succ]
      simp only [bp]
      have : (2 * bp f n + (f n).toNat) / 2 = bp f n := by have := Bool.toNat_le (f n); omega
      rw [this]
      exact ih
theorem bits_enc (bs : List Bool) : bitsOf bs.length (encS bs) = bs := by
  obtain ⟨h1, h2⟩ := (encS_eq bs (encS bs)).1 rfl
  apply List.ext_getElem
  · simp [bitsOf]
  · intro n h3 h4
    simp only [bitsOf, List.getElem_map, List.getElem_range]
    unfold bitOf
    rw [← h2 (n / 8) (by omega)]
    unfold byteAt
    have := bp_bit (fun k => bs.getD (8 * (n / 8) + k) false) 8 (n % 8) (by omega)
    rw [show 7 - n % 8 = 8 - 1 - n % 8 by omega, this, show 8 * (n / 8) + n % 8 = n by omega]
    simp [List.getD_eq_getElem?_getD, h4]
theorem flip_len (bs : List Bool) (n : Nat) : (flipB bs n).length = bs.length := by simp [flipB]
theorem markB_len (bs : List Bool) (n : Int) : (markB bs n).length = bs.length := by unfold markB; split <;> simp [flip_len]
theorem giveB_len (bs : List Bool) (n : Int) : (giveB bs n).length = bs.length := by unfold giveB; split <;> simp [flip_len]
theorem takeB_len (bs : List Bool) : (takeB bs).length = bs.length := by unfold takeB; split <;> simp [flip_len]
theorem flip_get (bs : List Bool) (n m : Nat) (hm : m < bs.length) : (flipB bs n).getD m false = if n = m then !bs.getD n false else bs.getD m false := by
  unfold flipB
  rw [List.getD_eq_getElem?_getD, List.getElem?_set]
  by_cases e : n = m
  · subst e; simp [hm]
  · simp [e, List.getD_eq_getElem?_getD]
theorem flip_flip (bs : List Bool) (n : Nat) : flipB (flipB bs n) n = bs := by
  apply List.ext_getElem
  · simp [flipB]
  · intro m h1 h2
    simp only [flipB, List.getElem_set]
    by_cases e : n = m
    · subst e
      simp [List.getD_eq_getElem?_getD, h2]
    · simp [e]
theorem back (bs : List Bool) (n : Nat) (hn : n < bs.length) (h : bs.getD n false = true) :
    ∃ a : Nat, free (flipB bs n) = some a ∧ a ≤ n ∧ (a < n → free bs = some a) ∧ Fr05.isB (flipB (flipB bs n) a) a = true := by
  have g : ∀ m, m < bs.length → (flipB bs n).getD m false = if n = m then !bs.getD n false else bs.getD m false := flip_get bs n
  cases hf : free (flipB bs n) with
  | none =>
    have := free_no hf n (by rw [flip_len]; exact hn)
    rw [g n hn, if_pos rfl, h] at this
    cases this
  | some a =>
    obtain ⟨h1, h2, h3⟩ := free_some hf
    rw [flip_len] at h1
    have hle : a ≤ n := by
      rcases Nat.lt_or_ge n a with hlt | hge
      · have := h3 n hlt
        rw [g n hn, if_pos rfl, h] at this
        cases this
      · exact hge
    refine ⟨a, rfl, hle, fun hlt => ?_, ?_⟩
    · refine free_of bs a h1 ?_ fun m hm => ?_
      · rw [g a h1, if_neg (by omega)] at h2; exact h2
      · have := h3 m hm
        rw [g m (by omega), if_neg (by omega)] at this
        exact this
    · unfold Fr05.isB
      rw [Int.toNat_natCast, flip_get _ a a (by rw [flip_len]; exact h1), if_pos rfl, h2]
      simp
theorem is_true {bs : List Bool} {n : Int} (h : Fr05.isB bs n = true) : ∃ m : Nat, n = m ∧ m < bs.length ∧ bs.getD m false = true := by
  obtain ⟨h0, h1⟩ := isB_in bs n h
  obtain ⟨m, rfl⟩ := Int.eq_ofNat_of_zero_le h0
  refine ⟨m, rfl, by omega, ?_⟩
  unfold Fr05.isB at h
  simpa using h
abbrev op : Ty := .cn (.int .i64) (.cn (.int .i64) .nl)
/-- An operation of a script: where it lies. -/
theorem op_at {e : TypeId} {w : World} {xs : List op.D} {A : Option Addr} {n c : Nat} (h : Rd (.sl e op) w xs [.slice A n c]) (i : Nat) (hi : i < n) :
    ∃ b off, ∃ d k : Int, A = some ⟨b, off, none⟩ ∧ w.cell? ⟨b, off + i * 2, none⟩ = some (.int .i64 d) ∧ w.cell? ⟨b, off + i * 2 + 1, none⟩ = some (.int .i64 k) := by
  have hl := h.slice.1
  obtain ⟨b, off, rfl, h1⟩ := h.addr (by omega) (by decide)
  obtain ⟨ecs, h2, h3, h4⟩ := h1 i (by omega)
  obtain ⟨d, k, rfl, _, _⟩ := Ln05.rd_op h3
  exact ⟨b, off, d, k, rfl, h4 0 _ rfl, h4 1 _ rfl⟩
theorem dec_enc (p : Nat) (bs : List Bool) (w : World) (hl : bs.length = p) (h1 : 1 ≤ p) (h2 : p ≤ 1000) :
    Calls Try.prog 9 #[.int .i64 p, .string (encS bs)] w fun e w' => ∃ g b, e = .returned (.tuple #[.pointer (some ⟨g, 0, none⟩), .int .i64 0]) ∧ Map w' g b bs ∧ w.heap.size ≤ g ∧ w.heap.size ≤ b ∧ Fr No w w' := by
  have hb : bitsOf ((p : Int)).toNat (encS bs) = bs := by rw [Int.toNat_natCast, ← hl]; exact bits_enc bs
  refine (Ld05.dec_yes p (encS bs) w (by rw [encS_size]; omega) ⟨by omega, by omega, by rw [hb]⟩).mono fun e w' x => ?_
  rw [hb] at x
  exact x
end Go.Proofs.Ythnahdoagibckaa.Pb05
