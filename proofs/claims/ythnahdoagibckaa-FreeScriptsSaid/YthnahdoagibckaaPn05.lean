/- Plain facts for layer 5, further: a map's bytes, and the map of bytes. No program in sight. -/
import Derived.Test.YthnahdoagibckaaPm05
import Derived.Laws.BytesArg
namespace Go.Proofs.Ythnahdoagibckaa.Pn05
open Go.RowKit Go.Proofs.Ythnahdoagibckaa.Pl05 Go.Proofs.Ythnahdoagibckaa.Pm05
set_option linter.unusedVariables false

/-- Bits put together, the first is the highest. -/
def bp (f : Nat → Bool) : Nat → Nat
  | 0 => 0
  | k + 1 => 2 * bp f k + (f k).toNat
theorem bp_congr {f g : Nat → Bool} (n : Nat) (h : ∀ m, m < n → f m = g m) : bp f n = bp g n := by
  induction n with
  | zero => rfl
  | succ n ih => simp only [bp]; rw [ih (fun m hm => h m (by omega)), h n (by omega)]
theorem bp_lt (f : Nat → Bool) (n : Nat) : bp f n < 2 ^ n := by
  induction n with
  | zero => simp [bp]
  | succ n ih => simp only [bp, Nat.pow_succ]; have : (f n).toNat ≤ 1 := Bool.toNat_le _; omega
def byteAt (bs : List Bool) (i : Nat) : Nat := bp (fun k => bs.getD (8 * i + k) false) 8
theorem byteAt_lt (bs : List Bool) (i : Nat) : byteAt bs i < 256 := bp_lt _ 8
def encB (bs : List Bool) : List Nat := (List.range ((bs.length + 7) / 8)).map (byteAt bs)
def encS (bs : List Bool) : ByteArray := strOfNums ((encB bs).map (fun (x : Nat) => (x : Int)))
theorem encB_len (bs : List Bool) : (encB bs).length = (bs.length + 7) / 8 := by simp [encB]

set_option maxRecDepth 100000 in
theorem bp_byte : ∀ y, y < 256 → bp (fun k => y.testBit (7 - k)) 8 = y := by decide +kernel
set_option maxRecDepth 100000 in
theorem bp_part : ∀ r, r < 8 → ∀ y, y < 256 → (bp (fun k => decide (k < r) && y.testBit (7 - k)) 8 = y ↔ (y * 2 ^ r) % 256 = 0) := by decide +kernel

theorem testBit_byte (x d i : Nat) (hi : i < 8) : (x / 2 ^ d % 256).testBit i = x.testBit (d + i) := by
  rw [show (256 : Nat) = 2 ^ 8 from rfl, Nat.testBit_mod_two_pow, Nat.testBit_div_two_pow]
  simp [hi, Nat.add_comm]
theorem word_byte {ws : List Nat} {bs : List Bool} (h : Rel ws bs) (i : Nat) : ws.getD (i / 8) 0 / 2 ^ (8 * (7 - i % 8)) % 256 = byteAt bs i := by
  have hlt : ws.getD (i / 8) 0 / 2 ^ (8 * (7 - i % 8)) % 256 < 256 := Nat.mod_lt _ (by decide)
  rw [← bp_byte _ hlt]
  unfold byteAt
  apply bp_congr
  intro k hk
  rw [testBit_byte _ _ _ (by omega), ← h.bit]
  unfold bitAt
  rw [show (8 * i + k) / 64 = i / 8 by omega]
  congr 1
  omega

/-! ### the map of bytes -/
def byteS (s : ByteArray) (i : Nat) : Nat := (s.data.toList.getD i 0).toNat
theorem byteS_lt (s : ByteArray) (i : Nat) : byteS s i < 256 := UInt8.toNat_lt _
def bitOf (s : ByteArray) (n : Nat) : Bool := (byteS s (n / 8)).testBit (7 - n % 8)
def bitsOf (p : Nat) (s : ByteArray) : List Bool := (List.range p).map (bitOf s)
theorem bitsOf_len (p : Nat) (s : ByteArray) : (bitsOf p s).length = p := by simp [bitsOf]
theorem bitsOf_get (p : Nat) (s : ByteArray) (n : Nat) : (bitsOf p s).getD n false = (decide (n < p) && bitOf s n) := by
  by_cases h : n < p
  · simp [bitsOf, List.getD_eq_getElem?_getD, h]
  · simp [bitsOf, List.getD_eq_getElem?_getD, h]
theorem encS_size (bs : List Bool) : (encS bs).size = (bs.length + 7) / 8 := by
  unfold encS
  rw [strOfNums_size, List.length_map, encB_len]
theorem encS_toList (bs : List Bool) : (encS bs).data.toList = (encB bs).map (fun x => UInt8.ofNat x) := by
  unfold encS
  rw [strOfNums_data, List.map_map]
  rfl
theorem encS_eq (bs : List Bool) (s : ByteArray) : encS bs = s ↔ s.size = (bs.length + 7) / 8 ∧ ∀ i, i < s.size → byteAt bs i = byteS s i := by
  constructor
  · intro h
    subst h
    refine ⟨encS_size bs, fun i hi => ?_⟩
    rw [encS_size] at hi
    unfold byteS
    rw [encS_toList]
    have : i < (encB bs).length := by rw [encB_len]; exact hi
    rw [List.getD_eq_getElem?_getD, List.getElem?_map, List.getElem?_eq_getElem this]
    simp only [Option.map_some, Option.getD_some]
    have e : (encB bs)[i] = byteAt bs i := by simp [encB]
    rw [e]
    have := byteAt_lt bs i
    simp only [UInt8.toNat_ofNat']
    omega
  · rintro ⟨h1, h2⟩
    have hl : (encS bs).data.toList = s.data.toList := by
      have hs : s.data.toList.length = s.size := by rw [Array.length_toList]; rfl
      rw [encS_toList]
      apply List.ext_getElem
      · rw [List.length_map, encB_len, hs, h1]
      · intro i h3 h4
        have h5 : i < s.size := by rw [hs] at h4; exact h4
        have := h2 i h5
        unfold byteS at this
        rw [List.getD_eq_getElem?_getD, List.getElem?_eq_getElem h4] at this
        simp only [Option.getD_some] at this
        rw [List.getElem_map]
        have e : (encB bs)[i]'(by simpa using h3) = byteAt bs i := by simp [encB]
        rw [e, this]
        simp
    have : (encS bs).data = s.data := by rw [← Array.toArray_toList (xs := (encS bs).data), hl, Array.toArray_toList]
    cases hs : s
    cases he : encS bs
    rw [hs, he] at this
    simp at this
    rw [this]
/-- The bytes that are a map's: so many, and nothing behind the last page. -/
def okS (p : Nat) (s : ByteArray) : Prop := s.size = (p + 7) / 8 ∧ (0 < p % 8 → (byteS s (s.size - 1) * 2 ^ (p % 8)) % 256 = 0)
theorem okS_iff (p : Nat) (hp : 1 ≤ p) (s : ByteArray) : encS (bitsOf p s) = s ↔ okS p s := by
  rw [encS_eq, bitsOf_len]
  unfold okS
  constructor
  · rintro ⟨h1, h2⟩
    refine ⟨h1, fun h3 => ?_⟩
    have h4 := h2 (s.size - 1) (by omega)
    have e : byteAt (bitsOf p s) (s.size - 1) = bp (fun k => decide (k < p % 8) && (byteS s (s.size - 1)).testBit (7 - k)) 8 := by
      unfold byteAt
      apply bp_congr
      intro k hk
      rw [bitsOf_get]
      unfold bitOf
      rw [show (8 * (s.size - 1) + k) / 8 = s.size - 1 by omega, show (8 * (s.size - 1) + k) % 8 = k by omega]
      congr 1
      apply decide_eq_decide.2
      omega
    rw [e] at h4
    exact (bp_part (p % 8) (by omega) _ (byteS_lt _ _)).1 h4
  · rintro ⟨h1, h2⟩
    refine ⟨h1, fun i hi => ?_⟩
    by_cases h3 : 8 * i + 8 ≤ p
    · have e : byteAt (bitsOf p s) i = bp (fun k => (byteS s i).testBit (7 - k)) 8 := by
        unfold byteAt
        apply bp_congr
        intro k hk
        rw [bitsOf_get]
        unfold bitOf
        rw [show (8 * i + k) / 8 = i by omega, show (8 * i + k) % 8 = k by omega]
        have : 8 * i + k < p := by omega
        simp [this]
      rw [e, bp_byte _ (byteS_lt _ _)]
    · have hi2 : i = s.size - 1 := by omega
      have h4 := h2 (by omega)
      have e : byteAt (bitsOf p s) i = bp (fun k => decide (k < p % 8) && (byteS s i).testBit (7 - k)) 8 := by
        unfold byteAt
        apply bp_congr
        intro k hk
        rw [bitsOf_get]
        unfold bitOf
        rw [show (8 * i + k) / 8 = i by omega, show (8 * i + k) % 8 = k by omega]
        congr 1
        apply decide_eq_decide.2
        omega
      rw [e]
      rw [← hi2] at h4
      exact (bp_part (p % 8) (by omega) _ (byteS_lt _ _)).2 h4
end Go.Proofs.Ythnahdoagibckaa.Pn05
