/- Plain facts for layer 5, last: words filled byte by byte. No program in sight. -/
import Derived.Test.YthnahdoagibckaaPn05
namespace Go.Proofs.Ythnahdoagibckaa.Pd05
open Go.RowKit Go.Proofs.Ythnahdoagibckaa.Pl05 Go.Proofs.Ythnahdoagibckaa.Pm05 Go.Proofs.Ythnahdoagibckaa.Pn05
set_option linter.unusedVariables false

/-- The first k bytes of s lie in ws. -/
structure Part (ws : List Nat) (s : ByteArray) (k L : Nat) : Prop where
  len : ws.length = L
  bit : ∀ m, bitAt ws m = (decide (m / 8 < k) && bitOf s m)
  lt : ∀ x ∈ ws, x < 2 ^ 64
def putW (ws : List Nat) (k c : Nat) : List Nat := ws.set (k / 8) (ws.getD (k / 8) 0 ||| c * 2 ^ (8 * (7 - k % 8)))
theorem shift_lt (c k : Nat) (hc : c < 256) : c * 2 ^ (8 * (7 - k % 8)) < 2 ^ 64 := by
  have h1 : 2 ^ (8 * (7 - k % 8)) ≤ 2 ^ 56 := Nat.pow_le_pow_right (by decide) (by omega)
  calc c * 2 ^ (8 * (7 - k % 8)) ≤ 255 * 2 ^ 56 := Nat.mul_le_mul (by omega) h1
    _ < 2 ^ 64 := by decide
theorem put_bit (ws : List Nat) (k c m : Nat) (hk : k / 8 < ws.length) (hc : c < 256) : bitAt (putW ws k c) m = (bitAt ws m || (decide (m / 8 = k) && c.testBit (7 - m % 8))) := by
  unfold bitAt putW
  by_cases h : k / 8 = m / 64
  · rw [← h]
    have : (ws.set (k / 8) (ws.getD (k / 8) 0 ||| c * 2 ^ (8 * (7 - k % 8)))).getD (k / 8) 0 = ws.getD (k / 8) 0 ||| c * 2 ^ (8 * (7 - k % 8)) := by
      rw [List.getD_eq_getElem?_getD, List.getElem?_set_self hk]; rfl
    rw [this, Nat.testBit_or]
    congr 1
    rw [Nat.testBit_mul_two_pow]
    by_cases hm : m / 8 = k
    · subst hm
      have e1 : 8 * (7 - m / 8 % 8) ≤ 63 - m % 64 := by omega
      have e2 : 63 - m % 64 - 8 * (7 - m / 8 % 8) = 7 - m % 8 := by omega
      simp [e1, e2]
    · simp only [hm, decide_false, Bool.false_and]
      by_cases h2 : 8 * (7 - k % 8) ≤ 63 - m % 64
      · have h3 : 8 ≤ 63 - m % 64 - 8 * (7 - k % 8) := by omega
        have : c.testBit (63 - m % 64 - 8 * (7 - k % 8)) = false := Nat.testBit_lt_two_pow (Nat.lt_of_lt_of_le hc (by rw [show (256 : Nat) = 2 ^ 8 from rfl]; exact Nat.pow_le_pow_right (by decide) h3))
        simp [this]
      · simp [h2]
  · have hm : m / 8 ≠ k := fun e => h (by omega)
    rw [List.getD_eq_getElem?_getD, List.getElem?_set_ne h, ← List.getD_eq_getElem?_getD]
    simp [hm]
theorem Part.next {ws : List Nat} {s : ByteArray} {k L : Nat} (h : Part ws s k L) (hk : k / 8 < L) : Part (putW ws k (byteS s k)) s (k + 1) L := by
  refine ⟨by simp [putW, h.len], fun m => ?_, fun x hx => ?_⟩
  · rw [put_bit ws k _ m (by rw [h.len]; exact hk) (byteS_lt s k), h.bit]
    by_cases h1 : m / 8 = k
    · subst h1
      simp [bitOf]
    · have : m / 8 < k + 1 ↔ m / 8 < k := by omega
      simp [h1, this]
  · unfold putW at hx
    rcases List.mem_or_eq_of_mem_set hx with hx | rfl
    · exact h.lt x hx
    · exact Nat.or_lt_two_pow (getD_lt h.lt _) (shift_lt _ _ (byteS_lt s k))
theorem bit_zero : ∀ r, r < 8 → ∀ y, y < 256 → (y * 2 ^ r) % 256 = 0 → ∀ i, i < 8 - r → y.testBit i = false := by decide +kernel
theorem Part.rel {ws : List Nat} {s : ByteArray} {p : Nat} (hp : 1 ≤ p) (h : Part ws s s.size ((p + 63) / 64)) (ho : okS p s) : Rel ws (bitsOf p s) := by
  refine ⟨by rw [h.len, bitsOf_len], fun m => ?_, h.lt⟩
  rw [h.bit, bitsOf_get]
  obtain ⟨o1, o2⟩ := ho
  by_cases h1 : m < p
  · have : m / 8 < s.size := by omega
    simp [h1, this]
  · by_cases h2 : m / 8 < s.size
    · have h3 : m / 8 = s.size - 1 := by omega
      have h4 : 0 < p % 8 := by omega
      have h5 := bit_zero (p % 8) (by omega) _ (byteS_lt s (s.size - 1)) (o2 h4) (7 - m % 8) (by omega)
      have : bitOf s m = false := by unfold bitOf; rw [h3]; exact h5
      simp [this]
    · simp [h1, h2]
theorem Part.start (p : Nat) (s : ByteArray) (ws : List Nat) (bs : List Bool) (h : Rel ws bs) (hb : bs = (List.range p).map (fun _ => false)) : Part ws s 0 ((p + 63) / 64) := by
  subst hb
  refine ⟨by rw [h.len]; simp, fun m => ?_, h.lt⟩
  rw [h.bit]
  by_cases h1 : m < p <;> simp [List.getD_eq_getElem?_getD, h1]
end Go.Proofs.Ythnahdoagibckaa.Pd05
