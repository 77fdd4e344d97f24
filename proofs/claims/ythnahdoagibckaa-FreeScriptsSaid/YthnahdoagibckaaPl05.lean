/- Plain facts for layer 5: words as rows of bits, how many are set, the highest one that is not. No program in sight. -/
import Derived.WalkKit
namespace Go.Proofs.Ythnahdoagibckaa.Pl05
open Go.RowKit
set_option linter.unusedVariables false

/-! ### bits of u64 -/
theorem wrap_u64 (n : Int) : IntKind.u64.wrap n = n % 18446744073709551616 := by simp [IntKind.wrap, IntKind.bits, IntKind.signed]
theorem wrap_u64_nat (n : Nat) (h : n < 2 ^ 64) : IntKind.u64.wrap (n : Int) = (n : Int) := by rw [wrap_u64]; omega
theorem w64_and (a b : Nat) (ha : a < 2 ^ 64) (hb : b < 2 ^ 64) : bits .and .u64 (a : Int) (b : Int) = ((a &&& b : Nat) : Int) := by
  have ha' : a % 2 ^ IntKind.u64.bits = a := Nat.mod_eq_of_lt ha
  have hb' : b % 2 ^ IntKind.u64.bits = b := Nat.mod_eq_of_lt hb
  simp only [bits, BitVec.ofInt_natCast, BitVec.toNat_and, BitVec.toNat_ofNat, ha', hb']
  exact wrap_u64_nat _ (Nat.and_lt_two_pow _ hb)
theorem w64_or (a b : Nat) (ha : a < 2 ^ 64) (hb : b < 2 ^ 64) : bits .or .u64 (a : Int) (b : Int) = ((a ||| b : Nat) : Int) := by
  have ha' : a % 2 ^ IntKind.u64.bits = a := Nat.mod_eq_of_lt ha
  have hb' : b % 2 ^ IntKind.u64.bits = b := Nat.mod_eq_of_lt hb
  simp only [bits, BitVec.ofInt_natCast, BitVec.toNat_or, BitVec.toNat_ofNat, ha', hb']
  exact wrap_u64_nat _ (Nat.or_lt_two_pow ha hb)
theorem w64_xor (a b : Nat) (ha : a < 2 ^ 64) (hb : b < 2 ^ 64) : bits .xor .u64 (a : Int) (b : Int) = ((a ^^^ b : Nat) : Int) := by
  have ha' : a % 2 ^ IntKind.u64.bits = a := Nat.mod_eq_of_lt ha
  have hb' : b % 2 ^ IntKind.u64.bits = b := Nat.mod_eq_of_lt hb
  simp only [bits, BitVec.ofInt_natCast, BitVec.toNat_xor, BitVec.toNat_ofNat, ha', hb']
  exact wrap_u64_nat _ (Nat.xor_lt_two_pow ha hb)

/-! ### a word's bits -/
/-- Bit n of a row of words: of a word the highest bit is its first page. -/
def bitAt (ws : List Nat) (n : Nat) : Bool := (ws.getD (n / 64) 0).testBit (63 - n % 64)
/-- ws holds bs. -/
structure Rel (ws : List Nat) (bs : List Bool) : Prop where
  len : ws.length = (bs.length + 63) / 64
  bit : ∀ n, bitAt ws n = bs.getD n false
  lt : ∀ x ∈ ws, x < 2 ^ 64

theorem getD_lt {ws : List Nat} (h : ∀ x ∈ ws, x < 2 ^ 64) (i : Nat) : ws.getD i 0 < 2 ^ 64 := by
  rw [List.getD_eq_getElem?_getD]
  cases hx : ws[i]? with
  | none => simp
  | some x => exact h x (List.mem_of_getElem? hx)

theorem turn_bit (ws : List Nat) (n m : Nat) (hn : n / 64 < ws.length) :
    bitAt (ws.set (n / 64) (ws.getD (n / 64) 0 ^^^ 2 ^ (63 - n % 64))) m = if m = n then !bitAt ws n else bitAt ws m := by
  unfold bitAt
  by_cases h : n / 64 = m / 64
  · rw [← h]
    have : (ws.set (n / 64) (ws.getD (n / 64) 0 ^^^ 2 ^ (63 - n % 64))).getD (n / 64) 0 = ws.getD (n / 64) 0 ^^^ 2 ^ (63 - n % 64) := by
      rw [List.getD_eq_getElem?_getD, List.getElem?_set_self hn]; rfl
    rw [this, Nat.testBit_xor, Nat.testBit_two_pow]
    by_cases hm : m = n
    · subst hm; simp
    · have : (63 - n % 64) ≠ (63 - m % 64) := by omega
      simp [hm, this]
  · have : m ≠ n := fun e => h (by rw [e])
    rw [if_neg this, List.getD_eq_getElem?_getD, List.getElem?_set_ne h, ← List.getD_eq_getElem?_getD]

theorem Rel.flip {ws : List Nat} {bs : List Bool} (h : Rel ws bs) (n : Nat) (hn : n < bs.length) :
    Rel (ws.set (n / 64) (ws.getD (n / 64) 0 ^^^ 2 ^ (63 - n % 64))) (bs.set n (!bs.getD n false)) := by
  have hl := h.len
  refine ⟨by simp [hl], fun m => ?_, fun x hx => ?_⟩
  · rw [turn_bit ws n m (by omega), h.bit, h.bit]
    by_cases e : m = n
    · subst e; simp [List.getD_eq_getElem?_getD, hn]
    · rw [if_neg e, List.getD_eq_getElem?_getD, List.getD_eq_getElem?_getD, List.getElem?_set_ne (fun x => e x.symm)]
  · rcases List.mem_or_eq_of_mem_set hx with hx | rfl
    · exact h.lt x hx
    · exact Nat.xor_lt_two_pow (getD_lt h.lt _) (Nat.pow_lt_pow_right (by decide) (by omega))

/-! ### how many bits are set -/
theorem and_split (s a b c d : Nat) (hb : b < 2 ^ s) (hd : d < 2 ^ s) : (2 ^ s * a + b) &&& (2 ^ s * c + d) = 2 ^ s * (a &&& c) + (b &&& d) := by
  apply Nat.eq_of_testBit_eq
  intro j
  rw [Nat.testBit_and, Nat.testBit_two_pow_mul_add _ hb, Nat.testBit_two_pow_mul_add _ hd, Nat.testBit_two_pow_mul_add _ (Nat.and_lt_two_pow _ hd)]
  split <;> simp [Nat.testBit_and]

def pc : Nat → Nat → Nat
  | 0, _ => 0
  | n + 1, x => x % 2 + pc n (x / 2)
theorem pc_split (n m x y : Nat) (h : x < 2 ^ n) : pc (n + m) (x + 2 ^ n * y) = pc n x + pc m y := by
  induction n generalizing x with
  | zero =>
    have : x = 0 := by simpa using h
    subst this
    simp [pc]
  | succ n ih =>
    have e : n + 1 + m = (n + m) + 1 := by omega
    rw [e, pc, pc, Nat.pow_succ]
    have h1 : (x + 2 ^ n * 2 * y) % 2 = x % 2 := by rw [Nat.mul_assoc, Nat.mul_left_comm]; omega
    have h2 : (x + 2 ^ n * 2 * y) / 2 = x / 2 + 2 ^ n * y := by rw [Nat.mul_assoc, Nat.mul_left_comm]; omega
    rw [h1, h2, ih _ (by rw [Nat.pow_succ] at h; omega)]
    omega

def p1 (b : Nat) : Nat := (b / 2 &&& 85) + (b &&& 85)
def p2 (b : Nat) : Nat := (p1 b / 4 &&& 51) + (p1 b &&& 51)
set_option maxRecDepth 100000 in
theorem byte_mask1 : ∀ b, b < 256 → ∀ t, t < 2 → ((b / 2 + 128 * t) &&& 85) = (b / 2 &&& 85) := by decide +kernel
set_option maxRecDepth 100000 in
theorem byte_p1 : ∀ b, b < 256 → p1 b ≤ 170 := by decide +kernel
set_option maxRecDepth 100000 in
theorem byte_mask2 : ∀ b, b < 256 → ∀ t, t < 4 → ((b / 4 + 64 * t) &&& 51) = (b / 4 &&& 51) := by decide +kernel
set_option maxRecDepth 100000 in
theorem byte_p2 : ∀ b, b < 256 → p2 b ≤ 68 ∧ p2 b % 16 ≤ 4 := by decide +kernel
set_option maxRecDepth 100000 in
theorem byte_mask3 : ∀ y, y ≤ 68 → ∀ t, t ≤ 4 → y % 16 ≤ 4 → ((y / 16 + 16 * t + y) &&& 15) = y / 16 + y % 16 := by decide +kernel
set_option maxRecDepth 100000 in
theorem byte_pc : ∀ b, b < 256 → p2 b / 16 + p2 b % 16 = pc 8 b := by decide +kernel
theorem pc8_le (b : Nat) : pc 8 b ≤ 8 := by
  simp only [pc]; omega

/-- Eight bytes. -/
def b8 (b0 b1 b2 b3 b4 b5 b6 b7 : Nat) : Nat := 2 ^ 8 * (2 ^ 8 * (2 ^ 8 * (2 ^ 8 * (2 ^ 8 * (2 ^ 8 * (2 ^ 8 * b7 + b6) + b5) + b4) + b3) + b2) + b1) + b0
theorem b8_and (b0 b1 b2 b3 b4 b5 b6 b7 m : Nat) (h0 : b0 < 256) (h1 : b1 < 256) (h2 : b2 < 256) (h3 : b3 < 256) (h4 : b4 < 256) (h5 : b5 < 256) (h6 : b6 < 256) (hm : m < 256) :
    b8 b0 b1 b2 b3 b4 b5 b6 b7 &&& b8 m m m m m m m m = b8 (b0 &&& m) (b1 &&& m) (b2 &&& m) (b3 &&& m) (b4 &&& m) (b5 &&& m) (b6 &&& m) (b7 &&& m) := by
  unfold b8
  rw [and_split 8 _ b0 _ m h0 hm, and_split 8 _ b1 _ m h1 hm, and_split 8 _ b2 _ m h2 hm, and_split 8 _ b3 _ m h3 hm, and_split 8 _ b4 _ m h4 hm, and_split 8 _ b5 _ m h5 hm, and_split 8 _ b6 _ m h6 hm]

theorem sum_steps (n0 n1 n2 n3 n4 n5 n6 n7 : Nat) (h0 : n0 ≤ 8) (h1 : n1 ≤ 8) (h2 : n2 ≤ 8) (h3 : n3 ≤ 8) (h4 : n4 ≤ 8) (h5 : n5 ≤ 8) (h6 : n6 ≤ 8) (h7 : n7 ≤ 8) (c d e : Nat) (hc : c = b8 n0 n1 n2 n3 n4 n5 n6 n7) (hd : d = c + c / 256) (he : e = d + d / 65536) :
    c < 2 ^ 60 ∧ d < 2 ^ 61 ∧ e < 2 ^ 62 ∧ e / 4294967296 < 2 ^ 30 ∧ (e + e / 4294967296) % 128 = n0 + (n1 + (n2 + (n3 + (n4 + (n5 + (n6 + n7)))))) := by
  obtain ⟨T6, q6⟩ : ∃ T, T = n6 + 256 * n7 := ⟨_, rfl⟩
  obtain ⟨T5, q5⟩ : ∃ T, T = n5 + 256 * T6 := ⟨_, rfl⟩
  obtain ⟨T4, q4⟩ : ∃ T, T = n4 + 256 * T5 := ⟨_, rfl⟩
  obtain ⟨T3, q3⟩ : ∃ T, T = n3 + 256 * T4 := ⟨_, rfl⟩
  obtain ⟨T2, q2⟩ : ∃ T, T = n2 + 256 * T3 := ⟨_, rfl⟩
  obtain ⟨T1, q1⟩ : ∃ T, T = n1 + 256 * T2 := ⟨_, rfl⟩
  have hc' : c = n0 + 256 * T1 := by unfold b8 at hc; clear hd he; omega
  clear hc
  have b6 : T6 ≤ 2056 := by omega
  have b5 : T5 ≤ 526344 := by clear q6; omega
  have b4 : T4 ≤ 134744072 := by clear q6 q5; omega
  have b3 : T3 ≤ 34494482440 := by clear q6 q5 q4; omega
  have b2 : T2 ≤ 8830587504648 := by clear q6 q5 q4 q3; omega
  have b1 : T1 ≤ 2260630401189896 := by clear q6 q5 q4 q3 q2; omega
  have c1 : c / 256 = T1 := by clear q6 q5 q4 q3 q2 q1 hd he; omega
  rw [c1] at hd
  have d1 : d / 65536 = T2 + T3 := by clear q6 q5 q4 he c1; omega
  rw [d1] at he
  have e0 : T2 + T3 = (n2 + n3) + 256 * (n3 + n4) + 65536 * (T4 + T5) := by clear he hd c1 d1; omega
  have e1 : e = (n0 + n1 + n2 + n3) + 256 * (n1 + n2 + n3 + n4) + 65536 * (T2 + T3 + T4 + T5) := by clear c1 d1; omega
  have e2 : T4 + T5 = (n4 + n5) + 256 * (n5 + n6) + 65536 * (T6 + n7) := by clear he hd c1 d1 e0 e1; omega
  have e3 : T2 + T3 + T4 + T5 = (n2 + n3 + n4 + n5) + 256 * (n3 + n4 + n5 + n6) + 65536 * (T4 + T5 + T6 + n7) := by clear he hd c1 d1 e1 q1 q2 q3 q4 q5 q6; omega
  clear he q1 q2 e0 e2 q3
  have cb : c < 2 ^ 60 := by clear hd e1 e3; omega
  have db : d < 2 ^ 61 := by clear e1 e3; omega
  clear hd c1 d1 hc'
  obtain ⟨L, hL⟩ : ∃ L, L = (n0 + n1 + n2 + n3) + 256 * (n1 + n2 + n3 + n4) + 65536 * ((n2 + n3 + n4 + n5) + 256 * (n3 + n4 + n5 + n6)) := ⟨_, rfl⟩
  have Lb : L < 4294967296 := by omega
  have e4 : e = L + 4294967296 * (T4 + T5 + T6 + n7) := by clear q4 q5 q6 b1 b2 b3 b4 b5 b6 Lb; omega
  have e5 : e / 4294967296 = T4 + T5 + T6 + n7 := by clear hL q4 q5 q6 e1 e3; omega
  rw [e5]
  refine ⟨cb, db, by clear hL q4 q5 q6 e1 e3 e5; omega, by clear hL q4 q5 q6 e1 e3 e4 e5; omega, ?_⟩
  rw [e4]
  clear e4 e5 e1 e3 cb db Lb b1 b2 b3
  have m1 : L % 256 = n0 + n1 + n2 + n3 := by omega
  have m2 : (T4 + T5 + T6 + n7) % 256 = n4 + n5 + n6 + n7 := by clear hL m1; omega
  clear hL q4 q5 q6 b4 b5 b6
  omega

theorem ones_steps (x : Nat) (h : x < 2 ^ 64) :
    let a := (x / 2 &&& 6148914691236517205) + (x &&& 6148914691236517205)
    let b := (a / 4 &&& 3689348814741910323) + (a &&& 3689348814741910323)
    let c := (b / 16 + b) &&& 1085102592571150095
    let d := c + c / 256
    let e := d + d / 65536
    a < 2 ^ 64 ∧ b < 2 ^ 64 ∧ b / 16 + b < 2 ^ 64 ∧ c < 2 ^ 64 ∧ d < 2 ^ 64 ∧ e < 2 ^ 64 ∧ e + e / 4294967296 < 2 ^ 63 ∧ (e + e / 4294967296) % 128 = pc 64 x := by
  intro a b c d e
  obtain ⟨b0, b1, b2, b3, b4, b5, b6, b7, h0, h1, h2, h3, h4, h5, h6, h7, hx⟩ : ∃ b0 b1 b2 b3 b4 b5 b6 b7, b0 < 256 ∧ b1 < 256 ∧ b2 < 256 ∧ b3 < 256 ∧ b4 < 256 ∧ b5 < 256 ∧ b6 < 256 ∧ b7 < 256 ∧ x = b8 b0 b1 b2 b3 b4 b5 b6 b7 := by
    refine ⟨x % 256, x / 256 % 256, x / 65536 % 256, x / 16777216 % 256, x / 4294967296 % 256, x / 1099511627776 % 256, x / 281474976710656 % 256, x / 72057594037927936 % 256, ?_⟩
    unfold b8
    omega
  have ha : a = b8 (p1 b0) (p1 b1) (p1 b2) (p1 b3) (p1 b4) (p1 b5) (p1 b6) (p1 b7) := by
    have e1 : x / 2 = b8 (b0 / 2 + 128 * (b1 % 2)) (b1 / 2 + 128 * (b2 % 2)) (b2 / 2 + 128 * (b3 % 2)) (b3 / 2 + 128 * (b4 % 2)) (b4 / 2 + 128 * (b5 % 2)) (b5 / 2 + 128 * (b6 % 2)) (b6 / 2 + 128 * (b7 % 2)) (b7 / 2 + 128 * 0) := by
      rw [hx]; unfold b8; omega
    have e2 : (6148914691236517205 : Nat) = b8 85 85 85 85 85 85 85 85 := by decide
    show (x / 2 &&& 6148914691236517205) + (x &&& 6148914691236517205) = _
    rw [e1, e2, hx, b8_and _ _ _ _ _ _ _ _ 85 (by omega) (by omega) (by omega) (by omega) (by omega) (by omega) (by omega) (by omega), b8_and _ _ _ _ _ _ _ _ 85 h0 h1 h2 h3 h4 h5 h6 (by omega),
      byte_mask1 b0 h0 _ (by omega), byte_mask1 b1 h1 _ (by omega), byte_mask1 b2 h2 _ (by omega), byte_mask1 b3 h3 _ (by omega), byte_mask1 b4 h4 _ (by omega), byte_mask1 b5 h5 _ (by omega), byte_mask1 b6 h6 _ (by omega), byte_mask1 b7 h7 0 (by omega)]
    simp only [p1, b8]
    omega
  have q0 := byte_p1 b0 h0
  have q1 := byte_p1 b1 h1
  have q2 := byte_p1 b2 h2
  have q3 := byte_p1 b3 h3
  have q4 := byte_p1 b4 h4
  have q5 := byte_p1 b5 h5
  have q6 := byte_p1 b6 h6
  have q7 := byte_p1 b7 h7
  have hb : b = b8 (p2 b0) (p2 b1) (p2 b2) (p2 b3) (p2 b4) (p2 b5) (p2 b6) (p2 b7) := by
    have e1 : a / 4 = b8 (p1 b0 / 4 + 64 * (p1 b1 % 4)) (p1 b1 / 4 + 64 * (p1 b2 % 4)) (p1 b2 / 4 + 64 * (p1 b3 % 4)) (p1 b3 / 4 + 64 * (p1 b4 % 4)) (p1 b4 / 4 + 64 * (p1 b5 % 4)) (p1 b5 / 4 + 64 * (p1 b6 % 4)) (p1 b6 / 4 + 64 * (p1 b7 % 4)) (p1 b7 / 4 + 64 * 0) := by
      rw [ha]; unfold b8; omega
    have e2 : (3689348814741910323 : Nat) = b8 51 51 51 51 51 51 51 51 := by decide
    show (a / 4 &&& 3689348814741910323) + (a &&& 3689348814741910323) = _
    rw [e1, e2, ha, b8_and _ _ _ _ _ _ _ _ 51 (by omega) (by omega) (by omega) (by omega) (by omega) (by omega) (by omega) (by omega), b8_and _ _ _ _ _ _ _ _ 51 (by omega) (by omega) (by omega) (by omega) (by omega) (by omega) (by omega) (by omega),
      byte_mask2 _ (by omega) _ (by omega), byte_mask2 _ (by omega) _ (by omega), byte_mask2 _ (by omega) _ (by omega), byte_mask2 _ (by omega) _ (by omega), byte_mask2 _ (by omega) _ (by omega), byte_mask2 _ (by omega) _ (by omega), byte_mask2 _ (by omega) _ (by omega), byte_mask2 _ (by omega) 0 (by omega)]
    simp only [p2, b8]
    omega
  have r0 := byte_p2 b0 h0
  have r1 := byte_p2 b1 h1
  have r2 := byte_p2 b2 h2
  have r3 := byte_p2 b3 h3
  have r4 := byte_p2 b4 h4
  have r5 := byte_p2 b5 h5
  have r6 := byte_p2 b6 h6
  have r7 := byte_p2 b7 h7
  have s0 := byte_pc b0 h0
  have s1 := byte_pc b1 h1
  have s2 := byte_pc b2 h2
  have s3 := byte_pc b3 h3
  have s4 := byte_pc b4 h4
  have s5 := byte_pc b5 h5
  have s6 := byte_pc b6 h6
  have s7 := byte_pc b7 h7
  have t0 := pc8_le b0
  have t1 := pc8_le b1
  have t2 := pc8_le b2
  have t3 := pc8_le b3
  have t4 := pc8_le b4
  have t5 := pc8_le b5
  have t6 := pc8_le b6
  have t7 := pc8_le b7
  have hc : c = b8 (pc 8 b0) (pc 8 b1) (pc 8 b2) (pc 8 b3) (pc 8 b4) (pc 8 b5) (pc 8 b6) (pc 8 b7) := by
    have e1 : b / 16 + b = b8 (p2 b0 / 16 + 16 * (p2 b1 % 16) + p2 b0) (p2 b1 / 16 + 16 * (p2 b2 % 16) + p2 b1) (p2 b2 / 16 + 16 * (p2 b3 % 16) + p2 b2) (p2 b3 / 16 + 16 * (p2 b4 % 16) + p2 b3) (p2 b4 / 16 + 16 * (p2 b5 % 16) + p2 b4) (p2 b5 / 16 + 16 * (p2 b6 % 16) + p2 b5) (p2 b6 / 16 + 16 * (p2 b7 % 16) + p2 b6) (p2 b7 / 16 + 16 * 0 + p2 b7) := by
      rw [hb]; unfold b8; omega
    have e2 : (1085102592571150095 : Nat) = b8 15 15 15 15 15 15 15 15 := by decide
    show (b / 16 + b) &&& 1085102592571150095 = _
    rw [e1, e2, b8_and _ _ _ _ _ _ _ _ 15 (by omega) (by omega) (by omega) (by omega) (by omega) (by omega) (by omega) (by omega),
      byte_mask3 _ r0.1 _ r1.2 r0.2, byte_mask3 _ r1.1 _ r2.2 r1.2, byte_mask3 _ r2.1 _ r3.2 r2.2, byte_mask3 _ r3.1 _ r4.2 r3.2, byte_mask3 _ r4.1 _ r5.2 r4.2, byte_mask3 _ r5.1 _ r6.2 r5.2, byte_mask3 _ r6.1 _ r7.2 r6.2, byte_mask3 _ r7.1 0 (by omega) r7.2,
      s0, s1, s2, s3, s4, s5, s6, s7]
  have hpc : pc 64 x = pc 8 b0 + (pc 8 b1 + (pc 8 b2 + (pc 8 b3 + (pc 8 b4 + (pc 8 b5 + (pc 8 b6 + pc 8 b7)))))) := by
    have e0 : x = b0 + 2 ^ 8 * (b1 + 2 ^ 8 * (b2 + 2 ^ 8 * (b3 + 2 ^ 8 * (b4 + 2 ^ 8 * (b5 + 2 ^ 8 * (b6 + 2 ^ 8 * b7)))))) := by rw [hx]; unfold b8; omega
    rw [e0, show (64 : Nat) = 8 + 56 from rfl, pc_split 8 56 _ _ h0, show (56 : Nat) = 8 + 48 from rfl, pc_split 8 48 _ _ h1, show (48 : Nat) = 8 + 40 from rfl, pc_split 8 40 _ _ h2, show (40 : Nat) = 8 + 32 from rfl, pc_split 8 32 _ _ h3, show (32 : Nat) = 8 + 24 from rfl, pc_split 8 24 _ _ h4, show (24 : Nat) = 8 + 16 from rfl, pc_split 8 16 _ _ h5, show (16 : Nat) = 8 + 8 from rfl, pc_split 8 8 _ _ h6]
  have hd : d = c + c / 256 := rfl
  have he : e = d + d / 65536 := rfl
  rw [hpc]
  clear_value a b c d e
  clear hpc hx h s0 s1 s2 s3 s4 s5 s6 s7
  generalize pc 8 b0 = n0 at *
  generalize pc 8 b1 = n1 at *
  generalize pc 8 b2 = n2 at *
  generalize pc 8 b3 = n3 at *
  generalize pc 8 b4 = n4 at *
  generalize pc 8 b5 = n5 at *
  generalize pc 8 b6 = n6 at *
  generalize pc 8 b7 = n7 at *
  obtain ⟨k1, k2, k3, k4, k5⟩ := sum_steps n0 n1 n2 n3 n4 n5 n6 n7 t0 t1 t2 t3 t4 t5 t6 t7 c d e hc hd he
  have ba : a < 2 ^ 64 := by clear hb hc hd he k1 k2 k3 k4 k5 r0 r1 r2 r3 r4 r5 r6 r7; unfold b8 at ha; omega
  have bb : b < 2 ^ 64 ∧ b / 16 + b < 2 ^ 64 := by clear ha hc hd he k1 k2 k3 k4 k5 q0 q1 q2 q3 q4 q5 q6 q7; unfold b8 at hb; omega
  clear ha hb hc hd he q0 q1 q2 q3 q4 q5 q6 q7 r0 r1 r2 r3 r4 r5 r6 r7
  exact ⟨ba, bb.1, bb.2, by omega, by omega, by omega, by omega, k5⟩

theorem onesA (x m : Nat) (q : Nat) (hx : x < 2 ^ 64) (hm : m < 2 ^ 64) : bits .and .u64 ((x : Int) / (q : Int)) (m : Int) = ((x / q &&& m : Nat) : Int) := by
  rw [← Int.natCast_ediv]
  exact w64_and _ _ (Nat.lt_of_le_of_lt (Nat.div_le_self _ _) hx) hm
theorem wrapN (a b : Nat) (h : a + b < 2 ^ 64) : IntKind.u64.wrap ((a : Int) + (b : Int)) = ((a + b : Nat) : Int) := by rw [wrap_u64]; omega
theorem wrapNq (a b q : Nat) (h : a + b / q < 2 ^ 64) : IntKind.u64.wrap ((a : Int) + (b : Int) / (q : Int)) = ((a + b / q : Nat) : Int) := by
  rw [← Int.natCast_ediv]; exact wrapN _ _ h
theorem wrapNp (a b q : Nat) (h : b / q + a < 2 ^ 64) : IntKind.u64.wrap ((b : Int) / (q : Int) + (a : Int)) = ((b / q + a : Nat) : Int) := by
  rw [← Int.natCast_ediv]; exact wrapN _ _ h
end Go.Proofs.Ythnahdoagibckaa.Pl05
