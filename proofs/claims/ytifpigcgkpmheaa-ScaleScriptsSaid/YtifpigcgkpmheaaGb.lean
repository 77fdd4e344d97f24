/- Several parts in one text: each begins with its own sentence. -/
import Derived.Test.YtifpigcgkpmheaaGa
import Derived.Test.YtifpigcgkpmheaaProg
import Derived.WalkKit
import Derived.RowKit3
import Derived.WalkSpells
import Derived.BigQuiet
import Derived.Deep.QuietTactic
import Derived.WideLaws
import Derived.Lib.Hide
import Derived.Deep.RegionHeld3
import Derived.Laws.BitsAllLaws
import Derived.IntWalk
/- Plain facts for layer 8: points and boxes as lists of numbers. No program in sight. -/
namespace Go.Proofs.Ytifpigcgkpmheaa.Pk08
set_option linter.unusedVariables false

/-- How two points stand. -/
def cmp : List Nat → List Nat → Int
  | [], [] => 0
  | [], _ :: _ => -1
  | _ :: _, [] => 1
  | x :: xs, y :: ys => if x < y then -1 else if y < x then 1 else cmp xs ys
/-- Is each coordinate at most the other's? -/
def leL : List Nat → List Nat → Bool
  | [], [] => true
  | x :: xs, y :: ys => decide (x ≤ y) && leL xs ys
  | _, _ => false
def chk (n : Nat) (d : Int) : Int := if 1 ≤ d ∧ d ≤ 6 ∧ (n : Int) = d then 0 else 1
def inB (k lo hi : List Nat) : Bool := leL lo k && leL k hi
def chkB (lo hi : List Nat) (d : Int) : Int := if chk lo.length d = 0 ∧ leL lo hi = true then 0 else 1
theorem drop_cons (a : List Nat) (i : Nat) (h : i < a.length) : a.drop i = a.getD i 0 :: a.drop (i + 1) := by
  rw [List.drop_eq_getElem_cons h]
  simp [List.getD_eq_getElem?_getD, h]
theorem drop_all (a : List Nat) (i : Nat) (h : a.length ≤ i) : a.drop i = [] := List.drop_eq_nil_of_le h
theorem cmp_lt (a b : List Nat) (i : Nat) (ha : i < a.length) (hb : i < b.length) (h : a.getD i 0 < b.getD i 0) : cmp (a.drop i) (b.drop i) = -1 := by
  rw [drop_cons a i ha, drop_cons b i hb]
  simp only [cmp]
  rw [if_pos h]
theorem cmp_gt (a b : List Nat) (i : Nat) (ha : i < a.length) (hb : i < b.length) (h : b.getD i 0 < a.getD i 0) : cmp (a.drop i) (b.drop i) = 1 := by
  rw [drop_cons a i ha, drop_cons b i hb]
  have : ¬ a.getD i 0 < b.getD i 0 := by omega
  simp only [cmp]
  rw [if_neg this, if_pos h]
theorem cmp_on (a b : List Nat) (i : Nat) (ha : i < a.length) (hb : i < b.length) (h : a.getD i 0 = b.getD i 0) : cmp (a.drop i) (b.drop i) = cmp (a.drop (i + 1)) (b.drop (i + 1)) := by
  rw [drop_cons a i ha, drop_cons b i hb]
  simp only [cmp]
  rw [if_neg (by omega), if_neg (by omega)]
theorem cmp_end (a b : List Nat) (i : Nat) (h : ¬ (i < a.length ∧ i < b.length)) (hi : i ≤ a.length) (hi2 : i ≤ b.length) : cmp (a.drop i) (b.drop i) = if a.length < b.length then -1 else if b.length < a.length then 1 else 0 := by
  by_cases h1 : i < a.length
  · have hb : b.length ≤ i := by omega
    rw [drop_cons a i h1, drop_all b i hb]
    simp only [cmp]
    rw [if_neg (by omega), if_pos (by omega)]
  · rw [drop_all a i (by omega)]
    by_cases h2 : i < b.length
    · rw [drop_cons b i h2]
      simp only [cmp]
      rw [if_pos (by omega)]
    · rw [drop_all b i (by omega)]
      simp only [cmp]
      rw [if_neg (by omega), if_neg (by omega)]
theorem leL_no (a b : List Nat) (i : Nat) (ha : i < a.length) (hb : i < b.length) (h : ¬ a.getD i 0 ≤ b.getD i 0) : leL (a.drop i) (b.drop i) = false := by
  rw [drop_cons a i ha, drop_cons b i hb]
  simp only [leL]
  rw [decide_eq_false h]; rfl
theorem leL_on (a b : List Nat) (i : Nat) (ha : i < a.length) (hb : i < b.length) (h : a.getD i 0 ≤ b.getD i 0) : leL (a.drop i) (b.drop i) = leL (a.drop (i + 1)) (b.drop (i + 1)) := by
  rw [drop_cons a i ha, drop_cons b i hb]
  simp only [leL]
  rw [decide_eq_true h]; rfl
theorem leL_len : ∀ (a b : List Nat), a.length ≠ b.length → leL a b = false
  | [], [], h => absurd rfl h
  | [], y :: ys, h => rfl
  | x :: xs, [], h => rfl
  | x :: xs, y :: ys, h => by
    simp only [leL]
    rw [leL_len xs ys (by simpa using h), Bool.and_false]
theorem leL_eqlen {a b : List Nat} (h : leL a b = true) : a.length = b.length := by
  rcases Nat.decEq a.length b.length with e | e
  · rw [leL_len a b e] at h; cases h
  · exact e
theorem leL_end (a b : List Nat) (i : Nat) (h : a.length ≤ i) (hb : b.length ≤ i) : leL (a.drop i) (b.drop i) = true := by
  rw [drop_all a i h, drop_all b i hb]; rfl
/-- The bits, by turns. -/
def bitk (k : List Nat) (i : Nat) : Nat := k.getD (i % k.length) 0 / 2 ^ (31 - i / k.length) % 2
def bitsK (k : List Nat) : Nat → Nat
  | 0 => 0
  | n + 1 => 2 * bitsK k n + bitk k n
theorem bitk_lt (k : List Nat) (i : Nat) : bitk k i < 2 := Nat.mod_lt _ (by decide)
theorem bitsK_lt (k : List Nat) (n : Nat) : bitsK k n < 2 ^ n := by
  induction n with
  | zero => simp [bitsK]
  | succ n ih => have := bitk_lt k n; simp only [bitsK, Nat.pow_succ]; omega
def bitsOk (n : Nat) (m : Int) : Prop := 1 ≤ n ∧ n ≤ 6 ∧ 0 ≤ m ∧ m ≤ 30 ∧ m ≤ 32 * n
instance (n : Nat) (m : Int) : Decidable (bitsOk n m) := inferInstanceAs (Decidable (_ ∧ _))
end Go.Proofs.Ytifpigcgkpmheaa.Pk08
/- Plain facts for layer 8: the box of those with some coordinates. No program in sight. -/
namespace Go.Proofs.Ytifpigcgkpmheaa.Pq08
set_option linter.unusedVariables false
/-- The coordinate before the i-th, or -1. -/
def prev (xs : List Int) : Nat → Int
  | 0 => -1
  | i + 1 => xs.getD i 0
/-- May the first i coordinates be named? -/
def okP (dim : Int) (xs : List Int) : Nat → Bool
  | 0 => true
  | i + 1 => okP dim xs i && (decide (prev xs i < xs.getD i 0) && decide (xs.getD i 0 < dim))
/-- A corner with the first i of them laid in. -/
def setP (base : List Nat) (xs : List Int) (ks : List Nat) : Nat → List Nat
  | 0 => base
  | i + 1 => (setP base xs ks i).set (xs.getD i 0).toNat (ks.getD i 0)
theorem setP_len (base : List Nat) (xs : List Int) (ks : List Nat) (i : Nat) : (setP base xs ks i).length = base.length := by
  induction i with
  | zero => rfl
  | succ i ih => simp [setP, ih]
theorem okP_le (dim : Int) (xs : List Int) (i j : Nat) (h : j ≤ i) (ho : okP dim xs i = true) : okP dim xs j = true := by
  induction i with
  | zero => have : j = 0 := by omega
            subst this; rfl
  | succ i ih =>
    by_cases e : j = i + 1
    · subst e; exact ho
    · simp only [okP, Bool.and_eq_true] at ho
      exact ih (by omega) ho.1
theorem prev_ge (dim : Int) (xs : List Int) (i : Nat) (ho : okP dim xs i = true) : -1 ≤ prev xs i := by
  induction i with
  | zero => simp [prev]
  | succ i ih =>
    simp only [okP, Bool.and_eq_true, decide_eq_true_eq] at ho
    have := ih ho.1
    simp only [prev]
    omega
end Go.Proofs.Ytifpigcgkpmheaa.Pq08
/- Plain laws for layer 8: the order of points, boxes, bits. No program in sight. -/
namespace Go.Proofs.Ytifpigcgkpmheaa.Pl08
open Go.Proofs.Ytifpigcgkpmheaa.Pk08 Go.Proofs.Ytifpigcgkpmheaa.Pq08
set_option linter.unusedVariables false
set_option linter.unusedSimpArgs false
theorem cmp_swap : ∀ a b : List Nat, cmp b a = - cmp a b
  | [], [] => rfl
  | [], _ :: _ => rfl
  | _ :: _, [] => rfl
  | x :: xs, y :: ys => by
    simp only [cmp]
    by_cases h : x < y
    · rw [if_neg (by omega), if_pos h, if_pos h]; rfl
    · by_cases h2 : y < x
      · rw [if_pos h2, if_neg h, if_pos h2]
      · rw [if_neg h2, if_neg h, if_neg h, if_neg h2]; exact cmp_swap xs ys
theorem cmp_zero : ∀ a b : List Nat, cmp a b = 0 ↔ a = b
  | [], [] => by simp [cmp]
  | [], y :: ys => by simp [cmp]
  | x :: xs, [] => by simp [cmp]
  | x :: xs, y :: ys => by
    simp only [cmp, List.cons.injEq]
    by_cases h : x < y
    · rw [if_pos h]; constructor
      · intro e; omega
      · intro e; omega
    · by_cases h2 : y < x
      · rw [if_neg h, if_pos h2]; constructor
        · intro e; omega
        · intro e; omega
      · rw [if_neg h, if_neg h2, cmp_zero xs ys]
        constructor
        · intro e; exact ⟨by omega, e⟩
        · intro e; exact e.2
theorem cmp_self (a : List Nat) : cmp a a = 0 := (cmp_zero a a).2 rfl
theorem cmp_eqB (a b : List Nat) : (cmp a b == 0) = decide (a = b) := by
  by_cases h : a = b
  · rw [decide_eq_true h, (cmp_zero a b).2 h]; rfl
  · rw [decide_eq_false h]; exact beq_eq_false_iff_ne.2 (fun e => h ((cmp_zero a b).1 e))
theorem cmp_le_trans : ∀ a b c : List Nat, cmp a b ≤ 0 → cmp b c ≤ 0 → cmp a c ≤ 0
  | [], _, [], _, _ => by simp [cmp]
  | [], _, z :: zs, _, _ => by simp [cmp]
  | x :: xs, [], c, h, _ => by simp [cmp] at h
  | x :: xs, y :: ys, [], _, h => by simp [cmp] at h
  | x :: xs, y :: ys, z :: zs, h1, h2 => by
    simp only [cmp] at *
    by_cases a1 : x < y
    · by_cases a2 : y < z
      · rw [if_pos (by omega)]; decide
      · by_cases a3 : z < y
        · rw [if_neg a2, if_pos a3] at h2; omega
        · rw [if_pos (by omega)]; decide
    · by_cases a1' : y < x
      · rw [if_neg a1, if_pos a1'] at h1; omega
      · rw [if_neg a1, if_neg a1'] at h1
        by_cases a2 : y < z
        · rw [if_pos (by omega)]; decide
        · by_cases a3 : z < y
          · rw [if_neg a2, if_pos a3] at h2; omega
          · rw [if_neg a2, if_neg a3] at h2
            rw [if_neg (by omega), if_neg (by omega)]
            exact cmp_le_trans xs ys zs h1 h2
theorem cmp_rng : ∀ a b : List Nat, -1 ≤ cmp a b ∧ cmp a b ≤ 1
  | [], [] => by simp [cmp]
  | [], _ :: _ => by simp [cmp]
  | _ :: _, [] => by simp [cmp]
  | x :: xs, y :: ys => by
    simp only [cmp]
    have := cmp_rng xs ys
    split
    · omega
    · split <;> omega
theorem leL_iff : ∀ a b : List Nat, leL a b = true ↔ (a.length = b.length ∧ ∀ i, i < a.length → a.getD i 0 ≤ b.getD i 0)
  | [], [] => by simp [leL]
  | [], y :: ys => by simp [leL]
  | x :: xs, [] => by simp [leL]
  | x :: xs, y :: ys => by
    simp only [leL, Bool.and_eq_true, decide_eq_true_eq, leL_iff xs ys, List.length_cons]
    constructor
    · rintro ⟨h1, h2, h3⟩
      refine ⟨by omega, fun i hi => ?_⟩
      cases i with
      | zero => simpa using h1
      | succ i => simpa using h3 i (by omega)
    · rintro ⟨h1, h2⟩
      exact ⟨by simpa using h2 0 (by omega), by omega, fun i hi => by simpa using h2 (i + 1) (by omega)⟩
theorem leL_refl (a : List Nat) : leL a a = true := (leL_iff a a).2 ⟨rfl, fun _ _ => Nat.le_refl _⟩
theorem chkB_zero {lo hi : List Nat} {d : Int} : chkB lo hi d = 0 ↔ (1 ≤ d ∧ d ≤ 6 ∧ (lo.length : Int) = d ∧ leL lo hi = true) := by
  unfold chkB chk
  by_cases h : 1 ≤ d ∧ d ≤ 6 ∧ (lo.length : Int) = d
  · rw [if_pos h]
    by_cases h2 : leL lo hi = true
    · rw [if_pos ⟨rfl, h2⟩]; simp [h, h2]
    · rw [if_neg (fun x => h2 x.2)]; simp [h2]
  · rw [if_neg h, if_neg (fun x => absurd x.1 (by decide))]
    constructor
    · intro e; omega
    · rintro ⟨a, b, c, _⟩; exact absurd ⟨a, b, c⟩ h
theorem bitsK_pre (k : List Nat) (n d : Nat) : bitsK k n = bitsK k (n + d) / 2 ^ d := by
  induction d with
  | zero => simp
  | succ d ih =>
    have h : bitsK k (n + (d + 1)) = 2 * bitsK k (n + d) + bitk k (n + d) := rfl
    have := bitk_lt k (n + d)
    rw [h, Nat.pow_succ, Nat.mul_comm (2 ^ d) 2, ← Nat.div_div_eq_div_mul]
    have e : (2 * bitsK k (n + d) + bitk k (n + d)) / 2 = bitsK k (n + d) := by omega
    rw [e]
    exact ih
end Go.Proofs.Ytifpigcgkpmheaa.Pl08
/- Layer 8, function by function: how points stand, whether one may be. -/
namespace Go.Proofs.Ytifpigcgkpmheaa.Kc08
open Go.RowKit Go.Proofs.Ytifpigcgkpmheaa.Pk08 Go.Proofs.Ytifpigcgkpmheaa.Base Go.Proofs.Ytifpigcgkpmheaa.App Go.Proofs.Ytifpigcgkpmheaa.Ky
set_option linter.unusedVariables false
set_option linter.unusedSimpArgs false
attribute [local irreducible] cmp leL

theorem isDim_any (d : Int) (w : World) :
    Calls Try.prog 62 #[.int .i64 d] w fun e w' => e = .returned (.bool (decide (1 ≤ d ∧ d ≤ 6))) ∧ w = w' := by
  by_cases h : 1 ≤ d
  · go_enter Try.func62, Try.ntmps62
    go_wp2
    go_ret
    exact ⟨by simp [h], rfl⟩
  · have hd : decide (1 ≤ d) = false := by simpa using h
    go_enter Try.func62, Try.ntmps62
    go_wp2
    go_ret
    exact ⟨by simp [h], rfl⟩
theorem check_any (A : Option Addr) (n c : Nat) (d : Int) (w : World) :
    Calls Try.prog 47 #[.slice A n c, .int .i64 d] w fun e w' => e = .returned (.int .i64 (chk n d)) ∧ w = w' := by
  by_cases h : 1 ≤ d ∧ d ≤ 6
  · have hd : decide (1 ≤ d ∧ d ≤ 6) = true := decide_eq_true h
    by_cases hn : (n : Int) = d
    · have e : chk n d = 0 := by unfold chk; rw [if_pos ⟨h.1, h.2, hn⟩]
      rw [e]
      clear e
      go_enter Try.func47, Try.ntmps47
      go_wp2_with (go_at_call 62; ((with_reducible refine (isDim_any _ _).mono ?_); rintro e w' ⟨rfl, rfl⟩; rw [hd]))
      go_ret
      exact ⟨rfl, rfl⟩
    · have e : chk n d = 1 := by unfold chk; rw [if_neg (fun x => hn x.2.2)]
      have hn2 : ((n : Int) == d) = false := beq_eq_false_iff_ne.2 hn
      rw [e]
      clear e
      go_enter Try.func47, Try.ntmps47
      go_wp2_with (go_at_call 62; ((with_reducible refine (isDim_any _ _).mono ?_); rintro e w' ⟨rfl, rfl⟩; rw [hd]))
      go_ret
      exact ⟨rfl, rfl⟩
  · have hd : decide (1 ≤ d ∧ d ≤ 6) = false := decide_eq_false h
    have e : chk n d = 1 := by unfold chk; rw [if_neg (fun x => h ⟨x.1, x.2.1⟩)]
    rw [e]
    clear e h
    go_enter Try.func47, Try.ntmps47
    go_wp2_with (go_at_call 62; ((with_reducible refine (isDim_any _ _).mono ?_); rintro e w' ⟨rfl, rfl⟩; rw [hd]))
    go_ret
    exact ⟨rfl, rfl⟩
theorem rcheck_any (A : Option Addr) (n c : Nat) (d : Int) (w : World) :
    Calls Try.prog 16 #[.slice A n c, .int .i64 d] w fun e w' => e = .returned (.int .i64 (chk n d)) ∧ w = w' := by
  by_cases h1 : d < 1
  · have e : chk n d = 1 := by unfold chk; rw [if_neg (fun x => by omega)]
    rw [e]; clear e
    go_enter Try.func16, Try.ntmps16
    go_wp2
    go_ret
    exact ⟨rfl, rfl⟩
  · by_cases h2 : 6 < d
    · have e : chk n d = 1 := by unfold chk; rw [if_neg (fun x => by omega)]
      rw [e]; clear e
      go_enter Try.func16, Try.ntmps16
      go_wp2
      go_ret
      exact ⟨rfl, rfl⟩
    · by_cases hn : (n : Int) = d
      · have e : chk n d = 0 := by unfold chk; rw [if_pos ⟨by omega, by omega, hn⟩]
        rw [e]; clear e
        go_enter Try.func16, Try.ntmps16
        go_wp2
        go_ret
        exact ⟨rfl, rfl⟩
      · have e : chk n d = 1 := by unfold chk; rw [if_neg (fun x => hn x.2.2)]
        have hn2 : ((n : Int) == d) = false := beq_eq_false_iff_ne.2 hn
        rw [e]; clear e
        go_enter Try.func16, Try.ntmps16
        go_wp2
        go_ret
        exact ⟨rfl, rfl⟩

/-! ### Compare -/
theorem isNaN_any (x : Int) (w : World) :
    Calls Try.prog 74 #[.int .u32 x] w fun e w' => e = .returned (.bool false) ∧ w = w' := by
  go_enter Try.func74, Try.ntmps74
  go_wp2
  go_ret
  exact ⟨by simp, rfl⟩
def c1 (x y : Nat) : Int := if x < y then -1 else if y < x then 1 else 0
section
variable {w : World} {A B : Option Addr} {n m c d : Nat} {a b : List Nat}
end
end Go.Proofs.Ytifpigcgkpmheaa.Kc08
/- Layer 8, further: the document's Compare; boxes. -/
namespace Go.Proofs.Ytifpigcgkpmheaa.Kd08
open Go.RowKit Go.Proofs.Ytifpigcgkpmheaa.Pk08 Go.Proofs.Ytifpigcgkpmheaa.Base Go.Proofs.Ytifpigcgkpmheaa.App Go.Proofs.Ytifpigcgkpmheaa.Ky Go.Proofs.Ytifpigcgkpmheaa.Kc08
set_option linter.unusedVariables false
set_option linter.unusedSimpArgs false
attribute [local irreducible] cmp leL
section
variable {w : World} {A B : Option Addr} {n m c d : Nat} {a b : List Nat}
set_option maxHeartbeats 800000 in
theorem rcompare (ha : Kv w A n c a) (hb : Kv w B m d b) :
    Calls Try.prog 69 #[.slice A n c, .slice B m d] w fun e w' => e = .returned (.int .i64 (cmp a b)) ∧ Fr No w w' := by
  have hac := ha.cap
  have hbc := hb.cap
  have ham := ha.most
  have hbm := hb.most
  have hmx : maxLen ≤ 9223372036854775807 := by decide
  obtain rfl := ha.len
  obtain rfl := hb.len
  have Ha := Lib.hid ha
  have Hb := Lib.hid hb
  clear ha hb
  go_enter Try.func69, Try.ntmps69
  go_wp2
  go_loopw [5] (fun v wr => ∃ i : Nat, i ≤ a.length ∧ i ≤ b.length ∧ v = .int .i64 i ∧ Hid (cmp (a.drop i) (b.drop i) = cmp a b ∧ Fr No w wr)) (fun v _ => a.length - (intOf v).toNat)
  case atStart => exact ⟨0, Nat.zero_le _, Nat.zero_le _, rfl, Lib.hid ⟨rfl, Fr.refl _ _⟩⟩
  case round =>
    obtain ⟨i, hi1, hi2, rfl, Hi⟩ := hrel
    by_cases hlt : i < a.length
    · by_cases hlt2 : i < b.length
      · obtain ⟨ga, oa, rfl, ca⟩ := (Ha.out.no Hi.out.2).get i hlt
        obtain ⟨gb, ob, rfl, cb⟩ := (Hb.out.no Hi.out.2).get i hlt2
        have k1 := cmp_lt a b i hlt hlt2
        have k2 := cmp_gt a b i hlt hlt2
        have k3 := cmp_on a b i hlt hlt2
        generalize a.getD i 0 = x at *
        generalize b.getD i 0 = y at *
        by_cases hxy : x < y
        · have K := Lib.hid (k1 hxy)
          clear k1 k2 k3
          go_wp2
          go_quiet (fail)
          go_wp2
          go_ret
          rw [← Hi.out.1, K.out]
          exact ⟨rfl, Hi.out.2.drewN _⟩
        · by_cases hyx : y < x
          · have K := Lib.hid (k2 hyx)
            clear k1 k2 k3
            go_wp2
            go_quiet (fail)
            go_wp2
            go_quiet (fail)
            go_wp2
            go_ret
            rw [← Hi.out.1, K.out]
            exact ⟨rfl, (Hi.out.2.drewN _).drewN _⟩
          · have K := Lib.hid ((k3 (by omega)).symm.trans Hi.out.1)
            clear k1 k2 k3
            go_wp2
            go_quiet (fail)
            go_wp2
            go_quiet (fail)
            go_wp2
            go_roundw
            case rel => exact ⟨i + 1, by omega, by omega, by go_num, Lib.hid ⟨K.out, Hi.out.2.drewN _⟩⟩
            case measure => simp [intOf]; omega
      · have K := Lib.hid (cmp_end a b i (by omega) hi1 hi2)
        go_wp2
        go_ret
        rw [← Hi.out.1, K.out, if_neg (by omega), if_pos (by omega)]
        exact ⟨rfl, Hi.out.2⟩
    · have K := Lib.hid (cmp_end a b i (by omega) hi1 hi2)
      by_cases hab : a.length < b.length
      · go_wp2
        go_ret
        rw [← Hi.out.1, K.out, if_pos hab]
        exact ⟨rfl, Hi.out.2⟩
      · go_wp2
        go_ret
        rw [← Hi.out.1, K.out, if_neg hab, if_neg (by omega)]
        exact ⟨rfl, Hi.out.2⟩
theorem same (ha : Kv w A n c a) (hb : Kv w B m d b) :
    Calls Try.prog 56 #[.slice A n c, .slice B m d] w fun e w' => e = .returned (.bool (cmp a b == 0)) ∧ Fr No w w' := by
  go_enter Try.func56, Try.ntmps56
  go_wp2_with (go_at_call 69; ((with_reducible refine (rcompare ha hb).mono ?_); rintro e w1 ⟨rfl, hf1⟩))
  go_ret
  exact ⟨rfl, hf1⟩
end
theorem atMost_any (x y : Nat) (w : World) :
    Calls Try.prog 68 #[.int .u32 (x : Int), .int .u32 (y : Int)] w fun e w' => e = .returned (.bool (decide (x ≤ y))) ∧ w = w' := by
  go_enter Try.func68, Try.ntmps68
  go_wp2
  go_ret
  exact ⟨by simp, rfl⟩
section
variable {w : World} {A B : Option Addr} {n m c d : Nat} {a b : List Nat}
set_option maxHeartbeats 800000 in
theorem all_any (ha : Kv w A n c a) (hb : Kv w B m d b) :
    Calls Try.prog 67 #[.slice A n c, .slice B m d, .func (.func 68) #[] #[]] w fun e w' => e = .returned (.bool (leL a b)) ∧ Fr No w w' := by
  have hac := ha.cap
  have hbc := hb.cap
  have ham := ha.most
  have hbm := hb.most
  have hmx : maxLen ≤ 9223372036854775807 := by decide
  have Ha := Lib.hid ha
  have Hb := Lib.hid hb
  clear ha hb
  by_cases hl : n = m
  · subst hl
    go_enter Try.func67, Try.ntmps67
    go_wp2
    go_loopw [15] (fun v wr => ∃ i : Nat, i ≤ n ∧ v = .int .i64 i ∧ Hid (leL (a.drop i) (b.drop i) = leL a b ∧ Fr No w wr)) (fun v _ => n - (intOf v).toNat)
    case atStart => exact ⟨0, Nat.zero_le _, rfl, Lib.hid ⟨rfl, Fr.refl _ _⟩⟩
    case round =>
      obtain ⟨i, hi1, rfl, Hi⟩ := hrel
      by_cases hlt : i < n
      · obtain ⟨ga, oa, rfl, ca⟩ := (Ha.out.no Hi.out.2).get i (by have := Ha.out.len; omega)
        obtain ⟨gb, ob, rfl, cb⟩ := (Hb.out.no Hi.out.2).get i (by have := Hb.out.len; omega)
        have k1 := leL_no a b i (by have := Ha.out.len; omega) (by have := Hb.out.len; omega)
        have k3 := leL_on a b i (by have := Ha.out.len; omega) (by have := Hb.out.len; omega)
        generalize a.getD i 0 = x at *
        generalize b.getD i 0 = y at *
        by_cases hxy : x ≤ y
        · have K := Lib.hid ((k3 hxy).symm.trans Hi.out.1)
          have hd : decide (x ≤ y) = true := decide_eq_true hxy
          clear k1 k3
          go_wp2
          have ca' : wr.drew.cell? ⟨ga, oa + i, none⟩ = some (.int .u32 (x : Int)) := ca
          have cb' : wr.drew.cell? ⟨gb, ob + i, none⟩ = some (.int .u32 (y : Int)) := cb
          go_region_held3 (fun w' => w'.cell? ⟨ga, oa + i, none⟩ = some (.int .u32 (x : Int)) ∧ w'.cell? ⟨gb, ob + i, none⟩ = some (.int .u32 (y : Int))) (exact ⟨ca', cb'⟩)
            (first | (go_at_call 68; ((with_reducible refine (atMost_any _ _ _).mono ?_); rintro e w' ⟨rfl, rfl⟩)))

          go_wp2
          go_roundw
          case rel => exact ⟨i + 1, by omega, by go_num, Lib.hid ⟨K.out, Hi.out.2.drew⟩⟩
          case measure => simp [intOf]; omega
        · have K := Lib.hid (k1 hxy)
          have hd : decide (x ≤ y) = false := decide_eq_false hxy
          clear k1 k3
          go_wp2
          have ca' : wr.drew.cell? ⟨ga, oa + i, none⟩ = some (.int .u32 (x : Int)) := ca
          have cb' : wr.drew.cell? ⟨gb, ob + i, none⟩ = some (.int .u32 (y : Int)) := cb
          go_region_held3 (fun w' => w'.cell? ⟨ga, oa + i, none⟩ = some (.int .u32 (x : Int)) ∧ w'.cell? ⟨gb, ob + i, none⟩ = some (.int .u32 (y : Int))) (exact ⟨ca', cb'⟩)
            (first | (go_at_call 68; ((with_reducible refine (atMost_any _ _ _).mono ?_); rintro e w' ⟨rfl, rfl⟩)))
          go_wp2
          go_ret
          rw [← Hi.out.1, K.out]
          exact ⟨rfl, Hi.out.2.drew⟩
      · have K := Lib.hid (leL_end a b i (by have := Ha.out.len; omega) (by have := Hb.out.len; omega))
        go_wp2
        go_ret
        rw [← Hi.out.1, K.out]
        exact ⟨rfl, Hi.out.2⟩
  · have K := Lib.hid (leL_len a b (by have := Ha.out.len; have := Hb.out.len; omega))
    have hl2 : ((n : Int) == m) = false := beq_eq_false_iff_ne.2 (by omega)
    go_enter Try.func67, Try.ntmps67
    go_wp2
    go_ret
    rw [K.out]
    exact ⟨rfl, Fr.refl _ _⟩
end
end Go.Proofs.Ytifpigcgkpmheaa.Kd08
/- Layer 8, further: whether a point is in a box, whether a box may be, whether two are the same. -/
namespace Go.Proofs.Ytifpigcgkpmheaa.Ke08
open Go.RowKit Go.Proofs.Ytifpigcgkpmheaa.Pk08 Go.Proofs.Ytifpigcgkpmheaa.Base Go.Proofs.Ytifpigcgkpmheaa.App Go.Proofs.Ytifpigcgkpmheaa.Ky Go.Proofs.Ytifpigcgkpmheaa.Kc08 Go.Proofs.Ytifpigcgkpmheaa.Kd08
set_option linter.unusedVariables false
set_option linter.unusedSimpArgs false
attribute [local irreducible] cmp leL
section
variable {w : World} {A B C D : Option Addr} {n m p q cn cm cp cq : Nat} {a b k lo hi : List Nat}
set_option maxHeartbeats 800000 in
theorem checkBox_any (d : Int) (hl : Kv w B m cm lo) (hh : Kv w C p cp hi) :
    Calls Try.prog 55 #[.agg #[.slice B m cm, .slice C p cp], .int .i64 d] w fun e w' => e = .returned (.int .i64 (chkB lo hi d)) ∧ Fr No w w' := by
  have f0 : Fr No w (w.alloc (.cells #[.slice B m cm, .slice C p cp] 43)) := (Fr.refl No w).alloc _
  have Hl := Lib.hid (hl.no f0)
  have Hh := Lib.hid (hh.no f0)
  have Hn := Lib.hid hl.len
  clear hl hh
  by_cases hc : chk m d = 0
  · cases h1 : leL lo hi with
    | false =>
      have e : chkB lo hi d = 1 := by unfold chkB; rw [h1]; simp
      rw [e]
      clear e
      go_enter Try.func55, Try.ntmps55
      go_wp2_with (first
        | (go_at_call 47; ((with_reducible refine (check_any _ _ _ _ _).mono ?_); rintro e w' ⟨rfl, rfl⟩; rw [hc]))
        | (go_at_call 67; ((with_reducible refine (all_any Hl.out Hh.out).mono ?_); rintro e w2 ⟨rfl, hf2⟩; rw [h1])))
      go_ret
      exact ⟨rfl, f0.tr hf2⟩
    | true =>
      have e : chkB lo hi d = 0 := by unfold chkB; rw [← Hn.out, hc, h1]; simp
      rw [e]
      clear e
      go_enter Try.func55, Try.ntmps55
      go_wp2_with (first
        | (go_at_call 47; ((with_reducible refine (check_any _ _ _ _ _).mono ?_); rintro e w' ⟨rfl, rfl⟩; rw [hc]))
        | (go_at_call 67; ((with_reducible refine (all_any Hl.out Hh.out).mono ?_); rintro e w2 ⟨rfl, hf2⟩; rw [h1])))
      go_ret
      exact ⟨rfl, f0.tr hf2⟩
  · have e : chkB lo hi d = 1 := by unfold chkB; rw [← Hn.out, if_neg (fun x => hc x.1)]
    have hc1 : chk m d = 1 := by unfold chk at hc ⊢; split at hc <;> simp_all
    rw [e]
    clear e hc
    go_enter Try.func55, Try.ntmps55
    go_wp2_with (go_at_call 47; ((with_reducible refine (check_any _ _ _ _ _).mono ?_); rintro e w' ⟨rfl, rfl⟩; rw [hc1]))
    go_ret
    exact ⟨rfl, f0⟩
set_option maxHeartbeats 800000 in
theorem sameBox_any (hl : Kv w A n cn lo) (hh : Kv w B m cm hi) (ha : Kv w C p cp a) (hb : Kv w D q cq b) :
    Calls Try.prog 26 #[.agg #[.slice A n cn, .slice B m cm], .agg #[.slice C p cp, .slice D q cq]] w fun e w' => e = .returned (.bool ((cmp lo a == 0) && (cmp hi b == 0))) ∧ Fr No w w' := by
  have f0 : Fr No w ((w.alloc (.cells #[.slice A n cn, .slice B m cm] 43)).alloc (.cells #[.slice C p cp, .slice D q cq] 43)) := ((Fr.refl No w).alloc _).alloc _
  have hO := (Ob.new w #[.slice A n cn, .slice B m cm] 43).alloc (.cells #[.slice C p cp, .slice D q cq] 43)
  have hO2 := Ob.new (w.alloc (.cells #[.slice A n cn, .slice B m cm] 43)) #[.slice C p cp, .slice D q cq] 43
  have hs : (w.alloc (.cells #[.slice A n cn, .slice B m cm] 43)).heap.size = w.heap.size + 1 := by simp
  rw [hs] at hO2
  clear hs
  have Hl := Lib.hid (hl.no f0)
  have Hh := Lib.hid (hh.no f0)
  have Ha := Lib.hid (ha.no f0)
  have Hb := Lib.hid (hb.no f0)
  clear hl hh ha hb
  cases h1 : (cmp lo a == 0) with
  | false =>
    go_enter Try.func26, Try.ntmps26
    go_wp2_with (go_at_call 56; ((with_reducible refine (same Hl.out Ha.out).mono ?_); rintro e w1 ⟨rfl, hf1⟩; rw [h1]))
    go_ret
    exact ⟨rfl, f0.tr hf1⟩
  | true =>
    go_enter Try.func26, Try.ntmps26
    go_wp2_with (first
      | (go_at_call 56; ((with_reducible refine (same Hl.out Ha.out).mono ?_); rintro e w1 ⟨rfl, hf1⟩; rw [h1]; have cO := (hO.fr hf1 (fun x => x)).cell 1 rfl; have cO2 := (hO2.fr hf1 (fun x => x)).cell 1 rfl; have Hh1 := Lib.hid (Hh.out.no hf1); have Hb1 := Lib.hid (Hb.out.no hf1)))
      | (go_at_call 56; ((with_reducible refine (same Hh1.out Hb1.out).mono ?_); rintro e w2 ⟨rfl, hf2⟩)))
    go_ret
    exact ⟨rfl, (f0.tr hf1).tr hf2⟩
end
end Go.Proofs.Ytifpigcgkpmheaa.Ke08
/- Layer 8, further: the bits. -/
namespace Go.Proofs.Ytifpigcgkpmheaa.Kf08
open Go.RowKit Go.Proofs.Ytifpigcgkpmheaa.Pk08 Go.Proofs.Ytifpigcgkpmheaa.Base Go.Proofs.Ytifpigcgkpmheaa.App Go.Proofs.Ytifpigcgkpmheaa.Ky Go.Proofs.Ytifpigcgkpmheaa.Kc08 Go.Proofs.Ytifpigcgkpmheaa.Kd08
set_option linter.unusedVariables false
set_option linter.unusedSimpArgs false
theorem bitsK_succ (k : List Nat) (i : Nat) : bitsK k (i + 1) = 2 * bitsK k i + bitk k i := rfl
theorem i64_or_nat (a b : Nat) (ha : a < 9223372036854775808) (hb : b < 9223372036854775808) : bits .or .i64 (a : Int) (b : Int) = ((a ||| b : Nat) : Int) := by
  have hc : a ||| b < 2 ^ 63 := Nat.or_lt_two_pow ha hb
  show IntKind.i64.wrap ((BitVec.ofInt 64 (a : Int) ||| BitVec.ofInt 64 (b : Int)).toNat : Int) = _
  rw [BitVec.toNat_or, ofInt_u64 a (by omega), ofInt_u64 b (by omega)]
  exact IntWalk.i64_in _ (by omega)
theorem step_bit (B x d : Nat) (hB : B < 2 ^ 40) (hx : x < 4294967296) : bits .or .i64 ((B : Int) * 2) (wrap64 (bits .and .u32 ((x : Int) / 2 ^ d) 1)) = ((2 * B + x / 2 ^ d % 2 : Nat) : Int) := by
  have l : x / 2 ^ d < 4294967296 := Nat.lt_of_le_of_lt (Nat.div_le_self _ _) hx
  have e1 : ((x : Int) / 2 ^ d) = ((x / 2 ^ d : Nat) : Int) := by simp
  have e2 : bits .and .u32 ((x : Int) / 2 ^ d) 1 = ((x / 2 ^ d % 2 : Nat) : Int) := by
    rw [e1, ← nat_mask1]
    exact u32_and_nat (x / 2 ^ d) 1 l (by decide)
  have l2 : x / 2 ^ d % 2 < 2 := Nat.mod_lt _ (by decide)
  rw [e2, IntWalk.wrap64_in _ (by omega)]
  generalize x / 2 ^ d % 2 = y at *
  have e3 : ((B : Int) * 2) = ((2 * B : Nat) : Int) := by omega
  rw [e3, i64_or_nat _ _ (by omega) (by omega), nat_join 1 (2 * B) y (by omega) (by omega)]
attribute [local irreducible] bitsK
section
variable {w : World} {A B C D : Option Addr} {n m p q cn cm cp cq : Nat} {a b k lo hi : List Nat}
end
end Go.Proofs.Ytifpigcgkpmheaa.Kf08
/- Layer 8, further: the document's bits, boxes. -/
namespace Go.Proofs.Ytifpigcgkpmheaa.Kg08
open Go.RowKit Go.Proofs.Ytifpigcgkpmheaa.Pk08 Go.Proofs.Ytifpigcgkpmheaa.Base Go.Proofs.Ytifpigcgkpmheaa.App Go.Proofs.Ytifpigcgkpmheaa.Ky Go.Proofs.Ytifpigcgkpmheaa.Kc08 Go.Proofs.Ytifpigcgkpmheaa.Kd08 Go.Proofs.Ytifpigcgkpmheaa.Kf08
set_option linter.unusedVariables false
set_option linter.unusedSimpArgs false
attribute [local irreducible] bitsK
theorem rstep (B x i n : Nat) (hB : B < 2 ^ 40) (hx : x < 4294967296) (hq : i / n < 32) :
    wrap64 (2 * (B : Int) + wrap64 (((x : Int) / 2 ^ min (IntKind.u64.wrap (wrap64 (31 - wrap64 ((i : Int) / n)))).toNat 32).tmod 2)) = ((2 * B + x / 2 ^ (31 - i / n) % 2 : Nat) : Int) := by
  have e : ((i : Int) / n) = ((i / n : Nat) : Int) := by simp
  rw [e]
  generalize i / n = q at *
  have e1 : wrap64 (q : Int) = q := IntWalk.wrap64_in _ (by omega)
  have e2 : wrap64 (31 - (q : Int)) = ((31 - q : Nat) : Int) := by rw [IntWalk.wrap64_in _ (by omega)]; omega
  have e3 : IntKind.u64.wrap ((31 - q : Nat) : Int) = ((31 - q : Nat) : Int) := by rw [IntKind.wrap_u64]; omega
  rw [e1, e2, e3, Int.toNat_natCast, Nat.min_eq_left (by omega)]
  have e4 : ((x : Int) / 2 ^ (31 - q)) = ((x / 2 ^ (31 - q) : Nat) : Int) := by simp
  rw [e4]
  have l : x / 2 ^ (31 - q) < 4294967296 := Nat.lt_of_le_of_lt (Nat.div_le_self _ _) hx
  generalize x / 2 ^ (31 - q) = y at *
  have e5 : ((y : Int).tmod 2) = ((y % 2 : Nat) : Int) := by rw [Int.tmod_eq_emod_of_nonneg (by omega)]; omega
  rw [e5]
  have hy : y % 2 < 2 := Nat.mod_lt _ (by decide)
  generalize y % 2 = z at *
  rw [IntWalk.wrap64_in (z : Int) (by omega), IntWalk.wrap64_in _ (by omega)]
  omega
section
variable {w : World} {A B C D : Option Addr} {n m p q cn cm cp cq : Nat} {a b k lo hi : List Nat}
end
end Go.Proofs.Ytifpigcgkpmheaa.Kg08
/- Layer 8, further: the document's boxes. -/
namespace Go.Proofs.Ytifpigcgkpmheaa.Kh08
open Go.RowKit Go.Proofs.Ytifpigcgkpmheaa.Pk08 Go.Proofs.Ytifpigcgkpmheaa.Base Go.Proofs.Ytifpigcgkpmheaa.App Go.Proofs.Ytifpigcgkpmheaa.Ky Go.Proofs.Ytifpigcgkpmheaa.Kc08 Go.Proofs.Ytifpigcgkpmheaa.Kd08 Go.Proofs.Ytifpigcgkpmheaa.Kf08
set_option linter.unusedVariables false
set_option linter.unusedSimpArgs false
attribute [local irreducible] leL
section
variable {w : World} {A B C D : Option Addr} {n m p q cn cm cp cq : Nat} {a b k lo hi : List Nat}
set_option maxHeartbeats 1600000 in
theorem rin_any (hk : Kv w A n cn k) (hl : Kv w B m cm lo) (hh : Kv w C p cp hi) :
    Calls Try.prog 20 #[.slice A n cn, .agg #[.slice B m cm, .slice C p cp]] w fun e w' => e = .returned (.bool (inB k lo hi)) ∧ Fr No w w' := by
  have f0 : Fr No w (w.alloc (.cells #[.slice B m cm, .slice C p cp] 43)) := (Fr.refl No w).alloc _
  have hO := Ob.new w #[.slice B m cm, .slice C p cp] 43
  have Hk := Lib.hid hk
  have Hl := Lib.hid hl
  have Hh := Lib.hid hh
  have hcn := hk.cap
  have hcm := hk.most
  have hmx : maxLen ≤ 9223372036854775807 := by decide
  clear hk hl hh
  by_cases h1 : m = n
  · subst h1
    by_cases h2 : p = m
    · subst h2
      go_enter Try.func20, Try.ntmps20
      go_wp2
      go_loopw [5] (fun v wr => ∃ i : Nat, i ≤ p ∧ v = .int .i64 i ∧ Hid (leL (lo.drop i) (k.drop i) = leL lo k ∧ leL (k.drop i) (hi.drop i) = leL k hi ∧ Fr No (w.alloc (.cells #[.slice B p cm, .slice C p cp] 43)) wr)) (fun v _ => p - (intOf v).toNat)
      case atStart => exact ⟨0, Nat.zero_le _, rfl, Lib.hid ⟨rfl, rfl, Fr.refl _ _⟩⟩
      case round =>
        obtain ⟨i, hi1, rfl, Hi⟩ := hrel
        have hO1 := hO.fr Hi.out.2.2 (fun x => x)
        have d0 := hO1.cell 0 rfl
        have d1 := hO1.cell 1 rfl
        by_cases hlt : i < p
        · obtain ⟨ga, oa, rfl, ca⟩ := (Hk.out.no (f0.tr Hi.out.2.2)).get i (by rw [← Hk.out.len]; exact hlt)
          obtain ⟨gb, ob, rfl, cb⟩ := (Hl.out.no (f0.tr Hi.out.2.2)).get i (by rw [← Hl.out.len]; exact hlt)
          obtain ⟨gc, oc, rfl, cc⟩ := (Hh.out.no (f0.tr Hi.out.2.2)).get i (by rw [← Hh.out.len]; exact hlt)
          have k1 := leL_no lo k i (by rw [← Hl.out.len]; exact hlt) (by rw [← Hk.out.len]; exact hlt)
          have k2 := leL_on lo k i (by rw [← Hl.out.len]; exact hlt) (by rw [← Hk.out.len]; exact hlt)
          have k3 := leL_no k hi i (by rw [← Hk.out.len]; exact hlt) (by rw [← Hh.out.len]; exact hlt)
          have k4 := leL_on k hi i (by rw [← Hk.out.len]; exact hlt) (by rw [← Hh.out.len]; exact hlt)
          generalize k.getD i 0 = x at *
          generalize lo.getD i 0 = y at *
          generalize hi.getD i 0 = z at *
          by_cases hxy : y ≤ x
          · by_cases hxz : x ≤ z
            · have K := Lib.hid ((k2 hxy).symm.trans Hi.out.1)
              have K2 := Lib.hid ((k4 hxz).symm.trans Hi.out.2.1)
              have hd : decide ((x : Int) < y) = false := decide_eq_false (by omega)
              clear k1 k2 k3 k4
              go_wp2
              go_quiet (fail)
              go_wp2
              go_roundw
              case rel => exact ⟨i + 1, by omega, by go_num, Lib.hid ⟨K.out, K2.out, Hi.out.2.2.drewN _⟩⟩
              case measure => simp [intOf]; omega
            · have K := Lib.hid (k3 hxz)
              have hd : decide ((x : Int) < y) = false := decide_eq_false (by omega)
              clear k1 k2 k3 k4
              go_wp2
              go_quiet (fail)
              go_wp2
              go_ret
              have e : inB k lo hi = false := by unfold inB; rw [← Hi.out.2.1, K.out, Bool.and_false]
              rw [e]
              exact ⟨rfl, f0.tr (Hi.out.2.2.drewN _)⟩
          · have K := Lib.hid (k1 hxy)
            have hd : decide ((x : Int) < y) = true := decide_eq_true (by omega)
            clear k1 k2 k3 k4
            go_wp2
            go_quiet (fail)
            go_wp2
            go_ret
            have e : inB k lo hi = false := by unfold inB; rw [← Hi.out.1, K.out, Bool.false_and]
            rw [e]
            exact ⟨rfl, f0.tr (Hi.out.2.2.drewN _)⟩
        · have K := Lib.hid (leL_end lo k i (by have := Hl.out.len; omega) (by have := Hk.out.len; omega))
          have K2 := Lib.hid (leL_end k hi i (by have := Hk.out.len; omega) (by have := Hh.out.len; omega))
          go_wp2
          go_ret
          have e : inB k lo hi = true := by unfold inB; rw [← Hi.out.1, K.out, ← Hi.out.2.1, K2.out]; rfl
          rw [e]
          exact ⟨rfl, f0.tr Hi.out.2.2⟩
    · have e : inB k lo hi = false := by unfold inB; rw [leL_len k hi (by have := Hk.out.len; have := Hh.out.len; omega), Bool.and_false]
      have hb : ((p : Int) == m) = false := beq_eq_false_iff_ne.2 (by omega)
      rw [e]
      clear e
      go_enter Try.func20, Try.ntmps20
      go_wp2
      go_ret
      exact ⟨rfl, f0⟩
  · have e : inB k lo hi = false := by unfold inB; rw [leL_len lo k (by have := Hk.out.len; have := Hl.out.len; omega), Bool.false_and]
    have hb : ((m : Int) == n) = false := beq_eq_false_iff_ne.2 (by omega)
    rw [e]
    clear e
    go_enter Try.func20, Try.ntmps20
    go_wp2
    go_ret
    exact ⟨rfl, f0⟩
set_option maxHeartbeats 1600000 in
theorem rcheckBox_any (d : Int) (hl : Kv w B m cm lo) (hh : Kv w C p cp hi) :
    Calls Try.prog 23 #[.agg #[.slice B m cm, .slice C p cp], .int .i64 d] w fun e w' => e = .returned (.int .i64 (chkB lo hi d)) ∧ Fr No w w' := by
  have f0 : Fr No w (w.alloc (.cells #[.slice B m cm, .slice C p cp] 43)) := (Fr.refl No w).alloc _
  have hO := Ob.new w #[.slice B m cm, .slice C p cp] 43
  have Hl := Lib.hid hl
  have Hh := Lib.hid hh
  clear hl hh
  by_cases hc : chk m d = 0
  · by_cases hc2 : chk p d = 0
    · obtain ⟨d1, d2, d3⟩ : 1 ≤ d ∧ d ≤ 6 ∧ (m : Int) = d := by unfold chk at hc; split at hc <;> simp_all
      have d4 : (p : Int) = d := by unfold chk at hc2; split at hc2 <;> simp_all
      obtain rfl : p = m := by omega
      clear d4
      subst d3
      have hE : chkB lo hi (p : Int) = if leL lo hi = true then 0 else 1 := by unfold chkB; rw [← Hl.out.len, hc]; simp
      have HE := Lib.hid hE
      clear hE
      go_enter Try.func23, Try.ntmps23
      go_wp2_with (go_at_call 16; ((with_reducible refine (rcheck_any _ _ _ _ _).mono ?_); rintro e w' ⟨rfl, rfl⟩; rw [hc]))
      go_loopw [5] (fun v wr => ∃ i : Nat, i ≤ p ∧ v = .int .i64 i ∧ Hid (leL (lo.drop i) (hi.drop i) = leL lo hi ∧ Fr No (w.alloc (.cells #[.slice B p cm, .slice C p cp] 43)) wr)) (fun v _ => p - (intOf v).toNat)
      case atStart => exact ⟨0, Nat.zero_le _, rfl, Lib.hid ⟨rfl, Fr.refl _ _⟩⟩
      case round =>
        obtain ⟨i, hi1, rfl, Hi⟩ := hrel
        have hO1 := hO.fr Hi.out.2 (fun x => x)
        have e0 := hO1.cell 0 rfl
        have e1 := hO1.cell 1 rfl
        by_cases hlt : i < p
        · obtain ⟨gb, ob, rfl, cb⟩ := (Hl.out.no (f0.tr Hi.out.2)).get i (by rw [← Hl.out.len]; exact hlt)
          obtain ⟨gc, oc, rfl, cc⟩ := (Hh.out.no (f0.tr Hi.out.2)).get i (by rw [← Hh.out.len]; exact hlt)
          have k1 := leL_no lo hi i (by rw [← Hl.out.len]; exact hlt) (by rw [← Hh.out.len]; exact hlt)
          have k2 := leL_on lo hi i (by rw [← Hl.out.len]; exact hlt) (by rw [← Hh.out.len]; exact hlt)
          generalize lo.getD i 0 = y at *
          generalize hi.getD i 0 = z at *
          by_cases hxy : y ≤ z
          · have K := Lib.hid ((k2 hxy).symm.trans Hi.out.1)
            clear k1 k2
            go_wp2
            go_quiet (fail)
            go_wp2
            go_roundw
            case rel => exact ⟨i + 1, by omega, by go_num, Lib.hid ⟨K.out, Hi.out.2.drewN _⟩⟩
            case measure => simp [intOf]; omega
          · have K := Lib.hid (k1 hxy)
            clear k1 k2
            go_wp2
            go_quiet (fail)
            go_wp2
            go_ret
            rw [HE.out, ← Hi.out.1, K.out]
            exact ⟨rfl, f0.tr (Hi.out.2.drewN _)⟩
        · have K := Lib.hid (leL_end lo hi i (by have := Hl.out.len; omega) (by have := Hh.out.len; omega))
          go_wp2
          go_ret
          rw [HE.out, ← Hi.out.1, K.out]
          exact ⟨rfl, f0.tr Hi.out.2⟩
    · have hc1 : chk p d = 1 := by unfold chk at hc2 ⊢; split at hc2 <;> simp_all
      have e : chkB lo hi d = 1 := by
        have h3 : leL lo hi = false := leL_len lo hi (fun x => hc2 (by have := Hl.out.len; have := Hh.out.len; have e : p = m := by omega
                                                                       rw [e]; exact hc))
        unfold chkB; rw [h3]; simp
      rw [e]
      clear e hc2
      go_enter Try.func23, Try.ntmps23
      go_wp2_with (first
        | (go_at_call 16; ((with_reducible refine (rcheck_any B _ _ _ _).mono ?_); rintro e w' ⟨rfl, rfl⟩; rw [hc]))
        | (go_at_call 16; ((with_reducible refine (rcheck_any C _ _ _ _).mono ?_); rintro e w' ⟨rfl, rfl⟩; rw [hc1])))
      go_ret
      exact ⟨rfl, f0⟩
  · have e : chkB lo hi d = 1 := by unfold chkB; rw [← Hl.out.len, if_neg (fun x => hc x.1)]
    have hc1 : chk m d = 1 := by unfold chk at hc ⊢; split at hc <;> simp_all
    rw [e]
    clear e hc
    go_enter Try.func23, Try.ntmps23
    go_wp2_with (go_at_call 16; ((with_reducible refine (rcheck_any _ _ _ _ _).mono ?_); rintro e w' ⟨rfl, rfl⟩; rw [hc1]))
    go_ret
    exact ⟨rfl, f0⟩
end
end Go.Proofs.Ytifpigcgkpmheaa.Kh08
/- Layer 8, further: coordinates put together. -/
namespace Go.Proofs.Ytifpigcgkpmheaa.Ki08
open Go.RowKit Go.Proofs.Ytifpigcgkpmheaa.Pk08 Go.Proofs.Ytifpigcgkpmheaa.Base Go.Proofs.Ytifpigcgkpmheaa.App Go.Proofs.Ytifpigcgkpmheaa.Str Go.Proofs.Ytifpigcgkpmheaa.Ky Go.Proofs.Ytifpigcgkpmheaa.Kc08 Go.Proofs.Ytifpigcgkpmheaa.Kd08
set_option linter.unusedVariables false
set_option linter.unusedSimpArgs false
theorem info_u32 : (Try.prog.info? 47).map (fun i => (i.zero, i.size, i.bytes)) = some (some (.int .u32 0), 1, 4) := by kernel_rfl
/-- The first i put together, of n. -/
def zipTo (f : Nat → Nat → Nat) (a b : List Nat) (i n : Nat) : List Nat := (List.range n).map (fun j => if j < i then f (a.getD j 0) (b.getD j 0) else 0)
def zipL (f : Nat → Nat → Nat) (a b : List Nat) : List Nat := (List.range a.length).map (fun j => f (a.getD j 0) (b.getD j 0))
theorem zipTo_zero (f : Nat → Nat → Nat) (a b : List Nat) (n : Nat) : zipTo f a b 0 n = List.replicate n 0 := by
  apply List.ext_getElem <;> simp [zipTo]
theorem zipTo_succ (f : Nat → Nat → Nat) (a b : List Nat) (i n : Nat) : (zipTo f a b i n).set i (f (a.getD i 0) (b.getD i 0)) = zipTo f a b (i + 1) n := by
  apply List.ext_getElem
  · simp [zipTo]
  · intro j h1 h2
    rw [List.getElem_set]
    simp only [zipTo, List.getElem_map, List.getElem_range]
    by_cases e : i = j
    · subst e; rw [if_pos rfl, if_pos (by omega)]
    · rw [if_neg e]
      by_cases h : j < i
      · rw [if_pos h, if_pos (by omega)]
      · rw [if_neg h, if_neg (by omega)]
theorem zipTo_all (f : Nat → Nat → Nat) (a b : List Nat) : zipTo f a b a.length a.length = zipL f a b := by
  unfold zipTo zipL
  exact List.map_congr_left fun j hj => if_pos (List.mem_range.1 hj)
theorem zipTo_len (f : Nat → Nat → Nat) (a b : List Nat) (i n : Nat) : (zipTo f a b i n).length = n := by simp [zipTo]
theorem zipL_len (f : Nat → Nat → Nat) (a b : List Nat) : (zipL f a b).length = a.length := by simp [zipL]
theorem zipL_lt (f : Nat → Nat → Nat) (hf : ∀ x y, x < 4294967296 → y < 4294967296 → f x y < 4294967296) {w : World} {A B : Option Addr} {n m c d : Nat} {a b : List Nat} (ha : Kv w A n c a) (hb : Kv w B m d b) : ∀ x ∈ zipL f a b, x < 4294967296 := by
  intro x hx
  obtain ⟨j, _, rfl⟩ := List.mem_map.1 hx
  exact hf _ _ (ha.ltD j) (hb.ltD j)
theorem cell_set {w : World} {p q : Addr} {u v : Value} (h : w.cell? p = some v) (hn : p.block ≠ q.block) : (w.setCell q u).cell? p = some v := by
  rw [World.cell?_of_block (w := w) (Below.heap_setCell w q u _ hn)]
  exact h
section
variable {w : World} {A B C D : Option Addr} {n m p q cn cm cp cq : Nat} {a b k lo hi : List Nat}
end
end Go.Proofs.Ytifpigcgkpmheaa.Ki08
/- slices.Clone of a point. -/
namespace Go.Proofs.Ytifpigcgkpmheaa.Cl
open Go.RowKit Go.Proofs.Ytifpigcgkpmheaa.Base Go.Proofs.Ytifpigcgkpmheaa.App Go.Proofs.Ytifpigcgkpmheaa.Str Go.Proofs.Ytifpigcgkpmheaa.Ky Go.Proofs.Ytifpigcgkpmheaa.Bx Go.Proofs.Ytifpigcgkpmheaa.As Go.Proofs.Ytifpigcgkpmheaa.Ki08
set_option linter.unusedVariables false
set_option linter.unusedSimpArgs false
attribute [local go_sem ↓ high] builtin_app
theorem Fr.of_grown {W w1 : World} {A : Option Addr} {n c B : Nat} {base e size m : Nat} {xs : List Value} (hg : W.grownBy w1 (Value.slice A n c).ownBlock) (ho : W.ownsRow base e size (.slice A n c) m xs) (hB : ∀ k, (Value.slice A n c).ownBlock = some k → B ≤ k) {w : World} (hw : B = w.heap.size) (f : Fr No w W) : Fr No w w1 :=
  f.grown hg (fun k hk => .inr (by have := hB k hk; omega))
section
variable {w : World} {A : Option Addr} {n c : Nat} {ks : List Nat}
end
end Go.Proofs.Ytifpigcgkpmheaa.Cl
