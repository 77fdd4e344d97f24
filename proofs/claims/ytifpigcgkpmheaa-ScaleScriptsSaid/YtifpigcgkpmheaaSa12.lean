/- Layer 12: rising numbers: where one stands; Go's searches in them. -/
import Derived.Test.YtifpigcgkpmheaaIc
import Derived.StillTailTactics
namespace Go.Proofs.Ytifpigcgkpmheaa.Sa12
open Go.RowKit Go.Proofs.Ytifpigcgkpmheaa.Base Go.Proofs.Ytifpigcgkpmheaa.App Go.Proofs.Ytifpigcgkpmheaa.Str Go.Proofs.Ytifpigcgkpmheaa.Ky Go.Proofs.Ytifpigcgkpmheaa.Bx Go.Proofs.Ytifpigcgkpmheaa.As Go.Proofs.Ytifpigcgkpmheaa.Ki08
set_option linter.unusedVariables false
set_option linter.unusedSimpArgs false
def Inc (l : List Nat) : Prop := l.Pairwise (fun x y => x < y)
/-- How many of them, from the first on, are at most n. -/
def itv : List Nat → Nat → Nat
  | [], _ => 0
  | x :: xs, n => if x ≤ n then itv xs n + 1 else 0
theorem itv_le (l : List Nat) (n : Nat) : itv l n ≤ l.length := by
  induction l with
  | nil => exact Nat.le_refl _
  | cons x xs ih => unfold itv; split <;> simp <;> omega
theorem itv_in (l : List Nat) (n : Nat) : ∀ i, i < itv l n → l.getD i 0 ≤ n := by
  induction l with
  | nil => intro i hi; simp [itv] at hi
  | cons x xs ih =>
    intro i hi
    unfold itv at hi
    split at hi
    · rename_i h
      rcases i with _ | i
      · simpa using h
      · simpa using ih i (by omega)
    · omega
theorem itv_at (l : List Nat) (n : Nat) (h : itv l n < l.length) : n < l.getD (itv l n) 0 := by
  induction l with
  | nil => simp at h
  | cons x xs ih =>
    unfold itv at h ⊢
    split
    · rename_i hr
      rw [if_pos hr] at h
      simpa using ih (by simpa using h)
    · rename_i hr
      simpa using hr
theorem itv_eq (l : List Nat) (n k : Nat) (hk : k ≤ l.length) (h1 : ∀ i, i < k → l.getD i 0 ≤ n) (h2 : k < l.length → n < l.getD k 0) : itv l n = k := by
  rcases Nat.lt_trichotomy (itv l n) k with h | h | h
  · have := itv_at l n (by omega)
    have := h1 _ h
    omega
  · exact h
  · have h3 := itv_le l n
    have := itv_in l n k h
    have := h2 (by omega)
    omega
/-- How many of them, from the first on, are below n. -/
def bpos : List Nat → Nat → Nat
  | [], _ => 0
  | x :: xs, n => if x < n then bpos xs n + 1 else 0
def bfnd (l : List Nat) (n : Nat) : Bool := decide (bpos l n < l.length ∧ l.getD (bpos l n) 0 = n)
theorem bpos_le (l : List Nat) (n : Nat) : bpos l n ≤ l.length := by
  induction l with
  | nil => exact Nat.le_refl _
  | cons x xs ih => unfold bpos; split <;> simp <;> omega
theorem bpos_in (l : List Nat) (n : Nat) : ∀ i, i < bpos l n → l.getD i 0 < n := by
  induction l with
  | nil => intro i hi; simp [bpos] at hi
  | cons x xs ih =>
    intro i hi
    unfold bpos at hi
    split at hi
    · rename_i h
      rcases i with _ | i
      · simpa using h
      · simpa using ih i (by omega)
    · omega
theorem bpos_at (l : List Nat) (n : Nat) (h : bpos l n < l.length) : n ≤ l.getD (bpos l n) 0 := by
  induction l with
  | nil => simp at h
  | cons x xs ih =>
    unfold bpos at h ⊢
    split
    · rename_i hr
      rw [if_pos hr] at h
      simpa using ih (by simpa using h)
    · rename_i hr
      simpa using hr
theorem bpos_eq (l : List Nat) (n k : Nat) (hk : k ≤ l.length) (h1 : ∀ i, i < k → l.getD i 0 < n) (h2 : k < l.length → n ≤ l.getD k 0) : bpos l n = k := by
  rcases Nat.lt_trichotomy (bpos l n) k with h | h | h
  · have := bpos_at l n (by omega)
    have := h1 _ h
    omega
  · exact h
  · have h3 := bpos_le l n
    have := bpos_in l n k h
    have := h2 (by omega)
    omega
theorem inc_lt {l : List Nat} (h : Inc l) {i j : Nat} (hij : i < j) (hj : j < l.length) : l.getD i 0 < l.getD j 0 := by
  have h1 := List.pairwise_iff_getElem.1 h i j (by omega) hj hij
  have h2 : i < l.length := by omega
  simpa [List.getD_eq_getElem?_getD, hj, h2] using h1
section
variable {w : World} {A : Option Addr} {n c : Nat} {l : List Nat} {x : Nat}
theorem less_any (x y : Nat) (w : World) : Calls Try.prog 71 #[.int .u32 (x : Int), .int .u32 (y : Int)] w fun e w' => e = .returned (.bool (decide (x < y))) ∧ w = w' := by
  go_enter Try.func71, Try.ntmps71
  go_wp2
  go_ret
  exact ⟨by simp, rfl⟩
theorem nan_any (x : Nat) (w : World) : Calls Try.prog 72 #[.int .u32 (x : Int)] w fun e w' => e = .returned (.bool false) ∧ w = w' := by
  go_enter Try.func72, Try.ntmps72
  go_wp2
  go_ret
  exact ⟨rfl, rfl⟩
set_option maxHeartbeats 800000 in
theorem index_any (hk : Kv w A n c l) : Calls Try.prog 64 #[.slice A n c, .int .u32 (x : Int)] w fun e w' => (∃ z : Int, e = .returned (.int .i64 z) ∧ decide (0 ≤ z) = decide (x ∈ l)) ∧ w = w' := by
  have Hk := Lib.hid hk
  have hcn := hk.cap
  have hcm := hk.most
  have hmx : maxLen ≤ 9223372036854775807 := by decide
  have HL := Lib.hid hk.len
  clear hk
  go_enter Try.func64, Try.ntmps64
  go_wp2
  go_loopw [8] (fun v wr => ∃ i : Nat, v = .int .i64 i ∧ i ≤ n ∧ Hid ((∀ j, j < i → l.getD j 0 ≠ x) ∧ w = wr)) (fun v _ => n - (intOf v).toNat)
  case atStart => exact ⟨0, rfl, Nat.zero_le _, Lib.hid ⟨fun j hj => by omega, rfl⟩⟩
  case round =>
    obtain ⟨i, rfl, hin, Hi⟩ := hrel
    obtain rfl := Hi.out.2
    by_cases hlt : i < n
    · obtain ⟨b, off, rfl, c0⟩ := Hk.out.get i (by rw [← HL.out]; exact hlt)
      have Hyes := Lib.hid (show l.getD i 0 = x → x ∈ l from fun h => by
        have hi : i < l.length := by rw [← HL.out]; exact hlt
        rw [← h, show l.getD i 0 = l[i] by simp [List.getD_eq_getElem?_getD, hi]]
        exact List.getElem_mem hi)
      have Hno := Lib.hid (show l.getD i 0 ≠ x → ∀ j, j < i + 1 → l.getD j 0 ≠ x from fun h j hj => by
        by_cases e : j = i
        · subst e; exact h
        · exact Hi.out.1 j (by omega))
      generalize l.getD i 0 = y at *
      by_cases hxy : y = x
      · have hm := Lib.hid (Hyes.out hxy)
        subst hxy
        go_wp2
        go_ret
        exact ⟨⟨i, rfl, by simp [hm.out]⟩, rfl⟩
      · have hm := Lib.hid (Hno.out hxy)
        have hne : ((x : Int) == (y : Int)) = false := by rw [beq_eq_false_iff_ne]; omega
        have hne2 : ¬ x = y := fun e => hxy e.symm
        go_wp2
        go_roundw
        case rel => exact ⟨i + 1, by go_num, hlt, Lib.hid ⟨hm.out, trivial⟩⟩
        case measure => simp [intOf]; omega
    · obtain rfl : i = n := by omega
      have hm := Lib.hid (show x ∉ l from fun h => by
        obtain ⟨j, hj, e⟩ := List.mem_iff_getElem.1 h
        exact Hi.out.1 j (by rw [HL.out]; exact hj) (by simp [List.getD_eq_getElem?_getD, hj, e]))
      go_wp2
      go_ret
      exact ⟨⟨-1, rfl, by simp [hm.out]⟩, rfl⟩
theorem contains_any (hk : Kv w A n c l) : Calls Try.prog 52 #[.slice A n c, .int .u32 (x : Int)] w fun e w' => e = .returned (.bool (decide (x ∈ l))) ∧ w = w' := by
  have HI := Lib.hid (index_any (x := x) hk)
  clear hk
  go_enter Try.func52, Try.ntmps52
  go_wp2_with (go_at_call 64; ((with_reducible refine HI.out.mono ?_); rintro e w1 ⟨⟨z, rfl, hz⟩, rfl⟩))
  go_ret
  exact ⟨by rw [← hz]; rfl, rfl⟩
set_option maxHeartbeats 1600000 in
theorem bsearch_any (hk : Kv w A n c l) (hs : Inc l) (hn1 : n ≤ 1000000) : Calls Try.prog 63 #[.slice A n c, .int .u32 (x : Int)] w fun e w' => e = .returned (.tuple #[.int .i64 ((bpos l x : Nat) : Int), .bool (bfnd l x)]) ∧ w = w' := by
  have Hk := Lib.hid hk
  have hcn := hk.cap
  have HL := Lib.hid hk.len
  have Hs := Lib.hid hs
  clear hk hs
  go_enter Try.func63, Try.ntmps63
  go_wp2
  go_loopw [7, 8] (fun u v wr => ∃ i j : Nat, u = .int .i64 i ∧ v = .int .i64 j ∧ Hid (i ≤ j ∧ j ≤ n ∧ (∀ y, y < i → l.getD y 0 < x) ∧ (∀ y, j ≤ y → y < n → x ≤ l.getD y 0) ∧ w = wr)) (fun u v _ => (intOf v).toNat - (intOf u).toNat)
  case atStart => exact ⟨0, n, rfl, rfl, Lib.hid ⟨Nat.zero_le _, Nat.le_refl _, fun j hj => by omega, fun y h1 h2 => by omega, rfl⟩⟩
  case round =>
    obtain ⟨i, j, rfl, rfl, Hi⟩ := hrel
    obtain rfl := Hi.out.2.2.2.2
    by_cases hlt : i < j
    · have hjn := Hi.out.2.1
      have hdv : ((i : Int) + (j : Int)) / 2 = (((i + j) / 2 : Nat) : Int) := by omega
      have hhi : i ≤ (i + j) / 2 := by omega
      have hhj : (i + j) / 2 < j := by omega
      generalize (i + j) / 2 = h at *
      obtain ⟨b, off, rfl, c0⟩ := Hk.out.get h (by rw [← HL.out]; omega)
      have Hlow := Lib.hid (show l.getD h 0 < x → ∀ y, y < h + 1 → l.getD y 0 < x from fun hc y hy => by
        by_cases e : y = h
        · subst e; exact hc
        · have := inc_lt Hs.out (i := y) (j := h) (by omega) (by rw [← HL.out]; omega); omega)
      have Hhigh := Lib.hid (show ¬ l.getD h 0 < x → ∀ y, h ≤ y → y < n → x ≤ l.getD y 0 from fun hc y hy hyn => by
        by_cases e : y = h
        · subst e; omega
        · have := inc_lt Hs.out (i := h) (j := y) (by omega) (by rw [← HL.out]; omega); omega)
      have Hjn := Lib.hid hjn
      generalize l.getD h 0 = y at *
      by_cases hc : y < x
      · have HLo := Lib.hid (Hlow.out hc)
        have hd : decide (y < x) = true := decide_eq_true hc
        go_wp2_with (go_at_call 71; ((with_reducible refine (less_any _ _ _).mono ?_); rintro e w5 ⟨rfl, rfl⟩; rw [hd]))
        go_roundw
        case rel => exact ⟨h + 1, j, by go_num, rfl, Lib.hid ⟨by omega, Hjn.out, HLo.out, Hi.out.2.2.2.1, trivial⟩⟩
        case measure => simp [intOf]; omega
      · have HH := Lib.hid (Hhigh.out hc)
        have hd : decide (y < x) = false := decide_eq_false hc
        go_wp2_with (go_at_call 71; ((with_reducible refine (less_any _ _ _).mono ?_); rintro e w5 ⟨rfl, rfl⟩; rw [hd]))
        go_roundw
        case rel => exact ⟨i, h, rfl, rfl, Lib.hid ⟨hhi, by omega, Hi.out.2.2.1, HH.out, trivial⟩⟩
        case measure => simp [intOf]; omega
    · obtain rfl : i = j := by have := Hi.out.1; omega
      have Hf := Lib.hid (show bpos l x = i from bpos_eq l x i (by rw [← HL.out]; exact Hi.out.2.1) Hi.out.2.2.1 (fun h => Hi.out.2.2.2.1 i (Nat.le_refl _) (by rw [HL.out]; exact h)))
      by_cases hlt2 : i < n
      · obtain ⟨b, off, rfl, c0⟩ := Hk.out.get i (by rw [← HL.out]; exact hlt2)
        have Hlt := Lib.hid (show i < l.length by rw [← HL.out]; exact hlt2)
        obtain ⟨y, hy⟩ : ∃ y, l.getD i 0 = y := ⟨_, rfl⟩
        rw [hy] at c0
        have Hy := Lib.hid hy
        clear hy
        by_cases hxy : y = x
        · subst hxy
          go_wp2_with (go_at_call 72; ((with_reducible refine (nan_any _ _).mono ?_); rintro e w5 ⟨rfl, rfl⟩))
          go_ret2
          exact ⟨by rw [Hf.out, show bfnd l y = true from by unfold bfnd; rw [Hf.out]; exact decide_eq_true ⟨Hlt.out, Hy.out⟩]; rfl, rfl⟩
        · have hne : ((y : Int) == (x : Int)) = false := by rw [beq_eq_false_iff_ne]; omega
          go_wp2_with (go_at_call 72; ((with_reducible refine (nan_any _ _).mono ?_); rintro e w5 ⟨rfl, rfl⟩))
          go_ret2
          exact ⟨by rw [Hf.out, show bfnd l x = false from by unfold bfnd; rw [Hf.out]; exact decide_eq_false (fun h => hxy (by rw [← Hy.out]; exact h.2))]; rfl, rfl⟩
      · have Hlt := Lib.hid (show ¬ i < l.length by rw [← HL.out]; exact hlt2)
        go_wp2
        go_ret2
        exact ⟨by rw [Hf.out, show bfnd l x = false from by unfold bfnd; rw [Hf.out]; exact decide_eq_false (fun h => Hlt.out h.1)]; rfl, rfl⟩
theorem itv_of {l : List Nat} (hs : Inc l) (x : Nat) : itv l x = if bfnd l x = true then bpos l x + 1 else bpos l x := by
  have h1 := bpos_le l x
  have h2 := bpos_in l x
  have h3 := bpos_at l x
  unfold bfnd
  generalize bpos l x = p at *
  split
  · rename_i h
    have h := of_decide_eq_true h
    refine itv_eq l x (p + 1) h.1 (fun i hi => ?_) (fun hp => ?_)
    · by_cases e : i = p
      · subst e; omega
      · have := h2 i (by omega); omega
    · have := inc_lt hs (i := p) (j := p + 1) (by omega) hp; omega
  · rename_i h
    have h : ¬ (p < l.length ∧ l.getD p 0 = x) := fun e => h (decide_eq_true e)
    refine itv_eq l x p h1 (fun i hi => Nat.le_of_lt (h2 i hi)) (fun hp => ?_)
    have := h3 hp
    have : l.getD p 0 ≠ x := fun e => h ⟨hp, e⟩
    omega
theorem interval_any (hk : Kv w A n c l) (hs : Inc l) (hn1 : n ≤ 1000000) : Calls Try.prog 48 #[.slice A n c, .int .u32 (x : Int)] w fun e w' => e = .returned (.int .i64 ((itv l x : Nat) : Int)) ∧ w = w' := by
  have HB := Lib.hid (bsearch_any (x := x) hk hs hn1)
  have hp1 : bpos l x ≤ 1000000 := by have := hk.len; have := bpos_le l x; omega
  rw [itv_of hs]
  clear hk hs
  generalize bpos l x = p at *
  cases hf : bfnd l x with
  | true =>
    rw [hf] at HB
    clear hf
    go_enter Try.func48, Try.ntmps48
    go_wp2_with (go_at_call 63; ((with_reducible refine HB.out.mono ?_); rintro e w1 ⟨rfl, rfl⟩))
    go_ret
    exact ⟨rfl, rfl⟩
  | false =>
    rw [hf] at HB
    clear hf
    go_enter Try.func48, Try.ntmps48
    go_wp2_with (go_at_call 63; ((with_reducible refine HB.out.mono ?_); rintro e w1 ⟨rfl, rfl⟩))
    go_ret
    exact ⟨rfl, rfl⟩
end
end Go.Proofs.Ytifpigcgkpmheaa.Sa12
