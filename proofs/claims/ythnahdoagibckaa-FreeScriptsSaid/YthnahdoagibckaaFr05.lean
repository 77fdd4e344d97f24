/- Layer 5: the program's map of free pages, function by function. -/
import Derived.Test.YthnahdoagibckaaProg
import Derived.Test.YthnahdoagibckaaWa05
import Derived.Test.YthnahdoagibckaaPm05
import Derived.Test.YthnahdoagibckaaBase
import Derived.WalkKit
import Derived.RowKit3
import Derived.WalkSpells
import Derived.BigQuiet
import Derived.Deep.QuietTactic
import Derived.WideLaws
import Derived.LaidEqlPtr
import Derived.Lib.Hide
namespace Go.Proofs.Ythnahdoagibckaa.Fr05
open Go.RowKit Go.Proofs.Ythnahdoagibckaa.Pl05 Go.Proofs.Ythnahdoagibckaa.Pm05 Go.Proofs.Ythnahdoagibckaa.Base Go.Proofs.Ythnahdoagibckaa.Wa05
set_option linter.unusedVariables false
set_option linter.unusedSimpArgs false

def words (ws : List Nat) : List Value := ws.map fun (x : Nat) => .int .u64 (x : Int)
theorem words_get (ws : List Nat) (i : Nat) (h : i < ws.length) : (words ws)[i]? = some (.int .u64 ((ws.getD i 0 : Nat) : Int)) := by
  simp [words, List.getD_eq_getElem?_getD, h]
theorem words_set (ws : List Nat) (i x : Nat) : (words ws).set i (.int .u64 (x : Int)) = words (ws.set i x) := by simp [words, List.map_set]
theorem words_len (ws : List Nat) : (words ws).length = ws.length := by simp [words]

/-- The map that lies at g, its words at b: which pages are taken. -/
structure At (w : World) (g b cap : Nat) (ws : List Nat) (bs : List Bool) : Prop where
  ob : Ob w g #[.int .i64 (bs.length : Int), .slice (some ⟨b, 0, none⟩) ws.length cap] 51
  own : w.ownsRow 0 48 1 (.slice (some ⟨b, 0, none⟩) ws.length cap) ws.length (words ws)
  ne : g ≠ b
  rel : Rel ws bs
  most : bs.length ≤ 1000
  least : 1 ≤ bs.length
def Map (w : World) (g b : Nat) (bs : List Bool) : Prop := ∃ cap ws, At w g b cap ws bs

section
variable {S : Nat → Prop} {w w1 : World} {g b cap : Nat} {ws : List Nat} {bs : List Bool}
theorem At.c0 (h : At w g b cap ws bs) : w.cell? ⟨g, 0, none⟩ = some (.int .i64 (bs.length : Int)) := h.ob.cell 0 rfl
theorem At.c1 (h : At w g b cap ws bs) : w.cell? ⟨g, 1, none⟩ = some (.slice (some ⟨b, 0, none⟩) ws.length cap) := h.ob.cell 1 rfl
theorem At.cw (h : At w g b cap ws bs) (i : Nat) (hi : i < ws.length) : w.cell? ⟨b, i, none⟩ = some (.int .u64 ((ws.getD i 0 : Nat) : Int)) :=
  (h.own.cellAt i (by omega)).trans (words_get ws i hi)
theorem At.fw (h : At w g b cap ws bs) (i : Nat) : w.frozen? ⟨b, i, none⟩ = false := h.own.frozenAt i
theorem At.lt (h : At w g b cap ws bs) : g < w.heap.size ∧ b < w.heap.size := ⟨h.ob.lt, (h.own.lt b rfl).2⟩
theorem At.fr (h : At w g b cap ws bs) (f : Fr S w w1) (hg : ¬ S g) (hb : ¬ S b) : At w1 g b cap ws bs :=
  ⟨h.ob.fr f hg, own_fr h.own f (fun k hk => by simp [Value.ownBlock] at hk; subst hk; exact hb), h.ne, h.rel, h.most, h.least⟩
theorem At.drew (h : At w g b cap ws bs) : At w.drew g b cap ws bs := h.fr ((Fr.refl No w).drew) (fun x => x) (fun x => x)
theorem Map.fr (h : Map w g b bs) (f : Fr S w w1) (hg : ¬ S g) (hb : ¬ S b) : Map w1 g b bs := by
  obtain ⟨cap, ws, h⟩ := h
  exact ⟨cap, ws, h.fr f hg hb⟩
theorem At.len (h : At w g b cap ws bs) : ws.length = (bs.length + 63) / 64 ∧ ws.length ≤ 16 := by
  have := h.rel.len
  have := h.most
  omega
end

/-! ### has, Is -/
theorem has_nil (n : Int) (w : World) :
    Calls Try.prog 29 #[.pointer none, .int .i64 n] w fun e w' => e = .returned (.bool false) ∧ w = w' := by
  go_enter Try.func29, Try.ntmps29
  go_wp2
  go_ret
  exact ⟨rfl, rfl⟩
theorem has_at (g : Nat) (n p : Int) (w : World) (hc : w.cell? ⟨g, 0, none⟩ = some (.int .i64 p)) :
    Calls Try.prog 29 #[.pointer (some ⟨g, 0, none⟩), .int .i64 n] w fun e w' => e = .returned (.bool (decide (0 ≤ n ∧ n < p))) ∧ w = w' := by
  by_cases h : 0 ≤ n
  · go_enter Try.func29, Try.ntmps29
    go_wp2
    go_ret
    exact ⟨by simp [h], rfl⟩
  · have hd : decide (0 ≤ n) = false := by simpa using h
    go_enter Try.func29, Try.ntmps29
    go_wp2
    go_ret
    exact ⟨by simp [h], rfl⟩

/-- Is page n taken? -/
def isB (bs : List Bool) (n : Int) : Bool := decide (0 ≤ n) && bs.getD n.toNat false
theorem isB_out (bs : List Bool) (n : Int) (h : ¬ (0 ≤ n ∧ n < bs.length)) : isB bs n = false := by
  unfold isB
  by_cases h0 : 0 ≤ n
  · have : bs.length ≤ n.toNat := by omega
    simp [List.getD_eq_getElem?_getD, List.getElem?_eq_none this]
  · simp [h0]

theorem is_nil (n : Int) (w : World) :
    Calls Try.prog 16 #[.pointer none, .int .i64 n] w fun e w' => e = .returned (.bool false) ∧ w = w' := by
  go_enter Try.func16, Try.ntmps16
  go_wp2_with (go_at_call 29; refine (has_nil _ _).mono ?_; rintro e w' ⟨rfl, rfl⟩)
  go_ret
  exact ⟨rfl, rfl⟩
theorem bit_is (x j : Nat) (hj : j < 64) (hx : x < 2 ^ 64) : (bits .and .u64 ((x : Int) / 2 ^ j) 1 == 1) = x.testBit j := by
  have e : ((x : Int) / 2 ^ j) = ((x / 2 ^ j : Nat) : Int) := by simp
  have l : x / 2 ^ j < 2 ^ 64 := Nat.lt_of_le_of_lt (Nat.div_le_self _ _) hx
  have e2 := w64_and (x / 2 ^ j) 1 l (by decide)
  have e3 : bits .and .u64 ((x : Int) / 2 ^ j) 1 = ((x / 2 ^ j &&& 1 : Nat) : Int) := by rw [e]; exact e2
  rw [e3, Nat.and_one_is_mod, Nat.testBit_eq_decide_div_mod_eq]
  rcases Nat.mod_two_eq_zero_or_one (x / 2 ^ j) with h | h <;> simp [h]
set_option maxHeartbeats 400000 in
theorem is_at (g b cap : Nat) (ws : List Nat) (bs : List Bool) (n : Int) (w : World) (h : At w g b cap ws bs) :
    Calls Try.prog 16 #[.pointer (some ⟨g, 0, none⟩), .int .i64 n] w fun e w' => e = .returned (.bool (isB bs n)) ∧ w = w' := by
  have c0 := h.c0
  by_cases hn : 0 ≤ n ∧ n < bs.length
  · have hl := h.len
    have hm := h.most
    have c1 := h.c1
    have hi : n / 64 < (ws.length : Int) := by omega
    have e1 : (n / 64).toNat = n.toNat / 64 := by omega
    have e2 : (63 - n % 64).toNat = 63 - n.toNat % 64 := by omega
    have hx := getD_lt h.rel.lt (n.toNat / 64)
    have hb := h.rel.bit n.toNat
    unfold bitAt at hb
    have cw : w.cell? ⟨b, (n / 64).toNat, none⟩ = some (.int .u64 ((ws.getD (n.toNat / 64) 0 : Nat) : Int)) := by rw [e1]; exact h.cw _ (by omega)
    generalize ws.getD (n.toNat / 64) 0 = x at *
    have hd : decide ((0 : Int) ≤ n ∧ n < bs.length) = true := decide_eq_true hn
    have h0 : n % 64 ≤ 63 := by omega
    have h1 : 0 ≤ n % 64 := by omega
    obtain ⟨hn0, hn1⟩ := hn
    have He2 := Lib.hid e2
    have Hb := Lib.hid hb
    have Hx := Lib.hid hx
    clear e1 e2 hl hb hx h
    go_enter Try.func16, Try.ntmps16
    go_wp2_with (go_at_call 29; refine (has_at _ _ _ _ c0).mono ?_; rintro e w' ⟨rfl, rfl⟩; rw [hd])
    go_ret
    refine ⟨?_, rfl⟩
    show Ending.returned (Value.bool (bits BinOp.and IntKind.u64 ((x : Int) / 2 ^ (63 - n % 64).toNat) 1 == 1)) = _
    rw [He2.out, bit_is x _ (by omega) Hx.out, Hb.out]
    unfold isB
    rw [decide_eq_true hn0, Bool.true_and]
  · have hd : decide (0 ≤ n ∧ n < bs.length) = false := decide_eq_false hn
    have ho := isB_out bs n hn
    rw [ho]
    clear ho h
    go_enter Try.func16, Try.ntmps16
    go_wp2_with (go_at_call 29; refine (has_at _ _ _ _ c0).mono ?_; rintro e w' ⟨rfl, rfl⟩; rw [hd])
    go_ret
    exact ⟨rfl, rfl⟩

/-! ### turn -/
def flipB (bs : List Bool) (n : Nat) : List Bool := bs.set n (!bs.getD n false)
def flipW (ws : List Nat) (n : Nat) : List Nat := ws.set (n / 64) (ws.getD (n / 64) 0 ^^^ 2 ^ (63 - n % 64))
theorem At.flip {w : World} {g b cap : Nat} {ws : List Nat} {bs : List Bool} (h : At w g b cap ws bs) (n : Nat) (hn : n < bs.length) :
    At (w.setCell ⟨b, n / 64, none⟩ (.int .u64 ((ws.getD (n / 64) 0 ^^^ 2 ^ (63 - n % 64) : Nat) : Int))) g b cap (flipW ws n) (flipB bs n) := by
  have hs := (h.own.stored (n / 64) (.int .u64 ((ws.getD (n / 64) 0 ^^^ 2 ^ (63 - n % 64) : Nat) : Int))).1
  rw [words_set] at hs
  have lw : (flipW ws n).length = ws.length := by simp [flipW]
  have lb : (flipB bs n).length = bs.length := by simp [flipB]
  refine ⟨by rw [lw, lb]; exact h.ob.other h.ne _, by rw [lw]; exact hs, h.ne, h.rel.flip n hn, by rw [lb]; exact h.most, by rw [lb]; exact h.least⟩

set_option maxHeartbeats 400000 in
theorem turn_at (g b : Nat) (bs : List Bool) (n : Int) (w : World) (h : Map w g b bs) (h0 : 0 ≤ n) (h1 : n < bs.length) :
    Calls Try.prog 27 #[.pointer (some ⟨g, 0, none⟩), .int .i64 n] w fun e w' => e = .returned (.tuple #[]) ∧ Map w' g b (flipB bs n.toNat) ∧ Fr (fun k => k = b) w w' := by
  obtain ⟨cap, ws, h⟩ := h
  have hl := h.len
  have hm := h.most
  have hfin := h.flip n.toNat (by omega)
  have c1 := h.c1
  have hi : n / 64 < (ws.length : Int) := by omega
  have e1 : (n / 64).toNat = n.toNat / 64 := by omega
  have e2 : (63 - n % 64).toNat = 63 - n.toNat % 64 := by omega
  have hx := getD_lt h.rel.lt (n.toNat / 64)
  have cw : w.cell? ⟨b, (n / 64).toNat, none⟩ = some (.int .u64 ((ws.getD (n.toNat / 64) 0 : Nat) : Int)) := by rw [e1]; exact h.cw _ (by omega)
  have fw : w.frozen? ⟨b, (n / 64).toNat, none⟩ = false := h.fw _
  generalize hxe : ws.getD (n.toNat / 64) 0 = x at *
  have h2 : n % 64 ≤ 63 := by omega
  have h3 : 0 ≤ n % 64 := by omega
  have hp : IntKind.u64.wrap (2 ^ (63 - n % 64).toNat) = ((2 ^ (63 - n.toNat % 64) : Nat) : Int) := by
    rw [e2, ← wrap_u64_nat (2 ^ (63 - n.toNat % 64)) (Nat.pow_lt_pow_right (by decide) (by omega))]
    simp
  have hq : bits .xor .u64 (x : Int) ((2 ^ (63 - n.toNat % 64) : Nat) : Int) = ((x ^^^ 2 ^ (63 - n.toNat % 64) : Nat) : Int) := w64_xor _ _ hx (Nat.pow_lt_pow_right (by decide) (by omega))
  have Hp := Lib.hid hp
  have Hq := Lib.hid hq
  have He := Lib.hid e1
  have Hf := Lib.hid hfin
  clear hp hq e1 e2 hfin h hxe hx hl
  go_enter Try.func27, Try.ntmps27
  go_wp2
  go_region
  go_end0
  rw [Hp.out, Hq.out, He.out]
  have hf := Hf.out
  exact ⟨rfl, ⟨cap, _, hf.drew⟩, ((Fr.refl (fun k => k = b) w).setCell (p := ⟨b, n.toNat / 64, none⟩) (.inl rfl) _).drew⟩

/-! ### Mark, Give -/
def markC (bs : List Bool) (n : Int) : Int := if 0 ≤ n ∧ n < bs.length ∧ isB bs n = false then 0 else 1
def markB (bs : List Bool) (n : Int) : List Bool := if markC bs n = 0 then flipB bs n.toNat else bs
def giveC (bs : List Bool) (n : Int) : Int := if isB bs n = true then 0 else 1
def giveB (bs : List Bool) (n : Int) : List Bool := if giveC bs n = 0 then flipB bs n.toNat else bs
theorem isB_in (bs : List Bool) (n : Int) (h : isB bs n = true) : 0 ≤ n ∧ n < bs.length := by
  by_cases hh : 0 ≤ n ∧ n < bs.length
  · exact hh
  · rw [isB_out bs n hh] at h; cases h
theorem mark_nil (n : Int) (w : World) :
    Calls Try.prog 18 #[.pointer none, .int .i64 n] w fun e w' => e = .returned (.int .i64 1) ∧ w = w' := by
  go_enter Try.func18, Try.ntmps18
  go_wp2_with (go_at_call 29; refine (has_nil _ _).mono ?_; rintro e w' ⟨rfl, rfl⟩)
  go_ret
  exact ⟨rfl, rfl⟩
theorem give_nil (n : Int) (w : World) :
    Calls Try.prog 17 #[.pointer none, .int .i64 n] w fun e w' => e = .returned (.int .i64 1) ∧ w = w' := by
  go_enter Try.func17, Try.ntmps17
  go_wp2_with (go_at_call 16; refine (is_nil _ _).mono ?_; rintro e w' ⟨rfl, rfl⟩)
  go_ret
  exact ⟨rfl, rfl⟩
set_option maxHeartbeats 400000 in
theorem give_at (g b : Nat) (bs : List Bool) (n : Int) (w : World) (h : Map w g b bs) :
    Calls Try.prog 17 #[.pointer (some ⟨g, 0, none⟩), .int .i64 n] w fun e w' => e = .returned (.int .i64 (giveC bs n)) ∧ Map w' g b (giveB bs n) ∧ Fr (fun k => k = b) w w' := by
  obtain ⟨cap, ws, ha⟩ := h
  cases hi : isB bs n with
  | false =>
    have e1 : giveC bs n = 1 := by simp [giveC, hi]
    have e2 : giveB bs n = bs := by simp [giveB, e1]
    rw [e1, e2]
    clear e1 e2
    go_enter Try.func17, Try.ntmps17
    go_wp2_with (go_at_call 16; refine (is_at _ _ _ _ _ _ _ ha).mono ?_; rintro e w' ⟨rfl, rfl⟩; rw [hi])
    go_ret
    exact ⟨rfl, ⟨cap, ws, ha⟩, Fr.refl _ _⟩
  | true =>
    have e1 : giveC bs n = 0 := by simp [giveC, hi]
    have e2 : giveB bs n = flipB bs n.toNat := by simp [giveB, e1]
    obtain ⟨h0, h1⟩ := isB_in bs n hi
    rw [e1, e2]
    clear e1 e2
    go_enter Try.func17, Try.ntmps17
    go_wp2_with (first | (go_at_call 16; refine (is_at _ _ _ _ _ _ _ ha).mono ?_; rintro e w' ⟨rfl, rfl⟩; rw [hi]) | (go_at_call 27; refine (turn_at _ _ _ _ _ ⟨cap, ws, ha⟩ h0 h1).mono ?_; rintro e w' ⟨rfl, hm', hf'⟩))
    go_ret
    exact ⟨rfl, hm', hf'⟩
set_option maxHeartbeats 400000 in
theorem mark_at (g b : Nat) (bs : List Bool) (n : Int) (w : World) (h : Map w g b bs) :
    Calls Try.prog 18 #[.pointer (some ⟨g, 0, none⟩), .int .i64 n] w fun e w' => e = .returned (.int .i64 (markC bs n)) ∧ Map w' g b (markB bs n) ∧ Fr (fun k => k = b) w w' := by
  obtain ⟨cap, ws, ha⟩ := h
  have c0 := ha.c0
  by_cases hn : 0 ≤ n ∧ n < bs.length
  · have hd : decide (0 ≤ n ∧ n < bs.length) = true := decide_eq_true hn
    cases hi : isB bs n with
    | true =>
      have e1 : markC bs n = 1 := by simp [markC, hi]
      have e2 : markB bs n = bs := by simp [markB, e1]
      rw [e1, e2]
      clear e1 e2 hn
      go_enter Try.func18, Try.ntmps18
      go_wp2_with (first | (go_at_call 29; refine (has_at _ _ _ _ c0).mono ?_; rintro e w' ⟨rfl, rfl⟩; rw [hd]) | (go_at_call 16; refine (is_at _ _ _ _ _ _ _ ha).mono ?_; rintro e w' ⟨rfl, rfl⟩; rw [hi]))
      go_ret
      exact ⟨rfl, ⟨cap, ws, ha⟩, Fr.refl _ _⟩
    | false =>
      have e1 : markC bs n = 0 := by simp [markC, hi, hn]
      have e2 : markB bs n = flipB bs n.toNat := by simp [markB, e1]
      obtain ⟨h0, h1⟩ := hn
      rw [e1, e2]
      clear e1 e2
      go_enter Try.func18, Try.ntmps18
      go_wp2_with (first | (go_at_call 29; refine (has_at _ _ _ _ c0).mono ?_; rintro e w' ⟨rfl, rfl⟩; rw [hd]) | (go_at_call 16; refine (is_at _ _ _ _ _ _ _ ha).mono ?_; rintro e w' ⟨rfl, rfl⟩; rw [hi]) | (go_at_call 27; refine (turn_at _ _ _ _ _ ⟨cap, ws, ha⟩ h0 h1).mono ?_; rintro e w' ⟨rfl, hm', hf'⟩))
      go_ret
      exact ⟨rfl, hm', hf'⟩
  · have hd : decide (0 ≤ n ∧ n < bs.length) = false := decide_eq_false hn
    have e1 : markC bs n = 1 := by unfold markC; rw [if_neg (fun x => hn ⟨x.1, x.2.1⟩)]
    have e2 : markB bs n = bs := by simp [markB, e1]
    rw [e1, e2]
    clear e1 e2 hn
    go_enter Try.func18, Try.ntmps18
    go_wp2_with (go_at_call 29; refine (has_at _ _ _ _ c0).mono ?_; rintro e w' ⟨rfl, rfl⟩; rw [hd])
    go_ret
    exact ⟨rfl, ⟨cap, ws, ha⟩, Fr.refl _ _⟩
end Go.Proofs.Ythnahdoagibckaa.Fr05
