/- Layer 5: the document's map of free pages, function by function. -/
import Derived.Test.YthnahdoagibckaaFn05
import Derived.Test.YthnahdoagibckaaStr
namespace Go.Proofs.Ythnahdoagibckaa.Rr05
open Go.RowKit Go.Proofs.Ythnahdoagibckaa.Pl05 Go.Proofs.Ythnahdoagibckaa.Pm05 Go.Proofs.Ythnahdoagibckaa.Base Go.Proofs.Ythnahdoagibckaa.App Go.Proofs.Ythnahdoagibckaa.Str Go.Proofs.Ythnahdoagibckaa.Fr05 Go.Proofs.Ythnahdoagibckaa.Fs05 Go.Proofs.Ythnahdoagibckaa.Fn05
set_option linter.unusedVariables false
set_option linter.unusedSimpArgs false

def bls (bs : List Bool) : List Value := bs.map Value.bool
theorem bls_len (bs : List Bool) : (bls bs).length = bs.length := by simp [bls]
theorem bls_get (bs : List Bool) (i : Nat) (h : i < bs.length) : (bls bs)[i]? = some (.bool (bs.getD i false)) := by simp [bls, List.getD_eq_getElem?_getD, h]
theorem bls_set (bs : List Bool) (i : Nat) (x : Bool) : (bls bs).set i (.bool x) = bls (bs.set i x) := by simp [bls, List.map_set]
theorem info_bool : (Try.prog.info? 4).map (fun i => (i.zero, i.size, i.bytes)) = some (some (.bool false), 1, 1) := by kernel_rfl

/-- The document's map at g, its row at b. -/
structure At (w : World) (g b cap : Nat) (bs : List Bool) : Prop where
  ob : Ob w g #[.slice (some ⟨b, 0, none⟩) bs.length cap] 55
  own : w.ownsRow 0 4 1 (.slice (some ⟨b, 0, none⟩) bs.length cap) bs.length (bls bs)
  ne : g ≠ b
  most : bs.length ≤ 1000
  least : 1 ≤ bs.length
def RMap (w : World) (g b : Nat) (bs : List Bool) : Prop := ∃ cap, At w g b cap bs
section
variable {S : Nat → Prop} {w w1 : World} {g b cap : Nat} {bs : List Bool}
theorem At.c0 (h : At w g b cap bs) : w.cell? ⟨g, 0, none⟩ = some (.slice (some ⟨b, 0, none⟩) bs.length cap) := h.ob.cell 0 rfl
theorem At.cb (h : At w g b cap bs) (i : Nat) (hi : i < bs.length) : w.cell? ⟨b, i, none⟩ = some (.bool (bs.getD i false)) := (h.own.cellAt i (by omega)).trans (bls_get bs i hi)
theorem At.fb (h : At w g b cap bs) (i : Nat) : w.frozen? ⟨b, i, none⟩ = false := h.own.frozenAt i
theorem At.lt (h : At w g b cap bs) : g < w.heap.size ∧ b < w.heap.size := ⟨h.ob.lt, (h.own.lt b rfl).2⟩
theorem At.fr (h : At w g b cap bs) (f : Fr S w w1) (hg : ¬ S g) (hb : ¬ S b) : At w1 g b cap bs :=
  ⟨h.ob.fr f hg, own_fr h.own f (fun k hk => by simp [Value.ownBlock] at hk; subst hk; exact hb), h.ne, h.most, h.least⟩
theorem RMap.fr (h : RMap w g b bs) (f : Fr S w w1) (hg : ¬ S g) (hb : ¬ S b) : RMap w1 g b bs := by
  obtain ⟨cap, h⟩ := h
  exact ⟨cap, h.fr f hg hb⟩
theorem At.put (h : At w g b cap bs) (i : Nat) (x : Bool) : At (w.setCell ⟨b, i, none⟩ (.bool x)) g b cap (bs.set i x) := by
  have hs := (h.own.stored i (.bool x)).1
  rw [bls_set] at hs
  have lb : (bs.set i x).length = bs.length := by simp
  exact ⟨by rw [lb]; exact h.ob.other h.ne _, by rw [lb]; exact hs, h.ne, by rw [lb]; exact h.most, by rw [lb]; exact h.least⟩
end
theorem flip_true (bs : List Bool) (n : Nat) (h : bs.getD n false = false) : flipB bs n = bs.set n true := by unfold flipB; rw [h]; rfl
theorem flip_false (bs : List Bool) (n : Nat) (h : bs.getD n false = true) : flipB bs n = bs.set n false := by unfold flipB; rw [h]; rfl

/-! ### Is -/
set_option maxHeartbeats 400000 in
theorem is_at (g b cap : Nat) (bs : List Bool) (n : Int) (w : World) (h : At w g b cap bs) :
    Calls Try.prog 25 #[.pointer (some ⟨g, 0, none⟩), .int .i64 n] w fun e w' => e = .returned (.bool (isB bs n)) ∧ w = w' := by
  have c0 := h.c0
  by_cases h0 : 0 ≤ n
  · by_cases h1 : n < bs.length
    · have hb := h.cb n.toNat (by omega)
      have e : isB bs n = bs.getD n.toNat false := by simp [isB, h0]
      rw [e]
      generalize bs.getD n.toNat false = x at *
      clear h e
      cases x <;>
      · go_enter Try.func25, Try.ntmps25
        go_wp2
        go_ret
        exact ⟨rfl, rfl⟩
    · have hd : decide (n < (bs.length : Int)) = false := decide_eq_false h1
      rw [isB_out bs n (fun x => h1 x.2)]
      clear h
      go_enter Try.func25, Try.ntmps25
      go_wp2
      go_ret
      exact ⟨rfl, rfl⟩
  · have hd : decide (0 ≤ n) = false := decide_eq_false h0
    rw [isB_out bs n (fun x => h0 x.1)]
    clear h
    go_enter Try.func25, Try.ntmps25
    go_wp2
    go_ret
    exact ⟨rfl, rfl⟩

/-! ### Left -/
def frees (bs : List Bool) (k : Nat) : Nat := cnt (fun i => !bs.getD i false) k
theorem frees_succ (bs : List Bool) (k : Nat) : frees bs (k + 1) = frees bs k + (!bs.getD k false).toNat := rfl
theorem cnt_not (f : Nat → Bool) (n : Nat) : cnt (fun i => !f i) n + cnt f n = n := by
  induction n with
  | zero => rfl
  | succ n ih => simp only [cnt]; cases f n <;> simp <;> omega
theorem frees_all (bs : List Bool) : frees bs bs.length = bs.length - taken bs := by
  have := cnt_not (fun n => bs.getD n false) bs.length
  rw [cnt_list] at this
  unfold frees
  omega
theorem frees_le (bs : List Bool) (k : Nat) : frees bs k ≤ k := by have := cnt_not (fun n => bs.getD n false) k; unfold frees; omega
attribute [local irreducible] frees taken
set_option maxHeartbeats 800000 in
theorem left_at (g b : Nat) (bs : List Bool) (w : World) (h : RMap w g b bs) :
    Calls Try.prog 13 #[.pointer (some ⟨g, 0, none⟩)] w fun e w' => e = .returned (.int .i64 ((bs.length - taken bs : Nat) : Int)) ∧ w = w' := by
  obtain ⟨cap, ha⟩ := h
  have c0 := ha.c0
  have hm := ha.most
  have Ha := Lib.hid ha
  have Hs := Lib.hid (frees_all bs)
  have hz : frees bs 0 = 0 := by have := frees_le bs 0; omega
  have Hz := Lib.hid hz
  clear ha hz
  go_enter Try.func13, Try.ntmps13
  go_wp2
  go_loop [3, 4] (fun n i => ∃ k : Nat, k ≤ bs.length ∧ i = .int .i64 k ∧ n = .int .i64 (frees bs k : Int)) (fun _ i => bs.length - (intOf i).toNat)
  case atStart => exact ⟨0, Nat.zero_le _, rfl, by rw [Hz.out]; rfl⟩
  case round =>
    obtain ⟨k, hk, rfl, rfl⟩ := hrel
    have hfl := frees_le bs k
    by_cases hlt : k < bs.length
    · have cb := Ha.out.cb k hlt
      have Hp := Lib.hid (frees_succ bs k)
      generalize bs.getD k false = x at *
      cases x with
      | true =>
        go_wp2
        go_round
        case rel => exact ⟨k + 1, by omega, by go_num, by rw [Hp.out]; exact congrArg (Value.int .i64) (by simp)⟩
        case measure => simp [intOf]; omega
      | false =>
        go_wp2
        go_round
        case rel => exact ⟨k + 1, by omega, by go_num, by rw [Hp.out]; exact congrArg (Value.int .i64) (by simp)⟩
        case measure => simp [intOf]; omega
    · obtain rfl : k = bs.length := by omega
      go_wp2
      go_ret
      refine ⟨?_, rfl⟩
      show Ending.returned (Value.int IntKind.i64 (frees bs bs.length : Int)) = _
      rw [Hs.out]

/-! ### Take -/
set_option maxHeartbeats 800000 in
theorem take_at (g b : Nat) (bs : List Bool) (w : World) (h : RMap w g b bs) :
    Calls Try.prog 22 #[.pointer (some ⟨g, 0, none⟩)] w fun e w' => e = .returned (.tuple #[.int .i64 (takeN bs), .int .i64 (takeE bs)]) ∧ RMap w' g b (takeB bs) ∧ Fr (fun k => k = b) w w' := by
  obtain ⟨cap, ha⟩ := h
  have c0 := ha.c0
  have hm := ha.most
  have Ha := Lib.hid ha
  clear ha
  go_enter Try.func22, Try.ntmps22
  go_wp2
  go_loop [4] (fun i => ∃ k : Nat, k ≤ bs.length ∧ i = .int .i64 k ∧ Hid (∀ m, m < k → bs.getD m false = true)) (fun i => bs.length - (intOf i).toNat)
  case atStart => exact ⟨0, Nat.zero_le _, rfl, Lib.hid (fun m hm => by omega)⟩
  case round =>
    obtain ⟨k, hk, rfl, Hk⟩ := hrel
    by_cases hlt : k < bs.length
    · have cb := Ha.out.cb k hlt
      have fb := Ha.out.fb k
      cases hx : bs.getD k false with
      | true =>
        rw [hx] at cb
        have Hn : Hid (∀ m, m < k + 1 → bs.getD m false = true) := Lib.hid (fun m hm => by
          by_cases e : m = k
          · rw [e]; exact hx
          · exact Hk.out m (by omega))
        clear hx
        go_wp2
        go_round
        case rel => exact ⟨k + 1, by omega, by go_num, Hn⟩
        case measure => simp [intOf]; omega
      | false =>
        rw [hx] at cb
        have hfr : free bs = some k := free_of bs k hlt hx Hk.out
        have hp := Ha.out.put k true
        rw [← flip_true bs k hx] at hp
        have E1 := Lib.hid (show takeN bs = (k : Int) by simp [takeN, hfr])
        have E2 := Lib.hid (show takeE bs = 0 by simp [takeE, hfr])
        have E3 := Lib.hid (show takeB bs = flipB bs k by simp [takeB, hfr])
        have Hp := Lib.hid hp
        clear hx hfr hp
        go_wp2
        go_ret2
        rw [E1.out, E2.out, E3.out]
        exact ⟨rfl, ⟨cap, Hp.out⟩, (Fr.refl (fun k => k = b) w).setCell (p := ⟨b, k, none⟩) (.inl rfl) _⟩
    · obtain rfl : k = bs.length := by omega
      have hfr : free bs = none := free_none bs Hk.out
      have E1 := Lib.hid (show takeN bs = 0 by simp [takeN, hfr])
      have E2 := Lib.hid (show takeE bs = 2 by simp [takeE, hfr])
      have E3 := Lib.hid (show takeB bs = bs by simp [takeB, hfr])
      clear hfr
      go_wp2
      go_ret2
      rw [E1.out, E2.out, E3.out]
      exact ⟨rfl, ⟨cap, Ha.out⟩, Fr.refl _ _⟩

/-! ### Mark, Give -/
set_option maxHeartbeats 800000 in
theorem mark_at (g b : Nat) (bs : List Bool) (n : Int) (w : World) (h : RMap w g b bs) :
    Calls Try.prog 23 #[.pointer (some ⟨g, 0, none⟩), .int .i64 n] w fun e w' => e = .returned (.int .i64 (markC bs n)) ∧ RMap w' g b (markB bs n) ∧ Fr (fun k => k = b) w w' := by
  obtain ⟨cap, ha⟩ := h
  have c0 := ha.c0
  have Ha := Lib.hid ha
  by_cases hn : 0 ≤ n ∧ n < bs.length
  · have cb := ha.cb n.toNat (by omega)
    have fb := ha.fb n.toNat
    have hp := ha.put n.toNat true
    have hi : isB bs n = bs.getD n.toNat false := by simp [isB, hn.1]
    clear ha
    cases hx : bs.getD n.toNat false with
    | true =>
      have hi3 := hi.trans hx
      have e1 : markC bs n = 1 := by unfold markC; rw [if_neg (fun x => by rw [hi3] at x; cases x.2.2)]
      have e2 : markB bs n = bs := by simp [markB, e1]
      rw [e1, e2]
      rw [hx] at cb
      obtain ⟨h0, h1⟩ := hn
      have h0' : decide (n < 0) = false := decide_eq_false (by omega)
      clear e1 e2 hx hi hp hi3
      go_enter Try.func23, Try.ntmps23
      go_wp2
      go_ret
      exact ⟨rfl, ⟨cap, Ha.out⟩, Fr.refl _ _⟩
    | false =>
      have hi3 := hi.trans hx
      have e1 : markC bs n = 0 := by unfold markC; rw [if_pos ⟨hn.1, hn.2, hi3⟩]
      have e2 : markB bs n = flipB bs n.toNat := by simp [markB, e1]
      rw [e1, e2]
      rw [hx] at cb
      rw [← flip_true bs n.toNat hx] at hp
      obtain ⟨h0, h1⟩ := hn
      have h0' : decide (n < 0) = false := decide_eq_false (by omega)
      have Hp := Lib.hid hp
      clear e1 e2 hx hi hp hi3
      go_enter Try.func23, Try.ntmps23
      go_wp2
      go_ret
      exact ⟨rfl, ⟨cap, Hp.out⟩, (Fr.refl (fun k => k = b) w).setCell (p := ⟨b, n.toNat, none⟩) (.inl rfl) _⟩
  · have e1 : markC bs n = 1 := by unfold markC; rw [if_neg (fun x => hn ⟨x.1, x.2.1⟩)]
    have e2 : markB bs n = bs := by simp [markB, e1]
    rw [e1, e2]
    clear e1 e2 ha
    by_cases h0 : n < 0
    · clear hn
      go_enter Try.func23, Try.ntmps23
      go_wp2
      go_ret
      exact ⟨rfl, ⟨cap, Ha.out⟩, Fr.refl _ _⟩
    · have h1 : (bs.length : Int) ≤ n := by omega
      have h0' : decide (n < 0) = false := decide_eq_false h0
      clear hn
      go_enter Try.func23, Try.ntmps23
      go_wp2
      go_ret
      exact ⟨rfl, ⟨cap, Ha.out⟩, Fr.refl _ _⟩
set_option maxHeartbeats 800000 in
theorem give_at (g b : Nat) (bs : List Bool) (n : Int) (w : World) (h : RMap w g b bs) :
    Calls Try.prog 24 #[.pointer (some ⟨g, 0, none⟩), .int .i64 n] w fun e w' => e = .returned (.int .i64 (giveC bs n)) ∧ RMap w' g b (giveB bs n) ∧ Fr (fun k => k = b) w w' := by
  obtain ⟨cap, ha⟩ := h
  have Ha := Lib.hid ha
  cases hi : isB bs n with
  | false =>
    have e1 : giveC bs n = 1 := by simp [giveC, hi]
    have e2 : giveB bs n = bs := by simp [giveB, e1]
    rw [e1, e2]
    clear e1 e2
    go_enter Try.func24, Try.ntmps24
    go_wp2_with (go_at_call 25; ((with_reducible refine (is_at _ _ _ _ _ _ ha).mono ?_); rintro e w' ⟨rfl, rfl⟩; rw [hi]))
    go_ret
    exact ⟨rfl, ⟨cap, ha⟩, Fr.refl _ _⟩
  | true =>
    have e1 : giveC bs n = 0 := by simp [giveC, hi]
    have e2 : giveB bs n = flipB bs n.toNat := by simp [giveB, e1]
    obtain ⟨h0, h1⟩ := isB_in bs n hi
    rw [e1, e2]
    have c0 := ha.c0
    have cb := ha.cb n.toNat (by omega)
    have fb := ha.fb n.toNat
    have hp := ha.put n.toNat false
    have hi2 : isB bs n = bs.getD n.toNat false := by simp [isB, h0]
    rw [hi] at hi2
    rw [← flip_false bs n.toNat hi2.symm] at hp
    have Hp := Lib.hid hp
    have Hi := Lib.hid hi
    clear e1 e2 hp hi2 hi ha
    go_enter Try.func24, Try.ntmps24
    go_wp2_with (go_at_call 25; ((with_reducible refine (is_at _ _ _ _ _ _ Ha.out).mono ?_); rintro e w' ⟨rfl, rfl⟩; rw [Hi.out]))
    go_ret
    exact ⟨rfl, ⟨cap, Hp.out⟩, (Fr.refl (fun k => k = b) w).setCell (p := ⟨b, n.toNat, none⟩) (.inl rfl) _⟩
end Go.Proofs.Ythnahdoagibckaa.Rr05
