/- Layer 5: the program's map read from bytes. -/
import Derived.Test.YthnahdoagibckaaFe05
import Derived.Test.YthnahdoagibckaaPd05
import Derived.Lib.AtoiErrMem
namespace Go.Proofs.Ythnahdoagibckaa.Fd05
open Go.RowKit Go.Proofs.Ythnahdoagibckaa.Pl05 Go.Proofs.Ythnahdoagibckaa.Pm05 Go.Proofs.Ythnahdoagibckaa.Pn05 Go.Proofs.Ythnahdoagibckaa.Pd05 Go.Proofs.Ythnahdoagibckaa.Base Go.Proofs.Ythnahdoagibckaa.App Go.Proofs.Ythnahdoagibckaa.Str Go.Proofs.Ythnahdoagibckaa.Wa05 Go.Proofs.Ythnahdoagibckaa.Fr05 Go.Proofs.Ythnahdoagibckaa.Fn05 Go.Proofs.Ythnahdoagibckaa.Cl05 Go.Proofs.Ythnahdoagibckaa.Fe05
set_option linter.unusedVariables false
set_option linter.unusedSimpArgs false

/-- Words being filled. -/
structure AtW (w : World) (g b cap : Nat) (p : Nat) (ws : List Nat) : Prop where
  ob : Ob w g #[.int .i64 (p : Int), .slice (some ⟨b, 0, none⟩) ws.length cap] 51
  own : w.ownsRow 0 48 1 (.slice (some ⟨b, 0, none⟩) ws.length cap) ws.length (words ws)
  ne : g ≠ b
section
variable {S : Nat → Prop} {w w1 : World} {g b cap p : Nat} {ws : List Nat} {bs : List Bool}
theorem At.toW (h : At w g b cap ws bs) : AtW w g b cap bs.length ws := ⟨h.ob, h.own, h.ne⟩
theorem AtW.toAt (h : AtW w g b cap bs.length ws) (hr : Rel ws bs) (h1 : bs.length ≤ 1000) (h2 : 1 ≤ bs.length) : At w g b cap ws bs := ⟨h.ob, h.own, h.ne, hr, h1, h2⟩
theorem AtW.c1 (h : AtW w g b cap p ws) : w.cell? ⟨g, 1, none⟩ = some (.slice (some ⟨b, 0, none⟩) ws.length cap) := h.ob.cell 1 rfl
theorem AtW.cw (h : AtW w g b cap p ws) (i : Nat) (hi : i < ws.length) : w.cell? ⟨b, i, none⟩ = some (.int .u64 ((ws.getD i 0 : Nat) : Int)) :=
  (h.own.cellAt i (by omega)).trans (words_get ws i hi)
theorem AtW.fw (h : AtW w g b cap p ws) (i : Nat) : w.frozen? ⟨b, i, none⟩ = false := h.own.frozenAt i
theorem AtW.fr (h : AtW w g b cap p ws) (f : Fr S w w1) (hg : ¬ S g) (hb : ¬ S b) : AtW w1 g b cap p ws :=
  ⟨h.ob.fr f hg, own_fr h.own f (fun k hk => by simp [Value.ownBlock] at hk; subst hk; exact hb), h.ne⟩
theorem AtW.no (h : AtW w g b cap p ws) (f : Fr No w w1) : AtW w1 g b cap p ws := h.fr f (fun x => x) (fun x => x)
theorem AtW.put (h : AtW w g b cap p ws) (k c : Nat) : AtW (w.setCell ⟨b, k / 8, none⟩ (.int .u64 ((ws.getD (k / 8) 0 ||| c * 2 ^ (8 * (7 - k % 8)) : Nat) : Int))) g b cap p (putW ws k c) := by
  have hs := (h.own.stored (k / 8) (.int .u64 ((ws.getD (k / 8) 0 ||| c * 2 ^ (8 * (7 - k % 8)) : Nat) : Int))).1
  rw [words_set] at hs
  have lw : (putW ws k c).length = ws.length := by simp [putW]
  exact ⟨by rw [lw]; exact h.ob.other h.ne _, by rw [lw]; exact hs, h.ne⟩
end
theorem str_at (s : ByteArray) (i : Nat) (h : i < s.size) : (s[i]'h).toNat = byteS s i := by
  unfold byteS
  have h' : i < s.data.toList.length := by rw [Array.length_toList]; exact h
  rw [List.getD_eq_getElem?_getD, List.getElem?_eq_getElem h']
  rfl
/-- What Decode comes to. -/
def DecPost (w : World) (p : Int) (s : ByteArray) (e : Ending) (w' : World) : Prop :=
  (1 ≤ p ∧ p ≤ 1000 ∧ encS (bitsOf p.toNat s) = s ∧ ∃ g b, e = .returned (.tuple #[.pointer (some ⟨g, 0, none⟩), .int .i64 0]) ∧ Map w' g b (bitsOf p.toNat s) ∧ w.heap.size ≤ g ∧ w.heap.size ≤ b ∧ Fr No w w') ∨
  (¬ (1 ≤ p ∧ p ≤ 1000) ∧ e = .returned (.tuple #[.pointer none, .int .i64 1]) ∧ Fr No w w') ∨
  (1 ≤ p ∧ p ≤ 1000 ∧ encS (bitsOf p.toNat s) ≠ s ∧ e = .returned (.tuple #[.pointer none, .int .i64 6]) ∧ Fr No w w')
theorem dec_bad (p : Int) (s : ByteArray) (w : World) (h : ¬ (1 ≤ p ∧ p ≤ 1000)) :
    Calls Try.prog 9 #[.int .i64 p, .string s] w (DecPost w p s) := by
  have hn : ¬ newOk p 0 := fun x => h ⟨x.1, x.2.1⟩
  go_enter Try.func9, Try.ntmps9
  go_wp2_with (go_at_call 14; ((with_reducible refine (new_bad _ _ _ hn).mono ?_); rintro e w' ⟨rfl, rfl⟩))
  go_ret2
  exact .inr (.inl ⟨h, rfl, Fr.refl _ _⟩)
/-- What holds at a round's head. -/
def Round (w w1 wr : World) (g b p : Nat) (s : ByteArray) (k : Nat) : Prop :=
  ∃ cap ws, AtW wr g b cap p ws ∧ Part ws s k ((p + 63) / 64) ∧ Fr No w wr ∧ ∀ j, j < s.size → wr.cell? ⟨w1.heap.size, j, none⟩ = some (.int .u8 (byteS s j : Int))
theorem round_start (w w1 : World) (g b p : Nat) (s : ByteArray) (hs : s.size ≤ 9223372036854775807) (hm : Map w1 g b (newB p 0)) (hf : Fr No w w1) : Round w w1 (Lib.bytesWorld w1 5 s) g b p s 0 := by
  obtain ⟨cap, ws, ha⟩ := hm
  have f2 : Fr No w1 (Lib.bytesWorld w1 5 s) := Fr.ofBelow (Lib.bytesWorld_below _ _ _)
  have hw := (At.toW ha).no f2
  rw [newB_len] at hw
  refine ⟨cap, ws, hw, Part.start p s ws _ ha.rel (by unfold newB; congr 1), hf.tr f2, fun j hj => ?_⟩
  exact Lib.bytesWorld_cell w1 5 s j hj
theorem round_next (w w1 wr : World) (g b cap p : Nat) (s : ByteArray) (k : Nat) (ws : List Nat) (v : Value) (hg : w.heap.size ≤ g) (hb : w.heap.size ≤ b) (hb1 : b < w1.heap.size)
    (hp : AtW (wr.setCell ⟨b, k / 8, none⟩ v) g b cap p ws) (hn : Part ws s (k + 1) ((p + 63) / 64)) (hf : Fr No w wr) (hB : ∀ j, j < s.size → wr.cell? ⟨w1.heap.size, j, none⟩ = some (.int .u8 (byteS s j : Int))) :
    Round w w1 (wr.setCell ⟨b, k / 8, none⟩ v).drew g b p s (k + 1) := by
  refine ⟨cap, _, hp.no ((Fr.refl No _).drew), hn, (hf.setCell (p := ⟨b, k / 8, none⟩) (.inr hb) v).drew, fun j hj => ?_⟩
  rw [← hB j hj]
  exact World.cell?_of_block (w := wr) (Below.heap_setCell wr ⟨b, k / 8, none⟩ v w1.heap.size (by show w1.heap.size ≠ b; omega))
theorem round_end (w w1 wr : World) (g b p : Nat) (s : ByteArray) (h1 : 1 ≤ p) (h2 : p ≤ 1000) (hg : w.heap.size ≤ g) (hb : w.heap.size ≤ b) (hs : 1 ≤ s.size) (h : Round w w1 wr g b p s s.size) (ho : okS p s) :
    DecPost w p s (.returned (.tuple #[.pointer (some ⟨g, 0, none⟩), .int .i64 0])) wr := by
  obtain ⟨cap, ws, hA, hP, hF, hB⟩ := h
  have hr := hP.rel h1 ho
  have hl : (bitsOf p s).length = p := bitsOf_len p s
  refine .inl ⟨by omega, by omega, ?_, g, b, rfl, ?_, hg, hb, hF⟩
  · rw [Int.toNat_natCast]; exact (okS_iff p h1 s).2 ho
  · rw [Int.toNat_natCast]
    have hA' : AtW wr g b cap (bitsOf p s).length ws := by rw [hl]; exact hA
    exact ⟨cap, ws, hA'.toAt hr (by omega) (by omega)⟩
theorem new_ok0 (p : Nat) (w : World) (h1 : 1 ≤ p) (h2 : p ≤ 1000) :
    Calls Try.prog 14 #[.int .i64 p, .int .i64 0] w fun e w' => ∃ g b, e = .returned (.tuple #[.pointer (some ⟨g, 0, none⟩), .int .i64 0]) ∧ Map w' g b (newB p 0) ∧ w.heap.size ≤ g ∧ w.heap.size ≤ b ∧ Fr No w w' :=
  new_ok p 0 w ⟨by omega, by omega, by omega, by omega⟩
theorem dec_size (p : Nat) (s : ByteArray) (w : World) (h1 : 1 ≤ p) (h2 : p ≤ 1000) (hs : s.size ≤ 140737488351232) (hne : s.size ≠ (p + 7) / 8) :
    Calls Try.prog 9 #[.int .i64 p, .string s] w (DecPost w p s) := by
  have hb1 : (((s.size : Int)) != ((p : Int) + 7) / 8) = true := by rw [bne_iff_ne]; omega
  have hne2 : encS (bitsOf (p : Int).toNat s) ≠ s := by
    rw [Int.toNat_natCast]
    intro e
    have := (okS_iff p h1 s).1 e
    exact hne this.1
  have Hne := Lib.hid hne2
  clear hne2 hne
  go_enter Try.func9, Try.ntmps9
  go_wp2_with (go_at_call 14; ((with_reducible refine (new_ok0 _ _ h1 h2).mono ?_); rintro e w' ⟨g, b, rfl, hm, hg, hb, hf⟩))
  go_ret2
  exact .inr (.inr ⟨by omega, by omega, Hne.out, rfl, hf⟩)
set_option maxHeartbeats 800000 in
theorem dec_in (p : Nat) (s : ByteArray) (w : World) (h1 : 1 ≤ p) (h2 : p ≤ 1000) (hsz : s.size = (p + 7) / 8) :
    Calls Try.prog 9 #[.int .i64 p, .string s] w (DecPost w p s) := by
  have hb1 : (((s.size : Int)) != ((p : Int) + 7) / 8) = false := by rw [bne_eq_false_iff_eq]; omega
  have hok := okS_iff p h1 s
  have hs2 : s.size ≤ 125 := by omega
  have Hsz := Lib.hid hsz
  have Hok := Lib.hid hok
  have kb := fun W => Lib.run_convert_string_bytes (P := Try.prog) W 9 47 5 s Try.underlying9 Try.underlying47 Try.underlying5
  clear hsz hok
  go_enter Try.func9, Try.ntmps9
  go_wp2_with (go_at_call 14; ((with_reducible refine (new_ok0 _ _ h1 h2).mono ?_); rintro e w1 ⟨g, b, rfl, hm, hg, hb, hf⟩))
  have Hf := Lib.hid hf
  have Hm := Lib.hid hm
  have hb1 : b < w1.heap.size := by
    obtain ⟨cap, ws, ha⟩ := hm
    exact ha.lt.2
  clear hf hm
  go_loopw [28] (fun i wr => ∃ k : Nat, k ≤ s.size ∧ i = .int .i64 k ∧ Hid (Round w w1 wr g b p s k)) (fun i _ => s.size - (intOf i).toNat)
  case atStart => exact ⟨0, Nat.zero_le _, rfl, Lib.hid (round_start w w1 g b p s (by omega) Hm.out Hf.out)⟩
  case round =>
    obtain ⟨k, hk, rfl, Hr⟩ := hrel
    by_cases hlt : k < s.size
    · obtain ⟨cap, ws, hA, hP, hF, hB⟩ := Hr.out
      have c1 := hA.c1
      have hL : k / 8 < ws.length := by have := hP.len; have := Hsz.out; omega
      have cw := hA.cw (k / 8) hL
      have fw := hA.fw (k / 8)
      have cb := hB k hlt
      have hc := byteS_lt s k
      have hx := getD_lt hP.lt (k / 8)
      have hp := hA.put k (byteS s k)
      have hnx := hP.next (by rw [← hP.len]; exact hL)
      have ho := w64_or (ws.getD (k / 8) 0) (byteS s k * 2 ^ (8 * (7 - k % 8))) hx (shift_lt _ _ hc)
      have hw := wrap_u64_nat (byteS s k * 2 ^ (8 * (7 - k % 8))) (shift_lt _ _ hc)
      generalize ws.getD (k / 8) 0 = x at *
      generalize byteS s k = c at *
      have Hp := Lib.hid hp
      have Hnx := Lib.hid hnx
      have Ho := Lib.hid ho
      have Hw := Lib.hid hw
      have HF := Lib.hid hF
      have HB := Lib.hid hB
      clear hp hnx ho hw hF hB hP hA hx Hr
      go_wp2
      go_region
      go_wp2
      have e1 : (c : Int) * 2 ^ (8 * (7 - k % 8)) = ((c * 2 ^ (8 * (7 - k % 8)) : Nat) : Int) := by simp
      have e2 : bits BinOp.or IntKind.u64 (x : Int) (IntKind.u64.wrap ((c : Int) * 2 ^ (8 * (7 - k % 8)))) = ((x ||| c * 2 ^ (8 * (7 - k % 8)) : Nat) : Int) := by rw [e1, Hw.out, Ho.out]
      go_roundw
      case rel =>
        rw [e2]
        exact ⟨k + 1, by omega, by go_num, Lib.hid (round_next w w1 wr g b cap p s k _ _ hg hb hb1 Hp.out Hnx.out HF.out HB.out)⟩
      case measure => simp [intOf]; omega
    · obtain rfl : k = s.size := by omega
      have hidx : ∀ W : World, (Instr.index 9 (.string s) (.int .i64 ((s.size : Int) - 1))).run Try.prog W = .ok (.int .u8 (byteS s (s.size - 1) : Int)) W := by
        intro W
        have hi : s.size - 1 < s.size := by have := Hsz.out; omega
        have e : ((s.size : Int) - 1) = ((s.size - 1 : Nat) : Int) := by have := Hsz.out; omega
        rw [e, run_index_string _ _ _ _ _ Try.underlying9]
        simp [hi, str_at s (s.size - 1) hi]
      have hc := byteS_lt s (s.size - 1)
      have Hidx := Lib.hid hidx
      clear hidx
      by_cases hr : 0 < p % 8
      · have hidx := Hidx.out
        have Hd : Hid (okS p s ↔ (byteS s (s.size - 1) * 2 ^ (p % 8)) % 256 = 0) := Lib.hid ⟨fun x => x.2 hr, fun x => ⟨Hsz.out, fun _ => x⟩⟩
        generalize byteS s (s.size - 1) = c at *
        have hr2 : (0 : Int) < (p : Int) % 8 := by omega
        have hz0 : ((c : Int) * 2 ^ (p % 8) % 256) = ((c * 2 ^ (p % 8) % 256 : Nat) : Int) := by simp
        by_cases hz : c * 2 ^ (p % 8) % 256 = 0
        · have hz1 : ((c : Int) * 2 ^ (p % 8) % 256 != 0) = false := by rw [hz0, hz]; rfl
          have Ho := Lib.hid (Hd.out.2 hz)
          clear hz0 hz
          go_wp2
          go_ret2
          exact round_end w w1 wr g b p s h1 h2 hg hb (by have := Hsz.out; omega) Hr.out Ho.out
        · have hz1 : ((c : Int) * 2 ^ (p % 8) % 256 != 0) = true := by rw [hz0, bne_iff_ne]; omega
          have Hn : Hid (¬ okS p s) := Lib.hid (fun x => hz (Hd.out.1 x))
          clear hz0 hz
          go_wp2
          go_ret2
          obtain ⟨_, _, _, _, hF, _⟩ := Hr.out
          exact .inr (.inr ⟨by omega, by omega, by rw [Int.toNat_natCast]; exact fun x => Hn.out (Hok.out.1 x), rfl, hF⟩)
      · have hr2 : ¬ ((0 : Int) < (p : Int) % 8) := by omega
        have ho : okS p s := ⟨Hsz.out, fun x => absurd x hr⟩
        have Ho := Lib.hid ho
        clear ho
        go_wp2
        go_ret2
        exact round_end w w1 wr g b p s h1 h2 hg hb (by have := Hsz.out; omega) Hr.out Ho.out
theorem decode_any (p : Int) (s : ByteArray) (w : World) (hs : s.size ≤ 140737488351232) :
    Calls Try.prog 9 #[.int .i64 p, .string s] w (DecPost w p s) := by
  by_cases h : 1 ≤ p ∧ p ≤ 1000
  · obtain ⟨m, rfl⟩ := Int.eq_ofNat_of_zero_le (show 0 ≤ p by omega)
    by_cases hz : s.size = (m + 7) / 8
    · exact dec_in m s w (by omega) (by omega) hz
    · exact dec_size m s w (by omega) (by omega) hs hz
  · exact dec_bad p s w h
end Go.Proofs.Ythnahdoagibckaa.Fd05
