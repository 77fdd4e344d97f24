/- Layer 16: the box of an address, the program's. -/
import Derived.Test.YtoaikponefcbiaaHd16
import Derived.Test.YtoaikponefcbiaaKa08
import Derived.Test.YtoaikponefcbiaaKf08
namespace Go.Proofs.Ytoaikponefcbiaa.He16
open Go.RowKit Go.Proofs.Ytoaikponefcbiaa.Pk08 Go.Proofs.Ytoaikponefcbiaa.Base Go.Proofs.Ytoaikponefcbiaa.App Go.Proofs.Ytoaikponefcbiaa.Ky Go.Proofs.Ytoaikponefcbiaa.Bx Go.Proofs.Ytoaikponefcbiaa.Kk Go.Proofs.Ytoaikponefcbiaa.Bo Go.Proofs.Ytoaikponefcbiaa.Cl Go.Proofs.Ytoaikponefcbiaa.Pl08 Go.Proofs.Ytoaikponefcbiaa.Kc08 Go.Proofs.Ytoaikponefcbiaa.Kj08 Go.Proofs.Ytoaikponefcbiaa.Ka08 Go.Proofs.Ytoaikponefcbiaa.Px16 Go.Proofs.Ytoaikponefcbiaa.Py16 Go.Proofs.Ytoaikponefcbiaa.Ha16 Go.Proofs.Ytoaikponefcbiaa.Hb16 Go.Proofs.Ytoaikponefcbiaa.Hc16 Go.Proofs.Ytoaikponefcbiaa.Hd16
set_option linter.unusedVariables false
set_option linter.unusedSimpArgs false
/-- Two boxes are returned, halves of one: to be read. -/
def HalRd (w : World) (n : Nat) (lo1 hi1 lo2 hi2 : List Nat) (e : Ending) (w' : World) : Prop :=
  ∃ a ca b cb c cc d cd, e = .returned (.tuple #[.agg #[.slice (some ⟨a, 0, none⟩) n ca, .slice (some ⟨b, 0, none⟩) n cb], .agg #[.slice (some ⟨c, 0, none⟩) n cc, .slice (some ⟨d, 0, none⟩) n cd], .bool true]) ∧
    Kv w' (some ⟨a, 0, none⟩) n ca lo1 ∧ Kv w' (some ⟨b, 0, none⟩) n cb hi1 ∧ Kv w' (some ⟨c, 0, none⟩) n cc lo2 ∧ Kv w' (some ⟨d, 0, none⟩) n cd hi2 ∧
    (w.heap.size ≤ a ∧ a < w'.heap.size ∧ w.heap.size ≤ b ∧ b < w'.heap.size ∧ w.heap.size ≤ c ∧ c < w'.heap.size ∧ w.heap.size ≤ d ∧ d < w'.heap.size) ∧ Fr No w w'
theorem set_lt {l : List Nat} {j x : Nat} (hl : ∀ y ∈ l, y < 4294967296) (hx : x < 4294967296) : ∀ y ∈ l.set j x, y < 4294967296 := by
  intro y hy
  rcases List.mem_or_eq_of_mem_set hy with h | h
  · exact hl y h
  · omega
theorem i64_and_one (q : Nat) (hq : q < 9223372036854775808) : bits .and .i64 (q : Int) 1 = ((q % 2 : Nat) : Int) := by
  show IntKind.i64.wrap ((BitVec.ofInt 64 (q : Int) &&& BitVec.ofInt 64 ((1 : Nat) : Int)).toNat : Int) = _
  rw [BitVec.toNat_and, ofInt_u64 q (by omega), ofInt_u64 1 (by omega), Nat.and_one_is_mod]
  exact IntWalk.i64_in _ (by omega)
theorem test_bit {a m i : Nat} (ha : a < 4096) (hi : i < m) (b : Bool) (h : a / 2 ^ (m - (i + 1)) % 2 = b.toNat) : (bits .and .i64 ((a : Int) / 2 ^ (m - 1 - i)) 1 == 1) = b := by
  have e1 : m - 1 - i = m - (i + 1) := by omega
  have e2 : ((a : Int) / 2 ^ (m - (i + 1))) = ((a / 2 ^ (m - (i + 1)) : Nat) : Int) := by simp
  have l : a / 2 ^ (m - (i + 1)) ≤ a := Nat.div_le_self _ _
  rw [e1, e2, i64_and_one _ (by omega), h]
  cases b <;> rfl
section
variable {w : World} {A B : Option Addr} {n cn m cm : Nat} {lo hi : List Nat}
theorem mid_lt {j : Nat} (hl : Kv w A n cn lo) (hh : Kv w B m cm hi) (hb : wideB lo hi j = true) : midB lo hi j + 1 < 4294967296 := by
  unfold wideB at hb
  rw [Bool.and_eq_true, decide_eq_true_eq, Int.toNat_natCast] at hb
  have := hh.ltD j
  have := hb.2
  unfold midB
  omega
theorem halves_mod (i k : Nat) (hl : Kv w A n cn lo) (hh : Kv w B n cm hi) (hb : wideB lo hi ((i % k : Nat) : Int) = true) :
    Calls Try.prog 26 #[.agg #[.slice A n cn, .slice B n cm], .int .i64 ((i : Int) % (k : Int))] w (HalRd w n lo (hi.set (i % k) (midB lo hi (i % k))) (lo.set (i % k) (midB lo hi (i % k) + 1)) hi) := by
  have h := halves_yes (i % k) hl hh hb
  rw [Int.natCast_emod] at h
  refine h.mono ?_
  rintro e w' ⟨a, ca, b, cb, c, cc, d, cd, rfl, h1, h2, h3, h4, _, _, _, _, hf⟩
  have hm := mid_lt hl hh hb
  exact ⟨a, ca, b, cb, c, cc, d, cd, rfl, Kv.of_own h1 hl.lt, Kv.of_own h2 (set_lt hh.lt (by omega)), Kv.of_own h3 (set_lt hl.lt hm), Kv.of_own h4 hh.lt, ⟨(h1.lt a rfl).1, (h1.lt a rfl).2, (h2.lt b rfl).1, (h2.lt b rfl).2, (h3.lt c rfl).1, (h3.lt c rfl).2, (h4.lt d rfl).1, (h4.lt d rfl).2⟩, hf⟩
theorem rhalves_mod (i k : Nat) (hl : Kv w A n cn lo) (hh : Kv w B n cm hi) (hb : wideB lo hi ((i % k : Nat) : Int) = true) :
    Calls Try.prog 28 #[.agg #[.slice A n cn, .slice B n cm], .int .i64 ((i : Int) % (k : Int))] w (HalRd w n lo (hi.set (i % k) (midB lo hi (i % k))) (lo.set (i % k) (midB lo hi (i % k) + 1)) hi) := by
  have h := rhalves_yes (i % k) hl hh hb
  rw [Int.natCast_emod] at h
  refine h.mono ?_
  rintro e w' ⟨a, ca, b, cb, c, cc, d, cd, rfl, h1, h2, h3, h4, _, _, _, _, hf⟩
  have hm := mid_lt hl hh hb
  exact ⟨a, ca, b, cb, c, cc, d, cd, rfl, Kv.of_own h1 hl.lt, Kv.of_own h2 (set_lt hh.lt (by omega)), Kv.of_own h3 (set_lt hl.lt hm), Kv.of_own h4 hh.lt, ⟨(h1.lt a rfl).1, (h1.lt a rfl).2, (h2.lt b rfl).1, (h2.lt b rfl).2, (h3.lt c rfl).1, (h3.lt c rfl).2, (h4.lt d rfl).1, (h4.lt d rfl).2⟩, hf⟩
end
/-- From round to round: the box at g is that of the first i bits. -/
def Lb (w : World) (g d m a i : Nat) (wr : World) : Prop :=
  ∃ A ca B cb, Ob wr w.heap.size #[.slice none 0 0, .slice none 0 0] 28 ∧ Ob wr g #[.slice A d ca, .slice B d cb] 28 ∧
    Kv wr A d ca (bx d i (a / 2 ^ (m - i))).1 ∧ Kv wr B d cb (bx d i (a / 2 ^ (m - i))).2 ∧ Fr No w wr ∧ w.heap.size < g
/-- In a round: both halves stand. -/
def Mb (w wr : World) (g g1 g2 d : Nat) (a1 b1 a2 b2 : Nat) (c1 d1 c2 d2 : Nat) (C E : Value) (l1 h1 l2 h2 : List Nat) (wx : World) : Prop :=
  Ob wx w.heap.size #[.slice none 0 0, .slice none 0 0] 28 ∧ Ob wx g #[C, E] 28 ∧
  Ob wx g1 #[.slice (some ⟨a1, 0, none⟩) d c1, .slice (some ⟨b1, 0, none⟩) d d1] 28 ∧ Ob wx g2 #[.slice (some ⟨a2, 0, none⟩) d c2, .slice (some ⟨b2, 0, none⟩) d d2] 28 ∧
  Kv wx (some ⟨a1, 0, none⟩) d c1 l1 ∧ Kv wx (some ⟨b1, 0, none⟩) d d1 h1 ∧ Kv wx (some ⟨a2, 0, none⟩) d c2 l2 ∧ Kv wx (some ⟨b2, 0, none⟩) d d2 h2 ∧
  (g < a1 ∧ g < b1 ∧ g < a2 ∧ g < b2 ∧ g < g1 ∧ g < g2) ∧ Fr No w wx
section
variable {w : World}
set_option maxHeartbeats 3200000 in
theorem box_ok (d m a : Nat) (h1 : 1 ≤ d) (h6 : d ≤ 6) (hm : m ≤ 12) (ha : a < 2 ^ m) :
    Calls Try.prog 10 #[.int .i64 (d : Int), .int .i64 (m : Int), .int .i64 (a : Int)] w (BoxRet w (bx d m a).1 (bx d m a).2 (.int .i64 0)) := by
  have Had := Lib.hid (show adB m a = true from decide_eq_true ⟨by omega, by omega, by omega, by
    rw [Int.toNat_natCast]
    have : ((2 ^ m : Nat) : Int) = (2 : Int) ^ m := by simp
    omega⟩)
  have Ha := Lib.hid ha
  have ha2 : a < 4096 := Nat.lt_of_lt_of_le ha (Nat.pow_le_pow_right (show 0 < 2 by decide) hm)
  have Hlo := Lib.hid (show wLo (d : Int) = List.replicate d 0 by rw [wLo_in ⟨by omega, by omega⟩, Int.toNat_natCast])
  have Hhi := Lib.hid (show wHi (d : Int) = List.replicate d 4294967295 by rw [wHi_in ⟨by omega, by omega⟩, Int.toNat_natCast])
  clear ha
  go_enter Try.func10, Try.ntmps10
  go_wp2_with (first
    | (go_at_call 24; ((with_reducible refine (isAddress_any _ _ _).mono ?_); rintro e w1 ⟨rfl, rfl⟩; rw [Had.out]))
    | (go_at_call 25; ((with_reducible refine (whole_any _ _).mono ?_); rintro e w1 ⟨A0, n0, c0, B0, m0, d0, rfl, hl0, hh0, hf0⟩; rw [Hlo.out] at hl0; rw [Hhi.out] at hh0; obtain rfl : d = n0 := (by have := hl0.len; simp at this; omega); obtain rfl : d = m0 := (by have := hh0.len; simp at this; omega)))
    | fail)
  have hsz := hf0.size
  simp at hsz
  go_loopw [29] (fun v wr => ∃ i : Nat, i ≤ m ∧ v = .int .i64 i ∧ Hid (Lb w w1.heap.size d m a i wr)) (fun v _ => m - (intOf v).toNat)
  case atStart =>
    refine ⟨0, Nat.zero_le _, rfl, Lib.hid ⟨A0, c0, B0, d0, ?_, ?_, ?_, ?_, ?_, by omega⟩⟩
    · (repeat (first | with_reducible assumption | with_reducible refine Ob.other ?_ (by first | (simp; done) | (simp; omega)) _ | ((with_reducible refine Ob.new_ _ _ _ _ ?_) <;> (simp; done)) | with_reducible refine Ob.alloc ?_ _ | with_reducible refine Ob.drew ?_ | with_reducible refine Ob.drewN ?_ _ | with_reducible refine Ob.no ?_ (by assumption)))
    · (repeat (first | with_reducible assumption | with_reducible refine Ob.other ?_ (by first | (simp; done) | (simp; omega)) _ | ((with_reducible refine Ob.new_ _ _ _ _ ?_) <;> (simp; done)) | with_reducible refine Ob.alloc ?_ _ | with_reducible refine Ob.drew ?_ | with_reducible refine Ob.drewN ?_ _ | with_reducible refine Ob.no ?_ (by assumption)))
    · rw [bx_zero]; (repeat (first | with_reducible assumption | ((with_reducible refine Kv.lit_new _ _ _ _ _ _ ?_ ?_ ?_ ?_) <;> (first | (simp; done) | rfl | decide)) | with_reducible exact Kv.none_ _ | with_reducible refine Kv.alloc ?_ _ | with_reducible refine Kv.drew ?_ | with_reducible refine Kv.drewN ?_ _ | with_reducible refine Kv.no ?_ (by assumption)))
    · rw [bx_zero]; (repeat (first | with_reducible assumption | ((with_reducible refine Kv.lit_new _ _ _ _ _ _ ?_ ?_ ?_ ?_) <;> (first | (simp; done) | rfl | decide)) | with_reducible exact Kv.none_ _ | with_reducible refine Kv.alloc ?_ _ | with_reducible refine Kv.drew ?_ | with_reducible refine Kv.drewN ?_ _ | with_reducible refine Kv.no ?_ (by assumption)))
    · (repeat (first | with_reducible exact Fr.refl _ _ | with_reducible refine Fr.setCell ?_ (.inr (by first | (simp; done) | (simp; omega))) _ | with_reducible refine Fr.alloc ?_ _ | with_reducible refine Fr.drew ?_ | with_reducible refine Fr.drewN ?_ _ | with_reducible refine Fr.tr ?_ (by assumption)))
  case round =>
    obtain ⟨i, hi, rfl, Hi⟩ := hrel
    obtain ⟨A, ca, B, cb, k1, k2, k3, k4, k5, k6⟩ := Hi.out
    clear hl0 hh0 hf0 hsz
    generalize w1.heap.size = g at *
    by_cases hlt : i < m
    · have hwide := bx_wide d h1 h6 i (a / 2 ^ (m - i)) (by omega)
      have hlen := bx_len d i (a / 2 ^ (m - i))
      have Hodd := Lib.hid (bx_odd d i (a / 2 ^ (m - (i + 1))))
      have Heven := Lib.hid (bx_even d i (a / 2 ^ (m - (i + 1))))
      have Hq := Lib.hid (show a / 2 ^ (m - (i + 1)) / 2 = a / 2 ^ (m - i) by
        rw [Nat.div_div_eq_div_mul, ← Nat.pow_succ]
        congr 2
        omega)
      rw [Hq.out] at Hodd Heven
      have Hw := Lib.hid hwide
      clear hwide hlen
      have gl := k2.lt
      generalize (bx d i (a / 2 ^ (m - i))).1 = lo at *
      generalize (bx d i (a / 2 ^ (m - i))).2 = hi2 at *
      obtain ⟨x0, x1, x2, x3⟩ := Ob.four k2
      have hz0 : (i : Int) % d < d := Int.emod_lt_of_pos _ (by omega)
      have hz1 : 0 ≤ (i : Int) % d := Int.emod_nonneg _ (by omega)
      have hdne : d ≠ 0 := by omega
      have htm : ((i : Int)).tmod (d : Int) = (i : Int) % d := Int.tmod_eq_emod_of_nonneg (by omega)
      have hq1 : (a / 2 ^ (m - (i + 1))) % 2 = 0 ∨ (a / 2 ^ (m - (i + 1))) % 2 = 1 := by omega
      go_wp2
      go_upto_region 8 with (fail)
      go_cut [10, 11] (fun v u wx => ∃ g1 g2 a1 b1 a2 b2 c1 d1 c2 d2, v = .pointer (some ⟨g1, 0, none⟩) ∧ u = .pointer (some ⟨g2, 0, none⟩) ∧ Hid (Mb w wr g g1 g2 d a1 b1 a2 b2 c1 d1 c2 d2 (.slice A d ca) (.slice B d cb) lo (hi2.set (i % d) (midB lo hi2 (i % d))) (lo.set (i % d) (midB lo hi2 (i % d) + 1)) hi2 wx))
      case first =>
        go_region_held3 (fun w' => w'.cell? ⟨g, 0, none⟩ = some (.slice A d ca) ∧ w'.cell? ⟨g, 1, none⟩ = some (.slice B d cb))
          ((refine cells2 (t := 28) ?_; (repeat (first | with_reducible assumption | with_reducible refine Ob.other ?_ (by first | (simp; done) | (simp; omega)) _ | ((with_reducible refine Ob.new_ _ _ _ _ ?_) <;> (simp; done)) | with_reducible refine Ob.alloc ?_ _ | with_reducible refine Ob.drew ?_ | with_reducible refine Ob.drewN ?_ _ | with_reducible refine Ob.no ?_ (by assumption)))))
          (first
            | (go_at_call 26; ((with_reducible refine (halves_mod (lo := lo) (hi := hi2) i d ?_ ?_ Hw.out).mono ?_); (iterate 2 (repeat (first | with_reducible assumption | ((with_reducible refine Kv.lit_new _ _ _ _ _ _ ?_ ?_ ?_ ?_) <;> (first | (simp; done) | rfl | decide)) | with_reducible exact Kv.none_ _ | with_reducible refine Kv.alloc ?_ _ | with_reducible refine Kv.drew ?_ | with_reducible refine Kv.drewN ?_ _ | with_reducible refine Kv.no ?_ (by assumption)))); rintro e w2 ⟨a1, c1, b1, d1, a2, c2, b2, d2, rfl, m1, m2, m3, m4, m5, hf2⟩; have hs2 := hf2.size; (try simp at hs2); (try simp at m5); (try (refine use_ (a := Ob w2 wr.heap.size #[.slice none 0 0, .slice none 0 0] 28) ?_ (fun zz => ?_); (focus ((repeat (first | with_reducible assumption | with_reducible refine Ob.other ?_ (by first | (simp; done) | (simp; omega)) _ | ((with_reducible refine Ob.new_ _ _ _ _ ?_) <;> (simp; done)) | with_reducible refine Ob.alloc ?_ _ | with_reducible refine Ob.drew ?_ | with_reducible refine Ob.drewN ?_ _ | with_reducible refine Ob.no ?_ (by assumption))); done)); obtain ⟨z0, z1, z2, z3, z4, z5, z6, z7⟩ := Ob.eight zz; clear zz)); (try (refine use_ (a := Ob w2 (wr.heap.size + 1) #[.slice none 0 0, .slice none 0 0] 28) ?_ (fun zz => ?_); (focus ((repeat (first | with_reducible assumption | with_reducible refine Ob.other ?_ (by first | (simp; done) | (simp; omega)) _ | ((with_reducible refine Ob.new_ _ _ _ _ ?_) <;> (simp; done)) | with_reducible refine Ob.alloc ?_ _ | with_reducible refine Ob.drew ?_ | with_reducible refine Ob.drewN ?_ _ | with_reducible refine Ob.no ?_ (by assumption))); done)); obtain ⟨z0, z1, z2, z3, z4, z5, z6, z7⟩ := Ob.eight zz; clear zz))))
            | fail)
        all_goals
          go_wp2_with fail
          go_meet
          refine ⟨_, _, a1, b1, a2, b2, c1, d1, c2, d2, rfl, rfl, Lib.hid ⟨?_, ?_, ?_, ?_, ?_, ?_, ?_, ?_, ?_, ?_⟩⟩
          all_goals try (first | ((repeat (first | with_reducible assumption | with_reducible refine Ob.other ?_ (by first | (simp; done) | (simp; omega)) _ | ((with_reducible refine Ob.new_ _ _ _ _ ?_) <;> (simp; done)) | with_reducible refine Ob.alloc ?_ _ | with_reducible refine Ob.drew ?_ | with_reducible refine Ob.drewN ?_ _ | with_reducible refine Ob.no ?_ (by assumption))); done) | ((with_reducible refine Ob.put2 (x := .slice none 0 0) (y := .slice none 0 0) ?_ _ _); (repeat (first | with_reducible assumption | with_reducible refine Ob.other ?_ (by first | (simp; done) | (simp; omega)) _ | ((with_reducible refine Ob.new_ _ _ _ _ ?_) <;> (simp; done)) | with_reducible refine Ob.alloc ?_ _ | with_reducible refine Ob.drew ?_ | with_reducible refine Ob.drewN ?_ _ | with_reducible refine Ob.no ?_ (by assumption))); done) | ((repeat (with_reducible refine Ob.other ?_ (by first | (simp; done) | (simp; omega)) _)); (with_reducible refine Ob.put2 (x := .slice none 0 0) (y := .slice none 0 0) ?_ _ _); (repeat (first | with_reducible assumption | with_reducible refine Ob.other ?_ (by first | (simp; done) | (simp; omega)) _ | ((with_reducible refine Ob.new_ _ _ _ _ ?_) <;> (simp; done)) | with_reducible refine Ob.alloc ?_ _ | with_reducible refine Ob.drew ?_ | with_reducible refine Ob.drewN ?_ _ | with_reducible refine Ob.no ?_ (by assumption))); done))
          all_goals try ((repeat (first | with_reducible assumption | with_reducible refine kv_other ?_ (by first | (simp; done) | (simp; omega)) _ | with_reducible refine Kv.alloc ?_ _ | with_reducible refine Kv.drew ?_ | with_reducible refine Kv.drewN ?_ _ | with_reducible refine Kv.no ?_ (by assumption))); done)
          all_goals try omega
          all_goals try ((repeat (first | with_reducible exact Fr.refl _ _ | with_reducible refine Fr.setCell ?_ (.inr (by first | (simp; done) | (simp; omega))) _ | with_reducible refine Fr.alloc ?_ _ | with_reducible refine Fr.drew ?_ | with_reducible refine Fr.drewN ?_ _ | with_reducible refine Fr.tr ?_ (by assumption))); done)
      case rest =>
        clear x0 x1 x2 x3 k1 k2 k3 k4 k5 Hw
        obtain ⟨g1, g2, a1, b1, a2, b2, c1, d1, c2, d2, rfl, rfl, HM⟩ := hcut
        generalize wc = wx at *
        obtain ⟨n1, n2, n3, n4, n5, n6, n7, n8, n9, n10⟩ := HM.out
        obtain ⟨x0, x1, x2, x3⟩ := Ob.four n2
        obtain ⟨y0, y1⟩ := cells2 n3
        obtain ⟨z0, z1⟩ := cells2 n4
        obtain ⟨o1, o2, o3, o4, o5, o6⟩ := n9
        have ne1 : g ≠ g1 := by omega
        have ne2 : g ≠ g2 := by omega
        clear n1 n2 n3 n4 n5 n6 n7 n8 n10
        rcases hq1 with hq1 | hq1
        · have ht := test_bit ha2 hlt false hq1
          have Hx := Lib.hid (Heven.out (by omega))
          clear hq1
          go_wp2
          go_roundw
          case rel =>
            obtain ⟨n1, n2, n3, n4, n5, n6, n7, n8, n9, n10⟩ := HM.out
            refine ⟨i + 1, by omega, by go_num, Lib.hid ⟨some ⟨a1, 0, none⟩, c1, some ⟨b1, 0, none⟩, d1, ?_, ?_, ?_, ?_, ?_, k6⟩⟩
            · (repeat (first | with_reducible assumption | with_reducible refine Ob.other ?_ (by first | (simp; done) | (simp; omega)) _ | ((with_reducible refine Ob.new_ _ _ _ _ ?_) <;> (simp; done)) | with_reducible refine Ob.alloc ?_ _ | with_reducible refine Ob.drew ?_ | with_reducible refine Ob.drewN ?_ _ | with_reducible refine Ob.no ?_ (by assumption)))
            · exact Ob.put2 n2 _ _
            · rw [Hx.out]; (repeat (first | with_reducible assumption | with_reducible refine kv_other ?_ (by first | (simp; done) | (simp; omega)) _ | with_reducible refine Kv.alloc ?_ _ | with_reducible refine Kv.drew ?_ | with_reducible refine Kv.drewN ?_ _ | with_reducible refine Kv.no ?_ (by assumption)))
            · rw [Hx.out]; (repeat (first | with_reducible assumption | with_reducible refine kv_other ?_ (by first | (simp; done) | (simp; omega)) _ | with_reducible refine Kv.alloc ?_ _ | with_reducible refine Kv.drew ?_ | with_reducible refine Kv.drewN ?_ _ | with_reducible refine Kv.no ?_ (by assumption)))
            · (repeat (first | with_reducible exact Fr.refl _ _ | with_reducible refine Fr.setCell ?_ (.inr (by first | (simp; done) | (simp; omega))) _ | with_reducible refine Fr.alloc ?_ _ | with_reducible refine Fr.drew ?_ | with_reducible refine Fr.drewN ?_ _ | with_reducible refine Fr.tr ?_ (by assumption)))
          case measure => simp [intOf]; omega
        · have ht := test_bit ha2 hlt true hq1
          have Hx := Lib.hid (Hodd.out hq1)
          clear hq1
          go_wp2
          go_roundw
          case rel =>
            obtain ⟨n1, n2, n3, n4, n5, n6, n7, n8, n9, n10⟩ := HM.out
            refine ⟨i + 1, by omega, by go_num, Lib.hid ⟨some ⟨a2, 0, none⟩, c2, some ⟨b2, 0, none⟩, d2, ?_, ?_, ?_, ?_, ?_, k6⟩⟩
            · (repeat (first | with_reducible assumption | with_reducible refine Ob.other ?_ (by first | (simp; done) | (simp; omega)) _ | ((with_reducible refine Ob.new_ _ _ _ _ ?_) <;> (simp; done)) | with_reducible refine Ob.alloc ?_ _ | with_reducible refine Ob.drew ?_ | with_reducible refine Ob.drewN ?_ _ | with_reducible refine Ob.no ?_ (by assumption)))
            · exact Ob.put2 (Ob.put2 n2 _ _) _ _
            · rw [Hx.out]; (repeat (first | with_reducible assumption | with_reducible refine kv_other ?_ (by first | (simp; done) | (simp; omega)) _ | with_reducible refine Kv.alloc ?_ _ | with_reducible refine Kv.drew ?_ | with_reducible refine Kv.drewN ?_ _ | with_reducible refine Kv.no ?_ (by assumption)))
            · rw [Hx.out]; (repeat (first | with_reducible assumption | with_reducible refine kv_other ?_ (by first | (simp; done) | (simp; omega)) _ | with_reducible refine Kv.alloc ?_ _ | with_reducible refine Kv.drew ?_ | with_reducible refine Kv.drewN ?_ _ | with_reducible refine Kv.no ?_ (by assumption)))
            · (repeat (first | with_reducible exact Fr.refl _ _ | with_reducible refine Fr.setCell ?_ (.inr (by first | (simp; done) | (simp; omega))) _ | with_reducible refine Fr.alloc ?_ _ | with_reducible refine Fr.drew ?_ | with_reducible refine Fr.drewN ?_ _ | with_reducible refine Fr.tr ?_ (by assumption)))
          case measure => simp [intOf]; omega
    · obtain rfl : i = m := by omega
      rw [Nat.sub_self, Nat.pow_zero, Nat.div_one] at k3 k4
      obtain ⟨x0, x1, x2, x3⟩ := Ob.four k1
      obtain ⟨y0, y1⟩ := cells2 k2
      have P := Ob.put2 k1 (.slice A d ca) (.slice B d cb)
      obtain ⟨r0, r1⟩ := cells2 P
      go_wp2
      refine bodyPost_ret (v := .tuple #[.agg #[.slice A d ca, .slice B d cb], .int .i64 0]) (by simp [results, Try.results10, go_sem, r0, r1]) rfl ?_
      exact ⟨A, d, ca, B, d, cb, rfl, Kv.put2 k3 k1 _, Kv.put2 k4 k1 _, by (repeat (first | with_reducible exact Fr.refl _ _ | with_reducible refine Fr.setCell ?_ (.inr (by first | (simp; done) | (simp; omega))) _ | with_reducible refine Fr.alloc ?_ _ | with_reducible refine Fr.drew ?_ | with_reducible refine Fr.drewN ?_ _ | with_reducible refine Fr.tr ?_ (by assumption)))⟩
end
end Go.Proofs.Ytoaikponefcbiaa.He16
