/- Layer 11: at which coordinate a box is halved, the document's. -/
import Derived.Test.YtbncakbgljhnkaaPz11
import Derived.StillTailTactics
namespace Go.Proofs.Ytbncakbgljhnkaa.Qa11
open Go.RowKit Go.Proofs.Ytbncakbgljhnkaa.Pk08 Go.Proofs.Ytbncakbgljhnkaa.Base Go.Proofs.Ytbncakbgljhnkaa.App Go.Proofs.Ytbncakbgljhnkaa.Str Go.Proofs.Ytbncakbgljhnkaa.Ky Go.Proofs.Ytbncakbgljhnkaa.Bx Go.Proofs.Ytbncakbgljhnkaa.Kk Go.Proofs.Ytbncakbgljhnkaa.Bo Go.Proofs.Ytbncakbgljhnkaa.As Go.Proofs.Ytbncakbgljhnkaa.Pl08 Go.Proofs.Ytbncakbgljhnkaa.Kc08 Go.Proofs.Ytbncakbgljhnkaa.Kh08 Go.Proofs.Ytbncakbgljhnkaa.Px16 Go.Proofs.Ytbncakbgljhnkaa.Ha16 Go.Proofs.Ytbncakbgljhnkaa.Hb16 Go.Proofs.Ytbncakbgljhnkaa.Hc16 Go.Proofs.Ytbncakbgljhnkaa.Rv Go.Proofs.Ytbncakbgljhnkaa.Ro Go.Proofs.Ytbncakbgljhnkaa.Rk Go.Proofs.Ytbncakbgljhnkaa.Py11 Go.Proofs.Ytbncakbgljhnkaa.Pz11
set_option linter.unusedVariables false
set_option linter.unusedSimpArgs false
/-- Halves are returned: to be read. -/
def HalRd (w : World) (n : Nat) (lo1 hi1 lo2 hi2 : List Nat) (e : Ending) (w' : World) : Prop :=
  ∃ a ca b cb c cc d cd, e = .returned (.tuple #[.agg #[.slice (some ⟨a, 0, none⟩) n ca, .slice (some ⟨b, 0, none⟩) n cb], .agg #[.slice (some ⟨c, 0, none⟩) n cc, .slice (some ⟨d, 0, none⟩) n cd], .bool true]) ∧
    Kv w' (some ⟨a, 0, none⟩) n ca lo1 ∧ Kv w' (some ⟨b, 0, none⟩) n cb hi1 ∧ Kv w' (some ⟨c, 0, none⟩) n cc lo2 ∧ Kv w' (some ⟨d, 0, none⟩) n cd hi2 ∧
    (w.heap.size ≤ a ∧ a < w'.heap.size ∧ w.heap.size ≤ b ∧ b < w'.heap.size ∧ w.heap.size ≤ c ∧ c < w'.heap.size ∧ w.heap.size ≤ d ∧ d < w'.heap.size) ∧ Fr No w w'
theorem rhal_rd {w : World} {A B : Option Addr} {n cn m cm k : Nat} {lo hi : List Nat} (hl : Kv w A n cn lo) (hh : Kv w B m cm hi) (hw : wideB lo hi (k : Int) = true) :
    Calls Try.prog 12 #[.agg #[.slice A n cn, .slice B m cm], .int .i64 (k : Int)] w (HalRd w n lo (hi.set k (midB lo hi k)) (lo.set k (midB lo hi k + 1)) hi) := by
  obtain ⟨p1, p2, p3, p4⟩ := has_parts (wide_has hw)
  obtain rfl : n = m := by have := hl.len; have := hh.len; omega
  refine (rhalves_yes k hl hh hw).mono ?_
  rintro e w' ⟨a, ca, b, cb, c, cc, d, cd, rfl, h1, h2, h3, h4, _, _, _, _, hf⟩
  have hm := Go.Proofs.Ytbncakbgljhnkaa.Py11.mid_lt hl hh hw
  exact ⟨a, ca, b, cb, c, cc, d, cd, rfl, Kv.of_own h1 hl.lt, Kv.of_own h2 (Go.Proofs.Ytbncakbgljhnkaa.Py11.set_lt hh.lt (by omega)), Kv.of_own h3 (Go.Proofs.Ytbncakbgljhnkaa.Py11.set_lt hl.lt hm), Kv.of_own h4 hh.lt, ⟨(h1.lt a rfl).1, (h1.lt a rfl).2, (h2.lt b rfl).1, (h2.lt b rfl).2, (h3.lt c rfl).1, (h3.lt c rfl).2, (h4.lt d rfl).1, (h4.lt d rfl).2⟩, hf⟩
theorem rhal_no {w : World} {A B : Option Addr} {n cn m cm k : Nat} {lo hi : List Nat} (hl : Kv w A n cn lo) (hh : Kv w B m cm hi) (hw : wideB lo hi (k : Int) = false) :
    Calls Try.prog 12 #[.agg #[.slice A n cn, .slice B m cm], .int .i64 (k : Int)] w fun e w' => e = .returned (.tuple #[.agg #[.slice none 0 0, .slice none 0 0], .agg #[.slice none 0 0, .slice none 0 0], .bool false]) ∧ Fr No w w' := by
  cases hb : hasB lo hi (k : Int) with
  | false => exact rhalves_out _ hl hh hb
  | true =>
    obtain ⟨p1, p2, p3, p4⟩ := has_parts hb
    refine rhalves_thin k hl hh hb ?_
    unfold wideB at hw
    rw [hb, Bool.true_and, Int.toNat_natCast] at hw
    have := of_decide_eq_false hw
    omega
theorem both_wide {lo hi : List Nat} {rs : List Rv.Rec} {k : Nat} (hw : wideB lo hi (k : Int) = true) : bothB lo hi rs (k : Int) = (anyIn rs lo (hi.set k (midB lo hi k)) && anyIn rs (lo.set k (midB lo hi k + 1)) hi) := by
  unfold bothB l1 h1 l2 h2
  rw [hw]
  simp
theorem both_thin {lo hi : List Nat} {rs : List Rv.Rec} {k : Nat} (hw : wideB lo hi (k : Int) = false) : bothB lo hi rs (k : Int) = false := by
  unfold bothB
  rw [hw]
  rfl
/-- The halves stand. -/
structure Mq (w : World) (A : Option Addr) (n cn : Nat) (B : Option Addr) (m cm g1 g2 a1 b1 a2 b2 c1 d1 c2 d2 : Nat) (l1 h1 l2 h2 : List Nat) (wx : World) : Prop where
  b : Ob wx w.heap.size #[.slice A n cn, .slice B m cm] 25
  x : Ob wx g1 #[.slice (some ⟨a1, 0, none⟩) n c1, .slice (some ⟨b1, 0, none⟩) n d1] 25
  y : Ob wx g2 #[.slice (some ⟨a2, 0, none⟩) n c2, .slice (some ⟨b2, 0, none⟩) n d2] 25
  k1 : Kv wx (some ⟨a1, 0, none⟩) n c1 l1
  k2 : Kv wx (some ⟨b1, 0, none⟩) n d1 h1
  k3 : Kv wx (some ⟨a2, 0, none⟩) n c2 l2
  k4 : Kv wx (some ⟨b2, 0, none⟩) n d2 h2
  fr : Fr No w wx
section
variable {w : World} {A B L : Option Addr} {n cn m cm ln lc gb gl : Nat} {lo hi : List Nat} {rs : List Rv.Rec}
set_option maxHeartbeats 6400000 in
theorem rchoose_any (f : Int) (hl : Kv w A n cn lo) (hh : Kv w B m cm hi) (hr : Rv w L ln lc rs) :
    Calls Try.prog 14 #[.agg #[.slice A n cn, .slice B m cm], .slice L ln lc, .int .i64 f] w fun e w' => e = .returned (.tuple #[.int .i64 (chAt lo hi rs f), .bool (chOk lo hi rs f)]) ∧ Fr No w w' := by
  have Hl := Lib.hid hl
  have Hh := Lib.hid hh
  have Hr := Lib.hid hr
  have HN := Lib.hid hl.len
  have hn0 := hl.len_le
  clear hl hh hr
  cases hb : hasB lo hi f with
  | false =>
    obtain ⟨e1, e2⟩ := ch_out (rs := rs) hb
    have E1 := Lib.hid e1
    have E2 := Lib.hid e2
    have hc : chkB lo hi n = 1 ∨ (chkB lo hi n = 0 ∧ f < 0) ∨ (chkB lo hi n = 0 ∧ 0 ≤ f ∧ (n : Int) ≤ f) := by
      by_cases h0 : chkB lo hi n = 0
      · by_cases h1 : f < 0
        · exact .inr (.inl ⟨h0, h1⟩)
        · refine .inr (.inr ⟨h0, by omega, ?_⟩)
          rw [HN.out] at h0 ⊢
          unfold hasB at hb
          have := of_decide_eq_false hb
          have h2 : ¬ f < lo.length := fun x => this ⟨by omega, x, h0⟩
          omega
      · exact .inl (Go.Proofs.Ytbncakbgljhnkaa.Kj08.chkB_one h0)
    clear hb e1 e2
    rcases hc with h0 | ⟨h0, h1⟩ | ⟨h0, h1, h2⟩
    · have H0 := Lib.hid h0
      clear h0
      go_enter Try.func14, Try.ntmps14
      go_wp2_with (go_at_call 25; ((with_reducible refine (rcheckBox_any (lo := lo) (hi := hi) _ ?_ ?_).mono ?_); (focus ((have hk := Hl.out); (repeat (first | with_reducible assumption | ((with_reducible refine Kv.lit_new _ _ _ _ _ _ ?_ ?_ ?_ ?_) <;> (first | (simp; done) | rfl | decide)) | with_reducible exact Kv.none_ _ | with_reducible refine Kv.alloc ?_ _ | with_reducible refine Kv.drew ?_ | with_reducible refine Kv.drewN ?_ _ | with_reducible refine Kv.no ?_ (by assumption))))); (focus ((have hk := Hh.out); (repeat (first | with_reducible assumption | ((with_reducible refine Kv.lit_new _ _ _ _ _ _ ?_ ?_ ?_ ?_) <;> (first | (simp; done) | rfl | decide)) | with_reducible exact Kv.none_ _ | with_reducible refine Kv.alloc ?_ _ | with_reducible refine Kv.drew ?_ | with_reducible refine Kv.drewN ?_ _ | with_reducible refine Kv.no ?_ (by assumption))))); rintro e w5 ⟨rfl, hf5⟩; rw [H0.out]))
      go_ret2
      exact ⟨by rw [E1.out, E2.out]; rfl, by (repeat (first | with_reducible exact Fr.refl _ _ | with_reducible refine Fr.setCell ?_ (.inr (by first | (simp; done) | (simp; omega))) _ | with_reducible refine Fr.alloc ?_ _ | with_reducible refine Fr.drew ?_ | with_reducible refine Fr.drewN ?_ _ | with_reducible refine Fr.tr ?_ (by assumption)))⟩
    · have H0 := Lib.hid h0
      clear h0
      have h1b : decide (f < 0) = true := decide_eq_true h1
      go_enter Try.func14, Try.ntmps14
      go_wp2_with (go_at_call 25; ((with_reducible refine (rcheckBox_any (lo := lo) (hi := hi) _ ?_ ?_).mono ?_); (focus ((have hk := Hl.out); (repeat (first | with_reducible assumption | ((with_reducible refine Kv.lit_new _ _ _ _ _ _ ?_ ?_ ?_ ?_) <;> (first | (simp; done) | rfl | decide)) | with_reducible exact Kv.none_ _ | with_reducible refine Kv.alloc ?_ _ | with_reducible refine Kv.drew ?_ | with_reducible refine Kv.drewN ?_ _ | with_reducible refine Kv.no ?_ (by assumption))))); (focus ((have hk := Hh.out); (repeat (first | with_reducible assumption | ((with_reducible refine Kv.lit_new _ _ _ _ _ _ ?_ ?_ ?_ ?_) <;> (first | (simp; done) | rfl | decide)) | with_reducible exact Kv.none_ _ | with_reducible refine Kv.alloc ?_ _ | with_reducible refine Kv.drew ?_ | with_reducible refine Kv.drewN ?_ _ | with_reducible refine Kv.no ?_ (by assumption))))); rintro e w5 ⟨rfl, hf5⟩; rw [H0.out]))
      go_ret2
      exact ⟨by rw [E1.out, E2.out]; rfl, by (repeat (first | with_reducible exact Fr.refl _ _ | with_reducible refine Fr.setCell ?_ (.inr (by first | (simp; done) | (simp; omega))) _ | with_reducible refine Fr.alloc ?_ _ | with_reducible refine Fr.drew ?_ | with_reducible refine Fr.drewN ?_ _ | with_reducible refine Fr.tr ?_ (by assumption)))⟩
    · have H0 := Lib.hid h0
      clear h0
      have h1b : ¬ f < 0 := by omega
      go_enter Try.func14, Try.ntmps14
      go_wp2_with (go_at_call 25; ((with_reducible refine (rcheckBox_any (lo := lo) (hi := hi) _ ?_ ?_).mono ?_); (focus ((have hk := Hl.out); (repeat (first | with_reducible assumption | ((with_reducible refine Kv.lit_new _ _ _ _ _ _ ?_ ?_ ?_ ?_) <;> (first | (simp; done) | rfl | decide)) | with_reducible exact Kv.none_ _ | with_reducible refine Kv.alloc ?_ _ | with_reducible refine Kv.drew ?_ | with_reducible refine Kv.drewN ?_ _ | with_reducible refine Kv.no ?_ (by assumption))))); (focus ((have hk := Hh.out); (repeat (first | with_reducible assumption | ((with_reducible refine Kv.lit_new _ _ _ _ _ _ ?_ ?_ ?_ ?_) <;> (first | (simp; done) | rfl | decide)) | with_reducible exact Kv.none_ _ | with_reducible refine Kv.alloc ?_ _ | with_reducible refine Kv.drew ?_ | with_reducible refine Kv.drewN ?_ _ | with_reducible refine Kv.no ?_ (by assumption))))); rintro e w5 ⟨rfl, hf5⟩; rw [H0.out]))
      go_ret2
      exact ⟨by rw [E1.out, E2.out]; rfl, by (repeat (first | with_reducible exact Fr.refl _ _ | with_reducible refine Fr.setCell ?_ (.inr (by first | (simp; done) | (simp; omega))) _ | with_reducible refine Fr.alloc ?_ _ | with_reducible refine Fr.drew ?_ | with_reducible refine Fr.drewN ?_ _ | with_reducible refine Fr.tr ?_ (by assumption)))⟩
  | true =>
    obtain ⟨f', rfl⟩ : ∃ j : Nat, f = (j : Int) := ⟨f.toNat, by have := (hasB_iff.1 hb).1; omega⟩
    obtain ⟨p1, p2, p3, p4⟩ := has_parts hb
    have H0 := Lib.hid (show chkB lo hi n = 0 by rw [HN.out]; exact (hasB_iff.1 hb).2.2)
    rw [← HN.out] at p1 p2
    have Hb := Lib.hid hb
    have hf0 : ¬ ((f' : Int) < 0) := by omega
    have hfn : ¬ ((n : Int) ≤ (f' : Int)) := by omega
    have hf0b : decide ((f' : Int) < 0) = false := decide_eq_false hf0
    have hfnb : decide ((n : Int) ≤ (f' : Int)) = false := decide_eq_false hfn
    have hfnc : decide (n ≤ f') = false := decide_eq_false (by omega)
    have hdne : n ≠ 0 := by omega
    clear hb p3 p4 hf0 hfn
    go_enter Try.func14, Try.ntmps14
    go_wp2_with (go_at_call 25; ((with_reducible refine (rcheckBox_any (lo := lo) (hi := hi) _ ?_ ?_).mono ?_); (focus ((have hk := Hl.out); (repeat (first | with_reducible assumption | ((with_reducible refine Kv.lit_new _ _ _ _ _ _ ?_ ?_ ?_ ?_) <;> (first | (simp; done) | rfl | decide)) | with_reducible exact Kv.none_ _ | with_reducible refine Kv.alloc ?_ _ | with_reducible refine Kv.drew ?_ | with_reducible refine Kv.drewN ?_ _ | with_reducible refine Kv.no ?_ (by assumption))))); (focus ((have hk := Hh.out); (repeat (first | with_reducible assumption | ((with_reducible refine Kv.lit_new _ _ _ _ _ _ ?_ ?_ ?_ ?_) <;> (first | (simp; done) | rfl | decide)) | with_reducible exact Kv.none_ _ | with_reducible refine Kv.alloc ?_ _ | with_reducible refine Kv.drew ?_ | with_reducible refine Kv.drewN ?_ _ | with_reducible refine Kv.no ?_ (by assumption))))); rintro e w5 ⟨rfl, hf5⟩; rw [H0.out]))
    go_loopw [9] (fun x wr => ∃ i : Nat, x = .int .i64 i ∧ Hid (i ≤ n ∧ (∀ j, j < i → tst lo hi rs 0 ((f' + j) % n) = false) ∧ Ob wr w.heap.size #[.slice A n cn, .slice B m cm] 25 ∧ Fr No w wr)) (fun x _ => n - (intOf x).toNat)
    case atStart => exact ⟨0, rfl, Lib.hid ⟨Nat.zero_le _, fun j hj => by omega, by (repeat (first | with_reducible assumption | with_reducible refine Ob.other ?_ (by first | (simp; done) | (simp; omega)) _ | ((with_reducible refine Ob.new_ _ _ _ _ ?_) <;> (simp; done)) | with_reducible refine Ob.alloc ?_ _ | with_reducible refine Ob.drew ?_ | with_reducible refine Ob.drewN ?_ _ | with_reducible refine Ob.no ?_ (by assumption))), by (repeat (first | with_reducible exact Fr.refl _ _ | with_reducible refine Fr.setCell ?_ (.inr (by first | (simp; done) | (simp; omega))) _ | with_reducible refine Fr.alloc ?_ _ | with_reducible refine Fr.drew ?_ | with_reducible refine Fr.drewN ?_ _ | with_reducible refine Fr.tr ?_ (by assumption)))⟩⟩
    case round =>
      clear hf5
      obtain ⟨i, rfl, Hi⟩ := hrel
      obtain ⟨x0, x1⟩ := cells2 Hi.out.2.2.1
      have hob := Hi.out.2.2.1
      have gl0 := hob.lt
      by_cases hlt : i < n
      · have Hlt := Lib.hid hlt
        have htm : ((f' : Int) + (i : Int)).tmod (n : Int) = (((f' + i) % n : Nat) : Int) := by
          rw [Int.tmod_eq_emod_of_nonneg (by omega), Int.natCast_emod, Int.natCast_add]
        have htm2 : ((f' : Int) + (i : Int)) % (n : Int) = (((f' + i) % n : Nat) : Int) := by rw [Int.natCast_emod, Int.natCast_add]
        have hws1 : IntKind.i64.wrap ((f' : Int) + (i : Int)) = (f' : Int) + (i : Int) := IntWalk.i64_in _ (by omega)
        have hws2 : wrap64 ((f' : Int) + (i : Int)) = (f' : Int) + (i : Int) := IntWalk.wrap64_in _ (by omega)
        have hkn : (f' + i) % n < n := Nat.mod_lt _ (by omega)
        have hkl : (f' + i) % n ≤ 1000000 := by omega
        have Hl2 := Lib.hid (Hl.out.no Hi.out.2.2.2)
        have Hh2 := Lib.hid (Hh.out.no Hi.out.2.2.2)
        have HF2 := Lib.hid Hi.out.2.2.2
        cases hw : wideB lo hi (((f' + i) % n : Nat) : Int) with
        | false =>
          have Hnx := Lib.hid (show ∀ j, j < i + 1 → tst lo hi rs 0 ((f' + j) % n) = false from fun j hj => by
            by_cases e : j = i
            · subst e; exact both_thin hw
            · exact Hi.out.2.1 j (by omega))
          have Hw := Lib.hid hw
          clear hw
          generalize hk : (f' + i) % n = k at *
          have Hk := Lib.hid hk
          clear hk
          have hwk1 : IntKind.i64.wrap ((k : Nat) : Int) = (k : Int) := IntWalk.i64_in _ (by omega)
          have hwk2 : wrap64 ((k : Nat) : Int) = (k : Int) := IntWalk.wrap64_in _ (by omega)
          go_wp2
          go_upto_region 8 with (fail)
          go_cut [10, 11, 12] (fun v u x wx => ∃ g1 g2, v = .pointer (some ⟨g1, 0, none⟩) ∧ u = .pointer (some ⟨g2, 0, none⟩) ∧ x = .bool false ∧ Hid (Ob wx w.heap.size #[.slice A n cn, .slice B m cm] 25 ∧ Fr No w wx))
          case first =>
            go_region_held3 (fun w' => w'.cell? ⟨w.heap.size, 0, none⟩ = some (.slice A n cn) ∧ w'.cell? ⟨w.heap.size, 1, none⟩ = some (.slice B m cm))
              ((refine cells2 (t := 25) ?_; (repeat (first | with_reducible assumption | with_reducible refine Ob.other ?_ (by first | (simp; done) | (simp; omega)) _ | ((with_reducible refine Ob.new_ _ _ _ _ ?_) <;> (simp; done)) | with_reducible refine Ob.alloc ?_ _ | with_reducible refine Ob.drew ?_ | with_reducible refine Ob.drewN ?_ _ | with_reducible refine Ob.no ?_ (by assumption)))))
              (first
                | (go_at_call 12; ((with_reducible refine (rhal_no (lo := lo) (hi := hi) ?_ ?_ Hw.out).mono ?_); (focus ((have hk := Hl2.out); (repeat (first | with_reducible assumption | ((with_reducible refine Kv.lit_new _ _ _ _ _ _ ?_ ?_ ?_ ?_) <;> (first | (simp; done) | rfl | decide)) | with_reducible exact Kv.none_ _ | with_reducible refine Kv.alloc ?_ _ | with_reducible refine Kv.drew ?_ | with_reducible refine Kv.drewN ?_ _ | with_reducible refine Kv.no ?_ (by assumption))))); (focus ((have hk := Hh2.out); (repeat (first | with_reducible assumption | ((with_reducible refine Kv.lit_new _ _ _ _ _ _ ?_ ?_ ?_ ?_) <;> (first | (simp; done) | rfl | decide)) | with_reducible exact Kv.none_ _ | with_reducible refine Kv.alloc ?_ _ | with_reducible refine Kv.drew ?_ | with_reducible refine Kv.drewN ?_ _ | with_reducible refine Kv.no ?_ (by assumption))))); rintro e w2 ⟨rfl, hf2⟩; have hs2 := hf2.size; (try simp at hs2); (try (refine use_ (a := Ob w2 wr.heap.size #[.slice none 0 0, .slice none 0 0] 25) ?_ (fun zz => ?_); (focus ((repeat (first | with_reducible assumption | with_reducible refine Ob.other ?_ (by first | (simp; done) | (simp; omega)) _ | ((with_reducible refine Ob.new_ _ _ _ _ ?_) <;> (simp; done)) | with_reducible refine Ob.alloc ?_ _ | with_reducible refine Ob.drew ?_ | with_reducible refine Ob.drewN ?_ _ | with_reducible refine Ob.no ?_ (by assumption))); done)); obtain ⟨z0, z1, z2, z3, z4, z5, z6, z7⟩ := Ob.eight zz; clear zz)); (try (refine use_ (a := Ob w2 (wr.heap.size + 1) #[.slice none 0 0, .slice none 0 0] 25) ?_ (fun zz => ?_); (focus ((repeat (first | with_reducible assumption | with_reducible refine Ob.other ?_ (by first | (simp; done) | (simp; omega)) _ | ((with_reducible refine Ob.new_ _ _ _ _ ?_) <;> (simp; done)) | with_reducible refine Ob.alloc ?_ _ | with_reducible refine Ob.drew ?_ | with_reducible refine Ob.drewN ?_ _ | with_reducible refine Ob.no ?_ (by assumption))); done)); obtain ⟨z0, z1, z2, z3, z4, z5, z6, z7⟩ := Ob.eight zz; clear zz))))
                | fail)
            all_goals
              go_wp2_with fail
              go_meet
              refine ⟨_, _, rfl, rfl, rfl, Lib.hid ⟨?_, ?_⟩⟩
              all_goals try (first | ((repeat (first | with_reducible assumption | with_reducible refine Ob.other ?_ (by first | (simp; done) | (simp; omega)) _ | ((with_reducible refine Ob.new_ _ _ _ _ ?_) <;> (simp; done)) | with_reducible refine Ob.alloc ?_ _ | with_reducible refine Ob.drew ?_ | with_reducible refine Ob.drewN ?_ _ | with_reducible refine Ob.no ?_ (by assumption))); done) | ((with_reducible refine Ob.put2 (x := .slice none 0 0) (y := .slice none 0 0) ?_ _ _); (repeat (first | with_reducible assumption | with_reducible refine Ob.other ?_ (by first | (simp; done) | (simp; omega)) _ | ((with_reducible refine Ob.new_ _ _ _ _ ?_) <;> (simp; done)) | with_reducible refine Ob.alloc ?_ _ | with_reducible refine Ob.drew ?_ | with_reducible refine Ob.drewN ?_ _ | with_reducible refine Ob.no ?_ (by assumption))); done) | ((repeat (with_reducible refine Ob.other ?_ (by first | (simp; done) | (simp; omega)) _)); (with_reducible refine Ob.put2 (x := .slice none 0 0) (y := .slice none 0 0) ?_ _ _); (repeat (first | with_reducible assumption | with_reducible refine Ob.other ?_ (by first | (simp; done) | (simp; omega)) _ | ((with_reducible refine Ob.new_ _ _ _ _ ?_) <;> (simp; done)) | with_reducible refine Ob.alloc ?_ _ | with_reducible refine Ob.drew ?_ | with_reducible refine Ob.drewN ?_ _ | with_reducible refine Ob.no ?_ (by assumption))); done))
              all_goals try (have := HF2.out; (repeat (first | with_reducible exact Fr.refl _ _ | with_reducible refine Fr.setCell ?_ (.inr (by first | (simp; done) | (simp; omega))) _ | with_reducible refine Fr.alloc ?_ _ | with_reducible refine Fr.drew ?_ | with_reducible refine Fr.drewN ?_ _ | with_reducible refine Fr.tr ?_ (by assumption))); done)
          case rest =>
            clear x0 x1 hob gl0 Hw Hl2 Hh2 HF2
            obtain ⟨g1, g2, rfl, rfl, rfl, HM⟩ := hcut
            generalize wc = wx at *
            go_wp2
            go_roundw
            case rel => exact ⟨i + 1, by go_num, Lib.hid ⟨Hlt.out, Hnx.out, HM.out.1, HM.out.2⟩⟩
            case measure => have := Hlt.out; simp [intOf]; omega
        | true =>
          have Hbw := Lib.hid (both_wide (rs := rs) hw)
          have Hhit := Lib.hid (fun (ht : bothB lo hi rs (((f' + i) % n : Nat) : Int) = true) => ch_hit (lo := lo) (hi := hi) (rs := rs) (f := f') (e := 0) (i := i) Hb.out (by omega) (by rw [← HN.out]; exact hlt) (fun e' j h1 h2 => by omega) (fun j hj => by have := Hi.out.2.1 j hj; rwa [HN.out] at this) (by rw [← HN.out]; exact ht))
          have Hnx := Lib.hid (fun (ht : bothB lo hi rs (((f' + i) % n : Nat) : Int) = false) => show ∀ j, j < i + 1 → tst lo hi rs 0 ((f' + j) % n) = false from fun j hj => by
            by_cases e : j = i
            · subst e; exact ht
            · exact Hi.out.2.1 j (by omega))
          rw [← HN.out] at Hhit
          have Hw := Lib.hid hw
          clear hw
          have htm0 := htm
          generalize (f' + i) % n = k at *
          have hwk1 : IntKind.i64.wrap ((k : Nat) : Int) = (k : Int) := IntWalk.i64_in _ (by omega)
          have hwk2 : wrap64 ((k : Nat) : Int) = (k : Int) := IntWalk.wrap64_in _ (by omega)
          go_wp2
          go_upto_region 8 with (fail)
          go_cut [10, 11, 12] (fun v u x wx => ∃ g1 g2 a1 b1 a2 b2 c1 d1 c2 d2, v = .pointer (some ⟨g1, 0, none⟩) ∧ u = .pointer (some ⟨g2, 0, none⟩) ∧ x = .bool true ∧ Hid (Mq w A n cn B m cm g1 g2 a1 b1 a2 b2 c1 d1 c2 d2 lo (hi.set k (midB lo hi k)) (lo.set k (midB lo hi k + 1)) hi wx))
          case first =>
            go_region_held3 (fun w' => w'.cell? ⟨w.heap.size, 0, none⟩ = some (.slice A n cn) ∧ w'.cell? ⟨w.heap.size, 1, none⟩ = some (.slice B m cm))
              ((refine cells2 (t := 25) ?_; (repeat (first | with_reducible assumption | with_reducible refine Ob.other ?_ (by first | (simp; done) | (simp; omega)) _ | ((with_reducible refine Ob.new_ _ _ _ _ ?_) <;> (simp; done)) | with_reducible refine Ob.alloc ?_ _ | with_reducible refine Ob.drew ?_ | with_reducible refine Ob.drewN ?_ _ | with_reducible refine Ob.no ?_ (by assumption)))))
              (first
                | (go_at_call 12; ((with_reducible refine (rhal_rd (lo := lo) (hi := hi) ?_ ?_ Hw.out).mono ?_); (focus ((have hk := Hl2.out); (repeat (first | with_reducible assumption | ((with_reducible refine Kv.lit_new _ _ _ _ _ _ ?_ ?_ ?_ ?_) <;> (first | (simp; done) | rfl | decide)) | with_reducible exact Kv.none_ _ | with_reducible refine Kv.alloc ?_ _ | with_reducible refine Kv.drew ?_ | with_reducible refine Kv.drewN ?_ _ | with_reducible refine Kv.no ?_ (by assumption))))); (focus ((have hk := Hh2.out); (repeat (first | with_reducible assumption | ((with_reducible refine Kv.lit_new _ _ _ _ _ _ ?_ ?_ ?_ ?_) <;> (first | (simp; done) | rfl | decide)) | with_reducible exact Kv.none_ _ | with_reducible refine Kv.alloc ?_ _ | with_reducible refine Kv.drew ?_ | with_reducible refine Kv.drewN ?_ _ | with_reducible refine Kv.no ?_ (by assumption))))); rintro e w2 ⟨a1, c1, b1, d1, a2, c2, b2, d2, rfl, m1, m2, m3, m4, m5, hf2⟩; have hs2 := hf2.size; (try simp at hs2); (try simp at m5); (try (refine use_ (a := Ob w2 wr.heap.size #[.slice none 0 0, .slice none 0 0] 25) ?_ (fun zz => ?_); (focus ((repeat (first | with_reducible assumption | with_reducible refine Ob.other ?_ (by first | (simp; done) | (simp; omega)) _ | ((with_reducible refine Ob.new_ _ _ _ _ ?_) <;> (simp; done)) | with_reducible refine Ob.alloc ?_ _ | with_reducible refine Ob.drew ?_ | with_reducible refine Ob.drewN ?_ _ | with_reducible refine Ob.no ?_ (by assumption))); done)); obtain ⟨z0, z1, z2, z3, z4, z5, z6, z7⟩ := Ob.eight zz; clear zz)); (try (refine use_ (a := Ob w2 (wr.heap.size + 1) #[.slice none 0 0, .slice none 0 0] 25) ?_ (fun zz => ?_); (focus ((repeat (first | with_reducible assumption | with_reducible refine Ob.other ?_ (by first | (simp; done) | (simp; omega)) _ | ((with_reducible refine Ob.new_ _ _ _ _ ?_) <;> (simp; done)) | with_reducible refine Ob.alloc ?_ _ | with_reducible refine Ob.drew ?_ | with_reducible refine Ob.drewN ?_ _ | with_reducible refine Ob.no ?_ (by assumption))); done)); obtain ⟨z0, z1, z2, z3, z4, z5, z6, z7⟩ := Ob.eight zz; clear zz))))
                | fail)
            all_goals
              go_wp2_with fail
              go_meet
              refine ⟨_, _, a1, b1, a2, b2, c1, d1, c2, d2, rfl, rfl, rfl, Lib.hid ⟨?_, ?_, ?_, ?_, ?_, ?_, ?_, ?_⟩⟩
              all_goals try (first | ((repeat (first | with_reducible assumption | with_reducible refine Ob.other ?_ (by first | (simp; done) | (simp; omega)) _ | ((with_reducible refine Ob.new_ _ _ _ _ ?_) <;> (simp; done)) | with_reducible refine Ob.alloc ?_ _ | with_reducible refine Ob.drew ?_ | with_reducible refine Ob.drewN ?_ _ | with_reducible refine Ob.no ?_ (by assumption))); done) | ((with_reducible refine Ob.put2 (x := .slice none 0 0) (y := .slice none 0 0) ?_ _ _); (repeat (first | with_reducible assumption | with_reducible refine Ob.other ?_ (by first | (simp; done) | (simp; omega)) _ | ((with_reducible refine Ob.new_ _ _ _ _ ?_) <;> (simp; done)) | with_reducible refine Ob.alloc ?_ _ | with_reducible refine Ob.drew ?_ | with_reducible refine Ob.drewN ?_ _ | with_reducible refine Ob.no ?_ (by assumption))); done) | ((repeat (with_reducible refine Ob.other ?_ (by first | (simp; done) | (simp; omega)) _)); (with_reducible refine Ob.put2 (x := .slice none 0 0) (y := .slice none 0 0) ?_ _ _); (repeat (first | with_reducible assumption | with_reducible refine Ob.other ?_ (by first | (simp; done) | (simp; omega)) _ | ((with_reducible refine Ob.new_ _ _ _ _ ?_) <;> (simp; done)) | with_reducible refine Ob.alloc ?_ _ | with_reducible refine Ob.drew ?_ | with_reducible refine Ob.drewN ?_ _ | with_reducible refine Ob.no ?_ (by assumption))); done))
              all_goals try ((repeat (first | with_reducible assumption | with_reducible refine kv_other ?_ (by first | (simp; done) | (simp; omega)) _ | with_reducible refine Kv.alloc ?_ _ | with_reducible refine Kv.drew ?_ | with_reducible refine Kv.drewN ?_ _ | with_reducible refine Kv.no ?_ (by assumption))); done)
              all_goals try (have := HF2.out; (repeat (first | with_reducible exact Fr.refl _ _ | with_reducible refine Fr.setCell ?_ (.inr (by first | (simp; done) | (simp; omega))) _ | with_reducible refine Fr.alloc ?_ _ | with_reducible refine Fr.drew ?_ | with_reducible refine Fr.drewN ?_ _ | with_reducible refine Fr.tr ?_ (by assumption))); done)
          case rest =>
            clear x0 x1 hob gl0 Hw Hl2 Hh2 HF2
            obtain ⟨g1, g2, a1, b1, a2, b2, c1, d1, c2, d2, rfl, rfl, rfl, HM⟩ := hcut
            generalize wc = wx at *
            have Kx := Lib.hid HM.out
            have Hr2 := Lib.hid (Hr.out.no HM.out.fr)
            obtain ⟨y0, y1⟩ := cells2 HM.out.x
            obtain ⟨y2, y3⟩ := cells2 HM.out.y
            obtain ⟨y4, y5⟩ := cells2 HM.out.b
            cases ha : anyIn rs lo (hi.set k (midB lo hi k)) with
            | false =>
              rw [ha, Bool.false_and] at Hbw
              have Ha := Lib.hid ha
              have HN2 := Lib.hid (Hnx.out Hbw.out)
              clear ha Hhit Hnx
              go_wp2_with (go_at_call 40; ((with_reducible refine (rin11_any (lo := lo) (hi := hi.set k (midB lo hi k)) Hr2.out Kx.out.k1 Kx.out.k2).mono ?_); rintro e w6 ⟨rfl, hf6⟩; rw [Ha.out]; (have y2' := cel_no y2 hf6); (have y3' := cel_no y3 hf6)))
              go_roundw
              case rel => exact ⟨i + 1, by go_num, Lib.hid ⟨Hlt.out, HN2.out, HM.out.b.no hf6, HM.out.fr.tr hf6⟩⟩
              case measure => have := Hlt.out; simp [intOf]; omega
            | true =>
              rw [ha, Bool.true_and] at Hbw
              have Ha := Lib.hid ha
              clear ha
              cases ha2 : anyIn rs (lo.set k (midB lo hi k + 1)) hi with
              | false =>
                rw [ha2] at Hbw
                have Ha2 := Lib.hid ha2
                have HN2 := Lib.hid (Hnx.out Hbw.out)
                clear ha2 Hhit Hnx
                go_wp2_with (first | (go_at_call 40; ((with_reducible refine (rin11_any (lo := lo) (hi := hi.set k (midB lo hi k)) Hr2.out Kx.out.k1 Kx.out.k2).mono ?_); rintro e w6 ⟨rfl, hf6⟩; rw [Ha.out]; (have y2' := cel_no y2 hf6); (have y3' := cel_no y3 hf6))) | (go_at_call 40; ((with_reducible refine (rin11_any (lo := lo.set k (midB lo hi k + 1)) (hi := hi) (Hr2.out.no hf6) (Kx.out.k3.no hf6) (Kx.out.k4.no hf6)).mono ?_); rintro e w7 ⟨rfl, hf7⟩; rw [Ha2.out])) | fail)
                go_roundw
                case rel => exact ⟨i + 1, by go_num, Lib.hid ⟨Hlt.out, HN2.out, (HM.out.b.no hf6).no hf7, (HM.out.fr.tr hf6).tr hf7⟩⟩
                case measure => have := Hlt.out; simp [intOf]; omega
              | true =>
                rw [ha2] at Hbw
                have Ha2 := Lib.hid ha2
                obtain ⟨e1, e2⟩ := Hhit.out Hbw.out
                have E1 := Lib.hid e1
                have E2 := Lib.hid e2
                clear ha2 Hhit Hnx e1 e2
                go_wp2_with (first | (go_at_call 40; ((with_reducible refine (rin11_any (lo := lo) (hi := hi.set k (midB lo hi k)) Hr2.out Kx.out.k1 Kx.out.k2).mono ?_); rintro e w6 ⟨rfl, hf6⟩; rw [Ha.out]; (have y2' := cel_no y2 hf6); (have y3' := cel_no y3 hf6))) | (go_at_call 40; ((with_reducible refine (rin11_any (lo := lo.set k (midB lo hi k + 1)) (hi := hi) (Hr2.out.no hf6) (Kx.out.k3.no hf6) (Kx.out.k4.no hf6)).mono ?_); rintro e w7 ⟨rfl, hf7⟩; rw [Ha2.out])) | fail)
                go_ret2
                exact ⟨by rw [E1.out, E2.out]; rfl, (HM.out.fr.tr hf6).tr hf7⟩
      · obtain rfl : i = n := by have := Hi.out.1; omega
        have HT0 := Lib.hid Hi.out.2.1
        have HBo := Lib.hid Hi.out.2.2.1
        have HFo := Lib.hid Hi.out.2.2.2
        clear x0 x1 hob gl0 Hi hlt
        obtain ⟨wo, rfl⟩ : ∃ wo : World, wo = wr := ⟨_, rfl⟩
        go_wp2
        go_loopw [13] (fun x wr => ∃ j : Nat, x = .int .i64 j ∧ Hid (j ≤ i ∧ (∀ j', j' < j → tst lo hi rs 1 ((f' + j') % i) = false) ∧ Ob wr w.heap.size #[.slice A i cn, .slice B m cm] 25 ∧ Fr No w wr)) (fun x _ => i - (intOf x).toNat)
        case atStart => exact ⟨0, rfl, Lib.hid ⟨Nat.zero_le _, fun j hj => by omega, HBo.out, HFo.out⟩⟩
        case round =>
          obtain ⟨j, rfl, Hi⟩ := hrel
          obtain ⟨x0, x1⟩ := cells2 Hi.out.2.2.1
          have hob := Hi.out.2.2.1
          have gl0 := hob.lt
          by_cases hlt : j < i
          · have Hlt := Lib.hid hlt
            have htm : ((f' : Int) + (j : Int)).tmod (i : Int) = (((f' + j) % i : Nat) : Int) := by
              rw [Int.tmod_eq_emod_of_nonneg (by omega), Int.natCast_emod, Int.natCast_add]
            have htm2 : ((f' : Int) + (j : Int)) % (i : Int) = (((f' + j) % i : Nat) : Int) := by rw [Int.natCast_emod, Int.natCast_add]
            have hws1 : IntKind.i64.wrap ((f' : Int) + (j : Int)) = (f' : Int) + (j : Int) := IntWalk.i64_in _ (by omega)
            have hws2 : wrap64 ((f' : Int) + (j : Int)) = (f' : Int) + (j : Int) := IntWalk.wrap64_in _ (by omega)
            have hkn : (f' + j) % i < i := Nat.mod_lt _ (by omega)
            have hkl : (f' + j) % i ≤ 1000000 := by omega
            have Hl2 := Lib.hid (Hl.out.no Hi.out.2.2.2)
            have Hh2 := Lib.hid (Hh.out.no Hi.out.2.2.2)
            have HF2 := Lib.hid Hi.out.2.2.2
            cases hw : wideB lo hi (((f' + j) % i : Nat) : Int) with
            | false =>
              have Hnx := Lib.hid (show ∀ j', j' < j + 1 → tst lo hi rs 1 ((f' + j') % i) = false from fun j' hj' => by
                by_cases e : j' = j
                · subst e; exact hw
                · exact Hi.out.2.1 j' (by omega))
              have Hw := Lib.hid hw
              clear hw
              generalize (f' + j) % i = k at *
              have hwk1 : IntKind.i64.wrap ((k : Nat) : Int) = (k : Int) := IntWalk.i64_in _ (by omega)
              have hwk2 : wrap64 ((k : Nat) : Int) = (k : Int) := IntWalk.wrap64_in _ (by omega)
              go_wp2
              go_upto_region 14 with (fail)
              go_cut [14, 15, 16] (fun v u x wx => ∃ g1 g2, v = .pointer (some ⟨g1, 0, none⟩) ∧ u = .pointer (some ⟨g2, 0, none⟩) ∧ x = .bool false ∧ Hid (Ob wx w.heap.size #[.slice A i cn, .slice B m cm] 25 ∧ Fr No w wx))
              case first =>
                go_region_held3 (fun w' => w'.cell? ⟨w.heap.size, 0, none⟩ = some (.slice A i cn) ∧ w'.cell? ⟨w.heap.size, 1, none⟩ = some (.slice B m cm))
                  ((refine cells2 (t := 25) ?_; (repeat (first | with_reducible assumption | with_reducible refine Ob.other ?_ (by first | (simp; done) | (simp; omega)) _ | ((with_reducible refine Ob.new_ _ _ _ _ ?_) <;> (simp; done)) | with_reducible refine Ob.alloc ?_ _ | with_reducible refine Ob.drew ?_ | with_reducible refine Ob.drewN ?_ _ | with_reducible refine Ob.no ?_ (by assumption)))))
                  (first
                    | (go_at_call 12; ((with_reducible refine (rhal_no (lo := lo) (hi := hi) ?_ ?_ Hw.out).mono ?_); (focus ((have hk := Hl2.out); (repeat (first | with_reducible assumption | ((with_reducible refine Kv.lit_new _ _ _ _ _ _ ?_ ?_ ?_ ?_) <;> (first | (simp; done) | rfl | decide)) | with_reducible exact Kv.none_ _ | with_reducible refine Kv.alloc ?_ _ | with_reducible refine Kv.drew ?_ | with_reducible refine Kv.drewN ?_ _ | with_reducible refine Kv.no ?_ (by assumption))))); (focus ((have hk := Hh2.out); (repeat (first | with_reducible assumption | ((with_reducible refine Kv.lit_new _ _ _ _ _ _ ?_ ?_ ?_ ?_) <;> (first | (simp; done) | rfl | decide)) | with_reducible exact Kv.none_ _ | with_reducible refine Kv.alloc ?_ _ | with_reducible refine Kv.drew ?_ | with_reducible refine Kv.drewN ?_ _ | with_reducible refine Kv.no ?_ (by assumption))))); rintro e w2 ⟨rfl, hf2⟩; have hs2 := hf2.size; (try simp at hs2); (try (refine use_ (a := Ob w2 wr.heap.size #[.slice none 0 0, .slice none 0 0] 25) ?_ (fun zz => ?_); (focus ((repeat (first | with_reducible assumption | with_reducible refine Ob.other ?_ (by first | (simp; done) | (simp; omega)) _ | ((with_reducible refine Ob.new_ _ _ _ _ ?_) <;> (simp; done)) | with_reducible refine Ob.alloc ?_ _ | with_reducible refine Ob.drew ?_ | with_reducible refine Ob.drewN ?_ _ | with_reducible refine Ob.no ?_ (by assumption))); done)); obtain ⟨z0, z1, z2, z3, z4, z5, z6, z7⟩ := Ob.eight zz; clear zz)); (try (refine use_ (a := Ob w2 (wr.heap.size + 1) #[.slice none 0 0, .slice none 0 0] 25) ?_ (fun zz => ?_); (focus ((repeat (first | with_reducible assumption | with_reducible refine Ob.other ?_ (by first | (simp; done) | (simp; omega)) _ | ((with_reducible refine Ob.new_ _ _ _ _ ?_) <;> (simp; done)) | with_reducible refine Ob.alloc ?_ _ | with_reducible refine Ob.drew ?_ | with_reducible refine Ob.drewN ?_ _ | with_reducible refine Ob.no ?_ (by assumption))); done)); obtain ⟨z0, z1, z2, z3, z4, z5, z6, z7⟩ := Ob.eight zz; clear zz))))
                    | fail)
                all_goals
                  go_wp2_with fail
                  go_meet
                  refine ⟨_, _, rfl, rfl, rfl, Lib.hid ⟨?_, ?_⟩⟩
                  all_goals try (first | ((repeat (first | with_reducible assumption | with_reducible refine Ob.other ?_ (by first | (simp; done) | (simp; omega)) _ | ((with_reducible refine Ob.new_ _ _ _ _ ?_) <;> (simp; done)) | with_reducible refine Ob.alloc ?_ _ | with_reducible refine Ob.drew ?_ | with_reducible refine Ob.drewN ?_ _ | with_reducible refine Ob.no ?_ (by assumption))); done) | ((with_reducible refine Ob.put2 (x := .slice none 0 0) (y := .slice none 0 0) ?_ _ _); (repeat (first | with_reducible assumption | with_reducible refine Ob.other ?_ (by first | (simp; done) | (simp; omega)) _ | ((with_reducible refine Ob.new_ _ _ _ _ ?_) <;> (simp; done)) | with_reducible refine Ob.alloc ?_ _ | with_reducible refine Ob.drew ?_ | with_reducible refine Ob.drewN ?_ _ | with_reducible refine Ob.no ?_ (by assumption))); done) | ((repeat (with_reducible refine Ob.other ?_ (by first | (simp; done) | (simp; omega)) _)); (with_reducible refine Ob.put2 (x := .slice none 0 0) (y := .slice none 0 0) ?_ _ _); (repeat (first | with_reducible assumption | with_reducible refine Ob.other ?_ (by first | (simp; done) | (simp; omega)) _ | ((with_reducible refine Ob.new_ _ _ _ _ ?_) <;> (simp; done)) | with_reducible refine Ob.alloc ?_ _ | with_reducible refine Ob.drew ?_ | with_reducible refine Ob.drewN ?_ _ | with_reducible refine Ob.no ?_ (by assumption))); done))
                  all_goals try (have := HF2.out; (repeat (first | with_reducible exact Fr.refl _ _ | with_reducible refine Fr.setCell ?_ (.inr (by first | (simp; done) | (simp; omega))) _ | with_reducible refine Fr.alloc ?_ _ | with_reducible refine Fr.drew ?_ | with_reducible refine Fr.drewN ?_ _ | with_reducible refine Fr.tr ?_ (by assumption))); done)
              case rest =>
                clear x0 x1 hob gl0 Hw Hl2 Hh2 HF2
                obtain ⟨g1, g2, rfl, rfl, rfl, HM⟩ := hcut
                generalize wc = wx at *
                go_wp2
                go_roundw
                case rel => exact ⟨j + 1, by go_num, Lib.hid ⟨Hlt.out, Hnx.out, HM.out.1, HM.out.2⟩⟩
                case measure => have := Hlt.out; simp [intOf]; omega
            | true =>
              obtain ⟨e1, e2⟩ := ch_hit (lo := lo) (hi := hi) (rs := rs) (f := f') (e := 1) (i := j) Hb.out (by omega) (by rw [← HN.out]; exact hlt) (fun e' j h1 h2 => by
                obtain rfl : e' = 0 := by omega
                have := HT0.out j (by rw [HN.out]; exact h2); rwa [HN.out] at this) (fun j' hj => by have := Hi.out.2.1 j' hj; rwa [HN.out] at this) (by rw [← HN.out]; exact hw)
              rw [← HN.out] at e1
              have E1 := Lib.hid e1
              have E2 := Lib.hid e2
              have Hw := Lib.hid hw
              clear hw e1 e2
              generalize (f' + j) % i = k at *
              have hwk1 : IntKind.i64.wrap ((k : Nat) : Int) = (k : Int) := IntWalk.i64_in _ (by omega)
              have hwk2 : wrap64 ((k : Nat) : Int) = (k : Int) := IntWalk.wrap64_in _ (by omega)
              go_wp2
              go_upto_region 14 with (fail)
              go_cut [14, 15, 16] (fun v u x wx => ∃ g1 g2 a1 b1 a2 b2 c1 d1 c2 d2, v = .pointer (some ⟨g1, 0, none⟩) ∧ u = .pointer (some ⟨g2, 0, none⟩) ∧ x = .bool true ∧ Hid (Mq w A i cn B m cm g1 g2 a1 b1 a2 b2 c1 d1 c2 d2 lo (hi.set k (midB lo hi k)) (lo.set k (midB lo hi k + 1)) hi wx))
              case first =>
                go_region_held3 (fun w' => w'.cell? ⟨w.heap.size, 0, none⟩ = some (.slice A i cn) ∧ w'.cell? ⟨w.heap.size, 1, none⟩ = some (.slice B m cm))
                  ((refine cells2 (t := 25) ?_; (repeat (first | with_reducible assumption | with_reducible refine Ob.other ?_ (by first | (simp; done) | (simp; omega)) _ | ((with_reducible refine Ob.new_ _ _ _ _ ?_) <;> (simp; done)) | with_reducible refine Ob.alloc ?_ _ | with_reducible refine Ob.drew ?_ | with_reducible refine Ob.drewN ?_ _ | with_reducible refine Ob.no ?_ (by assumption)))))
                  (first
                    | (go_at_call 12; ((with_reducible refine (rhal_rd (lo := lo) (hi := hi) ?_ ?_ Hw.out).mono ?_); (focus ((have hk := Hl2.out); (repeat (first | with_reducible assumption | ((with_reducible refine Kv.lit_new _ _ _ _ _ _ ?_ ?_ ?_ ?_) <;> (first | (simp; done) | rfl | decide)) | with_reducible exact Kv.none_ _ | with_reducible refine Kv.alloc ?_ _ | with_reducible refine Kv.drew ?_ | with_reducible refine Kv.drewN ?_ _ | with_reducible refine Kv.no ?_ (by assumption))))); (focus ((have hk := Hh2.out); (repeat (first | with_reducible assumption | ((with_reducible refine Kv.lit_new _ _ _ _ _ _ ?_ ?_ ?_ ?_) <;> (first | (simp; done) | rfl | decide)) | with_reducible exact Kv.none_ _ | with_reducible refine Kv.alloc ?_ _ | with_reducible refine Kv.drew ?_ | with_reducible refine Kv.drewN ?_ _ | with_reducible refine Kv.no ?_ (by assumption))))); rintro e w2 ⟨a1, c1, b1, d1, a2, c2, b2, d2, rfl, m1, m2, m3, m4, m5, hf2⟩; have hs2 := hf2.size; (try simp at hs2); (try simp at m5); (try (refine use_ (a := Ob w2 wr.heap.size #[.slice none 0 0, .slice none 0 0] 25) ?_ (fun zz => ?_); (focus ((repeat (first | with_reducible assumption | with_reducible refine Ob.other ?_ (by first | (simp; done) | (simp; omega)) _ | ((with_reducible refine Ob.new_ _ _ _ _ ?_) <;> (simp; done)) | with_reducible refine Ob.alloc ?_ _ | with_reducible refine Ob.drew ?_ | with_reducible refine Ob.drewN ?_ _ | with_reducible refine Ob.no ?_ (by assumption))); done)); obtain ⟨z0, z1, z2, z3, z4, z5, z6, z7⟩ := Ob.eight zz; clear zz)); (try (refine use_ (a := Ob w2 (wr.heap.size + 1) #[.slice none 0 0, .slice none 0 0] 25) ?_ (fun zz => ?_); (focus ((repeat (first | with_reducible assumption | with_reducible refine Ob.other ?_ (by first | (simp; done) | (simp; omega)) _ | ((with_reducible refine Ob.new_ _ _ _ _ ?_) <;> (simp; done)) | with_reducible refine Ob.alloc ?_ _ | with_reducible refine Ob.drew ?_ | with_reducible refine Ob.drewN ?_ _ | with_reducible refine Ob.no ?_ (by assumption))); done)); obtain ⟨z0, z1, z2, z3, z4, z5, z6, z7⟩ := Ob.eight zz; clear zz))))
                    | fail)
                all_goals
                  go_wp2_with fail
                  go_meet
                  refine ⟨_, _, a1, b1, a2, b2, c1, d1, c2, d2, rfl, rfl, rfl, Lib.hid ⟨?_, ?_, ?_, ?_, ?_, ?_, ?_, ?_⟩⟩
                  all_goals try (first | ((repeat (first | with_reducible assumption | with_reducible refine Ob.other ?_ (by first | (simp; done) | (simp; omega)) _ | ((with_reducible refine Ob.new_ _ _ _ _ ?_) <;> (simp; done)) | with_reducible refine Ob.alloc ?_ _ | with_reducible refine Ob.drew ?_ | with_reducible refine Ob.drewN ?_ _ | with_reducible refine Ob.no ?_ (by assumption))); done) | ((with_reducible refine Ob.put2 (x := .slice none 0 0) (y := .slice none 0 0) ?_ _ _); (repeat (first | with_reducible assumption | with_reducible refine Ob.other ?_ (by first | (simp; done) | (simp; omega)) _ | ((with_reducible refine Ob.new_ _ _ _ _ ?_) <;> (simp; done)) | with_reducible refine Ob.alloc ?_ _ | with_reducible refine Ob.drew ?_ | with_reducible refine Ob.drewN ?_ _ | with_reducible refine Ob.no ?_ (by assumption))); done) | ((repeat (with_reducible refine Ob.other ?_ (by first | (simp; done) | (simp; omega)) _)); (with_reducible refine Ob.put2 (x := .slice none 0 0) (y := .slice none 0 0) ?_ _ _); (repeat (first | with_reducible assumption | with_reducible refine Ob.other ?_ (by first | (simp; done) | (simp; omega)) _ | ((with_reducible refine Ob.new_ _ _ _ _ ?_) <;> (simp; done)) | with_reducible refine Ob.alloc ?_ _ | with_reducible refine Ob.drew ?_ | with_reducible refine Ob.drewN ?_ _ | with_reducible refine Ob.no ?_ (by assumption))); done))
                  all_goals try ((repeat (first | with_reducible assumption | with_reducible refine kv_other ?_ (by first | (simp; done) | (simp; omega)) _ | with_reducible refine Kv.alloc ?_ _ | with_reducible refine Kv.drew ?_ | with_reducible refine Kv.drewN ?_ _ | with_reducible refine Kv.no ?_ (by assumption))); done)
                  all_goals try (have := HF2.out; (repeat (first | with_reducible exact Fr.refl _ _ | with_reducible refine Fr.setCell ?_ (.inr (by first | (simp; done) | (simp; omega))) _ | with_reducible refine Fr.alloc ?_ _ | with_reducible refine Fr.drew ?_ | with_reducible refine Fr.drewN ?_ _ | with_reducible refine Fr.tr ?_ (by assumption))); done)
              case rest =>
                clear x0 x1 hob gl0 Hw Hl2 Hh2 HF2
                obtain ⟨g1, g2, a1, b1, a2, b2, c1, d1, c2, d2, rfl, rfl, rfl, HM⟩ := hcut
                generalize wc = wx at *
                go_wp2
                go_ret2
                exact ⟨by rw [E1.out, E2.out]; rfl, HM.out.fr⟩
          · obtain rfl : j = i := by have := Hi.out.1; omega
            obtain ⟨e1, e2⟩ := ch_none (lo := lo) (hi := hi) (rs := rs) (f := f') (fun e' j' h1 h2 => by
              rcases (show e' = 0 ∨ e' = 1 by omega) with rfl | rfl
              · have := HT0.out j' (by rw [HN.out]; exact h2); rwa [HN.out] at this
              · have := Hi.out.2.1 j' (by rw [HN.out]; exact h2); rwa [HN.out] at this)
            have E1 := Lib.hid e1
            have E2 := Lib.hid e2
            clear e1 e2
            go_wp2
            go_ret2
            exact ⟨by rw [E1.out, E2.out]; rfl, Hi.out.2.2.2⟩
end
end Go.Proofs.Ytbncakbgljhnkaa.Qa11
