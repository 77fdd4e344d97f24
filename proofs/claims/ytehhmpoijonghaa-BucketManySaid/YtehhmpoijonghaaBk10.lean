/- Layer 10, laws: what is written; what is read. -/
import Derived.Test.YtehhmpoijonghaaBj10
import Derived.StillTailTactics
namespace Go.Proofs.Ytehhmpoijonghaa.Bk10
open Go.RowKit Go.Proofs.Ytehhmpoijonghaa.Pk08 Go.Proofs.Ytehhmpoijonghaa.Base Go.Proofs.Ytehhmpoijonghaa.App Go.Proofs.Ytehhmpoijonghaa.Ty Go.Proofs.Ytehhmpoijonghaa.Str Go.Proofs.Ytehhmpoijonghaa.Ky Go.Proofs.Ytehhmpoijonghaa.Bx Go.Proofs.Ytehhmpoijonghaa.Kk Go.Proofs.Ytehhmpoijonghaa.Bo Go.Proofs.Ytehhmpoijonghaa.As Go.Proofs.Ytehhmpoijonghaa.Pl08 Go.Proofs.Ytehhmpoijonghaa.Kc08 Go.Proofs.Ytehhmpoijonghaa.Rv Go.Proofs.Ytehhmpoijonghaa.Ra Go.Proofs.Ytehhmpoijonghaa.Rp Go.Proofs.Ytehhmpoijonghaa.Ro Go.Proofs.Ytehhmpoijonghaa.Rk Go.Proofs.Ytehhmpoijonghaa.Rs Go.Proofs.Ytehhmpoijonghaa.Ri Go.Proofs.Ytehhmpoijonghaa.Fa Go.Proofs.Ytehhmpoijonghaa.Ba10 Go.Proofs.Ytehhmpoijonghaa.Bd10 Go.Proofs.Ytehhmpoijonghaa.Bp10 Go.Proofs.Ytehhmpoijonghaa.Be10 Go.Proofs.Ytehhmpoijonghaa.Bf10 Go.Proofs.Ytehhmpoijonghaa.Bg10 Go.Proofs.Ytehhmpoijonghaa.Bh10 Go.Proofs.Ytehhmpoijonghaa.Bj10
set_option linter.unusedVariables false
set_option linter.unusedSimpArgs false
theorem few_tiny {rs : List Rv.Rec} (h : fewB rs = true) : Tiny rs ∧ Short rs ∧ rs.length ≤ 60 := by
  obtain ⟨h1, h2⟩ := fewB_iff.1 h
  have hh : ∀ r ∈ rs, r.1.length ≤ 20 ∧ r.2.size ≤ 100 := fun r hr => by
    obtain ⟨i, hi, rfl⟩ := List.mem_iff_getElem.1 hr
    have := h2 i hi
    have e : rs.getD i rec0 = rs[i] := by simp [List.getD_eq_getElem?_getD, hi]
    rw [e] at this
    exact this
  exact ⟨⟨by omega, fun r hr => by have := hh r hr; omega⟩, ⟨by omega, fun r hr => by have := hh r hr; omega⟩, h1⟩
set_option maxRecDepth 8000 in
set_option maxHeartbeats 3200000 in
theorem law_writes {E1 E2 : TypeId} (w : World) (A : Option Addr) (n c : Nat) (x : List (recT E2).D) (h : Rd (.sl E1 (recT E2)) w x [.slice A n c]) (z : Int) (hz : (Lit.int .i64 z).wf = true) (y : Int) (hy : (Lit.int .i64 y).wf = true) :
    Calls Try.prog 3 #[.slice A n c, .int .i64 z, .int .i64 y] w fun e w' => e = .returned (.bool true) ∧ Fr No w w' := by
  obtain ⟨rs, hr⟩ := Rv.of_rd h
  clear h x hz hy
  have Hr := Lib.hid hr
  clear hr
  cases hf : fewB rs with
  | false =>
    have Hf := Lib.hid hf
    clear hf
    go_enter Try.func3, Try.ntmps3
    go_wp2_with (go_at_call 9; ((with_reducible refine (few_any (rs := rs) ?_).mono ?_); (focus ((have hr := Hr.out); (repeat (first | with_reducible assumption | with_reducible exact Rv.none_ _ | with_reducible refine Rv.alloc ?_ _ | with_reducible refine Rv.drew ?_ | with_reducible refine Rv.drewN ?_ _ | with_reducible refine Rv.no ?_ (by assumption))))); rintro e w1 ⟨rfl, rfl⟩; rw [Hf.out]))
    go_wp2_with (go_at_call 10; ((with_reducible refine (live _).mono ?_); rintro e wl ⟨rfl, hfl⟩))
    go_ret
    exact ⟨rfl, by (repeat (first | with_reducible exact Fr.refl _ _ | with_reducible refine Fr.setCell ?_ (.inr (by first | (simp; done) | (simp; omega))) _ | with_reducible refine Fr.alloc ?_ _ | with_reducible refine Fr.drew ?_ | with_reducible refine Fr.drewN ?_ _ | with_reducible refine Fr.tr ?_ (by assumption)))⟩
  | true =>
    have Hf := Lib.hid hf
    have Ht := Lib.hid (few_tiny hf)
    clear hf
    have HE := fun W => encode_any (w := W) (rs := rs) (A := A) (n := n) (c := c) z y
    have HR := fun W => rencode_any (w := W) (rs := rs) (A := A) (n := n) (c := c) z y
    have HF := fun W => fits_any (w := W) (rs := rs) (A := A) (n := n) (c := c) y
    have HG := fun W => rfits_any (w := W) (rs := rs) (A := A) (n := n) (c := c) y
    have HS := fun W => size_any (w := W) (rs := rs) (A := A) (n := n) (c := c)
    have HT := fun W => rsize_any (w := W) (rs := rs) (A := A) (n := n) (c := c)
    generalize encT rs z y = tx at *
    generalize encE rs z y = ex at *
    generalize fitB rs y = fx at *
    generalize sizeR rs = sz at *
    go_enter Try.func3, Try.ntmps3
    go_wp2_with first
      | (go_at_call 9; ((with_reducible refine (few_any (rs := rs) ?_).mono ?_); (focus ((have hr := Hr.out); (repeat (first | with_reducible assumption | with_reducible exact Rv.none_ _ | with_reducible refine Rv.alloc ?_ _ | with_reducible refine Rv.drew ?_ | with_reducible refine Rv.drewN ?_ _ | with_reducible refine Rv.no ?_ (by assumption))))); rintro e w1 ⟨rfl, rfl⟩; rw [Hf.out]))
      | (go_at_call 11; ((with_reducible refine (HE _ ?_ Ht.out.1).mono ?_); (focus ((have hr := Hr.out); (repeat (first | with_reducible assumption | with_reducible exact Rv.none_ _ | with_reducible refine Rv.alloc ?_ _ | with_reducible refine Rv.drew ?_ | with_reducible refine Rv.drewN ?_ _ | with_reducible refine Rv.no ?_ (by assumption))))); rintro e w2 ⟨rfl, hf2⟩))
      | (go_at_call 12; ((with_reducible refine (HR _ ?_ Ht.out.1).mono ?_); (focus ((have hr := Hr.out); (repeat (first | with_reducible assumption | with_reducible exact Rv.none_ _ | with_reducible refine Rv.alloc ?_ _ | with_reducible refine Rv.drew ?_ | with_reducible refine Rv.drewN ?_ _ | with_reducible refine Rv.no ?_ (by assumption))))); rintro e w3 ⟨rfl, hf3⟩))
      | (go_at_call 13; ((with_reducible refine (HS _ ?_ Ht.out.1).mono ?_); (focus ((have hr := Hr.out); (repeat (first | with_reducible assumption | with_reducible exact Rv.none_ _ | with_reducible refine Rv.alloc ?_ _ | with_reducible refine Rv.drew ?_ | with_reducible refine Rv.drewN ?_ _ | with_reducible refine Rv.no ?_ (by assumption))))); rintro e w4 ⟨rfl, hf4⟩))
      | (go_at_call 14; ((with_reducible refine (HT _ ?_ Ht.out.1).mono ?_); (focus ((have hr := Hr.out); (repeat (first | with_reducible assumption | with_reducible exact Rv.none_ _ | with_reducible refine Rv.alloc ?_ _ | with_reducible refine Rv.drew ?_ | with_reducible refine Rv.drewN ?_ _ | with_reducible refine Rv.no ?_ (by assumption))))); rintro e w5 ⟨rfl, hf5⟩))
      | (go_at_call 15; ((with_reducible refine (HF _ ?_ Ht.out.1).mono ?_); (focus ((have hr := Hr.out); (repeat (first | with_reducible assumption | with_reducible exact Rv.none_ _ | with_reducible refine Rv.alloc ?_ _ | with_reducible refine Rv.drew ?_ | with_reducible refine Rv.drewN ?_ _ | with_reducible refine Rv.no ?_ (by assumption))))); rintro e w6 ⟨rfl, hf6⟩))
      | (go_at_call 16; ((with_reducible refine (HG _ ?_ Ht.out.1).mono ?_); (focus ((have hr := Hr.out); (repeat (first | with_reducible assumption | with_reducible exact Rv.none_ _ | with_reducible refine Rv.alloc ?_ _ | with_reducible refine Rv.drew ?_ | with_reducible refine Rv.drewN ?_ _ | with_reducible refine Rv.no ?_ (by assumption))))); rintro e w7 ⟨rfl, hf7⟩))
      | (go_at_call 10; ((with_reducible refine (live _).mono ?_); rintro e wl ⟨rfl, hfl⟩))
      | fail
    go_ret
    exact ⟨rfl, by (repeat (first | with_reducible exact Fr.refl _ _ | with_reducible refine Fr.setCell ?_ (.inr (by first | (simp; done) | (simp; omega))) _ | with_reducible refine Fr.alloc ?_ _ | with_reducible refine Fr.drew ?_ | with_reducible refine Fr.drewN ?_ _ | with_reducible refine Fr.tr ?_ (by assumption)))⟩
set_option maxRecDepth 8000 in
set_option maxHeartbeats 3200000 in
theorem law_reads (w : World) (s : ByteArray) (hs : s.size ≤ maxLen) (z : Int) (hz : (Lit.int .i64 z).wf = true) (y : Int) (hy : (Lit.int .i64 y).wf = true) :
    Calls Try.prog 4 #[.string s, .int .i64 z, .int .i64 y] w fun e w' => e = .returned (.bool true) ∧ Fr No w w' := by
  clear hz hy
  have hmx : maxLen ≤ 9223372036854775807 := by decide
  by_cases h3 : 300 < s.size
  · go_enter Try.func4, Try.ntmps4
    go_wp2_with (go_at_call 10; ((with_reducible refine (live _).mono ?_); rintro e wl ⟨rfl, hfl⟩))
    go_ret
    exact ⟨rfl, by (repeat (first | with_reducible exact Fr.refl _ _ | with_reducible refine Fr.setCell ?_ (.inr (by first | (simp; done) | (simp; omega))) _ | with_reducible refine Fr.alloc ?_ _ | with_reducible refine Fr.drew ?_ | with_reducible refine Fr.drewN ?_ _ | with_reducible refine Fr.tr ?_ (by assumption)))⟩
  · have hs3 : s.size ≤ 300 := by omega
    have HE := fun W => decode_any (w := W) s z y hs3
    have HR := fun W => rdecode_any (w := W) s z y hs3
    generalize decE s z y = ex at *
    generalize decR s z y = rx at *
    go_enter Try.func4, Try.ntmps4
    go_wp2_with first
      | (go_at_call 17; ((with_reducible refine (HE _).mono ?_); rintro e w2 ⟨A2, n2, c2, rfl, hv2, hf2⟩))
      | (go_at_call 18; ((with_reducible refine (HR _).mono ?_); rintro e w3 ⟨A3, n3, c3, rfl, hv3, hf3⟩))
      | (go_at_call 19; ((with_reducible refine (lS (l := rx) ?_ ?_).mono ?_); (focus (repeat (first | with_reducible assumption | with_reducible exact Rv.none_ _ | with_reducible refine Rv.alloc ?_ _ | with_reducible refine Rv.drew ?_ | with_reducible refine Rv.drewN ?_ _ | with_reducible refine Rv.no ?_ (by assumption)))); (focus (repeat (first | with_reducible assumption | with_reducible exact Rv.none_ _ | with_reducible refine Rv.alloc ?_ _ | with_reducible refine Rv.drew ?_ | with_reducible refine Rv.drewN ?_ _ | with_reducible refine Rv.no ?_ (by assumption)))); rintro e w4 ⟨rfl, hf4⟩))
      | (go_at_call 10; ((with_reducible refine (live _).mono ?_); rintro e wl ⟨rfl, hfl⟩))
      | fail
    go_ret
    exact ⟨rfl, by (repeat (first | with_reducible exact Fr.refl _ _ | with_reducible refine Fr.setCell ?_ (.inr (by first | (simp; done) | (simp; omega))) _ | with_reducible refine Fr.alloc ?_ _ | with_reducible refine Fr.drew ?_ | with_reducible refine Fr.drewN ?_ _ | with_reducible refine Fr.tr ?_ (by assumption)))⟩
end Go.Proofs.Ytehhmpoijonghaa.Bk10
