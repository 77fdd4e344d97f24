/- Layer 11: a box's halves at whatever coordinate; is one of some records in a box. -/
import Derived.Test.YtbncakbgljhnkaaGd
import Derived.Test.YtbncakbgljhnkaaPx11
import Derived.StillTailTactics
namespace Go.Proofs.Ytbncakbgljhnkaa.Py11
open Go.RowKit Go.Proofs.Ytbncakbgljhnkaa.Pk08 Go.Proofs.Ytbncakbgljhnkaa.Base Go.Proofs.Ytbncakbgljhnkaa.App Go.Proofs.Ytbncakbgljhnkaa.Str Go.Proofs.Ytbncakbgljhnkaa.Ky Go.Proofs.Ytbncakbgljhnkaa.Bx Go.Proofs.Ytbncakbgljhnkaa.Bo Go.Proofs.Ytbncakbgljhnkaa.As Go.Proofs.Ytbncakbgljhnkaa.Pl08 Go.Proofs.Ytbncakbgljhnkaa.Kc08 Go.Proofs.Ytbncakbgljhnkaa.Ke08 Go.Proofs.Ytbncakbgljhnkaa.Kh08 Go.Proofs.Ytbncakbgljhnkaa.Px16 Go.Proofs.Ytbncakbgljhnkaa.Ha16 Go.Proofs.Ytbncakbgljhnkaa.Hb16 Go.Proofs.Ytbncakbgljhnkaa.Hc16 Go.Proofs.Ytbncakbgljhnkaa.Rv Go.Proofs.Ytbncakbgljhnkaa.Ro Go.Proofs.Ytbncakbgljhnkaa.Rk
set_option linter.unusedVariables false
set_option linter.unusedSimpArgs false
def l1 (lo hi : List Nat) (i : Int) : List Nat := if wideB lo hi i = true then lo else []
def h1 (lo hi : List Nat) (i : Int) : List Nat := if wideB lo hi i = true then hi.set i.toNat (midB lo hi i.toNat) else []
def l2 (lo hi : List Nat) (i : Int) : List Nat := if wideB lo hi i = true then lo.set i.toNat (midB lo hi i.toNat + 1) else []
def h2 (lo hi : List Nat) (i : Int) : List Nat := if wideB lo hi i = true then hi else []
/-- Two boxes are returned, and whether there are such. -/
def HalAny (w : World) (lo hi : List Nat) (i : Int) (e : Ending) (w' : World) : Prop :=
  ∃ A na ca B nb cb C nc cc D nd cd, e = .returned (.tuple #[.agg #[.slice A na ca, .slice B nb cb], .agg #[.slice C nc cc, .slice D nd cd], .bool (wideB lo hi i)]) ∧
    Kv w' A na ca (l1 lo hi i) ∧ Kv w' B nb cb (h1 lo hi i) ∧ Kv w' C nc cc (l2 lo hi i) ∧ Kv w' D nd cd (h2 lo hi i) ∧ Fr No w w'
theorem set_lt {l : List Nat} {j x : Nat} (hl : ∀ y ∈ l, y < 4294967296) (hx : x < 4294967296) : ∀ y ∈ l.set j x, y < 4294967296 := by
  intro y hy
  rcases List.mem_or_eq_of_mem_set hy with h | h
  · exact hl y h
  · omega
section
variable {w : World} {A B : Option Addr} {n cn m cm : Nat} {lo hi : List Nat}
theorem mid_lt {j : Nat} (hl : Kv w A n cn lo) (hh : Kv w B m cm hi) (hb : wideB lo hi j = true) : midB lo hi j + 1 < 4294967296 := by
  unfold wideB at hb
  rw [Bool.and_eq_true, decide_eq_true_eq, Int.toNat_natCast] at hb
  have := hh.ltD j
  have := hb.2
  unfold midB
  omega
theorem wide_has {i : Int} (h : wideB lo hi i = true) : hasB lo hi i = true := by
  unfold wideB at h
  exact (Bool.and_eq_true _ _ ▸ h).1
theorem halves_any (i : Int) (hl : Kv w A n cn lo) (hh : Kv w B m cm hi) :
    Calls Try.prog 11 #[.agg #[.slice A n cn, .slice B m cm], .int .i64 i] w (HalAny w lo hi i) := by
  cases hw : wideB lo hi i with
  | false =>
    refine (halves_no i hl hh hw).mono ?_
    rintro e w' ⟨rfl, hf⟩
    refine ⟨none, 0, 0, none, 0, 0, none, 0, 0, none, 0, 0, by rw [hw], ?_, ?_, ?_, ?_, hf⟩
    · unfold l1; rw [hw]; exact Kv.none_ _
    · unfold h1; rw [hw]; exact Kv.none_ _
    · unfold l2; rw [hw]; exact Kv.none_ _
    · unfold h2; rw [hw]; exact Kv.none_ _
  | true =>
    obtain ⟨j, rfl⟩ : ∃ j : Nat, i = (j : Int) := ⟨i.toNat, by have := (hasB_iff.1 (wide_has hw)).1; omega⟩
    obtain ⟨p1, p2, p3, p4⟩ := has_parts (wide_has hw)
    obtain rfl : n = m := by have := hl.len; have := hh.len; omega
    refine (halves_yes j hl hh hw).mono ?_
    rintro e w' ⟨a, ca, b, cb, c, cc, d, cd, rfl, q1, q2, q3, q4, _, _, _, _, hf⟩
    have hm := mid_lt hl hh hw
    refine ⟨_, n, ca, _, n, cb, _, n, cc, _, n, cd, by rw [hw], ?_, ?_, ?_, ?_, hf⟩
    · unfold l1; rw [if_pos hw]; exact Kv.of_own q1 hl.lt
    · unfold h1; rw [if_pos hw, Int.toNat_natCast]; exact Kv.of_own q2 (set_lt hh.lt (by omega))
    · unfold l2; rw [if_pos hw, Int.toNat_natCast]; exact Kv.of_own q3 (set_lt hl.lt hm)
    · unfold h2; rw [if_pos hw]; exact Kv.of_own q4 hh.lt
theorem rhalves_any (i : Int) (hl : Kv w A n cn lo) (hh : Kv w B m cm hi) :
    Calls Try.prog 12 #[.agg #[.slice A n cn, .slice B m cm], .int .i64 i] w (HalAny w lo hi i) := by
  cases hw : wideB lo hi i with
  | false =>
    have key : Calls Try.prog 12 #[.agg #[.slice A n cn, .slice B m cm], .int .i64 i] w fun e w' => e = .returned (.tuple #[.agg #[.slice none 0 0, .slice none 0 0], .agg #[.slice none 0 0, .slice none 0 0], .bool false]) ∧ Fr No w w' := by
      cases hb : hasB lo hi i with
      | false => exact rhalves_out i hl hh hb
      | true =>
        obtain ⟨j, rfl⟩ : ∃ j : Nat, i = (j : Int) := ⟨i.toNat, by have := (hasB_iff.1 hb).1; omega⟩
        obtain ⟨p1, p2, p3, p4⟩ := has_parts hb
        refine rhalves_thin j hl hh hb ?_
        unfold wideB at hw
        rw [hb, Bool.true_and, Int.toNat_natCast] at hw
        have := of_decide_eq_false hw
        omega
    refine key.mono ?_
    rintro e w' ⟨rfl, hf⟩
    refine ⟨none, 0, 0, none, 0, 0, none, 0, 0, none, 0, 0, by rw [hw], ?_, ?_, ?_, ?_, hf⟩
    · unfold l1; rw [hw]; exact Kv.none_ _
    · unfold h1; rw [hw]; exact Kv.none_ _
    · unfold l2; rw [hw]; exact Kv.none_ _
    · unfold h2; rw [hw]; exact Kv.none_ _
  | true =>
    obtain ⟨j, rfl⟩ : ∃ j : Nat, i = (j : Int) := ⟨i.toNat, by have := (hasB_iff.1 (wide_has hw)).1; omega⟩
    obtain ⟨p1, p2, p3, p4⟩ := has_parts (wide_has hw)
    obtain rfl : n = m := by have := hl.len; have := hh.len; omega
    refine (rhalves_yes j hl hh hw).mono ?_
    rintro e w' ⟨a, ca, b, cb, c, cc, d, cd, rfl, q1, q2, q3, q4, _, _, _, _, hf⟩
    have hm := mid_lt hl hh hw
    refine ⟨_, n, ca, _, n, cb, _, n, cc, _, n, cd, by rw [hw], ?_, ?_, ?_, ?_, hf⟩
    · unfold l1; rw [if_pos hw]; exact Kv.of_own q1 hl.lt
    · unfold h1; rw [if_pos hw, Int.toNat_natCast]; exact Kv.of_own q2 (set_lt hh.lt (by omega))
    · unfold l2; rw [if_pos hw, Int.toNat_natCast]; exact Kv.of_own q3 (set_lt hl.lt hm)
    · unfold h2; rw [if_pos hw]; exact Kv.of_own q4 hh.lt
end
/-- Is one of some records in a box? -/
def anyIn (rs : List Rv.Rec) (lo hi : List Nat) : Bool := rs.any (fun r => inB r.1 lo hi)
theorem anyIn_yes {rs : List Rv.Rec} {lo hi : List Nat} (j : Nat) (hj : j < rs.length) (h : inB (rs.getD j rec0).1 lo hi = true) : anyIn rs lo hi = true := by
  have e : rs.getD j rec0 = rs[j] := by simp [List.getD_eq_getElem?_getD, hj]
  rw [e] at h
  exact List.any_eq_true.2 ⟨_, List.getElem_mem hj, h⟩
theorem anyIn_no {rs : List Rv.Rec} {lo hi : List Nat} (h : ∀ j, j < rs.length → inB (rs.getD j rec0).1 lo hi = false) : anyIn rs lo hi = false := by
  unfold anyIn
  rw [List.any_eq_false]
  intro r hr
  obtain ⟨j, hj, rfl⟩ := List.mem_iff_getElem.1 hr
  have := h j hj
  have e : rs.getD j rec0 = rs[j] := by simp [List.getD_eq_getElem?_getD, hj]
  rw [e] at this
  rw [this]; decide
section
variable {w : World} {A B C : Option Addr} {n c p cp q cq : Nat} {rs : List Rv.Rec} {lo hi : List Nat}
set_option maxHeartbeats 1600000 in
theorem rin11_any (hr : Rv w A n c rs) (hl : Kv w B p cp lo) (hh : Kv w C q cq hi) :
    Calls Try.prog 40 #[.slice A n c, .agg #[.slice B p cp, .slice C q cq]] w fun e w' => e = .returned (.bool (anyIn rs lo hi)) ∧ Fr No w w' := by
  have hn := hr.len_le
  have Hr := Lib.hid hr
  have Hl := Lib.hid hl
  have Hh := Lib.hid hh
  have HN := Lib.hid hr.len
  clear hr hl hh
  go_enter Try.func40, Try.ntmps40
  go_wp2
  go_loopw [5] (fun v wr => ∃ i : Nat, v = .int .i64 i ∧ Hid (i ≤ n ∧ (∀ j, j < i → inB (rs.getD j rec0).1 lo hi = false) ∧ Ob wr w.heap.size #[.slice B p cp, .slice C q cq] 25 ∧ Fr No w wr)) (fun v _ => n - (intOf v).toNat)
  case atStart => exact ⟨0, rfl, Lib.hid ⟨Nat.zero_le _, fun j hj => by omega, by (repeat (first | with_reducible assumption | with_reducible refine Ob.other ?_ (by first | (simp; done) | (simp; omega)) _ | ((with_reducible refine Ob.new_ _ _ _ _ ?_) <;> (simp; done)) | with_reducible refine Ob.alloc ?_ _ | with_reducible refine Ob.drew ?_ | with_reducible refine Ob.drewN ?_ _ | with_reducible refine Ob.no ?_ (by assumption))), by (repeat (first | with_reducible exact Fr.refl _ _ | with_reducible refine Fr.setCell ?_ (.inr (by first | (simp; done) | (simp; omega))) _ | with_reducible refine Fr.alloc ?_ _ | with_reducible refine Fr.drew ?_ | with_reducible refine Fr.drewN ?_ _ | with_reducible refine Fr.tr ?_ (by assumption)))⟩⟩
  case round =>
    obtain ⟨i, rfl, Hi⟩ := hrel
    by_cases hlt : i < n
    · obtain ⟨b, off, KA, kc, rfl, a0, a1, hka, hza⟩ := (Hr.out.no Hi.out.2.2.2).get i (by rw [← HN.out]; exact hlt)
      have Hlt := Lib.hid hlt
      have HB := Lib.hid Hi.out.2.2.1
      obtain ⟨x0, x1⟩ := cells2 HB.out
      have Hyes := Lib.hid (anyIn_yes (rs := rs) (lo := lo) (hi := hi) i (by rw [← HN.out]; exact hlt))
      have Hnx := Lib.hid (show inB (rs.getD i rec0).1 lo hi = false → ∀ j, j < i + 1 → inB (rs.getD j rec0).1 lo hi = false from fun h j hj => by
        by_cases e : j = i
        · subst e; exact h
        · exact Hi.out.2.1 j (by omega))
      have Hk := Lib.hid hka
      have Hl2 := Lib.hid (Hl.out.no Hi.out.2.2.2)
      have Hh2 := Lib.hid (Hh.out.no Hi.out.2.2.2)
      clear hka
      generalize hrr : rs.getD i rec0 = r at *
      clear hrr
      obtain ⟨ks, s⟩ := r
      simp only at *
      cases hin : inB ks lo hi with
      | true =>
        have E := Lib.hid (Hyes.out hin)
        have HI := Lib.hid hin
        clear hin
        go_wp2
        go_region_held3 (fun w' => w'.cell? ⟨b, off + i * 2, none⟩ = some (.slice KA ks.length kc) ∧ w'.cell? ⟨w.heap.size, 0, none⟩ = some (.slice B p cp) ∧ w'.cell? ⟨w.heap.size, 1, none⟩ = some (.slice C q cq)) ((refine ⟨?_, ?_, ?_⟩; (repeat (first | with_reducible assumption | with_reducible refine cel_alloc ?_ _ | with_reducible refine cel_drew ?_ | with_reducible refine cel_drewN ?_ _ | with_reducible refine cel_set ?_ (by first | (simp; done) | (simp; omega)) _ | with_reducible refine cel_no ?_ (by assumption))); (repeat (first | with_reducible assumption | with_reducible refine cel_alloc ?_ _ | with_reducible refine cel_drew ?_ | with_reducible refine cel_drewN ?_ _ | with_reducible refine cel_set ?_ (by first | (simp; done) | (simp; omega)) _ | with_reducible refine cel_no ?_ (by assumption))); (repeat (first | with_reducible assumption | with_reducible refine cel_alloc ?_ _ | with_reducible refine cel_drew ?_ | with_reducible refine cel_drewN ?_ _ | with_reducible refine cel_set ?_ (by first | (simp; done) | (simp; omega)) _ | with_reducible refine cel_no ?_ (by assumption)))))
          ((go_at_call 24; ((with_reducible refine (rin_any (k := ks) (lo := lo) (hi := hi) ?_ ?_ ?_).mono ?_); (focus ((have hk := Hk.out); (repeat (first | with_reducible assumption | ((with_reducible refine Kv.lit_new _ _ _ _ _ _ ?_ ?_ ?_ ?_) <;> (first | (simp; done) | rfl | decide)) | with_reducible exact Kv.none_ _ | with_reducible refine Kv.alloc ?_ _ | with_reducible refine Kv.drew ?_ | with_reducible refine Kv.drewN ?_ _ | with_reducible refine Kv.no ?_ (by assumption))))); (focus ((have hk := Hl2.out); (repeat (first | with_reducible assumption | ((with_reducible refine Kv.lit_new _ _ _ _ _ _ ?_ ?_ ?_ ?_) <;> (first | (simp; done) | rfl | decide)) | with_reducible exact Kv.none_ _ | with_reducible refine Kv.alloc ?_ _ | with_reducible refine Kv.drew ?_ | with_reducible refine Kv.drewN ?_ _ | with_reducible refine Kv.no ?_ (by assumption))))); (focus ((have hk := Hh2.out); (repeat (first | with_reducible assumption | ((with_reducible refine Kv.lit_new _ _ _ _ _ _ ?_ ?_ ?_ ?_) <;> (first | (simp; done) | rfl | decide)) | with_reducible exact Kv.none_ _ | with_reducible refine Kv.alloc ?_ _ | with_reducible refine Kv.drew ?_ | with_reducible refine Kv.drewN ?_ _ | with_reducible refine Kv.no ?_ (by assumption))))); rintro e w5 ⟨rfl, hf5⟩; rw [HI.out])))
        go_wp2
        go_ret
        exact ⟨by rw [E.out]; rfl, by have := Hi.out.2.2.2; (repeat (first | with_reducible exact Fr.refl _ _ | with_reducible refine Fr.setCell ?_ (.inr (by first | (simp; done) | (simp; omega))) _ | with_reducible refine Fr.alloc ?_ _ | with_reducible refine Fr.drew ?_ | with_reducible refine Fr.drewN ?_ _ | with_reducible refine Fr.tr ?_ (by assumption)))⟩
      | false =>
        have E := Lib.hid (Hnx.out hin)
        have HI := Lib.hid hin
        clear hin
        go_wp2
        go_region_held3 (fun w' => w'.cell? ⟨b, off + i * 2, none⟩ = some (.slice KA ks.length kc) ∧ w'.cell? ⟨w.heap.size, 0, none⟩ = some (.slice B p cp) ∧ w'.cell? ⟨w.heap.size, 1, none⟩ = some (.slice C q cq)) ((refine ⟨?_, ?_, ?_⟩; (repeat (first | with_reducible assumption | with_reducible refine cel_alloc ?_ _ | with_reducible refine cel_drew ?_ | with_reducible refine cel_drewN ?_ _ | with_reducible refine cel_set ?_ (by first | (simp; done) | (simp; omega)) _ | with_reducible refine cel_no ?_ (by assumption))); (repeat (first | with_reducible assumption | with_reducible refine cel_alloc ?_ _ | with_reducible refine cel_drew ?_ | with_reducible refine cel_drewN ?_ _ | with_reducible refine cel_set ?_ (by first | (simp; done) | (simp; omega)) _ | with_reducible refine cel_no ?_ (by assumption))); (repeat (first | with_reducible assumption | with_reducible refine cel_alloc ?_ _ | with_reducible refine cel_drew ?_ | with_reducible refine cel_drewN ?_ _ | with_reducible refine cel_set ?_ (by first | (simp; done) | (simp; omega)) _ | with_reducible refine cel_no ?_ (by assumption)))))
          ((go_at_call 24; ((with_reducible refine (rin_any (k := ks) (lo := lo) (hi := hi) ?_ ?_ ?_).mono ?_); (focus ((have hk := Hk.out); (repeat (first | with_reducible assumption | ((with_reducible refine Kv.lit_new _ _ _ _ _ _ ?_ ?_ ?_ ?_) <;> (first | (simp; done) | rfl | decide)) | with_reducible exact Kv.none_ _ | with_reducible refine Kv.alloc ?_ _ | with_reducible refine Kv.drew ?_ | with_reducible refine Kv.drewN ?_ _ | with_reducible refine Kv.no ?_ (by assumption))))); (focus ((have hk := Hl2.out); (repeat (first | with_reducible assumption | ((with_reducible refine Kv.lit_new _ _ _ _ _ _ ?_ ?_ ?_ ?_) <;> (first | (simp; done) | rfl | decide)) | with_reducible exact Kv.none_ _ | with_reducible refine Kv.alloc ?_ _ | with_reducible refine Kv.drew ?_ | with_reducible refine Kv.drewN ?_ _ | with_reducible refine Kv.no ?_ (by assumption))))); (focus ((have hk := Hh2.out); (repeat (first | with_reducible assumption | ((with_reducible refine Kv.lit_new _ _ _ _ _ _ ?_ ?_ ?_ ?_) <;> (first | (simp; done) | rfl | decide)) | with_reducible exact Kv.none_ _ | with_reducible refine Kv.alloc ?_ _ | with_reducible refine Kv.drew ?_ | with_reducible refine Kv.drewN ?_ _ | with_reducible refine Kv.no ?_ (by assumption))))); rintro e w5 ⟨rfl, hf5⟩; rw [HI.out])))
        go_wp2
        go_roundw
        case rel => exact ⟨i + 1, by go_num, Lib.hid ⟨Hlt.out, E.out, (by have h := HB.out; (repeat (first | with_reducible assumption | with_reducible refine Ob.other ?_ (by first | (simp; done) | (simp; omega)) _ | ((with_reducible refine Ob.new_ _ _ _ _ ?_) <;> (simp; done)) | with_reducible refine Ob.alloc ?_ _ | with_reducible refine Ob.drew ?_ | with_reducible refine Ob.drewN ?_ _ | with_reducible refine Ob.no ?_ (by assumption)))), by have := Hi.out.2.2.2; (repeat (first | with_reducible exact Fr.refl _ _ | with_reducible refine Fr.setCell ?_ (.inr (by first | (simp; done) | (simp; omega))) _ | with_reducible refine Fr.alloc ?_ _ | with_reducible refine Fr.drew ?_ | with_reducible refine Fr.drewN ?_ _ | with_reducible refine Fr.tr ?_ (by assumption)))⟩⟩
        case measure => have := Hlt.out; simp [intOf]; omega
    · obtain rfl : i = n := by have := Hi.out.1; omega
      have E := Lib.hid (show anyIn rs lo hi = false from anyIn_no (fun j hj => Hi.out.2.1 j (by rw [HN.out]; exact hj)))
      go_wp2
      go_ret
      exact ⟨by rw [E.out]; rfl, Hi.out.2.2.2⟩
/-- The test that the program hands on. -/
theorem test_any {K : Option Addr} {kn kc g : Nat} {ks : List Nat} {s : ByteArray} (hb : Ob w g #[.slice B p cp, .slice C q cq] 25) (hk : Kv w K kn kc ks) (hl : Kv w B p cp lo) (hh : Kv w C q cq hi) :
    Calls Try.prog 37 #[.agg #[.slice K kn kc, .string s], .pointer (some ⟨g, 0, none⟩)] w fun e w' => e = .returned (.bool (inB ks lo hi)) ∧ Fr No w w' := by
  have Hb := Lib.hid hb
  have Hk := Lib.hid hk
  have Hl := Lib.hid hl
  have Hh := Lib.hid hh
  obtain ⟨x0, x1⟩ := cells2 (hb.alloc (.cells #[.slice K kn kc, .string s] 48))
  clear hb hk hl hh
  go_enter Try.func37, Try.ntmps37
  go_wp2_with (go_at_call 38; ((with_reducible refine (in_any (k := ks) (lo := lo) (hi := hi) ?_ ?_ ?_).mono ?_); (focus ((have hk := Hk.out); (repeat (first | with_reducible assumption | ((with_reducible refine Kv.lit_new _ _ _ _ _ _ ?_ ?_ ?_ ?_) <;> (first | (simp; done) | rfl | decide)) | with_reducible exact Kv.none_ _ | with_reducible refine Kv.alloc ?_ _ | with_reducible refine Kv.drew ?_ | with_reducible refine Kv.drewN ?_ _ | with_reducible refine Kv.no ?_ (by assumption))))); (focus ((have hk := Hl.out); (repeat (first | with_reducible assumption | ((with_reducible refine Kv.lit_new _ _ _ _ _ _ ?_ ?_ ?_ ?_) <;> (first | (simp; done) | rfl | decide)) | with_reducible exact Kv.none_ _ | with_reducible refine Kv.alloc ?_ _ | with_reducible refine Kv.drew ?_ | with_reducible refine Kv.drewN ?_ _ | with_reducible refine Kv.no ?_ (by assumption))))); (focus ((have hk := Hh.out); (repeat (first | with_reducible assumption | ((with_reducible refine Kv.lit_new _ _ _ _ _ _ ?_ ?_ ?_ ?_) <;> (first | (simp; done) | rfl | decide)) | with_reducible exact Kv.none_ _ | with_reducible refine Kv.alloc ?_ _ | with_reducible refine Kv.drew ?_ | with_reducible refine Kv.drewN ?_ _ | with_reducible refine Kv.no ?_ (by assumption))))); rintro e w5 ⟨rfl, hf5⟩))
  go_ret
  exact ⟨rfl, by (repeat (first | with_reducible exact Fr.refl _ _ | with_reducible refine Fr.setCell ?_ (.inr (by first | (simp; done) | (simp; omega))) _ | with_reducible refine Fr.alloc ?_ _ | with_reducible refine Fr.drew ?_ | with_reducible refine Fr.drewN ?_ _ | with_reducible refine Fr.tr ?_ (by assumption)))⟩
set_option maxHeartbeats 1600000 in
theorem index_any {g : Nat} (hr : Rv w A n c rs) (hb : Ob w g #[.slice B p cp, .slice C q cq] 25) (hl : Kv w B p cp lo) (hh : Kv w C q cq hi) :
    Calls Try.prog 49 #[.slice A n c, .func (.func 37) #[] #[.pointer (some ⟨g, 0, none⟩)]] w fun e w' => ∃ z : Int, e = .returned (.int .i64 z) ∧ decide (0 ≤ z) = anyIn rs lo hi ∧ Fr No w w' := by
  have hn := hr.len_le
  have Hr := Lib.hid hr
  have Hb := Lib.hid hb
  have Hl := Lib.hid hl
  have Hh := Lib.hid hh
  have HN := Lib.hid hr.len
  clear hr hl hh hb
  go_enter Try.func49, Try.ntmps49
  go_wp2
  go_loopw [8] (fun v wr => ∃ i : Nat, v = .int .i64 i ∧ Hid (i ≤ n ∧ (∀ j, j < i → inB (rs.getD j rec0).1 lo hi = false) ∧ Fr No w wr)) (fun v _ => n - (intOf v).toNat)
  case atStart => exact ⟨0, rfl, Lib.hid ⟨Nat.zero_le _, fun j hj => by omega, Fr.refl _ _⟩⟩
  case round =>
    obtain ⟨i, rfl, Hi⟩ := hrel
    by_cases hlt : i < n
    · obtain ⟨b, off, KA, kc, rfl, a0, a1, hka, hza⟩ := (Hr.out.no Hi.out.2.2).get i (by rw [← HN.out]; exact hlt)
      have Hlt := Lib.hid hlt
      have HB := Lib.hid (Hb.out.no Hi.out.2.2)
      have Hyes := Lib.hid (anyIn_yes (rs := rs) (lo := lo) (hi := hi) i (by rw [← HN.out]; exact hlt))
      have Hnx := Lib.hid (show inB (rs.getD i rec0).1 lo hi = false → ∀ j, j < i + 1 → inB (rs.getD j rec0).1 lo hi = false from fun h j hj => by
        by_cases e : j = i
        · subst e; exact h
        · exact Hi.out.2.1 j (by omega))
      have Hk := Lib.hid hka
      have Hl2 := Lib.hid (Hl.out.no Hi.out.2.2)
      have Hh2 := Lib.hid (Hh.out.no Hi.out.2.2)
      clear hka
      generalize hrr : rs.getD i rec0 = r at *
      clear hrr
      obtain ⟨ks, s⟩ := r
      simp only at *
      cases hin : inB ks lo hi with
      | true =>
        have E := Lib.hid (Hyes.out hin)
        have HI := Lib.hid hin
        clear hin
        go_wp2_with (go_at_call 37; ((with_reducible refine (test_any (ks := ks) (lo := lo) (hi := hi) HB.out Hk.out Hl2.out Hh2.out).mono ?_); rintro e w5 ⟨rfl, hf5⟩; rw [HI.out]))
        go_ret
        exact ⟨(i : Int), rfl, by rw [E.out]; exact decide_eq_true (by omega), by have := Hi.out.2.2; (repeat (first | with_reducible exact Fr.refl _ _ | with_reducible refine Fr.setCell ?_ (.inr (by first | (simp; done) | (simp; omega))) _ | with_reducible refine Fr.alloc ?_ _ | with_reducible refine Fr.drew ?_ | with_reducible refine Fr.drewN ?_ _ | with_reducible refine Fr.tr ?_ (by assumption)))⟩
      | false =>
        have E := Lib.hid (Hnx.out hin)
        have HI := Lib.hid hin
        clear hin
        go_wp2_with (go_at_call 37; ((with_reducible refine (test_any (ks := ks) (lo := lo) (hi := hi) HB.out Hk.out Hl2.out Hh2.out).mono ?_); rintro e w5 ⟨rfl, hf5⟩; rw [HI.out]))
        go_roundw
        case rel => exact ⟨i + 1, by go_num, Lib.hid ⟨Hlt.out, E.out, by have := Hi.out.2.2; (repeat (first | with_reducible exact Fr.refl _ _ | with_reducible refine Fr.setCell ?_ (.inr (by first | (simp; done) | (simp; omega))) _ | with_reducible refine Fr.alloc ?_ _ | with_reducible refine Fr.drew ?_ | with_reducible refine Fr.drewN ?_ _ | with_reducible refine Fr.tr ?_ (by assumption)))⟩⟩
        case measure => have := Hlt.out; simp [intOf]; omega
    · obtain rfl : i = n := by have := Hi.out.1; omega
      have E := Lib.hid (show anyIn rs lo hi = false from anyIn_no (fun j hj => Hi.out.2.1 j (by rw [HN.out]; exact hj)))
      go_wp2
      go_ret
      exact ⟨-1, rfl, by rw [E.out]; rfl, Hi.out.2.2⟩
theorem contains_any {g : Nat} (hr : Rv w A n c rs) (hb : Ob w g #[.slice B p cp, .slice C q cq] 25) (hl : Kv w B p cp lo) (hh : Kv w C q cq hi) :
    Calls Try.prog 36 #[.slice A n c, .func (.func 37) #[] #[.pointer (some ⟨g, 0, none⟩)]] w fun e w' => e = .returned (.bool (anyIn rs lo hi)) ∧ Fr No w w' := by
  have hI := index_any hr hb hl hh
  clear hr hb hl hh
  go_enter Try.func36, Try.ntmps36
  go_wp2_with (go_at_call 49; ((with_reducible refine hI.mono ?_); rintro e w5 ⟨z, rfl, hz, hf5⟩))
  go_ret
  exact ⟨by rw [← hz]; rfl, hf5⟩
/-- Is one of the records that the outer function holds in a box? -/
theorem inbox_any {gl : Nat} (hx : Ob w gl #[.slice A n c] 26) (hr : Rv w A n c rs) (hl : Kv w B p cp lo) (hh : Kv w C q cq hi) :
    Calls Try.prog 35 #[.agg #[.slice B p cp, .slice C q cq], .pointer (some ⟨gl, 0, none⟩)] w fun e w' => e = .returned (.bool (anyIn rs lo hi)) ∧ Fr No w w' := by
  have x0 := (hx.alloc (.cells #[.slice B p cp, .slice C q cq] 25)).cell 0 rfl
  have hc := contains_any (hr.alloc (.cells #[.slice B p cp, .slice C q cq] 25)) (Ob.new w _ _) (hl.alloc _) (hh.alloc _)
  clear hx hr hl hh
  go_enter Try.func35, Try.ntmps35
  go_wp2_with (go_at_call 36; ((with_reducible refine hc.mono ?_); rintro e w5 ⟨rfl, hf5⟩))
  go_ret
  exact ⟨rfl, by (repeat (first | with_reducible exact Fr.refl _ _ | with_reducible refine Fr.setCell ?_ (.inr (by first | (simp; done) | (simp; omega))) _ | with_reducible refine Fr.alloc ?_ _ | with_reducible refine Fr.drew ?_ | with_reducible refine Fr.drewN ?_ _ | with_reducible refine Fr.tr ?_ (by assumption)))⟩
end
end Go.Proofs.Ytbncakbgljhnkaa.Py11
