/- Layer 18: the chains that a box meets (the document's). -/
import Derived.Test.YtplpgneckfmjpaaLd18
import Derived.Test.YtplpgneckfmjpaaGc
namespace Go.Proofs.Ytplpgneckfmjpaa.Le18
open Go.RowKit Go.Proofs.Ytplpgneckfmjpaa.Pk08 Go.Proofs.Ytplpgneckfmjpaa.Base Go.Proofs.Ytplpgneckfmjpaa.App Go.Proofs.Ytplpgneckfmjpaa.Ky Go.Proofs.Ytplpgneckfmjpaa.Iv Go.Proofs.Ytplpgneckfmjpaa.Bx Go.Proofs.Ytplpgneckfmjpaa.Kk Go.Proofs.Ytplpgneckfmjpaa.Bo Go.Proofs.Ytplpgneckfmjpaa.As Go.Proofs.Ytplpgneckfmjpaa.Pl08 Go.Proofs.Ytplpgneckfmjpaa.Kc08 Go.Proofs.Ytplpgneckfmjpaa.Kh08 Go.Proofs.Ytplpgneckfmjpaa.Kj08 Go.Proofs.Ytplpgneckfmjpaa.Km08 Go.Proofs.Ytplpgneckfmjpaa.Ky08 Go.Proofs.Ytplpgneckfmjpaa.Px16 Go.Proofs.Ytplpgneckfmjpaa.Py16 Go.Proofs.Ytplpgneckfmjpaa.Pz18 Go.Proofs.Ytplpgneckfmjpaa.Hd16 Go.Proofs.Ytplpgneckfmjpaa.Hg16 Go.Proofs.Ytplpgneckfmjpaa.Hi16 Go.Proofs.Ytplpgneckfmjpaa.Hj16 Go.Proofs.Ytplpgneckfmjpaa.Hk16 Go.Proofs.Ytplpgneckfmjpaa.Lz18 Go.Proofs.Ytplpgneckfmjpaa.La18 Go.Proofs.Ytplpgneckfmjpaa.Lb18 Go.Proofs.Ytplpgneckfmjpaa.Lc18 Go.Proofs.Ytplpgneckfmjpaa.Ld18
set_option linter.unusedVariables false
set_option linter.unusedSimpArgs false
attribute [local go_sem ↓ high] builtin_app
def lrOk (lo hi : List Nat) (l n : Int) : Bool := lvOk l n && decide (chkB lo hi lo.length = 0)
def fc (d l n : Nat) (lo hi : List Nat) (i : Nat) : List Nat := (List.range i).filter (fun j => mc d l n j lo hi)
def lrL (lo hi : List Nat) (l n : Int) : List Int := if lrOk lo hi l n = true then ints (fc lo.length l.toNat n.toNat lo hi (2 ^ l.toNat + n.toNat)) else []
def lrE (lo hi : List Nat) (l n : Int) : Int := if lrOk lo hi l n = true then 0 else 1
theorem fc_succ (d l n : Nat) (lo hi : List Nat) (i : Nat) : fc d l n lo hi (i + 1) = fc d l n lo hi i ++ if mc d l n i lo hi = true then [i] else [] := by
  unfold fc
  rw [List.range_succ, List.filter_append]
  congr 1
  simp only [List.filter_cons, List.filter_nil]
theorem fc_len (d l n : Nat) (lo hi : List Nat) (i : Nat) : (fc d l n lo hi i).length ≤ i := by
  have := List.length_filter_le (fun j => mc d l n j lo hi) (List.range i)
  unfold fc
  simpa using this
theorem ints_wf2 {l : List Nat} {B : Nat} (hB : B ≤ 1000000) (h : ∀ x ∈ l, x < B) : ∀ i, i < (ints l).length → -9223372036854775808 ≤ (ints l).getD i 0 ∧ (ints l).getD i 0 ≤ 9223372036854775807 := by
  intro i hi'
  have hlen : i < l.length := by simpa [ints] using hi'
  have h1 := h _ (List.getElem_mem hlen)
  rw [ints_get, List.getD_eq_getElem?_getD, List.getElem?_eq_getElem hlen]
  simp only [Option.getD_some]
  generalize l[i] = x at *
  omega
theorem fc_lt (d l n : Nat) (lo hi : List Nat) (i : Nat) : ∀ x ∈ fc d l n lo hi i, x < i := by
  intro x hx
  unfold fc at hx
  exact List.mem_range.1 (List.mem_filter.1 hx).1
section
variable {w : World} {A B : Option Addr} {n cn m cm : Nat} {lo hi : List Nat}
theorem rlrange_no (l t : Int) (hl : Kv w A n cn lo) (hh : Kv w B m cm hi) (ho : lrOk lo hi l t = false) :
    Calls Try.prog 18 #[.agg #[.slice A n cn, .slice B m cm], .int .i64 l, .int .i64 t] w (IntsRet w [] (.int .i64 1)) := by
  cases h : lvOk l t with
  | false =>
    have E := Lib.hid (show cnE l t = 1 by unfold cnE; rw [h]; rfl)
    clear h
    go_enter Try.func18, Try.ntmps18
    go_wp2_with (go_at_call 11; ((with_reducible refine (rcount_any _ _).mono ?_); rintro e w1 ⟨rfl, rfl⟩; rw [E.out]))
    go_ret2
    exact ⟨none, 0, 0, rfl, iv_none _, by (repeat (first | with_reducible exact Fr.refl _ _ | with_reducible refine Fr.setCell ?_ (.inr (by first | (simp; done) | (simp; omega))) _ | with_reducible refine Fr.alloc ?_ _ | with_reducible refine Fr.drew ?_ | with_reducible refine Fr.drewN ?_ _ | with_reducible refine Fr.tr ?_ (by assumption)))⟩
  | true =>
    have E := Lib.hid (show cnE l t = 0 by unfold cnE; rw [if_pos h])
    have E2 := Lib.hid (show chkB lo hi (n : Int) = 1 by
      unfold lrOk at ho
      rw [h, Bool.true_and] at ho
      have := of_decide_eq_false ho
      rw [hl.len]
      exact chkB_one this)
    clear h ho
    go_enter Try.func18, Try.ntmps18
    go_wp2_with (first
      | (go_at_call 11; ((with_reducible refine (rcount_any _ _).mono ?_); rintro e w1 ⟨rfl, rfl⟩; rw [E.out]))
      | (go_at_call 36; ((with_reducible refine (rcheckBox_any (lo := lo) (hi := hi) _ ?_ ?_).mono ?_); (iterate 2 (repeat (first | with_reducible assumption | ((with_reducible refine Kv.lit_new _ _ _ _ _ _ ?_ ?_ ?_ ?_) <;> (first | (simp; done) | rfl | decide)) | with_reducible exact Kv.none_ _ | with_reducible refine Kv.alloc ?_ _ | with_reducible refine Kv.drew ?_ | with_reducible refine Kv.drewN ?_ _ | with_reducible refine Kv.no ?_ (by assumption)))); rintro e w1 ⟨rfl, hf1⟩; rw [E2.out]))
      | fail)
    go_ret2
    exact ⟨none, 0, 0, rfl, iv_none _, by (repeat (first | with_reducible exact Fr.refl _ _ | with_reducible refine Fr.setCell ?_ (.inr (by first | (simp; done) | (simp; omega))) _ | with_reducible refine Fr.alloc ?_ _ | with_reducible refine Fr.drew ?_ | with_reducible refine Fr.drewN ?_ _ | with_reducible refine Fr.tr ?_ (by assumption)))⟩
structure Rl (w : World) (A B : Option Addr) (d cn cm l n : Nat) (lo hi : List Nat) (i : Nat) (P : Option Addr) (q c : Nat) (wr : World) : Prop where
  arg : Ob wr w.heap.size #[.slice A d cn, .slice B d cm] 32
  row : wr.ownsRow (w.heap.size + 1) 3 1 (.slice P q c) q (i64s (ints (fc d l n lo hi i)))
  fr : Fr No w wr
theorem Rl.no {wr w1 : World} {d l t i : Nat} {P : Option Addr} {q c : Nat} (h : Rl w A B d cn cm l t lo hi i P q c wr) (f : Fr No wr w1) : Rl w A B d cn cm l t lo hi i P q c w1 := ⟨h.arg.no f, own_no h.row f, h.fr.tr f⟩
theorem Rl.skip {wr : World} {d l t i : Nat} {P : Option Addr} {q c : Nat} (h : Rl w A B d cn cm l t lo hi i P q c wr) (hm : mc d l t i lo hi = false) : Rl w A B d cn cm l t lo hi (i + 1) P q c wr := by
  refine ⟨h.arg, ?_, h.fr⟩
  rw [fc_succ, hm]
  simpa using h.row
theorem Rl.put {wr w1 : World} {d l t i : Nat} {P P1 : Option Addr} {q c c1 : Nat} (h : Rl w A B d cn cm l t lo hi i P q c wr) (hm : mc d l t i lo hi = true) (hown : w1.ownsRow (w.heap.size + 1) 3 1 (.slice P1 (q + 1) c1) (q + 1) (i64s (ints (fc d l t lo hi i)) ++ [.int .i64 (i : Int)])) (hgr : wr.grownBy w1 (Value.slice P q c).ownBlock) :
    Rl w A B d cn cm l t lo hi (i + 1) P1 (q + 1) c1 w1 := by
  have F : Fr (fun k => (Value.slice P q c).ownBlock = some k) wr w1 := ⟨hgr.os, hgr.tape, hgr.output, hgr.size, fun k hk hn => hgr.block k hk (fun e => hn e.symm)⟩
  refine ⟨h.arg.fr F (fun e => by have := (h.row.lt _ e).1; omega), ?_, h.fr.grown hgr (fun k hk => .inr (by have := (h.row.lt _ hk).1; omega))⟩
  rw [fc_succ, hm]
  have e : i64s (ints (fc d l t lo hi i)) ++ [Value.int .i64 (i : Int)] = i64s (ints (fc d l t lo hi i ++ if true = true then [i] else [])) := by simp [i64s, ints]
  rw [← e]
  exact hown
theorem lb_len {d u m i : Nat} (hd : 1 ≤ d ∧ d ≤ 6) (hv : lvOk (u : Int) (m : Int) = true) (hi : i < 2 ^ u + m) : lbL (d : Int) u m i = chLo d u m i ∧ lbH (d : Int) u m i = chHi d u m i ∧ (chLo d u m i).length = d := by
  have hp : ((2 ^ u : Nat) : Int) = (2 : Int) ^ u := by simp
  have o1 : lbOk (d : Int) u m i = true := by
    unfold lbOk
    rw [hv, Int.toNat_natCast, decide_eq_true ⟨by omega, by omega, by omega, by omega⟩]
    rfl
  refine ⟨by unfold lbL; rw [if_pos o1]; simp only [Int.toNat_natCast], by unfold lbH; rw [if_pos o1]; simp only [Int.toNat_natCast], ?_⟩
  unfold chLo
  exact (bx_len d _ _).1
set_option maxHeartbeats 3200000 in
theorem rlrange_ok (u t : Nat) (hl : Kv w A n cn lo) (hh : Kv w B m cm hi) (hc : chkB lo hi (n : Int) = 0) (hv : lvOk (u : Int) (t : Int) = true) :
    Calls Try.prog 18 #[.agg #[.slice A n cn, .slice B m cm], .int .i64 (u : Int), .int .i64 (t : Int)] w (IntsRet w (ints (fc n u t lo hi (2 ^ u + t))) (.int .i64 0)) := by
  obtain ⟨h1, h6, h7, h8⟩ := chkB_zero.1 hc
  have h9 := (leL_iff _ _).1 h8
  obtain rfl : n = m := by have := hh.len; omega
  have hn : 1 ≤ n ∧ n ≤ 6 := by omega
  have H0 := Lib.hid hc
  have E := Lib.hid (show cnE (u : Int) (t : Int) = 0 by unfold cnE; rw [if_pos hv])
  have E2 := Lib.hid (show cnV (u : Int) (t : Int) = ((2 ^ u + t : Nat) : Int) by unfold cnV; rw [if_pos hv, Int.toNat_natCast]; simp)
  have H10 := Lib.hid (show 2 ^ u + t ≤ 2048 by
    obtain ⟨u', t', e1, e2, g1, g2, g3, g4, g5, g6⟩ := lv_in hv
    have : u = u' := by omega
    subst this
    omega)
  have Hv := Lib.hid hv
  clear hc h7 h8 h9 h1 h6 hv
  go_enter Try.func18, Try.ntmps18
  go_wp2_with (first
    | (go_at_call 11; ((with_reducible refine (rcount_any _ _).mono ?_); rintro e w1 ⟨rfl, rfl⟩; rw [E.out]))
    | (go_at_call 36; ((with_reducible refine (rcheckBox_any (lo := lo) (hi := hi) _ ?_ ?_).mono ?_); (iterate 2 (repeat (first | with_reducible assumption | ((with_reducible refine Kv.lit_new _ _ _ _ _ _ ?_ ?_ ?_ ?_) <;> (first | (simp; done) | rfl | decide)) | with_reducible exact Kv.none_ _ | with_reducible refine Kv.alloc ?_ _ | with_reducible refine Kv.drew ?_ | with_reducible refine Kv.drewN ?_ _ | with_reducible refine Kv.no ?_ (by assumption)))); rintro e w1 ⟨rfl, hf1⟩; rw [H0.out]))
    | fail)
  go_loopw [10, 11] (fun v u' wr => ∃ (i : Nat) (P : Option Addr) (q c : Nat), u' = .int .i64 i ∧ v = .slice P q c ∧ Hid (i ≤ 2 ^ u + t ∧ Rl w A B n cn cm u t lo hi i P q c wr)) (fun _ u' _ => 2 ^ u + t - (intOf u').toNat)
  case atStart => exact ⟨0, none, 0, 0, rfl, rfl, Lib.hid ⟨Nat.zero_le _, by (repeat (first | with_reducible assumption | with_reducible refine Ob.other ?_ (by first | (simp; done) | (simp; omega)) _ | ((with_reducible refine Ob.new_ _ _ _ _ ?_) <;> (simp; done)) | with_reducible refine Ob.alloc ?_ _ | with_reducible refine Ob.drew ?_ | with_reducible refine Ob.drewN ?_ _ | with_reducible refine Ob.no ?_ (by assumption))), World.ownsRow_nil _ _ _ _, by (repeat (first | with_reducible exact Fr.refl _ _ | with_reducible refine Fr.setCell ?_ (.inr (by first | (simp; done) | (simp; omega))) _ | with_reducible refine Fr.alloc ?_ _ | with_reducible refine Fr.drew ?_ | with_reducible refine Fr.drewN ?_ _ | with_reducible refine Fr.tr ?_ (by assumption)))⟩⟩
  case round =>
    obtain ⟨i, P, q, c, rfl, rfl, Hi⟩ := hrel
    clear hf1
    have hz2 : cnV (u : Int) (t : Int) ≤ 2048 := by rw [E2.out]; have := H10.out; omega
    have hi4 : i ≤ 2048 := by have := H10.out; have := Hi.out.1; omega
    by_cases hlt' : i < 2 ^ u + t
    · have hlt : (i : Int) < cnV u t := by rw [E2.out]; omega
      obtain ⟨x0, x1⟩ := cells2 Hi.out.2.arg
      have gl := Hi.out.2.arg.lt
      have Hlt := Lib.hid hlt'
      obtain ⟨b1, b2, b3⟩ := lb_len hn Hv.out hlt'
      have B1 := Lib.hid b1
      have B2 := Lib.hid b2
      have B3 := Lib.hid b3
      have kl := hl.no Hi.out.2.fr
      have kh := hh.no Hi.out.2.fr
      clear hlt' b1 b2 b3
      cases hm : mc n u t i lo hi with
      | false =>
        have Hm := Lib.hid hm
        have Hm2 := Lib.hid (show meetIs (chLo n u t i) (chHi n u t i) lo hi = false from hm)
        clear hm
        go_wp2_with (first
          | (go_at_call 15; ((with_reducible refine (rlbox_any _ _ _ _).mono ?_); rintro e w2 ⟨A2, n2, c2, B2', m2, d2, rfl, hl2, hh2, hf2⟩; rw [B1.out] at hl2; rw [B2.out] at hh2; have gn2 : n2 ≤ 1000000 := (by have := hl2.len; have := B3.out; omega); obtain ⟨y0, y1⟩ := cells2 (Hi.out.2.arg.no hf2); have gl2 : w.heap.size < w2.heap.size := (Hi.out.2.arg.no hf2).lt))
          | (go_at_call 37; ((with_reducible refine (rmeet_any (al := chLo n u t i) (ah := chHi n u t i) (bl := lo) (bh := hi) ?_ ?_ ?_ ?_ gn2).mono ?_); (iterate 4 (repeat (first | with_reducible assumption | ((with_reducible refine Kv.lit_new _ _ _ _ _ _ ?_ ?_ ?_ ?_) <;> (first | (simp; done) | rfl | decide)) | with_reducible exact Kv.none_ _ | with_reducible refine Kv.alloc ?_ _ | with_reducible refine Kv.drew ?_ | with_reducible refine Kv.drewN ?_ _ | with_reducible refine Kv.no ?_ (by assumption)))); rintro e w3 ⟨A3, n3, c3, B3', m3, d3, rfl, hl3, hh3, hf3⟩; rw [Hm2.out]))
          | fail)
        go_roundw
        case rel => exact ⟨i + 1, P, q, c, by go_num, rfl, Lib.hid ⟨Hlt.out, (Hi.out.2.no (show Fr No wr (w3.alloc (.cells #[.slice A3 n3 c3, .slice B3' m3 d3] 32)) by (repeat (first | with_reducible exact Fr.refl _ _ | with_reducible refine Fr.setCell ?_ (.inr (by first | (simp; done) | (simp; omega))) _ | with_reducible refine Fr.alloc ?_ _ | with_reducible refine Fr.drew ?_ | with_reducible refine Fr.drewN ?_ _ | with_reducible refine Fr.tr ?_ (by assumption))))).skip Hm.out⟩⟩
        case measure => have := Hlt.out; simp [intOf]; omega
      | true =>
        have Hm := Lib.hid hm
        have Hm2 := Lib.hid (show meetIs (chLo n u t i) (chHi n u t i) lo hi = true from hm)
        have Hq := Lib.hid (show (q + 1) * 8 ≤ 140737488355328 by
          have h1 := own_len Hi.out.2.row
          rw [i64s_len] at h1
          have h2 := fc_len n u t lo hi i
          have h3 : (ints (fc n u t lo hi i)).length = (fc n u t lo hi i).length := by simp [ints]
          omega)
        clear hm
        go_wp2_with (first
          | (go_at_call 15; ((with_reducible refine (rlbox_any _ _ _ _).mono ?_); rintro e w2 ⟨A2, n2, c2, B2', m2, d2, rfl, hl2, hh2, hf2⟩; rw [B1.out] at hl2; rw [B2.out] at hh2; have gn2 : n2 ≤ 1000000 := (by have := hl2.len; have := B3.out; omega); obtain ⟨y0, y1⟩ := cells2 (Hi.out.2.arg.no hf2); have gl2 : w.heap.size < w2.heap.size := (Hi.out.2.arg.no hf2).lt))
          | (go_at_call 37; ((with_reducible refine (rmeet_any (al := chLo n u t i) (ah := chHi n u t i) (bl := lo) (bh := hi) ?_ ?_ ?_ ?_ gn2).mono ?_); (iterate 4 (repeat (first | with_reducible assumption | ((with_reducible refine Kv.lit_new _ _ _ _ _ _ ?_ ?_ ?_ ?_) <;> (first | (simp; done) | rfl | decide)) | with_reducible exact Kv.none_ _ | with_reducible refine Kv.alloc ?_ _ | with_reducible refine Kv.drew ?_ | with_reducible refine Kv.drewN ?_ _ | with_reducible refine Kv.no ?_ (by assumption)))); rintro e w3 ⟨A3, n3, c3, B3', m3, d3, rfl, hl3, hh3, hf3⟩; rw [Hm2.out]; have R3 := Hi.out.2.no (show Fr No wr ((w3.alloc (.cells #[.slice A3 n3 c3, .slice B3' m3 d3] 32)).alloc (.cells #[.int .i64 (i : Int)] 3)) by (repeat (first | with_reducible exact Fr.refl _ _ | with_reducible refine Fr.setCell ?_ (.inr (by first | (simp; done) | (simp; omega))) _ | with_reducible refine Fr.alloc ?_ _ | with_reducible refine Fr.drew ?_ | with_reducible refine Fr.drewN ?_ _ | with_reducible refine Fr.tr ?_ (by assumption)))); obtain ⟨A4, c4, w4, hrun, hown, hgr, hat⟩ := app_eq (P := Try.prog) (w := (w3.alloc (.cells #[.slice A3 n3 c3, .slice B3' m3 d3] 32)).alloc (.cells #[.int .i64 (i : Int)] 3)) (w.heap.size + 1) 37 3 (.int .i64 0) 1 8 Try.underlying37 info_int rfl (by decide) (by decide) R3.row (some ⟨w3.heap.size + 1, 0, none⟩) 1 1 [.int .i64 (i : Int)] rfl (Rc.new_ (w3.alloc (.cells #[.slice A3 n3 c3, .slice B3' m3 d3] 32)) #[.int .i64 (i : Int)] 3 (w3.heap.size + 1) (Array.size_push _)) (by simp [Value.oneCell']) Hq.out (by have := R3.fr.size; have := R3.arg.lt; omega); have R4 := Lib.hid (R3.put Hm.out hown hgr); clear R3 hown hgr hat))
          | fail)
        go_roundw
        case rel => exact ⟨i + 1, A4, q + 1, c4, by go_num, rfl, Lib.hid ⟨Hlt.out, R4.out⟩⟩
        case measure => have := Hlt.out; simp [intOf]; omega
    · have hie : i = 2 ^ u + t := by have := Hi.out.1; omega
      have hge : cnV (u : Int) (t : Int) ≤ (i : Int) := by rw [E2.out]; omega
      have Hie := Lib.hid hie
      clear hie hlt'
      go_wp2
      go_ret2
      have Hr := Hi.out.2.row
      rw [Hie.out] at Hr
      exact ⟨P, q, c, rfl, Iv.of_own Hr (ints_wf2 (B := 2 ^ u + t) (by have := H10.out; omega) (fc_lt _ _ _ _ _ _)), Hi.out.2.fr⟩
end
end Go.Proofs.Ytplpgneckfmjpaa.Le18
