/- Layer 16: the addresses of the cells that a box meets (the document's). -/
import Derived.Test.YtoaikponefcbiaaHj16
import Derived.Test.YtoaikponefcbiaaKy08
namespace Go.Proofs.Ytoaikponefcbiaa.Hk16
open Go.RowKit Go.Proofs.Ytoaikponefcbiaa.Pk08 Go.Proofs.Ytoaikponefcbiaa.Base Go.Proofs.Ytoaikponefcbiaa.App Go.Proofs.Ytoaikponefcbiaa.Ky Go.Proofs.Ytoaikponefcbiaa.Iv Go.Proofs.Ytoaikponefcbiaa.Bx Go.Proofs.Ytoaikponefcbiaa.Kk Go.Proofs.Ytoaikponefcbiaa.Bo Go.Proofs.Ytoaikponefcbiaa.As Go.Proofs.Ytoaikponefcbiaa.Cl Go.Proofs.Ytoaikponefcbiaa.Pl08 Go.Proofs.Ytoaikponefcbiaa.Kc08 Go.Proofs.Ytoaikponefcbiaa.Kh08 Go.Proofs.Ytoaikponefcbiaa.Kj08 Go.Proofs.Ytoaikponefcbiaa.Km08 Go.Proofs.Ytoaikponefcbiaa.Ky08 Go.Proofs.Ytoaikponefcbiaa.Ka08 Go.Proofs.Ytoaikponefcbiaa.Px16 Go.Proofs.Ytoaikponefcbiaa.Py16 Go.Proofs.Ytoaikponefcbiaa.Hd16 Go.Proofs.Ytoaikponefcbiaa.He16 Go.Proofs.Ytoaikponefcbiaa.Hf16 Go.Proofs.Ytoaikponefcbiaa.Hg16 Go.Proofs.Ytoaikponefcbiaa.Hi16 Go.Proofs.Ytoaikponefcbiaa.Hj16
set_option linter.unusedVariables false
set_option linter.unusedSimpArgs false
attribute [local go_sem ↓ high] builtin_app
section
variable {w : World} {A B : Option Addr} {n cn m cm : Nat} {lo hi : List Nat}
theorem rrange_no (d t : Int) (hl : Kv w A n cn lo) (hh : Kv w B m cm hi) (ho : rgOk lo hi d t = false) :
    Calls Try.prog 18 #[.agg #[.slice A n cn, .slice B m cm], .int .i64 d, .int .i64 t] w (IntsRet w [] (.int .i64 1)) := by
  have hc : chkB lo hi d = 1 ∨ (chkB lo hi d = 0 ∧ t < 0) ∨ (chkB lo hi d = 0 ∧ 0 ≤ t ∧ 12 < t) := by
    by_cases h0 : chkB lo hi d = 0
    · have h1 : dpB t = false := by
        unfold rgOk at ho
        rw [h0] at ho
        simpa using ho
      have h2 := of_decide_eq_false h1
      by_cases h3 : t < 0
      · exact .inr (.inl ⟨h0, h3⟩)
      · exact .inr (.inr ⟨h0, by omega, by omega⟩)
    · exact .inl (chkB_one h0)
  clear ho
  rcases hc with h0 | ⟨h0, h2⟩ | ⟨h0, h2, h3⟩
  all_goals
    have H0 := Lib.hid h0
    clear h0
    go_enter Try.func18, Try.ntmps18
    go_wp2_with (go_at_call 36; ((with_reducible refine (rcheckBox_any (lo := lo) (hi := hi) _ ?_ ?_).mono ?_); (iterate 2 (repeat (first | with_reducible assumption | ((with_reducible refine Kv.lit_new _ _ _ _ _ _ ?_ ?_ ?_ ?_) <;> (first | (simp; done) | rfl | decide)) | with_reducible exact Kv.none_ _ | with_reducible refine Kv.alloc ?_ _ | with_reducible refine Kv.drew ?_ | with_reducible refine Kv.drewN ?_ _ | with_reducible refine Kv.no ?_ (by assumption)))); rintro e w1 ⟨rfl, hf1⟩; rw [H0.out]))
    go_ret2
    exact ⟨none, 0, 0, rfl, iv_none _, by (repeat (first | with_reducible exact Fr.refl _ _ | with_reducible refine Fr.setCell ?_ (.inr (by first | (simp; done) | (simp; omega))) _ | with_reducible refine Fr.alloc ?_ _ | with_reducible refine Fr.drew ?_ | with_reducible refine Fr.drewN ?_ _ | with_reducible refine Fr.tr ?_ (by assumption)))⟩
/-- Those of the first i cells that meet the box. -/
def fi (d t : Nat) (lo hi : List Nat) (i : Nat) : List Nat := (List.range i).filter (fun j => mt d t j lo hi)
theorem fi_succ (d t : Nat) (lo hi : List Nat) (i : Nat) : fi d t lo hi (i + 1) = fi d t lo hi i ++ if mt d t i lo hi = true then [i] else [] := by
  unfold fi
  rw [List.range_succ, List.filter_append]
  congr 1
  simp only [List.filter_cons, List.filter_nil]
theorem fi_len (d t : Nat) (lo hi : List Nat) (i : Nat) : (fi d t lo hi i).length ≤ i := by
  have := List.length_filter_le (fun j => mt d t j lo hi) (List.range i)
  unfold fi
  simpa using this
structure Rk (w : World) (A B : Option Addr) (d cn cm t : Nat) (lo hi : List Nat) (i : Nat) (P : Option Addr) (n c : Nat) (wr : World) : Prop where
  arg : Ob wr w.heap.size #[.slice A d cn, .slice B d cm] 28
  row : wr.ownsRow (w.heap.size + 1) 3 1 (.slice P n c) n (i64s (ints (fi d t lo hi i)))
  fr : Fr No w wr
theorem Rk.no {wr w1 : World} {d t i : Nat} {P : Option Addr} {c : Nat} (h : Rk w A B d cn cm t lo hi i P n c wr) (f : Fr No wr w1) : Rk w A B d cn cm t lo hi i P n c w1 := ⟨h.arg.no f, own_no h.row f, h.fr.tr f⟩
theorem Rk.skip {wr : World} {d t i : Nat} {P : Option Addr} {c : Nat} (h : Rk w A B d cn cm t lo hi i P n c wr) (hm : mt d t i lo hi = false) : Rk w A B d cn cm t lo hi (i + 1) P n c wr := by
  refine ⟨h.arg, ?_, h.fr⟩
  rw [fi_succ, hm]
  simpa using h.row
theorem Rk.put {wr w1 : World} {d t i : Nat} {P P1 : Option Addr} {c c1 : Nat} (h : Rk w A B d cn cm t lo hi i P n c wr) (hm : mt d t i lo hi = true) (hown : w1.ownsRow (w.heap.size + 1) 3 1 (.slice P1 (n + 1) c1) (n + 1) (i64s (ints (fi d t lo hi i)) ++ [.int .i64 (i : Int)])) (hgr : wr.grownBy w1 (Value.slice P n c).ownBlock) :
    Rk w A B d cn cm t lo hi (i + 1) P1 (n + 1) c1 w1 := by
  have F : Fr (fun k => (Value.slice P n c).ownBlock = some k) wr w1 := ⟨hgr.os, hgr.tape, hgr.output, hgr.size, fun k hk hn => hgr.block k hk (fun e => hn e.symm)⟩
  refine ⟨h.arg.fr F (fun e => by have := (h.row.lt _ e).1; omega), ?_, h.fr.grown hgr (fun k hk => .inr (by have := (h.row.lt _ hk).1; omega))⟩
  rw [fi_succ, hm]
  have e : i64s (ints (fi d t lo hi i)) ++ [Value.int .i64 (i : Int)] = i64s (ints (fi d t lo hi i ++ if true = true then [i] else [])) := by simp [i64s, ints]
  rw [← e]
  exact hown
set_option maxHeartbeats 3200000 in
theorem rrange_ok (d t : Nat) (hl : Kv w A n cn lo) (hh : Kv w B m cm hi) (hc : chkB lo hi (d : Int) = 0) (ht : t ≤ 12) :
    Calls Try.prog 18 #[.agg #[.slice A n cn, .slice B m cm], .int .i64 (d : Int), .int .i64 (t : Int)] w (IntsRet w (ints (rg d t lo hi t 0)) (.int .i64 0)) := by
  obtain ⟨h1, h6, h7, h8⟩ := chkB_zero.1 hc
  have h9 := (leL_iff _ _).1 h8
  obtain rfl : d = n := by have := hl.len; omega
  obtain rfl : d = m := by have := hh.len; omega
  have H0 := Lib.hid hc
  obtain ⟨p1, p2⟩ := two_le t ht
  have hw : wrap64 ((2 : Int) ^ t) = 2 ^ t := IntWalk.wrap64_in _ (by omega)
  have hp : ((2 ^ t : Nat) : Int) = (2 : Int) ^ t := by simp
  have Hp := Lib.hid hp
  clear hc h7 h8 h9 hp
  go_enter Try.func18, Try.ntmps18
  go_wp2_with (go_at_call 36; ((with_reducible refine (rcheckBox_any (lo := lo) (hi := hi) _ ?_ ?_).mono ?_); (iterate 2 (repeat (first | with_reducible assumption | ((with_reducible refine Kv.lit_new _ _ _ _ _ _ ?_ ?_ ?_ ?_) <;> (first | (simp; done) | rfl | decide)) | with_reducible exact Kv.none_ _ | with_reducible refine Kv.alloc ?_ _ | with_reducible refine Kv.drew ?_ | with_reducible refine Kv.drewN ?_ _ | with_reducible refine Kv.no ?_ (by assumption)))); rintro e w1 ⟨rfl, hf1⟩; rw [H0.out]))
  go_loopw [8, 9] (fun v u wr => ∃ (i : Nat) (P : Option Addr) (q c : Nat), i ≤ 2 ^ t ∧ u = .int .i64 i ∧ v = .slice P q c ∧ Hid (Rk w A B d cn cm t lo hi i P q c wr)) (fun _ u _ => 2 ^ t - (intOf u).toNat)
  case atStart => exact ⟨0, none, 0, 0, Nat.zero_le _, rfl, rfl, Lib.hid ⟨by (repeat (first | with_reducible assumption | with_reducible refine Ob.other ?_ (by first | (simp; done) | (simp; omega)) _ | ((with_reducible refine Ob.new_ _ _ _ _ ?_) <;> (simp; done)) | with_reducible refine Ob.alloc ?_ _ | with_reducible refine Ob.drew ?_ | with_reducible refine Ob.drewN ?_ _ | with_reducible refine Ob.no ?_ (by assumption))), World.ownsRow_nil _ _ _ _, by (repeat (first | with_reducible exact Fr.refl _ _ | with_reducible refine Fr.setCell ?_ (.inr (by first | (simp; done) | (simp; omega))) _ | with_reducible refine Fr.alloc ?_ _ | with_reducible refine Fr.drew ?_ | with_reducible refine Fr.drewN ?_ _ | with_reducible refine Fr.tr ?_ (by assumption)))⟩⟩
  case round =>
    obtain ⟨i, P, q, c, hi', rfl, rfl, Hi⟩ := hrel
    clear hf1
    have hi4 : i ≤ 4096 := by have := Hp.out; omega
    by_cases hlt : i < 2 ^ t
    · have hlt2 : (i : Int) < 2 ^ t := by have := Hp.out; omega
      obtain ⟨x0, x1⟩ := cells2 Hi.out.arg
      have gl := Hi.out.arg.lt
      have Hlt := Lib.hid hlt
      have hbl := bx_len d t i
      have Hbl := Lib.hid hbl.1
      have kl := hl.no Hi.out.fr
      have kh := hh.no Hi.out.fr
      clear hbl hlt hi'
      cases hm : mt d t i lo hi with
      | false =>
        have Hm := Lib.hid hm
        have Hm2 := Lib.hid (show meetIs (bx d t i).1 (bx d t i).2 lo hi = false from hm)
        clear hm
        go_wp2_with (first
          | (go_at_call 11; ((with_reducible refine (rbox_ok d t i (by omega) (by omega) ht Hlt.out).mono ?_); rintro e w2 ⟨A2, n2, c2, B2, m2, d2, rfl, hl2, hh2, hf2⟩; have gn2 : n2 ≤ 1000000 := (by have := hl2.len; have := Hbl.out; omega); obtain ⟨y0, y1⟩ := cells2 (Hi.out.arg.no hf2); have gl2 : w.heap.size < w2.heap.size := (Hi.out.arg.no hf2).lt))
          | (go_at_call 23; ((with_reducible refine (rmeet_any (al := (bx d t i).1) (ah := (bx d t i).2) (bl := lo) (bh := hi) ?_ ?_ ?_ ?_ gn2).mono ?_); (iterate 4 (repeat (first | with_reducible assumption | ((with_reducible refine Kv.lit_new _ _ _ _ _ _ ?_ ?_ ?_ ?_) <;> (first | (simp; done) | rfl | decide)) | with_reducible exact Kv.none_ _ | with_reducible refine Kv.alloc ?_ _ | with_reducible refine Kv.drew ?_ | with_reducible refine Kv.drewN ?_ _ | with_reducible refine Kv.no ?_ (by assumption)))); rintro e w3 ⟨A3, n3, c3, B3, m3, d3, rfl, hl3, hh3, hf3⟩; rw [Hm2.out]))
          | fail)
        go_roundw
        case rel => exact ⟨i + 1, P, q, c, by have := Hlt.out; omega, by go_num, rfl, Lib.hid ((Hi.out.no (show Fr No wr (w3.alloc (.cells #[.slice A3 n3 c3, .slice B3 m3 d3] 28)) by (repeat (first | with_reducible exact Fr.refl _ _ | with_reducible refine Fr.setCell ?_ (.inr (by first | (simp; done) | (simp; omega))) _ | with_reducible refine Fr.alloc ?_ _ | with_reducible refine Fr.drew ?_ | with_reducible refine Fr.drewN ?_ _ | with_reducible refine Fr.tr ?_ (by assumption))))).skip Hm.out)⟩
        case measure => have := Hlt.out; simp [intOf]; omega
      | true =>
        have Hm := Lib.hid hm
        have Hm2 := Lib.hid (show meetIs (bx d t i).1 (bx d t i).2 lo hi = true from hm)
        have Hq := Lib.hid (show (q + 1) * 8 ≤ 140737488355328 by
          have h1 := own_len Hi.out.row
          rw [i64s_len] at h1
          have h2 := fi_len d t lo hi i
          have h3 : (ints (fi d t lo hi i)).length = (fi d t lo hi i).length := by simp [ints]
          omega)
        clear hm
        go_wp2_with (first
          | (go_at_call 11; ((with_reducible refine (rbox_ok d t i (by omega) (by omega) ht Hlt.out).mono ?_); rintro e w2 ⟨A2, n2, c2, B2, m2, d2, rfl, hl2, hh2, hf2⟩; have gn2 : n2 ≤ 1000000 := (by have := hl2.len; have := Hbl.out; omega); obtain ⟨y0, y1⟩ := cells2 (Hi.out.arg.no hf2); have gl2 : w.heap.size < w2.heap.size := (Hi.out.arg.no hf2).lt))
          | (go_at_call 23; ((with_reducible refine (rmeet_any (al := (bx d t i).1) (ah := (bx d t i).2) (bl := lo) (bh := hi) ?_ ?_ ?_ ?_ gn2).mono ?_); (iterate 4 (repeat (first | with_reducible assumption | ((with_reducible refine Kv.lit_new _ _ _ _ _ _ ?_ ?_ ?_ ?_) <;> (first | (simp; done) | rfl | decide)) | with_reducible exact Kv.none_ _ | with_reducible refine Kv.alloc ?_ _ | with_reducible refine Kv.drew ?_ | with_reducible refine Kv.drewN ?_ _ | with_reducible refine Kv.no ?_ (by assumption)))); rintro e w3 ⟨A3, n3, c3, B3, m3, d3, rfl, hl3, hh3, hf3⟩; rw [Hm2.out]; have R3 := Hi.out.no (show Fr No wr ((w3.alloc (.cells #[.slice A3 n3 c3, .slice B3 m3 d3] 28)).alloc (.cells #[.int .i64 (i : Int)] 3)) by (repeat (first | with_reducible exact Fr.refl _ _ | with_reducible refine Fr.setCell ?_ (.inr (by first | (simp; done) | (simp; omega))) _ | with_reducible refine Fr.alloc ?_ _ | with_reducible refine Fr.drew ?_ | with_reducible refine Fr.drewN ?_ _ | with_reducible refine Fr.tr ?_ (by assumption)))); obtain ⟨A4, c4, w4, hrun, hown, hgr, hat⟩ := app_eq (P := Try.prog) (w := (w3.alloc (.cells #[.slice A3 n3 c3, .slice B3 m3 d3] 28)).alloc (.cells #[.int .i64 (i : Int)] 3)) (w.heap.size + 1) 37 3 (.int .i64 0) 1 8 Try.underlying37 info_int rfl (by decide) (by decide) R3.row (some ⟨w3.heap.size + 1, 0, none⟩) 1 1 [.int .i64 (i : Int)] rfl (Rc.new_ (w3.alloc (.cells #[.slice A3 n3 c3, .slice B3 m3 d3] 28)) #[.int .i64 (i : Int)] 3 (w3.heap.size + 1) (Array.size_push _)) (by simp [Value.oneCell']) Hq.out (by have := R3.fr.size; have := R3.arg.lt; omega); have R4 := Lib.hid (R3.put Hm.out hown hgr); clear R3 hown hgr hat))
          | fail)
        go_roundw
        case rel => exact ⟨i + 1, A4, q + 1, c4, by have := Hlt.out; omega, by go_num, rfl, R4⟩
        case measure => have := Hlt.out; simp [intOf]; omega
    · obtain rfl : i = 2 ^ t := by omega
      have hge : ((2 : Int) ^ t) ≤ ((2 ^ t : Nat) : Int) := by have := Hp.out; omega
      have Hr := Hi.out.row
      have e := rg_all d t (by omega) lo hi (by omega) (Nat.zero_le _)
      go_wp2
      go_ret2
      rw [show fi d t lo hi (2 ^ t) = rg d t lo hi t 0 from e.symm] at Hr
      exact ⟨P, q, c, rfl, Iv.of_own Hr (ints_wf _ _ _ _ ht), Hi.out.fr⟩
theorem rg_in {d t : Int} (ho : rgOk lo hi d t = true) : ∃ (e u : Nat), d = (e : Int) ∧ t = (u : Int) ∧ u ≤ 12 ∧ chkB lo hi (e : Int) = 0 ∧ rgL lo hi d t = ints (rg e u lo hi u 0) ∧ rgE lo hi d t = 0 := by
  have h := ho
  unfold rgOk at h
  rw [Bool.and_eq_true, decide_eq_true_eq] at h
  obtain ⟨h1, h2⟩ := h
  obtain ⟨h3, h4⟩ := of_decide_eq_true h2
  have h5 := (chkB_zero.1 h1).1
  obtain ⟨e, rfl⟩ := Int.eq_ofNat_of_zero_le (show 0 ≤ d by omega)
  obtain ⟨u, rfl⟩ := Int.eq_ofNat_of_zero_le h3
  exact ⟨e, u, rfl, rfl, by omega, h1, by unfold rgL; rw [if_pos ho, Int.toNat_natCast, Int.toNat_natCast], by unfold rgE; rw [if_pos ho]⟩
theorem rg_out {d t : Int} (ho : rgOk lo hi d t = false) : rgL lo hi d t = [] ∧ rgE lo hi d t = 1 := ⟨by unfold rgL; rw [ho]; rfl, by unfold rgE; rw [ho]; rfl⟩
theorem range_any (d t : Int) (hl : Kv w A n cn lo) (hh : Kv w B m cm hi) :
    Calls Try.prog 17 #[.agg #[.slice A n cn, .slice B m cm], .int .i64 d, .int .i64 t] w (IntsRet w (rgL lo hi d t) (.int .i64 (rgE lo hi d t))) := by
  cases ho : rgOk lo hi d t with
  | true =>
    obtain ⟨e, u, rfl, rfl, h1, h2, h3, h4⟩ := rg_in ho
    rw [h3, h4]
    exact range_ok e u hl hh h2 h1
  | false =>
    obtain ⟨h3, h4⟩ := rg_out ho
    rw [h3, h4]
    exact range_no d t hl hh ho
theorem rrange_any (d t : Int) (hl : Kv w A n cn lo) (hh : Kv w B m cm hi) :
    Calls Try.prog 18 #[.agg #[.slice A n cn, .slice B m cm], .int .i64 d, .int .i64 t] w (IntsRet w (rgL lo hi d t) (.int .i64 (rgE lo hi d t))) := by
  cases ho : rgOk lo hi d t with
  | true =>
    obtain ⟨e, u, rfl, rfl, h1, h2, h3, h4⟩ := rg_in ho
    rw [h3, h4]
    exact rrange_ok e u hl hh h2 h1
  | false =>
    obtain ⟨h3, h4⟩ := rg_out ho
    rw [h3, h4]
    exact rrange_no d t hl hh ho
end
end Go.Proofs.Ytoaikponefcbiaa.Hk16
