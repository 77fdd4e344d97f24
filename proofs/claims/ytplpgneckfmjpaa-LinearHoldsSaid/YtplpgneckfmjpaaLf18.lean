/- Layer 18: the chains that a box meets (the program's). -/
import Derived.Test.YtplpgneckfmjpaaLe18
namespace Go.Proofs.Ytplpgneckfmjpaa.Lf18
open Go.RowKit Go.Proofs.Ytplpgneckfmjpaa.Pk08 Go.Proofs.Ytplpgneckfmjpaa.Base Go.Proofs.Ytplpgneckfmjpaa.App Go.Proofs.Ytplpgneckfmjpaa.Ky Go.Proofs.Ytplpgneckfmjpaa.Iv Go.Proofs.Ytplpgneckfmjpaa.Bx Go.Proofs.Ytplpgneckfmjpaa.Kk Go.Proofs.Ytplpgneckfmjpaa.Bo Go.Proofs.Ytplpgneckfmjpaa.As Go.Proofs.Ytplpgneckfmjpaa.Pl08 Go.Proofs.Ytplpgneckfmjpaa.Kc08 Go.Proofs.Ytplpgneckfmjpaa.Kj08 Go.Proofs.Ytplpgneckfmjpaa.Km08 Go.Proofs.Ytplpgneckfmjpaa.Px16 Go.Proofs.Ytplpgneckfmjpaa.Py16 Go.Proofs.Ytplpgneckfmjpaa.Pz18 Go.Proofs.Ytplpgneckfmjpaa.Hd16 Go.Proofs.Ytplpgneckfmjpaa.He16 Go.Proofs.Ytplpgneckfmjpaa.Hg16 Go.Proofs.Ytplpgneckfmjpaa.Hi16 Go.Proofs.Ytplpgneckfmjpaa.Hj16 Go.Proofs.Ytplpgneckfmjpaa.Hk16 Go.Proofs.Ytplpgneckfmjpaa.Lz18 Go.Proofs.Ytplpgneckfmjpaa.La18 Go.Proofs.Ytplpgneckfmjpaa.Lb18 Go.Proofs.Ytplpgneckfmjpaa.Lc18 Go.Proofs.Ytplpgneckfmjpaa.Ld18 Go.Proofs.Ytplpgneckfmjpaa.Le18
set_option linter.unusedVariables false
set_option linter.unusedSimpArgs false
attribute [local go_sem ↓ high] builtin_app
theorem box_at {w : World} {d m a : Nat} {zd zm za : Int} (e1 : zd = (d : Int)) (e2 : zm = (m : Int)) (e3 : za = (a : Int)) (h1 : 1 ≤ d) (h6 : d ≤ 6) (hm : m ≤ 12) (ha : a < 2 ^ m) :
    Calls Try.prog 31 #[.int .i64 zd, .int .i64 zm, .int .i64 za] w (BoxRet w (bx d m a).1 (bx d m a).2 (.int .i64 0)) := by
  subst e1; subst e2; subst e3
  exact box_ok d m a h1 h6 hm ha
/-- The numbers that were collected. -/
structure Ri (w2 : World) (zs : List Int) (P : Option Addr) (q c : Nat) (wr : World) : Prop where
  row : wr.ownsRow w2.heap.size 3 1 (.slice P q c) q (i64s zs)
  fr : Fr No w2 wr
section
variable {w2 wr w1 : World} {zs : List Int} {P P1 : Option Addr} {q c c1 : Nat}
theorem Ri.no (h : Ri w2 zs P q c wr) (f : Fr No wr w1) : Ri w2 zs P q c w1 := ⟨own_no h.row f, h.fr.tr f⟩
theorem Ri.put (h : Ri w2 zs P q c wr) (x : Int) (hown : w1.ownsRow w2.heap.size 3 1 (.slice P1 (q + 1) c1) (q + 1) (i64s zs ++ [.int .i64 x])) (hgr : wr.grownBy w1 (Value.slice P q c).ownBlock) : Ri w2 (zs ++ [x]) P1 (q + 1) c1 w1 := by
  refine ⟨?_, h.fr.grown hgr (fun k hk => .inr (by have := (h.row.lt _ hk).1; omega))⟩
  have e : i64s zs ++ [Value.int .i64 x] = i64s (zs ++ [x]) := by simp [i64s]
  rw [← e]
  exact hown
theorem Ri.len (h : Ri w2 zs P q c wr) : zs.length = q := by
  have := own_len h.row
  rwa [i64s_len] at this
end
theorem coll_len (d l n : Nat) (lo hi : List Nat) : ∀ xs, (coll d l n lo hi xs).length ≤ 2 * xs.length
  | [] => by simp [coll]
  | x :: xs => by
    have ih := coll_len d l n lo hi xs
    simp only [coll, List.length_append, List.length_cons]
    by_cases h : n ≤ x
    · rw [if_pos h]; simp; omega
    · rw [if_neg h]
      unfold half
      rw [List.length_append]
      split <;> split <;> simp <;> omega
/-- What the first h halves of a cell give. -/
def hf (d l a : Nat) (lo hi : List Nat) : Nat → List Nat
  | 0 => []
  | h + 1 => hf d l a lo hi h ++ (if mt d (l + 1) (2 * a + h) lo hi = true then [2 * a + h] else [])
theorem hf_two (d l a : Nat) (lo hi : List Nat) : hf d l a lo hi 2 = half d l a lo hi := by simp [hf, half]
theorem hf_len (d l a : Nat) (lo hi : List Nat) : ∀ h, (hf d l a lo hi h).length ≤ h
  | 0 => by simp [hf]
  | h + 1 => by
    have ih := hf_len d l a lo hi h
    simp only [hf, List.length_append]
    split <;> simp <;> omega
theorem take_get (L : List Nat) (j : Nat) (h : j < L.length) : L.take (j + 1) = L.take j ++ [L.getD j 0] := by
  rw [List.take_succ_eq_append_getElem h]
  congr 1
  simp [List.getD_eq_getElem?_getD, h]
theorem coll_snoc (d l n : Nat) (lo hi L : List Nat) (j : Nat) (h : j < L.length) : coll d l n lo hi (L.take (j + 1)) = coll d l n lo hi (L.take j) ++ (if n ≤ L.getD j 0 then [L.getD j 0 + n] else half d l (L.getD j 0) lo hi) := by
  rw [take_get L j h, coll_append]
  congr 1
  simp [coll]
theorem ints_app (a b : List Nat) : ints (a ++ b) = ints a ++ ints b := by simp [ints]
section
variable {w : World} {A B : Option Addr} {n cn m cm : Nat} {lo hi : List Nat}
theorem lrange_no (l t : Int) (hl : Kv w A n cn lo) (hh : Kv w B m cm hi) (ho : lrOk lo hi l t = false) :
    Calls Try.prog 17 #[.agg #[.slice A n cn, .slice B m cm], .int .i64 l, .int .i64 t] w (IntsRet w [] (.int .i64 1)) := by
  cases h : lvOk l t with
  | false =>
    have E := Lib.hid h
    clear h
    go_enter Try.func17, Try.ntmps17
    go_wp2_with (go_at_call 25; ((with_reducible refine (lis_any _ _).mono ?_); rintro e w1 ⟨rfl, rfl⟩; rw [E.out]))
    go_ret2
    exact ⟨none, 0, 0, rfl, iv_none _, by (repeat (first | with_reducible exact Fr.refl _ _ | with_reducible refine Fr.setCell ?_ (.inr (by first | (simp; done) | (simp; omega))) _ | with_reducible refine Fr.alloc ?_ _ | with_reducible refine Fr.drew ?_ | with_reducible refine Fr.drewN ?_ _ | with_reducible refine Fr.tr ?_ (by assumption)))⟩
  | true =>
    have E := Lib.hid h
    have E2 := Lib.hid (show rgE lo hi (n : Int) l = 1 by
      unfold lrOk at ho
      rw [h, Bool.true_and] at ho
      have := of_decide_eq_false ho
      have h2 : rgOk lo hi (n : Int) l = false := by
        unfold rgOk
        rw [hl.len, decide_eq_false this, Bool.false_and]
      exact (rg_out h2).2)
    clear h ho
    go_enter Try.func17, Try.ntmps17
    go_wp2_with (first
      | (go_at_call 25; ((with_reducible refine (lis_any _ _).mono ?_); rintro e w1 ⟨rfl, rfl⟩; rw [E.out]))
      | (go_at_call 34; ((with_reducible refine (range_any (lo := lo) (hi := hi) _ _ ?_ ?_).mono ?_); (iterate 2 (repeat (first | with_reducible assumption | ((with_reducible refine Kv.lit_new _ _ _ _ _ _ ?_ ?_ ?_ ?_) <;> (first | (simp; done) | rfl | decide)) | with_reducible exact Kv.none_ _ | with_reducible refine Kv.alloc ?_ _ | with_reducible refine Kv.drew ?_ | with_reducible refine Kv.drewN ?_ _ | with_reducible refine Kv.no ?_ (by assumption)))); rintro e w1 ⟨A1, n1, c1, rfl, hv1, hf1⟩; rw [E2.out]))
      | fail)
    go_ret2
    exact ⟨none, 0, 0, rfl, iv_none _, by (repeat (first | with_reducible exact Fr.refl _ _ | with_reducible refine Fr.setCell ?_ (.inr (by first | (simp; done) | (simp; omega))) _ | with_reducible refine Fr.alloc ?_ _ | with_reducible refine Fr.drew ?_ | with_reducible refine Fr.drewN ?_ _ | with_reducible refine Fr.tr ?_ (by assumption)))⟩
set_option maxHeartbeats 6400000 in
theorem lrange_ok (u t : Nat) (hl : Kv w A n cn lo) (hh : Kv w B m cm hi) (hc : chkB lo hi (n : Int) = 0) (hv : lvOk (u : Int) (t : Int) = true) :
    Calls Try.prog 17 #[.agg #[.slice A n cn, .slice B m cm], .int .i64 (u : Int), .int .i64 (t : Int)] w (IntsRet w (ints (fc n u t lo hi (2 ^ u + t))) (.int .i64 0)) := by
  obtain ⟨h1, h6, h7, h8⟩ := chkB_zero.1 hc
  have h9 := (leL_iff _ _).1 h8
  obtain rfl : n = m := by have := hh.len; omega
  obtain ⟨u', t', e1, e2, g1, g2, g3, g4, g5, g6⟩ := lv_in hv
  obtain rfl : u = u' := by omega
  obtain rfl : t = t' := by omega
  have hn1 : 1 ≤ n := by omega
  have hn6 : n ≤ 6 := by omega
  have Hv := Lib.hid hv
  have ho : rgOk lo hi (n : Int) (u : Int) = true := by
    unfold rgOk
    rw [hc, decide_eq_true rfl, Bool.true_and]
    exact decide_eq_true ⟨by omega, by omega⟩
  have E1 := Lib.hid (show rgL lo hi (n : Int) (u : Int) = ints (rg n u lo hi u 0) by unfold rgL; rw [if_pos ho, Int.toNat_natCast, Int.toNat_natCast])
  have E2 := Lib.hid (show rgE lo hi (n : Int) (u : Int) = 0 by unfold rgE; rw [if_pos ho])
  have E3 := Lib.hid (show coll n u t lo hi (rg n u lo hi u 0) = fc n u t lo hi (2 ^ u + t) by rw [rg_all n u (by omega) lo hi (by omega) (Nat.zero_le _), coll_all n u t (by omega) lo hi g1 g2]; rfl)
  have E4 := Lib.hid (rg_len n u lo hi u 0)
  have E5 := Lib.hid (fun x (hx : x ∈ rg n u lo hi u 0) => show x < 2 ^ u by have := rg_lt n u lo hi u 0 x hx; simpa using this)
  have H4 := Lib.hid g4
  have hu12 : u + 1 ≤ 12 := by omega
  have Hu := Lib.hid g1
  have ht : t < 1024 := by omega
  have hu10 : u ≤ 10 := g1
  clear hc h7 h8 h9 h1 h6 hv e1 e2 g1 g2 g3 g4 g5 g6 ho
  generalize rg n u lo hi u 0 = L at *
  go_enter Try.func17, Try.ntmps17
  go_wp2_with (first
    | (go_at_call 25; ((with_reducible refine (lis_any _ _).mono ?_); rintro e w1 ⟨rfl, rfl⟩; rw [Hv.out]))
    | (go_at_call 34; ((with_reducible refine (range_any (lo := lo) (hi := hi) _ _ ?_ ?_).mono ?_); (iterate 2 (repeat (first | with_reducible assumption | ((with_reducible refine Kv.lit_new _ _ _ _ _ _ ?_ ?_ ?_ ?_) <;> (first | (simp; done) | rfl | decide)) | with_reducible exact Kv.none_ _ | with_reducible refine Kv.alloc ?_ _ | with_reducible refine Kv.drew ?_ | with_reducible refine Kv.drewN ?_ _ | with_reducible refine Kv.no ?_ (by assumption)))); rintro e w2 ⟨A2, n2, c2, rfl, hv2, hf2⟩; rw [E1.out] at hv2; rw [E2.out]))
    | fail)
  have hO2 : Ob w2 w.heap.size #[.slice A n cn, .slice B n cm] 32 := by (repeat (first | with_reducible assumption | with_reducible refine Ob.other ?_ (by first | (simp; done) | (simp; omega)) _ | ((with_reducible refine Ob.new_ _ _ _ _ ?_) <;> (simp; done)) | with_reducible refine Ob.alloc ?_ _ | with_reducible refine Ob.drew ?_ | with_reducible refine Ob.drewN ?_ _ | with_reducible refine Ob.no ?_ (by assumption)))
  have hF2 : Fr No w w2 := by (repeat (first | with_reducible exact Fr.refl _ _ | with_reducible refine Fr.setCell ?_ (.inr (by first | (simp; done) | (simp; omega))) _ | with_reducible refine Fr.alloc ?_ _ | with_reducible refine Fr.drew ?_ | with_reducible refine Fr.drewN ?_ _ | with_reducible refine Fr.tr ?_ (by assumption)))
  have hn2 : n2 = L.length := by have := hv2.len; simpa [ints] using this
  have q3 := hv2.cap
  have q4 := hv2.most
  have hmx : maxLen ≤ 9223372036854775807 := by decide
  have HV := Lib.hid hv2
  have HO := Lib.hid hO2
  have HF := Lib.hid hF2
  have Hn2 := Lib.hid hn2
  clear hf2 hv2 hO2 hF2 hn2
  go_loopw [10, 36] (fun v x wr => ∃ (j : Nat) (P : Option Addr) (q c : Nat), x = .int .i64 j ∧ v = .slice P q c ∧ Hid (j ≤ n2 ∧ Ri w2 (ints (coll n u t lo hi (L.take j))) P q c wr)) (fun _ x _ => n2 - (intOf x).toNat)
  case atStart => exact ⟨0, none, 0, 0, rfl, rfl, Lib.hid ⟨Nat.zero_le _, World.ownsRow_nil _ _ _ _, Fr.refl _ _⟩⟩
  case round =>
    obtain ⟨j, P, q, c, rfl, rfl, Hj⟩ := hrel
    by_cases hlt : j < n2
    · have hjl : j < L.length := by rw [← Hn2.out]; exact hlt
      obtain ⟨g, o, hA2, ca⟩ := (HV.out.no Hj.out.2.fr).get j (by simp [ints]; exact hjl)
      rw [ints_get] at ca
      subst hA2
      have hmem : L.getD j 0 ∈ L := by
        have e : L.getD j 0 = L[j] := by simp [List.getD_eq_getElem?_getD, hjl]
        rw [e]; exact List.getElem_mem hjl
      have Ha := Lib.hid (E5.out _ hmem)
      have Hs := Lib.hid (coll_snoc n u t lo hi L j hjl)
      have ha : L.getD j 0 < 1024 := by have := Ha.out; have := H4.out; omega
      have Hlt := Lib.hid hlt
      have hj2 : j ≤ 1024 := by have := E4.out; have := H4.out; omega
      have Hq := Lib.hid (show (q + 4) * 8 ≤ 140737488355328 by
        have h1 := Hj.out.2.len
        have h2 := coll_len n u t lo hi (L.take j)
        have h3 : (ints (coll n u t lo hi (L.take j))).length = (coll n u t lo hi (L.take j)).length := by simp [ints]
        have h4 : (L.take j).length ≤ j := List.length_take_le _ _
        omega)
      clear hmem hjl
      generalize L.getD j 0 = a at *
      by_cases hta : t ≤ a
      · have R1 := Lib.hid (Hj.out.2.no ((Fr.refl No wr).alloc (.cells #[.int .i64 ((a : Int) + (t : Int))] 3)))
        obtain ⟨A4, c4, w4, hrun, hown, hgr, hat⟩ := app_eq (P := Try.prog) (w := wr.alloc (.cells #[.int .i64 ((a : Int) + (t : Int))] 3)) w2.heap.size 37 3 (.int .i64 0) 1 8 Try.underlying37 info_int rfl (by decide) (by decide) R1.out.row (some ⟨wr.heap.size, 0, none⟩) 1 1 [.int .i64 ((a : Int) + (t : Int))] rfl (Rc.new_ wr #[.int .i64 ((a : Int) + (t : Int))] 3 wr.heap.size rfl) (by simp [Value.oneCell']) (by have := Hq.out; omega) R1.out.fr.size
        have R4 := Lib.hid (show Ri w2 (ints (coll n u t lo hi (L.take (j + 1)))) A4 (q + 1) c4 w4 by
          have h := R1.out.put _ hown hgr
          rw [Hs.out, if_pos hta, ints_app]
          have e : ints [a + t] = [(a : Int) + (t : Int)] := by simp [ints]
          rw [e]
          exact h)
        have hta2 : ((t : Int) ≤ (a : Int)) := by omega
        have htb : decide (t ≤ a) = true := decide_eq_true hta
        clear hown hgr hat R1
        go_wp2
        go_roundw
        case rel => exact ⟨j + 1, A4, q + 1, c4, by go_num, rfl, Lib.hid ⟨Hlt.out, R4.out⟩⟩
        case measure => have := Hlt.out; simp [intOf]; omega
      · have Hta := Lib.hid hta
        have hta2 : a < t := by omega
        have htb : decide (t ≤ a) = false := decide_eq_false hta
        clear hta
        obtain ⟨wo, rfl⟩ : ∃ wo : World, wo = wr := ⟨_, rfl⟩
        go_wp2
        go_loopw [10, 49] (fun v x wr => ∃ (h : Nat) (P : Option Addr) (q' c : Nat), x = .int .i64 h ∧ v = .slice P q' c ∧ Hid (h ≤ 2 ∧ q' ≤ q + h ∧ Ri w2 (ints (coll n u t lo hi (L.take j)) ++ ints (hf n u a lo hi h)) P q' c wr)) (fun _ x _ => 2 - (intOf x).toNat)
        case atStart => exact ⟨0, P, q, c, rfl, rfl, Lib.hid ⟨Nat.zero_le _, Nat.le_refl _, by simpa [hf, ints] using Hj.out.2⟩⟩
        case round =>
          obtain ⟨h, P', q', c', rfl, rfl, Hi⟩ := hrel
          by_cases hh2 : h < 2
          · have Hh2 := Lib.hid hh2
            have HOr := Lib.hid (HO.out.no Hi.out.2.2.fr)
            obtain ⟨x0, x1⟩ := cells2 HOr.out
            have gl := HOr.out.lt
            have Hah := Lib.hid (show 2 * a + h < 2 ^ (u + 1) by have := Ha.out; rw [Nat.pow_succ]; omega)
            have Hbl := Lib.hid (bx_len n (u + 1) (2 * a + h)).1
            have kl := (hl.no HF.out).no Hi.out.2.2.fr
            have kh := (hh.no HF.out).no Hi.out.2.2.fr
            cases hm : mt n (u + 1) (2 * a + h) lo hi with
            | false =>
              have Hf := Lib.hid (show hf n u a lo hi (h + 1) = hf n u a lo hi h by simp only [hf]; rw [hm]; simp)
              have Hm := Lib.hid (show meetIs (bx n (u + 1) (2 * a + h)).1 (bx n (u + 1) (2 * a + h)).2 lo hi = false from hm)
              clear hm
              go_wp2_with (first
                | (go_at_call 31; ((with_reducible refine (box_at (d := n) (m := u + 1) (a := 2 * a + h) ?_ ?_ ?_ hn1 hn6 hu12 Hah.out).mono ?_); (iterate 3 omega); rintro e w5 ⟨A5, n5, c5, B5, m5, d5, rfl, hl5, hh5, hf5⟩; have gn5 : n5 ≤ 1000000 := (by have := hl5.len; have := Hbl.out; omega); obtain ⟨y0, y1⟩ := cells2 (HOr.out.no hf5); have gl5 : w.heap.size < w5.heap.size := (HOr.out.no hf5).lt))
                | (go_at_call 35; ((with_reducible refine (meet_any (al := (bx n (u + 1) (2 * a + h)).1) (ah := (bx n (u + 1) (2 * a + h)).2) (bl := lo) (bh := hi) ?_ ?_ ?_ ?_ gn5).mono ?_); (iterate 4 (repeat (first | with_reducible assumption | ((with_reducible refine Kv.lit_new _ _ _ _ _ _ ?_ ?_ ?_ ?_) <;> (first | (simp; done) | rfl | decide)) | with_reducible exact Kv.none_ _ | with_reducible refine Kv.alloc ?_ _ | with_reducible refine Kv.drew ?_ | with_reducible refine Kv.drewN ?_ _ | with_reducible refine Kv.no ?_ (by assumption)))); rintro e w6 ⟨A6, n6, c6, B6, m6, d6, rfl, hl6, hh6, hf6⟩; rw [Hm.out]))
                | fail)
              go_roundw
              case rel => exact ⟨h + 1, P', q', c', by go_num, rfl, Lib.hid ⟨Hh2.out, by have := Hi.out; omega, by rw [Hf.out]; exact Hi.out.2.2.no (by (repeat (first | with_reducible exact Fr.refl _ _ | with_reducible refine Fr.setCell ?_ (.inr (by first | (simp; done) | (simp; omega))) _ | with_reducible refine Fr.alloc ?_ _ | with_reducible refine Fr.drew ?_ | with_reducible refine Fr.drewN ?_ _ | with_reducible refine Fr.tr ?_ (by assumption))))⟩⟩
              case measure => have := Hh2.out; simp [intOf]; omega
            | true =>
              have Hf := Lib.hid (show hf n u a lo hi (h + 1) = hf n u a lo hi h ++ [2 * a + h] by simp only [hf]; rw [hm]; simp)
              have Hm := Lib.hid (show meetIs (bx n (u + 1) (2 * a + h)).1 (bx n (u + 1) (2 * a + h)).2 lo hi = true from hm)
              clear hm
              go_wp2_with (first
                | (go_at_call 31; ((with_reducible refine (box_at (d := n) (m := u + 1) (a := 2 * a + h) ?_ ?_ ?_ hn1 hn6 hu12 Hah.out).mono ?_); (iterate 3 omega); rintro e w5 ⟨A5, n5, c5, B5, m5, d5, rfl, hl5, hh5, hf5⟩; have gn5 : n5 ≤ 1000000 := (by have := hl5.len; have := Hbl.out; omega); obtain ⟨y0, y1⟩ := cells2 (HOr.out.no hf5); have gl5 : w.heap.size < w5.heap.size := (HOr.out.no hf5).lt))
                | (go_at_call 35; ((with_reducible refine (meet_any (al := (bx n (u + 1) (2 * a + h)).1) (ah := (bx n (u + 1) (2 * a + h)).2) (bl := lo) (bh := hi) ?_ ?_ ?_ ?_ gn5).mono ?_); (iterate 4 (repeat (first | with_reducible assumption | ((with_reducible refine Kv.lit_new _ _ _ _ _ _ ?_ ?_ ?_ ?_) <;> (first | (simp; done) | rfl | decide)) | with_reducible exact Kv.none_ _ | with_reducible refine Kv.alloc ?_ _ | with_reducible refine Kv.drew ?_ | with_reducible refine Kv.drewN ?_ _ | with_reducible refine Kv.no ?_ (by assumption)))); rintro e w6 ⟨A6, n6, c6, B6, m6, d6, rfl, hl6, hh6, hf6⟩; rw [Hm.out]; have R3 := Lib.hid (Hi.out.2.2.no (show Fr No wr ((w6.alloc (.cells #[.slice A6 n6 c6, .slice B6 m6 d6] 32)).alloc (.cells #[.int .i64 (2 * (a : Int) + (h : Int))] 3)) by (repeat (first | with_reducible exact Fr.refl _ _ | with_reducible refine Fr.setCell ?_ (.inr (by first | (simp; done) | (simp; omega))) _ | with_reducible refine Fr.alloc ?_ _ | with_reducible refine Fr.drew ?_ | with_reducible refine Fr.drewN ?_ _ | with_reducible refine Fr.tr ?_ (by assumption))))); obtain ⟨A7, c7, w7, hrun, hown, hgr, hat⟩ := app_eq (P := Try.prog) (w := (w6.alloc (.cells #[.slice A6 n6 c6, .slice B6 m6 d6] 32)).alloc (.cells #[.int .i64 (2 * (a : Int) + (h : Int))] 3)) w2.heap.size 37 3 (.int .i64 0) 1 8 Try.underlying37 info_int rfl (by decide) (by decide) R3.out.row (some ⟨w6.heap.size + 1, 0, none⟩) 1 1 [.int .i64 (2 * (a : Int) + (h : Int))] rfl (Rc.new_ (w6.alloc (.cells #[.slice A6 n6 c6, .slice B6 m6 d6] 32)) #[.int .i64 (2 * (a : Int) + (h : Int))] 3 (w6.heap.size + 1) (Array.size_push _)) (by simp [Value.oneCell']) (by have := Hq.out; have := Hi.out; omega) R3.out.fr.size; have R7 := Lib.hid (R3.out.put _ hown hgr); clear hown hgr hat R3))
                | fail)
              go_roundw
              case rel => exact ⟨h + 1, A7, q' + 1, c7, by go_num, rfl, Lib.hid ⟨Hh2.out, by have := Hi.out; omega, by
                rw [Hf.out, ints_app, ← List.append_assoc]
                have e : ints [2 * a + h] = [2 * (a : Int) + (h : Int)] := by simp [ints]
                rw [e]
                exact R7.out⟩⟩
              case measure => have := Hh2.out; simp [intOf]; omega
          · obtain rfl : h = 2 := by have := Hi.out; omega
            have Hend := Lib.hid (show Ri w2 (ints (coll n u t lo hi (L.take (j + 1)))) P' q' c' wr by
              have h := Hi.out.2.2
              rw [hf_two, ← ints_app] at h
              rw [Hs.out, if_neg Hta.out]
              exact h)
            go_wp2
            go_roundw
            case rel => exact ⟨j + 1, P', q', c', by go_num, rfl, Lib.hid ⟨Hlt.out, Hend.out⟩⟩
            case measure => have := Hlt.out; simp [intOf]; omega
    · have hj : j = L.length := by have := Hj.out.1; have := Hn2.out; omega
      have Hr := Lib.hid (show Ri w2 (ints (fc n u t lo hi (2 ^ u + t))) P q c wr by
        have h := Hj.out.2
        rw [hj, List.take_length, E3.out] at h
        exact h)
      have hge : n2 ≤ j := by omega
      clear hj hlt
      go_wp2
      go_ret2
      exact ⟨P, q, c, rfl, Iv.of_own Hr.out.row (ints_wf2 (B := 2 ^ u + t) (by have := H4.out; omega) (fc_lt _ _ _ _ _ _)), HF.out.tr Hr.out.fr⟩
theorem lr_in {l t : Int} (ho : lrOk lo hi l t = true) : ∃ u s : Nat, l = (u : Int) ∧ t = (s : Int) ∧ chkB lo hi (lo.length : Int) = 0 ∧ lvOk (u : Int) (s : Int) = true ∧ lrL lo hi l t = ints (fc lo.length u s lo hi (2 ^ u + s)) ∧ lrE lo hi l t = 0 := by
  have h := ho
  unfold lrOk at h
  rw [Bool.and_eq_true, decide_eq_true_eq] at h
  obtain ⟨h1, h2⟩ := h
  obtain ⟨u, m, rfl, rfl, g1, g2, g3, g4, g5, g6⟩ := lv_in h1
  exact ⟨u, m, rfl, rfl, h2, h1, by unfold lrL; rw [if_pos ho, Int.toNat_natCast, Int.toNat_natCast], by unfold lrE; rw [if_pos ho]⟩
theorem lr_out {l t : Int} (ho : lrOk lo hi l t = false) : lrL lo hi l t = [] ∧ lrE lo hi l t = 1 := ⟨by unfold lrL; rw [ho]; rfl, by unfold lrE; rw [ho]; rfl⟩
theorem lrange_any (l t : Int) (hl : Kv w A n cn lo) (hh : Kv w B m cm hi) :
    Calls Try.prog 17 #[.agg #[.slice A n cn, .slice B m cm], .int .i64 l, .int .i64 t] w (IntsRet w (lrL lo hi l t) (.int .i64 (lrE lo hi l t))) := by
  cases ho : lrOk lo hi l t with
  | true =>
    obtain ⟨u, s, rfl, rfl, h1, h2, h3, h4⟩ := lr_in ho
    rw [h3, h4, ← hl.len]
    rw [← hl.len] at h1
    exact lrange_ok u s hl hh h1 h2
  | false =>
    obtain ⟨h3, h4⟩ := lr_out ho
    rw [h3, h4]
    exact lrange_no l t hl hh ho
theorem rlrange_any (l t : Int) (hl : Kv w A n cn lo) (hh : Kv w B m cm hi) :
    Calls Try.prog 18 #[.agg #[.slice A n cn, .slice B m cm], .int .i64 l, .int .i64 t] w (IntsRet w (lrL lo hi l t) (.int .i64 (lrE lo hi l t))) := by
  cases ho : lrOk lo hi l t with
  | true =>
    obtain ⟨u, s, rfl, rfl, h1, h2, h3, h4⟩ := lr_in ho
    rw [h3, h4, ← hl.len]
    rw [← hl.len] at h1
    exact rlrange_ok u s hl hh h1 h2
  | false =>
    obtain ⟨h3, h4⟩ := lr_out ho
    rw [h3, h4]
    exact rlrange_no l t hl hh ho
end
end Go.Proofs.Ytplpgneckfmjpaa.Lf18
