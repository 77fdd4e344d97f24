/- Layer 16: the addresses of the cells that a box meets (the program's). -/
import Derived.Test.YtoaikponefcbiaaHi16
import Derived.Laws.EntriesVeiled
namespace Go.Proofs.Ytoaikponefcbiaa.Hj16
open Go.RowKit Go.Proofs.Ytoaikponefcbiaa.Pk08 Go.Proofs.Ytoaikponefcbiaa.Base Go.Proofs.Ytoaikponefcbiaa.App Go.Proofs.Ytoaikponefcbiaa.Ky Go.Proofs.Ytoaikponefcbiaa.Iv Go.Proofs.Ytoaikponefcbiaa.Bx Go.Proofs.Ytoaikponefcbiaa.Kk Go.Proofs.Ytoaikponefcbiaa.Bo Go.Proofs.Ytoaikponefcbiaa.Cl Go.Proofs.Ytoaikponefcbiaa.Pl08 Go.Proofs.Ytoaikponefcbiaa.Kc08 Go.Proofs.Ytoaikponefcbiaa.Ke08 Go.Proofs.Ytoaikponefcbiaa.Kj08 Go.Proofs.Ytoaikponefcbiaa.Km08 Go.Proofs.Ytoaikponefcbiaa.Ka08 Go.Proofs.Ytoaikponefcbiaa.Px16 Go.Proofs.Ytoaikponefcbiaa.Py16 Go.Proofs.Ytoaikponefcbiaa.Hd16 Go.Proofs.Ytoaikponefcbiaa.He16 Go.Proofs.Ytoaikponefcbiaa.Hg16 Go.Proofs.Ytoaikponefcbiaa.Hi16
set_option linter.unusedVariables false
set_option linter.unusedSimpArgs false
def rgOk (lo hi : List Nat) (d n : Int) : Bool := decide (chkB lo hi d = 0) && dpB n
def rgL (lo hi : List Nat) (d n : Int) : List Int := if rgOk lo hi d n = true then ints (rg d.toNat n.toNat lo hi n.toNat 0) else []
def rgE (lo hi : List Nat) (d n : Int) : Int := if rgOk lo hi d n = true then 0 else 1
/-- Numbers are returned, and one more. -/
def IntsRet (w : World) (xs : List Int) (last : Value) (e : Ending) (w' : World) : Prop :=
  ∃ A n c, e = .returned (.tuple #[.slice A n c, last]) ∧ Iv w' A n c xs ∧ Fr No w w'
theorem iv_none (w : World) : Iv w none 0 0 [] := ⟨rfl, Nat.le_refl _, Nat.zero_le _, fun i h => by simp at h, fun h => by simp at h⟩
theorem rg_lt (d m : Nat) (lo hi : List Nat) : ∀ k a, ∀ x ∈ rg d m lo hi k a, x < (a + 1) * 2 ^ k
  | 0, a => by
    simp only [rg]
    intro x hx
    split at hx
    · simp at hx; omega
    · simp at hx
  | k + 1, a => by
    simp only [rg]
    intro x hx
    split at hx
    · rcases List.mem_append.1 hx with h | h
      · have h1 := rg_lt d m lo hi k (2 * a) x h
        have h2 : (2 * a + 1) * 2 ^ k ≤ (a + 1) * 2 ^ (k + 1) := by rw [Nat.pow_succ, Nat.mul_comm (2 ^ k) 2, ← Nat.mul_assoc]; exact Nat.mul_le_mul_right _ (by omega)
        omega
      · have h1 := rg_lt d m lo hi k (2 * a + 1) x h
        have h2 : (2 * a + 1 + 1) * 2 ^ k ≤ (a + 1) * 2 ^ (k + 1) := by rw [Nat.pow_succ, Nat.mul_comm (2 ^ k) 2, ← Nat.mul_assoc]; exact Nat.mul_le_mul_right _ (by omega)
        omega
    · simp at hx
theorem ints_get (l : List Nat) (i : Nat) : (ints l).getD i 0 = ((l.getD i 0 : Nat) : Int) := by
  by_cases h : i < l.length
  · simp [ints, List.getD_eq_getElem?_getD, h]
  · simp [ints, List.getD_eq_getElem?_getD, List.getElem?_eq_none (show l.length ≤ i by omega)]
theorem ints_wf (d t : Nat) (lo hi : List Nat) (ht : t ≤ 12) : ∀ i, i < (ints (rg d t lo hi t 0)).length → -9223372036854775808 ≤ (ints (rg d t lo hi t 0)).getD i 0 ∧ (ints (rg d t lo hi t 0)).getD i 0 ≤ 9223372036854775807 := by
  intro i hi'
  have hlen : i < (rg d t lo hi t 0).length := by simpa [ints] using hi'
  have h1 := rg_lt d t lo hi t 0 _ (List.getElem_mem hlen)
  have h2 := Nat.pow_le_pow_right (show 0 < 2 by decide) ht
  rw [ints_get, List.getD_eq_getElem?_getD, List.getElem?_eq_getElem hlen]
  simp only [Option.getD_some]
  have h3 : (2 : Nat) ^ 12 = 4096 := rfl
  rw [Nat.zero_add, Nat.one_mul] at h1
  generalize (rg d t lo hi t 0)[i] = x at *
  omega
section
variable {w : World} {A B : Option Addr} {n cn m cm : Nat} {lo hi : List Nat}
theorem range_no (d t : Int) (hl : Kv w A n cn lo) (hh : Kv w B m cm hi) (ho : rgOk lo hi d t = false) :
    Calls Try.prog 17 #[.agg #[.slice A n cn, .slice B m cm], .int .i64 d, .int .i64 t] w (IntsRet w [] (.int .i64 1)) := by
  have hc : chkB lo hi d = 1 ∨ (chkB lo hi d = 0 ∧ dpB t = false) := by
    by_cases h0 : chkB lo hi d = 0
    · refine .inr ⟨h0, ?_⟩
      unfold rgOk at ho
      rw [h0] at ho
      simpa using ho
    · exact .inl (chkB_one h0)
  clear ho
  rcases hc with h0 | ⟨h0, h2⟩
  · have H0 := Lib.hid h0
    clear h0
    go_enter Try.func17, Try.ntmps17
    go_wp2_with (go_at_call 33; ((with_reducible refine (checkBox_any (lo := lo) (hi := hi) _ ?_ ?_).mono ?_); (iterate 2 (repeat (first | with_reducible assumption | ((with_reducible refine Kv.lit_new _ _ _ _ _ _ ?_ ?_ ?_ ?_) <;> (first | (simp; done) | rfl | decide)) | with_reducible exact Kv.none_ _ | with_reducible refine Kv.alloc ?_ _ | with_reducible refine Kv.drew ?_ | with_reducible refine Kv.drewN ?_ _ | with_reducible refine Kv.no ?_ (by assumption)))); rintro e w1 ⟨rfl, hf1⟩; rw [H0.out]))
    go_ret2
    exact ⟨none, 0, 0, rfl, iv_none _, by (repeat (first | with_reducible exact Fr.refl _ _ | with_reducible refine Fr.setCell ?_ (.inr (by first | (simp; done) | (simp; omega))) _ | with_reducible refine Fr.alloc ?_ _ | with_reducible refine Fr.drew ?_ | with_reducible refine Fr.drewN ?_ _ | with_reducible refine Fr.tr ?_ (by assumption)))⟩
  · have H0 := Lib.hid h0
    have H2 := Lib.hid h2
    clear h0 h2
    go_enter Try.func17, Try.ntmps17
    go_wp2_with (first
      | (go_at_call 33; ((with_reducible refine (checkBox_any (lo := lo) (hi := hi) _ ?_ ?_).mono ?_); (iterate 2 (repeat (first | with_reducible assumption | ((with_reducible refine Kv.lit_new _ _ _ _ _ _ ?_ ?_ ?_ ?_) <;> (first | (simp; done) | rfl | decide)) | with_reducible exact Kv.none_ _ | with_reducible refine Kv.alloc ?_ _ | with_reducible refine Kv.drew ?_ | with_reducible refine Kv.drewN ?_ _ | with_reducible refine Kv.no ?_ (by assumption)))); rintro e w1 ⟨rfl, hf1⟩; rw [H0.out]; have hx := (show Ob w1 (w.heap.size + 1 + 1) #[.int .i64 t] 3 by (repeat (first | with_reducible assumption | with_reducible refine Ob.other ?_ (by first | (simp; done) | (simp; omega)) _ | ((with_reducible refine Ob.new_ _ _ _ _ ?_) <;> (simp; done)) | with_reducible refine Ob.alloc ?_ _ | with_reducible refine Ob.drew ?_ | with_reducible refine Ob.drewN ?_ _ | with_reducible refine Ob.no ?_ (by assumption)))).cell 0 (v := .int .i64 t) rfl))
      | (go_at_call 29; ((with_reducible refine (isDepth_any _ _).mono ?_); rintro e w2 ⟨rfl, rfl⟩; rw [H2.out]))
      | fail)
    go_ret2
    exact ⟨none, 0, 0, rfl, iv_none _, by (repeat (first | with_reducible exact Fr.refl _ _ | with_reducible refine Fr.setCell ?_ (.inr (by first | (simp; done) | (simp; omega))) _ | with_reducible refine Fr.alloc ?_ _ | with_reducible refine Fr.drew ?_ | with_reducible refine Fr.drewN ?_ _ | with_reducible refine Fr.tr ?_ (by assumption)))⟩
set_option maxHeartbeats 3200000 in
theorem range_ok (d t : Nat) (hl : Kv w A n cn lo) (hh : Kv w B m cm hi) (hc : chkB lo hi (d : Int) = 0) (ht : t ≤ 12) :
    Calls Try.prog 17 #[.agg #[.slice A n cn, .slice B m cm], .int .i64 (d : Int), .int .i64 (t : Int)] w (IntsRet w (ints (rg d t lo hi t 0)) (.int .i64 0)) := by
  obtain ⟨h1, h6, h7, h8⟩ := chkB_zero.1 hc
  have h9 := (leL_iff _ _).1 h8
  obtain rfl : d = n := by have := hl.len; omega
  obtain rfl : d = m := by have := hh.len; omega
  have H0 := Lib.hid hc
  have H2 := Lib.hid (show dpB (t : Int) = true from decide_eq_true ⟨by omega, by omega⟩)
  have Hlo := Lib.hid (show wLo (d : Int) = List.replicate d 0 by rw [wLo_in ⟨by omega, by omega⟩, Int.toNat_natCast])
  have Hhi := Lib.hid (show wHi (d : Int) = List.replicate d 4294967295 by rw [wHi_in ⟨by omega, by omega⟩, Int.toNat_natCast])
  obtain ⟨ga, oa, hga, ca⟩ := hl.get 0 (by omega)
  obtain ⟨gb, ob, hgb, cb⟩ := hh.get 0 (by omega)
  have la := World.block_lt_of_cell? w _ ca
  have lb := World.block_lt_of_cell? w _ cb
  subst hga
  subst hgb
  have la' : ga < w.heap.size := la
  have lb' : gb < w.heap.size := lb
  clear hc h7 h8 h9 ca cb la lb
  go_enter Try.func17, Try.ntmps17
  go_wp2_with (first
    | (go_at_call 33; ((with_reducible refine (checkBox_any (lo := lo) (hi := hi) _ ?_ ?_).mono ?_); (iterate 2 (repeat (first | with_reducible assumption | ((with_reducible refine Kv.lit_new _ _ _ _ _ _ ?_ ?_ ?_ ?_) <;> (first | (simp; done) | rfl | decide)) | with_reducible exact Kv.none_ _ | with_reducible refine Kv.alloc ?_ _ | with_reducible refine Kv.drew ?_ | with_reducible refine Kv.drewN ?_ _ | with_reducible refine Kv.no ?_ (by assumption)))); rintro e w1 ⟨rfl, hf1⟩; rw [H0.out]; have hx := (show Ob w1 (w.heap.size + 1 + 1) #[.int .i64 (t : Int)] 3 by (repeat (first | with_reducible assumption | with_reducible refine Ob.other ?_ (by first | (simp; done) | (simp; omega)) _ | ((with_reducible refine Ob.new_ _ _ _ _ ?_) <;> (simp; done)) | with_reducible refine Ob.alloc ?_ _ | with_reducible refine Ob.drew ?_ | with_reducible refine Ob.drewN ?_ _ | with_reducible refine Ob.no ?_ (by assumption)))).cell 0 (v := .int .i64 (t : Int)) rfl))
    | (go_at_call 29; ((with_reducible refine (isDepth_any _ _).mono ?_); rintro e w2 ⟨rfl, rfl⟩; rw [H2.out]))
    | fail)
  have F : Fr No w ((w1.alloc (.cells #[.slice none 0 0] 37)).alloc (.cells #[.func (.func 34) #[] #[.pointer (some ⟨w.heap.size, 0, none⟩), .pointer (some ⟨w.heap.size + 1 + 1, 0, none⟩), .pointer (some ⟨w1.heap.size, 0, none⟩), .pointer (some ⟨w.heap.size + 1, 0, none⟩), .pointer (some ⟨w1.heap.size + 1, 0, none⟩)]] 57)) := by (repeat (first | with_reducible exact Fr.refl _ _ | with_reducible refine Fr.setCell ?_ (.inr (by first | (simp; done) | (simp; omega))) _ | with_reducible refine Fr.alloc ?_ _ | with_reducible refine Fr.drew ?_ | with_reducible refine Fr.drewN ?_ _ | with_reducible refine Fr.tr ?_ (by assumption)))
  have hz : w.heap.size + 1 + 1 < w1.heap.size := (show Ob w1 (w.heap.size + 1 + 1) #[.int .i64 (t : Int)] 3 by (repeat (first | with_reducible assumption | with_reducible refine Ob.other ?_ (by first | (simp; done) | (simp; omega)) _ | ((with_reducible refine Ob.new_ _ _ _ _ ?_) <;> (simp; done)) | with_reducible refine Ob.alloc ?_ _ | with_reducible refine Ob.drew ?_ | with_reducible refine Ob.drewN ?_ _ | with_reducible refine Ob.no ?_ (by assumption)))).lt
  have E : Env ((w1.alloc (.cells #[.slice none 0 0] 37)).alloc (.cells #[.func (.func 34) #[] #[.pointer (some ⟨w.heap.size, 0, none⟩), .pointer (some ⟨w.heap.size + 1 + 1, 0, none⟩), .pointer (some ⟨w1.heap.size, 0, none⟩), .pointer (some ⟨w.heap.size + 1, 0, none⟩), .pointer (some ⟨w1.heap.size + 1, 0, none⟩)]] 57)) (w1.heap.size + 1 + 1) w.heap.size (w.heap.size + 1 + 1) w1.heap.size (w.heap.size + 1) (w1.heap.size + 1) t d (some ⟨ga, oa, none⟩) (some ⟨gb, ob, none⟩) cn cm lo hi :=
    ⟨by (repeat (first | with_reducible assumption | with_reducible refine Ob.other ?_ (by first | (simp; done) | (simp; omega)) _ | ((with_reducible refine Ob.new_ _ _ _ _ ?_) <;> (simp; done)) | with_reducible refine Ob.alloc ?_ _ | with_reducible refine Ob.drew ?_ | with_reducible refine Ob.drewN ?_ _ | with_reducible refine Ob.no ?_ (by assumption))), by (repeat (first | with_reducible assumption | with_reducible refine Ob.other ?_ (by first | (simp; done) | (simp; omega)) _ | ((with_reducible refine Ob.new_ _ _ _ _ ?_) <;> (simp; done)) | with_reducible refine Ob.alloc ?_ _ | with_reducible refine Ob.drew ?_ | with_reducible refine Ob.drewN ?_ _ | with_reducible refine Ob.no ?_ (by assumption))), by (repeat (first | with_reducible assumption | with_reducible refine Ob.other ?_ (by first | (simp; done) | (simp; omega)) _ | ((with_reducible refine Ob.new_ _ _ _ _ ?_) <;> (simp; done)) | with_reducible refine Ob.alloc ?_ _ | with_reducible refine Ob.drew ?_ | with_reducible refine Ob.drewN ?_ _ | with_reducible refine Ob.no ?_ (by assumption))), Ob.new_ _ _ _ _ (by simp), hl.no F, hh.no F, by omega, by omega, fun b off e => by injection e with e; injection e with e1 e2; omega, fun b off e => by injection e with e; injection e with e1 e2; omega⟩
  have L : Lst ((w1.alloc (.cells #[.slice none 0 0] 37)).alloc (.cells #[.func (.func 34) #[] #[.pointer (some ⟨w.heap.size, 0, none⟩), .pointer (some ⟨w.heap.size + 1 + 1, 0, none⟩), .pointer (some ⟨w1.heap.size, 0, none⟩), .pointer (some ⟨w.heap.size + 1, 0, none⟩), .pointer (some ⟨w1.heap.size + 1, 0, none⟩)]] 57)) (w1.heap.size + 1 + 1) w1.heap.size none 0 0 [] := ⟨(Ob.new w1 _ _).alloc _, World.ownsRow_nil _ _ _ _⟩
  have hs : ((w1.alloc (.cells #[.slice none 0 0] 37)).alloc (.cells #[.func (.func 34) #[] #[.pointer (some ⟨w.heap.size, 0, none⟩), .pointer (some ⟨w.heap.size + 1 + 1, 0, none⟩), .pointer (some ⟨w1.heap.size, 0, none⟩), .pointer (some ⟨w.heap.size + 1, 0, none⟩), .pointer (some ⟨w1.heap.size + 1, 0, none⟩)]] 57)).heap.size = w1.heap.size + 1 + 1 := by simp
  clear hf1 hx
  generalize hW : ((w1.alloc (.cells #[.slice none 0 0] 37)).alloc (.cells #[.func (.func 34) #[] #[.pointer (some ⟨w.heap.size, 0, none⟩), .pointer (some ⟨w.heap.size + 1 + 1, 0, none⟩), .pointer (some ⟨w1.heap.size, 0, none⟩), .pointer (some ⟨w.heap.size + 1, 0, none⟩), .pointer (some ⟨w1.heap.size + 1, 0, none⟩)]] 57)) = W at *
  clear hW
  generalize hB0 : w1.heap.size + 1 + 1 = B0 at *
  generalize hgf : w1.heap.size + 1 = gf at *
  generalize hgl : w1.heap.size = gl at *
  have HF := Lib.hid F
  have HE := Lib.hid E
  have HL := Lib.hid L
  have DK := Lib.hid (down_any (B0 := B0) (gb := w.heap.size) (gm := w.heap.size + 1 + 1) (gl := gl) (gd := w.heap.size + 1) (gf := gf) (m := t) (d := d) (C := some ⟨ga, oa, none⟩) (D := some ⟨gb, ob, none⟩) (cc := cn) (cd := cm) (bl := lo) (bh := hi) (by omega) (by omega) ht t)
  have HB := Lib.hid (show B0 ≤ W.heap.size by omega)
  have Hgl := Lib.hid (show w.heap.size ≤ gl by omega)
  have H12 := Lib.hid (show 0 + 2 ^ t ≤ 10000 by have h1 := Nat.pow_le_pow_right (show 0 < 2 by decide) ht; have h2 : (2 : Nat) ^ 12 = 4096 := rfl; omega)
  clear hB0 hgf hgl hs hz
  have x0 := E.ef.cell 0 rfl
  have x1 := E.ed.cell 0 rfl
  clear F E L
  go_region_held3 (fun w' => w'.cell? ⟨gf, 0, none⟩ = some (.func (.func 34) #[] #[.pointer (some ⟨w.heap.size, 0, none⟩), .pointer (some ⟨w.heap.size + 1 + 1, 0, none⟩), .pointer (some ⟨gl, 0, none⟩), .pointer (some ⟨w.heap.size + 1, 0, none⟩), .pointer (some ⟨gf, 0, none⟩)]) ∧ w'.cell? ⟨w.heap.size + 1, 0, none⟩ = some (.int .i64 (d : Int)))
    (first | exact ⟨x0, x1⟩ | exact ⟨x2, x3⟩ | exact ⟨x4, x5⟩ | fail)
    (first
      | (go_at_call 25; ((with_reducible refine (whole_any _ _).mono ?_); rintro e w2 ⟨A0, n0, c0, B0', m0, d0, rfl, hl0, hh0, hf0⟩; rw [Hlo.out] at hl0; rw [Hhi.out] at hh0; obtain rfl : d = n0 := (by have := hl0.len; simp at this; omega); obtain rfl : d = m0 := (by have := hh0.len; simp at this; omega); have Hl0 := Lib.hid (show Kv w2 A0 d c0 (bx d 0 0).1 by rw [bx_zero]; exact hl0); have Hh0 := Lib.hid (show Kv w2 B0' d d0 (bx d 0 0).2 by rw [bx_zero]; exact hh0); have E2 := Lib.hid ((HE.out.no (Fr.refl No W).drew).no hf0); have L2 := Lib.hid ((HL.out.no (Fr.refl No W).drew).no hf0); have x2 := E2.out.ef.cell 0 rfl; have x3 := E2.out.ed.cell 0 rfl; have HF2 := Lib.hid ((HF.out.drew).tr hf0); have HB2 := Lib.hid (show B0 ≤ w2.heap.size by have h3 := hf0.size; have h4 := HB.out; simp at h3; omega)))
      | (go_at_call 34; ((with_reducible refine (DownK.call DK.out (a := 0) (i := 0) (xs := []) (by omega) (by omega) (Nat.zero_add t) (by simp) HB2.out H12.out E2.out L2.out Hl0.out Hh0.out).mono ?_); rintro e w4 ⟨rfl, A3, n3, c3, hL3, hs3, hF3⟩; have E4 := Lib.hid (E2.out.fr hF3 (L2.out.sl)); have L4 := Lib.hid hL3; have x4 := E4.out.ef.cell 0 rfl; have x5 := E4.out.ed.cell 0 rfl; have x6 := L4.out.ob.cell 0 rfl; have HF4 := Lib.hid (HF2.out.trans hF3 (fun j hj => hj.elim (fun x => .inr (by have := Hgl.out; omega)) (fun x => by simp [Value.ownBlock] at x)))))
      | fail)
  go_wp2
  go_ret2
  refine ⟨A3, n3, c3, rfl, ?_, HF4.out⟩
  have hr := L4.out.row
  rw [List.nil_append] at hr
  exact Iv.of_own hr (ints_wf _ _ _ _ ht)
end
end Go.Proofs.Ytoaikponefcbiaa.Hj16
