/- Layer 8, further: what two boxes have both. -/
import Derived.Test.YtoaikponefcbiaaKi08
import Derived.Test.YtoaikponefcbiaaKe08
import Derived.Handy
namespace Go.Proofs.Ytoaikponefcbiaa.Kj08
open Go.RowKit Go.Proofs.Ytoaikponefcbiaa.Pk08 Go.Proofs.Ytoaikponefcbiaa.Base Go.Proofs.Ytoaikponefcbiaa.App Go.Proofs.Ytoaikponefcbiaa.Str Go.Proofs.Ytoaikponefcbiaa.Ky Go.Proofs.Ytoaikponefcbiaa.Kc08 Go.Proofs.Ytoaikponefcbiaa.Kd08 Go.Proofs.Ytoaikponefcbiaa.Ke08 Go.Proofs.Ytoaikponefcbiaa.Ki08
set_option linter.unusedVariables false
set_option linter.unusedSimpArgs false
/-- A box of two points, and a bool or a code, are returned. -/
def BoxRet (w : World) (lo hi : List Nat) (last : Value) (e : Ending) (w' : World) : Prop :=
  ∃ A n c B m d, e = .returned (.tuple #[.agg #[.slice A n c, .slice B m d], last]) ∧ Kv w' A n c lo ∧ Kv w' B m d hi ∧ Fr No w w'
theorem four {w' : World} {s t : Nat} {a b c d : Value} {T : TypeId} (h1 : Ob w' s #[a, b] T) (h2 : Ob w' t #[c, d] T) :
    w'.cell? ⟨s, 0, none⟩ = some a ∧ w'.cell? ⟨s, 1, none⟩ = some b ∧ w'.cell? ⟨t, 0, none⟩ = some c ∧ w'.cell? ⟨t, 1, none⟩ = some d :=
  ⟨h1.cell 0 rfl, h1.cell 1 rfl, h2.cell 0 rfl, h2.cell 1 rfl⟩
theorem put4 {w' : World} {s t z : Nat} {a b c d : Value} {T : TypeId} (h1 : Ob w' s #[a, b] T) (h2 : Ob w' t #[c, d] T) (n1 : s ≠ z) (n2 : t ≠ z) (u v : Value) :
    ((w'.setCell ⟨z, 0, none⟩ u).setCell ⟨z, 1, none⟩ v).cell? ⟨s, 0, none⟩ = some a ∧ ((w'.setCell ⟨z, 0, none⟩ u).setCell ⟨z, 1, none⟩ v).cell? ⟨s, 1, none⟩ = some b ∧ ((w'.setCell ⟨z, 0, none⟩ u).setCell ⟨z, 1, none⟩ v).cell? ⟨t, 0, none⟩ = some c ∧ ((w'.setCell ⟨z, 0, none⟩ u).setCell ⟨z, 1, none⟩ v).cell? ⟨t, 1, none⟩ = some d :=
  four ((h1.other n1 u).other n1 v) ((h2.other n2 u).other n2 v)
theorem kv_set2 {w : World} {t z n c : Nat} {ks : List Nat} (h : Kv w (some ⟨t, 0, none⟩) n c ks) (hn : t ≠ z) (u v : Value) : Kv ((w.setCell ⟨z, 0, none⟩ u).setCell ⟨z, 1, none⟩ v) (some ⟨t, 0, none⟩) n c ks :=
  h.fr (S := fun k => k = z) (((Fr.refl (fun k => k = z) w).setCell (p := ⟨z, 0, none⟩) (.inl rfl) u).setCell (p := ⟨z, 1, none⟩) (.inl rfl) v) (fun b off e (hb : b = z) => by
    injection e with e
    injection e with e1 e2
    exact hn (e1.trans hb))
theorem chkB_one {lo hi : List Nat} {d : Int} (h : ¬ chkB lo hi d = 0) : chkB lo hi d = 1 := by
  unfold chkB at h ⊢
  split
  · next h2 => rw [if_pos h2] at h; exact absurd rfl h
  · rfl
/-- Two points are put together in a box at z; the result's place is r. -/
structure Ready (w wE : World) (r t1 t2 z n : Nat) (lo hi : List Nat) : Prop where
  hz : Ob wE z #[.slice (some ⟨t1, 0, none⟩) n n, .slice (some ⟨t2, 0, none⟩) n n] 28
  hr : Ob wE r #[.slice none 0 0, .slice none 0 0] 28
  k1 : Kv wE (some ⟨t1, 0, none⟩) n n lo
  k2 : Kv wE (some ⟨t2, 0, none⟩) n n hi
  fr : Fr No w wE
  ne : z ≠ r
  n1 : t1 ≠ r
  n2 : t2 ≠ r
  le : w.heap.size ≤ r
def meetIs (al ah bl bh : List Nat) : Bool := decide (ah.length = al.length ∧ bl.length = al.length ∧ bh.length = al.length ∧ chkB (zipL max al bl) (zipL min ah bh) al.length = 0)
def meetLo (al ah bl bh : List Nat) : List Nat := if meetIs al ah bl bh = true then zipL max al bl else []
def meetHi (al ah bl bh : List Nat) : List Nat := if meetIs al ah bl bh = true then zipL min ah bh else []
theorem max_lt (x y : Nat) (hx : x < 4294967296) (hy : y < 4294967296) : max x y < 4294967296 := by omega
theorem min_lt (x y : Nat) (hx : x < 4294967296) (hy : y < 4294967296) : min x y < 4294967296 := by omega
section
variable {w : World} {A B C D : Option Addr} {n m p q cn cm cp cq : Nat} {al ah bl bh : List Nat}
set_option maxHeartbeats 1600000 in
theorem meet_in (hal : Kv w A n cn al) (hah : Kv w B n cm ah) (hbl : Kv w C n cp bl) (hbh : Kv w D n cq bh) (hn : n ≤ 1000000) :
    Calls Try.prog 35 #[.agg #[.slice A n cn, .slice B n cm], .agg #[.slice C n cp, .slice D n cq]] w
      (BoxRet w (meetLo al ah bl bh) (meetHi al ah bl bh) (.bool (meetIs al ah bl bh))) := by
  have f0 : Fr No w (((w.alloc (.cells #[.slice A n cn, .slice B n cm] 28)).alloc (.cells #[.slice C n cp, .slice D n cq] 28)).alloc (.cells #[.slice none 0 0, .slice none 0 0] 28)) := (((Fr.refl No w).alloc _).alloc _).alloc _
  have hOa := ((Ob.new w #[.slice A n cn, .slice B n cm] 28).alloc (.cells #[.slice C n cp, .slice D n cq] 28)).alloc (.cells #[.slice none 0 0, .slice none 0 0] 28)
  have hOb := (Ob.new (w.alloc (.cells #[.slice A n cn, .slice B n cm] 28)) #[.slice C n cp, .slice D n cq] 28).alloc (.cells #[.slice none 0 0, .slice none 0 0] 28)
  have hOz := Ob.new ((w.alloc (.cells #[.slice A n cn, .slice B n cm] 28)).alloc (.cells #[.slice C n cp, .slice D n cq] 28)) #[.slice none 0 0, .slice none 0 0] 28
  have s1 : (w.alloc (.cells #[.slice A n cn, .slice B n cm] 28)).heap.size = w.heap.size + 1 := by simp
  have s2 : ((w.alloc (.cells #[.slice A n cn, .slice B n cm] 28)).alloc (.cells #[.slice C n cp, .slice D n cq] 28)).heap.size = w.heap.size + 2 := by simp
  rw [s1] at hOb
  rw [s2] at hOz
  clear s1 s2
  have Hal := Lib.hid (hal.no f0.drew)
  have Hah := Lib.hid (hah.no f0.drew)
  have Hbl := Lib.hid (hbl.no f0.drew)
  have Hbh := Lib.hid (hbh.no f0.drew)
  have HalZ := Lib.hid (hal.no (f0.alloc (.cells #[.slice none 0 0, .slice none 0 0] 28)).drew)
  have HahZ := Lib.hid (hah.no (f0.alloc (.cells #[.slice none 0 0, .slice none 0 0] 28)).drew)
  have HblZ := Lib.hid (hbl.no (f0.alloc (.cells #[.slice none 0 0, .slice none 0 0] 28)).drew)
  have HbhZ := Lib.hid (hbh.no (f0.alloc (.cells #[.slice none 0 0, .slice none 0 0] 28)).drew)
  have hOaZ := (hOa.alloc (.cells #[.slice none 0 0, .slice none 0 0] 28)).drew
  have hObZ := (hOb.alloc (.cells #[.slice none 0 0, .slice none 0 0] 28)).drew
  have hZ0 := (Ob.new (((w.alloc (.cells #[.slice A n cn, .slice B n cm] 28)).alloc (.cells #[.slice C n cp, .slice D n cq] 28)).alloc (.cells #[.slice none 0 0, .slice none 0 0] 28)) #[.slice none 0 0, .slice none 0 0] 28).drew
  have s3 : (((w.alloc (.cells #[.slice A n cn, .slice B n cm] 28)).alloc (.cells #[.slice C n cp, .slice D n cq] 28)).alloc (.cells #[.slice none 0 0, .slice none 0 0] 28)).heap.size = w.heap.size + 1 + 1 + 1 := by simp
  rw [s3] at hZ0
  clear s3
  have Hlo : ∀ x ∈ zipL max al bl, x < 4294967296 := zipL_lt max max_lt hal hbl
  have Hhi : ∀ x ∈ zipL min ah bh, x < 4294967296 := zipL_lt min min_lt hah hbh
  have Hn := Lib.hid hal.len
  have Hm := Lib.hid (show meetIs al ah bl bh = decide (chkB (zipL max al bl) (zipL min ah bh) n = 0) by
    unfold meetIs
    rw [hal.len]
    have e1 : ah.length = al.length := by rw [← hal.len, ← hah.len]
    have e2 : bl.length = al.length := by rw [← hal.len, ← hbl.len]
    have e3 : bh.length = al.length := by rw [← hal.len, ← hbh.len]
    simp [e1, e2, e3])
  clear hal hah hbl hbh
  go_enter Try.func35, Try.ntmps35
  go_wp2
  go_region_held3 (fun w' => w'.cell? ⟨w.heap.size, 0, none⟩ = some (.slice A n cn) ∧ w'.cell? ⟨w.heap.size, 1, none⟩ = some (.slice B n cm) ∧ w'.cell? ⟨w.heap.size + 1, 0, none⟩ = some (.slice C n cp) ∧ w'.cell? ⟨w.heap.size + 1, 1, none⟩ = some (.slice D n cq))
    (first | exact four hOa.drew hOb.drew | exact four hOaZ hObZ | exact four hOa1 hOb1 | exact four (hOa1.alloc _) (hOb1.alloc _) | exact four hOa2 hOb2 | exact four (hOa2.alloc _) (hOb2.alloc _) | exact put4 hOa2 hOb2 n1 n2 _ _ | exact put4 (hOa2.alloc _) (hOb2.alloc _) n3 n4 _ _ | fail)
    (first
      | (go_at_call 46; ((with_reducible refine (zip_max Hal.out Hbl.out hn).mono ?_); rintro e w1 ⟨rfl, ho1, hf1⟩; have hOa1 := hOa.drew.fr hf1 (fun x => x); have hOb1 := hOb.drew.fr hf1 (fun x => x); have Hah1 := Lib.hid (Hah.out.no hf1); have Hbh1 := Lib.hid (Hbh.out.no hf1)))
      | (go_at_call 46; ((with_reducible refine (zip_max HalZ.out HblZ.out hn).mono ?_); rintro e w1 ⟨rfl, ho1, hf1⟩; have hOa1 := hOaZ.fr hf1 (fun x => x); have hOb1 := hObZ.fr hf1 (fun x => x); have Hah1 := Lib.hid (HahZ.out.no hf1); have Hbh1 := Lib.hid (HbhZ.out.no hf1); have hZ1 := hZ0.fr hf1 (fun x => x)))
      | (go_at_call 46; ((with_reducible refine (zip_min Hah1.out Hbh1.out hn).mono ?_); rintro e w2 ⟨rfl, ho2, hf2⟩; have hOa2 := hOa1.fr hf2 (fun x => x); have hOb2 := hOb1.fr hf2 (fun x => x); have l1 := hOa1.lt; have l2 := hOb1.lt; have l3 := hOa2.lt; have l4 := hOb2.lt; have n3 : w.heap.size ≠ w2.heap.size := (by omega); have n4 : w.heap.size + 1 ≠ w2.heap.size := (by omega); have n1 : w.heap.size ≠ w.heap.size + 1 + 1 + 1 := (by omega); have n2 : w.heap.size + 1 ≠ w.heap.size + 1 + 1 + 1 := (by omega); have hZ2 := hZ1.fr hf2 (fun x => x); have y0 := hZ2.cell 0 rfl; have y1 := hZ2.cell 1 rfl; have y2 := hZ2.frozen 0; have y3 := hZ2.frozen 1))
      | (go_at_call 46; ((with_reducible refine (zip_min Hah1.out Hbh1.out hn).mono ?_); rintro e w2 ⟨rfl, ho2, hf2⟩; have hOa2 := hOa1.fr hf2 (fun x => x); have hOb2 := hOb1.fr hf2 (fun x => x); have l1 := hOa1.lt; have l2 := hOb1.lt; have l3 := hOa2.lt; have l4 := hOb2.lt; have n3 : w.heap.size ≠ w2.heap.size := (by omega); have n4 : w.heap.size + 1 ≠ w2.heap.size := (by omega)))
      | (go_at_call 46; ((with_reducible refine (zip_min (Hah1.out.no ((Fr.refl No _).alloc _)) (Hbh1.out.no ((Fr.refl No _).alloc _)) hn).mono ?_); rintro e w2 ⟨rfl, ho2, hf2⟩; have hOa2 := (hOa1.alloc _).fr hf2 (fun x => x); have hOb2 := (hOb1.alloc _).fr hf2 (fun x => x); have l1 := hOa1.lt; have l2 := hOb1.lt; have l3 := hOa2.lt; have l4 := hOb2.lt; have n3 : w.heap.size ≠ w2.heap.size := (by omega); have n4 : w.heap.size + 1 ≠ w2.heap.size := (by omega); have n1 : w.heap.size ≠ w1.heap.size := (by omega); have n2 : w.heap.size + 1 ≠ w1.heap.size := (by omega); have hZ2 := (Ob.new _ #[.slice none 0 0, .slice none 0 0] 28).fr hf2 (fun x => x); have y0 := hZ2.cell 0 rfl; have y1 := hZ2.cell 1 rfl; have y2 := hZ2.frozen 0; have y3 := hZ2.frozen 1))
      | fail)
  · have e3 : (((w.alloc (.cells #[.slice A n cn, .slice B n cm] 28)).alloc (.cells #[.slice C n cp, .slice D n cq] 28)).alloc (.cells #[.slice none 0 0, .slice none 0 0] 28)).drew.heap.size = w.heap.size + 1 + 1 + 1 := by simp
    rw [e3] at ho1
    have k1 := Kv.of_own ho1 Hlo
    have k2 := Kv.of_own ho2 Hhi
    have hz1 := hf1.size
    rw [e3] at hz1
    have hz2 := hf2.size
    have hrr := ((hOz.drew.fr hf1 (fun x => x)).fr hf2 (fun x => x))
    have R : Ready w (w2.alloc (.cells #[.slice (some ⟨w.heap.size + 1 + 1 + 1, 0, none⟩) n n, .slice (some ⟨w1.heap.size, 0, none⟩) n n] 28)) (w.heap.size + 1 + 1) (w.heap.size + 1 + 1 + 1) w1.heap.size w2.heap.size n (zipL max al bl) (zipL min ah bh) :=
      ⟨Ob.new _ _ _, hrr.alloc _, (k1.no hf2).no ((Fr.refl No _).alloc _), k2.no ((Fr.refl No _).alloc _), ((f0.drew.tr hf1).tr hf2).alloc _, by omega, by omega, by omega, by omega⟩
    clear e3 k1 k2 hrr n3 n4 l1 l2 l3 l4 hz1 hz2
    have c0 := R.hz.cell 0 rfl
    have c1 := R.hz.cell 1 rfl
    have HR := Lib.hid R
    clear R
    cases hck : decide (chkB (zipL max al bl) (zipL min ah bh) n = 0) with
    | true =>
      rw [hck] at Hm
      have hk := of_decide_eq_true hck
      go_wp2_with (go_at_call 33; ((with_reducible refine (checkBox_any _ HR.out.k1 HR.out.k2).mono ?_); rintro e w5 ⟨rfl, hf5⟩; rw [hk]; have hz5 := HR.out.hz.fr hf5 (fun x => x); have hr5 := HR.out.hr.fr hf5 (fun x => x); have d0 := hz5.cell 0 rfl; have d1 := hz5.cell 1 rfl; have e0 := hr5.cell 0 rfl; have e1 := hr5.cell 1 rfl; have e2 := hr5.frozen 0; have e3 := hr5.frozen 1))
      have hrf := (hr5.set 0 (.slice (some ⟨w.heap.size + 1 + 1 + 1, 0, none⟩) n n)).set 1 (.slice (some ⟨w1.heap.size, 0, none⟩) n n)
      have q0 := hrf.cell 0 (v := .slice (some ⟨w.heap.size + 1 + 1 + 1, 0, none⟩) n n) rfl
      have q1 := hrf.cell 1 (v := .slice (some ⟨w1.heap.size, 0, none⟩) n n) rfl
      refine bodyPost_ret (v := .tuple #[.agg #[.slice (some ⟨w.heap.size + 1 + 1 + 1, 0, none⟩) n n, .slice (some ⟨w1.heap.size, 0, none⟩) n n], .bool true]) (by simp [results, Try.results35, go_sem, q0, q1]) rfl ?_
      have m1 : meetLo al ah bl bh = zipL max al bl := by unfold meetLo; rw [Hm.out]; rfl
      have m2 : meetHi al ah bl bh = zipL min ah bh := by unfold meetHi; rw [Hm.out]; rfl
      rw [m1, m2, Hm.out]
      exact ⟨_, n, n, _, n, n, rfl, kv_set2 (HR.out.k1.no hf5) HR.out.n1 _ _, kv_set2 (HR.out.k2.no hf5) HR.out.n2 _ _, (((HR.out.fr.tr hf5).setCell (p := ⟨w.heap.size + 1 + 1, 0, none⟩) (.inr HR.out.le) _).setCell (p := ⟨w.heap.size + 1 + 1, 1, none⟩) (.inr HR.out.le) _)⟩
    | false =>
      rw [hck] at Hm
      have hk := chkB_one (of_decide_eq_false hck)
      go_wp2_with (go_at_call 33; ((with_reducible refine (checkBox_any _ HR.out.k1 HR.out.k2).mono ?_); rintro e w5 ⟨rfl, hf5⟩; rw [hk]; have hz5 := HR.out.hz.fr hf5 (fun x => x); have hr5 := HR.out.hr.fr hf5 (fun x => x); have e0 := hr5.cell 0 rfl; have e1 := hr5.cell 1 rfl; have e2 := hr5.frozen 0; have e3 := hr5.frozen 1))
      have hrf := (hr5.set 0 (.slice none 0 0)).set 1 (.slice none 0 0)
      have q0 := hrf.cell 0 (v := .slice none 0 0) rfl
      have q1 := hrf.cell 1 (v := .slice none 0 0) rfl
      refine bodyPost_ret (v := .tuple #[.agg #[.slice none 0 0, .slice none 0 0], .bool false]) (by simp [results, Try.results35, go_sem, q0, q1]) rfl ?_
      have m1 : meetLo al ah bl bh = [] := by unfold meetLo; rw [Hm.out]; rfl
      have m2 : meetHi al ah bl bh = [] := by unfold meetHi; rw [Hm.out]; rfl
      rw [m1, m2, Hm.out]
      exact ⟨_, 0, 0, _, 0, 0, rfl, Kv.none_ _, Kv.none_ _, (((HR.out.fr.tr hf5).setCell (p := ⟨w.heap.size + 1 + 1, 0, none⟩) (.inr HR.out.le) _).setCell (p := ⟨w.heap.size + 1 + 1, 1, none⟩) (.inr HR.out.le) _)⟩
  · have e3 : (((w.alloc (.cells #[.slice A n cn, .slice B n cm] 28)).alloc (.cells #[.slice C n cp, .slice D n cq] 28)).alloc (.cells #[.slice none 0 0, .slice none 0 0] 28)).drew.heap.size = w.heap.size + 1 + 1 + 1 := by simp
    rw [e3] at ho1
    have e4 : (w1.alloc (.cells #[.slice none 0 0, .slice none 0 0] 28)).heap.size = w1.heap.size + 1 := by simp
    rw [e4] at ho2
    have k1 := Kv.of_own ho1 Hlo
    have k2 := Kv.of_own ho2 Hhi
    have hz1 := hf1.size
    rw [e3] at hz1
    have hz2 := hf2.size
    rw [e4] at hz2
    have hk1 : w.heap.size + 1 + 1 + 1 < w1.heap.size := (ho1.lt _ rfl).2
    have hrr := ((hOz.drew.fr hf1 (fun x => x)).alloc (.cells #[.slice none 0 0, .slice none 0 0] 28)).fr hf2 (fun x => x)
    have R : Ready w ((w2.setCell ⟨w1.heap.size, 0, none⟩ (.slice (some ⟨w.heap.size + 1 + 1 + 1, 0, none⟩) n n)).setCell ⟨w1.heap.size, 1, none⟩ (.slice (some ⟨w1.heap.size + 1, 0, none⟩) n n)) (w.heap.size + 1 + 1) (w.heap.size + 1 + 1 + 1) (w1.heap.size + 1) w1.heap.size n (zipL max al bl) (zipL min ah bh) :=
      ⟨(hZ2.set 0 _).set 1 _, (hrr.other (p := ⟨w1.heap.size, 0, none⟩) (by show ¬ (w.heap.size + 2 = w1.heap.size); omega) _).other (p := ⟨w1.heap.size, 1, none⟩) (by show ¬ (w.heap.size + 2 = w1.heap.size); omega) _, kv_set2 ((k1.no ((Fr.refl No _).alloc _)).no hf2) (by omega) _ _, kv_set2 k2 (by omega) _ _, ((((f0.drew.tr hf1).alloc _).tr hf2).setCell (p := ⟨w1.heap.size, 0, none⟩) (.inr (by show w.heap.size ≤ w1.heap.size; omega)) _).setCell (p := ⟨w1.heap.size, 1, none⟩) (.inr (by show w.heap.size ≤ w1.heap.size; omega)) _, by omega, by omega, by omega, by omega⟩
    clear e3 e4 k1 k2 hrr n1 n2 n3 n4 l1 l2 l3 l4 hz1 hz2 hk1 y0 y1 y2 y3 hZ2
    have c0 := R.hz.cell 0 rfl
    have c1 := R.hz.cell 1 rfl
    have HR := Lib.hid R
    clear R
    cases hck : decide (chkB (zipL max al bl) (zipL min ah bh) n = 0) with
    | true =>
      rw [hck] at Hm
      have hk := of_decide_eq_true hck
      go_wp2_with (go_at_call 33; ((with_reducible refine (checkBox_any _ HR.out.k1 HR.out.k2).mono ?_); rintro e w5 ⟨rfl, hf5⟩; rw [hk]; have hz5 := HR.out.hz.fr hf5 (fun x => x); have hr5 := HR.out.hr.fr hf5 (fun x => x); have d0 := hz5.cell 0 rfl; have d1 := hz5.cell 1 rfl; have e0 := hr5.cell 0 rfl; have e1 := hr5.cell 1 rfl; have e2 := hr5.frozen 0; have e3 := hr5.frozen 1))
      have hrf := (hr5.set 0 (.slice (some ⟨w.heap.size + 1 + 1 + 1, 0, none⟩) n n)).set 1 (.slice (some ⟨w1.heap.size + 1, 0, none⟩) n n)
      have q0 := hrf.cell 0 (v := .slice (some ⟨w.heap.size + 1 + 1 + 1, 0, none⟩) n n) rfl
      have q1 := hrf.cell 1 (v := .slice (some ⟨w1.heap.size + 1, 0, none⟩) n n) rfl
      refine bodyPost_ret (v := .tuple #[.agg #[.slice (some ⟨w.heap.size + 1 + 1 + 1, 0, none⟩) n n, .slice (some ⟨w1.heap.size + 1, 0, none⟩) n n], .bool true]) (by simp [results, Try.results35, go_sem, q0, q1]) rfl ?_
      have m1 : meetLo al ah bl bh = zipL max al bl := by unfold meetLo; rw [Hm.out]; rfl
      have m2 : meetHi al ah bl bh = zipL min ah bh := by unfold meetHi; rw [Hm.out]; rfl
      rw [m1, m2, Hm.out]
      exact ⟨_, n, n, _, n, n, rfl, kv_set2 (HR.out.k1.no hf5) HR.out.n1 _ _, kv_set2 (HR.out.k2.no hf5) HR.out.n2 _ _, (((HR.out.fr.tr hf5).setCell (p := ⟨w.heap.size + 1 + 1, 0, none⟩) (.inr HR.out.le) _).setCell (p := ⟨w.heap.size + 1 + 1, 1, none⟩) (.inr HR.out.le) _)⟩
    | false =>
      rw [hck] at Hm
      have hk := chkB_one (of_decide_eq_false hck)
      go_wp2_with (go_at_call 33; ((with_reducible refine (checkBox_any _ HR.out.k1 HR.out.k2).mono ?_); rintro e w5 ⟨rfl, hf5⟩; rw [hk]; have hz5 := HR.out.hz.fr hf5 (fun x => x); have hr5 := HR.out.hr.fr hf5 (fun x => x); have e0 := hr5.cell 0 rfl; have e1 := hr5.cell 1 rfl; have e2 := hr5.frozen 0; have e3 := hr5.frozen 1))
      have hrf := (hr5.set 0 (.slice none 0 0)).set 1 (.slice none 0 0)
      have q0 := hrf.cell 0 (v := .slice none 0 0) rfl
      have q1 := hrf.cell 1 (v := .slice none 0 0) rfl
      refine bodyPost_ret (v := .tuple #[.agg #[.slice none 0 0, .slice none 0 0], .bool false]) (by simp [results, Try.results35, go_sem, q0, q1]) rfl ?_
      have m1 : meetLo al ah bl bh = [] := by unfold meetLo; rw [Hm.out]; rfl
      have m2 : meetHi al ah bl bh = [] := by unfold meetHi; rw [Hm.out]; rfl
      rw [m1, m2, Hm.out]
      exact ⟨_, 0, 0, _, 0, 0, rfl, Kv.none_ _, Kv.none_ _, (((HR.out.fr.tr hf5).setCell (p := ⟨w.heap.size + 1 + 1, 0, none⟩) (.inr HR.out.le) _).setCell (p := ⟨w.heap.size + 1 + 1, 1, none⟩) (.inr HR.out.le) _)⟩
  · have e3 : ((((w.alloc (.cells #[.slice A n cn, .slice B n cm] 28)).alloc (.cells #[.slice C n cp, .slice D n cq] 28)).alloc (.cells #[.slice none 0 0, .slice none 0 0] 28)).alloc (.cells #[.slice none 0 0, .slice none 0 0] 28)).drew.heap.size = w.heap.size + 1 + 1 + 1 + 1 := by simp
    rw [e3] at ho1
    have k1 := Kv.of_own ho1 Hlo
    have k2 := Kv.of_own ho2 Hhi
    have hz1 := hf1.size
    rw [e3] at hz1
    have hz2 := hf2.size
    have hrr := ((hOz.alloc (.cells #[.slice none 0 0, .slice none 0 0] 28)).drew.fr hf1 (fun x => x)).fr hf2 (fun x => x)
    have R : Ready w ((w2.setCell ⟨w.heap.size + 1 + 1 + 1, 0, none⟩ (.slice (some ⟨w.heap.size + 1 + 1 + 1 + 1, 0, none⟩) n n)).setCell ⟨w.heap.size + 1 + 1 + 1, 1, none⟩ (.slice (some ⟨w1.heap.size, 0, none⟩) n n)) (w.heap.size + 1 + 1) (w.heap.size + 1 + 1 + 1 + 1) w1.heap.size (w.heap.size + 1 + 1 + 1) n (zipL max al bl) (zipL min ah bh) :=
      ⟨(hZ2.set 0 _).set 1 _, (hrr.other (p := ⟨w.heap.size + 1 + 1 + 1, 0, none⟩) (by show ¬ (w.heap.size + 2 = w.heap.size + 1 + 1 + 1); omega) _).other (p := ⟨w.heap.size + 1 + 1 + 1, 1, none⟩) (by show ¬ (w.heap.size + 2 = w.heap.size + 1 + 1 + 1); omega) _, kv_set2 (k1.no hf2) (by omega) _ _, kv_set2 k2 (by omega) _ _, ((((f0.alloc _).drew.tr hf1).tr hf2).setCell (p := ⟨w.heap.size + 1 + 1 + 1, 0, none⟩) (.inr (by show w.heap.size ≤ w.heap.size + 1 + 1 + 1; omega)) _).setCell (p := ⟨w.heap.size + 1 + 1 + 1, 1, none⟩) (.inr (by show w.heap.size ≤ w.heap.size + 1 + 1 + 1; omega)) _, by omega, by omega, by omega, by omega⟩
    clear e3 k1 k2 hrr n1 n2 n3 n4 l1 l2 l3 l4 hz1 hz2 y0 y1 y2 y3 hZ2 hZ1
    have c0 := R.hz.cell 0 rfl
    have c1 := R.hz.cell 1 rfl
    have HR := Lib.hid R
    clear R
    cases hck : decide (chkB (zipL max al bl) (zipL min ah bh) n = 0) with
    | true =>
      rw [hck] at Hm
      have hk := of_decide_eq_true hck
      go_wp2_with (go_at_call 33; ((with_reducible refine (checkBox_any _ HR.out.k1 HR.out.k2).mono ?_); rintro e w5 ⟨rfl, hf5⟩; rw [hk]; have hz5 := HR.out.hz.fr hf5 (fun x => x); have hr5 := HR.out.hr.fr hf5 (fun x => x); have d0 := hz5.cell 0 rfl; have d1 := hz5.cell 1 rfl; have e0 := hr5.cell 0 rfl; have e1 := hr5.cell 1 rfl; have e2 := hr5.frozen 0; have e3 := hr5.frozen 1))
      have hrf := (hr5.set 0 (.slice (some ⟨w.heap.size + 1 + 1 + 1 + 1, 0, none⟩) n n)).set 1 (.slice (some ⟨w1.heap.size, 0, none⟩) n n)
      have q0 := hrf.cell 0 (v := .slice (some ⟨w.heap.size + 1 + 1 + 1 + 1, 0, none⟩) n n) rfl
      have q1 := hrf.cell 1 (v := .slice (some ⟨w1.heap.size, 0, none⟩) n n) rfl
      refine bodyPost_ret (v := .tuple #[.agg #[.slice (some ⟨w.heap.size + 1 + 1 + 1 + 1, 0, none⟩) n n, .slice (some ⟨w1.heap.size, 0, none⟩) n n], .bool true]) (by simp [results, Try.results35, go_sem, q0, q1]) rfl ?_
      have m1 : meetLo al ah bl bh = zipL max al bl := by unfold meetLo; rw [Hm.out]; rfl
      have m2 : meetHi al ah bl bh = zipL min ah bh := by unfold meetHi; rw [Hm.out]; rfl
      rw [m1, m2, Hm.out]
      exact ⟨_, n, n, _, n, n, rfl, kv_set2 (HR.out.k1.no hf5) HR.out.n1 _ _, kv_set2 (HR.out.k2.no hf5) HR.out.n2 _ _, (((HR.out.fr.tr hf5).setCell (p := ⟨w.heap.size + 1 + 1, 0, none⟩) (.inr HR.out.le) _).setCell (p := ⟨w.heap.size + 1 + 1, 1, none⟩) (.inr HR.out.le) _)⟩
    | false =>
      rw [hck] at Hm
      have hk := chkB_one (of_decide_eq_false hck)
      go_wp2_with (go_at_call 33; ((with_reducible refine (checkBox_any _ HR.out.k1 HR.out.k2).mono ?_); rintro e w5 ⟨rfl, hf5⟩; rw [hk]; have hz5 := HR.out.hz.fr hf5 (fun x => x); have hr5 := HR.out.hr.fr hf5 (fun x => x); have e0 := hr5.cell 0 rfl; have e1 := hr5.cell 1 rfl; have e2 := hr5.frozen 0; have e3 := hr5.frozen 1))
      have hrf := (hr5.set 0 (.slice none 0 0)).set 1 (.slice none 0 0)
      have q0 := hrf.cell 0 (v := .slice none 0 0) rfl
      have q1 := hrf.cell 1 (v := .slice none 0 0) rfl
      refine bodyPost_ret (v := .tuple #[.agg #[.slice none 0 0, .slice none 0 0], .bool false]) (by simp [results, Try.results35, go_sem, q0, q1]) rfl ?_
      have m1 : meetLo al ah bl bh = [] := by unfold meetLo; rw [Hm.out]; rfl
      have m2 : meetHi al ah bl bh = [] := by unfold meetHi; rw [Hm.out]; rfl
      rw [m1, m2, Hm.out]
      exact ⟨_, 0, 0, _, 0, 0, rfl, Kv.none_ _, Kv.none_ _, (((HR.out.fr.tr hf5).setCell (p := ⟨w.heap.size + 1 + 1, 0, none⟩) (.inr HR.out.le) _).setCell (p := ⟨w.heap.size + 1 + 1, 1, none⟩) (.inr HR.out.le) _)⟩
end
end Go.Proofs.Ytoaikponefcbiaa.Kj08
