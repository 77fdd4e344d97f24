/- Layer 8, the document's: what two boxes have both. -/
import Derived.Test.YtoaikponefcbiaaAs
import Derived.Test.YtoaikponefcbiaaKm08
import Derived.Test.YtoaikponefcbiaaKh08
import Derived.Test.YtoaikponefcbiaaPm08
import Derived.Lib.MinMax
import Derived.BigRegion
import Derived.Deep.LoopGhost
import Derived.Deep.DeepCutAuto
import Derived.RegionTactic
namespace Go.Proofs.Ytoaikponefcbiaa.Ky08
open Go.RowKit Go.Proofs.Ytoaikponefcbiaa.Pk08 Go.Proofs.Ytoaikponefcbiaa.Pq08 Go.Proofs.Ytoaikponefcbiaa.Base Go.Proofs.Ytoaikponefcbiaa.App Go.Proofs.Ytoaikponefcbiaa.Str Go.Proofs.Ytoaikponefcbiaa.Ky Go.Proofs.Ytoaikponefcbiaa.Iv Go.Proofs.Ytoaikponefcbiaa.Bx Go.Proofs.Ytoaikponefcbiaa.As Go.Proofs.Ytoaikponefcbiaa.Kh08 Go.Proofs.Ytoaikponefcbiaa.Ki08 Go.Proofs.Ytoaikponefcbiaa.Kj08 Go.Proofs.Ytoaikponefcbiaa.Km08
set_option linter.unusedVariables false
set_option linter.unusedSimpArgs false
attribute [local go_sem ↓ high] builtin_app
/-- The first i put together. -/
def zipU (f : Nat → Nat → Nat) (a b : List Nat) (i : Nat) : List Nat := (List.range i).map (fun j => f (a.getD j 0) (b.getD j 0))
theorem zipU_succ (f : Nat → Nat → Nat) (a b : List Nat) (i : Nat) : zipU f a b i ++ [f (a.getD i 0) (b.getD i 0)] = zipU f a b (i + 1) := by
  simp [zipU, List.range_succ]
theorem zipU_all (f : Nat → Nat → Nat) (a b : List Nat) : zipU f a b a.length = zipL f a b := rfl
theorem zipU_lt (f : Nat → Nat → Nat) (hf : ∀ x y, x < 4294967296 → y < 4294967296 → f x y < 4294967296) {w : World} {A B : Option Addr} {n m c d : Nat} {a b : List Nat} (ha : Kv w A n c a) (hb : Kv w B m d b) (i : Nat) : ∀ x ∈ zipU f a b i, x < 4294967296 := by
  intro x hx
  obtain ⟨j, _, rfl⟩ := List.mem_map.1 hx
  exact hf _ _ (ha.ltD j) (hb.ltD j)
theorem cell_fr {S : Nat → Prop} {w w1 : World} {p : Addr} {v : Value} (h : w.cell? p = some v) (F : Fr S w w1) (hn : ¬ S p.block) : w1.cell? p = some v := by
  have hb := World.block_lt_of_cell? w _ h
  rw [World.cell?_of_block (w := w) (F.block _ hb hn)]; exact h
theorem cell_al {w : World} {p : Addr} {v : Value} (h : w.cell? p = some v) (o : Obj) : (w.alloc o).cell? p = some v := cell_fr h ((Fr.refl No w).alloc o) (fun x => x)
section
variable {w : World} {A B C D : Option Addr} {n m p q cn cm cp cq : Nat} {al ah bl bh : List Nat}
set_option maxHeartbeats 1600000 in
theorem rmeet_out (hal : Kv w A n cn al) (hah : Kv w B m cm ah) (hbl : Kv w C p cp bl) (hbh : Kv w D q cq bh) (h : ¬ (m = n ∧ p = n ∧ q = n)) :
    Calls Try.prog 23 #[.agg #[.slice A n cn, .slice B m cm], .agg #[.slice C p cp, .slice D q cq]] w
      (BoxRet w (meetLo al ah bl bh) (meetHi al ah bl bh) (.bool (meetIs al ah bl bh))) := by
  have hm := meet_none h hal hah hbl hbh
  have m1 : meetLo al ah bl bh = [] := by unfold meetLo; rw [hm]; rfl
  have m2 : meetHi al ah bl bh = [] := by unfold meetHi; rw [hm]; rfl
  rw [m1, m2, hm]
  have hOz : Ob (((w.alloc (.cells #[.slice A n cn, .slice B m cm] 28)).alloc (.cells #[.slice C p cp, .slice D q cq] 28)).alloc (.cells #[.slice none 0 0, .slice none 0 0] 28)) (w.heap.size + 1 + 1) #[.slice none 0 0, .slice none 0 0] 28 := by (repeat (first | with_reducible assumption | with_reducible refine Ob.other ?_ (by first | (simp; done) | (simp; omega)) _ | ((with_reducible refine Ob.new_ _ _ _ _ ?_) <;> (simp; done)) | with_reducible refine Ob.alloc ?_ _ | with_reducible refine Ob.drew ?_ | with_reducible refine Ob.drewN ?_ _ | with_reducible refine Ob.no ?_ (by assumption)))
  clear hm m1 m2 hal hah hbl hbh
  have hcase : ((m : Int) != n) = true ∨ (m = n ∧ ((p : Int) != n) = true) ∨ (m = n ∧ p = n ∧ ((q : Int) != n) = true) := by
    by_cases h1 : m = n
    · by_cases h2 : p = n
      · exact .inr (.inr ⟨h1, h2, bne_iff_ne.2 (fun x => h ⟨h1, h2, by omega⟩)⟩)
      · exact .inr (.inl ⟨h1, bne_iff_ne.2 (by omega)⟩)
    · exact .inl (bne_iff_ne.2 (by omega))
  clear h
  rcases hcase with h1 | ⟨rfl, h1⟩ | ⟨rfl, rfl, h1⟩
  all_goals
    go_enter Try.func23, Try.ntmps23
    go_wp2
    have q0 := hOz.cell 0 (v := .slice none 0 0) rfl
    have q1 := hOz.cell 1 (v := .slice none 0 0) rfl
    refine bodyPost_ret (v := .tuple #[.agg #[.slice none 0 0, .slice none 0 0], .bool false]) (by simp [results, Try.results23, go_sem, q0, q1]) rfl ?_
    exact ⟨_, 0, 0, _, 0, 0, rfl, Kv.none_ _, Kv.none_ _, by first | ((repeat (first | with_reducible exact Fr.refl _ _ | with_reducible refine Fr.setCell ?_ (.inr (by first | (simp; done) | (simp; omega))) _ | with_reducible refine Fr.alloc ?_ _ | with_reducible refine Fr.drew ?_ | with_reducible refine Fr.drewN ?_ _ | with_reducible refine Fr.tr ?_ (by assumption))); done) | exact ((((Fr.refl No w).alloc _).alloc _).alloc _).setCell (p := ⟨w.heap.size + 1 + 1, 0, none⟩) (.inr (by show w.heap.size ≤ w.heap.size + 1 + 1; omega)) _ |>.setCell (p := ⟨w.heap.size + 1 + 1, 1, none⟩) (.inr (by show w.heap.size ≤ w.heap.size + 1 + 1; omega)) _⟩
theorem cell_ad {w : World} {p : Addr} {v : Value} (h : w.cell? p = some v) (o : Obj) : ((w.alloc o).drew).cell? p = some v := cell_al h o
theorem own_not {w : World} {base e n k : Nat} {v : Value} {xs : List Value} (h : w.ownsRow base e 1 v n xs) (hk : k < base) : ¬ v.ownBlock = some k := fun hs => by have := (h.lt k hs).1; omega
theorem max_cast (x y : Nat) : max (x : Int) (y : Int) = ((max x y : Nat) : Int) := by omega
theorem min_cast (x y : Nat) : min (x : Int) (y : Int) = ((min x y : Nat) : Int) := by omega
/-- What holds from round to round. -/
structure Rm (w wr : World) (A B C D : Option Addr) (n cn cm cp cq : Nat) (al ah bl bh : List Nat) (i : Nat) (P : Option Addr) (cP : Nat) (Q : Option Addr) (cQ : Nat) : Prop where
  two : Two 28 50 w wr (w.heap.size + 1 + 1) (w.heap.size + 1 + 1 + 1) (w.heap.size + 1 + 1 + 1 + 1) P i cP (zipU max al bl i) Q i cQ (zipU min ah bh i)
  oa : Ob wr w.heap.size #[.slice A n cn, .slice B n cm] 28
  ob : Ob wr (w.heap.size + 1) #[.slice C n cp, .slice D n cq] 28
/-- Between the two statements of a round. -/
structure Mid (w wr : World) (A B C D : Option Addr) (n cn cm cp cq : Nat) (al ah bl bh : List Nat) (i : Nat) (P : Option Addr) (cP : Nat) (Q : Option Addr) (cQ : Nat) : Prop where
  two : Two 28 50 w wr (w.heap.size + 1 + 1) (w.heap.size + 1 + 1 + 1) (w.heap.size + 1 + 1 + 1 + 1) P (i + 1) cP (zipU max al bl (i + 1)) Q i cQ (zipU min ah bh i)
  oa : Ob wr w.heap.size #[.slice A n cn, .slice B n cm] 28
  ob : Ob wr (w.heap.size + 1) #[.slice C n cp, .slice D n cq] 28
section
variable {wr w1 : World} {i : Nat} {P P1 Q Q1 : Option Addr} {cP c1 cQ : Nat}
theorem far_cells {S : Nat → Prop} {W : World} {O : Obj} {B0 : Nat} (F : Fr S ((wr.alloc O).drew) W) (hS : ∀ b, b < B0 → ¬ S b) : ∀ b off v, b < B0 → wr.cell? ⟨b, off, none⟩ = some v → W.cell? ⟨b, off, none⟩ = some v :=
  fun b off v hb h => cell_fr (cell_ad h O) F (hS b hb)
theorem Rm.step0 (h : Rm w wr A B C D n cn cm cp cq al ah bl bh i P cP Q cQ) (O : Obj) {x y : Nat} (hx : Hid (al.getD i 0 = x)) (hy : Hid (bl.getD i 0 = y)) (hown : w1.ownsRow (w.heap.size + 1 + 1 + 1 + 1) 50 1 (.slice P1 (i + 1) c1) (i + 1) (u32s (zipU max al bl i) ++ [.int .u32 (max (x : Int) (y : Int))])) (hgr : ((wr.alloc O).drew).grownBy w1 (Value.slice P i cP).ownBlock)
    (hat : (Value.slice P1 (i + 1) c1).ownBlock = (Value.slice P i cP).ownBlock ∨ (Value.slice P1 (i + 1) c1).ownBlock = some ((wr.alloc O).drew).heap.size) :
    Ob w1 (w.heap.size + 1 + 1 + 1) #[.slice P i cP, .slice Q i cQ] 28 ∧ (∀ b off v, b < w.heap.size + 1 + 1 → wr.cell? ⟨b, off, none⟩ = some v → w1.cell? ⟨b, off, none⟩ = some v) ∧
      Mid w (w1.setCell ⟨w.heap.size + 1 + 1 + 1, 0, none⟩ (.slice P1 (i + 1) c1)) A B C D n cn cm cp cq al ah bl bh i P1 c1 Q cQ := by
  rw [max_cast] at hown
  have F := grown_fr hgr
  obtain ⟨h1, h2⟩ := h.two.app0d O _ hown hgr hat
  have hz := zipU_succ max al bl i
  rw [hx.out, hy.out] at hz
  rw [hz] at h2
  refine ⟨h1, far_cells F (fun b hb => own_not h.two.lo (by omega)), h2, ?_, ?_⟩
  · exact ((h.oa.alloc O).drew.fr F (own_not h.two.lo (by omega))).other (p := ⟨w.heap.size + 1 + 1 + 1, 0, none⟩) (show w.heap.size ≠ w.heap.size + 1 + 1 + 1 by omega) _
  · exact ((h.ob.alloc O).drew.fr F (own_not h.two.lo (by omega))).other (p := ⟨w.heap.size + 1 + 1 + 1, 0, none⟩) (show w.heap.size + 1 ≠ w.heap.size + 1 + 1 + 1 by omega) _
theorem Mid.step1 (h : Mid w wr A B C D n cn cm cp cq al ah bl bh i P cP Q cQ) (O : Obj) {x y : Nat} (hx : Hid (ah.getD i 0 = x)) (hy : Hid (bh.getD i 0 = y)) (hown : w1.ownsRow (w.heap.size + 1 + 1 + 1 + 1) 50 1 (.slice Q1 (i + 1) c1) (i + 1) (u32s (zipU min ah bh i) ++ [.int .u32 (min (x : Int) (y : Int))])) (hgr : ((wr.alloc O).drew).grownBy w1 (Value.slice Q i cQ).ownBlock)
    (hat : (Value.slice Q1 (i + 1) c1).ownBlock = (Value.slice Q i cQ).ownBlock ∨ (Value.slice Q1 (i + 1) c1).ownBlock = some ((wr.alloc O).drew).heap.size) :
    Ob w1 (w.heap.size + 1 + 1 + 1) #[.slice P (i + 1) cP, .slice Q i cQ] 28 ∧ (∀ b off v, b < w.heap.size + 1 + 1 → wr.cell? ⟨b, off, none⟩ = some v → w1.cell? ⟨b, off, none⟩ = some v) ∧
      Rm w (w1.setCell ⟨w.heap.size + 1 + 1 + 1, 1, none⟩ (.slice Q1 (i + 1) c1)) A B C D n cn cm cp cq al ah bl bh (i + 1) P cP Q1 c1 := by
  rw [min_cast] at hown
  have F := grown_fr hgr
  obtain ⟨h1, h2⟩ := h.two.app1d O _ hown hgr hat
  have hz := zipU_succ min ah bh i
  rw [hx.out, hy.out] at hz
  rw [hz] at h2
  refine ⟨h1, far_cells F (fun b hb => own_not h.two.hi (by omega)), h2, ?_, ?_⟩
  · exact ((h.oa.alloc O).drew.fr F (own_not h.two.hi (by omega))).other (p := ⟨w.heap.size + 1 + 1 + 1, 1, none⟩) (show w.heap.size ≠ w.heap.size + 1 + 1 + 1 by omega) _
  · exact ((h.ob.alloc O).drew.fr F (own_not h.two.hi (by omega))).other (p := ⟨w.heap.size + 1 + 1 + 1, 1, none⟩) (show w.heap.size + 1 ≠ w.heap.size + 1 + 1 + 1 by omega) _
end
set_option maxHeartbeats 3200000 in
theorem rmeet_in (hal : Kv w A n cn al) (hah : Kv w B n cm ah) (hbl : Kv w C n cp bl) (hbh : Kv w D n cq bh) (hn : n ≤ 1000000) :
    Calls Try.prog 23 #[.agg #[.slice A n cn, .slice B n cm], .agg #[.slice C n cp, .slice D n cq]] w
      (BoxRet w (meetLo al ah bl bh) (meetHi al ah bl bh) (.bool (meetIs al ah bl bh))) := by
  have Hal := Lib.hid hal
  have Hah := Lib.hid hah
  have Hbl := Lib.hid hbl
  have Hbh := Lib.hid hbh
  clear hal hah hbl hbh
  go_enter Try.func23, Try.ntmps23
  go_wp2
  go_loopg [8] n (fun k v wr => ∃ (i : Nat) (P : Option Addr) (cP : Nat) (Q : Option Addr) (cQ : Nat), i ≤ n ∧ k = n - i ∧ v = .int .i64 i ∧ Hid (Rm w wr A B C D n cn cm cp cq al ah bl bh i P cP Q cQ))
  case atStart => exact ⟨0, none, 0, none, 0, Nat.zero_le _, rfl, rfl, Lib.hid ⟨⟨by (repeat (first | with_reducible assumption | with_reducible refine Ob.other ?_ (by first | (simp; done) | (simp; omega)) _ | ((with_reducible refine Ob.new_ _ _ _ _ ?_) <;> (simp; done)) | with_reducible refine Ob.alloc ?_ _ | with_reducible refine Ob.drew ?_ | with_reducible refine Ob.drewN ?_ _ | with_reducible refine Ob.no ?_ (by assumption))), by (repeat (first | with_reducible assumption | with_reducible refine Ob.other ?_ (by first | (simp; done) | (simp; omega)) _ | ((with_reducible refine Ob.new_ _ _ _ _ ?_) <;> (simp; done)) | with_reducible refine Ob.alloc ?_ _ | with_reducible refine Ob.drew ?_ | with_reducible refine Ob.drewN ?_ _ | with_reducible refine Ob.no ?_ (by assumption))), World.ownsRow_nil _ _ _ _, World.ownsRow_nil _ _ _ _, fun g h => by simp [Value.ownBlock] at h, by (repeat (first | with_reducible exact Fr.refl _ _ | with_reducible refine Fr.setCell ?_ (.inr (by first | (simp; done) | (simp; omega))) _ | with_reducible refine Fr.alloc ?_ _ | with_reducible refine Fr.drew ?_ | with_reducible refine Fr.drewN ?_ _ | with_reducible refine Fr.tr ?_ (by assumption))), ⟨by omega, by omega, by omega, by simp⟩⟩, by (repeat (first | with_reducible assumption | with_reducible refine Ob.other ?_ (by first | (simp; done) | (simp; omega)) _ | ((with_reducible refine Ob.new_ _ _ _ _ ?_) <;> (simp; done)) | with_reducible refine Ob.alloc ?_ _ | with_reducible refine Ob.drew ?_ | with_reducible refine Ob.drewN ?_ _ | with_reducible refine Ob.no ?_ (by assumption))), by (repeat (first | with_reducible assumption | with_reducible refine Ob.other ?_ (by first | (simp; done) | (simp; omega)) _ | ((with_reducible refine Ob.new_ _ _ _ _ ?_) <;> (simp; done)) | with_reducible refine Ob.alloc ?_ _ | with_reducible refine Ob.drew ?_ | with_reducible refine Ob.drewN ?_ _ | with_reducible refine Ob.no ?_ (by assumption)))⟩⟩
  case round =>
    obtain ⟨i, P, cP, Q, cQ, hi, hgk, rfl, Hi⟩ := hrel
    have Hgk := Lib.hid hgk
    clear hgk
    by_cases hlt : i < n
    · obtain ⟨ga, oa, rfl, ca0⟩ := Hal.out.get i (by rw [← Hal.out.len]; exact hlt)
      obtain ⟨gb, ob, rfl, cb0⟩ := Hah.out.get i (by rw [← Hah.out.len]; exact hlt)
      obtain ⟨gc, oc, rfl, cc0⟩ := Hbl.out.get i (by rw [← Hbl.out.len]; exact hlt)
      obtain ⟨gd, od, rfl, cd0⟩ := Hbh.out.get i (by rw [← Hbh.out.len]; exact hlt)
      have na : ga < w.heap.size := World.block_lt_of_cell? w _ ca0
      have nb : gb < w.heap.size := World.block_lt_of_cell? w _ cb0
      have nc : gc < w.heap.size := World.block_lt_of_cell? w _ cc0
      have nd : gd < w.heap.size := World.block_lt_of_cell? w _ cd0
      generalize hx : al.getD i 0 = x at *
      generalize hy : bl.getD i 0 = y at *
      generalize hu : ah.getD i 0 = u at *
      generalize hv : bh.getD i 0 = v at *
      have Hx := Lib.hid hx
      have Hy := Lib.hid hy
      have Hu := Lib.hid hu
      have Hv := Lib.hid hv
      clear hx hy hu hv
      have Hcb := Lib.hid cb0
      have Hcd := Lib.hid cd0
      have ca := cell_fr ca0 Hi.out.two.fr (fun x => x)
      have cc := cell_fr cc0 Hi.out.two.fr (fun x => x)
      clear ca0 cb0 cc0 cd0
      have m0 : w.heap.size < w.heap.size + 1 + 1 := by omega
      have m1 : ga < w.heap.size + 1 + 1 := by omega
      have m2 : w.heap.size + 1 < w.heap.size + 1 + 1 := by omega
      have m3 : gc < w.heap.size + 1 + 1 := by omega
      have m4 : gb < w.heap.size + 1 + 1 := by omega
      have m5 : gd < w.heap.size + 1 + 1 := by omega
      have n0 : w.heap.size ≠ w.heap.size + 1 + 1 + 1 := by omega
      have n1 : ga ≠ w.heap.size + 1 + 1 + 1 := by omega
      have n2 : w.heap.size + 1 ≠ w.heap.size + 1 + 1 + 1 := by omega
      have n3 : gc ≠ w.heap.size + 1 + 1 + 1 := by omega
      have n4 : gb ≠ w.heap.size + 1 + 1 + 1 := by omega
      have n5 : gd ≠ w.heap.size + 1 + 1 + 1 := by omega
      obtain ⟨c0, c1, z0, z1⟩ := Ob.four Hi.out.two.out
      have a0 := (Ob.four Hi.out.oa).1
      have b0 := (Ob.four Hi.out.ob).1
      have hd0 : wr.drew.cell? ⟨w.heap.size + 1 + 1 + 1, 0, none⟩ = some (.slice P i cP) := c0
      have hd1 : ∀ o, ((wr.alloc o).drew).cell? ⟨w.heap.size + 1 + 1 + 1, 0, none⟩ = some (.slice P i cP) := fun o => cell_ad c0 o
      have hd2 : ∀ o, (wr.alloc o).cell? ⟨w.heap.size + 1 + 1 + 1, 0, none⟩ = some (.slice P i cP) := fun o => cell_al c0 o
      obtain ⟨P1, cP1, w1, hrun, hown, hgr, hat⟩ := app_eq (P := Try.prog) (w := (wr.alloc (.cells #[.int .u32 (max (x : Int) (y : Int))] 50)).drew) (w.heap.size + 1 + 1 + 1 + 1) 23 50 (.int .u32 0) 1 4 Try.underlying23 info_u32 rfl (by decide) (by decide) (Hi.out.two.lo.alloc _).drew (some ⟨wr.heap.size, 0, none⟩) 1 1 [.int .u32 (max (x : Int) (y : Int))] rfl (Rc.new_ _ #[.int .u32 (max (x : Int) (y : Int))] _ _ rfl) (by simp [Value.oneCell']) (by omega) (by have := Hi.out.two.at_.2.2.2; simp; omega)
      obtain ⟨hO1, hk, hM⟩ := Hi.out.step0 _ Hx Hy hown hgr hat
      obtain ⟨e0, e1, f0, f1⟩ := Ob.four hO1
      have HM := Lib.hid hM
      clear hown hgr hat hM hk
      go_upto_region 8 with (fail)
      go_cut [] (fun wx => ∃ (P1 : Option Addr) (cP1 : Nat), Hid (Mid w wx (some ⟨ga, oa, none⟩) (some ⟨gb, ob, none⟩) (some ⟨gc, oc, none⟩) (some ⟨gd, od, none⟩) n cn cm cp cq al ah bl bh i P1 cP1 Q cQ))
      case first =>
        go_big_region
        all_goals (go_wp2_with fail; go_meet; exact ⟨P1, cP1, HM⟩)
      case rest =>
        clear hd0 hd1 hd2 c0 c1 z0 z1 a0 b0 ca cc e0 e1 f0 f1 hO1 hrun HM
        obtain ⟨P1, cP1, HM⟩ := hcut
        generalize wc = W at *
        have cb := cell_fr Hcb.out HM.out.two.fr (fun x => x)
        have cd := cell_fr Hcd.out HM.out.two.fr (fun x => x)
        obtain ⟨c0, c1, z0, z1⟩ := Ob.four HM.out.two.out
        have a1 := (Ob.four HM.out.oa).2.1
        have b1 := (Ob.four HM.out.ob).2.1
        have hd0 : W.drew.cell? ⟨w.heap.size + 1 + 1 + 1, 1, none⟩ = some (.slice Q i cQ) := c1
        have hd1 : ∀ o, ((W.alloc o).drew).cell? ⟨w.heap.size + 1 + 1 + 1, 1, none⟩ = some (.slice Q i cQ) := fun o => cell_ad c1 o
        have hd2 : ∀ o, (W.alloc o).cell? ⟨w.heap.size + 1 + 1 + 1, 1, none⟩ = some (.slice Q i cQ) := fun o => cell_al c1 o
        obtain ⟨Q1, cQ1, w2, hrun, hown, hgr, hat⟩ := app_eq (P := Try.prog) (w := (W.alloc (.cells #[.int .u32 (min (u : Int) (v : Int))] 50)).drew) (w.heap.size + 1 + 1 + 1 + 1) 23 50 (.int .u32 0) 1 4 Try.underlying23 info_u32 rfl (by decide) (by decide) (HM.out.two.hi.alloc _).drew (some ⟨W.heap.size, 0, none⟩) 1 1 [.int .u32 (min (u : Int) (v : Int))] rfl (Rc.new_ _ #[.int .u32 (min (u : Int) (v : Int))] _ _ rfl) (by simp [Value.oneCell']) (by omega) (by have := HM.out.two.at_.2.2.2; simp; omega)
        obtain ⟨hO2, hk, hR⟩ := HM.out.step1 _ Hu Hv hown hgr hat
        obtain ⟨e0, e1, f0, f1⟩ := Ob.four hO2
        have HR := Lib.hid hR
        clear hown hgr hat hR hk
        go_wp2
        go_big_region
        all_goals
          clear hd0 hd1 hd2 c0 c1 z0 z1 a1 b1 cb cd e0 e1 f0 f1 hO2 HM Hcb Hcd hrun
          go_wp2
          go_roundg (n - (i + 1))
          case measure => rw [Hgk.out]; omega
          case rel => exact ⟨i + 1, P1, cP1, Q1, cQ1, by omega, rfl, by go_num, HR⟩
    · obtain rfl : i = n := by omega
      have hz1 : zipU max al bl i = zipL max al bl := by rw [Hal.out.len]; rfl
      have hz2 : zipU min ah bh i = zipL min ah bh := by rw [Hah.out.len]; rfl
      have hl1 : ∀ x ∈ zipL max al bl, x < 4294967296 := zipL_lt max max_lt Hal.out Hbl.out
      have hl2 : ∀ x ∈ zipL min ah bh, x < 4294967296 := zipL_lt min min_lt Hah.out Hbh.out
      have ho1 := Hi.out.two.lo
      have ho2 := Hi.out.two.hi
      rw [hz1] at ho1
      rw [hz2] at ho2
      have k1 := Kv.of_own ho1 hl1
      have k2 := Kv.of_own ho2 hl2
      have Hm := Lib.hid (show meetIs al ah bl bh = decide (chkB (zipL max al bl) (zipL min ah bh) i = 0) by
        unfold meetIs
        have e0 := Hal.out.len
        have e1 : ah.length = al.length := by rw [← Hal.out.len, ← Hah.out.len]
        have e2 : bl.length = al.length := by rw [← Hal.out.len, ← Hbl.out.len]
        have e3 : bh.length = al.length := by rw [← Hal.out.len, ← Hbh.out.len]
        rw [e0]
        simp [e1, e2, e3])
      clear hz1 hz2 hl1 hl2
      obtain ⟨c0, c1, z0, z1⟩ := Ob.four Hi.out.two.out
      have hB := Hi.out.two.at_
      have hS : ∀ {V : World} {C : Option Addr} {q c : Nat} {xs zs : List Nat} {u v : Value}, wr.ownsRow (w.heap.size + 1 + 1 + 1 + 1) 50 1 (.slice C q c) q (u32s xs) → Kv V C q c zs → Kv ((V.setCell ⟨w.heap.size + 1 + 1, 0, none⟩ u).setCell ⟨w.heap.size + 1 + 1, 1, none⟩ v) C q c zs := fun {V C q c xs zs u v} ho h =>
        h.fr (S := fun k => k = w.heap.size + 1 + 1) (((Fr.refl (fun k => k = w.heap.size + 1 + 1) V).setCell (p := ⟨w.heap.size + 1 + 1, 0, none⟩) (.inl rfl) _).setCell (p := ⟨w.heap.size + 1 + 1, 1, none⟩) (.inl rfl) _) (fun b off e (hb : b = w.heap.size + 1 + 1) => by
          subst hb
          rw [e] at ho
          have := (ho.lt (w.heap.size + 1 + 1) rfl).1
          omega)
      cases hck : decide (chkB (zipL max al bl) (zipL min ah bh) i = 0) with
      | true =>
        rw [hck] at Hm
        have hk := Lib.hid (of_decide_eq_true hck)
        clear hck
        go_wp2_with (go_at_call 36; ((with_reducible refine (rcheckBox_any _ k1 k2).mono ?_); rintro e w5 ⟨rfl, hf5⟩; rw [hk.out]; obtain ⟨d0, d1, d2, d3⟩ := Ob.four (Hi.out.two.out.no hf5); obtain ⟨q0, q1, q2, q3⟩ := Ob.four (Hi.out.two.res.no hf5)))
        have hrf := ((Hi.out.two.res.no hf5).set 0 (.slice P i cP)).set 1 (.slice Q i cQ)
        have p0 := hrf.cell 0 (v := .slice P i cP) rfl
        have p1 := hrf.cell 1 (v := .slice Q i cQ) rfl
        refine bodyPost_ret (v := .tuple #[.agg #[.slice P i cP, .slice Q i cQ], .bool true]) (by simp [results, Try.results23, go_sem, p0, p1]) rfl ?_
        have m1 : meetLo al ah bl bh = zipL max al bl := by unfold meetLo; rw [Hm.out]; rfl
        have m2 : meetHi al ah bl bh = zipL min ah bh := by unfold meetHi; rw [Hm.out]; rfl
        rw [Hm.out, m1, m2]
        exact ⟨_, i, cP, _, i, cQ, rfl, hS ho1 (k1.no hf5), hS ho2 (k2.no hf5), (((Hi.out.two.fr.tr hf5).setCell (p := ⟨w.heap.size + 1 + 1, 0, none⟩) (.inr (by show w.heap.size ≤ w.heap.size + 1 + 1; omega)) _).setCell (p := ⟨w.heap.size + 1 + 1, 1, none⟩) (.inr (by show w.heap.size ≤ w.heap.size + 1 + 1; omega)) _)⟩
      | false =>
        rw [hck] at Hm
        have hk := Lib.hid (chkB_one (of_decide_eq_false hck))
        clear hck
        go_wp2_with (go_at_call 36; ((with_reducible refine (rcheckBox_any _ k1 k2).mono ?_); rintro e w5 ⟨rfl, hf5⟩; rw [hk.out]; obtain ⟨d0, d1, d2, d3⟩ := Ob.four (Hi.out.two.out.no hf5); obtain ⟨q0, q1, q2, q3⟩ := Ob.four (Hi.out.two.res.no hf5)))
        have hrf := ((Hi.out.two.res.no hf5).set 0 (.slice none 0 0)).set 1 (.slice none 0 0)
        have p0 := hrf.cell 0 (v := .slice none 0 0) rfl
        have p1 := hrf.cell 1 (v := .slice none 0 0) rfl
        refine bodyPost_ret (v := .tuple #[.agg #[.slice none 0 0, .slice none 0 0], .bool false]) (by simp [results, Try.results23, go_sem, p0, p1, q0, q1]) rfl ?_
        have m1 : meetLo al ah bl bh = [] := by unfold meetLo; rw [Hm.out]; rfl
        have m2 : meetHi al ah bl bh = [] := by unfold meetHi; rw [Hm.out]; rfl
        rw [Hm.out, m1, m2]
        exact ⟨_, 0, 0, _, 0, 0, rfl, Kv.none_ _, Kv.none_ _, by
          first
            | exact (((Hi.out.two.fr.tr hf5).setCell (p := ⟨w.heap.size + 1 + 1, 0, none⟩) (.inr (by show w.heap.size ≤ w.heap.size + 1 + 1; omega)) _).setCell (p := ⟨w.heap.size + 1 + 1, 1, none⟩) (.inr (by show w.heap.size ≤ w.heap.size + 1 + 1; omega)) _)
            | exact Hi.out.two.fr.tr hf5⟩
theorem rmeet_any (hal : Kv w A n cn al) (hah : Kv w B m cm ah) (hbl : Kv w C p cp bl) (hbh : Kv w D q cq bh) (hn : n ≤ 1000000) :
    Calls Try.prog 23 #[.agg #[.slice A n cn, .slice B m cm], .agg #[.slice C p cp, .slice D q cq]] w
      (BoxRet w (meetLo al ah bl bh) (meetHi al ah bl bh) (.bool (meetIs al ah bl bh))) := by
  by_cases h : m = n ∧ p = n ∧ q = n
  · obtain ⟨rfl, rfl, rfl⟩ := h
    exact rmeet_in hal hah hbl hbh hn
  · exact rmeet_out hal hah hbl hbh h
end
end Go.Proofs.Ytoaikponefcbiaa.Ky08
