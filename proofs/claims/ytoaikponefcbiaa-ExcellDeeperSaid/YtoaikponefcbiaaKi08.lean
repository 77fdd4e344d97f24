/- Layer 8, further: coordinates put together. -/
import Derived.Test.YtoaikponefcbiaaKh08
namespace Go.Proofs.Ytoaikponefcbiaa.Ki08
open Go.RowKit Go.Proofs.Ytoaikponefcbiaa.Pk08 Go.Proofs.Ytoaikponefcbiaa.Base Go.Proofs.Ytoaikponefcbiaa.App Go.Proofs.Ytoaikponefcbiaa.Str Go.Proofs.Ytoaikponefcbiaa.Ky Go.Proofs.Ytoaikponefcbiaa.Kc08 Go.Proofs.Ytoaikponefcbiaa.Kd08
set_option linter.unusedVariables false
set_option linter.unusedSimpArgs false
theorem info_u32 : (Try.prog.info? 50).map (fun i => (i.zero, i.size, i.bytes)) = some (some (.int .u32 0), 1, 4) := by kernel_rfl
/-- The first i put together, of n. -/
def zipTo (f : Nat → Nat → Nat) (a b : List Nat) (i n : Nat) : List Nat := (List.range n).map (fun j => if j < i then f (a.getD j 0) (b.getD j 0) else 0)
def zipL (f : Nat → Nat → Nat) (a b : List Nat) : List Nat := (List.range a.length).map (fun j => f (a.getD j 0) (b.getD j 0))
theorem zipTo_zero (f : Nat → Nat → Nat) (a b : List Nat) (n : Nat) : zipTo f a b 0 n = List.replicate n 0 := by
  apply List.ext_getElem <;> simp [zipTo]
theorem zipTo_succ (f : Nat → Nat → Nat) (a b : List Nat) (i n : Nat) : (zipTo f a b i n).set i (f (a.getD i 0) (b.getD i 0)) = zipTo f a b (i + 1) n := by
  apply List.ext_getElem
  · simp [zipTo]
  · intro j h1 h2
    rw [List.getElem_set]
    simp only [zipTo, List.getElem_map, List.getElem_range]
    by_cases e : i = j
    · subst e; rw [if_pos rfl, if_pos (by omega)]
    · rw [if_neg e]
      by_cases h : j < i
      · rw [if_pos h, if_pos (by omega)]
      · rw [if_neg h, if_neg (by omega)]
theorem zipTo_all (f : Nat → Nat → Nat) (a b : List Nat) : zipTo f a b a.length a.length = zipL f a b := by
  unfold zipTo zipL
  exact List.map_congr_left fun j hj => if_pos (List.mem_range.1 hj)
theorem zipTo_len (f : Nat → Nat → Nat) (a b : List Nat) (i n : Nat) : (zipTo f a b i n).length = n := by simp [zipTo]
theorem zipL_len (f : Nat → Nat → Nat) (a b : List Nat) : (zipL f a b).length = a.length := by simp [zipL]
theorem zipL_lt (f : Nat → Nat → Nat) (hf : ∀ x y, x < 4294967296 → y < 4294967296 → f x y < 4294967296) {w : World} {A B : Option Addr} {n m c d : Nat} {a b : List Nat} (ha : Kv w A n c a) (hb : Kv w B m d b) : ∀ x ∈ zipL f a b, x < 4294967296 := by
  intro x hx
  obtain ⟨j, _, rfl⟩ := List.mem_map.1 hx
  exact hf _ _ (ha.ltD j) (hb.ltD j)
theorem max_any (x y : Nat) (w : World) :
    Calls Try.prog 47 #[.int .u32 (x : Int), .int .u32 (y : Int)] w fun e w' => e = .returned (.int .u32 ((max x y : Nat) : Int)) ∧ w = w' := by
  by_cases h : x < y
  · have e : max x y = y := by omega
    rw [e]
    clear e
    go_enter Try.func47, Try.ntmps47
    go_wp2
    go_ret
    exact ⟨rfl, rfl⟩
  · have e : max x y = x := by omega
    rw [e]
    clear e
    go_enter Try.func47, Try.ntmps47
    go_wp2
    go_ret
    exact ⟨rfl, rfl⟩
theorem min_any (x y : Nat) (w : World) :
    Calls Try.prog 48 #[.int .u32 (x : Int), .int .u32 (y : Int)] w fun e w' => e = .returned (.int .u32 ((min x y : Nat) : Int)) ∧ w = w' := by
  by_cases h : y < x
  · have e : min x y = y := by omega
    rw [e]
    clear e
    go_enter Try.func48, Try.ntmps48
    go_wp2
    go_ret
    exact ⟨rfl, rfl⟩
  · have e : min x y = x := by omega
    rw [e]
    clear e
    go_enter Try.func48, Try.ntmps48
    go_wp2
    go_ret
    exact ⟨rfl, rfl⟩
theorem cell_set {w : World} {p q : Addr} {u v : Value} (h : w.cell? p = some v) (hn : p.block ≠ q.block) : (w.setCell q u).cell? p = some v := by
  rw [World.cell?_of_block (w := w) (Below.heap_setCell w q u _ hn)]
  exact h
section
variable {w : World} {A B C D : Option Addr} {n m p q cn cm cp cq : Nat} {a b k lo hi : List Nat}
set_option maxHeartbeats 1600000 in
theorem zip_max (ha : Kv w A n cn a) (hb : Kv w B n cm b) (hn : n ≤ 1000000) :
    Calls Try.prog 46 #[.slice A n cn, .slice B n cm, .func (.func 47) #[] #[]] w fun e w' => e = .returned (.slice (some ⟨w.heap.size, 0, none⟩) n n) ∧ w'.ownsRow w.heap.size 50 1 (.slice (some ⟨w.heap.size, 0, none⟩) n n) n (u32s (zipL max a b)) ∧ Fr No w w' := by
  have Ha := Lib.hid ha
  have Hb := Lib.hid hb
  clear ha hb
  have hr : ∀ W, (Instr.makeSlice 23 (.int .i64 (n : Int)) (.int .i64 (n : Int))).run Try.prog W = .ok (.slice (some ⟨W.heap.size, 0, none⟩) n n) (W.alloc (.cells (madeCells #[.int .u32 0] n) 50)) := fun W => by
    have := run_made (P := Try.prog) 23 50 (.int .u32 0) 4 Try.underlying23 info_u32 rfl (by decide) (n : Int) (by omega) (by omega) W
    rw [Int.toNat_natCast] at this
    exact this
  have ho := own_mk w w.heap.size 50 (.int .u32 0) rfl n (Nat.le_refl _) (by omega)
  have e0 : List.replicate n (Value.int .u32 0) = u32s (zipTo max a b 0 n) := by rw [zipTo_zero]; simp [u32s]
  rw [e0] at ho
  have f0 : Fr No w (w.alloc (.cells (madeCells #[.int .u32 0] n) 50)) := (Fr.refl No w).alloc _
  go_enter Try.func46, Try.ntmps46
  go_wp2
  go_loopw [14] (fun v wr => ∃ i : Nat, i ≤ n ∧ v = .int .i64 i ∧ Hid (wr.ownsRow w.heap.size 50 1 (.slice (some ⟨w.heap.size, 0, none⟩) n n) n (u32s (zipTo max a b i n)) ∧ Fr No w wr)) (fun v _ => n - (intOf v).toNat)
  case atStart => exact ⟨0, Nat.zero_le _, rfl, Lib.hid ⟨ho, f0⟩⟩
  case round =>
    obtain ⟨i, hi, rfl, Hi⟩ := hrel
    by_cases hlt : i < n
    · obtain ⟨ga, oa, rfl, ca0⟩ := Ha.out.get i (by rw [← Ha.out.len]; exact hlt)
      obtain ⟨gb, ob, rfl, cb0⟩ := Hb.out.get i (by rw [← Hb.out.len]; exact hlt)
      have na : ga < w.heap.size := World.block_lt_of_cell? w _ ca0
      have nb : gb < w.heap.size := World.block_lt_of_cell? w _ cb0
      have ca := (World.cell?_of_block (w := w) (a := ⟨ga, oa + i, none⟩) (Hi.out.2.block ga na (fun x => x))).trans ca0
      have cb := (World.cell?_of_block (w := w) (a := ⟨gb, ob + i, none⟩) (Hi.out.2.block gb nb (fun x => x))).trans cb0
      clear ca0 cb0
      have hst := (Hi.out.1.stored i (.int .u32 ((max (a.getD i 0) (b.getD i 0) : Nat) : Int))).1
      rw [u32s_set, zipTo_succ] at hst
      have fr := Hi.out.1.frozenAt i
      have cr := Hi.out.1.cellAt i (by omega)
      rw [u32s_get _ i (by rw [zipTo_len]; exact hlt)] at cr
      generalize (zipTo max a b i n).getD i 0 = z at *
      have Hst := Lib.hid hst
      clear hst
      generalize a.getD i 0 = x at *
      generalize b.getD i 0 = y at *
      have ca2 : (wr.setCell ⟨w.heap.size, i, none⟩ (.int .u32 ((max x y : Nat) : Int))).drew.cell? ⟨ga, oa + i, none⟩ = some (.int .u32 (x : Int)) := cell_set ca (Nat.ne_of_lt na)
      have cb2 : (wr.setCell ⟨w.heap.size, i, none⟩ (.int .u32 ((max x y : Nat) : Int))).drew.cell? ⟨gb, ob + i, none⟩ = some (.int .u32 (y : Int)) := cell_set cb (Nat.ne_of_lt nb)
      go_wp2
      have ca' : wr.drew.cell? ⟨ga, oa + i, none⟩ = some (.int .u32 (x : Int)) := ca
      have cb' : wr.drew.cell? ⟨gb, ob + i, none⟩ = some (.int .u32 (y : Int)) := cb
      go_region_held3 (fun w' => w'.cell? ⟨ga, oa + i, none⟩ = some (.int .u32 (x : Int)) ∧ w'.cell? ⟨gb, ob + i, none⟩ = some (.int .u32 (y : Int))) (first | exact ⟨ca', cb'⟩ | exact ⟨ca2, cb2⟩)
        (first | (go_at_call 47; ((with_reducible refine (max_any _ _ _).mono ?_); rintro e w' ⟨rfl, rfl⟩)))
      go_wp2
      go_roundw
      case rel => exact ⟨i + 1, by omega, by go_num, Lib.hid ⟨Hst.out, (Hi.out.2.setCell (p := ⟨w.heap.size, i, none⟩) (.inr (Nat.le_refl _)) _).drew⟩⟩
      case measure => simp [intOf]; omega
    · obtain rfl : i = n := by omega
      go_wp2
      go_ret
      have hx := Hi.out.1
      rw [Ha.out.len, zipTo_all] at hx
      rw [Ha.out.len]
      exact ⟨rfl, hx, Hi.out.2⟩
set_option maxHeartbeats 1600000 in
theorem zip_min (ha : Kv w A n cn a) (hb : Kv w B n cm b) (hn : n ≤ 1000000) :
    Calls Try.prog 46 #[.slice A n cn, .slice B n cm, .func (.func 48) #[] #[]] w fun e w' => e = .returned (.slice (some ⟨w.heap.size, 0, none⟩) n n) ∧ w'.ownsRow w.heap.size 50 1 (.slice (some ⟨w.heap.size, 0, none⟩) n n) n (u32s (zipL min a b)) ∧ Fr No w w' := by
  have Ha := Lib.hid ha
  have Hb := Lib.hid hb
  clear ha hb
  have hr : ∀ W, (Instr.makeSlice 23 (.int .i64 (n : Int)) (.int .i64 (n : Int))).run Try.prog W = .ok (.slice (some ⟨W.heap.size, 0, none⟩) n n) (W.alloc (.cells (madeCells #[.int .u32 0] n) 50)) := fun W => by
    have := run_made (P := Try.prog) 23 50 (.int .u32 0) 4 Try.underlying23 info_u32 rfl (by decide) (n : Int) (by omega) (by omega) W
    rw [Int.toNat_natCast] at this
    exact this
  have ho := own_mk w w.heap.size 50 (.int .u32 0) rfl n (Nat.le_refl _) (by omega)
  have e0 : List.replicate n (Value.int .u32 0) = u32s (zipTo min a b 0 n) := by rw [zipTo_zero]; simp [u32s]
  rw [e0] at ho
  have f0 : Fr No w (w.alloc (.cells (madeCells #[.int .u32 0] n) 50)) := (Fr.refl No w).alloc _
  go_enter Try.func46, Try.ntmps46
  go_wp2
  go_loopw [14] (fun v wr => ∃ i : Nat, i ≤ n ∧ v = .int .i64 i ∧ Hid (wr.ownsRow w.heap.size 50 1 (.slice (some ⟨w.heap.size, 0, none⟩) n n) n (u32s (zipTo min a b i n)) ∧ Fr No w wr)) (fun v _ => n - (intOf v).toNat)
  case atStart => exact ⟨0, Nat.zero_le _, rfl, Lib.hid ⟨ho, f0⟩⟩
  case round =>
    obtain ⟨i, hi, rfl, Hi⟩ := hrel
    by_cases hlt : i < n
    · obtain ⟨ga, oa, rfl, ca0⟩ := Ha.out.get i (by rw [← Ha.out.len]; exact hlt)
      obtain ⟨gb, ob, rfl, cb0⟩ := Hb.out.get i (by rw [← Hb.out.len]; exact hlt)
      have na : ga < w.heap.size := World.block_lt_of_cell? w _ ca0
      have nb : gb < w.heap.size := World.block_lt_of_cell? w _ cb0
      have ca := (World.cell?_of_block (w := w) (a := ⟨ga, oa + i, none⟩) (Hi.out.2.block ga na (fun x => x))).trans ca0
      have cb := (World.cell?_of_block (w := w) (a := ⟨gb, ob + i, none⟩) (Hi.out.2.block gb nb (fun x => x))).trans cb0
      clear ca0 cb0
      have hst := (Hi.out.1.stored i (.int .u32 ((min (a.getD i 0) (b.getD i 0) : Nat) : Int))).1
      rw [u32s_set, zipTo_succ] at hst
      have fr := Hi.out.1.frozenAt i
      have cr := Hi.out.1.cellAt i (by omega)
      rw [u32s_get _ i (by rw [zipTo_len]; exact hlt)] at cr
      generalize (zipTo min a b i n).getD i 0 = z at *
      have Hst := Lib.hid hst
      clear hst
      generalize a.getD i 0 = x at *
      generalize b.getD i 0 = y at *
      have ca2 : (wr.setCell ⟨w.heap.size, i, none⟩ (.int .u32 ((min x y : Nat) : Int))).drew.cell? ⟨ga, oa + i, none⟩ = some (.int .u32 (x : Int)) := cell_set ca (Nat.ne_of_lt na)
      have cb2 : (wr.setCell ⟨w.heap.size, i, none⟩ (.int .u32 ((min x y : Nat) : Int))).drew.cell? ⟨gb, ob + i, none⟩ = some (.int .u32 (y : Int)) := cell_set cb (Nat.ne_of_lt nb)
      go_wp2
      have ca' : wr.drew.cell? ⟨ga, oa + i, none⟩ = some (.int .u32 (x : Int)) := ca
      have cb' : wr.drew.cell? ⟨gb, ob + i, none⟩ = some (.int .u32 (y : Int)) := cb
      go_region_held3 (fun w' => w'.cell? ⟨ga, oa + i, none⟩ = some (.int .u32 (x : Int)) ∧ w'.cell? ⟨gb, ob + i, none⟩ = some (.int .u32 (y : Int))) (first | exact ⟨ca', cb'⟩ | exact ⟨ca2, cb2⟩)
        (first | (go_at_call 48; ((with_reducible refine (min_any _ _ _).mono ?_); rintro e w' ⟨rfl, rfl⟩)))
      go_wp2
      go_roundw
      case rel => exact ⟨i + 1, by omega, by go_num, Lib.hid ⟨Hst.out, (Hi.out.2.setCell (p := ⟨w.heap.size, i, none⟩) (.inr (Nat.le_refl _)) _).drew⟩⟩
      case measure => simp [intOf]; omega
    · obtain rfl : i = n := by omega
      go_wp2
      go_ret
      have hx := Hi.out.1
      rw [Ha.out.len, zipTo_all] at hx
      rw [Ha.out.len]
      exact ⟨rfl, hx, Hi.out.2⟩
end
end Go.Proofs.Ytoaikponefcbiaa.Ki08
