/- Layer 1: an area of bytes: a range of it, a number and a text put into it and got out of it. -/
import Derived.Test.YtifpigcgkpmheaaGa
import Derived.Test.YtifpigcgkpmheaaGb
import Derived.Lib.BufferWrite
import Derived.Lib.LazyBuf
import Derived.Lib.AtoiErrMem
import Derived.Laws.AppendOwn
namespace Go.Proofs.Ytifpigcgkpmheaa.Fa
open Go.RowKit Go.Proofs.Ytifpigcgkpmheaa.Pk08 Go.Proofs.Ytifpigcgkpmheaa.Base Go.Proofs.Ytifpigcgkpmheaa.App Go.Proofs.Ytifpigcgkpmheaa.Str Go.Proofs.Ytifpigcgkpmheaa.Ky Go.Proofs.Ytifpigcgkpmheaa.Bx Go.Proofs.Ytifpigcgkpmheaa.Bo
set_option linter.unusedVariables false
set_option linter.unusedSimpArgs false
section
variable {w : World} {ga gb n c : Nat}
theorem part_in (at_ sz : Nat) (c0 : w.cell? ⟨ga, 0, none⟩ = some (.slice (some ⟨gb, 0, none⟩) n c)) (hn : n ≤ 4096) (hc : n ≤ c) (h : at_ + sz ≤ n) :
    Calls Try.prog 70 #[.pointer (some ⟨ga, 0, none⟩), .int .i64 at_, .int .i64 sz] w fun e w' => e = .returned (.slice (some ⟨gb, if sz = 0 then 0 else at_, none⟩) sz sz) ∧ w = w' := by
  have hcl : ((at_ : Int) + sz) ≤ (c : Int) := by omega
  have hq : ¬ (((at_ : Int) + sz) - (at_ : Int) < 0) := by omega
  go_enter Try.func70, Try.ntmps70
  go_wp2
  all_goals (go_ret; refine ⟨?_, rfl⟩; simp [*])
theorem part_out (at_ sz : Nat) (c0 : w.cell? ⟨ga, 0, none⟩ = some (.slice (some ⟨gb, 0, none⟩) n c)) (hn : n ≤ 4096) (h : n < at_ + sz) (h1 : at_ ≤ 1000000) (h2 : sz ≤ 1000000) :
    Calls Try.prog 70 #[.pointer (some ⟨ga, 0, none⟩), .int .i64 at_, .int .i64 sz] w fun e w' => e = .returned (.slice none 0 0) ∧ w = w' := by
  by_cases h3 : at_ ≤ n
  · go_enter Try.func70, Try.ntmps70
    go_wp2
    go_ret
    exact ⟨rfl, rfl⟩
  · go_enter Try.func70, Try.ntmps70
    go_wp2
    go_ret
    exact ⟨rfl, rfl⟩
theorem number_in (at_ wd : Nat) (hw : wd = 1 ∨ wd = 4) (c0 : w.cell? ⟨ga, 0, none⟩ = some (.slice (some ⟨gb, 0, none⟩) n c)) (hn : n ≤ 4096) (hc : n ≤ c) (h : at_ + wd ≤ n) :
    Calls Try.prog 60 #[.pointer (some ⟨ga, 0, none⟩), .int .i64 at_, .int .i64 wd] w fun e w' => e = .returned (.slice (some ⟨gb, at_, none⟩) wd wd) ∧ w = w' := by
  have hp := part_in at_ wd c0 hn hc h
  rw [if_neg (show ¬ wd = 0 by omega)] at hp
  rcases hw with rfl | rfl
  · rw [show ((1 : Nat) : Int) = 1 from rfl] at hp
    go_enter Try.func60, Try.ntmps60
    go_wp2_with (go_at_call 70; ((with_reducible refine hp.mono ?_); rintro e w5 ⟨rfl, rfl⟩))
    go_ret
    exact ⟨rfl, rfl⟩
  · rw [show ((4 : Nat) : Int) = 4 from rfl] at hp
    go_enter Try.func60, Try.ntmps60
    go_wp2_with (go_at_call 70; ((with_reducible refine hp.mono ?_); rintro e w5 ⟨rfl, rfl⟩))
    go_ret
    exact ⟨rfl, rfl⟩
theorem number_out (at_ wd : Nat) (hw : wd = 1 ∨ wd = 4) (c0 : w.cell? ⟨ga, 0, none⟩ = some (.slice (some ⟨gb, 0, none⟩) n c)) (hn : n ≤ 4096) (h : n < at_ + wd) (h1 : at_ ≤ 1000000) :
    Calls Try.prog 60 #[.pointer (some ⟨ga, 0, none⟩), .int .i64 at_, .int .i64 wd] w fun e w' => e = .returned (.slice none 0 0) ∧ w = w' := by
  have hp := part_out at_ wd c0 hn h h1 (by omega)
  rcases hw with rfl | rfl
  · rw [show ((1 : Nat) : Int) = 1 from rfl] at hp
    go_enter Try.func60, Try.ntmps60
    go_wp2_with (go_at_call 70; ((with_reducible refine hp.mono ?_); rintro e w5 ⟨rfl, rfl⟩))
    go_ret
    exact ⟨rfl, rfl⟩
  · rw [show ((4 : Nat) : Int) = 4 from rfl] at hp
    go_enter Try.func60, Try.ntmps60
    go_wp2_with (go_at_call 70; ((with_reducible refine hp.mono ?_); rintro e w5 ⟨rfl, rfl⟩))
    go_ret
    exact ⟨rfl, rfl⟩
theorem eq_none (W : World) (A : Addr) (l c : Nat) : (binOp .eql 97 (.slice (some A) l c) (.slice none 0 0)).run Try.prog W = .ok (.bool false) W :=
  run_eql_slice_nil (P := Try.prog) W 97 5 (some A) l c Try.underlying97
theorem eq_none0 (W : World) (l c : Nat) : (binOp .eql 97 (.slice none l c) (.slice none 0 0)).run Try.prog W = .ok (.bool true) W :=
  run_eql_slice_nil (P := Try.prog) W 97 5 none l c Try.underlying97
def be1 (v : Nat) : List Nat := [v]
def be4 (v : Nat) : List Nat := [v / 16777216, v / 65536 % 256, v / 256 % 256, v % 256]
/-- p, then k of b, then what stood there. -/
def wrt (p b r : List Nat) (k : Nat) : List Nat := p ++ b.take k ++ r.drop k
theorem wrt_set (p b r : List Nat) (k : Nat) (hb : k < b.length) (hr : k < r.length) : (wrt p b r k).set (p.length + k) (b.getD k 0) = wrt p b r (k + 1) := by
  unfold wrt
  have h1 : (p ++ b.take k).length = p.length + k := by simp; omega
  rw [List.set_append_right _ _ (by omega), h1, Nat.sub_self, List.drop_eq_getElem_cons hr, List.set_cons_zero]
  have h2 : b.take (k + 1) = b.take k ++ [b.getD k 0] := by
    rw [List.take_add_one, List.getD_eq_getElem?_getD]
    simp [hb]
  rw [h2]
  simp
theorem wr_len (p b r : List Nat) (k : Nat) (hb : k ≤ b.length) (hr : k ≤ r.length) : (wrt p b r k).length = p.length + r.length := by
  unfold wrt
  simp
  omega
theorem wr_step {T : TypeId} {wq : World} {p b r : List Nat} {k j : Nat} {x : Int} (h : Ob wq gb (u8s (wrt p b r k)).toArray T) (hb : k < b.length) (hr : k < r.length) (hx : x = ((b.getD k 0 : Nat) : Int)) (hj : j = p.length + k) :
    Ob (wq.setCell ⟨gb, j, none⟩ (.int .u8 x)) gb (u8s (wrt p b r (k + 1))).toArray T := by
  subst hx hj
  have := h.set (p.length + k) (.int .u8 ((b.getD k 0 : Nat) : Int))
  rw [List.setIfInBounds_toArray, u8s_set, wrt_set p b r k hb hr] at this
  exact this
theorem wr_cell {T : TypeId} {wq : World} {p b r : List Nat} {k : Nat} (h : Ob wq gb (u8s (wrt p b r k)).toArray T) (hb : k ≤ b.length) (hr : k < r.length) :
    ∃ u, wq.cell? ⟨gb, p.length + k, none⟩ = some u := by
  have hl := wr_len p b r k hb (by omega)
  have : p.length + k < (u8s (wrt p b r k)).length := by rw [u8s_len, hl]; omega
  exact ⟨_, h.cell (p.length + k) (by rw [List.getElem?_toArray, List.getElem?_eq_getElem this])⟩
set_option maxHeartbeats 1600000 in
theorem fput4 {T : TypeId} (p r : List Nat) (v N : Nat) (hv : v < 4294967296) (hr : 4 ≤ r.length) (hN : N = p.length + r.length) (hN2 : N ≤ 4096) (c0 : w.cell? ⟨ga, 0, none⟩ = some (.slice (some ⟨gb, 0, none⟩) N N)) (hob : Ob w gb (u8s (p ++ r)).toArray T) :
    Calls Try.prog 45 #[.pointer (some ⟨ga, 0, none⟩), .int .i64 (p.length : Nat), .int .i64 4, .int .u32 v] w fun e w' => e = .returned (.int .i64 0) ∧ Ob w' gb (u8s (p ++ be4 v ++ r.drop 4)).toArray T ∧ Fr (fun k => k = gb) w w' := by
  have hnum := number_in p.length 4 (.inr rfl) c0 hN2 (Nat.le_refl _) (by omega)
  rw [show ((4 : Nat) : Int) = 4 from rfl] at hnum
  have HO := Lib.hid hob
  have HR := Lib.hid hr
  have HN := Lib.hid hN
  have hnil := eq_none
  have hv0 : (v : Int) / 4294967296 = 0 := by omega
  have hpl : p.length + 4 ≤ N := by omega
  clear hob hN hr
  go_enter Try.func45, Try.ntmps45
  go_wp2_with (go_at_call 60; ((with_reducible refine hnum.mono ?_); rintro e w5 ⟨rfl, rfl⟩))
  go_loopw [27] (fun i wq => ∃ k : Nat, k ≤ 4 ∧ i = .int .i64 k ∧ Hid (Ob wq gb (u8s (wrt p (be4 v) r k)).toArray T ∧ Fr (fun k => k = gb) w wq)) (fun i _ => 4 - (intOf i).toNat)
  case atStart => exact ⟨0, by omega, rfl, Lib.hid ⟨by have := HO.out; simpa [wrt] using this, Fr.refl _ _⟩⟩
  case round =>
    obtain ⟨k, hk, rfl, Hi⟩ := hrel
    by_cases h4 : k = 4
    · subst h4
      go_wp2
      go_ret
      exact ⟨rfl, by have := Hi.out.1; simpa [wrt, be4] using this, Hi.out.2⟩
    · obtain ⟨u, cb⟩ := wr_cell Hi.out.1 (by show k ≤ 4; omega) (by have := HR.out; omega)
      have fb := Hi.out.1.frozen (p.length + k)
      have hk5 : k = 0 ∨ k = 1 ∨ k = 2 ∨ k = 3 := by omega
      rcases hk5 with rfl | rfl | rfl | rfl
      all_goals (try simp only [Nat.add_zero] at cb fb)
      all_goals go_wp2
      all_goals go_roundw
      case rel => exact ⟨1, by omega, rfl, Lib.hid ⟨wr_step Hi.out.1 (by simp [be4]) (by have := HR.out; omega) (by simp [be4]) rfl, Hi.out.2.setCell (.inl rfl) _⟩⟩
      case measure => simp [intOf]
      case rel => exact ⟨2, by omega, rfl, Lib.hid ⟨wr_step Hi.out.1 (by simp [be4]) (by have := HR.out; omega) (by simp [be4]) rfl, Hi.out.2.setCell (.inl rfl) _⟩⟩
      case measure => simp [intOf]
      case rel => exact ⟨3, by omega, rfl, Lib.hid ⟨wr_step Hi.out.1 (by simp [be4]) (by have := HR.out; omega) (by simp [be4]) rfl, Hi.out.2.setCell (.inl rfl) _⟩⟩
      case measure => simp [intOf]
      case rel => exact ⟨4, by omega, rfl, Lib.hid ⟨wr_step Hi.out.1 (by simp [be4]) (by have := HR.out; omega) (by simp [be4]) rfl, Hi.out.2.setCell (.inl rfl) _⟩⟩
      case measure => simp [intOf]
set_option maxHeartbeats 1600000 in
theorem fput1 {T : TypeId} (p r : List Nat) (v N : Nat) (hv : v < 256) (hr : 1 ≤ r.length) (hN : N = p.length + r.length) (hN2 : N ≤ 4096) (c0 : w.cell? ⟨ga, 0, none⟩ = some (.slice (some ⟨gb, 0, none⟩) N N)) (hob : Ob w gb (u8s (p ++ r)).toArray T) :
    Calls Try.prog 45 #[.pointer (some ⟨ga, 0, none⟩), .int .i64 (p.length : Nat), .int .i64 1, .int .u32 v] w fun e w' => e = .returned (.int .i64 0) ∧ Ob w' gb (u8s (p ++ be1 v ++ r.drop 1)).toArray T ∧ Fr (fun k => k = gb) w w' := by
  have hnum := number_in p.length 1 (.inl rfl) c0 hN2 (Nat.le_refl _) (by omega)
  rw [show ((1 : Nat) : Int) = 1 from rfl] at hnum
  have HO := Lib.hid hob
  have HR := Lib.hid hr
  have HN := Lib.hid hN
  have hnil := eq_none
  have hv0 : (v : Int) / 256 = 0 := by omega
  have hpl : p.length + 1 ≤ N := by omega
  clear hob hN hr
  go_enter Try.func45, Try.ntmps45
  go_wp2_with (go_at_call 60; ((with_reducible refine hnum.mono ?_); rintro e w5 ⟨rfl, rfl⟩))
  go_loopw [27] (fun i wq => ∃ k : Nat, k ≤ 1 ∧ i = .int .i64 k ∧ Hid (Ob wq gb (u8s (wrt p (be1 v) r k)).toArray T ∧ Fr (fun k => k = gb) w wq)) (fun i _ => 1 - (intOf i).toNat)
  case atStart => exact ⟨0, by omega, rfl, Lib.hid ⟨by have := HO.out; simpa [wrt] using this, Fr.refl _ _⟩⟩
  case round =>
    obtain ⟨k, hk, rfl, Hi⟩ := hrel
    by_cases h4 : k = 1
    · subst h4
      go_wp2
      go_ret
      exact ⟨rfl, by have := Hi.out.1; simpa [wrt, be1] using this, Hi.out.2⟩
    · obtain ⟨u, cb⟩ := wr_cell Hi.out.1 (by show k ≤ 1; omega) (by have := HR.out; omega)
      have fb := Hi.out.1.frozen (p.length + k)
      obtain rfl : k = 0 := by omega
      simp only [Nat.add_zero] at cb fb
      go_wp2
      go_roundw
      case rel => exact ⟨1, by omega, rfl, Lib.hid ⟨wr_step Hi.out.1 (by simp [be1]) (by have := HR.out; omega) (by simp [be1]) rfl, Hi.out.2.setCell (.inl rfl) _⟩⟩
      case measure => simp [intOf]
def bys (s : ByteArray) : List Nat := s.data.toList.map UInt8.toNat
theorem bys_len (s : ByteArray) : (bys s).length = s.size := by simp only [bys, List.length_map, Array.length_toList]; rfl
theorem of_to : UInt8.ofNat ∘ UInt8.toNat = id := funext fun x => UInt8.ofNat_toNat
theorem bys_lt (s : ByteArray) : ∀ x ∈ bys s, x < 256 := by
  intro x hx
  simp only [bys, List.mem_map] at hx
  obtain ⟨u, _, rfl⟩ := hx
  exact u.toNat_lt
theorem byte_cells (s : ByteArray) : Lib.byteCells s.data.toList = u8s (bys s) := by simp [Lib.byteCells, u8s, bys]
theorem ba_ext {a b : ByteArray} (h : a.data.toList = b.data.toList) : a = b := by
  cases a; cases b
  congr
  exact Array.toList_inj.1 h
theorem txt_data (xs : List Nat) : (txt xs).data.toList = xs.map UInt8.ofNat := by simp [txt, strOfNums_data]
theorem txt_size (xs : List Nat) : (txt xs).size = xs.length := by simp [txt, strOfNums_size]
theorem txt_bys (s : ByteArray) : txt (bys s) = s := by
  apply ba_ext
  rw [txt_data]
  simp [bys, of_to]
theorem txt_app (a b : List Nat) : txt a ++ txt b = txt (a ++ b) := by
  apply ba_ext
  rw [ByteArray.data_append, Array.toList_append, txt_data, txt_data, txt_data, List.map_append]
theorem bys_txt (xs : List Nat) (h : ∀ x ∈ xs, x < 256) : bys (txt xs) = xs := by
  unfold bys
  rw [txt_data, List.map_map]
  refine (List.map_congr_left (fun x hx => ?_)).trans (List.map_id xs)
  have := h x hx
  simp only [Function.comp_apply, UInt8.toNat_ofNat', id_eq]
  omega
/-- A part of a text. -/
def sub (s : ByteArray) (a n : Nat) : ByteArray := txt (((bys s).drop a).take n)
theorem sub_extract (s : ByteArray) (a n : Nat) : s.extract a (a + n) = sub s a n := by
  apply ba_ext
  rw [sub, txt_data, ByteArray.data_extract, Array.toList_extract]
  simp [bys, List.extract_eq_take_drop, of_to]
theorem Fr.setRow {S : Nat → Prop} {w w1 : World} (h : Fr S w w1) {g : Nat} (hg : S g ∨ w.heap.size ≤ g) (cs : Array Value) : Fr S w (w1.setRow g cs) := by
  refine ⟨h.os, h.tape, h.output, by have := h.size; simpa [World.setRow] using this, fun k hk hn => ?_⟩
  have hne : g ≠ k := by rintro rfl; rcases hg with h1 | h1; exact hn h1; omega
  rw [← h.block k hk hn]
  simp [World.setRow, Array.getElem?_modify, hne]
theorem u8_one : (Try.prog.info? 5).map (·.size) = some 1 := by kernel_rfl
theorem info_u8 : (Try.prog.info? 5).map (fun i => (i.zero, i.size, i.bytes)) = some (some (.int .u8 0), 1, 1) := by kernel_rfl
theorem bytes_any (xs : List Nat) (N : Nat) (hN : xs.length = N) (c0 : w.cell? ⟨ga, 0, none⟩ = some (.slice (some ⟨gb, 0, none⟩) N N)) (hb : ∀ i, i < N → w.cell? ⟨gb, i, none⟩ = some (.int .u8 ((xs.getD i 0 : Nat) : Int))) :
    Calls Try.prog 46 #[.pointer (some ⟨ga, 0, none⟩)] w fun e w' => e = .returned (.string (txt xs)) ∧ w = w' := by
  have hcv := run_convert_bytes_arg (P := Try.prog) (w := w) 97 5 Try.underlying97 Try.underlying5 gb 0 N N (xs.map (fun (x : Nat) => (x : Int))) (by simp [hN]) (fun i hi => by rw [Nat.zero_add, hb i hi]; simp [List.getD_eq_getElem?_getD, List.getElem?_map, show i < xs.length by omega]) 9 Try.underlying9
  have htx : strOfNums (xs.map (fun (x : Nat) => (x : Int))) = txt xs := rfl
  rw [htx] at hcv
  clear htx hb
  go_enter Try.func46, Try.ntmps46
  go_wp2
  go_ret
  exact ⟨rfl, rfl⟩
theorem new_area (N : Nat) (hN : N ≤ 4096) : Calls Try.prog 44 #[.int .i64 (N : Nat)] w fun e w' => ∃ ga gb, e = .returned (.tuple #[.pointer (some ⟨ga, 0, none⟩), .int .i64 0]) ∧ Ob w' ga #[.slice (some ⟨gb, 0, none⟩) N N] 99 ∧ Ob w' gb (u8s (List.replicate N 0)).toArray 5 ∧ w.heap.size ≤ ga ∧ w.heap.size ≤ gb ∧ ga ≠ gb ∧ Fr No w w' := by
  have hmk : ∀ W : World, (Instr.makeSlice 97 (.int .i64 (N : Int)) (.int .i64 (N : Int))).run Try.prog W = .ok (.slice (some ⟨W.heap.size, 0, none⟩) N N) (W.alloc (.cells (madeCells #[.int .u8 0] N) 5)) := by
    intro W
    have := run_made (P := Try.prog) 97 5 (.int .u8 0) 1 Try.underlying97 info_u8 rfl (by decide) N (by omega) (by omega) W
    simpa using this
  have hl : madeCells #[Value.int .u8 0] N = (u8s (List.replicate N 0)).toArray := by
    apply Array.ext'
    apply List.ext_getElem
    · simp [u8s, madeCells]
    · intro i h1 h2
      simp [u8s, madeCells, Nat.mod_one]
  have Hl := Lib.hid hl
  clear hl
  go_enter Try.func44, Try.ntmps44
  go_wp2
  go_ret2
  refine ⟨w.heap.size + 1, w.heap.size, rfl, ?_, ?_, by omega, Nat.le_refl _, by omega, ?_⟩
  · (repeat (first | with_reducible assumption | with_reducible refine Ob.other ?_ (by first | (simp; done) | (simp; omega)) _ | ((with_reducible refine Ob.new_ _ _ _ _ ?_) <;> (simp; done)) | with_reducible refine Ob.alloc ?_ _ | with_reducible refine Ob.drew ?_ | with_reducible refine Ob.drewN ?_ _ | with_reducible refine Ob.no ?_ (by assumption)))
  · rw [← Hl.out]
    exact (Ob.new _ _ _).alloc _
  · (repeat (first | with_reducible exact Fr.refl _ _ | with_reducible refine Fr.setCell ?_ (.inr (by first | (simp; done) | (simp; omega))) _ | with_reducible refine Fr.alloc ?_ _ | with_reducible refine Fr.drew ?_ | with_reducible refine Fr.drewN ?_ _ | with_reducible refine Fr.tr ?_ (by assumption)))
theorem shl_or (m b : Nat) (hm : m < 16777216) (hb : b < 256) : bits .or .u32 ((m : Int) * 256 % 4294967296) (b : Int) = ((m * 256 + b : Nat) : Int) := by
  have e : (m : Int) * 256 % 4294967296 = ((m * 256 : Nat) : Int) := by omega
  have ha' : (m * 256) % 2 ^ IntKind.u32.bits = m * 256 := Nat.mod_eq_of_lt (by show _ < 4294967296; omega)
  have hb' : b % 2 ^ IntKind.u32.bits = b := Nat.mod_eq_of_lt (by show _ < 4294967296; omega)
  have ho : m * 256 ||| b = m * 256 + b := by
    have := Nat.shiftLeft_add_eq_or_of_lt (i := 8) (show b < 2 ^ 8 by omega) m
    rw [Nat.shiftLeft_eq] at this
    exact this.symm
  rw [e]
  simp only [bits, BitVec.ofInt_natCast, BitVec.toNat_or, BitVec.toNat_ofNat, ha', hb', ho]
  simp only [IntKind.wrap, IntKind.bits, IntKind.signed]
  simp
  omega
def numk (bs : List Nat) (a : Nat) : Nat → Nat
  | 0 => 0
  | k + 1 => numk bs a k * 256 + bs.getD (a + k) 0
set_option maxHeartbeats 1600000 in
theorem fget_in (bs : List Nat) (at_ wd : Nat) (hw : wd = 1 ∨ wd = 4) (c0 : w.cell? ⟨ga, 0, none⟩ = some (.slice (some ⟨gb, 0, none⟩) n c)) (hn : n ≤ 4096) (hc : n ≤ c) (h : at_ + wd ≤ n) (hb : ∀ i, i < n → w.cell? ⟨gb, i, none⟩ = some (.int .u8 ((bs.getD i 0 : Nat) : Int))) (hlt : ∀ i, bs.getD i 0 < 256) :
    Calls Try.prog 39 #[.pointer (some ⟨ga, 0, none⟩), .int .i64 at_, .int .i64 wd] w fun e w' => e = .returned (.tuple #[.int .u32 ((numk bs at_ wd : Nat) : Int), .int .i64 0]) ∧ w = w' := by
  have hnum := number_in at_ wd hw c0 hn hc h
  have hnil := eq_none
  have Hw := Lib.hid hw
  have hw4 : wd ≤ 4 := by omega
  have Hb := Lib.hid hb
  have Hlt := Lib.hid hlt
  clear hb hw hlt
  go_enter Try.func39, Try.ntmps39
  go_wp2_with (go_at_call 60; ((with_reducible refine hnum.mono ?_); rintro e w5 ⟨rfl, rfl⟩))
  go_loopw [9, 20] (fun u v wq => ∃ k m : Nat, k ≤ wd ∧ v = .int .i64 k ∧ u = .int .u32 m ∧ m < 256 ^ k ∧ Hid (m = numk bs at_ k) ∧ w = wq) (fun _ v _ => wd - (intOf v).toNat)
  case atStart => exact ⟨0, 0, Nat.zero_le _, rfl, rfl, by decide, Lib.hid rfl, rfl⟩
  case round =>
    obtain ⟨k, m, hk, rfl, rfl, hm, Hm, rfl⟩ := hrel
    by_cases hlt : k < wd
    · have cb := Hb.out (at_ + k) (by omega)
      have hby := Hlt.out (at_ + k)
      generalize hbv : bs.getD (at_ + k) 0 = b at *
      have Hbv := Lib.hid hbv
      clear hbv
      have hp3 : 256 ^ k ≤ 256 ^ 3 := Nat.pow_le_pow_right (by decide) (by omega)
      have Hso := Lib.hid (shl_or m b (by omega) hby)
      have hm' : m * 256 + b < 256 ^ (k + 1) := by rw [Nat.pow_succ]; omega
      clear hp3
      go_wp2
      refine ⟨⟨k + 1, m * 256 + b, hlt, by go_num, by rw [Hso.out], hm', Lib.hid ?_, trivial⟩, by simp [intOf]; omega⟩
      rw [numk, ← Hm.out, Hbv.out]
    · obtain rfl : k = wd := by omega
      go_wp2
      go_ret2
      exact ⟨by rw [← Hm.out]; rfl, rfl⟩
theorem fget_out (at_ wd : Nat) (hw : wd = 1 ∨ wd = 4) (c0 : w.cell? ⟨ga, 0, none⟩ = some (.slice (some ⟨gb, 0, none⟩) n c)) (hn : n ≤ 4096) (h : n < at_ + wd) (h1 : at_ ≤ 1000000) :
    Calls Try.prog 39 #[.pointer (some ⟨ga, 0, none⟩), .int .i64 at_, .int .i64 wd] w fun e w' => e = .returned (.tuple #[.int .u32 0, .int .i64 1]) ∧ w = w' := by
  have hnum := number_out at_ wd hw c0 hn h h1
  have hnil := eq_none0
  go_enter Try.func39, Try.ntmps39
  go_wp2_with (go_at_call 60; ((with_reducible refine hnum.mono ?_); rintro e w5 ⟨rfl, rfl⟩))
  go_ret2
  exact ⟨rfl, rfl⟩
theorem of_any (s : ByteArray) (hs : s.size ≤ 4096) : Calls Try.prog 38 #[.string s] w fun e w' => ∃ ga gb c, e = .returned (.tuple #[.pointer (some ⟨ga, 0, none⟩), .int .i64 0]) ∧ Ob w' ga #[.slice (some ⟨gb, 0, none⟩) s.size c] 99 ∧ s.size ≤ c ∧ (∀ i, i < s.size → w'.cell? ⟨gb, i, none⟩ = some (.int .u8 (((bys s).getD i 0 : Nat) : Int))) ∧ w.heap.size ≤ ga ∧ w.heap.size ≤ gb ∧ gb < ga ∧ Fr No w w' := by
  have kb := fun W => Lib.run_convert_string_bytes (P := Try.prog) W 9 97 5 s Try.underlying9 Try.underlying97 Try.underlying5
  go_enter Try.func38, Try.ntmps38
  go_wp2
  go_ret2
  have hs1 := Lib.bytesWorld_size w 5 s
  have hf : Fr No w (Lib.bytesWorld w 5 s) := Fr.ofBelow (Lib.bytesWorld_below _ _ _)
  refine ⟨(Lib.bytesWorld w 5 s).heap.size, w.heap.size, _, rfl, Ob.new _ _ _, grownCap_ge _ _ _ _, fun i hi => ?_, by omega, Nat.le_refl _, by omega, hf.alloc _⟩
  have := cel_alloc (Lib.bytesWorld_cell w 5 s i hi) (.cells #[.slice (some ⟨w.heap.size, 0, none⟩) s.size (grownCap w s.size 0 5)] 99)
  rw [this]
  have h2 : i < s.data.toList.length := by rw [Array.length_toList]; exact hi
  simp only [bys, List.getD_eq_getElem?_getD, List.getElem?_map, List.getElem?_eq_getElem h2]
  rfl
end
end Go.Proofs.Ytifpigcgkpmheaa.Fa
