/- Rows of bytes and texts. No program in sight. -/
import Derived.Test.YtoaikponefcbiaaApp
import Derived.Laws.BytesArg
import Derived.Laws.MakeOwn
import Derived.Lib.ConvBytes
import Derived.Laws.StructEq
import Derived.Deep.OwnRows
namespace Go.Proofs.Ytoaikponefcbiaa.Str
open Go.RowKit Go.Proofs.Ytoaikponefcbiaa.Base Go.Proofs.Ytoaikponefcbiaa.App
set_option linter.unusedVariables false

def u8s (xs : List Nat) : List Value := xs.map fun (x : Nat) => .int .u8 (x : Int)
theorem u8s_len (xs : List Nat) : (u8s xs).length = xs.length := by simp [u8s]
theorem u8s_set (xs : List Nat) (i x : Nat) : (u8s xs).set i (.int .u8 (x : Int)) = u8s (xs.set i x) := by simp [u8s, List.map_set]
theorem u8s_get (xs : List Nat) (i : Nat) (h : i < xs.length) : (u8s xs)[i]? = some (.int .u8 ((xs.getD i 0 : Nat) : Int)) := by
  simp [u8s, List.getD_eq_getElem?_getD, h]
theorem u8s_one (xs : List Nat) : ∀ u ∈ u8s xs, u.oneCell' = true := by
  intro u hu
  simp only [u8s, List.mem_map] at hu
  obtain ⟨x, _, rfl⟩ := hu
  rfl
theorem str_eq (a b : ByteArray) : (a.toList == b.toList) = decide (a = b) := by
  by_cases h : a = b
  · subst h; simp
  · have hn : a.toList ≠ b.toList := by
      rw [ByteArray.toList_eq, ByteArray.toList_eq]
      intro e
      apply h
      cases a; cases b
      congr
      exact Array.toList_inj.1 e
    rw [beq_eq_false_iff_ne.2 hn, decide_eq_false h]
theorem str_yes {a b : ByteArray} (h : a = b) : (a.toList == b.toList) = true := by rw [str_eq]; exact decide_eq_true h
theorem str_no {a b : ByteArray} (h : a ≠ b) : (a.toList == b.toList) = false := by rw [str_eq]; exact decide_eq_false h
/-- The text of bytes. -/
def txt (xs : List Nat) : ByteArray := strOfNums (xs.map (fun (x : Nat) => (x : Int)))
theorem own_text {P : Program} {w : World} {base n : Nat} {e' src dst e : TypeId} {v : Value} {xs : List Nat} (hs : P.underlying src = some (.slice e)) (he : P.underlying e = some (.int .u8)) (hd : P.underlying dst = some .string)
    (h : w.ownsRow base e' 1 v n (u8s xs)) : (convert src dst v).run P w = .ok (.string (txt xs)) w := by
  have hl : xs.length = n := by have := own_len h; rwa [u8s_len] at this
  rcases h.2 with ⟨rfl, rfl⟩ | ⟨g, cap, cur, rfl, _⟩
  · obtain rfl : xs = [] := List.eq_nil_of_length_eq_zero hl
    exact run_convert_bytes_nil w src e hs he 0 0 dst hd
  · refine run_convert_bytes_arg w src e hs he g 0 n cap (xs.map (fun (x : Nat) => (x : Int))) (by simp [hl]) (fun i hi => ?_) dst hd
    rw [Nat.zero_add, h.cellAt i (by omega), u8s_get xs i (by omega)]
    simp [List.getD_eq_getElem?_getD, List.getElem?_map, show i < xs.length by omega]
theorem run_made {P : Program} (t e : TypeId) (z : Value) (bytes : Nat) (ht : P.underlying t = some (.slice e)) (hinfo : (P.info? e).map (fun i => (i.zero, i.size, i.bytes)) = some (some z, 1, bytes)) (hz : z.cells = #[z]) (hb : 0 < bytes)
    (n : Int) (h0 : 0 ≤ n) (h1 : n * bytes ≤ 281474976710656) (W : World) :
    (Instr.makeSlice t (.int .i64 n) (.int .i64 n)).run P W = .ok (.slice (some ⟨W.heap.size, 0, none⟩) n.toNat n.toNat) (W.alloc (.cells (madeCells #[z] n.toNat) e)) := by
  obtain ⟨m, rfl⟩ := Int.eq_ofNat_of_zero_le h0
  rw [Int.toNat_natCast]
  have h2' : ((m * bytes : Nat) : Int) ≤ 281474976710656 := by rw [Int.natCast_mul]; exact h1
  have h2 : m * bytes ≤ 281474976710656 := by omega
  have hm : m ≤ 281474976710656 := Nat.le_trans (Nat.le_mul_of_pos_right _ hb) h2
  exact run_make_row' t e z bytes ht hinfo hz .i64 .i64 m (by rw [Nat.mul_comm]; exact h2) (by omega) W
theorem own_mk (W : World) (base : Nat) (e : TypeId) (z : Value) (hz : z.cells = #[z]) (n : Nat) (hb : base ≤ W.heap.size) (hn : n ≤ 281474976710656) :
    (W.alloc (.cells (madeCells #[z] n) e)).ownsRow base e 1 (.slice (some ⟨W.heap.size, 0, none⟩) n n) n (List.replicate n z) := by
  have h := World.ownsRow_lit (base := base) (e := e) (size := 1) W (madeCells #[z] n) n hb (by simp only [maxLen]; omega) (by simp [size_madeCells])
  have hl : (madeCells #[z] n).toList = List.replicate n z := by
    apply List.ext_getElem
    · simp [madeCells]
    · intro i h1 h2
      simp [madeCells, Nat.mod_one]
  rwa [hl] at h
theorem own_u8 (W : World) (base : Nat) (e : TypeId) (n : Nat) (hb : base ≤ W.heap.size) (hn : n ≤ 281474976710656) :
    (W.alloc (.cells (madeCells #[.int .u8 0] n) e)).ownsRow base e 1 (.slice (some ⟨W.heap.size, 0, none⟩) n n) n (u8s (List.replicate n 0)) := by
  have h := own_mk W base e (.int .u8 0) rfl n hb hn
  have hl : List.replicate n (Value.int .u8 0) = u8s (List.replicate n 0) := by simp [u8s]
  rw [hl] at h
  exact h
end Go.Proofs.Ytoaikponefcbiaa.Str
