/- Layer 5: the program's map written as bytes, and read. -/
import Derived.Test.YthnahdoagibckaaCl05
import Derived.Test.YthnahdoagibckaaPn05
import Derived.Test.YthnahdoagibckaaStr
namespace Go.Proofs.Ythnahdoagibckaa.Fe05
open Go.RowKit Go.Proofs.Ythnahdoagibckaa.Pl05 Go.Proofs.Ythnahdoagibckaa.Pm05 Go.Proofs.Ythnahdoagibckaa.Pn05 Go.Proofs.Ythnahdoagibckaa.Base Go.Proofs.Ythnahdoagibckaa.App Go.Proofs.Ythnahdoagibckaa.Str Go.Proofs.Ythnahdoagibckaa.Wa05 Go.Proofs.Ythnahdoagibckaa.Fr05 Go.Proofs.Ythnahdoagibckaa.Fn05 Go.Proofs.Ythnahdoagibckaa.Cl05
set_option linter.unusedVariables false
set_option linter.unusedSimpArgs false

theorem info_u8 : (Try.prog.info? 5).map (fun i => (i.zero, i.size, i.bytes)) = some (some (.int .u8 0), 1, 1) := by kernel_rfl
theorem encode_nil (w : World) :
    Calls Try.prog 11 #[.pointer none] w fun e w' => e = .returned (.string ByteArray.empty) ∧ w = w' := by
  go_enter Try.func11, Try.ntmps11
  go_wp2
  go_ret
  exact ⟨rfl, rfl⟩
/-- The first k bytes written, n in all. -/
def upto (bs : List Bool) (k n : Nat) : List Nat := (List.range n).map (fun i => if i < k then byteAt bs i else 0)
theorem upto_zero (bs : List Bool) (n : Nat) : upto bs 0 n = List.replicate n 0 := by
  apply List.ext_getElem <;> simp [upto]
theorem upto_succ (bs : List Bool) (k n : Nat) : (upto bs k n).set k (byteAt bs k) = upto bs (k + 1) n := by
  apply List.ext_getElem
  · simp [upto]
  · intro i h1 h2
    rw [List.getElem_set]
    simp [upto] at h1 ⊢
    by_cases e : k = i
    · subst e; simp
    · have : i < k + 1 ↔ i < k := by omega
      simp [e, this]
theorem upto_all (bs : List Bool) : upto bs ((bs.length + 7) / 8) ((bs.length + 7) / 8) = encB bs := by
  apply List.ext_getElem
  · simp [upto, encB]
  · intro i h1 h2
    simp [upto] at h1
    simp [upto, encB]
    omega
theorem byte_of (x d : Nat) (hx : x < 2 ^ 64) : IntKind.u8.wrap ((x : Int) / 2 ^ d) = ((x / 2 ^ d % 256 : Nat) : Int) := by
  rw [IntKind.wrap_u8]
  simp
def EncPost (w : World) (bs : List Bool) (e : Ending) (w' : World) : Prop := e = .returned (.string (encS bs)) ∧ Fr No w w'
set_option maxHeartbeats 800000 in
theorem encode_at (g b : Nat) (bs : List Bool) (w : World) (h : Map w g b bs) :
    Calls Try.prog 11 #[.pointer (some ⟨g, 0, none⟩)] w (EncPost w bs) := by
  obtain ⟨cap, ws, ha⟩ := h
  have Ha := Lib.hid ha
  have c0 := ha.c0
  have hm := ha.most
  obtain ⟨n, hn⟩ : ∃ n : Nat, n = (bs.length + 7) / 8 := ⟨_, rfl⟩
  have hmk : ∀ W : World, (Instr.makeSlice 47 (.int .i64 (((bs.length : Int) + 7) / 8)) (.int .i64 (((bs.length : Int) + 7) / 8))).run Try.prog W = .ok (.slice (some ⟨W.heap.size, 0, none⟩) n n) (W.alloc (.cells (madeCells #[.int .u8 0] n) 5)) := by
    intro W
    have e : ((bs.length : Int) + 7) / 8 = (n : Int) := by omega
    rw [e]
    have := run_made (P := Try.prog) 47 5 (.int .u8 0) 1 Try.underlying47 info_u8 rfl (by decide) n (by omega) (by omega) W
    simpa using this
  have hn2 : n ≤ 126 := by omega
  have hlw : ws.length * 8 ≥ n := by have := ha.len.1; omega
  have Hn := Lib.hid hn
  clear hn ha
  go_enter Try.func11, Try.ntmps11
  go_wp2
  go_loopw [16] (fun i wr => ∃ k : Nat, k ≤ n ∧ i = .int .i64 k ∧ Hid (wr.ownsRow w.heap.size 5 1 (.slice (some ⟨w.heap.size, 0, none⟩) n n) n (u8s (upto bs k n)) ∧ Fr No w wr)) (fun i _ => n - (intOf i).toNat)
  case atStart => exact ⟨0, Nat.zero_le _, rfl, Lib.hid ⟨by rw [upto_zero]; exact own_u8 w _ _ n (Nat.le_refl _) (by omega), (Fr.refl No w).alloc _⟩⟩
  case round =>
    obtain ⟨k, hk, rfl, Hr⟩ := hrel
    by_cases hlt : k < n
    · have hA := Ha.out.fr Hr.out.2 (fun x => x) (fun x => x)
      have c1 := hA.c1
      have cw := hA.cw (k / 8) (by omega)
      have hx := getD_lt hA.rel.lt (k / 8)
      have hb := word_byte hA.rel k
      have cb : wr.cell? ⟨w.heap.size, k, none⟩ = some (.int .u8 (((upto bs k n).getD k 0 : Nat) : Int)) := (Hr.out.1.cellAt k (by omega)).trans (u8s_get _ k (by simp [upto]; omega))
      have fb : wr.frozen? ⟨w.heap.size, k, none⟩ = false := Hr.out.1.frozenAt k
      generalize ws.getD (k / 8) 0 = x at *
      generalize (upto bs k n).getD k 0 = y at *
      have hk8 : k / 8 < ws.length := by omega
      have Hb := Lib.hid hb
      have Hx := Lib.hid hx
      clear hb hx hA
      have hv : (x : Int) / 2 ^ (8 * (7 - k % 8)) % 256 = ((byteAt bs k : Nat) : Int) := by rw [← Hb.out]; simp
      have hs := (Hr.out.1.stored k (.int .u8 (byteAt bs k : Int))).1
      rw [u8s_set, upto_succ] at hs
      have Hs := Lib.hid hs
      have Hv := Lib.hid hv
      clear hv hs
      go_wp2
      go_roundw
      case rel =>
        rw [Hv.out]
        exact ⟨k + 1, by omega, by go_num, Lib.hid ⟨Hs.out, Hr.out.2.setCell (.inr (Nat.le_refl _)) _⟩⟩
      case measure => simp [intOf]; omega
    · obtain rfl : k = n := by omega
      have hcv := own_text (P := Try.prog) (src := 47) (dst := 9) Try.underlying47 Try.underlying5 Try.underlying9 Hr.out.1
      have e1 : txt (upto bs k k) = encS bs := by rw [Hn.out, upto_all]; rfl
      rw [e1] at hcv
      clear e1
      go_wp2
      go_ret
      exact ⟨rfl, Hr.out.2⟩
end Go.Proofs.Ythnahdoagibckaa.Fe05
