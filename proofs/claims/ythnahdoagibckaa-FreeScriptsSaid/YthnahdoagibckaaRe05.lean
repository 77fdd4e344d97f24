/- Layer 5: the document's map written as bytes. -/
import Derived.Test.YthnahdoagibckaaRn05
import Derived.Test.YthnahdoagibckaaFe05
namespace Go.Proofs.Ythnahdoagibckaa.Re05
open Go.RowKit Go.Proofs.Ythnahdoagibckaa.Pl05 Go.Proofs.Ythnahdoagibckaa.Pm05 Go.Proofs.Ythnahdoagibckaa.Pn05 Go.Proofs.Ythnahdoagibckaa.Base Go.Proofs.Ythnahdoagibckaa.App Go.Proofs.Ythnahdoagibckaa.Str Go.Proofs.Ythnahdoagibckaa.Fr05 Go.Proofs.Ythnahdoagibckaa.Fs05 Go.Proofs.Ythnahdoagibckaa.Fn05 Go.Proofs.Ythnahdoagibckaa.Fe05 Go.Proofs.Ythnahdoagibckaa.Rr05
set_option linter.unusedVariables false
set_option linter.unusedSimpArgs false

def bitF (bs : List Bool) (i : Nat) (k : Nat) : Bool := bs.getD (i + k) false
theorem bp_at (bs : List Bool) (j : Nat) : bp (bitF bs (8 * j)) 8 = byteAt bs j := rfl
/-- The first j bytes. -/
def heads (bs : List Bool) (j : Nat) : List Nat := (List.range j).map (byteAt bs)
theorem heads_succ (bs : List Bool) (j : Nat) : heads bs j ++ [byteAt bs j] = heads bs (j + 1) := by simp [heads, List.range_succ]
theorem heads_len (bs : List Bool) (j : Nat) : (heads bs j).length = j := by simp [heads]
def OutAt (w wr : World) (bs : List Bool) (i j : Nat) (v : Value) : Prop := i = 8 * j ∧ wr.ownsRow w.heap.size 5 1 v j (u8s (heads bs j)) ∧ Fr No w wr
theorem out_next {w wr w1 : World} {bs : List Bool} {i j : Nat} {v v1 : Value} {o : Obj} (h : OutAt w wr bs i j v)
    (hown : w1.ownsRow w.heap.size 5 1 v1 (j + 1) (u8s (heads bs j) ++ [.int .u8 (byteAt bs j : Int)])) (hg : (wr.alloc o).grownBy w1 v.ownBlock) : OutAt w w1 bs (i + 8) (j + 1) v1 := by
  obtain ⟨h1, ho, hf⟩ := h
  refine ⟨by omega, ?_, (hf.alloc o).grown hg (fun k hk => .inr (ho.lt k hk).1)⟩
  have e : u8s (heads bs j) ++ [.int .u8 (byteAt bs j : Int)] = u8s (heads bs (j + 1)) := by rw [← heads_succ]; simp [u8s]
  rw [e] at hown
  exact hown
set_option maxHeartbeats 1600000 in
theorem rencode_at (g b : Nat) (bs : List Bool) (w : World) (h : RMap w g b bs) :
    Calls Try.prog 20 #[.pointer (some ⟨g, 0, none⟩)] w (EncPost w bs) := by
  obtain ⟨cap, ha⟩ := h
  have hm := ha.most
  have Ha := Lib.hid ha
  clear ha
  go_enter Try.func20, Try.ntmps20
  go_wp2
  go_loopw [3, 4] (fun o p wr => ∃ (i j : Nat) (ao : Option Addr) (co : Nat), i ≤ bs.length + 7 ∧ o = .slice ao j co ∧ p = .int .i64 i ∧ Hid (OutAt w wr bs i j (.slice ao j co))) (fun _ p _ => bs.length + 7 - (intOf p).toNat)
  case atStart => exact ⟨0, 0, none, 0, by omega, rfl, rfl, Lib.hid ⟨rfl, World.ownsRow_nil _ _ _ _, Fr.refl _ _⟩⟩
  case round =>
    obtain ⟨i, j, ao, co, hi, rfl, rfl, Ho⟩ := hrel
    have hA := Ha.out.fr Ho.out.2.2 (fun x => x) (fun x => x)
    have c0 := hA.c0
    have HA := Lib.hid hA
    clear hA
    by_cases hlt : i < bs.length
    · go_wp2
      go_loop [5, 6] (fun c q => ∃ k : Nat, k ≤ 8 ∧ q = .int .i64 k ∧ c = .int .u8 (bp (bitF bs i) k : Int)) (fun _ q => 8 - (intOf q).toNat)
      case atStart => exact ⟨0, by omega, rfl, rfl⟩
      case round =>
        obtain ⟨k, hk, rfl, rfl⟩ := hrel
        have hbl := bp_lt (bitF bs i) k
        have h2k : 2 ^ k ≤ 256 := by have := Nat.pow_le_pow_right (show 0 < 2 by decide) hk; simpa using this
        by_cases hk8 : k < 8
        · have h2k' : 2 ^ k ≤ 128 := by have := Nat.pow_le_pow_right (show 0 < 2 by decide) (show k ≤ 7 by omega); simpa using this
          have hc : bp (bitF bs i) k < 128 := by omega
          have Hn := Lib.hid (show bp (bitF bs i) (k + 1) = 2 * bp (bitF bs i) k + (bs.getD (i + k) false).toNat from rfl)
          generalize bp (bitF bs i) k = c at *
          clear hbl h2k h2k'
          by_cases hin : i + k < bs.length
          · have cb := HA.out.cb (i + k) hin
            generalize bs.getD (i + k) false = x at *
            cases x with
            | true =>
              go_wp2
              go_round
              case rel => exact ⟨k + 1, by omega, by go_num, by rw [Hn.out]; exact congrArg (Value.int .u8) (by simp)⟩
              case measure => simp [intOf]; omega
            | false =>
              go_wp2
              go_round
              case rel => exact ⟨k + 1, by omega, by go_num, by rw [Hn.out]; exact congrArg (Value.int .u8) (by simp)⟩
              case measure => simp [intOf]; omega
          · have hf : bs.getD (i + k) false = false := by simp [List.getD_eq_getElem?_getD, List.getElem?_eq_none (show bs.length ≤ i + k by omega)]
            rw [hf] at Hn
            have hin2 : decide ((i : Int) + k < bs.length) = false := decide_eq_false (by omega)
            clear hf
            go_wp2
            go_round
            case rel => exact ⟨k + 1, by omega, by go_num, by rw [Hn.out]; exact congrArg (Value.int .u8) (by simp)⟩
            case measure => simp [intOf]; omega
        · obtain rfl : k = 8 := by omega
          have e : bp (bitF bs i) 8 = byteAt bs j := by rw [Ho.out.1]; exact bp_at bs j
          rw [e]
          have hjl : j ≤ 126 := by have := Ho.out.1; omega
          generalize hbt : byteAt bs j = bt at *
          have Hbt := Lib.hid hbt
          clear e hbl hbt h2k
          go_wp2_with (at_builtin; refine app_list w.heap.size rfl (.tmp 44) (.tmp 46) 47 5 (.int .u8 0) 1 1 rfl Try.underlying47 info_u8 rfl (by decide) (by decide) (.slice ao j co) j (u8s (heads bs j)) rfl (Ho.out.2.1.alloc _) (some ⟨wr.heap.size, 0, none⟩) 1 1 [.int .u8 (bt : Int)] rfl rfl (Rc.new wr #[.int .u8 (bt : Int)] _) (by simp [Value.oneCell']) (by omega) (by have := Ho.out.2.2.size; simp; omega) ?_; intro v1 w1 hown hgr hat; obtain ⟨a1, co1, rfl⟩ := own_slice hown; have Hnx := Lib.hid (out_next Ho.out (by rw [Hbt.out]; exact hown) hgr); clear hown hgr hat)
          go_roundw
          case rel => exact ⟨i + 8, j + 1, a1, co1, by omega, rfl, by go_num, Hnx⟩
          case measure => simp [intOf]; omega
    · have hj : j = (bs.length + 7) / 8 := by have := Ho.out.1; omega
      have hcv := own_text (P := Try.prog) (src := 47) (dst := 9) Try.underlying47 Try.underlying5 Try.underlying9 Ho.out.2.1
      have e1 : txt (heads bs j) = encS bs := by rw [hj]; rfl
      rw [e1] at hcv
      clear e1 hj
      go_wp2
      go_ret
      exact ⟨rfl, Ho.out.2.2⟩
end Go.Proofs.Ythnahdoagibckaa.Re05
