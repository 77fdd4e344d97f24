/- The law FreeDecodes: the map and the document read the same text alike. -/
import Derived.Test.YthnahdoagibckaaLn05
namespace Go.Proofs.Ythnahdoagibckaa.Ld05
open Go.RowKit Go.Proofs.Ythnahdoagibckaa.Pl05 Go.Proofs.Ythnahdoagibckaa.Pm05 Go.Proofs.Ythnahdoagibckaa.Pn05 Go.Proofs.Ythnahdoagibckaa.Base Go.Proofs.Ythnahdoagibckaa.App Go.Proofs.Ythnahdoagibckaa.Str Go.Proofs.Ythnahdoagibckaa.Ty Go.Proofs.Ythnahdoagibckaa.Fr05 Go.Proofs.Ythnahdoagibckaa.Fs05 Go.Proofs.Ythnahdoagibckaa.Fn05 Go.Proofs.Ythnahdoagibckaa.Cl05 Go.Proofs.Ythnahdoagibckaa.Fe05 Go.Proofs.Ythnahdoagibckaa.Fd05 Go.Proofs.Ythnahdoagibckaa.Li05
set_option linter.unusedVariables false
set_option linter.unusedSimpArgs false

def Yes (p : Int) (s : ByteArray) : Prop := 1 ≤ p ∧ p ≤ 1000 ∧ encS (bitsOf p.toNat s) = s
def code (p : Int) : Int := if 1 ≤ p ∧ p ≤ 1000 then 6 else 1
theorem dec_yes (p : Int) (s : ByteArray) (w : World) (hs : s.size ≤ 140737488351232) (h : Yes p s) :
    Calls Try.prog 9 #[.int .i64 p, .string s] w fun e w' => ∃ g b, e = .returned (.tuple #[.pointer (some ⟨g, 0, none⟩), .int .i64 0]) ∧ Map w' g b (bitsOf p.toNat s) ∧ w.heap.size ≤ g ∧ w.heap.size ≤ b ∧ Fr No w w' :=
  (decode_any p s w hs).mono fun e w' x => by
    rcases x with ⟨_, _, _, x⟩ | ⟨hn, _⟩ | ⟨_, _, hn, _⟩
    · exact x
    · exact absurd ⟨h.1, h.2.1⟩ hn
    · exact absurd h.2.2 hn
theorem dec_no (p : Int) (s : ByteArray) (w : World) (hs : s.size ≤ 140737488351232) (h : ¬ Yes p s) :
    Calls Try.prog 9 #[.int .i64 p, .string s] w fun e w' => e = .returned (.tuple #[.pointer none, .int .i64 (code p)]) ∧ Fr No w w' :=
  (decode_any p s w hs).mono fun e w' x => by
    rcases x with ⟨h1, h2, h3, x⟩ | ⟨hn, x⟩ | ⟨h1, h2, hn, x⟩
    · exact absurd ⟨h1, h2, h3⟩ h
    · unfold code; rw [if_neg hn]; exact x
    · unfold code; rw [if_pos ⟨h1, h2⟩]; exact x
theorem rdec_yes (p : Int) (s : ByteArray) (w : World) (hs : s.size ≤ 140737488351232) (h : Yes p s) :
    Calls Try.prog 10 #[.int .i64 p, .string s] w fun e w' => ∃ g b, e = .returned (.tuple #[.pointer (some ⟨g, 0, none⟩), .int .i64 0]) ∧ Rr05.RMap w' g b (bitsOf p.toNat s) ∧ w.heap.size ≤ g ∧ w.heap.size ≤ b ∧ Fr No w w' :=
  (Rd05.rdecode_any p s w hs).mono fun e w' x => by
    rcases x with ⟨_, _, _, x⟩ | ⟨hn, _⟩ | ⟨_, _, hn, _⟩
    · exact x
    · exact absurd ⟨h.1, h.2.1⟩ hn
    · exact absurd h.2.2 hn
theorem rdec_no (p : Int) (s : ByteArray) (w : World) (hs : s.size ≤ 140737488351232) (h : ¬ Yes p s) :
    Calls Try.prog 10 #[.int .i64 p, .string s] w fun e w' => e = .returned (.tuple #[.pointer none, .int .i64 (code p)]) ∧ Fr No w w' :=
  (Rd05.rdecode_any p s w hs).mono fun e w' x => by
    rcases x with ⟨h1, h2, h3, x⟩ | ⟨hn, x⟩ | ⟨h1, h2, hn, x⟩
    · exact absurd ⟨h1, h2, h3⟩ h
    · unfold code; rw [if_neg hn]; exact x
    · unfold code; rw [if_pos ⟨h1, h2⟩]; exact x
set_option maxHeartbeats 1600000 in
theorem law (w : World) (p : Int) (hp : (Lit.int .i64 p).wf = true) (s : ByteArray) (hs : s.size ≤ maxLen) :
    Calls Try.prog 3 #[.int .i64 p, .string s] w fun e w' => e = .returned (.bool true) ∧ Fr No w w' := by
  by_cases hg : 200 < s.size
  · go_enter Try.func3, Try.ntmps3
    go_wp2_with (go_at_call 8; ((with_reducible refine (live _).mono ?_); rintro e w1 ⟨rfl, hf1⟩))
    go_ret
    exact ⟨rfl, hf1⟩
  · have hz : s.size ≤ 140737488351232 := by omega
    by_cases hy : Yes p s
    · have he : encS (bitsOf p.toNat s) = s := hy.2.2
      have He := Lib.hid he
      clear he
      go_enter Try.func3, Try.ntmps3
      go_wp2_with (go_at_call 9; ((with_reducible refine (dec_yes _ _ _ hz hy).mono ?_); rintro e w1 ⟨g, b, rfl, hm1, hg1, hb1, hf1⟩))
      go_wp2_with (go_at_call 10; ((with_reducible refine (rdec_yes _ _ _ hz hy).mono ?_); rintro e w2 ⟨g2, b2, rfl, hr2, hg2, hb2, hf2⟩; have hm2 := hm1.fr hf2 (fun x => x) (fun x => x); replace hf2 := hf1.tr hf2; clear hm1 hf1))
      go_wp2_with (go_at_call 11; ((with_reducible refine (encode_at _ _ _ _ hm2).mono ?_); rintro e w3 ⟨rfl, hf3⟩; rw [He.out]; have hm3 := hm2.fr hf3 (fun x => x) (fun x => x); have hr3 := hr2.fr hf3 (fun x => x) (fun x => x); replace hf3 := hf2.tr hf3; clear hm2 hr2 hf2))
      go_wp2_with (first
        | (go_at_call 12; ((with_reducible refine (left_at _ _ _ _ hm3).mono ?_); rintro e w4 ⟨rfl, rfl⟩))
        | (go_at_call 13; ((with_reducible refine (Rr05.left_at _ _ _ _ hr3).mono ?_); rintro e w4 ⟨rfl, rfl⟩))
        | (go_at_call 8; ((with_reducible refine (live _).mono ?_); rintro e w5 ⟨rfl, hf5⟩)))
      go_ret
      exact ⟨rfl, hf3.tr hf5⟩
    · generalize hc : code p = c
      have Hc := Lib.hid hc
      clear hc
      go_enter Try.func3, Try.ntmps3
      go_wp2_with (go_at_call 9; ((with_reducible refine (dec_no _ _ _ hz hy).mono ?_); rintro e w1 ⟨rfl, hf1⟩; rw [Hc.out]))
      go_wp2_with (go_at_call 10; ((with_reducible refine (rdec_no _ _ _ hz hy).mono ?_); rintro e w2 ⟨rfl, hf2⟩; rw [Hc.out]; replace hf2 := hf1.tr hf2; clear hf1))
      go_wp2_with (go_at_call 8; ((with_reducible refine (live _).mono ?_); rintro e w5 ⟨rfl, hf5⟩))
      go_ret
      exact ⟨rfl, hf2.tr hf5⟩
end Go.Proofs.Ythnahdoagibckaa.Ld05
