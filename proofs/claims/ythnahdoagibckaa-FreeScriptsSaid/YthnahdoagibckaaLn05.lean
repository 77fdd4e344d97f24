/- The law FreeNil: a map that is none has no page. -/
import Derived.Test.YthnahdoagibckaaLi05
import Derived.Test.YthnahdoagibckaaTy
namespace Go.Proofs.Ythnahdoagibckaa.Ln05
open Go.RowKit Go.Proofs.Ythnahdoagibckaa.Pl05 Go.Proofs.Ythnahdoagibckaa.Pm05 Go.Proofs.Ythnahdoagibckaa.Pn05 Go.Proofs.Ythnahdoagibckaa.Base Go.Proofs.Ythnahdoagibckaa.App Go.Proofs.Ythnahdoagibckaa.Str Go.Proofs.Ythnahdoagibckaa.Ty Go.Proofs.Ythnahdoagibckaa.Fr05 Go.Proofs.Ythnahdoagibckaa.Fs05 Go.Proofs.Ythnahdoagibckaa.Fn05 Go.Proofs.Ythnahdoagibckaa.Cl05 Go.Proofs.Ythnahdoagibckaa.Fe05 Go.Proofs.Ythnahdoagibckaa.Fd05 Go.Proofs.Ythnahdoagibckaa.Li05
set_option linter.unusedVariables false
set_option linter.unusedSimpArgs false
/-- An Op's two cells. -/
theorem rd_op {w : World} {x : (Ty.cn (.int .i64) (.cn (.int .i64) .nl)).D} {cs : List Value} (h : Rd (.cn (.int .i64) (.cn (.int .i64) .nl)) w x cs) : ∃ d n : Int, cs = [.int .i64 d, .int .i64 n] ∧ (Lit.int .i64 d).wf = true ∧ (Lit.int .i64 n).wf = true := by
  obtain ⟨c1, c2, rfl, ⟨h1, h1w⟩, c3, c4, rfl, ⟨h2, h2w⟩, h3⟩ := h
  have h3' : c4 = [] := h3
  subst h1; subst h2; subst h3'
  exact ⟨x.1, x.2.1, rfl, h1w, h2w⟩
set_option maxHeartbeats 1600000 in
theorem law (w : World) (cs : Array Value) (x : (Ty.cn (.int .i64) (.cn (.int .i64) .nl)).D) (h : Rd (.cn (.int .i64) (.cn (.int .i64) .nl)) w x cs.toList) :
    Calls Try.prog 7 #[.agg cs] w fun e w' => e = .returned (.bool true) ∧ Fr No w w' := by
  obtain ⟨d, n, hc, _, _⟩ := rd_op h
  have hc' : cs = #[.int .i64 d, .int .i64 n] := by
    rw [← Array.toArray_toList (xs := cs), hc]
  subst hc'
  clear hc h
  have hemp : ByteArray.empty.toList = [] := ByteArray.toList_mk []
  go_enter Try.func7, Try.ntmps7
  go_wp2_with (first
    | (go_at_call 14; ((with_reducible refine (new_bad 0 0 _ (by decide)).mono ?_); rintro e w1 ⟨rfl, rfl⟩))
    | (go_at_call 15; ((with_reducible refine (take_nil _).mono ?_); rintro e w1 ⟨rfl, rfl⟩))
    | (go_at_call 18; ((with_reducible refine (mark_nil _ _).mono ?_); rintro e w1 ⟨rfl, rfl⟩))
    | (go_at_call 17; ((with_reducible refine (give_nil _ _).mono ?_); rintro e w1 ⟨rfl, rfl⟩))
    | (go_at_call 16; ((with_reducible refine (is_nil _ _).mono ?_); rintro e w1 ⟨rfl, rfl⟩))
    | (go_at_call 12; ((with_reducible refine (left_nil _).mono ?_); rintro e w1 ⟨rfl, rfl⟩))
    | (go_at_call 11; ((with_reducible refine (encode_nil _).mono ?_); rintro e w1 ⟨rfl, rfl⟩))
    | (go_at_call 21; ((with_reducible refine (copy_nil _).mono ?_); rintro e w1 ⟨rfl, rfl⟩))
    | (go_at_call 8; ((with_reducible refine (live _).mono ?_); rintro e w1 ⟨rfl, hf1⟩)))
  go_ret
  exact ⟨rfl, ((Fr.refl No w).alloc _).tr hf1⟩
end Go.Proofs.Ythnahdoagibckaa.Ln05
