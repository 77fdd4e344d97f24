/- Layer 8, the document's: the box of all points. -/
import Derived.Test.YtoaikponefcbiaaBx
import Derived.Test.YtoaikponefcbiaaKi08
import Derived.Test.YtoaikponefcbiaaPm08
namespace Go.Proofs.Ytoaikponefcbiaa.Kw08
open Go.RowKit Go.Proofs.Ytoaikponefcbiaa.Pk08 Go.Proofs.Ytoaikponefcbiaa.Pq08 Go.Proofs.Ytoaikponefcbiaa.Base Go.Proofs.Ytoaikponefcbiaa.App Go.Proofs.Ytoaikponefcbiaa.Str Go.Proofs.Ytoaikponefcbiaa.Ky Go.Proofs.Ytoaikponefcbiaa.Bx Go.Proofs.Ytoaikponefcbiaa.Ki08
set_option linter.unusedVariables false
set_option linter.unusedSimpArgs false
theorem rep_snoc (i x : Nat) : List.replicate i x ++ [x] = List.replicate (i + 1) x := by rw [List.replicate_succ']
set_option maxHeartbeats 1600000 in
theorem rwhole_ok (d : Nat) (h6 : d ≤ 6) (w : World) :
    Calls Try.prog 22 #[.int .i64 (d : Int)] w (OwnTwo 50 w (List.replicate d 0) (List.replicate d 4294967295)) := by
  go_enter Try.func22, Try.ntmps22
  go_wp2
  go_loopw [4] (fun v wr => ∃ (i : Nat) (A : Option Addr) (ca : Nat) (B : Option Addr) (cb : Nat), i ≤ d ∧ v = .int .i64 i ∧ Hid (Two 28 50 w wr w.heap.size (w.heap.size + 1) (w.heap.size + 1 + 1) A i ca (List.replicate i 0) B i cb (List.replicate i 4294967295))) (fun v _ => d - (intOf v).toNat)
  case atStart => exact ⟨0, none, 0, none, 0, Nat.zero_le _, rfl, Lib.hid ⟨by (repeat (first | with_reducible assumption | with_reducible refine Ob.other ?_ (by first | (simp; done) | (simp; omega)) _ | ((with_reducible refine Ob.new_ _ _ _ _ ?_) <;> (simp; done)) | with_reducible refine Ob.alloc ?_ _ | with_reducible refine Ob.drew ?_ | with_reducible refine Ob.drewN ?_ _ | with_reducible refine Ob.no ?_ (by assumption))), by (repeat (first | with_reducible assumption | with_reducible refine Ob.other ?_ (by first | (simp; done) | (simp; omega)) _ | ((with_reducible refine Ob.new_ _ _ _ _ ?_) <;> (simp; done)) | with_reducible refine Ob.alloc ?_ _ | with_reducible refine Ob.drew ?_ | with_reducible refine Ob.drewN ?_ _ | with_reducible refine Ob.no ?_ (by assumption))), World.ownsRow_nil _ _ _ _, World.ownsRow_nil _ _ _ _, fun g h => by simp [Value.ownBlock] at h, by (repeat (first | with_reducible exact Fr.refl _ _ | with_reducible refine Fr.setCell ?_ (.inr (by first | (simp; done) | (simp; omega))) _ | with_reducible refine Fr.alloc ?_ _ | with_reducible refine Fr.drew ?_ | with_reducible refine Fr.drewN ?_ _ | with_reducible refine Fr.tr ?_ (by assumption))), ⟨Nat.le_refl _, by omega, by omega, by simp⟩⟩⟩
  case round =>
    obtain ⟨i, A, ca, B, cb, hi, rfl, Hi⟩ := hrel
    by_cases hlt : i < d
    · obtain ⟨c0, c1, z0, z1⟩ := Ob.four Hi.out.out
      go_wp2_with (first
        | (at_builtin; refine app_list (w.heap.size + 1 + 1) rfl (.tmp 16) (.tmp 17) 23 50 (.int .u32 0) 1 4 rfl Try.underlying23 info_u32 rfl (by decide) (by decide) (.slice A i ca) i (u32s (List.replicate i 0)) rfl (Hi.out.lo.alloc _) (some ⟨wr.heap.size, 0, none⟩) 1 1 [.int .u32 0] rfl rfl (Rc.new wr #[.int .u32 0] _) (by simp [Value.oneCell']) (by omega) (by have := Hi.out.at_; simp; omega) ?_; intro v1 w1 hown hgr hat; obtain ⟨A1, ca1, rfl⟩ := own_slice hown; obtain ⟨hO1, hT1⟩ := Hi.out.app0 _ 0 hown hgr hat; obtain ⟨e0, e1, f0, f1⟩ := Ob.four hO1; have HT := Lib.hid hT1; clear hown hgr hat hT1)
        | (at_builtin; refine app_list (w.heap.size + 1 + 1) rfl (.tmp 21) (.tmp 22) 23 50 (.int .u32 0) 1 4 rfl Try.underlying23 info_u32 rfl (by decide) (by decide) (.slice B i cb) i (u32s (List.replicate i 4294967295)) rfl (HT.out.hi.alloc _) (some ⟨w1.heap.size, 0, none⟩) 1 1 [.int .u32 4294967295] rfl rfl (Rc.new_ _ #[.int .u32 4294967295] _ _ (by simp [World.setCell])) (by simp [Value.oneCell']) (by omega) (by have := HT.out.at_.2.2.2; simp at this ⊢; omega) ?_; intro v2 w2 hown hgr hat; obtain ⟨B1, cb1, rfl⟩ := own_slice hown; obtain ⟨hO2, hT2⟩ := HT.out.app1 _ 4294967295 hown hgr hat; obtain ⟨g0, g1, p0, p1⟩ := Ob.four hO2; rw [rep_snoc, rep_snoc] at hT2; have HT2 := Lib.hid hT2; clear hown hgr hat hT2)
        | fail)
      go_roundw
      case rel => exact ⟨i + 1, A1, ca1, B1, cb1, by omega, by go_num, HT2⟩
      case measure => simp [intOf]; omega
    · obtain rfl : i = d := by omega
      obtain ⟨c0, c1, z0, z1⟩ := Ob.four Hi.out.out
      obtain ⟨q0, q1, q2, q3⟩ := Ob.four Hi.out.res
      have hrf := (Hi.out.res.set 0 (.slice A i ca)).set 1 (.slice B i cb)
      have p0 := hrf.cell 0 (v := .slice A i ca) rfl
      have p1 := hrf.cell 1 (v := .slice B i cb) rfl
      go_wp2
      refine bodyPost_ret (v := .agg #[.slice A i ca, .slice B i cb]) (by simp [results, Try.results22, go_sem, p0, p1]) rfl ?_
      have a := Hi.out.at_
      have hsb : ∀ {m : Nat} {C : Option Addr} {cc : Nat} {xs : List Value}, wr.ownsRow (w.heap.size + 1 + 1) 50 1 (.slice C m cc) m xs → ((wr.setCell ⟨w.heap.size, 0, none⟩ (.slice A i ca)).setCell ⟨w.heap.size, 1, none⟩ (.slice B i cb)).ownsRow w.heap.size 50 1 (.slice C m cc) m xs := fun h =>
        own_base (own_fr h (S := fun k => k = w.heap.size) (((Fr.refl (fun k => k = w.heap.size) wr).setCell (p := ⟨w.heap.size, 0, none⟩) (.inl rfl) _).setCell (p := ⟨w.heap.size, 1, none⟩) (.inl rfl) _) (fun k hk (hb : k = w.heap.size) => by have := (h.lt k hk).1; omega)) (by omega)
      exact ⟨A, i, ca, B, i, cb, rfl, hsb Hi.out.lo, hsb Hi.out.hi, Hi.out.ne, (Hi.out.fr.setCell (p := ⟨w.heap.size, 0, none⟩) (.inr (Nat.le_refl _)) _).setCell (p := ⟨w.heap.size, 1, none⟩) (.inr (Nat.le_refl _)) _⟩
theorem rwhole_bad (d : Int) (h : ¬ (1 ≤ d ∧ d ≤ 6)) (w : World) :
    Calls Try.prog 22 #[.int .i64 d] w fun e w' => e = .returned (.agg #[.slice none 0 0, .slice none 0 0]) ∧ Fr No w w' := by
  have hO : Ob ((w.alloc (.cells #[.slice none 0 0, .slice none 0 0] 28)).alloc (.cells #[.slice none 0 0, .slice none 0 0] 28)) w.heap.size #[.slice none 0 0, .slice none 0 0] 28 := by (repeat (first | with_reducible assumption | with_reducible refine Ob.other ?_ (by first | (simp; done) | (simp; omega)) _ | ((with_reducible refine Ob.new_ _ _ _ _ ?_) <;> (simp; done)) | with_reducible refine Ob.alloc ?_ _ | with_reducible refine Ob.drew ?_ | with_reducible refine Ob.drewN ?_ _ | with_reducible refine Ob.no ?_ (by assumption)))
  have hO2 : Ob ((w.alloc (.cells #[.slice none 0 0, .slice none 0 0] 28)).alloc (.cells #[.slice none 0 0, .slice none 0 0] 28)) (w.heap.size + 1) #[.slice none 0 0, .slice none 0 0] 28 := by (repeat (first | with_reducible assumption | with_reducible refine Ob.other ?_ (by first | (simp; done) | (simp; omega)) _ | ((with_reducible refine Ob.new_ _ _ _ _ ?_) <;> (simp; done)) | with_reducible refine Ob.alloc ?_ _ | with_reducible refine Ob.drew ?_ | with_reducible refine Ob.drewN ?_ _ | with_reducible refine Ob.no ?_ (by assumption)))
  obtain ⟨q0, q1, q2, q3⟩ := Ob.four hO
  obtain ⟨c0, c1, z0, z1⟩ := Ob.four hO2
  have hrf := (hO.set 0 (.slice none 0 0)).set 1 (.slice none 0 0)
  have p0 := hrf.cell 0 (v := .slice none 0 0) rfl
  have p1 := hrf.cell 1 (v := .slice none 0 0) rfl
  go_enter Try.func22, Try.ntmps22
  go_wp2
  go_loop [4] (fun v => v = .int .i64 0) (fun _ => 0)
  case atStart => rfl
  case round =>
    obtain rfl := hrel
    have hg : d ≤ 0 ∨ (0 < d ∧ 6 < d) := by omega
    rcases hg with hg | ⟨hg1, hg2⟩
    all_goals
      go_wp2
      refine bodyPost_ret (v := .agg #[.slice none 0 0, .slice none 0 0]) (by simp [results, Try.results22, go_sem, p0, p1, q0, q1]) rfl ?_
      refine ⟨rfl, ?_⟩
      first
        | ((repeat (first | with_reducible exact Fr.refl _ _ | with_reducible refine Fr.setCell ?_ (.inr (by first | (simp; done) | (simp; omega))) _ | with_reducible refine Fr.alloc ?_ _ | with_reducible refine Fr.drew ?_ | with_reducible refine Fr.drewN ?_ _ | with_reducible refine Fr.tr ?_ (by assumption))); done)
        | exact ((((Fr.refl No w).alloc _).alloc _).setCell (p := ⟨w.heap.size, 0, none⟩) (.inr (Nat.le_refl _)) _).setCell (p := ⟨w.heap.size, 1, none⟩) (.inr (Nat.le_refl _)) _
end Go.Proofs.Ytoaikponefcbiaa.Kw08
