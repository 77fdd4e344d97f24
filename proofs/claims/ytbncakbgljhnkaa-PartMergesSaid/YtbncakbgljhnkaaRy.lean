/- slices.Collect of records, one by one with a point of their own each. -/
import Derived.Test.YtbncakbgljhnkaaRb
import Derived.RangeFuncNested
import Derived.RangeFuncBound
import Derived.RangeFuncCalls
import Derived.RangeFuncLeaves
import Derived.Shelf.Abstract
import Derived.Shelf.RegionOpen
import Derived.WalkKit
import Derived.OwnWalkIn
import Derived.TacticsInMore
import Derived.LoopNIn
import Derived.LoopIn
namespace Go.Proofs.Ytbncakbgljhnkaa.Ry
open Go.RowKit Go.Shelf Go.Proofs.Ytbncakbgljhnkaa.Pk08 Go.Proofs.Ytbncakbgljhnkaa.Base Go.Proofs.Ytbncakbgljhnkaa.App Go.Proofs.Ytbncakbgljhnkaa.Str Go.Proofs.Ytbncakbgljhnkaa.Ky Go.Proofs.Ytbncakbgljhnkaa.Bx Go.Proofs.Ytbncakbgljhnkaa.Bo Go.Proofs.Ytbncakbgljhnkaa.As Go.Proofs.Ytbncakbgljhnkaa.Pl08 Go.Proofs.Ytbncakbgljhnkaa.Cl Go.Proofs.Ytbncakbgljhnkaa.Rv Go.Proofs.Ytbncakbgljhnkaa.Rp Go.Proofs.Ytbncakbgljhnkaa.Ro Go.Proofs.Ytbncakbgljhnkaa.Rk Go.Proofs.Ytbncakbgljhnkaa.Rb
set_option linter.unusedVariables false
set_option linter.unusedSimpArgs false
attribute [local go_sem] Oper.semAt_some
attribute [local go_sem ↓ high] builtin_app
/-- Between two rounds: the box holds a list of the call's own of what has come so far; the loop's record; the block for what the rounds defer. -/
structure ApAt (w0 : World) (R : Loop) (Bs l D : Nat) (rs : List Rv.Rec) (W : World) : Prop where
  box : ∃ A c, Ob W Bs #[.slice A rs.length c] 26 ∧ Ow W w0.heap.size 48 (fun _ => True) A rs.length c rs
  L : W.heap[l]? = some (.loop R)
  K : W.heap[D]? = some (.deferred (some []))
  fr : Fr No w0 W
/-- A block without numbers is written: lists stay. -/
theorem Ow.fr1 {w w1 : World} {base n c g : Nat} {e : TypeId} {P : Nat → Prop} {A : Option Addr} {rs : List Rv.Rec} (h : Ow w base e P A n c rs) (f : Fr (fun k => k = g) w w1) (hA : ¬ (Value.slice A n c).ownBlock = some g) (hno : ∀ off x, w.cell? ⟨g, off, none⟩ ≠ some (.int .u32 x)) : Ow w1 base e P A n c rs := by
  obtain ⟨ps, h1, h2, h3⟩ := h
  refine ⟨ps, h1, own_fr h2 f (fun k hk e => hA (e ▸ hk)), fun p hp => ?_⟩
  have hk := h3 p hp
  refine ((show Pk w (fun b => (P b ∧ Av A b) ∧ ¬ b = g) p from ⟨hk.1, hk.2.1, fun h0 b off e => ⟨hk.2.2 h0 b off e, fun eb => ?_⟩⟩).fr f (fun b hb => hb.2)).mono (fun b hb => hb.1)
  obtain ⟨b', off', h4, h5⟩ := hk.1.get 0 h0
  rw [e] at h4
  injection h4 with h4
  injection h4 with e1 e2
  subst e1; subst e2; subst eb
  exact hno _ _ h5
theorem Ow.own_ne {w : World} {base n c g : Nat} {e : TypeId} {P : Nat → Prop} {A : Option Addr} {rs : List Rv.Rec} (h : Ow w base e P A n c rs) {o : Obj} (hg : w.heap[g]? = some o) (ho : ∀ cur, o ≠ .cells cur e (0, 0)) : ¬ (Value.slice A n c).ownBlock = some g := by
  obtain ⟨ps, h1, h2, h3⟩ := h
  intro hb
  rcases h2.2 with ⟨h4, _⟩ | ⟨g', cap, cur, h4, _, hgb, _⟩
  · injection h4 with h4
    subst h4
    cases hb
  · rw [h4] at hb
    have e' : g' = g := by simpa [Value.ownBlock] using hb
    subst e'
    rw [hg] at hgb
    injection hgb with hgb
    exact ho cur hgb
theorem loop_cell {w : World} {l : Nat} {R : Loop} (h : w.heap[l]? = some (.loop R)) (off : Nat) : w.cell? ⟨l, off, none⟩ = none := by simp [World.cell?, h]
theorem box_cell {w : World} {B : Nat} {A : Option Addr} {n c : Nat} {t : TypeId} (h : Ob w B #[.slice A n c] t) : ∀ off x, w.cell? ⟨B, off, none⟩ ≠ some (.int .u32 x) := by
  intro off x hc
  have h' : w.heap[B]? = some (.cells #[.slice A n c] t (0, 0)) := h
  rcases off with _ | off <;> simp [World.cell?, h'] at hc
theorem put_fr (W : World) (l : Nat) (o : Obj) : Fr (fun k => k = l) W (W.putObj l o) := by
  have h := grown_fr (grownBy_putObj' W l o)
  exact h.mono (fun k (e : some l = some k) => by injection e with e; exact e.symm)
section
variable {w0 W W1 : World} {R R' : Loop} {Bs l D : Nat} {rs : List Rv.Rec}
theorem ApAt.no (h : ApAt w0 R Bs l D rs W) (f : Fr No W W1) : ApAt w0 R Bs l D rs W1 := by
  obtain ⟨A, c, h1, h2⟩ := h.box
  exact ⟨⟨A, c, h1.no f, h2.no f⟩, (f.block l (Array.getElem?_eq_some_iff.1 h.L).1 (fun x => x)).trans h.L, (f.block D (Array.getElem?_eq_some_iff.1 h.K).1 (fun x => x)).trans h.K, h.fr.tr f⟩
/-- The loop's record turned. -/
theorem ApAt.turn (h : ApAt w0 R Bs l D rs W) (hBl : Bs ≠ l) (hDl : D ≠ l) (h0 : w0.heap.size ≤ l) : ApAt w0 R' Bs l D rs (W.putObj l (.loop R')) := by
  obtain ⟨A, c, h1, h2⟩ := h.box
  have f := put_fr W l (.loop R')
  refine ⟨⟨A, c, h1.fr f hBl, Ow.fr1 h2 f (Ow.own_ne h2 h.L (fun cur e => by cases e)) (fun off x => by rw [loop_cell h.L]; exact fun e => by cases e)⟩, World.putObj_heap_same (Array.getElem?_eq_some_iff.1 h.L).1, (World.putObj_heap_other hDl).trans h.K, h.fr.trans f (fun k (e : k = l) => .inr (by omega))⟩
/-- The list grown, the box written. -/
theorem ApAt.grow (h : ApAt w0 R Bs l D rs W) (hBl : Bs ≠ l) (hDB : D ≠ Bs) (h0 : w0.heap.size ≤ Bs) {K : Option Addr} {kc : Nat} {ks : List Nat} {s : ByteArray} (hk : ∀ A c, Ob W Bs #[.slice A rs.length c] 26 → Ow W w0.heap.size 48 (fun _ => True) A rs.length c rs → Pk W (fun b => True ∧ Av A b) (K, kc, (ks, s))) (hn : rs.length ≤ 2000000) :
    ∃ A c A1 c1 w1, Ob W Bs #[.slice A rs.length c] 26 ∧ Ob w1 Bs #[.slice A rs.length c] 26 ∧
      (appSem #[26, 26] 26 #[.slice A rs.length c, .slice (some ⟨W.heap.size, 0, none⟩) 1 1]).run Try.prog (W.alloc (.cells #[.slice K ks.length kc, .string s] 48)) = .ok (.slice A1 (rs.length + 1) c1) w1 ∧
      ApAt w0 R Bs l D (rs ++ [(ks, s)]) (w1.setCell ⟨Bs, 0, none⟩ (.slice A1 (rs.length + 1) c1)) := by
  obtain ⟨A, c, h1, h2⟩ := h.box
  obtain ⟨A1, c1, w1, hrun, hO, hgr, hfr, hat⟩ := push_old h2 h.fr.size (hk A c h1 h2) hn
  have hne : ∀ {g : Nat} {o : Obj}, W.heap[g]? = some o → (∀ cur, o ≠ .cells cur 48 (0, 0)) → w1.heap[g]? = some o := fun {g o} hg ho =>
    (hgr.block g (by have := (Array.getElem?_eq_some_iff.1 hg).1; simp; omega) (fun e => Ow.own_ne h2 hg ho e.symm)).trans ((Below.heap_alloc _ _ g (Array.getElem?_eq_some_iff.1 hg).1).trans hg)
  have hB1 : Ob w1 Bs #[.slice A rs.length c] 26 := hne h1 (fun cur e => by injection e with _ e; exact absurd e (by decide))
  have hB2 : Ob (w1.setCell ⟨Bs, 0, none⟩ (.slice A1 (rs.length + 1) c1)) Bs #[.slice A1 (rs.length + 1) c1] 26 := hB1.set 0 _
  have f : Fr (fun k => k = Bs) w1 (w1.setCell ⟨Bs, 0, none⟩ (.slice A1 (rs.length + 1) c1)) := (Fr.refl (fun k => k = Bs) w1).setCell (p := ⟨Bs, 0, none⟩) (.inl rfl) _
  have hl : (rs ++ [(ks, s)]).length = rs.length + 1 := by simp
  refine ⟨A, c, A1, c1, w1, h1, hB1, hrun, ⟨A1, c1, by rw [hl]; exact hB2, ?_⟩, ?_, ?_, (hfr w0 (Nat.le_refl _) h.fr).setCell (p := ⟨Bs, 0, none⟩) (.inr h0) _⟩
  · rw [hl]
    exact Ow.fr1 hO f (Ow.own_ne hO hB1 (fun cur e => by injection e with _ e; exact absurd e (by decide))) (box_cell hB1)
  · exact (f.block l (Array.getElem?_eq_some_iff.1 (hne h.L (fun cur e => by cases e))).1 (fun e => hBl e.symm)).trans (hne h.L (fun cur e => by cases e))
  · exact (f.block D (Array.getElem?_eq_some_iff.1 (hne h.K (fun cur e => by cases e))).1 (fun e => hDB e)).trans (hne h.K (fun cur e => by cases e))
end
/-- A round is begun, and the record put behind. -/
theorem round_start {w Wb W : World} {R : Loop} {Bs l D : Nat} {pre : List Rv.Rec} {K : Option Addr} {kc : Nat} {ks : List Nat} {s : ByteArray} (hb : ApAt w R Bs l D pre Wb) (hst : R.state = .ready) (hf : Fr No Wb W) (hown : W.ownsRow Wb.heap.size 35 1 (.slice K ks.length kc) ks.length (u32s ks)) (hks : ∀ x ∈ ks, x < 4294967296) (hs : s.size ≤ maxLen) (hBl : Bs ≠ l) (hDl : D ≠ l) (hDB : D ≠ Bs) (h0 : w.heap.size ≤ Bs) (h0l : w.heap.size ≤ l) (hn : pre.length ≤ 2000000) :
    ∃ W2 A c A1 c1 w1, (Instr.beginRound l).run Try.prog (W.alloc (.cells #[.slice K ks.length kc, .string s] 48)) = .ok () W2 ∧ W2.cell? ⟨Bs, 0, none⟩ = some (.slice A pre.length c) ∧ W2.cell? ⟨W.heap.size, 0, none⟩ = some (.slice K ks.length kc) ∧ W2.cell? ⟨W.heap.size, 1, none⟩ = some (.string s) ∧
      (appSem #[26, 26] 26 #[.slice A pre.length c, .slice (some ⟨W2.heap.size, 0, none⟩) 1 1]).run Try.prog (W2.alloc (.cells #[.slice K ks.length kc, .string s] 48)) = .ok (.slice A1 (pre.length + 1) c1) w1 ∧ w1.cell? ⟨Bs, 0, none⟩ = some (.slice A pre.length c) ∧ w1.frozen? ⟨Bs, 0, none⟩ = false ∧
      ApAt w { R with state := .busy } Bs l D (pre ++ [(ks, s)]) (w1.setCell ⟨Bs, 0, none⟩ (.slice A1 (pre.length + 1) c1)) := by
  obtain ⟨A0, c0, hB0, hO0⟩ := hb.box
  have hlb : l < Wb.heap.size := (Array.getElem?_eq_some_iff.1 hb.L).1
  have fa : Fr No W (W.alloc (.cells #[.slice K ks.length kc, .string s] 48)) := (Fr.refl No W).alloc _
  have h2 := (hb.no hf).no fa
  have h3 := h2.turn (R' := { R with state := .busy }) hBl hDl h0l
  have fp := put_fr (W.alloc (.cells #[.slice K ks.length kc, .string s] 48)) l (.loop { R with state := .busy })
  have hW : W.heap.size ≠ l := by have := hf.size; omega
  have hob := (Ob.new W #[.slice K ks.length kc, .string s] 48).fr fp hW
  have hk : Kv ((W.alloc (.cells #[.slice K ks.length kc, .string s] 48)).putObj l (.loop { R with state := .busy })) K ks.length kc ks := ((Kv.of_own hown hks).no fa).fr fp (fun b off e (eb : b = l) => by
    subst e
    have := (hown.lt b rfl).1
    omega)
  have hB2 := ((hB0.no hf).no fa).fr fp hBl
  obtain ⟨A, c, A1, c1, w1, g1, g2, hrun, hAp⟩ := h3.grow hBl hDB h0 (K := K) (kc := kc) (ks := ks) (s := s) (fun A c hA hO => ⟨hk, hs, fun _ b off e => ⟨trivial, fun g o eA => by
    have e1 : K = some ⟨b, off, none⟩ := e
    subst e1
    have hb1 := (hown.lt b rfl).1
    have hA' : Ob _ Bs #[.slice A0 pre.length c0] _ := hB2
    have e2 : some (Value.slice A pre.length c) = some (Value.slice A0 pre.length c0) := (hA.cell 0 rfl).symm.trans (hA'.cell 0 rfl)
    injection e2 with e2
    injection e2 with e2
    rw [eA] at e2
    have := Ow.at_lt hO0 g o e2.symm
    omega⟩⟩) hn
  exact ⟨_, A, c, A1, c1, w1, run_beginRound h2.L hst, g1.cell 0 rfl, hob.cell 0 rfl, hob.cell 1 rfl, hrun, g2.cell 0 rfl, g2.frozen 0, hAp⟩
/-- What a function value gives, one record after the other, each with a point that was just made. -/
def Gives (m g : Nat) (lb : Array Value) (w : World) (rs : List Rv.Rec) : Prop :=
  ∀ (l : Nat) (J : List Rv.Rec → World → Prop) (W1 : World), (∀ s W W', J s W → Fr No W W' → J s W') → (∀ s W, J s W → Fr No w W) →
    (∀ pre ks s K kc Wb W, J pre Wb → Fr No Wb W → W.ownsRow Wb.heap.size 35 1 (.slice K ks.length kc) ks.length (u32s ks) → (∀ x ∈ ks, x < 4294967296) → s.size ≤ maxLen → pre.length < rs.length →
      YieldAt Fence.wide (m - 1) Try.prog l #[.agg #[.slice K ks.length kc, .string s]] W fun e W' => e = .returned (.bool true) ∧ J (pre ++ [(ks, s)]) W') →
    J [] W1 → CallsIn Fence.wide m Try.prog g (#[.func (.yield l) #[] #[]] ++ lb) W1 fun e W' => (∃ v, e = .returned v) ∧ J rs W'
theorem range_recs {n : Nat} {ps : Array Tmp} {assign body : Code} {a : Act} {Q : Exit → Act → World → Prop} {w W0 : World} {g Bs : Nat} {lb : Array Value} {rs : List Rv.Rec} {gop : Operand} (hg : a.eval gop = .func (.func g) #[] lb) (eg : ∀ args w, (callFunc g args).run Try.prog w = .ok (.enter g args) w)
    (hseq : Gives (n - 1) g lb w rs) (hbox : Ob W0 Bs #[.slice none 0 0] 26) (hF : Fr No w W0) (hBs : w.heap.size ≤ Bs)
    (hyield : ∀ fn l D, l = W0.heap.size + 1 → D = W0.heap.size → ∀ pre ks s K kc Wb W, ApAt w { state := .ready, pending := none, fn := fn, tmps := a.tmps, params := ps, assign := assign, body := body, defers := D } Bs l D pre Wb → Fr No Wb W → W.ownsRow Wb.heap.size 35 1 (.slice K ks.length kc) ks.length (u32s ks) → (∀ x ∈ ks, x < 4294967296) → s.size ≤ maxLen → pre.length < rs.length →
      YieldAt Fence.wide (n - 1 - 1) Try.prog l #[.agg #[.slice K ks.length kc, .string s]] W fun e W' => e = .returned (.bool true) ∧ ApAt w { state := .ready, pending := none, fn := fn, tmps := a.tmps, params := ps, assign := assign, body := body, defers := D } Bs l D (pre ++ [(ks, s)]) W')
    (hend : ∀ R l D W, l = W0.heap.size + 1 → D = W0.heap.size → ApAt w R Bs l D rs W → Q .normal { a with defers := { target := .collected D, args := #[] } :: a.defers } W) :
    (Code.rangeFunc gop ps assign body).wpIn Fence.wide n Try.prog Q a W0 := by
  refine wpIn_rangeFunc ?_
  intro fn hfn
  rw [show Fence.wide.round = none from rfl]
  have hB0 := hbox.lt
  obtain ⟨W1, hW1⟩ : ∃ W1, (W0.alloc (.deferred (some []))).alloc (.loop { state := .ready, pending := none, fn := fn, tmps := a.tmps, params := ps, assign := assign, body := body, defers := W0.heap.size }) = W1 := ⟨_, rfl⟩
  refine ⟨W0.heap.size + 1, [{ target := .collected W0.heap.size, args := #[] }], W1, { target := .fn (.func g) lb, args := #[.func (.yield (W0.heap.size + 1)) #[] #[]] }, W1, g,
    #[.func (.yield (W0.heap.size + 1)) #[] #[]] ++ lb, W1, ?_, ?_, ?_, ?_, fun h => (by cases h), ?_⟩
  · rw [← hW1]; exact run_enterLoop_outer _ _ _ _ _
  · simp only [resolve, hg]
    simp [go_sem]
  · intro f' hf'; trivial
  · simp [invoke, go_sem, eg]
  · have hB0' := hB0
    have f1 : Fr No W0 W1 := by rw [← hW1]; exact ((Fr.refl No W0).alloc _).alloc _
    have hM : ApAt w { state := .ready, pending := none, fn := fn, tmps := a.tmps, params := ps, assign := assign, body := body, defers := W0.heap.size } Bs (W0.heap.size + 1) W0.heap.size [] W1 :=
      ⟨⟨none, 0, hbox.no f1, Ow.nil_ _ _ _ _⟩, by rw [← hW1]; have := World.alloc_heap_new (W0.alloc (.deferred (some []))) (.loop { state := .ready, pending := none, fn := fn, tmps := a.tmps, params := ps, assign := assign, body := body, defers := W0.heap.size }); rwa [World.size_alloc] at this,
       by rw [← hW1]; exact (Below.heap_alloc _ _ _ (by simp)).trans (World.alloc_heap_new W0 _), hF.tr f1⟩
    refine (hseq (W0.heap.size + 1) (ApAt w { state := .ready, pending := none, fn := fn, tmps := a.tmps, params := ps, assign := assign, body := body, defers := W0.heap.size } Bs (W0.heap.size + 1) W0.heap.size) W1 (fun s W W' h f => h.no f) (fun s W h => h.fr) (hyield fn _ _ rfl rfl) hM).mono ?_
    rintro e W2 ⟨⟨v0, rfl⟩, h2⟩
    refine ⟨none, _, run_endLoop h2.L (by simp), ?_⟩
    exact hend _ _ _ _ rfl rfl (h2.turn (by omega) (by omega) (by have := hF.size; omega))
set_option maxRecDepth 100000 in
set_option maxHeartbeats 2000000 in
theorem appendSeq_in (n : Nat) (g : Nat) (lb : Array Value) (eg : ∀ args w, (callFunc g args).run Try.prog w = .ok (.enter g args) w) (w : World) (rs : List Rv.Rec) (hlen : rs.length ≤ 1000000) (hseq : Gives (n - 1) g lb w rs) :
    CallsIn Fence.wide n Try.prog 55 #[.slice none 0 0, .func (.func g) #[] lb] w (RecsRet w rs) := by
  refine callsIn_of_wp_marks Try.func55 rfl trivial ?_ rfl
  simp only [Try.ntmps55, List.size_toArray, List.length_cons, List.length_nil, Nat.reduceAdd, Nat.reduceSub, Array.replicate_succ, Array.replicate_zero, List.push_toArray, List.append_toArray, List.nil_append, List.cons_append]
  gi_wp2
  refine range_recs (w := w) (Bs := w.heap.size) (rs := rs) rfl eg hseq (Ob.new w _ _) ((Fr.refl No w).alloc _) (Nat.le_refl _) ?yield ?fin
  case yield =>
    intro fn l D hl hD pre ks s K kc Wb W hb hf hown hks hs hpre
    have hA := hb.no hf
    have hl' : l = w.heap.size + 1 + 1 := by simpa using hl
    have hD' : D = w.heap.size + 1 := by simpa using hD
    refine ⟨fn, _, _, _, run_yield hA.L rfl, roundIn_of_wpIn trivial ?_⟩
    simp only [Array.zip_eq_zipWith, List.zipWith_toArray]
    obtain ⟨W2, A, c, A1, c1, w1, hbeg, x0, x1, x2, hrun, x3, x4, hAp⟩ := round_start hb rfl hf hown hks hs (by omega) (by omega) (by omega) (Nat.le_refl _) (by omega) (by omega)
    have HA := Lib.hid hAp
    have Hl := Lib.hid hl'
    have HD := Lib.hid hD'
    subst hl'
    clear hb hA hAp hown hf hl hD hD'
    gi_wp2
    exact ⟨_, _, run_endRound none HA.out.L, rfl, HA.out.turn (by omega) (by have := HD.out; omega) (by omega)⟩
  case fin =>
    intro R l D W hl hD hA
    obtain ⟨A, c, h1, h2⟩ := hA.box
    have hl' : l = w.heap.size + 1 + 1 := by simpa using hl
    have hD' : D = w.heap.size + 1 := by simpa using hD
    obtain ⟨c0, c1⟩ : W.cell? ⟨w.heap.size, 0, none⟩ = some (.slice A rs.length c) ∧ True := ⟨h1.cell 0 rfl, trivial⟩
    have hK := hA.K
    gi_wp2
    refine ⟨by simp, .inl ⟨_, _, rfl, run_takeDeferred hK, ?_⟩⟩
    have f := put_fr W D (.deferred none)
    refine ⟨_, results_tmp rfl _ _ _, A, rs.length, c, rfl, Ow.fr1 h2 f (Ow.own_ne h2 hK (fun cur e => by cases e)) (fun off x => by simp [World.cell?, hK]), hA.fr.trans f (fun k (e : k = D) => .inr (by omega))⟩
set_option maxHeartbeats 1000000 in
theorem collect_in (n : Nat) (g : Nat) (lb : Array Value) (eg : ∀ args w, (callFunc g args).run Try.prog w = .ok (.enter g args) w) (w : World) (rs : List Rv.Rec) (hlen : rs.length ≤ 1000000) (hseq : Gives n g lb w rs) :
    Calls Try.prog 45 #[.func (.func g) #[] lb] w (RecsRet w rs) := by
  have hA := (callsIn_wide (n := n + 1)).1 (appendSeq_in (n + 1) g lb eg w rs hlen hseq)
  go_enter Try.func45, Try.ntmps45
  go_wp2_with (go_at_call 55; ((with_reducible refine hA.mono ?_); rintro e w5 ⟨A5, n5, c5, rfl, ho5, hf5⟩))
  go_ret
  exact ⟨A5, n5, c5, rfl, ho5, hf5⟩
/-- A list that is held in a box of a call that goes on: its records come, one after the other. -/
theorem merge1_gives {w : World} {A : Option Addr} {n c Bx : Nat} {rs : List Rv.Rec} (hr : Rv w A n c rs) (hx : w.cell? ⟨Bx, 0, none⟩ = some (.slice A n c)) (hs : Short rs) :
    Gives 3 46 #[.pointer (some ⟨Bx, 0, none⟩)] w rs := by
  intro l J W1 hJ hJw hY h0
  have hn := hr.len_le
  have Hr := Lib.hid hr
  have Hx := Lib.hid hx
  have Hs := Lib.hid hs
  have Hl := Lib.hid hr.len
  have HJ := Lib.hid hJ
  have HJw := Lib.hid hJw
  have HY := Lib.hid hY
  have x0 := cel_no hx (hJw _ _ h0)
  have H0 := Lib.hid h0
  clear hr hx hs hJ hJw hY h0
  refine callsIn_of_wp Try.func46 rfl trivial ?_ rfl
  simp only [Try.ntmps46, List.size_toArray, List.length_cons, List.length_nil, Nat.reduceAdd, Nat.reduceSub, Array.replicate_succ, Array.replicate_zero, List.push_toArray, List.append_toArray, List.nil_append, List.cons_append]
  gi_wp2
  gi_loopw [7] (fun x wr => ∃ j : Nat, x = .int .i64 j ∧ Hid (j ≤ n ∧ J (rs.take j) wr)) (fun x _ => n - (intOf x).toNat)
  case atStart => exact ⟨0, rfl, Lib.hid ⟨Nat.zero_le _, H0.out⟩⟩
  case round =>
    obtain ⟨j, rfl, Hj⟩ := hrel
    by_cases hlt : j < n
    · obtain ⟨b, off, KA, kc, rfl, c0w, c1w, hkw, hz⟩ := Hr.out.get j (by rw [← Hl.out]; exact hlt)
      have HFj := Lib.hid (HJw.out _ _ Hj.out.2)
      have hkn := Hs.out.get j (by rw [← Hl.out]; exact hlt)
      have Htk := Lib.hid (take_succ rs j (by rw [← Hl.out]; exact hlt))
      have Hlt := Lib.hid hlt
      have Hpl := Lib.hid (show (rs.take j).length < rs.length by rw [List.length_take, ← Hl.out]; omega)
      have c0 := cel_no c0w HFj.out
      have c1 := cel_no c1w HFj.out
      have Hk := Lib.hid (hkw.no HFj.out)
      clear hkw
      generalize rs.take j = pre at *
      generalize hrr : rs.getD j rec0 = r at *
      clear hrr
      obtain ⟨ks, s⟩ := r
      simp only at *
      have hfol : (Try.prog).follows .mixedOrders = true := by kernel_rfl
      have hob := Ob.new wr #[.slice KA ks.length kc, .string s] 48
      obtain ⟨d0, d1⟩ := cells2 hob
      gi_wp2
      gi_region_with_o (first
        | (refine ⟨trivial, ?_⟩; gi_at_call 31; refine (callsIn_wide.2 (clone_any (ks := ks) ((Hk.out.alloc _).drew) hkn)).mono ?_; rintro e w5 ⟨K1, kc1, rfl, hown5, hf5⟩; (have e0 := cel_no (cel_drew d0) hf5); (have e1 := cel_no (cel_drew d1) hf5); (obtain ⟨fn, tmps, assign, body, hy, hR⟩ := HY.out pre ks s K1 kc1 _ w5 (HJ.out _ _ _ Hj.out.2 (((Fr.refl No wr).alloc _).drew)) hf5 hown5 Hk.out.lt hz Hpl.out))
        | (refine hR.mono ?_; rintro e W3 ⟨rfl, hJ3⟩)
        | fail)
      all_goals
        gi_wp2
        go_roundw
        case rel => exact ⟨j + 1, by go_num, Lib.hid ⟨Hlt.out, by rw [Htk.out]; exact hJ3⟩⟩
        case measure => have := Hlt.out; simp [intOf]; omega
    · obtain rfl : j = n := by have := Hj.out.1; omega
      have e : rs.take j = rs := List.take_of_length_le (by rw [Hl.out]; exact Nat.le_refl _)
      gi_wp2
      go_end0
      exact ⟨⟨_, rfl⟩, by rw [← e]; exact Hj.out.2⟩
end Go.Proofs.Ytbncakbgljhnkaa.Ry
