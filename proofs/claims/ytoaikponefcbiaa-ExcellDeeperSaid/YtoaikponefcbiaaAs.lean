/- append, run out of an equation that is laid ahead of the walk. No program in sight. -/
import Derived.Test.YtoaikponefcbiaaBx
import Derived.BigFrame
namespace Go.Proofs.Ytoaikponefcbiaa.As
open Go.RowKit Go.Proofs.Ytoaikponefcbiaa.Base Go.Proofs.Ytoaikponefcbiaa.App Go.Proofs.Ytoaikponefcbiaa.Ky
set_option linter.unusedVariables false
/-- append, under a name that the walk does not open. -/
def appSem (ats : Array TypeId) (ty : TypeId) (args : Array Value) : Sem Value := Builtin.append_ ats ty args
theorem builtin_app {ats : Array TypeId} {ty : TypeId} {cs : Array Bool} {args : Array Value} : builtin .append ats ty cs args = (do pure (.value (← appSem ats ty args))) := rfl
/-- What an append to a row of the call's own comes to. -/
theorem app_eq {P : Program} {w : World} (base : Nat) (t e : TypeId) (z : Value) (size bytes : Nat) (ht : P.underlying t = .some (.slice e))
    (hinfo : (P.info? e).map (fun i => (i.zero, i.size, i.bytes)) = .some (.some z, size, bytes)) (hz : z.cells.size = size) (hsz : 0 < size) (hb0 : 0 < bytes)
    {A0 : Option Addr} {n c0 : Nat} {xs : List Value} (HO : w.ownsRow base e size (.slice A0 n c0) n xs) (A : Option Addr) (m c : Nat) (news : List Value) (hl : news.length = m * size) (hr : Rc w A news)
    (h1 : ∀ u ∈ news, u.oneCell' = true) (hb : (n + m) * bytes ≤ 140737488355328) (hbase : base ≤ w.heap.size) :
    ∃ A1 c1 w1, (appSem #[t, t] t #[.slice A0 n c0, .slice A m c]).run P w = .ok (.slice A1 (n + m) c1) w1 ∧ w1.ownsRow base e size (.slice A1 (n + m) c1) (n + m) (xs ++ news) ∧ w.grownBy w1 (Value.slice A0 n c0).ownBlock ∧ ((Value.slice A1 (n + m) c1).ownBlock = (Value.slice A0 n c0).ownBlock ∨ (Value.slice A1 (n + m) c1).ownBlock = .some w.heap.size) := by
  obtain ⟨v1, w1, hrun, h2, h3, h5⟩ := app_run (P := P) base t t e z size bytes ht hinfo hz hsz hb0 (.slice A0 n c0) n xs HO A m c news hl hr h1 hb hbase
  obtain ⟨A1, c1, rfl⟩ := own_slice h2
  exact ⟨A1, c1, w1, hrun, h2, h3, h5⟩
end Go.Proofs.Ytoaikponefcbiaa.As
