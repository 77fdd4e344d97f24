/- Layer 9: two atlases at once; records that are put in any order. -/
import Derived.Test.YteckbcfigklkpaaAj09
namespace Go.Proofs.Yteckbcfigklkpaa.Ak09
open Go.RowKit Go.Proofs.Yteckbcfigklkpaa.Pk08 Go.Proofs.Yteckbcfigklkpaa.Base Go.Proofs.Yteckbcfigklkpaa.App Go.Proofs.Yteckbcfigklkpaa.Ty Go.Proofs.Yteckbcfigklkpaa.Str Go.Proofs.Yteckbcfigklkpaa.Ky Go.Proofs.Yteckbcfigklkpaa.Bx Go.Proofs.Yteckbcfigklkpaa.Bo Go.Proofs.Yteckbcfigklkpaa.As Go.Proofs.Yteckbcfigklkpaa.Pl08 Go.Proofs.Yteckbcfigklkpaa.Rv Go.Proofs.Yteckbcfigklkpaa.Ra Go.Proofs.Yteckbcfigklkpaa.Rp Go.Proofs.Yteckbcfigklkpaa.Ro Go.Proofs.Yteckbcfigklkpaa.Rk Go.Proofs.Yteckbcfigklkpaa.Ab09 Go.Proofs.Yteckbcfigklkpaa.Ac09 Go.Proofs.Yteckbcfigklkpaa.Ad09 Go.Proofs.Yteckbcfigklkpaa.Af09 Go.Proofs.Yteckbcfigklkpaa.Ag09 Go.Proofs.Yteckbcfigklkpaa.Ah09 Go.Proofs.Yteckbcfigklkpaa.Ai09 Go.Proofs.Yteckbcfigklkpaa.Aj09
set_option linter.unusedVariables false
set_option linter.unusedSimpArgs false
/-! ### records put one by one -/
section
variable {l acc : List Rv.Rec} {d : Int}
theorem putL_strict {r : Rv.Rec} (h : Strict acc) : Strict (putL acc r d) := by
  unfold putL; split
  · exact put_strict h
  · exact h
def PL (acc l : List Rv.Rec) (d : Int) : List Rv.Rec := l.foldl (fun a r => putL a r d) acc
theorem PL_mem : ∀ (l acc : List Rv.Rec), Strict acc → (∀ y ∈ acc, ∀ r ∈ l, y.1 ≠ r.1) → l.Pairwise (fun a b => a.1 ≠ b.1) → Strict (PL acc l d) ∧ ∀ x, x ∈ PL acc l d ↔ x ∈ acc ∨ (x ∈ l ∧ recC x.1.length x.2 d = 0) := by
  intro l
  induction l with
  | nil => intro acc h1 h2 h3; exact ⟨h1, fun x => by simp [PL]⟩
  | cons r l ih =>
    intro acc h1 h2 h3
    have h3' := List.pairwise_cons.1 h3
    have hm : ∀ x, x ∈ putL acc r d ↔ x ∈ acc ∨ (x = r ∧ recC x.1.length x.2 d = 0) := by
      intro x
      unfold putL
      split
      · rename_i hc
        rw [mem_put h1]
        constructor
        · rintro (h | h)
          · subst h; exact .inr ⟨rfl, hc⟩
          · exact .inl h.1
        · rintro (h | h)
          · exact .inr ⟨h, h2 x h r List.mem_cons_self⟩
          · exact .inl h.1
      · rename_i hc
        constructor
        · exact .inl
        · rintro (h | ⟨rfl, h⟩)
          · exact h
          · exact absurd h hc
    obtain ⟨i1, i2⟩ := ih (putL acc r d) (putL_strict h1) (fun y hy q hq => by
      rcases (hm y).1 hy with h | ⟨rfl, _⟩
      · exact h2 y h q (List.mem_cons_of_mem _ hq)
      · exact h3'.1 q hq) h3'.2
    refine ⟨i1, fun x => ?_⟩
    refine (i2 x).trans ?_
    rw [hm, List.mem_cons]
    constructor
    · rintro ((h | h) | h)
      · exact .inl h
      · exact .inr ⟨.inl h.1, h.2⟩
      · exact .inr ⟨.inr h.1, h.2⟩
    · rintro (h | ⟨h | h, h'⟩)
      · exact .inl (.inl h)
      · exact .inl (.inr ⟨h, h'⟩)
      · exact .inr ⟨h, h'⟩
theorem PL_rev (h : l.Pairwise (fun a b => a.1 ≠ b.1)) : PL [] l.reverse d = PL [] l d := by
  have h' : l.reverse.Pairwise (fun a b => a.1 ≠ b.1) := List.pairwise_reverse.2 (h.imp (fun e e' => e e'.symm))
  obtain ⟨a1, a2⟩ := PL_mem (d := d) l [] List.Pairwise.nil (fun y hy => by simp at hy) h
  obtain ⟨b1, b2⟩ := PL_mem (d := d) l.reverse [] List.Pairwise.nil (fun y hy => by simp at hy) h'
  exact strict_ext b1 a1 (fun x => by rw [a2, b2, List.mem_reverse])
theorem PL_succ {i : Nat} (hi : i < l.length) : PL [] (l.take (i + 1)) d = putL (PL [] (l.take i) d) (l.getD i rec0) d := by
  have e : l.take (i + 1) = l.take i ++ [l.getD i rec0] := by
    rw [List.take_add_one]; simp [List.getD_eq_getElem?_getD, hi]
  rw [e, PL, List.foldl_append]; rfl
theorem rev_getD {i : Nat} (hi : i < l.length) : l.reverse.getD i rec0 = l.getD (l.length - 1 - i) rec0 := by
  have h2 : l.length - 1 - i < l.length := by omega
  simp [List.getD_eq_getElem?_getD, hi, h2, List.getElem?_reverse]
theorem PL_le : ∀ (l acc : List Rv.Rec), (PL acc l d).length ≤ acc.length + l.length := by
  intro l
  induction l with
  | nil => intro acc; exact Nat.le_refl _
  | cons r l ih =>
    intro acc
    have h1 := ih (putL acc r d)
    have h2 := putL_len acc r d
    rw [List.length_cons]
    have : PL acc (r :: l) d = PL (putL acc r d) l d := rfl
    rw [this]; omega
theorem pair_of (h : ∀ a b, a < b → b < l.length → (l.getD a rec0).1 ≠ (l.getD b rec0).1) : l.Pairwise (fun a b => a.1 ≠ b.1) := by
  rw [List.pairwise_iff_getElem]
  intro i j hi hj hij
  have := h i j hij hj
  simpa [List.getD_eq_getElem?_getD, hi, hj] using this
theorem strict_at {i : Nat} (h : Strict l) (hi : i + 1 < l.length) : cmp (l.getD i rec0).1 (l.getD (i + 1) rec0).1 < 0 := by
  have := List.pairwise_iff_getElem.1 h i (i + 1) (by omega) hi (by omega)
  have h1 : i < l.length := by omega
  simpa [List.getD_eq_getElem?_getD, hi, h1, lt] using this
end
/-! ### two atlases -/
/-- An atlas that lies in the blocks of P. -/
def Ft (P : Nat → Prop) (w : World) (ga : Nat) (d : Int) (rs : List Rv.Rec) : Prop := (∃ K A n c, At w K ga d A n c rs ∧ P ga ∧ (∀ k, obk A n c = some k → P k) ∧ (∀ b, K b → P b)) ∧ ∀ b, P b → b < w.heap.size
section
variable {P Q : Nat → Prop} {w0 w w1 : World} {ga gb : Nat} {d : Int} {A B : Option Addr} {n c m e : Nat} {rs ra rb : List Rv.Rec} {ks : List Nat} {s : ByteArray}
theorem Ft.fr (h : Ft Q w ga d rs) (f : Fr P w w1) (hd : ∀ b, Q b → ¬ P b) : Ft Q w1 ga d rs := by
  obtain ⟨⟨K, A, n, c, h1, h2, h3, h4⟩, h5⟩ := h
  exact ⟨⟨K, A, n, c, h1.fr f (hd _ h2) (fun k hk => hd _ (h3 k hk)) (fun b hb => hd _ (h4 b hb)), h2, h3, h4⟩, fun b hb => Nat.lt_of_lt_of_le (h5 b hb) f.size⟩
theorem Ft.no (h : Ft Q w ga d rs) (f : Fr No w w1) : Ft Q w1 ga d rs := h.fr f (fun _ _ x => x)
theorem Ft.put (h : Ft P w ga d rs) (hk : Kv w B m e ks) (hsz : s.size ≤ maxLen) (hl : rs.length < 1000) : Calls Try.prog 16 #[.pointer (some ⟨ga, 0, none⟩), .agg #[.slice B m e, .string s]] w fun en w' => en = .returned (.int .i64 (recC ks.length s d)) ∧ (∃ P', Ft P' w' ga d (putL rs (ks, s) d) ∧ ∀ b, P' b → P b ∨ w.heap.size ≤ b) ∧ Fr P w w' := by
  obtain rfl : m = ks.length := hk.len
  obtain ⟨⟨K, A, n, c, h1, h2, h3, h4⟩, h5⟩ := h
  have fin : ∀ out ex en w', PutPost w K ga d A n c out ex en w' → en = .returned (.int .i64 ex) ∧ (∃ P', Ft P' w' ga d out ∧ ∀ b, P' b → P b ∨ w.heap.size ≤ b) ∧ Fr P w w' := by
    rintro out ex en w' ⟨rfl, ⟨K', A', n', c', q1, q2, q3⟩, hf⟩
    refine ⟨rfl, ⟨fun b => (P b ∨ w.heap.size ≤ b) ∧ b < w'.heap.size, ⟨⟨fun b => K' b ∧ b < w'.heap.size, A', n', c', ⟨q1.ob, q1.ow.lt, fun e => q1.kg e.1, q1.og, q1.st, q1.ok, q1.le⟩, ⟨.inl h2, q1.ob.lt⟩, fun k hk => ⟨?_, (q1.ow.blk k hk).2⟩, fun b hb => ⟨?_, hb.2⟩⟩, fun b hb => hb.2⟩, fun b hb => hb.1⟩, hf.mono (fun b e => by rcases e with rfl | e; exact h2; exact h3 b e)⟩
    · rcases q3 with q3 | ⟨b, q3, q4⟩
      · exact .inl (h3 k (by rw [← q3]; exact hk))
      · rw [q3] at hk; injection hk with hk; subst hk; exact .inr q4
    · rcases q2 b hb.1 with h | h
      · exact .inl (h4 b h)
      · exact .inr h
  rcases recC_rng ks.length s d with hr | hr
  · have e : putL rs (ks, s) d = put rs (ks, s) := by rw [putL, if_pos hr]
    rw [e, hr]
    cases hf : fis rs ks with
    | true => exact (aput_over h1 hk hsz hr hf).mono (fin _ _)
    | false => exact (aput_new h1 hk hsz hr hf hl).mono (fin _ _)
  · have e : putL rs (ks, s) d = rs := by rw [putL, if_neg (by simp only [hr]; decide)]
    rw [e, hr]
    exact (aput_no h1 hsz hr).mono (fin _ _)
/-- Two atlases, made since the world w0, that have no block together. -/
structure Two (w0 w : World) (ga gb : Nat) (d : Int) (ra rb : List Rv.Rec) : Prop where
  fr : Fr No w0 w
  ex : ∃ P Q, Ft P w ga d ra ∧ Ft Q w gb d rb ∧ (∀ b, P b → ¬ Q b) ∧ (∀ b, P b → w0.heap.size ≤ b) ∧ (∀ b, Q b → w0.heap.size ≤ b)
theorem Two.symm (h : Two w0 w ga gb d ra rb) : Two w0 w gb ga d rb ra := by
  obtain ⟨P, Q, h1, h2, h3, h4, h5⟩ := h.ex
  exact ⟨h.fr, Q, P, h2, h1, fun b hq hp => h3 b hp hq, h5, h4⟩
theorem Two.no (h : Two w0 w ga gb d ra rb) (f : Fr No w w1) : Two w0 w1 ga gb d ra rb := by
  obtain ⟨P, Q, h1, h2, h3, h4, h5⟩ := h.ex
  exact ⟨h.fr.tr f, P, Q, h1.no f, h2.no f, h3, h4, h5⟩
theorem Two.sa (h : Two w0 w ga gb d ra rb) : Sa w0 w ga d ra := by
  obtain ⟨P, Q, ⟨⟨K, A, n, c, h1, h2, h3, h4⟩, _⟩, _, _, h5, _⟩ := h.ex
  exact ⟨h.fr, h5 _ h2, K, A, n, c, h1, fun k hk => h5 _ (h3 k hk)⟩
theorem Two.put (h : Two w0 w ga gb d ra rb) (hk : Kv w B m e ks) (hsz : s.size ≤ maxLen) (hl : ra.length < 1000) : Calls Try.prog 16 #[.pointer (some ⟨ga, 0, none⟩), .agg #[.slice B m e, .string s]] w fun en w' => en = .returned (.int .i64 (recC ks.length s d)) ∧ Two w0 w' ga gb d (putL ra (ks, s) d) rb := by
  obtain ⟨P, Q, h1, h2, h3, h4, h5⟩ := h.ex
  refine (h1.put hk hsz hl).mono ?_
  rintro en w' ⟨rfl, ⟨P', g1, g2⟩, hf⟩
  refine ⟨rfl, h.fr.trans hf (fun k e => .inr (h4 k e)), P', Q, g1, h2.fr hf (fun b hq hp => h3 b hp hq), fun b hp hq => ?_, fun b hp => ?_, h5⟩
  · rcases g2 b hp with e | e
    · exact h3 b e hq
    · have := h2.2 b hq; omega
  · rcases g2 b hp with e | e
    · exact h4 b e
    · exact Nat.le_trans h.fr.size e
theorem Two.put2 (h : Two w0 w ga gb d ra rb) (hk : Kv w B m e ks) (hsz : s.size ≤ maxLen) (hl : rb.length < 1000) : Calls Try.prog 16 #[.pointer (some ⟨gb, 0, none⟩), .agg #[.slice B m e, .string s]] w fun en w' => en = .returned (.int .i64 (recC ks.length s d)) ∧ Two w0 w' ga gb d ra (putL rb (ks, s) d) := by
  refine (h.symm.put hk hsz hl).mono ?_
  rintro en w' ⟨rfl, h2⟩
  exact ⟨rfl, h2.symm⟩
theorem new_ft (hd : 1 ≤ d ∧ d ≤ 6) : Calls Try.prog 8 #[.int .i64 d] w fun en w' => ∃ ga, en = .returned (.tuple #[.pointer (some ⟨ga, 0, none⟩), .int .i64 0]) ∧ Ft (fun b => b = ga) w' ga d [] ∧ w.heap.size ≤ ga ∧ Fr No w w' := by
  refine (new_any d).mono ?_
  intro en w' h
  rw [if_pos hd] at h
  obtain ⟨ga, h1, rfl, h2, h3⟩ := h
  have hft : Ft (fun b => b = ga) w' ga d [] := ⟨⟨fun _ => False, none, 0, 0, h2, rfl, (fun k hk => by cases hk), (fun b hb => hb.elim)⟩, (fun b hb => by subst hb; exact h2.ob.lt)⟩
  exact ⟨ga, rfl, hft, h1, h3⟩
theorem Two.start {w2 : World} (h1 : Ft (fun b => b = ga) w1 ga d []) (h2 : Ft (fun b => b = gb) w2 gb d []) (f1 : Fr No w0 w1) (f2 : Fr No w1 w2) (g1 : w0.heap.size ≤ ga) (g2 : w1.heap.size ≤ gb) : Two w0 w2 ga gb d [] [] :=
  ⟨f1.tr f2, _, _, h1.no f2, h2, fun b e e' => by have := h1.2 ga rfl; omega, fun b e => by omega, fun b e => by have := f1.size; omega⟩
end
end Go.Proofs.Yteckbcfigklkpaa.Ak09
