/- Layer 9: an atlas and the document's, side by side. -/
import Derived.Test.YteckbcfigklkpaaAq09
import Derived.Test.YteckbcfigklkpaaAk09
namespace Go.Proofs.Yteckbcfigklkpaa.Ar09
open Go.RowKit Go.Proofs.Yteckbcfigklkpaa.Pk08 Go.Proofs.Yteckbcfigklkpaa.Base Go.Proofs.Yteckbcfigklkpaa.App Go.Proofs.Yteckbcfigklkpaa.Ty Go.Proofs.Yteckbcfigklkpaa.Str Go.Proofs.Yteckbcfigklkpaa.Ky Go.Proofs.Yteckbcfigklkpaa.Bx Go.Proofs.Yteckbcfigklkpaa.Bo Go.Proofs.Yteckbcfigklkpaa.As Go.Proofs.Yteckbcfigklkpaa.Pl08 Go.Proofs.Yteckbcfigklkpaa.Rv Go.Proofs.Yteckbcfigklkpaa.Ra Go.Proofs.Yteckbcfigklkpaa.Rp Go.Proofs.Yteckbcfigklkpaa.Ro Go.Proofs.Yteckbcfigklkpaa.Rk Go.Proofs.Yteckbcfigklkpaa.Rt Go.Proofs.Yteckbcfigklkpaa.Ab09 Go.Proofs.Yteckbcfigklkpaa.Ac09 Go.Proofs.Yteckbcfigklkpaa.Ad09 Go.Proofs.Yteckbcfigklkpaa.Ae09 Go.Proofs.Yteckbcfigklkpaa.Af09 Go.Proofs.Yteckbcfigklkpaa.Ag09 Go.Proofs.Yteckbcfigklkpaa.Ai09 Go.Proofs.Yteckbcfigklkpaa.Ak09 Go.Proofs.Yteckbcfigklkpaa.An09 Go.Proofs.Yteckbcfigklkpaa.Ao09 Go.Proofs.Yteckbcfigklkpaa.Ap09 Go.Proofs.Yteckbcfigklkpaa.Aq09
set_option linter.unusedVariables false
set_option linter.unusedSimpArgs false
/-! ### plain -/
def Rel (ls rs : List Rv.Rec) : Prop := Uniq ls ∧ ∀ x, x ∈ ls ↔ x ∈ rs
section
variable {ls rs : List Rv.Rec} {d : Int} {k : List Nat} {r : Rv.Rec}
theorem Rel.sorted (h : Rel ls rs) (hs : Strict rs) : sorted ls = rs := strict_ext (sorted_strict h.1) hs (fun x => (Go.Proofs.Yteckbcfigklkpaa.Rp.mem_sorted x ls).trans (h.2 x))
theorem Rel.len (h : Rel ls rs) (hs : Strict rs) : ls.length = rs.length := by
  have := sorted_len ls
  rw [h.sorted hs] at this
  exact this.symm
theorem fnd_le (ls : List Rv.Rec) (k : List Nat) : fnd ls k ≤ ls.length := firstOut_le _ _
theorem fnd_lt : fnd ls k < ls.length ↔ ∃ x ∈ ls, x.1 = k := by
  constructor
  · intro h
    refine ⟨ls.getD (fnd ls k) rec0, ?_, fnd_at h⟩
    have e : ls.getD (fnd ls k) rec0 = ls[fnd ls k] := by simp [List.getD_eq_getElem?_getD, h]
    rw [e]; exact List.getElem_mem h
  · rintro ⟨x, hx, rfl⟩
    rcases Nat.lt_or_ge (fnd ls x.1) ls.length with h | h
    · exact h
    · obtain ⟨i, hi, rfl⟩ := List.mem_iff_getElem.1 hx
      have h2 := firstOut_in (isNot ls[i].1) ls i (Nat.lt_of_lt_of_le hi h)
      have e : ls.getD i rec0 = ls[i] := by simp [List.getD_eq_getElem?_getD, hi]
      rw [e] at h2
      simp [isNot] at h2
theorem Rel.found (h : Rel ls rs) (hs : Strict rs) : fnd ls k < ls.length ↔ fis rs k = true := by
  rw [fnd_lt, ← mem_fis hs]
  exact ⟨fun ⟨x, hx, e⟩ => ⟨x, (h.2 x).1 hx, e⟩, fun ⟨x, hx, e⟩ => ⟨x, (h.2 x).2 hx, e⟩⟩
theorem Rel.code (h : Rel ls rs) (hs : Strict rs) : delE ls d k = hasE rs d k := by
  unfold delE hasE
  have := h.found hs (k := k)
  split
  · by_cases hf : fnd ls k < ls.length
    · rw [if_pos hf, if_pos (this.1 hf)]
    · rw [if_neg hf, if_neg (fun e => hf (this.2 e))]
  · rfl
theorem fpos_of_mem (hs : Strict rs) (hr : r ∈ rs) : rs.getD (fpos rs r.1) rec0 = r := by
  obtain ⟨i, hi, rfl⟩ := List.mem_iff_getElem.1 hr
  have e : fpos rs rs[i].1 = i := fpos_unique rs rs[i].1 i (by omega) (fun j hj hji => List.pairwise_iff_getElem.1 hs j i hj hi hji) (fun _ => by rw [cmp_self]; decide)
  rw [e]
  simp [List.getD_eq_getElem?_getD, hi]
theorem Rel.got (h : Rel ls rs) (hs : Strict rs) : rgetS ls d k = getS rs d k := by
  unfold rgetS getS
  rw [h.code hs]
  split
  · rename_i hc
    have hf : fnd ls k < ls.length := by
      rw [h.found hs]
      unfold hasE at hc
      split at hc
      · split at hc
        · assumption
        · cases hc
      · cases hc
    have e : ls.getD (fnd ls k) rec0 = ls[fnd ls k] := by simp [List.getD_eq_getElem?_getD, hf]
    have hm : ls.getD (fnd ls k) rec0 ∈ rs := by rw [e]; exact (h.2 _).1 (List.getElem_mem hf)
    have hk := fnd_at hf
    have := fpos_of_mem hs hm
    rw [hk] at this
    rw [this]
  · rfl
theorem uniq_parts {a b : List Rv.Rec} {y : Rv.Rec} (h : Uniq (a ++ y :: b)) : (∀ x ∈ a, x.1 ≠ y.1) ∧ (∀ x ∈ b, x.1 ≠ y.1) := by
  obtain ⟨h1, h2, h3⟩ := List.pairwise_append.1 h
  exact ⟨fun x hx => h3 x hx y List.mem_cons_self, fun x hx e => (List.pairwise_cons.1 h2).1 x hx e.symm⟩
theorem split_at {i : Nat} (hi : i < ls.length) : ls = ls.take i ++ ls.getD i rec0 :: ls.drop (i + 1) := by
  have e : ls.getD i rec0 = ls[i] := by simp [List.getD_eq_getElem?_getD, hi]
  rw [e, List.getElem_cons_drop, List.take_append_drop]
theorem Rel.put_ (h : Rel ls rs) (hs : Strict rs) : Rel (dput ls r) (put rs r) := by
  have hm : ∀ x, x ∈ put rs r ↔ x = r ∨ (x ∈ ls ∧ x.1 ≠ r.1) := fun x => by rw [mem_put hs, h.2]
  by_cases hf : fnd ls r.1 < ls.length
  · have hd : dput ls r = ls.take (fnd ls r.1) ++ r :: ls.drop (fnd ls r.1 + 1) := by
      unfold dput; rw [if_pos hf, fnd_at hf]
    have hk := fnd_at hf
    have hsp := split_at hf
    rw [hd]
    generalize ls.take (fnd ls r.1) = a at *
    generalize ls.drop (fnd ls r.1 + 1) = b at *
    generalize ls.getD (fnd ls r.1) rec0 = y at *
    have hu := h.1
    rw [hsp] at hu
    obtain ⟨u1, u2⟩ := uniq_parts hu
    rw [hk] at u1 u2
    obtain ⟨v1, v2, v3⟩ := List.pairwise_append.1 hu
    obtain ⟨v4, v5⟩ := List.pairwise_cons.1 v2
    refine ⟨List.pairwise_append.2 ⟨v1, List.pairwise_cons.2 ⟨fun x hx e => u2 x hx e.symm, v5⟩, fun x hx z hz => ?_⟩, fun x => ?_⟩
    · rcases List.mem_cons.1 hz with e | hz
      · rw [e]; exact u1 x hx
      · exact v3 x hx z (List.mem_cons_of_mem _ hz)
    · rw [hm, hsp, List.mem_append, List.mem_append, List.mem_cons, List.mem_cons]
      constructor
      · rintro (h1 | h1 | h1)
        · exact .inr ⟨.inl h1, u1 x h1⟩
        · exact .inl h1
        · exact .inr ⟨.inr (.inr h1), u2 x h1⟩
      · rintro (h1 | ⟨h1 | h1 | h1, h2⟩)
        · exact .inr (.inl h1)
        · exact .inl h1
        · exact absurd (by rw [h1]; exact hk) h2
        · exact .inr (.inr h1)
  · have hd : dput ls r = ls ++ [r] := by unfold dput; rw [if_neg hf]
    have hn : ∀ x ∈ ls, x.1 ≠ r.1 := fun x hx e => hf (fnd_lt.2 ⟨x, hx, e⟩)
    rw [hd]
    refine ⟨List.pairwise_append.2 ⟨h.1, List.pairwise_singleton _ _, fun x hx z hz => by rw [List.mem_singleton.1 hz]; exact hn x hx⟩, fun x => ?_⟩
    rw [hm, List.mem_append, List.mem_singleton]
    constructor
    · rintro (h1 | h1)
      · exact .inr ⟨h1, hn x h1⟩
      · exact .inl h1
    · rintro (h1 | h1)
      · exact .inr h1
      · exact .inl h1.1
theorem Rel.cut_ (h : Rel ls rs) (hs : Strict rs) : Rel (ddel ls k) (cut rs k) := by
  have hm : ∀ x, x ∈ cut rs k ↔ x ∈ ls ∧ x.1 ≠ k := fun x => by rw [mem_cut hs, h.2]
  by_cases hf : fnd ls k < ls.length
  · have hd : ddel ls k = ls.take (fnd ls k) ++ ls.drop (fnd ls k + 1) := by unfold ddel; rw [if_pos hf]
    have hk := fnd_at hf
    have hsp := split_at hf
    rw [hd]
    generalize ls.take (fnd ls k) = a at *
    generalize ls.drop (fnd ls k + 1) = b at *
    generalize ls.getD (fnd ls k) rec0 = y at *
    have hu := h.1
    rw [hsp] at hu
    obtain ⟨u1, u2⟩ := uniq_parts hu
    rw [hk] at u1 u2
    obtain ⟨v1, v2, v3⟩ := List.pairwise_append.1 hu
    obtain ⟨v4, v5⟩ := List.pairwise_cons.1 v2
    refine ⟨List.pairwise_append.2 ⟨v1, v5, fun x hx z hz => v3 x hx z (List.mem_cons_of_mem _ hz)⟩, fun x => ?_⟩
    rw [hm, hsp, List.mem_append, List.mem_append, List.mem_cons]
    constructor
    · rintro (h1 | h1)
      · exact ⟨.inl h1, u1 x h1⟩
      · exact ⟨.inr (.inr h1), u2 x h1⟩
    · rintro ⟨h1 | h1 | h1, h2⟩
      · exact .inl h1
      · exact absurd (by rw [h1]; exact hk) h2
      · exact .inr h1
  · have hd : ddel ls k = ls := by unfold ddel; rw [if_neg hf]
    have hn : ∀ x ∈ ls, x.1 ≠ k := fun x hx e => hf (fnd_lt.2 ⟨x, hx, e⟩)
    rw [hd]
    exact ⟨h.1, fun x => by rw [hm]; exact ⟨fun h1 => ⟨h1, hn x h1⟩, fun h1 => h1.1⟩⟩
def dputL (ls : List Rv.Rec) (r : Rv.Rec) (d : Int) : List Rv.Rec := if recC r.1.length r.2 d = 0 then dput ls r else ls
theorem Rel.putL_ (h : Rel ls rs) (hs : Strict rs) : Rel (dputL ls r d) (putL rs r d) := by
  unfold dputL putL
  split
  · exact h.put_ hs
  · exact h
def ddelL (ls : List Rv.Rec) (k : List Nat) (d : Int) : List Rv.Rec := if delE ls d k = 0 then ddel ls k else ls
theorem Rel.delL_ (h : Rel ls rs) (hs : Strict rs) : Rel (ddelL ls k d) (delL rs k d) := by
  unfold ddelL delL
  rw [h.code hs]
  split
  · exact h.cut_ hs
  · exact h
theorem delL_le (rs : List Rv.Rec) (k : List Nat) (d : Int) : (delL rs k d).length ≤ rs.length := by
  unfold delL; split
  · exact cut_le _ _
  · exact Nat.le_refl _
theorem delL_strict (h : Strict rs) : Strict (delL rs k d) := by
  unfold delL; split
  · exact cut_strict h
  · exact h
end
/-! ### both in memory -/
def Gt (Q : Nat → Prop) (w : World) (gk : Nat) (d : Int) (ls : List Rv.Rec) : Prop := (∃ K A n c, Dt w K gk d A n c ls ∧ Q gk ∧ (∀ k, obk A n c = some k → Q k) ∧ (∀ b, K b → Q b)) ∧ ∀ b, Q b → b < w.heap.size
section
variable {P Q R S : Nat → Prop} {w0 w w1 : World} {ga gk : Nat} {d : Int} {A B L H : Option Addr} {n c m e ln lc hn hc : Nat} {rs ls : List Rv.Rec} {ks lo hi : List Nat} {s : ByteArray}
theorem Gt.fr (h : Gt Q w gk d ls) (f : Fr S w w1) (hd : ∀ b, Q b → ¬ S b) : Gt Q w1 gk d ls := by
  obtain ⟨⟨K, A, n, c, h1, h2, h3, h4⟩, h5⟩ := h
  exact ⟨⟨K, A, n, c, h1.fr f (hd _ h2) (fun k hk => hd _ (h3 k hk)) (fun b hb => hd _ (h4 b hb)), h2, h3, h4⟩, fun b hb => Nat.lt_of_lt_of_le (h5 b hb) f.size⟩
theorem Gt.no (h : Gt Q w gk d ls) (f : Fr No w w1) : Gt Q w1 gk d ls := h.fr f (fun _ _ x => x)
theorem Dt.ltK {K : Nat → Prop} (h : Dt w K gk d A n c ls) : Dt w (fun b => K b ∧ b < w.heap.size) gk d A n c ls := ⟨h.ob, h.ow.lt, fun x => h.kg x.1, h.og, h.ok, h.le⟩
theorem gt_fin {K : Nat → Prop} {out : List Rv.Rec} {ex : Int} {en : Ending} (h1 : Dt w K gk d A n c ls) (h2 : Q gk) (h3 : ∀ k, obk A n c = some k → Q k) (h4 : ∀ b, K b → Q b) (hp : DPost w K gk d A n c out ex en w1) : en = .returned (.int .i64 ex) ∧ (∃ Q', Gt Q' w1 gk d out ∧ ∀ b, Q' b → Q b ∨ w.heap.size ≤ b) ∧ Fr Q w w1 := by
  obtain ⟨rfl, ⟨K', A', n', c', q1, q2, q3⟩, hf⟩ := hp
  refine ⟨rfl, ⟨fun b => (Q b ∨ w.heap.size ≤ b) ∧ b < w1.heap.size, ⟨⟨_, A', n', c', Dt.ltK q1, ⟨.inl h2, q1.ob.lt⟩, fun k hk => ⟨?_, (q1.ow.blk k hk).2⟩, fun b hb => ⟨?_, hb.2⟩⟩, fun b hb => hb.2⟩, fun b hb => hb.1⟩, hf.mono (fun b e => by rcases e with rfl | e; exact h2; exact h3 b e)⟩
  · rcases q3 k hk with q | q
    · exact .inl (h3 k q)
    · exact .inr q
  · rcases q2 b hb.1 with q | q
    · exact .inl (h4 b q)
    · exact .inr q
theorem Gt.put (h : Gt Q w gk d ls) (hk : Kv w B m e ks) (hsz : s.size ≤ maxLen) (hl : ls.length < 1000) : Calls Try.prog 17 #[.pointer (some ⟨gk, 0, none⟩), .agg #[.slice B m e, .string s]] w fun en w' => en = .returned (.int .i64 (recC ks.length s d)) ∧ (∃ Q', Gt Q' w' gk d (dputL ls (ks, s) d) ∧ ∀ b, Q' b → Q b ∨ w.heap.size ≤ b) ∧ Fr Q w w' := by
  obtain rfl : m = ks.length := hk.len
  obtain ⟨⟨K, A, n, c, h1, h2, h3, h4⟩, h5⟩ := h
  rcases recC_rng ks.length s d with hr | hr
  · have e : dputL ls (ks, s) d = dput ls (ks, s) := by rw [dputL, if_pos hr]
    rw [e, hr]
    by_cases hf : fnd ls ks < ls.length
    · exact (rput_over h1 hk hsz hr hf).mono (fun _ _ hp => gt_fin h1 h2 h3 h4 hp)
    · exact (rput_new h1 hk hsz hr hf hl).mono (fun _ _ hp => gt_fin h1 h2 h3 h4 hp)
  · have e : dputL ls (ks, s) d = ls := by rw [dputL, if_neg (by simp only [hr]; decide)]
    rw [e, hr]
    exact (rput_no h1 hsz hr).mono (fun _ _ hp => gt_fin h1 h2 h3 h4 hp)
theorem Gt.del (h : Gt Q w gk d ls) (hk : Kv w B m e ks) : Calls Try.prog 19 #[.pointer (some ⟨gk, 0, none⟩), .slice B m e] w fun en w' => en = .returned (.int .i64 ((delE ls d ks : Nat) : Int)) ∧ (∃ Q', Gt Q' w' gk d (ddelL ls ks d) ∧ ∀ b, Q' b → Q b ∨ w.heap.size ≤ b) ∧ Fr Q w w' := by
  obtain ⟨⟨K, A, n, c, h1, h2, h3, h4⟩, h5⟩ := h
  exact (rdel_any h1 hk).mono (fun _ _ hp => gt_fin h1 h2 h3 h4 hp)
theorem Ft.del (h : Ft P w ga d rs) (hk : Kv w B m e ks) : Calls Try.prog 18 #[.pointer (some ⟨ga, 0, none⟩), .slice B m e] w fun en w' => en = .returned (.int .i64 ((hasE rs d ks : Nat) : Int)) ∧ (∃ P', Ft P' w' ga d (delL rs ks d) ∧ ∀ b, P' b → P b ∨ w.heap.size ≤ b) ∧ Fr P w w' := by
  obtain ⟨⟨K, A, n, c, h1, h2, h3, h4⟩, h5⟩ := h
  refine (adelete_any h1 hk).mono ?_
  rintro en w' ⟨n', rfl, q, hf⟩
  have hf2 := hf.mono (S' := P) (fun b e => by rcases e with rfl | e; exact h2; exact h3 b e)
  exact ⟨rfl, ⟨P, ⟨⟨K, A, n', c, q, h2, fun k hk => h3 k (by rw [obk_any A n c n' c]; exact hk), h4⟩, fun b hb => Nat.lt_of_lt_of_le (h5 b hb) hf.size⟩, fun b hb => .inl hb⟩, hf2⟩
/-- Both, made since the world w0, with no block together and none of R. -/
structure Dual (R : Nat → Prop) (w0 w : World) (ga gk : Nat) (d : Int) (rs ls : List Rv.Rec) : Prop where
  fr : Fr No w0 w
  ex : ∃ P Q, Ft P w ga d rs ∧ Gt Q w gk d ls ∧ (∀ b, P b → ¬ Q b) ∧ (∀ b, P b → w0.heap.size ≤ b ∧ ¬ R b) ∧ (∀ b, Q b → w0.heap.size ≤ b ∧ ¬ R b)
  rlt : ∀ b, R b → b < w.heap.size
theorem Dual.no (h : Dual R w0 w ga gk d rs ls) (f : Fr No w w1) : Dual R w0 w1 ga gk d rs ls := by
  obtain ⟨P, Q, h1, h2, h3, h4, h5⟩ := h.ex
  exact ⟨h.fr.tr f, ⟨P, Q, h1.no f, h2.no f, h3, h4, h5⟩, fun b hb => Nat.lt_of_lt_of_le (h.rlt b hb) f.size⟩
theorem Dual.free (h : Dual R w0 w ga gk d rs ls) : Dual No w0 w ga gk d rs ls := by
  obtain ⟨P, Q, h1, h2, h3, h4, h5⟩ := h.ex
  exact ⟨h.fr, ⟨P, Q, h1, h2, h3, fun b hb => ⟨(h4 b hb).1, fun x => x⟩, fun b hb => ⟨(h5 b hb).1, fun x => x⟩⟩, fun b hb => hb.elim⟩
theorem Dual.bar (h : Dual No w0 w ga gk d rs ls) (f : Fr No w w1) : Dual (fun b => w.heap.size ≤ b ∧ b < w1.heap.size) w0 w1 ga gk d rs ls := by
  obtain ⟨P, Q, h1, h2, h3, h4, h5⟩ := h.ex
  exact ⟨h.fr.tr f, ⟨P, Q, h1.no f, h2.no f, h3, fun b hb => ⟨(h4 b hb).1, fun x => by have := h1.2 b hb; omega⟩, fun b hb => ⟨(h5 b hb).1, fun x => by have := h2.2 b hb; omega⟩⟩, fun b hb => hb.2⟩
theorem Dual.sa (h : Dual R w0 w ga gk d rs ls) : Sa w0 w ga d rs := by
  obtain ⟨P, Q, ⟨⟨K, A, n, c, h1, h2, h3, h4⟩, _⟩, _, _, h5, _⟩ := h.ex
  exact ⟨h.fr, (h5 _ h2).1, K, A, n, c, h1, fun k hk => (h5 _ (h3 k hk)).1⟩
theorem Dual.dt (h : Dual R w0 w ga gk d rs ls) : ∃ K A n c, Dt w K gk d A n c ls := by
  obtain ⟨P, Q, _, ⟨⟨K, A, n, c, h1, _⟩, _⟩, _⟩ := h.ex
  exact ⟨K, A, n, c, h1⟩
theorem Dual.step1 {out : List Rv.Rec} (h : Dual R w0 w ga gk d rs ls) : ∃ P, Ft P w ga d rs ∧ (∀ b, P b → ¬ R b) ∧ ∀ w', (∃ P', Ft P' w' ga d out ∧ ∀ b, P' b → P b ∨ w.heap.size ≤ b) → Fr P w w' → Dual R w0 w' ga gk d out ls ∧ Fr (fun b => ¬ R b) w w' := by
  obtain ⟨P, Q, h1, h2, h3, h4, h5⟩ := h.ex
  refine ⟨P, h1, fun b hb => (h4 b hb).2, fun w' ⟨P', g1, g2⟩ hf => ⟨⟨h.fr.trans hf (fun k e => .inr (h4 k e).1), ⟨P', Q, g1, h2.fr hf (fun b hq hp => h3 b hp hq), fun b hp hq => ?_, fun b hp => ?_, h5⟩, fun b hb => Nat.lt_of_lt_of_le (h.rlt b hb) hf.size⟩, hf.mono (fun b e => (h4 b e).2)⟩⟩
  · rcases g2 b hp with e | e
    · exact h3 b e hq
    · have := h2.2 b hq; omega
  · rcases g2 b hp with e | e
    · exact h4 b e
    · exact ⟨Nat.le_trans h.fr.size e, fun hr => by have := h.rlt b hr; omega⟩
theorem Dual.step2 {out : List Rv.Rec} (h : Dual R w0 w ga gk d rs ls) : ∃ Q, Gt Q w gk d ls ∧ (∀ b, Q b → ¬ R b) ∧ ∀ w', (∃ Q', Gt Q' w' gk d out ∧ ∀ b, Q' b → Q b ∨ w.heap.size ≤ b) → Fr Q w w' → Dual R w0 w' ga gk d rs out ∧ Fr (fun b => ¬ R b) w w' := by
  obtain ⟨P, Q, h1, h2, h3, h4, h5⟩ := h.ex
  refine ⟨Q, h2, fun b hb => (h5 b hb).2, fun w' ⟨Q', g1, g2⟩ hf => ⟨⟨h.fr.trans hf (fun k e => .inr (h5 k e).1), ⟨P, Q', h1.fr hf (fun b hp hq => h3 b hp hq), g1, fun b hp hq => ?_, h4, fun b hq => ?_⟩, fun b hb => Nat.lt_of_lt_of_le (h.rlt b hb) hf.size⟩, hf.mono (fun b e => (h5 b e).2)⟩⟩
  · rcases g2 b hq with e | e
    · exact h3 b hp e
    · have := h1.2 b hp; omega
  · rcases g2 b hq with e | e
    · exact h5 b e
    · exact ⟨Nat.le_trans h.fr.size e, fun hr => by have := h.rlt b hr; omega⟩
theorem Dual.put (h : Dual R w0 w ga gk d rs ls) (hk : Kv w B m e ks) (hsz : s.size ≤ maxLen) (hl : rs.length < 1000) : Calls Try.prog 16 #[.pointer (some ⟨ga, 0, none⟩), .agg #[.slice B m e, .string s]] w fun en w' => en = .returned (.int .i64 (recC ks.length s d)) ∧ Dual R w0 w' ga gk d (putL rs (ks, s) d) ls ∧ Fr (fun b => ¬ R b) w w' := by
  obtain ⟨P, h1, h2, h3⟩ := h.step1 (out := putL rs (ks, s) d)
  exact (h1.put hk hsz hl).mono (fun en w' ⟨q1, q2, q3⟩ => ⟨q1, h3 w' q2 q3⟩)
theorem Dual.rput (h : Dual R w0 w ga gk d rs ls) (hk : Kv w B m e ks) (hsz : s.size ≤ maxLen) (hl : ls.length < 1000) : Calls Try.prog 17 #[.pointer (some ⟨gk, 0, none⟩), .agg #[.slice B m e, .string s]] w fun en w' => en = .returned (.int .i64 (recC ks.length s d)) ∧ Dual R w0 w' ga gk d rs (dputL ls (ks, s) d) ∧ Fr (fun b => ¬ R b) w w' := by
  obtain ⟨Q, h1, h2, h3⟩ := h.step2 (out := dputL ls (ks, s) d)
  exact (h1.put hk hsz hl).mono (fun en w' ⟨q1, q2, q3⟩ => ⟨q1, h3 w' q2 q3⟩)
theorem Dual.del (h : Dual R w0 w ga gk d rs ls) (hk : Kv w B m e ks) : Calls Try.prog 18 #[.pointer (some ⟨ga, 0, none⟩), .slice B m e] w fun en w' => en = .returned (.int .i64 ((hasE rs d ks : Nat) : Int)) ∧ Dual R w0 w' ga gk d (delL rs ks d) ls ∧ Fr (fun b => ¬ R b) w w' := by
  obtain ⟨P, h1, h2, h3⟩ := h.step1 (out := delL rs ks d)
  exact (Ft.del h1 hk).mono (fun en w' ⟨q1, q2, q3⟩ => ⟨q1, h3 w' q2 q3⟩)
theorem Dual.rdel (h : Dual R w0 w ga gk d rs ls) (hk : Kv w B m e ks) : Calls Try.prog 19 #[.pointer (some ⟨gk, 0, none⟩), .slice B m e] w fun en w' => en = .returned (.int .i64 ((delE ls d ks : Nat) : Int)) ∧ Dual R w0 w' ga gk d rs (ddelL ls ks d) ∧ Fr (fun b => ¬ R b) w w' := by
  obtain ⟨Q, h1, h2, h3⟩ := h.step2 (out := ddelL ls ks d)
  exact (h1.del hk).mono (fun en w' ⟨q1, q2, q3⟩ => ⟨q1, h3 w' q2 q3⟩)
theorem Dual.rget (h : Dual R w0 w ga gk d rs ls) (hk : Kv w B m e ks) : Calls Try.prog 21 #[.pointer (some ⟨gk, 0, none⟩), .slice B m e] w fun en w' => en = .returned (.tuple #[.string (rgetS ls d ks), .int .i64 ((delE ls d ks : Nat) : Int)]) ∧ Fr No w w' := by
  obtain ⟨K, A, n, c, h1⟩ := h.dt
  exact rget_any h1 hk
theorem Dual.rall (h : Dual R w0 w ga gk d rs ls) : Calls Try.prog 12 #[.pointer (some ⟨gk, 0, none⟩)] w fun e w' => ∃ A1 n1 c1, e = .returned (.slice A1 n1 c1) ∧ Ow w' w.heap.size 33 (fun b => w.heap.size ≤ b) A1 n1 c1 (sorted ls) ∧ Fr No w w' := by
  obtain ⟨K, A, n, c, h1⟩ := h.dt
  exact rall_any h1
theorem Dual.rwin (h : Dual R w0 w ga gk d rs ls) (hl : Kv w L ln lc lo) (hh : Kv w H hn hc hi) : Calls Try.prog 23 #[.pointer (some ⟨gk, 0, none⟩), .agg #[.slice L ln lc, .slice H hn hc]] w fun en w' => ∃ A1 n1 c1, en = .returned (.tuple #[.slice A1 n1 c1, .int .i64 (chkB lo hi d)]) ∧ Ow w' w.heap.size 33 (fun b => w.heap.size ≤ b) A1 n1 c1 (winL (sorted ls) lo hi d) ∧ Fr No w w' := by
  obtain ⟨K, A, n, c, h1⟩ := h.dt
  exact rwindow_any h1 hl hh
theorem Dual.cell (h : Dual R w0 w ga gk d rs ls) : ∃ A c, w.cell? ⟨gk, 1, none⟩ = some (.slice A ls.length c) := by
  obtain ⟨K, A, n, c, h1⟩ := h.dt
  have := h1.len
  subst this
  exact ⟨A, c, h1.cells.2⟩
/-- What stays as it was: a list, and an atlas, in the blocks of R. -/
structure Kp (R : Nat → Prop) (w : World) (g2 : Nat) (d : Int) (A : Option Addr) (n c : Nat) (rs : List Rv.Rec) : Prop where
  was : Ow w 0 33 R A n c rs
  wob : ∀ k, obk A n c = some k → R k
  old : Ft R w g2 d rs
theorem Kp.fr {g2 : Nat} (h : Kp R w g2 d A n c rs) (f : Fr (fun b => ¬ R b) w w1) : Kp R w1 g2 d A n c rs :=
  ⟨h.was.fr f (fun k hk x => x (h.wob k hk)) (fun b hb x => x hb), h.wob, h.old.fr f (fun b hb x => x hb)⟩
theorem Kp.no {g2 : Nat} (h : Kp R w g2 d A n c rs) (f : Fr No w w1) : Kp R w1 g2 d A n c rs := h.fr (f.mono (fun b x => x.elim))
theorem Kp.make {wb w2 : World} {g2 : Nat} (fb : Fr No wb w) (h1 : Ow w1 w.heap.size 33 (fun b => w.heap.size ≤ b) A n c rs) (f1 : Fr No w w1) (h2 : Fre w1 w2 g2 d rs) (f2 : Fr No w1 w2) : Kp (fun b => wb.heap.size ≤ b ∧ b < w2.heap.size) w2 g2 d A n c rs := by
  have h1' := (h1.no f2).lt
  obtain ⟨K, A', n', c', q1, q2, q3, q4⟩ := h2.ex
  have hs := f1.size
  have hb := fb.size
  refine ⟨(h1'.base_ (Nat.zero_le _)).mono (fun b hb => ⟨by omega, hb.2⟩), fun k hk => ⟨by have := (h1'.blk k hk).1; omega, (h1'.blk k hk).2⟩, ⟨⟨fun b => K b ∧ b < w2.heap.size, A', n', c', ⟨q1.ob, q1.ow.lt, fun x => q1.kg x.1, q1.og, q1.st, q1.ok, q1.le⟩, ⟨by omega, q1.ob.lt⟩, fun k hk => ⟨by have := q3 k hk; omega, (q1.ow.blk k hk).2⟩, fun b hb => ⟨by have := q4 b hb.1; omega, hb.2⟩⟩, fun b hb => hb.2⟩⟩
theorem Dual.start {w2 : World} (h1 : Ft (fun b => b = ga) w1 ga d []) (hg : w0.heap.size ≤ ga) (f1 : Fr No w0 w1) (hg2 : w1.heap.size ≤ gk) (h2 : Dt w2 (fun _ => False) gk d none 0 0 []) (f2 : Fr No w1 w2) : Dual No w0 w2 ga gk d [] [] := by
  have hs := f1.size
  have h3 := h1.2 ga rfl
  exact ⟨f1.tr f2, ⟨fun b => b = ga, fun b => b = gk, h1.no f2, ⟨⟨_, none, 0, 0, h2, rfl, fun k hk => (by cases hk), fun b hb => hb.elim⟩, fun b hb => by subst hb; exact h2.ob.lt⟩, fun b e e2 => by omega, fun b e => ⟨by omega, fun x => x⟩, fun b e => ⟨by omega, fun x => x⟩⟩, fun b hb => hb.elim⟩
theorem Kp.all_ {g2 : Nat} (h : Kp R w g2 d A n c rs) : Calls Try.prog 26 #[.pointer (some ⟨g2, 0, none⟩)] w fun en w' => ∃ A1 n1 c1, en = .returned (.slice A1 n1 c1) ∧ Ow w' w.heap.size 33 (fun b => w.heap.size ≤ b) A1 n1 c1 rs ∧ Fr No w w' := by
  obtain ⟨⟨K, A, n, c, h1, _⟩, _⟩ := h.old
  exact all_fresh h1
end
end Go.Proofs.Yteckbcfigklkpaa.Ar09
