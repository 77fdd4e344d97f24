/- Layer 9: a record put into an atlas, and taken out. -/
import Derived.Test.YteckbcfigklkpaaAb09
namespace Go.Proofs.Yteckbcfigklkpaa.Ac09
open Go.RowKit Go.Proofs.Yteckbcfigklkpaa.Pk08 Go.Proofs.Yteckbcfigklkpaa.Base Go.Proofs.Yteckbcfigklkpaa.App Go.Proofs.Yteckbcfigklkpaa.Str Go.Proofs.Yteckbcfigklkpaa.Ky Go.Proofs.Yteckbcfigklkpaa.Bx Go.Proofs.Yteckbcfigklkpaa.Bo Go.Proofs.Yteckbcfigklkpaa.As Go.Proofs.Yteckbcfigklkpaa.Pl08 Go.Proofs.Yteckbcfigklkpaa.Kc08 Go.Proofs.Yteckbcfigklkpaa.Cl Go.Proofs.Yteckbcfigklkpaa.Rv Go.Proofs.Yteckbcfigklkpaa.Ra Go.Proofs.Yteckbcfigklkpaa.Rp Go.Proofs.Yteckbcfigklkpaa.Ro Go.Proofs.Yteckbcfigklkpaa.Rk Go.Proofs.Yteckbcfigklkpaa.Rb Go.Proofs.Yteckbcfigklkpaa.Rf Go.Proofs.Yteckbcfigklkpaa.Ia Go.Proofs.Yteckbcfigklkpaa.Ib Go.Proofs.Yteckbcfigklkpaa.Aa09 Go.Proofs.Yteckbcfigklkpaa.Ab09
set_option linter.unusedVariables false
set_option linter.unusedSimpArgs false
section
variable {K Kv' : Nat → Prop} {w w1 : World} {ga base bv : Nat} {d : Int} {A V B : Option Addr} {n c m e i vc : Nat} {rs : List Rv.Rec} {k : List Nat} {r : Rv.Rec}
/-- slices.Delete of one, of records. -/
theorem del_ow (hO : Ow w base 33 K A n c rs) (hi : i < n) (hn : n ≤ 1000000) (zj : Int) (hzj : zj = (i : Int) + 1) :
    Calls Try.prog 43 #[.slice A n c, .int .i64 i, .int .i64 zj] w fun e w' => e = .returned (.slice A (n - 1) c) ∧ Ow w' base 33 K A (n - 1) c (rs.take i ++ rs.drop (i + 1)) ∧ Fr (fun k => obk A n c = some k) w w' := by
  obtain ⟨ps, rfl, h2, h3⟩ := hO
  refine (del_any h2 hi hn (rcells_one ps) zj hzj).mono ?_
  rintro e w' ⟨rfl, ho, hf⟩
  refine ⟨rfl, ⟨ps.take i ++ ps.drop (i + 1), by rw [recs_app, recs_take, recs_drop], by rw [rcells_app, rcells_take, rcells_drop]; exact ho, fun p hp => ?_⟩, hf⟩
  have hp2 : p ∈ ps := by rcases List.mem_append.1 hp with h | h; exact List.mem_of_mem_take h; exact List.mem_of_mem_drop h
  refine (h3 p hp2).fr hf (fun b hb e => ?_)
  rcases A with _ | ⟨g, o, z⟩
  · cases e
  · have e2 : g = b := by simpa [obk, Value.ownBlock] using e
    subst e2
    rcases h2.2 with ⟨h7, _⟩ | ⟨g', _, _, h7, _⟩
    · cases h7
    · injection h7 with h7
      injection h7 with h7
      injection h7 with q1 q2 q3
      subst q1; subst q2; subst q3
      exact hb.2 g 0 rfl rfl
/-- slices.Insert of one, of records. -/
theorem ins_ow (hO : Ow w base 33 K A n c rs) (hV : Ow w bv 33 Kv' V 1 vc [r]) (hne : obk V 1 vc ≠ obk A n c) (hkv : ∀ b, Kv' b → obk A n c ≠ some b) (hbase : base ≤ w.heap.size) (hi : i ≤ n) (hn : n ≤ 1000000) :
    Calls Try.prog 39 #[.slice A n c, .int .i64 i, .slice V 1 vc] w fun e w' => ∃ A1 c1, e = .returned (.slice A1 (n + 1) c1) ∧ Ow w' base 33 (fun b => K b ∨ Kv' b) A1 (n + 1) c1 (rs.take i ++ r :: rs.drop i) ∧ Fr (fun k => obk A n c = some k) w w' ∧ (obk A1 (n + 1) c1 = obk A n c ∨ obk A1 (n + 1) c1 = some w.heap.size) := by
  obtain ⟨ps, rfl, h2, h3⟩ := hO
  obtain ⟨qs, hq, g2, g3⟩ := hV
  refine (ins_any h2 g2 hne hbase hi hn (rcells_one ps) (rcells_one qs)).mono ?_
  rintro e w' ⟨A1, c1, rfl, ho, hf, hat⟩
  have own_at : ∀ b, (∃ g o, A = some ⟨g, o, none⟩ ∧ b = g) ↔ obk A n c = some b := fun b => by
    rcases h2.2 with ⟨h7, _⟩ | ⟨g', _, _, h7, _⟩
    · injection h7 with h7; subst h7; simp [obk, Value.ownBlock]
    · injection h7 with h7; subst h7
      constructor
      · rintro ⟨g, o, e1, rfl⟩
        injection e1 with e1; injection e1 with e1 e2; subst e1; rfl
      · intro e1
        have : g' = b := by simpa [obk, Value.ownBlock] using e1
        exact ⟨g', 0, rfl, this.symm⟩
  refine ⟨A1, c1, rfl, ⟨ps.take i ++ (qs ++ ps.drop i), by rw [recs_app, recs_app, recs_take, recs_drop, hq]; rfl, by rw [rcells_app, rcells_app, rcells_take, rcells_drop, ← List.append_assoc]; exact ho, fun p hp => ?_⟩, hf, hat⟩
  have hall : Pk w (fun b => (K b ∨ Kv' b) ∧ obk A n c ≠ some b) p := by
    rcases List.mem_append.1 hp with h | h
    · refine (h3 p (List.mem_of_mem_take h)).mono (fun b hb => ⟨.inl hb.1, fun e => ?_⟩)
      obtain ⟨g, o, e1, rfl⟩ := (own_at b).2 e
      exact hb.2 _ _ e1 rfl
    · rcases List.mem_append.1 h with h | h
      · exact (g3 p h).mono (fun b hb => ⟨.inr hb.1, hkv b hb.1⟩)
      · refine (h3 p (List.mem_of_mem_drop h)).mono (fun b hb => ⟨.inl hb.1, fun e => ?_⟩)
        obtain ⟨g, o, e1, rfl⟩ := (own_at b).2 e
        exact hb.2 _ _ e1 rfl
  refine (hall.lt.fr hf (fun b hb e => hb.1.2 e)).mono (fun b hb => ⟨hb.1.1, fun g o e1 eb => ?_⟩)
  subst eb
  have e2 : obk A1 (n + 1) c1 = some b := by rw [e1]; rfl
  rcases hat with h | h
  · rw [show (Value.slice A1 (n + 1) c1).ownBlock = obk A1 (n + 1) c1 from rfl, e2] at h
    exact hb.1.2 h.symm
  · rw [show (Value.slice A1 (n + 1) c1).ownBlock = obk A1 (n + 1) c1 from rfl, e2] at h
    injection h with h
    have := hb.2
    omega
/-- The block of an own list's slice does not hang on its length. -/
theorem obk_any (A : Option Addr) (n c n' c' : Nat) : obk A n c = obk A n' c' := by cases A <;> rfl
theorem ob_off {w : World} {g h : Nat} {o : Nat} {v : Value} {cs : Array Value} {T : TypeId} (hb : Ob w g cs T) (hn : g ≠ h) : Ob (w.setCell ⟨h, o, none⟩ v) g cs T := hb.other hn _
theorem cut_ok {d : Int} (h : ∀ r ∈ rs, recC r.1.length r.2 d = 0) (k : List Nat) : ∀ r ∈ cut rs k, recC r.1.length r.2 d = 0 := fun r hr => by
  unfold cut at hr
  split at hr
  · rcases List.mem_append.1 hr with h1 | h1
    · exact h r (List.mem_of_mem_take h1)
    · exact h r (List.mem_of_mem_drop h1)
  · exact h r hr
theorem cut_le (rs : List Rv.Rec) (k : List Nat) : (cut rs k).length ≤ rs.length := by
  unfold cut
  split
  · rw [List.length_append, List.length_take, List.length_drop]; omega
  · exact Nat.le_refl _
/-- An atlas whose slice was laid anew. -/
theorem At.laid {A1 : Option Addr} {n1 c1 : Nat} {K1 : Nat → Prop} {rs1 : List Rv.Rec} (hb : Ob w ga #[.int .i64 d, .slice A n c] 72) (ho : Ow w 0 33 K1 A1 n1 c1 rs1) (hk : ¬ K1 ga) (ho1 : obk A1 n1 c1 ≠ some ga) (hs : Strict rs1) (hok : ∀ r ∈ rs1, recC r.1.length r.2 d = 0) (hl : rs1.length ≤ 1000) :
    At (w.setCell ⟨ga, 1, none⟩ (.slice A1 n1 c1)) K1 ga d A1 n1 c1 rs1 :=
  ⟨hb.set 1 _, ho.fr ((Fr.refl (fun k => k = ga) w).setCell (p := ⟨ga, 1, none⟩) (.inl rfl) _) (fun k e e2 => ho1 (by rw [← e2]; exact e)) (fun b hb e => hk (by rw [← e]; exact hb)), hk, ho1, hs, hok, hl⟩
theorem adelete_any (h : At w K ga d A n c rs) (hk : Kv w B m e k) : Calls Try.prog 18 #[.pointer (some ⟨ga, 0, none⟩), .slice B m e] w fun en w' => ∃ n', en = .returned (.int .i64 ((hasE rs d k : Nat) : Int)) ∧ At w' K ga d A n' c (if hasE rs d k = 0 then cut rs k else rs) ∧ Fr (fun b => b = ga ∨ obk A n c = some b) w w' := by
  have hh := has_any h hk
  rcases hasE_cases rs d k with ⟨h1, h2, h3⟩ | ⟨h1, h2⟩
  · obtain ⟨hi, he⟩ := (fis_iff rs k).1 h2
    have hin : fpos rs k < n := by rw [h.len]; exact hi
    have hn1 : n ≤ 1000 := by have := h.len; have := h.le; omega
    have hcut : cut rs k = rs.take (fpos rs k) ++ rs.drop (fpos rs k + 1) := by simp [cut, h2]
    have HC := Lib.hid (show Strict (cut rs k) ∧ (∀ r ∈ cut rs k, recC r.1.length r.2 d = 0) ∧ (cut rs k).length ≤ 1000 from ⟨cut_strict h.st, cut_ok h.ok k, by have := cut_le rs k; have := h.le; omega⟩)
    have HD := Lib.hid (fun W (hW : Fr No w W) => del_ow (h.no hW).ow hin (by omega) ((fpos rs k : Nat) + 1 : Int) rfl)
    have HCE := Lib.hid hcut
    have H := Lib.hid h
    rw [if_pos h1, h1]
    rw [h1, h3] at hh
    obtain ⟨c0, c1⟩ := h.cells
    clear h hk h1 h2 h3 hcut he hi
    generalize cut rs k = out at *
    generalize fpos rs k = i at *
    go_enter Try.func18, Try.ntmps18
    go_wp2_with first
      | (go_at_call 42; ((with_reducible refine hh.mono ?_); rintro en w6 ⟨rfl, hf6⟩; (have d1 := cel_no c1 hf6)))
      | (go_at_call 43; ((with_reducible refine (HD.out w6 hf6).mono ?_); rintro en w7 ⟨rfl, ho7, hf7⟩; (have hb7 := (H.out.ob.no hf6).fr hf7 (fun e => H.out.og e)); (have e1 := hb7.cell 1 rfl); (have e2 := hb7.frozen 1)))
      | fail
    go_ret
    refine ⟨n - 1, rfl, At.laid hb7 (by rw [HCE.out]; exact ho7) H.out.kg (fun e => H.out.og (by rw [obk_any A n c (n - 1) c]; exact e)) HC.out.1 HC.out.2.1 HC.out.2.2, ?_⟩
    exact ((hf6.mono (fun b e => e.elim)).tr (hf7.mono (fun b e => .inr e))).setCell (p := ⟨ga, 1, none⟩) (.inl (.inl rfl)) _
  · rw [if_neg h1]
    have H := Lib.hid h
    generalize hasI rs d k = q at *
    generalize hasE rs d k = ex at *
    clear h hk
    go_enter Try.func18, Try.ntmps18
    go_wp2_with (go_at_call 42; ((with_reducible refine hh.mono ?_); rintro en w6 ⟨rfl, hf6⟩))
    go_ret
    exact ⟨n, rfl, H.out.no hf6, hf6.mono (fun b e => e.elim)⟩
theorem rv_one {w : World} {g n ca : Nat} {A : Option Addr} {a : List Nat} {s : ByteArray} {t : TypeId} (h : Ob w g #[.slice A n ca, .string s] t) (ka : Kv w A n ca a) (hs : s.size ≤ maxLen) : Rv w (some ⟨g, 0, none⟩) 1 1 [(a, s)] := by
  obtain rfl : n = a.length := ka.len
  refine ⟨rfl, by decide, by decide, fun _ => ⟨g, 0, rfl, fun i hi => ?_⟩⟩
  have hi2 : i < 1 := hi
  obtain rfl : i = 0 := by omega
  exact ⟨_, _, h.cell 0 rfl, h.cell 1 rfl, ka, hs⟩
/-- A record's data are written over. -/
theorem store_data {g : Nat} {s : ByteArray} (h : Ow w base 33 K (some ⟨g, 0, none⟩) n c rs) (hi : i < n) (hs : s.size ≤ maxLen) : Ow (w.setCell ⟨g, i * 2 + 1, none⟩ (.string s)) base 33 K (some ⟨g, 0, none⟩) n c (rs.take i ++ ((rs.getD i rec0).1, s) :: rs.drop (i + 1)) := by
  have hl := h.len
  obtain ⟨ps, rfl, h2, h3⟩ := h
  rw [recs_len] at hl
  have hil : i < ps.length := by omega
  have ep : ps.getD i pr0 = ps[i] := by simp [List.getD_eq_getElem?_getD, hil]
  have hset : (recs ps).take i ++ (((recs ps).getD i rec0).1, s) :: (recs ps).drop (i + 1) = recs (ps.set i ((ps.getD i pr0).1, (ps.getD i pr0).2.1, ((ps.getD i pr0).2.2.1, s))) := by
    rw [recs_get]
    unfold recs
    rw [List.map_set, List.set_eq_take_append_cons_drop, if_pos (by simpa using hil)]
  rw [hset]
  refine ⟨_, rfl, ?_, fun p hp => ?_⟩
  · have h4 := (h2.stored (i * 2 + 1) (.string s)).1
    rw [← rcells_data ps i ((ps.getD i pr0).1, (ps.getD i pr0).2.1, ((ps.getD i pr0).2.2.1, s)) hil ⟨rfl, rfl, rfl⟩] at h4
    exact h4
  · have f : Fr (fun k => k = g) w (w.setCell ⟨g, i * 2 + 1, none⟩ (.string s)) := (Fr.refl (fun k => k = g) w).setCell (p := ⟨g, i * 2 + 1, none⟩) (.inl rfl) _
    have hall : Pk w (fun b => K b ∧ Av (some ⟨g, 0, none⟩) b) p := by
      rcases List.mem_or_eq_of_mem_set hp with hp | rfl
      · exact h3 p hp
      · have h5 := h3 _ (List.getElem_mem hil)
        rw [← ep] at h5
        exact ⟨h5.1, hs, h5.2.2⟩
    exact hall.fr f (fun b hb e => hb.2 g 0 rfl e)
end
end Go.Proofs.Yteckbcfigklkpaa.Ac09
