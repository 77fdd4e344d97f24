/- Layer 10, laws: records put in any order. -/
import Derived.Test.YtehhmpoijonghaaBm10
import Derived.StillTailTactics
namespace Go.Proofs.Ytehhmpoijonghaa.Bn10
open Go.RowKit Go.Proofs.Ytehhmpoijonghaa.Pk08 Go.Proofs.Ytehhmpoijonghaa.Base Go.Proofs.Ytehhmpoijonghaa.App Go.Proofs.Ytehhmpoijonghaa.Ty Go.Proofs.Ytehhmpoijonghaa.Str Go.Proofs.Ytehhmpoijonghaa.Ky Go.Proofs.Ytehhmpoijonghaa.Bx Go.Proofs.Ytehhmpoijonghaa.Kk Go.Proofs.Ytehhmpoijonghaa.Bo Go.Proofs.Ytehhmpoijonghaa.As Go.Proofs.Ytehhmpoijonghaa.Pl08 Go.Proofs.Ytehhmpoijonghaa.Kc08 Go.Proofs.Ytehhmpoijonghaa.Kd08 Go.Proofs.Ytehhmpoijonghaa.Rv Go.Proofs.Ytehhmpoijonghaa.Ra Go.Proofs.Ytehhmpoijonghaa.Rp Go.Proofs.Ytehhmpoijonghaa.Ro Go.Proofs.Ytehhmpoijonghaa.Rk Go.Proofs.Ytehhmpoijonghaa.Rs Go.Proofs.Ytehhmpoijonghaa.Ri Go.Proofs.Ytehhmpoijonghaa.Rb Go.Proofs.Ytehhmpoijonghaa.Rc Go.Proofs.Ytehhmpoijonghaa.Rf Go.Proofs.Ytehhmpoijonghaa.Ru Go.Proofs.Ytehhmpoijonghaa.Fa Go.Proofs.Ytehhmpoijonghaa.Bi10 Go.Proofs.Ytehhmpoijonghaa.Bj10 Go.Proofs.Ytehhmpoijonghaa.Bk10 Go.Proofs.Ytehhmpoijonghaa.Bl10 Go.Proofs.Ytehhmpoijonghaa.Bm10
set_option linter.unusedVariables false
set_option linter.unusedSimpArgs false
section
variable {l rs : List Rv.Rec} {r : Rv.Rec}
theorem put_last (h : ∀ x ∈ l, lt x r) : put l r = l ++ [r] := by
  have hp : fpos l r.1 = l.length := fpos_unique l r.1 l.length (Nat.le_refl _) (fun i hi _ => h _ (List.getElem_mem hi)) (fun hx => by omega)
  have hf : ¬ fis l r.1 = true := fun hc => by obtain ⟨hx, _⟩ := (fis_iff l r.1).1 hc; omega
  unfold put
  rw [if_neg hf, hp, List.take_length, List.drop_length]
theorem put_first (h : ∀ x ∈ l, lt r x) : put l r = r :: l := by
  have hp : fpos l r.1 = 0 := fpos_unique l r.1 0 (Nat.zero_le _) (fun i hi hx => by omega) (fun hx => by
    have h1 := h _ (List.getElem_mem hx)
    have h2 := cmp_swap l[0].1 r.1
    unfold lt at h1
    omega)
  have hf : ¬ fis l r.1 = true := fun hc => by
    obtain ⟨hx, he⟩ := (fis_iff l r.1).1 hc
    have h1 := h _ (List.getElem_mem hx)
    unfold lt at h1
    rw [he, cmp_self] at h1
    omega
  unfold put
  rw [if_neg hf, hp]
  simp
theorem cut_first : cut (r :: l) r.1 = l ∧ fis (r :: l) r.1 = true := by
  have hp : fpos (r :: l) r.1 = 0 := fpos_unique (r :: l) r.1 0 (Nat.zero_le _) (fun i hi hx => by omega) (fun hx => by simp [cmp_self])
  have hf : fis (r :: l) r.1 = true := (fis_iff _ _).2 ⟨by rw [hp]; simp, by simp [hp]⟩
  refine ⟨?_, hf⟩
  unfold cut
  rw [if_pos hf, hp]
  simp
theorem strict_lt (hs : Strict rs) {i j : Nat} (hij : i < j) (hj : j < rs.length) : lt (rs.getD i rec0) (rs.getD j rec0) := by
  have e1 : rs.getD i rec0 = rs[i] := by simp [List.getD_eq_getElem?_getD, show i < rs.length by omega]
  have e2 : rs.getD j rec0 = rs[j] := by simp [List.getD_eq_getElem?_getD, hj]
  rw [e1, e2]
  exact List.pairwise_iff_getElem.1 hs i j (by omega) hj hij
theorem drop_at (i : Nat) (h : i < rs.length) : rs.drop i = rs.getD i rec0 :: rs.drop (i + 1) := by
  rw [List.drop_eq_getElem_cons h]
  simp [List.getD_eq_getElem?_getD, h]
theorem put_up (hs : Strict rs) (i : Nat) (h : i < rs.length) : put (rs.take i) (rs.getD i rec0) = rs.take (i + 1) := by
  rw [put_last, Go.Proofs.Ytehhmpoijonghaa.Rk.take_succ rs i h]
  intro x hx
  obtain ⟨j, hj, rfl⟩ := List.mem_iff_getElem.1 hx
  have hj2 : j < i := by rw [List.length_take] at hj; omega
  have := strict_lt hs hj2 h
  have e : rs.getD j rec0 = rs[j]'(by omega) := by simp [List.getD_eq_getElem?_getD, show j < rs.length by omega]
  rw [List.getElem_take, ← e]
  exact this
theorem put_down (hs : Strict rs) (i : Nat) (h : i < rs.length) : put (rs.drop (i + 1)) (rs.getD i rec0) = rs.drop i := by
  rw [put_first, ← drop_at i h]
  intro x hx
  obtain ⟨j, hj, rfl⟩ := List.mem_iff_getElem.1 hx
  have hj2 : i + 1 + j < rs.length := by rw [List.length_drop] at hj; omega
  have := strict_lt hs (show i < i + 1 + j by omega) hj2
  have e : rs.getD (i + 1 + j) rec0 = rs[i + 1 + j] := by simp [List.getD_eq_getElem?_getD, hj2]
  rw [List.getElem_drop, ← e]
  exact this
theorem short_take (h : Short rs) (i : Nat) : Short (rs.take i) := ⟨by rw [List.length_take]; have := h.1; omega, fun x hx => h.2 x (List.mem_of_mem_take hx)⟩
theorem short_drop (h : Short rs) (i : Nat) : Short (rs.drop i) := ⟨by rw [List.length_drop]; have := h.1; omega, fun x hx => h.2 x (List.mem_of_mem_drop hx)⟩
end
section
variable {w : World} {A K : Option Addr} {i m c kc : Nat} {rs : List Rv.Rec} {ks : List Nat} {s : ByteArray}
theorem up_any (hr : Rv w A i c (rs.take i)) (hi : i < rs.length) (hs : Strict rs) (hsh : Short rs) (hk : Kv w K ks.length kc ks) (he : rs.getD i rec0 = (ks, s)) (hz : s.size ≤ maxLen) :
    Calls Try.prog 22 #[.slice A i c, .agg #[.slice K ks.length kc, .string s]] w fun e w' => ∃ A1 c1, e = .returned (.slice A1 (i + 1) c1) ∧ Rv w' A1 (i + 1) c1 (rs.take (i + 1)) ∧ Fr No w w' := by
  have hp := put_up hs i hi
  rw [he] at hp
  have h := put_any (s := s) hr hk hz (strict_take hs i) (by rw [hp]; exact short_take hsh _) (by have := hsh.1; omega)
  rw [hp] at h
  refine h.mono ?_
  rintro e w' ⟨A1, n1, c1, rfl, ho, hf⟩
  have hv := ho.rv
  obtain rfl : n1 = i + 1 := by have := hv.len; rw [List.length_take] at this; omega
  exact ⟨A1, c1, rfl, hv, hf⟩
theorem down_any {x : Nat} (hr : Rv w A m c (rs.drop (x + 1))) (hi : x < rs.length) (hs : Strict rs) (hsh : Short rs) (hk : Kv w K ks.length kc ks) (he : rs.getD x rec0 = (ks, s)) (hz : s.size ≤ maxLen) :
    Calls Try.prog 22 #[.slice A m c, .agg #[.slice K ks.length kc, .string s]] w fun e w' => ∃ A1 c1, e = .returned (.slice A1 (m + 1) c1) ∧ Rv w' A1 (m + 1) c1 (rs.drop x) ∧ Fr No w w' := by
  have hp := put_down hs x hi
  rw [he] at hp
  have hl := hr.len
  rw [List.length_drop] at hl
  have h := put_any (s := s) hr hk hz (strict_drop hs _) (by rw [hp]; exact short_drop hsh _) (by have := hsh.1; omega)
  rw [hp] at h
  refine h.mono ?_
  rintro e w' ⟨A1, n1, c1, rfl, ho, hf⟩
  have hv := ho.rv
  obtain rfl : n1 = m + 1 := by have := hv.len; rw [List.length_drop] at this; omega
  exact ⟨A1, c1, rfl, hv, hf⟩
theorem head_any {kn : Nat} (hr : Rv w A (m + 1) c (rs.drop i)) (hi : i < rs.length) (hs : Strict rs) (hsh : Short rs) (hk : Kv w K kn kc ks) (he : (rs.getD i rec0).1 = ks) :
    Calls Try.prog 23 #[.slice A (m + 1) c, .slice K kn kc] w fun e w' => ∃ A1 c1, e = .returned (.tuple #[.slice A1 m c1, .bool true]) ∧ Rv w' A1 m c1 (rs.drop (i + 1)) ∧ Fr No w w' := by
  have hl := hr.len
  rw [List.length_drop] at hl
  have h := cut_any hr hk (strict_drop hs _) (short_drop hsh _)
  obtain ⟨q1, q2⟩ := cut_first (l := rs.drop (i + 1)) (r := rs.getD i rec0)
  rw [← drop_at i hi, he] at q1 q2
  rw [q1, q2] at h
  refine h.mono ?_
  rintro e w' ⟨A1, n1, c1, rfl, ho, hf⟩
  have hv := ho.rv
  obtain rfl : n1 = m := by have := hv.len; rw [List.length_drop] at this; omega
  exact ⟨A1, c1, rfl, hv, hf⟩
end
set_option maxRecDepth 8000 in
set_option maxHeartbeats 3200000 in
theorem law_many {E1 E2 : TypeId} (w : World) (A : Option Addr) (n c : Nat) (x : List (recT E2).D) (h : Rd (.sl E1 (recT E2)) w x [.slice A n c]) (z : Int) (hz : (Lit.int .i64 z).wf = true) :
    Calls Try.prog 8 #[.slice A n c, .int .i64 z] w fun e w' => e = .returned (.bool true) ∧ Fr No w w' := by
  obtain ⟨rs, hr⟩ := Rv.of_rd h
  clear h x hz
  have Hr := Lib.hid hr
  clear hr
  cases hf : fewB rs with
  | false =>
    have Hf := Lib.hid hf
    clear hf
    go_enter Try.func8, Try.ntmps8
    go_wp2_with first
      | (go_at_call 9; ((with_reducible refine (few_any (rs := rs) ?_).mono ?_); (focus ((have hr := Hr.out); (repeat (first | with_reducible assumption | with_reducible exact Rv.none_ _ | with_reducible refine Rv.alloc ?_ _ | with_reducible refine Rv.drew ?_ | with_reducible refine Rv.drewN ?_ _ | with_reducible refine Rv.no ?_ (by assumption))))); rintro e w1 ⟨rfl, rfl⟩; rw [Hf.out]))
      | (go_at_call 10; ((with_reducible refine (live _).mono ?_); rintro e wl ⟨rfl, hfl⟩))
      | fail
    go_ret
    exact ⟨rfl, by (repeat (first | with_reducible exact Fr.refl _ _ | with_reducible refine Fr.setCell ?_ (.inr (by first | (simp; done) | (simp; omega))) _ | with_reducible refine Fr.alloc ?_ _ | with_reducible refine Fr.drew ?_ | with_reducible refine Fr.drewN ?_ _ | with_reducible refine Fr.tr ?_ (by assumption)))⟩
  | true =>
    have Hf := Lib.hid hf
    have Ht := Lib.hid (few_tiny hf)
    clear hf
    cases hi : isBk z rs with
    | false =>
      have Hi := Lib.hid hi
      clear hi
      go_enter Try.func8, Try.ntmps8
      go_wp2_with first
        | (go_at_call 9; ((with_reducible refine (few_any (rs := rs) ?_).mono ?_); (focus ((have hr := Hr.out); (repeat (first | with_reducible assumption | with_reducible exact Rv.none_ _ | with_reducible refine Rv.alloc ?_ _ | with_reducible refine Rv.drew ?_ | with_reducible refine Rv.drewN ?_ _ | with_reducible refine Rv.no ?_ (by assumption))))); rintro e w1 ⟨rfl, rfl⟩; rw [Hf.out]))
        | (go_at_call 20; ((with_reducible refine (ris_any (rs := rs) _ ?_).mono ?_); (focus ((have hr := Hr.out); (repeat (first | with_reducible assumption | with_reducible exact Rv.none_ _ | with_reducible refine Rv.alloc ?_ _ | with_reducible refine Rv.drew ?_ | with_reducible refine Rv.drewN ?_ _ | with_reducible refine Rv.no ?_ (by assumption))))); rintro e w2 ⟨rfl, hf2⟩; rw [Hi.out]))
        | (go_at_call 10; ((with_reducible refine (live _).mono ?_); rintro e wl ⟨rfl, hfl⟩))
        | fail
      go_ret
      exact ⟨rfl, by (repeat (first | with_reducible exact Fr.refl _ _ | with_reducible refine Fr.setCell ?_ (.inr (by first | (simp; done) | (simp; omega))) _ | with_reducible refine Fr.alloc ?_ _ | with_reducible refine Fr.drew ?_ | with_reducible refine Fr.drewN ?_ _ | with_reducible refine Fr.tr ?_ (by assumption)))⟩
    | true =>
      have Hi := Lib.hid hi
      have Hs := Lib.hid (isBk_strict hi)
      clear hi
      have hn60 : n ≤ 60 := by have := Hr.out.len; have := Ht.out.2.2; omega
      have HN := Lib.hid Hr.out.len
      go_enter Try.func8, Try.ntmps8
      go_wp2_with first
        | (go_at_call 9; ((with_reducible refine (few_any (rs := rs) ?_).mono ?_); (focus ((have hr := Hr.out); (repeat (first | with_reducible assumption | with_reducible exact Rv.none_ _ | with_reducible refine Rv.alloc ?_ _ | with_reducible refine Rv.drew ?_ | with_reducible refine Rv.drewN ?_ _ | with_reducible refine Rv.no ?_ (by assumption))))); rintro e w1 ⟨rfl, rfl⟩; rw [Hf.out]))
        | (go_at_call 20; ((with_reducible refine (ris_any (rs := rs) _ ?_).mono ?_); (focus ((have hr := Hr.out); (repeat (first | with_reducible assumption | with_reducible exact Rv.none_ _ | with_reducible refine Rv.alloc ?_ _ | with_reducible refine Rv.drew ?_ | with_reducible refine Rv.drewN ?_ _ | with_reducible refine Rv.no ?_ (by assumption))))); rintro e w2 ⟨rfl, hf2⟩; rw [Hi.out]))
        | fail
      have Hf2 := Lib.hid hf2
      clear hf2
      go_loopw [7, 5, 6] (fun v a b wr => ∃ (i : Nat) (P : Option Addr) (cP : Nat) (Q : Option Addr) (cQ : Nat), v = .int .i64 i ∧ a = .slice P i cP ∧ b = .slice Q i cQ ∧ i ≤ n ∧ Hid (Rv wr P i cP (rs.take i) ∧ Rv wr Q i cQ (rs.drop (n - i)) ∧ Fr No w wr)) (fun v _ _ _ => n - (intOf v).toNat)
      case atStart => exact ⟨0, none, 0, none, 0, rfl, rfl, rfl, Nat.zero_le _, Lib.hid ⟨by simpa using Rv.none_ _, by rw [Nat.sub_zero, List.drop_of_length_le (by rw [HN.out]; exact Nat.le_refl _)]; exact Rv.none_ _, Hf2.out⟩⟩
      case round =>
        obtain ⟨i, P, cP, Q, cQ, rfl, rfl, rfl, hin, Hj⟩ := hrel
        by_cases hlt : i < n
        · obtain ⟨x, hx⟩ : ∃ x, n = x + 1 + i := ⟨n - 1 - i, by omega⟩
          obtain ⟨b, off, KA, ka, rfl, a0, a1, hka, hza⟩ := (Hr.out.no Hj.out.2.2).get i (by rw [← HN.out]; exact hlt)
          obtain ⟨b', off', KB, kb, hA, p0, p1, hkb, hzb⟩ := (Hr.out.no Hj.out.2.2).get x (by rw [← HN.out]; omega)
          injection hA with hA
          injection hA with hA1 hA2
          subst hA1; subst hA2
          have Hup := Lib.hid (fun W A c K kc h1 h2 => up_any (w := W) (A := A) (c := c) (K := K) (kc := kc) (rs := rs) (i := i) (ks := (rs.getD i rec0).1) (s := (rs.getD i rec0).2) h1 (by rw [← HN.out]; exact hlt) Hs.out Ht.out.2.1 h2 rfl hza)
          have Hdn := Lib.hid (fun W A c K kc h1 h2 => down_any (w := W) (A := A) (m := i) (c := c) (K := K) (kc := kc) (rs := rs) (x := x) (ks := (rs.getD x rec0).1) (s := (rs.getD x rec0).2) h1 (by rw [← HN.out]; omega) Hs.out Ht.out.2.1 h2 rfl hzb)
          have HP := Lib.hid Hj.out.1
          have HQ := Lib.hid (show Rv wr Q i cQ (rs.drop (x + 1)) by have := Hj.out.2.1; rwa [show n - i = x + 1 by omega] at this)
          have hxz : (n : Int) - 1 - (i : Int) = (x : Int) := by omega
          have hn1 : n - (i + 1) = x := by omega
          generalize rs.getD i rec0 = r at *
          generalize rs.getD x rec0 = q at *
          obtain ⟨ks, s⟩ := r
          obtain ⟨ls, t⟩ := q
          simp only at *
          have Hka := Lib.hid hka
          have Hkb := Lib.hid hkb
          have Hn1 := Lib.hid hn1
          clear hka hkb hn1 hx
          go_wp2_with first
            | (go_at_call 22; ((with_reducible refine (Hup.out _ _ _ _ _ HP.out Hka.out).mono ?_); rintro e w3 ⟨A3, c3, rfl, hv3, hf3⟩; (have p0' := cel_no p0 hf3); (have p1' := cel_no p1 hf3)))
            | (go_at_call 22; ((with_reducible refine (Hdn.out _ _ _ _ _ (HQ.out.no hf3) (Hkb.out.no hf3)).mono ?_); rintro e w4 ⟨A4, c4, rfl, hv4, hf4⟩))
            | fail
          exact ⟨⟨i + 1, A3, c3, A4, c4, by go_num, rfl, rfl, hlt, Lib.hid ⟨hv3.no hf4, by rw [Hn1.out]; exact hv4, (Hj.out.2.2.tr hf3).tr hf4⟩⟩, by simp [intOf]; omega⟩
        · obtain rfl : i = n := by omega
          have hva := Hj.out.1
          have hvb := Hj.out.2.1
          rw [List.take_of_length_le (by rw [HN.out]; exact Nat.le_refl _)] at hva
          rw [Nat.sub_self, List.drop_zero] at hvb
          have Hva := Lib.hid hva
          have Hvb := Lib.hid hvb
          clear hva hvb
          go_wp2_with first
            | (go_at_call 19; ((with_reducible refine (lS (l := rs) Hva.out (Hr.out.no Hj.out.2.2)).mono ?_); rintro e w5 ⟨rfl, hf5⟩))
            | (go_at_call 19; ((with_reducible refine (lS (l := rs) (Hvb.out.no hf5) ((Hr.out.no Hj.out.2.2).no hf5)).mono ?_); rintro e w6 ⟨rfl, hf6⟩))
            | fail
          have Hf6 := Lib.hid ((Hj.out.2.2.tr hf5).tr hf6)
          have Hvb6 := Lib.hid ((Hvb.out.no hf5).no hf6)
          clear hf5 hf6
          go_loopw [8, 6] (fun v b wr => ∃ (k m : Nat) (Q : Option Addr) (cQ : Nat), v = .int .i64 k ∧ b = .slice Q m cQ ∧ k + m = i ∧ Hid (Rv wr Q m cQ (rs.drop k) ∧ Fr No w wr)) (fun v _ _ => i - (intOf v).toNat)
          case atStart => exact ⟨0, i, Q, cQ, rfl, rfl, by omega, Lib.hid ⟨by simpa using Hvb6.out, Hf6.out⟩⟩
          case round =>
            obtain ⟨k, m, Q, cQ, rfl, rfl, hkm, Hk⟩ := hrel
            by_cases hkt : k < i
            · obtain ⟨m, rfl⟩ : ∃ y, m = y + 1 := ⟨m - 1, by omega⟩
              obtain ⟨b, off, KA, ka, rfl, a0, a1, hka, hza⟩ := (Hr.out.no Hk.out.2).get k (by rw [← HN.out]; exact hkt)
              have Hhd := Lib.hid (fun W A c K kc kn h1 h2 => head_any (w := W) (A := A) (m := m) (c := c) (K := K) (kc := kc) (kn := kn) (rs := rs) (i := k) (ks := (rs.getD k rec0).1) h1 (by rw [← HN.out]; exact hkt) Hs.out Ht.out.2.1 h2 rfl)
              generalize rs.getD k rec0 = r at *
              obtain ⟨ks, s⟩ := r
              simp only at *
              have Hka := Lib.hid hka
              clear hka
              go_wp2_with (go_at_call 23; ((with_reducible refine (Hhd.out _ _ _ _ _ _ Hk.out.1 Hka.out).mono ?_); rintro e w7 ⟨A7, c7, rfl, hv7, hf7⟩))
              exact ⟨⟨k + 1, m, A7, c7, by go_num, rfl, by omega, Lib.hid ⟨hv7, Hk.out.2.tr hf7⟩⟩, by simp [intOf]; omega⟩
            · obtain rfl : k = i := by omega
              go_wp2_with (go_at_call 10; ((with_reducible refine (live _).mono ?_); rintro e wl ⟨rfl, hfl⟩))
              go_ret
              exact ⟨rfl, Hk.out.2.tr hfl⟩
end Go.Proofs.Ytehhmpoijonghaa.Bn10
