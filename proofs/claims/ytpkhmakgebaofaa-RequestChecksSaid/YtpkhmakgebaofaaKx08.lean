/- Layer 8, the document's: the box of those with some coordinates. -/
import Derived.Test.YtpkhmakgebaofaaKw08
import Derived.Test.YtpkhmakgebaofaaKr08
import Derived.IntWalk
namespace Go.Proofs.Ytpkhmakgebaofaa.Kx08
open Go.RowKit Go.Proofs.Ytpkhmakgebaofaa.Pk08 Go.Proofs.Ytpkhmakgebaofaa.Pq08 Go.Proofs.Ytpkhmakgebaofaa.Base Go.Proofs.Ytpkhmakgebaofaa.App Go.Proofs.Ytpkhmakgebaofaa.Str Go.Proofs.Ytpkhmakgebaofaa.Ky Go.Proofs.Ytpkhmakgebaofaa.Iv Go.Proofs.Ytpkhmakgebaofaa.Bx Go.Proofs.Ytpkhmakgebaofaa.Ki08 Go.Proofs.Ytpkhmakgebaofaa.Kj08 Go.Proofs.Ytpkhmakgebaofaa.Kr08 Go.Proofs.Ytpkhmakgebaofaa.Kw08
set_option linter.unusedVariables false
set_option linter.unusedSimpArgs false
/-- What holds from round to round: the result's place, the box, its two rows. -/
structure Rn (w wr : World) (g s t d cs ct : Nat) (xs : List Int) (ks : List Nat) (i : Nat) : Prop where
  ok : okP d xs i = true
  res : Ob wr w.heap.size #[.slice none 0 0, .slice none 0 0] 25
  box : Ob wr g #[.slice (some ⟨s, 0, none⟩) d cs, .slice (some ⟨t, 0, none⟩) d ct] 25
  lo : wr.ownsRow (w.heap.size + 1) 47 1 (.slice (some ⟨s, 0, none⟩) d cs) d (u32s (setP (List.replicate d 0) xs ks i))
  hi : wr.ownsRow (w.heap.size + 1) 47 1 (.slice (some ⟨t, 0, none⟩) d ct) d (u32s (setP (List.replicate d 4294967295) xs ks i))
  ne : s ≠ t ∧ s < g ∧ t < g
  fr : Fr No w wr
theorem Rn.drewN {w wr : World} {g s t d cs ct : Nat} {xs : List Int} {ks : List Nat} {i : Nat} (h : Rn w wr g s t d cs ct xs ks i) (n : Nat) : Rn w (wr.drewN n) g s t d cs ct xs ks i :=
  ⟨h.ok, h.res.drewN n, h.box.drewN n, own_fr h.lo ((Fr.refl No wr).drewN n) (fun _ _ x => x), own_fr h.hi ((Fr.refl No wr).drewN n) (fun _ _ x => x), h.ne, h.fr.drewN n⟩
theorem Rn.drew {w wr : World} {g s t d cs ct : Nat} {xs : List Int} {ks : List Nat} {i : Nat} (h : Rn w wr g s t d cs ct xs ks i) : Rn w wr.drew g s t d cs ct xs ks i :=
  ⟨h.ok, h.res.drew, h.box.drew, h.lo.drew, h.hi.drew, h.ne, h.fr.drew⟩
theorem Rn.next {w wr : World} {g s t d cs ct : Nat} {xs : List Int} {ks : List Nat} {i m y : Nat} (h : Rn w wr g s t d cs ct xs ks i) (hx : xs.getD i 0 = (m : Int)) (hk : ks.getD i 0 = y) (h1 : prev xs i < xs.getD i 0) (h2 : xs.getD i 0 < d) :
    Rn w ((wr.setCell ⟨s, m, none⟩ (.int .u32 (y : Int))).setCell ⟨t, m, none⟩ (.int .u32 (y : Int))) g s t d cs ct xs ks (i + 1) := by
  obtain ⟨ne1, ne2, ne3⟩ := h.ne
  have ls := (h.lo.lt s rfl).1
  have lt' := (h.hi.lt t rfl).1
  refine ⟨?_, ?_, ?_, ?_, ?_, h.ne, ?_⟩
  · simp only [okP, Bool.and_eq_true, decide_eq_true_eq]
    exact ⟨h.ok, h1, h2⟩
  · exact (h.res.other (p := ⟨s, m, none⟩) (by show ¬ (w.heap.size = s); omega) _).other (p := ⟨t, m, none⟩) (by show ¬ (w.heap.size = t); omega) _
  · exact (h.box.other (p := ⟨s, m, none⟩) (by show ¬ (g = s); omega) _).other (p := ⟨t, m, none⟩) (by show ¬ (g = t); omega) _
  · have h0 := (h.lo.stored m (.int .u32 (y : Int))).1
    rw [u32s_set] at h0
    have e : setP (List.replicate d 0) xs ks (i + 1) = (setP (List.replicate d 0) xs ks i).set m y := by simp only [setP]; rw [hx, hk, Int.toNat_natCast]
    rw [e]
    exact own_fr h0 (S := fun k => k = t) ((Fr.refl (fun k => k = t) _).setCell (p := ⟨t, m, none⟩) (.inl rfl) _) (fun k hk (hb : k = t) => by simp [Value.ownBlock] at hk; omega)
  · have h0 := own_fr h.hi (S := fun k => k = s) ((Fr.refl (fun k => k = s) _).setCell (p := ⟨s, m, none⟩) (.inl rfl) (.int .u32 (y : Int))) (fun k hk (hb : k = s) => by simp [Value.ownBlock] at hk; omega)
    have h1 := (h0.stored m (.int .u32 (y : Int))).1
    rw [u32s_set] at h1
    have e : setP (List.replicate d 4294967295) xs ks (i + 1) = (setP (List.replicate d 4294967295) xs ks i).set m y := by simp only [setP]; rw [hx, hk, Int.toNat_natCast]
    rw [e]
    exact h1
  · exact ((h.fr.setCell (p := ⟨s, m, none⟩) (.inr (by show w.heap.size ≤ s; omega)) _).setCell (p := ⟨t, m, none⟩) (.inr (by show w.heap.size ≤ t; omega)) _)
theorem own_some {w : World} {base e n c : Nat} {A : Option Addr} {xs : List Value} (h : w.ownsRow base e 1 (.slice A n c) n xs) (hn : 0 < n) : ∃ s, A = some ⟨s, 0, none⟩ := by
  rcases h.2 with ⟨h1, h2⟩ | ⟨g, cap, cur, h1, _⟩
  · omega
  · injection h1 with h1; exact ⟨g, h1⟩
section
variable {w : World} {A B : Option Addr} {n m cn cm : Nat} {xs : List Int} {ks : List Nat}
theorem rpartial_bad (d : Int) (h : ¬ (1 ≤ d ∧ d ≤ 6 ∧ n = m)) (hx : n ≤ 9223372036854775807) (hk : m ≤ 9223372036854775807) :
    Calls Try.prog 17 #[.int .i64 d, .slice A n cn, .slice B m cm] w fun e w' => e = .returned (.tuple #[.agg #[.slice none 0 0, .slice none 0 0], .int .i64 1]) ∧ Fr No w w' := by
  have hO := Ob.new w #[.slice none 0 0, .slice none 0 0] 25
  have q0 := hO.cell 0 (v := .slice none 0 0) rfl
  have q1 := hO.cell 1 (v := .slice none 0 0) rfl
  have hc : d < 1 ∨ (1 ≤ d ∧ 6 < d) ∨ (1 ≤ d ∧ d ≤ 6 ∧ ((n : Int) != m) = true) := by
    by_cases h1 : d < 1
    · exact .inl h1
    · by_cases h2 : 6 < d
      · exact .inr (.inl ⟨by omega, h2⟩)
      · exact .inr (.inr ⟨by omega, by omega, bne_iff_ne.2 (fun x => h ⟨by omega, by omega, by omega⟩)⟩)
  clear h
  rcases hc with h1 | ⟨h1, h2⟩ | ⟨h1, h2, h3⟩
  all_goals
    go_enter Try.func17, Try.ntmps17
    go_wp2
    refine bodyPost_ret (v := .tuple #[.agg #[.slice none 0 0, .slice none 0 0], .int .i64 1]) (by simp [results, Try.results17, go_sem, q0, q1]) rfl ?_
    exact ⟨rfl, by first | ((repeat (first | with_reducible exact Fr.refl _ _ | with_reducible refine Fr.setCell ?_ (.inr (by first | (simp; done) | (simp; omega))) _ | with_reducible refine Fr.alloc ?_ _ | with_reducible refine Fr.drew ?_ | with_reducible refine Fr.drewN ?_ _ | with_reducible refine Fr.tr ?_ (by assumption))); done) | exact (((Fr.refl No w).alloc _).setCell (p := ⟨w.heap.size, 0, none⟩) (.inr (Nat.le_refl _)) _).setCell (p := ⟨w.heap.size, 1, none⟩) (.inr (Nat.le_refl _)) _⟩
set_option maxHeartbeats 3200000 in
theorem rpartial_in (d : Nat) (h1 : 1 ≤ d) (h2 : d ≤ 6) (hx : Iv w A n cn xs) (hk : Kv w B n cm ks) :
    Calls Try.prog 17 #[.int .i64 (d : Int), .slice A n cn, .slice B n cm] w (BoxRet w (partLo d xs ks) (partHi d xs ks) (.int .i64 (partE d xs))) := by
  have Hx := Lib.hid hx
  have Hk := Lib.hid hk
  have hcap := hx.cap
  have hmost := hx.most
  have hmx : maxLen ≤ 9223372036854775807 := by decide
  clear hx hk
  go_enter Try.func17, Try.ntmps17
  go_wp2_with (go_at_call 25; ((with_reducible refine (rwhole_ok _ h2 _).mono ?_); rintro e w1 ⟨As, n1, cs, At, n2, ct, rfl, hs1, ht1, hst, hf1⟩))
  obtain rfl : d = n1 := by have := own_len hs1; rw [u32s_len, List.length_replicate] at this; exact this
  obtain rfl : d = n2 := by have := own_len ht1; rw [u32s_len, List.length_replicate] at this; exact this
  obtain ⟨s, rfl⟩ := own_some hs1 (by omega)
  obtain ⟨t, rfl⟩ := own_some ht1 (by omega)
  have hne : s ≠ t := fun e => hst s rfl (by rw [e]; rfl)
  clear hst
  go_loopw [9] (fun v wr => ∃ i : Nat, i ≤ n ∧ v = .int .i64 i ∧ Hid (Rn w wr w1.heap.size s t d cs ct xs ks i)) (fun v _ => n - (intOf v).toNat)
  case atStart => exact ⟨0, Nat.zero_le _, rfl, Lib.hid (by
    have hz := hf1.size
    have l1 := hs1.lt s rfl
    have l2 := ht1.lt t rfl
    have hO := (Ob.new w #[.slice none 0 0, .slice none 0 0] 25).fr hf1 (fun x => x)
    have e1 : (w.alloc (.cells #[.slice none 0 0, .slice none 0 0] 25)).heap.size = w.heap.size + 1 := by simp
    rw [e1] at hs1 ht1
    exact ⟨rfl, hO.alloc _, Ob.new _ _ _, hs1.alloc _, ht1.alloc _, ⟨hne, l1.2, l2.2⟩, (((Fr.refl No w).alloc _).tr hf1).alloc _⟩)⟩
  case round =>
    obtain ⟨i, hi, rfl, Hi⟩ := hrel
    clear hs1 ht1 hf1
    by_cases hlt : i < n
    · obtain ⟨ga, oa, rfl, ca⟩ := (Hx.out.no Hi.out.fr).get i (by rw [← Hx.out.len]; exact hlt)
      have q0 := Hi.out.res.cell 0 (v := .slice none 0 0) rfl
      have q1 := Hi.out.res.cell 1 (v := .slice none 0 0) rfl
      have q2 := Hi.out.res.frozen 0
      have q3 := Hi.out.res.frozen 1
      have hprev := prev_ge d xs i Hi.out.ok
      have hno : ¬ (prev xs i < xs.getD i 0 ∧ xs.getD i 0 < d) → partE d xs = 1 ∧ partLo d xs ks = [] ∧ partHi d xs ks = [] := fun hx => by
        have hno := part_no (d := d) (xs := xs) (i := i) (by rw [← Hx.out.len]; exact hlt) hx
        exact ⟨by unfold partE; rw [hno]; rfl, by unfold partLo; rw [hno]; rfl, by unfold partHi; rw [hno]; rfl⟩
      have hcases : (xs.getD i 0 < 0) ∨ (0 ≤ xs.getD i 0 ∧ d ≤ xs.getD i 0) ∨ (0 ≤ xs.getD i 0 ∧ xs.getD i 0 < d ∧ (∃ j, i = j + 1) ∧ xs.getD i 0 ≤ prev xs i) ∨ (0 ≤ xs.getD i 0 ∧ xs.getD i 0 < d ∧ i = 0) ∨ (0 ≤ xs.getD i 0 ∧ xs.getD i 0 < d ∧ (∃ j, i = j + 1) ∧ prev xs i < xs.getD i 0) := by
        rcases i with _ | j
        · by_cases x1 : xs.getD 0 0 < 0
          · exact .inl x1
          · by_cases x2 : (d : Int) ≤ xs.getD 0 0
            · exact .inr (.inl ⟨by omega, x2⟩)
            · exact .inr (.inr (.inr (.inl ⟨by omega, by omega, rfl⟩)))
        · by_cases x1 : xs.getD (j + 1) 0 < 0
          · exact .inl x1
          · by_cases x2 : (d : Int) ≤ xs.getD (j + 1) 0
            · exact .inr (.inl ⟨by omega, x2⟩)
            · by_cases x3 : xs.getD (j + 1) 0 ≤ prev xs (j + 1)
              · exact .inr (.inr (.inl ⟨by omega, by omega, ⟨j, rfl⟩, x3⟩))
              · exact .inr (.inr (.inr (.inr ⟨by omega, by omega, ⟨j, rfl⟩, by omega⟩)))
      rcases hcases with hb | hb | hb | hb | hb
      · obtain ⟨m3, m1, m2⟩ := hno (by omega)
        generalize xs.getD i 0 = a at *
        have d1 : decide (a < 0) = true := decide_eq_true hb
        clear hno hprev
        have M := Lib.hid (And.intro m1 (And.intro m2 m3))
        clear m1 m2 m3
        go_wp2
        go_quiet (fail)
        go_wp2
        refine bodyPost_ret (v := .tuple #[.agg #[.slice none 0 0, .slice none 0 0], .int .i64 1]) (by simp [results, Try.results17, go_sem, q0, q1]) rfl ?_
        rw [M.out.1, M.out.2.1, M.out.2.2]
        exact ⟨_, 0, 0, _, 0, 0, rfl, Kv.none_ _, Kv.none_ _, (((Hi.out.fr.drewN _).setCell (p := ⟨w.heap.size, 0, none⟩) (.inr (Nat.le_refl _)) _).setCell (p := ⟨w.heap.size, 1, none⟩) (.inr (Nat.le_refl _)) _)⟩
      · obtain ⟨m3, m1, m2⟩ := hno (by omega)
        generalize xs.getD i 0 = a at *
        have d1 : decide (a < 0) = false := decide_eq_false (by omega)
        have d2 : decide ((d : Int) ≤ a) = true := decide_eq_true hb.2
        clear hno hprev
        have M := Lib.hid (And.intro m1 (And.intro m2 m3))
        clear m1 m2 m3
        go_wp2
        go_quiet (fail)
        go_wp2
        refine bodyPost_ret (v := .tuple #[.agg #[.slice none 0 0, .slice none 0 0], .int .i64 1]) (by simp [results, Try.results17, go_sem, q0, q1]) rfl ?_
        rw [M.out.1, M.out.2.1, M.out.2.2]
        exact ⟨_, 0, 0, _, 0, 0, rfl, Kv.none_ _, Kv.none_ _, (((Hi.out.fr.drewN _).setCell (p := ⟨w.heap.size, 0, none⟩) (.inr (Nat.le_refl _)) _).setCell (p := ⟨w.heap.size, 1, none⟩) (.inr (Nat.le_refl _)) _)⟩
      · obtain ⟨b1, b2, ⟨j, rfl⟩, b3⟩ := hb
        obtain ⟨gb, ob, hgb, cp⟩ := (Hx.out.no Hi.out.fr).get j (by rw [← Hx.out.len]; omega)
        injection hgb with hgb
        injection hgb with e1 e2
        subst e1; subst e2
        obtain ⟨m3, m1, m2⟩ := hno (by omega)
        have hpv : prev xs (j + 1) = xs.getD j 0 := rfl
        rw [hpv] at b3
        clear hpv
        generalize xs.getD (j + 1) 0 = a at *
        generalize xs.getD j 0 = pv at *
        have d1 : decide (a < 0) = false := decide_eq_false (by omega)
        have d2 : decide ((d : Int) ≤ a) = false := decide_eq_false (by omega)
        have d3 : decide (a ≤ pv) = true := decide_eq_true b3
        have hw0 : (0 : Int) ≤ (j : Int) + 1 - 1 := by omega
        have hw : IntKind.i64.wrap ((j : Int) + 1 - 1) = (j : Int) := by rw [IntWalk.i64_in _ (by omega)]; omega
        clear hno hprev
        have M := Lib.hid (And.intro m1 (And.intro m2 m3))
        clear m1 m2 m3
        go_wp2
        go_quiet (fail)
        go_wp2
        refine bodyPost_ret (v := .tuple #[.agg #[.slice none 0 0, .slice none 0 0], .int .i64 1]) (by simp [results, Try.results17, go_sem, q0, q1]) rfl ?_
        rw [M.out.1, M.out.2.1, M.out.2.2]
        exact ⟨_, 0, 0, _, 0, 0, rfl, Kv.none_ _, Kv.none_ _, (((Hi.out.fr.drewN _).setCell (p := ⟨w.heap.size, 0, none⟩) (.inr (Nat.le_refl _)) _).setCell (p := ⟨w.heap.size, 1, none⟩) (.inr (Nat.le_refl _)) _)⟩
      · obtain ⟨b1, b2, rfl⟩ := hb
        have hpr := Lib.hid (show prev xs 0 < xs.getD 0 0 from by show -1 < xs.getD 0 0; omega)
        have hb2 := Lib.hid b2
        generalize hae : xs.getD 0 0 = a at *
        have Hae := Lib.hid hae
        clear hae hno hprev
        have d1 : decide (a < 0) = false := decide_eq_false (by omega)
        have d2 : decide ((d : Int) ≤ a) = false := decide_eq_false (by omega)
        have ca0 : wr.cell? ⟨ga, oa, none⟩ = some (.int .i64 a) := ca
        clear ca
        go_wp2
        go_quiet (fail)
        obtain ⟨m, rfl⟩ := Int.eq_ofNat_of_zero_le b1
        have Hj := Lib.hid (Hi.out.drewN nq)
        clear Hi q0 q1 q2 q3 ca0 d1 d2
        generalize wr.drewN nq = wq at *
        obtain ⟨gx, ox, hgx, cx⟩ := (Hx.out.no Hj.out.fr).get 0 (by rw [← Hx.out.len]; exact hlt)
        injection hgx with hgx
        injection hgx with e1 e2
        subst e1; subst e2
        obtain ⟨gb, ob, rfl, cb⟩ := (Hk.out.no Hj.out.fr).get 0 (by rw [← Hk.out.len]; exact hlt)
        rw [Hae.out] at cx
        generalize hye : ks.getD 0 0 = y at *
        have Hye := Lib.hid hye
        clear hye
        have b0 := Hj.out.box.cell 0 (v := .slice (some ⟨s, 0, none⟩) d cs) rfl
        have b1 := Hj.out.box.cell 1 (v := .slice (some ⟨t, 0, none⟩) d ct) rfl
        have r0 := Hj.out.lo.frozenAt m
        have r1 := Hj.out.hi.frozenAt m
        have c0 := Hj.out.lo.cellAt m (by omega)
        have c1 := Hj.out.hi.cellAt m (by omega)
        rw [u32s_get _ m (by rw [setP_len]; simp; omega)] at c0 c1
        have gbn : gb < w.heap.size := by
          obtain ⟨b', o', hb', hc'⟩ := Hk.out.get 0 (by rw [← Hk.out.len]; exact hlt)
          injection hb' with hb'
          injection hb' with e1 e2
          rw [e1]
          exact World.block_lt_of_cell? w _ hc'
        have gan : ga < w.heap.size := by
          obtain ⟨b', o', hb', hc'⟩ := Hx.out.get 0 (by rw [← Hx.out.len]; exact hlt)
          injection hb' with hb'
          injection hb' with e1 e2
          rw [e1]
          exact World.block_lt_of_cell? w _ hc'
        obtain ⟨ne1, ne2, ne3⟩ := Hj.out.ne
        have ls := (Hj.out.lo.lt s rfl).1
        have lt' := (Hj.out.hi.lt t rfl).1
        have nk1 : gb ≠ s := by omega
        have nk2 : gb ≠ t := by omega
        have na1 : ga ≠ s := by omega
        have na2 : ga ≠ t := by omega
        have nb1 : w1.heap.size ≠ s := by omega
        have nb2 : w1.heap.size ≠ t := by omega
        have nst : t ≠ s := by omega
        go_wp2
        go_region_held3 (fun w' => w'.cell? ⟨w1.heap.size, 0, none⟩ = some (.slice (some ⟨s, 0, none⟩) d cs) ∧ w'.cell? ⟨w1.heap.size, 1, none⟩ = some (.slice (some ⟨t, 0, none⟩) d ct) ∧ w'.cell? ⟨ga, oa, none⟩ = some (.int .i64 (m : Int)) ∧ w'.cell? ⟨gb, ob, none⟩ = some (.int .u32 (y : Int)))
          (first | exact ⟨b0, b1, cx, cb⟩ | exact ⟨cell_set b0 nb1, cell_set b1 nb1, cell_set cx na1, cell_set cb nk1⟩ | fail) (fail)
        clear c0 r0
        have c1' : (wq.setCell ⟨s, m, none⟩ (.int .u32 (y : Int))).drew.cell? ⟨t, m, none⟩ = some (.int .u32 (((setP (List.replicate d 4294967295) xs ks 0).getD m 0 : Nat) : Int)) := cell_set c1 nst
        go_wp2
        go_region_held3 (fun w' => w'.cell? ⟨w1.heap.size, 0, none⟩ = some (.slice (some ⟨s, 0, none⟩) d cs) ∧ w'.cell? ⟨w1.heap.size, 1, none⟩ = some (.slice (some ⟨t, 0, none⟩) d ct) ∧ w'.cell? ⟨ga, oa, none⟩ = some (.int .i64 (m : Int)) ∧ w'.cell? ⟨gb, ob, none⟩ = some (.int .u32 (y : Int)))
          (first | exact ⟨cell_set b0 nb1, cell_set b1 nb1, cell_set cx na1, cell_set cb nk1⟩ | exact ⟨cell_set (cell_set b0 nb1) nb2, cell_set (cell_set b1 nb1) nb2, cell_set (cell_set cx na1) na2, cell_set (cell_set cb nk1) nk2⟩ | fail) (fail)
        have hn1 := Hj.out.next Hae.out Hye.out (by rw [Hae.out]; exact hpr.out) (by rw [Hae.out]; exact b2)
        have Hn1 := Lib.hid hn1
        clear hn1 Hj b0 b1 cx cb c1 c1' r1
        go_wp2
        go_roundw
        case rel => exact ⟨0 + 1, by omega, by go_num, Lib.hid Hn1.out.drew.drew⟩
        case measure => simp [intOf]; omega
      · obtain ⟨b1, b2, ⟨j, rfl⟩, b3⟩ := hb
        obtain ⟨gb, ob, hgb, cp⟩ := (Hx.out.no Hi.out.fr).get j (by rw [← Hx.out.len]; omega)
        injection hgb with hgb
        injection hgb with e1 e2
        subst e1; subst e2
        have hpr := Lib.hid b3
        have hpv : prev xs (j + 1) = xs.getD j 0 := rfl
        rw [hpv] at b3
        clear hpv
        generalize hae : xs.getD (j + 1) 0 = a at *
        have Hae := Lib.hid hae
        generalize xs.getD j 0 = pv at *
        clear hae hno hprev
        have d1 : decide (a < 0) = false := decide_eq_false (by omega)
        have d2 : decide ((d : Int) ≤ a) = false := decide_eq_false (by omega)
        have d3 : decide (a ≤ pv) = false := decide_eq_false (by omega)
        have hix : (j : Int) + 1 < n := by omega
        have hix0 : (0 : Int) ≤ (j : Int) + 1 := by omega
        have hw0 : (0 : Int) ≤ (j : Int) + 1 - 1 := by omega
        have hw : IntKind.i64.wrap ((j : Int) + 1 - 1) = (j : Int) := by rw [IntWalk.i64_in _ (by omega)]; omega
        go_wp2
        go_quiet (fail)
        obtain ⟨m, rfl⟩ := Int.eq_ofNat_of_zero_le b1
        have Hj := Lib.hid (Hi.out.drewN nq)
        clear Hi q0 q1 q2 q3 ca cp d1 d2 d3 hw hw0
        generalize wr.drewN nq = wq at *
        obtain ⟨gx, ox, hgx, cx⟩ := (Hx.out.no Hj.out.fr).get (j + 1) (by rw [← Hx.out.len]; exact hlt)
        injection hgx with hgx
        injection hgx with e1 e2
        subst e1; subst e2
        obtain ⟨gb, ob, rfl, cb⟩ := (Hk.out.no Hj.out.fr).get (j + 1) (by rw [← Hk.out.len]; exact hlt)
        rw [Hae.out] at cx
        generalize hye : ks.getD (j + 1) 0 = y at *
        have Hye := Lib.hid hye
        clear hye
        have b0 := Hj.out.box.cell 0 (v := .slice (some ⟨s, 0, none⟩) d cs) rfl
        have b1 := Hj.out.box.cell 1 (v := .slice (some ⟨t, 0, none⟩) d ct) rfl
        have r0 := Hj.out.lo.frozenAt m
        have r1 := Hj.out.hi.frozenAt m
        have c0 := Hj.out.lo.cellAt m (by omega)
        have c1 := Hj.out.hi.cellAt m (by omega)
        rw [u32s_get _ m (by rw [setP_len]; simp; omega)] at c0 c1
        have gbn : gb < w.heap.size := by
          obtain ⟨b', o', hb', hc'⟩ := Hk.out.get (j + 1) (by rw [← Hk.out.len]; exact hlt)
          injection hb' with hb'
          injection hb' with e1 e2
          rw [e1]
          exact World.block_lt_of_cell? w _ hc'
        have gan : ga < w.heap.size := by
          obtain ⟨b', o', hb', hc'⟩ := Hx.out.get (j + 1) (by rw [← Hx.out.len]; exact hlt)
          injection hb' with hb'
          injection hb' with e1 e2
          rw [e1]
          exact World.block_lt_of_cell? w _ hc'
        obtain ⟨ne1, ne2, ne3⟩ := Hj.out.ne
        have ls := (Hj.out.lo.lt s rfl).1
        have lt' := (Hj.out.hi.lt t rfl).1
        have nk1 : gb ≠ s := by omega
        have nk2 : gb ≠ t := by omega
        have na1 : ga ≠ s := by omega
        have na2 : ga ≠ t := by omega
        have nb1 : w1.heap.size ≠ s := by omega
        have nb2 : w1.heap.size ≠ t := by omega
        have nst : t ≠ s := by omega
        go_wp2
        go_region_held3 (fun w' => w'.cell? ⟨w1.heap.size, 0, none⟩ = some (.slice (some ⟨s, 0, none⟩) d cs) ∧ w'.cell? ⟨w1.heap.size, 1, none⟩ = some (.slice (some ⟨t, 0, none⟩) d ct) ∧ w'.cell? ⟨ga, oa + (j + 1), none⟩ = some (.int .i64 (m : Int)) ∧ w'.cell? ⟨gb, ob + (j + 1), none⟩ = some (.int .u32 (y : Int)))
          (first | exact ⟨b0, b1, cx, cb⟩ | exact ⟨cell_set b0 nb1, cell_set b1 nb1, cell_set cx na1, cell_set cb nk1⟩ | fail) (fail)
        clear c0 r0
        have c1' : (wq.setCell ⟨s, m, none⟩ (.int .u32 (y : Int))).drew.cell? ⟨t, m, none⟩ = some (.int .u32 (((setP (List.replicate d 4294967295) xs ks (j + 1)).getD m 0 : Nat) : Int)) := cell_set c1 nst
        go_wp2
        go_region_held3 (fun w' => w'.cell? ⟨w1.heap.size, 0, none⟩ = some (.slice (some ⟨s, 0, none⟩) d cs) ∧ w'.cell? ⟨w1.heap.size, 1, none⟩ = some (.slice (some ⟨t, 0, none⟩) d ct) ∧ w'.cell? ⟨ga, oa + (j + 1), none⟩ = some (.int .i64 (m : Int)) ∧ w'.cell? ⟨gb, ob + (j + 1), none⟩ = some (.int .u32 (y : Int)))
          (first | exact ⟨cell_set b0 nb1, cell_set b1 nb1, cell_set cx na1, cell_set cb nk1⟩ | exact ⟨cell_set (cell_set b0 nb1) nb2, cell_set (cell_set b1 nb1) nb2, cell_set (cell_set cx na1) na2, cell_set (cell_set cb nk1) nk2⟩ | fail) (fail)
        have hn1 := Hj.out.next Hae.out Hye.out (by rw [Hae.out]; exact hpr.out) (by rw [Hae.out]; exact b2)
        have Hn1 := Lib.hid hn1
        clear hn1 Hj b0 b1 cx cb c1 c1' r1
        go_wp2
        go_roundw
        case rel => exact ⟨(j + 1) + 1, by omega, by go_num, Lib.hid Hn1.out.drew.drew⟩
        case measure => simp [intOf]; omega
    · obtain rfl : i = n := by omega
      have b0 := Hi.out.box.cell 0 (v := .slice (some ⟨s, 0, none⟩) d cs) rfl
      have b1 := Hi.out.box.cell 1 (v := .slice (some ⟨t, 0, none⟩) d ct) rfl
      have q0 := Hi.out.res.cell 0 (v := .slice none 0 0) rfl
      have q1 := Hi.out.res.cell 1 (v := .slice none 0 0) rfl
      have q2 := Hi.out.res.frozen 0
      have q3 := Hi.out.res.frozen 1
      have hrf := (Hi.out.res.set 0 (.slice (some ⟨s, 0, none⟩) d cs)).set 1 (.slice (some ⟨t, 0, none⟩) d ct)
      have p0 := hrf.cell 0 (v := .slice (some ⟨s, 0, none⟩) d cs) rfl
      have p1 := hrf.cell 1 (v := .slice (some ⟨t, 0, none⟩) d ct) rfl
      go_wp2
      refine bodyPost_ret (v := .tuple #[.agg #[.slice (some ⟨s, 0, none⟩) d cs, .slice (some ⟨t, 0, none⟩) d ct], .int .i64 0]) (by simp [results, Try.results17, go_sem, p0, p1]) rfl ?_
      have hok : partOk d xs = true := by unfold partOk; rw [← Hx.out.len]; exact Hi.out.ok
      have m1 : partLo d xs ks = setP (List.replicate d 0) xs ks i := by unfold partLo; rw [hok, if_pos rfl, ← Hx.out.len]
      have m2 : partHi d xs ks = setP (List.replicate d 4294967295) xs ks i := by unfold partHi; rw [hok, if_pos rfl, ← Hx.out.len]
      have m3 : partE d xs = 0 := by unfold partE; rw [hok]; rfl
      rw [m1, m2, m3]
      have ls := (Hi.out.lo.lt s rfl).1
      have lt' := (Hi.out.hi.lt t rfl).1
      have k1 := Kv.of_own Hi.out.lo (setP_lt (by simp) Hk.out.ltD i)
      have k2 := Kv.of_own Hi.out.hi (setP_lt (by simp) Hk.out.ltD i)
      have hS : ∀ {C : Option Addr} {q c : Nat} {zs : List Nat} {g : Nat}, C = some ⟨g, 0, none⟩ → g ≠ w.heap.size → Kv wr C q c zs → Kv ((wr.setCell ⟨w.heap.size, 0, none⟩ (.slice (some ⟨s, 0, none⟩) d cs)).setCell ⟨w.heap.size, 1, none⟩ (.slice (some ⟨t, 0, none⟩) d ct)) C q c zs := fun hC hg h =>
        h.fr (S := fun k => k = w.heap.size) (((Fr.refl (fun k => k = w.heap.size) wr).setCell (p := ⟨w.heap.size, 0, none⟩) (.inl rfl) _).setCell (p := ⟨w.heap.size, 1, none⟩) (.inl rfl) _) (fun b off e (hb : b = w.heap.size) => by
          rw [hC] at e
          injection e with e
          injection e with e1 e2
          exact hg (e1.trans hb))
      exact ⟨_, d, cs, _, d, ct, rfl, hS rfl (by omega) k1, hS rfl (by omega) k2, ((Hi.out.fr.setCell (p := ⟨w.heap.size, 0, none⟩) (.inr (Nat.le_refl _)) _).setCell (p := ⟨w.heap.size, 1, none⟩) (.inr (Nat.le_refl _)) _)⟩
end
end Go.Proofs.Ytpkhmakgebaofaa.Kx08
