/- Layer 8, further: Partial (under way). -/
import Derived.Test.YtpkhmakgebaofaaKs08
namespace Go.Proofs.Ytpkhmakgebaofaa.Kr08
open Go.RowKit Go.Proofs.Ytpkhmakgebaofaa.Pk08 Go.Proofs.Ytpkhmakgebaofaa.Pq08 Go.Proofs.Ytpkhmakgebaofaa.Base Go.Proofs.Ytpkhmakgebaofaa.App Go.Proofs.Ytpkhmakgebaofaa.Str Go.Proofs.Ytpkhmakgebaofaa.Ky Go.Proofs.Ytpkhmakgebaofaa.Iv Go.Proofs.Ytpkhmakgebaofaa.Kc08 Go.Proofs.Ytpkhmakgebaofaa.Kd08 Go.Proofs.Ytpkhmakgebaofaa.Ke08 Go.Proofs.Ytpkhmakgebaofaa.Ki08 Go.Proofs.Ytpkhmakgebaofaa.Kj08 Go.Proofs.Ytpkhmakgebaofaa.Kn08 Go.Proofs.Ytpkhmakgebaofaa.Ko08
set_option linter.unusedVariables false
set_option linter.unusedSimpArgs false
def partOk (d : Nat) (xs : List Int) : Bool := okP d xs xs.length
def partLo (d : Nat) (xs : List Int) (ks : List Nat) : List Nat := if partOk d xs = true then setP (List.replicate d 0) xs ks xs.length else []
def partHi (d : Nat) (xs : List Int) (ks : List Nat) : List Nat := if partOk d xs = true then setP (List.replicate d 4294967295) xs ks xs.length else []
def partE (d : Nat) (xs : List Int) : Int := if partOk d xs = true then 0 else 1
theorem part_no {d : Nat} {xs : List Int} {i : Nat} (hi : i < xs.length) (h : ¬ (prev xs i < xs.getD i 0 ∧ xs.getD i 0 < d)) : partOk d xs = false := by
  cases ho : partOk d xs with
  | false => rfl
  | true =>
    have := okP_le d xs xs.length (i + 1) (by omega) ho
    simp only [okP, Bool.and_eq_true, decide_eq_true_eq] at this
    exact absurd this.2 h
theorem setP_lt {base : List Nat} {xs : List Int} {ks : List Nat} (hb : ∀ x ∈ base, x < 4294967296) (hk : ∀ i, ks.getD i 0 < 4294967296) (i : Nat) : ∀ x ∈ setP base xs ks i, x < 4294967296 := by
  induction i with
  | zero => exact hb
  | succ i ih =>
    intro x hx
    simp only [setP] at hx
    rcases List.mem_or_eq_of_mem_set hx with h | h
    · exact ih x h
    · rw [h]; exact hk i
/-- What holds from round to round: the result's place, the box, its two rows. -/
structure Rnd (w wr : World) (g s t d : Nat) (xs : List Int) (ks : List Nat) (i : Nat) : Prop where
  ok : okP d xs i = true
  res : Ob wr w.heap.size #[.slice none 0 0, .slice none 0 0] 25
  box : Ob wr g #[.slice (some ⟨s, 0, none⟩) d d, .slice (some ⟨t, 0, none⟩) d d] 25
  lo : wr.ownsRow (w.heap.size + 1) 47 1 (.slice (some ⟨s, 0, none⟩) d d) d (u32s (setP (List.replicate d 0) xs ks i))
  hi : wr.ownsRow (w.heap.size + 1) 47 1 (.slice (some ⟨t, 0, none⟩) d d) d (u32s (setP (List.replicate d 4294967295) xs ks i))
  ne : s ≠ t ∧ s < g ∧ t < g
  fr : Fr No w wr
section
variable {w : World} {A B : Option Addr} {n cn cm : Nat} {xs : List Int} {ks : List Nat}
set_option maxHeartbeats 1600000 in
theorem partial_in (d : Nat) (h1 : 1 ≤ d) (h2 : d ≤ 6) (hx : Iv w A n cn xs) (hk : Kv w B n cm ks) :
    Calls Try.prog 15 #[.int .i64 (d : Int), .slice A n cn, .slice B n cm] w (BoxRet w (partLo d xs ks) (partHi d xs ks) (.int .i64 (partE d xs))) := by
  have hd : decide (1 ≤ (d : Int) ∧ (d : Int) ≤ 6) = true := decide_eq_true ⟨by omega, by omega⟩
  have Hx := Lib.hid hx
  have Hk := Lib.hid hk
  have hcap := hx.cap
  have hmost := hx.most
  have hmx : maxLen ≤ 9223372036854775807 := by decide
  clear hx hk
  go_enter Try.func15, Try.ntmps15
  go_wp2_with (first
    | (go_at_call 23; ((with_reducible refine (isDim_any _ _).mono ?_); rintro e w' ⟨rfl, rfl⟩; rw [hd]))
    | (go_at_call 24; ((with_reducible refine (whole_ok _ h1 h2 _).mono ?_); rintro e w1 ⟨s, t, hst, rfl, hs1, ht1, hf1⟩))
    | fail)
  go_loopw [27, 9] (fun v u wr => ∃ i : Nat, i ≤ n ∧ v = .int .i64 i ∧ u = .int .i64 (prev xs i) ∧ Hid (Rnd w wr w1.heap.size s t d xs ks i)) (fun v _ _ => n - (intOf v).toNat)
  case atStart => exact ⟨0, Nat.zero_le _, rfl, rfl, Lib.hid (by
    have hz := hf1.size
    have l1 := hs1.lt s rfl
    have l2 := ht1.lt t rfl
    have hO := (Ob.new w #[.slice none 0 0, .slice none 0 0] 25).fr hf1 (fun x => x)
    have e1 : (w.alloc (.cells #[.slice none 0 0, .slice none 0 0] 25)).heap.size = w.heap.size + 1 := by simp
    rw [e1] at hs1 ht1
    exact ⟨rfl, hO.alloc _, Ob.new _ _ _, hs1.alloc _, ht1.alloc _, ⟨hst, l1.2, l2.2⟩, (((Fr.refl No w).alloc _).tr hf1).alloc _⟩)⟩
  case round =>
    obtain ⟨i, hi, rfl, rfl, Hi⟩ := hrel
    by_cases hlt : i < n
    · obtain ⟨ga, oa, rfl, ca⟩ := (Hx.out.no Hi.out.fr).get i (by rw [← Hx.out.len]; exact hlt)
      obtain ⟨gb, ob, rfl, cb⟩ := (Hk.out.no Hi.out.fr).get i (by rw [← Hk.out.len]; exact hlt)
      have q0 := Hi.out.res.cell 0 (v := .slice none 0 0) rfl
      have q1 := Hi.out.res.cell 1 (v := .slice none 0 0) rfl
      have q2 := Hi.out.res.frozen 0
      have q3 := Hi.out.res.frozen 1
      generalize hpve : prev xs i = pv at *
      generalize hae : xs.getD i 0 = a at *
      have hpv : -1 ≤ pv := by rw [← hpve]; exact prev_ge d xs i Hi.out.ok
      by_cases hok : pv < a
      · by_cases hok2 : a < d
        · obtain ⟨m, rfl⟩ := Int.eq_ofNat_of_zero_le (show 0 ≤ a by omega)
          have b0 := Hi.out.box.cell 0 (v := .slice (some ⟨s, 0, none⟩) d d) rfl
          have b1 := Hi.out.box.cell 1 (v := .slice (some ⟨t, 0, none⟩) d d) rfl
          have r0 := Hi.out.lo.frozenAt m
          have r1 := Hi.out.hi.frozenAt m
          generalize hye : ks.getD i 0 = y at *
          have c0 := Hi.out.lo.cellAt m (by omega)
          have c1 := Hi.out.hi.cellAt m (by omega)
          rw [u32s_get _ m (by rw [setP_len]; simp; omega)] at c0 c1
          have gbn : gb < w.heap.size := by
            obtain ⟨b', o', hb', hc'⟩ := Hk.out.get i (by rw [← Hk.out.len]; exact hlt)
            injection hb' with hb'
            injection hb' with e1 e2
            rw [e1]
            exact World.block_lt_of_cell? w _ hc'
          obtain ⟨ne1, ne2, ne3⟩ := Hi.out.ne
          have ls := (Hi.out.lo.lt s rfl).1
          have lt' := (Hi.out.hi.lt t rfl).1
          have nk1 : gb ≠ s := by omega
          have nk2 : gb ≠ t := by omega
          have nb1 : w1.heap.size ≠ s := by omega
          have nb2 : w1.heap.size ≠ t := by omega
          go_wp2
          go_region_held3 (fun w' => w'.cell? ⟨w1.heap.size, 0, none⟩ = some (.slice (some ⟨s, 0, none⟩) d d) ∧ w'.cell? ⟨w1.heap.size, 1, none⟩ = some (.slice (some ⟨t, 0, none⟩) d d) ∧ w'.cell? ⟨gb, ob + i, none⟩ = some (.int .u32 (y : Int)))
            (first | exact ⟨b0, b1, cb⟩ | exact ⟨cell_set b0 nb1, cell_set b1 nb1, cell_set cb nk1⟩ | exact ⟨cell_set (cell_set b0 nb1) nb2, cell_set (cell_set b1 nb1) nb2, cell_set (cell_set cb nk1) nk2⟩ | fail) (fail)
          go_wp2
          have hn1 : Rnd w ((wr.setCell ⟨s, m, none⟩ (.int .u32 (y : Int))).setCell ⟨t, m, none⟩ (.int .u32 (y : Int))) w1.heap.size s t d xs ks (i + 1) := by
            refine ⟨?_, ?_, ?_, ?_, ?_, Hi.out.ne, ?_⟩
            · simp only [okP, Bool.and_eq_true, decide_eq_true_eq]
              exact ⟨Hi.out.ok, by rw [hpve, hae]; exact hok, by rw [hae]; exact hok2⟩
            · exact (Hi.out.res.other (p := ⟨s, m, none⟩) (by show ¬ (w.heap.size = s); omega) _).other (p := ⟨t, m, none⟩) (by show ¬ (w.heap.size = t); omega) _
            · exact (Hi.out.box.other (p := ⟨s, m, none⟩) nb1 _).other (p := ⟨t, m, none⟩) nb2 _
            · have h0 := (Hi.out.lo.stored m (.int .u32 (y : Int))).1
              rw [u32s_set] at h0
              have e : setP (List.replicate d 0) xs ks (i + 1) = (setP (List.replicate d 0) xs ks i).set m y := by simp only [setP]; rw [hae, hye, Int.toNat_natCast]
              rw [e]
              exact own_fr h0 (S := fun k => k = t) ((Fr.refl (fun k => k = t) _).setCell (p := ⟨t, m, none⟩) (.inl rfl) _) (fun k hk (hb : k = t) => by simp [Value.ownBlock] at hk; omega)
            · have h0 := own_fr Hi.out.hi (S := fun k => k = s) ((Fr.refl (fun k => k = s) _).setCell (p := ⟨s, m, none⟩) (.inl rfl) (.int .u32 (y : Int))) (fun k hk (hb : k = s) => by simp [Value.ownBlock] at hk; omega)
              have h1 := (h0.stored m (.int .u32 (y : Int))).1
              rw [u32s_set] at h1
              have e : setP (List.replicate d 4294967295) xs ks (i + 1) = (setP (List.replicate d 4294967295) xs ks i).set m y := by simp only [setP]; rw [hae, hye, Int.toNat_natCast]
              rw [e]
              exact h1
            · exact ((Hi.out.fr.setCell (p := ⟨s, m, none⟩) (.inr (by show w.heap.size ≤ s; omega)) _).setCell (p := ⟨t, m, none⟩) (.inr (by show w.heap.size ≤ t; omega)) _)
          have Hn1 := Lib.hid hn1
          clear hn1
          go_roundw
          case rel => exact ⟨i + 1, by omega, by go_num, by show _ = Value.int .i64 (xs.getD i 0); rw [hae], Lib.hid ⟨Hn1.out.ok, Hn1.out.res.drew, Hn1.out.box.drew, Hn1.out.lo.drew, Hn1.out.hi.drew, Hn1.out.ne, Hn1.out.fr.drew⟩⟩
          case measure => simp [intOf]; omega
        · have hge : (d : Int) ≤ a := by omega
          go_wp2
          refine bodyPost_ret (v := .tuple #[.agg #[.slice none 0 0, .slice none 0 0], .int .i64 1]) (by simp [results, Try.results15, go_sem, q0, q1]) rfl ?_
          have hno := part_no (d := d) (xs := xs) (i := i) (by rw [← Hx.out.len]; exact hlt) (by rw [hpve, hae]; omega)
          have m1 : partLo d xs ks = [] := by unfold partLo; rw [hno]; rfl
          have m2 : partHi d xs ks = [] := by unfold partHi; rw [hno]; rfl
          have m3 : partE d xs = 1 := by unfold partE; rw [hno]; rfl
          rw [m1, m2, m3]
          exact ⟨_, 0, 0, _, 0, 0, rfl, Kv.none_ _, Kv.none_ _, ((Hi.out.fr.setCell (p := ⟨w.heap.size, 0, none⟩) (.inr (Nat.le_refl _)) _).setCell (p := ⟨w.heap.size, 1, none⟩) (.inr (Nat.le_refl _)) _)⟩
      · go_wp2
        refine bodyPost_ret (v := .tuple #[.agg #[.slice none 0 0, .slice none 0 0], .int .i64 1]) (by simp [results, Try.results15, go_sem, q0, q1]) rfl ?_
        have hno := part_no (d := d) (xs := xs) (i := i) (by rw [← Hx.out.len]; exact hlt) (by rw [hpve, hae]; omega)
        have m1 : partLo d xs ks = [] := by unfold partLo; rw [hno]; rfl
        have m2 : partHi d xs ks = [] := by unfold partHi; rw [hno]; rfl
        have m3 : partE d xs = 1 := by unfold partE; rw [hno]; rfl
        rw [m1, m2, m3]
        exact ⟨_, 0, 0, _, 0, 0, rfl, Kv.none_ _, Kv.none_ _, ((Hi.out.fr.setCell (p := ⟨w.heap.size, 0, none⟩) (.inr (Nat.le_refl _)) _).setCell (p := ⟨w.heap.size, 1, none⟩) (.inr (Nat.le_refl _)) _)⟩
    · obtain rfl : i = n := by omega
      have b0 := Hi.out.box.cell 0 (v := .slice (some ⟨s, 0, none⟩) d d) rfl
      have b1 := Hi.out.box.cell 1 (v := .slice (some ⟨t, 0, none⟩) d d) rfl
      have q0 := Hi.out.res.cell 0 (v := .slice none 0 0) rfl
      have q1 := Hi.out.res.cell 1 (v := .slice none 0 0) rfl
      have q2 := Hi.out.res.frozen 0
      have q3 := Hi.out.res.frozen 1
      have hrf := (Hi.out.res.set 0 (.slice (some ⟨s, 0, none⟩) d d)).set 1 (.slice (some ⟨t, 0, none⟩) d d)
      have p0 := hrf.cell 0 (v := .slice (some ⟨s, 0, none⟩) d d) rfl
      have p1 := hrf.cell 1 (v := .slice (some ⟨t, 0, none⟩) d d) rfl
      go_wp2
      refine bodyPost_ret (v := .tuple #[.agg #[.slice (some ⟨s, 0, none⟩) d d, .slice (some ⟨t, 0, none⟩) d d], .int .i64 0]) (by simp [results, Try.results15, go_sem, p0, p1]) rfl ?_
      have hok : partOk d xs = true := by unfold partOk; rw [← Hx.out.len]; exact Hi.out.ok
      have m1 : partLo d xs ks = setP (List.replicate d 0) xs ks i := by unfold partLo; rw [hok, if_pos rfl, ← Hx.out.len]
      have m2 : partHi d xs ks = setP (List.replicate d 4294967295) xs ks i := by unfold partHi; rw [hok, if_pos rfl, ← Hx.out.len]
      have m3 : partE d xs = 0 := by unfold partE; rw [hok]; rfl
      rw [m1, m2, m3]
      have ls := (Hi.out.lo.lt s rfl).1
      have lt' := (Hi.out.hi.lt t rfl).1
      exact ⟨_, d, d, _, d, d, rfl, kv_set2 (Kv.of_own Hi.out.lo (setP_lt (by simp) Hk.out.ltD i)) (by omega) _ _, kv_set2 (Kv.of_own Hi.out.hi (setP_lt (by simp) Hk.out.ltD i)) (by omega) _ _, ((Hi.out.fr.setCell (p := ⟨w.heap.size, 0, none⟩) (.inr (Nat.le_refl _)) _).setCell (p := ⟨w.heap.size, 1, none⟩) (.inr (Nat.le_refl _)) _)⟩
end
end Go.Proofs.Ytpkhmakgebaofaa.Kr08
