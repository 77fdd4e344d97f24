/- Layer 10, laws: a record put in and one cut out; what is written is read. -/
import Derived.Test.YtehhmpoijonghaaBk10
import Derived.StillTailTactics
namespace Go.Proofs.Ytehhmpoijonghaa.Bl10
open Go.RowKit Go.Proofs.Ytehhmpoijonghaa.Pk08 Go.Proofs.Ytehhmpoijonghaa.Base Go.Proofs.Ytehhmpoijonghaa.App Go.Proofs.Ytehhmpoijonghaa.Ty Go.Proofs.Ytehhmpoijonghaa.Str Go.Proofs.Ytehhmpoijonghaa.Ky Go.Proofs.Ytehhmpoijonghaa.Bx Go.Proofs.Ytehhmpoijonghaa.Kk Go.Proofs.Ytehhmpoijonghaa.Bo Go.Proofs.Ytehhmpoijonghaa.As Go.Proofs.Ytehhmpoijonghaa.Pl08 Go.Proofs.Ytehhmpoijonghaa.Kc08 Go.Proofs.Ytehhmpoijonghaa.Rv Go.Proofs.Ytehhmpoijonghaa.Ra Go.Proofs.Ytehhmpoijonghaa.Rp Go.Proofs.Ytehhmpoijonghaa.Ro Go.Proofs.Ytehhmpoijonghaa.Rk Go.Proofs.Ytehhmpoijonghaa.Rs Go.Proofs.Ytehhmpoijonghaa.Ri Go.Proofs.Ytehhmpoijonghaa.Rb Go.Proofs.Ytehhmpoijonghaa.Rc Go.Proofs.Ytehhmpoijonghaa.Rf Go.Proofs.Ytehhmpoijonghaa.Ru Go.Proofs.Ytehhmpoijonghaa.Fa Go.Proofs.Ytehhmpoijonghaa.Ba10 Go.Proofs.Ytehhmpoijonghaa.Bd10 Go.Proofs.Ytehhmpoijonghaa.Bp10 Go.Proofs.Ytehhmpoijonghaa.Be10 Go.Proofs.Ytehhmpoijonghaa.Bf10 Go.Proofs.Ytehhmpoijonghaa.Bg10 Go.Proofs.Ytehhmpoijonghaa.Bh10 Go.Proofs.Ytehhmpoijonghaa.Bi10 Go.Proofs.Ytehhmpoijonghaa.Bj10 Go.Proofs.Ytehhmpoijonghaa.Bk10
set_option linter.unusedVariables false
set_option linter.unusedSimpArgs false
/-! ### plain -/
theorem put_mem {l : List Rv.Rec} {r x : Rv.Rec} (h : x ∈ put l r) : x = r ∨ x ∈ l := by
  unfold put at h
  rcases List.mem_append.1 h with h | h
  · exact .inr (List.mem_of_mem_take h)
  · rcases List.mem_cons.1 h with h | h
    · exact .inl h
    · exact .inr (List.mem_of_mem_drop h)
theorem put_len (l : List Rv.Rec) (r : Rv.Rec) : (put l r).length ≤ l.length + 1 := by
  unfold put
  rw [List.length_append, List.length_cons, List.length_take, List.length_drop]
  split <;> omega
theorem put_short {l : List Rv.Rec} {r : Rv.Rec} (hl : l.length ≤ 999999) (hs : Short l) (hr : r.1.length ≤ 1000000) : Short (put l r) :=
  ⟨by have := put_len l r; omega, fun x hx => by rcases put_mem hx with rfl | hx; exact hr; exact hs.2 x hx⟩
theorem isBk_fit {d : Int} {rs : List Rv.Rec} (h : isBk d rs = true) : ∀ r ∈ rs, 1 ≤ d ∧ d ≤ 6 ∧ (r.1.length : Int) = d ∧ r.2.size ≤ 40 := by
  intro r hr
  have h1 := isBk_rec h r hr
  unfold recC chk at h1
  split at h1
  · split at h1
    · rename_i h2 h3; exact ⟨h3.1, h3.2.1, h3.2.2, h2⟩
    · cases h1
  · cases h1
theorem Rv_u32 {w : World} {A : Option Addr} {n c : Nat} {rs : List Rv.Rec} (h : Rv w A n c rs) : ∀ r ∈ rs, ∀ x ∈ r.1, x < 4294967296 := by
  intro r hr
  obtain ⟨i, hi, rfl⟩ := List.mem_iff_getElem.1 hr
  obtain ⟨b, off, KA, kc, _, _, _, hk, _⟩ := h.get i hi
  have e : rs.getD i rec0 = rs[i] := by simp [List.getD_eq_getElem?_getD, hi]
  rw [e] at hk
  exact hk.lt
theorem encOk_iff {rs : List Rv.Rec} {d cap : Int} : encOk rs d cap = true ↔ capB cap = true ∧ fitB rs cap = true ∧ isBk d rs = true := by simp [encOk, and_assoc]
/-- What was written is read again. -/
theorem dec_enc {rs : List Rv.Rec} {d cap : Int} (h : encOk rs d cap = true) (hd : 1 ≤ d ∧ d ≤ 6) (hu : ∀ r ∈ rs, ∀ x ∈ r.1, x < 4294967296) : decE (txt (encB rs)) d cap = 0 ∧ decR (txt (encB rs)) d cap = rs := by
  obtain ⟨h1, h2, h3⟩ := encOk_iff.1 h
  obtain ⟨dim, rfl⟩ : ∃ dim : Nat, d = dim := ⟨d.toNat, by omega⟩
  have hl : rs.length < 256 := by
    simp only [fitB, capB, Bool.and_eq_true, decide_eq_true_eq] at h1 h2
    omega
  have hw : ∀ r ∈ rs, Wr r ∧ r.1.length = dim := fun r hr => by
    have := isBk_fit h3 r hr
    exact ⟨⟨hu r hr, by omega⟩, by omega⟩
  obtain ⟨e1, e2⟩ := decL_enc hw hl
  have hdim : dimB dim = true := by simp [dimB]; omega
  have hform : formB (txt (encB rs)) dim cap = true := by rw [formB, e1, h, encT_yes h]; simp
  obtain ⟨e3, e4⟩ := dec_yes (s := txt (encB rs)) hdim h1 e2 hform
  exact ⟨e3, by rw [e4, e1]⟩
/-- What was read is written again. -/
theorem enc_dec {s : ByteArray} {d cap : Int} (h : decE s d cap = 0) : encE (decR s d cap) d cap = 0 ∧ encT (decR s d cap) d cap = s := by
  have h0 := h
  unfold decE at h
  split at h
  · rename_i h1
    split at h
    · cases h
    · split at h
      · rename_i h2 h3
        have hd : ((d.toNat : Nat) : Int) = d := by
          simp only [dimB, Bool.and_eq_true, decide_eq_true_eq] at h1
          omega
        have e : decR s d cap = decL s d.toNat := by rw [decR, if_pos h0]
        rw [formB, Bool.and_eq_true, decide_eq_true_eq, hd] at h3
        rw [e]
        exact ⟨encE_yes h3.1, h3.2⟩
      · cases h
  · cases h
theorem dec_none {s : ByteArray} {d cap : Int} (h : decE s d cap ≠ 0) : decR s d cap = [] := by rw [decR, if_neg h]
theorem decE_lt (s : ByteArray) (d cap : Int) : decE s d cap ≤ 9 := by unfold decE; split <;> (try split) <;> (try split) <;> omega
abbrev caseT (E1 E2 : TypeId) : Ty := .cn (.sl E1 (recT E2)) (.cn .str (.cn (.int .i64) (.cn (.int .i64) .nl)))
theorem rd_case {E1 E2 : TypeId} {w : World} {x : (caseT E1 E2).D} {cs : Array Value} (h : Rd (caseT E1 E2) w x cs.toList) :
    ∃ (d m : Int) (A : Option Addr) (n c : Nat) (s : ByteArray) (rs : List Rv.Rec), cs = #[.slice A n c, .string s, .int .i64 d, .int .i64 m] ∧ Rv w A n c rs ∧ s.size ≤ maxLen := by
  obtain ⟨c1, c2, hc, h4, c3, c4, rfl, ⟨rfl, hs⟩, c5, c6, rfl, ⟨rfl, _⟩, c7, c8, rfl, ⟨rfl, _⟩, h5⟩ := h
  have h5' : c8 = [] := h5
  subst h5'
  have h4' := h4
  obtain ⟨A, c, rfl, _⟩ := h4'
  obtain ⟨rs, hr⟩ := Rv.of_rd h4
  refine ⟨x.2.2.1, x.2.2.2.1, A, _, c, _, rs, ?_, hr, hs⟩
  rw [← Array.toArray_toList (xs := cs), hc]
  rfl
set_option maxRecDepth 8000 in
set_option maxHeartbeats 3200000 in
theorem law_puts {E1 E2 E3 : TypeId} (w : World) (A : Option Addr) (n c : Nat) (x : List (recT E2).D) (h : Rd (.sl E1 (recT E2)) w x [.slice A n c]) (cs : Array Value) (y : (recT E3).D) (hy : Rd (recT E3) w y cs.toList) (z : Int) (hz : (Lit.int .i64 z).wf = true) :
    Calls Try.prog 5 #[.slice A n c, .agg cs, .int .i64 z] w fun e w' => e = .returned (.bool true) ∧ Fr No w w' := by
  obtain ⟨rs, hr⟩ := Rv.of_rd h
  obtain ⟨K, kn, kc, ks, s, hcs, hk, hsm⟩ := rd_rec hy
  have hcs2 : cs = #[.slice K kn kc, .string s] := by rw [← Array.toArray_toList (xs := cs), hcs]
  subst hcs2
  obtain rfl : kn = ks.length := hk.len
  clear h x hz hy y hcs
  have hkn := hk.len_le
  have Hr := Lib.hid hr
  have Hk := Lib.hid hk
  clear hr hk
  have hmx : maxLen ≤ 9223372036854775807 := by decide
  cases hf : fewB rs with
  | false =>
    have Hf := Lib.hid hf
    clear hf
    go_enter Try.func5, Try.ntmps5
    go_wp2_with first
      | (go_at_call 9; ((with_reducible refine (few_any (rs := rs) ?_).mono ?_); (focus ((have hr := Hr.out); (repeat (first | with_reducible assumption | with_reducible exact Rv.none_ _ | with_reducible refine Rv.alloc ?_ _ | with_reducible refine Rv.drew ?_ | with_reducible refine Rv.drewN ?_ _ | with_reducible refine Rv.no ?_ (by assumption))))); rintro e w1 ⟨rfl, rfl⟩; rw [Hf.out]))
      | (go_at_call 10; ((with_reducible refine (live _).mono ?_); rintro e wl ⟨rfl, hfl⟩))
      | fail
    go_ret
    exact ⟨rfl, by (repeat (first | with_reducible exact Fr.refl _ _ | with_reducible refine Fr.setCell ?_ (.inr (by first | (simp; done) | (simp; omega))) _ | with_reducible refine Fr.alloc ?_ _ | with_reducible refine Fr.drew ?_ | with_reducible refine Fr.drewN ?_ _ | with_reducible refine Fr.tr ?_ (by assumption)))⟩
  | true =>
    have Hf := Lib.hid hf
    have Ht := Lib.hid (few_tiny hf)
    clear hf
    cases hi : isBk z rs with
    | false =>
      have Hi := Lib.hid hi
      clear hi
      go_enter Try.func5, Try.ntmps5
      go_wp2_with first
        | (go_at_call 9; ((with_reducible refine (few_any (rs := rs) ?_).mono ?_); (focus ((have hr := Hr.out); (repeat (first | with_reducible assumption | with_reducible exact Rv.none_ _ | with_reducible refine Rv.alloc ?_ _ | with_reducible refine Rv.drew ?_ | with_reducible refine Rv.drewN ?_ _ | with_reducible refine Rv.no ?_ (by assumption))))); rintro e w1 ⟨rfl, rfl⟩; rw [Hf.out]))
        | (go_at_call 20; ((with_reducible refine (ris_any (rs := rs) _ ?_).mono ?_); (focus ((have hr := Hr.out); (repeat (first | with_reducible assumption | with_reducible exact Rv.none_ _ | with_reducible refine Rv.alloc ?_ _ | with_reducible refine Rv.drew ?_ | with_reducible refine Rv.drewN ?_ _ | with_reducible refine Rv.no ?_ (by assumption))))); rintro e w2 ⟨rfl, hf2⟩; rw [Hi.out]))
        | (go_at_call 10; ((with_reducible refine (live _).mono ?_); rintro e wl ⟨rfl, hfl⟩))
        | fail
      go_ret
      exact ⟨rfl, by (repeat (first | with_reducible exact Fr.refl _ _ | with_reducible refine Fr.setCell ?_ (.inr (by first | (simp; done) | (simp; omega))) _ | with_reducible refine Fr.alloc ?_ _ | with_reducible refine Fr.drew ?_ | with_reducible refine Fr.drewN ?_ _ | with_reducible refine Fr.tr ?_ (by assumption)))⟩
    | true =>
      have Hi := Lib.hid hi
      have Hs := Lib.hid (isBk_strict hi)
      clear hi
      have hob := fun W => Ob.new W #[.slice K ks.length kc, .string s] 38
      have HOB := Lib.hid hob
      clear hob
      by_cases hk20 : 20 < ks.length
      · go_enter Try.func5, Try.ntmps5
        go_wp2_with first
          | (go_at_call 9; ((with_reducible refine (few_any (rs := rs) ?_).mono ?_); (focus ((have hr := Hr.out); (repeat (first | with_reducible assumption | with_reducible exact Rv.none_ _ | with_reducible refine Rv.alloc ?_ _ | with_reducible refine Rv.drew ?_ | with_reducible refine Rv.drewN ?_ _ | with_reducible refine Rv.no ?_ (by assumption))))); rintro e w1 ⟨rfl, rfl⟩; rw [Hf.out]))
          | (go_at_call 20; ((with_reducible refine (ris_any (rs := rs) _ ?_).mono ?_); (focus ((have hr := Hr.out); (repeat (first | with_reducible assumption | with_reducible exact Rv.none_ _ | with_reducible refine Rv.alloc ?_ _ | with_reducible refine Rv.drew ?_ | with_reducible refine Rv.drewN ?_ _ | with_reducible refine Rv.no ?_ (by assumption))))); rintro e w2 ⟨rfl, hf2⟩; rw [Hi.out]; (obtain ⟨b0, b1⟩ := cells2 ((HOB.out w).no hf2))))
          | (go_at_call 10; ((with_reducible refine (live _).mono ?_); rintro e wl ⟨rfl, hfl⟩))
          | fail
        go_ret
        exact ⟨rfl, by (repeat (first | with_reducible exact Fr.refl _ _ | with_reducible refine Fr.setCell ?_ (.inr (by first | (simp; done) | (simp; omega))) _ | with_reducible refine Fr.alloc ?_ _ | with_reducible refine Fr.drew ?_ | with_reducible refine Fr.drewN ?_ _ | with_reducible refine Fr.tr ?_ (by assumption)))⟩
      · by_cases hs100 : 100 < s.size
        · go_enter Try.func5, Try.ntmps5
          go_wp2_with first
            | (go_at_call 9; ((with_reducible refine (few_any (rs := rs) ?_).mono ?_); (focus ((have hr := Hr.out); (repeat (first | with_reducible assumption | with_reducible exact Rv.none_ _ | with_reducible refine Rv.alloc ?_ _ | with_reducible refine Rv.drew ?_ | with_reducible refine Rv.drewN ?_ _ | with_reducible refine Rv.no ?_ (by assumption))))); rintro e w1 ⟨rfl, rfl⟩; rw [Hf.out]))
            | (go_at_call 20; ((with_reducible refine (ris_any (rs := rs) _ ?_).mono ?_); (focus ((have hr := Hr.out); (repeat (first | with_reducible assumption | with_reducible exact Rv.none_ _ | with_reducible refine Rv.alloc ?_ _ | with_reducible refine Rv.drew ?_ | with_reducible refine Rv.drewN ?_ _ | with_reducible refine Rv.no ?_ (by assumption))))); rintro e w2 ⟨rfl, hf2⟩; rw [Hi.out]; (obtain ⟨b0, b1⟩ := cells2 ((HOB.out w).no hf2))))
            | (go_at_call 10; ((with_reducible refine (live _).mono ?_); rintro e wl ⟨rfl, hfl⟩))
            | fail
          go_ret
          exact ⟨rfl, by (repeat (first | with_reducible exact Fr.refl _ _ | with_reducible refine Fr.setCell ?_ (.inr (by first | (simp; done) | (simp; omega))) _ | with_reducible refine Fr.alloc ?_ _ | with_reducible refine Fr.drew ?_ | with_reducible refine Fr.drewN ?_ _ | with_reducible refine Fr.tr ?_ (by assumption)))⟩
        · have Hps := Lib.hid (put_short (r := (ks, s)) (by have := Ht.out.2.2; omega) Ht.out.2.1 (show ks.length ≤ 1000000 by omega))
          have hn1 : n ≤ 1000000 := by have := Hr.out.len; have := Ht.out.2.2; omega
          have HP := fun W A n c kc K (h1 : Rv W A n c rs) (h2 : Kv W K ks.length kc ks) (h3 : n ≤ 1000000) => put_any (s := s) h1 h2 hsm Hs.out Hps.out h3
          have HQ := fun W A n c kc K (h1 : Rv W A n c rs) (h2 : Kv W K ks.length kc ks) (h3 : n ≤ 1000000) => rput_any (s := s) h1 h2 hsm Hps.out h3
          have HC := fun W A n c m kc K (h1 : Rv W A n c rs) (h2 : Kv W K m kc ks) => cut_any h1 h2 Hs.out Ht.out.2.1
          have HD := fun W A n c m kc K (h1 : Rv W A n c rs) (h2 : Kv W K m kc ks) => rcut_any h1 h2 Ht.out.2.1
          have HF := fun W A n c m kc K (h1 : Rv W A n c rs) (h2 : Kv W K m kc ks) (h3 : n ≤ 1000000) => find_any h1 h2 Hs.out h3
          have HG := fun W A n c m kc K (h1 : Rv W A n c rs) (h2 : Kv W K m kc ks) => rfind_any h1 h2
          clear Hps
          generalize put rs (ks, s) = out at *
          generalize cut rs ks = cu at *
          generalize fis rs ks = fi at *
          generalize fpos rs ks = fp at *
          go_enter Try.func5, Try.ntmps5
          go_wp2_with first
            | (go_at_call 9; ((with_reducible refine (few_any (rs := rs) ?_).mono ?_); (focus ((have hr := Hr.out); (repeat (first | with_reducible assumption | with_reducible exact Rv.none_ _ | with_reducible refine Rv.alloc ?_ _ | with_reducible refine Rv.drew ?_ | with_reducible refine Rv.drewN ?_ _ | with_reducible refine Rv.no ?_ (by assumption))))); rintro e w1 ⟨rfl, rfl⟩; rw [Hf.out]))
            | (go_at_call 20; ((with_reducible refine (ris_any (rs := rs) _ ?_).mono ?_); (focus ((have hr := Hr.out); (repeat (first | with_reducible assumption | with_reducible exact Rv.none_ _ | with_reducible refine Rv.alloc ?_ _ | with_reducible refine Rv.drew ?_ | with_reducible refine Rv.drewN ?_ _ | with_reducible refine Rv.no ?_ (by assumption))))); rintro e w2 ⟨rfl, hf2⟩; rw [Hi.out]; (obtain ⟨b0, b1⟩ := cells2 ((HOB.out w).no hf2))))
            | (go_at_call 21; ((with_reducible refine (copies_any (rs := rs) ?_ Ht.out.2.1).mono ?_); (focus ((have hr := Hr.out); (repeat (first | with_reducible assumption | with_reducible exact Rv.none_ _ | with_reducible refine Rv.alloc ?_ _ | with_reducible refine Rv.drew ?_ | with_reducible refine Rv.drewN ?_ _ | with_reducible refine Rv.no ?_ (by assumption))))); rintro e w3 ⟨A3, n3, c3, rfl, ho3, hf3⟩; (have hob3 := ((HOB.out w).no hf2).no hf3); (obtain ⟨d0, d1⟩ := cells2 hob3); (obtain rfl : n3 = rs.length := ho3.rv.len); (have hv3 := ho3.rv); clear ho3))
            | (go_at_call 22; ((with_reducible refine (HP _ _ _ _ _ _ ?_ ?_ ?_).mono ?_); (focus (repeat (first | with_reducible assumption | with_reducible exact Rv.none_ _ | with_reducible refine Rv.alloc ?_ _ | with_reducible refine Rv.drew ?_ | with_reducible refine Rv.drewN ?_ _ | with_reducible refine Rv.no ?_ (by assumption)))); (focus ((have hk := Hk.out); (repeat (first | with_reducible assumption | ((with_reducible refine Kv.lit_new _ _ _ _ _ _ ?_ ?_ ?_ ?_) <;> (first | (simp; done) | rfl | decide)) | with_reducible exact Kv.none_ _ | with_reducible refine Kv.alloc ?_ _ | with_reducible refine Kv.drew ?_ | with_reducible refine Kv.drewN ?_ _ | with_reducible refine Kv.no ?_ (by assumption))))); (focus (have := Ht.out.2.2; omega)); rintro e w4 ⟨A4, n4, c4, rfl, ho4, hf4⟩; (have hob4 := hob3.no hf4); (obtain ⟨hob4a, hob4b⟩ := cells2 hob4); (have hv4 := ho4.rv); clear ho4))
            | (go_at_call 23; ((with_reducible refine (HC _ _ _ _ _ _ _ ?_ ?_).mono ?_); (focus (repeat (first | with_reducible assumption | with_reducible exact Rv.none_ _ | with_reducible refine Rv.alloc ?_ _ | with_reducible refine Rv.drew ?_ | with_reducible refine Rv.drewN ?_ _ | with_reducible refine Rv.no ?_ (by assumption)))); (focus ((have hk := Hk.out); (repeat (first | with_reducible assumption | ((with_reducible refine Kv.lit_new _ _ _ _ _ _ ?_ ?_ ?_ ?_) <;> (first | (simp; done) | rfl | decide)) | with_reducible exact Kv.none_ _ | with_reducible refine Kv.alloc ?_ _ | with_reducible refine Kv.drew ?_ | with_reducible refine Kv.drewN ?_ _ | with_reducible refine Kv.no ?_ (by assumption))))); rintro e w5 ⟨A5, n5, c5, rfl, ho5, hf5⟩; (have hob5 := hob4.no hf5); (obtain ⟨hob5a, hob5b⟩ := cells2 hob5); (have hv5 := ho5.rv); clear ho5))
            | (go_at_call 24; ((with_reducible refine (HD _ _ _ _ _ _ _ ?_ ?_).mono ?_); (focus ((have hr := Hr.out); (repeat (first | with_reducible assumption | with_reducible exact Rv.none_ _ | with_reducible refine Rv.alloc ?_ _ | with_reducible refine Rv.drew ?_ | with_reducible refine Rv.drewN ?_ _ | with_reducible refine Rv.no ?_ (by assumption))))); (focus ((have hk := Hk.out); (repeat (first | with_reducible assumption | ((with_reducible refine Kv.lit_new _ _ _ _ _ _ ?_ ?_ ?_ ?_) <;> (first | (simp; done) | rfl | decide)) | with_reducible exact Kv.none_ _ | with_reducible refine Kv.alloc ?_ _ | with_reducible refine Kv.drew ?_ | with_reducible refine Kv.drewN ?_ _ | with_reducible refine Kv.no ?_ (by assumption))))); rintro e w6 ⟨A6, n6, c6, rfl, ho6, hf6⟩; (have hob6 := hob5.no hf6); (obtain ⟨hob6a, hob6b⟩ := cells2 hob6); (have hv6 := ho6.rv); clear ho6))
            | (go_at_call 25; ((with_reducible refine (HF _ _ _ _ _ _ _ ?_ ?_ ?_).mono ?_); (focus (repeat (first | with_reducible assumption | with_reducible exact Rv.none_ _ | with_reducible refine Rv.alloc ?_ _ | with_reducible refine Rv.drew ?_ | with_reducible refine Rv.drewN ?_ _ | with_reducible refine Rv.no ?_ (by assumption)))); (focus ((have hk := Hk.out); (repeat (first | with_reducible assumption | ((with_reducible refine Kv.lit_new _ _ _ _ _ _ ?_ ?_ ?_ ?_) <;> (first | (simp; done) | rfl | decide)) | with_reducible exact Kv.none_ _ | with_reducible refine Kv.alloc ?_ _ | with_reducible refine Kv.drew ?_ | with_reducible refine Kv.drewN ?_ _ | with_reducible refine Kv.no ?_ (by assumption))))); (focus (have := Ht.out.2.2; omega)); rintro e w7 ⟨rfl, hf7⟩; (have hob7 := hob6.no hf7); (obtain ⟨hob7a, hob7b⟩ := cells2 hob7)))
            | (go_at_call 26; ((with_reducible refine (HG _ _ _ _ _ _ _ ?_ ?_).mono ?_); (focus ((have hr := Hr.out); (repeat (first | with_reducible assumption | with_reducible exact Rv.none_ _ | with_reducible refine Rv.alloc ?_ _ | with_reducible refine Rv.drew ?_ | with_reducible refine Rv.drewN ?_ _ | with_reducible refine Rv.no ?_ (by assumption))))); (focus ((have hk := Hk.out); (repeat (first | with_reducible assumption | ((with_reducible refine Kv.lit_new _ _ _ _ _ _ ?_ ?_ ?_ ?_) <;> (first | (simp; done) | rfl | decide)) | with_reducible exact Kv.none_ _ | with_reducible refine Kv.alloc ?_ _ | with_reducible refine Kv.drew ?_ | with_reducible refine Kv.drewN ?_ _ | with_reducible refine Kv.no ?_ (by assumption))))); rintro e w8 ⟨rfl, hf8⟩; (have hob8 := hob7.no hf8); (obtain ⟨hob8a, hob8b⟩ := cells2 hob8)))
            | (go_at_call 27; ((with_reducible refine (HQ _ _ _ _ _ _ ?_ ?_ hn1).mono ?_); (focus ((have hr := Hr.out); (repeat (first | with_reducible assumption | with_reducible exact Rv.none_ _ | with_reducible refine Rv.alloc ?_ _ | with_reducible refine Rv.drew ?_ | with_reducible refine Rv.drewN ?_ _ | with_reducible refine Rv.no ?_ (by assumption))))); (focus ((have hk := Hk.out); (repeat (first | with_reducible assumption | ((with_reducible refine Kv.lit_new _ _ _ _ _ _ ?_ ?_ ?_ ?_) <;> (first | (simp; done) | rfl | decide)) | with_reducible exact Kv.none_ _ | with_reducible refine Kv.alloc ?_ _ | with_reducible refine Kv.drew ?_ | with_reducible refine Kv.drewN ?_ _ | with_reducible refine Kv.no ?_ (by assumption))))); rintro e w9 ⟨A9, n9, c9, rfl, ho9, hf9⟩; (have hv9 := ho9.rv); clear ho9))
            | (go_at_call 19; ((with_reducible refine (lS (l := out) ?_ hv9).mono ?_); (focus (repeat (first | with_reducible assumption | with_reducible exact Rv.none_ _ | with_reducible refine Rv.alloc ?_ _ | with_reducible refine Rv.drew ?_ | with_reducible refine Rv.drewN ?_ _ | with_reducible refine Rv.no ?_ (by assumption)))); rintro e w10 ⟨rfl, hf10⟩))
            | (go_at_call 19; ((with_reducible refine (lS (l := cu) ?_ ?_).mono ?_); (focus ((have h := ((((hv5.no hf6).no hf7).no hf8).no hf9).no hf10); exact h)); (focus ((have h := (((hv6.no hf7).no hf8).no hf9).no hf10); exact h)); rintro e w11 ⟨rfl, hf11⟩))
            | (go_at_call 19; ((with_reducible refine (lS (l := rs) ?_ ?_).mono ?_); (focus ((have h := hv3); (repeat (first | with_reducible assumption | with_reducible exact Rv.none_ _ | with_reducible refine Rv.alloc ?_ _ | with_reducible refine Rv.drew ?_ | with_reducible refine Rv.drewN ?_ _ | with_reducible refine Rv.no ?_ (by assumption))))); (focus ((have hr := Hr.out); (repeat (first | with_reducible assumption | with_reducible exact Rv.none_ _ | with_reducible refine Rv.alloc ?_ _ | with_reducible refine Rv.drew ?_ | with_reducible refine Rv.drewN ?_ _ | with_reducible refine Rv.no ?_ (by assumption))))); rintro e w12 ⟨rfl, hf12⟩))
            | (go_at_call 10; ((with_reducible refine (live _).mono ?_); rintro e wl ⟨rfl, hfl⟩))
            | fail
          go_ret
          exact ⟨rfl, by (repeat (first | with_reducible exact Fr.refl _ _ | with_reducible refine Fr.setCell ?_ (.inr (by first | (simp; done) | (simp; omega))) _ | with_reducible refine Fr.alloc ?_ _ | with_reducible refine Fr.drew ?_ | with_reducible refine Fr.drewN ?_ _ | with_reducible refine Fr.tr ?_ (by assumption)))⟩
theorem decR_tiny (s : ByteArray) (d cap : Int) (hd : d ≤ 6) : Tiny (decR s d cap) := by
  unfold decR
  split
  · exact recsAt_tiny s d.toNat _ (by omega) (by have := cntB_lt s; omega)
  · exact ⟨by simp, fun r hr => by simp at hr⟩
set_option maxRecDepth 8000 in
set_option maxHeartbeats 3200000 in
theorem law_back {E1 E2 : TypeId} (w : World) (cs : Array Value) (x : (caseT E1 E2).D) (h : Rd (caseT E1 E2) w x cs.toList) :
    Calls Try.prog 6 #[.agg cs] w fun e w' => e = .returned (.bool true) ∧ Fr No w w' := by
  obtain ⟨d, m, A, n, c, s, rs, rfl, hr, hsm⟩ := rd_case h
  clear h x
  have hmx : maxLen ≤ 9223372036854775807 := by decide
  have Hr := Lib.hid hr
  clear hr
  cases hf : fewB rs with
  | false =>
    have Hf := Lib.hid hf
    clear hf
    go_enter Try.func6, Try.ntmps6
    go_wp2
    go_quiet (fail)
    go_wp2_with first
      | (go_at_call 9; ((with_reducible refine (few_any (rs := rs) ?_).mono ?_); (focus ((have hr := Hr.out); (repeat (first | with_reducible assumption | with_reducible exact Rv.none_ _ | with_reducible refine Rv.alloc ?_ _ | with_reducible refine Rv.drew ?_ | with_reducible refine Rv.drewN ?_ _ | with_reducible refine Rv.no ?_ (by assumption))))); rintro e w1 ⟨rfl, rfl⟩; rw [Hf.out]))
      | (go_at_call 10; ((with_reducible refine (live _).mono ?_); rintro e wl ⟨rfl, hfl⟩))
      | fail
    go_ret
    exact ⟨rfl, by (repeat (first | with_reducible exact Fr.refl _ _ | with_reducible refine Fr.setCell ?_ (.inr (by first | (simp; done) | (simp; omega))) _ | with_reducible refine Fr.alloc ?_ _ | with_reducible refine Fr.drew ?_ | with_reducible refine Fr.drewN ?_ _ | with_reducible refine Fr.tr ?_ (by assumption)))⟩
  | true =>
    have Hf := Lib.hid hf
    have Ht := Lib.hid (few_tiny hf)
    clear hf
    by_cases h3 : 300 < s.size
    · skip
      go_enter Try.func6, Try.ntmps6
      go_wp2
      go_quiet (fail)
      go_wp2_with first
        | (go_at_call 9; ((with_reducible refine (few_any (rs := rs) ?_).mono ?_); (focus ((have hr := Hr.out); (repeat (first | with_reducible assumption | with_reducible exact Rv.none_ _ | with_reducible refine Rv.alloc ?_ _ | with_reducible refine Rv.drew ?_ | with_reducible refine Rv.drewN ?_ _ | with_reducible refine Rv.no ?_ (by assumption))))); rintro e w1 ⟨rfl, rfl⟩; rw [Hf.out]))
        | (go_at_call 10; ((with_reducible refine (live _).mono ?_); rintro e wl ⟨rfl, hfl⟩))
        | fail
      go_ret
      exact ⟨rfl, by (repeat (first | with_reducible exact Fr.refl _ _ | with_reducible refine Fr.setCell ?_ (.inr (by first | (simp; done) | (simp; omega))) _ | with_reducible refine Fr.alloc ?_ _ | with_reducible refine Fr.drew ?_ | with_reducible refine Fr.drewN ?_ _ | with_reducible refine Fr.tr ?_ (by assumption)))⟩
    by_cases h4 : d < 1
    · skip
      go_enter Try.func6, Try.ntmps6
      go_wp2
      go_quiet (fail)
      go_wp2_with first
        | (go_at_call 9; ((with_reducible refine (few_any (rs := rs) ?_).mono ?_); (focus ((have hr := Hr.out); (repeat (first | with_reducible assumption | with_reducible exact Rv.none_ _ | with_reducible refine Rv.alloc ?_ _ | with_reducible refine Rv.drew ?_ | with_reducible refine Rv.drewN ?_ _ | with_reducible refine Rv.no ?_ (by assumption))))); rintro e w1 ⟨rfl, rfl⟩; rw [Hf.out]))
        | (go_at_call 10; ((with_reducible refine (live _).mono ?_); rintro e wl ⟨rfl, hfl⟩))
        | fail
      go_ret
      exact ⟨rfl, by (repeat (first | with_reducible exact Fr.refl _ _ | with_reducible refine Fr.setCell ?_ (.inr (by first | (simp; done) | (simp; omega))) _ | with_reducible refine Fr.alloc ?_ _ | with_reducible refine Fr.drew ?_ | with_reducible refine Fr.drewN ?_ _ | with_reducible refine Fr.tr ?_ (by assumption)))⟩
    by_cases h5 : 6 < d
    · skip
      go_enter Try.func6, Try.ntmps6
      go_wp2
      go_quiet (fail)
      go_wp2_with first
        | (go_at_call 9; ((with_reducible refine (few_any (rs := rs) ?_).mono ?_); (focus ((have hr := Hr.out); (repeat (first | with_reducible assumption | with_reducible exact Rv.none_ _ | with_reducible refine Rv.alloc ?_ _ | with_reducible refine Rv.drew ?_ | with_reducible refine Rv.drewN ?_ _ | with_reducible refine Rv.no ?_ (by assumption))))); rintro e w1 ⟨rfl, rfl⟩; rw [Hf.out]))
        | (go_at_call 10; ((with_reducible refine (live _).mono ?_); rintro e wl ⟨rfl, hfl⟩))
        | fail
      go_ret
      exact ⟨rfl, by (repeat (first | with_reducible exact Fr.refl _ _ | with_reducible refine Fr.setCell ?_ (.inr (by first | (simp; done) | (simp; omega))) _ | with_reducible refine Fr.alloc ?_ _ | with_reducible refine Fr.drew ?_ | with_reducible refine Fr.drewN ?_ _ | with_reducible refine Fr.tr ?_ (by assumption)))⟩
    have hs3 : s.size ≤ 300 := by omega
    have hd1 : 1 ≤ d := by omega
    have hd6 : d ≤ 6 := by omega
    have Htd := Lib.hid (decR_tiny s d m hd6)
    have Hu := Lib.hid (Rv_u32 Hr.out)
    clear h3 h4 h5
    cases hok : encOk rs d m with
    | true =>
      obtain ⟨dq1, dq2⟩ := dec_enc hok ⟨by omega, by omega⟩ Hu.out
      have hfit : sizeR rs ≤ 230 := by
        have h2 := (encOk_iff.1 hok).2.1
        simp only [fitB, Bool.and_eq_true, decide_eq_true_eq] at h2
        exact h2.2
      have htz : (txt (encB rs)).size = sizeR rs := by rw [txt_size, encB_len]
      have HE1 := fun W A n c (h : Rv W A n c rs) => encode_any (rs := rs) d m h Ht.out.1
      rw [encT_yes hok, encE_yes hok] at HE1
      have HD1 := fun W => decode_any (w := W) (txt (encB rs)) d m (by omega)
      rw [dq1, dq2] at HD1
      have HS := fun W A n c (h : Rv W A n c rs) => size_any (rs := rs) h Ht.out.1
      clear dq1 dq2 hok
      generalize txt (encB rs) = tx at *
      generalize sizeR rs = sz at *
      by_cases hdz : decE s d m = 0
      · obtain ⟨eq1, eq2⟩ := enc_dec hdz
        have HD2 := fun W => decode_any (w := W) s d m hs3
        have HE2 := fun W A n c (h : Rv W A n c (decR s d m)) => encode_any (rs := decR s d m) d m h Htd.out
        rw [hdz] at HD2
        rw [eq1, eq2] at HE2
        clear eq1 eq2 hdz
        generalize decR s d m = rx at *
        go_enter Try.func6, Try.ntmps6
        go_wp2
        go_quiet (fail)
        go_wp2_with first
          | (go_at_call 9; ((with_reducible refine (few_any (rs := rs) ?_).mono ?_); (focus ((have hr := Hr.out); (repeat (first | with_reducible assumption | with_reducible exact Rv.none_ _ | with_reducible refine Rv.alloc ?_ _ | with_reducible refine Rv.drew ?_ | with_reducible refine Rv.drewN ?_ _ | with_reducible refine Rv.no ?_ (by assumption))))); rintro e w1 ⟨rfl, rfl⟩; rw [Hf.out]))
          | (go_at_call 11; ((with_reducible refine (HE1 _ _ _ _ ?_).mono ?_); (focus ((have hr := Hr.out); (repeat (first | with_reducible assumption | with_reducible exact Rv.none_ _ | with_reducible refine Rv.alloc ?_ _ | with_reducible refine Rv.drew ?_ | with_reducible refine Rv.drewN ?_ _ | with_reducible refine Rv.no ?_ (by assumption))))); rintro e w2 ⟨rfl, hf2⟩))
          | (go_at_call 17; ((with_reducible refine (HD1 _).mono ?_); rintro e w3 ⟨A3, n3, c3, rfl, hv3, hf3⟩))
          | (go_at_call 19; ((with_reducible refine (lS (l := rs) ?_ ?_).mono ?_); (focus (first | exact hv3 | (repeat (first | with_reducible assumption | with_reducible exact Rv.none_ _ | with_reducible refine Rv.alloc ?_ _ | with_reducible refine Rv.drew ?_ | with_reducible refine Rv.drewN ?_ _ | with_reducible refine Rv.no ?_ (by assumption))))); (focus ((have hr := Hr.out); (repeat (first | with_reducible assumption | with_reducible exact Rv.none_ _ | with_reducible refine Rv.alloc ?_ _ | with_reducible refine Rv.drew ?_ | with_reducible refine Rv.drewN ?_ _ | with_reducible refine Rv.no ?_ (by assumption))))); rintro e w4 ⟨rfl, hf4⟩))
          | (go_at_call 13; ((with_reducible refine (HS _ _ _ _ ?_).mono ?_); (focus ((have hr := Hr.out); (repeat (first | with_reducible assumption | with_reducible exact Rv.none_ _ | with_reducible refine Rv.alloc ?_ _ | with_reducible refine Rv.drew ?_ | with_reducible refine Rv.drewN ?_ _ | with_reducible refine Rv.no ?_ (by assumption))))); rintro e w5 ⟨rfl, hf5⟩))
          | (go_at_call 17; ((with_reducible refine (HD2 _).mono ?_); rintro e w6 ⟨A6, n6, c6, rfl, hv6, hf6⟩))
          | (go_at_call 11; ((with_reducible refine (HE2 _ _ _ _ ?_).mono ?_); (focus (repeat (first | with_reducible assumption | with_reducible exact Rv.none_ _ | with_reducible refine Rv.alloc ?_ _ | with_reducible refine Rv.drew ?_ | with_reducible refine Rv.drewN ?_ _ | with_reducible refine Rv.no ?_ (by assumption)))); rintro e w7 ⟨rfl, hf7⟩))
          | (go_at_call 10; ((with_reducible refine (live _).mono ?_); rintro e wl ⟨rfl, hfl⟩))
          | fail
        go_ret
        exact ⟨rfl, by (repeat (first | with_reducible exact Fr.refl _ _ | with_reducible refine Fr.setCell ?_ (.inr (by first | (simp; done) | (simp; omega))) _ | with_reducible refine Fr.alloc ?_ _ | with_reducible refine Fr.drew ?_ | with_reducible refine Fr.drewN ?_ _ | with_reducible refine Fr.tr ?_ (by assumption)))⟩
      · have HD2 := fun W => decode_any (w := W) s d m hs3
        rw [dec_none hdz] at HD2
        generalize decE s d m = ex at *
        go_enter Try.func6, Try.ntmps6
        go_wp2
        go_quiet (fail)
        go_wp2_with first
          | (go_at_call 9; ((with_reducible refine (few_any (rs := rs) ?_).mono ?_); (focus ((have hr := Hr.out); (repeat (first | with_reducible assumption | with_reducible exact Rv.none_ _ | with_reducible refine Rv.alloc ?_ _ | with_reducible refine Rv.drew ?_ | with_reducible refine Rv.drewN ?_ _ | with_reducible refine Rv.no ?_ (by assumption))))); rintro e w1 ⟨rfl, rfl⟩; rw [Hf.out]))
          | (go_at_call 11; ((with_reducible refine (HE1 _ _ _ _ ?_).mono ?_); (focus ((have hr := Hr.out); (repeat (first | with_reducible assumption | with_reducible exact Rv.none_ _ | with_reducible refine Rv.alloc ?_ _ | with_reducible refine Rv.drew ?_ | with_reducible refine Rv.drewN ?_ _ | with_reducible refine Rv.no ?_ (by assumption))))); rintro e w2 ⟨rfl, hf2⟩))
          | (go_at_call 17; ((with_reducible refine (HD1 _).mono ?_); rintro e w3 ⟨A3, n3, c3, rfl, hv3, hf3⟩))
          | (go_at_call 19; ((with_reducible refine (lS (l := rs) ?_ ?_).mono ?_); (focus (first | exact hv3 | (repeat (first | with_reducible assumption | with_reducible exact Rv.none_ _ | with_reducible refine Rv.alloc ?_ _ | with_reducible refine Rv.drew ?_ | with_reducible refine Rv.drewN ?_ _ | with_reducible refine Rv.no ?_ (by assumption))))); (focus ((have hr := Hr.out); (repeat (first | with_reducible assumption | with_reducible exact Rv.none_ _ | with_reducible refine Rv.alloc ?_ _ | with_reducible refine Rv.drew ?_ | with_reducible refine Rv.drewN ?_ _ | with_reducible refine Rv.no ?_ (by assumption))))); rintro e w4 ⟨rfl, hf4⟩))
          | (go_at_call 13; ((with_reducible refine (HS _ _ _ _ ?_).mono ?_); (focus ((have hr := Hr.out); (repeat (first | with_reducible assumption | with_reducible exact Rv.none_ _ | with_reducible refine Rv.alloc ?_ _ | with_reducible refine Rv.drew ?_ | with_reducible refine Rv.drewN ?_ _ | with_reducible refine Rv.no ?_ (by assumption))))); rintro e w5 ⟨rfl, hf5⟩))
          | (go_at_call 17; ((with_reducible refine (HD2 _).mono ?_); rintro e w6 ⟨A6, n6, c6, rfl, hv6, hf6⟩; (obtain rfl : n6 = 0 := hv6.len)))
          | (go_at_call 10; ((with_reducible refine (live _).mono ?_); rintro e wl ⟨rfl, hfl⟩))
          | fail
        go_ret
        exact ⟨rfl, by (repeat (first | with_reducible exact Fr.refl _ _ | with_reducible refine Fr.setCell ?_ (.inr (by first | (simp; done) | (simp; omega))) _ | with_reducible refine Fr.alloc ?_ _ | with_reducible refine Fr.drew ?_ | with_reducible refine Fr.drewN ?_ _ | with_reducible refine Fr.tr ?_ (by assumption)))⟩
    | false =>
      have HE1 := fun W A n c (h : Rv W A n c rs) => encode_any (rs := rs) d m h Ht.out.1
      rw [encT_no hok, encE_no hok] at HE1
      clear hok
      by_cases hdz : decE s d m = 0
      · obtain ⟨eq1, eq2⟩ := enc_dec hdz
        have HD2 := fun W => decode_any (w := W) s d m hs3
        have HE2 := fun W A n c (h : Rv W A n c (decR s d m)) => encode_any (rs := decR s d m) d m h Htd.out
        rw [hdz] at HD2
        rw [eq1, eq2] at HE2
        clear eq1 eq2 hdz
        generalize decR s d m = rx at *
        go_enter Try.func6, Try.ntmps6
        go_wp2
        go_quiet (fail)
        go_wp2_with first
          | (go_at_call 9; ((with_reducible refine (few_any (rs := rs) ?_).mono ?_); (focus ((have hr := Hr.out); (repeat (first | with_reducible assumption | with_reducible exact Rv.none_ _ | with_reducible refine Rv.alloc ?_ _ | with_reducible refine Rv.drew ?_ | with_reducible refine Rv.drewN ?_ _ | with_reducible refine Rv.no ?_ (by assumption))))); rintro e w1 ⟨rfl, rfl⟩; rw [Hf.out]))
          | (go_at_call 11; ((with_reducible refine (HE1 _ _ _ _ ?_).mono ?_); (focus ((have hr := Hr.out); (repeat (first | with_reducible assumption | with_reducible exact Rv.none_ _ | with_reducible refine Rv.alloc ?_ _ | with_reducible refine Rv.drew ?_ | with_reducible refine Rv.drewN ?_ _ | with_reducible refine Rv.no ?_ (by assumption))))); rintro e w2 ⟨rfl, hf2⟩))
          | (go_at_call 17; ((with_reducible refine (HD2 _).mono ?_); rintro e w6 ⟨A6, n6, c6, rfl, hv6, hf6⟩))
          | (go_at_call 11; ((with_reducible refine (HE2 _ _ _ _ ?_).mono ?_); (focus (repeat (first | with_reducible assumption | with_reducible exact Rv.none_ _ | with_reducible refine Rv.alloc ?_ _ | with_reducible refine Rv.drew ?_ | with_reducible refine Rv.drewN ?_ _ | with_reducible refine Rv.no ?_ (by assumption)))); rintro e w7 ⟨rfl, hf7⟩))
          | (go_at_call 10; ((with_reducible refine (live _).mono ?_); rintro e wl ⟨rfl, hfl⟩))
          | fail
        go_ret
        exact ⟨rfl, by (repeat (first | with_reducible exact Fr.refl _ _ | with_reducible refine Fr.setCell ?_ (.inr (by first | (simp; done) | (simp; omega))) _ | with_reducible refine Fr.alloc ?_ _ | with_reducible refine Fr.drew ?_ | with_reducible refine Fr.drewN ?_ _ | with_reducible refine Fr.tr ?_ (by assumption)))⟩
      · have HD2 := fun W => decode_any (w := W) s d m hs3
        rw [dec_none hdz] at HD2
        generalize decE s d m = ex at *
        go_enter Try.func6, Try.ntmps6
        go_wp2
        go_quiet (fail)
        go_wp2_with first
          | (go_at_call 9; ((with_reducible refine (few_any (rs := rs) ?_).mono ?_); (focus ((have hr := Hr.out); (repeat (first | with_reducible assumption | with_reducible exact Rv.none_ _ | with_reducible refine Rv.alloc ?_ _ | with_reducible refine Rv.drew ?_ | with_reducible refine Rv.drewN ?_ _ | with_reducible refine Rv.no ?_ (by assumption))))); rintro e w1 ⟨rfl, rfl⟩; rw [Hf.out]))
          | (go_at_call 11; ((with_reducible refine (HE1 _ _ _ _ ?_).mono ?_); (focus ((have hr := Hr.out); (repeat (first | with_reducible assumption | with_reducible exact Rv.none_ _ | with_reducible refine Rv.alloc ?_ _ | with_reducible refine Rv.drew ?_ | with_reducible refine Rv.drewN ?_ _ | with_reducible refine Rv.no ?_ (by assumption))))); rintro e w2 ⟨rfl, hf2⟩))
          | (go_at_call 17; ((with_reducible refine (HD2 _).mono ?_); rintro e w6 ⟨A6, n6, c6, rfl, hv6, hf6⟩; (obtain rfl : n6 = 0 := hv6.len)))
          | (go_at_call 10; ((with_reducible refine (live _).mono ?_); rintro e wl ⟨rfl, hfl⟩))
          | fail
        go_ret
        exact ⟨rfl, by (repeat (first | with_reducible exact Fr.refl _ _ | with_reducible refine Fr.setCell ?_ (.inr (by first | (simp; done) | (simp; omega))) _ | with_reducible refine Fr.alloc ?_ _ | with_reducible refine Fr.drew ?_ | with_reducible refine Fr.drewN ?_ _ | with_reducible refine Fr.tr ?_ (by assumption)))⟩
end Go.Proofs.Ytehhmpoijonghaa.Bl10
