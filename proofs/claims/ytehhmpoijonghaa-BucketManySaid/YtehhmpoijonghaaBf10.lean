/- Layer 10: Encode, the program's and the document's. -/
import Derived.Test.YtehhmpoijonghaaBe10
namespace Go.Proofs.Ytehhmpoijonghaa.Bf10
open Go.RowKit Go.Proofs.Ytehhmpoijonghaa.Pk08 Go.Proofs.Ytehhmpoijonghaa.Base Go.Proofs.Ytehhmpoijonghaa.App Go.Proofs.Ytehhmpoijonghaa.Str Go.Proofs.Ytehhmpoijonghaa.Ky Go.Proofs.Ytehhmpoijonghaa.Bx Go.Proofs.Ytehhmpoijonghaa.Bo Go.Proofs.Ytehhmpoijonghaa.Pl08 Go.Proofs.Ytehhmpoijonghaa.Kc08 Go.Proofs.Ytehhmpoijonghaa.Kd08 Go.Proofs.Ytehhmpoijonghaa.Rv Go.Proofs.Ytehhmpoijonghaa.Ra Go.Proofs.Ytehhmpoijonghaa.Rp Go.Proofs.Ytehhmpoijonghaa.Ro Go.Proofs.Ytehhmpoijonghaa.Rk Go.Proofs.Ytehhmpoijonghaa.Ri Go.Proofs.Ytehhmpoijonghaa.Fa Go.Proofs.Ytehhmpoijonghaa.Ba10 Go.Proofs.Ytehhmpoijonghaa.Bd10 Go.Proofs.Ytehhmpoijonghaa.Bp10 Go.Proofs.Ytehhmpoijonghaa.Be10
set_option linter.unusedVariables false
set_option linter.unusedSimpArgs false
section
variable {w : World} {A B : Option Addr} {n m c d : Nat} {rs : List Rv.Rec} {k : List Nat}
/-- The ways to no bytes. -/
theorem enc_no1 {d cap : Int} (h : capB cap = false) : encOk rs d cap = false := by simp [encOk, h]
theorem enc_no2 {d cap : Int} (h : fitB rs cap = false) : encOk rs d cap = false := by simp [encOk, h]
theorem enc_no3 {d cap : Int} (h : isBk d rs = false) : encOk rs d cap = false := by simp [encOk, h]
theorem enc_yes {d cap : Int} (h1 : capB cap = true) (h2 : fitB rs cap = true) (h3 : isBk d rs = true) : encOk rs d cap = true := by simp [encOk, h1, h2, h3]
theorem encT_no {d cap : Int} (h : encOk rs d cap = false) : encT rs d cap = { data := #[] } := by simp [encT, h]
theorem encE_no {d cap : Int} (h : encOk rs d cap = false) : encE rs d cap = 1 := by simp [encE, h]
theorem encT_yes {d cap : Int} (h : encOk rs d cap = true) : encT rs d cap = txt (encB rs) := by simp [encT, h]
theorem encE_yes {d cap : Int} (h : encOk rs d cap = true) : encE rs d cap = 0 := by simp [encE, h]
/-- The bytes ahead of a record. -/
def pre (rs : List Rv.Rec) (i : Nat) : List Nat := be1 rs.length ++ recsB (rs.take i)
theorem pre_len (rs : List Rv.Rec) (i : Nat) : (pre rs i).length = sizeR (rs.take i) := by rw [← recsB_len]; simp [pre, be1]; omega
theorem pre_zero (rs : List Rv.Rec) : pre rs 0 = be1 rs.length := by simp [pre, recsB]
theorem pre_all (rs : List Rv.Rec) : pre rs rs.length = encB rs := by simp [pre, encB]
theorem pre_succ {rs : List Rv.Rec} (i : Nat) (h : i < rs.length) : pre rs (i + 1) = pre rs i ++ keyB (rs.getD i rec0).1 ++ be1 (rs.getD i rec0).2.size ++ bys (rs.getD i rec0).2 := by
  rw [pre, recsB_take rs i h, pre, recB]; simp only [List.append_assoc]
theorem sizeR_mono (rs : List Rv.Rec) (i : Nat) : sizeR (rs.take i) ≤ sizeR rs := by
  have e := congrArg (fun l => (List.map szr l).sum) (List.take_append_drop i rs)
  simp only [List.map_append, sum_app] at e
  unfold sizeR; omega
theorem pre_room {rs : List Rv.Rec} (i : Nat) (h : i < rs.length) : (pre rs i).length + 4 * (rs.getD i rec0).1.length + 1 + (rs.getD i rec0).2.size ≤ sizeR rs := by
  have h1 := sizeR_succ rs i h
  have h2 := sizeR_mono rs (i + 1)
  rw [pre_len]; unfold szr at h1; omega
set_option maxRecDepth 8000 in
set_option maxHeartbeats 3200000 in
theorem encode_any (dm cap : Int) (hr : Rv w A n c rs) (ht : Tiny rs) : Calls Try.prog 11 #[.slice A n c, .int .i64 dm, .int .i64 cap] w fun e w' => e = .returned (.tuple #[.string (encT rs dm cap), .int .i64 ((encE rs dm cap : Nat) : Int)]) ∧ Fr No w w' := by
  have hn : n ≤ 1000 := by have := hr.len; have := ht.1; omega
  have Hr := Lib.hid hr
  have Ht := Lib.hid ht
  clear hr ht
  cases h1 : capB cap with
  | false =>
    rw [encT_no (enc_no1 h1), encE_no (enc_no1 h1)]
    go_enter Try.func11, Try.ntmps11
    go_wp2_with (go_at_call 30; ((with_reducible refine (cap_any _).mono ?_); rintro e w5 ⟨rfl, rfl⟩; rw [h1]))
    go_ret2
    exact ⟨rfl, Fr.refl _ _⟩
  | true =>
    cases h2 : fitB rs cap with
    | false =>
      rw [encT_no (enc_no2 h2), encE_no (enc_no2 h2)]
      go_enter Try.func11, Try.ntmps11
      go_wp2_with first
        | (go_at_call 30; ((with_reducible refine (cap_any _).mono ?_); rintro e w5 ⟨rfl, rfl⟩; rw [h1]))
        | (go_at_call 15; ((with_reducible refine (fits_any (rs := rs) _ ?_ Ht.out).mono ?_); (focus ((have h := Hr.out); (repeat (first | with_reducible assumption | with_reducible exact Rv.none_ _ | with_reducible refine Rv.alloc ?_ _ | with_reducible refine Rv.drew ?_ | with_reducible refine Rv.drewN ?_ _ | with_reducible refine Rv.no ?_ (by assumption))))); rintro e w6 ⟨rfl, hf6⟩; rw [h2]))
        | fail
      go_ret2
      exact ⟨rfl, by (repeat (first | with_reducible exact Fr.refl _ _ | with_reducible refine Fr.setCell ?_ (.inr (by first | (simp; done) | (simp; omega))) _ | with_reducible refine Fr.alloc ?_ _ | with_reducible refine Fr.drew ?_ | with_reducible refine Fr.drewN ?_ _ | with_reducible refine Fr.tr ?_ (by assumption)))⟩
    | true =>
      cases h3 : isBk dm rs with
      | false =>
        rw [encT_no (enc_no3 h3), encE_no (enc_no3 h3)]
        go_enter Try.func11, Try.ntmps11
        go_wp2_with first
          | (go_at_call 30; ((with_reducible refine (cap_any _).mono ?_); rintro e w5 ⟨rfl, rfl⟩; rw [h1]))
          | (go_at_call 15; ((with_reducible refine (fits_any (rs := rs) _ ?_ Ht.out).mono ?_); (focus ((have h := Hr.out); (repeat (first | with_reducible assumption | with_reducible exact Rv.none_ _ | with_reducible refine Rv.alloc ?_ _ | with_reducible refine Rv.drew ?_ | with_reducible refine Rv.drewN ?_ _ | with_reducible refine Rv.no ?_ (by assumption))))); rintro e w6 ⟨rfl, hf6⟩; rw [h2]))
          | (go_at_call 31; ((with_reducible refine (is_any (rs := rs) _ ?_).mono ?_); (focus ((have h := Hr.out); (repeat (first | with_reducible assumption | with_reducible exact Rv.none_ _ | with_reducible refine Rv.alloc ?_ _ | with_reducible refine Rv.drew ?_ | with_reducible refine Rv.drewN ?_ _ | with_reducible refine Rv.no ?_ (by assumption))))); rintro e w7 ⟨rfl, hf7⟩; rw [h3]))
          | fail
        go_ret2
        exact ⟨rfl, by (repeat (first | with_reducible exact Fr.refl _ _ | with_reducible refine Fr.setCell ?_ (.inr (by first | (simp; done) | (simp; omega))) _ | with_reducible refine Fr.alloc ?_ _ | with_reducible refine Fr.drew ?_ | with_reducible refine Fr.drewN ?_ _ | with_reducible refine Fr.tr ?_ (by assumption)))⟩
      | true =>
        have Hok := Lib.hid (enc_yes (d := dm) h1 h2 h3)
        have Hst := Lib.hid (isBk_rec h3)
        have hfit : n ≤ 16 ∧ sizeR rs ≤ 230 := by
          simp only [fitB, capB, Bool.and_eq_true, decide_eq_true_eq] at h1 h2
          have := Hr.out.len
          omega
        have hfit1 := hfit.1
        have hfit2 := hfit.2
        clear hfit
        rw [encT_yes Hok.out, encE_yes Hok.out]
        go_enter Try.func11, Try.ntmps11
        go_wp2_with first
          | (go_at_call 30; ((with_reducible refine (cap_any _).mono ?_); rintro e w5 ⟨rfl, rfl⟩; rw [h1]))
          | (go_at_call 15; ((with_reducible refine (fits_any (rs := rs) _ ?_ Ht.out).mono ?_); (focus ((have h := Hr.out); (repeat (first | with_reducible assumption | with_reducible exact Rv.none_ _ | with_reducible refine Rv.alloc ?_ _ | with_reducible refine Rv.drew ?_ | with_reducible refine Rv.drewN ?_ _ | with_reducible refine Rv.no ?_ (by assumption))))); rintro e w6 ⟨rfl, hf6⟩; rw [h2]))
          | (go_at_call 31; ((with_reducible refine (is_any (rs := rs) _ ?_).mono ?_); (focus ((have h := Hr.out); (repeat (first | with_reducible assumption | with_reducible exact Rv.none_ _ | with_reducible refine Rv.alloc ?_ _ | with_reducible refine Rv.drew ?_ | with_reducible refine Rv.drewN ?_ _ | with_reducible refine Rv.no ?_ (by assumption))))); rintro e w7 ⟨rfl, hf7⟩; rw [h3]))
          | (go_at_call 13; ((with_reducible refine (size_any (rs := rs) ?_ Ht.out).mono ?_); (focus ((have h := Hr.out); (repeat (first | with_reducible assumption | with_reducible exact Rv.none_ _ | with_reducible refine Rv.alloc ?_ _ | with_reducible refine Rv.drew ?_ | with_reducible refine Rv.drewN ?_ _ | with_reducible refine Rv.no ?_ (by assumption))))); rintro e w8 ⟨rfl, hf8⟩))
          | (go_at_call 32; ((with_reducible refine (new_area (sizeR rs) (by omega)).mono ?_); rintro e w9 ⟨ga, gb, rfl, hoa, hob, hga, hgb, hab, hf9⟩))
          | (go_at_call 33; ((with_reducible refine (cput1 (Wc.start ((((Fr.refl No w).tr hf6).tr hf7).tr hf8 |>.tr hf9) hoa hob (Nat.le_trans ((((Fr.refl No w).tr hf6).tr hf7).tr hf8).size hga) (Nat.le_trans ((((Fr.refl No w).tr hf6).tr hf7).tr hf8).size hgb) hab (by omega)) n (by omega) (by unfold sizeR; simp)).mono ?_); rintro e w10 ⟨rfl, hwc, hf10⟩))
          | fail
        have hgcl := hwc.lt_.1
        generalize w9.heap.size = gc at *
        have hwc0 : Wc w w10 gc ga gb (sizeR rs) (pre rs 0) := by rw [pre_zero, ← Hr.out.len]; exact hwc
        clear hwc
        have hsr : ∀ i, i ≤ n → (pre rs i).length ≤ 230 := fun i hi => by rw [pre_len]; exact Nat.le_trans (sizeR_mono rs i) hfit2
        have Hsr := Lib.hid hsr
        clear hsr
        go_loopw [46] (fun v wr => ∃ i : Nat, v = .int .i64 i ∧ i ≤ n ∧ Hid (Wc w wr gc ga gb (sizeR rs) (pre rs i))) (fun v _ => n - (intOf v).toNat)
        case atStart => exact ⟨0, rfl, Nat.zero_le _, Lib.hid hwc0⟩
        case round =>
          obtain ⟨i, rfl, hi, Hi⟩ := hrel
          by_cases hlt : i < n
          · obtain ⟨b, off, KA, kc, rfl, a0, a1, hka, hza⟩ := Hr.out.get i (by rw [← Hr.out.len]; exact hlt)
            have a0 := cel_no a0 Hi.out.fr
            have a1 := cel_no a1 Hi.out.fr
            have Hroom := Lib.hid (pre_room i (show i < rs.length by rw [← Hr.out.len]; exact hlt))
            have Hsucc := Lib.hid (pre_succ i (show i < rs.length by rw [← Hr.out.len]; exact hlt))
            generalize hrr : rs.getD i rec0 = r at *
            clear hrr
            obtain ⟨ks, s⟩ := r
            simp only at *
            have hkl : ks.length ≤ 230 ∧ s.size ≤ 230 := by have := Hroom.out; omega
            have hkl1 := hkl.1
            have hkl2 := hkl.2
            clear hkl
            obtain ⟨x0, x1⟩ := cells2 (Ob.new wr #[.slice KA ks.length kc, .string s] 38)
            have Hka := Lib.hid hka
            clear hka
            go_wp2
            have hwa : Wc w (wr.alloc (.cells #[.slice KA ks.length kc, .string s] 38)) gc ga gb (sizeR rs) (pre rs i ++ keyB (ks.take 0)) := by
              rw [show keyB (ks.take 0) = [] from rfl, List.append_nil]
              exact Hi.out.alloc_ _
            have hoba : Ob (wr.alloc (.cells #[.slice KA ks.length kc, .string s] 38)) wr.heap.size #[.slice KA ks.length kc, .string s] 38 := Ob.new _ _ _
            have hgl := Hi.out.lt_
            have hgr := hgl.1
            have hgs := hgl.2
            clear hgl
            have hi1 := Hi.out.hc
            generalize wr.alloc (.cells #[.slice KA ks.length kc, .string s] 38) = wq at *
            generalize wr.heap.size = gr at *
            clear Hi a0 a1 x0 x1
            go_loopw [53] (fun v wk => ∃ k : Nat, v = .int .i64 k ∧ k ≤ ks.length ∧ Hid (Wc w wk gc ga gb (sizeR rs) (pre rs i ++ keyB (ks.take k)) ∧ Ob wk gr #[.slice KA ks.length kc, .string s] 38)) (fun v _ => ks.length - (intOf v).toNat)
            case atStart => exact ⟨0, rfl, Nat.zero_le _, Lib.hid ⟨hwa, hoba⟩⟩
            case round =>
              obtain ⟨k, rfl, hk, Hk⟩ := hrel
              by_cases hkt : k < ks.length
              · obtain ⟨b2, off2, rfl, e0⟩ := (Hka.out.no Hk.out.1.fr).get k hkt
                have hv := Hka.out.ltD k
                have Hkt := Lib.hid (keyB_take ks k hkt)
                generalize ks.getD k 0 = v at *
                have hpl : (pre rs i ++ keyB (ks.take k)).length = (pre rs i).length + 4 * k := by rw [List.length_append, keyB_len, List.length_take]; omega
                have Hpl := Lib.hid hpl
                clear hpl
                go_wp2_with (go_at_call 33; ((with_reducible refine (cput4 Hk.out.1 v hv (by rw [Hpl.out]; have := Hroom.out; omega)).mono ?_); rintro e w5 ⟨rfl, hw5, hf5⟩))
                refine ⟨⟨k + 1, by go_num, hkt, Lib.hid ⟨?_, Hk.out.2.fr hf5 (by rintro (e | e) <;> omega)⟩⟩, by simp [intOf]; omega⟩
                rw [Hkt.out, ← List.append_assoc]; exact hw5
              · obtain rfl : k = ks.length := by omega
                have hk2 := Hk.out
                rw [List.take_length] at hk2
                have hpl : (pre rs i ++ keyB ks).length = (pre rs i).length + 4 * ks.length := by rw [List.length_append, keyB_len]
                have Hpl := Lib.hid hpl
                have Hk2 := Lib.hid hk2
                obtain ⟨x0, x1⟩ := cells2 hk2.2
                have Hn1 := Lib.hid (show gr ≠ gc ∧ gr ≠ gb from ⟨by omega, by omega⟩)
                clear hpl hk2 Hk
                go_wp2_with first
                  | (go_at_call 33; ((with_reducible refine (cput1 Hk2.out.1 s.size (by omega) (by rw [Hpl.out]; have := Hroom.out; omega)).mono ?_); rintro e w5 ⟨rfl, hw5, hf5⟩; obtain ⟨u0, u1⟩ := cells2 (Hk2.out.2.fr hf5 (by rintro (e | e); exact Hn1.out.1 e; exact Hn1.out.2 e))))
                  | (go_at_call 34; ((with_reducible refine (cput_text hw5 s (by rw [List.length_append, Hpl.out, be1_len]; have := Hroom.out; omega)).mono ?_); rintro e w7 ⟨rfl, hw7, hf7⟩))
                  | fail
                refine ⟨⟨i + 1, by go_num, hlt, Lib.hid ?_⟩, by simp [intOf]; omega⟩
                rw [Hsucc.out]; exact hw7
          · obtain rfl : i = n := by omega
            have hp := Hi.out
            rw [Hr.out.len, pre_all] at hp
            have Hp := Lib.hid (hp.bytes (encB_len rs))
            have Hpf := Lib.hid hp.fr
            clear hp Hi
            go_wp2_with (go_at_call 35; ((with_reducible refine Hp.out.mono ?_); rintro e w5 ⟨rfl, rfl⟩))
            go_ret2
            exact ⟨rfl, Hpf.out⟩
set_option maxRecDepth 8000 in
set_option maxHeartbeats 3200000 in
theorem rencode_any (dm cap : Int) (hr : Rv w A n c rs) (ht : Tiny rs) : Calls Try.prog 12 #[.slice A n c, .int .i64 dm, .int .i64 cap] w fun e w' => e = .returned (.tuple #[.string (encT rs dm cap), .int .i64 ((encE rs dm cap : Nat) : Int)]) ∧ Fr No w w' := by
  have hn : n ≤ 1000 := by have := hr.len; have := ht.1; omega
  have Hr := Lib.hid hr
  have Ht := Lib.hid ht
  clear hr ht
  by_cases g1 : cap < 2
  · have h1 : capB cap = false := by simp [capB]; omega
    rw [encT_no (enc_no1 h1), encE_no (enc_no1 h1)]
    go_enter Try.func12, Try.ntmps12
    go_wp2
    go_ret2
    exact ⟨rfl, Fr.refl _ _⟩
  by_cases g2 : 16 < cap
  · have h1 : capB cap = false := by simp [capB]; omega
    rw [encT_no (enc_no1 h1), encE_no (enc_no1 h1)]
    go_enter Try.func12, Try.ntmps12
    go_wp2
    go_ret2
    exact ⟨rfl, Fr.refl _ _⟩
  have h1 : capB cap = true := by simp [capB]; omega
  cases h3 : isBk dm rs with
  | false =>
    rw [encT_no (enc_no3 h3), encE_no (enc_no3 h3)]
    go_enter Try.func12, Try.ntmps12
    go_wp2_with (go_at_call 20; ((with_reducible refine (ris_any (rs := rs) _ ?_).mono ?_); (focus ((have h := Hr.out); (repeat (first | with_reducible assumption | with_reducible exact Rv.none_ _ | with_reducible refine Rv.alloc ?_ _ | with_reducible refine Rv.drew ?_ | with_reducible refine Rv.drewN ?_ _ | with_reducible refine Rv.no ?_ (by assumption))))); rintro e w7 ⟨rfl, hf7⟩; rw [h3]))
    go_ret2
    exact ⟨rfl, by (repeat (first | with_reducible exact Fr.refl _ _ | with_reducible refine Fr.setCell ?_ (.inr (by first | (simp; done) | (simp; omega))) _ | with_reducible refine Fr.alloc ?_ _ | with_reducible refine Fr.drew ?_ | with_reducible refine Fr.drewN ?_ _ | with_reducible refine Fr.tr ?_ (by assumption)))⟩
  | true =>
    cases h2 : fitB rs cap with
    | false =>
      rw [encT_no (enc_no2 h2), encE_no (enc_no2 h2)]
      go_enter Try.func12, Try.ntmps12
      go_wp2_with first
        | (go_at_call 20; ((with_reducible refine (ris_any (rs := rs) _ ?_).mono ?_); (focus ((have h := Hr.out); (repeat (first | with_reducible assumption | with_reducible exact Rv.none_ _ | with_reducible refine Rv.alloc ?_ _ | with_reducible refine Rv.drew ?_ | with_reducible refine Rv.drewN ?_ _ | with_reducible refine Rv.no ?_ (by assumption))))); rintro e w7 ⟨rfl, hf7⟩; rw [h3]))
        | (go_at_call 16; ((with_reducible refine (rfits_any (rs := rs) _ ?_ Ht.out).mono ?_); (focus ((have h := Hr.out); (repeat (first | with_reducible assumption | with_reducible exact Rv.none_ _ | with_reducible refine Rv.alloc ?_ _ | with_reducible refine Rv.drew ?_ | with_reducible refine Rv.drewN ?_ _ | with_reducible refine Rv.no ?_ (by assumption))))); rintro e w6 ⟨rfl, hf6⟩; rw [h2]))
        | fail
      go_ret2
      exact ⟨rfl, by (repeat (first | with_reducible exact Fr.refl _ _ | with_reducible refine Fr.setCell ?_ (.inr (by first | (simp; done) | (simp; omega))) _ | with_reducible refine Fr.alloc ?_ _ | with_reducible refine Fr.drew ?_ | with_reducible refine Fr.drewN ?_ _ | with_reducible refine Fr.tr ?_ (by assumption)))⟩
    | true =>
      have Hok := Lib.hid (enc_yes (d := dm) h1 h2 h3)
      have hfit : n ≤ 16 ∧ sizeR rs ≤ 230 := by
        simp only [fitB, capB, Bool.and_eq_true, decide_eq_true_eq] at h1 h2
        have := Hr.out.len
        omega
      have hfit1 := hfit.1
      have hfit2 := hfit.2
      clear hfit
      rw [encT_yes Hok.out, encE_yes Hok.out]
      go_enter Try.func12, Try.ntmps12
      go_wp2_with first
        | (go_at_call 20; ((with_reducible refine (ris_any (rs := rs) _ ?_).mono ?_); (focus ((have h := Hr.out); (repeat (first | with_reducible assumption | with_reducible exact Rv.none_ _ | with_reducible refine Rv.alloc ?_ _ | with_reducible refine Rv.drew ?_ | with_reducible refine Rv.drewN ?_ _ | with_reducible refine Rv.no ?_ (by assumption))))); rintro e w7 ⟨rfl, hf7⟩; rw [h3]))
        | (go_at_call 16; ((with_reducible refine (rfits_any (rs := rs) _ ?_ Ht.out).mono ?_); (focus ((have h := Hr.out); (repeat (first | with_reducible assumption | with_reducible exact Rv.none_ _ | with_reducible refine Rv.alloc ?_ _ | with_reducible refine Rv.drew ?_ | with_reducible refine Rv.drewN ?_ _ | with_reducible refine Rv.no ?_ (by assumption))))); rintro e w6 ⟨rfl, hf6⟩; rw [h2]))
        | (go_at_call 36; ((with_reducible refine (wide1 n (by omega) _ rfl).mono ?_); rintro e w8 ⟨rfl, hf8⟩))
        | fail
      have Hf := Lib.hid ((((Fr.refl No w).tr hf7).tr hf6).tr hf8)
      have HP0 : txt (be1 n) = txt (pre rs 0) ∧ (be1 n).length = 1 := ⟨by rw [pre_zero, ← Hr.out.len], rfl⟩
      have hz0 : (txt (be1 n)).size = 1 := by rw [txt_size, HP0.2]
      have Hsr := Lib.hid (show ∀ i, i ≤ n → (pre rs i).length ≤ 230 from fun i hi => by rw [pre_len]; exact Nat.le_trans (sizeR_mono rs i) hfit2)
      have HP := Lib.hid HP0.1
      clear hf6 hf7 hf8 HP0
      generalize txt (be1 n) = t0 at *
      go_loopw [8, 9] (fun t v wr => ∃ i : Nat, ∃ s : ByteArray, v = .int .i64 i ∧ t = .string s ∧ i ≤ n ∧ s.size ≤ 230 ∧ Hid (s = txt (pre rs i) ∧ Fr No w wr)) (fun _ v _ => n - (intOf v).toNat)
      case atStart => exact ⟨0, t0, rfl, rfl, Nat.zero_le _, by omega, Lib.hid ⟨HP.out, Hf.out⟩⟩
      case round =>
        obtain ⟨i, t, rfl, rfl, hi, hts, Hi⟩ := hrel
        by_cases hlt : i < n
        · obtain ⟨b, off, KA, kc, rfl, a0, a1, hka, hza⟩ := (Hr.out.no Hi.out.2).get i (by rw [← Hr.out.len]; exact hlt)
          have Hroom := Lib.hid (pre_room i (show i < rs.length by rw [← Hr.out.len]; exact hlt))
          have Hsucc := Lib.hid (pre_succ i (show i < rs.length by rw [← Hr.out.len]; exact hlt))
          generalize hrr : rs.getD i rec0 = r at *
          clear hrr
          obtain ⟨ks, s⟩ := r
          simp only at *
          have hkl : ks.length ≤ 230 ∧ s.size ≤ 230 := by have := Hroom.out; omega
          have hkl1 := hkl.1
          have hkl2 := hkl.2
          clear hkl
          have Hka := Lib.hid hka
          clear hka
          go_wp2
          go_loopw [8, 10] (fun t v wk => ∃ k : Nat, ∃ u : ByteArray, v = .int .i64 k ∧ t = .string u ∧ k ≤ ks.length ∧ u.size ≤ 230 ∧ Hid (u = txt (pre rs i ++ keyB (ks.take k)) ∧ Fr No wr wk)) (fun _ v _ => ks.length - (intOf v).toNat)
          case atStart => exact ⟨0, t, rfl, rfl, Nat.zero_le _, hts, Lib.hid ⟨by rw [show keyB (ks.take 0) = [] from rfl, List.append_nil]; exact Hi.out.1, Fr.refl _ _⟩⟩
          case round =>
            obtain ⟨k, u, rfl, rfl, hk, hus, Hk⟩ := hrel
            have e0 := cel_no a0 Hk.out.2
            have e1 := cel_no a1 Hk.out.2
            by_cases hkt : k < ks.length
            · obtain ⟨b2, off2, rfl, e2⟩ := (Hka.out.no Hk.out.2).get k hkt
              have hv := Hka.out.ltD k
              have Hkt := Lib.hid (keyB_take ks k hkt)
              generalize ks.getD k 0 = v at *
              have hb4 : (txt (be4 v)).size = 4 := txt_size _
              have hw4 := fun W => wide4 (w := W) v hv (v : Int) rfl
              generalize hB : txt (be4 v) = t4 at *
              have HB := Lib.hid hB
              have Hus := Lib.hid (show (u ++ t4).size ≤ 230 by
                rw [ByteArray.size_append, hb4, Hk.out.1, txt_size, List.length_append, keyB_len, List.length_take]
                have := Hroom.out
                omega)
              clear hB
              go_wp2_with (go_at_call 36; ((with_reducible refine (hw4 _).mono ?_); rintro e w5 ⟨rfl, hf5⟩))
              refine ⟨⟨k + 1, u ++ t4, by go_num, rfl, hkt, Hus.out, Lib.hid ⟨?_, Hk.out.2.tr hf5⟩⟩, by simp [intOf]; omega⟩
              rw [Hkt.out, ← List.append_assoc, Hk.out.1, ← HB.out, txt_app]
            · obtain rfl : k = ks.length := by omega
              have hb1 : (txt (be1 s.size)).size = 1 := txt_size _
              have hw1 := fun W => wide1 (w := W) s.size (by omega) (s.size : Int) rfl
              generalize hB : txt (be1 s.size) = t1 at *
              have HB := Lib.hid hB
              have hsz : u.size + 1 + s.size ≤ 230 := by
                have h1 := congrArg ByteArray.size Hk.out.1
                rw [txt_size, List.length_append, List.take_length, keyB_len] at h1
                have := Hroom.out
                have := Hsr.out (i + 1) hlt
                rw [Hsucc.out] at this
                simp only [List.length_append, keyB_len, be1_len, bys_len] at this
                omega
              clear hB
              go_wp2
              (refine wp_region_held_drew (S := fun w' => w'.cell? ⟨b, off + i * 2 + 1, none⟩ = some (.string s)) (by kernel_rfl) ?_ (fun hHeld => ?_); focus ((try dsimp only); (repeat (first | with_reducible assumption | with_reducible refine cel_alloc ?_ _ | with_reducible refine cel_drew ?_ | with_reducible refine cel_drewN ?_ _ | with_reducible refine cel_set ?_ (by first | (simp; done) | (simp; omega)) _ | with_reducible refine cel_no ?_ (by assumption))); done))
              ((refine wpAnyH_take (i := 0) (v := ?_) rfl (by kernel_rfl) (by kernel_rfl) (by kernel_rfl) (fun _ _ _ h => h) (Or.inl ⟨by rfl, ?_⟩) (by assumption) ?_; rotate_left; focus (intro w hSw; (try dsimp only at hSw); go_simp; (try with_reducible rfl); done)); (try simp only [Act.put, List.setIfInBounds_toArray, List.set_cons_zero, List.set_cons_succ, List.getElem_toArray, List.getElem_cons_zero, List.getElem_cons_succ]); (refine wpAnyH_take (i := 1) (v := ?_) rfl (by kernel_rfl) (by kernel_rfl) (by kernel_rfl) (fun _ _ _ h => h) (Or.inl ⟨by rfl, ?_⟩) (by assumption) ?_; rotate_left; focus (intro w hSw; (try dsimp only at hSw); go_simp; (try with_reducible rfl); done)); (try simp only [Act.put, List.setIfInBounds_toArray, List.set_cons_zero, List.set_cons_succ, List.getElem_toArray, List.getElem_cons_zero, List.getElem_cons_succ]); (refine wpAnyH_take (i := 2) (v := ?_) rfl (by kernel_rfl) (by kernel_rfl) (by kernel_rfl) (fun _ _ _ h => h) (Or.inl ⟨by rfl, ?_⟩) (by assumption) ?_; rotate_left; focus (intro w hSw; (try dsimp only at hSw); go_simp; (try with_reducible rfl); done)); (try simp only [Act.put, List.setIfInBounds_toArray, List.set_cons_zero, List.set_cons_succ, List.getElem_toArray, List.getElem_cons_zero, List.getElem_cons_succ]); (refine wpAnyH_take (i := 3) (v := ?_) rfl (by kernel_rfl) (by kernel_rfl) (by kernel_rfl) (fun _ _ _ h => h) (Or.inl ⟨by rfl, ?_⟩) (by assumption) ?_; rotate_left; focus (intro w hSw; (try dsimp only at hSw); go_simp; (try with_reducible rfl); done)); (try simp only [Act.put, List.setIfInBounds_toArray, List.set_cons_zero, List.set_cons_succ, List.getElem_toArray, List.getElem_cons_zero, List.getElem_cons_succ]); (refine wpAnyH_take (i := 4) (v := ?_) rfl (by kernel_rfl) (by kernel_rfl) (by kernel_rfl) (fun _ _ _ h => h) (Or.inl ⟨by rfl, ?_⟩) (by assumption) ?_; rotate_left; focus (intro w hSw; (try dsimp only at hSw); go_simp; (try with_reducible rfl); done)); (try simp only [Act.put, List.setIfInBounds_toArray, List.set_cons_zero, List.set_cons_succ, List.getElem_toArray, List.getElem_cons_zero, List.getElem_cons_succ]); (refine wpAnyH_take (i := 5) (v := ?_) rfl (by kernel_rfl) (by kernel_rfl) (by kernel_rfl) (fun _ _ _ h => h) (Or.inl ⟨by rfl, ?_⟩) (by assumption) ?_; rotate_left; focus (intro w hSw; (try dsimp only at hSw); go_simp; (try with_reducible rfl); done)); (try simp only [Act.put, List.setIfInBounds_toArray, List.set_cons_zero, List.set_cons_succ, List.getElem_toArray, List.getElem_cons_zero, List.getElem_cons_succ]); (refine wpAnyH_take (i := 9) (v := ?_) rfl (by kernel_rfl) (by kernel_rfl) (by kernel_rfl) (fun _ _ _ h => h) (Or.inl ⟨by rfl, ?_⟩) (by assumption) ?_; rotate_left; focus (intro w hSw; (try dsimp only at hSw); go_simp; (try with_reducible rfl); done)); (try simp only [Act.put, List.setIfInBounds_toArray, List.set_cons_zero, List.set_cons_succ, List.getElem_toArray, List.getElem_cons_zero, List.getElem_cons_succ]); (refine wpAnyH_take (i := 10) (v := ?_) rfl (by kernel_rfl) (by kernel_rfl) (by kernel_rfl) (fun _ _ _ h => h) (Or.inl ⟨by rfl, ?_⟩) (by assumption) ?_; rotate_left; focus (intro w hSw; (try dsimp only at hSw); go_simp; (try with_reducible rfl); done)); (try simp only [Act.put, List.setIfInBounds_toArray, List.set_cons_zero, List.set_cons_succ, List.getElem_toArray, List.getElem_cons_zero, List.getElem_cons_succ]); (refine wpAnyH_take (i := 11) (v := ?_) rfl (by kernel_rfl) (by kernel_rfl) (by kernel_rfl) (fun _ _ _ h => h) (Or.inl ⟨by rfl, ?_⟩) (by assumption) ?_; rotate_left; focus (intro w hSw; (try dsimp only at hSw); go_simp; (try with_reducible rfl); done)); (try simp only [Act.put, List.setIfInBounds_toArray, List.set_cons_zero, List.set_cons_succ, List.getElem_toArray, List.getElem_cons_zero, List.getElem_cons_succ]); (refine wpAnyH_take (i := 12) (v := ?_) rfl (by kernel_rfl) (by kernel_rfl) (by kernel_rfl) (fun _ _ _ h => h) (Or.inl ⟨by rfl, ?_⟩) (by assumption) ?_; rotate_left; focus (intro w hSw; (try dsimp only at hSw); go_simp; (try with_reducible rfl); done)); (try simp only [Act.put, List.setIfInBounds_toArray, List.set_cons_zero, List.set_cons_succ, List.getElem_toArray, List.getElem_cons_zero, List.getElem_cons_succ]); (refine wpAnyH_take (i := 13) (v := ?_) rfl (by kernel_rfl) (by kernel_rfl) (by kernel_rfl) (fun _ _ _ h => h) (Or.inl ⟨by rfl, ?_⟩) (by assumption) ?_; rotate_left; focus (intro w hSw; (try dsimp only at hSw); go_simp; (try with_reducible rfl); done)); (try simp only [Act.put, List.setIfInBounds_toArray, List.set_cons_zero, List.set_cons_succ, List.getElem_toArray, List.getElem_cons_zero, List.getElem_cons_succ]))
              (refine wpAnyH_ready (rs := [6]) (by kernel_rfl) (by simp) ?_; refine AllReadyH.cons rfl (fun K hK => ?_) AllReadyH.nil; (try simp only [Act.put, List.setIfInBounds_toArray, List.set_cons_zero, List.set_cons_succ, List.getElem_toArray, List.getElem_cons_zero, List.getElem_cons_succ]); go_simp; refine hK.out _ _ ?_ (fun hHeld => ?_); focus ((try dsimp only); (repeat (first | with_reducible assumption | with_reducible refine cel_alloc ?_ _ | with_reducible refine cel_drew ?_ | with_reducible refine cel_drewN ?_ _ | with_reducible refine cel_set ?_ (by first | (simp; done) | (simp; omega)) _ | with_reducible refine cel_no ?_ (by assumption))); done)); (clear hK K); (try simp only [Act.put, List.setIfInBounds_toArray, List.set_cons_zero, List.set_cons_succ, List.getElem_toArray, List.getElem_cons_zero, List.getElem_cons_succ])
              (refine wpAnyH_ready (rs := [7]) (by kernel_rfl) (by simp) ?_; refine AllReadyH.cons rfl (fun K hK => ?_) AllReadyH.nil; (try simp only [Act.put, List.setIfInBounds_toArray, List.set_cons_zero, List.set_cons_succ, List.getElem_toArray, List.getElem_cons_zero, List.getElem_cons_succ]); go_simp; (go_at_call 36; ((with_reducible refine (hw1 _).mono ?_); rintro e w5 ⟨rfl, hf5⟩)); (try go_wp2_with fail); refine hK.out _ _ ?_ (fun hHeld => ?_); focus ((try dsimp only); (repeat (first | with_reducible assumption | with_reducible refine cel_alloc ?_ _ | with_reducible refine cel_drew ?_ | with_reducible refine cel_drewN ?_ _ | with_reducible refine cel_set ?_ (by first | (simp; done) | (simp; omega)) _ | with_reducible refine cel_no ?_ (by assumption))); done)); (clear hK K); (try simp only [Act.put, List.setIfInBounds_toArray, List.set_cons_zero, List.set_cons_succ, List.getElem_toArray, List.getElem_cons_zero, List.getElem_cons_succ])
              ((refine wpAnyH_take (i := 8) (v := ?_) rfl (by kernel_rfl) (by kernel_rfl) (by kernel_rfl) (fun _ _ _ h => h) (Or.inl ⟨by rfl, ?_⟩) (by assumption) ?_; rotate_left; focus (intro w hSw; (try dsimp only at hSw); go_simp; (try rw [if_neg (by first | omega | (rw [ByteArray.size_append]; omega))]); (try with_reducible rfl); done)); (try simp only [Act.put, List.setIfInBounds_toArray, List.set_cons_zero, List.set_cons_succ, List.getElem_toArray, List.getElem_cons_zero, List.getElem_cons_succ]); (refine wpAnyH_take (i := 14) (v := ?_) rfl (by kernel_rfl) (by kernel_rfl) (by kernel_rfl) (fun _ _ _ h => h) (Or.inl ⟨by rfl, ?_⟩) (by assumption) ?_; rotate_left; focus (intro w hSw; (try dsimp only at hSw); go_simp; (try rw [if_neg (by first | omega | (rw [ByteArray.size_append]; omega))]); (try with_reducible rfl); done)); (try simp only [Act.put, List.setIfInBounds_toArray, List.set_cons_zero, List.set_cons_succ, List.getElem_toArray, List.getElem_cons_zero, List.getElem_cons_succ]))
              (refine wpAnyH_take (i := 15) (v := ?_) rfl (by kernel_rfl) (by kernel_rfl) (by kernel_rfl) (fun _ _ _ h => h) (Or.inl ⟨by rfl, ?_⟩) (by assumption) ?_; rotate_left; focus (intro w hSw; (try dsimp only at hSw); go_simp; (try with_reducible rfl); done)); (try simp only [Act.put, List.setIfInBounds_toArray, List.set_cons_zero, List.set_cons_succ, List.getElem_toArray, List.getElem_cons_zero, List.getElem_cons_succ])
              (refine wpAnyH_done (by kernel_rfl) ?_ _)
              go_wp2
              refine ⟨⟨i + 1, u ++ t1 ++ s, by go_num, rfl, hlt, by rw [ByteArray.size_append, ByteArray.size_append, hb1]; exact hsz, Lib.hid ⟨?_, (Hi.out.2.tr Hk.out.2).drew.tr hf5⟩⟩, by simp [intOf]; omega⟩
              rw [Hsucc.out, Hk.out.1, List.take_length, ← HB.out, txt_app, ← txt_app (pre rs i ++ keyB ks ++ be1 s.size), txt_bys]
        · obtain rfl : i = n := by omega
          have hp := Hi.out
          rw [Hr.out.len, pre_all] at hp
          have Hp := Lib.hid hp
          clear hp Hi
          go_wp2
          go_ret2
          exact ⟨by rw [Hp.out.1]; rfl, Hp.out.2⟩
end
end Go.Proofs.Ytehhmpoijonghaa.Bf10
