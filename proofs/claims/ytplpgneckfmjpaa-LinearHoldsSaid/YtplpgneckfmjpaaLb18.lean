/- Layer 18: what comes next, and what was ahead; the chain of a point, the box of a chain (the program's). -/
import Derived.Test.YtplpgneckfmjpaaLa18
import Derived.Test.YtplpgneckfmjpaaLz18
namespace Go.Proofs.Ytplpgneckfmjpaa.Lb18
open Go.RowKit Go.Proofs.Ytplpgneckfmjpaa.Pk08 Go.Proofs.Ytplpgneckfmjpaa.Base Go.Proofs.Ytplpgneckfmjpaa.App Go.Proofs.Ytplpgneckfmjpaa.Ky Go.Proofs.Ytplpgneckfmjpaa.Bx Go.Proofs.Ytplpgneckfmjpaa.Kk Go.Proofs.Ytplpgneckfmjpaa.Bo Go.Proofs.Ytplpgneckfmjpaa.Kc08 Go.Proofs.Ytplpgneckfmjpaa.Kj08 Go.Proofs.Ytplpgneckfmjpaa.Px16 Go.Proofs.Ytplpgneckfmjpaa.Py16 Go.Proofs.Ytplpgneckfmjpaa.Pz18 Go.Proofs.Ytplpgneckfmjpaa.Hd16 Go.Proofs.Ytplpgneckfmjpaa.Hg16 Go.Proofs.Ytplpgneckfmjpaa.Lz18 Go.Proofs.Ytplpgneckfmjpaa.La18
set_option linter.unusedVariables false
set_option linter.unusedSimpArgs false
theorem results_tmp4 {fn : Func} {t u v x : Tmp} (h : fn.results = #[.tmp t, .tmp u, .tmp v, .tmp x]) (tmps : Array Value) (P : Program) (w : World) :
    (results fn tmps).run P w = .ok (.tuple #[tmps.getD t undef, tmps.getD u undef, tmps.getD v undef, tmps.getD x undef]) w := by
  simp [results, h]
section
variable {w : World} {A : Option Addr} {n c : Nat} {k : List Nat}
theorem grow_any (l n : Int) : Calls Try.prog 20 #[.int .i64 l, .int .i64 n] w fun e w' => e = .returned (q4 (grow l n)) ∧ w = w' := by
  rcases grow_cases l n with ⟨h, hg⟩ | ⟨h, h1, hg⟩ | ⟨h, h1, h2, hg⟩ | ⟨h, h1, h2, hg⟩
  · have E := Lib.hid (show q4 (grow l n) = .tuple #[.int .i64 0, .int .i64 0, .int .i64 0, .int .i64 1] by rw [hg]; rfl)
    rw [E.out]
    have H := Lib.hid h
    clear h hg
    go_enter Try.func20, Try.ntmps20
    go_wp2_with (go_at_call 25; ((with_reducible refine (lis_any _ _).mono ?_); rintro e w1 ⟨rfl, rfl⟩; rw [H.out]))
    ((try simp only [Exit.inBlock, Exit.then]); refine bodyPost_ret (results_tmp4 rfl _ _ _) rfl ?_)
    exact ⟨rfl, rfl⟩
  · have E := Lib.hid (show q4 (grow l n) = .tuple #[.int .i64 0, .int .i64 0, .int .i64 0, .int .i64 4] by rw [hg]; rfl)
    rw [E.out]
    have H := Lib.hid h
    subst h1
    clear h hg E
    go_enter Try.func20, Try.ntmps20
    go_wp2_with (go_at_call 25; ((with_reducible refine (lis_any _ _).mono ?_); rintro e w1 ⟨rfl, rfl⟩; rw [H.out]))
    ((try simp only [Exit.inBlock, Exit.then]); refine bodyPost_ret (results_tmp4 rfl _ _ _) rfl ?_)
    exact ⟨rfl, rfl⟩
  · have E := Lib.hid (show q4 (grow l n) = .tuple #[.int .i64 (l + 1), .int .i64 0, .int .i64 (2 * n), .int .i64 0] by rw [hg]; rfl)
    rw [E.out]
    obtain ⟨u, m, rfl, rfl, g1, g2, g3, g4, g5, g6⟩ := lv_in h
    rw [Int.toNat_natCast] at h2
    have H := Lib.hid h
    have hw : wrap64 ((2 : Int) ^ u) = 2 ^ u := IntWalk.wrap64_in _ (by omega)
    have b1 : ((u : Int) == 10) = false := beq_eq_false_iff_ne.2 h1
    have b2 : ((m : Int) + 1 == 2 ^ u) = true := beq_iff_eq.2 h2
    clear h hg E h1 h2 g4
    go_enter Try.func20, Try.ntmps20
    go_wp2_with (go_at_call 25; ((with_reducible refine (lis_any _ _).mono ?_); rintro e w1 ⟨rfl, rfl⟩; rw [H.out]))
    ((try simp only [Exit.inBlock, Exit.then]); refine bodyPost_ret (results_tmp4 rfl _ _ _) rfl ?_)
    exact ⟨rfl, rfl⟩
  · have E := Lib.hid (show q4 (grow l n) = .tuple #[.int .i64 l, .int .i64 (n + 1), .int .i64 (2 * n), .int .i64 0] by rw [hg]; rfl)
    rw [E.out]
    obtain ⟨u, m, rfl, rfl, g1, g2, g3, g4, g5, g6⟩ := lv_in h
    rw [Int.toNat_natCast] at h2
    have H := Lib.hid h
    have hw : wrap64 ((2 : Int) ^ u) = 2 ^ u := IntWalk.wrap64_in _ (by omega)
    have b1 : ((u : Int) == 10) = false := beq_eq_false_iff_ne.2 h1
    have b2 : ((m : Int) + 1 == 2 ^ u) = false := beq_eq_false_iff_ne.2 h2
    clear h hg E h1 h2 g4
    go_enter Try.func20, Try.ntmps20
    go_wp2_with (go_at_call 25; ((with_reducible refine (lis_any _ _).mono ?_); rintro e w1 ⟨rfl, rfl⟩; rw [H.out]))
    ((try simp only [Exit.inBlock, Exit.then]); refine bodyPost_ret (results_tmp4 rfl _ _ _) rfl ?_)
    exact ⟨rfl, rfl⟩
theorem rgrow_any (l n : Int) : Calls Try.prog 21 #[.int .i64 l, .int .i64 n] w fun e w' => e = .returned (q4 (grow l n)) ∧ w = w' := by
  rcases grow_cases l n with ⟨h, hg⟩ | ⟨h, h1, hg⟩ | ⟨h, h1, h2, hg⟩ | ⟨h, h1, h2, hg⟩
  · have E := Lib.hid (show q4 (grow l n) = .tuple #[.int .i64 0, .int .i64 0, .int .i64 0, .int .i64 1] by rw [hg]; rfl)
    rw [E.out]
    have H := Lib.hid h
    clear h hg
    go_enter Try.func21, Try.ntmps21
    go_wp2_with (go_at_call 26; ((with_reducible refine (ris_any _ _).mono ?_); rintro e w1 ⟨rfl, rfl⟩; rw [H.out]))
    ((try simp only [Exit.inBlock, Exit.then]); refine bodyPost_ret (results_tmp4 rfl _ _ _) rfl ?_)
    exact ⟨rfl, rfl⟩
  · have E := Lib.hid (show q4 (grow l n) = .tuple #[.int .i64 0, .int .i64 0, .int .i64 0, .int .i64 4] by rw [hg]; rfl)
    rw [E.out]
    have H := Lib.hid h
    subst h1
    clear h hg E
    go_enter Try.func21, Try.ntmps21
    go_wp2_with (go_at_call 26; ((with_reducible refine (ris_any _ _).mono ?_); rintro e w1 ⟨rfl, rfl⟩; rw [H.out]))
    ((try simp only [Exit.inBlock, Exit.then]); refine bodyPost_ret (results_tmp4 rfl _ _ _) rfl ?_)
    exact ⟨rfl, rfl⟩
  · have E := Lib.hid (show q4 (grow l n) = .tuple #[.int .i64 (l + 1), .int .i64 0, .int .i64 (2 * n), .int .i64 0] by rw [hg]; rfl)
    rw [E.out]
    obtain ⟨u, m, rfl, rfl, g1, g2, g3, g4, g5, g6⟩ := lv_in h
    rw [Int.toNat_natCast] at h2
    have H := Lib.hid h
    have hw : wrap64 ((2 : Int) ^ u) = 2 ^ u := IntWalk.wrap64_in _ (by omega)
    have b1 : ((u : Int) == 10) = false := beq_eq_false_iff_ne.2 h1
    have b2 : ((m : Int) + 1 == 2 ^ u) = true := beq_iff_eq.2 h2
    clear h hg E h1 h2 g4
    go_enter Try.func21, Try.ntmps21
    go_wp2_with (go_at_call 26; ((with_reducible refine (ris_any _ _).mono ?_); rintro e w1 ⟨rfl, rfl⟩; rw [H.out]))
    ((try simp only [Exit.inBlock, Exit.then]); refine bodyPost_ret (results_tmp4 rfl _ _ _) rfl ?_)
    exact ⟨rfl, rfl⟩
  · have E := Lib.hid (show q4 (grow l n) = .tuple #[.int .i64 l, .int .i64 (n + 1), .int .i64 (2 * n), .int .i64 0] by rw [hg]; rfl)
    rw [E.out]
    obtain ⟨u, m, rfl, rfl, g1, g2, g3, g4, g5, g6⟩ := lv_in h
    rw [Int.toNat_natCast] at h2
    have H := Lib.hid h
    have hw : wrap64 ((2 : Int) ^ u) = 2 ^ u := IntWalk.wrap64_in _ (by omega)
    have b1 : ((u : Int) == 10) = false := beq_eq_false_iff_ne.2 h1
    have b2 : ((m : Int) + 1 == 2 ^ u) = false := beq_eq_false_iff_ne.2 h2
    clear h hg E h1 h2 g4
    go_enter Try.func21, Try.ntmps21
    go_wp2_with (go_at_call 26; ((with_reducible refine (ris_any _ _).mono ?_); rintro e w1 ⟨rfl, rfl⟩; rw [H.out]))
    ((try simp only [Exit.inBlock, Exit.then]); refine bodyPost_ret (results_tmp4 rfl _ _ _) rfl ?_)
    exact ⟨rfl, rfl⟩
theorem shrink_any (l n : Int) : Calls Try.prog 22 #[.int .i64 l, .int .i64 n] w fun e w' => e = .returned (q4 (shrink l n)) ∧ w = w' := by
  rcases shrink_cases l n with ⟨h, hg⟩ | ⟨h, h1, hg⟩ | ⟨h, h1, h2, hg⟩ | ⟨h, h1, h2, hg⟩
  · have E := Lib.hid (show q4 (shrink l n) = .tuple #[.int .i64 0, .int .i64 0, .int .i64 0, .int .i64 1] by rw [hg]; rfl)
    rw [E.out]
    have H := Lib.hid h
    clear h hg
    go_enter Try.func22, Try.ntmps22
    go_wp2_with (go_at_call 25; ((with_reducible refine (lis_any _ _).mono ?_); rintro e w1 ⟨rfl, rfl⟩; rw [H.out]))
    ((try simp only [Exit.inBlock, Exit.then]); refine bodyPost_ret (results_tmp4 rfl _ _ _) rfl ?_)
    exact ⟨rfl, rfl⟩
  · have E := Lib.hid (show q4 (shrink l n) = .tuple #[.int .i64 0, .int .i64 0, .int .i64 0, .int .i64 1] by rw [hg]; rfl)
    rw [E.out]
    have H := Lib.hid h
    subst h1
    clear h hg E
    go_enter Try.func22, Try.ntmps22
    go_wp2_with (go_at_call 25; ((with_reducible refine (lis_any _ _).mono ?_); rintro e w1 ⟨rfl, rfl⟩; rw [H.out]))
    ((try simp only [Exit.inBlock, Exit.then]); refine bodyPost_ret (results_tmp4 rfl _ _ _) rfl ?_)
    exact ⟨rfl, rfl⟩
  · obtain ⟨u, m, rfl, rfl, g1, g2, g3, g4, g5, g6⟩ := lv_in h
    obtain ⟨v, rfl⟩ : ∃ v, u = v + 1 := ⟨u - 1, by omega⟩
    have e0 : (((v + 1 : Nat) : Int) - 1).toNat = v := by omega
    have e1 : (((v + 1 : Nat) : Int) - 1) = v := by omega
    have E := Lib.hid (show q4 (shrink ((v + 1 : Nat) : Int) m) = .tuple #[.int .i64 v, .int .i64 (2 ^ v - 1), .int .i64 (2 * (2 ^ v - 1)), .int .i64 0] by rw [hg, e0, e1]; rfl)
    rw [E.out]
    obtain ⟨p1, p2⟩ := two_le v (by omega)
    have hm : m = 0 := by omega
    subst hm
    have H := Lib.hid (show lvOk ((v : Int) + 1) 0 = true from h)
    have hp : (1 : Int) ≤ 2 ^ v := by
      have h3 : ((2 ^ v : Nat) : Int) = (2 : Int) ^ v := by simp
      have h4 : 0 < 2 ^ v := Nat.pow_pos (by decide)
      omega
    have hw : wrap64 ((2 : Int) ^ v) = 2 ^ v := IntWalk.wrap64_in _ (by omega)
    have hv : v ≤ 12 := by omega
    clear h hg E h1 h2 g4 g1 g2 g3 g5 g6 e0 e1
    go_enter Try.func22, Try.ntmps22
    go_wp2_with (go_at_call 25; ((with_reducible refine (lis_any _ _).mono ?_); rintro e w1 ⟨rfl, rfl⟩; rw [H.out]))
    ((try simp only [Exit.inBlock, Exit.then]); refine bodyPost_ret (results_tmp4 rfl _ _ _) rfl ?_)
    exact ⟨rfl, rfl⟩
  · have E := Lib.hid (show q4 (shrink l n) = .tuple #[.int .i64 l, .int .i64 (n - 1), .int .i64 (2 * (n - 1)), .int .i64 0] by rw [hg]; rfl)
    rw [E.out]
    obtain ⟨u, m, rfl, rfl, g1, g2, g3, g4, g5, g6⟩ := lv_in h
    have H := Lib.hid h
    have b1 : ((u : Int) == 0) = false := beq_eq_false_iff_ne.2 h1
    have b2 : ((m : Int) == 0) = false := beq_eq_false_iff_ne.2 h2
    have b3 : 1 ≤ m := by omega
    have b4 : (u == 0) = false := beq_eq_false_iff_ne.2 (by omega)
    have b5 : (m == 0) = false := beq_eq_false_iff_ne.2 (by omega)
    clear h hg E h1 h2 g4
    go_enter Try.func22, Try.ntmps22
    go_wp2_with (go_at_call 25; ((with_reducible refine (lis_any _ _).mono ?_); rintro e w1 ⟨rfl, rfl⟩; rw [H.out]))
    ((try simp only [Exit.inBlock, Exit.then]); refine bodyPost_ret (results_tmp4 rfl _ _ _) rfl ?_)
    exact ⟨rfl, rfl⟩
theorem rshrink_any (l n : Int) : Calls Try.prog 23 #[.int .i64 l, .int .i64 n] w fun e w' => e = .returned (q4 (shrink l n)) ∧ w = w' := by
  rcases shrink_cases l n with ⟨h, hg⟩ | ⟨h, h1, hg⟩ | ⟨h, h1, h2, hg⟩ | ⟨h, h1, h2, hg⟩
  · have E := Lib.hid (show q4 (shrink l n) = .tuple #[.int .i64 0, .int .i64 0, .int .i64 0, .int .i64 1] by rw [hg]; rfl)
    rw [E.out]
    have H := Lib.hid h
    clear h hg
    go_enter Try.func23, Try.ntmps23
    go_wp2_with (go_at_call 26; ((with_reducible refine (ris_any _ _).mono ?_); rintro e w1 ⟨rfl, rfl⟩; rw [H.out]))
    ((try simp only [Exit.inBlock, Exit.then]); refine bodyPost_ret (results_tmp4 rfl _ _ _) rfl ?_)
    exact ⟨rfl, rfl⟩
  · have E := Lib.hid (show q4 (shrink l n) = .tuple #[.int .i64 0, .int .i64 0, .int .i64 0, .int .i64 1] by rw [hg]; rfl)
    rw [E.out]
    have H := Lib.hid h
    subst h1
    clear h hg E
    go_enter Try.func23, Try.ntmps23
    go_wp2_with (go_at_call 26; ((with_reducible refine (ris_any _ _).mono ?_); rintro e w1 ⟨rfl, rfl⟩; rw [H.out]))
    ((try simp only [Exit.inBlock, Exit.then]); refine bodyPost_ret (results_tmp4 rfl _ _ _) rfl ?_)
    exact ⟨rfl, rfl⟩
  · obtain ⟨u, m, rfl, rfl, g1, g2, g3, g4, g5, g6⟩ := lv_in h
    obtain ⟨v, rfl⟩ : ∃ v, u = v + 1 := ⟨u - 1, by omega⟩
    have e0 : (((v + 1 : Nat) : Int) - 1).toNat = v := by omega
    have e1 : (((v + 1 : Nat) : Int) - 1) = v := by omega
    have E := Lib.hid (show q4 (shrink ((v + 1 : Nat) : Int) m) = .tuple #[.int .i64 v, .int .i64 (2 ^ v - 1), .int .i64 (2 * (2 ^ v - 1)), .int .i64 0] by rw [hg, e0, e1]; rfl)
    rw [E.out]
    obtain ⟨p1, p2⟩ := two_le v (by omega)
    have hm : m = 0 := by omega
    subst hm
    have H := Lib.hid (show lvOk ((v : Int) + 1) 0 = true from h)
    have hp : (1 : Int) ≤ 2 ^ v := by
      have h3 : ((2 ^ v : Nat) : Int) = (2 : Int) ^ v := by simp
      have h4 : 0 < 2 ^ v := Nat.pow_pos (by decide)
      omega
    have hw : wrap64 ((2 : Int) ^ v) = 2 ^ v := IntWalk.wrap64_in _ (by omega)
    have hv : v ≤ 12 := by omega
    clear h hg E h1 h2 g4 g1 g2 g3 g5 g6 e0 e1
    go_enter Try.func23, Try.ntmps23
    go_wp2_with (go_at_call 26; ((with_reducible refine (ris_any _ _).mono ?_); rintro e w1 ⟨rfl, rfl⟩; rw [H.out]))
    ((try simp only [Exit.inBlock, Exit.then]); refine bodyPost_ret (results_tmp4 rfl _ _ _) rfl ?_)
    exact ⟨rfl, rfl⟩
  · have E := Lib.hid (show q4 (shrink l n) = .tuple #[.int .i64 l, .int .i64 (n - 1), .int .i64 (2 * (n - 1)), .int .i64 0] by rw [hg]; rfl)
    rw [E.out]
    obtain ⟨u, m, rfl, rfl, g1, g2, g3, g4, g5, g6⟩ := lv_in h
    have H := Lib.hid h
    have b1 : ((u : Int) == 0) = false := beq_eq_false_iff_ne.2 h1
    have b2 : ((m : Int) == 0) = false := beq_eq_false_iff_ne.2 h2
    have b3 : 1 ≤ m := by omega
    have b4 : (u == 0) = false := beq_eq_false_iff_ne.2 (by omega)
    have b5 : (m == 0) = false := beq_eq_false_iff_ne.2 (by omega)
    clear h hg E h1 h2 g4
    go_enter Try.func23, Try.ntmps23
    go_wp2_with (go_at_call 26; ((with_reducible refine (ris_any _ _).mono ?_); rintro e w1 ⟨rfl, rfl⟩; rw [H.out]))
    ((try simp only [Exit.inBlock, Exit.then]); refine bodyPost_ret (results_tmp4 rfl _ _ _) rfl ?_)
    exact ⟨rfl, rfl⟩
def lfOk (q : Nat) (l n : Int) : Bool := lvOk l n && decide (1 ≤ q ∧ q ≤ 6)
def lfV (k : List Nat) (l n : Int) : Int := if lfOk k.length l n = true then ((chain k l.toNat n.toNat : Nat) : Int) else 0
def lfE (k : List Nat) (l n : Int) : Int := if lfOk k.length l n = true then 0 else 1
theorem lf_no {k : List Nat} {l n : Int} (h : lfOk k.length l n = false) : lfV k l n = 0 ∧ lfE k l n = 1 := ⟨by unfold lfV; rw [h]; rfl, by unfold lfE; rw [h]; rfl⟩
theorem lfind_any (l t : Int) (hk : Kv w A n c k) :
    Calls Try.prog 12 #[.slice A n c, .int .i64 l, .int .i64 t] w fun e w' => e = .returned (.tuple #[.int .i64 (lfV k l t), .int .i64 (lfE k l t)]) ∧ w = w' := by
  have hl := hk.len
  cases h : lvOk l t with
  | false =>
    obtain ⟨e1, e2⟩ := lf_no (k := k) (l := l) (n := t) (by unfold lfOk; rw [h]; rfl)
    rw [e1, e2]
    have H := Lib.hid h
    clear h e1 e2
    go_enter Try.func12, Try.ntmps12
    go_wp2_with (go_at_call 25; ((with_reducible refine (lis_any _ _).mono ?_); rintro e w1 ⟨rfl, rfl⟩; rw [H.out]))
    go_ret2
    exact ⟨rfl, rfl⟩
  | true =>
    have H := Lib.hid h
    obtain ⟨u, m, rfl, rfl, g1, g2, g3, g4, g5, g6⟩ := lv_in h
    by_cases hn : 1 ≤ n ∧ n ≤ 6
    · have f1 : fdOk k.length (u : Int) = true := decide_eq_true ⟨by omega, by omega, by omega, by omega⟩
      have f2 : fdOk k.length ((u : Int) + 1) = true := decide_eq_true ⟨by omega, by omega, by omega, by omega⟩
      have f3 : lfOk k.length u m = true := by unfold lfOk; rw [h, decide_eq_true ⟨by omega, by omega⟩]; rfl
      have E1 := Lib.hid (show fdE k (u : Int) = 0 by unfold fdE; rw [if_pos f1])
      have E2 := Lib.hid (show fdE k ((u : Int) + 1) = 0 by unfold fdE; rw [if_pos f2])
      have E3 := Lib.hid (show fdV k (u : Int) = ((bitsK k u : Nat) : Int) by unfold fdV; rw [if_pos f1, Int.toNat_natCast])
      have E4 := Lib.hid (show fdV k ((u : Int) + 1) = ((bitsK k (u + 1) : Nat) : Int) by unfold fdV; rw [if_pos f2]; rfl)
      have e5 : lfV k u m = ((chain k u m : Nat) : Int) := by unfold lfV; rw [if_pos f3, Int.toNat_natCast, Int.toNat_natCast]
      have e6 : lfE k u m = 0 := by unfold lfE; rw [if_pos f3]
      rw [e5, e6]
      have hb := bitsK_lt k u
      have hb2 : bitsK k u < 1024 := by omega
      by_cases hlt : bitsK k u < m
      · have E7 := Lib.hid (show chain k u m = bitsK k (u + 1) by unfold chain; rw [if_pos hlt])
        rw [E7.out]
        clear h f1 f2 f3 e5 e6 hb g4 hl
        generalize bitsK k u = b at *
        generalize bitsK k (u + 1) = b2 at *
        go_enter Try.func12, Try.ntmps12
        go_wp2_with (go_at_call 25; ((with_reducible refine (lis_any _ _).mono ?_); rintro e w1 ⟨rfl, rfl⟩; rw [H.out]))
        go_wp2_with (go_at_call 27; ((with_reducible refine (find_any (k := k) _ ?_).mono ?_); (iterate 1 (repeat (first | with_reducible assumption | ((with_reducible refine Kv.lit_new _ _ _ _ _ _ ?_ ?_ ?_ ?_) <;> (first | (simp; done) | rfl | decide)) | with_reducible exact Kv.none_ _ | with_reducible refine Kv.alloc ?_ _ | with_reducible refine Kv.drew ?_ | with_reducible refine Kv.drewN ?_ _ | with_reducible refine Kv.no ?_ (by assumption)))); rintro e w1 ⟨rfl, rfl⟩; rw [E1.out, E3.out]))
        go_wp2_with (go_at_call 27; ((with_reducible refine (find_any (k := k) _ ?_).mono ?_); (iterate 1 (repeat (first | with_reducible assumption | ((with_reducible refine Kv.lit_new _ _ _ _ _ _ ?_ ?_ ?_ ?_) <;> (first | (simp; done) | rfl | decide)) | with_reducible exact Kv.none_ _ | with_reducible refine Kv.alloc ?_ _ | with_reducible refine Kv.drew ?_ | with_reducible refine Kv.drewN ?_ _ | with_reducible refine Kv.no ?_ (by assumption)))); rintro e w1 ⟨rfl, rfl⟩; rw [E2.out, E4.out]))
        go_ret2
        exact ⟨rfl, rfl⟩
      · have E7 := Lib.hid (show ((chain k u m : Nat) : Int) = (bitsK k u : Int) + m by unfold chain; rw [if_neg hlt]; omega)
        rw [E7.out]
        have hge : m ≤ bitsK k u := by omega
        clear h f1 f2 f3 e5 e6 hb g4 hl hlt
        generalize bitsK k u = b at *
        go_enter Try.func12, Try.ntmps12
        go_wp2_with (go_at_call 25; ((with_reducible refine (lis_any _ _).mono ?_); rintro e w1 ⟨rfl, rfl⟩; rw [H.out]))
        go_wp2_with (go_at_call 27; ((with_reducible refine (find_any (k := k) _ ?_).mono ?_); (iterate 1 (repeat (first | with_reducible assumption | ((with_reducible refine Kv.lit_new _ _ _ _ _ _ ?_ ?_ ?_ ?_) <;> (first | (simp; done) | rfl | decide)) | with_reducible exact Kv.none_ _ | with_reducible refine Kv.alloc ?_ _ | with_reducible refine Kv.drew ?_ | with_reducible refine Kv.drewN ?_ _ | with_reducible refine Kv.no ?_ (by assumption)))); rintro e w1 ⟨rfl, rfl⟩; rw [E1.out, E3.out]))
        go_ret2
        exact ⟨rfl, rfl⟩
    · obtain ⟨e1, e2⟩ := lf_no (k := k) (l := u) (n := m) (by unfold lfOk; rw [decide_eq_false (fun x => hn ⟨by omega, by omega⟩)]; simp)
      rw [e1, e2]
      have f1 : fdOk k.length (u : Int) = false := decide_eq_false (fun x => hn ⟨by omega, by omega⟩)
      have E1 := Lib.hid (show fdE k (u : Int) = 1 by unfold fdE; rw [f1]; rfl)
      have E3 := Lib.hid (show fdV k (u : Int) = 0 by unfold fdV; rw [f1]; rfl)
      clear h e1 e2 f1 hn hl
      go_enter Try.func12, Try.ntmps12
      go_wp2_with (go_at_call 25; ((with_reducible refine (lis_any _ _).mono ?_); rintro e w1 ⟨rfl, rfl⟩; rw [H.out]))
      go_wp2_with (go_at_call 27; ((with_reducible refine (find_any (k := k) _ ?_).mono ?_); (iterate 1 (repeat (first | with_reducible assumption | ((with_reducible refine Kv.lit_new _ _ _ _ _ _ ?_ ?_ ?_ ?_) <;> (first | (simp; done) | rfl | decide)) | with_reducible exact Kv.none_ _ | with_reducible refine Kv.alloc ?_ _ | with_reducible refine Kv.drew ?_ | with_reducible refine Kv.drewN ?_ _ | with_reducible refine Kv.no ?_ (by assumption)))); rintro e w1 ⟨rfl, rfl⟩; rw [E1.out, E3.out]))
      go_ret2
      exact ⟨rfl, rfl⟩
end
end Go.Proofs.Ytplpgneckfmjpaa.Lb18
