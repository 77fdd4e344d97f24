/- Layer 10: Decode, the document's. -/
import Derived.Test.YtehhmpoijonghaaBg10
namespace Go.Proofs.Ytehhmpoijonghaa.Bh10
open Go.RowKit Go.Proofs.Ytehhmpoijonghaa.Pk08 Go.Proofs.Ytehhmpoijonghaa.Base Go.Proofs.Ytehhmpoijonghaa.App Go.Proofs.Ytehhmpoijonghaa.Str Go.Proofs.Ytehhmpoijonghaa.Ky Go.Proofs.Ytehhmpoijonghaa.Bx Go.Proofs.Ytehhmpoijonghaa.Bo Go.Proofs.Ytehhmpoijonghaa.As Go.Proofs.Ytehhmpoijonghaa.Ki08 Go.Proofs.Ytehhmpoijonghaa.Pl08 Go.Proofs.Ytehhmpoijonghaa.Kc08 Go.Proofs.Ytehhmpoijonghaa.Kd08 Go.Proofs.Ytehhmpoijonghaa.Rv Go.Proofs.Ytehhmpoijonghaa.Ra Go.Proofs.Ytehhmpoijonghaa.Rp Go.Proofs.Ytehhmpoijonghaa.Ro Go.Proofs.Ytehhmpoijonghaa.Rk Go.Proofs.Ytehhmpoijonghaa.Ri Go.Proofs.Ytehhmpoijonghaa.Fa Go.Proofs.Ytehhmpoijonghaa.Ba10 Go.Proofs.Ytehhmpoijonghaa.Bd10 Go.Proofs.Ytehhmpoijonghaa.Bp10 Go.Proofs.Ytehhmpoijonghaa.Be10 Go.Proofs.Ytehhmpoijonghaa.Bf10 Go.Proofs.Ytehhmpoijonghaa.Bg10
set_option linter.unusedVariables false
set_option linter.unusedSimpArgs false
attribute [local go_sem ↓ high] builtin_app
theorem numk_from (bs : List Nat) (a k n : Nat) (h : k ≤ n) : numk ((bs.drop a).take n) 0 k = numk bs a k := by
  induction k with
  | zero => rfl
  | succ k ih =>
    rw [numk, numk, ih (by omega)]
    congr 1
    simp only [List.getD_eq_getElem?_getD, List.getElem?_take, Nat.zero_add, List.getElem?_drop]
    rw [if_pos (by omega)]
theorem sub_num (s : ByteArray) (a : Nat) (h : a + 4 ≤ s.size) : numk (bys (sub s a 4)) 0 (sub s a 4).size = gk s a 4 ∧ (sub s a 4).size = 4 := by
  have h1 : bys (sub s a 4) = ((bys s).drop a).take 4 := bys_txt _ (fun x hx => bys_lt s x (List.mem_of_mem_drop (List.mem_of_mem_take hx)))
  have h2 : (sub s a 4).size = 4 := by rw [sub, txt_size]; simp [bys_len]; omega
  refine ⟨?_, h2⟩
  rw [h2, h1, numk_from _ _ _ _ (Nat.le_refl _), gk, if_pos h]
section
variable {w : World}
/-- A number more, put behind a point of the call's own. -/
theorem push_num {wk : World} {base k kc : Nat} {K : Option Addr} {ks : List Nat} (hO : wk.ownsRow base 51 1 (.slice K k kc) k (u32s ks)) (hb : base ≤ wk.heap.size) (v : Nat) (hk : k ≤ 1000) :
    ∃ A1 c1 w1, (appSem #[36, 36] 36 #[.slice K k kc, .slice (some ⟨wk.heap.size, 0, none⟩) 1 1]).run Try.prog (wk.alloc (.cells #[.int .u32 (v : Int)] 51)) = .ok (.slice A1 (k + 1) c1) w1 ∧ w1.ownsRow base 51 1 (.slice A1 (k + 1) c1) (k + 1) (u32s (ks ++ [v])) ∧ (wk.alloc (.cells #[.int .u32 (v : Int)] 51)).grownBy w1 (Value.slice K k kc).ownBlock := by
  obtain ⟨A1, c1, w1, hrun, hown, hgr, hat⟩ := app_eq (P := Try.prog) (w := wk.alloc (.cells #[.int .u32 (v : Int)] 51)) base 36 51 (.int .u32 0) 1 4 Try.underlying36 info_u32 rfl (by decide) (by decide) (hO.alloc _) (some ⟨wk.heap.size, 0, none⟩) 1 1 (u32s [v]) (by rw [u32s_len]; rfl) (fun i u hi => by
    have hi0 : i = 0 := by
      have := (List.getElem?_eq_some_iff.1 hi).1
      simp [u32s] at this
      omega
    subst hi0
    have hu : u = .int .u32 (v : Int) := by simpa [u32s] using hi.symm
    subst hu
    exact ⟨⟨wk.heap.size, 0, none⟩, rfl, (Ob.new wk _ _).cell 0 rfl⟩) (u32s_one _) (by omega) (by simp; omega)
  exact ⟨A1, c1, w1, hrun, by rw [← u32s_app]; exact hown, hgr⟩
set_option maxRecDepth 8000 in
set_option maxHeartbeats 3200000 in
theorem rdecode_any (s : ByteArray) (d cap : Int) (hs : s.size ≤ 300) : Calls Try.prog 18 #[.string s, .int .i64 d, .int .i64 cap] w fun e w' => ∃ A n c, e = .returned (.tuple #[.slice A n c, .int .i64 ((decE s d cap : Nat) : Int)]) ∧ Rv w' A n c (decR s d cap) ∧ Fr No w w' := by
  by_cases g1 : d < 1
  · obtain ⟨e1, e2⟩ := dec_no1 (s := s) (cap := cap) (show dimB d = false by simp [dimB]; omega)
    rw [e1, e2]
    go_enter Try.func18, Try.ntmps18
    go_wp2
    go_ret2
    exact ⟨none, 0, 0, rfl, Rv.none_ _, Fr.refl _ _⟩
  by_cases g2 : 6 < d
  · obtain ⟨e1, e2⟩ := dec_no1 (s := s) (cap := cap) (show dimB d = false by simp [dimB]; omega)
    rw [e1, e2]
    go_enter Try.func18, Try.ntmps18
    go_wp2
    go_ret2
    exact ⟨none, 0, 0, rfl, Rv.none_ _, Fr.refl _ _⟩
  have hd : dimB d = true := by simp [dimB]; omega
  obtain ⟨dim, rfl⟩ : ∃ dim : Nat, d = dim := ⟨d.toNat, by omega⟩
  have hdim : 1 ≤ dim := by omega
  have hdim6 : dim ≤ 6 := by omega
  by_cases g3 : cap < 2
  · obtain ⟨e1, e2⟩ := dec_no2 (s := s) (d := dim) (cap := cap) (by simp [capB]; omega)
    rw [e1, e2]
    go_enter Try.func18, Try.ntmps18
    go_wp2
    go_ret2
    exact ⟨none, 0, 0, rfl, Rv.none_ _, Fr.refl _ _⟩
  by_cases g4 : 16 < cap
  · obtain ⟨e1, e2⟩ := dec_no2 (s := s) (d := dim) (cap := cap) (by simp [capB]; omega)
    rw [e1, e2]
    go_enter Try.func18, Try.ntmps18
    go_wp2
    go_ret2
    exact ⟨none, 0, 0, rfl, Rv.none_ _, Fr.refl _ _⟩
  have h1 : capB cap = true := by simp [capB]; omega
  by_cases g5 : s = { data := #[] }
  · have hcut : cutB s dim = true := by
      subst g5
      rw [cutB, decide_eq_true_eq]
      exact Nat.lt_of_lt_of_le Nat.zero_lt_one (posB_mono _ dim 0 _ (Nat.zero_le _))
    obtain ⟨e1, e2⟩ := dec_cut (s := s) (dim := dim) hd h1 hcut
    rw [e1, e2]
    have hstr : s.toList.isEmpty = true := by rw [g5, ByteArray.toList_mk []]; rfl
    go_enter Try.func18, Try.ntmps18
    go_wp2
    go_ret2
    exact ⟨none, 0, 0, rfl, Rv.none_ _, Fr.refl _ _⟩
  have hs0 : 0 < s.size := by
    rcases Nat.eq_zero_or_pos s.size with h | h
    · refine absurd (ba_ext ?_) g5
      have : s.data.toList.length = 0 := by rw [Array.length_toList]; exact h
      exact List.eq_nil_of_length_eq_zero this
    · exact h
  have hstr : s.toList.isEmpty = false := by
    have h := str_no g5
    rw [show (({ data := #[] } : ByteArray)).toList = [] from ByteArray.toList_mk []] at h
    cases hl : s.toList with
    | nil => rw [hl] at h; cases h
    | cons a l => rfl
  have Hcd := Lib.hid (show cntB s = s[0].toNat from bys_at s 0 hs0)
  have hcl : s[0].toNat < 256 := s[0].toNat_lt
  go_enter Try.func18, Try.ntmps18
  go_wp2
  go_loopw [10, 9, 8] (fun v a l wr => ∃ j z : Nat, ∃ (P : Option Addr) (cP : Nat), v = .int .i64 j ∧ a = .int .i64 z ∧ l = .slice P j cP ∧ j ≤ s[0].toNat ∧ z ≤ s.size ∧ Hid (z = posB s dim j ∧ Ow wr w.heap.size 38 (fun _ => True) P j cP (recsAt s dim j) ∧ Fr No w wr)) (fun v _ _ _ => s[0].toNat - (intOf v).toNat)
  case atStart => exact ⟨0, 1, none, 0, rfl, rfl, rfl, Nat.zero_le _, hs0, Lib.hid ⟨rfl, by simpa [recsAt] using Ow.nil_ _ _ _ _, Fr.refl _ _⟩⟩
  case round =>
    obtain ⟨j, z, P, cP, rfl, rfl, rfl, hj, hz, Hj⟩ := hrel
    by_cases hjc : j < s[0].toNat
    · by_cases hroom : s.size < z + 4 * dim + 1
      · have hcut : cutB s dim = true := by
          rw [cutB, Hcd.out, decide_eq_true_eq]
          have h1 := posB_mono s dim (j + 1) s[0].toNat hjc
          have h2 := Hj.out.1
          rw [posB, ← h2] at h1
          omega
        obtain ⟨e1, e2⟩ := dec_cut (s := s) (dim := dim) hd h1 hcut
        go_wp2
        go_ret2
        rw [e1, e2]
        exact ⟨none, 0, 0, rfl, Rv.none_ _, Hj.out.2.2⟩
      · obtain ⟨wq, hwq⟩ : ∃ x, x = wr := ⟨wr, rfl⟩
        subst hwq
        go_wp2
        have hz1 := Hj.out.1
        have HK := Lib.hid (keyAt_len s dim j)
        have hob1 : Ob (wq.alloc (.cells #[.slice none 0 0, .string { data := #[] }] 38)) wq.heap.size #[.slice none 0 0, .string { data := #[] }] 38 := Ob.new _ _ _
        have hfa : Fr No wq (wq.alloc (.cells #[.slice none 0 0, .string { data := #[] }] 38)) := (Fr.refl _ _).alloc _
        have hsa : wq.heap.size + 1 ≤ (wq.alloc (.cells #[.slice none 0 0, .string { data := #[] }] 38)).heap.size := by simp
        have Hz1 := Lib.hid hz1
        clear hz1
        generalize (wq.alloc (.cells #[.slice none 0 0, .string { data := #[] }] 38)) = wa at *
        go_loopw [12] (fun v wk => ∃ k : Nat, ∃ (KA : Option Addr) (kc : Nat), v = .int .i64 k ∧ k ≤ dim ∧ Hid (Ob wk wq.heap.size #[.slice KA k kc, .string { data := #[] }] 38 ∧ wk.ownsRow (wq.heap.size + 1) 51 1 (.slice KA k kc) k (u32s ((keyAt s dim j).take k)) ∧ Fr No wq wk ∧ wq.heap.size + 1 ≤ wk.heap.size)) (fun v _ => dim - (intOf v).toNat)
        case atStart => exact ⟨0, none, 0, rfl, Nat.zero_le _, Lib.hid ⟨hob1, World.ownsRow_nil _ _ _ _, hfa, hsa⟩⟩
        case round =>
          obtain ⟨k, KA, kc, rfl, hk, Hk⟩ := hrel
          clear hob1 hfa hsa
          obtain ⟨x0, x1⟩ := cells2 Hk.out.1
          by_cases hkt : k < dim
          · have hroom2 : z + 4 * k + 4 ≤ s.size := by omega
            have Hkey := Lib.hid (keyAt_get s dim j k hkt)
            obtain ⟨hn1, hn2⟩ := sub_num s (z + 4 * k) hroom2
            have hNw := fun W => narrow_any (w := W) (sub s (z + 4 * k) 4) (by rw [hn2]; exact Nat.le_refl _)
            rw [hn1] at hNw
            have hsub := sub_extract s (z + 4 * k) 4
            have hv4 : gk s (z + 4 * k) 4 < 4294967296 := gk_lt s _ 4
            obtain ⟨A1, c1, w1, hrun, hown1, hgr⟩ := push_num (World.ownsRow.drew Hk.out.2.1) (by have := Hk.out.2.2.2; simpa using this) (gk s (z + 4 * k) 4) (by omega)
            have Htk := Lib.hid (show (keyAt s dim j).take (k + 1) = (keyAt s dim j).take k ++ [gk s (z + 4 * k) 4] by
              rw [List.take_add_one, List.getElem?_eq_getElem (by rw [HK.out]; exact hkt)]
              have := Hkey.out
              rw [← Hz1.out, List.getD_eq_getElem?_getD, List.getElem?_eq_getElem (by rw [HK.out]; exact hkt)] at this
              simp only [Option.getD_some] at this
              rw [this]; rfl)
            have HF1 := Lib.hid (show Fr No wq w1 from (Hk.out.2.2.1.drew.alloc _).grown hgr (fun b hb => .inr (by have := (Hk.out.2.1.lt b hb).1; omega)))
            have HS1 := Lib.hid (show wq.heap.size + 1 ≤ (w1.setCell ⟨wq.heap.size, 0, none⟩ (.slice A1 (k + 1) c1)).heap.size by
              have h1 := (grown_fr hgr).size
              have h2 := Hk.out.2.2.2
              simp at h1 ⊢
              omega)
            have H1 := Lib.hid hown1
            have Hgr := Lib.hid hgr
            clear hown1 hgr hn1 hn2
            generalize sub s (z + 4 * k) 4 = tk at *
            rw [← Hz1.out] at Hkey
            generalize gk s (z + 4 * k) 4 = v at *
            rw [show wr.drew.heap.size = wr.heap.size from rfl, show wr.drew.alloc (.cells #[.int .u32 (v : Int)] 51) = (wr.alloc (.cells #[.int .u32 (v : Int)] 51)).drew from rfl] at hrun
            go_wp2
            have hw1 : IntKind.i64.wrap (4 * (k : Int)) = 4 * (k : Int) := IntWalk.i64_in _ (by omega)
            have hw2 : IntKind.i64.wrap ((z : Int) + 4 * (k : Int)) = (z : Int) + 4 * (k : Int) := IntWalk.i64_in _ (by omega)
            have hw3 : IntKind.i64.wrap ((z : Int) + 4 * (k : Int) + 4) = (z : Int) + 4 * (k : Int) + 4 := IntWalk.i64_in _ (by omega)
            have hw4 : (0 : Int) ≤ (z : Int) + 4 * (k : Int) + 4 ∧ (z : Int) + 4 * (k : Int) + 4 ≤ (s.size : Int) := by omega
            have hw5 : (0 : Int) ≤ (z : Int) + 4 * (k : Int) ∧ (z : Int) + 4 * (k : Int) ≤ (z : Int) + 4 * (k : Int) + 4 := by omega
            have hw6 : ((z : Int) + 4 * (k : Int)).toNat = z + 4 * k := by omega
            have hw7 : ((z : Int) + 4 * (k : Int) + 4).toNat = z + 4 * k + 4 := by omega
            have hw8 : IntKind.u32.wrap (v : Int) = (v : Int) := IntWalk.u32_in _ (by omega)
            have hne : ¬ ((Value.slice KA k kc).ownBlock = some wq.heap.size) := fun e => by have := (Hk.out.2.1.lt wq.heap.size e).1; omega
            have ho1 := (Hk.out.1.drew.alloc (.cells #[.int .u32 (v : Int)] 51)).fr (grown_fr Hgr.out) hne
            obtain ⟨u0, u1⟩ := cells2 ho1
            have hfz := ho1.frozen 0
            have Ho1 := Lib.hid ho1
            clear ho1
            have hlt1 : wq.heap.size < wr.heap.size := Hk.out.1.lt
            have x0a := cel_alloc x0 (.cells #[.int .u32 (v : Int)] 51)
            (refine wp_region_held_drew (S := fun w' => dim ≤ 6) (by kernel_rfl) ?_ (fun hHeld => ?_); focus ((try dsimp only); exact hdim6; done))
            ((refine wpAnyH_take (i := 0) (v := ?_) rfl (by kernel_rfl) (by kernel_rfl) (by kernel_rfl) (fun _ _ _ h => h) (Or.inl ⟨by rfl, ?_⟩) (by assumption) ?_; rotate_left; focus (intro w hSw; (try dsimp only at hSw); go_simp; (try with_reducible rfl); done)); (try simp only [Act.put, List.setIfInBounds_toArray, List.set_cons_zero, List.set_cons_succ, List.getElem_toArray, List.getElem_cons_zero, List.getElem_cons_succ]); (refine wpAnyH_take (i := 2) (v := ?_) rfl (by kernel_rfl) (by kernel_rfl) (by kernel_rfl) (fun _ _ _ h => h) (Or.inl ⟨by rfl, ?_⟩) (by assumption) ?_; rotate_left; focus (intro w hSw; (try dsimp only at hSw); go_simp; (try with_reducible rfl); done)); (try simp only [Act.put, List.setIfInBounds_toArray, List.set_cons_zero, List.set_cons_succ, List.getElem_toArray, List.getElem_cons_zero, List.getElem_cons_succ]); (refine wpAnyH_take (i := 3) (v := ?_) rfl (by kernel_rfl) (by kernel_rfl) (by kernel_rfl) (fun _ _ _ h => h) (Or.inl ⟨by rfl, ?_⟩) (by assumption) ?_; rotate_left; focus (intro w hSw; (try dsimp only at hSw); go_simp; (try with_reducible rfl); done)); (try simp only [Act.put, List.setIfInBounds_toArray, List.set_cons_zero, List.set_cons_succ, List.getElem_toArray, List.getElem_cons_zero, List.getElem_cons_succ]); (refine wpAnyH_take (i := 4) (v := ?_) rfl (by kernel_rfl) (by kernel_rfl) (by kernel_rfl) (fun _ _ _ h => h) (Or.inl ⟨by rfl, ?_⟩) (by assumption) ?_; rotate_left; focus (intro w hSw; (try dsimp only at hSw); go_simp; (try with_reducible rfl); done)); (try simp only [Act.put, List.setIfInBounds_toArray, List.set_cons_zero, List.set_cons_succ, List.getElem_toArray, List.getElem_cons_zero, List.getElem_cons_succ]); (refine wpAnyH_take (i := 5) (v := ?_) rfl (by kernel_rfl) (by kernel_rfl) (by kernel_rfl) (fun _ _ _ h => h) (Or.inl ⟨by rfl, ?_⟩) (by assumption) ?_; rotate_left; focus (intro w hSw; (try dsimp only at hSw); go_simp; (try with_reducible rfl); done)); (try simp only [Act.put, List.setIfInBounds_toArray, List.set_cons_zero, List.set_cons_succ, List.getElem_toArray, List.getElem_cons_zero, List.getElem_cons_succ]); (refine wpAnyH_take (i := 6) (v := ?_) rfl (by kernel_rfl) (by kernel_rfl) (by kernel_rfl) (fun _ _ _ h => h) (Or.inl ⟨by rfl, ?_⟩) (by assumption) ?_; rotate_left; focus (intro w hSw; (try dsimp only at hSw); go_simp; (try with_reducible rfl); done)); (try simp only [Act.put, List.setIfInBounds_toArray, List.set_cons_zero, List.set_cons_succ, List.getElem_toArray, List.getElem_cons_zero, List.getElem_cons_succ]); (refine wpAnyH_take (i := 7) (v := ?_) rfl (by kernel_rfl) (by kernel_rfl) (by kernel_rfl) (fun _ _ _ h => h) (Or.inl ⟨by rfl, ?_⟩) (by assumption) ?_; rotate_left; focus (intro w hSw; (try dsimp only at hSw); go_simp; (try with_reducible rfl); done)); (try simp only [Act.put, List.setIfInBounds_toArray, List.set_cons_zero, List.set_cons_succ, List.getElem_toArray, List.getElem_cons_zero, List.getElem_cons_succ]); (refine wpAnyH_take (i := 8) (v := ?_) rfl (by kernel_rfl) (by kernel_rfl) (by kernel_rfl) (fun _ _ _ h => h) (Or.inl ⟨by rfl, ?_⟩) (by assumption) ?_; rotate_left; focus (intro w hSw; (try dsimp only at hSw); go_simp; (try with_reducible rfl); done)); (try simp only [Act.put, List.setIfInBounds_toArray, List.set_cons_zero, List.set_cons_succ, List.getElem_toArray, List.getElem_cons_zero, List.getElem_cons_succ]); (refine wpAnyH_take (i := 9) (v := ?_) rfl (by kernel_rfl) (by kernel_rfl) (by kernel_rfl) (fun _ _ _ h => h) (Or.inl ⟨by rfl, ?_⟩) (by assumption) ?_; rotate_left; focus (intro w hSw; (try dsimp only at hSw); go_simp; (try with_reducible rfl); done)); (try simp only [Act.put, List.setIfInBounds_toArray, List.set_cons_zero, List.set_cons_succ, List.getElem_toArray, List.getElem_cons_zero, List.getElem_cons_succ]); (refine wpAnyH_take (i := 10) (v := ?_) rfl (by kernel_rfl) (by kernel_rfl) (by kernel_rfl) (fun _ _ _ h => h) (Or.inl ⟨by rfl, ?_⟩) (by assumption) ?_; rotate_left; focus (intro w hSw; (try dsimp only at hSw); go_simp; (try with_reducible rfl); done)); (try simp only [Act.put, List.setIfInBounds_toArray, List.set_cons_zero, List.set_cons_succ, List.getElem_toArray, List.getElem_cons_zero, List.getElem_cons_succ]); (refine wpAnyH_take (i := 11) (v := ?_) rfl (by kernel_rfl) (by kernel_rfl) (by kernel_rfl) (fun _ _ _ h => h) (Or.inl ⟨by rfl, ?_⟩) (by assumption) ?_; rotate_left; focus (intro w hSw; (try dsimp only at hSw); go_simp; (try with_reducible rfl); done)); (try simp only [Act.put, List.setIfInBounds_toArray, List.set_cons_zero, List.set_cons_succ, List.getElem_toArray, List.getElem_cons_zero, List.getElem_cons_succ]))
            (refine wpAnyH_take (i := 12) (v := ?_) rfl (by kernel_rfl) (by kernel_rfl) (by kernel_rfl) (fun _ _ _ h => h) (Or.inl ⟨by rfl, ?_⟩) (by assumption) ?_; rotate_left; focus (intro w hSw; (try dsimp only at hSw); go_simp; (try simp only [hw1, hw2, hw3, if_pos hw4, if_pos hw5, hw6, hw7, hsub]); (try with_reducible rfl); done)); (try simp only [Act.put, List.setIfInBounds_toArray, List.set_cons_zero, List.set_cons_succ, List.getElem_toArray, List.getElem_cons_zero, List.getElem_cons_succ])
            (refine wpAnyH_ready (rs := [1, 13]) (by kernel_rfl) (by simp) ?_; refine AllReadyH.cons rfl (fun K hK => ?_) (AllReadyH.cons rfl (fun K hK => ?_) AllReadyH.nil))
            ((try simp only [Act.put, List.setIfInBounds_toArray, List.set_cons_zero, List.set_cons_succ, List.getElem_toArray, List.getElem_cons_zero, List.getElem_cons_succ]); go_simp; refine hK.out _ _ ?_ (fun hHeld => ?_); focus ((try dsimp only); exact hdim6; done)); (clear hK K); (try simp only [Act.put, List.setIfInBounds_toArray, List.set_cons_zero, List.set_cons_succ, List.getElem_toArray, List.getElem_cons_zero, List.getElem_cons_succ]); (refine wpAnyH_ready (rs := [13]) (by kernel_rfl) (by simp) ?_; refine AllReadyH.cons rfl (fun K hK => ?_) AllReadyH.nil; (try simp only [Act.put, List.setIfInBounds_toArray, List.set_cons_zero, List.set_cons_succ, List.getElem_toArray, List.getElem_cons_zero, List.getElem_cons_succ]); go_simp; (go_at_call 40; ((with_reducible refine (hNw _).mono ?_); rintro e w5 ⟨rfl, rfl⟩)); (try go_wp2_with fail); refine hK.out _ _ ?_ (fun hHeld => ?_); focus ((try dsimp only); exact hdim6; done)); (clear hK K); (try simp only [Act.put, List.setIfInBounds_toArray, List.set_cons_zero, List.set_cons_succ, List.getElem_toArray, List.getElem_cons_zero, List.getElem_cons_succ]); (refine wpAnyH_take (i := 14) (v := ?_) rfl (by kernel_rfl) (by kernel_rfl) (by kernel_rfl) (fun _ _ _ h => h) (Or.inl ⟨by rfl, ?_⟩) (by assumption) ?_; rotate_left; focus (intro w hSw; (try dsimp only at hSw); go_simp; (try with_reducible rfl); done)); (try simp only [Act.put, List.setIfInBounds_toArray, List.set_cons_zero, List.set_cons_succ, List.getElem_toArray, List.getElem_cons_zero, List.getElem_cons_succ]); (refine wpAnyH_ready (rs := [15]) (by kernel_rfl) (by simp) ?_; refine AllReadyH.cons rfl (fun K hK => ?_) AllReadyH.nil; (try simp only [Act.put, List.setIfInBounds_toArray, List.set_cons_zero, List.set_cons_succ, List.getElem_toArray, List.getElem_cons_zero, List.getElem_cons_succ]); go_simp; refine hK.out _ _ ?_ (fun hHeld => ?_); focus ((try dsimp only); exact hdim6; done)); (clear hK K); (try simp only [Act.put, List.setIfInBounds_toArray, List.set_cons_zero, List.set_cons_succ, List.getElem_toArray, List.getElem_cons_zero, List.getElem_cons_succ]); (refine wpAnyH_ready (rs := [16]) (by kernel_rfl) (by simp) ?_; refine AllReadyH.cons rfl (fun K hK => ?_) AllReadyH.nil; (try simp only [Act.put, List.setIfInBounds_toArray, List.set_cons_zero, List.set_cons_succ, List.getElem_toArray, List.getElem_cons_zero, List.getElem_cons_succ]); go_simp; refine hK.out _ _ ?_ (fun hHeld => ?_); focus ((try dsimp only); exact hdim6; done)); (clear hK K); (try simp only [Act.put, List.setIfInBounds_toArray, List.set_cons_zero, List.set_cons_succ, List.getElem_toArray, List.getElem_cons_zero, List.getElem_cons_succ]); (refine wpAnyH_take (i := 17) (v := ?_) rfl (by kernel_rfl) (by kernel_rfl) (by kernel_rfl) (fun _ _ _ h => h) (Or.inl ⟨by rfl, ?_⟩) (by assumption) ?_; rotate_left; focus (intro w hSw; (try dsimp only at hSw); go_simp; (try with_reducible rfl); done)); (try simp only [Act.put, List.setIfInBounds_toArray, List.set_cons_zero, List.set_cons_succ, List.getElem_toArray, List.getElem_cons_zero, List.getElem_cons_succ]); (refine wpAnyH_ready (rs := [18]) (by kernel_rfl) (by simp) ?_; refine AllReadyH.cons rfl (fun K hK => ?_) AllReadyH.nil; (try simp only [Act.put, List.setIfInBounds_toArray, List.set_cons_zero, List.set_cons_succ, List.getElem_toArray, List.getElem_cons_zero, List.getElem_cons_succ]); go_simp; refine hK.out _ _ ?_ (fun hHeld => ?_); focus ((try dsimp only); exact hdim6; done)); (clear hK K); (try simp only [Act.put, List.setIfInBounds_toArray, List.set_cons_zero, List.set_cons_succ, List.getElem_toArray, List.getElem_cons_zero, List.getElem_cons_succ]); (refine wpAnyH_done (by kernel_rfl) ?_ _); rotate_left
            ((try simp only [Act.put, List.setIfInBounds_toArray, List.set_cons_zero, List.set_cons_succ, List.getElem_toArray, List.getElem_cons_zero, List.getElem_cons_succ]); go_simp; (go_at_call 40; ((with_reducible refine (hNw _).mono ?_); rintro e w5 ⟨rfl, rfl⟩)); (try go_wp2_with fail); refine hK.out _ _ ?_ (fun hHeld => ?_); focus ((try dsimp only); exact hdim6; done)); (clear hK K); (try simp only [Act.put, List.setIfInBounds_toArray, List.set_cons_zero, List.set_cons_succ, List.getElem_toArray, List.getElem_cons_zero, List.getElem_cons_succ]); (refine wpAnyH_take (i := 14) (v := ?_) rfl (by kernel_rfl) (by kernel_rfl) (by kernel_rfl) (fun _ _ _ h => h) (Or.inl ⟨by rfl, ?_⟩) (by assumption) ?_; rotate_left; focus (intro w hSw; (try dsimp only at hSw); go_simp; (try with_reducible rfl); done)); (try simp only [Act.put, List.setIfInBounds_toArray, List.set_cons_zero, List.set_cons_succ, List.getElem_toArray, List.getElem_cons_zero, List.getElem_cons_succ]); (refine wpAnyH_ready (rs := [1, 15]) (by kernel_rfl) (by simp) ?_; refine AllReadyH.cons rfl (fun K hK => ?_) (AllReadyH.cons rfl (fun K hK => ?_) AllReadyH.nil))
            ((try simp only [Act.put, List.setIfInBounds_toArray, List.set_cons_zero, List.set_cons_succ, List.getElem_toArray, List.getElem_cons_zero, List.getElem_cons_succ]); go_simp; refine hK.out _ _ ?_ (fun hHeld => ?_); focus ((try dsimp only); exact hdim6; done)); (clear hK K); (try simp only [Act.put, List.setIfInBounds_toArray, List.set_cons_zero, List.set_cons_succ, List.getElem_toArray, List.getElem_cons_zero, List.getElem_cons_succ]); (refine wpAnyH_ready (rs := [15]) (by kernel_rfl) (by simp) ?_; refine AllReadyH.cons rfl (fun K hK => ?_) AllReadyH.nil; (try simp only [Act.put, List.setIfInBounds_toArray, List.set_cons_zero, List.set_cons_succ, List.getElem_toArray, List.getElem_cons_zero, List.getElem_cons_succ]); go_simp; refine hK.out _ _ ?_ (fun hHeld => ?_); focus ((try dsimp only); exact hdim6; done)); (clear hK K); (try simp only [Act.put, List.setIfInBounds_toArray, List.set_cons_zero, List.set_cons_succ, List.getElem_toArray, List.getElem_cons_zero, List.getElem_cons_succ]); (refine wpAnyH_ready (rs := [16]) (by kernel_rfl) (by simp) ?_; refine AllReadyH.cons rfl (fun K hK => ?_) AllReadyH.nil; (try simp only [Act.put, List.setIfInBounds_toArray, List.set_cons_zero, List.set_cons_succ, List.getElem_toArray, List.getElem_cons_zero, List.getElem_cons_succ]); go_simp; refine hK.out _ _ ?_ (fun hHeld => ?_); focus ((try dsimp only); exact hdim6; done)); (clear hK K); (try simp only [Act.put, List.setIfInBounds_toArray, List.set_cons_zero, List.set_cons_succ, List.getElem_toArray, List.getElem_cons_zero, List.getElem_cons_succ]); (refine wpAnyH_take (i := 17) (v := ?_) rfl (by kernel_rfl) (by kernel_rfl) (by kernel_rfl) (fun _ _ _ h => h) (Or.inl ⟨by rfl, ?_⟩) (by assumption) ?_; rotate_left; focus (intro w hSw; (try dsimp only at hSw); go_simp; (try with_reducible rfl); done)); (try simp only [Act.put, List.setIfInBounds_toArray, List.set_cons_zero, List.set_cons_succ, List.getElem_toArray, List.getElem_cons_zero, List.getElem_cons_succ]); (refine wpAnyH_ready (rs := [18]) (by kernel_rfl) (by simp) ?_; refine AllReadyH.cons rfl (fun K hK => ?_) AllReadyH.nil; (try simp only [Act.put, List.setIfInBounds_toArray, List.set_cons_zero, List.set_cons_succ, List.getElem_toArray, List.getElem_cons_zero, List.getElem_cons_succ]); go_simp; refine hK.out _ _ ?_ (fun hHeld => ?_); focus ((try dsimp only); exact hdim6; done)); (clear hK K); (try simp only [Act.put, List.setIfInBounds_toArray, List.set_cons_zero, List.set_cons_succ, List.getElem_toArray, List.getElem_cons_zero, List.getElem_cons_succ]); (refine wpAnyH_done (by kernel_rfl) ?_ _); rotate_left
            ((try simp only [Act.put, List.setIfInBounds_toArray, List.set_cons_zero, List.set_cons_succ, List.getElem_toArray, List.getElem_cons_zero, List.getElem_cons_succ]); go_simp; refine hK.out _ _ ?_ (fun hHeld => ?_); focus ((try dsimp only); exact hdim6; done)); (clear hK K); (try simp only [Act.put, List.setIfInBounds_toArray, List.set_cons_zero, List.set_cons_succ, List.getElem_toArray, List.getElem_cons_zero, List.getElem_cons_succ]); (refine wpAnyH_ready (rs := [1]) (by kernel_rfl) (by simp) ?_; refine AllReadyH.cons rfl (fun K hK => ?_) AllReadyH.nil; (try simp only [Act.put, List.setIfInBounds_toArray, List.set_cons_zero, List.set_cons_succ, List.getElem_toArray, List.getElem_cons_zero, List.getElem_cons_succ]); go_simp; refine hK.out _ _ ?_ (fun hHeld => ?_); focus ((try dsimp only); exact hdim6; done)); (clear hK K); (try simp only [Act.put, List.setIfInBounds_toArray, List.set_cons_zero, List.set_cons_succ, List.getElem_toArray, List.getElem_cons_zero, List.getElem_cons_succ]); (refine wpAnyH_ready (rs := [16]) (by kernel_rfl) (by simp) ?_; refine AllReadyH.cons rfl (fun K hK => ?_) AllReadyH.nil; (try simp only [Act.put, List.setIfInBounds_toArray, List.set_cons_zero, List.set_cons_succ, List.getElem_toArray, List.getElem_cons_zero, List.getElem_cons_succ]); go_simp; refine hK.out _ _ ?_ (fun hHeld => ?_); focus ((try dsimp only); exact hdim6; done)); (clear hK K); (try simp only [Act.put, List.setIfInBounds_toArray, List.set_cons_zero, List.set_cons_succ, List.getElem_toArray, List.getElem_cons_zero, List.getElem_cons_succ]); (refine wpAnyH_take (i := 17) (v := ?_) rfl (by kernel_rfl) (by kernel_rfl) (by kernel_rfl) (fun _ _ _ h => h) (Or.inl ⟨by rfl, ?_⟩) (by assumption) ?_; rotate_left; focus (intro w hSw; (try dsimp only at hSw); go_simp; (try with_reducible rfl); done)); (try simp only [Act.put, List.setIfInBounds_toArray, List.set_cons_zero, List.set_cons_succ, List.getElem_toArray, List.getElem_cons_zero, List.getElem_cons_succ]); (refine wpAnyH_ready (rs := [18]) (by kernel_rfl) (by simp) ?_; refine AllReadyH.cons rfl (fun K hK => ?_) AllReadyH.nil; (try simp only [Act.put, List.setIfInBounds_toArray, List.set_cons_zero, List.set_cons_succ, List.getElem_toArray, List.getElem_cons_zero, List.getElem_cons_succ]); go_simp; refine hK.out _ _ ?_ (fun hHeld => ?_); focus ((try dsimp only); exact hdim6; done)); (clear hK K); (try simp only [Act.put, List.setIfInBounds_toArray, List.set_cons_zero, List.set_cons_succ, List.getElem_toArray, List.getElem_cons_zero, List.getElem_cons_succ]); (refine wpAnyH_done (by kernel_rfl) ?_ _); rotate_left
            all_goals (try go_wp2)
            all_goals (refine ⟨⟨k + 1, A1, c1, by go_num, hkt, Lib.hid ⟨Ob.set Ho1.out 0 _, ?_, ?_, ?_⟩⟩, by simp [intOf]; omega⟩)
            all_goals first
              | (rw [Htk.out]; exact own_other H1.out (fun b hb => by have := (H1.out.lt b hb).1; simp; omega) _)
              | exact HF1.out.setCell (.inr (Nat.le_refl _)) _
              | exact HS1.out
          · obtain rfl : dim = k := by omega
            have hat : z + 4 * dim < s.size := by omega
            have hbat := bys_at s (z + 4 * dim) hat
            have hN := s[z + 4 * dim].toNat_lt
            have Hnext := Lib.hid (show posB s dim (j + 1) = z + 4 * dim + 1 + s[z + 4 * dim].toNat by rw [posB, ← Hz1.out, hbat])
            by_cases hend : z + 4 * dim + 1 + s[z + 4 * dim].toNat ≤ s.size
            · have hsub := sub_extract s (z + 4 * dim + 1) s[z + 4 * dim].toNat
              have Hrec := Lib.hid (show recAt s dim j = (keyAt s dim j, sub s (z + 4 * dim + 1) s[z + 4 * dim].toNat) by
                have e : keyAt s dim j = (List.range dim).map (fun k => gk s (z + 4 * k) 4) := by rw [Hz1.out]; rfl
                rw [recAt, ← Hz1.out, hbat, gt, if_pos hend, e])
              have hts : (sub s (z + 4 * dim + 1) s[z + 4 * dim].toNat).size ≤ maxLen := by
                rw [sub, txt_size]
                refine Nat.le_trans ?_ (show 256 ≤ maxLen by decide)
                simp; omega
              clear hbat
              generalize sub s (z + 4 * dim + 1) s[z + 4 * dim].toNat = tx at *
              have hF8 : Fr No wq (wr.setCell ⟨wq.heap.size, 1, none⟩ (.string tx)) := Hk.out.2.2.1.setCell (.inr (Nat.le_refl _)) _
              have hown8 : (wr.setCell ⟨wq.heap.size, 1, none⟩ (.string tx)).ownsRow (wq.heap.size + 1) 51 1 (.slice KA dim kc) dim (u32s (keyAt s dim j)) := by
                have h := own_other (p := ⟨wq.heap.size, 1, none⟩) Hk.out.2.1 (fun b hb => by have := (Hk.out.2.1.lt b hb).1; simp; omega) (.string tx)
                rwa [List.take_of_length_le (by rw [HK.out]; exact Nat.le_refl _)] at h
              obtain ⟨A1, c1, w9, hrun, hO9, hgr, hfr, _⟩ := push_old (Hj.out.2.1.no hF8) (by have := Hj.out.2.2.size; have := hF8.size; omega) (pk_fresh (Q := fun _ => True) (v := .bool true) (A0 := P) hown8 HK.out.symm (recAt_wr s dim j).1 hts (fun g o e => by have := Ow.at_lt Hj.out.2.1 g o e; omega) (fun _ _ => trivial)) (by omega)
              rw [HK.out, show (wr.setCell ⟨wq.heap.size, 1, none⟩ (.string tx)).heap.size = wr.heap.size by simp] at hrun
              have H9 := Lib.hid hO9
              have HF9 := Lib.hid (hfr w (Nat.le_refl _) (Hj.out.2.2.tr hF8))
              have hfz := Hk.out.1.frozen 1
              clear hO9 hgr hfr hown8 hF8
              go_wp2
              refine ⟨⟨j + 1, z + 4 * dim + 1 + s[z + 4 * dim].toNat, A1, c1, by go_num, by go_num, rfl, by omega, hend, Lib.hid ⟨Hnext.out.symm, ?_, HF9.out⟩⟩, by simp [intOf]; omega⟩
              rw [recsAt_succ, Hrec.out]; exact H9.out
            · have hcut : cutB s dim = true := by
                rw [cutB, Hcd.out, decide_eq_true_eq]
                have h1 := posB_mono s dim (j + 1) s[0].toNat hjc
                rw [Hnext.out] at h1
                omega
              obtain ⟨e1, e2⟩ := dec_cut (s := s) (dim := dim) hd h1 hcut
              clear hbat
              go_wp2
              go_ret2
              rw [e1, e2]
              exact ⟨none, 0, 0, rfl, Rv.none_ _, Hj.out.2.2.tr Hk.out.2.2.1⟩
    · have hjn : j = s[0].toNat := by omega
      have hcut : cutB s dim = false := by rw [cutB, Hcd.out, ← hjn, decide_eq_false_iff_not, ← Hj.out.1]; omega
      have hL : recsAt s dim j = decL s dim := by rw [decL, Hcd.out, ← hjn]
      have hrv := Hj.out.2.1.rv
      rw [hL] at hrv
      have Hrv := Lib.hid hrv
      have Htn := Lib.hid (show Tiny (decL s dim) by rw [← hL]; exact recsAt_tiny s dim j hdim6 (by omega))
      clear hrv hL hjn
      cases hok : encOk (decL s dim) dim cap with
      | false =>
        obtain ⟨e1, e2⟩ := dec_form (s := s) (dim := dim) hd h1 hcut (by simp [formB, hok])
        go_wp2_with (go_at_call 12; ((with_reducible refine (rencode_any (rs := decL s dim) _ _ ?_ Htn.out).mono ?_); (focus ((have h := Hrv.out); (repeat (first | with_reducible assumption | with_reducible exact Rv.none_ _ | with_reducible refine Rv.alloc ?_ _ | with_reducible refine Rv.drew ?_ | with_reducible refine Rv.drewN ?_ _ | with_reducible refine Rv.no ?_ (by assumption))))); rintro e w8 ⟨rfl, hf8⟩; rw [encE_no hok]))
        go_ret2
        rw [e1, e2]
        exact ⟨none, 0, 0, rfl, Rv.none_ _, Hj.out.2.2.tr hf8⟩
      | true =>
        by_cases heq : txt (encB (decL s dim)) = s
        · obtain ⟨e1, e2⟩ := dec_yes (s := s) (dim := dim) hd h1 hcut (by simp [formB, hok, encT, heq])
          go_wp2_with (go_at_call 12; ((with_reducible refine (rencode_any (rs := decL s dim) _ _ ?_ Htn.out).mono ?_); (focus ((have h := Hrv.out); (repeat (first | with_reducible assumption | with_reducible exact Rv.none_ _ | with_reducible refine Rv.alloc ?_ _ | with_reducible refine Rv.drew ?_ | with_reducible refine Rv.drewN ?_ _ | with_reducible refine Rv.no ?_ (by assumption))))); rintro e w8 ⟨rfl, hf8⟩; rw [encE_yes hok, encT_yes hok, heq]))
          go_ret2
          rw [e1, e2]
          exact ⟨P, j, cP, rfl, Hrv.out.no hf8, Hj.out.2.2.tr hf8⟩
        · have hstr2 := str_no heq
          obtain ⟨e1, e2⟩ := dec_form (s := s) (dim := dim) hd h1 hcut (by simp [formB, hok, encT, heq])
          go_wp2_with (go_at_call 12; ((with_reducible refine (rencode_any (rs := decL s dim) _ _ ?_ Htn.out).mono ?_); (focus ((have h := Hrv.out); (repeat (first | with_reducible assumption | with_reducible exact Rv.none_ _ | with_reducible refine Rv.alloc ?_ _ | with_reducible refine Rv.drew ?_ | with_reducible refine Rv.drewN ?_ _ | with_reducible refine Rv.no ?_ (by assumption))))); rintro e w8 ⟨rfl, hf8⟩; rw [encE_yes hok, encT_yes hok]))
          go_ret2
          rw [e1, e2]
          exact ⟨none, 0, 0, rfl, Rv.none_ _, Hj.out.2.2.tr hf8⟩
end
end Go.Proofs.Ytehhmpoijonghaa.Bh10
