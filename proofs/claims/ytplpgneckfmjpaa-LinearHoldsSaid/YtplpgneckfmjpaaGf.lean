/- Several parts in one text: each begins with its own sentence. -/
import Derived.Test.YtplpgneckfmjpaaGa
import Derived.Test.YtplpgneckfmjpaaGb
import Derived.Test.YtplpgneckfmjpaaGc
import Derived.Test.YtplpgneckfmjpaaGe
import Derived.Deep.RegionHeld3
import Derived.Deep.DeepCutAuto
import Derived.Laws.EntriesVeiled
/- Layer 16: the addresses of the cells that a box meets: the closure that goes down (the program's). -/
namespace Go.Proofs.Ytplpgneckfmjpaa.Hi16
open Go.RowKit Go.Proofs.Ytplpgneckfmjpaa.Pk08 Go.Proofs.Ytplpgneckfmjpaa.Base Go.Proofs.Ytplpgneckfmjpaa.App Go.Proofs.Ytplpgneckfmjpaa.Ky Go.Proofs.Ytplpgneckfmjpaa.Iv Go.Proofs.Ytplpgneckfmjpaa.Bx Go.Proofs.Ytplpgneckfmjpaa.Kk Go.Proofs.Ytplpgneckfmjpaa.Bo Go.Proofs.Ytplpgneckfmjpaa.As Go.Proofs.Ytplpgneckfmjpaa.Cl Go.Proofs.Ytplpgneckfmjpaa.Pl08 Go.Proofs.Ytplpgneckfmjpaa.Kc08 Go.Proofs.Ytplpgneckfmjpaa.Kf08 Go.Proofs.Ytplpgneckfmjpaa.Kj08 Go.Proofs.Ytplpgneckfmjpaa.Km08 Go.Proofs.Ytplpgneckfmjpaa.Ka08 Go.Proofs.Ytplpgneckfmjpaa.Px16 Go.Proofs.Ytplpgneckfmjpaa.Py16 Go.Proofs.Ytplpgneckfmjpaa.Ha16 Go.Proofs.Ytplpgneckfmjpaa.Hd16 Go.Proofs.Ytplpgneckfmjpaa.He16 Go.Proofs.Ytplpgneckfmjpaa.Hg16
set_option linter.unusedVariables false
set_option linter.unusedSimpArgs false
attribute [local go_sem ↓ high] builtin_app
theorem info_int : (Try.prog.info? 3).map (fun i => (i.zero, i.size, i.bytes)) = some (some (.int .i64 0), 1, 8) := by kernel_rfl
def ptr (g : Nat) : Value := .pointer (some ⟨g, 0, none⟩)
/-- What the closure has caught, but for the list. -/
structure Env (w : World) (B0 gb gm gl gd gf m d : Nat) (C D : Option Addr) (cc cd : Nat) (bl bh : List Nat) : Prop where
  eb : Ob w gb #[.slice C d cc, .slice D d cd] 32
  em : Ob w gm #[.int .i64 (m : Int)] 3
  ed : Ob w gd #[.int .i64 (d : Int)] 3
  ef : Ob w gf #[.func (.func 49) #[] #[.pointer (some ⟨gb, 0, none⟩), .pointer (some ⟨gm, 0, none⟩), .pointer (some ⟨gl, 0, none⟩), .pointer (some ⟨gd, 0, none⟩), .pointer (some ⟨gf, 0, none⟩)]] 66
  kl : Kv w C d cc bl
  kh : Kv w D d cd bh
  lt : gb < B0 ∧ gm < B0 ∧ gl < B0 ∧ gd < B0 ∧ gf < B0
  ne : gb ≠ gl ∧ gm ≠ gl ∧ gd ≠ gl ∧ gf ≠ gl
  kc : ∀ b off, C = some ⟨b, off, none⟩ → b < B0 ∧ b ≠ gl
  ke : ∀ b off, D = some ⟨b, off, none⟩ → b < B0 ∧ b ≠ gl
/-- The list that is filled. -/
structure Lst (w : World) (B0 gl : Nat) (A : Option Addr) (n c : Nat) (xs : List Int) : Prop where
  ob : Ob w gl #[.slice A n c] 37
  row : w.ownsRow B0 3 1 (.slice A n c) n (i64s xs)
/-- The blocks that a call may write. -/
def Sl (gl : Nat) (A : Option Addr) (n c : Nat) : Nat → Prop := fun k => k = gl ∨ (Value.slice A n c).ownBlock = some k
section
variable {w w1 w2 : World} {B0 gb gm gl gd gf m d : Nat} {C D A A1 : Option Addr} {cc cd n c n1 c1 : Nat} {bl bh : List Nat} {xs ys : List Int}
theorem Env.fr {S : Nat → Prop} (h : Env w B0 gb gm gl gd gf m d C D cc cd bl bh) (f : Fr S w w1) (hS : ∀ k, S k → k = gl ∨ B0 ≤ k) : Env w1 B0 gb gm gl gd gf m d C D cc cd bl bh := by
  obtain ⟨l1, l2, l3, l4, l5⟩ := h.lt
  obtain ⟨n1, n2, n3, n4⟩ := h.ne
  exact ⟨h.eb.fr f (fun x => by have := hS _ x; omega), h.em.fr f (fun x => by have := hS _ x; omega), h.ed.fr f (fun x => by have := hS _ x; omega), h.ef.fr f (fun x => by have := hS _ x; omega),
    h.kl.fr f (fun b off e x => by have := hS _ x; have := h.kc b off e; omega), h.kh.fr f (fun b off e x => by have := hS _ x; have := h.ke b off e; omega), h.lt, h.ne, h.kc, h.ke⟩
theorem Env.no (h : Env w B0 gb gm gl gd gf m d C D cc cd bl bh) (f : Fr No w w1) : Env w1 B0 gb gm gl gd gf m d C D cc cd bl bh := h.fr f (fun _ x => x.elim)
theorem Lst.no (h : Lst w B0 gl A n c xs) (f : Fr No w w1) : Lst w1 B0 gl A n c xs := ⟨h.ob.no f, own_no h.row f⟩
theorem Lst.sl (h : Lst w B0 gl A n c xs) : ∀ k, Sl gl A n c k → k = gl ∨ B0 ≤ k := fun k hk => hk.imp id (fun x => (h.row.lt k x).1)
theorem Lst.sl_lt (h : Lst w B0 gl A n c xs) : ∀ k, Sl gl A n c k → k < w.heap.size := fun k hk => hk.elim (fun x => x ▸ h.ob.lt) (fun x => (h.row.lt k x).2)
/-- What a call leaves: the list longer, all else as it was. -/
def Grew (w : World) (B0 gl : Nat) (A : Option Addr) (n c : Nat) (zs : List Int) (e : Ending) (w' : World) : Prop :=
  e = .returned (.tuple #[]) ∧ ∃ A1 n1 c1, Lst w' B0 gl A1 n1 c1 zs ∧ (∀ k, Sl gl A1 n1 c1 k → Sl gl A n c k ∨ w.heap.size ≤ k) ∧ Fr (Sl gl A n c) w w'
theorem i64_or_one (a : Nat) (ha : a < 4611686018427387904) : bits .or .i64 ((a : Int) * 2) 1 = ((2 * a + 1 : Nat) : Int) := by
  have e : ((a : Int) * 2) = ((2 * a : Nat) : Int) := by omega
  rw [e]
  show bits .or .i64 ((2 * a : Nat) : Int) ((1 : Nat) : Int) = _
  rw [i64_or_nat _ _ (by omega) (by omega), nat_join 1 (2 * a) 1 (by omega) (by omega)]
set_option maxHeartbeats 1600000 in
/-- Where a cell does not meet the box. -/
theorem down_no (al ah : List Nat) {P Q : Option Addr} {cP cQ : Nat} (a i : Int) (hE : Env w B0 gb gm gl gd gf m d C D cc cd bl bh) (hL : Lst w B0 gl A n c xs) (hd : d ≤ 6) (hp : Kv w P d cP al) (hq : Kv w Q d cQ ah) (hm : meetIs al ah bl bh = false) :
    Calls Try.prog 49 #[.agg #[.slice P d cP, .slice Q d cQ], .int .i64 a, .int .i64 i, .pointer (some ⟨gb, 0, none⟩), .pointer (some ⟨gm, 0, none⟩), .pointer (some ⟨gl, 0, none⟩), .pointer (some ⟨gd, 0, none⟩), .pointer (some ⟨gf, 0, none⟩)] w
      (Grew w B0 gl A n c xs) := by
  have Hm := Lib.hid hm
  have hbc := hE.eb
  obtain ⟨b0, b1⟩ := cells2 hbc
  have lb := hbc.lt
  have k1 := hE.kl
  have k2 := hE.kh
  clear hm
  go_enter Try.func49, Try.ntmps49
  go_wp2_with (go_at_call 35; ((with_reducible refine (meet_any (al := al) (ah := ah) (bl := bl) (bh := bh) ?_ ?_ ?_ ?_ (by omega)).mono ?_); (iterate 4 (repeat (first | with_reducible assumption | ((with_reducible refine Kv.lit_new _ _ _ _ _ _ ?_ ?_ ?_ ?_) <;> (first | (simp; done) | rfl | decide)) | with_reducible exact Kv.none_ _ | with_reducible refine Kv.alloc ?_ _ | with_reducible refine Kv.drew ?_ | with_reducible refine Kv.drewN ?_ _ | with_reducible refine Kv.no ?_ (by assumption)))); rintro e w2 ⟨A2, n2, c2, B2, m2, d2, rfl, hl2, hh2, hf2⟩; rw [Hm.out]))
  refine bodyPost_ret (v := .tuple #[]) (by simp [results, Try.results49, go_sem]) rfl ?_
  have F : Fr No w (w2.alloc (.cells #[.slice A2 n2 c2, .slice B2 m2 d2] 32)) := by (repeat (first | with_reducible exact Fr.refl _ _ | with_reducible refine Fr.setCell ?_ (.inr (by first | (simp; done) | (simp; omega))) _ | with_reducible refine Fr.alloc ?_ _ | with_reducible refine Fr.drew ?_ | with_reducible refine Fr.drewN ?_ _ | with_reducible refine Fr.tr ?_ (by assumption)))
  exact ⟨rfl, A, n, c, hL.no F, fun k hk => .inl hk, F.of_no⟩
theorem Lst.put {W W1 : World} (h : Lst w B0 gl A n c xs) (hB : B0 ≤ w.heap.size) (hg : gl < B0) (f : Fr No w W) {x : Int} (hown : W1.ownsRow B0 3 1 (.slice A1 (n + 1) c1) (n + 1) (i64s xs ++ [.int .i64 x])) (hgr : W.grownBy W1 (Value.slice A n c).ownBlock)
    (hat : (Value.slice A1 (n + 1) c1).ownBlock = (Value.slice A n c).ownBlock ∨ (Value.slice A1 (n + 1) c1).ownBlock = some W.heap.size) :
    Ob W1 gl #[.slice A n c] 37 ∧ Lst (W1.setCell ⟨gl, 0, none⟩ (.slice A1 (n + 1) c1)) B0 gl A1 (n + 1) c1 (xs ++ [x]) ∧ (∀ k, Sl gl A1 (n + 1) c1 k → Sl gl A n c k ∨ w.heap.size ≤ k) ∧ Fr (Sl gl A n c) w (W1.setCell ⟨gl, 0, none⟩ (.slice A1 (n + 1) c1)) := by
  have F : Fr (fun k => (Value.slice A n c).ownBlock = some k) W W1 := ⟨hgr.os, hgr.tape, hgr.output, hgr.size, fun k hk hn => hgr.block k hk (fun e => hn e.symm)⟩
  have hO : Ob W1 gl #[.slice A n c] 37 := (h.ob.no f).fr F (fun e => by have := (h.row.lt gl e).1; omega)
  have hs := f.size
  refine ⟨hO, ⟨hO.set 0 (.slice A1 (n + 1) c1), ?_⟩, ?_, ?_⟩
  · have e1 : i64s xs ++ [Value.int .i64 x] = i64s (xs ++ [x]) := by simp [i64s]
    rw [e1] at hown
    exact own_other hown (p := ⟨gl, 0, none⟩) (fun k hk => by have := (hown.lt k hk).1; show k ≠ gl; omega) _
  · intro k hk
    rcases hk with hk | hk
    · exact .inl (.inl hk)
    · rcases hat with ht | ht
      · rw [ht] at hk; exact .inl (.inr hk)
      · rw [ht] at hk
        injection hk with hk
        exact .inr (by omega)
  · refine ((f.of_no (S := Sl gl A n c)).trans F (fun k hk => .inl (.inr hk))).setCell (p := ⟨gl, 0, none⟩) (.inl (.inl rfl)) _
set_option maxHeartbeats 1600000 in
/-- A cell of the depth that meets the box. -/
theorem down_leaf (al ah : List Nat) {P Q : Option Addr} {cP cQ : Nat} (a : Nat) (hB : B0 ≤ w.heap.size) (hn : n ≤ 10000) (hE : Env w B0 gb gm gl gd gf m d C D cc cd bl bh) (hL : Lst w B0 gl A n c xs) (hd : d ≤ 6) (hp : Kv w P d cP al) (hq : Kv w Q d cQ ah) (hm : meetIs al ah bl bh = true) :
    Calls Try.prog 49 #[.agg #[.slice P d cP, .slice Q d cQ], .int .i64 (a : Int), .int .i64 (m : Int), .pointer (some ⟨gb, 0, none⟩), .pointer (some ⟨gm, 0, none⟩), .pointer (some ⟨gl, 0, none⟩), .pointer (some ⟨gd, 0, none⟩), .pointer (some ⟨gf, 0, none⟩)] w
      (Grew w B0 gl A n c (xs ++ [(a : Int)])) := by
  have Hm := Lib.hid hm
  obtain ⟨b0, b1⟩ := cells2 hE.eb
  have lb := hE.eb.lt
  have lm := hE.em.lt
  have ll := hL.ob.lt
  have k1 := hE.kl
  have k2 := hE.kh
  have HL := Lib.hid hL
  have HE := Lib.hid hE
  have hgl := hE.lt.2.2.1
  clear hm hE hL
  go_enter Try.func49, Try.ntmps49
  go_wp2_with (go_at_call 35; ((with_reducible refine (meet_any (al := al) (ah := ah) (bl := bl) (bh := bh) ?_ ?_ ?_ ?_ (by omega)).mono ?_); (iterate 4 (repeat (first | with_reducible assumption | ((with_reducible refine Kv.lit_new _ _ _ _ _ _ ?_ ?_ ?_ ?_) <;> (first | (simp; done) | rfl | decide)) | with_reducible exact Kv.none_ _ | with_reducible refine Kv.alloc ?_ _ | with_reducible refine Kv.drew ?_ | with_reducible refine Kv.drewN ?_ _ | with_reducible refine Kv.no ?_ (by assumption)))); rintro e w2 ⟨A2, n2, c2, B2, m2, d2, rfl, hl2, hh2, hf2⟩; rw [Hm.out]; have F : Fr No w ((w2.alloc (.cells #[.slice A2 n2 c2, .slice B2 m2 d2] 32)).alloc (.cells #[.int .i64 (a : Int)] 3)) := (by (repeat (first | with_reducible exact Fr.refl _ _ | with_reducible refine Fr.setCell ?_ (.inr (by first | (simp; done) | (simp; omega))) _ | with_reducible refine Fr.alloc ?_ _ | with_reducible refine Fr.drew ?_ | with_reducible refine Fr.drewN ?_ _ | with_reducible refine Fr.tr ?_ (by assumption)))); have g0 : w2.cell? ⟨gm, 0, none⟩ = some (.int .i64 (m : Int)) := ((HE.out.no (show Fr No w w2 by (repeat (first | with_reducible exact Fr.refl _ _ | with_reducible refine Fr.setCell ?_ (.inr (by first | (simp; done) | (simp; omega))) _ | with_reducible refine Fr.alloc ?_ _ | with_reducible refine Fr.drew ?_ | with_reducible refine Fr.drewN ?_ _ | with_reducible refine Fr.tr ?_ (by assumption))))).em.cell 0 rfl); have g1 : w2.cell? ⟨gl, 0, none⟩ = some (.slice A n c) := ((HL.out.no (show Fr No w w2 by (repeat (first | with_reducible exact Fr.refl _ _ | with_reducible refine Fr.setCell ?_ (.inr (by first | (simp; done) | (simp; omega))) _ | with_reducible refine Fr.alloc ?_ _ | with_reducible refine Fr.drew ?_ | with_reducible refine Fr.drewN ?_ _ | with_reducible refine Fr.tr ?_ (by assumption))))).ob.cell 0 rfl); have g2 : gm < w2.heap.size := ((HE.out.no (show Fr No w w2 by (repeat (first | with_reducible exact Fr.refl _ _ | with_reducible refine Fr.setCell ?_ (.inr (by first | (simp; done) | (simp; omega))) _ | with_reducible refine Fr.alloc ?_ _ | with_reducible refine Fr.drew ?_ | with_reducible refine Fr.drewN ?_ _ | with_reducible refine Fr.tr ?_ (by assumption))))).em.lt); have g3 : gl < w2.heap.size := ((HL.out.no (show Fr No w w2 by (repeat (first | with_reducible exact Fr.refl _ _ | with_reducible refine Fr.setCell ?_ (.inr (by first | (simp; done) | (simp; omega))) _ | with_reducible refine Fr.alloc ?_ _ | with_reducible refine Fr.drew ?_ | with_reducible refine Fr.drewN ?_ _ | with_reducible refine Fr.tr ?_ (by assumption))))).ob.lt); obtain ⟨A3, c3, w3, hrun, hown, hgr, hat⟩ := app_eq (P := Try.prog) (w := (w2.alloc (.cells #[.slice A2 n2 c2, .slice B2 m2 d2] 32)).alloc (.cells #[.int .i64 (a : Int)] 3)) B0 37 3 (.int .i64 0) 1 8 Try.underlying37 info_int rfl (by decide) (by decide) (HL.out.no F).row (some ⟨w2.heap.size + 1, 0, none⟩) 1 1 [.int .i64 (a : Int)] rfl (Rc.new_ (w2.alloc (.cells #[.slice A2 n2 c2, .slice B2 m2 d2] 32)) #[.int .i64 (a : Int)] 3 (w2.heap.size + 1) (Array.size_push _)) (by simp [Value.oneCell']) (by omega) (by have := F.size; omega); obtain ⟨hO, hL1, hs1, hF1⟩ := Lst.put HL.out hB hgl F hown hgr hat; have g4 := hO.cell 0 (v := .slice A n c) rfl; have g5 := hO.frozen 0; have HL1 := Lib.hid hL1; have HS1 := Lib.hid hs1; have HF1 := Lib.hid hF1; clear hO hL1 hs1 hF1 hown hgr hat F))
  refine bodyPost_ret (v := .tuple #[]) (by simp [results, Try.results49, go_sem]) rfl ?_
  exact ⟨rfl, A3, _, c3, HL1.out, HS1.out, HF1.out⟩
/-- Behind the halving: both halves stand, new. -/
def Mc (w : World) (g1 g2 d : Nat) (a1 b1 a2 b2 : Nat) (c1 d1 c2 d2 : Nat) (l1 h1 l2 h2 : List Nat) (wx : World) : Prop :=
  Ob wx g1 #[.slice (some ⟨a1, 0, none⟩) d c1, .slice (some ⟨b1, 0, none⟩) d d1] 32 ∧ Ob wx g2 #[.slice (some ⟨a2, 0, none⟩) d c2, .slice (some ⟨b2, 0, none⟩) d d2] 32 ∧
  Kv wx (some ⟨a1, 0, none⟩) d c1 l1 ∧ Kv wx (some ⟨b1, 0, none⟩) d d1 h1 ∧ Kv wx (some ⟨a2, 0, none⟩) d c2 l2 ∧ Kv wx (some ⟨b2, 0, none⟩) d d2 h2 ∧
  (w.heap.size ≤ g1 ∧ w.heap.size ≤ g2 ∧ w.heap.size ≤ a2 ∧ w.heap.size ≤ b2) ∧ Fr No w wx
theorem eyes3 {w : World} {g k : Nat} {x y v : Value} {t u : TypeId} (h1 : Ob w g #[x, y] t) (h2 : Ob w k #[v] u) : w.cell? ⟨g, 0, none⟩ = some x ∧ w.cell? ⟨g, 1, none⟩ = some y ∧ w.cell? ⟨k, 0, none⟩ = some v := ⟨h1.cell 0 rfl, h1.cell 1 rfl, h2.cell 0 rfl⟩
theorem rg_len (d m : Nat) (lo hi : List Nat) : ∀ k a, (rg d m lo hi k a).length ≤ 2 ^ k
  | 0, a => by
    simp only [rg]
    split <;> simp
  | k + 1, a => by
    simp only [rg]
    split
    · have h1 := rg_len d m lo hi k (2 * a)
      have h2 := rg_len d m lo hi k (2 * a + 1)
      rw [List.length_append, Nat.pow_succ]
      omega
    · simp
def ints (l : List Nat) : List Int := l.map (fun (x : Nat) => (x : Int))
/-- What the closure does to cells of k bits less than the depth. -/
def DownK (B0 gb gm gl gd gf m d : Nat) (C D : Option Addr) (cc cd : Nat) (bl bh : List Nat) (k : Nat) : Prop :=
  ∀ (w : World) (A : Option Addr) (n c : Nat) (xs : List Int) (P Q : Option Addr) (cP cQ a i : Nat) (za zi : Int), za = (a : Int) → zi = (i : Int) → i + k = m → a < 2 ^ i → B0 ≤ w.heap.size → n + 2 ^ k ≤ 10000 →
    Env w B0 gb gm gl gd gf m d C D cc cd bl bh → Lst w B0 gl A n c xs → Kv w P d cP (bx d i a).1 → Kv w Q d cQ (bx d i a).2 →
    Calls Try.prog 49 #[.agg #[.slice P d cP, .slice Q d cQ], .int .i64 za, .int .i64 zi, .pointer (some ⟨gb, 0, none⟩), .pointer (some ⟨gm, 0, none⟩), .pointer (some ⟨gl, 0, none⟩), .pointer (some ⟨gd, 0, none⟩), .pointer (some ⟨gf, 0, none⟩)] w
      (Grew w B0 gl A n c (xs ++ ints (rg d m bl bh k a)))
theorem DownK.call {k : Nat} (h : DownK B0 gb gm gl gd gf m d C D cc cd bl bh k) {w : World} {A : Option Addr} {n c : Nat} {xs : List Int} {P Q : Option Addr} {cP cQ a i : Nat} {za zi : Int} (e1 : za = (a : Int)) (e2 : zi = (i : Int)) (e3 : i + k = m) (e4 : a < 2 ^ i) (hB : B0 ≤ w.heap.size) (hn : n + 2 ^ k ≤ 10000)
    (hE : Env w B0 gb gm gl gd gf m d C D cc cd bl bh) (hL : Lst w B0 gl A n c xs) (hp : Kv w P d cP (bx d i a).1) (hq : Kv w Q d cQ (bx d i a).2) :
    Calls Try.prog 49 #[.agg #[.slice P d cP, .slice Q d cQ], .int .i64 za, .int .i64 zi, .pointer (some ⟨gb, 0, none⟩), .pointer (some ⟨gm, 0, none⟩), .pointer (some ⟨gl, 0, none⟩), .pointer (some ⟨gd, 0, none⟩), .pointer (some ⟨gf, 0, none⟩)] w
      (Grew w B0 gl A n c (xs ++ ints (rg d m bl bh k a))) := h w A n c xs P Q cP cQ a i za zi e1 e2 e3 e4 hB hn hE hL hp hq
theorem down_zero (hd : d ≤ 6) : DownK B0 gb gm gl gd gf m d C D cc cd bl bh 0 := by
  intro w A n c xs P Q cP cQ a i za zi ha hi him hlt hB hn hE hL hp hq
  obtain rfl : i = m := by omega
  subst ha
  subst hi
  cases hm : mt d i a bl bh with
  | true =>
    have e : rg d i bl bh 0 a = [a] := by simp only [rg]; rw [if_pos hm]
    rw [e]
    exact down_leaf _ _ a hB (by simp at hn; omega) hE hL hd hp hq hm
  | false =>
    have e : rg d i bl bh 0 a = [] := by simp only [rg]; rw [if_neg (by rw [hm]; decide)]
    rw [e]
    have h := down_no _ _ (a : Int) (i : Int) hE hL hd hp hq hm
    simpa [ints] using h
set_option maxHeartbeats 3200000 in
theorem down_in (h1 : 1 ≤ d) (h6 : d ≤ 6) (hm : m ≤ 12) (k : Nat) (IH : Hid (DownK B0 gb gm gl gd gf m d C D cc cd bl bh k)) (P Q : Option Addr) (cP cQ a i : Nat) (hik : i + (k + 1) = m) (ha : a < 2 ^ i) (hB : B0 ≤ w.heap.size) (hn : n + 2 ^ (k + 1) ≤ 10000)
    (hE : Env w B0 gb gm gl gd gf m d C D cc cd bl bh) (hL : Lst w B0 gl A n c xs) (hp : Kv w P d cP (bx d i a).1) (hq : Kv w Q d cQ (bx d i a).2) (hmt : mt d i a bl bh = true) :
    Calls Try.prog 49 #[.agg #[.slice P d cP, .slice Q d cQ], .int .i64 (a : Int), .int .i64 (i : Int), .pointer (some ⟨gb, 0, none⟩), .pointer (some ⟨gm, 0, none⟩), .pointer (some ⟨gl, 0, none⟩), .pointer (some ⟨gd, 0, none⟩), .pointer (some ⟨gf, 0, none⟩)] w
      (Grew w B0 gl A n c (xs ++ ints (rg d m bl bh k (2 * a)) ++ ints (rg d m bl bh k (2 * a + 1)))) := by
  have Hm := Lib.hid (show meetIs (bx d i a).1 (bx d i a).2 bl bh = true from hmt)
  have Hik := Lib.hid hik
  have ha2 : a < 4096 := Nat.lt_of_lt_of_le ha (Nat.pow_le_pow_right (show 0 < 2 by decide) (show i ≤ 12 by omega))
  have hi12 : i < 12 := by omega
  have him : (i == m) = false := beq_eq_false_iff_ne.2 (by omega)
  have him2 : ((i : Int) == (m : Int)) = false := beq_eq_false_iff_ne.2 (by omega)
  have Ha1 := Lib.hid (show 2 * a < 2 ^ (i + 1) by rw [Nat.pow_succ]; omega)
  have Ha2 := Lib.hid (show 2 * a + 1 < 2 ^ (i + 1) by rw [Nat.pow_succ]; omega)
  have Hn := Lib.hid hn
  have Hw := Lib.hid (bx_wide d h1 h6 i a (by omega))
  have Hev := Lib.hid (show bx d (i + 1) (2 * a) = ((bx d i a).1, (bx d i a).2.set (i % d) (midB (bx d i a).1 (bx d i a).2 (i % d))) by
    have := bx_even d i (2 * a) (by omega)
    rwa [show 2 * a / 2 = a by omega] at this)
  have Hod := Lib.hid (show bx d (i + 1) (2 * a + 1) = ((bx d i a).1.set (i % d) (midB (bx d i a).1 (bx d i a).2 (i % d) + 1), (bx d i a).2) by
    have := bx_odd d i (2 * a + 1) (by omega)
    rwa [show (2 * a + 1) / 2 = a by omega] at this)
  have Hor := Lib.hid (i64_or_one a (by omega))
  clear hmt hik ha hn
  generalize hlo : (bx d i a).1 = lo at *
  generalize hhi : (bx d i a).2 = hi at *
  clear hlo hhi
  obtain ⟨b0, b1⟩ := cells2 hE.eb
  have lb := hE.eb.lt
  have lm := hE.em.lt
  have ld := hE.ed.lt
  have ll := hL.ob.lt
  have k1 := hE.kl
  have k2 := hE.kh
  have HL := Lib.hid hL
  have HE := Lib.hid hE
  have hdne : d ≠ 0 := by omega
  have htm : ((i : Int)).tmod (d : Int) = (i : Int) % d := Int.tmod_eq_emod_of_nonneg (by omega)
  clear hE hL
  go_enter Try.func49, Try.ntmps49
  go_wp2_with (go_at_call 35; ((with_reducible refine (meet_any (al := lo) (ah := hi) (bl := bl) (bh := bh) ?_ ?_ ?_ ?_ (by omega)).mono ?_); (iterate 4 (repeat (first | with_reducible assumption | ((with_reducible refine Kv.lit_new _ _ _ _ _ _ ?_ ?_ ?_ ?_) <;> (first | (simp; done) | rfl | decide)) | with_reducible exact Kv.none_ _ | with_reducible refine Kv.alloc ?_ _ | with_reducible refine Kv.drew ?_ | with_reducible refine Kv.drewN ?_ _ | with_reducible refine Kv.no ?_ (by assumption)))); rintro e w2 ⟨A2, n2, c2, B2, m2, d2, rfl, hl2, hh2, hf2⟩; rw [Hm.out]; have g0 : w2.cell? ⟨gm, 0, none⟩ = some (.int .i64 (m : Int)) := ((HE.out.no (show Fr No w w2 by (repeat (first | with_reducible exact Fr.refl _ _ | with_reducible refine Fr.setCell ?_ (.inr (by first | (simp; done) | (simp; omega))) _ | with_reducible refine Fr.alloc ?_ _ | with_reducible refine Fr.drew ?_ | with_reducible refine Fr.drewN ?_ _ | with_reducible refine Fr.tr ?_ (by assumption))))).em.cell 0 rfl); have g2 : gm < w2.heap.size := ((HE.out.no (show Fr No w w2 by (repeat (first | with_reducible exact Fr.refl _ _ | with_reducible refine Fr.setCell ?_ (.inr (by first | (simp; done) | (simp; omega))) _ | with_reducible refine Fr.alloc ?_ _ | with_reducible refine Fr.drew ?_ | with_reducible refine Fr.drewN ?_ _ | with_reducible refine Fr.tr ?_ (by assumption))))).em.lt)))
  have F1 : Fr No w (w2.alloc (.cells #[.slice A2 n2 c2, .slice B2 m2 d2] 32)) := by (repeat (first | with_reducible exact Fr.refl _ _ | with_reducible refine Fr.setCell ?_ (.inr (by first | (simp; done) | (simp; omega))) _ | with_reducible refine Fr.alloc ?_ _ | with_reducible refine Fr.drew ?_ | with_reducible refine Fr.drewN ?_ _ | with_reducible refine Fr.tr ?_ (by assumption)))
  have hO8 : Ob (w2.alloc (.cells #[.slice A2 n2 c2, .slice B2 m2 d2] 32)) w.heap.size #[.slice P d cP, .slice Q d cQ] 32 := by (repeat (first | with_reducible assumption | with_reducible refine Ob.other ?_ (by first | (simp; done) | (simp; omega)) _ | ((with_reducible refine Ob.new_ _ _ _ _ ?_) <;> (simp; done)) | with_reducible refine Ob.alloc ?_ _ | with_reducible refine Ob.drew ?_ | with_reducible refine Ob.drewN ?_ _ | with_reducible refine Ob.no ?_ (by assumption)))
  have hOd : Ob (w2.alloc (.cells #[.slice A2 n2 c2, .slice B2 m2 d2] 32)) gd #[.int .i64 (d : Int)] 3 := (HE.out.no F1).ed
  have hp2 := hp.no F1
  have hq2 := hq.no F1
  clear hf2 hl2 hh2 g0 g2 b0 b1
  generalize (w2.alloc (.cells #[.slice A2 n2 c2, .slice B2 m2 d2] 32)) = wa at *
  have hsz := F1.size
  have l8 := hO8.lt
  have l9 := hOd.lt
  have xd := hOd.cell 0 (v := .int .i64 (d : Int)) rfl
  obtain ⟨x0, x1⟩ := cells2 hO8
  go_upto_region 6 with (fail)
  go_cut [13, 14] (fun v u wx => ∃ g1 g2 a1 b1 a2 b2 c1 d1 c2 d2, v = .pointer (some ⟨g1, 0, none⟩) ∧ u = .pointer (some ⟨g2, 0, none⟩) ∧ Hid (Mc w g1 g2 d a1 b1 a2 b2 c1 d1 c2 d2 lo (hi.set (i % d) (midB lo hi (i % d))) (lo.set (i % d) (midB lo hi (i % d) + 1)) hi wx))
  case first =>
    go_region_held3 (fun w' => w'.cell? ⟨w.heap.size, 0, none⟩ = some (.slice P d cP) ∧ w'.cell? ⟨w.heap.size, 1, none⟩ = some (.slice Q d cQ) ∧ w'.cell? ⟨gd, 0, none⟩ = some (.int .i64 (d : Int)))
      ((refine eyes3 (t := 32) (u := 3) ?_ ?_ <;> (repeat (first | with_reducible assumption | with_reducible refine Ob.other ?_ (by first | (simp; done) | (simp; omega)) _ | ((with_reducible refine Ob.new_ _ _ _ _ ?_) <;> (simp; done)) | with_reducible refine Ob.alloc ?_ _ | with_reducible refine Ob.drew ?_ | with_reducible refine Ob.drewN ?_ _ | with_reducible refine Ob.no ?_ (by assumption)))))
      (first
        | (go_at_call 43; ((with_reducible refine (halves_mod (lo := lo) (hi := hi) i d ?_ ?_ Hw.out).mono ?_); (iterate 2 (repeat (first | with_reducible assumption | ((with_reducible refine Kv.lit_new _ _ _ _ _ _ ?_ ?_ ?_ ?_) <;> (first | (simp; done) | rfl | decide)) | with_reducible exact Kv.none_ _ | with_reducible refine Kv.alloc ?_ _ | with_reducible refine Kv.drew ?_ | with_reducible refine Kv.drewN ?_ _ | with_reducible refine Kv.no ?_ (by assumption)))); rintro e w3 ⟨a1, c1, b1, d1, a2, c2, b2, d2, rfl, m1, m2, m3, m4, m5, hf3⟩; have hs2 := hf3.size; (try simp at hs2); (try simp at m5); (try (refine use_ (a := Ob w3 wa.heap.size #[.slice none 0 0, .slice none 0 0] 32) ?_ (fun zz => ?_); (focus ((repeat (first | with_reducible assumption | with_reducible refine Ob.other ?_ (by first | (simp; done) | (simp; omega)) _ | ((with_reducible refine Ob.new_ _ _ _ _ ?_) <;> (simp; done)) | with_reducible refine Ob.alloc ?_ _ | with_reducible refine Ob.drew ?_ | with_reducible refine Ob.drewN ?_ _ | with_reducible refine Ob.no ?_ (by assumption))); done)); obtain ⟨z0, z1, z2, z3, z4, z5, z6, z7⟩ := Ob.eight zz; clear zz)); (try (refine use_ (a := Ob w3 (wa.heap.size + 1) #[.slice none 0 0, .slice none 0 0] 32) ?_ (fun zz => ?_); (focus ((repeat (first | with_reducible assumption | with_reducible refine Ob.other ?_ (by first | (simp; done) | (simp; omega)) _ | ((with_reducible refine Ob.new_ _ _ _ _ ?_) <;> (simp; done)) | with_reducible refine Ob.alloc ?_ _ | with_reducible refine Ob.drew ?_ | with_reducible refine Ob.drewN ?_ _ | with_reducible refine Ob.no ?_ (by assumption))); done)); obtain ⟨z0, z1, z2, z3, z4, z5, z6, z7⟩ := Ob.eight zz; clear zz))))
        | fail)
    all_goals
      go_wp2_with fail
      go_meet
      refine ⟨_, _, a1, b1, a2, b2, c1, d1, c2, d2, rfl, rfl, Lib.hid ⟨?_, ?_, ?_, ?_, ?_, ?_, ?_, ?_⟩⟩
      all_goals try (first | ((repeat (first | with_reducible assumption | with_reducible refine Ob.other ?_ (by first | (simp; done) | (simp; omega)) _ | ((with_reducible refine Ob.new_ _ _ _ _ ?_) <;> (simp; done)) | with_reducible refine Ob.alloc ?_ _ | with_reducible refine Ob.drew ?_ | with_reducible refine Ob.drewN ?_ _ | with_reducible refine Ob.no ?_ (by assumption))); done) | ((with_reducible refine Ob.put2 (x := .slice none 0 0) (y := .slice none 0 0) ?_ _ _); (repeat (first | with_reducible assumption | with_reducible refine Ob.other ?_ (by first | (simp; done) | (simp; omega)) _ | ((with_reducible refine Ob.new_ _ _ _ _ ?_) <;> (simp; done)) | with_reducible refine Ob.alloc ?_ _ | with_reducible refine Ob.drew ?_ | with_reducible refine Ob.drewN ?_ _ | with_reducible refine Ob.no ?_ (by assumption))); done) | ((repeat (with_reducible refine Ob.other ?_ (by first | (simp; done) | (simp; omega)) _)); (with_reducible refine Ob.put2 (x := .slice none 0 0) (y := .slice none 0 0) ?_ _ _); (repeat (first | with_reducible assumption | with_reducible refine Ob.other ?_ (by first | (simp; done) | (simp; omega)) _ | ((with_reducible refine Ob.new_ _ _ _ _ ?_) <;> (simp; done)) | with_reducible refine Ob.alloc ?_ _ | with_reducible refine Ob.drew ?_ | with_reducible refine Ob.drewN ?_ _ | with_reducible refine Ob.no ?_ (by assumption))); done))
      all_goals try ((repeat (first | with_reducible assumption | with_reducible refine kv_other ?_ (by first | (simp; done) | (simp; omega)) _ | with_reducible refine Kv.alloc ?_ _ | with_reducible refine Kv.drew ?_ | with_reducible refine Kv.drewN ?_ _ | with_reducible refine Kv.no ?_ (by assumption))); done)
      all_goals try omega
      all_goals try ((repeat (first | with_reducible exact Fr.refl _ _ | with_reducible refine Fr.setCell ?_ (.inr (by first | (simp; done) | (simp; omega))) _ | with_reducible refine Fr.alloc ?_ _ | with_reducible refine Fr.drew ?_ | with_reducible refine Fr.drewN ?_ _ | with_reducible refine Fr.tr ?_ (by assumption))); done)
  case rest =>
    clear x0 x1 xd l8 l9 hO8 hOd hp2 hq2 Hw F1 hsz
    obtain ⟨g1, g2, a1, b1, a2, b2, c1, d1, c2, d2, rfl, rfl, HM⟩ := hcut
    generalize wc = wx at *
    obtain ⟨n1, n2, n3, n4, n5, n6, n9, n10⟩ := HM.out
    have E1 := Lib.hid (HE.out.no n10)
    have L1 := Lib.hid (HL.out.no n10)
    have f0 := E1.out.ef.cell 0 rfl
    obtain ⟨y0, y1⟩ := cells2 n1
    have s1 := n10.size
    have Hp1 := Lib.hid (show Kv wx (some ⟨a1, 0, none⟩) d c1 (bx d (i + 1) (2 * a)).1 by rw [Hev.out]; exact n3)
    have Hq1 := Lib.hid (show Kv wx (some ⟨b1, 0, none⟩) d d1 (bx d (i + 1) (2 * a)).2 by rw [Hev.out]; exact n4)
    have Hp2 := Lib.hid (show Kv wx (some ⟨a2, 0, none⟩) d c2 (bx d (i + 1) (2 * a + 1)).1 by rw [Hod.out]; exact n5)
    have Hq2 := Lib.hid (show Kv wx (some ⟨b2, 0, none⟩) d d2 (bx d (i + 1) (2 * a + 1)).2 by rw [Hod.out]; exact n6)
    have HF := Lib.hid n10
    have HO2 := Lib.hid n2
    have HBx := Lib.hid (show B0 ≤ wx.heap.size by omega)
    have Hn1 := Lib.hid (show n + 2 ^ k ≤ 10000 by have := Hn.out; rw [Nat.pow_succ] at this; omega)
    have Hsl := Lib.hid (L1.out.sl)
    have Hsk := Lib.hid (HL.out.sl_lt)
    have Hxl := Lib.hid (show n = xs.length by have := own_len HL.out.row; rw [i64s_len] at this; omega)
    clear n2 n3 n4 n5 n6 n10 HM Hev Hod
    go_wp2_with (go_at_call 49; ((with_reducible refine (DownK.call IH.out (a := 2 * a) (i := i + 1) (xs := xs) ?_ ?_ (by have := Hik.out; omega) Ha1.out HBx.out Hn1.out E1.out L1.out Hp1.out Hq1.out).mono ?_); (iterate 2 omega); rintro e w4 ⟨rfl, A3, n3, c3, hL3, hs3, hF3⟩; have E4 := Lib.hid (E1.out.fr hF3 Hsl.out); have L4 := Lib.hid hL3; have f4 := E4.out.ef.cell 0 rfl; obtain ⟨z0, z1⟩ := cells2 (HO2.out.fr hF3 (fun x => by have := Hsk.out _ x; omega)); have HF3 := Lib.hid hF3; have HS3 := Lib.hid hs3; have s4 := hF3.size; clear hL3 hF3 hs3))
    have Hp4 := Lib.hid (Hp2.out.fr HF3.out (fun b off e x => by injection e with e; injection e with e1 e2; have := Hsk.out _ x; omega))
    have Hq4 := Lib.hid (Hq2.out.fr HF3.out (fun b off e x => by injection e with e; injection e with e1 e2; have := Hsk.out _ x; omega))
    have HB4 := Lib.hid (show B0 ≤ w4.heap.size by omega)
    have Hn4 := Lib.hid (show n3 + 2 ^ k ≤ 10000 by
      have h := own_len L4.out.row
      rw [i64s_len, List.length_append] at h
      have h2 := rg_len d m bl bh k (2 * a)
      have h3 := Hn.out
      have h4 := Hxl.out
      have h5 : (ints (rg d m bl bh k (2 * a))).length = (rg d m bl bh k (2 * a)).length := by simp [ints]
      rw [Nat.pow_succ] at h3
      omega)
    have Hpost := Lib.hid (fun (e : Ending) (w5 : World) (h : Grew w4 B0 gl A3 n3 c3 (xs ++ ints (rg d m bl bh k (2 * a)) ++ ints (rg d m bl bh k (2 * a + 1))) e w5) => show e = .returned (.tuple #[]) ∧ Grew w B0 gl A n c (xs ++ (ints (rg d m bl bh k (2 * a)) ++ ints (rg d m bl bh k (2 * a + 1)))) (.returned (.tuple #[])) w5 by
      obtain ⟨rfl, A5, n5, c5, hL5, hs5, hF5⟩ := h
      refine ⟨rfl, rfl, A5, n5, c5, ?_, ?_, ?_⟩
      · rw [← List.append_assoc]; exact hL5
      · intro j hj
        rcases hs5 j hj with h | h
        · rcases HS3.out j h with h | h
          · exact .inl h
          · exact .inr (by omega)
        · exact .inr (by omega)
      · refine (HF.out.of_no.tr HF3.out).trans hF5 (fun j hj => ?_)
        rcases HS3.out j hj with h | h
        · exact .inl h
        · exact .inr (by omega))
    refine (DownK.call IH.out (a := 2 * a + 1) (i := i + 1) Hor.out (by omega) (by have := Hik.out; omega) Ha2.out HB4.out Hn4.out E4.out L4.out Hp4.out Hq4.out).mono ?_
    intro e w5 h5
    obtain ⟨rfl, h6⟩ := Hpost.out e w5 h5
    have H6 := Lib.hid h6
    clear h5 h6 Hpost
    go_wp2
    refine bodyPost_ret (v := .tuple #[]) (by simp [results, Try.results49, go_sem]) rfl ?_
    rw [List.append_assoc]
    exact H6.out
theorem down_any (h1 : 1 ≤ d) (h6 : d ≤ 6) (hm : m ≤ 12) : ∀ k, DownK B0 gb gm gl gd gf m d C D cc cd bl bh k
  | 0 => down_zero h6
  | k + 1 => by
    have ih := Lib.hid (down_any h1 h6 hm k)
    intro w A n c xs P Q cP cQ a i za zi ha hi him hlt hB hn hE hL hp hq
    subst ha
    subst hi
    have hdk : m - (k + 1) = i := by omega
    cases ht : mt d i a bl bh with
    | true =>
      have e : rg d m bl bh (k + 1) a = rg d m bl bh k (2 * a) ++ rg d m bl bh k (2 * a + 1) := by simp only [rg]; rw [hdk, if_pos ht]
      have e2 : ints (rg d m bl bh (k + 1) a) = ints (rg d m bl bh k (2 * a)) ++ ints (rg d m bl bh k (2 * a + 1)) := by rw [e]; simp [ints]
      rw [e2, ← List.append_assoc]
      exact down_in h1 h6 hm k ih P Q cP cQ a i him hlt hB hn hE hL hp hq ht
    | false =>
      have e : rg d m bl bh (k + 1) a = [] := by simp only [rg]; rw [hdk, if_neg (by rw [ht]; decide)]
      rw [e]
      have h := down_no _ _ (a : Int) (i : Int) hE hL h6 hp hq ht
      simpa [ints] using h
end
end Go.Proofs.Ytplpgneckfmjpaa.Hi16
/- Layer 16: the addresses of the cells that a box meets (the program's). -/
namespace Go.Proofs.Ytplpgneckfmjpaa.Hj16
open Go.RowKit Go.Proofs.Ytplpgneckfmjpaa.Pk08 Go.Proofs.Ytplpgneckfmjpaa.Base Go.Proofs.Ytplpgneckfmjpaa.App Go.Proofs.Ytplpgneckfmjpaa.Ky Go.Proofs.Ytplpgneckfmjpaa.Iv Go.Proofs.Ytplpgneckfmjpaa.Bx Go.Proofs.Ytplpgneckfmjpaa.Kk Go.Proofs.Ytplpgneckfmjpaa.Bo Go.Proofs.Ytplpgneckfmjpaa.Cl Go.Proofs.Ytplpgneckfmjpaa.Pl08 Go.Proofs.Ytplpgneckfmjpaa.Kc08 Go.Proofs.Ytplpgneckfmjpaa.Ke08 Go.Proofs.Ytplpgneckfmjpaa.Kj08 Go.Proofs.Ytplpgneckfmjpaa.Km08 Go.Proofs.Ytplpgneckfmjpaa.Ka08 Go.Proofs.Ytplpgneckfmjpaa.Px16 Go.Proofs.Ytplpgneckfmjpaa.Py16 Go.Proofs.Ytplpgneckfmjpaa.Hd16 Go.Proofs.Ytplpgneckfmjpaa.He16 Go.Proofs.Ytplpgneckfmjpaa.Hg16 Go.Proofs.Ytplpgneckfmjpaa.Hi16
set_option linter.unusedVariables false
set_option linter.unusedSimpArgs false
def rgOk (lo hi : List Nat) (d n : Int) : Bool := decide (chkB lo hi d = 0) && dpB n
def rgL (lo hi : List Nat) (d n : Int) : List Int := if rgOk lo hi d n = true then ints (rg d.toNat n.toNat lo hi n.toNat 0) else []
def rgE (lo hi : List Nat) (d n : Int) : Int := if rgOk lo hi d n = true then 0 else 1
/-- Numbers are returned, and one more. -/
def IntsRet (w : World) (xs : List Int) (last : Value) (e : Ending) (w' : World) : Prop :=
  ∃ A n c, e = .returned (.tuple #[.slice A n c, last]) ∧ Iv w' A n c xs ∧ Fr No w w'
theorem iv_none (w : World) : Iv w none 0 0 [] := ⟨rfl, Nat.le_refl _, Nat.zero_le _, fun i h => by simp at h, fun h => by simp at h⟩
theorem rg_lt (d m : Nat) (lo hi : List Nat) : ∀ k a, ∀ x ∈ rg d m lo hi k a, x < (a + 1) * 2 ^ k
  | 0, a => by
    simp only [rg]
    intro x hx
    split at hx
    · simp at hx; omega
    · simp at hx
  | k + 1, a => by
    simp only [rg]
    intro x hx
    split at hx
    · rcases List.mem_append.1 hx with h | h
      · have h1 := rg_lt d m lo hi k (2 * a) x h
        have h2 : (2 * a + 1) * 2 ^ k ≤ (a + 1) * 2 ^ (k + 1) := by rw [Nat.pow_succ, Nat.mul_comm (2 ^ k) 2, ← Nat.mul_assoc]; exact Nat.mul_le_mul_right _ (by omega)
        omega
      · have h1 := rg_lt d m lo hi k (2 * a + 1) x h
        have h2 : (2 * a + 1 + 1) * 2 ^ k ≤ (a + 1) * 2 ^ (k + 1) := by rw [Nat.pow_succ, Nat.mul_comm (2 ^ k) 2, ← Nat.mul_assoc]; exact Nat.mul_le_mul_right _ (by omega)
        omega
    · simp at hx
theorem ints_get (l : List Nat) (i : Nat) : (ints l).getD i 0 = ((l.getD i 0 : Nat) : Int) := by
  by_cases h : i < l.length
  · simp [ints, List.getD_eq_getElem?_getD, h]
  · simp [ints, List.getD_eq_getElem?_getD, List.getElem?_eq_none (show l.length ≤ i by omega)]
theorem ints_wf (d t : Nat) (lo hi : List Nat) (ht : t ≤ 12) : ∀ i, i < (ints (rg d t lo hi t 0)).length → -9223372036854775808 ≤ (ints (rg d t lo hi t 0)).getD i 0 ∧ (ints (rg d t lo hi t 0)).getD i 0 ≤ 9223372036854775807 := by
  intro i hi'
  have hlen : i < (rg d t lo hi t 0).length := by simpa [ints] using hi'
  have h1 := rg_lt d t lo hi t 0 _ (List.getElem_mem hlen)
  have h2 := Nat.pow_le_pow_right (show 0 < 2 by decide) ht
  rw [ints_get, List.getD_eq_getElem?_getD, List.getElem?_eq_getElem hlen]
  simp only [Option.getD_some]
  have h3 : (2 : Nat) ^ 12 = 4096 := rfl
  rw [Nat.zero_add, Nat.one_mul] at h1
  generalize (rg d t lo hi t 0)[i] = x at *
  omega
section
variable {w : World} {A B : Option Addr} {n cn m cm : Nat} {lo hi : List Nat}
theorem range_no (d t : Int) (hl : Kv w A n cn lo) (hh : Kv w B m cm hi) (ho : rgOk lo hi d t = false) :
    Calls Try.prog 34 #[.agg #[.slice A n cn, .slice B m cm], .int .i64 d, .int .i64 t] w (IntsRet w [] (.int .i64 1)) := by
  have hc : chkB lo hi d = 1 ∨ (chkB lo hi d = 0 ∧ dpB t = false) := by
    by_cases h0 : chkB lo hi d = 0
    · refine .inr ⟨h0, ?_⟩
      unfold rgOk at ho
      rw [h0] at ho
      simpa using ho
    · exact .inl (chkB_one h0)
  clear ho
  rcases hc with h0 | ⟨h0, h2⟩
  · have H0 := Lib.hid h0
    clear h0
    go_enter Try.func34, Try.ntmps34
    go_wp2_with (go_at_call 48; ((with_reducible refine (checkBox_any (lo := lo) (hi := hi) _ ?_ ?_).mono ?_); (iterate 2 (repeat (first | with_reducible assumption | ((with_reducible refine Kv.lit_new _ _ _ _ _ _ ?_ ?_ ?_ ?_) <;> (first | (simp; done) | rfl | decide)) | with_reducible exact Kv.none_ _ | with_reducible refine Kv.alloc ?_ _ | with_reducible refine Kv.drew ?_ | with_reducible refine Kv.drewN ?_ _ | with_reducible refine Kv.no ?_ (by assumption)))); rintro e w1 ⟨rfl, hf1⟩; rw [H0.out]))
    go_ret2
    exact ⟨none, 0, 0, rfl, iv_none _, by (repeat (first | with_reducible exact Fr.refl _ _ | with_reducible refine Fr.setCell ?_ (.inr (by first | (simp; done) | (simp; omega))) _ | with_reducible refine Fr.alloc ?_ _ | with_reducible refine Fr.drew ?_ | with_reducible refine Fr.drewN ?_ _ | with_reducible refine Fr.tr ?_ (by assumption)))⟩
  · have H0 := Lib.hid h0
    have H2 := Lib.hid h2
    clear h0 h2
    go_enter Try.func34, Try.ntmps34
    go_wp2_with (first
      | (go_at_call 48; ((with_reducible refine (checkBox_any (lo := lo) (hi := hi) _ ?_ ?_).mono ?_); (iterate 2 (repeat (first | with_reducible assumption | ((with_reducible refine Kv.lit_new _ _ _ _ _ _ ?_ ?_ ?_ ?_) <;> (first | (simp; done) | rfl | decide)) | with_reducible exact Kv.none_ _ | with_reducible refine Kv.alloc ?_ _ | with_reducible refine Kv.drew ?_ | with_reducible refine Kv.drewN ?_ _ | with_reducible refine Kv.no ?_ (by assumption)))); rintro e w1 ⟨rfl, hf1⟩; rw [H0.out]; have hx := (show Ob w1 (w.heap.size + 1 + 1) #[.int .i64 t] 3 by (repeat (first | with_reducible assumption | with_reducible refine Ob.other ?_ (by first | (simp; done) | (simp; omega)) _ | ((with_reducible refine Ob.new_ _ _ _ _ ?_) <;> (simp; done)) | with_reducible refine Ob.alloc ?_ _ | with_reducible refine Ob.drew ?_ | with_reducible refine Ob.drewN ?_ _ | with_reducible refine Ob.no ?_ (by assumption)))).cell 0 (v := .int .i64 t) rfl))
      | (go_at_call 38; ((with_reducible refine (isDepth_any _ _).mono ?_); rintro e w2 ⟨rfl, rfl⟩; rw [H2.out]))
      | fail)
    go_ret2
    exact ⟨none, 0, 0, rfl, iv_none _, by (repeat (first | with_reducible exact Fr.refl _ _ | with_reducible refine Fr.setCell ?_ (.inr (by first | (simp; done) | (simp; omega))) _ | with_reducible refine Fr.alloc ?_ _ | with_reducible refine Fr.drew ?_ | with_reducible refine Fr.drewN ?_ _ | with_reducible refine Fr.tr ?_ (by assumption)))⟩
set_option maxHeartbeats 3200000 in
theorem range_ok (d t : Nat) (hl : Kv w A n cn lo) (hh : Kv w B m cm hi) (hc : chkB lo hi (d : Int) = 0) (ht : t ≤ 12) :
    Calls Try.prog 34 #[.agg #[.slice A n cn, .slice B m cm], .int .i64 (d : Int), .int .i64 (t : Int)] w (IntsRet w (ints (rg d t lo hi t 0)) (.int .i64 0)) := by
  obtain ⟨h1, h6, h7, h8⟩ := chkB_zero.1 hc
  have h9 := (leL_iff _ _).1 h8
  obtain rfl : d = n := by have := hl.len; omega
  obtain rfl : d = m := by have := hh.len; omega
  have H0 := Lib.hid hc
  have H2 := Lib.hid (show dpB (t : Int) = true from decide_eq_true ⟨by omega, by omega⟩)
  have Hlo := Lib.hid (show wLo (d : Int) = List.replicate d 0 by rw [wLo_in ⟨by omega, by omega⟩, Int.toNat_natCast])
  have Hhi := Lib.hid (show wHi (d : Int) = List.replicate d 4294967295 by rw [wHi_in ⟨by omega, by omega⟩, Int.toNat_natCast])
  obtain ⟨ga, oa, hga, ca⟩ := hl.get 0 (by omega)
  obtain ⟨gb, ob, hgb, cb⟩ := hh.get 0 (by omega)
  have la := World.block_lt_of_cell? w _ ca
  have lb := World.block_lt_of_cell? w _ cb
  subst hga
  subst hgb
  have la' : ga < w.heap.size := la
  have lb' : gb < w.heap.size := lb
  clear hc h7 h8 h9 ca cb la lb
  go_enter Try.func34, Try.ntmps34
  go_wp2_with (first
    | (go_at_call 48; ((with_reducible refine (checkBox_any (lo := lo) (hi := hi) _ ?_ ?_).mono ?_); (iterate 2 (repeat (first | with_reducible assumption | ((with_reducible refine Kv.lit_new _ _ _ _ _ _ ?_ ?_ ?_ ?_) <;> (first | (simp; done) | rfl | decide)) | with_reducible exact Kv.none_ _ | with_reducible refine Kv.alloc ?_ _ | with_reducible refine Kv.drew ?_ | with_reducible refine Kv.drewN ?_ _ | with_reducible refine Kv.no ?_ (by assumption)))); rintro e w1 ⟨rfl, hf1⟩; rw [H0.out]; have hx := (show Ob w1 (w.heap.size + 1 + 1) #[.int .i64 (t : Int)] 3 by (repeat (first | with_reducible assumption | with_reducible refine Ob.other ?_ (by first | (simp; done) | (simp; omega)) _ | ((with_reducible refine Ob.new_ _ _ _ _ ?_) <;> (simp; done)) | with_reducible refine Ob.alloc ?_ _ | with_reducible refine Ob.drew ?_ | with_reducible refine Ob.drewN ?_ _ | with_reducible refine Ob.no ?_ (by assumption)))).cell 0 (v := .int .i64 (t : Int)) rfl))
    | (go_at_call 38; ((with_reducible refine (isDepth_any _ _).mono ?_); rintro e w2 ⟨rfl, rfl⟩; rw [H2.out]))
    | fail)
  have F : Fr No w ((w1.alloc (.cells #[.slice none 0 0] 37)).alloc (.cells #[.func (.func 49) #[] #[.pointer (some ⟨w.heap.size, 0, none⟩), .pointer (some ⟨w.heap.size + 1 + 1, 0, none⟩), .pointer (some ⟨w1.heap.size, 0, none⟩), .pointer (some ⟨w.heap.size + 1, 0, none⟩), .pointer (some ⟨w1.heap.size + 1, 0, none⟩)]] 66)) := by (repeat (first | with_reducible exact Fr.refl _ _ | with_reducible refine Fr.setCell ?_ (.inr (by first | (simp; done) | (simp; omega))) _ | with_reducible refine Fr.alloc ?_ _ | with_reducible refine Fr.drew ?_ | with_reducible refine Fr.drewN ?_ _ | with_reducible refine Fr.tr ?_ (by assumption)))
  have hz : w.heap.size + 1 + 1 < w1.heap.size := (show Ob w1 (w.heap.size + 1 + 1) #[.int .i64 (t : Int)] 3 by (repeat (first | with_reducible assumption | with_reducible refine Ob.other ?_ (by first | (simp; done) | (simp; omega)) _ | ((with_reducible refine Ob.new_ _ _ _ _ ?_) <;> (simp; done)) | with_reducible refine Ob.alloc ?_ _ | with_reducible refine Ob.drew ?_ | with_reducible refine Ob.drewN ?_ _ | with_reducible refine Ob.no ?_ (by assumption)))).lt
  have E : Env ((w1.alloc (.cells #[.slice none 0 0] 37)).alloc (.cells #[.func (.func 49) #[] #[.pointer (some ⟨w.heap.size, 0, none⟩), .pointer (some ⟨w.heap.size + 1 + 1, 0, none⟩), .pointer (some ⟨w1.heap.size, 0, none⟩), .pointer (some ⟨w.heap.size + 1, 0, none⟩), .pointer (some ⟨w1.heap.size + 1, 0, none⟩)]] 66)) (w1.heap.size + 1 + 1) w.heap.size (w.heap.size + 1 + 1) w1.heap.size (w.heap.size + 1) (w1.heap.size + 1) t d (some ⟨ga, oa, none⟩) (some ⟨gb, ob, none⟩) cn cm lo hi :=
    ⟨by (repeat (first | with_reducible assumption | with_reducible refine Ob.other ?_ (by first | (simp; done) | (simp; omega)) _ | ((with_reducible refine Ob.new_ _ _ _ _ ?_) <;> (simp; done)) | with_reducible refine Ob.alloc ?_ _ | with_reducible refine Ob.drew ?_ | with_reducible refine Ob.drewN ?_ _ | with_reducible refine Ob.no ?_ (by assumption))), by (repeat (first | with_reducible assumption | with_reducible refine Ob.other ?_ (by first | (simp; done) | (simp; omega)) _ | ((with_reducible refine Ob.new_ _ _ _ _ ?_) <;> (simp; done)) | with_reducible refine Ob.alloc ?_ _ | with_reducible refine Ob.drew ?_ | with_reducible refine Ob.drewN ?_ _ | with_reducible refine Ob.no ?_ (by assumption))), by (repeat (first | with_reducible assumption | with_reducible refine Ob.other ?_ (by first | (simp; done) | (simp; omega)) _ | ((with_reducible refine Ob.new_ _ _ _ _ ?_) <;> (simp; done)) | with_reducible refine Ob.alloc ?_ _ | with_reducible refine Ob.drew ?_ | with_reducible refine Ob.drewN ?_ _ | with_reducible refine Ob.no ?_ (by assumption))), Ob.new_ _ _ _ _ (by simp), hl.no F, hh.no F, by omega, by omega, fun b off e => by injection e with e; injection e with e1 e2; omega, fun b off e => by injection e with e; injection e with e1 e2; omega⟩
  have L : Lst ((w1.alloc (.cells #[.slice none 0 0] 37)).alloc (.cells #[.func (.func 49) #[] #[.pointer (some ⟨w.heap.size, 0, none⟩), .pointer (some ⟨w.heap.size + 1 + 1, 0, none⟩), .pointer (some ⟨w1.heap.size, 0, none⟩), .pointer (some ⟨w.heap.size + 1, 0, none⟩), .pointer (some ⟨w1.heap.size + 1, 0, none⟩)]] 66)) (w1.heap.size + 1 + 1) w1.heap.size none 0 0 [] := ⟨(Ob.new w1 _ _).alloc _, World.ownsRow_nil _ _ _ _⟩
  have hs : ((w1.alloc (.cells #[.slice none 0 0] 37)).alloc (.cells #[.func (.func 49) #[] #[.pointer (some ⟨w.heap.size, 0, none⟩), .pointer (some ⟨w.heap.size + 1 + 1, 0, none⟩), .pointer (some ⟨w1.heap.size, 0, none⟩), .pointer (some ⟨w.heap.size + 1, 0, none⟩), .pointer (some ⟨w1.heap.size + 1, 0, none⟩)]] 66)).heap.size = w1.heap.size + 1 + 1 := by simp
  clear hf1 hx
  generalize hW : ((w1.alloc (.cells #[.slice none 0 0] 37)).alloc (.cells #[.func (.func 49) #[] #[.pointer (some ⟨w.heap.size, 0, none⟩), .pointer (some ⟨w.heap.size + 1 + 1, 0, none⟩), .pointer (some ⟨w1.heap.size, 0, none⟩), .pointer (some ⟨w.heap.size + 1, 0, none⟩), .pointer (some ⟨w1.heap.size + 1, 0, none⟩)]] 66)) = W at *
  clear hW
  generalize hB0 : w1.heap.size + 1 + 1 = B0 at *
  generalize hgf : w1.heap.size + 1 = gf at *
  generalize hgl : w1.heap.size = gl at *
  have HF := Lib.hid F
  have HE := Lib.hid E
  have HL := Lib.hid L
  have DK := Lib.hid (down_any (B0 := B0) (gb := w.heap.size) (gm := w.heap.size + 1 + 1) (gl := gl) (gd := w.heap.size + 1) (gf := gf) (m := t) (d := d) (C := some ⟨ga, oa, none⟩) (D := some ⟨gb, ob, none⟩) (cc := cn) (cd := cm) (bl := lo) (bh := hi) (by omega) (by omega) ht t)
  have HB := Lib.hid (show B0 ≤ W.heap.size by omega)
  have Hgl := Lib.hid (show w.heap.size ≤ gl by omega)
  have H12 := Lib.hid (show 0 + 2 ^ t ≤ 10000 by have h1 := Nat.pow_le_pow_right (show 0 < 2 by decide) ht; have h2 : (2 : Nat) ^ 12 = 4096 := rfl; omega)
  clear hB0 hgf hgl hs hz
  have x0 := E.ef.cell 0 rfl
  have x1 := E.ed.cell 0 rfl
  clear F E L
  go_region_held3 (fun w' => w'.cell? ⟨gf, 0, none⟩ = some (.func (.func 49) #[] #[.pointer (some ⟨w.heap.size, 0, none⟩), .pointer (some ⟨w.heap.size + 1 + 1, 0, none⟩), .pointer (some ⟨gl, 0, none⟩), .pointer (some ⟨w.heap.size + 1, 0, none⟩), .pointer (some ⟨gf, 0, none⟩)]) ∧ w'.cell? ⟨w.heap.size + 1, 0, none⟩ = some (.int .i64 (d : Int)))
    (first | exact ⟨x0, x1⟩ | exact ⟨x2, x3⟩ | exact ⟨x4, x5⟩ | fail)
    (first
      | (go_at_call 42; ((with_reducible refine (whole_any _ _).mono ?_); rintro e w2 ⟨A0, n0, c0, B0', m0, d0, rfl, hl0, hh0, hf0⟩; rw [Hlo.out] at hl0; rw [Hhi.out] at hh0; obtain rfl : d = n0 := (by have := hl0.len; simp at this; omega); obtain rfl : d = m0 := (by have := hh0.len; simp at this; omega); have Hl0 := Lib.hid (show Kv w2 A0 d c0 (bx d 0 0).1 by rw [bx_zero]; exact hl0); have Hh0 := Lib.hid (show Kv w2 B0' d d0 (bx d 0 0).2 by rw [bx_zero]; exact hh0); have E2 := Lib.hid ((HE.out.no (Fr.refl No W).drew).no hf0); have L2 := Lib.hid ((HL.out.no (Fr.refl No W).drew).no hf0); have x2 := E2.out.ef.cell 0 rfl; have x3 := E2.out.ed.cell 0 rfl; have HF2 := Lib.hid ((HF.out.drew).tr hf0); have HB2 := Lib.hid (show B0 ≤ w2.heap.size by have h3 := hf0.size; have h4 := HB.out; simp at h3; omega)))
      | (go_at_call 49; ((with_reducible refine (DownK.call DK.out (a := 0) (i := 0) (xs := []) (by omega) (by omega) (Nat.zero_add t) (by simp) HB2.out H12.out E2.out L2.out Hl0.out Hh0.out).mono ?_); rintro e w4 ⟨rfl, A3, n3, c3, hL3, hs3, hF3⟩; have E4 := Lib.hid (E2.out.fr hF3 (L2.out.sl)); have L4 := Lib.hid hL3; have x4 := E4.out.ef.cell 0 rfl; have x5 := E4.out.ed.cell 0 rfl; have x6 := L4.out.ob.cell 0 rfl; have HF4 := Lib.hid (HF2.out.trans hF3 (fun j hj => hj.elim (fun x => .inr (by have := Hgl.out; omega)) (fun x => by simp [Value.ownBlock] at x)))))
      | fail)
  go_wp2
  go_ret2
  refine ⟨A3, n3, c3, rfl, ?_, HF4.out⟩
  have hr := L4.out.row
  rw [List.nil_append] at hr
  exact Iv.of_own hr (ints_wf _ _ _ _ ht)
end
end Go.Proofs.Ytplpgneckfmjpaa.Hj16
/- Layer 16: the addresses of the cells that a box meets (the document's). -/
namespace Go.Proofs.Ytplpgneckfmjpaa.Hk16
open Go.RowKit Go.Proofs.Ytplpgneckfmjpaa.Pk08 Go.Proofs.Ytplpgneckfmjpaa.Base Go.Proofs.Ytplpgneckfmjpaa.App Go.Proofs.Ytplpgneckfmjpaa.Ky Go.Proofs.Ytplpgneckfmjpaa.Iv Go.Proofs.Ytplpgneckfmjpaa.Bx Go.Proofs.Ytplpgneckfmjpaa.Kk Go.Proofs.Ytplpgneckfmjpaa.Bo Go.Proofs.Ytplpgneckfmjpaa.As Go.Proofs.Ytplpgneckfmjpaa.Cl Go.Proofs.Ytplpgneckfmjpaa.Pl08 Go.Proofs.Ytplpgneckfmjpaa.Kc08 Go.Proofs.Ytplpgneckfmjpaa.Kh08 Go.Proofs.Ytplpgneckfmjpaa.Kj08 Go.Proofs.Ytplpgneckfmjpaa.Km08 Go.Proofs.Ytplpgneckfmjpaa.Ky08 Go.Proofs.Ytplpgneckfmjpaa.Ka08 Go.Proofs.Ytplpgneckfmjpaa.Px16 Go.Proofs.Ytplpgneckfmjpaa.Py16 Go.Proofs.Ytplpgneckfmjpaa.Hd16 Go.Proofs.Ytplpgneckfmjpaa.He16 Go.Proofs.Ytplpgneckfmjpaa.Hf16 Go.Proofs.Ytplpgneckfmjpaa.Hg16 Go.Proofs.Ytplpgneckfmjpaa.Hi16 Go.Proofs.Ytplpgneckfmjpaa.Hj16
set_option linter.unusedVariables false
set_option linter.unusedSimpArgs false
attribute [local go_sem ↓ high] builtin_app
section
variable {w : World} {A B : Option Addr} {n cn m cm : Nat} {lo hi : List Nat}
/-- Those of the first i cells that meet the box. -/
def fi (d t : Nat) (lo hi : List Nat) (i : Nat) : List Nat := (List.range i).filter (fun j => mt d t j lo hi)
theorem fi_succ (d t : Nat) (lo hi : List Nat) (i : Nat) : fi d t lo hi (i + 1) = fi d t lo hi i ++ if mt d t i lo hi = true then [i] else [] := by
  unfold fi
  rw [List.range_succ, List.filter_append]
  congr 1
  simp only [List.filter_cons, List.filter_nil]
theorem fi_len (d t : Nat) (lo hi : List Nat) (i : Nat) : (fi d t lo hi i).length ≤ i := by
  have := List.length_filter_le (fun j => mt d t j lo hi) (List.range i)
  unfold fi
  simpa using this
structure Rk (w : World) (A B : Option Addr) (d cn cm t : Nat) (lo hi : List Nat) (i : Nat) (P : Option Addr) (n c : Nat) (wr : World) : Prop where
  arg : Ob wr w.heap.size #[.slice A d cn, .slice B d cm] 32
  row : wr.ownsRow (w.heap.size + 1) 3 1 (.slice P n c) n (i64s (ints (fi d t lo hi i)))
  fr : Fr No w wr
theorem Rk.no {wr w1 : World} {d t i : Nat} {P : Option Addr} {c : Nat} (h : Rk w A B d cn cm t lo hi i P n c wr) (f : Fr No wr w1) : Rk w A B d cn cm t lo hi i P n c w1 := ⟨h.arg.no f, own_no h.row f, h.fr.tr f⟩
theorem Rk.skip {wr : World} {d t i : Nat} {P : Option Addr} {c : Nat} (h : Rk w A B d cn cm t lo hi i P n c wr) (hm : mt d t i lo hi = false) : Rk w A B d cn cm t lo hi (i + 1) P n c wr := by
  refine ⟨h.arg, ?_, h.fr⟩
  rw [fi_succ, hm]
  simpa using h.row
theorem Rk.put {wr w1 : World} {d t i : Nat} {P P1 : Option Addr} {c c1 : Nat} (h : Rk w A B d cn cm t lo hi i P n c wr) (hm : mt d t i lo hi = true) (hown : w1.ownsRow (w.heap.size + 1) 3 1 (.slice P1 (n + 1) c1) (n + 1) (i64s (ints (fi d t lo hi i)) ++ [.int .i64 (i : Int)])) (hgr : wr.grownBy w1 (Value.slice P n c).ownBlock) :
    Rk w A B d cn cm t lo hi (i + 1) P1 (n + 1) c1 w1 := by
  have F : Fr (fun k => (Value.slice P n c).ownBlock = some k) wr w1 := ⟨hgr.os, hgr.tape, hgr.output, hgr.size, fun k hk hn => hgr.block k hk (fun e => hn e.symm)⟩
  refine ⟨h.arg.fr F (fun e => by have := (h.row.lt _ e).1; omega), ?_, h.fr.grown hgr (fun k hk => .inr (by have := (h.row.lt _ hk).1; omega))⟩
  rw [fi_succ, hm]
  have e : i64s (ints (fi d t lo hi i)) ++ [Value.int .i64 (i : Int)] = i64s (ints (fi d t lo hi i ++ if true = true then [i] else [])) := by simp [i64s, ints]
  rw [← e]
  exact hown
theorem rg_in {d t : Int} (ho : rgOk lo hi d t = true) : ∃ (e u : Nat), d = (e : Int) ∧ t = (u : Int) ∧ u ≤ 12 ∧ chkB lo hi (e : Int) = 0 ∧ rgL lo hi d t = ints (rg e u lo hi u 0) ∧ rgE lo hi d t = 0 := by
  have h := ho
  unfold rgOk at h
  rw [Bool.and_eq_true, decide_eq_true_eq] at h
  obtain ⟨h1, h2⟩ := h
  obtain ⟨h3, h4⟩ := of_decide_eq_true h2
  have h5 := (chkB_zero.1 h1).1
  obtain ⟨e, rfl⟩ := Int.eq_ofNat_of_zero_le (show 0 ≤ d by omega)
  obtain ⟨u, rfl⟩ := Int.eq_ofNat_of_zero_le h3
  exact ⟨e, u, rfl, rfl, by omega, h1, by unfold rgL; rw [if_pos ho, Int.toNat_natCast, Int.toNat_natCast], by unfold rgE; rw [if_pos ho]⟩
theorem rg_out {d t : Int} (ho : rgOk lo hi d t = false) : rgL lo hi d t = [] ∧ rgE lo hi d t = 1 := ⟨by unfold rgL; rw [ho]; rfl, by unfold rgE; rw [ho]; rfl⟩
theorem range_any (d t : Int) (hl : Kv w A n cn lo) (hh : Kv w B m cm hi) :
    Calls Try.prog 34 #[.agg #[.slice A n cn, .slice B m cm], .int .i64 d, .int .i64 t] w (IntsRet w (rgL lo hi d t) (.int .i64 (rgE lo hi d t))) := by
  cases ho : rgOk lo hi d t with
  | true =>
    obtain ⟨e, u, rfl, rfl, h1, h2, h3, h4⟩ := rg_in ho
    rw [h3, h4]
    exact range_ok e u hl hh h2 h1
  | false =>
    obtain ⟨h3, h4⟩ := rg_out ho
    rw [h3, h4]
    exact range_no d t hl hh ho
end
end Go.Proofs.Ytplpgneckfmjpaa.Hk16
