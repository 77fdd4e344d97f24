/- Layer 5: slices.Clone of words, the copy of a map. -/
import Derived.Test.YthnahdoagibckaaFn05
import Derived.Test.YthnahdoagibckaaApp
import Derived.Deep.RegionHeld3
import Derived.StillTailTactics
import Derived.RegionCalls
import Derived.Lib.LazyBuf
namespace Go.Proofs.Ythnahdoagibckaa.Cl05
open Go.RowKit Go.Proofs.Ythnahdoagibckaa.Pl05 Go.Proofs.Ythnahdoagibckaa.Pm05 Go.Proofs.Ythnahdoagibckaa.Base Go.Proofs.Ythnahdoagibckaa.App Go.Proofs.Ythnahdoagibckaa.Wa05 Go.Proofs.Ythnahdoagibckaa.Fr05 Go.Proofs.Ythnahdoagibckaa.Fn05
set_option linter.unusedVariables false
set_option linter.unusedSimpArgs false

set_option maxHeartbeats 400000 in
theorem clone_any (ad : Addr) (m c : Nat) (news : List Value) (w : World) (hl : news.length = m) (hr : Rc w (some ad) news) (h1 : ∀ u ∈ news, u.oneCell' = true) (hb : m * 8 ≤ 140737488355328) :
    Calls Try.prog 30 #[.slice (some ad) m c] w fun e w' => ∃ g cap, e = .returned (.slice (some ⟨g, 0, none⟩) m cap) ∧ w'.ownsRow w.heap.size 48 1 (.slice (some ⟨g, 0, none⟩) m cap) m news ∧ w.heap.size ≤ g ∧ Fr No w w' := by
  have Hr : Hid (∀ o, Rc (w.alloc o) (some ad) news) := Lib.hid (fun o => hr.no ((Fr.refl No w).alloc o))
  have Hl := Lib.hid hl
  have H1 := Lib.hid h1
  clear hr hl h1
  have he := fun W => Lib.run_eql_slice_nil (P := Try.prog) W 49 48 (some ad) m c 0 0 Try.underlying49
  go_enter Try.func30, Try.ntmps30
  go_wp2_with (at_builtin; refine app_list w.heap.size rfl (.tmp 5) (.tmp 6) 49 48 (.int .u64 0) 1 8 rfl Try.underlying49 info_words rfl (by decide) (by decide) (.slice (some ⟨w.heap.size, 0, none⟩) 0 0) 0 [] rfl (own_empty w _ _ 1 (Nat.le_refl _)) (some ad) m c news rfl (by rw [Hl.out, Nat.mul_one]) (Hr.out _) H1.out (by omega) (by simp) ?_; intro v1 w1 hown hg hat)
  go_ret
  rw [Nat.zero_add, List.nil_append] at hown
  have hf : Fr No w w1 := fr_app ((Fr.refl No w).alloc _) hg (fun k hk => .inr (by simp [Value.ownBlock] at hk; omega))
  rcases hown.2 with ⟨h1, h2⟩ | ⟨g, cap, cur, h1, h2, _⟩
  · subst h1
    rcases hat with h | h <;> simp [Value.ownBlock] at h
  · subst h1
    exact ⟨g, cap, rfl, hown, h2, hf⟩

theorem words_one (ws : List Nat) : ∀ u ∈ words ws, u.oneCell' = true := by
  intro u hu
  simp only [words, List.mem_map] at hu
  obtain ⟨x, _, rfl⟩ := hu
  rfl
theorem copy_nil (w : World) :
    Calls Try.prog 21 #[.pointer none] w fun e w' => e = .returned (.pointer none) ∧ w = w' := by
  go_enter Try.func21, Try.ntmps21
  go_wp2
  go_ret
  exact ⟨rfl, rfl⟩
def CopyPost (w : World) (bs : List Bool) (e : Ending) (w' : World) : Prop := ∃ g b, e = .returned (.pointer (some ⟨g, 0, none⟩)) ∧ Map w' g b bs ∧ w.heap.size ≤ g ∧ w.heap.size ≤ b ∧ Fr No w w'
set_option maxHeartbeats 400000 in
theorem copy_at (g b : Nat) (bs : List Bool) (w : World) (h : Map w g b bs) :
    Calls Try.prog 21 #[.pointer (some ⟨g, 0, none⟩)] w (CopyPost w bs) := by
  obtain ⟨cap, ws, ha⟩ := h
  have c0 := ha.c0
  have c1 := ha.c1
  obtain ⟨hl, hl2⟩ := ha.len
  have Ha := Lib.hid ha
  clear ha hl
  go_enter Try.func21, Try.ntmps21
  go_wp2
  go_region_held3 (fun w' => w'.cell? ⟨g, 0, none⟩ = some (.int .i64 (bs.length : Int)) ∧ w'.cell? ⟨g, 1, none⟩ = some (.slice (some ⟨b, 0, none⟩) ws.length cap))
    (first | exact ⟨c0, c1⟩ | exact ⟨(Ha.out.drew.fr hf (fun x => x) (fun x => x)).c0, (Ha.out.drew.fr hf (fun x => x) (fun x => x)).c1⟩ | exact ⟨(Ha.out.drew.fr (hf.alloc _) (fun x => x) (fun x => x)).c0, (Ha.out.drew.fr (hf.alloc _) (fun x => x) (fun x => x)).c1⟩)
    (first | (go_at_call 30; ((with_reducible refine (clone_any _ _ _ (words ws) _ (words_len ws) (Rc.of_own Ha.out.drew.own) (words_one ws) (by omega)).mono ?_); rintro e w' ⟨g', cap', rfl, hown, hg', hf⟩)))
  go_wp2
  go_ret
  have hlt : g' < w'.heap.size := (hown.lt g' rfl).2
  have hg2 : w.heap.size ≤ g' := hg'
  have hsz : w.heap.size ≤ w'.heap.size := hf.size
  have hf2 : Fr No w w' := ((Fr.refl No w).drew).tr hf
  exact ⟨w'.heap.size, g', rfl, ⟨cap', ws, Ob.new _ _ _, own_base (hown.alloc _) (Nat.zero_le _), by omega, Ha.out.rel, Ha.out.most, Ha.out.least⟩, hsz, hg2, hf2.alloc _⟩
end Go.Proofs.Ythnahdoagibckaa.Cl05
