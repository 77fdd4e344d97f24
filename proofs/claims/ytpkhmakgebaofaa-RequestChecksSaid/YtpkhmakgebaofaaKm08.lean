/- Layer 8, further: Meet of any boxes. -/
import Derived.Test.YtpkhmakgebaofaaKj08
namespace Go.Proofs.Ytpkhmakgebaofaa.Km08
open Go.RowKit Go.Proofs.Ytpkhmakgebaofaa.Pk08 Go.Proofs.Ytpkhmakgebaofaa.Base Go.Proofs.Ytpkhmakgebaofaa.App Go.Proofs.Ytpkhmakgebaofaa.Str Go.Proofs.Ytpkhmakgebaofaa.Ky Go.Proofs.Ytpkhmakgebaofaa.Kc08 Go.Proofs.Ytpkhmakgebaofaa.Kd08 Go.Proofs.Ytpkhmakgebaofaa.Ke08 Go.Proofs.Ytpkhmakgebaofaa.Ki08 Go.Proofs.Ytpkhmakgebaofaa.Kj08
set_option linter.unusedVariables false
set_option linter.unusedSimpArgs false
section
variable {w : World} {A B C D : Option Addr} {n m p q cn cm cp cq : Nat} {al ah bl bh : List Nat}
theorem meet_none (h : ¬ (m = n ∧ p = n ∧ q = n)) (hal : Kv w A n cn al) (hah : Kv w B m cm ah) (hbl : Kv w C p cp bl) (hbh : Kv w D q cq bh) : meetIs al ah bl bh = false := by
  unfold meetIs
  apply decide_eq_false
  rintro ⟨h1, h2, h3, _⟩
  rw [← hal.len] at h1 h2 h3
  rw [← hah.len] at h1
  rw [← hbl.len] at h2
  rw [← hbh.len] at h3
  exact h ⟨h1, h2, h3⟩
end
end Go.Proofs.Ytpkhmakgebaofaa.Km08
