/- A list of corrections opened, with its capacity. -/
import Derived.Test.YtpnigndobhbfnaaOt
import Derived.Test.YtpnigndobhbfnaaSprno
namespace Go.Proofs.Ytpnigndobhbfnaa
open Go.RowKit
open Go.ChangeShapes Go.WideShapes Go.ChangeAt Go.Joins Go.Deep
section
variable {H : Type} {enc : TypeId × Value → H} {w : World} {base : Nat} {spare : Nat → Bool} {held : Bool}
set_option maxRecDepth 100000 in
theorem open_syncs_c {r : Reach} {b0 : Nat} {v : Value} {d : DataW H} {p : List MemPlace} (hv : Value.okWide Try.prog w r b0 37 v) (h : DataW.Trod enc Try.prog w base (fun _ => true) held 37 v d p) : ∃ xs, Sz w v xs.length (Lt xs) ∧ Roomy v := by
  have h' := h
  obtain ⟨fuel, hf⟩ := h
  obtain ⟨xs, hx⟩ := open_syncs hv h'
  refine ⟨xs, hx, ?_⟩
  intro a n c e
  subst e
  rcases open_slice Try.underlying37 hf with ⟨h0, _⟩ | ⟨a', len, cap, m, q, D, Pl, hcs, hb, hl, _⟩
  · simp [Value.cells] at h0
    omega
  · simp [Value.cells] at hcs
    obtain ⟨_, rfl, rfl⟩ := hcs
    exact hl
end
end Go.Proofs.Ytpnigndobhbfnaa
