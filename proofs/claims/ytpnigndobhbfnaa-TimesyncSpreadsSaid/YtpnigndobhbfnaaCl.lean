/- slices.Clone and Depths at slices of whatever address. -/
import Derived.Test.YtpnigndobhbfnaaCf
namespace Go.Proofs.Ytpnigndobhbfnaa
open Go.RowKit
theorem Ow.nil0 {base : Nat} {w : World} : Ow base w (.slice none 0 0) 0 [] := Or.inl ⟨rfl, rfl, rfl⟩
theorem Cl43 (v : Value) (n : Nat) (zs : List Int) (w : World) (h : Sz w v n (ivs zs)) (hl : zs.length = n) (hn : n ≤ 1000) :
    Calls Try.prog 43 #[v] w fun e w' => ∃ v', e = .returned v' ∧ Ow w.heap.size w' v' n (ivs zs) ∧ Gr w w' := by
  rcases h with ⟨a, c, rfl, rfl, hz⟩ | h
  · rw [hz]
    cases a with
    | some a => exact Clone43_0 a c w
    | none =>
      have := AnyE.slices_Clone_nil Try.clone43 0 c w
      rw [cl43_f] at this
      exact this.mono fun e w' ⟨he, hw⟩ => ⟨_, he, Ow.nil0, hw ▸ Gr.refl _⟩
  · exact Clone43 v n (ivs zs) w (Or.inr h) (by simp [ivs, hl]) hn (fun u hu => by obtain ⟨i, _, rfl⟩ := List.mem_map.1 hu; rfl)
theorem Cl46 (v : Value) (n : Nat) (l : List Sy) (w : World) (h : Sz w v n (Lv l)) (hl : l.length = n) (hn : n ≤ 1000) :
    Calls Try.prog 46 #[v] w fun e w' => ∃ v', e = .returned v' ∧ Ow w.heap.size w' v' n (Lv l) ∧ Gr w w' := by
  rcases h with ⟨a, c, rfl, rfl, hz⟩ | h
  · rw [hz]
    cases a with
    | some a => exact Clone46_0 a c w
    | none =>
      have := AnyE.slices_Clone_nil Try.clone46 0 c w
      rw [cl46_f] at this
      exact this.mono fun e w' ⟨he, hw⟩ => ⟨_, he, Ow.nil0, hw ▸ Gr.refl _⟩
  · exact Clone46 v n (Lv l) w (Or.inr h) (by rw [Lv_len, hl]) hn Lv_one
theorem Cl47 (v : Value) (n : Nat) (l : List Stp) (w : World) (h : Sz w v n (Lt l)) (hl : l.length = n) (hn : n ≤ 1000) :
    Calls Try.prog 47 #[v] w fun e w' => ∃ v', e = .returned v' ∧ Ow w.heap.size w' v' n (Lt l) ∧ Gr w w' := by
  rcases h with ⟨a, c, rfl, rfl, hz⟩ | h
  · rw [hz]
    cases a with
    | some a => exact Clone47_0 a c w
    | none =>
      have := AnyE.slices_Clone_nil Try.clone47 0 c w
      rw [cl47_f] at this
      exact this.mono fun e w' ⟨he, hw⟩ => ⟨_, he, Ow.nil0, hw ▸ Gr.refl _⟩
  · exact Clone47 v n (Lt l) w (Or.inr h) (by rw [Lt_len, hl]) hn Lt_one
theorem Depths_sz (zs : List Int) (v : Value) (w : World) (h : Sz w v zs.length (ivs zs)) :
    Calls Try.prog 42 #[v] w fun e w' => ∃ v', e = .returned (.tuple #[v', .int .i64 (dpE zs)]) ∧ (Ow w.heap.size w' v' ((dep zs).getD []).length (nvs ((dep zs).getD [])) ∧ (dep zs = none → v' = .slice none 0 0)) ∧ Gr w w' := by
  rcases h with ⟨a, c, rfl, h0, hz⟩ | h
  · have hn : ¬ depOk zs := fun h => by have := h.1; omega
    have e := dep_no hn
    unfold dpE
    rw [e]
    cases a with
    | some a => exact (Depths_zero a c w).mono fun _ _ h => ⟨_, h.1, ⟨Or.inl ⟨rfl, rfl, rfl⟩, fun _ => rfl⟩, h.2⟩
    | none => exact (Depths_nil c w).mono fun _ _ h => ⟨_, h.1, ⟨Or.inl ⟨rfl, rfl, rfl⟩, fun _ => rfl⟩, h.2⟩
  · exact Depths_any zs v w (Or.inr h)
end Go.Proofs.Ytpnigndobhbfnaa
