import Derived.Test.YtpnigndobhbfnaaDpt
namespace Go.Proofs.Ytpnigndobhbfnaa
open Go.RowKit
theorem nodup_lt : ∀ (n : Nat) (l : List Nat), l.Nodup → (∀ x ∈ l, x < n) → l.length ≤ n
  | 0, l, _, h => by
    cases l with
    | nil => simp
    | cons x l => exact absurd (h x (by simp)) (by omega)
  | n + 1, l, hn, h => by
    have h1 : (l.erase n).length ≤ n := nodup_lt n (l.erase n) (hn.erase n) (fun x hx => by
      have h2 := h x (List.mem_of_mem_erase hx)
      have h3 : x ≠ n := fun e => by subst e; exact (hn.not_mem_erase hx)
      omega)
    by_cases hm : n ∈ l
    · rw [List.length_erase_of_mem hm] at h1; omega
    · rw [List.erase_of_not_mem hm] at h1; omega
theorem hit_uniq {zs : List Int} {f g a d e : Nat} (h : hit zs f a = some d) (h1 : hit zs g a = some e) : d = e := by
  rcases Nat.le_total f g with l | l
  · rw [hit_le l h] at h1; injection h1
  · rw [hit_le l h1] at h; injection h with h; exact h.symm
/-- The nodes on the way to 0, each with its own depth. -/
theorem hit_path {zs : List Int} : ∀ {f a d : Nat}, hit zs f a = some d → a < zs.length → ∃ l : List Nat, l.length = d + 1 ∧ l.Nodup ∧ ∀ x ∈ l, x < zs.length ∧ ∃ g e, hit zs g x = some e ∧ e ≤ d
  | 0, a, d, h, _ => by cases h
  | f + 1, a, d, h, ha => by
    have h0 := h
    rw [hit] at h
    split at h
    · injection h with h
      subst h
      exact ⟨[a], rfl, by simp, fun x hx => by
        obtain rfl : x = a := by simpa using hx
        exact ⟨ha, _, _, h0, Nat.le_refl _⟩⟩
    · split at h
      · rename_i hp
        cases h1 : hit zs f (zs.getD a 0).toNat with
        | none => rw [h1] at h; cases h
        | some e =>
          rw [h1] at h
          simp only [Option.map, Option.some.injEq] at h
          obtain ⟨l, hl, hn, hx⟩ := hit_path h1 (by omega)
          refine ⟨a :: l, by simp; omega, ?_, ?_⟩
          · refine List.nodup_cons.2 ⟨fun hm => ?_, hn⟩
            obtain ⟨_, g, e', h2, h3⟩ := hx a hm
            have := hit_uniq h0 h2
            omega
          · intro x hm
            rcases List.mem_cons.1 hm with rfl | hm
            · exact ⟨ha, _, _, h0, Nat.le_refl _⟩
            · obtain ⟨hl', g, e', h2, h3⟩ := hx x hm
              exact ⟨hl', g, e', h2, by omega⟩
      · cases h
/-- A way to 0 has fewer steps than there are nodes. -/
theorem hit_small {zs : List Int} {f a d : Nat} (h : hit zs f a = some d) (ha : a < zs.length) : d < zs.length := by
  obtain ⟨l, hl, hn, hx⟩ := hit_path h ha
  have := nodup_lt zs.length l hn (fun x hm => (hx x hm).1)
  omega
theorem hit_cut {zs : List Int} : ∀ {f a d : Nat}, hit zs f a = some d → hit zs (d + 1) a = some d
  | 0, a, d, h => by cases h
  | f + 1, a, d, h => by
    rw [hit] at h
    split at h
    · rename_i ha
      injection h with h
      subst ha; subst h
      exact hit_zero zs 0
    · rename_i ha
      split at h
      · rename_i hp
        cases h1 : hit zs f (zs.getD a 0).toNat with
        | none => rw [h1] at h; cases h
        | some e =>
          rw [h1] at h
          simp only [Option.map, Option.some.injEq] at h
          subst h
          rw [hit, if_neg ha, if_pos hp, hit_cut h1]; rfl
      · cases h
theorem hit_enough {zs : List Int} {f a : Nat} (hf : zs.length ≤ f) (ha : a < zs.length) : hit zs f a = hit zs zs.length a := by
  cases h : hit zs f a with
  | some d => exact (hit_le (hit_small h ha) (hit_cut h)).symm
  | none =>
    cases h1 : hit zs zs.length a with
    | none => rfl
    | some d => rw [hit_le hf h1] at h; cases h
end Go.Proofs.Ytpnigndobhbfnaa
