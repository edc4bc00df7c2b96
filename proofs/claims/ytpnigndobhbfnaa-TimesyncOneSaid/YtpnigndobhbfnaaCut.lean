/- A list of corrections, cut in two. -/
import Derived.Test.YtpnigndobhbfnaaRr
import Derived.Test.YtpnigndobhbfnaaRrno
namespace Go.Proofs.Ytpnigndobhbfnaa
open Go.RowKit
theorem Lt_drop : ∀ (l : List Stp) (i : Nat), Lt (l.drop i) = (Lt l).drop (i * 3)
  | l, 0 => by simp
  | [], i + 1 => by simp [Lt]
  | x :: l, i + 1 => by
    have h : Lt (x :: l) = x.cells ++ Lt l := rfl
    rw [List.drop_succ_cons, Lt_drop l i, h, show (i + 1) * 3 = 3 + i * 3 by omega, ← List.drop_drop]
    rfl
theorem Lt_take : ∀ (l : List Stp) (i : Nat), Lt (l.take i) = (Lt l).take (i * 3)
  | l, 0 => by simp [Lt]
  | [], i + 1 => by simp [Lt]
  | x :: l, i + 1 => by
    have h : Lt (x :: l) = x.cells ++ Lt l := rfl
    have h2 : Lt (x :: l.take i) = x.cells ++ Lt (l.take i) := rfl
    rw [List.take_succ_cons, h2, Lt_take l i, h, show (i + 1) * 3 = x.cells.length + i * 3 by rw [Stp.cells_len]; omega, List.take_length_add_append]
theorem sz_take {w : World} {a : Option Addr} {k c kk : Nat} {xs : List Stp} (h : Sz w (.slice a k c) k (Lt xs)) (hx : xs.length = k) (hk : kk ≤ k) : Sz w (.slice a kk c) kk (Lt (xs.take kk)) := by
  by_cases h0 : kk = 0
  · subst h0
    exact Or.inl ⟨a, c, rfl, rfl, by simp [Lt]⟩
  · obtain ⟨b, off, cap, e, lb, hc⟩ := h.cells (by omega)
    injection e with e _ e2
    subst e; subst e2
    refine Or.inr ⟨b, off, c, rfl, lb, fun j u hj => ?_⟩
    rw [Lt_take] at hj
    have hl : j < kk * 3 := by
      have := (List.getElem?_eq_some_iff.1 hj).1
      rw [List.length_take] at this
      omega
    rw [List.getElem?_take_of_lt hl] at hj
    exact hc j u hj
theorem sz_drop {w : World} {ad : Addr} {k c c' kk : Nat} {xs : List Stp} (h : Sz w (.slice (some ad) k c) k (Lt xs)) (hx : xs.length = k) (hk : kk ≤ k) : Sz w (.slice (some (ad.add (kk * 3))) (k - kk) c') (k - kk) (Lt (xs.drop kk)) := by
  by_cases h0 : k - kk = 0
  · rw [h0]
    exact Or.inl ⟨_, c', rfl, rfl, by rw [List.drop_eq_nil_of_le (by omega)]; rfl⟩
  · obtain ⟨b, off, cap, e, lb, hc⟩ := h.cells (by omega)
    injection e with e _ e2
    injection e with e
    subst e; subst e2
    refine Or.inr ⟨b, off + kk * 3, c', by rw [Addr.add_lit], lb, fun j u hj => ?_⟩
    rw [Lt_drop, List.getElem?_drop] at hj
    have := hc _ u hj
    rwa [Nat.add_assoc]
theorem sz_end {w : World} {a : Option Addr} {c n : Nat} {xs : List Stp} (hx : xs.length ≤ n) : Sz w (.slice a 0 c) 0 (Lt (xs.drop n)) :=
  Or.inl ⟨a, c, rfl, rfl, by rw [List.drop_eq_nil_of_le hx]; rfl⟩
end Go.Proofs.Ytpnigndobhbfnaa
