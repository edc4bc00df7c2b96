/- A tree and a list of corrections, opened. -/
import Derived.Deep.Slices
import Derived.Deep.Fields
import Derived.Test.YtpnigndobhbfnaaFrame
import Derived.Test.YtpnigndobhbfnaaCl
namespace Go.Proofs.Ytpnigndobhbfnaa
open Go.RowKit
open Go.ChangeShapes Go.WideShapes Go.ChangeAt Go.Joins Go.Deep
/-- A list out of what is there at each index. -/
theorem listOf {α : Type} (d : α) {P : Nat → α → Prop} : ∀ {n : Nat}, (∀ i, i < n → ∃ y, P i y) → ∃ l : List α, l.length = n ∧ ∀ i, i < n → P i (l.getD i d)
  | 0, _ => ⟨[], rfl, fun i h => absurd h (Nat.not_lt_zero _)⟩
  | n + 1, h => by
    obtain ⟨l, hl, hp⟩ := listOf d (n := n) (fun i hi => h i (by omega))
    obtain ⟨y, hy⟩ := h n (by omega)
    refine ⟨l ++ [y], by simp [hl], fun i hi => ?_⟩
    by_cases e : i < n
    · have := hp i e
      rw [List.getD_eq_getElem?_getD, List.getElem?_append_left (by omega), ← List.getD_eq_getElem?_getD]
      exact this
    · obtain rfl : i = n := by omega
      rw [List.getD_eq_getElem?_getD, List.getElem?_append_right (by omega), hl]
      simpa using hy
theorem cell_lt2 {w : World} {a : Addr} {v : Value} (h : w.cell? a = some v) : a.block < w.heap.size := by
  unfold World.cell? at h
  split at h
  · rename_i e; exact (Array.getElem?_eq_some_iff.1 e).1
  · cases h
theorem spot_none2 {w : World} {a : Addr} {v : Value} (h : w.cell? a = some v) : a.spot = none := by
  unfold World.cell? at h
  split at h
  · split at h
    · cases h
    · rename_i e; simpa using e
  · cases h
theorem sz_of {w : World} {a : Addr} {n cap k : Nat} {cs : List Value} (hk : 0 < k) (hl : cs.length = n * k) (h : ∀ j, j < cs.length → w.cell? (a.add j) = cs[j]?) : Sz w (.slice (some a) n cap) n cs := by
  by_cases h0 : n = 0
  · subst h0
    exact Or.inl ⟨some a, cap, rfl, rfl, List.length_eq_zero_iff.1 (by rw [hl, Nat.zero_mul])⟩
  · have hp : 0 < cs.length := by rw [hl]; exact Nat.mul_pos (by omega) hk
    have c0 := h 0 hp
    rw [List.getElem?_eq_getElem hp] at c0
    have lb := cell_lt2 c0
    have hs := spot_none2 c0
    obtain ⟨b, off, sp⟩ := a
    obtain rfl : sp = none := hs
    refine Or.inr ⟨b, off, cap, rfl, lb, fun j u hj => ?_⟩
    have hjl : j < cs.length := (List.getElem?_eq_some_iff.1 hj).1
    have := h j hjl
    rw [Addr.add_lit] at this
    rw [this, hj]
section
variable {H : Type} {enc : TypeId × Value → H} {w : World} {base : Nat} {spare : Nat → Bool} {held : Bool}
set_option maxRecDepth 100000 in
theorem open_ints_sz {fuel : Nat} {c : Value} {x : DataW H × List MemPlace} (h : DataW.trod enc Try.prog w base (fun _ => true) held fuel 34 [c] = some x) : ∃ zs, Sz w c zs.length (ivs zs) := by
  rcases open_ints Try.underlying34 Try.underlying3 (by kernel_rfl) h with ⟨hcs, _⟩ | ⟨a, len', cap', zs, hcs, _, hl, hm, hz, _, hcell, _⟩
  · simp at hcs
    subst hcs
    exact ⟨[], Or.inl ⟨none, 0, rfl, rfl, rfl⟩⟩
  · simp at hcs
    subst hcs
    have hz' : zs.length = cap' := by simpa using hz
    have hlen : (zs.take len').length = len' := by rw [List.length_take]; omega
    refine ⟨zs.take len', ?_⟩
    rw [hlen]
    refine sz_of (k := 1) (by decide) (by simp [ivs]; omega) (fun j hj => ?_)
    have hj' : j < len' := by simp [ivs] at hj; omega
    rw [hcell j (by omega), ivs_at (show j < (zs.take len').length by omega)]
    rw [show (zs.take len').getD j 0 = zs.getD j 0 by rw [List.getD_eq_getElem?_getD, List.getD_eq_getElem?_getD, List.getElem?_take_of_lt hj']]
set_option maxRecDepth 100000 in
theorem open_states_sz {fuel : Nat} {c : Value} {x : DataW H × List MemPlace} (h : DataW.trod enc Try.prog w base (fun _ => true) held fuel 33 [c] = some x) : ∃ l, Sz w c l.length (Lv l) := by
  rcases open_slice Try.underlying33 h with ⟨h0, _⟩ | ⟨a, len, cap, m, q, D, Pl, hcs, hb, hl, hm, hmm, hx, hi⟩
  · simp at h0
    subst h0
    exact ⟨[], Or.inl ⟨none, 0, rfl, rfl, rfl⟩⟩
  · simp at hcs
    subst hcs
    obtain ⟨l, hll, hp⟩ := listOf Sy0 (n := len) (P := fun i y => ∀ j, j < 4 → w.cell? (a.add (i * 4 + j)) = y.cells[j]?) (fun i him => by
      obtain ⟨cs', hc, ht'⟩ := hi i (by rw [hmm]; simpa using Nat.lt_of_lt_of_le him hl)
      rw [Try.cells45] at hc
      obtain ⟨_, hcl, hat⟩ := World.cells?_some hc
      obtain ⟨c0, c1, c2, c3, rfl⟩ : ∃ c0 c1 c2 c3, cs' = [c0, c1, c2, c3] := by
        match cs', hcl with
        | [c0, c1, c2, c3], _ => exact ⟨c0, c1, c2, c3, rfl⟩
      obtain ⟨o, k, s, c, rfl, rfl, rfl, rfl, w0, w1, w2, w3⟩ := trod_synced ht'
      exact ⟨⟨o, k, s, c⟩, fun j hj => by rw [← Go.Deep.add_add]; exact hat j hj⟩)
    refine ⟨l, ?_⟩
    rw [hll]
    refine sz_of (k := 4) (by decide) (by rw [Lv_len, hll]) (fun j hj => ?_)
    rw [Lv_len, hll] at hj
    have e : j = (j / 4) * 4 + j % 4 := by omega
    have h1 : j / 4 < len := by omega
    have := hp (j / 4) h1 (j % 4) (by omega)
    rw [← Lv_at l (j / 4) (j % 4) (by omega) (by omega)] at this
    rwa [← e] at this
theorem Try.cells48 : Try.prog.cellsOf 48 = 3 := by kernel_rfl
theorem Try.cells4 : Try.prog.cellsOf 4 = 1 := by kernel_rfl
set_option maxRecDepth 100000 in
theorem trod_sync {fuel : Nat} {c0 c1 c2 : Value} {x : DataW H × List MemPlace} (h : DataW.trod enc Try.prog w base spare held fuel 48 [c0, c1, c2] = some x) :
    ∃ (a b : Int) (c : Bool), c0 = .int .i64 a ∧ c1 = .int .i64 b ∧ c2 = .bool c := by
  obtain ⟨xs, n, _, _, _, hl, hg⟩ := DataW.trod_struct Try.underlying48 h
  have hl3 : xs.length = 3 := hl
  have g0 : DataW.trod enc Try.prog w base spare held n 3 (List.take (Try.prog.cellsOf 3) (List.drop 0 [c0, c1, c2])) = xs[0]? := hg 0 _ rfl
  have g1 : DataW.trod enc Try.prog w base spare held n 3 (List.take (Try.prog.cellsOf 3) (List.drop 1 [c0, c1, c2])) = xs[1]? := hg 1 _ rfl
  have g2 : DataW.trod enc Try.prog w base spare held n 4 (List.take (Try.prog.cellsOf 4) (List.drop 2 [c0, c1, c2])) = xs[2]? := hg 2 _ rfl
  rw [Try.cells3] at g0 g1
  rw [Try.cells4] at g2
  simp only [List.drop, List.take] at g0 g1 g2
  rw [List.getElem?_eq_getElem (by omega)] at g0 g1 g2
  obtain ⟨a, e0, _, _⟩ := DataW.trod_int Try.underlying3 g0
  obtain ⟨b, e1, _, _⟩ := DataW.trod_int Try.underlying3 g1
  obtain ⟨c, e2, _⟩ := DataW.trod_bool Try.underlying4 g2
  simp at e0 e1 e2
  exact ⟨a, b, c, e0, e1, e2⟩
set_option maxRecDepth 100000 in
theorem open_syncs_sz {fuel : Nat} {c : Value} {x : DataW H × List MemPlace} (h : DataW.trod enc Try.prog w base (fun _ => true) held fuel 37 [c] = some x) : ∃ xs, Sz w c xs.length (Lt xs) := by
  rcases open_slice Try.underlying37 h with ⟨h0, _⟩ | ⟨a, len, cap, m, q, D, Pl, hcs, hb, hl, hm, hmm, hx, hi⟩
  · simp at h0
    subst h0
    exact ⟨[], Or.inl ⟨none, 0, rfl, rfl, rfl⟩⟩
  · simp at hcs
    subst hcs
    obtain ⟨l, hll, hp⟩ := listOf Stp0 (n := len) (P := fun i y => ∀ j, j < 3 → w.cell? (a.add (i * 3 + j)) = y.cells[j]?) (fun i him => by
      obtain ⟨cs', hc, ht'⟩ := hi i (by rw [hmm]; simpa using Nat.lt_of_lt_of_le him hl)
      rw [Try.cells48] at hc
      obtain ⟨_, hcl, hat⟩ := World.cells?_some hc
      obtain ⟨c0, c1, c2, rfl⟩ : ∃ c0 c1 c2, cs' = [c0, c1, c2] := by
        match cs', hcl with
        | [c0, c1, c2], _ => exact ⟨c0, c1, c2, rfl⟩
      obtain ⟨o, k, s, rfl, rfl, rfl⟩ := trod_sync ht'
      exact ⟨⟨o, k, s⟩, fun j hj => by rw [← Go.Deep.add_add]; exact hat j hj⟩)
    refine ⟨l, ?_⟩
    rw [hll]
    refine sz_of (k := 3) (by decide) (by rw [Lt_len, hll]) (fun j hj => ?_)
    rw [Lt_len, hll] at hj
    have e : j = (j / 3) * 3 + j % 3 := by omega
    have h1 : j / 3 < len := by omega
    have := hp (j / 3) h1 (j % 3) (by omega)
    rw [← Lt_at l (j / 3) (j % 3) (by omega) (by omega)] at this
    rwa [← e] at this
theorem Try.cells36 : Try.prog.cellsOf 36 = 2 := by kernel_rfl
set_option maxRecDepth 100000 in
theorem open_tree {r : Reach} {b0 : Nat} {v : Value} {d : DataW H} {p : List MemPlace} (hv : Value.okWide Try.prog w r b0 36 v) (h : DataW.Trod enc Try.prog w base (fun _ => true) held 36 v d p) :
    ∃ (v1 v0 : Value) (l : List Sy) (zs : List Int), v = .agg #[v1, v0] ∧ Sz w v1 l.length (Lv l) ∧ Sz w v0 zs.length (ivs zs) := by
  obtain ⟨c0, c1, y0, y1, m, rfl, _, _, hy0, hy1⟩ := open_agg2 Try.underlying36 (by kernel_rfl) Try.cells36 hv h
  obtain ⟨l, hl⟩ := open_states_sz hy0
  obtain ⟨zs, hz⟩ := open_ints_sz hy1
  exact ⟨c0, c1, l, zs, rfl, hl, hz⟩
set_option maxRecDepth 100000 in
theorem open_syncs {r : Reach} {b0 : Nat} {v : Value} {d : DataW H} {p : List MemPlace} (hv : Value.okWide Try.prog w r b0 37 v) (h : DataW.Trod enc Try.prog w base (fun _ => true) held 37 v d p) : ∃ xs, Sz w v xs.length (Lt xs) := by
  obtain ⟨fuel, hf⟩ := h
  obtain ⟨a0, len, cap, rfl⟩ := okWide_slice Try.underlying37 hv
  exact open_syncs_sz hf
end
end Go.Proofs.Ytpnigndobhbfnaa
