/- What the reference's step returns. -/
import Derived.Test.YtpnigndobhbfnaaStp
namespace Go.Proofs.Ytpnigndobhbfnaa
open Go.RowKit
set_option maxRecDepth 20000 in
set_option maxHeartbeats 1000000 in
theorem step_lo (g n cap b off cp : Nat) (m nn : Int) (a : Bool) (w : World) (h : m < 1) :
    Calls Try.prog 102 #[.slice (some ⟨g, 0, none⟩) n cap, .slice (some ⟨b, off, none⟩) n cp, .agg #[.int .i64 m, .int .i64 nn, .bool a]] w fun e w' => e = .returned (.tuple #[.agg #[.int .i64 0, .int .i64 0, .int .i64 0, .int .i64 0], .int .i64 7]) ∧ Gr w w' := by
  have e1 : decide (m < 1) = true := decide_eq_true h
  go_enter Try.func102, Try.ntmps102
  go_wp2_with fail
  refine bodyPost_ret (v := .tuple #[.agg #[.int .i64 0, .int .i64 0, .int .i64 0, .int .i64 0], .int .i64 7]) (by simp [results, Try.results102, go_sem]) rfl ⟨rfl, ?_⟩
  exact Gr.alloc (Gr.alloc (Gr.refl w) _) _
set_option maxRecDepth 20000 in
set_option maxHeartbeats 1000000 in
theorem step_hi (g n cap b off cp : Nat) (m nn : Int) (a : Bool) (w : World) (h : 1 ≤ m) (h1 : (n : Int) ≤ m) :
    Calls Try.prog 102 #[.slice (some ⟨g, 0, none⟩) n cap, .slice (some ⟨b, off, none⟩) n cp, .agg #[.int .i64 m, .int .i64 nn, .bool a]] w fun e w' => e = .returned (.tuple #[.agg #[.int .i64 0, .int .i64 0, .int .i64 0, .int .i64 0], .int .i64 7]) ∧ Gr w w' := by
  have e1 : decide (m < 1) = false := decide_eq_false (by omega)
  have e2 : decide ((n : Int) ≤ m) = true := decide_eq_true h1
  go_enter Try.func102, Try.ntmps102
  go_wp2_with fail
  refine bodyPost_ret (v := .tuple #[.agg #[.int .i64 0, .int .i64 0, .int .i64 0, .int .i64 0], .int .i64 7]) (by simp [results, Try.results102, go_sem]) rfl ⟨rfl, ?_⟩
  exact Gr.alloc (Gr.alloc (Gr.refl w) _) _
/-- A node's parent. -/
theorem par_node {zs : List Int} (hd : (dep zs).isSome) {i : Nat} (h0 : 1 ≤ i) (h1 : i < zs.length) : ∃ q : Nat, zs.getD i 0 = (q : Int) ∧ q < zs.length := by
  obtain ⟨ds, hds⟩ := Option.isSome_iff_exists.1 hd
  obtain ⟨_, _, _, h⟩ := dep_node hds
  obtain ⟨q, e, l, _⟩ := h i (by omega) h1
  exact ⟨q, e, l⟩
theorem Lv_cells {w : World} {g : Nat} {l : List Sy} (K : Bx w g (Lv l)) {i : Nat} (hi : i < l.length) : ∀ j u, (l.getD i Sy0).cells[j]? = some u → w.cell? ⟨g, i * 4 + j, none⟩ = some u := fun j u hj => by
  have h4 : j < 4 := by have := (List.getElem?_eq_some_iff.1 hj).1; rwa [Sy.cells_len] at this
  exact K.c _ _ (by rw [Lv_at l i j hi h4]; exact hj)
/-- The reference's step. -/
theorem rstep_any (g cap b off cp n : Nat) (l : List Sy) (zs : List Int) (m nn : Int) (a : Bool) (w : World) (hl : l.length = n) (hz : zs.length = n) (hd : (dep zs).isSome) (K : Bx w g (Lv l)) (lb : b < w.heap.size)
    (hc : ∀ j, j < n → w.cell? ⟨b, off + j, none⟩ = some (.int .i64 (zs.getD j 0))) :
    Calls Try.prog 102 #[.slice (some ⟨g, 0, none⟩) n cap, .slice (some ⟨b, off, none⟩) n cp, .agg #[.int .i64 m, .int .i64 nn, .bool a]] w fun e w' => e = .returned (.tuple #[.agg #[.int .i64 (stepN l zs ⟨m, nn, a⟩).1.o, .int .i64 (stepN l zs ⟨m, nn, a⟩).1.k, .int .i64 (stepN l zs ⟨m, nn, a⟩).1.s, .int .i64 (stepN l zs ⟨m, nn, a⟩).1.c], .int .i64 (stepN l zs ⟨m, nn, a⟩).2]) ∧ Gr w w' := by
  by_cases hm : 1 ≤ m ∧ m < l.length
  · obtain ⟨i, rfl⟩ := Int.eq_ofNat_of_zero_le (show 0 ≤ m by omega)
    rw [show stepN l zs ⟨(i : Int), nn, a⟩ = pairN (l.getD i Sy0) (parOf l zs i) nn a by unfold stepN; rw [if_pos hm]; simp only [Int.toNat_natCast]]
    obtain ⟨q, hq, hql⟩ := par_node hd (show 1 ≤ i by omega) (show i < zs.length by omega)
    have hp : w.cell? ⟨b, off + i, none⟩ = some (.int .i64 (q : Int)) := by rw [← hq]; exact hc i (by omega)
    have hx := Lv_cells K (show i < l.length by omega)
    have hy := Lv_cells K (show q < l.length by omega)
    rw [show parOf l zs i = l.getD q Sy0 by unfold parOf; rw [hq, Int.toNat_natCast]]
    generalize l.getD i Sy0 = x at hx
    generalize l.getD q Sy0 = y at hy
    have lg := K.lt
    unfold pairN
    cases a with
    | true =>
      rw [if_pos rfl]
      by_cases h : inE x.o x.k nn 2120 = 0
      · rw [if_pos h]; exact step_to g n cap b off cp i q x y nn w lg lb (by omega) (by omega) (by omega) hx hy hp _ _ _ h rfl rfl rfl
      · rw [if_neg h]; exact step_te g n cap b off cp i q x y nn w lg lb (by omega) (by omega) (by omega) hx hy hp _ _ rfl rfl h
    | false =>
      rw [if_neg (by simp)]
      by_cases h : inE y.o y.k nn 2120 = 0
      · rw [if_pos h]; exact step_fo g n cap b off cp i q x y nn w lg lb (by omega) (by omega) (by omega) hx hy hp _ h rfl
      · rw [if_neg h]; exact step_fe g n cap b off cp i q x y nn w lg lb (by omega) (by omega) (by omega) hx hy hp _ _ rfl rfl h
  · rw [show stepN l zs ⟨m, nn, a⟩ = (Sy0, 7) from if_neg hm]
    by_cases h : m < 1
    · exact step_lo g n cap b off cp m nn a w h
    · exact step_hi g n cap b off cp m nn a w (by omega) (by omega)
end Go.Proofs.Ytpnigndobhbfnaa
