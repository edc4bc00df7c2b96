/- Where a loop over corrections stands; what a Run leaves. -/
import Derived.Test.YtpnigndobhbfnaaCf
namespace Go.Proofs.Ytpnigndobhbfnaa
open Go.RowKit
/-- Where a loop over corrections stands. -/
structure RR (zs : List Int) (l : List Sy) (xs : List Stp) (n g : Nat) (w wr : World) (i : Nat) (li : List Sy) : Prop where
  run : runs zs li (xs.drop i) i = runs zs l xs 0
  val : allV li
  len : li.length = n
  box : Bx wr g (Lv li)
  gr : Gr w wr
theorem RR.start {zs : List Int} {l : List Sy} {xs : List Stp} {n g : Nat} {w wr : World} (hv : allV l) (hl : l.length = n) (K : Bx wr g (Lv l)) (G : Gr w wr) : RR zs l xs n g w wr 0 l :=
  ⟨rfl, hv, hl, K, G⟩
theorem RR.stop {zs : List Int} {l : List Sy} {xs : List Stp} {n g : Nat} {w wr : World} {i : Nat} {li : List Sy} (h : RR zs l xs n g w wr i li) (hi : i = xs.length) : runs zs l xs 0 = (li, -1, 0) := by
  have := h.run
  rw [hi, List.drop_length] at this
  exact this.symm
theorem drop_at {xs : List Stp} {i : Nat} (hi : i < xs.length) : xs.drop i = xs.getD i Stp0 :: xs.drop (i + 1) := by
  rw [List.getD_eq_getElem?_getD, List.getElem?_eq_getElem hi]
  exact List.drop_eq_getElem_cons hi
theorem RR.fail {zs : List Int} {l : List Sy} {xs : List Stp} {n g : Nat} {w wr : World} {i : Nat} {li : List Sy} (h : RR zs l xs n g w wr i li) (hi : i < xs.length) {x : Stp} (hx : xs.getD i Stp0 = x) {s : Sy} {er : Int} (hs : stepN li zs x = (s, er)) (he : er ≠ 0) : runs zs l xs 0 = ([], (i : Int), er) := by
  have := h.run
  rw [drop_at hi, hx, runs, hs, if_neg he] at this
  exact this.symm
theorem RR.next {zs : List Int} {l : List Sy} {xs : List Stp} {n g : Nat} {w wr : World} {i : Nat} {li : List Sy} (h : RR zs l xs n g w wr i li) (hi : i < xs.length) {x : Stp} (hx : xs.getD i Stp0 = x) {s : Sy} (hs : stepN li zs x = (s, 0)) {wz : World}
    (K : Bx wz g (Lv (li.set x.m.toNat s))) (G : Gr w wz) : RR zs l xs n g w wz (i + 1) (li.set x.m.toNat s) := by
  have := h.run
  rw [drop_at hi, hx, runs, hs, if_pos rfl] at this
  have hv := (stepN_valid (l := li) (zs := zs) (x := x) (by rw [hs])).1
  rw [hs] at hv
  exact ⟨this, allV_set h.val hv, by rw [List.length_set]; exact h.len, K, G⟩
theorem RR.inr {zs : List Int} {l : List Sy} {xs : List Stp} {n g : Nat} {w wr : World} {i : Nat} {li : List Sy} (h : RR zs l xs n g w wr i li) {m nn : Int} {a : Bool} {s : Sy} (hs : stepN li zs ⟨m, nn, a⟩ = (s, 0)) : 1 ≤ m ∧ m < n := by
  have hv := (stepN_valid (l := li) (zs := zs) (x := ⟨m, nn, a⟩) (by rw [hs])).2
  rw [h.len] at hv
  exact hv
/-- What both Runs leave. -/
def RunPost (l : List Sy) (zs : List Int) (xs : List Stp) (w : World) (e : Ending) (w' : World) : Prop :=
  ∃ v', e = .returned (.tuple #[v', .int .i64 (runN l zs xs).2.1, .int .i64 (runN l zs xs).2.2]) ∧ (Ow w.heap.size w' v' (runN l zs xs).1.length (Lv (runN l zs xs).1) ∧ ((runN l zs xs).2.2 ≠ 0 → v' = .slice none 0 0)) ∧ Gr w w'
theorem RunPost.no {l : List Sy} {zs : List Int} {xs : List Stp} {w w' : World} (h : ¬ fits l zs) (G : Gr w w') : RunPost l zs xs w (.returned (.tuple #[.slice none 0 0, .int .i64 (-1), .int .i64 1])) w' := by
  unfold RunPost runN
  rw [if_neg h]
  exact ⟨_, rfl, ⟨Or.inl ⟨rfl, rfl, rfl⟩, fun _ => rfl⟩, G⟩
theorem RunPost.fail {l : List Sy} {zs : List Int} {xs : List Stp} {w w' : World} {i : Nat} {er : Int} (h : fits l zs) (hr : runs zs l xs 0 = ([], (i : Int), er)) (G : Gr w w') : RunPost l zs xs w (.returned (.tuple #[.slice none 0 0, .int .i64 (i : Int), .int .i64 er])) w' := by
  unfold RunPost runN
  rw [if_pos h, hr]
  exact ⟨_, rfl, ⟨Or.inl ⟨rfl, rfl, rfl⟩, fun _ => rfl⟩, G⟩
theorem RunPost.ok {l : List Sy} {zs : List Int} {xs : List Stp} {w w' : World} {li : List Sy} {g n cap : Nat} (h : fits l zs) (hr : runs zs l xs 0 = (li, -1, 0)) (hl : li.length = n) (hg : w.heap.size ≤ g) (K : Bx w' g (Lv li)) (G : Gr w w') :
    RunPost l zs xs w (.returned (.tuple #[.slice (some ⟨g, 0, none⟩) n cap, .int .i64 (-1), .int .i64 0])) w' := by
  unfold RunPost runN
  rw [if_pos h, hr]
  exact ⟨_, rfl, ⟨Or.inr ⟨g, cap, by rw [hl], hg, K⟩, fun h => absurd rfl h⟩, G⟩
theorem Lt_cells {w : World} {b off : Nat} {xs : List Stp} (hc : ∀ j u, (Lt xs)[j]? = some u → w.cell? ⟨b, off + j, none⟩ = some u) {i : Nat} (hi : i < xs.length) : ∀ j u, (xs.getD i Stp0).cells[j]? = some u → w.cell? ⟨b, off + (i * 3 + j), none⟩ = some u := fun j u hj => by
  have h3 : j < 3 := by have := (List.getElem?_eq_some_iff.1 hj).1; rwa [Stp.cells_len] at this
  exact hc _ _ (by rw [Lt_at xs i j hi h3]; exact hj)
theorem Lv_cells' {w : World} {b off : Nat} {l : List Sy} (hc : ∀ j u, (Lv l)[j]? = some u → w.cell? ⟨b, off + j, none⟩ = some u) {i : Nat} (hi : i < l.length) : ∀ j u, (l.getD i Sy0).cells[j]? = some u → w.cell? ⟨b, off + (i * 4 + j), none⟩ = some u := fun j u hj => by
  have h4 : j < 4 := by have := (List.getElem?_eq_some_iff.1 hj).1; rwa [Sy.cells_len] at this
  exact hc _ _ (by rw [Lv_at l i j hi h4]; exact hj)
theorem Bx.setSy {w : World} {g : Nat} {l : List Sy} (K : Bx w g (Lv l)) (i : Nat) (y : Sy) (hi : i < l.length) :
    Bx ((((w.setCell ⟨g, i * 4, none⟩ (.int .i64 y.o)).setCell ⟨g, i * 4 + 1, none⟩ (.int .i64 y.k)).setCell ⟨g, i * 4 + 2, none⟩ (.int .i64 y.s)).setCell ⟨g, i * 4 + 3, none⟩ (.int .i64 y.c)) g (Lv (l.set i y)) := by
  have hl := Lv_len l
  rw [← Lv_set l i y hi]
  exact (((K.set (i * 4) _ (by omega)).set (i * 4 + 1) _ (by rw [List.length_set]; omega)).set (i * 4 + 2) _ (by rw [List.length_set, List.length_set]; omega)).set (i * 4 + 3) _ (by rw [List.length_set, List.length_set, List.length_set]; omega)
theorem Gr.set4 {w w4 : World} (h : Gr w w4) {g : Nat} (hg : w.heap.size ≤ g) (i j k m : Nat) (a b c d : Value) :
    Gr w ((((w4.setCell ⟨g, i, none⟩ a).setCell ⟨g, j, none⟩ b).setCell ⟨g, k, none⟩ c).setCell ⟨g, m, none⟩ d) :=
  Gr.set (Gr.set (Gr.set (Gr.set h (p := ⟨g, i, none⟩) hg _) (p := ⟨g, j, none⟩) hg _) (p := ⟨g, k, none⟩) hg _) (p := ⟨g, m, none⟩) hg _
end Go.Proofs.Ytpnigndobhbfnaa
