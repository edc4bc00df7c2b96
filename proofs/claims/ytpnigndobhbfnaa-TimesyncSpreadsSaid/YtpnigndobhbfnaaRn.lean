/- What corrections along a tree come to: plain functions on lists of states. -/
import Derived.Test.YtpnigndobhbfnaaTsC
import Derived.Test.YtpnigndobhbfnaaDpt
namespace Go.Proofs.Ytpnigndobhbfnaa
open Go.RowKit
/-- The cells of a state. -/
def Sy.cells (x : Sy) : List Value := [.int .i64 x.o, .int .i64 x.k, .int .i64 x.s, .int .i64 x.c]
instance : Inhabited Sy := ⟨Sy0⟩
theorem Sy.cells_len (x : Sy) : x.cells.length = 4 := rfl
/-- The cells of a list of states. -/
def Lv (l : List Sy) : List Value := l.flatMap Sy.cells
theorem Lv_len : ∀ (l : List Sy), (Lv l).length = l.length * 4
  | [] => rfl
  | x :: l => by
    have h : Lv (x :: l) = x.cells ++ Lv l := rfl
    rw [h, List.length_append, Lv_len l, Sy.cells_len, List.length_cons]; omega
theorem Lv_append (l m : List Sy) : Lv (l ++ m) = Lv l ++ Lv m := List.flatMap_append
theorem Lv_at : ∀ (l : List Sy) (i j : Nat), i < l.length → j < 4 → (Lv l)[i * 4 + j]? = (l.getD i Sy0).cells[j]?
  | [], i, j, h, _ => by simp at h
  | x :: l, 0, j, _, hj => by
    have h : Lv (x :: l) = x.cells ++ Lv l := rfl
    rw [h, Nat.zero_mul, Nat.zero_add, List.getElem?_append_left (by rw [Sy.cells_len]; exact hj)]; rfl
  | x :: l, i + 1, j, hi, hj => by
    have h : Lv (x :: l) = x.cells ++ Lv l := rfl
    rw [h, List.getElem?_append_right (by rw [Sy.cells_len]; omega), Sy.cells_len, show (i + 1) * 4 + j - 4 = i * 4 + j by omega, Lv_at l i j (by simpa using hi) hj]
    rfl
theorem Lv_one {l : List Sy} : ∀ u ∈ Lv l, u.oneCell' = true := by
  intro u hu
  obtain ⟨x, _, hx⟩ := List.mem_flatMap.1 hu
  simp only [Sy.cells, List.mem_cons, List.not_mem_nil, or_false] at hx
  rcases hx with rfl | rfl | rfl | rfl <;> rfl
theorem Lv_set : ∀ (l : List Sy) (i : Nat) (y : Sy), i < l.length →
    ((((Lv l).set (i * 4) (.int .i64 y.o)).set (i * 4 + 1) (.int .i64 y.k)).set (i * 4 + 2) (.int .i64 y.s)).set (i * 4 + 3) (.int .i64 y.c) = Lv (l.set i y)
  | [], i, y, h => by simp at h
  | x :: l, 0, y, _ => rfl
  | x :: l, i + 1, y, h => by
    have ih := Lv_set l i y (by simpa using h)
    have e : Lv (x :: l) = x.cells ++ Lv l := rfl
    have e2 : Lv ((x :: l).set (i + 1) y) = x.cells ++ Lv (l.set i y) := rfl
    rw [e, e2, ← ih, show (i + 1) * 4 = 4 + i * 4 by omega]
    simp only [Nat.add_assoc]
    rw [List.set_append_right _ _ (by rw [Sy.cells_len]; omega), List.set_append_right _ _ (by rw [Sy.cells_len]; omega), List.set_append_right _ _ (by rw [Sy.cells_len]; omega), List.set_append_right _ _ (by rw [Sy.cells_len]; omega), Sy.cells_len]
    simp only [Nat.add_sub_cancel_left]
/-- A correction: the node, the slot, whether it is acknowledged. -/
structure Stp where
  m : Int
  n : Int
  a : Bool
def Stp0 : Stp := ⟨0, 0, false⟩
def Stp.cells (x : Stp) : List Value := [.int .i64 x.m, .int .i64 x.n, .bool x.a]
instance : Inhabited Stp := ⟨Stp0⟩
theorem Stp.cells_len (x : Stp) : x.cells.length = 3 := rfl
def Lt (l : List Stp) : List Value := l.flatMap Stp.cells
theorem Lt_len : ∀ (l : List Stp), (Lt l).length = l.length * 3
  | [] => rfl
  | x :: l => by
    have h : Lt (x :: l) = x.cells ++ Lt l := rfl
    rw [h, List.length_append, Lt_len l, Stp.cells_len, List.length_cons]; omega
theorem Lt_at : ∀ (l : List Stp) (i j : Nat), i < l.length → j < 3 → (Lt l)[i * 3 + j]? = (l.getD i Stp0).cells[j]?
  | [], i, j, h, _ => by simp at h
  | x :: l, 0, j, _, hj => by
    have h : Lt (x :: l) = x.cells ++ Lt l := rfl
    rw [h, Nat.zero_mul, Nat.zero_add, List.getElem?_append_left (by rw [Stp.cells_len]; exact hj)]; rfl
  | x :: l, i + 1, j, hi, hj => by
    have h : Lt (x :: l) = x.cells ++ Lt l := rfl
    rw [h, List.getElem?_append_right (by rw [Stp.cells_len]; omega), Stp.cells_len, show (i + 1) * 3 + j - 3 = i * 3 + j by omega, Lt_at l i j (by simpa using hi) hj]
    rfl
theorem Lt_one {l : List Stp} : ∀ u ∈ Lt l, u.oneCell' = true := by
  intro u hu
  obtain ⟨x, _, hx⟩ := List.mem_flatMap.1 hu
  simp only [Stp.cells, List.mem_cons, List.not_mem_nil, or_false] at hx
  rcases hx with rfl | rfl | rfl <;> rfl
/-- What a correction of a node by its time parent comes to. -/
noncomputable def pairN (own par : Sy) (n : Int) (a : Bool) : Sy × Int :=
  if a = true then (if inE own.o own.k n 2120 = 0 then ac own n (meN par.o par.k n (inN own.o own.k n 2120)) else (Sy0, inE own.o own.k n 2120))
  else (if inE par.o par.k n 2120 = 0 then he own n (inN par.o par.k n 2120) else (Sy0, inE par.o par.k n 2120))
/-- The node and its parent. -/
def parOf (l : List Sy) (zs : List Int) (m : Nat) : Sy := l.getD (zs.getD m 0).toNat Sy0
noncomputable def stepN (l : List Sy) (zs : List Int) (x : Stp) : Sy × Int :=
  if 1 ≤ x.m ∧ x.m < l.length then pairN (l.getD x.m.toNat Sy0) (parOf l zs x.m.toNat) x.n x.a else (Sy0, 7)
/-- What several corrections come to: the states, the index of the one that fails, the error. -/
noncomputable def runs (zs : List Int) : List Sy → List Stp → Nat → List Sy × Int × Int
  | l, [], _ => (l, -1, 0)
  | l, x :: xs, i => if (stepN l zs x).2 = 0 then runs zs (l.set x.m.toNat (stepN l zs x).1) xs (i + 1) else ([], i, (stepN l zs x).2)
/-- A list of valid states. -/
def allV (l : List Sy) : Prop := ∀ x ∈ l, x.Vs
instance (l : List Sy) : Decidable (allV l) := inferInstanceAs (Decidable (∀ x ∈ l, x.Vs))
/-- The states and the parents fit. -/
def fits (l : List Sy) (zs : List Int) : Prop := (dep zs).isSome ∧ l.length = zs.length ∧ allV l
instance (l : List Sy) (zs : List Int) : Decidable (fits l zs) := inferInstanceAs (Decidable (_ ∧ _ ∧ _))
noncomputable def runN (l : List Sy) (zs : List Int) (xs : List Stp) : List Sy × Int × Int :=
  if fits l zs then runs zs l xs 0 else ([], -1, 1)
theorem co_valid {x : Sy} {n d : Int} (h : x.Vs) (hn : inSlot n) (e : (co x n d).2 = 0) : (co x n d).1.Vs := by
  have h' : Ytpnigndobhbfnaa.Vs x.o x.k x.s x.c := h
  unfold co at e ⊢
  split at e
  · simp at e
  split at e
  · simp at e
  split at e
  · simp at e
  split at e
  · rename_i h1 h2 h3 h4
    rw [if_neg h1, if_neg h2, if_neg h3, if_pos h4]
    have := h'.c0
    have := h'.c1
    have hs := hn.1
    exact ⟨h4, Or.inr hn, by show 0 ≤ x.c + 1; omega, by show x.c + 1 ≤ 4096; omega, by show x.c + 1 = 0 ↔ n = -1; omega⟩
  · simp at e
theorem ac_valid {x : Sy} {n d : Int} (e : (ac x n d).2 = 0) : (ac x n d).1.Vs := by
  unfold ac at e ⊢
  split at e
  · rename_i h
    rw [if_pos h]
    split at e
    · rename_i hn
      rw [if_pos hn]
      exact co_valid h hn e
    · simp at e
  · simp at e
theorem he_valid {x : Sy} {n t : Int} (e : (he x n t).2 = 0) : (he x n t).1.Vs := by
  unfold he at e ⊢
  split at e
  · rename_i h
    rw [if_pos h]
    split at e
    · rename_i hn
      rw [if_pos hn]
      exact co_valid h hn.1 e
    · simp at e
  · simp at e
theorem pairN_valid {own par : Sy} {n : Int} {a : Bool} (e : (pairN own par n a).2 = 0) : (pairN own par n a).1.Vs := by
  unfold pairN at e ⊢
  split at e
  · rename_i h
    rw [if_pos h]
    split at e
    · rename_i h1
      rw [if_pos h1]
      exact ac_valid e
    · rename_i h1; exact absurd e h1
  · rename_i h
    rw [if_neg h]
    split at e
    · rename_i h1
      rw [if_pos h1]
      exact he_valid e
    · rename_i h1; exact absurd e h1
theorem stepN_valid {l : List Sy} {zs : List Int} {x : Stp} (e : (stepN l zs x).2 = 0) : (stepN l zs x).1.Vs ∧ 1 ≤ x.m ∧ x.m < l.length := by
  unfold stepN at e ⊢
  split at e
  · rename_i h
    rw [if_pos h]
    exact ⟨pairN_valid e, h⟩
  · simp at e
theorem allV_get {l : List Sy} (h : allV l) {i : Nat} (hi : i < l.length) : (l.getD i Sy0).Vs := by
  rw [List.getD_eq_getElem?_getD, List.getElem?_eq_getElem hi]
  exact h _ (List.getElem_mem hi)
theorem allV_set {l : List Sy} (h : allV l) {i : Nat} {y : Sy} (hy : y.Vs) : allV (l.set i y) := fun x hx => by
  rcases List.mem_or_eq_of_mem_set hx with h1 | rfl
  · exact h x h1
  · exact hy
theorem runs_ok {zs : List Int} : ∀ {xs : List Stp} {l r : List Sy} {i : Nat} {k : Int}, allV l → runs zs l xs i = (r, k, 0) → allV r ∧ r.length = l.length ∧ k = -1
  | [], l, r, i, k, h, e => by
    injection e with e1 e2
    injection e2 with e2 _
    subst e1; subst e2; exact ⟨h, rfl, rfl⟩
  | x :: xs, l, r, i, k, h, e => by
    rw [runs] at e
    split at e
    · rename_i h1
      have := runs_ok (allV_set h (stepN_valid h1).1) e
      rw [List.length_set] at this
      exact this
    · rename_i h1
      injection e with _ e
      injection e with _ e
      exact absurd e h1
theorem runs_er {zs : List Int} : ∀ {xs : List Stp} {l r : List Sy} {i : Nat} {k e : Int}, runs zs l xs i = (r, k, e) → e ≠ 0 → r = [] ∧ (i : Int) ≤ k ∧ k < i + xs.length
  | [], l, r, i, k, e, h, he => by
    injection h with e1 e2
    injection e2 with e2 e3
    exact absurd e3.symm he
  | x :: xs, l, r, i, k, e, h, he => by
    rw [runs] at h
    split at h
    · have := runs_er h he
      simp only [List.length_cons]
      exact ⟨this.1, by omega, by omega⟩
    · injection h with e1 e2
      injection e2 with e2 e3
      subst e1; subst e2
      exact ⟨rfl, by omega, by rw [List.length_cons]; omega⟩
theorem runs_app {zs : List Int} : ∀ {xs ys : List Stp} {l r : List Sy} {i : Nat} {k : Int}, runs zs l (xs ++ ys) i = (r, k, 0) → ∃ m, runs zs l xs i = (m, -1, 0) ∧ runs zs m ys (i + xs.length) = (r, k, 0)
  | [], ys, l, r, i, k, e => ⟨l, rfl, e⟩
  | x :: xs, ys, l, r, i, k, e => by
    rw [List.cons_append, runs] at e
    split at e
    · rename_i h1
      obtain ⟨m, h2, h3⟩ := runs_app e
      refine ⟨m, ?_, ?_⟩
      · rw [runs, if_pos h1]; exact h2
      · rw [List.length_cons, show i + (xs.length + 1) = i + 1 + xs.length by omega]; exact h3
    · rename_i h1
      injection e with _ e
      injection e with _ e
      exact absurd e h1
theorem runs_at {zs : List Int} : ∀ {xs : List Stp} {l r : List Sy} {i j : Nat} {k : Int}, runs zs l xs i = (r, k, 0) → runs zs l xs j = (r, -1, 0)
  | [], l, r, i, j, k, e => by
    injection e with e1 _
    subst e1; rfl
  | x :: xs, l, r, i, j, k, e => by
    rw [runs] at e ⊢
    split at e
    · rename_i h1
      rw [if_pos h1]; exact runs_at e
    · rename_i h1
      injection e with _ e
      injection e with _ e
      exact absurd e h1
theorem runs_keep {zs : List Int} : ∀ {xs : List Stp} {l r : List Sy} {i : Nat} {k : Int} (n : Nat), runs zs l xs i = (r, k, 0) → (∀ x ∈ xs, x.m ≠ (n : Int)) → r.getD n Sy0 = l.getD n Sy0
  | [], l, r, i, k, n, e, _ => by
    injection e with e1 _
    subst e1; rfl
  | x :: xs, l, r, i, k, n, e, hx => by
    rw [runs] at e
    split at e
    · rename_i h1
      have hm := (stepN_valid h1).2
      have := runs_keep n e (fun y hy => hx y (List.mem_cons_of_mem _ hy))
      rw [this]
      have h2 := hx x (List.mem_cons_self ..)
      rw [List.getD_eq_getElem?_getD, List.getD_eq_getElem?_getD, List.getElem?_set_ne (by omega)]
    · rename_i h1
      injection e with _ e
      injection e with _ e
      exact absurd e h1
end Go.Proofs.Ytpnigndobhbfnaa
