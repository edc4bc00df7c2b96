import Derived.Test.YtpnigndobhbfnaaClkE
import Derived.Test.YtpnigndobhbfnaaBox
namespace Go.Proofs.Ytpnigndobhbfnaa
open Go.RowKit
/-- A valid state: its clock, its slot, its count. -/
structure Vs (o k s c : Int) : Prop where
  vc : Vc o k
  sl : s = -1 ∨ inSlot s
  c0 : 0 ≤ c
  c1 : c ≤ 4096
  cs : c = 0 ↔ s = -1
theorem Bx.set {w : World} {B : Nat} {vs : List Value} (k : Bx w B vs) (i : Nat) (v : Value) (h : i < vs.length) : Bx (w.setCell ⟨B, i, none⟩ v) B (vs.set i v) := by
  refine ⟨fun j u hu => ?_, fun j hj => ?_, by simpa [World.setCell] using k.lt⟩
  · by_cases e : i = j
    · subst e
      rw [List.getElem?_set_self h] at hu
      obtain rfl : v = u := by simpa using hu
      exact World.cell?_setCell_same _ _ _ (k.c i _ (List.getElem?_eq_getElem h))
    · rw [List.getElem?_set_ne e] at hu
      exact (World.cell?_setCell_other _ _ _ _ (by intro x; injection x with _ x; omega)).trans (k.c j u hu)
  · rw [List.length_set] at hj
    simpa using k.f j hj
theorem Bx.set4 {w : World} {B : Nat} {a b c d : Value} (k : Bx w B [a, b, c, d]) (x y z u : Value) :
    Bx ((((w.setCell ⟨B, 0, none⟩ x).setCell ⟨B, 1, none⟩ y).setCell ⟨B, 2, none⟩ z).setCell ⟨B, 3, none⟩ u) B [x, y, z, u] :=
  (((k.set 0 x (by simp)).set 1 y (by simp)).set 2 z (by simp)).set 3 u (by simp)
instance (o k s c : Int) : Decidable (Vs o k s c) :=
  decidable_of_iff (Vc o k ∧ (s = -1 ∨ inSlot s) ∧ 0 ≤ c ∧ c ≤ 4096 ∧ (c = 0 ↔ s = -1))
    ⟨fun ⟨h0, h1, h2, h3, h4⟩ => ⟨h0, h1, h2, h3, h4⟩, fun ⟨h0, h1, h2, h3, h4⟩ => ⟨h0, h1, h2, h3, h4⟩⟩

set_option maxHeartbeats 400000 in
theorem isl_t (n : Int) (w : World) (h0 : 0 ≤ n) (h1 : n ≤ 109951162) :
    Calls Try.prog 107 #[.int .i64 n] w fun e w' => e = .returned (.bool true) ∧ Gr w w' := by
  go_enter Try.func107, Try.ntmps107
  go_wp2
  go_ret
  first | exact ⟨rfl, Gr.refl _⟩ | exact ⟨congrArg (fun b => Ending.returned (.bool b)) (decide_eq_true (by omega)), Gr.refl _⟩

set_option maxHeartbeats 400000 in
theorem isl_f (n : Int) (w : World) (h : n < 0 ∨ 109951162 < n) :
    Calls Try.prog 107 #[.int .i64 n] w fun e w' => e = .returned (.bool false) ∧ Gr w w' := by
  rcases h with h | h
  all_goals
    go_enter Try.func107, Try.ntmps107
    go_wp2
    go_ret
    first | exact ⟨rfl, Gr.refl _⟩ | exact ⟨congrArg (fun b => Ending.returned (.bool b)) (decide_eq_false (by omega)), Gr.refl _⟩

set_option maxHeartbeats 400000 in
theorem risl_t (n : Int) (w : World) (h0 : 0 ≤ n) (h1 : n ≤ 109951162) :
    Calls Try.prog 108 #[.int .i64 n] w fun e w' => e = .returned (.bool true) ∧ Gr w w' := by
  go_enter Try.func108, Try.ntmps108
  go_wp2
  go_ret
  first | exact ⟨rfl, Gr.refl _⟩ | exact ⟨congrArg (fun b => Ending.returned (.bool b)) (decide_eq_true (by omega)), Gr.refl _⟩

set_option maxHeartbeats 400000 in
theorem risl_f (n : Int) (w : World) (h : n < 0 ∨ 109951162 < n) :
    Calls Try.prog 108 #[.int .i64 n] w fun e w' => e = .returned (.bool false) ∧ Gr w w' := by
  rcases h with h | h
  all_goals
    go_enter Try.func108, Try.ntmps108
    go_wp2
    go_ret
    first | exact ⟨rfl, Gr.refl _⟩ | exact ⟨congrArg (fun b => Ending.returned (.bool b)) (decide_eq_false (by omega)), Gr.refl _⟩

set_option maxHeartbeats 400000 in
theorem Tck_ok0 (o k : Int) (w : World) (hv : Vc o k) :
    Calls Try.prog 66 #[.agg #[.int .i64 o, .int .i64 k, .int .i64 (-1), .int .i64 0]] w fun e w' => e = .returned (.int .i64 0) ∧ Gr w w' := by
  have HV := Lib.hid hv
  clear hv
  go_enter Try.func66, Try.ntmps66
  go_wp2_with fail
  have g0 : Gr w ((w).alloc (Obj.cells #[.int .i64 o, .int .i64 k, .int .i64 (-1), .int .i64 0] 45)) := Gr.alloc (Gr.refl w) _
  have bx : Bx ((w).alloc (Obj.cells #[.int .i64 o, .int .i64 k, .int .i64 (-1), .int .i64 0] 45)) (w.heap.size) [.int .i64 o, .int .i64 k, .int .i64 (-1), .int .i64 0] := Bx.gr (Bx.at_ (Bx.new (w) [.int .i64 o, .int .i64 k, .int .i64 (-1), .int .i64 0] 45) (by simp)) (Gr.refl _)
  generalize (w).alloc (Obj.cells #[.int .i64 o, .int .i64 k, .int .i64 (-1), .int .i64 0] 45) = W at g0 bx ⊢
  have S0 := Lib.hid g0
  have Kx0 := Lib.hid bx
  clear g0 bx
  refine (check_ok o k _ HV.out).mono ?_
  rintro e w1 ⟨rfl, hg⟩
  have S1 := Lib.hid (S0.out.trans hg)
  have Kx1 := Lib.hid (Kx0.out.gr hg)
  clear hg
  have cx0 := Kx1.out.c 0 _ rfl
  have cx1 := Kx1.out.c 1 _ rfl
  have cx2 := Kx1.out.c 2 _ rfl
  have cx3 := Kx1.out.c 3 _ rfl
  have lx := Kx1.out.lt
  go_wp2_with fail
  all_goals (try clear cx0 cx1 cx2 cx3 lx)
  all_goals go_ret
  all_goals exact ⟨rfl, S1.out⟩


set_option maxHeartbeats 400000 in
theorem Tck_ok1 (o k s c : Int) (w : World) (hv : Vc o k) (s0 : 0 ≤ s) (s1 : s ≤ 109951162) (c0 : 0 < c) (c1 : c ≤ 4096) :
    Calls Try.prog 66 #[.agg #[.int .i64 o, .int .i64 k, .int .i64 s, .int .i64 c]] w fun e w' => e = .returned (.int .i64 0) ∧ Gr w w' := by
  have e1 : (s == -1) = false := beq_eq_false_iff_ne.2 (by omega)
  have e2 : (c == 0) = false := beq_eq_false_iff_ne.2 (by omega)
  have HV := Lib.hid hv
  clear hv
  go_enter Try.func66, Try.ntmps66
  go_wp2_with fail
  have g0 : Gr w ((w).alloc (Obj.cells #[.int .i64 o, .int .i64 k, .int .i64 s, .int .i64 c] 45)) := Gr.alloc (Gr.refl w) _
  have bx : Bx ((w).alloc (Obj.cells #[.int .i64 o, .int .i64 k, .int .i64 s, .int .i64 c] 45)) (w.heap.size) [.int .i64 o, .int .i64 k, .int .i64 s, .int .i64 c] := Bx.gr (Bx.at_ (Bx.new (w) [.int .i64 o, .int .i64 k, .int .i64 s, .int .i64 c] 45) (by simp)) (Gr.refl _)
  generalize (w).alloc (Obj.cells #[.int .i64 o, .int .i64 k, .int .i64 s, .int .i64 c] 45) = W at g0 bx ⊢
  have S0 := Lib.hid g0
  have Kx0 := Lib.hid bx
  clear g0 bx
  refine (check_ok o k _ HV.out).mono ?_
  rintro e w1 ⟨rfl, hg⟩
  have S1 := Lib.hid (S0.out.trans hg)
  have Kx1 := Lib.hid (Kx0.out.gr hg)
  clear hg
  have cx0 := Kx1.out.c 0 _ rfl
  have cx1 := Kx1.out.c 1 _ rfl
  have cx2 := Kx1.out.c 2 _ rfl
  have cx3 := Kx1.out.c 3 _ rfl
  have lx := Kx1.out.lt
  go_wp2_with fail
  all_goals (try clear cx0 cx1 cx2 cx3 lx)
  refine (isl_t s _ s0 s1).mono ?_
  rintro e w2 ⟨rfl, hg⟩
  have S2 := Lib.hid (S1.out.trans hg)
  have Kx2 := Lib.hid (Kx1.out.gr hg)
  clear hg
  have cx0 := Kx2.out.c 0 _ rfl
  have cx1 := Kx2.out.c 1 _ rfl
  have cx2 := Kx2.out.c 2 _ rfl
  have cx3 := Kx2.out.c 3 _ rfl
  have lx := Kx2.out.lt
  go_wp2_with fail
  all_goals (try clear cx0 cx1 cx2 cx3 lx)
  all_goals go_ret
  all_goals exact ⟨rfl, S2.out⟩


set_option maxHeartbeats 400000 in
theorem Tck_n1 (o k s c : Int) (w : World) (hv : ¬ Vc o k) :
    Calls Try.prog 66 #[.agg #[.int .i64 o, .int .i64 k, .int .i64 s, .int .i64 c]] w fun e w' => e = .returned (.int .i64 1) ∧ Gr w w' := by
  have HV := Lib.hid hv
  clear hv
  go_enter Try.func66, Try.ntmps66
  go_wp2_with fail
  have g0 : Gr w ((w).alloc (Obj.cells #[.int .i64 o, .int .i64 k, .int .i64 s, .int .i64 c] 45)) := Gr.alloc (Gr.refl w) _
  have bx : Bx ((w).alloc (Obj.cells #[.int .i64 o, .int .i64 k, .int .i64 s, .int .i64 c] 45)) (w.heap.size) [.int .i64 o, .int .i64 k, .int .i64 s, .int .i64 c] := Bx.gr (Bx.at_ (Bx.new (w) [.int .i64 o, .int .i64 k, .int .i64 s, .int .i64 c] 45) (by simp)) (Gr.refl _)
  generalize (w).alloc (Obj.cells #[.int .i64 o, .int .i64 k, .int .i64 s, .int .i64 c] 45) = W at g0 bx ⊢
  have S0 := Lib.hid g0
  have Kx0 := Lib.hid bx
  clear g0 bx
  refine (check_no o k _ HV.out).mono ?_
  rintro e w1 ⟨rfl, hg⟩
  have S1 := Lib.hid (S0.out.trans hg)
  have Kx1 := Lib.hid (Kx0.out.gr hg)
  clear hg
  have cx0 := Kx1.out.c 0 _ rfl
  have cx1 := Kx1.out.c 1 _ rfl
  have cx2 := Kx1.out.c 2 _ rfl
  have cx3 := Kx1.out.c 3 _ rfl
  have lx := Kx1.out.lt
  go_wp2_with fail
  all_goals (try clear cx0 cx1 cx2 cx3 lx)
  all_goals go_ret
  all_goals exact ⟨rfl, S1.out⟩


set_option maxHeartbeats 400000 in
theorem Tck_n2 (o k s c : Int) (w : World) (hv : Vc o k) (sn : ¬ s = -1) (h : s < 0 ∨ 109951162 < s) :
    Calls Try.prog 66 #[.agg #[.int .i64 o, .int .i64 k, .int .i64 s, .int .i64 c]] w fun e w' => e = .returned (.int .i64 1) ∧ Gr w w' := by
  have e1 : (s == -1) = false := beq_eq_false_iff_ne.2 (by omega)
  have HV := Lib.hid hv
  have H := Lib.hid h
  clear hv h
  go_enter Try.func66, Try.ntmps66
  go_wp2_with fail
  have g0 : Gr w ((w).alloc (Obj.cells #[.int .i64 o, .int .i64 k, .int .i64 s, .int .i64 c] 45)) := Gr.alloc (Gr.refl w) _
  have bx : Bx ((w).alloc (Obj.cells #[.int .i64 o, .int .i64 k, .int .i64 s, .int .i64 c] 45)) (w.heap.size) [.int .i64 o, .int .i64 k, .int .i64 s, .int .i64 c] := Bx.gr (Bx.at_ (Bx.new (w) [.int .i64 o, .int .i64 k, .int .i64 s, .int .i64 c] 45) (by simp)) (Gr.refl _)
  generalize (w).alloc (Obj.cells #[.int .i64 o, .int .i64 k, .int .i64 s, .int .i64 c] 45) = W at g0 bx ⊢
  have S0 := Lib.hid g0
  have Kx0 := Lib.hid bx
  clear g0 bx
  refine (check_ok o k _ HV.out).mono ?_
  rintro e w1 ⟨rfl, hg⟩
  have S1 := Lib.hid (S0.out.trans hg)
  have Kx1 := Lib.hid (Kx0.out.gr hg)
  clear hg
  have cx0 := Kx1.out.c 0 _ rfl
  have cx1 := Kx1.out.c 1 _ rfl
  have cx2 := Kx1.out.c 2 _ rfl
  have cx3 := Kx1.out.c 3 _ rfl
  have lx := Kx1.out.lt
  go_wp2_with fail
  all_goals (try clear cx0 cx1 cx2 cx3 lx)
  refine (isl_f s _ H.out).mono ?_
  rintro e w2 ⟨rfl, hg⟩
  have S2 := Lib.hid (S1.out.trans hg)
  have Kx2 := Lib.hid (Kx1.out.gr hg)
  clear hg
  have cx0 := Kx2.out.c 0 _ rfl
  have cx1 := Kx2.out.c 1 _ rfl
  have cx2 := Kx2.out.c 2 _ rfl
  have cx3 := Kx2.out.c 3 _ rfl
  have lx := Kx2.out.lt
  go_wp2_with fail
  all_goals (try clear cx0 cx1 cx2 cx3 lx)
  all_goals go_ret
  all_goals exact ⟨rfl, S2.out⟩


set_option maxHeartbeats 400000 in
theorem Tck_n30 (o k c : Int) (w : World) (hv : Vc o k) (h : c < 0) :
    Calls Try.prog 66 #[.agg #[.int .i64 o, .int .i64 k, .int .i64 (-1), .int .i64 c]] w fun e w' => e = .returned (.int .i64 1) ∧ Gr w w' := by
  have HV := Lib.hid hv
  clear hv
  go_enter Try.func66, Try.ntmps66
  go_wp2_with fail
  have g0 : Gr w ((w).alloc (Obj.cells #[.int .i64 o, .int .i64 k, .int .i64 (-1), .int .i64 c] 45)) := Gr.alloc (Gr.refl w) _
  have bx : Bx ((w).alloc (Obj.cells #[.int .i64 o, .int .i64 k, .int .i64 (-1), .int .i64 c] 45)) (w.heap.size) [.int .i64 o, .int .i64 k, .int .i64 (-1), .int .i64 c] := Bx.gr (Bx.at_ (Bx.new (w) [.int .i64 o, .int .i64 k, .int .i64 (-1), .int .i64 c] 45) (by simp)) (Gr.refl _)
  generalize (w).alloc (Obj.cells #[.int .i64 o, .int .i64 k, .int .i64 (-1), .int .i64 c] 45) = W at g0 bx ⊢
  have S0 := Lib.hid g0
  have Kx0 := Lib.hid bx
  clear g0 bx
  refine (check_ok o k _ HV.out).mono ?_
  rintro e w1 ⟨rfl, hg⟩
  have S1 := Lib.hid (S0.out.trans hg)
  have Kx1 := Lib.hid (Kx0.out.gr hg)
  clear hg
  have cx0 := Kx1.out.c 0 _ rfl
  have cx1 := Kx1.out.c 1 _ rfl
  have cx2 := Kx1.out.c 2 _ rfl
  have cx3 := Kx1.out.c 3 _ rfl
  have lx := Kx1.out.lt
  go_wp2_with fail
  all_goals (try clear cx0 cx1 cx2 cx3 lx)
  all_goals go_ret
  all_goals exact ⟨rfl, S1.out⟩


set_option maxHeartbeats 400000 in
theorem Tck_n31 (o k c : Int) (w : World) (hv : Vc o k) (h : 4096 < c) :
    Calls Try.prog 66 #[.agg #[.int .i64 o, .int .i64 k, .int .i64 (-1), .int .i64 c]] w fun e w' => e = .returned (.int .i64 1) ∧ Gr w w' := by
  have HV := Lib.hid hv
  clear hv
  go_enter Try.func66, Try.ntmps66
  go_wp2_with fail
  have g0 : Gr w ((w).alloc (Obj.cells #[.int .i64 o, .int .i64 k, .int .i64 (-1), .int .i64 c] 45)) := Gr.alloc (Gr.refl w) _
  have bx : Bx ((w).alloc (Obj.cells #[.int .i64 o, .int .i64 k, .int .i64 (-1), .int .i64 c] 45)) (w.heap.size) [.int .i64 o, .int .i64 k, .int .i64 (-1), .int .i64 c] := Bx.gr (Bx.at_ (Bx.new (w) [.int .i64 o, .int .i64 k, .int .i64 (-1), .int .i64 c] 45) (by simp)) (Gr.refl _)
  generalize (w).alloc (Obj.cells #[.int .i64 o, .int .i64 k, .int .i64 (-1), .int .i64 c] 45) = W at g0 bx ⊢
  have S0 := Lib.hid g0
  have Kx0 := Lib.hid bx
  clear g0 bx
  refine (check_ok o k _ HV.out).mono ?_
  rintro e w1 ⟨rfl, hg⟩
  have S1 := Lib.hid (S0.out.trans hg)
  have Kx1 := Lib.hid (Kx0.out.gr hg)
  clear hg
  have cx0 := Kx1.out.c 0 _ rfl
  have cx1 := Kx1.out.c 1 _ rfl
  have cx2 := Kx1.out.c 2 _ rfl
  have cx3 := Kx1.out.c 3 _ rfl
  have lx := Kx1.out.lt
  go_wp2_with fail
  all_goals (try clear cx0 cx1 cx2 cx3 lx)
  all_goals go_ret
  all_goals exact ⟨rfl, S1.out⟩


set_option maxHeartbeats 400000 in
theorem Tck_n32 (o k c : Int) (w : World) (hv : Vc o k) (h : 0 < c) (h1 : c ≤ 4096) :
    Calls Try.prog 66 #[.agg #[.int .i64 o, .int .i64 k, .int .i64 (-1), .int .i64 c]] w fun e w' => e = .returned (.int .i64 1) ∧ Gr w w' := by
  have e2 : (c == 0) = false := beq_eq_false_iff_ne.2 (by omega)
  have HV := Lib.hid hv
  clear hv
  go_enter Try.func66, Try.ntmps66
  go_wp2_with fail
  have g0 : Gr w ((w).alloc (Obj.cells #[.int .i64 o, .int .i64 k, .int .i64 (-1), .int .i64 c] 45)) := Gr.alloc (Gr.refl w) _
  have bx : Bx ((w).alloc (Obj.cells #[.int .i64 o, .int .i64 k, .int .i64 (-1), .int .i64 c] 45)) (w.heap.size) [.int .i64 o, .int .i64 k, .int .i64 (-1), .int .i64 c] := Bx.gr (Bx.at_ (Bx.new (w) [.int .i64 o, .int .i64 k, .int .i64 (-1), .int .i64 c] 45) (by simp)) (Gr.refl _)
  generalize (w).alloc (Obj.cells #[.int .i64 o, .int .i64 k, .int .i64 (-1), .int .i64 c] 45) = W at g0 bx ⊢
  have S0 := Lib.hid g0
  have Kx0 := Lib.hid bx
  clear g0 bx
  refine (check_ok o k _ HV.out).mono ?_
  rintro e w1 ⟨rfl, hg⟩
  have S1 := Lib.hid (S0.out.trans hg)
  have Kx1 := Lib.hid (Kx0.out.gr hg)
  clear hg
  have cx0 := Kx1.out.c 0 _ rfl
  have cx1 := Kx1.out.c 1 _ rfl
  have cx2 := Kx1.out.c 2 _ rfl
  have cx3 := Kx1.out.c 3 _ rfl
  have lx := Kx1.out.lt
  go_wp2_with fail
  all_goals (try clear cx0 cx1 cx2 cx3 lx)
  all_goals go_ret
  all_goals exact ⟨rfl, S1.out⟩


set_option maxHeartbeats 400000 in
theorem Tck_n40 (o k s c : Int) (w : World) (hv : Vc o k) (s0 : 0 ≤ s) (s1 : s ≤ 109951162) (h : c < 0) :
    Calls Try.prog 66 #[.agg #[.int .i64 o, .int .i64 k, .int .i64 s, .int .i64 c]] w fun e w' => e = .returned (.int .i64 1) ∧ Gr w w' := by
  have e1 : (s == -1) = false := beq_eq_false_iff_ne.2 (by omega)
  have HV := Lib.hid hv
  clear hv
  go_enter Try.func66, Try.ntmps66
  go_wp2_with fail
  have g0 : Gr w ((w).alloc (Obj.cells #[.int .i64 o, .int .i64 k, .int .i64 s, .int .i64 c] 45)) := Gr.alloc (Gr.refl w) _
  have bx : Bx ((w).alloc (Obj.cells #[.int .i64 o, .int .i64 k, .int .i64 s, .int .i64 c] 45)) (w.heap.size) [.int .i64 o, .int .i64 k, .int .i64 s, .int .i64 c] := Bx.gr (Bx.at_ (Bx.new (w) [.int .i64 o, .int .i64 k, .int .i64 s, .int .i64 c] 45) (by simp)) (Gr.refl _)
  generalize (w).alloc (Obj.cells #[.int .i64 o, .int .i64 k, .int .i64 s, .int .i64 c] 45) = W at g0 bx ⊢
  have S0 := Lib.hid g0
  have Kx0 := Lib.hid bx
  clear g0 bx
  refine (check_ok o k _ HV.out).mono ?_
  rintro e w1 ⟨rfl, hg⟩
  have S1 := Lib.hid (S0.out.trans hg)
  have Kx1 := Lib.hid (Kx0.out.gr hg)
  clear hg
  have cx0 := Kx1.out.c 0 _ rfl
  have cx1 := Kx1.out.c 1 _ rfl
  have cx2 := Kx1.out.c 2 _ rfl
  have cx3 := Kx1.out.c 3 _ rfl
  have lx := Kx1.out.lt
  go_wp2_with fail
  all_goals (try clear cx0 cx1 cx2 cx3 lx)
  refine (isl_t s _ s0 s1).mono ?_
  rintro e w2 ⟨rfl, hg⟩
  have S2 := Lib.hid (S1.out.trans hg)
  have Kx2 := Lib.hid (Kx1.out.gr hg)
  clear hg
  have cx0 := Kx2.out.c 0 _ rfl
  have cx1 := Kx2.out.c 1 _ rfl
  have cx2 := Kx2.out.c 2 _ rfl
  have cx3 := Kx2.out.c 3 _ rfl
  have lx := Kx2.out.lt
  go_wp2_with fail
  all_goals (try clear cx0 cx1 cx2 cx3 lx)
  all_goals go_ret
  all_goals exact ⟨rfl, S2.out⟩


set_option maxHeartbeats 400000 in
theorem Tck_n41 (o k s c : Int) (w : World) (hv : Vc o k) (s0 : 0 ≤ s) (s1 : s ≤ 109951162) (h : 4096 < c) :
    Calls Try.prog 66 #[.agg #[.int .i64 o, .int .i64 k, .int .i64 s, .int .i64 c]] w fun e w' => e = .returned (.int .i64 1) ∧ Gr w w' := by
  have e1 : (s == -1) = false := beq_eq_false_iff_ne.2 (by omega)
  have HV := Lib.hid hv
  clear hv
  go_enter Try.func66, Try.ntmps66
  go_wp2_with fail
  have g0 : Gr w ((w).alloc (Obj.cells #[.int .i64 o, .int .i64 k, .int .i64 s, .int .i64 c] 45)) := Gr.alloc (Gr.refl w) _
  have bx : Bx ((w).alloc (Obj.cells #[.int .i64 o, .int .i64 k, .int .i64 s, .int .i64 c] 45)) (w.heap.size) [.int .i64 o, .int .i64 k, .int .i64 s, .int .i64 c] := Bx.gr (Bx.at_ (Bx.new (w) [.int .i64 o, .int .i64 k, .int .i64 s, .int .i64 c] 45) (by simp)) (Gr.refl _)
  generalize (w).alloc (Obj.cells #[.int .i64 o, .int .i64 k, .int .i64 s, .int .i64 c] 45) = W at g0 bx ⊢
  have S0 := Lib.hid g0
  have Kx0 := Lib.hid bx
  clear g0 bx
  refine (check_ok o k _ HV.out).mono ?_
  rintro e w1 ⟨rfl, hg⟩
  have S1 := Lib.hid (S0.out.trans hg)
  have Kx1 := Lib.hid (Kx0.out.gr hg)
  clear hg
  have cx0 := Kx1.out.c 0 _ rfl
  have cx1 := Kx1.out.c 1 _ rfl
  have cx2 := Kx1.out.c 2 _ rfl
  have cx3 := Kx1.out.c 3 _ rfl
  have lx := Kx1.out.lt
  go_wp2_with fail
  all_goals (try clear cx0 cx1 cx2 cx3 lx)
  refine (isl_t s _ s0 s1).mono ?_
  rintro e w2 ⟨rfl, hg⟩
  have S2 := Lib.hid (S1.out.trans hg)
  have Kx2 := Lib.hid (Kx1.out.gr hg)
  clear hg
  have cx0 := Kx2.out.c 0 _ rfl
  have cx1 := Kx2.out.c 1 _ rfl
  have cx2 := Kx2.out.c 2 _ rfl
  have cx3 := Kx2.out.c 3 _ rfl
  have lx := Kx2.out.lt
  go_wp2_with fail
  all_goals (try clear cx0 cx1 cx2 cx3 lx)
  all_goals go_ret
  all_goals exact ⟨rfl, S2.out⟩


set_option maxHeartbeats 400000 in
theorem Tck_n42 (o k s : Int) (w : World) (hv : Vc o k) (s0 : 0 ≤ s) (s1 : s ≤ 109951162) :
    Calls Try.prog 66 #[.agg #[.int .i64 o, .int .i64 k, .int .i64 s, .int .i64 0]] w fun e w' => e = .returned (.int .i64 1) ∧ Gr w w' := by
  have e1 : (s == -1) = false := beq_eq_false_iff_ne.2 (by omega)
  have HV := Lib.hid hv
  clear hv
  go_enter Try.func66, Try.ntmps66
  go_wp2_with fail
  have g0 : Gr w ((w).alloc (Obj.cells #[.int .i64 o, .int .i64 k, .int .i64 s, .int .i64 0] 45)) := Gr.alloc (Gr.refl w) _
  have bx : Bx ((w).alloc (Obj.cells #[.int .i64 o, .int .i64 k, .int .i64 s, .int .i64 0] 45)) (w.heap.size) [.int .i64 o, .int .i64 k, .int .i64 s, .int .i64 0] := Bx.gr (Bx.at_ (Bx.new (w) [.int .i64 o, .int .i64 k, .int .i64 s, .int .i64 0] 45) (by simp)) (Gr.refl _)
  generalize (w).alloc (Obj.cells #[.int .i64 o, .int .i64 k, .int .i64 s, .int .i64 0] 45) = W at g0 bx ⊢
  have S0 := Lib.hid g0
  have Kx0 := Lib.hid bx
  clear g0 bx
  refine (check_ok o k _ HV.out).mono ?_
  rintro e w1 ⟨rfl, hg⟩
  have S1 := Lib.hid (S0.out.trans hg)
  have Kx1 := Lib.hid (Kx0.out.gr hg)
  clear hg
  have cx0 := Kx1.out.c 0 _ rfl
  have cx1 := Kx1.out.c 1 _ rfl
  have cx2 := Kx1.out.c 2 _ rfl
  have cx3 := Kx1.out.c 3 _ rfl
  have lx := Kx1.out.lt
  go_wp2_with fail
  all_goals (try clear cx0 cx1 cx2 cx3 lx)
  refine (isl_t s _ s0 s1).mono ?_
  rintro e w2 ⟨rfl, hg⟩
  have S2 := Lib.hid (S1.out.trans hg)
  have Kx2 := Lib.hid (Kx1.out.gr hg)
  clear hg
  have cx0 := Kx2.out.c 0 _ rfl
  have cx1 := Kx2.out.c 1 _ rfl
  have cx2 := Kx2.out.c 2 _ rfl
  have cx3 := Kx2.out.c 3 _ rfl
  have lx := Kx2.out.lt
  go_wp2_with fail
  all_goals (try clear cx0 cx1 cx2 cx3 lx)
  all_goals go_ret
  all_goals exact ⟨rfl, S2.out⟩


theorem Tck_ok (o k s c : Int) (w : World) (h : Vs o k s c) : Calls Try.prog 66 #[.agg #[.int .i64 o, .int .i64 k, .int .i64 s, .int .i64 c]] w fun e w' => e = .returned (.int .i64 0) ∧ Gr w w' := by
  rcases h.sl with e | e
  · obtain rfl := e
    obtain rfl : c = 0 := h.cs.2 rfl
    exact Tck_ok0 o k w h.vc
  · have : ¬ c = 0 := fun x => by have := h.cs.1 x; have := e.1; omega
    have := h.c0
    exact Tck_ok1 o k s c w h.vc e.1 e.2 (by omega) h.c1
theorem Tck_no (o k s c : Int) (w : World) (h : ¬ Vs o k s c) : Calls Try.prog 66 #[.agg #[.int .i64 o, .int .i64 k, .int .i64 s, .int .i64 c]] w fun e w' => e = .returned (.int .i64 1) ∧ Gr w w' := by
  by_cases hv : Vc o k
  · by_cases e : s = -1
    · subst e
      by_cases hc : c = 0
      · exact absurd ⟨hv, Or.inl rfl, by omega, by omega, ⟨fun _ => rfl, fun _ => hc⟩⟩ h
      by_cases h0 : c < 0
      · exact Tck_n30 o k c w hv h0
      by_cases h1 : 4096 < c
      · exact Tck_n31 o k c w hv h1
      exact Tck_n32 o k c w hv (by omega) (by omega)
    · by_cases hs : inSlot s
      · by_cases hc : 0 < c ∧ c ≤ 4096
        · exact absurd ⟨hv, Or.inr hs, by omega, by omega, ⟨fun x => by omega, fun x => absurd x e⟩⟩ h
        by_cases h0 : c < 0
        · exact Tck_n40 o k s c w hv hs.1 hs.2 h0
        by_cases h1 : 4096 < c
        · exact Tck_n41 o k s c w hv hs.1 hs.2 h1
        obtain rfl : c = 0 := by omega
        exact Tck_n42 o k s w hv hs.1 hs.2
      · exact Tck_n2 o k s c w hv e (by unfold inSlot at hs; omega)
  · exact Tck_n1 o k s c w hv

set_option maxHeartbeats 400000 in
theorem rTck_ok0 (o k : Int) (w : World) (hv : Vc o k) :
    Calls Try.prog 67 #[.agg #[.int .i64 o, .int .i64 k, .int .i64 (-1), .int .i64 0]] w fun e w' => e = .returned (.int .i64 0) ∧ Gr w w' := by
  have HV := Lib.hid hv
  clear hv
  go_enter Try.func67, Try.ntmps67
  go_wp2_with fail
  have g0 : Gr w ((w).alloc (Obj.cells #[.int .i64 o, .int .i64 k, .int .i64 (-1), .int .i64 0] 45)) := Gr.alloc (Gr.refl w) _
  have bx : Bx ((w).alloc (Obj.cells #[.int .i64 o, .int .i64 k, .int .i64 (-1), .int .i64 0] 45)) (w.heap.size) [.int .i64 o, .int .i64 k, .int .i64 (-1), .int .i64 0] := Bx.gr (Bx.at_ (Bx.new (w) [.int .i64 o, .int .i64 k, .int .i64 (-1), .int .i64 0] 45) (by simp)) (Gr.refl _)
  generalize (w).alloc (Obj.cells #[.int .i64 o, .int .i64 k, .int .i64 (-1), .int .i64 0] 45) = W at g0 bx ⊢
  have S0 := Lib.hid g0
  have Kx0 := Lib.hid bx
  clear g0 bx
  refine (rcheck_ok o k _ HV.out).mono ?_
  rintro e w1 ⟨rfl, hg⟩
  have S1 := Lib.hid (S0.out.trans hg)
  have Kx1 := Lib.hid (Kx0.out.gr hg)
  clear hg
  have cx0 := Kx1.out.c 0 _ rfl
  have cx1 := Kx1.out.c 1 _ rfl
  have cx2 := Kx1.out.c 2 _ rfl
  have cx3 := Kx1.out.c 3 _ rfl
  have lx := Kx1.out.lt
  go_wp2_with fail
  all_goals (try clear cx0 cx1 cx2 cx3 lx)
  all_goals go_ret
  all_goals exact ⟨rfl, S1.out⟩


set_option maxHeartbeats 400000 in
theorem rTck_ok1 (o k s c : Int) (w : World) (hv : Vc o k) (s0 : 0 ≤ s) (s1 : s ≤ 109951162) (c0 : 0 < c) (c1 : c ≤ 4096) :
    Calls Try.prog 67 #[.agg #[.int .i64 o, .int .i64 k, .int .i64 s, .int .i64 c]] w fun e w' => e = .returned (.int .i64 0) ∧ Gr w w' := by
  have e1 : (s == -1) = false := beq_eq_false_iff_ne.2 (by omega)
  have e2 : (c == 0) = false := beq_eq_false_iff_ne.2 (by omega)
  have HV := Lib.hid hv
  clear hv
  go_enter Try.func67, Try.ntmps67
  go_wp2_with fail
  have g0 : Gr w ((w).alloc (Obj.cells #[.int .i64 o, .int .i64 k, .int .i64 s, .int .i64 c] 45)) := Gr.alloc (Gr.refl w) _
  have bx : Bx ((w).alloc (Obj.cells #[.int .i64 o, .int .i64 k, .int .i64 s, .int .i64 c] 45)) (w.heap.size) [.int .i64 o, .int .i64 k, .int .i64 s, .int .i64 c] := Bx.gr (Bx.at_ (Bx.new (w) [.int .i64 o, .int .i64 k, .int .i64 s, .int .i64 c] 45) (by simp)) (Gr.refl _)
  generalize (w).alloc (Obj.cells #[.int .i64 o, .int .i64 k, .int .i64 s, .int .i64 c] 45) = W at g0 bx ⊢
  have S0 := Lib.hid g0
  have Kx0 := Lib.hid bx
  clear g0 bx
  refine (rcheck_ok o k _ HV.out).mono ?_
  rintro e w1 ⟨rfl, hg⟩
  have S1 := Lib.hid (S0.out.trans hg)
  have Kx1 := Lib.hid (Kx0.out.gr hg)
  clear hg
  have cx0 := Kx1.out.c 0 _ rfl
  have cx1 := Kx1.out.c 1 _ rfl
  have cx2 := Kx1.out.c 2 _ rfl
  have cx3 := Kx1.out.c 3 _ rfl
  have lx := Kx1.out.lt
  go_wp2_with fail
  all_goals (try clear cx0 cx1 cx2 cx3 lx)
  refine (risl_t s _ s0 s1).mono ?_
  rintro e w2 ⟨rfl, hg⟩
  have S2 := Lib.hid (S1.out.trans hg)
  have Kx2 := Lib.hid (Kx1.out.gr hg)
  clear hg
  have cx0 := Kx2.out.c 0 _ rfl
  have cx1 := Kx2.out.c 1 _ rfl
  have cx2 := Kx2.out.c 2 _ rfl
  have cx3 := Kx2.out.c 3 _ rfl
  have lx := Kx2.out.lt
  go_wp2_with fail
  all_goals (try clear cx0 cx1 cx2 cx3 lx)
  all_goals go_ret
  all_goals exact ⟨rfl, S2.out⟩


set_option maxHeartbeats 400000 in
theorem rTck_n1 (o k s c : Int) (w : World) (hv : ¬ Vc o k) :
    Calls Try.prog 67 #[.agg #[.int .i64 o, .int .i64 k, .int .i64 s, .int .i64 c]] w fun e w' => e = .returned (.int .i64 1) ∧ Gr w w' := by
  have HV := Lib.hid hv
  clear hv
  go_enter Try.func67, Try.ntmps67
  go_wp2_with fail
  have g0 : Gr w ((w).alloc (Obj.cells #[.int .i64 o, .int .i64 k, .int .i64 s, .int .i64 c] 45)) := Gr.alloc (Gr.refl w) _
  have bx : Bx ((w).alloc (Obj.cells #[.int .i64 o, .int .i64 k, .int .i64 s, .int .i64 c] 45)) (w.heap.size) [.int .i64 o, .int .i64 k, .int .i64 s, .int .i64 c] := Bx.gr (Bx.at_ (Bx.new (w) [.int .i64 o, .int .i64 k, .int .i64 s, .int .i64 c] 45) (by simp)) (Gr.refl _)
  generalize (w).alloc (Obj.cells #[.int .i64 o, .int .i64 k, .int .i64 s, .int .i64 c] 45) = W at g0 bx ⊢
  have S0 := Lib.hid g0
  have Kx0 := Lib.hid bx
  clear g0 bx
  refine (rcheck_no o k _ HV.out).mono ?_
  rintro e w1 ⟨rfl, hg⟩
  have S1 := Lib.hid (S0.out.trans hg)
  have Kx1 := Lib.hid (Kx0.out.gr hg)
  clear hg
  have cx0 := Kx1.out.c 0 _ rfl
  have cx1 := Kx1.out.c 1 _ rfl
  have cx2 := Kx1.out.c 2 _ rfl
  have cx3 := Kx1.out.c 3 _ rfl
  have lx := Kx1.out.lt
  go_wp2_with fail
  all_goals (try clear cx0 cx1 cx2 cx3 lx)
  all_goals go_ret
  all_goals exact ⟨rfl, S1.out⟩


set_option maxHeartbeats 400000 in
theorem rTck_n2 (o k s c : Int) (w : World) (hv : Vc o k) (sn : ¬ s = -1) (h : s < 0 ∨ 109951162 < s) :
    Calls Try.prog 67 #[.agg #[.int .i64 o, .int .i64 k, .int .i64 s, .int .i64 c]] w fun e w' => e = .returned (.int .i64 1) ∧ Gr w w' := by
  have e1 : (s == -1) = false := beq_eq_false_iff_ne.2 (by omega)
  have HV := Lib.hid hv
  have H := Lib.hid h
  clear hv h
  go_enter Try.func67, Try.ntmps67
  go_wp2_with fail
  have g0 : Gr w ((w).alloc (Obj.cells #[.int .i64 o, .int .i64 k, .int .i64 s, .int .i64 c] 45)) := Gr.alloc (Gr.refl w) _
  have bx : Bx ((w).alloc (Obj.cells #[.int .i64 o, .int .i64 k, .int .i64 s, .int .i64 c] 45)) (w.heap.size) [.int .i64 o, .int .i64 k, .int .i64 s, .int .i64 c] := Bx.gr (Bx.at_ (Bx.new (w) [.int .i64 o, .int .i64 k, .int .i64 s, .int .i64 c] 45) (by simp)) (Gr.refl _)
  generalize (w).alloc (Obj.cells #[.int .i64 o, .int .i64 k, .int .i64 s, .int .i64 c] 45) = W at g0 bx ⊢
  have S0 := Lib.hid g0
  have Kx0 := Lib.hid bx
  clear g0 bx
  refine (rcheck_ok o k _ HV.out).mono ?_
  rintro e w1 ⟨rfl, hg⟩
  have S1 := Lib.hid (S0.out.trans hg)
  have Kx1 := Lib.hid (Kx0.out.gr hg)
  clear hg
  have cx0 := Kx1.out.c 0 _ rfl
  have cx1 := Kx1.out.c 1 _ rfl
  have cx2 := Kx1.out.c 2 _ rfl
  have cx3 := Kx1.out.c 3 _ rfl
  have lx := Kx1.out.lt
  go_wp2_with fail
  all_goals (try clear cx0 cx1 cx2 cx3 lx)
  refine (risl_f s _ H.out).mono ?_
  rintro e w2 ⟨rfl, hg⟩
  have S2 := Lib.hid (S1.out.trans hg)
  have Kx2 := Lib.hid (Kx1.out.gr hg)
  clear hg
  have cx0 := Kx2.out.c 0 _ rfl
  have cx1 := Kx2.out.c 1 _ rfl
  have cx2 := Kx2.out.c 2 _ rfl
  have cx3 := Kx2.out.c 3 _ rfl
  have lx := Kx2.out.lt
  go_wp2_with fail
  all_goals (try clear cx0 cx1 cx2 cx3 lx)
  all_goals go_ret
  all_goals exact ⟨rfl, S2.out⟩


set_option maxHeartbeats 400000 in
theorem rTck_n30 (o k c : Int) (w : World) (hv : Vc o k) (h : c < 0) :
    Calls Try.prog 67 #[.agg #[.int .i64 o, .int .i64 k, .int .i64 (-1), .int .i64 c]] w fun e w' => e = .returned (.int .i64 1) ∧ Gr w w' := by
  have HV := Lib.hid hv
  clear hv
  go_enter Try.func67, Try.ntmps67
  go_wp2_with fail
  have g0 : Gr w ((w).alloc (Obj.cells #[.int .i64 o, .int .i64 k, .int .i64 (-1), .int .i64 c] 45)) := Gr.alloc (Gr.refl w) _
  have bx : Bx ((w).alloc (Obj.cells #[.int .i64 o, .int .i64 k, .int .i64 (-1), .int .i64 c] 45)) (w.heap.size) [.int .i64 o, .int .i64 k, .int .i64 (-1), .int .i64 c] := Bx.gr (Bx.at_ (Bx.new (w) [.int .i64 o, .int .i64 k, .int .i64 (-1), .int .i64 c] 45) (by simp)) (Gr.refl _)
  generalize (w).alloc (Obj.cells #[.int .i64 o, .int .i64 k, .int .i64 (-1), .int .i64 c] 45) = W at g0 bx ⊢
  have S0 := Lib.hid g0
  have Kx0 := Lib.hid bx
  clear g0 bx
  refine (rcheck_ok o k _ HV.out).mono ?_
  rintro e w1 ⟨rfl, hg⟩
  have S1 := Lib.hid (S0.out.trans hg)
  have Kx1 := Lib.hid (Kx0.out.gr hg)
  clear hg
  have cx0 := Kx1.out.c 0 _ rfl
  have cx1 := Kx1.out.c 1 _ rfl
  have cx2 := Kx1.out.c 2 _ rfl
  have cx3 := Kx1.out.c 3 _ rfl
  have lx := Kx1.out.lt
  go_wp2_with fail
  all_goals (try clear cx0 cx1 cx2 cx3 lx)
  all_goals go_ret
  all_goals exact ⟨rfl, S1.out⟩


set_option maxHeartbeats 400000 in
theorem rTck_n31 (o k c : Int) (w : World) (hv : Vc o k) (h : 4096 < c) :
    Calls Try.prog 67 #[.agg #[.int .i64 o, .int .i64 k, .int .i64 (-1), .int .i64 c]] w fun e w' => e = .returned (.int .i64 1) ∧ Gr w w' := by
  have HV := Lib.hid hv
  clear hv
  go_enter Try.func67, Try.ntmps67
  go_wp2_with fail
  have g0 : Gr w ((w).alloc (Obj.cells #[.int .i64 o, .int .i64 k, .int .i64 (-1), .int .i64 c] 45)) := Gr.alloc (Gr.refl w) _
  have bx : Bx ((w).alloc (Obj.cells #[.int .i64 o, .int .i64 k, .int .i64 (-1), .int .i64 c] 45)) (w.heap.size) [.int .i64 o, .int .i64 k, .int .i64 (-1), .int .i64 c] := Bx.gr (Bx.at_ (Bx.new (w) [.int .i64 o, .int .i64 k, .int .i64 (-1), .int .i64 c] 45) (by simp)) (Gr.refl _)
  generalize (w).alloc (Obj.cells #[.int .i64 o, .int .i64 k, .int .i64 (-1), .int .i64 c] 45) = W at g0 bx ⊢
  have S0 := Lib.hid g0
  have Kx0 := Lib.hid bx
  clear g0 bx
  refine (rcheck_ok o k _ HV.out).mono ?_
  rintro e w1 ⟨rfl, hg⟩
  have S1 := Lib.hid (S0.out.trans hg)
  have Kx1 := Lib.hid (Kx0.out.gr hg)
  clear hg
  have cx0 := Kx1.out.c 0 _ rfl
  have cx1 := Kx1.out.c 1 _ rfl
  have cx2 := Kx1.out.c 2 _ rfl
  have cx3 := Kx1.out.c 3 _ rfl
  have lx := Kx1.out.lt
  go_wp2_with fail
  all_goals (try clear cx0 cx1 cx2 cx3 lx)
  all_goals go_ret
  all_goals exact ⟨rfl, S1.out⟩


set_option maxHeartbeats 400000 in
theorem rTck_n32 (o k c : Int) (w : World) (hv : Vc o k) (h : 0 < c) (h1 : c ≤ 4096) :
    Calls Try.prog 67 #[.agg #[.int .i64 o, .int .i64 k, .int .i64 (-1), .int .i64 c]] w fun e w' => e = .returned (.int .i64 1) ∧ Gr w w' := by
  have e2 : (c == 0) = false := beq_eq_false_iff_ne.2 (by omega)
  have HV := Lib.hid hv
  clear hv
  go_enter Try.func67, Try.ntmps67
  go_wp2_with fail
  have g0 : Gr w ((w).alloc (Obj.cells #[.int .i64 o, .int .i64 k, .int .i64 (-1), .int .i64 c] 45)) := Gr.alloc (Gr.refl w) _
  have bx : Bx ((w).alloc (Obj.cells #[.int .i64 o, .int .i64 k, .int .i64 (-1), .int .i64 c] 45)) (w.heap.size) [.int .i64 o, .int .i64 k, .int .i64 (-1), .int .i64 c] := Bx.gr (Bx.at_ (Bx.new (w) [.int .i64 o, .int .i64 k, .int .i64 (-1), .int .i64 c] 45) (by simp)) (Gr.refl _)
  generalize (w).alloc (Obj.cells #[.int .i64 o, .int .i64 k, .int .i64 (-1), .int .i64 c] 45) = W at g0 bx ⊢
  have S0 := Lib.hid g0
  have Kx0 := Lib.hid bx
  clear g0 bx
  refine (rcheck_ok o k _ HV.out).mono ?_
  rintro e w1 ⟨rfl, hg⟩
  have S1 := Lib.hid (S0.out.trans hg)
  have Kx1 := Lib.hid (Kx0.out.gr hg)
  clear hg
  have cx0 := Kx1.out.c 0 _ rfl
  have cx1 := Kx1.out.c 1 _ rfl
  have cx2 := Kx1.out.c 2 _ rfl
  have cx3 := Kx1.out.c 3 _ rfl
  have lx := Kx1.out.lt
  go_wp2_with fail
  all_goals (try clear cx0 cx1 cx2 cx3 lx)
  all_goals go_ret
  all_goals exact ⟨rfl, S1.out⟩


set_option maxHeartbeats 400000 in
theorem rTck_n40 (o k s c : Int) (w : World) (hv : Vc o k) (s0 : 0 ≤ s) (s1 : s ≤ 109951162) (h : c < 0) :
    Calls Try.prog 67 #[.agg #[.int .i64 o, .int .i64 k, .int .i64 s, .int .i64 c]] w fun e w' => e = .returned (.int .i64 1) ∧ Gr w w' := by
  have e1 : (s == -1) = false := beq_eq_false_iff_ne.2 (by omega)
  have HV := Lib.hid hv
  clear hv
  go_enter Try.func67, Try.ntmps67
  go_wp2_with fail
  have g0 : Gr w ((w).alloc (Obj.cells #[.int .i64 o, .int .i64 k, .int .i64 s, .int .i64 c] 45)) := Gr.alloc (Gr.refl w) _
  have bx : Bx ((w).alloc (Obj.cells #[.int .i64 o, .int .i64 k, .int .i64 s, .int .i64 c] 45)) (w.heap.size) [.int .i64 o, .int .i64 k, .int .i64 s, .int .i64 c] := Bx.gr (Bx.at_ (Bx.new (w) [.int .i64 o, .int .i64 k, .int .i64 s, .int .i64 c] 45) (by simp)) (Gr.refl _)
  generalize (w).alloc (Obj.cells #[.int .i64 o, .int .i64 k, .int .i64 s, .int .i64 c] 45) = W at g0 bx ⊢
  have S0 := Lib.hid g0
  have Kx0 := Lib.hid bx
  clear g0 bx
  refine (rcheck_ok o k _ HV.out).mono ?_
  rintro e w1 ⟨rfl, hg⟩
  have S1 := Lib.hid (S0.out.trans hg)
  have Kx1 := Lib.hid (Kx0.out.gr hg)
  clear hg
  have cx0 := Kx1.out.c 0 _ rfl
  have cx1 := Kx1.out.c 1 _ rfl
  have cx2 := Kx1.out.c 2 _ rfl
  have cx3 := Kx1.out.c 3 _ rfl
  have lx := Kx1.out.lt
  go_wp2_with fail
  all_goals (try clear cx0 cx1 cx2 cx3 lx)
  refine (risl_t s _ s0 s1).mono ?_
  rintro e w2 ⟨rfl, hg⟩
  have S2 := Lib.hid (S1.out.trans hg)
  have Kx2 := Lib.hid (Kx1.out.gr hg)
  clear hg
  have cx0 := Kx2.out.c 0 _ rfl
  have cx1 := Kx2.out.c 1 _ rfl
  have cx2 := Kx2.out.c 2 _ rfl
  have cx3 := Kx2.out.c 3 _ rfl
  have lx := Kx2.out.lt
  go_wp2_with fail
  all_goals (try clear cx0 cx1 cx2 cx3 lx)
  all_goals go_ret
  all_goals exact ⟨rfl, S2.out⟩


set_option maxHeartbeats 400000 in
theorem rTck_n41 (o k s c : Int) (w : World) (hv : Vc o k) (s0 : 0 ≤ s) (s1 : s ≤ 109951162) (h : 4096 < c) :
    Calls Try.prog 67 #[.agg #[.int .i64 o, .int .i64 k, .int .i64 s, .int .i64 c]] w fun e w' => e = .returned (.int .i64 1) ∧ Gr w w' := by
  have e1 : (s == -1) = false := beq_eq_false_iff_ne.2 (by omega)
  have HV := Lib.hid hv
  clear hv
  go_enter Try.func67, Try.ntmps67
  go_wp2_with fail
  have g0 : Gr w ((w).alloc (Obj.cells #[.int .i64 o, .int .i64 k, .int .i64 s, .int .i64 c] 45)) := Gr.alloc (Gr.refl w) _
  have bx : Bx ((w).alloc (Obj.cells #[.int .i64 o, .int .i64 k, .int .i64 s, .int .i64 c] 45)) (w.heap.size) [.int .i64 o, .int .i64 k, .int .i64 s, .int .i64 c] := Bx.gr (Bx.at_ (Bx.new (w) [.int .i64 o, .int .i64 k, .int .i64 s, .int .i64 c] 45) (by simp)) (Gr.refl _)
  generalize (w).alloc (Obj.cells #[.int .i64 o, .int .i64 k, .int .i64 s, .int .i64 c] 45) = W at g0 bx ⊢
  have S0 := Lib.hid g0
  have Kx0 := Lib.hid bx
  clear g0 bx
  refine (rcheck_ok o k _ HV.out).mono ?_
  rintro e w1 ⟨rfl, hg⟩
  have S1 := Lib.hid (S0.out.trans hg)
  have Kx1 := Lib.hid (Kx0.out.gr hg)
  clear hg
  have cx0 := Kx1.out.c 0 _ rfl
  have cx1 := Kx1.out.c 1 _ rfl
  have cx2 := Kx1.out.c 2 _ rfl
  have cx3 := Kx1.out.c 3 _ rfl
  have lx := Kx1.out.lt
  go_wp2_with fail
  all_goals (try clear cx0 cx1 cx2 cx3 lx)
  refine (risl_t s _ s0 s1).mono ?_
  rintro e w2 ⟨rfl, hg⟩
  have S2 := Lib.hid (S1.out.trans hg)
  have Kx2 := Lib.hid (Kx1.out.gr hg)
  clear hg
  have cx0 := Kx2.out.c 0 _ rfl
  have cx1 := Kx2.out.c 1 _ rfl
  have cx2 := Kx2.out.c 2 _ rfl
  have cx3 := Kx2.out.c 3 _ rfl
  have lx := Kx2.out.lt
  go_wp2_with fail
  all_goals (try clear cx0 cx1 cx2 cx3 lx)
  all_goals go_ret
  all_goals exact ⟨rfl, S2.out⟩


set_option maxHeartbeats 400000 in
theorem rTck_n42 (o k s : Int) (w : World) (hv : Vc o k) (s0 : 0 ≤ s) (s1 : s ≤ 109951162) :
    Calls Try.prog 67 #[.agg #[.int .i64 o, .int .i64 k, .int .i64 s, .int .i64 0]] w fun e w' => e = .returned (.int .i64 1) ∧ Gr w w' := by
  have e1 : (s == -1) = false := beq_eq_false_iff_ne.2 (by omega)
  have HV := Lib.hid hv
  clear hv
  go_enter Try.func67, Try.ntmps67
  go_wp2_with fail
  have g0 : Gr w ((w).alloc (Obj.cells #[.int .i64 o, .int .i64 k, .int .i64 s, .int .i64 0] 45)) := Gr.alloc (Gr.refl w) _
  have bx : Bx ((w).alloc (Obj.cells #[.int .i64 o, .int .i64 k, .int .i64 s, .int .i64 0] 45)) (w.heap.size) [.int .i64 o, .int .i64 k, .int .i64 s, .int .i64 0] := Bx.gr (Bx.at_ (Bx.new (w) [.int .i64 o, .int .i64 k, .int .i64 s, .int .i64 0] 45) (by simp)) (Gr.refl _)
  generalize (w).alloc (Obj.cells #[.int .i64 o, .int .i64 k, .int .i64 s, .int .i64 0] 45) = W at g0 bx ⊢
  have S0 := Lib.hid g0
  have Kx0 := Lib.hid bx
  clear g0 bx
  refine (rcheck_ok o k _ HV.out).mono ?_
  rintro e w1 ⟨rfl, hg⟩
  have S1 := Lib.hid (S0.out.trans hg)
  have Kx1 := Lib.hid (Kx0.out.gr hg)
  clear hg
  have cx0 := Kx1.out.c 0 _ rfl
  have cx1 := Kx1.out.c 1 _ rfl
  have cx2 := Kx1.out.c 2 _ rfl
  have cx3 := Kx1.out.c 3 _ rfl
  have lx := Kx1.out.lt
  go_wp2_with fail
  all_goals (try clear cx0 cx1 cx2 cx3 lx)
  refine (risl_t s _ s0 s1).mono ?_
  rintro e w2 ⟨rfl, hg⟩
  have S2 := Lib.hid (S1.out.trans hg)
  have Kx2 := Lib.hid (Kx1.out.gr hg)
  clear hg
  have cx0 := Kx2.out.c 0 _ rfl
  have cx1 := Kx2.out.c 1 _ rfl
  have cx2 := Kx2.out.c 2 _ rfl
  have cx3 := Kx2.out.c 3 _ rfl
  have lx := Kx2.out.lt
  go_wp2_with fail
  all_goals (try clear cx0 cx1 cx2 cx3 lx)
  all_goals go_ret
  all_goals exact ⟨rfl, S2.out⟩


theorem rTck_ok (o k s c : Int) (w : World) (h : Vs o k s c) : Calls Try.prog 67 #[.agg #[.int .i64 o, .int .i64 k, .int .i64 s, .int .i64 c]] w fun e w' => e = .returned (.int .i64 0) ∧ Gr w w' := by
  rcases h.sl with e | e
  · obtain rfl := e
    obtain rfl : c = 0 := h.cs.2 rfl
    exact rTck_ok0 o k w h.vc
  · have : ¬ c = 0 := fun x => by have := h.cs.1 x; have := e.1; omega
    have := h.c0
    exact rTck_ok1 o k s c w h.vc e.1 e.2 (by omega) h.c1
theorem rTck_no (o k s c : Int) (w : World) (h : ¬ Vs o k s c) : Calls Try.prog 67 #[.agg #[.int .i64 o, .int .i64 k, .int .i64 s, .int .i64 c]] w fun e w' => e = .returned (.int .i64 1) ∧ Gr w w' := by
  by_cases hv : Vc o k
  · by_cases e : s = -1
    · subst e
      by_cases hc : c = 0
      · exact absurd ⟨hv, Or.inl rfl, by omega, by omega, ⟨fun _ => rfl, fun _ => hc⟩⟩ h
      by_cases h0 : c < 0
      · exact rTck_n30 o k c w hv h0
      by_cases h1 : 4096 < c
      · exact rTck_n31 o k c w hv h1
      exact rTck_n32 o k c w hv (by omega) (by omega)
    · by_cases hs : inSlot s
      · by_cases hc : 0 < c ∧ c ≤ 4096
        · exact absurd ⟨hv, Or.inr hs, by omega, by omega, ⟨fun x => by omega, fun x => absurd x e⟩⟩ h
        by_cases h0 : c < 0
        · exact rTck_n40 o k s c w hv hs.1 hs.2 h0
        by_cases h1 : 4096 < c
        · exact rTck_n41 o k s c w hv hs.1 hs.2 h1
        obtain rfl : c = 0 := by omega
        exact rTck_n42 o k s w hv hs.1 hs.2
      · exact rTck_n2 o k s c w hv e (by unfold inSlot at hs; omega)
  · exact rTck_n1 o k s c w hv
end Go.Proofs.Ytpnigndobhbfnaa
