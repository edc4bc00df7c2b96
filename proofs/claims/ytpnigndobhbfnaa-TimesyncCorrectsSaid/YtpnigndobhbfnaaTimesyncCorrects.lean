/- TimesyncCorrects: Check, Measure, Hear, Acked and Synchronized return what the definitions specify, or the specified errors. For every input the call returns true and each argument reads afterwards as it read before (no condition). -/
import Derived.Test.YtpnigndobhbfnaaAwake10
import Derived.Test.YtpnigndobhbfnaaFrame
set_option linter.unnecessarySimpa false
namespace Go.Proofs.Ytpnigndobhbfnaa
open Go.ChangeShapes Go.WideShapes Go.ChangeAt Go.RowKit Go.Joins
theorem wf_hi {n : Int} (h : (Lit.int .i64 n).wf = true) : n ≤ 9223372036854775807 := by
  simp [Lit.wf, IntKind.min, IntKind.max, IntKind.signed, IntKind.bits] at h
  omega
theorem keepJ {f : FuncId} {args : Array Value} {v : Value} {w W : World} (J : World → Prop) (hJ : ∀ Z, Gr W Z → J Z) (h : Calls Try.prog f args w fun e w' => e = .returned v ∧ Gr w w') (hg : Hid (Gr W w)) :
    Calls Try.prog f args w fun e w' => e = .returned v ∧ J w' :=
  h.mono fun _ _ ⟨he, h⟩ => ⟨he, hJ _ (hg.out.trans h)⟩
set_option maxHeartbeats 4000000 in
theorem TimesyncCorrects_walk (o k s c n t d : Int) (w : World) (N1 : n ≤ 9223372036854775807) :
    Calls Try.prog 13 #[.agg #[.int .i64 o, .int .i64 k, .int .i64 s, .int .i64 c], .agg #[.int .i64 n, .int .i64 t, .int .i64 d]] w fun e w' => e = .returned (.bool true) ∧ Gr w w' := by
  go_enter Try.func13, Try.ntmps13
  go_wp2_with fail
  have g0 : Gr w (((w).alloc (Obj.cells #[.int .i64 o, .int .i64 k, .int .i64 s, .int .i64 c] 45)).alloc (Obj.cells #[.int .i64 n, .int .i64 t, .int .i64 d] 62)) := Gr.alloc (Gr.alloc (Gr.refl w) _) _
  have bx : Bx (((w).alloc (Obj.cells #[.int .i64 o, .int .i64 k, .int .i64 s, .int .i64 c] 45)).alloc (Obj.cells #[.int .i64 n, .int .i64 t, .int .i64 d] 62)) (w.heap.size) [.int .i64 o, .int .i64 k, .int .i64 s, .int .i64 c] := Bx.gr (Bx.at_ (Bx.new (w) [.int .i64 o, .int .i64 k, .int .i64 s, .int .i64 c] 45) (by simp)) (Gr.alloc (Gr.refl _) _)
  have bv : Bx (((w).alloc (Obj.cells #[.int .i64 o, .int .i64 k, .int .i64 s, .int .i64 c] 45)).alloc (Obj.cells #[.int .i64 n, .int .i64 t, .int .i64 d] 62)) (w.heap.size + 1) [.int .i64 n, .int .i64 t, .int .i64 d] := Bx.gr (Bx.at_ (Bx.new ((w).alloc (Obj.cells #[.int .i64 o, .int .i64 k, .int .i64 s, .int .i64 c] 45)) [.int .i64 n, .int .i64 t, .int .i64 d] 62) (by simp)) (Gr.refl _)
  generalize ((w).alloc (Obj.cells #[.int .i64 o, .int .i64 k, .int .i64 s, .int .i64 c] 45)).alloc (Obj.cells #[.int .i64 n, .int .i64 t, .int .i64 d] 62) = W at g0 bx bv ⊢
  have S0 := Lib.hid g0
  have Kx0 := Lib.hid bx
  have Kv0 := Lib.hid bv
  clear g0 bx bv
  refine (awake10 _).mono ?_
  rintro e w1 ⟨rfl, hg⟩
  have S1 := Lib.hid (S0.out.trans hg)
  have Kx1 := Lib.hid (Kx0.out.gr hg)
  have Kv1 := Lib.hid (Kv0.out.gr hg)
  clear hg
  have cx0 := Kx1.out.c 0 _ rfl
  have cx1 := Kx1.out.c 1 _ rfl
  have cx2 := Kx1.out.c 2 _ rfl
  have cx3 := Kx1.out.c 3 _ rfl
  have lx := Kx1.out.lt
  have cv0 := Kv1.out.c 0 _ rfl
  have cv1 := Kv1.out.c 1 _ rfl
  have cv2 := Kv1.out.c 2 _ rfl
  have lv := Kv1.out.lt
  go_wp2_with fail
  all_goals (try clear cx0 cx1 cx2 cx3 lx cv0 cv1 cv2 lv)
  have cx0 := Kx1.out.c 0 _ rfl
  have cx1 := Kx1.out.c 1 _ rfl
  have cx2 := Kx1.out.c 2 _ rfl
  have cx3 := Kx1.out.c 3 _ rfl
  have lx := Kx1.out.lt
  have cv0 := Kv1.out.c 0 _ rfl
  have cv1 := Kv1.out.c 1 _ rfl
  have cv2 := Kv1.out.c 2 _ rfl
  have lv := Kv1.out.lt
  go_quiet (fail)
  all_goals (try clear cx0 cx1 cx2 cx3 lx cv0 cv1 cv2 lv)
  have g0 : Gr w1 (w1.drewN nq) := (Gr.refl _).drewN nq
  generalize w1.drewN nq = w2 at g0 ⊢
  have S2 := Lib.hid (S1.out.trans g0)
  have Kx2 := Lib.hid (Kx1.out.gr g0)
  have Kv2 := Lib.hid (Kv1.out.gr g0)
  clear g0
  have cx0 := Kx2.out.c 0 _ rfl
  have cx1 := Kx2.out.c 1 _ rfl
  have cx2 := Kx2.out.c 2 _ rfl
  have cx3 := Kx2.out.c 3 _ rfl
  have lx := Kx2.out.lt
  have cv0 := Kv2.out.c 0 _ rfl
  have cv1 := Kv2.out.c 1 _ rfl
  have cv2 := Kv2.out.c 2 _ rfl
  have lv := Kv2.out.lt
  go_wp2_with fail
  all_goals (try clear cx0 cx1 cx2 cx3 lx cv0 cv1 cv2 lv)
  refine (Meas_any o k n t _).mono ?_
  rintro e w3 ⟨rfl, hg⟩
  have S3 := Lib.hid (S2.out.trans hg)
  have Kx3 := Lib.hid (Kx2.out.gr hg)
  have Kv3 := Lib.hid (Kv2.out.gr hg)
  clear hg
  have cx0 := Kx3.out.c 0 _ rfl
  have cx1 := Kx3.out.c 1 _ rfl
  have cx2 := Kx3.out.c 2 _ rfl
  have cx3 := Kx3.out.c 3 _ rfl
  have lx := Kx3.out.lt
  have cv0 := Kv3.out.c 0 _ rfl
  have cv1 := Kv3.out.c 1 _ rfl
  have cv2 := Kv3.out.c 2 _ rfl
  have lv := Kv3.out.lt
  go_wp2_with fail
  all_goals (try clear cx0 cx1 cx2 cx3 lx cv0 cv1 cv2 lv)
  refine (rMeas_any o k n t _).mono ?_
  rintro e w4 ⟨rfl, hg⟩
  have S4 := Lib.hid (S3.out.trans hg)
  have Kx4 := Lib.hid (Kx3.out.gr hg)
  have Kv4 := Lib.hid (Kv3.out.gr hg)
  clear hg
  have cx0 := Kx4.out.c 0 _ rfl
  have cx1 := Kx4.out.c 1 _ rfl
  have cx2 := Kx4.out.c 2 _ rfl
  have cx3 := Kx4.out.c 3 _ rfl
  have lx := Kx4.out.lt
  have cv0 := Kv4.out.c 0 _ rfl
  have cv1 := Kv4.out.c 1 _ rfl
  have cv2 := Kv4.out.c 2 _ rfl
  have lv := Kv4.out.lt
  go_wp2_with fail
  all_goals (try clear cx0 cx1 cx2 cx3 lx cv0 cv1 cv2 lv)
  refine (Hear_any o k s c n t _).mono ?_
  rintro e w5 ⟨rfl, hg⟩
  have S5 := Lib.hid (S4.out.trans hg)
  have Kx5 := Lib.hid (Kx4.out.gr hg)
  have Kv5 := Lib.hid (Kv4.out.gr hg)
  clear hg
  have cx0 := Kx5.out.c 0 _ rfl
  have cx1 := Kx5.out.c 1 _ rfl
  have cx2 := Kx5.out.c 2 _ rfl
  have cx3 := Kx5.out.c 3 _ rfl
  have lx := Kx5.out.lt
  have cv0 := Kv5.out.c 0 _ rfl
  have cv1 := Kv5.out.c 1 _ rfl
  have cv2 := Kv5.out.c 2 _ rfl
  have lv := Kv5.out.lt
  go_wp2_with fail
  all_goals (try clear cx0 cx1 cx2 cx3 lx cv0 cv1 cv2 lv)
  have g0 : Gr w5 ((w5).alloc (Obj.cells #[.int .i64 (he ⟨o, k, s, c⟩ n t).1.o, .int .i64 (he ⟨o, k, s, c⟩ n t).1.k, .int .i64 (he ⟨o, k, s, c⟩ n t).1.s, .int .i64 (he ⟨o, k, s, c⟩ n t).1.c] 45)) := Gr.alloc (Gr.refl w5) _
  have ba : Bx ((w5).alloc (Obj.cells #[.int .i64 (he ⟨o, k, s, c⟩ n t).1.o, .int .i64 (he ⟨o, k, s, c⟩ n t).1.k, .int .i64 (he ⟨o, k, s, c⟩ n t).1.s, .int .i64 (he ⟨o, k, s, c⟩ n t).1.c] 45)) (w5.heap.size) [.int .i64 (he ⟨o, k, s, c⟩ n t).1.o, .int .i64 (he ⟨o, k, s, c⟩ n t).1.k, .int .i64 (he ⟨o, k, s, c⟩ n t).1.s, .int .i64 (he ⟨o, k, s, c⟩ n t).1.c] := Bx.gr (Bx.at_ (Bx.new (w5) [.int .i64 (he ⟨o, k, s, c⟩ n t).1.o, .int .i64 (he ⟨o, k, s, c⟩ n t).1.k, .int .i64 (he ⟨o, k, s, c⟩ n t).1.s, .int .i64 (he ⟨o, k, s, c⟩ n t).1.c] 45) (by simp)) (Gr.refl _)
  generalize (w5).alloc (Obj.cells #[.int .i64 (he ⟨o, k, s, c⟩ n t).1.o, .int .i64 (he ⟨o, k, s, c⟩ n t).1.k, .int .i64 (he ⟨o, k, s, c⟩ n t).1.s, .int .i64 (he ⟨o, k, s, c⟩ n t).1.c] 45) = w6 at g0 ba ⊢
  have S6 := Lib.hid (S5.out.trans g0)
  have Kx6 := Lib.hid (Kx5.out.gr g0)
  have Kv6 := Lib.hid (Kv5.out.gr g0)
  have Ka6 := Lib.hid ba
  clear g0 ba
  have cx0 := Kx6.out.c 0 _ rfl
  have cx1 := Kx6.out.c 1 _ rfl
  have cx2 := Kx6.out.c 2 _ rfl
  have cx3 := Kx6.out.c 3 _ rfl
  have lx := Kx6.out.lt
  have cv0 := Kv6.out.c 0 _ rfl
  have cv1 := Kv6.out.c 1 _ rfl
  have cv2 := Kv6.out.c 2 _ rfl
  have lv := Kv6.out.lt
  have ca0 := Ka6.out.c 0 _ rfl
  have ca1 := Ka6.out.c 1 _ rfl
  have ca2 := Ka6.out.c 2 _ rfl
  have ca3 := Ka6.out.c 3 _ rfl
  have la := Ka6.out.lt
  go_wp2_with fail
  all_goals (try clear cx0 cx1 cx2 cx3 lx cv0 cv1 cv2 lv ca0 ca1 ca2 ca3 la)
  refine (rHear_any o k s c n t _).mono ?_
  rintro e w7 ⟨rfl, hg⟩
  have S7 := Lib.hid (S6.out.trans hg)
  have Kx7 := Lib.hid (Kx6.out.gr hg)
  have Kv7 := Lib.hid (Kv6.out.gr hg)
  have Ka7 := Lib.hid (Ka6.out.gr hg)
  clear hg
  have cx0 := Kx7.out.c 0 _ rfl
  have cx1 := Kx7.out.c 1 _ rfl
  have cx2 := Kx7.out.c 2 _ rfl
  have cx3 := Kx7.out.c 3 _ rfl
  have lx := Kx7.out.lt
  have cv0 := Kv7.out.c 0 _ rfl
  have cv1 := Kv7.out.c 1 _ rfl
  have cv2 := Kv7.out.c 2 _ rfl
  have lv := Kv7.out.lt
  have ca0 := Ka7.out.c 0 _ rfl
  have ca1 := Ka7.out.c 1 _ rfl
  have ca2 := Ka7.out.c 2 _ rfl
  have ca3 := Ka7.out.c 3 _ rfl
  have la := Ka7.out.lt
  go_wp2_with fail
  all_goals (try clear cx0 cx1 cx2 cx3 lx cv0 cv1 cv2 lv ca0 ca1 ca2 ca3 la)
  have g0 : Gr w7 ((w7).alloc (Obj.cells #[.int .i64 (he ⟨o, k, s, c⟩ n t).1.o, .int .i64 (he ⟨o, k, s, c⟩ n t).1.k, .int .i64 (he ⟨o, k, s, c⟩ n t).1.s, .int .i64 (he ⟨o, k, s, c⟩ n t).1.c] 45)) := Gr.alloc (Gr.refl w7) _
  have bb : Bx ((w7).alloc (Obj.cells #[.int .i64 (he ⟨o, k, s, c⟩ n t).1.o, .int .i64 (he ⟨o, k, s, c⟩ n t).1.k, .int .i64 (he ⟨o, k, s, c⟩ n t).1.s, .int .i64 (he ⟨o, k, s, c⟩ n t).1.c] 45)) (w7.heap.size) [.int .i64 (he ⟨o, k, s, c⟩ n t).1.o, .int .i64 (he ⟨o, k, s, c⟩ n t).1.k, .int .i64 (he ⟨o, k, s, c⟩ n t).1.s, .int .i64 (he ⟨o, k, s, c⟩ n t).1.c] := Bx.gr (Bx.at_ (Bx.new (w7) [.int .i64 (he ⟨o, k, s, c⟩ n t).1.o, .int .i64 (he ⟨o, k, s, c⟩ n t).1.k, .int .i64 (he ⟨o, k, s, c⟩ n t).1.s, .int .i64 (he ⟨o, k, s, c⟩ n t).1.c] 45) (by simp)) (Gr.refl _)
  generalize (w7).alloc (Obj.cells #[.int .i64 (he ⟨o, k, s, c⟩ n t).1.o, .int .i64 (he ⟨o, k, s, c⟩ n t).1.k, .int .i64 (he ⟨o, k, s, c⟩ n t).1.s, .int .i64 (he ⟨o, k, s, c⟩ n t).1.c] 45) = w8 at g0 bb ⊢
  have S8 := Lib.hid (S7.out.trans g0)
  have Kx8 := Lib.hid (Kx7.out.gr g0)
  have Kv8 := Lib.hid (Kv7.out.gr g0)
  have Ka8 := Lib.hid (Ka7.out.gr g0)
  have Kb8 := Lib.hid bb
  clear g0 bb
  have cx0 := Kx8.out.c 0 _ rfl
  have cx1 := Kx8.out.c 1 _ rfl
  have cx2 := Kx8.out.c 2 _ rfl
  have cx3 := Kx8.out.c 3 _ rfl
  have lx := Kx8.out.lt
  have cv0 := Kv8.out.c 0 _ rfl
  have cv1 := Kv8.out.c 1 _ rfl
  have cv2 := Kv8.out.c 2 _ rfl
  have lv := Kv8.out.lt
  have ca0 := Ka8.out.c 0 _ rfl
  have ca1 := Ka8.out.c 1 _ rfl
  have ca2 := Ka8.out.c 2 _ rfl
  have ca3 := Ka8.out.c 3 _ rfl
  have la := Ka8.out.lt
  have cb0 := Kb8.out.c 0 _ rfl
  have cb1 := Kb8.out.c 1 _ rfl
  have cb2 := Kb8.out.c 2 _ rfl
  have cb3 := Kb8.out.c 3 _ rfl
  have lb := Kb8.out.lt
  go_wp2_with fail
  all_goals (try clear cx0 cx1 cx2 cx3 lx cv0 cv1 cv2 lv ca0 ca1 ca2 ca3 la cb0 cb1 cb2 cb3 lb)
  refine (Acked_any o k s c n d _).mono ?_
  rintro e w9 ⟨rfl, hg⟩
  have S9 := Lib.hid (S8.out.trans hg)
  have Kx9 := Lib.hid (Kx8.out.gr hg)
  have Kv9 := Lib.hid (Kv8.out.gr hg)
  have Ka9 := Lib.hid (Ka8.out.gr hg)
  have Kb9 := Lib.hid (Kb8.out.gr hg)
  clear hg
  have cx0 := Kx9.out.c 0 _ rfl
  have cx1 := Kx9.out.c 1 _ rfl
  have cx2 := Kx9.out.c 2 _ rfl
  have cx3 := Kx9.out.c 3 _ rfl
  have lx := Kx9.out.lt
  have cv0 := Kv9.out.c 0 _ rfl
  have cv1 := Kv9.out.c 1 _ rfl
  have cv2 := Kv9.out.c 2 _ rfl
  have lv := Kv9.out.lt
  have ca0 := Ka9.out.c 0 _ rfl
  have ca1 := Ka9.out.c 1 _ rfl
  have ca2 := Ka9.out.c 2 _ rfl
  have ca3 := Ka9.out.c 3 _ rfl
  have la := Ka9.out.lt
  have cb0 := Kb9.out.c 0 _ rfl
  have cb1 := Kb9.out.c 1 _ rfl
  have cb2 := Kb9.out.c 2 _ rfl
  have cb3 := Kb9.out.c 3 _ rfl
  have lb := Kb9.out.lt
  go_wp2_with fail
  all_goals (try clear cx0 cx1 cx2 cx3 lx cv0 cv1 cv2 lv ca0 ca1 ca2 ca3 la cb0 cb1 cb2 cb3 lb)
  have g0 : Gr w9 ((w9).alloc (Obj.cells #[.int .i64 (ac ⟨o, k, s, c⟩ n d).1.o, .int .i64 (ac ⟨o, k, s, c⟩ n d).1.k, .int .i64 (ac ⟨o, k, s, c⟩ n d).1.s, .int .i64 (ac ⟨o, k, s, c⟩ n d).1.c] 45)) := Gr.alloc (Gr.refl w9) _
  have bu : Bx ((w9).alloc (Obj.cells #[.int .i64 (ac ⟨o, k, s, c⟩ n d).1.o, .int .i64 (ac ⟨o, k, s, c⟩ n d).1.k, .int .i64 (ac ⟨o, k, s, c⟩ n d).1.s, .int .i64 (ac ⟨o, k, s, c⟩ n d).1.c] 45)) (w9.heap.size) [.int .i64 (ac ⟨o, k, s, c⟩ n d).1.o, .int .i64 (ac ⟨o, k, s, c⟩ n d).1.k, .int .i64 (ac ⟨o, k, s, c⟩ n d).1.s, .int .i64 (ac ⟨o, k, s, c⟩ n d).1.c] := Bx.gr (Bx.at_ (Bx.new (w9) [.int .i64 (ac ⟨o, k, s, c⟩ n d).1.o, .int .i64 (ac ⟨o, k, s, c⟩ n d).1.k, .int .i64 (ac ⟨o, k, s, c⟩ n d).1.s, .int .i64 (ac ⟨o, k, s, c⟩ n d).1.c] 45) (by simp)) (Gr.refl _)
  generalize (w9).alloc (Obj.cells #[.int .i64 (ac ⟨o, k, s, c⟩ n d).1.o, .int .i64 (ac ⟨o, k, s, c⟩ n d).1.k, .int .i64 (ac ⟨o, k, s, c⟩ n d).1.s, .int .i64 (ac ⟨o, k, s, c⟩ n d).1.c] 45) = w10 at g0 bu ⊢
  have S10 := Lib.hid (S9.out.trans g0)
  have Kx10 := Lib.hid (Kx9.out.gr g0)
  have Kv10 := Lib.hid (Kv9.out.gr g0)
  have Ka10 := Lib.hid (Ka9.out.gr g0)
  have Kb10 := Lib.hid (Kb9.out.gr g0)
  have Ku10 := Lib.hid bu
  clear g0 bu
  have cx0 := Kx10.out.c 0 _ rfl
  have cx1 := Kx10.out.c 1 _ rfl
  have cx2 := Kx10.out.c 2 _ rfl
  have cx3 := Kx10.out.c 3 _ rfl
  have lx := Kx10.out.lt
  have cv0 := Kv10.out.c 0 _ rfl
  have cv1 := Kv10.out.c 1 _ rfl
  have cv2 := Kv10.out.c 2 _ rfl
  have lv := Kv10.out.lt
  have ca0 := Ka10.out.c 0 _ rfl
  have ca1 := Ka10.out.c 1 _ rfl
  have ca2 := Ka10.out.c 2 _ rfl
  have ca3 := Ka10.out.c 3 _ rfl
  have la := Ka10.out.lt
  have cb0 := Kb10.out.c 0 _ rfl
  have cb1 := Kb10.out.c 1 _ rfl
  have cb2 := Kb10.out.c 2 _ rfl
  have cb3 := Kb10.out.c 3 _ rfl
  have lb := Kb10.out.lt
  have cu0 := Ku10.out.c 0 _ rfl
  have cu1 := Ku10.out.c 1 _ rfl
  have cu2 := Ku10.out.c 2 _ rfl
  have cu3 := Ku10.out.c 3 _ rfl
  have lu := Ku10.out.lt
  go_wp2_with fail
  all_goals (try clear cx0 cx1 cx2 cx3 lx cv0 cv1 cv2 lv ca0 ca1 ca2 ca3 la cb0 cb1 cb2 cb3 lb cu0 cu1 cu2 cu3 lu)
  refine (rAcked_any o k s c n d _).mono ?_
  rintro e w11 ⟨rfl, hg⟩
  have S11 := Lib.hid (S10.out.trans hg)
  have Kx11 := Lib.hid (Kx10.out.gr hg)
  have Kv11 := Lib.hid (Kv10.out.gr hg)
  have Ka11 := Lib.hid (Ka10.out.gr hg)
  have Kb11 := Lib.hid (Kb10.out.gr hg)
  have Ku11 := Lib.hid (Ku10.out.gr hg)
  clear hg
  have cx0 := Kx11.out.c 0 _ rfl
  have cx1 := Kx11.out.c 1 _ rfl
  have cx2 := Kx11.out.c 2 _ rfl
  have cx3 := Kx11.out.c 3 _ rfl
  have lx := Kx11.out.lt
  have cv0 := Kv11.out.c 0 _ rfl
  have cv1 := Kv11.out.c 1 _ rfl
  have cv2 := Kv11.out.c 2 _ rfl
  have lv := Kv11.out.lt
  have ca0 := Ka11.out.c 0 _ rfl
  have ca1 := Ka11.out.c 1 _ rfl
  have ca2 := Ka11.out.c 2 _ rfl
  have ca3 := Ka11.out.c 3 _ rfl
  have la := Ka11.out.lt
  have cb0 := Kb11.out.c 0 _ rfl
  have cb1 := Kb11.out.c 1 _ rfl
  have cb2 := Kb11.out.c 2 _ rfl
  have cb3 := Kb11.out.c 3 _ rfl
  have lb := Kb11.out.lt
  have cu0 := Ku11.out.c 0 _ rfl
  have cu1 := Ku11.out.c 1 _ rfl
  have cu2 := Ku11.out.c 2 _ rfl
  have cu3 := Ku11.out.c 3 _ rfl
  have lu := Ku11.out.lt
  go_wp2_with fail
  all_goals (try clear cx0 cx1 cx2 cx3 lx cv0 cv1 cv2 lv ca0 ca1 ca2 ca3 la cb0 cb1 cb2 cb3 lb cu0 cu1 cu2 cu3 lu)
  have g0 : Gr w11 ((w11).alloc (Obj.cells #[.int .i64 (ac ⟨o, k, s, c⟩ n d).1.o, .int .i64 (ac ⟨o, k, s, c⟩ n d).1.k, .int .i64 (ac ⟨o, k, s, c⟩ n d).1.s, .int .i64 (ac ⟨o, k, s, c⟩ n d).1.c] 45)) := Gr.alloc (Gr.refl w11) _
  have be : Bx ((w11).alloc (Obj.cells #[.int .i64 (ac ⟨o, k, s, c⟩ n d).1.o, .int .i64 (ac ⟨o, k, s, c⟩ n d).1.k, .int .i64 (ac ⟨o, k, s, c⟩ n d).1.s, .int .i64 (ac ⟨o, k, s, c⟩ n d).1.c] 45)) (w11.heap.size) [.int .i64 (ac ⟨o, k, s, c⟩ n d).1.o, .int .i64 (ac ⟨o, k, s, c⟩ n d).1.k, .int .i64 (ac ⟨o, k, s, c⟩ n d).1.s, .int .i64 (ac ⟨o, k, s, c⟩ n d).1.c] := Bx.gr (Bx.at_ (Bx.new (w11) [.int .i64 (ac ⟨o, k, s, c⟩ n d).1.o, .int .i64 (ac ⟨o, k, s, c⟩ n d).1.k, .int .i64 (ac ⟨o, k, s, c⟩ n d).1.s, .int .i64 (ac ⟨o, k, s, c⟩ n d).1.c] 45) (by simp)) (Gr.refl _)
  generalize (w11).alloc (Obj.cells #[.int .i64 (ac ⟨o, k, s, c⟩ n d).1.o, .int .i64 (ac ⟨o, k, s, c⟩ n d).1.k, .int .i64 (ac ⟨o, k, s, c⟩ n d).1.s, .int .i64 (ac ⟨o, k, s, c⟩ n d).1.c] 45) = w12 at g0 be ⊢
  have S12 := Lib.hid (S11.out.trans g0)
  have Kx12 := Lib.hid (Kx11.out.gr g0)
  have Kv12 := Lib.hid (Kv11.out.gr g0)
  have Ka12 := Lib.hid (Ka11.out.gr g0)
  have Kb12 := Lib.hid (Kb11.out.gr g0)
  have Ku12 := Lib.hid (Ku11.out.gr g0)
  have Ke12 := Lib.hid be
  clear g0 be
  have cx0 := Kx12.out.c 0 _ rfl
  have cx1 := Kx12.out.c 1 _ rfl
  have cx2 := Kx12.out.c 2 _ rfl
  have cx3 := Kx12.out.c 3 _ rfl
  have lx := Kx12.out.lt
  have cv0 := Kv12.out.c 0 _ rfl
  have cv1 := Kv12.out.c 1 _ rfl
  have cv2 := Kv12.out.c 2 _ rfl
  have lv := Kv12.out.lt
  have ca0 := Ka12.out.c 0 _ rfl
  have ca1 := Ka12.out.c 1 _ rfl
  have ca2 := Ka12.out.c 2 _ rfl
  have ca3 := Ka12.out.c 3 _ rfl
  have la := Ka12.out.lt
  have cb0 := Kb12.out.c 0 _ rfl
  have cb1 := Kb12.out.c 1 _ rfl
  have cb2 := Kb12.out.c 2 _ rfl
  have cb3 := Kb12.out.c 3 _ rfl
  have lb := Kb12.out.lt
  have cu0 := Ku12.out.c 0 _ rfl
  have cu1 := Ku12.out.c 1 _ rfl
  have cu2 := Ku12.out.c 2 _ rfl
  have cu3 := Ku12.out.c 3 _ rfl
  have lu := Ku12.out.lt
  have ce0 := Ke12.out.c 0 _ rfl
  have ce1 := Ke12.out.c 1 _ rfl
  have ce2 := Ke12.out.c 2 _ rfl
  have ce3 := Ke12.out.c 3 _ rfl
  have le := Ke12.out.lt
  go_wp2_with fail
  all_goals (try clear cx0 cx1 cx2 cx3 lx cv0 cv1 cv2 lv ca0 ca1 ca2 ca3 la cb0 cb1 cb2 cb3 lb cu0 cu1 cu2 cu3 lu ce0 ce1 ce2 ce3 le)
  clear Kx0 Kv0 Kx1 Kv1 Kx2 Kv2 Kx3 Kv3 Kx4 Kv4 Kx5 Kv5 Kx6 Kv6 Ka6 Kx7 Kv7 Ka7 Kx8 Kv8 Ka8 Kb8 Kx9 Kv9 Ka9 Kb9 Kx10 Kv10 Ka10 Kb10 Ku10 Kx11 Kv11 Ka11 Kb11 Ku11 Kv12 S0 S1 S2 S3 S4 S5 S6 S7 S8 S9 S10 S11
  have cx0 := Kx12.out.c 0 _ rfl
  have cx1 := Kx12.out.c 1 _ rfl
  have cx2 := Kx12.out.c 2 _ rfl
  have cx3 := Kx12.out.c 3 _ rfl
  have lx := Kx12.out.lt
  have ca0 := Ka12.out.c 0 _ rfl
  have ca1 := Ka12.out.c 1 _ rfl
  have ca2 := Ka12.out.c 2 _ rfl
  have ca3 := Ka12.out.c 3 _ rfl
  have la := Ka12.out.lt
  have cb0 := Kb12.out.c 0 _ rfl
  have cb1 := Kb12.out.c 1 _ rfl
  have cb2 := Kb12.out.c 2 _ rfl
  have cb3 := Kb12.out.c 3 _ rfl
  have lb := Kb12.out.lt
  have cu0 := Ku12.out.c 0 _ rfl
  have cu1 := Ku12.out.c 1 _ rfl
  have cu2 := Ku12.out.c 2 _ rfl
  have cu3 := Ku12.out.c 3 _ rfl
  have lu := Ku12.out.lt
  have ce0 := Ke12.out.c 0 _ rfl
  have ce1 := Ke12.out.c 1 _ rfl
  have ce2 := Ke12.out.c 2 _ rfl
  have ce3 := Ke12.out.c 3 _ rfl
  have le := Ke12.out.lt
  have hJ : ∀ Z, Gr w12 Z → (Z.cell? ⟨w.heap.size, 0, none⟩ = some (.int .i64 o) ∧ Z.cell? ⟨w.heap.size, 1, none⟩ = some (.int .i64 k) ∧ Z.cell? ⟨w.heap.size, 2, none⟩ = some (.int .i64 s) ∧ Z.cell? ⟨w.heap.size, 3, none⟩ = some (.int .i64 c) ∧ Z.cell? ⟨w5.heap.size, 0, none⟩ = some (.int .i64 (he ⟨o, k, s, c⟩ n t).1.o) ∧ Z.cell? ⟨w5.heap.size, 1, none⟩ = some (.int .i64 (he ⟨o, k, s, c⟩ n t).1.k) ∧ Z.cell? ⟨w5.heap.size, 2, none⟩ = some (.int .i64 (he ⟨o, k, s, c⟩ n t).1.s) ∧ Z.cell? ⟨w5.heap.size, 3, none⟩ = some (.int .i64 (he ⟨o, k, s, c⟩ n t).1.c) ∧ Z.cell? ⟨w7.heap.size, 0, none⟩ = some (.int .i64 (he ⟨o, k, s, c⟩ n t).1.o) ∧ Z.cell? ⟨w7.heap.size, 1, none⟩ = some (.int .i64 (he ⟨o, k, s, c⟩ n t).1.k) ∧ Z.cell? ⟨w7.heap.size, 2, none⟩ = some (.int .i64 (he ⟨o, k, s, c⟩ n t).1.s) ∧ Z.cell? ⟨w7.heap.size, 3, none⟩ = some (.int .i64 (he ⟨o, k, s, c⟩ n t).1.c) ∧ Z.cell? ⟨w9.heap.size, 0, none⟩ = some (.int .i64 (ac ⟨o, k, s, c⟩ n d).1.o) ∧ Z.cell? ⟨w9.heap.size, 1, none⟩ = some (.int .i64 (ac ⟨o, k, s, c⟩ n d).1.k) ∧ Z.cell? ⟨w9.heap.size, 2, none⟩ = some (.int .i64 (ac ⟨o, k, s, c⟩ n d).1.s) ∧ Z.cell? ⟨w9.heap.size, 3, none⟩ = some (.int .i64 (ac ⟨o, k, s, c⟩ n d).1.c) ∧ Z.cell? ⟨w11.heap.size, 0, none⟩ = some (.int .i64 (ac ⟨o, k, s, c⟩ n d).1.o) ∧ Z.cell? ⟨w11.heap.size, 1, none⟩ = some (.int .i64 (ac ⟨o, k, s, c⟩ n d).1.k) ∧ Z.cell? ⟨w11.heap.size, 2, none⟩ = some (.int .i64 (ac ⟨o, k, s, c⟩ n d).1.s) ∧ Z.cell? ⟨w11.heap.size, 3, none⟩ = some (.int .i64 (ac ⟨o, k, s, c⟩ n d).1.c) ∧ Hid (Gr w12 Z)) := fun Z g => ⟨(Kx12.out.gr g).c 0 _ rfl, (Kx12.out.gr g).c 1 _ rfl, (Kx12.out.gr g).c 2 _ rfl, (Kx12.out.gr g).c 3 _ rfl, (Ka12.out.gr g).c 0 _ rfl, (Ka12.out.gr g).c 1 _ rfl, (Ka12.out.gr g).c 2 _ rfl, (Ka12.out.gr g).c 3 _ rfl, (Kb12.out.gr g).c 0 _ rfl, (Kb12.out.gr g).c 1 _ rfl, (Kb12.out.gr g).c 2 _ rfl, (Kb12.out.gr g).c 3 _ rfl, (Ku12.out.gr g).c 0 _ rfl, (Ku12.out.gr g).c 1 _ rfl, (Ku12.out.gr g).c 2 _ rfl, (Ku12.out.gr g).c 3 _ rfl, (Ke12.out.gr g).c 0 _ rfl, (Ke12.out.gr g).c 1 _ rfl, (Ke12.out.gr g).c 2 _ rfl, (Ke12.out.gr g).c 3 _ rfl, Lib.hid g⟩
  have HJ := Lib.hid hJ
  clear hJ
  have gr0 := Lib.hid (Gr.refl w12).drew
  go_region_held3 (fun Z => Z.cell? ⟨w.heap.size, 0, none⟩ = some (.int .i64 o) ∧ Z.cell? ⟨w.heap.size, 1, none⟩ = some (.int .i64 k) ∧ Z.cell? ⟨w.heap.size, 2, none⟩ = some (.int .i64 s) ∧ Z.cell? ⟨w.heap.size, 3, none⟩ = some (.int .i64 c) ∧ Z.cell? ⟨w5.heap.size, 0, none⟩ = some (.int .i64 (he ⟨o, k, s, c⟩ n t).1.o) ∧ Z.cell? ⟨w5.heap.size, 1, none⟩ = some (.int .i64 (he ⟨o, k, s, c⟩ n t).1.k) ∧ Z.cell? ⟨w5.heap.size, 2, none⟩ = some (.int .i64 (he ⟨o, k, s, c⟩ n t).1.s) ∧ Z.cell? ⟨w5.heap.size, 3, none⟩ = some (.int .i64 (he ⟨o, k, s, c⟩ n t).1.c) ∧ Z.cell? ⟨w7.heap.size, 0, none⟩ = some (.int .i64 (he ⟨o, k, s, c⟩ n t).1.o) ∧ Z.cell? ⟨w7.heap.size, 1, none⟩ = some (.int .i64 (he ⟨o, k, s, c⟩ n t).1.k) ∧ Z.cell? ⟨w7.heap.size, 2, none⟩ = some (.int .i64 (he ⟨o, k, s, c⟩ n t).1.s) ∧ Z.cell? ⟨w7.heap.size, 3, none⟩ = some (.int .i64 (he ⟨o, k, s, c⟩ n t).1.c) ∧ Z.cell? ⟨w9.heap.size, 0, none⟩ = some (.int .i64 (ac ⟨o, k, s, c⟩ n d).1.o) ∧ Z.cell? ⟨w9.heap.size, 1, none⟩ = some (.int .i64 (ac ⟨o, k, s, c⟩ n d).1.k) ∧ Z.cell? ⟨w9.heap.size, 2, none⟩ = some (.int .i64 (ac ⟨o, k, s, c⟩ n d).1.s) ∧ Z.cell? ⟨w9.heap.size, 3, none⟩ = some (.int .i64 (ac ⟨o, k, s, c⟩ n d).1.c) ∧ Z.cell? ⟨w11.heap.size, 0, none⟩ = some (.int .i64 (ac ⟨o, k, s, c⟩ n d).1.o) ∧ Z.cell? ⟨w11.heap.size, 1, none⟩ = some (.int .i64 (ac ⟨o, k, s, c⟩ n d).1.k) ∧ Z.cell? ⟨w11.heap.size, 2, none⟩ = some (.int .i64 (ac ⟨o, k, s, c⟩ n d).1.s) ∧ Z.cell? ⟨w11.heap.size, 3, none⟩ = some (.int .i64 (ac ⟨o, k, s, c⟩ n d).1.c) ∧ Hid (Gr w12 Z)) (first | exact ⟨‹_›, ‹_›, ‹_›, ‹_›, ‹_›, ‹_›, ‹_›, ‹_›, ‹_›, ‹_›, ‹_›, ‹_›, ‹_›, ‹_›, ‹_›, ‹_›, ‹_›, ‹_›, ‹_›, ‹_›, ‹_›⟩)
    (first
      | (go_at_call 66; refine (keepJ _ HJ.out (Tck_any o k s c _) (by go_split_ands; assumption)).mono ?_; rintro e wz ⟨rfl, q0, q1, q2, q3, q4, q5, q6, q7, q8, q9, q10, q11, q12, q13, q14, q15, q16, q17, q18, q19, q20⟩)
      | (go_at_call 67; refine (keepJ _ HJ.out (rTck_any o k s c _) (by go_split_ands; assumption)).mono ?_; rintro e wz ⟨rfl, q0, q1, q2, q3, q4, q5, q6, q7, q8, q9, q10, q11, q12, q13, q14, q15, q16, q17, q18, q19, q20⟩)
      | (go_at_call 68; refine (keepJ _ HJ.out (Syn_any o k s c n d _ N1) (by go_split_ands; assumption)).mono ?_; rintro e wz ⟨rfl, q0, q1, q2, q3, q4, q5, q6, q7, q8, q9, q10, q11, q12, q13, q14, q15, q16, q17, q18, q19, q20⟩)
      | (go_at_call 69; refine (keepJ _ HJ.out (rSyn_any o k s c n d _ N1) (by go_split_ands; assumption)).mono ?_; rintro e wz ⟨rfl, q0, q1, q2, q3, q4, q5, q6, q7, q8, q9, q10, q11, q12, q13, q14, q15, q16, q17, q18, q19, q20⟩))
  go_wp2
  go_ret
  exact ⟨rfl, S12.out.trans q20.out⟩

set_option maxRecDepth 100000 in
set_option maxHeartbeats 1000000 in
theorem TimesyncCorrects_lifted (os : Os) (started : os.Started) (H : Type) (enc : TypeId × Value → H) :
    ReturnsInHanded {} Try.checked os 13 .any (Rows.timesyncCorrectsSpec.pre6 enc Try.prog Try.f13 Rows.timesyncCorrectsRow.domain false) (Rows.timesyncCorrectsSpec.post enc Try.prog Try.f13 false true false false) := by
  refine returnsInHanded_of_change (C := Try.checked) Try.own started (by kernel_rfl) Try.func13
    (ChangeSpec.witness6 (enc := enc) (C := Try.checked) false ⟨#[], #[.agg #[.int .i64 0, .int .i64 0, .int .i64 0, .int .i64 0], .agg #[.int .i64 0, .int .i64 0, .int .i64 0]], []⟩ 8 (by kernel_rfl) (by kernel_rfl) (by kernel_rfl) (by kernel_rfl)) ?_
  intro W base args ds gs before hval0 hW hcnd _
  have hval : ∀ (j : Nat) t v, Try.f13.params[j]? = some t → args[j]? = some v → Value.okWide Try.prog W .any base t v := hval0
  have hW' := hW
  obtain ⟨p, q, hA0, hV, rfl, hfz, hnd⟩ := hW
  have hA : DataW.TrodAll enc Try.prog W 0 (fun _ => true) true Try.f13.params.toList args.toList ds p := hA0
  rw [Try.params13] at hA hval
  have hAk := hA
  obtain ⟨v0, vs0, d0, ds0, p0, q0, hargs, rfl, rfl, h0, r0⟩ := trodAll_cons hA
  obtain ⟨v1, vs1, d1, ds1, p1, q1, rfl, rfl, rfl, h1, r1⟩ := trodAll_cons r0
  obtain ⟨rfl, rfl, rfl⟩ := trodAll_nil r1
  obtain rfl : args = #[v0, v1] := by cases args; simp_all
  obtain ⟨rfl, rfl⟩ := trodVars_none hV
  obtain ⟨o, k, s, c, rfl, wfo, wfk, wfs, wfc⟩ := open_synced (hval 0 45 v0 rfl rfl) h0
  obtain ⟨n, t, d, rfl, wfn, wft, wfd⟩ := open_a3 Try.underlying62 Try.underlying3 (by kernel_rfl) (by kernel_rfl) (hval 1 62 v1 rfl rfl) h1
  clear hA0 hval0
  simp only [List.append_nil] at hW'
  refine (TimesyncCorrects_walk o k s c n t d W (wf_hi wfn)).mono fun e W' ⟨he, hg⟩ => ?_
  subst he
  have hb : Below W.heap.size W W' := hg
  exact ⟨_, rfl, _, _, _, [], _, [], hW', trodAll_mk1 (shut_bool Try.underlying4 _), trodAll_stays Try.laidOut hb _ _ _ _ (by intro t ht; simp at ht; rcases ht with rfl | rfl <;> exact ⟨by kernel_rfl, of_decide_eq_true (by kernel_rfl)⟩) hAk (fun x hx => by simpa using hW'.lt x (by simpa using hx)), rfl, hb.frame _, fun h => by cases h⟩

theorem TimesyncCorrects_closed : joinedFacts Try.pinned.checked.prog 13 Try.f13 Rows.timesyncCorrectsSpec Rows.timesyncCorrectsRow = true := by
  unfold joinedFacts
  exact (and_tt (and_tt (and_tt (and_tt (and_tt (and_tt (and_tt (and_tt (and_tt (and_tt (and_tt (and_tt (and_tt (and_tt (and_tt (and_tt (and_tt (and_tt (and_tt (and_tt (and_tt (and_tt (and_tt (and_tt (and_tt (and_tt (and_tt (and_tt (and_tt (and_tt (and_tt (by as_aux_lemma => kernel_rfl) (J_laid)) (J_maps)) (by as_aux_lemma => kernel_rfl)) (by as_aux_lemma => kernel_rfl)) (by as_aux_lemma => kernel_rfl)) (J_stops)) (by as_aux_lemma => kernel_rfl)) (J_knobs)) (by as_aux_lemma => kernel_rfl)) (by as_aux_lemma => kernel_rfl)) (by as_aux_lemma => kernel_rfl)) (by as_aux_lemma => kernel_rfl)) (by as_aux_lemma => kernel_rfl)) (by as_aux_lemma => kernel_rfl)) (by as_aux_lemma => kernel_rfl)) (by as_aux_lemma => kernel_rfl)) (by as_aux_lemma => kernel_rfl)) (by as_aux_lemma => kernel_rfl)) (by as_aux_lemma => kernel_rfl)) (by as_aux_lemma => kernel_rfl)) (by as_aux_lemma => kernel_rfl)) (J_keys)) (by as_aux_lemma => kernel_rfl)) (J_heard)) (J_enter)) (J_lifts)) (J_make)) (by as_aux_lemma => kernel_rfl)) (by as_aux_lemma => kernel_rfl)) (by as_aux_lemma => kernel_rfl)) (by as_aux_lemma => kernel_rfl))

/-- THE STATEMENT TimesyncCorrects. -/
theorem TimesyncCorrects_holds : Rows.TimesyncCorrectsSaid :=
  OpenClaim.holds_of_wide 13 Try.f13 rfl rfl rfl rfl rfl rfl rfl ⟨rfl, rfl, rfl, rfl, rfl⟩ rfl rfl rfl rfl rfl (by kernel_rfl) Try.func13 TimesyncCorrects_closed
    (of_decide_eq_true (by kernel_rfl)) (by unfold Func.isWrapper; rw [if_neg (of_decide_eq_false (by kernel_rfl))]; exact ⟨rfl, rfl⟩)
    (fun os started H enc _ => TimesyncCorrects_lifted os started H enc)
#print axioms TimesyncCorrects_holds
end Go.Proofs.Ytpnigndobhbfnaa
