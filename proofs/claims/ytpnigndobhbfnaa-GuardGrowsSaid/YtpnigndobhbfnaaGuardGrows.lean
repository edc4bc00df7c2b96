/- GuardGrows: if two clocks with drifts within the bound differ by at most 1 at some time, they differ by at most 1 + the growth a time later. For every input the call returns true and each argument reads afterwards as it read before (no condition). -/
import Derived.Test.YtpnigndobhbfnaaGrdE
import Derived.Test.YtpnigndobhbfnaaFrame
set_option linter.unnecessarySimpa false
namespace Go.Proofs.Ytpnigndobhbfnaa
open Go.ChangeShapes Go.WideShapes Go.ChangeAt Go.RowKit Go.Joins
theorem Growth_bad (t k : Int) (w : World) (h : ¬ (inDrift k ∧ 0 ≤ t ∧ t ≤ 1099511627776)) : Calls Try.prog 55 #[.int .i64 t, .int .i64 k] w fun e w' => e = .returned (.tuple #[.int .i64 0, .int .i64 2]) ∧ Gr w w' := by
  have := Growth_any t k w
  unfold ggN ggE at this
  simpa only [if_neg h] using this
theorem Adjust_bad9 (o d b : Int) (w : World) (h : ¬ adOk o d b) :
    Calls Try.prog 56 #[.agg #[.int .i64 o, .int .i64 d], .int .i64 b] w fun e w' => e = .returned (.tuple #[.agg #[.int .i64 0, .int .i64 0], .int .i64 1]) ∧ Gr w w' := by
  have := Adjust_any o d b w
  unfold adO adD adE at this
  simpa only [if_neg h] using this
theorem Apart_bad9 (oa da ob db t : Int) (w : World) (h : ¬ (Vc oa da ∧ Vc ob db)) :
    Calls Try.prog 58 #[.agg #[.int .i64 oa, .int .i64 da], .agg #[.int .i64 ob, .int .i64 db], .int .i64 t] w fun e w' => e = .returned (.tuple #[.int .i64 0, .int .i64 1]) ∧ Gr w w' := by
  by_cases ha : Vc oa da
  · exact Apart_arg2 oa da ob db t w ha (fun hb => h ⟨ha, hb⟩)
  · exact Apart_arg1 oa da ob db t w ha

set_option maxHeartbeats 1000000 in
theorem GuardGrows_no (oa da ob db t u k : Int) (w : World) (h : ¬ (inDrift k ∧ 0 ≤ u ∧ u ≤ 1099511627776)) :
    Calls Try.prog 22 #[.agg #[.int .i64 oa, .int .i64 da], .agg #[.int .i64 ob, .int .i64 db], .agg #[.int .i64 t, .int .i64 u, .int .i64 k]] w fun e w' => e = .returned (.bool true) ∧ Gr w w' := by
  have H := Lib.hid h
  clear h
  go_enter Try.func22, Try.ntmps22
  go_wp2_with fail
  have g0 : Gr w ((((w).alloc (Obj.cells #[.int .i64 oa, .int .i64 da] 23)).alloc (Obj.cells #[.int .i64 ob, .int .i64 db] 23)).alloc (Obj.cells #[.int .i64 t, .int .i64 u, .int .i64 k] 62)) := Gr.alloc (Gr.alloc (Gr.alloc (Gr.refl w) _) _) _
  have ba : Bx ((((w).alloc (Obj.cells #[.int .i64 oa, .int .i64 da] 23)).alloc (Obj.cells #[.int .i64 ob, .int .i64 db] 23)).alloc (Obj.cells #[.int .i64 t, .int .i64 u, .int .i64 k] 62)) (w.heap.size) [.int .i64 oa, .int .i64 da] := Bx.gr (Bx.at_ (Bx.new (w) [.int .i64 oa, .int .i64 da] 23) (by simp)) (Gr.alloc (Gr.alloc (Gr.refl _) _) _)
  have bb : Bx ((((w).alloc (Obj.cells #[.int .i64 oa, .int .i64 da] 23)).alloc (Obj.cells #[.int .i64 ob, .int .i64 db] 23)).alloc (Obj.cells #[.int .i64 t, .int .i64 u, .int .i64 k] 62)) (w.heap.size + 1) [.int .i64 ob, .int .i64 db] := Bx.gr (Bx.at_ (Bx.new ((w).alloc (Obj.cells #[.int .i64 oa, .int .i64 da] 23)) [.int .i64 ob, .int .i64 db] 23) (by simp)) (Gr.alloc (Gr.refl _) _)
  have bv : Bx ((((w).alloc (Obj.cells #[.int .i64 oa, .int .i64 da] 23)).alloc (Obj.cells #[.int .i64 ob, .int .i64 db] 23)).alloc (Obj.cells #[.int .i64 t, .int .i64 u, .int .i64 k] 62)) (w.heap.size + 1 + 1) [.int .i64 t, .int .i64 u, .int .i64 k] := Bx.gr (Bx.at_ (Bx.new (((w).alloc (Obj.cells #[.int .i64 oa, .int .i64 da] 23)).alloc (Obj.cells #[.int .i64 ob, .int .i64 db] 23)) [.int .i64 t, .int .i64 u, .int .i64 k] 62) (by simp)) (Gr.refl _)
  generalize (((w).alloc (Obj.cells #[.int .i64 oa, .int .i64 da] 23)).alloc (Obj.cells #[.int .i64 ob, .int .i64 db] 23)).alloc (Obj.cells #[.int .i64 t, .int .i64 u, .int .i64 k] 62) = W at g0 ba bb bv ⊢
  have S0 := Lib.hid g0
  have Ka0 := Lib.hid ba
  have Kb0 := Lib.hid bb
  have Kv0 := Lib.hid bv
  clear g0 ba bb bv
  refine (awake09 _).mono ?_
  rintro e w1 ⟨rfl, hg⟩
  have S1 := Lib.hid (S0.out.trans hg)
  have Ka1 := Lib.hid (Ka0.out.gr hg)
  have Kb1 := Lib.hid (Kb0.out.gr hg)
  have Kv1 := Lib.hid (Kv0.out.gr hg)
  clear hg
  have ca0 := Ka1.out.c 0 _ rfl
  have ca1 := Ka1.out.c 1 _ rfl
  have la := Ka1.out.lt
  have cb0 := Kb1.out.c 0 _ rfl
  have cb1 := Kb1.out.c 1 _ rfl
  have lb := Kb1.out.lt
  have cv0 := Kv1.out.c 0 _ rfl
  have cv1 := Kv1.out.c 1 _ rfl
  have cv2 := Kv1.out.c 2 _ rfl
  have lv := Kv1.out.lt
  go_wp2_with fail
  all_goals (try clear ca0 ca1 la cb0 cb1 lb cv0 cv1 cv2 lv)
  have ca0 := Ka1.out.c 0 _ rfl
  have ca1 := Ka1.out.c 1 _ rfl
  have la := Ka1.out.lt
  have cb0 := Kb1.out.c 0 _ rfl
  have cb1 := Kb1.out.c 1 _ rfl
  have lb := Kb1.out.lt
  have cv0 := Kv1.out.c 0 _ rfl
  have cv1 := Kv1.out.c 1 _ rfl
  have cv2 := Kv1.out.c 2 _ rfl
  have lv := Kv1.out.lt
  go_quiet (fail)
  all_goals (try clear ca0 ca1 la cb0 cb1 lb cv0 cv1 cv2 lv)
  have g0 : Gr w1 (w1.drewN nq) := (Gr.refl _).drewN nq
  generalize w1.drewN nq = w2 at g0 ⊢
  have S2 := Lib.hid (S1.out.trans g0)
  have Ka2 := Lib.hid (Ka1.out.gr g0)
  have Kb2 := Lib.hid (Kb1.out.gr g0)
  have Kv2 := Lib.hid (Kv1.out.gr g0)
  clear g0
  have ca0 := Ka2.out.c 0 _ rfl
  have ca1 := Ka2.out.c 1 _ rfl
  have la := Ka2.out.lt
  have cb0 := Kb2.out.c 0 _ rfl
  have cb1 := Kb2.out.c 1 _ rfl
  have lb := Kb2.out.lt
  have cv0 := Kv2.out.c 0 _ rfl
  have cv1 := Kv2.out.c 1 _ rfl
  have cv2 := Kv2.out.c 2 _ rfl
  have lv := Kv2.out.lt
  go_wp2_with fail
  all_goals (try clear ca0 ca1 la cb0 cb1 lb cv0 cv1 cv2 lv)
  refine (Growth_bad u k _ H.out).mono ?_
  rintro e w3 ⟨rfl, hg⟩
  have S3 := Lib.hid (S2.out.trans hg)
  have Ka3 := Lib.hid (Ka2.out.gr hg)
  have Kb3 := Lib.hid (Kb2.out.gr hg)
  have Kv3 := Lib.hid (Kv2.out.gr hg)
  clear hg
  have ca0 := Ka3.out.c 0 _ rfl
  have ca1 := Ka3.out.c 1 _ rfl
  have la := Ka3.out.lt
  have cb0 := Kb3.out.c 0 _ rfl
  have cb1 := Kb3.out.c 1 _ rfl
  have lb := Kb3.out.lt
  have cv0 := Kv3.out.c 0 _ rfl
  have cv1 := Kv3.out.c 1 _ rfl
  have cv2 := Kv3.out.c 2 _ rfl
  have lv := Kv3.out.lt
  go_wp2_with fail
  all_goals (try clear ca0 ca1 la cb0 cb1 lb cv0 cv1 cv2 lv)
  all_goals go_ret
  all_goals exact ⟨rfl, S3.out⟩


set_option maxHeartbeats 1000000 in
theorem GuardGrows_t0 (oa da ob db t u k : Int) (w : World) (k0 : 0 ≤ k) (k1 : k ≤ 100000) (u0 : 0 ≤ u) (u1 : u ≤ 1099511627776) (h : t < 0) :
    Calls Try.prog 22 #[.agg #[.int .i64 oa, .int .i64 da], .agg #[.int .i64 ob, .int .i64 db], .agg #[.int .i64 t, .int .i64 u, .int .i64 k]] w fun e w' => e = .returned (.bool true) ∧ Gr w w' := by
  have gb := gro_bd u0 u1 k0 k1
  go_enter Try.func22, Try.ntmps22
  go_wp2_with fail
  have g0 : Gr w ((((w).alloc (Obj.cells #[.int .i64 oa, .int .i64 da] 23)).alloc (Obj.cells #[.int .i64 ob, .int .i64 db] 23)).alloc (Obj.cells #[.int .i64 t, .int .i64 u, .int .i64 k] 62)) := Gr.alloc (Gr.alloc (Gr.alloc (Gr.refl w) _) _) _
  have ba : Bx ((((w).alloc (Obj.cells #[.int .i64 oa, .int .i64 da] 23)).alloc (Obj.cells #[.int .i64 ob, .int .i64 db] 23)).alloc (Obj.cells #[.int .i64 t, .int .i64 u, .int .i64 k] 62)) (w.heap.size) [.int .i64 oa, .int .i64 da] := Bx.gr (Bx.at_ (Bx.new (w) [.int .i64 oa, .int .i64 da] 23) (by simp)) (Gr.alloc (Gr.alloc (Gr.refl _) _) _)
  have bb : Bx ((((w).alloc (Obj.cells #[.int .i64 oa, .int .i64 da] 23)).alloc (Obj.cells #[.int .i64 ob, .int .i64 db] 23)).alloc (Obj.cells #[.int .i64 t, .int .i64 u, .int .i64 k] 62)) (w.heap.size + 1) [.int .i64 ob, .int .i64 db] := Bx.gr (Bx.at_ (Bx.new ((w).alloc (Obj.cells #[.int .i64 oa, .int .i64 da] 23)) [.int .i64 ob, .int .i64 db] 23) (by simp)) (Gr.alloc (Gr.refl _) _)
  have bv : Bx ((((w).alloc (Obj.cells #[.int .i64 oa, .int .i64 da] 23)).alloc (Obj.cells #[.int .i64 ob, .int .i64 db] 23)).alloc (Obj.cells #[.int .i64 t, .int .i64 u, .int .i64 k] 62)) (w.heap.size + 1 + 1) [.int .i64 t, .int .i64 u, .int .i64 k] := Bx.gr (Bx.at_ (Bx.new (((w).alloc (Obj.cells #[.int .i64 oa, .int .i64 da] 23)).alloc (Obj.cells #[.int .i64 ob, .int .i64 db] 23)) [.int .i64 t, .int .i64 u, .int .i64 k] 62) (by simp)) (Gr.refl _)
  generalize (((w).alloc (Obj.cells #[.int .i64 oa, .int .i64 da] 23)).alloc (Obj.cells #[.int .i64 ob, .int .i64 db] 23)).alloc (Obj.cells #[.int .i64 t, .int .i64 u, .int .i64 k] 62) = W at g0 ba bb bv ⊢
  have S0 := Lib.hid g0
  have Ka0 := Lib.hid ba
  have Kb0 := Lib.hid bb
  have Kv0 := Lib.hid bv
  clear g0 ba bb bv
  refine (awake09 _).mono ?_
  rintro e w1 ⟨rfl, hg⟩
  have S1 := Lib.hid (S0.out.trans hg)
  have Ka1 := Lib.hid (Ka0.out.gr hg)
  have Kb1 := Lib.hid (Kb0.out.gr hg)
  have Kv1 := Lib.hid (Kv0.out.gr hg)
  clear hg
  have ca0 := Ka1.out.c 0 _ rfl
  have ca1 := Ka1.out.c 1 _ rfl
  have la := Ka1.out.lt
  have cb0 := Kb1.out.c 0 _ rfl
  have cb1 := Kb1.out.c 1 _ rfl
  have lb := Kb1.out.lt
  have cv0 := Kv1.out.c 0 _ rfl
  have cv1 := Kv1.out.c 1 _ rfl
  have cv2 := Kv1.out.c 2 _ rfl
  have lv := Kv1.out.lt
  go_wp2_with fail
  all_goals (try clear ca0 ca1 la cb0 cb1 lb cv0 cv1 cv2 lv)
  have ca0 := Ka1.out.c 0 _ rfl
  have ca1 := Ka1.out.c 1 _ rfl
  have la := Ka1.out.lt
  have cb0 := Kb1.out.c 0 _ rfl
  have cb1 := Kb1.out.c 1 _ rfl
  have lb := Kb1.out.lt
  have cv0 := Kv1.out.c 0 _ rfl
  have cv1 := Kv1.out.c 1 _ rfl
  have cv2 := Kv1.out.c 2 _ rfl
  have lv := Kv1.out.lt
  go_quiet (fail)
  all_goals (try clear ca0 ca1 la cb0 cb1 lb cv0 cv1 cv2 lv)
  have g0 : Gr w1 (w1.drewN nq) := (Gr.refl _).drewN nq
  generalize w1.drewN nq = w2 at g0 ⊢
  have S2 := Lib.hid (S1.out.trans g0)
  have Ka2 := Lib.hid (Ka1.out.gr g0)
  have Kb2 := Lib.hid (Kb1.out.gr g0)
  have Kv2 := Lib.hid (Kv1.out.gr g0)
  clear g0
  have ca0 := Ka2.out.c 0 _ rfl
  have ca1 := Ka2.out.c 1 _ rfl
  have la := Ka2.out.lt
  have cb0 := Kb2.out.c 0 _ rfl
  have cb1 := Kb2.out.c 1 _ rfl
  have lb := Kb2.out.lt
  have cv0 := Kv2.out.c 0 _ rfl
  have cv1 := Kv2.out.c 1 _ rfl
  have cv2 := Kv2.out.c 2 _ rfl
  have lv := Kv2.out.lt
  go_wp2_with fail
  all_goals (try clear ca0 ca1 la cb0 cb1 lb cv0 cv1 cv2 lv)
  refine (Growth_ok u k _ u0 u1 k0 k1).mono ?_
  rintro e w3 ⟨rfl, hg⟩
  have S3 := Lib.hid (S2.out.trans hg)
  have Ka3 := Lib.hid (Ka2.out.gr hg)
  have Kb3 := Lib.hid (Kb2.out.gr hg)
  have Kv3 := Lib.hid (Kv2.out.gr hg)
  clear hg
  have ca0 := Ka3.out.c 0 _ rfl
  have ca1 := Ka3.out.c 1 _ rfl
  have la := Ka3.out.lt
  have cb0 := Kb3.out.c 0 _ rfl
  have cb1 := Kb3.out.c 1 _ rfl
  have lb := Kb3.out.lt
  have cv0 := Kv3.out.c 0 _ rfl
  have cv1 := Kv3.out.c 1 _ rfl
  have cv2 := Kv3.out.c 2 _ rfl
  have lv := Kv3.out.lt
  go_wp2_with fail
  all_goals (try clear ca0 ca1 la cb0 cb1 lb cv0 cv1 cv2 lv)
  all_goals go_ret
  all_goals exact ⟨rfl, S3.out⟩


set_option maxHeartbeats 1000000 in
theorem GuardGrows_t1 (oa da ob db t u k : Int) (w : World) (k0 : 0 ≤ k) (k1 : k ≤ 100000) (u0 : 0 ≤ u) (u1 : u ≤ 1099511627776) (t0 : 0 ≤ t) (h : 1099511627776 - u < t) :
    Calls Try.prog 22 #[.agg #[.int .i64 oa, .int .i64 da], .agg #[.int .i64 ob, .int .i64 db], .agg #[.int .i64 t, .int .i64 u, .int .i64 k]] w fun e w' => e = .returned (.bool true) ∧ Gr w w' := by
  have gb := gro_bd u0 u1 k0 k1
  go_enter Try.func22, Try.ntmps22
  go_wp2_with fail
  have g0 : Gr w ((((w).alloc (Obj.cells #[.int .i64 oa, .int .i64 da] 23)).alloc (Obj.cells #[.int .i64 ob, .int .i64 db] 23)).alloc (Obj.cells #[.int .i64 t, .int .i64 u, .int .i64 k] 62)) := Gr.alloc (Gr.alloc (Gr.alloc (Gr.refl w) _) _) _
  have ba : Bx ((((w).alloc (Obj.cells #[.int .i64 oa, .int .i64 da] 23)).alloc (Obj.cells #[.int .i64 ob, .int .i64 db] 23)).alloc (Obj.cells #[.int .i64 t, .int .i64 u, .int .i64 k] 62)) (w.heap.size) [.int .i64 oa, .int .i64 da] := Bx.gr (Bx.at_ (Bx.new (w) [.int .i64 oa, .int .i64 da] 23) (by simp)) (Gr.alloc (Gr.alloc (Gr.refl _) _) _)
  have bb : Bx ((((w).alloc (Obj.cells #[.int .i64 oa, .int .i64 da] 23)).alloc (Obj.cells #[.int .i64 ob, .int .i64 db] 23)).alloc (Obj.cells #[.int .i64 t, .int .i64 u, .int .i64 k] 62)) (w.heap.size + 1) [.int .i64 ob, .int .i64 db] := Bx.gr (Bx.at_ (Bx.new ((w).alloc (Obj.cells #[.int .i64 oa, .int .i64 da] 23)) [.int .i64 ob, .int .i64 db] 23) (by simp)) (Gr.alloc (Gr.refl _) _)
  have bv : Bx ((((w).alloc (Obj.cells #[.int .i64 oa, .int .i64 da] 23)).alloc (Obj.cells #[.int .i64 ob, .int .i64 db] 23)).alloc (Obj.cells #[.int .i64 t, .int .i64 u, .int .i64 k] 62)) (w.heap.size + 1 + 1) [.int .i64 t, .int .i64 u, .int .i64 k] := Bx.gr (Bx.at_ (Bx.new (((w).alloc (Obj.cells #[.int .i64 oa, .int .i64 da] 23)).alloc (Obj.cells #[.int .i64 ob, .int .i64 db] 23)) [.int .i64 t, .int .i64 u, .int .i64 k] 62) (by simp)) (Gr.refl _)
  generalize (((w).alloc (Obj.cells #[.int .i64 oa, .int .i64 da] 23)).alloc (Obj.cells #[.int .i64 ob, .int .i64 db] 23)).alloc (Obj.cells #[.int .i64 t, .int .i64 u, .int .i64 k] 62) = W at g0 ba bb bv ⊢
  have S0 := Lib.hid g0
  have Ka0 := Lib.hid ba
  have Kb0 := Lib.hid bb
  have Kv0 := Lib.hid bv
  clear g0 ba bb bv
  refine (awake09 _).mono ?_
  rintro e w1 ⟨rfl, hg⟩
  have S1 := Lib.hid (S0.out.trans hg)
  have Ka1 := Lib.hid (Ka0.out.gr hg)
  have Kb1 := Lib.hid (Kb0.out.gr hg)
  have Kv1 := Lib.hid (Kv0.out.gr hg)
  clear hg
  have ca0 := Ka1.out.c 0 _ rfl
  have ca1 := Ka1.out.c 1 _ rfl
  have la := Ka1.out.lt
  have cb0 := Kb1.out.c 0 _ rfl
  have cb1 := Kb1.out.c 1 _ rfl
  have lb := Kb1.out.lt
  have cv0 := Kv1.out.c 0 _ rfl
  have cv1 := Kv1.out.c 1 _ rfl
  have cv2 := Kv1.out.c 2 _ rfl
  have lv := Kv1.out.lt
  go_wp2_with fail
  all_goals (try clear ca0 ca1 la cb0 cb1 lb cv0 cv1 cv2 lv)
  have ca0 := Ka1.out.c 0 _ rfl
  have ca1 := Ka1.out.c 1 _ rfl
  have la := Ka1.out.lt
  have cb0 := Kb1.out.c 0 _ rfl
  have cb1 := Kb1.out.c 1 _ rfl
  have lb := Kb1.out.lt
  have cv0 := Kv1.out.c 0 _ rfl
  have cv1 := Kv1.out.c 1 _ rfl
  have cv2 := Kv1.out.c 2 _ rfl
  have lv := Kv1.out.lt
  go_quiet (fail)
  all_goals (try clear ca0 ca1 la cb0 cb1 lb cv0 cv1 cv2 lv)
  have g0 : Gr w1 (w1.drewN nq) := (Gr.refl _).drewN nq
  generalize w1.drewN nq = w2 at g0 ⊢
  have S2 := Lib.hid (S1.out.trans g0)
  have Ka2 := Lib.hid (Ka1.out.gr g0)
  have Kb2 := Lib.hid (Kb1.out.gr g0)
  have Kv2 := Lib.hid (Kv1.out.gr g0)
  clear g0
  have ca0 := Ka2.out.c 0 _ rfl
  have ca1 := Ka2.out.c 1 _ rfl
  have la := Ka2.out.lt
  have cb0 := Kb2.out.c 0 _ rfl
  have cb1 := Kb2.out.c 1 _ rfl
  have lb := Kb2.out.lt
  have cv0 := Kv2.out.c 0 _ rfl
  have cv1 := Kv2.out.c 1 _ rfl
  have cv2 := Kv2.out.c 2 _ rfl
  have lv := Kv2.out.lt
  go_wp2_with fail
  all_goals (try clear ca0 ca1 la cb0 cb1 lb cv0 cv1 cv2 lv)
  refine (Growth_ok u k _ u0 u1 k0 k1).mono ?_
  rintro e w3 ⟨rfl, hg⟩
  have S3 := Lib.hid (S2.out.trans hg)
  have Ka3 := Lib.hid (Ka2.out.gr hg)
  have Kb3 := Lib.hid (Kb2.out.gr hg)
  have Kv3 := Lib.hid (Kv2.out.gr hg)
  clear hg
  have ca0 := Ka3.out.c 0 _ rfl
  have ca1 := Ka3.out.c 1 _ rfl
  have la := Ka3.out.lt
  have cb0 := Kb3.out.c 0 _ rfl
  have cb1 := Kb3.out.c 1 _ rfl
  have lb := Kb3.out.lt
  have cv0 := Kv3.out.c 0 _ rfl
  have cv1 := Kv3.out.c 1 _ rfl
  have cv2 := Kv3.out.c 2 _ rfl
  have lv := Kv3.out.lt
  go_wp2_with fail
  all_goals (try clear ca0 ca1 la cb0 cb1 lb cv0 cv1 cv2 lv)
  all_goals go_ret
  all_goals exact ⟨rfl, S3.out⟩


set_option maxHeartbeats 1000000 in
theorem GuardGrows_wa (oa da ob db t u k : Int) (w : World) (k0 : 0 ≤ k) (k1 : k ≤ 100000) (u0 : 0 ≤ u) (u1 : u ≤ 1099511627776) (t0 : 0 ≤ t) (t1 : t ≤ 1099511627776 - u) (h : da < -k ∨ (-k ≤ da ∧ k < da)) :
    Calls Try.prog 22 #[.agg #[.int .i64 oa, .int .i64 da], .agg #[.int .i64 ob, .int .i64 db], .agg #[.int .i64 t, .int .i64 u, .int .i64 k]] w fun e w' => e = .returned (.bool true) ∧ Gr w w' := by
  have gb := gro_bd u0 u1 k0 k1
  have H := Lib.hid h
  clear h
  go_enter Try.func22, Try.ntmps22
  go_wp2_with fail
  have g0 : Gr w ((((w).alloc (Obj.cells #[.int .i64 oa, .int .i64 da] 23)).alloc (Obj.cells #[.int .i64 ob, .int .i64 db] 23)).alloc (Obj.cells #[.int .i64 t, .int .i64 u, .int .i64 k] 62)) := Gr.alloc (Gr.alloc (Gr.alloc (Gr.refl w) _) _) _
  have ba : Bx ((((w).alloc (Obj.cells #[.int .i64 oa, .int .i64 da] 23)).alloc (Obj.cells #[.int .i64 ob, .int .i64 db] 23)).alloc (Obj.cells #[.int .i64 t, .int .i64 u, .int .i64 k] 62)) (w.heap.size) [.int .i64 oa, .int .i64 da] := Bx.gr (Bx.at_ (Bx.new (w) [.int .i64 oa, .int .i64 da] 23) (by simp)) (Gr.alloc (Gr.alloc (Gr.refl _) _) _)
  have bb : Bx ((((w).alloc (Obj.cells #[.int .i64 oa, .int .i64 da] 23)).alloc (Obj.cells #[.int .i64 ob, .int .i64 db] 23)).alloc (Obj.cells #[.int .i64 t, .int .i64 u, .int .i64 k] 62)) (w.heap.size + 1) [.int .i64 ob, .int .i64 db] := Bx.gr (Bx.at_ (Bx.new ((w).alloc (Obj.cells #[.int .i64 oa, .int .i64 da] 23)) [.int .i64 ob, .int .i64 db] 23) (by simp)) (Gr.alloc (Gr.refl _) _)
  have bv : Bx ((((w).alloc (Obj.cells #[.int .i64 oa, .int .i64 da] 23)).alloc (Obj.cells #[.int .i64 ob, .int .i64 db] 23)).alloc (Obj.cells #[.int .i64 t, .int .i64 u, .int .i64 k] 62)) (w.heap.size + 1 + 1) [.int .i64 t, .int .i64 u, .int .i64 k] := Bx.gr (Bx.at_ (Bx.new (((w).alloc (Obj.cells #[.int .i64 oa, .int .i64 da] 23)).alloc (Obj.cells #[.int .i64 ob, .int .i64 db] 23)) [.int .i64 t, .int .i64 u, .int .i64 k] 62) (by simp)) (Gr.refl _)
  generalize (((w).alloc (Obj.cells #[.int .i64 oa, .int .i64 da] 23)).alloc (Obj.cells #[.int .i64 ob, .int .i64 db] 23)).alloc (Obj.cells #[.int .i64 t, .int .i64 u, .int .i64 k] 62) = W at g0 ba bb bv ⊢
  have S0 := Lib.hid g0
  have Ka0 := Lib.hid ba
  have Kb0 := Lib.hid bb
  have Kv0 := Lib.hid bv
  clear g0 ba bb bv
  refine (awake09 _).mono ?_
  rintro e w1 ⟨rfl, hg⟩
  have S1 := Lib.hid (S0.out.trans hg)
  have Ka1 := Lib.hid (Ka0.out.gr hg)
  have Kb1 := Lib.hid (Kb0.out.gr hg)
  have Kv1 := Lib.hid (Kv0.out.gr hg)
  clear hg
  have ca0 := Ka1.out.c 0 _ rfl
  have ca1 := Ka1.out.c 1 _ rfl
  have la := Ka1.out.lt
  have cb0 := Kb1.out.c 0 _ rfl
  have cb1 := Kb1.out.c 1 _ rfl
  have lb := Kb1.out.lt
  have cv0 := Kv1.out.c 0 _ rfl
  have cv1 := Kv1.out.c 1 _ rfl
  have cv2 := Kv1.out.c 2 _ rfl
  have lv := Kv1.out.lt
  go_wp2_with fail
  all_goals (try clear ca0 ca1 la cb0 cb1 lb cv0 cv1 cv2 lv)
  have ca0 := Ka1.out.c 0 _ rfl
  have ca1 := Ka1.out.c 1 _ rfl
  have la := Ka1.out.lt
  have cb0 := Kb1.out.c 0 _ rfl
  have cb1 := Kb1.out.c 1 _ rfl
  have lb := Kb1.out.lt
  have cv0 := Kv1.out.c 0 _ rfl
  have cv1 := Kv1.out.c 1 _ rfl
  have cv2 := Kv1.out.c 2 _ rfl
  have lv := Kv1.out.lt
  go_quiet (fail)
  all_goals (try clear ca0 ca1 la cb0 cb1 lb cv0 cv1 cv2 lv)
  have g0 : Gr w1 (w1.drewN nq) := (Gr.refl _).drewN nq
  generalize w1.drewN nq = w2 at g0 ⊢
  have S2 := Lib.hid (S1.out.trans g0)
  have Ka2 := Lib.hid (Ka1.out.gr g0)
  have Kb2 := Lib.hid (Kb1.out.gr g0)
  have Kv2 := Lib.hid (Kv1.out.gr g0)
  clear g0
  have ca0 := Ka2.out.c 0 _ rfl
  have ca1 := Ka2.out.c 1 _ rfl
  have la := Ka2.out.lt
  have cb0 := Kb2.out.c 0 _ rfl
  have cb1 := Kb2.out.c 1 _ rfl
  have lb := Kb2.out.lt
  have cv0 := Kv2.out.c 0 _ rfl
  have cv1 := Kv2.out.c 1 _ rfl
  have cv2 := Kv2.out.c 2 _ rfl
  have lv := Kv2.out.lt
  go_wp2_with fail
  all_goals (try clear ca0 ca1 la cb0 cb1 lb cv0 cv1 cv2 lv)
  refine (Growth_ok u k _ u0 u1 k0 k1).mono ?_
  rintro e w3 ⟨rfl, hg⟩
  have S3 := Lib.hid (S2.out.trans hg)
  have Ka3 := Lib.hid (Ka2.out.gr hg)
  have Kb3 := Lib.hid (Kb2.out.gr hg)
  have Kv3 := Lib.hid (Kv2.out.gr hg)
  clear hg
  have ca0 := Ka3.out.c 0 _ rfl
  have ca1 := Ka3.out.c 1 _ rfl
  have la := Ka3.out.lt
  have cb0 := Kb3.out.c 0 _ rfl
  have cb1 := Kb3.out.c 1 _ rfl
  have lb := Kb3.out.lt
  have cv0 := Kv3.out.c 0 _ rfl
  have cv1 := Kv3.out.c 1 _ rfl
  have cv2 := Kv3.out.c 2 _ rfl
  have lv := Kv3.out.lt
  go_wp2_with fail
  all_goals (try clear ca0 ca1 la cb0 cb1 lb cv0 cv1 cv2 lv)
  refine (within_f oa da k _ k0 k1 H.out).mono ?_
  rintro e w4 ⟨rfl, hg⟩
  have S4 := Lib.hid (S3.out.trans hg)
  have Ka4 := Lib.hid (Ka3.out.gr hg)
  have Kb4 := Lib.hid (Kb3.out.gr hg)
  have Kv4 := Lib.hid (Kv3.out.gr hg)
  clear hg
  have ca0 := Ka4.out.c 0 _ rfl
  have ca1 := Ka4.out.c 1 _ rfl
  have la := Ka4.out.lt
  have cb0 := Kb4.out.c 0 _ rfl
  have cb1 := Kb4.out.c 1 _ rfl
  have lb := Kb4.out.lt
  have cv0 := Kv4.out.c 0 _ rfl
  have cv1 := Kv4.out.c 1 _ rfl
  have cv2 := Kv4.out.c 2 _ rfl
  have lv := Kv4.out.lt
  go_wp2_with fail
  all_goals (try clear ca0 ca1 la cb0 cb1 lb cv0 cv1 cv2 lv)
  all_goals go_ret
  all_goals exact ⟨rfl, S4.out⟩


set_option maxHeartbeats 1000000 in
theorem GuardGrows_wb (oa da ob db t u k : Int) (w : World) (k0 : 0 ≤ k) (k1 : k ≤ 100000) (u0 : 0 ≤ u) (u1 : u ≤ 1099511627776) (t0 : 0 ≤ t) (t1 : t ≤ 1099511627776 - u) (a0 : -k ≤ da) (a1 : da ≤ k) (h : db < -k ∨ (-k ≤ db ∧ k < db)) :
    Calls Try.prog 22 #[.agg #[.int .i64 oa, .int .i64 da], .agg #[.int .i64 ob, .int .i64 db], .agg #[.int .i64 t, .int .i64 u, .int .i64 k]] w fun e w' => e = .returned (.bool true) ∧ Gr w w' := by
  have gb := gro_bd u0 u1 k0 k1
  have H := Lib.hid h
  clear h
  go_enter Try.func22, Try.ntmps22
  go_wp2_with fail
  have g0 : Gr w ((((w).alloc (Obj.cells #[.int .i64 oa, .int .i64 da] 23)).alloc (Obj.cells #[.int .i64 ob, .int .i64 db] 23)).alloc (Obj.cells #[.int .i64 t, .int .i64 u, .int .i64 k] 62)) := Gr.alloc (Gr.alloc (Gr.alloc (Gr.refl w) _) _) _
  have ba : Bx ((((w).alloc (Obj.cells #[.int .i64 oa, .int .i64 da] 23)).alloc (Obj.cells #[.int .i64 ob, .int .i64 db] 23)).alloc (Obj.cells #[.int .i64 t, .int .i64 u, .int .i64 k] 62)) (w.heap.size) [.int .i64 oa, .int .i64 da] := Bx.gr (Bx.at_ (Bx.new (w) [.int .i64 oa, .int .i64 da] 23) (by simp)) (Gr.alloc (Gr.alloc (Gr.refl _) _) _)
  have bb : Bx ((((w).alloc (Obj.cells #[.int .i64 oa, .int .i64 da] 23)).alloc (Obj.cells #[.int .i64 ob, .int .i64 db] 23)).alloc (Obj.cells #[.int .i64 t, .int .i64 u, .int .i64 k] 62)) (w.heap.size + 1) [.int .i64 ob, .int .i64 db] := Bx.gr (Bx.at_ (Bx.new ((w).alloc (Obj.cells #[.int .i64 oa, .int .i64 da] 23)) [.int .i64 ob, .int .i64 db] 23) (by simp)) (Gr.alloc (Gr.refl _) _)
  have bv : Bx ((((w).alloc (Obj.cells #[.int .i64 oa, .int .i64 da] 23)).alloc (Obj.cells #[.int .i64 ob, .int .i64 db] 23)).alloc (Obj.cells #[.int .i64 t, .int .i64 u, .int .i64 k] 62)) (w.heap.size + 1 + 1) [.int .i64 t, .int .i64 u, .int .i64 k] := Bx.gr (Bx.at_ (Bx.new (((w).alloc (Obj.cells #[.int .i64 oa, .int .i64 da] 23)).alloc (Obj.cells #[.int .i64 ob, .int .i64 db] 23)) [.int .i64 t, .int .i64 u, .int .i64 k] 62) (by simp)) (Gr.refl _)
  generalize (((w).alloc (Obj.cells #[.int .i64 oa, .int .i64 da] 23)).alloc (Obj.cells #[.int .i64 ob, .int .i64 db] 23)).alloc (Obj.cells #[.int .i64 t, .int .i64 u, .int .i64 k] 62) = W at g0 ba bb bv ⊢
  have S0 := Lib.hid g0
  have Ka0 := Lib.hid ba
  have Kb0 := Lib.hid bb
  have Kv0 := Lib.hid bv
  clear g0 ba bb bv
  refine (awake09 _).mono ?_
  rintro e w1 ⟨rfl, hg⟩
  have S1 := Lib.hid (S0.out.trans hg)
  have Ka1 := Lib.hid (Ka0.out.gr hg)
  have Kb1 := Lib.hid (Kb0.out.gr hg)
  have Kv1 := Lib.hid (Kv0.out.gr hg)
  clear hg
  have ca0 := Ka1.out.c 0 _ rfl
  have ca1 := Ka1.out.c 1 _ rfl
  have la := Ka1.out.lt
  have cb0 := Kb1.out.c 0 _ rfl
  have cb1 := Kb1.out.c 1 _ rfl
  have lb := Kb1.out.lt
  have cv0 := Kv1.out.c 0 _ rfl
  have cv1 := Kv1.out.c 1 _ rfl
  have cv2 := Kv1.out.c 2 _ rfl
  have lv := Kv1.out.lt
  go_wp2_with fail
  all_goals (try clear ca0 ca1 la cb0 cb1 lb cv0 cv1 cv2 lv)
  have ca0 := Ka1.out.c 0 _ rfl
  have ca1 := Ka1.out.c 1 _ rfl
  have la := Ka1.out.lt
  have cb0 := Kb1.out.c 0 _ rfl
  have cb1 := Kb1.out.c 1 _ rfl
  have lb := Kb1.out.lt
  have cv0 := Kv1.out.c 0 _ rfl
  have cv1 := Kv1.out.c 1 _ rfl
  have cv2 := Kv1.out.c 2 _ rfl
  have lv := Kv1.out.lt
  go_quiet (fail)
  all_goals (try clear ca0 ca1 la cb0 cb1 lb cv0 cv1 cv2 lv)
  have g0 : Gr w1 (w1.drewN nq) := (Gr.refl _).drewN nq
  generalize w1.drewN nq = w2 at g0 ⊢
  have S2 := Lib.hid (S1.out.trans g0)
  have Ka2 := Lib.hid (Ka1.out.gr g0)
  have Kb2 := Lib.hid (Kb1.out.gr g0)
  have Kv2 := Lib.hid (Kv1.out.gr g0)
  clear g0
  have ca0 := Ka2.out.c 0 _ rfl
  have ca1 := Ka2.out.c 1 _ rfl
  have la := Ka2.out.lt
  have cb0 := Kb2.out.c 0 _ rfl
  have cb1 := Kb2.out.c 1 _ rfl
  have lb := Kb2.out.lt
  have cv0 := Kv2.out.c 0 _ rfl
  have cv1 := Kv2.out.c 1 _ rfl
  have cv2 := Kv2.out.c 2 _ rfl
  have lv := Kv2.out.lt
  go_wp2_with fail
  all_goals (try clear ca0 ca1 la cb0 cb1 lb cv0 cv1 cv2 lv)
  refine (Growth_ok u k _ u0 u1 k0 k1).mono ?_
  rintro e w3 ⟨rfl, hg⟩
  have S3 := Lib.hid (S2.out.trans hg)
  have Ka3 := Lib.hid (Ka2.out.gr hg)
  have Kb3 := Lib.hid (Kb2.out.gr hg)
  have Kv3 := Lib.hid (Kv2.out.gr hg)
  clear hg
  have ca0 := Ka3.out.c 0 _ rfl
  have ca1 := Ka3.out.c 1 _ rfl
  have la := Ka3.out.lt
  have cb0 := Kb3.out.c 0 _ rfl
  have cb1 := Kb3.out.c 1 _ rfl
  have lb := Kb3.out.lt
  have cv0 := Kv3.out.c 0 _ rfl
  have cv1 := Kv3.out.c 1 _ rfl
  have cv2 := Kv3.out.c 2 _ rfl
  have lv := Kv3.out.lt
  go_wp2_with fail
  all_goals (try clear ca0 ca1 la cb0 cb1 lb cv0 cv1 cv2 lv)
  refine (within_t oa da k _ k0 k1 a0 a1).mono ?_
  rintro e w4 ⟨rfl, hg⟩
  have S4 := Lib.hid (S3.out.trans hg)
  have Ka4 := Lib.hid (Ka3.out.gr hg)
  have Kb4 := Lib.hid (Kb3.out.gr hg)
  have Kv4 := Lib.hid (Kv3.out.gr hg)
  clear hg
  have ca0 := Ka4.out.c 0 _ rfl
  have ca1 := Ka4.out.c 1 _ rfl
  have la := Ka4.out.lt
  have cb0 := Kb4.out.c 0 _ rfl
  have cb1 := Kb4.out.c 1 _ rfl
  have lb := Kb4.out.lt
  have cv0 := Kv4.out.c 0 _ rfl
  have cv1 := Kv4.out.c 1 _ rfl
  have cv2 := Kv4.out.c 2 _ rfl
  have lv := Kv4.out.lt
  go_wp2_with fail
  all_goals (try clear ca0 ca1 la cb0 cb1 lb cv0 cv1 cv2 lv)
  refine (within_f ob db k _ k0 k1 H.out).mono ?_
  rintro e w5 ⟨rfl, hg⟩
  have S5 := Lib.hid (S4.out.trans hg)
  have Ka5 := Lib.hid (Ka4.out.gr hg)
  have Kb5 := Lib.hid (Kb4.out.gr hg)
  have Kv5 := Lib.hid (Kv4.out.gr hg)
  clear hg
  have ca0 := Ka5.out.c 0 _ rfl
  have ca1 := Ka5.out.c 1 _ rfl
  have la := Ka5.out.lt
  have cb0 := Kb5.out.c 0 _ rfl
  have cb1 := Kb5.out.c 1 _ rfl
  have lb := Kb5.out.lt
  have cv0 := Kv5.out.c 0 _ rfl
  have cv1 := Kv5.out.c 1 _ rfl
  have cv2 := Kv5.out.c 2 _ rfl
  have lv := Kv5.out.lt
  go_wp2_with fail
  all_goals (try clear ca0 ca1 la cb0 cb1 lb cv0 cv1 cv2 lv)
  all_goals go_ret
  all_goals exact ⟨rfl, S5.out⟩


set_option maxHeartbeats 1000000 in
theorem GuardGrows_arg (oa da ob db t u k : Int) (w : World) (k0 : 0 ≤ k) (k1 : k ≤ 100000) (u0 : 0 ≤ u) (u1 : u ≤ 1099511627776) (t0 : 0 ≤ t) (t1 : t ≤ 1099511627776 - u) (a0 : -k ≤ da) (a1 : da ≤ k) (b0 : -k ≤ db) (b1 : db ≤ k) (hv : ¬ (Vc oa da ∧ Vc ob db)) :
    Calls Try.prog 22 #[.agg #[.int .i64 oa, .int .i64 da], .agg #[.int .i64 ob, .int .i64 db], .agg #[.int .i64 t, .int .i64 u, .int .i64 k]] w fun e w' => e = .returned (.bool true) ∧ Gr w w' := by
  have gb := gro_bd u0 u1 k0 k1
  have HV := Lib.hid hv
  clear hv
  go_enter Try.func22, Try.ntmps22
  go_wp2_with fail
  have g0 : Gr w ((((w).alloc (Obj.cells #[.int .i64 oa, .int .i64 da] 23)).alloc (Obj.cells #[.int .i64 ob, .int .i64 db] 23)).alloc (Obj.cells #[.int .i64 t, .int .i64 u, .int .i64 k] 62)) := Gr.alloc (Gr.alloc (Gr.alloc (Gr.refl w) _) _) _
  have ba : Bx ((((w).alloc (Obj.cells #[.int .i64 oa, .int .i64 da] 23)).alloc (Obj.cells #[.int .i64 ob, .int .i64 db] 23)).alloc (Obj.cells #[.int .i64 t, .int .i64 u, .int .i64 k] 62)) (w.heap.size) [.int .i64 oa, .int .i64 da] := Bx.gr (Bx.at_ (Bx.new (w) [.int .i64 oa, .int .i64 da] 23) (by simp)) (Gr.alloc (Gr.alloc (Gr.refl _) _) _)
  have bb : Bx ((((w).alloc (Obj.cells #[.int .i64 oa, .int .i64 da] 23)).alloc (Obj.cells #[.int .i64 ob, .int .i64 db] 23)).alloc (Obj.cells #[.int .i64 t, .int .i64 u, .int .i64 k] 62)) (w.heap.size + 1) [.int .i64 ob, .int .i64 db] := Bx.gr (Bx.at_ (Bx.new ((w).alloc (Obj.cells #[.int .i64 oa, .int .i64 da] 23)) [.int .i64 ob, .int .i64 db] 23) (by simp)) (Gr.alloc (Gr.refl _) _)
  have bv : Bx ((((w).alloc (Obj.cells #[.int .i64 oa, .int .i64 da] 23)).alloc (Obj.cells #[.int .i64 ob, .int .i64 db] 23)).alloc (Obj.cells #[.int .i64 t, .int .i64 u, .int .i64 k] 62)) (w.heap.size + 1 + 1) [.int .i64 t, .int .i64 u, .int .i64 k] := Bx.gr (Bx.at_ (Bx.new (((w).alloc (Obj.cells #[.int .i64 oa, .int .i64 da] 23)).alloc (Obj.cells #[.int .i64 ob, .int .i64 db] 23)) [.int .i64 t, .int .i64 u, .int .i64 k] 62) (by simp)) (Gr.refl _)
  generalize (((w).alloc (Obj.cells #[.int .i64 oa, .int .i64 da] 23)).alloc (Obj.cells #[.int .i64 ob, .int .i64 db] 23)).alloc (Obj.cells #[.int .i64 t, .int .i64 u, .int .i64 k] 62) = W at g0 ba bb bv ⊢
  have S0 := Lib.hid g0
  have Ka0 := Lib.hid ba
  have Kb0 := Lib.hid bb
  have Kv0 := Lib.hid bv
  clear g0 ba bb bv
  refine (awake09 _).mono ?_
  rintro e w1 ⟨rfl, hg⟩
  have S1 := Lib.hid (S0.out.trans hg)
  have Ka1 := Lib.hid (Ka0.out.gr hg)
  have Kb1 := Lib.hid (Kb0.out.gr hg)
  have Kv1 := Lib.hid (Kv0.out.gr hg)
  clear hg
  have ca0 := Ka1.out.c 0 _ rfl
  have ca1 := Ka1.out.c 1 _ rfl
  have la := Ka1.out.lt
  have cb0 := Kb1.out.c 0 _ rfl
  have cb1 := Kb1.out.c 1 _ rfl
  have lb := Kb1.out.lt
  have cv0 := Kv1.out.c 0 _ rfl
  have cv1 := Kv1.out.c 1 _ rfl
  have cv2 := Kv1.out.c 2 _ rfl
  have lv := Kv1.out.lt
  go_wp2_with fail
  all_goals (try clear ca0 ca1 la cb0 cb1 lb cv0 cv1 cv2 lv)
  have ca0 := Ka1.out.c 0 _ rfl
  have ca1 := Ka1.out.c 1 _ rfl
  have la := Ka1.out.lt
  have cb0 := Kb1.out.c 0 _ rfl
  have cb1 := Kb1.out.c 1 _ rfl
  have lb := Kb1.out.lt
  have cv0 := Kv1.out.c 0 _ rfl
  have cv1 := Kv1.out.c 1 _ rfl
  have cv2 := Kv1.out.c 2 _ rfl
  have lv := Kv1.out.lt
  go_quiet (fail)
  all_goals (try clear ca0 ca1 la cb0 cb1 lb cv0 cv1 cv2 lv)
  have g0 : Gr w1 (w1.drewN nq) := (Gr.refl _).drewN nq
  generalize w1.drewN nq = w2 at g0 ⊢
  have S2 := Lib.hid (S1.out.trans g0)
  have Ka2 := Lib.hid (Ka1.out.gr g0)
  have Kb2 := Lib.hid (Kb1.out.gr g0)
  have Kv2 := Lib.hid (Kv1.out.gr g0)
  clear g0
  have ca0 := Ka2.out.c 0 _ rfl
  have ca1 := Ka2.out.c 1 _ rfl
  have la := Ka2.out.lt
  have cb0 := Kb2.out.c 0 _ rfl
  have cb1 := Kb2.out.c 1 _ rfl
  have lb := Kb2.out.lt
  have cv0 := Kv2.out.c 0 _ rfl
  have cv1 := Kv2.out.c 1 _ rfl
  have cv2 := Kv2.out.c 2 _ rfl
  have lv := Kv2.out.lt
  go_wp2_with fail
  all_goals (try clear ca0 ca1 la cb0 cb1 lb cv0 cv1 cv2 lv)
  refine (Growth_ok u k _ u0 u1 k0 k1).mono ?_
  rintro e w3 ⟨rfl, hg⟩
  have S3 := Lib.hid (S2.out.trans hg)
  have Ka3 := Lib.hid (Ka2.out.gr hg)
  have Kb3 := Lib.hid (Kb2.out.gr hg)
  have Kv3 := Lib.hid (Kv2.out.gr hg)
  clear hg
  have ca0 := Ka3.out.c 0 _ rfl
  have ca1 := Ka3.out.c 1 _ rfl
  have la := Ka3.out.lt
  have cb0 := Kb3.out.c 0 _ rfl
  have cb1 := Kb3.out.c 1 _ rfl
  have lb := Kb3.out.lt
  have cv0 := Kv3.out.c 0 _ rfl
  have cv1 := Kv3.out.c 1 _ rfl
  have cv2 := Kv3.out.c 2 _ rfl
  have lv := Kv3.out.lt
  go_wp2_with fail
  all_goals (try clear ca0 ca1 la cb0 cb1 lb cv0 cv1 cv2 lv)
  refine (within_t oa da k _ k0 k1 a0 a1).mono ?_
  rintro e w4 ⟨rfl, hg⟩
  have S4 := Lib.hid (S3.out.trans hg)
  have Ka4 := Lib.hid (Ka3.out.gr hg)
  have Kb4 := Lib.hid (Kb3.out.gr hg)
  have Kv4 := Lib.hid (Kv3.out.gr hg)
  clear hg
  have ca0 := Ka4.out.c 0 _ rfl
  have ca1 := Ka4.out.c 1 _ rfl
  have la := Ka4.out.lt
  have cb0 := Kb4.out.c 0 _ rfl
  have cb1 := Kb4.out.c 1 _ rfl
  have lb := Kb4.out.lt
  have cv0 := Kv4.out.c 0 _ rfl
  have cv1 := Kv4.out.c 1 _ rfl
  have cv2 := Kv4.out.c 2 _ rfl
  have lv := Kv4.out.lt
  go_wp2_with fail
  all_goals (try clear ca0 ca1 la cb0 cb1 lb cv0 cv1 cv2 lv)
  refine (within_t ob db k _ k0 k1 b0 b1).mono ?_
  rintro e w5 ⟨rfl, hg⟩
  have S5 := Lib.hid (S4.out.trans hg)
  have Ka5 := Lib.hid (Ka4.out.gr hg)
  have Kb5 := Lib.hid (Kb4.out.gr hg)
  have Kv5 := Lib.hid (Kv4.out.gr hg)
  clear hg
  have ca0 := Ka5.out.c 0 _ rfl
  have ca1 := Ka5.out.c 1 _ rfl
  have la := Ka5.out.lt
  have cb0 := Kb5.out.c 0 _ rfl
  have cb1 := Kb5.out.c 1 _ rfl
  have lb := Kb5.out.lt
  have cv0 := Kv5.out.c 0 _ rfl
  have cv1 := Kv5.out.c 1 _ rfl
  have cv2 := Kv5.out.c 2 _ rfl
  have lv := Kv5.out.lt
  go_wp2_with fail
  all_goals (try clear ca0 ca1 la cb0 cb1 lb cv0 cv1 cv2 lv)
  refine (Apart_bad9 oa da ob db t _ HV.out).mono ?_
  rintro e w6 ⟨rfl, hg⟩
  have S6 := Lib.hid (S5.out.trans hg)
  have Ka6 := Lib.hid (Ka5.out.gr hg)
  have Kb6 := Lib.hid (Kb5.out.gr hg)
  have Kv6 := Lib.hid (Kv5.out.gr hg)
  clear hg
  have ca0 := Ka6.out.c 0 _ rfl
  have ca1 := Ka6.out.c 1 _ rfl
  have la := Ka6.out.lt
  have cb0 := Kb6.out.c 0 _ rfl
  have cb1 := Kb6.out.c 1 _ rfl
  have lb := Kb6.out.lt
  have cv0 := Kv6.out.c 0 _ rfl
  have cv1 := Kv6.out.c 1 _ rfl
  have cv2 := Kv6.out.c 2 _ rfl
  have lv := Kv6.out.lt
  go_wp2_with fail
  all_goals (try clear ca0 ca1 la cb0 cb1 lb cv0 cv1 cv2 lv)
  all_goals go_ret
  all_goals exact ⟨rfl, S6.out⟩


set_option maxHeartbeats 1000000 in
theorem GuardGrows_bad (oa da ob db t u k : Int) (w : World) (k0 : 0 ≤ k) (k1 : k ≤ 100000) (u0 : 0 ≤ u) (u1 : u ≤ 1099511627776) (t0 : 0 ≤ t) (t1 : t ≤ 1099511627776 - u) (a0 : -k ≤ da) (a1 : da ≤ k) (b0 : -k ≤ db) (b1 : db ≤ k) (hva : Vc oa da) (hvb : Vc ob db) (hq : ¬ adOk ob db (t % 3 - 1 - (rd ob db t - rd oa da t))) :
    Calls Try.prog 22 #[.agg #[.int .i64 oa, .int .i64 da], .agg #[.int .i64 ob, .int .i64 db], .agg #[.int .i64 t, .int .i64 u, .int .i64 k]] w fun e w' => e = .returned (.bool true) ∧ Gr w w' := by
  have gb := gro_bd u0 u1 k0 k1
  have ba := rd_bd hva t0 (show t ≤ 1099511627776 by omega)
  have bb := rd_bd hvb t0 (show t ≤ 1099511627776 by omega)
  have HVA := Lib.hid hva
  have HVB := Lib.hid hvb
  have HQ := Lib.hid hq
  clear hva hvb hq
  go_enter Try.func22, Try.ntmps22
  go_wp2_with fail
  have g0 : Gr w ((((w).alloc (Obj.cells #[.int .i64 oa, .int .i64 da] 23)).alloc (Obj.cells #[.int .i64 ob, .int .i64 db] 23)).alloc (Obj.cells #[.int .i64 t, .int .i64 u, .int .i64 k] 62)) := Gr.alloc (Gr.alloc (Gr.alloc (Gr.refl w) _) _) _
  have ba : Bx ((((w).alloc (Obj.cells #[.int .i64 oa, .int .i64 da] 23)).alloc (Obj.cells #[.int .i64 ob, .int .i64 db] 23)).alloc (Obj.cells #[.int .i64 t, .int .i64 u, .int .i64 k] 62)) (w.heap.size) [.int .i64 oa, .int .i64 da] := Bx.gr (Bx.at_ (Bx.new (w) [.int .i64 oa, .int .i64 da] 23) (by simp)) (Gr.alloc (Gr.alloc (Gr.refl _) _) _)
  have bb : Bx ((((w).alloc (Obj.cells #[.int .i64 oa, .int .i64 da] 23)).alloc (Obj.cells #[.int .i64 ob, .int .i64 db] 23)).alloc (Obj.cells #[.int .i64 t, .int .i64 u, .int .i64 k] 62)) (w.heap.size + 1) [.int .i64 ob, .int .i64 db] := Bx.gr (Bx.at_ (Bx.new ((w).alloc (Obj.cells #[.int .i64 oa, .int .i64 da] 23)) [.int .i64 ob, .int .i64 db] 23) (by simp)) (Gr.alloc (Gr.refl _) _)
  have bv : Bx ((((w).alloc (Obj.cells #[.int .i64 oa, .int .i64 da] 23)).alloc (Obj.cells #[.int .i64 ob, .int .i64 db] 23)).alloc (Obj.cells #[.int .i64 t, .int .i64 u, .int .i64 k] 62)) (w.heap.size + 1 + 1) [.int .i64 t, .int .i64 u, .int .i64 k] := Bx.gr (Bx.at_ (Bx.new (((w).alloc (Obj.cells #[.int .i64 oa, .int .i64 da] 23)).alloc (Obj.cells #[.int .i64 ob, .int .i64 db] 23)) [.int .i64 t, .int .i64 u, .int .i64 k] 62) (by simp)) (Gr.refl _)
  generalize (((w).alloc (Obj.cells #[.int .i64 oa, .int .i64 da] 23)).alloc (Obj.cells #[.int .i64 ob, .int .i64 db] 23)).alloc (Obj.cells #[.int .i64 t, .int .i64 u, .int .i64 k] 62) = W at g0 ba bb bv ⊢
  have S0 := Lib.hid g0
  have Ka0 := Lib.hid ba
  have Kb0 := Lib.hid bb
  have Kv0 := Lib.hid bv
  clear g0 ba bb bv
  refine (awake09 _).mono ?_
  rintro e w1 ⟨rfl, hg⟩
  have S1 := Lib.hid (S0.out.trans hg)
  have Ka1 := Lib.hid (Ka0.out.gr hg)
  have Kb1 := Lib.hid (Kb0.out.gr hg)
  have Kv1 := Lib.hid (Kv0.out.gr hg)
  clear hg
  have ca0 := Ka1.out.c 0 _ rfl
  have ca1 := Ka1.out.c 1 _ rfl
  have la := Ka1.out.lt
  have cb0 := Kb1.out.c 0 _ rfl
  have cb1 := Kb1.out.c 1 _ rfl
  have lb := Kb1.out.lt
  have cv0 := Kv1.out.c 0 _ rfl
  have cv1 := Kv1.out.c 1 _ rfl
  have cv2 := Kv1.out.c 2 _ rfl
  have lv := Kv1.out.lt
  go_wp2_with fail
  all_goals (try clear ca0 ca1 la cb0 cb1 lb cv0 cv1 cv2 lv)
  have ca0 := Ka1.out.c 0 _ rfl
  have ca1 := Ka1.out.c 1 _ rfl
  have la := Ka1.out.lt
  have cb0 := Kb1.out.c 0 _ rfl
  have cb1 := Kb1.out.c 1 _ rfl
  have lb := Kb1.out.lt
  have cv0 := Kv1.out.c 0 _ rfl
  have cv1 := Kv1.out.c 1 _ rfl
  have cv2 := Kv1.out.c 2 _ rfl
  have lv := Kv1.out.lt
  go_quiet (fail)
  all_goals (try clear ca0 ca1 la cb0 cb1 lb cv0 cv1 cv2 lv)
  have g0 : Gr w1 (w1.drewN nq) := (Gr.refl _).drewN nq
  generalize w1.drewN nq = w2 at g0 ⊢
  have S2 := Lib.hid (S1.out.trans g0)
  have Ka2 := Lib.hid (Ka1.out.gr g0)
  have Kb2 := Lib.hid (Kb1.out.gr g0)
  have Kv2 := Lib.hid (Kv1.out.gr g0)
  clear g0
  have ca0 := Ka2.out.c 0 _ rfl
  have ca1 := Ka2.out.c 1 _ rfl
  have la := Ka2.out.lt
  have cb0 := Kb2.out.c 0 _ rfl
  have cb1 := Kb2.out.c 1 _ rfl
  have lb := Kb2.out.lt
  have cv0 := Kv2.out.c 0 _ rfl
  have cv1 := Kv2.out.c 1 _ rfl
  have cv2 := Kv2.out.c 2 _ rfl
  have lv := Kv2.out.lt
  go_wp2_with fail
  all_goals (try clear ca0 ca1 la cb0 cb1 lb cv0 cv1 cv2 lv)
  refine (Growth_ok u k _ u0 u1 k0 k1).mono ?_
  rintro e w3 ⟨rfl, hg⟩
  have S3 := Lib.hid (S2.out.trans hg)
  have Ka3 := Lib.hid (Ka2.out.gr hg)
  have Kb3 := Lib.hid (Kb2.out.gr hg)
  have Kv3 := Lib.hid (Kv2.out.gr hg)
  clear hg
  have ca0 := Ka3.out.c 0 _ rfl
  have ca1 := Ka3.out.c 1 _ rfl
  have la := Ka3.out.lt
  have cb0 := Kb3.out.c 0 _ rfl
  have cb1 := Kb3.out.c 1 _ rfl
  have lb := Kb3.out.lt
  have cv0 := Kv3.out.c 0 _ rfl
  have cv1 := Kv3.out.c 1 _ rfl
  have cv2 := Kv3.out.c 2 _ rfl
  have lv := Kv3.out.lt
  go_wp2_with fail
  all_goals (try clear ca0 ca1 la cb0 cb1 lb cv0 cv1 cv2 lv)
  refine (within_t oa da k _ k0 k1 a0 a1).mono ?_
  rintro e w4 ⟨rfl, hg⟩
  have S4 := Lib.hid (S3.out.trans hg)
  have Ka4 := Lib.hid (Ka3.out.gr hg)
  have Kb4 := Lib.hid (Kb3.out.gr hg)
  have Kv4 := Lib.hid (Kv3.out.gr hg)
  clear hg
  have ca0 := Ka4.out.c 0 _ rfl
  have ca1 := Ka4.out.c 1 _ rfl
  have la := Ka4.out.lt
  have cb0 := Kb4.out.c 0 _ rfl
  have cb1 := Kb4.out.c 1 _ rfl
  have lb := Kb4.out.lt
  have cv0 := Kv4.out.c 0 _ rfl
  have cv1 := Kv4.out.c 1 _ rfl
  have cv2 := Kv4.out.c 2 _ rfl
  have lv := Kv4.out.lt
  go_wp2_with fail
  all_goals (try clear ca0 ca1 la cb0 cb1 lb cv0 cv1 cv2 lv)
  refine (within_t ob db k _ k0 k1 b0 b1).mono ?_
  rintro e w5 ⟨rfl, hg⟩
  have S5 := Lib.hid (S4.out.trans hg)
  have Ka5 := Lib.hid (Ka4.out.gr hg)
  have Kb5 := Lib.hid (Kb4.out.gr hg)
  have Kv5 := Lib.hid (Kv4.out.gr hg)
  clear hg
  have ca0 := Ka5.out.c 0 _ rfl
  have ca1 := Ka5.out.c 1 _ rfl
  have la := Ka5.out.lt
  have cb0 := Kb5.out.c 0 _ rfl
  have cb1 := Kb5.out.c 1 _ rfl
  have lb := Kb5.out.lt
  have cv0 := Kv5.out.c 0 _ rfl
  have cv1 := Kv5.out.c 1 _ rfl
  have cv2 := Kv5.out.c 2 _ rfl
  have lv := Kv5.out.lt
  go_wp2_with fail
  all_goals (try clear ca0 ca1 la cb0 cb1 lb cv0 cv1 cv2 lv)
  refine (Apart_ok oa da ob db t _ HVA.out HVB.out t0 (by omega)).mono ?_
  rintro e w6 ⟨rfl, hg⟩
  have S6 := Lib.hid (S5.out.trans hg)
  have Ka6 := Lib.hid (Ka5.out.gr hg)
  have Kb6 := Lib.hid (Kb5.out.gr hg)
  have Kv6 := Lib.hid (Kv5.out.gr hg)
  clear hg
  have ca0 := Ka6.out.c 0 _ rfl
  have ca1 := Ka6.out.c 1 _ rfl
  have la := Ka6.out.lt
  have cb0 := Kb6.out.c 0 _ rfl
  have cb1 := Kb6.out.c 1 _ rfl
  have lb := Kb6.out.lt
  have cv0 := Kv6.out.c 0 _ rfl
  have cv1 := Kv6.out.c 1 _ rfl
  have cv2 := Kv6.out.c 2 _ rfl
  have lv := Kv6.out.lt
  go_wp2_with fail
  all_goals (try clear ca0 ca1 la cb0 cb1 lb cv0 cv1 cv2 lv)
  refine (Adjust_bad9 ob db _ _ HQ.out).mono ?_
  rintro e w7 ⟨rfl, hg⟩
  have S7 := Lib.hid (S6.out.trans hg)
  have Ka7 := Lib.hid (Ka6.out.gr hg)
  have Kb7 := Lib.hid (Kb6.out.gr hg)
  have Kv7 := Lib.hid (Kv6.out.gr hg)
  clear hg
  have ca0 := Ka7.out.c 0 _ rfl
  have fa0 := Ka7.out.f 0 (by simp)
  have ca1 := Ka7.out.c 1 _ rfl
  have fa1 := Ka7.out.f 1 (by simp)
  have la := Ka7.out.lt
  have cb0 := Kb7.out.c 0 _ rfl
  have fb0 := Kb7.out.f 0 (by simp)
  have cb1 := Kb7.out.c 1 _ rfl
  have fb1 := Kb7.out.f 1 (by simp)
  have lb := Kb7.out.lt
  have cv0 := Kv7.out.c 0 _ rfl
  have fv0 := Kv7.out.f 0 (by simp)
  have cv1 := Kv7.out.c 1 _ rfl
  have fv1 := Kv7.out.f 1 (by simp)
  have cv2 := Kv7.out.c 2 _ rfl
  have fv2 := Kv7.out.f 2 (by simp)
  have lv := Kv7.out.lt
  go_wp2_with fail
  all_goals (try clear ca0 fa0 ca1 fa1 la cb0 fb0 cb1 fb1 lb cv0 fv0 cv1 fv1 cv2 fv2 lv)
  have g0 : Gr w ((w7.setCell ⟨w.heap.size + 1, 0, none⟩ (.int .i64 0)).setCell ⟨w.heap.size + 1, 1, none⟩ (.int .i64 0)) := Gr.set (Gr.set S7.out (p := ⟨w.heap.size + 1, 0, none⟩) (by simp) _) (p := ⟨w.heap.size + 1, 1, none⟩) (by simp) _
  have ba : Bx ((w7.setCell ⟨w.heap.size + 1, 0, none⟩ (.int .i64 0)).setCell ⟨w.heap.size + 1, 1, none⟩ (.int .i64 0)) (w.heap.size) [.int .i64 oa, .int .i64 da] := (Ka7.out.setFar (p := ⟨w.heap.size + 1, 0, none⟩) (by simp) _).setFar (p := ⟨w.heap.size + 1, 1, none⟩) (by simp) _
  have bb : Bx ((w7.setCell ⟨w.heap.size + 1, 0, none⟩ (.int .i64 0)).setCell ⟨w.heap.size + 1, 1, none⟩ (.int .i64 0)) (w.heap.size + 1) [.int .i64 0, .int .i64 0] := Kb7.out.set2 _ _
  have bv : Bx ((w7.setCell ⟨w.heap.size + 1, 0, none⟩ (.int .i64 0)).setCell ⟨w.heap.size + 1, 1, none⟩ (.int .i64 0)) (w.heap.size + 1 + 1) [.int .i64 t, .int .i64 u, .int .i64 k] := (Kv7.out.setFar (p := ⟨w.heap.size + 1, 0, none⟩) (by simp) _).setFar (p := ⟨w.heap.size + 1, 1, none⟩) (by simp) _
  generalize (w7.setCell ⟨w.heap.size + 1, 0, none⟩ (.int .i64 0)).setCell ⟨w.heap.size + 1, 1, none⟩ (.int .i64 0) = w8 at g0 ba bb bv ⊢
  have S8 := Lib.hid g0
  have Ka8 := Lib.hid ba
  have Kb8 := Lib.hid bb
  have Kv8 := Lib.hid bv
  clear g0 ba bb bv
  all_goals go_ret
  all_goals exact ⟨rfl, S8.out⟩


set_option maxHeartbeats 1000000 in
theorem GuardGrows_ok (oa da ob db t u k : Int) (w : World) (k0 : 0 ≤ k) (k1 : k ≤ 100000) (u0 : 0 ≤ u) (u1 : u ≤ 1099511627776) (t0 : 0 ≤ t) (t1 : t ≤ 1099511627776 - u) (a0 : -k ≤ da) (a1 : da ≤ k) (b0 : -k ≤ db) (b1 : db ≤ k) (hva : Vc oa da) (hvb : Vc ob db) (hq : adOk ob db (t % 3 - 1 - (rd ob db t - rd oa da t))) (m : Int) (hm : m = max (rd (ob + (t % 3 - 1 - (rd ob db t - rd oa da t))) db (t + u) - rd oa da (t + u)) (-(rd (ob + (t % 3 - 1 - (rd ob db t - rd oa da t))) db (t + u) - rd oa da (t + u)))) :
    Calls Try.prog 22 #[.agg #[.int .i64 oa, .int .i64 da], .agg #[.int .i64 ob, .int .i64 db], .agg #[.int .i64 t, .int .i64 u, .int .i64 k]] w fun e w' => e = .returned (.bool true) ∧ Gr w w' := by
  have gb := gro_bd u0 u1 k0 k1
  have ba := rd_bd hva t0 (show t ≤ 1099511627776 by omega)
  have bb := rd_bd hvb t0 (show t ≤ 1099511627776 by omega)
  have bc := rd_bd hva (show 0 ≤ t + u by omega) (show t + u ≤ 1099511627776 by omega)
  have be := rd_bd hq.2.2 (show 0 ≤ t + u by omega) (show t + u ≤ 1099511627776 by omega)
  have hs : rd (ob + (t % 3 - 1 - (rd ob db t - rd oa da t))) db (t + u) = rd ob db (t + u) + (t % 3 - 1 - (rd ob db t - rd oa da t)) := by unfold rd; omega
  have ag := apart_grow (o := oa) (d := da) (p := ob) (e := db) (t := t) (k := k) u0 a0 a1 b0 b1
  have m1 : m ≤ 1 + gro u k := by omega
  have bd := rd_bd hvb (show 0 ≤ t + u by omega) (show t + u ≤ 1099511627776 by omega)
  clear hs ag
  have HVA := Lib.hid hva
  have HVB := Lib.hid hvb
  have HQ := Lib.hid hq
  have HM := Lib.hid hm
  clear hva hvb hq hm
  go_enter Try.func22, Try.ntmps22
  go_wp2_with fail
  have g0 : Gr w ((((w).alloc (Obj.cells #[.int .i64 oa, .int .i64 da] 23)).alloc (Obj.cells #[.int .i64 ob, .int .i64 db] 23)).alloc (Obj.cells #[.int .i64 t, .int .i64 u, .int .i64 k] 62)) := Gr.alloc (Gr.alloc (Gr.alloc (Gr.refl w) _) _) _
  have ba : Bx ((((w).alloc (Obj.cells #[.int .i64 oa, .int .i64 da] 23)).alloc (Obj.cells #[.int .i64 ob, .int .i64 db] 23)).alloc (Obj.cells #[.int .i64 t, .int .i64 u, .int .i64 k] 62)) (w.heap.size) [.int .i64 oa, .int .i64 da] := Bx.gr (Bx.at_ (Bx.new (w) [.int .i64 oa, .int .i64 da] 23) (by simp)) (Gr.alloc (Gr.alloc (Gr.refl _) _) _)
  have bb : Bx ((((w).alloc (Obj.cells #[.int .i64 oa, .int .i64 da] 23)).alloc (Obj.cells #[.int .i64 ob, .int .i64 db] 23)).alloc (Obj.cells #[.int .i64 t, .int .i64 u, .int .i64 k] 62)) (w.heap.size + 1) [.int .i64 ob, .int .i64 db] := Bx.gr (Bx.at_ (Bx.new ((w).alloc (Obj.cells #[.int .i64 oa, .int .i64 da] 23)) [.int .i64 ob, .int .i64 db] 23) (by simp)) (Gr.alloc (Gr.refl _) _)
  have bv : Bx ((((w).alloc (Obj.cells #[.int .i64 oa, .int .i64 da] 23)).alloc (Obj.cells #[.int .i64 ob, .int .i64 db] 23)).alloc (Obj.cells #[.int .i64 t, .int .i64 u, .int .i64 k] 62)) (w.heap.size + 1 + 1) [.int .i64 t, .int .i64 u, .int .i64 k] := Bx.gr (Bx.at_ (Bx.new (((w).alloc (Obj.cells #[.int .i64 oa, .int .i64 da] 23)).alloc (Obj.cells #[.int .i64 ob, .int .i64 db] 23)) [.int .i64 t, .int .i64 u, .int .i64 k] 62) (by simp)) (Gr.refl _)
  generalize (((w).alloc (Obj.cells #[.int .i64 oa, .int .i64 da] 23)).alloc (Obj.cells #[.int .i64 ob, .int .i64 db] 23)).alloc (Obj.cells #[.int .i64 t, .int .i64 u, .int .i64 k] 62) = W at g0 ba bb bv ⊢
  have S0 := Lib.hid g0
  have Ka0 := Lib.hid ba
  have Kb0 := Lib.hid bb
  have Kv0 := Lib.hid bv
  clear g0 ba bb bv
  refine (awake09 _).mono ?_
  rintro e w1 ⟨rfl, hg⟩
  have S1 := Lib.hid (S0.out.trans hg)
  have Ka1 := Lib.hid (Ka0.out.gr hg)
  have Kb1 := Lib.hid (Kb0.out.gr hg)
  have Kv1 := Lib.hid (Kv0.out.gr hg)
  clear hg
  have ca0 := Ka1.out.c 0 _ rfl
  have ca1 := Ka1.out.c 1 _ rfl
  have la := Ka1.out.lt
  have cb0 := Kb1.out.c 0 _ rfl
  have cb1 := Kb1.out.c 1 _ rfl
  have lb := Kb1.out.lt
  have cv0 := Kv1.out.c 0 _ rfl
  have cv1 := Kv1.out.c 1 _ rfl
  have cv2 := Kv1.out.c 2 _ rfl
  have lv := Kv1.out.lt
  go_wp2_with fail
  all_goals (try clear ca0 ca1 la cb0 cb1 lb cv0 cv1 cv2 lv)
  have ca0 := Ka1.out.c 0 _ rfl
  have ca1 := Ka1.out.c 1 _ rfl
  have la := Ka1.out.lt
  have cb0 := Kb1.out.c 0 _ rfl
  have cb1 := Kb1.out.c 1 _ rfl
  have lb := Kb1.out.lt
  have cv0 := Kv1.out.c 0 _ rfl
  have cv1 := Kv1.out.c 1 _ rfl
  have cv2 := Kv1.out.c 2 _ rfl
  have lv := Kv1.out.lt
  go_quiet (fail)
  all_goals (try clear ca0 ca1 la cb0 cb1 lb cv0 cv1 cv2 lv)
  have g0 : Gr w1 (w1.drewN nq) := (Gr.refl _).drewN nq
  generalize w1.drewN nq = w2 at g0 ⊢
  have S2 := Lib.hid (S1.out.trans g0)
  have Ka2 := Lib.hid (Ka1.out.gr g0)
  have Kb2 := Lib.hid (Kb1.out.gr g0)
  have Kv2 := Lib.hid (Kv1.out.gr g0)
  clear g0
  have ca0 := Ka2.out.c 0 _ rfl
  have ca1 := Ka2.out.c 1 _ rfl
  have la := Ka2.out.lt
  have cb0 := Kb2.out.c 0 _ rfl
  have cb1 := Kb2.out.c 1 _ rfl
  have lb := Kb2.out.lt
  have cv0 := Kv2.out.c 0 _ rfl
  have cv1 := Kv2.out.c 1 _ rfl
  have cv2 := Kv2.out.c 2 _ rfl
  have lv := Kv2.out.lt
  go_wp2_with fail
  all_goals (try clear ca0 ca1 la cb0 cb1 lb cv0 cv1 cv2 lv)
  refine (Growth_ok u k _ u0 u1 k0 k1).mono ?_
  rintro e w3 ⟨rfl, hg⟩
  have S3 := Lib.hid (S2.out.trans hg)
  have Ka3 := Lib.hid (Ka2.out.gr hg)
  have Kb3 := Lib.hid (Kb2.out.gr hg)
  have Kv3 := Lib.hid (Kv2.out.gr hg)
  clear hg
  have ca0 := Ka3.out.c 0 _ rfl
  have ca1 := Ka3.out.c 1 _ rfl
  have la := Ka3.out.lt
  have cb0 := Kb3.out.c 0 _ rfl
  have cb1 := Kb3.out.c 1 _ rfl
  have lb := Kb3.out.lt
  have cv0 := Kv3.out.c 0 _ rfl
  have cv1 := Kv3.out.c 1 _ rfl
  have cv2 := Kv3.out.c 2 _ rfl
  have lv := Kv3.out.lt
  go_wp2_with fail
  all_goals (try clear ca0 ca1 la cb0 cb1 lb cv0 cv1 cv2 lv)
  refine (within_t oa da k _ k0 k1 a0 a1).mono ?_
  rintro e w4 ⟨rfl, hg⟩
  have S4 := Lib.hid (S3.out.trans hg)
  have Ka4 := Lib.hid (Ka3.out.gr hg)
  have Kb4 := Lib.hid (Kb3.out.gr hg)
  have Kv4 := Lib.hid (Kv3.out.gr hg)
  clear hg
  have ca0 := Ka4.out.c 0 _ rfl
  have ca1 := Ka4.out.c 1 _ rfl
  have la := Ka4.out.lt
  have cb0 := Kb4.out.c 0 _ rfl
  have cb1 := Kb4.out.c 1 _ rfl
  have lb := Kb4.out.lt
  have cv0 := Kv4.out.c 0 _ rfl
  have cv1 := Kv4.out.c 1 _ rfl
  have cv2 := Kv4.out.c 2 _ rfl
  have lv := Kv4.out.lt
  go_wp2_with fail
  all_goals (try clear ca0 ca1 la cb0 cb1 lb cv0 cv1 cv2 lv)
  refine (within_t ob db k _ k0 k1 b0 b1).mono ?_
  rintro e w5 ⟨rfl, hg⟩
  have S5 := Lib.hid (S4.out.trans hg)
  have Ka5 := Lib.hid (Ka4.out.gr hg)
  have Kb5 := Lib.hid (Kb4.out.gr hg)
  have Kv5 := Lib.hid (Kv4.out.gr hg)
  clear hg
  have ca0 := Ka5.out.c 0 _ rfl
  have ca1 := Ka5.out.c 1 _ rfl
  have la := Ka5.out.lt
  have cb0 := Kb5.out.c 0 _ rfl
  have cb1 := Kb5.out.c 1 _ rfl
  have lb := Kb5.out.lt
  have cv0 := Kv5.out.c 0 _ rfl
  have cv1 := Kv5.out.c 1 _ rfl
  have cv2 := Kv5.out.c 2 _ rfl
  have lv := Kv5.out.lt
  go_wp2_with fail
  all_goals (try clear ca0 ca1 la cb0 cb1 lb cv0 cv1 cv2 lv)
  refine (Apart_ok oa da ob db t _ HVA.out HVB.out t0 (by omega)).mono ?_
  rintro e w6 ⟨rfl, hg⟩
  have S6 := Lib.hid (S5.out.trans hg)
  have Ka6 := Lib.hid (Ka5.out.gr hg)
  have Kb6 := Lib.hid (Kb5.out.gr hg)
  have Kv6 := Lib.hid (Kv5.out.gr hg)
  clear hg
  have ca0 := Ka6.out.c 0 _ rfl
  have ca1 := Ka6.out.c 1 _ rfl
  have la := Ka6.out.lt
  have cb0 := Kb6.out.c 0 _ rfl
  have cb1 := Kb6.out.c 1 _ rfl
  have lb := Kb6.out.lt
  have cv0 := Kv6.out.c 0 _ rfl
  have cv1 := Kv6.out.c 1 _ rfl
  have cv2 := Kv6.out.c 2 _ rfl
  have lv := Kv6.out.lt
  go_wp2_with fail
  all_goals (try clear ca0 ca1 la cb0 cb1 lb cv0 cv1 cv2 lv)
  refine (Adjust_ok ob db (t % 3 - 1 - (rd ob db t - rd oa da t)) _ HVB.out HQ.out.2.1.1 HQ.out.2.1.2 HQ.out.2.2).mono ?_
  rintro e w7 ⟨rfl, hg⟩
  have S7 := Lib.hid (S6.out.trans hg)
  have Ka7 := Lib.hid (Ka6.out.gr hg)
  have Kb7 := Lib.hid (Kb6.out.gr hg)
  have Kv7 := Lib.hid (Kv6.out.gr hg)
  clear hg
  have ca0 := Ka7.out.c 0 _ rfl
  have fa0 := Ka7.out.f 0 (by simp)
  have ca1 := Ka7.out.c 1 _ rfl
  have fa1 := Ka7.out.f 1 (by simp)
  have la := Ka7.out.lt
  have cb0 := Kb7.out.c 0 _ rfl
  have fb0 := Kb7.out.f 0 (by simp)
  have cb1 := Kb7.out.c 1 _ rfl
  have fb1 := Kb7.out.f 1 (by simp)
  have lb := Kb7.out.lt
  have cv0 := Kv7.out.c 0 _ rfl
  have fv0 := Kv7.out.f 0 (by simp)
  have cv1 := Kv7.out.c 1 _ rfl
  have fv1 := Kv7.out.f 1 (by simp)
  have cv2 := Kv7.out.c 2 _ rfl
  have fv2 := Kv7.out.f 2 (by simp)
  have lv := Kv7.out.lt
  go_wp2_with fail
  all_goals (try clear ca0 fa0 ca1 fa1 la cb0 fb0 cb1 fb1 lb cv0 fv0 cv1 fv1 cv2 fv2 lv)
  have g0 : Gr w ((w7.setCell ⟨w.heap.size + 1, 0, none⟩ (.int .i64 (ob + (t % 3 - 1 - (rd ob db t - rd oa da t))))).setCell ⟨w.heap.size + 1, 1, none⟩ (.int .i64 db)) := Gr.set (Gr.set S7.out (p := ⟨w.heap.size + 1, 0, none⟩) (by simp) _) (p := ⟨w.heap.size + 1, 1, none⟩) (by simp) _
  have ba : Bx ((w7.setCell ⟨w.heap.size + 1, 0, none⟩ (.int .i64 (ob + (t % 3 - 1 - (rd ob db t - rd oa da t))))).setCell ⟨w.heap.size + 1, 1, none⟩ (.int .i64 db)) (w.heap.size) [.int .i64 oa, .int .i64 da] := (Ka7.out.setFar (p := ⟨w.heap.size + 1, 0, none⟩) (by simp) _).setFar (p := ⟨w.heap.size + 1, 1, none⟩) (by simp) _
  have bb : Bx ((w7.setCell ⟨w.heap.size + 1, 0, none⟩ (.int .i64 (ob + (t % 3 - 1 - (rd ob db t - rd oa da t))))).setCell ⟨w.heap.size + 1, 1, none⟩ (.int .i64 db)) (w.heap.size + 1) [.int .i64 (ob + (t % 3 - 1 - (rd ob db t - rd oa da t))), .int .i64 db] := Kb7.out.set2 _ _
  have bv : Bx ((w7.setCell ⟨w.heap.size + 1, 0, none⟩ (.int .i64 (ob + (t % 3 - 1 - (rd ob db t - rd oa da t))))).setCell ⟨w.heap.size + 1, 1, none⟩ (.int .i64 db)) (w.heap.size + 1 + 1) [.int .i64 t, .int .i64 u, .int .i64 k] := (Kv7.out.setFar (p := ⟨w.heap.size + 1, 0, none⟩) (by simp) _).setFar (p := ⟨w.heap.size + 1, 1, none⟩) (by simp) _
  generalize (w7.setCell ⟨w.heap.size + 1, 0, none⟩ (.int .i64 (ob + (t % 3 - 1 - (rd ob db t - rd oa da t))))).setCell ⟨w.heap.size + 1, 1, none⟩ (.int .i64 db) = w8 at g0 ba bb bv ⊢
  have S8 := Lib.hid g0
  have Ka8 := Lib.hid ba
  have Kb8 := Lib.hid bb
  have Kv8 := Lib.hid bv
  clear g0 ba bb bv
  refine (Apart_ok oa da (ob + (t % 3 - 1 - (rd ob db t - rd oa da t))) db (t + u) _ HVA.out HQ.out.2.2 (by omega) (by omega)).mono ?_
  rintro e w9 ⟨rfl, hg⟩
  have S9 := Lib.hid (S8.out.trans hg)
  have Ka9 := Lib.hid (Ka8.out.gr hg)
  have Kb9 := Lib.hid (Kb8.out.gr hg)
  have Kv9 := Lib.hid (Kv8.out.gr hg)
  clear hg
  have ca0 := Ka9.out.c 0 _ rfl
  have ca1 := Ka9.out.c 1 _ rfl
  have la := Ka9.out.lt
  have cb0 := Kb9.out.c 0 _ rfl
  have cb1 := Kb9.out.c 1 _ rfl
  have lb := Kb9.out.lt
  have cv0 := Kv9.out.c 0 _ rfl
  have cv1 := Kv9.out.c 1 _ rfl
  have cv2 := Kv9.out.c 2 _ rfl
  have lv := Kv9.out.lt
  go_wp2_with fail
  all_goals (try clear ca0 ca1 la cb0 cb1 lb cv0 cv1 cv2 lv)
  refine (size9 (rd (ob + (t % 3 - 1 - (rd ob db t - rd oa da t))) db (t + u) - rd oa da (t + u)) m _ (by omega) (by omega) HM.out).mono ?_
  rintro e w10 ⟨rfl, hg⟩
  have S10 := Lib.hid (S9.out.trans hg)
  have Ka10 := Lib.hid (Ka9.out.gr hg)
  have Kb10 := Lib.hid (Kb9.out.gr hg)
  have Kv10 := Lib.hid (Kv9.out.gr hg)
  clear hg
  have ca0 := Ka10.out.c 0 _ rfl
  have ca1 := Ka10.out.c 1 _ rfl
  have la := Ka10.out.lt
  have cb0 := Kb10.out.c 0 _ rfl
  have cb1 := Kb10.out.c 1 _ rfl
  have lb := Kb10.out.lt
  have cv0 := Kv10.out.c 0 _ rfl
  have cv1 := Kv10.out.c 1 _ rfl
  have cv2 := Kv10.out.c 2 _ rfl
  have lv := Kv10.out.lt
  go_wp2_with fail
  all_goals (try clear ca0 ca1 la cb0 cb1 lb cv0 cv1 cv2 lv)
  all_goals go_ret
  all_goals exact ⟨rfl, S10.out⟩


theorem GuardGrows_walk (oa da ob db t u k : Int) (w : World) :
    Calls Try.prog 22 #[.agg #[.int .i64 oa, .int .i64 da], .agg #[.int .i64 ob, .int .i64 db], .agg #[.int .i64 t, .int .i64 u, .int .i64 k]] w fun e w' => e = .returned (.bool true) ∧ Gr w w' := by
  by_cases h : inDrift k ∧ 0 ≤ u ∧ u ≤ 1099511627776
  · obtain ⟨⟨k0, k1⟩, u0, u1⟩ := h
    by_cases t0 : 0 ≤ t
    · by_cases t1 : t ≤ 1099511627776 - u
      · by_cases ha : -k ≤ da ∧ da ≤ k
        · by_cases hb : -k ≤ db ∧ db ≤ k
          · by_cases hv : Vc oa da ∧ Vc ob db
            · by_cases hq : adOk ob db (t % 3 - 1 - (rd ob db t - rd oa da t))
              · exact GuardGrows_ok oa da ob db t u k w k0 k1 u0 u1 t0 t1 ha.1 ha.2 hb.1 hb.2 hv.1 hv.2 hq _ rfl
              · exact GuardGrows_bad oa da ob db t u k w k0 k1 u0 u1 t0 t1 ha.1 ha.2 hb.1 hb.2 hv.1 hv.2 hq
            · exact GuardGrows_arg oa da ob db t u k w k0 k1 u0 u1 t0 t1 ha.1 ha.2 hb.1 hb.2 hv
          · exact GuardGrows_wb oa da ob db t u k w k0 k1 u0 u1 t0 t1 ha.1 ha.2 (by omega)
        · exact GuardGrows_wa oa da ob db t u k w k0 k1 u0 u1 t0 t1 (by omega)
      · exact GuardGrows_t1 oa da ob db t u k w k0 k1 u0 u1 t0 (by omega)
    · exact GuardGrows_t0 oa da ob db t u k w k0 k1 u0 u1 (by omega)
  · exact GuardGrows_no oa da ob db t u k w h
set_option maxRecDepth 100000 in
set_option maxHeartbeats 1000000 in
theorem GuardGrows_lifted (os : Os) (started : os.Started) (H : Type) (enc : TypeId × Value → H) :
    ReturnsInHanded {} Try.checked os 22 .any (Rows.guardGrowsSpec.pre6 enc Try.prog Try.f22 Rows.guardGrowsRow.domain false) (Rows.guardGrowsSpec.post enc Try.prog Try.f22 false true false false) := by
  refine returnsInHanded_of_change (C := Try.checked) Try.own started (by kernel_rfl) Try.func22
    (ChangeSpec.witness6 (enc := enc) (C := Try.checked) false ⟨#[], #[.agg #[.int .i64 0, .int .i64 0], .agg #[.int .i64 0, .int .i64 0], .agg #[.int .i64 0, .int .i64 0, .int .i64 0]], []⟩ 8 (by kernel_rfl) (by kernel_rfl) (by kernel_rfl) (by kernel_rfl)) ?_
  intro W base args ds gs before hval0 hW hcnd _
  have hval : ∀ (j : Nat) t v, Try.f22.params[j]? = some t → args[j]? = some v → Value.okWide Try.prog W .any base t v := hval0
  have hW' := hW
  obtain ⟨p, q, hA0, hV, rfl, hfz, hnd⟩ := hW
  have hA : DataW.TrodAll enc Try.prog W 0 (fun _ => true) true Try.f22.params.toList args.toList ds p := hA0
  rw [Try.params22] at hA hval
  have hAk := hA
  obtain ⟨v0, vs0, d0, ds0, p0, q0, hargs, rfl, rfl, h0, r0⟩ := trodAll_cons hA
  obtain ⟨v1, vs1, d1, ds1, p1, q1, rfl, rfl, rfl, h1, r1⟩ := trodAll_cons r0
  obtain ⟨v2, vs2, d2, ds2, p2, q2, rfl, rfl, rfl, h2, r2⟩ := trodAll_cons r1
  obtain ⟨rfl, rfl, rfl⟩ := trodAll_nil r2
  obtain rfl : args = #[v0, v1, v2] := by cases args; simp_all
  obtain ⟨rfl, rfl⟩ := trodVars_none hV
  obtain ⟨c00, c01, y00, y01, m0, rfl, rfl, rfl, hy00, hy01⟩ := open_agg2 Try.underlying23 (by kernel_rfl) Try.cells23 (hval 0 23 v0 rfl rfl) h0
  obtain ⟨oa, e00, rfl, wfoa⟩ := DataW.trod_int Try.underlying3 hy00
  obtain ⟨da, e01, rfl, wfda⟩ := DataW.trod_int Try.underlying3 hy01
  simp at e00 e01
  subst e00 e01
  obtain ⟨c10, c11, y10, y11, m1, rfl, rfl, rfl, hy10, hy11⟩ := open_agg2 Try.underlying23 (by kernel_rfl) Try.cells23 (hval 1 23 v1 rfl rfl) h1
  obtain ⟨ob, e10, rfl, wfob⟩ := DataW.trod_int Try.underlying3 hy10
  obtain ⟨db, e11, rfl, wfdb⟩ := DataW.trod_int Try.underlying3 hy11
  simp at e10 e11
  subst e10 e11
  obtain ⟨t, u, k, rfl, wft, wfu, wfk⟩ := open_a3 Try.underlying62 Try.underlying3 (by kernel_rfl) (by kernel_rfl) (hval 2 62 v2 rfl rfl) h2
  clear hA0 hval0
  simp only [List.append_nil] at hW'
  refine (GuardGrows_walk oa da ob db t u k W).mono fun e W' ⟨he, hg⟩ => ?_
  subst he
  have hb : Below W.heap.size W W' := hg
  exact ⟨_, rfl, _, _, _, [], _, [], hW', trodAll_mk1 (shut_bool Try.underlying4 _), trodAll_stays Try.laidOut hb _ _ _ _ (by intro t ht; simp at ht; rcases ht with rfl | rfl | rfl <;> exact ⟨by kernel_rfl, of_decide_eq_true (by kernel_rfl)⟩) hAk (fun x hx => by simpa using hW'.lt x (by simpa using hx)), rfl, hb.frame _, fun h => by cases h⟩

theorem GuardGrows_closed : joinedFacts Try.pinned.checked.prog 22 Try.f22 Rows.guardGrowsSpec Rows.guardGrowsRow = true := by
  unfold joinedFacts
  exact (and_tt (and_tt (and_tt (and_tt (and_tt (and_tt (and_tt (and_tt (and_tt (and_tt (and_tt (and_tt (and_tt (and_tt (and_tt (and_tt (and_tt (and_tt (and_tt (and_tt (and_tt (and_tt (and_tt (and_tt (and_tt (and_tt (and_tt (and_tt (and_tt (and_tt (and_tt (by as_aux_lemma => kernel_rfl) (J_laid)) (J_maps)) (by as_aux_lemma => kernel_rfl)) (by as_aux_lemma => kernel_rfl)) (by as_aux_lemma => kernel_rfl)) (J_stops)) (by as_aux_lemma => kernel_rfl)) (J_knobs)) (by as_aux_lemma => kernel_rfl)) (by as_aux_lemma => kernel_rfl)) (by as_aux_lemma => kernel_rfl)) (by as_aux_lemma => kernel_rfl)) (by as_aux_lemma => kernel_rfl)) (by as_aux_lemma => kernel_rfl)) (by as_aux_lemma => kernel_rfl)) (by as_aux_lemma => kernel_rfl)) (by as_aux_lemma => kernel_rfl)) (by as_aux_lemma => kernel_rfl)) (by as_aux_lemma => kernel_rfl)) (by as_aux_lemma => kernel_rfl)) (by as_aux_lemma => kernel_rfl)) (J_keys)) (by as_aux_lemma => kernel_rfl)) (J_heard)) (J_enter)) (J_lifts)) (J_make)) (by as_aux_lemma => kernel_rfl)) (by as_aux_lemma => kernel_rfl)) (by as_aux_lemma => kernel_rfl)) (by as_aux_lemma => kernel_rfl))

/-- THE STATEMENT GuardGrows. -/
theorem GuardGrows_holds : Rows.GuardGrowsSaid :=
  OpenClaim.holds_of_wide 22 Try.f22 rfl rfl rfl rfl rfl rfl rfl ⟨rfl, rfl, rfl, rfl, rfl⟩ rfl rfl rfl rfl rfl (by kernel_rfl) Try.func22 GuardGrows_closed
    (of_decide_eq_true (by kernel_rfl)) (by unfold Func.isWrapper; rw [if_neg (of_decide_eq_false (by kernel_rfl))]; exact ⟨rfl, rfl⟩)
    (fun os started H enc _ => GuardGrows_lifted os started H enc)
#print axioms GuardGrows_holds
end Go.Proofs.Ytpnigndobhbfnaa
