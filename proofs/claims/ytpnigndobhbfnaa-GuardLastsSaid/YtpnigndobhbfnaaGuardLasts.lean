/- GuardLasts: while a clock with a drift within the bound shows K slots more, not more time passes than their length. For every input the call returns true and each argument reads afterwards as it read before (no condition). -/
import Derived.Test.YtpnigndobhbfnaaGrdE
import Derived.Test.YtpnigndobhbfnaaFrame
set_option linter.unnecessarySimpa false
namespace Go.Proofs.Ytpnigndobhbfnaa
open Go.ChangeShapes Go.WideShapes Go.ChangeAt Go.RowKit Go.Joins
theorem Length_bad (n k : Int) (w : World) (h : ¬ (inDrift k ∧ inRun n)) : Calls Try.prog 72 #[.int .i64 n, .int .i64 k] w fun e w' => e = .returned (.tuple #[.int .i64 0, .int .i64 2]) ∧ Gr w w' := by
  have := Length_any n k w
  unfold glN glE at this
  simpa only [if_neg h] using this

set_option maxHeartbeats 800000 in
theorem GuardLasts_no (o d t n k : Int) (w : World) (h : ¬ (inDrift k ∧ inRun n)) :
    Calls Try.prog 18 #[.agg #[.int .i64 o, .int .i64 d], .agg #[.int .i64 t, .int .i64 n, .int .i64 k]] w fun e w' => e = .returned (.bool true) ∧ Gr w w' := by
  have H := Lib.hid h
  clear h
  go_enter Try.func18, Try.ntmps18
  go_wp2_with fail
  have g0 : Gr w (((w).alloc (Obj.cells #[.int .i64 o, .int .i64 d] 23)).alloc (Obj.cells #[.int .i64 t, .int .i64 n, .int .i64 k] 62)) := Gr.alloc (Gr.alloc (Gr.refl w) _) _
  have ba : Bx (((w).alloc (Obj.cells #[.int .i64 o, .int .i64 d] 23)).alloc (Obj.cells #[.int .i64 t, .int .i64 n, .int .i64 k] 62)) (w.heap.size) [.int .i64 o, .int .i64 d] := Bx.gr (Bx.at_ (Bx.new (w) [.int .i64 o, .int .i64 d] 23) (by simp)) (Gr.alloc (Gr.refl _) _)
  have bv : Bx (((w).alloc (Obj.cells #[.int .i64 o, .int .i64 d] 23)).alloc (Obj.cells #[.int .i64 t, .int .i64 n, .int .i64 k] 62)) (w.heap.size + 1) [.int .i64 t, .int .i64 n, .int .i64 k] := Bx.gr (Bx.at_ (Bx.new ((w).alloc (Obj.cells #[.int .i64 o, .int .i64 d] 23)) [.int .i64 t, .int .i64 n, .int .i64 k] 62) (by simp)) (Gr.refl _)
  generalize ((w).alloc (Obj.cells #[.int .i64 o, .int .i64 d] 23)).alloc (Obj.cells #[.int .i64 t, .int .i64 n, .int .i64 k] 62) = W at g0 ba bv ⊢
  have S0 := Lib.hid g0
  have Ka0 := Lib.hid ba
  have Kv0 := Lib.hid bv
  clear g0 ba bv
  refine (awake09 _).mono ?_
  rintro e w1 ⟨rfl, hg⟩
  have S1 := Lib.hid (S0.out.trans hg)
  have Ka1 := Lib.hid (Ka0.out.gr hg)
  have Kv1 := Lib.hid (Kv0.out.gr hg)
  clear hg
  have ca0 := Ka1.out.c 0 _ rfl
  have ca1 := Ka1.out.c 1 _ rfl
  have la := Ka1.out.lt
  have cv0 := Kv1.out.c 0 _ rfl
  have cv1 := Kv1.out.c 1 _ rfl
  have cv2 := Kv1.out.c 2 _ rfl
  have lv := Kv1.out.lt
  go_wp2_with fail
  all_goals (try clear ca0 ca1 la cv0 cv1 cv2 lv)
  have ca0 := Ka1.out.c 0 _ rfl
  have ca1 := Ka1.out.c 1 _ rfl
  have la := Ka1.out.lt
  have cv0 := Kv1.out.c 0 _ rfl
  have cv1 := Kv1.out.c 1 _ rfl
  have cv2 := Kv1.out.c 2 _ rfl
  have lv := Kv1.out.lt
  go_quiet (fail)
  all_goals (try clear ca0 ca1 la cv0 cv1 cv2 lv)
  have g0 : Gr w1 (w1.drewN nq) := (Gr.refl _).drewN nq
  generalize w1.drewN nq = w2 at g0 ⊢
  have S2 := Lib.hid (S1.out.trans g0)
  have Ka2 := Lib.hid (Ka1.out.gr g0)
  have Kv2 := Lib.hid (Kv1.out.gr g0)
  clear g0
  have ca0 := Ka2.out.c 0 _ rfl
  have ca1 := Ka2.out.c 1 _ rfl
  have la := Ka2.out.lt
  have cv0 := Kv2.out.c 0 _ rfl
  have cv1 := Kv2.out.c 1 _ rfl
  have cv2 := Kv2.out.c 2 _ rfl
  have lv := Kv2.out.lt
  go_wp2_with fail
  all_goals (try clear ca0 ca1 la cv0 cv1 cv2 lv)
  refine (Length_bad n k _ H.out).mono ?_
  rintro e w3 ⟨rfl, hg⟩
  have S3 := Lib.hid (S2.out.trans hg)
  have Ka3 := Lib.hid (Ka2.out.gr hg)
  have Kv3 := Lib.hid (Kv2.out.gr hg)
  clear hg
  have ca0 := Ka3.out.c 0 _ rfl
  have ca1 := Ka3.out.c 1 _ rfl
  have la := Ka3.out.lt
  have cv0 := Kv3.out.c 0 _ rfl
  have cv1 := Kv3.out.c 1 _ rfl
  have cv2 := Kv3.out.c 2 _ rfl
  have lv := Kv3.out.lt
  go_wp2_with fail
  all_goals (try clear ca0 ca1 la cv0 cv1 cv2 lv)
  all_goals go_ret
  all_goals exact ⟨rfl, S3.out⟩


set_option maxHeartbeats 800000 in
theorem GuardLasts_t0 (o d t n k : Int) (w : World) (k0 : 0 ≤ k) (k1 : k ≤ 100000) (n0 : 0 ≤ n) (n1 : n ≤ 4096) (h : t < 0) :
    Calls Try.prog 18 #[.agg #[.int .i64 o, .int .i64 d], .agg #[.int .i64 t, .int .i64 n, .int .i64 k]] w fun e w' => e = .returned (.bool true) ∧ Gr w w' := by
  have l0 := len_lo n0 k1
  have l1 := len_hi n0 (by omega) k0 k1
  go_enter Try.func18, Try.ntmps18
  go_wp2_with fail
  have g0 : Gr w (((w).alloc (Obj.cells #[.int .i64 o, .int .i64 d] 23)).alloc (Obj.cells #[.int .i64 t, .int .i64 n, .int .i64 k] 62)) := Gr.alloc (Gr.alloc (Gr.refl w) _) _
  have ba : Bx (((w).alloc (Obj.cells #[.int .i64 o, .int .i64 d] 23)).alloc (Obj.cells #[.int .i64 t, .int .i64 n, .int .i64 k] 62)) (w.heap.size) [.int .i64 o, .int .i64 d] := Bx.gr (Bx.at_ (Bx.new (w) [.int .i64 o, .int .i64 d] 23) (by simp)) (Gr.alloc (Gr.refl _) _)
  have bv : Bx (((w).alloc (Obj.cells #[.int .i64 o, .int .i64 d] 23)).alloc (Obj.cells #[.int .i64 t, .int .i64 n, .int .i64 k] 62)) (w.heap.size + 1) [.int .i64 t, .int .i64 n, .int .i64 k] := Bx.gr (Bx.at_ (Bx.new ((w).alloc (Obj.cells #[.int .i64 o, .int .i64 d] 23)) [.int .i64 t, .int .i64 n, .int .i64 k] 62) (by simp)) (Gr.refl _)
  generalize ((w).alloc (Obj.cells #[.int .i64 o, .int .i64 d] 23)).alloc (Obj.cells #[.int .i64 t, .int .i64 n, .int .i64 k] 62) = W at g0 ba bv ⊢
  have S0 := Lib.hid g0
  have Ka0 := Lib.hid ba
  have Kv0 := Lib.hid bv
  clear g0 ba bv
  refine (awake09 _).mono ?_
  rintro e w1 ⟨rfl, hg⟩
  have S1 := Lib.hid (S0.out.trans hg)
  have Ka1 := Lib.hid (Ka0.out.gr hg)
  have Kv1 := Lib.hid (Kv0.out.gr hg)
  clear hg
  have ca0 := Ka1.out.c 0 _ rfl
  have ca1 := Ka1.out.c 1 _ rfl
  have la := Ka1.out.lt
  have cv0 := Kv1.out.c 0 _ rfl
  have cv1 := Kv1.out.c 1 _ rfl
  have cv2 := Kv1.out.c 2 _ rfl
  have lv := Kv1.out.lt
  go_wp2_with fail
  all_goals (try clear ca0 ca1 la cv0 cv1 cv2 lv)
  have ca0 := Ka1.out.c 0 _ rfl
  have ca1 := Ka1.out.c 1 _ rfl
  have la := Ka1.out.lt
  have cv0 := Kv1.out.c 0 _ rfl
  have cv1 := Kv1.out.c 1 _ rfl
  have cv2 := Kv1.out.c 2 _ rfl
  have lv := Kv1.out.lt
  go_quiet (fail)
  all_goals (try clear ca0 ca1 la cv0 cv1 cv2 lv)
  have g0 : Gr w1 (w1.drewN nq) := (Gr.refl _).drewN nq
  generalize w1.drewN nq = w2 at g0 ⊢
  have S2 := Lib.hid (S1.out.trans g0)
  have Ka2 := Lib.hid (Ka1.out.gr g0)
  have Kv2 := Lib.hid (Kv1.out.gr g0)
  clear g0
  have ca0 := Ka2.out.c 0 _ rfl
  have ca1 := Ka2.out.c 1 _ rfl
  have la := Ka2.out.lt
  have cv0 := Kv2.out.c 0 _ rfl
  have cv1 := Kv2.out.c 1 _ rfl
  have cv2 := Kv2.out.c 2 _ rfl
  have lv := Kv2.out.lt
  go_wp2_with fail
  all_goals (try clear ca0 ca1 la cv0 cv1 cv2 lv)
  refine (Length_ok n k _ n0 n1 k0 k1).mono ?_
  rintro e w3 ⟨rfl, hg⟩
  have S3 := Lib.hid (S2.out.trans hg)
  have Ka3 := Lib.hid (Ka2.out.gr hg)
  have Kv3 := Lib.hid (Kv2.out.gr hg)
  clear hg
  have ca0 := Ka3.out.c 0 _ rfl
  have ca1 := Ka3.out.c 1 _ rfl
  have la := Ka3.out.lt
  have cv0 := Kv3.out.c 0 _ rfl
  have cv1 := Kv3.out.c 1 _ rfl
  have cv2 := Kv3.out.c 2 _ rfl
  have lv := Kv3.out.lt
  go_wp2_with fail
  all_goals (try clear ca0 ca1 la cv0 cv1 cv2 lv)
  all_goals go_ret
  all_goals exact ⟨rfl, S3.out⟩


set_option maxHeartbeats 800000 in
theorem GuardLasts_t1 (o d t n k : Int) (w : World) (k0 : 0 ≤ k) (k1 : k ≤ 100000) (n0 : 0 ≤ n) (n1 : n ≤ 4096) (t0 : 0 ≤ t) (h : 1099511627776 - len n k < t) :
    Calls Try.prog 18 #[.agg #[.int .i64 o, .int .i64 d], .agg #[.int .i64 t, .int .i64 n, .int .i64 k]] w fun e w' => e = .returned (.bool true) ∧ Gr w w' := by
  have l0 := len_lo n0 k1
  have l1 := len_hi n0 (by omega) k0 k1
  go_enter Try.func18, Try.ntmps18
  go_wp2_with fail
  have g0 : Gr w (((w).alloc (Obj.cells #[.int .i64 o, .int .i64 d] 23)).alloc (Obj.cells #[.int .i64 t, .int .i64 n, .int .i64 k] 62)) := Gr.alloc (Gr.alloc (Gr.refl w) _) _
  have ba : Bx (((w).alloc (Obj.cells #[.int .i64 o, .int .i64 d] 23)).alloc (Obj.cells #[.int .i64 t, .int .i64 n, .int .i64 k] 62)) (w.heap.size) [.int .i64 o, .int .i64 d] := Bx.gr (Bx.at_ (Bx.new (w) [.int .i64 o, .int .i64 d] 23) (by simp)) (Gr.alloc (Gr.refl _) _)
  have bv : Bx (((w).alloc (Obj.cells #[.int .i64 o, .int .i64 d] 23)).alloc (Obj.cells #[.int .i64 t, .int .i64 n, .int .i64 k] 62)) (w.heap.size + 1) [.int .i64 t, .int .i64 n, .int .i64 k] := Bx.gr (Bx.at_ (Bx.new ((w).alloc (Obj.cells #[.int .i64 o, .int .i64 d] 23)) [.int .i64 t, .int .i64 n, .int .i64 k] 62) (by simp)) (Gr.refl _)
  generalize ((w).alloc (Obj.cells #[.int .i64 o, .int .i64 d] 23)).alloc (Obj.cells #[.int .i64 t, .int .i64 n, .int .i64 k] 62) = W at g0 ba bv ⊢
  have S0 := Lib.hid g0
  have Ka0 := Lib.hid ba
  have Kv0 := Lib.hid bv
  clear g0 ba bv
  refine (awake09 _).mono ?_
  rintro e w1 ⟨rfl, hg⟩
  have S1 := Lib.hid (S0.out.trans hg)
  have Ka1 := Lib.hid (Ka0.out.gr hg)
  have Kv1 := Lib.hid (Kv0.out.gr hg)
  clear hg
  have ca0 := Ka1.out.c 0 _ rfl
  have ca1 := Ka1.out.c 1 _ rfl
  have la := Ka1.out.lt
  have cv0 := Kv1.out.c 0 _ rfl
  have cv1 := Kv1.out.c 1 _ rfl
  have cv2 := Kv1.out.c 2 _ rfl
  have lv := Kv1.out.lt
  go_wp2_with fail
  all_goals (try clear ca0 ca1 la cv0 cv1 cv2 lv)
  have ca0 := Ka1.out.c 0 _ rfl
  have ca1 := Ka1.out.c 1 _ rfl
  have la := Ka1.out.lt
  have cv0 := Kv1.out.c 0 _ rfl
  have cv1 := Kv1.out.c 1 _ rfl
  have cv2 := Kv1.out.c 2 _ rfl
  have lv := Kv1.out.lt
  go_quiet (fail)
  all_goals (try clear ca0 ca1 la cv0 cv1 cv2 lv)
  have g0 : Gr w1 (w1.drewN nq) := (Gr.refl _).drewN nq
  generalize w1.drewN nq = w2 at g0 ⊢
  have S2 := Lib.hid (S1.out.trans g0)
  have Ka2 := Lib.hid (Ka1.out.gr g0)
  have Kv2 := Lib.hid (Kv1.out.gr g0)
  clear g0
  have ca0 := Ka2.out.c 0 _ rfl
  have ca1 := Ka2.out.c 1 _ rfl
  have la := Ka2.out.lt
  have cv0 := Kv2.out.c 0 _ rfl
  have cv1 := Kv2.out.c 1 _ rfl
  have cv2 := Kv2.out.c 2 _ rfl
  have lv := Kv2.out.lt
  go_wp2_with fail
  all_goals (try clear ca0 ca1 la cv0 cv1 cv2 lv)
  refine (Length_ok n k _ n0 n1 k0 k1).mono ?_
  rintro e w3 ⟨rfl, hg⟩
  have S3 := Lib.hid (S2.out.trans hg)
  have Ka3 := Lib.hid (Ka2.out.gr hg)
  have Kv3 := Lib.hid (Kv2.out.gr hg)
  clear hg
  have ca0 := Ka3.out.c 0 _ rfl
  have ca1 := Ka3.out.c 1 _ rfl
  have la := Ka3.out.lt
  have cv0 := Kv3.out.c 0 _ rfl
  have cv1 := Kv3.out.c 1 _ rfl
  have cv2 := Kv3.out.c 2 _ rfl
  have lv := Kv3.out.lt
  go_wp2_with fail
  all_goals (try clear ca0 ca1 la cv0 cv1 cv2 lv)
  all_goals go_ret
  all_goals exact ⟨rfl, S3.out⟩


set_option maxHeartbeats 800000 in
theorem GuardLasts_w (o d t n k : Int) (w : World) (k0 : 0 ≤ k) (k1 : k ≤ 100000) (n0 : 0 ≤ n) (n1 : n ≤ 4096) (t0 : 0 ≤ t) (t1 : t ≤ 1099511627776 - len n k) (h : d < -k ∨ (-k ≤ d ∧ k < d)) :
    Calls Try.prog 18 #[.agg #[.int .i64 o, .int .i64 d], .agg #[.int .i64 t, .int .i64 n, .int .i64 k]] w fun e w' => e = .returned (.bool true) ∧ Gr w w' := by
  have l0 := len_lo n0 k1
  have l1 := len_hi n0 (by omega) k0 k1
  have H := Lib.hid h
  clear h
  go_enter Try.func18, Try.ntmps18
  go_wp2_with fail
  have g0 : Gr w (((w).alloc (Obj.cells #[.int .i64 o, .int .i64 d] 23)).alloc (Obj.cells #[.int .i64 t, .int .i64 n, .int .i64 k] 62)) := Gr.alloc (Gr.alloc (Gr.refl w) _) _
  have ba : Bx (((w).alloc (Obj.cells #[.int .i64 o, .int .i64 d] 23)).alloc (Obj.cells #[.int .i64 t, .int .i64 n, .int .i64 k] 62)) (w.heap.size) [.int .i64 o, .int .i64 d] := Bx.gr (Bx.at_ (Bx.new (w) [.int .i64 o, .int .i64 d] 23) (by simp)) (Gr.alloc (Gr.refl _) _)
  have bv : Bx (((w).alloc (Obj.cells #[.int .i64 o, .int .i64 d] 23)).alloc (Obj.cells #[.int .i64 t, .int .i64 n, .int .i64 k] 62)) (w.heap.size + 1) [.int .i64 t, .int .i64 n, .int .i64 k] := Bx.gr (Bx.at_ (Bx.new ((w).alloc (Obj.cells #[.int .i64 o, .int .i64 d] 23)) [.int .i64 t, .int .i64 n, .int .i64 k] 62) (by simp)) (Gr.refl _)
  generalize ((w).alloc (Obj.cells #[.int .i64 o, .int .i64 d] 23)).alloc (Obj.cells #[.int .i64 t, .int .i64 n, .int .i64 k] 62) = W at g0 ba bv ⊢
  have S0 := Lib.hid g0
  have Ka0 := Lib.hid ba
  have Kv0 := Lib.hid bv
  clear g0 ba bv
  refine (awake09 _).mono ?_
  rintro e w1 ⟨rfl, hg⟩
  have S1 := Lib.hid (S0.out.trans hg)
  have Ka1 := Lib.hid (Ka0.out.gr hg)
  have Kv1 := Lib.hid (Kv0.out.gr hg)
  clear hg
  have ca0 := Ka1.out.c 0 _ rfl
  have ca1 := Ka1.out.c 1 _ rfl
  have la := Ka1.out.lt
  have cv0 := Kv1.out.c 0 _ rfl
  have cv1 := Kv1.out.c 1 _ rfl
  have cv2 := Kv1.out.c 2 _ rfl
  have lv := Kv1.out.lt
  go_wp2_with fail
  all_goals (try clear ca0 ca1 la cv0 cv1 cv2 lv)
  have ca0 := Ka1.out.c 0 _ rfl
  have ca1 := Ka1.out.c 1 _ rfl
  have la := Ka1.out.lt
  have cv0 := Kv1.out.c 0 _ rfl
  have cv1 := Kv1.out.c 1 _ rfl
  have cv2 := Kv1.out.c 2 _ rfl
  have lv := Kv1.out.lt
  go_quiet (fail)
  all_goals (try clear ca0 ca1 la cv0 cv1 cv2 lv)
  have g0 : Gr w1 (w1.drewN nq) := (Gr.refl _).drewN nq
  generalize w1.drewN nq = w2 at g0 ⊢
  have S2 := Lib.hid (S1.out.trans g0)
  have Ka2 := Lib.hid (Ka1.out.gr g0)
  have Kv2 := Lib.hid (Kv1.out.gr g0)
  clear g0
  have ca0 := Ka2.out.c 0 _ rfl
  have ca1 := Ka2.out.c 1 _ rfl
  have la := Ka2.out.lt
  have cv0 := Kv2.out.c 0 _ rfl
  have cv1 := Kv2.out.c 1 _ rfl
  have cv2 := Kv2.out.c 2 _ rfl
  have lv := Kv2.out.lt
  go_wp2_with fail
  all_goals (try clear ca0 ca1 la cv0 cv1 cv2 lv)
  refine (Length_ok n k _ n0 n1 k0 k1).mono ?_
  rintro e w3 ⟨rfl, hg⟩
  have S3 := Lib.hid (S2.out.trans hg)
  have Ka3 := Lib.hid (Ka2.out.gr hg)
  have Kv3 := Lib.hid (Kv2.out.gr hg)
  clear hg
  have ca0 := Ka3.out.c 0 _ rfl
  have ca1 := Ka3.out.c 1 _ rfl
  have la := Ka3.out.lt
  have cv0 := Kv3.out.c 0 _ rfl
  have cv1 := Kv3.out.c 1 _ rfl
  have cv2 := Kv3.out.c 2 _ rfl
  have lv := Kv3.out.lt
  go_wp2_with fail
  all_goals (try clear ca0 ca1 la cv0 cv1 cv2 lv)
  refine (within_f o d k _ k0 k1 H.out).mono ?_
  rintro e w4 ⟨rfl, hg⟩
  have S4 := Lib.hid (S3.out.trans hg)
  have Ka4 := Lib.hid (Ka3.out.gr hg)
  have Kv4 := Lib.hid (Kv3.out.gr hg)
  clear hg
  have ca0 := Ka4.out.c 0 _ rfl
  have ca1 := Ka4.out.c 1 _ rfl
  have la := Ka4.out.lt
  have cv0 := Kv4.out.c 0 _ rfl
  have cv1 := Kv4.out.c 1 _ rfl
  have cv2 := Kv4.out.c 2 _ rfl
  have lv := Kv4.out.lt
  go_wp2_with fail
  all_goals (try clear ca0 ca1 la cv0 cv1 cv2 lv)
  all_goals go_ret
  all_goals exact ⟨rfl, S4.out⟩


set_option maxHeartbeats 800000 in
theorem GuardLasts_arg (o d t n k : Int) (w : World) (k0 : 0 ≤ k) (k1 : k ≤ 100000) (n0 : 0 ≤ n) (n1 : n ≤ 4096) (t0 : 0 ≤ t) (t1 : t ≤ 1099511627776 - len n k) (d0 : -k ≤ d) (d1 : d ≤ k) (hv : ¬ Vc o d) :
    Calls Try.prog 18 #[.agg #[.int .i64 o, .int .i64 d], .agg #[.int .i64 t, .int .i64 n, .int .i64 k]] w fun e w' => e = .returned (.bool true) ∧ Gr w w' := by
  have l0 := len_lo n0 k1
  have l1 := len_hi n0 (by omega) k0 k1
  have HV := Lib.hid hv
  clear hv
  go_enter Try.func18, Try.ntmps18
  go_wp2_with fail
  have g0 : Gr w (((w).alloc (Obj.cells #[.int .i64 o, .int .i64 d] 23)).alloc (Obj.cells #[.int .i64 t, .int .i64 n, .int .i64 k] 62)) := Gr.alloc (Gr.alloc (Gr.refl w) _) _
  have ba : Bx (((w).alloc (Obj.cells #[.int .i64 o, .int .i64 d] 23)).alloc (Obj.cells #[.int .i64 t, .int .i64 n, .int .i64 k] 62)) (w.heap.size) [.int .i64 o, .int .i64 d] := Bx.gr (Bx.at_ (Bx.new (w) [.int .i64 o, .int .i64 d] 23) (by simp)) (Gr.alloc (Gr.refl _) _)
  have bv : Bx (((w).alloc (Obj.cells #[.int .i64 o, .int .i64 d] 23)).alloc (Obj.cells #[.int .i64 t, .int .i64 n, .int .i64 k] 62)) (w.heap.size + 1) [.int .i64 t, .int .i64 n, .int .i64 k] := Bx.gr (Bx.at_ (Bx.new ((w).alloc (Obj.cells #[.int .i64 o, .int .i64 d] 23)) [.int .i64 t, .int .i64 n, .int .i64 k] 62) (by simp)) (Gr.refl _)
  generalize ((w).alloc (Obj.cells #[.int .i64 o, .int .i64 d] 23)).alloc (Obj.cells #[.int .i64 t, .int .i64 n, .int .i64 k] 62) = W at g0 ba bv ⊢
  have S0 := Lib.hid g0
  have Ka0 := Lib.hid ba
  have Kv0 := Lib.hid bv
  clear g0 ba bv
  refine (awake09 _).mono ?_
  rintro e w1 ⟨rfl, hg⟩
  have S1 := Lib.hid (S0.out.trans hg)
  have Ka1 := Lib.hid (Ka0.out.gr hg)
  have Kv1 := Lib.hid (Kv0.out.gr hg)
  clear hg
  have ca0 := Ka1.out.c 0 _ rfl
  have ca1 := Ka1.out.c 1 _ rfl
  have la := Ka1.out.lt
  have cv0 := Kv1.out.c 0 _ rfl
  have cv1 := Kv1.out.c 1 _ rfl
  have cv2 := Kv1.out.c 2 _ rfl
  have lv := Kv1.out.lt
  go_wp2_with fail
  all_goals (try clear ca0 ca1 la cv0 cv1 cv2 lv)
  have ca0 := Ka1.out.c 0 _ rfl
  have ca1 := Ka1.out.c 1 _ rfl
  have la := Ka1.out.lt
  have cv0 := Kv1.out.c 0 _ rfl
  have cv1 := Kv1.out.c 1 _ rfl
  have cv2 := Kv1.out.c 2 _ rfl
  have lv := Kv1.out.lt
  go_quiet (fail)
  all_goals (try clear ca0 ca1 la cv0 cv1 cv2 lv)
  have g0 : Gr w1 (w1.drewN nq) := (Gr.refl _).drewN nq
  generalize w1.drewN nq = w2 at g0 ⊢
  have S2 := Lib.hid (S1.out.trans g0)
  have Ka2 := Lib.hid (Ka1.out.gr g0)
  have Kv2 := Lib.hid (Kv1.out.gr g0)
  clear g0
  have ca0 := Ka2.out.c 0 _ rfl
  have ca1 := Ka2.out.c 1 _ rfl
  have la := Ka2.out.lt
  have cv0 := Kv2.out.c 0 _ rfl
  have cv1 := Kv2.out.c 1 _ rfl
  have cv2 := Kv2.out.c 2 _ rfl
  have lv := Kv2.out.lt
  go_wp2_with fail
  all_goals (try clear ca0 ca1 la cv0 cv1 cv2 lv)
  refine (Length_ok n k _ n0 n1 k0 k1).mono ?_
  rintro e w3 ⟨rfl, hg⟩
  have S3 := Lib.hid (S2.out.trans hg)
  have Ka3 := Lib.hid (Ka2.out.gr hg)
  have Kv3 := Lib.hid (Kv2.out.gr hg)
  clear hg
  have ca0 := Ka3.out.c 0 _ rfl
  have ca1 := Ka3.out.c 1 _ rfl
  have la := Ka3.out.lt
  have cv0 := Kv3.out.c 0 _ rfl
  have cv1 := Kv3.out.c 1 _ rfl
  have cv2 := Kv3.out.c 2 _ rfl
  have lv := Kv3.out.lt
  go_wp2_with fail
  all_goals (try clear ca0 ca1 la cv0 cv1 cv2 lv)
  refine (within_t o d k _ k0 k1 d0 d1).mono ?_
  rintro e w4 ⟨rfl, hg⟩
  have S4 := Lib.hid (S3.out.trans hg)
  have Ka4 := Lib.hid (Ka3.out.gr hg)
  have Kv4 := Lib.hid (Kv3.out.gr hg)
  clear hg
  have ca0 := Ka4.out.c 0 _ rfl
  have ca1 := Ka4.out.c 1 _ rfl
  have la := Ka4.out.lt
  have cv0 := Kv4.out.c 0 _ rfl
  have cv1 := Kv4.out.c 1 _ rfl
  have cv2 := Kv4.out.c 2 _ rfl
  have lv := Kv4.out.lt
  go_wp2_with fail
  all_goals (try clear ca0 ca1 la cv0 cv1 cv2 lv)
  refine (show_arg o d t _ HV.out).mono ?_
  rintro e w5 ⟨rfl, hg⟩
  have S5 := Lib.hid (S4.out.trans hg)
  have Ka5 := Lib.hid (Ka4.out.gr hg)
  have Kv5 := Lib.hid (Kv4.out.gr hg)
  clear hg
  have ca0 := Ka5.out.c 0 _ rfl
  have ca1 := Ka5.out.c 1 _ rfl
  have la := Ka5.out.lt
  have cv0 := Kv5.out.c 0 _ rfl
  have cv1 := Kv5.out.c 1 _ rfl
  have cv2 := Kv5.out.c 2 _ rfl
  have lv := Kv5.out.lt
  go_wp2_with fail
  all_goals (try clear ca0 ca1 la cv0 cv1 cv2 lv)
  all_goals go_ret
  all_goals exact ⟨rfl, S5.out⟩


set_option maxHeartbeats 800000 in
theorem GuardLasts_ok (o d t n k : Int) (w : World) (k0 : 0 ≤ k) (k1 : k ≤ 100000) (n0 : 0 ≤ n) (n1 : n ≤ 4096) (t0 : 0 ≤ t) (t1 : t ≤ 1099511627776 - len n k) (d0 : -k ≤ d) (d1 : d ≤ k) (hv : Vc o d) :
    Calls Try.prog 18 #[.agg #[.int .i64 o, .int .i64 d], .agg #[.int .i64 t, .int .i64 n, .int .i64 k]] w fun e w' => e = .returned (.bool true) ∧ Gr w w' := by
  have l0 := len_lo n0 k1
  have l1 := len_hi n0 (by omega) k0 k1
  have b0 := rd_bd hv t0 (by omega)
  have b1 := rd_bd hv (show 0 ≤ t + len n k by omega) (by omega)
  have hl := lasts (o := o) (t := t) n0 k0 d0 k1
  have HV := Lib.hid hv
  clear hv
  go_enter Try.func18, Try.ntmps18
  go_wp2_with fail
  have g0 : Gr w (((w).alloc (Obj.cells #[.int .i64 o, .int .i64 d] 23)).alloc (Obj.cells #[.int .i64 t, .int .i64 n, .int .i64 k] 62)) := Gr.alloc (Gr.alloc (Gr.refl w) _) _
  have ba : Bx (((w).alloc (Obj.cells #[.int .i64 o, .int .i64 d] 23)).alloc (Obj.cells #[.int .i64 t, .int .i64 n, .int .i64 k] 62)) (w.heap.size) [.int .i64 o, .int .i64 d] := Bx.gr (Bx.at_ (Bx.new (w) [.int .i64 o, .int .i64 d] 23) (by simp)) (Gr.alloc (Gr.refl _) _)
  have bv : Bx (((w).alloc (Obj.cells #[.int .i64 o, .int .i64 d] 23)).alloc (Obj.cells #[.int .i64 t, .int .i64 n, .int .i64 k] 62)) (w.heap.size + 1) [.int .i64 t, .int .i64 n, .int .i64 k] := Bx.gr (Bx.at_ (Bx.new ((w).alloc (Obj.cells #[.int .i64 o, .int .i64 d] 23)) [.int .i64 t, .int .i64 n, .int .i64 k] 62) (by simp)) (Gr.refl _)
  generalize ((w).alloc (Obj.cells #[.int .i64 o, .int .i64 d] 23)).alloc (Obj.cells #[.int .i64 t, .int .i64 n, .int .i64 k] 62) = W at g0 ba bv ⊢
  have S0 := Lib.hid g0
  have Ka0 := Lib.hid ba
  have Kv0 := Lib.hid bv
  clear g0 ba bv
  refine (awake09 _).mono ?_
  rintro e w1 ⟨rfl, hg⟩
  have S1 := Lib.hid (S0.out.trans hg)
  have Ka1 := Lib.hid (Ka0.out.gr hg)
  have Kv1 := Lib.hid (Kv0.out.gr hg)
  clear hg
  have ca0 := Ka1.out.c 0 _ rfl
  have ca1 := Ka1.out.c 1 _ rfl
  have la := Ka1.out.lt
  have cv0 := Kv1.out.c 0 _ rfl
  have cv1 := Kv1.out.c 1 _ rfl
  have cv2 := Kv1.out.c 2 _ rfl
  have lv := Kv1.out.lt
  go_wp2_with fail
  all_goals (try clear ca0 ca1 la cv0 cv1 cv2 lv)
  have ca0 := Ka1.out.c 0 _ rfl
  have ca1 := Ka1.out.c 1 _ rfl
  have la := Ka1.out.lt
  have cv0 := Kv1.out.c 0 _ rfl
  have cv1 := Kv1.out.c 1 _ rfl
  have cv2 := Kv1.out.c 2 _ rfl
  have lv := Kv1.out.lt
  go_quiet (fail)
  all_goals (try clear ca0 ca1 la cv0 cv1 cv2 lv)
  have g0 : Gr w1 (w1.drewN nq) := (Gr.refl _).drewN nq
  generalize w1.drewN nq = w2 at g0 ⊢
  have S2 := Lib.hid (S1.out.trans g0)
  have Ka2 := Lib.hid (Ka1.out.gr g0)
  have Kv2 := Lib.hid (Kv1.out.gr g0)
  clear g0
  have ca0 := Ka2.out.c 0 _ rfl
  have ca1 := Ka2.out.c 1 _ rfl
  have la := Ka2.out.lt
  have cv0 := Kv2.out.c 0 _ rfl
  have cv1 := Kv2.out.c 1 _ rfl
  have cv2 := Kv2.out.c 2 _ rfl
  have lv := Kv2.out.lt
  go_wp2_with fail
  all_goals (try clear ca0 ca1 la cv0 cv1 cv2 lv)
  refine (Length_ok n k _ n0 n1 k0 k1).mono ?_
  rintro e w3 ⟨rfl, hg⟩
  have S3 := Lib.hid (S2.out.trans hg)
  have Ka3 := Lib.hid (Ka2.out.gr hg)
  have Kv3 := Lib.hid (Kv2.out.gr hg)
  clear hg
  have ca0 := Ka3.out.c 0 _ rfl
  have ca1 := Ka3.out.c 1 _ rfl
  have la := Ka3.out.lt
  have cv0 := Kv3.out.c 0 _ rfl
  have cv1 := Kv3.out.c 1 _ rfl
  have cv2 := Kv3.out.c 2 _ rfl
  have lv := Kv3.out.lt
  go_wp2_with fail
  all_goals (try clear ca0 ca1 la cv0 cv1 cv2 lv)
  refine (within_t o d k _ k0 k1 d0 d1).mono ?_
  rintro e w4 ⟨rfl, hg⟩
  have S4 := Lib.hid (S3.out.trans hg)
  have Ka4 := Lib.hid (Ka3.out.gr hg)
  have Kv4 := Lib.hid (Kv3.out.gr hg)
  clear hg
  have ca0 := Ka4.out.c 0 _ rfl
  have ca1 := Ka4.out.c 1 _ rfl
  have la := Ka4.out.lt
  have cv0 := Kv4.out.c 0 _ rfl
  have cv1 := Kv4.out.c 1 _ rfl
  have cv2 := Kv4.out.c 2 _ rfl
  have lv := Kv4.out.lt
  go_wp2_with fail
  all_goals (try clear ca0 ca1 la cv0 cv1 cv2 lv)
  refine (show_ok o d t _ HV.out t0 (by omega)).mono ?_
  rintro e w5 ⟨rfl, hg⟩
  have S5 := Lib.hid (S4.out.trans hg)
  have Ka5 := Lib.hid (Ka4.out.gr hg)
  have Kv5 := Lib.hid (Kv4.out.gr hg)
  clear hg
  have ca0 := Ka5.out.c 0 _ rfl
  have ca1 := Ka5.out.c 1 _ rfl
  have la := Ka5.out.lt
  have cv0 := Kv5.out.c 0 _ rfl
  have cv1 := Kv5.out.c 1 _ rfl
  have cv2 := Kv5.out.c 2 _ rfl
  have lv := Kv5.out.lt
  go_wp2_with fail
  all_goals (try clear ca0 ca1 la cv0 cv1 cv2 lv)
  refine (show_ok o d (t + len n k) _ HV.out (by omega) (by omega)).mono ?_
  rintro e w6 ⟨rfl, hg⟩
  have S6 := Lib.hid (S5.out.trans hg)
  have Ka6 := Lib.hid (Ka5.out.gr hg)
  have Kv6 := Lib.hid (Kv5.out.gr hg)
  clear hg
  have ca0 := Ka6.out.c 0 _ rfl
  have ca1 := Ka6.out.c 1 _ rfl
  have la := Ka6.out.lt
  have cv0 := Kv6.out.c 0 _ rfl
  have cv1 := Kv6.out.c 1 _ rfl
  have cv2 := Kv6.out.c 2 _ rfl
  have lv := Kv6.out.lt
  go_wp2_with fail
  all_goals (try clear ca0 ca1 la cv0 cv1 cv2 lv)
  all_goals go_ret
  all_goals exact ⟨rfl, S6.out⟩


theorem GuardLasts_walk (o d t n k : Int) (w : World) :
    Calls Try.prog 18 #[.agg #[.int .i64 o, .int .i64 d], .agg #[.int .i64 t, .int .i64 n, .int .i64 k]] w fun e w' => e = .returned (.bool true) ∧ Gr w w' := by
  by_cases h : inDrift k ∧ inRun n
  · obtain ⟨⟨k0, k1⟩, n0, n1⟩ := h
    by_cases t0 : 0 ≤ t
    · by_cases t1 : t ≤ 1099511627776 - len n k
      · by_cases hd : -k ≤ d ∧ d ≤ k
        · by_cases hv : Vc o d
          · exact GuardLasts_ok o d t n k w k0 k1 n0 n1 t0 t1 hd.1 hd.2 hv
          · exact GuardLasts_arg o d t n k w k0 k1 n0 n1 t0 t1 hd.1 hd.2 hv
        · exact GuardLasts_w o d t n k w k0 k1 n0 n1 t0 t1 (by omega)
      · exact GuardLasts_t1 o d t n k w k0 k1 n0 n1 t0 (by omega)
    · exact GuardLasts_t0 o d t n k w k0 k1 n0 n1 (by omega)
  · exact GuardLasts_no o d t n k w h
set_option maxRecDepth 100000 in
set_option maxHeartbeats 1000000 in
theorem GuardLasts_lifted (os : Os) (started : os.Started) (H : Type) (enc : TypeId × Value → H) :
    ReturnsInHanded {} Try.checked os 18 .any (Rows.guardLastsSpec.pre6 enc Try.prog Try.f18 Rows.guardLastsRow.domain false) (Rows.guardLastsSpec.post enc Try.prog Try.f18 false true false false) := by
  refine returnsInHanded_of_change (C := Try.checked) Try.own started (by kernel_rfl) Try.func18
    (ChangeSpec.witness6 (enc := enc) (C := Try.checked) false ⟨#[], #[.agg #[.int .i64 0, .int .i64 0], .agg #[.int .i64 0, .int .i64 0, .int .i64 0]], []⟩ 8 (by kernel_rfl) (by kernel_rfl) (by kernel_rfl) (by kernel_rfl)) ?_
  intro W base args ds gs before hval0 hW hcnd _
  have hval : ∀ (j : Nat) t v, Try.f18.params[j]? = some t → args[j]? = some v → Value.okWide Try.prog W .any base t v := hval0
  have hW' := hW
  obtain ⟨p, q, hA0, hV, rfl, hfz, hnd⟩ := hW
  have hA : DataW.TrodAll enc Try.prog W 0 (fun _ => true) true Try.f18.params.toList args.toList ds p := hA0
  rw [Try.params18] at hA hval
  have hAk := hA
  obtain ⟨v0, vs0, d0, ds0, p0, q0, hargs, rfl, rfl, h0, r0⟩ := trodAll_cons hA
  obtain ⟨v1, vs1, d1, ds1, p1, q1, rfl, rfl, rfl, h1, r1⟩ := trodAll_cons r0
  obtain ⟨rfl, rfl, rfl⟩ := trodAll_nil r1
  obtain rfl : args = #[v0, v1] := by cases args; simp_all
  obtain ⟨rfl, rfl⟩ := trodVars_none hV
  obtain ⟨c00, c01, y00, y01, m0, rfl, rfl, rfl, hy00, hy01⟩ := open_agg2 Try.underlying23 (by kernel_rfl) Try.cells23 (hval 0 23 v0 rfl rfl) h0
  obtain ⟨o, e00, rfl, wfo⟩ := DataW.trod_int Try.underlying3 hy00
  obtain ⟨d, e01, rfl, wfd⟩ := DataW.trod_int Try.underlying3 hy01
  simp at e00 e01
  subst e00 e01
  obtain ⟨t, n, k, rfl, wft, wfn, wfk⟩ := open_a3 Try.underlying62 Try.underlying3 (by kernel_rfl) (by kernel_rfl) (hval 1 62 v1 rfl rfl) h1
  clear hA0 hval0
  simp only [List.append_nil] at hW'
  refine (GuardLasts_walk o d t n k W).mono fun e W' ⟨he, hg⟩ => ?_
  subst he
  have hb : Below W.heap.size W W' := hg
  exact ⟨_, rfl, _, _, _, [], _, [], hW', trodAll_mk1 (shut_bool Try.underlying4 _), trodAll_stays Try.laidOut hb _ _ _ _ (by intro t ht; simp at ht; rcases ht with rfl | rfl <;> exact ⟨by kernel_rfl, of_decide_eq_true (by kernel_rfl)⟩) hAk (fun x hx => by simpa using hW'.lt x (by simpa using hx)), rfl, hb.frame _, fun h => by cases h⟩

theorem GuardLasts_closed : joinedFacts Try.pinned.checked.prog 18 Try.f18 Rows.guardLastsSpec Rows.guardLastsRow = true := by
  unfold joinedFacts
  exact (and_tt (and_tt (and_tt (and_tt (and_tt (and_tt (and_tt (and_tt (and_tt (and_tt (and_tt (and_tt (and_tt (and_tt (and_tt (and_tt (and_tt (and_tt (and_tt (and_tt (and_tt (and_tt (and_tt (and_tt (and_tt (and_tt (and_tt (and_tt (and_tt (and_tt (and_tt (by as_aux_lemma => kernel_rfl) (J_laid)) (J_maps)) (by as_aux_lemma => kernel_rfl)) (by as_aux_lemma => kernel_rfl)) (by as_aux_lemma => kernel_rfl)) (J_stops)) (by as_aux_lemma => kernel_rfl)) (J_knobs)) (by as_aux_lemma => kernel_rfl)) (by as_aux_lemma => kernel_rfl)) (by as_aux_lemma => kernel_rfl)) (by as_aux_lemma => kernel_rfl)) (by as_aux_lemma => kernel_rfl)) (by as_aux_lemma => kernel_rfl)) (by as_aux_lemma => kernel_rfl)) (by as_aux_lemma => kernel_rfl)) (by as_aux_lemma => kernel_rfl)) (by as_aux_lemma => kernel_rfl)) (by as_aux_lemma => kernel_rfl)) (by as_aux_lemma => kernel_rfl)) (by as_aux_lemma => kernel_rfl)) (J_keys)) (by as_aux_lemma => kernel_rfl)) (J_heard)) (J_enter)) (J_lifts)) (J_make)) (by as_aux_lemma => kernel_rfl)) (by as_aux_lemma => kernel_rfl)) (by as_aux_lemma => kernel_rfl)) (by as_aux_lemma => kernel_rfl))

/-- THE STATEMENT GuardLasts. -/
theorem GuardLasts_holds : Rows.GuardLastsSaid :=
  OpenClaim.holds_of_wide 18 Try.f18 rfl rfl rfl rfl rfl rfl rfl ⟨rfl, rfl, rfl, rfl, rfl⟩ rfl rfl rfl rfl rfl (by kernel_rfl) Try.func18 GuardLasts_closed
    (of_decide_eq_true (by kernel_rfl)) (by unfold Func.isWrapper; rw [if_neg (of_decide_eq_false (by kernel_rfl))]; exact ⟨rfl, rfl⟩)
    (fun os started H enc _ => GuardLasts_lifted os started H enc)
#print axioms GuardLasts_holds
end Go.Proofs.Ytpnigndobhbfnaa
