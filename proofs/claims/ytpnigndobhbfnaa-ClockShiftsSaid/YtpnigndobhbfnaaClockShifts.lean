/- ClockShifts: a clock that is adjusted shows that much more at all times, and being adjusted back it is the same one; differences of clocks are those of what they show. For every input the call returns true and each argument reads afterwards as it read before (no condition). -/
import Derived.Test.YtpnigndobhbfnaaAwake8
import Derived.Test.YtpnigndobhbfnaaBox
import Derived.Test.YtpnigndobhbfnaaFrame
set_option linter.unnecessarySimpa false
namespace Go.Proofs.Ytpnigndobhbfnaa
open Go.ChangeShapes Go.WideShapes Go.ChangeAt Go.RowKit Go.Joins
theorem Adjust_bad (o d b : Int) (w : World) (h : ¬ adOk o d b) :
    Calls Try.prog 56 #[.agg #[.int .i64 o, .int .i64 d], .int .i64 b] w fun e w' => e = .returned (.tuple #[.agg #[.int .i64 0, .int .i64 0], .int .i64 1]) ∧ Gr w w' := by
  have := Adjust_any o d b w
  unfold adO adD adE at this
  simpa only [if_neg h] using this
theorem Apart_bad (oa da ob db t : Int) (w : World) (h : ¬ (Vc oa da ∧ Vc ob db)) :
    Calls Try.prog 58 #[.agg #[.int .i64 oa, .int .i64 da], .agg #[.int .i64 ob, .int .i64 db], .int .i64 t] w fun e w' => e = .returned (.tuple #[.int .i64 0, .int .i64 1]) ∧ Gr w w' := by
  by_cases ha : Vc oa da
  · exact Apart_arg2 oa da ob db t w ha (fun hb => h ⟨ha, hb⟩)
  · exact Apart_arg1 oa da ob db t w ha
theorem rd_shift (o d k t : Int) : rd (o + d) k t = rd o k t + d := by unfold rd; omega
theorem show_shift (o d k t : Int) (w : World) (hv : Vc (o + d) k) (h0 : 0 ≤ t) (h1 : t ≤ 1099511627776) :
    Calls Try.prog 27 #[.agg #[.int .i64 (o + d), .int .i64 k], .int .i64 t] w fun e w' => e = .returned (.tuple #[.int .i64 (rd o k t + d), .int .i64 0]) ∧ Gr w w' := by
  rw [← rd_shift]; exact show_ok _ _ _ _ hv h0 h1
theorem Adjust_back (o d k : Int) (w : World) (h : adOk o k d) :
    Calls Try.prog 56 #[.agg #[.int .i64 (o + d), .int .i64 k], .int .i64 (-d)] w fun e w' => e = .returned (.tuple #[.agg #[.int .i64 o, .int .i64 k], .int .i64 0]) ∧ Gr w w' := by
  have := Adjust_ok (o + d) k (-d) w h.2.2 (by have := h.2.1; omega) (by have := h.2.1; omega) (by rw [Int.add_neg_cancel_right]; exact h.1)
  rwa [Int.add_neg_cancel_right] at this

set_option maxHeartbeats 800000 in
theorem ClockShifts_ok_in_b (oa da ob db x y : Int) (w : World) (had : adOk oa da x) (hvb : Vc ob db) (t0 : 0 ≤ y) (t1 : y ≤ 1099511627776) :
    Calls Try.prog 12 #[.agg #[.int .i64 oa, .int .i64 da], .agg #[.int .i64 ob, .int .i64 db], .agg #[.int .i64 x, .int .i64 y]] w fun e w' => e = .returned (.bool true) ∧ Gr w w' := by
  have x0 := had.2.1.1
  have x1 := had.2.1.2
  have hva := had.1
  have ba := rd_bd hva t0 t1
  have bb := rd_bd hvb t0 t1
  have e1 : (rd oa da y - rd ob db y == -(rd ob db y - rd oa da y)) = true := beq_iff_eq.2 (by omega)
  have HAD := Lib.hid had
  have HVA := Lib.hid hva
  have HVB := Lib.hid hvb
  clear had hva hvb
  go_enter Try.func12, Try.ntmps12
  go_wp2_with fail
  have g0 : Gr w ((((w).alloc (Obj.cells #[.int .i64 oa, .int .i64 da] 23)).alloc (Obj.cells #[.int .i64 ob, .int .i64 db] 23)).alloc (Obj.cells #[.int .i64 x, .int .i64 y] 57)) := Gr.alloc (Gr.alloc (Gr.alloc (Gr.refl w) _) _) _
  have ba : Bx ((((w).alloc (Obj.cells #[.int .i64 oa, .int .i64 da] 23)).alloc (Obj.cells #[.int .i64 ob, .int .i64 db] 23)).alloc (Obj.cells #[.int .i64 x, .int .i64 y] 57)) (w.heap.size) [.int .i64 oa, .int .i64 da] := Bx.gr (Bx.at_ (Bx.new (w) [.int .i64 oa, .int .i64 da] 23) (by simp)) (Gr.alloc (Gr.alloc (Gr.refl _) _) _)
  have bb : Bx ((((w).alloc (Obj.cells #[.int .i64 oa, .int .i64 da] 23)).alloc (Obj.cells #[.int .i64 ob, .int .i64 db] 23)).alloc (Obj.cells #[.int .i64 x, .int .i64 y] 57)) (w.heap.size + 1) [.int .i64 ob, .int .i64 db] := Bx.gr (Bx.at_ (Bx.new ((w).alloc (Obj.cells #[.int .i64 oa, .int .i64 da] 23)) [.int .i64 ob, .int .i64 db] 23) (by simp)) (Gr.alloc (Gr.refl _) _)
  have bv : Bx ((((w).alloc (Obj.cells #[.int .i64 oa, .int .i64 da] 23)).alloc (Obj.cells #[.int .i64 ob, .int .i64 db] 23)).alloc (Obj.cells #[.int .i64 x, .int .i64 y] 57)) (w.heap.size + 1 + 1) [.int .i64 x, .int .i64 y] := Bx.gr (Bx.at_ (Bx.new (((w).alloc (Obj.cells #[.int .i64 oa, .int .i64 da] 23)).alloc (Obj.cells #[.int .i64 ob, .int .i64 db] 23)) [.int .i64 x, .int .i64 y] 57) (by simp)) (Gr.refl _)
  generalize (((w).alloc (Obj.cells #[.int .i64 oa, .int .i64 da] 23)).alloc (Obj.cells #[.int .i64 ob, .int .i64 db] 23)).alloc (Obj.cells #[.int .i64 x, .int .i64 y] 57) = W at g0 ba bb bv ⊢
  have S0 := Lib.hid g0
  have Ka0 := Lib.hid ba
  have Kb0 := Lib.hid bb
  have Kv0 := Lib.hid bv
  clear g0 ba bb bv
  refine (awake08 _).mono ?_
  rintro e w1 ⟨rfl, hg⟩
  have S1 := Lib.hid (S0.out.trans hg)
  have Ka1 := Lib.hid (Ka0.out.gr hg)
  have Kb1 := Lib.hid (Kb0.out.gr hg)
  have Kv1 := Lib.hid (Kv0.out.gr hg)
  clear hg
  have ca0 := Ka1.out.c 0 _ rfl
  have ca1 := Ka1.out.c 1 _ rfl
  have la := Ka1.out.lt
  have cb0 := Kb1.out.c 0 _ rfl
  have cb1 := Kb1.out.c 1 _ rfl
  have lb := Kb1.out.lt
  have cv0 := Kv1.out.c 0 _ rfl
  have cv1 := Kv1.out.c 1 _ rfl
  have lv := Kv1.out.lt
  go_wp2_with fail
  all_goals (try clear ca0 ca1 la cb0 cb1 lb cv0 cv1 lv)
  have ca0 := Ka1.out.c 0 _ rfl
  have ca1 := Ka1.out.c 1 _ rfl
  have la := Ka1.out.lt
  have cb0 := Kb1.out.c 0 _ rfl
  have cb1 := Kb1.out.c 1 _ rfl
  have lb := Kb1.out.lt
  have cv0 := Kv1.out.c 0 _ rfl
  have cv1 := Kv1.out.c 1 _ rfl
  have lv := Kv1.out.lt
  go_quiet (fail)
  all_goals (try clear ca0 ca1 la cb0 cb1 lb cv0 cv1 lv)
  have g0 : Gr w1 (w1.drewN nq) := (Gr.refl _).drewN nq
  generalize w1.drewN nq = w2 at g0 ⊢
  have S2 := Lib.hid (S1.out.trans g0)
  have Ka2 := Lib.hid (Ka1.out.gr g0)
  have Kb2 := Lib.hid (Kb1.out.gr g0)
  have Kv2 := Lib.hid (Kv1.out.gr g0)
  clear g0
  have ca0 := Ka2.out.c 0 _ rfl
  have ca1 := Ka2.out.c 1 _ rfl
  have la := Ka2.out.lt
  have cb0 := Kb2.out.c 0 _ rfl
  have cb1 := Kb2.out.c 1 _ rfl
  have lb := Kb2.out.lt
  have cv0 := Kv2.out.c 0 _ rfl
  have cv1 := Kv2.out.c 1 _ rfl
  have lv := Kv2.out.lt
  go_wp2_with fail
  all_goals (try clear ca0 ca1 la cb0 cb1 lb cv0 cv1 lv)
  refine (Adjust_ok oa da x _ HVA.out x0 x1 HAD.out.2.2).mono ?_
  rintro e w3 ⟨rfl, hg⟩
  have S3 := Lib.hid (S2.out.trans hg)
  have Ka3 := Lib.hid (Ka2.out.gr hg)
  have Kb3 := Lib.hid (Kb2.out.gr hg)
  have Kv3 := Lib.hid (Kv2.out.gr hg)
  clear hg
  have ca0 := Ka3.out.c 0 _ rfl
  have ca1 := Ka3.out.c 1 _ rfl
  have la := Ka3.out.lt
  have cb0 := Kb3.out.c 0 _ rfl
  have cb1 := Kb3.out.c 1 _ rfl
  have lb := Kb3.out.lt
  have cv0 := Kv3.out.c 0 _ rfl
  have cv1 := Kv3.out.c 1 _ rfl
  have lv := Kv3.out.lt
  go_wp2_with fail
  all_goals (try clear ca0 ca1 la cb0 cb1 lb cv0 cv1 lv)
  have g0 : Gr w3 ((w3).alloc (Obj.cells #[.int .i64 (oa + x), .int .i64 da] 23)) := Gr.alloc (Gr.refl w3) _
  have bc : Bx ((w3).alloc (Obj.cells #[.int .i64 (oa + x), .int .i64 da] 23)) (w3.heap.size) [.int .i64 (oa + x), .int .i64 da] := Bx.gr (Bx.at_ (Bx.new (w3) [.int .i64 (oa + x), .int .i64 da] 23) (by simp)) (Gr.refl _)
  generalize (w3).alloc (Obj.cells #[.int .i64 (oa + x), .int .i64 da] 23) = w4 at g0 bc ⊢
  have S4 := Lib.hid (S3.out.trans g0)
  have Ka4 := Lib.hid (Ka3.out.gr g0)
  have Kb4 := Lib.hid (Kb3.out.gr g0)
  have Kv4 := Lib.hid (Kv3.out.gr g0)
  have Kc4 := Lib.hid bc
  clear g0 bc
  have ca0 := Ka4.out.c 0 _ rfl
  have ca1 := Ka4.out.c 1 _ rfl
  have la := Ka4.out.lt
  have cb0 := Kb4.out.c 0 _ rfl
  have cb1 := Kb4.out.c 1 _ rfl
  have lb := Kb4.out.lt
  have cv0 := Kv4.out.c 0 _ rfl
  have cv1 := Kv4.out.c 1 _ rfl
  have lv := Kv4.out.lt
  have cc0 := Kc4.out.c 0 _ rfl
  have cc1 := Kc4.out.c 1 _ rfl
  have lc := Kc4.out.lt
  go_wp2_with fail
  all_goals (try clear ca0 ca1 la cb0 cb1 lb cv0 cv1 lv cc0 cc1 lc)
  refine (show_ok oa da y _ HVA.out t0 t1).mono ?_
  rintro e w5 ⟨rfl, hg⟩
  have S5 := Lib.hid (S4.out.trans hg)
  have Ka5 := Lib.hid (Ka4.out.gr hg)
  have Kb5 := Lib.hid (Kb4.out.gr hg)
  have Kv5 := Lib.hid (Kv4.out.gr hg)
  have Kc5 := Lib.hid (Kc4.out.gr hg)
  clear hg
  have ca0 := Ka5.out.c 0 _ rfl
  have ca1 := Ka5.out.c 1 _ rfl
  have la := Ka5.out.lt
  have cb0 := Kb5.out.c 0 _ rfl
  have cb1 := Kb5.out.c 1 _ rfl
  have lb := Kb5.out.lt
  have cv0 := Kv5.out.c 0 _ rfl
  have cv1 := Kv5.out.c 1 _ rfl
  have lv := Kv5.out.lt
  have cc0 := Kc5.out.c 0 _ rfl
  have cc1 := Kc5.out.c 1 _ rfl
  have lc := Kc5.out.lt
  go_wp2_with fail
  all_goals (try clear ca0 ca1 la cb0 cb1 lb cv0 cv1 lv cc0 cc1 lc)
  refine (show_shift oa x da y _ HAD.out.2.2 t0 t1).mono ?_
  rintro e w6 ⟨rfl, hg⟩
  have S6 := Lib.hid (S5.out.trans hg)
  have Ka6 := Lib.hid (Ka5.out.gr hg)
  have Kb6 := Lib.hid (Kb5.out.gr hg)
  have Kv6 := Lib.hid (Kv5.out.gr hg)
  have Kc6 := Lib.hid (Kc5.out.gr hg)
  clear hg
  have ca0 := Ka6.out.c 0 _ rfl
  have ca1 := Ka6.out.c 1 _ rfl
  have la := Ka6.out.lt
  have cb0 := Kb6.out.c 0 _ rfl
  have cb1 := Kb6.out.c 1 _ rfl
  have lb := Kb6.out.lt
  have cv0 := Kv6.out.c 0 _ rfl
  have cv1 := Kv6.out.c 1 _ rfl
  have lv := Kv6.out.lt
  have cc0 := Kc6.out.c 0 _ rfl
  have cc1 := Kc6.out.c 1 _ rfl
  have lc := Kc6.out.lt
  go_wp2_with fail
  all_goals (try clear ca0 ca1 la cb0 cb1 lb cv0 cv1 lv cc0 cc1 lc)
  refine (Adjust_back oa x da _ HAD.out).mono ?_
  rintro e w7 ⟨rfl, hg⟩
  have S7 := Lib.hid (S6.out.trans hg)
  have Ka7 := Lib.hid (Ka6.out.gr hg)
  have Kb7 := Lib.hid (Kb6.out.gr hg)
  have Kv7 := Lib.hid (Kv6.out.gr hg)
  have Kc7 := Lib.hid (Kc6.out.gr hg)
  clear hg
  have ca0 := Ka7.out.c 0 _ rfl
  have ca1 := Ka7.out.c 1 _ rfl
  have la := Ka7.out.lt
  have cb0 := Kb7.out.c 0 _ rfl
  have cb1 := Kb7.out.c 1 _ rfl
  have lb := Kb7.out.lt
  have cv0 := Kv7.out.c 0 _ rfl
  have cv1 := Kv7.out.c 1 _ rfl
  have lv := Kv7.out.lt
  have cc0 := Kc7.out.c 0 _ rfl
  have cc1 := Kc7.out.c 1 _ rfl
  have lc := Kc7.out.lt
  go_wp2_with fail
  all_goals (try clear ca0 ca1 la cb0 cb1 lb cv0 cv1 lv cc0 cc1 lc)
  have g0 : Gr w7 ((w7).alloc (Obj.cells #[.int .i64 oa, .int .i64 da] 23)) := Gr.alloc (Gr.refl w7) _
  have bk : Bx ((w7).alloc (Obj.cells #[.int .i64 oa, .int .i64 da] 23)) (w7.heap.size) [.int .i64 oa, .int .i64 da] := Bx.gr (Bx.at_ (Bx.new (w7) [.int .i64 oa, .int .i64 da] 23) (by simp)) (Gr.refl _)
  generalize (w7).alloc (Obj.cells #[.int .i64 oa, .int .i64 da] 23) = w8 at g0 bk ⊢
  have S8 := Lib.hid (S7.out.trans g0)
  have Ka8 := Lib.hid (Ka7.out.gr g0)
  have Kb8 := Lib.hid (Kb7.out.gr g0)
  have Kv8 := Lib.hid (Kv7.out.gr g0)
  have Kc8 := Lib.hid (Kc7.out.gr g0)
  have Kk8 := Lib.hid bk
  clear g0 bk
  have ca0 := Ka8.out.c 0 _ rfl
  have ca1 := Ka8.out.c 1 _ rfl
  have la := Ka8.out.lt
  have cb0 := Kb8.out.c 0 _ rfl
  have cb1 := Kb8.out.c 1 _ rfl
  have lb := Kb8.out.lt
  have cv0 := Kv8.out.c 0 _ rfl
  have cv1 := Kv8.out.c 1 _ rfl
  have lv := Kv8.out.lt
  have cc0 := Kc8.out.c 0 _ rfl
  have cc1 := Kc8.out.c 1 _ rfl
  have lc := Kc8.out.lt
  have ck0 := Kk8.out.c 0 _ rfl
  have ck1 := Kk8.out.c 1 _ rfl
  have lk := Kk8.out.lt
  go_wp2_with fail
  all_goals (try clear ca0 ca1 la cb0 cb1 lb cv0 cv1 lv cc0 cc1 lc ck0 ck1 lk)
  refine (Apart_ok oa da ob db y _ HVA.out HVB.out t0 t1).mono ?_
  rintro e w9 ⟨rfl, hg⟩
  have S9 := Lib.hid (S8.out.trans hg)
  have Ka9 := Lib.hid (Ka8.out.gr hg)
  have Kb9 := Lib.hid (Kb8.out.gr hg)
  have Kv9 := Lib.hid (Kv8.out.gr hg)
  have Kc9 := Lib.hid (Kc8.out.gr hg)
  have Kk9 := Lib.hid (Kk8.out.gr hg)
  clear hg
  have ca0 := Ka9.out.c 0 _ rfl
  have ca1 := Ka9.out.c 1 _ rfl
  have la := Ka9.out.lt
  have cb0 := Kb9.out.c 0 _ rfl
  have cb1 := Kb9.out.c 1 _ rfl
  have lb := Kb9.out.lt
  have cv0 := Kv9.out.c 0 _ rfl
  have cv1 := Kv9.out.c 1 _ rfl
  have lv := Kv9.out.lt
  have cc0 := Kc9.out.c 0 _ rfl
  have cc1 := Kc9.out.c 1 _ rfl
  have lc := Kc9.out.lt
  have ck0 := Kk9.out.c 0 _ rfl
  have ck1 := Kk9.out.c 1 _ rfl
  have lk := Kk9.out.lt
  go_wp2_with fail
  all_goals (try clear ca0 ca1 la cb0 cb1 lb cv0 cv1 lv cc0 cc1 lc ck0 ck1 lk)
  refine (Apart_ok ob db oa da y _ HVB.out HVA.out t0 t1).mono ?_
  rintro e w10 ⟨rfl, hg⟩
  have S10 := Lib.hid (S9.out.trans hg)
  have Ka10 := Lib.hid (Ka9.out.gr hg)
  have Kb10 := Lib.hid (Kb9.out.gr hg)
  have Kv10 := Lib.hid (Kv9.out.gr hg)
  have Kc10 := Lib.hid (Kc9.out.gr hg)
  have Kk10 := Lib.hid (Kk9.out.gr hg)
  clear hg
  have ca0 := Ka10.out.c 0 _ rfl
  have ca1 := Ka10.out.c 1 _ rfl
  have la := Ka10.out.lt
  have cb0 := Kb10.out.c 0 _ rfl
  have cb1 := Kb10.out.c 1 _ rfl
  have lb := Kb10.out.lt
  have cv0 := Kv10.out.c 0 _ rfl
  have cv1 := Kv10.out.c 1 _ rfl
  have lv := Kv10.out.lt
  have cc0 := Kc10.out.c 0 _ rfl
  have cc1 := Kc10.out.c 1 _ rfl
  have lc := Kc10.out.lt
  have ck0 := Kk10.out.c 0 _ rfl
  have ck1 := Kk10.out.c 1 _ rfl
  have lk := Kk10.out.lt
  go_wp2_with fail
  all_goals (try clear ca0 ca1 la cb0 cb1 lb cv0 cv1 lv cc0 cc1 lc ck0 ck1 lk)
  refine (show_ok ob db y _ HVB.out t0 t1).mono ?_
  rintro e w11 ⟨rfl, hg⟩
  have S11 := Lib.hid (S10.out.trans hg)
  have Ka11 := Lib.hid (Ka10.out.gr hg)
  have Kb11 := Lib.hid (Kb10.out.gr hg)
  have Kv11 := Lib.hid (Kv10.out.gr hg)
  have Kc11 := Lib.hid (Kc10.out.gr hg)
  have Kk11 := Lib.hid (Kk10.out.gr hg)
  clear hg
  have ca0 := Ka11.out.c 0 _ rfl
  have ca1 := Ka11.out.c 1 _ rfl
  have la := Ka11.out.lt
  have cb0 := Kb11.out.c 0 _ rfl
  have cb1 := Kb11.out.c 1 _ rfl
  have lb := Kb11.out.lt
  have cv0 := Kv11.out.c 0 _ rfl
  have cv1 := Kv11.out.c 1 _ rfl
  have lv := Kv11.out.lt
  have cc0 := Kc11.out.c 0 _ rfl
  have cc1 := Kc11.out.c 1 _ rfl
  have lc := Kc11.out.lt
  have ck0 := Kk11.out.c 0 _ rfl
  have ck1 := Kk11.out.c 1 _ rfl
  have lk := Kk11.out.lt
  go_wp2_with fail
  all_goals (try clear ca0 ca1 la cb0 cb1 lb cv0 cv1 lv cc0 cc1 lc ck0 ck1 lk)
  all_goals go_ret
  all_goals exact ⟨rfl, S11.out⟩


set_option maxHeartbeats 800000 in
theorem ClockShifts_ok_in_n (oa da ob db x y : Int) (w : World) (had : adOk oa da x) (hvb : ¬ Vc ob db) (t0 : 0 ≤ y) (t1 : y ≤ 1099511627776) :
    Calls Try.prog 12 #[.agg #[.int .i64 oa, .int .i64 da], .agg #[.int .i64 ob, .int .i64 db], .agg #[.int .i64 x, .int .i64 y]] w fun e w' => e = .returned (.bool true) ∧ Gr w w' := by
  have x0 := had.2.1.1
  have x1 := had.2.1.2
  have hva := had.1
  have ba := rd_bd hva t0 t1
  have HAD := Lib.hid had
  have HVA := Lib.hid hva
  have HVB := Lib.hid hvb
  clear had hva hvb
  go_enter Try.func12, Try.ntmps12
  go_wp2_with fail
  have g0 : Gr w ((((w).alloc (Obj.cells #[.int .i64 oa, .int .i64 da] 23)).alloc (Obj.cells #[.int .i64 ob, .int .i64 db] 23)).alloc (Obj.cells #[.int .i64 x, .int .i64 y] 57)) := Gr.alloc (Gr.alloc (Gr.alloc (Gr.refl w) _) _) _
  have ba : Bx ((((w).alloc (Obj.cells #[.int .i64 oa, .int .i64 da] 23)).alloc (Obj.cells #[.int .i64 ob, .int .i64 db] 23)).alloc (Obj.cells #[.int .i64 x, .int .i64 y] 57)) (w.heap.size) [.int .i64 oa, .int .i64 da] := Bx.gr (Bx.at_ (Bx.new (w) [.int .i64 oa, .int .i64 da] 23) (by simp)) (Gr.alloc (Gr.alloc (Gr.refl _) _) _)
  have bb : Bx ((((w).alloc (Obj.cells #[.int .i64 oa, .int .i64 da] 23)).alloc (Obj.cells #[.int .i64 ob, .int .i64 db] 23)).alloc (Obj.cells #[.int .i64 x, .int .i64 y] 57)) (w.heap.size + 1) [.int .i64 ob, .int .i64 db] := Bx.gr (Bx.at_ (Bx.new ((w).alloc (Obj.cells #[.int .i64 oa, .int .i64 da] 23)) [.int .i64 ob, .int .i64 db] 23) (by simp)) (Gr.alloc (Gr.refl _) _)
  have bv : Bx ((((w).alloc (Obj.cells #[.int .i64 oa, .int .i64 da] 23)).alloc (Obj.cells #[.int .i64 ob, .int .i64 db] 23)).alloc (Obj.cells #[.int .i64 x, .int .i64 y] 57)) (w.heap.size + 1 + 1) [.int .i64 x, .int .i64 y] := Bx.gr (Bx.at_ (Bx.new (((w).alloc (Obj.cells #[.int .i64 oa, .int .i64 da] 23)).alloc (Obj.cells #[.int .i64 ob, .int .i64 db] 23)) [.int .i64 x, .int .i64 y] 57) (by simp)) (Gr.refl _)
  generalize (((w).alloc (Obj.cells #[.int .i64 oa, .int .i64 da] 23)).alloc (Obj.cells #[.int .i64 ob, .int .i64 db] 23)).alloc (Obj.cells #[.int .i64 x, .int .i64 y] 57) = W at g0 ba bb bv ⊢
  have S0 := Lib.hid g0
  have Ka0 := Lib.hid ba
  have Kb0 := Lib.hid bb
  have Kv0 := Lib.hid bv
  clear g0 ba bb bv
  refine (awake08 _).mono ?_
  rintro e w1 ⟨rfl, hg⟩
  have S1 := Lib.hid (S0.out.trans hg)
  have Ka1 := Lib.hid (Ka0.out.gr hg)
  have Kb1 := Lib.hid (Kb0.out.gr hg)
  have Kv1 := Lib.hid (Kv0.out.gr hg)
  clear hg
  have ca0 := Ka1.out.c 0 _ rfl
  have ca1 := Ka1.out.c 1 _ rfl
  have la := Ka1.out.lt
  have cb0 := Kb1.out.c 0 _ rfl
  have cb1 := Kb1.out.c 1 _ rfl
  have lb := Kb1.out.lt
  have cv0 := Kv1.out.c 0 _ rfl
  have cv1 := Kv1.out.c 1 _ rfl
  have lv := Kv1.out.lt
  go_wp2_with fail
  all_goals (try clear ca0 ca1 la cb0 cb1 lb cv0 cv1 lv)
  have ca0 := Ka1.out.c 0 _ rfl
  have ca1 := Ka1.out.c 1 _ rfl
  have la := Ka1.out.lt
  have cb0 := Kb1.out.c 0 _ rfl
  have cb1 := Kb1.out.c 1 _ rfl
  have lb := Kb1.out.lt
  have cv0 := Kv1.out.c 0 _ rfl
  have cv1 := Kv1.out.c 1 _ rfl
  have lv := Kv1.out.lt
  go_quiet (fail)
  all_goals (try clear ca0 ca1 la cb0 cb1 lb cv0 cv1 lv)
  have g0 : Gr w1 (w1.drewN nq) := (Gr.refl _).drewN nq
  generalize w1.drewN nq = w2 at g0 ⊢
  have S2 := Lib.hid (S1.out.trans g0)
  have Ka2 := Lib.hid (Ka1.out.gr g0)
  have Kb2 := Lib.hid (Kb1.out.gr g0)
  have Kv2 := Lib.hid (Kv1.out.gr g0)
  clear g0
  have ca0 := Ka2.out.c 0 _ rfl
  have ca1 := Ka2.out.c 1 _ rfl
  have la := Ka2.out.lt
  have cb0 := Kb2.out.c 0 _ rfl
  have cb1 := Kb2.out.c 1 _ rfl
  have lb := Kb2.out.lt
  have cv0 := Kv2.out.c 0 _ rfl
  have cv1 := Kv2.out.c 1 _ rfl
  have lv := Kv2.out.lt
  go_wp2_with fail
  all_goals (try clear ca0 ca1 la cb0 cb1 lb cv0 cv1 lv)
  refine (Adjust_ok oa da x _ HVA.out x0 x1 HAD.out.2.2).mono ?_
  rintro e w3 ⟨rfl, hg⟩
  have S3 := Lib.hid (S2.out.trans hg)
  have Ka3 := Lib.hid (Ka2.out.gr hg)
  have Kb3 := Lib.hid (Kb2.out.gr hg)
  have Kv3 := Lib.hid (Kv2.out.gr hg)
  clear hg
  have ca0 := Ka3.out.c 0 _ rfl
  have ca1 := Ka3.out.c 1 _ rfl
  have la := Ka3.out.lt
  have cb0 := Kb3.out.c 0 _ rfl
  have cb1 := Kb3.out.c 1 _ rfl
  have lb := Kb3.out.lt
  have cv0 := Kv3.out.c 0 _ rfl
  have cv1 := Kv3.out.c 1 _ rfl
  have lv := Kv3.out.lt
  go_wp2_with fail
  all_goals (try clear ca0 ca1 la cb0 cb1 lb cv0 cv1 lv)
  have g0 : Gr w3 ((w3).alloc (Obj.cells #[.int .i64 (oa + x), .int .i64 da] 23)) := Gr.alloc (Gr.refl w3) _
  have bc : Bx ((w3).alloc (Obj.cells #[.int .i64 (oa + x), .int .i64 da] 23)) (w3.heap.size) [.int .i64 (oa + x), .int .i64 da] := Bx.gr (Bx.at_ (Bx.new (w3) [.int .i64 (oa + x), .int .i64 da] 23) (by simp)) (Gr.refl _)
  generalize (w3).alloc (Obj.cells #[.int .i64 (oa + x), .int .i64 da] 23) = w4 at g0 bc ⊢
  have S4 := Lib.hid (S3.out.trans g0)
  have Ka4 := Lib.hid (Ka3.out.gr g0)
  have Kb4 := Lib.hid (Kb3.out.gr g0)
  have Kv4 := Lib.hid (Kv3.out.gr g0)
  have Kc4 := Lib.hid bc
  clear g0 bc
  have ca0 := Ka4.out.c 0 _ rfl
  have ca1 := Ka4.out.c 1 _ rfl
  have la := Ka4.out.lt
  have cb0 := Kb4.out.c 0 _ rfl
  have cb1 := Kb4.out.c 1 _ rfl
  have lb := Kb4.out.lt
  have cv0 := Kv4.out.c 0 _ rfl
  have cv1 := Kv4.out.c 1 _ rfl
  have lv := Kv4.out.lt
  have cc0 := Kc4.out.c 0 _ rfl
  have cc1 := Kc4.out.c 1 _ rfl
  have lc := Kc4.out.lt
  go_wp2_with fail
  all_goals (try clear ca0 ca1 la cb0 cb1 lb cv0 cv1 lv cc0 cc1 lc)
  refine (show_ok oa da y _ HVA.out t0 t1).mono ?_
  rintro e w5 ⟨rfl, hg⟩
  have S5 := Lib.hid (S4.out.trans hg)
  have Ka5 := Lib.hid (Ka4.out.gr hg)
  have Kb5 := Lib.hid (Kb4.out.gr hg)
  have Kv5 := Lib.hid (Kv4.out.gr hg)
  have Kc5 := Lib.hid (Kc4.out.gr hg)
  clear hg
  have ca0 := Ka5.out.c 0 _ rfl
  have ca1 := Ka5.out.c 1 _ rfl
  have la := Ka5.out.lt
  have cb0 := Kb5.out.c 0 _ rfl
  have cb1 := Kb5.out.c 1 _ rfl
  have lb := Kb5.out.lt
  have cv0 := Kv5.out.c 0 _ rfl
  have cv1 := Kv5.out.c 1 _ rfl
  have lv := Kv5.out.lt
  have cc0 := Kc5.out.c 0 _ rfl
  have cc1 := Kc5.out.c 1 _ rfl
  have lc := Kc5.out.lt
  go_wp2_with fail
  all_goals (try clear ca0 ca1 la cb0 cb1 lb cv0 cv1 lv cc0 cc1 lc)
  refine (show_shift oa x da y _ HAD.out.2.2 t0 t1).mono ?_
  rintro e w6 ⟨rfl, hg⟩
  have S6 := Lib.hid (S5.out.trans hg)
  have Ka6 := Lib.hid (Ka5.out.gr hg)
  have Kb6 := Lib.hid (Kb5.out.gr hg)
  have Kv6 := Lib.hid (Kv5.out.gr hg)
  have Kc6 := Lib.hid (Kc5.out.gr hg)
  clear hg
  have ca0 := Ka6.out.c 0 _ rfl
  have ca1 := Ka6.out.c 1 _ rfl
  have la := Ka6.out.lt
  have cb0 := Kb6.out.c 0 _ rfl
  have cb1 := Kb6.out.c 1 _ rfl
  have lb := Kb6.out.lt
  have cv0 := Kv6.out.c 0 _ rfl
  have cv1 := Kv6.out.c 1 _ rfl
  have lv := Kv6.out.lt
  have cc0 := Kc6.out.c 0 _ rfl
  have cc1 := Kc6.out.c 1 _ rfl
  have lc := Kc6.out.lt
  go_wp2_with fail
  all_goals (try clear ca0 ca1 la cb0 cb1 lb cv0 cv1 lv cc0 cc1 lc)
  refine (Adjust_back oa x da _ HAD.out).mono ?_
  rintro e w7 ⟨rfl, hg⟩
  have S7 := Lib.hid (S6.out.trans hg)
  have Ka7 := Lib.hid (Ka6.out.gr hg)
  have Kb7 := Lib.hid (Kb6.out.gr hg)
  have Kv7 := Lib.hid (Kv6.out.gr hg)
  have Kc7 := Lib.hid (Kc6.out.gr hg)
  clear hg
  have ca0 := Ka7.out.c 0 _ rfl
  have ca1 := Ka7.out.c 1 _ rfl
  have la := Ka7.out.lt
  have cb0 := Kb7.out.c 0 _ rfl
  have cb1 := Kb7.out.c 1 _ rfl
  have lb := Kb7.out.lt
  have cv0 := Kv7.out.c 0 _ rfl
  have cv1 := Kv7.out.c 1 _ rfl
  have lv := Kv7.out.lt
  have cc0 := Kc7.out.c 0 _ rfl
  have cc1 := Kc7.out.c 1 _ rfl
  have lc := Kc7.out.lt
  go_wp2_with fail
  all_goals (try clear ca0 ca1 la cb0 cb1 lb cv0 cv1 lv cc0 cc1 lc)
  have g0 : Gr w7 ((w7).alloc (Obj.cells #[.int .i64 oa, .int .i64 da] 23)) := Gr.alloc (Gr.refl w7) _
  have bk : Bx ((w7).alloc (Obj.cells #[.int .i64 oa, .int .i64 da] 23)) (w7.heap.size) [.int .i64 oa, .int .i64 da] := Bx.gr (Bx.at_ (Bx.new (w7) [.int .i64 oa, .int .i64 da] 23) (by simp)) (Gr.refl _)
  generalize (w7).alloc (Obj.cells #[.int .i64 oa, .int .i64 da] 23) = w8 at g0 bk ⊢
  have S8 := Lib.hid (S7.out.trans g0)
  have Ka8 := Lib.hid (Ka7.out.gr g0)
  have Kb8 := Lib.hid (Kb7.out.gr g0)
  have Kv8 := Lib.hid (Kv7.out.gr g0)
  have Kc8 := Lib.hid (Kc7.out.gr g0)
  have Kk8 := Lib.hid bk
  clear g0 bk
  have ca0 := Ka8.out.c 0 _ rfl
  have ca1 := Ka8.out.c 1 _ rfl
  have la := Ka8.out.lt
  have cb0 := Kb8.out.c 0 _ rfl
  have cb1 := Kb8.out.c 1 _ rfl
  have lb := Kb8.out.lt
  have cv0 := Kv8.out.c 0 _ rfl
  have cv1 := Kv8.out.c 1 _ rfl
  have lv := Kv8.out.lt
  have cc0 := Kc8.out.c 0 _ rfl
  have cc1 := Kc8.out.c 1 _ rfl
  have lc := Kc8.out.lt
  have ck0 := Kk8.out.c 0 _ rfl
  have ck1 := Kk8.out.c 1 _ rfl
  have lk := Kk8.out.lt
  go_wp2_with fail
  all_goals (try clear ca0 ca1 la cb0 cb1 lb cv0 cv1 lv cc0 cc1 lc ck0 ck1 lk)
  refine (Apart_bad oa da ob db y _ (fun h => HVB.out h.2)).mono ?_
  rintro e w9 ⟨rfl, hg⟩
  have S9 := Lib.hid (S8.out.trans hg)
  have Ka9 := Lib.hid (Ka8.out.gr hg)
  have Kb9 := Lib.hid (Kb8.out.gr hg)
  have Kv9 := Lib.hid (Kv8.out.gr hg)
  have Kc9 := Lib.hid (Kc8.out.gr hg)
  have Kk9 := Lib.hid (Kk8.out.gr hg)
  clear hg
  have ca0 := Ka9.out.c 0 _ rfl
  have ca1 := Ka9.out.c 1 _ rfl
  have la := Ka9.out.lt
  have cb0 := Kb9.out.c 0 _ rfl
  have cb1 := Kb9.out.c 1 _ rfl
  have lb := Kb9.out.lt
  have cv0 := Kv9.out.c 0 _ rfl
  have cv1 := Kv9.out.c 1 _ rfl
  have lv := Kv9.out.lt
  have cc0 := Kc9.out.c 0 _ rfl
  have cc1 := Kc9.out.c 1 _ rfl
  have lc := Kc9.out.lt
  have ck0 := Kk9.out.c 0 _ rfl
  have ck1 := Kk9.out.c 1 _ rfl
  have lk := Kk9.out.lt
  go_wp2_with fail
  all_goals (try clear ca0 ca1 la cb0 cb1 lb cv0 cv1 lv cc0 cc1 lc ck0 ck1 lk)
  refine (Apart_bad ob db oa da y _ (fun h => HVB.out h.1)).mono ?_
  rintro e w10 ⟨rfl, hg⟩
  have S10 := Lib.hid (S9.out.trans hg)
  have Ka10 := Lib.hid (Ka9.out.gr hg)
  have Kb10 := Lib.hid (Kb9.out.gr hg)
  have Kv10 := Lib.hid (Kv9.out.gr hg)
  have Kc10 := Lib.hid (Kc9.out.gr hg)
  have Kk10 := Lib.hid (Kk9.out.gr hg)
  clear hg
  have ca0 := Ka10.out.c 0 _ rfl
  have ca1 := Ka10.out.c 1 _ rfl
  have la := Ka10.out.lt
  have cb0 := Kb10.out.c 0 _ rfl
  have cb1 := Kb10.out.c 1 _ rfl
  have lb := Kb10.out.lt
  have cv0 := Kv10.out.c 0 _ rfl
  have cv1 := Kv10.out.c 1 _ rfl
  have lv := Kv10.out.lt
  have cc0 := Kc10.out.c 0 _ rfl
  have cc1 := Kc10.out.c 1 _ rfl
  have lc := Kc10.out.lt
  have ck0 := Kk10.out.c 0 _ rfl
  have ck1 := Kk10.out.c 1 _ rfl
  have lk := Kk10.out.lt
  go_wp2_with fail
  all_goals (try clear ca0 ca1 la cb0 cb1 lb cv0 cv1 lv cc0 cc1 lc ck0 ck1 lk)
  refine (show_any ob db y _).mono ?_
  rintro e w11 ⟨rfl, hg⟩
  have S11 := Lib.hid (S10.out.trans hg)
  have Ka11 := Lib.hid (Ka10.out.gr hg)
  have Kb11 := Lib.hid (Kb10.out.gr hg)
  have Kv11 := Lib.hid (Kv10.out.gr hg)
  have Kc11 := Lib.hid (Kc10.out.gr hg)
  have Kk11 := Lib.hid (Kk10.out.gr hg)
  clear hg
  have ca0 := Ka11.out.c 0 _ rfl
  have ca1 := Ka11.out.c 1 _ rfl
  have la := Ka11.out.lt
  have cb0 := Kb11.out.c 0 _ rfl
  have cb1 := Kb11.out.c 1 _ rfl
  have lb := Kb11.out.lt
  have cv0 := Kv11.out.c 0 _ rfl
  have cv1 := Kv11.out.c 1 _ rfl
  have lv := Kv11.out.lt
  have cc0 := Kc11.out.c 0 _ rfl
  have cc1 := Kc11.out.c 1 _ rfl
  have lc := Kc11.out.lt
  have ck0 := Kk11.out.c 0 _ rfl
  have ck1 := Kk11.out.c 1 _ rfl
  have lk := Kk11.out.lt
  go_wp2_with fail
  all_goals (try clear ca0 ca1 la cb0 cb1 lb cv0 cv1 lv cc0 cc1 lc ck0 ck1 lk)
  all_goals go_ret
  all_goals exact ⟨rfl, S11.out⟩


set_option maxHeartbeats 800000 in
theorem ClockShifts_ok_out_b (oa da ob db x y : Int) (w : World) (had : adOk oa da x) (hvb : Vc ob db) (ht : ¬ (0 ≤ y ∧ y ≤ 1099511627776)) :
    Calls Try.prog 12 #[.agg #[.int .i64 oa, .int .i64 da], .agg #[.int .i64 ob, .int .i64 db], .agg #[.int .i64 x, .int .i64 y]] w fun e w' => e = .returned (.bool true) ∧ Gr w w' := by
  have x0 := had.2.1.1
  have x1 := had.2.1.2
  have hva := had.1
  have HAD := Lib.hid had
  have HVA := Lib.hid hva
  have HVB := Lib.hid hvb
  have HT := Lib.hid ht
  clear had hva hvb ht
  go_enter Try.func12, Try.ntmps12
  go_wp2_with fail
  have g0 : Gr w ((((w).alloc (Obj.cells #[.int .i64 oa, .int .i64 da] 23)).alloc (Obj.cells #[.int .i64 ob, .int .i64 db] 23)).alloc (Obj.cells #[.int .i64 x, .int .i64 y] 57)) := Gr.alloc (Gr.alloc (Gr.alloc (Gr.refl w) _) _) _
  have ba : Bx ((((w).alloc (Obj.cells #[.int .i64 oa, .int .i64 da] 23)).alloc (Obj.cells #[.int .i64 ob, .int .i64 db] 23)).alloc (Obj.cells #[.int .i64 x, .int .i64 y] 57)) (w.heap.size) [.int .i64 oa, .int .i64 da] := Bx.gr (Bx.at_ (Bx.new (w) [.int .i64 oa, .int .i64 da] 23) (by simp)) (Gr.alloc (Gr.alloc (Gr.refl _) _) _)
  have bb : Bx ((((w).alloc (Obj.cells #[.int .i64 oa, .int .i64 da] 23)).alloc (Obj.cells #[.int .i64 ob, .int .i64 db] 23)).alloc (Obj.cells #[.int .i64 x, .int .i64 y] 57)) (w.heap.size + 1) [.int .i64 ob, .int .i64 db] := Bx.gr (Bx.at_ (Bx.new ((w).alloc (Obj.cells #[.int .i64 oa, .int .i64 da] 23)) [.int .i64 ob, .int .i64 db] 23) (by simp)) (Gr.alloc (Gr.refl _) _)
  have bv : Bx ((((w).alloc (Obj.cells #[.int .i64 oa, .int .i64 da] 23)).alloc (Obj.cells #[.int .i64 ob, .int .i64 db] 23)).alloc (Obj.cells #[.int .i64 x, .int .i64 y] 57)) (w.heap.size + 1 + 1) [.int .i64 x, .int .i64 y] := Bx.gr (Bx.at_ (Bx.new (((w).alloc (Obj.cells #[.int .i64 oa, .int .i64 da] 23)).alloc (Obj.cells #[.int .i64 ob, .int .i64 db] 23)) [.int .i64 x, .int .i64 y] 57) (by simp)) (Gr.refl _)
  generalize (((w).alloc (Obj.cells #[.int .i64 oa, .int .i64 da] 23)).alloc (Obj.cells #[.int .i64 ob, .int .i64 db] 23)).alloc (Obj.cells #[.int .i64 x, .int .i64 y] 57) = W at g0 ba bb bv ⊢
  have S0 := Lib.hid g0
  have Ka0 := Lib.hid ba
  have Kb0 := Lib.hid bb
  have Kv0 := Lib.hid bv
  clear g0 ba bb bv
  refine (awake08 _).mono ?_
  rintro e w1 ⟨rfl, hg⟩
  have S1 := Lib.hid (S0.out.trans hg)
  have Ka1 := Lib.hid (Ka0.out.gr hg)
  have Kb1 := Lib.hid (Kb0.out.gr hg)
  have Kv1 := Lib.hid (Kv0.out.gr hg)
  clear hg
  have ca0 := Ka1.out.c 0 _ rfl
  have ca1 := Ka1.out.c 1 _ rfl
  have la := Ka1.out.lt
  have cb0 := Kb1.out.c 0 _ rfl
  have cb1 := Kb1.out.c 1 _ rfl
  have lb := Kb1.out.lt
  have cv0 := Kv1.out.c 0 _ rfl
  have cv1 := Kv1.out.c 1 _ rfl
  have lv := Kv1.out.lt
  go_wp2_with fail
  all_goals (try clear ca0 ca1 la cb0 cb1 lb cv0 cv1 lv)
  have ca0 := Ka1.out.c 0 _ rfl
  have ca1 := Ka1.out.c 1 _ rfl
  have la := Ka1.out.lt
  have cb0 := Kb1.out.c 0 _ rfl
  have cb1 := Kb1.out.c 1 _ rfl
  have lb := Kb1.out.lt
  have cv0 := Kv1.out.c 0 _ rfl
  have cv1 := Kv1.out.c 1 _ rfl
  have lv := Kv1.out.lt
  go_quiet (fail)
  all_goals (try clear ca0 ca1 la cb0 cb1 lb cv0 cv1 lv)
  have g0 : Gr w1 (w1.drewN nq) := (Gr.refl _).drewN nq
  generalize w1.drewN nq = w2 at g0 ⊢
  have S2 := Lib.hid (S1.out.trans g0)
  have Ka2 := Lib.hid (Ka1.out.gr g0)
  have Kb2 := Lib.hid (Kb1.out.gr g0)
  have Kv2 := Lib.hid (Kv1.out.gr g0)
  clear g0
  have ca0 := Ka2.out.c 0 _ rfl
  have ca1 := Ka2.out.c 1 _ rfl
  have la := Ka2.out.lt
  have cb0 := Kb2.out.c 0 _ rfl
  have cb1 := Kb2.out.c 1 _ rfl
  have lb := Kb2.out.lt
  have cv0 := Kv2.out.c 0 _ rfl
  have cv1 := Kv2.out.c 1 _ rfl
  have lv := Kv2.out.lt
  go_wp2_with fail
  all_goals (try clear ca0 ca1 la cb0 cb1 lb cv0 cv1 lv)
  refine (Adjust_ok oa da x _ HVA.out x0 x1 HAD.out.2.2).mono ?_
  rintro e w3 ⟨rfl, hg⟩
  have S3 := Lib.hid (S2.out.trans hg)
  have Ka3 := Lib.hid (Ka2.out.gr hg)
  have Kb3 := Lib.hid (Kb2.out.gr hg)
  have Kv3 := Lib.hid (Kv2.out.gr hg)
  clear hg
  have ca0 := Ka3.out.c 0 _ rfl
  have ca1 := Ka3.out.c 1 _ rfl
  have la := Ka3.out.lt
  have cb0 := Kb3.out.c 0 _ rfl
  have cb1 := Kb3.out.c 1 _ rfl
  have lb := Kb3.out.lt
  have cv0 := Kv3.out.c 0 _ rfl
  have cv1 := Kv3.out.c 1 _ rfl
  have lv := Kv3.out.lt
  go_wp2_with fail
  all_goals (try clear ca0 ca1 la cb0 cb1 lb cv0 cv1 lv)
  have g0 : Gr w3 ((w3).alloc (Obj.cells #[.int .i64 (oa + x), .int .i64 da] 23)) := Gr.alloc (Gr.refl w3) _
  have bc : Bx ((w3).alloc (Obj.cells #[.int .i64 (oa + x), .int .i64 da] 23)) (w3.heap.size) [.int .i64 (oa + x), .int .i64 da] := Bx.gr (Bx.at_ (Bx.new (w3) [.int .i64 (oa + x), .int .i64 da] 23) (by simp)) (Gr.refl _)
  generalize (w3).alloc (Obj.cells #[.int .i64 (oa + x), .int .i64 da] 23) = w4 at g0 bc ⊢
  have S4 := Lib.hid (S3.out.trans g0)
  have Ka4 := Lib.hid (Ka3.out.gr g0)
  have Kb4 := Lib.hid (Kb3.out.gr g0)
  have Kv4 := Lib.hid (Kv3.out.gr g0)
  have Kc4 := Lib.hid bc
  clear g0 bc
  have ca0 := Ka4.out.c 0 _ rfl
  have ca1 := Ka4.out.c 1 _ rfl
  have la := Ka4.out.lt
  have cb0 := Kb4.out.c 0 _ rfl
  have cb1 := Kb4.out.c 1 _ rfl
  have lb := Kb4.out.lt
  have cv0 := Kv4.out.c 0 _ rfl
  have cv1 := Kv4.out.c 1 _ rfl
  have lv := Kv4.out.lt
  have cc0 := Kc4.out.c 0 _ rfl
  have cc1 := Kc4.out.c 1 _ rfl
  have lc := Kc4.out.lt
  go_wp2_with fail
  all_goals (try clear ca0 ca1 la cb0 cb1 lb cv0 cv1 lv cc0 cc1 lc)
  refine (show_range oa da y _ HVA.out HT.out).mono ?_
  rintro e w5 ⟨rfl, hg⟩
  have S5 := Lib.hid (S4.out.trans hg)
  have Ka5 := Lib.hid (Ka4.out.gr hg)
  have Kb5 := Lib.hid (Kb4.out.gr hg)
  have Kv5 := Lib.hid (Kv4.out.gr hg)
  have Kc5 := Lib.hid (Kc4.out.gr hg)
  clear hg
  have ca0 := Ka5.out.c 0 _ rfl
  have ca1 := Ka5.out.c 1 _ rfl
  have la := Ka5.out.lt
  have cb0 := Kb5.out.c 0 _ rfl
  have cb1 := Kb5.out.c 1 _ rfl
  have lb := Kb5.out.lt
  have cv0 := Kv5.out.c 0 _ rfl
  have cv1 := Kv5.out.c 1 _ rfl
  have lv := Kv5.out.lt
  have cc0 := Kc5.out.c 0 _ rfl
  have cc1 := Kc5.out.c 1 _ rfl
  have lc := Kc5.out.lt
  go_wp2_with fail
  all_goals (try clear ca0 ca1 la cb0 cb1 lb cv0 cv1 lv cc0 cc1 lc)
  refine (Apart_range oa da ob db y _ HVA.out HVB.out HT.out).mono ?_
  rintro e w6 ⟨rfl, hg⟩
  have S6 := Lib.hid (S5.out.trans hg)
  have Ka6 := Lib.hid (Ka5.out.gr hg)
  have Kb6 := Lib.hid (Kb5.out.gr hg)
  have Kv6 := Lib.hid (Kv5.out.gr hg)
  have Kc6 := Lib.hid (Kc5.out.gr hg)
  clear hg
  have ca0 := Ka6.out.c 0 _ rfl
  have ca1 := Ka6.out.c 1 _ rfl
  have la := Ka6.out.lt
  have cb0 := Kb6.out.c 0 _ rfl
  have cb1 := Kb6.out.c 1 _ rfl
  have lb := Kb6.out.lt
  have cv0 := Kv6.out.c 0 _ rfl
  have cv1 := Kv6.out.c 1 _ rfl
  have lv := Kv6.out.lt
  have cc0 := Kc6.out.c 0 _ rfl
  have cc1 := Kc6.out.c 1 _ rfl
  have lc := Kc6.out.lt
  go_wp2_with fail
  all_goals (try clear ca0 ca1 la cb0 cb1 lb cv0 cv1 lv cc0 cc1 lc)
  refine (Apart_range ob db oa da y _ HVB.out HVA.out HT.out).mono ?_
  rintro e w7 ⟨rfl, hg⟩
  have S7 := Lib.hid (S6.out.trans hg)
  have Ka7 := Lib.hid (Ka6.out.gr hg)
  have Kb7 := Lib.hid (Kb6.out.gr hg)
  have Kv7 := Lib.hid (Kv6.out.gr hg)
  have Kc7 := Lib.hid (Kc6.out.gr hg)
  clear hg
  have ca0 := Ka7.out.c 0 _ rfl
  have ca1 := Ka7.out.c 1 _ rfl
  have la := Ka7.out.lt
  have cb0 := Kb7.out.c 0 _ rfl
  have cb1 := Kb7.out.c 1 _ rfl
  have lb := Kb7.out.lt
  have cv0 := Kv7.out.c 0 _ rfl
  have cv1 := Kv7.out.c 1 _ rfl
  have lv := Kv7.out.lt
  have cc0 := Kc7.out.c 0 _ rfl
  have cc1 := Kc7.out.c 1 _ rfl
  have lc := Kc7.out.lt
  go_wp2_with fail
  all_goals (try clear ca0 ca1 la cb0 cb1 lb cv0 cv1 lv cc0 cc1 lc)
  refine (show_range ob db y _ HVB.out HT.out).mono ?_
  rintro e w8 ⟨rfl, hg⟩
  have S8 := Lib.hid (S7.out.trans hg)
  have Ka8 := Lib.hid (Ka7.out.gr hg)
  have Kb8 := Lib.hid (Kb7.out.gr hg)
  have Kv8 := Lib.hid (Kv7.out.gr hg)
  have Kc8 := Lib.hid (Kc7.out.gr hg)
  clear hg
  have ca0 := Ka8.out.c 0 _ rfl
  have ca1 := Ka8.out.c 1 _ rfl
  have la := Ka8.out.lt
  have cb0 := Kb8.out.c 0 _ rfl
  have cb1 := Kb8.out.c 1 _ rfl
  have lb := Kb8.out.lt
  have cv0 := Kv8.out.c 0 _ rfl
  have cv1 := Kv8.out.c 1 _ rfl
  have lv := Kv8.out.lt
  have cc0 := Kc8.out.c 0 _ rfl
  have cc1 := Kc8.out.c 1 _ rfl
  have lc := Kc8.out.lt
  go_wp2_with fail
  all_goals (try clear ca0 ca1 la cb0 cb1 lb cv0 cv1 lv cc0 cc1 lc)
  all_goals go_ret
  all_goals exact ⟨rfl, S8.out⟩


set_option maxHeartbeats 800000 in
theorem ClockShifts_ok_out_n (oa da ob db x y : Int) (w : World) (had : adOk oa da x) (hvb : ¬ Vc ob db) (ht : ¬ (0 ≤ y ∧ y ≤ 1099511627776)) :
    Calls Try.prog 12 #[.agg #[.int .i64 oa, .int .i64 da], .agg #[.int .i64 ob, .int .i64 db], .agg #[.int .i64 x, .int .i64 y]] w fun e w' => e = .returned (.bool true) ∧ Gr w w' := by
  have x0 := had.2.1.1
  have x1 := had.2.1.2
  have hva := had.1
  have HAD := Lib.hid had
  have HVA := Lib.hid hva
  have HVB := Lib.hid hvb
  have HT := Lib.hid ht
  clear had hva hvb ht
  go_enter Try.func12, Try.ntmps12
  go_wp2_with fail
  have g0 : Gr w ((((w).alloc (Obj.cells #[.int .i64 oa, .int .i64 da] 23)).alloc (Obj.cells #[.int .i64 ob, .int .i64 db] 23)).alloc (Obj.cells #[.int .i64 x, .int .i64 y] 57)) := Gr.alloc (Gr.alloc (Gr.alloc (Gr.refl w) _) _) _
  have ba : Bx ((((w).alloc (Obj.cells #[.int .i64 oa, .int .i64 da] 23)).alloc (Obj.cells #[.int .i64 ob, .int .i64 db] 23)).alloc (Obj.cells #[.int .i64 x, .int .i64 y] 57)) (w.heap.size) [.int .i64 oa, .int .i64 da] := Bx.gr (Bx.at_ (Bx.new (w) [.int .i64 oa, .int .i64 da] 23) (by simp)) (Gr.alloc (Gr.alloc (Gr.refl _) _) _)
  have bb : Bx ((((w).alloc (Obj.cells #[.int .i64 oa, .int .i64 da] 23)).alloc (Obj.cells #[.int .i64 ob, .int .i64 db] 23)).alloc (Obj.cells #[.int .i64 x, .int .i64 y] 57)) (w.heap.size + 1) [.int .i64 ob, .int .i64 db] := Bx.gr (Bx.at_ (Bx.new ((w).alloc (Obj.cells #[.int .i64 oa, .int .i64 da] 23)) [.int .i64 ob, .int .i64 db] 23) (by simp)) (Gr.alloc (Gr.refl _) _)
  have bv : Bx ((((w).alloc (Obj.cells #[.int .i64 oa, .int .i64 da] 23)).alloc (Obj.cells #[.int .i64 ob, .int .i64 db] 23)).alloc (Obj.cells #[.int .i64 x, .int .i64 y] 57)) (w.heap.size + 1 + 1) [.int .i64 x, .int .i64 y] := Bx.gr (Bx.at_ (Bx.new (((w).alloc (Obj.cells #[.int .i64 oa, .int .i64 da] 23)).alloc (Obj.cells #[.int .i64 ob, .int .i64 db] 23)) [.int .i64 x, .int .i64 y] 57) (by simp)) (Gr.refl _)
  generalize (((w).alloc (Obj.cells #[.int .i64 oa, .int .i64 da] 23)).alloc (Obj.cells #[.int .i64 ob, .int .i64 db] 23)).alloc (Obj.cells #[.int .i64 x, .int .i64 y] 57) = W at g0 ba bb bv ⊢
  have S0 := Lib.hid g0
  have Ka0 := Lib.hid ba
  have Kb0 := Lib.hid bb
  have Kv0 := Lib.hid bv
  clear g0 ba bb bv
  refine (awake08 _).mono ?_
  rintro e w1 ⟨rfl, hg⟩
  have S1 := Lib.hid (S0.out.trans hg)
  have Ka1 := Lib.hid (Ka0.out.gr hg)
  have Kb1 := Lib.hid (Kb0.out.gr hg)
  have Kv1 := Lib.hid (Kv0.out.gr hg)
  clear hg
  have ca0 := Ka1.out.c 0 _ rfl
  have ca1 := Ka1.out.c 1 _ rfl
  have la := Ka1.out.lt
  have cb0 := Kb1.out.c 0 _ rfl
  have cb1 := Kb1.out.c 1 _ rfl
  have lb := Kb1.out.lt
  have cv0 := Kv1.out.c 0 _ rfl
  have cv1 := Kv1.out.c 1 _ rfl
  have lv := Kv1.out.lt
  go_wp2_with fail
  all_goals (try clear ca0 ca1 la cb0 cb1 lb cv0 cv1 lv)
  have ca0 := Ka1.out.c 0 _ rfl
  have ca1 := Ka1.out.c 1 _ rfl
  have la := Ka1.out.lt
  have cb0 := Kb1.out.c 0 _ rfl
  have cb1 := Kb1.out.c 1 _ rfl
  have lb := Kb1.out.lt
  have cv0 := Kv1.out.c 0 _ rfl
  have cv1 := Kv1.out.c 1 _ rfl
  have lv := Kv1.out.lt
  go_quiet (fail)
  all_goals (try clear ca0 ca1 la cb0 cb1 lb cv0 cv1 lv)
  have g0 : Gr w1 (w1.drewN nq) := (Gr.refl _).drewN nq
  generalize w1.drewN nq = w2 at g0 ⊢
  have S2 := Lib.hid (S1.out.trans g0)
  have Ka2 := Lib.hid (Ka1.out.gr g0)
  have Kb2 := Lib.hid (Kb1.out.gr g0)
  have Kv2 := Lib.hid (Kv1.out.gr g0)
  clear g0
  have ca0 := Ka2.out.c 0 _ rfl
  have ca1 := Ka2.out.c 1 _ rfl
  have la := Ka2.out.lt
  have cb0 := Kb2.out.c 0 _ rfl
  have cb1 := Kb2.out.c 1 _ rfl
  have lb := Kb2.out.lt
  have cv0 := Kv2.out.c 0 _ rfl
  have cv1 := Kv2.out.c 1 _ rfl
  have lv := Kv2.out.lt
  go_wp2_with fail
  all_goals (try clear ca0 ca1 la cb0 cb1 lb cv0 cv1 lv)
  refine (Adjust_ok oa da x _ HVA.out x0 x1 HAD.out.2.2).mono ?_
  rintro e w3 ⟨rfl, hg⟩
  have S3 := Lib.hid (S2.out.trans hg)
  have Ka3 := Lib.hid (Ka2.out.gr hg)
  have Kb3 := Lib.hid (Kb2.out.gr hg)
  have Kv3 := Lib.hid (Kv2.out.gr hg)
  clear hg
  have ca0 := Ka3.out.c 0 _ rfl
  have ca1 := Ka3.out.c 1 _ rfl
  have la := Ka3.out.lt
  have cb0 := Kb3.out.c 0 _ rfl
  have cb1 := Kb3.out.c 1 _ rfl
  have lb := Kb3.out.lt
  have cv0 := Kv3.out.c 0 _ rfl
  have cv1 := Kv3.out.c 1 _ rfl
  have lv := Kv3.out.lt
  go_wp2_with fail
  all_goals (try clear ca0 ca1 la cb0 cb1 lb cv0 cv1 lv)
  have g0 : Gr w3 ((w3).alloc (Obj.cells #[.int .i64 (oa + x), .int .i64 da] 23)) := Gr.alloc (Gr.refl w3) _
  have bc : Bx ((w3).alloc (Obj.cells #[.int .i64 (oa + x), .int .i64 da] 23)) (w3.heap.size) [.int .i64 (oa + x), .int .i64 da] := Bx.gr (Bx.at_ (Bx.new (w3) [.int .i64 (oa + x), .int .i64 da] 23) (by simp)) (Gr.refl _)
  generalize (w3).alloc (Obj.cells #[.int .i64 (oa + x), .int .i64 da] 23) = w4 at g0 bc ⊢
  have S4 := Lib.hid (S3.out.trans g0)
  have Ka4 := Lib.hid (Ka3.out.gr g0)
  have Kb4 := Lib.hid (Kb3.out.gr g0)
  have Kv4 := Lib.hid (Kv3.out.gr g0)
  have Kc4 := Lib.hid bc
  clear g0 bc
  have ca0 := Ka4.out.c 0 _ rfl
  have ca1 := Ka4.out.c 1 _ rfl
  have la := Ka4.out.lt
  have cb0 := Kb4.out.c 0 _ rfl
  have cb1 := Kb4.out.c 1 _ rfl
  have lb := Kb4.out.lt
  have cv0 := Kv4.out.c 0 _ rfl
  have cv1 := Kv4.out.c 1 _ rfl
  have lv := Kv4.out.lt
  have cc0 := Kc4.out.c 0 _ rfl
  have cc1 := Kc4.out.c 1 _ rfl
  have lc := Kc4.out.lt
  go_wp2_with fail
  all_goals (try clear ca0 ca1 la cb0 cb1 lb cv0 cv1 lv cc0 cc1 lc)
  refine (show_range oa da y _ HVA.out HT.out).mono ?_
  rintro e w5 ⟨rfl, hg⟩
  have S5 := Lib.hid (S4.out.trans hg)
  have Ka5 := Lib.hid (Ka4.out.gr hg)
  have Kb5 := Lib.hid (Kb4.out.gr hg)
  have Kv5 := Lib.hid (Kv4.out.gr hg)
  have Kc5 := Lib.hid (Kc4.out.gr hg)
  clear hg
  have ca0 := Ka5.out.c 0 _ rfl
  have ca1 := Ka5.out.c 1 _ rfl
  have la := Ka5.out.lt
  have cb0 := Kb5.out.c 0 _ rfl
  have cb1 := Kb5.out.c 1 _ rfl
  have lb := Kb5.out.lt
  have cv0 := Kv5.out.c 0 _ rfl
  have cv1 := Kv5.out.c 1 _ rfl
  have lv := Kv5.out.lt
  have cc0 := Kc5.out.c 0 _ rfl
  have cc1 := Kc5.out.c 1 _ rfl
  have lc := Kc5.out.lt
  go_wp2_with fail
  all_goals (try clear ca0 ca1 la cb0 cb1 lb cv0 cv1 lv cc0 cc1 lc)
  refine (Apart_bad oa da ob db y _ (fun h => HVB.out h.2)).mono ?_
  rintro e w6 ⟨rfl, hg⟩
  have S6 := Lib.hid (S5.out.trans hg)
  have Ka6 := Lib.hid (Ka5.out.gr hg)
  have Kb6 := Lib.hid (Kb5.out.gr hg)
  have Kv6 := Lib.hid (Kv5.out.gr hg)
  have Kc6 := Lib.hid (Kc5.out.gr hg)
  clear hg
  have ca0 := Ka6.out.c 0 _ rfl
  have ca1 := Ka6.out.c 1 _ rfl
  have la := Ka6.out.lt
  have cb0 := Kb6.out.c 0 _ rfl
  have cb1 := Kb6.out.c 1 _ rfl
  have lb := Kb6.out.lt
  have cv0 := Kv6.out.c 0 _ rfl
  have cv1 := Kv6.out.c 1 _ rfl
  have lv := Kv6.out.lt
  have cc0 := Kc6.out.c 0 _ rfl
  have cc1 := Kc6.out.c 1 _ rfl
  have lc := Kc6.out.lt
  go_wp2_with fail
  all_goals (try clear ca0 ca1 la cb0 cb1 lb cv0 cv1 lv cc0 cc1 lc)
  refine (Apart_bad ob db oa da y _ (fun h => HVB.out h.1)).mono ?_
  rintro e w7 ⟨rfl, hg⟩
  have S7 := Lib.hid (S6.out.trans hg)
  have Ka7 := Lib.hid (Ka6.out.gr hg)
  have Kb7 := Lib.hid (Kb6.out.gr hg)
  have Kv7 := Lib.hid (Kv6.out.gr hg)
  have Kc7 := Lib.hid (Kc6.out.gr hg)
  clear hg
  have ca0 := Ka7.out.c 0 _ rfl
  have ca1 := Ka7.out.c 1 _ rfl
  have la := Ka7.out.lt
  have cb0 := Kb7.out.c 0 _ rfl
  have cb1 := Kb7.out.c 1 _ rfl
  have lb := Kb7.out.lt
  have cv0 := Kv7.out.c 0 _ rfl
  have cv1 := Kv7.out.c 1 _ rfl
  have lv := Kv7.out.lt
  have cc0 := Kc7.out.c 0 _ rfl
  have cc1 := Kc7.out.c 1 _ rfl
  have lc := Kc7.out.lt
  go_wp2_with fail
  all_goals (try clear ca0 ca1 la cb0 cb1 lb cv0 cv1 lv cc0 cc1 lc)
  refine (show_any ob db y _).mono ?_
  rintro e w8 ⟨rfl, hg⟩
  have S8 := Lib.hid (S7.out.trans hg)
  have Ka8 := Lib.hid (Ka7.out.gr hg)
  have Kb8 := Lib.hid (Kb7.out.gr hg)
  have Kv8 := Lib.hid (Kv7.out.gr hg)
  have Kc8 := Lib.hid (Kc7.out.gr hg)
  clear hg
  have ca0 := Ka8.out.c 0 _ rfl
  have ca1 := Ka8.out.c 1 _ rfl
  have la := Ka8.out.lt
  have cb0 := Kb8.out.c 0 _ rfl
  have cb1 := Kb8.out.c 1 _ rfl
  have lb := Kb8.out.lt
  have cv0 := Kv8.out.c 0 _ rfl
  have cv1 := Kv8.out.c 1 _ rfl
  have lv := Kv8.out.lt
  have cc0 := Kc8.out.c 0 _ rfl
  have cc1 := Kc8.out.c 1 _ rfl
  have lc := Kc8.out.lt
  go_wp2_with fail
  all_goals (try clear ca0 ca1 la cb0 cb1 lb cv0 cv1 lv cc0 cc1 lc)
  all_goals go_ret
  all_goals exact ⟨rfl, S8.out⟩


set_option maxHeartbeats 800000 in
theorem ClockShifts_no_in_b (oa da ob db x y : Int) (w : World) (had : ¬ adOk oa da x) (hva : Vc oa da) (hvb : Vc ob db) (t0 : 0 ≤ y) (t1 : y ≤ 1099511627776) :
    Calls Try.prog 12 #[.agg #[.int .i64 oa, .int .i64 da], .agg #[.int .i64 ob, .int .i64 db], .agg #[.int .i64 x, .int .i64 y]] w fun e w' => e = .returned (.bool true) ∧ Gr w w' := by
  have ba := rd_bd hva t0 t1
  have bb := rd_bd hvb t0 t1
  have e1 : (rd oa da y - rd ob db y == -(rd ob db y - rd oa da y)) = true := beq_iff_eq.2 (by omega)
  have HAD := Lib.hid had
  have HVA := Lib.hid hva
  have HVB := Lib.hid hvb
  clear had hva hvb
  go_enter Try.func12, Try.ntmps12
  go_wp2_with fail
  have g0 : Gr w ((((w).alloc (Obj.cells #[.int .i64 oa, .int .i64 da] 23)).alloc (Obj.cells #[.int .i64 ob, .int .i64 db] 23)).alloc (Obj.cells #[.int .i64 x, .int .i64 y] 57)) := Gr.alloc (Gr.alloc (Gr.alloc (Gr.refl w) _) _) _
  have ba : Bx ((((w).alloc (Obj.cells #[.int .i64 oa, .int .i64 da] 23)).alloc (Obj.cells #[.int .i64 ob, .int .i64 db] 23)).alloc (Obj.cells #[.int .i64 x, .int .i64 y] 57)) (w.heap.size) [.int .i64 oa, .int .i64 da] := Bx.gr (Bx.at_ (Bx.new (w) [.int .i64 oa, .int .i64 da] 23) (by simp)) (Gr.alloc (Gr.alloc (Gr.refl _) _) _)
  have bb : Bx ((((w).alloc (Obj.cells #[.int .i64 oa, .int .i64 da] 23)).alloc (Obj.cells #[.int .i64 ob, .int .i64 db] 23)).alloc (Obj.cells #[.int .i64 x, .int .i64 y] 57)) (w.heap.size + 1) [.int .i64 ob, .int .i64 db] := Bx.gr (Bx.at_ (Bx.new ((w).alloc (Obj.cells #[.int .i64 oa, .int .i64 da] 23)) [.int .i64 ob, .int .i64 db] 23) (by simp)) (Gr.alloc (Gr.refl _) _)
  have bv : Bx ((((w).alloc (Obj.cells #[.int .i64 oa, .int .i64 da] 23)).alloc (Obj.cells #[.int .i64 ob, .int .i64 db] 23)).alloc (Obj.cells #[.int .i64 x, .int .i64 y] 57)) (w.heap.size + 1 + 1) [.int .i64 x, .int .i64 y] := Bx.gr (Bx.at_ (Bx.new (((w).alloc (Obj.cells #[.int .i64 oa, .int .i64 da] 23)).alloc (Obj.cells #[.int .i64 ob, .int .i64 db] 23)) [.int .i64 x, .int .i64 y] 57) (by simp)) (Gr.refl _)
  generalize (((w).alloc (Obj.cells #[.int .i64 oa, .int .i64 da] 23)).alloc (Obj.cells #[.int .i64 ob, .int .i64 db] 23)).alloc (Obj.cells #[.int .i64 x, .int .i64 y] 57) = W at g0 ba bb bv ⊢
  have S0 := Lib.hid g0
  have Ka0 := Lib.hid ba
  have Kb0 := Lib.hid bb
  have Kv0 := Lib.hid bv
  clear g0 ba bb bv
  refine (awake08 _).mono ?_
  rintro e w1 ⟨rfl, hg⟩
  have S1 := Lib.hid (S0.out.trans hg)
  have Ka1 := Lib.hid (Ka0.out.gr hg)
  have Kb1 := Lib.hid (Kb0.out.gr hg)
  have Kv1 := Lib.hid (Kv0.out.gr hg)
  clear hg
  have ca0 := Ka1.out.c 0 _ rfl
  have ca1 := Ka1.out.c 1 _ rfl
  have la := Ka1.out.lt
  have cb0 := Kb1.out.c 0 _ rfl
  have cb1 := Kb1.out.c 1 _ rfl
  have lb := Kb1.out.lt
  have cv0 := Kv1.out.c 0 _ rfl
  have cv1 := Kv1.out.c 1 _ rfl
  have lv := Kv1.out.lt
  go_wp2_with fail
  all_goals (try clear ca0 ca1 la cb0 cb1 lb cv0 cv1 lv)
  have ca0 := Ka1.out.c 0 _ rfl
  have ca1 := Ka1.out.c 1 _ rfl
  have la := Ka1.out.lt
  have cb0 := Kb1.out.c 0 _ rfl
  have cb1 := Kb1.out.c 1 _ rfl
  have lb := Kb1.out.lt
  have cv0 := Kv1.out.c 0 _ rfl
  have cv1 := Kv1.out.c 1 _ rfl
  have lv := Kv1.out.lt
  go_quiet (fail)
  all_goals (try clear ca0 ca1 la cb0 cb1 lb cv0 cv1 lv)
  have g0 : Gr w1 (w1.drewN nq) := (Gr.refl _).drewN nq
  generalize w1.drewN nq = w2 at g0 ⊢
  have S2 := Lib.hid (S1.out.trans g0)
  have Ka2 := Lib.hid (Ka1.out.gr g0)
  have Kb2 := Lib.hid (Kb1.out.gr g0)
  have Kv2 := Lib.hid (Kv1.out.gr g0)
  clear g0
  have ca0 := Ka2.out.c 0 _ rfl
  have ca1 := Ka2.out.c 1 _ rfl
  have la := Ka2.out.lt
  have cb0 := Kb2.out.c 0 _ rfl
  have cb1 := Kb2.out.c 1 _ rfl
  have lb := Kb2.out.lt
  have cv0 := Kv2.out.c 0 _ rfl
  have cv1 := Kv2.out.c 1 _ rfl
  have lv := Kv2.out.lt
  go_wp2_with fail
  all_goals (try clear ca0 ca1 la cb0 cb1 lb cv0 cv1 lv)
  refine (Adjust_bad oa da x _ HAD.out).mono ?_
  rintro e w3 ⟨rfl, hg⟩
  have S3 := Lib.hid (S2.out.trans hg)
  have Ka3 := Lib.hid (Ka2.out.gr hg)
  have Kb3 := Lib.hid (Kb2.out.gr hg)
  have Kv3 := Lib.hid (Kv2.out.gr hg)
  clear hg
  have ca0 := Ka3.out.c 0 _ rfl
  have ca1 := Ka3.out.c 1 _ rfl
  have la := Ka3.out.lt
  have cb0 := Kb3.out.c 0 _ rfl
  have cb1 := Kb3.out.c 1 _ rfl
  have lb := Kb3.out.lt
  have cv0 := Kv3.out.c 0 _ rfl
  have cv1 := Kv3.out.c 1 _ rfl
  have lv := Kv3.out.lt
  go_wp2_with fail
  all_goals (try clear ca0 ca1 la cb0 cb1 lb cv0 cv1 lv)
  have g0 : Gr w3 ((w3).alloc (Obj.cells #[.int .i64 0, .int .i64 0] 23)) := Gr.alloc (Gr.refl w3) _
  have bc : Bx ((w3).alloc (Obj.cells #[.int .i64 0, .int .i64 0] 23)) (w3.heap.size) [.int .i64 0, .int .i64 0] := Bx.gr (Bx.at_ (Bx.new (w3) [.int .i64 0, .int .i64 0] 23) (by simp)) (Gr.refl _)
  generalize (w3).alloc (Obj.cells #[.int .i64 0, .int .i64 0] 23) = w4 at g0 bc ⊢
  have S4 := Lib.hid (S3.out.trans g0)
  have Ka4 := Lib.hid (Ka3.out.gr g0)
  have Kb4 := Lib.hid (Kb3.out.gr g0)
  have Kv4 := Lib.hid (Kv3.out.gr g0)
  have Kc4 := Lib.hid bc
  clear g0 bc
  have ca0 := Ka4.out.c 0 _ rfl
  have ca1 := Ka4.out.c 1 _ rfl
  have la := Ka4.out.lt
  have cb0 := Kb4.out.c 0 _ rfl
  have cb1 := Kb4.out.c 1 _ rfl
  have lb := Kb4.out.lt
  have cv0 := Kv4.out.c 0 _ rfl
  have cv1 := Kv4.out.c 1 _ rfl
  have lv := Kv4.out.lt
  have cc0 := Kc4.out.c 0 _ rfl
  have cc1 := Kc4.out.c 1 _ rfl
  have lc := Kc4.out.lt
  go_wp2_with fail
  all_goals (try clear ca0 ca1 la cb0 cb1 lb cv0 cv1 lv cc0 cc1 lc)
  refine (show_ok oa da y _ HVA.out t0 t1).mono ?_
  rintro e w5 ⟨rfl, hg⟩
  have S5 := Lib.hid (S4.out.trans hg)
  have Ka5 := Lib.hid (Ka4.out.gr hg)
  have Kb5 := Lib.hid (Kb4.out.gr hg)
  have Kv5 := Lib.hid (Kv4.out.gr hg)
  have Kc5 := Lib.hid (Kc4.out.gr hg)
  clear hg
  have ca0 := Ka5.out.c 0 _ rfl
  have ca1 := Ka5.out.c 1 _ rfl
  have la := Ka5.out.lt
  have cb0 := Kb5.out.c 0 _ rfl
  have cb1 := Kb5.out.c 1 _ rfl
  have lb := Kb5.out.lt
  have cv0 := Kv5.out.c 0 _ rfl
  have cv1 := Kv5.out.c 1 _ rfl
  have lv := Kv5.out.lt
  have cc0 := Kc5.out.c 0 _ rfl
  have cc1 := Kc5.out.c 1 _ rfl
  have lc := Kc5.out.lt
  go_wp2_with fail
  all_goals (try clear ca0 ca1 la cb0 cb1 lb cv0 cv1 lv cc0 cc1 lc)
  refine (Apart_ok oa da ob db y _ HVA.out HVB.out t0 t1).mono ?_
  rintro e w6 ⟨rfl, hg⟩
  have S6 := Lib.hid (S5.out.trans hg)
  have Ka6 := Lib.hid (Ka5.out.gr hg)
  have Kb6 := Lib.hid (Kb5.out.gr hg)
  have Kv6 := Lib.hid (Kv5.out.gr hg)
  have Kc6 := Lib.hid (Kc5.out.gr hg)
  clear hg
  have ca0 := Ka6.out.c 0 _ rfl
  have ca1 := Ka6.out.c 1 _ rfl
  have la := Ka6.out.lt
  have cb0 := Kb6.out.c 0 _ rfl
  have cb1 := Kb6.out.c 1 _ rfl
  have lb := Kb6.out.lt
  have cv0 := Kv6.out.c 0 _ rfl
  have cv1 := Kv6.out.c 1 _ rfl
  have lv := Kv6.out.lt
  have cc0 := Kc6.out.c 0 _ rfl
  have cc1 := Kc6.out.c 1 _ rfl
  have lc := Kc6.out.lt
  go_wp2_with fail
  all_goals (try clear ca0 ca1 la cb0 cb1 lb cv0 cv1 lv cc0 cc1 lc)
  refine (Apart_ok ob db oa da y _ HVB.out HVA.out t0 t1).mono ?_
  rintro e w7 ⟨rfl, hg⟩
  have S7 := Lib.hid (S6.out.trans hg)
  have Ka7 := Lib.hid (Ka6.out.gr hg)
  have Kb7 := Lib.hid (Kb6.out.gr hg)
  have Kv7 := Lib.hid (Kv6.out.gr hg)
  have Kc7 := Lib.hid (Kc6.out.gr hg)
  clear hg
  have ca0 := Ka7.out.c 0 _ rfl
  have ca1 := Ka7.out.c 1 _ rfl
  have la := Ka7.out.lt
  have cb0 := Kb7.out.c 0 _ rfl
  have cb1 := Kb7.out.c 1 _ rfl
  have lb := Kb7.out.lt
  have cv0 := Kv7.out.c 0 _ rfl
  have cv1 := Kv7.out.c 1 _ rfl
  have lv := Kv7.out.lt
  have cc0 := Kc7.out.c 0 _ rfl
  have cc1 := Kc7.out.c 1 _ rfl
  have lc := Kc7.out.lt
  go_wp2_with fail
  all_goals (try clear ca0 ca1 la cb0 cb1 lb cv0 cv1 lv cc0 cc1 lc)
  refine (show_ok ob db y _ HVB.out t0 t1).mono ?_
  rintro e w8 ⟨rfl, hg⟩
  have S8 := Lib.hid (S7.out.trans hg)
  have Ka8 := Lib.hid (Ka7.out.gr hg)
  have Kb8 := Lib.hid (Kb7.out.gr hg)
  have Kv8 := Lib.hid (Kv7.out.gr hg)
  have Kc8 := Lib.hid (Kc7.out.gr hg)
  clear hg
  have ca0 := Ka8.out.c 0 _ rfl
  have ca1 := Ka8.out.c 1 _ rfl
  have la := Ka8.out.lt
  have cb0 := Kb8.out.c 0 _ rfl
  have cb1 := Kb8.out.c 1 _ rfl
  have lb := Kb8.out.lt
  have cv0 := Kv8.out.c 0 _ rfl
  have cv1 := Kv8.out.c 1 _ rfl
  have lv := Kv8.out.lt
  have cc0 := Kc8.out.c 0 _ rfl
  have cc1 := Kc8.out.c 1 _ rfl
  have lc := Kc8.out.lt
  go_wp2_with fail
  all_goals (try clear ca0 ca1 la cb0 cb1 lb cv0 cv1 lv cc0 cc1 lc)
  all_goals go_ret
  all_goals exact ⟨rfl, S8.out⟩


set_option maxHeartbeats 800000 in
theorem ClockShifts_no_in_n (oa da ob db x y : Int) (w : World) (had : ¬ adOk oa da x) (hva : Vc oa da) (hvb : ¬ Vc ob db) (t0 : 0 ≤ y) (t1 : y ≤ 1099511627776) :
    Calls Try.prog 12 #[.agg #[.int .i64 oa, .int .i64 da], .agg #[.int .i64 ob, .int .i64 db], .agg #[.int .i64 x, .int .i64 y]] w fun e w' => e = .returned (.bool true) ∧ Gr w w' := by
  have ba := rd_bd hva t0 t1
  have HAD := Lib.hid had
  have HVA := Lib.hid hva
  have HVB := Lib.hid hvb
  clear had hva hvb
  go_enter Try.func12, Try.ntmps12
  go_wp2_with fail
  have g0 : Gr w ((((w).alloc (Obj.cells #[.int .i64 oa, .int .i64 da] 23)).alloc (Obj.cells #[.int .i64 ob, .int .i64 db] 23)).alloc (Obj.cells #[.int .i64 x, .int .i64 y] 57)) := Gr.alloc (Gr.alloc (Gr.alloc (Gr.refl w) _) _) _
  have ba : Bx ((((w).alloc (Obj.cells #[.int .i64 oa, .int .i64 da] 23)).alloc (Obj.cells #[.int .i64 ob, .int .i64 db] 23)).alloc (Obj.cells #[.int .i64 x, .int .i64 y] 57)) (w.heap.size) [.int .i64 oa, .int .i64 da] := Bx.gr (Bx.at_ (Bx.new (w) [.int .i64 oa, .int .i64 da] 23) (by simp)) (Gr.alloc (Gr.alloc (Gr.refl _) _) _)
  have bb : Bx ((((w).alloc (Obj.cells #[.int .i64 oa, .int .i64 da] 23)).alloc (Obj.cells #[.int .i64 ob, .int .i64 db] 23)).alloc (Obj.cells #[.int .i64 x, .int .i64 y] 57)) (w.heap.size + 1) [.int .i64 ob, .int .i64 db] := Bx.gr (Bx.at_ (Bx.new ((w).alloc (Obj.cells #[.int .i64 oa, .int .i64 da] 23)) [.int .i64 ob, .int .i64 db] 23) (by simp)) (Gr.alloc (Gr.refl _) _)
  have bv : Bx ((((w).alloc (Obj.cells #[.int .i64 oa, .int .i64 da] 23)).alloc (Obj.cells #[.int .i64 ob, .int .i64 db] 23)).alloc (Obj.cells #[.int .i64 x, .int .i64 y] 57)) (w.heap.size + 1 + 1) [.int .i64 x, .int .i64 y] := Bx.gr (Bx.at_ (Bx.new (((w).alloc (Obj.cells #[.int .i64 oa, .int .i64 da] 23)).alloc (Obj.cells #[.int .i64 ob, .int .i64 db] 23)) [.int .i64 x, .int .i64 y] 57) (by simp)) (Gr.refl _)
  generalize (((w).alloc (Obj.cells #[.int .i64 oa, .int .i64 da] 23)).alloc (Obj.cells #[.int .i64 ob, .int .i64 db] 23)).alloc (Obj.cells #[.int .i64 x, .int .i64 y] 57) = W at g0 ba bb bv ⊢
  have S0 := Lib.hid g0
  have Ka0 := Lib.hid ba
  have Kb0 := Lib.hid bb
  have Kv0 := Lib.hid bv
  clear g0 ba bb bv
  refine (awake08 _).mono ?_
  rintro e w1 ⟨rfl, hg⟩
  have S1 := Lib.hid (S0.out.trans hg)
  have Ka1 := Lib.hid (Ka0.out.gr hg)
  have Kb1 := Lib.hid (Kb0.out.gr hg)
  have Kv1 := Lib.hid (Kv0.out.gr hg)
  clear hg
  have ca0 := Ka1.out.c 0 _ rfl
  have ca1 := Ka1.out.c 1 _ rfl
  have la := Ka1.out.lt
  have cb0 := Kb1.out.c 0 _ rfl
  have cb1 := Kb1.out.c 1 _ rfl
  have lb := Kb1.out.lt
  have cv0 := Kv1.out.c 0 _ rfl
  have cv1 := Kv1.out.c 1 _ rfl
  have lv := Kv1.out.lt
  go_wp2_with fail
  all_goals (try clear ca0 ca1 la cb0 cb1 lb cv0 cv1 lv)
  have ca0 := Ka1.out.c 0 _ rfl
  have ca1 := Ka1.out.c 1 _ rfl
  have la := Ka1.out.lt
  have cb0 := Kb1.out.c 0 _ rfl
  have cb1 := Kb1.out.c 1 _ rfl
  have lb := Kb1.out.lt
  have cv0 := Kv1.out.c 0 _ rfl
  have cv1 := Kv1.out.c 1 _ rfl
  have lv := Kv1.out.lt
  go_quiet (fail)
  all_goals (try clear ca0 ca1 la cb0 cb1 lb cv0 cv1 lv)
  have g0 : Gr w1 (w1.drewN nq) := (Gr.refl _).drewN nq
  generalize w1.drewN nq = w2 at g0 ⊢
  have S2 := Lib.hid (S1.out.trans g0)
  have Ka2 := Lib.hid (Ka1.out.gr g0)
  have Kb2 := Lib.hid (Kb1.out.gr g0)
  have Kv2 := Lib.hid (Kv1.out.gr g0)
  clear g0
  have ca0 := Ka2.out.c 0 _ rfl
  have ca1 := Ka2.out.c 1 _ rfl
  have la := Ka2.out.lt
  have cb0 := Kb2.out.c 0 _ rfl
  have cb1 := Kb2.out.c 1 _ rfl
  have lb := Kb2.out.lt
  have cv0 := Kv2.out.c 0 _ rfl
  have cv1 := Kv2.out.c 1 _ rfl
  have lv := Kv2.out.lt
  go_wp2_with fail
  all_goals (try clear ca0 ca1 la cb0 cb1 lb cv0 cv1 lv)
  refine (Adjust_bad oa da x _ HAD.out).mono ?_
  rintro e w3 ⟨rfl, hg⟩
  have S3 := Lib.hid (S2.out.trans hg)
  have Ka3 := Lib.hid (Ka2.out.gr hg)
  have Kb3 := Lib.hid (Kb2.out.gr hg)
  have Kv3 := Lib.hid (Kv2.out.gr hg)
  clear hg
  have ca0 := Ka3.out.c 0 _ rfl
  have ca1 := Ka3.out.c 1 _ rfl
  have la := Ka3.out.lt
  have cb0 := Kb3.out.c 0 _ rfl
  have cb1 := Kb3.out.c 1 _ rfl
  have lb := Kb3.out.lt
  have cv0 := Kv3.out.c 0 _ rfl
  have cv1 := Kv3.out.c 1 _ rfl
  have lv := Kv3.out.lt
  go_wp2_with fail
  all_goals (try clear ca0 ca1 la cb0 cb1 lb cv0 cv1 lv)
  have g0 : Gr w3 ((w3).alloc (Obj.cells #[.int .i64 0, .int .i64 0] 23)) := Gr.alloc (Gr.refl w3) _
  have bc : Bx ((w3).alloc (Obj.cells #[.int .i64 0, .int .i64 0] 23)) (w3.heap.size) [.int .i64 0, .int .i64 0] := Bx.gr (Bx.at_ (Bx.new (w3) [.int .i64 0, .int .i64 0] 23) (by simp)) (Gr.refl _)
  generalize (w3).alloc (Obj.cells #[.int .i64 0, .int .i64 0] 23) = w4 at g0 bc ⊢
  have S4 := Lib.hid (S3.out.trans g0)
  have Ka4 := Lib.hid (Ka3.out.gr g0)
  have Kb4 := Lib.hid (Kb3.out.gr g0)
  have Kv4 := Lib.hid (Kv3.out.gr g0)
  have Kc4 := Lib.hid bc
  clear g0 bc
  have ca0 := Ka4.out.c 0 _ rfl
  have ca1 := Ka4.out.c 1 _ rfl
  have la := Ka4.out.lt
  have cb0 := Kb4.out.c 0 _ rfl
  have cb1 := Kb4.out.c 1 _ rfl
  have lb := Kb4.out.lt
  have cv0 := Kv4.out.c 0 _ rfl
  have cv1 := Kv4.out.c 1 _ rfl
  have lv := Kv4.out.lt
  have cc0 := Kc4.out.c 0 _ rfl
  have cc1 := Kc4.out.c 1 _ rfl
  have lc := Kc4.out.lt
  go_wp2_with fail
  all_goals (try clear ca0 ca1 la cb0 cb1 lb cv0 cv1 lv cc0 cc1 lc)
  refine (show_ok oa da y _ HVA.out t0 t1).mono ?_
  rintro e w5 ⟨rfl, hg⟩
  have S5 := Lib.hid (S4.out.trans hg)
  have Ka5 := Lib.hid (Ka4.out.gr hg)
  have Kb5 := Lib.hid (Kb4.out.gr hg)
  have Kv5 := Lib.hid (Kv4.out.gr hg)
  have Kc5 := Lib.hid (Kc4.out.gr hg)
  clear hg
  have ca0 := Ka5.out.c 0 _ rfl
  have ca1 := Ka5.out.c 1 _ rfl
  have la := Ka5.out.lt
  have cb0 := Kb5.out.c 0 _ rfl
  have cb1 := Kb5.out.c 1 _ rfl
  have lb := Kb5.out.lt
  have cv0 := Kv5.out.c 0 _ rfl
  have cv1 := Kv5.out.c 1 _ rfl
  have lv := Kv5.out.lt
  have cc0 := Kc5.out.c 0 _ rfl
  have cc1 := Kc5.out.c 1 _ rfl
  have lc := Kc5.out.lt
  go_wp2_with fail
  all_goals (try clear ca0 ca1 la cb0 cb1 lb cv0 cv1 lv cc0 cc1 lc)
  refine (Apart_bad oa da ob db y _ (fun h => HVB.out h.2)).mono ?_
  rintro e w6 ⟨rfl, hg⟩
  have S6 := Lib.hid (S5.out.trans hg)
  have Ka6 := Lib.hid (Ka5.out.gr hg)
  have Kb6 := Lib.hid (Kb5.out.gr hg)
  have Kv6 := Lib.hid (Kv5.out.gr hg)
  have Kc6 := Lib.hid (Kc5.out.gr hg)
  clear hg
  have ca0 := Ka6.out.c 0 _ rfl
  have ca1 := Ka6.out.c 1 _ rfl
  have la := Ka6.out.lt
  have cb0 := Kb6.out.c 0 _ rfl
  have cb1 := Kb6.out.c 1 _ rfl
  have lb := Kb6.out.lt
  have cv0 := Kv6.out.c 0 _ rfl
  have cv1 := Kv6.out.c 1 _ rfl
  have lv := Kv6.out.lt
  have cc0 := Kc6.out.c 0 _ rfl
  have cc1 := Kc6.out.c 1 _ rfl
  have lc := Kc6.out.lt
  go_wp2_with fail
  all_goals (try clear ca0 ca1 la cb0 cb1 lb cv0 cv1 lv cc0 cc1 lc)
  refine (Apart_bad ob db oa da y _ (fun h => HVB.out h.1)).mono ?_
  rintro e w7 ⟨rfl, hg⟩
  have S7 := Lib.hid (S6.out.trans hg)
  have Ka7 := Lib.hid (Ka6.out.gr hg)
  have Kb7 := Lib.hid (Kb6.out.gr hg)
  have Kv7 := Lib.hid (Kv6.out.gr hg)
  have Kc7 := Lib.hid (Kc6.out.gr hg)
  clear hg
  have ca0 := Ka7.out.c 0 _ rfl
  have ca1 := Ka7.out.c 1 _ rfl
  have la := Ka7.out.lt
  have cb0 := Kb7.out.c 0 _ rfl
  have cb1 := Kb7.out.c 1 _ rfl
  have lb := Kb7.out.lt
  have cv0 := Kv7.out.c 0 _ rfl
  have cv1 := Kv7.out.c 1 _ rfl
  have lv := Kv7.out.lt
  have cc0 := Kc7.out.c 0 _ rfl
  have cc1 := Kc7.out.c 1 _ rfl
  have lc := Kc7.out.lt
  go_wp2_with fail
  all_goals (try clear ca0 ca1 la cb0 cb1 lb cv0 cv1 lv cc0 cc1 lc)
  refine (show_any ob db y _).mono ?_
  rintro e w8 ⟨rfl, hg⟩
  have S8 := Lib.hid (S7.out.trans hg)
  have Ka8 := Lib.hid (Ka7.out.gr hg)
  have Kb8 := Lib.hid (Kb7.out.gr hg)
  have Kv8 := Lib.hid (Kv7.out.gr hg)
  have Kc8 := Lib.hid (Kc7.out.gr hg)
  clear hg
  have ca0 := Ka8.out.c 0 _ rfl
  have ca1 := Ka8.out.c 1 _ rfl
  have la := Ka8.out.lt
  have cb0 := Kb8.out.c 0 _ rfl
  have cb1 := Kb8.out.c 1 _ rfl
  have lb := Kb8.out.lt
  have cv0 := Kv8.out.c 0 _ rfl
  have cv1 := Kv8.out.c 1 _ rfl
  have lv := Kv8.out.lt
  have cc0 := Kc8.out.c 0 _ rfl
  have cc1 := Kc8.out.c 1 _ rfl
  have lc := Kc8.out.lt
  go_wp2_with fail
  all_goals (try clear ca0 ca1 la cb0 cb1 lb cv0 cv1 lv cc0 cc1 lc)
  all_goals go_ret
  all_goals exact ⟨rfl, S8.out⟩


set_option maxHeartbeats 800000 in
theorem ClockShifts_no_out_b (oa da ob db x y : Int) (w : World) (had : ¬ adOk oa da x) (hva : Vc oa da) (hvb : Vc ob db) (ht : ¬ (0 ≤ y ∧ y ≤ 1099511627776)) :
    Calls Try.prog 12 #[.agg #[.int .i64 oa, .int .i64 da], .agg #[.int .i64 ob, .int .i64 db], .agg #[.int .i64 x, .int .i64 y]] w fun e w' => e = .returned (.bool true) ∧ Gr w w' := by
  have HAD := Lib.hid had
  have HVA := Lib.hid hva
  have HVB := Lib.hid hvb
  have HT := Lib.hid ht
  clear had hva hvb ht
  go_enter Try.func12, Try.ntmps12
  go_wp2_with fail
  have g0 : Gr w ((((w).alloc (Obj.cells #[.int .i64 oa, .int .i64 da] 23)).alloc (Obj.cells #[.int .i64 ob, .int .i64 db] 23)).alloc (Obj.cells #[.int .i64 x, .int .i64 y] 57)) := Gr.alloc (Gr.alloc (Gr.alloc (Gr.refl w) _) _) _
  have ba : Bx ((((w).alloc (Obj.cells #[.int .i64 oa, .int .i64 da] 23)).alloc (Obj.cells #[.int .i64 ob, .int .i64 db] 23)).alloc (Obj.cells #[.int .i64 x, .int .i64 y] 57)) (w.heap.size) [.int .i64 oa, .int .i64 da] := Bx.gr (Bx.at_ (Bx.new (w) [.int .i64 oa, .int .i64 da] 23) (by simp)) (Gr.alloc (Gr.alloc (Gr.refl _) _) _)
  have bb : Bx ((((w).alloc (Obj.cells #[.int .i64 oa, .int .i64 da] 23)).alloc (Obj.cells #[.int .i64 ob, .int .i64 db] 23)).alloc (Obj.cells #[.int .i64 x, .int .i64 y] 57)) (w.heap.size + 1) [.int .i64 ob, .int .i64 db] := Bx.gr (Bx.at_ (Bx.new ((w).alloc (Obj.cells #[.int .i64 oa, .int .i64 da] 23)) [.int .i64 ob, .int .i64 db] 23) (by simp)) (Gr.alloc (Gr.refl _) _)
  have bv : Bx ((((w).alloc (Obj.cells #[.int .i64 oa, .int .i64 da] 23)).alloc (Obj.cells #[.int .i64 ob, .int .i64 db] 23)).alloc (Obj.cells #[.int .i64 x, .int .i64 y] 57)) (w.heap.size + 1 + 1) [.int .i64 x, .int .i64 y] := Bx.gr (Bx.at_ (Bx.new (((w).alloc (Obj.cells #[.int .i64 oa, .int .i64 da] 23)).alloc (Obj.cells #[.int .i64 ob, .int .i64 db] 23)) [.int .i64 x, .int .i64 y] 57) (by simp)) (Gr.refl _)
  generalize (((w).alloc (Obj.cells #[.int .i64 oa, .int .i64 da] 23)).alloc (Obj.cells #[.int .i64 ob, .int .i64 db] 23)).alloc (Obj.cells #[.int .i64 x, .int .i64 y] 57) = W at g0 ba bb bv ⊢
  have S0 := Lib.hid g0
  have Ka0 := Lib.hid ba
  have Kb0 := Lib.hid bb
  have Kv0 := Lib.hid bv
  clear g0 ba bb bv
  refine (awake08 _).mono ?_
  rintro e w1 ⟨rfl, hg⟩
  have S1 := Lib.hid (S0.out.trans hg)
  have Ka1 := Lib.hid (Ka0.out.gr hg)
  have Kb1 := Lib.hid (Kb0.out.gr hg)
  have Kv1 := Lib.hid (Kv0.out.gr hg)
  clear hg
  have ca0 := Ka1.out.c 0 _ rfl
  have ca1 := Ka1.out.c 1 _ rfl
  have la := Ka1.out.lt
  have cb0 := Kb1.out.c 0 _ rfl
  have cb1 := Kb1.out.c 1 _ rfl
  have lb := Kb1.out.lt
  have cv0 := Kv1.out.c 0 _ rfl
  have cv1 := Kv1.out.c 1 _ rfl
  have lv := Kv1.out.lt
  go_wp2_with fail
  all_goals (try clear ca0 ca1 la cb0 cb1 lb cv0 cv1 lv)
  have ca0 := Ka1.out.c 0 _ rfl
  have ca1 := Ka1.out.c 1 _ rfl
  have la := Ka1.out.lt
  have cb0 := Kb1.out.c 0 _ rfl
  have cb1 := Kb1.out.c 1 _ rfl
  have lb := Kb1.out.lt
  have cv0 := Kv1.out.c 0 _ rfl
  have cv1 := Kv1.out.c 1 _ rfl
  have lv := Kv1.out.lt
  go_quiet (fail)
  all_goals (try clear ca0 ca1 la cb0 cb1 lb cv0 cv1 lv)
  have g0 : Gr w1 (w1.drewN nq) := (Gr.refl _).drewN nq
  generalize w1.drewN nq = w2 at g0 ⊢
  have S2 := Lib.hid (S1.out.trans g0)
  have Ka2 := Lib.hid (Ka1.out.gr g0)
  have Kb2 := Lib.hid (Kb1.out.gr g0)
  have Kv2 := Lib.hid (Kv1.out.gr g0)
  clear g0
  have ca0 := Ka2.out.c 0 _ rfl
  have ca1 := Ka2.out.c 1 _ rfl
  have la := Ka2.out.lt
  have cb0 := Kb2.out.c 0 _ rfl
  have cb1 := Kb2.out.c 1 _ rfl
  have lb := Kb2.out.lt
  have cv0 := Kv2.out.c 0 _ rfl
  have cv1 := Kv2.out.c 1 _ rfl
  have lv := Kv2.out.lt
  go_wp2_with fail
  all_goals (try clear ca0 ca1 la cb0 cb1 lb cv0 cv1 lv)
  refine (Adjust_bad oa da x _ HAD.out).mono ?_
  rintro e w3 ⟨rfl, hg⟩
  have S3 := Lib.hid (S2.out.trans hg)
  have Ka3 := Lib.hid (Ka2.out.gr hg)
  have Kb3 := Lib.hid (Kb2.out.gr hg)
  have Kv3 := Lib.hid (Kv2.out.gr hg)
  clear hg
  have ca0 := Ka3.out.c 0 _ rfl
  have ca1 := Ka3.out.c 1 _ rfl
  have la := Ka3.out.lt
  have cb0 := Kb3.out.c 0 _ rfl
  have cb1 := Kb3.out.c 1 _ rfl
  have lb := Kb3.out.lt
  have cv0 := Kv3.out.c 0 _ rfl
  have cv1 := Kv3.out.c 1 _ rfl
  have lv := Kv3.out.lt
  go_wp2_with fail
  all_goals (try clear ca0 ca1 la cb0 cb1 lb cv0 cv1 lv)
  have g0 : Gr w3 ((w3).alloc (Obj.cells #[.int .i64 0, .int .i64 0] 23)) := Gr.alloc (Gr.refl w3) _
  have bc : Bx ((w3).alloc (Obj.cells #[.int .i64 0, .int .i64 0] 23)) (w3.heap.size) [.int .i64 0, .int .i64 0] := Bx.gr (Bx.at_ (Bx.new (w3) [.int .i64 0, .int .i64 0] 23) (by simp)) (Gr.refl _)
  generalize (w3).alloc (Obj.cells #[.int .i64 0, .int .i64 0] 23) = w4 at g0 bc ⊢
  have S4 := Lib.hid (S3.out.trans g0)
  have Ka4 := Lib.hid (Ka3.out.gr g0)
  have Kb4 := Lib.hid (Kb3.out.gr g0)
  have Kv4 := Lib.hid (Kv3.out.gr g0)
  have Kc4 := Lib.hid bc
  clear g0 bc
  have ca0 := Ka4.out.c 0 _ rfl
  have ca1 := Ka4.out.c 1 _ rfl
  have la := Ka4.out.lt
  have cb0 := Kb4.out.c 0 _ rfl
  have cb1 := Kb4.out.c 1 _ rfl
  have lb := Kb4.out.lt
  have cv0 := Kv4.out.c 0 _ rfl
  have cv1 := Kv4.out.c 1 _ rfl
  have lv := Kv4.out.lt
  have cc0 := Kc4.out.c 0 _ rfl
  have cc1 := Kc4.out.c 1 _ rfl
  have lc := Kc4.out.lt
  go_wp2_with fail
  all_goals (try clear ca0 ca1 la cb0 cb1 lb cv0 cv1 lv cc0 cc1 lc)
  refine (show_range oa da y _ HVA.out HT.out).mono ?_
  rintro e w5 ⟨rfl, hg⟩
  have S5 := Lib.hid (S4.out.trans hg)
  have Ka5 := Lib.hid (Ka4.out.gr hg)
  have Kb5 := Lib.hid (Kb4.out.gr hg)
  have Kv5 := Lib.hid (Kv4.out.gr hg)
  have Kc5 := Lib.hid (Kc4.out.gr hg)
  clear hg
  have ca0 := Ka5.out.c 0 _ rfl
  have ca1 := Ka5.out.c 1 _ rfl
  have la := Ka5.out.lt
  have cb0 := Kb5.out.c 0 _ rfl
  have cb1 := Kb5.out.c 1 _ rfl
  have lb := Kb5.out.lt
  have cv0 := Kv5.out.c 0 _ rfl
  have cv1 := Kv5.out.c 1 _ rfl
  have lv := Kv5.out.lt
  have cc0 := Kc5.out.c 0 _ rfl
  have cc1 := Kc5.out.c 1 _ rfl
  have lc := Kc5.out.lt
  go_wp2_with fail
  all_goals (try clear ca0 ca1 la cb0 cb1 lb cv0 cv1 lv cc0 cc1 lc)
  refine (Apart_range oa da ob db y _ HVA.out HVB.out HT.out).mono ?_
  rintro e w6 ⟨rfl, hg⟩
  have S6 := Lib.hid (S5.out.trans hg)
  have Ka6 := Lib.hid (Ka5.out.gr hg)
  have Kb6 := Lib.hid (Kb5.out.gr hg)
  have Kv6 := Lib.hid (Kv5.out.gr hg)
  have Kc6 := Lib.hid (Kc5.out.gr hg)
  clear hg
  have ca0 := Ka6.out.c 0 _ rfl
  have ca1 := Ka6.out.c 1 _ rfl
  have la := Ka6.out.lt
  have cb0 := Kb6.out.c 0 _ rfl
  have cb1 := Kb6.out.c 1 _ rfl
  have lb := Kb6.out.lt
  have cv0 := Kv6.out.c 0 _ rfl
  have cv1 := Kv6.out.c 1 _ rfl
  have lv := Kv6.out.lt
  have cc0 := Kc6.out.c 0 _ rfl
  have cc1 := Kc6.out.c 1 _ rfl
  have lc := Kc6.out.lt
  go_wp2_with fail
  all_goals (try clear ca0 ca1 la cb0 cb1 lb cv0 cv1 lv cc0 cc1 lc)
  refine (Apart_range ob db oa da y _ HVB.out HVA.out HT.out).mono ?_
  rintro e w7 ⟨rfl, hg⟩
  have S7 := Lib.hid (S6.out.trans hg)
  have Ka7 := Lib.hid (Ka6.out.gr hg)
  have Kb7 := Lib.hid (Kb6.out.gr hg)
  have Kv7 := Lib.hid (Kv6.out.gr hg)
  have Kc7 := Lib.hid (Kc6.out.gr hg)
  clear hg
  have ca0 := Ka7.out.c 0 _ rfl
  have ca1 := Ka7.out.c 1 _ rfl
  have la := Ka7.out.lt
  have cb0 := Kb7.out.c 0 _ rfl
  have cb1 := Kb7.out.c 1 _ rfl
  have lb := Kb7.out.lt
  have cv0 := Kv7.out.c 0 _ rfl
  have cv1 := Kv7.out.c 1 _ rfl
  have lv := Kv7.out.lt
  have cc0 := Kc7.out.c 0 _ rfl
  have cc1 := Kc7.out.c 1 _ rfl
  have lc := Kc7.out.lt
  go_wp2_with fail
  all_goals (try clear ca0 ca1 la cb0 cb1 lb cv0 cv1 lv cc0 cc1 lc)
  refine (show_range ob db y _ HVB.out HT.out).mono ?_
  rintro e w8 ⟨rfl, hg⟩
  have S8 := Lib.hid (S7.out.trans hg)
  have Ka8 := Lib.hid (Ka7.out.gr hg)
  have Kb8 := Lib.hid (Kb7.out.gr hg)
  have Kv8 := Lib.hid (Kv7.out.gr hg)
  have Kc8 := Lib.hid (Kc7.out.gr hg)
  clear hg
  have ca0 := Ka8.out.c 0 _ rfl
  have ca1 := Ka8.out.c 1 _ rfl
  have la := Ka8.out.lt
  have cb0 := Kb8.out.c 0 _ rfl
  have cb1 := Kb8.out.c 1 _ rfl
  have lb := Kb8.out.lt
  have cv0 := Kv8.out.c 0 _ rfl
  have cv1 := Kv8.out.c 1 _ rfl
  have lv := Kv8.out.lt
  have cc0 := Kc8.out.c 0 _ rfl
  have cc1 := Kc8.out.c 1 _ rfl
  have lc := Kc8.out.lt
  go_wp2_with fail
  all_goals (try clear ca0 ca1 la cb0 cb1 lb cv0 cv1 lv cc0 cc1 lc)
  all_goals go_ret
  all_goals exact ⟨rfl, S8.out⟩


set_option maxHeartbeats 800000 in
theorem ClockShifts_no_out_n (oa da ob db x y : Int) (w : World) (had : ¬ adOk oa da x) (hva : Vc oa da) (hvb : ¬ Vc ob db) (ht : ¬ (0 ≤ y ∧ y ≤ 1099511627776)) :
    Calls Try.prog 12 #[.agg #[.int .i64 oa, .int .i64 da], .agg #[.int .i64 ob, .int .i64 db], .agg #[.int .i64 x, .int .i64 y]] w fun e w' => e = .returned (.bool true) ∧ Gr w w' := by
  have HAD := Lib.hid had
  have HVA := Lib.hid hva
  have HVB := Lib.hid hvb
  have HT := Lib.hid ht
  clear had hva hvb ht
  go_enter Try.func12, Try.ntmps12
  go_wp2_with fail
  have g0 : Gr w ((((w).alloc (Obj.cells #[.int .i64 oa, .int .i64 da] 23)).alloc (Obj.cells #[.int .i64 ob, .int .i64 db] 23)).alloc (Obj.cells #[.int .i64 x, .int .i64 y] 57)) := Gr.alloc (Gr.alloc (Gr.alloc (Gr.refl w) _) _) _
  have ba : Bx ((((w).alloc (Obj.cells #[.int .i64 oa, .int .i64 da] 23)).alloc (Obj.cells #[.int .i64 ob, .int .i64 db] 23)).alloc (Obj.cells #[.int .i64 x, .int .i64 y] 57)) (w.heap.size) [.int .i64 oa, .int .i64 da] := Bx.gr (Bx.at_ (Bx.new (w) [.int .i64 oa, .int .i64 da] 23) (by simp)) (Gr.alloc (Gr.alloc (Gr.refl _) _) _)
  have bb : Bx ((((w).alloc (Obj.cells #[.int .i64 oa, .int .i64 da] 23)).alloc (Obj.cells #[.int .i64 ob, .int .i64 db] 23)).alloc (Obj.cells #[.int .i64 x, .int .i64 y] 57)) (w.heap.size + 1) [.int .i64 ob, .int .i64 db] := Bx.gr (Bx.at_ (Bx.new ((w).alloc (Obj.cells #[.int .i64 oa, .int .i64 da] 23)) [.int .i64 ob, .int .i64 db] 23) (by simp)) (Gr.alloc (Gr.refl _) _)
  have bv : Bx ((((w).alloc (Obj.cells #[.int .i64 oa, .int .i64 da] 23)).alloc (Obj.cells #[.int .i64 ob, .int .i64 db] 23)).alloc (Obj.cells #[.int .i64 x, .int .i64 y] 57)) (w.heap.size + 1 + 1) [.int .i64 x, .int .i64 y] := Bx.gr (Bx.at_ (Bx.new (((w).alloc (Obj.cells #[.int .i64 oa, .int .i64 da] 23)).alloc (Obj.cells #[.int .i64 ob, .int .i64 db] 23)) [.int .i64 x, .int .i64 y] 57) (by simp)) (Gr.refl _)
  generalize (((w).alloc (Obj.cells #[.int .i64 oa, .int .i64 da] 23)).alloc (Obj.cells #[.int .i64 ob, .int .i64 db] 23)).alloc (Obj.cells #[.int .i64 x, .int .i64 y] 57) = W at g0 ba bb bv ⊢
  have S0 := Lib.hid g0
  have Ka0 := Lib.hid ba
  have Kb0 := Lib.hid bb
  have Kv0 := Lib.hid bv
  clear g0 ba bb bv
  refine (awake08 _).mono ?_
  rintro e w1 ⟨rfl, hg⟩
  have S1 := Lib.hid (S0.out.trans hg)
  have Ka1 := Lib.hid (Ka0.out.gr hg)
  have Kb1 := Lib.hid (Kb0.out.gr hg)
  have Kv1 := Lib.hid (Kv0.out.gr hg)
  clear hg
  have ca0 := Ka1.out.c 0 _ rfl
  have ca1 := Ka1.out.c 1 _ rfl
  have la := Ka1.out.lt
  have cb0 := Kb1.out.c 0 _ rfl
  have cb1 := Kb1.out.c 1 _ rfl
  have lb := Kb1.out.lt
  have cv0 := Kv1.out.c 0 _ rfl
  have cv1 := Kv1.out.c 1 _ rfl
  have lv := Kv1.out.lt
  go_wp2_with fail
  all_goals (try clear ca0 ca1 la cb0 cb1 lb cv0 cv1 lv)
  have ca0 := Ka1.out.c 0 _ rfl
  have ca1 := Ka1.out.c 1 _ rfl
  have la := Ka1.out.lt
  have cb0 := Kb1.out.c 0 _ rfl
  have cb1 := Kb1.out.c 1 _ rfl
  have lb := Kb1.out.lt
  have cv0 := Kv1.out.c 0 _ rfl
  have cv1 := Kv1.out.c 1 _ rfl
  have lv := Kv1.out.lt
  go_quiet (fail)
  all_goals (try clear ca0 ca1 la cb0 cb1 lb cv0 cv1 lv)
  have g0 : Gr w1 (w1.drewN nq) := (Gr.refl _).drewN nq
  generalize w1.drewN nq = w2 at g0 ⊢
  have S2 := Lib.hid (S1.out.trans g0)
  have Ka2 := Lib.hid (Ka1.out.gr g0)
  have Kb2 := Lib.hid (Kb1.out.gr g0)
  have Kv2 := Lib.hid (Kv1.out.gr g0)
  clear g0
  have ca0 := Ka2.out.c 0 _ rfl
  have ca1 := Ka2.out.c 1 _ rfl
  have la := Ka2.out.lt
  have cb0 := Kb2.out.c 0 _ rfl
  have cb1 := Kb2.out.c 1 _ rfl
  have lb := Kb2.out.lt
  have cv0 := Kv2.out.c 0 _ rfl
  have cv1 := Kv2.out.c 1 _ rfl
  have lv := Kv2.out.lt
  go_wp2_with fail
  all_goals (try clear ca0 ca1 la cb0 cb1 lb cv0 cv1 lv)
  refine (Adjust_bad oa da x _ HAD.out).mono ?_
  rintro e w3 ⟨rfl, hg⟩
  have S3 := Lib.hid (S2.out.trans hg)
  have Ka3 := Lib.hid (Ka2.out.gr hg)
  have Kb3 := Lib.hid (Kb2.out.gr hg)
  have Kv3 := Lib.hid (Kv2.out.gr hg)
  clear hg
  have ca0 := Ka3.out.c 0 _ rfl
  have ca1 := Ka3.out.c 1 _ rfl
  have la := Ka3.out.lt
  have cb0 := Kb3.out.c 0 _ rfl
  have cb1 := Kb3.out.c 1 _ rfl
  have lb := Kb3.out.lt
  have cv0 := Kv3.out.c 0 _ rfl
  have cv1 := Kv3.out.c 1 _ rfl
  have lv := Kv3.out.lt
  go_wp2_with fail
  all_goals (try clear ca0 ca1 la cb0 cb1 lb cv0 cv1 lv)
  have g0 : Gr w3 ((w3).alloc (Obj.cells #[.int .i64 0, .int .i64 0] 23)) := Gr.alloc (Gr.refl w3) _
  have bc : Bx ((w3).alloc (Obj.cells #[.int .i64 0, .int .i64 0] 23)) (w3.heap.size) [.int .i64 0, .int .i64 0] := Bx.gr (Bx.at_ (Bx.new (w3) [.int .i64 0, .int .i64 0] 23) (by simp)) (Gr.refl _)
  generalize (w3).alloc (Obj.cells #[.int .i64 0, .int .i64 0] 23) = w4 at g0 bc ⊢
  have S4 := Lib.hid (S3.out.trans g0)
  have Ka4 := Lib.hid (Ka3.out.gr g0)
  have Kb4 := Lib.hid (Kb3.out.gr g0)
  have Kv4 := Lib.hid (Kv3.out.gr g0)
  have Kc4 := Lib.hid bc
  clear g0 bc
  have ca0 := Ka4.out.c 0 _ rfl
  have ca1 := Ka4.out.c 1 _ rfl
  have la := Ka4.out.lt
  have cb0 := Kb4.out.c 0 _ rfl
  have cb1 := Kb4.out.c 1 _ rfl
  have lb := Kb4.out.lt
  have cv0 := Kv4.out.c 0 _ rfl
  have cv1 := Kv4.out.c 1 _ rfl
  have lv := Kv4.out.lt
  have cc0 := Kc4.out.c 0 _ rfl
  have cc1 := Kc4.out.c 1 _ rfl
  have lc := Kc4.out.lt
  go_wp2_with fail
  all_goals (try clear ca0 ca1 la cb0 cb1 lb cv0 cv1 lv cc0 cc1 lc)
  refine (show_range oa da y _ HVA.out HT.out).mono ?_
  rintro e w5 ⟨rfl, hg⟩
  have S5 := Lib.hid (S4.out.trans hg)
  have Ka5 := Lib.hid (Ka4.out.gr hg)
  have Kb5 := Lib.hid (Kb4.out.gr hg)
  have Kv5 := Lib.hid (Kv4.out.gr hg)
  have Kc5 := Lib.hid (Kc4.out.gr hg)
  clear hg
  have ca0 := Ka5.out.c 0 _ rfl
  have ca1 := Ka5.out.c 1 _ rfl
  have la := Ka5.out.lt
  have cb0 := Kb5.out.c 0 _ rfl
  have cb1 := Kb5.out.c 1 _ rfl
  have lb := Kb5.out.lt
  have cv0 := Kv5.out.c 0 _ rfl
  have cv1 := Kv5.out.c 1 _ rfl
  have lv := Kv5.out.lt
  have cc0 := Kc5.out.c 0 _ rfl
  have cc1 := Kc5.out.c 1 _ rfl
  have lc := Kc5.out.lt
  go_wp2_with fail
  all_goals (try clear ca0 ca1 la cb0 cb1 lb cv0 cv1 lv cc0 cc1 lc)
  refine (Apart_bad oa da ob db y _ (fun h => HVB.out h.2)).mono ?_
  rintro e w6 ⟨rfl, hg⟩
  have S6 := Lib.hid (S5.out.trans hg)
  have Ka6 := Lib.hid (Ka5.out.gr hg)
  have Kb6 := Lib.hid (Kb5.out.gr hg)
  have Kv6 := Lib.hid (Kv5.out.gr hg)
  have Kc6 := Lib.hid (Kc5.out.gr hg)
  clear hg
  have ca0 := Ka6.out.c 0 _ rfl
  have ca1 := Ka6.out.c 1 _ rfl
  have la := Ka6.out.lt
  have cb0 := Kb6.out.c 0 _ rfl
  have cb1 := Kb6.out.c 1 _ rfl
  have lb := Kb6.out.lt
  have cv0 := Kv6.out.c 0 _ rfl
  have cv1 := Kv6.out.c 1 _ rfl
  have lv := Kv6.out.lt
  have cc0 := Kc6.out.c 0 _ rfl
  have cc1 := Kc6.out.c 1 _ rfl
  have lc := Kc6.out.lt
  go_wp2_with fail
  all_goals (try clear ca0 ca1 la cb0 cb1 lb cv0 cv1 lv cc0 cc1 lc)
  refine (Apart_bad ob db oa da y _ (fun h => HVB.out h.1)).mono ?_
  rintro e w7 ⟨rfl, hg⟩
  have S7 := Lib.hid (S6.out.trans hg)
  have Ka7 := Lib.hid (Ka6.out.gr hg)
  have Kb7 := Lib.hid (Kb6.out.gr hg)
  have Kv7 := Lib.hid (Kv6.out.gr hg)
  have Kc7 := Lib.hid (Kc6.out.gr hg)
  clear hg
  have ca0 := Ka7.out.c 0 _ rfl
  have ca1 := Ka7.out.c 1 _ rfl
  have la := Ka7.out.lt
  have cb0 := Kb7.out.c 0 _ rfl
  have cb1 := Kb7.out.c 1 _ rfl
  have lb := Kb7.out.lt
  have cv0 := Kv7.out.c 0 _ rfl
  have cv1 := Kv7.out.c 1 _ rfl
  have lv := Kv7.out.lt
  have cc0 := Kc7.out.c 0 _ rfl
  have cc1 := Kc7.out.c 1 _ rfl
  have lc := Kc7.out.lt
  go_wp2_with fail
  all_goals (try clear ca0 ca1 la cb0 cb1 lb cv0 cv1 lv cc0 cc1 lc)
  refine (show_any ob db y _).mono ?_
  rintro e w8 ⟨rfl, hg⟩
  have S8 := Lib.hid (S7.out.trans hg)
  have Ka8 := Lib.hid (Ka7.out.gr hg)
  have Kb8 := Lib.hid (Kb7.out.gr hg)
  have Kv8 := Lib.hid (Kv7.out.gr hg)
  have Kc8 := Lib.hid (Kc7.out.gr hg)
  clear hg
  have ca0 := Ka8.out.c 0 _ rfl
  have ca1 := Ka8.out.c 1 _ rfl
  have la := Ka8.out.lt
  have cb0 := Kb8.out.c 0 _ rfl
  have cb1 := Kb8.out.c 1 _ rfl
  have lb := Kb8.out.lt
  have cv0 := Kv8.out.c 0 _ rfl
  have cv1 := Kv8.out.c 1 _ rfl
  have lv := Kv8.out.lt
  have cc0 := Kc8.out.c 0 _ rfl
  have cc1 := Kc8.out.c 1 _ rfl
  have lc := Kc8.out.lt
  go_wp2_with fail
  all_goals (try clear ca0 ca1 la cb0 cb1 lb cv0 cv1 lv cc0 cc1 lc)
  all_goals go_ret
  all_goals exact ⟨rfl, S8.out⟩


set_option maxHeartbeats 800000 in
theorem ClockShifts_arg (oa da ob db x y : Int) (w : World) (had : ¬ adOk oa da x) (hva : ¬ Vc oa da) :
    Calls Try.prog 12 #[.agg #[.int .i64 oa, .int .i64 da], .agg #[.int .i64 ob, .int .i64 db], .agg #[.int .i64 x, .int .i64 y]] w fun e w' => e = .returned (.bool true) ∧ Gr w w' := by
  have HAD := Lib.hid had
  have HVA := Lib.hid hva
  clear had hva
  go_enter Try.func12, Try.ntmps12
  go_wp2_with fail
  have g0 : Gr w ((((w).alloc (Obj.cells #[.int .i64 oa, .int .i64 da] 23)).alloc (Obj.cells #[.int .i64 ob, .int .i64 db] 23)).alloc (Obj.cells #[.int .i64 x, .int .i64 y] 57)) := Gr.alloc (Gr.alloc (Gr.alloc (Gr.refl w) _) _) _
  have ba : Bx ((((w).alloc (Obj.cells #[.int .i64 oa, .int .i64 da] 23)).alloc (Obj.cells #[.int .i64 ob, .int .i64 db] 23)).alloc (Obj.cells #[.int .i64 x, .int .i64 y] 57)) (w.heap.size) [.int .i64 oa, .int .i64 da] := Bx.gr (Bx.at_ (Bx.new (w) [.int .i64 oa, .int .i64 da] 23) (by simp)) (Gr.alloc (Gr.alloc (Gr.refl _) _) _)
  have bb : Bx ((((w).alloc (Obj.cells #[.int .i64 oa, .int .i64 da] 23)).alloc (Obj.cells #[.int .i64 ob, .int .i64 db] 23)).alloc (Obj.cells #[.int .i64 x, .int .i64 y] 57)) (w.heap.size + 1) [.int .i64 ob, .int .i64 db] := Bx.gr (Bx.at_ (Bx.new ((w).alloc (Obj.cells #[.int .i64 oa, .int .i64 da] 23)) [.int .i64 ob, .int .i64 db] 23) (by simp)) (Gr.alloc (Gr.refl _) _)
  have bv : Bx ((((w).alloc (Obj.cells #[.int .i64 oa, .int .i64 da] 23)).alloc (Obj.cells #[.int .i64 ob, .int .i64 db] 23)).alloc (Obj.cells #[.int .i64 x, .int .i64 y] 57)) (w.heap.size + 1 + 1) [.int .i64 x, .int .i64 y] := Bx.gr (Bx.at_ (Bx.new (((w).alloc (Obj.cells #[.int .i64 oa, .int .i64 da] 23)).alloc (Obj.cells #[.int .i64 ob, .int .i64 db] 23)) [.int .i64 x, .int .i64 y] 57) (by simp)) (Gr.refl _)
  generalize (((w).alloc (Obj.cells #[.int .i64 oa, .int .i64 da] 23)).alloc (Obj.cells #[.int .i64 ob, .int .i64 db] 23)).alloc (Obj.cells #[.int .i64 x, .int .i64 y] 57) = W at g0 ba bb bv ⊢
  have S0 := Lib.hid g0
  have Ka0 := Lib.hid ba
  have Kb0 := Lib.hid bb
  have Kv0 := Lib.hid bv
  clear g0 ba bb bv
  refine (awake08 _).mono ?_
  rintro e w1 ⟨rfl, hg⟩
  have S1 := Lib.hid (S0.out.trans hg)
  have Ka1 := Lib.hid (Ka0.out.gr hg)
  have Kb1 := Lib.hid (Kb0.out.gr hg)
  have Kv1 := Lib.hid (Kv0.out.gr hg)
  clear hg
  have ca0 := Ka1.out.c 0 _ rfl
  have ca1 := Ka1.out.c 1 _ rfl
  have la := Ka1.out.lt
  have cb0 := Kb1.out.c 0 _ rfl
  have cb1 := Kb1.out.c 1 _ rfl
  have lb := Kb1.out.lt
  have cv0 := Kv1.out.c 0 _ rfl
  have cv1 := Kv1.out.c 1 _ rfl
  have lv := Kv1.out.lt
  go_wp2_with fail
  all_goals (try clear ca0 ca1 la cb0 cb1 lb cv0 cv1 lv)
  have ca0 := Ka1.out.c 0 _ rfl
  have ca1 := Ka1.out.c 1 _ rfl
  have la := Ka1.out.lt
  have cb0 := Kb1.out.c 0 _ rfl
  have cb1 := Kb1.out.c 1 _ rfl
  have lb := Kb1.out.lt
  have cv0 := Kv1.out.c 0 _ rfl
  have cv1 := Kv1.out.c 1 _ rfl
  have lv := Kv1.out.lt
  go_quiet (fail)
  all_goals (try clear ca0 ca1 la cb0 cb1 lb cv0 cv1 lv)
  have g0 : Gr w1 (w1.drewN nq) := (Gr.refl _).drewN nq
  generalize w1.drewN nq = w2 at g0 ⊢
  have S2 := Lib.hid (S1.out.trans g0)
  have Ka2 := Lib.hid (Ka1.out.gr g0)
  have Kb2 := Lib.hid (Kb1.out.gr g0)
  have Kv2 := Lib.hid (Kv1.out.gr g0)
  clear g0
  have ca0 := Ka2.out.c 0 _ rfl
  have ca1 := Ka2.out.c 1 _ rfl
  have la := Ka2.out.lt
  have cb0 := Kb2.out.c 0 _ rfl
  have cb1 := Kb2.out.c 1 _ rfl
  have lb := Kb2.out.lt
  have cv0 := Kv2.out.c 0 _ rfl
  have cv1 := Kv2.out.c 1 _ rfl
  have lv := Kv2.out.lt
  go_wp2_with fail
  all_goals (try clear ca0 ca1 la cb0 cb1 lb cv0 cv1 lv)
  refine (Adjust_bad oa da x _ HAD.out).mono ?_
  rintro e w3 ⟨rfl, hg⟩
  have S3 := Lib.hid (S2.out.trans hg)
  have Ka3 := Lib.hid (Ka2.out.gr hg)
  have Kb3 := Lib.hid (Kb2.out.gr hg)
  have Kv3 := Lib.hid (Kv2.out.gr hg)
  clear hg
  have ca0 := Ka3.out.c 0 _ rfl
  have ca1 := Ka3.out.c 1 _ rfl
  have la := Ka3.out.lt
  have cb0 := Kb3.out.c 0 _ rfl
  have cb1 := Kb3.out.c 1 _ rfl
  have lb := Kb3.out.lt
  have cv0 := Kv3.out.c 0 _ rfl
  have cv1 := Kv3.out.c 1 _ rfl
  have lv := Kv3.out.lt
  go_wp2_with fail
  all_goals (try clear ca0 ca1 la cb0 cb1 lb cv0 cv1 lv)
  have g0 : Gr w3 ((w3).alloc (Obj.cells #[.int .i64 0, .int .i64 0] 23)) := Gr.alloc (Gr.refl w3) _
  have bc : Bx ((w3).alloc (Obj.cells #[.int .i64 0, .int .i64 0] 23)) (w3.heap.size) [.int .i64 0, .int .i64 0] := Bx.gr (Bx.at_ (Bx.new (w3) [.int .i64 0, .int .i64 0] 23) (by simp)) (Gr.refl _)
  generalize (w3).alloc (Obj.cells #[.int .i64 0, .int .i64 0] 23) = w4 at g0 bc ⊢
  have S4 := Lib.hid (S3.out.trans g0)
  have Ka4 := Lib.hid (Ka3.out.gr g0)
  have Kb4 := Lib.hid (Kb3.out.gr g0)
  have Kv4 := Lib.hid (Kv3.out.gr g0)
  have Kc4 := Lib.hid bc
  clear g0 bc
  have ca0 := Ka4.out.c 0 _ rfl
  have ca1 := Ka4.out.c 1 _ rfl
  have la := Ka4.out.lt
  have cb0 := Kb4.out.c 0 _ rfl
  have cb1 := Kb4.out.c 1 _ rfl
  have lb := Kb4.out.lt
  have cv0 := Kv4.out.c 0 _ rfl
  have cv1 := Kv4.out.c 1 _ rfl
  have lv := Kv4.out.lt
  have cc0 := Kc4.out.c 0 _ rfl
  have cc1 := Kc4.out.c 1 _ rfl
  have lc := Kc4.out.lt
  go_wp2_with fail
  all_goals (try clear ca0 ca1 la cb0 cb1 lb cv0 cv1 lv cc0 cc1 lc)
  refine (show_arg oa da y _ HVA.out).mono ?_
  rintro e w5 ⟨rfl, hg⟩
  have S5 := Lib.hid (S4.out.trans hg)
  have Ka5 := Lib.hid (Ka4.out.gr hg)
  have Kb5 := Lib.hid (Kb4.out.gr hg)
  have Kv5 := Lib.hid (Kv4.out.gr hg)
  have Kc5 := Lib.hid (Kc4.out.gr hg)
  clear hg
  have ca0 := Ka5.out.c 0 _ rfl
  have ca1 := Ka5.out.c 1 _ rfl
  have la := Ka5.out.lt
  have cb0 := Kb5.out.c 0 _ rfl
  have cb1 := Kb5.out.c 1 _ rfl
  have lb := Kb5.out.lt
  have cv0 := Kv5.out.c 0 _ rfl
  have cv1 := Kv5.out.c 1 _ rfl
  have lv := Kv5.out.lt
  have cc0 := Kc5.out.c 0 _ rfl
  have cc1 := Kc5.out.c 1 _ rfl
  have lc := Kc5.out.lt
  go_wp2_with fail
  all_goals (try clear ca0 ca1 la cb0 cb1 lb cv0 cv1 lv cc0 cc1 lc)
  refine (Apart_bad oa da ob db y _ (fun h => HVA.out h.1)).mono ?_
  rintro e w6 ⟨rfl, hg⟩
  have S6 := Lib.hid (S5.out.trans hg)
  have Ka6 := Lib.hid (Ka5.out.gr hg)
  have Kb6 := Lib.hid (Kb5.out.gr hg)
  have Kv6 := Lib.hid (Kv5.out.gr hg)
  have Kc6 := Lib.hid (Kc5.out.gr hg)
  clear hg
  have ca0 := Ka6.out.c 0 _ rfl
  have ca1 := Ka6.out.c 1 _ rfl
  have la := Ka6.out.lt
  have cb0 := Kb6.out.c 0 _ rfl
  have cb1 := Kb6.out.c 1 _ rfl
  have lb := Kb6.out.lt
  have cv0 := Kv6.out.c 0 _ rfl
  have cv1 := Kv6.out.c 1 _ rfl
  have lv := Kv6.out.lt
  have cc0 := Kc6.out.c 0 _ rfl
  have cc1 := Kc6.out.c 1 _ rfl
  have lc := Kc6.out.lt
  go_wp2_with fail
  all_goals (try clear ca0 ca1 la cb0 cb1 lb cv0 cv1 lv cc0 cc1 lc)
  refine (Apart_bad ob db oa da y _ (fun h => HVA.out h.2)).mono ?_
  rintro e w7 ⟨rfl, hg⟩
  have S7 := Lib.hid (S6.out.trans hg)
  have Ka7 := Lib.hid (Ka6.out.gr hg)
  have Kb7 := Lib.hid (Kb6.out.gr hg)
  have Kv7 := Lib.hid (Kv6.out.gr hg)
  have Kc7 := Lib.hid (Kc6.out.gr hg)
  clear hg
  have ca0 := Ka7.out.c 0 _ rfl
  have ca1 := Ka7.out.c 1 _ rfl
  have la := Ka7.out.lt
  have cb0 := Kb7.out.c 0 _ rfl
  have cb1 := Kb7.out.c 1 _ rfl
  have lb := Kb7.out.lt
  have cv0 := Kv7.out.c 0 _ rfl
  have cv1 := Kv7.out.c 1 _ rfl
  have lv := Kv7.out.lt
  have cc0 := Kc7.out.c 0 _ rfl
  have cc1 := Kc7.out.c 1 _ rfl
  have lc := Kc7.out.lt
  go_wp2_with fail
  all_goals (try clear ca0 ca1 la cb0 cb1 lb cv0 cv1 lv cc0 cc1 lc)
  refine (show_any ob db y _).mono ?_
  rintro e w8 ⟨rfl, hg⟩
  have S8 := Lib.hid (S7.out.trans hg)
  have Ka8 := Lib.hid (Ka7.out.gr hg)
  have Kb8 := Lib.hid (Kb7.out.gr hg)
  have Kv8 := Lib.hid (Kv7.out.gr hg)
  have Kc8 := Lib.hid (Kc7.out.gr hg)
  clear hg
  have ca0 := Ka8.out.c 0 _ rfl
  have ca1 := Ka8.out.c 1 _ rfl
  have la := Ka8.out.lt
  have cb0 := Kb8.out.c 0 _ rfl
  have cb1 := Kb8.out.c 1 _ rfl
  have lb := Kb8.out.lt
  have cv0 := Kv8.out.c 0 _ rfl
  have cv1 := Kv8.out.c 1 _ rfl
  have lv := Kv8.out.lt
  have cc0 := Kc8.out.c 0 _ rfl
  have cc1 := Kc8.out.c 1 _ rfl
  have lc := Kc8.out.lt
  go_wp2_with fail
  all_goals (try clear ca0 ca1 la cb0 cb1 lb cv0 cv1 lv cc0 cc1 lc)
  all_goals go_ret
  all_goals exact ⟨rfl, S8.out⟩


theorem ClockShifts_walk (oa da ob db x y : Int) (w : World) :
    Calls Try.prog 12 #[.agg #[.int .i64 oa, .int .i64 da], .agg #[.int .i64 ob, .int .i64 db], .agg #[.int .i64 x, .int .i64 y]] w fun e w' => e = .returned (.bool true) ∧ Gr w w' := by
  by_cases ht : 0 ≤ y ∧ y ≤ 1099511627776
  · by_cases had : adOk oa da x
    · by_cases hb : Vc ob db
      · exact ClockShifts_ok_in_b oa da ob db x y w had hb ht.1 ht.2
      · exact ClockShifts_ok_in_n oa da ob db x y w had hb ht.1 ht.2
    · by_cases hva : Vc oa da
      · by_cases hb : Vc ob db
        · exact ClockShifts_no_in_b oa da ob db x y w had hva hb ht.1 ht.2
        · exact ClockShifts_no_in_n oa da ob db x y w had hva hb ht.1 ht.2
      · exact ClockShifts_arg oa da ob db x y w had hva
  · by_cases had : adOk oa da x
    · by_cases hb : Vc ob db
      · exact ClockShifts_ok_out_b oa da ob db x y w had hb ht
      · exact ClockShifts_ok_out_n oa da ob db x y w had hb ht
    · by_cases hva : Vc oa da
      · by_cases hb : Vc ob db
        · exact ClockShifts_no_out_b oa da ob db x y w had hva hb ht
        · exact ClockShifts_no_out_n oa da ob db x y w had hva hb ht
      · exact ClockShifts_arg oa da ob db x y w had hva
set_option maxRecDepth 100000 in
set_option maxHeartbeats 1000000 in
theorem ClockShifts_lifted (os : Os) (started : os.Started) (H : Type) (enc : TypeId × Value → H) :
    ReturnsInHanded {} Try.checked os 12 .any (Rows.clockShiftsSpec.pre6 enc Try.prog Try.f12 Rows.clockShiftsRow.domain false) (Rows.clockShiftsSpec.post enc Try.prog Try.f12 false true false false) := by
  refine returnsInHanded_of_change (C := Try.checked) Try.own started (by kernel_rfl) Try.func12
    (ChangeSpec.witness6 (enc := enc) (C := Try.checked) false ⟨#[], #[.agg #[.int .i64 0, .int .i64 0], .agg #[.int .i64 0, .int .i64 0], .agg #[.int .i64 0, .int .i64 0]], []⟩ 8 (by kernel_rfl) (by kernel_rfl) (by kernel_rfl) (by kernel_rfl)) ?_
  intro W base args ds gs before hval0 hW hcnd _
  have hval : ∀ (j : Nat) t v, Try.f12.params[j]? = some t → args[j]? = some v → Value.okWide Try.prog W .any base t v := hval0
  have hW' := hW
  obtain ⟨p, q, hA0, hV, rfl, hfz, hnd⟩ := hW
  have hA : DataW.TrodAll enc Try.prog W 0 (fun _ => true) true Try.f12.params.toList args.toList ds p := hA0
  rw [Try.params12] at hA hval
  have hAk := hA
  obtain ⟨v0, vs0, d0, ds0, p0, q0, hargs, rfl, rfl, h0, r0⟩ := trodAll_cons hA
  obtain ⟨v1, vs1, d1, ds1, p1, q1, rfl, rfl, rfl, h1, r1⟩ := trodAll_cons r0
  obtain ⟨v2, vs2, d2, ds2, p2, q2, rfl, rfl, rfl, h2, r2⟩ := trodAll_cons r1
  obtain ⟨rfl, rfl, rfl⟩ := trodAll_nil r2
  obtain rfl : args = #[v0, v1, v2] := by cases args; simp_all
  obtain ⟨rfl, rfl⟩ := trodVars_none hV
  obtain ⟨c00, c01, y00, y01, m0, rfl, rfl, rfl, hy00, hy01⟩ := open_agg2 Try.underlying23 (by kernel_rfl) Try.cells23 (hval 0 23 v0 rfl rfl) h0
  obtain ⟨oa, e00, rfl, wfoa⟩ := DataW.trod_int Try.underlying3 hy00
  obtain ⟨da, e01, rfl, wfda⟩ := DataW.trod_int Try.underlying3 hy01
  simp at e00 e01
  subst e00 e01
  obtain ⟨c10, c11, y10, y11, m1, rfl, rfl, rfl, hy10, hy11⟩ := open_agg2 Try.underlying23 (by kernel_rfl) Try.cells23 (hval 1 23 v1 rfl rfl) h1
  obtain ⟨ob, e10, rfl, wfob⟩ := DataW.trod_int Try.underlying3 hy10
  obtain ⟨db, e11, rfl, wfdb⟩ := DataW.trod_int Try.underlying3 hy11
  simp at e10 e11
  subst e10 e11
  obtain ⟨x, y, rfl, wfx, wfy⟩ := open_a2 Try.underlying57 Try.underlying3 (by kernel_rfl) (by kernel_rfl) (hval 2 57 v2 rfl rfl) h2
  clear hA0 hval0
  simp only [List.append_nil] at hW'
  refine (ClockShifts_walk oa da ob db x y W).mono fun e W' ⟨he, hg⟩ => ?_
  subst he
  have hb : Below W.heap.size W W' := hg
  exact ⟨_, rfl, _, _, _, [], _, [], hW', trodAll_mk1 (shut_bool Try.underlying4 _), trodAll_stays Try.laidOut hb _ _ _ _ (by intro t ht; simp at ht; rcases ht with rfl | rfl | rfl <;> exact ⟨by kernel_rfl, of_decide_eq_true (by kernel_rfl)⟩) hAk (fun x hx => by simpa using hW'.lt x (by simpa using hx)), rfl, hb.frame _, fun h => by cases h⟩

theorem ClockShifts_closed : joinedFacts Try.pinned.checked.prog 12 Try.f12 Rows.clockShiftsSpec Rows.clockShiftsRow = true := by
  unfold joinedFacts
  exact (and_tt (and_tt (and_tt (and_tt (and_tt (and_tt (and_tt (and_tt (and_tt (and_tt (and_tt (and_tt (and_tt (and_tt (and_tt (and_tt (and_tt (and_tt (and_tt (and_tt (and_tt (and_tt (and_tt (and_tt (and_tt (and_tt (and_tt (and_tt (and_tt (and_tt (and_tt (by as_aux_lemma => kernel_rfl) (J_laid)) (J_maps)) (by as_aux_lemma => kernel_rfl)) (by as_aux_lemma => kernel_rfl)) (by as_aux_lemma => kernel_rfl)) (J_stops)) (by as_aux_lemma => kernel_rfl)) (J_knobs)) (by as_aux_lemma => kernel_rfl)) (by as_aux_lemma => kernel_rfl)) (by as_aux_lemma => kernel_rfl)) (by as_aux_lemma => kernel_rfl)) (by as_aux_lemma => kernel_rfl)) (by as_aux_lemma => kernel_rfl)) (by as_aux_lemma => kernel_rfl)) (by as_aux_lemma => kernel_rfl)) (by as_aux_lemma => kernel_rfl)) (by as_aux_lemma => kernel_rfl)) (by as_aux_lemma => kernel_rfl)) (by as_aux_lemma => kernel_rfl)) (by as_aux_lemma => kernel_rfl)) (J_keys)) (by as_aux_lemma => kernel_rfl)) (J_heard)) (J_enter)) (J_lifts)) (J_make)) (by as_aux_lemma => kernel_rfl)) (by as_aux_lemma => kernel_rfl)) (by as_aux_lemma => kernel_rfl)) (by as_aux_lemma => kernel_rfl))

/-- THE STATEMENT ClockShifts. -/
theorem ClockShifts_holds : Rows.ClockShiftsSaid :=
  OpenClaim.holds_of_wide 12 Try.f12 rfl rfl rfl rfl rfl rfl rfl ⟨rfl, rfl, rfl, rfl, rfl⟩ rfl rfl rfl rfl rfl (by kernel_rfl) Try.func12 ClockShifts_closed
    (of_decide_eq_true (by kernel_rfl)) (by unfold Func.isWrapper; rw [if_neg (of_decide_eq_false (by kernel_rfl))]; exact ⟨rfl, rfl⟩)
    (fun os started H enc _ => ClockShifts_lifted os started H enc)
#print axioms ClockShifts_holds
end Go.Proofs.Ytpnigndobhbfnaa
