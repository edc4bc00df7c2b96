/- ClockReaches: a clock shows at least x when it reaches x, and less before; what it shows at any time it has reached by then. For every input the call returns true and each argument reads afterwards as it read before (no condition). -/
import Derived.Test.YtpnigndobhbfnaaAwake8
import Derived.Test.YtpnigndobhbfnaaFrame
set_option linter.unnecessarySimpa false
namespace Go.Proofs.Ytpnigndobhbfnaa
open Go.ChangeShapes Go.WideShapes Go.ChangeAt Go.RowKit Go.Joins
set_option maxHeartbeats 400000 in
theorem ClockReaches_arg (o d x t : Int) (w : World) (hv : ¬ Vc o d) :
    Calls Try.prog 5 #[.agg #[.int .i64 o, .int .i64 d], .int .i64 x, .int .i64 t] w fun e w' => e = .returned (.bool true) ∧ Gr w w' := by
  have HV := Lib.hid hv
  clear hv
  go_enter Try.func5, Try.ntmps5
  go_wp2_with fail
  have g0 : Gr w (w.alloc (Obj.cells #[.int .i64 o, .int .i64 d] 23)) := (Gr.refl _).alloc _
  have k0 := Ck.new w o d 23
  generalize w.alloc (Obj.cells #[.int .i64 o, .int .i64 d] 23) = W at g0 k0 ⊢
  have S0 := Lib.hid g0
  have K0 := Lib.hid k0
  clear g0 k0
  refine (awake08 _).mono ?_
  rintro e w1 ⟨rfl, hg⟩
  have S1 := Lib.hid (S0.out.trans hg)
  have K1 := Lib.hid (K0.out.gr hg)
  clear hg
  have c0 := K1.out.c0
  have c1 := K1.out.c1
  go_wp2_with fail
  clear c0 c1
  refine (Reach_arg o d x _ HV.out).mono ?_
  rintro e w2 ⟨rfl, hg⟩
  have S2 := Lib.hid (S1.out.trans hg)
  have K2 := Lib.hid (K1.out.gr hg)
  clear hg
  have c0 := K2.out.c0
  have c1 := K2.out.c1
  go_wp2_with fail
  clear c0 c1
  refine (show_arg o d t _ HV.out).mono ?_
  rintro e w3 ⟨rfl, hg⟩
  have S3 := Lib.hid (S2.out.trans hg)
  clear hg
  go_wp2_with fail
  go_ret
  exact ⟨rfl, S3.out⟩

set_option maxHeartbeats 400000 in
theorem ClockReaches_late_range (o d x t : Int) (w : World) (hv : Vc o d) (hx : rd o d 1099511627776 < x) (ht : ¬ (0 ≤ t ∧ t ≤ 1099511627776)) :
    Calls Try.prog 5 #[.agg #[.int .i64 o, .int .i64 d], .int .i64 x, .int .i64 t] w fun e w' => e = .returned (.bool true) ∧ Gr w w' := by
  have HV := Lib.hid hv
  have HT := Lib.hid ht
  have HX := Lib.hid hx
  clear hv ht hx
  go_enter Try.func5, Try.ntmps5
  go_wp2_with fail
  have g0 : Gr w (w.alloc (Obj.cells #[.int .i64 o, .int .i64 d] 23)) := (Gr.refl _).alloc _
  have k0 := Ck.new w o d 23
  generalize w.alloc (Obj.cells #[.int .i64 o, .int .i64 d] 23) = W at g0 k0 ⊢
  have S0 := Lib.hid g0
  have K0 := Lib.hid k0
  clear g0 k0
  refine (awake08 _).mono ?_
  rintro e w1 ⟨rfl, hg⟩
  have S1 := Lib.hid (S0.out.trans hg)
  have K1 := Lib.hid (K0.out.gr hg)
  clear hg
  have c0 := K1.out.c0
  have c1 := K1.out.c1
  go_wp2_with fail
  clear c0 c1
  refine (Reach_late o d x _ HV.out HX.out).mono ?_
  rintro e w2 ⟨rfl, hg⟩
  have S2 := Lib.hid (S1.out.trans hg)
  have K2 := Lib.hid (K1.out.gr hg)
  clear hg
  have c0 := K2.out.c0
  have c1 := K2.out.c1
  go_wp2_with fail
  clear c0 c1
  refine (show_range o d t _ HV.out HT.out).mono ?_
  rintro e w3 ⟨rfl, hg⟩
  have S3 := Lib.hid (S2.out.trans hg)
  clear hg
  go_wp2_with fail
  go_ret
  exact ⟨rfl, S3.out⟩

set_option maxHeartbeats 400000 in
theorem ClockReaches_late_ok (o d x t : Int) (w : World) (hv : Vc o d) (hx : rd o d 1099511627776 < x) (t0 : 0 ≤ t) (t1 : t ≤ 1099511627776) :
    Calls Try.prog 5 #[.agg #[.int .i64 o, .int .i64 d], .int .i64 x, .int .i64 t] w fun e w' => e = .returned (.bool true) ∧ Gr w w' := by
  have hm := Lib.hid (rd_mono o hv.d0 hv.d1 t1)
  have hr := rch_is (o := o) (d := d) (rd_mono o hv.d0 hv.d1 t1)
  have hle : rch o d (rd o d t) ≤ t := by
    by_cases h : rch o d (rd o d t) ≤ t
    · exact h
    · have := hr.before t t0 (by omega); omega
  clear hr
  have HV := Lib.hid hv
  have HX := Lib.hid hx
  clear hv hx
  go_enter Try.func5, Try.ntmps5
  go_wp2_with fail
  have g0 : Gr w (w.alloc (Obj.cells #[.int .i64 o, .int .i64 d] 23)) := (Gr.refl _).alloc _
  have k0 := Ck.new w o d 23
  generalize w.alloc (Obj.cells #[.int .i64 o, .int .i64 d] 23) = W at g0 k0 ⊢
  have S0 := Lib.hid g0
  have K0 := Lib.hid k0
  clear g0 k0
  refine (awake08 _).mono ?_
  rintro e w1 ⟨rfl, hg⟩
  have S1 := Lib.hid (S0.out.trans hg)
  have K1 := Lib.hid (K0.out.gr hg)
  clear hg
  have c0 := K1.out.c0
  have c1 := K1.out.c1
  go_wp2_with fail
  clear c0 c1
  refine (Reach_late o d x _ HV.out HX.out).mono ?_
  rintro e w2 ⟨rfl, hg⟩
  have S2 := Lib.hid (S1.out.trans hg)
  have K2 := Lib.hid (K1.out.gr hg)
  clear hg
  have c0 := K2.out.c0
  have c1 := K2.out.c1
  go_wp2_with fail
  clear c0 c1
  refine (show_ok o d t _ HV.out t0 t1).mono ?_
  rintro e w3 ⟨rfl, hg⟩
  have S3 := Lib.hid (S2.out.trans hg)
  have K3 := Lib.hid (K2.out.gr hg)
  clear hg
  have c0 := K3.out.c0
  have c1 := K3.out.c1
  go_wp2_with fail
  clear c0 c1
  refine (Reach_ok o d (rd o d t) _ HV.out hm.out).mono ?_
  rintro e w4 ⟨rfl, hg⟩
  have S4 := Lib.hid (S3.out.trans hg)
  clear hg
  go_wp2_with fail
  go_ret
  exact ⟨rfl, S4.out⟩

set_option maxHeartbeats 400000 in
theorem ClockReaches_pos_range (o d x t : Int) (w : World) (hv : Vc o d) (hx : x ≤ rd o d 1099511627776) (hz : 0 < rch o d x) (ht : ¬ (0 ≤ t ∧ t ≤ 1099511627776)) :
    Calls Try.prog 5 #[.agg #[.int .i64 o, .int .i64 d], .int .i64 x, .int .i64 t] w fun e w' => e = .returned (.bool true) ∧ Gr w w' := by
  have hr := rch_is hx
  have r0 := hr.lo
  have r1 := hr.hi
  have ra := hr.at_
  have rb := hr.before (rch o d x - 1) (by omega) (by omega)
  clear hr
  have HV := Lib.hid hv
  have HX := Lib.hid hx
  have HT := Lib.hid ht
  clear hv hx ht
  go_enter Try.func5, Try.ntmps5
  go_wp2_with fail
  have g0 : Gr w (w.alloc (Obj.cells #[.int .i64 o, .int .i64 d] 23)) := (Gr.refl _).alloc _
  have k0 := Ck.new w o d 23
  generalize w.alloc (Obj.cells #[.int .i64 o, .int .i64 d] 23) = W at g0 k0 ⊢
  have S0 := Lib.hid g0
  have K0 := Lib.hid k0
  clear g0 k0
  refine (awake08 _).mono ?_
  rintro e w1 ⟨rfl, hg⟩
  have S1 := Lib.hid (S0.out.trans hg)
  have K1 := Lib.hid (K0.out.gr hg)
  clear hg
  have c0 := K1.out.c0
  have c1 := K1.out.c1
  go_wp2_with fail
  clear c0 c1
  refine (Reach_ok o d x _ HV.out HX.out).mono ?_
  rintro e w2 ⟨rfl, hg⟩
  have S2 := Lib.hid (S1.out.trans hg)
  have K2 := Lib.hid (K1.out.gr hg)
  clear hg
  have c0 := K2.out.c0
  have c1 := K2.out.c1
  go_wp2_with fail
  clear c0 c1
  refine (show_ok o d (rch o d x) _ HV.out r0 r1).mono ?_
  rintro e w3 ⟨rfl, hg⟩
  have S3 := Lib.hid (S2.out.trans hg)
  have K3 := Lib.hid (K2.out.gr hg)
  clear hg
  have c0 := K3.out.c0
  have c1 := K3.out.c1
  go_wp2_with fail
  clear c0 c1
  refine (show_ok o d (rch o d x - 1) _ HV.out (by omega) (by omega)).mono ?_
  rintro e w4 ⟨rfl, hg⟩
  have S4 := Lib.hid (S3.out.trans hg)
  have K4 := Lib.hid (K3.out.gr hg)
  clear hg
  have c0 := K4.out.c0
  have c1 := K4.out.c1
  go_wp2_with fail
  clear c0 c1
  refine (show_range o d t _ HV.out HT.out).mono ?_
  rintro e w5 ⟨rfl, hg⟩
  have S5 := Lib.hid (S4.out.trans hg)
  clear hg
  go_wp2_with fail
  go_ret
  exact ⟨rfl, S5.out⟩

set_option maxHeartbeats 400000 in
theorem ClockReaches_pos_ok (o d x t : Int) (w : World) (hv : Vc o d) (hx : x ≤ rd o d 1099511627776) (hz : 0 < rch o d x) (t0 : 0 ≤ t) (t1 : t ≤ 1099511627776) :
    Calls Try.prog 5 #[.agg #[.int .i64 o, .int .i64 d], .int .i64 x, .int .i64 t] w fun e w' => e = .returned (.bool true) ∧ Gr w w' := by
  have hr := rch_is hx
  have r0 := hr.lo
  have r1 := hr.hi
  have ra := hr.at_
  have rb := hr.before (rch o d x - 1) (by omega) (by omega)
  clear hr
  have hm := Lib.hid (rd_mono o hv.d0 hv.d1 t1)
  have hr := rch_is (o := o) (d := d) (rd_mono o hv.d0 hv.d1 t1)
  have hle : rch o d (rd o d t) ≤ t := by
    by_cases h : rch o d (rd o d t) ≤ t
    · exact h
    · have := hr.before t t0 (by omega); omega
  clear hr
  have HV := Lib.hid hv
  have HX := Lib.hid hx
  clear hv hx
  go_enter Try.func5, Try.ntmps5
  go_wp2_with fail
  have g0 : Gr w (w.alloc (Obj.cells #[.int .i64 o, .int .i64 d] 23)) := (Gr.refl _).alloc _
  have k0 := Ck.new w o d 23
  generalize w.alloc (Obj.cells #[.int .i64 o, .int .i64 d] 23) = W at g0 k0 ⊢
  have S0 := Lib.hid g0
  have K0 := Lib.hid k0
  clear g0 k0
  refine (awake08 _).mono ?_
  rintro e w1 ⟨rfl, hg⟩
  have S1 := Lib.hid (S0.out.trans hg)
  have K1 := Lib.hid (K0.out.gr hg)
  clear hg
  have c0 := K1.out.c0
  have c1 := K1.out.c1
  go_wp2_with fail
  clear c0 c1
  refine (Reach_ok o d x _ HV.out HX.out).mono ?_
  rintro e w2 ⟨rfl, hg⟩
  have S2 := Lib.hid (S1.out.trans hg)
  have K2 := Lib.hid (K1.out.gr hg)
  clear hg
  have c0 := K2.out.c0
  have c1 := K2.out.c1
  go_wp2_with fail
  clear c0 c1
  refine (show_ok o d (rch o d x) _ HV.out r0 r1).mono ?_
  rintro e w3 ⟨rfl, hg⟩
  have S3 := Lib.hid (S2.out.trans hg)
  have K3 := Lib.hid (K2.out.gr hg)
  clear hg
  have c0 := K3.out.c0
  have c1 := K3.out.c1
  go_wp2_with fail
  clear c0 c1
  refine (show_ok o d (rch o d x - 1) _ HV.out (by omega) (by omega)).mono ?_
  rintro e w4 ⟨rfl, hg⟩
  have S4 := Lib.hid (S3.out.trans hg)
  have K4 := Lib.hid (K3.out.gr hg)
  clear hg
  have c0 := K4.out.c0
  have c1 := K4.out.c1
  go_wp2_with fail
  clear c0 c1
  refine (show_ok o d t _ HV.out t0 t1).mono ?_
  rintro e w5 ⟨rfl, hg⟩
  have S5 := Lib.hid (S4.out.trans hg)
  have K5 := Lib.hid (K4.out.gr hg)
  clear hg
  have c0 := K5.out.c0
  have c1 := K5.out.c1
  go_wp2_with fail
  clear c0 c1
  refine (Reach_ok o d (rd o d t) _ HV.out hm.out).mono ?_
  rintro e w6 ⟨rfl, hg⟩
  have S6 := Lib.hid (S5.out.trans hg)
  clear hg
  go_wp2_with fail
  go_ret
  exact ⟨rfl, S6.out⟩

set_option maxHeartbeats 400000 in
theorem ClockReaches_zero_range (o d x t : Int) (w : World) (hv : Vc o d) (hx : x ≤ rd o d 1099511627776) (hz : rch o d x = 0) (ht : ¬ (0 ≤ t ∧ t ≤ 1099511627776)) :
    Calls Try.prog 5 #[.agg #[.int .i64 o, .int .i64 d], .int .i64 x, .int .i64 t] w fun e w' => e = .returned (.bool true) ∧ Gr w w' := by
  have hr := rch_is hx
  have ra := hr.at_
  clear hr
  rw [hz] at ra
  have HZ := Lib.hid hz
  clear hz
  have HV := Lib.hid hv
  have HX := Lib.hid hx
  have HT := Lib.hid ht
  clear hv hx ht
  go_enter Try.func5, Try.ntmps5
  go_wp2_with fail
  have g0 : Gr w (w.alloc (Obj.cells #[.int .i64 o, .int .i64 d] 23)) := (Gr.refl _).alloc _
  have k0 := Ck.new w o d 23
  generalize w.alloc (Obj.cells #[.int .i64 o, .int .i64 d] 23) = W at g0 k0 ⊢
  have S0 := Lib.hid g0
  have K0 := Lib.hid k0
  clear g0 k0
  refine (awake08 _).mono ?_
  rintro e w1 ⟨rfl, hg⟩
  have S1 := Lib.hid (S0.out.trans hg)
  have K1 := Lib.hid (K0.out.gr hg)
  clear hg
  have c0 := K1.out.c0
  have c1 := K1.out.c1
  go_wp2_with fail
  clear c0 c1
  refine ((show Calls Try.prog 28 _ _ _ from HZ.out ▸ Reach_ok o d x _ HV.out HX.out)).mono ?_
  rintro e w2 ⟨rfl, hg⟩
  have S2 := Lib.hid (S1.out.trans hg)
  have K2 := Lib.hid (K1.out.gr hg)
  clear hg
  have c0 := K2.out.c0
  have c1 := K2.out.c1
  go_wp2_with fail
  clear c0 c1
  refine (show_ok o d 0 _ HV.out (by omega) (by omega)).mono ?_
  rintro e w3 ⟨rfl, hg⟩
  have S3 := Lib.hid (S2.out.trans hg)
  have K3 := Lib.hid (K2.out.gr hg)
  clear hg
  have c0 := K3.out.c0
  have c1 := K3.out.c1
  go_wp2_with fail
  clear c0 c1
  refine (show_range o d (-1) _ HV.out (by omega)).mono ?_
  rintro e w4 ⟨rfl, hg⟩
  have S4 := Lib.hid (S3.out.trans hg)
  have K4 := Lib.hid (K3.out.gr hg)
  clear hg
  have c0 := K4.out.c0
  have c1 := K4.out.c1
  go_wp2_with fail
  clear c0 c1
  refine (show_range o d t _ HV.out HT.out).mono ?_
  rintro e w5 ⟨rfl, hg⟩
  have S5 := Lib.hid (S4.out.trans hg)
  clear hg
  go_wp2_with fail
  go_ret
  exact ⟨rfl, S5.out⟩

set_option maxHeartbeats 400000 in
theorem ClockReaches_zero_ok (o d x t : Int) (w : World) (hv : Vc o d) (hx : x ≤ rd o d 1099511627776) (hz : rch o d x = 0) (t0 : 0 ≤ t) (t1 : t ≤ 1099511627776) :
    Calls Try.prog 5 #[.agg #[.int .i64 o, .int .i64 d], .int .i64 x, .int .i64 t] w fun e w' => e = .returned (.bool true) ∧ Gr w w' := by
  have hr := rch_is hx
  have ra := hr.at_
  clear hr
  rw [hz] at ra
  have HZ := Lib.hid hz
  clear hz
  have hm := Lib.hid (rd_mono o hv.d0 hv.d1 t1)
  have hr := rch_is (o := o) (d := d) (rd_mono o hv.d0 hv.d1 t1)
  have hle : rch o d (rd o d t) ≤ t := by
    by_cases h : rch o d (rd o d t) ≤ t
    · exact h
    · have := hr.before t t0 (by omega); omega
  clear hr
  have HV := Lib.hid hv
  have HX := Lib.hid hx
  clear hv hx
  go_enter Try.func5, Try.ntmps5
  go_wp2_with fail
  have g0 : Gr w (w.alloc (Obj.cells #[.int .i64 o, .int .i64 d] 23)) := (Gr.refl _).alloc _
  have k0 := Ck.new w o d 23
  generalize w.alloc (Obj.cells #[.int .i64 o, .int .i64 d] 23) = W at g0 k0 ⊢
  have S0 := Lib.hid g0
  have K0 := Lib.hid k0
  clear g0 k0
  refine (awake08 _).mono ?_
  rintro e w1 ⟨rfl, hg⟩
  have S1 := Lib.hid (S0.out.trans hg)
  have K1 := Lib.hid (K0.out.gr hg)
  clear hg
  have c0 := K1.out.c0
  have c1 := K1.out.c1
  go_wp2_with fail
  clear c0 c1
  refine ((show Calls Try.prog 28 _ _ _ from HZ.out ▸ Reach_ok o d x _ HV.out HX.out)).mono ?_
  rintro e w2 ⟨rfl, hg⟩
  have S2 := Lib.hid (S1.out.trans hg)
  have K2 := Lib.hid (K1.out.gr hg)
  clear hg
  have c0 := K2.out.c0
  have c1 := K2.out.c1
  go_wp2_with fail
  clear c0 c1
  refine (show_ok o d 0 _ HV.out (by omega) (by omega)).mono ?_
  rintro e w3 ⟨rfl, hg⟩
  have S3 := Lib.hid (S2.out.trans hg)
  have K3 := Lib.hid (K2.out.gr hg)
  clear hg
  have c0 := K3.out.c0
  have c1 := K3.out.c1
  go_wp2_with fail
  clear c0 c1
  refine (show_range o d (-1) _ HV.out (by omega)).mono ?_
  rintro e w4 ⟨rfl, hg⟩
  have S4 := Lib.hid (S3.out.trans hg)
  have K4 := Lib.hid (K3.out.gr hg)
  clear hg
  have c0 := K4.out.c0
  have c1 := K4.out.c1
  go_wp2_with fail
  clear c0 c1
  refine (show_ok o d t _ HV.out t0 t1).mono ?_
  rintro e w5 ⟨rfl, hg⟩
  have S5 := Lib.hid (S4.out.trans hg)
  have K5 := Lib.hid (K4.out.gr hg)
  clear hg
  have c0 := K5.out.c0
  have c1 := K5.out.c1
  go_wp2_with fail
  clear c0 c1
  refine (Reach_ok o d (rd o d t) _ HV.out hm.out).mono ?_
  rintro e w6 ⟨rfl, hg⟩
  have S6 := Lib.hid (S5.out.trans hg)
  clear hg
  go_wp2_with fail
  go_ret
  exact ⟨rfl, S6.out⟩

theorem ClockReaches_walk (o d x t : Int) (w : World) :
    Calls Try.prog 5 #[.agg #[.int .i64 o, .int .i64 d], .int .i64 x, .int .i64 t] w fun e w' => e = .returned (.bool true) ∧ Gr w w' := by
  by_cases hv : Vc o d
  · by_cases hx : x ≤ rd o d 1099511627776
    · have h0 := (rch_is hx).lo
      by_cases ht : 0 ≤ t ∧ t ≤ 1099511627776
      · by_cases hz : rch o d x = 0
        · exact ClockReaches_zero_ok o d x t w hv hx hz ht.1 ht.2
        · exact ClockReaches_pos_ok o d x t w hv hx (by omega) ht.1 ht.2
      · by_cases hz : rch o d x = 0
        · exact ClockReaches_zero_range o d x t w hv hx hz ht
        · exact ClockReaches_pos_range o d x t w hv hx (by omega) ht
    · by_cases ht : 0 ≤ t ∧ t ≤ 1099511627776
      · exact ClockReaches_late_ok o d x t w hv (by omega) ht.1 ht.2
      · exact ClockReaches_late_range o d x t w hv (by omega) ht
  · exact ClockReaches_arg o d x t w hv
set_option maxRecDepth 100000 in
set_option maxHeartbeats 1000000 in
theorem ClockReaches_lifted (os : Os) (started : os.Started) (H : Type) (enc : TypeId × Value → H) :
    ReturnsInHanded {} Try.checked os 5 .any (Rows.clockReachesSpec.pre6 enc Try.prog Try.f5 Rows.clockReachesRow.domain false) (Rows.clockReachesSpec.post enc Try.prog Try.f5 false true false false) := by
  refine returnsInHanded_of_change (C := Try.checked) Try.own started (by kernel_rfl) Try.func5
    (ChangeSpec.witness6 (enc := enc) (C := Try.checked) false ⟨#[], #[.agg #[.int .i64 0, .int .i64 0], .int .i64 0, .int .i64 0], []⟩ 8 (by kernel_rfl) (by kernel_rfl) (by kernel_rfl) (by kernel_rfl)) ?_
  intro W base args ds gs before hval0 hW hcnd _
  have hval : ∀ (j : Nat) t v, Try.f5.params[j]? = some t → args[j]? = some v → Value.okWide Try.prog W .any base t v := hval0
  have hW' := hW
  obtain ⟨p, q, hA0, hV, rfl, hfz, hnd⟩ := hW
  have hA : DataW.TrodAll enc Try.prog W 0 (fun _ => true) true Try.f5.params.toList args.toList ds p := hA0
  rw [Try.params5] at hA hval
  have hAk := hA
  obtain ⟨v0, vs0, d0, ds0, p0, q0, hargs, rfl, rfl, h0, r0⟩ := trodAll_cons hA
  obtain ⟨v1, vs1, d1, ds1, p1, q1, rfl, rfl, rfl, h1, r1⟩ := trodAll_cons r0
  obtain ⟨v2, vs2, d2, ds2, p2, q2, rfl, rfl, rfl, h2, r2⟩ := trodAll_cons r1
  obtain ⟨rfl, rfl, rfl⟩ := trodAll_nil r2
  obtain rfl : args = #[v0, v1, v2] := by cases args; simp_all
  obtain ⟨rfl, rfl⟩ := trodVars_none hV
  obtain ⟨c00, c01, y00, y01, m0, rfl, rfl, rfl, hy00, hy01⟩ := open_agg2 Try.underlying23 (by kernel_rfl) Try.cells23 (hval 0 23 v0 rfl rfl) h0
  obtain ⟨o, e00, rfl, bo⟩ := DataW.trod_int Try.underlying3 hy00
  obtain ⟨d, e01, rfl, bd⟩ := DataW.trod_int Try.underlying3 hy01
  simp at e00 e01
  subst e00 e01
  obtain ⟨x, rfl, rfl, rfl, bx⟩ := open_int Try.underlying3 (hval 1 3 v1 rfl rfl) h1
  obtain ⟨t, rfl, rfl, rfl, bt⟩ := open_int Try.underlying3 (hval 2 3 v2 rfl rfl) h2
  clear hA0 hval0
  simp only [List.append_nil] at hW'
  refine (ClockReaches_walk o d x t W).mono fun e W' ⟨he, hg⟩ => ?_
  subst he
  have hb : Below W.heap.size W W' := hg
  exact ⟨_, rfl, _, _, _, [], _, [], hW', trodAll_mk1 (shut_bool Try.underlying4 _), trodAll_stays Try.laidOut hb _ _ _ _ (by intro t ht; simp at ht; rcases ht with rfl | rfl | rfl <;> exact ⟨by kernel_rfl, of_decide_eq_true (by kernel_rfl)⟩) hAk (fun x hx => by simpa using hW'.lt x (by simpa using hx)), rfl, hb.frame _, fun h => by cases h⟩

theorem ClockReaches_closed : joinedFacts Try.pinned.checked.prog 5 Try.f5 Rows.clockReachesSpec Rows.clockReachesRow = true := by
  unfold joinedFacts
  exact (and_tt (and_tt (and_tt (and_tt (and_tt (and_tt (and_tt (and_tt (and_tt (and_tt (and_tt (and_tt (and_tt (and_tt (and_tt (and_tt (and_tt (and_tt (and_tt (and_tt (and_tt (and_tt (and_tt (and_tt (and_tt (and_tt (and_tt (and_tt (and_tt (and_tt (and_tt (by as_aux_lemma => kernel_rfl) (J_laid)) (J_maps)) (by as_aux_lemma => kernel_rfl)) (by as_aux_lemma => kernel_rfl)) (by as_aux_lemma => kernel_rfl)) (J_stops)) (by as_aux_lemma => kernel_rfl)) (J_knobs)) (by as_aux_lemma => kernel_rfl)) (by as_aux_lemma => kernel_rfl)) (by as_aux_lemma => kernel_rfl)) (by as_aux_lemma => kernel_rfl)) (by as_aux_lemma => kernel_rfl)) (by as_aux_lemma => kernel_rfl)) (by as_aux_lemma => kernel_rfl)) (by as_aux_lemma => kernel_rfl)) (by as_aux_lemma => kernel_rfl)) (by as_aux_lemma => kernel_rfl)) (by as_aux_lemma => kernel_rfl)) (by as_aux_lemma => kernel_rfl)) (by as_aux_lemma => kernel_rfl)) (J_keys)) (by as_aux_lemma => kernel_rfl)) (J_heard)) (J_enter)) (J_lifts)) (J_make)) (by as_aux_lemma => kernel_rfl)) (by as_aux_lemma => kernel_rfl)) (by as_aux_lemma => kernel_rfl)) (by as_aux_lemma => kernel_rfl))

/-- THE STATEMENT ClockReaches. -/
theorem ClockReaches_holds : Rows.ClockReachesSaid :=
  OpenClaim.holds_of_wide 5 Try.f5 rfl rfl rfl rfl rfl rfl rfl ⟨rfl, rfl, rfl, rfl, rfl⟩ rfl rfl rfl rfl rfl (by kernel_rfl) Try.func5 ClockReaches_closed
    (of_decide_eq_true (by kernel_rfl)) (by unfold Func.isWrapper; rw [if_neg (of_decide_eq_false (by kernel_rfl))]; exact ⟨rfl, rfl⟩)
    (fun os started H enc _ => ClockReaches_lifted os started H enc)
#print axioms ClockReaches_holds
end Go.Proofs.Ytpnigndobhbfnaa
