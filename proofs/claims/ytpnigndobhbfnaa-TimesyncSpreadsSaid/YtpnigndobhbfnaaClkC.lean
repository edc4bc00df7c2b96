/- The walks of package clock, third part: Reach, Begin, Send, Window, Slot, Adjust. -/
import Derived.Test.YtpnigndobhbfnaaClkB
namespace Go.Proofs.Ytpnigndobhbfnaa
open Go.RowKit
set_option maxHeartbeats 400000 in
theorem Reach_ok (o d x : Int) (w : World) (hv : Vc o d) (hx : x ≤ rd o d 1099511627776) :
    Calls Try.prog 28 #[.agg #[.int .i64 o, .int .i64 d], .int .i64 x] w fun e w' => e = .returned (.tuple #[.int .i64 (rch o d x), .int .i64 0]) ∧ Gr w w' := by
  have HV := Lib.hid hv
  clear hv
  go_enter Try.func28, Try.ntmps28
  go_wp2_with fail
  have g0 : Gr w (w.alloc (Obj.cells #[.int .i64 o, .int .i64 d] 23)) := (Gr.refl _).alloc _
  have k0 := Ck.new w o d 23
  generalize w.alloc (Obj.cells #[.int .i64 o, .int .i64 d] 23) = W at g0 k0 ⊢
  have S0 := Lib.hid g0
  have K0 := Lib.hid k0
  clear g0 k0
  refine (check_ok o d _ HV.out).mono ?_
  rintro e w1 ⟨rfl, hg⟩
  have S1 := Lib.hid (S0.out.trans hg)
  have K1 := Lib.hid (K0.out.gr hg)
  clear hg
  have c0 := K1.out.c0
  have c1 := K1.out.c1
  go_wp2_with fail
  clear c0 c1
  refine (of_any o d _).mono ?_
  rintro e w2 ⟨rfl, hg, hk⟩
  have S2 := Lib.hid (S1.out.trans hg)
  have K2 := Lib.hid (K1.out.gr hg)
  have D2 := Lib.hid hk
  clear hg hk
  go_wp2_with fail
  refine (reach_ok o d x _ _ HV.out D2.out hx).mono ?_
  rintro e w3 ⟨rfl, hg⟩
  have S3 := Lib.hid (S2.out.trans hg)
  clear hg
  go_wp2_with fail
  go_ret2
  exact ⟨rfl, S3.out⟩

set_option maxHeartbeats 400000 in
theorem Reach_late (o d x : Int) (w : World) (hv : Vc o d) (hx : rd o d 1099511627776 < x) :
    Calls Try.prog 28 #[.agg #[.int .i64 o, .int .i64 d], .int .i64 x] w fun e w' => e = .returned (.tuple #[.int .i64 0, .int .i64 15]) ∧ Gr w w' := by
  have HV := Lib.hid hv
  clear hv
  go_enter Try.func28, Try.ntmps28
  go_wp2_with fail
  have g0 : Gr w (w.alloc (Obj.cells #[.int .i64 o, .int .i64 d] 23)) := (Gr.refl _).alloc _
  have k0 := Ck.new w o d 23
  generalize w.alloc (Obj.cells #[.int .i64 o, .int .i64 d] 23) = W at g0 k0 ⊢
  have S0 := Lib.hid g0
  have K0 := Lib.hid k0
  clear g0 k0
  refine (check_ok o d _ HV.out).mono ?_
  rintro e w1 ⟨rfl, hg⟩
  have S1 := Lib.hid (S0.out.trans hg)
  have K1 := Lib.hid (K0.out.gr hg)
  clear hg
  have c0 := K1.out.c0
  have c1 := K1.out.c1
  go_wp2_with fail
  clear c0 c1
  refine (of_any o d _).mono ?_
  rintro e w2 ⟨rfl, hg, hk⟩
  have S2 := Lib.hid (S1.out.trans hg)
  have K2 := Lib.hid (K1.out.gr hg)
  have D2 := Lib.hid hk
  clear hg hk
  go_wp2_with fail
  refine (reach_no o d x _ _ HV.out D2.out hx).mono ?_
  rintro e w3 ⟨rfl, hg⟩
  have S3 := Lib.hid (S2.out.trans hg)
  clear hg
  go_wp2_with fail
  go_ret2
  exact ⟨rfl, S3.out⟩

set_option maxHeartbeats 400000 in
theorem Reach_arg (o d x : Int) (w : World) (hv : ¬ Vc o d) :
    Calls Try.prog 28 #[.agg #[.int .i64 o, .int .i64 d], .int .i64 x] w fun e w' => e = .returned (.tuple #[.int .i64 0, .int .i64 1]) ∧ Gr w w' := by
  have HV := Lib.hid hv
  clear hv
  go_enter Try.func28, Try.ntmps28
  go_wp2_with fail
  have g0 : Gr w (w.alloc (Obj.cells #[.int .i64 o, .int .i64 d] 23)) := (Gr.refl _).alloc _
  have k0 := Ck.new w o d 23
  generalize w.alloc (Obj.cells #[.int .i64 o, .int .i64 d] 23) = W at g0 k0 ⊢
  have S0 := Lib.hid g0
  have K0 := Lib.hid k0
  clear g0 k0
  refine (check_no o d _ HV.out).mono ?_
  rintro e w1 ⟨rfl, hg⟩
  have S1 := Lib.hid (S0.out.trans hg)
  have K1 := Lib.hid (K0.out.gr hg)
  clear hg
  have c0 := K1.out.c0
  have c1 := K1.out.c1
  go_wp2_with fail
  clear c0 c1
  go_ret2
  exact ⟨rfl, S1.out⟩

set_option maxHeartbeats 400000 in
theorem chk_ok (o d s : Int) (w : World) (hv : Vc o d) (h0 : 0 ≤ s) (h1 : s ≤ 109951162) :
    Calls Try.prog 96 #[.agg #[.int .i64 o, .int .i64 d], .int .i64 s] w fun e w' => e = .returned (.int .i64 0) ∧ Gr w w' := by
  have HV := Lib.hid hv
  clear hv
  go_enter Try.func96, Try.ntmps96
  go_wp2_with fail
  have g0 : Gr w (w.alloc (Obj.cells #[.int .i64 o, .int .i64 d] 23)) := (Gr.refl _).alloc _
  have k0 := Ck.new w o d 23
  generalize w.alloc (Obj.cells #[.int .i64 o, .int .i64 d] 23) = W at g0 k0 ⊢
  have S0 := Lib.hid g0
  have K0 := Lib.hid k0
  clear g0 k0
  refine (check_ok o d _ HV.out).mono ?_
  rintro e w1 ⟨rfl, hg⟩
  have S1 := Lib.hid (S0.out.trans hg)
  have K1 := Lib.hid (K0.out.gr hg)
  clear hg
  have c0 := K1.out.c0
  have c1 := K1.out.c1
  go_wp2_with fail
  clear c0 c1
  go_ret
  exact ⟨rfl, S1.out⟩

set_option maxHeartbeats 400000 in
theorem chk_arg (o d s : Int) (w : World) (hv : ¬ Vc o d) :
    Calls Try.prog 96 #[.agg #[.int .i64 o, .int .i64 d], .int .i64 s] w fun e w' => e = .returned (.int .i64 1) ∧ Gr w w' := by
  have HV := Lib.hid hv
  clear hv
  go_enter Try.func96, Try.ntmps96
  go_wp2_with fail
  have g0 : Gr w (w.alloc (Obj.cells #[.int .i64 o, .int .i64 d] 23)) := (Gr.refl _).alloc _
  have k0 := Ck.new w o d 23
  generalize w.alloc (Obj.cells #[.int .i64 o, .int .i64 d] 23) = W at g0 k0 ⊢
  have S0 := Lib.hid g0
  have K0 := Lib.hid k0
  clear g0 k0
  refine (check_no o d _ HV.out).mono ?_
  rintro e w1 ⟨rfl, hg⟩
  have S1 := Lib.hid (S0.out.trans hg)
  have K1 := Lib.hid (K0.out.gr hg)
  clear hg
  have c0 := K1.out.c0
  have c1 := K1.out.c1
  go_wp2_with fail
  clear c0 c1
  go_ret
  exact ⟨rfl, S1.out⟩

set_option maxHeartbeats 400000 in
theorem chk_range (o d s : Int) (w : World) (hv : Vc o d) (h : s < 0 ∨ 109951162 < s) :
    Calls Try.prog 96 #[.agg #[.int .i64 o, .int .i64 d], .int .i64 s] w fun e w' => e = .returned (.int .i64 2) ∧ Gr w w' := by
  have HV := Lib.hid hv
  clear hv
  rcases h with h | h
  all_goals
    go_enter Try.func96, Try.ntmps96
    go_wp2_with fail
    have g0 : Gr w (w.alloc (Obj.cells #[.int .i64 o, .int .i64 d] 23)) := (Gr.refl _).alloc _
    have k0 := Ck.new w o d 23
    generalize w.alloc (Obj.cells #[.int .i64 o, .int .i64 d] 23) = W at g0 k0 ⊢
    have S0 := Lib.hid g0
    have K0 := Lib.hid k0
    clear g0 k0
    refine (check_ok o d _ HV.out).mono ?_
    rintro e w1 ⟨rfl, hg⟩
    have S1 := Lib.hid (S0.out.trans hg)
    have K1 := Lib.hid (K0.out.gr hg)
    clear hg
    have c0 := K1.out.c0
    have c1 := K1.out.c1
    go_wp2_with fail
    clear c0 c1
    go_ret
    exact ⟨rfl, S1.out⟩


set_option maxHeartbeats 400000 in
theorem Begin_ok (o d s : Int) (w : World) (hv : Vc o d) (h0 : 0 ≤ s) (h1 : s ≤ 109951162) (hx : s * 10000 ≤ rd o d 1099511627776) :
    Calls Try.prog 35 #[.agg #[.int .i64 o, .int .i64 d], .int .i64 s] w fun e w' => e = .returned (.tuple #[.int .i64 (rch o d (s * 10000)), .int .i64 0]) ∧ Gr w w' := by
  have HV := Lib.hid hv
  clear hv
  go_enter Try.func35, Try.ntmps35
  go_wp2_with fail
  have g0 : Gr w (w.alloc (Obj.cells #[.int .i64 o, .int .i64 d] 23)) := (Gr.refl _).alloc _
  have k0 := Ck.new w o d 23
  generalize w.alloc (Obj.cells #[.int .i64 o, .int .i64 d] 23) = W at g0 k0 ⊢
  have S0 := Lib.hid g0
  have K0 := Lib.hid k0
  clear g0 k0
  refine (chk_ok o d s _ HV.out h0 h1).mono ?_
  rintro e w1 ⟨rfl, hg⟩
  have S1 := Lib.hid (S0.out.trans hg)
  have K1 := Lib.hid (K0.out.gr hg)
  clear hg
  have c0 := K1.out.c0
  have c1 := K1.out.c1
  go_wp2_with fail
  clear c0 c1
  refine (of_any o d _).mono ?_
  rintro e w2 ⟨rfl, hg, hk⟩
  have S2 := Lib.hid (S1.out.trans hg)
  have K2 := Lib.hid (K1.out.gr hg)
  have D2 := Lib.hid hk
  clear hg hk
  go_wp2_with fail
  refine (reach_ok o d (s * 10000) _ _ HV.out D2.out hx).mono ?_
  rintro e w3 ⟨rfl, hg⟩
  have S3 := Lib.hid (S2.out.trans hg)
  clear hg
  go_wp2_with fail
  go_ret2
  exact ⟨rfl, S3.out⟩

set_option maxHeartbeats 400000 in
theorem Begin_late (o d s : Int) (w : World) (hv : Vc o d) (h0 : 0 ≤ s) (h1 : s ≤ 109951162) (hx : rd o d 1099511627776 < s * 10000) :
    Calls Try.prog 35 #[.agg #[.int .i64 o, .int .i64 d], .int .i64 s] w fun e w' => e = .returned (.tuple #[.int .i64 0, .int .i64 15]) ∧ Gr w w' := by
  have HV := Lib.hid hv
  clear hv
  go_enter Try.func35, Try.ntmps35
  go_wp2_with fail
  have g0 : Gr w (w.alloc (Obj.cells #[.int .i64 o, .int .i64 d] 23)) := (Gr.refl _).alloc _
  have k0 := Ck.new w o d 23
  generalize w.alloc (Obj.cells #[.int .i64 o, .int .i64 d] 23) = W at g0 k0 ⊢
  have S0 := Lib.hid g0
  have K0 := Lib.hid k0
  clear g0 k0
  refine (chk_ok o d s _ HV.out h0 h1).mono ?_
  rintro e w1 ⟨rfl, hg⟩
  have S1 := Lib.hid (S0.out.trans hg)
  have K1 := Lib.hid (K0.out.gr hg)
  clear hg
  have c0 := K1.out.c0
  have c1 := K1.out.c1
  go_wp2_with fail
  clear c0 c1
  refine (of_any o d _).mono ?_
  rintro e w2 ⟨rfl, hg, hk⟩
  have S2 := Lib.hid (S1.out.trans hg)
  have K2 := Lib.hid (K1.out.gr hg)
  have D2 := Lib.hid hk
  clear hg hk
  go_wp2_with fail
  refine (reach_no o d (s * 10000) _ _ HV.out D2.out hx).mono ?_
  rintro e w3 ⟨rfl, hg⟩
  have S3 := Lib.hid (S2.out.trans hg)
  clear hg
  go_wp2_with fail
  go_ret2
  exact ⟨rfl, S3.out⟩

set_option maxHeartbeats 400000 in
theorem Begin_arg (o d s : Int) (w : World) (hv : ¬ Vc o d) :
    Calls Try.prog 35 #[.agg #[.int .i64 o, .int .i64 d], .int .i64 s] w fun e w' => e = .returned (.tuple #[.int .i64 0, .int .i64 1]) ∧ Gr w w' := by
  have HV := Lib.hid hv
  clear hv
  go_enter Try.func35, Try.ntmps35
  go_wp2_with fail
  have g0 : Gr w (w.alloc (Obj.cells #[.int .i64 o, .int .i64 d] 23)) := (Gr.refl _).alloc _
  have k0 := Ck.new w o d 23
  generalize w.alloc (Obj.cells #[.int .i64 o, .int .i64 d] 23) = W at g0 k0 ⊢
  have S0 := Lib.hid g0
  have K0 := Lib.hid k0
  clear g0 k0
  refine (chk_arg o d s _ HV.out).mono ?_
  rintro e w1 ⟨rfl, hg⟩
  have S1 := Lib.hid (S0.out.trans hg)
  have K1 := Lib.hid (K0.out.gr hg)
  clear hg
  have c0 := K1.out.c0
  have c1 := K1.out.c1
  go_wp2_with fail
  clear c0 c1
  go_ret2
  exact ⟨rfl, S1.out⟩

set_option maxHeartbeats 400000 in
theorem Begin_range (o d s : Int) (w : World) (hv : Vc o d) (h : s < 0 ∨ 109951162 < s) :
    Calls Try.prog 35 #[.agg #[.int .i64 o, .int .i64 d], .int .i64 s] w fun e w' => e = .returned (.tuple #[.int .i64 0, .int .i64 2]) ∧ Gr w w' := by
  have HV := Lib.hid hv
  have H := Lib.hid h
  clear hv h
  go_enter Try.func35, Try.ntmps35
  go_wp2_with fail
  have g0 : Gr w (w.alloc (Obj.cells #[.int .i64 o, .int .i64 d] 23)) := (Gr.refl _).alloc _
  have k0 := Ck.new w o d 23
  generalize w.alloc (Obj.cells #[.int .i64 o, .int .i64 d] 23) = W at g0 k0 ⊢
  have S0 := Lib.hid g0
  have K0 := Lib.hid k0
  clear g0 k0
  refine (chk_range o d s _ HV.out H.out).mono ?_
  rintro e w1 ⟨rfl, hg⟩
  have S1 := Lib.hid (S0.out.trans hg)
  have K1 := Lib.hid (K0.out.gr hg)
  clear hg
  have c0 := K1.out.c0
  have c1 := K1.out.c1
  go_wp2_with fail
  clear c0 c1
  go_ret2
  exact ⟨rfl, S1.out⟩

set_option maxHeartbeats 400000 in
theorem Send_ok (o d s : Int) (w : World) (hv : Vc o d) (h0 : 0 ≤ s) (h1 : s ≤ 109951162) (hx : s * 10000 + 2120 ≤ rd o d 1099511627776) :
    Calls Try.prog 37 #[.agg #[.int .i64 o, .int .i64 d], .int .i64 s] w fun e w' => e = .returned (.tuple #[.int .i64 (rch o d (s * 10000 + 2120)), .int .i64 0]) ∧ Gr w w' := by
  have HV := Lib.hid hv
  clear hv
  go_enter Try.func37, Try.ntmps37
  go_wp2_with fail
  have g0 : Gr w (w.alloc (Obj.cells #[.int .i64 o, .int .i64 d] 23)) := (Gr.refl _).alloc _
  have k0 := Ck.new w o d 23
  generalize w.alloc (Obj.cells #[.int .i64 o, .int .i64 d] 23) = W at g0 k0 ⊢
  have S0 := Lib.hid g0
  have K0 := Lib.hid k0
  clear g0 k0
  refine (chk_ok o d s _ HV.out h0 h1).mono ?_
  rintro e w1 ⟨rfl, hg⟩
  have S1 := Lib.hid (S0.out.trans hg)
  have K1 := Lib.hid (K0.out.gr hg)
  clear hg
  have c0 := K1.out.c0
  have c1 := K1.out.c1
  go_wp2_with fail
  clear c0 c1
  refine (of_any o d _).mono ?_
  rintro e w2 ⟨rfl, hg, hk⟩
  have S2 := Lib.hid (S1.out.trans hg)
  have K2 := Lib.hid (K1.out.gr hg)
  have D2 := Lib.hid hk
  clear hg hk
  go_wp2_with fail
  refine (reach_ok o d (s * 10000 + 2120) _ _ HV.out D2.out hx).mono ?_
  rintro e w3 ⟨rfl, hg⟩
  have S3 := Lib.hid (S2.out.trans hg)
  clear hg
  go_wp2_with fail
  go_ret2
  exact ⟨rfl, S3.out⟩

set_option maxHeartbeats 400000 in
theorem Send_late (o d s : Int) (w : World) (hv : Vc o d) (h0 : 0 ≤ s) (h1 : s ≤ 109951162) (hx : rd o d 1099511627776 < s * 10000 + 2120) :
    Calls Try.prog 37 #[.agg #[.int .i64 o, .int .i64 d], .int .i64 s] w fun e w' => e = .returned (.tuple #[.int .i64 0, .int .i64 15]) ∧ Gr w w' := by
  have HV := Lib.hid hv
  clear hv
  go_enter Try.func37, Try.ntmps37
  go_wp2_with fail
  have g0 : Gr w (w.alloc (Obj.cells #[.int .i64 o, .int .i64 d] 23)) := (Gr.refl _).alloc _
  have k0 := Ck.new w o d 23
  generalize w.alloc (Obj.cells #[.int .i64 o, .int .i64 d] 23) = W at g0 k0 ⊢
  have S0 := Lib.hid g0
  have K0 := Lib.hid k0
  clear g0 k0
  refine (chk_ok o d s _ HV.out h0 h1).mono ?_
  rintro e w1 ⟨rfl, hg⟩
  have S1 := Lib.hid (S0.out.trans hg)
  have K1 := Lib.hid (K0.out.gr hg)
  clear hg
  have c0 := K1.out.c0
  have c1 := K1.out.c1
  go_wp2_with fail
  clear c0 c1
  refine (of_any o d _).mono ?_
  rintro e w2 ⟨rfl, hg, hk⟩
  have S2 := Lib.hid (S1.out.trans hg)
  have K2 := Lib.hid (K1.out.gr hg)
  have D2 := Lib.hid hk
  clear hg hk
  go_wp2_with fail
  refine (reach_no o d (s * 10000 + 2120) _ _ HV.out D2.out hx).mono ?_
  rintro e w3 ⟨rfl, hg⟩
  have S3 := Lib.hid (S2.out.trans hg)
  clear hg
  go_wp2_with fail
  go_ret2
  exact ⟨rfl, S3.out⟩

set_option maxHeartbeats 400000 in
theorem Send_arg (o d s : Int) (w : World) (hv : ¬ Vc o d) :
    Calls Try.prog 37 #[.agg #[.int .i64 o, .int .i64 d], .int .i64 s] w fun e w' => e = .returned (.tuple #[.int .i64 0, .int .i64 1]) ∧ Gr w w' := by
  have HV := Lib.hid hv
  clear hv
  go_enter Try.func37, Try.ntmps37
  go_wp2_with fail
  have g0 : Gr w (w.alloc (Obj.cells #[.int .i64 o, .int .i64 d] 23)) := (Gr.refl _).alloc _
  have k0 := Ck.new w o d 23
  generalize w.alloc (Obj.cells #[.int .i64 o, .int .i64 d] 23) = W at g0 k0 ⊢
  have S0 := Lib.hid g0
  have K0 := Lib.hid k0
  clear g0 k0
  refine (chk_arg o d s _ HV.out).mono ?_
  rintro e w1 ⟨rfl, hg⟩
  have S1 := Lib.hid (S0.out.trans hg)
  have K1 := Lib.hid (K0.out.gr hg)
  clear hg
  have c0 := K1.out.c0
  have c1 := K1.out.c1
  go_wp2_with fail
  clear c0 c1
  go_ret2
  exact ⟨rfl, S1.out⟩

set_option maxHeartbeats 400000 in
theorem Send_range (o d s : Int) (w : World) (hv : Vc o d) (h : s < 0 ∨ 109951162 < s) :
    Calls Try.prog 37 #[.agg #[.int .i64 o, .int .i64 d], .int .i64 s] w fun e w' => e = .returned (.tuple #[.int .i64 0, .int .i64 2]) ∧ Gr w w' := by
  have HV := Lib.hid hv
  have H := Lib.hid h
  clear hv h
  go_enter Try.func37, Try.ntmps37
  go_wp2_with fail
  have g0 : Gr w (w.alloc (Obj.cells #[.int .i64 o, .int .i64 d] 23)) := (Gr.refl _).alloc _
  have k0 := Ck.new w o d 23
  generalize w.alloc (Obj.cells #[.int .i64 o, .int .i64 d] 23) = W at g0 k0 ⊢
  have S0 := Lib.hid g0
  have K0 := Lib.hid k0
  clear g0 k0
  refine (chk_range o d s _ HV.out H.out).mono ?_
  rintro e w1 ⟨rfl, hg⟩
  have S1 := Lib.hid (S0.out.trans hg)
  have K1 := Lib.hid (K0.out.gr hg)
  clear hg
  have c0 := K1.out.c0
  have c1 := K1.out.c1
  go_wp2_with fail
  clear c0 c1
  go_ret2
  exact ⟨rfl, S1.out⟩
set_option maxHeartbeats 400000 in
theorem Window_ok (o d s : Int) (w : World) (hv : Vc o d) (h0 : 0 ≤ s) (h1 : s ≤ 109951162) (hx : s * 10000 + 3221 ≤ rd o d 1099511627776) :
    Calls Try.prog 39 #[.agg #[.int .i64 o, .int .i64 d], .int .i64 s] w fun e w' => e = .returned (.tuple #[.int .i64 (rch o d (s * 10000 + 1020)), .int .i64 (rch o d (s * 10000 + 3221) - 1), .int .i64 0]) ∧ Gr w w' := by
  have hr : IsRch o d (s * 10000 + 2120 + 1100 + 1) (rch o d (s * 10000 + 2120 + 1100 + 1)) := rch_is (by omega)
  have r0 := hr.lo
  have r1 := hr.hi
  clear hr
  have HV := Lib.hid hv
  clear hv
  go_enter Try.func39, Try.ntmps39
  go_wp2_with fail
  have g0 : Gr w (w.alloc (Obj.cells #[.int .i64 o, .int .i64 d] 23)) := (Gr.refl _).alloc _
  have k0 := Ck.new w o d 23
  generalize w.alloc (Obj.cells #[.int .i64 o, .int .i64 d] 23) = W at g0 k0 ⊢
  have S0 := Lib.hid g0
  have K0 := Lib.hid k0
  clear g0 k0
  refine (chk_ok o d s _ HV.out h0 h1).mono ?_
  rintro e w1 ⟨rfl, hg⟩
  have S1 := Lib.hid (S0.out.trans hg)
  have K1 := Lib.hid (K0.out.gr hg)
  clear hg
  have c0 := K1.out.c0
  have c1 := K1.out.c1
  go_wp2_with fail
  clear c0 c1
  refine (of_any o d _).mono ?_
  rintro e w2 ⟨rfl, hg, hk⟩
  have S2 := Lib.hid (S1.out.trans hg)
  have K2 := Lib.hid (K1.out.gr hg)
  have D2 := Lib.hid hk
  clear hg hk
  have c0 := K2.out.c0
  have c1 := K2.out.c1
  go_wp2_with fail
  clear c0 c1
  refine (reach_ok o d (s * 10000 + 2120 - 1100) _ _ HV.out D2.out (by omega)).mono ?_
  rintro e w3 ⟨rfl, hg⟩
  have S3 := Lib.hid (S2.out.trans hg)
  have K3 := Lib.hid (K2.out.gr hg)
  clear hg
  have c0 := K3.out.c0
  have c1 := K3.out.c1
  go_wp2_with fail
  clear c0 c1
  refine (of_any o d _).mono ?_
  rintro e w4 ⟨rfl, hg, hk⟩
  have S4 := Lib.hid (S3.out.trans hg)
  have K4 := Lib.hid (K3.out.gr hg)
  have D4 := Lib.hid hk
  clear hg hk
  go_wp2_with fail
  refine (reach_ok o d (s * 10000 + 2120 + 1100 + 1) _ _ HV.out D4.out (by omega)).mono ?_
  rintro e w5 ⟨rfl, hg⟩
  have S5 := Lib.hid (S4.out.trans hg)
  clear hg
  go_wp2_with fail
  rw [show s * 10000 + 2120 - 1100 = s * 10000 + 1020 by omega, show s * 10000 + 2120 + 1100 + 1 = s * 10000 + 3221 by omega]
  go_ret3
  exact ⟨rfl, S5.out⟩

set_option maxHeartbeats 400000 in
theorem Window_late1 (o d s : Int) (w : World) (hv : Vc o d) (h0 : 0 ≤ s) (h1 : s ≤ 109951162) (hx : rd o d 1099511627776 < s * 10000 + 3221) (hy : s * 10000 + 1020 ≤ rd o d 1099511627776) :
    Calls Try.prog 39 #[.agg #[.int .i64 o, .int .i64 d], .int .i64 s] w fun e w' => e = .returned (.tuple #[.int .i64 0, .int .i64 0, .int .i64 15]) ∧ Gr w w' := by
  have HV := Lib.hid hv
  clear hv
  go_enter Try.func39, Try.ntmps39
  go_wp2_with fail
  have g0 : Gr w (w.alloc (Obj.cells #[.int .i64 o, .int .i64 d] 23)) := (Gr.refl _).alloc _
  have k0 := Ck.new w o d 23
  generalize w.alloc (Obj.cells #[.int .i64 o, .int .i64 d] 23) = W at g0 k0 ⊢
  have S0 := Lib.hid g0
  have K0 := Lib.hid k0
  clear g0 k0
  refine (chk_ok o d s _ HV.out h0 h1).mono ?_
  rintro e w1 ⟨rfl, hg⟩
  have S1 := Lib.hid (S0.out.trans hg)
  have K1 := Lib.hid (K0.out.gr hg)
  clear hg
  have c0 := K1.out.c0
  have c1 := K1.out.c1
  go_wp2_with fail
  clear c0 c1
  refine (of_any o d _).mono ?_
  rintro e w2 ⟨rfl, hg, hk⟩
  have S2 := Lib.hid (S1.out.trans hg)
  have K2 := Lib.hid (K1.out.gr hg)
  have D2 := Lib.hid hk
  clear hg hk
  have c0 := K2.out.c0
  have c1 := K2.out.c1
  go_wp2_with fail
  clear c0 c1
  refine (reach_ok o d (s * 10000 + 2120 - 1100) _ _ HV.out D2.out (by omega)).mono ?_
  rintro e w3 ⟨rfl, hg⟩
  have S3 := Lib.hid (S2.out.trans hg)
  have K3 := Lib.hid (K2.out.gr hg)
  clear hg
  have c0 := K3.out.c0
  have c1 := K3.out.c1
  go_wp2_with fail
  clear c0 c1
  refine (of_any o d _).mono ?_
  rintro e w4 ⟨rfl, hg, hk⟩
  have S4 := Lib.hid (S3.out.trans hg)
  have K4 := Lib.hid (K3.out.gr hg)
  have D4 := Lib.hid hk
  clear hg hk
  go_wp2_with fail
  refine (reach_no o d (s * 10000 + 2120 + 1100 + 1) _ _ HV.out D4.out (by omega)).mono ?_
  rintro e w5 ⟨rfl, hg⟩
  have S5 := Lib.hid (S4.out.trans hg)
  clear hg
  go_wp2_with fail
  go_ret3
  exact ⟨rfl, S5.out⟩

set_option maxHeartbeats 400000 in
theorem Window_late2 (o d s : Int) (w : World) (hv : Vc o d) (h0 : 0 ≤ s) (h1 : s ≤ 109951162) (_hx : rd o d 1099511627776 < s * 10000 + 3221) (hy : rd o d 1099511627776 < s * 10000 + 1020) :
    Calls Try.prog 39 #[.agg #[.int .i64 o, .int .i64 d], .int .i64 s] w fun e w' => e = .returned (.tuple #[.int .i64 0, .int .i64 0, .int .i64 15]) ∧ Gr w w' := by
  have HV := Lib.hid hv
  clear hv
  go_enter Try.func39, Try.ntmps39
  go_wp2_with fail
  have g0 : Gr w (w.alloc (Obj.cells #[.int .i64 o, .int .i64 d] 23)) := (Gr.refl _).alloc _
  have k0 := Ck.new w o d 23
  generalize w.alloc (Obj.cells #[.int .i64 o, .int .i64 d] 23) = W at g0 k0 ⊢
  have S0 := Lib.hid g0
  have K0 := Lib.hid k0
  clear g0 k0
  refine (chk_ok o d s _ HV.out h0 h1).mono ?_
  rintro e w1 ⟨rfl, hg⟩
  have S1 := Lib.hid (S0.out.trans hg)
  have K1 := Lib.hid (K0.out.gr hg)
  clear hg
  have c0 := K1.out.c0
  have c1 := K1.out.c1
  go_wp2_with fail
  clear c0 c1
  refine (of_any o d _).mono ?_
  rintro e w2 ⟨rfl, hg, hk⟩
  have S2 := Lib.hid (S1.out.trans hg)
  have K2 := Lib.hid (K1.out.gr hg)
  have D2 := Lib.hid hk
  clear hg hk
  have c0 := K2.out.c0
  have c1 := K2.out.c1
  go_wp2_with fail
  clear c0 c1
  refine (reach_no o d (s * 10000 + 2120 - 1100) _ _ HV.out D2.out (by omega)).mono ?_
  rintro e w3 ⟨rfl, hg⟩
  have S3 := Lib.hid (S2.out.trans hg)
  have K3 := Lib.hid (K2.out.gr hg)
  clear hg
  have c0 := K3.out.c0
  have c1 := K3.out.c1
  go_wp2_with fail
  clear c0 c1
  refine (of_any o d _).mono ?_
  rintro e w4 ⟨rfl, hg, hk⟩
  have S4 := Lib.hid (S3.out.trans hg)
  have K4 := Lib.hid (K3.out.gr hg)
  have D4 := Lib.hid hk
  clear hg hk
  go_wp2_with fail
  refine (reach_no o d (s * 10000 + 2120 + 1100 + 1) _ _ HV.out D4.out (by omega)).mono ?_
  rintro e w5 ⟨rfl, hg⟩
  have S5 := Lib.hid (S4.out.trans hg)
  clear hg
  go_wp2_with fail
  go_ret3
  exact ⟨rfl, S5.out⟩

set_option maxHeartbeats 400000 in
theorem Window_arg (o d s : Int) (w : World) (hv : ¬ Vc o d) :
    Calls Try.prog 39 #[.agg #[.int .i64 o, .int .i64 d], .int .i64 s] w fun e w' => e = .returned (.tuple #[.int .i64 0, .int .i64 0, .int .i64 1]) ∧ Gr w w' := by
  have HV := Lib.hid hv
  clear hv
  go_enter Try.func39, Try.ntmps39
  go_wp2_with fail
  have g0 : Gr w (w.alloc (Obj.cells #[.int .i64 o, .int .i64 d] 23)) := (Gr.refl _).alloc _
  have k0 := Ck.new w o d 23
  generalize w.alloc (Obj.cells #[.int .i64 o, .int .i64 d] 23) = W at g0 k0 ⊢
  have S0 := Lib.hid g0
  have K0 := Lib.hid k0
  clear g0 k0
  refine (chk_arg o d s _ HV.out).mono ?_
  rintro e w1 ⟨rfl, hg⟩
  have S1 := Lib.hid (S0.out.trans hg)
  have K1 := Lib.hid (K0.out.gr hg)
  clear hg
  have c0 := K1.out.c0
  have c1 := K1.out.c1
  go_wp2_with fail
  clear c0 c1
  go_ret3
  exact ⟨rfl, S1.out⟩

set_option maxHeartbeats 400000 in
theorem Window_range (o d s : Int) (w : World) (hv : Vc o d) (h : s < 0 ∨ 109951162 < s) :
    Calls Try.prog 39 #[.agg #[.int .i64 o, .int .i64 d], .int .i64 s] w fun e w' => e = .returned (.tuple #[.int .i64 0, .int .i64 0, .int .i64 2]) ∧ Gr w w' := by
  have HV := Lib.hid hv
  have H := Lib.hid h
  clear hv h
  go_enter Try.func39, Try.ntmps39
  go_wp2_with fail
  have g0 : Gr w (w.alloc (Obj.cells #[.int .i64 o, .int .i64 d] 23)) := (Gr.refl _).alloc _
  have k0 := Ck.new w o d 23
  generalize w.alloc (Obj.cells #[.int .i64 o, .int .i64 d] 23) = W at g0 k0 ⊢
  have S0 := Lib.hid g0
  have K0 := Lib.hid k0
  clear g0 k0
  refine (chk_range o d s _ HV.out H.out).mono ?_
  rintro e w1 ⟨rfl, hg⟩
  have S1 := Lib.hid (S0.out.trans hg)
  have K1 := Lib.hid (K0.out.gr hg)
  clear hg
  have c0 := K1.out.c0
  have c1 := K1.out.c1
  go_wp2_with fail
  clear c0 c1
  go_ret3
  exact ⟨rfl, S1.out⟩

set_option maxHeartbeats 400000 in
theorem Slot_ok (o d t : Int) (w : World) (hv : Vc o d) (h0 : 0 ≤ t) (h1 : t ≤ 1099511627776) (_hx : 0 ≤ rd o d t) :
    Calls Try.prog 31 #[.agg #[.int .i64 o, .int .i64 d], .int .i64 t] w fun e w' => e = .returned (.tuple #[.int .i64 (rd o d t / 10000), .int .i64 0]) ∧ Gr w w' := by
  have hb := (rd_bd hv h0 h1).2
  have HV := Lib.hid hv
  clear hv
  go_enter Try.func31, Try.ntmps31
  go_wp2_with fail
  have g0 : Gr w (w.alloc (Obj.cells #[.int .i64 o, .int .i64 d] 23)) := (Gr.refl _).alloc _
  have k0 := Ck.new w o d 23
  generalize w.alloc (Obj.cells #[.int .i64 o, .int .i64 d] 23) = W at g0 k0 ⊢
  have S0 := Lib.hid g0
  have K0 := Lib.hid k0
  clear g0 k0
  refine (show_ok o d t _ HV.out h0 h1).mono ?_
  rintro e w1 ⟨rfl, hg⟩
  have S1 := Lib.hid (S0.out.trans hg)
  clear hg
  go_wp2_with fail
  go_ret2
  exact ⟨rfl, S1.out⟩

set_option maxHeartbeats 400000 in
theorem Slot_empty (o d t : Int) (w : World) (hv : Vc o d) (h0 : 0 ≤ t) (h1 : t ≤ 1099511627776) (hx : rd o d t < 0) :
    Calls Try.prog 31 #[.agg #[.int .i64 o, .int .i64 d], .int .i64 t] w fun e w' => e = .returned (.tuple #[.int .i64 0, .int .i64 14]) ∧ Gr w w' := by
  have HV := Lib.hid hv
  clear hv
  go_enter Try.func31, Try.ntmps31
  go_wp2_with fail
  have g0 : Gr w (w.alloc (Obj.cells #[.int .i64 o, .int .i64 d] 23)) := (Gr.refl _).alloc _
  have k0 := Ck.new w o d 23
  generalize w.alloc (Obj.cells #[.int .i64 o, .int .i64 d] 23) = W at g0 k0 ⊢
  have S0 := Lib.hid g0
  have K0 := Lib.hid k0
  clear g0 k0
  refine (show_ok o d t _ HV.out h0 h1).mono ?_
  rintro e w1 ⟨rfl, hg⟩
  have S1 := Lib.hid (S0.out.trans hg)
  clear hg
  go_wp2_with fail
  go_ret2
  exact ⟨rfl, S1.out⟩

set_option maxHeartbeats 400000 in
theorem Slot_arg (o d t : Int) (w : World) (hv : ¬ Vc o d) :
    Calls Try.prog 31 #[.agg #[.int .i64 o, .int .i64 d], .int .i64 t] w fun e w' => e = .returned (.tuple #[.int .i64 0, .int .i64 1]) ∧ Gr w w' := by
  have HV := Lib.hid hv
  clear hv
  go_enter Try.func31, Try.ntmps31
  go_wp2_with fail
  have g0 : Gr w (w.alloc (Obj.cells #[.int .i64 o, .int .i64 d] 23)) := (Gr.refl _).alloc _
  have k0 := Ck.new w o d 23
  generalize w.alloc (Obj.cells #[.int .i64 o, .int .i64 d] 23) = W at g0 k0 ⊢
  have S0 := Lib.hid g0
  have K0 := Lib.hid k0
  clear g0 k0
  refine (show_arg o d t _ HV.out).mono ?_
  rintro e w1 ⟨rfl, hg⟩
  have S1 := Lib.hid (S0.out.trans hg)
  clear hg
  go_wp2_with fail
  go_ret2
  exact ⟨rfl, S1.out⟩

set_option maxHeartbeats 400000 in
theorem Slot_range (o d t : Int) (w : World) (hv : Vc o d) (h : ¬ (0 ≤ t ∧ t ≤ 1099511627776)) :
    Calls Try.prog 31 #[.agg #[.int .i64 o, .int .i64 d], .int .i64 t] w fun e w' => e = .returned (.tuple #[.int .i64 0, .int .i64 2]) ∧ Gr w w' := by
  have HV := Lib.hid hv
  have H := Lib.hid h
  clear hv h
  go_enter Try.func31, Try.ntmps31
  go_wp2_with fail
  have g0 : Gr w (w.alloc (Obj.cells #[.int .i64 o, .int .i64 d] 23)) := (Gr.refl _).alloc _
  have k0 := Ck.new w o d 23
  generalize w.alloc (Obj.cells #[.int .i64 o, .int .i64 d] 23) = W at g0 k0 ⊢
  have S0 := Lib.hid g0
  have K0 := Lib.hid k0
  clear g0 k0
  refine (show_range o d t _ HV.out H.out).mono ?_
  rintro e w1 ⟨rfl, hg⟩
  have S1 := Lib.hid (S0.out.trans hg)
  clear hg
  go_wp2_with fail
  go_ret2
  exact ⟨rfl, S1.out⟩

theorem Ck.set0 {w : World} {B : Nat} {o d : Int} (k : Ck w B o d) (x : Int) : Ck (w.setCell ⟨B, 0, none⟩ (.int .i64 x)) B x d :=
  ⟨World.cell?_setCell_same _ _ _ k.c0, (World.cell?_setCell_other _ _ _ _ (by simp)).trans k.c1, by simpa [World.setCell] using k.lt, by simpa using k.f0, by simpa using k.f1⟩
theorem Ck.setOther {w : World} {B : Nat} {o d : Int} (k : Ck w B o d) {p : Addr} (hp : p.block ≠ B) (v : Value) : Ck (w.setCell p v) B o d :=
  ⟨(World.cell?_setCell_other _ _ _ _ (by rintro rfl; exact hp rfl)).trans k.c0, (World.cell?_setCell_other _ _ _ _ (by rintro rfl; exact hp rfl)).trans k.c1, by simpa [World.setCell] using k.lt, by simpa using k.f0, by simpa using k.f1⟩

set_option maxHeartbeats 400000 in
theorem Adjust_ok (o d b : Int) (w : World) (hv : Vc o d) (h0 : -2199023255552 ≤ b) (h1 : b ≤ 2199023255552) (hw : Vc (o + b) d) :
    Calls Try.prog 56 #[.agg #[.int .i64 o, .int .i64 d], .int .i64 b] w fun e w' => e = .returned (.tuple #[.agg #[.int .i64 (o + b), .int .i64 d], .int .i64 0]) ∧ Gr w w' := by
  have v0 := hv.o0
  have v1 := hv.o1
  have HV := Lib.hid hv
  have HW := Lib.hid hw
  clear hv hw
  go_enter Try.func56, Try.ntmps56
  go_wp2_with fail
  have g0 : Gr w ((w.alloc (Obj.cells #[.int .i64 o, .int .i64 d] 23)).alloc (Obj.cells #[.int .i64 0, .int .i64 0] 23)) := ((Gr.refl _).alloc _).alloc _
  have k0 : Ck ((w.alloc (Obj.cells #[.int .i64 o, .int .i64 d] 23)).alloc (Obj.cells #[.int .i64 0, .int .i64 0] 23)) w.heap.size o d := (Ck.new w o d 23).gr ((Gr.refl _).alloc _)
  have r0 : Ck ((w.alloc (Obj.cells #[.int .i64 o, .int .i64 d] 23)).alloc (Obj.cells #[.int .i64 0, .int .i64 0] 23)) (w.heap.size + 1) 0 0 := by
    have := Ck.new (w.alloc (Obj.cells #[.int .i64 o, .int .i64 d] 23)) 0 0 23
    rwa [World.size_alloc] at this
  generalize (w.alloc (Obj.cells #[.int .i64 o, .int .i64 d] 23)).alloc (Obj.cells #[.int .i64 0, .int .i64 0] 23) = W at g0 k0 r0 ⊢
  have S0 := Lib.hid g0
  have K0 := Lib.hid k0
  have R0 := Lib.hid r0
  clear g0 k0 r0
  refine (check_ok o d _ HV.out).mono ?_
  rintro e w1 ⟨rfl, hg⟩
  have S1 := Lib.hid (S0.out.trans hg)
  have K1 := Lib.hid (K0.out.gr hg)
  have R1 := Lib.hid (R0.out.gr hg)
  clear hg
  have c0 := K1.out.c0
  have c1 := K1.out.c1
  have f0 := K1.out.f0
  have f1 := K1.out.f1
  have r0 := R1.out.c0
  have r1 := R1.out.c1
  have q0 := R1.out.f0
  have q1 := R1.out.f1
  go_wp2_with fail
  clear c0 c1 f0 f1 r0 r1 q0 q1
  have S2 := Lib.hid (Gr.set S1.out (p := ⟨w.heap.size, 0, none⟩) (Nat.le_refl _) (.int .i64 (o + b)))
  have K2 := Lib.hid (K1.out.set0 (o + b))
  have R2 := Lib.hid (R1.out.setOther (p := ⟨w.heap.size, 0, none⟩) (by simp) (.int .i64 (o + b)))
  refine (check_ok (o + b) d _ HW.out).mono ?_
  rintro e w3 ⟨rfl, hg⟩
  have S3 := Lib.hid (S2.out.trans hg)
  have K3 := Lib.hid (K2.out.gr hg)
  have R3 := Lib.hid (R2.out.gr hg)
  clear hg
  have c0 := K3.out.c0
  have c1 := K3.out.c1
  have f0 := K3.out.f0
  have f1 := K3.out.f1
  have r0 := R3.out.c0
  have r1 := R3.out.c1
  have q0 := R3.out.f0
  have q1 := R3.out.f1
  go_wp2_with fail
  have GS := S3
  refine bodyPost_ret (v := .tuple #[.agg #[.int .i64 (o + b), .int .i64 d], .int .i64 0]) (by simp [results, Try.results56, go_sem, r0, r1]) rfl ⟨rfl, ?_⟩
  exact Gr.set (Gr.set GS.out (p := ⟨w.heap.size + 1, 0, none⟩) (Nat.le_succ _) _) (p := ⟨w.heap.size + 1, 1, none⟩) (Nat.le_succ _) _

set_option maxHeartbeats 400000 in
theorem Adjust_no (o d b : Int) (w : World) (hv : Vc o d) (h0 : -2199023255552 ≤ b) (h1 : b ≤ 2199023255552) (hw : ¬ Vc (o + b) d) :
    Calls Try.prog 56 #[.agg #[.int .i64 o, .int .i64 d], .int .i64 b] w fun e w' => e = .returned (.tuple #[.agg #[.int .i64 0, .int .i64 0], .int .i64 1]) ∧ Gr w w' := by
  have v0 := hv.o0
  have v1 := hv.o1
  have HV := Lib.hid hv
  have HW := Lib.hid hw
  clear hv hw
  go_enter Try.func56, Try.ntmps56
  go_wp2_with fail
  have g0 : Gr w ((w.alloc (Obj.cells #[.int .i64 o, .int .i64 d] 23)).alloc (Obj.cells #[.int .i64 0, .int .i64 0] 23)) := ((Gr.refl _).alloc _).alloc _
  have k0 : Ck ((w.alloc (Obj.cells #[.int .i64 o, .int .i64 d] 23)).alloc (Obj.cells #[.int .i64 0, .int .i64 0] 23)) w.heap.size o d := (Ck.new w o d 23).gr ((Gr.refl _).alloc _)
  have r0 : Ck ((w.alloc (Obj.cells #[.int .i64 o, .int .i64 d] 23)).alloc (Obj.cells #[.int .i64 0, .int .i64 0] 23)) (w.heap.size + 1) 0 0 := by
    have := Ck.new (w.alloc (Obj.cells #[.int .i64 o, .int .i64 d] 23)) 0 0 23
    rwa [World.size_alloc] at this
  generalize (w.alloc (Obj.cells #[.int .i64 o, .int .i64 d] 23)).alloc (Obj.cells #[.int .i64 0, .int .i64 0] 23) = W at g0 k0 r0 ⊢
  have S0 := Lib.hid g0
  have K0 := Lib.hid k0
  have R0 := Lib.hid r0
  clear g0 k0 r0
  refine (check_ok o d _ HV.out).mono ?_
  rintro e w1 ⟨rfl, hg⟩
  have S1 := Lib.hid (S0.out.trans hg)
  have K1 := Lib.hid (K0.out.gr hg)
  have R1 := Lib.hid (R0.out.gr hg)
  clear hg
  have c0 := K1.out.c0
  have c1 := K1.out.c1
  have f0 := K1.out.f0
  have f1 := K1.out.f1
  have r0 := R1.out.c0
  have r1 := R1.out.c1
  have q0 := R1.out.f0
  have q1 := R1.out.f1
  go_wp2_with fail
  clear c0 c1 f0 f1 r0 r1 q0 q1
  have S2 := Lib.hid (Gr.set S1.out (p := ⟨w.heap.size, 0, none⟩) (Nat.le_refl _) (.int .i64 (o + b)))
  have K2 := Lib.hid (K1.out.set0 (o + b))
  have R2 := Lib.hid (R1.out.setOther (p := ⟨w.heap.size, 0, none⟩) (by simp) (.int .i64 (o + b)))
  refine (check_no (o + b) d _ HW.out).mono ?_
  rintro e w3 ⟨rfl, hg⟩
  have S3 := Lib.hid (S2.out.trans hg)
  have K3 := Lib.hid (K2.out.gr hg)
  have R3 := Lib.hid (R2.out.gr hg)
  clear hg
  have c0 := K3.out.c0
  have c1 := K3.out.c1
  have f0 := K3.out.f0
  have f1 := K3.out.f1
  have r0 := R3.out.c0
  have r1 := R3.out.c1
  have q0 := R3.out.f0
  have q1 := R3.out.f1
  go_wp2_with fail
  have GS := S3
  refine bodyPost_ret (v := .tuple #[.agg #[.int .i64 0, .int .i64 0], .int .i64 1]) (by simp [results, Try.results56, go_sem, r0, r1]) rfl ⟨rfl, ?_⟩
  exact Gr.set (Gr.set GS.out (p := ⟨w.heap.size + 1, 0, none⟩) (Nat.le_succ _) _) (p := ⟨w.heap.size + 1, 1, none⟩) (Nat.le_succ _) _

set_option maxHeartbeats 400000 in
theorem Adjust_arg (o d b : Int) (w : World) (hv : ¬ Vc o d) :
    Calls Try.prog 56 #[.agg #[.int .i64 o, .int .i64 d], .int .i64 b] w fun e w' => e = .returned (.tuple #[.agg #[.int .i64 0, .int .i64 0], .int .i64 1]) ∧ Gr w w' := by
  have HV := Lib.hid hv
  clear hv
  go_enter Try.func56, Try.ntmps56
  go_wp2_with fail
  have g0 : Gr w ((w.alloc (Obj.cells #[.int .i64 o, .int .i64 d] 23)).alloc (Obj.cells #[.int .i64 0, .int .i64 0] 23)) := ((Gr.refl _).alloc _).alloc _
  have k0 : Ck ((w.alloc (Obj.cells #[.int .i64 o, .int .i64 d] 23)).alloc (Obj.cells #[.int .i64 0, .int .i64 0] 23)) w.heap.size o d := (Ck.new w o d 23).gr ((Gr.refl _).alloc _)
  have r0 : Ck ((w.alloc (Obj.cells #[.int .i64 o, .int .i64 d] 23)).alloc (Obj.cells #[.int .i64 0, .int .i64 0] 23)) (w.heap.size + 1) 0 0 := by
    have := Ck.new (w.alloc (Obj.cells #[.int .i64 o, .int .i64 d] 23)) 0 0 23
    rwa [World.size_alloc] at this
  generalize (w.alloc (Obj.cells #[.int .i64 o, .int .i64 d] 23)).alloc (Obj.cells #[.int .i64 0, .int .i64 0] 23) = W at g0 k0 r0 ⊢
  have S0 := Lib.hid g0
  have K0 := Lib.hid k0
  have R0 := Lib.hid r0
  clear g0 k0 r0
  refine (check_no o d _ HV.out).mono ?_
  rintro e w1 ⟨rfl, hg⟩
  have S1 := Lib.hid (S0.out.trans hg)
  have K1 := Lib.hid (K0.out.gr hg)
  have R1 := Lib.hid (R0.out.gr hg)
  clear hg
  have c0 := K1.out.c0
  have c1 := K1.out.c1
  have f0 := K1.out.f0
  have f1 := K1.out.f1
  have r0 := R1.out.c0
  have r1 := R1.out.c1
  have q0 := R1.out.f0
  have q1 := R1.out.f1
  go_wp2_with fail
  have GS := S1
  refine bodyPost_ret (v := .tuple #[.agg #[.int .i64 0, .int .i64 0], .int .i64 1]) (by simp [results, Try.results56, go_sem, r0, r1]) rfl ⟨rfl, ?_⟩
  exact Gr.set (Gr.set GS.out (p := ⟨w.heap.size + 1, 0, none⟩) (Nat.le_succ _) _) (p := ⟨w.heap.size + 1, 1, none⟩) (Nat.le_succ _) _

set_option maxHeartbeats 400000 in
theorem Adjust_far (o d b : Int) (w : World) (hv : Vc o d) (h : b < -2199023255552 ∨ 2199023255552 < b) :
    Calls Try.prog 56 #[.agg #[.int .i64 o, .int .i64 d], .int .i64 b] w fun e w' => e = .returned (.tuple #[.agg #[.int .i64 0, .int .i64 0], .int .i64 1]) ∧ Gr w w' := by
  have HV := Lib.hid hv
  clear hv
  rcases h with h | h
  all_goals
    go_enter Try.func56, Try.ntmps56
    go_wp2_with fail
    have g0 : Gr w ((w.alloc (Obj.cells #[.int .i64 o, .int .i64 d] 23)).alloc (Obj.cells #[.int .i64 0, .int .i64 0] 23)) := ((Gr.refl _).alloc _).alloc _
    have k0 : Ck ((w.alloc (Obj.cells #[.int .i64 o, .int .i64 d] 23)).alloc (Obj.cells #[.int .i64 0, .int .i64 0] 23)) w.heap.size o d := (Ck.new w o d 23).gr ((Gr.refl _).alloc _)
    have r0 : Ck ((w.alloc (Obj.cells #[.int .i64 o, .int .i64 d] 23)).alloc (Obj.cells #[.int .i64 0, .int .i64 0] 23)) (w.heap.size + 1) 0 0 := by
      have := Ck.new (w.alloc (Obj.cells #[.int .i64 o, .int .i64 d] 23)) 0 0 23
      rwa [World.size_alloc] at this
    generalize (w.alloc (Obj.cells #[.int .i64 o, .int .i64 d] 23)).alloc (Obj.cells #[.int .i64 0, .int .i64 0] 23) = W at g0 k0 r0 ⊢
    have S0 := Lib.hid g0
    have K0 := Lib.hid k0
    have R0 := Lib.hid r0
    clear g0 k0 r0
    refine (check_ok o d _ HV.out).mono ?_
    rintro e w1 ⟨rfl, hg⟩
    have S1 := Lib.hid (S0.out.trans hg)
    have K1 := Lib.hid (K0.out.gr hg)
    have R1 := Lib.hid (R0.out.gr hg)
    clear hg
    have c0 := K1.out.c0
    have c1 := K1.out.c1
    have f0 := K1.out.f0
    have f1 := K1.out.f1
    have r0 := R1.out.c0
    have r1 := R1.out.c1
    have q0 := R1.out.f0
    have q1 := R1.out.f1
    go_wp2_with fail
    have GS := S1
    refine bodyPost_ret (v := .tuple #[.agg #[.int .i64 0, .int .i64 0], .int .i64 1]) (by simp [results, Try.results56, go_sem, r0, r1]) rfl ⟨rfl, ?_⟩
    exact Gr.set (Gr.set GS.out (p := ⟨w.heap.size + 1, 0, none⟩) (Nat.le_succ _) _) (p := ⟨w.heap.size + 1, 1, none⟩) (Nat.le_succ _) _


set_option maxHeartbeats 400000 in
theorem rAdjust_ok (o d b : Int) (w : World) (hv : Vc o d) (h0 : -2199023255552 ≤ b) (h1 : b ≤ 2199023255552) (hw : Vc (o + b) d) :
    Calls Try.prog 57 #[.agg #[.int .i64 o, .int .i64 d], .int .i64 b] w fun e w' => e = .returned (.tuple #[.agg #[.int .i64 (o + b), .int .i64 d], .int .i64 0]) ∧ Gr w w' := by
  have v0 := hv.o0
  have v1 := hv.o1
  have HV := Lib.hid hv
  have HW := Lib.hid hw
  clear hv hw
  go_enter Try.func57, Try.ntmps57
  go_wp2_with fail
  have g0 : Gr w ((w.alloc (Obj.cells #[.int .i64 o, .int .i64 d] 23)).alloc (Obj.cells #[.int .i64 0, .int .i64 0] 23)) := ((Gr.refl _).alloc _).alloc _
  have k0 : Ck ((w.alloc (Obj.cells #[.int .i64 o, .int .i64 d] 23)).alloc (Obj.cells #[.int .i64 0, .int .i64 0] 23)) w.heap.size o d := (Ck.new w o d 23).gr ((Gr.refl _).alloc _)
  have r0 : Ck ((w.alloc (Obj.cells #[.int .i64 o, .int .i64 d] 23)).alloc (Obj.cells #[.int .i64 0, .int .i64 0] 23)) (w.heap.size + 1) 0 0 := by
    have := Ck.new (w.alloc (Obj.cells #[.int .i64 o, .int .i64 d] 23)) 0 0 23
    rwa [World.size_alloc] at this
  generalize (w.alloc (Obj.cells #[.int .i64 o, .int .i64 d] 23)).alloc (Obj.cells #[.int .i64 0, .int .i64 0] 23) = W at g0 k0 r0 ⊢
  have S0 := Lib.hid g0
  have K0 := Lib.hid k0
  have R0 := Lib.hid r0
  clear g0 k0 r0
  refine (rcheck_ok o d _ HV.out).mono ?_
  rintro e w1 ⟨rfl, hg⟩
  have S1 := Lib.hid (S0.out.trans hg)
  have K1 := Lib.hid (K0.out.gr hg)
  have R1 := Lib.hid (R0.out.gr hg)
  clear hg
  have c0 := K1.out.c0
  have c1 := K1.out.c1
  have f0 := K1.out.f0
  have f1 := K1.out.f1
  have r0 := R1.out.c0
  have r1 := R1.out.c1
  have q0 := R1.out.f0
  have q1 := R1.out.f1
  go_wp2_with fail
  clear c0 c1 f0 f1 r0 r1 q0 q1
  have S2 := Lib.hid (Gr.set S1.out (p := ⟨w.heap.size, 0, none⟩) (Nat.le_refl _) (.int .i64 (o + b)))
  have K2 := Lib.hid (K1.out.set0 (o + b))
  have R2 := Lib.hid (R1.out.setOther (p := ⟨w.heap.size, 0, none⟩) (by simp) (.int .i64 (o + b)))
  refine (rcheck_ok (o + b) d _ HW.out).mono ?_
  rintro e w3 ⟨rfl, hg⟩
  have S3 := Lib.hid (S2.out.trans hg)
  have K3 := Lib.hid (K2.out.gr hg)
  have R3 := Lib.hid (R2.out.gr hg)
  clear hg
  have c0 := K3.out.c0
  have c1 := K3.out.c1
  have f0 := K3.out.f0
  have f1 := K3.out.f1
  have r0 := R3.out.c0
  have r1 := R3.out.c1
  have q0 := R3.out.f0
  have q1 := R3.out.f1
  go_wp2_with fail
  have GS := S3
  refine bodyPost_ret (v := .tuple #[.agg #[.int .i64 (o + b), .int .i64 d], .int .i64 0]) (by simp [results, Try.results57, go_sem, r0, r1]) rfl ⟨rfl, ?_⟩
  exact Gr.set (Gr.set GS.out (p := ⟨w.heap.size + 1, 0, none⟩) (Nat.le_succ _) _) (p := ⟨w.heap.size + 1, 1, none⟩) (Nat.le_succ _) _

set_option maxHeartbeats 400000 in
theorem rAdjust_no (o d b : Int) (w : World) (hv : Vc o d) (h0 : -2199023255552 ≤ b) (h1 : b ≤ 2199023255552) (hw : ¬ Vc (o + b) d) :
    Calls Try.prog 57 #[.agg #[.int .i64 o, .int .i64 d], .int .i64 b] w fun e w' => e = .returned (.tuple #[.agg #[.int .i64 0, .int .i64 0], .int .i64 1]) ∧ Gr w w' := by
  have v0 := hv.o0
  have v1 := hv.o1
  have HV := Lib.hid hv
  have HW := Lib.hid hw
  clear hv hw
  go_enter Try.func57, Try.ntmps57
  go_wp2_with fail
  have g0 : Gr w ((w.alloc (Obj.cells #[.int .i64 o, .int .i64 d] 23)).alloc (Obj.cells #[.int .i64 0, .int .i64 0] 23)) := ((Gr.refl _).alloc _).alloc _
  have k0 : Ck ((w.alloc (Obj.cells #[.int .i64 o, .int .i64 d] 23)).alloc (Obj.cells #[.int .i64 0, .int .i64 0] 23)) w.heap.size o d := (Ck.new w o d 23).gr ((Gr.refl _).alloc _)
  have r0 : Ck ((w.alloc (Obj.cells #[.int .i64 o, .int .i64 d] 23)).alloc (Obj.cells #[.int .i64 0, .int .i64 0] 23)) (w.heap.size + 1) 0 0 := by
    have := Ck.new (w.alloc (Obj.cells #[.int .i64 o, .int .i64 d] 23)) 0 0 23
    rwa [World.size_alloc] at this
  generalize (w.alloc (Obj.cells #[.int .i64 o, .int .i64 d] 23)).alloc (Obj.cells #[.int .i64 0, .int .i64 0] 23) = W at g0 k0 r0 ⊢
  have S0 := Lib.hid g0
  have K0 := Lib.hid k0
  have R0 := Lib.hid r0
  clear g0 k0 r0
  refine (rcheck_ok o d _ HV.out).mono ?_
  rintro e w1 ⟨rfl, hg⟩
  have S1 := Lib.hid (S0.out.trans hg)
  have K1 := Lib.hid (K0.out.gr hg)
  have R1 := Lib.hid (R0.out.gr hg)
  clear hg
  have c0 := K1.out.c0
  have c1 := K1.out.c1
  have f0 := K1.out.f0
  have f1 := K1.out.f1
  have r0 := R1.out.c0
  have r1 := R1.out.c1
  have q0 := R1.out.f0
  have q1 := R1.out.f1
  go_wp2_with fail
  clear c0 c1 f0 f1 r0 r1 q0 q1
  have S2 := Lib.hid (Gr.set S1.out (p := ⟨w.heap.size, 0, none⟩) (Nat.le_refl _) (.int .i64 (o + b)))
  have K2 := Lib.hid (K1.out.set0 (o + b))
  have R2 := Lib.hid (R1.out.setOther (p := ⟨w.heap.size, 0, none⟩) (by simp) (.int .i64 (o + b)))
  refine (rcheck_no (o + b) d _ HW.out).mono ?_
  rintro e w3 ⟨rfl, hg⟩
  have S3 := Lib.hid (S2.out.trans hg)
  have K3 := Lib.hid (K2.out.gr hg)
  have R3 := Lib.hid (R2.out.gr hg)
  clear hg
  have c0 := K3.out.c0
  have c1 := K3.out.c1
  have f0 := K3.out.f0
  have f1 := K3.out.f1
  have r0 := R3.out.c0
  have r1 := R3.out.c1
  have q0 := R3.out.f0
  have q1 := R3.out.f1
  go_wp2_with fail
  have GS := S3
  refine bodyPost_ret (v := .tuple #[.agg #[.int .i64 0, .int .i64 0], .int .i64 1]) (by simp [results, Try.results57, go_sem, r0, r1]) rfl ⟨rfl, ?_⟩
  exact Gr.set (Gr.set GS.out (p := ⟨w.heap.size + 1, 0, none⟩) (Nat.le_succ _) _) (p := ⟨w.heap.size + 1, 1, none⟩) (Nat.le_succ _) _

set_option maxHeartbeats 400000 in
theorem rAdjust_arg (o d b : Int) (w : World) (hv : ¬ Vc o d) :
    Calls Try.prog 57 #[.agg #[.int .i64 o, .int .i64 d], .int .i64 b] w fun e w' => e = .returned (.tuple #[.agg #[.int .i64 0, .int .i64 0], .int .i64 1]) ∧ Gr w w' := by
  have HV := Lib.hid hv
  clear hv
  go_enter Try.func57, Try.ntmps57
  go_wp2_with fail
  have g0 : Gr w ((w.alloc (Obj.cells #[.int .i64 o, .int .i64 d] 23)).alloc (Obj.cells #[.int .i64 0, .int .i64 0] 23)) := ((Gr.refl _).alloc _).alloc _
  have k0 : Ck ((w.alloc (Obj.cells #[.int .i64 o, .int .i64 d] 23)).alloc (Obj.cells #[.int .i64 0, .int .i64 0] 23)) w.heap.size o d := (Ck.new w o d 23).gr ((Gr.refl _).alloc _)
  have r0 : Ck ((w.alloc (Obj.cells #[.int .i64 o, .int .i64 d] 23)).alloc (Obj.cells #[.int .i64 0, .int .i64 0] 23)) (w.heap.size + 1) 0 0 := by
    have := Ck.new (w.alloc (Obj.cells #[.int .i64 o, .int .i64 d] 23)) 0 0 23
    rwa [World.size_alloc] at this
  generalize (w.alloc (Obj.cells #[.int .i64 o, .int .i64 d] 23)).alloc (Obj.cells #[.int .i64 0, .int .i64 0] 23) = W at g0 k0 r0 ⊢
  have S0 := Lib.hid g0
  have K0 := Lib.hid k0
  have R0 := Lib.hid r0
  clear g0 k0 r0
  refine (rcheck_no o d _ HV.out).mono ?_
  rintro e w1 ⟨rfl, hg⟩
  have S1 := Lib.hid (S0.out.trans hg)
  have K1 := Lib.hid (K0.out.gr hg)
  have R1 := Lib.hid (R0.out.gr hg)
  clear hg
  have c0 := K1.out.c0
  have c1 := K1.out.c1
  have f0 := K1.out.f0
  have f1 := K1.out.f1
  have r0 := R1.out.c0
  have r1 := R1.out.c1
  have q0 := R1.out.f0
  have q1 := R1.out.f1
  go_wp2_with fail
  have GS := S1
  refine bodyPost_ret (v := .tuple #[.agg #[.int .i64 0, .int .i64 0], .int .i64 1]) (by simp [results, Try.results57, go_sem, r0, r1]) rfl ⟨rfl, ?_⟩
  exact Gr.set (Gr.set GS.out (p := ⟨w.heap.size + 1, 0, none⟩) (Nat.le_succ _) _) (p := ⟨w.heap.size + 1, 1, none⟩) (Nat.le_succ _) _

set_option maxHeartbeats 400000 in
theorem rAdjust_far (o d b : Int) (w : World) (hv : Vc o d) (h : b < -2199023255552 ∨ 2199023255552 < b) :
    Calls Try.prog 57 #[.agg #[.int .i64 o, .int .i64 d], .int .i64 b] w fun e w' => e = .returned (.tuple #[.agg #[.int .i64 0, .int .i64 0], .int .i64 1]) ∧ Gr w w' := by
  have HV := Lib.hid hv
  clear hv
  rcases h with h | h
  all_goals
    go_enter Try.func57, Try.ntmps57
    go_wp2_with fail
    have g0 : Gr w ((w.alloc (Obj.cells #[.int .i64 o, .int .i64 d] 23)).alloc (Obj.cells #[.int .i64 0, .int .i64 0] 23)) := ((Gr.refl _).alloc _).alloc _
    have k0 : Ck ((w.alloc (Obj.cells #[.int .i64 o, .int .i64 d] 23)).alloc (Obj.cells #[.int .i64 0, .int .i64 0] 23)) w.heap.size o d := (Ck.new w o d 23).gr ((Gr.refl _).alloc _)
    have r0 : Ck ((w.alloc (Obj.cells #[.int .i64 o, .int .i64 d] 23)).alloc (Obj.cells #[.int .i64 0, .int .i64 0] 23)) (w.heap.size + 1) 0 0 := by
      have := Ck.new (w.alloc (Obj.cells #[.int .i64 o, .int .i64 d] 23)) 0 0 23
      rwa [World.size_alloc] at this
    generalize (w.alloc (Obj.cells #[.int .i64 o, .int .i64 d] 23)).alloc (Obj.cells #[.int .i64 0, .int .i64 0] 23) = W at g0 k0 r0 ⊢
    have S0 := Lib.hid g0
    have K0 := Lib.hid k0
    have R0 := Lib.hid r0
    clear g0 k0 r0
    refine (rcheck_ok o d _ HV.out).mono ?_
    rintro e w1 ⟨rfl, hg⟩
    have S1 := Lib.hid (S0.out.trans hg)
    have K1 := Lib.hid (K0.out.gr hg)
    have R1 := Lib.hid (R0.out.gr hg)
    clear hg
    have c0 := K1.out.c0
    have c1 := K1.out.c1
    have f0 := K1.out.f0
    have f1 := K1.out.f1
    have r0 := R1.out.c0
    have r1 := R1.out.c1
    have q0 := R1.out.f0
    have q1 := R1.out.f1
    go_wp2_with fail
    have GS := S1
    refine bodyPost_ret (v := .tuple #[.agg #[.int .i64 0, .int .i64 0], .int .i64 1]) (by simp [results, Try.results57, go_sem, r0, r1]) rfl ⟨rfl, ?_⟩
    exact Gr.set (Gr.set GS.out (p := ⟨w.heap.size + 1, 0, none⟩) (Nat.le_succ _) _) (p := ⟨w.heap.size + 1, 1, none⟩) (Nat.le_succ _) _

end Go.Proofs.Ytpnigndobhbfnaa
