/- ClockOwn: what is sent by a clock begins within the window of the same clock, behind the beginning of the slot, and before the next slot begins. For every input the call returns true and each argument reads afterwards as it read before (no condition). -/
import Derived.Test.YtpnigndobhbfnaaAwake8
import Derived.Test.YtpnigndobhbfnaaBox
import Derived.Test.YtpnigndobhbfnaaFrame
set_option linter.unnecessarySimpa false
namespace Go.Proofs.Ytpnigndobhbfnaa
open Go.ChangeShapes Go.WideShapes Go.ChangeAt Go.RowKit Go.Joins
theorem rch_mono {o d x y : Int} (h : x ≤ y) (hy : y ≤ rd o d 1099511627776) : rch o d x ≤ rch o d y := by
  have a := rch_is (o := o) (d := d) (x := x) (by omega)
  have b := rch_is hy
  by_cases h1 : rch o d x ≤ rch o d y
  · exact h1
  · have := a.before (rch o d y) b.lo (by omega)
    have := b.at_
    omega
/-- Where more than 2 lies between x and y, a clock that reaches y behind the time 0 has reached x before. -/
theorem rch_lt {o d x y : Int} (hv : Vc o d) (h : x + 2 < y) (hy : y ≤ rd o d 1099511627776) (h0 : 0 < rch o d y) : rch o d x < rch o d y := by
  have a := rch_is (o := o) (d := d) (x := x) (by omega)
  have b := rch_is hy
  have c := b.before (rch o d y - 1) (by omega) (by omega)
  have e := rd_succ o hv.d0 hv.d1 (t := rch o d y - 1)
  rw [Int.sub_add_cancel] at e
  have := b.at_
  by_cases h1 : rch o d x < rch o d y
  · exact h1
  · have := a.before (rch o d y - 1) (by omega) (by omega)
    omega
theorem own_a {o d s : Int} (hv : Vc o d) (hx : s * 10000 + 3221 ≤ rd o d 1099511627776) : rch o d (s * 10000 + 2120) ≤ rch o d (s * 10000 + 3221) - 1 ∨ s * 10000 + 2120 + 1100 < rd o d 0 := by
  have b := rch_is hx
  by_cases h0 : 0 < rch o d (s * 10000 + 3221)
  · have := rch_lt (x := s * 10000 + 2120) hv (by omega) hx h0; omega
  · have e : rch o d (s * 10000 + 3221) = 0 := by have := b.lo; omega
    have := b.at_
    rw [e] at this
    omega
theorem own_b {o d s : Int} (hv : Vc o d) (hx : (s + 1) * 10000 ≤ rd o d 1099511627776) : rch o d (s * 10000 + 2120) < rch o d ((s + 1) * 10000) ∨ rch o d ((s + 1) * 10000) ≤ 0 := by
  by_cases h0 : 0 < rch o d ((s + 1) * 10000)
  · exact Or.inl (rch_lt hv (by omega) hx h0)
  · exact Or.inr (by omega)

set_option maxHeartbeats 1000000 in
theorem ClockOwn_arg (o d s : Int) (w : World) (hv : ¬ Vc o d) :
    Calls Try.prog 9 #[.agg #[.int .i64 o, .int .i64 d], .int .i64 s] w fun e w' => e = .returned (.bool true) ∧ Gr w w' := by
  have HV := Lib.hid hv
  clear hv
  go_enter Try.func9, Try.ntmps9
  go_wp2_with fail
  have g0 : Gr w ((w).alloc (Obj.cells #[.int .i64 o, .int .i64 d] 23)) := Gr.alloc (Gr.refl w) _
  have ba : Bx ((w).alloc (Obj.cells #[.int .i64 o, .int .i64 d] 23)) (w.heap.size) [.int .i64 o, .int .i64 d] := Bx.gr (Bx.at_ (Bx.new (w) [.int .i64 o, .int .i64 d] 23) (by simp)) (Gr.refl _)
  generalize (w).alloc (Obj.cells #[.int .i64 o, .int .i64 d] 23) = W at g0 ba ⊢
  have S0 := Lib.hid g0
  have Ka0 := Lib.hid ba
  clear g0 ba
  refine (awake08 _).mono ?_
  rintro e w1 ⟨rfl, hg⟩
  have S1 := Lib.hid (S0.out.trans hg)
  have Ka1 := Lib.hid (Ka0.out.gr hg)
  clear hg
  have ca0 := Ka1.out.c 0 _ rfl
  have ca1 := Ka1.out.c 1 _ rfl
  have la := Ka1.out.lt
  go_wp2_with fail
  all_goals (try clear ca0 ca1 la)
  refine (Window_arg o d s _ HV.out).mono ?_
  rintro e w2 ⟨rfl, hg⟩
  have S2 := Lib.hid (S1.out.trans hg)
  have Ka2 := Lib.hid (Ka1.out.gr hg)
  clear hg
  have ca0 := Ka2.out.c 0 _ rfl
  have ca1 := Ka2.out.c 1 _ rfl
  have la := Ka2.out.lt
  go_wp2_with fail
  all_goals (try clear ca0 ca1 la)
  all_goals go_ret
  all_goals exact ⟨rfl, S2.out⟩


set_option maxHeartbeats 1000000 in
theorem ClockOwn_range (o d s : Int) (w : World) (hv : Vc o d) (h : s < 0 ∨ 109951162 < s) :
    Calls Try.prog 9 #[.agg #[.int .i64 o, .int .i64 d], .int .i64 s] w fun e w' => e = .returned (.bool true) ∧ Gr w w' := by
  have HV := Lib.hid hv
  have H := Lib.hid h
  clear hv h
  go_enter Try.func9, Try.ntmps9
  go_wp2_with fail
  have g0 : Gr w ((w).alloc (Obj.cells #[.int .i64 o, .int .i64 d] 23)) := Gr.alloc (Gr.refl w) _
  have ba : Bx ((w).alloc (Obj.cells #[.int .i64 o, .int .i64 d] 23)) (w.heap.size) [.int .i64 o, .int .i64 d] := Bx.gr (Bx.at_ (Bx.new (w) [.int .i64 o, .int .i64 d] 23) (by simp)) (Gr.refl _)
  generalize (w).alloc (Obj.cells #[.int .i64 o, .int .i64 d] 23) = W at g0 ba ⊢
  have S0 := Lib.hid g0
  have Ka0 := Lib.hid ba
  clear g0 ba
  refine (awake08 _).mono ?_
  rintro e w1 ⟨rfl, hg⟩
  have S1 := Lib.hid (S0.out.trans hg)
  have Ka1 := Lib.hid (Ka0.out.gr hg)
  clear hg
  have ca0 := Ka1.out.c 0 _ rfl
  have ca1 := Ka1.out.c 1 _ rfl
  have la := Ka1.out.lt
  go_wp2_with fail
  all_goals (try clear ca0 ca1 la)
  refine (Window_range o d s _ HV.out H.out).mono ?_
  rintro e w2 ⟨rfl, hg⟩
  have S2 := Lib.hid (S1.out.trans hg)
  have Ka2 := Lib.hid (Ka1.out.gr hg)
  clear hg
  have ca0 := Ka2.out.c 0 _ rfl
  have ca1 := Ka2.out.c 1 _ rfl
  have la := Ka2.out.lt
  go_wp2_with fail
  all_goals (try clear ca0 ca1 la)
  all_goals go_ret
  all_goals exact ⟨rfl, S2.out⟩


theorem Window_late (o d s : Int) (w : World) (hv : Vc o d) (h0 : 0 ≤ s) (h1 : s ≤ 109951162) (hx : rd o d 1099511627776 < s * 10000 + 3221) :
    Calls Try.prog 39 #[.agg #[.int .i64 o, .int .i64 d], .int .i64 s] w fun e w' => e = .returned (.tuple #[.int .i64 0, .int .i64 0, .int .i64 15]) ∧ Gr w w' := by
  by_cases hy : s * 10000 + 1020 ≤ rd o d 1099511627776
  · exact Window_late1 o d s w hv h0 h1 hx hy
  · exact Window_late2 o d s w hv h0 h1 hx (by omega)

set_option maxHeartbeats 1000000 in
theorem ClockOwn_late (o d s : Int) (w : World) (hv : Vc o d) (h0 : 0 ≤ s) (h1 : s ≤ 109951162) (hx : rd o d 1099511627776 < s * 10000 + 3221) :
    Calls Try.prog 9 #[.agg #[.int .i64 o, .int .i64 d], .int .i64 s] w fun e w' => e = .returned (.bool true) ∧ Gr w w' := by
  have HV := Lib.hid hv
  have HX := Lib.hid hx
  clear hv hx
  go_enter Try.func9, Try.ntmps9
  go_wp2_with fail
  have g0 : Gr w ((w).alloc (Obj.cells #[.int .i64 o, .int .i64 d] 23)) := Gr.alloc (Gr.refl w) _
  have ba : Bx ((w).alloc (Obj.cells #[.int .i64 o, .int .i64 d] 23)) (w.heap.size) [.int .i64 o, .int .i64 d] := Bx.gr (Bx.at_ (Bx.new (w) [.int .i64 o, .int .i64 d] 23) (by simp)) (Gr.refl _)
  generalize (w).alloc (Obj.cells #[.int .i64 o, .int .i64 d] 23) = W at g0 ba ⊢
  have S0 := Lib.hid g0
  have Ka0 := Lib.hid ba
  clear g0 ba
  refine (awake08 _).mono ?_
  rintro e w1 ⟨rfl, hg⟩
  have S1 := Lib.hid (S0.out.trans hg)
  have Ka1 := Lib.hid (Ka0.out.gr hg)
  clear hg
  have ca0 := Ka1.out.c 0 _ rfl
  have ca1 := Ka1.out.c 1 _ rfl
  have la := Ka1.out.lt
  go_wp2_with fail
  all_goals (try clear ca0 ca1 la)
  refine (Window_late o d s _ HV.out h0 h1 HX.out).mono ?_
  rintro e w2 ⟨rfl, hg⟩
  have S2 := Lib.hid (S1.out.trans hg)
  have Ka2 := Lib.hid (Ka1.out.gr hg)
  clear hg
  have ca0 := Ka2.out.c 0 _ rfl
  have ca1 := Ka2.out.c 1 _ rfl
  have la := Ka2.out.lt
  go_wp2_with fail
  all_goals (try clear ca0 ca1 la)
  all_goals go_ret
  all_goals exact ⟨rfl, S2.out⟩


set_option maxHeartbeats 1000000 in
theorem ClockOwn_last (o d s : Int) (w : World) (hv : Vc o d) (h0 : 0 ≤ s) (h1 : s ≤ 109951162) (hx : s * 10000 + 3221 ≤ rd o d 1099511627776) (hn : 109951162 < s + 1) :
    Calls Try.prog 9 #[.agg #[.int .i64 o, .int .i64 d], .int .i64 s] w fun e w' => e = .returned (.bool true) ∧ Gr w w' := by
  have a1 := own_a hv hx
  have m1 := rch_mono (o := o) (d := d) (show s * 10000 ≤ s * 10000 + 1020 by omega) (by omega)
  have m2 := rch_mono (o := o) (d := d) (show s * 10000 + 1020 ≤ s * 10000 + 2120 by omega) (by omega)
  have HV := Lib.hid hv
  have HX := Lib.hid hx
  clear hv hx
  rcases a1 with a1 | a1
  all_goals
    go_enter Try.func9, Try.ntmps9
    go_wp2_with fail
    have g0 : Gr w ((w).alloc (Obj.cells #[.int .i64 o, .int .i64 d] 23)) := Gr.alloc (Gr.refl w) _
    have ba : Bx ((w).alloc (Obj.cells #[.int .i64 o, .int .i64 d] 23)) (w.heap.size) [.int .i64 o, .int .i64 d] := Bx.gr (Bx.at_ (Bx.new (w) [.int .i64 o, .int .i64 d] 23) (by simp)) (Gr.refl _)
    generalize (w).alloc (Obj.cells #[.int .i64 o, .int .i64 d] 23) = W at g0 ba ⊢
    have S0 := Lib.hid g0
    have Ka0 := Lib.hid ba
    clear g0 ba
    refine (awake08 _).mono ?_
    rintro e w1 ⟨rfl, hg⟩
    have S1 := Lib.hid (S0.out.trans hg)
    have Ka1 := Lib.hid (Ka0.out.gr hg)
    clear hg
    have ca0 := Ka1.out.c 0 _ rfl
    have ca1 := Ka1.out.c 1 _ rfl
    have la := Ka1.out.lt
    go_wp2_with fail
    all_goals (try clear ca0 ca1 la)
    refine (Window_ok o d s _ HV.out h0 h1 HX.out).mono ?_
    rintro e w2 ⟨rfl, hg⟩
    have S2 := Lib.hid (S1.out.trans hg)
    have Ka2 := Lib.hid (Ka1.out.gr hg)
    clear hg
    have ca0 := Ka2.out.c 0 _ rfl
    have ca1 := Ka2.out.c 1 _ rfl
    have la := Ka2.out.lt
    go_wp2_with fail
    all_goals (try clear ca0 ca1 la)
    refine (Send_ok o d s _ HV.out h0 h1 (by have := HX.out; omega)).mono ?_
    rintro e w3 ⟨rfl, hg⟩
    have S3 := Lib.hid (S2.out.trans hg)
    have Ka3 := Lib.hid (Ka2.out.gr hg)
    clear hg
    have ca0 := Ka3.out.c 0 _ rfl
    have ca1 := Ka3.out.c 1 _ rfl
    have la := Ka3.out.lt
    go_wp2_with fail
    all_goals (try clear ca0 ca1 la)
    refine (Begin_ok o d s _ HV.out h0 h1 (by have := HX.out; omega)).mono ?_
    rintro e w4 ⟨rfl, hg⟩
    have S4 := Lib.hid (S3.out.trans hg)
    have Ka4 := Lib.hid (Ka3.out.gr hg)
    clear hg
    have ca0 := Ka4.out.c 0 _ rfl
    have ca1 := Ka4.out.c 1 _ rfl
    have la := Ka4.out.lt
    go_wp2_with fail
    all_goals (try clear ca0 ca1 la)
    refine (Begin_range o d (s + 1) _ HV.out (by omega)).mono ?_
    rintro e w5 ⟨rfl, hg⟩
    have S5 := Lib.hid (S4.out.trans hg)
    have Ka5 := Lib.hid (Ka4.out.gr hg)
    clear hg
    have ca0 := Ka5.out.c 0 _ rfl
    have ca1 := Ka5.out.c 1 _ rfl
    have la := Ka5.out.lt
    go_wp2_with fail
    all_goals (try clear ca0 ca1 la)
    refine (show_ok o d 0 _ HV.out (by omega) (by omega)).mono ?_
    rintro e w6 ⟨rfl, hg⟩
    have S6 := Lib.hid (S5.out.trans hg)
    have Ka6 := Lib.hid (Ka5.out.gr hg)
    clear hg
    have ca0 := Ka6.out.c 0 _ rfl
    have ca1 := Ka6.out.c 1 _ rfl
    have la := Ka6.out.lt
    go_wp2_with fail
    all_goals (try clear ca0 ca1 la)
    all_goals go_ret
    all_goals exact ⟨rfl, S6.out⟩


set_option maxHeartbeats 1000000 in
theorem ClockOwn_nlate (o d s : Int) (w : World) (hv : Vc o d) (h0 : 0 ≤ s) (h1 : s ≤ 109951162) (hx : s * 10000 + 3221 ≤ rd o d 1099511627776) (hn : s + 1 ≤ 109951162) (hy : rd o d 1099511627776 < (s + 1) * 10000) :
    Calls Try.prog 9 #[.agg #[.int .i64 o, .int .i64 d], .int .i64 s] w fun e w' => e = .returned (.bool true) ∧ Gr w w' := by
  have a1 := own_a hv hx
  have m1 := rch_mono (o := o) (d := d) (show s * 10000 ≤ s * 10000 + 1020 by omega) (by omega)
  have m2 := rch_mono (o := o) (d := d) (show s * 10000 + 1020 ≤ s * 10000 + 2120 by omega) (by omega)
  have HV := Lib.hid hv
  have HX := Lib.hid hx
  have HY := Lib.hid hy
  clear hv hx hy
  rcases a1 with a1 | a1
  all_goals
    go_enter Try.func9, Try.ntmps9
    go_wp2_with fail
    have g0 : Gr w ((w).alloc (Obj.cells #[.int .i64 o, .int .i64 d] 23)) := Gr.alloc (Gr.refl w) _
    have ba : Bx ((w).alloc (Obj.cells #[.int .i64 o, .int .i64 d] 23)) (w.heap.size) [.int .i64 o, .int .i64 d] := Bx.gr (Bx.at_ (Bx.new (w) [.int .i64 o, .int .i64 d] 23) (by simp)) (Gr.refl _)
    generalize (w).alloc (Obj.cells #[.int .i64 o, .int .i64 d] 23) = W at g0 ba ⊢
    have S0 := Lib.hid g0
    have Ka0 := Lib.hid ba
    clear g0 ba
    refine (awake08 _).mono ?_
    rintro e w1 ⟨rfl, hg⟩
    have S1 := Lib.hid (S0.out.trans hg)
    have Ka1 := Lib.hid (Ka0.out.gr hg)
    clear hg
    have ca0 := Ka1.out.c 0 _ rfl
    have ca1 := Ka1.out.c 1 _ rfl
    have la := Ka1.out.lt
    go_wp2_with fail
    all_goals (try clear ca0 ca1 la)
    refine (Window_ok o d s _ HV.out h0 h1 HX.out).mono ?_
    rintro e w2 ⟨rfl, hg⟩
    have S2 := Lib.hid (S1.out.trans hg)
    have Ka2 := Lib.hid (Ka1.out.gr hg)
    clear hg
    have ca0 := Ka2.out.c 0 _ rfl
    have ca1 := Ka2.out.c 1 _ rfl
    have la := Ka2.out.lt
    go_wp2_with fail
    all_goals (try clear ca0 ca1 la)
    refine (Send_ok o d s _ HV.out h0 h1 (by have := HX.out; omega)).mono ?_
    rintro e w3 ⟨rfl, hg⟩
    have S3 := Lib.hid (S2.out.trans hg)
    have Ka3 := Lib.hid (Ka2.out.gr hg)
    clear hg
    have ca0 := Ka3.out.c 0 _ rfl
    have ca1 := Ka3.out.c 1 _ rfl
    have la := Ka3.out.lt
    go_wp2_with fail
    all_goals (try clear ca0 ca1 la)
    refine (Begin_ok o d s _ HV.out h0 h1 (by have := HX.out; omega)).mono ?_
    rintro e w4 ⟨rfl, hg⟩
    have S4 := Lib.hid (S3.out.trans hg)
    have Ka4 := Lib.hid (Ka3.out.gr hg)
    clear hg
    have ca0 := Ka4.out.c 0 _ rfl
    have ca1 := Ka4.out.c 1 _ rfl
    have la := Ka4.out.lt
    go_wp2_with fail
    all_goals (try clear ca0 ca1 la)
    refine (Begin_late o d (s + 1) _ HV.out (by omega) (by omega) HY.out).mono ?_
    rintro e w5 ⟨rfl, hg⟩
    have S5 := Lib.hid (S4.out.trans hg)
    have Ka5 := Lib.hid (Ka4.out.gr hg)
    clear hg
    have ca0 := Ka5.out.c 0 _ rfl
    have ca1 := Ka5.out.c 1 _ rfl
    have la := Ka5.out.lt
    go_wp2_with fail
    all_goals (try clear ca0 ca1 la)
    refine (show_ok o d 0 _ HV.out (by omega) (by omega)).mono ?_
    rintro e w6 ⟨rfl, hg⟩
    have S6 := Lib.hid (S5.out.trans hg)
    have Ka6 := Lib.hid (Ka5.out.gr hg)
    clear hg
    have ca0 := Ka6.out.c 0 _ rfl
    have ca1 := Ka6.out.c 1 _ rfl
    have la := Ka6.out.lt
    go_wp2_with fail
    all_goals (try clear ca0 ca1 la)
    all_goals go_ret
    all_goals exact ⟨rfl, S6.out⟩


set_option maxHeartbeats 1000000 in
theorem ClockOwn_ok (o d s : Int) (w : World) (hv : Vc o d) (h0 : 0 ≤ s) (h1 : s ≤ 109951162) (hx : s * 10000 + 3221 ≤ rd o d 1099511627776) (hn : s + 1 ≤ 109951162) (hy : (s + 1) * 10000 ≤ rd o d 1099511627776) :
    Calls Try.prog 9 #[.agg #[.int .i64 o, .int .i64 d], .int .i64 s] w fun e w' => e = .returned (.bool true) ∧ Gr w w' := by
  have a1 := own_a hv hx
  have m1 := rch_mono (o := o) (d := d) (show s * 10000 ≤ s * 10000 + 1020 by omega) (by omega)
  have m2 := rch_mono (o := o) (d := d) (show s * 10000 + 1020 ≤ s * 10000 + 2120 by omega) (by omega)
  have r0 := (rch_is (o := o) (d := d) (show s * 10000 + 2120 ≤ rd o d 1099511627776 by omega)).lo
  have b1 := own_b hv hy
  have m3 := rch_mono (o := o) (d := d) (show s * 10000 ≤ (s + 1) * 10000 by omega) hy
  have HV := Lib.hid hv
  have HX := Lib.hid hx
  have HY := Lib.hid hy
  clear hv hx hy
  rcases a1 with a1 | a1 <;> rcases b1 with b1 | b1
  all_goals
    go_enter Try.func9, Try.ntmps9
    go_wp2_with fail
    have g0 : Gr w ((w).alloc (Obj.cells #[.int .i64 o, .int .i64 d] 23)) := Gr.alloc (Gr.refl w) _
    have ba : Bx ((w).alloc (Obj.cells #[.int .i64 o, .int .i64 d] 23)) (w.heap.size) [.int .i64 o, .int .i64 d] := Bx.gr (Bx.at_ (Bx.new (w) [.int .i64 o, .int .i64 d] 23) (by simp)) (Gr.refl _)
    generalize (w).alloc (Obj.cells #[.int .i64 o, .int .i64 d] 23) = W at g0 ba ⊢
    have S0 := Lib.hid g0
    have Ka0 := Lib.hid ba
    clear g0 ba
    refine (awake08 _).mono ?_
    rintro e w1 ⟨rfl, hg⟩
    have S1 := Lib.hid (S0.out.trans hg)
    have Ka1 := Lib.hid (Ka0.out.gr hg)
    clear hg
    have ca0 := Ka1.out.c 0 _ rfl
    have ca1 := Ka1.out.c 1 _ rfl
    have la := Ka1.out.lt
    go_wp2_with fail
    all_goals (try clear ca0 ca1 la)
    refine (Window_ok o d s _ HV.out h0 h1 HX.out).mono ?_
    rintro e w2 ⟨rfl, hg⟩
    have S2 := Lib.hid (S1.out.trans hg)
    have Ka2 := Lib.hid (Ka1.out.gr hg)
    clear hg
    have ca0 := Ka2.out.c 0 _ rfl
    have ca1 := Ka2.out.c 1 _ rfl
    have la := Ka2.out.lt
    go_wp2_with fail
    all_goals (try clear ca0 ca1 la)
    refine (Send_ok o d s _ HV.out h0 h1 (by have := HX.out; omega)).mono ?_
    rintro e w3 ⟨rfl, hg⟩
    have S3 := Lib.hid (S2.out.trans hg)
    have Ka3 := Lib.hid (Ka2.out.gr hg)
    clear hg
    have ca0 := Ka3.out.c 0 _ rfl
    have ca1 := Ka3.out.c 1 _ rfl
    have la := Ka3.out.lt
    go_wp2_with fail
    all_goals (try clear ca0 ca1 la)
    refine (Begin_ok o d s _ HV.out h0 h1 (by have := HX.out; omega)).mono ?_
    rintro e w4 ⟨rfl, hg⟩
    have S4 := Lib.hid (S3.out.trans hg)
    have Ka4 := Lib.hid (Ka3.out.gr hg)
    clear hg
    have ca0 := Ka4.out.c 0 _ rfl
    have ca1 := Ka4.out.c 1 _ rfl
    have la := Ka4.out.lt
    go_wp2_with fail
    all_goals (try clear ca0 ca1 la)
    refine (Begin_ok o d (s + 1) _ HV.out (by omega) (by omega) HY.out).mono ?_
    rintro e w5 ⟨rfl, hg⟩
    have S5 := Lib.hid (S4.out.trans hg)
    have Ka5 := Lib.hid (Ka4.out.gr hg)
    clear hg
    have ca0 := Ka5.out.c 0 _ rfl
    have ca1 := Ka5.out.c 1 _ rfl
    have la := Ka5.out.lt
    go_wp2_with fail
    all_goals (try clear ca0 ca1 la)
    refine (show_ok o d 0 _ HV.out (by omega) (by omega)).mono ?_
    rintro e w6 ⟨rfl, hg⟩
    have S6 := Lib.hid (S5.out.trans hg)
    have Ka6 := Lib.hid (Ka5.out.gr hg)
    clear hg
    have ca0 := Ka6.out.c 0 _ rfl
    have ca1 := Ka6.out.c 1 _ rfl
    have la := Ka6.out.lt
    go_wp2_with fail
    all_goals (try clear ca0 ca1 la)
    all_goals go_ret
    all_goals exact ⟨rfl, S6.out⟩


theorem ClockOwn_walk (o d s : Int) (w : World) :
    Calls Try.prog 9 #[.agg #[.int .i64 o, .int .i64 d], .int .i64 s] w fun e w' => e = .returned (.bool true) ∧ Gr w w' := by
  by_cases hv : Vc o d
  · by_cases hs : 0 ≤ s ∧ s ≤ 109951162
    · by_cases hx : s * 10000 + 3221 ≤ rd o d 1099511627776
      · by_cases hn : s + 1 ≤ 109951162
        · by_cases hy : (s + 1) * 10000 ≤ rd o d 1099511627776
          · exact ClockOwn_ok o d s w hv hs.1 hs.2 hx hn hy
          · exact ClockOwn_nlate o d s w hv hs.1 hs.2 hx hn (by omega)
        · exact ClockOwn_last o d s w hv hs.1 hs.2 hx (by omega)
      · exact ClockOwn_late o d s w hv hs.1 hs.2 (by omega)
    · exact ClockOwn_range o d s w hv (by omega)
  · exact ClockOwn_arg o d s w hv
set_option maxRecDepth 100000 in
set_option maxHeartbeats 1000000 in
theorem ClockOwn_lifted (os : Os) (started : os.Started) (H : Type) (enc : TypeId × Value → H) :
    ReturnsInHanded {} Try.checked os 9 .any (Rows.clockOwnSpec.pre6 enc Try.prog Try.f9 Rows.clockOwnRow.domain false) (Rows.clockOwnSpec.post enc Try.prog Try.f9 false true false false) := by
  refine returnsInHanded_of_change (C := Try.checked) Try.own started (by kernel_rfl) Try.func9
    (ChangeSpec.witness6 (enc := enc) (C := Try.checked) false ⟨#[], #[.agg #[.int .i64 0, .int .i64 0], .int .i64 0], []⟩ 8 (by kernel_rfl) (by kernel_rfl) (by kernel_rfl) (by kernel_rfl)) ?_
  intro W base args ds gs before hval0 hW hcnd _
  have hval : ∀ (j : Nat) t v, Try.f9.params[j]? = some t → args[j]? = some v → Value.okWide Try.prog W .any base t v := hval0
  have hW' := hW
  obtain ⟨p, q, hA0, hV, rfl, hfz, hnd⟩ := hW
  have hA : DataW.TrodAll enc Try.prog W 0 (fun _ => true) true Try.f9.params.toList args.toList ds p := hA0
  rw [Try.params9] at hA hval
  have hAk := hA
  obtain ⟨v0, vs0, d0, ds0, p0, q0, hargs, rfl, rfl, h0, r0⟩ := trodAll_cons hA
  obtain ⟨v1, vs1, d1, ds1, p1, q1, rfl, rfl, rfl, h1, r1⟩ := trodAll_cons r0
  obtain ⟨rfl, rfl, rfl⟩ := trodAll_nil r1
  obtain rfl : args = #[v0, v1] := by cases args; simp_all
  obtain ⟨rfl, rfl⟩ := trodVars_none hV
  obtain ⟨c00, c01, y00, y01, m0, rfl, rfl, rfl, hy00, hy01⟩ := open_agg2 Try.underlying23 (by kernel_rfl) Try.cells23 (hval 0 23 v0 rfl rfl) h0
  obtain ⟨o, e00, rfl, wfo⟩ := DataW.trod_int Try.underlying3 hy00
  obtain ⟨d, e01, rfl, wfd⟩ := DataW.trod_int Try.underlying3 hy01
  simp at e00 e01
  subst e00 e01
  obtain ⟨s, rfl, rfl, rfl, wfs⟩ := open_int Try.underlying3 (hval 1 3 v1 rfl rfl) h1
  clear hA0 hval0
  simp only [List.append_nil] at hW'
  refine (ClockOwn_walk o d s W).mono fun e W' ⟨he, hg⟩ => ?_
  subst he
  have hb : Below W.heap.size W W' := hg
  exact ⟨_, rfl, _, _, _, [], _, [], hW', trodAll_mk1 (shut_bool Try.underlying4 _), trodAll_stays Try.laidOut hb _ _ _ _ (by intro t ht; simp at ht; rcases ht with rfl | rfl <;> exact ⟨by kernel_rfl, of_decide_eq_true (by kernel_rfl)⟩) hAk (fun x hx => by simpa using hW'.lt x (by simpa using hx)), rfl, hb.frame _, fun h => by cases h⟩

theorem ClockOwn_closed : joinedFacts Try.pinned.checked.prog 9 Try.f9 Rows.clockOwnSpec Rows.clockOwnRow = true := by
  unfold joinedFacts
  exact (and_tt (and_tt (and_tt (and_tt (and_tt (and_tt (and_tt (and_tt (and_tt (and_tt (and_tt (and_tt (and_tt (and_tt (and_tt (and_tt (and_tt (and_tt (and_tt (and_tt (and_tt (and_tt (and_tt (and_tt (and_tt (and_tt (and_tt (and_tt (and_tt (and_tt (and_tt (by as_aux_lemma => kernel_rfl) (J_laid)) (J_maps)) (by as_aux_lemma => kernel_rfl)) (by as_aux_lemma => kernel_rfl)) (by as_aux_lemma => kernel_rfl)) (J_stops)) (by as_aux_lemma => kernel_rfl)) (J_knobs)) (by as_aux_lemma => kernel_rfl)) (by as_aux_lemma => kernel_rfl)) (by as_aux_lemma => kernel_rfl)) (by as_aux_lemma => kernel_rfl)) (by as_aux_lemma => kernel_rfl)) (by as_aux_lemma => kernel_rfl)) (by as_aux_lemma => kernel_rfl)) (by as_aux_lemma => kernel_rfl)) (by as_aux_lemma => kernel_rfl)) (by as_aux_lemma => kernel_rfl)) (by as_aux_lemma => kernel_rfl)) (by as_aux_lemma => kernel_rfl)) (by as_aux_lemma => kernel_rfl)) (J_keys)) (by as_aux_lemma => kernel_rfl)) (J_heard)) (J_enter)) (J_lifts)) (J_make)) (by as_aux_lemma => kernel_rfl)) (by as_aux_lemma => kernel_rfl)) (by as_aux_lemma => kernel_rfl)) (by as_aux_lemma => kernel_rfl))

/-- THE STATEMENT ClockOwn. -/
theorem ClockOwn_holds : Rows.ClockOwnSaid :=
  OpenClaim.holds_of_wide 9 Try.f9 rfl rfl rfl rfl rfl rfl rfl ⟨rfl, rfl, rfl, rfl, rfl⟩ rfl rfl rfl rfl rfl (by kernel_rfl) Try.func9 ClockOwn_closed
    (of_decide_eq_true (by kernel_rfl)) (by unfold Func.isWrapper; rw [if_neg (of_decide_eq_false (by kernel_rfl))]; exact ⟨rfl, rfl⟩)
    (fun os started H enc _ => ClockOwn_lifted os started H enc)
#print axioms ClockOwn_holds
end Go.Proofs.Ytpnigndobhbfnaa
