/- ClockForward: a clock never goes back, and from one microsecond to the next one it shows 0, 1 or 2 more. For every input the call returns true and each argument reads afterwards as it read before (no condition). -/
import Derived.Test.YtpnigndobhbfnaaAwake8
import Derived.Test.YtpnigndobhbfnaaFrame
set_option linter.unnecessarySimpa false
namespace Go.Proofs.Ytpnigndobhbfnaa
open Go.ChangeShapes Go.WideShapes Go.ChangeAt Go.RowKit Go.Joins
set_option maxHeartbeats 400000 in
theorem ClockForward_arg (o d t : Int) (w : World) (hv : ¬ Vc o d) :
    Calls Try.prog 3 #[.agg #[.int .i64 o, .int .i64 d], .int .i64 t] w fun e w' => e = .returned (.bool true) ∧ Gr w w' := by
  have HV := Lib.hid hv
  clear hv
  go_enter Try.func3, Try.ntmps3
  go_wp2_with fail
  have g0 : Gr w (w.alloc (Obj.cells #[.int .i64 o, .int .i64 d] 23)) := (Gr.refl _).alloc _
  have k0 := Ck.new w o d 23
  generalize w.alloc (Obj.cells #[.int .i64 o, .int .i64 d] 23) = W at g0 k0 ⊢
  have S0 := Lib.hid g0
  have K0 := Lib.hid k0
  clear g0 k0
  refine (awake08 _).mono ?_
  rintro e w1 ⟨rfl, hg⟩
  have S1 := Lib.hid (S0.out.trans hg)
  have K1 := Lib.hid (K0.out.gr hg)
  clear hg
  have c0 := K1.out.c0
  have c1 := K1.out.c1
  go_wp2_with fail
  clear c0 c1
  refine (show_arg o d t _ HV.out).mono ?_
  rintro e w2 ⟨rfl, hg⟩
  have S2 := Lib.hid (S1.out.trans hg)
  clear hg
  go_wp2_with fail
  go_ret
  exact ⟨rfl, S2.out⟩

set_option maxHeartbeats 400000 in
theorem ClockForward_range (o d t : Int) (w : World) (hv : Vc o d) (h : ¬ (0 ≤ t ∧ t ≤ 1099511627776)) :
    Calls Try.prog 3 #[.agg #[.int .i64 o, .int .i64 d], .int .i64 t] w fun e w' => e = .returned (.bool true) ∧ Gr w w' := by
  have HV := Lib.hid hv
  have H := Lib.hid h
  clear hv h
  go_enter Try.func3, Try.ntmps3
  go_wp2_with fail
  have g0 : Gr w (w.alloc (Obj.cells #[.int .i64 o, .int .i64 d] 23)) := (Gr.refl _).alloc _
  have k0 := Ck.new w o d 23
  generalize w.alloc (Obj.cells #[.int .i64 o, .int .i64 d] 23) = W at g0 k0 ⊢
  have S0 := Lib.hid g0
  have K0 := Lib.hid k0
  clear g0 k0
  refine (awake08 _).mono ?_
  rintro e w1 ⟨rfl, hg⟩
  have S1 := Lib.hid (S0.out.trans hg)
  have K1 := Lib.hid (K0.out.gr hg)
  clear hg
  have c0 := K1.out.c0
  have c1 := K1.out.c1
  go_wp2_with fail
  clear c0 c1
  refine (show_range o d t _ HV.out H.out).mono ?_
  rintro e w2 ⟨rfl, hg⟩
  have S2 := Lib.hid (S1.out.trans hg)
  clear hg
  go_wp2_with fail
  go_ret
  exact ⟨rfl, S2.out⟩

set_option maxHeartbeats 400000 in
theorem ClockForward_last (o d : Int) (w : World) (hv : Vc o d) :
    Calls Try.prog 3 #[.agg #[.int .i64 o, .int .i64 d], .int .i64 1099511627776] w fun e w' => e = .returned (.bool true) ∧ Gr w w' := by
  have HV := Lib.hid hv
  clear hv
  go_enter Try.func3, Try.ntmps3
  go_wp2_with fail
  have g0 : Gr w (w.alloc (Obj.cells #[.int .i64 o, .int .i64 d] 23)) := (Gr.refl _).alloc _
  have k0 := Ck.new w o d 23
  generalize w.alloc (Obj.cells #[.int .i64 o, .int .i64 d] 23) = W at g0 k0 ⊢
  have S0 := Lib.hid g0
  have K0 := Lib.hid k0
  clear g0 k0
  refine (awake08 _).mono ?_
  rintro e w1 ⟨rfl, hg⟩
  have S1 := Lib.hid (S0.out.trans hg)
  have K1 := Lib.hid (K0.out.gr hg)
  clear hg
  have c0 := K1.out.c0
  have c1 := K1.out.c1
  go_wp2_with fail
  clear c0 c1
  refine (show_ok o d 1099511627776 _ HV.out (by omega) (by omega)).mono ?_
  rintro e w2 ⟨rfl, hg⟩
  have S2 := Lib.hid (S1.out.trans hg)
  clear hg
  go_wp2_with fail
  go_ret
  exact ⟨rfl, S2.out⟩

set_option maxHeartbeats 400000 in
theorem ClockForward_ok (o d t : Int) (w : World) (hv : Vc o d) (h0 : 0 ≤ t) (h1 : t < 1099511627776) :
    Calls Try.prog 3 #[.agg #[.int .i64 o, .int .i64 d], .int .i64 t] w fun e w' => e = .returned (.bool true) ∧ Gr w w' := by
  have b0 := rd_bd hv h0 (by omega)
  have bs := rd_succ o hv.d0 hv.d1 (t := t)
  have e1 : ((t : Int) == 1099511627776) = false := by simp; omega
  have HV := Lib.hid hv
  clear hv
  go_enter Try.func3, Try.ntmps3
  go_wp2_with fail
  have g0 : Gr w (w.alloc (Obj.cells #[.int .i64 o, .int .i64 d] 23)) := (Gr.refl _).alloc _
  have k0 := Ck.new w o d 23
  generalize w.alloc (Obj.cells #[.int .i64 o, .int .i64 d] 23) = W at g0 k0 ⊢
  have S0 := Lib.hid g0
  have K0 := Lib.hid k0
  clear g0 k0
  refine (awake08 _).mono ?_
  rintro e w1 ⟨rfl, hg⟩
  have S1 := Lib.hid (S0.out.trans hg)
  have K1 := Lib.hid (K0.out.gr hg)
  clear hg
  have c0 := K1.out.c0
  have c1 := K1.out.c1
  go_wp2_with fail
  clear c0 c1
  refine (show_ok o d t _ HV.out h0 (by omega)).mono ?_
  rintro e w2 ⟨rfl, hg⟩
  have S2 := Lib.hid (S1.out.trans hg)
  have K2 := Lib.hid (K1.out.gr hg)
  clear hg
  have c0 := K2.out.c0
  have c1 := K2.out.c1
  go_wp2_with fail
  clear c0 c1
  refine (show_ok o d (t + 1) _ HV.out (by omega) (by omega)).mono ?_
  rintro e w3 ⟨rfl, hg⟩
  have S3 := Lib.hid (S2.out.trans hg)
  clear hg
  go_wp2_with fail
  go_ret
  exact ⟨rfl, S3.out⟩

theorem ClockForward_walk (o d t : Int) (w : World) :
    Calls Try.prog 3 #[.agg #[.int .i64 o, .int .i64 d], .int .i64 t] w fun e w' => e = .returned (.bool true) ∧ Gr w w' := by
  by_cases hv : Vc o d
  · by_cases h : 0 ≤ t ∧ t ≤ 1099511627776
    · by_cases e : t = 1099511627776
      · subst e; exact ClockForward_last o d w hv
      · exact ClockForward_ok o d t w hv h.1 (by omega)
    · exact ClockForward_range o d t w hv h
  · exact ClockForward_arg o d t w hv
set_option maxRecDepth 100000 in
set_option maxHeartbeats 1000000 in
theorem ClockForward_lifted (os : Os) (started : os.Started) (H : Type) (enc : TypeId × Value → H) :
    ReturnsInHanded {} Try.checked os 3 .any (Rows.clockForwardSpec.pre6 enc Try.prog Try.f3 Rows.clockForwardRow.domain false) (Rows.clockForwardSpec.post enc Try.prog Try.f3 false true false false) := by
  refine returnsInHanded_of_change (C := Try.checked) Try.own started (by kernel_rfl) Try.func3
    (ChangeSpec.witness6 (enc := enc) (C := Try.checked) false ⟨#[], #[.agg #[.int .i64 0, .int .i64 0], .int .i64 0], []⟩ 8 (by kernel_rfl) (by kernel_rfl) (by kernel_rfl) (by kernel_rfl)) ?_
  intro W base args ds gs before hval0 hW hcnd _
  have hval : ∀ (j : Nat) t v, Try.f3.params[j]? = some t → args[j]? = some v → Value.okWide Try.prog W .any base t v := hval0
  have hW' := hW
  obtain ⟨p, q, hA0, hV, rfl, hfz, hnd⟩ := hW
  have hA : DataW.TrodAll enc Try.prog W 0 (fun _ => true) true Try.f3.params.toList args.toList ds p := hA0
  rw [Try.params3] at hA hval
  have hAk := hA
  obtain ⟨v0, vs0, d0, ds0, p0, q0, hargs, rfl, rfl, h0, r0⟩ := trodAll_cons hA
  obtain ⟨v1, vs1, d1, ds1, p1, q1, rfl, rfl, rfl, h1, r1⟩ := trodAll_cons r0
  obtain ⟨rfl, rfl, rfl⟩ := trodAll_nil r1
  obtain rfl : args = #[v0, v1] := by cases args; simp_all
  obtain ⟨rfl, rfl⟩ := trodVars_none hV
  obtain ⟨c00, c01, y00, y01, m0, rfl, rfl, rfl, hy00, hy01⟩ := open_agg2 Try.underlying23 (by kernel_rfl) Try.cells23 (hval 0 23 v0 rfl rfl) h0
  obtain ⟨o, e00, rfl, bo⟩ := DataW.trod_int Try.underlying3 hy00
  obtain ⟨d, e01, rfl, bd⟩ := DataW.trod_int Try.underlying3 hy01
  simp at e00 e01
  subst e00 e01
  obtain ⟨t, rfl, rfl, rfl, bt⟩ := open_int Try.underlying3 (hval 1 3 v1 rfl rfl) h1
  clear hA0 hval0
  simp only [List.append_nil] at hW'
  refine (ClockForward_walk o d t W).mono fun e W' ⟨he, hg⟩ => ?_
  subst he
  have hb : Below W.heap.size W W' := hg
  exact ⟨_, rfl, _, _, _, [], _, [], hW', trodAll_mk1 (shut_bool Try.underlying4 _), trodAll_stays Try.laidOut hb _ _ _ _ (by intro t ht; simp at ht; rcases ht with rfl | rfl <;> exact ⟨by kernel_rfl, of_decide_eq_true (by kernel_rfl)⟩) hAk (fun x hx => by simpa using hW'.lt x (by simpa using hx)), rfl, hb.frame _, fun h => by cases h⟩

theorem ClockForward_closed : joinedFacts Try.pinned.checked.prog 3 Try.f3 Rows.clockForwardSpec Rows.clockForwardRow = true := by
  unfold joinedFacts
  exact (and_tt (and_tt (and_tt (and_tt (and_tt (and_tt (and_tt (and_tt (and_tt (and_tt (and_tt (and_tt (and_tt (and_tt (and_tt (and_tt (and_tt (and_tt (and_tt (and_tt (and_tt (and_tt (and_tt (and_tt (and_tt (and_tt (and_tt (and_tt (and_tt (and_tt (and_tt (by as_aux_lemma => kernel_rfl) (J_laid)) (J_maps)) (by as_aux_lemma => kernel_rfl)) (by as_aux_lemma => kernel_rfl)) (by as_aux_lemma => kernel_rfl)) (J_stops)) (by as_aux_lemma => kernel_rfl)) (J_knobs)) (by as_aux_lemma => kernel_rfl)) (by as_aux_lemma => kernel_rfl)) (by as_aux_lemma => kernel_rfl)) (by as_aux_lemma => kernel_rfl)) (by as_aux_lemma => kernel_rfl)) (by as_aux_lemma => kernel_rfl)) (by as_aux_lemma => kernel_rfl)) (by as_aux_lemma => kernel_rfl)) (by as_aux_lemma => kernel_rfl)) (by as_aux_lemma => kernel_rfl)) (by as_aux_lemma => kernel_rfl)) (by as_aux_lemma => kernel_rfl)) (by as_aux_lemma => kernel_rfl)) (J_keys)) (by as_aux_lemma => kernel_rfl)) (J_heard)) (J_enter)) (J_lifts)) (J_make)) (by as_aux_lemma => kernel_rfl)) (by as_aux_lemma => kernel_rfl)) (by as_aux_lemma => kernel_rfl)) (by as_aux_lemma => kernel_rfl))

/-- THE STATEMENT ClockForward. -/
theorem ClockForward_holds : Rows.ClockForwardSaid :=
  OpenClaim.holds_of_wide 3 Try.f3 rfl rfl rfl rfl rfl rfl rfl ⟨rfl, rfl, rfl, rfl, rfl⟩ rfl rfl rfl rfl rfl (by kernel_rfl) Try.func3 ClockForward_closed
    (of_decide_eq_true (by kernel_rfl)) (by unfold Func.isWrapper; rw [if_neg (of_decide_eq_false (by kernel_rfl))]; exact ⟨rfl, rfl⟩)
    (fun os started H enc _ => ClockForward_lifted os started H enc)
#print axioms ClockForward_holds
end Go.Proofs.Ytpnigndobhbfnaa
