/- ClockDrifts: in a time of d microseconds a clock shows d more, but for d * MaxDrift / 10^9 and 1. For every input the call returns true and each argument reads afterwards as it read before (no condition). -/
import Derived.Test.YtpnigndobhbfnaaAwake8
import Derived.Test.YtpnigndobhbfnaaFrame
set_option linter.unnecessarySimpa false
namespace Go.Proofs.Ytpnigndobhbfnaa
open Go.ChangeShapes Go.WideShapes Go.ChangeAt Go.RowKit Go.Joins
set_option maxHeartbeats 400000 in
theorem ClockDrifts_out (o k t d : Int) (w : World) (h : d < 0 ∨ 1099511627776 < d ∨ (0 ≤ d ∧ d ≤ 1099511627776 ∧ t < 0) ∨ (0 ≤ d ∧ d ≤ 1099511627776 ∧ 0 ≤ t ∧ 1099511627776 - d < t)) :
    Calls Try.prog 4 #[.agg #[.int .i64 o, .int .i64 k], .int .i64 t, .int .i64 d] w fun e w' => e = .returned (.bool true) ∧ Gr w w' := by
  rcases h with h | h | ⟨h, h1, h2⟩ | ⟨h, h1, h2, h3⟩
  all_goals
    go_enter Try.func4, Try.ntmps4
    go_wp2_with fail
    have g0 : Gr w (w.alloc (Obj.cells #[.int .i64 o, .int .i64 k] 23)) := (Gr.refl _).alloc _
    have k0 := Ck.new w o k 23
    generalize w.alloc (Obj.cells #[.int .i64 o, .int .i64 k] 23) = W at g0 k0 ⊢
    have S0 := Lib.hid g0
    have K0 := Lib.hid k0
    clear g0 k0
    refine (awake08 _).mono ?_
    rintro e w1 ⟨rfl, hg⟩
    have S1 := Lib.hid (S0.out.trans hg)
    clear hg
    go_wp2_with fail
    go_ret
    exact ⟨rfl, S1.out⟩


set_option maxHeartbeats 400000 in
theorem ClockDrifts_arg (o k t d : Int) (w : World) (hv : ¬ Vc o k) (d0 : 0 ≤ d) (d1 : d ≤ 1099511627776) (t0 : 0 ≤ t) (t1 : t ≤ 1099511627776 - d) :
    Calls Try.prog 4 #[.agg #[.int .i64 o, .int .i64 k], .int .i64 t, .int .i64 d] w fun e w' => e = .returned (.bool true) ∧ Gr w w' := by
  have HV := Lib.hid hv
  clear hv
  go_enter Try.func4, Try.ntmps4
  go_wp2_with fail
  have g0 : Gr w (w.alloc (Obj.cells #[.int .i64 o, .int .i64 k] 23)) := (Gr.refl _).alloc _
  have k0 := Ck.new w o k 23
  generalize w.alloc (Obj.cells #[.int .i64 o, .int .i64 k] 23) = W at g0 k0 ⊢
  have S0 := Lib.hid g0
  have K0 := Lib.hid k0
  clear g0 k0
  refine (awake08 _).mono ?_
  rintro e w1 ⟨rfl, hg⟩
  have S1 := Lib.hid (S0.out.trans hg)
  have K1 := Lib.hid (K0.out.gr hg)
  clear hg
  have c0 := K1.out.c0
  have c1 := K1.out.c1
  go_wp2_with fail
  clear c0 c1
  refine (show_arg o k t _ HV.out).mono ?_
  rintro e w2 ⟨rfl, hg⟩
  have S2 := Lib.hid (S1.out.trans hg)
  have K2 := Lib.hid (K1.out.gr hg)
  clear hg
  have c0 := K2.out.c0
  have c1 := K2.out.c1
  go_wp2_with fail
  clear c0 c1
  refine (show_arg o k (t + d) _ HV.out).mono ?_
  rintro e w3 ⟨rfl, hg⟩
  have S3 := Lib.hid (S2.out.trans hg)
  clear hg
  go_wp2_with fail
  go_ret
  exact ⟨rfl, S3.out⟩

theorem drift_bd {o k t d : Int} (hv : Vc o k) (d0 : 0 ≤ d) : rd o k (t + d) - rd o k t - d ≤ d * 100000 / 1000000000 + 1 ∧ -(d * 100000 / 1000000000 + 1) ≤ rd o k (t + d) - rd o k t - d := by
  have a := rd_add o k t d
  have b := mul_bd (t := d) d0 hv.d0 hv.d1
  generalize d * k = r at a b
  omega

set_option maxHeartbeats 400000 in
theorem ClockDrifts_ok (o k t d : Int) (w : World) (hv : Vc o k) (d0 : 0 ≤ d) (d1 : d ≤ 1099511627776) (t0 : 0 ≤ t) (t1 : t ≤ 1099511627776 - d) :
    Calls Try.prog 4 #[.agg #[.int .i64 o, .int .i64 k], .int .i64 t, .int .i64 d] w fun e w' => e = .returned (.bool true) ∧ Gr w w' := by
  have b0 := rd_bd hv t0 (by omega)
  have b1 := rd_bd hv (show 0 ≤ t + d by omega) (by omega)
  have bd := drift_bd (t := t) hv d0
  have HV := Lib.hid hv
  clear hv
  go_enter Try.func4, Try.ntmps4
  go_wp2_with fail
  have g0 : Gr w (w.alloc (Obj.cells #[.int .i64 o, .int .i64 k] 23)) := (Gr.refl _).alloc _
  have k0 := Ck.new w o k 23
  generalize w.alloc (Obj.cells #[.int .i64 o, .int .i64 k] 23) = W at g0 k0 ⊢
  have S0 := Lib.hid g0
  have K0 := Lib.hid k0
  clear g0 k0
  refine (awake08 _).mono ?_
  rintro e w1 ⟨rfl, hg⟩
  have S1 := Lib.hid (S0.out.trans hg)
  have K1 := Lib.hid (K0.out.gr hg)
  clear hg
  have c0 := K1.out.c0
  have c1 := K1.out.c1
  go_wp2_with fail
  clear c0 c1
  refine (show_ok o k t _ HV.out t0 (by omega)).mono ?_
  rintro e w2 ⟨rfl, hg⟩
  have S2 := Lib.hid (S1.out.trans hg)
  have K2 := Lib.hid (K1.out.gr hg)
  clear hg
  have c0 := K2.out.c0
  have c1 := K2.out.c1
  go_wp2_with fail
  clear c0 c1
  refine (show_ok o k (t + d) _ HV.out (by omega) (by omega)).mono ?_
  rintro e w3 ⟨rfl, hg⟩
  have S3 := Lib.hid (S2.out.trans hg)
  clear hg
  go_wp2_with fail
  go_ret
  exact ⟨rfl, S3.out⟩

theorem ClockDrifts_walk (o k t d : Int) (w : World) :
    Calls Try.prog 4 #[.agg #[.int .i64 o, .int .i64 k], .int .i64 t, .int .i64 d] w fun e w' => e = .returned (.bool true) ∧ Gr w w' := by
  by_cases h : 0 ≤ d ∧ d ≤ 1099511627776 ∧ 0 ≤ t ∧ t ≤ 1099511627776 - d
  · by_cases hv : Vc o k
    · exact ClockDrifts_ok o k t d w hv h.1 h.2.1 h.2.2.1 h.2.2.2
    · exact ClockDrifts_arg o k t d w hv h.1 h.2.1 h.2.2.1 h.2.2.2
  · exact ClockDrifts_out o k t d w (by omega)
set_option maxRecDepth 100000 in
set_option maxHeartbeats 1000000 in
theorem ClockDrifts_lifted (os : Os) (started : os.Started) (H : Type) (enc : TypeId × Value → H) :
    ReturnsInHanded {} Try.checked os 4 .any (Rows.clockDriftsSpec.pre6 enc Try.prog Try.f4 Rows.clockDriftsRow.domain false) (Rows.clockDriftsSpec.post enc Try.prog Try.f4 false true false false) := by
  refine returnsInHanded_of_change (C := Try.checked) Try.own started (by kernel_rfl) Try.func4
    (ChangeSpec.witness6 (enc := enc) (C := Try.checked) false ⟨#[], #[.agg #[.int .i64 0, .int .i64 0], .int .i64 0, .int .i64 0], []⟩ 8 (by kernel_rfl) (by kernel_rfl) (by kernel_rfl) (by kernel_rfl)) ?_
  intro W base args ds gs before hval0 hW hcnd _
  have hval : ∀ (j : Nat) t v, Try.f4.params[j]? = some t → args[j]? = some v → Value.okWide Try.prog W .any base t v := hval0
  have hW' := hW
  obtain ⟨p, q, hA0, hV, rfl, hfz, hnd⟩ := hW
  have hA : DataW.TrodAll enc Try.prog W 0 (fun _ => true) true Try.f4.params.toList args.toList ds p := hA0
  rw [Try.params4] at hA hval
  have hAk := hA
  obtain ⟨v0, vs0, d0, ds0, p0, q0, hargs, rfl, rfl, h0, r0⟩ := trodAll_cons hA
  obtain ⟨v1, vs1, d1, ds1, p1, q1, rfl, rfl, rfl, h1, r1⟩ := trodAll_cons r0
  obtain ⟨v2, vs2, d2, ds2, p2, q2, rfl, rfl, rfl, h2, r2⟩ := trodAll_cons r1
  obtain ⟨rfl, rfl, rfl⟩ := trodAll_nil r2
  obtain rfl : args = #[v0, v1, v2] := by cases args; simp_all
  obtain ⟨rfl, rfl⟩ := trodVars_none hV
  obtain ⟨c00, c01, y00, y01, m0, rfl, rfl, rfl, hy00, hy01⟩ := open_agg2 Try.underlying23 (by kernel_rfl) Try.cells23 (hval 0 23 v0 rfl rfl) h0
  obtain ⟨o, e00, rfl, bo⟩ := DataW.trod_int Try.underlying3 hy00
  obtain ⟨k, e01, rfl, bk⟩ := DataW.trod_int Try.underlying3 hy01
  simp at e00 e01
  subst e00 e01
  obtain ⟨t, rfl, rfl, rfl, bt⟩ := open_int Try.underlying3 (hval 1 3 v1 rfl rfl) h1
  obtain ⟨d, rfl, rfl, rfl, bd⟩ := open_int Try.underlying3 (hval 2 3 v2 rfl rfl) h2
  clear hA0 hval0
  simp only [List.append_nil] at hW'
  refine (ClockDrifts_walk o k t d W).mono fun e W' ⟨he, hg⟩ => ?_
  subst he
  have hb : Below W.heap.size W W' := hg
  exact ⟨_, rfl, _, _, _, [], _, [], hW', trodAll_mk1 (shut_bool Try.underlying4 _), trodAll_stays Try.laidOut hb _ _ _ _ (by intro t ht; simp at ht; rcases ht with rfl | rfl | rfl <;> exact ⟨by kernel_rfl, of_decide_eq_true (by kernel_rfl)⟩) hAk (fun x hx => by simpa using hW'.lt x (by simpa using hx)), rfl, hb.frame _, fun h => by cases h⟩

theorem ClockDrifts_closed : joinedFacts Try.pinned.checked.prog 4 Try.f4 Rows.clockDriftsSpec Rows.clockDriftsRow = true := by
  unfold joinedFacts
  exact (and_tt (and_tt (and_tt (and_tt (and_tt (and_tt (and_tt (and_tt (and_tt (and_tt (and_tt (and_tt (and_tt (and_tt (and_tt (and_tt (and_tt (and_tt (and_tt (and_tt (and_tt (and_tt (and_tt (and_tt (and_tt (and_tt (and_tt (and_tt (and_tt (and_tt (and_tt (by as_aux_lemma => kernel_rfl) (J_laid)) (J_maps)) (by as_aux_lemma => kernel_rfl)) (by as_aux_lemma => kernel_rfl)) (by as_aux_lemma => kernel_rfl)) (J_stops)) (by as_aux_lemma => kernel_rfl)) (J_knobs)) (by as_aux_lemma => kernel_rfl)) (by as_aux_lemma => kernel_rfl)) (by as_aux_lemma => kernel_rfl)) (by as_aux_lemma => kernel_rfl)) (by as_aux_lemma => kernel_rfl)) (by as_aux_lemma => kernel_rfl)) (by as_aux_lemma => kernel_rfl)) (by as_aux_lemma => kernel_rfl)) (by as_aux_lemma => kernel_rfl)) (by as_aux_lemma => kernel_rfl)) (by as_aux_lemma => kernel_rfl)) (by as_aux_lemma => kernel_rfl)) (by as_aux_lemma => kernel_rfl)) (J_keys)) (by as_aux_lemma => kernel_rfl)) (J_heard)) (J_enter)) (J_lifts)) (J_make)) (by as_aux_lemma => kernel_rfl)) (by as_aux_lemma => kernel_rfl)) (by as_aux_lemma => kernel_rfl)) (by as_aux_lemma => kernel_rfl))

/-- THE STATEMENT ClockDrifts. -/
theorem ClockDrifts_holds : Rows.ClockDriftsSaid :=
  OpenClaim.holds_of_wide 4 Try.f4 rfl rfl rfl rfl rfl rfl rfl ⟨rfl, rfl, rfl, rfl, rfl⟩ rfl rfl rfl rfl rfl (by kernel_rfl) Try.func4 ClockDrifts_closed
    (of_decide_eq_true (by kernel_rfl)) (by unfold Func.isWrapper; rw [if_neg (of_decide_eq_false (by kernel_rfl))]; exact ⟨rfl, rfl⟩)
    (fun os started H enc _ => ClockDrifts_lifted os started H enc)
#print axioms ClockDrifts_holds
end Go.Proofs.Ytpnigndobhbfnaa
