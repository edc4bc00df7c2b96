/- GuardFrames: End, Fits and Late return what the definitions specify, or the specified errors. For every input the call returns true and each argument reads afterwards as it read before (no condition). -/
import Derived.Test.YtpnigndobhbfnaaGrdE
import Derived.Test.YtpnigndobhbfnaaFrame
set_option linter.unnecessarySimpa false
namespace Go.Proofs.Ytpnigndobhbfnaa
open Go.ChangeShapes Go.WideShapes Go.ChangeAt Go.RowKit Go.Joins
set_option maxHeartbeats 1000000 in
theorem GuardFrames_walk (oa da ob db s : Int) (w : World) :
    Calls Try.prog 23 #[.agg #[.int .i64 oa, .int .i64 da], .agg #[.int .i64 ob, .int .i64 db], .int .i64 s] w fun e w' => e = .returned (.bool true) ∧ Gr w w' := by
  go_enter Try.func23, Try.ntmps23
  go_wp2_with fail
  have g0 : Gr w (((w).alloc (Obj.cells #[.int .i64 oa, .int .i64 da] 23)).alloc (Obj.cells #[.int .i64 ob, .int .i64 db] 23)) := Gr.alloc (Gr.alloc (Gr.refl w) _) _
  have ba : Bx (((w).alloc (Obj.cells #[.int .i64 oa, .int .i64 da] 23)).alloc (Obj.cells #[.int .i64 ob, .int .i64 db] 23)) (w.heap.size) [.int .i64 oa, .int .i64 da] := Bx.gr (Bx.at_ (Bx.new (w) [.int .i64 oa, .int .i64 da] 23) (by simp)) (Gr.alloc (Gr.refl _) _)
  have bb : Bx (((w).alloc (Obj.cells #[.int .i64 oa, .int .i64 da] 23)).alloc (Obj.cells #[.int .i64 ob, .int .i64 db] 23)) (w.heap.size + 1) [.int .i64 ob, .int .i64 db] := Bx.gr (Bx.at_ (Bx.new ((w).alloc (Obj.cells #[.int .i64 oa, .int .i64 da] 23)) [.int .i64 ob, .int .i64 db] 23) (by simp)) (Gr.refl _)
  generalize ((w).alloc (Obj.cells #[.int .i64 oa, .int .i64 da] 23)).alloc (Obj.cells #[.int .i64 ob, .int .i64 db] 23) = W at g0 ba bb ⊢
  have S0 := Lib.hid g0
  have Ka0 := Lib.hid ba
  have Kb0 := Lib.hid bb
  clear g0 ba bb
  refine (awake09 _).mono ?_
  rintro e w1 ⟨rfl, hg⟩
  have S1 := Lib.hid (S0.out.trans hg)
  have Ka1 := Lib.hid (Ka0.out.gr hg)
  have Kb1 := Lib.hid (Kb0.out.gr hg)
  clear hg
  have ca0 := Ka1.out.c 0 _ rfl
  have ca1 := Ka1.out.c 1 _ rfl
  have la := Ka1.out.lt
  have cb0 := Kb1.out.c 0 _ rfl
  have cb1 := Kb1.out.c 1 _ rfl
  have lb := Kb1.out.lt
  go_wp2_with fail
  all_goals (try clear ca0 ca1 la cb0 cb1 lb)
  refine (End_any oa da s _).mono ?_
  rintro e w2 ⟨rfl, hg⟩
  have S2 := Lib.hid (S1.out.trans hg)
  have Ka2 := Lib.hid (Ka1.out.gr hg)
  have Kb2 := Lib.hid (Kb1.out.gr hg)
  clear hg
  have ca0 := Ka2.out.c 0 _ rfl
  have ca1 := Ka2.out.c 1 _ rfl
  have la := Ka2.out.lt
  have cb0 := Kb2.out.c 0 _ rfl
  have cb1 := Kb2.out.c 1 _ rfl
  have lb := Kb2.out.lt
  go_wp2_with fail
  all_goals (try clear ca0 ca1 la cb0 cb1 lb)
  refine (rEnd_any oa da s _).mono ?_
  rintro e w3 ⟨rfl, hg⟩
  have S3 := Lib.hid (S2.out.trans hg)
  have Ka3 := Lib.hid (Ka2.out.gr hg)
  have Kb3 := Lib.hid (Kb2.out.gr hg)
  clear hg
  have ca0 := Ka3.out.c 0 _ rfl
  have ca1 := Ka3.out.c 1 _ rfl
  have la := Ka3.out.lt
  have cb0 := Kb3.out.c 0 _ rfl
  have cb1 := Kb3.out.c 1 _ rfl
  have lb := Kb3.out.lt
  go_wp2_with fail
  all_goals (try clear ca0 ca1 la cb0 cb1 lb)
  refine (Fits_any oa da ob db s _).mono ?_
  rintro e w4 ⟨rfl, hg⟩
  have S4 := Lib.hid (S3.out.trans hg)
  have Ka4 := Lib.hid (Ka3.out.gr hg)
  have Kb4 := Lib.hid (Kb3.out.gr hg)
  clear hg
  have ca0 := Ka4.out.c 0 _ rfl
  have ca1 := Ka4.out.c 1 _ rfl
  have la := Ka4.out.lt
  have cb0 := Kb4.out.c 0 _ rfl
  have cb1 := Kb4.out.c 1 _ rfl
  have lb := Kb4.out.lt
  go_wp2_with fail
  all_goals (try clear ca0 ca1 la cb0 cb1 lb)
  refine (rFits_any oa da ob db s _).mono ?_
  rintro e w5 ⟨rfl, hg⟩
  have S5 := Lib.hid (S4.out.trans hg)
  have Ka5 := Lib.hid (Ka4.out.gr hg)
  have Kb5 := Lib.hid (Kb4.out.gr hg)
  clear hg
  have ca0 := Ka5.out.c 0 _ rfl
  have ca1 := Ka5.out.c 1 _ rfl
  have la := Ka5.out.lt
  have cb0 := Kb5.out.c 0 _ rfl
  have cb1 := Kb5.out.c 1 _ rfl
  have lb := Kb5.out.lt
  go_wp2_with fail
  all_goals (try clear ca0 ca1 la cb0 cb1 lb)
  refine (Late_any oa da ob db s _).mono ?_
  rintro e w6 ⟨rfl, hg⟩
  have S6 := Lib.hid (S5.out.trans hg)
  have Ka6 := Lib.hid (Ka5.out.gr hg)
  have Kb6 := Lib.hid (Kb5.out.gr hg)
  clear hg
  have ca0 := Ka6.out.c 0 _ rfl
  have ca1 := Ka6.out.c 1 _ rfl
  have la := Ka6.out.lt
  have cb0 := Kb6.out.c 0 _ rfl
  have cb1 := Kb6.out.c 1 _ rfl
  have lb := Kb6.out.lt
  go_wp2_with fail
  all_goals (try clear ca0 ca1 la cb0 cb1 lb)
  refine (rLate_any oa da ob db s _).mono ?_
  rintro e w7 ⟨rfl, hg⟩
  have S7 := Lib.hid (S6.out.trans hg)
  have Ka7 := Lib.hid (Ka6.out.gr hg)
  have Kb7 := Lib.hid (Kb6.out.gr hg)
  clear hg
  have ca0 := Ka7.out.c 0 _ rfl
  have ca1 := Ka7.out.c 1 _ rfl
  have la := Ka7.out.lt
  have cb0 := Kb7.out.c 0 _ rfl
  have cb1 := Kb7.out.c 1 _ rfl
  have lb := Kb7.out.lt
  go_wp2_with fail
  all_goals (try clear ca0 ca1 la cb0 cb1 lb)
  all_goals go_ret
  all_goals exact ⟨rfl, S7.out⟩

set_option maxRecDepth 100000 in
set_option maxHeartbeats 1000000 in
theorem GuardFrames_lifted (os : Os) (started : os.Started) (H : Type) (enc : TypeId × Value → H) :
    ReturnsInHanded {} Try.checked os 23 .any (Rows.guardFramesSpec.pre6 enc Try.prog Try.f23 Rows.guardFramesRow.domain false) (Rows.guardFramesSpec.post enc Try.prog Try.f23 false true false false) := by
  refine returnsInHanded_of_change (C := Try.checked) Try.own started (by kernel_rfl) Try.func23
    (ChangeSpec.witness6 (enc := enc) (C := Try.checked) false ⟨#[], #[.agg #[.int .i64 0, .int .i64 0], .agg #[.int .i64 0, .int .i64 0], .int .i64 0], []⟩ 8 (by kernel_rfl) (by kernel_rfl) (by kernel_rfl) (by kernel_rfl)) ?_
  intro W base args ds gs before hval0 hW hcnd _
  have hval : ∀ (j : Nat) t v, Try.f23.params[j]? = some t → args[j]? = some v → Value.okWide Try.prog W .any base t v := hval0
  have hW' := hW
  obtain ⟨p, q, hA0, hV, rfl, hfz, hnd⟩ := hW
  have hA : DataW.TrodAll enc Try.prog W 0 (fun _ => true) true Try.f23.params.toList args.toList ds p := hA0
  rw [Try.params23] at hA hval
  have hAk := hA
  obtain ⟨v0, vs0, d0, ds0, p0, q0, hargs, rfl, rfl, h0, r0⟩ := trodAll_cons hA
  obtain ⟨v1, vs1, d1, ds1, p1, q1, rfl, rfl, rfl, h1, r1⟩ := trodAll_cons r0
  obtain ⟨v2, vs2, d2, ds2, p2, q2, rfl, rfl, rfl, h2, r2⟩ := trodAll_cons r1
  obtain ⟨rfl, rfl, rfl⟩ := trodAll_nil r2
  obtain rfl : args = #[v0, v1, v2] := by cases args; simp_all
  obtain ⟨rfl, rfl⟩ := trodVars_none hV
  obtain ⟨c00, c01, y00, y01, m0, rfl, rfl, rfl, hy00, hy01⟩ := open_agg2 Try.underlying23 (by kernel_rfl) Try.cells23 (hval 0 23 v0 rfl rfl) h0
  obtain ⟨oa, e00, rfl, wfoa⟩ := DataW.trod_int Try.underlying3 hy00
  obtain ⟨da, e01, rfl, wfda⟩ := DataW.trod_int Try.underlying3 hy01
  simp at e00 e01
  subst e00 e01
  obtain ⟨c10, c11, y10, y11, m1, rfl, rfl, rfl, hy10, hy11⟩ := open_agg2 Try.underlying23 (by kernel_rfl) Try.cells23 (hval 1 23 v1 rfl rfl) h1
  obtain ⟨ob, e10, rfl, wfob⟩ := DataW.trod_int Try.underlying3 hy10
  obtain ⟨db, e11, rfl, wfdb⟩ := DataW.trod_int Try.underlying3 hy11
  simp at e10 e11
  subst e10 e11
  obtain ⟨s, rfl, rfl, rfl, wfs⟩ := open_int Try.underlying3 (hval 2 3 v2 rfl rfl) h2
  clear hA0 hval0
  simp only [List.append_nil] at hW'
  refine (GuardFrames_walk oa da ob db s W).mono fun e W' ⟨he, hg⟩ => ?_
  subst he
  have hb : Below W.heap.size W W' := hg
  exact ⟨_, rfl, _, _, _, [], _, [], hW', trodAll_mk1 (shut_bool Try.underlying4 _), trodAll_stays Try.laidOut hb _ _ _ _ (by intro t ht; simp at ht; rcases ht with rfl | rfl | rfl <;> exact ⟨by kernel_rfl, of_decide_eq_true (by kernel_rfl)⟩) hAk (fun x hx => by simpa using hW'.lt x (by simpa using hx)), rfl, hb.frame _, fun h => by cases h⟩

theorem GuardFrames_closed : joinedFacts Try.pinned.checked.prog 23 Try.f23 Rows.guardFramesSpec Rows.guardFramesRow = true := by
  unfold joinedFacts
  exact (and_tt (and_tt (and_tt (and_tt (and_tt (and_tt (and_tt (and_tt (and_tt (and_tt (and_tt (and_tt (and_tt (and_tt (and_tt (and_tt (and_tt (and_tt (and_tt (and_tt (and_tt (and_tt (and_tt (and_tt (and_tt (and_tt (and_tt (and_tt (and_tt (and_tt (and_tt (by as_aux_lemma => kernel_rfl) (J_laid)) (J_maps)) (by as_aux_lemma => kernel_rfl)) (by as_aux_lemma => kernel_rfl)) (by as_aux_lemma => kernel_rfl)) (J_stops)) (by as_aux_lemma => kernel_rfl)) (J_knobs)) (by as_aux_lemma => kernel_rfl)) (by as_aux_lemma => kernel_rfl)) (by as_aux_lemma => kernel_rfl)) (by as_aux_lemma => kernel_rfl)) (by as_aux_lemma => kernel_rfl)) (by as_aux_lemma => kernel_rfl)) (by as_aux_lemma => kernel_rfl)) (by as_aux_lemma => kernel_rfl)) (by as_aux_lemma => kernel_rfl)) (by as_aux_lemma => kernel_rfl)) (by as_aux_lemma => kernel_rfl)) (by as_aux_lemma => kernel_rfl)) (by as_aux_lemma => kernel_rfl)) (J_keys)) (by as_aux_lemma => kernel_rfl)) (J_heard)) (J_enter)) (J_lifts)) (J_make)) (by as_aux_lemma => kernel_rfl)) (by as_aux_lemma => kernel_rfl)) (by as_aux_lemma => kernel_rfl)) (by as_aux_lemma => kernel_rfl))

/-- THE STATEMENT GuardFrames. -/
theorem GuardFrames_holds : Rows.GuardFramesSaid :=
  OpenClaim.holds_of_wide 23 Try.f23 rfl rfl rfl rfl rfl rfl rfl ⟨rfl, rfl, rfl, rfl, rfl⟩ rfl rfl rfl rfl rfl (by kernel_rfl) Try.func23 GuardFrames_closed
    (of_decide_eq_true (by kernel_rfl)) (by unfold Func.isWrapper; rw [if_neg (of_decide_eq_false (by kernel_rfl))]; exact ⟨rfl, rfl⟩)
    (fun os started H enc _ => GuardFrames_lifted os started H enc)
#print axioms GuardFrames_holds
end Go.Proofs.Ytpnigndobhbfnaa
