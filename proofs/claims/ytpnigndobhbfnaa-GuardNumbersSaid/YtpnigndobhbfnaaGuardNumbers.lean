/- GuardNumbers: Growth, Length, Step, Spread and Slots return the specified numbers, or the specified errors. For every input the call returns true and each argument reads afterwards as it read before (no condition). -/
import Derived.Test.YtpnigndobhbfnaaGrdE
import Derived.Test.YtpnigndobhbfnaaFrame
set_option linter.unnecessarySimpa false
namespace Go.Proofs.Ytpnigndobhbfnaa
open Go.ChangeShapes Go.WideShapes Go.ChangeAt Go.RowKit Go.Joins
set_option maxHeartbeats 1000000 in
theorem GuardNumbers_walk (t k x y z : Int) (w : World) :
    Calls Try.prog 15 #[.int .i64 t, .int .i64 k, .agg #[.int .i64 x, .int .i64 y, .int .i64 z]] w fun e w' => e = .returned (.bool true) ∧ Gr w w' := by
  go_enter Try.func15, Try.ntmps15
  go_wp2_with fail
  have g0 : Gr w ((w).alloc (Obj.cells #[.int .i64 x, .int .i64 y, .int .i64 z] 62)) := Gr.alloc (Gr.refl w) _
  have bv : Bx ((w).alloc (Obj.cells #[.int .i64 x, .int .i64 y, .int .i64 z] 62)) (w.heap.size) [.int .i64 x, .int .i64 y, .int .i64 z] := Bx.gr (Bx.at_ (Bx.new (w) [.int .i64 x, .int .i64 y, .int .i64 z] 62) (by simp)) (Gr.refl _)
  generalize (w).alloc (Obj.cells #[.int .i64 x, .int .i64 y, .int .i64 z] 62) = W at g0 bv ⊢
  have S0 := Lib.hid g0
  have Kv0 := Lib.hid bv
  clear g0 bv
  refine (awake09 _).mono ?_
  rintro e w1 ⟨rfl, hg⟩
  have S1 := Lib.hid (S0.out.trans hg)
  have Kv1 := Lib.hid (Kv0.out.gr hg)
  clear hg
  have cv0 := Kv1.out.c 0 _ rfl
  have cv1 := Kv1.out.c 1 _ rfl
  have cv2 := Kv1.out.c 2 _ rfl
  have lv := Kv1.out.lt
  go_wp2_with fail
  all_goals (try clear cv0 cv1 cv2 lv)
  refine (Growth_any t k _).mono ?_
  rintro e w2 ⟨rfl, hg⟩
  have S2 := Lib.hid (S1.out.trans hg)
  have Kv2 := Lib.hid (Kv1.out.gr hg)
  clear hg
  have cv0 := Kv2.out.c 0 _ rfl
  have cv1 := Kv2.out.c 1 _ rfl
  have cv2 := Kv2.out.c 2 _ rfl
  have lv := Kv2.out.lt
  go_wp2_with fail
  all_goals (try clear cv0 cv1 cv2 lv)
  refine (rGrowth_any t k _).mono ?_
  rintro e w3 ⟨rfl, hg⟩
  have S3 := Lib.hid (S2.out.trans hg)
  have Kv3 := Lib.hid (Kv2.out.gr hg)
  clear hg
  have cv0 := Kv3.out.c 0 _ rfl
  have cv1 := Kv3.out.c 1 _ rfl
  have cv2 := Kv3.out.c 2 _ rfl
  have lv := Kv3.out.lt
  go_wp2_with fail
  all_goals (try clear cv0 cv1 cv2 lv)
  refine (Length_any x k _).mono ?_
  rintro e w4 ⟨rfl, hg⟩
  have S4 := Lib.hid (S3.out.trans hg)
  have Kv4 := Lib.hid (Kv3.out.gr hg)
  clear hg
  have cv0 := Kv4.out.c 0 _ rfl
  have cv1 := Kv4.out.c 1 _ rfl
  have cv2 := Kv4.out.c 2 _ rfl
  have lv := Kv4.out.lt
  go_wp2_with fail
  all_goals (try clear cv0 cv1 cv2 lv)
  refine (rLength_any x k _).mono ?_
  rintro e w5 ⟨rfl, hg⟩
  have S5 := Lib.hid (S4.out.trans hg)
  have Kv5 := Lib.hid (Kv4.out.gr hg)
  clear hg
  have cv0 := Kv5.out.c 0 _ rfl
  have cv1 := Kv5.out.c 1 _ rfl
  have cv2 := Kv5.out.c 2 _ rfl
  have lv := Kv5.out.lt
  go_wp2_with fail
  all_goals (try clear cv0 cv1 cv2 lv)
  refine (Step_any x k _).mono ?_
  rintro e w6 ⟨rfl, hg⟩
  have S6 := Lib.hid (S5.out.trans hg)
  have Kv6 := Lib.hid (Kv5.out.gr hg)
  clear hg
  have cv0 := Kv6.out.c 0 _ rfl
  have cv1 := Kv6.out.c 1 _ rfl
  have cv2 := Kv6.out.c 2 _ rfl
  have lv := Kv6.out.lt
  go_wp2_with fail
  all_goals (try clear cv0 cv1 cv2 lv)
  refine (rStep_any x k _).mono ?_
  rintro e w7 ⟨rfl, hg⟩
  have S7 := Lib.hid (S6.out.trans hg)
  have Kv7 := Lib.hid (Kv6.out.gr hg)
  clear hg
  have cv0 := Kv7.out.c 0 _ rfl
  have cv1 := Kv7.out.c 1 _ rfl
  have cv2 := Kv7.out.c 2 _ rfl
  have lv := Kv7.out.lt
  go_wp2_with fail
  all_goals (try clear cv0 cv1 cv2 lv)
  refine (Spread_all y z x k _).mono ?_
  rintro e w8 ⟨rfl, hg⟩
  have S8 := Lib.hid (S7.out.trans hg)
  have Kv8 := Lib.hid (Kv7.out.gr hg)
  clear hg
  have cv0 := Kv8.out.c 0 _ rfl
  have cv1 := Kv8.out.c 1 _ rfl
  have cv2 := Kv8.out.c 2 _ rfl
  have lv := Kv8.out.lt
  go_wp2_with fail
  all_goals (try clear cv0 cv1 cv2 lv)
  refine (rSpread_all y z x k _).mono ?_
  rintro e w9 ⟨rfl, hg⟩
  have S9 := Lib.hid (S8.out.trans hg)
  have Kv9 := Lib.hid (Kv8.out.gr hg)
  clear hg
  have cv0 := Kv9.out.c 0 _ rfl
  have cv1 := Kv9.out.c 1 _ rfl
  have cv2 := Kv9.out.c 2 _ rfl
  have lv := Kv9.out.lt
  go_wp2_with fail
  all_goals (try clear cv0 cv1 cv2 lv)
  refine (Slots_all y z k _).mono ?_
  rintro e w10 ⟨rfl, hg⟩
  have S10 := Lib.hid (S9.out.trans hg)
  have Kv10 := Lib.hid (Kv9.out.gr hg)
  clear hg
  have cv0 := Kv10.out.c 0 _ rfl
  have cv1 := Kv10.out.c 1 _ rfl
  have cv2 := Kv10.out.c 2 _ rfl
  have lv := Kv10.out.lt
  go_wp2_with fail
  all_goals (try clear cv0 cv1 cv2 lv)
  refine (rSlots_all y z k _).mono ?_
  rintro e w11 ⟨rfl, hg⟩
  have S11 := Lib.hid (S10.out.trans hg)
  have Kv11 := Lib.hid (Kv10.out.gr hg)
  clear hg
  have cv0 := Kv11.out.c 0 _ rfl
  have cv1 := Kv11.out.c 1 _ rfl
  have cv2 := Kv11.out.c 2 _ rfl
  have lv := Kv11.out.lt
  go_wp2_with fail
  all_goals (try clear cv0 cv1 cv2 lv)
  all_goals go_ret
  all_goals exact ⟨rfl, S11.out⟩

set_option maxRecDepth 100000 in
set_option maxHeartbeats 1000000 in
theorem GuardNumbers_lifted (os : Os) (started : os.Started) (H : Type) (enc : TypeId × Value → H) :
    ReturnsInHanded {} Try.checked os 15 .any (Rows.guardNumbersSpec.pre6 enc Try.prog Try.f15 Rows.guardNumbersRow.domain false) (Rows.guardNumbersSpec.post enc Try.prog Try.f15 false true false false) := by
  refine returnsInHanded_of_change (C := Try.checked) Try.own started (by kernel_rfl) Try.func15
    (ChangeSpec.witness6 (enc := enc) (C := Try.checked) false ⟨#[], #[.int .i64 0, .int .i64 0, .agg #[.int .i64 0, .int .i64 0, .int .i64 0]], []⟩ 8 (by kernel_rfl) (by kernel_rfl) (by kernel_rfl) (by kernel_rfl)) ?_
  intro W base args ds gs before hval0 hW hcnd _
  have hval : ∀ (j : Nat) t v, Try.f15.params[j]? = some t → args[j]? = some v → Value.okWide Try.prog W .any base t v := hval0
  have hW' := hW
  obtain ⟨p, q, hA0, hV, rfl, hfz, hnd⟩ := hW
  have hA : DataW.TrodAll enc Try.prog W 0 (fun _ => true) true Try.f15.params.toList args.toList ds p := hA0
  rw [Try.params15] at hA hval
  have hAk := hA
  obtain ⟨v0, vs0, d0, ds0, p0, q0, hargs, rfl, rfl, h0, r0⟩ := trodAll_cons hA
  obtain ⟨v1, vs1, d1, ds1, p1, q1, rfl, rfl, rfl, h1, r1⟩ := trodAll_cons r0
  obtain ⟨v2, vs2, d2, ds2, p2, q2, rfl, rfl, rfl, h2, r2⟩ := trodAll_cons r1
  obtain ⟨rfl, rfl, rfl⟩ := trodAll_nil r2
  obtain rfl : args = #[v0, v1, v2] := by cases args; simp_all
  obtain ⟨rfl, rfl⟩ := trodVars_none hV
  obtain ⟨t, rfl, rfl, rfl, wft⟩ := open_int Try.underlying3 (hval 0 3 v0 rfl rfl) h0
  obtain ⟨k, rfl, rfl, rfl, wfk⟩ := open_int Try.underlying3 (hval 1 3 v1 rfl rfl) h1
  obtain ⟨x, y, z, rfl, wfx, wfy, wfz⟩ := open_a3 Try.underlying62 Try.underlying3 (by kernel_rfl) (by kernel_rfl) (hval 2 62 v2 rfl rfl) h2
  clear hA0 hval0
  simp only [List.append_nil] at hW'
  refine (GuardNumbers_walk t k x y z W).mono fun e W' ⟨he, hg⟩ => ?_
  subst he
  have hb : Below W.heap.size W W' := hg
  exact ⟨_, rfl, _, _, _, [], _, [], hW', trodAll_mk1 (shut_bool Try.underlying4 _), trodAll_stays Try.laidOut hb _ _ _ _ (by intro t ht; simp at ht; rcases ht with rfl | rfl | rfl <;> exact ⟨by kernel_rfl, of_decide_eq_true (by kernel_rfl)⟩) hAk (fun x hx => by simpa using hW'.lt x (by simpa using hx)), rfl, hb.frame _, fun h => by cases h⟩

theorem GuardNumbers_closed : joinedFacts Try.pinned.checked.prog 15 Try.f15 Rows.guardNumbersSpec Rows.guardNumbersRow = true := by
  unfold joinedFacts
  exact (and_tt (and_tt (and_tt (and_tt (and_tt (and_tt (and_tt (and_tt (and_tt (and_tt (and_tt (and_tt (and_tt (and_tt (and_tt (and_tt (and_tt (and_tt (and_tt (and_tt (and_tt (and_tt (and_tt (and_tt (and_tt (and_tt (and_tt (and_tt (and_tt (and_tt (and_tt (by as_aux_lemma => kernel_rfl) (J_laid)) (J_maps)) (by as_aux_lemma => kernel_rfl)) (by as_aux_lemma => kernel_rfl)) (by as_aux_lemma => kernel_rfl)) (J_stops)) (by as_aux_lemma => kernel_rfl)) (J_knobs)) (by as_aux_lemma => kernel_rfl)) (by as_aux_lemma => kernel_rfl)) (by as_aux_lemma => kernel_rfl)) (by as_aux_lemma => kernel_rfl)) (by as_aux_lemma => kernel_rfl)) (by as_aux_lemma => kernel_rfl)) (by as_aux_lemma => kernel_rfl)) (by as_aux_lemma => kernel_rfl)) (by as_aux_lemma => kernel_rfl)) (by as_aux_lemma => kernel_rfl)) (by as_aux_lemma => kernel_rfl)) (by as_aux_lemma => kernel_rfl)) (by as_aux_lemma => kernel_rfl)) (J_keys)) (by as_aux_lemma => kernel_rfl)) (J_heard)) (J_enter)) (J_lifts)) (J_make)) (by as_aux_lemma => kernel_rfl)) (by as_aux_lemma => kernel_rfl)) (by as_aux_lemma => kernel_rfl)) (by as_aux_lemma => kernel_rfl))

/-- THE STATEMENT GuardNumbers. -/
theorem GuardNumbers_holds : Rows.GuardNumbersSaid :=
  OpenClaim.holds_of_wide 15 Try.f15 rfl rfl rfl rfl rfl rfl rfl ⟨rfl, rfl, rfl, rfl, rfl⟩ rfl rfl rfl rfl rfl (by kernel_rfl) Try.func15 GuardNumbers_closed
    (of_decide_eq_true (by kernel_rfl)) (by unfold Func.isWrapper; rw [if_neg (of_decide_eq_false (by kernel_rfl))]; exact ⟨rfl, rfl⟩)
    (fun os started H enc _ => GuardNumbers_lifted os started H enc)
#print axioms GuardNumbers_holds
end Go.Proofs.Ytpnigndobhbfnaa
