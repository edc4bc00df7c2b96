/- ClockShows: Check, Show, Reach and Slot return what the definitions specify, or the specified errors. For every input the call returns true and each argument reads afterwards as it read before (no condition). -/
import Derived.Test.YtpnigndobhbfnaaAwake8
import Derived.Test.YtpnigndobhbfnaaFrame
set_option linter.unnecessarySimpa false
namespace Go.Proofs.Ytpnigndobhbfnaa
open Go.ChangeShapes Go.WideShapes Go.ChangeAt Go.RowKit Go.Joins
theorem keep1 {f : FuncId} {args : Array Value} {v : Value} {w W : World} {B : Nat} {o d : Int} (h : Calls Try.prog f args w fun e w' => e = .returned v ∧ Gr w w') (k : Ck W B o d) (hg : Hid (Gr W w)) :
    Calls Try.prog f args w fun e w' => e = .returned v ∧ w'.cell? ⟨B, 0, none⟩ = some (.int .i64 o) ∧ w'.cell? ⟨B, 1, none⟩ = some (.int .i64 d) ∧ Hid (Gr W w') :=
  h.mono fun _ _ ⟨he, h⟩ =>
    let g := hg.out.trans h
    ⟨he, (k.gr g).c0, (k.gr g).c1, g⟩
set_option maxHeartbeats 400000 in
theorem ClockShows_walk (o d t x : Int) (w : World) :
    Calls Try.prog 6 #[.agg #[.int .i64 o, .int .i64 d], .int .i64 t, .int .i64 x] w fun e w' => e = .returned (.bool true) ∧ Gr w w' := by
  go_enter Try.func6, Try.ntmps6
  go_wp2_with fail
  have g0 : Gr w (w.alloc (Obj.cells #[.int .i64 o, .int .i64 d] 23)) := (Gr.refl _).alloc _
  have k0 := Ck.new w o d 23
  generalize w.alloc (Obj.cells #[.int .i64 o, .int .i64 d] 23) = W at g0 k0 ⊢
  have S0 := Lib.hid g0
  have K0 := Lib.hid k0
  clear g0 k0
  refine (awake08 _).mono ?_
  rintro e w1 ⟨rfl, hg⟩
  have S1 := Lib.hid (S0.out.trans hg)
  have K1 := Lib.hid (K0.out.gr hg)
  clear hg
  have c0 := K1.out.c0
  have c1 := K1.out.c1
  go_wp2_with fail
  clear c0 c1
  refine (show_any o d t _).mono ?_
  rintro e w2 ⟨rfl, hg⟩
  have S2 := Lib.hid (S1.out.trans hg)
  have K2 := Lib.hid (K1.out.gr hg)
  clear hg
  have c0 := K2.out.c0
  have c1 := K2.out.c1
  go_wp2_with fail
  clear c0 c1
  refine (rShow_any o d t _).mono ?_
  rintro e w3 ⟨rfl, hg⟩
  have S3 := Lib.hid (S2.out.trans hg)
  have K3 := Lib.hid (K2.out.gr hg)
  clear hg
  have c0 := K3.out.c0
  have c1 := K3.out.c1
  go_wp2_with fail
  clear c0 c1
  refine (Reach_any o d x _).mono ?_
  rintro e w4 ⟨rfl, hg⟩
  have S4 := Lib.hid (S3.out.trans hg)
  have K4 := Lib.hid (K3.out.gr hg)
  clear hg
  have c0 := K4.out.c0
  have c1 := K4.out.c1
  go_wp2_with fail
  clear c0 c1
  refine (rReach_any o d x _).mono ?_
  rintro e w5 ⟨rfl, hg⟩
  have S5 := Lib.hid (S4.out.trans hg)
  have K5 := Lib.hid (K4.out.gr hg)
  clear hg
  have c0 := K5.out.c0
  have c1 := K5.out.c1
  go_wp2_with fail
  clear c0 c1
  refine (Slot_any o d t _).mono ?_
  rintro e w6 ⟨rfl, hg⟩
  have S6 := Lib.hid (S5.out.trans hg)
  have K6 := Lib.hid (K5.out.gr hg)
  clear hg
  have c0 := K6.out.c0
  have c1 := K6.out.c1
  go_wp2_with fail
  clear c0 c1
  refine (rSlot_any o d t _).mono ?_
  rintro e w7 ⟨rfl, hg⟩
  have S7 := Lib.hid (S6.out.trans hg)
  have K7 := Lib.hid (K6.out.gr hg)
  clear hg
  have c0 := K7.out.c0
  have c1 := K7.out.c1
  go_wp2_with fail
  have gr0 := Lib.hid (Gr.refl w7).drew
  go_region_held3 (fun W => W.cell? ⟨w.heap.size, 0, none⟩ = some (.int .i64 o) ∧ W.cell? ⟨w.heap.size, 1, none⟩ = some (.int .i64 d) ∧ Hid (Gr w7 W)) (first | exact ⟨‹_›, ‹_›, ‹_›⟩)
    (first
      | (go_at_call 33; refine (keep1 (check_any o d _) K7.out (by go_split_ands; assumption)).mono ?_; rintro e wz ⟨rfl, q0, q1, q2⟩)
      | (go_at_call 34; refine (keep1 (rcheck_any o d _) K7.out (by go_split_ands; assumption)).mono ?_; rintro e wz ⟨rfl, q0, q1, q2⟩))
  go_wp2
  go_ret
  exact ⟨rfl, S7.out.trans q2.out⟩
set_option maxRecDepth 100000 in
set_option maxHeartbeats 1000000 in
theorem ClockShows_lifted (os : Os) (started : os.Started) (H : Type) (enc : TypeId × Value → H) :
    ReturnsInHanded {} Try.checked os 6 .any (Rows.clockShowsSpec.pre6 enc Try.prog Try.f6 Rows.clockShowsRow.domain false) (Rows.clockShowsSpec.post enc Try.prog Try.f6 false true false false) := by
  refine returnsInHanded_of_change (C := Try.checked) Try.own started (by kernel_rfl) Try.func6
    (ChangeSpec.witness6 (enc := enc) (C := Try.checked) false ⟨#[], #[.agg #[.int .i64 0, .int .i64 0], .int .i64 0, .int .i64 0], []⟩ 8 (by kernel_rfl) (by kernel_rfl) (by kernel_rfl) (by kernel_rfl)) ?_
  intro W base args ds gs before hval0 hW hcnd _
  have hval : ∀ (j : Nat) t v, Try.f6.params[j]? = some t → args[j]? = some v → Value.okWide Try.prog W .any base t v := hval0
  have hW' := hW
  obtain ⟨p, q, hA0, hV, rfl, hfz, hnd⟩ := hW
  have hA : DataW.TrodAll enc Try.prog W 0 (fun _ => true) true Try.f6.params.toList args.toList ds p := hA0
  rw [Try.params6] at hA hval
  have hAk := hA
  obtain ⟨v0, vs0, d0, ds0, p0, q0, hargs, rfl, rfl, h0, r0⟩ := trodAll_cons hA
  obtain ⟨v1, vs1, d1, ds1, p1, q1, rfl, rfl, rfl, h1, r1⟩ := trodAll_cons r0
  obtain ⟨v2, vs2, d2, ds2, p2, q2, rfl, rfl, rfl, h2, r2⟩ := trodAll_cons r1
  obtain ⟨rfl, rfl, rfl⟩ := trodAll_nil r2
  obtain rfl : args = #[v0, v1, v2] := by cases args; simp_all
  obtain ⟨rfl, rfl⟩ := trodVars_none hV
  obtain ⟨c00, c01, y00, y01, m0, rfl, rfl, rfl, hy00, hy01⟩ := open_agg2 Try.underlying23 (by kernel_rfl) Try.cells23 (hval 0 23 v0 rfl rfl) h0
  obtain ⟨o, e00, rfl, bo⟩ := DataW.trod_int Try.underlying3 hy00
  obtain ⟨d, e01, rfl, bd⟩ := DataW.trod_int Try.underlying3 hy01
  simp at e00 e01
  subst e00 e01
  obtain ⟨t, rfl, rfl, rfl, bt⟩ := open_int Try.underlying3 (hval 1 3 v1 rfl rfl) h1
  obtain ⟨x, rfl, rfl, rfl, bx⟩ := open_int Try.underlying3 (hval 2 3 v2 rfl rfl) h2
  clear hA0 hval0
  simp only [List.append_nil] at hW'
  refine (ClockShows_walk o d t x W).mono fun e W' ⟨he, hg⟩ => ?_
  subst he
  have hb : Below W.heap.size W W' := hg
  exact ⟨_, rfl, _, _, _, [], _, [], hW', trodAll_mk1 (shut_bool Try.underlying4 _), trodAll_stays Try.laidOut hb _ _ _ _ (by intro t ht; simp at ht; rcases ht with rfl | rfl | rfl <;> exact ⟨by kernel_rfl, of_decide_eq_true (by kernel_rfl)⟩) hAk (fun x hx => by simpa using hW'.lt x (by simpa using hx)), rfl, hb.frame _, fun h => by cases h⟩

theorem ClockShows_closed : joinedFacts Try.pinned.checked.prog 6 Try.f6 Rows.clockShowsSpec Rows.clockShowsRow = true := by
  unfold joinedFacts
  exact (and_tt (and_tt (and_tt (and_tt (and_tt (and_tt (and_tt (and_tt (and_tt (and_tt (and_tt (and_tt (and_tt (and_tt (and_tt (and_tt (and_tt (and_tt (and_tt (and_tt (and_tt (and_tt (and_tt (and_tt (and_tt (and_tt (and_tt (and_tt (and_tt (and_tt (and_tt (by as_aux_lemma => kernel_rfl) (J_laid)) (J_maps)) (by as_aux_lemma => kernel_rfl)) (by as_aux_lemma => kernel_rfl)) (by as_aux_lemma => kernel_rfl)) (J_stops)) (by as_aux_lemma => kernel_rfl)) (J_knobs)) (by as_aux_lemma => kernel_rfl)) (by as_aux_lemma => kernel_rfl)) (by as_aux_lemma => kernel_rfl)) (by as_aux_lemma => kernel_rfl)) (by as_aux_lemma => kernel_rfl)) (by as_aux_lemma => kernel_rfl)) (by as_aux_lemma => kernel_rfl)) (by as_aux_lemma => kernel_rfl)) (by as_aux_lemma => kernel_rfl)) (by as_aux_lemma => kernel_rfl)) (by as_aux_lemma => kernel_rfl)) (by as_aux_lemma => kernel_rfl)) (by as_aux_lemma => kernel_rfl)) (J_keys)) (by as_aux_lemma => kernel_rfl)) (J_heard)) (J_enter)) (J_lifts)) (J_make)) (by as_aux_lemma => kernel_rfl)) (by as_aux_lemma => kernel_rfl)) (by as_aux_lemma => kernel_rfl)) (by as_aux_lemma => kernel_rfl))

/-- THE STATEMENT ClockShows. -/
theorem ClockShows_holds : Rows.ClockShowsSaid :=
  OpenClaim.holds_of_wide 6 Try.f6 rfl rfl rfl rfl rfl rfl rfl ⟨rfl, rfl, rfl, rfl, rfl⟩ rfl rfl rfl rfl rfl (by kernel_rfl) Try.func6 ClockShows_closed
    (of_decide_eq_true (by kernel_rfl)) (by unfold Func.isWrapper; rw [if_neg (of_decide_eq_false (by kernel_rfl))]; exact ⟨rfl, rfl⟩)
    (fun os started H enc _ => ClockShows_lifted os started H enc)
#print axioms ClockShows_holds
end Go.Proofs.Ytpnigndobhbfnaa
