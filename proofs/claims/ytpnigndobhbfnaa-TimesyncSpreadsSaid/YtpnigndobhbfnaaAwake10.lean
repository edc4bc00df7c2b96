import Derived.Test.YtpnigndobhbfnaaTsC
namespace Go.Proofs.Ytpnigndobhbfnaa
open Go.RowKit
theorem he_aw : he ⟨40, 0, -1, 0⟩ 1 12120 = (⟨0, 0, 1, 1⟩, 0) := by rfl
theorem ac_aw : ac ⟨40, 0, -1, 0⟩ 1 (-40) = (⟨0, 0, 1, 1⟩, 0) := by rfl
theorem meN_aw : meN 0 0 1 12080 = -40 := by rfl
theorem meE_aw : meE 0 0 1 12080 = 0 := by rfl
theorem sy_aw0 : sySh ⟨0, 0, 1, 1⟩ 5 4 = true := by rfl
theorem sy_aw1 : sySh ⟨0, 0, 1, 1⟩ 6 4 = false := by rfl
theorem Hear0 (w : World) : Calls Try.prog 62 #[.agg #[.int .i64 40, .int .i64 0, .int .i64 (-1), .int .i64 0], .int .i64 1, .int .i64 12120] w fun e w' => e = .returned (.tuple #[.agg #[.int .i64 0, .int .i64 0, .int .i64 1, .int .i64 1], .int .i64 0]) ∧ Gr w w' := by
  have := Hear_any 40 0 (-1) 0 1 12120 w
  rwa [he_aw] at this
theorem Acked0 (w : World) : Calls Try.prog 64 #[.agg #[.int .i64 40, .int .i64 0, .int .i64 (-1), .int .i64 0], .int .i64 1, .int .i64 (-40)] w fun e w' => e = .returned (.tuple #[.agg #[.int .i64 0, .int .i64 0, .int .i64 1, .int .i64 1], .int .i64 0]) ∧ Gr w w' := by
  have := Acked_any 40 0 (-1) 0 1 (-40) w
  rwa [ac_aw] at this
theorem Meas0 (w : World) : Calls Try.prog 60 #[.agg #[.int .i64 0, .int .i64 0], .int .i64 1, .int .i64 12080] w fun e w' => e = .returned (.tuple #[.int .i64 (-40), .int .i64 0]) ∧ Gr w w' := by
  have := Meas_any 0 0 1 12080 w
  rwa [meN_aw, meE_aw] at this
theorem Syn0 (w : World) : Calls Try.prog 68 #[.agg #[.int .i64 0, .int .i64 0, .int .i64 1, .int .i64 1], .int .i64 5, .int .i64 4] w fun e w' => e = .returned (.bool true) ∧ Gr w w' := by
  have := Syn_any 0 0 1 1 5 4 w (by omega)
  rwa [sy_aw0] at this
theorem Syn1 (w : World) : Calls Try.prog 68 #[.agg #[.int .i64 0, .int .i64 0, .int .i64 1, .int .i64 1], .int .i64 6, .int .i64 4] w fun e w' => e = .returned (.bool false) ∧ Gr w w' := by
  have := Syn_any 0 0 1 1 6 4 w (by omega)
  rwa [sy_aw1] at this
set_option maxHeartbeats 1000000 in
/-- The examples that the laws of chapter 10 check first. -/
theorem awake10 (w : World) : Calls Try.prog 41 #[] w fun e w' => e = .returned (.bool true) ∧ Gr w w' := by
  go_enter Try.func41, Try.ntmps41
  go_wp2_with fail
  have g0 : Gr w ((w).alloc (Obj.cells #[.int .i64 40, .int .i64 0, .int .i64 (-1), .int .i64 0] 45)) := Gr.alloc (Gr.refl w) _
  have bs : Bx ((w).alloc (Obj.cells #[.int .i64 40, .int .i64 0, .int .i64 (-1), .int .i64 0] 45)) (w.heap.size) [.int .i64 40, .int .i64 0, .int .i64 (-1), .int .i64 0] := Bx.gr (Bx.at_ (Bx.new (w) [.int .i64 40, .int .i64 0, .int .i64 (-1), .int .i64 0] 45) (by simp)) (Gr.refl _)
  generalize (w).alloc (Obj.cells #[.int .i64 40, .int .i64 0, .int .i64 (-1), .int .i64 0] 45) = W at g0 bs ⊢
  have S0 := Lib.hid g0
  have Ks0 := Lib.hid bs
  clear g0 bs
  refine (Hear0 _).mono ?_
  rintro e w1 ⟨rfl, hg⟩
  have S1 := Lib.hid (S0.out.trans hg)
  have Ks1 := Lib.hid (Ks0.out.gr hg)
  clear hg
  have cs0 := Ks1.out.c 0 _ rfl
  have cs1 := Ks1.out.c 1 _ rfl
  have cs2 := Ks1.out.c 2 _ rfl
  have cs3 := Ks1.out.c 3 _ rfl
  have ls := Ks1.out.lt
  go_wp2_with fail
  all_goals (try clear cs0 cs1 cs2 cs3 ls)
  have g0 : Gr w1 ((w1).alloc (Obj.cells #[.int .i64 0, .int .i64 0, .int .i64 1, .int .i64 1] 45)) := Gr.alloc (Gr.refl w1) _
  have ba : Bx ((w1).alloc (Obj.cells #[.int .i64 0, .int .i64 0, .int .i64 1, .int .i64 1] 45)) (w1.heap.size) [.int .i64 0, .int .i64 0, .int .i64 1, .int .i64 1] := Bx.gr (Bx.at_ (Bx.new (w1) [.int .i64 0, .int .i64 0, .int .i64 1, .int .i64 1] 45) (by simp)) (Gr.refl _)
  generalize (w1).alloc (Obj.cells #[.int .i64 0, .int .i64 0, .int .i64 1, .int .i64 1] 45) = w2 at g0 ba ⊢
  have S2 := Lib.hid (S1.out.trans g0)
  have Ks2 := Lib.hid (Ks1.out.gr g0)
  have Ka2 := Lib.hid ba
  clear g0 ba
  refine (Meas0 _).mono ?_
  rintro e w3 ⟨rfl, hg⟩
  have S3 := Lib.hid (S2.out.trans hg)
  have Ks3 := Lib.hid (Ks2.out.gr hg)
  have Ka3 := Lib.hid (Ka2.out.gr hg)
  clear hg
  have cs0 := Ks3.out.c 0 _ rfl
  have cs1 := Ks3.out.c 1 _ rfl
  have cs2 := Ks3.out.c 2 _ rfl
  have cs3 := Ks3.out.c 3 _ rfl
  have ls := Ks3.out.lt
  have ca0 := Ka3.out.c 0 _ rfl
  have ca1 := Ka3.out.c 1 _ rfl
  have ca2 := Ka3.out.c 2 _ rfl
  have ca3 := Ka3.out.c 3 _ rfl
  have la := Ka3.out.lt
  go_wp2_with fail
  all_goals (try clear cs0 cs1 cs2 cs3 ls ca0 ca1 ca2 ca3 la)
  refine (Acked0 _).mono ?_
  rintro e w4 ⟨rfl, hg⟩
  have S4 := Lib.hid (S3.out.trans hg)
  have Ks4 := Lib.hid (Ks3.out.gr hg)
  have Ka4 := Lib.hid (Ka3.out.gr hg)
  clear hg
  have cs0 := Ks4.out.c 0 _ rfl
  have cs1 := Ks4.out.c 1 _ rfl
  have cs2 := Ks4.out.c 2 _ rfl
  have cs3 := Ks4.out.c 3 _ rfl
  have ls := Ks4.out.lt
  have ca0 := Ka4.out.c 0 _ rfl
  have ca1 := Ka4.out.c 1 _ rfl
  have ca2 := Ka4.out.c 2 _ rfl
  have ca3 := Ka4.out.c 3 _ rfl
  have la := Ka4.out.lt
  go_wp2_with fail
  all_goals (try clear cs0 cs1 cs2 cs3 ls ca0 ca1 ca2 ca3 la)
  have g0 : Gr w4 ((w4).alloc (Obj.cells #[.int .i64 0, .int .i64 0, .int .i64 1, .int .i64 1] 45)) := Gr.alloc (Gr.refl w4) _
  have bb : Bx ((w4).alloc (Obj.cells #[.int .i64 0, .int .i64 0, .int .i64 1, .int .i64 1] 45)) (w4.heap.size) [.int .i64 0, .int .i64 0, .int .i64 1, .int .i64 1] := Bx.gr (Bx.at_ (Bx.new (w4) [.int .i64 0, .int .i64 0, .int .i64 1, .int .i64 1] 45) (by simp)) (Gr.refl _)
  generalize (w4).alloc (Obj.cells #[.int .i64 0, .int .i64 0, .int .i64 1, .int .i64 1] 45) = w5 at g0 bb ⊢
  have S5 := Lib.hid (S4.out.trans g0)
  have Ks5 := Lib.hid (Ks4.out.gr g0)
  have Ka5 := Lib.hid (Ka4.out.gr g0)
  have Kb5 := Lib.hid bb
  clear g0 bb
  have cs0 := Ks5.out.c 0 _ rfl
  have cs1 := Ks5.out.c 1 _ rfl
  have cs2 := Ks5.out.c 2 _ rfl
  have cs3 := Ks5.out.c 3 _ rfl
  have ls := Ks5.out.lt
  have ca0 := Ka5.out.c 0 _ rfl
  have ca1 := Ka5.out.c 1 _ rfl
  have ca2 := Ka5.out.c 2 _ rfl
  have ca3 := Ka5.out.c 3 _ rfl
  have la := Ka5.out.lt
  have cb0 := Kb5.out.c 0 _ rfl
  have cb1 := Kb5.out.c 1 _ rfl
  have cb2 := Kb5.out.c 2 _ rfl
  have cb3 := Kb5.out.c 3 _ rfl
  have lb := Kb5.out.lt
  go_wp2_with fail
  all_goals (try clear cs0 cs1 cs2 cs3 ls ca0 ca1 ca2 ca3 la cb0 cb1 cb2 cb3 lb)
  refine (Syn0 _).mono ?_
  rintro e w6 ⟨rfl, hg⟩
  have S6 := Lib.hid (S5.out.trans hg)
  have Ks6 := Lib.hid (Ks5.out.gr hg)
  have Ka6 := Lib.hid (Ka5.out.gr hg)
  have Kb6 := Lib.hid (Kb5.out.gr hg)
  clear hg
  have cs0 := Ks6.out.c 0 _ rfl
  have cs1 := Ks6.out.c 1 _ rfl
  have cs2 := Ks6.out.c 2 _ rfl
  have cs3 := Ks6.out.c 3 _ rfl
  have ls := Ks6.out.lt
  have ca0 := Ka6.out.c 0 _ rfl
  have ca1 := Ka6.out.c 1 _ rfl
  have ca2 := Ka6.out.c 2 _ rfl
  have ca3 := Ka6.out.c 3 _ rfl
  have la := Ka6.out.lt
  have cb0 := Kb6.out.c 0 _ rfl
  have cb1 := Kb6.out.c 1 _ rfl
  have cb2 := Kb6.out.c 2 _ rfl
  have cb3 := Kb6.out.c 3 _ rfl
  have lb := Kb6.out.lt
  go_wp2_with fail
  all_goals (try clear cs0 cs1 cs2 cs3 ls ca0 ca1 ca2 ca3 la cb0 cb1 cb2 cb3 lb)
  refine (Syn1 _).mono ?_
  rintro e w7 ⟨rfl, hg⟩
  have S7 := Lib.hid (S6.out.trans hg)
  have Ks7 := Lib.hid (Ks6.out.gr hg)
  have Ka7 := Lib.hid (Ka6.out.gr hg)
  have Kb7 := Lib.hid (Kb6.out.gr hg)
  clear hg
  have cs0 := Ks7.out.c 0 _ rfl
  have cs1 := Ks7.out.c 1 _ rfl
  have cs2 := Ks7.out.c 2 _ rfl
  have cs3 := Ks7.out.c 3 _ rfl
  have ls := Ks7.out.lt
  have ca0 := Ka7.out.c 0 _ rfl
  have ca1 := Ka7.out.c 1 _ rfl
  have ca2 := Ka7.out.c 2 _ rfl
  have ca3 := Ka7.out.c 3 _ rfl
  have la := Ka7.out.lt
  have cb0 := Kb7.out.c 0 _ rfl
  have cb1 := Kb7.out.c 1 _ rfl
  have cb2 := Kb7.out.c 2 _ rfl
  have cb3 := Kb7.out.c 3 _ rfl
  have lb := Kb7.out.lt
  go_wp2_with fail
  all_goals (try clear cs0 cs1 cs2 cs3 ls ca0 ca1 ca2 ca3 la cb0 cb1 cb2 cb3 lb)
  all_goals go_ret
  all_goals exact ⟨rfl, S7.out⟩
end Go.Proofs.Ytpnigndobhbfnaa
