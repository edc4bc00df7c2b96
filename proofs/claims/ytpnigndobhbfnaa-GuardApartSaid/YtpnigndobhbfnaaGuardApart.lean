/- GuardApart: if two clocks differ by at most GuardTime when a frame of the next slot is sent, it is sent behind the end of the slot by the other clock. For every input the call returns true and each argument reads afterwards as it read before (no condition). -/
import Derived.Test.YtpnigndobhbfnaaGrdE
import Derived.Test.YtpnigndobhbfnaaFrame
set_option linter.unnecessarySimpa false
namespace Go.Proofs.Ytpnigndobhbfnaa
open Go.ChangeShapes Go.WideShapes Go.ChangeAt Go.RowKit Go.Joins
theorem send_bd {o d s : Int} (h : inE o d s 2120 = 0) (h0 : 0 < rch o d (s * 10000 + 2120)) : s * 10000 + 2120 ≤ rd o d (rch o d (s * 10000 + 2120)) ∧ rd o d (rch o d (s * 10000 + 2120)) ≤ s * 10000 + 2121 := by
  obtain ⟨hv, _, hx⟩ := inE_ok h
  have r := rch_is hx
  have a := r.at_
  have b := r.before (rch o d (s * 10000 + 2120) - 1) (by omega) (by omega)
  have c := rd_succ o hv.d0 hv.d1 (t := rch o d (s * 10000 + 2120) - 1)
  rw [Int.sub_add_cancel] at c
  omega

theorem end_before {oa da ob db s : Int} (h : inE oa da s 2120 = 0) (g : inE ob db (s + 1) 2120 = 0) (hf : rd oa da 0 ≤ s * 10000) (hn : 0 < rch ob db ((s + 1) * 10000 + 2120))
    (n0 : -1100 ≤ rd ob db (rch ob db ((s + 1) * 10000 + 2120)) - rd oa da (rch ob db ((s + 1) * 10000 + 2120))) (n1 : rd ob db (rch ob db ((s + 1) * 10000 + 2120)) - rd oa da (rch ob db ((s + 1) * 10000 + 2120)) ≤ 1100) :
    rch oa da (s * 10000 + 2120) + 6088 < rch ob db ((s + 1) * 10000 + 2120) := by
  obtain ⟨hv, _, hx⟩ := inE_ok h
  have r := rch_is hx
  have p : 0 < rch oa da (s * 10000 + 2120) := by
    have := r.lo
    have := r.at_
    by_cases e : rch oa da (s * 10000 + 2120) = 0
    · rw [e] at this; omega
    · omega
  have sa := send_bd h p
  have sb := send_bd g hn
  generalize rch oa da (s * 10000 + 2120) = t at *
  generalize rch ob db ((s + 1) * 10000 + 2120) = u at *
  by_cases hl : t + 6088 < u
  · exact hl
  · have m := rd_mono oa hv.d0 hv.d1 (show u ≤ t + 6088 by omega)
    have a := rd_add oa da t 6088
    have := hv.d0
    have := hv.d1
    omega

set_option maxHeartbeats 1000000 in
theorem GuardApart_E (oa da ob db s : Int) (w : World) (h : inE oa da s 2120 ≠ 0) :
    Calls Try.prog 20 #[.agg #[.int .i64 oa, .int .i64 da], .agg #[.int .i64 ob, .int .i64 db], .int .i64 s] w fun e w' => e = .returned (.bool true) ∧ Gr w w' := by
  go_enter Try.func20, Try.ntmps20
  go_wp2_with fail
  have g0 : Gr w (((w).alloc (Obj.cells #[.int .i64 oa, .int .i64 da] 23)).alloc (Obj.cells #[.int .i64 ob, .int .i64 db] 23)) := Gr.alloc (Gr.alloc (Gr.refl w) _) _
  have ba : Bx (((w).alloc (Obj.cells #[.int .i64 oa, .int .i64 da] 23)).alloc (Obj.cells #[.int .i64 ob, .int .i64 db] 23)) (w.heap.size) [.int .i64 oa, .int .i64 da] := Bx.gr (Bx.at_ (Bx.new (w) [.int .i64 oa, .int .i64 da] 23) (by simp)) (Gr.alloc (Gr.refl _) _)
  have bb : Bx (((w).alloc (Obj.cells #[.int .i64 oa, .int .i64 da] 23)).alloc (Obj.cells #[.int .i64 ob, .int .i64 db] 23)) (w.heap.size + 1) [.int .i64 ob, .int .i64 db] := Bx.gr (Bx.at_ (Bx.new ((w).alloc (Obj.cells #[.int .i64 oa, .int .i64 da] 23)) [.int .i64 ob, .int .i64 db] 23) (by simp)) (Gr.refl _)
  generalize ((w).alloc (Obj.cells #[.int .i64 oa, .int .i64 da] 23)).alloc (Obj.cells #[.int .i64 ob, .int .i64 db] 23) = W at g0 ba bb ⊢
  have S0 := Lib.hid g0
  have Ka0 := Lib.hid ba
  have Kb0 := Lib.hid bb
  clear g0 ba bb
  refine (awake09 _).mono ?_
  rintro e w1 ⟨rfl, hg⟩
  have S1 := Lib.hid (S0.out.trans hg)
  have Ka1 := Lib.hid (Ka0.out.gr hg)
  have Kb1 := Lib.hid (Kb0.out.gr hg)
  clear hg
  have ca0 := Ka1.out.c 0 _ rfl
  have ca1 := Ka1.out.c 1 _ rfl
  have la := Ka1.out.lt
  have cb0 := Kb1.out.c 0 _ rfl
  have cb1 := Kb1.out.c 1 _ rfl
  have lb := Kb1.out.lt
  go_wp2_with fail
  all_goals (try clear ca0 ca1 la cb0 cb1 lb)
  refine (End_E oa da s _ h).mono ?_
  rintro e w2 ⟨rfl, hg⟩
  have S2 := Lib.hid (S1.out.trans hg)
  have Ka2 := Lib.hid (Ka1.out.gr hg)
  have Kb2 := Lib.hid (Kb1.out.gr hg)
  clear hg
  have ca0 := Ka2.out.c 0 _ rfl
  have ca1 := Ka2.out.c 1 _ rfl
  have la := Ka2.out.lt
  have cb0 := Kb2.out.c 0 _ rfl
  have cb1 := Kb2.out.c 1 _ rfl
  have lb := Kb2.out.lt
  go_wp2_with fail
  all_goals (try clear ca0 ca1 la cb0 cb1 lb)
  refine (Send_any ob db _ _).mono ?_
  rintro e w3 ⟨rfl, hg⟩
  have S3 := Lib.hid (S2.out.trans hg)
  have Ka3 := Lib.hid (Ka2.out.gr hg)
  have Kb3 := Lib.hid (Kb2.out.gr hg)
  clear hg
  have ca0 := Ka3.out.c 0 _ rfl
  have ca1 := Ka3.out.c 1 _ rfl
  have la := Ka3.out.lt
  have cb0 := Kb3.out.c 0 _ rfl
  have cb1 := Kb3.out.c 1 _ rfl
  have lb := Kb3.out.lt
  go_wp2_with fail
  all_goals (try clear ca0 ca1 la cb0 cb1 lb)
  all_goals go_ret
  all_goals exact ⟨rfl, S3.out⟩


set_option maxHeartbeats 1000000 in
theorem GuardApart_late (oa da ob db s : Int) (w : World) (h : inE oa da s 2120 = 0) (hl : 1099511627776 < rch oa da (s * 10000 + 2120) + 6088) :
    Calls Try.prog 20 #[.agg #[.int .i64 oa, .int .i64 da], .agg #[.int .i64 ob, .int .i64 db], .int .i64 s] w fun e w' => e = .returned (.bool true) ∧ Gr w w' := by
  have hr : IsRch oa da (s * 10000 + 2120) (rch oa da (s * 10000 + 2120)) := rch_is (inE_ok h).2.2
  have r0 := hr.lo
  have r1 := hr.hi
  clear hr
  have s0 := (inE_ok h).2.1.1
  have s1 := (inE_ok h).2.1.2
  have H := Lib.hid h
  clear h
  go_enter Try.func20, Try.ntmps20
  go_wp2_with fail
  have g0 : Gr w (((w).alloc (Obj.cells #[.int .i64 oa, .int .i64 da] 23)).alloc (Obj.cells #[.int .i64 ob, .int .i64 db] 23)) := Gr.alloc (Gr.alloc (Gr.refl w) _) _
  have ba : Bx (((w).alloc (Obj.cells #[.int .i64 oa, .int .i64 da] 23)).alloc (Obj.cells #[.int .i64 ob, .int .i64 db] 23)) (w.heap.size) [.int .i64 oa, .int .i64 da] := Bx.gr (Bx.at_ (Bx.new (w) [.int .i64 oa, .int .i64 da] 23) (by simp)) (Gr.alloc (Gr.refl _) _)
  have bb : Bx (((w).alloc (Obj.cells #[.int .i64 oa, .int .i64 da] 23)).alloc (Obj.cells #[.int .i64 ob, .int .i64 db] 23)) (w.heap.size + 1) [.int .i64 ob, .int .i64 db] := Bx.gr (Bx.at_ (Bx.new ((w).alloc (Obj.cells #[.int .i64 oa, .int .i64 da] 23)) [.int .i64 ob, .int .i64 db] 23) (by simp)) (Gr.refl _)
  generalize ((w).alloc (Obj.cells #[.int .i64 oa, .int .i64 da] 23)).alloc (Obj.cells #[.int .i64 ob, .int .i64 db] 23) = W at g0 ba bb ⊢
  have S0 := Lib.hid g0
  have Ka0 := Lib.hid ba
  have Kb0 := Lib.hid bb
  clear g0 ba bb
  refine (awake09 _).mono ?_
  rintro e w1 ⟨rfl, hg⟩
  have S1 := Lib.hid (S0.out.trans hg)
  have Ka1 := Lib.hid (Ka0.out.gr hg)
  have Kb1 := Lib.hid (Kb0.out.gr hg)
  clear hg
  have ca0 := Ka1.out.c 0 _ rfl
  have ca1 := Ka1.out.c 1 _ rfl
  have la := Ka1.out.lt
  have cb0 := Kb1.out.c 0 _ rfl
  have cb1 := Kb1.out.c 1 _ rfl
  have lb := Kb1.out.lt
  go_wp2_with fail
  all_goals (try clear ca0 ca1 la cb0 cb1 lb)
  refine (End_late oa da s _ H.out hl).mono ?_
  rintro e w2 ⟨rfl, hg⟩
  have S2 := Lib.hid (S1.out.trans hg)
  have Ka2 := Lib.hid (Ka1.out.gr hg)
  have Kb2 := Lib.hid (Kb1.out.gr hg)
  clear hg
  have ca0 := Ka2.out.c 0 _ rfl
  have ca1 := Ka2.out.c 1 _ rfl
  have la := Ka2.out.lt
  have cb0 := Kb2.out.c 0 _ rfl
  have cb1 := Kb2.out.c 1 _ rfl
  have lb := Kb2.out.lt
  go_wp2_with fail
  all_goals (try clear ca0 ca1 la cb0 cb1 lb)
  refine (Send_any ob db (s + 1) _).mono ?_
  rintro e w3 ⟨rfl, hg⟩
  have S3 := Lib.hid (S2.out.trans hg)
  have Ka3 := Lib.hid (Ka2.out.gr hg)
  have Kb3 := Lib.hid (Kb2.out.gr hg)
  clear hg
  have ca0 := Ka3.out.c 0 _ rfl
  have ca1 := Ka3.out.c 1 _ rfl
  have la := Ka3.out.lt
  have cb0 := Kb3.out.c 0 _ rfl
  have cb1 := Kb3.out.c 1 _ rfl
  have lb := Kb3.out.lt
  go_wp2_with fail
  all_goals (try clear ca0 ca1 la cb0 cb1 lb)
  all_goals go_ret
  all_goals exact ⟨rfl, S3.out⟩


set_option maxHeartbeats 1000000 in
theorem GuardApart_sE (oa da ob db s : Int) (w : World) (h : inE oa da s 2120 = 0) (hl : rch oa da (s * 10000 + 2120) + 6088 ≤ 1099511627776) (g : inE ob db (s + 1) 2120 ≠ 0) :
    Calls Try.prog 20 #[.agg #[.int .i64 oa, .int .i64 da], .agg #[.int .i64 ob, .int .i64 db], .int .i64 s] w fun e w' => e = .returned (.bool true) ∧ Gr w w' := by
  have hr : IsRch oa da (s * 10000 + 2120) (rch oa da (s * 10000 + 2120)) := rch_is (inE_ok h).2.2
  have r0 := hr.lo
  have r1 := hr.hi
  clear hr
  have s0 := (inE_ok h).2.1.1
  have s1 := (inE_ok h).2.1.2
  have H := Lib.hid h
  clear h
  go_enter Try.func20, Try.ntmps20
  go_wp2_with fail
  have g0 : Gr w (((w).alloc (Obj.cells #[.int .i64 oa, .int .i64 da] 23)).alloc (Obj.cells #[.int .i64 ob, .int .i64 db] 23)) := Gr.alloc (Gr.alloc (Gr.refl w) _) _
  have ba : Bx (((w).alloc (Obj.cells #[.int .i64 oa, .int .i64 da] 23)).alloc (Obj.cells #[.int .i64 ob, .int .i64 db] 23)) (w.heap.size) [.int .i64 oa, .int .i64 da] := Bx.gr (Bx.at_ (Bx.new (w) [.int .i64 oa, .int .i64 da] 23) (by simp)) (Gr.alloc (Gr.refl _) _)
  have bb : Bx (((w).alloc (Obj.cells #[.int .i64 oa, .int .i64 da] 23)).alloc (Obj.cells #[.int .i64 ob, .int .i64 db] 23)) (w.heap.size + 1) [.int .i64 ob, .int .i64 db] := Bx.gr (Bx.at_ (Bx.new ((w).alloc (Obj.cells #[.int .i64 oa, .int .i64 da] 23)) [.int .i64 ob, .int .i64 db] 23) (by simp)) (Gr.refl _)
  generalize ((w).alloc (Obj.cells #[.int .i64 oa, .int .i64 da] 23)).alloc (Obj.cells #[.int .i64 ob, .int .i64 db] 23) = W at g0 ba bb ⊢
  have S0 := Lib.hid g0
  have Ka0 := Lib.hid ba
  have Kb0 := Lib.hid bb
  clear g0 ba bb
  refine (awake09 _).mono ?_
  rintro e w1 ⟨rfl, hg⟩
  have S1 := Lib.hid (S0.out.trans hg)
  have Ka1 := Lib.hid (Ka0.out.gr hg)
  have Kb1 := Lib.hid (Kb0.out.gr hg)
  clear hg
  have ca0 := Ka1.out.c 0 _ rfl
  have ca1 := Ka1.out.c 1 _ rfl
  have la := Ka1.out.lt
  have cb0 := Kb1.out.c 0 _ rfl
  have cb1 := Kb1.out.c 1 _ rfl
  have lb := Kb1.out.lt
  go_wp2_with fail
  all_goals (try clear ca0 ca1 la cb0 cb1 lb)
  refine (End_ok oa da s _ H.out hl).mono ?_
  rintro e w2 ⟨rfl, hg⟩
  have S2 := Lib.hid (S1.out.trans hg)
  have Ka2 := Lib.hid (Ka1.out.gr hg)
  have Kb2 := Lib.hid (Kb1.out.gr hg)
  clear hg
  have ca0 := Ka2.out.c 0 _ rfl
  have ca1 := Ka2.out.c 1 _ rfl
  have la := Ka2.out.lt
  have cb0 := Kb2.out.c 0 _ rfl
  have cb1 := Kb2.out.c 1 _ rfl
  have lb := Kb2.out.lt
  go_wp2_with fail
  all_goals (try clear ca0 ca1 la cb0 cb1 lb)
  refine (Send_E ob db (s + 1) _ g).mono ?_
  rintro e w3 ⟨rfl, hg⟩
  have S3 := Lib.hid (S2.out.trans hg)
  have Ka3 := Lib.hid (Ka2.out.gr hg)
  have Kb3 := Lib.hid (Kb2.out.gr hg)
  clear hg
  have ca0 := Ka3.out.c 0 _ rfl
  have ca1 := Ka3.out.c 1 _ rfl
  have la := Ka3.out.lt
  have cb0 := Kb3.out.c 0 _ rfl
  have cb1 := Kb3.out.c 1 _ rfl
  have lb := Kb3.out.lt
  go_wp2_with fail
  all_goals (try clear ca0 ca1 la cb0 cb1 lb)
  all_goals go_ret
  all_goals exact ⟨rfl, S3.out⟩


set_option maxHeartbeats 1000000 in
theorem GuardApart_z (oa da ob db s : Int) (w : World) (h : inE oa da s 2120 = 0) (hl : rch oa da (s * 10000 + 2120) + 6088 ≤ 1099511627776) (g : inE ob db (s + 1) 2120 = 0) (hz : rch ob db ((s + 1) * 10000 + 2120) ≤ 0) :
    Calls Try.prog 20 #[.agg #[.int .i64 oa, .int .i64 da], .agg #[.int .i64 ob, .int .i64 db], .int .i64 s] w fun e w' => e = .returned (.bool true) ∧ Gr w w' := by
  have hr : IsRch oa da (s * 10000 + 2120) (rch oa da (s * 10000 + 2120)) := rch_is (inE_ok h).2.2
  have r0 := hr.lo
  have r1 := hr.hi
  clear hr
  have s0 := (inE_ok h).2.1.1
  have s1 := (inE_ok h).2.1.2
  have hr : IsRch ob db ((s + 1) * 10000 + 2120) (rch ob db ((s + 1) * 10000 + 2120)) := rch_is (inE_ok g).2.2
  have q0 := hr.lo
  have q1 := hr.hi
  clear hr
  have H := Lib.hid h
  have G := Lib.hid g
  clear h g
  go_enter Try.func20, Try.ntmps20
  go_wp2_with fail
  have g0 : Gr w (((w).alloc (Obj.cells #[.int .i64 oa, .int .i64 da] 23)).alloc (Obj.cells #[.int .i64 ob, .int .i64 db] 23)) := Gr.alloc (Gr.alloc (Gr.refl w) _) _
  have ba : Bx (((w).alloc (Obj.cells #[.int .i64 oa, .int .i64 da] 23)).alloc (Obj.cells #[.int .i64 ob, .int .i64 db] 23)) (w.heap.size) [.int .i64 oa, .int .i64 da] := Bx.gr (Bx.at_ (Bx.new (w) [.int .i64 oa, .int .i64 da] 23) (by simp)) (Gr.alloc (Gr.refl _) _)
  have bb : Bx (((w).alloc (Obj.cells #[.int .i64 oa, .int .i64 da] 23)).alloc (Obj.cells #[.int .i64 ob, .int .i64 db] 23)) (w.heap.size + 1) [.int .i64 ob, .int .i64 db] := Bx.gr (Bx.at_ (Bx.new ((w).alloc (Obj.cells #[.int .i64 oa, .int .i64 da] 23)) [.int .i64 ob, .int .i64 db] 23) (by simp)) (Gr.refl _)
  generalize ((w).alloc (Obj.cells #[.int .i64 oa, .int .i64 da] 23)).alloc (Obj.cells #[.int .i64 ob, .int .i64 db] 23) = W at g0 ba bb ⊢
  have S0 := Lib.hid g0
  have Ka0 := Lib.hid ba
  have Kb0 := Lib.hid bb
  clear g0 ba bb
  refine (awake09 _).mono ?_
  rintro e w1 ⟨rfl, hg⟩
  have S1 := Lib.hid (S0.out.trans hg)
  have Ka1 := Lib.hid (Ka0.out.gr hg)
  have Kb1 := Lib.hid (Kb0.out.gr hg)
  clear hg
  have ca0 := Ka1.out.c 0 _ rfl
  have ca1 := Ka1.out.c 1 _ rfl
  have la := Ka1.out.lt
  have cb0 := Kb1.out.c 0 _ rfl
  have cb1 := Kb1.out.c 1 _ rfl
  have lb := Kb1.out.lt
  go_wp2_with fail
  all_goals (try clear ca0 ca1 la cb0 cb1 lb)
  refine (End_ok oa da s _ H.out hl).mono ?_
  rintro e w2 ⟨rfl, hg⟩
  have S2 := Lib.hid (S1.out.trans hg)
  have Ka2 := Lib.hid (Ka1.out.gr hg)
  have Kb2 := Lib.hid (Kb1.out.gr hg)
  clear hg
  have ca0 := Ka2.out.c 0 _ rfl
  have ca1 := Ka2.out.c 1 _ rfl
  have la := Ka2.out.lt
  have cb0 := Kb2.out.c 0 _ rfl
  have cb1 := Kb2.out.c 1 _ rfl
  have lb := Kb2.out.lt
  go_wp2_with fail
  all_goals (try clear ca0 ca1 la cb0 cb1 lb)
  refine (Send_S ob db (s + 1) _ G.out).mono ?_
  rintro e w3 ⟨rfl, hg⟩
  have S3 := Lib.hid (S2.out.trans hg)
  have Ka3 := Lib.hid (Ka2.out.gr hg)
  have Kb3 := Lib.hid (Kb2.out.gr hg)
  clear hg
  have ca0 := Ka3.out.c 0 _ rfl
  have ca1 := Ka3.out.c 1 _ rfl
  have la := Ka3.out.lt
  have cb0 := Kb3.out.c 0 _ rfl
  have cb1 := Kb3.out.c 1 _ rfl
  have lb := Kb3.out.lt
  go_wp2_with fail
  all_goals (try clear ca0 ca1 la cb0 cb1 lb)
  all_goals go_ret
  all_goals exact ⟨rfl, S3.out⟩


set_option maxHeartbeats 1000000 in
theorem GuardApart_far (oa da ob db s : Int) (w : World) (h : inE oa da s 2120 = 0) (hl : rch oa da (s * 10000 + 2120) + 6088 ≤ 1099511627776) (g : inE ob db (s + 1) 2120 = 0) (hz : 0 < rch ob db ((s + 1) * 10000 + 2120)) (m : Int) (hm : m = max (rd ob db (rch ob db ((s + 1) * 10000 + 2120)) - rd oa da (rch ob db ((s + 1) * 10000 + 2120))) (-(rd ob db (rch ob db ((s + 1) * 10000 + 2120)) - rd oa da (rch ob db ((s + 1) * 10000 + 2120))))) (hf : 1100 < m) :
    Calls Try.prog 20 #[.agg #[.int .i64 oa, .int .i64 da], .agg #[.int .i64 ob, .int .i64 db], .int .i64 s] w fun e w' => e = .returned (.bool true) ∧ Gr w w' := by
  have hr : IsRch oa da (s * 10000 + 2120) (rch oa da (s * 10000 + 2120)) := rch_is (inE_ok h).2.2
  have r0 := hr.lo
  have r1 := hr.hi
  clear hr
  have s0 := (inE_ok h).2.1.1
  have s1 := (inE_ok h).2.1.2
  have hr : IsRch ob db ((s + 1) * 10000 + 2120) (rch ob db ((s + 1) * 10000 + 2120)) := rch_is (inE_ok g).2.2
  have q0 := hr.lo
  have q1 := hr.hi
  clear hr
  have ba := rd_bd (inE_ok h).1 q0 q1
  have bb := rd_bd (inE_ok g).1 q0 q1
  have bf := rd_bd (inE_ok h).1 (Int.le_refl 0) (by omega)
  have H := Lib.hid h
  have G := Lib.hid g
  have HM := Lib.hid hm
  clear h g hm
  go_enter Try.func20, Try.ntmps20
  go_wp2_with fail
  have g0 : Gr w (((w).alloc (Obj.cells #[.int .i64 oa, .int .i64 da] 23)).alloc (Obj.cells #[.int .i64 ob, .int .i64 db] 23)) := Gr.alloc (Gr.alloc (Gr.refl w) _) _
  have ba : Bx (((w).alloc (Obj.cells #[.int .i64 oa, .int .i64 da] 23)).alloc (Obj.cells #[.int .i64 ob, .int .i64 db] 23)) (w.heap.size) [.int .i64 oa, .int .i64 da] := Bx.gr (Bx.at_ (Bx.new (w) [.int .i64 oa, .int .i64 da] 23) (by simp)) (Gr.alloc (Gr.refl _) _)
  have bb : Bx (((w).alloc (Obj.cells #[.int .i64 oa, .int .i64 da] 23)).alloc (Obj.cells #[.int .i64 ob, .int .i64 db] 23)) (w.heap.size + 1) [.int .i64 ob, .int .i64 db] := Bx.gr (Bx.at_ (Bx.new ((w).alloc (Obj.cells #[.int .i64 oa, .int .i64 da] 23)) [.int .i64 ob, .int .i64 db] 23) (by simp)) (Gr.refl _)
  generalize ((w).alloc (Obj.cells #[.int .i64 oa, .int .i64 da] 23)).alloc (Obj.cells #[.int .i64 ob, .int .i64 db] 23) = W at g0 ba bb ⊢
  have S0 := Lib.hid g0
  have Ka0 := Lib.hid ba
  have Kb0 := Lib.hid bb
  clear g0 ba bb
  refine (awake09 _).mono ?_
  rintro e w1 ⟨rfl, hg⟩
  have S1 := Lib.hid (S0.out.trans hg)
  have Ka1 := Lib.hid (Ka0.out.gr hg)
  have Kb1 := Lib.hid (Kb0.out.gr hg)
  clear hg
  have ca0 := Ka1.out.c 0 _ rfl
  have ca1 := Ka1.out.c 1 _ rfl
  have la := Ka1.out.lt
  have cb0 := Kb1.out.c 0 _ rfl
  have cb1 := Kb1.out.c 1 _ rfl
  have lb := Kb1.out.lt
  go_wp2_with fail
  all_goals (try clear ca0 ca1 la cb0 cb1 lb)
  refine (End_ok oa da s _ H.out hl).mono ?_
  rintro e w2 ⟨rfl, hg⟩
  have S2 := Lib.hid (S1.out.trans hg)
  have Ka2 := Lib.hid (Ka1.out.gr hg)
  have Kb2 := Lib.hid (Kb1.out.gr hg)
  clear hg
  have ca0 := Ka2.out.c 0 _ rfl
  have ca1 := Ka2.out.c 1 _ rfl
  have la := Ka2.out.lt
  have cb0 := Kb2.out.c 0 _ rfl
  have cb1 := Kb2.out.c 1 _ rfl
  have lb := Kb2.out.lt
  go_wp2_with fail
  all_goals (try clear ca0 ca1 la cb0 cb1 lb)
  refine (Send_S ob db (s + 1) _ G.out).mono ?_
  rintro e w3 ⟨rfl, hg⟩
  have S3 := Lib.hid (S2.out.trans hg)
  have Ka3 := Lib.hid (Ka2.out.gr hg)
  have Kb3 := Lib.hid (Kb2.out.gr hg)
  clear hg
  have ca0 := Ka3.out.c 0 _ rfl
  have ca1 := Ka3.out.c 1 _ rfl
  have la := Ka3.out.lt
  have cb0 := Kb3.out.c 0 _ rfl
  have cb1 := Kb3.out.c 1 _ rfl
  have lb := Kb3.out.lt
  go_wp2_with fail
  all_goals (try clear ca0 ca1 la cb0 cb1 lb)
  refine (show_ok oa da 0 _ (inE_ok H.out).1 (by omega) (by omega)).mono ?_
  rintro e w4 ⟨rfl, hg⟩
  have S4 := Lib.hid (S3.out.trans hg)
  have Ka4 := Lib.hid (Ka3.out.gr hg)
  have Kb4 := Lib.hid (Kb3.out.gr hg)
  clear hg
  have ca0 := Ka4.out.c 0 _ rfl
  have ca1 := Ka4.out.c 1 _ rfl
  have la := Ka4.out.lt
  have cb0 := Kb4.out.c 0 _ rfl
  have cb1 := Kb4.out.c 1 _ rfl
  have lb := Kb4.out.lt
  go_wp2_with fail
  all_goals (try clear ca0 ca1 la cb0 cb1 lb)
  refine (Apart_ok oa da ob db (rch ob db ((s + 1) * 10000 + 2120)) _ (inE_ok H.out).1 (inE_ok G.out).1 q0 q1).mono ?_
  rintro e w5 ⟨rfl, hg⟩
  have S5 := Lib.hid (S4.out.trans hg)
  have Ka5 := Lib.hid (Ka4.out.gr hg)
  have Kb5 := Lib.hid (Kb4.out.gr hg)
  clear hg
  have ca0 := Ka5.out.c 0 _ rfl
  have ca1 := Ka5.out.c 1 _ rfl
  have la := Ka5.out.lt
  have cb0 := Kb5.out.c 0 _ rfl
  have cb1 := Kb5.out.c 1 _ rfl
  have lb := Kb5.out.lt
  go_wp2_with fail
  all_goals (try clear ca0 ca1 la cb0 cb1 lb)
  refine (size9 (rd ob db (rch ob db ((s + 1) * 10000 + 2120)) - rd oa da (rch ob db ((s + 1) * 10000 + 2120))) m _ (by omega) (by omega) HM.out).mono ?_
  rintro e w6 ⟨rfl, hg⟩
  have S6 := Lib.hid (S5.out.trans hg)
  have Ka6 := Lib.hid (Ka5.out.gr hg)
  have Kb6 := Lib.hid (Kb5.out.gr hg)
  clear hg
  have ca0 := Ka6.out.c 0 _ rfl
  have ca1 := Ka6.out.c 1 _ rfl
  have la := Ka6.out.lt
  have cb0 := Kb6.out.c 0 _ rfl
  have cb1 := Kb6.out.c 1 _ rfl
  have lb := Kb6.out.lt
  go_wp2_with fail
  all_goals (try clear ca0 ca1 la cb0 cb1 lb)
  all_goals go_ret
  all_goals exact ⟨rfl, S6.out⟩


set_option maxHeartbeats 1000000 in
theorem GuardApart_first (oa da ob db s : Int) (w : World) (h : inE oa da s 2120 = 0) (hl : rch oa da (s * 10000 + 2120) + 6088 ≤ 1099511627776) (g : inE ob db (s + 1) 2120 = 0) (hz : 0 < rch ob db ((s + 1) * 10000 + 2120)) (m : Int) (hm : m = max (rd ob db (rch ob db ((s + 1) * 10000 + 2120)) - rd oa da (rch ob db ((s + 1) * 10000 + 2120))) (-(rd ob db (rch ob db ((s + 1) * 10000 + 2120)) - rd oa da (rch ob db ((s + 1) * 10000 + 2120))))) (hf : m ≤ 1100) (h1 : s * 10000 < rd oa da 0) :
    Calls Try.prog 20 #[.agg #[.int .i64 oa, .int .i64 da], .agg #[.int .i64 ob, .int .i64 db], .int .i64 s] w fun e w' => e = .returned (.bool true) ∧ Gr w w' := by
  have hr : IsRch oa da (s * 10000 + 2120) (rch oa da (s * 10000 + 2120)) := rch_is (inE_ok h).2.2
  have r0 := hr.lo
  have r1 := hr.hi
  clear hr
  have s0 := (inE_ok h).2.1.1
  have s1 := (inE_ok h).2.1.2
  have hr : IsRch ob db ((s + 1) * 10000 + 2120) (rch ob db ((s + 1) * 10000 + 2120)) := rch_is (inE_ok g).2.2
  have q0 := hr.lo
  have q1 := hr.hi
  clear hr
  have ba := rd_bd (inE_ok h).1 q0 q1
  have bb := rd_bd (inE_ok g).1 q0 q1
  have bf := rd_bd (inE_ok h).1 (Int.le_refl 0) (by omega)
  have H := Lib.hid h
  have G := Lib.hid g
  have HM := Lib.hid hm
  clear h g hm
  go_enter Try.func20, Try.ntmps20
  go_wp2_with fail
  have g0 : Gr w (((w).alloc (Obj.cells #[.int .i64 oa, .int .i64 da] 23)).alloc (Obj.cells #[.int .i64 ob, .int .i64 db] 23)) := Gr.alloc (Gr.alloc (Gr.refl w) _) _
  have ba : Bx (((w).alloc (Obj.cells #[.int .i64 oa, .int .i64 da] 23)).alloc (Obj.cells #[.int .i64 ob, .int .i64 db] 23)) (w.heap.size) [.int .i64 oa, .int .i64 da] := Bx.gr (Bx.at_ (Bx.new (w) [.int .i64 oa, .int .i64 da] 23) (by simp)) (Gr.alloc (Gr.refl _) _)
  have bb : Bx (((w).alloc (Obj.cells #[.int .i64 oa, .int .i64 da] 23)).alloc (Obj.cells #[.int .i64 ob, .int .i64 db] 23)) (w.heap.size + 1) [.int .i64 ob, .int .i64 db] := Bx.gr (Bx.at_ (Bx.new ((w).alloc (Obj.cells #[.int .i64 oa, .int .i64 da] 23)) [.int .i64 ob, .int .i64 db] 23) (by simp)) (Gr.refl _)
  generalize ((w).alloc (Obj.cells #[.int .i64 oa, .int .i64 da] 23)).alloc (Obj.cells #[.int .i64 ob, .int .i64 db] 23) = W at g0 ba bb ⊢
  have S0 := Lib.hid g0
  have Ka0 := Lib.hid ba
  have Kb0 := Lib.hid bb
  clear g0 ba bb
  refine (awake09 _).mono ?_
  rintro e w1 ⟨rfl, hg⟩
  have S1 := Lib.hid (S0.out.trans hg)
  have Ka1 := Lib.hid (Ka0.out.gr hg)
  have Kb1 := Lib.hid (Kb0.out.gr hg)
  clear hg
  have ca0 := Ka1.out.c 0 _ rfl
  have ca1 := Ka1.out.c 1 _ rfl
  have la := Ka1.out.lt
  have cb0 := Kb1.out.c 0 _ rfl
  have cb1 := Kb1.out.c 1 _ rfl
  have lb := Kb1.out.lt
  go_wp2_with fail
  all_goals (try clear ca0 ca1 la cb0 cb1 lb)
  refine (End_ok oa da s _ H.out hl).mono ?_
  rintro e w2 ⟨rfl, hg⟩
  have S2 := Lib.hid (S1.out.trans hg)
  have Ka2 := Lib.hid (Ka1.out.gr hg)
  have Kb2 := Lib.hid (Kb1.out.gr hg)
  clear hg
  have ca0 := Ka2.out.c 0 _ rfl
  have ca1 := Ka2.out.c 1 _ rfl
  have la := Ka2.out.lt
  have cb0 := Kb2.out.c 0 _ rfl
  have cb1 := Kb2.out.c 1 _ rfl
  have lb := Kb2.out.lt
  go_wp2_with fail
  all_goals (try clear ca0 ca1 la cb0 cb1 lb)
  refine (Send_S ob db (s + 1) _ G.out).mono ?_
  rintro e w3 ⟨rfl, hg⟩
  have S3 := Lib.hid (S2.out.trans hg)
  have Ka3 := Lib.hid (Ka2.out.gr hg)
  have Kb3 := Lib.hid (Kb2.out.gr hg)
  clear hg
  have ca0 := Ka3.out.c 0 _ rfl
  have ca1 := Ka3.out.c 1 _ rfl
  have la := Ka3.out.lt
  have cb0 := Kb3.out.c 0 _ rfl
  have cb1 := Kb3.out.c 1 _ rfl
  have lb := Kb3.out.lt
  go_wp2_with fail
  all_goals (try clear ca0 ca1 la cb0 cb1 lb)
  refine (show_ok oa da 0 _ (inE_ok H.out).1 (by omega) (by omega)).mono ?_
  rintro e w4 ⟨rfl, hg⟩
  have S4 := Lib.hid (S3.out.trans hg)
  have Ka4 := Lib.hid (Ka3.out.gr hg)
  have Kb4 := Lib.hid (Kb3.out.gr hg)
  clear hg
  have ca0 := Ka4.out.c 0 _ rfl
  have ca1 := Ka4.out.c 1 _ rfl
  have la := Ka4.out.lt
  have cb0 := Kb4.out.c 0 _ rfl
  have cb1 := Kb4.out.c 1 _ rfl
  have lb := Kb4.out.lt
  go_wp2_with fail
  all_goals (try clear ca0 ca1 la cb0 cb1 lb)
  refine (Apart_ok oa da ob db (rch ob db ((s + 1) * 10000 + 2120)) _ (inE_ok H.out).1 (inE_ok G.out).1 q0 q1).mono ?_
  rintro e w5 ⟨rfl, hg⟩
  have S5 := Lib.hid (S4.out.trans hg)
  have Ka5 := Lib.hid (Ka4.out.gr hg)
  have Kb5 := Lib.hid (Kb4.out.gr hg)
  clear hg
  have ca0 := Ka5.out.c 0 _ rfl
  have ca1 := Ka5.out.c 1 _ rfl
  have la := Ka5.out.lt
  have cb0 := Kb5.out.c 0 _ rfl
  have cb1 := Kb5.out.c 1 _ rfl
  have lb := Kb5.out.lt
  go_wp2_with fail
  all_goals (try clear ca0 ca1 la cb0 cb1 lb)
  refine (size9 (rd ob db (rch ob db ((s + 1) * 10000 + 2120)) - rd oa da (rch ob db ((s + 1) * 10000 + 2120))) m _ (by omega) (by omega) HM.out).mono ?_
  rintro e w6 ⟨rfl, hg⟩
  have S6 := Lib.hid (S5.out.trans hg)
  have Ka6 := Lib.hid (Ka5.out.gr hg)
  have Kb6 := Lib.hid (Kb5.out.gr hg)
  clear hg
  have ca0 := Ka6.out.c 0 _ rfl
  have ca1 := Ka6.out.c 1 _ rfl
  have la := Ka6.out.lt
  have cb0 := Kb6.out.c 0 _ rfl
  have cb1 := Kb6.out.c 1 _ rfl
  have lb := Kb6.out.lt
  go_wp2_with fail
  all_goals (try clear ca0 ca1 la cb0 cb1 lb)
  all_goals go_ret
  all_goals exact ⟨rfl, S6.out⟩


set_option maxHeartbeats 1000000 in
theorem GuardApart_ok (oa da ob db s : Int) (w : World) (h : inE oa da s 2120 = 0) (hl : rch oa da (s * 10000 + 2120) + 6088 ≤ 1099511627776) (g : inE ob db (s + 1) 2120 = 0) (hz : 0 < rch ob db ((s + 1) * 10000 + 2120)) (m : Int) (hm : m = max (rd ob db (rch ob db ((s + 1) * 10000 + 2120)) - rd oa da (rch ob db ((s + 1) * 10000 + 2120))) (-(rd ob db (rch ob db ((s + 1) * 10000 + 2120)) - rd oa da (rch ob db ((s + 1) * 10000 + 2120))))) (hf : m ≤ 1100) (h1 : rd oa da 0 ≤ s * 10000) :
    Calls Try.prog 20 #[.agg #[.int .i64 oa, .int .i64 da], .agg #[.int .i64 ob, .int .i64 db], .int .i64 s] w fun e w' => e = .returned (.bool true) ∧ Gr w w' := by
  have he := end_before h g h1 hz (by omega) (by omega)
  have hr : IsRch oa da (s * 10000 + 2120) (rch oa da (s * 10000 + 2120)) := rch_is (inE_ok h).2.2
  have r0 := hr.lo
  have r1 := hr.hi
  clear hr
  have s0 := (inE_ok h).2.1.1
  have s1 := (inE_ok h).2.1.2
  have hr : IsRch ob db ((s + 1) * 10000 + 2120) (rch ob db ((s + 1) * 10000 + 2120)) := rch_is (inE_ok g).2.2
  have q0 := hr.lo
  have q1 := hr.hi
  clear hr
  have ba := rd_bd (inE_ok h).1 q0 q1
  have bb := rd_bd (inE_ok g).1 q0 q1
  have bf := rd_bd (inE_ok h).1 (Int.le_refl 0) (by omega)
  have H := Lib.hid h
  have G := Lib.hid g
  have HM := Lib.hid hm
  clear h g hm
  go_enter Try.func20, Try.ntmps20
  go_wp2_with fail
  have g0 : Gr w (((w).alloc (Obj.cells #[.int .i64 oa, .int .i64 da] 23)).alloc (Obj.cells #[.int .i64 ob, .int .i64 db] 23)) := Gr.alloc (Gr.alloc (Gr.refl w) _) _
  have ba : Bx (((w).alloc (Obj.cells #[.int .i64 oa, .int .i64 da] 23)).alloc (Obj.cells #[.int .i64 ob, .int .i64 db] 23)) (w.heap.size) [.int .i64 oa, .int .i64 da] := Bx.gr (Bx.at_ (Bx.new (w) [.int .i64 oa, .int .i64 da] 23) (by simp)) (Gr.alloc (Gr.refl _) _)
  have bb : Bx (((w).alloc (Obj.cells #[.int .i64 oa, .int .i64 da] 23)).alloc (Obj.cells #[.int .i64 ob, .int .i64 db] 23)) (w.heap.size + 1) [.int .i64 ob, .int .i64 db] := Bx.gr (Bx.at_ (Bx.new ((w).alloc (Obj.cells #[.int .i64 oa, .int .i64 da] 23)) [.int .i64 ob, .int .i64 db] 23) (by simp)) (Gr.refl _)
  generalize ((w).alloc (Obj.cells #[.int .i64 oa, .int .i64 da] 23)).alloc (Obj.cells #[.int .i64 ob, .int .i64 db] 23) = W at g0 ba bb ⊢
  have S0 := Lib.hid g0
  have Ka0 := Lib.hid ba
  have Kb0 := Lib.hid bb
  clear g0 ba bb
  refine (awake09 _).mono ?_
  rintro e w1 ⟨rfl, hg⟩
  have S1 := Lib.hid (S0.out.trans hg)
  have Ka1 := Lib.hid (Ka0.out.gr hg)
  have Kb1 := Lib.hid (Kb0.out.gr hg)
  clear hg
  have ca0 := Ka1.out.c 0 _ rfl
  have ca1 := Ka1.out.c 1 _ rfl
  have la := Ka1.out.lt
  have cb0 := Kb1.out.c 0 _ rfl
  have cb1 := Kb1.out.c 1 _ rfl
  have lb := Kb1.out.lt
  go_wp2_with fail
  all_goals (try clear ca0 ca1 la cb0 cb1 lb)
  refine (End_ok oa da s _ H.out hl).mono ?_
  rintro e w2 ⟨rfl, hg⟩
  have S2 := Lib.hid (S1.out.trans hg)
  have Ka2 := Lib.hid (Ka1.out.gr hg)
  have Kb2 := Lib.hid (Kb1.out.gr hg)
  clear hg
  have ca0 := Ka2.out.c 0 _ rfl
  have ca1 := Ka2.out.c 1 _ rfl
  have la := Ka2.out.lt
  have cb0 := Kb2.out.c 0 _ rfl
  have cb1 := Kb2.out.c 1 _ rfl
  have lb := Kb2.out.lt
  go_wp2_with fail
  all_goals (try clear ca0 ca1 la cb0 cb1 lb)
  refine (Send_S ob db (s + 1) _ G.out).mono ?_
  rintro e w3 ⟨rfl, hg⟩
  have S3 := Lib.hid (S2.out.trans hg)
  have Ka3 := Lib.hid (Ka2.out.gr hg)
  have Kb3 := Lib.hid (Kb2.out.gr hg)
  clear hg
  have ca0 := Ka3.out.c 0 _ rfl
  have ca1 := Ka3.out.c 1 _ rfl
  have la := Ka3.out.lt
  have cb0 := Kb3.out.c 0 _ rfl
  have cb1 := Kb3.out.c 1 _ rfl
  have lb := Kb3.out.lt
  go_wp2_with fail
  all_goals (try clear ca0 ca1 la cb0 cb1 lb)
  refine (show_ok oa da 0 _ (inE_ok H.out).1 (by omega) (by omega)).mono ?_
  rintro e w4 ⟨rfl, hg⟩
  have S4 := Lib.hid (S3.out.trans hg)
  have Ka4 := Lib.hid (Ka3.out.gr hg)
  have Kb4 := Lib.hid (Kb3.out.gr hg)
  clear hg
  have ca0 := Ka4.out.c 0 _ rfl
  have ca1 := Ka4.out.c 1 _ rfl
  have la := Ka4.out.lt
  have cb0 := Kb4.out.c 0 _ rfl
  have cb1 := Kb4.out.c 1 _ rfl
  have lb := Kb4.out.lt
  go_wp2_with fail
  all_goals (try clear ca0 ca1 la cb0 cb1 lb)
  refine (Apart_ok oa da ob db (rch ob db ((s + 1) * 10000 + 2120)) _ (inE_ok H.out).1 (inE_ok G.out).1 q0 q1).mono ?_
  rintro e w5 ⟨rfl, hg⟩
  have S5 := Lib.hid (S4.out.trans hg)
  have Ka5 := Lib.hid (Ka4.out.gr hg)
  have Kb5 := Lib.hid (Kb4.out.gr hg)
  clear hg
  have ca0 := Ka5.out.c 0 _ rfl
  have ca1 := Ka5.out.c 1 _ rfl
  have la := Ka5.out.lt
  have cb0 := Kb5.out.c 0 _ rfl
  have cb1 := Kb5.out.c 1 _ rfl
  have lb := Kb5.out.lt
  go_wp2_with fail
  all_goals (try clear ca0 ca1 la cb0 cb1 lb)
  refine (size9 (rd ob db (rch ob db ((s + 1) * 10000 + 2120)) - rd oa da (rch ob db ((s + 1) * 10000 + 2120))) m _ (by omega) (by omega) HM.out).mono ?_
  rintro e w6 ⟨rfl, hg⟩
  have S6 := Lib.hid (S5.out.trans hg)
  have Ka6 := Lib.hid (Ka5.out.gr hg)
  have Kb6 := Lib.hid (Kb5.out.gr hg)
  clear hg
  have ca0 := Ka6.out.c 0 _ rfl
  have ca1 := Ka6.out.c 1 _ rfl
  have la := Ka6.out.lt
  have cb0 := Kb6.out.c 0 _ rfl
  have cb1 := Kb6.out.c 1 _ rfl
  have lb := Kb6.out.lt
  go_wp2_with fail
  all_goals (try clear ca0 ca1 la cb0 cb1 lb)
  all_goals go_ret
  all_goals exact ⟨rfl, S6.out⟩


theorem GuardApart_walk (oa da ob db s : Int) (w : World) :
    Calls Try.prog 20 #[.agg #[.int .i64 oa, .int .i64 da], .agg #[.int .i64 ob, .int .i64 db], .int .i64 s] w fun e w' => e = .returned (.bool true) ∧ Gr w w' := by
  by_cases h : inE oa da s 2120 = 0
  · by_cases hl : rch oa da (s * 10000 + 2120) + 6088 ≤ 1099511627776
    · by_cases g : inE ob db (s + 1) 2120 = 0
      · by_cases hz : 0 < rch ob db ((s + 1) * 10000 + 2120)
        · obtain ⟨m, hm⟩ : ∃ m, m = max (rd ob db (rch ob db ((s + 1) * 10000 + 2120)) - rd oa da (rch ob db ((s + 1) * 10000 + 2120))) (-(rd ob db (rch ob db ((s + 1) * 10000 + 2120)) - rd oa da (rch ob db ((s + 1) * 10000 + 2120)))) := ⟨_, rfl⟩
          by_cases hf : m ≤ 1100
          · by_cases h1 : rd oa da 0 ≤ s * 10000
            · exact GuardApart_ok oa da ob db s w h hl g hz m hm hf h1
            · exact GuardApart_first oa da ob db s w h hl g hz m hm hf (by omega)
          · exact GuardApart_far oa da ob db s w h hl g hz m hm (by omega)
        · exact GuardApart_z oa da ob db s w h hl g (by omega)
      · exact GuardApart_sE oa da ob db s w h hl g
    · exact GuardApart_late oa da ob db s w h (by omega)
  · exact GuardApart_E oa da ob db s w h
set_option maxRecDepth 100000 in
set_option maxHeartbeats 1000000 in
theorem GuardApart_lifted (os : Os) (started : os.Started) (H : Type) (enc : TypeId × Value → H) :
    ReturnsInHanded {} Try.checked os 20 .any (Rows.guardApartSpec.pre6 enc Try.prog Try.f20 Rows.guardApartRow.domain false) (Rows.guardApartSpec.post enc Try.prog Try.f20 false true false false) := by
  refine returnsInHanded_of_change (C := Try.checked) Try.own started (by kernel_rfl) Try.func20
    (ChangeSpec.witness6 (enc := enc) (C := Try.checked) false ⟨#[], #[.agg #[.int .i64 0, .int .i64 0], .agg #[.int .i64 0, .int .i64 0], .int .i64 0], []⟩ 8 (by kernel_rfl) (by kernel_rfl) (by kernel_rfl) (by kernel_rfl)) ?_
  intro W base args ds gs before hval0 hW hcnd _
  have hval : ∀ (j : Nat) t v, Try.f20.params[j]? = some t → args[j]? = some v → Value.okWide Try.prog W .any base t v := hval0
  have hW' := hW
  obtain ⟨p, q, hA0, hV, rfl, hfz, hnd⟩ := hW
  have hA : DataW.TrodAll enc Try.prog W 0 (fun _ => true) true Try.f20.params.toList args.toList ds p := hA0
  rw [Try.params20] at hA hval
  have hAk := hA
  obtain ⟨v0, vs0, d0, ds0, p0, q0, hargs, rfl, rfl, h0, r0⟩ := trodAll_cons hA
  obtain ⟨v1, vs1, d1, ds1, p1, q1, rfl, rfl, rfl, h1, r1⟩ := trodAll_cons r0
  obtain ⟨v2, vs2, d2, ds2, p2, q2, rfl, rfl, rfl, h2, r2⟩ := trodAll_cons r1
  obtain ⟨rfl, rfl, rfl⟩ := trodAll_nil r2
  obtain rfl : args = #[v0, v1, v2] := by cases args; simp_all
  obtain ⟨rfl, rfl⟩ := trodVars_none hV
  obtain ⟨c00, c01, y00, y01, m0, rfl, rfl, rfl, hy00, hy01⟩ := open_agg2 Try.underlying23 (by kernel_rfl) Try.cells23 (hval 0 23 v0 rfl rfl) h0
  obtain ⟨oa, e00, rfl, wfoa⟩ := DataW.trod_int Try.underlying3 hy00
  obtain ⟨da, e01, rfl, wfda⟩ := DataW.trod_int Try.underlying3 hy01
  simp at e00 e01
  subst e00 e01
  obtain ⟨c10, c11, y10, y11, m1, rfl, rfl, rfl, hy10, hy11⟩ := open_agg2 Try.underlying23 (by kernel_rfl) Try.cells23 (hval 1 23 v1 rfl rfl) h1
  obtain ⟨ob, e10, rfl, wfob⟩ := DataW.trod_int Try.underlying3 hy10
  obtain ⟨db, e11, rfl, wfdb⟩ := DataW.trod_int Try.underlying3 hy11
  simp at e10 e11
  subst e10 e11
  obtain ⟨s, rfl, rfl, rfl, wfs⟩ := open_int Try.underlying3 (hval 2 3 v2 rfl rfl) h2
  clear hA0 hval0
  simp only [List.append_nil] at hW'
  refine (GuardApart_walk oa da ob db s W).mono fun e W' ⟨he, hg⟩ => ?_
  subst he
  have hb : Below W.heap.size W W' := hg
  exact ⟨_, rfl, _, _, _, [], _, [], hW', trodAll_mk1 (shut_bool Try.underlying4 _), trodAll_stays Try.laidOut hb _ _ _ _ (by intro t ht; simp at ht; rcases ht with rfl | rfl | rfl <;> exact ⟨by kernel_rfl, of_decide_eq_true (by kernel_rfl)⟩) hAk (fun x hx => by simpa using hW'.lt x (by simpa using hx)), rfl, hb.frame _, fun h => by cases h⟩

theorem GuardApart_closed : joinedFacts Try.pinned.checked.prog 20 Try.f20 Rows.guardApartSpec Rows.guardApartRow = true := by
  unfold joinedFacts
  exact (and_tt (and_tt (and_tt (and_tt (and_tt (and_tt (and_tt (and_tt (and_tt (and_tt (and_tt (and_tt (and_tt (and_tt (and_tt (and_tt (and_tt (and_tt (and_tt (and_tt (and_tt (and_tt (and_tt (and_tt (and_tt (and_tt (and_tt (and_tt (and_tt (and_tt (and_tt (by as_aux_lemma => kernel_rfl) (J_laid)) (J_maps)) (by as_aux_lemma => kernel_rfl)) (by as_aux_lemma => kernel_rfl)) (by as_aux_lemma => kernel_rfl)) (J_stops)) (by as_aux_lemma => kernel_rfl)) (J_knobs)) (by as_aux_lemma => kernel_rfl)) (by as_aux_lemma => kernel_rfl)) (by as_aux_lemma => kernel_rfl)) (by as_aux_lemma => kernel_rfl)) (by as_aux_lemma => kernel_rfl)) (by as_aux_lemma => kernel_rfl)) (by as_aux_lemma => kernel_rfl)) (by as_aux_lemma => kernel_rfl)) (by as_aux_lemma => kernel_rfl)) (by as_aux_lemma => kernel_rfl)) (by as_aux_lemma => kernel_rfl)) (by as_aux_lemma => kernel_rfl)) (by as_aux_lemma => kernel_rfl)) (J_keys)) (by as_aux_lemma => kernel_rfl)) (J_heard)) (J_enter)) (J_lifts)) (J_make)) (by as_aux_lemma => kernel_rfl)) (by as_aux_lemma => kernel_rfl)) (by as_aux_lemma => kernel_rfl)) (by as_aux_lemma => kernel_rfl))

/-- THE STATEMENT GuardApart. -/
theorem GuardApart_holds : Rows.GuardApartSaid :=
  OpenClaim.holds_of_wide 20 Try.f20 rfl rfl rfl rfl rfl rfl rfl ⟨rfl, rfl, rfl, rfl, rfl⟩ rfl rfl rfl rfl rfl (by kernel_rfl) Try.func20 GuardApart_closed
    (of_decide_eq_true (by kernel_rfl)) (by unfold Func.isWrapper; rw [if_neg (of_decide_eq_false (by kernel_rfl))]; exact ⟨rfl, rfl⟩)
    (fun os started H enc _ => GuardApart_lifted os started H enc)
#print axioms GuardApart_holds
end Go.Proofs.Ytpnigndobhbfnaa
