/- GuardFits: if two clocks differ by at most GuardTime - 2 when a frame is sent, it fits; what comes earlier or later than GuardTime does not. For every input the call returns true and each argument reads afterwards as it read before (no condition). -/
import Derived.Test.YtpnigndobhbfnaaGrdE
import Derived.Test.YtpnigndobhbfnaaFrame
set_option linter.unnecessarySimpa false
namespace Go.Proofs.Ytpnigndobhbfnaa
open Go.ChangeShapes Go.WideShapes Go.ChangeAt Go.RowKit Go.Joins
theorem send_bd {o d s : Int} (h : inE o d s 2120 = 0) (h0 : 0 < rch o d (s * 10000 + 2120)) : s * 10000 + 2120 ≤ rd o d (rch o d (s * 10000 + 2120)) ∧ rd o d (rch o d (s * 10000 + 2120)) ≤ s * 10000 + 2121 := by
  obtain ⟨hv, _, hx⟩ := inE_ok h
  have r := rch_is hx
  have a := r.at_
  have b := r.before (rch o d (s * 10000 + 2120) - 1) (by omega) (by omega)
  have c := rd_succ o hv.d0 hv.d1 (t := rch o d (s * 10000 + 2120) - 1)
  rw [Int.sub_add_cancel] at c
  omega

theorem fits_yes {oa da ob db s : Int} (g : inE ob db s 3221 = 0) (f0 : rch ob db (s * 10000 + 1020) ≤ rch oa da (s * 10000 + 2120)) (f1 : rch oa da (s * 10000 + 2120) ≤ rch ob db (s * 10000 + 3221) - 1) : s * 10000 + 1020 ≤ rd ob db (rch oa da (s * 10000 + 2120)) ∧ rd ob db (rch oa da (s * 10000 + 2120)) < s * 10000 + 3221 := by
  obtain ⟨hv, _, hx⟩ := inE_ok g
  have a := rch_is (o := ob) (d := db) (x := s * 10000 + 1020) (by omega)
  have b := rch_is hx
  have c := rd_mono ob hv.d0 hv.d1 f0
  have e := a.at_
  have l := a.lo
  have := b.before (rch oa da (s * 10000 + 2120)) (by omega) (by omega)
  omega
theorem fits_no1 {oa da ob db s : Int} (h : inE oa da s 2120 = 0) (g : inE ob db s 3221 = 0) (f0 : rch oa da (s * 10000 + 2120) < rch ob db (s * 10000 + 1020)) : rd ob db (rch oa da (s * 10000 + 2120)) < s * 10000 + 1020 := by
  have a := rch_is (o := ob) (d := db) (x := s * 10000 + 1020) (by have := (inE_ok g).2.2; omega)
  exact a.before _ (rch_is (inE_ok h).2.2).lo f0
theorem fits_no2 {oa da ob db s : Int} (g : inE ob db s 3221 = 0) (f1 : rch ob db (s * 10000 + 3221) - 1 < rch oa da (s * 10000 + 2120)) : s * 10000 + 3221 ≤ rd ob db (rch oa da (s * 10000 + 2120)) := by
  obtain ⟨hv, _, hx⟩ := inE_ok g
  have b := rch_is hx
  have c := rd_mono ob hv.d0 hv.d1 (show rch ob db (s * 10000 + 3221) ≤ rch oa da (s * 10000 + 2120) by omega)
  have := b.at_
  omega

set_option maxHeartbeats 1000000 in
theorem GuardFits_E1 (oa da ob db s : Int) (w : World) (h : inE oa da s 2120 ≠ 0) :
    Calls Try.prog 24 #[.agg #[.int .i64 oa, .int .i64 da], .agg #[.int .i64 ob, .int .i64 db], .int .i64 s] w fun e w' => e = .returned (.bool true) ∧ Gr w w' := by
  go_enter Try.func24, Try.ntmps24
  go_wp2_with fail
  have g0 : Gr w (((w).alloc (Obj.cells #[.int .i64 oa, .int .i64 da] 23)).alloc (Obj.cells #[.int .i64 ob, .int .i64 db] 23)) := Gr.alloc (Gr.alloc (Gr.refl w) _) _
  have ba : Bx (((w).alloc (Obj.cells #[.int .i64 oa, .int .i64 da] 23)).alloc (Obj.cells #[.int .i64 ob, .int .i64 db] 23)) (w.heap.size) [.int .i64 oa, .int .i64 da] := Bx.gr (Bx.at_ (Bx.new (w) [.int .i64 oa, .int .i64 da] 23) (by simp)) (Gr.alloc (Gr.refl _) _)
  have bb : Bx (((w).alloc (Obj.cells #[.int .i64 oa, .int .i64 da] 23)).alloc (Obj.cells #[.int .i64 ob, .int .i64 db] 23)) (w.heap.size + 1) [.int .i64 ob, .int .i64 db] := Bx.gr (Bx.at_ (Bx.new ((w).alloc (Obj.cells #[.int .i64 oa, .int .i64 da] 23)) [.int .i64 ob, .int .i64 db] 23) (by simp)) (Gr.refl _)
  generalize ((w).alloc (Obj.cells #[.int .i64 oa, .int .i64 da] 23)).alloc (Obj.cells #[.int .i64 ob, .int .i64 db] 23) = W at g0 ba bb ⊢
  have S0 := Lib.hid g0
  have Ka0 := Lib.hid ba
  have Kb0 := Lib.hid bb
  clear g0 ba bb
  refine (awake09 _).mono ?_
  rintro e w1 ⟨rfl, hg⟩
  have S1 := Lib.hid (S0.out.trans hg)
  have Ka1 := Lib.hid (Ka0.out.gr hg)
  have Kb1 := Lib.hid (Kb0.out.gr hg)
  clear hg
  have ca0 := Ka1.out.c 0 _ rfl
  have ca1 := Ka1.out.c 1 _ rfl
  have la := Ka1.out.lt
  have cb0 := Kb1.out.c 0 _ rfl
  have cb1 := Kb1.out.c 1 _ rfl
  have lb := Kb1.out.lt
  go_wp2_with fail
  all_goals (try clear ca0 ca1 la cb0 cb1 lb)
  refine (Fits_E1 oa da ob db s _ h).mono ?_
  rintro e w2 ⟨rfl, hg⟩
  have S2 := Lib.hid (S1.out.trans hg)
  have Ka2 := Lib.hid (Ka1.out.gr hg)
  have Kb2 := Lib.hid (Kb1.out.gr hg)
  clear hg
  have ca0 := Ka2.out.c 0 _ rfl
  have ca1 := Ka2.out.c 1 _ rfl
  have la := Ka2.out.lt
  have cb0 := Kb2.out.c 0 _ rfl
  have cb1 := Kb2.out.c 1 _ rfl
  have lb := Kb2.out.lt
  go_wp2_with fail
  all_goals (try clear ca0 ca1 la cb0 cb1 lb)
  refine (Late_E1 oa da ob db s _ h).mono ?_
  rintro e w3 ⟨rfl, hg⟩
  have S3 := Lib.hid (S2.out.trans hg)
  have Ka3 := Lib.hid (Ka2.out.gr hg)
  have Kb3 := Lib.hid (Kb2.out.gr hg)
  clear hg
  have ca0 := Ka3.out.c 0 _ rfl
  have ca1 := Ka3.out.c 1 _ rfl
  have la := Ka3.out.lt
  have cb0 := Kb3.out.c 0 _ rfl
  have cb1 := Kb3.out.c 1 _ rfl
  have lb := Kb3.out.lt
  go_wp2_with fail
  all_goals (try clear ca0 ca1 la cb0 cb1 lb)
  all_goals go_ret
  all_goals exact ⟨rfl, S3.out⟩


set_option maxHeartbeats 1000000 in
theorem GuardFits_E2 (oa da ob db s : Int) (w : World) (h : inE oa da s 2120 = 0) (g : inE ob db s 3221 ≠ 0) :
    Calls Try.prog 24 #[.agg #[.int .i64 oa, .int .i64 da], .agg #[.int .i64 ob, .int .i64 db], .int .i64 s] w fun e w' => e = .returned (.bool true) ∧ Gr w w' := by
  have H := Lib.hid h
  clear h
  go_enter Try.func24, Try.ntmps24
  go_wp2_with fail
  have g0 : Gr w (((w).alloc (Obj.cells #[.int .i64 oa, .int .i64 da] 23)).alloc (Obj.cells #[.int .i64 ob, .int .i64 db] 23)) := Gr.alloc (Gr.alloc (Gr.refl w) _) _
  have ba : Bx (((w).alloc (Obj.cells #[.int .i64 oa, .int .i64 da] 23)).alloc (Obj.cells #[.int .i64 ob, .int .i64 db] 23)) (w.heap.size) [.int .i64 oa, .int .i64 da] := Bx.gr (Bx.at_ (Bx.new (w) [.int .i64 oa, .int .i64 da] 23) (by simp)) (Gr.alloc (Gr.refl _) _)
  have bb : Bx (((w).alloc (Obj.cells #[.int .i64 oa, .int .i64 da] 23)).alloc (Obj.cells #[.int .i64 ob, .int .i64 db] 23)) (w.heap.size + 1) [.int .i64 ob, .int .i64 db] := Bx.gr (Bx.at_ (Bx.new ((w).alloc (Obj.cells #[.int .i64 oa, .int .i64 da] 23)) [.int .i64 ob, .int .i64 db] 23) (by simp)) (Gr.refl _)
  generalize ((w).alloc (Obj.cells #[.int .i64 oa, .int .i64 da] 23)).alloc (Obj.cells #[.int .i64 ob, .int .i64 db] 23) = W at g0 ba bb ⊢
  have S0 := Lib.hid g0
  have Ka0 := Lib.hid ba
  have Kb0 := Lib.hid bb
  clear g0 ba bb
  refine (awake09 _).mono ?_
  rintro e w1 ⟨rfl, hg⟩
  have S1 := Lib.hid (S0.out.trans hg)
  have Ka1 := Lib.hid (Ka0.out.gr hg)
  have Kb1 := Lib.hid (Kb0.out.gr hg)
  clear hg
  have ca0 := Ka1.out.c 0 _ rfl
  have ca1 := Ka1.out.c 1 _ rfl
  have la := Ka1.out.lt
  have cb0 := Kb1.out.c 0 _ rfl
  have cb1 := Kb1.out.c 1 _ rfl
  have lb := Kb1.out.lt
  go_wp2_with fail
  all_goals (try clear ca0 ca1 la cb0 cb1 lb)
  refine (Fits_E2 oa da ob db s _ H.out g).mono ?_
  rintro e w2 ⟨rfl, hg⟩
  have S2 := Lib.hid (S1.out.trans hg)
  have Ka2 := Lib.hid (Ka1.out.gr hg)
  have Kb2 := Lib.hid (Kb1.out.gr hg)
  clear hg
  have ca0 := Ka2.out.c 0 _ rfl
  have ca1 := Ka2.out.c 1 _ rfl
  have la := Ka2.out.lt
  have cb0 := Kb2.out.c 0 _ rfl
  have cb1 := Kb2.out.c 1 _ rfl
  have lb := Kb2.out.lt
  go_wp2_with fail
  all_goals (try clear ca0 ca1 la cb0 cb1 lb)
  refine (Late_E2 oa da ob db s _ H.out g).mono ?_
  rintro e w3 ⟨rfl, hg⟩
  have S3 := Lib.hid (S2.out.trans hg)
  have Ka3 := Lib.hid (Ka2.out.gr hg)
  have Kb3 := Lib.hid (Kb2.out.gr hg)
  clear hg
  have ca0 := Ka3.out.c 0 _ rfl
  have ca1 := Ka3.out.c 1 _ rfl
  have la := Ka3.out.lt
  have cb0 := Kb3.out.c 0 _ rfl
  have cb1 := Kb3.out.c 1 _ rfl
  have lb := Kb3.out.lt
  go_wp2_with fail
  all_goals (try clear ca0 ca1 la cb0 cb1 lb)
  all_goals go_ret
  all_goals exact ⟨rfl, S3.out⟩


set_option maxHeartbeats 1000000 in
theorem GuardFits_yes_z (oa da ob db s : Int) (w : World) (h : inE oa da s 2120 = 0) (g : inE ob db s 3221 = 0) (f0 : rch ob db (s * 10000 + 1020) ≤ rch oa da (s * 10000 + 2120)) (f1 : rch oa da (s * 10000 + 2120) ≤ rch ob db (s * 10000 + 3221) - 1) (ht : rch oa da (s * 10000 + 2120) ≤ 0) (l : Int) (hl : l = max (rd ob db (rch oa da (s * 10000 + 2120)) - (s * 10000 + 2120)) (-(rd ob db (rch oa da (s * 10000 + 2120)) - (s * 10000 + 2120)))) :
    Calls Try.prog 24 #[.agg #[.int .i64 oa, .int .i64 da], .agg #[.int .i64 ob, .int .i64 db], .int .i64 s] w fun e w' => e = .returned (.bool true) ∧ Gr w w' := by
  have hr : IsRch oa da (s * 10000 + 2120) (rch oa da (s * 10000 + 2120)) := rch_is (inE_ok h).2.2
  have r0 := hr.lo
  have r1 := hr.hi
  clear hr
  have s0 := (inE_ok h).2.1.1
  have s1 := (inE_ok h).2.1.2
  have ba := rd_bd (inE_ok h).1 r0 r1
  have bb := rd_bd (inE_ok g).1 r0 r1
  have mt := fits_yes g f0 f1
  have H := Lib.hid h
  have G := Lib.hid g
  have HL := Lib.hid hl
  clear h g hl
  go_enter Try.func24, Try.ntmps24
  go_wp2_with fail
  have g0 : Gr w (((w).alloc (Obj.cells #[.int .i64 oa, .int .i64 da] 23)).alloc (Obj.cells #[.int .i64 ob, .int .i64 db] 23)) := Gr.alloc (Gr.alloc (Gr.refl w) _) _
  have ba : Bx (((w).alloc (Obj.cells #[.int .i64 oa, .int .i64 da] 23)).alloc (Obj.cells #[.int .i64 ob, .int .i64 db] 23)) (w.heap.size) [.int .i64 oa, .int .i64 da] := Bx.gr (Bx.at_ (Bx.new (w) [.int .i64 oa, .int .i64 da] 23) (by simp)) (Gr.alloc (Gr.refl _) _)
  have bb : Bx (((w).alloc (Obj.cells #[.int .i64 oa, .int .i64 da] 23)).alloc (Obj.cells #[.int .i64 ob, .int .i64 db] 23)) (w.heap.size + 1) [.int .i64 ob, .int .i64 db] := Bx.gr (Bx.at_ (Bx.new ((w).alloc (Obj.cells #[.int .i64 oa, .int .i64 da] 23)) [.int .i64 ob, .int .i64 db] 23) (by simp)) (Gr.refl _)
  generalize ((w).alloc (Obj.cells #[.int .i64 oa, .int .i64 da] 23)).alloc (Obj.cells #[.int .i64 ob, .int .i64 db] 23) = W at g0 ba bb ⊢
  have S0 := Lib.hid g0
  have Ka0 := Lib.hid ba
  have Kb0 := Lib.hid bb
  clear g0 ba bb
  refine (awake09 _).mono ?_
  rintro e w1 ⟨rfl, hg⟩
  have S1 := Lib.hid (S0.out.trans hg)
  have Ka1 := Lib.hid (Ka0.out.gr hg)
  have Kb1 := Lib.hid (Kb0.out.gr hg)
  clear hg
  have ca0 := Ka1.out.c 0 _ rfl
  have ca1 := Ka1.out.c 1 _ rfl
  have la := Ka1.out.lt
  have cb0 := Kb1.out.c 0 _ rfl
  have cb1 := Kb1.out.c 1 _ rfl
  have lb := Kb1.out.lt
  go_wp2_with fail
  all_goals (try clear ca0 ca1 la cb0 cb1 lb)
  refine (Fits_yes oa da ob db s _ H.out G.out f0 f1).mono ?_
  rintro e w2 ⟨rfl, hg⟩
  have S2 := Lib.hid (S1.out.trans hg)
  have Ka2 := Lib.hid (Ka1.out.gr hg)
  have Kb2 := Lib.hid (Kb1.out.gr hg)
  clear hg
  have ca0 := Ka2.out.c 0 _ rfl
  have ca1 := Ka2.out.c 1 _ rfl
  have la := Ka2.out.lt
  have cb0 := Kb2.out.c 0 _ rfl
  have cb1 := Kb2.out.c 1 _ rfl
  have lb := Kb2.out.lt
  go_wp2_with fail
  all_goals (try clear ca0 ca1 la cb0 cb1 lb)
  refine (Late_ok oa da ob db s _ H.out G.out).mono ?_
  rintro e w3 ⟨rfl, hg⟩
  have S3 := Lib.hid (S2.out.trans hg)
  have Ka3 := Lib.hid (Ka2.out.gr hg)
  have Kb3 := Lib.hid (Kb2.out.gr hg)
  clear hg
  have ca0 := Ka3.out.c 0 _ rfl
  have ca1 := Ka3.out.c 1 _ rfl
  have la := Ka3.out.lt
  have cb0 := Kb3.out.c 0 _ rfl
  have cb1 := Kb3.out.c 1 _ rfl
  have lb := Kb3.out.lt
  go_wp2_with fail
  all_goals (try clear ca0 ca1 la cb0 cb1 lb)
  refine (Send_S oa da s _ H.out).mono ?_
  rintro e w4 ⟨rfl, hg⟩
  have S4 := Lib.hid (S3.out.trans hg)
  have Ka4 := Lib.hid (Ka3.out.gr hg)
  have Kb4 := Lib.hid (Kb3.out.gr hg)
  clear hg
  have ca0 := Ka4.out.c 0 _ rfl
  have ca1 := Ka4.out.c 1 _ rfl
  have la := Ka4.out.lt
  have cb0 := Kb4.out.c 0 _ rfl
  have cb1 := Kb4.out.c 1 _ rfl
  have lb := Kb4.out.lt
  go_wp2_with fail
  all_goals (try clear ca0 ca1 la cb0 cb1 lb)
  refine (Apart_ok oa da ob db (rch oa da (s * 10000 + 2120)) _ (inE_ok H.out).1 (inE_ok G.out).1 r0 r1).mono ?_
  rintro e w5 ⟨rfl, hg⟩
  have S5 := Lib.hid (S4.out.trans hg)
  have Ka5 := Lib.hid (Ka4.out.gr hg)
  have Kb5 := Lib.hid (Kb4.out.gr hg)
  clear hg
  have ca0 := Ka5.out.c 0 _ rfl
  have ca1 := Ka5.out.c 1 _ rfl
  have la := Ka5.out.lt
  have cb0 := Kb5.out.c 0 _ rfl
  have cb1 := Kb5.out.c 1 _ rfl
  have lb := Kb5.out.lt
  go_wp2_with fail
  all_goals (try clear ca0 ca1 la cb0 cb1 lb)
  refine (size9 (rd ob db (rch oa da (s * 10000 + 2120)) - (s * 10000 + 2120)) l _ (by omega) (by omega) HL.out).mono ?_
  rintro e w6 ⟨rfl, hg⟩
  have S6 := Lib.hid (S5.out.trans hg)
  have Ka6 := Lib.hid (Ka5.out.gr hg)
  have Kb6 := Lib.hid (Kb5.out.gr hg)
  clear hg
  have ca0 := Ka6.out.c 0 _ rfl
  have ca1 := Ka6.out.c 1 _ rfl
  have la := Ka6.out.lt
  have cb0 := Kb6.out.c 0 _ rfl
  have cb1 := Kb6.out.c 1 _ rfl
  have lb := Kb6.out.lt
  go_wp2_with fail
  all_goals (try clear ca0 ca1 la cb0 cb1 lb)
  all_goals go_ret
  all_goals exact ⟨rfl, S6.out⟩


set_option maxHeartbeats 1000000 in
theorem GuardFits_yes_p (oa da ob db s : Int) (w : World) (h : inE oa da s 2120 = 0) (g : inE ob db s 3221 = 0) (f0 : rch ob db (s * 10000 + 1020) ≤ rch oa da (s * 10000 + 2120)) (f1 : rch oa da (s * 10000 + 2120) ≤ rch ob db (s * 10000 + 3221) - 1) (ht : 0 < rch oa da (s * 10000 + 2120)) (l m : Int) (hl : l = max (rd ob db (rch oa da (s * 10000 + 2120)) - (s * 10000 + 2120)) (-(rd ob db (rch oa da (s * 10000 + 2120)) - (s * 10000 + 2120)))) (hm : m = max (rd ob db (rch oa da (s * 10000 + 2120)) - rd oa da (rch oa da (s * 10000 + 2120))) (-(rd ob db (rch oa da (s * 10000 + 2120)) - rd oa da (rch oa da (s * 10000 + 2120))))) :
    Calls Try.prog 24 #[.agg #[.int .i64 oa, .int .i64 da], .agg #[.int .i64 ob, .int .i64 db], .int .i64 s] w fun e w' => e = .returned (.bool true) ∧ Gr w w' := by
  have hr : IsRch oa da (s * 10000 + 2120) (rch oa da (s * 10000 + 2120)) := rch_is (inE_ok h).2.2
  have r0 := hr.lo
  have r1 := hr.hi
  clear hr
  have s0 := (inE_ok h).2.1.1
  have s1 := (inE_ok h).2.1.2
  have ba := rd_bd (inE_ok h).1 r0 r1
  have bb := rd_bd (inE_ok g).1 r0 r1
  have mt := fits_yes g f0 f1
  have sb := send_bd h ht
  have l1 : l ≤ 1101 := by omega
  have H := Lib.hid h
  have G := Lib.hid g
  have HL := Lib.hid hl
  have HM := Lib.hid hm
  clear h g hl hm
  go_enter Try.func24, Try.ntmps24
  go_wp2_with fail
  have g0 : Gr w (((w).alloc (Obj.cells #[.int .i64 oa, .int .i64 da] 23)).alloc (Obj.cells #[.int .i64 ob, .int .i64 db] 23)) := Gr.alloc (Gr.alloc (Gr.refl w) _) _
  have ba : Bx (((w).alloc (Obj.cells #[.int .i64 oa, .int .i64 da] 23)).alloc (Obj.cells #[.int .i64 ob, .int .i64 db] 23)) (w.heap.size) [.int .i64 oa, .int .i64 da] := Bx.gr (Bx.at_ (Bx.new (w) [.int .i64 oa, .int .i64 da] 23) (by simp)) (Gr.alloc (Gr.refl _) _)
  have bb : Bx (((w).alloc (Obj.cells #[.int .i64 oa, .int .i64 da] 23)).alloc (Obj.cells #[.int .i64 ob, .int .i64 db] 23)) (w.heap.size + 1) [.int .i64 ob, .int .i64 db] := Bx.gr (Bx.at_ (Bx.new ((w).alloc (Obj.cells #[.int .i64 oa, .int .i64 da] 23)) [.int .i64 ob, .int .i64 db] 23) (by simp)) (Gr.refl _)
  generalize ((w).alloc (Obj.cells #[.int .i64 oa, .int .i64 da] 23)).alloc (Obj.cells #[.int .i64 ob, .int .i64 db] 23) = W at g0 ba bb ⊢
  have S0 := Lib.hid g0
  have Ka0 := Lib.hid ba
  have Kb0 := Lib.hid bb
  clear g0 ba bb
  refine (awake09 _).mono ?_
  rintro e w1 ⟨rfl, hg⟩
  have S1 := Lib.hid (S0.out.trans hg)
  have Ka1 := Lib.hid (Ka0.out.gr hg)
  have Kb1 := Lib.hid (Kb0.out.gr hg)
  clear hg
  have ca0 := Ka1.out.c 0 _ rfl
  have ca1 := Ka1.out.c 1 _ rfl
  have la := Ka1.out.lt
  have cb0 := Kb1.out.c 0 _ rfl
  have cb1 := Kb1.out.c 1 _ rfl
  have lb := Kb1.out.lt
  go_wp2_with fail
  all_goals (try clear ca0 ca1 la cb0 cb1 lb)
  refine (Fits_yes oa da ob db s _ H.out G.out f0 f1).mono ?_
  rintro e w2 ⟨rfl, hg⟩
  have S2 := Lib.hid (S1.out.trans hg)
  have Ka2 := Lib.hid (Ka1.out.gr hg)
  have Kb2 := Lib.hid (Kb1.out.gr hg)
  clear hg
  have ca0 := Ka2.out.c 0 _ rfl
  have ca1 := Ka2.out.c 1 _ rfl
  have la := Ka2.out.lt
  have cb0 := Kb2.out.c 0 _ rfl
  have cb1 := Kb2.out.c 1 _ rfl
  have lb := Kb2.out.lt
  go_wp2_with fail
  all_goals (try clear ca0 ca1 la cb0 cb1 lb)
  refine (Late_ok oa da ob db s _ H.out G.out).mono ?_
  rintro e w3 ⟨rfl, hg⟩
  have S3 := Lib.hid (S2.out.trans hg)
  have Ka3 := Lib.hid (Ka2.out.gr hg)
  have Kb3 := Lib.hid (Kb2.out.gr hg)
  clear hg
  have ca0 := Ka3.out.c 0 _ rfl
  have ca1 := Ka3.out.c 1 _ rfl
  have la := Ka3.out.lt
  have cb0 := Kb3.out.c 0 _ rfl
  have cb1 := Kb3.out.c 1 _ rfl
  have lb := Kb3.out.lt
  go_wp2_with fail
  all_goals (try clear ca0 ca1 la cb0 cb1 lb)
  refine (Send_S oa da s _ H.out).mono ?_
  rintro e w4 ⟨rfl, hg⟩
  have S4 := Lib.hid (S3.out.trans hg)
  have Ka4 := Lib.hid (Ka3.out.gr hg)
  have Kb4 := Lib.hid (Kb3.out.gr hg)
  clear hg
  have ca0 := Ka4.out.c 0 _ rfl
  have ca1 := Ka4.out.c 1 _ rfl
  have la := Ka4.out.lt
  have cb0 := Kb4.out.c 0 _ rfl
  have cb1 := Kb4.out.c 1 _ rfl
  have lb := Kb4.out.lt
  go_wp2_with fail
  all_goals (try clear ca0 ca1 la cb0 cb1 lb)
  refine (Apart_ok oa da ob db (rch oa da (s * 10000 + 2120)) _ (inE_ok H.out).1 (inE_ok G.out).1 r0 r1).mono ?_
  rintro e w5 ⟨rfl, hg⟩
  have S5 := Lib.hid (S4.out.trans hg)
  have Ka5 := Lib.hid (Ka4.out.gr hg)
  have Kb5 := Lib.hid (Kb4.out.gr hg)
  clear hg
  have ca0 := Ka5.out.c 0 _ rfl
  have ca1 := Ka5.out.c 1 _ rfl
  have la := Ka5.out.lt
  have cb0 := Kb5.out.c 0 _ rfl
  have cb1 := Kb5.out.c 1 _ rfl
  have lb := Kb5.out.lt
  go_wp2_with fail
  all_goals (try clear ca0 ca1 la cb0 cb1 lb)
  refine (size9 (rd ob db (rch oa da (s * 10000 + 2120)) - (s * 10000 + 2120)) l _ (by omega) (by omega) HL.out).mono ?_
  rintro e w6 ⟨rfl, hg⟩
  have S6 := Lib.hid (S5.out.trans hg)
  have Ka6 := Lib.hid (Ka5.out.gr hg)
  have Kb6 := Lib.hid (Kb5.out.gr hg)
  clear hg
  have ca0 := Ka6.out.c 0 _ rfl
  have ca1 := Ka6.out.c 1 _ rfl
  have la := Ka6.out.lt
  have cb0 := Kb6.out.c 0 _ rfl
  have cb1 := Kb6.out.c 1 _ rfl
  have lb := Kb6.out.lt
  go_wp2_with fail
  all_goals (try clear ca0 ca1 la cb0 cb1 lb)
  refine (size9 (rd ob db (rch oa da (s * 10000 + 2120)) - rd oa da (rch oa da (s * 10000 + 2120))) m _ (by omega) (by omega) HM.out).mono ?_
  rintro e w7 ⟨rfl, hg⟩
  have S7 := Lib.hid (S6.out.trans hg)
  have Ka7 := Lib.hid (Ka6.out.gr hg)
  have Kb7 := Lib.hid (Kb6.out.gr hg)
  clear hg
  have ca0 := Ka7.out.c 0 _ rfl
  have ca1 := Ka7.out.c 1 _ rfl
  have la := Ka7.out.lt
  have cb0 := Kb7.out.c 0 _ rfl
  have cb1 := Kb7.out.c 1 _ rfl
  have lb := Kb7.out.lt
  go_wp2_with fail
  all_goals (try clear ca0 ca1 la cb0 cb1 lb)
  all_goals go_ret
  all_goals exact ⟨rfl, S7.out⟩


set_option maxHeartbeats 1000000 in
theorem GuardFits_no1_z (oa da ob db s : Int) (w : World) (h : inE oa da s 2120 = 0) (g : inE ob db s 3221 = 0) (f0 : rch oa da (s * 10000 + 2120) < rch ob db (s * 10000 + 1020)) (ht : rch oa da (s * 10000 + 2120) ≤ 0) (l : Int) (hl : l = max (rd ob db (rch oa da (s * 10000 + 2120)) - (s * 10000 + 2120)) (-(rd ob db (rch oa da (s * 10000 + 2120)) - (s * 10000 + 2120)))) :
    Calls Try.prog 24 #[.agg #[.int .i64 oa, .int .i64 da], .agg #[.int .i64 ob, .int .i64 db], .int .i64 s] w fun e w' => e = .returned (.bool true) ∧ Gr w w' := by
  have hr : IsRch oa da (s * 10000 + 2120) (rch oa da (s * 10000 + 2120)) := rch_is (inE_ok h).2.2
  have r0 := hr.lo
  have r1 := hr.hi
  clear hr
  have s0 := (inE_ok h).2.1.1
  have s1 := (inE_ok h).2.1.2
  have ba := rd_bd (inE_ok h).1 r0 r1
  have bb := rd_bd (inE_ok g).1 r0 r1
  have mt := fits_no1 h g f0
  have H := Lib.hid h
  have G := Lib.hid g
  have HL := Lib.hid hl
  clear h g hl
  go_enter Try.func24, Try.ntmps24
  go_wp2_with fail
  have g0 : Gr w (((w).alloc (Obj.cells #[.int .i64 oa, .int .i64 da] 23)).alloc (Obj.cells #[.int .i64 ob, .int .i64 db] 23)) := Gr.alloc (Gr.alloc (Gr.refl w) _) _
  have ba : Bx (((w).alloc (Obj.cells #[.int .i64 oa, .int .i64 da] 23)).alloc (Obj.cells #[.int .i64 ob, .int .i64 db] 23)) (w.heap.size) [.int .i64 oa, .int .i64 da] := Bx.gr (Bx.at_ (Bx.new (w) [.int .i64 oa, .int .i64 da] 23) (by simp)) (Gr.alloc (Gr.refl _) _)
  have bb : Bx (((w).alloc (Obj.cells #[.int .i64 oa, .int .i64 da] 23)).alloc (Obj.cells #[.int .i64 ob, .int .i64 db] 23)) (w.heap.size + 1) [.int .i64 ob, .int .i64 db] := Bx.gr (Bx.at_ (Bx.new ((w).alloc (Obj.cells #[.int .i64 oa, .int .i64 da] 23)) [.int .i64 ob, .int .i64 db] 23) (by simp)) (Gr.refl _)
  generalize ((w).alloc (Obj.cells #[.int .i64 oa, .int .i64 da] 23)).alloc (Obj.cells #[.int .i64 ob, .int .i64 db] 23) = W at g0 ba bb ⊢
  have S0 := Lib.hid g0
  have Ka0 := Lib.hid ba
  have Kb0 := Lib.hid bb
  clear g0 ba bb
  refine (awake09 _).mono ?_
  rintro e w1 ⟨rfl, hg⟩
  have S1 := Lib.hid (S0.out.trans hg)
  have Ka1 := Lib.hid (Ka0.out.gr hg)
  have Kb1 := Lib.hid (Kb0.out.gr hg)
  clear hg
  have ca0 := Ka1.out.c 0 _ rfl
  have ca1 := Ka1.out.c 1 _ rfl
  have la := Ka1.out.lt
  have cb0 := Kb1.out.c 0 _ rfl
  have cb1 := Kb1.out.c 1 _ rfl
  have lb := Kb1.out.lt
  go_wp2_with fail
  all_goals (try clear ca0 ca1 la cb0 cb1 lb)
  refine (Fits_no1 oa da ob db s _ H.out G.out f0).mono ?_
  rintro e w2 ⟨rfl, hg⟩
  have S2 := Lib.hid (S1.out.trans hg)
  have Ka2 := Lib.hid (Ka1.out.gr hg)
  have Kb2 := Lib.hid (Kb1.out.gr hg)
  clear hg
  have ca0 := Ka2.out.c 0 _ rfl
  have ca1 := Ka2.out.c 1 _ rfl
  have la := Ka2.out.lt
  have cb0 := Kb2.out.c 0 _ rfl
  have cb1 := Kb2.out.c 1 _ rfl
  have lb := Kb2.out.lt
  go_wp2_with fail
  all_goals (try clear ca0 ca1 la cb0 cb1 lb)
  refine (Late_ok oa da ob db s _ H.out G.out).mono ?_
  rintro e w3 ⟨rfl, hg⟩
  have S3 := Lib.hid (S2.out.trans hg)
  have Ka3 := Lib.hid (Ka2.out.gr hg)
  have Kb3 := Lib.hid (Kb2.out.gr hg)
  clear hg
  have ca0 := Ka3.out.c 0 _ rfl
  have ca1 := Ka3.out.c 1 _ rfl
  have la := Ka3.out.lt
  have cb0 := Kb3.out.c 0 _ rfl
  have cb1 := Kb3.out.c 1 _ rfl
  have lb := Kb3.out.lt
  go_wp2_with fail
  all_goals (try clear ca0 ca1 la cb0 cb1 lb)
  refine (Send_S oa da s _ H.out).mono ?_
  rintro e w4 ⟨rfl, hg⟩
  have S4 := Lib.hid (S3.out.trans hg)
  have Ka4 := Lib.hid (Ka3.out.gr hg)
  have Kb4 := Lib.hid (Kb3.out.gr hg)
  clear hg
  have ca0 := Ka4.out.c 0 _ rfl
  have ca1 := Ka4.out.c 1 _ rfl
  have la := Ka4.out.lt
  have cb0 := Kb4.out.c 0 _ rfl
  have cb1 := Kb4.out.c 1 _ rfl
  have lb := Kb4.out.lt
  go_wp2_with fail
  all_goals (try clear ca0 ca1 la cb0 cb1 lb)
  refine (Apart_ok oa da ob db (rch oa da (s * 10000 + 2120)) _ (inE_ok H.out).1 (inE_ok G.out).1 r0 r1).mono ?_
  rintro e w5 ⟨rfl, hg⟩
  have S5 := Lib.hid (S4.out.trans hg)
  have Ka5 := Lib.hid (Ka4.out.gr hg)
  have Kb5 := Lib.hid (Kb4.out.gr hg)
  clear hg
  have ca0 := Ka5.out.c 0 _ rfl
  have ca1 := Ka5.out.c 1 _ rfl
  have la := Ka5.out.lt
  have cb0 := Kb5.out.c 0 _ rfl
  have cb1 := Kb5.out.c 1 _ rfl
  have lb := Kb5.out.lt
  go_wp2_with fail
  all_goals (try clear ca0 ca1 la cb0 cb1 lb)
  refine (size9 (rd ob db (rch oa da (s * 10000 + 2120)) - (s * 10000 + 2120)) l _ (by omega) (by omega) HL.out).mono ?_
  rintro e w6 ⟨rfl, hg⟩
  have S6 := Lib.hid (S5.out.trans hg)
  have Ka6 := Lib.hid (Ka5.out.gr hg)
  have Kb6 := Lib.hid (Kb5.out.gr hg)
  clear hg
  have ca0 := Ka6.out.c 0 _ rfl
  have ca1 := Ka6.out.c 1 _ rfl
  have la := Ka6.out.lt
  have cb0 := Kb6.out.c 0 _ rfl
  have cb1 := Kb6.out.c 1 _ rfl
  have lb := Kb6.out.lt
  go_wp2_with fail
  all_goals (try clear ca0 ca1 la cb0 cb1 lb)
  all_goals go_ret
  all_goals exact ⟨rfl, S6.out⟩


set_option maxHeartbeats 1000000 in
theorem GuardFits_no1_p (oa da ob db s : Int) (w : World) (h : inE oa da s 2120 = 0) (g : inE ob db s 3221 = 0) (f0 : rch oa da (s * 10000 + 2120) < rch ob db (s * 10000 + 1020)) (ht : 0 < rch oa da (s * 10000 + 2120)) (l m : Int) (hl : l = max (rd ob db (rch oa da (s * 10000 + 2120)) - (s * 10000 + 2120)) (-(rd ob db (rch oa da (s * 10000 + 2120)) - (s * 10000 + 2120)))) (hm : m = max (rd ob db (rch oa da (s * 10000 + 2120)) - rd oa da (rch oa da (s * 10000 + 2120))) (-(rd ob db (rch oa da (s * 10000 + 2120)) - rd oa da (rch oa da (s * 10000 + 2120))))) :
    Calls Try.prog 24 #[.agg #[.int .i64 oa, .int .i64 da], .agg #[.int .i64 ob, .int .i64 db], .int .i64 s] w fun e w' => e = .returned (.bool true) ∧ Gr w w' := by
  have hr : IsRch oa da (s * 10000 + 2120) (rch oa da (s * 10000 + 2120)) := rch_is (inE_ok h).2.2
  have r0 := hr.lo
  have r1 := hr.hi
  clear hr
  have s0 := (inE_ok h).2.1.1
  have s1 := (inE_ok h).2.1.2
  have ba := rd_bd (inE_ok h).1 r0 r1
  have bb := rd_bd (inE_ok g).1 r0 r1
  have mt := fits_no1 h g f0
  have sb := send_bd h ht
  have m1 : 1098 < m := by omega
  have H := Lib.hid h
  have G := Lib.hid g
  have HL := Lib.hid hl
  have HM := Lib.hid hm
  clear h g hl hm
  rcases (show l ≤ 1101 ∨ 1101 < l by omega) with l1 | l1
  all_goals
    go_enter Try.func24, Try.ntmps24
    go_wp2_with fail
    have g0 : Gr w (((w).alloc (Obj.cells #[.int .i64 oa, .int .i64 da] 23)).alloc (Obj.cells #[.int .i64 ob, .int .i64 db] 23)) := Gr.alloc (Gr.alloc (Gr.refl w) _) _
    have ba : Bx (((w).alloc (Obj.cells #[.int .i64 oa, .int .i64 da] 23)).alloc (Obj.cells #[.int .i64 ob, .int .i64 db] 23)) (w.heap.size) [.int .i64 oa, .int .i64 da] := Bx.gr (Bx.at_ (Bx.new (w) [.int .i64 oa, .int .i64 da] 23) (by simp)) (Gr.alloc (Gr.refl _) _)
    have bb : Bx (((w).alloc (Obj.cells #[.int .i64 oa, .int .i64 da] 23)).alloc (Obj.cells #[.int .i64 ob, .int .i64 db] 23)) (w.heap.size + 1) [.int .i64 ob, .int .i64 db] := Bx.gr (Bx.at_ (Bx.new ((w).alloc (Obj.cells #[.int .i64 oa, .int .i64 da] 23)) [.int .i64 ob, .int .i64 db] 23) (by simp)) (Gr.refl _)
    generalize ((w).alloc (Obj.cells #[.int .i64 oa, .int .i64 da] 23)).alloc (Obj.cells #[.int .i64 ob, .int .i64 db] 23) = W at g0 ba bb ⊢
    have S0 := Lib.hid g0
    have Ka0 := Lib.hid ba
    have Kb0 := Lib.hid bb
    clear g0 ba bb
    refine (awake09 _).mono ?_
    rintro e w1 ⟨rfl, hg⟩
    have S1 := Lib.hid (S0.out.trans hg)
    have Ka1 := Lib.hid (Ka0.out.gr hg)
    have Kb1 := Lib.hid (Kb0.out.gr hg)
    clear hg
    have ca0 := Ka1.out.c 0 _ rfl
    have ca1 := Ka1.out.c 1 _ rfl
    have la := Ka1.out.lt
    have cb0 := Kb1.out.c 0 _ rfl
    have cb1 := Kb1.out.c 1 _ rfl
    have lb := Kb1.out.lt
    go_wp2_with fail
    all_goals (try clear ca0 ca1 la cb0 cb1 lb)
    refine (Fits_no1 oa da ob db s _ H.out G.out f0).mono ?_
    rintro e w2 ⟨rfl, hg⟩
    have S2 := Lib.hid (S1.out.trans hg)
    have Ka2 := Lib.hid (Ka1.out.gr hg)
    have Kb2 := Lib.hid (Kb1.out.gr hg)
    clear hg
    have ca0 := Ka2.out.c 0 _ rfl
    have ca1 := Ka2.out.c 1 _ rfl
    have la := Ka2.out.lt
    have cb0 := Kb2.out.c 0 _ rfl
    have cb1 := Kb2.out.c 1 _ rfl
    have lb := Kb2.out.lt
    go_wp2_with fail
    all_goals (try clear ca0 ca1 la cb0 cb1 lb)
    refine (Late_ok oa da ob db s _ H.out G.out).mono ?_
    rintro e w3 ⟨rfl, hg⟩
    have S3 := Lib.hid (S2.out.trans hg)
    have Ka3 := Lib.hid (Ka2.out.gr hg)
    have Kb3 := Lib.hid (Kb2.out.gr hg)
    clear hg
    have ca0 := Ka3.out.c 0 _ rfl
    have ca1 := Ka3.out.c 1 _ rfl
    have la := Ka3.out.lt
    have cb0 := Kb3.out.c 0 _ rfl
    have cb1 := Kb3.out.c 1 _ rfl
    have lb := Kb3.out.lt
    go_wp2_with fail
    all_goals (try clear ca0 ca1 la cb0 cb1 lb)
    refine (Send_S oa da s _ H.out).mono ?_
    rintro e w4 ⟨rfl, hg⟩
    have S4 := Lib.hid (S3.out.trans hg)
    have Ka4 := Lib.hid (Ka3.out.gr hg)
    have Kb4 := Lib.hid (Kb3.out.gr hg)
    clear hg
    have ca0 := Ka4.out.c 0 _ rfl
    have ca1 := Ka4.out.c 1 _ rfl
    have la := Ka4.out.lt
    have cb0 := Kb4.out.c 0 _ rfl
    have cb1 := Kb4.out.c 1 _ rfl
    have lb := Kb4.out.lt
    go_wp2_with fail
    all_goals (try clear ca0 ca1 la cb0 cb1 lb)
    refine (Apart_ok oa da ob db (rch oa da (s * 10000 + 2120)) _ (inE_ok H.out).1 (inE_ok G.out).1 r0 r1).mono ?_
    rintro e w5 ⟨rfl, hg⟩
    have S5 := Lib.hid (S4.out.trans hg)
    have Ka5 := Lib.hid (Ka4.out.gr hg)
    have Kb5 := Lib.hid (Kb4.out.gr hg)
    clear hg
    have ca0 := Ka5.out.c 0 _ rfl
    have ca1 := Ka5.out.c 1 _ rfl
    have la := Ka5.out.lt
    have cb0 := Kb5.out.c 0 _ rfl
    have cb1 := Kb5.out.c 1 _ rfl
    have lb := Kb5.out.lt
    go_wp2_with fail
    all_goals (try clear ca0 ca1 la cb0 cb1 lb)
    refine (size9 (rd ob db (rch oa da (s * 10000 + 2120)) - (s * 10000 + 2120)) l _ (by omega) (by omega) HL.out).mono ?_
    rintro e w6 ⟨rfl, hg⟩
    have S6 := Lib.hid (S5.out.trans hg)
    have Ka6 := Lib.hid (Ka5.out.gr hg)
    have Kb6 := Lib.hid (Kb5.out.gr hg)
    clear hg
    have ca0 := Ka6.out.c 0 _ rfl
    have ca1 := Ka6.out.c 1 _ rfl
    have la := Ka6.out.lt
    have cb0 := Kb6.out.c 0 _ rfl
    have cb1 := Kb6.out.c 1 _ rfl
    have lb := Kb6.out.lt
    go_wp2_with fail
    all_goals (try clear ca0 ca1 la cb0 cb1 lb)
    refine (size9 (rd ob db (rch oa da (s * 10000 + 2120)) - rd oa da (rch oa da (s * 10000 + 2120))) m _ (by omega) (by omega) HM.out).mono ?_
    rintro e w7 ⟨rfl, hg⟩
    have S7 := Lib.hid (S6.out.trans hg)
    have Ka7 := Lib.hid (Ka6.out.gr hg)
    have Kb7 := Lib.hid (Kb6.out.gr hg)
    clear hg
    have ca0 := Ka7.out.c 0 _ rfl
    have ca1 := Ka7.out.c 1 _ rfl
    have la := Ka7.out.lt
    have cb0 := Kb7.out.c 0 _ rfl
    have cb1 := Kb7.out.c 1 _ rfl
    have lb := Kb7.out.lt
    go_wp2_with fail
    all_goals (try clear ca0 ca1 la cb0 cb1 lb)
    all_goals go_ret
    all_goals exact ⟨rfl, S7.out⟩


set_option maxHeartbeats 1000000 in
theorem GuardFits_no2_z (oa da ob db s : Int) (w : World) (h : inE oa da s 2120 = 0) (g : inE ob db s 3221 = 0) (f0 : rch ob db (s * 10000 + 1020) ≤ rch oa da (s * 10000 + 2120)) (f1 : rch ob db (s * 10000 + 3221) - 1 < rch oa da (s * 10000 + 2120)) (ht : rch oa da (s * 10000 + 2120) ≤ 0) (l : Int) (hl : l = max (rd ob db (rch oa da (s * 10000 + 2120)) - (s * 10000 + 2120)) (-(rd ob db (rch oa da (s * 10000 + 2120)) - (s * 10000 + 2120)))) :
    Calls Try.prog 24 #[.agg #[.int .i64 oa, .int .i64 da], .agg #[.int .i64 ob, .int .i64 db], .int .i64 s] w fun e w' => e = .returned (.bool true) ∧ Gr w w' := by
  have hr : IsRch oa da (s * 10000 + 2120) (rch oa da (s * 10000 + 2120)) := rch_is (inE_ok h).2.2
  have r0 := hr.lo
  have r1 := hr.hi
  clear hr
  have s0 := (inE_ok h).2.1.1
  have s1 := (inE_ok h).2.1.2
  have ba := rd_bd (inE_ok h).1 r0 r1
  have bb := rd_bd (inE_ok g).1 r0 r1
  have mt := fits_no2 g f1
  have H := Lib.hid h
  have G := Lib.hid g
  have HL := Lib.hid hl
  clear h g hl
  go_enter Try.func24, Try.ntmps24
  go_wp2_with fail
  have g0 : Gr w (((w).alloc (Obj.cells #[.int .i64 oa, .int .i64 da] 23)).alloc (Obj.cells #[.int .i64 ob, .int .i64 db] 23)) := Gr.alloc (Gr.alloc (Gr.refl w) _) _
  have ba : Bx (((w).alloc (Obj.cells #[.int .i64 oa, .int .i64 da] 23)).alloc (Obj.cells #[.int .i64 ob, .int .i64 db] 23)) (w.heap.size) [.int .i64 oa, .int .i64 da] := Bx.gr (Bx.at_ (Bx.new (w) [.int .i64 oa, .int .i64 da] 23) (by simp)) (Gr.alloc (Gr.refl _) _)
  have bb : Bx (((w).alloc (Obj.cells #[.int .i64 oa, .int .i64 da] 23)).alloc (Obj.cells #[.int .i64 ob, .int .i64 db] 23)) (w.heap.size + 1) [.int .i64 ob, .int .i64 db] := Bx.gr (Bx.at_ (Bx.new ((w).alloc (Obj.cells #[.int .i64 oa, .int .i64 da] 23)) [.int .i64 ob, .int .i64 db] 23) (by simp)) (Gr.refl _)
  generalize ((w).alloc (Obj.cells #[.int .i64 oa, .int .i64 da] 23)).alloc (Obj.cells #[.int .i64 ob, .int .i64 db] 23) = W at g0 ba bb ⊢
  have S0 := Lib.hid g0
  have Ka0 := Lib.hid ba
  have Kb0 := Lib.hid bb
  clear g0 ba bb
  refine (awake09 _).mono ?_
  rintro e w1 ⟨rfl, hg⟩
  have S1 := Lib.hid (S0.out.trans hg)
  have Ka1 := Lib.hid (Ka0.out.gr hg)
  have Kb1 := Lib.hid (Kb0.out.gr hg)
  clear hg
  have ca0 := Ka1.out.c 0 _ rfl
  have ca1 := Ka1.out.c 1 _ rfl
  have la := Ka1.out.lt
  have cb0 := Kb1.out.c 0 _ rfl
  have cb1 := Kb1.out.c 1 _ rfl
  have lb := Kb1.out.lt
  go_wp2_with fail
  all_goals (try clear ca0 ca1 la cb0 cb1 lb)
  refine (Fits_no2 oa da ob db s _ H.out G.out f0 f1).mono ?_
  rintro e w2 ⟨rfl, hg⟩
  have S2 := Lib.hid (S1.out.trans hg)
  have Ka2 := Lib.hid (Ka1.out.gr hg)
  have Kb2 := Lib.hid (Kb1.out.gr hg)
  clear hg
  have ca0 := Ka2.out.c 0 _ rfl
  have ca1 := Ka2.out.c 1 _ rfl
  have la := Ka2.out.lt
  have cb0 := Kb2.out.c 0 _ rfl
  have cb1 := Kb2.out.c 1 _ rfl
  have lb := Kb2.out.lt
  go_wp2_with fail
  all_goals (try clear ca0 ca1 la cb0 cb1 lb)
  refine (Late_ok oa da ob db s _ H.out G.out).mono ?_
  rintro e w3 ⟨rfl, hg⟩
  have S3 := Lib.hid (S2.out.trans hg)
  have Ka3 := Lib.hid (Ka2.out.gr hg)
  have Kb3 := Lib.hid (Kb2.out.gr hg)
  clear hg
  have ca0 := Ka3.out.c 0 _ rfl
  have ca1 := Ka3.out.c 1 _ rfl
  have la := Ka3.out.lt
  have cb0 := Kb3.out.c 0 _ rfl
  have cb1 := Kb3.out.c 1 _ rfl
  have lb := Kb3.out.lt
  go_wp2_with fail
  all_goals (try clear ca0 ca1 la cb0 cb1 lb)
  refine (Send_S oa da s _ H.out).mono ?_
  rintro e w4 ⟨rfl, hg⟩
  have S4 := Lib.hid (S3.out.trans hg)
  have Ka4 := Lib.hid (Ka3.out.gr hg)
  have Kb4 := Lib.hid (Kb3.out.gr hg)
  clear hg
  have ca0 := Ka4.out.c 0 _ rfl
  have ca1 := Ka4.out.c 1 _ rfl
  have la := Ka4.out.lt
  have cb0 := Kb4.out.c 0 _ rfl
  have cb1 := Kb4.out.c 1 _ rfl
  have lb := Kb4.out.lt
  go_wp2_with fail
  all_goals (try clear ca0 ca1 la cb0 cb1 lb)
  refine (Apart_ok oa da ob db (rch oa da (s * 10000 + 2120)) _ (inE_ok H.out).1 (inE_ok G.out).1 r0 r1).mono ?_
  rintro e w5 ⟨rfl, hg⟩
  have S5 := Lib.hid (S4.out.trans hg)
  have Ka5 := Lib.hid (Ka4.out.gr hg)
  have Kb5 := Lib.hid (Kb4.out.gr hg)
  clear hg
  have ca0 := Ka5.out.c 0 _ rfl
  have ca1 := Ka5.out.c 1 _ rfl
  have la := Ka5.out.lt
  have cb0 := Kb5.out.c 0 _ rfl
  have cb1 := Kb5.out.c 1 _ rfl
  have lb := Kb5.out.lt
  go_wp2_with fail
  all_goals (try clear ca0 ca1 la cb0 cb1 lb)
  refine (size9 (rd ob db (rch oa da (s * 10000 + 2120)) - (s * 10000 + 2120)) l _ (by omega) (by omega) HL.out).mono ?_
  rintro e w6 ⟨rfl, hg⟩
  have S6 := Lib.hid (S5.out.trans hg)
  have Ka6 := Lib.hid (Ka5.out.gr hg)
  have Kb6 := Lib.hid (Kb5.out.gr hg)
  clear hg
  have ca0 := Ka6.out.c 0 _ rfl
  have ca1 := Ka6.out.c 1 _ rfl
  have la := Ka6.out.lt
  have cb0 := Kb6.out.c 0 _ rfl
  have cb1 := Kb6.out.c 1 _ rfl
  have lb := Kb6.out.lt
  go_wp2_with fail
  all_goals (try clear ca0 ca1 la cb0 cb1 lb)
  all_goals go_ret
  all_goals exact ⟨rfl, S6.out⟩


set_option maxHeartbeats 1000000 in
theorem GuardFits_no2_p (oa da ob db s : Int) (w : World) (h : inE oa da s 2120 = 0) (g : inE ob db s 3221 = 0) (f0 : rch ob db (s * 10000 + 1020) ≤ rch oa da (s * 10000 + 2120)) (f1 : rch ob db (s * 10000 + 3221) - 1 < rch oa da (s * 10000 + 2120)) (ht : 0 < rch oa da (s * 10000 + 2120)) (l m : Int) (hl : l = max (rd ob db (rch oa da (s * 10000 + 2120)) - (s * 10000 + 2120)) (-(rd ob db (rch oa da (s * 10000 + 2120)) - (s * 10000 + 2120)))) (hm : m = max (rd ob db (rch oa da (s * 10000 + 2120)) - rd oa da (rch oa da (s * 10000 + 2120))) (-(rd ob db (rch oa da (s * 10000 + 2120)) - rd oa da (rch oa da (s * 10000 + 2120))))) :
    Calls Try.prog 24 #[.agg #[.int .i64 oa, .int .i64 da], .agg #[.int .i64 ob, .int .i64 db], .int .i64 s] w fun e w' => e = .returned (.bool true) ∧ Gr w w' := by
  have hr : IsRch oa da (s * 10000 + 2120) (rch oa da (s * 10000 + 2120)) := rch_is (inE_ok h).2.2
  have r0 := hr.lo
  have r1 := hr.hi
  clear hr
  have s0 := (inE_ok h).2.1.1
  have s1 := (inE_ok h).2.1.2
  have ba := rd_bd (inE_ok h).1 r0 r1
  have bb := rd_bd (inE_ok g).1 r0 r1
  have mt := fits_no2 g f1
  have sb := send_bd h ht
  have m1 : 1098 < m := by omega
  have H := Lib.hid h
  have G := Lib.hid g
  have HL := Lib.hid hl
  have HM := Lib.hid hm
  clear h g hl hm
  rcases (show l ≤ 1101 ∨ 1101 < l by omega) with l1 | l1
  all_goals
    go_enter Try.func24, Try.ntmps24
    go_wp2_with fail
    have g0 : Gr w (((w).alloc (Obj.cells #[.int .i64 oa, .int .i64 da] 23)).alloc (Obj.cells #[.int .i64 ob, .int .i64 db] 23)) := Gr.alloc (Gr.alloc (Gr.refl w) _) _
    have ba : Bx (((w).alloc (Obj.cells #[.int .i64 oa, .int .i64 da] 23)).alloc (Obj.cells #[.int .i64 ob, .int .i64 db] 23)) (w.heap.size) [.int .i64 oa, .int .i64 da] := Bx.gr (Bx.at_ (Bx.new (w) [.int .i64 oa, .int .i64 da] 23) (by simp)) (Gr.alloc (Gr.refl _) _)
    have bb : Bx (((w).alloc (Obj.cells #[.int .i64 oa, .int .i64 da] 23)).alloc (Obj.cells #[.int .i64 ob, .int .i64 db] 23)) (w.heap.size + 1) [.int .i64 ob, .int .i64 db] := Bx.gr (Bx.at_ (Bx.new ((w).alloc (Obj.cells #[.int .i64 oa, .int .i64 da] 23)) [.int .i64 ob, .int .i64 db] 23) (by simp)) (Gr.refl _)
    generalize ((w).alloc (Obj.cells #[.int .i64 oa, .int .i64 da] 23)).alloc (Obj.cells #[.int .i64 ob, .int .i64 db] 23) = W at g0 ba bb ⊢
    have S0 := Lib.hid g0
    have Ka0 := Lib.hid ba
    have Kb0 := Lib.hid bb
    clear g0 ba bb
    refine (awake09 _).mono ?_
    rintro e w1 ⟨rfl, hg⟩
    have S1 := Lib.hid (S0.out.trans hg)
    have Ka1 := Lib.hid (Ka0.out.gr hg)
    have Kb1 := Lib.hid (Kb0.out.gr hg)
    clear hg
    have ca0 := Ka1.out.c 0 _ rfl
    have ca1 := Ka1.out.c 1 _ rfl
    have la := Ka1.out.lt
    have cb0 := Kb1.out.c 0 _ rfl
    have cb1 := Kb1.out.c 1 _ rfl
    have lb := Kb1.out.lt
    go_wp2_with fail
    all_goals (try clear ca0 ca1 la cb0 cb1 lb)
    refine (Fits_no2 oa da ob db s _ H.out G.out f0 f1).mono ?_
    rintro e w2 ⟨rfl, hg⟩
    have S2 := Lib.hid (S1.out.trans hg)
    have Ka2 := Lib.hid (Ka1.out.gr hg)
    have Kb2 := Lib.hid (Kb1.out.gr hg)
    clear hg
    have ca0 := Ka2.out.c 0 _ rfl
    have ca1 := Ka2.out.c 1 _ rfl
    have la := Ka2.out.lt
    have cb0 := Kb2.out.c 0 _ rfl
    have cb1 := Kb2.out.c 1 _ rfl
    have lb := Kb2.out.lt
    go_wp2_with fail
    all_goals (try clear ca0 ca1 la cb0 cb1 lb)
    refine (Late_ok oa da ob db s _ H.out G.out).mono ?_
    rintro e w3 ⟨rfl, hg⟩
    have S3 := Lib.hid (S2.out.trans hg)
    have Ka3 := Lib.hid (Ka2.out.gr hg)
    have Kb3 := Lib.hid (Kb2.out.gr hg)
    clear hg
    have ca0 := Ka3.out.c 0 _ rfl
    have ca1 := Ka3.out.c 1 _ rfl
    have la := Ka3.out.lt
    have cb0 := Kb3.out.c 0 _ rfl
    have cb1 := Kb3.out.c 1 _ rfl
    have lb := Kb3.out.lt
    go_wp2_with fail
    all_goals (try clear ca0 ca1 la cb0 cb1 lb)
    refine (Send_S oa da s _ H.out).mono ?_
    rintro e w4 ⟨rfl, hg⟩
    have S4 := Lib.hid (S3.out.trans hg)
    have Ka4 := Lib.hid (Ka3.out.gr hg)
    have Kb4 := Lib.hid (Kb3.out.gr hg)
    clear hg
    have ca0 := Ka4.out.c 0 _ rfl
    have ca1 := Ka4.out.c 1 _ rfl
    have la := Ka4.out.lt
    have cb0 := Kb4.out.c 0 _ rfl
    have cb1 := Kb4.out.c 1 _ rfl
    have lb := Kb4.out.lt
    go_wp2_with fail
    all_goals (try clear ca0 ca1 la cb0 cb1 lb)
    refine (Apart_ok oa da ob db (rch oa da (s * 10000 + 2120)) _ (inE_ok H.out).1 (inE_ok G.out).1 r0 r1).mono ?_
    rintro e w5 ⟨rfl, hg⟩
    have S5 := Lib.hid (S4.out.trans hg)
    have Ka5 := Lib.hid (Ka4.out.gr hg)
    have Kb5 := Lib.hid (Kb4.out.gr hg)
    clear hg
    have ca0 := Ka5.out.c 0 _ rfl
    have ca1 := Ka5.out.c 1 _ rfl
    have la := Ka5.out.lt
    have cb0 := Kb5.out.c 0 _ rfl
    have cb1 := Kb5.out.c 1 _ rfl
    have lb := Kb5.out.lt
    go_wp2_with fail
    all_goals (try clear ca0 ca1 la cb0 cb1 lb)
    refine (size9 (rd ob db (rch oa da (s * 10000 + 2120)) - (s * 10000 + 2120)) l _ (by omega) (by omega) HL.out).mono ?_
    rintro e w6 ⟨rfl, hg⟩
    have S6 := Lib.hid (S5.out.trans hg)
    have Ka6 := Lib.hid (Ka5.out.gr hg)
    have Kb6 := Lib.hid (Kb5.out.gr hg)
    clear hg
    have ca0 := Ka6.out.c 0 _ rfl
    have ca1 := Ka6.out.c 1 _ rfl
    have la := Ka6.out.lt
    have cb0 := Kb6.out.c 0 _ rfl
    have cb1 := Kb6.out.c 1 _ rfl
    have lb := Kb6.out.lt
    go_wp2_with fail
    all_goals (try clear ca0 ca1 la cb0 cb1 lb)
    refine (size9 (rd ob db (rch oa da (s * 10000 + 2120)) - rd oa da (rch oa da (s * 10000 + 2120))) m _ (by omega) (by omega) HM.out).mono ?_
    rintro e w7 ⟨rfl, hg⟩
    have S7 := Lib.hid (S6.out.trans hg)
    have Ka7 := Lib.hid (Ka6.out.gr hg)
    have Kb7 := Lib.hid (Kb6.out.gr hg)
    clear hg
    have ca0 := Ka7.out.c 0 _ rfl
    have ca1 := Ka7.out.c 1 _ rfl
    have la := Ka7.out.lt
    have cb0 := Kb7.out.c 0 _ rfl
    have cb1 := Kb7.out.c 1 _ rfl
    have lb := Kb7.out.lt
    go_wp2_with fail
    all_goals (try clear ca0 ca1 la cb0 cb1 lb)
    all_goals go_ret
    all_goals exact ⟨rfl, S7.out⟩


theorem GuardFits_walk (oa da ob db s : Int) (w : World) :
    Calls Try.prog 24 #[.agg #[.int .i64 oa, .int .i64 da], .agg #[.int .i64 ob, .int .i64 db], .int .i64 s] w fun e w' => e = .returned (.bool true) ∧ Gr w w' := by
  by_cases h : inE oa da s 2120 = 0
  · by_cases g : inE ob db s 3221 = 0
    · obtain ⟨l, hl⟩ : ∃ l, l = max (rd ob db (rch oa da (s * 10000 + 2120)) - (s * 10000 + 2120)) (-(rd ob db (rch oa da (s * 10000 + 2120)) - (s * 10000 + 2120))) := ⟨_, rfl⟩
      obtain ⟨m, hm⟩ : ∃ m, m = max (rd ob db (rch oa da (s * 10000 + 2120)) - rd oa da (rch oa da (s * 10000 + 2120))) (-(rd ob db (rch oa da (s * 10000 + 2120)) - rd oa da (rch oa da (s * 10000 + 2120)))) := ⟨_, rfl⟩
      by_cases f0 : rch ob db (s * 10000 + 1020) ≤ rch oa da (s * 10000 + 2120)
      · by_cases f1 : rch oa da (s * 10000 + 2120) ≤ rch ob db (s * 10000 + 3221) - 1
        · by_cases ht : 0 < rch oa da (s * 10000 + 2120)
          · exact GuardFits_yes_p oa da ob db s w h g f0 f1 ht l m hl hm
          · exact GuardFits_yes_z oa da ob db s w h g f0 f1 (by omega) l hl
        · by_cases ht : 0 < rch oa da (s * 10000 + 2120)
          · exact GuardFits_no2_p oa da ob db s w h g f0 (by omega) ht l m hl hm
          · exact GuardFits_no2_z oa da ob db s w h g f0 (by omega) (by omega) l hl
      · by_cases ht : 0 < rch oa da (s * 10000 + 2120)
        · exact GuardFits_no1_p oa da ob db s w h g (by omega) ht l m hl hm
        · exact GuardFits_no1_z oa da ob db s w h g (by omega) (by omega) l hl
    · exact GuardFits_E2 oa da ob db s w h g
  · exact GuardFits_E1 oa da ob db s w h
set_option maxRecDepth 100000 in
set_option maxHeartbeats 1000000 in
theorem GuardFits_lifted (os : Os) (started : os.Started) (H : Type) (enc : TypeId × Value → H) :
    ReturnsInHanded {} Try.checked os 24 .any (Rows.guardFitsSpec.pre6 enc Try.prog Try.f24 Rows.guardFitsRow.domain false) (Rows.guardFitsSpec.post enc Try.prog Try.f24 false true false false) := by
  refine returnsInHanded_of_change (C := Try.checked) Try.own started (by kernel_rfl) Try.func24
    (ChangeSpec.witness6 (enc := enc) (C := Try.checked) false ⟨#[], #[.agg #[.int .i64 0, .int .i64 0], .agg #[.int .i64 0, .int .i64 0], .int .i64 0], []⟩ 8 (by kernel_rfl) (by kernel_rfl) (by kernel_rfl) (by kernel_rfl)) ?_
  intro W base args ds gs before hval0 hW hcnd _
  have hval : ∀ (j : Nat) t v, Try.f24.params[j]? = some t → args[j]? = some v → Value.okWide Try.prog W .any base t v := hval0
  have hW' := hW
  obtain ⟨p, q, hA0, hV, rfl, hfz, hnd⟩ := hW
  have hA : DataW.TrodAll enc Try.prog W 0 (fun _ => true) true Try.f24.params.toList args.toList ds p := hA0
  rw [Try.params24] at hA hval
  have hAk := hA
  obtain ⟨v0, vs0, d0, ds0, p0, q0, hargs, rfl, rfl, h0, r0⟩ := trodAll_cons hA
  obtain ⟨v1, vs1, d1, ds1, p1, q1, rfl, rfl, rfl, h1, r1⟩ := trodAll_cons r0
  obtain ⟨v2, vs2, d2, ds2, p2, q2, rfl, rfl, rfl, h2, r2⟩ := trodAll_cons r1
  obtain ⟨rfl, rfl, rfl⟩ := trodAll_nil r2
  obtain rfl : args = #[v0, v1, v2] := by cases args; simp_all
  obtain ⟨rfl, rfl⟩ := trodVars_none hV
  obtain ⟨c00, c01, y00, y01, m0, rfl, rfl, rfl, hy00, hy01⟩ := open_agg2 Try.underlying23 (by kernel_rfl) Try.cells23 (hval 0 23 v0 rfl rfl) h0
  obtain ⟨oa, e00, rfl, wfoa⟩ := DataW.trod_int Try.underlying3 hy00
  obtain ⟨da, e01, rfl, wfda⟩ := DataW.trod_int Try.underlying3 hy01
  simp at e00 e01
  subst e00 e01
  obtain ⟨c10, c11, y10, y11, m1, rfl, rfl, rfl, hy10, hy11⟩ := open_agg2 Try.underlying23 (by kernel_rfl) Try.cells23 (hval 1 23 v1 rfl rfl) h1
  obtain ⟨ob, e10, rfl, wfob⟩ := DataW.trod_int Try.underlying3 hy10
  obtain ⟨db, e11, rfl, wfdb⟩ := DataW.trod_int Try.underlying3 hy11
  simp at e10 e11
  subst e10 e11
  obtain ⟨s, rfl, rfl, rfl, wfs⟩ := open_int Try.underlying3 (hval 2 3 v2 rfl rfl) h2
  clear hA0 hval0
  simp only [List.append_nil] at hW'
  refine (GuardFits_walk oa da ob db s W).mono fun e W' ⟨he, hg⟩ => ?_
  subst he
  have hb : Below W.heap.size W W' := hg
  exact ⟨_, rfl, _, _, _, [], _, [], hW', trodAll_mk1 (shut_bool Try.underlying4 _), trodAll_stays Try.laidOut hb _ _ _ _ (by intro t ht; simp at ht; rcases ht with rfl | rfl | rfl <;> exact ⟨by kernel_rfl, of_decide_eq_true (by kernel_rfl)⟩) hAk (fun x hx => by simpa using hW'.lt x (by simpa using hx)), rfl, hb.frame _, fun h => by cases h⟩

theorem GuardFits_closed : joinedFacts Try.pinned.checked.prog 24 Try.f24 Rows.guardFitsSpec Rows.guardFitsRow = true := by
  unfold joinedFacts
  exact (and_tt (and_tt (and_tt (and_tt (and_tt (and_tt (and_tt (and_tt (and_tt (and_tt (and_tt (and_tt (and_tt (and_tt (and_tt (and_tt (and_tt (and_tt (and_tt (and_tt (and_tt (and_tt (and_tt (and_tt (and_tt (and_tt (and_tt (and_tt (and_tt (and_tt (and_tt (by as_aux_lemma => kernel_rfl) (J_laid)) (J_maps)) (by as_aux_lemma => kernel_rfl)) (by as_aux_lemma => kernel_rfl)) (by as_aux_lemma => kernel_rfl)) (J_stops)) (by as_aux_lemma => kernel_rfl)) (J_knobs)) (by as_aux_lemma => kernel_rfl)) (by as_aux_lemma => kernel_rfl)) (by as_aux_lemma => kernel_rfl)) (by as_aux_lemma => kernel_rfl)) (by as_aux_lemma => kernel_rfl)) (by as_aux_lemma => kernel_rfl)) (by as_aux_lemma => kernel_rfl)) (by as_aux_lemma => kernel_rfl)) (by as_aux_lemma => kernel_rfl)) (by as_aux_lemma => kernel_rfl)) (by as_aux_lemma => kernel_rfl)) (by as_aux_lemma => kernel_rfl)) (by as_aux_lemma => kernel_rfl)) (J_keys)) (by as_aux_lemma => kernel_rfl)) (J_heard)) (J_enter)) (J_lifts)) (J_make)) (by as_aux_lemma => kernel_rfl)) (by as_aux_lemma => kernel_rfl)) (by as_aux_lemma => kernel_rfl)) (by as_aux_lemma => kernel_rfl))

/-- THE STATEMENT GuardFits. -/
theorem GuardFits_holds : Rows.GuardFitsSaid :=
  OpenClaim.holds_of_wide 24 Try.f24 rfl rfl rfl rfl rfl rfl rfl ⟨rfl, rfl, rfl, rfl, rfl⟩ rfl rfl rfl rfl rfl (by kernel_rfl) Try.func24 GuardFits_closed
    (of_decide_eq_true (by kernel_rfl)) (by unfold Func.isWrapper; rw [if_neg (of_decide_eq_false (by kernel_rfl))]; exact ⟨rfl, rfl⟩)
    (fun os started H enc _ => GuardFits_lifted os started H enc)
#print axioms GuardFits_holds
end Go.Proofs.Ytpnigndobhbfnaa
