/- The walks of package guard and its reference, third part: End, Fits, Late. -/
import Derived.Test.YtpnigndobhbfnaaGrdB
namespace Go.Proofs.Ytpnigndobhbfnaa
open Go.RowKit
theorem inE_ok {o d s x : Int} (h : inE o d s x = 0) : Vc o d ∧ inSlot s ∧ s * 10000 + x ≤ rd o d 1099511627776 := by
  unfold inE at h
  by_cases hv : Vc o d
  · rw [if_pos hv] at h
    by_cases hs : inSlot s
    · rw [if_pos hs] at h
      by_cases hx : s * 10000 + x ≤ rd o d 1099511627776
      · exact ⟨hv, hs, hx⟩
      · rw [if_neg hx] at h; omega
    · rw [if_neg hs] at h; omega
  · rw [if_neg hv] at h; omega
theorem inE_mk {o d s x : Int} (h : Vc o d ∧ inSlot s ∧ s * 10000 + x ≤ rd o d 1099511627776) : inE o d s x = 0 := by
  unfold inE; rw [if_pos h.1, if_pos h.2.1, if_pos h.2.2]
theorem inN_no {o d s x : Int} (h : inE o d s x ≠ 0) : inN o d s x = 0 := by
  unfold inN; rw [if_neg (fun hc => h (inE_mk hc))]
theorem wi_no {o d s : Int} (h : inE o d s 3221 ≠ 0) : wi0 o d s = 0 ∧ wi1 o d s = 0 := by
  unfold wi0 wi1; rw [if_neg h, if_neg h]; exact ⟨rfl, rfl⟩

theorem Send_S (o d s : Int) (w : World) (h : inE o d s 2120 = 0) : Calls Try.prog 37 #[.agg #[.int .i64 o, .int .i64 d], .int .i64 s] w fun e w' => e = .returned (.tuple #[.int .i64 (rch o d (s * 10000 + 2120)), .int .i64 0]) ∧ Gr w w' := by
  obtain ⟨hv, hs, hx⟩ := inE_ok h
  exact Send_ok o d s w hv hs.1 hs.2 hx
theorem Send_E (o d s : Int) (w : World) (h : inE o d s 2120 ≠ 0) : Calls Try.prog 37 #[.agg #[.int .i64 o, .int .i64 d], .int .i64 s] w fun e w' => e = .returned (.tuple #[.int .i64 0, .int .i64 (inE o d s 2120)]) ∧ Gr w w' := by
  have := Send_any o d s w
  rwa [inN_no h] at this
theorem Window_S (o d s : Int) (w : World) (h : inE o d s 3221 = 0) : Calls Try.prog 39 #[.agg #[.int .i64 o, .int .i64 d], .int .i64 s] w fun e w' => e = .returned (.tuple #[.int .i64 (rch o d (s * 10000 + 1020)), .int .i64 (rch o d (s * 10000 + 3221) - 1), .int .i64 0]) ∧ Gr w w' := by
  obtain ⟨hv, hs, hx⟩ := inE_ok h
  exact Window_ok o d s w hv hs.1 hs.2 hx
theorem Window_E (o d s : Int) (w : World) (h : inE o d s 3221 ≠ 0) : Calls Try.prog 39 #[.agg #[.int .i64 o, .int .i64 d], .int .i64 s] w fun e w' => e = .returned (.tuple #[.int .i64 0, .int .i64 0, .int .i64 (inE o d s 3221)]) ∧ Gr w w' := by
  have := Window_any o d s w
  rwa [(wi_no h).1, (wi_no h).2] at this

theorem rSend_S (o d s : Int) (w : World) (h : inE o d s 2120 = 0) : Calls Try.prog 38 #[.agg #[.int .i64 o, .int .i64 d], .int .i64 s] w fun e w' => e = .returned (.tuple #[.int .i64 (rch o d (s * 10000 + 2120)), .int .i64 0]) ∧ Gr w w' := by
  obtain ⟨hv, hs, hx⟩ := inE_ok h
  exact rSend_ok o d s w hv hs.1 hs.2 hx
theorem rSend_E (o d s : Int) (w : World) (h : inE o d s 2120 ≠ 0) : Calls Try.prog 38 #[.agg #[.int .i64 o, .int .i64 d], .int .i64 s] w fun e w' => e = .returned (.tuple #[.int .i64 0, .int .i64 (inE o d s 2120)]) ∧ Gr w w' := by
  have := rSend_any o d s w
  rwa [inN_no h] at this
theorem rWindow_S (o d s : Int) (w : World) (h : inE o d s 3221 = 0) : Calls Try.prog 40 #[.agg #[.int .i64 o, .int .i64 d], .int .i64 s] w fun e w' => e = .returned (.tuple #[.int .i64 (rch o d (s * 10000 + 1020)), .int .i64 (rch o d (s * 10000 + 3221) - 1), .int .i64 0]) ∧ Gr w w' := by
  obtain ⟨hv, hs, hx⟩ := inE_ok h
  exact rWindow_ok o d s w hv hs.1 hs.2 hx
theorem rWindow_E (o d s : Int) (w : World) (h : inE o d s 3221 ≠ 0) : Calls Try.prog 40 #[.agg #[.int .i64 o, .int .i64 d], .int .i64 s] w fun e w' => e = .returned (.tuple #[.int .i64 0, .int .i64 0, .int .i64 (inE o d s 3221)]) ∧ Gr w w' := by
  have := rWindow_any o d s w
  rwa [(wi_no h).1, (wi_no h).2] at this

theorem results_four {fn : Func} {t u v x : Tmp} (h : fn.results = #[.tmp t, .tmp u, .tmp v, .tmp x]) (tmps : Array Value) (P : Program) (w : World) :
    (results fn tmps).run P w = .ok (.tuple #[tmps.getD t undef, tmps.getD u undef, tmps.getD v undef, tmps.getD x undef]) w := by simp [results, h]

set_option maxHeartbeats 400000 in
theorem End_E (o d s : Int) (w : World) (h : inE o d s 2120 ≠ 0) :
    Calls Try.prog 81 #[.agg #[.int .i64 o, .int .i64 d], .int .i64 s] w fun e w' => e = .returned (.tuple #[.int .i64 0, .int .i64 (inE o d s 2120)]) ∧ Gr w w' := by
  go_enter Try.func81, Try.ntmps81
  go_wp2_with fail
  have g0 : Gr w ((w).alloc (Obj.cells #[.int .i64 o, .int .i64 d] 23)) := Gr.alloc (Gr.refl w) _
  have ba : Bx ((w).alloc (Obj.cells #[.int .i64 o, .int .i64 d] 23)) (w.heap.size) [.int .i64 o, .int .i64 d] := Bx.gr (Bx.at_ (Bx.new (w) [.int .i64 o, .int .i64 d] 23) (by simp)) (Gr.refl _)
  generalize (w).alloc (Obj.cells #[.int .i64 o, .int .i64 d] 23) = W at g0 ba ⊢
  have S0 := Lib.hid g0
  have Ka0 := Lib.hid ba
  clear g0 ba
  refine (Send_E o d s _ h).mono ?_
  rintro e w1 ⟨rfl, hg⟩
  have S1 := Lib.hid (S0.out.trans hg)
  have Ka1 := Lib.hid (Ka0.out.gr hg)
  clear hg
  have ca0 := Ka1.out.c 0 _ rfl
  have ca1 := Ka1.out.c 1 _ rfl
  have la := Ka1.out.lt
  go_wp2_with fail
  all_goals (try clear ca0 ca1 la)
  all_goals go_ret2
  all_goals exact ⟨rfl, S1.out⟩


set_option maxHeartbeats 400000 in
theorem End_late (o d s : Int) (w : World) (h : inE o d s 2120 = 0) (hl : 1099511627776 < rch o d (s * 10000 + 2120) + 6088) :
    Calls Try.prog 81 #[.agg #[.int .i64 o, .int .i64 d], .int .i64 s] w fun e w' => e = .returned (.tuple #[.int .i64 0, .int .i64 15]) ∧ Gr w w' := by
  have hr : IsRch o d (s * 10000 + 2120) (rch o d (s * 10000 + 2120)) := rch_is (inE_ok h).2.2
  have r0 := hr.lo
  have r1 := hr.hi
  clear hr
  have H := Lib.hid h
  clear h
  go_enter Try.func81, Try.ntmps81
  go_wp2_with fail
  have g0 : Gr w ((w).alloc (Obj.cells #[.int .i64 o, .int .i64 d] 23)) := Gr.alloc (Gr.refl w) _
  have ba : Bx ((w).alloc (Obj.cells #[.int .i64 o, .int .i64 d] 23)) (w.heap.size) [.int .i64 o, .int .i64 d] := Bx.gr (Bx.at_ (Bx.new (w) [.int .i64 o, .int .i64 d] 23) (by simp)) (Gr.refl _)
  generalize (w).alloc (Obj.cells #[.int .i64 o, .int .i64 d] 23) = W at g0 ba ⊢
  have S0 := Lib.hid g0
  have Ka0 := Lib.hid ba
  clear g0 ba
  refine (Send_S o d s _ H.out).mono ?_
  rintro e w1 ⟨rfl, hg⟩
  have S1 := Lib.hid (S0.out.trans hg)
  have Ka1 := Lib.hid (Ka0.out.gr hg)
  clear hg
  have ca0 := Ka1.out.c 0 _ rfl
  have ca1 := Ka1.out.c 1 _ rfl
  have la := Ka1.out.lt
  go_wp2_with fail
  all_goals (try clear ca0 ca1 la)
  all_goals go_ret2
  all_goals exact ⟨rfl, S1.out⟩


set_option maxHeartbeats 400000 in
theorem End_ok (o d s : Int) (w : World) (h : inE o d s 2120 = 0) (hl : rch o d (s * 10000 + 2120) + 6088 ≤ 1099511627776) :
    Calls Try.prog 81 #[.agg #[.int .i64 o, .int .i64 d], .int .i64 s] w fun e w' => e = .returned (.tuple #[.int .i64 (rch o d (s * 10000 + 2120) + 6088), .int .i64 0]) ∧ Gr w w' := by
  have hr : IsRch o d (s * 10000 + 2120) (rch o d (s * 10000 + 2120)) := rch_is (inE_ok h).2.2
  have r0 := hr.lo
  have r1 := hr.hi
  clear hr
  have H := Lib.hid h
  clear h
  go_enter Try.func81, Try.ntmps81
  go_wp2_with fail
  have g0 : Gr w ((w).alloc (Obj.cells #[.int .i64 o, .int .i64 d] 23)) := Gr.alloc (Gr.refl w) _
  have ba : Bx ((w).alloc (Obj.cells #[.int .i64 o, .int .i64 d] 23)) (w.heap.size) [.int .i64 o, .int .i64 d] := Bx.gr (Bx.at_ (Bx.new (w) [.int .i64 o, .int .i64 d] 23) (by simp)) (Gr.refl _)
  generalize (w).alloc (Obj.cells #[.int .i64 o, .int .i64 d] 23) = W at g0 ba ⊢
  have S0 := Lib.hid g0
  have Ka0 := Lib.hid ba
  clear g0 ba
  refine (Send_S o d s _ H.out).mono ?_
  rintro e w1 ⟨rfl, hg⟩
  have S1 := Lib.hid (S0.out.trans hg)
  have Ka1 := Lib.hid (Ka0.out.gr hg)
  clear hg
  have ca0 := Ka1.out.c 0 _ rfl
  have ca1 := Ka1.out.c 1 _ rfl
  have la := Ka1.out.lt
  go_wp2_with fail
  all_goals (try clear ca0 ca1 la)
  all_goals go_ret2
  all_goals exact ⟨rfl, S1.out⟩


set_option maxHeartbeats 400000 in
theorem rEnd_E (o d s : Int) (w : World) (h : inE o d s 2120 ≠ 0) :
    Calls Try.prog 84 #[.agg #[.int .i64 o, .int .i64 d], .int .i64 s] w fun e w' => e = .returned (.tuple #[.int .i64 0, .int .i64 (inE o d s 2120)]) ∧ Gr w w' := by
  go_enter Try.func84, Try.ntmps84
  go_wp2_with fail
  have g0 : Gr w ((w).alloc (Obj.cells #[.int .i64 o, .int .i64 d] 23)) := Gr.alloc (Gr.refl w) _
  have ba : Bx ((w).alloc (Obj.cells #[.int .i64 o, .int .i64 d] 23)) (w.heap.size) [.int .i64 o, .int .i64 d] := Bx.gr (Bx.at_ (Bx.new (w) [.int .i64 o, .int .i64 d] 23) (by simp)) (Gr.refl _)
  generalize (w).alloc (Obj.cells #[.int .i64 o, .int .i64 d] 23) = W at g0 ba ⊢
  have S0 := Lib.hid g0
  have Ka0 := Lib.hid ba
  clear g0 ba
  refine (rSend_E o d s _ h).mono ?_
  rintro e w1 ⟨rfl, hg⟩
  have S1 := Lib.hid (S0.out.trans hg)
  have Ka1 := Lib.hid (Ka0.out.gr hg)
  clear hg
  have ca0 := Ka1.out.c 0 _ rfl
  have ca1 := Ka1.out.c 1 _ rfl
  have la := Ka1.out.lt
  go_wp2_with fail
  all_goals (try clear ca0 ca1 la)
  all_goals go_ret2
  all_goals exact ⟨rfl, S1.out⟩


set_option maxHeartbeats 400000 in
theorem rEnd_late (o d s : Int) (w : World) (h : inE o d s 2120 = 0) (hl : 1099511627776 < rch o d (s * 10000 + 2120) + 6088) :
    Calls Try.prog 84 #[.agg #[.int .i64 o, .int .i64 d], .int .i64 s] w fun e w' => e = .returned (.tuple #[.int .i64 0, .int .i64 15]) ∧ Gr w w' := by
  have hr : IsRch o d (s * 10000 + 2120) (rch o d (s * 10000 + 2120)) := rch_is (inE_ok h).2.2
  have r0 := hr.lo
  have r1 := hr.hi
  clear hr
  have H := Lib.hid h
  clear h
  go_enter Try.func84, Try.ntmps84
  go_wp2_with fail
  have g0 : Gr w ((w).alloc (Obj.cells #[.int .i64 o, .int .i64 d] 23)) := Gr.alloc (Gr.refl w) _
  have ba : Bx ((w).alloc (Obj.cells #[.int .i64 o, .int .i64 d] 23)) (w.heap.size) [.int .i64 o, .int .i64 d] := Bx.gr (Bx.at_ (Bx.new (w) [.int .i64 o, .int .i64 d] 23) (by simp)) (Gr.refl _)
  generalize (w).alloc (Obj.cells #[.int .i64 o, .int .i64 d] 23) = W at g0 ba ⊢
  have S0 := Lib.hid g0
  have Ka0 := Lib.hid ba
  clear g0 ba
  refine (rSend_S o d s _ H.out).mono ?_
  rintro e w1 ⟨rfl, hg⟩
  have S1 := Lib.hid (S0.out.trans hg)
  have Ka1 := Lib.hid (Ka0.out.gr hg)
  clear hg
  have ca0 := Ka1.out.c 0 _ rfl
  have ca1 := Ka1.out.c 1 _ rfl
  have la := Ka1.out.lt
  go_wp2_with fail
  all_goals (try clear ca0 ca1 la)
  all_goals go_ret2
  all_goals exact ⟨rfl, S1.out⟩


set_option maxHeartbeats 400000 in
theorem rEnd_ok (o d s : Int) (w : World) (h : inE o d s 2120 = 0) (hl : rch o d (s * 10000 + 2120) + 6088 ≤ 1099511627776) :
    Calls Try.prog 84 #[.agg #[.int .i64 o, .int .i64 d], .int .i64 s] w fun e w' => e = .returned (.tuple #[.int .i64 (rch o d (s * 10000 + 2120) + 6088), .int .i64 0]) ∧ Gr w w' := by
  have hr : IsRch o d (s * 10000 + 2120) (rch o d (s * 10000 + 2120)) := rch_is (inE_ok h).2.2
  have r0 := hr.lo
  have r1 := hr.hi
  clear hr
  have H := Lib.hid h
  clear h
  go_enter Try.func84, Try.ntmps84
  go_wp2_with fail
  have g0 : Gr w ((w).alloc (Obj.cells #[.int .i64 o, .int .i64 d] 23)) := Gr.alloc (Gr.refl w) _
  have ba : Bx ((w).alloc (Obj.cells #[.int .i64 o, .int .i64 d] 23)) (w.heap.size) [.int .i64 o, .int .i64 d] := Bx.gr (Bx.at_ (Bx.new (w) [.int .i64 o, .int .i64 d] 23) (by simp)) (Gr.refl _)
  generalize (w).alloc (Obj.cells #[.int .i64 o, .int .i64 d] 23) = W at g0 ba ⊢
  have S0 := Lib.hid g0
  have Ka0 := Lib.hid ba
  clear g0 ba
  refine (rSend_S o d s _ H.out).mono ?_
  rintro e w1 ⟨rfl, hg⟩
  have S1 := Lib.hid (S0.out.trans hg)
  have Ka1 := Lib.hid (Ka0.out.gr hg)
  clear hg
  have ca0 := Ka1.out.c 0 _ rfl
  have ca1 := Ka1.out.c 1 _ rfl
  have la := Ka1.out.lt
  go_wp2_with fail
  all_goals (try clear ca0 ca1 la)
  rw [show rch o d (s * 10000 + 2120) + 4256 + 1000 + 832 = rch o d (s * 10000 + 2120) + 6088 by omega]
  all_goals go_ret2
  all_goals exact ⟨rfl, S1.out⟩


set_option maxHeartbeats 400000 in
theorem arr_E1 (oa da ob db s : Int) (w : World) (h : inE oa da s 2120 ≠ 0) :
    Calls Try.prog 119 #[.agg #[.int .i64 oa, .int .i64 da], .agg #[.int .i64 ob, .int .i64 db], .int .i64 s] w fun e w' => e = .returned (.tuple #[.int .i64 0, .int .i64 0, .int .i64 0, .int .i64 (inE oa da s 2120)]) ∧ Gr w w' := by
  go_enter Try.func119, Try.ntmps119
  go_wp2_with fail
  have g0 : Gr w (((w).alloc (Obj.cells #[.int .i64 oa, .int .i64 da] 23)).alloc (Obj.cells #[.int .i64 ob, .int .i64 db] 23)) := Gr.alloc (Gr.alloc (Gr.refl w) _) _
  have ba : Bx (((w).alloc (Obj.cells #[.int .i64 oa, .int .i64 da] 23)).alloc (Obj.cells #[.int .i64 ob, .int .i64 db] 23)) (w.heap.size) [.int .i64 oa, .int .i64 da] := Bx.gr (Bx.at_ (Bx.new (w) [.int .i64 oa, .int .i64 da] 23) (by simp)) (Gr.alloc (Gr.refl _) _)
  have bb : Bx (((w).alloc (Obj.cells #[.int .i64 oa, .int .i64 da] 23)).alloc (Obj.cells #[.int .i64 ob, .int .i64 db] 23)) (w.heap.size + 1) [.int .i64 ob, .int .i64 db] := Bx.gr (Bx.at_ (Bx.new ((w).alloc (Obj.cells #[.int .i64 oa, .int .i64 da] 23)) [.int .i64 ob, .int .i64 db] 23) (by simp)) (Gr.refl _)
  generalize ((w).alloc (Obj.cells #[.int .i64 oa, .int .i64 da] 23)).alloc (Obj.cells #[.int .i64 ob, .int .i64 db] 23) = W at g0 ba bb ⊢
  have S0 := Lib.hid g0
  have Ka0 := Lib.hid ba
  have Kb0 := Lib.hid bb
  clear g0 ba bb
  refine (Send_E oa da s _ h).mono ?_
  rintro e w1 ⟨rfl, hg⟩
  have S1 := Lib.hid (S0.out.trans hg)
  have Ka1 := Lib.hid (Ka0.out.gr hg)
  have Kb1 := Lib.hid (Kb0.out.gr hg)
  clear hg
  have ca0 := Ka1.out.c 0 _ rfl
  have ca1 := Ka1.out.c 1 _ rfl
  have la := Ka1.out.lt
  have cb0 := Kb1.out.c 0 _ rfl
  have cb1 := Kb1.out.c 1 _ rfl
  have lb := Kb1.out.lt
  go_wp2_with fail
  all_goals (try clear ca0 ca1 la cb0 cb1 lb)
  refine bodyPost_ret (results_four rfl _ _ _) rfl ?_
  exact ⟨rfl, S1.out⟩


set_option maxHeartbeats 400000 in
theorem arr_E2 (oa da ob db s : Int) (w : World) (h : inE oa da s 2120 = 0) (g : inE ob db s 3221 ≠ 0) :
    Calls Try.prog 119 #[.agg #[.int .i64 oa, .int .i64 da], .agg #[.int .i64 ob, .int .i64 db], .int .i64 s] w fun e w' => e = .returned (.tuple #[.int .i64 (rch oa da (s * 10000 + 2120)), .int .i64 0, .int .i64 0, .int .i64 (inE ob db s 3221)]) ∧ Gr w w' := by
  have H := Lib.hid h
  clear h
  go_enter Try.func119, Try.ntmps119
  go_wp2_with fail
  have g0 : Gr w (((w).alloc (Obj.cells #[.int .i64 oa, .int .i64 da] 23)).alloc (Obj.cells #[.int .i64 ob, .int .i64 db] 23)) := Gr.alloc (Gr.alloc (Gr.refl w) _) _
  have ba : Bx (((w).alloc (Obj.cells #[.int .i64 oa, .int .i64 da] 23)).alloc (Obj.cells #[.int .i64 ob, .int .i64 db] 23)) (w.heap.size) [.int .i64 oa, .int .i64 da] := Bx.gr (Bx.at_ (Bx.new (w) [.int .i64 oa, .int .i64 da] 23) (by simp)) (Gr.alloc (Gr.refl _) _)
  have bb : Bx (((w).alloc (Obj.cells #[.int .i64 oa, .int .i64 da] 23)).alloc (Obj.cells #[.int .i64 ob, .int .i64 db] 23)) (w.heap.size + 1) [.int .i64 ob, .int .i64 db] := Bx.gr (Bx.at_ (Bx.new ((w).alloc (Obj.cells #[.int .i64 oa, .int .i64 da] 23)) [.int .i64 ob, .int .i64 db] 23) (by simp)) (Gr.refl _)
  generalize ((w).alloc (Obj.cells #[.int .i64 oa, .int .i64 da] 23)).alloc (Obj.cells #[.int .i64 ob, .int .i64 db] 23) = W at g0 ba bb ⊢
  have S0 := Lib.hid g0
  have Ka0 := Lib.hid ba
  have Kb0 := Lib.hid bb
  clear g0 ba bb
  refine (Send_S oa da s _ H.out).mono ?_
  rintro e w1 ⟨rfl, hg⟩
  have S1 := Lib.hid (S0.out.trans hg)
  have Ka1 := Lib.hid (Ka0.out.gr hg)
  have Kb1 := Lib.hid (Kb0.out.gr hg)
  clear hg
  have ca0 := Ka1.out.c 0 _ rfl
  have ca1 := Ka1.out.c 1 _ rfl
  have la := Ka1.out.lt
  have cb0 := Kb1.out.c 0 _ rfl
  have cb1 := Kb1.out.c 1 _ rfl
  have lb := Kb1.out.lt
  go_wp2_with fail
  all_goals (try clear ca0 ca1 la cb0 cb1 lb)
  refine (Window_E ob db s _ g).mono ?_
  rintro e w2 ⟨rfl, hg⟩
  have S2 := Lib.hid (S1.out.trans hg)
  have Ka2 := Lib.hid (Ka1.out.gr hg)
  have Kb2 := Lib.hid (Kb1.out.gr hg)
  clear hg
  have ca0 := Ka2.out.c 0 _ rfl
  have ca1 := Ka2.out.c 1 _ rfl
  have la := Ka2.out.lt
  have cb0 := Kb2.out.c 0 _ rfl
  have cb1 := Kb2.out.c 1 _ rfl
  have lb := Kb2.out.lt
  go_wp2_with fail
  all_goals (try clear ca0 ca1 la cb0 cb1 lb)
  refine bodyPost_ret (results_four rfl _ _ _) rfl ?_
  exact ⟨rfl, S2.out⟩


set_option maxHeartbeats 400000 in
theorem arr_ok (oa da ob db s : Int) (w : World) (h : inE oa da s 2120 = 0) (g : inE ob db s 3221 = 0) :
    Calls Try.prog 119 #[.agg #[.int .i64 oa, .int .i64 da], .agg #[.int .i64 ob, .int .i64 db], .int .i64 s] w fun e w' => e = .returned (.tuple #[.int .i64 (rch oa da (s * 10000 + 2120)), .int .i64 (rch ob db (s * 10000 + 1020)), .int .i64 (rch ob db (s * 10000 + 3221) - 1), .int .i64 0]) ∧ Gr w w' := by
  have H := Lib.hid h
  have G := Lib.hid g
  clear h g
  go_enter Try.func119, Try.ntmps119
  go_wp2_with fail
  have g0 : Gr w (((w).alloc (Obj.cells #[.int .i64 oa, .int .i64 da] 23)).alloc (Obj.cells #[.int .i64 ob, .int .i64 db] 23)) := Gr.alloc (Gr.alloc (Gr.refl w) _) _
  have ba : Bx (((w).alloc (Obj.cells #[.int .i64 oa, .int .i64 da] 23)).alloc (Obj.cells #[.int .i64 ob, .int .i64 db] 23)) (w.heap.size) [.int .i64 oa, .int .i64 da] := Bx.gr (Bx.at_ (Bx.new (w) [.int .i64 oa, .int .i64 da] 23) (by simp)) (Gr.alloc (Gr.refl _) _)
  have bb : Bx (((w).alloc (Obj.cells #[.int .i64 oa, .int .i64 da] 23)).alloc (Obj.cells #[.int .i64 ob, .int .i64 db] 23)) (w.heap.size + 1) [.int .i64 ob, .int .i64 db] := Bx.gr (Bx.at_ (Bx.new ((w).alloc (Obj.cells #[.int .i64 oa, .int .i64 da] 23)) [.int .i64 ob, .int .i64 db] 23) (by simp)) (Gr.refl _)
  generalize ((w).alloc (Obj.cells #[.int .i64 oa, .int .i64 da] 23)).alloc (Obj.cells #[.int .i64 ob, .int .i64 db] 23) = W at g0 ba bb ⊢
  have S0 := Lib.hid g0
  have Ka0 := Lib.hid ba
  have Kb0 := Lib.hid bb
  clear g0 ba bb
  refine (Send_S oa da s _ H.out).mono ?_
  rintro e w1 ⟨rfl, hg⟩
  have S1 := Lib.hid (S0.out.trans hg)
  have Ka1 := Lib.hid (Ka0.out.gr hg)
  have Kb1 := Lib.hid (Kb0.out.gr hg)
  clear hg
  have ca0 := Ka1.out.c 0 _ rfl
  have ca1 := Ka1.out.c 1 _ rfl
  have la := Ka1.out.lt
  have cb0 := Kb1.out.c 0 _ rfl
  have cb1 := Kb1.out.c 1 _ rfl
  have lb := Kb1.out.lt
  go_wp2_with fail
  all_goals (try clear ca0 ca1 la cb0 cb1 lb)
  refine (Window_S ob db s _ G.out).mono ?_
  rintro e w2 ⟨rfl, hg⟩
  have S2 := Lib.hid (S1.out.trans hg)
  have Ka2 := Lib.hid (Ka1.out.gr hg)
  have Kb2 := Lib.hid (Kb1.out.gr hg)
  clear hg
  have ca0 := Ka2.out.c 0 _ rfl
  have ca1 := Ka2.out.c 1 _ rfl
  have la := Ka2.out.lt
  have cb0 := Kb2.out.c 0 _ rfl
  have cb1 := Kb2.out.c 1 _ rfl
  have lb := Kb2.out.lt
  go_wp2_with fail
  all_goals (try clear ca0 ca1 la cb0 cb1 lb)
  refine bodyPost_ret (results_four rfl _ _ _) rfl ?_
  exact ⟨rfl, S2.out⟩


set_option maxHeartbeats 400000 in
theorem Fits_E1 (oa da ob db s : Int) (w : World) (h : inE oa da s 2120 ≠ 0) :
    Calls Try.prog 85 #[.agg #[.int .i64 oa, .int .i64 da], .agg #[.int .i64 ob, .int .i64 db], .int .i64 s] w fun e w' => e = .returned (.tuple #[.bool false, .int .i64 (inE oa da s 2120)]) ∧ Gr w w' := by
  go_enter Try.func85, Try.ntmps85
  go_wp2_with fail
  have g0 : Gr w (((w).alloc (Obj.cells #[.int .i64 oa, .int .i64 da] 23)).alloc (Obj.cells #[.int .i64 ob, .int .i64 db] 23)) := Gr.alloc (Gr.alloc (Gr.refl w) _) _
  have ba : Bx (((w).alloc (Obj.cells #[.int .i64 oa, .int .i64 da] 23)).alloc (Obj.cells #[.int .i64 ob, .int .i64 db] 23)) (w.heap.size) [.int .i64 oa, .int .i64 da] := Bx.gr (Bx.at_ (Bx.new (w) [.int .i64 oa, .int .i64 da] 23) (by simp)) (Gr.alloc (Gr.refl _) _)
  have bb : Bx (((w).alloc (Obj.cells #[.int .i64 oa, .int .i64 da] 23)).alloc (Obj.cells #[.int .i64 ob, .int .i64 db] 23)) (w.heap.size + 1) [.int .i64 ob, .int .i64 db] := Bx.gr (Bx.at_ (Bx.new ((w).alloc (Obj.cells #[.int .i64 oa, .int .i64 da] 23)) [.int .i64 ob, .int .i64 db] 23) (by simp)) (Gr.refl _)
  generalize ((w).alloc (Obj.cells #[.int .i64 oa, .int .i64 da] 23)).alloc (Obj.cells #[.int .i64 ob, .int .i64 db] 23) = W at g0 ba bb ⊢
  have S0 := Lib.hid g0
  have Ka0 := Lib.hid ba
  have Kb0 := Lib.hid bb
  clear g0 ba bb
  refine (arr_E1 oa da ob db s _ h).mono ?_
  rintro e w1 ⟨rfl, hg⟩
  have S1 := Lib.hid (S0.out.trans hg)
  have Ka1 := Lib.hid (Ka0.out.gr hg)
  have Kb1 := Lib.hid (Kb0.out.gr hg)
  clear hg
  have ca0 := Ka1.out.c 0 _ rfl
  have ca1 := Ka1.out.c 1 _ rfl
  have la := Ka1.out.lt
  have cb0 := Kb1.out.c 0 _ rfl
  have cb1 := Kb1.out.c 1 _ rfl
  have lb := Kb1.out.lt
  go_wp2_with fail
  all_goals (try clear ca0 ca1 la cb0 cb1 lb)
  all_goals go_ret2
  all_goals exact ⟨rfl, S1.out⟩


set_option maxHeartbeats 400000 in
theorem Fits_E2 (oa da ob db s : Int) (w : World) (h : inE oa da s 2120 = 0) (g : inE ob db s 3221 ≠ 0) :
    Calls Try.prog 85 #[.agg #[.int .i64 oa, .int .i64 da], .agg #[.int .i64 ob, .int .i64 db], .int .i64 s] w fun e w' => e = .returned (.tuple #[.bool false, .int .i64 (inE ob db s 3221)]) ∧ Gr w w' := by
  have H := Lib.hid h
  clear h
  go_enter Try.func85, Try.ntmps85
  go_wp2_with fail
  have g0 : Gr w (((w).alloc (Obj.cells #[.int .i64 oa, .int .i64 da] 23)).alloc (Obj.cells #[.int .i64 ob, .int .i64 db] 23)) := Gr.alloc (Gr.alloc (Gr.refl w) _) _
  have ba : Bx (((w).alloc (Obj.cells #[.int .i64 oa, .int .i64 da] 23)).alloc (Obj.cells #[.int .i64 ob, .int .i64 db] 23)) (w.heap.size) [.int .i64 oa, .int .i64 da] := Bx.gr (Bx.at_ (Bx.new (w) [.int .i64 oa, .int .i64 da] 23) (by simp)) (Gr.alloc (Gr.refl _) _)
  have bb : Bx (((w).alloc (Obj.cells #[.int .i64 oa, .int .i64 da] 23)).alloc (Obj.cells #[.int .i64 ob, .int .i64 db] 23)) (w.heap.size + 1) [.int .i64 ob, .int .i64 db] := Bx.gr (Bx.at_ (Bx.new ((w).alloc (Obj.cells #[.int .i64 oa, .int .i64 da] 23)) [.int .i64 ob, .int .i64 db] 23) (by simp)) (Gr.refl _)
  generalize ((w).alloc (Obj.cells #[.int .i64 oa, .int .i64 da] 23)).alloc (Obj.cells #[.int .i64 ob, .int .i64 db] 23) = W at g0 ba bb ⊢
  have S0 := Lib.hid g0
  have Ka0 := Lib.hid ba
  have Kb0 := Lib.hid bb
  clear g0 ba bb
  refine (arr_E2 oa da ob db s _ H.out g).mono ?_
  rintro e w1 ⟨rfl, hg⟩
  have S1 := Lib.hid (S0.out.trans hg)
  have Ka1 := Lib.hid (Ka0.out.gr hg)
  have Kb1 := Lib.hid (Kb0.out.gr hg)
  clear hg
  have ca0 := Ka1.out.c 0 _ rfl
  have ca1 := Ka1.out.c 1 _ rfl
  have la := Ka1.out.lt
  have cb0 := Kb1.out.c 0 _ rfl
  have cb1 := Kb1.out.c 1 _ rfl
  have lb := Kb1.out.lt
  go_wp2_with fail
  all_goals (try clear ca0 ca1 la cb0 cb1 lb)
  all_goals go_ret2
  all_goals exact ⟨rfl, S1.out⟩


set_option maxHeartbeats 400000 in
theorem Fits_yes (oa da ob db s : Int) (w : World) (h : inE oa da s 2120 = 0) (g : inE ob db s 3221 = 0) (f0 : (rch ob db (s * 10000 + 1020)) ≤ (rch oa da (s * 10000 + 2120))) (f1 : (rch oa da (s * 10000 + 2120)) ≤ rch ob db (s * 10000 + 3221) - 1) :
    Calls Try.prog 85 #[.agg #[.int .i64 oa, .int .i64 da], .agg #[.int .i64 ob, .int .i64 db], .int .i64 s] w fun e w' => e = .returned (.tuple #[.bool true, .int .i64 0]) ∧ Gr w w' := by
  have H := Lib.hid h
  have G := Lib.hid g
  clear h g
  go_enter Try.func85, Try.ntmps85
  go_wp2_with fail
  have g0 : Gr w (((w).alloc (Obj.cells #[.int .i64 oa, .int .i64 da] 23)).alloc (Obj.cells #[.int .i64 ob, .int .i64 db] 23)) := Gr.alloc (Gr.alloc (Gr.refl w) _) _
  have ba : Bx (((w).alloc (Obj.cells #[.int .i64 oa, .int .i64 da] 23)).alloc (Obj.cells #[.int .i64 ob, .int .i64 db] 23)) (w.heap.size) [.int .i64 oa, .int .i64 da] := Bx.gr (Bx.at_ (Bx.new (w) [.int .i64 oa, .int .i64 da] 23) (by simp)) (Gr.alloc (Gr.refl _) _)
  have bb : Bx (((w).alloc (Obj.cells #[.int .i64 oa, .int .i64 da] 23)).alloc (Obj.cells #[.int .i64 ob, .int .i64 db] 23)) (w.heap.size + 1) [.int .i64 ob, .int .i64 db] := Bx.gr (Bx.at_ (Bx.new ((w).alloc (Obj.cells #[.int .i64 oa, .int .i64 da] 23)) [.int .i64 ob, .int .i64 db] 23) (by simp)) (Gr.refl _)
  generalize ((w).alloc (Obj.cells #[.int .i64 oa, .int .i64 da] 23)).alloc (Obj.cells #[.int .i64 ob, .int .i64 db] 23) = W at g0 ba bb ⊢
  have S0 := Lib.hid g0
  have Ka0 := Lib.hid ba
  have Kb0 := Lib.hid bb
  clear g0 ba bb
  refine (arr_ok oa da ob db s _ H.out G.out).mono ?_
  rintro e w1 ⟨rfl, hg⟩
  have S1 := Lib.hid (S0.out.trans hg)
  have Ka1 := Lib.hid (Ka0.out.gr hg)
  have Kb1 := Lib.hid (Kb0.out.gr hg)
  clear hg
  have ca0 := Ka1.out.c 0 _ rfl
  have ca1 := Ka1.out.c 1 _ rfl
  have la := Ka1.out.lt
  have cb0 := Kb1.out.c 0 _ rfl
  have cb1 := Kb1.out.c 1 _ rfl
  have lb := Kb1.out.lt
  go_wp2_with fail
  all_goals (try clear ca0 ca1 la cb0 cb1 lb)
  all_goals go_ret2
  all_goals exact ⟨rfl, S1.out⟩


set_option maxHeartbeats 400000 in
theorem rFits_yes (oa da ob db s : Int) (w : World) (h : inE oa da s 2120 = 0) (g : inE ob db s 3221 = 0) (f0 : (rch ob db (s * 10000 + 1020)) ≤ (rch oa da (s * 10000 + 2120))) (f1 : (rch oa da (s * 10000 + 2120)) ≤ rch ob db (s * 10000 + 3221) - 1) :
    Calls Try.prog 86 #[.agg #[.int .i64 oa, .int .i64 da], .agg #[.int .i64 ob, .int .i64 db], .int .i64 s] w fun e w' => e = .returned (.tuple #[.bool true, .int .i64 0]) ∧ Gr w w' := by
  have H := Lib.hid h
  have G := Lib.hid g
  clear h g
  go_enter Try.func86, Try.ntmps86
  go_wp2_with fail
  have g0 : Gr w (((w).alloc (Obj.cells #[.int .i64 oa, .int .i64 da] 23)).alloc (Obj.cells #[.int .i64 ob, .int .i64 db] 23)) := Gr.alloc (Gr.alloc (Gr.refl w) _) _
  have ba : Bx (((w).alloc (Obj.cells #[.int .i64 oa, .int .i64 da] 23)).alloc (Obj.cells #[.int .i64 ob, .int .i64 db] 23)) (w.heap.size) [.int .i64 oa, .int .i64 da] := Bx.gr (Bx.at_ (Bx.new (w) [.int .i64 oa, .int .i64 da] 23) (by simp)) (Gr.alloc (Gr.refl _) _)
  have bb : Bx (((w).alloc (Obj.cells #[.int .i64 oa, .int .i64 da] 23)).alloc (Obj.cells #[.int .i64 ob, .int .i64 db] 23)) (w.heap.size + 1) [.int .i64 ob, .int .i64 db] := Bx.gr (Bx.at_ (Bx.new ((w).alloc (Obj.cells #[.int .i64 oa, .int .i64 da] 23)) [.int .i64 ob, .int .i64 db] 23) (by simp)) (Gr.refl _)
  generalize ((w).alloc (Obj.cells #[.int .i64 oa, .int .i64 da] 23)).alloc (Obj.cells #[.int .i64 ob, .int .i64 db] 23) = W at g0 ba bb ⊢
  have S0 := Lib.hid g0
  have Ka0 := Lib.hid ba
  have Kb0 := Lib.hid bb
  clear g0 ba bb
  refine (rSend_S oa da s _ H.out).mono ?_
  rintro e w1 ⟨rfl, hg⟩
  have S1 := Lib.hid (S0.out.trans hg)
  have Ka1 := Lib.hid (Ka0.out.gr hg)
  have Kb1 := Lib.hid (Kb0.out.gr hg)
  clear hg
  have ca0 := Ka1.out.c 0 _ rfl
  have ca1 := Ka1.out.c 1 _ rfl
  have la := Ka1.out.lt
  have cb0 := Kb1.out.c 0 _ rfl
  have cb1 := Kb1.out.c 1 _ rfl
  have lb := Kb1.out.lt
  go_wp2_with fail
  all_goals (try clear ca0 ca1 la cb0 cb1 lb)
  refine (rWindow_S ob db s _ G.out).mono ?_
  rintro e w2 ⟨rfl, hg⟩
  have S2 := Lib.hid (S1.out.trans hg)
  have Ka2 := Lib.hid (Ka1.out.gr hg)
  have Kb2 := Lib.hid (Kb1.out.gr hg)
  clear hg
  have ca0 := Ka2.out.c 0 _ rfl
  have ca1 := Ka2.out.c 1 _ rfl
  have la := Ka2.out.lt
  have cb0 := Kb2.out.c 0 _ rfl
  have cb1 := Kb2.out.c 1 _ rfl
  have lb := Kb2.out.lt
  go_wp2_with fail
  all_goals (try clear ca0 ca1 la cb0 cb1 lb)
  all_goals go_ret2
  all_goals exact ⟨rfl, S2.out⟩


set_option maxHeartbeats 400000 in
theorem Fits_no1 (oa da ob db s : Int) (w : World) (h : inE oa da s 2120 = 0) (g : inE ob db s 3221 = 0) (f0 : (rch oa da (s * 10000 + 2120)) < (rch ob db (s * 10000 + 1020))) :
    Calls Try.prog 85 #[.agg #[.int .i64 oa, .int .i64 da], .agg #[.int .i64 ob, .int .i64 db], .int .i64 s] w fun e w' => e = .returned (.tuple #[.bool false, .int .i64 0]) ∧ Gr w w' := by
  have H := Lib.hid h
  have G := Lib.hid g
  clear h g
  go_enter Try.func85, Try.ntmps85
  go_wp2_with fail
  have g0 : Gr w (((w).alloc (Obj.cells #[.int .i64 oa, .int .i64 da] 23)).alloc (Obj.cells #[.int .i64 ob, .int .i64 db] 23)) := Gr.alloc (Gr.alloc (Gr.refl w) _) _
  have ba : Bx (((w).alloc (Obj.cells #[.int .i64 oa, .int .i64 da] 23)).alloc (Obj.cells #[.int .i64 ob, .int .i64 db] 23)) (w.heap.size) [.int .i64 oa, .int .i64 da] := Bx.gr (Bx.at_ (Bx.new (w) [.int .i64 oa, .int .i64 da] 23) (by simp)) (Gr.alloc (Gr.refl _) _)
  have bb : Bx (((w).alloc (Obj.cells #[.int .i64 oa, .int .i64 da] 23)).alloc (Obj.cells #[.int .i64 ob, .int .i64 db] 23)) (w.heap.size + 1) [.int .i64 ob, .int .i64 db] := Bx.gr (Bx.at_ (Bx.new ((w).alloc (Obj.cells #[.int .i64 oa, .int .i64 da] 23)) [.int .i64 ob, .int .i64 db] 23) (by simp)) (Gr.refl _)
  generalize ((w).alloc (Obj.cells #[.int .i64 oa, .int .i64 da] 23)).alloc (Obj.cells #[.int .i64 ob, .int .i64 db] 23) = W at g0 ba bb ⊢
  have S0 := Lib.hid g0
  have Ka0 := Lib.hid ba
  have Kb0 := Lib.hid bb
  clear g0 ba bb
  refine (arr_ok oa da ob db s _ H.out G.out).mono ?_
  rintro e w1 ⟨rfl, hg⟩
  have S1 := Lib.hid (S0.out.trans hg)
  have Ka1 := Lib.hid (Ka0.out.gr hg)
  have Kb1 := Lib.hid (Kb0.out.gr hg)
  clear hg
  have ca0 := Ka1.out.c 0 _ rfl
  have ca1 := Ka1.out.c 1 _ rfl
  have la := Ka1.out.lt
  have cb0 := Kb1.out.c 0 _ rfl
  have cb1 := Kb1.out.c 1 _ rfl
  have lb := Kb1.out.lt
  go_wp2_with fail
  all_goals (try clear ca0 ca1 la cb0 cb1 lb)
  all_goals go_ret2
  all_goals exact ⟨rfl, S1.out⟩


set_option maxHeartbeats 400000 in
theorem rFits_no1 (oa da ob db s : Int) (w : World) (h : inE oa da s 2120 = 0) (g : inE ob db s 3221 = 0) (f0 : (rch oa da (s * 10000 + 2120)) < (rch ob db (s * 10000 + 1020))) :
    Calls Try.prog 86 #[.agg #[.int .i64 oa, .int .i64 da], .agg #[.int .i64 ob, .int .i64 db], .int .i64 s] w fun e w' => e = .returned (.tuple #[.bool false, .int .i64 0]) ∧ Gr w w' := by
  have H := Lib.hid h
  have G := Lib.hid g
  clear h g
  go_enter Try.func86, Try.ntmps86
  go_wp2_with fail
  have g0 : Gr w (((w).alloc (Obj.cells #[.int .i64 oa, .int .i64 da] 23)).alloc (Obj.cells #[.int .i64 ob, .int .i64 db] 23)) := Gr.alloc (Gr.alloc (Gr.refl w) _) _
  have ba : Bx (((w).alloc (Obj.cells #[.int .i64 oa, .int .i64 da] 23)).alloc (Obj.cells #[.int .i64 ob, .int .i64 db] 23)) (w.heap.size) [.int .i64 oa, .int .i64 da] := Bx.gr (Bx.at_ (Bx.new (w) [.int .i64 oa, .int .i64 da] 23) (by simp)) (Gr.alloc (Gr.refl _) _)
  have bb : Bx (((w).alloc (Obj.cells #[.int .i64 oa, .int .i64 da] 23)).alloc (Obj.cells #[.int .i64 ob, .int .i64 db] 23)) (w.heap.size + 1) [.int .i64 ob, .int .i64 db] := Bx.gr (Bx.at_ (Bx.new ((w).alloc (Obj.cells #[.int .i64 oa, .int .i64 da] 23)) [.int .i64 ob, .int .i64 db] 23) (by simp)) (Gr.refl _)
  generalize ((w).alloc (Obj.cells #[.int .i64 oa, .int .i64 da] 23)).alloc (Obj.cells #[.int .i64 ob, .int .i64 db] 23) = W at g0 ba bb ⊢
  have S0 := Lib.hid g0
  have Ka0 := Lib.hid ba
  have Kb0 := Lib.hid bb
  clear g0 ba bb
  refine (rSend_S oa da s _ H.out).mono ?_
  rintro e w1 ⟨rfl, hg⟩
  have S1 := Lib.hid (S0.out.trans hg)
  have Ka1 := Lib.hid (Ka0.out.gr hg)
  have Kb1 := Lib.hid (Kb0.out.gr hg)
  clear hg
  have ca0 := Ka1.out.c 0 _ rfl
  have ca1 := Ka1.out.c 1 _ rfl
  have la := Ka1.out.lt
  have cb0 := Kb1.out.c 0 _ rfl
  have cb1 := Kb1.out.c 1 _ rfl
  have lb := Kb1.out.lt
  go_wp2_with fail
  all_goals (try clear ca0 ca1 la cb0 cb1 lb)
  refine (rWindow_S ob db s _ G.out).mono ?_
  rintro e w2 ⟨rfl, hg⟩
  have S2 := Lib.hid (S1.out.trans hg)
  have Ka2 := Lib.hid (Ka1.out.gr hg)
  have Kb2 := Lib.hid (Kb1.out.gr hg)
  clear hg
  have ca0 := Ka2.out.c 0 _ rfl
  have ca1 := Ka2.out.c 1 _ rfl
  have la := Ka2.out.lt
  have cb0 := Kb2.out.c 0 _ rfl
  have cb1 := Kb2.out.c 1 _ rfl
  have lb := Kb2.out.lt
  go_wp2_with fail
  all_goals (try clear ca0 ca1 la cb0 cb1 lb)
  all_goals go_ret2
  all_goals exact ⟨rfl, S2.out⟩


set_option maxHeartbeats 400000 in
theorem Fits_no2 (oa da ob db s : Int) (w : World) (h : inE oa da s 2120 = 0) (g : inE ob db s 3221 = 0) (f0 : (rch ob db (s * 10000 + 1020)) ≤ (rch oa da (s * 10000 + 2120))) (f1 : rch ob db (s * 10000 + 3221) - 1 < (rch oa da (s * 10000 + 2120))) :
    Calls Try.prog 85 #[.agg #[.int .i64 oa, .int .i64 da], .agg #[.int .i64 ob, .int .i64 db], .int .i64 s] w fun e w' => e = .returned (.tuple #[.bool false, .int .i64 0]) ∧ Gr w w' := by
  have e1 : decide ((rch oa da (s * 10000 + 2120)) ≤ rch ob db (s * 10000 + 3221) - 1) = false := decide_eq_false (by omega)
  have H := Lib.hid h
  have G := Lib.hid g
  clear h g
  go_enter Try.func85, Try.ntmps85
  go_wp2_with fail
  have g0 : Gr w (((w).alloc (Obj.cells #[.int .i64 oa, .int .i64 da] 23)).alloc (Obj.cells #[.int .i64 ob, .int .i64 db] 23)) := Gr.alloc (Gr.alloc (Gr.refl w) _) _
  have ba : Bx (((w).alloc (Obj.cells #[.int .i64 oa, .int .i64 da] 23)).alloc (Obj.cells #[.int .i64 ob, .int .i64 db] 23)) (w.heap.size) [.int .i64 oa, .int .i64 da] := Bx.gr (Bx.at_ (Bx.new (w) [.int .i64 oa, .int .i64 da] 23) (by simp)) (Gr.alloc (Gr.refl _) _)
  have bb : Bx (((w).alloc (Obj.cells #[.int .i64 oa, .int .i64 da] 23)).alloc (Obj.cells #[.int .i64 ob, .int .i64 db] 23)) (w.heap.size + 1) [.int .i64 ob, .int .i64 db] := Bx.gr (Bx.at_ (Bx.new ((w).alloc (Obj.cells #[.int .i64 oa, .int .i64 da] 23)) [.int .i64 ob, .int .i64 db] 23) (by simp)) (Gr.refl _)
  generalize ((w).alloc (Obj.cells #[.int .i64 oa, .int .i64 da] 23)).alloc (Obj.cells #[.int .i64 ob, .int .i64 db] 23) = W at g0 ba bb ⊢
  have S0 := Lib.hid g0
  have Ka0 := Lib.hid ba
  have Kb0 := Lib.hid bb
  clear g0 ba bb
  refine (arr_ok oa da ob db s _ H.out G.out).mono ?_
  rintro e w1 ⟨rfl, hg⟩
  have S1 := Lib.hid (S0.out.trans hg)
  have Ka1 := Lib.hid (Ka0.out.gr hg)
  have Kb1 := Lib.hid (Kb0.out.gr hg)
  clear hg
  have ca0 := Ka1.out.c 0 _ rfl
  have ca1 := Ka1.out.c 1 _ rfl
  have la := Ka1.out.lt
  have cb0 := Kb1.out.c 0 _ rfl
  have cb1 := Kb1.out.c 1 _ rfl
  have lb := Kb1.out.lt
  go_wp2_with fail
  all_goals (try clear ca0 ca1 la cb0 cb1 lb)
  all_goals go_ret2
  all_goals exact ⟨rfl, S1.out⟩


set_option maxHeartbeats 400000 in
theorem rFits_no2 (oa da ob db s : Int) (w : World) (h : inE oa da s 2120 = 0) (g : inE ob db s 3221 = 0) (f0 : (rch ob db (s * 10000 + 1020)) ≤ (rch oa da (s * 10000 + 2120))) (f1 : rch ob db (s * 10000 + 3221) - 1 < (rch oa da (s * 10000 + 2120))) :
    Calls Try.prog 86 #[.agg #[.int .i64 oa, .int .i64 da], .agg #[.int .i64 ob, .int .i64 db], .int .i64 s] w fun e w' => e = .returned (.tuple #[.bool false, .int .i64 0]) ∧ Gr w w' := by
  have e1 : decide ((rch oa da (s * 10000 + 2120)) ≤ rch ob db (s * 10000 + 3221) - 1) = false := decide_eq_false (by omega)
  have H := Lib.hid h
  have G := Lib.hid g
  clear h g
  go_enter Try.func86, Try.ntmps86
  go_wp2_with fail
  have g0 : Gr w (((w).alloc (Obj.cells #[.int .i64 oa, .int .i64 da] 23)).alloc (Obj.cells #[.int .i64 ob, .int .i64 db] 23)) := Gr.alloc (Gr.alloc (Gr.refl w) _) _
  have ba : Bx (((w).alloc (Obj.cells #[.int .i64 oa, .int .i64 da] 23)).alloc (Obj.cells #[.int .i64 ob, .int .i64 db] 23)) (w.heap.size) [.int .i64 oa, .int .i64 da] := Bx.gr (Bx.at_ (Bx.new (w) [.int .i64 oa, .int .i64 da] 23) (by simp)) (Gr.alloc (Gr.refl _) _)
  have bb : Bx (((w).alloc (Obj.cells #[.int .i64 oa, .int .i64 da] 23)).alloc (Obj.cells #[.int .i64 ob, .int .i64 db] 23)) (w.heap.size + 1) [.int .i64 ob, .int .i64 db] := Bx.gr (Bx.at_ (Bx.new ((w).alloc (Obj.cells #[.int .i64 oa, .int .i64 da] 23)) [.int .i64 ob, .int .i64 db] 23) (by simp)) (Gr.refl _)
  generalize ((w).alloc (Obj.cells #[.int .i64 oa, .int .i64 da] 23)).alloc (Obj.cells #[.int .i64 ob, .int .i64 db] 23) = W at g0 ba bb ⊢
  have S0 := Lib.hid g0
  have Ka0 := Lib.hid ba
  have Kb0 := Lib.hid bb
  clear g0 ba bb
  refine (rSend_S oa da s _ H.out).mono ?_
  rintro e w1 ⟨rfl, hg⟩
  have S1 := Lib.hid (S0.out.trans hg)
  have Ka1 := Lib.hid (Ka0.out.gr hg)
  have Kb1 := Lib.hid (Kb0.out.gr hg)
  clear hg
  have ca0 := Ka1.out.c 0 _ rfl
  have ca1 := Ka1.out.c 1 _ rfl
  have la := Ka1.out.lt
  have cb0 := Kb1.out.c 0 _ rfl
  have cb1 := Kb1.out.c 1 _ rfl
  have lb := Kb1.out.lt
  go_wp2_with fail
  all_goals (try clear ca0 ca1 la cb0 cb1 lb)
  refine (rWindow_S ob db s _ G.out).mono ?_
  rintro e w2 ⟨rfl, hg⟩
  have S2 := Lib.hid (S1.out.trans hg)
  have Ka2 := Lib.hid (Ka1.out.gr hg)
  have Kb2 := Lib.hid (Kb1.out.gr hg)
  clear hg
  have ca0 := Ka2.out.c 0 _ rfl
  have ca1 := Ka2.out.c 1 _ rfl
  have la := Ka2.out.lt
  have cb0 := Kb2.out.c 0 _ rfl
  have cb1 := Kb2.out.c 1 _ rfl
  have lb := Kb2.out.lt
  go_wp2_with fail
  all_goals (try clear ca0 ca1 la cb0 cb1 lb)
  all_goals go_ret2
  all_goals exact ⟨rfl, S2.out⟩


set_option maxHeartbeats 400000 in
theorem rFits_E1 (oa da ob db s : Int) (w : World) (h : inE oa da s 2120 ≠ 0) :
    Calls Try.prog 86 #[.agg #[.int .i64 oa, .int .i64 da], .agg #[.int .i64 ob, .int .i64 db], .int .i64 s] w fun e w' => e = .returned (.tuple #[.bool false, .int .i64 (inE oa da s 2120)]) ∧ Gr w w' := by
  go_enter Try.func86, Try.ntmps86
  go_wp2_with fail
  have g0 : Gr w (((w).alloc (Obj.cells #[.int .i64 oa, .int .i64 da] 23)).alloc (Obj.cells #[.int .i64 ob, .int .i64 db] 23)) := Gr.alloc (Gr.alloc (Gr.refl w) _) _
  have ba : Bx (((w).alloc (Obj.cells #[.int .i64 oa, .int .i64 da] 23)).alloc (Obj.cells #[.int .i64 ob, .int .i64 db] 23)) (w.heap.size) [.int .i64 oa, .int .i64 da] := Bx.gr (Bx.at_ (Bx.new (w) [.int .i64 oa, .int .i64 da] 23) (by simp)) (Gr.alloc (Gr.refl _) _)
  have bb : Bx (((w).alloc (Obj.cells #[.int .i64 oa, .int .i64 da] 23)).alloc (Obj.cells #[.int .i64 ob, .int .i64 db] 23)) (w.heap.size + 1) [.int .i64 ob, .int .i64 db] := Bx.gr (Bx.at_ (Bx.new ((w).alloc (Obj.cells #[.int .i64 oa, .int .i64 da] 23)) [.int .i64 ob, .int .i64 db] 23) (by simp)) (Gr.refl _)
  generalize ((w).alloc (Obj.cells #[.int .i64 oa, .int .i64 da] 23)).alloc (Obj.cells #[.int .i64 ob, .int .i64 db] 23) = W at g0 ba bb ⊢
  have S0 := Lib.hid g0
  have Ka0 := Lib.hid ba
  have Kb0 := Lib.hid bb
  clear g0 ba bb
  refine (rSend_E oa da s _ h).mono ?_
  rintro e w1 ⟨rfl, hg⟩
  have S1 := Lib.hid (S0.out.trans hg)
  have Ka1 := Lib.hid (Ka0.out.gr hg)
  have Kb1 := Lib.hid (Kb0.out.gr hg)
  clear hg
  have ca0 := Ka1.out.c 0 _ rfl
  have ca1 := Ka1.out.c 1 _ rfl
  have la := Ka1.out.lt
  have cb0 := Kb1.out.c 0 _ rfl
  have cb1 := Kb1.out.c 1 _ rfl
  have lb := Kb1.out.lt
  go_wp2_with fail
  all_goals (try clear ca0 ca1 la cb0 cb1 lb)
  all_goals go_ret2
  all_goals exact ⟨rfl, S1.out⟩


set_option maxHeartbeats 400000 in
theorem rFits_E2 (oa da ob db s : Int) (w : World) (h : inE oa da s 2120 = 0) (g : inE ob db s 3221 ≠ 0) :
    Calls Try.prog 86 #[.agg #[.int .i64 oa, .int .i64 da], .agg #[.int .i64 ob, .int .i64 db], .int .i64 s] w fun e w' => e = .returned (.tuple #[.bool false, .int .i64 (inE ob db s 3221)]) ∧ Gr w w' := by
  have H := Lib.hid h
  clear h
  go_enter Try.func86, Try.ntmps86
  go_wp2_with fail
  have g0 : Gr w (((w).alloc (Obj.cells #[.int .i64 oa, .int .i64 da] 23)).alloc (Obj.cells #[.int .i64 ob, .int .i64 db] 23)) := Gr.alloc (Gr.alloc (Gr.refl w) _) _
  have ba : Bx (((w).alloc (Obj.cells #[.int .i64 oa, .int .i64 da] 23)).alloc (Obj.cells #[.int .i64 ob, .int .i64 db] 23)) (w.heap.size) [.int .i64 oa, .int .i64 da] := Bx.gr (Bx.at_ (Bx.new (w) [.int .i64 oa, .int .i64 da] 23) (by simp)) (Gr.alloc (Gr.refl _) _)
  have bb : Bx (((w).alloc (Obj.cells #[.int .i64 oa, .int .i64 da] 23)).alloc (Obj.cells #[.int .i64 ob, .int .i64 db] 23)) (w.heap.size + 1) [.int .i64 ob, .int .i64 db] := Bx.gr (Bx.at_ (Bx.new ((w).alloc (Obj.cells #[.int .i64 oa, .int .i64 da] 23)) [.int .i64 ob, .int .i64 db] 23) (by simp)) (Gr.refl _)
  generalize ((w).alloc (Obj.cells #[.int .i64 oa, .int .i64 da] 23)).alloc (Obj.cells #[.int .i64 ob, .int .i64 db] 23) = W at g0 ba bb ⊢
  have S0 := Lib.hid g0
  have Ka0 := Lib.hid ba
  have Kb0 := Lib.hid bb
  clear g0 ba bb
  refine (rSend_S oa da s _ H.out).mono ?_
  rintro e w1 ⟨rfl, hg⟩
  have S1 := Lib.hid (S0.out.trans hg)
  have Ka1 := Lib.hid (Ka0.out.gr hg)
  have Kb1 := Lib.hid (Kb0.out.gr hg)
  clear hg
  have ca0 := Ka1.out.c 0 _ rfl
  have ca1 := Ka1.out.c 1 _ rfl
  have la := Ka1.out.lt
  have cb0 := Kb1.out.c 0 _ rfl
  have cb1 := Kb1.out.c 1 _ rfl
  have lb := Kb1.out.lt
  go_wp2_with fail
  all_goals (try clear ca0 ca1 la cb0 cb1 lb)
  refine (rWindow_E ob db s _ g).mono ?_
  rintro e w2 ⟨rfl, hg⟩
  have S2 := Lib.hid (S1.out.trans hg)
  have Ka2 := Lib.hid (Ka1.out.gr hg)
  have Kb2 := Lib.hid (Kb1.out.gr hg)
  clear hg
  have ca0 := Ka2.out.c 0 _ rfl
  have ca1 := Ka2.out.c 1 _ rfl
  have la := Ka2.out.lt
  have cb0 := Kb2.out.c 0 _ rfl
  have cb1 := Kb2.out.c 1 _ rfl
  have lb := Kb2.out.lt
  go_wp2_with fail
  all_goals (try clear ca0 ca1 la cb0 cb1 lb)
  all_goals go_ret2
  all_goals exact ⟨rfl, S2.out⟩


set_option maxHeartbeats 400000 in
theorem Late_E1 (oa da ob db s : Int) (w : World) (h : inE oa da s 2120 ≠ 0) :
    Calls Try.prog 87 #[.agg #[.int .i64 oa, .int .i64 da], .agg #[.int .i64 ob, .int .i64 db], .int .i64 s] w fun e w' => e = .returned (.tuple #[.int .i64 0, .int .i64 (inE oa da s 2120)]) ∧ Gr w w' := by
  go_enter Try.func87, Try.ntmps87
  go_wp2_with fail
  have g0 : Gr w (((w).alloc (Obj.cells #[.int .i64 oa, .int .i64 da] 23)).alloc (Obj.cells #[.int .i64 ob, .int .i64 db] 23)) := Gr.alloc (Gr.alloc (Gr.refl w) _) _
  have ba : Bx (((w).alloc (Obj.cells #[.int .i64 oa, .int .i64 da] 23)).alloc (Obj.cells #[.int .i64 ob, .int .i64 db] 23)) (w.heap.size) [.int .i64 oa, .int .i64 da] := Bx.gr (Bx.at_ (Bx.new (w) [.int .i64 oa, .int .i64 da] 23) (by simp)) (Gr.alloc (Gr.refl _) _)
  have bb : Bx (((w).alloc (Obj.cells #[.int .i64 oa, .int .i64 da] 23)).alloc (Obj.cells #[.int .i64 ob, .int .i64 db] 23)) (w.heap.size + 1) [.int .i64 ob, .int .i64 db] := Bx.gr (Bx.at_ (Bx.new ((w).alloc (Obj.cells #[.int .i64 oa, .int .i64 da] 23)) [.int .i64 ob, .int .i64 db] 23) (by simp)) (Gr.refl _)
  generalize ((w).alloc (Obj.cells #[.int .i64 oa, .int .i64 da] 23)).alloc (Obj.cells #[.int .i64 ob, .int .i64 db] 23) = W at g0 ba bb ⊢
  have S0 := Lib.hid g0
  have Ka0 := Lib.hid ba
  have Kb0 := Lib.hid bb
  clear g0 ba bb
  refine (arr_E1 oa da ob db s _ h).mono ?_
  rintro e w1 ⟨rfl, hg⟩
  have S1 := Lib.hid (S0.out.trans hg)
  have Ka1 := Lib.hid (Ka0.out.gr hg)
  have Kb1 := Lib.hid (Kb0.out.gr hg)
  clear hg
  have ca0 := Ka1.out.c 0 _ rfl
  have ca1 := Ka1.out.c 1 _ rfl
  have la := Ka1.out.lt
  have cb0 := Kb1.out.c 0 _ rfl
  have cb1 := Kb1.out.c 1 _ rfl
  have lb := Kb1.out.lt
  go_wp2_with fail
  all_goals (try clear ca0 ca1 la cb0 cb1 lb)
  all_goals go_ret2
  all_goals exact ⟨rfl, S1.out⟩


set_option maxHeartbeats 400000 in
theorem Late_E2 (oa da ob db s : Int) (w : World) (h : inE oa da s 2120 = 0) (g : inE ob db s 3221 ≠ 0) :
    Calls Try.prog 87 #[.agg #[.int .i64 oa, .int .i64 da], .agg #[.int .i64 ob, .int .i64 db], .int .i64 s] w fun e w' => e = .returned (.tuple #[.int .i64 0, .int .i64 (inE ob db s 3221)]) ∧ Gr w w' := by
  have H := Lib.hid h
  clear h
  go_enter Try.func87, Try.ntmps87
  go_wp2_with fail
  have g0 : Gr w (((w).alloc (Obj.cells #[.int .i64 oa, .int .i64 da] 23)).alloc (Obj.cells #[.int .i64 ob, .int .i64 db] 23)) := Gr.alloc (Gr.alloc (Gr.refl w) _) _
  have ba : Bx (((w).alloc (Obj.cells #[.int .i64 oa, .int .i64 da] 23)).alloc (Obj.cells #[.int .i64 ob, .int .i64 db] 23)) (w.heap.size) [.int .i64 oa, .int .i64 da] := Bx.gr (Bx.at_ (Bx.new (w) [.int .i64 oa, .int .i64 da] 23) (by simp)) (Gr.alloc (Gr.refl _) _)
  have bb : Bx (((w).alloc (Obj.cells #[.int .i64 oa, .int .i64 da] 23)).alloc (Obj.cells #[.int .i64 ob, .int .i64 db] 23)) (w.heap.size + 1) [.int .i64 ob, .int .i64 db] := Bx.gr (Bx.at_ (Bx.new ((w).alloc (Obj.cells #[.int .i64 oa, .int .i64 da] 23)) [.int .i64 ob, .int .i64 db] 23) (by simp)) (Gr.refl _)
  generalize ((w).alloc (Obj.cells #[.int .i64 oa, .int .i64 da] 23)).alloc (Obj.cells #[.int .i64 ob, .int .i64 db] 23) = W at g0 ba bb ⊢
  have S0 := Lib.hid g0
  have Ka0 := Lib.hid ba
  have Kb0 := Lib.hid bb
  clear g0 ba bb
  refine (arr_E2 oa da ob db s _ H.out g).mono ?_
  rintro e w1 ⟨rfl, hg⟩
  have S1 := Lib.hid (S0.out.trans hg)
  have Ka1 := Lib.hid (Ka0.out.gr hg)
  have Kb1 := Lib.hid (Kb0.out.gr hg)
  clear hg
  have ca0 := Ka1.out.c 0 _ rfl
  have ca1 := Ka1.out.c 1 _ rfl
  have la := Ka1.out.lt
  have cb0 := Kb1.out.c 0 _ rfl
  have cb1 := Kb1.out.c 1 _ rfl
  have lb := Kb1.out.lt
  go_wp2_with fail
  all_goals (try clear ca0 ca1 la cb0 cb1 lb)
  all_goals go_ret2
  all_goals exact ⟨rfl, S1.out⟩


set_option maxHeartbeats 400000 in
theorem rLate_E1 (oa da ob db s : Int) (w : World) (h : inE oa da s 2120 ≠ 0) :
    Calls Try.prog 88 #[.agg #[.int .i64 oa, .int .i64 da], .agg #[.int .i64 ob, .int .i64 db], .int .i64 s] w fun e w' => e = .returned (.tuple #[.int .i64 0, .int .i64 (inE oa da s 2120)]) ∧ Gr w w' := by
  go_enter Try.func88, Try.ntmps88
  go_wp2_with fail
  have g0 : Gr w (((w).alloc (Obj.cells #[.int .i64 oa, .int .i64 da] 23)).alloc (Obj.cells #[.int .i64 ob, .int .i64 db] 23)) := Gr.alloc (Gr.alloc (Gr.refl w) _) _
  have ba : Bx (((w).alloc (Obj.cells #[.int .i64 oa, .int .i64 da] 23)).alloc (Obj.cells #[.int .i64 ob, .int .i64 db] 23)) (w.heap.size) [.int .i64 oa, .int .i64 da] := Bx.gr (Bx.at_ (Bx.new (w) [.int .i64 oa, .int .i64 da] 23) (by simp)) (Gr.alloc (Gr.refl _) _)
  have bb : Bx (((w).alloc (Obj.cells #[.int .i64 oa, .int .i64 da] 23)).alloc (Obj.cells #[.int .i64 ob, .int .i64 db] 23)) (w.heap.size + 1) [.int .i64 ob, .int .i64 db] := Bx.gr (Bx.at_ (Bx.new ((w).alloc (Obj.cells #[.int .i64 oa, .int .i64 da] 23)) [.int .i64 ob, .int .i64 db] 23) (by simp)) (Gr.refl _)
  generalize ((w).alloc (Obj.cells #[.int .i64 oa, .int .i64 da] 23)).alloc (Obj.cells #[.int .i64 ob, .int .i64 db] 23) = W at g0 ba bb ⊢
  have S0 := Lib.hid g0
  have Ka0 := Lib.hid ba
  have Kb0 := Lib.hid bb
  clear g0 ba bb
  refine (rSend_E oa da s _ h).mono ?_
  rintro e w1 ⟨rfl, hg⟩
  have S1 := Lib.hid (S0.out.trans hg)
  have Ka1 := Lib.hid (Ka0.out.gr hg)
  have Kb1 := Lib.hid (Kb0.out.gr hg)
  clear hg
  have ca0 := Ka1.out.c 0 _ rfl
  have ca1 := Ka1.out.c 1 _ rfl
  have la := Ka1.out.lt
  have cb0 := Kb1.out.c 0 _ rfl
  have cb1 := Kb1.out.c 1 _ rfl
  have lb := Kb1.out.lt
  go_wp2_with fail
  all_goals (try clear ca0 ca1 la cb0 cb1 lb)
  all_goals go_ret2
  all_goals exact ⟨rfl, S1.out⟩


set_option maxHeartbeats 400000 in
theorem rLate_E2 (oa da ob db s : Int) (w : World) (h : inE oa da s 2120 = 0) (g : inE ob db s 3221 ≠ 0) :
    Calls Try.prog 88 #[.agg #[.int .i64 oa, .int .i64 da], .agg #[.int .i64 ob, .int .i64 db], .int .i64 s] w fun e w' => e = .returned (.tuple #[.int .i64 0, .int .i64 (inE ob db s 3221)]) ∧ Gr w w' := by
  have H := Lib.hid h
  clear h
  go_enter Try.func88, Try.ntmps88
  go_wp2_with fail
  have g0 : Gr w (((w).alloc (Obj.cells #[.int .i64 oa, .int .i64 da] 23)).alloc (Obj.cells #[.int .i64 ob, .int .i64 db] 23)) := Gr.alloc (Gr.alloc (Gr.refl w) _) _
  have ba : Bx (((w).alloc (Obj.cells #[.int .i64 oa, .int .i64 da] 23)).alloc (Obj.cells #[.int .i64 ob, .int .i64 db] 23)) (w.heap.size) [.int .i64 oa, .int .i64 da] := Bx.gr (Bx.at_ (Bx.new (w) [.int .i64 oa, .int .i64 da] 23) (by simp)) (Gr.alloc (Gr.refl _) _)
  have bb : Bx (((w).alloc (Obj.cells #[.int .i64 oa, .int .i64 da] 23)).alloc (Obj.cells #[.int .i64 ob, .int .i64 db] 23)) (w.heap.size + 1) [.int .i64 ob, .int .i64 db] := Bx.gr (Bx.at_ (Bx.new ((w).alloc (Obj.cells #[.int .i64 oa, .int .i64 da] 23)) [.int .i64 ob, .int .i64 db] 23) (by simp)) (Gr.refl _)
  generalize ((w).alloc (Obj.cells #[.int .i64 oa, .int .i64 da] 23)).alloc (Obj.cells #[.int .i64 ob, .int .i64 db] 23) = W at g0 ba bb ⊢
  have S0 := Lib.hid g0
  have Ka0 := Lib.hid ba
  have Kb0 := Lib.hid bb
  clear g0 ba bb
  refine (rSend_S oa da s _ H.out).mono ?_
  rintro e w1 ⟨rfl, hg⟩
  have S1 := Lib.hid (S0.out.trans hg)
  have Ka1 := Lib.hid (Ka0.out.gr hg)
  have Kb1 := Lib.hid (Kb0.out.gr hg)
  clear hg
  have ca0 := Ka1.out.c 0 _ rfl
  have ca1 := Ka1.out.c 1 _ rfl
  have la := Ka1.out.lt
  have cb0 := Kb1.out.c 0 _ rfl
  have cb1 := Kb1.out.c 1 _ rfl
  have lb := Kb1.out.lt
  go_wp2_with fail
  all_goals (try clear ca0 ca1 la cb0 cb1 lb)
  refine (rWindow_E ob db s _ g).mono ?_
  rintro e w2 ⟨rfl, hg⟩
  have S2 := Lib.hid (S1.out.trans hg)
  have Ka2 := Lib.hid (Ka1.out.gr hg)
  have Kb2 := Lib.hid (Kb1.out.gr hg)
  clear hg
  have ca0 := Ka2.out.c 0 _ rfl
  have ca1 := Ka2.out.c 1 _ rfl
  have la := Ka2.out.lt
  have cb0 := Kb2.out.c 0 _ rfl
  have cb1 := Kb2.out.c 1 _ rfl
  have lb := Kb2.out.lt
  go_wp2_with fail
  all_goals (try clear ca0 ca1 la cb0 cb1 lb)
  all_goals go_ret2
  all_goals exact ⟨rfl, S2.out⟩


set_option maxHeartbeats 400000 in
theorem Late_ok (oa da ob db s : Int) (w : World) (h : inE oa da s 2120 = 0) (g : inE ob db s 3221 = 0) :
    Calls Try.prog 87 #[.agg #[.int .i64 oa, .int .i64 da], .agg #[.int .i64 ob, .int .i64 db], .int .i64 s] w fun e w' => e = .returned (.tuple #[.int .i64 (rd ob db (rch oa da (s * 10000 + 2120)) - (s * 10000 + 2120)), .int .i64 0]) ∧ Gr w w' := by
  have hr : IsRch oa da (s * 10000 + 2120) (rch oa da (s * 10000 + 2120)) := rch_is (inE_ok h).2.2
  have r0 := hr.lo
  have r1 := hr.hi
  clear hr
  have bb := rd_bd (inE_ok g).1 r0 r1
  have s0 := (inE_ok h).2.1.1
  have s1 := (inE_ok h).2.1.2
  have H := Lib.hid h
  have G := Lib.hid g
  clear h g
  go_enter Try.func87, Try.ntmps87
  go_wp2_with fail
  have g0 : Gr w (((w).alloc (Obj.cells #[.int .i64 oa, .int .i64 da] 23)).alloc (Obj.cells #[.int .i64 ob, .int .i64 db] 23)) := Gr.alloc (Gr.alloc (Gr.refl w) _) _
  have ba : Bx (((w).alloc (Obj.cells #[.int .i64 oa, .int .i64 da] 23)).alloc (Obj.cells #[.int .i64 ob, .int .i64 db] 23)) (w.heap.size) [.int .i64 oa, .int .i64 da] := Bx.gr (Bx.at_ (Bx.new (w) [.int .i64 oa, .int .i64 da] 23) (by simp)) (Gr.alloc (Gr.refl _) _)
  have bb : Bx (((w).alloc (Obj.cells #[.int .i64 oa, .int .i64 da] 23)).alloc (Obj.cells #[.int .i64 ob, .int .i64 db] 23)) (w.heap.size + 1) [.int .i64 ob, .int .i64 db] := Bx.gr (Bx.at_ (Bx.new ((w).alloc (Obj.cells #[.int .i64 oa, .int .i64 da] 23)) [.int .i64 ob, .int .i64 db] 23) (by simp)) (Gr.refl _)
  generalize ((w).alloc (Obj.cells #[.int .i64 oa, .int .i64 da] 23)).alloc (Obj.cells #[.int .i64 ob, .int .i64 db] 23) = W at g0 ba bb ⊢
  have S0 := Lib.hid g0
  have Ka0 := Lib.hid ba
  have Kb0 := Lib.hid bb
  clear g0 ba bb
  refine (arr_ok oa da ob db s _ H.out G.out).mono ?_
  rintro e w1 ⟨rfl, hg⟩
  have S1 := Lib.hid (S0.out.trans hg)
  have Ka1 := Lib.hid (Ka0.out.gr hg)
  have Kb1 := Lib.hid (Kb0.out.gr hg)
  clear hg
  have ca0 := Ka1.out.c 0 _ rfl
  have ca1 := Ka1.out.c 1 _ rfl
  have la := Ka1.out.lt
  have cb0 := Kb1.out.c 0 _ rfl
  have cb1 := Kb1.out.c 1 _ rfl
  have lb := Kb1.out.lt
  go_wp2_with fail
  all_goals (try clear ca0 ca1 la cb0 cb1 lb)
  refine (show_ok ob db (rch oa da (s * 10000 + 2120)) _ (inE_ok G.out).1 r0 r1).mono ?_
  rintro e w2 ⟨rfl, hg⟩
  have S2 := Lib.hid (S1.out.trans hg)
  have Ka2 := Lib.hid (Ka1.out.gr hg)
  have Kb2 := Lib.hid (Kb1.out.gr hg)
  clear hg
  have ca0 := Ka2.out.c 0 _ rfl
  have ca1 := Ka2.out.c 1 _ rfl
  have la := Ka2.out.lt
  have cb0 := Kb2.out.c 0 _ rfl
  have cb1 := Kb2.out.c 1 _ rfl
  have lb := Kb2.out.lt
  go_wp2_with fail
  all_goals (try clear ca0 ca1 la cb0 cb1 lb)
  all_goals go_ret2
  all_goals exact ⟨rfl, S2.out⟩


set_option maxHeartbeats 400000 in
theorem rLate_ok (oa da ob db s : Int) (w : World) (h : inE oa da s 2120 = 0) (g : inE ob db s 3221 = 0) :
    Calls Try.prog 88 #[.agg #[.int .i64 oa, .int .i64 da], .agg #[.int .i64 ob, .int .i64 db], .int .i64 s] w fun e w' => e = .returned (.tuple #[.int .i64 (rd ob db (rch oa da (s * 10000 + 2120)) - (s * 10000 + 2120)), .int .i64 0]) ∧ Gr w w' := by
  have hr : IsRch oa da (s * 10000 + 2120) (rch oa da (s * 10000 + 2120)) := rch_is (inE_ok h).2.2
  have r0 := hr.lo
  have r1 := hr.hi
  clear hr
  have bb := rd_bd (inE_ok g).1 r0 r1
  have s0 := (inE_ok h).2.1.1
  have s1 := (inE_ok h).2.1.2
  have H := Lib.hid h
  have G := Lib.hid g
  clear h g
  go_enter Try.func88, Try.ntmps88
  go_wp2_with fail
  have g0 : Gr w (((w).alloc (Obj.cells #[.int .i64 oa, .int .i64 da] 23)).alloc (Obj.cells #[.int .i64 ob, .int .i64 db] 23)) := Gr.alloc (Gr.alloc (Gr.refl w) _) _
  have ba : Bx (((w).alloc (Obj.cells #[.int .i64 oa, .int .i64 da] 23)).alloc (Obj.cells #[.int .i64 ob, .int .i64 db] 23)) (w.heap.size) [.int .i64 oa, .int .i64 da] := Bx.gr (Bx.at_ (Bx.new (w) [.int .i64 oa, .int .i64 da] 23) (by simp)) (Gr.alloc (Gr.refl _) _)
  have bb : Bx (((w).alloc (Obj.cells #[.int .i64 oa, .int .i64 da] 23)).alloc (Obj.cells #[.int .i64 ob, .int .i64 db] 23)) (w.heap.size + 1) [.int .i64 ob, .int .i64 db] := Bx.gr (Bx.at_ (Bx.new ((w).alloc (Obj.cells #[.int .i64 oa, .int .i64 da] 23)) [.int .i64 ob, .int .i64 db] 23) (by simp)) (Gr.refl _)
  generalize ((w).alloc (Obj.cells #[.int .i64 oa, .int .i64 da] 23)).alloc (Obj.cells #[.int .i64 ob, .int .i64 db] 23) = W at g0 ba bb ⊢
  have S0 := Lib.hid g0
  have Ka0 := Lib.hid ba
  have Kb0 := Lib.hid bb
  clear g0 ba bb
  refine (rSend_S oa da s _ H.out).mono ?_
  rintro e w1 ⟨rfl, hg⟩
  have S1 := Lib.hid (S0.out.trans hg)
  have Ka1 := Lib.hid (Ka0.out.gr hg)
  have Kb1 := Lib.hid (Kb0.out.gr hg)
  clear hg
  have ca0 := Ka1.out.c 0 _ rfl
  have ca1 := Ka1.out.c 1 _ rfl
  have la := Ka1.out.lt
  have cb0 := Kb1.out.c 0 _ rfl
  have cb1 := Kb1.out.c 1 _ rfl
  have lb := Kb1.out.lt
  go_wp2_with fail
  all_goals (try clear ca0 ca1 la cb0 cb1 lb)
  refine (rWindow_S ob db s _ G.out).mono ?_
  rintro e w2 ⟨rfl, hg⟩
  have S2 := Lib.hid (S1.out.trans hg)
  have Ka2 := Lib.hid (Ka1.out.gr hg)
  have Kb2 := Lib.hid (Kb1.out.gr hg)
  clear hg
  have ca0 := Ka2.out.c 0 _ rfl
  have ca1 := Ka2.out.c 1 _ rfl
  have la := Ka2.out.lt
  have cb0 := Kb2.out.c 0 _ rfl
  have cb1 := Kb2.out.c 1 _ rfl
  have lb := Kb2.out.lt
  go_wp2_with fail
  all_goals (try clear ca0 ca1 la cb0 cb1 lb)
  refine (at_any ob db (rch oa da (s * 10000 + 2120)) _ (inE_ok G.out).1 r0 r1).mono ?_
  rintro e w3 ⟨rfl, hg⟩
  have S3 := Lib.hid (S2.out.trans hg)
  have Ka3 := Lib.hid (Ka2.out.gr hg)
  have Kb3 := Lib.hid (Kb2.out.gr hg)
  clear hg
  have ca0 := Ka3.out.c 0 _ rfl
  have ca1 := Ka3.out.c 1 _ rfl
  have la := Ka3.out.lt
  have cb0 := Kb3.out.c 0 _ rfl
  have cb1 := Kb3.out.c 1 _ rfl
  have lb := Kb3.out.lt
  go_wp2_with fail
  all_goals (try clear ca0 ca1 la cb0 cb1 lb)
  rw [show rd ob db (rch oa da (s * 10000 + 2120)) - s * 10000 - 2120 = rd ob db (rch oa da (s * 10000 + 2120)) - (s * 10000 + 2120) by omega]
  all_goals go_ret2
  all_goals exact ⟨rfl, S3.out⟩


set_option maxHeartbeats 400000 in
theorem within_t (o d k : Int) (w : World) (k0 : 0 ≤ k) (k1 : k ≤ 100000) (h0 : -k ≤ d) (h1 : d ≤ k) :
    Calls Try.prog 80 #[.agg #[.int .i64 o, .int .i64 d], .int .i64 k] w fun e w' => e = .returned (.bool true) ∧ Gr w w' := by
  go_enter Try.func80, Try.ntmps80
  go_wp2
  go_ret
  first | exact ⟨rfl, (Gr.refl _).alloc _⟩ | exact ⟨congrArg (fun b => Ending.returned (.bool b)) (decide_eq_true (by omega)), (Gr.refl _).alloc _⟩

set_option maxHeartbeats 400000 in
theorem within_f (o d k : Int) (w : World) (k0 : 0 ≤ k) (k1 : k ≤ 100000) (h : d < -k ∨ (-k ≤ d ∧ k < d)) :
    Calls Try.prog 80 #[.agg #[.int .i64 o, .int .i64 d], .int .i64 k] w fun e w' => e = .returned (.bool false) ∧ Gr w w' := by
  rcases h with h | ⟨h, h1⟩
  all_goals
    go_enter Try.func80, Try.ntmps80
    go_wp2
    go_ret
    first | exact ⟨rfl, (Gr.refl _).alloc _⟩ | exact ⟨congrArg (fun b => Ending.returned (.bool b)) (decide_eq_false (by omega)), (Gr.refl _).alloc _⟩

set_option maxHeartbeats 400000 in
theorem size9 (n m : Int) (w : World) (h0 : -9000000000000000000 ≤ n) (h1 : n ≤ 9000000000000000000) (h : m = max n (-n)) :
    Calls Try.prog 82 #[.int .i64 n] w fun e w' => e = .returned (.int .i64 m) ∧ Gr w w' := by
  by_cases c : n < 0
  · have e : m = -n := by omega
    have c2 : n < -n := by omega
    clear h
    subst e
    go_enter Try.func82, Try.ntmps82
    go_wp2
    go_ret
    exact ⟨rfl, Gr.refl _⟩
  · have e : m = n := by omega
    have c2 : ¬ n < -n := by omega
    clear h
    subst e
    go_enter Try.func82, Try.ntmps82
    go_wp2
    go_ret
    exact ⟨rfl, Gr.refl _⟩

set_option maxHeartbeats 400000 in
theorem size10 (n m : Int) (w : World) (h0 : -9000000000000000000 ≤ n) (h1 : n ≤ 9000000000000000000) (h : m = max n (-n)) :
    Calls Try.prog 83 #[.int .i64 n] w fun e w' => e = .returned (.int .i64 m) ∧ Gr w w' := by
  by_cases c : n < 0
  · have e : m = -n := by omega
    have c2 : n < -n := by omega
    clear h
    subst e
    go_enter Try.func83, Try.ntmps83
    go_wp2
    go_ret
    exact ⟨rfl, Gr.refl _⟩
  · have e : m = n := by omega
    have c2 : ¬ n < -n := by omega
    clear h
    subst e
    go_enter Try.func83, Try.ntmps83
    go_wp2
    go_ret
    exact ⟨rfl, Gr.refl _⟩
end Go.Proofs.Ytpnigndobhbfnaa
