import Derived.Test.YtpnigndobhbfnaaTsA
namespace Go.Proofs.Ytpnigndobhbfnaa
open Go.RowKit
set_option maxHeartbeats 400000 in
theorem Meas_arg (o k s t : Int) (w : World) (hv : ¬ Vc o k) :
    Calls Try.prog 60 #[.agg #[.int .i64 o, .int .i64 k], .int .i64 s, .int .i64 t] w fun e w' => e = .returned (.tuple #[.int .i64 0, .int .i64 1]) ∧ Gr w w' := by
  have HV := Lib.hid hv
  clear hv
  go_enter Try.func60, Try.ntmps60
  go_wp2_with fail
  have g0 : Gr w ((w).alloc (Obj.cells #[.int .i64 o, .int .i64 k] 23)) := Gr.alloc (Gr.refl w) _
  have bx : Bx ((w).alloc (Obj.cells #[.int .i64 o, .int .i64 k] 23)) (w.heap.size) [.int .i64 o, .int .i64 k] := Bx.gr (Bx.at_ (Bx.new (w) [.int .i64 o, .int .i64 k] 23) (by simp)) (Gr.refl _)
  generalize (w).alloc (Obj.cells #[.int .i64 o, .int .i64 k] 23) = W at g0 bx ⊢
  have S0 := Lib.hid g0
  have Kx0 := Lib.hid bx
  clear g0 bx
  refine (check_no o k _ HV.out).mono ?_
  rintro e w1 ⟨rfl, hg⟩
  have S1 := Lib.hid (S0.out.trans hg)
  have Kx1 := Lib.hid (Kx0.out.gr hg)
  clear hg
  have cx0 := Kx1.out.c 0 _ rfl
  have cx1 := Kx1.out.c 1 _ rfl
  have lx := Kx1.out.lt
  go_wp2_with fail
  all_goals (try clear cx0 cx1 lx)
  all_goals go_ret2
  all_goals exact ⟨rfl, S1.out⟩


set_option maxHeartbeats 400000 in
theorem Meas_r1 (o k s t : Int) (w : World) (hv : Vc o k) (h : s < 0 ∨ 109951162 < s) :
    Calls Try.prog 60 #[.agg #[.int .i64 o, .int .i64 k], .int .i64 s, .int .i64 t] w fun e w' => e = .returned (.tuple #[.int .i64 0, .int .i64 2]) ∧ Gr w w' := by
  have HV := Lib.hid hv
  have H := Lib.hid h
  clear hv h
  go_enter Try.func60, Try.ntmps60
  go_wp2_with fail
  have g0 : Gr w ((w).alloc (Obj.cells #[.int .i64 o, .int .i64 k] 23)) := Gr.alloc (Gr.refl w) _
  have bx : Bx ((w).alloc (Obj.cells #[.int .i64 o, .int .i64 k] 23)) (w.heap.size) [.int .i64 o, .int .i64 k] := Bx.gr (Bx.at_ (Bx.new (w) [.int .i64 o, .int .i64 k] 23) (by simp)) (Gr.refl _)
  generalize (w).alloc (Obj.cells #[.int .i64 o, .int .i64 k] 23) = W at g0 bx ⊢
  have S0 := Lib.hid g0
  have Kx0 := Lib.hid bx
  clear g0 bx
  refine (check_ok o k _ HV.out).mono ?_
  rintro e w1 ⟨rfl, hg⟩
  have S1 := Lib.hid (S0.out.trans hg)
  have Kx1 := Lib.hid (Kx0.out.gr hg)
  clear hg
  have cx0 := Kx1.out.c 0 _ rfl
  have cx1 := Kx1.out.c 1 _ rfl
  have lx := Kx1.out.lt
  go_wp2_with fail
  all_goals (try clear cx0 cx1 lx)
  refine (isl_f s _ H.out).mono ?_
  rintro e w2 ⟨rfl, hg⟩
  have S2 := Lib.hid (S1.out.trans hg)
  have Kx2 := Lib.hid (Kx1.out.gr hg)
  clear hg
  have cx0 := Kx2.out.c 0 _ rfl
  have cx1 := Kx2.out.c 1 _ rfl
  have lx := Kx2.out.lt
  go_wp2_with fail
  all_goals (try clear cx0 cx1 lx)
  all_goals go_ret2
  all_goals exact ⟨rfl, S2.out⟩


set_option maxHeartbeats 400000 in
theorem Meas_r2 (o k s t : Int) (w : World) (hv : Vc o k) (s0 : 0 ≤ s) (s1 : s ≤ 109951162) (h : t < 0 ∨ 1099511627776 < t) :
    Calls Try.prog 60 #[.agg #[.int .i64 o, .int .i64 k], .int .i64 s, .int .i64 t] w fun e w' => e = .returned (.tuple #[.int .i64 0, .int .i64 2]) ∧ Gr w w' := by
  have HV := Lib.hid hv
  clear hv
  rcases h with h | h
  all_goals
    go_enter Try.func60, Try.ntmps60
    go_wp2_with fail
    have g0 : Gr w ((w).alloc (Obj.cells #[.int .i64 o, .int .i64 k] 23)) := Gr.alloc (Gr.refl w) _
    have bx : Bx ((w).alloc (Obj.cells #[.int .i64 o, .int .i64 k] 23)) (w.heap.size) [.int .i64 o, .int .i64 k] := Bx.gr (Bx.at_ (Bx.new (w) [.int .i64 o, .int .i64 k] 23) (by simp)) (Gr.refl _)
    generalize (w).alloc (Obj.cells #[.int .i64 o, .int .i64 k] 23) = W at g0 bx ⊢
    have S0 := Lib.hid g0
    have Kx0 := Lib.hid bx
    clear g0 bx
    refine (check_ok o k _ HV.out).mono ?_
    rintro e w1 ⟨rfl, hg⟩
    have S1 := Lib.hid (S0.out.trans hg)
    have Kx1 := Lib.hid (Kx0.out.gr hg)
    clear hg
    have cx0 := Kx1.out.c 0 _ rfl
    have cx1 := Kx1.out.c 1 _ rfl
    have lx := Kx1.out.lt
    go_wp2_with fail
    all_goals (try clear cx0 cx1 lx)
    refine (isl_t s _ s0 s1).mono ?_
    rintro e w2 ⟨rfl, hg⟩
    have S2 := Lib.hid (S1.out.trans hg)
    have Kx2 := Lib.hid (Kx1.out.gr hg)
    clear hg
    have cx0 := Kx2.out.c 0 _ rfl
    have cx1 := Kx2.out.c 1 _ rfl
    have lx := Kx2.out.lt
    go_wp2_with fail
    all_goals (try clear cx0 cx1 lx)
    all_goals go_ret2
    all_goals exact ⟨rfl, S2.out⟩


set_option maxHeartbeats 400000 in
theorem Meas_ok (o k s t : Int) (w : World) (hv : Vc o k) (s0 : 0 ≤ s) (s1 : s ≤ 109951162) (t0 : 0 ≤ t) (t1 : t ≤ 1099511627776) :
    Calls Try.prog 60 #[.agg #[.int .i64 o, .int .i64 k], .int .i64 s, .int .i64 t] w fun e w' => e = .returned (.tuple #[.int .i64 (rd o k t - (s * 10000 + 2120)), .int .i64 0]) ∧ Gr w w' := by
  have hb := rd_bd hv t0 t1
  have HV := Lib.hid hv
  clear hv
  go_enter Try.func60, Try.ntmps60
  go_wp2_with fail
  have g0 : Gr w ((w).alloc (Obj.cells #[.int .i64 o, .int .i64 k] 23)) := Gr.alloc (Gr.refl w) _
  have bx : Bx ((w).alloc (Obj.cells #[.int .i64 o, .int .i64 k] 23)) (w.heap.size) [.int .i64 o, .int .i64 k] := Bx.gr (Bx.at_ (Bx.new (w) [.int .i64 o, .int .i64 k] 23) (by simp)) (Gr.refl _)
  generalize (w).alloc (Obj.cells #[.int .i64 o, .int .i64 k] 23) = W at g0 bx ⊢
  have S0 := Lib.hid g0
  have Kx0 := Lib.hid bx
  clear g0 bx
  refine (check_ok o k _ HV.out).mono ?_
  rintro e w1 ⟨rfl, hg⟩
  have S1 := Lib.hid (S0.out.trans hg)
  have Kx1 := Lib.hid (Kx0.out.gr hg)
  clear hg
  have cx0 := Kx1.out.c 0 _ rfl
  have cx1 := Kx1.out.c 1 _ rfl
  have lx := Kx1.out.lt
  go_wp2_with fail
  all_goals (try clear cx0 cx1 lx)
  refine (isl_t s _ s0 s1).mono ?_
  rintro e w2 ⟨rfl, hg⟩
  have S2 := Lib.hid (S1.out.trans hg)
  have Kx2 := Lib.hid (Kx1.out.gr hg)
  clear hg
  have cx0 := Kx2.out.c 0 _ rfl
  have cx1 := Kx2.out.c 1 _ rfl
  have lx := Kx2.out.lt
  go_wp2_with fail
  all_goals (try clear cx0 cx1 lx)
  refine (show_ok o k t _ HV.out t0 t1).mono ?_
  rintro e w3 ⟨rfl, hg⟩
  have S3 := Lib.hid (S2.out.trans hg)
  have Kx3 := Lib.hid (Kx2.out.gr hg)
  clear hg
  have cx0 := Kx3.out.c 0 _ rfl
  have cx1 := Kx3.out.c 1 _ rfl
  have lx := Kx3.out.lt
  go_wp2_with fail
  all_goals (try clear cx0 cx1 lx)
  all_goals go_ret2
  all_goals exact ⟨rfl, S3.out⟩


set_option maxHeartbeats 400000 in
theorem rMeas_arg (o k s t : Int) (w : World) (hv : ¬ Vc o k) :
    Calls Try.prog 61 #[.agg #[.int .i64 o, .int .i64 k], .int .i64 s, .int .i64 t] w fun e w' => e = .returned (.tuple #[.int .i64 0, .int .i64 1]) ∧ Gr w w' := by
  have HV := Lib.hid hv
  clear hv
  go_enter Try.func61, Try.ntmps61
  go_wp2_with fail
  have g0 : Gr w ((w).alloc (Obj.cells #[.int .i64 o, .int .i64 k] 23)) := Gr.alloc (Gr.refl w) _
  have bx : Bx ((w).alloc (Obj.cells #[.int .i64 o, .int .i64 k] 23)) (w.heap.size) [.int .i64 o, .int .i64 k] := Bx.gr (Bx.at_ (Bx.new (w) [.int .i64 o, .int .i64 k] 23) (by simp)) (Gr.refl _)
  generalize (w).alloc (Obj.cells #[.int .i64 o, .int .i64 k] 23) = W at g0 bx ⊢
  have S0 := Lib.hid g0
  have Kx0 := Lib.hid bx
  clear g0 bx
  refine (rcheck_no o k _ HV.out).mono ?_
  rintro e w1 ⟨rfl, hg⟩
  have S1 := Lib.hid (S0.out.trans hg)
  have Kx1 := Lib.hid (Kx0.out.gr hg)
  clear hg
  have cx0 := Kx1.out.c 0 _ rfl
  have cx1 := Kx1.out.c 1 _ rfl
  have lx := Kx1.out.lt
  go_wp2_with fail
  all_goals (try clear cx0 cx1 lx)
  all_goals go_ret2
  all_goals exact ⟨rfl, S1.out⟩


set_option maxHeartbeats 400000 in
theorem rMeas_r1 (o k s t : Int) (w : World) (hv : Vc o k) (h : s < 0 ∨ 109951162 < s) :
    Calls Try.prog 61 #[.agg #[.int .i64 o, .int .i64 k], .int .i64 s, .int .i64 t] w fun e w' => e = .returned (.tuple #[.int .i64 0, .int .i64 2]) ∧ Gr w w' := by
  have HV := Lib.hid hv
  have H := Lib.hid h
  clear hv h
  go_enter Try.func61, Try.ntmps61
  go_wp2_with fail
  have g0 : Gr w ((w).alloc (Obj.cells #[.int .i64 o, .int .i64 k] 23)) := Gr.alloc (Gr.refl w) _
  have bx : Bx ((w).alloc (Obj.cells #[.int .i64 o, .int .i64 k] 23)) (w.heap.size) [.int .i64 o, .int .i64 k] := Bx.gr (Bx.at_ (Bx.new (w) [.int .i64 o, .int .i64 k] 23) (by simp)) (Gr.refl _)
  generalize (w).alloc (Obj.cells #[.int .i64 o, .int .i64 k] 23) = W at g0 bx ⊢
  have S0 := Lib.hid g0
  have Kx0 := Lib.hid bx
  clear g0 bx
  refine (rcheck_ok o k _ HV.out).mono ?_
  rintro e w1 ⟨rfl, hg⟩
  have S1 := Lib.hid (S0.out.trans hg)
  have Kx1 := Lib.hid (Kx0.out.gr hg)
  clear hg
  have cx0 := Kx1.out.c 0 _ rfl
  have cx1 := Kx1.out.c 1 _ rfl
  have lx := Kx1.out.lt
  go_wp2_with fail
  all_goals (try clear cx0 cx1 lx)
  refine (risl_f s _ H.out).mono ?_
  rintro e w2 ⟨rfl, hg⟩
  have S2 := Lib.hid (S1.out.trans hg)
  have Kx2 := Lib.hid (Kx1.out.gr hg)
  clear hg
  have cx0 := Kx2.out.c 0 _ rfl
  have cx1 := Kx2.out.c 1 _ rfl
  have lx := Kx2.out.lt
  go_wp2_with fail
  all_goals (try clear cx0 cx1 lx)
  all_goals go_ret2
  all_goals exact ⟨rfl, S2.out⟩


set_option maxHeartbeats 400000 in
theorem rMeas_r2 (o k s t : Int) (w : World) (hv : Vc o k) (s0 : 0 ≤ s) (s1 : s ≤ 109951162) (h : t < 0 ∨ 1099511627776 < t) :
    Calls Try.prog 61 #[.agg #[.int .i64 o, .int .i64 k], .int .i64 s, .int .i64 t] w fun e w' => e = .returned (.tuple #[.int .i64 0, .int .i64 2]) ∧ Gr w w' := by
  have HV := Lib.hid hv
  have H := Lib.hid h
  clear hv h
  go_enter Try.func61, Try.ntmps61
  go_wp2_with fail
  have g0 : Gr w ((w).alloc (Obj.cells #[.int .i64 o, .int .i64 k] 23)) := Gr.alloc (Gr.refl w) _
  have bx : Bx ((w).alloc (Obj.cells #[.int .i64 o, .int .i64 k] 23)) (w.heap.size) [.int .i64 o, .int .i64 k] := Bx.gr (Bx.at_ (Bx.new (w) [.int .i64 o, .int .i64 k] 23) (by simp)) (Gr.refl _)
  generalize (w).alloc (Obj.cells #[.int .i64 o, .int .i64 k] 23) = W at g0 bx ⊢
  have S0 := Lib.hid g0
  have Kx0 := Lib.hid bx
  clear g0 bx
  refine (rcheck_ok o k _ HV.out).mono ?_
  rintro e w1 ⟨rfl, hg⟩
  have S1 := Lib.hid (S0.out.trans hg)
  have Kx1 := Lib.hid (Kx0.out.gr hg)
  clear hg
  have cx0 := Kx1.out.c 0 _ rfl
  have cx1 := Kx1.out.c 1 _ rfl
  have lx := Kx1.out.lt
  go_wp2_with fail
  all_goals (try clear cx0 cx1 lx)
  refine (risl_t s _ s0 s1).mono ?_
  rintro e w2 ⟨rfl, hg⟩
  have S2 := Lib.hid (S1.out.trans hg)
  have Kx2 := Lib.hid (Kx1.out.gr hg)
  clear hg
  have cx0 := Kx2.out.c 0 _ rfl
  have cx1 := Kx2.out.c 1 _ rfl
  have lx := Kx2.out.lt
  go_wp2_with fail
  all_goals (try clear cx0 cx1 lx)
  refine (rTime_no t _ H.out).mono ?_
  rintro e w3 ⟨rfl, hg⟩
  have S3 := Lib.hid (S2.out.trans hg)
  have Kx3 := Lib.hid (Kx2.out.gr hg)
  clear hg
  have cx0 := Kx3.out.c 0 _ rfl
  have cx1 := Kx3.out.c 1 _ rfl
  have lx := Kx3.out.lt
  go_wp2_with fail
  all_goals (try clear cx0 cx1 lx)
  all_goals go_ret2
  all_goals exact ⟨rfl, S3.out⟩


set_option maxHeartbeats 400000 in
theorem rMeas_ok (o k s t : Int) (w : World) (hv : Vc o k) (s0 : 0 ≤ s) (s1 : s ≤ 109951162) (t0 : 0 ≤ t) (t1 : t ≤ 1099511627776) :
    Calls Try.prog 61 #[.agg #[.int .i64 o, .int .i64 k], .int .i64 s, .int .i64 t] w fun e w' => e = .returned (.tuple #[.int .i64 (rd o k t - (s * 10000 + 2120)), .int .i64 0]) ∧ Gr w w' := by
  have hb := rd_bd hv t0 t1
  have HV := Lib.hid hv
  clear hv
  go_enter Try.func61, Try.ntmps61
  go_wp2_with fail
  have g0 : Gr w ((w).alloc (Obj.cells #[.int .i64 o, .int .i64 k] 23)) := Gr.alloc (Gr.refl w) _
  have bx : Bx ((w).alloc (Obj.cells #[.int .i64 o, .int .i64 k] 23)) (w.heap.size) [.int .i64 o, .int .i64 k] := Bx.gr (Bx.at_ (Bx.new (w) [.int .i64 o, .int .i64 k] 23) (by simp)) (Gr.refl _)
  generalize (w).alloc (Obj.cells #[.int .i64 o, .int .i64 k] 23) = W at g0 bx ⊢
  have S0 := Lib.hid g0
  have Kx0 := Lib.hid bx
  clear g0 bx
  refine (rcheck_ok o k _ HV.out).mono ?_
  rintro e w1 ⟨rfl, hg⟩
  have S1 := Lib.hid (S0.out.trans hg)
  have Kx1 := Lib.hid (Kx0.out.gr hg)
  clear hg
  have cx0 := Kx1.out.c 0 _ rfl
  have cx1 := Kx1.out.c 1 _ rfl
  have lx := Kx1.out.lt
  go_wp2_with fail
  all_goals (try clear cx0 cx1 lx)
  refine (risl_t s _ s0 s1).mono ?_
  rintro e w2 ⟨rfl, hg⟩
  have S2 := Lib.hid (S1.out.trans hg)
  have Kx2 := Lib.hid (Kx1.out.gr hg)
  clear hg
  have cx0 := Kx2.out.c 0 _ rfl
  have cx1 := Kx2.out.c 1 _ rfl
  have lx := Kx2.out.lt
  go_wp2_with fail
  all_goals (try clear cx0 cx1 lx)
  refine (rTime_ok t _ t0 t1).mono ?_
  rintro e w3 ⟨rfl, hg⟩
  have S3 := Lib.hid (S2.out.trans hg)
  have Kx3 := Lib.hid (Kx2.out.gr hg)
  clear hg
  have cx0 := Kx3.out.c 0 _ rfl
  have cx1 := Kx3.out.c 1 _ rfl
  have lx := Kx3.out.lt
  go_wp2_with fail
  all_goals (try clear cx0 cx1 lx)
  refine (at_any o k t _ HV.out t0 t1).mono ?_
  rintro e w4 ⟨rfl, hg⟩
  have S4 := Lib.hid (S3.out.trans hg)
  have Kx4 := Lib.hid (Kx3.out.gr hg)
  clear hg
  have cx0 := Kx4.out.c 0 _ rfl
  have cx1 := Kx4.out.c 1 _ rfl
  have lx := Kx4.out.lt
  go_wp2_with fail
  all_goals (try clear cx0 cx1 lx)
  rw [show rd o k t - s * 10000 - 2120 = rd o k t - (s * 10000 + 2120) by omega]
  all_goals go_ret2
  all_goals exact ⟨rfl, S4.out⟩

set_option maxHeartbeats 400000 in
theorem Cor_order (o k s c n d : Int) (w : World) (h : n ≤ s) :
    Calls Try.prog 109 #[.agg #[.int .i64 o, .int .i64 k, .int .i64 s, .int .i64 c], .int .i64 n, .int .i64 d] w fun e w' => e = .returned (.tuple #[.agg #[.int .i64 0, .int .i64 0, .int .i64 0, .int .i64 0], .int .i64 5]) ∧ Gr w w' := by
  go_enter Try.func109, Try.ntmps109
  go_wp2_with fail
  refine bodyPost_ret (v := .tuple #[.agg #[.int .i64 0, .int .i64 0, .int .i64 0, .int .i64 0], .int .i64 5]) (by simp [results, Try.results109, go_sem]) rfl ⟨rfl, ?_⟩
  exact Gr.alloc (Gr.alloc (Gr.refl w) _) _


set_option maxHeartbeats 400000 in
theorem Cor_late (o k s c n d : Int) (w : World) (hn : s < n) (h : d < -4999 ∨ (-4999 ≤ d ∧ 4999 < d)) :
    Calls Try.prog 109 #[.agg #[.int .i64 o, .int .i64 k, .int .i64 s, .int .i64 c], .int .i64 n, .int .i64 d] w fun e w' => e = .returned (.tuple #[.agg #[.int .i64 0, .int .i64 0, .int .i64 0, .int .i64 0], .int .i64 15]) ∧ Gr w w' := by
  rcases h with h | ⟨h, h1⟩
  all_goals
    go_enter Try.func109, Try.ntmps109
    go_wp2_with fail
    refine bodyPost_ret (v := .tuple #[.agg #[.int .i64 0, .int .i64 0, .int .i64 0, .int .i64 0], .int .i64 15]) (by simp [results, Try.results109, go_sem]) rfl ⟨rfl, ?_⟩
    exact Gr.alloc (Gr.alloc (Gr.refl w) _) _


set_option maxHeartbeats 400000 in
theorem Cor_full (o k s n d : Int) (w : World) (hn : s < n) (d0 : -4999 ≤ d) (d1 : d ≤ 4999) :
    Calls Try.prog 109 #[.agg #[.int .i64 o, .int .i64 k, .int .i64 s, .int .i64 4096], .int .i64 n, .int .i64 d] w fun e w' => e = .returned (.tuple #[.agg #[.int .i64 0, .int .i64 0, .int .i64 0, .int .i64 0], .int .i64 13]) ∧ Gr w w' := by
  go_enter Try.func109, Try.ntmps109
  go_wp2_with fail
  refine bodyPost_ret (v := .tuple #[.agg #[.int .i64 0, .int .i64 0, .int .i64 0, .int .i64 0], .int .i64 13]) (by simp [results, Try.results109, go_sem]) rfl ⟨rfl, ?_⟩
  exact Gr.alloc (Gr.alloc (Gr.refl w) _) _


set_option maxHeartbeats 400000 in
theorem Cor_ok (o k s c n d : Int) (w : World) (hv : Vc o k) (hn : s < n) (d0 : -4999 ≤ d) (d1 : d ≤ 4999) (c0 : 0 ≤ c) (c1 : c < 4096) (hw : Vc (o + d) k) :
    Calls Try.prog 109 #[.agg #[.int .i64 o, .int .i64 k, .int .i64 s, .int .i64 c], .int .i64 n, .int .i64 d] w fun e w' => e = .returned (.tuple #[.agg #[.int .i64 (o + d), .int .i64 k, .int .i64 n, .int .i64 (c + 1)], .int .i64 0]) ∧ Gr w w' := by
  have HV := Lib.hid hv
  have HW := Lib.hid hw
  clear hv hw
  go_enter Try.func109, Try.ntmps109
  go_wp2_with fail
  have g0 : Gr w (((w).alloc (Obj.cells #[.int .i64 o, .int .i64 k, .int .i64 s, .int .i64 c] 45)).alloc (Obj.cells #[.int .i64 0, .int .i64 0, .int .i64 0, .int .i64 0] 45)) := Gr.alloc (Gr.alloc (Gr.refl w) _) _
  have bx : Bx (((w).alloc (Obj.cells #[.int .i64 o, .int .i64 k, .int .i64 s, .int .i64 c] 45)).alloc (Obj.cells #[.int .i64 0, .int .i64 0, .int .i64 0, .int .i64 0] 45)) (w.heap.size) [.int .i64 o, .int .i64 k, .int .i64 s, .int .i64 c] := Bx.gr (Bx.at_ (Bx.new (w) [.int .i64 o, .int .i64 k, .int .i64 s, .int .i64 c] 45) (by simp)) (Gr.alloc (Gr.refl _) _)
  have br : Bx (((w).alloc (Obj.cells #[.int .i64 o, .int .i64 k, .int .i64 s, .int .i64 c] 45)).alloc (Obj.cells #[.int .i64 0, .int .i64 0, .int .i64 0, .int .i64 0] 45)) (w.heap.size + 1) [.int .i64 0, .int .i64 0, .int .i64 0, .int .i64 0] := Bx.gr (Bx.at_ (Bx.new ((w).alloc (Obj.cells #[.int .i64 o, .int .i64 k, .int .i64 s, .int .i64 c] 45)) [.int .i64 0, .int .i64 0, .int .i64 0, .int .i64 0] 45) (by simp)) (Gr.refl _)
  generalize ((w).alloc (Obj.cells #[.int .i64 o, .int .i64 k, .int .i64 s, .int .i64 c] 45)).alloc (Obj.cells #[.int .i64 0, .int .i64 0, .int .i64 0, .int .i64 0] 45) = W at g0 bx br ⊢
  have S0 := Lib.hid g0
  have Kx0 := Lib.hid bx
  have Kr0 := Lib.hid br
  clear g0 bx br
  refine (Adjust_ok o k d _ HV.out (by omega) (by omega) HW.out).mono ?_
  rintro e w1 ⟨rfl, hg⟩
  have S1 := Lib.hid (S0.out.trans hg)
  have Kx1 := Lib.hid (Kx0.out.gr hg)
  have Kr1 := Lib.hid (Kr0.out.gr hg)
  clear hg
  have cx0 := Kx1.out.c 0 _ rfl
  have fx0 := Kx1.out.f 0 (by simp)
  have cx1 := Kx1.out.c 1 _ rfl
  have fx1 := Kx1.out.f 1 (by simp)
  have cx2 := Kx1.out.c 2 _ rfl
  have fx2 := Kx1.out.f 2 (by simp)
  have cx3 := Kx1.out.c 3 _ rfl
  have fx3 := Kx1.out.f 3 (by simp)
  have lx := Kx1.out.lt
  have cr0 := Kr1.out.c 0 _ rfl
  have fr0 := Kr1.out.f 0 (by simp)
  have cr1 := Kr1.out.c 1 _ rfl
  have fr1 := Kr1.out.f 1 (by simp)
  have cr2 := Kr1.out.c 2 _ rfl
  have fr2 := Kr1.out.f 2 (by simp)
  have cr3 := Kr1.out.c 3 _ rfl
  have fr3 := Kr1.out.f 3 (by simp)
  have lr := Kr1.out.lt
  go_wp2_with fail
  have g0 : Gr w ((((((w1).setCell ⟨w.heap.size + 1, 0, none⟩ (.int .i64 (o + d))).setCell ⟨w.heap.size + 1, 1, none⟩ (.int .i64 k)).setCell ⟨w.heap.size + 1, 2, none⟩ (.int .i64 n)).setCell ⟨w.heap.size + 1, 3, none⟩ (.int .i64 (c + 1))).alloc (Obj.cells #[.int .i64 (o + d), .int .i64 k] 23)) := ((Gr.set ((Gr.set ((Gr.set ((Gr.set (S1.out) (p := ⟨w.heap.size + 1, 0, none⟩) (by simp) _)) (p := ⟨w.heap.size + 1, 1, none⟩) (by simp) _)) (p := ⟨w.heap.size + 1, 2, none⟩) (by simp) _)) (p := ⟨w.heap.size + 1, 3, none⟩) (by simp) _)).alloc _
  have b0 : Bx ((((((w1).setCell ⟨w.heap.size + 1, 0, none⟩ (.int .i64 (o + d))).setCell ⟨w.heap.size + 1, 1, none⟩ (.int .i64 k)).setCell ⟨w.heap.size + 1, 2, none⟩ (.int .i64 n)).setCell ⟨w.heap.size + 1, 3, none⟩ (.int .i64 (c + 1))).alloc (Obj.cells #[.int .i64 (o + d), .int .i64 k] 23)) (w.heap.size + 1) [.int .i64 (o + d), .int .i64 k, .int .i64 n, .int .i64 (c + 1)] := ((Kr1.out.set4 (.int .i64 (o + d)) (.int .i64 k) (.int .i64 n) (.int .i64 (c + 1)))).gr ((Gr.refl _).alloc _)
  generalize (((((w1).setCell ⟨w.heap.size + 1, 0, none⟩ (.int .i64 (o + d))).setCell ⟨w.heap.size + 1, 1, none⟩ (.int .i64 k)).setCell ⟨w.heap.size + 1, 2, none⟩ (.int .i64 n)).setCell ⟨w.heap.size + 1, 3, none⟩ (.int .i64 (c + 1))).alloc (Obj.cells #[.int .i64 (o + d), .int .i64 k] 23) = wz at g0 b0 ⊢
  have cr0 := b0.c 0 _ rfl
  have cr1 := b0.c 1 _ rfl
  have cr2 := b0.c 2 _ rfl
  have cr3 := b0.c 3 _ rfl
  refine bodyPost_ret (v := .tuple #[.agg #[.int .i64 (o + d), .int .i64 k, .int .i64 n, .int .i64 (c + 1)], .int .i64 0]) (by simp [results, Try.results109, go_sem, cr0, cr1, cr2, cr3]) rfl ⟨rfl, g0⟩


set_option maxHeartbeats 400000 in
theorem Cor_arg (o k s c n d : Int) (w : World) (hv : Vc o k) (hn : s < n) (d0 : -4999 ≤ d) (d1 : d ≤ 4999) (c0 : 0 ≤ c) (c1 : c < 4096) (hw : ¬ Vc (o + d) k) :
    Calls Try.prog 109 #[.agg #[.int .i64 o, .int .i64 k, .int .i64 s, .int .i64 c], .int .i64 n, .int .i64 d] w fun e w' => e = .returned (.tuple #[.agg #[.int .i64 0, .int .i64 0, .int .i64 0, .int .i64 0], .int .i64 1]) ∧ Gr w w' := by
  have HV := Lib.hid hv
  have HW := Lib.hid hw
  clear hv hw
  go_enter Try.func109, Try.ntmps109
  go_wp2_with fail
  have g0 : Gr w (((w).alloc (Obj.cells #[.int .i64 o, .int .i64 k, .int .i64 s, .int .i64 c] 45)).alloc (Obj.cells #[.int .i64 0, .int .i64 0, .int .i64 0, .int .i64 0] 45)) := Gr.alloc (Gr.alloc (Gr.refl w) _) _
  have bx : Bx (((w).alloc (Obj.cells #[.int .i64 o, .int .i64 k, .int .i64 s, .int .i64 c] 45)).alloc (Obj.cells #[.int .i64 0, .int .i64 0, .int .i64 0, .int .i64 0] 45)) (w.heap.size) [.int .i64 o, .int .i64 k, .int .i64 s, .int .i64 c] := Bx.gr (Bx.at_ (Bx.new (w) [.int .i64 o, .int .i64 k, .int .i64 s, .int .i64 c] 45) (by simp)) (Gr.alloc (Gr.refl _) _)
  have br : Bx (((w).alloc (Obj.cells #[.int .i64 o, .int .i64 k, .int .i64 s, .int .i64 c] 45)).alloc (Obj.cells #[.int .i64 0, .int .i64 0, .int .i64 0, .int .i64 0] 45)) (w.heap.size + 1) [.int .i64 0, .int .i64 0, .int .i64 0, .int .i64 0] := Bx.gr (Bx.at_ (Bx.new ((w).alloc (Obj.cells #[.int .i64 o, .int .i64 k, .int .i64 s, .int .i64 c] 45)) [.int .i64 0, .int .i64 0, .int .i64 0, .int .i64 0] 45) (by simp)) (Gr.refl _)
  generalize ((w).alloc (Obj.cells #[.int .i64 o, .int .i64 k, .int .i64 s, .int .i64 c] 45)).alloc (Obj.cells #[.int .i64 0, .int .i64 0, .int .i64 0, .int .i64 0] 45) = W at g0 bx br ⊢
  have S0 := Lib.hid g0
  have Kx0 := Lib.hid bx
  have Kr0 := Lib.hid br
  clear g0 bx br
  refine (Adjust_no o k d _ HV.out (by omega) (by omega) HW.out).mono ?_
  rintro e w1 ⟨rfl, hg⟩
  have S1 := Lib.hid (S0.out.trans hg)
  have Kx1 := Lib.hid (Kx0.out.gr hg)
  have Kr1 := Lib.hid (Kr0.out.gr hg)
  clear hg
  have cx0 := Kx1.out.c 0 _ rfl
  have fx0 := Kx1.out.f 0 (by simp)
  have cx1 := Kx1.out.c 1 _ rfl
  have fx1 := Kx1.out.f 1 (by simp)
  have cx2 := Kx1.out.c 2 _ rfl
  have fx2 := Kx1.out.f 2 (by simp)
  have cx3 := Kx1.out.c 3 _ rfl
  have fx3 := Kx1.out.f 3 (by simp)
  have lx := Kx1.out.lt
  have cr0 := Kr1.out.c 0 _ rfl
  have fr0 := Kr1.out.f 0 (by simp)
  have cr1 := Kr1.out.c 1 _ rfl
  have fr1 := Kr1.out.f 1 (by simp)
  have cr2 := Kr1.out.c 2 _ rfl
  have fr2 := Kr1.out.f 2 (by simp)
  have cr3 := Kr1.out.c 3 _ rfl
  have fr3 := Kr1.out.f 3 (by simp)
  have lr := Kr1.out.lt
  go_wp2_with fail
  have g0 : Gr w ((((((w1).setCell ⟨w.heap.size + 1, 0, none⟩ (.int .i64 0)).setCell ⟨w.heap.size + 1, 1, none⟩ (.int .i64 0)).setCell ⟨w.heap.size + 1, 2, none⟩ (.int .i64 0)).setCell ⟨w.heap.size + 1, 3, none⟩ (.int .i64 0)).alloc (Obj.cells #[.int .i64 0, .int .i64 0] 23)) := ((Gr.set ((Gr.set ((Gr.set ((Gr.set (S1.out) (p := ⟨w.heap.size + 1, 0, none⟩) (by simp) _)) (p := ⟨w.heap.size + 1, 1, none⟩) (by simp) _)) (p := ⟨w.heap.size + 1, 2, none⟩) (by simp) _)) (p := ⟨w.heap.size + 1, 3, none⟩) (by simp) _)).alloc _
  have b0 : Bx ((((((w1).setCell ⟨w.heap.size + 1, 0, none⟩ (.int .i64 0)).setCell ⟨w.heap.size + 1, 1, none⟩ (.int .i64 0)).setCell ⟨w.heap.size + 1, 2, none⟩ (.int .i64 0)).setCell ⟨w.heap.size + 1, 3, none⟩ (.int .i64 0)).alloc (Obj.cells #[.int .i64 0, .int .i64 0] 23)) (w.heap.size + 1) [.int .i64 0, .int .i64 0, .int .i64 0, .int .i64 0] := ((Kr1.out.set4 (.int .i64 0) (.int .i64 0) (.int .i64 0) (.int .i64 0))).gr ((Gr.refl _).alloc _)
  generalize (((((w1).setCell ⟨w.heap.size + 1, 0, none⟩ (.int .i64 0)).setCell ⟨w.heap.size + 1, 1, none⟩ (.int .i64 0)).setCell ⟨w.heap.size + 1, 2, none⟩ (.int .i64 0)).setCell ⟨w.heap.size + 1, 3, none⟩ (.int .i64 0)).alloc (Obj.cells #[.int .i64 0, .int .i64 0] 23) = wz at g0 b0 ⊢
  have cr0 := b0.c 0 _ rfl
  have cr1 := b0.c 1 _ rfl
  have cr2 := b0.c 2 _ rfl
  have cr3 := b0.c 3 _ rfl
  refine bodyPost_ret (v := .tuple #[.agg #[.int .i64 0, .int .i64 0, .int .i64 0, .int .i64 0], .int .i64 1]) (by simp [results, Try.results109, go_sem, cr0, cr1, cr2, cr3]) rfl ⟨rfl, g0⟩


set_option maxHeartbeats 400000 in
theorem rCor_order (o k s c n d : Int) (w : World) (h : n ≤ s) :
    Calls Try.prog 110 #[.agg #[.int .i64 o, .int .i64 k, .int .i64 s, .int .i64 c], .int .i64 n, .int .i64 d] w fun e w' => e = .returned (.tuple #[.agg #[.int .i64 0, .int .i64 0, .int .i64 0, .int .i64 0], .int .i64 5]) ∧ Gr w w' := by
  go_enter Try.func110, Try.ntmps110
  go_wp2_with fail
  refine bodyPost_ret (v := .tuple #[.agg #[.int .i64 0, .int .i64 0, .int .i64 0, .int .i64 0], .int .i64 5]) (by simp [results, Try.results110, go_sem]) rfl ⟨rfl, ?_⟩
  exact Gr.alloc (Gr.alloc (Gr.refl w) _) _


set_option maxHeartbeats 400000 in
theorem rCor_late (o k s c n d : Int) (w : World) (hn : s < n) (h : d < -4999 ∨ (-4999 ≤ d ∧ 4999 < d)) :
    Calls Try.prog 110 #[.agg #[.int .i64 o, .int .i64 k, .int .i64 s, .int .i64 c], .int .i64 n, .int .i64 d] w fun e w' => e = .returned (.tuple #[.agg #[.int .i64 0, .int .i64 0, .int .i64 0, .int .i64 0], .int .i64 15]) ∧ Gr w w' := by
  rcases h with h | ⟨h, h1⟩
  all_goals
    go_enter Try.func110, Try.ntmps110
    go_wp2_with fail
    refine bodyPost_ret (v := .tuple #[.agg #[.int .i64 0, .int .i64 0, .int .i64 0, .int .i64 0], .int .i64 15]) (by simp [results, Try.results110, go_sem]) rfl ⟨rfl, ?_⟩
    exact Gr.alloc (Gr.alloc (Gr.refl w) _) _


set_option maxHeartbeats 400000 in
theorem rCor_full (o k s n d : Int) (w : World) (hn : s < n) (d0 : -4999 ≤ d) (d1 : d ≤ 4999) :
    Calls Try.prog 110 #[.agg #[.int .i64 o, .int .i64 k, .int .i64 s, .int .i64 4096], .int .i64 n, .int .i64 d] w fun e w' => e = .returned (.tuple #[.agg #[.int .i64 0, .int .i64 0, .int .i64 0, .int .i64 0], .int .i64 13]) ∧ Gr w w' := by
  go_enter Try.func110, Try.ntmps110
  go_wp2_with fail
  refine bodyPost_ret (v := .tuple #[.agg #[.int .i64 0, .int .i64 0, .int .i64 0, .int .i64 0], .int .i64 13]) (by simp [results, Try.results110, go_sem]) rfl ⟨rfl, ?_⟩
  exact Gr.alloc (Gr.alloc (Gr.refl w) _) _


set_option maxHeartbeats 400000 in
theorem rCor_ok (o k s c n d : Int) (w : World) (hv : Vc o k) (hn : s < n) (d0 : -4999 ≤ d) (d1 : d ≤ 4999) (c0 : 0 ≤ c) (c1 : c < 4096) (hw : Vc (o + d) k) :
    Calls Try.prog 110 #[.agg #[.int .i64 o, .int .i64 k, .int .i64 s, .int .i64 c], .int .i64 n, .int .i64 d] w fun e w' => e = .returned (.tuple #[.agg #[.int .i64 (o + d), .int .i64 k, .int .i64 n, .int .i64 (c + 1)], .int .i64 0]) ∧ Gr w w' := by
  have HV := Lib.hid hv
  have HW := Lib.hid hw
  clear hv hw
  go_enter Try.func110, Try.ntmps110
  go_wp2_with fail
  have g0 : Gr w (((w).alloc (Obj.cells #[.int .i64 o, .int .i64 k, .int .i64 s, .int .i64 c] 45)).alloc (Obj.cells #[.int .i64 0, .int .i64 0, .int .i64 0, .int .i64 0] 45)) := Gr.alloc (Gr.alloc (Gr.refl w) _) _
  have bx : Bx (((w).alloc (Obj.cells #[.int .i64 o, .int .i64 k, .int .i64 s, .int .i64 c] 45)).alloc (Obj.cells #[.int .i64 0, .int .i64 0, .int .i64 0, .int .i64 0] 45)) (w.heap.size) [.int .i64 o, .int .i64 k, .int .i64 s, .int .i64 c] := Bx.gr (Bx.at_ (Bx.new (w) [.int .i64 o, .int .i64 k, .int .i64 s, .int .i64 c] 45) (by simp)) (Gr.alloc (Gr.refl _) _)
  have br : Bx (((w).alloc (Obj.cells #[.int .i64 o, .int .i64 k, .int .i64 s, .int .i64 c] 45)).alloc (Obj.cells #[.int .i64 0, .int .i64 0, .int .i64 0, .int .i64 0] 45)) (w.heap.size + 1) [.int .i64 0, .int .i64 0, .int .i64 0, .int .i64 0] := Bx.gr (Bx.at_ (Bx.new ((w).alloc (Obj.cells #[.int .i64 o, .int .i64 k, .int .i64 s, .int .i64 c] 45)) [.int .i64 0, .int .i64 0, .int .i64 0, .int .i64 0] 45) (by simp)) (Gr.refl _)
  generalize ((w).alloc (Obj.cells #[.int .i64 o, .int .i64 k, .int .i64 s, .int .i64 c] 45)).alloc (Obj.cells #[.int .i64 0, .int .i64 0, .int .i64 0, .int .i64 0] 45) = W at g0 bx br ⊢
  have S0 := Lib.hid g0
  have Kx0 := Lib.hid bx
  have Kr0 := Lib.hid br
  clear g0 bx br
  refine (rAdjust_ok o k d _ HV.out (by omega) (by omega) HW.out).mono ?_
  rintro e w1 ⟨rfl, hg⟩
  have S1 := Lib.hid (S0.out.trans hg)
  have Kx1 := Lib.hid (Kx0.out.gr hg)
  have Kr1 := Lib.hid (Kr0.out.gr hg)
  clear hg
  have cx0 := Kx1.out.c 0 _ rfl
  have fx0 := Kx1.out.f 0 (by simp)
  have cx1 := Kx1.out.c 1 _ rfl
  have fx1 := Kx1.out.f 1 (by simp)
  have cx2 := Kx1.out.c 2 _ rfl
  have fx2 := Kx1.out.f 2 (by simp)
  have cx3 := Kx1.out.c 3 _ rfl
  have fx3 := Kx1.out.f 3 (by simp)
  have lx := Kx1.out.lt
  have cr0 := Kr1.out.c 0 _ rfl
  have fr0 := Kr1.out.f 0 (by simp)
  have cr1 := Kr1.out.c 1 _ rfl
  have fr1 := Kr1.out.f 1 (by simp)
  have cr2 := Kr1.out.c 2 _ rfl
  have fr2 := Kr1.out.f 2 (by simp)
  have cr3 := Kr1.out.c 3 _ rfl
  have fr3 := Kr1.out.f 3 (by simp)
  have lr := Kr1.out.lt
  go_wp2_with fail
  have g0 : Gr w ((((((w1).setCell ⟨w.heap.size + 1, 0, none⟩ (.int .i64 (o + d))).setCell ⟨w.heap.size + 1, 1, none⟩ (.int .i64 k)).setCell ⟨w.heap.size + 1, 2, none⟩ (.int .i64 n)).setCell ⟨w.heap.size + 1, 3, none⟩ (.int .i64 (c + 1))).alloc (Obj.cells #[.int .i64 (o + d), .int .i64 k] 23)) := ((Gr.set ((Gr.set ((Gr.set ((Gr.set (S1.out) (p := ⟨w.heap.size + 1, 0, none⟩) (by simp) _)) (p := ⟨w.heap.size + 1, 1, none⟩) (by simp) _)) (p := ⟨w.heap.size + 1, 2, none⟩) (by simp) _)) (p := ⟨w.heap.size + 1, 3, none⟩) (by simp) _)).alloc _
  have b0 : Bx ((((((w1).setCell ⟨w.heap.size + 1, 0, none⟩ (.int .i64 (o + d))).setCell ⟨w.heap.size + 1, 1, none⟩ (.int .i64 k)).setCell ⟨w.heap.size + 1, 2, none⟩ (.int .i64 n)).setCell ⟨w.heap.size + 1, 3, none⟩ (.int .i64 (c + 1))).alloc (Obj.cells #[.int .i64 (o + d), .int .i64 k] 23)) (w.heap.size + 1) [.int .i64 (o + d), .int .i64 k, .int .i64 n, .int .i64 (c + 1)] := ((Kr1.out.set4 (.int .i64 (o + d)) (.int .i64 k) (.int .i64 n) (.int .i64 (c + 1)))).gr ((Gr.refl _).alloc _)
  generalize (((((w1).setCell ⟨w.heap.size + 1, 0, none⟩ (.int .i64 (o + d))).setCell ⟨w.heap.size + 1, 1, none⟩ (.int .i64 k)).setCell ⟨w.heap.size + 1, 2, none⟩ (.int .i64 n)).setCell ⟨w.heap.size + 1, 3, none⟩ (.int .i64 (c + 1))).alloc (Obj.cells #[.int .i64 (o + d), .int .i64 k] 23) = wz at g0 b0 ⊢
  have cr0 := b0.c 0 _ rfl
  have cr1 := b0.c 1 _ rfl
  have cr2 := b0.c 2 _ rfl
  have cr3 := b0.c 3 _ rfl
  refine bodyPost_ret (v := .tuple #[.agg #[.int .i64 (o + d), .int .i64 k, .int .i64 n, .int .i64 (c + 1)], .int .i64 0]) (by simp [results, Try.results110, go_sem, cr0, cr1, cr2, cr3]) rfl ⟨rfl, g0⟩


set_option maxHeartbeats 400000 in
theorem rCor_arg (o k s c n d : Int) (w : World) (hv : Vc o k) (hn : s < n) (d0 : -4999 ≤ d) (d1 : d ≤ 4999) (c0 : 0 ≤ c) (c1 : c < 4096) (hw : ¬ Vc (o + d) k) :
    Calls Try.prog 110 #[.agg #[.int .i64 o, .int .i64 k, .int .i64 s, .int .i64 c], .int .i64 n, .int .i64 d] w fun e w' => e = .returned (.tuple #[.agg #[.int .i64 0, .int .i64 0, .int .i64 0, .int .i64 0], .int .i64 1]) ∧ Gr w w' := by
  have HV := Lib.hid hv
  have HW := Lib.hid hw
  clear hv hw
  go_enter Try.func110, Try.ntmps110
  go_wp2_with fail
  have g0 : Gr w (((w).alloc (Obj.cells #[.int .i64 o, .int .i64 k, .int .i64 s, .int .i64 c] 45)).alloc (Obj.cells #[.int .i64 0, .int .i64 0, .int .i64 0, .int .i64 0] 45)) := Gr.alloc (Gr.alloc (Gr.refl w) _) _
  have bx : Bx (((w).alloc (Obj.cells #[.int .i64 o, .int .i64 k, .int .i64 s, .int .i64 c] 45)).alloc (Obj.cells #[.int .i64 0, .int .i64 0, .int .i64 0, .int .i64 0] 45)) (w.heap.size) [.int .i64 o, .int .i64 k, .int .i64 s, .int .i64 c] := Bx.gr (Bx.at_ (Bx.new (w) [.int .i64 o, .int .i64 k, .int .i64 s, .int .i64 c] 45) (by simp)) (Gr.alloc (Gr.refl _) _)
  have br : Bx (((w).alloc (Obj.cells #[.int .i64 o, .int .i64 k, .int .i64 s, .int .i64 c] 45)).alloc (Obj.cells #[.int .i64 0, .int .i64 0, .int .i64 0, .int .i64 0] 45)) (w.heap.size + 1) [.int .i64 0, .int .i64 0, .int .i64 0, .int .i64 0] := Bx.gr (Bx.at_ (Bx.new ((w).alloc (Obj.cells #[.int .i64 o, .int .i64 k, .int .i64 s, .int .i64 c] 45)) [.int .i64 0, .int .i64 0, .int .i64 0, .int .i64 0] 45) (by simp)) (Gr.refl _)
  generalize ((w).alloc (Obj.cells #[.int .i64 o, .int .i64 k, .int .i64 s, .int .i64 c] 45)).alloc (Obj.cells #[.int .i64 0, .int .i64 0, .int .i64 0, .int .i64 0] 45) = W at g0 bx br ⊢
  have S0 := Lib.hid g0
  have Kx0 := Lib.hid bx
  have Kr0 := Lib.hid br
  clear g0 bx br
  refine (rAdjust_no o k d _ HV.out (by omega) (by omega) HW.out).mono ?_
  rintro e w1 ⟨rfl, hg⟩
  have S1 := Lib.hid (S0.out.trans hg)
  have Kx1 := Lib.hid (Kx0.out.gr hg)
  have Kr1 := Lib.hid (Kr0.out.gr hg)
  clear hg
  have cx0 := Kx1.out.c 0 _ rfl
  have fx0 := Kx1.out.f 0 (by simp)
  have cx1 := Kx1.out.c 1 _ rfl
  have fx1 := Kx1.out.f 1 (by simp)
  have cx2 := Kx1.out.c 2 _ rfl
  have fx2 := Kx1.out.f 2 (by simp)
  have cx3 := Kx1.out.c 3 _ rfl
  have fx3 := Kx1.out.f 3 (by simp)
  have lx := Kx1.out.lt
  have cr0 := Kr1.out.c 0 _ rfl
  have fr0 := Kr1.out.f 0 (by simp)
  have cr1 := Kr1.out.c 1 _ rfl
  have fr1 := Kr1.out.f 1 (by simp)
  have cr2 := Kr1.out.c 2 _ rfl
  have fr2 := Kr1.out.f 2 (by simp)
  have cr3 := Kr1.out.c 3 _ rfl
  have fr3 := Kr1.out.f 3 (by simp)
  have lr := Kr1.out.lt
  go_wp2_with fail
  have g0 : Gr w ((((((w1).setCell ⟨w.heap.size + 1, 0, none⟩ (.int .i64 0)).setCell ⟨w.heap.size + 1, 1, none⟩ (.int .i64 0)).setCell ⟨w.heap.size + 1, 2, none⟩ (.int .i64 0)).setCell ⟨w.heap.size + 1, 3, none⟩ (.int .i64 0)).alloc (Obj.cells #[.int .i64 0, .int .i64 0] 23)) := ((Gr.set ((Gr.set ((Gr.set ((Gr.set (S1.out) (p := ⟨w.heap.size + 1, 0, none⟩) (by simp) _)) (p := ⟨w.heap.size + 1, 1, none⟩) (by simp) _)) (p := ⟨w.heap.size + 1, 2, none⟩) (by simp) _)) (p := ⟨w.heap.size + 1, 3, none⟩) (by simp) _)).alloc _
  have b0 : Bx ((((((w1).setCell ⟨w.heap.size + 1, 0, none⟩ (.int .i64 0)).setCell ⟨w.heap.size + 1, 1, none⟩ (.int .i64 0)).setCell ⟨w.heap.size + 1, 2, none⟩ (.int .i64 0)).setCell ⟨w.heap.size + 1, 3, none⟩ (.int .i64 0)).alloc (Obj.cells #[.int .i64 0, .int .i64 0] 23)) (w.heap.size + 1) [.int .i64 0, .int .i64 0, .int .i64 0, .int .i64 0] := ((Kr1.out.set4 (.int .i64 0) (.int .i64 0) (.int .i64 0) (.int .i64 0))).gr ((Gr.refl _).alloc _)
  generalize (((((w1).setCell ⟨w.heap.size + 1, 0, none⟩ (.int .i64 0)).setCell ⟨w.heap.size + 1, 1, none⟩ (.int .i64 0)).setCell ⟨w.heap.size + 1, 2, none⟩ (.int .i64 0)).setCell ⟨w.heap.size + 1, 3, none⟩ (.int .i64 0)).alloc (Obj.cells #[.int .i64 0, .int .i64 0] 23) = wz at g0 b0 ⊢
  have cr0 := b0.c 0 _ rfl
  have cr1 := b0.c 1 _ rfl
  have cr2 := b0.c 2 _ rfl
  have cr3 := b0.c 3 _ rfl
  refine bodyPost_ret (v := .tuple #[.agg #[.int .i64 0, .int .i64 0, .int .i64 0, .int .i64 0], .int .i64 1]) (by simp [results, Try.results110, go_sem, cr0, cr1, cr2, cr3]) rfl ⟨rfl, g0⟩

end Go.Proofs.Ytpnigndobhbfnaa
