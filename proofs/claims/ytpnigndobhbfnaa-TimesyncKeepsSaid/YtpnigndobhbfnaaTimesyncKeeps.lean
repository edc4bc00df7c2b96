/- TimesyncKeeps: a state is synchronized in the slot of its last correction and the keep slots behind it, and in no other one. For every input the call returns true and each argument reads afterwards as it read before (no condition). -/
import Derived.Test.YtpnigndobhbfnaaAwake10
import Derived.Test.YtpnigndobhbfnaaFrame
set_option linter.unnecessarySimpa false
namespace Go.Proofs.Ytpnigndobhbfnaa
open Go.ChangeShapes Go.WideShapes Go.ChangeAt Go.RowKit Go.Joins
theorem wf_hi {n : Int} (h : (Lit.int .i64 n).wf = true) : n ≤ 9223372036854775807 := by
  simp [Lit.wf, IntKind.min, IntKind.max, IntKind.signed, IntKind.bits] at h
  omega
theorem Syn_b (o k s c n p : Int) (b : Bool) (w : World) (h : sySh ⟨o, k, s, c⟩ n p = b) (hn : n ≤ 9223372036854775807) :
    Calls Try.prog 68 #[.agg #[.int .i64 o, .int .i64 k, .int .i64 s, .int .i64 c], .int .i64 n, .int .i64 p] w fun e w' => e = .returned (.bool b) ∧ Gr w w' := by
  rw [← h]; exact Syn_any o k s c n p w hn

set_option maxHeartbeats 400000 in
theorem TimesyncKeeps_a (o k s c n p : Int) (w : World) (HN : n ≤ 9223372036854775807) (hy : sySh ⟨o, k, s, c⟩ n p = false) (hv : ¬ Vs o k s c) :
    Calls Try.prog 14 #[.agg #[.int .i64 o, .int .i64 k, .int .i64 s, .int .i64 c], .int .i64 n, .int .i64 p] w fun e w' => e = .returned (.bool true) ∧ Gr w w' := by
  have HV := Lib.hid hv
  have HY := Lib.hid hy
  clear hv hy
  go_enter Try.func14, Try.ntmps14
  go_wp2_with fail
  have g0 : Gr w ((w).alloc (Obj.cells #[.int .i64 o, .int .i64 k, .int .i64 s, .int .i64 c] 45)) := Gr.alloc (Gr.refl w) _
  have bx : Bx ((w).alloc (Obj.cells #[.int .i64 o, .int .i64 k, .int .i64 s, .int .i64 c] 45)) (w.heap.size) [.int .i64 o, .int .i64 k, .int .i64 s, .int .i64 c] := Bx.gr (Bx.at_ (Bx.new (w) [.int .i64 o, .int .i64 k, .int .i64 s, .int .i64 c] 45) (by simp)) (Gr.refl _)
  generalize (w).alloc (Obj.cells #[.int .i64 o, .int .i64 k, .int .i64 s, .int .i64 c] 45) = W at g0 bx ⊢
  have S0 := Lib.hid g0
  have Kx0 := Lib.hid bx
  clear g0 bx
  refine (awake10 _).mono ?_
  rintro e w1 ⟨rfl, hg⟩
  have S1 := Lib.hid (S0.out.trans hg)
  have Kx1 := Lib.hid (Kx0.out.gr hg)
  clear hg
  have cx0 := Kx1.out.c 0 _ rfl
  have cx1 := Kx1.out.c 1 _ rfl
  have cx2 := Kx1.out.c 2 _ rfl
  have cx3 := Kx1.out.c 3 _ rfl
  have lx := Kx1.out.lt
  go_wp2_with fail
  all_goals (try clear cx0 cx1 cx2 cx3 lx)
  refine (Syn_b o k s c n p false _ HY.out HN).mono ?_
  rintro e w2 ⟨rfl, hg⟩
  have S2 := Lib.hid (S1.out.trans hg)
  have Kx2 := Lib.hid (Kx1.out.gr hg)
  clear hg
  have cx0 := Kx2.out.c 0 _ rfl
  have cx1 := Kx2.out.c 1 _ rfl
  have cx2 := Kx2.out.c 2 _ rfl
  have cx3 := Kx2.out.c 3 _ rfl
  have lx := Kx2.out.lt
  go_wp2_with fail
  all_goals (try clear cx0 cx1 cx2 cx3 lx)
  refine (Tck_no o k s c _ HV.out).mono ?_
  rintro e w3 ⟨rfl, hg⟩
  have S3 := Lib.hid (S2.out.trans hg)
  have Kx3 := Lib.hid (Kx2.out.gr hg)
  clear hg
  have cx0 := Kx3.out.c 0 _ rfl
  have cx1 := Kx3.out.c 1 _ rfl
  have cx2 := Kx3.out.c 2 _ rfl
  have cx3 := Kx3.out.c 3 _ rfl
  have lx := Kx3.out.lt
  go_wp2_with fail
  all_goals (try clear cx0 cx1 cx2 cx3 lx)
  all_goals go_ret
  all_goals exact ⟨rfl, S3.out⟩


set_option maxHeartbeats 400000 in
theorem TimesyncKeeps_b (o k c n p : Int) (w : World) (HN : n ≤ 9223372036854775807) (hy : sySh ⟨o, k, (-1), c⟩ n p = false) (hv : Vs o k (-1) c) :
    Calls Try.prog 14 #[.agg #[.int .i64 o, .int .i64 k, .int .i64 (-1), .int .i64 c], .int .i64 n, .int .i64 p] w fun e w' => e = .returned (.bool true) ∧ Gr w w' := by
  have HV := Lib.hid hv
  have HY := Lib.hid hy
  clear hv hy
  go_enter Try.func14, Try.ntmps14
  go_wp2_with fail
  have g0 : Gr w ((w).alloc (Obj.cells #[.int .i64 o, .int .i64 k, .int .i64 (-1), .int .i64 c] 45)) := Gr.alloc (Gr.refl w) _
  have bx : Bx ((w).alloc (Obj.cells #[.int .i64 o, .int .i64 k, .int .i64 (-1), .int .i64 c] 45)) (w.heap.size) [.int .i64 o, .int .i64 k, .int .i64 (-1), .int .i64 c] := Bx.gr (Bx.at_ (Bx.new (w) [.int .i64 o, .int .i64 k, .int .i64 (-1), .int .i64 c] 45) (by simp)) (Gr.refl _)
  generalize (w).alloc (Obj.cells #[.int .i64 o, .int .i64 k, .int .i64 (-1), .int .i64 c] 45) = W at g0 bx ⊢
  have S0 := Lib.hid g0
  have Kx0 := Lib.hid bx
  clear g0 bx
  refine (awake10 _).mono ?_
  rintro e w1 ⟨rfl, hg⟩
  have S1 := Lib.hid (S0.out.trans hg)
  have Kx1 := Lib.hid (Kx0.out.gr hg)
  clear hg
  have cx0 := Kx1.out.c 0 _ rfl
  have cx1 := Kx1.out.c 1 _ rfl
  have cx2 := Kx1.out.c 2 _ rfl
  have cx3 := Kx1.out.c 3 _ rfl
  have lx := Kx1.out.lt
  go_wp2_with fail
  all_goals (try clear cx0 cx1 cx2 cx3 lx)
  refine (Syn_b o k (-1) c n p false _ HY.out HN).mono ?_
  rintro e w2 ⟨rfl, hg⟩
  have S2 := Lib.hid (S1.out.trans hg)
  have Kx2 := Lib.hid (Kx1.out.gr hg)
  clear hg
  have cx0 := Kx2.out.c 0 _ rfl
  have cx1 := Kx2.out.c 1 _ rfl
  have cx2 := Kx2.out.c 2 _ rfl
  have cx3 := Kx2.out.c 3 _ rfl
  have lx := Kx2.out.lt
  go_wp2_with fail
  all_goals (try clear cx0 cx1 cx2 cx3 lx)
  refine (Tck_ok o k (-1) c _ HV.out).mono ?_
  rintro e w3 ⟨rfl, hg⟩
  have S3 := Lib.hid (S2.out.trans hg)
  have Kx3 := Lib.hid (Kx2.out.gr hg)
  clear hg
  have cx0 := Kx3.out.c 0 _ rfl
  have cx1 := Kx3.out.c 1 _ rfl
  have cx2 := Kx3.out.c 2 _ rfl
  have cx3 := Kx3.out.c 3 _ rfl
  have lx := Kx3.out.lt
  go_wp2_with fail
  all_goals (try clear cx0 cx1 cx2 cx3 lx)
  all_goals go_ret
  all_goals exact ⟨rfl, S3.out⟩


set_option maxHeartbeats 400000 in
theorem TimesyncKeeps_c (o k s c n p : Int) (w : World) (HN : n ≤ 9223372036854775807) (hy : sySh ⟨o, k, s, c⟩ n p = false) (hv : Vs o k s c) (s0 : 0 ≤ s) (h : p < 0) :
    Calls Try.prog 14 #[.agg #[.int .i64 o, .int .i64 k, .int .i64 s, .int .i64 c], .int .i64 n, .int .i64 p] w fun e w' => e = .returned (.bool true) ∧ Gr w w' := by
  have HV := Lib.hid hv
  have HY := Lib.hid hy
  clear hv hy
  go_enter Try.func14, Try.ntmps14
  go_wp2_with fail
  have g0 : Gr w ((w).alloc (Obj.cells #[.int .i64 o, .int .i64 k, .int .i64 s, .int .i64 c] 45)) := Gr.alloc (Gr.refl w) _
  have bx : Bx ((w).alloc (Obj.cells #[.int .i64 o, .int .i64 k, .int .i64 s, .int .i64 c] 45)) (w.heap.size) [.int .i64 o, .int .i64 k, .int .i64 s, .int .i64 c] := Bx.gr (Bx.at_ (Bx.new (w) [.int .i64 o, .int .i64 k, .int .i64 s, .int .i64 c] 45) (by simp)) (Gr.refl _)
  generalize (w).alloc (Obj.cells #[.int .i64 o, .int .i64 k, .int .i64 s, .int .i64 c] 45) = W at g0 bx ⊢
  have S0 := Lib.hid g0
  have Kx0 := Lib.hid bx
  clear g0 bx
  refine (awake10 _).mono ?_
  rintro e w1 ⟨rfl, hg⟩
  have S1 := Lib.hid (S0.out.trans hg)
  have Kx1 := Lib.hid (Kx0.out.gr hg)
  clear hg
  have cx0 := Kx1.out.c 0 _ rfl
  have cx1 := Kx1.out.c 1 _ rfl
  have cx2 := Kx1.out.c 2 _ rfl
  have cx3 := Kx1.out.c 3 _ rfl
  have lx := Kx1.out.lt
  go_wp2_with fail
  all_goals (try clear cx0 cx1 cx2 cx3 lx)
  refine (Syn_b o k s c n p false _ HY.out HN).mono ?_
  rintro e w2 ⟨rfl, hg⟩
  have S2 := Lib.hid (S1.out.trans hg)
  have Kx2 := Lib.hid (Kx1.out.gr hg)
  clear hg
  have cx0 := Kx2.out.c 0 _ rfl
  have cx1 := Kx2.out.c 1 _ rfl
  have cx2 := Kx2.out.c 2 _ rfl
  have cx3 := Kx2.out.c 3 _ rfl
  have lx := Kx2.out.lt
  go_wp2_with fail
  all_goals (try clear cx0 cx1 cx2 cx3 lx)
  refine (Tck_ok o k s c _ HV.out).mono ?_
  rintro e w3 ⟨rfl, hg⟩
  have S3 := Lib.hid (S2.out.trans hg)
  have Kx3 := Lib.hid (Kx2.out.gr hg)
  clear hg
  have cx0 := Kx3.out.c 0 _ rfl
  have cx1 := Kx3.out.c 1 _ rfl
  have cx2 := Kx3.out.c 2 _ rfl
  have cx3 := Kx3.out.c 3 _ rfl
  have lx := Kx3.out.lt
  go_wp2_with fail
  all_goals (try clear cx0 cx1 cx2 cx3 lx)
  all_goals go_ret
  all_goals exact ⟨rfl, S3.out⟩


set_option maxHeartbeats 400000 in
theorem TimesyncKeeps_d (o k s c n p : Int) (w : World) (HN : n ≤ 9223372036854775807) (hy : sySh ⟨o, k, s, c⟩ n p = false) (hv : Vs o k s c) (s0 : 0 ≤ s) (h0 : 0 ≤ p) (h : n < s) :
    Calls Try.prog 14 #[.agg #[.int .i64 o, .int .i64 k, .int .i64 s, .int .i64 c], .int .i64 n, .int .i64 p] w fun e w' => e = .returned (.bool true) ∧ Gr w w' := by
  have HV := Lib.hid hv
  have HY := Lib.hid hy
  clear hv hy
  go_enter Try.func14, Try.ntmps14
  go_wp2_with fail
  have g0 : Gr w ((w).alloc (Obj.cells #[.int .i64 o, .int .i64 k, .int .i64 s, .int .i64 c] 45)) := Gr.alloc (Gr.refl w) _
  have bx : Bx ((w).alloc (Obj.cells #[.int .i64 o, .int .i64 k, .int .i64 s, .int .i64 c] 45)) (w.heap.size) [.int .i64 o, .int .i64 k, .int .i64 s, .int .i64 c] := Bx.gr (Bx.at_ (Bx.new (w) [.int .i64 o, .int .i64 k, .int .i64 s, .int .i64 c] 45) (by simp)) (Gr.refl _)
  generalize (w).alloc (Obj.cells #[.int .i64 o, .int .i64 k, .int .i64 s, .int .i64 c] 45) = W at g0 bx ⊢
  have S0 := Lib.hid g0
  have Kx0 := Lib.hid bx
  clear g0 bx
  refine (awake10 _).mono ?_
  rintro e w1 ⟨rfl, hg⟩
  have S1 := Lib.hid (S0.out.trans hg)
  have Kx1 := Lib.hid (Kx0.out.gr hg)
  clear hg
  have cx0 := Kx1.out.c 0 _ rfl
  have cx1 := Kx1.out.c 1 _ rfl
  have cx2 := Kx1.out.c 2 _ rfl
  have cx3 := Kx1.out.c 3 _ rfl
  have lx := Kx1.out.lt
  go_wp2_with fail
  all_goals (try clear cx0 cx1 cx2 cx3 lx)
  refine (Syn_b o k s c n p false _ HY.out HN).mono ?_
  rintro e w2 ⟨rfl, hg⟩
  have S2 := Lib.hid (S1.out.trans hg)
  have Kx2 := Lib.hid (Kx1.out.gr hg)
  clear hg
  have cx0 := Kx2.out.c 0 _ rfl
  have cx1 := Kx2.out.c 1 _ rfl
  have cx2 := Kx2.out.c 2 _ rfl
  have cx3 := Kx2.out.c 3 _ rfl
  have lx := Kx2.out.lt
  go_wp2_with fail
  all_goals (try clear cx0 cx1 cx2 cx3 lx)
  refine (Tck_ok o k s c _ HV.out).mono ?_
  rintro e w3 ⟨rfl, hg⟩
  have S3 := Lib.hid (S2.out.trans hg)
  have Kx3 := Lib.hid (Kx2.out.gr hg)
  clear hg
  have cx0 := Kx3.out.c 0 _ rfl
  have cx1 := Kx3.out.c 1 _ rfl
  have cx2 := Kx3.out.c 2 _ rfl
  have cx3 := Kx3.out.c 3 _ rfl
  have lx := Kx3.out.lt
  go_wp2_with fail
  all_goals (try clear cx0 cx1 cx2 cx3 lx)
  all_goals go_ret
  all_goals exact ⟨rfl, S3.out⟩


set_option maxHeartbeats 400000 in
theorem TimesyncKeeps_et (o k s c n p : Int) (w : World) (HN : n ≤ 9223372036854775807) (hy : sySh ⟨o, k, s, c⟩ n p = true) (hv : Vs o k s c) (s0 : 0 ≤ s) (h : s ≤ n) (h0 : 1000000 < p) :
    Calls Try.prog 14 #[.agg #[.int .i64 o, .int .i64 k, .int .i64 s, .int .i64 c], .int .i64 n, .int .i64 p] w fun e w' => e = .returned (.bool true) ∧ Gr w w' := by
  have HV := Lib.hid hv
  have HY := Lib.hid hy
  clear hv hy
  go_enter Try.func14, Try.ntmps14
  go_wp2_with fail
  have g0 : Gr w ((w).alloc (Obj.cells #[.int .i64 o, .int .i64 k, .int .i64 s, .int .i64 c] 45)) := Gr.alloc (Gr.refl w) _
  have bx : Bx ((w).alloc (Obj.cells #[.int .i64 o, .int .i64 k, .int .i64 s, .int .i64 c] 45)) (w.heap.size) [.int .i64 o, .int .i64 k, .int .i64 s, .int .i64 c] := Bx.gr (Bx.at_ (Bx.new (w) [.int .i64 o, .int .i64 k, .int .i64 s, .int .i64 c] 45) (by simp)) (Gr.refl _)
  generalize (w).alloc (Obj.cells #[.int .i64 o, .int .i64 k, .int .i64 s, .int .i64 c] 45) = W at g0 bx ⊢
  have S0 := Lib.hid g0
  have Kx0 := Lib.hid bx
  clear g0 bx
  refine (awake10 _).mono ?_
  rintro e w1 ⟨rfl, hg⟩
  have S1 := Lib.hid (S0.out.trans hg)
  have Kx1 := Lib.hid (Kx0.out.gr hg)
  clear hg
  have cx0 := Kx1.out.c 0 _ rfl
  have cx1 := Kx1.out.c 1 _ rfl
  have cx2 := Kx1.out.c 2 _ rfl
  have cx3 := Kx1.out.c 3 _ rfl
  have lx := Kx1.out.lt
  go_wp2_with fail
  all_goals (try clear cx0 cx1 cx2 cx3 lx)
  refine (Syn_b o k s c n p true _ HY.out HN).mono ?_
  rintro e w2 ⟨rfl, hg⟩
  have S2 := Lib.hid (S1.out.trans hg)
  have Kx2 := Lib.hid (Kx1.out.gr hg)
  clear hg
  have cx0 := Kx2.out.c 0 _ rfl
  have cx1 := Kx2.out.c 1 _ rfl
  have cx2 := Kx2.out.c 2 _ rfl
  have cx3 := Kx2.out.c 3 _ rfl
  have lx := Kx2.out.lt
  go_wp2_with fail
  all_goals (try clear cx0 cx1 cx2 cx3 lx)
  refine (Tck_ok o k s c _ HV.out).mono ?_
  rintro e w3 ⟨rfl, hg⟩
  have S3 := Lib.hid (S2.out.trans hg)
  have Kx3 := Lib.hid (Kx2.out.gr hg)
  clear hg
  have cx0 := Kx3.out.c 0 _ rfl
  have cx1 := Kx3.out.c 1 _ rfl
  have cx2 := Kx3.out.c 2 _ rfl
  have cx3 := Kx3.out.c 3 _ rfl
  have lx := Kx3.out.lt
  go_wp2_with fail
  all_goals (try clear cx0 cx1 cx2 cx3 lx)
  all_goals go_ret
  all_goals exact ⟨rfl, S3.out⟩


set_option maxHeartbeats 400000 in
theorem TimesyncKeeps_ft (o k s c n p : Int) (w : World) (HN : n ≤ 9223372036854775807) (hy : sySh ⟨o, k, s, c⟩ n p = true) (hv : Vs o k s c) (s0 : 0 ≤ s) (h : s ≤ n) (h0 : 0 ≤ p) (h1 : p ≤ 1000000) (h2 : 1099511627776 < n) :
    Calls Try.prog 14 #[.agg #[.int .i64 o, .int .i64 k, .int .i64 s, .int .i64 c], .int .i64 n, .int .i64 p] w fun e w' => e = .returned (.bool true) ∧ Gr w w' := by
  have HV := Lib.hid hv
  have HY := Lib.hid hy
  clear hv hy
  go_enter Try.func14, Try.ntmps14
  go_wp2_with fail
  have g0 : Gr w ((w).alloc (Obj.cells #[.int .i64 o, .int .i64 k, .int .i64 s, .int .i64 c] 45)) := Gr.alloc (Gr.refl w) _
  have bx : Bx ((w).alloc (Obj.cells #[.int .i64 o, .int .i64 k, .int .i64 s, .int .i64 c] 45)) (w.heap.size) [.int .i64 o, .int .i64 k, .int .i64 s, .int .i64 c] := Bx.gr (Bx.at_ (Bx.new (w) [.int .i64 o, .int .i64 k, .int .i64 s, .int .i64 c] 45) (by simp)) (Gr.refl _)
  generalize (w).alloc (Obj.cells #[.int .i64 o, .int .i64 k, .int .i64 s, .int .i64 c] 45) = W at g0 bx ⊢
  have S0 := Lib.hid g0
  have Kx0 := Lib.hid bx
  clear g0 bx
  refine (awake10 _).mono ?_
  rintro e w1 ⟨rfl, hg⟩
  have S1 := Lib.hid (S0.out.trans hg)
  have Kx1 := Lib.hid (Kx0.out.gr hg)
  clear hg
  have cx0 := Kx1.out.c 0 _ rfl
  have cx1 := Kx1.out.c 1 _ rfl
  have cx2 := Kx1.out.c 2 _ rfl
  have cx3 := Kx1.out.c 3 _ rfl
  have lx := Kx1.out.lt
  go_wp2_with fail
  all_goals (try clear cx0 cx1 cx2 cx3 lx)
  refine (Syn_b o k s c n p true _ HY.out HN).mono ?_
  rintro e w2 ⟨rfl, hg⟩
  have S2 := Lib.hid (S1.out.trans hg)
  have Kx2 := Lib.hid (Kx1.out.gr hg)
  clear hg
  have cx0 := Kx2.out.c 0 _ rfl
  have cx1 := Kx2.out.c 1 _ rfl
  have cx2 := Kx2.out.c 2 _ rfl
  have cx3 := Kx2.out.c 3 _ rfl
  have lx := Kx2.out.lt
  go_wp2_with fail
  all_goals (try clear cx0 cx1 cx2 cx3 lx)
  refine (Tck_ok o k s c _ HV.out).mono ?_
  rintro e w3 ⟨rfl, hg⟩
  have S3 := Lib.hid (S2.out.trans hg)
  have Kx3 := Lib.hid (Kx2.out.gr hg)
  clear hg
  have cx0 := Kx3.out.c 0 _ rfl
  have cx1 := Kx3.out.c 1 _ rfl
  have cx2 := Kx3.out.c 2 _ rfl
  have cx3 := Kx3.out.c 3 _ rfl
  have lx := Kx3.out.lt
  go_wp2_with fail
  all_goals (try clear cx0 cx1 cx2 cx3 lx)
  all_goals go_ret
  all_goals exact ⟨rfl, S3.out⟩


set_option maxHeartbeats 400000 in
theorem TimesyncKeeps_gt (o k s c n p : Int) (w : World) (HN : n ≤ 9223372036854775807) (hy : sySh ⟨o, k, s, c⟩ n p = true) (hv : Vs o k s c) (s0 : 0 ≤ s) (h : s ≤ n) (h0 : 0 ≤ p) (h1 : p ≤ 1000000) (h2 : n ≤ 1099511627776) (h3 : n ≤ s + p) :
    Calls Try.prog 14 #[.agg #[.int .i64 o, .int .i64 k, .int .i64 s, .int .i64 c], .int .i64 n, .int .i64 p] w fun e w' => e = .returned (.bool true) ∧ Gr w w' := by
  have e2 : decide (n ≤ s + p) = true := decide_eq_true (by omega)
  have HV := Lib.hid hv
  have HY := Lib.hid hy
  clear hv hy
  go_enter Try.func14, Try.ntmps14
  go_wp2_with fail
  have g0 : Gr w ((w).alloc (Obj.cells #[.int .i64 o, .int .i64 k, .int .i64 s, .int .i64 c] 45)) := Gr.alloc (Gr.refl w) _
  have bx : Bx ((w).alloc (Obj.cells #[.int .i64 o, .int .i64 k, .int .i64 s, .int .i64 c] 45)) (w.heap.size) [.int .i64 o, .int .i64 k, .int .i64 s, .int .i64 c] := Bx.gr (Bx.at_ (Bx.new (w) [.int .i64 o, .int .i64 k, .int .i64 s, .int .i64 c] 45) (by simp)) (Gr.refl _)
  generalize (w).alloc (Obj.cells #[.int .i64 o, .int .i64 k, .int .i64 s, .int .i64 c] 45) = W at g0 bx ⊢
  have S0 := Lib.hid g0
  have Kx0 := Lib.hid bx
  clear g0 bx
  refine (awake10 _).mono ?_
  rintro e w1 ⟨rfl, hg⟩
  have S1 := Lib.hid (S0.out.trans hg)
  have Kx1 := Lib.hid (Kx0.out.gr hg)
  clear hg
  have cx0 := Kx1.out.c 0 _ rfl
  have cx1 := Kx1.out.c 1 _ rfl
  have cx2 := Kx1.out.c 2 _ rfl
  have cx3 := Kx1.out.c 3 _ rfl
  have lx := Kx1.out.lt
  go_wp2_with fail
  all_goals (try clear cx0 cx1 cx2 cx3 lx)
  refine (Syn_b o k s c n p true _ HY.out HN).mono ?_
  rintro e w2 ⟨rfl, hg⟩
  have S2 := Lib.hid (S1.out.trans hg)
  have Kx2 := Lib.hid (Kx1.out.gr hg)
  clear hg
  have cx0 := Kx2.out.c 0 _ rfl
  have cx1 := Kx2.out.c 1 _ rfl
  have cx2 := Kx2.out.c 2 _ rfl
  have cx3 := Kx2.out.c 3 _ rfl
  have lx := Kx2.out.lt
  go_wp2_with fail
  all_goals (try clear cx0 cx1 cx2 cx3 lx)
  refine (Tck_ok o k s c _ HV.out).mono ?_
  rintro e w3 ⟨rfl, hg⟩
  have S3 := Lib.hid (S2.out.trans hg)
  have Kx3 := Lib.hid (Kx2.out.gr hg)
  clear hg
  have cx0 := Kx3.out.c 0 _ rfl
  have cx1 := Kx3.out.c 1 _ rfl
  have cx2 := Kx3.out.c 2 _ rfl
  have cx3 := Kx3.out.c 3 _ rfl
  have lx := Kx3.out.lt
  go_wp2_with fail
  all_goals (try clear cx0 cx1 cx2 cx3 lx)
  all_goals go_ret
  all_goals exact ⟨rfl, S3.out⟩


set_option maxHeartbeats 400000 in
theorem TimesyncKeeps_ef (o k s c n p : Int) (w : World) (HN : n ≤ 9223372036854775807) (hy : sySh ⟨o, k, s, c⟩ n p = false) (hv : Vs o k s c) (s0 : 0 ≤ s) (h : s ≤ n) (h0 : 1000000 < p) :
    Calls Try.prog 14 #[.agg #[.int .i64 o, .int .i64 k, .int .i64 s, .int .i64 c], .int .i64 n, .int .i64 p] w fun e w' => e = .returned (.bool true) ∧ Gr w w' := by
  have HV := Lib.hid hv
  have HY := Lib.hid hy
  clear hv hy
  go_enter Try.func14, Try.ntmps14
  go_wp2_with fail
  have g0 : Gr w ((w).alloc (Obj.cells #[.int .i64 o, .int .i64 k, .int .i64 s, .int .i64 c] 45)) := Gr.alloc (Gr.refl w) _
  have bx : Bx ((w).alloc (Obj.cells #[.int .i64 o, .int .i64 k, .int .i64 s, .int .i64 c] 45)) (w.heap.size) [.int .i64 o, .int .i64 k, .int .i64 s, .int .i64 c] := Bx.gr (Bx.at_ (Bx.new (w) [.int .i64 o, .int .i64 k, .int .i64 s, .int .i64 c] 45) (by simp)) (Gr.refl _)
  generalize (w).alloc (Obj.cells #[.int .i64 o, .int .i64 k, .int .i64 s, .int .i64 c] 45) = W at g0 bx ⊢
  have S0 := Lib.hid g0
  have Kx0 := Lib.hid bx
  clear g0 bx
  refine (awake10 _).mono ?_
  rintro e w1 ⟨rfl, hg⟩
  have S1 := Lib.hid (S0.out.trans hg)
  have Kx1 := Lib.hid (Kx0.out.gr hg)
  clear hg
  have cx0 := Kx1.out.c 0 _ rfl
  have cx1 := Kx1.out.c 1 _ rfl
  have cx2 := Kx1.out.c 2 _ rfl
  have cx3 := Kx1.out.c 3 _ rfl
  have lx := Kx1.out.lt
  go_wp2_with fail
  all_goals (try clear cx0 cx1 cx2 cx3 lx)
  refine (Syn_b o k s c n p false _ HY.out HN).mono ?_
  rintro e w2 ⟨rfl, hg⟩
  have S2 := Lib.hid (S1.out.trans hg)
  have Kx2 := Lib.hid (Kx1.out.gr hg)
  clear hg
  have cx0 := Kx2.out.c 0 _ rfl
  have cx1 := Kx2.out.c 1 _ rfl
  have cx2 := Kx2.out.c 2 _ rfl
  have cx3 := Kx2.out.c 3 _ rfl
  have lx := Kx2.out.lt
  go_wp2_with fail
  all_goals (try clear cx0 cx1 cx2 cx3 lx)
  refine (Tck_ok o k s c _ HV.out).mono ?_
  rintro e w3 ⟨rfl, hg⟩
  have S3 := Lib.hid (S2.out.trans hg)
  have Kx3 := Lib.hid (Kx2.out.gr hg)
  clear hg
  have cx0 := Kx3.out.c 0 _ rfl
  have cx1 := Kx3.out.c 1 _ rfl
  have cx2 := Kx3.out.c 2 _ rfl
  have cx3 := Kx3.out.c 3 _ rfl
  have lx := Kx3.out.lt
  go_wp2_with fail
  all_goals (try clear cx0 cx1 cx2 cx3 lx)
  all_goals go_ret
  all_goals exact ⟨rfl, S3.out⟩


set_option maxHeartbeats 400000 in
theorem TimesyncKeeps_ff (o k s c n p : Int) (w : World) (HN : n ≤ 9223372036854775807) (hy : sySh ⟨o, k, s, c⟩ n p = false) (hv : Vs o k s c) (s0 : 0 ≤ s) (h : s ≤ n) (h0 : 0 ≤ p) (h1 : p ≤ 1000000) (h2 : 1099511627776 < n) :
    Calls Try.prog 14 #[.agg #[.int .i64 o, .int .i64 k, .int .i64 s, .int .i64 c], .int .i64 n, .int .i64 p] w fun e w' => e = .returned (.bool true) ∧ Gr w w' := by
  have HV := Lib.hid hv
  have HY := Lib.hid hy
  clear hv hy
  go_enter Try.func14, Try.ntmps14
  go_wp2_with fail
  have g0 : Gr w ((w).alloc (Obj.cells #[.int .i64 o, .int .i64 k, .int .i64 s, .int .i64 c] 45)) := Gr.alloc (Gr.refl w) _
  have bx : Bx ((w).alloc (Obj.cells #[.int .i64 o, .int .i64 k, .int .i64 s, .int .i64 c] 45)) (w.heap.size) [.int .i64 o, .int .i64 k, .int .i64 s, .int .i64 c] := Bx.gr (Bx.at_ (Bx.new (w) [.int .i64 o, .int .i64 k, .int .i64 s, .int .i64 c] 45) (by simp)) (Gr.refl _)
  generalize (w).alloc (Obj.cells #[.int .i64 o, .int .i64 k, .int .i64 s, .int .i64 c] 45) = W at g0 bx ⊢
  have S0 := Lib.hid g0
  have Kx0 := Lib.hid bx
  clear g0 bx
  refine (awake10 _).mono ?_
  rintro e w1 ⟨rfl, hg⟩
  have S1 := Lib.hid (S0.out.trans hg)
  have Kx1 := Lib.hid (Kx0.out.gr hg)
  clear hg
  have cx0 := Kx1.out.c 0 _ rfl
  have cx1 := Kx1.out.c 1 _ rfl
  have cx2 := Kx1.out.c 2 _ rfl
  have cx3 := Kx1.out.c 3 _ rfl
  have lx := Kx1.out.lt
  go_wp2_with fail
  all_goals (try clear cx0 cx1 cx2 cx3 lx)
  refine (Syn_b o k s c n p false _ HY.out HN).mono ?_
  rintro e w2 ⟨rfl, hg⟩
  have S2 := Lib.hid (S1.out.trans hg)
  have Kx2 := Lib.hid (Kx1.out.gr hg)
  clear hg
  have cx0 := Kx2.out.c 0 _ rfl
  have cx1 := Kx2.out.c 1 _ rfl
  have cx2 := Kx2.out.c 2 _ rfl
  have cx3 := Kx2.out.c 3 _ rfl
  have lx := Kx2.out.lt
  go_wp2_with fail
  all_goals (try clear cx0 cx1 cx2 cx3 lx)
  refine (Tck_ok o k s c _ HV.out).mono ?_
  rintro e w3 ⟨rfl, hg⟩
  have S3 := Lib.hid (S2.out.trans hg)
  have Kx3 := Lib.hid (Kx2.out.gr hg)
  clear hg
  have cx0 := Kx3.out.c 0 _ rfl
  have cx1 := Kx3.out.c 1 _ rfl
  have cx2 := Kx3.out.c 2 _ rfl
  have cx3 := Kx3.out.c 3 _ rfl
  have lx := Kx3.out.lt
  go_wp2_with fail
  all_goals (try clear cx0 cx1 cx2 cx3 lx)
  all_goals go_ret
  all_goals exact ⟨rfl, S3.out⟩


set_option maxHeartbeats 400000 in
theorem TimesyncKeeps_gf (o k s c n p : Int) (w : World) (HN : n ≤ 9223372036854775807) (hy : sySh ⟨o, k, s, c⟩ n p = false) (hv : Vs o k s c) (s0 : 0 ≤ s) (h : s ≤ n) (h0 : 0 ≤ p) (h1 : p ≤ 1000000) (h2 : n ≤ 1099511627776) (h3 : s + p < n) :
    Calls Try.prog 14 #[.agg #[.int .i64 o, .int .i64 k, .int .i64 s, .int .i64 c], .int .i64 n, .int .i64 p] w fun e w' => e = .returned (.bool true) ∧ Gr w w' := by
  have e2 : decide (n ≤ s + p) = false := decide_eq_false (by omega)
  have HV := Lib.hid hv
  have HY := Lib.hid hy
  clear hv hy
  go_enter Try.func14, Try.ntmps14
  go_wp2_with fail
  have g0 : Gr w ((w).alloc (Obj.cells #[.int .i64 o, .int .i64 k, .int .i64 s, .int .i64 c] 45)) := Gr.alloc (Gr.refl w) _
  have bx : Bx ((w).alloc (Obj.cells #[.int .i64 o, .int .i64 k, .int .i64 s, .int .i64 c] 45)) (w.heap.size) [.int .i64 o, .int .i64 k, .int .i64 s, .int .i64 c] := Bx.gr (Bx.at_ (Bx.new (w) [.int .i64 o, .int .i64 k, .int .i64 s, .int .i64 c] 45) (by simp)) (Gr.refl _)
  generalize (w).alloc (Obj.cells #[.int .i64 o, .int .i64 k, .int .i64 s, .int .i64 c] 45) = W at g0 bx ⊢
  have S0 := Lib.hid g0
  have Kx0 := Lib.hid bx
  clear g0 bx
  refine (awake10 _).mono ?_
  rintro e w1 ⟨rfl, hg⟩
  have S1 := Lib.hid (S0.out.trans hg)
  have Kx1 := Lib.hid (Kx0.out.gr hg)
  clear hg
  have cx0 := Kx1.out.c 0 _ rfl
  have cx1 := Kx1.out.c 1 _ rfl
  have cx2 := Kx1.out.c 2 _ rfl
  have cx3 := Kx1.out.c 3 _ rfl
  have lx := Kx1.out.lt
  go_wp2_with fail
  all_goals (try clear cx0 cx1 cx2 cx3 lx)
  refine (Syn_b o k s c n p false _ HY.out HN).mono ?_
  rintro e w2 ⟨rfl, hg⟩
  have S2 := Lib.hid (S1.out.trans hg)
  have Kx2 := Lib.hid (Kx1.out.gr hg)
  clear hg
  have cx0 := Kx2.out.c 0 _ rfl
  have cx1 := Kx2.out.c 1 _ rfl
  have cx2 := Kx2.out.c 2 _ rfl
  have cx3 := Kx2.out.c 3 _ rfl
  have lx := Kx2.out.lt
  go_wp2_with fail
  all_goals (try clear cx0 cx1 cx2 cx3 lx)
  refine (Tck_ok o k s c _ HV.out).mono ?_
  rintro e w3 ⟨rfl, hg⟩
  have S3 := Lib.hid (S2.out.trans hg)
  have Kx3 := Lib.hid (Kx2.out.gr hg)
  clear hg
  have cx0 := Kx3.out.c 0 _ rfl
  have cx1 := Kx3.out.c 1 _ rfl
  have cx2 := Kx3.out.c 2 _ rfl
  have cx3 := Kx3.out.c 3 _ rfl
  have lx := Kx3.out.lt
  go_wp2_with fail
  all_goals (try clear cx0 cx1 cx2 cx3 lx)
  all_goals go_ret
  all_goals exact ⟨rfl, S3.out⟩


theorem TimesyncKeeps_walk (o k s c n p : Int) (HN : n ≤ 9223372036854775807) (w : World) : Calls Try.prog 14 #[.agg #[.int .i64 o, .int .i64 k, .int .i64 s, .int .i64 c], .int .i64 n, .int .i64 p] w fun e w' => e = .returned (.bool true) ∧ Gr w w' := by
  by_cases hv : Vs o k s c
  · by_cases hs : s = -1
    · subst hs
      exact TimesyncKeeps_b o k c n p w HN (decide_eq_false (fun x => x.2.1 rfl)) hv
    have s0 : 0 ≤ s := by rcases hv.sl with e | e; exact absurd e hs; exact e.1
    by_cases h : s ≤ n
    · by_cases h0 : p < 0
      · exact TimesyncKeeps_c o k s c n p w HN (decide_eq_false (fun x => by have := x.2.2.2; simp only at this; omega)) hv s0 h0
      by_cases h1 : 1000000 < p
      · cases hb : sySh ⟨o, k, s, c⟩ n p
        · exact TimesyncKeeps_ef o k s c n p w HN hb hv s0 h h1
        · exact TimesyncKeeps_et o k s c n p w HN hb hv s0 h h1
      by_cases h2 : 1099511627776 < n
      · cases hb : sySh ⟨o, k, s, c⟩ n p
        · exact TimesyncKeeps_ff o k s c n p w HN hb hv s0 h (by omega) (by omega) h2
        · exact TimesyncKeeps_ft o k s c n p w HN hb hv s0 h (by omega) (by omega) h2
      by_cases h3 : n ≤ s + p
      · exact TimesyncKeeps_gt o k s c n p w HN (decide_eq_true ⟨hv, hs, h, by simp only; omega⟩) hv s0 h (by omega) (by omega) (by omega) h3
      · exact TimesyncKeeps_gf o k s c n p w HN (decide_eq_false (fun x => by have := x.2.2.2; simp only at this; omega)) hv s0 h (by omega) (by omega) (by omega) (by omega)
    · by_cases h0 : p < 0
      · exact TimesyncKeeps_c o k s c n p w HN (decide_eq_false (fun x => h x.2.2.1)) hv s0 h0
      · exact TimesyncKeeps_d o k s c n p w HN (decide_eq_false (fun x => h x.2.2.1)) hv s0 (by omega) (by omega)
  · exact TimesyncKeeps_a o k s c n p w HN (decide_eq_false (fun x => hv x.1)) hv
set_option maxRecDepth 100000 in
set_option maxHeartbeats 1000000 in
theorem TimesyncKeeps_lifted (os : Os) (started : os.Started) (H : Type) (enc : TypeId × Value → H) :
    ReturnsInHanded {} Try.checked os 14 .any (Rows.timesyncKeepsSpec.pre6 enc Try.prog Try.f14 Rows.timesyncKeepsRow.domain false) (Rows.timesyncKeepsSpec.post enc Try.prog Try.f14 false true false false) := by
  refine returnsInHanded_of_change (C := Try.checked) Try.own started (by kernel_rfl) Try.func14
    (ChangeSpec.witness6 (enc := enc) (C := Try.checked) false ⟨#[], #[.agg #[.int .i64 0, .int .i64 0, .int .i64 0, .int .i64 0], .int .i64 0, .int .i64 0], []⟩ 8 (by kernel_rfl) (by kernel_rfl) (by kernel_rfl) (by kernel_rfl)) ?_
  intro W base args ds gs before hval0 hW hcnd _
  have hval : ∀ (j : Nat) t v, Try.f14.params[j]? = some t → args[j]? = some v → Value.okWide Try.prog W .any base t v := hval0
  have hW' := hW
  obtain ⟨p, q, hA0, hV, rfl, hfz, hnd⟩ := hW
  have hA : DataW.TrodAll enc Try.prog W 0 (fun _ => true) true Try.f14.params.toList args.toList ds p := hA0
  rw [Try.params14] at hA hval
  have hAk := hA
  obtain ⟨v0, vs0, d0, ds0, p0, q0, hargs, rfl, rfl, h0, r0⟩ := trodAll_cons hA
  obtain ⟨v1, vs1, d1, ds1, p1, q1, rfl, rfl, rfl, h1, r1⟩ := trodAll_cons r0
  obtain ⟨v2, vs2, d2, ds2, p2, q2, rfl, rfl, rfl, h2, r2⟩ := trodAll_cons r1
  obtain ⟨rfl, rfl, rfl⟩ := trodAll_nil r2
  obtain rfl : args = #[v0, v1, v2] := by cases args; simp_all
  obtain ⟨rfl, rfl⟩ := trodVars_none hV
  obtain ⟨o, k, s, c, rfl, wfo, wfk, wfs, wfc⟩ := open_synced (hval 0 45 v0 rfl rfl) h0
  obtain ⟨n, rfl, rfl, rfl, wfn⟩ := open_int Try.underlying3 (hval 1 3 v1 rfl rfl) h1
  obtain ⟨p, rfl, rfl, rfl, wfp⟩ := open_int Try.underlying3 (hval 2 3 v2 rfl rfl) h2
  clear hA0 hval0
  simp only [List.append_nil] at hW'
  refine (TimesyncKeeps_walk o k s c n p (wf_hi wfn) W).mono fun e W' ⟨he, hg⟩ => ?_
  subst he
  have hb : Below W.heap.size W W' := hg
  exact ⟨_, rfl, _, _, _, [], _, [], hW', trodAll_mk1 (shut_bool Try.underlying4 _), trodAll_stays Try.laidOut hb _ _ _ _ (by intro t ht; simp at ht; rcases ht with rfl | rfl | rfl <;> exact ⟨by kernel_rfl, of_decide_eq_true (by kernel_rfl)⟩) hAk (fun x hx => by simpa using hW'.lt x (by simpa using hx)), rfl, hb.frame _, fun h => by cases h⟩

theorem TimesyncKeeps_closed : joinedFacts Try.pinned.checked.prog 14 Try.f14 Rows.timesyncKeepsSpec Rows.timesyncKeepsRow = true := by
  unfold joinedFacts
  exact (and_tt (and_tt (and_tt (and_tt (and_tt (and_tt (and_tt (and_tt (and_tt (and_tt (and_tt (and_tt (and_tt (and_tt (and_tt (and_tt (and_tt (and_tt (and_tt (and_tt (and_tt (and_tt (and_tt (and_tt (and_tt (and_tt (and_tt (and_tt (and_tt (and_tt (and_tt (by as_aux_lemma => kernel_rfl) (J_laid)) (J_maps)) (by as_aux_lemma => kernel_rfl)) (by as_aux_lemma => kernel_rfl)) (by as_aux_lemma => kernel_rfl)) (J_stops)) (by as_aux_lemma => kernel_rfl)) (J_knobs)) (by as_aux_lemma => kernel_rfl)) (by as_aux_lemma => kernel_rfl)) (by as_aux_lemma => kernel_rfl)) (by as_aux_lemma => kernel_rfl)) (by as_aux_lemma => kernel_rfl)) (by as_aux_lemma => kernel_rfl)) (by as_aux_lemma => kernel_rfl)) (by as_aux_lemma => kernel_rfl)) (by as_aux_lemma => kernel_rfl)) (by as_aux_lemma => kernel_rfl)) (by as_aux_lemma => kernel_rfl)) (by as_aux_lemma => kernel_rfl)) (by as_aux_lemma => kernel_rfl)) (J_keys)) (by as_aux_lemma => kernel_rfl)) (J_heard)) (J_enter)) (J_lifts)) (J_make)) (by as_aux_lemma => kernel_rfl)) (by as_aux_lemma => kernel_rfl)) (by as_aux_lemma => kernel_rfl)) (by as_aux_lemma => kernel_rfl))

/-- THE STATEMENT TimesyncKeeps. -/
theorem TimesyncKeeps_holds : Rows.TimesyncKeepsSaid :=
  OpenClaim.holds_of_wide 14 Try.f14 rfl rfl rfl rfl rfl rfl rfl ⟨rfl, rfl, rfl, rfl, rfl⟩ rfl rfl rfl rfl rfl (by kernel_rfl) Try.func14 TimesyncKeeps_closed
    (of_decide_eq_true (by kernel_rfl)) (by unfold Func.isWrapper; rw [if_neg (of_decide_eq_false (by kernel_rfl))]; exact ⟨rfl, rfl⟩)
    (fun os started H enc _ => TimesyncKeeps_lifted os started H enc)
#print axioms TimesyncKeeps_holds
end Go.Proofs.Ytpnigndobhbfnaa
