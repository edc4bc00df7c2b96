/- The walks of package guard and its reference, second part: Growth, Length, Step, Spread, Slots. -/
import Derived.Test.YtpnigndobhbfnaaGrdA
namespace Go.Proofs.Ytpnigndobhbfnaa
open Go.RowKit
set_option maxHeartbeats 400000 in
theorem Growth_ok (t k : Int) (w : World) (t0 : 0 ≤ t) (t1 : t ≤ 1099511627776) (k0 : 0 ≤ k) (k1 : k ≤ 100000) :
    Calls Try.prog 55 #[.int .i64 t, .int .i64 k] w fun e w' => e = .returned (.tuple #[.int .i64 (gro t k), .int .i64 0]) ∧ Gr w w' := by
  go_enter Try.func55, Try.ntmps55
  go_wp2_with fail
  have g0 : Gr w ((w).alloc (Obj.cells #[.int .i64 0, .int .i64 0, .int .i64 k] 102)) := Gr.alloc (Gr.refl w) _
  have bx : Bx ((w).alloc (Obj.cells #[.int .i64 0, .int .i64 0, .int .i64 k] 102)) (w.heap.size) [.int .i64 0, .int .i64 0, .int .i64 k] := Bx.gr (Bx.at_ (Bx.new (w) [.int .i64 0, .int .i64 0, .int .i64 k] 102) (by simp)) (Gr.refl _)
  generalize (w).alloc (Obj.cells #[.int .i64 0, .int .i64 0, .int .i64 k] 102) = W at g0 bx ⊢
  have S0 := Lib.hid g0
  have Kx0 := Lib.hid bx
  clear g0 bx
  refine (right_ok 0 0 k _ ⟨by omega, by omega, by omega, by omega, k0, k1⟩).mono ?_
  rintro e w1 ⟨rfl, hg⟩
  have S1 := Lib.hid (S0.out.trans hg)
  have Kx1 := Lib.hid (Kx0.out.gr hg)
  clear hg
  have cx0 := Kx1.out.c 0 _ rfl
  have cx1 := Kx1.out.c 1 _ rfl
  have cx2 := Kx1.out.c 2 _ rfl
  have lx := Kx1.out.lt
  go_wp2_with fail
  all_goals (try clear cx0 cx1 cx2 lx)
  refine (gin_t t 1099511627776 _ t0 t1).mono ?_
  rintro e w2 ⟨rfl, hg⟩
  have S2 := Lib.hid (S1.out.trans hg)
  have Kx2 := Lib.hid (Kx1.out.gr hg)
  clear hg
  have cx0 := Kx2.out.c 0 _ rfl
  have cx1 := Kx2.out.c 1 _ rfl
  have cx2 := Kx2.out.c 2 _ rfl
  have lx := Kx2.out.lt
  go_wp2_with fail
  all_goals (try clear cx0 cx1 cx2 lx)
  refine (growth_any 0 0 k t _ t0 t1 k0 k1).mono ?_
  rintro e w3 ⟨rfl, hg⟩
  have S3 := Lib.hid (S2.out.trans hg)
  have Kx3 := Lib.hid (Kx2.out.gr hg)
  clear hg
  have cx0 := Kx3.out.c 0 _ rfl
  have cx1 := Kx3.out.c 1 _ rfl
  have cx2 := Kx3.out.c 2 _ rfl
  have lx := Kx3.out.lt
  go_wp2_with fail
  all_goals (try clear cx0 cx1 cx2 lx)
  all_goals go_ret2
  all_goals exact ⟨rfl, S3.out⟩


set_option maxHeartbeats 400000 in
theorem Growth_no1 (t k : Int) (w : World) (h : k < 0 ∨ 100000 < k) :
    Calls Try.prog 55 #[.int .i64 t, .int .i64 k] w fun e w' => e = .returned (.tuple #[.int .i64 0, .int .i64 2]) ∧ Gr w w' := by
  have H := Lib.hid h
  clear h
  go_enter Try.func55, Try.ntmps55
  go_wp2_with fail
  have g0 : Gr w ((w).alloc (Obj.cells #[.int .i64 0, .int .i64 0, .int .i64 k] 102)) := Gr.alloc (Gr.refl w) _
  have bx : Bx ((w).alloc (Obj.cells #[.int .i64 0, .int .i64 0, .int .i64 k] 102)) (w.heap.size) [.int .i64 0, .int .i64 0, .int .i64 k] := Bx.gr (Bx.at_ (Bx.new (w) [.int .i64 0, .int .i64 0, .int .i64 k] 102) (by simp)) (Gr.refl _)
  generalize (w).alloc (Obj.cells #[.int .i64 0, .int .i64 0, .int .i64 k] 102) = W at g0 bx ⊢
  have S0 := Lib.hid g0
  have Kx0 := Lib.hid bx
  clear g0 bx
  refine (right_no 0 0 k _ (fun h => by have := h.k0; have := h.k1; have := H.out; omega)).mono ?_
  rintro e w1 ⟨rfl, hg⟩
  have S1 := Lib.hid (S0.out.trans hg)
  have Kx1 := Lib.hid (Kx0.out.gr hg)
  clear hg
  have cx0 := Kx1.out.c 0 _ rfl
  have cx1 := Kx1.out.c 1 _ rfl
  have cx2 := Kx1.out.c 2 _ rfl
  have lx := Kx1.out.lt
  go_wp2_with fail
  all_goals (try clear cx0 cx1 cx2 lx)
  all_goals go_ret2
  all_goals exact ⟨rfl, S1.out⟩


set_option maxHeartbeats 400000 in
theorem Growth_no2 (t k : Int) (w : World) (k0 : 0 ≤ k) (k1 : k ≤ 100000) (h : t < 0 ∨ 1099511627776 < t) :
    Calls Try.prog 55 #[.int .i64 t, .int .i64 k] w fun e w' => e = .returned (.tuple #[.int .i64 0, .int .i64 2]) ∧ Gr w w' := by
  have H := Lib.hid h
  clear h
  go_enter Try.func55, Try.ntmps55
  go_wp2_with fail
  have g0 : Gr w ((w).alloc (Obj.cells #[.int .i64 0, .int .i64 0, .int .i64 k] 102)) := Gr.alloc (Gr.refl w) _
  have bx : Bx ((w).alloc (Obj.cells #[.int .i64 0, .int .i64 0, .int .i64 k] 102)) (w.heap.size) [.int .i64 0, .int .i64 0, .int .i64 k] := Bx.gr (Bx.at_ (Bx.new (w) [.int .i64 0, .int .i64 0, .int .i64 k] 102) (by simp)) (Gr.refl _)
  generalize (w).alloc (Obj.cells #[.int .i64 0, .int .i64 0, .int .i64 k] 102) = W at g0 bx ⊢
  have S0 := Lib.hid g0
  have Kx0 := Lib.hid bx
  clear g0 bx
  refine (right_ok 0 0 k _ ⟨by omega, by omega, by omega, by omega, k0, k1⟩).mono ?_
  rintro e w1 ⟨rfl, hg⟩
  have S1 := Lib.hid (S0.out.trans hg)
  have Kx1 := Lib.hid (Kx0.out.gr hg)
  clear hg
  have cx0 := Kx1.out.c 0 _ rfl
  have cx1 := Kx1.out.c 1 _ rfl
  have cx2 := Kx1.out.c 2 _ rfl
  have lx := Kx1.out.lt
  go_wp2_with fail
  all_goals (try clear cx0 cx1 cx2 lx)
  refine (gin_f t 1099511627776 _ (by omega) H.out).mono ?_
  rintro e w2 ⟨rfl, hg⟩
  have S2 := Lib.hid (S1.out.trans hg)
  have Kx2 := Lib.hid (Kx1.out.gr hg)
  clear hg
  have cx0 := Kx2.out.c 0 _ rfl
  have cx1 := Kx2.out.c 1 _ rfl
  have cx2 := Kx2.out.c 2 _ rfl
  have lx := Kx2.out.lt
  go_wp2_with fail
  all_goals (try clear cx0 cx1 cx2 lx)
  all_goals go_ret2
  all_goals exact ⟨rfl, S2.out⟩


set_option maxHeartbeats 400000 in
theorem Length_ok (n k : Int) (w : World) (n0 : 0 ≤ n) (n1 : n ≤ 4096) (k0 : 0 ≤ k) (k1 : k ≤ 100000) :
    Calls Try.prog 72 #[.int .i64 n, .int .i64 k] w fun e w' => e = .returned (.tuple #[.int .i64 (len n k), .int .i64 0]) ∧ Gr w w' := by
  go_enter Try.func72, Try.ntmps72
  go_wp2_with fail
  have g0 : Gr w ((w).alloc (Obj.cells #[.int .i64 0, .int .i64 0, .int .i64 k] 102)) := Gr.alloc (Gr.refl w) _
  have bx : Bx ((w).alloc (Obj.cells #[.int .i64 0, .int .i64 0, .int .i64 k] 102)) (w.heap.size) [.int .i64 0, .int .i64 0, .int .i64 k] := Bx.gr (Bx.at_ (Bx.new (w) [.int .i64 0, .int .i64 0, .int .i64 k] 102) (by simp)) (Gr.refl _)
  generalize (w).alloc (Obj.cells #[.int .i64 0, .int .i64 0, .int .i64 k] 102) = W at g0 bx ⊢
  have S0 := Lib.hid g0
  have Kx0 := Lib.hid bx
  clear g0 bx
  have cx0 := Kx0.out.c 0 _ rfl
  have cx1 := Kx0.out.c 1 _ rfl
  have cx2 := Kx0.out.c 2 _ rfl
  have lx := Kx0.out.lt
  go_wp2_with fail
  all_goals (try clear cx0 cx1 cx2 lx)
  refine (ofb_ok 0 0 k n (len n k) 113 _ (enters_of Try.func113 (by kernel_rfl) rfl) ⟨by omega, by omega, by omega, by omega, k0, k1⟩ n0 n1 (fun W => length_any 0 0 k n W n0 (by omega) k0 k1)).mono ?_
  rintro e w1 ⟨rfl, hg⟩
  have S1 := Lib.hid (S0.out.trans hg)
  have Kx1 := Lib.hid (Kx0.out.gr hg)
  clear hg
  have cx0 := Kx1.out.c 0 _ rfl
  have cx1 := Kx1.out.c 1 _ rfl
  have cx2 := Kx1.out.c 2 _ rfl
  have lx := Kx1.out.lt
  go_wp2_with fail
  all_goals (try clear cx0 cx1 cx2 lx)
  all_goals go_ret2
  all_goals exact ⟨rfl, S1.out⟩


set_option maxHeartbeats 400000 in
theorem Length_no1 (n k : Int) (w : World) (h : k < 0 ∨ 100000 < k) :
    Calls Try.prog 72 #[.int .i64 n, .int .i64 k] w fun e w' => e = .returned (.tuple #[.int .i64 0, .int .i64 2]) ∧ Gr w w' := by
  have H := Lib.hid h
  clear h
  go_enter Try.func72, Try.ntmps72
  go_wp2_with fail
  have g0 : Gr w ((w).alloc (Obj.cells #[.int .i64 0, .int .i64 0, .int .i64 k] 102)) := Gr.alloc (Gr.refl w) _
  have bx : Bx ((w).alloc (Obj.cells #[.int .i64 0, .int .i64 0, .int .i64 k] 102)) (w.heap.size) [.int .i64 0, .int .i64 0, .int .i64 k] := Bx.gr (Bx.at_ (Bx.new (w) [.int .i64 0, .int .i64 0, .int .i64 k] 102) (by simp)) (Gr.refl _)
  generalize (w).alloc (Obj.cells #[.int .i64 0, .int .i64 0, .int .i64 k] 102) = W at g0 bx ⊢
  have S0 := Lib.hid g0
  have Kx0 := Lib.hid bx
  clear g0 bx
  have cx0 := Kx0.out.c 0 _ rfl
  have cx1 := Kx0.out.c 1 _ rfl
  have cx2 := Kx0.out.c 2 _ rfl
  have lx := Kx0.out.lt
  go_wp2_with fail
  all_goals (try clear cx0 cx1 cx2 lx)
  refine (ofb_no1 0 0 k n _ _ (fun h => by have := h.k0; have := h.k1; have := H.out; omega)).mono ?_
  rintro e w1 ⟨rfl, hg⟩
  have S1 := Lib.hid (S0.out.trans hg)
  have Kx1 := Lib.hid (Kx0.out.gr hg)
  clear hg
  have cx0 := Kx1.out.c 0 _ rfl
  have cx1 := Kx1.out.c 1 _ rfl
  have cx2 := Kx1.out.c 2 _ rfl
  have lx := Kx1.out.lt
  go_wp2_with fail
  all_goals (try clear cx0 cx1 cx2 lx)
  all_goals go_ret2
  all_goals exact ⟨rfl, S1.out⟩


set_option maxHeartbeats 400000 in
theorem Length_no2 (n k : Int) (w : World) (k0 : 0 ≤ k) (k1 : k ≤ 100000) (h : n < 0 ∨ 4096 < n) :
    Calls Try.prog 72 #[.int .i64 n, .int .i64 k] w fun e w' => e = .returned (.tuple #[.int .i64 0, .int .i64 2]) ∧ Gr w w' := by
  have H := Lib.hid h
  clear h
  go_enter Try.func72, Try.ntmps72
  go_wp2_with fail
  have g0 : Gr w ((w).alloc (Obj.cells #[.int .i64 0, .int .i64 0, .int .i64 k] 102)) := Gr.alloc (Gr.refl w) _
  have bx : Bx ((w).alloc (Obj.cells #[.int .i64 0, .int .i64 0, .int .i64 k] 102)) (w.heap.size) [.int .i64 0, .int .i64 0, .int .i64 k] := Bx.gr (Bx.at_ (Bx.new (w) [.int .i64 0, .int .i64 0, .int .i64 k] 102) (by simp)) (Gr.refl _)
  generalize (w).alloc (Obj.cells #[.int .i64 0, .int .i64 0, .int .i64 k] 102) = W at g0 bx ⊢
  have S0 := Lib.hid g0
  have Kx0 := Lib.hid bx
  clear g0 bx
  have cx0 := Kx0.out.c 0 _ rfl
  have cx1 := Kx0.out.c 1 _ rfl
  have cx2 := Kx0.out.c 2 _ rfl
  have lx := Kx0.out.lt
  go_wp2_with fail
  all_goals (try clear cx0 cx1 cx2 lx)
  refine (ofb_no2 0 0 k n _ _ ⟨by omega, by omega, by omega, by omega, k0, k1⟩ H.out).mono ?_
  rintro e w1 ⟨rfl, hg⟩
  have S1 := Lib.hid (S0.out.trans hg)
  have Kx1 := Lib.hid (Kx0.out.gr hg)
  clear hg
  have cx0 := Kx1.out.c 0 _ rfl
  have cx1 := Kx1.out.c 1 _ rfl
  have cx2 := Kx1.out.c 2 _ rfl
  have lx := Kx1.out.lt
  go_wp2_with fail
  all_goals (try clear cx0 cx1 cx2 lx)
  all_goals go_ret2
  all_goals exact ⟨rfl, S1.out⟩


set_option maxHeartbeats 400000 in
theorem Step_ok (n k : Int) (w : World) (n0 : 0 ≤ n) (n1 : n ≤ 4096) (k0 : 0 ≤ k) (k1 : k ≤ 100000) :
    Calls Try.prog 74 #[.int .i64 n, .int .i64 k] w fun e w' => e = .returned (.tuple #[.int .i64 (stp n k), .int .i64 0]) ∧ Gr w w' := by
  go_enter Try.func74, Try.ntmps74
  go_wp2_with fail
  have g0 : Gr w ((w).alloc (Obj.cells #[.int .i64 0, .int .i64 0, .int .i64 k] 102)) := Gr.alloc (Gr.refl w) _
  have bx : Bx ((w).alloc (Obj.cells #[.int .i64 0, .int .i64 0, .int .i64 k] 102)) (w.heap.size) [.int .i64 0, .int .i64 0, .int .i64 k] := Bx.gr (Bx.at_ (Bx.new (w) [.int .i64 0, .int .i64 0, .int .i64 k] 102) (by simp)) (Gr.refl _)
  generalize (w).alloc (Obj.cells #[.int .i64 0, .int .i64 0, .int .i64 k] 102) = W at g0 bx ⊢
  have S0 := Lib.hid g0
  have Kx0 := Lib.hid bx
  clear g0 bx
  have cx0 := Kx0.out.c 0 _ rfl
  have cx1 := Kx0.out.c 1 _ rfl
  have cx2 := Kx0.out.c 2 _ rfl
  have lx := Kx0.out.lt
  go_wp2_with fail
  all_goals (try clear cx0 cx1 cx2 lx)
  refine (ofb_ok 0 0 k n (stp n k) 115 _ (enters_of Try.func115 (by kernel_rfl) rfl) ⟨by omega, by omega, by omega, by omega, k0, k1⟩ n0 n1 (fun W => step_any 0 0 k n W n0 (by omega) k0 k1)).mono ?_
  rintro e w1 ⟨rfl, hg⟩
  have S1 := Lib.hid (S0.out.trans hg)
  have Kx1 := Lib.hid (Kx0.out.gr hg)
  clear hg
  have cx0 := Kx1.out.c 0 _ rfl
  have cx1 := Kx1.out.c 1 _ rfl
  have cx2 := Kx1.out.c 2 _ rfl
  have lx := Kx1.out.lt
  go_wp2_with fail
  all_goals (try clear cx0 cx1 cx2 lx)
  all_goals go_ret2
  all_goals exact ⟨rfl, S1.out⟩


set_option maxHeartbeats 400000 in
theorem Step_no1 (n k : Int) (w : World) (h : k < 0 ∨ 100000 < k) :
    Calls Try.prog 74 #[.int .i64 n, .int .i64 k] w fun e w' => e = .returned (.tuple #[.int .i64 0, .int .i64 2]) ∧ Gr w w' := by
  have H := Lib.hid h
  clear h
  go_enter Try.func74, Try.ntmps74
  go_wp2_with fail
  have g0 : Gr w ((w).alloc (Obj.cells #[.int .i64 0, .int .i64 0, .int .i64 k] 102)) := Gr.alloc (Gr.refl w) _
  have bx : Bx ((w).alloc (Obj.cells #[.int .i64 0, .int .i64 0, .int .i64 k] 102)) (w.heap.size) [.int .i64 0, .int .i64 0, .int .i64 k] := Bx.gr (Bx.at_ (Bx.new (w) [.int .i64 0, .int .i64 0, .int .i64 k] 102) (by simp)) (Gr.refl _)
  generalize (w).alloc (Obj.cells #[.int .i64 0, .int .i64 0, .int .i64 k] 102) = W at g0 bx ⊢
  have S0 := Lib.hid g0
  have Kx0 := Lib.hid bx
  clear g0 bx
  have cx0 := Kx0.out.c 0 _ rfl
  have cx1 := Kx0.out.c 1 _ rfl
  have cx2 := Kx0.out.c 2 _ rfl
  have lx := Kx0.out.lt
  go_wp2_with fail
  all_goals (try clear cx0 cx1 cx2 lx)
  refine (ofb_no1 0 0 k n _ _ (fun h => by have := h.k0; have := h.k1; have := H.out; omega)).mono ?_
  rintro e w1 ⟨rfl, hg⟩
  have S1 := Lib.hid (S0.out.trans hg)
  have Kx1 := Lib.hid (Kx0.out.gr hg)
  clear hg
  have cx0 := Kx1.out.c 0 _ rfl
  have cx1 := Kx1.out.c 1 _ rfl
  have cx2 := Kx1.out.c 2 _ rfl
  have lx := Kx1.out.lt
  go_wp2_with fail
  all_goals (try clear cx0 cx1 cx2 lx)
  all_goals go_ret2
  all_goals exact ⟨rfl, S1.out⟩


set_option maxHeartbeats 400000 in
theorem Step_no2 (n k : Int) (w : World) (k0 : 0 ≤ k) (k1 : k ≤ 100000) (h : n < 0 ∨ 4096 < n) :
    Calls Try.prog 74 #[.int .i64 n, .int .i64 k] w fun e w' => e = .returned (.tuple #[.int .i64 0, .int .i64 2]) ∧ Gr w w' := by
  have H := Lib.hid h
  clear h
  go_enter Try.func74, Try.ntmps74
  go_wp2_with fail
  have g0 : Gr w ((w).alloc (Obj.cells #[.int .i64 0, .int .i64 0, .int .i64 k] 102)) := Gr.alloc (Gr.refl w) _
  have bx : Bx ((w).alloc (Obj.cells #[.int .i64 0, .int .i64 0, .int .i64 k] 102)) (w.heap.size) [.int .i64 0, .int .i64 0, .int .i64 k] := Bx.gr (Bx.at_ (Bx.new (w) [.int .i64 0, .int .i64 0, .int .i64 k] 102) (by simp)) (Gr.refl _)
  generalize (w).alloc (Obj.cells #[.int .i64 0, .int .i64 0, .int .i64 k] 102) = W at g0 bx ⊢
  have S0 := Lib.hid g0
  have Kx0 := Lib.hid bx
  clear g0 bx
  have cx0 := Kx0.out.c 0 _ rfl
  have cx1 := Kx0.out.c 1 _ rfl
  have cx2 := Kx0.out.c 2 _ rfl
  have lx := Kx0.out.lt
  go_wp2_with fail
  all_goals (try clear cx0 cx1 cx2 lx)
  refine (ofb_no2 0 0 k n _ _ ⟨by omega, by omega, by omega, by omega, k0, k1⟩ H.out).mono ?_
  rintro e w1 ⟨rfl, hg⟩
  have S1 := Lib.hid (S0.out.trans hg)
  have Kx1 := Lib.hid (Kx0.out.gr hg)
  clear hg
  have cx0 := Kx1.out.c 0 _ rfl
  have cx1 := Kx1.out.c 1 _ rfl
  have cx2 := Kx1.out.c 2 _ rfl
  have lx := Kx1.out.lt
  go_wp2_with fail
  all_goals (try clear cx0 cx1 cx2 lx)
  all_goals go_ret2
  all_goals exact ⟨rfl, S1.out⟩


set_option maxHeartbeats 400000 in
theorem Spread_ok (a b n k : Int) (w : World) (hr : Rt a b k) (n0 : 0 ≤ n) (n1 : n ≤ 4096) :
    Calls Try.prog 76 #[.int .i64 a, .int .i64 b, .int .i64 n, .int .i64 k] w fun e w' => e = .returned (.tuple #[.int .i64 (spr a b n k), .int .i64 0]) ∧ Gr w w' := by
  have HR := Lib.hid hr
  clear hr
  go_enter Try.func76, Try.ntmps76
  go_wp2_with fail
  have g0 : Gr w ((w).alloc (Obj.cells #[.int .i64 a, .int .i64 b, .int .i64 k] 102)) := Gr.alloc (Gr.refl w) _
  have bx : Bx ((w).alloc (Obj.cells #[.int .i64 a, .int .i64 b, .int .i64 k] 102)) (w.heap.size) [.int .i64 a, .int .i64 b, .int .i64 k] := Bx.gr (Bx.at_ (Bx.new (w) [.int .i64 a, .int .i64 b, .int .i64 k] 102) (by simp)) (Gr.refl _)
  generalize (w).alloc (Obj.cells #[.int .i64 a, .int .i64 b, .int .i64 k] 102) = W at g0 bx ⊢
  have S0 := Lib.hid g0
  have Kx0 := Lib.hid bx
  clear g0 bx
  have cx0 := Kx0.out.c 0 _ rfl
  have cx1 := Kx0.out.c 1 _ rfl
  have cx2 := Kx0.out.c 2 _ rfl
  have lx := Kx0.out.lt
  go_wp2_with fail
  all_goals (try clear cx0 cx1 cx2 lx)
  refine (ofb_ok a b k n (spr a b n k) 116 _ (enters_of Try.func116 (by kernel_rfl) rfl) HR.out n0 n1 (fun W => spread_any a b k n W HR.out n0 (by omega))).mono ?_
  rintro e w1 ⟨rfl, hg⟩
  have S1 := Lib.hid (S0.out.trans hg)
  have Kx1 := Lib.hid (Kx0.out.gr hg)
  clear hg
  have cx0 := Kx1.out.c 0 _ rfl
  have cx1 := Kx1.out.c 1 _ rfl
  have cx2 := Kx1.out.c 2 _ rfl
  have lx := Kx1.out.lt
  go_wp2_with fail
  all_goals (try clear cx0 cx1 cx2 lx)
  all_goals go_ret2
  all_goals exact ⟨rfl, S1.out⟩


set_option maxHeartbeats 400000 in
theorem Spread_no1 (a b n k : Int) (w : World) (hr : ¬ Rt a b k) :
    Calls Try.prog 76 #[.int .i64 a, .int .i64 b, .int .i64 n, .int .i64 k] w fun e w' => e = .returned (.tuple #[.int .i64 0, .int .i64 2]) ∧ Gr w w' := by
  have HR := Lib.hid hr
  clear hr
  go_enter Try.func76, Try.ntmps76
  go_wp2_with fail
  have g0 : Gr w ((w).alloc (Obj.cells #[.int .i64 a, .int .i64 b, .int .i64 k] 102)) := Gr.alloc (Gr.refl w) _
  have bx : Bx ((w).alloc (Obj.cells #[.int .i64 a, .int .i64 b, .int .i64 k] 102)) (w.heap.size) [.int .i64 a, .int .i64 b, .int .i64 k] := Bx.gr (Bx.at_ (Bx.new (w) [.int .i64 a, .int .i64 b, .int .i64 k] 102) (by simp)) (Gr.refl _)
  generalize (w).alloc (Obj.cells #[.int .i64 a, .int .i64 b, .int .i64 k] 102) = W at g0 bx ⊢
  have S0 := Lib.hid g0
  have Kx0 := Lib.hid bx
  clear g0 bx
  have cx0 := Kx0.out.c 0 _ rfl
  have cx1 := Kx0.out.c 1 _ rfl
  have cx2 := Kx0.out.c 2 _ rfl
  have lx := Kx0.out.lt
  go_wp2_with fail
  all_goals (try clear cx0 cx1 cx2 lx)
  refine (ofb_no1 a b k n _ _ HR.out).mono ?_
  rintro e w1 ⟨rfl, hg⟩
  have S1 := Lib.hid (S0.out.trans hg)
  have Kx1 := Lib.hid (Kx0.out.gr hg)
  clear hg
  have cx0 := Kx1.out.c 0 _ rfl
  have cx1 := Kx1.out.c 1 _ rfl
  have cx2 := Kx1.out.c 2 _ rfl
  have lx := Kx1.out.lt
  go_wp2_with fail
  all_goals (try clear cx0 cx1 cx2 lx)
  all_goals go_ret2
  all_goals exact ⟨rfl, S1.out⟩


set_option maxHeartbeats 400000 in
theorem Spread_no2 (a b n k : Int) (w : World) (hr : Rt a b k) (h : n < 0 ∨ 4096 < n) :
    Calls Try.prog 76 #[.int .i64 a, .int .i64 b, .int .i64 n, .int .i64 k] w fun e w' => e = .returned (.tuple #[.int .i64 0, .int .i64 2]) ∧ Gr w w' := by
  have HR := Lib.hid hr
  have H := Lib.hid h
  clear hr h
  go_enter Try.func76, Try.ntmps76
  go_wp2_with fail
  have g0 : Gr w ((w).alloc (Obj.cells #[.int .i64 a, .int .i64 b, .int .i64 k] 102)) := Gr.alloc (Gr.refl w) _
  have bx : Bx ((w).alloc (Obj.cells #[.int .i64 a, .int .i64 b, .int .i64 k] 102)) (w.heap.size) [.int .i64 a, .int .i64 b, .int .i64 k] := Bx.gr (Bx.at_ (Bx.new (w) [.int .i64 a, .int .i64 b, .int .i64 k] 102) (by simp)) (Gr.refl _)
  generalize (w).alloc (Obj.cells #[.int .i64 a, .int .i64 b, .int .i64 k] 102) = W at g0 bx ⊢
  have S0 := Lib.hid g0
  have Kx0 := Lib.hid bx
  clear g0 bx
  have cx0 := Kx0.out.c 0 _ rfl
  have cx1 := Kx0.out.c 1 _ rfl
  have cx2 := Kx0.out.c 2 _ rfl
  have lx := Kx0.out.lt
  go_wp2_with fail
  all_goals (try clear cx0 cx1 cx2 lx)
  refine (ofb_no2 a b k n _ _ HR.out H.out).mono ?_
  rintro e w1 ⟨rfl, hg⟩
  have S1 := Lib.hid (S0.out.trans hg)
  have Kx1 := Lib.hid (Kx0.out.gr hg)
  clear hg
  have cx0 := Kx1.out.c 0 _ rfl
  have cx1 := Kx1.out.c 1 _ rfl
  have cx2 := Kx1.out.c 2 _ rfl
  have lx := Kx1.out.lt
  go_wp2_with fail
  all_goals (try clear cx0 cx1 cx2 lx)
  all_goals go_ret2
  all_goals exact ⟨rfl, S1.out⟩


set_option maxHeartbeats 400000 in
theorem slots1_any (a b k t : Int) (B : Nat) (w : World) (hr : Rt a b k) (t0 : 0 ≤ t) (t1 : t < 4096) (kb : Bx w B [.int .i64 a, .int .i64 b, .int .i64 k]) :
    Calls Try.prog 118 #[.int .i64 t, .pointer (some ⟨B, 0, none⟩)] w fun e w' => e = .returned (.bool (decide (1100 < spr a b (t + 1) k))) ∧ Gr w w' := by
  have HR := Lib.hid hr
  have c0 := kb.c 0 _ rfl
  have c1 := kb.c 1 _ rfl
  have c2 := kb.c 2 _ rfl
  clear hr kb
  go_enter Try.func118, Try.ntmps118
  go_wp2_with fail
  clear c0 c1 c2
  refine (spread_any a b k (t + 1) _ HR.out (by omega) (by omega)).mono ?_
  rintro e w1 ⟨rfl, hg⟩
  have S1 := Lib.hid hg
  clear hg
  go_wp2_with fail
  go_ret
  exact ⟨rfl, S1.out⟩

theorem Sr.slo {a b k r : Int} (hr : Rt a b k) (h0 : spr a b 0 k ≤ 1100) (h : Sr (fun t => decide (1100 < spr a b (t + 1) k)) 4096 r) : slo a b k = r := by
  obtain ⟨r0, r1, r2, r3⟩ := h
  refine slo_eq hr.a0 hr.b0 hr.k0 hr.k1 ⟨r0, r1, ?_, ?_⟩
  · rcases r2 with r2 | r2
    · rw [r2]; exact h0
    · have := of_decide_eq_false r2
      rw [Int.sub_add_cancel] at this
      omega
  · rcases r3 with r3 | r3
    · exact Or.inl r3
    · exact Or.inr (of_decide_eq_true r3)

set_option maxHeartbeats 400000 in
theorem Slots_ok (a b k : Int) (w : World) (hr : Rt a b k) (h0 : spr a b 0 k ≤ 1100) :
    Calls Try.prog 78 #[.int .i64 a, .int .i64 b, .int .i64 k] w fun e w' => e = .returned (.tuple #[.int .i64 (slo a b k), .int .i64 0]) ∧ Gr w w' := by
  have H0 := Lib.hid h0
  have HR := Lib.hid hr
  clear hr
  go_enter Try.func78, Try.ntmps78
  go_wp2_with fail
  have g0 : Gr w ((w).alloc (Obj.cells #[.int .i64 a, .int .i64 b, .int .i64 k] 102)) := Gr.alloc (Gr.refl w) _
  have bx : Bx ((w).alloc (Obj.cells #[.int .i64 a, .int .i64 b, .int .i64 k] 102)) (w.heap.size) [.int .i64 a, .int .i64 b, .int .i64 k] := Bx.gr (Bx.at_ (Bx.new (w) [.int .i64 a, .int .i64 b, .int .i64 k] 102) (by simp)) (Gr.refl _)
  generalize (w).alloc (Obj.cells #[.int .i64 a, .int .i64 b, .int .i64 k] 102) = W at g0 bx ⊢
  have S0 := Lib.hid g0
  have Kx0 := Lib.hid bx
  clear g0 bx
  have cx0 := Kx0.out.c 0 _ rfl
  have cx1 := Kx0.out.c 1 _ rfl
  have cx2 := Kx0.out.c 2 _ rfl
  have lx := Kx0.out.lt
  go_wp2_with fail
  all_goals (try clear cx0 cx1 cx2 lx)
  refine (ofb_ok a b k 0 (spr a b 0 k) 116 _ (enters_of Try.func116 (by kernel_rfl) rfl) HR.out (by omega) (by omega) (fun W => spread_any a b k 0 W HR.out (by omega) (by omega))).mono ?_
  rintro e w1 ⟨rfl, hg⟩
  have S1 := Lib.hid (S0.out.trans hg)
  have Kx1 := Lib.hid (Kx0.out.gr hg)
  clear hg
  have cx0 := Kx1.out.c 0 _ rfl
  have cx1 := Kx1.out.c 1 _ rfl
  have cx2 := Kx1.out.c 2 _ rfl
  have lx := Kx1.out.lt
  go_wp2_with fail
  all_goals (try clear cx0 cx1 cx2 lx)
  refine (search_any 118 #[.pointer (some ⟨w.heap.size, 0, none⟩)] 4096 (fun t => decide (1100 < spr a b (t + 1) k)) _ (enters_of Try.func118 (by kernel_rfl) rfl) (by omega) (by omega) ?_).mono ?_
  · intro W2 t hg t0 t1
    exact slots1_any a b k t _ W2 HR.out t0 t1 (Kx1.out.gr hg)
  · rintro e w2 ⟨r, hr, rfl, hg⟩
    obtain rfl := Sr.slo HR.out H0.out hr
    have S2 := Lib.hid (S1.out.trans hg)
    clear hr hg
    go_wp2_with fail
    go_ret2
    exact ⟨rfl, S2.out⟩


set_option maxHeartbeats 400000 in
theorem Slots_conf (a b k : Int) (w : World) (hr : Rt a b k) (h0 : 1100 < spr a b 0 k) :
    Calls Try.prog 78 #[.int .i64 a, .int .i64 b, .int .i64 k] w fun e w' => e = .returned (.tuple #[.int .i64 0, .int .i64 16]) ∧ Gr w w' := by
  have HR := Lib.hid hr
  clear hr
  go_enter Try.func78, Try.ntmps78
  go_wp2_with fail
  have g0 : Gr w ((w).alloc (Obj.cells #[.int .i64 a, .int .i64 b, .int .i64 k] 102)) := Gr.alloc (Gr.refl w) _
  have bx : Bx ((w).alloc (Obj.cells #[.int .i64 a, .int .i64 b, .int .i64 k] 102)) (w.heap.size) [.int .i64 a, .int .i64 b, .int .i64 k] := Bx.gr (Bx.at_ (Bx.new (w) [.int .i64 a, .int .i64 b, .int .i64 k] 102) (by simp)) (Gr.refl _)
  generalize (w).alloc (Obj.cells #[.int .i64 a, .int .i64 b, .int .i64 k] 102) = W at g0 bx ⊢
  have S0 := Lib.hid g0
  have Kx0 := Lib.hid bx
  clear g0 bx
  have cx0 := Kx0.out.c 0 _ rfl
  have cx1 := Kx0.out.c 1 _ rfl
  have cx2 := Kx0.out.c 2 _ rfl
  have lx := Kx0.out.lt
  go_wp2_with fail
  all_goals (try clear cx0 cx1 cx2 lx)
  refine (ofb_ok a b k 0 (spr a b 0 k) 116 _ (enters_of Try.func116 (by kernel_rfl) rfl) HR.out (by omega) (by omega) (fun W => spread_any a b k 0 W HR.out (by omega) (by omega))).mono ?_
  rintro e w1 ⟨rfl, hg⟩
  have S1 := Lib.hid (S0.out.trans hg)
  have Kx1 := Lib.hid (Kx0.out.gr hg)
  clear hg
  have cx0 := Kx1.out.c 0 _ rfl
  have cx1 := Kx1.out.c 1 _ rfl
  have cx2 := Kx1.out.c 2 _ rfl
  have lx := Kx1.out.lt
  go_wp2_with fail
  all_goals (try clear cx0 cx1 cx2 lx)
  all_goals go_ret2
  all_goals exact ⟨rfl, S1.out⟩


set_option maxHeartbeats 400000 in
theorem Slots_no (a b k : Int) (w : World) (hr : ¬ Rt a b k) :
    Calls Try.prog 78 #[.int .i64 a, .int .i64 b, .int .i64 k] w fun e w' => e = .returned (.tuple #[.int .i64 0, .int .i64 2]) ∧ Gr w w' := by
  have HR := Lib.hid hr
  clear hr
  go_enter Try.func78, Try.ntmps78
  go_wp2_with fail
  have g0 : Gr w ((w).alloc (Obj.cells #[.int .i64 a, .int .i64 b, .int .i64 k] 102)) := Gr.alloc (Gr.refl w) _
  have bx : Bx ((w).alloc (Obj.cells #[.int .i64 a, .int .i64 b, .int .i64 k] 102)) (w.heap.size) [.int .i64 a, .int .i64 b, .int .i64 k] := Bx.gr (Bx.at_ (Bx.new (w) [.int .i64 a, .int .i64 b, .int .i64 k] 102) (by simp)) (Gr.refl _)
  generalize (w).alloc (Obj.cells #[.int .i64 a, .int .i64 b, .int .i64 k] 102) = W at g0 bx ⊢
  have S0 := Lib.hid g0
  have Kx0 := Lib.hid bx
  clear g0 bx
  have cx0 := Kx0.out.c 0 _ rfl
  have cx1 := Kx0.out.c 1 _ rfl
  have cx2 := Kx0.out.c 2 _ rfl
  have lx := Kx0.out.lt
  go_wp2_with fail
  all_goals (try clear cx0 cx1 cx2 lx)
  refine (ofb_no1 a b k 0 _ _ HR.out).mono ?_
  rintro e w1 ⟨rfl, hg⟩
  have S1 := Lib.hid (S0.out.trans hg)
  have Kx1 := Lib.hid (Kx0.out.gr hg)
  clear hg
  have cx0 := Kx1.out.c 0 _ rfl
  have cx1 := Kx1.out.c 1 _ rfl
  have cx2 := Kx1.out.c 2 _ rfl
  have lx := Kx1.out.lt
  go_wp2_with fail
  all_goals (try clear cx0 cx1 cx2 lx)
  all_goals go_ret2
  all_goals exact ⟨rfl, S1.out⟩


set_option maxHeartbeats 400000 in
theorem rGrowth_ok (t k : Int) (w : World) (t0 : 0 ≤ t) (t1 : t ≤ 1099511627776) (k0 : 0 ≤ k) (k1 : k ≤ 100000) :
    Calls Try.prog 71 #[.int .i64 t, .int .i64 k] w fun e w' => e = .returned (.tuple #[.int .i64 (gro t k), .int .i64 0]) ∧ Gr w w' := by
  have hp := prod_bd t0 t1 k0 k1
  unfold gro
  go_enter Try.func71, Try.ntmps71
  go_wp2_with fail
  have S0 := Lib.hid (Gr.refl w)
  refine (rTime_ok t _ t0 t1).mono ?_
  rintro e w1 ⟨rfl, hg⟩
  have S1 := Lib.hid (S0.out.trans hg)
  clear hg
  go_wp2_with fail
  refine (gdrifts_t k _ k0 k1).mono ?_
  rintro e w2 ⟨rfl, hg⟩
  have S2 := Lib.hid (S1.out.trans hg)
  clear hg
  go_wp2_with fail
  all_goals go_ret2
  all_goals exact ⟨rfl, S2.out⟩

set_option maxHeartbeats 400000 in
theorem rGrowth_no1 (t k : Int) (w : World) (t0 : 0 ≤ t) (t1 : t ≤ 1099511627776) (h : k < 0 ∨ 100000 < k) :
    Calls Try.prog 71 #[.int .i64 t, .int .i64 k] w fun e w' => e = .returned (.tuple #[.int .i64 0, .int .i64 2]) ∧ Gr w w' := by
  have H := Lib.hid h
  clear h
  go_enter Try.func71, Try.ntmps71
  go_wp2_with fail
  have S0 := Lib.hid (Gr.refl w)
  refine (rTime_ok t _ t0 t1).mono ?_
  rintro e w1 ⟨rfl, hg⟩
  have S1 := Lib.hid (S0.out.trans hg)
  clear hg
  go_wp2_with fail
  refine (gdrifts_f k _ H.out).mono ?_
  rintro e w2 ⟨rfl, hg⟩
  have S2 := Lib.hid (S1.out.trans hg)
  clear hg
  go_wp2_with fail
  all_goals go_ret2
  all_goals exact ⟨rfl, S2.out⟩

set_option maxHeartbeats 400000 in
theorem rGrowth_no2 (t k : Int) (w : World) (h : t < 0 ∨ 1099511627776 < t) :
    Calls Try.prog 71 #[.int .i64 t, .int .i64 k] w fun e w' => e = .returned (.tuple #[.int .i64 0, .int .i64 2]) ∧ Gr w w' := by
  have H := Lib.hid h
  clear h
  go_enter Try.func71, Try.ntmps71
  go_wp2_with fail
  have S0 := Lib.hid (Gr.refl w)
  refine (rTime_no t _ H.out).mono ?_
  rintro e w1 ⟨rfl, hg⟩
  have S1 := Lib.hid (S0.out.trans hg)
  clear hg
  go_wp2_with fail
  all_goals go_ret2
  all_goals exact ⟨rfl, S1.out⟩

set_option maxHeartbeats 400000 in
theorem rLength_ok (n k : Int) (w : World) (n0 : 0 ≤ n) (n1 : n ≤ 4096) (k0 : 0 ≤ k) (k1 : k ≤ 100000) :
    Calls Try.prog 73 #[.int .i64 n, .int .i64 k] w fun e w' => e = .returned (.tuple #[.int .i64 (len n k), .int .i64 0]) ∧ Gr w w' := by
  have hl := len_lo n0 k1
  have hh := len_hi n0 (by omega) k0 k1
  unfold len at *
  go_enter Try.func73, Try.ntmps73
  go_wp2_with fail
  have S0 := Lib.hid (Gr.refl w)
  refine (gslots_t n _ n0 n1).mono ?_
  rintro e w1 ⟨rfl, hg⟩
  have S1 := Lib.hid (S0.out.trans hg)
  clear hg
  go_wp2_with fail
  refine (gdrifts_t k _ k0 k1).mono ?_
  rintro e w2 ⟨rfl, hg⟩
  have S2 := Lib.hid (S1.out.trans hg)
  clear hg
  go_wp2_with fail
  all_goals go_ret2
  all_goals exact ⟨rfl, S2.out⟩

set_option maxHeartbeats 400000 in
theorem rLength_no1 (n k : Int) (w : World) (n0 : 0 ≤ n) (n1 : n ≤ 4096) (h : k < 0 ∨ 100000 < k) :
    Calls Try.prog 73 #[.int .i64 n, .int .i64 k] w fun e w' => e = .returned (.tuple #[.int .i64 0, .int .i64 2]) ∧ Gr w w' := by
  have H := Lib.hid h
  clear h
  go_enter Try.func73, Try.ntmps73
  go_wp2_with fail
  have S0 := Lib.hid (Gr.refl w)
  refine (gslots_t n _ n0 n1).mono ?_
  rintro e w1 ⟨rfl, hg⟩
  have S1 := Lib.hid (S0.out.trans hg)
  clear hg
  go_wp2_with fail
  refine (gdrifts_f k _ H.out).mono ?_
  rintro e w2 ⟨rfl, hg⟩
  have S2 := Lib.hid (S1.out.trans hg)
  clear hg
  go_wp2_with fail
  all_goals go_ret2
  all_goals exact ⟨rfl, S2.out⟩

set_option maxHeartbeats 400000 in
theorem rLength_no2 (n k : Int) (w : World) (h : n < 0 ∨ 4096 < n) :
    Calls Try.prog 73 #[.int .i64 n, .int .i64 k] w fun e w' => e = .returned (.tuple #[.int .i64 0, .int .i64 2]) ∧ Gr w w' := by
  have H := Lib.hid h
  clear h
  go_enter Try.func73, Try.ntmps73
  go_wp2_with fail
  have S0 := Lib.hid (Gr.refl w)
  refine (gslots_f n _ H.out).mono ?_
  rintro e w1 ⟨rfl, hg⟩
  have S1 := Lib.hid (S0.out.trans hg)
  clear hg
  go_wp2_with fail
  all_goals go_ret2
  all_goals exact ⟨rfl, S1.out⟩

theorem rLength_no (n k : Int) (w : World) (h : ¬ ((0 ≤ n ∧ n ≤ 4096) ∧ 0 ≤ k ∧ k ≤ 100000)) :
    Calls Try.prog 73 #[.int .i64 n, .int .i64 k] w fun e w' => e = .returned (.tuple #[.int .i64 0, .int .i64 2]) ∧ Gr w w' := by
  by_cases hn : 0 ≤ n ∧ n ≤ 4096
  · exact rLength_no1 n k w hn.1 hn.2 (by omega)
  · exact rLength_no2 n k w (by omega)

set_option maxHeartbeats 400000 in
theorem rStep_ok (n k : Int) (w : World) (n0 : 0 ≤ n) (n1 : n ≤ 4096) (k0 : 0 ≤ k) (k1 : k ≤ 100000) :
    Calls Try.prog 75 #[.int .i64 n, .int .i64 k] w fun e w' => e = .returned (.tuple #[.int .i64 (stp n k), .int .i64 0]) ∧ Gr w w' := by
  have hl := len_lo n0 k1
  have hh := len_hi n0 (show n ≤ 4097 by omega) k0 k1
  have hb := gro_bd (t := len n k) (m := 40980000) (by omega) hh k0 k1
  unfold stp
  go_enter Try.func75, Try.ntmps75
  go_wp2_with fail
  have S0 := Lib.hid (Gr.refl w)
  refine (rLength_ok n k _ n0 n1 k0 k1).mono ?_
  rintro e w1 ⟨rfl, hg⟩
  have S1 := Lib.hid (S0.out.trans hg)
  clear hg
  go_wp2_with fail
  refine (rGrowth_ok (len n k) k _ (by omega) (by omega) k0 k1).mono ?_
  rintro e w2 ⟨rfl, hg⟩
  have S2 := Lib.hid (S1.out.trans hg)
  clear hg
  go_wp2_with fail
  all_goals go_ret2
  all_goals exact ⟨rfl, S2.out⟩

set_option maxHeartbeats 400000 in
theorem rStep_no (n k : Int) (w : World) (h : ¬ ((0 ≤ n ∧ n ≤ 4096) ∧ 0 ≤ k ∧ k ≤ 100000)) :
    Calls Try.prog 75 #[.int .i64 n, .int .i64 k] w fun e w' => e = .returned (.tuple #[.int .i64 0, .int .i64 2]) ∧ Gr w w' := by
  have H := Lib.hid h
  clear h
  go_enter Try.func75, Try.ntmps75
  go_wp2_with fail
  have S0 := Lib.hid (Gr.refl w)
  refine (rLength_no n k _ H.out).mono ?_
  rintro e w1 ⟨rfl, hg⟩
  have S1 := Lib.hid (S0.out.trans hg)
  clear hg
  go_wp2_with fail
  all_goals go_ret2
  all_goals exact ⟨rfl, S1.out⟩

set_option maxHeartbeats 400000 in
theorem rSpread_ok (a b n k : Int) (w : World) (hr : Rt a b k) (n0 : 0 ≤ n) (n1 : n ≤ 4096) :
    Calls Try.prog 77 #[.int .i64 a, .int .i64 b, .int .i64 n, .int .i64 k] w fun e w' => e = .returned (.tuple #[.int .i64 (spr a b n k), .int .i64 0]) ∧ Gr w w' := by
  have hp := spr_bd hr.a0 hr.a1 hr.b0 hr.b1 n0 (show n ≤ 4097 by omega) hr.k0 hr.k1
  have a0 := hr.a0
  have a1 := hr.a1
  have b0 := hr.b0
  have b1 := hr.b1
  unfold spr at *
  have HR := Lib.hid hr
  clear hr
  go_enter Try.func77, Try.ntmps77
  go_wp2_with fail
  have S0 := Lib.hid (Gr.refl w)
  refine (rStep_ok n k _ n0 n1 HR.out.k0 HR.out.k1).mono ?_
  rintro e w1 ⟨rfl, hg⟩
  have S1 := Lib.hid (S0.out.trans hg)
  clear hg
  go_wp2_with fail
  all_goals go_ret2
  all_goals exact ⟨rfl, S1.out⟩

set_option maxHeartbeats 400000 in
theorem rSpread_no1 (a b n k : Int) (w : World) (h : a < 0 ∨ (0 ≤ a ∧ 32 < a) ∨ (0 ≤ a ∧ a ≤ 32 ∧ b < 0) ∨ (0 ≤ a ∧ a ≤ 32 ∧ 0 ≤ b ∧ 32 < b)) :
    Calls Try.prog 77 #[.int .i64 a, .int .i64 b, .int .i64 n, .int .i64 k] w fun e w' => e = .returned (.tuple #[.int .i64 0, .int .i64 2]) ∧ Gr w w' := by
  rcases h with h | ⟨h, h1⟩ | ⟨h, h1, h2⟩ | ⟨h, h1, h2, h3⟩
  all_goals
    go_enter Try.func77, Try.ntmps77
    go_wp2_with fail
    have S0 := Lib.hid (Gr.refl w)
    all_goals go_ret2
    all_goals exact ⟨rfl, S0.out⟩


set_option maxHeartbeats 400000 in
theorem rSpread_no2 (a b n k : Int) (w : World) (a0 : 0 ≤ a) (a1 : a ≤ 32) (b0 : 0 ≤ b) (b1 : b ≤ 32) (h : ¬ ((0 ≤ n ∧ n ≤ 4096) ∧ 0 ≤ k ∧ k ≤ 100000)) :
    Calls Try.prog 77 #[.int .i64 a, .int .i64 b, .int .i64 n, .int .i64 k] w fun e w' => e = .returned (.tuple #[.int .i64 0, .int .i64 2]) ∧ Gr w w' := by
  have H := Lib.hid h
  clear h
  go_enter Try.func77, Try.ntmps77
  go_wp2_with fail
  have S0 := Lib.hid (Gr.refl w)
  refine (rStep_no n k _ H.out).mono ?_
  rintro e w1 ⟨rfl, hg⟩
  have S1 := Lib.hid (S0.out.trans hg)
  clear hg
  go_wp2_with fail
  all_goals go_ret2
  all_goals exact ⟨rfl, S1.out⟩

theorem rSpread_no (a b n k : Int) (w : World) (h : ¬ (Rt a b k ∧ 0 ≤ n ∧ n ≤ 4096)) :
    Calls Try.prog 77 #[.int .i64 a, .int .i64 b, .int .i64 n, .int .i64 k] w fun e w' => e = .returned (.tuple #[.int .i64 0, .int .i64 2]) ∧ Gr w w' := by
  by_cases ha : 0 ≤ a ∧ a ≤ 32
  · by_cases hb : 0 ≤ b ∧ b ≤ 32
    · exact rSpread_no2 a b n k w ha.1 ha.2 hb.1 hb.2 (fun ⟨hn, hk⟩ => h ⟨⟨ha.1, ha.2, hb.1, hb.2, hk.1, hk.2⟩, hn.1, hn.2⟩)
    · exact rSpread_no1 a b n k w (by omega)
  · exact rSpread_no1 a b n k w (by omega)

set_option maxHeartbeats 400000 in
theorem rSlots_no (a b k : Int) (w : World) (h : ¬ Rt a b k) :
    Calls Try.prog 79 #[.int .i64 a, .int .i64 b, .int .i64 k] w fun e w' => e = .returned (.tuple #[.int .i64 0, .int .i64 2]) ∧ Gr w w' := by
  have H := Lib.hid h
  clear h
  go_enter Try.func79, Try.ntmps79
  go_wp2_with fail
  have S0 := Lib.hid (Gr.refl w)
  refine (rSpread_no a b 0 k _ (fun x => H.out x.1)).mono ?_
  rintro e w1 ⟨rfl, hg⟩
  have S1 := Lib.hid (S0.out.trans hg)
  clear hg
  go_wp2_with fail
  all_goals go_ret2
  all_goals exact ⟨rfl, S1.out⟩

set_option maxHeartbeats 400000 in
theorem rSlots_conf (a b k : Int) (w : World) (hr : Rt a b k) (h0 : 1100 < spr a b 0 k) :
    Calls Try.prog 79 #[.int .i64 a, .int .i64 b, .int .i64 k] w fun e w' => e = .returned (.tuple #[.int .i64 0, .int .i64 16]) ∧ Gr w w' := by
  have HR := Lib.hid hr
  clear hr
  go_enter Try.func79, Try.ntmps79
  go_wp2_with fail
  have S0 := Lib.hid (Gr.refl w)
  refine (rSpread_ok a b 0 k _ HR.out (by omega) (by omega)).mono ?_
  rintro e w1 ⟨rfl, hg⟩
  have S1 := Lib.hid (S0.out.trans hg)
  clear hg
  go_wp2_with fail
  all_goals go_ret2
  all_goals exact ⟨rfl, S1.out⟩

set_option maxHeartbeats 1000000 in
theorem rSlots_ok (a b k : Int) (w : World) (hr : Rt a b k) (h0 : spr a b 0 k ≤ 1100) :
    Calls Try.prog 79 #[.int .i64 a, .int .i64 b, .int .i64 k] w fun e w' => e = .returned (.tuple #[.int .i64 (slo a b k), .int .i64 0]) ∧ Gr w w' := by
  have H0 := Lib.hid h0
  have HR := Lib.hid hr
  clear hr
  go_enter Try.func79, Try.ntmps79
  go_wp2_with fail
  refine (rSpread_ok a b 0 k _ HR.out (by omega) (by omega)).mono ?_
  rintro e w1 ⟨rfl, hg⟩
  have S1 := Lib.hid hg
  clear hg
  go_wp2_with fail
  clear h0
  go_loopw [8, 10, 11, 12] (fun _ s10 s11 _ wr => ∃ (lo hi : Int), s10 = .int .i64 lo ∧ s11 = .int .i64 hi ∧ 0 ≤ lo ∧ lo ≤ hi ∧ hi ≤ 4096 ∧ Gr w wr ∧ Hid (spr a b lo k ≤ 1100 ∧ (hi = 4096 ∨ 1100 < spr a b (hi + 1) k))) (fun _ s10 s11 _ _ => (intOf s11 - intOf s10).toNat)
  case atStart => exact ⟨0, 4096, rfl, rfl, by omega, by omega, by omega, S1.out, Lib.hid ⟨H0.out, Or.inl rfl⟩⟩
  case round =>
    obtain ⟨lo, hi, rfl, rfl, hl0, hlh, hhn, hB, HI⟩ := hrel
    have S2 := Lib.hid hB
    clear hB
    by_cases hlt : lo < hi
    · by_cases hp : spr a b ((lo + hi + 1) / 2) k ≤ 1100
      · go_wp2_with fail
        refine (rSpread_ok a b ((lo + hi + 1) / 2) k _ HR.out (by omega) (by omega)).mono ?_
        rintro e w3 ⟨rfl, hg⟩
        have S3 := Lib.hid (S2.out.trans hg)
        clear hg
        go_wp2_with fail
        have hJ : Hid (spr a b ((lo + hi + 1) / 2) k ≤ 1100 ∧ (hi = 4096 ∨ 1100 < spr a b (hi + 1) k)) := ⟨hp, HI.out.2⟩
        go_roundw
        case rel => exact ⟨_, _, rfl, rfl, by omega, by omega, by omega, S3.out, hJ⟩
        case measure => simp [intOf]; omega
      · go_wp2_with fail
        refine (rSpread_ok a b ((lo + hi + 1) / 2) k _ HR.out (by omega) (by omega)).mono ?_
        rintro e w3 ⟨rfl, hg⟩
        have S3 := Lib.hid (S2.out.trans hg)
        clear hg
        go_wp2_with fail
        have hJ : Hid (spr a b lo k ≤ 1100 ∧ ((lo + hi + 1) / 2 - 1 = 4096 ∨ 1100 < spr a b ((lo + hi + 1) / 2 - 1 + 1) k)) := ⟨HI.out.1, Or.inr (by rw [Int.sub_add_cancel]; omega)⟩
        go_roundw
        case rel => exact ⟨_, _, rfl, rfl, by omega, by omega, by omega, S3.out, hJ⟩
        case measure => simp [intOf]; omega
    · obtain rfl : hi = lo := by omega
      go_wp2
      go_ret2
      have hr : slo a b k = hi := slo_eq HR.out.a0 HR.out.b0 HR.out.k0 HR.out.k1 ⟨hl0, hhn, HI.out.1, HI.out.2⟩
      exact ⟨by rw [hr]; rfl, S2.out⟩
end Go.Proofs.Ytpnigndobhbfnaa
