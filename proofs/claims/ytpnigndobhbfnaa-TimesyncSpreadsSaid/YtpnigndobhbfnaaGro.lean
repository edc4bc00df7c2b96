/- The walk of guard.Growth, for TimesyncSpreads. -/
import Derived.Test.YtpnigndobhbfnaaGrdA
namespace Go.Proofs.Ytpnigndobhbfnaa
open Go.RowKit
set_option maxHeartbeats 400000 in
theorem tGrowth_ok (t k : Int) (w : World) (t0 : 0 ≤ t) (t1 : t ≤ 1099511627776) (k0 : 0 ≤ k) (k1 : k ≤ 100000) :
    Calls Try.prog 55 #[.int .i64 t, .int .i64 k] w fun e w' => e = .returned (.tuple #[.int .i64 (gro t k), .int .i64 0]) ∧ Gr w w' := by
  go_enter Try.func55, Try.ntmps55
  go_wp2_with fail
  have g0 : Gr w ((w).alloc (Obj.cells #[.int .i64 0, .int .i64 0, .int .i64 k] 102)) := Gr.alloc (Gr.refl w) _
  have bx : Bx ((w).alloc (Obj.cells #[.int .i64 0, .int .i64 0, .int .i64 k] 102)) (w.heap.size) [.int .i64 0, .int .i64 0, .int .i64 k] := Bx.gr (Bx.at_ (Bx.new (w) [.int .i64 0, .int .i64 0, .int .i64 k] 102) (by simp)) (Gr.refl _)
  generalize (w).alloc (Obj.cells #[.int .i64 0, .int .i64 0, .int .i64 k] 102) = W at g0 bx ⊢
  have S0 := Lib.hid g0
  have Kx0 := Lib.hid bx
  clear g0 bx
  refine (right_ok 0 0 k _ ⟨by omega, by omega, by omega, by omega, k0, k1⟩).mono ?_
  rintro e w1 ⟨rfl, hg⟩
  have S1 := Lib.hid (S0.out.trans hg)
  have Kx1 := Lib.hid (Kx0.out.gr hg)
  clear hg
  have cx0 := Kx1.out.c 0 _ rfl
  have cx1 := Kx1.out.c 1 _ rfl
  have cx2 := Kx1.out.c 2 _ rfl
  have lx := Kx1.out.lt
  go_wp2_with fail
  all_goals (try clear cx0 cx1 cx2 lx)
  refine (gin_t t 1099511627776 _ t0 t1).mono ?_
  rintro e w2 ⟨rfl, hg⟩
  have S2 := Lib.hid (S1.out.trans hg)
  have Kx2 := Lib.hid (Kx1.out.gr hg)
  clear hg
  have cx0 := Kx2.out.c 0 _ rfl
  have cx1 := Kx2.out.c 1 _ rfl
  have cx2 := Kx2.out.c 2 _ rfl
  have lx := Kx2.out.lt
  go_wp2_with fail
  all_goals (try clear cx0 cx1 cx2 lx)
  refine (growth_any 0 0 k t _ t0 t1 k0 k1).mono ?_
  rintro e w3 ⟨rfl, hg⟩
  have S3 := Lib.hid (S2.out.trans hg)
  have Kx3 := Lib.hid (Kx2.out.gr hg)
  clear hg
  have cx0 := Kx3.out.c 0 _ rfl
  have cx1 := Kx3.out.c 1 _ rfl
  have cx2 := Kx3.out.c 2 _ rfl
  have lx := Kx3.out.lt
  go_wp2_with fail
  all_goals (try clear cx0 cx1 cx2 lx)
  all_goals go_ret2
  all_goals exact ⟨rfl, S3.out⟩
end Go.Proofs.Ytpnigndobhbfnaa
