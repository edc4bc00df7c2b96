/- What pair.hears and pair.isAcked return, by the plain function. -/
import Derived.Test.YtpnigndobhbfnaaPair
import Derived.Test.YtpnigndobhbfnaaSprm
namespace Go.Proofs.Ytpnigndobhbfnaa
open Go.RowKit
theorem pairF_any (x y : Sy) (n : Int) (w : World) :
    Calls Try.prog 100 #[.agg #[.int .i64 x.o, .int .i64 x.k, .int .i64 x.s, .int .i64 x.c, .int .i64 y.o, .int .i64 y.k, .int .i64 n]] w fun e w' => e = .returned (.tuple #[.agg #[.int .i64 (pairN x y n false).1.o, .int .i64 (pairN x y n false).1.k, .int .i64 (pairN x y n false).1.s, .int .i64 (pairN x y n false).1.c], .int .i64 (pairN x y n false).2]) ∧ Gr w w' := by
  unfold pairN
  rw [if_neg (by simp)]
  by_cases h : inE y.o y.k n 2120 = 0
  · rw [if_pos h]; exact pHear_ok x.o x.k x.s x.c y.o y.k n _ h rfl w
  · rw [if_neg h]; exact pHear_er x.o x.k x.s x.c y.o y.k n _ _ rfl rfl h w
theorem pairT_any (x y : Sy) (n : Int) (hy : y.Vs) (w : World) :
    Calls Try.prog 101 #[.agg #[.int .i64 x.o, .int .i64 x.k, .int .i64 x.s, .int .i64 x.c, .int .i64 y.o, .int .i64 y.k, .int .i64 n]] w fun e w' => e = .returned (.tuple #[.agg #[.int .i64 (pairN x y n true).1.o, .int .i64 (pairN x y n true).1.k, .int .i64 (pairN x y n true).1.s, .int .i64 (pairN x y n true).1.c], .int .i64 (pairN x y n true).2]) ∧ Gr w w' := by
  unfold pairN
  rw [if_pos rfl]
  by_cases h : inE x.o x.k n 2120 = 0
  · rw [if_pos h]
    have h' : Ytpnigndobhbfnaa.Vs y.o y.k y.s y.c := hy
    refine pAck_ok x.o x.k x.s x.c y.o y.k n _ _ h rfl ?_ rfl w
    unfold meE
    have hs := (in_rch h).2.1
    have ht := in_time h
    rw [if_pos h'.vc, if_pos ⟨hs, ht⟩]
  · rw [if_neg h]; exact pAck_er x.o x.k x.s x.c y.o y.k n _ _ rfl rfl h w
end Go.Proofs.Ytpnigndobhbfnaa
