import Derived.Test.YtpnigndobhbfnaaAwake10
import Derived.Test.YtpnigndobhbfnaaGrdC
namespace Go.Proofs.Ytpnigndobhbfnaa
open Go.RowKit
theorem Send_V (o d s : Int) (w : World) (q : Int) (h : inE o d s 2120 ≠ 0) (hq : inE o d s 2120 = q) : Calls Try.prog 37 #[.agg #[.int .i64 o, .int .i64 d], .int .i64 s] w fun e w' => e = .returned (.tuple #[.int .i64 0, .int .i64 q]) ∧ Gr w w' := by
  rw [← hq]; exact Send_E o d s w h
theorem Send_T (o d s t : Int) (w : World) (h : inE o d s 2120 = 0) (ht : rch o d (s * 10000 + 2120) = t) : Calls Try.prog 37 #[.agg #[.int .i64 o, .int .i64 d], .int .i64 s] w fun e w' => e = .returned (.tuple #[.int .i64 t, .int .i64 0]) ∧ Gr w w' := by
  rw [← ht]; exact Send_S o d s w h
theorem Hear_V (o k s c n t q0 q1 q2 q3 q : Int) (w : World) (h : he ⟨o, k, s, c⟩ n t = (⟨q0, q1, q2, q3⟩, q)) :
    Calls Try.prog 62 #[.agg #[.int .i64 o, .int .i64 k, .int .i64 s, .int .i64 c], .int .i64 n, .int .i64 t] w fun e w' => e = .returned (.tuple #[.agg #[.int .i64 q0, .int .i64 q1, .int .i64 q2, .int .i64 q3], .int .i64 q]) ∧ Gr w w' := by
  have := Hear_any o k s c n t w
  rwa [h] at this
theorem Acked_V (o k s c n d q0 q1 q2 q3 q : Int) (w : World) (h : ac ⟨o, k, s, c⟩ n d = (⟨q0, q1, q2, q3⟩, q)) :
    Calls Try.prog 64 #[.agg #[.int .i64 o, .int .i64 k, .int .i64 s, .int .i64 c], .int .i64 n, .int .i64 d] w fun e w' => e = .returned (.tuple #[.agg #[.int .i64 q0, .int .i64 q1, .int .i64 q2, .int .i64 q3], .int .i64 q]) ∧ Gr w w' := by
  have := Acked_any o k s c n d w
  rwa [h] at this
theorem Meas_V (o k n t d : Int) (w : World) (hd : meN o k n t = d) (he : meE o k n t = 0) : Calls Try.prog 60 #[.agg #[.int .i64 o, .int .i64 k], .int .i64 n, .int .i64 t] w fun e w' => e = .returned (.tuple #[.int .i64 d, .int .i64 0]) ∧ Gr w w' := by
  have := Meas_any o k n t w
  rwa [hd, he] at this
theorem Apart_V (oa da ob db t x : Int) (w : World) (hva : Vc oa da) (hvb : Vc ob db) (ht : inTime t) (hx : rd ob db t - rd oa da t = x) :
    Calls Try.prog 58 #[.agg #[.int .i64 oa, .int .i64 da], .agg #[.int .i64 ob, .int .i64 db], .int .i64 t] w fun e w' => e = .returned (.tuple #[.int .i64 x, .int .i64 0]) ∧ Gr w w' := by
  rw [← hx]; exact Apart_ok oa da ob db t w hva hvb ht.1 ht.2
end Go.Proofs.Ytpnigndobhbfnaa
