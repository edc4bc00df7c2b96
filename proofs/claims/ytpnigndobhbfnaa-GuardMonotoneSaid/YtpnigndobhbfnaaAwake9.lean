/- The examples that the laws of chapter 09 check first. -/
import Derived.Test.YtpnigndobhbfnaaGrdC
namespace Go.Proofs.Ytpnigndobhbfnaa
open Go.RowKit
theorem num_gro : gro 1000000 100000 = 202 := by unfold gro; omega
theorem num_len : len 100 100000 = 1000102 := by unfold len; omega
theorem num_stp : stp 100 100000 = 203 := by unfold stp; rw [num_len]; unfold gro; omega
theorem num_spr : spr 2 3 100 100000 = 1015 := by unfold spr; rw [num_stp]; omega
theorem rt23 : Rt 2 3 100000 := ⟨by omega, by omega, by omega, by omega, by omega, by omega⟩
theorem len_108 : len 108 100000 = 1080110 := by unfold len; omega
theorem len_109 : len 109 100000 = 1090111 := by unfold len; omega
theorem len_0 : len 0 100000 = 2 := by unfold len; omega
theorem num_spr0 : spr 2 3 0 100000 ≤ 1100 := by unfold spr stp gro; rw [len_0]; omega
theorem num_slo : slo 2 3 100000 = 108 := slo_eq rt23.a0 rt23.b0 rt23.k0 rt23.k1 ⟨by omega, by omega, by unfold spr stp gro; rw [len_108]; omega, Or.inr (by show 1100 < spr 2 3 109 100000; unfold spr stp gro; rw [len_109]; omega)⟩
theorem vc00 : Vc 0 0 := ⟨by omega, by omega, by omega, by omega⟩
theorem rd00 (t : Int) : rd 0 0 t = t := by unfold rd; omega
theorem num_rch : rch 0 0 (0 * 10000 + 2120) = 2120 := rch_of (by omega) (by omega) (by rw [rd00]; omega) (fun t _ h => by rw [rd00]; omega)
theorem num_inE : inE 0 0 0 2120 = 0 := inE_mk ⟨vc00, ⟨by omega, by omega⟩, by rw [rd00]; omega⟩
theorem End0 (w : World) : Calls Try.prog 81 #[.agg #[.int .i64 0, .int .i64 0], .int .i64 0] w fun e w' => e = .returned (.tuple #[.int .i64 8208, .int .i64 0]) ∧ Gr w w' := by
  have := End_ok 0 0 0 w num_inE (by rw [num_rch]; omega)
  rwa [num_rch] at this
theorem Growth0 (w : World) : Calls Try.prog 55 #[.int .i64 1000000, .int .i64 100000] w fun e w' => e = .returned (.tuple #[.int .i64 202, .int .i64 0]) ∧ Gr w w' := num_gro ▸ Growth_ok 1000000 100000 w (by omega) (by omega) (by omega) (by omega)
theorem Length0 (w : World) : Calls Try.prog 72 #[.int .i64 100, .int .i64 100000] w fun e w' => e = .returned (.tuple #[.int .i64 1000102, .int .i64 0]) ∧ Gr w w' := num_len ▸ Length_ok 100 100000 w (by omega) (by omega) (by omega) (by omega)
theorem Step0 (w : World) : Calls Try.prog 74 #[.int .i64 100, .int .i64 100000] w fun e w' => e = .returned (.tuple #[.int .i64 203, .int .i64 0]) ∧ Gr w w' := num_stp ▸ Step_ok 100 100000 w (by omega) (by omega) (by omega) (by omega)
theorem Spread0 (w : World) : Calls Try.prog 76 #[.int .i64 2, .int .i64 3, .int .i64 100, .int .i64 100000] w fun e w' => e = .returned (.tuple #[.int .i64 1015, .int .i64 0]) ∧ Gr w w' := num_spr ▸ Spread_ok 2 3 100 100000 w rt23 (by omega) (by omega)
theorem Slots0 (w : World) : Calls Try.prog 78 #[.int .i64 2, .int .i64 3, .int .i64 100000] w fun e w' => e = .returned (.tuple #[.int .i64 108, .int .i64 0]) ∧ Gr w w' := num_slo ▸ Slots_ok 2 3 100000 w rt23 num_spr0

set_option maxHeartbeats 1000000 in
/-- The examples that the laws of chapter 09 check first. -/
theorem awake09 (w : World) : Calls Try.prog 70 #[] w fun e w' => e = .returned (.bool true) ∧ Gr w w' := by
  go_enter Try.func70, Try.ntmps70
  go_wp2_with fail
  have S0 := Lib.hid (Gr.refl w)
  refine (Growth0 _).mono ?_
  rintro e w1 ⟨rfl, hg⟩
  have S1 := Lib.hid (S0.out.trans hg)
  clear hg
  go_wp2_with fail
  refine (Length0 _).mono ?_
  rintro e w2 ⟨rfl, hg⟩
  have S2 := Lib.hid (S1.out.trans hg)
  clear hg
  go_wp2_with fail
  refine (Step0 _).mono ?_
  rintro e w3 ⟨rfl, hg⟩
  have S3 := Lib.hid (S2.out.trans hg)
  clear hg
  go_wp2_with fail
  refine (Spread0 _).mono ?_
  rintro e w4 ⟨rfl, hg⟩
  have S4 := Lib.hid (S3.out.trans hg)
  clear hg
  go_wp2_with fail
  refine (Slots0 _).mono ?_
  rintro e w5 ⟨rfl, hg⟩
  have S5 := Lib.hid (S4.out.trans hg)
  clear hg
  go_wp2_with fail
  refine (End0 _).mono ?_
  rintro e w6 ⟨rfl, hg⟩
  have S6 := Lib.hid (S5.out.trans hg)
  clear hg
  go_wp2_with fail
  go_ret
  exact ⟨rfl, S6.out⟩
end Go.Proofs.Ytpnigndobhbfnaa
