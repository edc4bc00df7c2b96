/- GuardSlots: with the slots between corrections the spread is at most GuardTime, and with one more it is greater; deeper nodes and greater drifts allow not more. For every input the call returns true and each argument reads afterwards as it read before (no condition). -/
import Derived.Test.YtpnigndobhbfnaaGrdE
import Derived.Test.YtpnigndobhbfnaaFrame
set_option linter.unnecessarySimpa false
namespace Go.Proofs.Ytpnigndobhbfnaa
open Go.ChangeShapes Go.WideShapes Go.ChangeAt Go.RowKit Go.Joins
theorem Slots_bad (a b k : Int) (w : World) (h : ¬ (Rt a b k ∧ spr a b 0 k ≤ 1100)) : Calls Try.prog 78 #[.int .i64 a, .int .i64 b, .int .i64 k] w fun e w' => e = .returned (.tuple #[.int .i64 0, .int .i64 (gkE a b k)]) ∧ Gr w w' := by
  have := Slots_all a b k w
  unfold gkN at this
  rwa [if_neg h] at this
theorem gkE_bad {a b k : Int} (h : ¬ (Rt a b k ∧ spr a b 0 k ≤ 1100)) : gkE a b k ≠ 0 := by
  unfold gkE
  by_cases hr : Rt a b k
  · rw [if_pos hr, if_neg (fun x => h ⟨hr, x⟩)]; omega
  · rw [if_neg hr]; omega
theorem slo_is {a b k : Int} (hr : Rt a b k) (h0 : spr a b 0 k ≤ 1100) : IsSl a b k (slo a b k) := by
  have key : ∀ m : Nat, m ≤ 4096 → spr a b m k ≤ 1100 ∨ ∃ r, IsSl a b k r := by
    intro m
    induction m with
    | zero => intro _; exact Or.inl h0
    | succ m ih =>
      intro hm
      rcases ih (by omega) with h1 | h1
      · by_cases h2 : spr a b ((m + 1 : Nat) : Int) k ≤ 1100
        · exact Or.inl h2
        · exact Or.inr ⟨m, by omega, by omega, h1, Or.inr (by rw [show ((m + 1 : Nat) : Int) = (m : Int) + 1 by omega] at h2; omega)⟩
      · exact Or.inr h1
  have ex : ∃ r, IsSl a b k r := by
    rcases key 4096 (Nat.le_refl _) with h1 | h1
    · exact ⟨4096, by omega, by omega, h1, Or.inl rfl⟩
    · exact h1
  obtain ⟨r, hr2⟩ := ex
  rw [slo_eq hr.a0 hr.b0 hr.k0 hr.k1 hr2]
  exact hr2
theorem slo_anti {a b k c l : Int} (hr : Rt a b k) (h0 : spr a b 0 k ≤ 1100) (hs : Rt c b l) (g0 : spr c b 0 l ≤ 1100) (hc : a ≤ c) (hl : k ≤ l) : slo c b l ≤ slo a b k := by
  have x := slo_is hr h0
  have y := slo_is hs g0
  by_cases h : slo c b l ≤ slo a b k
  · exact h
  · have x1 := x.lo; have y1 := y.hi; have y2 := y.in_
    rcases x.out with x2 | x2
    · omega
    · have := spr_mono (a := a) (b := b) (c := c) (e := b) (n := slo a b k + 1) (m := slo c b l) (k := k) (l := l) hr.a0 hr.b0 hc (Int.le_refl _) (by omega) (by omega) (by omega) hr.k0 hl hs.k1
      omega

set_option maxHeartbeats 800000 in
theorem GuardSlots_no (a b k : Int) (w : World) (hr : ¬ Rt a b k) :
    Calls Try.prog 16 #[.int .i64 a, .int .i64 b, .int .i64 k] w fun e w' => e = .returned (.bool true) ∧ Gr w w' := by
  have HR := Lib.hid hr
  clear hr
  go_enter Try.func16, Try.ntmps16
  go_wp2_with fail
  have S0 := Lib.hid (Gr.refl w)
  refine (awake09 _).mono ?_
  rintro e w1 ⟨rfl, hg⟩
  have S1 := Lib.hid (S0.out.trans hg)
  clear hg
  go_wp2_with fail
  refine (Slots_no a b k _ HR.out).mono ?_
  rintro e w2 ⟨rfl, hg⟩
  have S2 := Lib.hid (S1.out.trans hg)
  clear hg
  go_wp2_with fail
  all_goals go_ret
  all_goals exact ⟨rfl, S2.out⟩


set_option maxHeartbeats 800000 in
theorem GuardSlots_conf (a b k : Int) (w : World) (hr : Rt a b k) (h0 : 1100 < spr a b 0 k) :
    Calls Try.prog 16 #[.int .i64 a, .int .i64 b, .int .i64 k] w fun e w' => e = .returned (.bool true) ∧ Gr w w' := by
  have HR := Lib.hid hr
  clear hr
  go_enter Try.func16, Try.ntmps16
  go_wp2_with fail
  have S0 := Lib.hid (Gr.refl w)
  refine (awake09 _).mono ?_
  rintro e w1 ⟨rfl, hg⟩
  have S1 := Lib.hid (S0.out.trans hg)
  clear hg
  go_wp2_with fail
  refine (Slots_conf a b k _ HR.out h0).mono ?_
  rintro e w2 ⟨rfl, hg⟩
  have S2 := Lib.hid (S1.out.trans hg)
  clear hg
  go_wp2_with fail
  refine (Spread_ok a b 0 k _ HR.out (by omega) (by omega)).mono ?_
  rintro e w3 ⟨rfl, hg⟩
  have S3 := Lib.hid (S2.out.trans hg)
  clear hg
  go_wp2_with fail
  all_goals go_ret
  all_goals exact ⟨rfl, S3.out⟩


set_option maxHeartbeats 800000 in
theorem GuardSlots_ldf (a b k : Int) (w : World) (hr : Rt a b k) (h0 : spr a b 0 k ≤ 1100) (hk : slo a b k = 4096) (hd : Rt (a + 1) b k ∧ spr (a + 1) b 0 k ≤ 1100) (hf : Rt a b (k + 1) ∧ spr a b 0 (k + 1) ≤ 1100) :
    Calls Try.prog 16 #[.int .i64 a, .int .i64 b, .int .i64 k] w fun e w' => e = .returned (.bool true) ∧ Gr w w' := by
  have hi := slo_is hr h0
  have r0 := hi.lo
  have r1 := hi.hi
  have r2 := hi.in_
  have a1 := hr.a1
  have k1 := hr.k1
  have a0 := hr.a0
  have k0 := hr.k0
  clear hi
  have m1 := slo_anti hr h0 hd.1 hd.2 (by omega) (Int.le_refl _)
  have m2 := slo_anti hr h0 hf.1 hf.2 (Int.le_refl _) (by omega)
  have hk2 : 4096 ≤ slo a b k := by omega
  clear hk
  have HR := Lib.hid hr
  have H0 := Lib.hid h0
  have HD := Lib.hid hd
  have HF := Lib.hid hf
  clear hr h0 hd hf
  go_enter Try.func16, Try.ntmps16
  go_wp2_with fail
  have S0 := Lib.hid (Gr.refl w)
  refine (awake09 _).mono ?_
  rintro e w1 ⟨rfl, hg⟩
  have S1 := Lib.hid (S0.out.trans hg)
  clear hg
  go_wp2_with fail
  refine (Slots_ok a b k _ HR.out H0.out).mono ?_
  rintro e w2 ⟨rfl, hg⟩
  have S2 := Lib.hid (S1.out.trans hg)
  clear hg
  go_wp2_with fail
  refine (Spread_ok a b (slo a b k) k _ HR.out r0 r1).mono ?_
  rintro e w3 ⟨rfl, hg⟩
  have S3 := Lib.hid (S2.out.trans hg)
  clear hg
  go_wp2_with fail
  refine (Spread_no2 a b ((slo a b k) + 1) k _ HR.out (by omega)).mono ?_
  rintro e w4 ⟨rfl, hg⟩
  have S4 := Lib.hid (S3.out.trans hg)
  clear hg
  go_wp2_with fail
  refine (Slots_ok (a + 1) b k _ HD.out.1 HD.out.2).mono ?_
  rintro e w5 ⟨rfl, hg⟩
  have S5 := Lib.hid (S4.out.trans hg)
  clear hg
  go_wp2_with fail
  refine (Slots_ok a b (k + 1) _ HF.out.1 HF.out.2).mono ?_
  rintro e w6 ⟨rfl, hg⟩
  have S6 := Lib.hid (S5.out.trans hg)
  clear hg
  go_wp2_with fail
  all_goals go_ret
  all_goals exact ⟨rfl, S6.out⟩


set_option maxHeartbeats 800000 in
theorem GuardSlots_ldn (a b k : Int) (w : World) (hr : Rt a b k) (h0 : spr a b 0 k ≤ 1100) (hk : slo a b k = 4096) (hd : Rt (a + 1) b k ∧ spr (a + 1) b 0 k ≤ 1100) (hf : ¬ (Rt a b (k + 1) ∧ spr a b 0 (k + 1) ≤ 1100)) :
    Calls Try.prog 16 #[.int .i64 a, .int .i64 b, .int .i64 k] w fun e w' => e = .returned (.bool true) ∧ Gr w w' := by
  have hi := slo_is hr h0
  have r0 := hi.lo
  have r1 := hi.hi
  have r2 := hi.in_
  have a1 := hr.a1
  have k1 := hr.k1
  have a0 := hr.a0
  have k0 := hr.k0
  clear hi
  have m1 := slo_anti hr h0 hd.1 hd.2 (by omega) (Int.le_refl _)
  have m2 := gkE_bad hf
  have hk2 : 4096 ≤ slo a b k := by omega
  clear hk
  have HR := Lib.hid hr
  have H0 := Lib.hid h0
  have HD := Lib.hid hd
  have HF := Lib.hid hf
  clear hr h0 hd hf
  go_enter Try.func16, Try.ntmps16
  go_wp2_with fail
  have S0 := Lib.hid (Gr.refl w)
  refine (awake09 _).mono ?_
  rintro e w1 ⟨rfl, hg⟩
  have S1 := Lib.hid (S0.out.trans hg)
  clear hg
  go_wp2_with fail
  refine (Slots_ok a b k _ HR.out H0.out).mono ?_
  rintro e w2 ⟨rfl, hg⟩
  have S2 := Lib.hid (S1.out.trans hg)
  clear hg
  go_wp2_with fail
  refine (Spread_ok a b (slo a b k) k _ HR.out r0 r1).mono ?_
  rintro e w3 ⟨rfl, hg⟩
  have S3 := Lib.hid (S2.out.trans hg)
  clear hg
  go_wp2_with fail
  refine (Spread_no2 a b ((slo a b k) + 1) k _ HR.out (by omega)).mono ?_
  rintro e w4 ⟨rfl, hg⟩
  have S4 := Lib.hid (S3.out.trans hg)
  clear hg
  go_wp2_with fail
  refine (Slots_ok (a + 1) b k _ HD.out.1 HD.out.2).mono ?_
  rintro e w5 ⟨rfl, hg⟩
  have S5 := Lib.hid (S4.out.trans hg)
  clear hg
  go_wp2_with fail
  refine (Slots_bad a b (k + 1) _ HF.out).mono ?_
  rintro e w6 ⟨rfl, hg⟩
  have S6 := Lib.hid (S5.out.trans hg)
  clear hg
  go_wp2_with fail
  all_goals go_ret
  all_goals exact ⟨rfl, S6.out⟩


set_option maxHeartbeats 800000 in
theorem GuardSlots_lnf (a b k : Int) (w : World) (hr : Rt a b k) (h0 : spr a b 0 k ≤ 1100) (hk : slo a b k = 4096) (hd : ¬ (Rt (a + 1) b k ∧ spr (a + 1) b 0 k ≤ 1100)) (hf : Rt a b (k + 1) ∧ spr a b 0 (k + 1) ≤ 1100) :
    Calls Try.prog 16 #[.int .i64 a, .int .i64 b, .int .i64 k] w fun e w' => e = .returned (.bool true) ∧ Gr w w' := by
  have hi := slo_is hr h0
  have r0 := hi.lo
  have r1 := hi.hi
  have r2 := hi.in_
  have a1 := hr.a1
  have k1 := hr.k1
  have a0 := hr.a0
  have k0 := hr.k0
  clear hi
  have m1 := gkE_bad hd
  have m2 := slo_anti hr h0 hf.1 hf.2 (Int.le_refl _) (by omega)
  have hk2 : 4096 ≤ slo a b k := by omega
  clear hk
  have HR := Lib.hid hr
  have H0 := Lib.hid h0
  have HD := Lib.hid hd
  have HF := Lib.hid hf
  clear hr h0 hd hf
  go_enter Try.func16, Try.ntmps16
  go_wp2_with fail
  have S0 := Lib.hid (Gr.refl w)
  refine (awake09 _).mono ?_
  rintro e w1 ⟨rfl, hg⟩
  have S1 := Lib.hid (S0.out.trans hg)
  clear hg
  go_wp2_with fail
  refine (Slots_ok a b k _ HR.out H0.out).mono ?_
  rintro e w2 ⟨rfl, hg⟩
  have S2 := Lib.hid (S1.out.trans hg)
  clear hg
  go_wp2_with fail
  refine (Spread_ok a b (slo a b k) k _ HR.out r0 r1).mono ?_
  rintro e w3 ⟨rfl, hg⟩
  have S3 := Lib.hid (S2.out.trans hg)
  clear hg
  go_wp2_with fail
  refine (Spread_no2 a b ((slo a b k) + 1) k _ HR.out (by omega)).mono ?_
  rintro e w4 ⟨rfl, hg⟩
  have S4 := Lib.hid (S3.out.trans hg)
  clear hg
  go_wp2_with fail
  refine (Slots_bad (a + 1) b k _ HD.out).mono ?_
  rintro e w5 ⟨rfl, hg⟩
  have S5 := Lib.hid (S4.out.trans hg)
  clear hg
  go_wp2_with fail
  refine (Slots_ok a b (k + 1) _ HF.out.1 HF.out.2).mono ?_
  rintro e w6 ⟨rfl, hg⟩
  have S6 := Lib.hid (S5.out.trans hg)
  clear hg
  go_wp2_with fail
  all_goals go_ret
  all_goals exact ⟨rfl, S6.out⟩


set_option maxHeartbeats 800000 in
theorem GuardSlots_lnn (a b k : Int) (w : World) (hr : Rt a b k) (h0 : spr a b 0 k ≤ 1100) (hk : slo a b k = 4096) (hd : ¬ (Rt (a + 1) b k ∧ spr (a + 1) b 0 k ≤ 1100)) (hf : ¬ (Rt a b (k + 1) ∧ spr a b 0 (k + 1) ≤ 1100)) :
    Calls Try.prog 16 #[.int .i64 a, .int .i64 b, .int .i64 k] w fun e w' => e = .returned (.bool true) ∧ Gr w w' := by
  have hi := slo_is hr h0
  have r0 := hi.lo
  have r1 := hi.hi
  have r2 := hi.in_
  have a1 := hr.a1
  have k1 := hr.k1
  have a0 := hr.a0
  have k0 := hr.k0
  clear hi
  have m1 := gkE_bad hd
  have m2 := gkE_bad hf
  have hk2 : 4096 ≤ slo a b k := by omega
  clear hk
  have HR := Lib.hid hr
  have H0 := Lib.hid h0
  have HD := Lib.hid hd
  have HF := Lib.hid hf
  clear hr h0 hd hf
  go_enter Try.func16, Try.ntmps16
  go_wp2_with fail
  have S0 := Lib.hid (Gr.refl w)
  refine (awake09 _).mono ?_
  rintro e w1 ⟨rfl, hg⟩
  have S1 := Lib.hid (S0.out.trans hg)
  clear hg
  go_wp2_with fail
  refine (Slots_ok a b k _ HR.out H0.out).mono ?_
  rintro e w2 ⟨rfl, hg⟩
  have S2 := Lib.hid (S1.out.trans hg)
  clear hg
  go_wp2_with fail
  refine (Spread_ok a b (slo a b k) k _ HR.out r0 r1).mono ?_
  rintro e w3 ⟨rfl, hg⟩
  have S3 := Lib.hid (S2.out.trans hg)
  clear hg
  go_wp2_with fail
  refine (Spread_no2 a b ((slo a b k) + 1) k _ HR.out (by omega)).mono ?_
  rintro e w4 ⟨rfl, hg⟩
  have S4 := Lib.hid (S3.out.trans hg)
  clear hg
  go_wp2_with fail
  refine (Slots_bad (a + 1) b k _ HD.out).mono ?_
  rintro e w5 ⟨rfl, hg⟩
  have S5 := Lib.hid (S4.out.trans hg)
  clear hg
  go_wp2_with fail
  refine (Slots_bad a b (k + 1) _ HF.out).mono ?_
  rintro e w6 ⟨rfl, hg⟩
  have S6 := Lib.hid (S5.out.trans hg)
  clear hg
  go_wp2_with fail
  all_goals go_ret
  all_goals exact ⟨rfl, S6.out⟩


set_option maxHeartbeats 800000 in
theorem GuardSlots_mdf (a b k : Int) (w : World) (hr : Rt a b k) (h0 : spr a b 0 k ≤ 1100) (hk : slo a b k < 4096) (hd : Rt (a + 1) b k ∧ spr (a + 1) b 0 k ≤ 1100) (hf : Rt a b (k + 1) ∧ spr a b 0 (k + 1) ≤ 1100) :
    Calls Try.prog 16 #[.int .i64 a, .int .i64 b, .int .i64 k] w fun e w' => e = .returned (.bool true) ∧ Gr w w' := by
  have hi := slo_is hr h0
  have r0 := hi.lo
  have r1 := hi.hi
  have r2 := hi.in_
  have a1 := hr.a1
  have k1 := hr.k1
  have a0 := hr.a0
  have k0 := hr.k0
  have r3 : 1100 < spr a b (slo a b k + 1) k := by rcases hi.out with h | h <;> omega
  clear hi
  have m1 := slo_anti hr h0 hd.1 hd.2 (by omega) (Int.le_refl _)
  have m2 := slo_anti hr h0 hf.1 hf.2 (Int.le_refl _) (by omega)
  have HR := Lib.hid hr
  have H0 := Lib.hid h0
  have HD := Lib.hid hd
  have HF := Lib.hid hf
  clear hr h0 hd hf
  go_enter Try.func16, Try.ntmps16
  go_wp2_with fail
  have S0 := Lib.hid (Gr.refl w)
  refine (awake09 _).mono ?_
  rintro e w1 ⟨rfl, hg⟩
  have S1 := Lib.hid (S0.out.trans hg)
  clear hg
  go_wp2_with fail
  refine (Slots_ok a b k _ HR.out H0.out).mono ?_
  rintro e w2 ⟨rfl, hg⟩
  have S2 := Lib.hid (S1.out.trans hg)
  clear hg
  go_wp2_with fail
  refine (Spread_ok a b (slo a b k) k _ HR.out r0 r1).mono ?_
  rintro e w3 ⟨rfl, hg⟩
  have S3 := Lib.hid (S2.out.trans hg)
  clear hg
  go_wp2_with fail
  refine (Spread_ok a b ((slo a b k) + 1) k _ HR.out (by omega) (by omega)).mono ?_
  rintro e w4 ⟨rfl, hg⟩
  have S4 := Lib.hid (S3.out.trans hg)
  clear hg
  go_wp2_with fail
  refine (Slots_ok (a + 1) b k _ HD.out.1 HD.out.2).mono ?_
  rintro e w5 ⟨rfl, hg⟩
  have S5 := Lib.hid (S4.out.trans hg)
  clear hg
  go_wp2_with fail
  refine (Slots_ok a b (k + 1) _ HF.out.1 HF.out.2).mono ?_
  rintro e w6 ⟨rfl, hg⟩
  have S6 := Lib.hid (S5.out.trans hg)
  clear hg
  go_wp2_with fail
  all_goals go_ret
  all_goals exact ⟨rfl, S6.out⟩


set_option maxHeartbeats 800000 in
theorem GuardSlots_mdn (a b k : Int) (w : World) (hr : Rt a b k) (h0 : spr a b 0 k ≤ 1100) (hk : slo a b k < 4096) (hd : Rt (a + 1) b k ∧ spr (a + 1) b 0 k ≤ 1100) (hf : ¬ (Rt a b (k + 1) ∧ spr a b 0 (k + 1) ≤ 1100)) :
    Calls Try.prog 16 #[.int .i64 a, .int .i64 b, .int .i64 k] w fun e w' => e = .returned (.bool true) ∧ Gr w w' := by
  have hi := slo_is hr h0
  have r0 := hi.lo
  have r1 := hi.hi
  have r2 := hi.in_
  have a1 := hr.a1
  have k1 := hr.k1
  have a0 := hr.a0
  have k0 := hr.k0
  have r3 : 1100 < spr a b (slo a b k + 1) k := by rcases hi.out with h | h <;> omega
  clear hi
  have m1 := slo_anti hr h0 hd.1 hd.2 (by omega) (Int.le_refl _)
  have m2 := gkE_bad hf
  have HR := Lib.hid hr
  have H0 := Lib.hid h0
  have HD := Lib.hid hd
  have HF := Lib.hid hf
  clear hr h0 hd hf
  go_enter Try.func16, Try.ntmps16
  go_wp2_with fail
  have S0 := Lib.hid (Gr.refl w)
  refine (awake09 _).mono ?_
  rintro e w1 ⟨rfl, hg⟩
  have S1 := Lib.hid (S0.out.trans hg)
  clear hg
  go_wp2_with fail
  refine (Slots_ok a b k _ HR.out H0.out).mono ?_
  rintro e w2 ⟨rfl, hg⟩
  have S2 := Lib.hid (S1.out.trans hg)
  clear hg
  go_wp2_with fail
  refine (Spread_ok a b (slo a b k) k _ HR.out r0 r1).mono ?_
  rintro e w3 ⟨rfl, hg⟩
  have S3 := Lib.hid (S2.out.trans hg)
  clear hg
  go_wp2_with fail
  refine (Spread_ok a b ((slo a b k) + 1) k _ HR.out (by omega) (by omega)).mono ?_
  rintro e w4 ⟨rfl, hg⟩
  have S4 := Lib.hid (S3.out.trans hg)
  clear hg
  go_wp2_with fail
  refine (Slots_ok (a + 1) b k _ HD.out.1 HD.out.2).mono ?_
  rintro e w5 ⟨rfl, hg⟩
  have S5 := Lib.hid (S4.out.trans hg)
  clear hg
  go_wp2_with fail
  refine (Slots_bad a b (k + 1) _ HF.out).mono ?_
  rintro e w6 ⟨rfl, hg⟩
  have S6 := Lib.hid (S5.out.trans hg)
  clear hg
  go_wp2_with fail
  all_goals go_ret
  all_goals exact ⟨rfl, S6.out⟩


set_option maxHeartbeats 800000 in
theorem GuardSlots_mnf (a b k : Int) (w : World) (hr : Rt a b k) (h0 : spr a b 0 k ≤ 1100) (hk : slo a b k < 4096) (hd : ¬ (Rt (a + 1) b k ∧ spr (a + 1) b 0 k ≤ 1100)) (hf : Rt a b (k + 1) ∧ spr a b 0 (k + 1) ≤ 1100) :
    Calls Try.prog 16 #[.int .i64 a, .int .i64 b, .int .i64 k] w fun e w' => e = .returned (.bool true) ∧ Gr w w' := by
  have hi := slo_is hr h0
  have r0 := hi.lo
  have r1 := hi.hi
  have r2 := hi.in_
  have a1 := hr.a1
  have k1 := hr.k1
  have a0 := hr.a0
  have k0 := hr.k0
  have r3 : 1100 < spr a b (slo a b k + 1) k := by rcases hi.out with h | h <;> omega
  clear hi
  have m1 := gkE_bad hd
  have m2 := slo_anti hr h0 hf.1 hf.2 (Int.le_refl _) (by omega)
  have HR := Lib.hid hr
  have H0 := Lib.hid h0
  have HD := Lib.hid hd
  have HF := Lib.hid hf
  clear hr h0 hd hf
  go_enter Try.func16, Try.ntmps16
  go_wp2_with fail
  have S0 := Lib.hid (Gr.refl w)
  refine (awake09 _).mono ?_
  rintro e w1 ⟨rfl, hg⟩
  have S1 := Lib.hid (S0.out.trans hg)
  clear hg
  go_wp2_with fail
  refine (Slots_ok a b k _ HR.out H0.out).mono ?_
  rintro e w2 ⟨rfl, hg⟩
  have S2 := Lib.hid (S1.out.trans hg)
  clear hg
  go_wp2_with fail
  refine (Spread_ok a b (slo a b k) k _ HR.out r0 r1).mono ?_
  rintro e w3 ⟨rfl, hg⟩
  have S3 := Lib.hid (S2.out.trans hg)
  clear hg
  go_wp2_with fail
  refine (Spread_ok a b ((slo a b k) + 1) k _ HR.out (by omega) (by omega)).mono ?_
  rintro e w4 ⟨rfl, hg⟩
  have S4 := Lib.hid (S3.out.trans hg)
  clear hg
  go_wp2_with fail
  refine (Slots_bad (a + 1) b k _ HD.out).mono ?_
  rintro e w5 ⟨rfl, hg⟩
  have S5 := Lib.hid (S4.out.trans hg)
  clear hg
  go_wp2_with fail
  refine (Slots_ok a b (k + 1) _ HF.out.1 HF.out.2).mono ?_
  rintro e w6 ⟨rfl, hg⟩
  have S6 := Lib.hid (S5.out.trans hg)
  clear hg
  go_wp2_with fail
  all_goals go_ret
  all_goals exact ⟨rfl, S6.out⟩


set_option maxHeartbeats 800000 in
theorem GuardSlots_mnn (a b k : Int) (w : World) (hr : Rt a b k) (h0 : spr a b 0 k ≤ 1100) (hk : slo a b k < 4096) (hd : ¬ (Rt (a + 1) b k ∧ spr (a + 1) b 0 k ≤ 1100)) (hf : ¬ (Rt a b (k + 1) ∧ spr a b 0 (k + 1) ≤ 1100)) :
    Calls Try.prog 16 #[.int .i64 a, .int .i64 b, .int .i64 k] w fun e w' => e = .returned (.bool true) ∧ Gr w w' := by
  have hi := slo_is hr h0
  have r0 := hi.lo
  have r1 := hi.hi
  have r2 := hi.in_
  have a1 := hr.a1
  have k1 := hr.k1
  have a0 := hr.a0
  have k0 := hr.k0
  have r3 : 1100 < spr a b (slo a b k + 1) k := by rcases hi.out with h | h <;> omega
  clear hi
  have m1 := gkE_bad hd
  have m2 := gkE_bad hf
  have HR := Lib.hid hr
  have H0 := Lib.hid h0
  have HD := Lib.hid hd
  have HF := Lib.hid hf
  clear hr h0 hd hf
  go_enter Try.func16, Try.ntmps16
  go_wp2_with fail
  have S0 := Lib.hid (Gr.refl w)
  refine (awake09 _).mono ?_
  rintro e w1 ⟨rfl, hg⟩
  have S1 := Lib.hid (S0.out.trans hg)
  clear hg
  go_wp2_with fail
  refine (Slots_ok a b k _ HR.out H0.out).mono ?_
  rintro e w2 ⟨rfl, hg⟩
  have S2 := Lib.hid (S1.out.trans hg)
  clear hg
  go_wp2_with fail
  refine (Spread_ok a b (slo a b k) k _ HR.out r0 r1).mono ?_
  rintro e w3 ⟨rfl, hg⟩
  have S3 := Lib.hid (S2.out.trans hg)
  clear hg
  go_wp2_with fail
  refine (Spread_ok a b ((slo a b k) + 1) k _ HR.out (by omega) (by omega)).mono ?_
  rintro e w4 ⟨rfl, hg⟩
  have S4 := Lib.hid (S3.out.trans hg)
  clear hg
  go_wp2_with fail
  refine (Slots_bad (a + 1) b k _ HD.out).mono ?_
  rintro e w5 ⟨rfl, hg⟩
  have S5 := Lib.hid (S4.out.trans hg)
  clear hg
  go_wp2_with fail
  refine (Slots_bad a b (k + 1) _ HF.out).mono ?_
  rintro e w6 ⟨rfl, hg⟩
  have S6 := Lib.hid (S5.out.trans hg)
  clear hg
  go_wp2_with fail
  all_goals go_ret
  all_goals exact ⟨rfl, S6.out⟩


theorem GuardSlots_walk (a b k : Int) (w : World) :
    Calls Try.prog 16 #[.int .i64 a, .int .i64 b, .int .i64 k] w fun e w' => e = .returned (.bool true) ∧ Gr w w' := by
  by_cases hr : Rt a b k
  · by_cases h0 : spr a b 0 k ≤ 1100
    · have hi := (slo_is hr h0).hi
      by_cases hd : Rt (a + 1) b k ∧ spr (a + 1) b 0 k ≤ 1100
      · by_cases hf : Rt a b (k + 1) ∧ spr a b 0 (k + 1) ≤ 1100
        · by_cases hk : slo a b k = 4096
          · exact GuardSlots_ldf a b k w hr h0 hk hd hf
          · exact GuardSlots_mdf a b k w hr h0 (by omega) hd hf
        · by_cases hk : slo a b k = 4096
          · exact GuardSlots_ldn a b k w hr h0 hk hd hf
          · exact GuardSlots_mdn a b k w hr h0 (by omega) hd hf
      · by_cases hf : Rt a b (k + 1) ∧ spr a b 0 (k + 1) ≤ 1100
        · by_cases hk : slo a b k = 4096
          · exact GuardSlots_lnf a b k w hr h0 hk hd hf
          · exact GuardSlots_mnf a b k w hr h0 (by omega) hd hf
        · by_cases hk : slo a b k = 4096
          · exact GuardSlots_lnn a b k w hr h0 hk hd hf
          · exact GuardSlots_mnn a b k w hr h0 (by omega) hd hf
    · exact GuardSlots_conf a b k w hr (by omega)
  · exact GuardSlots_no a b k w hr
set_option maxRecDepth 100000 in
set_option maxHeartbeats 1000000 in
theorem GuardSlots_lifted (os : Os) (started : os.Started) (H : Type) (enc : TypeId × Value → H) :
    ReturnsInHanded {} Try.checked os 16 .any (Rows.guardSlotsSpec.pre6 enc Try.prog Try.f16 Rows.guardSlotsRow.domain false) (Rows.guardSlotsSpec.post enc Try.prog Try.f16 false true false false) := by
  refine returnsInHanded_of_change (C := Try.checked) Try.own started (by kernel_rfl) Try.func16
    (ChangeSpec.witness6 (enc := enc) (C := Try.checked) false ⟨#[], #[.int .i64 0, .int .i64 0, .int .i64 0], []⟩ 8 (by kernel_rfl) (by kernel_rfl) (by kernel_rfl) (by kernel_rfl)) ?_
  intro W base args ds gs before hval0 hW hcnd _
  have hval : ∀ (j : Nat) t v, Try.f16.params[j]? = some t → args[j]? = some v → Value.okWide Try.prog W .any base t v := hval0
  have hW' := hW
  obtain ⟨p, q, hA0, hV, rfl, hfz, hnd⟩ := hW
  have hA : DataW.TrodAll enc Try.prog W 0 (fun _ => true) true Try.f16.params.toList args.toList ds p := hA0
  rw [Try.params16] at hA hval
  have hAk := hA
  obtain ⟨v0, vs0, d0, ds0, p0, q0, hargs, rfl, rfl, h0, r0⟩ := trodAll_cons hA
  obtain ⟨v1, vs1, d1, ds1, p1, q1, rfl, rfl, rfl, h1, r1⟩ := trodAll_cons r0
  obtain ⟨v2, vs2, d2, ds2, p2, q2, rfl, rfl, rfl, h2, r2⟩ := trodAll_cons r1
  obtain ⟨rfl, rfl, rfl⟩ := trodAll_nil r2
  obtain rfl : args = #[v0, v1, v2] := by cases args; simp_all
  obtain ⟨rfl, rfl⟩ := trodVars_none hV
  obtain ⟨a, rfl, rfl, rfl, wfa⟩ := open_int Try.underlying3 (hval 0 3 v0 rfl rfl) h0
  obtain ⟨b, rfl, rfl, rfl, wfb⟩ := open_int Try.underlying3 (hval 1 3 v1 rfl rfl) h1
  obtain ⟨k, rfl, rfl, rfl, wfk⟩ := open_int Try.underlying3 (hval 2 3 v2 rfl rfl) h2
  clear hA0 hval0
  simp only [List.append_nil] at hW'
  refine (GuardSlots_walk a b k W).mono fun e W' ⟨he, hg⟩ => ?_
  subst he
  have hb : Below W.heap.size W W' := hg
  exact ⟨_, rfl, _, _, _, [], _, [], hW', trodAll_mk1 (shut_bool Try.underlying4 _), trodAll_stays Try.laidOut hb _ _ _ _ (by intro t ht; simp at ht; rcases ht with rfl | rfl | rfl <;> exact ⟨by kernel_rfl, of_decide_eq_true (by kernel_rfl)⟩) hAk (fun x hx => by simpa using hW'.lt x (by simpa using hx)), rfl, hb.frame _, fun h => by cases h⟩

theorem GuardSlots_closed : joinedFacts Try.pinned.checked.prog 16 Try.f16 Rows.guardSlotsSpec Rows.guardSlotsRow = true := by
  unfold joinedFacts
  exact (and_tt (and_tt (and_tt (and_tt (and_tt (and_tt (and_tt (and_tt (and_tt (and_tt (and_tt (and_tt (and_tt (and_tt (and_tt (and_tt (and_tt (and_tt (and_tt (and_tt (and_tt (and_tt (and_tt (and_tt (and_tt (and_tt (and_tt (and_tt (and_tt (and_tt (and_tt (by as_aux_lemma => kernel_rfl) (J_laid)) (J_maps)) (by as_aux_lemma => kernel_rfl)) (by as_aux_lemma => kernel_rfl)) (by as_aux_lemma => kernel_rfl)) (J_stops)) (by as_aux_lemma => kernel_rfl)) (J_knobs)) (by as_aux_lemma => kernel_rfl)) (by as_aux_lemma => kernel_rfl)) (by as_aux_lemma => kernel_rfl)) (by as_aux_lemma => kernel_rfl)) (by as_aux_lemma => kernel_rfl)) (by as_aux_lemma => kernel_rfl)) (by as_aux_lemma => kernel_rfl)) (by as_aux_lemma => kernel_rfl)) (by as_aux_lemma => kernel_rfl)) (by as_aux_lemma => kernel_rfl)) (by as_aux_lemma => kernel_rfl)) (by as_aux_lemma => kernel_rfl)) (by as_aux_lemma => kernel_rfl)) (J_keys)) (by as_aux_lemma => kernel_rfl)) (J_heard)) (J_enter)) (J_lifts)) (J_make)) (by as_aux_lemma => kernel_rfl)) (by as_aux_lemma => kernel_rfl)) (by as_aux_lemma => kernel_rfl)) (by as_aux_lemma => kernel_rfl))

/-- THE STATEMENT GuardSlots. -/
theorem GuardSlots_holds : Rows.GuardSlotsSaid :=
  OpenClaim.holds_of_wide 16 Try.f16 rfl rfl rfl rfl rfl rfl rfl ⟨rfl, rfl, rfl, rfl, rfl⟩ rfl rfl rfl rfl rfl (by kernel_rfl) Try.func16 GuardSlots_closed
    (of_decide_eq_true (by kernel_rfl)) (by unfold Func.isWrapper; rw [if_neg (of_decide_eq_false (by kernel_rfl))]; exact ⟨rfl, rfl⟩)
    (fun os started H enc _ => GuardSlots_lifted os started H enc)
#print axioms GuardSlots_holds
end Go.Proofs.Ytpnigndobhbfnaa
