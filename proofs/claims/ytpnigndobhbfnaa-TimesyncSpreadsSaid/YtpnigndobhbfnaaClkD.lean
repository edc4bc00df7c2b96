/- The walks of the reference's clock, and of Apart. -/
import Derived.Test.YtpnigndobhbfnaaClkB
import Derived.Deep.RegionHeld3
namespace Go.Proofs.Ytpnigndobhbfnaa
open Go.RowKit
set_option maxHeartbeats 400000 in
theorem rTime_ok (t : Int) (w : World) (h0 : 0 ≤ t) (h1 : t ≤ 1099511627776) : Calls Try.prog 94 #[.int .i64 t] w fun e w' => e = .returned (.bool true) ∧ Gr w w' := by
  go_enter Try.func94, Try.ntmps94
  go_wp2
  go_ret
  exact ⟨rfl, Gr.refl _⟩

set_option maxHeartbeats 400000 in
theorem rTime_no (t : Int) (w : World) (h : t < 0 ∨ 1099511627776 < t) : Calls Try.prog 94 #[.int .i64 t] w fun e w' => e = .returned (.bool false) ∧ Gr w w' := by
  rcases h with h | h
  all_goals
    go_enter Try.func94, Try.ntmps94
    go_wp2
    go_ret
    first | exact ⟨rfl, Gr.refl _⟩ | exact ⟨congrArg (fun b => Ending.returned (.bool b)) (decide_eq_false (by omega)), Gr.refl _⟩

set_option maxHeartbeats 400000 in
theorem rShow_ok (o d t : Int) (w : World) (hv : Vc o d) (h0 : 0 ≤ t) (h1 : t ≤ 1099511627776) :
    Calls Try.prog 29 #[.agg #[.int .i64 o, .int .i64 d], .int .i64 t] w fun e w' => e = .returned (.tuple #[.int .i64 (rd o d t), .int .i64 0]) ∧ Gr w w' := by
  have HV := Lib.hid hv
  clear hv
  go_enter Try.func29, Try.ntmps29
  go_wp2_with fail
  have g0 : Gr w (w.alloc (Obj.cells #[.int .i64 o, .int .i64 d] 23)) := (Gr.refl _).alloc _
  have k0 := Ck.new w o d 23
  generalize w.alloc (Obj.cells #[.int .i64 o, .int .i64 d] 23) = W at g0 k0 ⊢
  have S0 := Lib.hid g0
  have K0 := Lib.hid k0
  clear g0 k0
  refine (rcheck_ok o d _ HV.out).mono ?_
  rintro e w1 ⟨rfl, hg⟩
  have S1 := Lib.hid (S0.out.trans hg)
  have K1 := Lib.hid (K0.out.gr hg)
  clear hg
  have c0 := K1.out.c0
  have c1 := K1.out.c1
  go_wp2_with fail
  clear c0 c1
  refine (rTime_ok t _ h0 h1).mono ?_
  rintro e w2 ⟨rfl, hg⟩
  have S2 := Lib.hid (S1.out.trans hg)
  have K2 := Lib.hid (K1.out.gr hg)
  clear hg
  have c0 := K2.out.c0
  have c1 := K2.out.c1
  go_wp2_with fail
  clear c0 c1
  refine (at_any o d t _ HV.out h0 h1).mono ?_
  rintro e w3 ⟨rfl, hg⟩
  have S3 := Lib.hid (S2.out.trans hg)
  clear hg
  go_wp2_with fail
  go_ret2
  exact ⟨rfl, S3.out⟩

set_option maxHeartbeats 400000 in
theorem rShow_arg (o d t : Int) (w : World) (hv : ¬ Vc o d) :
    Calls Try.prog 29 #[.agg #[.int .i64 o, .int .i64 d], .int .i64 t] w fun e w' => e = .returned (.tuple #[.int .i64 0, .int .i64 1]) ∧ Gr w w' := by
  have HV := Lib.hid hv
  clear hv
  go_enter Try.func29, Try.ntmps29
  go_wp2_with fail
  have g0 : Gr w (w.alloc (Obj.cells #[.int .i64 o, .int .i64 d] 23)) := (Gr.refl _).alloc _
  have k0 := Ck.new w o d 23
  generalize w.alloc (Obj.cells #[.int .i64 o, .int .i64 d] 23) = W at g0 k0 ⊢
  have S0 := Lib.hid g0
  have K0 := Lib.hid k0
  clear g0 k0
  refine (rcheck_no o d _ HV.out).mono ?_
  rintro e w1 ⟨rfl, hg⟩
  have S1 := Lib.hid (S0.out.trans hg)
  clear hg
  go_wp2_with fail
  go_ret2
  exact ⟨rfl, S1.out⟩

set_option maxHeartbeats 400000 in
theorem rShow_range (o d t : Int) (w : World) (hv : Vc o d) (h : t < 0 ∨ 1099511627776 < t) :
    Calls Try.prog 29 #[.agg #[.int .i64 o, .int .i64 d], .int .i64 t] w fun e w' => e = .returned (.tuple #[.int .i64 0, .int .i64 2]) ∧ Gr w w' := by
  have HV := Lib.hid hv
  have H := Lib.hid h
  clear hv h
  go_enter Try.func29, Try.ntmps29
  go_wp2_with fail
  have g0 : Gr w (w.alloc (Obj.cells #[.int .i64 o, .int .i64 d] 23)) := (Gr.refl _).alloc _
  have k0 := Ck.new w o d 23
  generalize w.alloc (Obj.cells #[.int .i64 o, .int .i64 d] 23) = W at g0 k0 ⊢
  have S0 := Lib.hid g0
  have K0 := Lib.hid k0
  clear g0 k0
  refine (rcheck_ok o d _ HV.out).mono ?_
  rintro e w1 ⟨rfl, hg⟩
  have S1 := Lib.hid (S0.out.trans hg)
  clear hg
  go_wp2_with fail
  refine (rTime_no t _ H.out).mono ?_
  rintro e w2 ⟨rfl, hg⟩
  have S2 := Lib.hid (S1.out.trans hg)
  clear hg
  go_wp2_with fail
  go_ret2
  exact ⟨rfl, S2.out⟩

set_option maxHeartbeats 400000 in
theorem rSlot_ok (o d t : Int) (w : World) (hv : Vc o d) (h0 : 0 ≤ t) (h1 : t ≤ 1099511627776) (_hx : 0 ≤ rd o d t) :
    Calls Try.prog 32 #[.agg #[.int .i64 o, .int .i64 d], .int .i64 t] w fun e w' => e = .returned (.tuple #[.int .i64 (rd o d t / 10000), .int .i64 0]) ∧ Gr w w' := by
  have hb := (rd_bd hv h0 h1).2
  have HV := Lib.hid hv
  clear hv
  go_enter Try.func32, Try.ntmps32
  go_wp2_with fail
  have g0 : Gr w (w.alloc (Obj.cells #[.int .i64 o, .int .i64 d] 23)) := (Gr.refl _).alloc _
  have k0 := Ck.new w o d 23
  generalize w.alloc (Obj.cells #[.int .i64 o, .int .i64 d] 23) = W at g0 k0 ⊢
  have S0 := Lib.hid g0
  have K0 := Lib.hid k0
  clear g0 k0
  refine (rShow_ok o d t _ HV.out h0 h1).mono ?_
  rintro e w1 ⟨rfl, hg⟩
  have S1 := Lib.hid (S0.out.trans hg)
  clear hg
  go_wp2_with fail
  go_ret2
  exact ⟨rfl, S1.out⟩

set_option maxHeartbeats 400000 in
theorem rSlot_empty (o d t : Int) (w : World) (hv : Vc o d) (h0 : 0 ≤ t) (h1 : t ≤ 1099511627776) (hx : rd o d t < 0) :
    Calls Try.prog 32 #[.agg #[.int .i64 o, .int .i64 d], .int .i64 t] w fun e w' => e = .returned (.tuple #[.int .i64 0, .int .i64 14]) ∧ Gr w w' := by
  have HV := Lib.hid hv
  clear hv
  go_enter Try.func32, Try.ntmps32
  go_wp2_with fail
  have g0 : Gr w (w.alloc (Obj.cells #[.int .i64 o, .int .i64 d] 23)) := (Gr.refl _).alloc _
  have k0 := Ck.new w o d 23
  generalize w.alloc (Obj.cells #[.int .i64 o, .int .i64 d] 23) = W at g0 k0 ⊢
  have S0 := Lib.hid g0
  have K0 := Lib.hid k0
  clear g0 k0
  refine (rShow_ok o d t _ HV.out h0 h1).mono ?_
  rintro e w1 ⟨rfl, hg⟩
  have S1 := Lib.hid (S0.out.trans hg)
  clear hg
  go_wp2_with fail
  go_ret2
  exact ⟨rfl, S1.out⟩

set_option maxHeartbeats 400000 in
theorem rSlot_arg (o d t : Int) (w : World) (hv : ¬ Vc o d) :
    Calls Try.prog 32 #[.agg #[.int .i64 o, .int .i64 d], .int .i64 t] w fun e w' => e = .returned (.tuple #[.int .i64 0, .int .i64 1]) ∧ Gr w w' := by
  have HV := Lib.hid hv
  clear hv
  go_enter Try.func32, Try.ntmps32
  go_wp2_with fail
  have g0 : Gr w (w.alloc (Obj.cells #[.int .i64 o, .int .i64 d] 23)) := (Gr.refl _).alloc _
  have k0 := Ck.new w o d 23
  generalize w.alloc (Obj.cells #[.int .i64 o, .int .i64 d] 23) = W at g0 k0 ⊢
  have S0 := Lib.hid g0
  have K0 := Lib.hid k0
  clear g0 k0
  refine (rShow_arg o d t _ HV.out).mono ?_
  rintro e w1 ⟨rfl, hg⟩
  have S1 := Lib.hid (S0.out.trans hg)
  clear hg
  go_wp2_with fail
  go_ret2
  exact ⟨rfl, S1.out⟩

set_option maxHeartbeats 400000 in
theorem rSlot_range (o d t : Int) (w : World) (hv : Vc o d) (h : t < 0 ∨ 1099511627776 < t) :
    Calls Try.prog 32 #[.agg #[.int .i64 o, .int .i64 d], .int .i64 t] w fun e w' => e = .returned (.tuple #[.int .i64 0, .int .i64 2]) ∧ Gr w w' := by
  have HV := Lib.hid hv
  have H := Lib.hid h
  clear hv h
  go_enter Try.func32, Try.ntmps32
  go_wp2_with fail
  have g0 : Gr w (w.alloc (Obj.cells #[.int .i64 o, .int .i64 d] 23)) := (Gr.refl _).alloc _
  have k0 := Ck.new w o d 23
  generalize w.alloc (Obj.cells #[.int .i64 o, .int .i64 d] 23) = W at g0 k0 ⊢
  have S0 := Lib.hid g0
  have K0 := Lib.hid k0
  clear g0 k0
  refine (rShow_range o d t _ HV.out H.out).mono ?_
  rintro e w1 ⟨rfl, hg⟩
  have S1 := Lib.hid (S0.out.trans hg)
  clear hg
  go_wp2_with fail
  go_ret2
  exact ⟨rfl, S1.out⟩

set_option maxHeartbeats 400000 in
theorem rReach_arg (o d x : Int) (w : World) (hv : ¬ Vc o d) :
    Calls Try.prog 30 #[.agg #[.int .i64 o, .int .i64 d], .int .i64 x] w fun e w' => e = .returned (.tuple #[.int .i64 0, .int .i64 1]) ∧ Gr w w' := by
  have HV := Lib.hid hv
  clear hv
  go_enter Try.func30, Try.ntmps30
  go_wp2_with fail
  have g0 : Gr w (w.alloc (Obj.cells #[.int .i64 o, .int .i64 d] 23)) := (Gr.refl _).alloc _
  have k0 := Ck.new w o d 23
  generalize w.alloc (Obj.cells #[.int .i64 o, .int .i64 d] 23) = W at g0 k0 ⊢
  have S0 := Lib.hid g0
  have K0 := Lib.hid k0
  clear g0 k0
  refine (rcheck_no o d _ HV.out).mono ?_
  rintro e w1 ⟨rfl, hg⟩
  have S1 := Lib.hid (S0.out.trans hg)
  clear hg
  go_wp2_with fail
  go_ret2
  exact ⟨rfl, S1.out⟩

set_option maxHeartbeats 400000 in
theorem rReach_late (o d x : Int) (w : World) (hv : Vc o d) (hx : rd o d 1099511627776 < x) :
    Calls Try.prog 30 #[.agg #[.int .i64 o, .int .i64 d], .int .i64 x] w fun e w' => e = .returned (.tuple #[.int .i64 0, .int .i64 15]) ∧ Gr w w' := by
  have HV := Lib.hid hv
  clear hv
  go_enter Try.func30, Try.ntmps30
  go_wp2_with fail
  have g0 : Gr w (w.alloc (Obj.cells #[.int .i64 o, .int .i64 d] 23)) := (Gr.refl _).alloc _
  have k0 := Ck.new w o d 23
  generalize w.alloc (Obj.cells #[.int .i64 o, .int .i64 d] 23) = W at g0 k0 ⊢
  have S0 := Lib.hid g0
  have K0 := Lib.hid k0
  clear g0 k0
  refine (rcheck_ok o d _ HV.out).mono ?_
  rintro e w1 ⟨rfl, hg⟩
  have S1 := Lib.hid (S0.out.trans hg)
  have K1 := Lib.hid (K0.out.gr hg)
  clear hg
  have c0 := K1.out.c0
  have c1 := K1.out.c1
  go_wp2_with fail
  clear c0 c1
  refine (at_any o d _ _ HV.out (by omega) (by omega)).mono ?_
  rintro e w2 ⟨rfl, hg⟩
  have S2 := Lib.hid (S1.out.trans hg)
  clear hg
  go_wp2_with fail
  go_ret2
  exact ⟨rfl, S2.out⟩

set_option maxHeartbeats 400000 in
theorem rReach_ok (o d x : Int) (w : World) (hv : Vc o d) (hx : x ≤ rd o d 1099511627776) :
    Calls Try.prog 30 #[.agg #[.int .i64 o, .int .i64 d], .int .i64 x] w fun e w' => e = .returned (.tuple #[.int .i64 (rch o d x), .int .i64 0]) ∧ Gr w w' := by
  have hhx := Lib.hid hx
  have HV := Lib.hid hv
  clear hv
  go_enter Try.func30, Try.ntmps30
  go_wp2_with fail
  have g0 : Gr w (w.alloc (Obj.cells #[.int .i64 o, .int .i64 d] 23)) := (Gr.refl _).alloc _
  have k0 := Ck.new w o d 23
  generalize w.alloc (Obj.cells #[.int .i64 o, .int .i64 d] 23) = W at g0 k0 ⊢
  have S0 := Lib.hid g0
  have K0 := Lib.hid k0
  clear g0 k0
  refine (rcheck_ok o d _ HV.out).mono ?_
  rintro e w1 ⟨rfl, hg⟩
  have S1 := Lib.hid (S0.out.trans hg)
  have K1 := Lib.hid (K0.out.gr hg)
  clear hg
  have c0 := K1.out.c0
  have c1 := K1.out.c1
  go_wp2_with fail
  clear c0 c1
  refine (at_any o d _ _ HV.out (by omega) (by omega)).mono ?_
  rintro e w2 ⟨rfl, hg⟩
  have S2 := Lib.hid (S1.out.trans hg)
  have K2 := Lib.hid (K1.out.gr hg)
  clear hg
  have c0 := K2.out.c0
  have c1 := K2.out.c1
  go_wp2_with fail
  clear c0 c1
  clear hx
  go_loopw [6, 7, 8] (fun s6 s7 _ wr => ∃ (lo hi : Int), s6 = .int .i64 lo ∧ s7 = .int .i64 hi ∧ 0 ≤ lo ∧ lo ≤ hi ∧ hi ≤ 1099511627776 ∧ Gr w wr ∧ Ck wr w.heap.size o d ∧ Hid ((lo = 0 ∨ rd o d (lo - 1) < x) ∧ (hi = 1099511627776 ∨ x ≤ rd o d hi))) (fun s6 s7 _ _ => (intOf s7 - intOf s6).toNat)
  case atStart => exact ⟨0, 1099511627776, rfl, rfl, by omega, by omega, by omega, S2.out, K2.out, Lib.hid ⟨Or.inl rfl, Or.inl rfl⟩⟩
  case round =>
    obtain ⟨lo, hi, rfl, rfl, hl0, hlh, hhn, hB, hK, HI⟩ := hrel
    have S3 := Lib.hid hB
    have K3 := Lib.hid hK
    clear hB
    have c0 := hK.c0
    have c1 := hK.c1
    clear hK
    by_cases hlt : lo < hi
    · by_cases hp : x ≤ rd o d ((lo + hi) / 2)
      · go_wp2_with fail
        clear c0 c1
        refine (at_any o d _ _ HV.out (by omega) (by omega)).mono ?_
        rintro e w4 ⟨rfl, hg⟩
        have S4 := Lib.hid (S3.out.trans hg)
        have K4 := Lib.hid (K3.out.gr hg)
        clear hg
        go_wp2_with fail
        have hJ : Hid ((lo = 0 ∨ rd o d (lo - 1) < x) ∧ ((lo + hi) / 2 = 1099511627776 ∨ x ≤ rd o d ((lo + hi) / 2))) := ⟨HI.out.1, Or.inr hp⟩
        go_roundw
        case rel => exact ⟨_, _, rfl, rfl, by omega, by omega, by omega, S4.out, K4.out, hJ⟩
        case measure => simp [intOf]; omega
      · go_wp2_with fail
        clear c0 c1
        refine (at_any o d _ _ HV.out (by omega) (by omega)).mono ?_
        rintro e w4 ⟨rfl, hg⟩
        have S4 := Lib.hid (S3.out.trans hg)
        have K4 := Lib.hid (K3.out.gr hg)
        clear hg
        go_wp2_with fail
        have hJ : Hid (((lo + hi) / 2 + 1 = 0 ∨ rd o d ((lo + hi) / 2 + 1 - 1) < x) ∧ (hi = 1099511627776 ∨ x ≤ rd o d hi)) := ⟨Or.inr (by rw [Int.add_sub_cancel]; omega), HI.out.2⟩
        go_roundw
        case rel => exact ⟨_, _, rfl, rfl, by omega, by omega, by omega, S4.out, K4.out, hJ⟩
        case measure => simp [intOf]; omega
    · obtain rfl : hi = lo := by omega
      clear c0 c1
      go_wp2
      go_ret2
      have hr : rch o d x = hi := Sr.rch (r := hi) HV.out ⟨hl0, hhn, HI.out.1.imp id (fun h => decide_eq_false (by omega)), HI.out.2.imp id (fun h => decide_eq_true h)⟩ hhx.out
      exact ⟨by rw [hr]; rfl, S3.out⟩

set_option maxHeartbeats 400000 in
theorem in_ok (o d s x : Int) (w : World) (hv : Vc o d) (h0 : 0 ≤ s) (h1 : s ≤ 109951162) (x0 : 0 ≤ x) (x1 : x ≤ 10000) (hx : s * 10000 + x ≤ rd o d 1099511627776) :
    Calls Try.prog 97 #[.agg #[.int .i64 o, .int .i64 d], .int .i64 s, .int .i64 x] w fun e w' => e = .returned (.tuple #[.int .i64 (rch o d (s * 10000 + x)), .int .i64 0]) ∧ Gr w w' := by
  have HV := Lib.hid hv
  have HX := Lib.hid hx
  clear hv hx
  go_enter Try.func97, Try.ntmps97
  go_wp2_with fail
  have g0 : Gr w (w.alloc (Obj.cells #[.int .i64 o, .int .i64 d] 23)) := (Gr.refl _).alloc _
  have k0 := Ck.new w o d 23
  generalize w.alloc (Obj.cells #[.int .i64 o, .int .i64 d] 23) = W at g0 k0 ⊢
  have S0 := Lib.hid g0
  have K0 := Lib.hid k0
  clear g0 k0
  refine (rcheck_ok o d _ HV.out).mono ?_
  rintro e w1 ⟨rfl, hg⟩
  have S1 := Lib.hid (S0.out.trans hg)
  have K1 := Lib.hid (K0.out.gr hg)
  clear hg
  have c0 := K1.out.c0
  have c1 := K1.out.c1
  go_wp2_with fail
  clear c0 c1
  refine (rReach_ok o d (s * 10000 + x) _ HV.out HX.out).mono ?_
  rintro e w2 ⟨rfl, hg⟩
  have S2 := Lib.hid (S1.out.trans hg)
  clear hg
  go_wp2_with fail
  go_ret2
  exact ⟨rfl, S2.out⟩

set_option maxHeartbeats 400000 in
theorem in_late (o d s x : Int) (w : World) (hv : Vc o d) (h0 : 0 ≤ s) (h1 : s ≤ 109951162) (x0 : 0 ≤ x) (x1 : x ≤ 10000) (hx : rd o d 1099511627776 < s * 10000 + x) :
    Calls Try.prog 97 #[.agg #[.int .i64 o, .int .i64 d], .int .i64 s, .int .i64 x] w fun e w' => e = .returned (.tuple #[.int .i64 0, .int .i64 15]) ∧ Gr w w' := by
  have HV := Lib.hid hv
  have HX := Lib.hid hx
  clear hv hx
  go_enter Try.func97, Try.ntmps97
  go_wp2_with fail
  have g0 : Gr w (w.alloc (Obj.cells #[.int .i64 o, .int .i64 d] 23)) := (Gr.refl _).alloc _
  have k0 := Ck.new w o d 23
  generalize w.alloc (Obj.cells #[.int .i64 o, .int .i64 d] 23) = W at g0 k0 ⊢
  have S0 := Lib.hid g0
  have K0 := Lib.hid k0
  clear g0 k0
  refine (rcheck_ok o d _ HV.out).mono ?_
  rintro e w1 ⟨rfl, hg⟩
  have S1 := Lib.hid (S0.out.trans hg)
  have K1 := Lib.hid (K0.out.gr hg)
  clear hg
  have c0 := K1.out.c0
  have c1 := K1.out.c1
  go_wp2_with fail
  clear c0 c1
  refine (rReach_late o d (s * 10000 + x) _ HV.out HX.out).mono ?_
  rintro e w2 ⟨rfl, hg⟩
  have S2 := Lib.hid (S1.out.trans hg)
  clear hg
  go_wp2_with fail
  go_ret2
  exact ⟨rfl, S2.out⟩

set_option maxHeartbeats 400000 in
theorem in_arg (o d s x : Int) (w : World) (hv : ¬ Vc o d) :
    Calls Try.prog 97 #[.agg #[.int .i64 o, .int .i64 d], .int .i64 s, .int .i64 x] w fun e w' => e = .returned (.tuple #[.int .i64 0, .int .i64 1]) ∧ Gr w w' := by
  have HV := Lib.hid hv
  clear hv
  go_enter Try.func97, Try.ntmps97
  go_wp2_with fail
  have g0 : Gr w (w.alloc (Obj.cells #[.int .i64 o, .int .i64 d] 23)) := (Gr.refl _).alloc _
  have k0 := Ck.new w o d 23
  generalize w.alloc (Obj.cells #[.int .i64 o, .int .i64 d] 23) = W at g0 k0 ⊢
  have S0 := Lib.hid g0
  have K0 := Lib.hid k0
  clear g0 k0
  refine (rcheck_no o d _ HV.out).mono ?_
  rintro e w1 ⟨rfl, hg⟩
  have S1 := Lib.hid (S0.out.trans hg)
  clear hg
  go_wp2_with fail
  go_ret2
  exact ⟨rfl, S1.out⟩

set_option maxHeartbeats 400000 in
theorem in_range (o d s x : Int) (w : World) (hv : Vc o d) (h : s < 0 ∨ 109951162 < s) :
    Calls Try.prog 97 #[.agg #[.int .i64 o, .int .i64 d], .int .i64 s, .int .i64 x] w fun e w' => e = .returned (.tuple #[.int .i64 0, .int .i64 2]) ∧ Gr w w' := by
  have HV := Lib.hid hv
  clear hv
  rcases h with h | h
  all_goals
    go_enter Try.func97, Try.ntmps97
    go_wp2_with fail
    have g0 : Gr w (w.alloc (Obj.cells #[.int .i64 o, .int .i64 d] 23)) := (Gr.refl _).alloc _
    have k0 := Ck.new w o d 23
    generalize w.alloc (Obj.cells #[.int .i64 o, .int .i64 d] 23) = W at g0 k0 ⊢
    have S0 := Lib.hid g0
    have K0 := Lib.hid k0
    clear g0 k0
    refine (rcheck_ok o d _ HV.out).mono ?_
    rintro e w1 ⟨rfl, hg⟩
    have S1 := Lib.hid (S0.out.trans hg)
    clear hg
    go_wp2_with fail
    go_ret2
    exact ⟨rfl, S1.out⟩


set_option maxHeartbeats 400000 in
theorem rBegin_ok (o d s : Int) (w : World) (hv : Vc o d) (h0 : 0 ≤ s) (h1 : s ≤ 109951162) (hx : s * 10000 ≤ rd o d 1099511627776) :
    Calls Try.prog 36 #[.agg #[.int .i64 o, .int .i64 d], .int .i64 s] w fun e w' => e = .returned (.tuple #[.int .i64 (rch o d (s * 10000)), .int .i64 0]) ∧ Gr w w' := by
  have HV := Lib.hid hv
  have HX := Lib.hid hx
  clear hv hx
  go_enter Try.func36, Try.ntmps36
  go_wp2_with fail
  have g0 : Gr w (w.alloc (Obj.cells #[.int .i64 o, .int .i64 d] 23)) := (Gr.refl _).alloc _
  have k0 := Ck.new w o d 23
  generalize w.alloc (Obj.cells #[.int .i64 o, .int .i64 d] 23) = W at g0 k0 ⊢
  have S0 := Lib.hid g0
  have K0 := Lib.hid k0
  clear g0 k0
  refine (in_ok o d s 0 _ HV.out h0 h1 (by omega) (by omega) (by have := HX.out; omega)).mono ?_
  rintro e w1 ⟨rfl, hg⟩
  have S1 := Lib.hid (S0.out.trans hg)
  clear hg
  go_wp2_with fail
  go_ret2
  exact ⟨rfl, S1.out⟩

set_option maxHeartbeats 400000 in
theorem rBegin_late (o d s : Int) (w : World) (hv : Vc o d) (h0 : 0 ≤ s) (h1 : s ≤ 109951162) (hx : rd o d 1099511627776 < s * 10000) :
    Calls Try.prog 36 #[.agg #[.int .i64 o, .int .i64 d], .int .i64 s] w fun e w' => e = .returned (.tuple #[.int .i64 0, .int .i64 15]) ∧ Gr w w' := by
  have HV := Lib.hid hv
  have HX := Lib.hid hx
  clear hv hx
  go_enter Try.func36, Try.ntmps36
  go_wp2_with fail
  have g0 : Gr w (w.alloc (Obj.cells #[.int .i64 o, .int .i64 d] 23)) := (Gr.refl _).alloc _
  have k0 := Ck.new w o d 23
  generalize w.alloc (Obj.cells #[.int .i64 o, .int .i64 d] 23) = W at g0 k0 ⊢
  have S0 := Lib.hid g0
  have K0 := Lib.hid k0
  clear g0 k0
  refine (in_late o d s 0 _ HV.out h0 h1 (by omega) (by omega) (by have := HX.out; omega)).mono ?_
  rintro e w1 ⟨rfl, hg⟩
  have S1 := Lib.hid (S0.out.trans hg)
  clear hg
  go_wp2_with fail
  go_ret2
  exact ⟨rfl, S1.out⟩

set_option maxHeartbeats 400000 in
theorem rBegin_arg (o d s : Int) (w : World) (hv : ¬ Vc o d) :
    Calls Try.prog 36 #[.agg #[.int .i64 o, .int .i64 d], .int .i64 s] w fun e w' => e = .returned (.tuple #[.int .i64 0, .int .i64 1]) ∧ Gr w w' := by
  have HV := Lib.hid hv
  clear hv
  go_enter Try.func36, Try.ntmps36
  go_wp2_with fail
  have g0 : Gr w (w.alloc (Obj.cells #[.int .i64 o, .int .i64 d] 23)) := (Gr.refl _).alloc _
  have k0 := Ck.new w o d 23
  generalize w.alloc (Obj.cells #[.int .i64 o, .int .i64 d] 23) = W at g0 k0 ⊢
  have S0 := Lib.hid g0
  have K0 := Lib.hid k0
  clear g0 k0
  refine (in_arg o d s 0 _ HV.out).mono ?_
  rintro e w1 ⟨rfl, hg⟩
  have S1 := Lib.hid (S0.out.trans hg)
  clear hg
  go_wp2_with fail
  go_ret2
  exact ⟨rfl, S1.out⟩

set_option maxHeartbeats 400000 in
theorem rBegin_range (o d s : Int) (w : World) (hv : Vc o d) (hx : s < 0 ∨ 109951162 < s) :
    Calls Try.prog 36 #[.agg #[.int .i64 o, .int .i64 d], .int .i64 s] w fun e w' => e = .returned (.tuple #[.int .i64 0, .int .i64 2]) ∧ Gr w w' := by
  have HV := Lib.hid hv
  have HX := Lib.hid hx
  clear hv hx
  go_enter Try.func36, Try.ntmps36
  go_wp2_with fail
  have g0 : Gr w (w.alloc (Obj.cells #[.int .i64 o, .int .i64 d] 23)) := (Gr.refl _).alloc _
  have k0 := Ck.new w o d 23
  generalize w.alloc (Obj.cells #[.int .i64 o, .int .i64 d] 23) = W at g0 k0 ⊢
  have S0 := Lib.hid g0
  have K0 := Lib.hid k0
  clear g0 k0
  refine (in_range o d s 0 _ HV.out HX.out).mono ?_
  rintro e w1 ⟨rfl, hg⟩
  have S1 := Lib.hid (S0.out.trans hg)
  clear hg
  go_wp2_with fail
  go_ret2
  exact ⟨rfl, S1.out⟩

set_option maxHeartbeats 400000 in
theorem rSend_ok (o d s : Int) (w : World) (hv : Vc o d) (h0 : 0 ≤ s) (h1 : s ≤ 109951162) (hx : s * 10000 + 2120 ≤ rd o d 1099511627776) :
    Calls Try.prog 38 #[.agg #[.int .i64 o, .int .i64 d], .int .i64 s] w fun e w' => e = .returned (.tuple #[.int .i64 (rch o d (s * 10000 + 2120)), .int .i64 0]) ∧ Gr w w' := by
  have HV := Lib.hid hv
  have HX := Lib.hid hx
  clear hv hx
  go_enter Try.func38, Try.ntmps38
  go_wp2_with fail
  have g0 : Gr w (w.alloc (Obj.cells #[.int .i64 o, .int .i64 d] 23)) := (Gr.refl _).alloc _
  have k0 := Ck.new w o d 23
  generalize w.alloc (Obj.cells #[.int .i64 o, .int .i64 d] 23) = W at g0 k0 ⊢
  have S0 := Lib.hid g0
  have K0 := Lib.hid k0
  clear g0 k0
  refine (in_ok o d s 2120 _ HV.out h0 h1 (by omega) (by omega) (by have := HX.out; omega)).mono ?_
  rintro e w1 ⟨rfl, hg⟩
  have S1 := Lib.hid (S0.out.trans hg)
  clear hg
  go_wp2_with fail
  go_ret2
  exact ⟨rfl, S1.out⟩

set_option maxHeartbeats 400000 in
theorem rSend_late (o d s : Int) (w : World) (hv : Vc o d) (h0 : 0 ≤ s) (h1 : s ≤ 109951162) (hx : rd o d 1099511627776 < s * 10000 + 2120) :
    Calls Try.prog 38 #[.agg #[.int .i64 o, .int .i64 d], .int .i64 s] w fun e w' => e = .returned (.tuple #[.int .i64 0, .int .i64 15]) ∧ Gr w w' := by
  have HV := Lib.hid hv
  have HX := Lib.hid hx
  clear hv hx
  go_enter Try.func38, Try.ntmps38
  go_wp2_with fail
  have g0 : Gr w (w.alloc (Obj.cells #[.int .i64 o, .int .i64 d] 23)) := (Gr.refl _).alloc _
  have k0 := Ck.new w o d 23
  generalize w.alloc (Obj.cells #[.int .i64 o, .int .i64 d] 23) = W at g0 k0 ⊢
  have S0 := Lib.hid g0
  have K0 := Lib.hid k0
  clear g0 k0
  refine (in_late o d s 2120 _ HV.out h0 h1 (by omega) (by omega) (by have := HX.out; omega)).mono ?_
  rintro e w1 ⟨rfl, hg⟩
  have S1 := Lib.hid (S0.out.trans hg)
  clear hg
  go_wp2_with fail
  go_ret2
  exact ⟨rfl, S1.out⟩

set_option maxHeartbeats 400000 in
theorem rSend_arg (o d s : Int) (w : World) (hv : ¬ Vc o d) :
    Calls Try.prog 38 #[.agg #[.int .i64 o, .int .i64 d], .int .i64 s] w fun e w' => e = .returned (.tuple #[.int .i64 0, .int .i64 1]) ∧ Gr w w' := by
  have HV := Lib.hid hv
  clear hv
  go_enter Try.func38, Try.ntmps38
  go_wp2_with fail
  have g0 : Gr w (w.alloc (Obj.cells #[.int .i64 o, .int .i64 d] 23)) := (Gr.refl _).alloc _
  have k0 := Ck.new w o d 23
  generalize w.alloc (Obj.cells #[.int .i64 o, .int .i64 d] 23) = W at g0 k0 ⊢
  have S0 := Lib.hid g0
  have K0 := Lib.hid k0
  clear g0 k0
  refine (in_arg o d s 2120 _ HV.out).mono ?_
  rintro e w1 ⟨rfl, hg⟩
  have S1 := Lib.hid (S0.out.trans hg)
  clear hg
  go_wp2_with fail
  go_ret2
  exact ⟨rfl, S1.out⟩

set_option maxHeartbeats 400000 in
theorem rSend_range (o d s : Int) (w : World) (hv : Vc o d) (hx : s < 0 ∨ 109951162 < s) :
    Calls Try.prog 38 #[.agg #[.int .i64 o, .int .i64 d], .int .i64 s] w fun e w' => e = .returned (.tuple #[.int .i64 0, .int .i64 2]) ∧ Gr w w' := by
  have HV := Lib.hid hv
  have HX := Lib.hid hx
  clear hv hx
  go_enter Try.func38, Try.ntmps38
  go_wp2_with fail
  have g0 : Gr w (w.alloc (Obj.cells #[.int .i64 o, .int .i64 d] 23)) := (Gr.refl _).alloc _
  have k0 := Ck.new w o d 23
  generalize w.alloc (Obj.cells #[.int .i64 o, .int .i64 d] 23) = W at g0 k0 ⊢
  have S0 := Lib.hid g0
  have K0 := Lib.hid k0
  clear g0 k0
  refine (in_range o d s 2120 _ HV.out HX.out).mono ?_
  rintro e w1 ⟨rfl, hg⟩
  have S1 := Lib.hid (S0.out.trans hg)
  clear hg
  go_wp2_with fail
  go_ret2
  exact ⟨rfl, S1.out⟩

set_option maxHeartbeats 400000 in
theorem rWindow_ok (o d s : Int) (w : World) (hv : Vc o d) (h0 : 0 ≤ s) (h1 : s ≤ 109951162) (hx : s * 10000 + 3221 ≤ rd o d 1099511627776) :
    Calls Try.prog 40 #[.agg #[.int .i64 o, .int .i64 d], .int .i64 s] w fun e w' => e = .returned (.tuple #[.int .i64 (rch o d (s * 10000 + 1020)), .int .i64 (rch o d (s * 10000 + 3221) - 1), .int .i64 0]) ∧ Gr w w' := by
  have hr : IsRch o d (s * 10000 + 3221) (rch o d (s * 10000 + 3221)) := rch_is hx
  have r0 := hr.lo
  have r1 := hr.hi
  clear hr
  have HV := Lib.hid hv
  have HX := Lib.hid hx
  clear hv hx
  go_enter Try.func40, Try.ntmps40
  go_wp2_with fail
  have g0 : Gr w (w.alloc (Obj.cells #[.int .i64 o, .int .i64 d] 23)) := (Gr.refl _).alloc _
  have k0 := Ck.new w o d 23
  generalize w.alloc (Obj.cells #[.int .i64 o, .int .i64 d] 23) = W at g0 k0 ⊢
  have S0 := Lib.hid g0
  have K0 := Lib.hid k0
  clear g0 k0
  refine (in_ok o d s 3221 _ HV.out h0 h1 (by omega) (by omega) HX.out).mono ?_
  rintro e w1 ⟨rfl, hg⟩
  have S1 := Lib.hid (S0.out.trans hg)
  have K1 := Lib.hid (K0.out.gr hg)
  clear hg
  have c0 := K1.out.c0
  have c1 := K1.out.c1
  go_wp2_with fail
  clear c0 c1
  refine (in_ok o d s 1020 _ HV.out h0 h1 (by omega) (by omega) (by have := HX.out; omega)).mono ?_
  rintro e w2 ⟨rfl, hg⟩
  have S2 := Lib.hid (S1.out.trans hg)
  clear hg
  go_wp2_with fail
  go_ret3
  exact ⟨rfl, S2.out⟩

set_option maxHeartbeats 400000 in
theorem rWindow_late (o d s : Int) (w : World) (hv : Vc o d) (h0 : 0 ≤ s) (h1 : s ≤ 109951162) (hx : rd o d 1099511627776 < s * 10000 + 3221) :
    Calls Try.prog 40 #[.agg #[.int .i64 o, .int .i64 d], .int .i64 s] w fun e w' => e = .returned (.tuple #[.int .i64 0, .int .i64 0, .int .i64 15]) ∧ Gr w w' := by
  have HV := Lib.hid hv
  have HX := Lib.hid hx
  clear hv hx
  go_enter Try.func40, Try.ntmps40
  go_wp2_with fail
  have g0 : Gr w (w.alloc (Obj.cells #[.int .i64 o, .int .i64 d] 23)) := (Gr.refl _).alloc _
  have k0 := Ck.new w o d 23
  generalize w.alloc (Obj.cells #[.int .i64 o, .int .i64 d] 23) = W at g0 k0 ⊢
  have S0 := Lib.hid g0
  have K0 := Lib.hid k0
  clear g0 k0
  refine (in_late o d s 3221 _ HV.out h0 h1 (by omega) (by omega) HX.out).mono ?_
  rintro e w1 ⟨rfl, hg⟩
  have S1 := Lib.hid (S0.out.trans hg)
  clear hg
  go_wp2_with fail
  go_ret3
  exact ⟨rfl, S1.out⟩

set_option maxHeartbeats 400000 in
theorem rWindow_arg (o d s : Int) (w : World) (hv : ¬ Vc o d) :
    Calls Try.prog 40 #[.agg #[.int .i64 o, .int .i64 d], .int .i64 s] w fun e w' => e = .returned (.tuple #[.int .i64 0, .int .i64 0, .int .i64 1]) ∧ Gr w w' := by
  have HV := Lib.hid hv
  clear hv
  go_enter Try.func40, Try.ntmps40
  go_wp2_with fail
  have g0 : Gr w (w.alloc (Obj.cells #[.int .i64 o, .int .i64 d] 23)) := (Gr.refl _).alloc _
  have k0 := Ck.new w o d 23
  generalize w.alloc (Obj.cells #[.int .i64 o, .int .i64 d] 23) = W at g0 k0 ⊢
  have S0 := Lib.hid g0
  have K0 := Lib.hid k0
  clear g0 k0
  refine (in_arg o d s 3221 _ HV.out).mono ?_
  rintro e w1 ⟨rfl, hg⟩
  have S1 := Lib.hid (S0.out.trans hg)
  clear hg
  go_wp2_with fail
  go_ret3
  exact ⟨rfl, S1.out⟩

set_option maxHeartbeats 400000 in
theorem rWindow_range (o d s : Int) (w : World) (hv : Vc o d) (hx : s < 0 ∨ 109951162 < s) :
    Calls Try.prog 40 #[.agg #[.int .i64 o, .int .i64 d], .int .i64 s] w fun e w' => e = .returned (.tuple #[.int .i64 0, .int .i64 0, .int .i64 2]) ∧ Gr w w' := by
  have HV := Lib.hid hv
  have HX := Lib.hid hx
  clear hv hx
  go_enter Try.func40, Try.ntmps40
  go_wp2_with fail
  have g0 : Gr w (w.alloc (Obj.cells #[.int .i64 o, .int .i64 d] 23)) := (Gr.refl _).alloc _
  have k0 := Ck.new w o d 23
  generalize w.alloc (Obj.cells #[.int .i64 o, .int .i64 d] 23) = W at g0 k0 ⊢
  have S0 := Lib.hid g0
  have K0 := Lib.hid k0
  clear g0 k0
  refine (in_range o d s 3221 _ HV.out HX.out).mono ?_
  rintro e w1 ⟨rfl, hg⟩
  have S1 := Lib.hid (S0.out.trans hg)
  clear hg
  go_wp2_with fail
  go_ret3
  exact ⟨rfl, S1.out⟩

set_option maxHeartbeats 400000 in
theorem Apart_ok (oa da ob db t : Int) (w : World) (hva : Vc oa da) (hvb : Vc ob db) (h0 : 0 ≤ t) (h1 : t ≤ 1099511627776) :
    Calls Try.prog 58 #[.agg #[.int .i64 oa, .int .i64 da], .agg #[.int .i64 ob, .int .i64 db], .int .i64 t] w fun e w' => e = .returned (.tuple #[.int .i64 (rd ob db t - rd oa da t), .int .i64 0]) ∧ Gr w w' := by
  have ba := rd_bd hva h0 h1
  have bb := rd_bd hvb h0 h1
  have bc := rd_bd (o := ob) (d := da) ⟨hvb.o0, hvb.o1, hva.d0, hva.d1⟩ h0 h1
  have HVA := Lib.hid hva
  have HVB := Lib.hid hvb
  clear hva hvb
  go_enter Try.func58, Try.ntmps58
  go_wp2_with fail
  have g0 : Gr w ((w.alloc (Obj.cells #[.int .i64 oa, .int .i64 da] 23)).alloc (Obj.cells #[.int .i64 ob, .int .i64 db] 23)) := ((Gr.refl _).alloc _).alloc _
  have k0 : Ck ((w.alloc (Obj.cells #[.int .i64 oa, .int .i64 da] 23)).alloc (Obj.cells #[.int .i64 ob, .int .i64 db] 23)) w.heap.size oa da := (Ck.new w oa da 23).gr ((Gr.refl _).alloc _)
  have j0 : Ck ((w.alloc (Obj.cells #[.int .i64 oa, .int .i64 da] 23)).alloc (Obj.cells #[.int .i64 ob, .int .i64 db] 23)) (w.heap.size + 1) ob db := by
    have := Ck.new (w.alloc (Obj.cells #[.int .i64 oa, .int .i64 da] 23)) ob db 23
    rwa [World.size_alloc] at this
  generalize (w.alloc (Obj.cells #[.int .i64 oa, .int .i64 da] 23)).alloc (Obj.cells #[.int .i64 ob, .int .i64 db] 23) = W at g0 k0 j0 ⊢
  have S0 := Lib.hid g0
  have K0 := Lib.hid k0
  have J0 := Lib.hid j0
  clear g0 k0 j0
  refine (show_ok oa da t _ HVA.out h0 h1).mono ?_
  rintro e w1 ⟨rfl, hg⟩
  have S1 := Lib.hid (S0.out.trans hg)
  have K1 := Lib.hid (K0.out.gr hg)
  have J1 := Lib.hid (J0.out.gr hg)
  clear hg
  have c0 := K1.out.c0
  have c1 := K1.out.c1
  have e0 := J1.out.c0
  have e1 := J1.out.c1
  go_wp2_with fail
  clear c0 c1 e0 e1
  refine (show_ok ob db t _ HVB.out h0 h1).mono ?_
  rintro e w2 ⟨rfl, hg⟩
  have S2 := Lib.hid (S1.out.trans hg)
  have K2 := Lib.hid (K1.out.gr hg)
  have J2 := Lib.hid (J1.out.gr hg)
  clear hg
  have c0 := K2.out.c0
  have c1 := K2.out.c1
  have e0 := J2.out.c0
  have e1 := J2.out.c1
  go_wp2_with fail
  clear c0 c1 e0 e1
  refine (check_ok oa da _ HVA.out).mono ?_
  rintro e w3 ⟨rfl, hg⟩
  have S3 := Lib.hid (S2.out.trans hg)
  have K3 := Lib.hid (K2.out.gr hg)
  have J3 := Lib.hid (J2.out.gr hg)
  clear hg
  have c0 := K3.out.c0
  have c1 := K3.out.c1
  have e0 := J3.out.c0
  have e1 := J3.out.c1
  go_wp2_with fail
  clear c0 c1 e0 e1
  refine (check_ok ob db _ HVB.out).mono ?_
  rintro e w4 ⟨rfl, hg⟩
  have S4 := Lib.hid (S3.out.trans hg)
  have K4 := Lib.hid (K3.out.gr hg)
  have J4 := Lib.hid (J3.out.gr hg)
  clear hg
  have c0 := K4.out.c0
  have c1 := K4.out.c1
  have e0 := J4.out.c0
  have e1 := J4.out.c1
  go_wp2_with fail
  clear c0 c1 e0 e1
  all_goals go_ret2
  all_goals first | exact ⟨rfl, S4.out⟩ | (refine ⟨?_, S4.out⟩; subst_vars; first | rfl | (rw [Int.sub_self]; rfl))

set_option maxHeartbeats 400000 in
theorem Apart_arg1 (oa da ob db t : Int) (w : World) (hva : ¬ Vc oa da) :
    Calls Try.prog 58 #[.agg #[.int .i64 oa, .int .i64 da], .agg #[.int .i64 ob, .int .i64 db], .int .i64 t] w fun e w' => e = .returned (.tuple #[.int .i64 0, .int .i64 1]) ∧ Gr w w' := by
  have HVA := Lib.hid hva
  clear hva
  go_enter Try.func58, Try.ntmps58
  go_wp2_with fail
  have g0 : Gr w ((w.alloc (Obj.cells #[.int .i64 oa, .int .i64 da] 23)).alloc (Obj.cells #[.int .i64 ob, .int .i64 db] 23)) := ((Gr.refl _).alloc _).alloc _
  have k0 : Ck ((w.alloc (Obj.cells #[.int .i64 oa, .int .i64 da] 23)).alloc (Obj.cells #[.int .i64 ob, .int .i64 db] 23)) w.heap.size oa da := (Ck.new w oa da 23).gr ((Gr.refl _).alloc _)
  have j0 : Ck ((w.alloc (Obj.cells #[.int .i64 oa, .int .i64 da] 23)).alloc (Obj.cells #[.int .i64 ob, .int .i64 db] 23)) (w.heap.size + 1) ob db := by
    have := Ck.new (w.alloc (Obj.cells #[.int .i64 oa, .int .i64 da] 23)) ob db 23
    rwa [World.size_alloc] at this
  generalize (w.alloc (Obj.cells #[.int .i64 oa, .int .i64 da] 23)).alloc (Obj.cells #[.int .i64 ob, .int .i64 db] 23) = W at g0 k0 j0 ⊢
  have S0 := Lib.hid g0
  have K0 := Lib.hid k0
  have J0 := Lib.hid j0
  clear g0 k0 j0
  refine (show_any oa da t _).mono ?_
  rintro e w1 ⟨rfl, hg⟩
  have S1 := Lib.hid (S0.out.trans hg)
  have K1 := Lib.hid (K0.out.gr hg)
  have J1 := Lib.hid (J0.out.gr hg)
  clear hg
  have c0 := K1.out.c0
  have c1 := K1.out.c1
  have e0 := J1.out.c0
  have e1 := J1.out.c1
  go_wp2_with fail
  clear c0 c1 e0 e1
  refine (show_any ob db t _).mono ?_
  rintro e w2 ⟨rfl, hg⟩
  have S2 := Lib.hid (S1.out.trans hg)
  have K2 := Lib.hid (K1.out.gr hg)
  have J2 := Lib.hid (J1.out.gr hg)
  clear hg
  have c0 := K2.out.c0
  have c1 := K2.out.c1
  have e0 := J2.out.c0
  have e1 := J2.out.c1
  go_wp2_with fail
  clear c0 c1 e0 e1
  refine (check_no oa da _ HVA.out).mono ?_
  rintro e w3 ⟨rfl, hg⟩
  have S3 := Lib.hid (S2.out.trans hg)
  have K3 := Lib.hid (K2.out.gr hg)
  have J3 := Lib.hid (J2.out.gr hg)
  clear hg
  have c0 := K3.out.c0
  have c1 := K3.out.c1
  have e0 := J3.out.c0
  have e1 := J3.out.c1
  go_wp2_with fail
  clear c0 c1 e0 e1
  go_ret2
  exact ⟨rfl, S3.out⟩

set_option maxHeartbeats 400000 in
theorem Apart_arg2 (oa da ob db t : Int) (w : World) (hva : Vc oa da) (hvb : ¬ Vc ob db) :
    Calls Try.prog 58 #[.agg #[.int .i64 oa, .int .i64 da], .agg #[.int .i64 ob, .int .i64 db], .int .i64 t] w fun e w' => e = .returned (.tuple #[.int .i64 0, .int .i64 1]) ∧ Gr w w' := by
  have HVA := Lib.hid hva
  have HVB := Lib.hid hvb
  clear hva hvb
  go_enter Try.func58, Try.ntmps58
  go_wp2_with fail
  have g0 : Gr w ((w.alloc (Obj.cells #[.int .i64 oa, .int .i64 da] 23)).alloc (Obj.cells #[.int .i64 ob, .int .i64 db] 23)) := ((Gr.refl _).alloc _).alloc _
  have k0 : Ck ((w.alloc (Obj.cells #[.int .i64 oa, .int .i64 da] 23)).alloc (Obj.cells #[.int .i64 ob, .int .i64 db] 23)) w.heap.size oa da := (Ck.new w oa da 23).gr ((Gr.refl _).alloc _)
  have j0 : Ck ((w.alloc (Obj.cells #[.int .i64 oa, .int .i64 da] 23)).alloc (Obj.cells #[.int .i64 ob, .int .i64 db] 23)) (w.heap.size + 1) ob db := by
    have := Ck.new (w.alloc (Obj.cells #[.int .i64 oa, .int .i64 da] 23)) ob db 23
    rwa [World.size_alloc] at this
  generalize (w.alloc (Obj.cells #[.int .i64 oa, .int .i64 da] 23)).alloc (Obj.cells #[.int .i64 ob, .int .i64 db] 23) = W at g0 k0 j0 ⊢
  have S0 := Lib.hid g0
  have K0 := Lib.hid k0
  have J0 := Lib.hid j0
  clear g0 k0 j0
  refine (show_any oa da t _).mono ?_
  rintro e w1 ⟨rfl, hg⟩
  have S1 := Lib.hid (S0.out.trans hg)
  have K1 := Lib.hid (K0.out.gr hg)
  have J1 := Lib.hid (J0.out.gr hg)
  clear hg
  have c0 := K1.out.c0
  have c1 := K1.out.c1
  have e0 := J1.out.c0
  have e1 := J1.out.c1
  go_wp2_with fail
  clear c0 c1 e0 e1
  refine (show_any ob db t _).mono ?_
  rintro e w2 ⟨rfl, hg⟩
  have S2 := Lib.hid (S1.out.trans hg)
  have K2 := Lib.hid (K1.out.gr hg)
  have J2 := Lib.hid (J1.out.gr hg)
  clear hg
  have c0 := K2.out.c0
  have c1 := K2.out.c1
  have e0 := J2.out.c0
  have e1 := J2.out.c1
  go_wp2_with fail
  clear c0 c1 e0 e1
  refine (check_ok oa da _ HVA.out).mono ?_
  rintro e w3 ⟨rfl, hg⟩
  have S3 := Lib.hid (S2.out.trans hg)
  have K3 := Lib.hid (K2.out.gr hg)
  have J3 := Lib.hid (J2.out.gr hg)
  clear hg
  have c0 := K3.out.c0
  have c1 := K3.out.c1
  have e0 := J3.out.c0
  have e1 := J3.out.c1
  go_wp2_with fail
  clear c0 c1 e0 e1
  refine (check_no ob db _ HVB.out).mono ?_
  rintro e w4 ⟨rfl, hg⟩
  have S4 := Lib.hid (S3.out.trans hg)
  have K4 := Lib.hid (K3.out.gr hg)
  have J4 := Lib.hid (J3.out.gr hg)
  clear hg
  have c0 := K4.out.c0
  have c1 := K4.out.c1
  have e0 := J4.out.c0
  have e1 := J4.out.c1
  go_wp2_with fail
  clear c0 c1 e0 e1
  go_ret2
  exact ⟨rfl, S4.out⟩

set_option maxHeartbeats 400000 in
theorem Apart_range (oa da ob db t : Int) (w : World) (hva : Vc oa da) (hvb : Vc ob db) (h : ¬ (0 ≤ t ∧ t ≤ 1099511627776)) :
    Calls Try.prog 58 #[.agg #[.int .i64 oa, .int .i64 da], .agg #[.int .i64 ob, .int .i64 db], .int .i64 t] w fun e w' => e = .returned (.tuple #[.int .i64 0, .int .i64 2]) ∧ Gr w w' := by
  have HVA := Lib.hid hva
  have HVB := Lib.hid hvb
  have H := Lib.hid h
  clear hva hvb h
  go_enter Try.func58, Try.ntmps58
  go_wp2_with fail
  have g0 : Gr w ((w.alloc (Obj.cells #[.int .i64 oa, .int .i64 da] 23)).alloc (Obj.cells #[.int .i64 ob, .int .i64 db] 23)) := ((Gr.refl _).alloc _).alloc _
  have k0 : Ck ((w.alloc (Obj.cells #[.int .i64 oa, .int .i64 da] 23)).alloc (Obj.cells #[.int .i64 ob, .int .i64 db] 23)) w.heap.size oa da := (Ck.new w oa da 23).gr ((Gr.refl _).alloc _)
  have j0 : Ck ((w.alloc (Obj.cells #[.int .i64 oa, .int .i64 da] 23)).alloc (Obj.cells #[.int .i64 ob, .int .i64 db] 23)) (w.heap.size + 1) ob db := by
    have := Ck.new (w.alloc (Obj.cells #[.int .i64 oa, .int .i64 da] 23)) ob db 23
    rwa [World.size_alloc] at this
  generalize (w.alloc (Obj.cells #[.int .i64 oa, .int .i64 da] 23)).alloc (Obj.cells #[.int .i64 ob, .int .i64 db] 23) = W at g0 k0 j0 ⊢
  have S0 := Lib.hid g0
  have K0 := Lib.hid k0
  have J0 := Lib.hid j0
  clear g0 k0 j0
  refine (show_range oa da t _ HVA.out H.out).mono ?_
  rintro e w1 ⟨rfl, hg⟩
  have S1 := Lib.hid (S0.out.trans hg)
  have K1 := Lib.hid (K0.out.gr hg)
  have J1 := Lib.hid (J0.out.gr hg)
  clear hg
  have c0 := K1.out.c0
  have c1 := K1.out.c1
  have e0 := J1.out.c0
  have e1 := J1.out.c1
  go_wp2_with fail
  clear c0 c1 e0 e1
  refine (show_range ob db t _ HVB.out H.out).mono ?_
  rintro e w2 ⟨rfl, hg⟩
  have S2 := Lib.hid (S1.out.trans hg)
  have K2 := Lib.hid (K1.out.gr hg)
  have J2 := Lib.hid (J1.out.gr hg)
  clear hg
  have c0 := K2.out.c0
  have c1 := K2.out.c1
  have e0 := J2.out.c0
  have e1 := J2.out.c1
  go_wp2_with fail
  clear c0 c1 e0 e1
  refine (check_ok oa da _ HVA.out).mono ?_
  rintro e w3 ⟨rfl, hg⟩
  have S3 := Lib.hid (S2.out.trans hg)
  have K3 := Lib.hid (K2.out.gr hg)
  have J3 := Lib.hid (J2.out.gr hg)
  clear hg
  have c0 := K3.out.c0
  have c1 := K3.out.c1
  have e0 := J3.out.c0
  have e1 := J3.out.c1
  go_wp2_with fail
  clear c0 c1 e0 e1
  refine (check_ok ob db _ HVB.out).mono ?_
  rintro e w4 ⟨rfl, hg⟩
  have S4 := Lib.hid (S3.out.trans hg)
  have K4 := Lib.hid (K3.out.gr hg)
  have J4 := Lib.hid (J3.out.gr hg)
  clear hg
  have c0 := K4.out.c0
  have c1 := K4.out.c1
  have e0 := J4.out.c0
  have e1 := J4.out.c1
  go_wp2_with fail
  clear c0 c1 e0 e1
  go_ret2
  exact ⟨rfl, S4.out⟩

set_option maxHeartbeats 400000 in
theorem rApart_arg1 (oa da ob db t : Int) (w : World) (hva : ¬ Vc oa da) :
    Calls Try.prog 59 #[.agg #[.int .i64 oa, .int .i64 da], .agg #[.int .i64 ob, .int .i64 db], .int .i64 t] w fun e w' => e = .returned (.tuple #[.int .i64 0, .int .i64 1]) ∧ Gr w w' := by
  have HVA := Lib.hid hva
  clear hva
  go_enter Try.func59, Try.ntmps59
  go_wp2_with fail
  have g0 : Gr w ((w.alloc (Obj.cells #[.int .i64 oa, .int .i64 da] 23)).alloc (Obj.cells #[.int .i64 ob, .int .i64 db] 23)) := ((Gr.refl _).alloc _).alloc _
  have k0 : Ck ((w.alloc (Obj.cells #[.int .i64 oa, .int .i64 da] 23)).alloc (Obj.cells #[.int .i64 ob, .int .i64 db] 23)) w.heap.size oa da := (Ck.new w oa da 23).gr ((Gr.refl _).alloc _)
  have j0 : Ck ((w.alloc (Obj.cells #[.int .i64 oa, .int .i64 da] 23)).alloc (Obj.cells #[.int .i64 ob, .int .i64 db] 23)) (w.heap.size + 1) ob db := by
    have := Ck.new (w.alloc (Obj.cells #[.int .i64 oa, .int .i64 da] 23)) ob db 23
    rwa [World.size_alloc] at this
  generalize (w.alloc (Obj.cells #[.int .i64 oa, .int .i64 da] 23)).alloc (Obj.cells #[.int .i64 ob, .int .i64 db] 23) = W at g0 k0 j0 ⊢
  have S0 := Lib.hid g0
  have K0 := Lib.hid k0
  have J0 := Lib.hid j0
  clear g0 k0 j0
  refine (rcheck_no oa da _ HVA.out).mono ?_
  rintro e w1 ⟨rfl, hg⟩
  have S1 := Lib.hid (S0.out.trans hg)
  have K1 := Lib.hid (K0.out.gr hg)
  have J1 := Lib.hid (J0.out.gr hg)
  clear hg
  have c0 := K1.out.c0
  have c1 := K1.out.c1
  have e0 := J1.out.c0
  have e1 := J1.out.c1
  go_wp2_with fail
  clear c0 c1 e0 e1
  go_ret2
  exact ⟨rfl, S1.out⟩

set_option maxHeartbeats 400000 in
theorem rApart_arg2 (oa da ob db t : Int) (w : World) (hva : Vc oa da) (hvb : ¬ Vc ob db) :
    Calls Try.prog 59 #[.agg #[.int .i64 oa, .int .i64 da], .agg #[.int .i64 ob, .int .i64 db], .int .i64 t] w fun e w' => e = .returned (.tuple #[.int .i64 0, .int .i64 1]) ∧ Gr w w' := by
  have HVA := Lib.hid hva
  have HVB := Lib.hid hvb
  clear hva hvb
  go_enter Try.func59, Try.ntmps59
  go_wp2_with fail
  have g0 : Gr w ((w.alloc (Obj.cells #[.int .i64 oa, .int .i64 da] 23)).alloc (Obj.cells #[.int .i64 ob, .int .i64 db] 23)) := ((Gr.refl _).alloc _).alloc _
  have k0 : Ck ((w.alloc (Obj.cells #[.int .i64 oa, .int .i64 da] 23)).alloc (Obj.cells #[.int .i64 ob, .int .i64 db] 23)) w.heap.size oa da := (Ck.new w oa da 23).gr ((Gr.refl _).alloc _)
  have j0 : Ck ((w.alloc (Obj.cells #[.int .i64 oa, .int .i64 da] 23)).alloc (Obj.cells #[.int .i64 ob, .int .i64 db] 23)) (w.heap.size + 1) ob db := by
    have := Ck.new (w.alloc (Obj.cells #[.int .i64 oa, .int .i64 da] 23)) ob db 23
    rwa [World.size_alloc] at this
  generalize (w.alloc (Obj.cells #[.int .i64 oa, .int .i64 da] 23)).alloc (Obj.cells #[.int .i64 ob, .int .i64 db] 23) = W at g0 k0 j0 ⊢
  have S0 := Lib.hid g0
  have K0 := Lib.hid k0
  have J0 := Lib.hid j0
  clear g0 k0 j0
  refine (rcheck_ok oa da _ HVA.out).mono ?_
  rintro e w1 ⟨rfl, hg⟩
  have S1 := Lib.hid (S0.out.trans hg)
  have K1 := Lib.hid (K0.out.gr hg)
  have J1 := Lib.hid (J0.out.gr hg)
  clear hg
  have c0 := K1.out.c0
  have c1 := K1.out.c1
  have e0 := J1.out.c0
  have e1 := J1.out.c1
  go_wp2_with fail
  clear c0 c1 e0 e1
  refine (rcheck_no ob db _ HVB.out).mono ?_
  rintro e w2 ⟨rfl, hg⟩
  have S2 := Lib.hid (S1.out.trans hg)
  have K2 := Lib.hid (K1.out.gr hg)
  have J2 := Lib.hid (J1.out.gr hg)
  clear hg
  have c0 := K2.out.c0
  have c1 := K2.out.c1
  have e0 := J2.out.c0
  have e1 := J2.out.c1
  go_wp2_with fail
  clear c0 c1 e0 e1
  go_ret2
  exact ⟨rfl, S2.out⟩

set_option maxHeartbeats 400000 in
theorem rApart_range (oa da ob db t : Int) (w : World) (hva : Vc oa da) (hvb : Vc ob db) (h : t < 0 ∨ 1099511627776 < t) :
    Calls Try.prog 59 #[.agg #[.int .i64 oa, .int .i64 da], .agg #[.int .i64 ob, .int .i64 db], .int .i64 t] w fun e w' => e = .returned (.tuple #[.int .i64 0, .int .i64 2]) ∧ Gr w w' := by
  have HVA := Lib.hid hva
  have HVB := Lib.hid hvb
  have H := Lib.hid h
  clear hva hvb h
  go_enter Try.func59, Try.ntmps59
  go_wp2_with fail
  have g0 : Gr w ((w.alloc (Obj.cells #[.int .i64 oa, .int .i64 da] 23)).alloc (Obj.cells #[.int .i64 ob, .int .i64 db] 23)) := ((Gr.refl _).alloc _).alloc _
  have k0 : Ck ((w.alloc (Obj.cells #[.int .i64 oa, .int .i64 da] 23)).alloc (Obj.cells #[.int .i64 ob, .int .i64 db] 23)) w.heap.size oa da := (Ck.new w oa da 23).gr ((Gr.refl _).alloc _)
  have j0 : Ck ((w.alloc (Obj.cells #[.int .i64 oa, .int .i64 da] 23)).alloc (Obj.cells #[.int .i64 ob, .int .i64 db] 23)) (w.heap.size + 1) ob db := by
    have := Ck.new (w.alloc (Obj.cells #[.int .i64 oa, .int .i64 da] 23)) ob db 23
    rwa [World.size_alloc] at this
  generalize (w.alloc (Obj.cells #[.int .i64 oa, .int .i64 da] 23)).alloc (Obj.cells #[.int .i64 ob, .int .i64 db] 23) = W at g0 k0 j0 ⊢
  have S0 := Lib.hid g0
  have K0 := Lib.hid k0
  have J0 := Lib.hid j0
  clear g0 k0 j0
  refine (rcheck_ok oa da _ HVA.out).mono ?_
  rintro e w1 ⟨rfl, hg⟩
  have S1 := Lib.hid (S0.out.trans hg)
  have K1 := Lib.hid (K0.out.gr hg)
  have J1 := Lib.hid (J0.out.gr hg)
  clear hg
  have c0 := K1.out.c0
  have c1 := K1.out.c1
  have e0 := J1.out.c0
  have e1 := J1.out.c1
  go_wp2_with fail
  clear c0 c1 e0 e1
  refine (rcheck_ok ob db _ HVB.out).mono ?_
  rintro e w2 ⟨rfl, hg⟩
  have S2 := Lib.hid (S1.out.trans hg)
  have K2 := Lib.hid (K1.out.gr hg)
  have J2 := Lib.hid (J1.out.gr hg)
  clear hg
  have c0 := K2.out.c0
  have c1 := K2.out.c1
  have e0 := J2.out.c0
  have e1 := J2.out.c1
  go_wp2_with fail
  clear c0 c1 e0 e1
  refine (rTime_no t _ H.out).mono ?_
  rintro e w3 ⟨rfl, hg⟩
  have S3 := Lib.hid (S2.out.trans hg)
  have K3 := Lib.hid (K2.out.gr hg)
  have J3 := Lib.hid (J2.out.gr hg)
  clear hg
  have c0 := K3.out.c0
  have c1 := K3.out.c1
  have e0 := J3.out.c0
  have e1 := J3.out.c1
  go_wp2_with fail
  clear c0 c1 e0 e1
  go_ret2
  exact ⟨rfl, S3.out⟩

/-- At, where two clocks lie in blocks of the caller's: they are kept. -/
theorem at_kept (o d t : Int) (w W : World) (A B : Nat) (oa da ob db : Int) (hv : Vc o d) (h0 : 0 ≤ t) (h1 : t ≤ 1099511627776) (ka : Ck W A oa da) (kb : Ck W B ob db) (hg : Hid (Gr W w)) :
    Calls Try.prog 95 #[.agg #[.int .i64 o, .int .i64 d], .int .i64 t] w fun e w' => e = .returned (.int .i64 (rd o d t)) ∧
      w'.cell? ⟨A, 0, none⟩ = some (.int .i64 oa) ∧ w'.cell? ⟨A, 1, none⟩ = some (.int .i64 da) ∧ w'.cell? ⟨B, 0, none⟩ = some (.int .i64 ob) ∧ w'.cell? ⟨B, 1, none⟩ = some (.int .i64 db) ∧ Hid (Gr W w') :=
  (at_any o d t w hv h0 h1).mono fun _ _ ⟨he, h⟩ =>
    let g := hg.out.trans h
    ⟨he, (ka.gr g).c0, (ka.gr g).c1, (kb.gr g).c0, (kb.gr g).c1, g⟩

set_option maxHeartbeats 400000 in
theorem rApart_ok (oa da ob db t : Int) (w : World) (hva : Vc oa da) (hvb : Vc ob db) (h0 : 0 ≤ t) (h1 : t ≤ 1099511627776) :
    Calls Try.prog 59 #[.agg #[.int .i64 oa, .int .i64 da], .agg #[.int .i64 ob, .int .i64 db], .int .i64 t] w fun e w' => e = .returned (.tuple #[.int .i64 (rd ob db t - rd oa da t), .int .i64 0]) ∧ Gr w w' := by
  have ba := rd_bd hva h0 h1
  have bb := rd_bd hvb h0 h1
  have HVA := Lib.hid hva
  have HVB := Lib.hid hvb
  clear hva hvb
  go_enter Try.func59, Try.ntmps59
  go_wp2_with fail
  have g0 : Gr w ((w.alloc (Obj.cells #[.int .i64 oa, .int .i64 da] 23)).alloc (Obj.cells #[.int .i64 ob, .int .i64 db] 23)) := ((Gr.refl _).alloc _).alloc _
  have k0 : Ck ((w.alloc (Obj.cells #[.int .i64 oa, .int .i64 da] 23)).alloc (Obj.cells #[.int .i64 ob, .int .i64 db] 23)) w.heap.size oa da := (Ck.new w oa da 23).gr ((Gr.refl _).alloc _)
  have j0 : Ck ((w.alloc (Obj.cells #[.int .i64 oa, .int .i64 da] 23)).alloc (Obj.cells #[.int .i64 ob, .int .i64 db] 23)) (w.heap.size + 1) ob db := by
    have := Ck.new (w.alloc (Obj.cells #[.int .i64 oa, .int .i64 da] 23)) ob db 23
    rwa [World.size_alloc] at this
  generalize (w.alloc (Obj.cells #[.int .i64 oa, .int .i64 da] 23)).alloc (Obj.cells #[.int .i64 ob, .int .i64 db] 23) = W at g0 k0 j0 ⊢
  have S0 := Lib.hid g0
  have K0 := Lib.hid k0
  have J0 := Lib.hid j0
  clear g0 k0 j0
  refine (rcheck_ok oa da _ HVA.out).mono ?_
  rintro e w1 ⟨rfl, hg⟩
  have S1 := Lib.hid (S0.out.trans hg)
  have K1 := Lib.hid (K0.out.gr hg)
  have J1 := Lib.hid (J0.out.gr hg)
  clear hg
  have c0 := K1.out.c0
  have c1 := K1.out.c1
  have e0 := J1.out.c0
  have e1 := J1.out.c1
  go_wp2_with fail
  clear c0 c1 e0 e1
  refine (rcheck_ok ob db _ HVB.out).mono ?_
  rintro e w2 ⟨rfl, hg⟩
  have S2 := Lib.hid (S1.out.trans hg)
  have K2 := Lib.hid (K1.out.gr hg)
  have J2 := Lib.hid (J1.out.gr hg)
  clear hg
  have c0 := K2.out.c0
  have c1 := K2.out.c1
  have e0 := J2.out.c0
  have e1 := J2.out.c1
  go_wp2_with fail
  clear c0 c1 e0 e1
  refine (rTime_ok t _ h0 h1).mono ?_
  rintro e w3 ⟨rfl, hg⟩
  have S3 := Lib.hid (S2.out.trans hg)
  have K3 := Lib.hid (K2.out.gr hg)
  have J3 := Lib.hid (J2.out.gr hg)
  clear hg
  have c0 := K3.out.c0
  have c1 := K3.out.c1
  have e0 := J3.out.c0
  have e1 := J3.out.c1
  go_wp2_with fail
  have hw : IntKind.i64.wrap (rd ob db t - rd oa da t) = rd ob db t - rd oa da t := by rw [IntKind.wrap_i64]; omega
  have gr0 := Lib.hid (Gr.refl w3).drew
  go_region_held3 (fun W => W.cell? ⟨w.heap.size, 0, none⟩ = some (.int .i64 oa) ∧ W.cell? ⟨w.heap.size, 1, none⟩ = some (.int .i64 da) ∧ W.cell? ⟨w.heap.size + 1, 0, none⟩ = some (.int .i64 ob) ∧ W.cell? ⟨w.heap.size + 1, 1, none⟩ = some (.int .i64 db) ∧ Hid (Gr w3 W)) (first | exact ⟨‹_›, ‹_›, ‹_›, ‹_›, ‹_›⟩)
    (first
      | (go_at_call_of 95 (Value.agg #[.int .i64 ob, .int .i64 db]); refine (at_kept ob db t _ w3 _ _ oa da ob db HVB.out h0 h1 K3.out J3.out (by go_split_ands; assumption)).mono ?_; rintro e w4 ⟨rfl, q0, q1, q2, q3, q4⟩)
      | (go_at_call_of 95 (Value.agg #[.int .i64 oa, .int .i64 da]); refine (at_kept oa da t _ w3 _ _ oa da ob db HVA.out h0 h1 K3.out J3.out (by go_split_ands; assumption)).mono ?_; rintro e w4 ⟨rfl, q0, q1, q2, q3, q4⟩))
  clear hw
  go_wp2
  go_ret2
  exact ⟨rfl, S3.out.trans q4.out⟩
end Go.Proofs.Ytpnigndobhbfnaa
