/- GuardMonotone: growth, length, step and spread do not shrink with the time, the slots, the drift and the depths. For every input the call returns true and each argument reads afterwards as it read before (no condition). -/
import Derived.Test.YtpnigndobhbfnaaGrdE
import Derived.RegionTactic
import Derived.BigRegion
import Derived.Test.YtpnigndobhbfnaaFrame
set_option linter.unnecessarySimpa false
namespace Go.Proofs.Ytpnigndobhbfnaa
open Go.ChangeShapes Go.WideShapes Go.ChangeAt Go.RowKit Go.Joins
theorem Bx.set1 {w : World} {B : Nat} {vs : List Value} (k : Bx w B vs) (i : Nat) (v : Value) (hi : i < vs.length) : Bx (w.setCell ⟨B, i, none⟩ v) B (vs.set i v) := by
  refine ⟨fun j u hu => ?_, fun j hj => ?_, by simpa [World.setCell] using k.lt⟩
  · by_cases e : i = j
    · subst e
      rw [List.getElem?_set_self (by simpa using hi)] at hu
      obtain rfl : v = u := by simpa using hu
      exact World.cell?_setCell_same _ _ _ (k.c i _ (List.getElem?_eq_getElem hi))
    · rw [List.getElem?_set_ne e] at hu
      exact (World.cell?_setCell_other _ _ _ _ (fun h => e (congrArg Addr.off h))).trans (k.c j u hu)
  · have := k.f j (by simpa using hj)
    simpa using this
theorem mono_g {x0 x1 y0 y1 : Int} (h0 : x0 ≤ y0) (h1 : x1 ≤ y1) : 0 ≤ ggE x0 x1 ∧ ggE x0 x1 ≤ 2 ∧ 0 ≤ ggE y0 y1 ∧ ggE y0 y1 ≤ 2 ∧ (0 < ggE x0 x1 + ggE y0 y1 ∨ ggE x0 x1 + ggE y0 y1 ≤ 0 ∧ 2 ≤ ggN x0 x1 ∧ ggN x0 x1 ≤ ggN y0 y1) := by
  unfold ggE ggN
  by_cases hx : inDrift x1 ∧ 0 ≤ x0 ∧ x0 ≤ 1099511627776
  · by_cases hy : inDrift y1 ∧ 0 ≤ y0 ∧ y0 ≤ 1099511627776
    · simp only [if_pos hx, if_pos hy]
      have a := gro_bd hx.2.1 hx.2.2 hx.1.1 hx.1.2
      have b := gro_mono hx.2.1 h0 hx.1.1 h1
      omega
    · simp only [if_pos hx, if_neg hy]; omega
  · simp only [if_neg hx]; split <;> omega
theorem mono_l {x0 x1 y0 y1 : Int} (h0 : x0 ≤ y0) (h1 : x1 ≤ y1) : 0 ≤ glE x0 x1 ∧ glE x0 x1 ≤ 2 ∧ 0 ≤ glE y0 y1 ∧ glE y0 y1 ≤ 2 ∧ (0 < glE x0 x1 + glE y0 y1 ∨ glE x0 x1 + glE y0 y1 ≤ 0 ∧ 1 ≤ glN x0 x1 ∧ glN x0 x1 ≤ glN y0 y1) := by
  unfold glE glN
  by_cases hx : inDrift x1 ∧ inRun x0
  · by_cases hy : inDrift y1 ∧ inRun y0
    · simp only [if_pos hx, if_pos hy]
      have a := len_lo hx.2.1 hx.1.2
      have b := len_mono hx.2.1 h0 h1 hy.1.2
      omega
    · simp only [if_pos hx, if_neg hy]; omega
  · simp only [if_neg hx]; split <;> omega
theorem mono_s {x3 x2 x1 y3 y2 y1 : Int} (h3 : x3 ≤ y3) (h2 : x2 ≤ y2) (h1 : x1 ≤ y1) : 0 ≤ gsE x3 x3 x2 x1 ∧ gsE x3 x3 x2 x1 ≤ 2 ∧ 0 ≤ gsE y3 y3 y2 y1 ∧ gsE y3 y3 y2 y1 ≤ 2 ∧ (0 < gsE x3 x3 x2 x1 + gsE y3 y3 y2 y1 ∨ gsE x3 x3 x2 x1 + gsE y3 y3 y2 y1 ≤ 0 ∧ 0 ≤ gsN x3 x3 x2 x1 ∧ gsN x3 x3 x2 x1 ≤ gsN y3 y3 y2 y1) := by
  unfold gsE gsN
  by_cases hx : Rt x3 x3 x1 ∧ inRun x2
  · by_cases hy : Rt y3 y3 y1 ∧ inRun y2
    · simp only [if_pos hx, if_pos hy]
      have hn := hy.2.2
      have hm := hx.2.2
      have a := spr_bd hx.1.a0 hx.1.a1 hx.1.a0 hx.1.a1 hx.2.1 (by omega) hx.1.k0 hx.1.k1
      have b := spr_mono hx.1.a0 hx.1.a0 h3 h3 hx.2.1 (by omega) h2 hx.1.k0 h1 hy.1.k1
      omega
    · simp only [if_pos hx, if_neg hy]; omega
  · simp only [if_neg hx]; split <;> omega
set_option maxHeartbeats 4000000 in
theorem GuardMonotone_walk (x0 x1 x2 x3 y0 y1 y2 y3 : Int) (w : World) :
    Calls Try.prog 17 #[.agg #[.int .i64 x0, .int .i64 x1, .int .i64 x2, .int .i64 x3], .agg #[.int .i64 y0, .int .i64 y1, .int .i64 y2, .int .i64 y3]] w fun e w' => e = .returned (.bool true) ∧ Gr w w' := by
  go_enter Try.func17, Try.ntmps17
  go_wp2_with fail
  have g0 : Gr w (((w).alloc (Obj.cells #[.int .i64 x0, .int .i64 x1, .int .i64 x2, .int .i64 x3] 73)).alloc (Obj.cells #[.int .i64 y0, .int .i64 y1, .int .i64 y2, .int .i64 y3] 73)) := Gr.alloc (Gr.alloc (Gr.refl w) _) _
  have bp : Bx (((w).alloc (Obj.cells #[.int .i64 x0, .int .i64 x1, .int .i64 x2, .int .i64 x3] 73)).alloc (Obj.cells #[.int .i64 y0, .int .i64 y1, .int .i64 y2, .int .i64 y3] 73)) (w.heap.size) [.int .i64 x0, .int .i64 x1, .int .i64 x2, .int .i64 x3] := Bx.gr (Bx.at_ (Bx.new (w) [.int .i64 x0, .int .i64 x1, .int .i64 x2, .int .i64 x3] 73) (by simp)) (Gr.alloc (Gr.refl _) _)
  have bq : Bx (((w).alloc (Obj.cells #[.int .i64 x0, .int .i64 x1, .int .i64 x2, .int .i64 x3] 73)).alloc (Obj.cells #[.int .i64 y0, .int .i64 y1, .int .i64 y2, .int .i64 y3] 73)) (w.heap.size + 1) [.int .i64 y0, .int .i64 y1, .int .i64 y2, .int .i64 y3] := Bx.gr (Bx.at_ (Bx.new ((w).alloc (Obj.cells #[.int .i64 x0, .int .i64 x1, .int .i64 x2, .int .i64 x3] 73)) [.int .i64 y0, .int .i64 y1, .int .i64 y2, .int .i64 y3] 73) (by simp)) (Gr.refl _)
  generalize ((w).alloc (Obj.cells #[.int .i64 x0, .int .i64 x1, .int .i64 x2, .int .i64 x3] 73)).alloc (Obj.cells #[.int .i64 y0, .int .i64 y1, .int .i64 y2, .int .i64 y3] 73) = W at g0 bp bq ⊢
  have S0 := Lib.hid g0
  have Kp0 := Lib.hid bp
  have Kq0 := Lib.hid bq
  clear g0 bp bq
  refine (awake09 _).mono ?_
  rintro e w1 ⟨rfl, hg⟩
  have S1 := Lib.hid (S0.out.trans hg)
  have Kp1 := Lib.hid (Kp0.out.gr hg)
  have Kq1 := Lib.hid (Kq0.out.gr hg)
  clear hg
  have cp0 := Kp1.out.c 0 _ rfl
  have cp1 := Kp1.out.c 1 _ rfl
  have cp2 := Kp1.out.c 2 _ rfl
  have cp3 := Kp1.out.c 3 _ rfl
  have lp := Kp1.out.lt
  have cq0 := Kq1.out.c 0 _ rfl
  have cq1 := Kq1.out.c 1 _ rfl
  have cq2 := Kq1.out.c 2 _ rfl
  have cq3 := Kq1.out.c 3 _ rfl
  have lq := Kq1.out.lt
  go_wp2_with fail
  all_goals (try clear cp0 cp1 cp2 cp3 lp cq0 cq1 cq2 cq3 lq)
  have l01 : w.heap.size ≠ w.heap.size + 1 := by omega
  go_loopw [5, 20] (fun _ s20 wr => ∃ (k : Nat) (x0 x1 x2 x3 y0 y1 y2 y3 : Int), k ≤ 4 ∧ s20 = .int .i64 k ∧ Gr w wr ∧ Bx wr w.heap.size [.int .i64 x0, .int .i64 x1, .int .i64 x2, .int .i64 x3] ∧ Bx wr (w.heap.size + 1) [.int .i64 y0, .int .i64 y1, .int .i64 y2, .int .i64 y3] ∧ Hid ((0 < k → x0 ≤ y0) ∧ (1 < k → x1 ≤ y1) ∧ (2 < k → x2 ≤ y2) ∧ (3 < k → x3 ≤ y3))) (fun _ s20 _ => 4 - (intOf s20).toNat)
  case atStart => exact ⟨0, x0, x1, x2, x3, y0, y1, y2, y3, by omega, rfl, S1.out, Kp1.out, Kq1.out, Lib.hid ⟨by omega, by omega, by omega, by omega⟩⟩
  case round =>
    obtain ⟨k, x0, x1, x2, x3, y0, y1, y2, y3, hk, rfl, hS, hX, hY, HI⟩ := hrel
    have S2 := Lib.hid hS
    have Kp2 := Lib.hid hX
    have Kq2 := Lib.hid hY
    clear hS hX hY
    rcases (show k = 0 ∨ k = 1 ∨ k = 2 ∨ k = 3 ∨ k = 4 by omega) with rfl | rfl | rfl | rfl | rfl
    · by_cases hc : y0 < x0
      · have hsw : Hid (y0 ≤ x0) := by show y0 ≤ x0; omega
        have cp0 := Kp2.out.c 0 _ rfl
        have fp0 := Kp2.out.f 0 (by simp)
        have cp1 := Kp2.out.c 1 _ rfl
        have fp1 := Kp2.out.f 1 (by simp)
        have cp2 := Kp2.out.c 2 _ rfl
        have fp2 := Kp2.out.f 2 (by simp)
        have cp3 := Kp2.out.c 3 _ rfl
        have fp3 := Kp2.out.f 3 (by simp)
        have lp := Kp2.out.lt
        have cq0 := Kq2.out.c 0 _ rfl
        have fq0 := Kq2.out.f 0 (by simp)
        have cq1 := Kq2.out.c 1 _ rfl
        have fq1 := Kq2.out.f 1 (by simp)
        have cq2 := Kq2.out.c 2 _ rfl
        have fq2 := Kq2.out.f 2 (by simp)
        have cq3 := Kq2.out.c 3 _ rfl
        have fq3 := Kq2.out.f 3 (by simp)
        have lq := Kq2.out.lt
        go_wp2_with fail
        go_quiet (fail)
        go_wp2_with fail
        go_region
        go_wp2_with fail
        clear cp0 fp0 cp1 fp1 cp2 fp2 cp3 fp3 lp cq0 fq0 cq1 fq1 cq2 fq2 cq3 fq3 lq
        have g0 : Gr w (((wr.drewN (nq + 1)).setCell ⟨w.heap.size, 0, none⟩ (.int .i64 y0)).setCell ⟨w.heap.size + 1, 0, none⟩ (.int .i64 x0)) := Gr.set (Gr.set (S2.out.drewN _) (p := ⟨w.heap.size, 0, none⟩) (by simp) _) (p := ⟨w.heap.size + 1, 0, none⟩) (by simp) _
        have gp := ((Kp2.out.gr ((Gr.refl _).drewN (nq + 1))).set1 0 (.int .i64 y0) (by simp)).setFar (p := ⟨w.heap.size + 1, 0, none⟩) (by simp) (.int .i64 x0)
        have gq := ((Kq2.out.gr ((Gr.refl _).drewN (nq + 1))).setFar (p := ⟨w.heap.size, 0, none⟩) (by simp) (.int .i64 y0)).set1 0 (.int .i64 x0) (by simp)
        go_roundw
        case rel => exact ⟨1, y0, x1, x2, x3, x0, y1, y2, y3, by omega, rfl, g0, gp, gq, (by
          have h1 := HI.out
          have h2 := hsw.out
          exact ⟨fun _ => h2, fun h => absurd h (by omega), fun h => absurd h (by omega), fun h => absurd h (by omega)⟩ : Hid _)⟩
        case measure => simp [intOf]
      · have hsw : Hid (x0 ≤ y0) := by show x0 ≤ y0; omega
        have cp0 := Kp2.out.c 0 _ rfl
        have fp0 := Kp2.out.f 0 (by simp)
        have cp1 := Kp2.out.c 1 _ rfl
        have fp1 := Kp2.out.f 1 (by simp)
        have cp2 := Kp2.out.c 2 _ rfl
        have fp2 := Kp2.out.f 2 (by simp)
        have cp3 := Kp2.out.c 3 _ rfl
        have fp3 := Kp2.out.f 3 (by simp)
        have lp := Kp2.out.lt
        have cq0 := Kq2.out.c 0 _ rfl
        have fq0 := Kq2.out.f 0 (by simp)
        have cq1 := Kq2.out.c 1 _ rfl
        have fq1 := Kq2.out.f 1 (by simp)
        have cq2 := Kq2.out.c 2 _ rfl
        have fq2 := Kq2.out.f 2 (by simp)
        have cq3 := Kq2.out.c 3 _ rfl
        have fq3 := Kq2.out.f 3 (by simp)
        have lq := Kq2.out.lt
        go_wp2_with fail
        go_quiet (fail)
        go_wp2_with fail
        clear cp0 fp0 cp1 fp1 cp2 fp2 cp3 fp3 lp cq0 fq0 cq1 fq1 cq2 fq2 cq3 fq3 lq
        go_roundw
        case rel => exact ⟨1, x0, x1, x2, x3, y0, y1, y2, y3, by omega, rfl, S2.out.drewN nq, Kp2.out.gr ((Gr.refl _).drewN nq), Kq2.out.gr ((Gr.refl _).drewN nq), (by
          have h1 := HI.out
          have h2 := hsw.out
          exact ⟨fun _ => h2, fun h => absurd h (by omega), fun h => absurd h (by omega), fun h => absurd h (by omega)⟩ : Hid _)⟩
        case measure => simp [intOf]
    · by_cases hc : y1 < x1
      · have hsw : Hid (y1 ≤ x1) := by show y1 ≤ x1; omega
        have cp0 := Kp2.out.c 0 _ rfl
        have fp0 := Kp2.out.f 0 (by simp)
        have cp1 := Kp2.out.c 1 _ rfl
        have fp1 := Kp2.out.f 1 (by simp)
        have cp2 := Kp2.out.c 2 _ rfl
        have fp2 := Kp2.out.f 2 (by simp)
        have cp3 := Kp2.out.c 3 _ rfl
        have fp3 := Kp2.out.f 3 (by simp)
        have lp := Kp2.out.lt
        have cq0 := Kq2.out.c 0 _ rfl
        have fq0 := Kq2.out.f 0 (by simp)
        have cq1 := Kq2.out.c 1 _ rfl
        have fq1 := Kq2.out.f 1 (by simp)
        have cq2 := Kq2.out.c 2 _ rfl
        have fq2 := Kq2.out.f 2 (by simp)
        have cq3 := Kq2.out.c 3 _ rfl
        have fq3 := Kq2.out.f 3 (by simp)
        have lq := Kq2.out.lt
        go_wp2_with fail
        go_quiet (fail)
        go_wp2_with fail
        go_region
        go_wp2_with fail
        clear cp0 fp0 cp1 fp1 cp2 fp2 cp3 fp3 lp cq0 fq0 cq1 fq1 cq2 fq2 cq3 fq3 lq
        have g0 : Gr w (((wr.drewN (nq + 1)).setCell ⟨w.heap.size, 1, none⟩ (.int .i64 y1)).setCell ⟨w.heap.size + 1, 1, none⟩ (.int .i64 x1)) := Gr.set (Gr.set (S2.out.drewN _) (p := ⟨w.heap.size, 1, none⟩) (by simp) _) (p := ⟨w.heap.size + 1, 1, none⟩) (by simp) _
        have gp := ((Kp2.out.gr ((Gr.refl _).drewN (nq + 1))).set1 1 (.int .i64 y1) (by simp)).setFar (p := ⟨w.heap.size + 1, 1, none⟩) (by simp) (.int .i64 x1)
        have gq := ((Kq2.out.gr ((Gr.refl _).drewN (nq + 1))).setFar (p := ⟨w.heap.size, 1, none⟩) (by simp) (.int .i64 y1)).set1 1 (.int .i64 x1) (by simp)
        go_roundw
        case rel => exact ⟨2, x0, y1, x2, x3, y0, x1, y2, y3, by omega, rfl, g0, gp, gq, (by
          have h1 := HI.out
          have h2 := hsw.out
          exact ⟨fun _ => h1.1 (by omega), fun _ => h2, fun h => absurd h (by omega), fun h => absurd h (by omega)⟩ : Hid _)⟩
        case measure => simp [intOf]
      · have hsw : Hid (x1 ≤ y1) := by show x1 ≤ y1; omega
        have cp0 := Kp2.out.c 0 _ rfl
        have fp0 := Kp2.out.f 0 (by simp)
        have cp1 := Kp2.out.c 1 _ rfl
        have fp1 := Kp2.out.f 1 (by simp)
        have cp2 := Kp2.out.c 2 _ rfl
        have fp2 := Kp2.out.f 2 (by simp)
        have cp3 := Kp2.out.c 3 _ rfl
        have fp3 := Kp2.out.f 3 (by simp)
        have lp := Kp2.out.lt
        have cq0 := Kq2.out.c 0 _ rfl
        have fq0 := Kq2.out.f 0 (by simp)
        have cq1 := Kq2.out.c 1 _ rfl
        have fq1 := Kq2.out.f 1 (by simp)
        have cq2 := Kq2.out.c 2 _ rfl
        have fq2 := Kq2.out.f 2 (by simp)
        have cq3 := Kq2.out.c 3 _ rfl
        have fq3 := Kq2.out.f 3 (by simp)
        have lq := Kq2.out.lt
        go_wp2_with fail
        go_quiet (fail)
        go_wp2_with fail
        clear cp0 fp0 cp1 fp1 cp2 fp2 cp3 fp3 lp cq0 fq0 cq1 fq1 cq2 fq2 cq3 fq3 lq
        go_roundw
        case rel => exact ⟨2, x0, x1, x2, x3, y0, y1, y2, y3, by omega, rfl, S2.out.drewN nq, Kp2.out.gr ((Gr.refl _).drewN nq), Kq2.out.gr ((Gr.refl _).drewN nq), (by
          have h1 := HI.out
          have h2 := hsw.out
          exact ⟨fun _ => h1.1 (by omega), fun _ => h2, fun h => absurd h (by omega), fun h => absurd h (by omega)⟩ : Hid _)⟩
        case measure => simp [intOf]
    · by_cases hc : y2 < x2
      · have hsw : Hid (y2 ≤ x2) := by show y2 ≤ x2; omega
        have cp0 := Kp2.out.c 0 _ rfl
        have fp0 := Kp2.out.f 0 (by simp)
        have cp1 := Kp2.out.c 1 _ rfl
        have fp1 := Kp2.out.f 1 (by simp)
        have cp2 := Kp2.out.c 2 _ rfl
        have fp2 := Kp2.out.f 2 (by simp)
        have cp3 := Kp2.out.c 3 _ rfl
        have fp3 := Kp2.out.f 3 (by simp)
        have lp := Kp2.out.lt
        have cq0 := Kq2.out.c 0 _ rfl
        have fq0 := Kq2.out.f 0 (by simp)
        have cq1 := Kq2.out.c 1 _ rfl
        have fq1 := Kq2.out.f 1 (by simp)
        have cq2 := Kq2.out.c 2 _ rfl
        have fq2 := Kq2.out.f 2 (by simp)
        have cq3 := Kq2.out.c 3 _ rfl
        have fq3 := Kq2.out.f 3 (by simp)
        have lq := Kq2.out.lt
        go_wp2_with fail
        go_quiet (fail)
        go_wp2_with fail
        go_region
        go_wp2_with fail
        clear cp0 fp0 cp1 fp1 cp2 fp2 cp3 fp3 lp cq0 fq0 cq1 fq1 cq2 fq2 cq3 fq3 lq
        have g0 : Gr w (((wr.drewN (nq + 1)).setCell ⟨w.heap.size, 2, none⟩ (.int .i64 y2)).setCell ⟨w.heap.size + 1, 2, none⟩ (.int .i64 x2)) := Gr.set (Gr.set (S2.out.drewN _) (p := ⟨w.heap.size, 2, none⟩) (by simp) _) (p := ⟨w.heap.size + 1, 2, none⟩) (by simp) _
        have gp := ((Kp2.out.gr ((Gr.refl _).drewN (nq + 1))).set1 2 (.int .i64 y2) (by simp)).setFar (p := ⟨w.heap.size + 1, 2, none⟩) (by simp) (.int .i64 x2)
        have gq := ((Kq2.out.gr ((Gr.refl _).drewN (nq + 1))).setFar (p := ⟨w.heap.size, 2, none⟩) (by simp) (.int .i64 y2)).set1 2 (.int .i64 x2) (by simp)
        go_roundw
        case rel => exact ⟨3, x0, x1, y2, x3, y0, y1, x2, y3, by omega, rfl, g0, gp, gq, (by
          have h1 := HI.out
          have h2 := hsw.out
          exact ⟨fun _ => h1.1 (by omega), fun _ => h1.2.1 (by omega), fun _ => h2, fun h => absurd h (by omega)⟩ : Hid _)⟩
        case measure => simp [intOf]
      · have hsw : Hid (x2 ≤ y2) := by show x2 ≤ y2; omega
        have cp0 := Kp2.out.c 0 _ rfl
        have fp0 := Kp2.out.f 0 (by simp)
        have cp1 := Kp2.out.c 1 _ rfl
        have fp1 := Kp2.out.f 1 (by simp)
        have cp2 := Kp2.out.c 2 _ rfl
        have fp2 := Kp2.out.f 2 (by simp)
        have cp3 := Kp2.out.c 3 _ rfl
        have fp3 := Kp2.out.f 3 (by simp)
        have lp := Kp2.out.lt
        have cq0 := Kq2.out.c 0 _ rfl
        have fq0 := Kq2.out.f 0 (by simp)
        have cq1 := Kq2.out.c 1 _ rfl
        have fq1 := Kq2.out.f 1 (by simp)
        have cq2 := Kq2.out.c 2 _ rfl
        have fq2 := Kq2.out.f 2 (by simp)
        have cq3 := Kq2.out.c 3 _ rfl
        have fq3 := Kq2.out.f 3 (by simp)
        have lq := Kq2.out.lt
        go_wp2_with fail
        go_quiet (fail)
        go_wp2_with fail
        clear cp0 fp0 cp1 fp1 cp2 fp2 cp3 fp3 lp cq0 fq0 cq1 fq1 cq2 fq2 cq3 fq3 lq
        go_roundw
        case rel => exact ⟨3, x0, x1, x2, x3, y0, y1, y2, y3, by omega, rfl, S2.out.drewN nq, Kp2.out.gr ((Gr.refl _).drewN nq), Kq2.out.gr ((Gr.refl _).drewN nq), (by
          have h1 := HI.out
          have h2 := hsw.out
          exact ⟨fun _ => h1.1 (by omega), fun _ => h1.2.1 (by omega), fun _ => h2, fun h => absurd h (by omega)⟩ : Hid _)⟩
        case measure => simp [intOf]
    · by_cases hc : y3 < x3
      · have hsw : Hid (y3 ≤ x3) := by show y3 ≤ x3; omega
        have cp0 := Kp2.out.c 0 _ rfl
        have fp0 := Kp2.out.f 0 (by simp)
        have cp1 := Kp2.out.c 1 _ rfl
        have fp1 := Kp2.out.f 1 (by simp)
        have cp2 := Kp2.out.c 2 _ rfl
        have fp2 := Kp2.out.f 2 (by simp)
        have cp3 := Kp2.out.c 3 _ rfl
        have fp3 := Kp2.out.f 3 (by simp)
        have lp := Kp2.out.lt
        have cq0 := Kq2.out.c 0 _ rfl
        have fq0 := Kq2.out.f 0 (by simp)
        have cq1 := Kq2.out.c 1 _ rfl
        have fq1 := Kq2.out.f 1 (by simp)
        have cq2 := Kq2.out.c 2 _ rfl
        have fq2 := Kq2.out.f 2 (by simp)
        have cq3 := Kq2.out.c 3 _ rfl
        have fq3 := Kq2.out.f 3 (by simp)
        have lq := Kq2.out.lt
        go_wp2_with fail
        go_quiet (fail)
        go_wp2_with fail
        go_region
        go_wp2_with fail
        clear cp0 fp0 cp1 fp1 cp2 fp2 cp3 fp3 lp cq0 fq0 cq1 fq1 cq2 fq2 cq3 fq3 lq
        have g0 : Gr w (((wr.drewN (nq + 1)).setCell ⟨w.heap.size, 3, none⟩ (.int .i64 y3)).setCell ⟨w.heap.size + 1, 3, none⟩ (.int .i64 x3)) := Gr.set (Gr.set (S2.out.drewN _) (p := ⟨w.heap.size, 3, none⟩) (by simp) _) (p := ⟨w.heap.size + 1, 3, none⟩) (by simp) _
        have gp := ((Kp2.out.gr ((Gr.refl _).drewN (nq + 1))).set1 3 (.int .i64 y3) (by simp)).setFar (p := ⟨w.heap.size + 1, 3, none⟩) (by simp) (.int .i64 x3)
        have gq := ((Kq2.out.gr ((Gr.refl _).drewN (nq + 1))).setFar (p := ⟨w.heap.size, 3, none⟩) (by simp) (.int .i64 y3)).set1 3 (.int .i64 x3) (by simp)
        go_roundw
        case rel => exact ⟨4, x0, x1, x2, y3, y0, y1, y2, x3, by omega, rfl, g0, gp, gq, (by
          have h1 := HI.out
          have h2 := hsw.out
          exact ⟨fun _ => h1.1 (by omega), fun _ => h1.2.1 (by omega), fun _ => h1.2.2.1 (by omega), fun _ => h2⟩ : Hid _)⟩
        case measure => simp [intOf]
      · have hsw : Hid (x3 ≤ y3) := by show x3 ≤ y3; omega
        have cp0 := Kp2.out.c 0 _ rfl
        have fp0 := Kp2.out.f 0 (by simp)
        have cp1 := Kp2.out.c 1 _ rfl
        have fp1 := Kp2.out.f 1 (by simp)
        have cp2 := Kp2.out.c 2 _ rfl
        have fp2 := Kp2.out.f 2 (by simp)
        have cp3 := Kp2.out.c 3 _ rfl
        have fp3 := Kp2.out.f 3 (by simp)
        have lp := Kp2.out.lt
        have cq0 := Kq2.out.c 0 _ rfl
        have fq0 := Kq2.out.f 0 (by simp)
        have cq1 := Kq2.out.c 1 _ rfl
        have fq1 := Kq2.out.f 1 (by simp)
        have cq2 := Kq2.out.c 2 _ rfl
        have fq2 := Kq2.out.f 2 (by simp)
        have cq3 := Kq2.out.c 3 _ rfl
        have fq3 := Kq2.out.f 3 (by simp)
        have lq := Kq2.out.lt
        go_wp2_with fail
        go_quiet (fail)
        go_wp2_with fail
        clear cp0 fp0 cp1 fp1 cp2 fp2 cp3 fp3 lp cq0 fq0 cq1 fq1 cq2 fq2 cq3 fq3 lq
        go_roundw
        case rel => exact ⟨4, x0, x1, x2, x3, y0, y1, y2, y3, by omega, rfl, S2.out.drewN nq, Kp2.out.gr ((Gr.refl _).drewN nq), Kq2.out.gr ((Gr.refl _).drewN nq), (by
          have h1 := HI.out
          have h2 := hsw.out
          exact ⟨fun _ => h1.1 (by omega), fun _ => h1.2.1 (by omega), fun _ => h1.2.2.1 (by omega), fun _ => h2⟩ : Hid _)⟩
        case measure => simp [intOf]
    · have hx0 := HI.out.1 (by omega)
      have hx1 := HI.out.2.1 (by omega)
      have hx2 := HI.out.2.2.1 (by omega)
      have hx3 := HI.out.2.2.2 (by omega)
      have h1 := mono_g hx0 hx1
      have h2 := mono_l hx2 hx1
      have h3 := mono_s hx3 hx2 hx1
      have H1 := Lib.hid h1
      have H2 := Lib.hid h2
      have H3 := Lib.hid h3
      clear h1 h2 h3 hx0 hx1 hx2 hx3
      have cp0 := Kp2.out.c 0 _ rfl
      have cp1 := Kp2.out.c 1 _ rfl
      have cp2 := Kp2.out.c 2 _ rfl
      have cp3 := Kp2.out.c 3 _ rfl
      have lp := Kp2.out.lt
      have cq0 := Kq2.out.c 0 _ rfl
      have cq1 := Kq2.out.c 1 _ rfl
      have cq2 := Kq2.out.c 2 _ rfl
      have cq3 := Kq2.out.c 3 _ rfl
      have lq := Kq2.out.lt
      go_wp2_with fail
      all_goals (try clear cp0 cp1 cp2 cp3 lp cq0 cq1 cq2 cq3 lq)
      refine (Growth_any x0 x1 _).mono ?_
      rintro e w3 ⟨rfl, hg⟩
      have S3 := Lib.hid (S2.out.trans hg)
      have Kp3 := Lib.hid (Kp2.out.gr hg)
      have Kq3 := Lib.hid (Kq2.out.gr hg)
      clear hg
      have cp0 := Kp3.out.c 0 _ rfl
      have cp1 := Kp3.out.c 1 _ rfl
      have cp2 := Kp3.out.c 2 _ rfl
      have cp3 := Kp3.out.c 3 _ rfl
      have lp := Kp3.out.lt
      have cq0 := Kq3.out.c 0 _ rfl
      have cq1 := Kq3.out.c 1 _ rfl
      have cq2 := Kq3.out.c 2 _ rfl
      have cq3 := Kq3.out.c 3 _ rfl
      have lq := Kq3.out.lt
      go_wp2_with fail
      all_goals (try clear cp0 cp1 cp2 cp3 lp cq0 cq1 cq2 cq3 lq)
      refine (Growth_any y0 y1 _).mono ?_
      rintro e w4 ⟨rfl, hg⟩
      have S4 := Lib.hid (S3.out.trans hg)
      have Kp4 := Lib.hid (Kp3.out.gr hg)
      have Kq4 := Lib.hid (Kq3.out.gr hg)
      clear hg
      have cp0 := Kp4.out.c 0 _ rfl
      have cp1 := Kp4.out.c 1 _ rfl
      have cp2 := Kp4.out.c 2 _ rfl
      have cp3 := Kp4.out.c 3 _ rfl
      have lp := Kp4.out.lt
      have cq0 := Kq4.out.c 0 _ rfl
      have cq1 := Kq4.out.c 1 _ rfl
      have cq2 := Kq4.out.c 2 _ rfl
      have cq3 := Kq4.out.c 3 _ rfl
      have lq := Kq4.out.lt
      go_wp2_with fail
      all_goals (try clear cp0 cp1 cp2 cp3 lp cq0 cq1 cq2 cq3 lq)
      refine (Length_any x2 x1 _).mono ?_
      rintro e w5 ⟨rfl, hg⟩
      have S5 := Lib.hid (S4.out.trans hg)
      have Kp5 := Lib.hid (Kp4.out.gr hg)
      have Kq5 := Lib.hid (Kq4.out.gr hg)
      clear hg
      have cp0 := Kp5.out.c 0 _ rfl
      have cp1 := Kp5.out.c 1 _ rfl
      have cp2 := Kp5.out.c 2 _ rfl
      have cp3 := Kp5.out.c 3 _ rfl
      have lp := Kp5.out.lt
      have cq0 := Kq5.out.c 0 _ rfl
      have cq1 := Kq5.out.c 1 _ rfl
      have cq2 := Kq5.out.c 2 _ rfl
      have cq3 := Kq5.out.c 3 _ rfl
      have lq := Kq5.out.lt
      go_wp2_with fail
      all_goals (try clear cp0 cp1 cp2 cp3 lp cq0 cq1 cq2 cq3 lq)
      refine (Length_any y2 y1 _).mono ?_
      rintro e w6 ⟨rfl, hg⟩
      have S6 := Lib.hid (S5.out.trans hg)
      have Kp6 := Lib.hid (Kp5.out.gr hg)
      have Kq6 := Lib.hid (Kq5.out.gr hg)
      clear hg
      have cp0 := Kp6.out.c 0 _ rfl
      have cp1 := Kp6.out.c 1 _ rfl
      have cp2 := Kp6.out.c 2 _ rfl
      have cp3 := Kp6.out.c 3 _ rfl
      have lp := Kp6.out.lt
      have cq0 := Kq6.out.c 0 _ rfl
      have cq1 := Kq6.out.c 1 _ rfl
      have cq2 := Kq6.out.c 2 _ rfl
      have cq3 := Kq6.out.c 3 _ rfl
      have lq := Kq6.out.lt
      go_wp2_with fail
      all_goals (try clear cp0 cp1 cp2 cp3 lp cq0 cq1 cq2 cq3 lq)
      refine (Spread_all x3 x3 x2 x1 _).mono ?_
      rintro e w7 ⟨rfl, hg⟩
      have S7 := Lib.hid (S6.out.trans hg)
      have Kp7 := Lib.hid (Kp6.out.gr hg)
      have Kq7 := Lib.hid (Kq6.out.gr hg)
      clear hg
      have cp0 := Kp7.out.c 0 _ rfl
      have cp1 := Kp7.out.c 1 _ rfl
      have cp2 := Kp7.out.c 2 _ rfl
      have cp3 := Kp7.out.c 3 _ rfl
      have lp := Kp7.out.lt
      have cq0 := Kq7.out.c 0 _ rfl
      have cq1 := Kq7.out.c 1 _ rfl
      have cq2 := Kq7.out.c 2 _ rfl
      have cq3 := Kq7.out.c 3 _ rfl
      have lq := Kq7.out.lt
      go_wp2_with fail
      all_goals (try clear cp0 cp1 cp2 cp3 lp cq0 cq1 cq2 cq3 lq)
      refine (Spread_all y3 y3 y2 y1 _).mono ?_
      rintro e w8 ⟨rfl, hg⟩
      have S8 := Lib.hid (S7.out.trans hg)
      have Kp8 := Lib.hid (Kp7.out.gr hg)
      have Kq8 := Lib.hid (Kq7.out.gr hg)
      clear hg
      have cp0 := Kp8.out.c 0 _ rfl
      have cp1 := Kp8.out.c 1 _ rfl
      have cp2 := Kp8.out.c 2 _ rfl
      have cp3 := Kp8.out.c 3 _ rfl
      have lp := Kp8.out.lt
      have cq0 := Kq8.out.c 0 _ rfl
      have cq1 := Kq8.out.c 1 _ rfl
      have cq2 := Kq8.out.c 2 _ rfl
      have cq3 := Kq8.out.c 3 _ rfl
      have lq := Kq8.out.lt
      obtain ⟨a1, a2, a3, a4, h1⟩ := H1.out
      obtain ⟨b1, b2, b3, b4, h2⟩ := H2.out
      obtain ⟨e1, e2, e3, e4, h3⟩ := H3.out
      rcases h1 with h1 | ⟨h1, h11, h12⟩ <;> rcases h2 with h2 | ⟨h2, h21, h22⟩ <;> rcases h3 with h3 | ⟨h3, h31, h32⟩
      all_goals go_wp2_with fail
      all_goals go_ret
      all_goals exact ⟨rfl, S8.out⟩

set_option maxRecDepth 100000 in
set_option maxHeartbeats 1000000 in
theorem GuardMonotone_lifted (os : Os) (started : os.Started) (H : Type) (enc : TypeId × Value → H) :
    ReturnsInHanded {} Try.checked os 17 .any (Rows.guardMonotoneSpec.pre6 enc Try.prog Try.f17 Rows.guardMonotoneRow.domain false) (Rows.guardMonotoneSpec.post enc Try.prog Try.f17 false true false false) := by
  refine returnsInHanded_of_change (C := Try.checked) Try.own started (by kernel_rfl) Try.func17
    (ChangeSpec.witness6 (enc := enc) (C := Try.checked) false ⟨#[], #[.agg #[.int .i64 0, .int .i64 0, .int .i64 0, .int .i64 0], .agg #[.int .i64 0, .int .i64 0, .int .i64 0, .int .i64 0]], []⟩ 8 (by kernel_rfl) (by kernel_rfl) (by kernel_rfl) (by kernel_rfl)) ?_
  intro W base args ds gs before hval0 hW hcnd _
  have hval : ∀ (j : Nat) t v, Try.f17.params[j]? = some t → args[j]? = some v → Value.okWide Try.prog W .any base t v := hval0
  have hW' := hW
  obtain ⟨p, q, hA0, hV, rfl, hfz, hnd⟩ := hW
  have hA : DataW.TrodAll enc Try.prog W 0 (fun _ => true) true Try.f17.params.toList args.toList ds p := hA0
  rw [Try.params17] at hA hval
  have hAk := hA
  obtain ⟨v0, vs0, d0, ds0, p0, q0, hargs, rfl, rfl, h0, r0⟩ := trodAll_cons hA
  obtain ⟨v1, vs1, d1, ds1, p1, q1, rfl, rfl, rfl, h1, r1⟩ := trodAll_cons r0
  obtain ⟨rfl, rfl, rfl⟩ := trodAll_nil r1
  obtain rfl : args = #[v0, v1] := by cases args; simp_all
  obtain ⟨rfl, rfl⟩ := trodVars_none hV
  obtain ⟨x0, x1, x2, x3, rfl, wfx0, wfx1, wfx2, wfx3⟩ := open_a4 Try.underlying73 Try.underlying3 (by kernel_rfl) (by kernel_rfl) (hval 0 73 v0 rfl rfl) h0
  obtain ⟨y0, y1, y2, y3, rfl, wfy0, wfy1, wfy2, wfy3⟩ := open_a4 Try.underlying73 Try.underlying3 (by kernel_rfl) (by kernel_rfl) (hval 1 73 v1 rfl rfl) h1
  clear hA0 hval0
  simp only [List.append_nil] at hW'
  refine (GuardMonotone_walk x0 x1 x2 x3 y0 y1 y2 y3 W).mono fun e W' ⟨he, hg⟩ => ?_
  subst he
  have hb : Below W.heap.size W W' := hg
  exact ⟨_, rfl, _, _, _, [], _, [], hW', trodAll_mk1 (shut_bool Try.underlying4 _), trodAll_stays Try.laidOut hb _ _ _ _ (by intro t ht; simp at ht; rcases ht with rfl | rfl <;> exact ⟨by kernel_rfl, of_decide_eq_true (by kernel_rfl)⟩) hAk (fun x hx => by simpa using hW'.lt x (by simpa using hx)), rfl, hb.frame _, fun h => by cases h⟩

theorem GuardMonotone_closed : joinedFacts Try.pinned.checked.prog 17 Try.f17 Rows.guardMonotoneSpec Rows.guardMonotoneRow = true := by
  unfold joinedFacts
  exact (and_tt (and_tt (and_tt (and_tt (and_tt (and_tt (and_tt (and_tt (and_tt (and_tt (and_tt (and_tt (and_tt (and_tt (and_tt (and_tt (and_tt (and_tt (and_tt (and_tt (and_tt (and_tt (and_tt (and_tt (and_tt (and_tt (and_tt (and_tt (and_tt (and_tt (and_tt (by as_aux_lemma => kernel_rfl) (J_laid)) (J_maps)) (by as_aux_lemma => kernel_rfl)) (by as_aux_lemma => kernel_rfl)) (by as_aux_lemma => kernel_rfl)) (J_stops)) (by as_aux_lemma => kernel_rfl)) (J_knobs)) (by as_aux_lemma => kernel_rfl)) (by as_aux_lemma => kernel_rfl)) (by as_aux_lemma => kernel_rfl)) (by as_aux_lemma => kernel_rfl)) (by as_aux_lemma => kernel_rfl)) (by as_aux_lemma => kernel_rfl)) (by as_aux_lemma => kernel_rfl)) (by as_aux_lemma => kernel_rfl)) (by as_aux_lemma => kernel_rfl)) (by as_aux_lemma => kernel_rfl)) (by as_aux_lemma => kernel_rfl)) (by as_aux_lemma => kernel_rfl)) (by as_aux_lemma => kernel_rfl)) (J_keys)) (by as_aux_lemma => kernel_rfl)) (J_heard)) (J_enter)) (J_lifts)) (J_make)) (by as_aux_lemma => kernel_rfl)) (by as_aux_lemma => kernel_rfl)) (by as_aux_lemma => kernel_rfl)) (by as_aux_lemma => kernel_rfl))

/-- THE STATEMENT GuardMonotone. -/
theorem GuardMonotone_holds : Rows.GuardMonotoneSaid :=
  OpenClaim.holds_of_wide 17 Try.f17 rfl rfl rfl rfl rfl rfl rfl ⟨rfl, rfl, rfl, rfl, rfl⟩ rfl rfl rfl rfl rfl (by kernel_rfl) Try.func17 GuardMonotone_closed
    (of_decide_eq_true (by kernel_rfl)) (by unfold Func.isWrapper; rw [if_neg (of_decide_eq_false (by kernel_rfl))]; exact ⟨rfl, rfl⟩)
    (fun os started H enc _ => GuardMonotone_lifted os started H enc)
#print axioms GuardMonotone_holds
end Go.Proofs.Ytpnigndobhbfnaa
