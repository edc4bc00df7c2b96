/- What the reference's Spread returns. -/
import Derived.Test.YtpnigndobhbfnaaTop
import Derived.Test.YtpnigndobhbfnaaRrno
import Derived.Deep.RegionHeld3
namespace Go.Proofs.Ytpnigndobhbfnaa
open Go.RowKit
theorem keepL {f : FuncId} {args : Array Value} {v : Value} {w W : World} (J : World → Prop) (hJ : ∀ Z, Gr W Z → J Z) (h : Calls Try.prog f args w fun e w' => e = .returned v ∧ Gr w w') (hg : Hid (Gr W w)) :
    Calls Try.prog f args w fun e w' => e = .returned v ∧ J w' :=
  h.mono fun _ _ ⟨he, h⟩ => ⟨he, hJ _ (hg.out.trans h)⟩
set_option maxRecDepth 20000 in
set_option maxHeartbeats 4000000 in
theorem rSpread_ok (a1 : Option Addr) (n c1 : Nat) (l : List Sy) (t : Int) (w : World) (hs : Sz w (.slice a1 n c1) n (Lv l)) (hl : l.length = n) (hok : spOk l) (ht : inTime t) :
    Calls Try.prog 50 #[.slice a1 n c1, .int .i64 t] w fun e w' => e = .returned (.tuple #[.int .i64 (topN (shows l t) n), .int .i64 0]) ∧ Gr w w' := by
  have HS := Lib.hid hs
  have HL := Lib.hid hl
  have HO := Lib.hid hok
  have hn32 : n ≤ 32 := by rw [← hl]; exact hok.1
  have d1 : decide ((32 : Int) < (n : Int)) = false := decide_eq_false (by omega)
  have d2 : decide (32 < n) = false := decide_eq_false (by omega)
  have HT := Lib.hid ht
  clear hs hl hok ht
  go_enter Try.func50, Try.ntmps50
  go_wp2_with fail
  go_loopg [6] n (fun g s6 wr => ∃ i : Nat, i + g = n ∧ s6 = .int .i64 (i : Int) ∧ Hid (Gr w wr))
  case atStart => exact ⟨0, by omega, rfl, Lib.hid (Gr.refl _)⟩
  case round =>
    obtain ⟨i, hig, rfl, SG⟩ := hrel
    cases gk with
    | zero =>
      have e3 : decide ((i : Int) < (n : Int)) = false := decide_eq_false (by omega)
      have e4 : decide (i < n) = false := decide_eq_false (by omega)
      go_wp2_with fail
      refine (rTime_ok t _ HT.out.1 HT.out.2).mono ?_
      rintro e w1 ⟨rfl, hg⟩
      have S1 := Lib.hid (SG.out.trans hg)
      clear hg SG e3 e4 hig
      go_wp2_with fail
      go_loopg [7, 8] n (fun g s7 s8 wr => ∃ (i : Nat) (r : Int), i + g = n ∧ s8 = .int .i64 (i : Int) ∧ s7 = .int .i64 r ∧ Hid (TopQ (shows l t) n i 0 r) ∧ Hid (Gr w wr))
      case atStart => exact ⟨0, 0, by omega, rfl, rfl, Lib.hid (TopQ.start _ _), S1⟩
      case round =>
        obtain ⟨i, r, hig, rfl, rfl, HP, SG⟩ := hrel
        cases gk with
        | zero =>
          have e3 : decide ((i : Int) < (n : Int)) = false := decide_eq_false (by omega)
          have e4 : decide (i < n) = false := decide_eq_false (by omega)
          go_wp2_with fail
          go_ret2
          obtain rfl : i = n := by omega
          refine ⟨?_, SG.out⟩
          rw [topN_eq HP.out.top]
          rfl
        | succ g =>
          have e3 : decide ((i : Int) < (n : Int)) = true := decide_eq_true (by omega)
          have e4 : decide (i < n) = true := decide_eq_true (by omega)
          obtain ⟨b, off, rfl, lb, hc⟩ : ∃ b off, a1 = some ⟨b, off, none⟩ ∧ b < w.heap.size ∧ ∀ j u, (Lv l)[j]? = some u → w.cell? ⟨b, off + j, none⟩ = some u := by
            rcases HS.out with ⟨_, _, e, h, _⟩ | ⟨b, off, cc, e, l2, h⟩
            · omega
            · injection e with e _ _
              exact ⟨b, off, e, l2, h⟩
          have hin : i < l.length := by rw [HL.out]; omega
          have hcx := Lv_cells' hc hin
          have hvx := allV_get HO.out.2 hin
          obtain ⟨x, HX⟩ : ∃ x, Hid (l.getD i Sy0 = x) := ⟨_, Lib.hid rfl⟩
          rw [HX.out] at hcx hvx
          obtain ⟨o, kk, s, c⟩ := x
          have HCX := Lib.hid hcx
          have HC := Lib.hid hc
          have HV : Hid (Vs o kk s c) := Lib.hid hvx
          clear hcx hvx hc
          go_wp2_with fail
          go_loopg [7, 9] n (fun g2 s7 s9 wy => ∃ (j : Nat) (r : Int), j + g2 = n ∧ s9 = .int .i64 (j : Int) ∧ s7 = .int .i64 r ∧ Hid (TopQ (shows l t) n i j r) ∧ Hid (Gr w wy))
          case atStart => exact ⟨0, r, by omega, rfl, rfl, HP, SG⟩
          case round =>
            obtain ⟨j, r2, hjg, rfl, rfl, HP2, SG2⟩ := hrel
            cases gk with
            | zero =>
              have e6 : decide ((j : Int) < (n : Int)) = false := decide_eq_false (by omega)
              have e7 : decide (j < n) = false := decide_eq_false (by omega)
              have HP3 : Hid (TopQ (shows l t) n (i + 1) 0 r2) := Lib.hid (by have h := HP2.out; rw [show j = n by omega] at h; exact h.next)
              go_wp2_with fail
              go_roundg g
              case measure => omega
              case rel => exact ⟨i + 1, r2, by omega, by go_num, rfl, HP3, SG2⟩
            | succ g2 =>
              have e6 : decide ((j : Int) < (n : Int)) = true := decide_eq_true (by omega)
              have e7 : decide (j < n) = true := decide_eq_true (by omega)
              have hjn : j < l.length := by rw [HL.out]; omega
              have hcx := Lv_cells' HC.out hjn
              have hvx := allV_get HO.out.2 hjn
              obtain ⟨y, HY⟩ : ∃ y, Hid (l.getD j Sy0 = y) := ⟨_, Lib.hid rfl⟩
              rw [HY.out] at hcx hvx
              obtain ⟨o2, k2, s2, c2⟩ := y
              have HW : Hid (Vs o2 k2 s2 c2) := Lib.hid hvx
              have HJ : Hid (∀ Z, Gr wr Z → (Z.cell? ⟨b, off + i * 4, none⟩ = some (.int .i64 o) ∧ Z.cell? ⟨b, off + i * 4 + 1, none⟩ = some (.int .i64 kk) ∧ Z.cell? ⟨b, off + j * 4, none⟩ = some (.int .i64 o2) ∧ Z.cell? ⟨b, off + j * 4 + 1, none⟩ = some (.int .i64 k2) ∧ Hid (Gr wr Z))) := Lib.hid (fun Z G => ⟨((SG2.out.trans G).cell lb _).trans (HCX.out 0 _ rfl), ((SG2.out.trans G).cell lb _).trans (HCX.out 1 _ rfl), ((SG2.out.trans G).cell lb _).trans (hcx 0 _ rfl), ((SG2.out.trans G).cell lb _).trans (hcx 1 _ rfl), Lib.hid G⟩)
              obtain ⟨z0, z1, z2, z3, _⟩ := HJ.out wr (Gr.refl _)
              have hp := fun W => at_any o kk t W HV.out.vc HT.out.1 HT.out.2
              have hq := fun W => at_any o2 k2 t W HW.out.vc HT.out.1 HT.out.2
              have b1 := rd_bd HV.out.vc HT.out.1 HT.out.2
              have b2 := rd_bd HW.out.vc HT.out.1 HT.out.2
              have hst := HP2.out.step (show i < n by omega) (show j < n by omega)
              rw [show shows l t i = rd o kk t by unfold shows; rw [HX.out], show shows l t j = rd o2 k2 t by unfold shows; rw [HY.out]] at hst
              generalize rd o kk t = p1 at hp b1 hst
              generalize rd o2 k2 t = p2 at hq b2 hst
              have HPP := Lib.hid hp
              have HQQ := Lib.hid hq
              have HST := Lib.hid hst
              have hw : IntKind.i64.wrap (p1 - p2) = p1 - p2 := by rw [IntKind.wrap_i64]; omega
              clear hcx hvx hp hq hst
              have hi1 : (i : Int) < (n : Int) := by omega
              have hj1 : (j : Int) < (n : Int) := by omega
              go_wp2_with fail
              have gr0 := Lib.hid (Gr.refl wr).drew
              go_region_held3 (fun Z => Z.cell? ⟨b, off + i * 4, none⟩ = some (.int .i64 o) ∧ Z.cell? ⟨b, off + i * 4 + 1, none⟩ = some (.int .i64 kk) ∧ Z.cell? ⟨b, off + j * 4, none⟩ = some (.int .i64 o2) ∧ Z.cell? ⟨b, off + j * 4 + 1, none⟩ = some (.int .i64 k2) ∧ Hid (Gr wr Z)) (first | exact ⟨‹_›, ‹_›, ‹_›, ‹_›, ‹_›⟩ | exact HJ.out _ (by repeat (first | exact Gr.refl _ | exact Hid.out (by assumption) | apply Gr.drew)))
                (first
                  | (go_at_call_of 95 (Value.agg #[.int .i64 o, .int .i64 kk]); refine (keepL _ HJ.out (HPP.out _) (by go_split_ands; assumption)).mono ?_; rintro e w4 ⟨rfl, q0, q1, q2, q3, q4⟩)
                  | (go_at_call_of 95 (Value.agg #[.int .i64 o2, .int .i64 k2]); refine (keepL _ HJ.out (HQQ.out _) (by go_split_ands; assumption)).mono ?_; rintro e w4 ⟨rfl, q0, q1, q2, q3, q4⟩))
              all_goals
                have SG3 := Lib.hid (SG2.out.trans q4.out)
                clear q0 q1 q2 q3 q4 z0 z1 z2 z3 hw b1 b2 HJ gr0
                go_wp2_with fail
                go_roundg g2
                case measure => omega
                case rel => exact ⟨j + 1, _, by omega, by go_num, rfl, HST, SG3⟩
    | succ g =>
      have e1 : decide ((i : Int) < (n : Int)) = true := decide_eq_true (by omega)
      have e2 : decide (i < n) = true := decide_eq_true (by omega)
      obtain ⟨b, off, rfl, lb, hc⟩ : ∃ b off, a1 = some ⟨b, off, none⟩ ∧ b < w.heap.size ∧ ∀ j u, (Lv l)[j]? = some u → w.cell? ⟨b, off + j, none⟩ = some u := by
        rcases HS.out with ⟨_, _, e, h, _⟩ | ⟨b, off, cc, e, l2, h⟩
        · omega
        · injection e with e _ _
          exact ⟨b, off, e, l2, h⟩
      have hin : i < l.length := by rw [HL.out]; omega
      have hcx := Lv_cells' hc hin
      have hvx := allV_get HO.out.2 hin
      generalize l.getD i Sy0 = x at hcx hvx
      obtain ⟨o, kk, s, c⟩ := x
      have x0 : wr.cell? ⟨b, off + i * 4, none⟩ = some (.int .i64 o) := (SG.out.cell lb _).trans (hcx 0 _ rfl)
      have x1 : wr.cell? ⟨b, off + i * 4 + 1, none⟩ = some (.int .i64 kk) := (SG.out.cell lb _).trans (hcx 1 _ rfl)
      have x2 : wr.cell? ⟨b, off + i * 4 + 2, none⟩ = some (.int .i64 s) := (SG.out.cell lb _).trans (hcx 2 _ rfl)
      have x3 : wr.cell? ⟨b, off + i * 4 + 3, none⟩ = some (.int .i64 c) := (SG.out.cell lb _).trans (hcx 3 _ rfl)
      have HV : Hid (Vs o kk s c) := Lib.hid hvx
      clear hcx hvx hc
      go_wp2_with fail
      refine (rTck_ok o kk s c _ HV.out).mono ?_
      rintro e w2 ⟨rfl, hg⟩
      have S2 := Lib.hid (SG.out.trans hg)
      clear hg
      go_wp2_with fail
      go_roundg g
      case measure => omega
      case rel => exact ⟨i + 1, by omega, by go_num, S2⟩
set_option maxHeartbeats 1000000 in
theorem rSpread_many (a1 : Option Addr) (n c1 : Nat) (t : Int) (w : World) (hn : 32 < n) :
    Calls Try.prog 50 #[.slice a1 n c1, .int .i64 t] w fun e w' => e = .returned (.tuple #[.int .i64 0, .int .i64 1]) ∧ Gr w w' := by
  have d1 : decide ((32 : Int) < (n : Int)) = true := decide_eq_true (by omega)
  go_enter Try.func50, Try.ntmps50
  go_wp2_with fail
  go_ret2
  exact ⟨rfl, Gr.refl _⟩
set_option maxRecDepth 20000 in
set_option maxHeartbeats 4000000 in
theorem rSpread_time (a1 : Option Addr) (n c1 : Nat) (l : List Sy) (t : Int) (w : World) (hs : Sz w (.slice a1 n c1) n (Lv l)) (hl : l.length = n) (hok : spOk l) (ht : ¬ inTime t) :
    Calls Try.prog 50 #[.slice a1 n c1, .int .i64 t] w fun e w' => e = .returned (.tuple #[.int .i64 0, .int .i64 2]) ∧ Gr w w' := by
  have HS := Lib.hid hs
  have HL := Lib.hid hl
  have HO := Lib.hid hok
  have hn32 : n ≤ 32 := by rw [← hl]; exact hok.1
  have d1 : decide ((32 : Int) < (n : Int)) = false := decide_eq_false (by omega)
  have d2 : decide (32 < n) = false := decide_eq_false (by omega)
  have HT := Lib.hid ht
  clear hs hl hok ht
  go_enter Try.func50, Try.ntmps50
  go_wp2_with fail
  go_loopg [6] n (fun g s6 wr => ∃ i : Nat, i + g = n ∧ s6 = .int .i64 (i : Int) ∧ Hid (Gr w wr))
  case atStart => exact ⟨0, by omega, rfl, Lib.hid (Gr.refl _)⟩
  case round =>
    obtain ⟨i, hig, rfl, SG⟩ := hrel
    cases gk with
    | zero =>
      have e3 : decide ((i : Int) < (n : Int)) = false := decide_eq_false (by omega)
      have e4 : decide (i < n) = false := decide_eq_false (by omega)
      go_wp2_with fail
      refine (rTime_no t _ (not_inTime HT.out)).mono ?_
      rintro e w1 ⟨rfl, hg⟩
      have S1 := Lib.hid (SG.out.trans hg)
      clear hg
      go_wp2_with fail
      go_ret2
      exact ⟨rfl, S1.out⟩
    | succ g =>
      have e1 : decide ((i : Int) < (n : Int)) = true := decide_eq_true (by omega)
      have e2 : decide (i < n) = true := decide_eq_true (by omega)
      obtain ⟨b, off, rfl, lb, hc⟩ : ∃ b off, a1 = some ⟨b, off, none⟩ ∧ b < w.heap.size ∧ ∀ j u, (Lv l)[j]? = some u → w.cell? ⟨b, off + j, none⟩ = some u := by
        rcases HS.out with ⟨_, _, e, h, _⟩ | ⟨b, off, cc, e, l2, h⟩
        · omega
        · injection e with e _ _
          exact ⟨b, off, e, l2, h⟩
      have hin : i < l.length := by rw [HL.out]; omega
      have hcx := Lv_cells' hc hin
      have hvx := allV_get HO.out.2 hin
      generalize l.getD i Sy0 = x at hcx hvx
      obtain ⟨o, kk, s, c⟩ := x
      have x0 : wr.cell? ⟨b, off + i * 4, none⟩ = some (.int .i64 o) := (SG.out.cell lb _).trans (hcx 0 _ rfl)
      have x1 : wr.cell? ⟨b, off + i * 4 + 1, none⟩ = some (.int .i64 kk) := (SG.out.cell lb _).trans (hcx 1 _ rfl)
      have x2 : wr.cell? ⟨b, off + i * 4 + 2, none⟩ = some (.int .i64 s) := (SG.out.cell lb _).trans (hcx 2 _ rfl)
      have x3 : wr.cell? ⟨b, off + i * 4 + 3, none⟩ = some (.int .i64 c) := (SG.out.cell lb _).trans (hcx 3 _ rfl)
      have HV : Hid (Vs o kk s c) := Lib.hid hvx
      clear hcx hvx hc
      go_wp2_with fail
      refine (rTck_ok o kk s c _ HV.out).mono ?_
      rintro e w2 ⟨rfl, hg⟩
      have S2 := Lib.hid (SG.out.trans hg)
      clear hg
      go_wp2_with fail
      go_roundg g
      case measure => omega
      case rel => exact ⟨i + 1, by omega, by go_num, S2⟩
set_option maxRecDepth 20000 in
set_option maxHeartbeats 4000000 in
theorem rSpread_bad (a1 : Option Addr) (n c1 : Nat) (l : List Sy) (t : Int) (w : World) (hs : Sz w (.slice a1 n c1) n (Lv l)) (hl : l.length = n) (hn32 : n ≤ 32) (hv : ¬ allV l) :
    Calls Try.prog 50 #[.slice a1 n c1, .int .i64 t] w fun e w' => e = .returned (.tuple #[.int .i64 0, .int .i64 1]) ∧ Gr w w' := by
  have HS := Lib.hid hs
  have HL := Lib.hid hl
  have HV := Lib.hid hv
  have d1 : decide ((32 : Int) < (n : Int)) = false := decide_eq_false (by omega)
  have d2 : decide (32 < n) = false := decide_eq_false (by omega)
  clear hs hl hv
  go_enter Try.func50, Try.ntmps50
  go_wp2_with fail
  go_loopg [6] n (fun g s6 wr => ∃ i : Nat, i + g = n ∧ s6 = .int .i64 (i : Int) ∧ Hid (∀ j, j < i → (l.getD j Sy0).Vs) ∧ Hid (Gr w wr))
  case atStart => exact ⟨0, by omega, rfl, Lib.hid (fun j hj => absurd hj (Nat.not_lt_zero _)), Lib.hid (Gr.refl _)⟩
  case round =>
    obtain ⟨i, hig, rfl, HA, SG⟩ := hrel
    cases gk with
    | zero =>
      refine absurd (fun x hx => ?_) HV.out
      obtain ⟨j, hj, rfl⟩ := List.getElem_of_mem hx
      have := HA.out j (by have := HL.out; omega)
      rwa [List.getD_eq_getElem?_getD, List.getElem?_eq_getElem hj] at this
    | succ g =>
      have e1 : decide ((i : Int) < (n : Int)) = true := decide_eq_true (by omega)
      have e2 : decide (i < n) = true := decide_eq_true (by omega)
      obtain ⟨b, off, rfl, lb, hc⟩ : ∃ b off, a1 = some ⟨b, off, none⟩ ∧ b < w.heap.size ∧ ∀ j u, (Lv l)[j]? = some u → w.cell? ⟨b, off + j, none⟩ = some u := by
        rcases HS.out with ⟨_, _, e, h, _⟩ | ⟨b, off, cc, e, l2, h⟩
        · omega
        · injection e with e _ _
          exact ⟨b, off, e, l2, h⟩
      have hin : i < l.length := by rw [HL.out]; omega
      have hcx := Lv_cells' hc hin
      obtain ⟨x, HX⟩ : ∃ x, Hid (l.getD i Sy0 = x) := ⟨_, Lib.hid rfl⟩
      rw [HX.out] at hcx
      obtain ⟨o, kk, s, c⟩ := x
      have x0 : wr.cell? ⟨b, off + i * 4, none⟩ = some (.int .i64 o) := (SG.out.cell lb _).trans (hcx 0 _ rfl)
      have x1 : wr.cell? ⟨b, off + i * 4 + 1, none⟩ = some (.int .i64 kk) := (SG.out.cell lb _).trans (hcx 1 _ rfl)
      have x2 : wr.cell? ⟨b, off + i * 4 + 2, none⟩ = some (.int .i64 s) := (SG.out.cell lb _).trans (hcx 2 _ rfl)
      have x3 : wr.cell? ⟨b, off + i * 4 + 3, none⟩ = some (.int .i64 c) := (SG.out.cell lb _).trans (hcx 3 _ rfl)
      clear hcx hc
      by_cases hq : Vs o kk s c
      · have HQ := Lib.hid hq
        clear hq
        go_wp2_with fail
        refine (rTck_ok o kk s c _ HQ.out).mono ?_
        rintro e w2 ⟨rfl, hg⟩
        have S2 := Lib.hid (SG.out.trans hg)
        clear hg
        go_wp2_with fail
        go_roundg g
        case measure => omega
        case rel => exact ⟨i + 1, by omega, by go_num, Lib.hid (fun j hj => by
          by_cases e : j = i
          · subst e; rw [HX.out]; exact HQ.out
          · exact HA.out j (by omega)), S2⟩
      · have HQ := Lib.hid hq
        clear hq
        go_wp2_with fail
        refine (rTck_no o kk s c _ HQ.out).mono ?_
        rintro e w2 ⟨rfl, hg⟩
        have S2 := Lib.hid (SG.out.trans hg)
        clear hg
        go_wp2_with fail
        go_ret2
        exact ⟨rfl, S2.out⟩
/-- What the reference's Spread returns. -/
theorem rSpread_any2 (l : List Sy) (t : Int) (v : Value) (w : World) (hs : Sz w v l.length (Lv l)) :
    Calls Try.prog 50 #[v, .int .i64 t] w fun e w' => e = .returned (.tuple #[.int .i64 (spN l t), .int .i64 (spE l t)]) ∧ Gr w w' := by
  obtain ⟨a1, c1, rfl⟩ := hs.slice
  unfold spN spE
  by_cases hn : l.length ≤ 32
  · by_cases hv : allV l
    · have ho : spOk l := ⟨hn, hv⟩
      by_cases ht : inTime t
      · rw [if_pos ⟨ho, ht⟩, if_pos ho, if_pos ht]
        exact rSpread_ok a1 l.length c1 l t w hs rfl ho ht
      · rw [if_neg (fun h => ht h.2), if_pos ho, if_neg ht]
        exact rSpread_time a1 l.length c1 l t w hs rfl ho ht
    · rw [if_neg (fun h => hv h.1.2), if_neg (fun h => hv h.2)]
      exact rSpread_bad a1 l.length c1 l t w hs rfl hn hv
  · rw [if_neg (fun h => hn h.1.1), if_neg (fun h => hn h.1)]
    exact rSpread_many a1 l.length c1 t w (by omega)
end Go.Proofs.Ytpnigndobhbfnaa
