/- timesync.Spread: the good way. -/
import Derived.Test.YtpnigndobhbfnaaTop
import Derived.Test.YtpnigndobhbfnaaRrno
namespace Go.Proofs.Ytpnigndobhbfnaa
open Go.RowKit
set_option maxRecDepth 20000 in
set_option maxHeartbeats 4000000 in
theorem Spread_ok (a1 : Option Addr) (n c1 : Nat) (l : List Sy) (t : Int) (w : World) (hs : Sz w (.slice a1 n c1) n (Lv l)) (hnc : n ≤ c1) (hl : l.length = n) (hok : spOk l) (ht : inTime t) :
    Calls Try.prog 49 #[.slice a1 n c1, .int .i64 t] w fun e w' => e = .returned (.tuple #[.int .i64 (topN (shows l t) n), .int .i64 0]) ∧ Gr w w' := by
  have hcf := fun W (G : Gr w W) => CF98 103 Spread1 (enters_of Try.func103 (by kernel_rfl) rfl) (.slice a1 n c1) n l W (hs.gr G) hl (by have := hok.1; omega)
  rw [decide_eq_true hok.2, Bool.not_true] at hcf
  have HCF := Lib.hid hcf
  have HS := Lib.hid hs
  have HL := Lib.hid hl
  have HO := Lib.hid hok
  have hn32 : n ≤ 32 := by rw [← hl]; exact hok.1
  have d1 : decide ((32 : Int) < (n : Int)) = false := decide_eq_false (by omega)
  have d2 : decide (32 < n) = false := decide_eq_false (by omega)
  have d3 : decide (t < 0) = false := decide_eq_false (by have := ht.1; omega)
  have d4 : decide ((1099511627776 : Int) < t) = false := decide_eq_false (by have := ht.2; omega)
  have HT := Lib.hid ht
  clear hcf hs hl hok ht
  go_enter Try.func49, Try.ntmps49
  go_wp2_with fail
  refine (HCF.out _ (Gr.refl _)).mono ?_
  rintro e w1 ⟨rfl, hg⟩
  have S1 := Lib.hid hg
  clear hg HCF
  go_wp2_with fail
  go_loopg [6, 28] n (fun g s6 s28 wr => ∃ (i : Nat) (r : Int), i + g = n ∧ s28 = .int .i64 (i : Int) ∧ s6 = .int .i64 r ∧ Hid (TopP (shows l t) n i 0 r) ∧ Hid (Gr w wr))
  case atStart => exact ⟨0, 0, by omega, rfl, rfl, Lib.hid (TopP.start _ _), S1⟩
  case round =>
    obtain ⟨i, r, hig, rfl, rfl, HP, SG⟩ := hrel
    cases gk with
    | zero =>
      have e3 : decide ((i : Int) < (n : Int)) = false := decide_eq_false (by omega)
      have e4 : decide (i < n) = false := decide_eq_false (by omega)
      go_wp2_with fail
      go_ret2
      obtain rfl : i = n := by omega
      refine ⟨?_, SG.out⟩
      rw [topN_eq HP.out.top]
      rfl
    | succ g =>
      have e3 : decide ((i : Int) < (n : Int)) = true := decide_eq_true (by omega)
      have e4 : decide (i < n) = true := decide_eq_true (by omega)
      obtain ⟨b, off, rfl, lb, hc⟩ : ∃ b off, a1 = some ⟨b, off, none⟩ ∧ b < w.heap.size ∧ ∀ j u, (Lv l)[j]? = some u → w.cell? ⟨b, off + j, none⟩ = some u := by
        rcases HS.out with ⟨_, _, e, h, _⟩ | ⟨b, off, cc, e, l2, h⟩
        · omega
        · injection e with e _ _
          exact ⟨b, off, e, l2, h⟩
      have hin : i < l.length := by rw [HL.out]; omega
      have hcx := Lv_cells' hc hin
      have hvx := allV_get HO.out.2 hin
      obtain ⟨x, HX⟩ : ∃ x, Hid (l.getD i Sy0 = x) := ⟨_, Lib.hid rfl⟩
      rw [HX.out] at hcx hvx
      obtain ⟨o, kk, s, c⟩ := x
      have x0 : wr.cell? ⟨b, off + i * 4, none⟩ = some (.int .i64 o) := (SG.out.cell lb _).trans (hcx 0 _ rfl)
      have x1 : wr.cell? ⟨b, off + i * 4 + 1, none⟩ = some (.int .i64 kk) := (SG.out.cell lb _).trans (hcx 1 _ rfl)
      have x2 : wr.cell? ⟨b, off + i * 4 + 2, none⟩ = some (.int .i64 s) := (SG.out.cell lb _).trans (hcx 2 _ rfl)
      have x3 : wr.cell? ⟨b, off + i * 4 + 3, none⟩ = some (.int .i64 c) := (SG.out.cell lb _).trans (hcx 3 _ rfl)
      have HC := Lib.hid hc
      have HV : Hid (Vs o kk s c) := Lib.hid hvx
      have e5 : decide ((i : Int) ≤ (c1 : Int)) = true := decide_eq_true (by omega)
      clear hcx hvx hc
      go_wp2_with fail
      clear x0 x1 x2 x3
      have gA : Gr wr (wr.alloc (Obj.cells #[.int .i64 o, .int .i64 kk, .int .i64 s, .int .i64 c] 45)) := Gr.alloc (Gr.refl _) _
      have bA : Bx (wr.alloc (Obj.cells #[.int .i64 o, .int .i64 kk, .int .i64 s, .int .i64 c] 45)) wr.heap.size [.int .i64 o, .int .i64 kk, .int .i64 s, .int .i64 c] := Bx.new wr _ 45
      generalize wr.alloc (Obj.cells #[.int .i64 o, .int .i64 kk, .int .i64 s, .int .i64 c] 45) = wA at gA bA ⊢
      generalize wr.heap.size = ab at bA ⊢
      have GA := Lib.hid (SG.out.trans gA)
      have BA := Lib.hid bA
      clear gA bA
      go_loopg [6, 37] i (fun g2 s6 s37 wy => ∃ (j : Nat) (r : Int), j + g2 = i ∧ s37 = .int .i64 (j : Int) ∧ s6 = .int .i64 r ∧ Hid (TopP (shows l t) n i j r) ∧ Hid (Gr wA wy))
      case atStart => exact ⟨0, r, by omega, rfl, rfl, HP, Lib.hid (Gr.refl _)⟩
      case round =>
        obtain ⟨j, r2, hjg, rfl, rfl, HP2, SG2⟩ := hrel
        cases gk with
        | zero =>
          have e6 : decide ((j : Int) < (i : Int)) = false := decide_eq_false (by omega)
          have e7 : decide (j < i) = false := decide_eq_false (by omega)
          have HP3 : Hid (TopP (shows l t) n (i + 1) 0 r2) := Lib.hid (by have h := HP2.out; rw [show j = i by omega] at h; exact h.next)
          have SG3 := Lib.hid (GA.out.trans SG2.out)
          go_wp2_with fail
          go_roundg g
          case measure => omega
          case rel => exact ⟨i + 1, r2, by omega, by go_num, rfl, HP3, SG3⟩
        | succ g2 =>
          have e6 : decide ((j : Int) < (i : Int)) = true := decide_eq_true (by omega)
          have e7 : decide (j < i) = true := decide_eq_true (by omega)
          have hjn : j < l.length := by rw [HL.out]; omega
          have hcx := Lv_cells' HC.out hjn
          have hvx := allV_get HO.out.2 hjn
          obtain ⟨y, HY⟩ : ∃ y, Hid (l.getD j Sy0 = y) := ⟨_, Lib.hid rfl⟩
          rw [HY.out] at hcx hvx
          obtain ⟨o2, k2, s2, c2⟩ := y
          have SA := Lib.hid (GA.out.trans SG2.out)
          have x0 : wr.cell? ⟨b, off + j * 4, none⟩ = some (.int .i64 o2) := (SA.out.cell lb _).trans (hcx 0 _ rfl)
          have x1 : wr.cell? ⟨b, off + j * 4 + 1, none⟩ = some (.int .i64 k2) := (SA.out.cell lb _).trans (hcx 1 _ rfl)
          have x2 : wr.cell? ⟨b, off + j * 4 + 2, none⟩ = some (.int .i64 s2) := (SA.out.cell lb _).trans (hcx 2 _ rfl)
          have x3 : wr.cell? ⟨b, off + j * 4 + 3, none⟩ = some (.int .i64 c2) := (SA.out.cell lb _).trans (hcx 3 _ rfl)
          have KA := Lib.hid (BA.out.gr SG2.out)
          have a0 := KA.out.c 0 _ rfl
          have a1 := KA.out.c 1 _ rfl
          have la := KA.out.lt
          have HW : Hid (Vs o2 k2 s2 c2) := Lib.hid hvx
          clear hcx hvx
          by_cases hq : o = o2 ∧ kk = k2
          · obtain ⟨rfl, rfl⟩ := hq
            have HP3 : Hid (TopP (shows l t) n i (j + 1) r2) := Lib.hid (HP2.out.same (by unfold shows; rw [HX.out, HY.out]))
            go_wp2_with fail
            have SG3 := Lib.hid (SG2.out.alloc (Obj.cells #[.int .i64 o, .int .i64 kk, .int .i64 s2, .int .i64 c2] 45))
            go_roundg g2
            case measure => omega
            case rel => exact ⟨j + 1, r2, by omega, by go_num, rfl, HP3, SG3⟩
          · by_cases ho : o = o2
            · subst ho
              have hk : (kk == k2) = false := beq_eq_false_iff_ne.2 (fun e => hq ⟨rfl, e⟩)
              clear hq
              go_wp2_with fail
              have hap := Apart_any o kk o k2 t
              obtain ⟨d, hd⟩ : ∃ d, rd o k2 t - rd o kk t = d := ⟨_, rfl⟩
              rw [show apN o kk o k2 t = d from (if_pos ⟨HV.out.vc, HW.out.vc, HT.out.1, HT.out.2⟩).trans hd, show apE o kk o k2 t = 0 from (if_pos ⟨HV.out.vc, HW.out.vc⟩).trans (if_pos ⟨HT.out.1, HT.out.2⟩)] at hap
              have b1 := rd_bd HV.out.vc HT.out.1 HT.out.2
              have b2 := rd_bd HW.out.vc HT.out.1 HT.out.2
              have hd0 : -3298754785654 ≤ d := by omega
              have hd1 : d ≤ 3298754785654 := by omega
              have HP3 : Hid (TopP (shows l t) n i (j + 1) (max (max r2 d) (-d))) := Lib.hid (by
                have h := HP2.out.step (show i < n by omega) (show j < n by omega)
                have e : shows l t j - shows l t i = d := by unfold shows; rw [HX.out, HY.out]; exact hd
                rwa [e] at h)
              have HAP := Lib.hid hap
              clear hap hd b1 b2
              refine (HAP.out _).mono ?_
              rintro e w2 ⟨rfl, hg⟩
              have SG3 := Lib.hid ((SG2.out.alloc (Obj.cells #[.int .i64 o, .int .i64 k2, .int .i64 s2, .int .i64 c2] 45)).trans hg)
              clear hg a0 a1 x0 x1 x2 x3
              go_wp2_with fail
              all_goals
                go_roundg g2
                case measure => omega
                case rel =>
                  exact ⟨j + 1, _, by omega, by go_num, rfl, (by
                    have h := HP3.out
                    first
                      | (rw [show max (max r2 d) (-d) = -d by omega] at h; exact Lib.hid h)
                      | (rw [show max (max r2 d) (-d) = d by omega] at h; exact Lib.hid h)
                      | (rw [show max (max r2 d) (-d) = r2 by omega] at h; exact Lib.hid h)), SG3⟩
            · have hk : (o == o2) = false := beq_eq_false_iff_ne.2 ho
              clear hq
              go_wp2_with fail
              have hap := Apart_any o kk o2 k2 t
              obtain ⟨d, hd⟩ : ∃ d, rd o2 k2 t - rd o kk t = d := ⟨_, rfl⟩
              rw [show apN o kk o2 k2 t = d from (if_pos ⟨HV.out.vc, HW.out.vc, HT.out.1, HT.out.2⟩).trans hd, show apE o kk o2 k2 t = 0 from (if_pos ⟨HV.out.vc, HW.out.vc⟩).trans (if_pos ⟨HT.out.1, HT.out.2⟩)] at hap
              have b1 := rd_bd HV.out.vc HT.out.1 HT.out.2
              have b2 := rd_bd HW.out.vc HT.out.1 HT.out.2
              have hd0 : -3298754785654 ≤ d := by omega
              have hd1 : d ≤ 3298754785654 := by omega
              have HP3 : Hid (TopP (shows l t) n i (j + 1) (max (max r2 d) (-d))) := Lib.hid (by
                have h := HP2.out.step (show i < n by omega) (show j < n by omega)
                have e : shows l t j - shows l t i = d := by unfold shows; rw [HX.out, HY.out]; exact hd
                rwa [e] at h)
              have HAP := Lib.hid hap
              clear hap hd b1 b2
              refine (HAP.out _).mono ?_
              rintro e w2 ⟨rfl, hg⟩
              have SG3 := Lib.hid ((SG2.out.alloc (Obj.cells #[.int .i64 o2, .int .i64 k2, .int .i64 s2, .int .i64 c2] 45)).trans hg)
              clear hg a0 a1 x0 x1 x2 x3
              go_wp2_with fail
              all_goals
                go_roundg g2
                case measure => omega
                case rel =>
                  exact ⟨j + 1, _, by omega, by go_num, rfl, (by
                    have h := HP3.out
                    first
                      | (rw [show max (max r2 d) (-d) = -d by omega] at h; exact Lib.hid h)
                      | (rw [show max (max r2 d) (-d) = d by omega] at h; exact Lib.hid h)
                      | (rw [show max (max r2 d) (-d) = r2 by omega] at h; exact Lib.hid h)), SG3⟩
end Go.Proofs.Ytpnigndobhbfnaa
