/- The walk of TimesyncOne. -/
import Derived.Test.YtpnigndobhbfnaaTr
import Derived.Test.YtpnigndobhbfnaaCn
import Derived.Test.YtpnigndobhbfnaaCut
import Derived.Test.YtpnigndobhbfnaaAwake10
import Derived.Deep.RegionHeld3
import Derived.BigQuiet
namespace Go.Proofs.Ytpnigndobhbfnaa
open Go.RowKit
set_option maxRecDepth 20000 in
set_option maxHeartbeats 4000000 in
theorem TO_er (a2 : Option Addr) (n c1 m c0 k c2 : Nat) (a1 a0 : Option Addr) (l : List Sy) (zs : List Int) (xs : List Stp) (u : Int) (w : World) (h1 : Sz w (.slice a1 n c1) n (Lv l)) (h0 : Sz w (.slice a0 m c0) m (ivs zs)) (h2 : Sz w (.slice (a2) k c2) k (Lt xs))
    (hl : l.length = n) (hz : zs.length = m) (hx : xs.length = k) (hn : n ≤ 40) (hm : m ≤ 40) (hk : k ≤ 40) (ri re : Int) (hr : runN l zs xs = ([], ri, re)) (he : re ≠ 0) (hr0 : -1 ≤ ri) (hr1 : ri < k) :
    Calls Try.prog 25 #[.agg #[.slice a1 n c1, .slice a0 m c0], .slice (a2) k c2, .int .u8 u] w fun e w' => e = .returned (.bool true) ∧ Gr w w' := by
  have C46 := Lib.hid (cl46 h1 hl (by omega))
  have C43 := Lib.hid (cl43 h0 hz (by omega))
  have C47 := Lib.hid (cl47 h2 hx (by omega))
  have R45 := Lib.hid (run45 hl hz hx hk hr)
  have e1 : (re != 0) = true := by rw [bne_iff_ne]; exact he
  have e2 : decide ((-1 : Int) ≤ ri) = true := decide_eq_true hr0
  have e3 : decide (ri < (k : Int)) = true := decide_eq_true hr1
  have HE := Lib.hid he
  clear h1 h0 h2 hr hl hz hx he
  have d1 : decide ((40 : Int) < (n : Int)) = false := decide_eq_false (by omega)
  have d2 : decide ((40 : Int) < (m : Int)) = false := decide_eq_false (by omega)
  have d3 : decide ((40 : Int) < (k : Int)) = false := decide_eq_false (by omega)
  go_enter Try.func25, Try.ntmps25
  go_wp2_with fail
  have g0 : Gr w (w.alloc (Obj.cells #[.slice a1 n c1, .slice a0 m c0] 36)) := Gr.alloc (Gr.refl _) _
  have bx : Bx (w.alloc (Obj.cells #[.slice a1 n c1, .slice a0 m c0] 36)) w.heap.size [.slice a1 n c1, .slice a0 m c0] := Bx.new w _ 36
  generalize w.alloc (Obj.cells #[.slice a1 n c1, .slice a0 m c0] 36) = W0 at g0 bx ⊢
  generalize w.heap.size = xb at bx ⊢
  have S0 := Lib.hid g0
  have K0 := Lib.hid bx
  clear g0 bx
  refine (awake10 _).mono ?_
  rintro e w4 ⟨rfl, hg⟩
  have S4 := Lib.hid (S0.out.trans hg)
  have K4 := Lib.hid (K0.out.gr hg)
  clear hg
  have x0 := K4.out.c 0 _ rfl
  have x1 := K4.out.c 1 _ rfl
  go_wp2_with fail
  have HJ : Hid (∀ Z, Gr w4 Z → (Z.cell? ⟨xb, 0, none⟩ = some (.slice a1 n c1) ∧ Z.cell? ⟨xb, 1, none⟩ = some (.slice a0 m c0) ∧ Hid (Gr w4 Z))) := Lib.hid (fun Z G => ⟨(K4.out.gr G).c 0 _ rfl, (K4.out.gr G).c 1 _ rfl, Lib.hid G⟩)
  have gr0 := Lib.hid (Gr.refl w4).drew
  go_region_held3 (fun Z => Z.cell? ⟨xb, 0, none⟩ = some (.slice a1 n c1) ∧ Z.cell? ⟨xb, 1, none⟩ = some (.slice a0 m c0) ∧ Hid (Gr w4 Z)) (first | exact HJ.out _ (by repeat (first | exact Gr.refl _ | exact Hid.out (by assumption) | apply Gr.drew)))
    (first
      | (go_at_call 46; refine (keepM _ HJ.out (C46.out _ (S4.out.trans (Hid.out (by assumption)))) (by assumption)).mono ?_; rintro e wa ⟨⟨va, rfl, oa⟩, ⟨qa0, qa1, qa⟩, ga⟩)
      | (go_at_call 43; refine (keepM _ HJ.out (C43.out _ (S4.out.trans (Hid.out (by assumption)))) (by assumption)).mono ?_; rintro e wb ⟨⟨vd, rfl, od⟩, ⟨qb0, qb1, qb⟩, gb⟩)
      | (go_at_call 47; refine (keepM _ HJ.out (C47.out _ (S4.out.trans (Hid.out (by assumption)))) (by assumption)).mono ?_; rintro e wc ⟨⟨ve, rfl, oe⟩, ⟨qc0, qc1, qc⟩, gc⟩)
      | (go_at_call 45; refine (keepM _ HJ.out (R45.out va vd ve _ (oa.gr (gb.trans gc)).ow.sz (od.gr gc).sz oe.sz) (by assumption)).mono ?_; rintro e w5 ⟨⟨vf4, rfl, of4, nf4⟩, ⟨qd0, qd1, qd⟩, gd⟩))
  have S5 := Lib.hid (S4.out.trans qd.out)
  have K5 := Lib.hid (K4.out.gr qd.out)
  have OF4 := Lib.hid of4
  have GQ := Lib.hid qd.out
  clear x0 x1 HJ gr0 oa ga qa0 qa1 qa od gb qb0 qb1 qb oe gc qc0 qc1 qc of4 gd qd0 qd1 qd K4
  obtain rfl := nf4 HE.out
  clear nf4
  go_wp2_with fail
  go_ret
  exact ⟨rfl, S5.out⟩
set_option maxRecDepth 20000 in
set_option maxHeartbeats 4000000 in
theorem TO_I (ad : Addr) (n c1 m c0 k c2 : Nat) (a1 a0 : Option Addr) (l : List Sy) (zs : List Int) (xs : List Stp) (u : Int) (w : World) (h1 : Sz w (.slice a1 n c1) n (Lv l)) (h0 : Sz w (.slice a0 m c0) m (ivs zs)) (h2 : Sz w (.slice (some ad) k c2) k (Lt xs))
    (hl : l.length = n) (hz : zs.length = m) (hx : xs.length = k) (hn : n ≤ 40) (hm : m ≤ 40) (hk : k ≤ 40) (kk : Nat) (hkk : kk ≤ k) (hc : kk < c2) (u0 : 0 ≤ u) (u1 : u ≤ 255) (htm : u.tmod ((k : Int) + 1) = (kk : Int)) (rl r1 : List Sy) (hr : runN l zs xs = (rl, -1, 0)) (hrf : runN l zs (xs.take kk) = (r1, -1, 0)) (hrs : runN r1 zs (xs.drop kk) = (rl, -1, 0)) (hl1 : r1.length = n) (hlr : rl.length = n) (hkeep : ∀ i : Nat, (∀ x ∈ xs, x.m ≠ (i : Int)) → rl.getD i Sy0 = l.getD i Sy0) :
    Calls Try.prog 25 #[.agg #[.slice a1 n c1, .slice a0 m c0], .slice (some ad) k c2, .int .u8 u] w fun e w' => e = .returned (.bool true) ∧ Gr w w' := by
  have C46 := Lib.hid (cl46 h1 hl (by omega))
  have C43 := Lib.hid (cl43 h0 hz (by omega))
  have C47 := Lib.hid (cl47 h2 hx (by omega))
  have hxt : (xs.take kk).length = kk := by rw [List.length_take]; omega
  have hxd : (xs.drop kk).length = k - kk := by rw [List.length_drop]; omega
  have s1 : Sz w (.slice (some ad) kk c2) kk (Lt (xs.take kk)) := sz_take h2 hx hkk
  have s2 : Sz w (.slice (some (ad.add (kk * 3))) (k - kk) (c2 - kk)) (k - kk) (Lt (xs.drop kk)) := sz_drop h2 hx hkk
  have C47a := Lib.hid (cl47 s1 hxt (by omega))
  have C47b := Lib.hid (cl47 s2 hxd (by omega))
  have R45 := Lib.hid (run45 hl hz hx (by omega) hr)
  have R45a := Lib.hid (run45 hl hz hxt (by omega) hrf)
  have R45b := Lib.hid (run45 hl1 hz hxd (by omega) hrs)
  have H1 := Lib.hid h1
  have H2 := Lib.hid h2
  have HL := Lib.hid hl
  have HX := Lib.hid hx
  have HKP := Lib.hid hkeep
  have HLR := Lib.hid hlr
  have HL1 := Lib.hid hl1
  have f1 : (kk : Int) ≤ (c2 : Int) := by omega
  have hkk2 : (kk : Int) ≤ (k : Int) := by omega
  have ww1 : IntKind.i64.wrap ((k : Int) + 1) = (k : Int) + 1 := by rw [IntKind.wrap_i64]; omega
  clear h1 h0 h2 hr hrf hrs hl hz hx hxt hxd s1 s2 hkeep hlr hl1
  have d1 : decide ((40 : Int) < (n : Int)) = false := decide_eq_false (by omega)
  have d2 : decide ((40 : Int) < (m : Int)) = false := decide_eq_false (by omega)
  have d3 : decide ((40 : Int) < (k : Int)) = false := decide_eq_false (by omega)
  go_enter Try.func25, Try.ntmps25
  go_wp2_with fail
  have g0 : Gr w (w.alloc (Obj.cells #[.slice a1 n c1, .slice a0 m c0] 36)) := Gr.alloc (Gr.refl _) _
  have bx : Bx (w.alloc (Obj.cells #[.slice a1 n c1, .slice a0 m c0] 36)) w.heap.size [.slice a1 n c1, .slice a0 m c0] := Bx.new w _ 36
  generalize w.alloc (Obj.cells #[.slice a1 n c1, .slice a0 m c0] 36) = W0 at g0 bx ⊢
  generalize w.heap.size = xb at bx ⊢
  have S0 := Lib.hid g0
  have K0 := Lib.hid bx
  clear g0 bx
  refine (awake10 _).mono ?_
  rintro e w4 ⟨rfl, hg⟩
  have S4 := Lib.hid (S0.out.trans hg)
  have K4 := Lib.hid (K0.out.gr hg)
  clear hg
  have x0 := K4.out.c 0 _ rfl
  have x1 := K4.out.c 1 _ rfl
  go_wp2_with fail
  have HJ : Hid (∀ Z, Gr w4 Z → (Z.cell? ⟨xb, 0, none⟩ = some (.slice a1 n c1) ∧ Z.cell? ⟨xb, 1, none⟩ = some (.slice a0 m c0) ∧ Hid (Gr w4 Z))) := Lib.hid (fun Z G => ⟨(K4.out.gr G).c 0 _ rfl, (K4.out.gr G).c 1 _ rfl, Lib.hid G⟩)
  have gr0 := Lib.hid (Gr.refl w4).drew
  go_region_held3 (fun Z => Z.cell? ⟨xb, 0, none⟩ = some (.slice a1 n c1) ∧ Z.cell? ⟨xb, 1, none⟩ = some (.slice a0 m c0) ∧ Hid (Gr w4 Z)) (first | exact HJ.out _ (by repeat (first | exact Gr.refl _ | exact Hid.out (by assumption) | apply Gr.drew)))
    (first
      | (go_at_call 46; refine (keepM _ HJ.out (C46.out _ (S4.out.trans (Hid.out (by assumption)))) (by assumption)).mono ?_; rintro e wa ⟨⟨va, rfl, oa⟩, ⟨qa0, qa1, qa⟩, ga⟩)
      | (go_at_call 43; refine (keepM _ HJ.out (C43.out _ (S4.out.trans (Hid.out (by assumption)))) (by assumption)).mono ?_; rintro e wb ⟨⟨vd, rfl, od⟩, ⟨qb0, qb1, qb⟩, gb⟩)
      | (go_at_call 47; refine (keepM _ HJ.out (C47.out _ (S4.out.trans (Hid.out (by assumption)))) (by assumption)).mono ?_; rintro e wc ⟨⟨ve, rfl, oe⟩, ⟨qc0, qc1, qc⟩, gc⟩)
      | (go_at_call 45; refine (keepM _ HJ.out (R45.out va vd ve _ (oa.gr (gb.trans gc)).ow.sz (od.gr gc).sz oe.sz) (by assumption)).mono ?_; rintro e w5 ⟨⟨vf4, rfl, of4, nf4⟩, ⟨qd0, qd1, qd⟩, gd⟩))
  have S5 := Lib.hid (S4.out.trans qd.out)
  have K5 := Lib.hid (K4.out.gr qd.out)
  have OF4 := Lib.hid of4
  have GQ := Lib.hid qd.out
  clear x0 x1 HJ gr0 oa ga qa0 qa1 qa od gb qb0 qb1 qb oe gc qc0 qc1 qc of4 gd qd0 qd1 qd K4
  clear nf4
  obtain ⟨al, cl, rfl⟩ : ∃ a c, vf4 = .slice a n c := by
    have := OF4.out.sz.slice
    rwa [HLR.out] at this
  have Ol : Hid (Sz w5 (.slice al n cl) n (Lv rl)) := Lib.hid (by have := OF4.out.sz; rwa [HLR.out] at this)
  clear OF4
  have x0 := K5.out.c 0 _ rfl
  have x1 := K5.out.c 1 _ rfl
  clear GQ
  go_wp2_with fail
  have HJ : Hid (∀ Z, Gr w5 Z → (Z.cell? ⟨xb, 0, none⟩ = some (.slice a1 n c1) ∧ Z.cell? ⟨xb, 1, none⟩ = some (.slice a0 m c0) ∧ Hid (Gr w5 Z))) := Lib.hid (fun Z G => ⟨(K5.out.gr G).c 0 _ rfl, (K5.out.gr G).c 1 _ rfl, Lib.hid G⟩)
  have gr0 := Lib.hid (Gr.refl w5).drew
  go_region_held3 (fun Z => Z.cell? ⟨xb, 0, none⟩ = some (.slice a1 n c1) ∧ Z.cell? ⟨xb, 1, none⟩ = some (.slice a0 m c0) ∧ Hid (Gr w5 Z)) (first | exact HJ.out _ (by repeat (first | exact Gr.refl _ | exact Hid.out (by assumption) | apply Gr.drew)))
    (first
      | (go_at_call 46; refine (keepM _ HJ.out (C46.out _ (S5.out.trans (Hid.out (by assumption)))) (by assumption)).mono ?_; rintro e wa ⟨⟨va, rfl, oa⟩, ⟨qa0, qa1, qa⟩, ga⟩)
      | (go_at_call 43; refine (keepM _ HJ.out (C43.out _ (S5.out.trans (Hid.out (by assumption)))) (by assumption)).mono ?_; rintro e wb ⟨⟨vd, rfl, od⟩, ⟨qb0, qb1, qb⟩, gb⟩)
      | (go_at_call 47; refine (keepM _ HJ.out (C47a.out _ (S5.out.trans (Hid.out (by assumption)))) (by assumption)).mono ?_; rintro e wc ⟨⟨ve, rfl, oe⟩, ⟨qc0, qc1, qc⟩, gc⟩)
      | (go_at_call 45; refine (keepM _ HJ.out (R45a.out va vd ve _ (oa.gr (gb.trans gc)).ow.sz (od.gr gc).sz oe.sz) (by assumption)).mono ?_; rintro e w6 ⟨⟨vf5, rfl, of5, nf5⟩, ⟨qd0, qd1, qd⟩, gd⟩))
  have S6 := Lib.hid (S5.out.trans qd.out)
  have K6 := Lib.hid (K5.out.gr qd.out)
  have OF5 := Lib.hid of5
  have GQ := Lib.hid qd.out
  clear x0 x1 HJ gr0 oa ga qa0 qa1 qa od gb qb0 qb1 qb oe gc qc0 qc1 qc of5 gd qd0 qd1 qd K5
  clear nf5
  obtain ⟨af, cf, rfl⟩ : ∃ a c, vf5 = .slice a n c := by
    have := OF5.out.sz.slice
    rwa [HL1.out] at this
  have Of : Hid (Sz w6 (.slice af n cf) n (Lv r1)) := Lib.hid (by have := OF5.out.sz; rwa [HL1.out] at this)
  clear OF5
  have Ol6 := Lib.hid (Ol.out.gr GQ.out)
  have C46b := Lib.hid (cl46 Of.out HL1.out (by omega))
  have x0 := K6.out.c 0 _ rfl
  have x1 := K6.out.c 1 _ rfl
  clear GQ Ol
  go_wp2_with fail
  have HJ : Hid (∀ Z, Gr w6 Z → (Z.cell? ⟨xb, 0, none⟩ = some (.slice a1 n c1) ∧ Z.cell? ⟨xb, 1, none⟩ = some (.slice a0 m c0) ∧ Hid (Gr w6 Z))) := Lib.hid (fun Z G => ⟨(K6.out.gr G).c 0 _ rfl, (K6.out.gr G).c 1 _ rfl, Lib.hid G⟩)
  have gr0 := Lib.hid (Gr.refl w6).drew
  go_region_held3 (fun Z => Z.cell? ⟨xb, 0, none⟩ = some (.slice a1 n c1) ∧ Z.cell? ⟨xb, 1, none⟩ = some (.slice a0 m c0) ∧ Hid (Gr w6 Z)) (first | exact HJ.out _ (by repeat (first | exact Gr.refl _ | exact Hid.out (by assumption) | apply Gr.drew)))
    (first
      | (go_at_call 46; refine (keepM _ HJ.out (C46b.out _ (Hid.out (by assumption))) (by assumption)).mono ?_; rintro e wa ⟨⟨va, rfl, oa⟩, ⟨qa0, qa1, qa⟩, ga⟩)
      | (go_at_call 43; refine (keepM _ HJ.out (C43.out _ (S6.out.trans (Hid.out (by assumption)))) (by assumption)).mono ?_; rintro e wb ⟨⟨vd, rfl, od⟩, ⟨qb0, qb1, qb⟩, gb⟩)
      | (go_at_call 47; refine (keepM _ HJ.out (C47b.out _ (S6.out.trans (Hid.out (by assumption)))) (by assumption)).mono ?_; rintro e wc ⟨⟨ve, rfl, oe⟩, ⟨qc0, qc1, qc⟩, gc⟩)
      | (go_at_call 45; refine (keepM _ HJ.out (R45b.out va vd ve _ (oa.gr (gb.trans gc)).ow.sz (od.gr gc).sz oe.sz) (by assumption)).mono ?_; rintro e w7 ⟨⟨vf6, rfl, of6, nf6⟩, ⟨qd0, qd1, qd⟩, gd⟩))
  have S7 := Lib.hid (S6.out.trans qd.out)
  have K7 := Lib.hid (K6.out.gr qd.out)
  have OF6 := Lib.hid of6
  have GQ := Lib.hid qd.out
  clear x0 x1 HJ gr0 oa ga qa0 qa1 qa od gb qb0 qb1 qb oe gc qc0 qc1 qc of6 gd qd0 qd1 qd K6
  clear nf6
  obtain ⟨aq, cq, rfl⟩ : ∃ a c, vf6 = .slice a n c := by
    have := OF6.out.sz.slice
    rwa [HLR.out] at this
  have Oq : Hid (Sz w7 (.slice aq n cq) n (Lv rl)) := Lib.hid (by have := OF6.out.sz; rwa [HLR.out] at this)
  clear OF6
  have Ol7 := Lib.hid (Ol6.out.gr GQ.out)
  have x0 := K7.out.c 0 _ rfl
  have x1 := K7.out.c 1 _ rfl
  clear GQ Ol6
  go_wp2_with fail
  refine (Eq89v _ _ n rl _ Oq.out Ol7.out HLR.out (by omega)).mono ?_
  rintro e w8 ⟨rfl, hg⟩
  have S8 := Lib.hid (S7.out.trans hg)
  have K8 := Lib.hid (K7.out.gr hg)
  have Ol8 := Lib.hid (Ol7.out.gr hg)
  clear hg x0 x1 Oq Ol7 Of C46b C46 C43 C47 C47a C47b R45 R45a R45b
  have x0 := K8.out.c 0 _ rfl
  have x1 := K8.out.c 1 _ rfl
  go_wp2_with fail
  clear x0 x1
  go_loopg [126] n (fun g s wy => ∃ i : Nat, i + g = n ∧ s = .int .i64 (i : Int) ∧ Hid (Gr w8 wy))
  case atStart => exact ⟨0, by omega, rfl, Lib.hid (Gr.refl _)⟩
  case round =>
    obtain ⟨i, hig, rfl, SG⟩ := hrel
    cases gk with
    | zero =>
      have e3 : decide ((i : Int) < (n : Int)) = false := decide_eq_false (by omega)
      have e4 : decide (i < n) = false := decide_eq_false (by omega)
      go_wp2_with fail
      go_ret
      exact ⟨rfl, S8.out.trans SG.out⟩
    | succ g =>
      have e3 : decide ((i : Int) < (n : Int)) = true := decide_eq_true (by omega)
      have e4 : decide (i < n) = true := decide_eq_true (by omega)
      have hi1 : (i : Int) < (n : Int) := by omega
      go_wp2_with fail
      have gA : Gr wr (wr.alloc (Obj.cells #[.int .i64 (i : Int)] 3)) := Gr.alloc (Gr.refl _) _
      have bA : Bx (wr.alloc (Obj.cells #[.int .i64 (i : Int)] 3)) wr.heap.size [.int .i64 (i : Int)] := Bx.new wr _ 3
      generalize wr.alloc (Obj.cells #[.int .i64 (i : Int)] 3) = w9 at gA bA ⊢
      generalize wr.heap.size = ib at bA ⊢
      have S9 := Lib.hid (SG.out.trans gA)
      have hcf := CF90 ib i _ k xs w9 (H2.out.gr (S8.out.trans S9.out)) HX.out (by omega) (bA.c 0 _ rfl) bA.lt
      have BA := Lib.hid bA
      obtain ⟨nb, HN⟩ : ∃ nb, Hid ((xs.any fun x => x.m == (i : Int)) = nb) := ⟨_, Lib.hid rfl⟩
      rw [HN.out] at hcf
      have HCF := Lib.hid hcf
      clear gA bA hcf
      refine HCF.out.mono ?_
      rintro e w10 ⟨rfl, hg⟩
      have S10 := Lib.hid (S9.out.trans hg)
      have BA2 := Lib.hid (BA.out.gr hg)
      clear hg HCF
      have i0 := BA2.out.c 0 _ rfl
      have x0 := (K8.out.gr S10.out).c 0 _ rfl
      have x1 := (K8.out.gr S10.out).c 1 _ rfl
      cases nb with
      | true =>
        go_wp2_with fail
        go_quiet (fail)
        have SG3 := Lib.hid (S10.out.drewN nq)
        generalize w10.drewN nq = wz at SG3 ⊢
        clear i0 x0 x1
        go_wp2_with fail
        go_roundg g
        case measure => omega
        case rel => exact ⟨i + 1, by omega, by go_num, SG3⟩
      | false =>
        obtain ⟨ba, oa, ca, ea, lba, hca⟩ := Ol8.out.cells (by omega)
        injection ea with ea _ ea2
        subst ea; subst ea2
        obtain ⟨bs, os, cs, es, lbs, hcs⟩ := H1.out.cells (by omega)
        injection es with es _ es2
        subst es; subst es2
        have hcx := Lv_cells' hca (show i < rl.length by rw [HLR.out]; omega)
        have hcy := Lv_cells' hcs (show i < l.length by rw [HL.out]; omega)
        rw [HKP.out i (fun x hx => by
          have h := List.any_eq_false.1 HN.out x hx
          simpa using h)] at hcx
        generalize l.getD i Sy0 = y at hcx hcy
        obtain ⟨o, kk2, s, c⟩ := y
        have SX := Lib.hid (S8.out.trans S10.out)
        have y0 : w10.cell? ⟨ba, oa + i * 4, none⟩ = some (.int .i64 o) := (S10.out.cell lba _).trans (hcx 0 _ rfl)
        have y1 : w10.cell? ⟨ba, oa + i * 4 + 1, none⟩ = some (.int .i64 kk2) := (S10.out.cell lba _).trans (hcx 1 _ rfl)
        have y2 : w10.cell? ⟨ba, oa + i * 4 + 2, none⟩ = some (.int .i64 s) := (S10.out.cell lba _).trans (hcx 2 _ rfl)
        have y3 : w10.cell? ⟨ba, oa + i * 4 + 3, none⟩ = some (.int .i64 c) := (S10.out.cell lba _).trans (hcx 3 _ rfl)
        have z0 : w10.cell? ⟨bs, os + i * 4, none⟩ = some (.int .i64 o) := (SX.out.cell lbs _).trans (hcy 0 _ rfl)
        have z1 : w10.cell? ⟨bs, os + i * 4 + 1, none⟩ = some (.int .i64 kk2) := (SX.out.cell lbs _).trans (hcy 1 _ rfl)
        have z2 : w10.cell? ⟨bs, os + i * 4 + 2, none⟩ = some (.int .i64 s) := (SX.out.cell lbs _).trans (hcy 2 _ rfl)
        have z3 : w10.cell? ⟨bs, os + i * 4 + 3, none⟩ = some (.int .i64 c) := (SX.out.cell lbs _).trans (hcy 3 _ rfl)
        clear hcx hcy hca hcs
        go_wp2_with fail
        go_quiet (fail)
        have SG3 := Lib.hid (S10.out.drewN nq)
        generalize w10.drewN nq = wz at SG3 ⊢
        clear i0 x0 x1 y0 y1 y2 y3 z0 z1 z2 z3
        go_wp2_with fail
        go_roundg g
        case measure => omega
        case rel => exact ⟨i + 1, by omega, by go_num, SG3⟩
set_option maxRecDepth 20000 in
set_option maxHeartbeats 4000000 in
theorem TO_II (ad : Addr) (n c1 m c0 k : Nat) (a1 a0 : Option Addr) (l : List Sy) (zs : List Int) (xs : List Stp) (u : Int) (w : World) (h1 : Sz w (.slice a1 n c1) n (Lv l)) (h0 : Sz w (.slice a0 m c0) m (ivs zs)) (h2 : Sz w (.slice (some ad) k k) k (Lt xs))
    (hl : l.length = n) (hz : zs.length = m) (hx : xs.length = k) (hn : n ≤ 40) (hm : m ≤ 40) (hk : k ≤ 40) (u0 : 0 ≤ u) (u1 : u ≤ 255) (htm : u.tmod ((k : Int) + 1) = (k : Int)) (rl r1 : List Sy) (hr : runN l zs xs = (rl, -1, 0)) (hrf : runN l zs (xs.take k) = (r1, -1, 0)) (hrs : runN r1 zs (xs.drop k) = (rl, -1, 0)) (hl1 : r1.length = n) (hlr : rl.length = n) (hkeep : ∀ i : Nat, (∀ x ∈ xs, x.m ≠ (i : Int)) → rl.getD i Sy0 = l.getD i Sy0) :
    Calls Try.prog 25 #[.agg #[.slice a1 n c1, .slice a0 m c0], .slice (some ad) k k, .int .u8 u] w fun e w' => e = .returned (.bool true) ∧ Gr w w' := by
  have C46 := Lib.hid (cl46 h1 hl (by omega))
  have C43 := Lib.hid (cl43 h0 hz (by omega))
  have C47 := Lib.hid (cl47 h2 hx (by omega))
  have hxt : (xs.take k).length = k := by rw [List.length_take]; omega
  have hxd : (xs.drop k).length = 0 := by rw [List.length_drop]; omega
  have s1 : Sz w (.slice (some ad) k k) k (Lt (xs.take k)) := sz_take h2 hx (Nat.le_refl _)
  have s2 : Sz w (.slice (some ad) 0 0) (0) (Lt (xs.drop k)) := sz_end (by omega)
  have C47a := Lib.hid (cl47 s1 hxt (by omega))
  have C47b := Lib.hid (cl47 s2 hxd (by omega))
  have R45 := Lib.hid (run45 hl hz hx (by omega) hr)
  have R45a := Lib.hid (run45 hl hz hxt (by omega) hrf)
  have R45b := Lib.hid (run45 hl1 hz hxd (by omega) hrs)
  have H1 := Lib.hid h1
  have H2 := Lib.hid h2
  have HL := Lib.hid hl
  have HX := Lib.hid hx
  have HKP := Lib.hid hkeep
  have HLR := Lib.hid hlr
  have HL1 := Lib.hid hl1
  have hkk2 : (k : Int) ≤ (k : Int) := by omega
  have ww1 : IntKind.i64.wrap ((k : Int) + 1) = (k : Int) + 1 := by rw [IntKind.wrap_i64]; omega
  clear h1 h0 h2 hr hrf hrs hl hz hx hxt hxd s1 s2 hkeep hlr hl1
  have d1 : decide ((40 : Int) < (n : Int)) = false := decide_eq_false (by omega)
  have d2 : decide ((40 : Int) < (m : Int)) = false := decide_eq_false (by omega)
  have d3 : decide ((40 : Int) < (k : Int)) = false := decide_eq_false (by omega)
  go_enter Try.func25, Try.ntmps25
  go_wp2_with fail
  have g0 : Gr w (w.alloc (Obj.cells #[.slice a1 n c1, .slice a0 m c0] 36)) := Gr.alloc (Gr.refl _) _
  have bx : Bx (w.alloc (Obj.cells #[.slice a1 n c1, .slice a0 m c0] 36)) w.heap.size [.slice a1 n c1, .slice a0 m c0] := Bx.new w _ 36
  generalize w.alloc (Obj.cells #[.slice a1 n c1, .slice a0 m c0] 36) = W0 at g0 bx ⊢
  generalize w.heap.size = xb at bx ⊢
  have S0 := Lib.hid g0
  have K0 := Lib.hid bx
  clear g0 bx
  refine (awake10 _).mono ?_
  rintro e w4 ⟨rfl, hg⟩
  have S4 := Lib.hid (S0.out.trans hg)
  have K4 := Lib.hid (K0.out.gr hg)
  clear hg
  have x0 := K4.out.c 0 _ rfl
  have x1 := K4.out.c 1 _ rfl
  go_wp2_with fail
  have HJ : Hid (∀ Z, Gr w4 Z → (Z.cell? ⟨xb, 0, none⟩ = some (.slice a1 n c1) ∧ Z.cell? ⟨xb, 1, none⟩ = some (.slice a0 m c0) ∧ Hid (Gr w4 Z))) := Lib.hid (fun Z G => ⟨(K4.out.gr G).c 0 _ rfl, (K4.out.gr G).c 1 _ rfl, Lib.hid G⟩)
  have gr0 := Lib.hid (Gr.refl w4).drew
  go_region_held3 (fun Z => Z.cell? ⟨xb, 0, none⟩ = some (.slice a1 n c1) ∧ Z.cell? ⟨xb, 1, none⟩ = some (.slice a0 m c0) ∧ Hid (Gr w4 Z)) (first | exact HJ.out _ (by repeat (first | exact Gr.refl _ | exact Hid.out (by assumption) | apply Gr.drew)))
    (first
      | (go_at_call 46; refine (keepM _ HJ.out (C46.out _ (S4.out.trans (Hid.out (by assumption)))) (by assumption)).mono ?_; rintro e wa ⟨⟨va, rfl, oa⟩, ⟨qa0, qa1, qa⟩, ga⟩)
      | (go_at_call 43; refine (keepM _ HJ.out (C43.out _ (S4.out.trans (Hid.out (by assumption)))) (by assumption)).mono ?_; rintro e wb ⟨⟨vd, rfl, od⟩, ⟨qb0, qb1, qb⟩, gb⟩)
      | (go_at_call 47; refine (keepM _ HJ.out (C47.out _ (S4.out.trans (Hid.out (by assumption)))) (by assumption)).mono ?_; rintro e wc ⟨⟨ve, rfl, oe⟩, ⟨qc0, qc1, qc⟩, gc⟩)
      | (go_at_call 45; refine (keepM _ HJ.out (R45.out va vd ve _ (oa.gr (gb.trans gc)).ow.sz (od.gr gc).sz oe.sz) (by assumption)).mono ?_; rintro e w5 ⟨⟨vf4, rfl, of4, nf4⟩, ⟨qd0, qd1, qd⟩, gd⟩))
  have S5 := Lib.hid (S4.out.trans qd.out)
  have K5 := Lib.hid (K4.out.gr qd.out)
  have OF4 := Lib.hid of4
  have GQ := Lib.hid qd.out
  clear x0 x1 HJ gr0 oa ga qa0 qa1 qa od gb qb0 qb1 qb oe gc qc0 qc1 qc of4 gd qd0 qd1 qd K4
  clear nf4
  obtain ⟨al, cl, rfl⟩ : ∃ a c, vf4 = .slice a n c := by
    have := OF4.out.sz.slice
    rwa [HLR.out] at this
  have Ol : Hid (Sz w5 (.slice al n cl) n (Lv rl)) := Lib.hid (by have := OF4.out.sz; rwa [HLR.out] at this)
  clear OF4
  have x0 := K5.out.c 0 _ rfl
  have x1 := K5.out.c 1 _ rfl
  clear GQ
  go_wp2_with fail
  have HJ : Hid (∀ Z, Gr w5 Z → (Z.cell? ⟨xb, 0, none⟩ = some (.slice a1 n c1) ∧ Z.cell? ⟨xb, 1, none⟩ = some (.slice a0 m c0) ∧ Hid (Gr w5 Z))) := Lib.hid (fun Z G => ⟨(K5.out.gr G).c 0 _ rfl, (K5.out.gr G).c 1 _ rfl, Lib.hid G⟩)
  have gr0 := Lib.hid (Gr.refl w5).drew
  go_region_held3 (fun Z => Z.cell? ⟨xb, 0, none⟩ = some (.slice a1 n c1) ∧ Z.cell? ⟨xb, 1, none⟩ = some (.slice a0 m c0) ∧ Hid (Gr w5 Z)) (first | exact HJ.out _ (by repeat (first | exact Gr.refl _ | exact Hid.out (by assumption) | apply Gr.drew)))
    (first
      | (go_at_call 46; refine (keepM _ HJ.out (C46.out _ (S5.out.trans (Hid.out (by assumption)))) (by assumption)).mono ?_; rintro e wa ⟨⟨va, rfl, oa⟩, ⟨qa0, qa1, qa⟩, ga⟩)
      | (go_at_call 43; refine (keepM _ HJ.out (C43.out _ (S5.out.trans (Hid.out (by assumption)))) (by assumption)).mono ?_; rintro e wb ⟨⟨vd, rfl, od⟩, ⟨qb0, qb1, qb⟩, gb⟩)
      | (go_at_call 47; refine (keepM _ HJ.out (C47a.out _ (S5.out.trans (Hid.out (by assumption)))) (by assumption)).mono ?_; rintro e wc ⟨⟨ve, rfl, oe⟩, ⟨qc0, qc1, qc⟩, gc⟩)
      | (go_at_call 45; refine (keepM _ HJ.out (R45a.out va vd ve _ (oa.gr (gb.trans gc)).ow.sz (od.gr gc).sz oe.sz) (by assumption)).mono ?_; rintro e w6 ⟨⟨vf5, rfl, of5, nf5⟩, ⟨qd0, qd1, qd⟩, gd⟩))
  have S6 := Lib.hid (S5.out.trans qd.out)
  have K6 := Lib.hid (K5.out.gr qd.out)
  have OF5 := Lib.hid of5
  have GQ := Lib.hid qd.out
  clear x0 x1 HJ gr0 oa ga qa0 qa1 qa od gb qb0 qb1 qb oe gc qc0 qc1 qc of5 gd qd0 qd1 qd K5
  clear nf5
  obtain ⟨af, cf, rfl⟩ : ∃ a c, vf5 = .slice a n c := by
    have := OF5.out.sz.slice
    rwa [HL1.out] at this
  have Of : Hid (Sz w6 (.slice af n cf) n (Lv r1)) := Lib.hid (by have := OF5.out.sz; rwa [HL1.out] at this)
  clear OF5
  have Ol6 := Lib.hid (Ol.out.gr GQ.out)
  have C46b := Lib.hid (cl46 Of.out HL1.out (by omega))
  have x0 := K6.out.c 0 _ rfl
  have x1 := K6.out.c 1 _ rfl
  clear GQ Ol
  go_wp2_with fail
  have HJ : Hid (∀ Z, Gr w6 Z → (Z.cell? ⟨xb, 0, none⟩ = some (.slice a1 n c1) ∧ Z.cell? ⟨xb, 1, none⟩ = some (.slice a0 m c0) ∧ Hid (Gr w6 Z))) := Lib.hid (fun Z G => ⟨(K6.out.gr G).c 0 _ rfl, (K6.out.gr G).c 1 _ rfl, Lib.hid G⟩)
  have gr0 := Lib.hid (Gr.refl w6).drew
  go_region_held3 (fun Z => Z.cell? ⟨xb, 0, none⟩ = some (.slice a1 n c1) ∧ Z.cell? ⟨xb, 1, none⟩ = some (.slice a0 m c0) ∧ Hid (Gr w6 Z)) (first | exact HJ.out _ (by repeat (first | exact Gr.refl _ | exact Hid.out (by assumption) | apply Gr.drew)))
    (first
      | (go_at_call 46; refine (keepM _ HJ.out (C46b.out _ (Hid.out (by assumption))) (by assumption)).mono ?_; rintro e wa ⟨⟨va, rfl, oa⟩, ⟨qa0, qa1, qa⟩, ga⟩)
      | (go_at_call 43; refine (keepM _ HJ.out (C43.out _ (S6.out.trans (Hid.out (by assumption)))) (by assumption)).mono ?_; rintro e wb ⟨⟨vd, rfl, od⟩, ⟨qb0, qb1, qb⟩, gb⟩)
      | (go_at_call 47; refine (keepM _ HJ.out (C47b.out _ (S6.out.trans (Hid.out (by assumption)))) (by assumption)).mono ?_; rintro e wc ⟨⟨ve, rfl, oe⟩, ⟨qc0, qc1, qc⟩, gc⟩)
      | (go_at_call 45; refine (keepM _ HJ.out (R45b.out va vd ve _ (oa.gr (gb.trans gc)).ow.sz (od.gr gc).sz oe.sz) (by assumption)).mono ?_; rintro e w7 ⟨⟨vf6, rfl, of6, nf6⟩, ⟨qd0, qd1, qd⟩, gd⟩))
  have S7 := Lib.hid (S6.out.trans qd.out)
  have K7 := Lib.hid (K6.out.gr qd.out)
  have OF6 := Lib.hid of6
  have GQ := Lib.hid qd.out
  clear x0 x1 HJ gr0 oa ga qa0 qa1 qa od gb qb0 qb1 qb oe gc qc0 qc1 qc of6 gd qd0 qd1 qd K6
  clear nf6
  obtain ⟨aq, cq, rfl⟩ : ∃ a c, vf6 = .slice a n c := by
    have := OF6.out.sz.slice
    rwa [HLR.out] at this
  have Oq : Hid (Sz w7 (.slice aq n cq) n (Lv rl)) := Lib.hid (by have := OF6.out.sz; rwa [HLR.out] at this)
  clear OF6
  have Ol7 := Lib.hid (Ol6.out.gr GQ.out)
  have x0 := K7.out.c 0 _ rfl
  have x1 := K7.out.c 1 _ rfl
  clear GQ Ol6
  go_wp2_with fail
  refine (Eq89v _ _ n rl _ Oq.out Ol7.out HLR.out (by omega)).mono ?_
  rintro e w8 ⟨rfl, hg⟩
  have S8 := Lib.hid (S7.out.trans hg)
  have K8 := Lib.hid (K7.out.gr hg)
  have Ol8 := Lib.hid (Ol7.out.gr hg)
  clear hg x0 x1 Oq Ol7 Of C46b C46 C43 C47 C47a C47b R45 R45a R45b
  have x0 := K8.out.c 0 _ rfl
  have x1 := K8.out.c 1 _ rfl
  go_wp2_with fail
  clear x0 x1
  go_loopg [126] n (fun g s wy => ∃ i : Nat, i + g = n ∧ s = .int .i64 (i : Int) ∧ Hid (Gr w8 wy))
  case atStart => exact ⟨0, by omega, rfl, Lib.hid (Gr.refl _)⟩
  case round =>
    obtain ⟨i, hig, rfl, SG⟩ := hrel
    cases gk with
    | zero =>
      have e3 : decide ((i : Int) < (n : Int)) = false := decide_eq_false (by omega)
      have e4 : decide (i < n) = false := decide_eq_false (by omega)
      go_wp2_with fail
      go_ret
      exact ⟨rfl, S8.out.trans SG.out⟩
    | succ g =>
      have e3 : decide ((i : Int) < (n : Int)) = true := decide_eq_true (by omega)
      have e4 : decide (i < n) = true := decide_eq_true (by omega)
      have hi1 : (i : Int) < (n : Int) := by omega
      go_wp2_with fail
      have gA : Gr wr (wr.alloc (Obj.cells #[.int .i64 (i : Int)] 3)) := Gr.alloc (Gr.refl _) _
      have bA : Bx (wr.alloc (Obj.cells #[.int .i64 (i : Int)] 3)) wr.heap.size [.int .i64 (i : Int)] := Bx.new wr _ 3
      generalize wr.alloc (Obj.cells #[.int .i64 (i : Int)] 3) = w9 at gA bA ⊢
      generalize wr.heap.size = ib at bA ⊢
      have S9 := Lib.hid (SG.out.trans gA)
      have hcf := CF90 ib i _ k xs w9 (H2.out.gr (S8.out.trans S9.out)) HX.out (by omega) (bA.c 0 _ rfl) bA.lt
      have BA := Lib.hid bA
      obtain ⟨nb, HN⟩ : ∃ nb, Hid ((xs.any fun x => x.m == (i : Int)) = nb) := ⟨_, Lib.hid rfl⟩
      rw [HN.out] at hcf
      have HCF := Lib.hid hcf
      clear gA bA hcf
      refine HCF.out.mono ?_
      rintro e w10 ⟨rfl, hg⟩
      have S10 := Lib.hid (S9.out.trans hg)
      have BA2 := Lib.hid (BA.out.gr hg)
      clear hg HCF
      have i0 := BA2.out.c 0 _ rfl
      have x0 := (K8.out.gr S10.out).c 0 _ rfl
      have x1 := (K8.out.gr S10.out).c 1 _ rfl
      cases nb with
      | true =>
        go_wp2_with fail
        go_quiet (fail)
        have SG3 := Lib.hid (S10.out.drewN nq)
        generalize w10.drewN nq = wz at SG3 ⊢
        clear i0 x0 x1
        go_wp2_with fail
        go_roundg g
        case measure => omega
        case rel => exact ⟨i + 1, by omega, by go_num, SG3⟩
      | false =>
        obtain ⟨ba, oa, ca, ea, lba, hca⟩ := Ol8.out.cells (by omega)
        injection ea with ea _ ea2
        subst ea; subst ea2
        obtain ⟨bs, os, cs, es, lbs, hcs⟩ := H1.out.cells (by omega)
        injection es with es _ es2
        subst es; subst es2
        have hcx := Lv_cells' hca (show i < rl.length by rw [HLR.out]; omega)
        have hcy := Lv_cells' hcs (show i < l.length by rw [HL.out]; omega)
        rw [HKP.out i (fun x hx => by
          have h := List.any_eq_false.1 HN.out x hx
          simpa using h)] at hcx
        generalize l.getD i Sy0 = y at hcx hcy
        obtain ⟨o, kk2, s, c⟩ := y
        have SX := Lib.hid (S8.out.trans S10.out)
        have y0 : w10.cell? ⟨ba, oa + i * 4, none⟩ = some (.int .i64 o) := (S10.out.cell lba _).trans (hcx 0 _ rfl)
        have y1 : w10.cell? ⟨ba, oa + i * 4 + 1, none⟩ = some (.int .i64 kk2) := (S10.out.cell lba _).trans (hcx 1 _ rfl)
        have y2 : w10.cell? ⟨ba, oa + i * 4 + 2, none⟩ = some (.int .i64 s) := (S10.out.cell lba _).trans (hcx 2 _ rfl)
        have y3 : w10.cell? ⟨ba, oa + i * 4 + 3, none⟩ = some (.int .i64 c) := (S10.out.cell lba _).trans (hcx 3 _ rfl)
        have z0 : w10.cell? ⟨bs, os + i * 4, none⟩ = some (.int .i64 o) := (SX.out.cell lbs _).trans (hcy 0 _ rfl)
        have z1 : w10.cell? ⟨bs, os + i * 4 + 1, none⟩ = some (.int .i64 kk2) := (SX.out.cell lbs _).trans (hcy 1 _ rfl)
        have z2 : w10.cell? ⟨bs, os + i * 4 + 2, none⟩ = some (.int .i64 s) := (SX.out.cell lbs _).trans (hcy 2 _ rfl)
        have z3 : w10.cell? ⟨bs, os + i * 4 + 3, none⟩ = some (.int .i64 c) := (SX.out.cell lbs _).trans (hcy 3 _ rfl)
        clear hcx hcy hca hcs
        go_wp2_with fail
        go_quiet (fail)
        have SG3 := Lib.hid (S10.out.drewN nq)
        generalize w10.drewN nq = wz at SG3 ⊢
        clear i0 x0 x1 y0 y1 y2 y3 z0 z1 z2 z3
        go_wp2_with fail
        go_roundg g
        case measure => omega
        case rel => exact ⟨i + 1, by omega, by go_num, SG3⟩
set_option maxRecDepth 20000 in
set_option maxHeartbeats 4000000 in
theorem TO_III (n c1 m c0 c2 : Nat) (a1 a0 : Option Addr) (l : List Sy) (zs : List Int) (xs : List Stp) (u : Int) (w : World) (h1 : Sz w (.slice a1 n c1) n (Lv l)) (h0 : Sz w (.slice a0 m c0) m (ivs zs)) (h2 : Sz w (.slice (none) 0 c2) 0 (Lt xs))
    (hl : l.length = n) (hz : zs.length = m) (hx : xs.length = 0) (hn : n ≤ 40) (hm : m ≤ 40) (u0 : 0 ≤ u) (u1 : u ≤ 255)  (rl r1 : List Sy) (hr : runN l zs xs = (rl, -1, 0)) (hrf : runN l zs (xs.take 0) = (r1, -1, 0)) (hrs : runN r1 zs (xs.drop 0) = (rl, -1, 0)) (hl1 : r1.length = n) (hlr : rl.length = n) (hkeep : ∀ i : Nat, (∀ x ∈ xs, x.m ≠ (i : Int)) → rl.getD i Sy0 = l.getD i Sy0) :
    Calls Try.prog 25 #[.agg #[.slice a1 n c1, .slice a0 m c0], .slice (none) 0 c2, .int .u8 u] w fun e w' => e = .returned (.bool true) ∧ Gr w w' := by
  have C46 := Lib.hid (cl46 h1 hl (by omega))
  have C43 := Lib.hid (cl43 h0 hz (by omega))
  have C47 := Lib.hid (cl47 h2 hx (by omega))
  have hxt : (xs.take 0).length = 0 := by rw [List.length_take]; omega
  have hxd : (xs.drop 0).length = 0 := by rw [List.length_drop]; omega
  have s1 : Sz w (.slice none 0 c2) 0 (Lt (xs.take 0)) := sz_take h2 hx (Nat.le_refl _)
  have s2 : Sz w (.slice none 0 c2) (0) (Lt (xs.drop 0)) := sz_end (by omega)
  have C47a := Lib.hid (cl47 s1 hxt (by omega))
  have C47b := Lib.hid (cl47 s2 hxd (by omega))
  have R45 := Lib.hid (run45 hl hz hx (by omega) hr)
  have R45a := Lib.hid (run45 hl hz hxt (by omega) hrf)
  have R45b := Lib.hid (run45 hl1 hz hxd (by omega) hrs)
  have H1 := Lib.hid h1
  have H2 := Lib.hid h2
  have HL := Lib.hid hl
  have HX := Lib.hid hx
  have HKP := Lib.hid hkeep
  have HLR := Lib.hid hlr
  have HL1 := Lib.hid hl1
  clear h1 h0 h2 hr hrf hrs hl hz hx hxt hxd s1 s2 hkeep hlr hl1
  have d1 : decide ((40 : Int) < (n : Int)) = false := decide_eq_false (by omega)
  have d2 : decide ((40 : Int) < (m : Int)) = false := decide_eq_false (by omega)
  go_enter Try.func25, Try.ntmps25
  go_wp2_with fail
  have g0 : Gr w (w.alloc (Obj.cells #[.slice a1 n c1, .slice a0 m c0] 36)) := Gr.alloc (Gr.refl _) _
  have bx : Bx (w.alloc (Obj.cells #[.slice a1 n c1, .slice a0 m c0] 36)) w.heap.size [.slice a1 n c1, .slice a0 m c0] := Bx.new w _ 36
  generalize w.alloc (Obj.cells #[.slice a1 n c1, .slice a0 m c0] 36) = W0 at g0 bx ⊢
  generalize w.heap.size = xb at bx ⊢
  have S0 := Lib.hid g0
  have K0 := Lib.hid bx
  clear g0 bx
  refine (awake10 _).mono ?_
  rintro e w4 ⟨rfl, hg⟩
  have S4 := Lib.hid (S0.out.trans hg)
  have K4 := Lib.hid (K0.out.gr hg)
  clear hg
  have x0 := K4.out.c 0 _ rfl
  have x1 := K4.out.c 1 _ rfl
  go_wp2_with fail
  have HJ : Hid (∀ Z, Gr w4 Z → (Z.cell? ⟨xb, 0, none⟩ = some (.slice a1 n c1) ∧ Z.cell? ⟨xb, 1, none⟩ = some (.slice a0 m c0) ∧ Hid (Gr w4 Z))) := Lib.hid (fun Z G => ⟨(K4.out.gr G).c 0 _ rfl, (K4.out.gr G).c 1 _ rfl, Lib.hid G⟩)
  have gr0 := Lib.hid (Gr.refl w4).drew
  go_region_held3 (fun Z => Z.cell? ⟨xb, 0, none⟩ = some (.slice a1 n c1) ∧ Z.cell? ⟨xb, 1, none⟩ = some (.slice a0 m c0) ∧ Hid (Gr w4 Z)) (first | exact HJ.out _ (by repeat (first | exact Gr.refl _ | exact Hid.out (by assumption) | apply Gr.drew)))
    (first
      | (go_at_call 46; refine (keepM _ HJ.out (C46.out _ (S4.out.trans (Hid.out (by assumption)))) (by assumption)).mono ?_; rintro e wa ⟨⟨va, rfl, oa⟩, ⟨qa0, qa1, qa⟩, ga⟩)
      | (go_at_call 43; refine (keepM _ HJ.out (C43.out _ (S4.out.trans (Hid.out (by assumption)))) (by assumption)).mono ?_; rintro e wb ⟨⟨vd, rfl, od⟩, ⟨qb0, qb1, qb⟩, gb⟩)
      | (go_at_call 47; refine (keepM _ HJ.out (C47.out _ (S4.out.trans (Hid.out (by assumption)))) (by assumption)).mono ?_; rintro e wc ⟨⟨ve, rfl, oe⟩, ⟨qc0, qc1, qc⟩, gc⟩)
      | (go_at_call 45; refine (keepM _ HJ.out (R45.out va vd ve _ (oa.gr (gb.trans gc)).ow.sz (od.gr gc).sz oe.sz) (by assumption)).mono ?_; rintro e w5 ⟨⟨vf4, rfl, of4, nf4⟩, ⟨qd0, qd1, qd⟩, gd⟩))
  have S5 := Lib.hid (S4.out.trans qd.out)
  have K5 := Lib.hid (K4.out.gr qd.out)
  have OF4 := Lib.hid of4
  have GQ := Lib.hid qd.out
  clear x0 x1 HJ gr0 oa ga qa0 qa1 qa od gb qb0 qb1 qb oe gc qc0 qc1 qc of4 gd qd0 qd1 qd K4
  clear nf4
  obtain ⟨al, cl, rfl⟩ : ∃ a c, vf4 = .slice a n c := by
    have := OF4.out.sz.slice
    rwa [HLR.out] at this
  have Ol : Hid (Sz w5 (.slice al n cl) n (Lv rl)) := Lib.hid (by have := OF4.out.sz; rwa [HLR.out] at this)
  clear OF4
  have x0 := K5.out.c 0 _ rfl
  have x1 := K5.out.c 1 _ rfl
  clear GQ
  go_wp2_with fail
  have HJ : Hid (∀ Z, Gr w5 Z → (Z.cell? ⟨xb, 0, none⟩ = some (.slice a1 n c1) ∧ Z.cell? ⟨xb, 1, none⟩ = some (.slice a0 m c0) ∧ Hid (Gr w5 Z))) := Lib.hid (fun Z G => ⟨(K5.out.gr G).c 0 _ rfl, (K5.out.gr G).c 1 _ rfl, Lib.hid G⟩)
  have gr0 := Lib.hid (Gr.refl w5).drew
  go_region_held3 (fun Z => Z.cell? ⟨xb, 0, none⟩ = some (.slice a1 n c1) ∧ Z.cell? ⟨xb, 1, none⟩ = some (.slice a0 m c0) ∧ Hid (Gr w5 Z)) (first | exact HJ.out _ (by repeat (first | exact Gr.refl _ | exact Hid.out (by assumption) | apply Gr.drew)))
    (first
      | (go_at_call 46; refine (keepM _ HJ.out (C46.out _ (S5.out.trans (Hid.out (by assumption)))) (by assumption)).mono ?_; rintro e wa ⟨⟨va, rfl, oa⟩, ⟨qa0, qa1, qa⟩, ga⟩)
      | (go_at_call 43; refine (keepM _ HJ.out (C43.out _ (S5.out.trans (Hid.out (by assumption)))) (by assumption)).mono ?_; rintro e wb ⟨⟨vd, rfl, od⟩, ⟨qb0, qb1, qb⟩, gb⟩)
      | (go_at_call 47; refine (keepM _ HJ.out (C47a.out _ (S5.out.trans (Hid.out (by assumption)))) (by assumption)).mono ?_; rintro e wc ⟨⟨ve, rfl, oe⟩, ⟨qc0, qc1, qc⟩, gc⟩)
      | (go_at_call 45; refine (keepM _ HJ.out (R45a.out va vd ve _ (oa.gr (gb.trans gc)).ow.sz (od.gr gc).sz oe.sz) (by assumption)).mono ?_; rintro e w6 ⟨⟨vf5, rfl, of5, nf5⟩, ⟨qd0, qd1, qd⟩, gd⟩))
  have S6 := Lib.hid (S5.out.trans qd.out)
  have K6 := Lib.hid (K5.out.gr qd.out)
  have OF5 := Lib.hid of5
  have GQ := Lib.hid qd.out
  clear x0 x1 HJ gr0 oa ga qa0 qa1 qa od gb qb0 qb1 qb oe gc qc0 qc1 qc of5 gd qd0 qd1 qd K5
  clear nf5
  obtain ⟨af, cf, rfl⟩ : ∃ a c, vf5 = .slice a n c := by
    have := OF5.out.sz.slice
    rwa [HL1.out] at this
  have Of : Hid (Sz w6 (.slice af n cf) n (Lv r1)) := Lib.hid (by have := OF5.out.sz; rwa [HL1.out] at this)
  clear OF5
  have Ol6 := Lib.hid (Ol.out.gr GQ.out)
  have C46b := Lib.hid (cl46 Of.out HL1.out (by omega))
  have x0 := K6.out.c 0 _ rfl
  have x1 := K6.out.c 1 _ rfl
  clear GQ Ol
  go_wp2_with fail
  have HJ : Hid (∀ Z, Gr w6 Z → (Z.cell? ⟨xb, 0, none⟩ = some (.slice a1 n c1) ∧ Z.cell? ⟨xb, 1, none⟩ = some (.slice a0 m c0) ∧ Hid (Gr w6 Z))) := Lib.hid (fun Z G => ⟨(K6.out.gr G).c 0 _ rfl, (K6.out.gr G).c 1 _ rfl, Lib.hid G⟩)
  have gr0 := Lib.hid (Gr.refl w6).drew
  go_region_held3 (fun Z => Z.cell? ⟨xb, 0, none⟩ = some (.slice a1 n c1) ∧ Z.cell? ⟨xb, 1, none⟩ = some (.slice a0 m c0) ∧ Hid (Gr w6 Z)) (first | exact HJ.out _ (by repeat (first | exact Gr.refl _ | exact Hid.out (by assumption) | apply Gr.drew)))
    (first
      | (go_at_call 46; refine (keepM _ HJ.out (C46b.out _ (Hid.out (by assumption))) (by assumption)).mono ?_; rintro e wa ⟨⟨va, rfl, oa⟩, ⟨qa0, qa1, qa⟩, ga⟩)
      | (go_at_call 43; refine (keepM _ HJ.out (C43.out _ (S6.out.trans (Hid.out (by assumption)))) (by assumption)).mono ?_; rintro e wb ⟨⟨vd, rfl, od⟩, ⟨qb0, qb1, qb⟩, gb⟩)
      | (go_at_call 47; refine (keepM _ HJ.out (C47b.out _ (S6.out.trans (Hid.out (by assumption)))) (by assumption)).mono ?_; rintro e wc ⟨⟨ve, rfl, oe⟩, ⟨qc0, qc1, qc⟩, gc⟩)
      | (go_at_call 45; refine (keepM _ HJ.out (R45b.out va vd ve _ (oa.gr (gb.trans gc)).ow.sz (od.gr gc).sz oe.sz) (by assumption)).mono ?_; rintro e w7 ⟨⟨vf6, rfl, of6, nf6⟩, ⟨qd0, qd1, qd⟩, gd⟩))
  have S7 := Lib.hid (S6.out.trans qd.out)
  have K7 := Lib.hid (K6.out.gr qd.out)
  have OF6 := Lib.hid of6
  have GQ := Lib.hid qd.out
  clear x0 x1 HJ gr0 oa ga qa0 qa1 qa od gb qb0 qb1 qb oe gc qc0 qc1 qc of6 gd qd0 qd1 qd K6
  clear nf6
  obtain ⟨aq, cq, rfl⟩ : ∃ a c, vf6 = .slice a n c := by
    have := OF6.out.sz.slice
    rwa [HLR.out] at this
  have Oq : Hid (Sz w7 (.slice aq n cq) n (Lv rl)) := Lib.hid (by have := OF6.out.sz; rwa [HLR.out] at this)
  clear OF6
  have Ol7 := Lib.hid (Ol6.out.gr GQ.out)
  have x0 := K7.out.c 0 _ rfl
  have x1 := K7.out.c 1 _ rfl
  clear GQ Ol6
  go_wp2_with fail
  refine (Eq89v _ _ n rl _ Oq.out Ol7.out HLR.out (by omega)).mono ?_
  rintro e w8 ⟨rfl, hg⟩
  have S8 := Lib.hid (S7.out.trans hg)
  have K8 := Lib.hid (K7.out.gr hg)
  have Ol8 := Lib.hid (Ol7.out.gr hg)
  clear hg x0 x1 Oq Ol7 Of C46b C46 C43 C47 C47a C47b R45 R45a R45b
  have x0 := K8.out.c 0 _ rfl
  have x1 := K8.out.c 1 _ rfl
  go_wp2_with fail
  clear x0 x1
  go_loopg [126] n (fun g s wy => ∃ i : Nat, i + g = n ∧ s = .int .i64 (i : Int) ∧ Hid (Gr w8 wy))
  case atStart => exact ⟨0, by omega, rfl, Lib.hid (Gr.refl _)⟩
  case round =>
    obtain ⟨i, hig, rfl, SG⟩ := hrel
    cases gk with
    | zero =>
      have e3 : decide ((i : Int) < (n : Int)) = false := decide_eq_false (by omega)
      have e4 : decide (i < n) = false := decide_eq_false (by omega)
      go_wp2_with fail
      go_ret
      exact ⟨rfl, S8.out.trans SG.out⟩
    | succ g =>
      have e3 : decide ((i : Int) < (n : Int)) = true := decide_eq_true (by omega)
      have e4 : decide (i < n) = true := decide_eq_true (by omega)
      have hi1 : (i : Int) < (n : Int) := by omega
      go_wp2_with fail
      have gA : Gr wr (wr.alloc (Obj.cells #[.int .i64 (i : Int)] 3)) := Gr.alloc (Gr.refl _) _
      have bA : Bx (wr.alloc (Obj.cells #[.int .i64 (i : Int)] 3)) wr.heap.size [.int .i64 (i : Int)] := Bx.new wr _ 3
      generalize wr.alloc (Obj.cells #[.int .i64 (i : Int)] 3) = w9 at gA bA ⊢
      generalize wr.heap.size = ib at bA ⊢
      have S9 := Lib.hid (SG.out.trans gA)
      have hcf := CF90 ib i _ 0 xs w9 (H2.out.gr (S8.out.trans S9.out)) HX.out (by omega) (bA.c 0 _ rfl) bA.lt
      have BA := Lib.hid bA
      obtain ⟨nb, HN⟩ : ∃ nb, Hid ((xs.any fun x => x.m == (i : Int)) = nb) := ⟨_, Lib.hid rfl⟩
      rw [HN.out] at hcf
      have HCF := Lib.hid hcf
      clear gA bA hcf
      refine HCF.out.mono ?_
      rintro e w10 ⟨rfl, hg⟩
      have S10 := Lib.hid (S9.out.trans hg)
      have BA2 := Lib.hid (BA.out.gr hg)
      clear hg HCF
      have i0 := BA2.out.c 0 _ rfl
      have x0 := (K8.out.gr S10.out).c 0 _ rfl
      have x1 := (K8.out.gr S10.out).c 1 _ rfl
      cases nb with
      | true =>
        go_wp2_with fail
        go_quiet (fail)
        have SG3 := Lib.hid (S10.out.drewN nq)
        generalize w10.drewN nq = wz at SG3 ⊢
        clear i0 x0 x1
        go_wp2_with fail
        go_roundg g
        case measure => omega
        case rel => exact ⟨i + 1, by omega, by go_num, SG3⟩
      | false =>
        obtain ⟨ba, oa, ca, ea, lba, hca⟩ := Ol8.out.cells (by omega)
        injection ea with ea _ ea2
        subst ea; subst ea2
        obtain ⟨bs, os, cs, es, lbs, hcs⟩ := H1.out.cells (by omega)
        injection es with es _ es2
        subst es; subst es2
        have hcx := Lv_cells' hca (show i < rl.length by rw [HLR.out]; omega)
        have hcy := Lv_cells' hcs (show i < l.length by rw [HL.out]; omega)
        rw [HKP.out i (fun x hx => by
          have h := List.any_eq_false.1 HN.out x hx
          simpa using h)] at hcx
        generalize l.getD i Sy0 = y at hcx hcy
        obtain ⟨o, kk2, s, c⟩ := y
        have SX := Lib.hid (S8.out.trans S10.out)
        have y0 : w10.cell? ⟨ba, oa + i * 4, none⟩ = some (.int .i64 o) := (S10.out.cell lba _).trans (hcx 0 _ rfl)
        have y1 : w10.cell? ⟨ba, oa + i * 4 + 1, none⟩ = some (.int .i64 kk2) := (S10.out.cell lba _).trans (hcx 1 _ rfl)
        have y2 : w10.cell? ⟨ba, oa + i * 4 + 2, none⟩ = some (.int .i64 s) := (S10.out.cell lba _).trans (hcx 2 _ rfl)
        have y3 : w10.cell? ⟨ba, oa + i * 4 + 3, none⟩ = some (.int .i64 c) := (S10.out.cell lba _).trans (hcx 3 _ rfl)
        have z0 : w10.cell? ⟨bs, os + i * 4, none⟩ = some (.int .i64 o) := (SX.out.cell lbs _).trans (hcy 0 _ rfl)
        have z1 : w10.cell? ⟨bs, os + i * 4 + 1, none⟩ = some (.int .i64 kk2) := (SX.out.cell lbs _).trans (hcy 1 _ rfl)
        have z2 : w10.cell? ⟨bs, os + i * 4 + 2, none⟩ = some (.int .i64 s) := (SX.out.cell lbs _).trans (hcy 2 _ rfl)
        have z3 : w10.cell? ⟨bs, os + i * 4 + 3, none⟩ = some (.int .i64 c) := (SX.out.cell lbs _).trans (hcy 3 _ rfl)
        clear hcx hcy hca hcs
        go_wp2_with fail
        go_quiet (fail)
        have SG3 := Lib.hid (S10.out.drewN nq)
        generalize w10.drewN nq = wz at SG3 ⊢
        clear i0 x0 x1 y0 y1 y2 y3 z0 z1 z2 z3
        go_wp2_with fail
        go_roundg g
        case measure => omega
        case rel => exact ⟨i + 1, by omega, by go_num, SG3⟩
end Go.Proofs.Ytpnigndobhbfnaa
