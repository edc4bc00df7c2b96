/- The walk of TimesyncRuns. -/
import Derived.Test.YtpnigndobhbfnaaTr
import Derived.Test.YtpnigndobhbfnaaAwake10
import Derived.Deep.RegionHeld3
namespace Go.Proofs.Ytpnigndobhbfnaa
open Go.RowKit
set_option maxRecDepth 20000 in
set_option maxHeartbeats 4000000 in
theorem TR_ok (a1 a0 a2 : Option Addr) (n c1 m c0 k c2 : Nat) (l : List Sy) (zs : List Int) (xs : List Stp) (t : Int) (w : World) (h1 : Sz w (.slice a1 n c1) n (Lv l)) (h0 : Sz w (.slice a0 m c0) m (ivs zs)) (h2 : Sz w (.slice a2 k c2) k (Lt xs))
    (hl : l.length = n) (hz : zs.length = m) (hx : xs.length = k) (hn : n ≤ 40) (hm : m ≤ 40) (hk : k ≤ 40) :
    Calls Try.prog 8 #[.agg #[.slice a1 n c1, .slice a0 m c0], .slice a2 k c2, .int .i64 t] w fun e w' => e = .returned (.bool true) ∧ Gr w w' := by
  obtain ⟨⟨rl, ri, re⟩, hr⟩ : ∃ r, runN l zs xs = r := ⟨_, rfl⟩
  obtain ⟨ds, hds⟩ : ∃ ds, (dep zs).getD [] = ds := ⟨_, rfl⟩
  obtain ⟨de, hde⟩ : ∃ de, dpE zs = de := ⟨_, rfl⟩
  obtain ⟨sn, hsn⟩ : ∃ sn, spN l t = sn := ⟨_, rfl⟩
  obtain ⟨se, hse⟩ : ∃ se, spE l t = se := ⟨_, rfl⟩
  have hds32 : ds.length ≤ 32 := by rw [← hds]; exact dep_small
  have hrl : rl.length ≤ 40 := by have := runN_len hr; omega
  have C46 := Lib.hid (cl46 h1 hl (by omega))
  have C43 := Lib.hid (cl43 h0 hz (by omega))
  have C47 := Lib.hid (cl47 h2 hx (by omega))
  have D42 := Lib.hid (dep42 hz hds hde)
  have D44 := Lib.hid (dep44 hz hds hde)
  have R45 := Lib.hid (run45 hl hz hx hk hr)
  have R48 := Lib.hid (run48 hl hz hx hk hr)
  have P49 := Lib.hid (spr49 hl hsn hse)
  have P50 := Lib.hid (spr50 hl hsn hse)
  have H1 := Lib.hid h1
  have H0 := Lib.hid h0
  have H2 := Lib.hid h2
  have d1 : decide ((40 : Int) < (n : Int)) = false := decide_eq_false (by omega)
  have d2 : decide ((40 : Int) < (m : Int)) = false := decide_eq_false (by omega)
  have d3 : decide ((40 : Int) < (k : Int)) = false := decide_eq_false (by omega)
  clear h1 h0 h2 hr hds hde hsn hse hl hz hx
  go_enter Try.func8, Try.ntmps8
  go_wp2_with fail
  have g0 : Gr w (w.alloc (Obj.cells #[.slice a1 n c1, .slice a0 m c0] 36)) := Gr.alloc (Gr.refl _) _
  have bx : Bx (w.alloc (Obj.cells #[.slice a1 n c1, .slice a0 m c0] 36)) w.heap.size [.slice a1 n c1, .slice a0 m c0] := Bx.new w _ 36
  generalize w.alloc (Obj.cells #[.slice a1 n c1, .slice a0 m c0] 36) = W0 at g0 bx ⊢
  generalize w.heap.size = xb at bx ⊢
  have S0 := Lib.hid g0
  have K0 := Lib.hid bx
  clear g0 bx
  refine (awake10 _).mono ?_
  rintro e w1 ⟨rfl, hg⟩
  have S1 := Lib.hid (S0.out.trans hg)
  have K1 := Lib.hid (K0.out.gr hg)
  clear hg
  have x0 := K1.out.c 0 _ rfl
  have x1 := K1.out.c 1 _ rfl
  go_wp2_with fail
  clear x0 x1
  refine (C43.out _ S1.out).mono ?_
  rintro e w2 ⟨⟨va, rfl, oa⟩, hg⟩
  have S2 := Lib.hid (S1.out.trans hg)
  have K2 := Lib.hid (K1.out.gr hg)
  have OA := Lib.hid oa
  clear hg oa
  have x0 := K2.out.c 0 _ rfl
  have x1 := K2.out.c 1 _ rfl
  go_wp2_with fail
  clear x0 x1
  refine (D42.out va _ OA.out.sz).mono ?_
  rintro e w3 ⟨⟨vb, rfl, ob⟩, hg⟩
  have S3 := Lib.hid (S2.out.trans hg)
  have K3 := Lib.hid (K2.out.gr hg)
  have OB := Lib.hid ob
  clear hg ob OA
  have x0 := K3.out.c 0 _ rfl
  have x1 := K3.out.c 1 _ rfl
  go_wp2_with fail
  clear x0 x1
  refine (D44.out _ _ (H0.out.gr S3.out)).mono ?_
  rintro e w4 ⟨⟨vc, rfl, oc⟩, hg⟩
  have S4 := Lib.hid (S3.out.trans hg)
  have K4 := Lib.hid (K3.out.gr hg)
  have OB4 := Lib.hid (OB.out.gr hg)
  have OC := Lib.hid oc
  clear hg oc
  have x0 := K4.out.c 0 _ rfl
  have x1 := K4.out.c 1 _ rfl
  go_wp2_with fail
  have HJ : Hid (∀ Z, Gr w4 Z → (Z.cell? ⟨xb, 0, none⟩ = some (.slice a1 n c1) ∧ Z.cell? ⟨xb, 1, none⟩ = some (.slice a0 m c0) ∧ Hid (Gr w4 Z))) := Lib.hid (fun Z G => ⟨(K4.out.gr G).c 0 _ rfl, (K4.out.gr G).c 1 _ rfl, Lib.hid G⟩)
  have gr0 := Lib.hid (Gr.refl w4).drew
  go_region_held3 (fun Z => Z.cell? ⟨xb, 0, none⟩ = some (.slice a1 n c1) ∧ Z.cell? ⟨xb, 1, none⟩ = some (.slice a0 m c0) ∧ Hid (Gr w4 Z)) (first | exact HJ.out _ (by repeat (first | exact Gr.refl _ | exact Hid.out (by assumption) | apply Gr.drew)))
    (first
      | (go_at_call 46; refine (keepM _ HJ.out (C46.out _ (S4.out.trans (Hid.out (by assumption)))) (by assumption)).mono ?_; rintro e wa ⟨⟨va, rfl, oa⟩, ⟨qa0, qa1, qa⟩, ga⟩)
      | (go_at_call 43; refine (keepM _ HJ.out (C43.out _ (S4.out.trans (Hid.out (by assumption)))) (by assumption)).mono ?_; rintro e wb ⟨⟨vd, rfl, od⟩, ⟨qb0, qb1, qb⟩, gb⟩)
      | (go_at_call 47; refine (keepM _ HJ.out (C47.out _ (S4.out.trans (Hid.out (by assumption)))) (by assumption)).mono ?_; rintro e wc ⟨⟨ve, rfl, oe⟩, ⟨qc0, qc1, qc⟩, gc⟩)
      | (go_at_call 45; refine (keepM _ HJ.out (R45.out va vd ve _ (oa.gr (gb.trans gc)).ow.sz (od.gr gc).sz oe.sz) (by assumption)).mono ?_; rintro e wd ⟨⟨vf, rfl, of, _⟩, ⟨qd0, qd1, qd⟩, gd⟩))
  have S5 := Lib.hid (S4.out.trans qd.out)
  have K5 := Lib.hid (K4.out.gr qd.out)
  have OB5 := Lib.hid (OB4.out.gr qd.out)
  have OC5 := Lib.hid (OC.out.gr qd.out)
  have OF5 := Lib.hid of
  clear x0 x1 HJ gr0 oa ga qa0 qa1 qa od gb qb0 qb1 qb oe gc qc0 qc1 qc of gd qd0 qd1 qd OB4 OC OB K4 K3 K2 K1 K0
  have x0 := K5.out.c 0 _ rfl
  have x1 := K5.out.c 1 _ rfl
  go_wp2_with fail
  clear x0 x1
  refine (R48.out _ _ _ _ (H1.out.gr S5.out) (H0.out.gr S5.out) (H2.out.gr S5.out)).mono ?_
  rintro e w6 ⟨⟨vg, rfl, og, _⟩, hg⟩
  have S6 := Lib.hid (S5.out.trans hg)
  have K6 := Lib.hid (K5.out.gr hg)
  have OB6 := Lib.hid (OB5.out.gr hg)
  have OC6 := Lib.hid (OC5.out.gr hg)
  have OF6 := Lib.hid (OF5.out.gr hg)
  have OG6 := Lib.hid og
  clear hg og OB5 OC5 OF5
  have x0 := K6.out.c 0 _ rfl
  have x1 := K6.out.c 1 _ rfl
  go_wp2_with fail
  clear x0 x1
  refine (C46.out _ S6.out).mono ?_
  rintro e w7 ⟨⟨vh, rfl, oh⟩, hg⟩
  have S7 := Lib.hid (S6.out.trans hg)
  have K7 := Lib.hid (K6.out.gr hg)
  have G67 := Lib.hid hg
  have OH := Lib.hid oh
  clear hg oh
  have x0 := K7.out.c 0 _ rfl
  have x1 := K7.out.c 1 _ rfl
  go_wp2_with fail
  clear x0 x1
  refine (P49.out vh _ OH.out.ow.sz OH.out.roomy).mono ?_
  rintro e w8 ⟨rfl, hg⟩
  have S8 := Lib.hid (S7.out.trans hg)
  have K8 := Lib.hid (K7.out.gr hg)
  have G68 := Lib.hid (G67.out.trans hg)
  clear hg OH
  have x0 := K8.out.c 0 _ rfl
  have x1 := K8.out.c 1 _ rfl
  go_wp2_with fail
  clear x0 x1
  refine (P50.out _ _ (H1.out.gr S8.out)).mono ?_
  rintro e w9 ⟨rfl, hg⟩
  have S9 := Lib.hid (S8.out.trans hg)
  have G69 := Lib.hid (G68.out.trans hg)
  clear hg
  go_wp2_with fail
  refine (Eq51v vb vc ds.length ds _ (OB6.out.gr G69.out).sz (OC6.out.gr G69.out).sz rfl (by omega)).mono ?_
  rintro e w10 ⟨rfl, hg⟩
  have S10 := Lib.hid (S9.out.trans hg)
  have G70 := Lib.hid (G69.out.trans hg)
  clear hg
  go_wp2_with fail
  refine (Same52v vf vg rl.length rl _ (OF6.out.gr G70.out).sz (OG6.out.gr G70.out).sz rfl (by omega)).mono ?_
  rintro e w11 ⟨rfl, hg⟩
  have S11 := Lib.hid (S10.out.trans hg)
  clear hg
  go_wp2_with fail
  go_ret
  exact ⟨rfl, S11.out⟩
set_option maxRecDepth 20000 in
set_option maxHeartbeats 1000000 in
theorem TR_big (a1 a0 a2 : Option Addr) (n c1 m c0 k c2 : Nat) (t : Int) (w : World) (h : 40 < n ∨ (n ≤ 40 ∧ 40 < m) ∨ (n ≤ 40 ∧ m ≤ 40 ∧ 40 < k)) :
    Calls Try.prog 8 #[.agg #[.slice a1 n c1, .slice a0 m c0], .slice a2 k c2, .int .i64 t] w fun e w' => e = .returned (.bool true) ∧ Gr w w' := by
  rcases h with h | ⟨h, h'⟩ | ⟨h, h', h''⟩
  · have d1 : decide ((40 : Int) < (n : Int)) = true := decide_eq_true (by omega)
    go_enter Try.func8, Try.ntmps8
    go_wp2_with fail
    have g0 : Gr w (w.alloc (Obj.cells #[.slice a1 n c1, .slice a0 m c0] 36)) := Gr.alloc (Gr.refl _) _
    have bx : Bx (w.alloc (Obj.cells #[.slice a1 n c1, .slice a0 m c0] 36)) w.heap.size [.slice a1 n c1, .slice a0 m c0] := Bx.new w _ 36
    generalize w.alloc (Obj.cells #[.slice a1 n c1, .slice a0 m c0] 36) = W0 at g0 bx ⊢
    generalize w.heap.size = xb at bx ⊢
    have S0 := Lib.hid g0
    have K0 := Lib.hid bx
    clear g0 bx
    refine (awake10 _).mono ?_
    rintro e w1 ⟨rfl, hg⟩
    have S1 := Lib.hid (S0.out.trans hg)
    have K1 := Lib.hid (K0.out.gr hg)
    clear hg
    have x0 := K1.out.c 0 _ rfl
    have x1 := K1.out.c 1 _ rfl
    go_wp2_with fail
    go_ret
    exact ⟨rfl, S1.out⟩
  · have d1 : decide ((40 : Int) < (n : Int)) = false := decide_eq_false (by omega)
    have d2 : decide ((40 : Int) < (m : Int)) = true := decide_eq_true (by omega)
    go_enter Try.func8, Try.ntmps8
    go_wp2_with fail
    have g0 : Gr w (w.alloc (Obj.cells #[.slice a1 n c1, .slice a0 m c0] 36)) := Gr.alloc (Gr.refl _) _
    have bx : Bx (w.alloc (Obj.cells #[.slice a1 n c1, .slice a0 m c0] 36)) w.heap.size [.slice a1 n c1, .slice a0 m c0] := Bx.new w _ 36
    generalize w.alloc (Obj.cells #[.slice a1 n c1, .slice a0 m c0] 36) = W0 at g0 bx ⊢
    generalize w.heap.size = xb at bx ⊢
    have S0 := Lib.hid g0
    have K0 := Lib.hid bx
    clear g0 bx
    refine (awake10 _).mono ?_
    rintro e w1 ⟨rfl, hg⟩
    have S1 := Lib.hid (S0.out.trans hg)
    have K1 := Lib.hid (K0.out.gr hg)
    clear hg
    have x0 := K1.out.c 0 _ rfl
    have x1 := K1.out.c 1 _ rfl
    go_wp2_with fail
    go_ret
    exact ⟨rfl, S1.out⟩
  · have d1 : decide ((40 : Int) < (n : Int)) = false := decide_eq_false (by omega)
    have d2 : decide ((40 : Int) < (m : Int)) = false := decide_eq_false (by omega)
    have d3 : decide ((40 : Int) < (k : Int)) = true := decide_eq_true (by omega)
    go_enter Try.func8, Try.ntmps8
    go_wp2_with fail
    have g0 : Gr w (w.alloc (Obj.cells #[.slice a1 n c1, .slice a0 m c0] 36)) := Gr.alloc (Gr.refl _) _
    have bx : Bx (w.alloc (Obj.cells #[.slice a1 n c1, .slice a0 m c0] 36)) w.heap.size [.slice a1 n c1, .slice a0 m c0] := Bx.new w _ 36
    generalize w.alloc (Obj.cells #[.slice a1 n c1, .slice a0 m c0] 36) = W0 at g0 bx ⊢
    generalize w.heap.size = xb at bx ⊢
    have S0 := Lib.hid g0
    have K0 := Lib.hid bx
    clear g0 bx
    refine (awake10 _).mono ?_
    rintro e w1 ⟨rfl, hg⟩
    have S1 := Lib.hid (S0.out.trans hg)
    have K1 := Lib.hid (K0.out.gr hg)
    clear hg
    have x0 := K1.out.c 0 _ rfl
    have x1 := K1.out.c 1 _ rfl
    go_wp2_with fail
    go_ret
    exact ⟨rfl, S1.out⟩
/-- TimesyncRuns, whatever the arguments. -/
theorem TimesyncRuns_walk (v1 v0 v2 : Value) (l : List Sy) (zs : List Int) (xs : List Stp) (t : Int) (w : World) (h1 : Sz w v1 l.length (Lv l)) (h0 : Sz w v0 zs.length (ivs zs)) (h2 : Sz w v2 xs.length (Lt xs)) :
    Calls Try.prog 8 #[.agg #[v1, v0], v2, .int .i64 t] w fun e w' => e = .returned (.bool true) ∧ Gr w w' := by
  obtain ⟨a1, c1, rfl⟩ := h1.slice
  obtain ⟨a0, c0, rfl⟩ := h0.slice
  obtain ⟨a2, c2, rfl⟩ := h2.slice
  by_cases hb : 40 < l.length ∨ (l.length ≤ 40 ∧ 40 < zs.length) ∨ (l.length ≤ 40 ∧ zs.length ≤ 40 ∧ 40 < xs.length)
  · exact TR_big a1 a0 a2 _ c1 _ c0 _ c2 t w hb
  · exact TR_ok a1 a0 a2 _ c1 _ c0 _ c2 l zs xs t w h1 h0 h2 rfl rfl rfl (by omega) (by omega) (by omega)
end Go.Proofs.Ytpnigndobhbfnaa
