/- timesync.Run: the good way. -/
import Derived.Test.YtpnigndobhbfnaaRr
import Derived.Test.YtpnigndobhbfnaaCl
import Derived.Test.YtpnigndobhbfnaaPairq
import Derived.Test.YtpnigndobhbfnaaStq
import Derived.BigRegion
import Derived.Deep.RegionHeld3
namespace Go.Proofs.Ytpnigndobhbfnaa
open Go.RowKit
theorem keepK {f : FuncId} {args : Array Value} {v : Value} {w W : World} (J : World → Prop) (hJ : ∀ Z, Gr W Z → J Z) (h : Calls Try.prog f args w fun e w' => e = .returned v ∧ Gr w w') (hg : Hid (Gr W w)) :
    Calls Try.prog f args w fun e w' => e = .returned v ∧ J w' ∧ Gr w w' :=
  h.mono fun _ _ ⟨he, h⟩ => ⟨he, hJ _ (hg.out.trans h), h⟩
set_option maxRecDepth 20000 in
set_option maxHeartbeats 4000000 in
theorem Run_ok (b1 o1 n cap1 b0 o0 cap0 : Nat) (a2 : Option Addr) (k c2 : Nat) (l : List Sy) (zs : List Int) (xs : List Stp) (w : World) (hl : l.length = n) (hz : zs.length = n) (hk : xs.length = k) (hk4 : k ≤ 40) (hf : fits l zs) (h1n : 1 ≤ n) (hn : n ≤ 32)
    (hc1 : ∀ j u, (Lv l)[j]? = some u → w.cell? ⟨b1, o1 + j, none⟩ = some u) (lb1 : b1 < w.heap.size) (hc0 : ∀ j, j < n → w.cell? ⟨b0, o0 + j, none⟩ = some (.int .i64 (zs.getD j 0))) (lb0 : b0 < w.heap.size) (h2 : Sz w (.slice a2 k c2) k (Lt xs)) :
    Calls Try.prog 45 #[.slice (some ⟨b1, o1, none⟩) n cap1, .slice (some ⟨b0, o0, none⟩) n cap0, .slice a2 k c2] w (RunPost l zs xs w) := by
  obtain ⟨ds, hds⟩ := Option.isSome_iff_exists.1 hf.1
  have hde : dpE zs = 0 := by unfold dpE; rw [hds]; rfl
  have hdc := Depths_sz zs (.slice (some ⟨b0, o0, none⟩) n cap0) w (Or.inr ⟨b0, o0, cap0, by rw [hz], lb0, fun j u hj => by
    have h1 : j < zs.length := by simpa [ivs] using (List.getElem?_eq_some_iff.1 hj).1
    rw [ivs_at h1] at hj
    injection hj with hj
    rw [← hj]; exact hc0 j (by omega)⟩)
  rw [hde] at hdc
  have hsl : Sz w (.slice (some ⟨b1, o1, none⟩) n cap1) n (Lv l) := Or.inr ⟨b1, o1, cap1, rfl, lb1, hc1⟩
  have hcf := fun W (G : Gr w W) => CF98 99 Run1 (enters_of Try.func99 (by kernel_rfl) rfl) (.slice (some ⟨b1, o1, none⟩) n cap1) n l W (hsl.gr G) hl (by omega)
  rw [decide_eq_true hf.2.2, Bool.not_true] at hcf
  have HDC := Lib.hid hdc
  have HCF := Lib.hid hcf
  have HSL := Lib.hid hsl
  have HC0 := Lib.hid hc0
  have H2 := Lib.hid h2
  have HF := Lib.hid hf
  have HL := Lib.hid hl
  have HZ := Lib.hid hz
  have HK := Lib.hid hk
  have d1 : decide ((1024 : Int) < (k : Int)) = false := decide_eq_false (by omega)
  clear hds hde hdc hc1 hc0 h2 hf hl hz hk hsl hcf
  go_enter Try.func45, Try.ntmps45
  go_wp2_with fail
  refine HDC.out.mono ?_
  rintro e w1 ⟨v1, rfl, _, hg⟩
  have S1 := Lib.hid hg
  clear hg HDC
  go_wp2_with fail
  refine (HCF.out _ S1.out).mono ?_
  rintro e w2 ⟨rfl, hg⟩
  have S2 := Lib.hid (S1.out.trans hg)
  clear hg HCF
  go_wp2_with fail
  refine (Cl46 _ n l _ (HSL.out.gr S2.out) HL.out (by omega)).mono ?_
  rintro e w3 ⟨v3, rfl, ho, hg⟩
  have hg3 := S2.out.trans hg
  obtain ⟨gg, capg, rfl, hgg, hK⟩ : ∃ gg capg, v3 = .slice (some ⟨gg, 0, none⟩) n capg ∧ w.heap.size ≤ gg ∧ Bx w3 gg (Lv l) := by
    rcases ho with ⟨_, h, _⟩ | ⟨gg, capg, e, h, K⟩
    · omega
    · exact ⟨gg, capg, e, Nat.le_trans S2.out.size h, K⟩
  have R0 : Hid (RR zs l xs n gg w w3 0 l) := Lib.hid (RR.start HF.out.2.2 HL.out hK hg3)
  clear ho hg hK hg3
  go_wp2_with fail
  go_loopg [44] k (fun g s44 wy => ∃ (i : Nat) (li : List Sy), i + g = k ∧ s44 = .int .i64 (i : Int) ∧ Hid (RR zs l xs n gg w wy i li))
  case atStart => exact ⟨0, l, by omega, rfl, R0⟩
  case round =>
    obtain ⟨i2, li, hik, rfl, R⟩ := hrel
    cases gk with
    | zero =>
      have e3 : decide ((i2 : Int) < (k : Int)) = false := decide_eq_false (by omega)
      have e4 : decide (i2 < k) = false := decide_eq_false (by omega)
      go_wp2_with fail
      go_ret3
      exact RunPost.ok HF.out (R.out.stop (by rw [HK.out]; omega)) R.out.len hgg R.out.box R.out.gr
    | succ g2 =>
      have e3 : decide ((i2 : Int) < (k : Int)) = true := decide_eq_true (by omega)
      have e4 : decide (i2 < k) = true := decide_eq_true (by omega)
      have hik' : i2 < xs.length := by rw [HK.out]; omega
      obtain ⟨b2, o2, rfl, lb2, hc2⟩ : ∃ b2 o2, a2 = some ⟨b2, o2, none⟩ ∧ b2 < w.heap.size ∧ ∀ j u, (Lt xs)[j]? = some u → w.cell? ⟨b2, o2 + j, none⟩ = some u := by
        rcases H2.out with ⟨_, _, e, h, _⟩ | ⟨b2, o2, cc, e, l2, h⟩
        · omega
        · injection e with e _ _
          exact ⟨b2, o2, e, l2, h⟩
      have hcx := Lt_cells hc2 hik'
      obtain ⟨x, HX⟩ : ∃ x, Hid (xs.getD i2 Stp0 = x) := ⟨_, Lib.hid rfl⟩
      rw [HX.out] at hcx
      obtain ⟨m, nn, a⟩ := x
      have x0 : wr.cell? ⟨b2, o2 + i2 * 3, none⟩ = some (.int .i64 m) := (R.out.gr.cell lb2 _).trans (hcx 0 _ rfl)
      have x1 : wr.cell? ⟨b2, o2 + i2 * 3 + 1, none⟩ = some (.int .i64 nn) := (R.out.gr.cell lb2 _).trans (hcx 1 _ rfl)
      have x2 : wr.cell? ⟨b2, o2 + i2 * 3 + 2, none⟩ = some (.bool a) := (R.out.gr.cell lb2 _).trans (hcx 2 _ rfl)
      clear hc2 hcx
      by_cases hm1 : m < 1
      · have y1 : decide (m < 1) = true := decide_eq_true hm1
        have HE : Hid (stepN li zs ⟨m, nn, a⟩ = (Sy0, 7)) := Lib.hid (if_neg (by show ¬ (1 ≤ m ∧ m < (li.length : Int)); omega))
        go_wp2_with fail
        go_ret3
        exact RunPost.fail HF.out (R.out.fail hik' HX.out HE.out (by decide)) (R.out.gr.alloc _)
      have y1 : decide (m < 1) = false := decide_eq_false hm1
      by_cases hmn : (n : Int) ≤ m
      · have y2 : decide ((n : Int) ≤ m) = true := decide_eq_true hmn
        have HE : Hid (stepN li zs ⟨m, nn, a⟩ = (Sy0, 7)) := Lib.hid (if_neg (by show ¬ (1 ≤ m ∧ m < (li.length : Int)); rw [R.out.len]; omega))
        go_wp2_with fail
        go_ret3
        exact RunPost.fail HF.out (R.out.fail hik' HX.out HE.out (by decide)) (R.out.gr.alloc _)
      have y2 : decide ((n : Int) ≤ m) = false := decide_eq_false hmn
      obtain ⟨mi, rfl⟩ := Int.eq_ofNat_of_zero_le (show 0 ≤ m by omega)
      have y3 : decide ((mi : Int) < n) = true := decide_eq_true (by omega)
      have y4 : decide (n ≤ mi) = false := decide_eq_false (by omega)
      obtain ⟨q, hq, hql⟩ := par_node HF.out.1 (show 1 ≤ mi by omega) (show mi < zs.length by have := HZ.out; omega)
      rw [HZ.out] at hql
      have y5 : decide ((q : Int) < n) = true := decide_eq_true (by omega)
      have hpc : w.cell? ⟨b0, o0 + mi, none⟩ = some (.int .i64 (q : Int)) := by rw [← hq]; exact HC0.out mi (by omega)
      have hX := Lv_cells R.out.box (show mi < li.length by rw [R.out.len]; omega)
      have hY := Lv_cells R.out.box (show q < li.length by rw [R.out.len]; omega)
      have hst : stepN li zs ⟨(mi : Int), nn, a⟩ = pairN (li.getD mi Sy0) (li.getD q Sy0) nn a := by
        unfold stepN
        rw [if_pos ⟨by show (1 : Int) ≤ mi; omega, by show (mi : Int) < li.length; rw [R.out.len]; omega⟩]
        simp only [Int.toNat_natCast]
        unfold parOf
        rw [hq, Int.toNat_natCast]
      have hyv := allV_get R.out.val (show q < li.length by rw [R.out.len]; omega)
      generalize li.getD mi Sy0 = x at hX hst
      generalize li.getD q Sy0 = y at hY hst hyv
      cases a with
      | true =>
        have hpr := fun W => pairT_any x y nn hyv W
        rw [← hst] at hpr
        obtain ⟨r, HR⟩ : ∃ r, Hid (stepN li zs ⟨(mi : Int), nn, true⟩ = r) := ⟨_, Lib.hid rfl⟩
        rw [HR.out] at hpr
        obtain ⟨⟨so, sk, ss, sc⟩, er⟩ := r
        have HPR := Lib.hid hpr
        have HS : Hid (∀ Z, Gr wr Z → Z.cell? ⟨gg, mi * 4, none⟩ = some (.int .i64 x.o) ∧ Z.cell? ⟨gg, mi * 4 + 1, none⟩ = some (.int .i64 x.k) ∧ Z.cell? ⟨gg, mi * 4 + 2, none⟩ = some (.int .i64 x.s) ∧ Z.cell? ⟨gg, mi * 4 + 3, none⟩ = some (.int .i64 x.c) ∧ Z.cell? ⟨gg, q * 4, none⟩ = some (.int .i64 y.o) ∧ Z.cell? ⟨gg, q * 4 + 1, none⟩ = some (.int .i64 y.k) ∧ Z.cell? ⟨b0, o0 + mi, none⟩ = some (.int .i64 (q : Int))) := Lib.hid (fun Z G => ⟨(G.cell R.out.box.lt _).trans (hX 0 _ rfl), (G.cell R.out.box.lt _).trans (hX 1 _ rfl), (G.cell R.out.box.lt _).trans (hX 2 _ rfl), (G.cell R.out.box.lt _).trans (hX 3 _ rfl), (G.cell R.out.box.lt _).trans (hY 0 _ rfl), (G.cell R.out.box.lt _).trans (hY 1 _ rfl), ((R.out.gr.trans G).cell lb0 _).trans hpc⟩)
        clear hpr hst hX hY hpc hyv hq
        go_wp2_with fail
        clear x0 x1 x2
        have g0 : Gr wr (wr.alloc (Obj.cells #[.int .i64 (mi : Int), .int .i64 nn, .bool true] 48)) := Gr.alloc (Gr.refl _) _
        have bx : Bx (wr.alloc (Obj.cells #[.int .i64 (mi : Int), .int .i64 nn, .bool true] 48)) wr.heap.size [.int .i64 (mi : Int), .int .i64 nn, .bool true] := Bx.new wr _ 48
        generalize wr.alloc (Obj.cells #[.int .i64 (mi : Int), .int .i64 nn, .bool true] 48) = W at g0 bx ⊢
        have HJ : Hid (∀ Z, Gr W Z → (Z.cell? ⟨gg, mi * 4, none⟩ = some (.int .i64 x.o) ∧ Z.cell? ⟨gg, mi * 4 + 1, none⟩ = some (.int .i64 x.k) ∧ Z.cell? ⟨gg, mi * 4 + 2, none⟩ = some (.int .i64 x.s) ∧ Z.cell? ⟨gg, mi * 4 + 3, none⟩ = some (.int .i64 x.c) ∧ Z.cell? ⟨gg, q * 4, none⟩ = some (.int .i64 y.o) ∧ Z.cell? ⟨gg, q * 4 + 1, none⟩ = some (.int .i64 y.k) ∧ Z.cell? ⟨b0, o0 + mi, none⟩ = some (.int .i64 (q : Int)) ∧ Z.cell? ⟨wr.heap.size, 0, none⟩ = some (.int .i64 (mi : Int)) ∧ Z.cell? ⟨wr.heap.size, 1, none⟩ = some (.int .i64 nn) ∧ Z.cell? ⟨wr.heap.size, 2, none⟩ = some (.bool true) ∧ Hid (Gr W Z))) := Lib.hid (fun Z G => by
          obtain ⟨z0, z1, z2, z3, z4, z5, z6⟩ := HS.out Z (g0.trans G)
          have bz := bx.gr G
          exact ⟨z0, z1, z2, z3, z4, z5, z6, bz.c 0 _ rfl, bz.c 1 _ rfl, bz.c 2 _ rfl, Lib.hid G⟩)
        have SW := Lib.hid g0
        have gr0 := Lib.hid (Gr.refl W).drew
        have gr1 := Lib.hid ((Gr.refl W).alloc (Obj.cells #[.int .i64 0, .int .i64 0, .int .i64 0, .int .i64 0] 45)).drew
        clear g0 bx HS
        obtain ⟨z0, z1, z2, z3, z4, z5, z6, z7, z8, z9, _⟩ := HJ.out W (Gr.refl W)
        go_region_held3 (fun Z => Z.cell? ⟨gg, mi * 4, none⟩ = some (.int .i64 x.o) ∧ Z.cell? ⟨gg, mi * 4 + 1, none⟩ = some (.int .i64 x.k) ∧ Z.cell? ⟨gg, mi * 4 + 2, none⟩ = some (.int .i64 x.s) ∧ Z.cell? ⟨gg, mi * 4 + 3, none⟩ = some (.int .i64 x.c) ∧ Z.cell? ⟨gg, q * 4, none⟩ = some (.int .i64 y.o) ∧ Z.cell? ⟨gg, q * 4 + 1, none⟩ = some (.int .i64 y.k) ∧ Z.cell? ⟨b0, o0 + mi, none⟩ = some (.int .i64 (q : Int)) ∧ Z.cell? ⟨wr.heap.size, 0, none⟩ = some (.int .i64 (mi : Int)) ∧ Z.cell? ⟨wr.heap.size, 1, none⟩ = some (.int .i64 nn) ∧ Z.cell? ⟨wr.heap.size, 2, none⟩ = some (.bool true) ∧ Hid (Gr W Z)) (first | exact HJ.out _ (by repeat (first | exact Gr.refl _ | exact Hid.out (by assumption) | apply Gr.drew | apply Gr.alloc | refine Gr.set ?_ (by first | exact Nat.le_refl _ | (simp; done) | (simp; omega) | omega) _)))
          (first
            | (go_at_call 101; refine (keepK _ HJ.out (HPR.out _) (by assumption)).mono ?_; rintro e wz ⟨rfl, ⟨q0, q1, q2, q3, q4, q5, q6, q7, q8, q9, q10⟩, hgz⟩; have rb : Bx wz W.heap.size [.int .i64 0, .int .i64 0, .int .i64 0, .int .i64 0] := Bx.gr (Bx.gr (Bx.new W _ 45) (Gr.drew (Gr.refl _))) hgz; have rc0 := rb.c 0 _ rfl; have rc1 := rb.c 1 _ rfl; have rc2 := rb.c 2 _ rfl; have rc3 := rb.c 3 _ rfl; have rf0 := rb.f 0 (by simp); have rf1 := rb.f 1 (by simp); have rf2 := rb.f 2 (by simp); have rf3 := rb.f 3 (by simp); have rl := rb.lt)
            | (go_at_call 101; refine (keepK _ HJ.out (HPR.out _) (by assumption)).mono ?_; rintro e wz ⟨rfl, ⟨q0, q1, q2, q3, q4, q5, q6, q7, q8, q9, q10⟩, hgz⟩))
        all_goals first
          | (with_reducible show Exit.then _ _ _ _ (wz.alloc (Obj.cells #[.int .i64 so, .int .i64 sk, .int .i64 ss, .int .i64 sc] 45)); have gw : Gr W (wz.alloc (Obj.cells #[.int .i64 so, .int .i64 sk, .int .i64 ss, .int .i64 sc] 45)) := Gr.alloc q10.out _; have bs : Bx (wz.alloc (Obj.cells #[.int .i64 so, .int .i64 sk, .int .i64 ss, .int .i64 sc] 45)) wz.heap.size [.int .i64 so, .int .i64 sk, .int .i64 ss, .int .i64 sc] := Bx.new wz _ 45; generalize wz.alloc (Obj.cells #[.int .i64 so, .int .i64 sk, .int .i64 ss, .int .i64 sc] 45) = w6 at gw bs ⊢; generalize wz.heap.size = sb at bs ⊢)
          | (with_reducible show Exit.then _ _ _ _ ((((wz.setCell ⟨W.heap.size, 0, none⟩ (.int .i64 so)).setCell ⟨W.heap.size, 1, none⟩ (.int .i64 sk)).setCell ⟨W.heap.size, 2, none⟩ (.int .i64 ss)).setCell ⟨W.heap.size, 3, none⟩ (.int .i64 sc)); have gw : Gr W ((((wz.setCell ⟨W.heap.size, 0, none⟩ (.int .i64 so)).setCell ⟨W.heap.size, 1, none⟩ (.int .i64 sk)).setCell ⟨W.heap.size, 2, none⟩ (.int .i64 ss)).setCell ⟨W.heap.size, 3, none⟩ (.int .i64 sc)) := Gr.set4 q10.out (Nat.le_refl _) 0 1 2 3 _ _ _ _; have bs : Bx ((((wz.setCell ⟨W.heap.size, 0, none⟩ (.int .i64 so)).setCell ⟨W.heap.size, 1, none⟩ (.int .i64 sk)).setCell ⟨W.heap.size, 2, none⟩ (.int .i64 ss)).setCell ⟨W.heap.size, 3, none⟩ (.int .i64 sc)) W.heap.size [.int .i64 so, .int .i64 sk, .int .i64 ss, .int .i64 sc] := rb.set4 _ _ _ _; generalize (((wz.setCell ⟨W.heap.size, 0, none⟩ (.int .i64 so)).setCell ⟨W.heap.size, 1, none⟩ (.int .i64 sk)).setCell ⟨W.heap.size, 2, none⟩ (.int .i64 ss)).setCell ⟨W.heap.size, 3, none⟩ (.int .i64 sc) = w6 at gw bs ⊢; generalize W.heap.size = sb at bs ⊢; clear rb rc0 rc1 rc2 rc3 rf0 rf1 rf2 rf3 rl)
        all_goals
          have q7' := (HJ.out w6 gw).2.2.2.2.2.2.2.1
          have GW := Lib.hid (SW.out.trans gw)
          have BS := Lib.hid bs
          clear hgz q0 q1 q2 q3 q4 q5 q6 q7 q8 q9 q10 z0 z1 z2 z3 z4 z5 z6 z7 z8 z9 HJ gr0 gr1 gw bs
          by_cases he : er = 0
          · subst he
            have s0 := BS.out.c 0 _ rfl
            have s1 := BS.out.c 1 _ rfl
            have s2 := BS.out.c 2 _ rfl
            have s3 := BS.out.c 3 _ rfl
            have ko := R.out.box.gr GW.out
            have lo : (Lv li).length = n * 4 := by rw [Lv_len, R.out.len]
            have f0 := ko.f (mi * 4) (by omega)
            have f1 := ko.f (mi * 4 + 1) (by omega)
            have f2 := ko.f (mi * 4 + 2) (by omega)
            have f3 := ko.f (mi * 4 + 3) (by omega)
            have lo1 := ko.lt
            obtain ⟨v0, p0⟩ : ∃ v, w6.cell? ⟨gg, mi * 4, none⟩ = some v := ⟨_, ko.c (mi * 4) _ (List.getElem?_eq_getElem (by omega))⟩
            obtain ⟨v3, p1⟩ : ∃ v, w6.cell? ⟨gg, mi * 4 + 1, none⟩ = some v := ⟨_, ko.c (mi * 4 + 1) _ (List.getElem?_eq_getElem (by omega))⟩
            obtain ⟨v4, p2⟩ : ∃ v, w6.cell? ⟨gg, mi * 4 + 2, none⟩ = some v := ⟨_, ko.c (mi * 4 + 2) _ (List.getElem?_eq_getElem (by omega))⟩
            obtain ⟨v5, p3⟩ : ∃ v, w6.cell? ⟨gg, mi * 4 + 3, none⟩ = some v := ⟨_, ko.c (mi * 4 + 3) _ (List.getElem?_eq_getElem (by omega))⟩
            have KO := Lib.hid ko
            clear ko lo
            go_wp2_with fail
            have bz := KO.out.setSy mi ⟨so, sk, ss, sc⟩ (by rw [R.out.len]; omega)
            have gz := Gr.set4 (R.out.gr.trans GW.out) hgg (mi * 4) (mi * 4 + 1) (mi * 4 + 2) (mi * 4 + 3) (.int .i64 so) (.int .i64 sk) (.int .i64 ss) (.int .i64 sc)
            simp only at bz
            have R5 := Lib.hid (R.out.next hik' HX.out HR.out bz gz)
            clear bz gz q7' f0 f1 f2 f3 p0 p1 p2 p3 lo1 s0 s1 s2 s3
            go_roundg g2
            case measure => omega
            case rel => exact ⟨i2 + 1, _, by omega, by go_num, R5⟩
          · have er1 : (er != 0) = true := by rw [bne_iff_ne]; exact he
            have HE := Lib.hid he
            clear he
            go_wp2_with fail
            go_ret3
            exact RunPost.fail HF.out (R.out.fail hik' HX.out HR.out HE.out) (R.out.gr.trans GW.out)
      | false =>
        have hpr := fun W => pairF_any x y nn W
        rw [← hst] at hpr
        obtain ⟨r, HR⟩ : ∃ r, Hid (stepN li zs ⟨(mi : Int), nn, false⟩ = r) := ⟨_, Lib.hid rfl⟩
        rw [HR.out] at hpr
        obtain ⟨⟨so, sk, ss, sc⟩, er⟩ := r
        have HPR := Lib.hid hpr
        have HS : Hid (∀ Z, Gr wr Z → Z.cell? ⟨gg, mi * 4, none⟩ = some (.int .i64 x.o) ∧ Z.cell? ⟨gg, mi * 4 + 1, none⟩ = some (.int .i64 x.k) ∧ Z.cell? ⟨gg, mi * 4 + 2, none⟩ = some (.int .i64 x.s) ∧ Z.cell? ⟨gg, mi * 4 + 3, none⟩ = some (.int .i64 x.c) ∧ Z.cell? ⟨gg, q * 4, none⟩ = some (.int .i64 y.o) ∧ Z.cell? ⟨gg, q * 4 + 1, none⟩ = some (.int .i64 y.k) ∧ Z.cell? ⟨b0, o0 + mi, none⟩ = some (.int .i64 (q : Int))) := Lib.hid (fun Z G => ⟨(G.cell R.out.box.lt _).trans (hX 0 _ rfl), (G.cell R.out.box.lt _).trans (hX 1 _ rfl), (G.cell R.out.box.lt _).trans (hX 2 _ rfl), (G.cell R.out.box.lt _).trans (hX 3 _ rfl), (G.cell R.out.box.lt _).trans (hY 0 _ rfl), (G.cell R.out.box.lt _).trans (hY 1 _ rfl), ((R.out.gr.trans G).cell lb0 _).trans hpc⟩)
        clear hpr hst hX hY hpc hyv hq
        go_wp2_with fail
        clear x0 x1 x2
        have g0 : Gr wr (wr.alloc (Obj.cells #[.int .i64 (mi : Int), .int .i64 nn, .bool false] 48)) := Gr.alloc (Gr.refl _) _
        have bx : Bx (wr.alloc (Obj.cells #[.int .i64 (mi : Int), .int .i64 nn, .bool false] 48)) wr.heap.size [.int .i64 (mi : Int), .int .i64 nn, .bool false] := Bx.new wr _ 48
        generalize wr.alloc (Obj.cells #[.int .i64 (mi : Int), .int .i64 nn, .bool false] 48) = W at g0 bx ⊢
        have HJ : Hid (∀ Z, Gr W Z → (Z.cell? ⟨gg, mi * 4, none⟩ = some (.int .i64 x.o) ∧ Z.cell? ⟨gg, mi * 4 + 1, none⟩ = some (.int .i64 x.k) ∧ Z.cell? ⟨gg, mi * 4 + 2, none⟩ = some (.int .i64 x.s) ∧ Z.cell? ⟨gg, mi * 4 + 3, none⟩ = some (.int .i64 x.c) ∧ Z.cell? ⟨gg, q * 4, none⟩ = some (.int .i64 y.o) ∧ Z.cell? ⟨gg, q * 4 + 1, none⟩ = some (.int .i64 y.k) ∧ Z.cell? ⟨b0, o0 + mi, none⟩ = some (.int .i64 (q : Int)) ∧ Z.cell? ⟨wr.heap.size, 0, none⟩ = some (.int .i64 (mi : Int)) ∧ Z.cell? ⟨wr.heap.size, 1, none⟩ = some (.int .i64 nn) ∧ Z.cell? ⟨wr.heap.size, 2, none⟩ = some (.bool false) ∧ Hid (Gr W Z))) := Lib.hid (fun Z G => by
          obtain ⟨z0, z1, z2, z3, z4, z5, z6⟩ := HS.out Z (g0.trans G)
          have bz := bx.gr G
          exact ⟨z0, z1, z2, z3, z4, z5, z6, bz.c 0 _ rfl, bz.c 1 _ rfl, bz.c 2 _ rfl, Lib.hid G⟩)
        have SW := Lib.hid g0
        have gr0 := Lib.hid (Gr.refl W).drew
        have gr1 := Lib.hid ((Gr.refl W).alloc (Obj.cells #[.int .i64 0, .int .i64 0, .int .i64 0, .int .i64 0] 45)).drew
        clear g0 bx HS
        obtain ⟨z0, z1, z2, z3, z4, z5, z6, z7, z8, z9, _⟩ := HJ.out W (Gr.refl W)
        go_region_held3 (fun Z => Z.cell? ⟨gg, mi * 4, none⟩ = some (.int .i64 x.o) ∧ Z.cell? ⟨gg, mi * 4 + 1, none⟩ = some (.int .i64 x.k) ∧ Z.cell? ⟨gg, mi * 4 + 2, none⟩ = some (.int .i64 x.s) ∧ Z.cell? ⟨gg, mi * 4 + 3, none⟩ = some (.int .i64 x.c) ∧ Z.cell? ⟨gg, q * 4, none⟩ = some (.int .i64 y.o) ∧ Z.cell? ⟨gg, q * 4 + 1, none⟩ = some (.int .i64 y.k) ∧ Z.cell? ⟨b0, o0 + mi, none⟩ = some (.int .i64 (q : Int)) ∧ Z.cell? ⟨wr.heap.size, 0, none⟩ = some (.int .i64 (mi : Int)) ∧ Z.cell? ⟨wr.heap.size, 1, none⟩ = some (.int .i64 nn) ∧ Z.cell? ⟨wr.heap.size, 2, none⟩ = some (.bool false) ∧ Hid (Gr W Z)) (first | exact HJ.out _ (by repeat (first | exact Gr.refl _ | exact Hid.out (by assumption) | apply Gr.drew | apply Gr.alloc | refine Gr.set ?_ (by first | exact Nat.le_refl _ | (simp; done) | (simp; omega) | omega) _)))
          (first
            | (go_at_call 100; refine (keepK _ HJ.out (HPR.out _) (by assumption)).mono ?_; rintro e wz ⟨rfl, ⟨q0, q1, q2, q3, q4, q5, q6, q7, q8, q9, q10⟩, hgz⟩; have rb : Bx wz W.heap.size [.int .i64 0, .int .i64 0, .int .i64 0, .int .i64 0] := Bx.gr (Bx.gr (Bx.new W _ 45) (Gr.drew (Gr.refl _))) hgz; have rc0 := rb.c 0 _ rfl; have rc1 := rb.c 1 _ rfl; have rc2 := rb.c 2 _ rfl; have rc3 := rb.c 3 _ rfl; have rf0 := rb.f 0 (by simp); have rf1 := rb.f 1 (by simp); have rf2 := rb.f 2 (by simp); have rf3 := rb.f 3 (by simp); have rl := rb.lt)
            | (go_at_call 100; refine (keepK _ HJ.out (HPR.out _) (by assumption)).mono ?_; rintro e wz ⟨rfl, ⟨q0, q1, q2, q3, q4, q5, q6, q7, q8, q9, q10⟩, hgz⟩))
        all_goals first
          | (with_reducible show Exit.then _ _ _ _ (wz.alloc (Obj.cells #[.int .i64 so, .int .i64 sk, .int .i64 ss, .int .i64 sc] 45)); have gw : Gr W (wz.alloc (Obj.cells #[.int .i64 so, .int .i64 sk, .int .i64 ss, .int .i64 sc] 45)) := Gr.alloc q10.out _; have bs : Bx (wz.alloc (Obj.cells #[.int .i64 so, .int .i64 sk, .int .i64 ss, .int .i64 sc] 45)) wz.heap.size [.int .i64 so, .int .i64 sk, .int .i64 ss, .int .i64 sc] := Bx.new wz _ 45; generalize wz.alloc (Obj.cells #[.int .i64 so, .int .i64 sk, .int .i64 ss, .int .i64 sc] 45) = w6 at gw bs ⊢; generalize wz.heap.size = sb at bs ⊢)
          | (with_reducible show Exit.then _ _ _ _ ((((wz.setCell ⟨W.heap.size, 0, none⟩ (.int .i64 so)).setCell ⟨W.heap.size, 1, none⟩ (.int .i64 sk)).setCell ⟨W.heap.size, 2, none⟩ (.int .i64 ss)).setCell ⟨W.heap.size, 3, none⟩ (.int .i64 sc)); have gw : Gr W ((((wz.setCell ⟨W.heap.size, 0, none⟩ (.int .i64 so)).setCell ⟨W.heap.size, 1, none⟩ (.int .i64 sk)).setCell ⟨W.heap.size, 2, none⟩ (.int .i64 ss)).setCell ⟨W.heap.size, 3, none⟩ (.int .i64 sc)) := Gr.set4 q10.out (Nat.le_refl _) 0 1 2 3 _ _ _ _; have bs : Bx ((((wz.setCell ⟨W.heap.size, 0, none⟩ (.int .i64 so)).setCell ⟨W.heap.size, 1, none⟩ (.int .i64 sk)).setCell ⟨W.heap.size, 2, none⟩ (.int .i64 ss)).setCell ⟨W.heap.size, 3, none⟩ (.int .i64 sc)) W.heap.size [.int .i64 so, .int .i64 sk, .int .i64 ss, .int .i64 sc] := rb.set4 _ _ _ _; generalize (((wz.setCell ⟨W.heap.size, 0, none⟩ (.int .i64 so)).setCell ⟨W.heap.size, 1, none⟩ (.int .i64 sk)).setCell ⟨W.heap.size, 2, none⟩ (.int .i64 ss)).setCell ⟨W.heap.size, 3, none⟩ (.int .i64 sc) = w6 at gw bs ⊢; generalize W.heap.size = sb at bs ⊢; clear rb rc0 rc1 rc2 rc3 rf0 rf1 rf2 rf3 rl)
        all_goals
          have q7' := (HJ.out w6 gw).2.2.2.2.2.2.2.1
          have GW := Lib.hid (SW.out.trans gw)
          have BS := Lib.hid bs
          clear hgz q0 q1 q2 q3 q4 q5 q6 q7 q8 q9 q10 z0 z1 z2 z3 z4 z5 z6 z7 z8 z9 HJ gr0 gr1 gw bs
          by_cases he : er = 0
          · subst he
            have s0 := BS.out.c 0 _ rfl
            have s1 := BS.out.c 1 _ rfl
            have s2 := BS.out.c 2 _ rfl
            have s3 := BS.out.c 3 _ rfl
            have ko := R.out.box.gr GW.out
            have lo : (Lv li).length = n * 4 := by rw [Lv_len, R.out.len]
            have f0 := ko.f (mi * 4) (by omega)
            have f1 := ko.f (mi * 4 + 1) (by omega)
            have f2 := ko.f (mi * 4 + 2) (by omega)
            have f3 := ko.f (mi * 4 + 3) (by omega)
            have lo1 := ko.lt
            obtain ⟨v0, p0⟩ : ∃ v, w6.cell? ⟨gg, mi * 4, none⟩ = some v := ⟨_, ko.c (mi * 4) _ (List.getElem?_eq_getElem (by omega))⟩
            obtain ⟨v3, p1⟩ : ∃ v, w6.cell? ⟨gg, mi * 4 + 1, none⟩ = some v := ⟨_, ko.c (mi * 4 + 1) _ (List.getElem?_eq_getElem (by omega))⟩
            obtain ⟨v4, p2⟩ : ∃ v, w6.cell? ⟨gg, mi * 4 + 2, none⟩ = some v := ⟨_, ko.c (mi * 4 + 2) _ (List.getElem?_eq_getElem (by omega))⟩
            obtain ⟨v5, p3⟩ : ∃ v, w6.cell? ⟨gg, mi * 4 + 3, none⟩ = some v := ⟨_, ko.c (mi * 4 + 3) _ (List.getElem?_eq_getElem (by omega))⟩
            have KO := Lib.hid ko
            clear ko lo
            go_wp2_with fail
            have bz := KO.out.setSy mi ⟨so, sk, ss, sc⟩ (by rw [R.out.len]; omega)
            have gz := Gr.set4 (R.out.gr.trans GW.out) hgg (mi * 4) (mi * 4 + 1) (mi * 4 + 2) (mi * 4 + 3) (.int .i64 so) (.int .i64 sk) (.int .i64 ss) (.int .i64 sc)
            simp only at bz
            have R5 := Lib.hid (R.out.next hik' HX.out HR.out bz gz)
            clear bz gz q7' f0 f1 f2 f3 p0 p1 p2 p3 lo1 s0 s1 s2 s3
            go_roundg g2
            case measure => omega
            case rel => exact ⟨i2 + 1, _, by omega, by go_num, R5⟩
          · have er1 : (er != 0) = true := by rw [bne_iff_ne]; exact he
            have HE := Lib.hid he
            clear he
            go_wp2_with fail
            go_ret3
            exact RunPost.fail HF.out (R.out.fail hik' HX.out HR.out HE.out) (R.out.gr.trans GW.out)
end Go.Proofs.Ytpnigndobhbfnaa
