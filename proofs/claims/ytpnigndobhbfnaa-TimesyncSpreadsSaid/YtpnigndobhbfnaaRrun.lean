/- The reference's Run: the good way. -/
import Derived.Test.YtpnigndobhbfnaaRr
import Derived.Test.YtpnigndobhbfnaaRd
import Derived.Test.YtpnigndobhbfnaaStq
import Derived.BigRegion
namespace Go.Proofs.Ytpnigndobhbfnaa
open Go.RowKit
set_option maxRecDepth 20000 in
set_option maxHeartbeats 4000000 in
theorem rRun_ok (b1 o1 n cap1 b0 o0 cap0 : Nat) (a2 : Option Addr) (k c2 : Nat) (l : List Sy) (zs : List Int) (xs : List Stp) (w : World) (hl : l.length = n) (hz : zs.length = n) (hk : xs.length = k) (hk4 : k ≤ 40) (hf : fits l zs) (h1n : 1 ≤ n) (hn : n ≤ 32)
    (hc1 : ∀ j u, (Lv l)[j]? = some u → w.cell? ⟨b1, o1 + j, none⟩ = some u) (lb1 : b1 < w.heap.size) (hc0 : ∀ j, j < n → w.cell? ⟨b0, o0 + j, none⟩ = some (.int .i64 (zs.getD j 0))) (lb0 : b0 < w.heap.size) (h2 : Sz w (.slice a2 k c2) k (Lt xs)) :
    Calls Try.prog 48 #[.slice (some ⟨b1, o1, none⟩) n cap1, .slice (some ⟨b0, o0, none⟩) n cap0, .slice a2 k c2] w (RunPost l zs xs w) := by
  have h45 : (Try.prog.info? 45).map (fun i => (i.zero, i.size, i.bytes)) = some (some (.agg #[.int .i64 0, .int .i64 0, .int .i64 0, .int .i64 0]), 4, 32) := by kernel_rfl
  obtain ⟨i0, hi, hx⟩ := Option.map_eq_some_iff.1 h45
  simp only [Prod.mk.injEq] at hx
  obtain ⟨hz0, hz1, hz2⟩ := hx
  have HI := Lib.hid hi
  have HZ0 := Lib.hid hz0
  have HZ1 := Lib.hid hz1
  have HZ2 := Lib.hid hz2
  obtain ⟨ds, hds⟩ := Option.isSome_iff_exists.1 hf.1
  have hde : dpE zs = 0 := by unfold dpE; rw [hds]; rfl
  have hdc := rDepths_sz zs (.slice (some ⟨b0, o0, none⟩) n cap0) w (Or.inr ⟨b0, o0, cap0, by rw [hz], lb0, fun j u hj => by
    have h1 : j < zs.length := by simpa [ivs] using (List.getElem?_eq_some_iff.1 hj).1
    rw [ivs_at h1] at hj
    injection hj with hj
    rw [← hj]; exact hc0 j (by omega)⟩)
  rw [hde] at hdc
  have HDC := Lib.hid hdc
  have HC1 := Lib.hid hc1
  have HC0 := Lib.hid hc0
  have H2 := Lib.hid h2
  have HF := Lib.hid hf
  have HL := Lib.hid hl
  have HZ := Lib.hid hz
  have HK := Lib.hid hk
  have d1 : decide ((1024 : Int) < (k : Int)) = false := decide_eq_false (by omega)
  clear hi hz0 hz1 hz2 h45 hds hde hdc hc1 hc0 h2 hf hl hz hk
  go_enter Try.func48, Try.ntmps48
  go_wp2_with fail
  refine HDC.out.mono ?_
  rintro e w1 ⟨v1, rfl, _, hg⟩
  have S1 := Lib.hid hg
  clear hg HDC
  go_wp2_with fail
  go_loopg [11] n (fun g s11 wr => ∃ i : Nat, i + g = n ∧ s11 = .int .i64 (i : Int) ∧ Hid (Gr w wr))
  case atStart => exact ⟨0, by omega, rfl, S1⟩
  case round =>
    obtain ⟨i, hig, rfl, SG⟩ := hrel
    cases gk with
    | zero =>
      have e1 : decide ((i : Int) < (n : Int)) = false := decide_eq_false (by omega)
      have e2 : decide (i < n) = false := decide_eq_false (by omega)
      go_wp2_with (at_builtin; refine wpList_append_own _ rfl _ _ 33 rfl w.heap.size 45 i0 (.agg #[.int .i64 0, .int .i64 0, .int .i64 0, .int .i64 0]) 4 32 Try.underlying33 HI.out HZ0.out HZ1.out HZ2.out rfl (by decide) _ _ _ rfl (World.ownsRow_made _ #[] 0 ?c0 (Nat.zero_le _) rfl) ⟨b1, o1, none⟩ n cap1 (Lv l) rfl ?c6 ?c1 ?c2 ?c3 ?c4 ?c5 ?_)
      case c0 => exact SG.out.size
      case c6 => rw [Lv_len, HL.out]
      case c1 => intro j u hj; rw [Addr.add_lit]; exact ((SG.out.alloc _).cell lb1 _).trans (HC1.out j u hj)
      case c2 => exact Lv_one
      case c3 => unfold maxLen; omega
      case c4 => omega
      case c5 => exact Nat.le_trans SG.out.size (by simp)
      intro v2 w2 hown hgrow _
      have hg2 : Gr w w2 := Below.grown (SG.out.alloc _) hgrow (Nat.le_trans SG.out.size (by simp)) (fun k hk => by
        have : wr.heap.size = k := by simpa [Value.ownBlock] using hk
        have := SG.out.size
        omega)
      have ho : Ow w.heap.size w2 v2 n (Lv l) := by have := Ow.of_row hown; simpa using this
      obtain ⟨gg, capg, rfl, hgg, hK⟩ : ∃ gg capg, v2 = .slice (some ⟨gg, 0, none⟩) n capg ∧ w.heap.size ≤ gg ∧ Bx w2 gg (Lv l) := by
        rcases ho with ⟨_, h, _⟩ | h
        · omega
        · exact h
      have R0 : Hid (RR zs l xs n gg w w2 0 l) := Lib.hid (RR.start HF.out.2.2 HL.out hK hg2)
      clear hown hgrow hg2 ho hK
      go_wp2_with fail
      go_loopg [13] k (fun g s13 wy => ∃ (i : Nat) (li : List Sy), i + g = k ∧ s13 = .int .i64 (i : Int) ∧ Hid (RR zs l xs n gg w wy i li))
      case atStart => exact ⟨0, l, by omega, rfl, R0⟩
      case round =>
        obtain ⟨i2, li, hik, rfl, R⟩ := hrel
        cases gk with
        | zero =>
          have e3 : decide ((i2 : Int) < (k : Int)) = false := decide_eq_false (by omega)
          have e4 : decide (i2 < k) = false := decide_eq_false (by omega)
          go_wp2_with fail
          go_ret3
          exact RunPost.ok HF.out (R.out.stop (by rw [HK.out]; omega)) R.out.len hgg R.out.box R.out.gr
        | succ g2 =>
          have e3 : decide ((i2 : Int) < (k : Int)) = true := decide_eq_true (by omega)
          have e4 : decide (i2 < k) = true := decide_eq_true (by omega)
          have hik' : i2 < xs.length := by rw [HK.out]; omega
          obtain ⟨b2, o2, rfl, lb2, hc2⟩ : ∃ b2 o2, a2 = some ⟨b2, o2, none⟩ ∧ b2 < w.heap.size ∧ ∀ j u, (Lt xs)[j]? = some u → w.cell? ⟨b2, o2 + j, none⟩ = some u := by
            rcases H2.out with ⟨_, _, e, h, _⟩ | ⟨b2, o2, cc, e, l2, h⟩
            · omega
            · injection e with e _ _
              exact ⟨b2, o2, e, l2, h⟩
          have hcx := Lt_cells hc2 hik'
          obtain ⟨x, HX⟩ : ∃ x, Hid (xs.getD i2 Stp0 = x) := ⟨_, Lib.hid rfl⟩
          rw [HX.out] at hcx
          obtain ⟨m, nn, a⟩ := x
          have x0 : wr.cell? ⟨b2, o2 + i2 * 3, none⟩ = some (.int .i64 m) := (R.out.gr.cell lb2 _).trans (hcx 0 _ rfl)
          have x1 : wr.cell? ⟨b2, o2 + i2 * 3 + 1, none⟩ = some (.int .i64 nn) := (R.out.gr.cell lb2 _).trans (hcx 1 _ rfl)
          have x2 : wr.cell? ⟨b2, o2 + i2 * 3 + 2, none⟩ = some (.bool a) := (R.out.gr.cell lb2 _).trans (hcx 2 _ rfl)
          have hst := rstep_any gg capg b0 o0 cap0 n li zs m nn a wr R.out.len HZ.out HF.out.1 R.out.box (Nat.lt_of_lt_of_le lb0 R.out.gr.size) (fun j hj => (R.out.gr.cell lb0 _).trans (HC0.out j hj))
          obtain ⟨r, HR⟩ : ∃ r, Hid (stepN li zs ⟨m, nn, a⟩ = r) := ⟨_, Lib.hid rfl⟩
          rw [HR.out] at hst
          obtain ⟨⟨so, sk, ss, sc⟩, er⟩ := r
          have HST := Lib.hid hst
          have HCX := Lib.hid hcx
          clear hst hcx hc2
          go_wp2_with fail
          refine HST.out.mono ?_
          rintro e w3 ⟨rfl, hg⟩
          have S3 := Lib.hid hg
          clear hg HST x0 x1 x2
          by_cases he : er = 0
          · subst he
            obtain ⟨hm0, hm1⟩ := R.out.inr HR.out
            obtain ⟨mi, rfl⟩ := Int.eq_ofNat_of_zero_le (show 0 ≤ m by omega)
            go_wp2_with fail
            have g4 : Gr wr (w3.alloc (Obj.cells #[.int .i64 so, .int .i64 sk, .int .i64 ss, .int .i64 sc] 45)) := S3.out.alloc _
            have b4 : Bx (w3.alloc (Obj.cells #[.int .i64 so, .int .i64 sk, .int .i64 ss, .int .i64 sc] 45)) w3.heap.size [.int .i64 so, .int .i64 sk, .int .i64 ss, .int .i64 sc] := Bx.new w3 _ 45
            generalize w3.alloc (Obj.cells #[.int .i64 so, .int .i64 sk, .int .i64 ss, .int .i64 sc] 45) = w4 at g4 b4 ⊢
            have ko := R.out.box.gr g4
            have x0 : w4.cell? ⟨b2, o2 + i2 * 3, none⟩ = some (.int .i64 (mi : Int)) := ((R.out.gr.trans g4).cell lb2 _).trans (HCX.out 0 _ rfl)
            have s0 := b4.c 0 _ rfl
            have s1 := b4.c 1 _ rfl
            have s2 := b4.c 2 _ rfl
            have s3 := b4.c 3 _ rfl
            have lo : (Lv li).length = n * 4 := by rw [Lv_len, R.out.len]
            have f0 := ko.f (mi * 4) (by omega)
            have f1 := ko.f (mi * 4 + 1) (by omega)
            have f2 := ko.f (mi * 4 + 2) (by omega)
            have f3 := ko.f (mi * 4 + 3) (by omega)
            have lo1 := ko.lt
            obtain ⟨v0, q0⟩ : ∃ v, w4.cell? ⟨gg, mi * 4, none⟩ = some v := ⟨_, ko.c (mi * 4) _ (List.getElem?_eq_getElem (by omega))⟩
            obtain ⟨v3, q1⟩ : ∃ v, w4.cell? ⟨gg, mi * 4 + 1, none⟩ = some v := ⟨_, ko.c (mi * 4 + 1) _ (List.getElem?_eq_getElem (by omega))⟩
            obtain ⟨v4, q2⟩ : ∃ v, w4.cell? ⟨gg, mi * 4 + 2, none⟩ = some v := ⟨_, ko.c (mi * 4 + 2) _ (List.getElem?_eq_getElem (by omega))⟩
            obtain ⟨v5, q3⟩ : ∃ v, w4.cell? ⟨gg, mi * 4 + 3, none⟩ = some v := ⟨_, ko.c (mi * 4 + 3) _ (List.getElem?_eq_getElem (by omega))⟩
            have G4 := Lib.hid g4
            have KO := Lib.hid ko
            clear g4 b4 ko lo
            go_region
            have bz := (KO.out.setSy mi ⟨so, sk, ss, sc⟩ (by rw [R.out.len]; omega)).gr (Gr.drew (Gr.refl _))
            have gz := Gr.drew (Gr.set4 (R.out.gr.trans G4.out) hgg (mi * 4) (mi * 4 + 1) (mi * 4 + 2) (mi * 4 + 3) (.int .i64 so) (.int .i64 sk) (.int .i64 ss) (.int .i64 sc))
            simp only at bz
            generalize World.drew _ = w5 at bz gz ⊢
            have R5 := Lib.hid (R.out.next hik' HX.out HR.out bz gz)
            clear bz gz x0 f0 f1 f2 f3 q0 q1 q2 q3 lo1
            go_wp2_with fail
            go_roundg g2
            case measure => omega
            case rel => exact ⟨i2 + 1, _, by omega, by go_num, R5⟩
          · have er1 : (er != 0) = true := by rw [bne_iff_ne]; exact he
            have HE := Lib.hid he
            clear he
            go_wp2_with fail
            go_ret3
            exact RunPost.fail HF.out (R.out.fail hik' HX.out HR.out HE.out) ((R.out.gr.trans S3.out).alloc _)
    | succ g =>
      have e1 : decide ((i : Int) < (n : Int)) = true := decide_eq_true (by omega)
      have e2 : decide (i < n) = true := decide_eq_true (by omega)
      have hin : i < l.length := by rw [HL.out]; omega
      have hcx := Lv_cells' HC1.out hin
      have hvx := allV_get HF.out.2.2 hin
      generalize l.getD i Sy0 = x at hcx hvx
      obtain ⟨o, kk, s, c⟩ := x
      have x0 : wr.cell? ⟨b1, o1 + i * 4, none⟩ = some (.int .i64 o) := (SG.out.cell lb1 _).trans (hcx 0 _ rfl)
      have x1 : wr.cell? ⟨b1, o1 + i * 4 + 1, none⟩ = some (.int .i64 kk) := (SG.out.cell lb1 _).trans (hcx 1 _ rfl)
      have x2 : wr.cell? ⟨b1, o1 + i * 4 + 2, none⟩ = some (.int .i64 s) := (SG.out.cell lb1 _).trans (hcx 2 _ rfl)
      have x3 : wr.cell? ⟨b1, o1 + i * 4 + 3, none⟩ = some (.int .i64 c) := (SG.out.cell lb1 _).trans (hcx 3 _ rfl)
      have HV : Hid (Vs o kk s c) := Lib.hid hvx
      clear hcx hvx
      go_wp2_with fail
      refine (rTck_ok o kk s c _ HV.out).mono ?_
      rintro e w2 ⟨rfl, hg⟩
      have S2 := Lib.hid (SG.out.trans hg)
      clear hg
      go_wp2_with fail
      go_roundg g
      case measure => omega
      case rel => exact ⟨i + 1, by omega, by go_num, S2⟩
end Go.Proofs.Ytpnigndobhbfnaa
