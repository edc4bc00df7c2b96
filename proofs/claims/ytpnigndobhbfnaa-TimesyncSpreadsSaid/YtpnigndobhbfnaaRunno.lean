/- What timesync.Run returns. -/
import Derived.Test.YtpnigndobhbfnaaRun
import Derived.Test.YtpnigndobhbfnaaRrno
namespace Go.Proofs.Ytpnigndobhbfnaa
open Go.RowKit
set_option maxRecDepth 20000 in
set_option maxHeartbeats 1000000 in
theorem Run_no1 (a1 a0 a2 : Option Addr) (n c1 m c0 k c2 : Nat) (zs : List Int) (w : World) (hz : zs.length = m) (h0 : Sz w (.slice a0 m c0) m (ivs zs)) (hd : dep zs = none) :
    Calls Try.prog 45 #[.slice a1 n c1, .slice a0 m c0, .slice a2 k c2] w fun e w' => e = .returned (.tuple #[.slice none 0 0, .int .i64 (-1), .int .i64 1]) ∧ Gr w w' := by
  have hde : dpE zs = 1 := by unfold dpE; rw [hd]; rfl
  have hdc := Depths_sz zs (.slice a0 m c0) w (by rw [hz]; exact h0)
  rw [hde] at hdc
  have HDC := Lib.hid hdc
  clear hde hdc hd h0 hz
  go_enter Try.func45, Try.ntmps45
  go_wp2_with fail
  refine HDC.out.mono ?_
  rintro e w1 ⟨v1, rfl, _, hg⟩
  have S1 := Lib.hid hg
  clear hg HDC
  go_wp2_with fail
  go_ret3
  exact ⟨rfl, S1.out⟩
set_option maxRecDepth 20000 in
set_option maxHeartbeats 1000000 in
theorem Run_no2 (a1 a0 a2 : Option Addr) (n c1 m c0 k c2 : Nat) (zs : List Int) (w : World) (hz : zs.length = m) (h0 : Sz w (.slice a0 m c0) m (ivs zs)) (hd : (dep zs).isSome) (hn : n ≠ m) :
    Calls Try.prog 45 #[.slice a1 n c1, .slice a0 m c0, .slice a2 k c2] w fun e w' => e = .returned (.tuple #[.slice none 0 0, .int .i64 (-1), .int .i64 1]) ∧ Gr w w' := by
  have hde : dpE zs = 0 := by unfold dpE; rw [hd]; rfl
  have hdc := Depths_sz zs (.slice a0 m c0) w (by rw [hz]; exact h0)
  rw [hde] at hdc
  have HDC := Lib.hid hdc
  have e1 : ((n : Int) != (m : Int)) = true := by rw [bne_iff_ne]; omega
  have e2 : (n != m) = true := by rw [bne_iff_ne]; exact hn
  clear hde hdc hd h0 hz
  go_enter Try.func45, Try.ntmps45
  go_wp2_with fail
  refine HDC.out.mono ?_
  rintro e w1 ⟨v1, rfl, _, hg⟩
  have S1 := Lib.hid hg
  clear hg HDC
  go_wp2_with fail
  go_ret3
  exact ⟨rfl, S1.out⟩
set_option maxRecDepth 20000 in
set_option maxHeartbeats 1000000 in
theorem Run_bad (a1 a0 a2 : Option Addr) (n c1 c0 k c2 : Nat) (l : List Sy) (zs : List Int) (w : World) (hl : l.length = n) (hz : zs.length = n) (hk4 : k ≤ 40) (hd : (dep zs).isSome) (hv : ¬ allV l) (hn : n ≤ 32)
    (h1 : Sz w (.slice a1 n c1) n (Lv l)) (h0 : Sz w (.slice a0 n c0) n (ivs zs)) :
    Calls Try.prog 45 #[.slice a1 n c1, .slice a0 n c0, .slice a2 k c2] w fun e w' => e = .returned (.tuple #[.slice none 0 0, .int .i64 (-1), .int .i64 1]) ∧ Gr w w' := by
  have hde : dpE zs = 0 := by unfold dpE; rw [hd]; rfl
  have hdc := Depths_sz zs (.slice a0 n c0) w (by rw [hz]; exact h0)
  rw [hde] at hdc
  have hcf := fun W (G : Gr w W) => CF98 99 Run1 (enters_of Try.func99 (by kernel_rfl) rfl) (.slice a1 n c1) n l W (h1.gr G) hl (by omega)
  rw [decide_eq_false hv, Bool.not_false] at hcf
  have HDC := Lib.hid hdc
  have HCF := Lib.hid hcf
  have d1 : decide ((1024 : Int) < (k : Int)) = false := decide_eq_false (by omega)
  clear hde hdc hcf hd h0 hz h1 hv hl
  go_enter Try.func45, Try.ntmps45
  go_wp2_with fail
  refine HDC.out.mono ?_
  rintro e w1 ⟨v1, rfl, _, hg⟩
  have S1 := Lib.hid hg
  clear hg HDC
  go_wp2_with fail
  refine (HCF.out _ S1.out).mono ?_
  rintro e w2 ⟨rfl, hg⟩
  have S2 := Lib.hid (S1.out.trans hg)
  clear hg HCF
  go_wp2_with fail
  go_ret3
  exact ⟨rfl, S2.out⟩
/-- What Run returns. -/
theorem Run_any (l : List Sy) (zs : List Int) (xs : List Stp) (v1 v0 v2 : Value) (w : World) (h1 : Sz w v1 l.length (Lv l)) (h0 : Sz w v0 zs.length (ivs zs)) (h2 : Sz w v2 xs.length (Lt xs)) (hk : xs.length ≤ 40) :
    Calls Try.prog 45 #[v1, v0, v2] w (RunPost l zs xs w) := by
  obtain ⟨a1, c1, rfl⟩ := h1.slice
  obtain ⟨a0, c0, rfl⟩ := h0.slice
  obtain ⟨a2, c2, rfl⟩ := h2.slice
  by_cases hd : (dep zs).isSome
  · have hdl := dep_len hd
    by_cases hl : l.length = zs.length
    · by_cases hv : allV l
      · obtain ⟨b1, o1, cc1, e1, lb1, hc1⟩ := h1.cells (by omega)
        injection e1 with e1 _ e1'
        subst e1; subst e1'
        obtain ⟨b0, o0, cc0, e0, lb0, hc0⟩ := h0.ints rfl (by omega)
        injection e0 with e0 _ e0'
        subst e0; subst e0'
        rw [hl]
        exact Run_ok b1 o1 zs.length c1 b0 o0 c0 a2 xs.length c2 l zs xs w hl rfl rfl hk ⟨hd, hl, hv⟩ (by omega) (by omega) hc1 lb1 hc0 lb0 h2
      · rw [hl] at h1 ⊢
        exact (Run_bad a1 a0 a2 zs.length c1 c0 xs.length c2 l zs w hl rfl hk hd hv (by omega) h1 h0).mono fun e w' ⟨he, hg⟩ => he ▸ RunPost.no (fun h => hv h.2.2) hg
    · exact (Run_no2 a1 a0 a2 l.length c1 zs.length c0 xs.length c2 zs w rfl h0 hd hl).mono fun e w' ⟨he, hg⟩ => he ▸ RunPost.no (fun h => hl h.2.1) hg
  · exact (Run_no1 a1 a0 a2 l.length c1 zs.length c0 xs.length c2 zs w rfl h0 (by simpa using hd)).mono fun e w' ⟨he, hg⟩ => he ▸ RunPost.no (fun h => hd h.1) hg
end Go.Proofs.Ytpnigndobhbfnaa
