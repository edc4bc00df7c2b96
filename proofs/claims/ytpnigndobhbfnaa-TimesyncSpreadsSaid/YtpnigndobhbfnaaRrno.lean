/- What the reference's Run returns. -/
import Derived.Test.YtpnigndobhbfnaaRrun
namespace Go.Proofs.Ytpnigndobhbfnaa
open Go.RowKit
set_option maxRecDepth 20000 in
set_option maxHeartbeats 1000000 in
theorem rRun_no1 (a1 a0 a2 : Option Addr) (n c1 m c0 k c2 : Nat) (zs : List Int) (w : World) (hz : zs.length = m) (h0 : Sz w (.slice a0 m c0) m (ivs zs)) (hd : dep zs = none) :
    Calls Try.prog 48 #[.slice a1 n c1, .slice a0 m c0, .slice a2 k c2] w fun e w' => e = .returned (.tuple #[.slice none 0 0, .int .i64 (-1), .int .i64 1]) ∧ Gr w w' := by
  have hde : dpE zs = 1 := by unfold dpE; rw [hd]; rfl
  have hdc := rDepths_sz zs (.slice a0 m c0) w (by rw [hz]; exact h0)
  rw [hde] at hdc
  have HDC := Lib.hid hdc
  clear hde hdc hd h0 hz
  go_enter Try.func48, Try.ntmps48
  go_wp2_with fail
  refine HDC.out.mono ?_
  rintro e w1 ⟨v1, rfl, _, hg⟩
  have S1 := Lib.hid hg
  clear hg HDC
  go_wp2_with fail
  go_ret3
  exact ⟨rfl, S1.out⟩
set_option maxRecDepth 20000 in
set_option maxHeartbeats 1000000 in
theorem rRun_no2 (a1 a0 a2 : Option Addr) (n c1 m c0 k c2 : Nat) (zs : List Int) (w : World) (hz : zs.length = m) (h0 : Sz w (.slice a0 m c0) m (ivs zs)) (hd : (dep zs).isSome) (hn : n ≠ m) :
    Calls Try.prog 48 #[.slice a1 n c1, .slice a0 m c0, .slice a2 k c2] w fun e w' => e = .returned (.tuple #[.slice none 0 0, .int .i64 (-1), .int .i64 1]) ∧ Gr w w' := by
  have hde : dpE zs = 0 := by unfold dpE; rw [hd]; rfl
  have hdc := rDepths_sz zs (.slice a0 m c0) w (by rw [hz]; exact h0)
  rw [hde] at hdc
  have HDC := Lib.hid hdc
  have e1 : ((n : Int) != (m : Int)) = true := by rw [bne_iff_ne]; omega
  have e2 : (n != m) = true := by rw [bne_iff_ne]; exact hn
  clear hde hdc hd h0 hz
  go_enter Try.func48, Try.ntmps48
  go_wp2_with fail
  refine HDC.out.mono ?_
  rintro e w1 ⟨v1, rfl, _, hg⟩
  have S1 := Lib.hid hg
  clear hg HDC
  go_wp2_with fail
  go_ret3
  exact ⟨rfl, S1.out⟩
set_option maxRecDepth 20000 in
set_option maxHeartbeats 4000000 in
theorem rRun_bad (b1 o1 n cap1 : Nat) (a0 a2 : Option Addr) (c0 k c2 : Nat) (l : List Sy) (zs : List Int) (w : World) (hl : l.length = n) (hz : zs.length = n) (hk4 : k ≤ 40) (hd : (dep zs).isSome) (hv : ¬ allV l) (hn : n ≤ 32)
    (hc1 : ∀ j u, (Lv l)[j]? = some u → w.cell? ⟨b1, o1 + j, none⟩ = some u) (lb1 : b1 < w.heap.size) (h0 : Sz w (.slice a0 n c0) n (ivs zs)) :
    Calls Try.prog 48 #[.slice (some ⟨b1, o1, none⟩) n cap1, .slice a0 n c0, .slice a2 k c2] w fun e w' => e = .returned (.tuple #[.slice none 0 0, .int .i64 (-1), .int .i64 1]) ∧ Gr w w' := by
  have hde : dpE zs = 0 := by unfold dpE; rw [hd]; rfl
  have hdc := rDepths_sz zs (.slice a0 n c0) w (by rw [hz]; exact h0)
  rw [hde] at hdc
  have HDC := Lib.hid hdc
  have HC1 := Lib.hid hc1
  have HV := Lib.hid hv
  have HL := Lib.hid hl
  have d1 : decide ((1024 : Int) < (k : Int)) = false := decide_eq_false (by omega)
  clear hde hdc hc1 hv hl hd h0 hz
  go_enter Try.func48, Try.ntmps48
  go_wp2_with fail
  refine HDC.out.mono ?_
  rintro e w1 ⟨v1, rfl, _, hg⟩
  have S1 := Lib.hid hg
  clear hg HDC
  go_wp2_with fail
  go_loopg [11] n (fun g s11 wr => ∃ i : Nat, i + g = n ∧ s11 = .int .i64 (i : Int) ∧ Hid (∀ j, j < i → (l.getD j Sy0).Vs) ∧ Hid (Gr w wr))
  case atStart => exact ⟨0, by omega, rfl, Lib.hid (fun j hj => absurd hj (Nat.not_lt_zero _)), S1⟩
  case round =>
    obtain ⟨i, hig, rfl, HA, SG⟩ := hrel
    cases gk with
    | zero =>
      refine absurd (fun x hx => ?_) HV.out
      obtain ⟨j, hj, rfl⟩ := List.getElem_of_mem hx
      have := HA.out j (by have := HL.out; omega)
      rwa [List.getD_eq_getElem?_getD, List.getElem?_eq_getElem hj] at this
    | succ g =>
      have e1 : decide ((i : Int) < (n : Int)) = true := decide_eq_true (by omega)
      have e2 : decide (i < n) = true := decide_eq_true (by omega)
      have hin : i < l.length := by rw [HL.out]; omega
      have hcx := Lv_cells' HC1.out hin
      obtain ⟨x, HX⟩ : ∃ x, Hid (l.getD i Sy0 = x) := ⟨_, Lib.hid rfl⟩
      rw [HX.out] at hcx
      obtain ⟨o, kk, s, c⟩ := x
      have x0 : wr.cell? ⟨b1, o1 + i * 4, none⟩ = some (.int .i64 o) := (SG.out.cell lb1 _).trans (hcx 0 _ rfl)
      have x1 : wr.cell? ⟨b1, o1 + i * 4 + 1, none⟩ = some (.int .i64 kk) := (SG.out.cell lb1 _).trans (hcx 1 _ rfl)
      have x2 : wr.cell? ⟨b1, o1 + i * 4 + 2, none⟩ = some (.int .i64 s) := (SG.out.cell lb1 _).trans (hcx 2 _ rfl)
      have x3 : wr.cell? ⟨b1, o1 + i * 4 + 3, none⟩ = some (.int .i64 c) := (SG.out.cell lb1 _).trans (hcx 3 _ rfl)
      clear hcx
      by_cases hq : Vs o kk s c
      · have HQ := Lib.hid hq
        clear hq
        go_wp2_with fail
        refine (rTck_ok o kk s c _ HQ.out).mono ?_
        rintro e w2 ⟨rfl, hg⟩
        have S2 := Lib.hid (SG.out.trans hg)
        clear hg
        go_wp2_with fail
        go_roundg g
        case measure => omega
        case rel => exact ⟨i + 1, by omega, by go_num, Lib.hid (fun j hj => by
          by_cases e : j = i
          · subst e; rw [HX.out]; exact HQ.out
          · exact HA.out j (by omega)), S2⟩
      · have HQ := Lib.hid hq
        clear hq
        go_wp2_with fail
        refine (rTck_no o kk s c _ HQ.out).mono ?_
        rintro e w2 ⟨rfl, hg⟩
        have S2 := Lib.hid (SG.out.trans hg)
        clear hg
        go_wp2_with fail
        go_ret3
        exact ⟨rfl, S2.out⟩
theorem Sz.ints {w : World} {v : Value} {n : Nat} {zs : List Int} (h : Sz w v n (ivs zs)) (hz : zs.length = n) (h0 : 0 < n) : ∃ b off cap, v = .slice (some ⟨b, off, none⟩) n cap ∧ b < w.heap.size ∧ ∀ j, j < n → w.cell? ⟨b, off + j, none⟩ = some (.int .i64 (zs.getD j 0)) := by
  rcases h with ⟨_, _, _, h, _⟩ | ⟨b, off, cap, e, l, h⟩
  · omega
  · exact ⟨b, off, cap, e, l, fun j hj => h j _ (ivs_at (by omega))⟩
theorem Sz.cells {w : World} {v : Value} {n : Nat} {cs : List Value} (h : Sz w v n cs) (h0 : 0 < n) : ∃ b off cap, v = .slice (some ⟨b, off, none⟩) n cap ∧ b < w.heap.size ∧ ∀ j u, cs[j]? = some u → w.cell? ⟨b, off + j, none⟩ = some u := by
  rcases h with ⟨_, _, _, h, _⟩ | h
  · omega
  · exact h
theorem dep_len {zs : List Int} (h : (dep zs).isSome) : 0 < zs.length ∧ zs.length ≤ 32 := by
  obtain ⟨ds, hd⟩ := Option.isSome_iff_exists.1 h
  have := (dep_node hd).1
  exact ⟨this.1, this.2.1⟩
/-- The reference's Run. -/
theorem rRun_any (l : List Sy) (zs : List Int) (xs : List Stp) (v1 v0 v2 : Value) (w : World) (h1 : Sz w v1 l.length (Lv l)) (h0 : Sz w v0 zs.length (ivs zs)) (h2 : Sz w v2 xs.length (Lt xs)) (hk : xs.length ≤ 40) :
    Calls Try.prog 48 #[v1, v0, v2] w (RunPost l zs xs w) := by
  obtain ⟨a1, c1, rfl⟩ := h1.slice
  obtain ⟨a0, c0, rfl⟩ := h0.slice
  obtain ⟨a2, c2, rfl⟩ := h2.slice
  by_cases hd : (dep zs).isSome
  · have hdl := dep_len hd
    by_cases hl : l.length = zs.length
    · obtain ⟨b1, o1, cc1, e1, lb1, hc1⟩ := h1.cells (by omega)
      injection e1 with e1 _ e1'
      subst e1; subst e1'
      by_cases hv : allV l
      · obtain ⟨b0, o0, cc0, e0, lb0, hc0⟩ := h0.ints rfl (by omega)
        injection e0 with e0 _ e0'
        subst e0; subst e0'
        rw [hl]
        exact rRun_ok b1 o1 zs.length c1 b0 o0 c0 a2 xs.length c2 l zs xs w hl rfl rfl hk ⟨hd, hl, hv⟩ (by omega) (by omega) hc1 lb1 hc0 lb0 h2
      · rw [hl]
        exact (rRun_bad b1 o1 zs.length c1 a0 a2 c0 xs.length c2 l zs w hl rfl hk hd hv (by omega) hc1 lb1 h0).mono fun e w' ⟨he, hg⟩ => he ▸ RunPost.no (fun h => hv h.2.2) hg
    · exact (rRun_no2 a1 a0 a2 l.length c1 zs.length c0 xs.length c2 zs w rfl h0 hd hl).mono fun e w' ⟨he, hg⟩ => he ▸ RunPost.no (fun h => hl h.2.1) hg
  · exact (rRun_no1 a1 a0 a2 l.length c1 zs.length c0 xs.length c2 zs w rfl h0 (by simpa using hd)).mono fun e w' ⟨he, hg⟩ => he ▸ RunPost.no (fun h => hd h.1) hg
end Go.Proofs.Ytpnigndobhbfnaa
