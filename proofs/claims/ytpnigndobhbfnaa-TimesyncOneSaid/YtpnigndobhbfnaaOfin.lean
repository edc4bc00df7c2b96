/- TimesyncOne, whatever the arguments. -/
import Derived.Test.YtpnigndobhbfnaaOw
namespace Go.Proofs.Ytpnigndobhbfnaa
open Go.RowKit
set_option maxRecDepth 20000 in
set_option maxHeartbeats 1000000 in
theorem TO_big (a1 a0 a2 : Option Addr) (n c1 m c0 k c2 : Nat) (u : Int) (w : World) (h : 40 < n ∨ (n ≤ 40 ∧ 40 < m) ∨ (n ≤ 40 ∧ m ≤ 40 ∧ 40 < k)) :
    Calls Try.prog 25 #[.agg #[.slice a1 n c1, .slice a0 m c0], .slice a2 k c2, .int .u8 u] w fun e w' => e = .returned (.bool true) ∧ Gr w w' := by
  rcases h with h | ⟨h, h'⟩ | ⟨h, h', h''⟩
  · have d1 : decide ((40 : Int) < (n : Int)) = true := decide_eq_true (by omega)
    go_enter Try.func25, Try.ntmps25
    go_wp2_with fail
    have g0 : Gr w (w.alloc (Obj.cells #[.slice a1 n c1, .slice a0 m c0] 36)) := Gr.alloc (Gr.refl _) _
    have bx : Bx (w.alloc (Obj.cells #[.slice a1 n c1, .slice a0 m c0] 36)) w.heap.size [.slice a1 n c1, .slice a0 m c0] := Bx.new w _ 36
    generalize w.alloc (Obj.cells #[.slice a1 n c1, .slice a0 m c0] 36) = W0 at g0 bx ⊢
    generalize w.heap.size = xb at bx ⊢
    have S0 := Lib.hid g0
    have K0 := Lib.hid bx
    clear g0 bx
    refine (awake10 _).mono ?_
    rintro e w1 ⟨rfl, hg⟩
    have S1 := Lib.hid (S0.out.trans hg)
    have K1 := Lib.hid (K0.out.gr hg)
    clear hg
    have x0 := K1.out.c 0 _ rfl
    have x1 := K1.out.c 1 _ rfl
    go_wp2_with fail
    go_ret
    exact ⟨rfl, S1.out⟩
  · have d1 : decide ((40 : Int) < (n : Int)) = false := decide_eq_false (by omega)
    have d2 : decide ((40 : Int) < (m : Int)) = true := decide_eq_true (by omega)
    go_enter Try.func25, Try.ntmps25
    go_wp2_with fail
    have g0 : Gr w (w.alloc (Obj.cells #[.slice a1 n c1, .slice a0 m c0] 36)) := Gr.alloc (Gr.refl _) _
    have bx : Bx (w.alloc (Obj.cells #[.slice a1 n c1, .slice a0 m c0] 36)) w.heap.size [.slice a1 n c1, .slice a0 m c0] := Bx.new w _ 36
    generalize w.alloc (Obj.cells #[.slice a1 n c1, .slice a0 m c0] 36) = W0 at g0 bx ⊢
    generalize w.heap.size = xb at bx ⊢
    have S0 := Lib.hid g0
    have K0 := Lib.hid bx
    clear g0 bx
    refine (awake10 _).mono ?_
    rintro e w1 ⟨rfl, hg⟩
    have S1 := Lib.hid (S0.out.trans hg)
    have K1 := Lib.hid (K0.out.gr hg)
    clear hg
    have x0 := K1.out.c 0 _ rfl
    have x1 := K1.out.c 1 _ rfl
    go_wp2_with fail
    go_ret
    exact ⟨rfl, S1.out⟩
  · have d1 : decide ((40 : Int) < (n : Int)) = false := decide_eq_false (by omega)
    have d2 : decide ((40 : Int) < (m : Int)) = false := decide_eq_false (by omega)
    have d3 : decide ((40 : Int) < (k : Int)) = true := decide_eq_true (by omega)
    go_enter Try.func25, Try.ntmps25
    go_wp2_with fail
    have g0 : Gr w (w.alloc (Obj.cells #[.slice a1 n c1, .slice a0 m c0] 36)) := Gr.alloc (Gr.refl _) _
    have bx : Bx (w.alloc (Obj.cells #[.slice a1 n c1, .slice a0 m c0] 36)) w.heap.size [.slice a1 n c1, .slice a0 m c0] := Bx.new w _ 36
    generalize w.alloc (Obj.cells #[.slice a1 n c1, .slice a0 m c0] 36) = W0 at g0 bx ⊢
    generalize w.heap.size = xb at bx ⊢
    have S0 := Lib.hid g0
    have K0 := Lib.hid bx
    clear g0 bx
    refine (awake10 _).mono ?_
    rintro e w1 ⟨rfl, hg⟩
    have S1 := Lib.hid (S0.out.trans hg)
    have K1 := Lib.hid (K0.out.gr hg)
    clear hg
    have x0 := K1.out.c 0 _ rfl
    have x1 := K1.out.c 1 _ rfl
    go_wp2_with fail
    go_ret
    exact ⟨rfl, S1.out⟩
/-- What TimesyncOne asks of the plain functions, where Run fails. -/
theorem one_er {l : List Sy} {zs : List Int} {xs : List Stp} {rl : List Sy} {ri re : Int} (h : runN l zs xs = (rl, ri, re)) (he : re ≠ 0) : rl = [] ∧ -1 ≤ ri ∧ ri < (xs.length : Int) := by
  unfold runN at h
  split at h
  · have := runs_er h he
    exact ⟨this.1, by omega, by omega⟩
  · injection h with h1 h2
    injection h2 with h2 h3
    subst h1; subst h2
    exact ⟨rfl, by omega, by omega⟩
/-- The same where it does not: the states behind several corrections are those behind the first ones, corrected by the others. -/
theorem one_ok {l : List Sy} {zs : List Int} {xs : List Stp} {rl : List Sy} {ri : Int} (h : runN l zs xs = (rl, ri, 0)) (kk : Nat) :
    ri = -1 ∧ rl.length = l.length ∧ (∀ i : Nat, (∀ x ∈ xs, x.m ≠ (i : Int)) → rl.getD i Sy0 = l.getD i Sy0) ∧ ∃ r1, runN l zs (xs.take kk) = (r1, -1, 0) ∧ runN r1 zs (xs.drop kk) = (rl, -1, 0) ∧ r1.length = l.length := by
  unfold runN at h
  split at h
  · rename_i hf
    obtain ⟨_, hl, rfl⟩ := runs_ok hf.2.2 h
    have h' := h
    rw [← List.take_append_drop kk xs] at h'
    obtain ⟨r1, ha, hb⟩ := runs_app h'
    obtain ⟨hv1, hl1, _⟩ := runs_ok hf.2.2 ha
    have hf1 : fits r1 zs := ⟨hf.1, by rw [hl1]; exact hf.2.1, hv1⟩
    refine ⟨rfl, hl, fun i hi => runs_keep i h hi, r1, ?_, ?_, hl1⟩
    · unfold runN; rw [if_pos hf]; exact ha
    · unfold runN; rw [if_pos hf1]; exact runs_at hb
  · injection h with _ h
    injection h with _ h
    exact absurd h (by decide)
/-- TimesyncOne, whatever the arguments. -/
theorem TimesyncOne_walk (v1 v0 v2 : Value) (l : List Sy) (zs : List Int) (xs : List Stp) (u : Int) (w : World) (h1 : Sz w v1 l.length (Lv l)) (h0 : Sz w v0 zs.length (ivs zs)) (h2 : Sz w v2 xs.length (Lt xs) ∧ Roomy v2) (u0 : 0 ≤ u) (u1 : u ≤ 255) :
    Calls Try.prog 25 #[.agg #[v1, v0], v2, .int .u8 u] w fun e w' => e = .returned (.bool true) ∧ Gr w w' := by
  obtain ⟨a1, c1, rfl⟩ := h1.slice
  obtain ⟨a0, c0, rfl⟩ := h0.slice
  obtain ⟨a2, c2, rfl⟩ := h2.1.slice
  have hkc := h2.2 _ _ _ rfl
  have h2 := h2.1
  by_cases hb : 40 < l.length ∨ (l.length ≤ 40 ∧ 40 < zs.length) ∨ (l.length ≤ 40 ∧ zs.length ≤ 40 ∧ 40 < xs.length)
  · exact TO_big a1 a0 a2 _ c1 _ c0 _ c2 u w hb
  obtain ⟨⟨rl, ri, re⟩, hr⟩ : ∃ r, runN l zs xs = r := ⟨_, rfl⟩
  by_cases he : re = 0
  · subst he
    obtain ⟨n, rfl⟩ := Int.eq_ofNat_of_zero_le u0
    have hlt : n % (xs.length + 1) < xs.length + 1 := Nat.mod_lt _ (by omega)
    have htm : ((n : Nat) : Int).tmod ((xs.length : Int) + 1) = ((n % (xs.length + 1) : Nat) : Int) := by
      rw [show ((xs.length : Int) + 1) = ((xs.length + 1 : Nat) : Int) by omega, Int.ofNat_tmod]
    generalize n % (xs.length + 1) = kk at hlt htm
    obtain ⟨rfl, hlr, hkeep, r1, hrf, hrs, hl1⟩ := one_ok hr kk
    cases a2 with
    | none =>
      have hk0 : xs.length = 0 := by
        rcases h2 with ⟨_, _, _, h, _⟩ | ⟨_, _, _, e, _⟩
        · exact h
        · injection e with e; cases e
      obtain rfl : kk = 0 := by omega
      rw [hk0] at h2 ⊢
      exact TO_III l.length c1 zs.length c0 c2 a1 a0 l zs xs n w h1 h0 h2 rfl rfl hk0 (by omega) (by omega) u0 u1 rl r1 hr hrf hrs hl1 hlr hkeep
    | some ad =>
      by_cases hc : kk < c2
      · exact TO_I ad l.length c1 zs.length c0 xs.length c2 a1 a0 l zs xs n w h1 h0 h2 rfl rfl rfl (by omega) (by omega) (by omega) kk (by omega) hc u0 u1 htm rl r1 hr hrf hrs hl1 hlr hkeep
      · obtain rfl : kk = xs.length := by omega
        obtain rfl : c2 = xs.length := by omega
        exact TO_II ad l.length c1 zs.length c0 xs.length a1 a0 l zs xs n w h1 h0 h2 rfl rfl rfl (by omega) (by omega) (by omega) u0 u1 htm rl r1 hr hrf hrs hl1 hlr hkeep
  · obtain ⟨rfl, hr0, hr1⟩ := one_er hr he
    exact TO_er a2 l.length c1 zs.length c0 xs.length c2 a1 a0 l zs xs u w h1 h0 h2 rfl rfl rfl (by omega) (by omega) (by omega) ri re hr he hr0 hr1
end Go.Proofs.Ytpnigndobhbfnaa
