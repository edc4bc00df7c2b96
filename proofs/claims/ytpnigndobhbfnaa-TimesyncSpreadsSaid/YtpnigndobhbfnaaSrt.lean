/- slices.IsSortedFunc over depths. -/
import Derived.Test.YtpnigndobhbfnaaDpt
import Derived.Test.YtpnigndobhbfnaaTdw
import Derived.Test.YtpnigndobhbfnaaRn
import Derived.BigQuiet
namespace Go.Proofs.Ytpnigndobhbfnaa
open Go.RowKit
set_option maxHeartbeats 400000 in
/-- The closure that compares two depths. -/
theorem Spreads1 (a b : Int) (w : World) (h0 : -1000 ≤ a - b) (h1 : a - b ≤ 1000) : Calls Try.prog 54 #[.int .i64 a, .int .i64 b] w fun e w' => e = .returned (.int .i64 (a - b)) ∧ w' = w := by
  have hw : IntKind.i64.wrap (a - b) = a - b := by rw [IntKind.wrap_i64]; omega
  go_enter Try.func54, Try.ntmps54
  go_wp2_with fail
  go_ret
  exact ⟨rfl, rfl⟩
/-- Is a list of depths in order? -/
def Srt (ds : List Nat) : Prop := ∀ j, j < ds.length → 0 < j → ds.getD (j - 1) 0 ≤ ds.getD j 0
instance (ds : List Nat) : Decidable (Srt ds) := inferInstanceAs (Decidable (∀ j, j < ds.length → (0 < j → ds.getD (j - 1) 0 ≤ ds.getD j 0)))
theorem Srt.le {ds : List Nat} (h : Srt ds) : ∀ i k, i ≤ k → k < ds.length → ds.getD i 0 ≤ ds.getD k 0 := by
  intro i k hik
  induction k with
  | zero => intro _; obtain rfl : i = 0 := by omega
            exact Nat.le_refl _
  | succ k ih =>
    intro hk
    by_cases e : i = k + 1
    · subst e; exact Nat.le_refl _
    · exact Nat.le_trans (ih (by omega) (by omega)) (h (k + 1) hk (by omega))
set_option maxRecDepth 20000 in
set_option maxHeartbeats 2000000 in
theorem Is53 (g cap n : Nat) (ds : List Nat) (w : World) (hl : ds.length = n) (h1 : 1 ≤ n) (hn : n ≤ 32) (hb : ∀ j, j < n → ds.getD j 0 ≤ 100) (K : Bx w g (nvs ds)) :
    Calls Try.prog 53 #[.slice (some ⟨g, 0, none⟩) n cap, .func (.func 54) #[] #[]] w fun e w' => e = .returned (.bool (decide (Srt ds))) ∧ Gr w w' := by
  have HL := Lib.hid hl
  have HB := Lib.hid hb
  have HK := Lib.hid K
  have ww : IntKind.i64.wrap ((n : Int) - 1) = ((n - 1 : Nat) : Int) := by rw [IntKind.wrap_i64]; omega
  clear hl hb K
  go_enter Try.func53, Try.ntmps53
  go_wp2_with fail
  clear ww
  go_loopg [5] (n - 1) (fun gg s wr => ∃ i : Nat, i = gg ∧ i < n ∧ s = .int .i64 (i : Int) ∧ Hid (∀ j, i < j → j < n → ds.getD (j - 1) 0 ≤ ds.getD j 0) ∧ Hid (Gr w wr))
  case atStart => exact ⟨n - 1, rfl, by omega, by first | rfl | go_num, Lib.hid (fun j h0 h1 => by omega), Lib.hid (Gr.refl _)⟩
  case round =>
    obtain ⟨i, rfl, hin, rfl, HA, SG⟩ := hrel
    cases i with
    | zero =>
      have hs : decide (Srt ds) = true := decide_eq_true (fun j hj h0 => HA.out j h0 (by rw [← HL.out]; exact hj))
      have HS := Lib.hid hs
      clear hs
      go_wp2_with fail
      go_ret
      exact ⟨by rw [HS.out]; rfl, SG.out⟩
    | succ i =>
      have e0 : decide ((0 : Int) < ((i + 1 : Nat) : Int)) = true := decide_eq_true (by omega)
      have ww1 : IntKind.i64.wrap (((i + 1 : Nat) : Int) - 1) = (i : Int) := by rw [IntKind.wrap_i64]; omega
      have ww2 : IntKind.i64.wrap ((i : Int) + 1 - 1) = (i : Int) := by rw [IntKind.wrap_i64]; omega
      have hi1 : ((i + 1 : Nat) : Int) < (n : Int) := by omega
      have hi2 : (i : Int) < (n : Int) := by omega
      have KX := HK.out.gr SG.out
      have x0 : wr.cell? ⟨g, i + 1, none⟩ = some (.int .i64 (ds.getD (i + 1) 0 : Nat)) := KX.c (i + 1) _ (nvs_at (by rw [HL.out]; omega))
      have x1 : wr.cell? ⟨g, i, none⟩ = some (.int .i64 (ds.getD i 0 : Nat)) := KX.c i _ (nvs_at (by rw [HL.out]; omega))
      have b0 := HB.out (i + 1) hin
      have b1 := HB.out i (by omega)
      obtain ⟨p, HP⟩ : ∃ p, Hid (ds.getD (i + 1) 0 = p) := ⟨_, Lib.hid rfl⟩
      obtain ⟨q, HQ⟩ : ∃ q, Hid (ds.getD i 0 = q) := ⟨_, Lib.hid rfl⟩
      rw [HP.out] at x0 b0
      rw [HQ.out] at x1 b1
      clear KX
      by_cases hpq : p < q
      · have e1 : decide ((p : Int) - (q : Int) < 0) = true := decide_eq_true (by omega)
        have hs : decide (Srt ds) = false := decide_eq_false (fun h => by
          have := h (i + 1) (by rw [HL.out]; exact hin) (by omega)
          rw [Nat.add_sub_cancel, HP.out, HQ.out] at this
          omega)
        have HS := Lib.hid hs
        clear hs
        go_wp2_with fail
        go_quiet ((go_at_call 54; refine Calls.quiet_of_same (Spreads1 _ _ _ (by omega) (by omega))))
        have SG3 := Lib.hid (SG.out.drewN nq)
        generalize wr.drewN nq = wz at SG3 ⊢
        go_wp2_with fail
        go_ret
        exact ⟨by rw [HS.out]; rfl, SG3.out⟩
      · have e1 : decide ((p : Int) - (q : Int) < 0) = false := decide_eq_false (by omega)
        have HA2 : Hid (∀ j, i < j → j < n → ds.getD (j - 1) 0 ≤ ds.getD j 0) := Lib.hid (fun j h0 h1 => by
          by_cases e : j = i + 1
          · subst e; rw [Nat.add_sub_cancel, HP.out, HQ.out]; omega
          · exact HA.out j (by omega) h1)
        go_wp2_with fail
        go_quiet ((go_at_call 54; refine Calls.quiet_of_same (Spreads1 _ _ _ (by omega) (by omega))))
        have SG3 := Lib.hid (SG.out.drewN nq)
        generalize wr.drewN nq = wz at SG3 ⊢
        clear x0 x1
        go_wp2_with fail
        go_roundg i
        case measure => omega
        case rel => exact ⟨i, rfl, by omega, by go_num, HA2, SG3⟩
end Go.Proofs.Ytpnigndobhbfnaa
