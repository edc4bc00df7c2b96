/- What timesync.Spread returns. -/
import Derived.Test.YtpnigndobhbfnaaSpr
namespace Go.Proofs.Ytpnigndobhbfnaa
open Go.RowKit
set_option maxHeartbeats 1000000 in
theorem Spread_many (a1 : Option Addr) (n c1 : Nat) (t : Int) (w : World) (hn : 32 < n) :
    Calls Try.prog 49 #[.slice a1 n c1, .int .i64 t] w fun e w' => e = .returned (.tuple #[.int .i64 0, .int .i64 1]) ∧ Gr w w' := by
  have d1 : decide ((32 : Int) < (n : Int)) = true := decide_eq_true (by omega)
  go_enter Try.func49, Try.ntmps49
  go_wp2_with fail
  go_ret2
  exact ⟨rfl, Gr.refl _⟩
set_option maxHeartbeats 1000000 in
theorem Spread_bad (a1 : Option Addr) (n c1 : Nat) (l : List Sy) (t : Int) (w : World) (hs : Sz w (.slice a1 n c1) n (Lv l)) (hl : l.length = n) (hn : n ≤ 32) (hv : ¬ allV l) :
    Calls Try.prog 49 #[.slice a1 n c1, .int .i64 t] w fun e w' => e = .returned (.tuple #[.int .i64 0, .int .i64 1]) ∧ Gr w w' := by
  have hcf := fun W (G : Gr w W) => CF98 103 Spread1 (enters_of Try.func103 (by kernel_rfl) rfl) (.slice a1 n c1) n l W (hs.gr G) hl (by omega)
  rw [decide_eq_false hv, Bool.not_false] at hcf
  have HCF := Lib.hid hcf
  have d1 : decide ((32 : Int) < (n : Int)) = false := decide_eq_false (by omega)
  have d2 : decide (32 < n) = false := decide_eq_false (by omega)
  clear hcf hs hl hv
  go_enter Try.func49, Try.ntmps49
  go_wp2_with fail
  refine (HCF.out _ (Gr.refl _)).mono ?_
  rintro e w1 ⟨rfl, hg⟩
  have S1 := Lib.hid hg
  clear hg HCF
  go_wp2_with fail
  go_ret2
  exact ⟨rfl, S1.out⟩
set_option maxHeartbeats 1000000 in
theorem Spread_time (a1 : Option Addr) (n c1 : Nat) (l : List Sy) (t : Int) (w : World) (hs : Sz w (.slice a1 n c1) n (Lv l)) (hl : l.length = n) (hn : n ≤ 32) (hv : allV l) (ht : t < 0 ∨ (0 ≤ t ∧ 1099511627776 < t)) :
    Calls Try.prog 49 #[.slice a1 n c1, .int .i64 t] w fun e w' => e = .returned (.tuple #[.int .i64 0, .int .i64 2]) ∧ Gr w w' := by
  have hcf := fun W (G : Gr w W) => CF98 103 Spread1 (enters_of Try.func103 (by kernel_rfl) rfl) (.slice a1 n c1) n l W (hs.gr G) hl (by omega)
  rw [decide_eq_true hv, Bool.not_true] at hcf
  have HCF := Lib.hid hcf
  have d1 : decide ((32 : Int) < (n : Int)) = false := decide_eq_false (by omega)
  have d2 : decide (32 < n) = false := decide_eq_false (by omega)
  clear hcf hs hl hv
  rcases ht with ht | ⟨ht, ht1⟩
  · have d3 : decide (t < 0) = true := decide_eq_true ht
    go_enter Try.func49, Try.ntmps49
    go_wp2_with fail
    refine (HCF.out _ (Gr.refl _)).mono ?_
    rintro e w1 ⟨rfl, hg⟩
    have S1 := Lib.hid hg
    clear hg HCF
    go_wp2_with fail
    go_ret2
    exact ⟨rfl, S1.out⟩
  · have d3 : decide (t < 0) = false := decide_eq_false (by omega)
    have d4 : decide ((1099511627776 : Int) < t) = true := decide_eq_true ht1
    go_enter Try.func49, Try.ntmps49
    go_wp2_with fail
    refine (HCF.out _ (Gr.refl _)).mono ?_
    rintro e w1 ⟨rfl, hg⟩
    have S1 := Lib.hid hg
    clear hg HCF
    go_wp2_with fail
    go_ret2
    exact ⟨rfl, S1.out⟩
/-- v is a slice whose capacity is not less than its length. -/
def Roomy (v : Value) : Prop := ∀ a n c, v = .slice a n c → n ≤ c
theorem Owc.roomy {base : Nat} {w : World} {v : Value} {n : Nat} {cs : List Value} (h : Owc base w v n cs) : Roomy v := by
  intro a m c e
  rcases h with ⟨e1, _⟩ | ⟨g, cap, e1, h, _⟩
  · rw [e1] at e; injection e with _ e2 e3; omega
  · rw [e1] at e; injection e with _ e2 e3; omega
/-- What Spread returns. -/
theorem Spread_any2 (l : List Sy) (t : Int) (v : Value) (w : World) (hs : Sz w v l.length (Lv l)) (hr : Roomy v) :
    Calls Try.prog 49 #[v, .int .i64 t] w fun e w' => e = .returned (.tuple #[.int .i64 (spN l t), .int .i64 (spE l t)]) ∧ Gr w w' := by
  obtain ⟨a1, c1, rfl⟩ := hs.slice
  have hnc := hr _ _ _ rfl
  unfold spN spE
  by_cases hn : l.length ≤ 32
  · by_cases hv : allV l
    · have ho : spOk l := ⟨hn, hv⟩
      by_cases ht : inTime t
      · rw [if_pos ⟨ho, ht⟩, if_pos ho, if_pos ht]
        exact Spread_ok a1 l.length c1 l t w hs hnc rfl ho ht
      · rw [if_neg (fun h => ht h.2), if_pos ho, if_neg ht]
        exact Spread_time a1 l.length c1 l t w hs rfl hn hv (by unfold inTime at ht; omega)
    · rw [if_neg (fun h => hv h.1.2), if_neg (fun h => hv h.2)]
      exact Spread_bad a1 l.length c1 l t w hs rfl hn hv
  · rw [if_neg (fun h => hn h.1.1), if_neg (fun h => hn h.1)]
    exact Spread_many a1 l.length c1 t w (by omega)
end Go.Proofs.Ytpnigndobhbfnaa
