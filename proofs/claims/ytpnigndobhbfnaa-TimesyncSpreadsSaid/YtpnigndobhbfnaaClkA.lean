/- The walks of package clock, first part: floor, the dial, Check, At, sort.Search: each Go function returns what the plain functions say. -/
import Derived.Test.YtpnigndobhbfnaaRows
import Derived.Test.YtpnigndobhbfnaaMath
import Derived.WalkKit
import Derived.WalkSpells
import Derived.WalkLawsBesides
import Derived.Deep.QuietTactic
import Derived.Deep.Draws
import Derived.Deep.LoopGhost
import Derived.BigQuiet
import Derived.Lib.Hide
namespace Go.Proofs.Ytpnigndobhbfnaa
open Go.RowKit
set_option maxHeartbeats 400000 in
theorem floor_any (a : Int) (w : World) (h0 : -9000000000000000000 ≤ a) (h1 : a ≤ 9000000000000000000) :
    Calls Try.prog 122 #[.int .i64 a, .int .i64 1000000000] w fun e w' => e = .returned (.int .i64 (a / 1000000000)) ∧ w = w' := by
  have hb : -9000000000000000001 ≤ a / 1000000000 ∧ a / 1000000000 ≤ 9000000000000000000 := by omega
  by_cases h : a.tmod 1000000000 < 0
  · have hf := floor_neg h
    have hw : wrap64 (a.tdiv 1000000000 - 1) = a / 1000000000 := by rw [hf]; unfold wrap64; omega
    have Hw := Lib.hid hw
    clear hf hw hb
    go_enter Try.func122, Try.ntmps122
    go_wp2
    go_ret
    exact ⟨congrArg (fun z => Ending.returned (.int .i64 z)) Hw.out, rfl⟩
  · have hf := Lib.hid (floor_pos h)
    clear hb
    go_enter Try.func122, Try.ntmps122
    go_wp2
    go_ret
    exact ⟨congrArg (fun z => Ending.returned (.int .i64 z)) hf.out, rfl⟩

set_option maxHeartbeats 400000 in
theorem rfloor_any (a : Int) (w : World) (h0 : -9000000000000000000 ≤ a) (h1 : a ≤ 9000000000000000000) :
    Calls Try.prog 124 #[.int .i64 a, .int .i64 1000000000] w fun e w' => e = .returned (.int .i64 (a / 1000000000)) ∧ w = w' := by
  have hb : -9000000000000000001 ≤ a / 1000000000 ∧ a / 1000000000 ≤ 9000000000000000000 := by omega
  by_cases h : a.tmod 1000000000 < 0
  · have hf := floor_neg h
    have hw : wrap64 (a.tdiv 1000000000 - 1) = a / 1000000000 := by rw [hf]; unfold wrap64; omega
    have Hw := Lib.hid hw
    clear hf hw hb
    go_enter Try.func124, Try.ntmps124
    go_wp2
    go_ret
    exact ⟨congrArg (fun z => Ending.returned (.int .i64 z)) Hw.out, rfl⟩
  · have hf := Lib.hid (floor_pos h)
    clear hb
    go_enter Try.func124, Try.ntmps124
    go_wp2
    go_ret
    exact ⟨congrArg (fun z => Ending.returned (.int .i64 z)) hf.out, rfl⟩

set_option maxHeartbeats 400000 in
/-- The closure of a clock's dial. -/
theorem show1_any (o d t : Int) (B : Nat) (w : World) (hv : Vc o d) (h0 : 0 ≤ t) (h1 : t ≤ 1099511627776)
    (c0 : w.cell? ⟨B, 0, none⟩ = some (.int .i64 o)) (c1 : w.cell? ⟨B, 1, none⟩ = some (.int .i64 d)) :
    Calls Try.prog 121 #[.int .i64 t, .pointer (some ⟨B, 0, none⟩)] w fun e w' => e = .returned (.int .i64 (rd o d t)) ∧ ∃ n, w' = w.drewN n := by
  have hb := rd_bd hv h0 h1
  have hm := mul_bd h0 hv.d0 hv.d1
  obtain ⟨v0, v1, v2, v3⟩ := hv
  unfold rd at *
  go_enter Try.func121, Try.ntmps121
  go_wp2
  go_quiet ((go_at_call 122; exact Calls.quiet_of_same ((floor_any _ _ (by omega) (by omega)).mono fun _ _ ⟨he, hw⟩ => ⟨he, hw.symm⟩)))
  go_wp2
  go_ret
  exact ⟨rfl, _, rfl⟩

set_option maxHeartbeats 400000 in
/-- hopmeshref08.At -/
theorem at_any (o d t : Int) (w : World) (hv : Vc o d) (h0 : 0 ≤ t) (h1 : t ≤ 1099511627776) :
    Calls Try.prog 95 #[.agg #[.int .i64 o, .int .i64 d], .int .i64 t] w fun e w' => e = .returned (.int .i64 (rd o d t)) ∧ Gr w w' := by
  have hb := rd_bd hv h0 h1
  have hm := mul_bd h0 hv.d0 hv.d1
  obtain ⟨v0, v1, v2, v3⟩ := hv
  unfold rd at *
  go_enter Try.func95, Try.ntmps95
  go_wp2
  go_quiet ((go_at_call 124; exact Calls.quiet_of_same ((rfloor_any _ _ (by omega) (by omega)).mono fun _ _ ⟨he, hw⟩ => ⟨he, hw.symm⟩)))
  go_wp2
  go_ret
  exact ⟨rfl, ((Gr.refl _).alloc _).drewN _⟩

set_option maxHeartbeats 400000 in
theorem check_ok (o d : Int) (w : World) (hv : Vc o d) :
    Calls Try.prog 33 #[.agg #[.int .i64 o, .int .i64 d]] w fun e w' => e = .returned (.int .i64 0) ∧ Gr w w' := by
  obtain ⟨h0, h1, h2, h3⟩ := hv
  go_enter Try.func33, Try.ntmps33
  go_wp2
  go_ret
  exact ⟨rfl, (Gr.refl _).alloc _⟩

set_option maxHeartbeats 400000 in
theorem check_no (o d : Int) (w : World) (hv : ¬ Vc o d) :
    Calls Try.prog 33 #[.agg #[.int .i64 o, .int .i64 d]] w fun e w' => e = .returned (.int .i64 1) ∧ Gr w w' := by
  have hn : o < -1099511627776 ∨ 1099511627776 < o ∨ d < -100000 ∨ 100000 < d := by
    by_cases h : o < -1099511627776 ∨ 1099511627776 < o ∨ d < -100000 ∨ 100000 < d
    · exact h
    · exact absurd ⟨by omega, by omega, by omega, by omega⟩ hv
  clear hv
  have H := Lib.hid hn
  clear hn
  go_enter Try.func33, Try.ntmps33
  go_wp2
  all_goals go_ret
  all_goals first | exact ⟨rfl, (Gr.refl _).alloc _⟩ | (exfalso; have := H.out; omega)

set_option maxHeartbeats 400000 in
theorem rcheck_ok (o d : Int) (w : World) (hv : Vc o d) :
    Calls Try.prog 34 #[.agg #[.int .i64 o, .int .i64 d]] w fun e w' => e = .returned (.int .i64 0) ∧ Gr w w' := by
  obtain ⟨h0, h1, h2, h3⟩ := hv
  go_enter Try.func34, Try.ntmps34
  go_wp2
  go_ret
  exact ⟨rfl, (Gr.refl _).alloc _⟩

set_option maxHeartbeats 400000 in
theorem rcheck_no (o d : Int) (w : World) (hv : ¬ Vc o d) :
    Calls Try.prog 34 #[.agg #[.int .i64 o, .int .i64 d]] w fun e w' => e = .returned (.int .i64 1) ∧ Gr w w' := by
  have hn : o < -1099511627776 ∨ 1099511627776 < o ∨ d < -100000 ∨ 100000 < d := by
    by_cases h : o < -1099511627776 ∨ 1099511627776 < o ∨ d < -100000 ∨ 100000 < d
    · exact h
    · exact absurd ⟨by omega, by omega, by omega, by omega⟩ hv
  clear hv
  have H := Lib.hid hn
  clear hn
  go_enter Try.func34, Try.ntmps34
  go_wp2
  all_goals go_ret
  all_goals first | exact ⟨rfl, (Gr.refl _).alloc _⟩ | (exfalso; have := H.out; omega)

set_option maxHeartbeats 400000 in
/-- What the search asks of a dial. -/
theorem reach1_any (o d t x : Int) (B Bd Bx : Nat) (w : World) (hv : Vc o d) (h0 : 0 ≤ t) (h1 : t ≤ 1099511627776)
    (c0 : w.cell? ⟨B, 0, none⟩ = some (.int .i64 o)) (c1 : w.cell? ⟨B, 1, none⟩ = some (.int .i64 d))
    (cd : w.cell? ⟨Bd, 0, none⟩ = some (.func (.func 121) #[] #[.pointer (some ⟨B, 0, none⟩)])) (cx : w.cell? ⟨Bx, 0, none⟩ = some (.int .i64 x)) :
    Calls Try.prog 123 #[.int .i64 t, .pointer (some ⟨Bd, 0, none⟩), .pointer (some ⟨Bx, 0, none⟩)] w fun e w' => e = .returned (.bool (decide (x ≤ rd o d t))) ∧ ∃ n, w' = w.drewN n := by
  have HS := Lib.hid (fun (n : Nat) => show1_any o d t B (w.drewN n) hv h0 h1 c0 c1)
  clear c0 c1 hv h0 h1
  go_enter Try.func123, Try.ntmps123
  go_wp2
  go_quiet ((go_at_call 121; exact Calls.quiet_of (HS.out _)))
  go_wp2
  go_ret
  exact ⟨rfl, _, rfl⟩
/-- Where a binary search over [0, n) ends. -/
def Sr (p : Int → Bool) (n r : Int) : Prop := 0 ≤ r ∧ r ≤ n ∧ (r = 0 ∨ p (r - 1) = false) ∧ (r = n ∨ p r = true)

def SrEnd (p : Int → Bool) (n : Int) (w : World) (e : Ending) (w' : World) : Prop := ∃ r, Sr p n r ∧ e = .returned (.int .i64 r) ∧ Gr w w'

theorem wrap_u64_small {a : Int} (h0 : 0 ≤ a) (h1 : a ≤ 4000000000000) : IntKind.u64.wrap a = a := by
  simp [IntKind.wrap, IntKind.bits, IntKind.signed]; omega

set_option maxHeartbeats 1000000 in
theorem search_any (g : Nat) (cb : Array Value) (n : Int) (p : Int → Bool) (w : World) (eg : ∀ args w, (callFunc g args).run Try.prog w = .ok (.enter g args) w) (hn0 : 0 ≤ n) (hn1 : n ≤ 1099511627776)
    (hf : ∀ (W : World) (i : Int), Gr w W → 0 ≤ i → i < n → Calls Try.prog g (#[.int .i64 i] ++ cb) W fun e w' => e = .returned (.bool (p i)) ∧ Gr W w') :
    Calls Try.prog 117 #[.int .i64 n, .func (.func g) #[] cb] w (SrEnd p n w) := by
  have HF := Lib.hid hf
  clear hf
  go_enter Try.func117, Try.ntmps117
  go_wp2
  go_loopw [5, 6, 7] (fun s5 s6 _ wr => ∃ (lo hi : Int), s5 = .int .i64 lo ∧ s6 = .int .i64 hi ∧ 0 ≤ lo ∧ lo ≤ hi ∧ hi ≤ n ∧ Gr w wr ∧ Hid ((lo = 0 ∨ p (lo - 1) = false) ∧ (hi = n ∨ p hi = true))) (fun s5 s6 _ _ => (intOf s6 - intOf s5).toNat)
  case atStart => exact ⟨0, n, rfl, rfl, by omega, by omega, by omega, Gr.refl _, Lib.hid ⟨Or.inl rfl, Or.inl rfl⟩⟩
  case round =>
    obtain ⟨lo, hi, rfl, rfl, hl0, hlh, hhn, hB, HI⟩ := hrel
    by_cases hlt : lo < hi
    · have hc := HF.out _ ((lo + hi) / 2) hB (by omega) (by omega)
      cases hp : p ((lo + hi) / 2) <;> rw [hp] at hc
      · have HP := Lib.hid hp
        have HC := Lib.hid hc
        have HBB := Lib.hid hB
        clear hp hc hB
        have hu : IntKind.u64.wrap (lo + hi) = lo + hi := wrap_u64_small (by omega) (by omega)
        go_wp2_with fail
        refine HC.out.mono ?_
        rintro e w' ⟨rfl, hB'⟩
        have hb2 := Lib.hid (show Gr w w' from HBB.out.trans hB')
        clear hB'
        go_wp2_with fail
        have hJ : Hid (((lo + hi) / 2 + 1 = 0 ∨ p ((lo + hi) / 2 + 1 - 1) = false) ∧ (hi = n ∨ p hi = true)) := ⟨Or.inr (by rw [Int.add_sub_cancel]; exact HP.out), HI.out.2⟩
        go_roundw
        case rel => exact ⟨_, _, rfl, rfl, by omega, by omega, hhn, hb2.out, hJ⟩
        case measure => simp [intOf]; omega
      · have HP := Lib.hid hp
        have HC := Lib.hid hc
        have HBB := Lib.hid hB
        clear hp hc hB
        have hu : IntKind.u64.wrap (lo + hi) = lo + hi := wrap_u64_small (by omega) (by omega)
        go_wp2_with fail
        refine HC.out.mono ?_
        rintro e w' ⟨rfl, hB'⟩
        have hb2 := Lib.hid (show Gr w w' from HBB.out.trans hB')
        clear hB'
        go_wp2_with fail
        have hJ : Hid ((lo = 0 ∨ p (lo - 1) = false) ∧ ((lo + hi) / 2 = n ∨ p ((lo + hi) / 2) = true)) := ⟨HI.out.1, Or.inr HP.out⟩
        go_roundw
        case rel => exact ⟨_, _, rfl, rfl, by omega, by omega, by omega, hb2.out, hJ⟩
        case measure => simp [intOf]; omega
    · obtain rfl : hi = lo := by omega
      have HBB := Lib.hid hB
      clear hB
      go_wp2
      go_ret
      exact ⟨hi, ⟨hl0, hhn, HI.out.1, HI.out.2⟩, rfl, HBB.out⟩
end Go.Proofs.Ytpnigndobhbfnaa
