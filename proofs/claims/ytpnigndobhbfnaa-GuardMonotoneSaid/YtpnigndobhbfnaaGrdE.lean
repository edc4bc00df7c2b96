/- What the functions of package guard and of its reference return, said by the same plain functions. -/
import Derived.Test.YtpnigndobhbfnaaAwake9
namespace Go.Proofs.Ytpnigndobhbfnaa
open Go.RowKit
/-! What the functions of package guard and of its reference return, said by the same plain functions. -/
def inDrift (k : Int) : Prop := 0 ≤ k ∧ k ≤ 100000
instance (k : Int) : Decidable (inDrift k) := inferInstanceAs (Decidable (_ ∧ _))
def inRun (n : Int) : Prop := 0 ≤ n ∧ n ≤ 4096
instance (k : Int) : Decidable (inRun k) := inferInstanceAs (Decidable (_ ∧ _))
def ggN (t k : Int) : Int := if inDrift k ∧ 0 ≤ t ∧ t ≤ 1099511627776 then gro t k else 0
def ggE (t k : Int) : Int := if inDrift k ∧ 0 ≤ t ∧ t ≤ 1099511627776 then 0 else 2
def glN (n k : Int) : Int := if inDrift k ∧ inRun n then len n k else 0
def glE (n k : Int) : Int := if inDrift k ∧ inRun n then 0 else 2
def gtN (n k : Int) : Int := if inDrift k ∧ inRun n then stp n k else 0
def gsN (a b n k : Int) : Int := if Rt a b k ∧ inRun n then spr a b n k else 0
def gsE (a b n k : Int) : Int := if Rt a b k ∧ inRun n then 0 else 2
noncomputable def gkN (a b k : Int) : Int := if Rt a b k ∧ spr a b 0 k ≤ 1100 then slo a b k else 0
def gkE (a b k : Int) : Int := if Rt a b k then (if spr a b 0 k ≤ 1100 then 0 else 16) else 2
noncomputable def geN (o d s : Int) : Int := if inE o d s 2120 = 0 ∧ rch o d (s * 10000 + 2120) + 6088 ≤ 1099511627776 then rch o d (s * 10000 + 2120) + 6088 else 0
noncomputable def geE (o d s : Int) : Int := if inE o d s 2120 = 0 then (if rch o d (s * 10000 + 2120) + 6088 ≤ 1099511627776 then 0 else 15) else inE o d s 2120
noncomputable def gfE (oa da ob db s : Int) : Int := if inE oa da s 2120 = 0 then inE ob db s 3221 else inE oa da s 2120
noncomputable def gfB (oa da ob db s : Int) : Bool := decide (inE oa da s 2120 = 0 ∧ inE ob db s 3221 = 0 ∧ rch ob db (s * 10000 + 1020) ≤ rch oa da (s * 10000 + 2120) ∧ rch oa da (s * 10000 + 2120) ≤ rch ob db (s * 10000 + 3221) - 1)
noncomputable def gaN (oa da ob db s : Int) : Int := if inE oa da s 2120 = 0 ∧ inE ob db s 3221 = 0 then rd ob db (rch oa da (s * 10000 + 2120)) - (s * 10000 + 2120) else 0

theorem Growth_any (t k : Int) (w : World) :
    Calls Try.prog 55 #[.int .i64 t, .int .i64 k] w fun e w' => e = .returned (.tuple #[.int .i64 (ggN t k), .int .i64 (ggE t k)]) ∧ Gr w w' := by
  unfold ggN ggE
  by_cases hk : inDrift k
  · by_cases ht : 0 ≤ t ∧ t ≤ 1099511627776
    · rw [if_pos ⟨hk, ht⟩, if_pos ⟨hk, ht⟩]; exact Growth_ok t k w ht.1 ht.2 hk.1 hk.2
    · rw [if_neg (fun h => ht h.2), if_neg (fun h => ht h.2)]; exact Growth_no2 t k w hk.1 hk.2 (by omega)
  · rw [if_neg (fun h => hk h.1), if_neg (fun h => hk h.1)]; exact Growth_no1 t k w (by unfold inDrift at hk; omega)

theorem rGrowth_any (t k : Int) (w : World) :
    Calls Try.prog 71 #[.int .i64 t, .int .i64 k] w fun e w' => e = .returned (.tuple #[.int .i64 (ggN t k), .int .i64 (ggE t k)]) ∧ Gr w w' := by
  unfold ggN ggE
  by_cases ht : 0 ≤ t ∧ t ≤ 1099511627776
  · by_cases hk : inDrift k
    · rw [if_pos ⟨hk, ht⟩, if_pos ⟨hk, ht⟩]; exact rGrowth_ok t k w ht.1 ht.2 hk.1 hk.2
    · rw [if_neg (fun h => hk h.1), if_neg (fun h => hk h.1)]; exact rGrowth_no1 t k w ht.1 ht.2 (by unfold inDrift at hk; omega)
  · rw [if_neg (fun h => ht h.2), if_neg (fun h => ht h.2)]; exact rGrowth_no2 t k w (by omega)

theorem Length_any (n k : Int) (w : World) :
    Calls Try.prog 72 #[.int .i64 n, .int .i64 k] w fun e w' => e = .returned (.tuple #[.int .i64 (glN n k), .int .i64 (glE n k)]) ∧ Gr w w' := by
  unfold glN glE
  by_cases hk : inDrift k
  · by_cases hn : inRun n
    · rw [if_pos ⟨hk, hn⟩, if_pos ⟨hk, hn⟩]; exact Length_ok n k w hn.1 hn.2 hk.1 hk.2
    · rw [if_neg (fun h => hn h.2), if_neg (fun h => hn h.2)]; exact Length_no2 n k w hk.1 hk.2 (by unfold inRun at hn; omega)
  · rw [if_neg (fun h => hk h.1), if_neg (fun h => hk h.1)]; exact Length_no1 n k w (by unfold inDrift at hk; omega)

theorem rLength_any (n k : Int) (w : World) :
    Calls Try.prog 73 #[.int .i64 n, .int .i64 k] w fun e w' => e = .returned (.tuple #[.int .i64 (glN n k), .int .i64 (glE n k)]) ∧ Gr w w' := by
  unfold glN glE
  by_cases h : inDrift k ∧ inRun n
  · rw [if_pos h, if_pos h]; exact rLength_ok n k w h.2.1 h.2.2 h.1.1 h.1.2
  · rw [if_neg h, if_neg h]; exact rLength_no n k w (fun x => h ⟨x.2, x.1⟩)

theorem Step_any (n k : Int) (w : World) :
    Calls Try.prog 74 #[.int .i64 n, .int .i64 k] w fun e w' => e = .returned (.tuple #[.int .i64 (gtN n k), .int .i64 (glE n k)]) ∧ Gr w w' := by
  unfold gtN glE
  by_cases hk : inDrift k
  · by_cases hn : inRun n
    · rw [if_pos ⟨hk, hn⟩, if_pos ⟨hk, hn⟩]; exact Step_ok n k w hn.1 hn.2 hk.1 hk.2
    · rw [if_neg (fun h => hn h.2), if_neg (fun h => hn h.2)]; exact Step_no2 n k w hk.1 hk.2 (by unfold inRun at hn; omega)
  · rw [if_neg (fun h => hk h.1), if_neg (fun h => hk h.1)]; exact Step_no1 n k w (by unfold inDrift at hk; omega)

theorem rStep_any (n k : Int) (w : World) :
    Calls Try.prog 75 #[.int .i64 n, .int .i64 k] w fun e w' => e = .returned (.tuple #[.int .i64 (gtN n k), .int .i64 (glE n k)]) ∧ Gr w w' := by
  unfold gtN glE
  by_cases h : inDrift k ∧ inRun n
  · rw [if_pos h, if_pos h]; exact rStep_ok n k w h.2.1 h.2.2 h.1.1 h.1.2
  · rw [if_neg h, if_neg h]; exact rStep_no n k w (fun x => h ⟨x.2, x.1⟩)

theorem Spread_all (a b n k : Int) (w : World) :
    Calls Try.prog 76 #[.int .i64 a, .int .i64 b, .int .i64 n, .int .i64 k] w fun e w' => e = .returned (.tuple #[.int .i64 (gsN a b n k), .int .i64 (gsE a b n k)]) ∧ Gr w w' := by
  unfold gsN gsE
  by_cases hr : Rt a b k
  · by_cases hn : inRun n
    · rw [if_pos ⟨hr, hn⟩, if_pos ⟨hr, hn⟩]; exact Spread_ok a b n k w hr hn.1 hn.2
    · rw [if_neg (fun h => hn h.2), if_neg (fun h => hn h.2)]; exact Spread_no2 a b n k w hr (by unfold inRun at hn; omega)
  · rw [if_neg (fun h => hr h.1), if_neg (fun h => hr h.1)]; exact Spread_no1 a b n k w hr

theorem rSpread_all (a b n k : Int) (w : World) :
    Calls Try.prog 77 #[.int .i64 a, .int .i64 b, .int .i64 n, .int .i64 k] w fun e w' => e = .returned (.tuple #[.int .i64 (gsN a b n k), .int .i64 (gsE a b n k)]) ∧ Gr w w' := by
  unfold gsN gsE
  by_cases h : Rt a b k ∧ inRun n
  · rw [if_pos h, if_pos h]; exact rSpread_ok a b n k w h.1 h.2.1 h.2.2
  · rw [if_neg h, if_neg h]; exact rSpread_no a b n k w h

theorem Slots_all (a b k : Int) (w : World) :
    Calls Try.prog 78 #[.int .i64 a, .int .i64 b, .int .i64 k] w fun e w' => e = .returned (.tuple #[.int .i64 (gkN a b k), .int .i64 (gkE a b k)]) ∧ Gr w w' := by
  unfold gkN gkE
  by_cases hr : Rt a b k
  · by_cases h0 : spr a b 0 k ≤ 1100
    · rw [if_pos ⟨hr, h0⟩, if_pos hr, if_pos h0]; exact Slots_ok a b k w hr h0
    · rw [if_neg (fun h => h0 h.2), if_pos hr, if_neg h0]; exact Slots_conf a b k w hr (by omega)
  · rw [if_neg (fun h => hr h.1), if_neg hr]; exact Slots_no a b k w hr

theorem rSlots_all (a b k : Int) (w : World) :
    Calls Try.prog 79 #[.int .i64 a, .int .i64 b, .int .i64 k] w fun e w' => e = .returned (.tuple #[.int .i64 (gkN a b k), .int .i64 (gkE a b k)]) ∧ Gr w w' := by
  unfold gkN gkE
  by_cases hr : Rt a b k
  · by_cases h0 : spr a b 0 k ≤ 1100
    · rw [if_pos ⟨hr, h0⟩, if_pos hr, if_pos h0]; exact rSlots_ok a b k w hr h0
    · rw [if_neg (fun h => h0 h.2), if_pos hr, if_neg h0]; exact rSlots_conf a b k w hr (by omega)
  · rw [if_neg (fun h => hr h.1), if_neg hr]; exact rSlots_no a b k w hr

theorem End_any (o d s : Int) (w : World) :
    Calls Try.prog 81 #[.agg #[.int .i64 o, .int .i64 d], .int .i64 s] w fun e w' => e = .returned (.tuple #[.int .i64 (geN o d s), .int .i64 (geE o d s)]) ∧ Gr w w' := by
  unfold geN geE
  by_cases h : inE o d s 2120 = 0
  · by_cases hl : rch o d (s * 10000 + 2120) + 6088 ≤ 1099511627776
    · rw [if_pos ⟨h, hl⟩, if_pos h, if_pos hl]; exact End_ok o d s w h hl
    · rw [if_neg (fun x => hl x.2), if_pos h, if_neg hl]; exact End_late o d s w h (by omega)
  · rw [if_neg (fun x => h x.1), if_neg h]; exact End_E o d s w h

theorem rEnd_any (o d s : Int) (w : World) :
    Calls Try.prog 84 #[.agg #[.int .i64 o, .int .i64 d], .int .i64 s] w fun e w' => e = .returned (.tuple #[.int .i64 (geN o d s), .int .i64 (geE o d s)]) ∧ Gr w w' := by
  unfold geN geE
  by_cases h : inE o d s 2120 = 0
  · by_cases hl : rch o d (s * 10000 + 2120) + 6088 ≤ 1099511627776
    · rw [if_pos ⟨h, hl⟩, if_pos h, if_pos hl]; exact rEnd_ok o d s w h hl
    · rw [if_neg (fun x => hl x.2), if_pos h, if_neg hl]; exact rEnd_late o d s w h (by omega)
  · rw [if_neg (fun x => h x.1), if_neg h]; exact rEnd_E o d s w h

theorem Fits_any (oa da ob db s : Int) (w : World) :
    Calls Try.prog 85 #[.agg #[.int .i64 oa, .int .i64 da], .agg #[.int .i64 ob, .int .i64 db], .int .i64 s] w fun e w' => e = .returned (.tuple #[.bool (gfB oa da ob db s), .int .i64 (gfE oa da ob db s)]) ∧ Gr w w' := by
  unfold gfB gfE
  by_cases h : inE oa da s 2120 = 0
  · by_cases g : inE ob db s 3221 = 0
    · rw [if_pos h, g]
      by_cases f0 : rch ob db (s * 10000 + 1020) ≤ rch oa da (s * 10000 + 2120)
      · by_cases f1 : rch oa da (s * 10000 + 2120) ≤ rch ob db (s * 10000 + 3221) - 1
        · rw [decide_eq_true ⟨h, rfl, f0, f1⟩]; exact Fits_yes oa da ob db s w h g f0 f1
        · rw [decide_eq_false (fun x => f1 x.2.2.2)]; exact Fits_no2 oa da ob db s w h g f0 (by omega)
      · rw [decide_eq_false (fun x => f0 x.2.2.1)]; exact Fits_no1 oa da ob db s w h g (by omega)
    · rw [if_pos h, decide_eq_false (fun x => g x.2.1)]; exact Fits_E2 oa da ob db s w h g
  · rw [if_neg h, decide_eq_false (fun x => h x.1)]; exact Fits_E1 oa da ob db s w h

theorem Late_any (oa da ob db s : Int) (w : World) :
    Calls Try.prog 87 #[.agg #[.int .i64 oa, .int .i64 da], .agg #[.int .i64 ob, .int .i64 db], .int .i64 s] w fun e w' => e = .returned (.tuple #[.int .i64 (gaN oa da ob db s), .int .i64 (gfE oa da ob db s)]) ∧ Gr w w' := by
  unfold gaN gfE
  by_cases h : inE oa da s 2120 = 0
  · by_cases g : inE ob db s 3221 = 0
    · rw [if_pos ⟨h, g⟩, if_pos h, g]; exact Late_ok oa da ob db s w h g
    · rw [if_neg (fun x => g x.2), if_pos h]; exact Late_E2 oa da ob db s w h g
  · rw [if_neg (fun x => h x.1), if_neg h]; exact Late_E1 oa da ob db s w h

theorem rFits_any (oa da ob db s : Int) (w : World) :
    Calls Try.prog 86 #[.agg #[.int .i64 oa, .int .i64 da], .agg #[.int .i64 ob, .int .i64 db], .int .i64 s] w fun e w' => e = .returned (.tuple #[.bool (gfB oa da ob db s), .int .i64 (gfE oa da ob db s)]) ∧ Gr w w' := by
  unfold gfB gfE
  by_cases h : inE oa da s 2120 = 0
  · by_cases g : inE ob db s 3221 = 0
    · rw [if_pos h, g]
      by_cases f0 : rch ob db (s * 10000 + 1020) ≤ rch oa da (s * 10000 + 2120)
      · by_cases f1 : rch oa da (s * 10000 + 2120) ≤ rch ob db (s * 10000 + 3221) - 1
        · rw [decide_eq_true ⟨h, rfl, f0, f1⟩]; exact rFits_yes oa da ob db s w h g f0 f1
        · rw [decide_eq_false (fun x => f1 x.2.2.2)]; exact rFits_no2 oa da ob db s w h g f0 (by omega)
      · rw [decide_eq_false (fun x => f0 x.2.2.1)]; exact rFits_no1 oa da ob db s w h g (by omega)
    · rw [if_pos h, decide_eq_false (fun x => g x.2.1)]; exact rFits_E2 oa da ob db s w h g
  · rw [if_neg h, decide_eq_false (fun x => h x.1)]; exact rFits_E1 oa da ob db s w h

theorem rLate_any (oa da ob db s : Int) (w : World) :
    Calls Try.prog 88 #[.agg #[.int .i64 oa, .int .i64 da], .agg #[.int .i64 ob, .int .i64 db], .int .i64 s] w fun e w' => e = .returned (.tuple #[.int .i64 (gaN oa da ob db s), .int .i64 (gfE oa da ob db s)]) ∧ Gr w w' := by
  unfold gaN gfE
  by_cases h : inE oa da s 2120 = 0
  · by_cases g : inE ob db s 3221 = 0
    · rw [if_pos ⟨h, g⟩, if_pos h, g]; exact rLate_ok oa da ob db s w h g
    · rw [if_neg (fun x => g x.2), if_pos h]; exact rLate_E2 oa da ob db s w h g
  · rw [if_neg (fun x => h x.1), if_neg h]; exact rLate_E1 oa da ob db s w h

theorem Bx.set2 {w : World} {B : Nat} {v0 v1 : Value} (k : Bx w B [v0, v1]) (a b : Value) : Bx ((w.setCell ⟨B, 0, none⟩ a).setCell ⟨B, 1, none⟩ b) B [a, b] := by
  refine ⟨fun i v hv => ?_, fun i hi => ?_, by simpa [World.setCell] using k.lt⟩
  · have hi : i < 2 := (List.getElem?_eq_some_iff.1 hv).1
    rcases (show i = 0 ∨ i = 1 by omega) with rfl | rfl
    · obtain rfl : a = v := by simpa using hv
      rw [World.cell?_setCell_other _ _ _ _ (by simp), World.cell?_setCell_same _ _ _ (k.c 0 _ rfl)]
    · obtain rfl : b = v := by simpa using hv
      exact World.cell?_setCell_same _ _ _ ((World.cell?_setCell_other _ _ _ _ (by simp)).trans (k.c 1 _ rfl))
  · have := k.f i hi
    simpa using this
theorem Bx.setFar {w : World} {B : Nat} {vs : List Value} (k : Bx w B vs) {p : Addr} (hp : p.block ≠ B) (v : Value) : Bx (w.setCell p v) B vs :=
  ⟨fun i u hu => (World.cell?_setCell_other _ _ _ _ (by rintro rfl; exact hp rfl)).trans (k.c i u hu), fun i hi => by simpa using k.f i hi, by simpa [World.setCell] using k.lt⟩
end Go.Proofs.Ytpnigndobhbfnaa
