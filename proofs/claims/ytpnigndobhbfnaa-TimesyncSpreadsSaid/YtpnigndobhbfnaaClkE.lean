/- What the functions of package clock and of its reference return, said by the same plain functions. -/
import Derived.Test.YtpnigndobhbfnaaClkC
import Derived.Test.YtpnigndobhbfnaaClkD
namespace Go.Proofs.Ytpnigndobhbfnaa
open Go.RowKit
/-! The plain functions. -/
def inSlot (s : Int) : Prop := 0 ≤ s ∧ s ≤ 109951162
instance (s : Int) : Decidable (inSlot s) := inferInstanceAs (Decidable (_ ∧ _))
/-- What Reach returns, and its error. -/
noncomputable def reN (o d x : Int) : Int := if Vc o d ∧ x ≤ rd o d 1099511627776 then rch o d x else 0
def reE (o d x : Int) : Int := if Vc o d then (if x ≤ rd o d 1099511627776 then 0 else 15) else 1
/-- When x is reached behind the beginning of slot s. -/
noncomputable def inN (o d s x : Int) : Int := if Vc o d ∧ inSlot s ∧ s * 10000 + x ≤ rd o d 1099511627776 then rch o d (s * 10000 + x) else 0
def inE (o d s x : Int) : Int := if Vc o d then (if inSlot s then (if s * 10000 + x ≤ rd o d 1099511627776 then 0 else 15) else 2) else 1
/-- The window's ends. -/
noncomputable def wi0 (o d s : Int) : Int := if inE o d s 3221 = 0 then rch o d (s * 10000 + 1020) else 0
noncomputable def wi1 (o d s : Int) : Int := if inE o d s 3221 = 0 then rch o d (s * 10000 + 3221) - 1 else 0
def slN (o d t : Int) : Int := if Vc o d ∧ (0 ≤ t ∧ t ≤ 1099511627776) ∧ 0 ≤ rd o d t then rd o d t / 10000 else 0
def slE (o d t : Int) : Int := if Vc o d then (if 0 ≤ t ∧ t ≤ 1099511627776 then (if 0 ≤ rd o d t then 0 else 14) else 2) else 1
def apN (oa da ob db t : Int) : Int := if Vc oa da ∧ Vc ob db ∧ 0 ≤ t ∧ t ≤ 1099511627776 then rd ob db t - rd oa da t else 0
def apE (oa da ob db t : Int) : Int := if Vc oa da ∧ Vc ob db then (if 0 ≤ t ∧ t ≤ 1099511627776 then 0 else 2) else 1
/-- A clock o, d may be adjusted by b. -/
def adOk (o d b : Int) : Prop := Vc o d ∧ (-2199023255552 ≤ b ∧ b ≤ 2199023255552) ∧ Vc (o + b) d
instance (o d b : Int) : Decidable (adOk o d b) := inferInstanceAs (Decidable (_ ∧ _ ∧ _))
def adO (o d b : Int) : Int := if adOk o d b then o + b else 0
def adD (o d b : Int) : Int := if adOk o d b then d else 0
def adE (o d b : Int) : Int := if adOk o d b then 0 else 1
def ckE (o d : Int) : Int := if Vc o d then 0 else 1

theorem check_any (o d : Int) (w : World) :
    Calls Try.prog 33 #[.agg #[.int .i64 o, .int .i64 d]] w fun e w' => e = .returned (.int .i64 (ckE o d)) ∧ Gr w w' := by
  unfold ckE
  by_cases hv : Vc o d
  · rw [if_pos hv]; exact check_ok o d w hv
  · rw [if_neg hv]; exact check_no o d w hv

theorem rcheck_any (o d : Int) (w : World) :
    Calls Try.prog 34 #[.agg #[.int .i64 o, .int .i64 d]] w fun e w' => e = .returned (.int .i64 (ckE o d)) ∧ Gr w w' := by
  unfold ckE
  by_cases hv : Vc o d
  · rw [if_pos hv]; exact rcheck_ok o d w hv
  · rw [if_neg hv]; exact rcheck_no o d w hv

theorem rShow_any (o d t : Int) (w : World) :
    Calls Try.prog 29 #[.agg #[.int .i64 o, .int .i64 d], .int .i64 t] w fun e w' => e = .returned (.tuple #[.int .i64 (shN o d t), .int .i64 (shE o d t)]) ∧ Gr w w' := by
  unfold shN shE
  by_cases hv : Vc o d
  · by_cases ht : 0 ≤ t ∧ t ≤ 1099511627776
    · rw [if_pos ⟨hv, ht⟩, if_pos hv, if_pos ht]; exact rShow_ok o d t w hv ht.1 ht.2
    · rw [if_neg (fun h => ht h.2), if_pos hv, if_neg ht]; exact rShow_range o d t w hv (by omega)
  · rw [if_neg (fun h => hv h.1), if_neg hv]; exact rShow_arg o d t w hv

theorem Reach_any (o d x : Int) (w : World) :
    Calls Try.prog 28 #[.agg #[.int .i64 o, .int .i64 d], .int .i64 x] w fun e w' => e = .returned (.tuple #[.int .i64 (reN o d x), .int .i64 (reE o d x)]) ∧ Gr w w' := by
  unfold reN reE
  by_cases hv : Vc o d
  · by_cases hx : x ≤ rd o d 1099511627776
    · rw [if_pos ⟨hv, hx⟩, if_pos hv, if_pos hx]; exact Reach_ok o d x w hv hx
    · rw [if_neg (fun h => hx h.2), if_pos hv, if_neg hx]; exact Reach_late o d x w hv (by omega)
  · rw [if_neg (fun h => hv h.1), if_neg hv]; exact Reach_arg o d x w hv

theorem rReach_any (o d x : Int) (w : World) :
    Calls Try.prog 30 #[.agg #[.int .i64 o, .int .i64 d], .int .i64 x] w fun e w' => e = .returned (.tuple #[.int .i64 (reN o d x), .int .i64 (reE o d x)]) ∧ Gr w w' := by
  unfold reN reE
  by_cases hv : Vc o d
  · by_cases hx : x ≤ rd o d 1099511627776
    · rw [if_pos ⟨hv, hx⟩, if_pos hv, if_pos hx]; exact rReach_ok o d x w hv hx
    · rw [if_neg (fun h => hx h.2), if_pos hv, if_neg hx]; exact rReach_late o d x w hv (by omega)
  · rw [if_neg (fun h => hv h.1), if_neg hv]; exact rReach_arg o d x w hv

theorem Begin_any (o d s : Int) (w : World) :
    Calls Try.prog 35 #[.agg #[.int .i64 o, .int .i64 d], .int .i64 s] w fun e w' => e = .returned (.tuple #[.int .i64 (inN o d s 0), .int .i64 (inE o d s 0)]) ∧ Gr w w' := by
  unfold inN inE
  by_cases hv : Vc o d
  · by_cases hs : inSlot s
    · by_cases hx : s * 10000 + 0 ≤ rd o d 1099511627776
      · rw [if_pos ⟨hv, hs, hx⟩, if_pos hv, if_pos hs, if_pos hx]; simp only [Int.add_zero]; exact Begin_ok o d s w hv hs.1 hs.2 (by omega)
      · rw [if_neg (fun h => hx h.2.2), if_pos hv, if_pos hs, if_neg hx]; exact Begin_late o d s w hv hs.1 hs.2 (by omega)
    · rw [if_neg (fun h => hs h.2.1), if_pos hv, if_neg hs]; exact Begin_range o d s w hv (by unfold inSlot at hs; omega)
  · rw [if_neg (fun h => hv h.1), if_neg hv]; exact Begin_arg o d s w hv

theorem rBegin_any (o d s : Int) (w : World) :
    Calls Try.prog 36 #[.agg #[.int .i64 o, .int .i64 d], .int .i64 s] w fun e w' => e = .returned (.tuple #[.int .i64 (inN o d s 0), .int .i64 (inE o d s 0)]) ∧ Gr w w' := by
  unfold inN inE
  by_cases hv : Vc o d
  · by_cases hs : inSlot s
    · by_cases hx : s * 10000 + 0 ≤ rd o d 1099511627776
      · rw [if_pos ⟨hv, hs, hx⟩, if_pos hv, if_pos hs, if_pos hx]; simp only [Int.add_zero]; exact rBegin_ok o d s w hv hs.1 hs.2 (by omega)
      · rw [if_neg (fun h => hx h.2.2), if_pos hv, if_pos hs, if_neg hx]; exact rBegin_late o d s w hv hs.1 hs.2 (by omega)
    · rw [if_neg (fun h => hs h.2.1), if_pos hv, if_neg hs]; exact rBegin_range o d s w hv (by unfold inSlot at hs; omega)
  · rw [if_neg (fun h => hv h.1), if_neg hv]; exact rBegin_arg o d s w hv

theorem Send_any (o d s : Int) (w : World) :
    Calls Try.prog 37 #[.agg #[.int .i64 o, .int .i64 d], .int .i64 s] w fun e w' => e = .returned (.tuple #[.int .i64 (inN o d s 2120), .int .i64 (inE o d s 2120)]) ∧ Gr w w' := by
  unfold inN inE
  by_cases hv : Vc o d
  · by_cases hs : inSlot s
    · by_cases hx : s * 10000 + 2120 ≤ rd o d 1099511627776
      · rw [if_pos ⟨hv, hs, hx⟩, if_pos hv, if_pos hs, if_pos hx]; exact Send_ok o d s w hv hs.1 hs.2 (by omega)
      · rw [if_neg (fun h => hx h.2.2), if_pos hv, if_pos hs, if_neg hx]; exact Send_late o d s w hv hs.1 hs.2 (by omega)
    · rw [if_neg (fun h => hs h.2.1), if_pos hv, if_neg hs]; exact Send_range o d s w hv (by unfold inSlot at hs; omega)
  · rw [if_neg (fun h => hv h.1), if_neg hv]; exact Send_arg o d s w hv

theorem rSend_any (o d s : Int) (w : World) :
    Calls Try.prog 38 #[.agg #[.int .i64 o, .int .i64 d], .int .i64 s] w fun e w' => e = .returned (.tuple #[.int .i64 (inN o d s 2120), .int .i64 (inE o d s 2120)]) ∧ Gr w w' := by
  unfold inN inE
  by_cases hv : Vc o d
  · by_cases hs : inSlot s
    · by_cases hx : s * 10000 + 2120 ≤ rd o d 1099511627776
      · rw [if_pos ⟨hv, hs, hx⟩, if_pos hv, if_pos hs, if_pos hx]; exact rSend_ok o d s w hv hs.1 hs.2 (by omega)
      · rw [if_neg (fun h => hx h.2.2), if_pos hv, if_pos hs, if_neg hx]; exact rSend_late o d s w hv hs.1 hs.2 (by omega)
    · rw [if_neg (fun h => hs h.2.1), if_pos hv, if_neg hs]; exact rSend_range o d s w hv (by unfold inSlot at hs; omega)
  · rw [if_neg (fun h => hv h.1), if_neg hv]; exact rSend_arg o d s w hv

theorem Window_any (o d s : Int) (w : World) :
    Calls Try.prog 39 #[.agg #[.int .i64 o, .int .i64 d], .int .i64 s] w fun e w' => e = .returned (.tuple #[.int .i64 (wi0 o d s), .int .i64 (wi1 o d s), .int .i64 (inE o d s 3221)]) ∧ Gr w w' := by
  unfold wi0 wi1
  by_cases hv : Vc o d
  · by_cases hs : inSlot s
    · by_cases hx : s * 10000 + 3221 ≤ rd o d 1099511627776
      · have he : inE o d s 3221 = 0 := by unfold inE; rw [if_pos hv, if_pos hs, if_pos hx]
        rw [if_pos he, if_pos he, he]; exact Window_ok o d s w hv hs.1 hs.2 hx
      · have he : inE o d s 3221 = 15 := by unfold inE; rw [if_pos hv, if_pos hs, if_neg hx]
        rw [if_neg (by omega), if_neg (by omega), he]
        by_cases hy : s * 10000 + 1020 ≤ rd o d 1099511627776
        · exact Window_late1 o d s w hv hs.1 hs.2 (by omega) hy
        · exact Window_late2 o d s w hv hs.1 hs.2 (by omega) (by omega)
    · have he : inE o d s 3221 = 2 := by unfold inE; rw [if_pos hv, if_neg hs]
      rw [if_neg (by omega), if_neg (by omega), he]; exact Window_range o d s w hv (by unfold inSlot at hs; omega)
  · have he : inE o d s 3221 = 1 := by unfold inE; rw [if_neg hv]
    rw [if_neg (by omega), if_neg (by omega), he]; exact Window_arg o d s w hv

theorem rWindow_any (o d s : Int) (w : World) :
    Calls Try.prog 40 #[.agg #[.int .i64 o, .int .i64 d], .int .i64 s] w fun e w' => e = .returned (.tuple #[.int .i64 (wi0 o d s), .int .i64 (wi1 o d s), .int .i64 (inE o d s 3221)]) ∧ Gr w w' := by
  unfold wi0 wi1
  by_cases hv : Vc o d
  · by_cases hs : inSlot s
    · by_cases hx : s * 10000 + 3221 ≤ rd o d 1099511627776
      · have he : inE o d s 3221 = 0 := by unfold inE; rw [if_pos hv, if_pos hs, if_pos hx]
        rw [if_pos he, if_pos he, he]; exact rWindow_ok o d s w hv hs.1 hs.2 hx
      · have he : inE o d s 3221 = 15 := by unfold inE; rw [if_pos hv, if_pos hs, if_neg hx]
        rw [if_neg (by omega), if_neg (by omega), he]
        exact rWindow_late o d s w hv hs.1 hs.2 (by omega)
    · have he : inE o d s 3221 = 2 := by unfold inE; rw [if_pos hv, if_neg hs]
      rw [if_neg (by omega), if_neg (by omega), he]; exact rWindow_range o d s w hv (by unfold inSlot at hs; omega)
  · have he : inE o d s 3221 = 1 := by unfold inE; rw [if_neg hv]
    rw [if_neg (by omega), if_neg (by omega), he]; exact rWindow_arg o d s w hv

theorem Slot_any (o d t : Int) (w : World) :
    Calls Try.prog 31 #[.agg #[.int .i64 o, .int .i64 d], .int .i64 t] w fun e w' => e = .returned (.tuple #[.int .i64 (slN o d t), .int .i64 (slE o d t)]) ∧ Gr w w' := by
  unfold slN slE
  by_cases hv : Vc o d
  · by_cases ht : 0 ≤ t ∧ t ≤ 1099511627776
    · by_cases hx : 0 ≤ rd o d t
      · rw [if_pos ⟨hv, ht, hx⟩, if_pos hv, if_pos ht, if_pos hx]; exact Slot_ok o d t w hv ht.1 ht.2 hx
      · rw [if_neg (fun h => hx h.2.2), if_pos hv, if_pos ht, if_neg hx]; exact Slot_empty o d t w hv ht.1 ht.2 (by omega)
    · rw [if_neg (fun h => ht h.2.1), if_pos hv, if_neg ht]; exact Slot_range o d t w hv ht
  · rw [if_neg (fun h => hv h.1), if_neg hv]; exact Slot_arg o d t w hv

theorem rSlot_any (o d t : Int) (w : World) :
    Calls Try.prog 32 #[.agg #[.int .i64 o, .int .i64 d], .int .i64 t] w fun e w' => e = .returned (.tuple #[.int .i64 (slN o d t), .int .i64 (slE o d t)]) ∧ Gr w w' := by
  unfold slN slE
  by_cases hv : Vc o d
  · by_cases ht : 0 ≤ t ∧ t ≤ 1099511627776
    · by_cases hx : 0 ≤ rd o d t
      · rw [if_pos ⟨hv, ht, hx⟩, if_pos hv, if_pos ht, if_pos hx]; exact rSlot_ok o d t w hv ht.1 ht.2 hx
      · rw [if_neg (fun h => hx h.2.2), if_pos hv, if_pos ht, if_neg hx]; exact rSlot_empty o d t w hv ht.1 ht.2 (by omega)
    · rw [if_neg (fun h => ht h.2.1), if_pos hv, if_neg ht]; exact rSlot_range o d t w hv (by omega)
  · rw [if_neg (fun h => hv h.1), if_neg hv]; exact rSlot_arg o d t w hv

theorem Apart_any (oa da ob db t : Int) (w : World) :
    Calls Try.prog 58 #[.agg #[.int .i64 oa, .int .i64 da], .agg #[.int .i64 ob, .int .i64 db], .int .i64 t] w fun e w' => e = .returned (.tuple #[.int .i64 (apN oa da ob db t), .int .i64 (apE oa da ob db t)]) ∧ Gr w w' := by
  unfold apN apE
  by_cases ha : Vc oa da
  · by_cases hb : Vc ob db
    · by_cases ht : 0 ≤ t ∧ t ≤ 1099511627776
      · rw [if_pos ⟨ha, hb, ht⟩, if_pos ⟨ha, hb⟩, if_pos ht]; exact Apart_ok oa da ob db t w ha hb ht.1 ht.2
      · rw [if_neg (fun h => ht h.2.2), if_pos ⟨ha, hb⟩, if_neg ht]; exact Apart_range oa da ob db t w ha hb ht
    · rw [if_neg (fun h => hb h.2.1), if_neg (fun h => hb h.2)]; exact Apart_arg2 oa da ob db t w ha hb
  · rw [if_neg (fun h => ha h.1), if_neg (fun h => ha h.1)]; exact Apart_arg1 oa da ob db t w ha

theorem rApart_any (oa da ob db t : Int) (w : World) :
    Calls Try.prog 59 #[.agg #[.int .i64 oa, .int .i64 da], .agg #[.int .i64 ob, .int .i64 db], .int .i64 t] w fun e w' => e = .returned (.tuple #[.int .i64 (apN oa da ob db t), .int .i64 (apE oa da ob db t)]) ∧ Gr w w' := by
  unfold apN apE
  by_cases ha : Vc oa da
  · by_cases hb : Vc ob db
    · by_cases ht : 0 ≤ t ∧ t ≤ 1099511627776
      · rw [if_pos ⟨ha, hb, ht⟩, if_pos ⟨ha, hb⟩, if_pos ht]; exact rApart_ok oa da ob db t w ha hb ht.1 ht.2
      · rw [if_neg (fun h => ht h.2.2), if_pos ⟨ha, hb⟩, if_neg ht]; exact rApart_range oa da ob db t w ha hb (by omega)
    · rw [if_neg (fun h => hb h.2.1), if_neg (fun h => hb h.2)]; exact rApart_arg2 oa da ob db t w ha hb
  · rw [if_neg (fun h => ha h.1), if_neg (fun h => ha h.1)]; exact rApart_arg1 oa da ob db t w ha

theorem Adjust_any (o d b : Int) (w : World) :
    Calls Try.prog 56 #[.agg #[.int .i64 o, .int .i64 d], .int .i64 b] w fun e w' => e = .returned (.tuple #[.agg #[.int .i64 (adO o d b), .int .i64 (adD o d b)], .int .i64 (adE o d b)]) ∧ Gr w w' := by
  unfold adO adD adE
  by_cases hv : Vc o d
  · by_cases hb : -2199023255552 ≤ b ∧ b ≤ 2199023255552
    · by_cases hw : Vc (o + b) d
      · have h : adOk o d b := ⟨hv, hb, hw⟩
        simp only [if_pos h]; exact Adjust_ok o d b w hv hb.1 hb.2 hw
      · have h : ¬ adOk o d b := fun h => hw h.2.2
        simp only [if_neg h]; exact Adjust_no o d b w hv hb.1 hb.2 hw
    · have h : ¬ adOk o d b := fun h => hb h.2.1
      simp only [if_neg h]; exact Adjust_far o d b w hv (by omega)
  · have h : ¬ adOk o d b := fun h => hv h.1
    simp only [if_neg h]; exact Adjust_arg o d b w hv

theorem rAdjust_any (o d b : Int) (w : World) :
    Calls Try.prog 57 #[.agg #[.int .i64 o, .int .i64 d], .int .i64 b] w fun e w' => e = .returned (.tuple #[.agg #[.int .i64 (adO o d b), .int .i64 (adD o d b)], .int .i64 (adE o d b)]) ∧ Gr w w' := by
  unfold adO adD adE
  by_cases hv : Vc o d
  · by_cases hb : -2199023255552 ≤ b ∧ b ≤ 2199023255552
    · by_cases hw : Vc (o + b) d
      · have h : adOk o d b := ⟨hv, hb, hw⟩
        simp only [if_pos h]; exact rAdjust_ok o d b w hv hb.1 hb.2 hw
      · have h : ¬ adOk o d b := fun h => hw h.2.2
        simp only [if_neg h]; exact rAdjust_no o d b w hv hb.1 hb.2 hw
    · have h : ¬ adOk o d b := fun h => hb h.2.1
      simp only [if_neg h]; exact rAdjust_far o d b w hv (by omega)
  · have h : ¬ adOk o d b := fun h => hv h.1
    simp only [if_neg h]; exact rAdjust_arg o d b w hv
end Go.Proofs.Ytpnigndobhbfnaa
