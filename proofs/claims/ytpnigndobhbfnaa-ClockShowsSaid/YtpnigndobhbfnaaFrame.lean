/- The closed facts of the translation that every row needs, and that arguments read as they did. -/
import Derived.Test.YtpnigndobhbfnaaRows
import Derived.ProofKit
import Derived.OpenShut
import Derived.Lib.SmallJoins
namespace Go.Proofs.Ytpnigndobhbfnaa
open Go.ChangeShapes Go.WideShapes Go.ChangeAt Go.RowKit Go.Joins
theorem and_tt {a b : Bool} (ha : a = true) (hb : b = true) : (a && b) = true := by rw [ha, hb]; rfl
theorem beq_tt {α : Type} [BEq α] [LawfulBEq α] {a b : α} (h : b = a) : (a == b) = true := by rw [h]; exact beq_self_eq_true a
theorem make_of {P : Program} {r : List (List Char)} (h : behindMainWord (wordsSigns P.initOrder.toList) = "cut".toList :: r) : P.make = some .cut := by
  unfold Program.make
  generalize behindMainWord (wordsSigns P.initOrder.toList) = l at h
  subst h
  generalize P.headLifts = hl
  kernel_rfl
theorem lifts_of {P : Program} {r : List (List Char)} (h : behindMainWord (wordsSigns P.initOrder.toList) = "cut".toList :: r) : P.liftsFinal = false := by
  unfold Program.liftsFinal Program.headLifts
  generalize behindMainWord (wordsSigns P.initOrder.toList) = l at h
  subst h
  kernel_rfl
theorem enter_of {P : Program} {r : List (List Char)} (h : behindMainWord (wordsSigns P.initOrder.toList) = "cut".toList :: r) (h1 : P.laysLater = false) (h2 : P.bearsReflect = false) (h3 : P.doorRows = []) : P.mayEnter = true := by
  unfold Program.mayEnter Program.doorFits
  rw [h1, h2, h3]
  generalize behindMainWord (wordsSigns P.initOrder.toList) = l at h
  subst h
  kernel_rfl

set_option maxRecDepth 100000 in
/-- The signs of the translation's head (the word 'cut' and the roots), by their numbers. -/
def headSigns : List Char := [104, 97, 114, 110, 101, 115, 115, 32, 99, 51, 56, 53, 100, 102, 49, 97, 54, 102, 52, 50, 98, 50, 100, 99, 49, 53, 98, 102, 99, 56, 97, 51, 49, 49, 56, 57, 98, 49, 101, 50, 100, 100, 50, 54, 56, 98, 100, 97, 54, 49, 50, 57, 100, 48, 54, 53, 54, 99, 101, 97, 53, 102, 48, 56, 99, 54, 97, 55, 49, 49, 54, 101, 32, 99, 117, 116, 32, 97, 116, 32, 104, 111, 112, 109, 101, 115, 104, 47, 104, 111, 112, 109, 101, 115, 104, 108, 97, 119, 48, 56, 46, 67, 108, 111, 99, 107, 70, 111, 114, 119, 97, 114, 100, 32, 104, 111, 112, 109, 101, 115, 104, 47, 104, 111, 112, 109, 101, 115, 104, 108, 97, 119, 48, 56, 46, 67, 108, 111, 99, 107, 68, 114, 105, 102, 116, 115, 32, 104, 111, 112, 109, 101, 115, 104, 47, 104, 111, 112, 109, 101, 115, 104, 108, 97, 119, 48, 56, 46, 67, 108, 111, 99, 107, 82, 101, 97, 99, 104, 101, 115, 32, 104, 111, 112, 109, 101, 115, 104, 47, 104, 111, 112, 109, 101, 115, 104, 108, 97, 119, 48, 56, 46, 67, 108, 111, 99, 107, 83, 104, 111, 119, 115, 32, 104, 111, 112, 109, 101, 115, 104, 47, 104, 111, 112, 109, 101, 115, 104, 108, 97, 119, 48, 56, 46, 67, 108, 111, 99, 107, 83, 108, 111, 116, 115, 32, 104, 111, 112, 109, 101, 115, 104, 47, 104, 111, 112, 109, 101, 115, 104, 108, 97, 119, 49, 48, 46, 84, 105, 109, 101, 115, 121, 110, 99, 82, 117, 110, 115, 32, 104, 111, 112, 109, 101, 115, 104, 47, 104, 111, 112, 109, 101, 115, 104, 108, 97, 119, 48, 56, 46, 67, 108, 111, 99, 107, 79, 119, 110, 32, 104, 111, 112, 109, 101, 115, 104, 47, 104, 111, 112, 109, 101, 115, 104, 108, 97, 119, 49, 48, 46, 84, 105, 109, 101, 115, 121, 110, 99, 83, 112, 114, 101, 97, 100, 115, 32, 104, 111, 112, 109, 101, 115, 104, 47, 104, 111, 112, 109, 101, 115, 104, 108, 97, 119, 48, 56, 46, 67, 108, 111, 99, 107, 65, 100, 106, 117, 115, 116, 115, 32, 104, 111, 112, 109, 101, 115, 104, 47, 104, 111, 112, 109, 101, 115, 104, 108, 97, 119, 48, 56, 46, 67, 108, 111, 99, 107, 83, 104, 105, 102, 116, 115, 32, 104, 111, 112, 109, 101, 115, 104, 47, 104, 111, 112, 109, 101, 115, 104, 108, 97, 119, 49, 48, 46, 84, 105, 109, 101, 115, 121, 110, 99, 67, 111, 114, 114, 101, 99, 116, 115, 32, 104, 111, 112, 109, 101, 115, 104, 47, 104, 111, 112, 109, 101, 115, 104, 108, 97, 119, 49, 48, 46, 84, 105, 109, 101, 115, 121, 110, 99, 75, 101, 101, 112, 115, 32, 104, 111, 112, 109, 101, 115, 104, 47, 104, 111, 112, 109, 101, 115, 104, 108, 97, 119, 48, 57, 46, 71, 117, 97, 114, 100, 78, 117, 109, 98, 101, 114, 115, 32, 104, 111, 112, 109, 101, 115, 104, 47, 104, 111, 112, 109, 101, 115, 104, 108, 97, 119, 48, 57, 46, 71, 117, 97, 114, 100, 83, 108, 111, 116, 115, 32, 104, 111, 112, 109, 101, 115, 104, 47, 104, 111, 112, 109, 101, 115, 104, 108, 97, 119, 48, 57, 46, 71, 117, 97, 114, 100, 77, 111, 110, 111, 116, 111, 110, 101, 32, 104, 111, 112, 109, 101, 115, 104, 47, 104, 111, 112, 109, 101, 115, 104, 108, 97, 119, 48, 57, 46, 71, 117, 97, 114, 100, 76, 97, 115, 116, 115, 32, 104, 111, 112, 109, 101, 115, 104, 47, 104, 111, 112, 109, 101, 115, 104, 108, 97, 119, 49, 48, 46, 84, 105, 109, 101, 115, 121, 110, 99, 68, 101, 112, 116, 104, 115, 32, 104, 111, 112, 109, 101, 115, 104, 47, 104, 111, 112, 109, 101, 115, 104, 108, 97, 119, 48, 57, 46, 71, 117, 97, 114, 100, 65, 112, 97, 114, 116, 32, 104, 111, 112, 109, 101, 115, 104, 47, 104, 111, 112, 109, 101, 115, 104, 108, 97, 119, 49, 48, 46, 84, 105, 109, 101, 115, 121, 110, 99, 77, 101, 101, 116, 115, 32, 104, 111, 112, 109, 101, 115, 104, 47, 104, 111, 112, 109, 101, 115, 104, 108, 97, 119, 48, 57, 46, 71, 117, 97, 114, 100, 71, 114, 111, 119, 115, 32, 104, 111, 112, 109, 101, 115, 104, 47, 104, 111, 112, 109, 101, 115, 104, 108, 97, 119, 48, 57, 46, 71, 117, 97, 114, 100, 70, 114, 97, 109, 101, 115, 32, 104, 111, 112, 109, 101, 115, 104, 47, 104, 111, 112, 109, 101, 115, 104, 108, 97, 119, 48, 57, 46, 71, 117, 97, 114, 100, 70, 105, 116, 115, 32, 104, 111, 112, 109, 101, 115, 104, 47, 104, 111, 112, 109, 101, 115, 104, 108, 97, 119, 49, 48, 46, 84, 105, 109, 101, 115, 121, 110, 99, 79, 110, 101].map Char.ofNat
theorem head_is : Try.pinned.checked.prog.initOrder = String.ofList headSigns := by kernel_rfl
theorem head_list : Try.pinned.checked.prog.initOrder.toList = headSigns := (congrArg String.toList head_is).trans String.toList_ofList
theorem beh_is : behindMainWord (wordsSigns headSigns) = "cut".toList :: (behindMainWord (wordsSigns headSigns)).tail := by kernel_rfl
theorem beh_ex : behindMainWord (wordsSigns Try.pinned.checked.prog.initOrder.toList) = "cut".toList :: (behindMainWord (wordsSigns headSigns)).tail := (congrArg (fun l => behindMainWord (wordsSigns l)) head_list).trans beh_is
theorem J_laid : laidOutB Try.pinned.checked.prog = true := by kernel_rfl
theorem J_maps : mapsRowed Try.pinned.checked.prog = true := by kernel_rfl
theorem J_stops : (Try.pinned.checked.prog.stops == []) = true := by kernel_rfl
theorem J_knobs : (Try.pinned.checked.prog.stopKnobs == []) = true := by kernel_rfl
theorem J_keys : (true == Try.pinned.checked.prog.plainKeys) = true := by kernel_rfl
theorem J_heard : Try.pinned.checked.prog.stopsHeard = true := by kernel_rfl
theorem J_lays : Try.pinned.checked.prog.laysLater = false := by kernel_rfl
theorem J_refl : Try.pinned.checked.prog.bearsReflect = false := by kernel_rfl
theorem J_door : Try.pinned.checked.prog.doorRows = [] := by kernel_rfl
theorem J_enter : Try.pinned.checked.prog.mayEnter = true := enter_of beh_ex J_lays J_refl J_door
theorem J_lifts : (false == Try.pinned.checked.prog.liftsFinal) = true := beq_tt (lifts_of beh_ex)
theorem J_make : (Try.pinned.checked.prog.make == some .cut) = true := by rw [make_of beh_ex]; rfl

theorem Try.own : ownKnob Try.prog.godebug = none := by kernel_rfl
theorem Try.laidOut : laidOutB Try.prog = true := by kernel_rfl
theorem Try.cells23 : Try.prog.cellsOf 23 = 2 := by kernel_rfl
theorem Try.cells45 : Try.prog.cellsOf 45 = 4 := by kernel_rfl

section
variable {H : Type} {enc : TypeId × Value → H} {P : Program}
/-- Every argument reads as it did, where below the heap's old size nothing has turned. -/
theorem trodAll_stays (hl : laidOutB P = true) {W W' : World} (hb : Below W.heap.size W W') : ∀ (ts : List TypeId) (vs : List Value) (ds : List (DataW H)) (ps : List MemPlace),
    (∀ t ∈ ts, P.readableRec t = true ∧ t < P.types.size) → DataW.TrodAll enc P W 0 (fun _ => true) true ts vs ds ps → (∀ x ∈ ps, x.block < W.heap.size) →
    DataW.TrodAll enc P W' 0 (fun b => decide (b < W.heap.size)) true ts vs ds ps := by
  intro ts
  induction ts with
  | nil =>
    intro vs ds ps _ h _
    obtain ⟨rfl, rfl, rfl⟩ := trodAll_nil h
    exact trodAll_mk0
  | cons t ts ih =>
    intro vs ds ps ht h hlt
    obtain ⟨v, vs', d, ds', p, q, rfl, rfl, rfl, h0, r0⟩ := trodAll_cons h
    have ht0 := ht t (by simp)
    exact trodAll_cons_mk (Below.trod hl ht0.1 ht0.2 h0 hb (fun x hx => hlt x (by simp [hx]))) (ih _ _ _ (fun u hu => ht u (by simp [hu])) r0 (fun x hx => hlt x (by simp [hx])))
end
end Go.Proofs.Ytpnigndobhbfnaa
