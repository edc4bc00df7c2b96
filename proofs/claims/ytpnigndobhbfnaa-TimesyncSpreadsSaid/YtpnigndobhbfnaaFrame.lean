/- The closed facts of the translation that every row needs, and that arguments read as they did. -/
import Derived.Test.YtpnigndobhbfnaaRows
import Derived.ProofKit
import Derived.OpenShut
import Derived.Lib.SmallJoins
namespace Go.Proofs.Ytpnigndobhbfnaa
open Go.ChangeShapes Go.WideShapes Go.ChangeAt Go.RowKit Go.Joins Go.Deep
theorem and_tt {a b : Bool} (ha : a = true) (hb : b = true) : (a && b) = true := by rw [ha, hb]; rfl
theorem beq_tt {α : Type} [BEq α] [LawfulBEq α] {a b : α} (h : b = a) : (a == b) = true := by rw [h]; exact beq_self_eq_true a
theorem make_of {P : Program} {r : List (List Char)} (h : behindMainWord (wordsSigns P.initOrder.toList) = "cut".toList :: r) : P.make = some .cut := by
  unfold Program.make
  generalize behindMainWord (wordsSigns P.initOrder.toList) = l at h
  subst h
  generalize P.headLifts = hl
  kernel_rfl
theorem lifts_of {P : Program} {r : List (List Char)} (h : behindMainWord (wordsSigns P.initOrder.toList) = "cut".toList :: r) : P.liftsFinal = false := by
  unfold Program.liftsFinal Program.headLifts
  generalize behindMainWord (wordsSigns P.initOrder.toList) = l at h
  subst h
  kernel_rfl
theorem enter_of {P : Program} {r : List (List Char)} (h : behindMainWord (wordsSigns P.initOrder.toList) = "cut".toList :: r) (h1 : P.laysLater = false) (h2 : P.bearsReflect = false) (h3 : P.doorRows = []) : P.mayEnter = true := by
  unfold Program.mayEnter Program.doorFits
  rw [h1, h2, h3]
  generalize behindMainWord (wordsSigns P.initOrder.toList) = l at h
  subst h
  kernel_rfl

set_option maxRecDepth 100000 in
/-- The signs of the translation's head (the word 'cut' and the roots), by their numbers. -/
def headSigns : List Char := [104, 97, 114, 110, 101, 115, 115, 32, 99, 51, 56, 53, 100, 102, 49, 97, 54, 102, 52, 50, 98, 50, 100, 99, 49, 53, 98, 102, 99, 56, 97, 51, 49, 49, 56, 57, 98, 49, 101, 50, 100, 100, 50, 54, 56, 98, 100, 97, 54, 49, 50, 57, 100, 48, 54, 53, 54, 99, 101, 97, 53, 102, 48, 56, 99, 54, 97, 55, 49, 49, 54, 101, 32, 99, 117, 116, 32, 97, 116, 32, 104, 111, 112, 109, 101, 115, 104, 47, 104, 111, 112, 109, 101, 115, 104, 108, 97, 119, 48, 56, 46, 67, 108, 111, 99, 107, 70, 111, 114, 119, 97, 114, 100, 32, 104, 111, 112, 109, 101, 115, 104, 47, 104, 111, 112, 109, 101, 115, 104, 108, 97, 119, 48, 56, 46, 67, 108, 111, 99, 107, 68, 114, 105, 102, 116, 115, 32, 104, 111, 112, 109, 101, 115, 104, 47, 104, 111, 112, 109, 101, 115, 104, 108, 97, 119, 48, 56, 46, 67, 108, 111, 99, 107, 82, 101, 97, 99, 104, 101, 115, 32, 104, 111, 112, 109, 101, 115, 104, 47, 104, 111, 112, 109, 101, 115, 104, 108, 97, 119, 48, 56, 46, 67, 108, 111, 99, 107, 83, 104, 111, 119, 115, 32, 104, 111, 112, 109, 101, 115, 104, 47, 104, 111, 112, 109, 101, 115, 104, 108, 97, 119, 48, 56, 46, 67, 108, 111, 99, 107, 83, 108, 111, 116, 115, 32, 104, 111, 112, 109, 101, 115, 104, 47, 104, 111, 112, 109, 101, 115, 104, 108, 97, 119, 49, 48, 46, 84, 105, 109, 101, 115, 121, 110, 99, 82, 117, 110, 115, 32, 104, 111, 112, 109, 101, 115, 104, 47, 104, 111, 112, 109, 101, 115, 104, 108, 97, 119, 48, 56, 46, 67, 108, 111, 99, 107, 79, 119, 110, 32, 104, 111, 112, 109, 101, 115, 104, 47, 104, 111, 112, 109, 101, 115, 104, 108, 97, 119, 49, 48, 46, 84, 105, 109, 101, 115, 121, 110, 99, 83, 112, 114, 101, 97, 100, 115, 32, 104, 111, 112, 109, 101, 115, 104, 47, 104, 111, 112, 109, 101, 115, 104, 108, 97, 119, 48, 56, 46, 67, 108, 111, 99, 107, 65, 100, 106, 117, 115, 116, 115, 32, 104, 111, 112, 109, 101, 115, 104, 47, 104, 111, 112, 109, 101, 115, 104, 108, 97, 119, 48, 56, 46, 67, 108, 111, 99, 107, 83, 104, 105, 102, 116, 115, 32, 104, 111, 112, 109, 101, 115, 104, 47, 104, 111, 112, 109, 101, 115, 104, 108, 97, 119, 49, 48, 46, 84, 105, 109, 101, 115, 121, 110, 99, 67, 111, 114, 114, 101, 99, 116, 115, 32, 104, 111, 112, 109, 101, 115, 104, 47, 104, 111, 112, 109, 101, 115, 104, 108, 97, 119, 49, 48, 46, 84, 105, 109, 101, 115, 121, 110, 99, 75, 101, 101, 112, 115, 32, 104, 111, 112, 109, 101, 115, 104, 47, 104, 111, 112, 109, 101, 115, 104, 108, 97, 119, 48, 57, 46, 71, 117, 97, 114, 100, 78, 117, 109, 98, 101, 114, 115, 32, 104, 111, 112, 109, 101, 115, 104, 47, 104, 111, 112, 109, 101, 115, 104, 108, 97, 119, 48, 57, 46, 71, 117, 97, 114, 100, 83, 108, 111, 116, 115, 32, 104, 111, 112, 109, 101, 115, 104, 47, 104, 111, 112, 109, 101, 115, 104, 108, 97, 119, 48, 57, 46, 71, 117, 97, 114, 100, 77, 111, 110, 111, 116, 111, 110, 101, 32, 104, 111, 112, 109, 101, 115, 104, 47, 104, 111, 112, 109, 101, 115, 104, 108, 97, 119, 48, 57, 46, 71, 117, 97, 114, 100, 76, 97, 115, 116, 115, 32, 104, 111, 112, 109, 101, 115, 104, 47, 104, 111, 112, 109, 101, 115, 104, 108, 97, 119, 49, 48, 46, 84, 105, 109, 101, 115, 121, 110, 99, 68, 101, 112, 116, 104, 115, 32, 104, 111, 112, 109, 101, 115, 104, 47, 104, 111, 112, 109, 101, 115, 104, 108, 97, 119, 48, 57, 46, 71, 117, 97, 114, 100, 65, 112, 97, 114, 116, 32, 104, 111, 112, 109, 101, 115, 104, 47, 104, 111, 112, 109, 101, 115, 104, 108, 97, 119, 49, 48, 46, 84, 105, 109, 101, 115, 121, 110, 99, 77, 101, 101, 116, 115, 32, 104, 111, 112, 109, 101, 115, 104, 47, 104, 111, 112, 109, 101, 115, 104, 108, 97, 119, 48, 57, 46, 71, 117, 97, 114, 100, 71, 114, 111, 119, 115, 32, 104, 111, 112, 109, 101, 115, 104, 47, 104, 111, 112, 109, 101, 115, 104, 108, 97, 119, 48, 57, 46, 71, 117, 97, 114, 100, 70, 114, 97, 109, 101, 115, 32, 104, 111, 112, 109, 101, 115, 104, 47, 104, 111, 112, 109, 101, 115, 104, 108, 97, 119, 48, 57, 46, 71, 117, 97, 114, 100, 70, 105, 116, 115, 32, 104, 111, 112, 109, 101, 115, 104, 47, 104, 111, 112, 109, 101, 115, 104, 108, 97, 119, 49, 48, 46, 84, 105, 109, 101, 115, 121, 110, 99, 79, 110, 101].map Char.ofNat
theorem head_is : Try.pinned.checked.prog.initOrder = String.ofList headSigns := by kernel_rfl
theorem head_list : Try.pinned.checked.prog.initOrder.toList = headSigns := (congrArg String.toList head_is).trans String.toList_ofList
theorem beh_is : behindMainWord (wordsSigns headSigns) = "cut".toList :: (behindMainWord (wordsSigns headSigns)).tail := by kernel_rfl
theorem beh_ex : behindMainWord (wordsSigns Try.pinned.checked.prog.initOrder.toList) = "cut".toList :: (behindMainWord (wordsSigns headSigns)).tail := (congrArg (fun l => behindMainWord (wordsSigns l)) head_list).trans beh_is
theorem J_laid : laidOutB Try.pinned.checked.prog = true := by kernel_rfl
theorem J_maps : mapsRowed Try.pinned.checked.prog = true := by kernel_rfl
theorem J_stops : (Try.pinned.checked.prog.stops == []) = true := by kernel_rfl
theorem J_knobs : (Try.pinned.checked.prog.stopKnobs == []) = true := by kernel_rfl
theorem J_keys : (true == Try.pinned.checked.prog.plainKeys) = true := by kernel_rfl
theorem J_heard : Try.pinned.checked.prog.stopsHeard = true := by kernel_rfl
theorem J_lays : Try.pinned.checked.prog.laysLater = false := by kernel_rfl
theorem J_refl : Try.pinned.checked.prog.bearsReflect = false := by kernel_rfl
theorem J_door : Try.pinned.checked.prog.doorRows = [] := by kernel_rfl
theorem J_enter : Try.pinned.checked.prog.mayEnter = true := enter_of beh_ex J_lays J_refl J_door
theorem J_lifts : (false == Try.pinned.checked.prog.liftsFinal) = true := beq_tt (lifts_of beh_ex)
theorem J_make : (Try.pinned.checked.prog.make == some .cut) = true := by rw [make_of beh_ex]; rfl

theorem Try.own : ownKnob Try.prog.godebug = none := by kernel_rfl
theorem Try.laidOut : laidOutB Try.prog = true := by kernel_rfl
theorem Try.cells23 : Try.prog.cellsOf 23 = 2 := by kernel_rfl
theorem Try.cells45 : Try.prog.cellsOf 45 = 4 := by kernel_rfl

section
variable {H : Type} {enc : TypeId × Value → H} {P : Program}
/-- Every argument reads as it did, where below the heap's old size nothing has turned. -/
theorem trodAll_stays (hl : laidOutB P = true) {W W' : World} (hb : Below W.heap.size W W') : ∀ (ts : List TypeId) (vs : List Value) (ds : List (DataW H)) (ps : List MemPlace),
    (∀ t ∈ ts, P.readableRec t = true ∧ t < P.types.size) → DataW.TrodAll enc P W 0 (fun _ => true) true ts vs ds ps → (∀ x ∈ ps, x.block < W.heap.size) →
    DataW.TrodAll enc P W' 0 (fun b => decide (b < W.heap.size)) true ts vs ds ps := by
  intro ts
  induction ts with
  | nil =>
    intro vs ds ps _ h _
    obtain ⟨rfl, rfl, rfl⟩ := trodAll_nil h
    exact trodAll_mk0
  | cons t ts ih =>
    intro vs ds ps ht h hlt
    obtain ⟨v, vs', d, ds', p, q, rfl, rfl, rfl, h0, r0⟩ := trodAll_cons h
    have ht0 := ht t (by simp)
    exact trodAll_cons_mk (Below.trod hl ht0.1 ht0.2 h0 hb (fun x hx => hlt x (by simp [hx]))) (ih _ _ _ (fun u hu => ht u (by simp [hu])) r0 (fun x hx => hlt x (by simp [hx])))
end

section
variable {H : Type} {enc : TypeId × Value → H} {P : Program} {w : World} {base : Nat} {spare : Nat → Bool} {held : Bool}
theorem okWide_array {r : Reach} {b0 : Nat} {t e : TypeId} {n : Nat} {v : Value} (ht : P.underlying t = some (.array n e)) (h : Value.okWide P w r b0 t v) : ∃ cs, v = .agg cs ∧ cs.size = P.cellsOf t := by
  simp only [Value.okWide, ht] at h
  obtain ⟨cs, h1, h2, _⟩ := h
  exact ⟨cs, h1, h2⟩
/-- An array of whole numbers by value: element for element. -/
theorem open_arr_at {r : Reach} {b0 : Nat} {t e : TypeId} {n : Nat} {v : Value} {d : DataW H} {p : List MemPlace} (ht : P.underlying t = some (.array n e)) (he : P.underlying e = some (.int .i64)) (hce : P.cellsOf e = 1) (hct : P.cellsOf t = n)
    (hv : Value.okWide P w r b0 t v) (h : DataW.Trod enc P w base spare held t v d p) :
    ∃ cs : Array Value, v = .agg cs ∧ cs.size = n ∧ ∀ i, (hi : i < cs.size) → ∃ a : Int, cs[i] = .int .i64 a ∧ (Lit.int .i64 a).wf = true := by
  obtain ⟨cs, rfl, hsz⟩ := okWide_array ht hv
  obtain ⟨fuel, hf⟩ := h
  obtain ⟨xs, m, _, _, hl, hx, hg⟩ := DataW.trod_array ht hf
  refine ⟨cs, rfl, hsz.trans hct, fun i hi => ?_⟩
  have hin : i < n := by omega
  have h1 := hg i hin
  rw [hce, Nat.mul_one] at h1
  have e1 : ((Value.agg cs).cells.toList.drop i).take 1 = [cs[i]] := by
    simp only [Value.cells]
    rw [List.drop_eq_getElem_cons (by simpa using hi)]
    simp
  rw [e1] at h1
  have h2 : xs[i]? = some (xs[i]'(by omega)) := List.getElem?_eq_getElem (by omega)
  rw [h2] at h1
  obtain ⟨a, e0, _, wa⟩ := DataW.trod_int he h1
  simp at e0
  exact ⟨a, e0, wa⟩
theorem open_a2 {r : Reach} {b0 : Nat} {t e : TypeId} {v : Value} {d : DataW H} {p : List MemPlace} (ht : P.underlying t = some (.array 2 e)) (he : P.underlying e = some (.int .i64)) (hce : P.cellsOf e = 1) (hct : P.cellsOf t = 2)
    (hv : Value.okWide P w r b0 t v) (h : DataW.Trod enc P w base spare held t v d p) : ∃ a b : Int, v = .agg #[.int .i64 a, .int .i64 b] ∧ (Lit.int .i64 a).wf = true ∧ (Lit.int .i64 b).wf = true := by
  obtain ⟨cs, rfl, hs, hg⟩ := open_arr_at ht he hce hct hv h
  obtain ⟨c0, c1, rfl⟩ := array2 hs
  obtain ⟨a, e0, w0⟩ := hg 0 (by simp)
  obtain ⟨b, e1, w1⟩ := hg 1 (by simp)
  simp at e0 e1
  subst e0 e1
  exact ⟨a, b, rfl, w0, w1⟩
theorem open_a3 {r : Reach} {b0 : Nat} {t e : TypeId} {v : Value} {d : DataW H} {p : List MemPlace} (ht : P.underlying t = some (.array 3 e)) (he : P.underlying e = some (.int .i64)) (hce : P.cellsOf e = 1) (hct : P.cellsOf t = 3)
    (hv : Value.okWide P w r b0 t v) (h : DataW.Trod enc P w base spare held t v d p) : ∃ a b c : Int, v = .agg #[.int .i64 a, .int .i64 b, .int .i64 c] ∧ (Lit.int .i64 a).wf = true ∧ (Lit.int .i64 b).wf = true ∧ (Lit.int .i64 c).wf = true := by
  obtain ⟨cs, rfl, hs, hg⟩ := open_arr_at ht he hce hct hv h
  obtain ⟨c0, c1, c2, rfl⟩ := array3 hs
  obtain ⟨a, e0, w0⟩ := hg 0 (by simp)
  obtain ⟨b, e1, w1⟩ := hg 1 (by simp)
  obtain ⟨c, e2, w2⟩ := hg 2 (by simp)
  simp at e0 e1 e2
  subst e0 e1 e2
  exact ⟨a, b, c, rfl, w0, w1, w2⟩
theorem open_a4 {r : Reach} {b0 : Nat} {t e : TypeId} {v : Value} {d : DataW H} {p : List MemPlace} (ht : P.underlying t = some (.array 4 e)) (he : P.underlying e = some (.int .i64)) (hce : P.cellsOf e = 1) (hct : P.cellsOf t = 4)
    (hv : Value.okWide P w r b0 t v) (h : DataW.Trod enc P w base spare held t v d p) : ∃ a b c e : Int, v = .agg #[.int .i64 a, .int .i64 b, .int .i64 c, .int .i64 e] ∧ (Lit.int .i64 a).wf = true ∧ (Lit.int .i64 b).wf = true ∧ (Lit.int .i64 c).wf = true ∧ (Lit.int .i64 e).wf = true := by
  obtain ⟨cs, rfl, hs, hg⟩ := open_arr_at ht he hce hct hv h
  obtain ⟨c0, c1, c2, c3, rfl⟩ := array4 hs
  obtain ⟨a, e0, w0⟩ := hg 0 (by simp)
  obtain ⟨b, e1, w1⟩ := hg 1 (by simp)
  obtain ⟨c, e2, w2⟩ := hg 2 (by simp)
  obtain ⟨d, e3, w3⟩ := hg 3 (by simp)
  simp at e0 e1 e2 e3
  subst e0 e1 e2 e3
  exact ⟨a, b, c, d, rfl, w0, w1, w2, w3⟩
/-- A struct of two whole numbers, by its cells. -/
theorem trod_clock {t : TypeId} {f0 f1 : Field} {fuel : Nat} {c0 c1 : Value} {x : DataW H × List MemPlace} (ht : P.underlying t = some (.struct #[f0, f1])) (hone : oneCellFields P #[f0, f1] = true) (h0 : P.underlying f0.type = some (.int .i64)) (h1 : P.underlying f1.type = some (.int .i64))
    (h : DataW.trod enc P w base spare held fuel t [c0, c1] = some x) : ∃ a b : Int, c0 = .int .i64 a ∧ c1 = .int .i64 b ∧ (Lit.int .i64 a).wf = true ∧ (Lit.int .i64 b).wf = true := by
  obtain ⟨y0, y1, n, _, _, g0, g1⟩ := trod_struct2 ht h
  obtain ⟨o0, k0⟩ := hone_of hone 0 f0 rfl
  obtain ⟨o1, k1⟩ := hone_of hone 1 f1 rfl
  rw [o0, k0] at g0
  rw [o1, k1] at g1
  obtain ⟨a, e0, _, wa⟩ := DataW.trod_int h0 g0
  obtain ⟨b, e1, _, wb⟩ := DataW.trod_int h1 g1
  simp at e0 e1
  exact ⟨a, b, e0, e1, wa, wb⟩
end
theorem Try.cells3 : Try.prog.cellsOf 3 = 1 := by kernel_rfl
section
variable {H : Type} {enc : TypeId × Value → H} {w : World} {base : Nat} {spare : Nat → Bool} {held : Bool}
set_option maxRecDepth 100000 in
theorem trod_synced {fuel : Nat} {c0 c1 c2 c3 : Value} {x : DataW H × List MemPlace} (h : DataW.trod enc Try.prog w base spare held fuel 45 [c0, c1, c2, c3] = some x) :
    ∃ a b c d : Int, c0 = .int .i64 a ∧ c1 = .int .i64 b ∧ c2 = .int .i64 c ∧ c3 = .int .i64 d ∧ (Lit.int .i64 a).wf = true ∧ (Lit.int .i64 b).wf = true ∧ (Lit.int .i64 c).wf = true ∧ (Lit.int .i64 d).wf = true := by
  obtain ⟨xs, n, _, _, _, hl, hg⟩ := DataW.trod_struct Try.underlying45 h
  have hl3 : xs.length = 3 := hl
  have g0 : DataW.trod enc Try.prog w base spare held n 23 (List.take (Try.prog.cellsOf 23) (List.drop 0 [c0, c1, c2, c3])) = xs[0]? := hg 0 _ rfl
  have g1 : DataW.trod enc Try.prog w base spare held n 3 (List.take (Try.prog.cellsOf 3) (List.drop 2 [c0, c1, c2, c3])) = xs[1]? := hg 1 _ rfl
  have g2 : DataW.trod enc Try.prog w base spare held n 3 (List.take (Try.prog.cellsOf 3) (List.drop 3 [c0, c1, c2, c3])) = xs[2]? := hg 2 _ rfl
  rw [Try.cells23] at g0
  rw [Try.cells3] at g1 g2
  simp only [List.drop, List.take] at g0 g1 g2
  rw [List.getElem?_eq_getElem (by omega)] at g0 g1 g2
  obtain ⟨a, b, e0, e1, wa, wb⟩ := trod_clock Try.underlying23 (by kernel_rfl) Try.underlying3 Try.underlying3 g0
  obtain ⟨c, e2, _, wc⟩ := DataW.trod_int Try.underlying3 g1
  obtain ⟨d, e3, _, wd⟩ := DataW.trod_int Try.underlying3 g2
  simp at e2 e3
  exact ⟨a, b, c, d, e0, e1, e2, e3, wa, wb, wc, wd⟩
set_option maxRecDepth 100000 in
theorem open_synced {r : Reach} {b0 : Nat} {v : Value} {d : DataW H} {p : List MemPlace} (hv : Value.okWide Try.prog w r b0 45 v) (h : DataW.Trod enc Try.prog w base spare held 45 v d p) :
    ∃ a b c e : Int, v = .agg #[.int .i64 a, .int .i64 b, .int .i64 c, .int .i64 e] ∧ (Lit.int .i64 a).wf = true ∧ (Lit.int .i64 b).wf = true ∧ (Lit.int .i64 c).wf = true ∧ (Lit.int .i64 e).wf = true := by
  obtain ⟨cs, rfl, hsz⟩ := okWide_struct Try.underlying45 hv
  obtain ⟨c0, c1, c2, c3, rfl⟩ := array4 (hsz.trans Try.cells45)
  obtain ⟨fuel, hf⟩ := h
  obtain ⟨a, b, c, d, rfl, rfl, rfl, rfl, w0, w1, w2, w3⟩ := trod_synced hf
  exact ⟨a, b, c, d, rfl, w0, w1, w2, w3⟩
end
end Go.Proofs.Ytpnigndobhbfnaa
