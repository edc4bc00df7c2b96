/-
  No cell of these rows narrows 'for every input' (looked for: loops, veiled, ifaces, maps, wideKeys, modest, calm, conditions, laid).
  DERIVED. THE GIVEN ROWS OF THIS SEAT. 23 by the template 'for every input the law returns true; each argument reads behind the call as it read before'; 0 by the template 'total and deterministic' (their statements: YtpnigndobhbfnaaTotals.lean).
  GIVEN WITH THE SEED: the statements are not yours to turn. If you find one false, say at which input.
  Laid BY PROGRAM, IN A SANDBOX (cutbox-rows.mjs): the forced cells as the released guide's own fill.sh prints them over the translation 61ad85d8640b8d58… (all of the seat's roots in one cut). By AI agents, Wed Nov 11 2026. No macro, syntax, notation, axiom, sorry.
-/
import Derived.Test.YtpnigndobhbfnaaChecked
import GoSem.Claim
import GoSem.ClaimJoined
import GoSem.ClaimMapViews
import Derived.JoinedTies
import Derived.KernelRfl
namespace Go.Proofs.Ytpnigndobhbfnaa
/- THE CELL 'sum', in the pinned program and in every row, IS THE sha256 OF THE DUMP (.gsa) THAT YtpnigndobhbfnaaProg.lean LOADS. Nothing in Lean hashes anything: it is a label: what it is worth is what the hold of that sum in a sandbox is worth. -/
noncomputable def Try.pinned : Pinned := { name := "ytpnigndobhbfnaa", sum := "61ad85d8640b8d58849ead3c5a092114ef5b8f9ef2efafed2f6dd1eb5ea40d1e", checked := Try.checked }
namespace Rows
def none {H : Type} : Left H := { results := [], args := [] }

/-- 'hopmeshlaw08.ClockForward': WHATEVER THE INPUT: true; the input reads as it did. -/
def clockForwardSpec : ChangeSpec := { name := "clockForward", fn := fun _ => fun
  | [d1, d2] => { results := [.lit (.bool true)], args := [d1, d2] }
  | _ => none }
def clockForwardRow : OpenClaim := { program := "ytpnigndobhbfnaa", sum := "61ad85d8640b8d58849ead3c5a092114ef5b8f9ef2efafed2f6dd1eb5ea40d1e", func := "hopmesh/hopmeshlaw08.ClockForward", spec := "clockForward", unfollowed := true, recurses := true, apart := false }
def ClockForwardSaid : Prop := clockForwardRow.holds Try.pinned (OpenSpec.ofChange clockForwardSpec)

/-- ITS FALSE NEIGHBOUR: 'it returns false'. Refute it at one input. -/
def clockForwardWrong : ChangeSpec := { name := "clockForward", fn := fun _ => fun
  | [d1, d2] => { results := [.lit (.bool false)], args := [d1, d2] }
  | _ => none }
def ClockForwardWrongFalsely : Prop := clockForwardRow.holds Try.pinned (OpenSpec.ofChange clockForwardWrong)

/-- 'hopmeshlaw08.ClockDrifts': WHATEVER THE INPUT: true; the input reads as it did. -/
def clockDriftsSpec : ChangeSpec := { name := "clockDrifts", fn := fun _ => fun
  | [d1, d2, d3] => { results := [.lit (.bool true)], args := [d1, d2, d3] }
  | _ => none }
def clockDriftsRow : OpenClaim := { program := "ytpnigndobhbfnaa", sum := "61ad85d8640b8d58849ead3c5a092114ef5b8f9ef2efafed2f6dd1eb5ea40d1e", func := "hopmesh/hopmeshlaw08.ClockDrifts", spec := "clockDrifts", unfollowed := true, recurses := true, apart := false }
def ClockDriftsSaid : Prop := clockDriftsRow.holds Try.pinned (OpenSpec.ofChange clockDriftsSpec)

/-- ITS FALSE NEIGHBOUR: 'it returns false'. Refute it at one input. -/
def clockDriftsWrong : ChangeSpec := { name := "clockDrifts", fn := fun _ => fun
  | [d1, d2, d3] => { results := [.lit (.bool false)], args := [d1, d2, d3] }
  | _ => none }
def ClockDriftsWrongFalsely : Prop := clockDriftsRow.holds Try.pinned (OpenSpec.ofChange clockDriftsWrong)

/-- 'hopmeshlaw08.ClockReaches': WHATEVER THE INPUT: true; the input reads as it did. -/
def clockReachesSpec : ChangeSpec := { name := "clockReaches", fn := fun _ => fun
  | [d1, d2, d3] => { results := [.lit (.bool true)], args := [d1, d2, d3] }
  | _ => none }
def clockReachesRow : OpenClaim := { program := "ytpnigndobhbfnaa", sum := "61ad85d8640b8d58849ead3c5a092114ef5b8f9ef2efafed2f6dd1eb5ea40d1e", func := "hopmesh/hopmeshlaw08.ClockReaches", spec := "clockReaches", unfollowed := true, recurses := true, apart := false }
def ClockReachesSaid : Prop := clockReachesRow.holds Try.pinned (OpenSpec.ofChange clockReachesSpec)

/-- ITS FALSE NEIGHBOUR: 'it returns false'. Refute it at one input. -/
def clockReachesWrong : ChangeSpec := { name := "clockReaches", fn := fun _ => fun
  | [d1, d2, d3] => { results := [.lit (.bool false)], args := [d1, d2, d3] }
  | _ => none }
def ClockReachesWrongFalsely : Prop := clockReachesRow.holds Try.pinned (OpenSpec.ofChange clockReachesWrong)

/-- 'hopmeshlaw08.ClockShows': WHATEVER THE INPUT: true; the input reads as it did. -/
def clockShowsSpec : ChangeSpec := { name := "clockShows", fn := fun _ => fun
  | [d1, d2, d3] => { results := [.lit (.bool true)], args := [d1, d2, d3] }
  | _ => none }
def clockShowsRow : OpenClaim := { program := "ytpnigndobhbfnaa", sum := "61ad85d8640b8d58849ead3c5a092114ef5b8f9ef2efafed2f6dd1eb5ea40d1e", func := "hopmesh/hopmeshlaw08.ClockShows", spec := "clockShows", unfollowed := true, recurses := true, apart := false }
def ClockShowsSaid : Prop := clockShowsRow.holds Try.pinned (OpenSpec.ofChange clockShowsSpec)

/-- ITS FALSE NEIGHBOUR: 'it returns false'. Refute it at one input. -/
def clockShowsWrong : ChangeSpec := { name := "clockShows", fn := fun _ => fun
  | [d1, d2, d3] => { results := [.lit (.bool false)], args := [d1, d2, d3] }
  | _ => none }
def ClockShowsWrongFalsely : Prop := clockShowsRow.holds Try.pinned (OpenSpec.ofChange clockShowsWrong)

/-- 'hopmeshlaw08.ClockSlots': WHATEVER THE INPUT: true; the input reads as it did. -/
def clockSlotsSpec : ChangeSpec := { name := "clockSlots", fn := fun _ => fun
  | [d1, d2] => { results := [.lit (.bool true)], args := [d1, d2] }
  | _ => none }
def clockSlotsRow : OpenClaim := { program := "ytpnigndobhbfnaa", sum := "61ad85d8640b8d58849ead3c5a092114ef5b8f9ef2efafed2f6dd1eb5ea40d1e", func := "hopmesh/hopmeshlaw08.ClockSlots", spec := "clockSlots", unfollowed := true, recurses := true, apart := false }
def ClockSlotsSaid : Prop := clockSlotsRow.holds Try.pinned (OpenSpec.ofChange clockSlotsSpec)

/-- ITS FALSE NEIGHBOUR: 'it returns false'. Refute it at one input. -/
def clockSlotsWrong : ChangeSpec := { name := "clockSlots", fn := fun _ => fun
  | [d1, d2] => { results := [.lit (.bool false)], args := [d1, d2] }
  | _ => none }
def ClockSlotsWrongFalsely : Prop := clockSlotsRow.holds Try.pinned (OpenSpec.ofChange clockSlotsWrong)

/-- 'hopmeshlaw10.TimesyncRuns': WHATEVER THE INPUT: true; the input reads as it did. -/
def timesyncRunsSpec : ChangeSpec := { name := "timesyncRuns", fn := fun _ => fun
  | [d1, d2, d3] => { results := [.lit (.bool true)], args := [d1, d2, d3] }
  | _ => none }
def timesyncRunsRow : OpenClaim := { program := "ytpnigndobhbfnaa", sum := "61ad85d8640b8d58849ead3c5a092114ef5b8f9ef2efafed2f6dd1eb5ea40d1e", func := "hopmesh/hopmeshlaw10.TimesyncRuns", spec := "timesyncRuns", unfollowed := true, recurses := true, apart := false }
def TimesyncRunsSaid : Prop := timesyncRunsRow.holds Try.pinned (OpenSpec.ofChange timesyncRunsSpec)

/-- ITS FALSE NEIGHBOUR: 'it returns false'. Refute it at one input. -/
def timesyncRunsWrong : ChangeSpec := { name := "timesyncRuns", fn := fun _ => fun
  | [d1, d2, d3] => { results := [.lit (.bool false)], args := [d1, d2, d3] }
  | _ => none }
def TimesyncRunsWrongFalsely : Prop := timesyncRunsRow.holds Try.pinned (OpenSpec.ofChange timesyncRunsWrong)

/-- 'hopmeshlaw08.ClockOwn': WHATEVER THE INPUT: true; the input reads as it did. -/
def clockOwnSpec : ChangeSpec := { name := "clockOwn", fn := fun _ => fun
  | [d1, d2] => { results := [.lit (.bool true)], args := [d1, d2] }
  | _ => none }
def clockOwnRow : OpenClaim := { program := "ytpnigndobhbfnaa", sum := "61ad85d8640b8d58849ead3c5a092114ef5b8f9ef2efafed2f6dd1eb5ea40d1e", func := "hopmesh/hopmeshlaw08.ClockOwn", spec := "clockOwn", unfollowed := true, recurses := true, apart := false }
def ClockOwnSaid : Prop := clockOwnRow.holds Try.pinned (OpenSpec.ofChange clockOwnSpec)

/-- ITS FALSE NEIGHBOUR: 'it returns false'. Refute it at one input. -/
def clockOwnWrong : ChangeSpec := { name := "clockOwn", fn := fun _ => fun
  | [d1, d2] => { results := [.lit (.bool false)], args := [d1, d2] }
  | _ => none }
def ClockOwnWrongFalsely : Prop := clockOwnRow.holds Try.pinned (OpenSpec.ofChange clockOwnWrong)

/-- 'hopmeshlaw10.TimesyncSpreads': WHATEVER THE INPUT: true; the input reads as it did. -/
def timesyncSpreadsSpec : ChangeSpec := { name := "timesyncSpreads", fn := fun _ => fun
  | [d1, d2, d3] => { results := [.lit (.bool true)], args := [d1, d2, d3] }
  | _ => none }
def timesyncSpreadsRow : OpenClaim := { program := "ytpnigndobhbfnaa", sum := "61ad85d8640b8d58849ead3c5a092114ef5b8f9ef2efafed2f6dd1eb5ea40d1e", func := "hopmesh/hopmeshlaw10.TimesyncSpreads", spec := "timesyncSpreads", unfollowed := true, recurses := true, apart := false }
def TimesyncSpreadsSaid : Prop := timesyncSpreadsRow.holds Try.pinned (OpenSpec.ofChange timesyncSpreadsSpec)

/-- ITS FALSE NEIGHBOUR: 'it returns false'. Refute it at one input. -/
def timesyncSpreadsWrong : ChangeSpec := { name := "timesyncSpreads", fn := fun _ => fun
  | [d1, d2, d3] => { results := [.lit (.bool false)], args := [d1, d2, d3] }
  | _ => none }
def TimesyncSpreadsWrongFalsely : Prop := timesyncSpreadsRow.holds Try.pinned (OpenSpec.ofChange timesyncSpreadsWrong)

/-- 'hopmeshlaw08.ClockAdjusts': WHATEVER THE INPUT: true; the input reads as it did. -/
def clockAdjustsSpec : ChangeSpec := { name := "clockAdjusts", fn := fun _ => fun
  | [d1, d2, d3] => { results := [.lit (.bool true)], args := [d1, d2, d3] }
  | _ => none }
def clockAdjustsRow : OpenClaim := { program := "ytpnigndobhbfnaa", sum := "61ad85d8640b8d58849ead3c5a092114ef5b8f9ef2efafed2f6dd1eb5ea40d1e", func := "hopmesh/hopmeshlaw08.ClockAdjusts", spec := "clockAdjusts", unfollowed := true, recurses := true, apart := false }
def ClockAdjustsSaid : Prop := clockAdjustsRow.holds Try.pinned (OpenSpec.ofChange clockAdjustsSpec)

/-- ITS FALSE NEIGHBOUR: 'it returns false'. Refute it at one input. -/
def clockAdjustsWrong : ChangeSpec := { name := "clockAdjusts", fn := fun _ => fun
  | [d1, d2, d3] => { results := [.lit (.bool false)], args := [d1, d2, d3] }
  | _ => none }
def ClockAdjustsWrongFalsely : Prop := clockAdjustsRow.holds Try.pinned (OpenSpec.ofChange clockAdjustsWrong)

/-- 'hopmeshlaw08.ClockShifts': WHATEVER THE INPUT: true; the input reads as it did. -/
def clockShiftsSpec : ChangeSpec := { name := "clockShifts", fn := fun _ => fun
  | [d1, d2, d3] => { results := [.lit (.bool true)], args := [d1, d2, d3] }
  | _ => none }
def clockShiftsRow : OpenClaim := { program := "ytpnigndobhbfnaa", sum := "61ad85d8640b8d58849ead3c5a092114ef5b8f9ef2efafed2f6dd1eb5ea40d1e", func := "hopmesh/hopmeshlaw08.ClockShifts", spec := "clockShifts", unfollowed := true, recurses := true, apart := false }
def ClockShiftsSaid : Prop := clockShiftsRow.holds Try.pinned (OpenSpec.ofChange clockShiftsSpec)

/-- ITS FALSE NEIGHBOUR: 'it returns false'. Refute it at one input. -/
def clockShiftsWrong : ChangeSpec := { name := "clockShifts", fn := fun _ => fun
  | [d1, d2, d3] => { results := [.lit (.bool false)], args := [d1, d2, d3] }
  | _ => none }
def ClockShiftsWrongFalsely : Prop := clockShiftsRow.holds Try.pinned (OpenSpec.ofChange clockShiftsWrong)

/-- 'hopmeshlaw10.TimesyncCorrects': WHATEVER THE INPUT: true; the input reads as it did. -/
def timesyncCorrectsSpec : ChangeSpec := { name := "timesyncCorrects", fn := fun _ => fun
  | [d1, d2] => { results := [.lit (.bool true)], args := [d1, d2] }
  | _ => none }
def timesyncCorrectsRow : OpenClaim := { program := "ytpnigndobhbfnaa", sum := "61ad85d8640b8d58849ead3c5a092114ef5b8f9ef2efafed2f6dd1eb5ea40d1e", func := "hopmesh/hopmeshlaw10.TimesyncCorrects", spec := "timesyncCorrects", unfollowed := true, recurses := true, apart := false }
def TimesyncCorrectsSaid : Prop := timesyncCorrectsRow.holds Try.pinned (OpenSpec.ofChange timesyncCorrectsSpec)

/-- ITS FALSE NEIGHBOUR: 'it returns false'. Refute it at one input. -/
def timesyncCorrectsWrong : ChangeSpec := { name := "timesyncCorrects", fn := fun _ => fun
  | [d1, d2] => { results := [.lit (.bool false)], args := [d1, d2] }
  | _ => none }
def TimesyncCorrectsWrongFalsely : Prop := timesyncCorrectsRow.holds Try.pinned (OpenSpec.ofChange timesyncCorrectsWrong)

/-- 'hopmeshlaw10.TimesyncKeeps': WHATEVER THE INPUT: true; the input reads as it did. -/
def timesyncKeepsSpec : ChangeSpec := { name := "timesyncKeeps", fn := fun _ => fun
  | [d1, d2, d3] => { results := [.lit (.bool true)], args := [d1, d2, d3] }
  | _ => none }
def timesyncKeepsRow : OpenClaim := { program := "ytpnigndobhbfnaa", sum := "61ad85d8640b8d58849ead3c5a092114ef5b8f9ef2efafed2f6dd1eb5ea40d1e", func := "hopmesh/hopmeshlaw10.TimesyncKeeps", spec := "timesyncKeeps", unfollowed := true, recurses := true, apart := false }
def TimesyncKeepsSaid : Prop := timesyncKeepsRow.holds Try.pinned (OpenSpec.ofChange timesyncKeepsSpec)

/-- ITS FALSE NEIGHBOUR: 'it returns false'. Refute it at one input. -/
def timesyncKeepsWrong : ChangeSpec := { name := "timesyncKeeps", fn := fun _ => fun
  | [d1, d2, d3] => { results := [.lit (.bool false)], args := [d1, d2, d3] }
  | _ => none }
def TimesyncKeepsWrongFalsely : Prop := timesyncKeepsRow.holds Try.pinned (OpenSpec.ofChange timesyncKeepsWrong)

/-- 'hopmeshlaw09.GuardNumbers': WHATEVER THE INPUT: true; the input reads as it did. -/
def guardNumbersSpec : ChangeSpec := { name := "guardNumbers", fn := fun _ => fun
  | [d1, d2, d3] => { results := [.lit (.bool true)], args := [d1, d2, d3] }
  | _ => none }
def guardNumbersRow : OpenClaim := { program := "ytpnigndobhbfnaa", sum := "61ad85d8640b8d58849ead3c5a092114ef5b8f9ef2efafed2f6dd1eb5ea40d1e", func := "hopmesh/hopmeshlaw09.GuardNumbers", spec := "guardNumbers", unfollowed := true, recurses := true, apart := false }
def GuardNumbersSaid : Prop := guardNumbersRow.holds Try.pinned (OpenSpec.ofChange guardNumbersSpec)

/-- ITS FALSE NEIGHBOUR: 'it returns false'. Refute it at one input. -/
def guardNumbersWrong : ChangeSpec := { name := "guardNumbers", fn := fun _ => fun
  | [d1, d2, d3] => { results := [.lit (.bool false)], args := [d1, d2, d3] }
  | _ => none }
def GuardNumbersWrongFalsely : Prop := guardNumbersRow.holds Try.pinned (OpenSpec.ofChange guardNumbersWrong)

/-- 'hopmeshlaw09.GuardSlots': WHATEVER THE INPUT: true; the input reads as it did. -/
def guardSlotsSpec : ChangeSpec := { name := "guardSlots", fn := fun _ => fun
  | [d1, d2, d3] => { results := [.lit (.bool true)], args := [d1, d2, d3] }
  | _ => none }
def guardSlotsRow : OpenClaim := { program := "ytpnigndobhbfnaa", sum := "61ad85d8640b8d58849ead3c5a092114ef5b8f9ef2efafed2f6dd1eb5ea40d1e", func := "hopmesh/hopmeshlaw09.GuardSlots", spec := "guardSlots", unfollowed := true, recurses := true, apart := false }
def GuardSlotsSaid : Prop := guardSlotsRow.holds Try.pinned (OpenSpec.ofChange guardSlotsSpec)

/-- ITS FALSE NEIGHBOUR: 'it returns false'. Refute it at one input. -/
def guardSlotsWrong : ChangeSpec := { name := "guardSlots", fn := fun _ => fun
  | [d1, d2, d3] => { results := [.lit (.bool false)], args := [d1, d2, d3] }
  | _ => none }
def GuardSlotsWrongFalsely : Prop := guardSlotsRow.holds Try.pinned (OpenSpec.ofChange guardSlotsWrong)

/-- 'hopmeshlaw09.GuardMonotone': WHATEVER THE INPUT: true; the input reads as it did. -/
def guardMonotoneSpec : ChangeSpec := { name := "guardMonotone", fn := fun _ => fun
  | [d1, d2] => { results := [.lit (.bool true)], args := [d1, d2] }
  | _ => none }
def guardMonotoneRow : OpenClaim := { program := "ytpnigndobhbfnaa", sum := "61ad85d8640b8d58849ead3c5a092114ef5b8f9ef2efafed2f6dd1eb5ea40d1e", func := "hopmesh/hopmeshlaw09.GuardMonotone", spec := "guardMonotone", unfollowed := true, recurses := true, apart := false }
def GuardMonotoneSaid : Prop := guardMonotoneRow.holds Try.pinned (OpenSpec.ofChange guardMonotoneSpec)

/-- ITS FALSE NEIGHBOUR: 'it returns false'. Refute it at one input. -/
def guardMonotoneWrong : ChangeSpec := { name := "guardMonotone", fn := fun _ => fun
  | [d1, d2] => { results := [.lit (.bool false)], args := [d1, d2] }
  | _ => none }
def GuardMonotoneWrongFalsely : Prop := guardMonotoneRow.holds Try.pinned (OpenSpec.ofChange guardMonotoneWrong)

/-- 'hopmeshlaw09.GuardLasts': WHATEVER THE INPUT: true; the input reads as it did. -/
def guardLastsSpec : ChangeSpec := { name := "guardLasts", fn := fun _ => fun
  | [d1, d2] => { results := [.lit (.bool true)], args := [d1, d2] }
  | _ => none }
def guardLastsRow : OpenClaim := { program := "ytpnigndobhbfnaa", sum := "61ad85d8640b8d58849ead3c5a092114ef5b8f9ef2efafed2f6dd1eb5ea40d1e", func := "hopmesh/hopmeshlaw09.GuardLasts", spec := "guardLasts", unfollowed := true, recurses := true, apart := false }
def GuardLastsSaid : Prop := guardLastsRow.holds Try.pinned (OpenSpec.ofChange guardLastsSpec)

/-- ITS FALSE NEIGHBOUR: 'it returns false'. Refute it at one input. -/
def guardLastsWrong : ChangeSpec := { name := "guardLasts", fn := fun _ => fun
  | [d1, d2] => { results := [.lit (.bool false)], args := [d1, d2] }
  | _ => none }
def GuardLastsWrongFalsely : Prop := guardLastsRow.holds Try.pinned (OpenSpec.ofChange guardLastsWrong)

/-- 'hopmeshlaw10.TimesyncDepths': WHATEVER THE INPUT: true; the input reads as it did. -/
def timesyncDepthsSpec : ChangeSpec := { name := "timesyncDepths", fn := fun _ => fun
  | [d] => { results := [.lit (.bool true)], args := [d] }
  | _ => none }
def timesyncDepthsRow : OpenClaim := { program := "ytpnigndobhbfnaa", sum := "61ad85d8640b8d58849ead3c5a092114ef5b8f9ef2efafed2f6dd1eb5ea40d1e", func := "hopmesh/hopmeshlaw10.TimesyncDepths", spec := "timesyncDepths", unfollowed := true, recurses := true, apart := false }
def TimesyncDepthsSaid : Prop := timesyncDepthsRow.holds Try.pinned (OpenSpec.ofChange timesyncDepthsSpec)

/-- ITS FALSE NEIGHBOUR: 'it returns false'. Refute it at one input. -/
def timesyncDepthsWrong : ChangeSpec := { name := "timesyncDepths", fn := fun _ => fun
  | [d] => { results := [.lit (.bool false)], args := [d] }
  | _ => none }
def TimesyncDepthsWrongFalsely : Prop := timesyncDepthsRow.holds Try.pinned (OpenSpec.ofChange timesyncDepthsWrong)

/-- 'hopmeshlaw09.GuardApart': WHATEVER THE INPUT: true; the input reads as it did. -/
def guardApartSpec : ChangeSpec := { name := "guardApart", fn := fun _ => fun
  | [d1, d2, d3] => { results := [.lit (.bool true)], args := [d1, d2, d3] }
  | _ => none }
def guardApartRow : OpenClaim := { program := "ytpnigndobhbfnaa", sum := "61ad85d8640b8d58849ead3c5a092114ef5b8f9ef2efafed2f6dd1eb5ea40d1e", func := "hopmesh/hopmeshlaw09.GuardApart", spec := "guardApart", unfollowed := true, recurses := true, apart := false }
def GuardApartSaid : Prop := guardApartRow.holds Try.pinned (OpenSpec.ofChange guardApartSpec)

/-- ITS FALSE NEIGHBOUR: 'it returns false'. Refute it at one input. -/
def guardApartWrong : ChangeSpec := { name := "guardApart", fn := fun _ => fun
  | [d1, d2, d3] => { results := [.lit (.bool false)], args := [d1, d2, d3] }
  | _ => none }
def GuardApartWrongFalsely : Prop := guardApartRow.holds Try.pinned (OpenSpec.ofChange guardApartWrong)

/-- 'hopmeshlaw10.TimesyncMeets': WHATEVER THE INPUT: true; the input reads as it did. -/
def timesyncMeetsSpec : ChangeSpec := { name := "timesyncMeets", fn := fun _ => fun
  | [d1, d2, d3] => { results := [.lit (.bool true)], args := [d1, d2, d3] }
  | _ => none }
def timesyncMeetsRow : OpenClaim := { program := "ytpnigndobhbfnaa", sum := "61ad85d8640b8d58849ead3c5a092114ef5b8f9ef2efafed2f6dd1eb5ea40d1e", func := "hopmesh/hopmeshlaw10.TimesyncMeets", spec := "timesyncMeets", unfollowed := true, recurses := true, apart := false }
def TimesyncMeetsSaid : Prop := timesyncMeetsRow.holds Try.pinned (OpenSpec.ofChange timesyncMeetsSpec)

/-- ITS FALSE NEIGHBOUR: 'it returns false'. Refute it at one input. -/
def timesyncMeetsWrong : ChangeSpec := { name := "timesyncMeets", fn := fun _ => fun
  | [d1, d2, d3] => { results := [.lit (.bool false)], args := [d1, d2, d3] }
  | _ => none }
def TimesyncMeetsWrongFalsely : Prop := timesyncMeetsRow.holds Try.pinned (OpenSpec.ofChange timesyncMeetsWrong)

/-- 'hopmeshlaw09.GuardGrows': WHATEVER THE INPUT: true; the input reads as it did. -/
def guardGrowsSpec : ChangeSpec := { name := "guardGrows", fn := fun _ => fun
  | [d1, d2, d3] => { results := [.lit (.bool true)], args := [d1, d2, d3] }
  | _ => none }
def guardGrowsRow : OpenClaim := { program := "ytpnigndobhbfnaa", sum := "61ad85d8640b8d58849ead3c5a092114ef5b8f9ef2efafed2f6dd1eb5ea40d1e", func := "hopmesh/hopmeshlaw09.GuardGrows", spec := "guardGrows", unfollowed := true, recurses := true, apart := false }
def GuardGrowsSaid : Prop := guardGrowsRow.holds Try.pinned (OpenSpec.ofChange guardGrowsSpec)

/-- ITS FALSE NEIGHBOUR: 'it returns false'. Refute it at one input. -/
def guardGrowsWrong : ChangeSpec := { name := "guardGrows", fn := fun _ => fun
  | [d1, d2, d3] => { results := [.lit (.bool false)], args := [d1, d2, d3] }
  | _ => none }
def GuardGrowsWrongFalsely : Prop := guardGrowsRow.holds Try.pinned (OpenSpec.ofChange guardGrowsWrong)

/-- 'hopmeshlaw09.GuardFrames': WHATEVER THE INPUT: true; the input reads as it did. -/
def guardFramesSpec : ChangeSpec := { name := "guardFrames", fn := fun _ => fun
  | [d1, d2, d3] => { results := [.lit (.bool true)], args := [d1, d2, d3] }
  | _ => none }
def guardFramesRow : OpenClaim := { program := "ytpnigndobhbfnaa", sum := "61ad85d8640b8d58849ead3c5a092114ef5b8f9ef2efafed2f6dd1eb5ea40d1e", func := "hopmesh/hopmeshlaw09.GuardFrames", spec := "guardFrames", unfollowed := true, recurses := true, apart := false }
def GuardFramesSaid : Prop := guardFramesRow.holds Try.pinned (OpenSpec.ofChange guardFramesSpec)

/-- ITS FALSE NEIGHBOUR: 'it returns false'. Refute it at one input. -/
def guardFramesWrong : ChangeSpec := { name := "guardFrames", fn := fun _ => fun
  | [d1, d2, d3] => { results := [.lit (.bool false)], args := [d1, d2, d3] }
  | _ => none }
def GuardFramesWrongFalsely : Prop := guardFramesRow.holds Try.pinned (OpenSpec.ofChange guardFramesWrong)

/-- 'hopmeshlaw09.GuardFits': WHATEVER THE INPUT: true; the input reads as it did. -/
def guardFitsSpec : ChangeSpec := { name := "guardFits", fn := fun _ => fun
  | [d1, d2, d3] => { results := [.lit (.bool true)], args := [d1, d2, d3] }
  | _ => none }
def guardFitsRow : OpenClaim := { program := "ytpnigndobhbfnaa", sum := "61ad85d8640b8d58849ead3c5a092114ef5b8f9ef2efafed2f6dd1eb5ea40d1e", func := "hopmesh/hopmeshlaw09.GuardFits", spec := "guardFits", unfollowed := true, recurses := true, apart := false }
def GuardFitsSaid : Prop := guardFitsRow.holds Try.pinned (OpenSpec.ofChange guardFitsSpec)

/-- ITS FALSE NEIGHBOUR: 'it returns false'. Refute it at one input. -/
def guardFitsWrong : ChangeSpec := { name := "guardFits", fn := fun _ => fun
  | [d1, d2, d3] => { results := [.lit (.bool false)], args := [d1, d2, d3] }
  | _ => none }
def GuardFitsWrongFalsely : Prop := guardFitsRow.holds Try.pinned (OpenSpec.ofChange guardFitsWrong)

/-- 'hopmeshlaw10.TimesyncOne': WHATEVER THE INPUT: true; the input reads as it did. -/
def timesyncOneSpec : ChangeSpec := { name := "timesyncOne", fn := fun _ => fun
  | [d1, d2, d3] => { results := [.lit (.bool true)], args := [d1, d2, d3] }
  | _ => none }
def timesyncOneRow : OpenClaim := { program := "ytpnigndobhbfnaa", sum := "61ad85d8640b8d58849ead3c5a092114ef5b8f9ef2efafed2f6dd1eb5ea40d1e", func := "hopmesh/hopmeshlaw10.TimesyncOne", spec := "timesyncOne", unfollowed := true, recurses := true, apart := false }
def TimesyncOneSaid : Prop := timesyncOneRow.holds Try.pinned (OpenSpec.ofChange timesyncOneSpec)

/-- ITS FALSE NEIGHBOUR: 'it returns false'. Refute it at one input. -/
def timesyncOneWrong : ChangeSpec := { name := "timesyncOne", fn := fun _ => fun
  | [d1, d2, d3] => { results := [.lit (.bool false)], args := [d1, d2, d3] }
  | _ => none }
def TimesyncOneWrongFalsely : Prop := timesyncOneRow.holds Try.pinned (OpenSpec.ofChange timesyncOneWrong)

/- THE SECOND FORM. 'bulk': how many values and letters a reading holds, each counted each time it is reached (what is shared counts as often as it is met; a slice's spare places count too). A statement '..UptoSaid' is the law's where the arguments, and the package variables that the reading takes, are together of bulk at most 1048576: NARROWER than '..Said'. Prove '..Said' where nothing that the law and all that it calls make is longer than what came in: it says more and counts as full. Else prove '..UptoSaid'. A law counts once. -/
mutual
def uptoBulk {H : Type} : DataW H → Nat
  | .lit (.string bytes) => bytes.length + 1
  | .lit _ => 1
  | .nil => 1
  | .ptr d => uptoBulk d + 1
  | .slice elems spare => uptoBulkAll elems + uptoBulkAll spare + 1
  | .agg parts => uptoBulkAll parts + 1
  | .iface _ d => uptoBulk d + 1
  | .map entries => uptoBulkEntries entries + 1
  | .held _ => 1
def uptoBulkAll {H : Type} : List (DataW H) → Nat
  | [] => 0
  | d :: r => uptoBulk d + uptoBulkAll r
def uptoBulkEntries {H : Type} : List (Lit × DataW H) → Nat
  | [] => 0
  | x :: r => uptoBulkEntry x + uptoBulkEntries r
def uptoBulkEntry {H : Type} : Lit × DataW H → Nat
  | (.string bytes, d) => bytes.length + uptoBulk d + 1
  | (_, d) => uptoBulk d + 1
 end
def uptoSmall : (H : Type) → List (DataW H) → Bool := fun _ ds => decide (uptoBulkAll ds ≤ 1048576)
def OpenSpec.upto (s : _root_.Go.ChangeSpec) : _root_.Go.OpenSpec := { _root_.Go.OpenSpec.ofChange s with cond := some uptoSmall }

/-- 'hopmeshlaw08.ClockForward', WHERE WHAT IT READS IS OF BULK AT MOST 1048576: true; the input reads as it did. -/
def clockForwardUptoRow : OpenClaim := { program := "ytpnigndobhbfnaa", sum := "61ad85d8640b8d58849ead3c5a092114ef5b8f9ef2efafed2f6dd1eb5ea40d1e", func := "hopmesh/hopmeshlaw08.ClockForward", spec := "clockForward", unfollowed := true, recurses := true, apart := false, narrowed := true }
def ClockForwardUptoSaid : Prop := clockForwardUptoRow.holds Try.pinned (OpenSpec.upto clockForwardSpec)

/-- 'hopmeshlaw08.ClockDrifts', WHERE WHAT IT READS IS OF BULK AT MOST 1048576: true; the input reads as it did. -/
def clockDriftsUptoRow : OpenClaim := { program := "ytpnigndobhbfnaa", sum := "61ad85d8640b8d58849ead3c5a092114ef5b8f9ef2efafed2f6dd1eb5ea40d1e", func := "hopmesh/hopmeshlaw08.ClockDrifts", spec := "clockDrifts", unfollowed := true, recurses := true, apart := false, narrowed := true }
def ClockDriftsUptoSaid : Prop := clockDriftsUptoRow.holds Try.pinned (OpenSpec.upto clockDriftsSpec)

/-- 'hopmeshlaw08.ClockReaches', WHERE WHAT IT READS IS OF BULK AT MOST 1048576: true; the input reads as it did. -/
def clockReachesUptoRow : OpenClaim := { program := "ytpnigndobhbfnaa", sum := "61ad85d8640b8d58849ead3c5a092114ef5b8f9ef2efafed2f6dd1eb5ea40d1e", func := "hopmesh/hopmeshlaw08.ClockReaches", spec := "clockReaches", unfollowed := true, recurses := true, apart := false, narrowed := true }
def ClockReachesUptoSaid : Prop := clockReachesUptoRow.holds Try.pinned (OpenSpec.upto clockReachesSpec)

/-- 'hopmeshlaw08.ClockShows', WHERE WHAT IT READS IS OF BULK AT MOST 1048576: true; the input reads as it did. -/
def clockShowsUptoRow : OpenClaim := { program := "ytpnigndobhbfnaa", sum := "61ad85d8640b8d58849ead3c5a092114ef5b8f9ef2efafed2f6dd1eb5ea40d1e", func := "hopmesh/hopmeshlaw08.ClockShows", spec := "clockShows", unfollowed := true, recurses := true, apart := false, narrowed := true }
def ClockShowsUptoSaid : Prop := clockShowsUptoRow.holds Try.pinned (OpenSpec.upto clockShowsSpec)

/-- 'hopmeshlaw08.ClockSlots', WHERE WHAT IT READS IS OF BULK AT MOST 1048576: true; the input reads as it did. -/
def clockSlotsUptoRow : OpenClaim := { program := "ytpnigndobhbfnaa", sum := "61ad85d8640b8d58849ead3c5a092114ef5b8f9ef2efafed2f6dd1eb5ea40d1e", func := "hopmesh/hopmeshlaw08.ClockSlots", spec := "clockSlots", unfollowed := true, recurses := true, apart := false, narrowed := true }
def ClockSlotsUptoSaid : Prop := clockSlotsUptoRow.holds Try.pinned (OpenSpec.upto clockSlotsSpec)

/-- 'hopmeshlaw10.TimesyncRuns', WHERE WHAT IT READS IS OF BULK AT MOST 1048576: true; the input reads as it did. -/
def timesyncRunsUptoRow : OpenClaim := { program := "ytpnigndobhbfnaa", sum := "61ad85d8640b8d58849ead3c5a092114ef5b8f9ef2efafed2f6dd1eb5ea40d1e", func := "hopmesh/hopmeshlaw10.TimesyncRuns", spec := "timesyncRuns", unfollowed := true, recurses := true, apart := false, narrowed := true }
def TimesyncRunsUptoSaid : Prop := timesyncRunsUptoRow.holds Try.pinned (OpenSpec.upto timesyncRunsSpec)

/-- 'hopmeshlaw08.ClockOwn', WHERE WHAT IT READS IS OF BULK AT MOST 1048576: true; the input reads as it did. -/
def clockOwnUptoRow : OpenClaim := { program := "ytpnigndobhbfnaa", sum := "61ad85d8640b8d58849ead3c5a092114ef5b8f9ef2efafed2f6dd1eb5ea40d1e", func := "hopmesh/hopmeshlaw08.ClockOwn", spec := "clockOwn", unfollowed := true, recurses := true, apart := false, narrowed := true }
def ClockOwnUptoSaid : Prop := clockOwnUptoRow.holds Try.pinned (OpenSpec.upto clockOwnSpec)

/-- 'hopmeshlaw10.TimesyncSpreads', WHERE WHAT IT READS IS OF BULK AT MOST 1048576: true; the input reads as it did. -/
def timesyncSpreadsUptoRow : OpenClaim := { program := "ytpnigndobhbfnaa", sum := "61ad85d8640b8d58849ead3c5a092114ef5b8f9ef2efafed2f6dd1eb5ea40d1e", func := "hopmesh/hopmeshlaw10.TimesyncSpreads", spec := "timesyncSpreads", unfollowed := true, recurses := true, apart := false, narrowed := true }
def TimesyncSpreadsUptoSaid : Prop := timesyncSpreadsUptoRow.holds Try.pinned (OpenSpec.upto timesyncSpreadsSpec)

/-- 'hopmeshlaw08.ClockAdjusts', WHERE WHAT IT READS IS OF BULK AT MOST 1048576: true; the input reads as it did. -/
def clockAdjustsUptoRow : OpenClaim := { program := "ytpnigndobhbfnaa", sum := "61ad85d8640b8d58849ead3c5a092114ef5b8f9ef2efafed2f6dd1eb5ea40d1e", func := "hopmesh/hopmeshlaw08.ClockAdjusts", spec := "clockAdjusts", unfollowed := true, recurses := true, apart := false, narrowed := true }
def ClockAdjustsUptoSaid : Prop := clockAdjustsUptoRow.holds Try.pinned (OpenSpec.upto clockAdjustsSpec)

/-- 'hopmeshlaw08.ClockShifts', WHERE WHAT IT READS IS OF BULK AT MOST 1048576: true; the input reads as it did. -/
def clockShiftsUptoRow : OpenClaim := { program := "ytpnigndobhbfnaa", sum := "61ad85d8640b8d58849ead3c5a092114ef5b8f9ef2efafed2f6dd1eb5ea40d1e", func := "hopmesh/hopmeshlaw08.ClockShifts", spec := "clockShifts", unfollowed := true, recurses := true, apart := false, narrowed := true }
def ClockShiftsUptoSaid : Prop := clockShiftsUptoRow.holds Try.pinned (OpenSpec.upto clockShiftsSpec)

/-- 'hopmeshlaw10.TimesyncCorrects', WHERE WHAT IT READS IS OF BULK AT MOST 1048576: true; the input reads as it did. -/
def timesyncCorrectsUptoRow : OpenClaim := { program := "ytpnigndobhbfnaa", sum := "61ad85d8640b8d58849ead3c5a092114ef5b8f9ef2efafed2f6dd1eb5ea40d1e", func := "hopmesh/hopmeshlaw10.TimesyncCorrects", spec := "timesyncCorrects", unfollowed := true, recurses := true, apart := false, narrowed := true }
def TimesyncCorrectsUptoSaid : Prop := timesyncCorrectsUptoRow.holds Try.pinned (OpenSpec.upto timesyncCorrectsSpec)

/-- 'hopmeshlaw10.TimesyncKeeps', WHERE WHAT IT READS IS OF BULK AT MOST 1048576: true; the input reads as it did. -/
def timesyncKeepsUptoRow : OpenClaim := { program := "ytpnigndobhbfnaa", sum := "61ad85d8640b8d58849ead3c5a092114ef5b8f9ef2efafed2f6dd1eb5ea40d1e", func := "hopmesh/hopmeshlaw10.TimesyncKeeps", spec := "timesyncKeeps", unfollowed := true, recurses := true, apart := false, narrowed := true }
def TimesyncKeepsUptoSaid : Prop := timesyncKeepsUptoRow.holds Try.pinned (OpenSpec.upto timesyncKeepsSpec)

/-- 'hopmeshlaw09.GuardNumbers', WHERE WHAT IT READS IS OF BULK AT MOST 1048576: true; the input reads as it did. -/
def guardNumbersUptoRow : OpenClaim := { program := "ytpnigndobhbfnaa", sum := "61ad85d8640b8d58849ead3c5a092114ef5b8f9ef2efafed2f6dd1eb5ea40d1e", func := "hopmesh/hopmeshlaw09.GuardNumbers", spec := "guardNumbers", unfollowed := true, recurses := true, apart := false, narrowed := true }
def GuardNumbersUptoSaid : Prop := guardNumbersUptoRow.holds Try.pinned (OpenSpec.upto guardNumbersSpec)

/-- 'hopmeshlaw09.GuardSlots', WHERE WHAT IT READS IS OF BULK AT MOST 1048576: true; the input reads as it did. -/
def guardSlotsUptoRow : OpenClaim := { program := "ytpnigndobhbfnaa", sum := "61ad85d8640b8d58849ead3c5a092114ef5b8f9ef2efafed2f6dd1eb5ea40d1e", func := "hopmesh/hopmeshlaw09.GuardSlots", spec := "guardSlots", unfollowed := true, recurses := true, apart := false, narrowed := true }
def GuardSlotsUptoSaid : Prop := guardSlotsUptoRow.holds Try.pinned (OpenSpec.upto guardSlotsSpec)

/-- 'hopmeshlaw09.GuardMonotone', WHERE WHAT IT READS IS OF BULK AT MOST 1048576: true; the input reads as it did. -/
def guardMonotoneUptoRow : OpenClaim := { program := "ytpnigndobhbfnaa", sum := "61ad85d8640b8d58849ead3c5a092114ef5b8f9ef2efafed2f6dd1eb5ea40d1e", func := "hopmesh/hopmeshlaw09.GuardMonotone", spec := "guardMonotone", unfollowed := true, recurses := true, apart := false, narrowed := true }
def GuardMonotoneUptoSaid : Prop := guardMonotoneUptoRow.holds Try.pinned (OpenSpec.upto guardMonotoneSpec)

/-- 'hopmeshlaw09.GuardLasts', WHERE WHAT IT READS IS OF BULK AT MOST 1048576: true; the input reads as it did. -/
def guardLastsUptoRow : OpenClaim := { program := "ytpnigndobhbfnaa", sum := "61ad85d8640b8d58849ead3c5a092114ef5b8f9ef2efafed2f6dd1eb5ea40d1e", func := "hopmesh/hopmeshlaw09.GuardLasts", spec := "guardLasts", unfollowed := true, recurses := true, apart := false, narrowed := true }
def GuardLastsUptoSaid : Prop := guardLastsUptoRow.holds Try.pinned (OpenSpec.upto guardLastsSpec)

/-- 'hopmeshlaw10.TimesyncDepths', WHERE WHAT IT READS IS OF BULK AT MOST 1048576: true; the input reads as it did. -/
def timesyncDepthsUptoRow : OpenClaim := { program := "ytpnigndobhbfnaa", sum := "61ad85d8640b8d58849ead3c5a092114ef5b8f9ef2efafed2f6dd1eb5ea40d1e", func := "hopmesh/hopmeshlaw10.TimesyncDepths", spec := "timesyncDepths", unfollowed := true, recurses := true, apart := false, narrowed := true }
def TimesyncDepthsUptoSaid : Prop := timesyncDepthsUptoRow.holds Try.pinned (OpenSpec.upto timesyncDepthsSpec)

/-- 'hopmeshlaw09.GuardApart', WHERE WHAT IT READS IS OF BULK AT MOST 1048576: true; the input reads as it did. -/
def guardApartUptoRow : OpenClaim := { program := "ytpnigndobhbfnaa", sum := "61ad85d8640b8d58849ead3c5a092114ef5b8f9ef2efafed2f6dd1eb5ea40d1e", func := "hopmesh/hopmeshlaw09.GuardApart", spec := "guardApart", unfollowed := true, recurses := true, apart := false, narrowed := true }
def GuardApartUptoSaid : Prop := guardApartUptoRow.holds Try.pinned (OpenSpec.upto guardApartSpec)

/-- 'hopmeshlaw10.TimesyncMeets', WHERE WHAT IT READS IS OF BULK AT MOST 1048576: true; the input reads as it did. -/
def timesyncMeetsUptoRow : OpenClaim := { program := "ytpnigndobhbfnaa", sum := "61ad85d8640b8d58849ead3c5a092114ef5b8f9ef2efafed2f6dd1eb5ea40d1e", func := "hopmesh/hopmeshlaw10.TimesyncMeets", spec := "timesyncMeets", unfollowed := true, recurses := true, apart := false, narrowed := true }
def TimesyncMeetsUptoSaid : Prop := timesyncMeetsUptoRow.holds Try.pinned (OpenSpec.upto timesyncMeetsSpec)

/-- 'hopmeshlaw09.GuardGrows', WHERE WHAT IT READS IS OF BULK AT MOST 1048576: true; the input reads as it did. -/
def guardGrowsUptoRow : OpenClaim := { program := "ytpnigndobhbfnaa", sum := "61ad85d8640b8d58849ead3c5a092114ef5b8f9ef2efafed2f6dd1eb5ea40d1e", func := "hopmesh/hopmeshlaw09.GuardGrows", spec := "guardGrows", unfollowed := true, recurses := true, apart := false, narrowed := true }
def GuardGrowsUptoSaid : Prop := guardGrowsUptoRow.holds Try.pinned (OpenSpec.upto guardGrowsSpec)

/-- 'hopmeshlaw09.GuardFrames', WHERE WHAT IT READS IS OF BULK AT MOST 1048576: true; the input reads as it did. -/
def guardFramesUptoRow : OpenClaim := { program := "ytpnigndobhbfnaa", sum := "61ad85d8640b8d58849ead3c5a092114ef5b8f9ef2efafed2f6dd1eb5ea40d1e", func := "hopmesh/hopmeshlaw09.GuardFrames", spec := "guardFrames", unfollowed := true, recurses := true, apart := false, narrowed := true }
def GuardFramesUptoSaid : Prop := guardFramesUptoRow.holds Try.pinned (OpenSpec.upto guardFramesSpec)

/-- 'hopmeshlaw09.GuardFits', WHERE WHAT IT READS IS OF BULK AT MOST 1048576: true; the input reads as it did. -/
def guardFitsUptoRow : OpenClaim := { program := "ytpnigndobhbfnaa", sum := "61ad85d8640b8d58849ead3c5a092114ef5b8f9ef2efafed2f6dd1eb5ea40d1e", func := "hopmesh/hopmeshlaw09.GuardFits", spec := "guardFits", unfollowed := true, recurses := true, apart := false, narrowed := true }
def GuardFitsUptoSaid : Prop := guardFitsUptoRow.holds Try.pinned (OpenSpec.upto guardFitsSpec)

/-- 'hopmeshlaw10.TimesyncOne', WHERE WHAT IT READS IS OF BULK AT MOST 1048576: true; the input reads as it did. -/
def timesyncOneUptoRow : OpenClaim := { program := "ytpnigndobhbfnaa", sum := "61ad85d8640b8d58849ead3c5a092114ef5b8f9ef2efafed2f6dd1eb5ea40d1e", func := "hopmesh/hopmeshlaw10.TimesyncOne", spec := "timesyncOne", unfollowed := true, recurses := true, apart := false, narrowed := true }
def TimesyncOneUptoSaid : Prop := timesyncOneUptoRow.holds Try.pinned (OpenSpec.upto timesyncOneSpec)

end Rows
end Go.Proofs.Ytpnigndobhbfnaa
