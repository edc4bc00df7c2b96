/- slices.ContainsFunc over corrections. -/
import Derived.Test.YtpnigndobhbfnaaCf
namespace Go.Proofs.Ytpnigndobhbfnaa
open Go.RowKit
open Go.Shelf
set_option maxHeartbeats 400000 in
/-- The closure that looks for node i. -/
theorem One1 (x : Stp) (i : Nat) (B : Nat) (w : World) (h : w.cell? ⟨B, 0, none⟩ = some (.int .i64 (i : Int))) :
    Calls Try.prog 91 (#[.agg x.cells.toArray] ++ #[.pointer (some ⟨B, 0, none⟩)]) w fun e w' => e = .returned (.bool (x.m == (i : Int))) ∧ Gr w w' := by
  obtain ⟨m, n, a⟩ := x
  show Calls Try.prog 91 #[.agg #[.int .i64 m, .int .i64 n, .bool a], .pointer (some ⟨B, 0, none⟩)] w _
  have lB := World.block_lt_of_cell? w _ h
  go_enter Try.func91, Try.ntmps91
  go_wp2_with fail
  go_ret
  exact ⟨rfl, Gr.alloc (Gr.refl _) _⟩
def Try.cf90_ren : Go.Shelf.Ren := ⟨fun | 8 => 90 | 6 => 120 | n => n, fun | 22 => 37 | 23 => 48 | 25 => 84 | 4 => 4 | 3 => 3 | 0 => 0 | n => n, fun | n => n⟩
theorem Try.cf90 : Go.Proofs.SlLaysH0.n8 Try.prog Try.cf90_ren := {
  mixed := by kernel_rfl
  f6 := ⟨Try.f120.name, by decide, Try.func120.trans (congrArg some (by kernel_rfl))⟩
  f8 := ⟨Try.f90.name, by decide, Try.func90.trans (congrArg some (by kernel_rfl))⟩
  t0 := Try.underlying0
  a0 := Try.isAgg0
  z0 := Try.sizeOf0
  v0 := Try.zeroValue0
  t3 := Try.underlying3
  a3 := Try.isAgg3
  z3 := Try.sizeOf3
  v3 := Try.zeroValue3
  t4 := Try.underlying4
  a4 := Try.isAgg4
  z4 := Try.sizeOf4
  v4 := Try.zeroValue4
  t22 := Try.underlying37
  a22 := Try.isAgg37
  z22 := Try.sizeOf37
  v22 := Try.zeroValue37
  t25 := Try.underlying84
  a25 := Try.isAgg84
  z25 := Try.sizeOf84
  v25 := Try.zeroValue84 }
theorem cf90_t : Try.cf90_ren.t 23 = 48 := by kernel_rfl
theorem cf90_f : Try.cf90_ren.f 8 = 90 := by kernel_rfl
theorem Lt_getI {l : List Stp} {j : Nat} (h : j < l.length) : l[j]! = l.getD j Stp0 := by
  rw [List.getD_eq_getElem?_getD, List.getElem?_eq_getElem h, getElem!_pos l j h]; rfl
/-- Does a list of corrections name node i? -/
theorem CF90 (B i : Nat) (v : Value) (k : Nat) (xs : List Stp) (w : World) (h : Sz w v k (Lt xs)) (hl : xs.length = k) (hk : k ≤ 1000) (hB : w.cell? ⟨B, 0, none⟩ = some (.int .i64 (i : Int))) (lB : B < w.heap.size) :
    Calls Try.prog 90 #[v, .func (.func 91) #[] #[.pointer (some ⟨B, 0, none⟩)]] w fun e w' => e = .returned (.bool (xs.any fun x => x.m == (i : Int))) ∧ Gr w w' := by
  rcases h with ⟨a, c, rfl, rfl, hz⟩ | ⟨b, off, cap, rfl, lb, hc⟩
  · obtain rfl : xs = [] := List.length_eq_zero_iff.1 hl
    have := CF_empty Try.cf90 a c (.func (.func 91) #[] #[.pointer (some ⟨B, 0, none⟩)]) w
    rw [cf90_f] at this
    exact this.mono fun e w' ⟨he, h2⟩ => ⟨he, h2 ▸ Gr.refl _⟩
  · have := AnyQ.slices_ContainsFunc Try.cf90 3 (by rw [cf90_t]; exact Try.isAgg48) (by rw [cf90_t]; exact Try.sizeOf48) Stp.cells (fun _ => rfl) (fun x => x.m == (i : Int)) 91 #[.pointer (some ⟨B, 0, none⟩)] (enters_of Try.func91 (by kernel_rfl) rfl) b off k cap xs w
      (fun W x hb => (One1 x i B W ((hb.cell (p := ⟨B, 0, none⟩) lB).trans hB)).mono fun _ _ ⟨he, h2⟩ => ⟨he, hb.trans (h2.mono hb.size)⟩) (by omega) (by omega) lb
      (fun j hj q v hv => by
        rw [Lt_getI hj] at hv
        have hi : q < 3 := by have := (List.getElem?_eq_some_iff.1 hv).1; rwa [Stp.cells_len] at this
        rw [Nat.add_assoc]
        exact hc _ _ (by rw [Lt_at xs j q hj hi]; exact hv))
    rw [cf90_f, List.take_of_length_le (by omega)] at this
    exact this
end Go.Proofs.Ytpnigndobhbfnaa
