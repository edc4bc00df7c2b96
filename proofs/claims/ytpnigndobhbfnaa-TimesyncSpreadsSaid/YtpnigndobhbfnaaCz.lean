import Derived.Test.YtpnigndobhbfnaaSlc
namespace Go.Proofs.Ytpnigndobhbfnaa
open Go.RowKit
open Go.Shelf Go.Lib
set_option maxHeartbeats 2000000 in
set_option maxRecDepth 100000 in
/-- slices.Clone at length 0, whatever the address. -/
theorem CloneE_zero {P : Program} {ρ : Ren} (L : SlLaysE0.n41 P ρ) (i0 : TypeInfo) (z : Value) (size bytes : Nat) (hi : P.info? (ρ.t 23) = some i0) (hz0 : i0.zero = some z) (hz1 : i0.size = size) (hz2 : i0.bytes = bytes) (hzs : z.cells.size = size) (hsz : 0 < size)
    (z23 : ∀ w, (Go.sizeOf (ρ.t 23)).run P w = .ok size w) (a : Addr) (c : Nat) (w : World) :
    Calls P (ρ.f 41) #[.slice (some a) 0 c] w fun e w' => ∃ v', e = .returned v' ∧ w'.ownsRow w.heap.size (ρ.t 23) size v' 0 [] ∧ Below w.heap.size w w' := by
  have mixed := L.mixed; have t4 := L.t4; have a4 := L.a4; have z4 := L.z4; have v4 := L.v4; have t22 := L.t22; have a22 := L.a22; have z22 := L.z22; have v22 := L.v22
  have q22 : ∀ (w : World) (a : Option Addr) (n c n' c' : Nat), (binOp .eql (ρ.t 22) (.slice a n c) (.slice none n' c')).run P w = .ok (.bool a.isNone) w := fun w a n c n' c' => Lib.run_eql_slice_nil w _ _ a n c n' c' L.t22
  have u22 : ∀ w, Sem.run P (underlying (ρ.t 22)) w = .ok (TypeDesc.slice (ρ.t 23)) w := run_underlying t22
  obtain ⟨_, _, FG⟩ := L.f41
  go_enter FG, SlBodyN.n41_ntmps ρ
  go_wp2_with (at_builtin; refine wpList_append_own _ rfl _ _ (ρ.t 22) rfl w.heap.size (ρ.t 23) i0 z size bytes t22 hi hz0 hz1 hz2 hzs hsz _ _ _ rfl (World.ownsRow_made w #[] 0 (Nat.le_refl _) (Nat.zero_le _) (by simp)) a 0 c [] rfl (by simp) (by intro j u hj; simp at hj) (by intro u hu; cases hu) (by unfold maxLen; omega) (by omega) (by simp) ?_)
  intro v' w1 hown hgrow hnil
  go_wp2
  go_ret
  refine ⟨v', rfl, by simpa using hown, ?_⟩
  exact ((Below.refl _ w).alloc (Nat.le_refl _) _).grown hgrow (by simp) (by intro k hk; simp [Value.ownBlock] at hk; omega)
theorem Clone46_0 (a : Addr) (c : Nat) (w : World) : Calls Try.prog 46 #[.slice (some a) 0 c] w fun e w' => ∃ v', e = .returned v' ∧ Ow w.heap.size w' v' 0 [] ∧ Gr w w' := by
  have := CloneE_zero Try.clone46 Try.i45 (.agg #[.int .i64 0, .int .i64 0, .int .i64 0, .int .i64 0]) 4 32 (by rw [cl46_t]; kernel_rfl) (by kernel_rfl) (by kernel_rfl) (by kernel_rfl) rfl (by decide) (by rw [cl46_t]; exact Try.sizeOf45) a c w
  rw [cl46_f] at this
  exact this.mono fun e w' ⟨v', he, ho, hb⟩ => ⟨v', he, Ow.of_row ho, hb⟩
theorem Clone47_0 (a : Addr) (c : Nat) (w : World) : Calls Try.prog 47 #[.slice (some a) 0 c] w fun e w' => ∃ v', e = .returned v' ∧ Ow w.heap.size w' v' 0 [] ∧ Gr w w' := by
  have := CloneE_zero Try.clone47 Try.i48 (.agg #[.int .i64 0, .int .i64 0, .bool false]) 3 24 (by rw [cl47_t]; kernel_rfl) (by kernel_rfl) (by kernel_rfl) (by kernel_rfl) rfl (by decide) (by rw [cl47_t]; exact Try.sizeOf48) a c w
  rw [cl47_f] at this
  exact this.mono fun e w' ⟨v', he, ho, hb⟩ => ⟨v', he, Ow.of_row ho, hb⟩
theorem Clone43_0 (a : Addr) (c : Nat) (w : World) : Calls Try.prog 43 #[.slice (some a) 0 c] w fun e w' => ∃ v', e = .returned v' ∧ Ow w.heap.size w' v' 0 [] ∧ Gr w w' := by
  have := CloneE_zero Try.clone43 Try.i3 (.int .i64 0) 1 8 (by rw [cl43_t]; kernel_rfl) (by kernel_rfl) (by kernel_rfl) (by kernel_rfl) rfl (by decide) (by rw [cl43_t]; exact Try.sizeOf3) a c w
  rw [cl43_f] at this
  exact this.mono fun e w' ⟨v', he, ho, hb⟩ => ⟨v', he, Ow.of_row ho, hb⟩
end Go.Proofs.Ytpnigndobhbfnaa
