import Derived.Shelf.SlicesE.Clone
import Derived.Test.YtpnigndobhbfnaaAwake10
namespace Go.Proofs.Ytpnigndobhbfnaa
open Go.RowKit
open Go.Shelf
/-- v is a slice of n elements whose cells are cs. -/
def Sl (w : World) (v : Value) (n : Nat) (cs : List Value) : Prop :=
  (v = .slice none 0 0 ∧ n = 0 ∧ cs = []) ∨
  ∃ b off cap, v = .slice (some ⟨b, off, none⟩) n cap ∧ b < w.heap.size ∧ ∀ j u, cs[j]? = some u → w.cell? ⟨b, off + j, none⟩ = some u
/-- v is a slice of n elements whose cells cs are a block's first ones, and that block is not older than base. -/
def Ow (base : Nat) (w : World) (v : Value) (n : Nat) (cs : List Value) : Prop :=
  (v = .slice none 0 0 ∧ n = 0 ∧ cs = []) ∨ ∃ g cap, v = .slice (some ⟨g, 0, none⟩) n cap ∧ base ≤ g ∧ Bx w g cs
theorem Sl.gr {w w' : World} {v : Value} {n : Nat} {cs : List Value} (h : Sl w v n cs) (g : Gr w w') : Sl w' v n cs := by
  rcases h with h | ⟨b, off, cap, e, l, c⟩
  · exact Or.inl h
  · exact Or.inr ⟨b, off, cap, e, Nat.lt_of_lt_of_le l g.size, fun j u hj => (g.cell l _).trans (c j u hj)⟩
theorem Ow.gr {base : Nat} {w w' : World} {v : Value} {n : Nat} {cs : List Value} (h : Ow base w v n cs) (g : Gr w w') : Ow base w' v n cs := by
  rcases h with h | ⟨b, cap, e, l, c⟩
  · exact Or.inl h
  · exact Or.inr ⟨b, cap, e, l, c.gr g⟩
theorem Ow.sl {base : Nat} {w : World} {v : Value} {n : Nat} {cs : List Value} (h : Ow base w v n cs) : Sl w v n cs := by
  rcases h with h | ⟨b, cap, e, l, c⟩
  · exact Or.inl h
  · exact Or.inr ⟨b, 0, cap, e, c.lt, fun j u hj => by rw [Nat.zero_add]; exact c.c j u hj⟩
theorem Ow.of_row {w : World} {base size n : Nat} {e : TypeId} {v : Value} {xs : List Value} (h : w.ownsRow base e size v n xs) : Ow base w v n xs := by
  obtain ⟨hl, h⟩ := h
  rcases h with ⟨rfl, rfl⟩ | ⟨g, cap, cur, rfl, hb, hg, hn, _, hs, ht⟩
  · exact Or.inl ⟨rfl, rfl, List.length_eq_zero_iff.1 (by rw [hl, Nat.zero_mul])⟩
  · refine Or.inr ⟨g, cap, rfl, hb, ?_, ?_, ?_⟩
    · intro i u hi
      have h1 : i < n * size := by rw [← hl]; exact (List.getElem?_eq_some_iff.1 hi).1
      rw [← ht, List.getElem?_take_of_lt h1] at hi
      unfold World.cell?
      rw [hg]
      simpa using hi
    · intro i _
      unfold World.frozen?
      rw [hg]
      simp
    · exact (Array.getElem?_eq_some_iff.1 hg).1

def Try.clone43_ren : Go.Shelf.Ren := ⟨fun | 41 => 43 | n => n, fun | 22 => 34 | 23 => 3 | 4 => 4 | n => n, fun | n => n⟩
theorem Try.clone43 : Go.Proofs.SlLaysE0.n41 Try.prog Try.clone43_ren := {
  mixed := by kernel_rfl
  f41 := ⟨Try.f43.name, by decide, Try.func43.trans (congrArg some (by kernel_rfl))⟩
  t4 := Try.underlying4
  a4 := Try.isAgg4
  z4 := Try.sizeOf4
  v4 := Try.zeroValue4
  t22 := Try.underlying34
  a22 := Try.isAgg34
  z22 := Try.sizeOf34
  v22 := Try.zeroValue34 }
theorem cl43_t : Try.clone43_ren.t 23 = 3 := by kernel_rfl
theorem cl43_f : Try.clone43_ren.f 41 = 43 := by kernel_rfl
noncomputable def Try.i3 : TypeInfo := (Try.prog.info? 3).get (by kernel_rfl)
theorem Clone43 (v : Value) (n : Nat) (cs : List Value) (w : World) (h : Sl w v n cs) (hl : cs.length = n * 1) (hn : n ≤ 1000) (h1 : ∀ u ∈ cs, u.oneCell' = true) :
    Calls Try.prog 43 #[v] w fun e w' => ∃ v', e = .returned v' ∧ Ow w.heap.size w' v' n cs ∧ Gr w w' := by
  rcases h with ⟨rfl, rfl, rfl⟩ | ⟨b, off, cap, rfl, _, hc⟩
  · have := AnyE.slices_Clone_nil Try.clone43 0 0 w
    rw [cl43_f] at this
    exact this.mono fun e w' ⟨he, hw⟩ => ⟨_, he, Or.inl ⟨rfl, rfl, rfl⟩, hw ▸ Gr.refl _⟩
  · have := AnyE.slices_Clone Try.clone43 Try.i3 (.int .i64 0) 1 8 (by rw [cl43_t]; kernel_rfl) (by kernel_rfl) (by kernel_rfl) (by kernel_rfl) rfl (by decide) (by rw [cl43_t]; exact Try.sizeOf3) b off n cap cs w hl (by unfold maxLen; omega) (by omega) hc h1
    rw [cl43_f] at this
    exact this.mono fun e w' ⟨v', he, ho, _, hb⟩ => ⟨v', he, Ow.of_row ho, hb⟩

def Try.clone46_ren : Go.Shelf.Ren := ⟨fun | 41 => 46 | n => n, fun | 22 => 33 | 23 => 45 | 4 => 4 | n => n, fun | n => n⟩
theorem Try.clone46 : Go.Proofs.SlLaysE0.n41 Try.prog Try.clone46_ren := {
  mixed := by kernel_rfl
  f41 := ⟨Try.f46.name, by decide, Try.func46.trans (congrArg some (by kernel_rfl))⟩
  t4 := Try.underlying4
  a4 := Try.isAgg4
  z4 := Try.sizeOf4
  v4 := Try.zeroValue4
  t22 := Try.underlying33
  a22 := Try.isAgg33
  z22 := Try.sizeOf33
  v22 := Try.zeroValue33 }
theorem cl46_t : Try.clone46_ren.t 23 = 45 := by kernel_rfl
theorem cl46_f : Try.clone46_ren.f 41 = 46 := by kernel_rfl
noncomputable def Try.i45 : TypeInfo := (Try.prog.info? 45).get (by kernel_rfl)
theorem Clone46 (v : Value) (n : Nat) (cs : List Value) (w : World) (h : Sl w v n cs) (hl : cs.length = n * 4) (hn : n ≤ 1000) (h1 : ∀ u ∈ cs, u.oneCell' = true) :
    Calls Try.prog 46 #[v] w fun e w' => ∃ v', e = .returned v' ∧ Ow w.heap.size w' v' n cs ∧ Gr w w' := by
  rcases h with ⟨rfl, rfl, rfl⟩ | ⟨b, off, cap, rfl, _, hc⟩
  · have := AnyE.slices_Clone_nil Try.clone46 0 0 w
    rw [cl46_f] at this
    exact this.mono fun e w' ⟨he, hw⟩ => ⟨_, he, Or.inl ⟨rfl, rfl, rfl⟩, hw ▸ Gr.refl _⟩
  · have := AnyE.slices_Clone Try.clone46 Try.i45 (.agg #[.int .i64 0, .int .i64 0, .int .i64 0, .int .i64 0]) 4 32 (by rw [cl46_t]; kernel_rfl) (by kernel_rfl) (by kernel_rfl) (by kernel_rfl) rfl (by decide) (by rw [cl46_t]; exact Try.sizeOf45) b off n cap cs w hl (by unfold maxLen; omega) (by omega) hc h1
    rw [cl46_f] at this
    exact this.mono fun e w' ⟨v', he, ho, _, hb⟩ => ⟨v', he, Ow.of_row ho, hb⟩

def Try.clone47_ren : Go.Shelf.Ren := ⟨fun | 41 => 47 | n => n, fun | 22 => 37 | 23 => 48 | 4 => 4 | n => n, fun | n => n⟩
theorem Try.clone47 : Go.Proofs.SlLaysE0.n41 Try.prog Try.clone47_ren := {
  mixed := by kernel_rfl
  f41 := ⟨Try.f47.name, by decide, Try.func47.trans (congrArg some (by kernel_rfl))⟩
  t4 := Try.underlying4
  a4 := Try.isAgg4
  z4 := Try.sizeOf4
  v4 := Try.zeroValue4
  t22 := Try.underlying37
  a22 := Try.isAgg37
  z22 := Try.sizeOf37
  v22 := Try.zeroValue37 }
theorem cl47_t : Try.clone47_ren.t 23 = 48 := by kernel_rfl
theorem cl47_f : Try.clone47_ren.f 41 = 47 := by kernel_rfl
noncomputable def Try.i48 : TypeInfo := (Try.prog.info? 48).get (by kernel_rfl)
theorem Clone47 (v : Value) (n : Nat) (cs : List Value) (w : World) (h : Sl w v n cs) (hl : cs.length = n * 3) (hn : n ≤ 1000) (h1 : ∀ u ∈ cs, u.oneCell' = true) :
    Calls Try.prog 47 #[v] w fun e w' => ∃ v', e = .returned v' ∧ Ow w.heap.size w' v' n cs ∧ Gr w w' := by
  rcases h with ⟨rfl, rfl, rfl⟩ | ⟨b, off, cap, rfl, _, hc⟩
  · have := AnyE.slices_Clone_nil Try.clone47 0 0 w
    rw [cl47_f] at this
    exact this.mono fun e w' ⟨he, hw⟩ => ⟨_, he, Or.inl ⟨rfl, rfl, rfl⟩, hw ▸ Gr.refl _⟩
  · have := AnyE.slices_Clone Try.clone47 Try.i48 (.agg #[.int .i64 0, .int .i64 0, .bool false]) 3 24 (by rw [cl47_t]; kernel_rfl) (by kernel_rfl) (by kernel_rfl) (by kernel_rfl) rfl (by decide) (by rw [cl47_t]; exact Try.sizeOf48) b off n cap cs w hl (by unfold maxLen; omega) (by omega) hc h1
    rw [cl47_f] at this
    exact this.mono fun e w' ⟨v', he, ho, _, hb⟩ => ⟨v', he, Ow.of_row ho, hb⟩
end Go.Proofs.Ytpnigndobhbfnaa
