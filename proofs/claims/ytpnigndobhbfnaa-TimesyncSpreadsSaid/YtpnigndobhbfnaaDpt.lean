import Derived.Test.YtpnigndobhbfnaaDep
namespace Go.Proofs.Ytpnigndobhbfnaa
open Go.RowKit
set_option maxRecDepth 20000 in
set_option maxHeartbeats 400000 in
theorem Depths_nil (c : Nat) (w : World) : Calls Try.prog 42 #[.slice none 0 c] w fun e w' => e = .returned (.tuple #[.slice none 0 0, .int .i64 1]) ∧ Gr w w' := by
  go_enter Try.func42, Try.ntmps42
  go_wp2_with fail
  go_step3
  go_wp2_with fail
  try rw [Exit.noGoto_ret]
  go_ret2
  exact ⟨rfl, Gr.refl _⟩
set_option maxRecDepth 20000 in
set_option maxHeartbeats 400000 in
theorem Depths_zero (a : Addr) (c : Nat) (w : World) : Calls Try.prog 42 #[.slice (some a) 0 c] w fun e w' => e = .returned (.tuple #[.slice none 0 0, .int .i64 1]) ∧ Gr w w' := by
  go_enter Try.func42, Try.ntmps42
  go_wp2_with fail
  go_step3
  go_wp2_with fail
  try rw [Exit.noGoto_ret]
  go_ret2
  exact ⟨rfl, Gr.refl _⟩
set_option maxRecDepth 20000 in
set_option maxHeartbeats 400000 in
theorem Depths_many (a : Addr) (n c : Nat) (w : World) (h : 32 < n) : Calls Try.prog 42 #[.slice (some a) n c] w fun e w' => e = .returned (.tuple #[.slice none 0 0, .int .i64 1]) ∧ Gr w w' := by
  have d1 : decide ((n : Int) < 1) = false := decide_eq_false (by omega)
  have d2 : decide ((32 : Int) < n) = true := decide_eq_true (by omega)
  go_enter Try.func42, Try.ntmps42
  go_wp2_with fail
  go_step3
  go_wp2_with fail
  try rw [Exit.noGoto_ret]
  go_ret2
  exact ⟨rfl, Gr.refl _⟩
set_option maxRecDepth 20000 in
set_option maxHeartbeats 400000 in
theorem Depths_head (b off n c : Nat) (z : Int) (w : World) (h0 : 0 < n) (h : n ≤ 32) (hz : z ≠ -1) (c0 : w.cell? ⟨b, off, none⟩ = some (.int .i64 z)) : Calls Try.prog 42 #[.slice (some ⟨b, off, none⟩) n c] w fun e w' => e = .returned (.tuple #[.slice none 0 0, .int .i64 1]) ∧ Gr w w' := by
  have d1 : decide ((n : Int) < 1) = false := decide_eq_false (by omega)
  have d2 : decide ((32 : Int) < n) = false := decide_eq_false (by omega)
  have d3 : (z == -1) = false := beq_eq_false_iff_ne.2 hz
  go_enter Try.func42, Try.ntmps42
  go_wp2_with fail
  go_step3
  go_wp2_with fail
  try rw [Exit.noGoto_ret]
  go_ret2
  exact ⟨rfl, Gr.refl _⟩
/-- What Depths needs of a list of parents. -/
def depOk (zs : List Int) : Prop := 0 < zs.length ∧ zs.length ≤ 32 ∧ zs.getD 0 0 = -1
instance (zs : List Int) : Decidable (depOk zs) := inferInstanceAs (Decidable (_ ∧ _ ∧ _))
/-- The depths of a list of parents. -/
def dep (zs : List Int) : Option (List Nat) := if depOk zs then hits zs zs.length zs.length else none
def dpE (zs : List Int) : Int := if (dep zs).isSome then 0 else 1
abbrev ivs (zs : List Int) : List Value := zs.map (Value.int .i64)
abbrev nvs (ds : List Nat) : List Value := ds.map fun x : Nat => Value.int .i64 (x : Int)
theorem ivs_at {zs : List Int} {j : Nat} (h : j < zs.length) : (ivs zs)[j]? = some (.int .i64 (zs.getD j 0)) := by
  unfold ivs
  rw [List.getElem?_map, List.getD_eq_getElem?_getD, List.getElem?_eq_getElem h]; rfl
theorem dep_no {zs : List Int} (h : ¬ depOk zs) : dep zs = none := if_neg h
theorem Depths_any (zs : List Int) (v : Value) (w : World) (h : Sl w v zs.length (ivs zs)) :
    Calls Try.prog 42 #[v] w fun e w' => ∃ v', e = .returned (.tuple #[v', .int .i64 (dpE zs)]) ∧ (Ow w.heap.size w' v' ((dep zs).getD []).length (nvs ((dep zs).getD [])) ∧ (dep zs = none → v' = .slice none 0 0)) ∧ Gr w w' := by
  by_cases hk : depOk zs
  · rcases h with ⟨rfl, h, _⟩ | ⟨b, off, cap, rfl, lb, hc⟩
    · have := hk.1; omega
    · have e : dep zs = hits zs zs.length zs.length := if_pos hk
      unfold dpE
      rw [e]
      exact Depths_walk b off zs.length cap zs w hk.2.1 hk.1 rfl hk.2.2 (fun j hj => hc j _ (ivs_at hj)) lb
  · have e := dep_no hk
    unfold dpE
    rw [e]
    have fin : ∀ {e : Ending} {w' : World}, (e = .returned (.tuple #[.slice none 0 0, .int .i64 1]) ∧ Gr w w') → ∃ v', e = .returned (.tuple #[v', .int .i64 (if (none : Option (List Nat)).isSome then 0 else 1)]) ∧ (Ow w.heap.size w' v' ((none : Option (List Nat)).getD []).length (nvs ((none : Option (List Nat)).getD [])) ∧ ((none : Option (List Nat)) = none → v' = .slice none 0 0)) ∧ Gr w w' :=
      fun h => ⟨_, h.1, ⟨Or.inl ⟨rfl, rfl, rfl⟩, fun _ => rfl⟩, h.2⟩
    rcases h with ⟨rfl, h, _⟩ | ⟨b, off, cap, rfl, lb, hc⟩
    · exact (Depths_nil 0 w).mono fun _ _ => fin
    · by_cases h0 : 0 < zs.length
      · by_cases h1 : zs.length ≤ 32
        · have c0 := hc 0 _ (ivs_at h0)
          exact (Depths_head b off _ cap (zs.getD 0 0) w h0 h1 (fun x => hk ⟨h0, h1, x⟩) c0).mono fun _ _ => fin
        · exact (Depths_many _ _ cap w (by omega)).mono fun _ _ => fin
      · have : zs.length = 0 := by omega
        rw [this]
        exact (Depths_zero _ cap w).mono fun _ _ => fin
theorem hit_mono {zs : List Int} : ∀ {f a d : Nat}, hit zs f a = some d → hit zs (f + 1) a = some d
  | 0, a, d, h => by cases h
  | f + 1, a, d, h => by
    by_cases ha : a = 0
    · subst ha; rw [hit_zero] at h ⊢; exact h
    · rw [hit, if_neg ha] at h ⊢
      split at h
      · rename_i hp
        rw [if_pos hp]
        cases h1 : hit zs f (zs.getD a 0).toNat with
        | none => rw [h1] at h; cases h
        | some x => rw [h1] at h; rw [hit_mono h1]; exact h
      · cases h
theorem hit_le {zs : List Int} {f g a d : Nat} (hf : f ≤ g) (h : hit zs f a = some d) : hit zs g a = some d := by
  induction g with
  | zero => obtain rfl : f = 0 := by omega
            exact h
  | succ g ih =>
    by_cases e : f = g + 1
    · subst e; exact h
    · exact hit_mono (ih (by omega))
theorem hits_at {zs : List Int} {f : Nat} : ∀ {k : Nat} {ds : List Nat}, hits zs f k = some ds → ∀ j, j < k → hit zs f j = some (ds.getD j 0)
  | 0, ds, h, j, hj => by omega
  | k + 1, ds, h, j, hj => by
    unfold hits at h
    cases h1 : hits zs f k with
    | none => rw [h1] at h; cases h
    | some es =>
      cases h2 : hit zs f k with
      | none => rw [h1, h2] at h; cases h
      | some d =>
        rw [h1, h2] at h
        injection h with h
        subst h
        have hl := hits_len h1
        by_cases e : j < k
        · rw [hits_at h1 j e, List.getD_eq_getElem?_getD, List.getD_eq_getElem?_getD, List.getElem?_append_left (by omega)]
        · obtain rfl : j = k := by omega
          rw [h2, List.getD_eq_getElem?_getD, List.getElem?_append_right (by omega)]
          simp [hl]
theorem hits_all {zs : List Int} {f : Nat} : ∀ {k : Nat}, (∀ j, j < k → (hit zs f j).isSome) → (hits zs f k).isSome
  | 0, _ => rfl
  | k + 1, h => by
    have h1 := hits_all (k := k) (fun j hj => h j (by omega))
    have h2 := h k (by omega)
    unfold hits
    cases e1 : hits zs f k with
    | none => rw [e1] at h1; cases h1
    | some ds =>
      cases e2 : hit zs f k with
      | none => rw [e2] at h2; cases h2
      | some d => rfl
/-- What a node's depth is, in a list that has depths. -/
theorem dep_node {zs : List Int} {ds : List Nat} (h : dep zs = some ds) : depOk zs ∧ ds.length = zs.length ∧ ds.getD 0 0 = 0 ∧
    ∀ j, 0 < j → j < zs.length → ∃ q : Nat, zs.getD j 0 = (q : Int) ∧ q < zs.length ∧ ds.getD j 0 = ds.getD q 0 + 1 := by
  unfold dep at h
  split at h
  case isTrue hk =>
    have ha := hits_at h
    refine ⟨hk, hits_len h, ?_, ?_⟩
    · have := ha 0 hk.1
      obtain ⟨m, hm⟩ : ∃ m, zs.length = m + 1 := ⟨zs.length - 1, by have := hk.1; omega⟩
      rw [hm, hit_zero] at this
      injection this with this
      exact this.symm
    · intro j h0 hj
      have h1 := ha j hj
      obtain ⟨m, hm⟩ : ∃ m, zs.length = m + 1 := ⟨zs.length - 1, by omega⟩
      rw [hm, hit, if_neg (by omega)] at h1
      split at h1
      · rename_i hp
        obtain ⟨q, hq⟩ := Int.eq_ofNat_of_zero_le hp.1
        rw [hq, Int.toNat_natCast] at h1
        have hql : q < zs.length := by rw [hq] at hp; omega
        refine ⟨q, hq, hql, ?_⟩
        have h2 := ha q hql
        cases h3 : hit zs m q with
        | none => rw [h3] at h1; cases h1
        | some x =>
          rw [h3] at h1
          rw [hm, hit_mono h3] at h2
          simp only [Option.map, Option.some.injEq] at h1 h2
          omega
      · cases h1
  case isFalse => cases h
/-- Parents that are less than their nodes lead to 0. -/
theorem dep_some {zs : List Int} (hk : depOk zs) (h : ∀ j, 0 < j → j < zs.length → 0 ≤ zs.getD j 0 ∧ zs.getD j 0 < (j : Int)) : (dep zs).isSome := by
  unfold dep
  rw [if_pos hk]
  have key : ∀ a, a < zs.length → ∃ d, hit zs (a + 1) a = some d := by
    intro a
    induction a using Nat.strongRecOn with
    | _ a ih =>
      intro ha
      by_cases e : a = 0
      · subst e; exact ⟨0, hit_zero zs 0⟩
      · obtain ⟨p0, p1⟩ := h a (by omega) ha
        obtain ⟨q, hq⟩ := Int.eq_ofNat_of_zero_le p0
        obtain ⟨d, hd⟩ := ih q (by omega) (by omega)
        exact ⟨d + 1, by rw [hit_next e hq (by omega), hit_le (show q + 1 ≤ a by omega) hd]; rfl⟩
  exact hits_all fun j hj => by
    obtain ⟨d, hd⟩ := key j hj
    rw [hit_le (show j + 1 ≤ zs.length by omega) hd]; rfl
end Go.Proofs.Ytpnigndobhbfnaa
