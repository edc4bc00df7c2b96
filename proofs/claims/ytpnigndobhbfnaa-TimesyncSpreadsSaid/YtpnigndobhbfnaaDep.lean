import Derived.Test.YtpnigndobhbfnaaSlc
namespace Go.Proofs.Ytpnigndobhbfnaa
open Go.RowKit
theorem mk34 (n : Nat) (w : World) (hn : n ≤ 1000) : ∃ w1, (Instr.makeSlice 34 (.int .i64 (n : Int)) (.int .i64 (n : Int))).run Try.prog w = .ok (.slice (some ⟨w.heap.size, 0, none⟩) n n) w1 ∧ Bx w1 w.heap.size (List.replicate n (.int .i64 0)) ∧ Gr w w1 := by
  have h3 : (Try.prog.info? 3).map (fun i => (i.zero, i.size, i.bytes)) = some (some (.int .i64 0), 1, 8) := by kernel_rfl
  obtain ⟨i0, hi, hx⟩ := Option.map_eq_some_iff.1 h3
  simp only [Prod.mk.injEq] at hx
  obtain ⟨hz0, hz1, hz2⟩ := hx
  have h := run_make (P := Try.prog) w 34 3 i0 (.int .i64 0) Try.underlying34 hi hz0 .i64 .i64 n n (by omega) (Int.le_refl _) (by rw [hz2]; omega) (by omega)
  simp only [Int.toNat_natCast, hz1, Nat.mul_one] at h
  refine ⟨_, h, ?_, (Gr.refl w).alloc _⟩
  have e : madeCells (Value.int .i64 0).cells n = (List.replicate n (Value.int .i64 0)).toArray := by
    show madeCells #[Value.int .i64 0] n = _
    rw [← toList_madeCells_one]
  rw [e]
  exact Bx.new w _ 3

/-- The number of steps from a node to 0, within a number of steps. -/
def hit (zs : List Int) : Nat → Nat → Option Nat
  | 0, _ => none
  | f + 1, a => if a = 0 then some 0 else if 0 ≤ zs.getD a 0 ∧ zs.getD a 0 < zs.length then (hit zs f (zs.getD a 0).toNat).map (· + 1) else none
/-- The depths of the first k nodes. -/
def hits (zs : List Int) (f : Nat) : Nat → Option (List Nat)
  | 0 => some []
  | k + 1 => match hits zs f k, hit zs f k with
    | some ds, some d => some (ds ++ [d])
    | _, _ => none
theorem hits_len {zs : List Int} {f : Nat} : ∀ {k : Nat} {ds : List Nat}, hits zs f k = some ds → ds.length = k
  | 0, ds, h => by injection h with h; subst h; rfl
  | k + 1, ds, h => by
    unfold hits at h
    cases h1 : hits zs f k with
    | none => rw [h1] at h; cases h
    | some es =>
      cases h2 : hit zs f k with
      | none => rw [h1, h2] at h; cases h
      | some d =>
        rw [h1, h2] at h
        injection h with h
        subst h
        simp [hits_len h1]
theorem hits_succ {zs : List Int} {f k : Nat} {ds : List Nat} {d : Nat} (h : hits zs f k = some ds) (h1 : hit zs f k = some d) : hits zs f (k + 1) = some (ds ++ [d]) := by
  unfold hits; rw [h, h1]
theorem hits_none {zs : List Int} {f : Nat} : ∀ {k m : Nat}, k ≤ m → hits zs f k = none → hits zs f m = none := by
  intro k m hm h
  induction m with
  | zero => obtain rfl : k = 0 := by omega
            exact h
  | succ m ih =>
    by_cases e : k = m + 1
    · subst e; exact h
    · unfold hits; rw [ih (by omega)]
theorem hits_stop {zs : List Int} {f k m : Nat} (hk : k < m) (h1 : hit zs f k = none) : hits zs f m = none := by
  refine hits_none (k := k + 1) (by omega) ?_
  unfold hits; rw [h1]; split <;> simp_all
abbrev V (i : Int) : Value := .int .i64 i
/-- What the depths are kept as. -/
def outs (n : Nat) (ds : List Nat) (d : Nat) : List Value := ds.map (fun x : Nat => Value.int .i64 (x : Int)) ++ Value.int .i64 (d : Int) :: List.replicate (n - ds.length - 1) (Value.int .i64 0)
theorem outs_at {n : Nat} {ds : List Nat} {d : Nat} : (outs n ds d)[ds.length]? = some (.int .i64 (d : Int)) := by
  unfold outs
  rw [List.getElem?_append_right (by simp)]
  simp
theorem outs_set {n : Nat} {ds : List Nat} {d e : Nat} : (outs n ds d).set ds.length (.int .i64 (e : Int)) = outs n ds e := by
  unfold outs
  rw [List.set_append_right _ _ (by simp)]
  simp
theorem outs_len {n : Nat} {ds : List Nat} {d : Nat} (h : ds.length < n) : (outs n ds d).length = n := by
  unfold outs; simp; omega
theorem outs_next {n : Nat} {ds : List Nat} {d : Nat} (h : ds.length + 1 < n) : outs n ds d = outs n (ds ++ [d]) 0 := by
  unfold outs
  obtain ⟨m, hm⟩ : ∃ m, n - ds.length - 1 = m + 1 := ⟨n - ds.length - 2, by omega⟩
  rw [hm, List.length_append, show n - (ds.length + [d].length) - 1 = m by simp; omega]
  simp [List.replicate_succ]
theorem outs_last {n : Nat} {ds : List Nat} {d : Nat} (h : ds.length + 1 = n) : outs n ds d = (ds ++ [d]).map (fun x : Nat => Value.int .i64 (x : Int)) := by
  unfold outs
  rw [show n - ds.length - 1 = 0 by omega]
  simp
theorem outs_first {n : Nat} (h : 0 < n) : List.replicate n (Value.int .i64 0) = outs n [] 0 := by
  obtain ⟨m, rfl⟩ : ∃ m, n = m + 1 := ⟨n - 1, by omega⟩
  unfold outs
  simp [List.replicate_succ]
/-- The out list at the beginning of round k. -/
def outK (n : Nat) (ds : List Nat) : List Value := ds.map (fun x : Nat => Value.int .i64 (x : Int)) ++ List.replicate (n - ds.length) (Value.int .i64 0)
theorem outK_lt {n : Nat} {ds : List Nat} (h : ds.length < n) : outK n ds = outs n ds 0 := by
  unfold outK outs
  obtain ⟨m, hm⟩ : ∃ m, n - ds.length = m + 1 := ⟨n - ds.length - 1, by omega⟩
  rw [hm, List.replicate_succ, Nat.add_sub_cancel]; rfl
theorem outs_K {n : Nat} {ds : List Nat} {d : Nat} : outs n ds d = outK n (ds ++ [d]) := by
  unfold outs outK
  rw [List.length_append, show n - (ds.length + [d].length) = n - ds.length - 1 by simp; omega]
  simp
/-- The error that Depths returns. -/
def depE (zs : List Int) (n : Nat) : Int := if (hits zs n n).isSome then 0 else 1
theorem dep_fin_ok {zs : List Int} {n : Nat} {ds : List Nat} {w wr : World} (e : hits zs n n = some ds) (kb : Bx wr w.heap.size (outK n ds)) (g : Gr w wr) :
    ∃ v', Ending.returned (.tuple #[.slice (some ⟨w.heap.size, 0, none⟩) n n, .int .i64 0]) = .returned (.tuple #[v', .int .i64 (depE zs n)]) ∧ (Ow w.heap.size wr v' ((hits zs n n).getD []).length (((hits zs n n).getD []).map fun x : Nat => Value.int .i64 (x : Int)) ∧ (hits zs n n = none → v' = .slice none 0 0)) ∧ Gr w wr := by
  have hlen := hits_len e
  rw [show depE zs n = 0 by unfold depE; rw [e]; rfl, e]
  refine ⟨_, rfl, ⟨Or.inr ⟨_, n, ?_, Nat.le_refl _, ?_⟩, fun h => by cases h⟩, g⟩
  · show _ = Value.slice _ ds.length _
    rw [hlen]
  · have : outK n ds = ds.map fun x : Nat => Value.int .i64 (x : Int) := by unfold outK; rw [hlen, Nat.sub_self]; simp
    exact this ▸ kb
theorem dep_fin_no {zs : List Int} {n : Nat} {w wr : World} (e : hits zs n n = none) (g : Gr w wr) :
    ∃ v', Ending.returned (.tuple #[.slice none 0 0, .int .i64 1]) = .returned (.tuple #[v', .int .i64 (depE zs n)]) ∧ (Ow w.heap.size wr v' ((hits zs n n).getD []).length (((hits zs n n).getD []).map fun x : Nat => Value.int .i64 (x : Int)) ∧ (hits zs n n = none → v' = .slice none 0 0)) ∧ Gr w wr := by
  rw [show depE zs n = 1 by unfold depE; rw [e]; rfl, e]
  exact ⟨_, rfl, ⟨Or.inl ⟨rfl, rfl, rfl⟩, fun _ => rfl⟩, g⟩
theorem hit_zero (zs : List Int) (f : Nat) : hit zs (f + 1) 0 = some 0 := by unfold hit; rw [if_pos rfl]
theorem hit_next {zs : List Int} {f a q : Nat} (h : a ≠ 0) (hq : zs.getD a 0 = (q : Int)) (hl : q < zs.length) : hit zs (f + 1) a = (hit zs f q).map (· + 1) := by
  rw [hit, if_neg h, if_pos ⟨by rw [hq]; omega, by rw [hq]; omega⟩, hq, Int.toNat_natCast]
theorem hit_bad {zs : List Int} {f a : Nat} (h : a ≠ 0) (hq : zs.getD a 0 < 0 ∨ (zs.length : Int) ≤ zs.getD a 0) : hit zs (f + 1) a = none := by
  rw [hit, if_neg h, if_neg (by omega)]
set_option maxRecDepth 20000 in
set_option maxHeartbeats 4000000 in
theorem Depths_walk (b off n cap : Nat) (zs : List Int) (w : World) (hn : n ≤ 32) (h0 : 0 < n) (hl : zs.length = n) (hz : zs.getD 0 0 = -1) (hc : ∀ j, j < n → w.cell? ⟨b, off + j, none⟩ = some (.int .i64 (zs.getD j 0))) (lb : b < w.heap.size) :
    Calls Try.prog 42 #[.slice (some ⟨b, off, none⟩) n cap] w fun e w' => ∃ v', e = .returned (.tuple #[v', .int .i64 (depE zs n)]) ∧ (Ow w.heap.size w' v' ((hits zs n n).getD []).length (((hits zs n n).getD []).map fun x : Nat => Value.int .i64 (x : Int)) ∧ (hits zs n n = none → v' = .slice none 0 0)) ∧ Gr w w' := by
  have d1 : decide ((n : Int) < 1) = false := decide_eq_false (by omega)
  have d2 : decide ((32 : Int) < n) = false := decide_eq_false (by omega)
  have c0 : w.cell? ⟨b, off, none⟩ = some (.int .i64 (-1)) := by have := hc 0 h0; rwa [hz] at this
  obtain ⟨w1, hmk, hb, hg⟩ := mk34 n w (by omega)
  have HB := Lib.hid hb
  have S1 := Lib.hid hg
  have HC := Lib.hid hc
  have HL := Lib.hid hl
  clear hb hg hc hl hz
  go_enter Try.func42, Try.ntmps42
  go_wp2_with fail
  go_step3
  go_wp2_with fail
  go_step3
  go_wp2_with fail
  clear hmk c0
  go_loopg [5, 6, 26] n (fun g _ _ s26 wr => ∃ (k : Nat) (ds : List Nat), k + g = n ∧ s26 = .int .i64 (k : Int) ∧ Hid (hits zs n k = some ds) ∧ Hid (Bx wr w.heap.size (outK n ds)) ∧ Hid (Gr w wr))
  case atStart => exact ⟨0, [], by omega, rfl, Lib.hid rfl, Lib.hid HB.out, S1⟩
  case round =>
    obtain ⟨k, ds, hkg, rfl, HD, KB, SG⟩ := hrel
    cases gk with
    | zero =>
      have hk : decide ((k : Int) < (n : Int)) = false := decide_eq_false (by omega)
      go_wp2_with fail
      try rw [Exit.noGoto_ret]
      go_ret2
      obtain rfl : k = n := by omega
      exact dep_fin_ok HD.out KB.out SG.out
    | succ g =>
      have hk : decide ((k : Int) < (n : Int)) = true := decide_eq_true (by omega)
      obtain rfl := hits_len HD.out
      have hkn : decide (ds.length < n) = true := decide_eq_true (by omega)
      go_wp2_with fail
      go_loopg [6] n (fun g2 s6 wy => ∃ (a d : Nat), d + g2 = n ∧ s6 = .int .i64 (a : Int) ∧ a < n ∧ Hid ((hit zs g2 a).map (· + d) = hit zs n ds.length) ∧ Hid (Bx wy w.heap.size (outs n ds d)) ∧ Hid (Gr w wy))
      case atStart => exact ⟨ds.length, 0, by omega, rfl, by omega, Lib.hid (by cases hit zs n ds.length <;> rfl), Lib.hid (outK_lt (show ds.length < n by omega) ▸ KB.out), SG⟩
      case round =>
        obtain ⟨a, d, hdg, rfl, han, HH, KD, SD⟩ := hrel
        have co := KD.out.c ds.length _ outs_at
        have fo := KD.out.f ds.length (by rw [outs_len (by omega)]; omega)
        have lo := KD.out.lt
        cases gk with
        | zero =>
          have hd : decide ((d : Int) < (n : Int)) = false := decide_eq_false (by omega)
          have HN : Hid (hits zs n n = none) := Lib.hid (hits_stop (show ds.length < n by omega) HH.out.symm)
          go_wp2_with fail
          try rw [Exit.noGoto_ret]
          go_ret2
          exact dep_fin_no HN.out SD.out
        | succ g2 =>
          have hd : decide ((d : Int) < (n : Int)) = true := decide_eq_true (by omega)
          by_cases ha : a = 0
          · subst ha
            have HS : Hid (hits zs n (ds.length + 1) = some (ds ++ [d])) := Lib.hid (hits_succ HD.out (by rw [← HH.out, hit_zero]; simp))
            go_wp2_with fail
            go_roundg g
            case measure => omega
            case rel => exact ⟨ds.length + 1, ds ++ [d], by omega, by first | rfl | simp, HS, Lib.hid (outs_K ▸ KD.out), SD⟩
          · have ea : ((a : Int) == 0) = false := beq_eq_false_iff_ne.2 (by omega)
            have cp : wr.cell? ⟨b, off + a, none⟩ = some (.int .i64 (zs.getD a 0)) := (SD.out.cell lb _).trans (HC.out a han)
            obtain ⟨p, HP⟩ : ∃ p, Hid (zs.getD a 0 = p) := ⟨_, Lib.hid rfl⟩
            rw [HP.out] at cp
            by_cases p0 : p < 0
            · have e0 : decide (p < 0) = true := decide_eq_true p0
              have HN : Hid (hits zs n n = none) := Lib.hid (hits_stop (show ds.length < n by omega) (by rw [← HH.out, hit_bad ha (by rw [HP.out]; exact Or.inl p0)]; rfl))
              go_wp2_with fail
              try rw [Exit.noGoto_ret]
              go_ret2
              exact dep_fin_no HN.out SD.out
            · have e0 : decide (p < 0) = false := decide_eq_false p0
              by_cases p1 : (n : Int) ≤ p
              · have e1 : decide ((n : Int) ≤ p) = true := decide_eq_true p1
                have HN : Hid (hits zs n n = none) := Lib.hid (hits_stop (show ds.length < n by omega) (by rw [← HH.out, hit_bad ha (by rw [HP.out, HL.out]; exact Or.inr p1)]; rfl))
                go_wp2_with fail
                try rw [Exit.noGoto_ret]
                go_ret2
                exact dep_fin_no HN.out SD.out
              · have e1 : decide ((n : Int) ≤ p) = false := decide_eq_false p1
                obtain ⟨q, rfl⟩ := Int.eq_ofNat_of_zero_le (show 0 ≤ p by omega)
                have HE : Hid ((hit zs g2 q).map (· + (d + 1)) = hit zs n ds.length) := Lib.hid (by
                  rw [← HH.out, hit_next ha HP.out (by rw [HL.out]; omega)]
                  cases hit zs g2 q
                  · rfl
                  · simp; omega)
                go_wp2_with fail
                go_roundg g2
                case measure => omega
                case rel =>
                  exact ⟨q, d + 1, by omega, by first | rfl | simp, by omega, HE, Lib.hid (outs_set ▸ KD.out.set ds.length (.int .i64 ((d + 1 : Nat) : Int)) (by rw [outs_len (by omega)]; omega)), Lib.hid (Gr.set SD.out (by simp) _)⟩
end Go.Proofs.Ytpnigndobhbfnaa
