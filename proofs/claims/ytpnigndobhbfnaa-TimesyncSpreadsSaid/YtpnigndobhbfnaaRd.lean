/- The walk of the reference's Depths. -/
import Derived.Test.YtpnigndobhbfnaaPg
import Derived.Test.YtpnigndobhbfnaaCl
namespace Go.Proofs.Ytpnigndobhbfnaa
open Go.RowKit
open Go.Lib
theorem hits_same {zs : List Int} {f : Nat} (hf : zs.length ≤ f) : ∀ k, k ≤ zs.length → hits zs f k = hits zs zs.length k
  | 0, _ => rfl
  | k + 1, h => by
    unfold hits
    rw [hits_same hf k (by omega), hit_enough hf (show k < zs.length by omega)]
theorem rdep_ok {zs : List Int} {n : Nat} {ds : List Nat} {w wr : World} {v : Value} (hl : zs.length = n) (e : hits zs (n + 2) n = some ds) (h : wr.ownsRow w.heap.size 3 1 v n (nvs ds)) (g : Gr w wr) :
    ∃ v', Ending.returned (.tuple #[v, .int .i64 0]) = .returned (.tuple #[v', .int .i64 (depE zs n)]) ∧ (Ow w.heap.size wr v' ((hits zs n n).getD []).length (nvs ((hits zs n n).getD [])) ∧ (hits zs n n = none → v' = .slice none 0 0)) ∧ Gr w wr := by
  have e1 : hits zs n n = some ds := by
    rw [← e]; subst hl; exact (hits_same (by omega) _ (Nat.le_refl _)).symm
  have hlen := hits_len e1
  rw [show depE zs n = 0 by unfold depE; rw [e1]; rfl, e1]
  refine ⟨_, rfl, ⟨?_, fun h => by cases h⟩, g⟩
  have := Ow.of_row h
  rw [← hlen] at this
  exact this
theorem rdep_no {zs : List Int} {n : Nat} {w wr : World} (hl : zs.length = n) (e : hits zs (n + 2) n = none) (g : Gr w wr) :
    ∃ v', Ending.returned (.tuple #[.slice none 0 0, .int .i64 1]) = .returned (.tuple #[v', .int .i64 (depE zs n)]) ∧ (Ow w.heap.size wr v' ((hits zs n n).getD []).length (nvs ((hits zs n n).getD [])) ∧ (hits zs n n = none → v' = .slice none 0 0)) ∧ Gr w wr :=
  dep_fin_no (by rw [← e]; subst hl; exact (hits_same (by omega) _ (Nat.le_refl _)).symm) g
set_option maxRecDepth 20000 in
set_option maxHeartbeats 4000000 in
theorem rDepths_walk (b off n cap : Nat) (zs : List Int) (w : World) (hn : n ≤ 32) (h0 : 0 < n) (hl : zs.length = n) (hz : zs.getD 0 0 = -1) (hc : ∀ j, j < n → w.cell? ⟨b, off + j, none⟩ = some (.int .i64 (zs.getD j 0))) (lb : b < w.heap.size) :
    Calls Try.prog 44 #[.slice (some ⟨b, off, none⟩) n cap] w fun e w' => ∃ v', e = .returned (.tuple #[v', .int .i64 (depE zs n)]) ∧ (Ow w.heap.size w' v' ((hits zs n n).getD []).length (nvs ((hits zs n n).getD [])) ∧ (hits zs n n = none → v' = .slice none 0 0)) ∧ Gr w w' := by
  have h3 : (Try.prog.info? 3).map (fun i => (i.zero, i.size, i.bytes)) = some (some (.int .i64 0), 1, 8) := by kernel_rfl
  obtain ⟨i0, hi, hx⟩ := Option.map_eq_some_iff.1 h3
  simp only [Prod.mk.injEq] at hx
  obtain ⟨hz0, hz1, hz2⟩ := hx
  clear h3
  have d1 : decide ((n : Int) < 1) = false := decide_eq_false (by omega)
  have d2 : decide ((32 : Int) < n) = false := decide_eq_false (by omega)
  have c0 : w.cell? ⟨b, off, none⟩ = some (.int .i64 (-1)) := by have := hc 0 h0; rwa [hz] at this
  have HI := Lib.hid hi
  have HZ0 := Lib.hid hz0
  have HZ1 := Lib.hid hz1
  have HZ2 := Lib.hid hz2
  have HC := Lib.hid hc
  have HL := Lib.hid hl
  clear hc hl hz hi hz0 hz1 hz2
  go_enter Try.func44, Try.ntmps44
  go_wp2_with fail
  clear c0
  go_loopg [5, 6, 7, 8] n (fun g s5 s6 _ _ wr => ∃ (k : Nat) (ds : List Nat), k + g = n ∧ s6 = .int .i64 (k : Int) ∧ Hid (hits zs (n + 2) k = some ds) ∧ Hid (wr.ownsRow w.heap.size 3 1 s5 k (nvs ds)) ∧ Hid (Gr w wr))
  case atStart => exact ⟨0, [], by omega, rfl, Lib.hid rfl, Lib.hid (World.ownsRow_made w #[] 0 (Nat.le_refl _) (Nat.zero_le _) rfl), Lib.hid ((Gr.refl w).alloc _)⟩
  case round =>
    rename_i s5 _ _ _
    obtain ⟨k, ds, hkg, rfl, HD, HO, SG⟩ := hrel
    cases gk with
    | zero =>
      have hk : decide ((k : Int) < (n : Int)) = false := decide_eq_false (by omega)
      have hk2 : decide (k < n) = false := decide_eq_false (by omega)
      go_wp2_with fail
      go_ret2
      obtain rfl : k = n := by omega
      exact rdep_ok HL.out HD.out HO.out SG.out
    | succ g =>
      have hk : decide ((k : Int) < (n : Int)) = true := decide_eq_true (by omega)
      have hk2 : decide (k < n) = true := decide_eq_true (by omega)
      go_wp2_with fail
      go_loopg [7, 8] (n + 1) (fun g2 s7 s8 wy => ∃ (a d : Nat), d + g2 = n + 1 ∧ s7 = .int .i64 (d : Int) ∧ s8 = .int .i64 (a : Int) ∧ a < n ∧ Hid ((hit zs (g2 + 1) a).map (· + d) = hit zs (n + 2) k) ∧ wr = wy)
      case atStart => exact ⟨k, 0, by omega, rfl, rfl, by omega, Lib.hid (by cases hit zs (n + 1 + 1) k <;> rfl), rfl⟩
      case round =>
        obtain ⟨a, d, hdg, rfl, rfl, han, HH, rfl⟩ := hrel
        by_cases ha : a = 0
        · subst ha
          have hd : hit zs (n + 2) k = some d := by rw [← HH.out, hit_zero]; simp
          have HS : Hid (hits zs (n + 2) (k + 1) = some (ds ++ [d])) := Lib.hid (hits_succ HD.out hd)
          go_wp2_with (at_builtin; refine wpList_append_own _ rfl _ _ 34 rfl w.heap.size 3 i0 (.int .i64 0) 1 8 Try.underlying34 HI.out HZ0.out HZ1.out HZ2.out rfl (by decide) _ _ _ rfl (HO.out.alloc _) ⟨wr.heap.size, 0, none⟩ 1 1 [.int .i64 (d : Int)] rfl rfl ?c1 ?c2 ?c3 ?c4 ?c5 ?_)
          case c1 => exact cell_one_new _ _ _
          case c2 => intro u hu; rw [List.mem_singleton.1 hu]; rfl
          case c3 => unfold maxLen; omega
          case c4 => omega
          case c5 => have := SG.out.size; simp; omega
          intro v' w1 hown hgrow hnil
          have HO1 := Lib.hid hown
          have SG1 : Hid (Gr w w1) := Lib.hid (Below.grown (SG.out.alloc _) hgrow (Nat.le_trans SG.out.size (by simp)) (fun k hk => (HO.out.lt k hk).1))
          clear hown hgrow hnil
          go_wp2_with fail
          go_roundg g
          case measure => omega
          case rel => exact ⟨k + 1, ds ++ [d], by omega, by go_num, HS, Lib.hid (by have := HO1.out; simpa [nvs] using this), SG1⟩
        · have ea : ((a : Int) != 0) = true := by rw [bne_iff_ne]; omega
          have cp : wr.cell? ⟨b, off + a, none⟩ = some (.int .i64 (zs.getD a 0)) := (SG.out.cell lb _).trans (HC.out a han)
          obtain ⟨p, HP⟩ : ∃ p, Hid (zs.getD a 0 = p) := ⟨_, Lib.hid rfl⟩
          rw [HP.out] at cp
          by_cases p0 : p < 0
          · have e0 : decide (p < 0) = true := decide_eq_true p0
            have HN : Hid (hits zs (n + 2) n = none) := Lib.hid (hits_stop (show k < n by omega) (by rw [← HH.out, hit_bad ha (by rw [HP.out]; exact Or.inl p0)]; rfl))
            go_wp2_with fail
            go_ret2
            exact rdep_no HL.out HN.out SG.out
          · have e0 : decide (p < 0) = false := decide_eq_false p0
            by_cases p1 : (n : Int) ≤ p
            · have e1 : decide ((n : Int) ≤ p) = true := decide_eq_true p1
              have HN : Hid (hits zs (n + 2) n = none) := Lib.hid (hits_stop (show k < n by omega) (by rw [← HH.out, hit_bad ha (by rw [HP.out, HL.out]; exact Or.inr p1)]; rfl))
              go_wp2_with fail
              go_ret2
              exact rdep_no HL.out HN.out SG.out
            · have e1 : decide ((n : Int) ≤ p) = false := decide_eq_false p1
              obtain ⟨q, rfl⟩ := Int.eq_ofNat_of_zero_le (show 0 ≤ p by omega)
              cases gk with
              | zero =>
                have e2 : decide ((n : Int) < (d : Int)) = true := decide_eq_true (by omega)
                have e3 : decide (n < d) = true := decide_eq_true (by omega)
                have HN : Hid (hits zs (n + 2) n = none) := Lib.hid (hits_stop (show k < n by omega) (by rw [← HH.out, hit_next ha HP.out (by rw [HL.out]; omega)]; rfl))
                go_wp2_with fail
                go_ret2
                exact rdep_no HL.out HN.out SG.out
              | succ g2 =>
                have e2 : decide ((n : Int) < (d : Int)) = false := decide_eq_false (by omega)
                have e3 : decide (n < d) = false := decide_eq_false (by omega)
                have HE : Hid ((hit zs (g2 + 1) q).map (· + (d + 1)) = hit zs (n + 2) k) := Lib.hid (by
                  rw [← HH.out, hit_next ha HP.out (by rw [HL.out]; omega)]
                  cases hit zs (g2 + 1) q
                  · rfl
                  · simp; omega)
                go_wp2_with fail
                go_roundg g2
                case measure => omega
                case rel =>
                  exact ⟨q, d + 1, by omega, by go_num, rfl, by omega, HE, rfl⟩
set_option maxRecDepth 20000 in
set_option maxHeartbeats 400000 in
theorem rDepths_nil (a : Option Addr) (c : Nat) (w : World) : Calls Try.prog 44 #[.slice a 0 c] w fun e w' => e = .returned (.tuple #[.slice none 0 0, .int .i64 1]) ∧ Gr w w' := by
  go_enter Try.func44, Try.ntmps44
  go_wp2_with fail
  go_ret2
  exact ⟨rfl, Gr.refl _⟩
set_option maxRecDepth 20000 in
set_option maxHeartbeats 400000 in
theorem rDepths_many (a : Addr) (n c : Nat) (w : World) (h : 32 < n) : Calls Try.prog 44 #[.slice (some a) n c] w fun e w' => e = .returned (.tuple #[.slice none 0 0, .int .i64 1]) ∧ Gr w w' := by
  have d1 : decide ((n : Int) < 1) = false := decide_eq_false (by omega)
  have d2 : decide ((32 : Int) < n) = true := decide_eq_true (by omega)
  go_enter Try.func44, Try.ntmps44
  go_wp2_with fail
  go_ret2
  exact ⟨rfl, Gr.refl _⟩
set_option maxRecDepth 20000 in
set_option maxHeartbeats 400000 in
theorem rDepths_head (b off n c : Nat) (z : Int) (w : World) (h0 : 0 < n) (h : n ≤ 32) (hz : z ≠ -1) (c0 : w.cell? ⟨b, off, none⟩ = some (.int .i64 z)) : Calls Try.prog 44 #[.slice (some ⟨b, off, none⟩) n c] w fun e w' => e = .returned (.tuple #[.slice none 0 0, .int .i64 1]) ∧ Gr w w' := by
  have d1 : decide ((n : Int) < 1) = false := decide_eq_false (by omega)
  have d2 : decide ((32 : Int) < n) = false := decide_eq_false (by omega)
  have d3 : (z != -1) = true := by rw [bne_iff_ne]; exact hz
  go_enter Try.func44, Try.ntmps44
  go_wp2_with fail
  go_ret2
  exact ⟨rfl, Gr.refl _⟩
theorem rDepths_sz (zs : List Int) (v : Value) (w : World) (h : Sz w v zs.length (ivs zs)) :
    Calls Try.prog 44 #[v] w fun e w' => ∃ v', e = .returned (.tuple #[v', .int .i64 (dpE zs)]) ∧ (Ow w.heap.size w' v' ((dep zs).getD []).length (nvs ((dep zs).getD [])) ∧ (dep zs = none → v' = .slice none 0 0)) ∧ Gr w w' := by
  by_cases hk : depOk zs
  · rcases h with ⟨a, c, rfl, h, _⟩ | ⟨b, off, cap, rfl, lb, hc⟩
    · have := hk.1; omega
    · have e : dep zs = hits zs zs.length zs.length := if_pos hk
      unfold dpE
      rw [e]
      exact rDepths_walk b off zs.length cap zs w hk.2.1 hk.1 rfl hk.2.2 (fun j hj => hc j _ (ivs_at hj)) lb
  · have e := dep_no hk
    unfold dpE
    rw [e]
    have fin : ∀ {e : Ending} {w' : World}, (e = .returned (.tuple #[.slice none 0 0, .int .i64 1]) ∧ Gr w w') → ∃ v', e = .returned (.tuple #[v', .int .i64 (if (none : Option (List Nat)).isSome then 0 else 1)]) ∧ (Ow w.heap.size w' v' ((none : Option (List Nat)).getD []).length (nvs ((none : Option (List Nat)).getD [])) ∧ ((none : Option (List Nat)) = none → v' = .slice none 0 0)) ∧ Gr w w' :=
      fun h => ⟨_, h.1, ⟨Or.inl ⟨rfl, rfl, rfl⟩, fun _ => rfl⟩, h.2⟩
    rcases h with ⟨a, c, rfl, h, _⟩ | ⟨b, off, cap, rfl, lb, hc⟩
    · exact (rDepths_nil a c w).mono fun _ _ => fin
    · by_cases h0 : 0 < zs.length
      · by_cases h1 : zs.length ≤ 32
        · have c0 := hc 0 _ (ivs_at h0)
          exact (rDepths_head b off _ cap (zs.getD 0 0) w h0 h1 (fun x => hk ⟨h0, h1, x⟩) c0).mono fun _ _ => fin
        · exact (rDepths_many _ _ cap w (by omega)).mono fun _ _ => fin
      · have : zs.length = 0 := by omega
        rw [this]
        exact (rDepths_nil _ cap w).mono fun _ _ => fin
end Go.Proofs.Ytpnigndobhbfnaa
