import Derived.Shelf.SlicesG.Clone
import Derived.Test.YtpnigndobhbfnaaDpt
namespace Go.Proofs.Ytpnigndobhbfnaa
open Go.RowKit
theorem hit_lt {zs : List Int} : ∀ {f a d : Nat}, hit zs f a = some d → d < f
  | 0, a, d, h => by cases h
  | f + 1, a, d, h => by
    rw [hit] at h
    split at h
    · injection h with h; omega
    · split at h
      · cases h1 : hit zs f (zs.getD a 0).toNat with
        | none => rw [h1] at h; cases h
        | some x =>
          rw [h1] at h
          have := hit_lt h1
          simp only [Option.map, Option.some.injEq] at h
          omega
      · cases h
theorem dep_bound {zs : List Int} {ds : List Nat} (h : dep zs = some ds) {j : Nat} (hj : j < zs.length) : ds.getD j 0 < 32 := by
  unfold dep at h
  split at h
  case isTrue hk =>
    have h1 := hit_lt (hits_at h j hj)
    have := hk.2.1
    omega
  case isFalse => cases h
theorem okV {l : List Value} : (∀ u ∈ l, ∃ i, u = .int .i64 i) → ∀ u ∈ l, u.oneCell' = true := fun h u hu => by obtain ⟨i, rfl⟩ := h u hu; rfl
theorem ivs_one {zs : List Int} : ∀ u ∈ ivs zs, u.oneCell' = true := okV fun u hu => by
  obtain ⟨i, _, rfl⟩ := List.mem_map.1 hu; exact ⟨i, rfl⟩
theorem nvs_at {ds : List Nat} {j : Nat} (h : j < ds.length) : (nvs ds)[j]? = some (.int .i64 (ds.getD j 0 : Nat)) := by
  unfold nvs
  rw [List.getElem?_map, List.getD_eq_getElem?_getD, List.getElem?_eq_getElem h]; rfl
theorem Depths_is (zs : List Int) (ds : List Nat) (n : Nat) (v : Value) (w : World) (hl : zs.length = n) (h : Sl w v n (ivs zs)) (hd : dep zs = some ds) :
    Calls Try.prog 42 #[v] w fun e w' => ∃ g cap, e = .returned (.tuple #[.slice (some ⟨g, 0, none⟩) n cap, .int .i64 0]) ∧ Bx w' g (nvs ds) ∧ Gr w w' := by
  subst hl
  obtain ⟨hk, hdl, _⟩ := dep_node hd
  have := Depths_any zs v w h
  unfold dpE at this
  rw [hd] at this
  refine this.mono ?_
  rintro e w' ⟨v', rfl, ⟨ho, _⟩, hg⟩
  rcases ho with ⟨_, h0, _⟩ | ⟨g, cap, rfl, _, hb⟩
  · have h1 : ds.length = 0 := h0
    have := hk.1; omega
  · exact ⟨g, cap, by show _ = Ending.returned (.tuple #[.slice _ zs.length _, _]); rw [← hdl]; rfl, hb, hg⟩
theorem Depths_er (zs : List Int) (n : Nat) (v : Value) (w : World) (hl : zs.length = n) (h : Sl w v n (ivs zs)) (hd : dep zs = none) :
    Calls Try.prog 42 #[v] w fun e w' => e = .returned (.tuple #[.slice none 0 0, .int .i64 1]) ∧ Gr w w' := by
  subst hl
  have := Depths_any zs v w h
  unfold dpE at this
  rw [hd] at this
  refine this.mono ?_
  rintro e w' ⟨v', rfl, ho, hg⟩
  obtain rfl := ho.2 rfl
  exact ⟨rfl, hg⟩
set_option maxRecDepth 20000 in
set_option maxHeartbeats 2000000 in
theorem TD_ok (b off n cap : Nat) (zs : List Int) (ds : List Nat) (w : World) (hn : n ≤ 40) (hcap : 1 < cap) (hl : zs.length = n) (hd : dep zs = some ds) (hc : ∀ j, j < n → w.cell? ⟨b, off + j, none⟩ = some (.int .i64 (zs.getD j 0))) (lb : b < w.heap.size) :
    Calls Try.prog 19 #[.slice (some ⟨b, off, none⟩) n cap] w fun e w' => e = .returned (.bool true) ∧ Gr w w' := by
  have d0 : decide ((40 : Int) < n) = false := decide_eq_false (by omega)
  have hs : Sl w (.slice (some ⟨b, off, none⟩) n cap) n (ivs zs) := Or.inr ⟨b, off, cap, rfl, lb, fun j u hj => by
    have h1 : j < zs.length := by simpa [ivs] using (List.getElem?_eq_some_iff.1 hj).1
    rw [ivs_at h1] at hj
    injection hj with hj
    rw [← hj]; exact hc j (by omega)⟩
  have HS := Lib.hid hs
  have HC := Lib.hid hc
  have HL := Lib.hid hl
  have HD := Lib.hid hd
  clear hs hc hl hd
  go_enter Try.func19, Try.ntmps19
  go_wp2_with fail
  refine (awake10 _).mono ?_
  rintro e w1 ⟨rfl, hg⟩
  have S1 := Lib.hid hg
  clear hg
  go_wp2_with fail
  refine (Clone43 _ n (ivs zs) _ (HS.out.gr S1.out) (by simp [ivs, HL.out]) (by omega) ivs_one).mono ?_
  rintro e w2 ⟨v2, rfl, ho, hg⟩
  have S2 := Lib.hid (S1.out.trans hg)
  have O2 := Lib.hid ho
  clear hg ho
  go_wp2_with fail
  refine (Depths_is zs ds n v2 _ HL.out O2.out.sl HD.out).mono ?_
  rintro e w3 ⟨g, cap3, rfl, hb, hg⟩
  have S3 := Lib.hid (S2.out.trans hg)
  have K3 := Lib.hid hb
  clear hg hb O2
  have N := Lib.hid (dep_node HD.out)
  have n0 : 0 < n := by have := N.out.1.1; rw [HL.out] at this; exact this
  have e2 : ((n : Int) == 0) = false := beq_eq_false_iff_ne.2 (by omega)
  have cd0 : w3.cell? ⟨g, 0, none⟩ = some (.int .i64 0) := by
    have := K3.out.c 0 _ (nvs_at (by rw [N.out.2.1, HL.out]; exact n0))
    rwa [N.out.2.2.1] at this
  have cp0 : w3.cell? ⟨b, off, none⟩ = some (.int .i64 (-1)) := by
    have := (S3.out.cell lb off).trans (HC.out 0 n0)
    rwa [N.out.1.2.2] at this
  go_wp2_with fail
  clear cd0 cp0 e2
  go_loopg [5, 6, 47] (n - 1) (fun q _ _ s47 wx => ∃ k : Nat, k + q = n - 1 ∧ s47 = .int .i64 (k : Int) ∧ Hid (Gr w3 wx))
  case atStart => exact ⟨0, by omega, rfl, Lib.hid (Gr.refl _)⟩
  case round =>
    obtain ⟨k, hkq, rfl, SX⟩ := hrel
    cases gk with
    | zero =>
      have hk : decide ((k : Int) < ((n - 1 : Nat) : Int)) = false := decide_eq_false (by omega)
      have hk2 : decide (k < n - 1) = false := decide_eq_false (by omega)
      go_wp2_with fail
      go_ret
      exact ⟨rfl, S3.out.trans SX.out⟩
    | succ r =>
      have hk : decide ((k : Int) < ((n - 1 : Nat) : Int)) = true := decide_eq_true (by omega)
      have hk2 : decide (k < n - 1) = true := decide_eq_true (by omega)
      obtain ⟨p, hp, hpl, hpd⟩ := N.out.2.2.2 (k + 1) (by omega) (by rw [HL.out]; omega)
      rw [HL.out] at hpl
      have cq : wr.cell? ⟨b, off + 1 + k, none⟩ = some (.int .i64 (p : Int)) := by
        have := ((S3.out.trans SX.out).cell lb (off + (k + 1))).trans (HC.out (k + 1) (by omega))
        rw [hp] at this
        rwa [show off + 1 + k = off + (k + 1) by omega]
      have KX := Lib.hid (K3.out.gr SX.out)
      have c1 : wr.cell? ⟨g, p, none⟩ = some (.int .i64 ((ds.getD p 0 : Nat) : Int)) := KX.out.c p _ (nvs_at (by rw [N.out.2.1, HL.out]; exact hpl))
      have c2 : wr.cell? ⟨g, k + 1, none⟩ = some (.int .i64 (((ds.getD p 0 : Nat) : Int) + 1)) := by
        have := KX.out.c (k + 1) _ (nvs_at (by rw [N.out.2.1, HL.out]; omega))
        rw [hpd] at this
        simpa using this
      have hx := dep_bound HD.out (show p < zs.length by rw [HL.out]; exact hpl)
      clear hp hpd
      generalize ds.getD p 0 = x at c1 c2 hx
      go_wp2_with fail
      have e3 : decide ((p : Int) < 0) = false := decide_eq_false (by omega)
      have e4 : decide ((n : Int) ≤ p) = false := decide_eq_false (by omega)
      have e5 : decide (n ≤ p) = false := decide_eq_false (by omega)
      have ww1 : IntKind.i64.wrap ((k : Int) + 1) = (k : Int) + 1 := by rw [IntKind.wrap_i64]; omega
      have ww2 : IntKind.i64.wrap ((x : Int) + 1) = (x : Int) + 1 := by rw [IntKind.wrap_i64]; omega
      go_quiet (fail)
      have SY := Lib.hid (SX.out.drewN nq)
      generalize wr.drewN nq = wz at SY ⊢
      clear c1 c2 cq
      go_wp2_with fail
      go_roundg r
      case measure => omega
      case rel => exact ⟨k + 1, by omega, by first | rfl | simp, SY⟩
set_option maxRecDepth 20000 in
set_option maxHeartbeats 2000000 in
theorem TD_ok1 (b off n cap : Nat) (zs : List Int) (ds : List Nat) (w : World) (hn : n ≤ 40) (hnc : n ≤ cap) (hcap : cap ≤ 1) (hl : zs.length = n) (hd : dep zs = some ds) (hc : ∀ j, j < n → w.cell? ⟨b, off + j, none⟩ = some (.int .i64 (zs.getD j 0))) (lb : b < w.heap.size) :
    Calls Try.prog 19 #[.slice (some ⟨b, off, none⟩) n cap] w fun e w' => e = .returned (.bool true) ∧ Gr w w' := by
  have d0 : decide ((40 : Int) < n) = false := decide_eq_false (by omega)
  have hs : Sl w (.slice (some ⟨b, off, none⟩) n cap) n (ivs zs) := Or.inr ⟨b, off, cap, rfl, lb, fun j u hj => by
    have h1 : j < zs.length := by simpa [ivs] using (List.getElem?_eq_some_iff.1 hj).1
    rw [ivs_at h1] at hj
    injection hj with hj
    rw [← hj]; exact hc j (by omega)⟩
  have HS := Lib.hid hs
  have HC := Lib.hid hc
  have HL := Lib.hid hl
  have HD := Lib.hid hd
  clear hs hc hl hd
  go_enter Try.func19, Try.ntmps19
  go_wp2_with fail
  refine (awake10 _).mono ?_
  rintro e w1 ⟨rfl, hg⟩
  have S1 := Lib.hid hg
  clear hg
  go_wp2_with fail
  refine (Clone43 _ n (ivs zs) _ (HS.out.gr S1.out) (by simp [ivs, HL.out]) (by omega) ivs_one).mono ?_
  rintro e w2 ⟨v2, rfl, ho, hg⟩
  have S2 := Lib.hid (S1.out.trans hg)
  have O2 := Lib.hid ho
  clear hg ho
  go_wp2_with fail
  refine (Depths_is zs ds n v2 _ HL.out O2.out.sl HD.out).mono ?_
  rintro e w3 ⟨g, cap3, rfl, hb, hg⟩
  have S3 := Lib.hid (S2.out.trans hg)
  have K3 := Lib.hid hb
  clear hg hb O2
  have N := Lib.hid (dep_node HD.out)
  have n0 : 0 < n := by have := N.out.1.1; rw [HL.out] at this; exact this
  have e2 : ((n : Int) == 0) = false := beq_eq_false_iff_ne.2 (by omega)
  have cd0 : w3.cell? ⟨g, 0, none⟩ = some (.int .i64 0) := by
    have := K3.out.c 0 _ (nvs_at (by rw [N.out.2.1, HL.out]; exact n0))
    rwa [N.out.2.2.1] at this
  have cp0 : w3.cell? ⟨b, off, none⟩ = some (.int .i64 (-1)) := by
    have := (S3.out.cell lb off).trans (HC.out 0 n0)
    rwa [N.out.1.2.2] at this
  go_wp2_with fail
  clear cd0 cp0 e2
  go_loopg [5, 6, 47] (n - 1) (fun q _ _ s47 wx => ∃ k : Nat, k + q = n - 1 ∧ s47 = .int .i64 (k : Int) ∧ Hid (Gr w3 wx))
  case atStart => exact ⟨0, by omega, rfl, Lib.hid (Gr.refl _)⟩
  case round =>
    obtain ⟨k, hkq, rfl, SX⟩ := hrel
    cases gk with
    | zero =>
      have hk : decide ((k : Int) < ((n - 1 : Nat) : Int)) = false := decide_eq_false (by omega)
      have hk2 : decide (k < n - 1) = false := decide_eq_false (by omega)
      go_wp2_with fail
      go_ret
      exact ⟨rfl, S3.out.trans SX.out⟩
    | succ r => omega
theorem Sl_of (b off n cap : Nat) (zs : List Int) (w : World) (hl : zs.length = n) (hc : ∀ j, j < n → w.cell? ⟨b, off + j, none⟩ = some (.int .i64 (zs.getD j 0))) (lb : b < w.heap.size) : Sl w (.slice (some ⟨b, off, none⟩) n cap) n (ivs zs) := Or.inr ⟨b, off, cap, rfl, lb, fun j u hj => by
    have h1 : j < zs.length := by simpa [ivs] using (List.getElem?_eq_some_iff.1 hj).1
    rw [ivs_at h1] at hj
    injection hj with hj
    rw [← hj]; exact hc j (by omega)⟩
set_option maxRecDepth 20000 in
set_option maxHeartbeats 2000000 in
theorem TD_nil (zs : List Int) (n c : Nat) (n0 : n ≤ 0) (w : World) (hs : Sl w (.slice none n c) n (ivs zs)) (hl : zs.length = n) (hd : dep zs = none) :
    Calls Try.prog 19 #[.slice none n c] w fun e w' => e = .returned (.bool true) ∧ Gr w w' := by
  have d0 : decide ((40 : Int) < n) = false := decide_eq_false (by omega)
  have HS := Lib.hid hs
  have HL := Lib.hid hl
  have HD := Lib.hid hd
  clear hs hl hd
  go_enter Try.func19, Try.ntmps19
  go_wp2_with fail
  refine (awake10 _).mono ?_
  rintro e w1 ⟨rfl, hg⟩
  have S1 := Lib.hid hg
  clear hg
  go_wp2_with fail
  refine (Clone43 _ n (ivs zs) _ (HS.out.gr S1.out) (by simp [ivs, HL.out]) (by omega) ivs_one).mono ?_
  rintro e w2 ⟨v2, rfl, ho, hg⟩
  have S2 := Lib.hid (S1.out.trans hg)
  have O2 := Lib.hid ho
  clear hg ho
  go_wp2_with fail
  refine (Depths_er zs n v2 _ HL.out O2.out.sl HD.out).mono ?_
  rintro e w3 ⟨rfl, hg⟩
  have S3 := Lib.hid (S2.out.trans hg)
  clear hg O2
  go_wp2_with fail
  go_ret
  exact ⟨rfl, S3.out⟩
set_option maxRecDepth 20000 in
set_option maxHeartbeats 2000000 in
theorem TD_many (a : Addr) (zs : List Int) (n c : Nat) (n0 : 32 < n) (w : World) (hs : Sl w (.slice (some a) n c) n (ivs zs)) (hn : n ≤ 40) (hl : zs.length = n) (hd : dep zs = none) :
    Calls Try.prog 19 #[.slice (some a) n c] w fun e w' => e = .returned (.bool true) ∧ Gr w w' := by
  have d0 : decide ((40 : Int) < n) = false := decide_eq_false (by omega)
  have d1 : decide ((n : Int) < 1) = false := decide_eq_false (by omega)
  have d2 : decide ((32 : Int) < n) = true := decide_eq_true (by omega)
  have HS := Lib.hid hs
  have HL := Lib.hid hl
  have HD := Lib.hid hd
  clear hs hl hd
  go_enter Try.func19, Try.ntmps19
  go_wp2_with fail
  refine (awake10 _).mono ?_
  rintro e w1 ⟨rfl, hg⟩
  have S1 := Lib.hid hg
  clear hg
  go_wp2_with fail
  refine (Clone43 _ n (ivs zs) _ (HS.out.gr S1.out) (by simp [ivs, HL.out]) (by omega) ivs_one).mono ?_
  rintro e w2 ⟨v2, rfl, ho, hg⟩
  have S2 := Lib.hid (S1.out.trans hg)
  have O2 := Lib.hid ho
  clear hg ho
  go_wp2_with fail
  refine (Depths_er zs n v2 _ HL.out O2.out.sl HD.out).mono ?_
  rintro e w3 ⟨rfl, hg⟩
  have S3 := Lib.hid (S2.out.trans hg)
  clear hg O2
  go_wp2_with fail
  go_ret
  exact ⟨rfl, S3.out⟩
set_option maxRecDepth 20000 in
set_option maxHeartbeats 2000000 in
theorem TD_head (b off : Nat) (zs : List Int) (n cap : Nat) (n0 : 0 < n) (n1 : n ≤ 32) (z : Int) (hz : zs.getD 0 0 = z) (z1 : z ≠ -1) (w : World) (hc : ∀ j, j < n → w.cell? ⟨b, off + j, none⟩ = some (.int .i64 (zs.getD j 0))) (lb : b < w.heap.size) (hl : zs.length = n) (hd : dep zs = none) :
    Calls Try.prog 19 #[.slice (some ⟨b, off, none⟩) n cap] w fun e w' => e = .returned (.bool true) ∧ Gr w w' := by
  have hs := Sl_of b off n cap zs w hl hc lb
  have d0 : decide ((40 : Int) < n) = false := decide_eq_false (by omega)
  have d1 : decide ((n : Int) < 1) = false := decide_eq_false (by omega)
  have d2 : decide ((32 : Int) < n) = false := decide_eq_false (by omega)
  have d3 : (z == -1) = false := beq_eq_false_iff_ne.2 z1
  have HC := Lib.hid hc
  have HZ := Lib.hid hz
  clear hc hz
  have HS := Lib.hid hs
  have HL := Lib.hid hl
  have HD := Lib.hid hd
  clear hs hl hd
  go_enter Try.func19, Try.ntmps19
  go_wp2_with fail
  refine (awake10 _).mono ?_
  rintro e w1 ⟨rfl, hg⟩
  have S1 := Lib.hid hg
  clear hg
  go_wp2_with fail
  refine (Clone43 _ n (ivs zs) _ (HS.out.gr S1.out) (by simp [ivs, HL.out]) (by omega) ivs_one).mono ?_
  rintro e w2 ⟨v2, rfl, ho, hg⟩
  have S2 := Lib.hid (S1.out.trans hg)
  have O2 := Lib.hid ho
  clear hg ho
  go_wp2_with fail
  refine (Depths_er zs n v2 _ HL.out O2.out.sl HD.out).mono ?_
  rintro e w3 ⟨rfl, hg⟩
  have S3 := Lib.hid (S2.out.trans hg)
  clear hg O2
  have cp : w3.cell? ⟨b, off, none⟩ = some (.int .i64 z) := by
    have := (S3.out.cell lb off).trans (HC.out 0 n0)
    rwa [HZ.out] at this
  go_wp2_with fail
  go_ret
  exact ⟨rfl, S3.out⟩
set_option maxRecDepth 20000 in
set_option maxHeartbeats 2000000 in
theorem TD_bad (b off : Nat) (zs : List Int) (n cap : Nat) (n0 : 0 < n) (n1 : n ≤ 32) (hcap : 1 < cap) (hz : zs.getD 0 0 = -1) (w : World) (hc : ∀ j, j < n → w.cell? ⟨b, off + j, none⟩ = some (.int .i64 (zs.getD j 0))) (lb : b < w.heap.size) (hl : zs.length = n) (hd : dep zs = none) :
    Calls Try.prog 19 #[.slice (some ⟨b, off, none⟩) n cap] w fun e w' => e = .returned (.bool true) ∧ Gr w w' := by
  have hs := Sl_of b off n cap zs w hl hc lb
  have hk : depOk zs := ⟨by omega, by omega, hz⟩
  have d0 : decide ((40 : Int) < n) = false := decide_eq_false (by omega)
  have d1 : decide ((n : Int) < 1) = false := decide_eq_false (by omega)
  have d2 : decide ((32 : Int) < n) = false := decide_eq_false (by omega)
  have HC := Lib.hid hc
  have HZ := Lib.hid hz
  have HK := Lib.hid hk
  clear hc hz hk
  have HS := Lib.hid hs
  have HL := Lib.hid hl
  have HD := Lib.hid hd
  clear hs hl hd
  go_enter Try.func19, Try.ntmps19
  go_wp2_with fail
  refine (awake10 _).mono ?_
  rintro e w1 ⟨rfl, hg⟩
  have S1 := Lib.hid hg
  clear hg
  go_wp2_with fail
  refine (Clone43 _ n (ivs zs) _ (HS.out.gr S1.out) (by simp [ivs, HL.out]) (by omega) ivs_one).mono ?_
  rintro e w2 ⟨v2, rfl, ho, hg⟩
  have S2 := Lib.hid (S1.out.trans hg)
  have O2 := Lib.hid ho
  clear hg ho
  go_wp2_with fail
  refine (Depths_er zs n v2 _ HL.out O2.out.sl HD.out).mono ?_
  rintro e w3 ⟨rfl, hg⟩
  have S3 := Lib.hid (S2.out.trans hg)
  clear hg O2
  have cp : w3.cell? ⟨b, off, none⟩ = some (.int .i64 (-1)) := by
    have := (S3.out.cell lb off).trans (HC.out 0 n0)
    rwa [HZ.out] at this
  go_wp2_with fail
  clear cp
  go_loopg [7, 8, 98] (n - 1) (fun q _ _ s47 wx => ∃ k : Nat, k + q = n - 1 ∧ s47 = .int .i64 (k : Int) ∧ Hid (Gr w3 wx) ∧ Hid (∀ j, 0 < j → j ≤ k → 0 ≤ zs.getD j 0 ∧ zs.getD j 0 < (j : Int)))
  case atStart => exact ⟨0, by omega, rfl, Lib.hid (Gr.refl _), Lib.hid (fun j h0 h1 => by omega)⟩
  case round =>
    obtain ⟨k, hkq, rfl, SX, HG⟩ := hrel
    cases gk with
    | zero =>
      exact absurd (dep_some HK.out (fun j h0 h1 => HG.out j h0 (by rw [HL.out] at h1; omega))) (by rw [HD.out]; simp)
    | succ r =>
      have hk : decide ((k : Int) < ((n - 1 : Nat) : Int)) = true := decide_eq_true (by omega)
      have hk2 : decide (k < n - 1) = true := decide_eq_true (by omega)
      obtain ⟨p, HP⟩ : ∃ p, Hid (zs.getD (k + 1) 0 = p) := ⟨_, Lib.hid rfl⟩
      have cq : wr.cell? ⟨b, off + 1 + k, none⟩ = some (.int .i64 p) := by
        have := ((S3.out.trans SX.out).cell lb (off + (k + 1))).trans (HC.out (k + 1) (by omega))
        rw [HP.out] at this
        rwa [show off + 1 + k = off + (k + 1) by omega]
      by_cases p0 : p < 0
      · have e1 : decide (p < 0) = true := decide_eq_true p0
        go_wp2_with fail
        go_ret
        exact ⟨rfl, S3.out.trans SX.out⟩
      · have e1 : decide (p < 0) = false := decide_eq_false p0
        by_cases p1 : (k : Int) < p
        · have e2 : decide ((k : Int) < p) = true := decide_eq_true p1
          go_wp2_with fail
          go_ret
          exact ⟨rfl, S3.out.trans SX.out⟩
        · have e2 : decide ((k : Int) < p) = false := decide_eq_false p1
          have HN : Hid (∀ j, 0 < j → j ≤ k + 1 → 0 ≤ zs.getD j 0 ∧ zs.getD j 0 < (j : Int)) := Lib.hid (fun j h0 h1 => by
            by_cases e : j = k + 1
            · subst e; rw [HP.out]; omega
            · exact HG.out j h0 (by omega))
          go_wp2_with fail
          go_roundg r
          case measure => omega
          case rel => exact ⟨k + 1, by omega, by first | rfl | simp, SX, HN⟩
set_option maxRecDepth 20000 in
set_option maxHeartbeats 2000000 in
theorem TD_bad1 (b off : Nat) (zs : List Int) (n cap : Nat) (n0 : 0 < n) (n1 : n ≤ 32) (hnc : n ≤ cap) (hcap : cap ≤ 1) (hz : zs.getD 0 0 = -1) (w : World) (hc : ∀ j, j < n → w.cell? ⟨b, off + j, none⟩ = some (.int .i64 (zs.getD j 0))) (lb : b < w.heap.size) (hl : zs.length = n) (hd : dep zs = none) :
    Calls Try.prog 19 #[.slice (some ⟨b, off, none⟩) n cap] w fun e w' => e = .returned (.bool true) ∧ Gr w w' := by
  have hs := Sl_of b off n cap zs w hl hc lb
  have hk : depOk zs := ⟨by omega, by omega, hz⟩
  have d0 : decide ((40 : Int) < n) = false := decide_eq_false (by omega)
  have d1 : decide ((n : Int) < 1) = false := decide_eq_false (by omega)
  have d2 : decide ((32 : Int) < n) = false := decide_eq_false (by omega)
  have HC := Lib.hid hc
  have HZ := Lib.hid hz
  have HK := Lib.hid hk
  clear hc hz hk
  have HS := Lib.hid hs
  have HL := Lib.hid hl
  have HD := Lib.hid hd
  clear hs hl hd
  go_enter Try.func19, Try.ntmps19
  go_wp2_with fail
  refine (awake10 _).mono ?_
  rintro e w1 ⟨rfl, hg⟩
  have S1 := Lib.hid hg
  clear hg
  go_wp2_with fail
  refine (Clone43 _ n (ivs zs) _ (HS.out.gr S1.out) (by simp [ivs, HL.out]) (by omega) ivs_one).mono ?_
  rintro e w2 ⟨v2, rfl, ho, hg⟩
  have S2 := Lib.hid (S1.out.trans hg)
  have O2 := Lib.hid ho
  clear hg ho
  go_wp2_with fail
  refine (Depths_er zs n v2 _ HL.out O2.out.sl HD.out).mono ?_
  rintro e w3 ⟨rfl, hg⟩
  have S3 := Lib.hid (S2.out.trans hg)
  clear hg O2
  have cp : w3.cell? ⟨b, off, none⟩ = some (.int .i64 (-1)) := by
    have := (S3.out.cell lb off).trans (HC.out 0 n0)
    rwa [HZ.out] at this
  go_wp2_with fail
  clear cp
  go_loopg [7, 8, 98] (n - 1) (fun q _ _ s47 wx => ∃ k : Nat, k + q = n - 1 ∧ s47 = .int .i64 (k : Int) ∧ Hid (Gr w3 wx) ∧ Hid (∀ j, 0 < j → j ≤ k → 0 ≤ zs.getD j 0 ∧ zs.getD j 0 < (j : Int)))
  case atStart => exact ⟨0, by omega, rfl, Lib.hid (Gr.refl _), Lib.hid (fun j h0 h1 => by omega)⟩
  case round =>
    obtain ⟨k, hkq, rfl, SX, HG⟩ := hrel
    cases gk with
    | zero =>
      exact absurd (dep_some HK.out (fun j h0 h1 => HG.out j h0 (by rw [HL.out] at h1; omega))) (by rw [HD.out]; simp)
    | succ r => omega
open Go.Shelf
def Try.cloneN43_ren : Go.Shelf.Ren := ⟨fun | 41 => 43 | n => n, fun | 22 => 34 | 23 => 3 | 4 => 4 | n => n, fun | n => n⟩
theorem Try.cloneN43 : Go.Proofs.SlLaysN.n41 Try.prog Try.cloneN43_ren := {
  mixed := by kernel_rfl
  f41 := ⟨Try.f43.name, by decide, Try.func43.trans (congrArg some (by kernel_rfl))⟩
  t4 := Try.underlying4
  a4 := Try.isAgg4
  z4 := Try.sizeOf4
  v4 := Try.zeroValue4
  t22 := Try.underlying34
  a22 := Try.isAgg34
  z22 := Try.sizeOf34
  v22 := Try.zeroValue34
  t23 := Try.underlying3
  a23 := Try.isAgg3
  z23 := Try.sizeOf3
  v23 := Try.zeroValue3
  i23 := by kernel_rfl }
theorem clN43_t : Try.cloneN43_ren.t 23 = 3 := by kernel_rfl
theorem clN43_f : Try.cloneN43_ren.f 41 = 43 := by kernel_rfl
theorem Clone43z (a : Addr) (c : Nat) (w : World) : Calls Try.prog 43 #[.slice (some a) 0 c] w fun e w' => ∃ v', e = .returned v' ∧ Ow w.heap.size w' v' 0 [] ∧ Gr w w' := by
  have := AnyG.slices_Clone_int_zero Try.cloneN43 a c w
  rw [clN43_f] at this
  exact this.mono fun e w' ⟨v', he, ho, _, hb⟩ => ⟨v', he, Ow.of_row ho, hb⟩
set_option maxRecDepth 20000 in
set_option maxHeartbeats 2000000 in
theorem TD_zero0 (a : Addr) (c : Nat) (w : World) : Calls Try.prog 19 #[.slice (some a) 0 c] w fun e w' => e = .returned (.bool true) ∧ Gr w w' := by
  go_enter Try.func19, Try.ntmps19
  go_wp2_with fail
  refine (awake10 _).mono ?_
  rintro e w1 ⟨rfl, hg⟩
  have S1 := Lib.hid hg
  clear hg
  go_wp2_with fail
  refine (Clone43z a c _).mono ?_
  rintro e w2 ⟨v2, rfl, ho, hg⟩
  have S2 := Lib.hid (S1.out.trans hg)
  have O2 := Lib.hid ho
  clear hg ho
  go_wp2_with fail
  refine (Depths_er [] 0 v2 _ rfl O2.out.sl (dep_no (by decide))).mono ?_
  rintro e w3 ⟨rfl, hg⟩
  have S3 := Lib.hid (S2.out.trans hg)
  clear hg O2
  go_wp2_with fail
  go_ret
  exact ⟨rfl, S3.out⟩
set_option maxHeartbeats 400000 in
theorem TD_big (a : Addr) (n cap : Nat) (h : 40 < n) (w : World) : Calls Try.prog 19 #[.slice (some a) n cap] w fun e w' => e = .returned (.bool true) ∧ Gr w w' := by
  have d0 : decide ((40 : Int) < n) = true := decide_eq_true (by omega)
  go_enter Try.func19, Try.ntmps19
  go_wp2_with fail
  refine (awake10 _).mono ?_
  rintro e w1 ⟨rfl, hg⟩
  have S1 := Lib.hid hg
  clear hg
  go_wp2_with fail
  go_ret
  exact ⟨rfl, S1.out⟩
/-- v is a slice of n ints. -/
def Sq (w : World) (v : Value) (n : Nat) (zs : List Int) : Prop :=
  (v = .slice none 0 0 ∧ n = 0 ∧ zs = []) ∨ ∃ a cap, v = .slice (some a) n cap ∧ n ≤ cap ∧ zs.length = n ∧ ∀ i, i < n → w.cell? (a.add i) = some (.int .i64 (zs.getD i 0))
theorem cell_lt' {w : World} {a : Addr} {v : Value} (h : w.cell? a = some v) : a.block < w.heap.size := by
  unfold World.cell? at h
  split at h
  · rename_i e; exact (Array.getElem?_eq_some_iff.1 e).1
  · cases h
theorem spot_none {w : World} {a : Addr} {v : Value} (h : w.cell? a = some v) : a.spot = none := by
  unfold World.cell? at h
  split at h
  · split at h
    · cases h
    · rename_i e; simpa using e
  · cases h
theorem TimesyncDepths_walk (v : Value) (n : Nat) (zs : List Int) (w : World) (h : Sq w v n zs) : Calls Try.prog 19 #[v] w fun e w' => e = .returned (.bool true) ∧ Gr w w' := by
  rcases h with ⟨rfl, rfl, rfl⟩ | ⟨a, cap, rfl, hnc, hl, hc⟩
  · exact TD_nil [] 0 0 (by omega) w (Or.inl ⟨rfl, rfl, rfl⟩) rfl rfl
  by_cases h40 : 40 < n
  · exact TD_big a n cap h40 w
  by_cases h0 : 0 < n
  · have c0 := hc 0 h0
    have lb : a.block < w.heap.size := cell_lt' c0
    have hsp : a.spot = none := spot_none (a := a.add 0) c0
    obtain ⟨b, off, sp⟩ := a
    obtain rfl : sp = none := hsp
    have hc' : ∀ j, j < n → w.cell? ⟨b, off + j, none⟩ = some (.int .i64 (zs.getD j 0)) := fun j hj => by
      have := hc j hj
      rwa [Addr.add_lit] at this
    cases hd : dep zs with
    | some ds =>
      by_cases h1 : 1 < cap
      · exact TD_ok b off n cap zs ds w (by omega) h1 hl hd hc' lb
      · exact TD_ok1 b off n cap zs ds w (by omega) hnc (by omega) hl hd hc' lb
    | none =>
      by_cases h32 : 32 < n
      · exact TD_many ⟨b, off, none⟩ zs n cap h32 w (Sl_of b off n cap zs w hl hc' lb) (by omega) hl hd
      · by_cases hz : zs.getD 0 0 = -1
        · by_cases h1 : 1 < cap
          · exact TD_bad b off zs n cap h0 (by omega) h1 hz w hc' lb hl hd
          · exact TD_bad1 b off zs n cap h0 (by omega) hnc (by omega) hz w hc' lb hl hd
        · exact TD_head b off zs n cap h0 (by omega) _ rfl hz w hc' lb hl hd
  · have hz : zs = [] := List.length_eq_zero_iff.1 (by omega)
    subst hz
    obtain rfl : n = 0 := by omega
    exact TD_zero0 a cap w
end Go.Proofs.Ytpnigndobhbfnaa
