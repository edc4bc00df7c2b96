/- The walk of TimesyncSpreads, to its end. -/
import Derived.Test.YtpnigndobhbfnaaSw
import Derived.Test.YtpnigndobhbfnaaGro
import Derived.Test.YtpnigndobhbfnaaSprno
namespace Go.Proofs.Ytpnigndobhbfnaa
open Go.RowKit
set_option maxRecDepth 20000 in
set_option maxHeartbeats 8000000 in
theorem TS_ok (a1 a0 : Option Addr) (n c1 c0 : Nat) (l : List Sy) (zs : List Int) (slot later : Int) (w : World) (h1 : Sz w (.slice a1 n c1) n (Lv l)) (hl : l.length = n) (h0 : Sz w (.slice a0 n c0) n (ivs zs)) (hz : zs.length = n)
    (n2 : 2 ≤ n) (n6 : n ≤ 6) (s0 : 0 ≤ slot) (s1 : slot ≤ 100000) (l0 : 0 ≤ later) (l1 : later ≤ 100000000) (ds : List Nat) (hd : dep zs = some ds) (hs : Srt ds) (rl : List Sy) (hr : runN l zs (stps slot 1 (n - 1)) = (rl, -1, 0)) :
    Calls Try.prog 10 #[.agg #[.slice a1 n c1, .slice a0 n c0], .int .i64 slot, .int .i64 later] w fun e w' => e = .returned (.bool true) ∧ Gr w w' := by
  have hde : dpE zs = 0 := by unfold dpE; rw [hd]; rfl
  have hds : (dep zs).getD [] = ds := by rw [hd]; rfl
  have hdl : ds.length = n := by rw [(dep_node hd).2.1, hz]
  have hdb : ∀ j, j < n → ds.getD j 0 ≤ 100 := fun j hj => by have := dep_bound hd (j := j) (by rw [hz]; exact hj); omega
  have C43 := Lib.hid (cl43 h0 hz (by omega))
  have D42 := Lib.hid (dep42 hz hds hde)
  have DL := Lib.hid hdl
  have DB := Lib.hid hdb
  have h48 : (Try.prog.info? 48).map (fun i => (i.zero, i.size, i.bytes)) = some (some (.agg #[.int .i64 0, .int .i64 0, .bool false]), 3, 24) := by kernel_rfl
  obtain ⟨i0, hi, hx⟩ := Option.map_eq_some_iff.1 h48
  simp only [Prod.mk.injEq] at hx
  obtain ⟨hz0, hz1, hz2⟩ := hx
  have HI := Lib.hid hi
  have HZ0 := Lib.hid hz0
  have HZ1 := Lib.hid hz1
  have HZ2 := Lib.hid hz2
  clear h48 hi hz0 hz1 hz2
  have h45 : (Try.prog.info? 45).map (fun i => (i.zero, i.size, i.bytes)) = some (some (.agg #[.int .i64 0, .int .i64 0, .int .i64 0, .int .i64 0]), 4, 32) := by kernel_rfl
  obtain ⟨j0, hi, hx⟩ := Option.map_eq_some_iff.1 h45
  simp only [Prod.mk.injEq] at hx
  obtain ⟨hz0, hz1, hz2⟩ := hx
  have JI := Lib.hid hi
  have JZ0 := Lib.hid hz0
  have JZ1 := Lib.hid hz1
  have JZ2 := Lib.hid hz2
  clear h45 hi hz0 hz1 hz2
  have hst : (stps slot 1 (n - 1)).length = n - 1 := stps_len _ _
  have C46 := Lib.hid (cl46 h1 hl (by omega))
  have R45 := Lib.hid (run45 hl hz hst (by omega) hr)
  have hsd : decide (Srt ds) = true := decide_eq_true hs
  have hf : fits l zs ∧ runs zs l (stps slot 1 (n - 1)) 0 = (rl, -1, 0) := by
    have h := hr
    unfold runN at h
    split at h
    · rename_i hf; exact ⟨hf, h⟩
    · injection h with _ h; injection h with _ h; exact absurd h (by decide)
  have hok := runs_ok hf.1.2.2 hf.2
  have hlr : rl.length = n := by rw [hok.2.1, hl]
  have HSP : Hid (∀ t lat L s, MM (rl ++ l) slot (n + n) t lat → 0 ≤ L → lat ≤ t + L → Top (shows rl (t + L)) n s → s ≤ ((ds.getD (n - 1) 0 + ds.getD (n - 2) 0 : Nat) : Int) * (1 + gro L 100000)) := Lib.hid (by
    intro t lat L s hm h0 hL ht
    have hr2 := hf.2
    rw [← hz] at hm ht hr2 ⊢
    exact spreads_top hd hs hf.1 (by omega) hr2 hm h0 hL ht)
  have HOK : Hid (spOk rl) := Lib.hid ⟨by omega, hok.1⟩
  have HLR := Lib.hid hlr
  have HL := Lib.hid hl
  have H1 := Lib.hid h1
  clear h1 h0 hl hz hd hde hds hdl hdb hs hst hr hf hok hlr
  have q0 : decide ((n : Int) < 2) = false := decide_eq_false (by omega)
  have q1 : decide ((6 : Int) < (n : Int)) = false := decide_eq_false (by omega)
  have q3 : decide (slot < 0) = false := decide_eq_false (by omega)
  have q4 : decide ((100000 : Int) < slot) = false := decide_eq_false (by omega)
  have q5 : decide (later < 0) = false := decide_eq_false (by omega)
  have q6 : decide ((100000000 : Int) < later) = false := decide_eq_false (by omega)
  go_enter Try.func10, Try.ntmps10
  go_wp2_with fail
  have g0 : Gr w (w.alloc (Obj.cells #[.slice a1 n c1, .slice a0 n c0] 36)) := Gr.alloc (Gr.refl _) _
  have bx : Bx (w.alloc (Obj.cells #[.slice a1 n c1, .slice a0 n c0] 36)) w.heap.size [.slice a1 n c1, .slice a0 n c0] := Bx.new w _ 36
  generalize w.alloc (Obj.cells #[.slice a1 n c1, .slice a0 n c0] 36) = W0 at g0 bx ⊢
  generalize w.heap.size = xb at bx ⊢
  have S0 := Lib.hid g0
  have K0 := Lib.hid bx
  clear g0 bx
  refine (awake10 _).mono ?_
  rintro e w1 ⟨rfl, hg⟩
  have S1 := Lib.hid (S0.out.trans hg)
  have K1 := Lib.hid (K0.out.gr hg)
  clear hg
  have x0 := K1.out.c 0 _ rfl
  have x1 := K1.out.c 1 _ rfl
  go_wp2_with fail
  refine (C43.out _ S1.out).mono ?_
  rintro e w2 ⟨⟨va, rfl, oa⟩, hg⟩
  have S2 := Lib.hid (S1.out.trans hg)
  have K2 := Lib.hid (K1.out.gr hg)
  have OA := Lib.hid oa
  clear hg oa x0 x1
  have x0 := K2.out.c 0 _ rfl
  have x1 := K2.out.c 1 _ rfl
  go_wp2_with fail
  refine (D42.out va _ OA.out.sz).mono ?_
  rintro e w3 ⟨⟨vb, rfl, ob⟩, hg⟩
  have S3 := Lib.hid (S2.out.trans hg)
  have K3 := Lib.hid (K2.out.gr hg)
  obtain ⟨gd, cd, rfl, hbd⟩ : ∃ gd cd, vb = .slice (some ⟨gd, 0, none⟩) n cd ∧ Bx w3 gd (nvs ds) := by
    rcases ob with ⟨_, h, _⟩ | ⟨gd, cd, e, _, hb⟩
    · have := DL.out; omega
    · exact ⟨gd, cd, by rw [e, DL.out], hb⟩
  have BD := Lib.hid hbd
  clear hg ob OA hbd x0 x1
  have x0 := K3.out.c 0 _ rfl
  have x1 := K3.out.c 1 _ rfl
  go_wp2_with fail
  refine (Is53 gd cd n ds _ DL.out (by omega) (by omega) DB.out BD.out).mono ?_
  rintro e w4 ⟨rfl, hg⟩
  have S4 := Lib.hid (S3.out.trans hg)
  have K4 := Lib.hid (K3.out.gr hg)
  have BD4 := Lib.hid (BD.out.gr hg)
  clear hg BD x0 x1
  have x0 := K4.out.c 0 _ rfl
  have x1 := K4.out.c 1 _ rfl
  rw [hsd]
  clear hsd
  go_wp2_with fail
  go_loopg [10, 11] (n - 1) (fun g s10 s11 wr => ∃ i : Nat, 1 ≤ i ∧ i + g = n ∧ s11 = .int .i64 (i : Int) ∧ Hid (wr.ownsRow w4.heap.size 48 3 s10 (i - 1) (Lt (stps slot 1 (i - 1)))) ∧ Hid (Gr w4 wr))
  case atStart => exact ⟨1, Nat.le_refl _, by omega, rfl, Lib.hid (World.ownsRow_nil _ _ _ _), Lib.hid (Gr.refl _)⟩
  case round =>
    obtain ⟨i, hi1, hig, rfl, HO, SG⟩ := hrel
    cases gk with
    | succ g =>
      have e3 : decide ((i : Int) < (n : Int)) = true := decide_eq_true (by omega)
      have e4 : decide (i < n) = true := decide_eq_true (by omega)
      have hsn := stps_snoc (slot := slot) (i - 1) 1
      rw [show 1 + (i - 1) = i by omega, show i - 1 + 1 = i by omega] at hsn
      by_cases hp : i % 2 = 0
      · have hm : (i : Int).tmod 2 = 0 := by rw [Int.tmod_eq_emod_of_nonneg (by omega)]; omega
        rw [decide_eq_true hp] at hsn
        have HSN := Lib.hid hsn
        clear hsn
        go_wp2_with (at_builtin; refine wpList_append_own _ rfl _ _ 37 rfl w4.heap.size 48 i0 (.agg #[.int .i64 0, .int .i64 0, .bool false]) 3 24 Try.underlying37 HI.out HZ0.out HZ1.out HZ2.out rfl (by decide) _ _ _ rfl (HO.out.alloc _) ⟨wr.heap.size, 0, none⟩ 1 1 [.int .i64 (i : Int), .int .i64 slot, .bool true] rfl rfl ?c1 ?c2 ?c3 ?c4 ?c5 ?_)
        case c1 => intro j u hj; rw [Addr.add_lit, Nat.zero_add]; exact (Bx.new wr [.int .i64 (i : Int), .int .i64 slot, .bool true] 48).c j u hj
        case c2 =>
          intro u hu
          simp only [List.mem_cons, List.not_mem_nil, or_false] at hu
          rcases hu with rfl | rfl | rfl <;> rfl
        case c3 => unfold maxLen; omega
        case c4 => omega
        case c5 => exact Nat.le_trans SG.out.size (by simp)
        intro v' w5 hown hgrow _
        have HO1 : Hid (w5.ownsRow w4.heap.size 48 3 v' (i + 1 - 1) (Lt (stps slot 1 (i + 1 - 1)))) := Lib.hid (by
          rw [show i + 1 - 1 = i - 1 + 1 by omega, show i - 1 + 1 = i by omega, ← HSN.out]
          have e : Lt (stps slot 1 (i - 1) ++ [⟨(i : Int), slot, true⟩]) = Lt (stps slot 1 (i - 1)) ++ [.int .i64 (i : Int), .int .i64 slot, .bool true] := by
            unfold Lt; rw [List.flatMap_append]; rfl
          rw [e]
          exact hown)
        have SG1 : Hid (Gr w4 w5) := Lib.hid (Below.grown (SG.out.alloc _) hgrow (Nat.le_trans SG.out.size (by simp)) (fun k hk => (HO.out.lt k hk).1))
        clear hown hgrow hm HSN
        go_wp2_with fail
        go_roundg g
        case measure => omega
        case rel => exact ⟨i + 1, by omega, by omega, by go_num, HO1, SG1⟩
      · have hm : (i : Int).tmod 2 = 1 := by rw [Int.tmod_eq_emod_of_nonneg (by omega)]; omega
        rw [decide_eq_false hp] at hsn
        have HSN := Lib.hid hsn
        clear hsn
        go_wp2_with (at_builtin; refine wpList_append_own _ rfl _ _ 37 rfl w4.heap.size 48 i0 (.agg #[.int .i64 0, .int .i64 0, .bool false]) 3 24 Try.underlying37 HI.out HZ0.out HZ1.out HZ2.out rfl (by decide) _ _ _ rfl (HO.out.alloc _) ⟨wr.heap.size, 0, none⟩ 1 1 [.int .i64 (i : Int), .int .i64 slot, .bool false] rfl rfl ?c1 ?c2 ?c3 ?c4 ?c5 ?_)
        case c1 => intro j u hj; rw [Addr.add_lit, Nat.zero_add]; exact (Bx.new wr [.int .i64 (i : Int), .int .i64 slot, .bool false] 48).c j u hj
        case c2 =>
          intro u hu
          simp only [List.mem_cons, List.not_mem_nil, or_false] at hu
          rcases hu with rfl | rfl | rfl <;> rfl
        case c3 => unfold maxLen; omega
        case c4 => omega
        case c5 => exact Nat.le_trans SG.out.size (by simp)
        intro v' w5 hown hgrow _
        have HO1 : Hid (w5.ownsRow w4.heap.size 48 3 v' (i + 1 - 1) (Lt (stps slot 1 (i + 1 - 1)))) := Lib.hid (by
          rw [show i + 1 - 1 = i - 1 + 1 by omega, show i - 1 + 1 = i by omega, ← HSN.out]
          have e : Lt (stps slot 1 (i - 1) ++ [⟨(i : Int), slot, false⟩]) = Lt (stps slot 1 (i - 1)) ++ [.int .i64 (i : Int), .int .i64 slot, .bool false] := by
            unfold Lt; rw [List.flatMap_append]; rfl
          rw [e]
          exact hown)
        have SG1 : Hid (Gr w4 w5) := Lib.hid (Below.grown (SG.out.alloc _) hgrow (Nat.le_trans SG.out.size (by simp)) (fun k hk => (HO.out.lt k hk).1))
        clear hown hgrow hm HSN
        go_wp2_with fail
        go_roundg g
        case measure => omega
        case rel => exact ⟨i + 1, by omega, by omega, by go_num, HO1, SG1⟩
    | zero =>
      obtain rfl : i = n := by omega
      have e3 : decide ((i : Int) < (i : Int)) = false := decide_eq_false (by omega)
      have e4 : decide (i < i) = false := decide_eq_false (by omega)
      have K5 := Lib.hid (K4.out.gr SG.out)
      have S5 := Lib.hid (S4.out.trans SG.out)
      have HST : Hid (Sz wr u10 (i - 1) (Lt (stps slot 1 (i - 1)))) := Lib.hid (Ow.of_row HO.out).sz
      have BD5 := Lib.hid (BD4.out.gr SG.out)
      clear SG HO x0 x1 BD4
      have x0 := K5.out.c 0 _ rfl
      have x1 := K5.out.c 1 _ rfl
      go_wp2_with fail
      have HJ : Hid (∀ Z, Gr wr Z → (Z.cell? ⟨xb, 0, none⟩ = some (.slice a1 i c1) ∧ Z.cell? ⟨xb, 1, none⟩ = some (.slice a0 i c0) ∧ Hid (Gr wr Z))) := Lib.hid (fun Z G => ⟨(K5.out.gr G).c 0 _ rfl, (K5.out.gr G).c 1 _ rfl, Lib.hid G⟩)
      have gr0 := Lib.hid (Gr.refl wr).drew
      go_region_held3 (fun Z => Z.cell? ⟨xb, 0, none⟩ = some (.slice a1 i c1) ∧ Z.cell? ⟨xb, 1, none⟩ = some (.slice a0 i c0) ∧ Hid (Gr wr Z)) (first | exact HJ.out _ (by repeat (first | exact Gr.refl _ | exact Hid.out (by assumption) | apply Gr.drew)))
        (first
          | (go_at_call 46; refine (keepM _ HJ.out (C46.out _ (S5.out.trans (Hid.out (by assumption)))) (by assumption)).mono ?_; rintro e wa ⟨⟨va, rfl, oa⟩, ⟨qa0, qa1, qa⟩, ga⟩)
          | (go_at_call 43; refine (keepM _ HJ.out (C43.out _ (S5.out.trans (Hid.out (by assumption)))) (by assumption)).mono ?_; rintro e wb ⟨⟨vd, rfl, od⟩, ⟨qb0, qb1, qb⟩, gb⟩)
          | (go_at_call 45; refine (keepM _ HJ.out (R45.out va vd _ _ (oa.gr gb).ow.sz od.sz (HST.out.gr qb.out)) (by assumption)).mono ?_; rintro e w6 ⟨⟨vf, rfl, of, nf⟩, ⟨qd0, qd1, qd⟩, gd2⟩))
      have S6 := Lib.hid (S5.out.trans qd.out)
      have K6 := Lib.hid (K5.out.gr qd.out)
      have BD6 := Lib.hid (BD5.out.gr qd.out)
      have OF := Lib.hid of
      clear x0 x1 HJ gr0 oa ga qa0 qa1 qa od gb qb0 qb1 qb of gd2 qd0 qd1 qd K5 HST BD5
      clear nf
      obtain ⟨bs, os, cs, es, lbs, hcs⟩ := H1.out.cells (by omega)
      injection es with es _ es2
      subst es; subst es2
      have HF6 : Hid (Sz w6 vf i (Lv rl)) := Lib.hid (by have := OF.out.sz; rwa [HLR.out] at this)
      obtain ⟨bf, fo, cf, rfl, lbf, hcf⟩ := HF6.out.cells (by omega)
      have C46r := Lib.hid (cl46r (c := cf) hcf lbf HLR.out (by omega))
      have HCS := Lib.hid hcs
      clear OF hcf hcs H1
      have x0 := K6.out.c 0 _ rfl
      have x1 := K6.out.c 1 _ rfl
      go_wp2_with fail
      have HJ : Hid (∀ Z, Gr w6 Z → (Z.cell? ⟨xb, 0, none⟩ = some (.slice (some ⟨bs, os, none⟩) i c1) ∧ Hid (Gr w6 Z))) := Lib.hid (fun Z G => ⟨(K6.out.gr G).c 0 _ rfl, Lib.hid G⟩)
      have gr0 := Lib.hid (Gr.refl w6).drew
      go_region_held3 (fun Z => Z.cell? ⟨xb, 0, none⟩ = some (.slice (some ⟨bs, os, none⟩) i c1) ∧ Hid (Gr w6 Z)) (first | exact HJ.out _ (Below.grown (Hid.out qa) hgrow (Hid.out qa).size (fun k hk => (oa.lt k hk).1)) | exact HJ.out _ (by repeat (first | exact Gr.refl _ | exact Hid.out (by assumption) | apply Gr.drew)))
        (first
          | (go_at_call 46; refine (keepM _ HJ.out (C46r.out _ (Hid.out (by assumption))) (by assumption)).mono ?_; rintro e wa ⟨⟨va, rfl, oa⟩, ⟨qa0, qa⟩, ga⟩)
          | (refine step_append_lies _ (by rfl) _ _ _ (by rfl) w6.heap.size 45 j0 _ 4 32 Try.underlying33 JI.out JZ0.out JZ1.out JZ2.out rfl (by omega) va i (Lv rl) (by rfl) oa ⟨bs, os, none⟩ i c1 (Lv l) (by rfl) (by rw [Lv_len, HL.out]) (fun j u hj => by rw [Addr.add_lit]; exact ((S6.out.trans qa.out).cell lbs _).trans (HCS.out j u hj)) Lv_one (by omega) (by unfold maxLen; omega) (by omega) qa.out.size wa.heap.size rfl ?_; intro gg capg w7 hown hgrow hat hlt))
      have hg7 : Gr w6 w7 := Below.grown (Hid.out qa) hgrow (Hid.out qa).size (fun k hk => (oa.lt k hk).1)
      have hKL : Bx w7 gg (Lv (rl ++ l)) := by
        rw [Lv_append]
        rcases Ow.of_row hown with ⟨h, _, _⟩ | ⟨g', cap', e, _, k⟩
        · cases h
        · injection e with e _ _
          injection e with e
          injection e with e
          subst e
          exact k
      have KL := Lib.hid hKL
      have S7 := Lib.hid (S6.out.trans hg7)
      have G67 := Lib.hid hg7
      have LA : Hid ((rl ++ l).length = i + i) := Lib.hid (by rw [List.length_append, HLR.out, HL.out])
      clear x0 x1 HJ gr0 oa ga qa0 qa hown hgrow hat hlt hg7 hKL K6 C46r HCS
      go_wp2_with fail
      go_loopg [15, 16, 124] (i + i) (fun g s15 s16 s124 wy => ∃ (j : Nat) (t lat : Int), j + g = i + i ∧ s124 = .int .i64 (j : Int) ∧ s15 = .int .i64 t ∧ s16 = .int .i64 lat ∧ Hid (MM (rl ++ l) slot j t lat) ∧ Hid (Gr w7 wy))
      case atStart => exact ⟨0, -1, 0, by omega, rfl, rfl, rfl, Lib.hid (MM.start _ _), Lib.hid (Gr.refl _)⟩
      case round =>
        obtain ⟨j, t, lat, hjg, rfl, rfl, rfl, HM, SX⟩ := hrel
        cases gk with
        | succ g =>
          have e5 : decide ((j : Int) < (i : Int) + (i : Int)) = true := decide_eq_true (by omega)
          have e6 : decide (j < i + i) = true := decide_eq_true (by omega)
          have hj1 : (j : Int) < (i : Int) + (i : Int) := by omega
          have hj2 : (j : Int) < ((i + i : Nat) : Int) := by omega
          have e7 : decide ((j : Int) < ((i + i : Nat) : Int)) = true := decide_eq_true (by omega)
          have hcx := Lv_cells (KL.out.gr SX.out) (show j < (rl ++ l).length by rw [LA.out]; omega)
          obtain ⟨x, HX⟩ : ∃ x, Hid ((rl ++ l).getD j Sy0 = x) := ⟨_, Lib.hid rfl⟩
          rw [HX.out] at hcx
          obtain ⟨o, kk, s, c⟩ := x
          have y0 : wr.cell? ⟨gg, j * 4, none⟩ = some (.int .i64 o) := hcx 0 _ rfl
          have y1 : wr.cell? ⟨gg, j * 4 + 1, none⟩ = some (.int .i64 kk) := hcx 1 _ rfl
          have y2 : wr.cell? ⟨gg, j * 4 + 2, none⟩ = some (.int .i64 s) := hcx 2 _ rfl
          have y3 : wr.cell? ⟨gg, j * 4 + 3, none⟩ = some (.int .i64 c) := hcx 3 _ rfl
          have hsd := fun W => Send_any o kk slot W
          obtain ⟨er, HE⟩ : ∃ er, Hid (inE o kk slot 2120 = er) := ⟨_, Lib.hid rfl⟩
          obtain ⟨at_, HA⟩ : ∃ a, Hid (inN o kk slot 2120 = a) := ⟨_, Lib.hid rfl⟩
          rw [HE.out, HA.out] at hsd
          have HSD := Lib.hid hsd
          clear hcx hsd
          go_wp2_with fail
          refine (HSD.out _).mono ?_
          rintro e w8 ⟨rfl, hg⟩
          have S8 := Lib.hid ((SX.out.alloc (Obj.cells #[.int .i64 o, .int .i64 kk, .int .i64 s, .int .i64 c] 45)).trans hg)
          clear hg y0 y1 y2 y3
          by_cases he : er = 0
          · subst he
            by_cases ha : at_ = 0
            · subst ha
              go_wp2_with fail
              go_ret
              exact ⟨rfl, S7.out.trans S8.out⟩
            · have ea : (at_ == 0) = false := beq_eq_false_iff_ne.2 ha
              have HA0 := Lib.hid ha
              clear ha
              by_cases ht : t < 0
              · have et : decide (t < 0) = true := decide_eq_true ht
                go_wp2_with fail
                all_goals
                  go_roundg g
                  case measure => omega
                  case rel => exact ⟨j + 1, _, _, by omega, by go_num, rfl, rfl, Lib.hid (HM.out.step HX.out HE.out HA.out HA0.out (by rw [if_pos (Or.inl ht)]) (by first | rfl | omega)), S8⟩
              · have et : decide (t < 0) = false := decide_eq_false ht
                by_cases hlt : at_ < t
                · have el : decide (at_ < t) = true := decide_eq_true hlt
                  go_wp2_with fail
                  all_goals
                    go_roundg g
                    case measure => omega
                    case rel => exact ⟨j + 1, _, _, by omega, by go_num, rfl, rfl, Lib.hid (HM.out.step HX.out HE.out HA.out HA0.out (by rw [if_pos (Or.inr hlt)]) (by first | rfl | omega)), S8⟩
                · have el : decide (at_ < t) = false := decide_eq_false hlt
                  go_wp2_with fail
                  all_goals
                    go_roundg g
                    case measure => omega
                    case rel => exact ⟨j + 1, _, _, by omega, by go_num, rfl, rfl, Lib.hid (HM.out.step HX.out HE.out HA.out HA0.out (by rw [if_neg (by omega)]) (by first | rfl | omega)), S8⟩
          · have ee : (er != 0) = true := by rw [bne_iff_ne]; exact he
            clear he
            go_wp2_with fail
            go_ret
            exact ⟨rfl, S7.out.trans S8.out⟩
        | zero =>
          have e5 : decide ((j : Int) < (i : Int) + (i : Int)) = false := decide_eq_false (by omega)
          have e6 : decide (j < i + i) = false := decide_eq_false (by omega)
          have e7 : decide ((j : Int) < ((i + i : Nat) : Int)) = false := decide_eq_false (by omega)
          have hst := HM.out.st
          have hlo := HM.out.lo
          have hhi := HM.out.hi
          have hw : IntKind.i64.wrap (lat - t) = lat - t := by rw [IntKind.wrap_i64]; omega
          have ht0 : 0 ≤ t := by omega
          have htl : t ≤ lat := by omega
          have C46f := Lib.hid (cl46 HF6.out HLR.out (by omega))
          have G6 := Lib.hid (G67.out.trans SX.out)
          have SX2 := Lib.hid (S7.out.trans SX.out)
          have hjj : j = i + i := by omega
          subst hjj
          clear hst e5 e6 e7 hjg
          by_cases hL : later < lat - t
          · have eL : decide (later < lat - t) = true := decide_eq_true hL
            obtain ⟨L, hLe⟩ : ∃ L, lat - t = L := ⟨_, rfl⟩
            have hL0 : 0 ≤ L := by omega
            have hL1 : L ≤ 1099511627776 := by omega
            have hL2 : lat ≤ t + L := by omega
            rw [hLe] at hw eL hL
            go_wp2_with fail
            clear hLe eL hL hw
            have hgr := fun W => tGrowth_ok L 100000 W hL0 hL1 (by omega) (by omega)
            have gb := gro_bd (t := L) (m := 1099511627776) (k := 100000) hL0 hL1 (by omega) (by omega)
            obtain ⟨gN, HG⟩ : ∃ gN, Hid (gro L 100000 = gN) := ⟨_, Lib.hid rfl⟩
            rw [HG.out] at hgr gb
            have gb0 := gb.1
            have gb1 : gN ≤ 300000000 := by omega
            have HGR := Lib.hid hgr
            clear hgr gb
            refine (HGR.out _).mono ?_
            rintro e w9 ⟨rfl, hg⟩
            have G9 := Lib.hid (G6.out.trans hg)
            have S9 := Lib.hid (SX2.out.trans hg)
            clear hg HGR
            go_wp2_with fail
            refine (C46f.out _ G9.out).mono ?_
            rintro e w10 ⟨⟨vh, rfl, oh⟩, hg⟩
            have G10 := Lib.hid (G9.out.trans hg)
            have S10 := Lib.hid (S9.out.trans hg)
            have OH := Lib.hid oh
            have hw2 : IntKind.i64.wrap (t + L) = t + L := by rw [IntKind.wrap_i64]; omega
            clear hg oh
            by_cases htm : t + L ≤ 1099511627776
            · have hse : spE rl (t + L) = 0 := (if_pos HOK.out).trans (if_pos ⟨by omega, htm⟩)
              have hsn : spN rl (t + L) = topN (shows rl (t + L)) i := by
                have h := HLR.out
                unfold spN
                rw [if_pos ⟨HOK.out, by omega, htm⟩, h]
              have hfin := HSP.out t lat L _ HM.out hL0 hL2 (topN_top i (top_ex _ i))
              obtain ⟨sn, hsne⟩ : ∃ sn, topN (shows rl (t + L)) i = sn := ⟨_, rfl⟩
              rw [hsne] at hsn hfin
              obtain ⟨p, HP⟩ : ∃ p, Hid (ds.getD (i - 1) 0 = p) := ⟨_, Lib.hid rfl⟩
              obtain ⟨q, HQ⟩ : ∃ q, Hid (ds.getD (i - 2) 0 = q) := ⟨_, Lib.hid rfl⟩
              have b1 := DB.out (i - 1) (by omega)
              have b2 := DB.out (i - 2) (by omega)
              rw [HP.out] at b1
              rw [HQ.out] at b2
              rw [HP.out, HQ.out, HG.out, Int.natCast_add] at hfin
              have hP := Lib.hid (spr49 HLR.out hsn hse)
              have m0 : 0 ≤ ((p : Int) + (q : Int)) * (1 + gN) := Int.mul_nonneg (by omega) (by omega)
              have m1 : ((p : Int) + (q : Int)) * (1 + gN) ≤ 200 * (1 + gN) := Int.mul_le_mul_of_nonneg_right (by omega) (by omega)
              have hw3 : IntKind.i64.wrap (((p : Int) + (q : Int)) * (1 + gN)) = ((p : Int) + (q : Int)) * (1 + gN) := by rw [IntKind.wrap_i64]; omega
              have hw4 : IntKind.i64.wrap ((p : Int) + (q : Int)) = (p : Int) + (q : Int) := by rw [IntKind.wrap_i64]; omega
              have hw5 : IntKind.i64.wrap (1 + gN) = 1 + gN := by rw [IntKind.wrap_i64]; omega
              have hw6 : IntKind.i64.wrap ((i : Int) - 1) = ((i - 1 : Nat) : Int) := by rw [IntKind.wrap_i64]; omega
              have hw7 : IntKind.i64.wrap ((i : Int) - 2) = ((i - 2 : Nat) : Int) := by rw [IntKind.wrap_i64]; omega
              have hx1 : ((i - 1 : Nat) : Int) < (i : Int) := by omega
              have hx2 : ((i - 2 : Nat) : Int) < (i : Int) := by omega
              have HFIN : Hid (decide (sn ≤ ((p : Int) + (q : Int)) * (1 + gN)) = true) := Lib.hid (decide_eq_true hfin)
              clear hsne hsn hse hfin
              go_wp2_with fail
              refine (hP.out vh _ OH.out.ow.sz OH.out.roomy).mono ?_
              rintro e w11 ⟨rfl, hg⟩
              have G11 := Lib.hid (G10.out.trans hg)
              have S11 := Lib.hid (S10.out.trans hg)
              clear hg hP
              have KD := Lib.hid (BD6.out.gr G11.out)
              have z0 : w11.cell? ⟨gd, i - 1, none⟩ = some (.int .i64 (p : Int)) := by
                have := KD.out.c (i - 1) _ (nvs_at (by rw [DL.out]; omega))
                rwa [HP.out] at this
              have z1 : w11.cell? ⟨gd, i - 2, none⟩ = some (.int .i64 (q : Int)) := by
                have := KD.out.c (i - 2) _ (nvs_at (by rw [DL.out]; omega))
                rwa [HQ.out] at this
              go_wp2_with fail
              go_quiet (fail)
              have S12 := Lib.hid (S11.out.drewN nq)
              generalize w11.drewN nq = wz at S12 ⊢
              go_wp2_with fail
              go_ret
              exact ⟨by rw [HFIN.out]; rfl, S12.out⟩
            · have hse : spE rl (t + L) = 2 := (if_pos HOK.out).trans (if_neg (fun h => htm h.2))
              have hsn : spN rl (t + L) = 0 := if_neg (fun h => htm h.2.2)
              have hP := Lib.hid (spr49 HLR.out hsn hse)
              have hfin : decide ((1099511627776 : Int) < t + L) = true := decide_eq_true (by omega)
              clear hsn hse
              go_wp2_with fail
              refine (hP.out vh _ OH.out.ow.sz OH.out.roomy).mono ?_
              rintro e w11 ⟨rfl, hg⟩
              have S11 := Lib.hid (S10.out.trans hg)
              clear hg hP
              go_wp2_with fail
              go_ret
              exact ⟨rfl, S11.out⟩
          · have eL : decide (later < lat - t) = false := decide_eq_false hL
            have hL0 : 0 ≤ later := by omega
            have hL1 : later ≤ 1099511627776 := by omega
            have hL2 : lat ≤ t + later := by omega
            go_wp2_with fail
            clear eL hL hw
            have hgr := fun W => tGrowth_ok later 100000 W hL0 hL1 (by omega) (by omega)
            have gb := gro_bd (t := later) (m := 1099511627776) (k := 100000) hL0 hL1 (by omega) (by omega)
            obtain ⟨gN, HG⟩ : ∃ gN, Hid (gro later 100000 = gN) := ⟨_, Lib.hid rfl⟩
            rw [HG.out] at hgr gb
            have gb0 := gb.1
            have gb1 : gN ≤ 300000000 := by omega
            have HGR := Lib.hid hgr
            clear hgr gb
            refine (HGR.out _).mono ?_
            rintro e w9 ⟨rfl, hg⟩
            have G9 := Lib.hid (G6.out.trans hg)
            have S9 := Lib.hid (SX2.out.trans hg)
            clear hg HGR
            go_wp2_with fail
            refine (C46f.out _ G9.out).mono ?_
            rintro e w10 ⟨⟨vh, rfl, oh⟩, hg⟩
            have G10 := Lib.hid (G9.out.trans hg)
            have S10 := Lib.hid (S9.out.trans hg)
            have OH := Lib.hid oh
            have hw2 : IntKind.i64.wrap (t + later) = t + later := by rw [IntKind.wrap_i64]; omega
            clear hg oh
            by_cases htm : t + later ≤ 1099511627776
            · have hse : spE rl (t + later) = 0 := (if_pos HOK.out).trans (if_pos ⟨by omega, htm⟩)
              have hsn : spN rl (t + later) = topN (shows rl (t + later)) i := by
                have h := HLR.out
                unfold spN
                rw [if_pos ⟨HOK.out, by omega, htm⟩, h]
              have hfin := HSP.out t lat later _ HM.out hL0 hL2 (topN_top i (top_ex _ i))
              obtain ⟨sn, hsne⟩ : ∃ sn, topN (shows rl (t + later)) i = sn := ⟨_, rfl⟩
              rw [hsne] at hsn hfin
              obtain ⟨p, HP⟩ : ∃ p, Hid (ds.getD (i - 1) 0 = p) := ⟨_, Lib.hid rfl⟩
              obtain ⟨q, HQ⟩ : ∃ q, Hid (ds.getD (i - 2) 0 = q) := ⟨_, Lib.hid rfl⟩
              have b1 := DB.out (i - 1) (by omega)
              have b2 := DB.out (i - 2) (by omega)
              rw [HP.out] at b1
              rw [HQ.out] at b2
              rw [HP.out, HQ.out, HG.out, Int.natCast_add] at hfin
              have hP := Lib.hid (spr49 HLR.out hsn hse)
              have m0 : 0 ≤ ((p : Int) + (q : Int)) * (1 + gN) := Int.mul_nonneg (by omega) (by omega)
              have m1 : ((p : Int) + (q : Int)) * (1 + gN) ≤ 200 * (1 + gN) := Int.mul_le_mul_of_nonneg_right (by omega) (by omega)
              have hw3 : IntKind.i64.wrap (((p : Int) + (q : Int)) * (1 + gN)) = ((p : Int) + (q : Int)) * (1 + gN) := by rw [IntKind.wrap_i64]; omega
              have hw4 : IntKind.i64.wrap ((p : Int) + (q : Int)) = (p : Int) + (q : Int) := by rw [IntKind.wrap_i64]; omega
              have hw5 : IntKind.i64.wrap (1 + gN) = 1 + gN := by rw [IntKind.wrap_i64]; omega
              have hw6 : IntKind.i64.wrap ((i : Int) - 1) = ((i - 1 : Nat) : Int) := by rw [IntKind.wrap_i64]; omega
              have hw7 : IntKind.i64.wrap ((i : Int) - 2) = ((i - 2 : Nat) : Int) := by rw [IntKind.wrap_i64]; omega
              have hx1 : ((i - 1 : Nat) : Int) < (i : Int) := by omega
              have hx2 : ((i - 2 : Nat) : Int) < (i : Int) := by omega
              have HFIN : Hid (decide (sn ≤ ((p : Int) + (q : Int)) * (1 + gN)) = true) := Lib.hid (decide_eq_true hfin)
              clear hsne hsn hse hfin
              go_wp2_with fail
              refine (hP.out vh _ OH.out.ow.sz OH.out.roomy).mono ?_
              rintro e w11 ⟨rfl, hg⟩
              have G11 := Lib.hid (G10.out.trans hg)
              have S11 := Lib.hid (S10.out.trans hg)
              clear hg hP
              have KD := Lib.hid (BD6.out.gr G11.out)
              have z0 : w11.cell? ⟨gd, i - 1, none⟩ = some (.int .i64 (p : Int)) := by
                have := KD.out.c (i - 1) _ (nvs_at (by rw [DL.out]; omega))
                rwa [HP.out] at this
              have z1 : w11.cell? ⟨gd, i - 2, none⟩ = some (.int .i64 (q : Int)) := by
                have := KD.out.c (i - 2) _ (nvs_at (by rw [DL.out]; omega))
                rwa [HQ.out] at this
              go_wp2_with fail
              go_quiet (fail)
              have S12 := Lib.hid (S11.out.drewN nq)
              generalize w11.drewN nq = wz at S12 ⊢
              go_wp2_with fail
              go_ret
              exact ⟨by rw [HFIN.out]; rfl, S12.out⟩
            · have hse : spE rl (t + later) = 2 := (if_pos HOK.out).trans (if_neg (fun h => htm h.2))
              have hsn : spN rl (t + later) = 0 := if_neg (fun h => htm h.2.2)
              have hP := Lib.hid (spr49 HLR.out hsn hse)
              have hfin : decide ((1099511627776 : Int) < t + later) = true := decide_eq_true (by omega)
              clear hsn hse
              go_wp2_with fail
              refine (hP.out vh _ OH.out.ow.sz OH.out.roomy).mono ?_
              rintro e w11 ⟨rfl, hg⟩
              have S11 := Lib.hid (S10.out.trans hg)
              clear hg hP
              go_wp2_with fail
              go_ret
              exact ⟨rfl, S11.out⟩
end Go.Proofs.Ytpnigndobhbfnaa
