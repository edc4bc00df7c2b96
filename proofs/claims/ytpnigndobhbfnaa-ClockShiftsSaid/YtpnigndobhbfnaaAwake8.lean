/- The example that the laws of chapter 08 check first. -/
import Derived.Test.YtpnigndobhbfnaaClkE
namespace Go.Proofs.Ytpnigndobhbfnaa
open Go.RowKit
theorem vc5 : Vc 5 (-100000) := ⟨by omega, by omega, by omega, by omega⟩
theorem show5 (t v : Int) (w : World) (h0 : 0 ≤ t) (h1 : t ≤ 1099511627776) (hv : rd 5 (-100000) t = v) :
    Calls Try.prog 27 #[.agg #[.int .i64 5, .int .i64 (-100000)], .int .i64 t] w fun e w' => e = .returned (.tuple #[.int .i64 v, .int .i64 0]) ∧ Gr w w' := by
  rw [← hv]; exact show_ok 5 (-100000) t w vc5 h0 h1

/-- The table of law 08's example lies in block B. -/
structure Tb (w : World) (B : Nat) : Prop where
  t0 : w.cell? ⟨B, 0, none⟩ = some (.int .i64 0)
  t1 : w.cell? ⟨B, 1, none⟩ = some (.int .i64 5)
  t2 : w.cell? ⟨B, 2, none⟩ = some (.int .i64 1)
  t3 : w.cell? ⟨B, 3, none⟩ = some (.int .i64 5)
  t4 : w.cell? ⟨B, 4, none⟩ = some (.int .i64 10000)
  t5 : w.cell? ⟨B, 5, none⟩ = some (.int .i64 10004)
  t6 : w.cell? ⟨B, 6, none⟩ = some (.int .i64 9995)
  t7 : w.cell? ⟨B, 7, none⟩ = some (.int .i64 9999)
  lt : B < w.heap.size
theorem Tb.gr {w w' : World} {B : Nat} (k : Tb w B) (h : Gr w w') : Tb w' B :=
  ⟨(h.cell k.lt 0).trans k.t0, (h.cell k.lt 1).trans k.t1, (h.cell k.lt 2).trans k.t2, (h.cell k.lt 3).trans k.t3, (h.cell k.lt 4).trans k.t4, (h.cell k.lt 5).trans k.t5, (h.cell k.lt 6).trans k.t6, (h.cell k.lt 7).trans k.t7, Nat.lt_of_lt_of_le k.lt h.size⟩
theorem Tb.new (w : World) : Tb (w.alloc (Obj.cells #[.int .i64 0, .int .i64 5, .int .i64 1, .int .i64 5, .int .i64 10000, .int .i64 10004, .int .i64 9995, .int .i64 9999] 57)) w.heap.size :=
  ⟨by rw [World.cell?_alloc_at _ _ _ _ rfl]; rfl, by rw [World.cell?_alloc_at _ _ _ _ rfl]; rfl, by rw [World.cell?_alloc_at _ _ _ _ rfl]; rfl, by rw [World.cell?_alloc_at _ _ _ _ rfl]; rfl, by rw [World.cell?_alloc_at _ _ _ _ rfl]; rfl, by rw [World.cell?_alloc_at _ _ _ _ rfl]; rfl, by rw [World.cell?_alloc_at _ _ _ _ rfl]; rfl, by rw [World.cell?_alloc_at _ _ _ _ rfl]; rfl, by simp⟩

set_option maxHeartbeats 1000000 in
/-- The example that law 08 checks first. -/
theorem awake08 (w : World) : Calls Try.prog 26 #[] w fun e w' => e = .returned (.bool true) ∧ Gr w w' := by
  go_enter Try.func26, Try.ntmps26
  go_wp2_with fail
  have g0 : Gr w ((w.alloc (Obj.cells #[.int .i64 5, .int .i64 (-100000)] 23)).alloc (Obj.cells #[.int .i64 0, .int .i64 5, .int .i64 1, .int .i64 5, .int .i64 10000, .int .i64 10004, .int .i64 9995, .int .i64 9999] 57)) := ((Gr.refl _).alloc _).alloc _
  have k0 : Ck ((w.alloc (Obj.cells #[.int .i64 5, .int .i64 (-100000)] 23)).alloc (Obj.cells #[.int .i64 0, .int .i64 5, .int .i64 1, .int .i64 5, .int .i64 10000, .int .i64 10004, .int .i64 9995, .int .i64 9999] 57)) w.heap.size 5 (-100000) := (Ck.new w 5 (-100000) 23).gr ((Gr.refl _).alloc _)
  have b0 : Tb ((w.alloc (Obj.cells #[.int .i64 5, .int .i64 (-100000)] 23)).alloc (Obj.cells #[.int .i64 0, .int .i64 5, .int .i64 1, .int .i64 5, .int .i64 10000, .int .i64 10004, .int .i64 9995, .int .i64 9999] 57)) (w.heap.size + 1) := by
    have := Tb.new (w.alloc (Obj.cells #[.int .i64 5, .int .i64 (-100000)] 23))
    rwa [World.size_alloc] at this
  generalize (w.alloc (Obj.cells #[.int .i64 5, .int .i64 (-100000)] 23)).alloc (Obj.cells #[.int .i64 0, .int .i64 5, .int .i64 1, .int .i64 5, .int .i64 10000, .int .i64 10004, .int .i64 9995, .int .i64 9999] 57) = W at g0 k0 b0 ⊢
  have S0 := Lib.hid g0
  have K0 := Lib.hid k0
  have B0 := Lib.hid b0
  clear g0 k0 b0
  go_loopw [3, 4, 5, 15] (fun _ _ _ s15 wr => ∃ k : Nat, k ≤ 4 ∧ s15 = .int .i64 k ∧ Gr w wr ∧ Ck wr w.heap.size 5 (-100000) ∧ Tb wr (w.heap.size + 1)) (fun _ _ _ s15 _ => 4 - (intOf s15).toNat)
  case atStart => exact ⟨0, by omega, rfl, S0.out, K0.out, B0.out⟩
  case round =>
    obtain ⟨k, hk, rfl, hS, hK, hB⟩ := hrel
    have S1 := Lib.hid hS
    have K1 := Lib.hid hK
    have B1 := Lib.hid hB
    clear hS hK hB S0 K0 B0
    have c0 := K1.out.c0
    have c1 := K1.out.c1
    have l0 := K1.out.lt
    have l1 := B1.out.lt
    have e4 : k = 0 ∨ k = 1 ∨ k = 2 ∨ k = 3 ∨ k = 4 := by omega
    rcases e4 with rfl | rfl | rfl | rfl | rfl
    · have m0 := B1.out.t0
      have m1 := B1.out.t1
      go_wp2_with fail
      clear m0 m1 c0 c1
      refine (show5 0 5 _ (by omega) (by omega) (by unfold rd; omega)).mono ?_
      rintro e w2 ⟨rfl, hg⟩
      have hg2 := (Gr.alloc (Gr.refl wr) _).trans hg
      have S2 := Lib.hid (S1.out.trans hg2)
      have K2 := Lib.hid (K1.out.gr hg2)
      have B2 := Lib.hid (B1.out.gr hg2)
      have n1 : w2.cell? ⟨wr.heap.size, 1, none⟩ = some (.int .i64 5) := by
        rw [hg.cell (by simp) 1, World.cell?_alloc_at _ _ _ _ rfl]; rfl
      clear hg hg2
      go_wp2_with fail
      clear n1
      go_roundw
      case rel => exact ⟨1, by omega, rfl, S2.out, K2.out, B2.out⟩
      case measure => simp [intOf]
    · have m0 := B1.out.t2
      have m1 := B1.out.t3
      go_wp2_with fail
      clear m0 m1 c0 c1
      refine (show5 1 5 _ (by omega) (by omega) (by unfold rd; omega)).mono ?_
      rintro e w2 ⟨rfl, hg⟩
      have hg2 := (Gr.alloc (Gr.refl wr) _).trans hg
      have S2 := Lib.hid (S1.out.trans hg2)
      have K2 := Lib.hid (K1.out.gr hg2)
      have B2 := Lib.hid (B1.out.gr hg2)
      have n1 : w2.cell? ⟨wr.heap.size, 1, none⟩ = some (.int .i64 5) := by
        rw [hg.cell (by simp) 1, World.cell?_alloc_at _ _ _ _ rfl]; rfl
      clear hg hg2
      go_wp2_with fail
      clear n1
      go_roundw
      case rel => exact ⟨2, by omega, rfl, S2.out, K2.out, B2.out⟩
      case measure => simp [intOf]
    · have m0 := B1.out.t4
      have m1 := B1.out.t5
      go_wp2_with fail
      clear m0 m1 c0 c1
      refine (show5 10000 10004 _ (by omega) (by omega) (by unfold rd; omega)).mono ?_
      rintro e w2 ⟨rfl, hg⟩
      have hg2 := (Gr.alloc (Gr.refl wr) _).trans hg
      have S2 := Lib.hid (S1.out.trans hg2)
      have K2 := Lib.hid (K1.out.gr hg2)
      have B2 := Lib.hid (B1.out.gr hg2)
      have n1 : w2.cell? ⟨wr.heap.size, 1, none⟩ = some (.int .i64 10004) := by
        rw [hg.cell (by simp) 1, World.cell?_alloc_at _ _ _ _ rfl]; rfl
      clear hg hg2
      go_wp2_with fail
      clear n1
      go_roundw
      case rel => exact ⟨3, by omega, rfl, S2.out, K2.out, B2.out⟩
      case measure => simp [intOf]
    · have m0 := B1.out.t6
      have m1 := B1.out.t7
      go_wp2_with fail
      clear m0 m1 c0 c1
      refine (show5 9995 9999 _ (by omega) (by omega) (by unfold rd; omega)).mono ?_
      rintro e w2 ⟨rfl, hg⟩
      have hg2 := (Gr.alloc (Gr.refl wr) _).trans hg
      have S2 := Lib.hid (S1.out.trans hg2)
      have K2 := Lib.hid (K1.out.gr hg2)
      have B2 := Lib.hid (B1.out.gr hg2)
      have n1 : w2.cell? ⟨wr.heap.size, 1, none⟩ = some (.int .i64 9999) := by
        rw [hg.cell (by simp) 1, World.cell?_alloc_at _ _ _ _ rfl]; rfl
      clear hg hg2
      go_wp2_with fail
      clear n1
      go_roundw
      case rel => exact ⟨4, by omega, rfl, S2.out, K2.out, B2.out⟩
      case measure => simp [intOf]
    · go_wp2_with fail
      clear c0 c1
      have hx : 1 * 10000 ≤ rd 5 (-100000) 1099511627776 := by unfold rd; omega
      have hr : rch 5 (-100000) (1 * 10000) = 9996 := rch_of (by omega) (by omega) (by unfold rd; omega) (fun t t0 t1 => by
        have := rd_mono 5 (d := -100000) (by omega) (by omega) (show t ≤ 9995 by omega)
        have : rd 5 (-100000) 9995 = 9999 := by unfold rd; omega
        omega)
      have hb := fun W => Begin_ok 5 (-100000) 1 W vc5 (by omega) (by omega) hx
      rw [hr] at hb
      have HB := Lib.hid hb
      clear hb hr hx
      refine (HB.out _).mono ?_
      rintro e w2 ⟨rfl, hg⟩
      have S2 := Lib.hid (S1.out.trans hg)
      clear hg
      go_wp2_with fail
      go_ret
      exact ⟨rfl, S2.out⟩
end Go.Proofs.Ytpnigndobhbfnaa
