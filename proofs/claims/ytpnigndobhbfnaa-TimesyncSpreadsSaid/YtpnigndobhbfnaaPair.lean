/- What pair.hears and pair.isAcked return. -/
import Derived.Test.YtpnigndobhbfnaaRn
namespace Go.Proofs.Ytpnigndobhbfnaa
open Go.RowKit
set_option maxHeartbeats 400000 in
theorem pHear_er (o k s c po pk n t q : Int) (hm : inE po pk n 2120 = q) (ht : inN po pk n 2120 = t) (hne : q ≠ 0) (w : World) :
    Calls Try.prog 100 #[.agg #[.int .i64 o, .int .i64 k, .int .i64 s, .int .i64 c, .int .i64 po, .int .i64 pk, .int .i64 n]] w fun e w' => e = .returned (.tuple #[.agg #[.int .i64 0, .int .i64 0, .int .i64 0, .int .i64 0], .int .i64 q]) ∧ Gr w w' := by
  have hj := Send_any po pk n
  rw [hm, ht] at hj
  have HJ := Lib.hid hj
  clear hj
  have e1 : (q != 0) = true := by rw [bne_iff_ne]; exact hne
  clear hm ht
  go_enter Try.func100, Try.ntmps100
  go_wp2_with fail
  have g0 : Gr w (((w).alloc (Obj.cells #[.int .i64 o, .int .i64 k, .int .i64 s, .int .i64 c, .int .i64 po, .int .i64 pk, .int .i64 n] 99)).alloc (Obj.cells #[.int .i64 0, .int .i64 0, .int .i64 0, .int .i64 0] 45)) := Gr.alloc (Gr.alloc (Gr.refl w) _) _
  have bx : Bx (((w).alloc (Obj.cells #[.int .i64 o, .int .i64 k, .int .i64 s, .int .i64 c, .int .i64 po, .int .i64 pk, .int .i64 n] 99)).alloc (Obj.cells #[.int .i64 0, .int .i64 0, .int .i64 0, .int .i64 0] 45)) (w.heap.size) [.int .i64 o, .int .i64 k, .int .i64 s, .int .i64 c, .int .i64 po, .int .i64 pk, .int .i64 n] := Bx.gr (Bx.at_ (Bx.new (w) [.int .i64 o, .int .i64 k, .int .i64 s, .int .i64 c, .int .i64 po, .int .i64 pk, .int .i64 n] 99) (by simp)) (Gr.alloc (Gr.refl _) _)
  have br : Bx (((w).alloc (Obj.cells #[.int .i64 o, .int .i64 k, .int .i64 s, .int .i64 c, .int .i64 po, .int .i64 pk, .int .i64 n] 99)).alloc (Obj.cells #[.int .i64 0, .int .i64 0, .int .i64 0, .int .i64 0] 45)) (w.heap.size + 1) [.int .i64 0, .int .i64 0, .int .i64 0, .int .i64 0] := Bx.gr (Bx.at_ (Bx.new ((w).alloc (Obj.cells #[.int .i64 o, .int .i64 k, .int .i64 s, .int .i64 c, .int .i64 po, .int .i64 pk, .int .i64 n] 99)) [.int .i64 0, .int .i64 0, .int .i64 0, .int .i64 0] 45) (by simp)) (Gr.refl _)
  generalize ((w).alloc (Obj.cells #[.int .i64 o, .int .i64 k, .int .i64 s, .int .i64 c, .int .i64 po, .int .i64 pk, .int .i64 n] 99)).alloc (Obj.cells #[.int .i64 0, .int .i64 0, .int .i64 0, .int .i64 0] 45) = W at g0 bx br ⊢
  have S0 := Lib.hid g0
  have Kx0 := Lib.hid bx
  have Kr0 := Lib.hid br
  clear g0 bx br
  refine (HJ.out _).mono ?_
  rintro e w1 ⟨rfl, hg⟩
  have S1 := Lib.hid (S0.out.trans hg)
  have Kx1 := Lib.hid (Kx0.out.gr hg)
  have Kr1 := Lib.hid (Kr0.out.gr hg)
  clear hg
  have cx0 := Kx1.out.c 0 _ rfl
  have fx0 := Kx1.out.f 0 (by simp)
  have cx1 := Kx1.out.c 1 _ rfl
  have fx1 := Kx1.out.f 1 (by simp)
  have cx2 := Kx1.out.c 2 _ rfl
  have fx2 := Kx1.out.f 2 (by simp)
  have cx3 := Kx1.out.c 3 _ rfl
  have fx3 := Kx1.out.f 3 (by simp)
  have cx4 := Kx1.out.c 4 _ rfl
  have fx4 := Kx1.out.f 4 (by simp)
  have cx5 := Kx1.out.c 5 _ rfl
  have fx5 := Kx1.out.f 5 (by simp)
  have cx6 := Kx1.out.c 6 _ rfl
  have fx6 := Kx1.out.f 6 (by simp)
  have lx := Kx1.out.lt
  have cr0 := Kr1.out.c 0 _ rfl
  have fr0 := Kr1.out.f 0 (by simp)
  have cr1 := Kr1.out.c 1 _ rfl
  have fr1 := Kr1.out.f 1 (by simp)
  have cr2 := Kr1.out.c 2 _ rfl
  have fr2 := Kr1.out.f 2 (by simp)
  have cr3 := Kr1.out.c 3 _ rfl
  have fr3 := Kr1.out.f 3 (by simp)
  have lr := Kr1.out.lt
  go_wp2_with fail
  all_goals (try clear cx0 fx0 cx1 fx1 cx2 fx2 cx3 fx3 cx4 fx4 cx5 fx5 cx6 fx6 lx cr0 fr0 cr1 fr1 cr2 fr2 cr3 fr3 lr)
  have g0 : Gr w (((((w1).setCell ⟨w.heap.size + 1, 0, none⟩ (.int .i64 0)).setCell ⟨w.heap.size + 1, 1, none⟩ (.int .i64 0)).setCell ⟨w.heap.size + 1, 2, none⟩ (.int .i64 0)).setCell ⟨w.heap.size + 1, 3, none⟩ (.int .i64 0)) := (Gr.set ((Gr.set ((Gr.set ((Gr.set (S1.out) (p := ⟨w.heap.size + 1, 0, none⟩) (by simp) _)) (p := ⟨w.heap.size + 1, 1, none⟩) (by simp) _)) (p := ⟨w.heap.size + 1, 2, none⟩) (by simp) _)) (p := ⟨w.heap.size + 1, 3, none⟩) (by simp) _)
  have b0 : Bx (((((w1).setCell ⟨w.heap.size + 1, 0, none⟩ (.int .i64 0)).setCell ⟨w.heap.size + 1, 1, none⟩ (.int .i64 0)).setCell ⟨w.heap.size + 1, 2, none⟩ (.int .i64 0)).setCell ⟨w.heap.size + 1, 3, none⟩ (.int .i64 0)) (w.heap.size + 1) [.int .i64 0, .int .i64 0, .int .i64 0, .int .i64 0] := (Kr1.out.set4 (.int .i64 0) (.int .i64 0) (.int .i64 0) (.int .i64 0))
  generalize ((((w1).setCell ⟨w.heap.size + 1, 0, none⟩ (.int .i64 0)).setCell ⟨w.heap.size + 1, 1, none⟩ (.int .i64 0)).setCell ⟨w.heap.size + 1, 2, none⟩ (.int .i64 0)).setCell ⟨w.heap.size + 1, 3, none⟩ (.int .i64 0) = wz at g0 b0 ⊢
  have cr0 := b0.c 0 _ rfl
  have cr1 := b0.c 1 _ rfl
  have cr2 := b0.c 2 _ rfl
  have cr3 := b0.c 3 _ rfl
  refine bodyPost_ret (v := .tuple #[.agg #[.int .i64 0, .int .i64 0, .int .i64 0, .int .i64 0], .int .i64 q]) (by simp [results, Try.results100, go_sem, cr0, cr1, cr2, cr3]) rfl ⟨rfl, g0⟩


set_option maxHeartbeats 400000 in
theorem pHear_ok (o k s c po pk n t : Int) (hm : inE po pk n 2120 = 0) (ht : inN po pk n 2120 = t) (w : World) :
    Calls Try.prog 100 #[.agg #[.int .i64 o, .int .i64 k, .int .i64 s, .int .i64 c, .int .i64 po, .int .i64 pk, .int .i64 n]] w fun e w' => e = .returned (.tuple #[(.agg #[.int .i64 (he ⟨o, k, s, c⟩ n t).1.o, .int .i64 (he ⟨o, k, s, c⟩ n t).1.k, .int .i64 (he ⟨o, k, s, c⟩ n t).1.s, .int .i64 (he ⟨o, k, s, c⟩ n t).1.c]), .int .i64 (he ⟨o, k, s, c⟩ n t).2]) ∧ Gr w w' := by
  have hj := Send_any po pk n
  rw [hm, ht] at hj
  have HJ := Lib.hid hj
  clear hj
  clear hm ht
  go_enter Try.func100, Try.ntmps100
  go_wp2_with fail
  have g0 : Gr w (((w).alloc (Obj.cells #[.int .i64 o, .int .i64 k, .int .i64 s, .int .i64 c, .int .i64 po, .int .i64 pk, .int .i64 n] 99)).alloc (Obj.cells #[.int .i64 0, .int .i64 0, .int .i64 0, .int .i64 0] 45)) := Gr.alloc (Gr.alloc (Gr.refl w) _) _
  have bx : Bx (((w).alloc (Obj.cells #[.int .i64 o, .int .i64 k, .int .i64 s, .int .i64 c, .int .i64 po, .int .i64 pk, .int .i64 n] 99)).alloc (Obj.cells #[.int .i64 0, .int .i64 0, .int .i64 0, .int .i64 0] 45)) (w.heap.size) [.int .i64 o, .int .i64 k, .int .i64 s, .int .i64 c, .int .i64 po, .int .i64 pk, .int .i64 n] := Bx.gr (Bx.at_ (Bx.new (w) [.int .i64 o, .int .i64 k, .int .i64 s, .int .i64 c, .int .i64 po, .int .i64 pk, .int .i64 n] 99) (by simp)) (Gr.alloc (Gr.refl _) _)
  have br : Bx (((w).alloc (Obj.cells #[.int .i64 o, .int .i64 k, .int .i64 s, .int .i64 c, .int .i64 po, .int .i64 pk, .int .i64 n] 99)).alloc (Obj.cells #[.int .i64 0, .int .i64 0, .int .i64 0, .int .i64 0] 45)) (w.heap.size + 1) [.int .i64 0, .int .i64 0, .int .i64 0, .int .i64 0] := Bx.gr (Bx.at_ (Bx.new ((w).alloc (Obj.cells #[.int .i64 o, .int .i64 k, .int .i64 s, .int .i64 c, .int .i64 po, .int .i64 pk, .int .i64 n] 99)) [.int .i64 0, .int .i64 0, .int .i64 0, .int .i64 0] 45) (by simp)) (Gr.refl _)
  generalize ((w).alloc (Obj.cells #[.int .i64 o, .int .i64 k, .int .i64 s, .int .i64 c, .int .i64 po, .int .i64 pk, .int .i64 n] 99)).alloc (Obj.cells #[.int .i64 0, .int .i64 0, .int .i64 0, .int .i64 0] 45) = W at g0 bx br ⊢
  have S0 := Lib.hid g0
  have Kx0 := Lib.hid bx
  have Kr0 := Lib.hid br
  clear g0 bx br
  refine (HJ.out _).mono ?_
  rintro e w1 ⟨rfl, hg⟩
  have S1 := Lib.hid (S0.out.trans hg)
  have Kx1 := Lib.hid (Kx0.out.gr hg)
  have Kr1 := Lib.hid (Kr0.out.gr hg)
  clear hg
  have cx0 := Kx1.out.c 0 _ rfl
  have cx1 := Kx1.out.c 1 _ rfl
  have cx2 := Kx1.out.c 2 _ rfl
  have cx3 := Kx1.out.c 3 _ rfl
  have cx4 := Kx1.out.c 4 _ rfl
  have cx5 := Kx1.out.c 5 _ rfl
  have cx6 := Kx1.out.c 6 _ rfl
  have lx := Kx1.out.lt
  have cr0 := Kr1.out.c 0 _ rfl
  have cr1 := Kr1.out.c 1 _ rfl
  have cr2 := Kr1.out.c 2 _ rfl
  have cr3 := Kr1.out.c 3 _ rfl
  have lr := Kr1.out.lt
  go_wp2_with fail
  all_goals (try clear cx0 cx1 cx2 cx3 cx4 cx5 cx6 lx cr0 cr1 cr2 cr3 lr)
  refine (Hear_any o k s c n t _).mono ?_
  rintro e w2 ⟨rfl, hg⟩
  have S2 := Lib.hid (S1.out.trans hg)
  have Kx2 := Lib.hid (Kx1.out.gr hg)
  have Kr2 := Lib.hid (Kr1.out.gr hg)
  clear hg
  have cx0 := Kx2.out.c 0 _ rfl
  have fx0 := Kx2.out.f 0 (by simp)
  have cx1 := Kx2.out.c 1 _ rfl
  have fx1 := Kx2.out.f 1 (by simp)
  have cx2 := Kx2.out.c 2 _ rfl
  have fx2 := Kx2.out.f 2 (by simp)
  have cx3 := Kx2.out.c 3 _ rfl
  have fx3 := Kx2.out.f 3 (by simp)
  have cx4 := Kx2.out.c 4 _ rfl
  have fx4 := Kx2.out.f 4 (by simp)
  have cx5 := Kx2.out.c 5 _ rfl
  have fx5 := Kx2.out.f 5 (by simp)
  have cx6 := Kx2.out.c 6 _ rfl
  have fx6 := Kx2.out.f 6 (by simp)
  have lx := Kx2.out.lt
  have cr0 := Kr2.out.c 0 _ rfl
  have fr0 := Kr2.out.f 0 (by simp)
  have cr1 := Kr2.out.c 1 _ rfl
  have fr1 := Kr2.out.f 1 (by simp)
  have cr2 := Kr2.out.c 2 _ rfl
  have fr2 := Kr2.out.f 2 (by simp)
  have cr3 := Kr2.out.c 3 _ rfl
  have fr3 := Kr2.out.f 3 (by simp)
  have lr := Kr2.out.lt
  go_wp2_with fail
  have g0 : Gr w (((((w2).setCell ⟨w.heap.size + 1, 0, none⟩ (.int .i64 ((he ⟨o, k, s, c⟩ n t).1.o))).setCell ⟨w.heap.size + 1, 1, none⟩ (.int .i64 ((he ⟨o, k, s, c⟩ n t).1.k))).setCell ⟨w.heap.size + 1, 2, none⟩ (.int .i64 ((he ⟨o, k, s, c⟩ n t).1.s))).setCell ⟨w.heap.size + 1, 3, none⟩ (.int .i64 ((he ⟨o, k, s, c⟩ n t).1.c))) := (Gr.set ((Gr.set ((Gr.set ((Gr.set (S2.out) (p := ⟨w.heap.size + 1, 0, none⟩) (by simp) _)) (p := ⟨w.heap.size + 1, 1, none⟩) (by simp) _)) (p := ⟨w.heap.size + 1, 2, none⟩) (by simp) _)) (p := ⟨w.heap.size + 1, 3, none⟩) (by simp) _)
  have b0 : Bx (((((w2).setCell ⟨w.heap.size + 1, 0, none⟩ (.int .i64 ((he ⟨o, k, s, c⟩ n t).1.o))).setCell ⟨w.heap.size + 1, 1, none⟩ (.int .i64 ((he ⟨o, k, s, c⟩ n t).1.k))).setCell ⟨w.heap.size + 1, 2, none⟩ (.int .i64 ((he ⟨o, k, s, c⟩ n t).1.s))).setCell ⟨w.heap.size + 1, 3, none⟩ (.int .i64 ((he ⟨o, k, s, c⟩ n t).1.c))) (w.heap.size + 1) [.int .i64 ((he ⟨o, k, s, c⟩ n t).1.o), .int .i64 ((he ⟨o, k, s, c⟩ n t).1.k), .int .i64 ((he ⟨o, k, s, c⟩ n t).1.s), .int .i64 ((he ⟨o, k, s, c⟩ n t).1.c)] := (Kr2.out.set4 (.int .i64 ((he ⟨o, k, s, c⟩ n t).1.o)) (.int .i64 ((he ⟨o, k, s, c⟩ n t).1.k)) (.int .i64 ((he ⟨o, k, s, c⟩ n t).1.s)) (.int .i64 ((he ⟨o, k, s, c⟩ n t).1.c)))
  generalize ((((w2).setCell ⟨w.heap.size + 1, 0, none⟩ (.int .i64 ((he ⟨o, k, s, c⟩ n t).1.o))).setCell ⟨w.heap.size + 1, 1, none⟩ (.int .i64 ((he ⟨o, k, s, c⟩ n t).1.k))).setCell ⟨w.heap.size + 1, 2, none⟩ (.int .i64 ((he ⟨o, k, s, c⟩ n t).1.s))).setCell ⟨w.heap.size + 1, 3, none⟩ (.int .i64 ((he ⟨o, k, s, c⟩ n t).1.c)) = wz at g0 b0 ⊢
  have cr0 := b0.c 0 _ rfl
  have cr1 := b0.c 1 _ rfl
  have cr2 := b0.c 2 _ rfl
  have cr3 := b0.c 3 _ rfl
  refine bodyPost_ret (v := .tuple #[.agg #[.int .i64 ((he ⟨o, k, s, c⟩ n t).1.o), .int .i64 ((he ⟨o, k, s, c⟩ n t).1.k), .int .i64 ((he ⟨o, k, s, c⟩ n t).1.s), .int .i64 ((he ⟨o, k, s, c⟩ n t).1.c)], .int .i64 ((he ⟨o, k, s, c⟩ n t).2)]) (by simp [results, Try.results100, go_sem, cr0, cr1, cr2, cr3]) rfl ⟨rfl, g0⟩


set_option maxHeartbeats 400000 in
theorem pAck_er (o k s c po pk n t q : Int) (hm : inE o k n 2120 = q) (ht : inN o k n 2120 = t) (hne : q ≠ 0) (w : World) :
    Calls Try.prog 101 #[.agg #[.int .i64 o, .int .i64 k, .int .i64 s, .int .i64 c, .int .i64 po, .int .i64 pk, .int .i64 n]] w fun e w' => e = .returned (.tuple #[.agg #[.int .i64 0, .int .i64 0, .int .i64 0, .int .i64 0], .int .i64 q]) ∧ Gr w w' := by
  have hj := Send_any o k n
  rw [hm, ht] at hj
  have HJ := Lib.hid hj
  clear hj
  have e1 : (q != 0) = true := by rw [bne_iff_ne]; exact hne
  clear hm ht
  go_enter Try.func101, Try.ntmps101
  go_wp2_with fail
  have g0 : Gr w (((w).alloc (Obj.cells #[.int .i64 o, .int .i64 k, .int .i64 s, .int .i64 c, .int .i64 po, .int .i64 pk, .int .i64 n] 99)).alloc (Obj.cells #[.int .i64 0, .int .i64 0, .int .i64 0, .int .i64 0] 45)) := Gr.alloc (Gr.alloc (Gr.refl w) _) _
  have bx : Bx (((w).alloc (Obj.cells #[.int .i64 o, .int .i64 k, .int .i64 s, .int .i64 c, .int .i64 po, .int .i64 pk, .int .i64 n] 99)).alloc (Obj.cells #[.int .i64 0, .int .i64 0, .int .i64 0, .int .i64 0] 45)) (w.heap.size) [.int .i64 o, .int .i64 k, .int .i64 s, .int .i64 c, .int .i64 po, .int .i64 pk, .int .i64 n] := Bx.gr (Bx.at_ (Bx.new (w) [.int .i64 o, .int .i64 k, .int .i64 s, .int .i64 c, .int .i64 po, .int .i64 pk, .int .i64 n] 99) (by simp)) (Gr.alloc (Gr.refl _) _)
  have br : Bx (((w).alloc (Obj.cells #[.int .i64 o, .int .i64 k, .int .i64 s, .int .i64 c, .int .i64 po, .int .i64 pk, .int .i64 n] 99)).alloc (Obj.cells #[.int .i64 0, .int .i64 0, .int .i64 0, .int .i64 0] 45)) (w.heap.size + 1) [.int .i64 0, .int .i64 0, .int .i64 0, .int .i64 0] := Bx.gr (Bx.at_ (Bx.new ((w).alloc (Obj.cells #[.int .i64 o, .int .i64 k, .int .i64 s, .int .i64 c, .int .i64 po, .int .i64 pk, .int .i64 n] 99)) [.int .i64 0, .int .i64 0, .int .i64 0, .int .i64 0] 45) (by simp)) (Gr.refl _)
  generalize ((w).alloc (Obj.cells #[.int .i64 o, .int .i64 k, .int .i64 s, .int .i64 c, .int .i64 po, .int .i64 pk, .int .i64 n] 99)).alloc (Obj.cells #[.int .i64 0, .int .i64 0, .int .i64 0, .int .i64 0] 45) = W at g0 bx br ⊢
  have S0 := Lib.hid g0
  have Kx0 := Lib.hid bx
  have Kr0 := Lib.hid br
  clear g0 bx br
  refine (HJ.out _).mono ?_
  rintro e w1 ⟨rfl, hg⟩
  have S1 := Lib.hid (S0.out.trans hg)
  have Kx1 := Lib.hid (Kx0.out.gr hg)
  have Kr1 := Lib.hid (Kr0.out.gr hg)
  clear hg
  have cx0 := Kx1.out.c 0 _ rfl
  have fx0 := Kx1.out.f 0 (by simp)
  have cx1 := Kx1.out.c 1 _ rfl
  have fx1 := Kx1.out.f 1 (by simp)
  have cx2 := Kx1.out.c 2 _ rfl
  have fx2 := Kx1.out.f 2 (by simp)
  have cx3 := Kx1.out.c 3 _ rfl
  have fx3 := Kx1.out.f 3 (by simp)
  have cx4 := Kx1.out.c 4 _ rfl
  have fx4 := Kx1.out.f 4 (by simp)
  have cx5 := Kx1.out.c 5 _ rfl
  have fx5 := Kx1.out.f 5 (by simp)
  have cx6 := Kx1.out.c 6 _ rfl
  have fx6 := Kx1.out.f 6 (by simp)
  have lx := Kx1.out.lt
  have cr0 := Kr1.out.c 0 _ rfl
  have fr0 := Kr1.out.f 0 (by simp)
  have cr1 := Kr1.out.c 1 _ rfl
  have fr1 := Kr1.out.f 1 (by simp)
  have cr2 := Kr1.out.c 2 _ rfl
  have fr2 := Kr1.out.f 2 (by simp)
  have cr3 := Kr1.out.c 3 _ rfl
  have fr3 := Kr1.out.f 3 (by simp)
  have lr := Kr1.out.lt
  go_wp2_with fail
  all_goals (try clear cx0 fx0 cx1 fx1 cx2 fx2 cx3 fx3 cx4 fx4 cx5 fx5 cx6 fx6 lx cr0 fr0 cr1 fr1 cr2 fr2 cr3 fr3 lr)
  have g0 : Gr w (((((w1).setCell ⟨w.heap.size + 1, 0, none⟩ (.int .i64 0)).setCell ⟨w.heap.size + 1, 1, none⟩ (.int .i64 0)).setCell ⟨w.heap.size + 1, 2, none⟩ (.int .i64 0)).setCell ⟨w.heap.size + 1, 3, none⟩ (.int .i64 0)) := (Gr.set ((Gr.set ((Gr.set ((Gr.set (S1.out) (p := ⟨w.heap.size + 1, 0, none⟩) (by simp) _)) (p := ⟨w.heap.size + 1, 1, none⟩) (by simp) _)) (p := ⟨w.heap.size + 1, 2, none⟩) (by simp) _)) (p := ⟨w.heap.size + 1, 3, none⟩) (by simp) _)
  have b0 : Bx (((((w1).setCell ⟨w.heap.size + 1, 0, none⟩ (.int .i64 0)).setCell ⟨w.heap.size + 1, 1, none⟩ (.int .i64 0)).setCell ⟨w.heap.size + 1, 2, none⟩ (.int .i64 0)).setCell ⟨w.heap.size + 1, 3, none⟩ (.int .i64 0)) (w.heap.size + 1) [.int .i64 0, .int .i64 0, .int .i64 0, .int .i64 0] := (Kr1.out.set4 (.int .i64 0) (.int .i64 0) (.int .i64 0) (.int .i64 0))
  generalize ((((w1).setCell ⟨w.heap.size + 1, 0, none⟩ (.int .i64 0)).setCell ⟨w.heap.size + 1, 1, none⟩ (.int .i64 0)).setCell ⟨w.heap.size + 1, 2, none⟩ (.int .i64 0)).setCell ⟨w.heap.size + 1, 3, none⟩ (.int .i64 0) = wz at g0 b0 ⊢
  have cr0 := b0.c 0 _ rfl
  have cr1 := b0.c 1 _ rfl
  have cr2 := b0.c 2 _ rfl
  have cr3 := b0.c 3 _ rfl
  refine bodyPost_ret (v := .tuple #[.agg #[.int .i64 0, .int .i64 0, .int .i64 0, .int .i64 0], .int .i64 q]) (by simp [results, Try.results101, go_sem, cr0, cr1, cr2, cr3]) rfl ⟨rfl, g0⟩


set_option maxHeartbeats 400000 in
theorem pAck_ok (o k s c po pk n t d : Int) (hm : inE o k n 2120 = 0) (ht : inN o k n 2120 = t) (h0 : meE po pk n t = 0) (hd : meN po pk n t = d) (w : World) :
    Calls Try.prog 101 #[.agg #[.int .i64 o, .int .i64 k, .int .i64 s, .int .i64 c, .int .i64 po, .int .i64 pk, .int .i64 n]] w fun e w' => e = .returned (.tuple #[(.agg #[.int .i64 (ac ⟨o, k, s, c⟩ n d).1.o, .int .i64 (ac ⟨o, k, s, c⟩ n d).1.k, .int .i64 (ac ⟨o, k, s, c⟩ n d).1.s, .int .i64 (ac ⟨o, k, s, c⟩ n d).1.c]), .int .i64 (ac ⟨o, k, s, c⟩ n d).2]) ∧ Gr w w' := by
  have hj := Send_any o k n
  rw [hm, ht] at hj
  have HJ := Lib.hid hj
  clear hj
  have hk := Meas_any po pk n t
  rw [h0, hd] at hk
  have HK := Lib.hid hk
  clear hk
  clear hm ht h0 hd
  go_enter Try.func101, Try.ntmps101
  go_wp2_with fail
  have g0 : Gr w (((w).alloc (Obj.cells #[.int .i64 o, .int .i64 k, .int .i64 s, .int .i64 c, .int .i64 po, .int .i64 pk, .int .i64 n] 99)).alloc (Obj.cells #[.int .i64 0, .int .i64 0, .int .i64 0, .int .i64 0] 45)) := Gr.alloc (Gr.alloc (Gr.refl w) _) _
  have bx : Bx (((w).alloc (Obj.cells #[.int .i64 o, .int .i64 k, .int .i64 s, .int .i64 c, .int .i64 po, .int .i64 pk, .int .i64 n] 99)).alloc (Obj.cells #[.int .i64 0, .int .i64 0, .int .i64 0, .int .i64 0] 45)) (w.heap.size) [.int .i64 o, .int .i64 k, .int .i64 s, .int .i64 c, .int .i64 po, .int .i64 pk, .int .i64 n] := Bx.gr (Bx.at_ (Bx.new (w) [.int .i64 o, .int .i64 k, .int .i64 s, .int .i64 c, .int .i64 po, .int .i64 pk, .int .i64 n] 99) (by simp)) (Gr.alloc (Gr.refl _) _)
  have br : Bx (((w).alloc (Obj.cells #[.int .i64 o, .int .i64 k, .int .i64 s, .int .i64 c, .int .i64 po, .int .i64 pk, .int .i64 n] 99)).alloc (Obj.cells #[.int .i64 0, .int .i64 0, .int .i64 0, .int .i64 0] 45)) (w.heap.size + 1) [.int .i64 0, .int .i64 0, .int .i64 0, .int .i64 0] := Bx.gr (Bx.at_ (Bx.new ((w).alloc (Obj.cells #[.int .i64 o, .int .i64 k, .int .i64 s, .int .i64 c, .int .i64 po, .int .i64 pk, .int .i64 n] 99)) [.int .i64 0, .int .i64 0, .int .i64 0, .int .i64 0] 45) (by simp)) (Gr.refl _)
  generalize ((w).alloc (Obj.cells #[.int .i64 o, .int .i64 k, .int .i64 s, .int .i64 c, .int .i64 po, .int .i64 pk, .int .i64 n] 99)).alloc (Obj.cells #[.int .i64 0, .int .i64 0, .int .i64 0, .int .i64 0] 45) = W at g0 bx br ⊢
  have S0 := Lib.hid g0
  have Kx0 := Lib.hid bx
  have Kr0 := Lib.hid br
  clear g0 bx br
  refine (HJ.out _).mono ?_
  rintro e w1 ⟨rfl, hg⟩
  have S1 := Lib.hid (S0.out.trans hg)
  have Kx1 := Lib.hid (Kx0.out.gr hg)
  have Kr1 := Lib.hid (Kr0.out.gr hg)
  clear hg
  have cx0 := Kx1.out.c 0 _ rfl
  have cx1 := Kx1.out.c 1 _ rfl
  have cx2 := Kx1.out.c 2 _ rfl
  have cx3 := Kx1.out.c 3 _ rfl
  have cx4 := Kx1.out.c 4 _ rfl
  have cx5 := Kx1.out.c 5 _ rfl
  have cx6 := Kx1.out.c 6 _ rfl
  have lx := Kx1.out.lt
  have cr0 := Kr1.out.c 0 _ rfl
  have cr1 := Kr1.out.c 1 _ rfl
  have cr2 := Kr1.out.c 2 _ rfl
  have cr3 := Kr1.out.c 3 _ rfl
  have lr := Kr1.out.lt
  go_wp2_with fail
  all_goals (try clear cx0 cx1 cx2 cx3 cx4 cx5 cx6 lx cr0 cr1 cr2 cr3 lr)
  refine (HK.out _).mono ?_
  rintro e w2 ⟨rfl, hg⟩
  have S2 := Lib.hid (S1.out.trans hg)
  have Kx2 := Lib.hid (Kx1.out.gr hg)
  have Kr2 := Lib.hid (Kr1.out.gr hg)
  clear hg
  have cx0 := Kx2.out.c 0 _ rfl
  have cx1 := Kx2.out.c 1 _ rfl
  have cx2 := Kx2.out.c 2 _ rfl
  have cx3 := Kx2.out.c 3 _ rfl
  have cx4 := Kx2.out.c 4 _ rfl
  have cx5 := Kx2.out.c 5 _ rfl
  have cx6 := Kx2.out.c 6 _ rfl
  have lx := Kx2.out.lt
  have cr0 := Kr2.out.c 0 _ rfl
  have cr1 := Kr2.out.c 1 _ rfl
  have cr2 := Kr2.out.c 2 _ rfl
  have cr3 := Kr2.out.c 3 _ rfl
  have lr := Kr2.out.lt
  go_wp2_with fail
  all_goals (try clear cx0 cx1 cx2 cx3 cx4 cx5 cx6 lx cr0 cr1 cr2 cr3 lr)
  refine (Acked_any o k s c n d _).mono ?_
  rintro e w3 ⟨rfl, hg⟩
  have S3 := Lib.hid (S2.out.trans hg)
  have Kx3 := Lib.hid (Kx2.out.gr hg)
  have Kr3 := Lib.hid (Kr2.out.gr hg)
  clear hg
  have cx0 := Kx3.out.c 0 _ rfl
  have fx0 := Kx3.out.f 0 (by simp)
  have cx1 := Kx3.out.c 1 _ rfl
  have fx1 := Kx3.out.f 1 (by simp)
  have cx2 := Kx3.out.c 2 _ rfl
  have fx2 := Kx3.out.f 2 (by simp)
  have cx3 := Kx3.out.c 3 _ rfl
  have fx3 := Kx3.out.f 3 (by simp)
  have cx4 := Kx3.out.c 4 _ rfl
  have fx4 := Kx3.out.f 4 (by simp)
  have cx5 := Kx3.out.c 5 _ rfl
  have fx5 := Kx3.out.f 5 (by simp)
  have cx6 := Kx3.out.c 6 _ rfl
  have fx6 := Kx3.out.f 6 (by simp)
  have lx := Kx3.out.lt
  have cr0 := Kr3.out.c 0 _ rfl
  have fr0 := Kr3.out.f 0 (by simp)
  have cr1 := Kr3.out.c 1 _ rfl
  have fr1 := Kr3.out.f 1 (by simp)
  have cr2 := Kr3.out.c 2 _ rfl
  have fr2 := Kr3.out.f 2 (by simp)
  have cr3 := Kr3.out.c 3 _ rfl
  have fr3 := Kr3.out.f 3 (by simp)
  have lr := Kr3.out.lt
  go_wp2_with fail
  have g0 : Gr w (((((w3).setCell ⟨w.heap.size + 1, 0, none⟩ (.int .i64 ((ac ⟨o, k, s, c⟩ n d).1.o))).setCell ⟨w.heap.size + 1, 1, none⟩ (.int .i64 ((ac ⟨o, k, s, c⟩ n d).1.k))).setCell ⟨w.heap.size + 1, 2, none⟩ (.int .i64 ((ac ⟨o, k, s, c⟩ n d).1.s))).setCell ⟨w.heap.size + 1, 3, none⟩ (.int .i64 ((ac ⟨o, k, s, c⟩ n d).1.c))) := (Gr.set ((Gr.set ((Gr.set ((Gr.set (S3.out) (p := ⟨w.heap.size + 1, 0, none⟩) (by simp) _)) (p := ⟨w.heap.size + 1, 1, none⟩) (by simp) _)) (p := ⟨w.heap.size + 1, 2, none⟩) (by simp) _)) (p := ⟨w.heap.size + 1, 3, none⟩) (by simp) _)
  have b0 : Bx (((((w3).setCell ⟨w.heap.size + 1, 0, none⟩ (.int .i64 ((ac ⟨o, k, s, c⟩ n d).1.o))).setCell ⟨w.heap.size + 1, 1, none⟩ (.int .i64 ((ac ⟨o, k, s, c⟩ n d).1.k))).setCell ⟨w.heap.size + 1, 2, none⟩ (.int .i64 ((ac ⟨o, k, s, c⟩ n d).1.s))).setCell ⟨w.heap.size + 1, 3, none⟩ (.int .i64 ((ac ⟨o, k, s, c⟩ n d).1.c))) (w.heap.size + 1) [.int .i64 ((ac ⟨o, k, s, c⟩ n d).1.o), .int .i64 ((ac ⟨o, k, s, c⟩ n d).1.k), .int .i64 ((ac ⟨o, k, s, c⟩ n d).1.s), .int .i64 ((ac ⟨o, k, s, c⟩ n d).1.c)] := (Kr3.out.set4 (.int .i64 ((ac ⟨o, k, s, c⟩ n d).1.o)) (.int .i64 ((ac ⟨o, k, s, c⟩ n d).1.k)) (.int .i64 ((ac ⟨o, k, s, c⟩ n d).1.s)) (.int .i64 ((ac ⟨o, k, s, c⟩ n d).1.c)))
  generalize ((((w3).setCell ⟨w.heap.size + 1, 0, none⟩ (.int .i64 ((ac ⟨o, k, s, c⟩ n d).1.o))).setCell ⟨w.heap.size + 1, 1, none⟩ (.int .i64 ((ac ⟨o, k, s, c⟩ n d).1.k))).setCell ⟨w.heap.size + 1, 2, none⟩ (.int .i64 ((ac ⟨o, k, s, c⟩ n d).1.s))).setCell ⟨w.heap.size + 1, 3, none⟩ (.int .i64 ((ac ⟨o, k, s, c⟩ n d).1.c)) = wz at g0 b0 ⊢
  have cr0 := b0.c 0 _ rfl
  have cr1 := b0.c 1 _ rfl
  have cr2 := b0.c 2 _ rfl
  have cr3 := b0.c 3 _ rfl
  refine bodyPost_ret (v := .tuple #[.agg #[.int .i64 ((ac ⟨o, k, s, c⟩ n d).1.o), .int .i64 ((ac ⟨o, k, s, c⟩ n d).1.k), .int .i64 ((ac ⟨o, k, s, c⟩ n d).1.s), .int .i64 ((ac ⟨o, k, s, c⟩ n d).1.c)], .int .i64 ((ac ⟨o, k, s, c⟩ n d).2)]) (by simp [results, Try.results101, go_sem, cr0, cr1, cr2, cr3]) rfl ⟨rfl, g0⟩

end Go.Proofs.Ytpnigndobhbfnaa
