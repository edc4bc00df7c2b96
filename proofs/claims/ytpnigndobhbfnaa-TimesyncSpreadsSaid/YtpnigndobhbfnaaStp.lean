/- The walk of the reference's step. -/
import Derived.Test.YtpnigndobhbfnaaPair
import Derived.Deep.RegionHeld3
namespace Go.Proofs.Ytpnigndobhbfnaa
open Go.RowKit
set_option maxRecDepth 20000 in
set_option maxHeartbeats 2000000 in
theorem step_te (g n cap b off cp i q : Nat) (x y : Sy) (nn : Int) (w : World) (lg : g < w.heap.size) (lb : b < w.heap.size) (h0 : 1 ≤ i) (h1 : i < n) (h2 : q < n)
    (hx : ∀ j u, x.cells[j]? = some u → w.cell? ⟨g, i * 4 + j, none⟩ = some u) (hy : ∀ j u, y.cells[j]? = some u → w.cell? ⟨g, q * 4 + j, none⟩ = some u) (hp : w.cell? ⟨b, off + i, none⟩ = some (.int .i64 (q : Int))) (er t : Int) (hm : inE x.o x.k nn 2120 = er) (ht : inN x.o x.k nn 2120 = t) (hne : er ≠ 0) :
    Calls Try.prog 102 #[.slice (some ⟨g, 0, none⟩) n cap, .slice (some ⟨b, off, none⟩) n cp, .agg #[.int .i64 (i : Int), .int .i64 nn, .bool true]] w fun e w' => e = .returned (.tuple #[.agg #[.int .i64 0, .int .i64 0, .int .i64 0, .int .i64 0], .int .i64 er]) ∧ Gr w w' := by
  have hl := rSend_any x.o x.k nn
  rw [hm, ht] at hl
  have HL := Lib.hid hl
  clear hl
  have er1 : (er != 0) = true := by rw [bne_iff_ne]; exact hne
  clear hm ht
  have e1 : decide ((i : Int) < 1) = false := decide_eq_false (by omega)
  have e2 : decide ((n : Int) ≤ i) = false := decide_eq_false (by omega)
  have e3 : decide (n ≤ i) = false := decide_eq_false (by omega)
  have e4 : decide ((i : Int) < n) = true := decide_eq_true (by omega)
  have e5 : decide ((q : Int) < n) = true := decide_eq_true (by omega)
  have HS : Hid (∀ Z, Gr w Z → Z.cell? ⟨g, i * 4, none⟩ = some (.int .i64 x.o) ∧ Z.cell? ⟨g, i * 4 + 1, none⟩ = some (.int .i64 x.k) ∧ Z.cell? ⟨g, i * 4 + 2, none⟩ = some (.int .i64 x.s) ∧ Z.cell? ⟨g, i * 4 + 3, none⟩ = some (.int .i64 x.c) ∧ Z.cell? ⟨g, q * 4, none⟩ = some (.int .i64 y.o) ∧ Z.cell? ⟨g, q * 4 + 1, none⟩ = some (.int .i64 y.k) ∧ Z.cell? ⟨g, q * 4 + 2, none⟩ = some (.int .i64 y.s) ∧ Z.cell? ⟨g, q * 4 + 3, none⟩ = some (.int .i64 y.c) ∧ Z.cell? ⟨b, off + i, none⟩ = some (.int .i64 (q : Int))) := Lib.hid (fun Z G => ⟨(G.cell lg _).trans (hx 0 _ rfl), (G.cell lg _).trans (hx 1 _ rfl), (G.cell lg _).trans (hx 2 _ rfl), (G.cell lg _).trans (hx 3 _ rfl), (G.cell lg _).trans (hy 0 _ rfl), (G.cell lg _).trans (hy 1 _ rfl), (G.cell lg _).trans (hy 2 _ rfl), (G.cell lg _).trans (hy 3 _ rfl), (G.cell lb _).trans hp⟩)
  clear hx hy hp
  go_enter Try.func102, Try.ntmps102
  go_wp2_with fail
  have g0 : Gr w ((w.alloc (Obj.cells #[.int .i64 (i : Int), .int .i64 nn, .bool true] 48)).alloc (Obj.cells #[.int .i64 0, .int .i64 0, .int .i64 0, .int .i64 0] 45)) := Gr.alloc (Gr.alloc (Gr.refl w) _) _
  have bx : Bx ((w.alloc (Obj.cells #[.int .i64 (i : Int), .int .i64 nn, .bool true] 48)).alloc (Obj.cells #[.int .i64 0, .int .i64 0, .int .i64 0, .int .i64 0] 45)) w.heap.size [.int .i64 (i : Int), .int .i64 nn, .bool true] := Bx.gr (Bx.new w _ 48) (Gr.alloc (Gr.refl _) _)
  have br : Bx ((w.alloc (Obj.cells #[.int .i64 (i : Int), .int .i64 nn, .bool true] 48)).alloc (Obj.cells #[.int .i64 0, .int .i64 0, .int .i64 0, .int .i64 0] 45)) (w.heap.size + 1) [.int .i64 0, .int .i64 0, .int .i64 0, .int .i64 0] := Bx.at_ (Bx.new (w.alloc _) _ 45) (by simp)
  generalize (w.alloc (Obj.cells #[.int .i64 (i : Int), .int .i64 nn, .bool true] 48)).alloc (Obj.cells #[.int .i64 0, .int .i64 0, .int .i64 0, .int .i64 0] 45) = W at g0 bx br ⊢
  have HJ : Hid (∀ Z, Gr W Z → (Z.cell? ⟨g, i * 4, none⟩ = some (.int .i64 x.o) ∧ Z.cell? ⟨g, i * 4 + 1, none⟩ = some (.int .i64 x.k) ∧ Z.cell? ⟨g, i * 4 + 2, none⟩ = some (.int .i64 x.s) ∧ Z.cell? ⟨g, i * 4 + 3, none⟩ = some (.int .i64 x.c) ∧ Z.cell? ⟨g, q * 4, none⟩ = some (.int .i64 y.o) ∧ Z.cell? ⟨g, q * 4 + 1, none⟩ = some (.int .i64 y.k) ∧ Z.cell? ⟨g, q * 4 + 2, none⟩ = some (.int .i64 y.s) ∧ Z.cell? ⟨g, q * 4 + 3, none⟩ = some (.int .i64 y.c) ∧ Z.cell? ⟨b, off + i, none⟩ = some (.int .i64 (q : Int)) ∧ Z.cell? ⟨w.heap.size, 0, none⟩ = some (.int .i64 (i : Int)) ∧ Z.cell? ⟨w.heap.size, 1, none⟩ = some (.int .i64 nn) ∧ Z.cell? ⟨w.heap.size, 2, none⟩ = some (.bool true) ∧ Z.cell? ⟨w.heap.size + 1, 0, none⟩ = some (.int .i64 0) ∧ Z.cell? ⟨w.heap.size + 1, 1, none⟩ = some (.int .i64 0) ∧ Z.cell? ⟨w.heap.size + 1, 2, none⟩ = some (.int .i64 0) ∧ Z.cell? ⟨w.heap.size + 1, 3, none⟩ = some (.int .i64 0) ∧ Hid (Gr W Z))) := Lib.hid (fun Z G => by
    obtain ⟨z0, z1, z2, z3, z4, z5, z6, z7, z8⟩ := HS.out Z (g0.trans G)
    have bz := bx.gr G
    have rz := br.gr G
    exact ⟨z0, z1, z2, z3, z4, z5, z6, z7, z8, bz.c 0 _ rfl, bz.c 1 _ rfl, bz.c 2 _ rfl, rz.c 0 _ rfl, rz.c 1 _ rfl, rz.c 2 _ rfl, rz.c 3 _ rfl, Lib.hid G⟩)
  have S0 := Lib.hid g0
  have Kx0 := Lib.hid bx
  have Kr0 := Lib.hid br
  clear g0 bx br HS
  obtain ⟨z0, z1, z2, z3, z4, z5, z6, z7, z8, z9, z10, z11, z12, z13, z14, z15, _⟩ := HJ.out W (Gr.refl W)
  go_region_held3 (fun Z => Z.cell? ⟨g, i * 4, none⟩ = some (.int .i64 x.o) ∧ Z.cell? ⟨g, i * 4 + 1, none⟩ = some (.int .i64 x.k) ∧ Z.cell? ⟨g, i * 4 + 2, none⟩ = some (.int .i64 x.s) ∧ Z.cell? ⟨g, i * 4 + 3, none⟩ = some (.int .i64 x.c) ∧ Z.cell? ⟨g, q * 4, none⟩ = some (.int .i64 y.o) ∧ Z.cell? ⟨g, q * 4 + 1, none⟩ = some (.int .i64 y.k) ∧ Z.cell? ⟨g, q * 4 + 2, none⟩ = some (.int .i64 y.s) ∧ Z.cell? ⟨g, q * 4 + 3, none⟩ = some (.int .i64 y.c) ∧ Z.cell? ⟨b, off + i, none⟩ = some (.int .i64 (q : Int)) ∧ Z.cell? ⟨w.heap.size, 0, none⟩ = some (.int .i64 (i : Int)) ∧ Z.cell? ⟨w.heap.size, 1, none⟩ = some (.int .i64 nn) ∧ Z.cell? ⟨w.heap.size, 2, none⟩ = some (.bool true) ∧ Z.cell? ⟨w.heap.size + 1, 0, none⟩ = some (.int .i64 0) ∧ Z.cell? ⟨w.heap.size + 1, 1, none⟩ = some (.int .i64 0) ∧ Z.cell? ⟨w.heap.size + 1, 2, none⟩ = some (.int .i64 0) ∧ Z.cell? ⟨w.heap.size + 1, 3, none⟩ = some (.int .i64 0) ∧ Hid (Gr W Z)) (first | exact HJ.out _ (by repeat (first | exact Gr.refl _ | apply Gr.drew | apply Gr.alloc | refine Gr.set ?_ (by simp) _))) (fail)
  all_goals first
    | (with_reducible show Exit.then _ _ _ _ (((W.alloc (Obj.cells #[.int .i64 x.o, .int .i64 x.k, .int .i64 x.s, .int .i64 x.c] 45)).alloc (Obj.cells #[.int .i64 y.o, .int .i64 y.k, .int .i64 y.s, .int .i64 y.c] 45)).drew); have g1 : Gr W (((W.alloc (Obj.cells #[.int .i64 x.o, .int .i64 x.k, .int .i64 x.s, .int .i64 x.c] 45)).alloc (Obj.cells #[.int .i64 y.o, .int .i64 y.k, .int .i64 y.s, .int .i64 y.c] 45)).drew) := Gr.drew (Gr.alloc (Gr.alloc (Gr.refl W) _) _); have bc : Bx (((W.alloc (Obj.cells #[.int .i64 x.o, .int .i64 x.k, .int .i64 x.s, .int .i64 x.c] 45)).alloc (Obj.cells #[.int .i64 y.o, .int .i64 y.k, .int .i64 y.s, .int .i64 y.c] 45)).drew) W.heap.size [.int .i64 x.o, .int .i64 x.k, .int .i64 x.s, .int .i64 x.c] := Bx.gr (Bx.new W _ 45) (Gr.drew (Gr.alloc (Gr.refl _) _)); have bp : Bx (((W.alloc (Obj.cells #[.int .i64 x.o, .int .i64 x.k, .int .i64 x.s, .int .i64 x.c] 45)).alloc (Obj.cells #[.int .i64 y.o, .int .i64 y.k, .int .i64 y.s, .int .i64 y.c] 45)).drew) (W.heap.size + 1) [.int .i64 y.o, .int .i64 y.k, .int .i64 y.s, .int .i64 y.c] := Bx.gr (Bx.at_ (Bx.new (W.alloc (Obj.cells #[.int .i64 x.o, .int .i64 x.k, .int .i64 x.s, .int .i64 x.c] 45)) _ 45) (by simp)) (Gr.drew (Gr.refl _)); generalize ((W.alloc (Obj.cells #[.int .i64 x.o, .int .i64 x.k, .int .i64 x.s, .int .i64 x.c] 45)).alloc (Obj.cells #[.int .i64 y.o, .int .i64 y.k, .int .i64 y.s, .int .i64 y.c] 45)).drew = w1 at g1 bc bp ⊢; generalize W.heap.size + 1 = pb at bp ⊢; generalize W.heap.size = cb at bc ⊢; skip)
    | (with_reducible show Exit.then _ _ _ _ (((W.alloc (Obj.cells #[.int .i64 y.o, .int .i64 y.k, .int .i64 y.s, .int .i64 y.c] 45)).alloc (Obj.cells #[.int .i64 x.o, .int .i64 x.k, .int .i64 x.s, .int .i64 x.c] 45)).drew); have g1 : Gr W (((W.alloc (Obj.cells #[.int .i64 y.o, .int .i64 y.k, .int .i64 y.s, .int .i64 y.c] 45)).alloc (Obj.cells #[.int .i64 x.o, .int .i64 x.k, .int .i64 x.s, .int .i64 x.c] 45)).drew) := Gr.drew (Gr.alloc (Gr.alloc (Gr.refl W) _) _); have bp : Bx (((W.alloc (Obj.cells #[.int .i64 y.o, .int .i64 y.k, .int .i64 y.s, .int .i64 y.c] 45)).alloc (Obj.cells #[.int .i64 x.o, .int .i64 x.k, .int .i64 x.s, .int .i64 x.c] 45)).drew) W.heap.size [.int .i64 y.o, .int .i64 y.k, .int .i64 y.s, .int .i64 y.c] := Bx.gr (Bx.new W _ 45) (Gr.drew (Gr.alloc (Gr.refl _) _)); have bc : Bx (((W.alloc (Obj.cells #[.int .i64 y.o, .int .i64 y.k, .int .i64 y.s, .int .i64 y.c] 45)).alloc (Obj.cells #[.int .i64 x.o, .int .i64 x.k, .int .i64 x.s, .int .i64 x.c] 45)).drew) (W.heap.size + 1) [.int .i64 x.o, .int .i64 x.k, .int .i64 x.s, .int .i64 x.c] := Bx.gr (Bx.at_ (Bx.new (W.alloc (Obj.cells #[.int .i64 y.o, .int .i64 y.k, .int .i64 y.s, .int .i64 y.c] 45)) _ 45) (by simp)) (Gr.drew (Gr.refl _)); generalize ((W.alloc (Obj.cells #[.int .i64 y.o, .int .i64 y.k, .int .i64 y.s, .int .i64 y.c] 45)).alloc (Obj.cells #[.int .i64 x.o, .int .i64 x.k, .int .i64 x.s, .int .i64 x.c] 45)).drew = w1 at g1 bc bp ⊢; generalize W.heap.size + 1 = cb at bc ⊢; generalize W.heap.size = pb at bp ⊢; skip)
  all_goals clear HJ z0 z1 z2 z3 z4 z5 z6 z7 z8 z9 z10 z11 z12 z13 z14 z15
  all_goals
    have S1 := Lib.hid (S0.out.trans g1)
    have Kx1 := Lib.hid (Kx0.out.gr g1)
    have Kr1 := Lib.hid (Kr0.out.gr g1)
    have Kc1 := Lib.hid bc
    have Kp1 := Lib.hid bp
    clear g1 bc bp
    have cx0 := Kx1.out.c 0 _ rfl
    have fx0 := Kx1.out.f 0 (by simp)
    have cx1 := Kx1.out.c 1 _ rfl
    have fx1 := Kx1.out.f 1 (by simp)
    have cx2 := Kx1.out.c 2 _ rfl
    have fx2 := Kx1.out.f 2 (by simp)
    have lx := Kx1.out.lt
    have cr0 := Kr1.out.c 0 _ rfl
    have fr0 := Kr1.out.f 0 (by simp)
    have cr1 := Kr1.out.c 1 _ rfl
    have fr1 := Kr1.out.f 1 (by simp)
    have cr2 := Kr1.out.c 2 _ rfl
    have fr2 := Kr1.out.f 2 (by simp)
    have cr3 := Kr1.out.c 3 _ rfl
    have fr3 := Kr1.out.f 3 (by simp)
    have lr := Kr1.out.lt
    have cc0 := Kc1.out.c 0 _ rfl
    have fc0 := Kc1.out.f 0 (by simp)
    have cc1 := Kc1.out.c 1 _ rfl
    have fc1 := Kc1.out.f 1 (by simp)
    have cc2 := Kc1.out.c 2 _ rfl
    have fc2 := Kc1.out.f 2 (by simp)
    have cc3 := Kc1.out.c 3 _ rfl
    have fc3 := Kc1.out.f 3 (by simp)
    have lc := Kc1.out.lt
    have cp0 := Kp1.out.c 0 _ rfl
    have fp0 := Kp1.out.f 0 (by simp)
    have cp1 := Kp1.out.c 1 _ rfl
    have fp1 := Kp1.out.f 1 (by simp)
    have cp2 := Kp1.out.c 2 _ rfl
    have fp2 := Kp1.out.f 2 (by simp)
    have cp3 := Kp1.out.c 3 _ rfl
    have fp3 := Kp1.out.f 3 (by simp)
    have lp := Kp1.out.lt
    go_wp2_with fail
    (try clear cx0 fx0 cx1 fx1 cx2 fx2 lx cr0 fr0 cr1 fr1 cr2 fr2 cr3 fr3 lr cc0 fc0 cc1 fc1 cc2 fc2 cc3 fc3 lc cp0 fp0 cp1 fp1 cp2 fp2 cp3 fp3 lp)
    refine (HL.out _).mono ?_
    rintro e w2 ⟨rfl, hg⟩
    have S2 := Lib.hid (S1.out.trans hg)
    have Kx2 := Lib.hid (Kx1.out.gr hg)
    have Kr2 := Lib.hid (Kr1.out.gr hg)
    have Kc2 := Lib.hid (Kc1.out.gr hg)
    have Kp2 := Lib.hid (Kp1.out.gr hg)
    clear hg
    have cx0 := Kx2.out.c 0 _ rfl
    have fx0 := Kx2.out.f 0 (by simp)
    have cx1 := Kx2.out.c 1 _ rfl
    have fx1 := Kx2.out.f 1 (by simp)
    have cx2 := Kx2.out.c 2 _ rfl
    have fx2 := Kx2.out.f 2 (by simp)
    have lx := Kx2.out.lt
    have cr0 := Kr2.out.c 0 _ rfl
    have fr0 := Kr2.out.f 0 (by simp)
    have cr1 := Kr2.out.c 1 _ rfl
    have fr1 := Kr2.out.f 1 (by simp)
    have cr2 := Kr2.out.c 2 _ rfl
    have fr2 := Kr2.out.f 2 (by simp)
    have cr3 := Kr2.out.c 3 _ rfl
    have fr3 := Kr2.out.f 3 (by simp)
    have lr := Kr2.out.lt
    have cc0 := Kc2.out.c 0 _ rfl
    have fc0 := Kc2.out.f 0 (by simp)
    have cc1 := Kc2.out.c 1 _ rfl
    have fc1 := Kc2.out.f 1 (by simp)
    have cc2 := Kc2.out.c 2 _ rfl
    have fc2 := Kc2.out.f 2 (by simp)
    have cc3 := Kc2.out.c 3 _ rfl
    have fc3 := Kc2.out.f 3 (by simp)
    have lc := Kc2.out.lt
    have cp0 := Kp2.out.c 0 _ rfl
    have fp0 := Kp2.out.f 0 (by simp)
    have cp1 := Kp2.out.c 1 _ rfl
    have fp1 := Kp2.out.f 1 (by simp)
    have cp2 := Kp2.out.c 2 _ rfl
    have fp2 := Kp2.out.f 2 (by simp)
    have cp3 := Kp2.out.c 3 _ rfl
    have fp3 := Kp2.out.f 3 (by simp)
    have lp := Kp2.out.lt
    go_wp2_with fail
    all_goals (try clear cx0 fx0 cx1 fx1 cx2 fx2 lx cr0 fr0 cr1 fr1 cr2 fr2 cr3 fr3 lr cc0 fc0 cc1 fc1 cc2 fc2 cc3 fc3 lc cp0 fp0 cp1 fp1 cp2 fp2 cp3 fp3 lp)
    have g0 : Gr w (((((w2).setCell ⟨w.heap.size + 1, 0, none⟩ (.int .i64 0)).setCell ⟨w.heap.size + 1, 1, none⟩ (.int .i64 0)).setCell ⟨w.heap.size + 1, 2, none⟩ (.int .i64 0)).setCell ⟨w.heap.size + 1, 3, none⟩ (.int .i64 0)) := (Gr.set ((Gr.set ((Gr.set ((Gr.set (S2.out) (p := ⟨w.heap.size + 1, 0, none⟩) (by simp) _)) (p := ⟨w.heap.size + 1, 1, none⟩) (by simp) _)) (p := ⟨w.heap.size + 1, 2, none⟩) (by simp) _)) (p := ⟨w.heap.size + 1, 3, none⟩) (by simp) _)
    have b0 : Bx (((((w2).setCell ⟨w.heap.size + 1, 0, none⟩ (.int .i64 0)).setCell ⟨w.heap.size + 1, 1, none⟩ (.int .i64 0)).setCell ⟨w.heap.size + 1, 2, none⟩ (.int .i64 0)).setCell ⟨w.heap.size + 1, 3, none⟩ (.int .i64 0)) (w.heap.size + 1) [.int .i64 0, .int .i64 0, .int .i64 0, .int .i64 0] := (Kr2.out.set4 (.int .i64 0) (.int .i64 0) (.int .i64 0) (.int .i64 0))
    generalize ((((w2).setCell ⟨w.heap.size + 1, 0, none⟩ (.int .i64 0)).setCell ⟨w.heap.size + 1, 1, none⟩ (.int .i64 0)).setCell ⟨w.heap.size + 1, 2, none⟩ (.int .i64 0)).setCell ⟨w.heap.size + 1, 3, none⟩ (.int .i64 0) = wz at g0 b0 ⊢
    have cr0 := b0.c 0 _ rfl
    have cr1 := b0.c 1 _ rfl
    have cr2 := b0.c 2 _ rfl
    have cr3 := b0.c 3 _ rfl
    refine bodyPost_ret (v := .tuple #[.agg #[.int .i64 0, .int .i64 0, .int .i64 0, .int .i64 0], .int .i64 er]) (by simp [results, Try.results102, go_sem, cr0, cr1, cr2, cr3]) rfl ⟨rfl, g0⟩


set_option maxRecDepth 20000 in
set_option maxHeartbeats 2000000 in
theorem step_to (g n cap b off cp i q : Nat) (x y : Sy) (nn : Int) (w : World) (lg : g < w.heap.size) (lb : b < w.heap.size) (h0 : 1 ≤ i) (h1 : i < n) (h2 : q < n)
    (hx : ∀ j u, x.cells[j]? = some u → w.cell? ⟨g, i * 4 + j, none⟩ = some u) (hy : ∀ j u, y.cells[j]? = some u → w.cell? ⟨g, q * 4 + j, none⟩ = some u) (hp : w.cell? ⟨b, off + i, none⟩ = some (.int .i64 (q : Int))) (t d ee : Int) (hm : inE x.o x.k nn 2120 = 0) (ht : inN x.o x.k nn 2120 = t) (hd : meN y.o y.k nn t = d) (he : meE y.o y.k nn t = ee) :
    Calls Try.prog 102 #[.slice (some ⟨g, 0, none⟩) n cap, .slice (some ⟨b, off, none⟩) n cp, .agg #[.int .i64 (i : Int), .int .i64 nn, .bool true]] w fun e w' => e = .returned (.tuple #[(.agg #[.int .i64 (ac ⟨x.o, x.k, x.s, x.c⟩ nn d).1.o, .int .i64 (ac ⟨x.o, x.k, x.s, x.c⟩ nn d).1.k, .int .i64 (ac ⟨x.o, x.k, x.s, x.c⟩ nn d).1.s, .int .i64 (ac ⟨x.o, x.k, x.s, x.c⟩ nn d).1.c]), .int .i64 (ac ⟨x.o, x.k, x.s, x.c⟩ nn d).2]) ∧ Gr w w' := by
  have hl := rSend_any x.o x.k nn
  rw [hm, ht] at hl
  have HL := Lib.hid hl
  clear hl
  have hm := rMeas_any y.o y.k nn t
  rw [hd, he] at hm
  have HM := Lib.hid hm
  clear hm
  clear hm ht hd he
  have e1 : decide ((i : Int) < 1) = false := decide_eq_false (by omega)
  have e2 : decide ((n : Int) ≤ i) = false := decide_eq_false (by omega)
  have e3 : decide (n ≤ i) = false := decide_eq_false (by omega)
  have e4 : decide ((i : Int) < n) = true := decide_eq_true (by omega)
  have e5 : decide ((q : Int) < n) = true := decide_eq_true (by omega)
  have HS : Hid (∀ Z, Gr w Z → Z.cell? ⟨g, i * 4, none⟩ = some (.int .i64 x.o) ∧ Z.cell? ⟨g, i * 4 + 1, none⟩ = some (.int .i64 x.k) ∧ Z.cell? ⟨g, i * 4 + 2, none⟩ = some (.int .i64 x.s) ∧ Z.cell? ⟨g, i * 4 + 3, none⟩ = some (.int .i64 x.c) ∧ Z.cell? ⟨g, q * 4, none⟩ = some (.int .i64 y.o) ∧ Z.cell? ⟨g, q * 4 + 1, none⟩ = some (.int .i64 y.k) ∧ Z.cell? ⟨g, q * 4 + 2, none⟩ = some (.int .i64 y.s) ∧ Z.cell? ⟨g, q * 4 + 3, none⟩ = some (.int .i64 y.c) ∧ Z.cell? ⟨b, off + i, none⟩ = some (.int .i64 (q : Int))) := Lib.hid (fun Z G => ⟨(G.cell lg _).trans (hx 0 _ rfl), (G.cell lg _).trans (hx 1 _ rfl), (G.cell lg _).trans (hx 2 _ rfl), (G.cell lg _).trans (hx 3 _ rfl), (G.cell lg _).trans (hy 0 _ rfl), (G.cell lg _).trans (hy 1 _ rfl), (G.cell lg _).trans (hy 2 _ rfl), (G.cell lg _).trans (hy 3 _ rfl), (G.cell lb _).trans hp⟩)
  clear hx hy hp
  go_enter Try.func102, Try.ntmps102
  go_wp2_with fail
  have g0 : Gr w ((w.alloc (Obj.cells #[.int .i64 (i : Int), .int .i64 nn, .bool true] 48)).alloc (Obj.cells #[.int .i64 0, .int .i64 0, .int .i64 0, .int .i64 0] 45)) := Gr.alloc (Gr.alloc (Gr.refl w) _) _
  have bx : Bx ((w.alloc (Obj.cells #[.int .i64 (i : Int), .int .i64 nn, .bool true] 48)).alloc (Obj.cells #[.int .i64 0, .int .i64 0, .int .i64 0, .int .i64 0] 45)) w.heap.size [.int .i64 (i : Int), .int .i64 nn, .bool true] := Bx.gr (Bx.new w _ 48) (Gr.alloc (Gr.refl _) _)
  have br : Bx ((w.alloc (Obj.cells #[.int .i64 (i : Int), .int .i64 nn, .bool true] 48)).alloc (Obj.cells #[.int .i64 0, .int .i64 0, .int .i64 0, .int .i64 0] 45)) (w.heap.size + 1) [.int .i64 0, .int .i64 0, .int .i64 0, .int .i64 0] := Bx.at_ (Bx.new (w.alloc _) _ 45) (by simp)
  generalize (w.alloc (Obj.cells #[.int .i64 (i : Int), .int .i64 nn, .bool true] 48)).alloc (Obj.cells #[.int .i64 0, .int .i64 0, .int .i64 0, .int .i64 0] 45) = W at g0 bx br ⊢
  have HJ : Hid (∀ Z, Gr W Z → (Z.cell? ⟨g, i * 4, none⟩ = some (.int .i64 x.o) ∧ Z.cell? ⟨g, i * 4 + 1, none⟩ = some (.int .i64 x.k) ∧ Z.cell? ⟨g, i * 4 + 2, none⟩ = some (.int .i64 x.s) ∧ Z.cell? ⟨g, i * 4 + 3, none⟩ = some (.int .i64 x.c) ∧ Z.cell? ⟨g, q * 4, none⟩ = some (.int .i64 y.o) ∧ Z.cell? ⟨g, q * 4 + 1, none⟩ = some (.int .i64 y.k) ∧ Z.cell? ⟨g, q * 4 + 2, none⟩ = some (.int .i64 y.s) ∧ Z.cell? ⟨g, q * 4 + 3, none⟩ = some (.int .i64 y.c) ∧ Z.cell? ⟨b, off + i, none⟩ = some (.int .i64 (q : Int)) ∧ Z.cell? ⟨w.heap.size, 0, none⟩ = some (.int .i64 (i : Int)) ∧ Z.cell? ⟨w.heap.size, 1, none⟩ = some (.int .i64 nn) ∧ Z.cell? ⟨w.heap.size, 2, none⟩ = some (.bool true) ∧ Z.cell? ⟨w.heap.size + 1, 0, none⟩ = some (.int .i64 0) ∧ Z.cell? ⟨w.heap.size + 1, 1, none⟩ = some (.int .i64 0) ∧ Z.cell? ⟨w.heap.size + 1, 2, none⟩ = some (.int .i64 0) ∧ Z.cell? ⟨w.heap.size + 1, 3, none⟩ = some (.int .i64 0) ∧ Hid (Gr W Z))) := Lib.hid (fun Z G => by
    obtain ⟨z0, z1, z2, z3, z4, z5, z6, z7, z8⟩ := HS.out Z (g0.trans G)
    have bz := bx.gr G
    have rz := br.gr G
    exact ⟨z0, z1, z2, z3, z4, z5, z6, z7, z8, bz.c 0 _ rfl, bz.c 1 _ rfl, bz.c 2 _ rfl, rz.c 0 _ rfl, rz.c 1 _ rfl, rz.c 2 _ rfl, rz.c 3 _ rfl, Lib.hid G⟩)
  have S0 := Lib.hid g0
  have Kx0 := Lib.hid bx
  have Kr0 := Lib.hid br
  clear g0 bx br HS
  obtain ⟨z0, z1, z2, z3, z4, z5, z6, z7, z8, z9, z10, z11, z12, z13, z14, z15, _⟩ := HJ.out W (Gr.refl W)
  go_region_held3 (fun Z => Z.cell? ⟨g, i * 4, none⟩ = some (.int .i64 x.o) ∧ Z.cell? ⟨g, i * 4 + 1, none⟩ = some (.int .i64 x.k) ∧ Z.cell? ⟨g, i * 4 + 2, none⟩ = some (.int .i64 x.s) ∧ Z.cell? ⟨g, i * 4 + 3, none⟩ = some (.int .i64 x.c) ∧ Z.cell? ⟨g, q * 4, none⟩ = some (.int .i64 y.o) ∧ Z.cell? ⟨g, q * 4 + 1, none⟩ = some (.int .i64 y.k) ∧ Z.cell? ⟨g, q * 4 + 2, none⟩ = some (.int .i64 y.s) ∧ Z.cell? ⟨g, q * 4 + 3, none⟩ = some (.int .i64 y.c) ∧ Z.cell? ⟨b, off + i, none⟩ = some (.int .i64 (q : Int)) ∧ Z.cell? ⟨w.heap.size, 0, none⟩ = some (.int .i64 (i : Int)) ∧ Z.cell? ⟨w.heap.size, 1, none⟩ = some (.int .i64 nn) ∧ Z.cell? ⟨w.heap.size, 2, none⟩ = some (.bool true) ∧ Z.cell? ⟨w.heap.size + 1, 0, none⟩ = some (.int .i64 0) ∧ Z.cell? ⟨w.heap.size + 1, 1, none⟩ = some (.int .i64 0) ∧ Z.cell? ⟨w.heap.size + 1, 2, none⟩ = some (.int .i64 0) ∧ Z.cell? ⟨w.heap.size + 1, 3, none⟩ = some (.int .i64 0) ∧ Hid (Gr W Z)) (first | exact HJ.out _ (by repeat (first | exact Gr.refl _ | apply Gr.drew | apply Gr.alloc | refine Gr.set ?_ (by simp) _))) (fail)
  all_goals first
    | (with_reducible show Exit.then _ _ _ _ (((W.alloc (Obj.cells #[.int .i64 x.o, .int .i64 x.k, .int .i64 x.s, .int .i64 x.c] 45)).alloc (Obj.cells #[.int .i64 y.o, .int .i64 y.k, .int .i64 y.s, .int .i64 y.c] 45)).drew); have g1 : Gr W (((W.alloc (Obj.cells #[.int .i64 x.o, .int .i64 x.k, .int .i64 x.s, .int .i64 x.c] 45)).alloc (Obj.cells #[.int .i64 y.o, .int .i64 y.k, .int .i64 y.s, .int .i64 y.c] 45)).drew) := Gr.drew (Gr.alloc (Gr.alloc (Gr.refl W) _) _); have bc : Bx (((W.alloc (Obj.cells #[.int .i64 x.o, .int .i64 x.k, .int .i64 x.s, .int .i64 x.c] 45)).alloc (Obj.cells #[.int .i64 y.o, .int .i64 y.k, .int .i64 y.s, .int .i64 y.c] 45)).drew) W.heap.size [.int .i64 x.o, .int .i64 x.k, .int .i64 x.s, .int .i64 x.c] := Bx.gr (Bx.new W _ 45) (Gr.drew (Gr.alloc (Gr.refl _) _)); have bp : Bx (((W.alloc (Obj.cells #[.int .i64 x.o, .int .i64 x.k, .int .i64 x.s, .int .i64 x.c] 45)).alloc (Obj.cells #[.int .i64 y.o, .int .i64 y.k, .int .i64 y.s, .int .i64 y.c] 45)).drew) (W.heap.size + 1) [.int .i64 y.o, .int .i64 y.k, .int .i64 y.s, .int .i64 y.c] := Bx.gr (Bx.at_ (Bx.new (W.alloc (Obj.cells #[.int .i64 x.o, .int .i64 x.k, .int .i64 x.s, .int .i64 x.c] 45)) _ 45) (by simp)) (Gr.drew (Gr.refl _)); generalize ((W.alloc (Obj.cells #[.int .i64 x.o, .int .i64 x.k, .int .i64 x.s, .int .i64 x.c] 45)).alloc (Obj.cells #[.int .i64 y.o, .int .i64 y.k, .int .i64 y.s, .int .i64 y.c] 45)).drew = w1 at g1 bc bp ⊢; generalize W.heap.size + 1 = pb at bp ⊢; generalize W.heap.size = cb at bc ⊢; skip)
    | (with_reducible show Exit.then _ _ _ _ (((W.alloc (Obj.cells #[.int .i64 y.o, .int .i64 y.k, .int .i64 y.s, .int .i64 y.c] 45)).alloc (Obj.cells #[.int .i64 x.o, .int .i64 x.k, .int .i64 x.s, .int .i64 x.c] 45)).drew); have g1 : Gr W (((W.alloc (Obj.cells #[.int .i64 y.o, .int .i64 y.k, .int .i64 y.s, .int .i64 y.c] 45)).alloc (Obj.cells #[.int .i64 x.o, .int .i64 x.k, .int .i64 x.s, .int .i64 x.c] 45)).drew) := Gr.drew (Gr.alloc (Gr.alloc (Gr.refl W) _) _); have bp : Bx (((W.alloc (Obj.cells #[.int .i64 y.o, .int .i64 y.k, .int .i64 y.s, .int .i64 y.c] 45)).alloc (Obj.cells #[.int .i64 x.o, .int .i64 x.k, .int .i64 x.s, .int .i64 x.c] 45)).drew) W.heap.size [.int .i64 y.o, .int .i64 y.k, .int .i64 y.s, .int .i64 y.c] := Bx.gr (Bx.new W _ 45) (Gr.drew (Gr.alloc (Gr.refl _) _)); have bc : Bx (((W.alloc (Obj.cells #[.int .i64 y.o, .int .i64 y.k, .int .i64 y.s, .int .i64 y.c] 45)).alloc (Obj.cells #[.int .i64 x.o, .int .i64 x.k, .int .i64 x.s, .int .i64 x.c] 45)).drew) (W.heap.size + 1) [.int .i64 x.o, .int .i64 x.k, .int .i64 x.s, .int .i64 x.c] := Bx.gr (Bx.at_ (Bx.new (W.alloc (Obj.cells #[.int .i64 y.o, .int .i64 y.k, .int .i64 y.s, .int .i64 y.c] 45)) _ 45) (by simp)) (Gr.drew (Gr.refl _)); generalize ((W.alloc (Obj.cells #[.int .i64 y.o, .int .i64 y.k, .int .i64 y.s, .int .i64 y.c] 45)).alloc (Obj.cells #[.int .i64 x.o, .int .i64 x.k, .int .i64 x.s, .int .i64 x.c] 45)).drew = w1 at g1 bc bp ⊢; generalize W.heap.size + 1 = cb at bc ⊢; generalize W.heap.size = pb at bp ⊢; skip)
  all_goals clear HJ z0 z1 z2 z3 z4 z5 z6 z7 z8 z9 z10 z11 z12 z13 z14 z15
  all_goals
    have S1 := Lib.hid (S0.out.trans g1)
    have Kx1 := Lib.hid (Kx0.out.gr g1)
    have Kr1 := Lib.hid (Kr0.out.gr g1)
    have Kc1 := Lib.hid bc
    have Kp1 := Lib.hid bp
    clear g1 bc bp
    have cx0 := Kx1.out.c 0 _ rfl
    have fx0 := Kx1.out.f 0 (by simp)
    have cx1 := Kx1.out.c 1 _ rfl
    have fx1 := Kx1.out.f 1 (by simp)
    have cx2 := Kx1.out.c 2 _ rfl
    have fx2 := Kx1.out.f 2 (by simp)
    have lx := Kx1.out.lt
    have cr0 := Kr1.out.c 0 _ rfl
    have fr0 := Kr1.out.f 0 (by simp)
    have cr1 := Kr1.out.c 1 _ rfl
    have fr1 := Kr1.out.f 1 (by simp)
    have cr2 := Kr1.out.c 2 _ rfl
    have fr2 := Kr1.out.f 2 (by simp)
    have cr3 := Kr1.out.c 3 _ rfl
    have fr3 := Kr1.out.f 3 (by simp)
    have lr := Kr1.out.lt
    have cc0 := Kc1.out.c 0 _ rfl
    have fc0 := Kc1.out.f 0 (by simp)
    have cc1 := Kc1.out.c 1 _ rfl
    have fc1 := Kc1.out.f 1 (by simp)
    have cc2 := Kc1.out.c 2 _ rfl
    have fc2 := Kc1.out.f 2 (by simp)
    have cc3 := Kc1.out.c 3 _ rfl
    have fc3 := Kc1.out.f 3 (by simp)
    have lc := Kc1.out.lt
    have cp0 := Kp1.out.c 0 _ rfl
    have fp0 := Kp1.out.f 0 (by simp)
    have cp1 := Kp1.out.c 1 _ rfl
    have fp1 := Kp1.out.f 1 (by simp)
    have cp2 := Kp1.out.c 2 _ rfl
    have fp2 := Kp1.out.f 2 (by simp)
    have cp3 := Kp1.out.c 3 _ rfl
    have fp3 := Kp1.out.f 3 (by simp)
    have lp := Kp1.out.lt
    go_wp2_with fail
    (try clear cx0 fx0 cx1 fx1 cx2 fx2 lx cr0 fr0 cr1 fr1 cr2 fr2 cr3 fr3 lr cc0 fc0 cc1 fc1 cc2 fc2 cc3 fc3 lc cp0 fp0 cp1 fp1 cp2 fp2 cp3 fp3 lp)
    refine (HL.out _).mono ?_
    rintro e w2 ⟨rfl, hg⟩
    have S2 := Lib.hid (S1.out.trans hg)
    have Kx2 := Lib.hid (Kx1.out.gr hg)
    have Kr2 := Lib.hid (Kr1.out.gr hg)
    have Kc2 := Lib.hid (Kc1.out.gr hg)
    have Kp2 := Lib.hid (Kp1.out.gr hg)
    clear hg
    have cx0 := Kx2.out.c 0 _ rfl
    have fx0 := Kx2.out.f 0 (by simp)
    have cx1 := Kx2.out.c 1 _ rfl
    have fx1 := Kx2.out.f 1 (by simp)
    have cx2 := Kx2.out.c 2 _ rfl
    have fx2 := Kx2.out.f 2 (by simp)
    have lx := Kx2.out.lt
    have cr0 := Kr2.out.c 0 _ rfl
    have fr0 := Kr2.out.f 0 (by simp)
    have cr1 := Kr2.out.c 1 _ rfl
    have fr1 := Kr2.out.f 1 (by simp)
    have cr2 := Kr2.out.c 2 _ rfl
    have fr2 := Kr2.out.f 2 (by simp)
    have cr3 := Kr2.out.c 3 _ rfl
    have fr3 := Kr2.out.f 3 (by simp)
    have lr := Kr2.out.lt
    have cc0 := Kc2.out.c 0 _ rfl
    have fc0 := Kc2.out.f 0 (by simp)
    have cc1 := Kc2.out.c 1 _ rfl
    have fc1 := Kc2.out.f 1 (by simp)
    have cc2 := Kc2.out.c 2 _ rfl
    have fc2 := Kc2.out.f 2 (by simp)
    have cc3 := Kc2.out.c 3 _ rfl
    have fc3 := Kc2.out.f 3 (by simp)
    have lc := Kc2.out.lt
    have cp0 := Kp2.out.c 0 _ rfl
    have fp0 := Kp2.out.f 0 (by simp)
    have cp1 := Kp2.out.c 1 _ rfl
    have fp1 := Kp2.out.f 1 (by simp)
    have cp2 := Kp2.out.c 2 _ rfl
    have fp2 := Kp2.out.f 2 (by simp)
    have cp3 := Kp2.out.c 3 _ rfl
    have fp3 := Kp2.out.f 3 (by simp)
    have lp := Kp2.out.lt
    go_wp2_with fail
    all_goals (try clear cx0 fx0 cx1 fx1 cx2 fx2 lx cr0 fr0 cr1 fr1 cr2 fr2 cr3 fr3 lr cc0 fc0 cc1 fc1 cc2 fc2 cc3 fc3 lc cp0 fp0 cp1 fp1 cp2 fp2 cp3 fp3 lp)
    refine (HM.out _).mono ?_
    rintro e w3 ⟨rfl, hg⟩
    have S3 := Lib.hid (S2.out.trans hg)
    have Kx3 := Lib.hid (Kx2.out.gr hg)
    have Kr3 := Lib.hid (Kr2.out.gr hg)
    have Kc3 := Lib.hid (Kc2.out.gr hg)
    have Kp3 := Lib.hid (Kp2.out.gr hg)
    clear hg
    have cx0 := Kx3.out.c 0 _ rfl
    have fx0 := Kx3.out.f 0 (by simp)
    have cx1 := Kx3.out.c 1 _ rfl
    have fx1 := Kx3.out.f 1 (by simp)
    have cx2 := Kx3.out.c 2 _ rfl
    have fx2 := Kx3.out.f 2 (by simp)
    have lx := Kx3.out.lt
    have cr0 := Kr3.out.c 0 _ rfl
    have fr0 := Kr3.out.f 0 (by simp)
    have cr1 := Kr3.out.c 1 _ rfl
    have fr1 := Kr3.out.f 1 (by simp)
    have cr2 := Kr3.out.c 2 _ rfl
    have fr2 := Kr3.out.f 2 (by simp)
    have cr3 := Kr3.out.c 3 _ rfl
    have fr3 := Kr3.out.f 3 (by simp)
    have lr := Kr3.out.lt
    have cc0 := Kc3.out.c 0 _ rfl
    have fc0 := Kc3.out.f 0 (by simp)
    have cc1 := Kc3.out.c 1 _ rfl
    have fc1 := Kc3.out.f 1 (by simp)
    have cc2 := Kc3.out.c 2 _ rfl
    have fc2 := Kc3.out.f 2 (by simp)
    have cc3 := Kc3.out.c 3 _ rfl
    have fc3 := Kc3.out.f 3 (by simp)
    have lc := Kc3.out.lt
    have cp0 := Kp3.out.c 0 _ rfl
    have fp0 := Kp3.out.f 0 (by simp)
    have cp1 := Kp3.out.c 1 _ rfl
    have fp1 := Kp3.out.f 1 (by simp)
    have cp2 := Kp3.out.c 2 _ rfl
    have fp2 := Kp3.out.f 2 (by simp)
    have cp3 := Kp3.out.c 3 _ rfl
    have fp3 := Kp3.out.f 3 (by simp)
    have lp := Kp3.out.lt
    go_wp2_with fail
    all_goals (try clear cx0 fx0 cx1 fx1 cx2 fx2 lx cr0 fr0 cr1 fr1 cr2 fr2 cr3 fr3 lr cc0 fc0 cc1 fc1 cc2 fc2 cc3 fc3 lc cp0 fp0 cp1 fp1 cp2 fp2 cp3 fp3 lp)
    refine (rAcked_any x.o x.k x.s x.c nn d _).mono ?_
    rintro e w4 ⟨rfl, hg⟩
    have S4 := Lib.hid (S3.out.trans hg)
    have Kx4 := Lib.hid (Kx3.out.gr hg)
    have Kr4 := Lib.hid (Kr3.out.gr hg)
    have Kc4 := Lib.hid (Kc3.out.gr hg)
    have Kp4 := Lib.hid (Kp3.out.gr hg)
    clear hg
    have cx0 := Kx4.out.c 0 _ rfl
    have fx0 := Kx4.out.f 0 (by simp)
    have cx1 := Kx4.out.c 1 _ rfl
    have fx1 := Kx4.out.f 1 (by simp)
    have cx2 := Kx4.out.c 2 _ rfl
    have fx2 := Kx4.out.f 2 (by simp)
    have lx := Kx4.out.lt
    have cr0 := Kr4.out.c 0 _ rfl
    have fr0 := Kr4.out.f 0 (by simp)
    have cr1 := Kr4.out.c 1 _ rfl
    have fr1 := Kr4.out.f 1 (by simp)
    have cr2 := Kr4.out.c 2 _ rfl
    have fr2 := Kr4.out.f 2 (by simp)
    have cr3 := Kr4.out.c 3 _ rfl
    have fr3 := Kr4.out.f 3 (by simp)
    have lr := Kr4.out.lt
    have cc0 := Kc4.out.c 0 _ rfl
    have fc0 := Kc4.out.f 0 (by simp)
    have cc1 := Kc4.out.c 1 _ rfl
    have fc1 := Kc4.out.f 1 (by simp)
    have cc2 := Kc4.out.c 2 _ rfl
    have fc2 := Kc4.out.f 2 (by simp)
    have cc3 := Kc4.out.c 3 _ rfl
    have fc3 := Kc4.out.f 3 (by simp)
    have lc := Kc4.out.lt
    have cp0 := Kp4.out.c 0 _ rfl
    have fp0 := Kp4.out.f 0 (by simp)
    have cp1 := Kp4.out.c 1 _ rfl
    have fp1 := Kp4.out.f 1 (by simp)
    have cp2 := Kp4.out.c 2 _ rfl
    have fp2 := Kp4.out.f 2 (by simp)
    have cp3 := Kp4.out.c 3 _ rfl
    have fp3 := Kp4.out.f 3 (by simp)
    have lp := Kp4.out.lt
    go_wp2_with fail
    have g0 : Gr w (((((w4).setCell ⟨w.heap.size + 1, 0, none⟩ (.int .i64 ((ac ⟨x.o, x.k, x.s, x.c⟩ nn d).1.o))).setCell ⟨w.heap.size + 1, 1, none⟩ (.int .i64 ((ac ⟨x.o, x.k, x.s, x.c⟩ nn d).1.k))).setCell ⟨w.heap.size + 1, 2, none⟩ (.int .i64 ((ac ⟨x.o, x.k, x.s, x.c⟩ nn d).1.s))).setCell ⟨w.heap.size + 1, 3, none⟩ (.int .i64 ((ac ⟨x.o, x.k, x.s, x.c⟩ nn d).1.c))) := (Gr.set ((Gr.set ((Gr.set ((Gr.set (S4.out) (p := ⟨w.heap.size + 1, 0, none⟩) (by simp) _)) (p := ⟨w.heap.size + 1, 1, none⟩) (by simp) _)) (p := ⟨w.heap.size + 1, 2, none⟩) (by simp) _)) (p := ⟨w.heap.size + 1, 3, none⟩) (by simp) _)
    have b0 : Bx (((((w4).setCell ⟨w.heap.size + 1, 0, none⟩ (.int .i64 ((ac ⟨x.o, x.k, x.s, x.c⟩ nn d).1.o))).setCell ⟨w.heap.size + 1, 1, none⟩ (.int .i64 ((ac ⟨x.o, x.k, x.s, x.c⟩ nn d).1.k))).setCell ⟨w.heap.size + 1, 2, none⟩ (.int .i64 ((ac ⟨x.o, x.k, x.s, x.c⟩ nn d).1.s))).setCell ⟨w.heap.size + 1, 3, none⟩ (.int .i64 ((ac ⟨x.o, x.k, x.s, x.c⟩ nn d).1.c))) (w.heap.size + 1) [.int .i64 ((ac ⟨x.o, x.k, x.s, x.c⟩ nn d).1.o), .int .i64 ((ac ⟨x.o, x.k, x.s, x.c⟩ nn d).1.k), .int .i64 ((ac ⟨x.o, x.k, x.s, x.c⟩ nn d).1.s), .int .i64 ((ac ⟨x.o, x.k, x.s, x.c⟩ nn d).1.c)] := (Kr4.out.set4 (.int .i64 ((ac ⟨x.o, x.k, x.s, x.c⟩ nn d).1.o)) (.int .i64 ((ac ⟨x.o, x.k, x.s, x.c⟩ nn d).1.k)) (.int .i64 ((ac ⟨x.o, x.k, x.s, x.c⟩ nn d).1.s)) (.int .i64 ((ac ⟨x.o, x.k, x.s, x.c⟩ nn d).1.c)))
    generalize ((((w4).setCell ⟨w.heap.size + 1, 0, none⟩ (.int .i64 ((ac ⟨x.o, x.k, x.s, x.c⟩ nn d).1.o))).setCell ⟨w.heap.size + 1, 1, none⟩ (.int .i64 ((ac ⟨x.o, x.k, x.s, x.c⟩ nn d).1.k))).setCell ⟨w.heap.size + 1, 2, none⟩ (.int .i64 ((ac ⟨x.o, x.k, x.s, x.c⟩ nn d).1.s))).setCell ⟨w.heap.size + 1, 3, none⟩ (.int .i64 ((ac ⟨x.o, x.k, x.s, x.c⟩ nn d).1.c)) = wz at g0 b0 ⊢
    have cr0 := b0.c 0 _ rfl
    have cr1 := b0.c 1 _ rfl
    have cr2 := b0.c 2 _ rfl
    have cr3 := b0.c 3 _ rfl
    refine bodyPost_ret (v := .tuple #[.agg #[.int .i64 ((ac ⟨x.o, x.k, x.s, x.c⟩ nn d).1.o), .int .i64 ((ac ⟨x.o, x.k, x.s, x.c⟩ nn d).1.k), .int .i64 ((ac ⟨x.o, x.k, x.s, x.c⟩ nn d).1.s), .int .i64 ((ac ⟨x.o, x.k, x.s, x.c⟩ nn d).1.c)], .int .i64 ((ac ⟨x.o, x.k, x.s, x.c⟩ nn d).2)]) (by simp [results, Try.results102, go_sem, cr0, cr1, cr2, cr3]) rfl ⟨rfl, g0⟩


set_option maxRecDepth 20000 in
set_option maxHeartbeats 2000000 in
theorem step_fe (g n cap b off cp i q : Nat) (x y : Sy) (nn : Int) (w : World) (lg : g < w.heap.size) (lb : b < w.heap.size) (h0 : 1 ≤ i) (h1 : i < n) (h2 : q < n)
    (hx : ∀ j u, x.cells[j]? = some u → w.cell? ⟨g, i * 4 + j, none⟩ = some u) (hy : ∀ j u, y.cells[j]? = some u → w.cell? ⟨g, q * 4 + j, none⟩ = some u) (hp : w.cell? ⟨b, off + i, none⟩ = some (.int .i64 (q : Int))) (er t : Int) (hm : inE y.o y.k nn 2120 = er) (ht : inN y.o y.k nn 2120 = t) (hne : er ≠ 0) :
    Calls Try.prog 102 #[.slice (some ⟨g, 0, none⟩) n cap, .slice (some ⟨b, off, none⟩) n cp, .agg #[.int .i64 (i : Int), .int .i64 nn, .bool false]] w fun e w' => e = .returned (.tuple #[.agg #[.int .i64 0, .int .i64 0, .int .i64 0, .int .i64 0], .int .i64 er]) ∧ Gr w w' := by
  have hl := rSend_any y.o y.k nn
  rw [hm, ht] at hl
  have HL := Lib.hid hl
  clear hl
  have er1 : (er != 0) = true := by rw [bne_iff_ne]; exact hne
  clear hm ht
  have e1 : decide ((i : Int) < 1) = false := decide_eq_false (by omega)
  have e2 : decide ((n : Int) ≤ i) = false := decide_eq_false (by omega)
  have e3 : decide (n ≤ i) = false := decide_eq_false (by omega)
  have e4 : decide ((i : Int) < n) = true := decide_eq_true (by omega)
  have e5 : decide ((q : Int) < n) = true := decide_eq_true (by omega)
  have HS : Hid (∀ Z, Gr w Z → Z.cell? ⟨g, i * 4, none⟩ = some (.int .i64 x.o) ∧ Z.cell? ⟨g, i * 4 + 1, none⟩ = some (.int .i64 x.k) ∧ Z.cell? ⟨g, i * 4 + 2, none⟩ = some (.int .i64 x.s) ∧ Z.cell? ⟨g, i * 4 + 3, none⟩ = some (.int .i64 x.c) ∧ Z.cell? ⟨g, q * 4, none⟩ = some (.int .i64 y.o) ∧ Z.cell? ⟨g, q * 4 + 1, none⟩ = some (.int .i64 y.k) ∧ Z.cell? ⟨g, q * 4 + 2, none⟩ = some (.int .i64 y.s) ∧ Z.cell? ⟨g, q * 4 + 3, none⟩ = some (.int .i64 y.c) ∧ Z.cell? ⟨b, off + i, none⟩ = some (.int .i64 (q : Int))) := Lib.hid (fun Z G => ⟨(G.cell lg _).trans (hx 0 _ rfl), (G.cell lg _).trans (hx 1 _ rfl), (G.cell lg _).trans (hx 2 _ rfl), (G.cell lg _).trans (hx 3 _ rfl), (G.cell lg _).trans (hy 0 _ rfl), (G.cell lg _).trans (hy 1 _ rfl), (G.cell lg _).trans (hy 2 _ rfl), (G.cell lg _).trans (hy 3 _ rfl), (G.cell lb _).trans hp⟩)
  clear hx hy hp
  go_enter Try.func102, Try.ntmps102
  go_wp2_with fail
  have g0 : Gr w ((w.alloc (Obj.cells #[.int .i64 (i : Int), .int .i64 nn, .bool false] 48)).alloc (Obj.cells #[.int .i64 0, .int .i64 0, .int .i64 0, .int .i64 0] 45)) := Gr.alloc (Gr.alloc (Gr.refl w) _) _
  have bx : Bx ((w.alloc (Obj.cells #[.int .i64 (i : Int), .int .i64 nn, .bool false] 48)).alloc (Obj.cells #[.int .i64 0, .int .i64 0, .int .i64 0, .int .i64 0] 45)) w.heap.size [.int .i64 (i : Int), .int .i64 nn, .bool false] := Bx.gr (Bx.new w _ 48) (Gr.alloc (Gr.refl _) _)
  have br : Bx ((w.alloc (Obj.cells #[.int .i64 (i : Int), .int .i64 nn, .bool false] 48)).alloc (Obj.cells #[.int .i64 0, .int .i64 0, .int .i64 0, .int .i64 0] 45)) (w.heap.size + 1) [.int .i64 0, .int .i64 0, .int .i64 0, .int .i64 0] := Bx.at_ (Bx.new (w.alloc _) _ 45) (by simp)
  generalize (w.alloc (Obj.cells #[.int .i64 (i : Int), .int .i64 nn, .bool false] 48)).alloc (Obj.cells #[.int .i64 0, .int .i64 0, .int .i64 0, .int .i64 0] 45) = W at g0 bx br ⊢
  have HJ : Hid (∀ Z, Gr W Z → (Z.cell? ⟨g, i * 4, none⟩ = some (.int .i64 x.o) ∧ Z.cell? ⟨g, i * 4 + 1, none⟩ = some (.int .i64 x.k) ∧ Z.cell? ⟨g, i * 4 + 2, none⟩ = some (.int .i64 x.s) ∧ Z.cell? ⟨g, i * 4 + 3, none⟩ = some (.int .i64 x.c) ∧ Z.cell? ⟨g, q * 4, none⟩ = some (.int .i64 y.o) ∧ Z.cell? ⟨g, q * 4 + 1, none⟩ = some (.int .i64 y.k) ∧ Z.cell? ⟨g, q * 4 + 2, none⟩ = some (.int .i64 y.s) ∧ Z.cell? ⟨g, q * 4 + 3, none⟩ = some (.int .i64 y.c) ∧ Z.cell? ⟨b, off + i, none⟩ = some (.int .i64 (q : Int)) ∧ Z.cell? ⟨w.heap.size, 0, none⟩ = some (.int .i64 (i : Int)) ∧ Z.cell? ⟨w.heap.size, 1, none⟩ = some (.int .i64 nn) ∧ Z.cell? ⟨w.heap.size, 2, none⟩ = some (.bool false) ∧ Z.cell? ⟨w.heap.size + 1, 0, none⟩ = some (.int .i64 0) ∧ Z.cell? ⟨w.heap.size + 1, 1, none⟩ = some (.int .i64 0) ∧ Z.cell? ⟨w.heap.size + 1, 2, none⟩ = some (.int .i64 0) ∧ Z.cell? ⟨w.heap.size + 1, 3, none⟩ = some (.int .i64 0) ∧ Hid (Gr W Z))) := Lib.hid (fun Z G => by
    obtain ⟨z0, z1, z2, z3, z4, z5, z6, z7, z8⟩ := HS.out Z (g0.trans G)
    have bz := bx.gr G
    have rz := br.gr G
    exact ⟨z0, z1, z2, z3, z4, z5, z6, z7, z8, bz.c 0 _ rfl, bz.c 1 _ rfl, bz.c 2 _ rfl, rz.c 0 _ rfl, rz.c 1 _ rfl, rz.c 2 _ rfl, rz.c 3 _ rfl, Lib.hid G⟩)
  have S0 := Lib.hid g0
  have Kx0 := Lib.hid bx
  have Kr0 := Lib.hid br
  clear g0 bx br HS
  obtain ⟨z0, z1, z2, z3, z4, z5, z6, z7, z8, z9, z10, z11, z12, z13, z14, z15, _⟩ := HJ.out W (Gr.refl W)
  go_region_held3 (fun Z => Z.cell? ⟨g, i * 4, none⟩ = some (.int .i64 x.o) ∧ Z.cell? ⟨g, i * 4 + 1, none⟩ = some (.int .i64 x.k) ∧ Z.cell? ⟨g, i * 4 + 2, none⟩ = some (.int .i64 x.s) ∧ Z.cell? ⟨g, i * 4 + 3, none⟩ = some (.int .i64 x.c) ∧ Z.cell? ⟨g, q * 4, none⟩ = some (.int .i64 y.o) ∧ Z.cell? ⟨g, q * 4 + 1, none⟩ = some (.int .i64 y.k) ∧ Z.cell? ⟨g, q * 4 + 2, none⟩ = some (.int .i64 y.s) ∧ Z.cell? ⟨g, q * 4 + 3, none⟩ = some (.int .i64 y.c) ∧ Z.cell? ⟨b, off + i, none⟩ = some (.int .i64 (q : Int)) ∧ Z.cell? ⟨w.heap.size, 0, none⟩ = some (.int .i64 (i : Int)) ∧ Z.cell? ⟨w.heap.size, 1, none⟩ = some (.int .i64 nn) ∧ Z.cell? ⟨w.heap.size, 2, none⟩ = some (.bool false) ∧ Z.cell? ⟨w.heap.size + 1, 0, none⟩ = some (.int .i64 0) ∧ Z.cell? ⟨w.heap.size + 1, 1, none⟩ = some (.int .i64 0) ∧ Z.cell? ⟨w.heap.size + 1, 2, none⟩ = some (.int .i64 0) ∧ Z.cell? ⟨w.heap.size + 1, 3, none⟩ = some (.int .i64 0) ∧ Hid (Gr W Z)) (first | exact HJ.out _ (by repeat (first | exact Gr.refl _ | apply Gr.drew | apply Gr.alloc | refine Gr.set ?_ (by simp) _))) (fail)
  all_goals first
    | (with_reducible show Exit.then _ _ _ _ (((W.alloc (Obj.cells #[.int .i64 x.o, .int .i64 x.k, .int .i64 x.s, .int .i64 x.c] 45)).alloc (Obj.cells #[.int .i64 y.o, .int .i64 y.k, .int .i64 y.s, .int .i64 y.c] 45)).drew); have g1 : Gr W (((W.alloc (Obj.cells #[.int .i64 x.o, .int .i64 x.k, .int .i64 x.s, .int .i64 x.c] 45)).alloc (Obj.cells #[.int .i64 y.o, .int .i64 y.k, .int .i64 y.s, .int .i64 y.c] 45)).drew) := Gr.drew (Gr.alloc (Gr.alloc (Gr.refl W) _) _); have bc : Bx (((W.alloc (Obj.cells #[.int .i64 x.o, .int .i64 x.k, .int .i64 x.s, .int .i64 x.c] 45)).alloc (Obj.cells #[.int .i64 y.o, .int .i64 y.k, .int .i64 y.s, .int .i64 y.c] 45)).drew) W.heap.size [.int .i64 x.o, .int .i64 x.k, .int .i64 x.s, .int .i64 x.c] := Bx.gr (Bx.new W _ 45) (Gr.drew (Gr.alloc (Gr.refl _) _)); have bp : Bx (((W.alloc (Obj.cells #[.int .i64 x.o, .int .i64 x.k, .int .i64 x.s, .int .i64 x.c] 45)).alloc (Obj.cells #[.int .i64 y.o, .int .i64 y.k, .int .i64 y.s, .int .i64 y.c] 45)).drew) (W.heap.size + 1) [.int .i64 y.o, .int .i64 y.k, .int .i64 y.s, .int .i64 y.c] := Bx.gr (Bx.at_ (Bx.new (W.alloc (Obj.cells #[.int .i64 x.o, .int .i64 x.k, .int .i64 x.s, .int .i64 x.c] 45)) _ 45) (by simp)) (Gr.drew (Gr.refl _)); generalize ((W.alloc (Obj.cells #[.int .i64 x.o, .int .i64 x.k, .int .i64 x.s, .int .i64 x.c] 45)).alloc (Obj.cells #[.int .i64 y.o, .int .i64 y.k, .int .i64 y.s, .int .i64 y.c] 45)).drew = w1 at g1 bc bp ⊢; generalize W.heap.size + 1 = pb at bp ⊢; generalize W.heap.size = cb at bc ⊢; skip)
    | (with_reducible show Exit.then _ _ _ _ (((W.alloc (Obj.cells #[.int .i64 y.o, .int .i64 y.k, .int .i64 y.s, .int .i64 y.c] 45)).alloc (Obj.cells #[.int .i64 x.o, .int .i64 x.k, .int .i64 x.s, .int .i64 x.c] 45)).drew); have g1 : Gr W (((W.alloc (Obj.cells #[.int .i64 y.o, .int .i64 y.k, .int .i64 y.s, .int .i64 y.c] 45)).alloc (Obj.cells #[.int .i64 x.o, .int .i64 x.k, .int .i64 x.s, .int .i64 x.c] 45)).drew) := Gr.drew (Gr.alloc (Gr.alloc (Gr.refl W) _) _); have bp : Bx (((W.alloc (Obj.cells #[.int .i64 y.o, .int .i64 y.k, .int .i64 y.s, .int .i64 y.c] 45)).alloc (Obj.cells #[.int .i64 x.o, .int .i64 x.k, .int .i64 x.s, .int .i64 x.c] 45)).drew) W.heap.size [.int .i64 y.o, .int .i64 y.k, .int .i64 y.s, .int .i64 y.c] := Bx.gr (Bx.new W _ 45) (Gr.drew (Gr.alloc (Gr.refl _) _)); have bc : Bx (((W.alloc (Obj.cells #[.int .i64 y.o, .int .i64 y.k, .int .i64 y.s, .int .i64 y.c] 45)).alloc (Obj.cells #[.int .i64 x.o, .int .i64 x.k, .int .i64 x.s, .int .i64 x.c] 45)).drew) (W.heap.size + 1) [.int .i64 x.o, .int .i64 x.k, .int .i64 x.s, .int .i64 x.c] := Bx.gr (Bx.at_ (Bx.new (W.alloc (Obj.cells #[.int .i64 y.o, .int .i64 y.k, .int .i64 y.s, .int .i64 y.c] 45)) _ 45) (by simp)) (Gr.drew (Gr.refl _)); generalize ((W.alloc (Obj.cells #[.int .i64 y.o, .int .i64 y.k, .int .i64 y.s, .int .i64 y.c] 45)).alloc (Obj.cells #[.int .i64 x.o, .int .i64 x.k, .int .i64 x.s, .int .i64 x.c] 45)).drew = w1 at g1 bc bp ⊢; generalize W.heap.size + 1 = cb at bc ⊢; generalize W.heap.size = pb at bp ⊢; skip)
  all_goals clear HJ z0 z1 z2 z3 z4 z5 z6 z7 z8 z9 z10 z11 z12 z13 z14 z15
  all_goals
    have S1 := Lib.hid (S0.out.trans g1)
    have Kx1 := Lib.hid (Kx0.out.gr g1)
    have Kr1 := Lib.hid (Kr0.out.gr g1)
    have Kc1 := Lib.hid bc
    have Kp1 := Lib.hid bp
    clear g1 bc bp
    have cx0 := Kx1.out.c 0 _ rfl
    have fx0 := Kx1.out.f 0 (by simp)
    have cx1 := Kx1.out.c 1 _ rfl
    have fx1 := Kx1.out.f 1 (by simp)
    have cx2 := Kx1.out.c 2 _ rfl
    have fx2 := Kx1.out.f 2 (by simp)
    have lx := Kx1.out.lt
    have cr0 := Kr1.out.c 0 _ rfl
    have fr0 := Kr1.out.f 0 (by simp)
    have cr1 := Kr1.out.c 1 _ rfl
    have fr1 := Kr1.out.f 1 (by simp)
    have cr2 := Kr1.out.c 2 _ rfl
    have fr2 := Kr1.out.f 2 (by simp)
    have cr3 := Kr1.out.c 3 _ rfl
    have fr3 := Kr1.out.f 3 (by simp)
    have lr := Kr1.out.lt
    have cc0 := Kc1.out.c 0 _ rfl
    have fc0 := Kc1.out.f 0 (by simp)
    have cc1 := Kc1.out.c 1 _ rfl
    have fc1 := Kc1.out.f 1 (by simp)
    have cc2 := Kc1.out.c 2 _ rfl
    have fc2 := Kc1.out.f 2 (by simp)
    have cc3 := Kc1.out.c 3 _ rfl
    have fc3 := Kc1.out.f 3 (by simp)
    have lc := Kc1.out.lt
    have cp0 := Kp1.out.c 0 _ rfl
    have fp0 := Kp1.out.f 0 (by simp)
    have cp1 := Kp1.out.c 1 _ rfl
    have fp1 := Kp1.out.f 1 (by simp)
    have cp2 := Kp1.out.c 2 _ rfl
    have fp2 := Kp1.out.f 2 (by simp)
    have cp3 := Kp1.out.c 3 _ rfl
    have fp3 := Kp1.out.f 3 (by simp)
    have lp := Kp1.out.lt
    go_wp2_with fail
    (try clear cx0 fx0 cx1 fx1 cx2 fx2 lx cr0 fr0 cr1 fr1 cr2 fr2 cr3 fr3 lr cc0 fc0 cc1 fc1 cc2 fc2 cc3 fc3 lc cp0 fp0 cp1 fp1 cp2 fp2 cp3 fp3 lp)
    refine (HL.out _).mono ?_
    rintro e w2 ⟨rfl, hg⟩
    have S2 := Lib.hid (S1.out.trans hg)
    have Kx2 := Lib.hid (Kx1.out.gr hg)
    have Kr2 := Lib.hid (Kr1.out.gr hg)
    have Kc2 := Lib.hid (Kc1.out.gr hg)
    have Kp2 := Lib.hid (Kp1.out.gr hg)
    clear hg
    have cx0 := Kx2.out.c 0 _ rfl
    have fx0 := Kx2.out.f 0 (by simp)
    have cx1 := Kx2.out.c 1 _ rfl
    have fx1 := Kx2.out.f 1 (by simp)
    have cx2 := Kx2.out.c 2 _ rfl
    have fx2 := Kx2.out.f 2 (by simp)
    have lx := Kx2.out.lt
    have cr0 := Kr2.out.c 0 _ rfl
    have fr0 := Kr2.out.f 0 (by simp)
    have cr1 := Kr2.out.c 1 _ rfl
    have fr1 := Kr2.out.f 1 (by simp)
    have cr2 := Kr2.out.c 2 _ rfl
    have fr2 := Kr2.out.f 2 (by simp)
    have cr3 := Kr2.out.c 3 _ rfl
    have fr3 := Kr2.out.f 3 (by simp)
    have lr := Kr2.out.lt
    have cc0 := Kc2.out.c 0 _ rfl
    have fc0 := Kc2.out.f 0 (by simp)
    have cc1 := Kc2.out.c 1 _ rfl
    have fc1 := Kc2.out.f 1 (by simp)
    have cc2 := Kc2.out.c 2 _ rfl
    have fc2 := Kc2.out.f 2 (by simp)
    have cc3 := Kc2.out.c 3 _ rfl
    have fc3 := Kc2.out.f 3 (by simp)
    have lc := Kc2.out.lt
    have cp0 := Kp2.out.c 0 _ rfl
    have fp0 := Kp2.out.f 0 (by simp)
    have cp1 := Kp2.out.c 1 _ rfl
    have fp1 := Kp2.out.f 1 (by simp)
    have cp2 := Kp2.out.c 2 _ rfl
    have fp2 := Kp2.out.f 2 (by simp)
    have cp3 := Kp2.out.c 3 _ rfl
    have fp3 := Kp2.out.f 3 (by simp)
    have lp := Kp2.out.lt
    go_wp2_with fail
    all_goals (try clear cx0 fx0 cx1 fx1 cx2 fx2 lx cr0 fr0 cr1 fr1 cr2 fr2 cr3 fr3 lr cc0 fc0 cc1 fc1 cc2 fc2 cc3 fc3 lc cp0 fp0 cp1 fp1 cp2 fp2 cp3 fp3 lp)
    have g0 : Gr w (((((w2).setCell ⟨w.heap.size + 1, 0, none⟩ (.int .i64 0)).setCell ⟨w.heap.size + 1, 1, none⟩ (.int .i64 0)).setCell ⟨w.heap.size + 1, 2, none⟩ (.int .i64 0)).setCell ⟨w.heap.size + 1, 3, none⟩ (.int .i64 0)) := (Gr.set ((Gr.set ((Gr.set ((Gr.set (S2.out) (p := ⟨w.heap.size + 1, 0, none⟩) (by simp) _)) (p := ⟨w.heap.size + 1, 1, none⟩) (by simp) _)) (p := ⟨w.heap.size + 1, 2, none⟩) (by simp) _)) (p := ⟨w.heap.size + 1, 3, none⟩) (by simp) _)
    have b0 : Bx (((((w2).setCell ⟨w.heap.size + 1, 0, none⟩ (.int .i64 0)).setCell ⟨w.heap.size + 1, 1, none⟩ (.int .i64 0)).setCell ⟨w.heap.size + 1, 2, none⟩ (.int .i64 0)).setCell ⟨w.heap.size + 1, 3, none⟩ (.int .i64 0)) (w.heap.size + 1) [.int .i64 0, .int .i64 0, .int .i64 0, .int .i64 0] := (Kr2.out.set4 (.int .i64 0) (.int .i64 0) (.int .i64 0) (.int .i64 0))
    generalize ((((w2).setCell ⟨w.heap.size + 1, 0, none⟩ (.int .i64 0)).setCell ⟨w.heap.size + 1, 1, none⟩ (.int .i64 0)).setCell ⟨w.heap.size + 1, 2, none⟩ (.int .i64 0)).setCell ⟨w.heap.size + 1, 3, none⟩ (.int .i64 0) = wz at g0 b0 ⊢
    have cr0 := b0.c 0 _ rfl
    have cr1 := b0.c 1 _ rfl
    have cr2 := b0.c 2 _ rfl
    have cr3 := b0.c 3 _ rfl
    refine bodyPost_ret (v := .tuple #[.agg #[.int .i64 0, .int .i64 0, .int .i64 0, .int .i64 0], .int .i64 er]) (by simp [results, Try.results102, go_sem, cr0, cr1, cr2, cr3]) rfl ⟨rfl, g0⟩


set_option maxRecDepth 20000 in
set_option maxHeartbeats 2000000 in
theorem step_fo (g n cap b off cp i q : Nat) (x y : Sy) (nn : Int) (w : World) (lg : g < w.heap.size) (lb : b < w.heap.size) (h0 : 1 ≤ i) (h1 : i < n) (h2 : q < n)
    (hx : ∀ j u, x.cells[j]? = some u → w.cell? ⟨g, i * 4 + j, none⟩ = some u) (hy : ∀ j u, y.cells[j]? = some u → w.cell? ⟨g, q * 4 + j, none⟩ = some u) (hp : w.cell? ⟨b, off + i, none⟩ = some (.int .i64 (q : Int))) (t : Int) (hm : inE y.o y.k nn 2120 = 0) (ht : inN y.o y.k nn 2120 = t) :
    Calls Try.prog 102 #[.slice (some ⟨g, 0, none⟩) n cap, .slice (some ⟨b, off, none⟩) n cp, .agg #[.int .i64 (i : Int), .int .i64 nn, .bool false]] w fun e w' => e = .returned (.tuple #[(.agg #[.int .i64 (he ⟨x.o, x.k, x.s, x.c⟩ nn t).1.o, .int .i64 (he ⟨x.o, x.k, x.s, x.c⟩ nn t).1.k, .int .i64 (he ⟨x.o, x.k, x.s, x.c⟩ nn t).1.s, .int .i64 (he ⟨x.o, x.k, x.s, x.c⟩ nn t).1.c]), .int .i64 (he ⟨x.o, x.k, x.s, x.c⟩ nn t).2]) ∧ Gr w w' := by
  have hl := rSend_any y.o y.k nn
  rw [hm, ht] at hl
  have HL := Lib.hid hl
  clear hl
  clear hm ht
  have e1 : decide ((i : Int) < 1) = false := decide_eq_false (by omega)
  have e2 : decide ((n : Int) ≤ i) = false := decide_eq_false (by omega)
  have e3 : decide (n ≤ i) = false := decide_eq_false (by omega)
  have e4 : decide ((i : Int) < n) = true := decide_eq_true (by omega)
  have e5 : decide ((q : Int) < n) = true := decide_eq_true (by omega)
  have HS : Hid (∀ Z, Gr w Z → Z.cell? ⟨g, i * 4, none⟩ = some (.int .i64 x.o) ∧ Z.cell? ⟨g, i * 4 + 1, none⟩ = some (.int .i64 x.k) ∧ Z.cell? ⟨g, i * 4 + 2, none⟩ = some (.int .i64 x.s) ∧ Z.cell? ⟨g, i * 4 + 3, none⟩ = some (.int .i64 x.c) ∧ Z.cell? ⟨g, q * 4, none⟩ = some (.int .i64 y.o) ∧ Z.cell? ⟨g, q * 4 + 1, none⟩ = some (.int .i64 y.k) ∧ Z.cell? ⟨g, q * 4 + 2, none⟩ = some (.int .i64 y.s) ∧ Z.cell? ⟨g, q * 4 + 3, none⟩ = some (.int .i64 y.c) ∧ Z.cell? ⟨b, off + i, none⟩ = some (.int .i64 (q : Int))) := Lib.hid (fun Z G => ⟨(G.cell lg _).trans (hx 0 _ rfl), (G.cell lg _).trans (hx 1 _ rfl), (G.cell lg _).trans (hx 2 _ rfl), (G.cell lg _).trans (hx 3 _ rfl), (G.cell lg _).trans (hy 0 _ rfl), (G.cell lg _).trans (hy 1 _ rfl), (G.cell lg _).trans (hy 2 _ rfl), (G.cell lg _).trans (hy 3 _ rfl), (G.cell lb _).trans hp⟩)
  clear hx hy hp
  go_enter Try.func102, Try.ntmps102
  go_wp2_with fail
  have g0 : Gr w ((w.alloc (Obj.cells #[.int .i64 (i : Int), .int .i64 nn, .bool false] 48)).alloc (Obj.cells #[.int .i64 0, .int .i64 0, .int .i64 0, .int .i64 0] 45)) := Gr.alloc (Gr.alloc (Gr.refl w) _) _
  have bx : Bx ((w.alloc (Obj.cells #[.int .i64 (i : Int), .int .i64 nn, .bool false] 48)).alloc (Obj.cells #[.int .i64 0, .int .i64 0, .int .i64 0, .int .i64 0] 45)) w.heap.size [.int .i64 (i : Int), .int .i64 nn, .bool false] := Bx.gr (Bx.new w _ 48) (Gr.alloc (Gr.refl _) _)
  have br : Bx ((w.alloc (Obj.cells #[.int .i64 (i : Int), .int .i64 nn, .bool false] 48)).alloc (Obj.cells #[.int .i64 0, .int .i64 0, .int .i64 0, .int .i64 0] 45)) (w.heap.size + 1) [.int .i64 0, .int .i64 0, .int .i64 0, .int .i64 0] := Bx.at_ (Bx.new (w.alloc _) _ 45) (by simp)
  generalize (w.alloc (Obj.cells #[.int .i64 (i : Int), .int .i64 nn, .bool false] 48)).alloc (Obj.cells #[.int .i64 0, .int .i64 0, .int .i64 0, .int .i64 0] 45) = W at g0 bx br ⊢
  have HJ : Hid (∀ Z, Gr W Z → (Z.cell? ⟨g, i * 4, none⟩ = some (.int .i64 x.o) ∧ Z.cell? ⟨g, i * 4 + 1, none⟩ = some (.int .i64 x.k) ∧ Z.cell? ⟨g, i * 4 + 2, none⟩ = some (.int .i64 x.s) ∧ Z.cell? ⟨g, i * 4 + 3, none⟩ = some (.int .i64 x.c) ∧ Z.cell? ⟨g, q * 4, none⟩ = some (.int .i64 y.o) ∧ Z.cell? ⟨g, q * 4 + 1, none⟩ = some (.int .i64 y.k) ∧ Z.cell? ⟨g, q * 4 + 2, none⟩ = some (.int .i64 y.s) ∧ Z.cell? ⟨g, q * 4 + 3, none⟩ = some (.int .i64 y.c) ∧ Z.cell? ⟨b, off + i, none⟩ = some (.int .i64 (q : Int)) ∧ Z.cell? ⟨w.heap.size, 0, none⟩ = some (.int .i64 (i : Int)) ∧ Z.cell? ⟨w.heap.size, 1, none⟩ = some (.int .i64 nn) ∧ Z.cell? ⟨w.heap.size, 2, none⟩ = some (.bool false) ∧ Z.cell? ⟨w.heap.size + 1, 0, none⟩ = some (.int .i64 0) ∧ Z.cell? ⟨w.heap.size + 1, 1, none⟩ = some (.int .i64 0) ∧ Z.cell? ⟨w.heap.size + 1, 2, none⟩ = some (.int .i64 0) ∧ Z.cell? ⟨w.heap.size + 1, 3, none⟩ = some (.int .i64 0) ∧ Hid (Gr W Z))) := Lib.hid (fun Z G => by
    obtain ⟨z0, z1, z2, z3, z4, z5, z6, z7, z8⟩ := HS.out Z (g0.trans G)
    have bz := bx.gr G
    have rz := br.gr G
    exact ⟨z0, z1, z2, z3, z4, z5, z6, z7, z8, bz.c 0 _ rfl, bz.c 1 _ rfl, bz.c 2 _ rfl, rz.c 0 _ rfl, rz.c 1 _ rfl, rz.c 2 _ rfl, rz.c 3 _ rfl, Lib.hid G⟩)
  have S0 := Lib.hid g0
  have Kx0 := Lib.hid bx
  have Kr0 := Lib.hid br
  clear g0 bx br HS
  obtain ⟨z0, z1, z2, z3, z4, z5, z6, z7, z8, z9, z10, z11, z12, z13, z14, z15, _⟩ := HJ.out W (Gr.refl W)
  go_region_held3 (fun Z => Z.cell? ⟨g, i * 4, none⟩ = some (.int .i64 x.o) ∧ Z.cell? ⟨g, i * 4 + 1, none⟩ = some (.int .i64 x.k) ∧ Z.cell? ⟨g, i * 4 + 2, none⟩ = some (.int .i64 x.s) ∧ Z.cell? ⟨g, i * 4 + 3, none⟩ = some (.int .i64 x.c) ∧ Z.cell? ⟨g, q * 4, none⟩ = some (.int .i64 y.o) ∧ Z.cell? ⟨g, q * 4 + 1, none⟩ = some (.int .i64 y.k) ∧ Z.cell? ⟨g, q * 4 + 2, none⟩ = some (.int .i64 y.s) ∧ Z.cell? ⟨g, q * 4 + 3, none⟩ = some (.int .i64 y.c) ∧ Z.cell? ⟨b, off + i, none⟩ = some (.int .i64 (q : Int)) ∧ Z.cell? ⟨w.heap.size, 0, none⟩ = some (.int .i64 (i : Int)) ∧ Z.cell? ⟨w.heap.size, 1, none⟩ = some (.int .i64 nn) ∧ Z.cell? ⟨w.heap.size, 2, none⟩ = some (.bool false) ∧ Z.cell? ⟨w.heap.size + 1, 0, none⟩ = some (.int .i64 0) ∧ Z.cell? ⟨w.heap.size + 1, 1, none⟩ = some (.int .i64 0) ∧ Z.cell? ⟨w.heap.size + 1, 2, none⟩ = some (.int .i64 0) ∧ Z.cell? ⟨w.heap.size + 1, 3, none⟩ = some (.int .i64 0) ∧ Hid (Gr W Z)) (first | exact HJ.out _ (by repeat (first | exact Gr.refl _ | apply Gr.drew | apply Gr.alloc | refine Gr.set ?_ (by simp) _))) (fail)
  all_goals first
    | (with_reducible show Exit.then _ _ _ _ (((W.alloc (Obj.cells #[.int .i64 x.o, .int .i64 x.k, .int .i64 x.s, .int .i64 x.c] 45)).alloc (Obj.cells #[.int .i64 y.o, .int .i64 y.k, .int .i64 y.s, .int .i64 y.c] 45)).drew); have g1 : Gr W (((W.alloc (Obj.cells #[.int .i64 x.o, .int .i64 x.k, .int .i64 x.s, .int .i64 x.c] 45)).alloc (Obj.cells #[.int .i64 y.o, .int .i64 y.k, .int .i64 y.s, .int .i64 y.c] 45)).drew) := Gr.drew (Gr.alloc (Gr.alloc (Gr.refl W) _) _); have bc : Bx (((W.alloc (Obj.cells #[.int .i64 x.o, .int .i64 x.k, .int .i64 x.s, .int .i64 x.c] 45)).alloc (Obj.cells #[.int .i64 y.o, .int .i64 y.k, .int .i64 y.s, .int .i64 y.c] 45)).drew) W.heap.size [.int .i64 x.o, .int .i64 x.k, .int .i64 x.s, .int .i64 x.c] := Bx.gr (Bx.new W _ 45) (Gr.drew (Gr.alloc (Gr.refl _) _)); have bp : Bx (((W.alloc (Obj.cells #[.int .i64 x.o, .int .i64 x.k, .int .i64 x.s, .int .i64 x.c] 45)).alloc (Obj.cells #[.int .i64 y.o, .int .i64 y.k, .int .i64 y.s, .int .i64 y.c] 45)).drew) (W.heap.size + 1) [.int .i64 y.o, .int .i64 y.k, .int .i64 y.s, .int .i64 y.c] := Bx.gr (Bx.at_ (Bx.new (W.alloc (Obj.cells #[.int .i64 x.o, .int .i64 x.k, .int .i64 x.s, .int .i64 x.c] 45)) _ 45) (by simp)) (Gr.drew (Gr.refl _)); generalize ((W.alloc (Obj.cells #[.int .i64 x.o, .int .i64 x.k, .int .i64 x.s, .int .i64 x.c] 45)).alloc (Obj.cells #[.int .i64 y.o, .int .i64 y.k, .int .i64 y.s, .int .i64 y.c] 45)).drew = w1 at g1 bc bp ⊢; generalize W.heap.size + 1 = pb at bp ⊢; generalize W.heap.size = cb at bc ⊢; skip)
    | (with_reducible show Exit.then _ _ _ _ (((W.alloc (Obj.cells #[.int .i64 y.o, .int .i64 y.k, .int .i64 y.s, .int .i64 y.c] 45)).alloc (Obj.cells #[.int .i64 x.o, .int .i64 x.k, .int .i64 x.s, .int .i64 x.c] 45)).drew); have g1 : Gr W (((W.alloc (Obj.cells #[.int .i64 y.o, .int .i64 y.k, .int .i64 y.s, .int .i64 y.c] 45)).alloc (Obj.cells #[.int .i64 x.o, .int .i64 x.k, .int .i64 x.s, .int .i64 x.c] 45)).drew) := Gr.drew (Gr.alloc (Gr.alloc (Gr.refl W) _) _); have bp : Bx (((W.alloc (Obj.cells #[.int .i64 y.o, .int .i64 y.k, .int .i64 y.s, .int .i64 y.c] 45)).alloc (Obj.cells #[.int .i64 x.o, .int .i64 x.k, .int .i64 x.s, .int .i64 x.c] 45)).drew) W.heap.size [.int .i64 y.o, .int .i64 y.k, .int .i64 y.s, .int .i64 y.c] := Bx.gr (Bx.new W _ 45) (Gr.drew (Gr.alloc (Gr.refl _) _)); have bc : Bx (((W.alloc (Obj.cells #[.int .i64 y.o, .int .i64 y.k, .int .i64 y.s, .int .i64 y.c] 45)).alloc (Obj.cells #[.int .i64 x.o, .int .i64 x.k, .int .i64 x.s, .int .i64 x.c] 45)).drew) (W.heap.size + 1) [.int .i64 x.o, .int .i64 x.k, .int .i64 x.s, .int .i64 x.c] := Bx.gr (Bx.at_ (Bx.new (W.alloc (Obj.cells #[.int .i64 y.o, .int .i64 y.k, .int .i64 y.s, .int .i64 y.c] 45)) _ 45) (by simp)) (Gr.drew (Gr.refl _)); generalize ((W.alloc (Obj.cells #[.int .i64 y.o, .int .i64 y.k, .int .i64 y.s, .int .i64 y.c] 45)).alloc (Obj.cells #[.int .i64 x.o, .int .i64 x.k, .int .i64 x.s, .int .i64 x.c] 45)).drew = w1 at g1 bc bp ⊢; generalize W.heap.size + 1 = cb at bc ⊢; generalize W.heap.size = pb at bp ⊢; skip)
  all_goals clear HJ z0 z1 z2 z3 z4 z5 z6 z7 z8 z9 z10 z11 z12 z13 z14 z15
  all_goals
    have S1 := Lib.hid (S0.out.trans g1)
    have Kx1 := Lib.hid (Kx0.out.gr g1)
    have Kr1 := Lib.hid (Kr0.out.gr g1)
    have Kc1 := Lib.hid bc
    have Kp1 := Lib.hid bp
    clear g1 bc bp
    have cx0 := Kx1.out.c 0 _ rfl
    have fx0 := Kx1.out.f 0 (by simp)
    have cx1 := Kx1.out.c 1 _ rfl
    have fx1 := Kx1.out.f 1 (by simp)
    have cx2 := Kx1.out.c 2 _ rfl
    have fx2 := Kx1.out.f 2 (by simp)
    have lx := Kx1.out.lt
    have cr0 := Kr1.out.c 0 _ rfl
    have fr0 := Kr1.out.f 0 (by simp)
    have cr1 := Kr1.out.c 1 _ rfl
    have fr1 := Kr1.out.f 1 (by simp)
    have cr2 := Kr1.out.c 2 _ rfl
    have fr2 := Kr1.out.f 2 (by simp)
    have cr3 := Kr1.out.c 3 _ rfl
    have fr3 := Kr1.out.f 3 (by simp)
    have lr := Kr1.out.lt
    have cc0 := Kc1.out.c 0 _ rfl
    have fc0 := Kc1.out.f 0 (by simp)
    have cc1 := Kc1.out.c 1 _ rfl
    have fc1 := Kc1.out.f 1 (by simp)
    have cc2 := Kc1.out.c 2 _ rfl
    have fc2 := Kc1.out.f 2 (by simp)
    have cc3 := Kc1.out.c 3 _ rfl
    have fc3 := Kc1.out.f 3 (by simp)
    have lc := Kc1.out.lt
    have cp0 := Kp1.out.c 0 _ rfl
    have fp0 := Kp1.out.f 0 (by simp)
    have cp1 := Kp1.out.c 1 _ rfl
    have fp1 := Kp1.out.f 1 (by simp)
    have cp2 := Kp1.out.c 2 _ rfl
    have fp2 := Kp1.out.f 2 (by simp)
    have cp3 := Kp1.out.c 3 _ rfl
    have fp3 := Kp1.out.f 3 (by simp)
    have lp := Kp1.out.lt
    go_wp2_with fail
    (try clear cx0 fx0 cx1 fx1 cx2 fx2 lx cr0 fr0 cr1 fr1 cr2 fr2 cr3 fr3 lr cc0 fc0 cc1 fc1 cc2 fc2 cc3 fc3 lc cp0 fp0 cp1 fp1 cp2 fp2 cp3 fp3 lp)
    refine (HL.out _).mono ?_
    rintro e w2 ⟨rfl, hg⟩
    have S2 := Lib.hid (S1.out.trans hg)
    have Kx2 := Lib.hid (Kx1.out.gr hg)
    have Kr2 := Lib.hid (Kr1.out.gr hg)
    have Kc2 := Lib.hid (Kc1.out.gr hg)
    have Kp2 := Lib.hid (Kp1.out.gr hg)
    clear hg
    have cx0 := Kx2.out.c 0 _ rfl
    have fx0 := Kx2.out.f 0 (by simp)
    have cx1 := Kx2.out.c 1 _ rfl
    have fx1 := Kx2.out.f 1 (by simp)
    have cx2 := Kx2.out.c 2 _ rfl
    have fx2 := Kx2.out.f 2 (by simp)
    have lx := Kx2.out.lt
    have cr0 := Kr2.out.c 0 _ rfl
    have fr0 := Kr2.out.f 0 (by simp)
    have cr1 := Kr2.out.c 1 _ rfl
    have fr1 := Kr2.out.f 1 (by simp)
    have cr2 := Kr2.out.c 2 _ rfl
    have fr2 := Kr2.out.f 2 (by simp)
    have cr3 := Kr2.out.c 3 _ rfl
    have fr3 := Kr2.out.f 3 (by simp)
    have lr := Kr2.out.lt
    have cc0 := Kc2.out.c 0 _ rfl
    have fc0 := Kc2.out.f 0 (by simp)
    have cc1 := Kc2.out.c 1 _ rfl
    have fc1 := Kc2.out.f 1 (by simp)
    have cc2 := Kc2.out.c 2 _ rfl
    have fc2 := Kc2.out.f 2 (by simp)
    have cc3 := Kc2.out.c 3 _ rfl
    have fc3 := Kc2.out.f 3 (by simp)
    have lc := Kc2.out.lt
    have cp0 := Kp2.out.c 0 _ rfl
    have fp0 := Kp2.out.f 0 (by simp)
    have cp1 := Kp2.out.c 1 _ rfl
    have fp1 := Kp2.out.f 1 (by simp)
    have cp2 := Kp2.out.c 2 _ rfl
    have fp2 := Kp2.out.f 2 (by simp)
    have cp3 := Kp2.out.c 3 _ rfl
    have fp3 := Kp2.out.f 3 (by simp)
    have lp := Kp2.out.lt
    go_wp2_with fail
    all_goals (try clear cx0 fx0 cx1 fx1 cx2 fx2 lx cr0 fr0 cr1 fr1 cr2 fr2 cr3 fr3 lr cc0 fc0 cc1 fc1 cc2 fc2 cc3 fc3 lc cp0 fp0 cp1 fp1 cp2 fp2 cp3 fp3 lp)
    refine (rHear_any x.o x.k x.s x.c nn t _).mono ?_
    rintro e w3 ⟨rfl, hg⟩
    have S3 := Lib.hid (S2.out.trans hg)
    have Kx3 := Lib.hid (Kx2.out.gr hg)
    have Kr3 := Lib.hid (Kr2.out.gr hg)
    have Kc3 := Lib.hid (Kc2.out.gr hg)
    have Kp3 := Lib.hid (Kp2.out.gr hg)
    clear hg
    have cx0 := Kx3.out.c 0 _ rfl
    have fx0 := Kx3.out.f 0 (by simp)
    have cx1 := Kx3.out.c 1 _ rfl
    have fx1 := Kx3.out.f 1 (by simp)
    have cx2 := Kx3.out.c 2 _ rfl
    have fx2 := Kx3.out.f 2 (by simp)
    have lx := Kx3.out.lt
    have cr0 := Kr3.out.c 0 _ rfl
    have fr0 := Kr3.out.f 0 (by simp)
    have cr1 := Kr3.out.c 1 _ rfl
    have fr1 := Kr3.out.f 1 (by simp)
    have cr2 := Kr3.out.c 2 _ rfl
    have fr2 := Kr3.out.f 2 (by simp)
    have cr3 := Kr3.out.c 3 _ rfl
    have fr3 := Kr3.out.f 3 (by simp)
    have lr := Kr3.out.lt
    have cc0 := Kc3.out.c 0 _ rfl
    have fc0 := Kc3.out.f 0 (by simp)
    have cc1 := Kc3.out.c 1 _ rfl
    have fc1 := Kc3.out.f 1 (by simp)
    have cc2 := Kc3.out.c 2 _ rfl
    have fc2 := Kc3.out.f 2 (by simp)
    have cc3 := Kc3.out.c 3 _ rfl
    have fc3 := Kc3.out.f 3 (by simp)
    have lc := Kc3.out.lt
    have cp0 := Kp3.out.c 0 _ rfl
    have fp0 := Kp3.out.f 0 (by simp)
    have cp1 := Kp3.out.c 1 _ rfl
    have fp1 := Kp3.out.f 1 (by simp)
    have cp2 := Kp3.out.c 2 _ rfl
    have fp2 := Kp3.out.f 2 (by simp)
    have cp3 := Kp3.out.c 3 _ rfl
    have fp3 := Kp3.out.f 3 (by simp)
    have lp := Kp3.out.lt
    go_wp2_with fail
    have g0 : Gr w (((((w3).setCell ⟨w.heap.size + 1, 0, none⟩ (.int .i64 ((he ⟨x.o, x.k, x.s, x.c⟩ nn t).1.o))).setCell ⟨w.heap.size + 1, 1, none⟩ (.int .i64 ((he ⟨x.o, x.k, x.s, x.c⟩ nn t).1.k))).setCell ⟨w.heap.size + 1, 2, none⟩ (.int .i64 ((he ⟨x.o, x.k, x.s, x.c⟩ nn t).1.s))).setCell ⟨w.heap.size + 1, 3, none⟩ (.int .i64 ((he ⟨x.o, x.k, x.s, x.c⟩ nn t).1.c))) := (Gr.set ((Gr.set ((Gr.set ((Gr.set (S3.out) (p := ⟨w.heap.size + 1, 0, none⟩) (by simp) _)) (p := ⟨w.heap.size + 1, 1, none⟩) (by simp) _)) (p := ⟨w.heap.size + 1, 2, none⟩) (by simp) _)) (p := ⟨w.heap.size + 1, 3, none⟩) (by simp) _)
    have b0 : Bx (((((w3).setCell ⟨w.heap.size + 1, 0, none⟩ (.int .i64 ((he ⟨x.o, x.k, x.s, x.c⟩ nn t).1.o))).setCell ⟨w.heap.size + 1, 1, none⟩ (.int .i64 ((he ⟨x.o, x.k, x.s, x.c⟩ nn t).1.k))).setCell ⟨w.heap.size + 1, 2, none⟩ (.int .i64 ((he ⟨x.o, x.k, x.s, x.c⟩ nn t).1.s))).setCell ⟨w.heap.size + 1, 3, none⟩ (.int .i64 ((he ⟨x.o, x.k, x.s, x.c⟩ nn t).1.c))) (w.heap.size + 1) [.int .i64 ((he ⟨x.o, x.k, x.s, x.c⟩ nn t).1.o), .int .i64 ((he ⟨x.o, x.k, x.s, x.c⟩ nn t).1.k), .int .i64 ((he ⟨x.o, x.k, x.s, x.c⟩ nn t).1.s), .int .i64 ((he ⟨x.o, x.k, x.s, x.c⟩ nn t).1.c)] := (Kr3.out.set4 (.int .i64 ((he ⟨x.o, x.k, x.s, x.c⟩ nn t).1.o)) (.int .i64 ((he ⟨x.o, x.k, x.s, x.c⟩ nn t).1.k)) (.int .i64 ((he ⟨x.o, x.k, x.s, x.c⟩ nn t).1.s)) (.int .i64 ((he ⟨x.o, x.k, x.s, x.c⟩ nn t).1.c)))
    generalize ((((w3).setCell ⟨w.heap.size + 1, 0, none⟩ (.int .i64 ((he ⟨x.o, x.k, x.s, x.c⟩ nn t).1.o))).setCell ⟨w.heap.size + 1, 1, none⟩ (.int .i64 ((he ⟨x.o, x.k, x.s, x.c⟩ nn t).1.k))).setCell ⟨w.heap.size + 1, 2, none⟩ (.int .i64 ((he ⟨x.o, x.k, x.s, x.c⟩ nn t).1.s))).setCell ⟨w.heap.size + 1, 3, none⟩ (.int .i64 ((he ⟨x.o, x.k, x.s, x.c⟩ nn t).1.c)) = wz at g0 b0 ⊢
    have cr0 := b0.c 0 _ rfl
    have cr1 := b0.c 1 _ rfl
    have cr2 := b0.c 2 _ rfl
    have cr3 := b0.c 3 _ rfl
    refine bodyPost_ret (v := .tuple #[.agg #[.int .i64 ((he ⟨x.o, x.k, x.s, x.c⟩ nn t).1.o), .int .i64 ((he ⟨x.o, x.k, x.s, x.c⟩ nn t).1.k), .int .i64 ((he ⟨x.o, x.k, x.s, x.c⟩ nn t).1.s), .int .i64 ((he ⟨x.o, x.k, x.s, x.c⟩ nn t).1.c)], .int .i64 ((he ⟨x.o, x.k, x.s, x.c⟩ nn t).2)]) (by simp [results, Try.results102, go_sem, cr0, cr1, cr2, cr3]) rfl ⟨rfl, g0⟩

end Go.Proofs.Ytpnigndobhbfnaa
