import Derived.Test.YtpnigndobhbfnaaTsB
namespace Go.Proofs.Ytpnigndobhbfnaa
open Go.RowKit
/-- A state. -/
structure Sy where
  o : Int
  k : Int
  s : Int
  c : Int
def Sy0 : Sy := ⟨0, 0, 0, 0⟩
def Sy.Vs (x : Sy) : Prop := Ytpnigndobhbfnaa.Vs x.o x.k x.s x.c
instance (x : Sy) : Decidable x.Vs := inferInstanceAs (Decidable (Ytpnigndobhbfnaa.Vs x.o x.k x.s x.c))
/-- A valid state that is corrected. -/
def co (x : Sy) (n d : Int) : Sy × Int :=
  if n ≤ x.s then (Sy0, 5) else if d < -4999 ∨ 4999 < d then (Sy0, 15) else if x.c = 4096 then (Sy0, 13)
  else if Vc (x.o + d) x.k then (⟨x.o + d, x.k, n, x.c + 1⟩, 0) else (Sy0, 1)
def inTime (t : Int) : Prop := 0 ≤ t ∧ t ≤ 1099511627776
instance (t : Int) : Decidable (inTime t) := inferInstanceAs (Decidable (_ ∧ _))
def meN (o k n t : Int) : Int := if Vc o k ∧ inSlot n ∧ inTime t then rd o k t - (n * 10000 + 2120) else 0
def meE (o k n t : Int) : Int := if Vc o k then (if inSlot n ∧ inTime t then 0 else 2) else 1
def he (x : Sy) (n t : Int) : Sy × Int :=
  if x.Vs then (if inSlot n ∧ inTime t then co x n (-(rd x.o x.k t - (n * 10000 + 2120))) else (Sy0, 2)) else (Sy0, 1)
def ac (x : Sy) (n d : Int) : Sy × Int :=
  if x.Vs then (if inSlot n then co x n d else (Sy0, 2)) else (Sy0, 1)
def tcE (o k s c : Int) : Int := if Vs o k s c then 0 else 1
def sySh (x : Sy) (n p : Int) : Bool := decide (x.Vs ∧ ¬ x.s = -1 ∧ x.s ≤ n ∧ n - x.s ≤ p)
theorem not_inSlot {n : Int} (h : ¬ inSlot n) : n < 0 ∨ 109951162 < n := by unfold inSlot at h; omega
theorem not_inTime {n : Int} (h : ¬ inTime n) : n < 0 ∨ 1099511627776 < n := by unfold inTime at h; omega

theorem Cor_any (o k s c n d : Int) (w : World) (hv : Vc o k) (c0 : 0 ≤ c) (c1 : c ≤ 4096) :
    Calls Try.prog 109 #[.agg #[.int .i64 o, .int .i64 k, .int .i64 s, .int .i64 c], .int .i64 n, .int .i64 d] w fun e w' => e = .returned (.tuple #[(.agg #[.int .i64 (co ⟨o, k, s, c⟩ n d).1.o, .int .i64 (co ⟨o, k, s, c⟩ n d).1.k, .int .i64 (co ⟨o, k, s, c⟩ n d).1.s, .int .i64 (co ⟨o, k, s, c⟩ n d).1.c]), .int .i64 (co ⟨o, k, s, c⟩ n d).2]) ∧ Gr w w' := by
  by_cases h : n ≤ s
  · rw [show co ⟨o, k, s, c⟩ n d = (Sy0, 5) from if_pos h]; exact Cor_order o k s c n d w h
  by_cases h1 : d < -4999 ∨ 4999 < d
  · rw [show co ⟨o, k, s, c⟩ n d = (Sy0, 15) from (if_neg h).trans (if_pos h1)]; exact Cor_late o k s c n d w (by omega) (by omega)
  by_cases h2 : c = 4096
  · subst h2
    rw [show co ⟨o, k, s, 4096⟩ n d = (Sy0, 13) from (if_neg h).trans ((if_neg h1).trans (if_pos rfl))]; exact Cor_full o k s n d w (by omega) (by omega) (by omega)
  by_cases h3 : Vc (o + d) k
  · rw [show co ⟨o, k, s, c⟩ n d = (⟨o + d, k, n, c + 1⟩, 0) from (if_neg h).trans ((if_neg h1).trans ((if_neg h2).trans (if_pos h3)))]
    exact Cor_ok o k s c n d w hv (by omega) (by omega) (by omega) c0 (by omega) h3
  · rw [show co ⟨o, k, s, c⟩ n d = (Sy0, 1) from (if_neg h).trans ((if_neg h1).trans ((if_neg h2).trans (if_neg h3)))]
    exact Cor_arg o k s c n d w hv (by omega) (by omega) (by omega) c0 (by omega) h3
theorem Tck_any (o k s c : Int) (w : World) : Calls Try.prog 66 #[.agg #[.int .i64 o, .int .i64 k, .int .i64 s, .int .i64 c]] w fun e w' => e = .returned (.int .i64 (tcE o k s c)) ∧ Gr w w' := by
  by_cases h : Vs o k s c
  · rw [show tcE o k s c = 0 from if_pos h]; exact Tck_ok o k s c w h
  · rw [show tcE o k s c = 1 from if_neg h]; exact Tck_no o k s c w h
theorem Meas_any (o k n t : Int) (w : World) : Calls Try.prog 60 #[.agg #[.int .i64 o, .int .i64 k], .int .i64 n, .int .i64 t] w fun e w' => e = .returned (.tuple #[.int .i64 (meN o k n t), .int .i64 (meE o k n t)]) ∧ Gr w w' := by
  by_cases h : Vc o k
  · by_cases h1 : inSlot n
    · by_cases h2 : inTime t
      · rw [show meN o k n t = rd o k t - (n * 10000 + 2120) from if_pos ⟨h, h1, h2⟩, show meE o k n t = 0 from (if_pos h).trans (if_pos ⟨h1, h2⟩)]
        exact Meas_ok o k n t w h h1.1 h1.2 h2.1 h2.2
      · rw [show meN o k n t = 0 from if_neg (fun x => h2 x.2.2), show meE o k n t = 2 from (if_pos h).trans (if_neg (fun x => h2 x.2))]
        exact Meas_r2 o k n t w h h1.1 h1.2 (not_inTime h2)
    · rw [show meN o k n t = 0 from if_neg (fun x => h1 x.2.1), show meE o k n t = 2 from (if_pos h).trans (if_neg (fun x => h1 x.1))]
      exact Meas_r1 o k n t w h (not_inSlot h1)
  · rw [show meN o k n t = 0 from if_neg (fun x => h x.1), show meE o k n t = 1 from if_neg h]
    exact Meas_arg o k n t w h

theorem rCor_any (o k s c n d : Int) (w : World) (hv : Vc o k) (c0 : 0 ≤ c) (c1 : c ≤ 4096) :
    Calls Try.prog 110 #[.agg #[.int .i64 o, .int .i64 k, .int .i64 s, .int .i64 c], .int .i64 n, .int .i64 d] w fun e w' => e = .returned (.tuple #[(.agg #[.int .i64 (co ⟨o, k, s, c⟩ n d).1.o, .int .i64 (co ⟨o, k, s, c⟩ n d).1.k, .int .i64 (co ⟨o, k, s, c⟩ n d).1.s, .int .i64 (co ⟨o, k, s, c⟩ n d).1.c]), .int .i64 (co ⟨o, k, s, c⟩ n d).2]) ∧ Gr w w' := by
  by_cases h : n ≤ s
  · rw [show co ⟨o, k, s, c⟩ n d = (Sy0, 5) from if_pos h]; exact rCor_order o k s c n d w h
  by_cases h1 : d < -4999 ∨ 4999 < d
  · rw [show co ⟨o, k, s, c⟩ n d = (Sy0, 15) from (if_neg h).trans (if_pos h1)]; exact rCor_late o k s c n d w (by omega) (by omega)
  by_cases h2 : c = 4096
  · subst h2
    rw [show co ⟨o, k, s, 4096⟩ n d = (Sy0, 13) from (if_neg h).trans ((if_neg h1).trans (if_pos rfl))]; exact rCor_full o k s n d w (by omega) (by omega) (by omega)
  by_cases h3 : Vc (o + d) k
  · rw [show co ⟨o, k, s, c⟩ n d = (⟨o + d, k, n, c + 1⟩, 0) from (if_neg h).trans ((if_neg h1).trans ((if_neg h2).trans (if_pos h3)))]
    exact rCor_ok o k s c n d w hv (by omega) (by omega) (by omega) c0 (by omega) h3
  · rw [show co ⟨o, k, s, c⟩ n d = (Sy0, 1) from (if_neg h).trans ((if_neg h1).trans ((if_neg h2).trans (if_neg h3)))]
    exact rCor_arg o k s c n d w hv (by omega) (by omega) (by omega) c0 (by omega) h3
theorem rTck_any (o k s c : Int) (w : World) : Calls Try.prog 67 #[.agg #[.int .i64 o, .int .i64 k, .int .i64 s, .int .i64 c]] w fun e w' => e = .returned (.int .i64 (tcE o k s c)) ∧ Gr w w' := by
  by_cases h : Vs o k s c
  · rw [show tcE o k s c = 0 from if_pos h]; exact rTck_ok o k s c w h
  · rw [show tcE o k s c = 1 from if_neg h]; exact rTck_no o k s c w h
theorem rMeas_any (o k n t : Int) (w : World) : Calls Try.prog 61 #[.agg #[.int .i64 o, .int .i64 k], .int .i64 n, .int .i64 t] w fun e w' => e = .returned (.tuple #[.int .i64 (meN o k n t), .int .i64 (meE o k n t)]) ∧ Gr w w' := by
  by_cases h : Vc o k
  · by_cases h1 : inSlot n
    · by_cases h2 : inTime t
      · rw [show meN o k n t = rd o k t - (n * 10000 + 2120) from if_pos ⟨h, h1, h2⟩, show meE o k n t = 0 from (if_pos h).trans (if_pos ⟨h1, h2⟩)]
        exact rMeas_ok o k n t w h h1.1 h1.2 h2.1 h2.2
      · rw [show meN o k n t = 0 from if_neg (fun x => h2 x.2.2), show meE o k n t = 2 from (if_pos h).trans (if_neg (fun x => h2 x.2))]
        exact rMeas_r2 o k n t w h h1.1 h1.2 (not_inTime h2)
    · rw [show meN o k n t = 0 from if_neg (fun x => h1 x.2.1), show meE o k n t = 2 from (if_pos h).trans (if_neg (fun x => h1 x.1))]
      exact rMeas_r1 o k n t w h (not_inSlot h1)
  · rw [show meN o k n t = 0 from if_neg (fun x => h x.1), show meE o k n t = 1 from if_neg h]
    exact rMeas_arg o k n t w h
set_option maxHeartbeats 400000 in
theorem Hear_arg (o k s c n t : Int) (w : World) (hv : ¬ Vs o k s c) :
    Calls Try.prog 62 #[.agg #[.int .i64 o, .int .i64 k, .int .i64 s, .int .i64 c], .int .i64 n, .int .i64 t] w fun e w' => e = .returned (.tuple #[.agg #[.int .i64 0, .int .i64 0, .int .i64 0, .int .i64 0], .int .i64 1]) ∧ Gr w w' := by
  have HV := Lib.hid hv
  clear hv
  go_enter Try.func62, Try.ntmps62
  go_wp2_with fail
  have g0 : Gr w (((w).alloc (Obj.cells #[.int .i64 o, .int .i64 k, .int .i64 s, .int .i64 c] 45)).alloc (Obj.cells #[.int .i64 0, .int .i64 0, .int .i64 0, .int .i64 0] 45)) := Gr.alloc (Gr.alloc (Gr.refl w) _) _
  have bx : Bx (((w).alloc (Obj.cells #[.int .i64 o, .int .i64 k, .int .i64 s, .int .i64 c] 45)).alloc (Obj.cells #[.int .i64 0, .int .i64 0, .int .i64 0, .int .i64 0] 45)) (w.heap.size) [.int .i64 o, .int .i64 k, .int .i64 s, .int .i64 c] := Bx.gr (Bx.at_ (Bx.new (w) [.int .i64 o, .int .i64 k, .int .i64 s, .int .i64 c] 45) (by simp)) (Gr.alloc (Gr.refl _) _)
  have br : Bx (((w).alloc (Obj.cells #[.int .i64 o, .int .i64 k, .int .i64 s, .int .i64 c] 45)).alloc (Obj.cells #[.int .i64 0, .int .i64 0, .int .i64 0, .int .i64 0] 45)) (w.heap.size + 1) [.int .i64 0, .int .i64 0, .int .i64 0, .int .i64 0] := Bx.gr (Bx.at_ (Bx.new ((w).alloc (Obj.cells #[.int .i64 o, .int .i64 k, .int .i64 s, .int .i64 c] 45)) [.int .i64 0, .int .i64 0, .int .i64 0, .int .i64 0] 45) (by simp)) (Gr.refl _)
  generalize ((w).alloc (Obj.cells #[.int .i64 o, .int .i64 k, .int .i64 s, .int .i64 c] 45)).alloc (Obj.cells #[.int .i64 0, .int .i64 0, .int .i64 0, .int .i64 0] 45) = W at g0 bx br ⊢
  have S0 := Lib.hid g0
  have Kx0 := Lib.hid bx
  have Kr0 := Lib.hid br
  clear g0 bx br
  refine (Tck_no o k s c _ HV.out).mono ?_
  rintro e w1 ⟨rfl, hg⟩
  have S1 := Lib.hid (S0.out.trans hg)
  have Kx1 := Lib.hid (Kx0.out.gr hg)
  have Kr1 := Lib.hid (Kr0.out.gr hg)
  clear hg
  have cx0 := Kx1.out.c 0 _ rfl
  have fx0 := Kx1.out.f 0 (by simp)
  have cx1 := Kx1.out.c 1 _ rfl
  have fx1 := Kx1.out.f 1 (by simp)
  have cx2 := Kx1.out.c 2 _ rfl
  have fx2 := Kx1.out.f 2 (by simp)
  have cx3 := Kx1.out.c 3 _ rfl
  have fx3 := Kx1.out.f 3 (by simp)
  have lx := Kx1.out.lt
  have cr0 := Kr1.out.c 0 _ rfl
  have fr0 := Kr1.out.f 0 (by simp)
  have cr1 := Kr1.out.c 1 _ rfl
  have fr1 := Kr1.out.f 1 (by simp)
  have cr2 := Kr1.out.c 2 _ rfl
  have fr2 := Kr1.out.f 2 (by simp)
  have cr3 := Kr1.out.c 3 _ rfl
  have fr3 := Kr1.out.f 3 (by simp)
  have lr := Kr1.out.lt
  go_wp2_with fail
  all_goals (try clear cx0 fx0 cx1 fx1 cx2 fx2 cx3 fx3 lx cr0 fr0 cr1 fr1 cr2 fr2 cr3 fr3 lr)
  have g0 : Gr w (((((w1).setCell ⟨w.heap.size + 1, 0, none⟩ (.int .i64 0)).setCell ⟨w.heap.size + 1, 1, none⟩ (.int .i64 0)).setCell ⟨w.heap.size + 1, 2, none⟩ (.int .i64 0)).setCell ⟨w.heap.size + 1, 3, none⟩ (.int .i64 0)) := (Gr.set ((Gr.set ((Gr.set ((Gr.set (S1.out) (p := ⟨w.heap.size + 1, 0, none⟩) (by simp) _)) (p := ⟨w.heap.size + 1, 1, none⟩) (by simp) _)) (p := ⟨w.heap.size + 1, 2, none⟩) (by simp) _)) (p := ⟨w.heap.size + 1, 3, none⟩) (by simp) _)
  have b0 : Bx (((((w1).setCell ⟨w.heap.size + 1, 0, none⟩ (.int .i64 0)).setCell ⟨w.heap.size + 1, 1, none⟩ (.int .i64 0)).setCell ⟨w.heap.size + 1, 2, none⟩ (.int .i64 0)).setCell ⟨w.heap.size + 1, 3, none⟩ (.int .i64 0)) (w.heap.size + 1) [.int .i64 0, .int .i64 0, .int .i64 0, .int .i64 0] := (Kr1.out.set4 (.int .i64 0) (.int .i64 0) (.int .i64 0) (.int .i64 0))
  generalize ((((w1).setCell ⟨w.heap.size + 1, 0, none⟩ (.int .i64 0)).setCell ⟨w.heap.size + 1, 1, none⟩ (.int .i64 0)).setCell ⟨w.heap.size + 1, 2, none⟩ (.int .i64 0)).setCell ⟨w.heap.size + 1, 3, none⟩ (.int .i64 0) = wz at g0 b0 ⊢
  have cr0 := b0.c 0 _ rfl
  have cr1 := b0.c 1 _ rfl
  have cr2 := b0.c 2 _ rfl
  have cr3 := b0.c 3 _ rfl
  refine bodyPost_ret (v := .tuple #[.agg #[.int .i64 0, .int .i64 0, .int .i64 0, .int .i64 0], .int .i64 1]) (by simp [results, Try.results62, go_sem, cr0, cr1, cr2, cr3]) rfl ⟨rfl, g0⟩


set_option maxHeartbeats 400000 in
theorem Hear_rg (o k s c n t : Int) (w : World) (hv : Vs o k s c) (h : ¬ (inSlot n ∧ inTime t)) :
    Calls Try.prog 62 #[.agg #[.int .i64 o, .int .i64 k, .int .i64 s, .int .i64 c], .int .i64 n, .int .i64 t] w fun e w' => e = .returned (.tuple #[.agg #[.int .i64 0, .int .i64 0, .int .i64 0, .int .i64 0], .int .i64 2]) ∧ Gr w w' := by
  have hm : meE o k n t = 2 := (if_pos hv.vc).trans (if_neg h)
  have HV := Lib.hid hv
  have H := Lib.hid h
  clear hv h
  go_enter Try.func62, Try.ntmps62
  go_wp2_with fail
  have g0 : Gr w (((w).alloc (Obj.cells #[.int .i64 o, .int .i64 k, .int .i64 s, .int .i64 c] 45)).alloc (Obj.cells #[.int .i64 0, .int .i64 0, .int .i64 0, .int .i64 0] 45)) := Gr.alloc (Gr.alloc (Gr.refl w) _) _
  have bx : Bx (((w).alloc (Obj.cells #[.int .i64 o, .int .i64 k, .int .i64 s, .int .i64 c] 45)).alloc (Obj.cells #[.int .i64 0, .int .i64 0, .int .i64 0, .int .i64 0] 45)) (w.heap.size) [.int .i64 o, .int .i64 k, .int .i64 s, .int .i64 c] := Bx.gr (Bx.at_ (Bx.new (w) [.int .i64 o, .int .i64 k, .int .i64 s, .int .i64 c] 45) (by simp)) (Gr.alloc (Gr.refl _) _)
  have br : Bx (((w).alloc (Obj.cells #[.int .i64 o, .int .i64 k, .int .i64 s, .int .i64 c] 45)).alloc (Obj.cells #[.int .i64 0, .int .i64 0, .int .i64 0, .int .i64 0] 45)) (w.heap.size + 1) [.int .i64 0, .int .i64 0, .int .i64 0, .int .i64 0] := Bx.gr (Bx.at_ (Bx.new ((w).alloc (Obj.cells #[.int .i64 o, .int .i64 k, .int .i64 s, .int .i64 c] 45)) [.int .i64 0, .int .i64 0, .int .i64 0, .int .i64 0] 45) (by simp)) (Gr.refl _)
  generalize ((w).alloc (Obj.cells #[.int .i64 o, .int .i64 k, .int .i64 s, .int .i64 c] 45)).alloc (Obj.cells #[.int .i64 0, .int .i64 0, .int .i64 0, .int .i64 0] 45) = W at g0 bx br ⊢
  have S0 := Lib.hid g0
  have Kx0 := Lib.hid bx
  have Kr0 := Lib.hid br
  clear g0 bx br
  refine (Tck_ok o k s c _ HV.out).mono ?_
  rintro e w1 ⟨rfl, hg⟩
  have S1 := Lib.hid (S0.out.trans hg)
  have Kx1 := Lib.hid (Kx0.out.gr hg)
  have Kr1 := Lib.hid (Kr0.out.gr hg)
  clear hg
  have cx0 := Kx1.out.c 0 _ rfl
  have cx1 := Kx1.out.c 1 _ rfl
  have cx2 := Kx1.out.c 2 _ rfl
  have cx3 := Kx1.out.c 3 _ rfl
  have lx := Kx1.out.lt
  have cr0 := Kr1.out.c 0 _ rfl
  have cr1 := Kr1.out.c 1 _ rfl
  have cr2 := Kr1.out.c 2 _ rfl
  have cr3 := Kr1.out.c 3 _ rfl
  have lr := Kr1.out.lt
  go_wp2_with fail
  all_goals (try clear cx0 cx1 cx2 cx3 lx cr0 cr1 cr2 cr3 lr)
  have hj := Meas_any o k n t
  rw [hm] at hj
  have HJ := Lib.hid hj
  clear hj
  refine (HJ.out _).mono ?_
  rintro e w2 ⟨rfl, hg⟩
  have S2 := Lib.hid (S1.out.trans hg)
  have Kx2 := Lib.hid (Kx1.out.gr hg)
  have Kr2 := Lib.hid (Kr1.out.gr hg)
  clear hg
  have cx0 := Kx2.out.c 0 _ rfl
  have fx0 := Kx2.out.f 0 (by simp)
  have cx1 := Kx2.out.c 1 _ rfl
  have fx1 := Kx2.out.f 1 (by simp)
  have cx2 := Kx2.out.c 2 _ rfl
  have fx2 := Kx2.out.f 2 (by simp)
  have cx3 := Kx2.out.c 3 _ rfl
  have fx3 := Kx2.out.f 3 (by simp)
  have lx := Kx2.out.lt
  have cr0 := Kr2.out.c 0 _ rfl
  have fr0 := Kr2.out.f 0 (by simp)
  have cr1 := Kr2.out.c 1 _ rfl
  have fr1 := Kr2.out.f 1 (by simp)
  have cr2 := Kr2.out.c 2 _ rfl
  have fr2 := Kr2.out.f 2 (by simp)
  have cr3 := Kr2.out.c 3 _ rfl
  have fr3 := Kr2.out.f 3 (by simp)
  have lr := Kr2.out.lt
  go_wp2_with fail
  all_goals (try clear cx0 fx0 cx1 fx1 cx2 fx2 cx3 fx3 lx cr0 fr0 cr1 fr1 cr2 fr2 cr3 fr3 lr)
  have g0 : Gr w (((((w2).setCell ⟨w.heap.size + 1, 0, none⟩ (.int .i64 0)).setCell ⟨w.heap.size + 1, 1, none⟩ (.int .i64 0)).setCell ⟨w.heap.size + 1, 2, none⟩ (.int .i64 0)).setCell ⟨w.heap.size + 1, 3, none⟩ (.int .i64 0)) := (Gr.set ((Gr.set ((Gr.set ((Gr.set (S2.out) (p := ⟨w.heap.size + 1, 0, none⟩) (by simp) _)) (p := ⟨w.heap.size + 1, 1, none⟩) (by simp) _)) (p := ⟨w.heap.size + 1, 2, none⟩) (by simp) _)) (p := ⟨w.heap.size + 1, 3, none⟩) (by simp) _)
  have b0 : Bx (((((w2).setCell ⟨w.heap.size + 1, 0, none⟩ (.int .i64 0)).setCell ⟨w.heap.size + 1, 1, none⟩ (.int .i64 0)).setCell ⟨w.heap.size + 1, 2, none⟩ (.int .i64 0)).setCell ⟨w.heap.size + 1, 3, none⟩ (.int .i64 0)) (w.heap.size + 1) [.int .i64 0, .int .i64 0, .int .i64 0, .int .i64 0] := (Kr2.out.set4 (.int .i64 0) (.int .i64 0) (.int .i64 0) (.int .i64 0))
  generalize ((((w2).setCell ⟨w.heap.size + 1, 0, none⟩ (.int .i64 0)).setCell ⟨w.heap.size + 1, 1, none⟩ (.int .i64 0)).setCell ⟨w.heap.size + 1, 2, none⟩ (.int .i64 0)).setCell ⟨w.heap.size + 1, 3, none⟩ (.int .i64 0) = wz at g0 b0 ⊢
  have cr0 := b0.c 0 _ rfl
  have cr1 := b0.c 1 _ rfl
  have cr2 := b0.c 2 _ rfl
  have cr3 := b0.c 3 _ rfl
  refine bodyPost_ret (v := .tuple #[.agg #[.int .i64 0, .int .i64 0, .int .i64 0, .int .i64 0], .int .i64 2]) (by simp [results, Try.results62, go_sem, cr0, cr1, cr2, cr3]) rfl ⟨rfl, g0⟩


set_option maxHeartbeats 400000 in
theorem Hear_ok (o k s c n t : Int) (w : World) (hv : Vs o k s c) (s0 : 0 ≤ n) (s1 : n ≤ 109951162) (t0 : 0 ≤ t) (t1 : t ≤ 1099511627776) :
    Calls Try.prog 62 #[.agg #[.int .i64 o, .int .i64 k, .int .i64 s, .int .i64 c], .int .i64 n, .int .i64 t] w fun e w' => e = .returned (.tuple #[(.agg #[.int .i64 (co ⟨o, k, s, c⟩ n (-(rd o k t - (n * 10000 + 2120)))).1.o, .int .i64 (co ⟨o, k, s, c⟩ n (-(rd o k t - (n * 10000 + 2120)))).1.k, .int .i64 (co ⟨o, k, s, c⟩ n (-(rd o k t - (n * 10000 + 2120)))).1.s, .int .i64 (co ⟨o, k, s, c⟩ n (-(rd o k t - (n * 10000 + 2120)))).1.c]), .int .i64 (co ⟨o, k, s, c⟩ n (-(rd o k t - (n * 10000 + 2120)))).2]) ∧ Gr w w' := by
  have hb := rd_bd hv.vc t0 t1
  have HV := Lib.hid hv
  clear hv
  go_enter Try.func62, Try.ntmps62
  go_wp2_with fail
  have g0 : Gr w (((w).alloc (Obj.cells #[.int .i64 o, .int .i64 k, .int .i64 s, .int .i64 c] 45)).alloc (Obj.cells #[.int .i64 0, .int .i64 0, .int .i64 0, .int .i64 0] 45)) := Gr.alloc (Gr.alloc (Gr.refl w) _) _
  have bx : Bx (((w).alloc (Obj.cells #[.int .i64 o, .int .i64 k, .int .i64 s, .int .i64 c] 45)).alloc (Obj.cells #[.int .i64 0, .int .i64 0, .int .i64 0, .int .i64 0] 45)) (w.heap.size) [.int .i64 o, .int .i64 k, .int .i64 s, .int .i64 c] := Bx.gr (Bx.at_ (Bx.new (w) [.int .i64 o, .int .i64 k, .int .i64 s, .int .i64 c] 45) (by simp)) (Gr.alloc (Gr.refl _) _)
  have br : Bx (((w).alloc (Obj.cells #[.int .i64 o, .int .i64 k, .int .i64 s, .int .i64 c] 45)).alloc (Obj.cells #[.int .i64 0, .int .i64 0, .int .i64 0, .int .i64 0] 45)) (w.heap.size + 1) [.int .i64 0, .int .i64 0, .int .i64 0, .int .i64 0] := Bx.gr (Bx.at_ (Bx.new ((w).alloc (Obj.cells #[.int .i64 o, .int .i64 k, .int .i64 s, .int .i64 c] 45)) [.int .i64 0, .int .i64 0, .int .i64 0, .int .i64 0] 45) (by simp)) (Gr.refl _)
  generalize ((w).alloc (Obj.cells #[.int .i64 o, .int .i64 k, .int .i64 s, .int .i64 c] 45)).alloc (Obj.cells #[.int .i64 0, .int .i64 0, .int .i64 0, .int .i64 0] 45) = W at g0 bx br ⊢
  have S0 := Lib.hid g0
  have Kx0 := Lib.hid bx
  have Kr0 := Lib.hid br
  clear g0 bx br
  refine (Tck_ok o k s c _ HV.out).mono ?_
  rintro e w1 ⟨rfl, hg⟩
  have S1 := Lib.hid (S0.out.trans hg)
  have Kx1 := Lib.hid (Kx0.out.gr hg)
  have Kr1 := Lib.hid (Kr0.out.gr hg)
  clear hg
  have cx0 := Kx1.out.c 0 _ rfl
  have cx1 := Kx1.out.c 1 _ rfl
  have cx2 := Kx1.out.c 2 _ rfl
  have cx3 := Kx1.out.c 3 _ rfl
  have lx := Kx1.out.lt
  have cr0 := Kr1.out.c 0 _ rfl
  have cr1 := Kr1.out.c 1 _ rfl
  have cr2 := Kr1.out.c 2 _ rfl
  have cr3 := Kr1.out.c 3 _ rfl
  have lr := Kr1.out.lt
  go_wp2_with fail
  all_goals (try clear cx0 cx1 cx2 cx3 lx cr0 cr1 cr2 cr3 lr)
  refine (Meas_ok o k n t _ HV.out.vc s0 s1 t0 t1).mono ?_
  rintro e w2 ⟨rfl, hg⟩
  have S2 := Lib.hid (S1.out.trans hg)
  have Kx2 := Lib.hid (Kx1.out.gr hg)
  have Kr2 := Lib.hid (Kr1.out.gr hg)
  clear hg
  have cx0 := Kx2.out.c 0 _ rfl
  have cx1 := Kx2.out.c 1 _ rfl
  have cx2 := Kx2.out.c 2 _ rfl
  have cx3 := Kx2.out.c 3 _ rfl
  have lx := Kx2.out.lt
  have cr0 := Kr2.out.c 0 _ rfl
  have cr1 := Kr2.out.c 1 _ rfl
  have cr2 := Kr2.out.c 2 _ rfl
  have cr3 := Kr2.out.c 3 _ rfl
  have lr := Kr2.out.lt
  go_wp2_with fail
  all_goals (try clear cx0 cx1 cx2 cx3 lx cr0 cr1 cr2 cr3 lr)
  refine (Cor_any o k s c n (-(rd o k t - (n * 10000 + 2120))) _ HV.out.vc HV.out.c0 HV.out.c1).mono ?_
  rintro e w3 ⟨rfl, hg⟩
  have S3 := Lib.hid (S2.out.trans hg)
  have Kx3 := Lib.hid (Kx2.out.gr hg)
  have Kr3 := Lib.hid (Kr2.out.gr hg)
  clear hg
  have cx0 := Kx3.out.c 0 _ rfl
  have fx0 := Kx3.out.f 0 (by simp)
  have cx1 := Kx3.out.c 1 _ rfl
  have fx1 := Kx3.out.f 1 (by simp)
  have cx2 := Kx3.out.c 2 _ rfl
  have fx2 := Kx3.out.f 2 (by simp)
  have cx3 := Kx3.out.c 3 _ rfl
  have fx3 := Kx3.out.f 3 (by simp)
  have lx := Kx3.out.lt
  have cr0 := Kr3.out.c 0 _ rfl
  have fr0 := Kr3.out.f 0 (by simp)
  have cr1 := Kr3.out.c 1 _ rfl
  have fr1 := Kr3.out.f 1 (by simp)
  have cr2 := Kr3.out.c 2 _ rfl
  have fr2 := Kr3.out.f 2 (by simp)
  have cr3 := Kr3.out.c 3 _ rfl
  have fr3 := Kr3.out.f 3 (by simp)
  have lr := Kr3.out.lt
  go_wp2_with fail
  have g0 : Gr w (((((w3).setCell ⟨w.heap.size + 1, 0, none⟩ (.int .i64 ((co ⟨o, k, s, c⟩ n (-(rd o k t - (n * 10000 + 2120)))).1.o))).setCell ⟨w.heap.size + 1, 1, none⟩ (.int .i64 ((co ⟨o, k, s, c⟩ n (-(rd o k t - (n * 10000 + 2120)))).1.k))).setCell ⟨w.heap.size + 1, 2, none⟩ (.int .i64 ((co ⟨o, k, s, c⟩ n (-(rd o k t - (n * 10000 + 2120)))).1.s))).setCell ⟨w.heap.size + 1, 3, none⟩ (.int .i64 ((co ⟨o, k, s, c⟩ n (-(rd o k t - (n * 10000 + 2120)))).1.c))) := (Gr.set ((Gr.set ((Gr.set ((Gr.set (S3.out) (p := ⟨w.heap.size + 1, 0, none⟩) (by simp) _)) (p := ⟨w.heap.size + 1, 1, none⟩) (by simp) _)) (p := ⟨w.heap.size + 1, 2, none⟩) (by simp) _)) (p := ⟨w.heap.size + 1, 3, none⟩) (by simp) _)
  have b0 : Bx (((((w3).setCell ⟨w.heap.size + 1, 0, none⟩ (.int .i64 ((co ⟨o, k, s, c⟩ n (-(rd o k t - (n * 10000 + 2120)))).1.o))).setCell ⟨w.heap.size + 1, 1, none⟩ (.int .i64 ((co ⟨o, k, s, c⟩ n (-(rd o k t - (n * 10000 + 2120)))).1.k))).setCell ⟨w.heap.size + 1, 2, none⟩ (.int .i64 ((co ⟨o, k, s, c⟩ n (-(rd o k t - (n * 10000 + 2120)))).1.s))).setCell ⟨w.heap.size + 1, 3, none⟩ (.int .i64 ((co ⟨o, k, s, c⟩ n (-(rd o k t - (n * 10000 + 2120)))).1.c))) (w.heap.size + 1) [.int .i64 ((co ⟨o, k, s, c⟩ n (-(rd o k t - (n * 10000 + 2120)))).1.o), .int .i64 ((co ⟨o, k, s, c⟩ n (-(rd o k t - (n * 10000 + 2120)))).1.k), .int .i64 ((co ⟨o, k, s, c⟩ n (-(rd o k t - (n * 10000 + 2120)))).1.s), .int .i64 ((co ⟨o, k, s, c⟩ n (-(rd o k t - (n * 10000 + 2120)))).1.c)] := (Kr3.out.set4 (.int .i64 ((co ⟨o, k, s, c⟩ n (-(rd o k t - (n * 10000 + 2120)))).1.o)) (.int .i64 ((co ⟨o, k, s, c⟩ n (-(rd o k t - (n * 10000 + 2120)))).1.k)) (.int .i64 ((co ⟨o, k, s, c⟩ n (-(rd o k t - (n * 10000 + 2120)))).1.s)) (.int .i64 ((co ⟨o, k, s, c⟩ n (-(rd o k t - (n * 10000 + 2120)))).1.c)))
  generalize ((((w3).setCell ⟨w.heap.size + 1, 0, none⟩ (.int .i64 ((co ⟨o, k, s, c⟩ n (-(rd o k t - (n * 10000 + 2120)))).1.o))).setCell ⟨w.heap.size + 1, 1, none⟩ (.int .i64 ((co ⟨o, k, s, c⟩ n (-(rd o k t - (n * 10000 + 2120)))).1.k))).setCell ⟨w.heap.size + 1, 2, none⟩ (.int .i64 ((co ⟨o, k, s, c⟩ n (-(rd o k t - (n * 10000 + 2120)))).1.s))).setCell ⟨w.heap.size + 1, 3, none⟩ (.int .i64 ((co ⟨o, k, s, c⟩ n (-(rd o k t - (n * 10000 + 2120)))).1.c)) = wz at g0 b0 ⊢
  have cr0 := b0.c 0 _ rfl
  have cr1 := b0.c 1 _ rfl
  have cr2 := b0.c 2 _ rfl
  have cr3 := b0.c 3 _ rfl
  refine bodyPost_ret (v := .tuple #[.agg #[.int .i64 ((co ⟨o, k, s, c⟩ n (-(rd o k t - (n * 10000 + 2120)))).1.o), .int .i64 ((co ⟨o, k, s, c⟩ n (-(rd o k t - (n * 10000 + 2120)))).1.k), .int .i64 ((co ⟨o, k, s, c⟩ n (-(rd o k t - (n * 10000 + 2120)))).1.s), .int .i64 ((co ⟨o, k, s, c⟩ n (-(rd o k t - (n * 10000 + 2120)))).1.c)], .int .i64 ((co ⟨o, k, s, c⟩ n (-(rd o k t - (n * 10000 + 2120)))).2)]) (by simp [results, Try.results62, go_sem, cr0, cr1, cr2, cr3]) rfl ⟨rfl, g0⟩


set_option maxHeartbeats 400000 in
theorem Acked_ok (o k s c n d : Int) (w : World) (hv : Vs o k s c) (s0 : 0 ≤ n) (s1 : n ≤ 109951162) :
    Calls Try.prog 64 #[.agg #[.int .i64 o, .int .i64 k, .int .i64 s, .int .i64 c], .int .i64 n, .int .i64 d] w fun e w' => e = .returned (.tuple #[(.agg #[.int .i64 (co ⟨o, k, s, c⟩ n d).1.o, .int .i64 (co ⟨o, k, s, c⟩ n d).1.k, .int .i64 (co ⟨o, k, s, c⟩ n d).1.s, .int .i64 (co ⟨o, k, s, c⟩ n d).1.c]), .int .i64 (co ⟨o, k, s, c⟩ n d).2]) ∧ Gr w w' := by
  have HV := Lib.hid hv
  clear hv
  go_enter Try.func64, Try.ntmps64
  go_wp2_with fail
  have g0 : Gr w (((w).alloc (Obj.cells #[.int .i64 o, .int .i64 k, .int .i64 s, .int .i64 c] 45)).alloc (Obj.cells #[.int .i64 0, .int .i64 0, .int .i64 0, .int .i64 0] 45)) := Gr.alloc (Gr.alloc (Gr.refl w) _) _
  have bx : Bx (((w).alloc (Obj.cells #[.int .i64 o, .int .i64 k, .int .i64 s, .int .i64 c] 45)).alloc (Obj.cells #[.int .i64 0, .int .i64 0, .int .i64 0, .int .i64 0] 45)) (w.heap.size) [.int .i64 o, .int .i64 k, .int .i64 s, .int .i64 c] := Bx.gr (Bx.at_ (Bx.new (w) [.int .i64 o, .int .i64 k, .int .i64 s, .int .i64 c] 45) (by simp)) (Gr.alloc (Gr.refl _) _)
  have br : Bx (((w).alloc (Obj.cells #[.int .i64 o, .int .i64 k, .int .i64 s, .int .i64 c] 45)).alloc (Obj.cells #[.int .i64 0, .int .i64 0, .int .i64 0, .int .i64 0] 45)) (w.heap.size + 1) [.int .i64 0, .int .i64 0, .int .i64 0, .int .i64 0] := Bx.gr (Bx.at_ (Bx.new ((w).alloc (Obj.cells #[.int .i64 o, .int .i64 k, .int .i64 s, .int .i64 c] 45)) [.int .i64 0, .int .i64 0, .int .i64 0, .int .i64 0] 45) (by simp)) (Gr.refl _)
  generalize ((w).alloc (Obj.cells #[.int .i64 o, .int .i64 k, .int .i64 s, .int .i64 c] 45)).alloc (Obj.cells #[.int .i64 0, .int .i64 0, .int .i64 0, .int .i64 0] 45) = W at g0 bx br ⊢
  have S0 := Lib.hid g0
  have Kx0 := Lib.hid bx
  have Kr0 := Lib.hid br
  clear g0 bx br
  refine (Tck_ok o k s c _ HV.out).mono ?_
  rintro e w1 ⟨rfl, hg⟩
  have S1 := Lib.hid (S0.out.trans hg)
  have Kx1 := Lib.hid (Kx0.out.gr hg)
  have Kr1 := Lib.hid (Kr0.out.gr hg)
  clear hg
  have cx0 := Kx1.out.c 0 _ rfl
  have cx1 := Kx1.out.c 1 _ rfl
  have cx2 := Kx1.out.c 2 _ rfl
  have cx3 := Kx1.out.c 3 _ rfl
  have lx := Kx1.out.lt
  have cr0 := Kr1.out.c 0 _ rfl
  have cr1 := Kr1.out.c 1 _ rfl
  have cr2 := Kr1.out.c 2 _ rfl
  have cr3 := Kr1.out.c 3 _ rfl
  have lr := Kr1.out.lt
  go_wp2_with fail
  all_goals (try clear cx0 cx1 cx2 cx3 lx cr0 cr1 cr2 cr3 lr)
  refine (isl_t n _ s0 s1).mono ?_
  rintro e w2 ⟨rfl, hg⟩
  have S2 := Lib.hid (S1.out.trans hg)
  have Kx2 := Lib.hid (Kx1.out.gr hg)
  have Kr2 := Lib.hid (Kr1.out.gr hg)
  clear hg
  have cx0 := Kx2.out.c 0 _ rfl
  have cx1 := Kx2.out.c 1 _ rfl
  have cx2 := Kx2.out.c 2 _ rfl
  have cx3 := Kx2.out.c 3 _ rfl
  have lx := Kx2.out.lt
  have cr0 := Kr2.out.c 0 _ rfl
  have cr1 := Kr2.out.c 1 _ rfl
  have cr2 := Kr2.out.c 2 _ rfl
  have cr3 := Kr2.out.c 3 _ rfl
  have lr := Kr2.out.lt
  go_wp2_with fail
  all_goals (try clear cx0 cx1 cx2 cx3 lx cr0 cr1 cr2 cr3 lr)
  refine (Cor_any o k s c n d _ HV.out.vc HV.out.c0 HV.out.c1).mono ?_
  rintro e w3 ⟨rfl, hg⟩
  have S3 := Lib.hid (S2.out.trans hg)
  have Kx3 := Lib.hid (Kx2.out.gr hg)
  have Kr3 := Lib.hid (Kr2.out.gr hg)
  clear hg
  have cx0 := Kx3.out.c 0 _ rfl
  have fx0 := Kx3.out.f 0 (by simp)
  have cx1 := Kx3.out.c 1 _ rfl
  have fx1 := Kx3.out.f 1 (by simp)
  have cx2 := Kx3.out.c 2 _ rfl
  have fx2 := Kx3.out.f 2 (by simp)
  have cx3 := Kx3.out.c 3 _ rfl
  have fx3 := Kx3.out.f 3 (by simp)
  have lx := Kx3.out.lt
  have cr0 := Kr3.out.c 0 _ rfl
  have fr0 := Kr3.out.f 0 (by simp)
  have cr1 := Kr3.out.c 1 _ rfl
  have fr1 := Kr3.out.f 1 (by simp)
  have cr2 := Kr3.out.c 2 _ rfl
  have fr2 := Kr3.out.f 2 (by simp)
  have cr3 := Kr3.out.c 3 _ rfl
  have fr3 := Kr3.out.f 3 (by simp)
  have lr := Kr3.out.lt
  go_wp2_with fail
  have g0 : Gr w (((((w3).setCell ⟨w.heap.size + 1, 0, none⟩ (.int .i64 ((co ⟨o, k, s, c⟩ n d).1.o))).setCell ⟨w.heap.size + 1, 1, none⟩ (.int .i64 ((co ⟨o, k, s, c⟩ n d).1.k))).setCell ⟨w.heap.size + 1, 2, none⟩ (.int .i64 ((co ⟨o, k, s, c⟩ n d).1.s))).setCell ⟨w.heap.size + 1, 3, none⟩ (.int .i64 ((co ⟨o, k, s, c⟩ n d).1.c))) := (Gr.set ((Gr.set ((Gr.set ((Gr.set (S3.out) (p := ⟨w.heap.size + 1, 0, none⟩) (by simp) _)) (p := ⟨w.heap.size + 1, 1, none⟩) (by simp) _)) (p := ⟨w.heap.size + 1, 2, none⟩) (by simp) _)) (p := ⟨w.heap.size + 1, 3, none⟩) (by simp) _)
  have b0 : Bx (((((w3).setCell ⟨w.heap.size + 1, 0, none⟩ (.int .i64 ((co ⟨o, k, s, c⟩ n d).1.o))).setCell ⟨w.heap.size + 1, 1, none⟩ (.int .i64 ((co ⟨o, k, s, c⟩ n d).1.k))).setCell ⟨w.heap.size + 1, 2, none⟩ (.int .i64 ((co ⟨o, k, s, c⟩ n d).1.s))).setCell ⟨w.heap.size + 1, 3, none⟩ (.int .i64 ((co ⟨o, k, s, c⟩ n d).1.c))) (w.heap.size + 1) [.int .i64 ((co ⟨o, k, s, c⟩ n d).1.o), .int .i64 ((co ⟨o, k, s, c⟩ n d).1.k), .int .i64 ((co ⟨o, k, s, c⟩ n d).1.s), .int .i64 ((co ⟨o, k, s, c⟩ n d).1.c)] := (Kr3.out.set4 (.int .i64 ((co ⟨o, k, s, c⟩ n d).1.o)) (.int .i64 ((co ⟨o, k, s, c⟩ n d).1.k)) (.int .i64 ((co ⟨o, k, s, c⟩ n d).1.s)) (.int .i64 ((co ⟨o, k, s, c⟩ n d).1.c)))
  generalize ((((w3).setCell ⟨w.heap.size + 1, 0, none⟩ (.int .i64 ((co ⟨o, k, s, c⟩ n d).1.o))).setCell ⟨w.heap.size + 1, 1, none⟩ (.int .i64 ((co ⟨o, k, s, c⟩ n d).1.k))).setCell ⟨w.heap.size + 1, 2, none⟩ (.int .i64 ((co ⟨o, k, s, c⟩ n d).1.s))).setCell ⟨w.heap.size + 1, 3, none⟩ (.int .i64 ((co ⟨o, k, s, c⟩ n d).1.c)) = wz at g0 b0 ⊢
  have cr0 := b0.c 0 _ rfl
  have cr1 := b0.c 1 _ rfl
  have cr2 := b0.c 2 _ rfl
  have cr3 := b0.c 3 _ rfl
  refine bodyPost_ret (v := .tuple #[.agg #[.int .i64 ((co ⟨o, k, s, c⟩ n d).1.o), .int .i64 ((co ⟨o, k, s, c⟩ n d).1.k), .int .i64 ((co ⟨o, k, s, c⟩ n d).1.s), .int .i64 ((co ⟨o, k, s, c⟩ n d).1.c)], .int .i64 ((co ⟨o, k, s, c⟩ n d).2)]) (by simp [results, Try.results64, go_sem, cr0, cr1, cr2, cr3]) rfl ⟨rfl, g0⟩


set_option maxHeartbeats 400000 in
theorem Acked_arg (o k s c n d : Int) (w : World) (hv : ¬ Vs o k s c) :
    Calls Try.prog 64 #[.agg #[.int .i64 o, .int .i64 k, .int .i64 s, .int .i64 c], .int .i64 n, .int .i64 d] w fun e w' => e = .returned (.tuple #[.agg #[.int .i64 0, .int .i64 0, .int .i64 0, .int .i64 0], .int .i64 1]) ∧ Gr w w' := by
  have HV := Lib.hid hv
  clear hv
  go_enter Try.func64, Try.ntmps64
  go_wp2_with fail
  have g0 : Gr w (((w).alloc (Obj.cells #[.int .i64 o, .int .i64 k, .int .i64 s, .int .i64 c] 45)).alloc (Obj.cells #[.int .i64 0, .int .i64 0, .int .i64 0, .int .i64 0] 45)) := Gr.alloc (Gr.alloc (Gr.refl w) _) _
  have bx : Bx (((w).alloc (Obj.cells #[.int .i64 o, .int .i64 k, .int .i64 s, .int .i64 c] 45)).alloc (Obj.cells #[.int .i64 0, .int .i64 0, .int .i64 0, .int .i64 0] 45)) (w.heap.size) [.int .i64 o, .int .i64 k, .int .i64 s, .int .i64 c] := Bx.gr (Bx.at_ (Bx.new (w) [.int .i64 o, .int .i64 k, .int .i64 s, .int .i64 c] 45) (by simp)) (Gr.alloc (Gr.refl _) _)
  have br : Bx (((w).alloc (Obj.cells #[.int .i64 o, .int .i64 k, .int .i64 s, .int .i64 c] 45)).alloc (Obj.cells #[.int .i64 0, .int .i64 0, .int .i64 0, .int .i64 0] 45)) (w.heap.size + 1) [.int .i64 0, .int .i64 0, .int .i64 0, .int .i64 0] := Bx.gr (Bx.at_ (Bx.new ((w).alloc (Obj.cells #[.int .i64 o, .int .i64 k, .int .i64 s, .int .i64 c] 45)) [.int .i64 0, .int .i64 0, .int .i64 0, .int .i64 0] 45) (by simp)) (Gr.refl _)
  generalize ((w).alloc (Obj.cells #[.int .i64 o, .int .i64 k, .int .i64 s, .int .i64 c] 45)).alloc (Obj.cells #[.int .i64 0, .int .i64 0, .int .i64 0, .int .i64 0] 45) = W at g0 bx br ⊢
  have S0 := Lib.hid g0
  have Kx0 := Lib.hid bx
  have Kr0 := Lib.hid br
  clear g0 bx br
  refine (Tck_no o k s c _ HV.out).mono ?_
  rintro e w1 ⟨rfl, hg⟩
  have S1 := Lib.hid (S0.out.trans hg)
  have Kx1 := Lib.hid (Kx0.out.gr hg)
  have Kr1 := Lib.hid (Kr0.out.gr hg)
  clear hg
  have cx0 := Kx1.out.c 0 _ rfl
  have fx0 := Kx1.out.f 0 (by simp)
  have cx1 := Kx1.out.c 1 _ rfl
  have fx1 := Kx1.out.f 1 (by simp)
  have cx2 := Kx1.out.c 2 _ rfl
  have fx2 := Kx1.out.f 2 (by simp)
  have cx3 := Kx1.out.c 3 _ rfl
  have fx3 := Kx1.out.f 3 (by simp)
  have lx := Kx1.out.lt
  have cr0 := Kr1.out.c 0 _ rfl
  have fr0 := Kr1.out.f 0 (by simp)
  have cr1 := Kr1.out.c 1 _ rfl
  have fr1 := Kr1.out.f 1 (by simp)
  have cr2 := Kr1.out.c 2 _ rfl
  have fr2 := Kr1.out.f 2 (by simp)
  have cr3 := Kr1.out.c 3 _ rfl
  have fr3 := Kr1.out.f 3 (by simp)
  have lr := Kr1.out.lt
  go_wp2_with fail
  all_goals (try clear cx0 fx0 cx1 fx1 cx2 fx2 cx3 fx3 lx cr0 fr0 cr1 fr1 cr2 fr2 cr3 fr3 lr)
  have g0 : Gr w (((((w1).setCell ⟨w.heap.size + 1, 0, none⟩ (.int .i64 0)).setCell ⟨w.heap.size + 1, 1, none⟩ (.int .i64 0)).setCell ⟨w.heap.size + 1, 2, none⟩ (.int .i64 0)).setCell ⟨w.heap.size + 1, 3, none⟩ (.int .i64 0)) := (Gr.set ((Gr.set ((Gr.set ((Gr.set (S1.out) (p := ⟨w.heap.size + 1, 0, none⟩) (by simp) _)) (p := ⟨w.heap.size + 1, 1, none⟩) (by simp) _)) (p := ⟨w.heap.size + 1, 2, none⟩) (by simp) _)) (p := ⟨w.heap.size + 1, 3, none⟩) (by simp) _)
  have b0 : Bx (((((w1).setCell ⟨w.heap.size + 1, 0, none⟩ (.int .i64 0)).setCell ⟨w.heap.size + 1, 1, none⟩ (.int .i64 0)).setCell ⟨w.heap.size + 1, 2, none⟩ (.int .i64 0)).setCell ⟨w.heap.size + 1, 3, none⟩ (.int .i64 0)) (w.heap.size + 1) [.int .i64 0, .int .i64 0, .int .i64 0, .int .i64 0] := (Kr1.out.set4 (.int .i64 0) (.int .i64 0) (.int .i64 0) (.int .i64 0))
  generalize ((((w1).setCell ⟨w.heap.size + 1, 0, none⟩ (.int .i64 0)).setCell ⟨w.heap.size + 1, 1, none⟩ (.int .i64 0)).setCell ⟨w.heap.size + 1, 2, none⟩ (.int .i64 0)).setCell ⟨w.heap.size + 1, 3, none⟩ (.int .i64 0) = wz at g0 b0 ⊢
  have cr0 := b0.c 0 _ rfl
  have cr1 := b0.c 1 _ rfl
  have cr2 := b0.c 2 _ rfl
  have cr3 := b0.c 3 _ rfl
  refine bodyPost_ret (v := .tuple #[.agg #[.int .i64 0, .int .i64 0, .int .i64 0, .int .i64 0], .int .i64 1]) (by simp [results, Try.results64, go_sem, cr0, cr1, cr2, cr3]) rfl ⟨rfl, g0⟩


set_option maxHeartbeats 400000 in
theorem Acked_rg (o k s c n d : Int) (w : World) (hv : Vs o k s c) (h : n < 0 ∨ 109951162 < n) :
    Calls Try.prog 64 #[.agg #[.int .i64 o, .int .i64 k, .int .i64 s, .int .i64 c], .int .i64 n, .int .i64 d] w fun e w' => e = .returned (.tuple #[.agg #[.int .i64 0, .int .i64 0, .int .i64 0, .int .i64 0], .int .i64 2]) ∧ Gr w w' := by
  have HV := Lib.hid hv
  have H := Lib.hid h
  clear hv h
  go_enter Try.func64, Try.ntmps64
  go_wp2_with fail
  have g0 : Gr w (((w).alloc (Obj.cells #[.int .i64 o, .int .i64 k, .int .i64 s, .int .i64 c] 45)).alloc (Obj.cells #[.int .i64 0, .int .i64 0, .int .i64 0, .int .i64 0] 45)) := Gr.alloc (Gr.alloc (Gr.refl w) _) _
  have bx : Bx (((w).alloc (Obj.cells #[.int .i64 o, .int .i64 k, .int .i64 s, .int .i64 c] 45)).alloc (Obj.cells #[.int .i64 0, .int .i64 0, .int .i64 0, .int .i64 0] 45)) (w.heap.size) [.int .i64 o, .int .i64 k, .int .i64 s, .int .i64 c] := Bx.gr (Bx.at_ (Bx.new (w) [.int .i64 o, .int .i64 k, .int .i64 s, .int .i64 c] 45) (by simp)) (Gr.alloc (Gr.refl _) _)
  have br : Bx (((w).alloc (Obj.cells #[.int .i64 o, .int .i64 k, .int .i64 s, .int .i64 c] 45)).alloc (Obj.cells #[.int .i64 0, .int .i64 0, .int .i64 0, .int .i64 0] 45)) (w.heap.size + 1) [.int .i64 0, .int .i64 0, .int .i64 0, .int .i64 0] := Bx.gr (Bx.at_ (Bx.new ((w).alloc (Obj.cells #[.int .i64 o, .int .i64 k, .int .i64 s, .int .i64 c] 45)) [.int .i64 0, .int .i64 0, .int .i64 0, .int .i64 0] 45) (by simp)) (Gr.refl _)
  generalize ((w).alloc (Obj.cells #[.int .i64 o, .int .i64 k, .int .i64 s, .int .i64 c] 45)).alloc (Obj.cells #[.int .i64 0, .int .i64 0, .int .i64 0, .int .i64 0] 45) = W at g0 bx br ⊢
  have S0 := Lib.hid g0
  have Kx0 := Lib.hid bx
  have Kr0 := Lib.hid br
  clear g0 bx br
  refine (Tck_ok o k s c _ HV.out).mono ?_
  rintro e w1 ⟨rfl, hg⟩
  have S1 := Lib.hid (S0.out.trans hg)
  have Kx1 := Lib.hid (Kx0.out.gr hg)
  have Kr1 := Lib.hid (Kr0.out.gr hg)
  clear hg
  have cx0 := Kx1.out.c 0 _ rfl
  have cx1 := Kx1.out.c 1 _ rfl
  have cx2 := Kx1.out.c 2 _ rfl
  have cx3 := Kx1.out.c 3 _ rfl
  have lx := Kx1.out.lt
  have cr0 := Kr1.out.c 0 _ rfl
  have cr1 := Kr1.out.c 1 _ rfl
  have cr2 := Kr1.out.c 2 _ rfl
  have cr3 := Kr1.out.c 3 _ rfl
  have lr := Kr1.out.lt
  go_wp2_with fail
  all_goals (try clear cx0 cx1 cx2 cx3 lx cr0 cr1 cr2 cr3 lr)
  refine (isl_f n _ H.out).mono ?_
  rintro e w2 ⟨rfl, hg⟩
  have S2 := Lib.hid (S1.out.trans hg)
  have Kx2 := Lib.hid (Kx1.out.gr hg)
  have Kr2 := Lib.hid (Kr1.out.gr hg)
  clear hg
  have cx0 := Kx2.out.c 0 _ rfl
  have fx0 := Kx2.out.f 0 (by simp)
  have cx1 := Kx2.out.c 1 _ rfl
  have fx1 := Kx2.out.f 1 (by simp)
  have cx2 := Kx2.out.c 2 _ rfl
  have fx2 := Kx2.out.f 2 (by simp)
  have cx3 := Kx2.out.c 3 _ rfl
  have fx3 := Kx2.out.f 3 (by simp)
  have lx := Kx2.out.lt
  have cr0 := Kr2.out.c 0 _ rfl
  have fr0 := Kr2.out.f 0 (by simp)
  have cr1 := Kr2.out.c 1 _ rfl
  have fr1 := Kr2.out.f 1 (by simp)
  have cr2 := Kr2.out.c 2 _ rfl
  have fr2 := Kr2.out.f 2 (by simp)
  have cr3 := Kr2.out.c 3 _ rfl
  have fr3 := Kr2.out.f 3 (by simp)
  have lr := Kr2.out.lt
  go_wp2_with fail
  all_goals (try clear cx0 fx0 cx1 fx1 cx2 fx2 cx3 fx3 lx cr0 fr0 cr1 fr1 cr2 fr2 cr3 fr3 lr)
  have g0 : Gr w (((((w2).setCell ⟨w.heap.size + 1, 0, none⟩ (.int .i64 0)).setCell ⟨w.heap.size + 1, 1, none⟩ (.int .i64 0)).setCell ⟨w.heap.size + 1, 2, none⟩ (.int .i64 0)).setCell ⟨w.heap.size + 1, 3, none⟩ (.int .i64 0)) := (Gr.set ((Gr.set ((Gr.set ((Gr.set (S2.out) (p := ⟨w.heap.size + 1, 0, none⟩) (by simp) _)) (p := ⟨w.heap.size + 1, 1, none⟩) (by simp) _)) (p := ⟨w.heap.size + 1, 2, none⟩) (by simp) _)) (p := ⟨w.heap.size + 1, 3, none⟩) (by simp) _)
  have b0 : Bx (((((w2).setCell ⟨w.heap.size + 1, 0, none⟩ (.int .i64 0)).setCell ⟨w.heap.size + 1, 1, none⟩ (.int .i64 0)).setCell ⟨w.heap.size + 1, 2, none⟩ (.int .i64 0)).setCell ⟨w.heap.size + 1, 3, none⟩ (.int .i64 0)) (w.heap.size + 1) [.int .i64 0, .int .i64 0, .int .i64 0, .int .i64 0] := (Kr2.out.set4 (.int .i64 0) (.int .i64 0) (.int .i64 0) (.int .i64 0))
  generalize ((((w2).setCell ⟨w.heap.size + 1, 0, none⟩ (.int .i64 0)).setCell ⟨w.heap.size + 1, 1, none⟩ (.int .i64 0)).setCell ⟨w.heap.size + 1, 2, none⟩ (.int .i64 0)).setCell ⟨w.heap.size + 1, 3, none⟩ (.int .i64 0) = wz at g0 b0 ⊢
  have cr0 := b0.c 0 _ rfl
  have cr1 := b0.c 1 _ rfl
  have cr2 := b0.c 2 _ rfl
  have cr3 := b0.c 3 _ rfl
  refine bodyPost_ret (v := .tuple #[.agg #[.int .i64 0, .int .i64 0, .int .i64 0, .int .i64 0], .int .i64 2]) (by simp [results, Try.results64, go_sem, cr0, cr1, cr2, cr3]) rfl ⟨rfl, g0⟩


theorem Hear_any (o k s c n t : Int) (w : World) : Calls Try.prog 62 #[.agg #[.int .i64 o, .int .i64 k, .int .i64 s, .int .i64 c], .int .i64 n, .int .i64 t] w fun e w' => e = .returned (.tuple #[(.agg #[.int .i64 (he ⟨o, k, s, c⟩ n t).1.o, .int .i64 (he ⟨o, k, s, c⟩ n t).1.k, .int .i64 (he ⟨o, k, s, c⟩ n t).1.s, .int .i64 (he ⟨o, k, s, c⟩ n t).1.c]), .int .i64 (he ⟨o, k, s, c⟩ n t).2]) ∧ Gr w w' := by
  by_cases h : Vs o k s c
  · by_cases h1 : inSlot n ∧ inTime t
    · rw [show he ⟨o, k, s, c⟩ n t = co ⟨o, k, s, c⟩ n (-(rd o k t - (n * 10000 + 2120))) from (if_pos h).trans (if_pos h1)]
      exact Hear_ok o k s c n t w h h1.1.1 h1.1.2 h1.2.1 h1.2.2
    · rw [show he ⟨o, k, s, c⟩ n t = (Sy0, 2) from (if_pos h).trans (if_neg h1)]
      exact Hear_rg o k s c n t w h h1
  · rw [show he ⟨o, k, s, c⟩ n t = (Sy0, 1) from if_neg h]
    exact Hear_arg o k s c n t w h
theorem Acked_any (o k s c n d : Int) (w : World) : Calls Try.prog 64 #[.agg #[.int .i64 o, .int .i64 k, .int .i64 s, .int .i64 c], .int .i64 n, .int .i64 d] w fun e w' => e = .returned (.tuple #[(.agg #[.int .i64 (ac ⟨o, k, s, c⟩ n d).1.o, .int .i64 (ac ⟨o, k, s, c⟩ n d).1.k, .int .i64 (ac ⟨o, k, s, c⟩ n d).1.s, .int .i64 (ac ⟨o, k, s, c⟩ n d).1.c]), .int .i64 (ac ⟨o, k, s, c⟩ n d).2]) ∧ Gr w w' := by
  by_cases h : Vs o k s c
  · by_cases h1 : inSlot n
    · rw [show ac ⟨o, k, s, c⟩ n d = co ⟨o, k, s, c⟩ n d from (if_pos h).trans (if_pos h1)]
      exact Acked_ok o k s c n d w h h1.1 h1.2
    · rw [show ac ⟨o, k, s, c⟩ n d = (Sy0, 2) from (if_pos h).trans (if_neg h1)]
      exact Acked_rg o k s c n d w h (not_inSlot h1)
  · rw [show ac ⟨o, k, s, c⟩ n d = (Sy0, 1) from if_neg h]
    exact Acked_arg o k s c n d w h

set_option maxHeartbeats 400000 in
theorem Syn_n0 (o k s c n p : Int) (w : World) (hv : ¬ Vs o k s c) :
    Calls Try.prog 68 #[.agg #[.int .i64 o, .int .i64 k, .int .i64 s, .int .i64 c], .int .i64 n, .int .i64 p] w fun e w' => e = .returned (.bool false) ∧ Gr w w' := by
  have HV := Lib.hid hv
  clear hv
  go_enter Try.func68, Try.ntmps68
  go_wp2_with fail
  have g0 : Gr w ((w).alloc (Obj.cells #[.int .i64 o, .int .i64 k, .int .i64 s, .int .i64 c] 45)) := Gr.alloc (Gr.refl w) _
  have bx : Bx ((w).alloc (Obj.cells #[.int .i64 o, .int .i64 k, .int .i64 s, .int .i64 c] 45)) (w.heap.size) [.int .i64 o, .int .i64 k, .int .i64 s, .int .i64 c] := Bx.gr (Bx.at_ (Bx.new (w) [.int .i64 o, .int .i64 k, .int .i64 s, .int .i64 c] 45) (by simp)) (Gr.refl _)
  generalize (w).alloc (Obj.cells #[.int .i64 o, .int .i64 k, .int .i64 s, .int .i64 c] 45) = W at g0 bx ⊢
  have S0 := Lib.hid g0
  have Kx0 := Lib.hid bx
  clear g0 bx
  refine (Tck_no o k s c _ HV.out).mono ?_
  rintro e w1 ⟨rfl, hg⟩
  have S1 := Lib.hid (S0.out.trans hg)
  have Kx1 := Lib.hid (Kx0.out.gr hg)
  clear hg
  have cx0 := Kx1.out.c 0 _ rfl
  have cx1 := Kx1.out.c 1 _ rfl
  have cx2 := Kx1.out.c 2 _ rfl
  have cx3 := Kx1.out.c 3 _ rfl
  have lx := Kx1.out.lt
  go_wp2_with fail
  all_goals (try clear cx0 cx1 cx2 cx3 lx)
  all_goals go_ret
  all_goals exact ⟨rfl, S1.out⟩


set_option maxHeartbeats 400000 in
theorem Syn_n1 (o k c n p : Int) (w : World) (hv : Vs o k (-1) c) :
    Calls Try.prog 68 #[.agg #[.int .i64 o, .int .i64 k, .int .i64 (-1), .int .i64 c], .int .i64 n, .int .i64 p] w fun e w' => e = .returned (.bool false) ∧ Gr w w' := by
  have HV := Lib.hid hv
  clear hv
  go_enter Try.func68, Try.ntmps68
  go_wp2_with fail
  have g0 : Gr w ((w).alloc (Obj.cells #[.int .i64 o, .int .i64 k, .int .i64 (-1), .int .i64 c] 45)) := Gr.alloc (Gr.refl w) _
  have bx : Bx ((w).alloc (Obj.cells #[.int .i64 o, .int .i64 k, .int .i64 (-1), .int .i64 c] 45)) (w.heap.size) [.int .i64 o, .int .i64 k, .int .i64 (-1), .int .i64 c] := Bx.gr (Bx.at_ (Bx.new (w) [.int .i64 o, .int .i64 k, .int .i64 (-1), .int .i64 c] 45) (by simp)) (Gr.refl _)
  generalize (w).alloc (Obj.cells #[.int .i64 o, .int .i64 k, .int .i64 (-1), .int .i64 c] 45) = W at g0 bx ⊢
  have S0 := Lib.hid g0
  have Kx0 := Lib.hid bx
  clear g0 bx
  refine (Tck_ok o k (-1) c _ HV.out).mono ?_
  rintro e w1 ⟨rfl, hg⟩
  have S1 := Lib.hid (S0.out.trans hg)
  have Kx1 := Lib.hid (Kx0.out.gr hg)
  clear hg
  have cx0 := Kx1.out.c 0 _ rfl
  have cx1 := Kx1.out.c 1 _ rfl
  have cx2 := Kx1.out.c 2 _ rfl
  have cx3 := Kx1.out.c 3 _ rfl
  have lx := Kx1.out.lt
  go_wp2_with fail
  all_goals (try clear cx0 cx1 cx2 cx3 lx)
  all_goals go_ret
  all_goals exact ⟨rfl, S1.out⟩


set_option maxHeartbeats 400000 in
theorem Syn_n2 (o k s c n p : Int) (w : World) (hv : Vs o k s c) (s0 : 0 ≤ s) (h : n < s) :
    Calls Try.prog 68 #[.agg #[.int .i64 o, .int .i64 k, .int .i64 s, .int .i64 c], .int .i64 n, .int .i64 p] w fun e w' => e = .returned (.bool false) ∧ Gr w w' := by
  have e1 : (s == -1) = false := beq_eq_false_iff_ne.2 (by omega)
  have HV := Lib.hid hv
  clear hv
  go_enter Try.func68, Try.ntmps68
  go_wp2_with fail
  have g0 : Gr w ((w).alloc (Obj.cells #[.int .i64 o, .int .i64 k, .int .i64 s, .int .i64 c] 45)) := Gr.alloc (Gr.refl w) _
  have bx : Bx ((w).alloc (Obj.cells #[.int .i64 o, .int .i64 k, .int .i64 s, .int .i64 c] 45)) (w.heap.size) [.int .i64 o, .int .i64 k, .int .i64 s, .int .i64 c] := Bx.gr (Bx.at_ (Bx.new (w) [.int .i64 o, .int .i64 k, .int .i64 s, .int .i64 c] 45) (by simp)) (Gr.refl _)
  generalize (w).alloc (Obj.cells #[.int .i64 o, .int .i64 k, .int .i64 s, .int .i64 c] 45) = W at g0 bx ⊢
  have S0 := Lib.hid g0
  have Kx0 := Lib.hid bx
  clear g0 bx
  refine (Tck_ok o k s c _ HV.out).mono ?_
  rintro e w1 ⟨rfl, hg⟩
  have S1 := Lib.hid (S0.out.trans hg)
  have Kx1 := Lib.hid (Kx0.out.gr hg)
  clear hg
  have cx0 := Kx1.out.c 0 _ rfl
  have cx1 := Kx1.out.c 1 _ rfl
  have cx2 := Kx1.out.c 2 _ rfl
  have cx3 := Kx1.out.c 3 _ rfl
  have lx := Kx1.out.lt
  go_wp2_with fail
  all_goals (try clear cx0 cx1 cx2 cx3 lx)
  all_goals go_ret
  all_goals exact ⟨rfl, S1.out⟩


set_option maxHeartbeats 400000 in
theorem Syn_n3 (o k s c n p : Int) (w : World) (hv : Vs o k s c) (s0 : 0 ≤ s) (h : s ≤ n) (hn : n ≤ 9223372036854775807) (h1 : p < n - s) :
    Calls Try.prog 68 #[.agg #[.int .i64 o, .int .i64 k, .int .i64 s, .int .i64 c], .int .i64 n, .int .i64 p] w fun e w' => e = .returned (.bool false) ∧ Gr w w' := by
  have e1 : (s == -1) = false := beq_eq_false_iff_ne.2 (by omega)
  have e2 : decide (n - s ≤ p) = false := decide_eq_false (by omega)
  have HV := Lib.hid hv
  clear hv
  go_enter Try.func68, Try.ntmps68
  go_wp2_with fail
  have g0 : Gr w ((w).alloc (Obj.cells #[.int .i64 o, .int .i64 k, .int .i64 s, .int .i64 c] 45)) := Gr.alloc (Gr.refl w) _
  have bx : Bx ((w).alloc (Obj.cells #[.int .i64 o, .int .i64 k, .int .i64 s, .int .i64 c] 45)) (w.heap.size) [.int .i64 o, .int .i64 k, .int .i64 s, .int .i64 c] := Bx.gr (Bx.at_ (Bx.new (w) [.int .i64 o, .int .i64 k, .int .i64 s, .int .i64 c] 45) (by simp)) (Gr.refl _)
  generalize (w).alloc (Obj.cells #[.int .i64 o, .int .i64 k, .int .i64 s, .int .i64 c] 45) = W at g0 bx ⊢
  have S0 := Lib.hid g0
  have Kx0 := Lib.hid bx
  clear g0 bx
  refine (Tck_ok o k s c _ HV.out).mono ?_
  rintro e w1 ⟨rfl, hg⟩
  have S1 := Lib.hid (S0.out.trans hg)
  have Kx1 := Lib.hid (Kx0.out.gr hg)
  clear hg
  have cx0 := Kx1.out.c 0 _ rfl
  have cx1 := Kx1.out.c 1 _ rfl
  have cx2 := Kx1.out.c 2 _ rfl
  have cx3 := Kx1.out.c 3 _ rfl
  have lx := Kx1.out.lt
  go_wp2_with fail
  all_goals (try clear cx0 cx1 cx2 cx3 lx)
  all_goals go_ret
  all_goals first | exact ⟨rfl, S1.out⟩ | exact ⟨congrArg (fun b => Ending.returned (.bool b)) e2, S1.out⟩ | exact ⟨congrArg (fun b => Ending.returned (.bool b)) (bne_iff_ne.2 (by omega)), S1.out⟩


set_option maxHeartbeats 400000 in
theorem Syn_ok (o k s c n p : Int) (w : World) (hv : Vs o k s c) (s0 : 0 ≤ s) (h : s ≤ n) (hn : n ≤ 9223372036854775807) (h1 : n - s ≤ p) :
    Calls Try.prog 68 #[.agg #[.int .i64 o, .int .i64 k, .int .i64 s, .int .i64 c], .int .i64 n, .int .i64 p] w fun e w' => e = .returned (.bool true) ∧ Gr w w' := by
  have e1 : (s == -1) = false := beq_eq_false_iff_ne.2 (by omega)
  have e2 : decide (n - s ≤ p) = true := decide_eq_true h1
  have HV := Lib.hid hv
  clear hv
  go_enter Try.func68, Try.ntmps68
  go_wp2_with fail
  have g0 : Gr w ((w).alloc (Obj.cells #[.int .i64 o, .int .i64 k, .int .i64 s, .int .i64 c] 45)) := Gr.alloc (Gr.refl w) _
  have bx : Bx ((w).alloc (Obj.cells #[.int .i64 o, .int .i64 k, .int .i64 s, .int .i64 c] 45)) (w.heap.size) [.int .i64 o, .int .i64 k, .int .i64 s, .int .i64 c] := Bx.gr (Bx.at_ (Bx.new (w) [.int .i64 o, .int .i64 k, .int .i64 s, .int .i64 c] 45) (by simp)) (Gr.refl _)
  generalize (w).alloc (Obj.cells #[.int .i64 o, .int .i64 k, .int .i64 s, .int .i64 c] 45) = W at g0 bx ⊢
  have S0 := Lib.hid g0
  have Kx0 := Lib.hid bx
  clear g0 bx
  refine (Tck_ok o k s c _ HV.out).mono ?_
  rintro e w1 ⟨rfl, hg⟩
  have S1 := Lib.hid (S0.out.trans hg)
  have Kx1 := Lib.hid (Kx0.out.gr hg)
  clear hg
  have cx0 := Kx1.out.c 0 _ rfl
  have cx1 := Kx1.out.c 1 _ rfl
  have cx2 := Kx1.out.c 2 _ rfl
  have cx3 := Kx1.out.c 3 _ rfl
  have lx := Kx1.out.lt
  go_wp2_with fail
  all_goals (try clear cx0 cx1 cx2 cx3 lx)
  all_goals go_ret
  all_goals first | exact ⟨rfl, S1.out⟩ | exact ⟨congrArg (fun b => Ending.returned (.bool b)) e2, S1.out⟩ | exact ⟨congrArg (fun b => Ending.returned (.bool b)) (bne_iff_ne.2 (by omega)), S1.out⟩


theorem Syn_any (o k s c n p : Int) (w : World) (hn : n ≤ 9223372036854775807) : Calls Try.prog 68 #[.agg #[.int .i64 o, .int .i64 k, .int .i64 s, .int .i64 c], .int .i64 n, .int .i64 p] w fun e w' => e = .returned (.bool (sySh ⟨o, k, s, c⟩ n p)) ∧ Gr w w' := by
  by_cases h : Vs o k s c
  · by_cases h1 : s = -1
    · subst h1
      rw [show sySh ⟨o, k, -1, c⟩ n p = false from decide_eq_false (fun x => x.2.1 rfl)]
      exact Syn_n1 o k c n p w h
    · have s0 : 0 ≤ s := by rcases h.sl with e | e; exact absurd e h1; exact e.1
      by_cases h2 : s ≤ n
      · by_cases h3 : n - s ≤ p
        · rw [show sySh ⟨o, k, s, c⟩ n p = true from decide_eq_true ⟨h, h1, h2, h3⟩]
          exact Syn_ok o k s c n p w h s0 h2 hn h3
        · rw [show sySh ⟨o, k, s, c⟩ n p = false from decide_eq_false (fun x => h3 x.2.2.2)]
          exact Syn_n3 o k s c n p w h s0 h2 hn (by omega)
      · rw [show sySh ⟨o, k, s, c⟩ n p = false from decide_eq_false (fun x => h2 x.2.2.1)]
        exact Syn_n2 o k s c n p w h s0 (by omega)
  · rw [show sySh ⟨o, k, s, c⟩ n p = false from decide_eq_false (fun x => h x.1)]
    exact Syn_n0 o k s c n p w h

set_option maxHeartbeats 400000 in
theorem rHear_arg (o k s c n t : Int) (w : World) (hv : ¬ Vs o k s c) :
    Calls Try.prog 63 #[.agg #[.int .i64 o, .int .i64 k, .int .i64 s, .int .i64 c], .int .i64 n, .int .i64 t] w fun e w' => e = .returned (.tuple #[.agg #[.int .i64 0, .int .i64 0, .int .i64 0, .int .i64 0], .int .i64 1]) ∧ Gr w w' := by
  have HV := Lib.hid hv
  clear hv
  go_enter Try.func63, Try.ntmps63
  go_wp2_with fail
  have g0 : Gr w (((w).alloc (Obj.cells #[.int .i64 o, .int .i64 k, .int .i64 s, .int .i64 c] 45)).alloc (Obj.cells #[.int .i64 0, .int .i64 0, .int .i64 0, .int .i64 0] 45)) := Gr.alloc (Gr.alloc (Gr.refl w) _) _
  have bx : Bx (((w).alloc (Obj.cells #[.int .i64 o, .int .i64 k, .int .i64 s, .int .i64 c] 45)).alloc (Obj.cells #[.int .i64 0, .int .i64 0, .int .i64 0, .int .i64 0] 45)) (w.heap.size) [.int .i64 o, .int .i64 k, .int .i64 s, .int .i64 c] := Bx.gr (Bx.at_ (Bx.new (w) [.int .i64 o, .int .i64 k, .int .i64 s, .int .i64 c] 45) (by simp)) (Gr.alloc (Gr.refl _) _)
  have br : Bx (((w).alloc (Obj.cells #[.int .i64 o, .int .i64 k, .int .i64 s, .int .i64 c] 45)).alloc (Obj.cells #[.int .i64 0, .int .i64 0, .int .i64 0, .int .i64 0] 45)) (w.heap.size + 1) [.int .i64 0, .int .i64 0, .int .i64 0, .int .i64 0] := Bx.gr (Bx.at_ (Bx.new ((w).alloc (Obj.cells #[.int .i64 o, .int .i64 k, .int .i64 s, .int .i64 c] 45)) [.int .i64 0, .int .i64 0, .int .i64 0, .int .i64 0] 45) (by simp)) (Gr.refl _)
  generalize ((w).alloc (Obj.cells #[.int .i64 o, .int .i64 k, .int .i64 s, .int .i64 c] 45)).alloc (Obj.cells #[.int .i64 0, .int .i64 0, .int .i64 0, .int .i64 0] 45) = W at g0 bx br ⊢
  have S0 := Lib.hid g0
  have Kx0 := Lib.hid bx
  have Kr0 := Lib.hid br
  clear g0 bx br
  refine (rTck_no o k s c _ HV.out).mono ?_
  rintro e w1 ⟨rfl, hg⟩
  have S1 := Lib.hid (S0.out.trans hg)
  have Kx1 := Lib.hid (Kx0.out.gr hg)
  have Kr1 := Lib.hid (Kr0.out.gr hg)
  clear hg
  have cx0 := Kx1.out.c 0 _ rfl
  have fx0 := Kx1.out.f 0 (by simp)
  have cx1 := Kx1.out.c 1 _ rfl
  have fx1 := Kx1.out.f 1 (by simp)
  have cx2 := Kx1.out.c 2 _ rfl
  have fx2 := Kx1.out.f 2 (by simp)
  have cx3 := Kx1.out.c 3 _ rfl
  have fx3 := Kx1.out.f 3 (by simp)
  have lx := Kx1.out.lt
  have cr0 := Kr1.out.c 0 _ rfl
  have fr0 := Kr1.out.f 0 (by simp)
  have cr1 := Kr1.out.c 1 _ rfl
  have fr1 := Kr1.out.f 1 (by simp)
  have cr2 := Kr1.out.c 2 _ rfl
  have fr2 := Kr1.out.f 2 (by simp)
  have cr3 := Kr1.out.c 3 _ rfl
  have fr3 := Kr1.out.f 3 (by simp)
  have lr := Kr1.out.lt
  go_wp2_with fail
  all_goals (try clear cx0 fx0 cx1 fx1 cx2 fx2 cx3 fx3 lx cr0 fr0 cr1 fr1 cr2 fr2 cr3 fr3 lr)
  have g0 : Gr w (((((w1).setCell ⟨w.heap.size + 1, 0, none⟩ (.int .i64 0)).setCell ⟨w.heap.size + 1, 1, none⟩ (.int .i64 0)).setCell ⟨w.heap.size + 1, 2, none⟩ (.int .i64 0)).setCell ⟨w.heap.size + 1, 3, none⟩ (.int .i64 0)) := (Gr.set ((Gr.set ((Gr.set ((Gr.set (S1.out) (p := ⟨w.heap.size + 1, 0, none⟩) (by simp) _)) (p := ⟨w.heap.size + 1, 1, none⟩) (by simp) _)) (p := ⟨w.heap.size + 1, 2, none⟩) (by simp) _)) (p := ⟨w.heap.size + 1, 3, none⟩) (by simp) _)
  have b0 : Bx (((((w1).setCell ⟨w.heap.size + 1, 0, none⟩ (.int .i64 0)).setCell ⟨w.heap.size + 1, 1, none⟩ (.int .i64 0)).setCell ⟨w.heap.size + 1, 2, none⟩ (.int .i64 0)).setCell ⟨w.heap.size + 1, 3, none⟩ (.int .i64 0)) (w.heap.size + 1) [.int .i64 0, .int .i64 0, .int .i64 0, .int .i64 0] := (Kr1.out.set4 (.int .i64 0) (.int .i64 0) (.int .i64 0) (.int .i64 0))
  generalize ((((w1).setCell ⟨w.heap.size + 1, 0, none⟩ (.int .i64 0)).setCell ⟨w.heap.size + 1, 1, none⟩ (.int .i64 0)).setCell ⟨w.heap.size + 1, 2, none⟩ (.int .i64 0)).setCell ⟨w.heap.size + 1, 3, none⟩ (.int .i64 0) = wz at g0 b0 ⊢
  have cr0 := b0.c 0 _ rfl
  have cr1 := b0.c 1 _ rfl
  have cr2 := b0.c 2 _ rfl
  have cr3 := b0.c 3 _ rfl
  refine bodyPost_ret (v := .tuple #[.agg #[.int .i64 0, .int .i64 0, .int .i64 0, .int .i64 0], .int .i64 1]) (by simp [results, Try.results63, go_sem, cr0, cr1, cr2, cr3]) rfl ⟨rfl, g0⟩


set_option maxHeartbeats 400000 in
theorem rHear_rg (o k s c n t : Int) (w : World) (hv : Vs o k s c) (h : ¬ (inSlot n ∧ inTime t)) :
    Calls Try.prog 63 #[.agg #[.int .i64 o, .int .i64 k, .int .i64 s, .int .i64 c], .int .i64 n, .int .i64 t] w fun e w' => e = .returned (.tuple #[.agg #[.int .i64 0, .int .i64 0, .int .i64 0, .int .i64 0], .int .i64 2]) ∧ Gr w w' := by
  have hm : meE o k n t = 2 := (if_pos hv.vc).trans (if_neg h)
  have HV := Lib.hid hv
  have H := Lib.hid h
  clear hv h
  go_enter Try.func63, Try.ntmps63
  go_wp2_with fail
  have g0 : Gr w (((w).alloc (Obj.cells #[.int .i64 o, .int .i64 k, .int .i64 s, .int .i64 c] 45)).alloc (Obj.cells #[.int .i64 0, .int .i64 0, .int .i64 0, .int .i64 0] 45)) := Gr.alloc (Gr.alloc (Gr.refl w) _) _
  have bx : Bx (((w).alloc (Obj.cells #[.int .i64 o, .int .i64 k, .int .i64 s, .int .i64 c] 45)).alloc (Obj.cells #[.int .i64 0, .int .i64 0, .int .i64 0, .int .i64 0] 45)) (w.heap.size) [.int .i64 o, .int .i64 k, .int .i64 s, .int .i64 c] := Bx.gr (Bx.at_ (Bx.new (w) [.int .i64 o, .int .i64 k, .int .i64 s, .int .i64 c] 45) (by simp)) (Gr.alloc (Gr.refl _) _)
  have br : Bx (((w).alloc (Obj.cells #[.int .i64 o, .int .i64 k, .int .i64 s, .int .i64 c] 45)).alloc (Obj.cells #[.int .i64 0, .int .i64 0, .int .i64 0, .int .i64 0] 45)) (w.heap.size + 1) [.int .i64 0, .int .i64 0, .int .i64 0, .int .i64 0] := Bx.gr (Bx.at_ (Bx.new ((w).alloc (Obj.cells #[.int .i64 o, .int .i64 k, .int .i64 s, .int .i64 c] 45)) [.int .i64 0, .int .i64 0, .int .i64 0, .int .i64 0] 45) (by simp)) (Gr.refl _)
  generalize ((w).alloc (Obj.cells #[.int .i64 o, .int .i64 k, .int .i64 s, .int .i64 c] 45)).alloc (Obj.cells #[.int .i64 0, .int .i64 0, .int .i64 0, .int .i64 0] 45) = W at g0 bx br ⊢
  have S0 := Lib.hid g0
  have Kx0 := Lib.hid bx
  have Kr0 := Lib.hid br
  clear g0 bx br
  refine (rTck_ok o k s c _ HV.out).mono ?_
  rintro e w1 ⟨rfl, hg⟩
  have S1 := Lib.hid (S0.out.trans hg)
  have Kx1 := Lib.hid (Kx0.out.gr hg)
  have Kr1 := Lib.hid (Kr0.out.gr hg)
  clear hg
  have cx0 := Kx1.out.c 0 _ rfl
  have cx1 := Kx1.out.c 1 _ rfl
  have cx2 := Kx1.out.c 2 _ rfl
  have cx3 := Kx1.out.c 3 _ rfl
  have lx := Kx1.out.lt
  have cr0 := Kr1.out.c 0 _ rfl
  have cr1 := Kr1.out.c 1 _ rfl
  have cr2 := Kr1.out.c 2 _ rfl
  have cr3 := Kr1.out.c 3 _ rfl
  have lr := Kr1.out.lt
  go_wp2_with fail
  all_goals (try clear cx0 cx1 cx2 cx3 lx cr0 cr1 cr2 cr3 lr)
  have hj := rMeas_any o k n t
  rw [hm] at hj
  have HJ := Lib.hid hj
  clear hj
  refine (HJ.out _).mono ?_
  rintro e w2 ⟨rfl, hg⟩
  have S2 := Lib.hid (S1.out.trans hg)
  have Kx2 := Lib.hid (Kx1.out.gr hg)
  have Kr2 := Lib.hid (Kr1.out.gr hg)
  clear hg
  have cx0 := Kx2.out.c 0 _ rfl
  have fx0 := Kx2.out.f 0 (by simp)
  have cx1 := Kx2.out.c 1 _ rfl
  have fx1 := Kx2.out.f 1 (by simp)
  have cx2 := Kx2.out.c 2 _ rfl
  have fx2 := Kx2.out.f 2 (by simp)
  have cx3 := Kx2.out.c 3 _ rfl
  have fx3 := Kx2.out.f 3 (by simp)
  have lx := Kx2.out.lt
  have cr0 := Kr2.out.c 0 _ rfl
  have fr0 := Kr2.out.f 0 (by simp)
  have cr1 := Kr2.out.c 1 _ rfl
  have fr1 := Kr2.out.f 1 (by simp)
  have cr2 := Kr2.out.c 2 _ rfl
  have fr2 := Kr2.out.f 2 (by simp)
  have cr3 := Kr2.out.c 3 _ rfl
  have fr3 := Kr2.out.f 3 (by simp)
  have lr := Kr2.out.lt
  go_wp2_with fail
  all_goals (try clear cx0 fx0 cx1 fx1 cx2 fx2 cx3 fx3 lx cr0 fr0 cr1 fr1 cr2 fr2 cr3 fr3 lr)
  have g0 : Gr w (((((w2).setCell ⟨w.heap.size + 1, 0, none⟩ (.int .i64 0)).setCell ⟨w.heap.size + 1, 1, none⟩ (.int .i64 0)).setCell ⟨w.heap.size + 1, 2, none⟩ (.int .i64 0)).setCell ⟨w.heap.size + 1, 3, none⟩ (.int .i64 0)) := (Gr.set ((Gr.set ((Gr.set ((Gr.set (S2.out) (p := ⟨w.heap.size + 1, 0, none⟩) (by simp) _)) (p := ⟨w.heap.size + 1, 1, none⟩) (by simp) _)) (p := ⟨w.heap.size + 1, 2, none⟩) (by simp) _)) (p := ⟨w.heap.size + 1, 3, none⟩) (by simp) _)
  have b0 : Bx (((((w2).setCell ⟨w.heap.size + 1, 0, none⟩ (.int .i64 0)).setCell ⟨w.heap.size + 1, 1, none⟩ (.int .i64 0)).setCell ⟨w.heap.size + 1, 2, none⟩ (.int .i64 0)).setCell ⟨w.heap.size + 1, 3, none⟩ (.int .i64 0)) (w.heap.size + 1) [.int .i64 0, .int .i64 0, .int .i64 0, .int .i64 0] := (Kr2.out.set4 (.int .i64 0) (.int .i64 0) (.int .i64 0) (.int .i64 0))
  generalize ((((w2).setCell ⟨w.heap.size + 1, 0, none⟩ (.int .i64 0)).setCell ⟨w.heap.size + 1, 1, none⟩ (.int .i64 0)).setCell ⟨w.heap.size + 1, 2, none⟩ (.int .i64 0)).setCell ⟨w.heap.size + 1, 3, none⟩ (.int .i64 0) = wz at g0 b0 ⊢
  have cr0 := b0.c 0 _ rfl
  have cr1 := b0.c 1 _ rfl
  have cr2 := b0.c 2 _ rfl
  have cr3 := b0.c 3 _ rfl
  refine bodyPost_ret (v := .tuple #[.agg #[.int .i64 0, .int .i64 0, .int .i64 0, .int .i64 0], .int .i64 2]) (by simp [results, Try.results63, go_sem, cr0, cr1, cr2, cr3]) rfl ⟨rfl, g0⟩


set_option maxHeartbeats 400000 in
theorem rHear_ok (o k s c n t : Int) (w : World) (hv : Vs o k s c) (s0 : 0 ≤ n) (s1 : n ≤ 109951162) (t0 : 0 ≤ t) (t1 : t ≤ 1099511627776) :
    Calls Try.prog 63 #[.agg #[.int .i64 o, .int .i64 k, .int .i64 s, .int .i64 c], .int .i64 n, .int .i64 t] w fun e w' => e = .returned (.tuple #[(.agg #[.int .i64 (co ⟨o, k, s, c⟩ n (-(rd o k t - (n * 10000 + 2120)))).1.o, .int .i64 (co ⟨o, k, s, c⟩ n (-(rd o k t - (n * 10000 + 2120)))).1.k, .int .i64 (co ⟨o, k, s, c⟩ n (-(rd o k t - (n * 10000 + 2120)))).1.s, .int .i64 (co ⟨o, k, s, c⟩ n (-(rd o k t - (n * 10000 + 2120)))).1.c]), .int .i64 (co ⟨o, k, s, c⟩ n (-(rd o k t - (n * 10000 + 2120)))).2]) ∧ Gr w w' := by
  have hb := rd_bd hv.vc t0 t1
  have HV := Lib.hid hv
  clear hv
  go_enter Try.func63, Try.ntmps63
  go_wp2_with fail
  have g0 : Gr w (((w).alloc (Obj.cells #[.int .i64 o, .int .i64 k, .int .i64 s, .int .i64 c] 45)).alloc (Obj.cells #[.int .i64 0, .int .i64 0, .int .i64 0, .int .i64 0] 45)) := Gr.alloc (Gr.alloc (Gr.refl w) _) _
  have bx : Bx (((w).alloc (Obj.cells #[.int .i64 o, .int .i64 k, .int .i64 s, .int .i64 c] 45)).alloc (Obj.cells #[.int .i64 0, .int .i64 0, .int .i64 0, .int .i64 0] 45)) (w.heap.size) [.int .i64 o, .int .i64 k, .int .i64 s, .int .i64 c] := Bx.gr (Bx.at_ (Bx.new (w) [.int .i64 o, .int .i64 k, .int .i64 s, .int .i64 c] 45) (by simp)) (Gr.alloc (Gr.refl _) _)
  have br : Bx (((w).alloc (Obj.cells #[.int .i64 o, .int .i64 k, .int .i64 s, .int .i64 c] 45)).alloc (Obj.cells #[.int .i64 0, .int .i64 0, .int .i64 0, .int .i64 0] 45)) (w.heap.size + 1) [.int .i64 0, .int .i64 0, .int .i64 0, .int .i64 0] := Bx.gr (Bx.at_ (Bx.new ((w).alloc (Obj.cells #[.int .i64 o, .int .i64 k, .int .i64 s, .int .i64 c] 45)) [.int .i64 0, .int .i64 0, .int .i64 0, .int .i64 0] 45) (by simp)) (Gr.refl _)
  generalize ((w).alloc (Obj.cells #[.int .i64 o, .int .i64 k, .int .i64 s, .int .i64 c] 45)).alloc (Obj.cells #[.int .i64 0, .int .i64 0, .int .i64 0, .int .i64 0] 45) = W at g0 bx br ⊢
  have S0 := Lib.hid g0
  have Kx0 := Lib.hid bx
  have Kr0 := Lib.hid br
  clear g0 bx br
  refine (rTck_ok o k s c _ HV.out).mono ?_
  rintro e w1 ⟨rfl, hg⟩
  have S1 := Lib.hid (S0.out.trans hg)
  have Kx1 := Lib.hid (Kx0.out.gr hg)
  have Kr1 := Lib.hid (Kr0.out.gr hg)
  clear hg
  have cx0 := Kx1.out.c 0 _ rfl
  have cx1 := Kx1.out.c 1 _ rfl
  have cx2 := Kx1.out.c 2 _ rfl
  have cx3 := Kx1.out.c 3 _ rfl
  have lx := Kx1.out.lt
  have cr0 := Kr1.out.c 0 _ rfl
  have cr1 := Kr1.out.c 1 _ rfl
  have cr2 := Kr1.out.c 2 _ rfl
  have cr3 := Kr1.out.c 3 _ rfl
  have lr := Kr1.out.lt
  go_wp2_with fail
  all_goals (try clear cx0 cx1 cx2 cx3 lx cr0 cr1 cr2 cr3 lr)
  refine (rMeas_ok o k n t _ HV.out.vc s0 s1 t0 t1).mono ?_
  rintro e w2 ⟨rfl, hg⟩
  have S2 := Lib.hid (S1.out.trans hg)
  have Kx2 := Lib.hid (Kx1.out.gr hg)
  have Kr2 := Lib.hid (Kr1.out.gr hg)
  clear hg
  have cx0 := Kx2.out.c 0 _ rfl
  have cx1 := Kx2.out.c 1 _ rfl
  have cx2 := Kx2.out.c 2 _ rfl
  have cx3 := Kx2.out.c 3 _ rfl
  have lx := Kx2.out.lt
  have cr0 := Kr2.out.c 0 _ rfl
  have cr1 := Kr2.out.c 1 _ rfl
  have cr2 := Kr2.out.c 2 _ rfl
  have cr3 := Kr2.out.c 3 _ rfl
  have lr := Kr2.out.lt
  go_wp2_with fail
  all_goals (try clear cx0 cx1 cx2 cx3 lx cr0 cr1 cr2 cr3 lr)
  refine (rCor_any o k s c n (-(rd o k t - (n * 10000 + 2120))) _ HV.out.vc HV.out.c0 HV.out.c1).mono ?_
  rintro e w3 ⟨rfl, hg⟩
  have S3 := Lib.hid (S2.out.trans hg)
  have Kx3 := Lib.hid (Kx2.out.gr hg)
  have Kr3 := Lib.hid (Kr2.out.gr hg)
  clear hg
  have cx0 := Kx3.out.c 0 _ rfl
  have fx0 := Kx3.out.f 0 (by simp)
  have cx1 := Kx3.out.c 1 _ rfl
  have fx1 := Kx3.out.f 1 (by simp)
  have cx2 := Kx3.out.c 2 _ rfl
  have fx2 := Kx3.out.f 2 (by simp)
  have cx3 := Kx3.out.c 3 _ rfl
  have fx3 := Kx3.out.f 3 (by simp)
  have lx := Kx3.out.lt
  have cr0 := Kr3.out.c 0 _ rfl
  have fr0 := Kr3.out.f 0 (by simp)
  have cr1 := Kr3.out.c 1 _ rfl
  have fr1 := Kr3.out.f 1 (by simp)
  have cr2 := Kr3.out.c 2 _ rfl
  have fr2 := Kr3.out.f 2 (by simp)
  have cr3 := Kr3.out.c 3 _ rfl
  have fr3 := Kr3.out.f 3 (by simp)
  have lr := Kr3.out.lt
  go_wp2_with fail
  have g0 : Gr w (((((w3).setCell ⟨w.heap.size + 1, 0, none⟩ (.int .i64 ((co ⟨o, k, s, c⟩ n (-(rd o k t - (n * 10000 + 2120)))).1.o))).setCell ⟨w.heap.size + 1, 1, none⟩ (.int .i64 ((co ⟨o, k, s, c⟩ n (-(rd o k t - (n * 10000 + 2120)))).1.k))).setCell ⟨w.heap.size + 1, 2, none⟩ (.int .i64 ((co ⟨o, k, s, c⟩ n (-(rd o k t - (n * 10000 + 2120)))).1.s))).setCell ⟨w.heap.size + 1, 3, none⟩ (.int .i64 ((co ⟨o, k, s, c⟩ n (-(rd o k t - (n * 10000 + 2120)))).1.c))) := (Gr.set ((Gr.set ((Gr.set ((Gr.set (S3.out) (p := ⟨w.heap.size + 1, 0, none⟩) (by simp) _)) (p := ⟨w.heap.size + 1, 1, none⟩) (by simp) _)) (p := ⟨w.heap.size + 1, 2, none⟩) (by simp) _)) (p := ⟨w.heap.size + 1, 3, none⟩) (by simp) _)
  have b0 : Bx (((((w3).setCell ⟨w.heap.size + 1, 0, none⟩ (.int .i64 ((co ⟨o, k, s, c⟩ n (-(rd o k t - (n * 10000 + 2120)))).1.o))).setCell ⟨w.heap.size + 1, 1, none⟩ (.int .i64 ((co ⟨o, k, s, c⟩ n (-(rd o k t - (n * 10000 + 2120)))).1.k))).setCell ⟨w.heap.size + 1, 2, none⟩ (.int .i64 ((co ⟨o, k, s, c⟩ n (-(rd o k t - (n * 10000 + 2120)))).1.s))).setCell ⟨w.heap.size + 1, 3, none⟩ (.int .i64 ((co ⟨o, k, s, c⟩ n (-(rd o k t - (n * 10000 + 2120)))).1.c))) (w.heap.size + 1) [.int .i64 ((co ⟨o, k, s, c⟩ n (-(rd o k t - (n * 10000 + 2120)))).1.o), .int .i64 ((co ⟨o, k, s, c⟩ n (-(rd o k t - (n * 10000 + 2120)))).1.k), .int .i64 ((co ⟨o, k, s, c⟩ n (-(rd o k t - (n * 10000 + 2120)))).1.s), .int .i64 ((co ⟨o, k, s, c⟩ n (-(rd o k t - (n * 10000 + 2120)))).1.c)] := (Kr3.out.set4 (.int .i64 ((co ⟨o, k, s, c⟩ n (-(rd o k t - (n * 10000 + 2120)))).1.o)) (.int .i64 ((co ⟨o, k, s, c⟩ n (-(rd o k t - (n * 10000 + 2120)))).1.k)) (.int .i64 ((co ⟨o, k, s, c⟩ n (-(rd o k t - (n * 10000 + 2120)))).1.s)) (.int .i64 ((co ⟨o, k, s, c⟩ n (-(rd o k t - (n * 10000 + 2120)))).1.c)))
  generalize ((((w3).setCell ⟨w.heap.size + 1, 0, none⟩ (.int .i64 ((co ⟨o, k, s, c⟩ n (-(rd o k t - (n * 10000 + 2120)))).1.o))).setCell ⟨w.heap.size + 1, 1, none⟩ (.int .i64 ((co ⟨o, k, s, c⟩ n (-(rd o k t - (n * 10000 + 2120)))).1.k))).setCell ⟨w.heap.size + 1, 2, none⟩ (.int .i64 ((co ⟨o, k, s, c⟩ n (-(rd o k t - (n * 10000 + 2120)))).1.s))).setCell ⟨w.heap.size + 1, 3, none⟩ (.int .i64 ((co ⟨o, k, s, c⟩ n (-(rd o k t - (n * 10000 + 2120)))).1.c)) = wz at g0 b0 ⊢
  have cr0 := b0.c 0 _ rfl
  have cr1 := b0.c 1 _ rfl
  have cr2 := b0.c 2 _ rfl
  have cr3 := b0.c 3 _ rfl
  refine bodyPost_ret (v := .tuple #[.agg #[.int .i64 ((co ⟨o, k, s, c⟩ n (-(rd o k t - (n * 10000 + 2120)))).1.o), .int .i64 ((co ⟨o, k, s, c⟩ n (-(rd o k t - (n * 10000 + 2120)))).1.k), .int .i64 ((co ⟨o, k, s, c⟩ n (-(rd o k t - (n * 10000 + 2120)))).1.s), .int .i64 ((co ⟨o, k, s, c⟩ n (-(rd o k t - (n * 10000 + 2120)))).1.c)], .int .i64 ((co ⟨o, k, s, c⟩ n (-(rd o k t - (n * 10000 + 2120)))).2)]) (by simp [results, Try.results63, go_sem, cr0, cr1, cr2, cr3]) rfl ⟨rfl, g0⟩


set_option maxHeartbeats 400000 in
theorem rAcked_ok (o k s c n d : Int) (w : World) (hv : Vs o k s c) (s0 : 0 ≤ n) (s1 : n ≤ 109951162) :
    Calls Try.prog 65 #[.agg #[.int .i64 o, .int .i64 k, .int .i64 s, .int .i64 c], .int .i64 n, .int .i64 d] w fun e w' => e = .returned (.tuple #[(.agg #[.int .i64 (co ⟨o, k, s, c⟩ n d).1.o, .int .i64 (co ⟨o, k, s, c⟩ n d).1.k, .int .i64 (co ⟨o, k, s, c⟩ n d).1.s, .int .i64 (co ⟨o, k, s, c⟩ n d).1.c]), .int .i64 (co ⟨o, k, s, c⟩ n d).2]) ∧ Gr w w' := by
  have HV := Lib.hid hv
  clear hv
  go_enter Try.func65, Try.ntmps65
  go_wp2_with fail
  have g0 : Gr w (((w).alloc (Obj.cells #[.int .i64 o, .int .i64 k, .int .i64 s, .int .i64 c] 45)).alloc (Obj.cells #[.int .i64 0, .int .i64 0, .int .i64 0, .int .i64 0] 45)) := Gr.alloc (Gr.alloc (Gr.refl w) _) _
  have bx : Bx (((w).alloc (Obj.cells #[.int .i64 o, .int .i64 k, .int .i64 s, .int .i64 c] 45)).alloc (Obj.cells #[.int .i64 0, .int .i64 0, .int .i64 0, .int .i64 0] 45)) (w.heap.size) [.int .i64 o, .int .i64 k, .int .i64 s, .int .i64 c] := Bx.gr (Bx.at_ (Bx.new (w) [.int .i64 o, .int .i64 k, .int .i64 s, .int .i64 c] 45) (by simp)) (Gr.alloc (Gr.refl _) _)
  have br : Bx (((w).alloc (Obj.cells #[.int .i64 o, .int .i64 k, .int .i64 s, .int .i64 c] 45)).alloc (Obj.cells #[.int .i64 0, .int .i64 0, .int .i64 0, .int .i64 0] 45)) (w.heap.size + 1) [.int .i64 0, .int .i64 0, .int .i64 0, .int .i64 0] := Bx.gr (Bx.at_ (Bx.new ((w).alloc (Obj.cells #[.int .i64 o, .int .i64 k, .int .i64 s, .int .i64 c] 45)) [.int .i64 0, .int .i64 0, .int .i64 0, .int .i64 0] 45) (by simp)) (Gr.refl _)
  generalize ((w).alloc (Obj.cells #[.int .i64 o, .int .i64 k, .int .i64 s, .int .i64 c] 45)).alloc (Obj.cells #[.int .i64 0, .int .i64 0, .int .i64 0, .int .i64 0] 45) = W at g0 bx br ⊢
  have S0 := Lib.hid g0
  have Kx0 := Lib.hid bx
  have Kr0 := Lib.hid br
  clear g0 bx br
  refine (rTck_ok o k s c _ HV.out).mono ?_
  rintro e w1 ⟨rfl, hg⟩
  have S1 := Lib.hid (S0.out.trans hg)
  have Kx1 := Lib.hid (Kx0.out.gr hg)
  have Kr1 := Lib.hid (Kr0.out.gr hg)
  clear hg
  have cx0 := Kx1.out.c 0 _ rfl
  have cx1 := Kx1.out.c 1 _ rfl
  have cx2 := Kx1.out.c 2 _ rfl
  have cx3 := Kx1.out.c 3 _ rfl
  have lx := Kx1.out.lt
  have cr0 := Kr1.out.c 0 _ rfl
  have cr1 := Kr1.out.c 1 _ rfl
  have cr2 := Kr1.out.c 2 _ rfl
  have cr3 := Kr1.out.c 3 _ rfl
  have lr := Kr1.out.lt
  go_wp2_with fail
  all_goals (try clear cx0 cx1 cx2 cx3 lx cr0 cr1 cr2 cr3 lr)
  refine (risl_t n _ s0 s1).mono ?_
  rintro e w2 ⟨rfl, hg⟩
  have S2 := Lib.hid (S1.out.trans hg)
  have Kx2 := Lib.hid (Kx1.out.gr hg)
  have Kr2 := Lib.hid (Kr1.out.gr hg)
  clear hg
  have cx0 := Kx2.out.c 0 _ rfl
  have cx1 := Kx2.out.c 1 _ rfl
  have cx2 := Kx2.out.c 2 _ rfl
  have cx3 := Kx2.out.c 3 _ rfl
  have lx := Kx2.out.lt
  have cr0 := Kr2.out.c 0 _ rfl
  have cr1 := Kr2.out.c 1 _ rfl
  have cr2 := Kr2.out.c 2 _ rfl
  have cr3 := Kr2.out.c 3 _ rfl
  have lr := Kr2.out.lt
  go_wp2_with fail
  all_goals (try clear cx0 cx1 cx2 cx3 lx cr0 cr1 cr2 cr3 lr)
  refine (rCor_any o k s c n d _ HV.out.vc HV.out.c0 HV.out.c1).mono ?_
  rintro e w3 ⟨rfl, hg⟩
  have S3 := Lib.hid (S2.out.trans hg)
  have Kx3 := Lib.hid (Kx2.out.gr hg)
  have Kr3 := Lib.hid (Kr2.out.gr hg)
  clear hg
  have cx0 := Kx3.out.c 0 _ rfl
  have fx0 := Kx3.out.f 0 (by simp)
  have cx1 := Kx3.out.c 1 _ rfl
  have fx1 := Kx3.out.f 1 (by simp)
  have cx2 := Kx3.out.c 2 _ rfl
  have fx2 := Kx3.out.f 2 (by simp)
  have cx3 := Kx3.out.c 3 _ rfl
  have fx3 := Kx3.out.f 3 (by simp)
  have lx := Kx3.out.lt
  have cr0 := Kr3.out.c 0 _ rfl
  have fr0 := Kr3.out.f 0 (by simp)
  have cr1 := Kr3.out.c 1 _ rfl
  have fr1 := Kr3.out.f 1 (by simp)
  have cr2 := Kr3.out.c 2 _ rfl
  have fr2 := Kr3.out.f 2 (by simp)
  have cr3 := Kr3.out.c 3 _ rfl
  have fr3 := Kr3.out.f 3 (by simp)
  have lr := Kr3.out.lt
  go_wp2_with fail
  have g0 : Gr w (((((w3).setCell ⟨w.heap.size + 1, 0, none⟩ (.int .i64 ((co ⟨o, k, s, c⟩ n d).1.o))).setCell ⟨w.heap.size + 1, 1, none⟩ (.int .i64 ((co ⟨o, k, s, c⟩ n d).1.k))).setCell ⟨w.heap.size + 1, 2, none⟩ (.int .i64 ((co ⟨o, k, s, c⟩ n d).1.s))).setCell ⟨w.heap.size + 1, 3, none⟩ (.int .i64 ((co ⟨o, k, s, c⟩ n d).1.c))) := (Gr.set ((Gr.set ((Gr.set ((Gr.set (S3.out) (p := ⟨w.heap.size + 1, 0, none⟩) (by simp) _)) (p := ⟨w.heap.size + 1, 1, none⟩) (by simp) _)) (p := ⟨w.heap.size + 1, 2, none⟩) (by simp) _)) (p := ⟨w.heap.size + 1, 3, none⟩) (by simp) _)
  have b0 : Bx (((((w3).setCell ⟨w.heap.size + 1, 0, none⟩ (.int .i64 ((co ⟨o, k, s, c⟩ n d).1.o))).setCell ⟨w.heap.size + 1, 1, none⟩ (.int .i64 ((co ⟨o, k, s, c⟩ n d).1.k))).setCell ⟨w.heap.size + 1, 2, none⟩ (.int .i64 ((co ⟨o, k, s, c⟩ n d).1.s))).setCell ⟨w.heap.size + 1, 3, none⟩ (.int .i64 ((co ⟨o, k, s, c⟩ n d).1.c))) (w.heap.size + 1) [.int .i64 ((co ⟨o, k, s, c⟩ n d).1.o), .int .i64 ((co ⟨o, k, s, c⟩ n d).1.k), .int .i64 ((co ⟨o, k, s, c⟩ n d).1.s), .int .i64 ((co ⟨o, k, s, c⟩ n d).1.c)] := (Kr3.out.set4 (.int .i64 ((co ⟨o, k, s, c⟩ n d).1.o)) (.int .i64 ((co ⟨o, k, s, c⟩ n d).1.k)) (.int .i64 ((co ⟨o, k, s, c⟩ n d).1.s)) (.int .i64 ((co ⟨o, k, s, c⟩ n d).1.c)))
  generalize ((((w3).setCell ⟨w.heap.size + 1, 0, none⟩ (.int .i64 ((co ⟨o, k, s, c⟩ n d).1.o))).setCell ⟨w.heap.size + 1, 1, none⟩ (.int .i64 ((co ⟨o, k, s, c⟩ n d).1.k))).setCell ⟨w.heap.size + 1, 2, none⟩ (.int .i64 ((co ⟨o, k, s, c⟩ n d).1.s))).setCell ⟨w.heap.size + 1, 3, none⟩ (.int .i64 ((co ⟨o, k, s, c⟩ n d).1.c)) = wz at g0 b0 ⊢
  have cr0 := b0.c 0 _ rfl
  have cr1 := b0.c 1 _ rfl
  have cr2 := b0.c 2 _ rfl
  have cr3 := b0.c 3 _ rfl
  refine bodyPost_ret (v := .tuple #[.agg #[.int .i64 ((co ⟨o, k, s, c⟩ n d).1.o), .int .i64 ((co ⟨o, k, s, c⟩ n d).1.k), .int .i64 ((co ⟨o, k, s, c⟩ n d).1.s), .int .i64 ((co ⟨o, k, s, c⟩ n d).1.c)], .int .i64 ((co ⟨o, k, s, c⟩ n d).2)]) (by simp [results, Try.results65, go_sem, cr0, cr1, cr2, cr3]) rfl ⟨rfl, g0⟩


set_option maxHeartbeats 400000 in
theorem rAcked_arg (o k s c n d : Int) (w : World) (hv : ¬ Vs o k s c) :
    Calls Try.prog 65 #[.agg #[.int .i64 o, .int .i64 k, .int .i64 s, .int .i64 c], .int .i64 n, .int .i64 d] w fun e w' => e = .returned (.tuple #[.agg #[.int .i64 0, .int .i64 0, .int .i64 0, .int .i64 0], .int .i64 1]) ∧ Gr w w' := by
  have HV := Lib.hid hv
  clear hv
  go_enter Try.func65, Try.ntmps65
  go_wp2_with fail
  have g0 : Gr w (((w).alloc (Obj.cells #[.int .i64 o, .int .i64 k, .int .i64 s, .int .i64 c] 45)).alloc (Obj.cells #[.int .i64 0, .int .i64 0, .int .i64 0, .int .i64 0] 45)) := Gr.alloc (Gr.alloc (Gr.refl w) _) _
  have bx : Bx (((w).alloc (Obj.cells #[.int .i64 o, .int .i64 k, .int .i64 s, .int .i64 c] 45)).alloc (Obj.cells #[.int .i64 0, .int .i64 0, .int .i64 0, .int .i64 0] 45)) (w.heap.size) [.int .i64 o, .int .i64 k, .int .i64 s, .int .i64 c] := Bx.gr (Bx.at_ (Bx.new (w) [.int .i64 o, .int .i64 k, .int .i64 s, .int .i64 c] 45) (by simp)) (Gr.alloc (Gr.refl _) _)
  have br : Bx (((w).alloc (Obj.cells #[.int .i64 o, .int .i64 k, .int .i64 s, .int .i64 c] 45)).alloc (Obj.cells #[.int .i64 0, .int .i64 0, .int .i64 0, .int .i64 0] 45)) (w.heap.size + 1) [.int .i64 0, .int .i64 0, .int .i64 0, .int .i64 0] := Bx.gr (Bx.at_ (Bx.new ((w).alloc (Obj.cells #[.int .i64 o, .int .i64 k, .int .i64 s, .int .i64 c] 45)) [.int .i64 0, .int .i64 0, .int .i64 0, .int .i64 0] 45) (by simp)) (Gr.refl _)
  generalize ((w).alloc (Obj.cells #[.int .i64 o, .int .i64 k, .int .i64 s, .int .i64 c] 45)).alloc (Obj.cells #[.int .i64 0, .int .i64 0, .int .i64 0, .int .i64 0] 45) = W at g0 bx br ⊢
  have S0 := Lib.hid g0
  have Kx0 := Lib.hid bx
  have Kr0 := Lib.hid br
  clear g0 bx br
  refine (rTck_no o k s c _ HV.out).mono ?_
  rintro e w1 ⟨rfl, hg⟩
  have S1 := Lib.hid (S0.out.trans hg)
  have Kx1 := Lib.hid (Kx0.out.gr hg)
  have Kr1 := Lib.hid (Kr0.out.gr hg)
  clear hg
  have cx0 := Kx1.out.c 0 _ rfl
  have fx0 := Kx1.out.f 0 (by simp)
  have cx1 := Kx1.out.c 1 _ rfl
  have fx1 := Kx1.out.f 1 (by simp)
  have cx2 := Kx1.out.c 2 _ rfl
  have fx2 := Kx1.out.f 2 (by simp)
  have cx3 := Kx1.out.c 3 _ rfl
  have fx3 := Kx1.out.f 3 (by simp)
  have lx := Kx1.out.lt
  have cr0 := Kr1.out.c 0 _ rfl
  have fr0 := Kr1.out.f 0 (by simp)
  have cr1 := Kr1.out.c 1 _ rfl
  have fr1 := Kr1.out.f 1 (by simp)
  have cr2 := Kr1.out.c 2 _ rfl
  have fr2 := Kr1.out.f 2 (by simp)
  have cr3 := Kr1.out.c 3 _ rfl
  have fr3 := Kr1.out.f 3 (by simp)
  have lr := Kr1.out.lt
  go_wp2_with fail
  all_goals (try clear cx0 fx0 cx1 fx1 cx2 fx2 cx3 fx3 lx cr0 fr0 cr1 fr1 cr2 fr2 cr3 fr3 lr)
  have g0 : Gr w (((((w1).setCell ⟨w.heap.size + 1, 0, none⟩ (.int .i64 0)).setCell ⟨w.heap.size + 1, 1, none⟩ (.int .i64 0)).setCell ⟨w.heap.size + 1, 2, none⟩ (.int .i64 0)).setCell ⟨w.heap.size + 1, 3, none⟩ (.int .i64 0)) := (Gr.set ((Gr.set ((Gr.set ((Gr.set (S1.out) (p := ⟨w.heap.size + 1, 0, none⟩) (by simp) _)) (p := ⟨w.heap.size + 1, 1, none⟩) (by simp) _)) (p := ⟨w.heap.size + 1, 2, none⟩) (by simp) _)) (p := ⟨w.heap.size + 1, 3, none⟩) (by simp) _)
  have b0 : Bx (((((w1).setCell ⟨w.heap.size + 1, 0, none⟩ (.int .i64 0)).setCell ⟨w.heap.size + 1, 1, none⟩ (.int .i64 0)).setCell ⟨w.heap.size + 1, 2, none⟩ (.int .i64 0)).setCell ⟨w.heap.size + 1, 3, none⟩ (.int .i64 0)) (w.heap.size + 1) [.int .i64 0, .int .i64 0, .int .i64 0, .int .i64 0] := (Kr1.out.set4 (.int .i64 0) (.int .i64 0) (.int .i64 0) (.int .i64 0))
  generalize ((((w1).setCell ⟨w.heap.size + 1, 0, none⟩ (.int .i64 0)).setCell ⟨w.heap.size + 1, 1, none⟩ (.int .i64 0)).setCell ⟨w.heap.size + 1, 2, none⟩ (.int .i64 0)).setCell ⟨w.heap.size + 1, 3, none⟩ (.int .i64 0) = wz at g0 b0 ⊢
  have cr0 := b0.c 0 _ rfl
  have cr1 := b0.c 1 _ rfl
  have cr2 := b0.c 2 _ rfl
  have cr3 := b0.c 3 _ rfl
  refine bodyPost_ret (v := .tuple #[.agg #[.int .i64 0, .int .i64 0, .int .i64 0, .int .i64 0], .int .i64 1]) (by simp [results, Try.results65, go_sem, cr0, cr1, cr2, cr3]) rfl ⟨rfl, g0⟩


set_option maxHeartbeats 400000 in
theorem rAcked_rg (o k s c n d : Int) (w : World) (hv : Vs o k s c) (h : n < 0 ∨ 109951162 < n) :
    Calls Try.prog 65 #[.agg #[.int .i64 o, .int .i64 k, .int .i64 s, .int .i64 c], .int .i64 n, .int .i64 d] w fun e w' => e = .returned (.tuple #[.agg #[.int .i64 0, .int .i64 0, .int .i64 0, .int .i64 0], .int .i64 2]) ∧ Gr w w' := by
  have HV := Lib.hid hv
  have H := Lib.hid h
  clear hv h
  go_enter Try.func65, Try.ntmps65
  go_wp2_with fail
  have g0 : Gr w (((w).alloc (Obj.cells #[.int .i64 o, .int .i64 k, .int .i64 s, .int .i64 c] 45)).alloc (Obj.cells #[.int .i64 0, .int .i64 0, .int .i64 0, .int .i64 0] 45)) := Gr.alloc (Gr.alloc (Gr.refl w) _) _
  have bx : Bx (((w).alloc (Obj.cells #[.int .i64 o, .int .i64 k, .int .i64 s, .int .i64 c] 45)).alloc (Obj.cells #[.int .i64 0, .int .i64 0, .int .i64 0, .int .i64 0] 45)) (w.heap.size) [.int .i64 o, .int .i64 k, .int .i64 s, .int .i64 c] := Bx.gr (Bx.at_ (Bx.new (w) [.int .i64 o, .int .i64 k, .int .i64 s, .int .i64 c] 45) (by simp)) (Gr.alloc (Gr.refl _) _)
  have br : Bx (((w).alloc (Obj.cells #[.int .i64 o, .int .i64 k, .int .i64 s, .int .i64 c] 45)).alloc (Obj.cells #[.int .i64 0, .int .i64 0, .int .i64 0, .int .i64 0] 45)) (w.heap.size + 1) [.int .i64 0, .int .i64 0, .int .i64 0, .int .i64 0] := Bx.gr (Bx.at_ (Bx.new ((w).alloc (Obj.cells #[.int .i64 o, .int .i64 k, .int .i64 s, .int .i64 c] 45)) [.int .i64 0, .int .i64 0, .int .i64 0, .int .i64 0] 45) (by simp)) (Gr.refl _)
  generalize ((w).alloc (Obj.cells #[.int .i64 o, .int .i64 k, .int .i64 s, .int .i64 c] 45)).alloc (Obj.cells #[.int .i64 0, .int .i64 0, .int .i64 0, .int .i64 0] 45) = W at g0 bx br ⊢
  have S0 := Lib.hid g0
  have Kx0 := Lib.hid bx
  have Kr0 := Lib.hid br
  clear g0 bx br
  refine (rTck_ok o k s c _ HV.out).mono ?_
  rintro e w1 ⟨rfl, hg⟩
  have S1 := Lib.hid (S0.out.trans hg)
  have Kx1 := Lib.hid (Kx0.out.gr hg)
  have Kr1 := Lib.hid (Kr0.out.gr hg)
  clear hg
  have cx0 := Kx1.out.c 0 _ rfl
  have cx1 := Kx1.out.c 1 _ rfl
  have cx2 := Kx1.out.c 2 _ rfl
  have cx3 := Kx1.out.c 3 _ rfl
  have lx := Kx1.out.lt
  have cr0 := Kr1.out.c 0 _ rfl
  have cr1 := Kr1.out.c 1 _ rfl
  have cr2 := Kr1.out.c 2 _ rfl
  have cr3 := Kr1.out.c 3 _ rfl
  have lr := Kr1.out.lt
  go_wp2_with fail
  all_goals (try clear cx0 cx1 cx2 cx3 lx cr0 cr1 cr2 cr3 lr)
  refine (risl_f n _ H.out).mono ?_
  rintro e w2 ⟨rfl, hg⟩
  have S2 := Lib.hid (S1.out.trans hg)
  have Kx2 := Lib.hid (Kx1.out.gr hg)
  have Kr2 := Lib.hid (Kr1.out.gr hg)
  clear hg
  have cx0 := Kx2.out.c 0 _ rfl
  have fx0 := Kx2.out.f 0 (by simp)
  have cx1 := Kx2.out.c 1 _ rfl
  have fx1 := Kx2.out.f 1 (by simp)
  have cx2 := Kx2.out.c 2 _ rfl
  have fx2 := Kx2.out.f 2 (by simp)
  have cx3 := Kx2.out.c 3 _ rfl
  have fx3 := Kx2.out.f 3 (by simp)
  have lx := Kx2.out.lt
  have cr0 := Kr2.out.c 0 _ rfl
  have fr0 := Kr2.out.f 0 (by simp)
  have cr1 := Kr2.out.c 1 _ rfl
  have fr1 := Kr2.out.f 1 (by simp)
  have cr2 := Kr2.out.c 2 _ rfl
  have fr2 := Kr2.out.f 2 (by simp)
  have cr3 := Kr2.out.c 3 _ rfl
  have fr3 := Kr2.out.f 3 (by simp)
  have lr := Kr2.out.lt
  go_wp2_with fail
  all_goals (try clear cx0 fx0 cx1 fx1 cx2 fx2 cx3 fx3 lx cr0 fr0 cr1 fr1 cr2 fr2 cr3 fr3 lr)
  have g0 : Gr w (((((w2).setCell ⟨w.heap.size + 1, 0, none⟩ (.int .i64 0)).setCell ⟨w.heap.size + 1, 1, none⟩ (.int .i64 0)).setCell ⟨w.heap.size + 1, 2, none⟩ (.int .i64 0)).setCell ⟨w.heap.size + 1, 3, none⟩ (.int .i64 0)) := (Gr.set ((Gr.set ((Gr.set ((Gr.set (S2.out) (p := ⟨w.heap.size + 1, 0, none⟩) (by simp) _)) (p := ⟨w.heap.size + 1, 1, none⟩) (by simp) _)) (p := ⟨w.heap.size + 1, 2, none⟩) (by simp) _)) (p := ⟨w.heap.size + 1, 3, none⟩) (by simp) _)
  have b0 : Bx (((((w2).setCell ⟨w.heap.size + 1, 0, none⟩ (.int .i64 0)).setCell ⟨w.heap.size + 1, 1, none⟩ (.int .i64 0)).setCell ⟨w.heap.size + 1, 2, none⟩ (.int .i64 0)).setCell ⟨w.heap.size + 1, 3, none⟩ (.int .i64 0)) (w.heap.size + 1) [.int .i64 0, .int .i64 0, .int .i64 0, .int .i64 0] := (Kr2.out.set4 (.int .i64 0) (.int .i64 0) (.int .i64 0) (.int .i64 0))
  generalize ((((w2).setCell ⟨w.heap.size + 1, 0, none⟩ (.int .i64 0)).setCell ⟨w.heap.size + 1, 1, none⟩ (.int .i64 0)).setCell ⟨w.heap.size + 1, 2, none⟩ (.int .i64 0)).setCell ⟨w.heap.size + 1, 3, none⟩ (.int .i64 0) = wz at g0 b0 ⊢
  have cr0 := b0.c 0 _ rfl
  have cr1 := b0.c 1 _ rfl
  have cr2 := b0.c 2 _ rfl
  have cr3 := b0.c 3 _ rfl
  refine bodyPost_ret (v := .tuple #[.agg #[.int .i64 0, .int .i64 0, .int .i64 0, .int .i64 0], .int .i64 2]) (by simp [results, Try.results65, go_sem, cr0, cr1, cr2, cr3]) rfl ⟨rfl, g0⟩


theorem rHear_any (o k s c n t : Int) (w : World) : Calls Try.prog 63 #[.agg #[.int .i64 o, .int .i64 k, .int .i64 s, .int .i64 c], .int .i64 n, .int .i64 t] w fun e w' => e = .returned (.tuple #[(.agg #[.int .i64 (he ⟨o, k, s, c⟩ n t).1.o, .int .i64 (he ⟨o, k, s, c⟩ n t).1.k, .int .i64 (he ⟨o, k, s, c⟩ n t).1.s, .int .i64 (he ⟨o, k, s, c⟩ n t).1.c]), .int .i64 (he ⟨o, k, s, c⟩ n t).2]) ∧ Gr w w' := by
  by_cases h : Vs o k s c
  · by_cases h1 : inSlot n ∧ inTime t
    · rw [show he ⟨o, k, s, c⟩ n t = co ⟨o, k, s, c⟩ n (-(rd o k t - (n * 10000 + 2120))) from (if_pos h).trans (if_pos h1)]
      exact rHear_ok o k s c n t w h h1.1.1 h1.1.2 h1.2.1 h1.2.2
    · rw [show he ⟨o, k, s, c⟩ n t = (Sy0, 2) from (if_pos h).trans (if_neg h1)]
      exact rHear_rg o k s c n t w h h1
  · rw [show he ⟨o, k, s, c⟩ n t = (Sy0, 1) from if_neg h]
    exact rHear_arg o k s c n t w h
theorem rAcked_any (o k s c n d : Int) (w : World) : Calls Try.prog 65 #[.agg #[.int .i64 o, .int .i64 k, .int .i64 s, .int .i64 c], .int .i64 n, .int .i64 d] w fun e w' => e = .returned (.tuple #[(.agg #[.int .i64 (ac ⟨o, k, s, c⟩ n d).1.o, .int .i64 (ac ⟨o, k, s, c⟩ n d).1.k, .int .i64 (ac ⟨o, k, s, c⟩ n d).1.s, .int .i64 (ac ⟨o, k, s, c⟩ n d).1.c]), .int .i64 (ac ⟨o, k, s, c⟩ n d).2]) ∧ Gr w w' := by
  by_cases h : Vs o k s c
  · by_cases h1 : inSlot n
    · rw [show ac ⟨o, k, s, c⟩ n d = co ⟨o, k, s, c⟩ n d from (if_pos h).trans (if_pos h1)]
      exact rAcked_ok o k s c n d w h h1.1 h1.2
    · rw [show ac ⟨o, k, s, c⟩ n d = (Sy0, 2) from (if_pos h).trans (if_neg h1)]
      exact rAcked_rg o k s c n d w h (not_inSlot h1)
  · rw [show ac ⟨o, k, s, c⟩ n d = (Sy0, 1) from if_neg h]
    exact rAcked_arg o k s c n d w h

set_option maxHeartbeats 400000 in
theorem rSyn_n0 (o k s c n p : Int) (w : World) (hv : ¬ Vs o k s c) :
    Calls Try.prog 69 #[.agg #[.int .i64 o, .int .i64 k, .int .i64 s, .int .i64 c], .int .i64 n, .int .i64 p] w fun e w' => e = .returned (.bool false) ∧ Gr w w' := by
  have HV := Lib.hid hv
  clear hv
  go_enter Try.func69, Try.ntmps69
  go_wp2_with fail
  have g0 : Gr w ((w).alloc (Obj.cells #[.int .i64 o, .int .i64 k, .int .i64 s, .int .i64 c] 45)) := Gr.alloc (Gr.refl w) _
  have bx : Bx ((w).alloc (Obj.cells #[.int .i64 o, .int .i64 k, .int .i64 s, .int .i64 c] 45)) (w.heap.size) [.int .i64 o, .int .i64 k, .int .i64 s, .int .i64 c] := Bx.gr (Bx.at_ (Bx.new (w) [.int .i64 o, .int .i64 k, .int .i64 s, .int .i64 c] 45) (by simp)) (Gr.refl _)
  generalize (w).alloc (Obj.cells #[.int .i64 o, .int .i64 k, .int .i64 s, .int .i64 c] 45) = W at g0 bx ⊢
  have S0 := Lib.hid g0
  have Kx0 := Lib.hid bx
  clear g0 bx
  refine (rTck_no o k s c _ HV.out).mono ?_
  rintro e w1 ⟨rfl, hg⟩
  have S1 := Lib.hid (S0.out.trans hg)
  have Kx1 := Lib.hid (Kx0.out.gr hg)
  clear hg
  have cx0 := Kx1.out.c 0 _ rfl
  have cx1 := Kx1.out.c 1 _ rfl
  have cx2 := Kx1.out.c 2 _ rfl
  have cx3 := Kx1.out.c 3 _ rfl
  have lx := Kx1.out.lt
  go_wp2_with fail
  all_goals (try clear cx0 cx1 cx2 cx3 lx)
  all_goals go_ret
  all_goals exact ⟨rfl, S1.out⟩


set_option maxHeartbeats 400000 in
theorem rSyn_n1 (o k c n p : Int) (w : World) (hv : Vs o k (-1) c) :
    Calls Try.prog 69 #[.agg #[.int .i64 o, .int .i64 k, .int .i64 (-1), .int .i64 c], .int .i64 n, .int .i64 p] w fun e w' => e = .returned (.bool false) ∧ Gr w w' := by
  have HV := Lib.hid hv
  clear hv
  go_enter Try.func69, Try.ntmps69
  go_wp2_with fail
  have g0 : Gr w ((w).alloc (Obj.cells #[.int .i64 o, .int .i64 k, .int .i64 (-1), .int .i64 c] 45)) := Gr.alloc (Gr.refl w) _
  have bx : Bx ((w).alloc (Obj.cells #[.int .i64 o, .int .i64 k, .int .i64 (-1), .int .i64 c] 45)) (w.heap.size) [.int .i64 o, .int .i64 k, .int .i64 (-1), .int .i64 c] := Bx.gr (Bx.at_ (Bx.new (w) [.int .i64 o, .int .i64 k, .int .i64 (-1), .int .i64 c] 45) (by simp)) (Gr.refl _)
  generalize (w).alloc (Obj.cells #[.int .i64 o, .int .i64 k, .int .i64 (-1), .int .i64 c] 45) = W at g0 bx ⊢
  have S0 := Lib.hid g0
  have Kx0 := Lib.hid bx
  clear g0 bx
  refine (rTck_ok o k (-1) c _ HV.out).mono ?_
  rintro e w1 ⟨rfl, hg⟩
  have S1 := Lib.hid (S0.out.trans hg)
  have Kx1 := Lib.hid (Kx0.out.gr hg)
  clear hg
  have cx0 := Kx1.out.c 0 _ rfl
  have cx1 := Kx1.out.c 1 _ rfl
  have cx2 := Kx1.out.c 2 _ rfl
  have cx3 := Kx1.out.c 3 _ rfl
  have lx := Kx1.out.lt
  go_wp2_with fail
  all_goals (try clear cx0 cx1 cx2 cx3 lx)
  all_goals go_ret
  all_goals exact ⟨rfl, S1.out⟩


set_option maxHeartbeats 400000 in
theorem rSyn_n2 (o k s c n p : Int) (w : World) (hv : Vs o k s c) (s0 : 0 ≤ s) (h : n < s) :
    Calls Try.prog 69 #[.agg #[.int .i64 o, .int .i64 k, .int .i64 s, .int .i64 c], .int .i64 n, .int .i64 p] w fun e w' => e = .returned (.bool false) ∧ Gr w w' := by
  have HV := Lib.hid hv
  clear hv
  go_enter Try.func69, Try.ntmps69
  go_wp2_with fail
  have g0 : Gr w ((w).alloc (Obj.cells #[.int .i64 o, .int .i64 k, .int .i64 s, .int .i64 c] 45)) := Gr.alloc (Gr.refl w) _
  have bx : Bx ((w).alloc (Obj.cells #[.int .i64 o, .int .i64 k, .int .i64 s, .int .i64 c] 45)) (w.heap.size) [.int .i64 o, .int .i64 k, .int .i64 s, .int .i64 c] := Bx.gr (Bx.at_ (Bx.new (w) [.int .i64 o, .int .i64 k, .int .i64 s, .int .i64 c] 45) (by simp)) (Gr.refl _)
  generalize (w).alloc (Obj.cells #[.int .i64 o, .int .i64 k, .int .i64 s, .int .i64 c] 45) = W at g0 bx ⊢
  have S0 := Lib.hid g0
  have Kx0 := Lib.hid bx
  clear g0 bx
  refine (rTck_ok o k s c _ HV.out).mono ?_
  rintro e w1 ⟨rfl, hg⟩
  have S1 := Lib.hid (S0.out.trans hg)
  have Kx1 := Lib.hid (Kx0.out.gr hg)
  clear hg
  have cx0 := Kx1.out.c 0 _ rfl
  have cx1 := Kx1.out.c 1 _ rfl
  have cx2 := Kx1.out.c 2 _ rfl
  have cx3 := Kx1.out.c 3 _ rfl
  have lx := Kx1.out.lt
  go_wp2_with fail
  all_goals (try clear cx0 cx1 cx2 cx3 lx)
  all_goals go_ret
  all_goals exact ⟨rfl, S1.out⟩


set_option maxHeartbeats 400000 in
theorem rSyn_n3 (o k s c n p : Int) (w : World) (hv : Vs o k s c) (s0 : 0 ≤ s) (h : s ≤ n) (hn : n ≤ 9223372036854775807) (h1 : p < n - s) :
    Calls Try.prog 69 #[.agg #[.int .i64 o, .int .i64 k, .int .i64 s, .int .i64 c], .int .i64 n, .int .i64 p] w fun e w' => e = .returned (.bool false) ∧ Gr w w' := by
  have e2 : decide (n - s ≤ p) = false := decide_eq_false (by omega)
  have HV := Lib.hid hv
  clear hv
  go_enter Try.func69, Try.ntmps69
  go_wp2_with fail
  have g0 : Gr w ((w).alloc (Obj.cells #[.int .i64 o, .int .i64 k, .int .i64 s, .int .i64 c] 45)) := Gr.alloc (Gr.refl w) _
  have bx : Bx ((w).alloc (Obj.cells #[.int .i64 o, .int .i64 k, .int .i64 s, .int .i64 c] 45)) (w.heap.size) [.int .i64 o, .int .i64 k, .int .i64 s, .int .i64 c] := Bx.gr (Bx.at_ (Bx.new (w) [.int .i64 o, .int .i64 k, .int .i64 s, .int .i64 c] 45) (by simp)) (Gr.refl _)
  generalize (w).alloc (Obj.cells #[.int .i64 o, .int .i64 k, .int .i64 s, .int .i64 c] 45) = W at g0 bx ⊢
  have S0 := Lib.hid g0
  have Kx0 := Lib.hid bx
  clear g0 bx
  refine (rTck_ok o k s c _ HV.out).mono ?_
  rintro e w1 ⟨rfl, hg⟩
  have S1 := Lib.hid (S0.out.trans hg)
  have Kx1 := Lib.hid (Kx0.out.gr hg)
  clear hg
  have cx0 := Kx1.out.c 0 _ rfl
  have cx1 := Kx1.out.c 1 _ rfl
  have cx2 := Kx1.out.c 2 _ rfl
  have cx3 := Kx1.out.c 3 _ rfl
  have lx := Kx1.out.lt
  go_wp2_with fail
  all_goals (try clear cx0 cx1 cx2 cx3 lx)
  all_goals go_ret
  all_goals first | exact ⟨rfl, S1.out⟩ | exact ⟨congrArg (fun b => Ending.returned (.bool b)) e2, S1.out⟩ | exact ⟨congrArg (fun b => Ending.returned (.bool b)) (bne_iff_ne.2 (by omega)), S1.out⟩


set_option maxHeartbeats 400000 in
theorem rSyn_ok (o k s c n p : Int) (w : World) (hv : Vs o k s c) (s0 : 0 ≤ s) (h : s ≤ n) (hn : n ≤ 9223372036854775807) (h1 : n - s ≤ p) :
    Calls Try.prog 69 #[.agg #[.int .i64 o, .int .i64 k, .int .i64 s, .int .i64 c], .int .i64 n, .int .i64 p] w fun e w' => e = .returned (.bool true) ∧ Gr w w' := by
  have e2 : decide (n - s ≤ p) = true := decide_eq_true h1
  have HV := Lib.hid hv
  clear hv
  go_enter Try.func69, Try.ntmps69
  go_wp2_with fail
  have g0 : Gr w ((w).alloc (Obj.cells #[.int .i64 o, .int .i64 k, .int .i64 s, .int .i64 c] 45)) := Gr.alloc (Gr.refl w) _
  have bx : Bx ((w).alloc (Obj.cells #[.int .i64 o, .int .i64 k, .int .i64 s, .int .i64 c] 45)) (w.heap.size) [.int .i64 o, .int .i64 k, .int .i64 s, .int .i64 c] := Bx.gr (Bx.at_ (Bx.new (w) [.int .i64 o, .int .i64 k, .int .i64 s, .int .i64 c] 45) (by simp)) (Gr.refl _)
  generalize (w).alloc (Obj.cells #[.int .i64 o, .int .i64 k, .int .i64 s, .int .i64 c] 45) = W at g0 bx ⊢
  have S0 := Lib.hid g0
  have Kx0 := Lib.hid bx
  clear g0 bx
  refine (rTck_ok o k s c _ HV.out).mono ?_
  rintro e w1 ⟨rfl, hg⟩
  have S1 := Lib.hid (S0.out.trans hg)
  have Kx1 := Lib.hid (Kx0.out.gr hg)
  clear hg
  have cx0 := Kx1.out.c 0 _ rfl
  have cx1 := Kx1.out.c 1 _ rfl
  have cx2 := Kx1.out.c 2 _ rfl
  have cx3 := Kx1.out.c 3 _ rfl
  have lx := Kx1.out.lt
  go_wp2_with fail
  all_goals (try clear cx0 cx1 cx2 cx3 lx)
  all_goals go_ret
  all_goals first | exact ⟨rfl, S1.out⟩ | exact ⟨congrArg (fun b => Ending.returned (.bool b)) e2, S1.out⟩ | exact ⟨congrArg (fun b => Ending.returned (.bool b)) (bne_iff_ne.2 (by omega)), S1.out⟩


theorem rSyn_any (o k s c n p : Int) (w : World) (hn : n ≤ 9223372036854775807) : Calls Try.prog 69 #[.agg #[.int .i64 o, .int .i64 k, .int .i64 s, .int .i64 c], .int .i64 n, .int .i64 p] w fun e w' => e = .returned (.bool (sySh ⟨o, k, s, c⟩ n p)) ∧ Gr w w' := by
  by_cases h : Vs o k s c
  · by_cases h1 : s = -1
    · subst h1
      rw [show sySh ⟨o, k, -1, c⟩ n p = false from decide_eq_false (fun x => x.2.1 rfl)]
      exact rSyn_n1 o k c n p w h
    · have s0 : 0 ≤ s := by rcases h.sl with e | e; exact absurd e h1; exact e.1
      by_cases h2 : s ≤ n
      · by_cases h3 : n - s ≤ p
        · rw [show sySh ⟨o, k, s, c⟩ n p = true from decide_eq_true ⟨h, h1, h2, h3⟩]
          exact rSyn_ok o k s c n p w h s0 h2 hn h3
        · rw [show sySh ⟨o, k, s, c⟩ n p = false from decide_eq_false (fun x => h3 x.2.2.2)]
          exact rSyn_n3 o k s c n p w h s0 h2 hn (by omega)
      · rw [show sySh ⟨o, k, s, c⟩ n p = false from decide_eq_false (fun x => h2 x.2.2.1)]
        exact rSyn_n2 o k s c n p w h s0 (by omega)
  · rw [show sySh ⟨o, k, s, c⟩ n p = false from decide_eq_false (fun x => h x.1)]
    exact rSyn_n0 o k s c n p w h
end Go.Proofs.Ytpnigndobhbfnaa
