import Derived.Test.YtpnigndobhbfnaaMtH
namespace Go.Proofs.Ytpnigndobhbfnaa
open Go.RowKit
set_option maxRecDepth 20000 in
set_option maxHeartbeats 1000000 in
theorem TM_e1_E (o k s c a b f g n : Int) (w : World) (hx' : Vs o k s c) (hz : Vs a b f g) (t : Int) (hs : inE a b n 2120 = 0) (ht : rch a b (n * 10000 + 2120) = t) (t0 : 0 < t) (hh : he ⟨o, k, s, c⟩ n t = (Sy0, 1)) (v : Int) (hv : inE o k n 2120 = v) (v0 : ¬ v = 0) :
    Calls Try.prog 21 #[.agg #[.int .i64 o, .int .i64 k, .int .i64 s, .int .i64 c], .agg #[.int .i64 a, .int .i64 b, .int .i64 f, .int .i64 g], .int .i64 n] w fun e w' => e = .returned (.bool true) ∧ Gr w w' := by
  have bv : (v == 0) = false := beq_eq_false_iff_ne.2 v0
  have c0 := hx'.c0
  have c1 := hx'.c1
  have HX' := Lib.hid hx'
  have HZ := Lib.hid hz
  have HS := Lib.hid hs
  have HT := Lib.hid ht
  have HH := Lib.hid hh
  have HV := Lib.hid hv
  clear hx' hz hs ht hh hv
  go_enter Try.func21, Try.ntmps21
  go_wp2_with fail
  have g0 : Gr w (((w).alloc (Obj.cells #[.int .i64 o, .int .i64 k, .int .i64 s, .int .i64 c] 45)).alloc (Obj.cells #[.int .i64 a, .int .i64 b, .int .i64 f, .int .i64 g] 45)) := Gr.alloc (Gr.alloc (Gr.refl w) _) _
  have bx : Bx (((w).alloc (Obj.cells #[.int .i64 o, .int .i64 k, .int .i64 s, .int .i64 c] 45)).alloc (Obj.cells #[.int .i64 a, .int .i64 b, .int .i64 f, .int .i64 g] 45)) (w.heap.size) [.int .i64 o, .int .i64 k, .int .i64 s, .int .i64 c] := Bx.gr (Bx.at_ (Bx.new (w) [.int .i64 o, .int .i64 k, .int .i64 s, .int .i64 c] 45) (by simp)) (Gr.alloc (Gr.refl _) _)
  have bz : Bx (((w).alloc (Obj.cells #[.int .i64 o, .int .i64 k, .int .i64 s, .int .i64 c] 45)).alloc (Obj.cells #[.int .i64 a, .int .i64 b, .int .i64 f, .int .i64 g] 45)) (w.heap.size + 1) [.int .i64 a, .int .i64 b, .int .i64 f, .int .i64 g] := Bx.gr (Bx.at_ (Bx.new ((w).alloc (Obj.cells #[.int .i64 o, .int .i64 k, .int .i64 s, .int .i64 c] 45)) [.int .i64 a, .int .i64 b, .int .i64 f, .int .i64 g] 45) (by simp)) (Gr.refl _)
  generalize ((w).alloc (Obj.cells #[.int .i64 o, .int .i64 k, .int .i64 s, .int .i64 c] 45)).alloc (Obj.cells #[.int .i64 a, .int .i64 b, .int .i64 f, .int .i64 g] 45) = W at g0 bx bz ⊢
  have S0 := Lib.hid g0
  have Kx0 := Lib.hid bx
  have Kz0 := Lib.hid bz
  clear g0 bx bz
  refine (awake10 _).mono ?_
  rintro e w1 ⟨rfl, hg⟩
  have S1 := Lib.hid (S0.out.trans hg)
  have Kx1 := Lib.hid (Kx0.out.gr hg)
  have Kz1 := Lib.hid (Kz0.out.gr hg)
  clear hg
  have cx0 := Kx1.out.c 0 _ rfl
  have cx1 := Kx1.out.c 1 _ rfl
  have cx2 := Kx1.out.c 2 _ rfl
  have cx3 := Kx1.out.c 3 _ rfl
  have lx := Kx1.out.lt
  have cz0 := Kz1.out.c 0 _ rfl
  have cz1 := Kz1.out.c 1 _ rfl
  have cz2 := Kz1.out.c 2 _ rfl
  have cz3 := Kz1.out.c 3 _ rfl
  have lz := Kz1.out.lt
  go_wp2_with fail
  all_goals (try clear cx0 cx1 cx2 cx3 lx cz0 cz1 cz2 cz3 lz)
  refine (Tck_ok o k s c _ HX'.out).mono ?_
  rintro e w2 ⟨rfl, hg⟩
  have S2 := Lib.hid (S1.out.trans hg)
  have Kx2 := Lib.hid (Kx1.out.gr hg)
  have Kz2 := Lib.hid (Kz1.out.gr hg)
  clear hg
  have cx0 := Kx2.out.c 0 _ rfl
  have cx1 := Kx2.out.c 1 _ rfl
  have cx2 := Kx2.out.c 2 _ rfl
  have cx3 := Kx2.out.c 3 _ rfl
  have lx := Kx2.out.lt
  have cz0 := Kz2.out.c 0 _ rfl
  have cz1 := Kz2.out.c 1 _ rfl
  have cz2 := Kz2.out.c 2 _ rfl
  have cz3 := Kz2.out.c 3 _ rfl
  have lz := Kz2.out.lt
  go_wp2_with fail
  all_goals (try clear cx0 cx1 cx2 cx3 lx cz0 cz1 cz2 cz3 lz)
  refine (Tck_ok a b f g _ HZ.out).mono ?_
  rintro e w3 ⟨rfl, hg⟩
  have S3 := Lib.hid (S2.out.trans hg)
  have Kx3 := Lib.hid (Kx2.out.gr hg)
  have Kz3 := Lib.hid (Kz2.out.gr hg)
  clear hg
  have cx0 := Kx3.out.c 0 _ rfl
  have cx1 := Kx3.out.c 1 _ rfl
  have cx2 := Kx3.out.c 2 _ rfl
  have cx3 := Kx3.out.c 3 _ rfl
  have lx := Kx3.out.lt
  have cz0 := Kz3.out.c 0 _ rfl
  have cz1 := Kz3.out.c 1 _ rfl
  have cz2 := Kz3.out.c 2 _ rfl
  have cz3 := Kz3.out.c 3 _ rfl
  have lz := Kz3.out.lt
  go_wp2_with fail
  all_goals (try clear cx0 cx1 cx2 cx3 lx cz0 cz1 cz2 cz3 lz)
  refine (Send_T a b n t _ HS.out HT.out).mono ?_
  rintro e w4 ⟨rfl, hg⟩
  have S4 := Lib.hid (S3.out.trans hg)
  have Kx4 := Lib.hid (Kx3.out.gr hg)
  have Kz4 := Lib.hid (Kz3.out.gr hg)
  clear hg
  have cx0 := Kx4.out.c 0 _ rfl
  have cx1 := Kx4.out.c 1 _ rfl
  have cx2 := Kx4.out.c 2 _ rfl
  have cx3 := Kx4.out.c 3 _ rfl
  have lx := Kx4.out.lt
  have cz0 := Kz4.out.c 0 _ rfl
  have cz1 := Kz4.out.c 1 _ rfl
  have cz2 := Kz4.out.c 2 _ rfl
  have cz3 := Kz4.out.c 3 _ rfl
  have lz := Kz4.out.lt
  go_wp2_with fail
  all_goals (try clear cx0 cx1 cx2 cx3 lx cz0 cz1 cz2 cz3 lz)
  refine (Hear_V o k s c n t 0 0 0 0 1 _ HH.out).mono ?_
  rintro e w5 ⟨rfl, hg⟩
  have S5 := Lib.hid (S4.out.trans hg)
  have Kx5 := Lib.hid (Kx4.out.gr hg)
  have Kz5 := Lib.hid (Kz4.out.gr hg)
  clear hg
  have cx0 := Kx5.out.c 0 _ rfl
  have cx1 := Kx5.out.c 1 _ rfl
  have cx2 := Kx5.out.c 2 _ rfl
  have cx3 := Kx5.out.c 3 _ rfl
  have lx := Kx5.out.lt
  have cz0 := Kz5.out.c 0 _ rfl
  have cz1 := Kz5.out.c 1 _ rfl
  have cz2 := Kz5.out.c 2 _ rfl
  have cz3 := Kz5.out.c 3 _ rfl
  have lz := Kz5.out.lt
  go_wp2_with fail
  all_goals (try clear cx0 cx1 cx2 cx3 lx cz0 cz1 cz2 cz3 lz)
  have g0 : Gr w5 ((w5).alloc (Obj.cells #[.int .i64 0, .int .i64 0, .int .i64 0, .int .i64 0] 45)) := Gr.alloc (Gr.refl w5) _
  have by1 : Bx ((w5).alloc (Obj.cells #[.int .i64 0, .int .i64 0, .int .i64 0, .int .i64 0] 45)) (w5.heap.size) [.int .i64 0, .int .i64 0, .int .i64 0, .int .i64 0] := Bx.gr (Bx.at_ (Bx.new (w5) [.int .i64 0, .int .i64 0, .int .i64 0, .int .i64 0] 45) (by simp)) (Gr.refl _)
  generalize (w5).alloc (Obj.cells #[.int .i64 0, .int .i64 0, .int .i64 0, .int .i64 0] 45) = w6 at g0 by1 ⊢
  have S6 := Lib.hid (S5.out.trans g0)
  have Kx6 := Lib.hid (Kx5.out.gr g0)
  have Kz6 := Lib.hid (Kz5.out.gr g0)
  have Ky16 := Lib.hid by1
  clear g0 by1
  have cx0 := Kx6.out.c 0 _ rfl
  have cx1 := Kx6.out.c 1 _ rfl
  have cx2 := Kx6.out.c 2 _ rfl
  have cx3 := Kx6.out.c 3 _ rfl
  have lx := Kx6.out.lt
  have cz0 := Kz6.out.c 0 _ rfl
  have cz1 := Kz6.out.c 1 _ rfl
  have cz2 := Kz6.out.c 2 _ rfl
  have cz3 := Kz6.out.c 3 _ rfl
  have lz := Kz6.out.lt
  have cy10 := Ky16.out.c 0 _ rfl
  have cy11 := Ky16.out.c 1 _ rfl
  have cy12 := Ky16.out.c 2 _ rfl
  have cy13 := Ky16.out.c 3 _ rfl
  have ly1 := Ky16.out.lt
  go_wp2_with fail
  all_goals (try clear cx0 cx1 cx2 cx3 lx cz0 cz1 cz2 cz3 lz cy10 cy11 cy12 cy13 ly1)
  refine (Send_V o k n _ v (fun x => v0 (HV.out ▸ x)) HV.out).mono ?_
  rintro e w7 ⟨rfl, hg⟩
  have S7 := Lib.hid (S6.out.trans hg)
  have Kx7 := Lib.hid (Kx6.out.gr hg)
  have Kz7 := Lib.hid (Kz6.out.gr hg)
  have Ky17 := Lib.hid (Ky16.out.gr hg)
  clear hg
  have cx0 := Kx7.out.c 0 _ rfl
  have cx1 := Kx7.out.c 1 _ rfl
  have cx2 := Kx7.out.c 2 _ rfl
  have cx3 := Kx7.out.c 3 _ rfl
  have lx := Kx7.out.lt
  have cz0 := Kz7.out.c 0 _ rfl
  have cz1 := Kz7.out.c 1 _ rfl
  have cz2 := Kz7.out.c 2 _ rfl
  have cz3 := Kz7.out.c 3 _ rfl
  have lz := Kz7.out.lt
  have cy10 := Ky17.out.c 0 _ rfl
  have cy11 := Ky17.out.c 1 _ rfl
  have cy12 := Ky17.out.c 2 _ rfl
  have cy13 := Ky17.out.c 3 _ rfl
  have ly1 := Ky17.out.lt
  go_wp2_with fail
  all_goals (try clear cx0 cx1 cx2 cx3 lx cz0 cz1 cz2 cz3 lz cy10 cy11 cy12 cy13 ly1)
  all_goals go_ret
  all_goals exact ⟨rfl, S7.out⟩


set_option maxRecDepth 20000 in
set_option maxHeartbeats 1000000 in
theorem TM_e1_0 (o k s c a b f g n : Int) (w : World) (hx' : Vs o k s c) (hz : Vs a b f g) (t : Int) (hs : inE a b n 2120 = 0) (ht : rch a b (n * 10000 + 2120) = t) (t0 : 0 < t) (hh : he ⟨o, k, s, c⟩ n t = (Sy0, 1)) (hu : inE o k n 2120 = 0) (hr : rch o k (n * 10000 + 2120) = 0) :
    Calls Try.prog 21 #[.agg #[.int .i64 o, .int .i64 k, .int .i64 s, .int .i64 c], .agg #[.int .i64 a, .int .i64 b, .int .i64 f, .int .i64 g], .int .i64 n] w fun e w' => e = .returned (.bool true) ∧ Gr w w' := by
  have c0 := hx'.c0
  have c1 := hx'.c1
  have HX' := Lib.hid hx'
  have HZ := Lib.hid hz
  have HS := Lib.hid hs
  have HT := Lib.hid ht
  have HH := Lib.hid hh
  have HU := Lib.hid hu
  have HR := Lib.hid hr
  clear hx' hz hs ht hh hu hr
  go_enter Try.func21, Try.ntmps21
  go_wp2_with fail
  have g0 : Gr w (((w).alloc (Obj.cells #[.int .i64 o, .int .i64 k, .int .i64 s, .int .i64 c] 45)).alloc (Obj.cells #[.int .i64 a, .int .i64 b, .int .i64 f, .int .i64 g] 45)) := Gr.alloc (Gr.alloc (Gr.refl w) _) _
  have bx : Bx (((w).alloc (Obj.cells #[.int .i64 o, .int .i64 k, .int .i64 s, .int .i64 c] 45)).alloc (Obj.cells #[.int .i64 a, .int .i64 b, .int .i64 f, .int .i64 g] 45)) (w.heap.size) [.int .i64 o, .int .i64 k, .int .i64 s, .int .i64 c] := Bx.gr (Bx.at_ (Bx.new (w) [.int .i64 o, .int .i64 k, .int .i64 s, .int .i64 c] 45) (by simp)) (Gr.alloc (Gr.refl _) _)
  have bz : Bx (((w).alloc (Obj.cells #[.int .i64 o, .int .i64 k, .int .i64 s, .int .i64 c] 45)).alloc (Obj.cells #[.int .i64 a, .int .i64 b, .int .i64 f, .int .i64 g] 45)) (w.heap.size + 1) [.int .i64 a, .int .i64 b, .int .i64 f, .int .i64 g] := Bx.gr (Bx.at_ (Bx.new ((w).alloc (Obj.cells #[.int .i64 o, .int .i64 k, .int .i64 s, .int .i64 c] 45)) [.int .i64 a, .int .i64 b, .int .i64 f, .int .i64 g] 45) (by simp)) (Gr.refl _)
  generalize ((w).alloc (Obj.cells #[.int .i64 o, .int .i64 k, .int .i64 s, .int .i64 c] 45)).alloc (Obj.cells #[.int .i64 a, .int .i64 b, .int .i64 f, .int .i64 g] 45) = W at g0 bx bz ⊢
  have S0 := Lib.hid g0
  have Kx0 := Lib.hid bx
  have Kz0 := Lib.hid bz
  clear g0 bx bz
  refine (awake10 _).mono ?_
  rintro e w1 ⟨rfl, hg⟩
  have S1 := Lib.hid (S0.out.trans hg)
  have Kx1 := Lib.hid (Kx0.out.gr hg)
  have Kz1 := Lib.hid (Kz0.out.gr hg)
  clear hg
  have cx0 := Kx1.out.c 0 _ rfl
  have cx1 := Kx1.out.c 1 _ rfl
  have cx2 := Kx1.out.c 2 _ rfl
  have cx3 := Kx1.out.c 3 _ rfl
  have lx := Kx1.out.lt
  have cz0 := Kz1.out.c 0 _ rfl
  have cz1 := Kz1.out.c 1 _ rfl
  have cz2 := Kz1.out.c 2 _ rfl
  have cz3 := Kz1.out.c 3 _ rfl
  have lz := Kz1.out.lt
  go_wp2_with fail
  all_goals (try clear cx0 cx1 cx2 cx3 lx cz0 cz1 cz2 cz3 lz)
  refine (Tck_ok o k s c _ HX'.out).mono ?_
  rintro e w2 ⟨rfl, hg⟩
  have S2 := Lib.hid (S1.out.trans hg)
  have Kx2 := Lib.hid (Kx1.out.gr hg)
  have Kz2 := Lib.hid (Kz1.out.gr hg)
  clear hg
  have cx0 := Kx2.out.c 0 _ rfl
  have cx1 := Kx2.out.c 1 _ rfl
  have cx2 := Kx2.out.c 2 _ rfl
  have cx3 := Kx2.out.c 3 _ rfl
  have lx := Kx2.out.lt
  have cz0 := Kz2.out.c 0 _ rfl
  have cz1 := Kz2.out.c 1 _ rfl
  have cz2 := Kz2.out.c 2 _ rfl
  have cz3 := Kz2.out.c 3 _ rfl
  have lz := Kz2.out.lt
  go_wp2_with fail
  all_goals (try clear cx0 cx1 cx2 cx3 lx cz0 cz1 cz2 cz3 lz)
  refine (Tck_ok a b f g _ HZ.out).mono ?_
  rintro e w3 ⟨rfl, hg⟩
  have S3 := Lib.hid (S2.out.trans hg)
  have Kx3 := Lib.hid (Kx2.out.gr hg)
  have Kz3 := Lib.hid (Kz2.out.gr hg)
  clear hg
  have cx0 := Kx3.out.c 0 _ rfl
  have cx1 := Kx3.out.c 1 _ rfl
  have cx2 := Kx3.out.c 2 _ rfl
  have cx3 := Kx3.out.c 3 _ rfl
  have lx := Kx3.out.lt
  have cz0 := Kz3.out.c 0 _ rfl
  have cz1 := Kz3.out.c 1 _ rfl
  have cz2 := Kz3.out.c 2 _ rfl
  have cz3 := Kz3.out.c 3 _ rfl
  have lz := Kz3.out.lt
  go_wp2_with fail
  all_goals (try clear cx0 cx1 cx2 cx3 lx cz0 cz1 cz2 cz3 lz)
  refine (Send_T a b n t _ HS.out HT.out).mono ?_
  rintro e w4 ⟨rfl, hg⟩
  have S4 := Lib.hid (S3.out.trans hg)
  have Kx4 := Lib.hid (Kx3.out.gr hg)
  have Kz4 := Lib.hid (Kz3.out.gr hg)
  clear hg
  have cx0 := Kx4.out.c 0 _ rfl
  have cx1 := Kx4.out.c 1 _ rfl
  have cx2 := Kx4.out.c 2 _ rfl
  have cx3 := Kx4.out.c 3 _ rfl
  have lx := Kx4.out.lt
  have cz0 := Kz4.out.c 0 _ rfl
  have cz1 := Kz4.out.c 1 _ rfl
  have cz2 := Kz4.out.c 2 _ rfl
  have cz3 := Kz4.out.c 3 _ rfl
  have lz := Kz4.out.lt
  go_wp2_with fail
  all_goals (try clear cx0 cx1 cx2 cx3 lx cz0 cz1 cz2 cz3 lz)
  refine (Hear_V o k s c n t 0 0 0 0 1 _ HH.out).mono ?_
  rintro e w5 ⟨rfl, hg⟩
  have S5 := Lib.hid (S4.out.trans hg)
  have Kx5 := Lib.hid (Kx4.out.gr hg)
  have Kz5 := Lib.hid (Kz4.out.gr hg)
  clear hg
  have cx0 := Kx5.out.c 0 _ rfl
  have cx1 := Kx5.out.c 1 _ rfl
  have cx2 := Kx5.out.c 2 _ rfl
  have cx3 := Kx5.out.c 3 _ rfl
  have lx := Kx5.out.lt
  have cz0 := Kz5.out.c 0 _ rfl
  have cz1 := Kz5.out.c 1 _ rfl
  have cz2 := Kz5.out.c 2 _ rfl
  have cz3 := Kz5.out.c 3 _ rfl
  have lz := Kz5.out.lt
  go_wp2_with fail
  all_goals (try clear cx0 cx1 cx2 cx3 lx cz0 cz1 cz2 cz3 lz)
  have g0 : Gr w5 ((w5).alloc (Obj.cells #[.int .i64 0, .int .i64 0, .int .i64 0, .int .i64 0] 45)) := Gr.alloc (Gr.refl w5) _
  have by1 : Bx ((w5).alloc (Obj.cells #[.int .i64 0, .int .i64 0, .int .i64 0, .int .i64 0] 45)) (w5.heap.size) [.int .i64 0, .int .i64 0, .int .i64 0, .int .i64 0] := Bx.gr (Bx.at_ (Bx.new (w5) [.int .i64 0, .int .i64 0, .int .i64 0, .int .i64 0] 45) (by simp)) (Gr.refl _)
  generalize (w5).alloc (Obj.cells #[.int .i64 0, .int .i64 0, .int .i64 0, .int .i64 0] 45) = w6 at g0 by1 ⊢
  have S6 := Lib.hid (S5.out.trans g0)
  have Kx6 := Lib.hid (Kx5.out.gr g0)
  have Kz6 := Lib.hid (Kz5.out.gr g0)
  have Ky16 := Lib.hid by1
  clear g0 by1
  have cx0 := Kx6.out.c 0 _ rfl
  have cx1 := Kx6.out.c 1 _ rfl
  have cx2 := Kx6.out.c 2 _ rfl
  have cx3 := Kx6.out.c 3 _ rfl
  have lx := Kx6.out.lt
  have cz0 := Kz6.out.c 0 _ rfl
  have cz1 := Kz6.out.c 1 _ rfl
  have cz2 := Kz6.out.c 2 _ rfl
  have cz3 := Kz6.out.c 3 _ rfl
  have lz := Kz6.out.lt
  have cy10 := Ky16.out.c 0 _ rfl
  have cy11 := Ky16.out.c 1 _ rfl
  have cy12 := Ky16.out.c 2 _ rfl
  have cy13 := Ky16.out.c 3 _ rfl
  have ly1 := Ky16.out.lt
  go_wp2_with fail
  all_goals (try clear cx0 cx1 cx2 cx3 lx cz0 cz1 cz2 cz3 lz cy10 cy11 cy12 cy13 ly1)
  refine (Send_T o k n 0 _ HU.out HR.out).mono ?_
  rintro e w7 ⟨rfl, hg⟩
  have S7 := Lib.hid (S6.out.trans hg)
  have Kx7 := Lib.hid (Kx6.out.gr hg)
  have Kz7 := Lib.hid (Kz6.out.gr hg)
  have Ky17 := Lib.hid (Ky16.out.gr hg)
  clear hg
  have cx0 := Kx7.out.c 0 _ rfl
  have cx1 := Kx7.out.c 1 _ rfl
  have cx2 := Kx7.out.c 2 _ rfl
  have cx3 := Kx7.out.c 3 _ rfl
  have lx := Kx7.out.lt
  have cz0 := Kz7.out.c 0 _ rfl
  have cz1 := Kz7.out.c 1 _ rfl
  have cz2 := Kz7.out.c 2 _ rfl
  have cz3 := Kz7.out.c 3 _ rfl
  have lz := Kz7.out.lt
  have cy10 := Ky17.out.c 0 _ rfl
  have cy11 := Ky17.out.c 1 _ rfl
  have cy12 := Ky17.out.c 2 _ rfl
  have cy13 := Ky17.out.c 3 _ rfl
  have ly1 := Ky17.out.lt
  go_wp2_with fail
  all_goals (try clear cx0 cx1 cx2 cx3 lx cz0 cz1 cz2 cz3 lz cy10 cy11 cy12 cy13 ly1)
  all_goals go_ret
  all_goals exact ⟨rfl, S7.out⟩


set_option maxRecDepth 20000 in
set_option maxHeartbeats 1000000 in
theorem TM_e1_ok (o k s c a b f g n : Int) (w : World) (hx' : Vs o k s c) (hz : Vs a b f g) (t : Int) (hs : inE a b n 2120 = 0) (ht : rch a b (n * 10000 + 2120) = t) (t0 : 0 < t) (hh : he ⟨o, k, s, c⟩ n t = (Sy0, 1)) (u : Int) (hu : inE o k n 2120 = 0) (hr : rch o k (n * 10000 + 2120) = u) (u0 : 0 < u) (l : Int) (hl : meN a b n u = l) (hle : meE a b n u = 0) (j : Int) (ha : ac ⟨o, k, s, c⟩ n l = (⟨j, k, n, c + 1⟩, 0)) (hj : Vc j k) (hut : inTime u) (h m' : Int) (hy : rd a b u - rd j k u = h) (hm' : m' = max h (-h)) (h0 : -1 ≤ h) (h1 : h ≤ 1) (n1 : m' ≤ 1) :
    Calls Try.prog 21 #[.agg #[.int .i64 o, .int .i64 k, .int .i64 s, .int .i64 c], .agg #[.int .i64 a, .int .i64 b, .int .i64 f, .int .i64 g], .int .i64 n] w fun e w' => e = .returned (.bool true) ∧ Gr w w' := by
  have c0 := hx'.c0
  have c1 := hx'.c1
  have HX' := Lib.hid hx'
  have HZ := Lib.hid hz
  have HS := Lib.hid hs
  have HT := Lib.hid ht
  have HH := Lib.hid hh
  have HU := Lib.hid hu
  have HR := Lib.hid hr
  have HL := Lib.hid hl
  have HLE := Lib.hid hle
  have HA := Lib.hid ha
  have HJ := Lib.hid hj
  have HUT := Lib.hid hut
  have HY := Lib.hid hy
  have HM' := Lib.hid hm'
  clear hx' hz hs ht hh hu hr hl hle ha hj hut hy hm'
  go_enter Try.func21, Try.ntmps21
  go_wp2_with fail
  have g0 : Gr w (((w).alloc (Obj.cells #[.int .i64 o, .int .i64 k, .int .i64 s, .int .i64 c] 45)).alloc (Obj.cells #[.int .i64 a, .int .i64 b, .int .i64 f, .int .i64 g] 45)) := Gr.alloc (Gr.alloc (Gr.refl w) _) _
  have bx : Bx (((w).alloc (Obj.cells #[.int .i64 o, .int .i64 k, .int .i64 s, .int .i64 c] 45)).alloc (Obj.cells #[.int .i64 a, .int .i64 b, .int .i64 f, .int .i64 g] 45)) (w.heap.size) [.int .i64 o, .int .i64 k, .int .i64 s, .int .i64 c] := Bx.gr (Bx.at_ (Bx.new (w) [.int .i64 o, .int .i64 k, .int .i64 s, .int .i64 c] 45) (by simp)) (Gr.alloc (Gr.refl _) _)
  have bz : Bx (((w).alloc (Obj.cells #[.int .i64 o, .int .i64 k, .int .i64 s, .int .i64 c] 45)).alloc (Obj.cells #[.int .i64 a, .int .i64 b, .int .i64 f, .int .i64 g] 45)) (w.heap.size + 1) [.int .i64 a, .int .i64 b, .int .i64 f, .int .i64 g] := Bx.gr (Bx.at_ (Bx.new ((w).alloc (Obj.cells #[.int .i64 o, .int .i64 k, .int .i64 s, .int .i64 c] 45)) [.int .i64 a, .int .i64 b, .int .i64 f, .int .i64 g] 45) (by simp)) (Gr.refl _)
  generalize ((w).alloc (Obj.cells #[.int .i64 o, .int .i64 k, .int .i64 s, .int .i64 c] 45)).alloc (Obj.cells #[.int .i64 a, .int .i64 b, .int .i64 f, .int .i64 g] 45) = W at g0 bx bz ⊢
  have S0 := Lib.hid g0
  have Kx0 := Lib.hid bx
  have Kz0 := Lib.hid bz
  clear g0 bx bz
  refine (awake10 _).mono ?_
  rintro e w1 ⟨rfl, hg⟩
  have S1 := Lib.hid (S0.out.trans hg)
  have Kx1 := Lib.hid (Kx0.out.gr hg)
  have Kz1 := Lib.hid (Kz0.out.gr hg)
  clear hg
  have cx0 := Kx1.out.c 0 _ rfl
  have cx1 := Kx1.out.c 1 _ rfl
  have cx2 := Kx1.out.c 2 _ rfl
  have cx3 := Kx1.out.c 3 _ rfl
  have lx := Kx1.out.lt
  have cz0 := Kz1.out.c 0 _ rfl
  have cz1 := Kz1.out.c 1 _ rfl
  have cz2 := Kz1.out.c 2 _ rfl
  have cz3 := Kz1.out.c 3 _ rfl
  have lz := Kz1.out.lt
  go_wp2_with fail
  all_goals (try clear cx0 cx1 cx2 cx3 lx cz0 cz1 cz2 cz3 lz)
  refine (Tck_ok o k s c _ HX'.out).mono ?_
  rintro e w2 ⟨rfl, hg⟩
  have S2 := Lib.hid (S1.out.trans hg)
  have Kx2 := Lib.hid (Kx1.out.gr hg)
  have Kz2 := Lib.hid (Kz1.out.gr hg)
  clear hg
  have cx0 := Kx2.out.c 0 _ rfl
  have cx1 := Kx2.out.c 1 _ rfl
  have cx2 := Kx2.out.c 2 _ rfl
  have cx3 := Kx2.out.c 3 _ rfl
  have lx := Kx2.out.lt
  have cz0 := Kz2.out.c 0 _ rfl
  have cz1 := Kz2.out.c 1 _ rfl
  have cz2 := Kz2.out.c 2 _ rfl
  have cz3 := Kz2.out.c 3 _ rfl
  have lz := Kz2.out.lt
  go_wp2_with fail
  all_goals (try clear cx0 cx1 cx2 cx3 lx cz0 cz1 cz2 cz3 lz)
  refine (Tck_ok a b f g _ HZ.out).mono ?_
  rintro e w3 ⟨rfl, hg⟩
  have S3 := Lib.hid (S2.out.trans hg)
  have Kx3 := Lib.hid (Kx2.out.gr hg)
  have Kz3 := Lib.hid (Kz2.out.gr hg)
  clear hg
  have cx0 := Kx3.out.c 0 _ rfl
  have cx1 := Kx3.out.c 1 _ rfl
  have cx2 := Kx3.out.c 2 _ rfl
  have cx3 := Kx3.out.c 3 _ rfl
  have lx := Kx3.out.lt
  have cz0 := Kz3.out.c 0 _ rfl
  have cz1 := Kz3.out.c 1 _ rfl
  have cz2 := Kz3.out.c 2 _ rfl
  have cz3 := Kz3.out.c 3 _ rfl
  have lz := Kz3.out.lt
  go_wp2_with fail
  all_goals (try clear cx0 cx1 cx2 cx3 lx cz0 cz1 cz2 cz3 lz)
  refine (Send_T a b n t _ HS.out HT.out).mono ?_
  rintro e w4 ⟨rfl, hg⟩
  have S4 := Lib.hid (S3.out.trans hg)
  have Kx4 := Lib.hid (Kx3.out.gr hg)
  have Kz4 := Lib.hid (Kz3.out.gr hg)
  clear hg
  have cx0 := Kx4.out.c 0 _ rfl
  have cx1 := Kx4.out.c 1 _ rfl
  have cx2 := Kx4.out.c 2 _ rfl
  have cx3 := Kx4.out.c 3 _ rfl
  have lx := Kx4.out.lt
  have cz0 := Kz4.out.c 0 _ rfl
  have cz1 := Kz4.out.c 1 _ rfl
  have cz2 := Kz4.out.c 2 _ rfl
  have cz3 := Kz4.out.c 3 _ rfl
  have lz := Kz4.out.lt
  go_wp2_with fail
  all_goals (try clear cx0 cx1 cx2 cx3 lx cz0 cz1 cz2 cz3 lz)
  refine (Hear_V o k s c n t 0 0 0 0 1 _ HH.out).mono ?_
  rintro e w5 ⟨rfl, hg⟩
  have S5 := Lib.hid (S4.out.trans hg)
  have Kx5 := Lib.hid (Kx4.out.gr hg)
  have Kz5 := Lib.hid (Kz4.out.gr hg)
  clear hg
  have cx0 := Kx5.out.c 0 _ rfl
  have cx1 := Kx5.out.c 1 _ rfl
  have cx2 := Kx5.out.c 2 _ rfl
  have cx3 := Kx5.out.c 3 _ rfl
  have lx := Kx5.out.lt
  have cz0 := Kz5.out.c 0 _ rfl
  have cz1 := Kz5.out.c 1 _ rfl
  have cz2 := Kz5.out.c 2 _ rfl
  have cz3 := Kz5.out.c 3 _ rfl
  have lz := Kz5.out.lt
  go_wp2_with fail
  all_goals (try clear cx0 cx1 cx2 cx3 lx cz0 cz1 cz2 cz3 lz)
  have g0 : Gr w5 ((w5).alloc (Obj.cells #[.int .i64 0, .int .i64 0, .int .i64 0, .int .i64 0] 45)) := Gr.alloc (Gr.refl w5) _
  have by1 : Bx ((w5).alloc (Obj.cells #[.int .i64 0, .int .i64 0, .int .i64 0, .int .i64 0] 45)) (w5.heap.size) [.int .i64 0, .int .i64 0, .int .i64 0, .int .i64 0] := Bx.gr (Bx.at_ (Bx.new (w5) [.int .i64 0, .int .i64 0, .int .i64 0, .int .i64 0] 45) (by simp)) (Gr.refl _)
  generalize (w5).alloc (Obj.cells #[.int .i64 0, .int .i64 0, .int .i64 0, .int .i64 0] 45) = w6 at g0 by1 ⊢
  have S6 := Lib.hid (S5.out.trans g0)
  have Kx6 := Lib.hid (Kx5.out.gr g0)
  have Kz6 := Lib.hid (Kz5.out.gr g0)
  have Ky16 := Lib.hid by1
  clear g0 by1
  have cx0 := Kx6.out.c 0 _ rfl
  have cx1 := Kx6.out.c 1 _ rfl
  have cx2 := Kx6.out.c 2 _ rfl
  have cx3 := Kx6.out.c 3 _ rfl
  have lx := Kx6.out.lt
  have cz0 := Kz6.out.c 0 _ rfl
  have cz1 := Kz6.out.c 1 _ rfl
  have cz2 := Kz6.out.c 2 _ rfl
  have cz3 := Kz6.out.c 3 _ rfl
  have lz := Kz6.out.lt
  have cy10 := Ky16.out.c 0 _ rfl
  have cy11 := Ky16.out.c 1 _ rfl
  have cy12 := Ky16.out.c 2 _ rfl
  have cy13 := Ky16.out.c 3 _ rfl
  have ly1 := Ky16.out.lt
  go_wp2_with fail
  all_goals (try clear cx0 cx1 cx2 cx3 lx cz0 cz1 cz2 cz3 lz cy10 cy11 cy12 cy13 ly1)
  refine (Send_T o k n u _ HU.out HR.out).mono ?_
  rintro e w7 ⟨rfl, hg⟩
  have S7 := Lib.hid (S6.out.trans hg)
  have Kx7 := Lib.hid (Kx6.out.gr hg)
  have Kz7 := Lib.hid (Kz6.out.gr hg)
  have Ky17 := Lib.hid (Ky16.out.gr hg)
  clear hg
  have cx0 := Kx7.out.c 0 _ rfl
  have cx1 := Kx7.out.c 1 _ rfl
  have cx2 := Kx7.out.c 2 _ rfl
  have cx3 := Kx7.out.c 3 _ rfl
  have lx := Kx7.out.lt
  have cz0 := Kz7.out.c 0 _ rfl
  have cz1 := Kz7.out.c 1 _ rfl
  have cz2 := Kz7.out.c 2 _ rfl
  have cz3 := Kz7.out.c 3 _ rfl
  have lz := Kz7.out.lt
  have cy10 := Ky17.out.c 0 _ rfl
  have cy11 := Ky17.out.c 1 _ rfl
  have cy12 := Ky17.out.c 2 _ rfl
  have cy13 := Ky17.out.c 3 _ rfl
  have ly1 := Ky17.out.lt
  go_wp2_with fail
  all_goals (try clear cx0 cx1 cx2 cx3 lx cz0 cz1 cz2 cz3 lz cy10 cy11 cy12 cy13 ly1)
  refine (Meas_V a b n u l _ HL.out HLE.out).mono ?_
  rintro e w8 ⟨rfl, hg⟩
  have S8 := Lib.hid (S7.out.trans hg)
  have Kx8 := Lib.hid (Kx7.out.gr hg)
  have Kz8 := Lib.hid (Kz7.out.gr hg)
  have Ky18 := Lib.hid (Ky17.out.gr hg)
  clear hg
  have cx0 := Kx8.out.c 0 _ rfl
  have cx1 := Kx8.out.c 1 _ rfl
  have cx2 := Kx8.out.c 2 _ rfl
  have cx3 := Kx8.out.c 3 _ rfl
  have lx := Kx8.out.lt
  have cz0 := Kz8.out.c 0 _ rfl
  have cz1 := Kz8.out.c 1 _ rfl
  have cz2 := Kz8.out.c 2 _ rfl
  have cz3 := Kz8.out.c 3 _ rfl
  have lz := Kz8.out.lt
  have cy10 := Ky18.out.c 0 _ rfl
  have cy11 := Ky18.out.c 1 _ rfl
  have cy12 := Ky18.out.c 2 _ rfl
  have cy13 := Ky18.out.c 3 _ rfl
  have ly1 := Ky18.out.lt
  go_wp2_with fail
  all_goals (try clear cx0 cx1 cx2 cx3 lx cz0 cz1 cz2 cz3 lz cy10 cy11 cy12 cy13 ly1)
  refine (Acked_V o k s c n l j k n (c + 1) 0 _ HA.out).mono ?_
  rintro e w9 ⟨rfl, hg⟩
  have S9 := Lib.hid (S8.out.trans hg)
  have Kx9 := Lib.hid (Kx8.out.gr hg)
  have Kz9 := Lib.hid (Kz8.out.gr hg)
  have Ky19 := Lib.hid (Ky18.out.gr hg)
  clear hg
  have cx0 := Kx9.out.c 0 _ rfl
  have cx1 := Kx9.out.c 1 _ rfl
  have cx2 := Kx9.out.c 2 _ rfl
  have cx3 := Kx9.out.c 3 _ rfl
  have lx := Kx9.out.lt
  have cz0 := Kz9.out.c 0 _ rfl
  have cz1 := Kz9.out.c 1 _ rfl
  have cz2 := Kz9.out.c 2 _ rfl
  have cz3 := Kz9.out.c 3 _ rfl
  have lz := Kz9.out.lt
  have cy10 := Ky19.out.c 0 _ rfl
  have cy11 := Ky19.out.c 1 _ rfl
  have cy12 := Ky19.out.c 2 _ rfl
  have cy13 := Ky19.out.c 3 _ rfl
  have ly1 := Ky19.out.lt
  go_wp2_with fail
  all_goals (try clear cx0 cx1 cx2 cx3 lx cz0 cz1 cz2 cz3 lz cy10 cy11 cy12 cy13 ly1)
  have g0 : Gr w9 ((w9).alloc (Obj.cells #[.int .i64 j, .int .i64 k, .int .i64 n, .int .i64 (c + 1)] 45)) := Gr.alloc (Gr.refl w9) _
  have by2 : Bx ((w9).alloc (Obj.cells #[.int .i64 j, .int .i64 k, .int .i64 n, .int .i64 (c + 1)] 45)) (w9.heap.size) [.int .i64 j, .int .i64 k, .int .i64 n, .int .i64 (c + 1)] := Bx.gr (Bx.at_ (Bx.new (w9) [.int .i64 j, .int .i64 k, .int .i64 n, .int .i64 (c + 1)] 45) (by simp)) (Gr.refl _)
  generalize (w9).alloc (Obj.cells #[.int .i64 j, .int .i64 k, .int .i64 n, .int .i64 (c + 1)] 45) = w10 at g0 by2 ⊢
  have S10 := Lib.hid (S9.out.trans g0)
  have Kx10 := Lib.hid (Kx9.out.gr g0)
  have Kz10 := Lib.hid (Kz9.out.gr g0)
  have Ky110 := Lib.hid (Ky19.out.gr g0)
  have Ky210 := Lib.hid by2
  clear g0 by2
  have cx0 := Kx10.out.c 0 _ rfl
  have cx1 := Kx10.out.c 1 _ rfl
  have cx2 := Kx10.out.c 2 _ rfl
  have cx3 := Kx10.out.c 3 _ rfl
  have lx := Kx10.out.lt
  have cz0 := Kz10.out.c 0 _ rfl
  have cz1 := Kz10.out.c 1 _ rfl
  have cz2 := Kz10.out.c 2 _ rfl
  have cz3 := Kz10.out.c 3 _ rfl
  have lz := Kz10.out.lt
  have cy10 := Ky110.out.c 0 _ rfl
  have cy11 := Ky110.out.c 1 _ rfl
  have cy12 := Ky110.out.c 2 _ rfl
  have cy13 := Ky110.out.c 3 _ rfl
  have ly1 := Ky110.out.lt
  have cy20 := Ky210.out.c 0 _ rfl
  have cy21 := Ky210.out.c 1 _ rfl
  have cy22 := Ky210.out.c 2 _ rfl
  have cy23 := Ky210.out.c 3 _ rfl
  have ly2 := Ky210.out.lt
  go_wp2_with fail
  all_goals (try clear cx0 cx1 cx2 cx3 lx cz0 cz1 cz2 cz3 lz cy10 cy11 cy12 cy13 ly1 cy20 cy21 cy22 cy23 ly2)
  refine (Apart_V j k a b u h _ HJ.out HZ.out.vc HUT.out HY.out).mono ?_
  rintro e w11 ⟨rfl, hg⟩
  have S11 := Lib.hid (S10.out.trans hg)
  have Kx11 := Lib.hid (Kx10.out.gr hg)
  have Kz11 := Lib.hid (Kz10.out.gr hg)
  have Ky111 := Lib.hid (Ky110.out.gr hg)
  have Ky211 := Lib.hid (Ky210.out.gr hg)
  clear hg
  have cx0 := Kx11.out.c 0 _ rfl
  have cx1 := Kx11.out.c 1 _ rfl
  have cx2 := Kx11.out.c 2 _ rfl
  have cx3 := Kx11.out.c 3 _ rfl
  have lx := Kx11.out.lt
  have cz0 := Kz11.out.c 0 _ rfl
  have cz1 := Kz11.out.c 1 _ rfl
  have cz2 := Kz11.out.c 2 _ rfl
  have cz3 := Kz11.out.c 3 _ rfl
  have lz := Kz11.out.lt
  have cy10 := Ky111.out.c 0 _ rfl
  have cy11 := Ky111.out.c 1 _ rfl
  have cy12 := Ky111.out.c 2 _ rfl
  have cy13 := Ky111.out.c 3 _ rfl
  have ly1 := Ky111.out.lt
  have cy20 := Ky211.out.c 0 _ rfl
  have cy21 := Ky211.out.c 1 _ rfl
  have cy22 := Ky211.out.c 2 _ rfl
  have cy23 := Ky211.out.c 3 _ rfl
  have ly2 := Ky211.out.lt
  go_wp2_with fail
  all_goals (try clear cx0 cx1 cx2 cx3 lx cz0 cz1 cz2 cz3 lz cy10 cy11 cy12 cy13 ly1 cy20 cy21 cy22 cy23 ly2)
  refine (size10 h m' _ (by omega) (by omega) HM'.out).mono ?_
  rintro e w12 ⟨rfl, hg⟩
  have S12 := Lib.hid (S11.out.trans hg)
  have Kx12 := Lib.hid (Kx11.out.gr hg)
  have Kz12 := Lib.hid (Kz11.out.gr hg)
  have Ky112 := Lib.hid (Ky111.out.gr hg)
  have Ky212 := Lib.hid (Ky211.out.gr hg)
  clear hg
  have cx0 := Kx12.out.c 0 _ rfl
  have cx1 := Kx12.out.c 1 _ rfl
  have cx2 := Kx12.out.c 2 _ rfl
  have cx3 := Kx12.out.c 3 _ rfl
  have lx := Kx12.out.lt
  have cz0 := Kz12.out.c 0 _ rfl
  have cz1 := Kz12.out.c 1 _ rfl
  have cz2 := Kz12.out.c 2 _ rfl
  have cz3 := Kz12.out.c 3 _ rfl
  have lz := Kz12.out.lt
  have cy10 := Ky112.out.c 0 _ rfl
  have cy11 := Ky112.out.c 1 _ rfl
  have cy12 := Ky112.out.c 2 _ rfl
  have cy13 := Ky112.out.c 3 _ rfl
  have ly1 := Ky112.out.lt
  have cy20 := Ky212.out.c 0 _ rfl
  have cy21 := Ky212.out.c 1 _ rfl
  have cy22 := Ky212.out.c 2 _ rfl
  have cy23 := Ky212.out.c 3 _ rfl
  have ly2 := Ky212.out.lt
  go_wp2_with fail
  all_goals (try clear cx0 cx1 cx2 cx3 lx cz0 cz1 cz2 cz3 lz cy10 cy11 cy12 cy13 ly1 cy20 cy21 cy22 cy23 ly2)
  all_goals go_ret
  all_goals exact ⟨rfl, S12.out⟩


set_option maxRecDepth 20000 in
set_option maxHeartbeats 1000000 in
theorem TM_e1_e (o k s c a b f g n : Int) (w : World) (hx' : Vs o k s c) (hz : Vs a b f g) (t : Int) (hs : inE a b n 2120 = 0) (ht : rch a b (n * 10000 + 2120) = t) (t0 : 0 < t) (hh : he ⟨o, k, s, c⟩ n t = (Sy0, 1)) (u : Int) (hu : inE o k n 2120 = 0) (hr : rch o k (n * 10000 + 2120) = u) (u0 : 0 < u) (l : Int) (hl : meN a b n u = l) (hle : meE a b n u = 0) (v : Int) (ha : ac ⟨o, k, s, c⟩ n l = (Sy0, v)) (v0 : ¬ v = 0) :
    Calls Try.prog 21 #[.agg #[.int .i64 o, .int .i64 k, .int .i64 s, .int .i64 c], .agg #[.int .i64 a, .int .i64 b, .int .i64 f, .int .i64 g], .int .i64 n] w fun e w' => e = .returned (.bool true) ∧ Gr w w' := by
  have bv : (v == 0) = false := beq_eq_false_iff_ne.2 v0
  have c0 := hx'.c0
  have c1 := hx'.c1
  have HX' := Lib.hid hx'
  have HZ := Lib.hid hz
  have HS := Lib.hid hs
  have HT := Lib.hid ht
  have HH := Lib.hid hh
  have HU := Lib.hid hu
  have HR := Lib.hid hr
  have HL := Lib.hid hl
  have HLE := Lib.hid hle
  have HA := Lib.hid ha
  clear hx' hz hs ht hh hu hr hl hle ha
  go_enter Try.func21, Try.ntmps21
  go_wp2_with fail
  have g0 : Gr w (((w).alloc (Obj.cells #[.int .i64 o, .int .i64 k, .int .i64 s, .int .i64 c] 45)).alloc (Obj.cells #[.int .i64 a, .int .i64 b, .int .i64 f, .int .i64 g] 45)) := Gr.alloc (Gr.alloc (Gr.refl w) _) _
  have bx : Bx (((w).alloc (Obj.cells #[.int .i64 o, .int .i64 k, .int .i64 s, .int .i64 c] 45)).alloc (Obj.cells #[.int .i64 a, .int .i64 b, .int .i64 f, .int .i64 g] 45)) (w.heap.size) [.int .i64 o, .int .i64 k, .int .i64 s, .int .i64 c] := Bx.gr (Bx.at_ (Bx.new (w) [.int .i64 o, .int .i64 k, .int .i64 s, .int .i64 c] 45) (by simp)) (Gr.alloc (Gr.refl _) _)
  have bz : Bx (((w).alloc (Obj.cells #[.int .i64 o, .int .i64 k, .int .i64 s, .int .i64 c] 45)).alloc (Obj.cells #[.int .i64 a, .int .i64 b, .int .i64 f, .int .i64 g] 45)) (w.heap.size + 1) [.int .i64 a, .int .i64 b, .int .i64 f, .int .i64 g] := Bx.gr (Bx.at_ (Bx.new ((w).alloc (Obj.cells #[.int .i64 o, .int .i64 k, .int .i64 s, .int .i64 c] 45)) [.int .i64 a, .int .i64 b, .int .i64 f, .int .i64 g] 45) (by simp)) (Gr.refl _)
  generalize ((w).alloc (Obj.cells #[.int .i64 o, .int .i64 k, .int .i64 s, .int .i64 c] 45)).alloc (Obj.cells #[.int .i64 a, .int .i64 b, .int .i64 f, .int .i64 g] 45) = W at g0 bx bz ⊢
  have S0 := Lib.hid g0
  have Kx0 := Lib.hid bx
  have Kz0 := Lib.hid bz
  clear g0 bx bz
  refine (awake10 _).mono ?_
  rintro e w1 ⟨rfl, hg⟩
  have S1 := Lib.hid (S0.out.trans hg)
  have Kx1 := Lib.hid (Kx0.out.gr hg)
  have Kz1 := Lib.hid (Kz0.out.gr hg)
  clear hg
  have cx0 := Kx1.out.c 0 _ rfl
  have cx1 := Kx1.out.c 1 _ rfl
  have cx2 := Kx1.out.c 2 _ rfl
  have cx3 := Kx1.out.c 3 _ rfl
  have lx := Kx1.out.lt
  have cz0 := Kz1.out.c 0 _ rfl
  have cz1 := Kz1.out.c 1 _ rfl
  have cz2 := Kz1.out.c 2 _ rfl
  have cz3 := Kz1.out.c 3 _ rfl
  have lz := Kz1.out.lt
  go_wp2_with fail
  all_goals (try clear cx0 cx1 cx2 cx3 lx cz0 cz1 cz2 cz3 lz)
  refine (Tck_ok o k s c _ HX'.out).mono ?_
  rintro e w2 ⟨rfl, hg⟩
  have S2 := Lib.hid (S1.out.trans hg)
  have Kx2 := Lib.hid (Kx1.out.gr hg)
  have Kz2 := Lib.hid (Kz1.out.gr hg)
  clear hg
  have cx0 := Kx2.out.c 0 _ rfl
  have cx1 := Kx2.out.c 1 _ rfl
  have cx2 := Kx2.out.c 2 _ rfl
  have cx3 := Kx2.out.c 3 _ rfl
  have lx := Kx2.out.lt
  have cz0 := Kz2.out.c 0 _ rfl
  have cz1 := Kz2.out.c 1 _ rfl
  have cz2 := Kz2.out.c 2 _ rfl
  have cz3 := Kz2.out.c 3 _ rfl
  have lz := Kz2.out.lt
  go_wp2_with fail
  all_goals (try clear cx0 cx1 cx2 cx3 lx cz0 cz1 cz2 cz3 lz)
  refine (Tck_ok a b f g _ HZ.out).mono ?_
  rintro e w3 ⟨rfl, hg⟩
  have S3 := Lib.hid (S2.out.trans hg)
  have Kx3 := Lib.hid (Kx2.out.gr hg)
  have Kz3 := Lib.hid (Kz2.out.gr hg)
  clear hg
  have cx0 := Kx3.out.c 0 _ rfl
  have cx1 := Kx3.out.c 1 _ rfl
  have cx2 := Kx3.out.c 2 _ rfl
  have cx3 := Kx3.out.c 3 _ rfl
  have lx := Kx3.out.lt
  have cz0 := Kz3.out.c 0 _ rfl
  have cz1 := Kz3.out.c 1 _ rfl
  have cz2 := Kz3.out.c 2 _ rfl
  have cz3 := Kz3.out.c 3 _ rfl
  have lz := Kz3.out.lt
  go_wp2_with fail
  all_goals (try clear cx0 cx1 cx2 cx3 lx cz0 cz1 cz2 cz3 lz)
  refine (Send_T a b n t _ HS.out HT.out).mono ?_
  rintro e w4 ⟨rfl, hg⟩
  have S4 := Lib.hid (S3.out.trans hg)
  have Kx4 := Lib.hid (Kx3.out.gr hg)
  have Kz4 := Lib.hid (Kz3.out.gr hg)
  clear hg
  have cx0 := Kx4.out.c 0 _ rfl
  have cx1 := Kx4.out.c 1 _ rfl
  have cx2 := Kx4.out.c 2 _ rfl
  have cx3 := Kx4.out.c 3 _ rfl
  have lx := Kx4.out.lt
  have cz0 := Kz4.out.c 0 _ rfl
  have cz1 := Kz4.out.c 1 _ rfl
  have cz2 := Kz4.out.c 2 _ rfl
  have cz3 := Kz4.out.c 3 _ rfl
  have lz := Kz4.out.lt
  go_wp2_with fail
  all_goals (try clear cx0 cx1 cx2 cx3 lx cz0 cz1 cz2 cz3 lz)
  refine (Hear_V o k s c n t 0 0 0 0 1 _ HH.out).mono ?_
  rintro e w5 ⟨rfl, hg⟩
  have S5 := Lib.hid (S4.out.trans hg)
  have Kx5 := Lib.hid (Kx4.out.gr hg)
  have Kz5 := Lib.hid (Kz4.out.gr hg)
  clear hg
  have cx0 := Kx5.out.c 0 _ rfl
  have cx1 := Kx5.out.c 1 _ rfl
  have cx2 := Kx5.out.c 2 _ rfl
  have cx3 := Kx5.out.c 3 _ rfl
  have lx := Kx5.out.lt
  have cz0 := Kz5.out.c 0 _ rfl
  have cz1 := Kz5.out.c 1 _ rfl
  have cz2 := Kz5.out.c 2 _ rfl
  have cz3 := Kz5.out.c 3 _ rfl
  have lz := Kz5.out.lt
  go_wp2_with fail
  all_goals (try clear cx0 cx1 cx2 cx3 lx cz0 cz1 cz2 cz3 lz)
  have g0 : Gr w5 ((w5).alloc (Obj.cells #[.int .i64 0, .int .i64 0, .int .i64 0, .int .i64 0] 45)) := Gr.alloc (Gr.refl w5) _
  have by1 : Bx ((w5).alloc (Obj.cells #[.int .i64 0, .int .i64 0, .int .i64 0, .int .i64 0] 45)) (w5.heap.size) [.int .i64 0, .int .i64 0, .int .i64 0, .int .i64 0] := Bx.gr (Bx.at_ (Bx.new (w5) [.int .i64 0, .int .i64 0, .int .i64 0, .int .i64 0] 45) (by simp)) (Gr.refl _)
  generalize (w5).alloc (Obj.cells #[.int .i64 0, .int .i64 0, .int .i64 0, .int .i64 0] 45) = w6 at g0 by1 ⊢
  have S6 := Lib.hid (S5.out.trans g0)
  have Kx6 := Lib.hid (Kx5.out.gr g0)
  have Kz6 := Lib.hid (Kz5.out.gr g0)
  have Ky16 := Lib.hid by1
  clear g0 by1
  have cx0 := Kx6.out.c 0 _ rfl
  have cx1 := Kx6.out.c 1 _ rfl
  have cx2 := Kx6.out.c 2 _ rfl
  have cx3 := Kx6.out.c 3 _ rfl
  have lx := Kx6.out.lt
  have cz0 := Kz6.out.c 0 _ rfl
  have cz1 := Kz6.out.c 1 _ rfl
  have cz2 := Kz6.out.c 2 _ rfl
  have cz3 := Kz6.out.c 3 _ rfl
  have lz := Kz6.out.lt
  have cy10 := Ky16.out.c 0 _ rfl
  have cy11 := Ky16.out.c 1 _ rfl
  have cy12 := Ky16.out.c 2 _ rfl
  have cy13 := Ky16.out.c 3 _ rfl
  have ly1 := Ky16.out.lt
  go_wp2_with fail
  all_goals (try clear cx0 cx1 cx2 cx3 lx cz0 cz1 cz2 cz3 lz cy10 cy11 cy12 cy13 ly1)
  refine (Send_T o k n u _ HU.out HR.out).mono ?_
  rintro e w7 ⟨rfl, hg⟩
  have S7 := Lib.hid (S6.out.trans hg)
  have Kx7 := Lib.hid (Kx6.out.gr hg)
  have Kz7 := Lib.hid (Kz6.out.gr hg)
  have Ky17 := Lib.hid (Ky16.out.gr hg)
  clear hg
  have cx0 := Kx7.out.c 0 _ rfl
  have cx1 := Kx7.out.c 1 _ rfl
  have cx2 := Kx7.out.c 2 _ rfl
  have cx3 := Kx7.out.c 3 _ rfl
  have lx := Kx7.out.lt
  have cz0 := Kz7.out.c 0 _ rfl
  have cz1 := Kz7.out.c 1 _ rfl
  have cz2 := Kz7.out.c 2 _ rfl
  have cz3 := Kz7.out.c 3 _ rfl
  have lz := Kz7.out.lt
  have cy10 := Ky17.out.c 0 _ rfl
  have cy11 := Ky17.out.c 1 _ rfl
  have cy12 := Ky17.out.c 2 _ rfl
  have cy13 := Ky17.out.c 3 _ rfl
  have ly1 := Ky17.out.lt
  go_wp2_with fail
  all_goals (try clear cx0 cx1 cx2 cx3 lx cz0 cz1 cz2 cz3 lz cy10 cy11 cy12 cy13 ly1)
  refine (Meas_V a b n u l _ HL.out HLE.out).mono ?_
  rintro e w8 ⟨rfl, hg⟩
  have S8 := Lib.hid (S7.out.trans hg)
  have Kx8 := Lib.hid (Kx7.out.gr hg)
  have Kz8 := Lib.hid (Kz7.out.gr hg)
  have Ky18 := Lib.hid (Ky17.out.gr hg)
  clear hg
  have cx0 := Kx8.out.c 0 _ rfl
  have cx1 := Kx8.out.c 1 _ rfl
  have cx2 := Kx8.out.c 2 _ rfl
  have cx3 := Kx8.out.c 3 _ rfl
  have lx := Kx8.out.lt
  have cz0 := Kz8.out.c 0 _ rfl
  have cz1 := Kz8.out.c 1 _ rfl
  have cz2 := Kz8.out.c 2 _ rfl
  have cz3 := Kz8.out.c 3 _ rfl
  have lz := Kz8.out.lt
  have cy10 := Ky18.out.c 0 _ rfl
  have cy11 := Ky18.out.c 1 _ rfl
  have cy12 := Ky18.out.c 2 _ rfl
  have cy13 := Ky18.out.c 3 _ rfl
  have ly1 := Ky18.out.lt
  go_wp2_with fail
  all_goals (try clear cx0 cx1 cx2 cx3 lx cz0 cz1 cz2 cz3 lz cy10 cy11 cy12 cy13 ly1)
  refine (Acked_V o k s c n l 0 0 0 0 v _ HA.out).mono ?_
  rintro e w9 ⟨rfl, hg⟩
  have S9 := Lib.hid (S8.out.trans hg)
  have Kx9 := Lib.hid (Kx8.out.gr hg)
  have Kz9 := Lib.hid (Kz8.out.gr hg)
  have Ky19 := Lib.hid (Ky18.out.gr hg)
  clear hg
  have cx0 := Kx9.out.c 0 _ rfl
  have cx1 := Kx9.out.c 1 _ rfl
  have cx2 := Kx9.out.c 2 _ rfl
  have cx3 := Kx9.out.c 3 _ rfl
  have lx := Kx9.out.lt
  have cz0 := Kz9.out.c 0 _ rfl
  have cz1 := Kz9.out.c 1 _ rfl
  have cz2 := Kz9.out.c 2 _ rfl
  have cz3 := Kz9.out.c 3 _ rfl
  have lz := Kz9.out.lt
  have cy10 := Ky19.out.c 0 _ rfl
  have cy11 := Ky19.out.c 1 _ rfl
  have cy12 := Ky19.out.c 2 _ rfl
  have cy13 := Ky19.out.c 3 _ rfl
  have ly1 := Ky19.out.lt
  go_wp2_with fail
  all_goals (try clear cx0 cx1 cx2 cx3 lx cz0 cz1 cz2 cz3 lz cy10 cy11 cy12 cy13 ly1)
  have g0 : Gr w9 ((w9).alloc (Obj.cells #[.int .i64 0, .int .i64 0, .int .i64 0, .int .i64 0] 45)) := Gr.alloc (Gr.refl w9) _
  have by2 : Bx ((w9).alloc (Obj.cells #[.int .i64 0, .int .i64 0, .int .i64 0, .int .i64 0] 45)) (w9.heap.size) [.int .i64 0, .int .i64 0, .int .i64 0, .int .i64 0] := Bx.gr (Bx.at_ (Bx.new (w9) [.int .i64 0, .int .i64 0, .int .i64 0, .int .i64 0] 45) (by simp)) (Gr.refl _)
  generalize (w9).alloc (Obj.cells #[.int .i64 0, .int .i64 0, .int .i64 0, .int .i64 0] 45) = w10 at g0 by2 ⊢
  have S10 := Lib.hid (S9.out.trans g0)
  have Kx10 := Lib.hid (Kx9.out.gr g0)
  have Kz10 := Lib.hid (Kz9.out.gr g0)
  have Ky110 := Lib.hid (Ky19.out.gr g0)
  have Ky210 := Lib.hid by2
  clear g0 by2
  have cx0 := Kx10.out.c 0 _ rfl
  have cx1 := Kx10.out.c 1 _ rfl
  have cx2 := Kx10.out.c 2 _ rfl
  have cx3 := Kx10.out.c 3 _ rfl
  have lx := Kx10.out.lt
  have cz0 := Kz10.out.c 0 _ rfl
  have cz1 := Kz10.out.c 1 _ rfl
  have cz2 := Kz10.out.c 2 _ rfl
  have cz3 := Kz10.out.c 3 _ rfl
  have lz := Kz10.out.lt
  have cy10 := Ky110.out.c 0 _ rfl
  have cy11 := Ky110.out.c 1 _ rfl
  have cy12 := Ky110.out.c 2 _ rfl
  have cy13 := Ky110.out.c 3 _ rfl
  have ly1 := Ky110.out.lt
  have cy20 := Ky210.out.c 0 _ rfl
  have cy21 := Ky210.out.c 1 _ rfl
  have cy22 := Ky210.out.c 2 _ rfl
  have cy23 := Ky210.out.c 3 _ rfl
  have ly2 := Ky210.out.lt
  go_wp2_with fail
  all_goals (try clear cx0 cx1 cx2 cx3 lx cz0 cz1 cz2 cz3 lz cy10 cy11 cy12 cy13 ly1 cy20 cy21 cy22 cy23 ly2)
  all_goals go_ret
  all_goals exact ⟨rfl, S10.out⟩

end Go.Proofs.Ytpnigndobhbfnaa
