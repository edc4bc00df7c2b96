/- TimesyncMeets: when a node has been corrected, its clock and that of its time parent differ by at most 1 at the time at which the frame was sent; its drift is as before. For every input the call returns true and each argument reads afterwards as it read before (no condition). -/
import Derived.Test.YtpnigndobhbfnaaMt0
import Derived.Test.YtpnigndobhbfnaaMt1
import Derived.Test.YtpnigndobhbfnaaMt2
import Derived.Test.YtpnigndobhbfnaaMt3
import Derived.Test.YtpnigndobhbfnaaFrame
set_option linter.unnecessarySimpa false
namespace Go.Proofs.Ytpnigndobhbfnaa
open Go.ChangeShapes Go.WideShapes Go.ChangeAt Go.RowKit Go.Joins
/-- What the first half finds. -/
inductive MP1 (o k s c a b n : Int) : Prop
  | pE (q : Int) (hq : inE a b n 2120 = q) (q0 : ¬ q = 0) : MP1 o k s c a b n
  | p0 (hs : inE a b n 2120 = 0) (ht : rch a b (n * 10000 + 2120) = 0) : MP1 o k s c a b n
  | pok (t : Int) (hs : inE a b n 2120 = 0) (ht : rch a b (n * 10000 + 2120) = t) (t0 : 0 < t) (i : Int) (hh : he ⟨o, k, s, c⟩ n t = (⟨i, k, n, c + 1⟩, 0)) (hi : Vc i k) (hit : inTime t) (x m : Int) (hx : rd a b t - rd i k t = x) (hm : m = max x (-x)) (x0 : -1 ≤ x) (x1 : x ≤ 1) (m1 : m ≤ 1) : MP1 o k s c a b n
  | pe5 (t : Int) (hs : inE a b n 2120 = 0) (ht : rch a b (n * 10000 + 2120) = t) (t0 : 0 < t) (hh : he ⟨o, k, s, c⟩ n t = (Sy0, 5)) : MP1 o k s c a b n
  | pe15 (t : Int) (hs : inE a b n 2120 = 0) (ht : rch a b (n * 10000 + 2120) = t) (t0 : 0 < t) (hh : he ⟨o, k, s, c⟩ n t = (Sy0, 15)) : MP1 o k s c a b n
  | pe13 (t : Int) (hs : inE a b n 2120 = 0) (ht : rch a b (n * 10000 + 2120) = t) (t0 : 0 < t) (hh : he ⟨o, k, s, c⟩ n t = (Sy0, 13)) : MP1 o k s c a b n
  | pe1 (t : Int) (hs : inE a b n 2120 = 0) (ht : rch a b (n * 10000 + 2120) = t) (t0 : 0 < t) (hh : he ⟨o, k, s, c⟩ n t = (Sy0, 1)) : MP1 o k s c a b n
/-- What the second half finds. -/
inductive MP2 (o k s c a b n : Int) : Prop
  | pE (v : Int) (hv : inE o k n 2120 = v) (v0 : ¬ v = 0) : MP2 o k s c a b n
  | p0 (hu : inE o k n 2120 = 0) (hr : rch o k (n * 10000 + 2120) = 0) : MP2 o k s c a b n
  | pok (u : Int) (hu : inE o k n 2120 = 0) (hr : rch o k (n * 10000 + 2120) = u) (u0 : 0 < u) (l : Int) (hl : meN a b n u = l) (hle : meE a b n u = 0) (j : Int) (ha : ac ⟨o, k, s, c⟩ n l = (⟨j, k, n, c + 1⟩, 0)) (hj : Vc j k) (hut : inTime u) (h m' : Int) (hy : rd a b u - rd j k u = h) (hm' : m' = max h (-h)) (h0 : -1 ≤ h) (h1 : h ≤ 1) (n1 : m' ≤ 1) : MP2 o k s c a b n
  | pe (u : Int) (hu : inE o k n 2120 = 0) (hr : rch o k (n * 10000 + 2120) = u) (u0 : 0 < u) (l : Int) (hl : meN a b n u = l) (hle : meE a b n u = 0) (v : Int) (ha : ac ⟨o, k, s, c⟩ n l = (Sy0, v)) (v0 : ¬ v = 0) : MP2 o k s c a b n
theorem co_out {o k s c : Int} (n d : Int) : (co ⟨o, k, s, c⟩ n d = (⟨o + d, k, n, c + 1⟩, 0) ∧ Vc (o + d) k) ∨ co ⟨o, k, s, c⟩ n d = (Sy0, 5) ∨ co ⟨o, k, s, c⟩ n d = (Sy0, 15) ∨ co ⟨o, k, s, c⟩ n d = (Sy0, 13) ∨ co ⟨o, k, s, c⟩ n d = (Sy0, 1) := by
  unfold co
  by_cases h : n ≤ s
  · rw [if_pos h]; exact Or.inr (Or.inl rfl)
  rw [if_neg h]
  by_cases h1 : d < -4999 ∨ 4999 < d
  · rw [if_pos h1]; exact Or.inr (Or.inr (Or.inl rfl))
  rw [if_neg h1]
  by_cases h2 : c = 4096
  · rw [if_pos h2]; exact Or.inr (Or.inr (Or.inr (Or.inl rfl)))
  rw [if_neg h2]
  by_cases h3 : Vc (o + d) k
  · rw [if_pos h3]; exact Or.inl ⟨rfl, h3⟩
  · rw [if_neg h3]; exact Or.inr (Or.inr (Or.inr (Or.inr rfl)))
theorem rd_shift10 (o d k t : Int) : rd (o + d) k t = rd o k t + d := by unfold rd; omega
/-- Behind the beginning a clock shows at most one more than what it reaches. -/
theorem rch_one {a b x t : Int} (hv : Vc a b) (h : IsRch a b x t) (t0 : 0 < t) : x ≤ rd a b t ∧ rd a b t ≤ x + 1 := by
  have h1 := h.at_
  have h2 := h.before (t - 1) (by omega) (by omega)
  have h3 := rd_succ a (t := t - 1) hv.d0 hv.d1
  rw [show t - 1 + 1 = t by omega] at h3
  omega
theorem mp1_of {o k s c a b n : Int} (hx : Vs o k s c) : MP1 o k s c a b n := by
  by_cases hs : inE a b n 2120 = 0
  · obtain ⟨hv, hn, hr⟩ := inE_ok hs
    have hi := rch_is hr
    by_cases t0 : 0 < rch a b (n * 10000 + 2120)
    · have ht : inTime (rch a b (n * 10000 + 2120)) := ⟨hi.lo, hi.hi⟩
      have hb := rch_one hv hi t0
      have hh : he ⟨o, k, s, c⟩ n (rch a b (n * 10000 + 2120)) = co ⟨o, k, s, c⟩ n (-(rd o k (rch a b (n * 10000 + 2120)) - (n * 10000 + 2120))) := (if_pos hx).trans (if_pos ⟨hn, ht⟩)
      rcases co_out (o := o) (k := k) (s := s) (c := c) n (-(rd o k (rch a b (n * 10000 + 2120)) - (n * 10000 + 2120))) with ⟨h, h1⟩ | h | h | h | h
      · have hd := rd_shift10 o (-(rd o k (rch a b (n * 10000 + 2120)) - (n * 10000 + 2120))) k (rch a b (n * 10000 + 2120))
        exact MP1.pok _ hs rfl t0 _ (hh.trans h) h1 ht _ _ rfl rfl (by omega) (by omega) (by omega)
      · exact MP1.pe5 _ hs rfl t0 (hh.trans h)
      · exact MP1.pe15 _ hs rfl t0 (hh.trans h)
      · exact MP1.pe13 _ hs rfl t0 (hh.trans h)
      · exact MP1.pe1 _ hs rfl t0 (hh.trans h)
    · have := hi.lo
      exact MP1.p0 hs (by omega)
  · exact MP1.pE _ rfl hs
theorem mp2_of {o k s c a b f g n : Int} (hx : Vs o k s c) (hz : Vs a b f g) : MP2 o k s c a b n := by
  by_cases hs : inE o k n 2120 = 0
  · obtain ⟨hv, hn, hr⟩ := inE_ok hs
    have hi := rch_is hr
    by_cases t0 : 0 < rch o k (n * 10000 + 2120)
    · have ht : inTime (rch o k (n * 10000 + 2120)) := ⟨hi.lo, hi.hi⟩
      have hb := rch_one hv hi t0
      have hl : meN a b n (rch o k (n * 10000 + 2120)) = rd a b (rch o k (n * 10000 + 2120)) - (n * 10000 + 2120) := if_pos ⟨hz.vc, hn, ht⟩
      have hle : meE a b n (rch o k (n * 10000 + 2120)) = 0 := (if_pos hz.vc).trans (if_pos ⟨hn, ht⟩)
      have hh : ac ⟨o, k, s, c⟩ n (rd a b (rch o k (n * 10000 + 2120)) - (n * 10000 + 2120)) = co ⟨o, k, s, c⟩ n (rd a b (rch o k (n * 10000 + 2120)) - (n * 10000 + 2120)) := (if_pos hx).trans (if_pos hn)
      have hd := rd_shift10 o (rd a b (rch o k (n * 10000 + 2120)) - (n * 10000 + 2120)) k (rch o k (n * 10000 + 2120))
      rcases co_out (o := o) (k := k) (s := s) (c := c) n (rd a b (rch o k (n * 10000 + 2120)) - (n * 10000 + 2120)) with ⟨h, h1⟩ | h | h | h | h
      · exact MP2.pok _ hs rfl t0 _ hl hle _ (hh.trans h) h1 ht _ _ rfl rfl (by omega) (by omega) (by omega)
      all_goals exact MP2.pe _ hs rfl t0 _ hl hle _ (hh.trans h) (by omega)
    · have := hi.lo
      exact MP2.p0 hs (by omega)
  · exact MP2.pE _ rfl hs

set_option maxRecDepth 20000 in
set_option maxHeartbeats 400000 in
theorem TM_n1 (o k s c a b f g n : Int) (w : World) (hx' : ¬ Vs o k s c) :
    Calls Try.prog 21 #[.agg #[.int .i64 o, .int .i64 k, .int .i64 s, .int .i64 c], .agg #[.int .i64 a, .int .i64 b, .int .i64 f, .int .i64 g], .int .i64 n] w fun e w' => e = .returned (.bool true) ∧ Gr w w' := by
  have HX' := Lib.hid hx'
  clear hx'
  go_enter Try.func21, Try.ntmps21
  go_wp2_with fail
  have g0 : Gr w (((w).alloc (Obj.cells #[.int .i64 o, .int .i64 k, .int .i64 s, .int .i64 c] 45)).alloc (Obj.cells #[.int .i64 a, .int .i64 b, .int .i64 f, .int .i64 g] 45)) := Gr.alloc (Gr.alloc (Gr.refl w) _) _
  have bx : Bx (((w).alloc (Obj.cells #[.int .i64 o, .int .i64 k, .int .i64 s, .int .i64 c] 45)).alloc (Obj.cells #[.int .i64 a, .int .i64 b, .int .i64 f, .int .i64 g] 45)) (w.heap.size) [.int .i64 o, .int .i64 k, .int .i64 s, .int .i64 c] := Bx.gr (Bx.at_ (Bx.new (w) [.int .i64 o, .int .i64 k, .int .i64 s, .int .i64 c] 45) (by simp)) (Gr.alloc (Gr.refl _) _)
  have bz : Bx (((w).alloc (Obj.cells #[.int .i64 o, .int .i64 k, .int .i64 s, .int .i64 c] 45)).alloc (Obj.cells #[.int .i64 a, .int .i64 b, .int .i64 f, .int .i64 g] 45)) (w.heap.size + 1) [.int .i64 a, .int .i64 b, .int .i64 f, .int .i64 g] := Bx.gr (Bx.at_ (Bx.new ((w).alloc (Obj.cells #[.int .i64 o, .int .i64 k, .int .i64 s, .int .i64 c] 45)) [.int .i64 a, .int .i64 b, .int .i64 f, .int .i64 g] 45) (by simp)) (Gr.refl _)
  generalize ((w).alloc (Obj.cells #[.int .i64 o, .int .i64 k, .int .i64 s, .int .i64 c] 45)).alloc (Obj.cells #[.int .i64 a, .int .i64 b, .int .i64 f, .int .i64 g] 45) = W at g0 bx bz ⊢
  have S0 := Lib.hid g0
  have Kx0 := Lib.hid bx
  have Kz0 := Lib.hid bz
  clear g0 bx bz
  refine (awake10 _).mono ?_
  rintro e w1 ⟨rfl, hg⟩
  have S1 := Lib.hid (S0.out.trans hg)
  have Kx1 := Lib.hid (Kx0.out.gr hg)
  have Kz1 := Lib.hid (Kz0.out.gr hg)
  clear hg
  have cx0 := Kx1.out.c 0 _ rfl
  have cx1 := Kx1.out.c 1 _ rfl
  have cx2 := Kx1.out.c 2 _ rfl
  have cx3 := Kx1.out.c 3 _ rfl
  have lx := Kx1.out.lt
  have cz0 := Kz1.out.c 0 _ rfl
  have cz1 := Kz1.out.c 1 _ rfl
  have cz2 := Kz1.out.c 2 _ rfl
  have cz3 := Kz1.out.c 3 _ rfl
  have lz := Kz1.out.lt
  go_wp2_with fail
  all_goals (try clear cx0 cx1 cx2 cx3 lx cz0 cz1 cz2 cz3 lz)
  refine (Tck_no o k s c _ HX'.out).mono ?_
  rintro e w2 ⟨rfl, hg⟩
  have S2 := Lib.hid (S1.out.trans hg)
  have Kx2 := Lib.hid (Kx1.out.gr hg)
  have Kz2 := Lib.hid (Kz1.out.gr hg)
  clear hg
  have cx0 := Kx2.out.c 0 _ rfl
  have cx1 := Kx2.out.c 1 _ rfl
  have cx2 := Kx2.out.c 2 _ rfl
  have cx3 := Kx2.out.c 3 _ rfl
  have lx := Kx2.out.lt
  have cz0 := Kz2.out.c 0 _ rfl
  have cz1 := Kz2.out.c 1 _ rfl
  have cz2 := Kz2.out.c 2 _ rfl
  have cz3 := Kz2.out.c 3 _ rfl
  have lz := Kz2.out.lt
  go_wp2_with fail
  all_goals (try clear cx0 cx1 cx2 cx3 lx cz0 cz1 cz2 cz3 lz)
  all_goals go_ret
  all_goals exact ⟨rfl, S2.out⟩


set_option maxRecDepth 20000 in
set_option maxHeartbeats 400000 in
theorem TM_n2 (o k s c a b f g n : Int) (w : World) (hx' : Vs o k s c) (hz : ¬ Vs a b f g) :
    Calls Try.prog 21 #[.agg #[.int .i64 o, .int .i64 k, .int .i64 s, .int .i64 c], .agg #[.int .i64 a, .int .i64 b, .int .i64 f, .int .i64 g], .int .i64 n] w fun e w' => e = .returned (.bool true) ∧ Gr w w' := by
  have HX' := Lib.hid hx'
  have HZ := Lib.hid hz
  clear hx' hz
  go_enter Try.func21, Try.ntmps21
  go_wp2_with fail
  have g0 : Gr w (((w).alloc (Obj.cells #[.int .i64 o, .int .i64 k, .int .i64 s, .int .i64 c] 45)).alloc (Obj.cells #[.int .i64 a, .int .i64 b, .int .i64 f, .int .i64 g] 45)) := Gr.alloc (Gr.alloc (Gr.refl w) _) _
  have bx : Bx (((w).alloc (Obj.cells #[.int .i64 o, .int .i64 k, .int .i64 s, .int .i64 c] 45)).alloc (Obj.cells #[.int .i64 a, .int .i64 b, .int .i64 f, .int .i64 g] 45)) (w.heap.size) [.int .i64 o, .int .i64 k, .int .i64 s, .int .i64 c] := Bx.gr (Bx.at_ (Bx.new (w) [.int .i64 o, .int .i64 k, .int .i64 s, .int .i64 c] 45) (by simp)) (Gr.alloc (Gr.refl _) _)
  have bz : Bx (((w).alloc (Obj.cells #[.int .i64 o, .int .i64 k, .int .i64 s, .int .i64 c] 45)).alloc (Obj.cells #[.int .i64 a, .int .i64 b, .int .i64 f, .int .i64 g] 45)) (w.heap.size + 1) [.int .i64 a, .int .i64 b, .int .i64 f, .int .i64 g] := Bx.gr (Bx.at_ (Bx.new ((w).alloc (Obj.cells #[.int .i64 o, .int .i64 k, .int .i64 s, .int .i64 c] 45)) [.int .i64 a, .int .i64 b, .int .i64 f, .int .i64 g] 45) (by simp)) (Gr.refl _)
  generalize ((w).alloc (Obj.cells #[.int .i64 o, .int .i64 k, .int .i64 s, .int .i64 c] 45)).alloc (Obj.cells #[.int .i64 a, .int .i64 b, .int .i64 f, .int .i64 g] 45) = W at g0 bx bz ⊢
  have S0 := Lib.hid g0
  have Kx0 := Lib.hid bx
  have Kz0 := Lib.hid bz
  clear g0 bx bz
  refine (awake10 _).mono ?_
  rintro e w1 ⟨rfl, hg⟩
  have S1 := Lib.hid (S0.out.trans hg)
  have Kx1 := Lib.hid (Kx0.out.gr hg)
  have Kz1 := Lib.hid (Kz0.out.gr hg)
  clear hg
  have cx0 := Kx1.out.c 0 _ rfl
  have cx1 := Kx1.out.c 1 _ rfl
  have cx2 := Kx1.out.c 2 _ rfl
  have cx3 := Kx1.out.c 3 _ rfl
  have lx := Kx1.out.lt
  have cz0 := Kz1.out.c 0 _ rfl
  have cz1 := Kz1.out.c 1 _ rfl
  have cz2 := Kz1.out.c 2 _ rfl
  have cz3 := Kz1.out.c 3 _ rfl
  have lz := Kz1.out.lt
  go_wp2_with fail
  all_goals (try clear cx0 cx1 cx2 cx3 lx cz0 cz1 cz2 cz3 lz)
  refine (Tck_ok o k s c _ HX'.out).mono ?_
  rintro e w2 ⟨rfl, hg⟩
  have S2 := Lib.hid (S1.out.trans hg)
  have Kx2 := Lib.hid (Kx1.out.gr hg)
  have Kz2 := Lib.hid (Kz1.out.gr hg)
  clear hg
  have cx0 := Kx2.out.c 0 _ rfl
  have cx1 := Kx2.out.c 1 _ rfl
  have cx2 := Kx2.out.c 2 _ rfl
  have cx3 := Kx2.out.c 3 _ rfl
  have lx := Kx2.out.lt
  have cz0 := Kz2.out.c 0 _ rfl
  have cz1 := Kz2.out.c 1 _ rfl
  have cz2 := Kz2.out.c 2 _ rfl
  have cz3 := Kz2.out.c 3 _ rfl
  have lz := Kz2.out.lt
  go_wp2_with fail
  all_goals (try clear cx0 cx1 cx2 cx3 lx cz0 cz1 cz2 cz3 lz)
  refine (Tck_no a b f g _ HZ.out).mono ?_
  rintro e w3 ⟨rfl, hg⟩
  have S3 := Lib.hid (S2.out.trans hg)
  have Kx3 := Lib.hid (Kx2.out.gr hg)
  have Kz3 := Lib.hid (Kz2.out.gr hg)
  clear hg
  have cx0 := Kx3.out.c 0 _ rfl
  have cx1 := Kx3.out.c 1 _ rfl
  have cx2 := Kx3.out.c 2 _ rfl
  have cx3 := Kx3.out.c 3 _ rfl
  have lx := Kx3.out.lt
  have cz0 := Kz3.out.c 0 _ rfl
  have cz1 := Kz3.out.c 1 _ rfl
  have cz2 := Kz3.out.c 2 _ rfl
  have cz3 := Kz3.out.c 3 _ rfl
  have lz := Kz3.out.lt
  go_wp2_with fail
  all_goals (try clear cx0 cx1 cx2 cx3 lx cz0 cz1 cz2 cz3 lz)
  all_goals go_ret
  all_goals exact ⟨rfl, S3.out⟩


theorem TimesyncMeets_walk (o k s c a b f g n : Int) (w : World) :
    Calls Try.prog 21 #[.agg #[.int .i64 o, .int .i64 k, .int .i64 s, .int .i64 c], .agg #[.int .i64 a, .int .i64 b, .int .i64 f, .int .i64 g], .int .i64 n] w fun e w' => e = .returned (.bool true) ∧ Gr w w' := by
  by_cases VX : Vs o k s c
  · by_cases VZ : Vs a b f g
    · cases (mp1_of VX : MP1 o k s c a b n) with
      | pE q hq q0 =>
        cases (mp2_of VX VZ : MP2 o k s c a b n) with
        | pE v2 hv2 v02 => exact TM_E_E o k s c a b f g n w VX VZ q hq q0 v2 hv2 v02
        | p0 hu2 hr2 => exact TM_E_0 o k s c a b f g n w VX VZ q hq q0 hu2 hr2
        | pok u2 hu2 hr2 u02 l2 hl2 hle2 j2 ha2 hj2 hut2 h2 m'2 hy2 hm'2 h02 h12 n12 => exact TM_E_ok o k s c a b f g n w VX VZ q hq q0 u2 hu2 hr2 u02 l2 hl2 hle2 j2 ha2 hj2 hut2 h2 m'2 hy2 hm'2 h02 h12 n12
        | pe u2 hu2 hr2 u02 l2 hl2 hle2 v2 ha2 v02 => exact TM_E_e o k s c a b f g n w VX VZ q hq q0 u2 hu2 hr2 u02 l2 hl2 hle2 v2 ha2 v02
      | p0 hs ht =>
        cases (mp2_of VX VZ : MP2 o k s c a b n) with
        | pE v2 hv2 v02 => exact TM_0_E o k s c a b f g n w VX VZ hs ht v2 hv2 v02
        | p0 hu2 hr2 => exact TM_0_0 o k s c a b f g n w VX VZ hs ht hu2 hr2
        | pok u2 hu2 hr2 u02 l2 hl2 hle2 j2 ha2 hj2 hut2 h2 m'2 hy2 hm'2 h02 h12 n12 => exact TM_0_ok o k s c a b f g n w VX VZ hs ht u2 hu2 hr2 u02 l2 hl2 hle2 j2 ha2 hj2 hut2 h2 m'2 hy2 hm'2 h02 h12 n12
        | pe u2 hu2 hr2 u02 l2 hl2 hle2 v2 ha2 v02 => exact TM_0_e o k s c a b f g n w VX VZ hs ht u2 hu2 hr2 u02 l2 hl2 hle2 v2 ha2 v02
      | pok t hs ht t0 i hh hi hit x m hx hm x0 x1 m1 =>
        cases (mp2_of VX VZ : MP2 o k s c a b n) with
        | pE v2 hv2 v02 => exact TM_ok_E o k s c a b f g n w VX VZ t hs ht t0 i hh hi hit x m hx hm x0 x1 m1 v2 hv2 v02
        | p0 hu2 hr2 => exact TM_ok_0 o k s c a b f g n w VX VZ t hs ht t0 i hh hi hit x m hx hm x0 x1 m1 hu2 hr2
        | pok u2 hu2 hr2 u02 l2 hl2 hle2 j2 ha2 hj2 hut2 h2 m'2 hy2 hm'2 h02 h12 n12 => exact TM_ok_ok o k s c a b f g n w VX VZ t hs ht t0 i hh hi hit x m hx hm x0 x1 m1 u2 hu2 hr2 u02 l2 hl2 hle2 j2 ha2 hj2 hut2 h2 m'2 hy2 hm'2 h02 h12 n12
        | pe u2 hu2 hr2 u02 l2 hl2 hle2 v2 ha2 v02 => exact TM_ok_e o k s c a b f g n w VX VZ t hs ht t0 i hh hi hit x m hx hm x0 x1 m1 u2 hu2 hr2 u02 l2 hl2 hle2 v2 ha2 v02
      | pe5 t hs ht t0 hh =>
        cases (mp2_of VX VZ : MP2 o k s c a b n) with
        | pE v2 hv2 v02 => exact TM_e5_E o k s c a b f g n w VX VZ t hs ht t0 hh v2 hv2 v02
        | p0 hu2 hr2 => exact TM_e5_0 o k s c a b f g n w VX VZ t hs ht t0 hh hu2 hr2
        | pok u2 hu2 hr2 u02 l2 hl2 hle2 j2 ha2 hj2 hut2 h2 m'2 hy2 hm'2 h02 h12 n12 => exact TM_e5_ok o k s c a b f g n w VX VZ t hs ht t0 hh u2 hu2 hr2 u02 l2 hl2 hle2 j2 ha2 hj2 hut2 h2 m'2 hy2 hm'2 h02 h12 n12
        | pe u2 hu2 hr2 u02 l2 hl2 hle2 v2 ha2 v02 => exact TM_e5_e o k s c a b f g n w VX VZ t hs ht t0 hh u2 hu2 hr2 u02 l2 hl2 hle2 v2 ha2 v02
      | pe15 t hs ht t0 hh =>
        cases (mp2_of VX VZ : MP2 o k s c a b n) with
        | pE v2 hv2 v02 => exact TM_e15_E o k s c a b f g n w VX VZ t hs ht t0 hh v2 hv2 v02
        | p0 hu2 hr2 => exact TM_e15_0 o k s c a b f g n w VX VZ t hs ht t0 hh hu2 hr2
        | pok u2 hu2 hr2 u02 l2 hl2 hle2 j2 ha2 hj2 hut2 h2 m'2 hy2 hm'2 h02 h12 n12 => exact TM_e15_ok o k s c a b f g n w VX VZ t hs ht t0 hh u2 hu2 hr2 u02 l2 hl2 hle2 j2 ha2 hj2 hut2 h2 m'2 hy2 hm'2 h02 h12 n12
        | pe u2 hu2 hr2 u02 l2 hl2 hle2 v2 ha2 v02 => exact TM_e15_e o k s c a b f g n w VX VZ t hs ht t0 hh u2 hu2 hr2 u02 l2 hl2 hle2 v2 ha2 v02
      | pe13 t hs ht t0 hh =>
        cases (mp2_of VX VZ : MP2 o k s c a b n) with
        | pE v2 hv2 v02 => exact TM_e13_E o k s c a b f g n w VX VZ t hs ht t0 hh v2 hv2 v02
        | p0 hu2 hr2 => exact TM_e13_0 o k s c a b f g n w VX VZ t hs ht t0 hh hu2 hr2
        | pok u2 hu2 hr2 u02 l2 hl2 hle2 j2 ha2 hj2 hut2 h2 m'2 hy2 hm'2 h02 h12 n12 => exact TM_e13_ok o k s c a b f g n w VX VZ t hs ht t0 hh u2 hu2 hr2 u02 l2 hl2 hle2 j2 ha2 hj2 hut2 h2 m'2 hy2 hm'2 h02 h12 n12
        | pe u2 hu2 hr2 u02 l2 hl2 hle2 v2 ha2 v02 => exact TM_e13_e o k s c a b f g n w VX VZ t hs ht t0 hh u2 hu2 hr2 u02 l2 hl2 hle2 v2 ha2 v02
      | pe1 t hs ht t0 hh =>
        cases (mp2_of VX VZ : MP2 o k s c a b n) with
        | pE v2 hv2 v02 => exact TM_e1_E o k s c a b f g n w VX VZ t hs ht t0 hh v2 hv2 v02
        | p0 hu2 hr2 => exact TM_e1_0 o k s c a b f g n w VX VZ t hs ht t0 hh hu2 hr2
        | pok u2 hu2 hr2 u02 l2 hl2 hle2 j2 ha2 hj2 hut2 h2 m'2 hy2 hm'2 h02 h12 n12 => exact TM_e1_ok o k s c a b f g n w VX VZ t hs ht t0 hh u2 hu2 hr2 u02 l2 hl2 hle2 j2 ha2 hj2 hut2 h2 m'2 hy2 hm'2 h02 h12 n12
        | pe u2 hu2 hr2 u02 l2 hl2 hle2 v2 ha2 v02 => exact TM_e1_e o k s c a b f g n w VX VZ t hs ht t0 hh u2 hu2 hr2 u02 l2 hl2 hle2 v2 ha2 v02
    · exact TM_n2 o k s c a b f g n w VX VZ
  · exact TM_n1 o k s c a b f g n w VX
set_option maxRecDepth 100000 in
set_option maxHeartbeats 1000000 in
theorem TimesyncMeets_lifted (os : Os) (started : os.Started) (H : Type) (enc : TypeId × Value → H) :
    ReturnsInHanded {} Try.checked os 21 .any (Rows.timesyncMeetsSpec.pre6 enc Try.prog Try.f21 Rows.timesyncMeetsRow.domain false) (Rows.timesyncMeetsSpec.post enc Try.prog Try.f21 false true false false) := by
  refine returnsInHanded_of_change (C := Try.checked) Try.own started (by kernel_rfl) Try.func21
    (ChangeSpec.witness6 (enc := enc) (C := Try.checked) false ⟨#[], #[.agg #[.int .i64 0, .int .i64 0, .int .i64 0, .int .i64 0], .agg #[.int .i64 0, .int .i64 0, .int .i64 0, .int .i64 0], .int .i64 0], []⟩ 8 (by kernel_rfl) (by kernel_rfl) (by kernel_rfl) (by kernel_rfl)) ?_
  intro W base args ds gs before hval0 hW hcnd _
  have hval : ∀ (j : Nat) t v, Try.f21.params[j]? = some t → args[j]? = some v → Value.okWide Try.prog W .any base t v := hval0
  have hW' := hW
  obtain ⟨p, q, hA0, hV, rfl, hfz, hnd⟩ := hW
  have hA : DataW.TrodAll enc Try.prog W 0 (fun _ => true) true Try.f21.params.toList args.toList ds p := hA0
  rw [Try.params21] at hA hval
  have hAk := hA
  obtain ⟨v0, vs0, d0, ds0, p0, q0, hargs, rfl, rfl, h0, r0⟩ := trodAll_cons hA
  obtain ⟨v1, vs1, d1, ds1, p1, q1, rfl, rfl, rfl, h1, r1⟩ := trodAll_cons r0
  obtain ⟨v2, vs2, d2, ds2, p2, q2, rfl, rfl, rfl, h2, r2⟩ := trodAll_cons r1
  obtain ⟨rfl, rfl, rfl⟩ := trodAll_nil r2
  obtain rfl : args = #[v0, v1, v2] := by cases args; simp_all
  obtain ⟨rfl, rfl⟩ := trodVars_none hV
  obtain ⟨o, k, s, c, rfl, wfo, wfk, wfs, wfc⟩ := open_synced (hval 0 45 v0 rfl rfl) h0
  obtain ⟨a, b, f, g, rfl, wfa, wfb, wff, wfg⟩ := open_synced (hval 1 45 v1 rfl rfl) h1
  obtain ⟨n, rfl, rfl, rfl, wfn⟩ := open_int Try.underlying3 (hval 2 3 v2 rfl rfl) h2
  clear hA0 hval0
  simp only [List.append_nil] at hW'
  refine (TimesyncMeets_walk o k s c a b f g n W).mono fun e W' ⟨he, hg⟩ => ?_
  subst he
  have hb : Below W.heap.size W W' := hg
  exact ⟨_, rfl, _, _, _, [], _, [], hW', trodAll_mk1 (shut_bool Try.underlying4 _), trodAll_stays Try.laidOut hb _ _ _ _ (by intro t ht; simp at ht; rcases ht with rfl | rfl | rfl <;> exact ⟨by kernel_rfl, of_decide_eq_true (by kernel_rfl)⟩) hAk (fun x hx => by simpa using hW'.lt x (by simpa using hx)), rfl, hb.frame _, fun h => by cases h⟩

theorem TimesyncMeets_closed : joinedFacts Try.pinned.checked.prog 21 Try.f21 Rows.timesyncMeetsSpec Rows.timesyncMeetsRow = true := by
  unfold joinedFacts
  exact (and_tt (and_tt (and_tt (and_tt (and_tt (and_tt (and_tt (and_tt (and_tt (and_tt (and_tt (and_tt (and_tt (and_tt (and_tt (and_tt (and_tt (and_tt (and_tt (and_tt (and_tt (and_tt (and_tt (and_tt (and_tt (and_tt (and_tt (and_tt (and_tt (and_tt (and_tt (by as_aux_lemma => kernel_rfl) (J_laid)) (J_maps)) (by as_aux_lemma => kernel_rfl)) (by as_aux_lemma => kernel_rfl)) (by as_aux_lemma => kernel_rfl)) (J_stops)) (by as_aux_lemma => kernel_rfl)) (J_knobs)) (by as_aux_lemma => kernel_rfl)) (by as_aux_lemma => kernel_rfl)) (by as_aux_lemma => kernel_rfl)) (by as_aux_lemma => kernel_rfl)) (by as_aux_lemma => kernel_rfl)) (by as_aux_lemma => kernel_rfl)) (by as_aux_lemma => kernel_rfl)) (by as_aux_lemma => kernel_rfl)) (by as_aux_lemma => kernel_rfl)) (by as_aux_lemma => kernel_rfl)) (by as_aux_lemma => kernel_rfl)) (by as_aux_lemma => kernel_rfl)) (by as_aux_lemma => kernel_rfl)) (J_keys)) (by as_aux_lemma => kernel_rfl)) (J_heard)) (J_enter)) (J_lifts)) (J_make)) (by as_aux_lemma => kernel_rfl)) (by as_aux_lemma => kernel_rfl)) (by as_aux_lemma => kernel_rfl)) (by as_aux_lemma => kernel_rfl))

/-- THE STATEMENT TimesyncMeets. -/
theorem TimesyncMeets_holds : Rows.TimesyncMeetsSaid :=
  OpenClaim.holds_of_wide 21 Try.f21 rfl rfl rfl rfl rfl rfl rfl ⟨rfl, rfl, rfl, rfl, rfl⟩ rfl rfl rfl rfl rfl (by kernel_rfl) Try.func21 TimesyncMeets_closed
    (of_decide_eq_true (by kernel_rfl)) (by unfold Func.isWrapper; rw [if_neg (of_decide_eq_false (by kernel_rfl))]; exact ⟨rfl, rfl⟩)
    (fun os started H enc _ => TimesyncMeets_lifted os started H enc)
#print axioms TimesyncMeets_holds
end Go.Proofs.Ytpnigndobhbfnaa
