/- The walks of package guard, first part: bounds, growth, length, step, spread. -/
import Derived.Test.YtpnigndobhbfnaaGMath
import Derived.Test.YtpnigndobhbfnaaBox
import Derived.Test.YtpnigndobhbfnaaClkE
namespace Go.Proofs.Ytpnigndobhbfnaa
open Go.RowKit
set_option maxHeartbeats 400000 in
theorem gin_t (n m : Int) (w : World) (h0 : 0 ≤ n) (h1 : n ≤ m) :
    Calls Try.prog 105 #[.int .i64 n, .int .i64 m] w fun e w' => e = .returned (.bool true) ∧ Gr w w' := by
  go_enter Try.func105, Try.ntmps105
  go_wp2
  go_ret
  first | exact ⟨rfl, Gr.refl _⟩ | exact ⟨congrArg (fun b => Ending.returned (.bool b)) (decide_eq_true (by omega)), Gr.refl _⟩

set_option maxHeartbeats 400000 in
theorem gin_f (n m : Int) (w : World) (hm : 0 ≤ m) (h : n < 0 ∨ m < n) :
    Calls Try.prog 105 #[.int .i64 n, .int .i64 m] w fun e w' => e = .returned (.bool false) ∧ Gr w w' := by
  rcases h with h | h
  all_goals
    go_enter Try.func105, Try.ntmps105
    go_wp2
    go_ret
    first | exact ⟨rfl, Gr.refl _⟩ | exact ⟨congrArg (fun b => Ending.returned (.bool b)) (decide_eq_false (by omega)), Gr.refl _⟩

set_option maxHeartbeats 400000 in
theorem gdrifts_t (n : Int) (w : World) (h0 : 0 ≤ n) (h1 : n ≤ 100000) :
    Calls Try.prog 111 #[.int .i64 n] w fun e w' => e = .returned (.bool true) ∧ Gr w w' := by
  go_enter Try.func111, Try.ntmps111
  go_wp2
  go_ret
  first | exact ⟨rfl, Gr.refl _⟩ | exact ⟨congrArg (fun b => Ending.returned (.bool b)) (decide_eq_true (by omega)), Gr.refl _⟩

set_option maxHeartbeats 400000 in
theorem gdrifts_f (n : Int) (w : World) (h : n < 0 ∨ 100000 < n) :
    Calls Try.prog 111 #[.int .i64 n] w fun e w' => e = .returned (.bool false) ∧ Gr w w' := by
  rcases h with h | h
  all_goals
    go_enter Try.func111, Try.ntmps111
    go_wp2
    go_ret
    first | exact ⟨rfl, Gr.refl _⟩ | exact ⟨congrArg (fun b => Ending.returned (.bool b)) (decide_eq_false (by omega)), Gr.refl _⟩

set_option maxHeartbeats 400000 in
theorem gslots_t (n : Int) (w : World) (h0 : 0 ≤ n) (h1 : n ≤ 4096) :
    Calls Try.prog 114 #[.int .i64 n] w fun e w' => e = .returned (.bool true) ∧ Gr w w' := by
  go_enter Try.func114, Try.ntmps114
  go_wp2
  go_ret
  first | exact ⟨rfl, Gr.refl _⟩ | exact ⟨congrArg (fun b => Ending.returned (.bool b)) (decide_eq_true (by omega)), Gr.refl _⟩

set_option maxHeartbeats 400000 in
theorem gslots_f (n : Int) (w : World) (h : n < 0 ∨ 4096 < n) :
    Calls Try.prog 114 #[.int .i64 n] w fun e w' => e = .returned (.bool false) ∧ Gr w w' := by
  rcases h with h | h
  all_goals
    go_enter Try.func114, Try.ntmps114
    go_wp2
    go_ret
    first | exact ⟨rfl, Gr.refl _⟩ | exact ⟨congrArg (fun b => Ending.returned (.bool b)) (decide_eq_false (by omega)), Gr.refl _⟩

set_option maxHeartbeats 400000 in
theorem right_t (a b k : Int) (w : World) (a0 : 0 ≤ a) (a1 : a ≤ 32) (b0 : 0 ≤ b) (b1 : b ≤ 32) (k0 : 0 ≤ k) (k1 : k ≤ 100000) :
    Calls Try.prog 104 #[.agg #[.int .i64 a, .int .i64 b, .int .i64 k]] w fun e w' => e = .returned (.bool true) ∧ Gr w w' := by
  go_enter Try.func104, Try.ntmps104
  go_wp2_with fail
  have g0 : Gr w ((w).alloc (Obj.cells #[.int .i64 a, .int .i64 b, .int .i64 k] 102)) := Gr.alloc (Gr.refl w) _
  have bx : Bx ((w).alloc (Obj.cells #[.int .i64 a, .int .i64 b, .int .i64 k] 102)) (w.heap.size) [.int .i64 a, .int .i64 b, .int .i64 k] := Bx.gr (Bx.at_ (Bx.new (w) [.int .i64 a, .int .i64 b, .int .i64 k] 102) (by simp)) (Gr.refl _)
  generalize (w).alloc (Obj.cells #[.int .i64 a, .int .i64 b, .int .i64 k] 102) = W at g0 bx ⊢
  have S0 := Lib.hid g0
  have Kx0 := Lib.hid bx
  clear g0 bx
  refine (gin_t a 32 _ a0 a1).mono ?_
  rintro e w1 ⟨rfl, hg⟩
  have S1 := Lib.hid (S0.out.trans hg)
  have Kx1 := Lib.hid (Kx0.out.gr hg)
  clear hg
  have cx0 := Kx1.out.c 0 _ rfl
  have cx1 := Kx1.out.c 1 _ rfl
  have cx2 := Kx1.out.c 2 _ rfl
  have lx := Kx1.out.lt
  go_wp2_with fail
  all_goals (try clear cx0 cx1 cx2 lx)
  refine (gin_t b 32 _ b0 b1).mono ?_
  rintro e w2 ⟨rfl, hg⟩
  have S2 := Lib.hid (S1.out.trans hg)
  have Kx2 := Lib.hid (Kx1.out.gr hg)
  clear hg
  have cx0 := Kx2.out.c 0 _ rfl
  have cx1 := Kx2.out.c 1 _ rfl
  have cx2 := Kx2.out.c 2 _ rfl
  have lx := Kx2.out.lt
  go_wp2_with fail
  all_goals (try clear cx0 cx1 cx2 lx)
  refine (gin_t k 100000 _ k0 k1).mono ?_
  rintro e w3 ⟨rfl, hg⟩
  have S3 := Lib.hid (S2.out.trans hg)
  have Kx3 := Lib.hid (Kx2.out.gr hg)
  clear hg
  have cx0 := Kx3.out.c 0 _ rfl
  have cx1 := Kx3.out.c 1 _ rfl
  have cx2 := Kx3.out.c 2 _ rfl
  have lx := Kx3.out.lt
  go_wp2_with fail
  all_goals (try clear cx0 cx1 cx2 lx)
  all_goals go_ret
  all_goals exact ⟨rfl, S3.out⟩


set_option maxHeartbeats 400000 in
theorem right_f1 (a b k : Int) (w : World) (h : a < 0 ∨ 32 < a) :
    Calls Try.prog 104 #[.agg #[.int .i64 a, .int .i64 b, .int .i64 k]] w fun e w' => e = .returned (.bool false) ∧ Gr w w' := by
  go_enter Try.func104, Try.ntmps104
  go_wp2_with fail
  have g0 : Gr w ((w).alloc (Obj.cells #[.int .i64 a, .int .i64 b, .int .i64 k] 102)) := Gr.alloc (Gr.refl w) _
  have bx : Bx ((w).alloc (Obj.cells #[.int .i64 a, .int .i64 b, .int .i64 k] 102)) (w.heap.size) [.int .i64 a, .int .i64 b, .int .i64 k] := Bx.gr (Bx.at_ (Bx.new (w) [.int .i64 a, .int .i64 b, .int .i64 k] 102) (by simp)) (Gr.refl _)
  generalize (w).alloc (Obj.cells #[.int .i64 a, .int .i64 b, .int .i64 k] 102) = W at g0 bx ⊢
  have S0 := Lib.hid g0
  have Kx0 := Lib.hid bx
  clear g0 bx
  refine (gin_f a 32 _ (by omega) h).mono ?_
  rintro e w1 ⟨rfl, hg⟩
  have S1 := Lib.hid (S0.out.trans hg)
  have Kx1 := Lib.hid (Kx0.out.gr hg)
  clear hg
  have cx0 := Kx1.out.c 0 _ rfl
  have cx1 := Kx1.out.c 1 _ rfl
  have cx2 := Kx1.out.c 2 _ rfl
  have lx := Kx1.out.lt
  go_wp2_with fail
  all_goals (try clear cx0 cx1 cx2 lx)
  all_goals go_ret
  all_goals exact ⟨rfl, S1.out⟩


set_option maxHeartbeats 400000 in
theorem right_f2 (a b k : Int) (w : World) (a0 : 0 ≤ a) (a1 : a ≤ 32) (h : b < 0 ∨ 32 < b) :
    Calls Try.prog 104 #[.agg #[.int .i64 a, .int .i64 b, .int .i64 k]] w fun e w' => e = .returned (.bool false) ∧ Gr w w' := by
  go_enter Try.func104, Try.ntmps104
  go_wp2_with fail
  have g0 : Gr w ((w).alloc (Obj.cells #[.int .i64 a, .int .i64 b, .int .i64 k] 102)) := Gr.alloc (Gr.refl w) _
  have bx : Bx ((w).alloc (Obj.cells #[.int .i64 a, .int .i64 b, .int .i64 k] 102)) (w.heap.size) [.int .i64 a, .int .i64 b, .int .i64 k] := Bx.gr (Bx.at_ (Bx.new (w) [.int .i64 a, .int .i64 b, .int .i64 k] 102) (by simp)) (Gr.refl _)
  generalize (w).alloc (Obj.cells #[.int .i64 a, .int .i64 b, .int .i64 k] 102) = W at g0 bx ⊢
  have S0 := Lib.hid g0
  have Kx0 := Lib.hid bx
  clear g0 bx
  refine (gin_t a 32 _ a0 a1).mono ?_
  rintro e w1 ⟨rfl, hg⟩
  have S1 := Lib.hid (S0.out.trans hg)
  have Kx1 := Lib.hid (Kx0.out.gr hg)
  clear hg
  have cx0 := Kx1.out.c 0 _ rfl
  have cx1 := Kx1.out.c 1 _ rfl
  have cx2 := Kx1.out.c 2 _ rfl
  have lx := Kx1.out.lt
  go_wp2_with fail
  all_goals (try clear cx0 cx1 cx2 lx)
  refine (gin_f b 32 _ (by omega) h).mono ?_
  rintro e w2 ⟨rfl, hg⟩
  have S2 := Lib.hid (S1.out.trans hg)
  have Kx2 := Lib.hid (Kx1.out.gr hg)
  clear hg
  have cx0 := Kx2.out.c 0 _ rfl
  have cx1 := Kx2.out.c 1 _ rfl
  have cx2 := Kx2.out.c 2 _ rfl
  have lx := Kx2.out.lt
  go_wp2_with fail
  all_goals (try clear cx0 cx1 cx2 lx)
  all_goals go_ret
  all_goals exact ⟨rfl, S2.out⟩


set_option maxHeartbeats 400000 in
theorem right_f3 (a b k : Int) (w : World) (a0 : 0 ≤ a) (a1 : a ≤ 32) (b0 : 0 ≤ b) (b1 : b ≤ 32) (h : k < 0 ∨ 100000 < k) :
    Calls Try.prog 104 #[.agg #[.int .i64 a, .int .i64 b, .int .i64 k]] w fun e w' => e = .returned (.bool false) ∧ Gr w w' := by
  go_enter Try.func104, Try.ntmps104
  go_wp2_with fail
  have g0 : Gr w ((w).alloc (Obj.cells #[.int .i64 a, .int .i64 b, .int .i64 k] 102)) := Gr.alloc (Gr.refl w) _
  have bx : Bx ((w).alloc (Obj.cells #[.int .i64 a, .int .i64 b, .int .i64 k] 102)) (w.heap.size) [.int .i64 a, .int .i64 b, .int .i64 k] := Bx.gr (Bx.at_ (Bx.new (w) [.int .i64 a, .int .i64 b, .int .i64 k] 102) (by simp)) (Gr.refl _)
  generalize (w).alloc (Obj.cells #[.int .i64 a, .int .i64 b, .int .i64 k] 102) = W at g0 bx ⊢
  have S0 := Lib.hid g0
  have Kx0 := Lib.hid bx
  clear g0 bx
  refine (gin_t a 32 _ a0 a1).mono ?_
  rintro e w1 ⟨rfl, hg⟩
  have S1 := Lib.hid (S0.out.trans hg)
  have Kx1 := Lib.hid (Kx0.out.gr hg)
  clear hg
  have cx0 := Kx1.out.c 0 _ rfl
  have cx1 := Kx1.out.c 1 _ rfl
  have cx2 := Kx1.out.c 2 _ rfl
  have lx := Kx1.out.lt
  go_wp2_with fail
  all_goals (try clear cx0 cx1 cx2 lx)
  refine (gin_t b 32 _ b0 b1).mono ?_
  rintro e w2 ⟨rfl, hg⟩
  have S2 := Lib.hid (S1.out.trans hg)
  have Kx2 := Lib.hid (Kx1.out.gr hg)
  clear hg
  have cx0 := Kx2.out.c 0 _ rfl
  have cx1 := Kx2.out.c 1 _ rfl
  have cx2 := Kx2.out.c 2 _ rfl
  have lx := Kx2.out.lt
  go_wp2_with fail
  all_goals (try clear cx0 cx1 cx2 lx)
  refine (gin_f k 100000 _ (by omega) h).mono ?_
  rintro e w3 ⟨rfl, hg⟩
  have S3 := Lib.hid (S2.out.trans hg)
  have Kx3 := Lib.hid (Kx2.out.gr hg)
  clear hg
  have cx0 := Kx3.out.c 0 _ rfl
  have cx1 := Kx3.out.c 1 _ rfl
  have cx2 := Kx3.out.c 2 _ rfl
  have lx := Kx3.out.lt
  go_wp2_with fail
  all_goals (try clear cx0 cx1 cx2 lx)
  all_goals go_ret
  all_goals exact ⟨rfl, S3.out⟩


/-- Bounds that are in their ranges. -/
structure Rt (a b k : Int) : Prop where
  a0 : 0 ≤ a
  a1 : a ≤ 32
  b0 : 0 ≤ b
  b1 : b ≤ 32
  k0 : 0 ≤ k
  k1 : k ≤ 100000
instance (a b k : Int) : Decidable (Rt a b k) :=
  decidable_of_iff (0 ≤ a ∧ a ≤ 32 ∧ 0 ≤ b ∧ b ≤ 32 ∧ 0 ≤ k ∧ k ≤ 100000)
    ⟨fun ⟨h0, h1, h2, h3, h4, h5⟩ => ⟨h0, h1, h2, h3, h4, h5⟩, fun ⟨h0, h1, h2, h3, h4, h5⟩ => ⟨h0, h1, h2, h3, h4, h5⟩⟩
theorem right_ok (a b k : Int) (w : World) (h : Rt a b k) : Calls Try.prog 104 #[.agg #[.int .i64 a, .int .i64 b, .int .i64 k]] w fun e w' => e = .returned (.bool true) ∧ Gr w w' :=
  right_t a b k w h.a0 h.a1 h.b0 h.b1 h.k0 h.k1
theorem right_no (a b k : Int) (w : World) (h : ¬ Rt a b k) : Calls Try.prog 104 #[.agg #[.int .i64 a, .int .i64 b, .int .i64 k]] w fun e w' => e = .returned (.bool false) ∧ Gr w w' := by
  by_cases ha : 0 ≤ a ∧ a ≤ 32
  · by_cases hb : 0 ≤ b ∧ b ≤ 32
    · exact right_f3 a b k w ha.1 ha.2 hb.1 hb.2 (by
        by_cases hk : 0 ≤ k ∧ k ≤ 100000
        · exact absurd ⟨ha.1, ha.2, hb.1, hb.2, hk.1, hk.2⟩ h
        · omega)
    · exact right_f2 a b k w ha.1 ha.2 (by omega)
  · exact right_f1 a b k w (by omega)

set_option maxHeartbeats 400000 in
theorem growth_any (a b k t : Int) (w : World) (t0 : 0 ≤ t) (t1 : t ≤ 1099511627776) (k0 : 0 ≤ k) (k1 : k ≤ 100000) :
    Calls Try.prog 106 #[.agg #[.int .i64 a, .int .i64 b, .int .i64 k], .int .i64 t] w fun e w' => e = .returned (.int .i64 (gro t k)) ∧ Gr w w' := by
  have h := prod_bd t0 t1 k0 k1
  unfold gro
  go_enter Try.func106, Try.ntmps106
  go_wp2_with fail
  go_ret
  exact ⟨rfl, (Gr.refl _).alloc _⟩

set_option maxHeartbeats 400000 in
theorem length_any (a b k n : Int) (w : World) (n0 : 0 ≤ n) (n1 : n ≤ 4097) (k0 : 0 ≤ k) (k1 : k ≤ 100000) :
    Calls Try.prog 113 #[.agg #[.int .i64 a, .int .i64 b, .int .i64 k], .int .i64 n] w fun e w' => e = .returned (.int .i64 (len n k)) ∧ Gr w w' := by
  have hl := len_lo n0 k1
  have hh := len_hi n0 n1 k0 k1
  unfold len at *
  go_enter Try.func113, Try.ntmps113
  go_wp2_with fail
  go_ret
  exact ⟨rfl, (Gr.refl _).alloc _⟩

theorem keep3 {f : FuncId} {args : Array Value} {v v0 v1 v2 : Value} {w W : World} {B : Nat} (h : Calls Try.prog f args w fun e w' => e = .returned v ∧ Gr w w') (k : Bx W B [v0, v1, v2]) (hg : Hid (Gr W w)) :
    Calls Try.prog f args w fun e w' => e = .returned v ∧ w'.cell? ⟨B, 0, none⟩ = some v0 ∧ w'.cell? ⟨B, 1, none⟩ = some v1 ∧ w'.cell? ⟨B, 2, none⟩ = some v2 ∧ Hid (Gr W w') :=
  h.mono fun _ _ ⟨he, h⟩ =>
    let g := hg.out.trans h
    ⟨he, (k.gr g).c 0 _ rfl, (k.gr g).c 1 _ rfl, (k.gr g).c 2 _ rfl, g⟩

set_option maxHeartbeats 1000000 in
theorem step_any (a b k n : Int) (w : World) (n0 : 0 ≤ n) (n1 : n ≤ 4097) (k0 : 0 ≤ k) (k1 : k ≤ 100000) :
    Calls Try.prog 115 #[.agg #[.int .i64 a, .int .i64 b, .int .i64 k], .int .i64 n] w fun e w' => e = .returned (.int .i64 (stp n k)) ∧ Gr w w' := by
  have hs := stp_bd n0 n1 k0 k1
  have ll := len_lo n0 k1
  have lh := len_hi n0 n1 k0 k1
  have hg2 := gro_bd (t := len n k) (m := 40980000) (by omega) lh k0 k1
  go_enter Try.func115, Try.ntmps115
  go_wp2_with fail
  have g0 : Gr w ((w).alloc (Obj.cells #[.int .i64 a, .int .i64 b, .int .i64 k] 102)) := Gr.alloc (Gr.refl w) _
  have bx : Bx ((w).alloc (Obj.cells #[.int .i64 a, .int .i64 b, .int .i64 k] 102)) (w.heap.size) [.int .i64 a, .int .i64 b, .int .i64 k] := Bx.gr (Bx.at_ (Bx.new (w) [.int .i64 a, .int .i64 b, .int .i64 k] 102) (by simp)) (Gr.refl _)
  generalize (w).alloc (Obj.cells #[.int .i64 a, .int .i64 b, .int .i64 k] 102) = W at g0 bx ⊢
  have S0 := Lib.hid g0
  have Kx0 := Lib.hid bx
  clear g0 bx
  have cx0 := Kx0.out.c 0 _ rfl
  have cx1 := Kx0.out.c 1 _ rfl
  have cx2 := Kx0.out.c 2 _ rfl
  have lx := Kx0.out.lt
  have hw : IntKind.i64.wrap (1 + gro (len n k) k) = 1 + gro (len n k) k := by rw [IntKind.wrap_i64]; omega
  have gr0 := Lib.hid (Gr.refl W).drew
  go_region_held3 (fun Z => Z.cell? ⟨w.heap.size, 0, none⟩ = some (.int .i64 a) ∧ Z.cell? ⟨w.heap.size, 1, none⟩ = some (.int .i64 b) ∧ Z.cell? ⟨w.heap.size, 2, none⟩ = some (.int .i64 k) ∧ Hid (Gr W Z)) (first | exact ⟨‹_›, ‹_›, ‹_›, ‹_›⟩)
    (first
      | (go_at_call 113; refine (keep3 (length_any a b k n _ n0 n1 k0 k1) Kx0.out (by go_split_ands; assumption)).mono ?_; rintro e wz ⟨rfl, q0, q1, q2, q3⟩)
      | (go_at_call 106; refine (keep3 (growth_any a b k (len n k) _ (by omega) (by omega) k0 k1) Kx0.out (by go_split_ands; assumption)).mono ?_; rintro e wz ⟨rfl, q0, q1, q2, q3⟩))
  clear hw
  go_wp2
  go_ret
  exact ⟨rfl, S0.out.trans q3.out⟩

set_option maxHeartbeats 1000000 in
theorem spread_any (a b k n : Int) (w : World) (hr : Rt a b k) (n0 : 0 ≤ n) (n1 : n ≤ 4097) :
    Calls Try.prog 116 #[.agg #[.int .i64 a, .int .i64 b, .int .i64 k], .int .i64 n] w fun e w' => e = .returned (.int .i64 (spr a b n k)) ∧ Gr w w' := by
  have hs := stp_bd n0 n1 hr.k0 hr.k1
  have hp := spr_bd hr.a0 hr.a1 hr.b0 hr.b1 n0 n1 hr.k0 hr.k1
  have a0 := hr.a0
  have a1 := hr.a1
  have b0 := hr.b0
  have b1 := hr.b1
  unfold spr at *
  have HR := Lib.hid hr
  clear hr
  go_enter Try.func116, Try.ntmps116
  go_wp2_with fail
  have g0 : Gr w ((w).alloc (Obj.cells #[.int .i64 a, .int .i64 b, .int .i64 k] 102)) := Gr.alloc (Gr.refl w) _
  have bx : Bx ((w).alloc (Obj.cells #[.int .i64 a, .int .i64 b, .int .i64 k] 102)) (w.heap.size) [.int .i64 a, .int .i64 b, .int .i64 k] := Bx.gr (Bx.at_ (Bx.new (w) [.int .i64 a, .int .i64 b, .int .i64 k] 102) (by simp)) (Gr.refl _)
  generalize (w).alloc (Obj.cells #[.int .i64 a, .int .i64 b, .int .i64 k] 102) = W at g0 bx ⊢
  have S0 := Lib.hid g0
  have Kx0 := Lib.hid bx
  clear g0 bx
  have cx0 := Kx0.out.c 0 _ rfl
  have cx1 := Kx0.out.c 1 _ rfl
  have cx2 := Kx0.out.c 2 _ rfl
  have lx := Kx0.out.lt
  have hw0 : IntKind.i64.wrap (a + b) = a + b := by rw [IntKind.wrap_i64]; omega
  have hw : IntKind.i64.wrap ((a + b) * stp n k) = (a + b) * stp n k := by rw [IntKind.wrap_i64]; omega
  have gr0 := Lib.hid (Gr.refl W).drew
  go_region_held3 (fun Z => Z.cell? ⟨w.heap.size, 0, none⟩ = some (.int .i64 a) ∧ Z.cell? ⟨w.heap.size, 1, none⟩ = some (.int .i64 b) ∧ Z.cell? ⟨w.heap.size, 2, none⟩ = some (.int .i64 k) ∧ Hid (Gr W Z)) (first | exact ⟨‹_›, ‹_›, ‹_›, ‹_›⟩)
    (first
      | (go_at_call 115; refine (keep3 (step_any a b k n _ n0 n1 HR.out.k0 HR.out.k1) Kx0.out (by go_split_ands; assumption)).mono ?_; rintro e wz ⟨rfl, q0, q1, q2, q3⟩))
  clear hw hw0
  go_wp2
  go_ret
  exact ⟨rfl, S0.out.trans q3.out⟩

set_option maxHeartbeats 400000 in
theorem ofb_ok (a b k n v : Int) (g : Nat) (w : World) (eg : ∀ args w, (callFunc g args).run Try.prog w = .ok (.enter g args) w) (hr : Rt a b k) (n0 : 0 ≤ n) (n1 : n ≤ 4096)
    (hf : ∀ W : World, Calls Try.prog g #[.agg #[.int .i64 a, .int .i64 b, .int .i64 k], .int .i64 n] W fun e w' => e = .returned (.int .i64 v) ∧ Gr W w') :
    Calls Try.prog 112 #[.agg #[.int .i64 a, .int .i64 b, .int .i64 k], .func (.func g) #[.agg #[.int .i64 a, .int .i64 b, .int .i64 k]] #[], .int .i64 n] w fun e w' => e = .returned (.tuple #[.int .i64 v, .int .i64 0]) ∧ Gr w w' := by
  have HF := Lib.hid hf
  clear hf
  have HR := Lib.hid hr
  clear hr
  go_enter Try.func112, Try.ntmps112
  go_wp2_with fail
  have g0 : Gr w ((w).alloc (Obj.cells #[.int .i64 a, .int .i64 b, .int .i64 k] 102)) := Gr.alloc (Gr.refl w) _
  have bx : Bx ((w).alloc (Obj.cells #[.int .i64 a, .int .i64 b, .int .i64 k] 102)) (w.heap.size) [.int .i64 a, .int .i64 b, .int .i64 k] := Bx.gr (Bx.at_ (Bx.new (w) [.int .i64 a, .int .i64 b, .int .i64 k] 102) (by simp)) (Gr.refl _)
  generalize (w).alloc (Obj.cells #[.int .i64 a, .int .i64 b, .int .i64 k] 102) = W at g0 bx ⊢
  have S0 := Lib.hid g0
  have Kx0 := Lib.hid bx
  clear g0 bx
  refine (right_ok a b k _ HR.out).mono ?_
  rintro e w1 ⟨rfl, hg⟩
  have S1 := Lib.hid (S0.out.trans hg)
  have Kx1 := Lib.hid (Kx0.out.gr hg)
  clear hg
  have cx0 := Kx1.out.c 0 _ rfl
  have cx1 := Kx1.out.c 1 _ rfl
  have cx2 := Kx1.out.c 2 _ rfl
  have lx := Kx1.out.lt
  go_wp2_with fail
  all_goals (try clear cx0 cx1 cx2 lx)
  refine (gin_t n 4096 _ n0 n1).mono ?_
  rintro e w2 ⟨rfl, hg⟩
  have S2 := Lib.hid (S1.out.trans hg)
  have Kx2 := Lib.hid (Kx1.out.gr hg)
  clear hg
  have cx0 := Kx2.out.c 0 _ rfl
  have cx1 := Kx2.out.c 1 _ rfl
  have cx2 := Kx2.out.c 2 _ rfl
  have lx := Kx2.out.lt
  go_wp2_with fail
  all_goals (try clear cx0 cx1 cx2 lx)
  refine (HF.out _).mono ?_
  rintro e w3 ⟨rfl, hg⟩
  have S3 := Lib.hid (S2.out.trans hg)
  have Kx3 := Lib.hid (Kx2.out.gr hg)
  clear hg
  have cx0 := Kx3.out.c 0 _ rfl
  have cx1 := Kx3.out.c 1 _ rfl
  have cx2 := Kx3.out.c 2 _ rfl
  have lx := Kx3.out.lt
  go_wp2_with fail
  all_goals (try clear cx0 cx1 cx2 lx)
  all_goals go_ret2
  all_goals exact ⟨rfl, S3.out⟩

set_option maxHeartbeats 400000 in
theorem ofb_no1 (a b k n : Int) (w : World) (fv : Value) (hr : ¬ Rt a b k) :
    Calls Try.prog 112 #[.agg #[.int .i64 a, .int .i64 b, .int .i64 k], fv, .int .i64 n] w fun e w' => e = .returned (.tuple #[.int .i64 0, .int .i64 2]) ∧ Gr w w' := by
  have HR := Lib.hid hr
  clear hr
  go_enter Try.func112, Try.ntmps112
  go_wp2_with fail
  have g0 : Gr w ((w).alloc (Obj.cells #[.int .i64 a, .int .i64 b, .int .i64 k] 102)) := Gr.alloc (Gr.refl w) _
  have bx : Bx ((w).alloc (Obj.cells #[.int .i64 a, .int .i64 b, .int .i64 k] 102)) (w.heap.size) [.int .i64 a, .int .i64 b, .int .i64 k] := Bx.gr (Bx.at_ (Bx.new (w) [.int .i64 a, .int .i64 b, .int .i64 k] 102) (by simp)) (Gr.refl _)
  generalize (w).alloc (Obj.cells #[.int .i64 a, .int .i64 b, .int .i64 k] 102) = W at g0 bx ⊢
  have S0 := Lib.hid g0
  have Kx0 := Lib.hid bx
  clear g0 bx
  refine (right_no a b k _ HR.out).mono ?_
  rintro e w1 ⟨rfl, hg⟩
  have S1 := Lib.hid (S0.out.trans hg)
  have Kx1 := Lib.hid (Kx0.out.gr hg)
  clear hg
  have cx0 := Kx1.out.c 0 _ rfl
  have cx1 := Kx1.out.c 1 _ rfl
  have cx2 := Kx1.out.c 2 _ rfl
  have lx := Kx1.out.lt
  go_wp2_with fail
  all_goals (try clear cx0 cx1 cx2 lx)
  all_goals go_ret2
  all_goals exact ⟨rfl, S1.out⟩


set_option maxHeartbeats 400000 in
theorem ofb_no2 (a b k n : Int) (w : World) (fv : Value) (hr : Rt a b k) (h : n < 0 ∨ 4096 < n) :
    Calls Try.prog 112 #[.agg #[.int .i64 a, .int .i64 b, .int .i64 k], fv, .int .i64 n] w fun e w' => e = .returned (.tuple #[.int .i64 0, .int .i64 2]) ∧ Gr w w' := by
  have HR := Lib.hid hr
  have H := Lib.hid h
  clear hr h
  go_enter Try.func112, Try.ntmps112
  go_wp2_with fail
  have g0 : Gr w ((w).alloc (Obj.cells #[.int .i64 a, .int .i64 b, .int .i64 k] 102)) := Gr.alloc (Gr.refl w) _
  have bx : Bx ((w).alloc (Obj.cells #[.int .i64 a, .int .i64 b, .int .i64 k] 102)) (w.heap.size) [.int .i64 a, .int .i64 b, .int .i64 k] := Bx.gr (Bx.at_ (Bx.new (w) [.int .i64 a, .int .i64 b, .int .i64 k] 102) (by simp)) (Gr.refl _)
  generalize (w).alloc (Obj.cells #[.int .i64 a, .int .i64 b, .int .i64 k] 102) = W at g0 bx ⊢
  have S0 := Lib.hid g0
  have Kx0 := Lib.hid bx
  clear g0 bx
  refine (right_ok a b k _ HR.out).mono ?_
  rintro e w1 ⟨rfl, hg⟩
  have S1 := Lib.hid (S0.out.trans hg)
  have Kx1 := Lib.hid (Kx0.out.gr hg)
  clear hg
  have cx0 := Kx1.out.c 0 _ rfl
  have cx1 := Kx1.out.c 1 _ rfl
  have cx2 := Kx1.out.c 2 _ rfl
  have lx := Kx1.out.lt
  go_wp2_with fail
  all_goals (try clear cx0 cx1 cx2 lx)
  refine (gin_f n 4096 _ (by omega) H.out).mono ?_
  rintro e w2 ⟨rfl, hg⟩
  have S2 := Lib.hid (S1.out.trans hg)
  have Kx2 := Lib.hid (Kx1.out.gr hg)
  clear hg
  have cx0 := Kx2.out.c 0 _ rfl
  have cx1 := Kx2.out.c 1 _ rfl
  have cx2 := Kx2.out.c 2 _ rfl
  have lx := Kx2.out.lt
  go_wp2_with fail
  all_goals (try clear cx0 cx1 cx2 lx)
  all_goals go_ret2
  all_goals exact ⟨rfl, S2.out⟩

end Go.Proofs.Ytpnigndobhbfnaa
