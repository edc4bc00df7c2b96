/- The walk of TimesyncSpreads: the guards, and where it ends early. -/
import Derived.Test.YtpnigndobhbfnaaTr
import Derived.Test.YtpnigndobhbfnaaMm
import Derived.Test.YtpnigndobhbfnaaAwake10
import Derived.Deep.RegionHeld3
import Derived.Deep.AppendLies
import Derived.BigQuiet
namespace Go.Proofs.Ytpnigndobhbfnaa
open Go.RowKit
theorem sc48 {b off : Nat} {w : World} {n c : Nat} {l : List Sy} (hc : ∀ j u, (Lv l)[j]? = some u → w.cell? ⟨b, off + j, none⟩ = some u) (lb : b < w.heap.size) : Sz w (.slice (some ⟨b, off, none⟩) n c) n (Lv l) := Or.inr ⟨b, off, c, rfl, lb, hc⟩
/-- Clone of states, with the whole of what an append asks. -/
theorem cl46r {b off n c : Nat} {l : List Sy} {w : World} (hc : ∀ j u, (Lv l)[j]? = some u → w.cell? ⟨b, off + j, none⟩ = some u) (lb : b < w.heap.size) (hl : l.length = n) (hn : n ≤ 1000) (W : World) (G : Gr w W) :
    Calls Try.prog 46 #[.slice (some ⟨b, off, none⟩) n c] W fun e w' => (∃ v', e = .returned v' ∧ w'.ownsRow W.heap.size 45 4 v' n (Lv l)) ∧ Gr W w' := by
  have := AnyE.slices_Clone Try.clone46 Try.i45 (.agg #[.int .i64 0, .int .i64 0, .int .i64 0, .int .i64 0]) 4 32 (by rw [cl46_t]; kernel_rfl) (by kernel_rfl) (by kernel_rfl) (by kernel_rfl) rfl (by decide) (by rw [cl46_t]; exact Try.sizeOf45) b off n c (Lv l) W (by rw [Lv_len, hl]) (by unfold maxLen; omega) (by omega) (fun j u hj => (G.cell lb _).trans (hc j u hj)) Lv_one
  rw [cl46_f, cl46_t] at this
  exact this.mono fun e w' ⟨v', he, ho, _, hb⟩ => ⟨⟨v', he, ho⟩, hb⟩
set_option maxRecDepth 20000 in
set_option maxHeartbeats 1000000 in
theorem TS_skip0 (a1 a0 : Option Addr) (n c1 m c0 : Nat) (slot later : Int) (w : World) (z : n < 2) :
    Calls Try.prog 10 #[.agg #[.slice a1 n c1, .slice a0 m c0], .int .i64 slot, .int .i64 later] w fun e w' => e = .returned (.bool true) ∧ Gr w w' := by
  have q0 : decide ((n : Int) < 2) = true := decide_eq_true (by omega)
  go_enter Try.func10, Try.ntmps10
  go_wp2_with fail
  have g0 : Gr w (w.alloc (Obj.cells #[.slice a1 n c1, .slice a0 m c0] 36)) := Gr.alloc (Gr.refl _) _
  have bx : Bx (w.alloc (Obj.cells #[.slice a1 n c1, .slice a0 m c0] 36)) w.heap.size [.slice a1 n c1, .slice a0 m c0] := Bx.new w _ 36
  generalize w.alloc (Obj.cells #[.slice a1 n c1, .slice a0 m c0] 36) = W0 at g0 bx ⊢
  generalize w.heap.size = xb at bx ⊢
  have S0 := Lib.hid g0
  have K0 := Lib.hid bx
  clear g0 bx
  refine (awake10 _).mono ?_
  rintro e w1 ⟨rfl, hg⟩
  have S1 := Lib.hid (S0.out.trans hg)
  have K1 := Lib.hid (K0.out.gr hg)
  clear hg
  have x0 := K1.out.c 0 _ rfl
  have x1 := K1.out.c 1 _ rfl
  go_wp2_with fail
  go_ret
  exact ⟨rfl, S1.out⟩
set_option maxRecDepth 20000 in
set_option maxHeartbeats 1000000 in
theorem TS_skip1 (a1 a0 : Option Addr) (n c1 m c0 : Nat) (slot later : Int) (w : World) (z : 6 < n) :
    Calls Try.prog 10 #[.agg #[.slice a1 n c1, .slice a0 m c0], .int .i64 slot, .int .i64 later] w fun e w' => e = .returned (.bool true) ∧ Gr w w' := by
  have q0 : decide ((n : Int) < 2) = false := decide_eq_false (by omega)
  have q1 : decide ((6 : Int) < (n : Int)) = true := decide_eq_true (by omega)
  go_enter Try.func10, Try.ntmps10
  go_wp2_with fail
  have g0 : Gr w (w.alloc (Obj.cells #[.slice a1 n c1, .slice a0 m c0] 36)) := Gr.alloc (Gr.refl _) _
  have bx : Bx (w.alloc (Obj.cells #[.slice a1 n c1, .slice a0 m c0] 36)) w.heap.size [.slice a1 n c1, .slice a0 m c0] := Bx.new w _ 36
  generalize w.alloc (Obj.cells #[.slice a1 n c1, .slice a0 m c0] 36) = W0 at g0 bx ⊢
  generalize w.heap.size = xb at bx ⊢
  have S0 := Lib.hid g0
  have K0 := Lib.hid bx
  clear g0 bx
  refine (awake10 _).mono ?_
  rintro e w1 ⟨rfl, hg⟩
  have S1 := Lib.hid (S0.out.trans hg)
  have K1 := Lib.hid (K0.out.gr hg)
  clear hg
  have x0 := K1.out.c 0 _ rfl
  have x1 := K1.out.c 1 _ rfl
  go_wp2_with fail
  go_ret
  exact ⟨rfl, S1.out⟩
set_option maxRecDepth 20000 in
set_option maxHeartbeats 1000000 in
theorem TS_skip2 (a1 a0 : Option Addr) (n c1 m c0 : Nat) (slot later : Int) (w : World) (y0 : 2 ≤ n) (y1 : n ≤ 6) (z : m ≠ n) :
    Calls Try.prog 10 #[.agg #[.slice a1 n c1, .slice a0 m c0], .int .i64 slot, .int .i64 later] w fun e w' => e = .returned (.bool true) ∧ Gr w w' := by
  have q0 : decide ((n : Int) < 2) = false := decide_eq_false (by omega)
  have q1 : decide ((6 : Int) < (n : Int)) = false := decide_eq_false (by omega)
  have q2 : ((m : Int) != (n : Int)) = true := by rw [bne_iff_ne]; omega
  go_enter Try.func10, Try.ntmps10
  go_wp2_with fail
  have g0 : Gr w (w.alloc (Obj.cells #[.slice a1 n c1, .slice a0 m c0] 36)) := Gr.alloc (Gr.refl _) _
  have bx : Bx (w.alloc (Obj.cells #[.slice a1 n c1, .slice a0 m c0] 36)) w.heap.size [.slice a1 n c1, .slice a0 m c0] := Bx.new w _ 36
  generalize w.alloc (Obj.cells #[.slice a1 n c1, .slice a0 m c0] 36) = W0 at g0 bx ⊢
  generalize w.heap.size = xb at bx ⊢
  have S0 := Lib.hid g0
  have K0 := Lib.hid bx
  clear g0 bx
  refine (awake10 _).mono ?_
  rintro e w1 ⟨rfl, hg⟩
  have S1 := Lib.hid (S0.out.trans hg)
  have K1 := Lib.hid (K0.out.gr hg)
  clear hg
  have x0 := K1.out.c 0 _ rfl
  have x1 := K1.out.c 1 _ rfl
  go_wp2_with fail
  go_ret
  exact ⟨rfl, S1.out⟩
set_option maxRecDepth 20000 in
set_option maxHeartbeats 1000000 in
theorem TS_skip3 (a1 a0 : Option Addr) (n c1 c0 : Nat) (slot later : Int) (w : World) (y0 : 2 ≤ n) (y1 : n ≤ 6) (z : slot < 0) :
    Calls Try.prog 10 #[.agg #[.slice a1 n c1, .slice a0 n c0], .int .i64 slot, .int .i64 later] w fun e w' => e = .returned (.bool true) ∧ Gr w w' := by
  have q0 : decide ((n : Int) < 2) = false := decide_eq_false (by omega)
  have q1 : decide ((6 : Int) < (n : Int)) = false := decide_eq_false (by omega)
  have q3 : decide (slot < 0) = true := decide_eq_true (by omega)
  go_enter Try.func10, Try.ntmps10
  go_wp2_with fail
  have g0 : Gr w (w.alloc (Obj.cells #[.slice a1 n c1, .slice a0 n c0] 36)) := Gr.alloc (Gr.refl _) _
  have bx : Bx (w.alloc (Obj.cells #[.slice a1 n c1, .slice a0 n c0] 36)) w.heap.size [.slice a1 n c1, .slice a0 n c0] := Bx.new w _ 36
  generalize w.alloc (Obj.cells #[.slice a1 n c1, .slice a0 n c0] 36) = W0 at g0 bx ⊢
  generalize w.heap.size = xb at bx ⊢
  have S0 := Lib.hid g0
  have K0 := Lib.hid bx
  clear g0 bx
  refine (awake10 _).mono ?_
  rintro e w1 ⟨rfl, hg⟩
  have S1 := Lib.hid (S0.out.trans hg)
  have K1 := Lib.hid (K0.out.gr hg)
  clear hg
  have x0 := K1.out.c 0 _ rfl
  have x1 := K1.out.c 1 _ rfl
  go_wp2_with fail
  go_ret
  exact ⟨rfl, S1.out⟩
set_option maxRecDepth 20000 in
set_option maxHeartbeats 1000000 in
theorem TS_skip4 (a1 a0 : Option Addr) (n c1 c0 : Nat) (slot later : Int) (w : World) (y0 : 2 ≤ n) (y1 : n ≤ 6) (z : 100000 < slot) :
    Calls Try.prog 10 #[.agg #[.slice a1 n c1, .slice a0 n c0], .int .i64 slot, .int .i64 later] w fun e w' => e = .returned (.bool true) ∧ Gr w w' := by
  have q0 : decide ((n : Int) < 2) = false := decide_eq_false (by omega)
  have q1 : decide ((6 : Int) < (n : Int)) = false := decide_eq_false (by omega)
  have q3 : decide (slot < 0) = false := decide_eq_false (by omega)
  have q4 : decide ((100000 : Int) < slot) = true := decide_eq_true (by omega)
  go_enter Try.func10, Try.ntmps10
  go_wp2_with fail
  have g0 : Gr w (w.alloc (Obj.cells #[.slice a1 n c1, .slice a0 n c0] 36)) := Gr.alloc (Gr.refl _) _
  have bx : Bx (w.alloc (Obj.cells #[.slice a1 n c1, .slice a0 n c0] 36)) w.heap.size [.slice a1 n c1, .slice a0 n c0] := Bx.new w _ 36
  generalize w.alloc (Obj.cells #[.slice a1 n c1, .slice a0 n c0] 36) = W0 at g0 bx ⊢
  generalize w.heap.size = xb at bx ⊢
  have S0 := Lib.hid g0
  have K0 := Lib.hid bx
  clear g0 bx
  refine (awake10 _).mono ?_
  rintro e w1 ⟨rfl, hg⟩
  have S1 := Lib.hid (S0.out.trans hg)
  have K1 := Lib.hid (K0.out.gr hg)
  clear hg
  have x0 := K1.out.c 0 _ rfl
  have x1 := K1.out.c 1 _ rfl
  go_wp2_with fail
  go_ret
  exact ⟨rfl, S1.out⟩
set_option maxRecDepth 20000 in
set_option maxHeartbeats 1000000 in
theorem TS_skip5 (a1 a0 : Option Addr) (n c1 c0 : Nat) (slot later : Int) (w : World) (y0 : 2 ≤ n) (y1 : n ≤ 6) (y3 : 0 ≤ slot) (y4 : slot ≤ 100000) (z : later < 0) :
    Calls Try.prog 10 #[.agg #[.slice a1 n c1, .slice a0 n c0], .int .i64 slot, .int .i64 later] w fun e w' => e = .returned (.bool true) ∧ Gr w w' := by
  have q0 : decide ((n : Int) < 2) = false := decide_eq_false (by omega)
  have q1 : decide ((6 : Int) < (n : Int)) = false := decide_eq_false (by omega)
  have q3 : decide (slot < 0) = false := decide_eq_false (by omega)
  have q4 : decide ((100000 : Int) < slot) = false := decide_eq_false (by omega)
  have q5 : decide (later < 0) = true := decide_eq_true (by omega)
  go_enter Try.func10, Try.ntmps10
  go_wp2_with fail
  have g0 : Gr w (w.alloc (Obj.cells #[.slice a1 n c1, .slice a0 n c0] 36)) := Gr.alloc (Gr.refl _) _
  have bx : Bx (w.alloc (Obj.cells #[.slice a1 n c1, .slice a0 n c0] 36)) w.heap.size [.slice a1 n c1, .slice a0 n c0] := Bx.new w _ 36
  generalize w.alloc (Obj.cells #[.slice a1 n c1, .slice a0 n c0] 36) = W0 at g0 bx ⊢
  generalize w.heap.size = xb at bx ⊢
  have S0 := Lib.hid g0
  have K0 := Lib.hid bx
  clear g0 bx
  refine (awake10 _).mono ?_
  rintro e w1 ⟨rfl, hg⟩
  have S1 := Lib.hid (S0.out.trans hg)
  have K1 := Lib.hid (K0.out.gr hg)
  clear hg
  have x0 := K1.out.c 0 _ rfl
  have x1 := K1.out.c 1 _ rfl
  go_wp2_with fail
  go_ret
  exact ⟨rfl, S1.out⟩
set_option maxRecDepth 20000 in
set_option maxHeartbeats 1000000 in
theorem TS_skip6 (a1 a0 : Option Addr) (n c1 c0 : Nat) (slot later : Int) (w : World) (y0 : 2 ≤ n) (y1 : n ≤ 6) (y3 : 0 ≤ slot) (y4 : slot ≤ 100000) (z : 100000000 < later) :
    Calls Try.prog 10 #[.agg #[.slice a1 n c1, .slice a0 n c0], .int .i64 slot, .int .i64 later] w fun e w' => e = .returned (.bool true) ∧ Gr w w' := by
  have q0 : decide ((n : Int) < 2) = false := decide_eq_false (by omega)
  have q1 : decide ((6 : Int) < (n : Int)) = false := decide_eq_false (by omega)
  have q3 : decide (slot < 0) = false := decide_eq_false (by omega)
  have q4 : decide ((100000 : Int) < slot) = false := decide_eq_false (by omega)
  have q5 : decide (later < 0) = false := decide_eq_false (by omega)
  have q6 : decide ((100000000 : Int) < later) = true := decide_eq_true (by omega)
  go_enter Try.func10, Try.ntmps10
  go_wp2_with fail
  have g0 : Gr w (w.alloc (Obj.cells #[.slice a1 n c1, .slice a0 n c0] 36)) := Gr.alloc (Gr.refl _) _
  have bx : Bx (w.alloc (Obj.cells #[.slice a1 n c1, .slice a0 n c0] 36)) w.heap.size [.slice a1 n c1, .slice a0 n c0] := Bx.new w _ 36
  generalize w.alloc (Obj.cells #[.slice a1 n c1, .slice a0 n c0] 36) = W0 at g0 bx ⊢
  generalize w.heap.size = xb at bx ⊢
  have S0 := Lib.hid g0
  have K0 := Lib.hid bx
  clear g0 bx
  refine (awake10 _).mono ?_
  rintro e w1 ⟨rfl, hg⟩
  have S1 := Lib.hid (S0.out.trans hg)
  have K1 := Lib.hid (K0.out.gr hg)
  clear hg
  have x0 := K1.out.c 0 _ rfl
  have x1 := K1.out.c 1 _ rfl
  go_wp2_with fail
  go_ret
  exact ⟨rfl, S1.out⟩
set_option maxRecDepth 20000 in
set_option maxHeartbeats 1000000 in
theorem TS_none (a1 a0 : Option Addr) (n c1 c0 : Nat) (zs : List Int) (slot later : Int) (w : World) (h0 : Sz w (.slice a0 n c0) n (ivs zs)) (hz : zs.length = n)
    (n2 : 2 ≤ n) (n6 : n ≤ 6) (s0 : 0 ≤ slot) (s1 : slot ≤ 100000) (l0 : 0 ≤ later) (l1 : later ≤ 100000000) (hd : dep zs = none) :
    Calls Try.prog 10 #[.agg #[.slice a1 n c1, .slice a0 n c0], .int .i64 slot, .int .i64 later] w fun e w' => e = .returned (.bool true) ∧ Gr w w' := by
  have hde : dpE zs = 1 := by unfold dpE; rw [hd]; rfl
  have hds : (dep zs).getD [] = [] := by rw [hd]; rfl
  have C43 := Lib.hid (cl43 h0 hz (by omega))
  have D42 := Lib.hid (dep42 hz hds hde)
  have q0 : decide ((n : Int) < 2) = false := decide_eq_false (by omega)
  have q1 : decide ((6 : Int) < (n : Int)) = false := decide_eq_false (by omega)
  have q3 : decide (slot < 0) = false := decide_eq_false (by omega)
  have q4 : decide ((100000 : Int) < slot) = false := decide_eq_false (by omega)
  have q5 : decide (later < 0) = false := decide_eq_false (by omega)
  have q6 : decide ((100000000 : Int) < later) = false := decide_eq_false (by omega)
  clear h0 hz hd hde hds
  go_enter Try.func10, Try.ntmps10
  go_wp2_with fail
  have g0 : Gr w (w.alloc (Obj.cells #[.slice a1 n c1, .slice a0 n c0] 36)) := Gr.alloc (Gr.refl _) _
  have bx : Bx (w.alloc (Obj.cells #[.slice a1 n c1, .slice a0 n c0] 36)) w.heap.size [.slice a1 n c1, .slice a0 n c0] := Bx.new w _ 36
  generalize w.alloc (Obj.cells #[.slice a1 n c1, .slice a0 n c0] 36) = W0 at g0 bx ⊢
  generalize w.heap.size = xb at bx ⊢
  have S0 := Lib.hid g0
  have K0 := Lib.hid bx
  clear g0 bx
  refine (awake10 _).mono ?_
  rintro e w1 ⟨rfl, hg⟩
  have S1 := Lib.hid (S0.out.trans hg)
  have K1 := Lib.hid (K0.out.gr hg)
  clear hg
  have x0 := K1.out.c 0 _ rfl
  have x1 := K1.out.c 1 _ rfl
  go_wp2_with fail
  refine (C43.out _ S1.out).mono ?_
  rintro e w2 ⟨⟨va, rfl, oa⟩, hg⟩
  have S2 := Lib.hid (S1.out.trans hg)
  have K2 := Lib.hid (K1.out.gr hg)
  have OA := Lib.hid oa
  clear hg oa x0 x1
  have x0 := K2.out.c 0 _ rfl
  have x1 := K2.out.c 1 _ rfl
  go_wp2_with fail
  refine (D42.out va _ OA.out.sz).mono ?_
  rintro e w3 ⟨⟨vb, rfl, ob⟩, hg⟩
  have S3 := Lib.hid (S2.out.trans hg)
  clear hg ob
  go_wp2_with fail
  go_ret
  exact ⟨rfl, S3.out⟩
set_option maxRecDepth 20000 in
set_option maxHeartbeats 1000000 in
theorem TS_unsorted (a1 a0 : Option Addr) (n c1 c0 : Nat) (zs : List Int) (slot later : Int) (w : World) (h0 : Sz w (.slice a0 n c0) n (ivs zs)) (hz : zs.length = n)
    (n2 : 2 ≤ n) (n6 : n ≤ 6) (s0 : 0 ≤ slot) (s1 : slot ≤ 100000) (l0 : 0 ≤ later) (l1 : later ≤ 100000000) (ds : List Nat) (hd : dep zs = some ds) (hs : ¬ Srt ds) :
    Calls Try.prog 10 #[.agg #[.slice a1 n c1, .slice a0 n c0], .int .i64 slot, .int .i64 later] w fun e w' => e = .returned (.bool true) ∧ Gr w w' := by
  have hde : dpE zs = 0 := by unfold dpE; rw [hd]; rfl
  have hds : (dep zs).getD [] = ds := by rw [hd]; rfl
  have hdl : ds.length = n := by rw [(dep_node hd).2.1, hz]
  have hdb : ∀ j, j < n → ds.getD j 0 ≤ 100 := fun j hj => by have := dep_bound hd (j := j) (by rw [hz]; exact hj); omega
  have C43 := Lib.hid (cl43 h0 hz (by omega))
  have D42 := Lib.hid (dep42 hz hds hde)
  have DL := Lib.hid hdl
  have DB := Lib.hid hdb
  have q0 : decide ((n : Int) < 2) = false := decide_eq_false (by omega)
  have q1 : decide ((6 : Int) < (n : Int)) = false := decide_eq_false (by omega)
  have q3 : decide (slot < 0) = false := decide_eq_false (by omega)
  have q4 : decide ((100000 : Int) < slot) = false := decide_eq_false (by omega)
  have q5 : decide (later < 0) = false := decide_eq_false (by omega)
  have q6 : decide ((100000000 : Int) < later) = false := decide_eq_false (by omega)
  have hsd : decide (Srt ds) = false := decide_eq_false hs
  clear h0 hz hd hde hds hdl hdb hs
  go_enter Try.func10, Try.ntmps10
  go_wp2_with fail
  have g0 : Gr w (w.alloc (Obj.cells #[.slice a1 n c1, .slice a0 n c0] 36)) := Gr.alloc (Gr.refl _) _
  have bx : Bx (w.alloc (Obj.cells #[.slice a1 n c1, .slice a0 n c0] 36)) w.heap.size [.slice a1 n c1, .slice a0 n c0] := Bx.new w _ 36
  generalize w.alloc (Obj.cells #[.slice a1 n c1, .slice a0 n c0] 36) = W0 at g0 bx ⊢
  generalize w.heap.size = xb at bx ⊢
  have S0 := Lib.hid g0
  have K0 := Lib.hid bx
  clear g0 bx
  refine (awake10 _).mono ?_
  rintro e w1 ⟨rfl, hg⟩
  have S1 := Lib.hid (S0.out.trans hg)
  have K1 := Lib.hid (K0.out.gr hg)
  clear hg
  have x0 := K1.out.c 0 _ rfl
  have x1 := K1.out.c 1 _ rfl
  go_wp2_with fail
  refine (C43.out _ S1.out).mono ?_
  rintro e w2 ⟨⟨va, rfl, oa⟩, hg⟩
  have S2 := Lib.hid (S1.out.trans hg)
  have K2 := Lib.hid (K1.out.gr hg)
  have OA := Lib.hid oa
  clear hg oa x0 x1
  have x0 := K2.out.c 0 _ rfl
  have x1 := K2.out.c 1 _ rfl
  go_wp2_with fail
  refine (D42.out va _ OA.out.sz).mono ?_
  rintro e w3 ⟨⟨vb, rfl, ob⟩, hg⟩
  have S3 := Lib.hid (S2.out.trans hg)
  have K3 := Lib.hid (K2.out.gr hg)
  obtain ⟨gd, cd, rfl, hbd⟩ : ∃ gd cd, vb = .slice (some ⟨gd, 0, none⟩) n cd ∧ Bx w3 gd (nvs ds) := by
    rcases ob with ⟨_, h, _⟩ | ⟨gd, cd, e, _, hb⟩
    · have := DL.out; omega
    · exact ⟨gd, cd, by rw [e, DL.out], hb⟩
  have BD := Lib.hid hbd
  clear hg ob OA hbd x0 x1
  have x0 := K3.out.c 0 _ rfl
  have x1 := K3.out.c 1 _ rfl
  go_wp2_with fail
  refine (Is53 gd cd n ds _ DL.out (by omega) (by omega) DB.out BD.out).mono ?_
  rintro e w4 ⟨rfl, hg⟩
  have S4 := Lib.hid (S3.out.trans hg)
  have K4 := Lib.hid (K3.out.gr hg)
  have BD4 := Lib.hid (BD.out.gr hg)
  clear hg BD x0 x1
  have x0 := K4.out.c 0 _ rfl
  have x1 := K4.out.c 1 _ rfl
  rw [hsd]
  go_wp2_with fail
  go_ret
  exact ⟨rfl, S4.out⟩
theorem stps_len {slot : Int} : ∀ (j k : Nat), (stps slot j k).length = k
  | _, 0 => rfl
  | j, k + 1 => by
    show (stps slot (j + 1) k).length + 1 = k + 1
    rw [stps_len]
set_option maxRecDepth 20000 in
set_option maxHeartbeats 8000000 in
theorem TS_er (a1 a0 : Option Addr) (n c1 c0 : Nat) (l : List Sy) (zs : List Int) (slot later : Int) (w : World) (h1 : Sz w (.slice a1 n c1) n (Lv l)) (hl : l.length = n) (h0 : Sz w (.slice a0 n c0) n (ivs zs)) (hz : zs.length = n)
    (n2 : 2 ≤ n) (n6 : n ≤ 6) (s0 : 0 ≤ slot) (s1 : slot ≤ 100000) (l0 : 0 ≤ later) (l1 : later ≤ 100000000) (ds : List Nat) (hd : dep zs = some ds) (hs : Srt ds) (rl : List Sy) (ri re : Int) (hr : runN l zs (stps slot 1 (n - 1)) = (rl, ri, re)) (he : re ≠ 0) :
    Calls Try.prog 10 #[.agg #[.slice a1 n c1, .slice a0 n c0], .int .i64 slot, .int .i64 later] w fun e w' => e = .returned (.bool true) ∧ Gr w w' := by
  have hde : dpE zs = 0 := by unfold dpE; rw [hd]; rfl
  have hds : (dep zs).getD [] = ds := by rw [hd]; rfl
  have hdl : ds.length = n := by rw [(dep_node hd).2.1, hz]
  have hdb : ∀ j, j < n → ds.getD j 0 ≤ 100 := fun j hj => by have := dep_bound hd (j := j) (by rw [hz]; exact hj); omega
  have C43 := Lib.hid (cl43 h0 hz (by omega))
  have D42 := Lib.hid (dep42 hz hds hde)
  have DL := Lib.hid hdl
  have DB := Lib.hid hdb
  have h48 : (Try.prog.info? 48).map (fun i => (i.zero, i.size, i.bytes)) = some (some (.agg #[.int .i64 0, .int .i64 0, .bool false]), 3, 24) := by kernel_rfl
  obtain ⟨i0, hi, hx⟩ := Option.map_eq_some_iff.1 h48
  simp only [Prod.mk.injEq] at hx
  obtain ⟨hz0, hz1, hz2⟩ := hx
  have HI := Lib.hid hi
  have HZ0 := Lib.hid hz0
  have HZ1 := Lib.hid hz1
  have HZ2 := Lib.hid hz2
  clear h48 hi hz0 hz1 hz2
  have h45 : (Try.prog.info? 45).map (fun i => (i.zero, i.size, i.bytes)) = some (some (.agg #[.int .i64 0, .int .i64 0, .int .i64 0, .int .i64 0]), 4, 32) := by kernel_rfl
  obtain ⟨j0, hi, hx⟩ := Option.map_eq_some_iff.1 h45
  simp only [Prod.mk.injEq] at hx
  obtain ⟨hz0, hz1, hz2⟩ := hx
  have JI := Lib.hid hi
  have JZ0 := Lib.hid hz0
  have JZ1 := Lib.hid hz1
  have JZ2 := Lib.hid hz2
  clear h45 hi hz0 hz1 hz2
  have hst : (stps slot 1 (n - 1)).length = n - 1 := stps_len _ _
  have C46 := Lib.hid (cl46 h1 hl (by omega))
  have R45 := Lib.hid (run45 hl hz hst (by omega) hr)
  have hsd : decide (Srt ds) = true := decide_eq_true hs
  have e9 : (re != 0) = true := by rw [bne_iff_ne]; exact he
  have HE := Lib.hid he
  clear h1 h0 hl hz hd hde hds hdl hdb hs hst hr he
  have q0 : decide ((n : Int) < 2) = false := decide_eq_false (by omega)
  have q1 : decide ((6 : Int) < (n : Int)) = false := decide_eq_false (by omega)
  have q3 : decide (slot < 0) = false := decide_eq_false (by omega)
  have q4 : decide ((100000 : Int) < slot) = false := decide_eq_false (by omega)
  have q5 : decide (later < 0) = false := decide_eq_false (by omega)
  have q6 : decide ((100000000 : Int) < later) = false := decide_eq_false (by omega)
  go_enter Try.func10, Try.ntmps10
  go_wp2_with fail
  have g0 : Gr w (w.alloc (Obj.cells #[.slice a1 n c1, .slice a0 n c0] 36)) := Gr.alloc (Gr.refl _) _
  have bx : Bx (w.alloc (Obj.cells #[.slice a1 n c1, .slice a0 n c0] 36)) w.heap.size [.slice a1 n c1, .slice a0 n c0] := Bx.new w _ 36
  generalize w.alloc (Obj.cells #[.slice a1 n c1, .slice a0 n c0] 36) = W0 at g0 bx ⊢
  generalize w.heap.size = xb at bx ⊢
  have S0 := Lib.hid g0
  have K0 := Lib.hid bx
  clear g0 bx
  refine (awake10 _).mono ?_
  rintro e w1 ⟨rfl, hg⟩
  have S1 := Lib.hid (S0.out.trans hg)
  have K1 := Lib.hid (K0.out.gr hg)
  clear hg
  have x0 := K1.out.c 0 _ rfl
  have x1 := K1.out.c 1 _ rfl
  go_wp2_with fail
  refine (C43.out _ S1.out).mono ?_
  rintro e w2 ⟨⟨va, rfl, oa⟩, hg⟩
  have S2 := Lib.hid (S1.out.trans hg)
  have K2 := Lib.hid (K1.out.gr hg)
  have OA := Lib.hid oa
  clear hg oa x0 x1
  have x0 := K2.out.c 0 _ rfl
  have x1 := K2.out.c 1 _ rfl
  go_wp2_with fail
  refine (D42.out va _ OA.out.sz).mono ?_
  rintro e w3 ⟨⟨vb, rfl, ob⟩, hg⟩
  have S3 := Lib.hid (S2.out.trans hg)
  have K3 := Lib.hid (K2.out.gr hg)
  obtain ⟨gd, cd, rfl, hbd⟩ : ∃ gd cd, vb = .slice (some ⟨gd, 0, none⟩) n cd ∧ Bx w3 gd (nvs ds) := by
    rcases ob with ⟨_, h, _⟩ | ⟨gd, cd, e, _, hb⟩
    · have := DL.out; omega
    · exact ⟨gd, cd, by rw [e, DL.out], hb⟩
  have BD := Lib.hid hbd
  clear hg ob OA hbd x0 x1
  have x0 := K3.out.c 0 _ rfl
  have x1 := K3.out.c 1 _ rfl
  go_wp2_with fail
  refine (Is53 gd cd n ds _ DL.out (by omega) (by omega) DB.out BD.out).mono ?_
  rintro e w4 ⟨rfl, hg⟩
  have S4 := Lib.hid (S3.out.trans hg)
  have K4 := Lib.hid (K3.out.gr hg)
  have BD4 := Lib.hid (BD.out.gr hg)
  clear hg BD x0 x1
  have x0 := K4.out.c 0 _ rfl
  have x1 := K4.out.c 1 _ rfl
  rw [hsd]
  clear hsd
  go_wp2_with fail
  go_loopg [10, 11] (n - 1) (fun g s10 s11 wr => ∃ i : Nat, 1 ≤ i ∧ i + g = n ∧ s11 = .int .i64 (i : Int) ∧ Hid (wr.ownsRow w4.heap.size 48 3 s10 (i - 1) (Lt (stps slot 1 (i - 1)))) ∧ Hid (Gr w4 wr))
  case atStart => exact ⟨1, Nat.le_refl _, by omega, rfl, Lib.hid (World.ownsRow_nil _ _ _ _), Lib.hid (Gr.refl _)⟩
  case round =>
    obtain ⟨i, hi1, hig, rfl, HO, SG⟩ := hrel
    cases gk with
    | succ g =>
      have e3 : decide ((i : Int) < (n : Int)) = true := decide_eq_true (by omega)
      have e4 : decide (i < n) = true := decide_eq_true (by omega)
      have hsn := stps_snoc (slot := slot) (i - 1) 1
      rw [show 1 + (i - 1) = i by omega, show i - 1 + 1 = i by omega] at hsn
      by_cases hp : i % 2 = 0
      · have hm : (i : Int).tmod 2 = 0 := by rw [Int.tmod_eq_emod_of_nonneg (by omega)]; omega
        rw [decide_eq_true hp] at hsn
        have HSN := Lib.hid hsn
        clear hsn
        go_wp2_with (at_builtin; refine wpList_append_own _ rfl _ _ 37 rfl w4.heap.size 48 i0 (.agg #[.int .i64 0, .int .i64 0, .bool false]) 3 24 Try.underlying37 HI.out HZ0.out HZ1.out HZ2.out rfl (by decide) _ _ _ rfl (HO.out.alloc _) ⟨wr.heap.size, 0, none⟩ 1 1 [.int .i64 (i : Int), .int .i64 slot, .bool true] rfl rfl ?c1 ?c2 ?c3 ?c4 ?c5 ?_)
        case c1 => intro j u hj; rw [Addr.add_lit, Nat.zero_add]; exact (Bx.new wr [.int .i64 (i : Int), .int .i64 slot, .bool true] 48).c j u hj
        case c2 =>
          intro u hu
          simp only [List.mem_cons, List.not_mem_nil, or_false] at hu
          rcases hu with rfl | rfl | rfl <;> rfl
        case c3 => unfold maxLen; omega
        case c4 => omega
        case c5 => exact Nat.le_trans SG.out.size (by simp)
        intro v' w5 hown hgrow _
        have HO1 : Hid (w5.ownsRow w4.heap.size 48 3 v' (i + 1 - 1) (Lt (stps slot 1 (i + 1 - 1)))) := Lib.hid (by
          rw [show i + 1 - 1 = i - 1 + 1 by omega, show i - 1 + 1 = i by omega, ← HSN.out]
          have e : Lt (stps slot 1 (i - 1) ++ [⟨(i : Int), slot, true⟩]) = Lt (stps slot 1 (i - 1)) ++ [.int .i64 (i : Int), .int .i64 slot, .bool true] := by
            unfold Lt; rw [List.flatMap_append]; rfl
          rw [e]
          exact hown)
        have SG1 : Hid (Gr w4 w5) := Lib.hid (Below.grown (SG.out.alloc _) hgrow (Nat.le_trans SG.out.size (by simp)) (fun k hk => (HO.out.lt k hk).1))
        clear hown hgrow hm HSN
        go_wp2_with fail
        go_roundg g
        case measure => omega
        case rel => exact ⟨i + 1, by omega, by omega, by go_num, HO1, SG1⟩
      · have hm : (i : Int).tmod 2 = 1 := by rw [Int.tmod_eq_emod_of_nonneg (by omega)]; omega
        rw [decide_eq_false hp] at hsn
        have HSN := Lib.hid hsn
        clear hsn
        go_wp2_with (at_builtin; refine wpList_append_own _ rfl _ _ 37 rfl w4.heap.size 48 i0 (.agg #[.int .i64 0, .int .i64 0, .bool false]) 3 24 Try.underlying37 HI.out HZ0.out HZ1.out HZ2.out rfl (by decide) _ _ _ rfl (HO.out.alloc _) ⟨wr.heap.size, 0, none⟩ 1 1 [.int .i64 (i : Int), .int .i64 slot, .bool false] rfl rfl ?c1 ?c2 ?c3 ?c4 ?c5 ?_)
        case c1 => intro j u hj; rw [Addr.add_lit, Nat.zero_add]; exact (Bx.new wr [.int .i64 (i : Int), .int .i64 slot, .bool false] 48).c j u hj
        case c2 =>
          intro u hu
          simp only [List.mem_cons, List.not_mem_nil, or_false] at hu
          rcases hu with rfl | rfl | rfl <;> rfl
        case c3 => unfold maxLen; omega
        case c4 => omega
        case c5 => exact Nat.le_trans SG.out.size (by simp)
        intro v' w5 hown hgrow _
        have HO1 : Hid (w5.ownsRow w4.heap.size 48 3 v' (i + 1 - 1) (Lt (stps slot 1 (i + 1 - 1)))) := Lib.hid (by
          rw [show i + 1 - 1 = i - 1 + 1 by omega, show i - 1 + 1 = i by omega, ← HSN.out]
          have e : Lt (stps slot 1 (i - 1) ++ [⟨(i : Int), slot, false⟩]) = Lt (stps slot 1 (i - 1)) ++ [.int .i64 (i : Int), .int .i64 slot, .bool false] := by
            unfold Lt; rw [List.flatMap_append]; rfl
          rw [e]
          exact hown)
        have SG1 : Hid (Gr w4 w5) := Lib.hid (Below.grown (SG.out.alloc _) hgrow (Nat.le_trans SG.out.size (by simp)) (fun k hk => (HO.out.lt k hk).1))
        clear hown hgrow hm HSN
        go_wp2_with fail
        go_roundg g
        case measure => omega
        case rel => exact ⟨i + 1, by omega, by omega, by go_num, HO1, SG1⟩
    | zero =>
      obtain rfl : i = n := by omega
      have e3 : decide ((i : Int) < (i : Int)) = false := decide_eq_false (by omega)
      have e4 : decide (i < i) = false := decide_eq_false (by omega)
      have K5 := Lib.hid (K4.out.gr SG.out)
      have S5 := Lib.hid (S4.out.trans SG.out)
      have HST : Hid (Sz wr u10 (i - 1) (Lt (stps slot 1 (i - 1)))) := Lib.hid (Ow.of_row HO.out).sz
      have BD5 := Lib.hid (BD4.out.gr SG.out)
      clear SG HO x0 x1 BD4
      have x0 := K5.out.c 0 _ rfl
      have x1 := K5.out.c 1 _ rfl
      go_wp2_with fail
      have HJ : Hid (∀ Z, Gr wr Z → (Z.cell? ⟨xb, 0, none⟩ = some (.slice a1 i c1) ∧ Z.cell? ⟨xb, 1, none⟩ = some (.slice a0 i c0) ∧ Hid (Gr wr Z))) := Lib.hid (fun Z G => ⟨(K5.out.gr G).c 0 _ rfl, (K5.out.gr G).c 1 _ rfl, Lib.hid G⟩)
      have gr0 := Lib.hid (Gr.refl wr).drew
      go_region_held3 (fun Z => Z.cell? ⟨xb, 0, none⟩ = some (.slice a1 i c1) ∧ Z.cell? ⟨xb, 1, none⟩ = some (.slice a0 i c0) ∧ Hid (Gr wr Z)) (first | exact HJ.out _ (by repeat (first | exact Gr.refl _ | exact Hid.out (by assumption) | apply Gr.drew)))
        (first
          | (go_at_call 46; refine (keepM _ HJ.out (C46.out _ (S5.out.trans (Hid.out (by assumption)))) (by assumption)).mono ?_; rintro e wa ⟨⟨va, rfl, oa⟩, ⟨qa0, qa1, qa⟩, ga⟩)
          | (go_at_call 43; refine (keepM _ HJ.out (C43.out _ (S5.out.trans (Hid.out (by assumption)))) (by assumption)).mono ?_; rintro e wb ⟨⟨vd, rfl, od⟩, ⟨qb0, qb1, qb⟩, gb⟩)
          | (go_at_call 45; refine (keepM _ HJ.out (R45.out va vd _ _ (oa.gr gb).ow.sz od.sz (HST.out.gr qb.out)) (by assumption)).mono ?_; rintro e w6 ⟨⟨vf, rfl, of, nf⟩, ⟨qd0, qd1, qd⟩, gd2⟩))
      have S6 := Lib.hid (S5.out.trans qd.out)
      have K6 := Lib.hid (K5.out.gr qd.out)
      have BD6 := Lib.hid (BD5.out.gr qd.out)
      have OF := Lib.hid of
      clear x0 x1 HJ gr0 oa ga qa0 qa1 qa od gb qb0 qb1 qb of gd2 qd0 qd1 qd K5 HST BD5
      obtain rfl := nf HE.out
      clear nf
      go_wp2_with fail
      go_ret
      exact ⟨rfl, S6.out⟩
end Go.Proofs.Ytpnigndobhbfnaa
