/- The walks of package clock, second part: the dial, reach, Show. -/
import Derived.Test.YtpnigndobhbfnaaClkA
import Derived.Laws.EntriesVeiled
import Derived.Shelf.Abstract
namespace Go.Proofs.Ytpnigndobhbfnaa
open Go.RowKit
/-- A block just laid holds a clock. -/
theorem Ck.new (w : World) (o d : Int) (t : TypeId) : Ck (w.alloc (.cells #[.int .i64 o, .int .i64 d] t)) w.heap.size o d :=
  ⟨by rw [World.cell?_alloc_at _ _ _ _ (by simp)]; rfl, by rw [World.cell?_alloc_at _ _ _ _ (by simp)]; rfl, by simp, World.frozen?_alloc_at _ _ _ _ rfl, World.frozen?_alloc_at _ _ _ _ rfl⟩

/-- One value lies in block B. -/
structure C1 (w : World) (B : Nat) (v : Value) : Prop where
  c : w.cell? ⟨B, 0, none⟩ = some v
  lt : B < w.heap.size
theorem C1.gr {w w' : World} {B : Nat} {v : Value} (k : C1 w B v) (h : Gr w w') : C1 w' B v := ⟨(h.cell k.lt 0).trans k.c, Nat.lt_of_lt_of_le k.lt h.size⟩
theorem C1.new (w : World) (v : Value) (t : TypeId) : C1 (w.alloc (.cells #[v] t)) w.heap.size v := ⟨by rw [World.cell?_alloc_at _ _ _ _ (by simp)]; rfl, by simp⟩

set_option maxHeartbeats 400000 in
/-- clock.of -/
theorem of_any (o d : Int) (w : World) :
    Calls Try.prog 92 #[.agg #[.int .i64 o, .int .i64 d]] w fun e w' => e = .returned (.agg #[.func (.func 121) #[] #[.pointer (some ⟨w.heap.size, 0, none⟩)]]) ∧ Gr w w' ∧ Ck w' w.heap.size o d := by
  go_enter Try.func92, Try.ntmps92
  go_wp2
  refine bodyPost_ret (v := .agg #[.func (.func 121) #[] #[.pointer (some ⟨w.heap.size, 0, none⟩)]]) (by simp [results, Try.results92, go_sem]) rfl ⟨rfl, ((Gr.refl _).alloc _).alloc _, (Ck.new w o d 23).gr ((Gr.refl _).alloc _)⟩

theorem Sr.rch {o d x r : Int} (hv : Vc o d) (h : Sr (fun t => decide (x ≤ rd o d t)) 1099511627776 r) (hx : x ≤ rd o d 1099511627776) : rch o d x = r := by
  obtain ⟨h0, h1, h2, h3⟩ := h
  refine rch_of h0 h1 ?_ ?_
  · rcases h3 with h3 | h3
    · rw [h3]; exact hx
    · exact of_decide_eq_true h3
  · intro t t0 t1
    rcases h2 with h2 | h2
    · omega
    · have := of_decide_eq_false h2
      have := rd_mono o hv.d0 hv.d1 (show t ≤ r - 1 by omega)
      omega

set_option maxHeartbeats 400000 in
/-- clock.dial.reach, where the clock shows x at last. -/
theorem reach_ok (o d x : Int) (B : Nat) (w : World) (hv : Vc o d) (k : Ck w B o d) (hx : x ≤ rd o d 1099511627776) :
    Calls Try.prog 93 #[.agg #[.func (.func 121) #[] #[.pointer (some ⟨B, 0, none⟩)]], .int .i64 x] w fun e w' => e = .returned (.tuple #[.int .i64 (rch o d x), .int .i64 0]) ∧ Gr w w' := by
  have K := Lib.hid k
  have HV := Lib.hid hv
  clear k hv
  go_enter Try.func93, Try.ntmps93
  go_wp2
  have g0 : Gr w ((w.alloc (Obj.cells #[.func (.func 121) #[] #[.pointer (some ⟨B, 0, none⟩)]] 88)).alloc (Obj.cells #[.int .i64 x] 3)) := ((Gr.refl _).alloc _).alloc _
  have cd : C1 ((w.alloc (Obj.cells #[.func (.func 121) #[] #[.pointer (some ⟨B, 0, none⟩)]] 88)).alloc (Obj.cells #[.int .i64 x] 3)) w.heap.size (.func (.func 121) #[] #[.pointer (some ⟨B, 0, none⟩)]) := (C1.new _ _ _).gr ((Gr.refl _).alloc _)
  have cx : C1 ((w.alloc (Obj.cells #[.func (.func 121) #[] #[.pointer (some ⟨B, 0, none⟩)]] 88)).alloc (Obj.cells #[.int .i64 x] 3)) (w.heap.size + 1) (.int .i64 x) := by
    have := C1.new (w.alloc (Obj.cells #[.func (.func 121) #[] #[.pointer (some ⟨B, 0, none⟩)]] 88)) (.int .i64 x) 3
    rwa [World.size_alloc] at this
  generalize (w.alloc (Obj.cells #[.func (.func 121) #[] #[.pointer (some ⟨B, 0, none⟩)]] 88)).alloc (Obj.cells #[.int .i64 x] 3) = W at g0 cd cx ⊢
  have kc := Lib.hid (K.out.gr g0)
  have G0 := Lib.hid g0
  have CD := Lib.hid cd
  have CX := Lib.hid cx
  clear g0
  obtain ⟨cd, _⟩ := cd
  obtain ⟨cx, _⟩ := cx
  go_quiet ((refine Calls.quiet_of (show1_any o d _ B _ HV.out (by omega) (by omega) kc.out.c0 kc.out.c1)))
  go_wp2_with fail
  clear cd cx
  refine (search_any 123 #[.pointer (some ⟨w.heap.size, 0, none⟩), .pointer (some ⟨w.heap.size + 1, 0, none⟩)] 1099511627776 (fun t => decide (x ≤ rd o d t)) _ (enters_of Try.func123 (by kernel_rfl) rfl) (by omega) (by omega) ?_).mono ?_
  · intro W2 t hg t0 t1
    have hg2 := (Gr.refl W).drewN nq |>.trans hg
    have kk := kc.out.gr hg2
    refine (reach1_any o d t x B _ _ W2 HV.out t0 (by omega) kk.c0 kk.c1 (CD.out.gr hg2).c (CX.out.gr hg2).c).mono ?_
    rintro e w' ⟨rfl, n, rfl⟩
    exact ⟨rfl, (Gr.refl _).drewN _⟩
  · rintro e w' ⟨r, hr, rfl, hg⟩
    obtain rfl := Sr.rch HV.out hr hx
    have HG := Lib.hid hg
    clear hr hg
    go_wp2_with fail
    go_ret2
    exact ⟨rfl, (G0.out.drewN nq).trans HG.out⟩

set_option maxHeartbeats 400000 in
/-- clock.dial.reach, where it does not. -/
theorem reach_no (o d x : Int) (B : Nat) (w : World) (hv : Vc o d) (k : Ck w B o d) (hx : rd o d 1099511627776 < x) :
    Calls Try.prog 93 #[.agg #[.func (.func 121) #[] #[.pointer (some ⟨B, 0, none⟩)]], .int .i64 x] w fun e w' => e = .returned (.tuple #[.int .i64 0, .int .i64 15]) ∧ Gr w w' := by
  have K := Lib.hid k
  have HV := Lib.hid hv
  clear k hv
  have hd : decide (rd o d 1099511627776 < x) = true := by simpa using hx
  go_enter Try.func93, Try.ntmps93
  go_wp2
  have g0 : Gr w ((w.alloc (Obj.cells #[.func (.func 121) #[] #[.pointer (some ⟨B, 0, none⟩)]] 88)).alloc (Obj.cells #[.int .i64 x] 3)) := ((Gr.refl _).alloc _).alloc _
  have kc := Lib.hid (K.out.gr g0)
  have G0 := Lib.hid g0
  clear g0
  go_quiet ((refine Calls.quiet_of (show1_any o d _ B _ HV.out (by omega) (by omega) kc.out.c0 kc.out.c1)))
  go_wp2
  go_ret2
  exact ⟨rfl, (G0.out.drewN nq)⟩

theorem dial_field (B : Nat) (w : World) : (Instr.field 88 (.agg #[.func (.func 121) #[] #[.pointer (some ⟨B, 0, none⟩)]]) 0).run Try.prog w = .ok (.func (.func 121) #[] #[.pointer (some ⟨B, 0, none⟩)]) w := by kernel_rfl

def shN (o d t : Int) : Int := if Vc o d ∧ 0 ≤ t ∧ t ≤ 1099511627776 then rd o d t else 0
def shE (o d t : Int) : Int := if Vc o d then (if 0 ≤ t ∧ t ≤ 1099511627776 then 0 else 2) else 1

set_option maxHeartbeats 400000 in
theorem show_ok (o d t : Int) (w : World) (hv : Vc o d) (h0 : 0 ≤ t) (h1 : t ≤ 1099511627776) :
    Calls Try.prog 27 #[.agg #[.int .i64 o, .int .i64 d], .int .i64 t] w fun e w' => e = .returned (.tuple #[.int .i64 (rd o d t), .int .i64 0]) ∧ Gr w w' := by
  have HV := Lib.hid hv
  clear hv
  have hfld := dial_field
  go_enter Try.func27, Try.ntmps27
  go_wp2_with fail
  have g0 : Gr w (w.alloc (Obj.cells #[.int .i64 o, .int .i64 d] 23)) := (Gr.refl _).alloc _
  have k0 := Ck.new w o d 23
  generalize w.alloc (Obj.cells #[.int .i64 o, .int .i64 d] 23) = W at g0 k0 ⊢
  refine (check_ok o d _ HV.out).mono ?_
  rintro e w1 ⟨rfl, hg⟩
  have G := Lib.hid (g0.trans hg)
  have k := k0.gr hg
  clear g0 k0 hg
  have c0 := k.c0
  have c1 := k.c1
  clear k
  go_wp2_with fail
  clear c0 c1
  refine (of_any o d _).mono ?_
  rintro e w2 ⟨rfl, hg, hk⟩
  have G2 := Lib.hid (G.out.trans hg)
  have K2 := Lib.hid hk
  clear hg hk
  go_wp2_with fail
  refine (show1_any o d t _ _ HV.out h0 h1 K2.out.c0 K2.out.c1).mono ?_
  rintro e w3 ⟨rfl, n, rfl⟩
  go_wp2_with fail
  go_ret2
  exact ⟨rfl, G2.out.drewN n⟩

set_option maxHeartbeats 400000 in
theorem show_arg (o d t : Int) (w : World) (hv : ¬ Vc o d) :
    Calls Try.prog 27 #[.agg #[.int .i64 o, .int .i64 d], .int .i64 t] w fun e w' => e = .returned (.tuple #[.int .i64 0, .int .i64 1]) ∧ Gr w w' := by
  have HV := Lib.hid hv
  clear hv
  go_enter Try.func27, Try.ntmps27
  go_wp2_with fail
  refine (check_no o d _ HV.out).mono ?_
  rintro e w1 ⟨rfl, hg⟩
  have G := Lib.hid ((Gr.alloc (Gr.refl w) _).trans hg)
  clear hg
  go_wp2_with fail
  go_ret2
  exact ⟨rfl, G.out⟩

set_option maxHeartbeats 400000 in
theorem show_range (o d t : Int) (w : World) (hv : Vc o d) (h : ¬ (0 ≤ t ∧ t ≤ 1099511627776)) :
    Calls Try.prog 27 #[.agg #[.int .i64 o, .int .i64 d], .int .i64 t] w fun e w' => e = .returned (.tuple #[.int .i64 0, .int .i64 2]) ∧ Gr w w' := by
  have HV := Lib.hid hv
  clear hv
  have hn : t < 0 ∨ 1099511627776 < t := by omega
  clear h
  rcases hn with hn | hn
  all_goals
    go_enter Try.func27, Try.ntmps27
    go_wp2_with fail
    refine (check_ok o d _ HV.out).mono ?_
    rintro e w1 ⟨rfl, hg⟩
    have G := Lib.hid ((Gr.alloc (Gr.refl w) _).trans hg)
    clear hg
    go_wp2_with fail
    go_ret2
    exact ⟨rfl, G.out⟩

theorem show_any (o d t : Int) (w : World) :
    Calls Try.prog 27 #[.agg #[.int .i64 o, .int .i64 d], .int .i64 t] w fun e w' => e = .returned (.tuple #[.int .i64 (shN o d t), .int .i64 (shE o d t)]) ∧ Gr w w' := by
  unfold shN shE
  by_cases hv : Vc o d
  · by_cases ht : 0 ≤ t ∧ t ≤ 1099511627776
    · rw [if_pos ⟨hv, ht⟩, if_pos hv, if_pos ht]; exact show_ok o d t w hv ht.1 ht.2
    · rw [if_neg (fun h => ht h.2), if_pos hv, if_neg ht]; exact show_range o d t w hv ht
  · rw [if_neg (fun h => hv h.1), if_neg hv]; exact show_arg o d t w hv
end Go.Proofs.Ytpnigndobhbfnaa
