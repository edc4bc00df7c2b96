/- slices.ContainsFunc over states. -/
import Derived.Test.YtpnigndobhbfnaaRn
import Derived.Test.YtpnigndobhbfnaaSlc
import Derived.Test.YtpnigndobhbfnaaCz
import Derived.Shelf.SlicesQ.IndexFunc
namespace Go.Proofs.Ytpnigndobhbfnaa
open Go.RowKit
open Go.Shelf
set_option maxHeartbeats 400000 in
theorem Run1 (x : Sy) (w : World) : Calls Try.prog 99 #[.agg x.cells.toArray] w fun e w' => e = .returned (.bool (!decide x.Vs)) ∧ Gr w w' := by
  obtain ⟨o, k, s, c⟩ := x
  show Calls Try.prog 99 #[.agg #[.int .i64 o, .int .i64 k, .int .i64 s, .int .i64 c]] w _
  by_cases h : Vs o k s c
  · have e0 : (!decide (Sy.Vs ⟨o, k, s, c⟩)) = false := by rw [decide_eq_true (show Sy.Vs ⟨o, k, s, c⟩ from h)]; rfl
    rw [e0]
    have H := Lib.hid h
    clear h e0
    go_enter Try.func99, Try.ntmps99
    go_wp2_with fail
    refine (Tck_ok o k s c _ H.out).mono ?_
    rintro e w1 ⟨rfl, hg⟩
    have S1 := Lib.hid (Gr.trans (Gr.alloc (Gr.refl w) _) hg)
    clear hg
    go_wp2_with fail
    go_ret
    exact ⟨rfl, S1.out⟩
  · have e0 : (!decide (Sy.Vs ⟨o, k, s, c⟩)) = true := by rw [decide_eq_false (show ¬ Sy.Vs ⟨o, k, s, c⟩ from h)]; rfl
    rw [e0]
    have H := Lib.hid h
    clear h e0
    go_enter Try.func99, Try.ntmps99
    go_wp2_with fail
    refine (Tck_no o k s c _ H.out).mono ?_
    rintro e w1 ⟨rfl, hg⟩
    have S1 := Lib.hid (Gr.trans (Gr.alloc (Gr.refl w) _) hg)
    clear hg
    go_wp2_with fail
    go_ret
    exact ⟨rfl, S1.out⟩
set_option maxHeartbeats 400000 in
theorem Spread1 (x : Sy) (w : World) : Calls Try.prog 103 #[.agg x.cells.toArray] w fun e w' => e = .returned (.bool (!decide x.Vs)) ∧ Gr w w' := by
  obtain ⟨o, k, s, c⟩ := x
  show Calls Try.prog 103 #[.agg #[.int .i64 o, .int .i64 k, .int .i64 s, .int .i64 c]] w _
  by_cases h : Vs o k s c
  · have e0 : (!decide (Sy.Vs ⟨o, k, s, c⟩)) = false := by rw [decide_eq_true (show Sy.Vs ⟨o, k, s, c⟩ from h)]; rfl
    rw [e0]
    have H := Lib.hid h
    clear h e0
    go_enter Try.func103, Try.ntmps103
    go_wp2_with fail
    refine (Tck_ok o k s c _ H.out).mono ?_
    rintro e w1 ⟨rfl, hg⟩
    have S1 := Lib.hid (Gr.trans (Gr.alloc (Gr.refl w) _) hg)
    clear hg
    go_wp2_with fail
    go_ret
    exact ⟨rfl, S1.out⟩
  · have e0 : (!decide (Sy.Vs ⟨o, k, s, c⟩)) = true := by rw [decide_eq_false (show ¬ Sy.Vs ⟨o, k, s, c⟩ from h)]; rfl
    rw [e0]
    have H := Lib.hid h
    clear h e0
    go_enter Try.func103, Try.ntmps103
    go_wp2_with fail
    refine (Tck_no o k s c _ H.out).mono ?_
    rintro e w1 ⟨rfl, hg⟩
    have S1 := Lib.hid (Gr.trans (Gr.alloc (Gr.refl w) _) hg)
    clear hg
    go_wp2_with fail
    go_ret
    exact ⟨rfl, S1.out⟩
/-- v is a slice of n elements whose cells are cs; of length 0 at whatever address. -/
def Sz (w : World) (v : Value) (n : Nat) (cs : List Value) : Prop :=
  (∃ a c, v = .slice a 0 c ∧ n = 0 ∧ cs = []) ∨
  ∃ b off cap, v = .slice (some ⟨b, off, none⟩) n cap ∧ b < w.heap.size ∧ ∀ j u, cs[j]? = some u → w.cell? ⟨b, off + j, none⟩ = some u
theorem Sz.gr {w w' : World} {v : Value} {n : Nat} {cs : List Value} (h : Sz w v n cs) (g : Gr w w') : Sz w' v n cs := by
  rcases h with h | ⟨b, off, cap, e, l, c⟩
  · exact Or.inl h
  · exact Or.inr ⟨b, off, cap, e, Nat.lt_of_lt_of_le l g.size, fun j u hj => (g.cell l _).trans (c j u hj)⟩
theorem Sl.sz {w : World} {v : Value} {n : Nat} {cs : List Value} (h : Sl w v n cs) : Sz w v n cs := by
  rcases h with ⟨e, h, h1⟩ | h
  · exact Or.inl ⟨_, _, e, h, h1⟩
  · exact Or.inr h
theorem Ow.sz {base : Nat} {w : World} {v : Value} {n : Nat} {cs : List Value} (h : Ow base w v n cs) : Sz w v n cs := h.sl.sz
theorem Sz.slice {w : World} {v : Value} {n : Nat} {cs : List Value} (h : Sz w v n cs) : ∃ a c, v = .slice a n c := by
  rcases h with ⟨a, c, e, h, _⟩ | ⟨b, off, cap, e, _⟩
  · exact ⟨a, c, by rw [e, h]⟩
  · exact ⟨_, cap, e⟩
section
variable {P : Program} {ρ : Ren}
open Go.Lib
set_option maxHeartbeats 1000000 in
theorem IF_empty (L : SlLaysH0.n6 P ρ) (a : Option Addr) (c : Nat) (fv : Value) (w : World) :
    Calls P (ρ.f 6) #[.slice a 0 c, fv] w fun e w' => e = .returned (.int .i64 (-1)) ∧ w' = w := by
  have mixed := L.mixed; have t0 := L.t0; have a0 := L.a0; have z0 := L.z0; have v0 := L.v0; have t3 := L.t3; have a3 := L.a3; have z3 := L.z3; have v3 := L.v3; have t4 := L.t4; have a4 := L.a4; have z4 := L.z4; have v4 := L.v4; have t22 := L.t22; have a22 := L.a22; have z22 := L.z22; have v22 := L.v22; have t25 := L.t25; have a25 := L.a25; have z25 := L.z25; have v25 := L.v25
  obtain ⟨_, _, FG⟩ := L.f6
  go_enter FG, SlBodyH.n6_ntmps ρ
  go_wp2
  go_loopg [5, 8] 0 (fun _ _ s8 wr => s8 = .int .i64 0 ∧ wr = w)
  case atStart => exact ⟨rfl, rfl⟩
  case round =>
    obtain ⟨rfl, rfl⟩ := hrel
    go_wp2
    go_ret
    exact ⟨rfl, rfl⟩
set_option maxHeartbeats 1000000 in
theorem CF_empty (L : SlLaysH0.n8 P ρ) (a : Option Addr) (c : Nat) (fv : Value) (w : World) :
    Calls P (ρ.f 8) #[.slice a 0 c, fv] w fun e w' => e = .returned (.bool false) ∧ w' = w := by
  have mixed := L.mixed; have t0 := L.t0; have a0 := L.a0; have z0 := L.z0; have v0 := L.v0; have t3 := L.t3; have a3 := L.a3; have z3 := L.z3; have v3 := L.v3; have t4 := L.t4; have a4 := L.a4; have z4 := L.z4; have v4 := L.v4; have t22 := L.t22; have a22 := L.a22; have z22 := L.z22; have v22 := L.v22; have t25 := L.t25; have a25 := L.a25; have z25 := L.z25; have v25 := L.v25
  have e6 : ∀ args w, (callFunc (ρ.f 6) args).run P w = .ok (.enter (ρ.f 6) args) w := L.f6.enters rfl
  obtain ⟨_, _, FG⟩ := L.f8
  go_enter FG, SlBodyH.n8_ntmps ρ
  go_wp2_with (go_at_fn (ρ.f 6); refine (IF_empty { L with } a c fv _).mono ?_; rintro e w' ⟨rfl, rfl⟩)
  go_ret
  exact ⟨rfl, rfl⟩
end
def Try.cf98_ren : Go.Shelf.Ren := ⟨fun | 8 => 98 | 6 => 125 | n => n, fun | 22 => 33 | 23 => 45 | 25 => 95 | 4 => 4 | 3 => 3 | 0 => 0 | n => n, fun | n => n⟩
theorem Try.cf98 : Go.Proofs.SlLaysH0.n8 Try.prog Try.cf98_ren := {
  mixed := by kernel_rfl
  f6 := ⟨Try.f125.name, by decide, Try.func125.trans (congrArg some (by kernel_rfl))⟩
  f8 := ⟨Try.f98.name, by decide, Try.func98.trans (congrArg some (by kernel_rfl))⟩
  t0 := Try.underlying0
  a0 := Try.isAgg0
  z0 := Try.sizeOf0
  v0 := Try.zeroValue0
  t3 := Try.underlying3
  a3 := Try.isAgg3
  z3 := Try.sizeOf3
  v3 := Try.zeroValue3
  t4 := Try.underlying4
  a4 := Try.isAgg4
  z4 := Try.sizeOf4
  v4 := Try.zeroValue4
  t22 := Try.underlying33
  a22 := Try.isAgg33
  z22 := Try.sizeOf33
  v22 := Try.zeroValue33
  t25 := Try.underlying95
  a25 := Try.isAgg95
  z25 := Try.sizeOf95
  v25 := Try.zeroValue95 }
theorem cf98_t : Try.cf98_ren.t 23 = 45 := by kernel_rfl
theorem cf98_f : Try.cf98_ren.f 8 = 98 := by kernel_rfl
theorem Lv_getI {l : List Sy} {j : Nat} (h : j < l.length) : l[j]! = l.getD j Sy0 := by
  rw [List.getD_eq_getElem?_getD, List.getElem?_eq_getElem h, getElem!_pos l j h]; rfl
/-- Is a list's every state valid? slices.ContainsFunc with the one or the other closure. -/
theorem CF98 (g : Nat) (hg : ∀ (x : Sy) (w : World), Calls Try.prog g #[.agg x.cells.toArray] w fun e w' => e = .returned (.bool (!decide x.Vs)) ∧ Gr w w') (eg : ∀ args w, (callFunc g args).run Try.prog w = .ok (.enter g args) w)
    (v : Value) (n : Nat) (l : List Sy) (w : World) (h : Sz w v n (Lv l)) (hl : l.length = n) (hn : n ≤ 1000) :
    Calls Try.prog 98 #[v, .func (.func g) #[] #[]] w fun e w' => e = .returned (.bool (!decide (allV l))) ∧ Gr w w' := by
  have hall : (!decide (allV l)) = l.any (fun x => !decide x.Vs) := by
    by_cases h : allV l
    · rw [decide_eq_true h]
      symm
      rw [Bool.not_true, List.any_eq_false]
      intro x hx
      simp [h x hx]
    · rw [decide_eq_false h]
      symm
      rw [Bool.not_false, List.any_eq_true]
      have : ∃ x, x ∈ l ∧ ¬ x.Vs := by
        by_cases hc : ∃ x, x ∈ l ∧ ¬ x.Vs
        · exact hc
        · exact absurd (fun x hx => Classical.byContradiction fun hv => hc ⟨x, hx, hv⟩) h
      obtain ⟨x, hx, hv⟩ := this
      exact ⟨x, hx, by simp [hv]⟩
  rw [hall]
  rcases h with ⟨a, c, rfl, rfl, hz⟩ | ⟨b, off, cap, rfl, lb, hc⟩
  · obtain rfl : l = [] := List.length_eq_zero_iff.1 hl
    have := CF_empty Try.cf98 a c (.func (.func g) #[] #[]) w
    rw [cf98_f] at this
    exact this.mono fun e w' ⟨he, h2⟩ => ⟨he, h2 ▸ Gr.refl _⟩
  · have := AnyQ.slices_ContainsFunc Try.cf98 4 (by rw [cf98_t]; exact Try.isAgg45) (by rw [cf98_t]; exact Try.sizeOf45) Sy.cells (fun _ => rfl) (fun x => !decide x.Vs) g #[] eg b off n cap l w
      (fun W x hb => (hg x W).mono fun _ _ ⟨he, h2⟩ => ⟨he, hb.trans (h2.mono hb.size)⟩) (by omega) (by omega) lb
      (fun j hj i v hv => by
        rw [Lv_getI hj] at hv
        have hi : i < 4 := by have := (List.getElem?_eq_some_iff.1 hv).1; rwa [Sy.cells_len] at this
        rw [Nat.add_assoc]
        exact hc _ _ (by rw [Lv_at l j i hj hi]; exact hv))
    rw [cf98_f, List.take_of_length_le (by omega)] at this
    exact this
end Go.Proofs.Ytpnigndobhbfnaa
