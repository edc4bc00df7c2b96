/- slices.Equal and Same at equal lists. -/
import Derived.Test.YtpnigndobhbfnaaTop
import Derived.Test.YtpnigndobhbfnaaRrno
import Derived.Test.YtpnigndobhbfnaaTdw
import Derived.BigQuiet
namespace Go.Proofs.Ytpnigndobhbfnaa
open Go.RowKit
set_option maxRecDepth 20000 in
set_option maxHeartbeats 2000000 in
theorem Eq51 (a1 a2 : Option Addr) (n c1 c2 : Nat) (l : List Nat) (w : World) (h1 : Sz w (.slice a1 n c1) n (nvs l)) (h2 : Sz w (.slice a2 n c2) n (nvs l)) (hl : l.length = n) (hn : n ≤ 1000) :
    Calls Try.prog 51 #[.slice a1 n c1, .slice a2 n c2] w fun e w' => e = .returned (.bool true) ∧ Gr w w' := by
  have H1 := Lib.hid h1
  have H2 := Lib.hid h2
  have HL := Lib.hid hl
  clear h1 h2 hl
  go_enter Try.func51, Try.ntmps51
  go_wp2_with fail
  go_loopg [5, 13] n (fun g _ s wr => ∃ i : Nat, i + g = n ∧ s = .int .i64 (i : Int) ∧ Hid (Gr w wr))
  case atStart => exact ⟨0, by omega, rfl, Lib.hid (Gr.refl _)⟩
  case round =>
    obtain ⟨i, hig, rfl, SG⟩ := hrel
    cases gk with
    | zero =>
      have e3 : decide ((i : Int) < (n : Int)) = false := decide_eq_false (by omega)
      have e4 : decide (i < n) = false := decide_eq_false (by omega)
      go_wp2_with fail
      go_ret
      exact ⟨rfl, SG.out⟩
    | succ g =>
      have e3 : decide ((i : Int) < (n : Int)) = true := decide_eq_true (by omega)
      have e4 : decide (i < n) = true := decide_eq_true (by omega)
      have hi1 : (i : Int) < (n : Int) := by omega
      obtain ⟨b1, o1, rfl, lb1, hc1⟩ : ∃ b off, a1 = some ⟨b, off, none⟩ ∧ b < w.heap.size ∧ ∀ j u, (nvs l)[j]? = some u → w.cell? ⟨b, off + j, none⟩ = some u := by
        rcases H1.out with ⟨_, _, e, h, _⟩ | ⟨b, off, cc, e, l2, h⟩
        · omega
        · injection e with e _ _
          exact ⟨b, off, e, l2, h⟩
      obtain ⟨b2, o2, rfl, lb2, hc2⟩ : ∃ b off, a2 = some ⟨b, off, none⟩ ∧ b < w.heap.size ∧ ∀ j u, (nvs l)[j]? = some u → w.cell? ⟨b, off + j, none⟩ = some u := by
        rcases H2.out with ⟨_, _, e, h, _⟩ | ⟨b, off, cc, e, l2, h⟩
        · omega
        · injection e with e _ _
          exact ⟨b, off, e, l2, h⟩
      have hin : i < l.length := by rw [HL.out]; omega
      have x0 : wr.cell? ⟨b1, o1 + i, none⟩ = some (.int .i64 (l.getD i 0 : Nat)) := (SG.out.cell lb1 _).trans (hc1 _ _ (nvs_at hin))
      have y0 : wr.cell? ⟨b2, o2 + i, none⟩ = some (.int .i64 (l.getD i 0 : Nat)) := (SG.out.cell lb2 _).trans (hc2 _ _ (nvs_at hin))
      generalize l.getD i 0 = x at x0 y0
      clear hc1 hc2
      go_wp2_with fail
      go_quiet (fail)
      have SG3 := Lib.hid (SG.out.drewN nq)
      generalize wr.drewN nq = wz at SG3 ⊢
      clear x0 y0
      go_wp2_with fail
      go_roundg g
      case measure => omega
      case rel => exact ⟨i + 1, by omega, by go_num, SG3⟩
set_option maxRecDepth 20000 in
set_option maxHeartbeats 2000000 in
theorem Same52 (a1 a2 : Option Addr) (n c1 c2 : Nat) (l : List Sy) (w : World) (h1 : Sz w (.slice a1 n c1) n (Lv l)) (h2 : Sz w (.slice a2 n c2) n (Lv l)) (hl : l.length = n) (hn : n ≤ 1000) :
    Calls Try.prog 52 #[.slice a1 n c1, .slice a2 n c2] w fun e w' => e = .returned (.bool true) ∧ Gr w w' := by
  have H1 := Lib.hid h1
  have H2 := Lib.hid h2
  have HL := Lib.hid hl
  clear h1 h2 hl
  go_enter Try.func52, Try.ntmps52
  go_wp2_with fail
  go_loopg [5] n (fun g s wr => ∃ i : Nat, i + g = n ∧ s = .int .i64 (i : Int) ∧ Hid (Gr w wr))
  case atStart => exact ⟨0, by omega, rfl, Lib.hid (Gr.refl _)⟩
  case round =>
    obtain ⟨i, hig, rfl, SG⟩ := hrel
    cases gk with
    | zero =>
      have e3 : decide ((i : Int) < (n : Int)) = false := decide_eq_false (by omega)
      have e4 : decide (i < n) = false := decide_eq_false (by omega)
      go_wp2_with fail
      go_ret
      exact ⟨rfl, SG.out⟩
    | succ g =>
      have e3 : decide ((i : Int) < (n : Int)) = true := decide_eq_true (by omega)
      have e4 : decide (i < n) = true := decide_eq_true (by omega)
      have hi1 : (i : Int) < (n : Int) := by omega
      obtain ⟨b1, o1, rfl, lb1, hc1⟩ : ∃ b off, a1 = some ⟨b, off, none⟩ ∧ b < w.heap.size ∧ ∀ j u, (Lv l)[j]? = some u → w.cell? ⟨b, off + j, none⟩ = some u := by
        rcases H1.out with ⟨_, _, e, h, _⟩ | ⟨b, off, cc, e, l2, h⟩
        · omega
        · injection e with e _ _
          exact ⟨b, off, e, l2, h⟩
      obtain ⟨b2, o2, rfl, lb2, hc2⟩ : ∃ b off, a2 = some ⟨b, off, none⟩ ∧ b < w.heap.size ∧ ∀ j u, (Lv l)[j]? = some u → w.cell? ⟨b, off + j, none⟩ = some u := by
        rcases H2.out with ⟨_, _, e, h, _⟩ | ⟨b, off, cc, e, l2, h⟩
        · omega
        · injection e with e _ _
          exact ⟨b, off, e, l2, h⟩
      have hin : i < l.length := by rw [HL.out]; omega
      have hcx := Lv_cells' hc1 hin
      have hcy := Lv_cells' hc2 hin
      generalize l.getD i Sy0 = x at hcx hcy
      obtain ⟨o, kk, s, c⟩ := x
      have x0 : wr.cell? ⟨b1, o1 + i * 4, none⟩ = some (.int .i64 o) := (SG.out.cell lb1 _).trans (hcx 0 _ rfl)
      have y0 : wr.cell? ⟨b2, o2 + i * 4, none⟩ = some (.int .i64 o) := (SG.out.cell lb2 _).trans (hcy 0 _ rfl)
      have x1 : wr.cell? ⟨b1, o1 + i * 4 + 1, none⟩ = some (.int .i64 kk) := (SG.out.cell lb1 _).trans (hcx 1 _ rfl)
      have y1 : wr.cell? ⟨b2, o2 + i * 4 + 1, none⟩ = some (.int .i64 kk) := (SG.out.cell lb2 _).trans (hcy 1 _ rfl)
      have x2 : wr.cell? ⟨b1, o1 + i * 4 + 2, none⟩ = some (.int .i64 s) := (SG.out.cell lb1 _).trans (hcx 2 _ rfl)
      have y2 : wr.cell? ⟨b2, o2 + i * 4 + 2, none⟩ = some (.int .i64 s) := (SG.out.cell lb2 _).trans (hcy 2 _ rfl)
      have x3 : wr.cell? ⟨b1, o1 + i * 4 + 3, none⟩ = some (.int .i64 c) := (SG.out.cell lb1 _).trans (hcx 3 _ rfl)
      have y3 : wr.cell? ⟨b2, o2 + i * 4 + 3, none⟩ = some (.int .i64 c) := (SG.out.cell lb2 _).trans (hcy 3 _ rfl)
      clear hc1 hc2 hcx hcy
      go_wp2_with fail
      go_quiet (fail)
      have SG3 := Lib.hid (SG.out.drewN nq)
      generalize wr.drewN nq = wz at SG3 ⊢
      clear x0 y0 x1 y1 x2 y2 x3 y3
      go_wp2_with fail
      go_roundg g
      case measure => omega
      case rel => exact ⟨i + 1, by omega, by go_num, SG3⟩
set_option maxRecDepth 20000 in
set_option maxHeartbeats 2000000 in
theorem Eq89 (a1 a2 : Option Addr) (n c1 c2 : Nat) (l : List Sy) (w : World) (h1 : Sz w (.slice a1 n c1) n (Lv l)) (h2 : Sz w (.slice a2 n c2) n (Lv l)) (hl : l.length = n) (hn : n ≤ 1000) :
    Calls Try.prog 89 #[.slice a1 n c1, .slice a2 n c2] w fun e w' => e = .returned (.bool true) ∧ Gr w w' := by
  have H1 := Lib.hid h1
  have H2 := Lib.hid h2
  have HL := Lib.hid hl
  clear h1 h2 hl
  go_enter Try.func89, Try.ntmps89
  go_wp2_with fail
  go_loopg [5, 13] n (fun g _ s wr => ∃ i : Nat, i + g = n ∧ s = .int .i64 (i : Int) ∧ Hid (Gr w wr))
  case atStart => exact ⟨0, by omega, rfl, Lib.hid (Gr.refl _)⟩
  case round =>
    obtain ⟨i, hig, rfl, SG⟩ := hrel
    cases gk with
    | zero =>
      have e3 : decide ((i : Int) < (n : Int)) = false := decide_eq_false (by omega)
      have e4 : decide (i < n) = false := decide_eq_false (by omega)
      go_wp2_with fail
      go_ret
      exact ⟨rfl, SG.out⟩
    | succ g =>
      have e3 : decide ((i : Int) < (n : Int)) = true := decide_eq_true (by omega)
      have e4 : decide (i < n) = true := decide_eq_true (by omega)
      have hi1 : (i : Int) < (n : Int) := by omega
      obtain ⟨b1, o1, rfl, lb1, hc1⟩ : ∃ b off, a1 = some ⟨b, off, none⟩ ∧ b < w.heap.size ∧ ∀ j u, (Lv l)[j]? = some u → w.cell? ⟨b, off + j, none⟩ = some u := by
        rcases H1.out with ⟨_, _, e, h, _⟩ | ⟨b, off, cc, e, l2, h⟩
        · omega
        · injection e with e _ _
          exact ⟨b, off, e, l2, h⟩
      obtain ⟨b2, o2, rfl, lb2, hc2⟩ : ∃ b off, a2 = some ⟨b, off, none⟩ ∧ b < w.heap.size ∧ ∀ j u, (Lv l)[j]? = some u → w.cell? ⟨b, off + j, none⟩ = some u := by
        rcases H2.out with ⟨_, _, e, h, _⟩ | ⟨b, off, cc, e, l2, h⟩
        · omega
        · injection e with e _ _
          exact ⟨b, off, e, l2, h⟩
      have hin : i < l.length := by rw [HL.out]; omega
      have hcx := Lv_cells' hc1 hin
      have hcy := Lv_cells' hc2 hin
      generalize l.getD i Sy0 = x at hcx hcy
      obtain ⟨o, kk, s, c⟩ := x
      have x0 : wr.cell? ⟨b1, o1 + i * 4, none⟩ = some (.int .i64 o) := (SG.out.cell lb1 _).trans (hcx 0 _ rfl)
      have y0 : wr.cell? ⟨b2, o2 + i * 4, none⟩ = some (.int .i64 o) := (SG.out.cell lb2 _).trans (hcy 0 _ rfl)
      have x1 : wr.cell? ⟨b1, o1 + i * 4 + 1, none⟩ = some (.int .i64 kk) := (SG.out.cell lb1 _).trans (hcx 1 _ rfl)
      have y1 : wr.cell? ⟨b2, o2 + i * 4 + 1, none⟩ = some (.int .i64 kk) := (SG.out.cell lb2 _).trans (hcy 1 _ rfl)
      have x2 : wr.cell? ⟨b1, o1 + i * 4 + 2, none⟩ = some (.int .i64 s) := (SG.out.cell lb1 _).trans (hcx 2 _ rfl)
      have y2 : wr.cell? ⟨b2, o2 + i * 4 + 2, none⟩ = some (.int .i64 s) := (SG.out.cell lb2 _).trans (hcy 2 _ rfl)
      have x3 : wr.cell? ⟨b1, o1 + i * 4 + 3, none⟩ = some (.int .i64 c) := (SG.out.cell lb1 _).trans (hcx 3 _ rfl)
      have y3 : wr.cell? ⟨b2, o2 + i * 4 + 3, none⟩ = some (.int .i64 c) := (SG.out.cell lb2 _).trans (hcy 3 _ rfl)
      clear hc1 hc2 hcx hcy
      go_wp2_with fail
      go_quiet (fail)
      have SG3 := Lib.hid (SG.out.drewN nq)
      generalize wr.drewN nq = wz at SG3 ⊢
      clear x0 y0 x1 y1 x2 y2 x3 y3
      go_wp2_with fail
      go_roundg g
      case measure => omega
      case rel => exact ⟨i + 1, by omega, by go_num, SG3⟩
theorem Eq51v (v1 v2 : Value) (n : Nat) (l : List Nat) (w : World) (h1 : Sz w v1 n (nvs l)) (h2 : Sz w v2 n (nvs l)) (hl : l.length = n) (hn : n ≤ 1000) : Calls Try.prog 51 #[v1, v2] w fun e w' => e = .returned (.bool true) ∧ Gr w w' := by
  obtain ⟨a1, c1, rfl⟩ := h1.slice
  obtain ⟨a2, c2, rfl⟩ := h2.slice
  exact Eq51 a1 a2 n c1 c2 l w h1 h2 hl hn
theorem Same52v (v1 v2 : Value) (n : Nat) (l : List Sy) (w : World) (h1 : Sz w v1 n (Lv l)) (h2 : Sz w v2 n (Lv l)) (hl : l.length = n) (hn : n ≤ 1000) : Calls Try.prog 52 #[v1, v2] w fun e w' => e = .returned (.bool true) ∧ Gr w w' := by
  obtain ⟨a1, c1, rfl⟩ := h1.slice
  obtain ⟨a2, c2, rfl⟩ := h2.slice
  exact Same52 a1 a2 n c1 c2 l w h1 h2 hl hn
theorem Eq89v (v1 v2 : Value) (n : Nat) (l : List Sy) (w : World) (h1 : Sz w v1 n (Lv l)) (h2 : Sz w v2 n (Lv l)) (hl : l.length = n) (hn : n ≤ 1000) : Calls Try.prog 89 #[v1, v2] w fun e w' => e = .returned (.bool true) ∧ Gr w w' := by
  obtain ⟨a1, c1, rfl⟩ := h1.slice
  obtain ⟨a2, c2, rfl⟩ := h2.slice
  exact Eq89 a1 a2 n c1 c2 l w h1 h2 hl hn
end Go.Proofs.Ytpnigndobhbfnaa
