/- The plain facts of TimesyncSpreads' last part. -/
import Derived.Test.YtpnigndobhbfnaaTop
import Derived.Test.YtpnigndobhbfnaaSprm
import Derived.Test.YtpnigndobhbfnaaSrt
namespace Go.Proofs.Ytpnigndobhbfnaa
open Go.RowKit
/-- What is known behind i Sends: the first and the last time. -/
structure MM (L : List Sy) (slot : Int) (i : Nat) (t lat : Int) : Prop where
  st : (i = 0 ∧ t = -1) ∨ (0 < i ∧ 0 ≤ t ∧ t ≤ lat)
  lo : 0 ≤ lat
  hi : lat ≤ 1099511627776
  ok : ∀ j, j < i → inE (L.getD j Sy0).o (L.getD j Sy0).k slot 2120 = 0 ∧ inN (L.getD j Sy0).o (L.getD j Sy0).k slot 2120 ≠ 0 ∧ t ≤ inN (L.getD j Sy0).o (L.getD j Sy0).k slot 2120 ∧ inN (L.getD j Sy0).o (L.getD j Sy0).k slot 2120 ≤ lat
theorem MM.start (L : List Sy) (slot : Int) : MM L slot 0 (-1) 0 := ⟨Or.inl ⟨rfl, rfl⟩, by omega, by omega, fun j h => absurd h (Nat.not_lt_zero _)⟩
theorem MM.step {L : List Sy} {slot : Int} {i : Nat} {t lat a t' lat' : Int} (h : MM L slot i t lat) {x : Sy} (hx : L.getD i Sy0 = x) (he : inE x.o x.k slot 2120 = 0) (ha : inN x.o x.k slot 2120 = a) (h0 : a ≠ 0)
    (ht : t' = if t < 0 ∨ a < t then a else t) (hl : lat' = max lat a) : MM L slot (i + 1) t' lat' := by
  have hb := in_time he
  rw [ha] at hb
  have h1 := hb.1
  have h2 := hb.2
  have hlo := h.lo
  have hhi := h.hi
  have ht1 : t' ≤ a := by rw [ht]; split <;> omega
  have ht2 : t' ≤ t ∨ t < 0 := by rw [ht]; split <;> omega
  have ht3 : 0 ≤ t' := by
    rw [ht]
    rcases h.st with ⟨_, e⟩ | ⟨_, e, _⟩
    · rw [if_pos (Or.inl (by omega))]; exact h1
    · split <;> omega
  refine ⟨Or.inr ⟨by omega, ht3, by omega⟩, by omega, by omega, fun j hj => ?_⟩
  by_cases e : j = i
  · subst e
    rw [hx, ha]
    exact ⟨he, h0, ht1, by omega⟩
  · obtain ⟨o1, o2, o3, o4⟩ := h.ok j (by omega)
    refine ⟨o1, o2, ?_, by omega⟩
    rcases ht2 with h3 | h3
    · omega
    · rcases h.st with ⟨e1, _⟩ | ⟨_, e1, _⟩
      · omega
      · omega
/-- The plain law, at the end of the loop. -/
theorem spreads_end {zs : List Int} {ds : List Nat} {slot t lat L : Int} {l r : List Sy} {c : Int} (hd : dep zs = some ds) (hs : Srt ds) (hf : fits l zs) (hn : 2 ≤ zs.length)
    (hr : runs zs l (stps slot 1 (zs.length - 1)) 0 = (r, c, 0)) (hm : MM (r ++ l) slot (zs.length + zs.length) t lat) (h0 : 0 ≤ L) (hL : lat ≤ t + L) :
    ∀ i k, i < zs.length → k < zs.length → rd (r.getD i Sy0).o (r.getD i Sy0).k (t + L) - rd (r.getD k Sy0).o (r.getD k Sy0).k (t + L) ≤
      ((ds.getD (zs.length - 1) 0 + ds.getD (zs.length - 2) 0 : Nat) : Int) * (1 + gro L 100000) := by
  have hrl := (runs_ok hf.2.2 hr).2.1
  refine spread_math hd hf.2.1 hf.2.2 hn (fun i k h1 h2 => hs.le i k h1 (by have := (dep_node hd).2.1; omega)) hr h0 (fun x hx => ?_)
  obtain ⟨j, hj, rfl⟩ := List.getElem_of_mem hx
  have hjl : j < zs.length + zs.length := by
    have := hj
    rw [List.length_append, hrl, hf.2.1] at this
    exact this
  obtain ⟨_, o2, o3, o4⟩ := hm.ok j hjl
  rw [List.getD_eq_getElem?_getD, List.getElem?_eq_getElem hj] at o2 o3 o4
  exact ⟨o2, o3, by simp only [Option.getD_some] at o4; omega⟩
/-- The spread's bound. -/
theorem spreads_top {zs : List Int} {ds : List Nat} {slot t lat L : Int} {l r : List Sy} {c : Int} (hd : dep zs = some ds) (hs : Srt ds) (hf : fits l zs) (hn : 2 ≤ zs.length)
    (hr : runs zs l (stps slot 1 (zs.length - 1)) 0 = (r, c, 0)) (hm : MM (r ++ l) slot (zs.length + zs.length) t lat) (h0 : 0 ≤ L) (hL : lat ≤ t + L) {s : Int} (ht : Top (shows r (t + L)) zs.length s) :
    s ≤ ((ds.getD (zs.length - 1) 0 + ds.getD (zs.length - 2) 0 : Nat) : Int) * (1 + gro L 100000) := by
  rcases ht.some_ with e | ⟨i, k, hi, hk, e⟩
  · rw [e]
    have g2 := (gro_bd (t := L) (m := L) (k := 100000) h0 (Int.le_refl _) (by omega) (by omega)).1
    exact Int.mul_nonneg (by omega) (by omega)
  · rw [e]
    exact spreads_end hd hs hf hn hr hm h0 hL i k hi hk
theorem topN_top {l : List Sy} {t : Int} (n : Nat) (h : ∃ r, Top (shows l t) n r) : Top (shows l t) n (topN (shows l t) n) := by
  obtain ⟨r, hr⟩ := h
  rw [topN_eq hr]; exact hr
theorem top_ex (f : Nat → Int) : ∀ n, ∃ r, Top f n r := by
  have key : ∀ n i, i ≤ n → ∃ r, TopP f n i 0 r := by
    intro n i
    induction i with
    | zero => exact fun _ => ⟨0, TopP.start f n⟩
    | succ i ih =>
      intro h
      obtain ⟨r, hr⟩ := ih (by omega)
      have inner : ∀ j, j ≤ i → ∃ r, TopP f n i j r := by
        intro j
        induction j with
        | zero => exact fun _ => ⟨r, hr⟩
        | succ j ihj =>
          intro hj
          obtain ⟨r2, hr2⟩ := ihj (by omega)
          exact ⟨_, hr2.step (by omega) (by omega)⟩
      obtain ⟨r3, hr3⟩ := inner i (Nat.le_refl _)
      exact ⟨r3, hr3.next⟩
  intro n
  obtain ⟨r, hr⟩ := key n n (Nat.le_refl _)
  exact ⟨r, hr.top⟩
end Go.Proofs.Ytpnigndobhbfnaa
