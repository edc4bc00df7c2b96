/- Two clocks of a tree that is corrected differ by at most the sum of their depths times one step. -/
import Derived.Test.YtpnigndobhbfnaaRn
import Derived.Test.YtpnigndobhbfnaaGMath
namespace Go.Proofs.Ytpnigndobhbfnaa
open Go.RowKit
/-- What an answer of Send says: the time is the first one at which the clock shows it. -/
theorem in_rch {o d n : Int} (e : inE o d n 2120 = 0) : Vc o d ∧ inSlot n ∧ n * 10000 + 2120 ≤ rd o d 1099511627776 ∧ inN o d n 2120 = rch o d (n * 10000 + 2120) := by
  unfold inE at e
  split at e
  · rename_i h
    split at e
    · rename_i h1
      split at e
      · rename_i h2
        refine ⟨h, h1, h2, ?_⟩
        unfold inN
        rw [if_pos ⟨h, h1, h2⟩]
      · simp at e
    · simp at e
  · simp at e
theorem in_time {o d n : Int} (e : inE o d n 2120 = 0) : inTime (inN o d n 2120) := by
  obtain ⟨_, _, h, h1⟩ := in_rch e
  have := rch_is h
  rw [h1]
  exact ⟨this.lo, this.hi⟩
/-- A clock shows what it is to show, or one more, when it reaches it. -/
theorem in_shows {o d n : Int} (e : inE o d n 2120 = 0) (h0 : inN o d n 2120 ≠ 0) : n * 10000 + 2120 ≤ rd o d (inN o d n 2120) ∧ rd o d (inN o d n 2120) ≤ n * 10000 + 2121 := by
  obtain ⟨hv, _, h, h1⟩ := in_rch e
  have r := rch_is h
  rw [h1] at h0 ⊢
  generalize rch o d (n * 10000 + 2120) = t at r h0 ⊢
  have l := r.lo
  refine ⟨r.at_, ?_⟩
  have b := r.before (t - 1) (by omega) (by omega)
  have s := (rd_succ o (d := d) (t := t - 1) hv.d0 hv.d1).2
  rw [show t - 1 + 1 = t by omega] at s
  omega
theorem rd_shift (o d b t : Int) : rd (o + b) d t = rd o d t + b := by unfold rd; omega
theorem co_is {x : Sy} {n d : Int} (e : (co x n d).2 = 0) : (co x n d).1.o = x.o + d ∧ (co x n d).1.k = x.k := by
  unfold co at e ⊢
  split at e
  · simp at e
  split at e
  · simp at e
  split at e
  · simp at e
  split at e
  · rename_i h1 h2 h3 h4
    rw [if_neg h1, if_neg h2, if_neg h3, if_pos h4]
    exact ⟨rfl, rfl⟩
  · simp at e
theorem ac_is {x : Sy} {n d : Int} (e : (ac x n d).2 = 0) : (ac x n d).1.o = x.o + d ∧ (ac x n d).1.k = x.k := by
  unfold ac at e ⊢
  split at e
  · rename_i h
    rw [if_pos h]
    split at e
    · rename_i hn
      rw [if_pos hn]
      exact co_is e
    · simp at e
  · simp at e
theorem he_is {x : Sy} {n t : Int} (e : (he x n t).2 = 0) : (he x n t).1.o = x.o + -(rd x.o x.k t - (n * 10000 + 2120)) ∧ (he x n t).1.k = x.k := by
  unfold he at e ⊢
  split at e
  · rename_i h
    rw [if_pos h]
    split at e
    · rename_i hn
      rw [if_pos hn]
      exact co_is e
    · simp at e
  · simp at e
/-- When a frame is sent. -/
noncomputable def sentAt (own par : Sy) (n : Int) (a : Bool) : Int := if a = true then inN own.o own.k n 2120 else inN par.o par.k n 2120
/-- A corrected node and its parent differ by at most 1 when the frame was sent. -/
theorem pair_meets {own par : Sy} {n : Int} {a : Bool} (hp : par.Vs) (e : (pairN own par n a).2 = 0) (h0 : sentAt own par n a ≠ 0) :
    rd (pairN own par n a).1.o (pairN own par n a).1.k (sentAt own par n a) - rd par.o par.k (sentAt own par n a) ≤ 1 ∧
    -1 ≤ rd (pairN own par n a).1.o (pairN own par n a).1.k (sentAt own par n a) - rd par.o par.k (sentAt own par n a) ∧ (pairN own par n a).1.k = own.k ∧ Vc own.o own.k := by
  have hp' : Ytpnigndobhbfnaa.Vs par.o par.k par.s par.c := hp
  have ho : (pairN own par n a).2 = 0 → own.Vs := by
    intro e
    unfold pairN at e
    split at e
    · split at e
      · unfold ac at e
        split at e
        · assumption
        · simp at e
      · exact absurd e (by assumption)
    · split at e
      · unfold he at e
        split at e
        · assumption
        · simp at e
      · exact absurd e (by assumption)
  have ho' : Ytpnigndobhbfnaa.Vs own.o own.k own.s own.c := ho e
  unfold pairN at e ⊢
  unfold sentAt at h0 ⊢
  by_cases ha : a = true
  · simp only [if_pos ha] at e h0 ⊢
    split at e
    · rename_i h1
      rw [if_pos h1]
      obtain ⟨e1, e2⟩ := ac_is e
      have s := in_shows h1 h0
      have t := in_time h1
      obtain ⟨_, hs, _⟩ := in_rch h1
      rw [e1, e2, rd_shift]
      have hm : meN par.o par.k n (inN own.o own.k n 2120) = rd par.o par.k (inN own.o own.k n 2120) - (n * 10000 + 2120) := if_pos ⟨hp'.vc, hs, t⟩
      rw [hm]
      exact ⟨by omega, by omega, rfl, ho'.vc⟩
    · exact absurd e (by assumption)
  · simp only [if_neg ha] at e h0 ⊢
    split at e
    · rename_i h1
      rw [if_pos h1]
      obtain ⟨e1, e2⟩ := he_is e
      have s := in_shows h1 h0
      rw [e1, e2, rd_shift]
      exact ⟨by omega, by omega, rfl, ho'.vc⟩
    · exact absurd e (by assumption)
/-- The corrections that the law makes, from node j on, k of them. -/
def stps (slot : Int) : Nat → Nat → List Stp
  | _, 0 => []
  | j, k + 1 => ⟨(j : Int), slot, decide (j % 2 = 0)⟩ :: stps slot (j + 1) k
theorem stps_mem {slot : Int} : ∀ {k j : Nat} {x : Stp}, x ∈ stps slot j k → (j : Int) ≤ x.m
  | 0, j, x, h => by cases h
  | k + 1, j, x, h => by
    rcases List.mem_cons.1 h with rfl | h
    · exact Int.le_refl _
    · have := stps_mem h; omega
theorem stps_snoc {slot : Int} : ∀ (k j : Nat), stps slot j k ++ [⟨((j + k : Nat) : Int), slot, decide ((j + k) % 2 = 0)⟩] = stps slot j (k + 1)
  | 0, j => rfl
  | k + 1, j => by
    show _ :: (stps slot (j + 1) k ++ _) = _ :: stps slot (j + 1) (k + 1)
    rw [← stps_snoc k (j + 1), show j + 1 + k = j + (k + 1) by omega]
/-- Each node's last state is what its correction by its parent's last state comes to. -/
theorem runs_all {zs : List Int} {slot : Int} (hz : ∀ j, 0 < j → j < zs.length → ∃ q : Nat, zs.getD j 0 = (q : Int) ∧ q < j) :
    ∀ {k j i : Nat} {l r : List Sy} {c : Int}, l.length = zs.length → 0 < j → j + k = zs.length → runs zs l (stps slot j k) i = (r, c, 0) →
    ∀ m, j ≤ m → m < zs.length → pairN (l.getD m Sy0) (parOf r zs m) slot (decide (m % 2 = 0)) = (r.getD m Sy0, 0)
  | 0, j, i, l, r, c, hl, hj, hk, e, m, h1, h2 => by omega
  | k + 1, j, i, l, r, c, hl, hj, hk, e, m, h1, h2 => by
    have e' : (if (stepN l zs ⟨(j : Int), slot, decide (j % 2 = 0)⟩).2 = 0 then runs zs (l.set (j : Int).toNat (stepN l zs ⟨(j : Int), slot, decide (j % 2 = 0)⟩).1) (stps slot (j + 1) k) (i + 1) else ([], (i : Int), (stepN l zs ⟨(j : Int), slot, decide (j % 2 = 0)⟩).2)) = (r, c, 0) := e
    split at e'
    · rename_i hs
      rw [Int.toNat_natCast] at e'
      obtain ⟨q, hq, hqj⟩ := hz j hj (by omega)
      have keep : ∀ n, n ≤ j → r.getD n Sy0 = (l.set j (stepN l zs ⟨(j : Int), slot, decide (j % 2 = 0)⟩).1).getD n Sy0 := fun n hn =>
        runs_keep n e' (fun x hx => by have := stps_mem hx; omega)
      by_cases hm : m = j
      · subst hm
        have hst : stepN l zs ⟨(m : Int), slot, decide (m % 2 = 0)⟩ = pairN (l.getD m Sy0) (parOf l zs m) slot (decide (m % 2 = 0)) := by
          unfold stepN
          rw [if_pos ⟨by show (1 : Int) ≤ m; omega, by show (m : Int) < l.length; omega⟩]
          simp only [Int.toNat_natCast]
        have hp : parOf r zs m = parOf l zs m := by
          unfold parOf
          rw [hq, Int.toNat_natCast, keep q (by omega), List.getD_eq_getElem?_getD, List.getD_eq_getElem?_getD, List.getElem?_set_ne (by omega)]
        rw [hp, ← hst]
        refine Prod.ext ?_ hs
        rw [keep m (Nat.le_refl _), List.getD_eq_getElem?_getD, List.getElem?_set_self (by omega)]; rfl
      · have := runs_all hz (by rw [List.length_set]; exact hl) (by omega) (by omega) e' m (by omega) h2
        rw [List.getD_eq_getElem?_getD, List.getElem?_set_ne (by omega), ← List.getD_eq_getElem?_getD] at this
        exact this
    · rename_i hs
      injection e' with _ e'
      injection e' with _ e'
      exact absurd e' hs
theorem abs_tri {a b c x y : Int} (h1 : a - b ≤ x) (h2 : -x ≤ a - b) (h3 : b - c ≤ y) (h4 : -y ≤ b - c) : a - c ≤ x + y ∧ -(x + y) ≤ a - c := by omega
/-- Two clocks of a tree that is corrected differ by at most the sum of their depths times one step. -/
theorem spread_math {zs : List Int} {ds : List Nat} {slot t later : Int} {l r : List Sy} {c : Int} (hd : dep zs = some ds) (hl : l.length = zs.length) (hv : allV l) (hn : 2 ≤ zs.length)
    (hs : ∀ i k, i ≤ k → k < zs.length → ds.getD i 0 ≤ ds.getD k 0) (hr : runs zs l (stps slot 1 (zs.length - 1)) 0 = (r, c, 0)) (h0 : 0 ≤ later)
    (ha : ∀ x, x ∈ r ++ l → inN x.o x.k slot 2120 ≠ 0 ∧ t ≤ inN x.o x.k slot 2120 ∧ inN x.o x.k slot 2120 ≤ t + later) :
    ∀ i k, i < zs.length → k < zs.length → rd (r.getD i Sy0).o (r.getD i Sy0).k (t + later) - rd (r.getD k Sy0).o (r.getD k Sy0).k (t + later) ≤
      ((ds.getD (zs.length - 1) 0 + ds.getD (zs.length - 2) 0 : Nat) : Int) * (1 + gro later 100000) := by
  obtain ⟨hk, hdl, hd0, hnode⟩ := dep_node hd
  obtain ⟨hvr, hrl, _⟩ := runs_ok hv hr
  have hz : ∀ j, 0 < j → j < zs.length → ∃ q : Nat, zs.getD j 0 = (q : Int) ∧ q < j ∧ ds.getD j 0 = ds.getD q 0 + 1 := fun j h1 h2 => by
    obtain ⟨q, e1, e2, e3⟩ := hnode j h1 h2
    refine ⟨q, e1, ?_, e3⟩
    by_cases hq : q < j
    · exact hq
    · have := hs j q (by omega) e2; omega
  have hall := runs_all (fun j h1 h2 => by obtain ⟨q, e1, e2, _⟩ := hz j h1 h2; exact ⟨q, e1, e2⟩) hl (by omega) (by omega) hr
  have g2 := (gro_bd (t := later) (m := later) (k := 100000) h0 (Int.le_refl _) (by omega) (by omega)).1
  generalize hG : 1 + gro later 100000 = G at *
  have mem_r : ∀ i, i < zs.length → r.getD i Sy0 ∈ r ++ l := fun i hi => by
    rw [List.getD_eq_getElem?_getD, List.getElem?_eq_getElem (show i < r.length by omega)]
    exact List.mem_append_left _ (List.getElem_mem _)
  have mem_l : ∀ i, i < zs.length → l.getD i Sy0 ∈ r ++ l := fun i hi => by
    rw [List.getD_eq_getElem?_getD, List.getElem?_eq_getElem (show i < l.length by omega)]
    exact List.mem_append_right _ (List.getElem_mem _)
  have key : ∀ m, m < zs.length →
      rd (r.getD m Sy0).o (r.getD m Sy0).k (t + later) - rd (r.getD 0 Sy0).o (r.getD 0 Sy0).k (t + later) ≤ (ds.getD m 0 : Int) * G ∧
      -((ds.getD m 0 : Int) * G) ≤ rd (r.getD m Sy0).o (r.getD m Sy0).k (t + later) - rd (r.getD 0 Sy0).o (r.getD 0 Sy0).k (t + later) := by
    intro m
    induction m using Nat.strongRecOn with
    | _ m ih =>
      intro hm
      by_cases m0 : m = 0
      · subst m0
        rw [hd0]
        have : ((0 : Nat) : Int) * G = 0 := by simp
        rw [this]
        omega
      · obtain ⟨q, e1, e2, e3⟩ := hz m (by omega) hm
        have hp := hall m (by omega) hm
        have hpar : parOf r zs m = r.getD q Sy0 := by unfold parOf; rw [e1, Int.toNat_natCast]
        rw [hpar] at hp
        have hq : q < zs.length := by omega
        have vp : (r.getD q Sy0).Vs := allV_get hvr (by omega)
        have he2 : (pairN (l.getD m Sy0) (r.getD q Sy0) slot (decide (m % 2 = 0))).2 = 0 := by rw [hp]
        have tm : sentAt (l.getD m Sy0) (r.getD q Sy0) slot (decide (m % 2 = 0)) ≠ 0 ∧ t ≤ sentAt (l.getD m Sy0) (r.getD q Sy0) slot (decide (m % 2 = 0)) ∧ sentAt (l.getD m Sy0) (r.getD q Sy0) slot (decide (m % 2 = 0)) ≤ t + later := by
          unfold sentAt
          split
          · exact ha _ (mem_l m hm)
          · exact ha _ (mem_r q hq)
        obtain ⟨m1, m2, m3, m4⟩ := pair_meets vp he2 tm.1
        generalize sentAt (l.getD m Sy0) (r.getD q Sy0) slot (decide (m % 2 = 0)) = s at m1 m2 tm
        rw [hp] at m1 m2 m3
        have vr' : Ytpnigndobhbfnaa.Vs (r.getD m Sy0).o (r.getD m Sy0).k (r.getD m Sy0).s (r.getD m Sy0).c := allV_get hvr (by omega)
        have vp' : Ytpnigndobhbfnaa.Vs (r.getD q Sy0).o (r.getD q Sy0).k (r.getD q Sy0).s (r.getD q Sy0).c := vp
        have ag := apart_grow (o := (r.getD q Sy0).o) (d := (r.getD q Sy0).k) (p := (r.getD m Sy0).o) (e := (r.getD m Sy0).k) (t := s) (u := t + later - s) (k := 100000) (by omega) vp'.vc.d0 vp'.vc.d1 vr'.vc.d0 vr'.vc.d1
        rw [show s + (t + later - s) = t + later by omega] at ag
        have gm := gro_mono (t := t + later - s) (u := later) (k := 100000) (l := 100000) (by omega) (by omega) (by omega) (by omega)
        have i1 := ih q e2 hq
        have ed : ((ds.getD m 0 : Nat) : Int) * G = ((ds.getD q 0 : Nat) : Int) * G + G := by rw [e3, Int.natCast_add, Int.add_mul]; simp
        rw [ed]
        simp only at m1 m2
        omega
  intro i k hi hk'
  have di := key i hi
  have dk := key k hk'
  have hmul : ∀ {a b : Nat}, a ≤ b → (a : Int) * G ≤ (b : Int) * G := fun {a b} h => Int.mul_le_mul_of_nonneg_right (by omega) (by omega)
  have hadd : ((ds.getD (zs.length - 1) 0 + ds.getD (zs.length - 2) 0 : Nat) : Int) * G = ((ds.getD (zs.length - 1) 0 : Nat) : Int) * G + ((ds.getD (zs.length - 2) 0 : Nat) : Int) * G := by rw [Int.natCast_add, Int.add_mul]
  rw [hadd]
  have p1 := hmul (Nat.zero_le (ds.getD (zs.length - 1) 0))
  have p2 := hmul (Nat.zero_le (ds.getD (zs.length - 2) 0))
  have z0 : ((0 : Nat) : Int) * G = 0 := by simp
  rw [z0] at p1 p2
  rcases Nat.lt_trichotomy i k with h | h | h
  · have a1 := hmul (hs k (zs.length - 1) (by omega) (by omega))
    have a2 := hmul (hs i (zs.length - 2) (by omega) (by omega))
    omega
  · subst h; omega
  · have a1 := hmul (hs i (zs.length - 1) (by omega) (by omega))
    have a2 := hmul (hs k (zs.length - 2) (by omega) (by omega))
    omega
end Go.Proofs.Ytpnigndobhbfnaa
