/- The plain arithmetic of guard times: growth, length, step and spread; how clocks grow apart; no program in sight. -/
import Derived.Test.YtpnigndobhbfnaaMath
namespace Go.Proofs.Ytpnigndobhbfnaa

/-- The growth in a time t with the drift bound k. -/
def gro (t k : Int) : Int := 2 * t * k / 1000000000 + 2
/-- The length of n slots. -/
def len (n k : Int) : Int := ((n * 10000 + 1) * 1000000000 + (1000000000 - k) - 1) / (1000000000 - k)
def stp (n k : Int) : Int := 1 + gro (len n k) k
def spr (a b n k : Int) : Int := (a + b) * stp n k

theorem prod_bd {t k m : Int} (t0 : 0 ≤ t) (t1 : t ≤ m) (k0 : 0 ≤ k) (k1 : k ≤ 100000) : 0 ≤ 2 * t * k ∧ 2 * t * k ≤ 200000 * m := by
  have a : 0 ≤ 2 * t * k := Int.mul_nonneg (by omega) k0
  have b : 2 * t * k ≤ 2 * t * 100000 := Int.mul_le_mul_of_nonneg_left k1 (by omega)
  omega

theorem gro_bd {t k m : Int} (t0 : 0 ≤ t) (t1 : t ≤ m) (k0 : 0 ≤ k) (k1 : k ≤ 100000) : 2 ≤ gro t k ∧ gro t k ≤ m / 5000 + 2 := by
  have h := prod_bd t0 t1 k0 k1
  unfold gro
  generalize 2 * t * k = q at h ⊢
  omega

theorem gro_mono {t u k l : Int} (t0 : 0 ≤ t) (h : t ≤ u) (k0 : 0 ≤ k) (hk : k ≤ l) : gro t k ≤ gro u l := by
  unfold gro
  have a : 2 * t * k ≤ 2 * t * l := Int.mul_le_mul_of_nonneg_left hk (by omega)
  have b : 2 * t * l ≤ 2 * u * l := Int.mul_le_mul_of_nonneg_right (by omega) (by omega)
  generalize 2 * t * k = p at a
  generalize 2 * t * l = q at a b
  generalize 2 * u * l = r at b
  omega

/-- The least integer that is not less than a quotient. -/
theorem len_spec {n k : Int} (k1 : k ≤ 100000) : (n * 10000 + 1) * 1000000000 ≤ len n k * (1000000000 - k) ∧ (len n k - 1) * (1000000000 - k) < (n * 10000 + 1) * 1000000000 := by
  unfold len
  have hp : 0 < 1000000000 - k := by omega
  generalize hr : 1000000000 - k = r at hp
  generalize hm : (n * 10000 + 1) * 1000000000 = m
  have a := Int.mul_ediv_add_emod (m + r - 1) r
  have b := Int.emod_nonneg (m + r - 1) (by omega : r ≠ 0)
  have c := Int.emod_lt_of_pos (m + r - 1) hp
  generalize (m + r - 1) % r = e at a b c
  generalize (m + r - 1) / r = q at a
  rw [Int.sub_mul, Int.one_mul, Int.mul_comm q r]
  omega

theorem len_least {n k x : Int} (k1 : k ≤ 100000) (h : (n * 10000 + 1) * 1000000000 ≤ x * (1000000000 - k)) : len n k ≤ x := by
  have s := (len_spec (n := n) k1).2
  by_cases hx : len n k ≤ x
  · exact hx
  · have h2 : x * (1000000000 - k) ≤ (len n k - 1) * (1000000000 - k) := Int.mul_le_mul_of_nonneg_right (by omega) (by omega)
    omega

theorem len_lo {n k : Int} (n0 : 0 ≤ n) (k1 : k ≤ 100000) : 1 ≤ len n k := by
  have s := (len_spec (n := n) k1).1
  by_cases hx : 1 ≤ len n k
  · exact hx
  · have h2 : len n k * (1000000000 - k) ≤ 0 * (1000000000 - k) := Int.mul_le_mul_of_nonneg_right (by omega) (by omega)
    omega

theorem len_mono {n m k l : Int} (n0 : 0 ≤ n) (h : n ≤ m) (hk : k ≤ l) (l1 : l ≤ 100000) : len n k ≤ len m l := by
  apply len_least (by omega)
  have s := (len_spec (n := m) l1).1
  have e := len_lo (n := m) (by omega) l1
  have h2 : len m l * (1000000000 - l) ≤ len m l * (1000000000 - k) := Int.mul_le_mul_of_nonneg_left (by omega) (by omega)
  omega

theorem len_hi {n k : Int} (n0 : 0 ≤ n) (n1 : n ≤ 4097) (k0 : 0 ≤ k) (k1 : k ≤ 100000) : len n k ≤ 40980000 := by
  apply len_least k1
  have : 40980000 * (1000000000 - 100000) ≤ 40980000 * (1000000000 - k) := Int.mul_le_mul_of_nonneg_left (by omega) (by omega)
  omega

theorem stp_bd {n k : Int} (n0 : 0 ≤ n) (n1 : n ≤ 4097) (k0 : 0 ≤ k) (k1 : k ≤ 100000) : 3 ≤ stp n k ∧ stp n k ≤ 8199 := by
  have a := gro_bd (t := len n k) (m := 40980000) (by have := len_lo (k := k) n0 k1; omega) (len_hi n0 n1 k0 k1) k0 k1
  unfold stp
  omega

theorem stp_mono {n m k l : Int} (n0 : 0 ≤ n) (h : n ≤ m) (k0 : 0 ≤ k) (hk : k ≤ l) (l1 : l ≤ 100000) : stp n k ≤ stp m l := by
  have a := gro_mono (t := len n k) (u := len m l) (by have := len_lo (k := k) n0 (by omega); omega) (len_mono n0 h hk l1) k0 hk
  unfold stp
  omega

theorem spr_bd {a b n k : Int} (a0 : 0 ≤ a) (a1 : a ≤ 32) (b0 : 0 ≤ b) (b1 : b ≤ 32) (n0 : 0 ≤ n) (n1 : n ≤ 4097) (k0 : 0 ≤ k) (k1 : k ≤ 100000) : 0 ≤ spr a b n k ∧ spr a b n k ≤ 524736 := by
  have s := stp_bd n0 n1 k0 k1
  unfold spr
  have h1 : 0 ≤ (a + b) * stp n k := Int.mul_nonneg (by omega) (by omega)
  have h2 : (a + b) * stp n k ≤ (a + b) * 8199 := Int.mul_le_mul_of_nonneg_left (by omega) (by omega)
  omega

theorem spr_mono {a b c e n m k l : Int} (a0 : 0 ≤ a) (b0 : 0 ≤ b) (ha : a ≤ c) (hb : b ≤ e) (n0 : 0 ≤ n) (n1 : m ≤ 4097) (h : n ≤ m) (k0 : 0 ≤ k) (hk : k ≤ l) (l1 : l ≤ 100000) : spr a b n k ≤ spr c e m l := by
  have s := stp_mono n0 h k0 hk l1
  have t := stp_bd (k := l) (n := m) (by omega) n1 (by omega) l1
  unfold spr
  have h1 : (a + b) * stp n k ≤ (a + b) * stp m l := Int.mul_le_mul_of_nonneg_left s (by omega)
  have h2 : (a + b) * stp m l ≤ (c + e) * stp m l := Int.mul_le_mul_of_nonneg_right (by omega) (by omega)
  omega

/-- The slots between corrections. -/
structure IsSl (a b k r : Int) : Prop where
  lo : 0 ≤ r
  hi : r ≤ 4096
  in_ : spr a b r k ≤ 1100
  out : r = 4096 ∨ 1100 < spr a b (r + 1) k

theorem IsSl.uniq {a b k r s : Int} (a0 : 0 ≤ a) (b0 : 0 ≤ b) (k0 : 0 ≤ k) (k1 : k ≤ 100000) (x : IsSl a b k r) (y : IsSl a b k s) : r = s := by
  have x1 := x.lo; have x2 := x.hi; have x3 := x.in_; have x4 := x.out
  have y1 := y.lo; have y2 := y.hi; have y3 := y.in_; have y4 := y.out
  rcases Int.lt_trichotomy r s with h | h | h
  · have := spr_mono (a := a) (b := b) (c := a) (e := b) (n := r + 1) (m := s) (k := k) (l := k) a0 b0 (Int.le_refl _) (Int.le_refl _) (by omega) (by omega) (by omega) k0 (Int.le_refl _) k1
    omega
  · exact h
  · have := spr_mono (a := a) (b := b) (c := a) (e := b) (n := s + 1) (m := r) (k := k) (l := k) a0 b0 (Int.le_refl _) (Int.le_refl _) (by omega) (by omega) (by omega) k0 (Int.le_refl _) k1
    omega

open Classical in
noncomputable def slo (a b k : Int) : Int := if h : ∃ r, IsSl a b k r then Classical.choose h else 0

theorem slo_eq {a b k r : Int} (a0 : 0 ≤ a) (b0 : 0 ≤ b) (k0 : 0 ≤ k) (k1 : k ≤ 100000) (x : IsSl a b k r) : slo a b k = r := by
  unfold slo
  have h : ∃ r, IsSl a b k r := ⟨r, x⟩
  rw [dif_pos h]
  exact (Classical.choose_spec h).uniq a0 b0 k0 k1 x

/-- Two clocks with drifts within the bound grow apart by at most the growth. -/
theorem apart_grow {o d p e t u k : Int} (hu : 0 ≤ u) (d0 : -k ≤ d) (d1 : d ≤ k) (e0 : -k ≤ e) (e1 : e ≤ k) :
    (rd p e (t + u) - rd o d (t + u)) - (rd p e t - rd o d t) ≤ gro u k ∧ -(gro u k) ≤ (rd p e (t + u) - rd o d (t + u)) - (rd p e t - rd o d t) := by
  have a := rd_add o d t u
  have b := rd_add p e t u
  have c1 := Int.mul_le_mul_of_nonneg_left d1 hu
  have c2 := Int.mul_le_mul_of_nonneg_left d0 hu
  have c3 := Int.mul_le_mul_of_nonneg_left e1 hu
  have c4 := Int.mul_le_mul_of_nonneg_left e0 hu
  have c5 : 2 * u * k = u * k + u * k := by rw [Int.mul_assoc]; omega
  rw [Int.mul_neg] at c2 c4
  unfold gro
  rw [c5]
  generalize u * k = m at *
  generalize u * d = q at *
  generalize u * e = s at *
  omega

/-- While the length of n slots passes, a clock with a drift within the bound shows n slots more. -/
theorem lasts {o d t n k : Int} (n0 : 0 ≤ n) (hk : 0 ≤ k) (d0 : -k ≤ d) (k1 : k ≤ 100000) : n * 10000 ≤ len n k ∧ rd o d t + n * 10000 ≤ rd o d (t + len n k) := by
  have s := (len_spec (n := n) k1).1
  have l := len_lo n0 k1
  have a := rd_add o d t (len n k)
  have c := Int.mul_le_mul_of_nonneg_left d0 (show 0 ≤ len n k by omega)
  rw [Int.mul_neg] at c
  rw [Int.mul_sub] at s
  have := Int.mul_nonneg (show 0 ≤ len n k by omega) hk
  generalize len n k * k = m at *
  generalize len n k * d = q at *
  omega
end Go.Proofs.Ytpnigndobhbfnaa
