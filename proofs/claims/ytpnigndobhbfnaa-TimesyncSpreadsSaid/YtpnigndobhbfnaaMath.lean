/- The plain arithmetic of clocks that drift: what a clock shows at a time, the least time at which it shows something; no program in sight. -/
import Derived.Below
import Derived.Laws.NewBlocks
import Derived.Deep.Quiet
namespace Go.Proofs.Ytpnigndobhbfnaa

/-- What a clock (offset o, drift d) shows at the time t. -/
def rd (o d t : Int) : Int := o + t + t * d / 1000000000

/-- A valid clock. -/
structure Vc (o d : Int) : Prop where
  o0 : -1099511627776 ≤ o
  o1 : o ≤ 1099511627776
  d0 : -100000 ≤ d
  d1 : d ≤ 100000

instance (o d : Int) : Decidable (Vc o d) :=
  decidable_of_iff (-1099511627776 ≤ o ∧ o ≤ 1099511627776 ∧ -100000 ≤ d ∧ d ≤ 100000)
    ⟨fun ⟨a, b, c, e⟩ => ⟨a, b, c, e⟩, fun ⟨a, b, c, e⟩ => ⟨a, b, c, e⟩⟩

/-- A product with a drift, bounded. -/
theorem mul_bd {t d : Int} (h0 : 0 ≤ t) (d0 : -100000 ≤ d) (d1 : d ≤ 100000) : -100000 * t ≤ t * d ∧ t * d ≤ 100000 * t := by
  have a := Int.mul_le_mul_of_nonneg_left d1 h0
  have b := Int.mul_le_mul_of_nonneg_left d0 h0
  omega

theorem rd_succ (o : Int) {d t : Int} (d0 : -100000 ≤ d) (d1 : d ≤ 100000) : rd o d t ≤ rd o d (t + 1) ∧ rd o d (t + 1) ≤ rd o d t + 2 := by
  unfold rd
  rw [Int.add_mul, Int.one_mul]
  generalize t * d = q
  omega

/-- The growth in a time e, between the floor and one more. -/
theorem rd_add (o d t e : Int) : rd o d t + e + e * d / 1000000000 ≤ rd o d (t + e) ∧ rd o d (t + e) ≤ rd o d t + e + e * d / 1000000000 + 1 := by
  unfold rd
  rw [Int.add_mul]
  generalize t * d = q
  generalize e * d = r
  omega

theorem rd_mono (o : Int) {d t u : Int} (d0 : -100000 ≤ d) (d1 : d ≤ 100000) (h : t ≤ u) : rd o d t ≤ rd o d u := by
  have a := rd_add o d t (u - t)
  have b := mul_bd (t := u - t) (by omega) d0 d1
  rw [show t + (u - t) = u by omega] at a
  generalize (u - t) * d = r at a b
  omega

theorem rd_bd {o d t : Int} (hv : Vc o d) (h0 : 0 ≤ t) (h1 : t ≤ 1099511627776) : -1099621578939 ≤ rd o d t ∧ rd o d t ≤ 2199133206715 := by
  have b := mul_bd h0 hv.d0 hv.d1
  have := hv.o0
  have := hv.o1
  unfold rd
  generalize t * d = q at b ⊢
  omega

theorem rd_zero (o d : Int) : rd o d 0 = o := by unfold rd; omega

/-- Go's floor: a truncated quotient, less 1 where the rest is negative. -/
theorem floor_neg {a : Int} (h : a.tmod 1000000000 < 0) : a.tdiv 1000000000 - 1 = a / 1000000000 := by
  have h1 := Int.mul_tdiv_add_tmod a 1000000000
  have h2 : -1000000000 < a.tmod 1000000000 := Int.lt_tmod_of_pos a (by omega)
  generalize a.tmod 1000000000 = m at *
  generalize a.tdiv 1000000000 = q at *
  omega
theorem floor_pos {a : Int} (h : ¬ a.tmod 1000000000 < 0) : a.tdiv 1000000000 = a / 1000000000 := by
  have h1 := Int.mul_tdiv_add_tmod a 1000000000
  have h2 : a.tmod 1000000000 < 1000000000 := Int.tmod_lt_of_pos a (by omega)
  generalize a.tmod 1000000000 = m at *
  generalize a.tdiv 1000000000 = q at *
  omega

/-- The least time at which a clock shows x or more. -/
structure IsRch (o d x r : Int) : Prop where
  lo : 0 ≤ r
  hi : r ≤ 1099511627776
  at_ : x ≤ rd o d r
  before : ∀ t, 0 ≤ t → t < r → rd o d t < x

theorem IsRch.uniq {o d x r s : Int} (a : IsRch o d x r) (b : IsRch o d x s) : r = s := by
  rcases Int.lt_trichotomy r s with h | h | h
  · have := b.before r a.lo h; have := a.at_; omega
  · exact h
  · have := a.before s b.lo h; have := b.at_; omega

open Classical in
noncomputable def rch (o d x : Int) : Int := if h : ∃ r, IsRch o d x r then Classical.choose h else 0

theorem rch_eq {o d x r : Int} (a : IsRch o d x r) : rch o d x = r := by
  unfold rch
  have h : ∃ r, IsRch o d x r := ⟨r, a⟩
  rw [dif_pos h]
  exact (Classical.choose_spec h).uniq a

/-- There is one where the clock shows x at last. -/
theorem rch_ex (o d x : Int) (n : Nat) (h : x ≤ rd o d n) (hn : (n : Int) ≤ 1099511627776) : ∃ r, IsRch o d x r := by
  have key : ∀ m : Nat, m ≤ n → (∀ t : Int, 0 ≤ t → t < m → rd o d t < x) ∨ ∃ r, IsRch o d x r := by
    intro m
    induction m with
    | zero => intro _; left; intro t h0 h1; omega
    | succ m ih =>
      intro hm
      rcases ih (by omega) with h1 | h1
      · by_cases hx : x ≤ rd o d m
        · right; exact ⟨m, by omega, by omega, hx, h1⟩
        · left
          intro t h0 h2
          by_cases e : t = m
          · subst e; omega
          · exact h1 t h0 (by omega)
      · exact Or.inr h1
  rcases key n (Nat.le_refl _) with h1 | h1
  · exact ⟨n, by omega, hn, h, h1⟩
  · exact h1

theorem rch_is {o d x : Int} (h : x ≤ rd o d 1099511627776) : IsRch o d x (rch o d x) := by
  obtain ⟨r, hr⟩ := rch_ex o d x 1099511627776 h (by omega)
  rw [rch_eq hr]; exact hr

/-- Where the binary search has closed in. -/
theorem rch_of {o d x r : Int} (lo : 0 ≤ r) (hi : r ≤ 1099511627776) (a : x ≤ rd o d r) (b : ∀ t, 0 ≤ t → t < r → rd o d t < x) : rch o d x = r := rch_eq ⟨lo, hi, a, b⟩

/-- What lay in the world when a call began is as it was. -/
def Gr (w w' : World) : Prop := RowKit.Below w.heap.size w w'

theorem Gr.refl (w : World) : Gr w w := RowKit.Below.refl _ _
theorem Gr.trans {a b c : World} (h : Gr a b) (k : Gr b c) : Gr a c := RowKit.Below.trans h (RowKit.Below.mono k (RowKit.Below.size h))
theorem Gr.alloc {a w : World} (h : Gr a w) (o : Obj) : Gr a (w.alloc o) := RowKit.Below.alloc h (RowKit.Below.size h) o
theorem Gr.drewN {a w : World} (h : Gr a w) (n : Nat) : Gr a (w.drewN n) :=
  let k : RowKit.Below a.heap.size a w := h
  (⟨k.os, k.tape, k.output, k.size, k.block⟩ : RowKit.Below a.heap.size a (w.drewN n))
theorem Gr.drew {a w : World} (h : Gr a w) : Gr a w.drew := RowKit.Below.drew h
theorem Gr.set {a w : World} (h : Gr a w) {p : Addr} (hp : a.heap.size ≤ p.block) (u : Value) : Gr a (w.setCell p u) := RowKit.Below.setCell h hp u
theorem Gr.cell {a w : World} (h : Gr a w) {b : Nat} (hb : b < a.heap.size) (i : Nat) : w.cell? ⟨b, i, none⟩ = a.cell? ⟨b, i, none⟩ := RowKit.Below.cell (p := ⟨b, i, none⟩) h hb
theorem Gr.frozen {a w : World} (h : Gr a w) {b : Nat} (hb : b < a.heap.size) (i : Nat) : w.frozen? ⟨b, i, none⟩ = a.frozen? ⟨b, i, none⟩ := RowKit.Below.frozen (p := ⟨b, i, none⟩) h hb
theorem Gr.size {a w : World} (h : Gr a w) : a.heap.size ≤ w.heap.size := RowKit.Below.size h

/-- A clock lies in block B. -/
structure Ck (w : World) (B : Nat) (o d : Int) : Prop where
  c0 : w.cell? ⟨B, 0, none⟩ = some (.int .i64 o)
  c1 : w.cell? ⟨B, 1, none⟩ = some (.int .i64 d)
  lt : B < w.heap.size
  f0 : w.frozen? ⟨B, 0, none⟩ = false
  f1 : w.frozen? ⟨B, 1, none⟩ = false

theorem Ck.gr {w w' : World} {B : Nat} {o d : Int} (k : Ck w B o d) (h : Gr w w') : Ck w' B o d :=
  ⟨(h.cell k.lt 0).trans k.c0, (h.cell k.lt 1).trans k.c1, Nat.lt_of_lt_of_le k.lt h.size, (h.frozen k.lt 0).trans k.f0, (h.frozen k.lt 1).trans k.f1⟩

#print axioms rch_is
end Go.Proofs.Ytpnigndobhbfnaa
