/- The greatest difference of what clocks show; a slice of its own with its capacity. -/
import Derived.Test.YtpnigndobhbfnaaCl
namespace Go.Proofs.Ytpnigndobhbfnaa
open Go.RowKit
/-- r is the greatest difference of f's first n values. -/
structure Top (f : Nat → Int) (n : Nat) (r : Int) : Prop where
  pos : 0 ≤ r
  all : ∀ a b, a < n → b < n → f a - f b ≤ r
  some_ : r = 0 ∨ ∃ a b, a < n ∧ b < n ∧ r = f a - f b
theorem Top.uniq {f : Nat → Int} {n : Nat} {r s : Int} (h : Top f n r) (k : Top f n s) : r = s := by
  have h1 : r ≤ s := by
    rcases h.some_ with e | ⟨a, b, ha, hb, e⟩
    · rw [e]; exact k.pos
    · rw [e]; exact k.all a b ha hb
  have h2 : s ≤ r := by
    rcases k.some_ with e | ⟨a, b, ha, hb, e⟩
    · rw [e]; exact h.pos
    · rw [e]; exact h.all a b ha hb
  omega
open Classical in
noncomputable def topN (f : Nat → Int) (n : Nat) : Int := if h : ∃ r, Top f n r then Classical.choose h else 0
theorem topN_eq {f : Nat → Int} {n : Nat} {r : Int} (h : Top f n r) : topN f n = r := by
  unfold topN
  have hx : ∃ r, Top f n r := ⟨r, h⟩
  rw [dif_pos hx]
  exact (Classical.choose_spec hx).uniq h
/-- What the clocks of a list show. -/
def shows (l : List Sy) (t : Int) (i : Nat) : Int := rd (l.getD i Sy0).o (l.getD i Sy0).k t
/-- A list whose spread may be asked for. -/
def spOk (l : List Sy) : Prop := l.length ≤ 32 ∧ allV l
instance (l : List Sy) : Decidable (spOk l) := inferInstanceAs (Decidable (_ ∧ _))
noncomputable def spN (l : List Sy) (t : Int) : Int := if spOk l ∧ inTime t then topN (shows l t) l.length else 0
def spE (l : List Sy) (t : Int) : Int := if spOk l then (if inTime t then 0 else 2) else 1
/-- The pairs that are gone through when a is at i and b at j, both ways. -/
structure TopP (f : Nat → Int) (n i j : Nat) (r : Int) : Prop where
  pos : 0 ≤ r
  all : ∀ a b, (a < i ∧ b < a ∨ a = i ∧ b < j) → f a - f b ≤ r ∧ f b - f a ≤ r
  some_ : r = 0 ∨ ∃ a b, a < n ∧ b < n ∧ r = f a - f b
theorem TopP.start (f : Nat → Int) (n : Nat) : TopP f n 0 0 0 := ⟨Int.le_refl _, fun a b h => by omega, Or.inl rfl⟩
theorem TopP.step {f : Nat → Int} {n i j : Nat} {r : Int} (h : TopP f n i j r) (hi : i < n) (hj : j < n) : TopP f n i (j + 1) (max (max r (f j - f i)) (-(f j - f i))) := by
  refine ⟨by have := h.pos; omega, fun a b hab => ?_, ?_⟩
  · by_cases e : a = i ∧ b = j
    · rw [e.1, e.2]; omega
    · have := h.all a b (by omega)
      omega
  · by_cases h1 : r < f j - f i ∨ r < -(f j - f i)
    · rcases Int.lt_or_le (f j - f i) 0 with h2 | h2
      · exact Or.inr ⟨i, j, hi, hj, by have := h.pos; omega⟩
      · exact Or.inr ⟨j, i, hj, hi, by have := h.pos; omega⟩
    · rw [show max (max r (f j - f i)) (-(f j - f i)) = r by omega]
      exact h.some_
theorem TopP.same {f : Nat → Int} {n i j : Nat} {r : Int} (h : TopP f n i j r) (e : f i = f j) : TopP f n i (j + 1) r :=
  ⟨h.pos, fun a b hab => by
    by_cases e2 : a = i ∧ b = j
    · rw [e2.1, e2.2, e]; have := h.pos; omega
    · exact h.all a b (by omega), h.some_⟩
theorem TopP.next {f : Nat → Int} {n i : Nat} {r : Int} (h : TopP f n i i r) : TopP f n (i + 1) 0 r :=
  ⟨h.pos, fun a b hab => h.all a b (by omega), h.some_⟩
theorem TopP.top {f : Nat → Int} {n : Nat} {r : Int} (h : TopP f n n 0 r) : Top f n r :=
  ⟨h.pos, fun a b ha hb => by
    rcases Nat.lt_trichotomy a b with h1 | h1 | h1
    · exact (h.all b a (by omega)).2
    · subst h1; have := h.pos; omega
    · exact (h.all a b (by omega)).1, h.some_⟩
/-- The pairs that are gone through when a is at i and b at j, one way. -/
structure TopQ (f : Nat → Int) (n i j : Nat) (r : Int) : Prop where
  pos : 0 ≤ r
  all : ∀ a b, b < n → (a < i ∨ a = i ∧ b < j) → f a - f b ≤ r
  some_ : r = 0 ∨ ∃ a b, a < n ∧ b < n ∧ r = f a - f b
theorem TopQ.start (f : Nat → Int) (n : Nat) : TopQ f n 0 0 0 := ⟨Int.le_refl _, fun a b _ h => by omega, Or.inl rfl⟩
theorem TopQ.step {f : Nat → Int} {n i j : Nat} {r : Int} (h : TopQ f n i j r) (hi : i < n) (hj : j < n) : TopQ f n i (j + 1) (max r (f i - f j)) := by
  refine ⟨by have := h.pos; omega, fun a b hb hab => ?_, ?_⟩
  · by_cases e : a = i ∧ b = j
    · rw [e.1, e.2]; omega
    · have := h.all a b hb (by omega)
      omega
  · by_cases h1 : r < f i - f j
    · exact Or.inr ⟨i, j, hi, hj, by omega⟩
    · rw [show max r (f i - f j) = r by omega]
      exact h.some_
theorem TopQ.next {f : Nat → Int} {n i : Nat} {r : Int} (h : TopQ f n i n r) : TopQ f n (i + 1) 0 r :=
  ⟨h.pos, fun a b hb hab => h.all a b hb (by omega), h.some_⟩
theorem TopQ.top {f : Nat → Int} {n : Nat} {r : Int} (h : TopQ f n n 0 r) : Top f n r :=
  ⟨h.pos, fun a b ha hb => h.all a b hb (by omega), h.some_⟩
/-- v is a slice of its own with its capacity. -/
def Owc (base : Nat) (w : World) (v : Value) (n : Nat) (cs : List Value) : Prop :=
  (v = .slice none 0 0 ∧ n = 0 ∧ cs = []) ∨ ∃ g cap, v = .slice (some ⟨g, 0, none⟩) n cap ∧ n ≤ cap ∧ base ≤ g ∧ Bx w g cs
theorem Owc.ow {base : Nat} {w : World} {v : Value} {n : Nat} {cs : List Value} (h : Owc base w v n cs) : Ow base w v n cs := by
  rcases h with h | ⟨g, cap, e, _, l, k⟩
  · exact Or.inl h
  · exact Or.inr ⟨g, cap, e, l, k⟩
theorem Owc.gr {base : Nat} {w w' : World} {v : Value} {n : Nat} {cs : List Value} (h : Owc base w v n cs) (g : Gr w w') : Owc base w' v n cs := by
  rcases h with h | ⟨b, cap, e, q, l, c⟩
  · exact Or.inl h
  · exact Or.inr ⟨b, cap, e, q, l, c.gr g⟩
theorem Owc.of_row {w : World} {base size n : Nat} {e : TypeId} {v : Value} {xs : List Value} (h : w.ownsRow base e size v n xs) : Owc base w v n xs := by
  have ho := Ow.of_row h
  obtain ⟨hl, h⟩ := h
  rcases h with ⟨rfl, rfl⟩ | ⟨g, cap, cur, rfl, hb, hg, hn, _, hs, ht⟩
  · exact Or.inl ⟨rfl, rfl, List.length_eq_zero_iff.1 (by rw [hl, Nat.zero_mul])⟩
  · rcases ho with ⟨h, _, _⟩ | ⟨g', cap', e, l, k⟩
    · cases h
    · injection e with e1 _ e3
      injection e1 with e1
      injection e1 with e1
      subst e1
      exact Or.inr ⟨g, cap, rfl, hn, hb, k⟩
theorem Cl46c (v : Value) (n : Nat) (l : List Sy) (w : World) (h : Sz w v n (Lv l)) (hl : l.length = n) (hn : n ≤ 1000) :
    Calls Try.prog 46 #[v] w fun e w' => ∃ v', e = .returned v' ∧ Owc w.heap.size w' v' n (Lv l) ∧ Gr w w' := by
  rcases h with ⟨a, c, rfl, rfl, hz⟩ | ⟨b, off, cap, rfl, _, hc⟩
  · rw [hz]
    cases a with
    | some a =>
      have := CloneE_zero Try.clone46 Try.i45 (.agg #[.int .i64 0, .int .i64 0, .int .i64 0, .int .i64 0]) 4 32 (by rw [cl46_t]; kernel_rfl) (by kernel_rfl) (by kernel_rfl) (by kernel_rfl) rfl (by decide) (by rw [cl46_t]; exact Try.sizeOf45) a c w
      rw [cl46_f] at this
      exact this.mono fun e w' ⟨v', he, ho, hb⟩ => ⟨v', he, Owc.of_row ho, hb⟩
    | none =>
      have := AnyE.slices_Clone_nil Try.clone46 0 c w
      rw [cl46_f] at this
      exact this.mono fun e w' ⟨he, hw⟩ => ⟨_, he, Or.inl ⟨rfl, rfl, rfl⟩, hw ▸ Gr.refl _⟩
  · have := AnyE.slices_Clone Try.clone46 Try.i45 (.agg #[.int .i64 0, .int .i64 0, .int .i64 0, .int .i64 0]) 4 32 (by rw [cl46_t]; kernel_rfl) (by kernel_rfl) (by kernel_rfl) (by kernel_rfl) rfl (by decide) (by rw [cl46_t]; exact Try.sizeOf45) b off n cap (Lv l) w (by rw [Lv_len, hl]) (by unfold maxLen; omega) (by omega) hc Lv_one
    rw [cl46_f] at this
    exact this.mono fun e w' ⟨v', he, ho, _, hb⟩ => ⟨v', he, Owc.of_row ho, hb⟩
end Go.Proofs.Ytpnigndobhbfnaa
