/- The contracts of this chapter's functions in the form that the laws take. -/
import Derived.Test.YtpnigndobhbfnaaEq
import Derived.Test.YtpnigndobhbfnaaRunno
import Derived.Test.YtpnigndobhbfnaaSprno
import Derived.Test.YtpnigndobhbfnaaRspr
namespace Go.Proofs.Ytpnigndobhbfnaa
open Go.RowKit
theorem keepM {f : FuncId} {args : Array Value} {P : Ending → World → Prop} {w W : World} (J : World → Prop) (hJ : ∀ Z, Gr W Z → J Z) (h : Calls Try.prog f args w fun e w' => P e w' ∧ Gr w w') (hg : Hid (Gr W w)) :
    Calls Try.prog f args w fun e w' => P e w' ∧ J w' ∧ Gr w w' :=
  h.mono fun _ _ ⟨he, h⟩ => ⟨he, hJ _ (hg.out.trans h), h⟩
/-- The calls of Clone, in the worlds behind w. -/
theorem cl46 {v : Value} {n : Nat} {l : List Sy} {w : World} (h : Sz w v n (Lv l)) (hl : l.length = n) (hn : n ≤ 1000) (c : World) (G : Gr w c) :
    Calls Try.prog 46 #[v] c fun e w' => (∃ v', e = .returned v' ∧ Owc c.heap.size w' v' n (Lv l)) ∧ Gr c w' :=
  (Cl46c v n l c (h.gr G) hl hn).mono fun _ _ ⟨v', he, ho, hg⟩ => ⟨⟨v', he, ho⟩, hg⟩
theorem cl43 {v : Value} {n : Nat} {zs : List Int} {w : World} (h : Sz w v n (ivs zs)) (hl : zs.length = n) (hn : n ≤ 1000) (c : World) (G : Gr w c) :
    Calls Try.prog 43 #[v] c fun e w' => (∃ v', e = .returned v' ∧ Ow c.heap.size w' v' n (ivs zs)) ∧ Gr c w' :=
  (Cl43 v n zs c (h.gr G) hl hn).mono fun _ _ ⟨v', he, ho, hg⟩ => ⟨⟨v', he, ho⟩, hg⟩
theorem cl47 {v : Value} {n : Nat} {xs : List Stp} {w : World} (h : Sz w v n (Lt xs)) (hl : xs.length = n) (hn : n ≤ 1000) (c : World) (G : Gr w c) :
    Calls Try.prog 47 #[v] c fun e w' => (∃ v', e = .returned v' ∧ Ow c.heap.size w' v' n (Lt xs)) ∧ Gr c w' :=
  (Cl47 v n xs c (h.gr G) hl hn).mono fun _ _ ⟨v', he, ho, hg⟩ => ⟨⟨v', he, ho⟩, hg⟩
/-- The calls of Run, the lists' lengths given by letters. -/
theorem run45 {l : List Sy} {zs : List Int} {xs : List Stp} {n m k : Nat} (hl : l.length = n) (hz : zs.length = m) (hx : xs.length = k) (hk : k ≤ 40) {rl : List Sy} {ri re : Int} (hr : runN l zs xs = (rl, ri, re)) (v1 v0 v2 : Value) (c : World) (h1 : Sz c v1 n (Lv l)) (h0 : Sz c v0 m (ivs zs)) (h2 : Sz c v2 k (Lt xs)) :
    Calls Try.prog 45 #[v1, v0, v2] c fun e w' => (∃ v', e = .returned (.tuple #[v', .int .i64 ri, .int .i64 re]) ∧ Ow c.heap.size w' v' rl.length (Lv rl) ∧ (re ≠ 0 → v' = .slice none 0 0)) ∧ Gr c w' := by
  have := Run_any l zs xs v1 v0 v2 c (by rw [hl]; exact h1) (by rw [hz]; exact h0) (by rw [hx]; exact h2) (by omega)
  unfold RunPost at this
  rw [hr] at this
  exact this.mono fun _ _ ⟨v', he, ⟨ho, hn⟩, hg⟩ => ⟨⟨v', he, ho, hn⟩, hg⟩
theorem run48 {l : List Sy} {zs : List Int} {xs : List Stp} {n m k : Nat} (hl : l.length = n) (hz : zs.length = m) (hx : xs.length = k) (hk : k ≤ 40) {rl : List Sy} {ri re : Int} (hr : runN l zs xs = (rl, ri, re)) (v1 v0 v2 : Value) (c : World) (h1 : Sz c v1 n (Lv l)) (h0 : Sz c v0 m (ivs zs)) (h2 : Sz c v2 k (Lt xs)) :
    Calls Try.prog 48 #[v1, v0, v2] c fun e w' => (∃ v', e = .returned (.tuple #[v', .int .i64 ri, .int .i64 re]) ∧ Ow c.heap.size w' v' rl.length (Lv rl) ∧ (re ≠ 0 → v' = .slice none 0 0)) ∧ Gr c w' := by
  have := rRun_any l zs xs v1 v0 v2 c (by rw [hl]; exact h1) (by rw [hz]; exact h0) (by rw [hx]; exact h2) (by omega)
  unfold RunPost at this
  rw [hr] at this
  exact this.mono fun _ _ ⟨v', he, ⟨ho, hn⟩, hg⟩ => ⟨⟨v', he, ho, hn⟩, hg⟩
theorem dep42 {zs : List Int} {m : Nat} (hz : zs.length = m) {ds : List Nat} {de : Int} (hd : (dep zs).getD [] = ds) (he : dpE zs = de) (v0 : Value) (c : World) (h0 : Sz c v0 m (ivs zs)) :
    Calls Try.prog 42 #[v0] c fun e w' => (∃ v', e = .returned (.tuple #[v', .int .i64 de]) ∧ Ow c.heap.size w' v' ds.length (nvs ds)) ∧ Gr c w' := by
  have := Depths_sz zs v0 c (by rw [hz]; exact h0)
  rw [hd, he] at this
  exact this.mono fun _ _ ⟨v', he, ⟨ho, _⟩, hg⟩ => ⟨⟨v', he, ho⟩, hg⟩
theorem dep44 {zs : List Int} {m : Nat} (hz : zs.length = m) {ds : List Nat} {de : Int} (hd : (dep zs).getD [] = ds) (he : dpE zs = de) (v0 : Value) (c : World) (h0 : Sz c v0 m (ivs zs)) :
    Calls Try.prog 44 #[v0] c fun e w' => (∃ v', e = .returned (.tuple #[v', .int .i64 de]) ∧ Ow c.heap.size w' v' ds.length (nvs ds)) ∧ Gr c w' := by
  have := rDepths_sz zs v0 c (by rw [hz]; exact h0)
  rw [hd, he] at this
  exact this.mono fun _ _ ⟨v', he, ⟨ho, _⟩, hg⟩ => ⟨⟨v', he, ho⟩, hg⟩
theorem spr49 {l : List Sy} {n : Nat} (hl : l.length = n) {t sn se : Int} (hs : spN l t = sn) (he : spE l t = se) (v : Value) (c : World) (h : Sz c v n (Lv l)) (hr : Roomy v) :
    Calls Try.prog 49 #[v, .int .i64 t] c fun e w' => e = .returned (.tuple #[.int .i64 sn, .int .i64 se]) ∧ Gr c w' := by
  have := Spread_any2 l t v c (by rw [hl]; exact h) hr
  rwa [hs, he] at this
theorem spr50 {l : List Sy} {n : Nat} (hl : l.length = n) {t sn se : Int} (hs : spN l t = sn) (he : spE l t = se) (v : Value) (c : World) (h : Sz c v n (Lv l)) :
    Calls Try.prog 50 #[v, .int .i64 t] c fun e w' => e = .returned (.tuple #[.int .i64 sn, .int .i64 se]) ∧ Gr c w' := by
  have := rSpread_any2 l t v c (by rw [hl]; exact h)
  rwa [hs, he] at this
theorem dep_small {zs : List Int} : ((dep zs).getD []).length ≤ 32 := by
  cases h : dep zs with
  | none => simp
  | some ds =>
    have := dep_node h
    have h1 := this.1.2.1
    have h2 := this.2.1
    simp only [Option.getD_some]
    omega
theorem runN_len {l : List Sy} {zs : List Int} {xs : List Stp} {rl : List Sy} {ri re : Int} (h : runN l zs xs = (rl, ri, re)) : rl.length ≤ l.length := by
  unfold runN at h
  split at h
  · rename_i hf
    by_cases he : re = 0
    · subst he
      exact Nat.le_of_eq (runs_ok hf.2.2 h).2.1
    · rw [(runs_er h he).1]; simp
  · injection h with h _
    rw [← h]; simp
end Go.Proofs.Ytpnigndobhbfnaa
