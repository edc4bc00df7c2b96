/- Values that lie in a block. -/
import Derived.Test.YtpnigndobhbfnaaClkB
namespace Go.Proofs.Ytpnigndobhbfnaa
open Go.RowKit
/-- The values vs lie in block B, from its beginning on. -/
structure Bx (w : World) (B : Nat) (vs : List Value) : Prop where
  c : ∀ i v, vs[i]? = some v → w.cell? ⟨B, i, none⟩ = some v
  f : ∀ i, i < vs.length → w.frozen? ⟨B, i, none⟩ = false
  lt : B < w.heap.size
theorem Bx.gr {w w' : World} {B : Nat} {vs : List Value} (k : Bx w B vs) (h : Gr w w') : Bx w' B vs :=
  ⟨fun i v hv => (h.cell k.lt i).trans (k.c i v hv), fun i hi => (h.frozen k.lt i).trans (k.f i hi), Nat.lt_of_lt_of_le k.lt h.size⟩
theorem Bx.new (w : World) (vs : List Value) (t : TypeId) : Bx (w.alloc (.cells vs.toArray t)) w.heap.size vs :=
  ⟨fun i v hv => by rw [World.cell?_alloc_at _ _ _ _ rfl]; simpa using hv, fun i _ => World.frozen?_alloc_at _ _ _ _ rfl, by simp⟩
theorem Bx.at_ {w : World} {B B' : Nat} {vs : List Value} (k : Bx w B vs) (h : B = B') : Bx w B' vs := h ▸ k
theorem Bx.ck {w : World} {B : Nat} {o d : Int} (k : Bx w B [.int .i64 o, .int .i64 d]) : Ck w B o d :=
  ⟨k.c 0 _ rfl, k.c 1 _ rfl, k.lt, k.f 0 (by simp), k.f 1 (by simp)⟩
end Go.Proofs.Ytpnigndobhbfnaa
