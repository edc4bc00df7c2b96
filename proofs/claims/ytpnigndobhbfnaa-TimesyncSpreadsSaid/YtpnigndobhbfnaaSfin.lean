/- TimesyncSpreads, whatever the arguments. -/
import Derived.Test.YtpnigndobhbfnaaSok
namespace Go.Proofs.Ytpnigndobhbfnaa
open Go.RowKit
/-- What a Run that fails nowhere comes to: the states behind several corrections are those behind the first ones, corrected by the others. -/
theorem two_ok {l : List Sy} {zs : List Int} {xs : List Stp} {rl : List Sy} {ri : Int} (h : runN l zs xs = (rl, ri, 0)) (kk : Nat) :
    ri = -1 ∧ rl.length = l.length ∧ (∀ i : Nat, (∀ x ∈ xs, x.m ≠ (i : Int)) → rl.getD i Sy0 = l.getD i Sy0) ∧ ∃ r1, runN l zs (xs.take kk) = (r1, -1, 0) ∧ runN r1 zs (xs.drop kk) = (rl, -1, 0) ∧ r1.length = l.length := by
  unfold runN at h
  split at h
  · rename_i hf
    obtain ⟨_, hl, rfl⟩ := runs_ok hf.2.2 h
    have h' := h
    rw [← List.take_append_drop kk xs] at h'
    obtain ⟨r1, ha, hb⟩ := runs_app h'
    obtain ⟨hv1, hl1, _⟩ := runs_ok hf.2.2 ha
    have hf1 : fits r1 zs := ⟨hf.1, by rw [hl1]; exact hf.2.1, hv1⟩
    refine ⟨rfl, hl, fun i hi => runs_keep i h hi, r1, ?_, ?_, hl1⟩
    · unfold runN; rw [if_pos hf]; exact ha
    · unfold runN; rw [if_pos hf1]; exact runs_at hb
  · injection h with _ h
    injection h with _ h
    exact absurd h (by decide)
/-- TimesyncSpreads, whatever the arguments. -/
theorem TimesyncSpreads_walk (v1 v0 : Value) (l : List Sy) (zs : List Int) (slot later : Int) (w : World) (h1 : Sz w v1 l.length (Lv l)) (h0 : Sz w v0 zs.length (ivs zs)) :
    Calls Try.prog 10 #[.agg #[v1, v0], .int .i64 slot, .int .i64 later] w fun e w' => e = .returned (.bool true) ∧ Gr w w' := by
  obtain ⟨a1, c1, rfl⟩ := h1.slice
  obtain ⟨a0, c0, rfl⟩ := h0.slice
  by_cases y0 : l.length < 2
  · exact TS_skip0 a1 a0 _ c1 _ c0 slot later w y0
  by_cases y1 : 6 < l.length
  · exact TS_skip1 a1 a0 _ c1 _ c0 slot later w y1
  by_cases y2 : zs.length ≠ l.length
  · exact TS_skip2 a1 a0 _ c1 _ c0 slot later w (by omega) (by omega) y2
  have hz : zs.length = l.length := by omega
  rw [hz] at h0 ⊢
  by_cases y3 : slot < 0
  · exact TS_skip3 a1 a0 _ c1 c0 slot later w (by omega) (by omega) y3
  by_cases y4 : 100000 < slot
  · exact TS_skip4 a1 a0 _ c1 c0 slot later w (by omega) (by omega) y4
  by_cases y5 : later < 0
  · exact TS_skip5 a1 a0 _ c1 c0 slot later w (by omega) (by omega) (by omega) (by omega) y5
  by_cases y6 : 100000000 < later
  · exact TS_skip6 a1 a0 _ c1 c0 slot later w (by omega) (by omega) (by omega) (by omega) y6
  cases hd : dep zs with
  | none => exact TS_none a1 a0 l.length c1 c0 zs slot later w h0 hz (by omega) (by omega) (by omega) (by omega) (by omega) (by omega) hd
  | some ds =>
    by_cases hs : Srt ds
    · obtain ⟨⟨rl, ri, re⟩, hr⟩ : ∃ r, runN l zs (stps slot 1 (l.length - 1)) = r := ⟨_, rfl⟩
      by_cases he : re = 0
      · subst he
        obtain ⟨rfl, _⟩ := two_ok hr 0
        exact TS_ok a1 a0 l.length c1 c0 l zs slot later w h1 rfl h0 hz (by omega) (by omega) (by omega) (by omega) (by omega) (by omega) ds hd hs rl hr
      · exact TS_er a1 a0 l.length c1 c0 l zs slot later w h1 rfl h0 hz (by omega) (by omega) (by omega) (by omega) (by omega) (by omega) ds hd hs rl ri re hr he
    · exact TS_unsorted a1 a0 l.length c1 c0 zs slot later w h0 hz (by omega) (by omega) (by omega) (by omega) (by omega) (by omega) ds hd hs
end Go.Proofs.Ytpnigndobhbfnaa
