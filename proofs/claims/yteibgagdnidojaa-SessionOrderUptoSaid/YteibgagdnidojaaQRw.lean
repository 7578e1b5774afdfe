/- session's laws: lists of raw notes. -/
import Derived.Test.YteibgagdnidojaaQOrd
set_option linter.all false
set_option linter.unusedSimpArgs false
namespace Go.Proofs.Yteibgagdnidojaa

def rwt (L : List Rw) : List AV := L.flatMap rwC
def rwD (x : Rw) : D := .agg [.int .i64 x.c, .int .i64 x.q, .int .i64 x.w, .int .i64 x.v]
theorem is_rw {d : D} (h : D.is (.agg [.int .i64, .int .i64, .int .i64, .int .i64]) d) : ∃ r : Rw, d = rwD r ∧ r.ok := by
  obtain ⟨l, rfl, h⟩ := h
  obtain ⟨d1, r1, rfl, i1, h⟩ := are_cons h
  obtain ⟨d2, r2, rfl, i2, h⟩ := are_cons h
  obtain ⟨d3, r3, rfl, i3, h⟩ := are_cons h
  obtain ⟨d4, r4, rfl, i4, h⟩ := are_cons h
  obtain rfl := are_nil h
  obtain ⟨n1, rfl, a1⟩ := i1
  obtain ⟨n2, rfl, a2⟩ := i2
  obtain ⟨n3, rfl, a3⟩ := i3
  obtain ⟨n4, rfl, a4⟩ := i4
  exact ⟨⟨n1, n2, n3, n4⟩, rfl, a1, a2, a3, a4⟩
theorem encL_rw (L : List Rw) : encL (.agg [.int .i64, .int .i64, .int .i64, .int .i64]) (L.map rwD) = rwt L := encL_map (fun _ => rfl) L
theorem rwt_drop (l : List Rw) (i : Nat) (hi : i < l.length) : (rwt l).drop (i * 4) = rwC l[i] ++ rwt (l.drop (i + 1)) :=
  drop_flat (sz := 4) (fun _ => rfl) l i hi
theorem rwt_len (l : List Rw) : (rwt l).length = l.length * 4 := length_flat (f := rwC) (sz := 4) (fun _ => rfl) l
theorem rwt_flat (l : List Rw) : ∀ c ∈ rwt l, c.flat = true ∧ c.still = true := by
  intro c hc
  obtain ⟨x, _, h⟩ := List.mem_flatMap.1 hc
  simp only [rwC, List.mem_cons, List.not_mem_nil, or_false] at h
  rcases h with rfl | rfl | rfl | rfl <;> exact ⟨rfl, rfl⟩
theorem idsOfL_rwt (l : List Rw) : idsOfL (rwt l) = [] := idsOfL_flat fun c hc => (rwt_flat l c hc).1
theorem renL_rwt (m : Nat) (p : List Nat) (l : List Rw) : renL m p (rwt l) = rwt l := renL_flat fun c hc => (rwt_flat l c hc).1
theorem frzL_rwt (H : Heap) (n : Nat) (e : Bool) (l : List Rw) : frzL (frz H n e) (rwt l) = some (rwt l, []) := frzL_still fun c hc => frz_still (rwt_flat l c hc).2

theorem sessF_rng {x : Rw} (hx : x.ok) : Rng (sessF x).q := by
  obtain ⟨hc, hq, hw, hv⟩ := hx
  simp only [sessF]
  split
  · apply numF_rng
    obtain ⟨a, b⟩ := hq
    rcases Int.le_total 0 x.q with h | h
    · rw [Int.tdiv_eq_ediv_of_nonneg h]; constructor <;> omega
    · obtain ⟨m, hm⟩ : ∃ m, x.q = -m := ⟨-x.q, by omega⟩
      rw [hm, Int.neg_tdiv, Int.tdiv_eq_ediv_of_nonneg (by omega)]; constructor <;> omega
  · constructor <;> omega

end Go.Proofs.Yteibgagdnidojaa
