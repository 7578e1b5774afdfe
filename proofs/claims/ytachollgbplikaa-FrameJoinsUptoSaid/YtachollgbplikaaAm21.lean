/- The abstract machine, twenty-first part: every reading of the statement's form is opened. -/
import Derived.Test.YtachollgbplikaaAm20
set_option linter.unusedVariables false
set_option linter.unusedSimpArgs false
namespace Go.Proofs.Ytachollgbplikaa
open Go.ChangeShapes Go.WideShapes Go.ChangeAt Go.RowKit

def chunks {α : Type} : List Nat → List α → List (List α)
  | [], _ => []
  | n :: ns, l => l.take n :: chunks ns (l.drop n)

theorem chunks_length {α : Type} : ∀ (ns : List Nat) (l : List α), (chunks ns l).length = ns.length
  | [], _ => rfl
  | n :: ns, l => by simp [chunks, chunks_length ns]

theorem chunks_flatten {α : Type} : ∀ (ns : List Nat) (l : List α), (chunks ns l).flatten = l.take ns.sum
  | [], l => by simp [chunks]
  | n :: ns, l => by
    rw [chunks, List.flatten_cons, chunks_flatten ns, List.sum_cons, List.take_add]

theorem chunks_get {α : Type} : ∀ (ns : List Nat) (l : List α) (j n : Nat), ns[j]? = some n → (chunks ns l)[j]? = some ((l.drop (ns.take j).sum).take n)
  | [], _, _, _, h => by simp at h
  | m :: ns, l, 0, n, h => by
    simp at h
    subst h
    simp [chunks]
  | m :: ns, l, j + 1, n, h => by
    simp only [List.getElem?_cons_succ] at h
    simp only [chunks, List.getElem?_cons_succ]
    rw [chunks_get ns _ j n h]
    simp [List.drop_drop]

theorem OpensAll.of_get {W : World} : ∀ {ss : List Sh} {css : List (List Value)} {ds : List D}, ss.length = ds.length → css.length = ds.length →
    (∀ (i : Nat) s c d, ss[i]? = some s → css[i]? = some c → ds[i]? = some d → Opens W s c d) → OpensAll W ss css ds
  | [], [], [], _, _, _ => by simp [OpensAll]
  | s :: ss, c :: css, d :: ds, h1, h2, h => by
    simp only [OpensAll]
    exact ⟨h 0 s c d (by simp) (by simp) (by simp), OpensAll.of_get (by simpa using h1) (by simpa using h2) fun i s c d a1 a2 a3 => h (i + 1) s c d (by simpa using a1) (by simpa using a2) (by simpa using a3)⟩
  | [], _, _ :: _, h1, _, _ => by simp at h1
  | _ :: _, _, [], h1, _, _ => by simp at h1
  | _, [], _ :: _, _, h2, _ => by simp at h2
  | _, _ :: _, [], _, h2, _ => by simp at h2

theorem shOfs_get {P : Program} {k : Nat} : ∀ {ts : List TypeId} {ss : List Sh}, shOfs P k ts = some ss → ss.length = ts.length ∧ ∀ (i : Nat) t, ts[i]? = some t → ∃ s, ss[i]? = some s ∧ shOf P k t = some s
  | [], ss, h => by
    simp [shOfs, mapO] at h
    subst h
    simp
  | t :: ts, ss, h => by
    simp only [shOfs, mapO] at h
    split at h
    case h_2 => cases h
    rename_i s r h1 h2
    obtain rfl := Option.some.inj h
    obtain ⟨e1, e2⟩ := shOfs_get h2
    refine ⟨by simp [e1], fun i u hu => ?_⟩
    cases i with
    | zero =>
      simp at hu
      subst hu
      exact ⟨s, by simp, h1⟩
    | succ i => simpa using e2 i u (by simpa using hu)

theorem opens_one {W : World} {s : Sh} {v : Value} {a : AV} {d : D} (hv : ∀ ι, VR ι a v) (hc : a.isCell = true) (hr : ∀ M, Rd M d [a]) (hs : D.is s d) : Opens W s [v] d := fun ι M r ro =>
  ⟨ι, M, [a], .refl r ro, by simp only [VRL]; exact ⟨hv ι, trivial⟩, fun x hx => by simp at hx; subst hx; exact hc, hr M, hs⟩

theorem cell_here {W : World} {a : Addr} {v : Value} (h : W.cell? a = some v) : ∃ c e fz, W.heap[a.block]? = some (.cells c e fz) ∧ a.spot = none ∧ c[a.off]? = some v := by
  unfold World.cell? at h
  split at h
  · rename_i c e fz hc
    split at h
    · cases h
    · rename_i hs
      refine ⟨c, e, fz, hc, ?_, h⟩
      cases hsp : a.spot with
      | none => rfl
      | some _ => simp [hsp] at hs
  · cases h

theorem open_trod {H : Type} {enc : TypeId × Value → H} {P : Program} (hl : laidOutB P = true) {W : World} : ∀ (k : Nat) (t : TypeId) (s : Sh), shOf P k t = some s → t < P.types.size →
    ∀ (fuel : Nat) (cs : List Value) (x : DataW H × List MemPlace), DataW.trod enc P W 0 (fun _ => true) true fuel t cs = some x → Opens W s cs (toD x.1)
  | 0, _, _, hs, _, _, _, _, _ => by simp [shOf] at hs
  | k + 1, t, s, hs, ht, fuel, cs, x, h => by
    simp only [shOf] at hs
    split at hs
    case h_7 => cases hs
    · rename_i hu
      obtain rfl := Option.some.inj hs
      obtain ⟨b, rfl, rfl⟩ := DataW.trod_bool hu h
      exact opens_one (a := .bool b) (fun ι => by simp [VR]) rfl (fun M => by simp [toD, Rd]) ⟨b, rfl⟩
    · rename_i i hu
      obtain rfl := Option.some.inj hs
      obtain ⟨n, rfl, rfl, hw⟩ := DataW.trod_int hu h
      simp only [Lit.wf, Bool.and_eq_true, decide_eq_true_eq] at hw
      exact opens_one (a := .int i n) (fun ι => by simp [VR]) rfl (fun M => by simp [toD, Rd]) ⟨n, rfl, hw⟩
    · rename_i hu
      obtain rfl := Option.some.inj hs
      obtain ⟨b, rfl, rfl, hw⟩ := DataW.trod_string hu h
      exact opens_one (a := .str b.data.toList) (fun ι => by simp only [VR]; exact ⟨b, rfl, rfl⟩) rfl (fun M => by simp [toD, Rd]) ⟨_, rfl⟩
    · rename_i e hu
      split at hs
      · cases hs
      rename_i hsz
      obtain ⟨se, hse, rfl⟩ := Option.map_eq_some_iff.1 hs
      have hte : e < P.types.size := Go.kid_slice hl ht hu
      rcases DataW.trod_slice hu h with ⟨rfl, rfl⟩ | ⟨a, len, cap, elems, rest, n, rfl, rfl, rfl, _, hlc, _, hlen, hel, hre, _⟩
      · exact opens_one (a := .slice none 0 0 0 true) (fun ι => by simp [VR]) rfl (fun M => by simp [toD, Rd]) ⟨[], by simp [toD], by simp⟩
      · intro ι M r ro
        obtain ⟨hrl, hre⟩ := hre rfl
        simp only [toD]
        generalize hz : P.cellsOf e = sz at *
        rcases Nat.eq_zero_or_pos cap with hc0 | hcp
        · subst hc0
          obtain rfl : len = 0 := by omega
          have hel0 : elems = [] := by simpa using hlen
          subst hel0
          refine ⟨_, _, [.slice (some (M.next, 0)) sz 0 0 true], Grow.skip r ro ⟨a.block, 0, 0⟩, ?_, ?_, ?_, ?_⟩
          · simp only [VRL, VR, and_true]
            exact ⟨⟨a.block, 0, 0⟩, a, 0, by simp [Inj.set], rfl, .inl rfl, .inl rfl, .inl rfl, Nat.le_refl _, Nat.le_refl _, fun _ => rfl, by simp, by omega⟩
          · intro y hy
            simp at hy
            subst hy
            rfl
          · simp only [List.map_nil, toDs, Rd]
            exact .inr ⟨M.next, 0, sz, 0, by omega, by simp, by simp, by simp⟩
          · exact ⟨[], by simp [toDs], by simp⟩
        · -- every element's cells
          have all : ∀ i, i < cap → ∃ ci, W.cells? 0 (a.add (i * sz)) sz = some ci ∧ (i < len → ∃ y, elems[i]? = some y ∧ DataW.trod enc P W 0 (fun _ => true) true n e ci = some y) := by
            intro i hi
            by_cases hil : i < len
            · have h1 := hel i hil
              rw [List.getElem?_eq_getElem (by omega)] at h1
              obtain ⟨ci, h2, h3⟩ := Option.bind_eq_some_iff.1 h1
              exact ⟨ci, h2, fun _ => ⟨_, List.getElem?_eq_getElem (by omega), h3⟩⟩
            · have h1 := hre (i - len) (by omega)
              rw [List.getElem?_eq_getElem (by omega)] at h1
              obtain ⟨ci, h2, h3⟩ := Option.bind_eq_some_iff.1 h1
              rw [show len + (i - len) = i from by omega] at h2
              exact ⟨ci, h2, fun hx => absurd hx hil⟩
          obtain ⟨c0, hc0, _⟩ := all 0 hcp
          obtain ⟨_, hl0, hg0⟩ := World.cells?_some hc0
          have hone := hg0 0 (by omega)
          rw [List.getElem?_eq_getElem (by omega)] at hone
          obtain ⟨c, el, fz, hob, hsp, _⟩ := cell_here hone
          have ha0 : (a.add (0 * sz)).add 0 = a := by simp [Addr.add]
          rw [ha0] at hob hsp
          obtain ⟨j, off, spot⟩ := a
          simp only at hob hsp
          subst hsp
          have cellv : ∀ i v, W.cell? ⟨j, i, none⟩ = some v → c[i]? = some v := fun i v hv => by
            simpa [World.cell?, hob] using hv
          have celle : ∀ i, W.cell? ⟨j, i, none⟩ = c[i]? := fun i => by simp [World.cell?, hob]
          have rowi : ∀ i ci, W.cells? 0 ((⟨j, off, none⟩ : Addr).add (i * sz)) sz = some ci → ci = (c.toList.drop (off + i * sz)).take sz ∧ off + i * sz + sz ≤ c.size := by
            intro i ci hci
            obtain ⟨_, q1, q2⟩ := World.cells?_some hci
            have hsize : off + i * sz + sz ≤ c.size := by
              have := q2 (sz - 1) (by omega)
              rw [add_none, add_none, celle, List.getElem?_eq_getElem (by omega)] at this
              have := (Array.getElem?_eq_some_iff.1 this).1
              omega
            refine ⟨?_, hsize⟩
            apply List.ext_getElem?
            intro q
            by_cases hq : q < sz
            · have := q2 q hq
              rw [add_none, add_none, celle] at this
              rw [← this, List.getElem?_take, if_pos hq, List.getElem?_drop, Array.getElem?_toList]
            · rw [List.getElem?_eq_none (by omega), List.getElem?_eq_none (by simp; omega)]
          have hend : off + cap * sz ≤ c.size := by
            obtain ⟨ci, h1, _⟩ := all (cap - 1) (by omega)
            have := (rowi _ _ h1).2
            have : (cap - 1) * sz + sz = cap * sz := by rw [← Nat.succ_mul]; congr 1; omega
            omega
          have hrow : len * sz ≤ cap * sz := Nat.mul_le_mul_right _ hlc
          have hopens : OpensAll W (List.replicate len se) (chunks (List.replicate len sz) (c.toList.drop off)) (elems.map fun y => toD y.1) := by
            refine OpensAll.of_get (by simp [hlen]) (by simp [chunks_length, hlen]) fun i s0 ci d0 h1 h2 h3 => ?_
            have hi : i < len := by
              have := (List.getElem?_eq_some_iff.1 h1).1
              simpa using this
            rw [List.getElem?_replicate, if_pos hi] at h1
            obtain rfl := Option.some.inj h1
            rw [chunks_get _ _ i sz (by rw [List.getElem?_replicate, if_pos hi])] at h2
            obtain rfl := Option.some.inj h2
            obtain ⟨ci, g1, g2⟩ := all i (by omega)
            obtain ⟨y, g3, g4⟩ := g2 hi
            obtain ⟨g5, _⟩ := rowi i ci g1
            rw [List.getElem?_map, g3] at h3
            obtain rfl := Option.some.inj h3
            have e1 : (List.take i (List.replicate len sz)).sum = i * sz := by
              rw [List.take_replicate, Nat.min_eq_left (by omega), List.sum_replicate_nat]
            rw [e1, List.drop_drop, ← g5]
            exact open_trod hl k e se hse hte n ci y g4
          obtain ⟨ι1, M1, pieces, g1, hpl, hpv, hpc, hpp, hare⟩ := hopens.open ι M r ro
          have hflat : (chunks (List.replicate len sz) (c.toList.drop off)).flatten = (c.toList.drop off).take (len * sz) := by
            rw [chunks_flatten, List.sum_replicate_nat]
          rw [hflat] at hpv
          have hfl : pieces.flatten.length = len * sz := by
            have := hpv.length
            simp at this
            rw [List.length_flatten, this]
            omega
          have hseen := Grow.see (c := pieces.flatten) (l := ⟨j, off, cap * sz⟩) g1.rel g1.ro hob (by
            refine ⟨c, el, fz, rfl, hend, by rw [hfl]; exact hrow, (fun h => by cases h), fun i b hb => ?_, fun h => by cases h⟩
            obtain ⟨v, hv, hvr⟩ := hpv.get i b hb
            refine ⟨v, ?_, ?_, hvr⟩
            · rw [List.getElem?_take] at hv
              split at hv
              · rw [List.getElem?_drop, Array.getElem?_toList] at hv
                exact hv
              · cases hv
            · obtain ⟨p, hp, hbp⟩ := List.mem_flatten.1 (List.mem_of_getElem? hb)
              exact hpc p hp b hbp)
          have hdl : (toDs (elems.map fun y => y.1)).length = len := by rw [toDs_eq]; simp [hlen]
          refine ⟨_, _, [.slice (some (M1.next, 0)) sz len cap true], g1.trans hseen, ?_, ?_, ?_, ?_⟩
          · simp only [VRL, VR, and_true]
            exact ⟨⟨j, off, cap * sz⟩, ⟨j, off, none⟩, cap, by simp [Inj.set], rfl, .inr rfl, .inr rfl, .inr rfl, hlc, Nat.le_refl _, fun _ => rfl, by simp, by omega⟩
          · intro y hy
            simp at hy
            subst hy
            rfl
          · simp only [Rd]
            refine .inr ⟨M1.next, 0, sz, cap, by omega, by rw [hdl]; exact hlc, by rw [hdl], fun _ => ⟨pieces, ?_, ?_, ?_⟩⟩
            · rw [hdl]
              simp only [Heap.read, Heap.push, if_true]
              rw [if_pos (by omega), List.drop_zero, List.take_of_length_le (by omega)]
            · intro p hp
              have : p.length ∈ pieces.map List.length := List.mem_map_of_mem hp
              rw [hpl] at this
              obtain ⟨ci, hci, e1⟩ := List.mem_map.1 this
              obtain ⟨i, hi⟩ := List.mem_iff_getElem?.1 hci
              have hi2 : i < len := by
                have := (List.getElem?_eq_some_iff.1 hi).1
                rw [chunks_length] at this
                simpa using this
              rw [chunks_get _ _ i sz (by rw [List.getElem?_replicate, if_pos hi2])] at hi
              obtain rfl := Option.some.inj hi
              have e2 : (List.take i (List.replicate len sz)).sum = i * sz := by
                rw [List.take_replicate, Nat.min_eq_left (by omega), List.sum_replicate_nat]
              have e3 : i * sz + sz ≤ len * sz := by rw [← Nat.succ_mul]; exact Nat.mul_le_mul_right _ hi2
              rw [← e1, e2]
              simp
              omega
            · have e1 : toDs (elems.map fun y => y.1) = elems.map fun y => toD y.1 := by rw [toDs_eq]; simp
              rw [e1]
              exact Parts.mono hseen.sub _ _ hpp
          · have e1 : toDs (elems.map fun y => y.1) = elems.map fun y => toD y.1 := by rw [toDs_eq]; simp
            refine ⟨_, rfl, ?_⟩
            rw [e1]
            exact (D.are_replicate hare).2
    · rename_i fs hu
      obtain ⟨ss, hss, rfl⟩ := Option.map_eq_some_iff.1 hs
      obtain ⟨hsl, hsg⟩ := shOfs_get hss
      obtain ⟨kt, kc, ko⟩ := Go.kid_struct hl ht hu
      obtain ⟨xs, n, rfl, rfl, hcl, hxl, hget⟩ := DataW.trod_struct hu h
      intro ι M r ro
      have hopens : OpensAll W ss (chunks (fs.toList.map fun f => P.cellsOf f.type) cs) (xs.map fun y => toD y.1) := by
        refine OpensAll.of_get (by simp [hsl, hxl]) (by simp [chunks_length, hxl]) fun i s0 ci d0 h1 h2 h3 => ?_
        have hi : i < fs.toList.length := by
          have := (List.getElem?_eq_some_iff.1 h1).1
          simpa [hsl] using this
        have hf : fs.toList[i]? = some fs.toList[i] := List.getElem?_eq_getElem hi
        obtain ⟨s1, g1, g2⟩ := hsg i _ (by rw [List.getElem?_map, hf]; rfl)
        rw [h1] at g1
        obtain rfl := Option.some.inj g1
        rw [chunks_get _ _ i _ (by rw [List.getElem?_map, hf]; rfl)] at h2
        obtain rfl := Option.some.inj h2
        have h4 := hget i fs.toList[i] (by rw [← Array.getElem?_toList]; exact hf)
        rw [List.getElem?_map] at h3
        obtain ⟨y, hy, rfl⟩ := Option.map_eq_some_iff.1 h3
        rw [hy, ko i _ hf] at h4
        rw [← List.map_take]
        exact open_trod hl k _ _ g2 (kt _ (List.getElem_mem hi)) n _ y h4
      obtain ⟨ι1, M1, pieces, g1, hpl, hpv, hpc, hpp, hare⟩ := hopens.open ι M r ro
      rw [chunks_flatten, ← kc, ← hcl, List.take_length] at hpv
      have e1 : toD (DataW.agg (xs.map fun y => y.1)) = .agg (xs.map fun y => toD y.1) := by simp [toD, toDs_eq]
      refine ⟨ι1, M1, pieces.flatten, g1, hpv, fun a ha => ?_, ?_, ?_⟩
      · obtain ⟨p, hp, hap⟩ := List.mem_flatten.1 ha
        exact hpc p hp a hap
      · rw [e1]
        simp only [Rd]
        exact ⟨pieces, rfl, hpp⟩
      · rw [e1]
        exact ⟨_, rfl, hare⟩
    · rename_i m e hu
      obtain ⟨se, hse, rfl⟩ := Option.map_eq_some_iff.1 hs
      obtain ⟨hte, kc⟩ := Go.kid_array hl ht hu
      obtain ⟨xs, n, rfl, rfl, hcl, hxl, hget⟩ := DataW.trod_array hu h
      intro ι M r ro
      have hopens : OpensAll W (List.replicate m se) (chunks (List.replicate m (P.cellsOf e)) cs) (xs.map fun y => toD y.1) := by
        refine OpensAll.of_get (by simp [hxl]) (by simp [chunks_length, hxl]) fun i s0 ci d0 h1 h2 h3 => ?_
        have hi : i < m := by
          have := (List.getElem?_eq_some_iff.1 h1).1
          simpa using this
        rw [List.getElem?_replicate, if_pos hi] at h1
        obtain rfl := Option.some.inj h1
        rw [chunks_get _ _ i (P.cellsOf e) (by rw [List.getElem?_replicate, if_pos hi])] at h2
        obtain rfl := Option.some.inj h2
        have h4 := hget i hi
        rw [List.getElem?_map] at h3
        obtain ⟨y, hy, rfl⟩ := Option.map_eq_some_iff.1 h3
        rw [hy] at h4
        have e1 : (List.take i (List.replicate m (P.cellsOf e))).sum = i * P.cellsOf e := by
          rw [List.take_replicate, Nat.min_eq_left (by omega), List.sum_replicate_nat]
        rw [e1]
        exact open_trod hl k e se hse hte n _ y h4
      obtain ⟨ι1, M1, pieces, g1, hpl, hpv, hpc, hpp, hare⟩ := hopens.open ι M r ro
      rw [chunks_flatten, List.sum_replicate_nat, ← kc, ← hcl, List.take_length] at hpv
      have e1 : toD (DataW.agg (xs.map fun y => y.1)) = .agg (xs.map fun y => toD y.1) := by simp [toD, toDs_eq]
      refine ⟨ι1, M1, pieces.flatten, g1, hpv, fun a ha => ?_, ?_, ?_⟩
      · obtain ⟨p, hp, hap⟩ := List.mem_flatten.1 ha
        exact hpc p hp a hap
      · rw [e1]
        simp only [Rd]
        exact ⟨pieces, rfl, hpp⟩
      · rw [e1]
        exact ⟨_, rfl, hare⟩

end Go.Proofs.Ytachollgbplikaa
