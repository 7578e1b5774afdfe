/- V, seventh part: what the arguments hold, as lists; what a law owes in V. -/
import Derived.Test.YtachollgbplikaaAm22
import Derived.Test.YtachollgbplikaaAm24
import Derived.Test.YtachollgbplikaaAm30
set_option linter.all false
set_option linter.unusedSimpArgs false
namespace Go.Proofs.Ytachollgbplikaa
open Go.ChangeShapes Go.WideShapes Go.ChangeAt Go.RowKit

mutual
def shSize : Sh → Nat
  | .agg ss => shSizes ss
  | _ => 1
def shSizes : List Sh → Nat
  | [] => 0
  | s :: r => shSize s + shSizes r
end

mutual
/-- What is read, as V's cells. -/
def encS : Sh → D → List AV
  | .bool, .bool b => [.bool b]
  | .int _, .int k n => [.int k n]
  | .str, .str s => [.str s]
  | .list e, .list l => [.list (shSize e) l.length (encL e l) false]
  | .agg ss, .agg l => encSs ss l
  | _, _ => []
def encL (e : Sh) : List D → List AV
  | [] => []
  | d :: r => encS e d ++ encL e r
def encSs : List Sh → List D → List AV
  | s :: ss, d :: r => encS s d ++ encSs ss r
  | _, _ => []
end

theorem encSs_replicate {e : Sh} : ∀ {l : List D} {n : Nat}, l.length = n → encSs (List.replicate n e) l = encL e l
  | [], n, h => by
    subst h
    simp [encSs, encL]
  | d :: r, n, h => by
    subst h
    simp only [List.length_cons, List.replicate_succ, encSs, encL]
    rw [encSs_replicate rfl]

theorem shSizes_replicate (s : Sh) : ∀ n, shSizes (List.replicate n s) = n * shSize s
  | 0 => by simp [shSizes]
  | n + 1 => by
    rw [List.replicate_succ, shSizes, shSizes_replicate s n, Nat.succ_mul, Nat.add_comm]

theorem shSize_eq {P : Program} (hl : laidOutB P = true) : ∀ (k : Nat) (t : TypeId) (s : Sh), shOf P k t = some s → t < P.types.size → P.cellsOf t = shSize s
  | 0, _, _, h, _ => by simp [shOf] at h
  | k + 1, t, s, h, ht => by
    have hr := Go.rowFine_of hl ht
    simp only [shOf] at h
    split at h
    case h_7 => cases h
    · rename_i hu
      obtain rfl := Option.some.inj h
      simpa [rowFine, isVar, ht, hu, kindOk, shSize] using hr
    · rename_i i hu
      obtain rfl := Option.some.inj h
      simpa [rowFine, isVar, ht, hu, kindOk, shSize] using hr
    · rename_i hu
      obtain rfl := Option.some.inj h
      simpa [rowFine, isVar, ht, hu, kindOk, shSize] using hr
    · rename_i e hu
      split at h
      · cases h
      obtain ⟨se, hse, rfl⟩ := Option.map_eq_some_iff.1 h
      simp [rowFine, isVar, ht, hu, kindOk] at hr
      simpa [shSize] using hr.2
    · rename_i fs hu
      obtain ⟨ss, hss, rfl⟩ := Option.map_eq_some_iff.1 h
      obtain ⟨h1, h2, _⟩ := Go.kid_struct hl ht hu
      rw [h2, shSize]
      have hall : ∀ (fl : List Field) (ss : List Sh), (∀ f ∈ fl, f.type < P.types.size) → mapO (shOf P k) (fl.map fun f => f.type) = some ss → (fl.map fun f => P.cellsOf f.type).sum = shSizes ss := by
        intro fl
        induction fl with
        | nil =>
          intro ss _ h
          simp [mapO] at h
          subst h
          simp [shSizes]
        | cons f fl ih =>
          intro ss hf h
          simp only [List.map_cons, mapO] at h
          split at h
          case h_2 => cases h
          rename_i s r h1 h2
          obtain rfl := Option.some.inj h
          rw [List.map_cons, List.sum_cons, shSizes, shSize_eq hl k _ _ h1 (hf f (by simp)), ih r (fun g hg => hf g (by simp [hg])) h2]
      exact hall fs.toList ss h1 hss
    · rename_i n e hu
      obtain ⟨se, hse, rfl⟩ := Option.map_eq_some_iff.1 h
      obtain ⟨h1, h2⟩ := Go.kid_array hl ht hu
      rw [h2, shSize, shSizes_replicate, shSize_eq hl k _ _ hse h1]

mutual
theorem VL.sub {M M' : Heap} {κ κ' : VI} (h : M.Sub M') (hn : M.next ≤ M'.next) : ∀ (v a : AV), VL M (fun _ => False) VI.none v a → VL M' (fun _ => False) VI.none v a
  | .undef, _, _ => by simp [VL]
  | .bool _, _, e => by simpa [VL] using e
  | .int _ _, _, e => by simpa [VL] using e
  | .str _, _, e => by simpa [VL] using e
  | .ptr none, _, e => by simpa [VL] using e
  | .ptr (some q), _, e => by simp [VL, VI.none] at e
  | .slice none _ _ _ _, _, e => by simpa [VL] using e
  | .slice (some q) _ _ _ _, _, e => by simp [VL, VI.none] at e
  | .map none, _, e => by simpa [VL] using e
  | .map (some r), _, e => by simp [VL, VI.none] at e
  | .func f cs, _, e => by
    simp only [VL] at e ⊢
    obtain ⟨cs', h1, h2⟩ := e
    exact ⟨cs', h1, VLL.sub h hn cs cs' h2⟩
  | .nilFunc, _, e => by simpa [VL] using e
  | .agg cs, _, e => by
    simp only [VL] at e ⊢
    obtain ⟨cs', h1, h2⟩ := e
    exact ⟨cs', h1, VLL.sub h hn cs cs' h2⟩
  | .tuple cs, _, e => by
    simp only [VL] at e ⊢
    obtain ⟨cs', h1, h2⟩ := e
    exact ⟨cs', h1, VLL.sub h hn cs cs' h2⟩
  | .list sz len cs ex, _, e => by
    simp only [VL] at e ⊢
    rcases e with e | ⟨b, o, cap, ex', h1, h2, h3, h4, h5⟩
    · exact .inl e
    refine .inr ⟨b, o, cap, ex', h1, h2, h3, h4, fun hl => ?_⟩
    obtain ⟨c, ro, sl, g1, g2, g3, g4, g5⟩ := h5 hl
    exact ⟨c, ro, sl, h _ _ g1, g2, Nat.lt_of_lt_of_le g3 hn, g4, VLL.sub h hn cs _ g5⟩
  | .elem cs, _, e => by
    simp only [VL] at e ⊢
    obtain ⟨b, o, c, ro, sl, h1, g1, g2, g3, g5⟩ := e
    exact ⟨b, o, c, ro, sl, h1, h _ _ g1, g2, Nat.lt_of_lt_of_le g3 hn, VLL.sub h hn cs _ g5⟩
  | .acc b o sz n w, _, e => by simp [VL, VI.none] at e
theorem VLL.sub {M M' : Heap} (h : M.Sub M') (hn : M.next ≤ M'.next) : ∀ (l r : List AV), VLL M (fun _ => False) VI.none l r → VLL M' (fun _ => False) VI.none l r
  | [], [], _ => by simp [VLL]
  | a :: l, v :: r, e => by
    simp only [VLL] at e ⊢
    exact ⟨VL.sub (κ := VI.none) (κ' := VI.none) h hn a v e.1, VLL.sub h hn l r e.2⟩
  | [], _ :: _, e => by simp [VLL] at e
  | _ :: _, [], e => by simp [VLL] at e
end

abbrev VLL0 (M : Heap) := VLL M (fun _ => False) VI.none

/-- What is opened: a row of cells, as data. -/
def OpensV (W : World) (s : Sh) (cs : List Value) (d : D) : Prop :=
  ∀ ι M, R ι M W → ReadOnly M → ∃ ι' M' avs, Grow ι M ι' M' W ∧ VRL ι' avs cs ∧ (∀ a ∈ avs, a.isCell = true) ∧ VLL0 M' (encS s d) avs ∧ D.is s d

def OpensAllV (W : World) : List Sh → List (List Value) → List D → Prop
  | [], [], [] => True
  | s :: ss, c :: cs, d :: ds => OpensV W s c d ∧ OpensAllV W ss cs ds
  | _, _, _ => False

theorem OpensAllV.open {W : World} : ∀ {ss : List Sh} {css : List (List Value)} {ds : List D}, OpensAllV W ss css ds → ∀ ι M, R ι M W → ReadOnly M →
    ∃ ι' M' , ∃ pieces : List (List AV), Grow ι M ι' M' W ∧ pieces.map List.length = css.map List.length ∧ VRL ι' pieces.flatten css.flatten ∧ (∀ p ∈ pieces, ∀ a ∈ p, a.isCell = true) ∧ VLL0 M' (encSs ss ds) pieces.flatten ∧ D.are ss ds
  | [], [], [], _, ι, M, r, ro => ⟨ι, M, [], .refl r ro, rfl, by simp [VRL], by simp, by simp [encSs, VLL0, VLL], by simp [D.are]⟩
  | s :: ss, c :: css, d :: ds, h, ι, M, r, ro => by
    simp only [OpensAllV] at h
    obtain ⟨ι1, M1, avs, g1, v1, c1, r1, i1⟩ := h.1 ι M r ro
    obtain ⟨ι2, M2, ps, g2, l2, v2, c2, r2, i2⟩ := OpensAllV.open h.2 ι1 M1 g1.rel g1.ro
    refine ⟨ι2, M2, avs :: ps, g1.trans g2, ?_, ?_, ?_, ?_, ?_⟩
    · have := v1.length
      simp [l2, this]
    · simp only [List.flatten_cons]
      exact (v1.mono g2.le).append v2
    · intro p hp
      rcases List.mem_cons.1 hp with rfl | hp
      · exact c1
      · exact c2 p hp
    · simp only [encSs, List.flatten_cons]
      exact (VLL.sub g2.sub g2.next _ _ r1).append r2
    · simp only [D.are]
      exact ⟨i1, i2⟩
  | [], [], _ :: _, h, _, _, _, _ => by simp [OpensAllV] at h
  | [], _ :: _, _, h, _, _, _, _ => by simp [OpensAllV] at h
  | _ :: _, [], _, h, _, _, _, _ => by simp [OpensAllV] at h
  | _ :: _, _ :: _, [], h, _, _, _, _ => by simp [OpensAllV] at h

theorem OpensAllV.of_get {W : World} : ∀ {ss : List Sh} {css : List (List Value)} {ds : List D}, ss.length = ds.length → css.length = ds.length →
    (∀ (i : Nat) s c d, ss[i]? = some s → css[i]? = some c → ds[i]? = some d → OpensV W s c d) → OpensAllV W ss css ds
  | [], [], [], _, _, _ => by simp [OpensAllV]
  | s :: ss, c :: css, d :: ds, h1, h2, h => by
    simp only [OpensAllV]
    exact ⟨h 0 s c d (by simp) (by simp) (by simp), OpensAllV.of_get (by simpa using h1) (by simpa using h2) fun i s c d a1 a2 a3 => h (i + 1) s c d (by simpa using a1) (by simpa using a2) (by simpa using a3)⟩
  | [], _, _ :: _, h1, _, _ => by simp at h1
  | _ :: _, _, [], h1, _, _ => by simp at h1
  | _, [], _ :: _, _, h2, _ => by simp at h2
  | _, _ :: _, [], _, h2, _ => by simp at h2

theorem opens_oneV {W : World} {s : Sh} {v : Value} {a : AV} {d : D} (hv : ∀ ι, VR ι a v) (hc : a.isCell = true) (hr : ∀ M, VLL0 M (encS s d) [a]) (hs : D.is s d) : OpensV W s [v] d := fun ι M r ro =>
  ⟨ι, M, [a], .refl r ro, by simp only [VRL]; exact ⟨hv ι, trivial⟩, fun x hx => by simp at hx; subst hx; exact hc, hr M, hs⟩

theorem open_trodV {H : Type} {enc : TypeId × Value → H} {P : Program} (hl : laidOutB P = true) {W : World} : ∀ (k : Nat) (t : TypeId) (s : Sh), shOf P k t = some s → t < P.types.size →
    ∀ (fuel : Nat) (cs : List Value) (x : DataW H × List MemPlace), DataW.trod enc P W 0 (fun _ => true) true fuel t cs = some x → OpensV W s cs (toD x.1)
  | 0, _, _, hs, _, _, _, _, _ => by simp [shOf] at hs
  | k + 1, t, s, hs, ht, fuel, cs, x, h => by
    simp only [shOf] at hs
    split at hs
    case h_7 => cases hs
    · rename_i hu
      obtain rfl := Option.some.inj hs
      obtain ⟨b, rfl, rfl⟩ := DataW.trod_bool hu h
      exact opens_oneV (a := .bool b) (fun ι => by simp [VR]) rfl (fun M => by simp [toD, encS, VLL, VL]) ⟨b, rfl⟩
    · rename_i i hu
      obtain rfl := Option.some.inj hs
      obtain ⟨n, rfl, rfl, hw⟩ := DataW.trod_int hu h
      simp only [Lit.wf, Bool.and_eq_true, decide_eq_true_eq] at hw
      exact opens_oneV (a := .int i n) (fun ι => by simp [VR]) rfl (fun M => by simp [toD, encS, VLL, VL]) ⟨n, rfl, hw⟩
    · rename_i hu
      obtain rfl := Option.some.inj hs
      obtain ⟨b, rfl, rfl, hw⟩ := DataW.trod_string hu h
      exact opens_oneV (a := .str b.data.toList) (fun ι => by simp only [VR]; exact ⟨b, rfl, rfl⟩) rfl (fun M => by simp [toD, encS, VLL, VL]) ⟨_, rfl⟩
    · rename_i e hu
      split at hs
      · cases hs
      rename_i hsz
      obtain ⟨se, hse, rfl⟩ := Option.map_eq_some_iff.1 hs
      have hte : e < P.types.size := Go.kid_slice hl ht hu
      rcases DataW.trod_slice hu h with ⟨rfl, rfl⟩ | ⟨a, len, cap, elems, rest, n, rfl, rfl, rfl, _, hlc, _, hlen, hel, hre, _⟩
      · exact opens_oneV (a := .slice none (shSize se) 0 0 true) (fun ι => by simp [VR]) rfl (fun M => by simp [toD, encS, encL, VLL, VL]) ⟨[], by simp [toD], by simp⟩
      · intro ι M r ro
        obtain ⟨hrl, hre⟩ := hre rfl
        simp only [toD]
        have hsz' := shSize_eq hl _ _ _ hse hte
        generalize hz : P.cellsOf e = sz at *
        rcases Nat.eq_zero_or_pos cap with hc0 | hcp
        · subst hc0
          obtain rfl : len = 0 := by omega
          have hel0 : elems = [] := by simpa using hlen
          subst hel0
          refine ⟨_, _, [.slice (some (M.next, 0)) sz 0 0 true], Grow.skip r ro ⟨a.block, 0, 0⟩, ?_, ?_, ?_, ?_⟩
          · simp only [VRL, VR, and_true]
            exact ⟨⟨a.block, 0, 0⟩, a, 0, by simp [Inj.set], rfl, .inl rfl, .inl rfl, .inl rfl, Nat.le_refl _, Nat.le_refl _, fun _ => rfl, by simp, by omega⟩
          · intro y hy
            simp at hy
            subst hy
            rfl
          · simp only [List.map_nil, toDs, encS, encL, VLL, VL, and_true]
            exact .inr ⟨M.next, 0, 0, true, by rw [hsz']; rfl, Nat.le_refl _, by simp, by simp, fun h => absurd rfl h⟩
          · exact ⟨[], by simp [toDs], by simp⟩
        · -- every element's cells
          have all : ∀ i, i < cap → ∃ ci, W.cells? 0 (a.add (i * sz)) sz = some ci ∧ (i < len → ∃ y, elems[i]? = some y ∧ DataW.trod enc P W 0 (fun _ => true) true n e ci = some y) := by
            intro i hi
            by_cases hil : i < len
            · have h1 := hel i hil
              rw [List.getElem?_eq_getElem (by omega)] at h1
              obtain ⟨ci, h2, h3⟩ := Option.bind_eq_some_iff.1 h1
              exact ⟨ci, h2, fun _ => ⟨_, List.getElem?_eq_getElem (by omega), h3⟩⟩
            · have h1 := hre (i - len) (by omega)
              rw [List.getElem?_eq_getElem (by omega)] at h1
              obtain ⟨ci, h2, h3⟩ := Option.bind_eq_some_iff.1 h1
              rw [show len + (i - len) = i from by omega] at h2
              exact ⟨ci, h2, fun hx => absurd hx hil⟩
          obtain ⟨c0, hc0, _⟩ := all 0 hcp
          obtain ⟨_, hl0, hg0⟩ := World.cells?_some hc0
          have hone := hg0 0 (by omega)
          rw [List.getElem?_eq_getElem (by omega)] at hone
          obtain ⟨c, el, fz, hob, hsp, _⟩ := cell_here hone
          have ha0 : (a.add (0 * sz)).add 0 = a := by simp [Addr.add]
          rw [ha0] at hob hsp
          obtain ⟨j, off, spot⟩ := a
          simp only at hob hsp
          subst hsp
          have cellv : ∀ i v, W.cell? ⟨j, i, none⟩ = some v → c[i]? = some v := fun i v hv => by
            simpa [World.cell?, hob] using hv
          have celle : ∀ i, W.cell? ⟨j, i, none⟩ = c[i]? := fun i => by simp [World.cell?, hob]
          have rowi : ∀ i ci, W.cells? 0 ((⟨j, off, none⟩ : Addr).add (i * sz)) sz = some ci → ci = (c.toList.drop (off + i * sz)).take sz ∧ off + i * sz + sz ≤ c.size := by
            intro i ci hci
            obtain ⟨_, q1, q2⟩ := World.cells?_some hci
            have hsize : off + i * sz + sz ≤ c.size := by
              have := q2 (sz - 1) (by omega)
              rw [add_none, add_none, celle, List.getElem?_eq_getElem (by omega)] at this
              have := (Array.getElem?_eq_some_iff.1 this).1
              omega
            refine ⟨?_, hsize⟩
            apply List.ext_getElem?
            intro q
            by_cases hq : q < sz
            · have := q2 q hq
              rw [add_none, add_none, celle] at this
              rw [← this, List.getElem?_take, if_pos hq, List.getElem?_drop, Array.getElem?_toList]
            · rw [List.getElem?_eq_none (by omega), List.getElem?_eq_none (by simp; omega)]
          have hend : off + cap * sz ≤ c.size := by
            obtain ⟨ci, h1, _⟩ := all (cap - 1) (by omega)
            have := (rowi _ _ h1).2
            have : (cap - 1) * sz + sz = cap * sz := by rw [← Nat.succ_mul]; congr 1; omega
            omega
          have hrow : len * sz ≤ cap * sz := Nat.mul_le_mul_right _ hlc
          have hopens : OpensAllV W (List.replicate len se) (chunks (List.replicate len sz) (c.toList.drop off)) (elems.map fun y => toD y.1) := by
            refine OpensAllV.of_get (by simp [hlen]) (by simp [chunks_length, hlen]) fun i s0 ci d0 h1 h2 h3 => ?_
            have hi : i < len := by
              have := (List.getElem?_eq_some_iff.1 h1).1
              simpa using this
            rw [List.getElem?_replicate, if_pos hi] at h1
            obtain rfl := Option.some.inj h1
            rw [chunks_get _ _ i sz (by rw [List.getElem?_replicate, if_pos hi])] at h2
            obtain rfl := Option.some.inj h2
            obtain ⟨ci, g1, g2⟩ := all i (by omega)
            obtain ⟨y, g3, g4⟩ := g2 hi
            obtain ⟨g5, _⟩ := rowi i ci g1
            rw [List.getElem?_map, g3] at h3
            obtain rfl := Option.some.inj h3
            have e1 : (List.take i (List.replicate len sz)).sum = i * sz := by
              rw [List.take_replicate, Nat.min_eq_left (by omega), List.sum_replicate_nat]
            rw [e1, List.drop_drop, ← g5]
            exact open_trodV hl k e se hse hte n ci y g4
          obtain ⟨ι1, M1, pieces, g1, hpl, hpv, hpc, hpp, hare⟩ := hopens.open ι M r ro
          have hflat : (chunks (List.replicate len sz) (c.toList.drop off)).flatten = (c.toList.drop off).take (len * sz) := by
            rw [chunks_flatten, List.sum_replicate_nat]
          rw [hflat] at hpv
          have hfl : pieces.flatten.length = len * sz := by
            have := hpv.length
            simp at this
            rw [List.length_flatten, this]
            omega
          have hseen := Grow.see (c := pieces.flatten) (l := ⟨j, off, cap * sz⟩) g1.rel g1.ro hob (by
            refine ⟨c, el, fz, rfl, hend, by rw [hfl]; exact hrow, (fun h => by cases h), fun i b hb => ?_, fun h => by cases h⟩
            obtain ⟨v, hv, hvr⟩ := hpv.get i b hb
            refine ⟨v, ?_, ?_, hvr⟩
            · rw [List.getElem?_take] at hv
              split at hv
              · rw [List.getElem?_drop, Array.getElem?_toList] at hv
                exact hv
              · cases hv
            · obtain ⟨p, hp, hbp⟩ := List.mem_flatten.1 (List.mem_of_getElem? hb)
              exact hpc p hp b hbp)
          have hdl : (toDs (elems.map fun y => y.1)).length = len := by rw [toDs_eq]; simp [hlen]
          refine ⟨_, _, [.slice (some (M1.next, 0)) sz len cap true], g1.trans hseen, ?_, ?_, ?_, ?_⟩
          · simp only [VRL, VR, and_true]
            exact ⟨⟨j, off, cap * sz⟩, ⟨j, off, none⟩, cap, by simp [Inj.set], rfl, .inr rfl, .inr rfl, .inr rfl, hlc, Nat.le_refl _, fun _ => rfl, by simp, by omega⟩
          · intro y hy
            simp at hy
            subst hy
            rfl
          · have e1 : toDs (elems.map fun y => y.1) = elems.map fun y => toD y.1 := by rw [toDs_eq]; simp
            rw [encSs_replicate] at hpp
            · simp only [encS, VLL, VL, and_true, e1]
              refine .inr ⟨M1.next, 0, cap, true, ?_, ?_, by simp, ?_, fun _ => ⟨pieces.flatten, true, true, by simp [Heap.push], fun h => h, by simp [Heap.push], ?_, ?_⟩⟩
              · rw [hsz', List.length_map, hlen]
              · rw [List.length_map, hlen]; exact hlc
              · rw [hpp.length, hfl, List.length_map, hlen, hsz']
              · rw [List.length_map, hlen, ← hsz']; omega
              · rw [List.length_map, hlen, ← hsz', List.drop_zero, List.take_of_length_le (by omega)]
                exact VLL.sub hseen.sub hseen.next _ _ hpp
            · simp [hlen]
          · have e1 : toDs (elems.map fun y => y.1) = elems.map fun y => toD y.1 := by rw [toDs_eq]; simp
            refine ⟨_, rfl, ?_⟩
            rw [e1]
            exact (D.are_replicate hare).2
    · rename_i fs hu
      obtain ⟨ss, hss, rfl⟩ := Option.map_eq_some_iff.1 hs
      obtain ⟨hsl, hsg⟩ := shOfs_get hss
      obtain ⟨kt, kc, ko⟩ := Go.kid_struct hl ht hu
      obtain ⟨xs, n, rfl, rfl, hcl, hxl, hget⟩ := DataW.trod_struct hu h
      intro ι M r ro
      have hopens : OpensAllV W ss (chunks (fs.toList.map fun f => P.cellsOf f.type) cs) (xs.map fun y => toD y.1) := by
        refine OpensAllV.of_get (by simp [hsl, hxl]) (by simp [chunks_length, hxl]) fun i s0 ci d0 h1 h2 h3 => ?_
        have hi : i < fs.toList.length := by
          have := (List.getElem?_eq_some_iff.1 h1).1
          simpa [hsl] using this
        have hf : fs.toList[i]? = some fs.toList[i] := List.getElem?_eq_getElem hi
        obtain ⟨s1, g1, g2⟩ := hsg i _ (by rw [List.getElem?_map, hf]; rfl)
        rw [h1] at g1
        obtain rfl := Option.some.inj g1
        rw [chunks_get _ _ i _ (by rw [List.getElem?_map, hf]; rfl)] at h2
        obtain rfl := Option.some.inj h2
        have h4 := hget i fs.toList[i] (by rw [← Array.getElem?_toList]; exact hf)
        rw [List.getElem?_map] at h3
        obtain ⟨y, hy, rfl⟩ := Option.map_eq_some_iff.1 h3
        rw [hy, ko i _ hf] at h4
        rw [← List.map_take]
        exact open_trodV hl k _ _ g2 (kt _ (List.getElem_mem hi)) n _ y h4
      obtain ⟨ι1, M1, pieces, g1, hpl, hpv, hpc, hpp, hare⟩ := hopens.open ι M r ro
      rw [chunks_flatten, ← kc, ← hcl, List.take_length] at hpv
      have e1 : toD (DataW.agg (xs.map fun y => y.1)) = .agg (xs.map fun y => toD y.1) := by simp [toD, toDs_eq]
      refine ⟨ι1, M1, pieces.flatten, g1, hpv, fun a ha => ?_, ?_, ?_⟩
      · obtain ⟨p, hp, hap⟩ := List.mem_flatten.1 ha
        exact hpc p hp a hap
      · rw [e1]
        simp only [encS]
        exact hpp
      · rw [e1]
        exact ⟨_, rfl, hare⟩
    · rename_i m e hu
      obtain ⟨se, hse, rfl⟩ := Option.map_eq_some_iff.1 hs
      obtain ⟨hte, kc⟩ := Go.kid_array hl ht hu
      obtain ⟨xs, n, rfl, rfl, hcl, hxl, hget⟩ := DataW.trod_array hu h
      intro ι M r ro
      have hopens : OpensAllV W (List.replicate m se) (chunks (List.replicate m (P.cellsOf e)) cs) (xs.map fun y => toD y.1) := by
        refine OpensAllV.of_get (by simp [hxl]) (by simp [chunks_length, hxl]) fun i s0 ci d0 h1 h2 h3 => ?_
        have hi : i < m := by
          have := (List.getElem?_eq_some_iff.1 h1).1
          simpa using this
        rw [List.getElem?_replicate, if_pos hi] at h1
        obtain rfl := Option.some.inj h1
        rw [chunks_get _ _ i (P.cellsOf e) (by rw [List.getElem?_replicate, if_pos hi])] at h2
        obtain rfl := Option.some.inj h2
        have h4 := hget i hi
        rw [List.getElem?_map] at h3
        obtain ⟨y, hy, rfl⟩ := Option.map_eq_some_iff.1 h3
        rw [hy] at h4
        have e1 : (List.take i (List.replicate m (P.cellsOf e))).sum = i * P.cellsOf e := by
          rw [List.take_replicate, Nat.min_eq_left (by omega), List.sum_replicate_nat]
        rw [e1]
        exact open_trodV hl k e se hse hte n _ y h4
      obtain ⟨ι1, M1, pieces, g1, hpl, hpv, hpc, hpp, hare⟩ := hopens.open ι M r ro
      rw [chunks_flatten, List.sum_replicate_nat, ← kc, ← hcl, List.take_length] at hpv
      have e1 : toD (DataW.agg (xs.map fun y => y.1)) = .agg (xs.map fun y => toD y.1) := by simp [toD, toDs_eq]
      refine ⟨ι1, M1, pieces.flatten, g1, hpv, fun a ha => ?_, ?_, ?_⟩
      · obtain ⟨p, hp, hap⟩ := List.mem_flatten.1 ha
        exact hpc p hp a hap
      · rw [e1]
        simp only [encS]
        exact hpp
      · rw [e1]
        exact ⟨_, rfl, hare⟩


/-! ### Arguments -/

/-- An argument: an aggregate is one value. -/
def encArg (s : Sh) (d : D) : AV :=
  match s with
  | .agg ss => .agg (encS s d)
  | s => (encS s d).headD .undef

def encArgs : List Sh → List D → List AV
  | s :: ss, d :: r => encArg s d :: encArgs ss r
  | _, _ => []

theorem open_argV {H : Type} {enc : TypeId × Value → H} {P : Program} (hl : laidOutB P = true) {W : World} {k base : Nat} {t : TypeId} {s : Sh} (hs : shOf P k t = some s) (ht : t < P.types.size) {v : Value} {d : DataW H} {ps : List MemPlace}
    (hval : Value.okWide P W .any base t v) (h : DataW.Trod enc P W 0 (fun _ => true) true t v d ps) {ι : Inj} {M : Heap} (r : R ι M W) (ro : ReadOnly M) :
    ∃ ι' M' a, Grow ι M ι' M' W ∧ VR ι' a v ∧ VL M' (fun _ => False) VI.none (encArg s (toD d)) a ∧ D.is s (toD d) := by
  obtain ⟨fuel, hf⟩ := h
  obtain ⟨ι', M', avs, g, hv, _, hr, hi⟩ := open_trodV hl k t s hs ht fuel _ _ hf ι M r ro
  simp only at hr hi
  have one : v.cells = #[v] → (∀ ss, s ≠ .agg ss) → ∃ ι' M' a, Grow ι M ι' M' W ∧ VR ι' a v ∧ VL M' (fun _ => False) VI.none (encArg s (toD d)) a ∧ D.is s (toD d) := by
    intro e1 e2
    rw [e1] at hv
    match avs, hv, hr with
    | [a], hv, hr =>
      simp only [VRL] at hv
      refine ⟨ι', M', a, g, hv.1, ?_, hi⟩
      have hlen := hr.length
      have : ∃ x, encS s (toD d) = [x] := by
        match hx : encS s (toD d), hlen with
        | [x], _ => exact ⟨x, rfl⟩
        | [], h => simp at h
        | _ :: _ :: _, h => simp at h
      obtain ⟨x, hx⟩ := this
      rw [hx] at hr
      simp only [VLL] at hr
      have he : encArg s (toD d) = x := by
        cases s with
        | agg ss => exact absurd rfl (e2 ss)
        | _ => simp [encArg, hx]
      rw [he]
      exact hr.1
    | [], hv, _ => simp [VRL] at hv
    | _ :: _ :: _, hv, _ => simp [VRL] at hv
  have many : (∃ cs, v = .agg cs) → (∃ ss, s = .agg ss) → ∃ ι' M' a, Grow ι M ι' M' W ∧ VR ι' a v ∧ VL M' (fun _ => False) VI.none (encArg s (toD d)) a ∧ D.is s (toD d) := by
    rintro ⟨cs, rfl⟩ ⟨ss, rfl⟩
    refine ⟨ι', M', .agg avs, g, ?_, ?_, hi⟩
    · simp only [VR]
      exact ⟨cs, rfl, by simpa [Value.cells] using hv⟩
    · simp only [encArg, VL]
      exact ⟨avs, rfl, hr⟩
  cases k with
  | zero => simp [shOf] at hs
  | succ k =>
    simp only [shOf] at hs
    split at hs
    case h_7 => cases hs
    · rename_i hu
      obtain rfl := Option.some.inj hs
      obtain ⟨b, rfl⟩ := okWide_bool hu hval
      exact one rfl fun l hl => by cases hl
    · rename_i i hu
      obtain rfl := Option.some.inj hs
      obtain ⟨b, rfl⟩ := okWide_int hu hval
      exact one rfl fun l hl => by cases hl
    · rename_i hu
      obtain rfl := Option.some.inj hs
      obtain ⟨b, rfl⟩ := okWide_string hu hval
      exact one rfl fun l hl => by cases hl
    · rename_i e hu
      split at hs
      · cases hs
      obtain ⟨se, hse, rfl⟩ := Option.map_eq_some_iff.1 hs
      obtain ⟨a, len, cap, rfl⟩ := okWide_slice hu hval
      exact one rfl fun l hl => by cases hl
    · rename_i fs hu
      obtain ⟨ss, hss, rfl⟩ := Option.map_eq_some_iff.1 hs
      obtain ⟨cs, hcs, _⟩ := okWide_struct hu hval
      exact many ⟨cs, hcs⟩ ⟨_, rfl⟩
    · rename_i n e hu
      obtain ⟨se, hse, rfl⟩ := Option.map_eq_some_iff.1 hs
      simp only [Value.okWide, hu] at hval
      obtain ⟨cs, hcs, _⟩ := hval
      exact many ⟨cs, hcs⟩ ⟨_, rfl⟩

theorem open_allV {H : Type} {enc : TypeId × Value → H} {P : Program} (hl : laidOutB P = true) {W : World} {k base : Nat} :
    ∀ (ts : List TypeId) (ss : List Sh) (vs : List Value) (ds : List (DataW H)) (p : List MemPlace), shOfs P k ts = some ss → (ts.all fun t => decide (t < P.types.size)) = true →
      (∀ (j : Nat) t v, ts[j]? = some t → vs[j]? = some v → Value.okWide P W .any base t v) → DataW.TrodAll enc P W 0 (fun _ => true) true ts vs ds p →
      ∀ ι M, R ι M W → ReadOnly M → ∃ ι' M' as, Grow ι M ι' M' W ∧ VRL ι' as vs ∧ VLL0 M' (encArgs ss (ds.map toD)) as ∧ D.are ss (ds.map toD)
  | [], ss, [], [], p, hs, _, _, _, ι, M, r, ro => by
    simp [shOfs, mapO] at hs
    subst hs
    exact ⟨ι, M, [], .refl r ro, by simp [VRL], by simp [encArgs, VLL0, VLL], by simp [D.are]⟩
  | t :: ts, ss, v :: vs, d :: ds, p, hs, ht, hval, h, ι, M, r, ro => by
    simp only [shOfs, mapO] at hs
    split at hs
    case h_2 => cases hs
    rename_i s sr h1 h2
    obtain rfl := Option.some.inj hs
    simp only [List.all_cons, Bool.and_eq_true, decide_eq_true_eq] at ht
    simp only [DataW.TrodAll] at h
    obtain ⟨p1, p2, g1, g2, _⟩ := h
    obtain ⟨ι1, M1, a, q1, q2, q3, q4⟩ := open_argV hl h1 ht.1 (hval 0 t v (by simp) (by simp)) g1 r ro
    obtain ⟨ι2, M2, as, w1, w2, w3, w4⟩ := open_allV hl ts sr vs ds p2 h2 (by simpa using ht.2) (fun j t v a b => hval (j + 1) t v (by simpa using a) (by simpa using b)) g2 ι1 M1 q1.rel q1.ro
    refine ⟨ι2, M2, a :: as, q1.trans w1, ?_, ?_, ?_⟩
    · simp only [VRL]
      exact ⟨q2.mono w1.le, w2⟩
    · simp only [List.map_cons, encArgs, VLL0, VLL]
      exact ⟨VL.sub (κ := VI.none) (κ' := VI.none) w1.sub w1.next _ _ q3, w3⟩
    · simp only [List.map_cons, D.are]
      exact ⟨q4, w4⟩
  | [], _, _ :: _, _, _, _, _, _, h, _, _, _, _ => by simp [DataW.TrodAll] at h
  | [], _, [], _ :: _, _, _, _, _, h, _, _, _, _ => by simp [DataW.TrodAll] at h
  | _ :: _, _, [], _, _, _, _, _, h, _, _, _, _ => by simp [DataW.TrodAll] at h
  | _ :: _, _, _ :: _, [], _, _, _, _, h, _, _, _, _ => by simp [DataW.TrodAll] at h

/-- What is to be shown in V: over whatever is read, of this bulk, it tells true. -/
def VLaw (g : List AV → Option (AV × Heap)) (ss : List Sh) (small : Nat) : Prop :=
  ∀ ds : List D, D.are ss ds → D.bulks ds ≤ small → ∃ H, g (encArgs ss ds) = some (.bool true, H)

def fr0 : Fr := { mark := 0, tidy := [] }

theorem VS.empty {M : Heap} (h : M.Wf) : VS VI.none Heap.empty M :=
  ⟨fun _ _ h => (nomatch h), fun _ _ _ h => (nomatch h), fun i x h => (nomatch h), fun _ h => (nomatch h), fun _ h => (nomatch h), fun _ _ => rfl, h⟩

theorem own_none : own VI.none = fun _ => False := by
  funext j
  simp [own, VI.none]

theorem open_callsV {H : Type} {enc : TypeId × Value → H} {P : Program} (hl : laidOutB P = true) {f : FuncId} {C : ACalls} (hg : Sound P f (C f)) {c : VCalls} (hC : VSim c C) {ss : List Sh} {small : Nat} (hp : VLaw (fun as => c fr0 f as Heap.empty) ss small)
    {W : World} {k base : Nat} {ts : List TypeId} {args : Array Value} {ds : List (DataW H)} {p : List MemPlace} (hs : shOfs P k ts = some ss) (ht : (ts.all fun t => decide (t < P.types.size)) = true)
    (hval : ∀ (j : Nat) t v, ts[j]? = some t → args.toList[j]? = some v → Value.okWide P W .any base t v) (hA : DataW.TrodAll enc P W 0 (fun _ => true) true ts args.toList ds p) (hb : D.bulks (ds.map toD) ≤ small) :
    Calls P f args W fun e W' => e = .returned (.bool true) ∧ Below W.heap.size W W' := by
  obtain ⟨ι, M, as, g1, g2, g3, g4⟩ := open_allV hl ts ss args.toList ds p hs ht hval hA _ _ (R.empty W) (fun b x h => by simp [Heap.empty] at h)
  obtain ⟨H', hH⟩ := hp _ g4 hb
  have hw : M.Wf := fun b hb => (g1.rel.fresh b hb).1
  have g3' : VLL M (own VI.none) VI.none (encArgs ss (ds.map toD)) as := by rw [own_none]; exact g3
  obtain ⟨a, M', ι1, e1, e2, e3⟩ := hC fr0 f _ _ _ hH VI.none M as (VS.empty hw) (Nat.zero_le _) g3'
  simp only [VL] at e3
  subst e3
  refine (hg as M _ M' e1 ι W args g1.rel g2).mono ?_
  rintro e w' ⟨ι', v', rfl, hv, htr⟩
  simp only [VR] at hv
  subst hv
  exact ⟨rfl, below_of_tr htr g1.ro⟩

/-- A law's machine and V's: the example is known. -/
theorem law_sim {kn : FuncId} {T : FuncId → Option AFunc} {VT : FuncId → Option VFunc} (hrun : tellsTrue (bcall (fun _ => none) T 100000 40 kn [] Heap.empty) = true)
    (hT : ∀ f vf, f ≠ kn → VT f = some vf → T f = some vf.erase ∧ vf.code.okc = true ∧ ∀ g, vf.sum = some g → VSum g vf.erase) (K d : Nat) : VSim (vcall kn VT K d) (bcall (withKnown kn T) T K d) :=
  vcall_ok (fun d M => known_spec hrun K d M) (fun f vf hf hv => by
    obtain ⟨h1, h2, h3⟩ := hT f vf hf hv
    exact ⟨by simp [withKnown, hf], h1, h2, h3⟩) d

end Go.Proofs.Ytachollgbplikaa
