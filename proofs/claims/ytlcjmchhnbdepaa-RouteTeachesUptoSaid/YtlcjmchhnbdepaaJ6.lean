/- The machine, part 6. -/
import Derived.Test.YtlcjmchhnbdepaaJ5
import Derived.Lib.Overlaps
import Derived.Laws.Externs
section
/- slices.Insert of one element: what it comes to, in the machine and in W. -/
set_option linter.all false
set_option linter.unusedSimpArgs false
namespace Go.Proofs.Ytlcjmchhnbdepaa

/-- The cells of a block in which an element was put at place 'i' of the 'n' that lie from 'o' on. -/
def insRow (sz i n o : Nat) (c new : List AV) : List AV := c.take (o + i * sz) ++ (new ++ ((c.drop (o + i * sz)).take ((n - i) * sz) ++ c.drop (o + (n + 1) * sz)))

/-- One's own, with no room behind. -/
def plainB (M : Heap) (b : Nat) : Bool := match M.get b with
  | some (.cells _ false false) => true
  | _ => false

def insFin (sz : Nat) (i : Int) (n : Nat) (new : List AV) (p : AV × Heap) : Option (AV × Heap) :=
  if i = (n : Int) then some p else match p.1 with
    | .slice (some (q, o)) _ _ _ _ => match p.2.get q with
      | some (.cells c false sl) => some (p.1, p.2.put q (some (.cells (insRow sz i.toNat n o c new) false sl)))
      | _ => none
    | _ => none

/-- What slices.Insert of one element comes to: it is put behind, and what was behind its place is laid behind it. -/
def insG (sz bytes : Nat) (args : List AV) (M : Heap) : Option (AV × Heap) :=
  match args with
  | [.slice a sz' n cap ex, .int .i64 i, .slice (some (b2, o2)) sz2 m2 cap2 ex2] =>
    if sz2 = sz ∧ m2 = 1 ∧ 0 ≤ i ∧ i ≤ (n : Int) ∧ plainB M b2 = true ∧ (i = (n : Int) ∨ ∀ q, a = some q → q.1 ≠ b2) ∧ n + 1 ≤ 70368744177664 then
      (M.read b2 o2 (1 * sz)).bind fun new => (aAppend sz bytes (.slice a sz' n cap ex) 1 new M).bind (insFin sz i n new)
    else none
  | _ => none

theorem ins_bok {A : Tab} {d : Nat} {f : FuncId} {sz bytes : Nat} (hG : A.1 f = some (insG sz bytes)) : BOk (wcalls A (d + 1)) f (.ins sz bytes) := by
  intro R ι H M args as dst tr k s hv h
  have run : wcalls A (d + 1) f as M = insG sz bytes as M := by simp only [wcalls, bcall, hG]
  rw [run]
  simp only [wBt] at h
  split at h
  case h_2 => exact h.elim
  rename_i b o sz1 n w i b2 o2 sz2 m2 w2
  match as, hv with
  | [], hv => simp [VLL] at hv
  | [_], hv => simp [VLL] at hv
  | [_, _], hv => simp [VLL] at hv
  | _ :: _ :: _ :: _ :: _, hv => simp [VLL] at hv
  | [a, ai, x], hv =>
  simp only [VLL] at hv
  obtain ⟨ha, hi, hx, _⟩ := hv
  simp only [VL] at hi
  subst hi
  split at h
  · exact h.elim
  rename_i hne
  have hbb : b ≠ b2 := fun e => by rw [e, Nat.beq_refl] at hne; cases hne
  split at h
  case h_2 => exact h.elim
  rename_i cx hgx
  split at h
  case h_2 => exact h.elim
  rename_i m new hel
  split at h
  case h_2 => exact h.elim
  rename_i hm1
  obtain rfl := Nat.eq_of_beq_eq_true hm1
  split at h
  case h_2 => exact h.elim
  rename_i len old H' t hbase
  obtain ⟨_, ⟨hi0, hi1⟩, h⟩ := need_ok h
  obtain ⟨_, h⟩ := ovrC_ok h
  obtain ⟨tr', hf, hk⟩ := need_ok h
  obtain ⟨e1, e2, new', e3, e4⟩ := wElems_ok s hx hel
  obtain ⟨u1, u2⟩ := s.iced [] (wElems_live hel)
  obtain ⟨a', M', ι', q1, q2, q3, q4⟩ := append_ok u1 (VL.step s u2 ha) e4 e2 hbase hf
  have q3' : Stp H.length t ι H M ι' (H' ++ [some (.cells (old ++ new) false true)]) M' := by
    have := u2.trans q3 (Nat.le_refl _)
    simpa using this
  -- what is put in
  obtain ⟨hx1, hx2, px, sx, capx, exx, rfl, hx3, hx4, hx5⟩ := VL.acc_at s hx hgx
  have hm2 : m2 = 1 := by
    cases px with
    | none => simp only [aElems, Option.some.injEq, Prod.mk.injEq] at e3; exact e3.1
    | some q =>
      simp only [aElems] at e3
      split at e3
      · simp only [Option.some.injEq, Prod.mk.injEq] at e3; omega
      · obtain ⟨cs, _, e⟩ := Option.map_eq_some_iff.1 e3
        simp only [Prod.mk.injEq] at e
        exact e.1
  subst hm2
  rcases hx5 with ⟨j2, cx', tx, rox, slx', Lx, g1, g2, g3, g4, g5, g6, rfl, g7⟩ | ⟨hx5, _⟩
  case inr => omega
  obtain rfl := hx4 (by simp)
  obtain ⟨rfl, hgone⟩ := g3 rfl
  have hsx : sx = sz := by simpa [aElemSize] using e1
  subst hsx
  have hread : M.read j2 o2 (1 * sx) = some new' := by
    simp only [aElems] at e3
    rw [if_neg (by omega)] at e3
    obtain ⟨cs, e, e'⟩ := Option.map_eq_some_iff.1 e3
    simp only [Prod.mk.injEq, true_and] at e'
    rw [e, e']
  have hown : plainB M j2 = true := by
    have := s.at_sl g1 hgx g2 rfl
    subst this
    simp [plainB, g2]
  -- to what
  have hga : ∃ c ro sl, wget H b = some (.cells c ro sl) := by
    unfold wBase at hbase
    split at hbase
    · rename_i hq
      cases hq
    · rename_i b' sz' n' w' hq
      injection hq with q1 q2 q3 q4 q5
      subst q1
      split at hbase
      case h_2 => cases hbase
      split at hbase
      · exact ⟨_, _, _, by assumption⟩
      · exact ⟨_, _, _, by assumption⟩
      · cases hbase
    · cases hbase
  obtain ⟨ca, roa, sla, hga⟩ := hga
  obtain ⟨ha1, ha2, pa, sa, capa, exa, rfl, ha3, ha4, ha5⟩ := VL.acc_at s ha hga
  have hlen : len = n := by
    unfold wBase at hbase
    split at hbase
    · rename_i hq
      cases hq
    · rename_i b' sz' n' w' hq
      injection hq with q1 q2 q3 q4 q5
      subst q4
      split at hbase
      case h_2 => cases hbase
      split at hbase
      · simp only [Option.some.injEq, Prod.mk.injEq] at hbase; exact hbase.1.symm
      · split at hbase
        case h_2 => cases hbase
        split at hbase
        case h_2 => cases hbase
        split at hbase
        · simp only [Option.some.injEq, Prod.mk.injEq] at hbase; exact hbase.1.symm
        · cases hbase
      · cases hbase
    · cases hbase
  subst hlen
  have hap : i = (len : Int) ∨ ∀ q, pa = some q → q.1 ≠ j2 := by
    rcases ha5 with ⟨j, c', t', ro', sl', L, k1, k2, k3, k4, k5, k6, k7, k8⟩ | ⟨k1, k2, k3, k4⟩
    · right
      intro q hq
      rw [k7] at hq
      obtain rfl := Option.some.inj hq
      intro e
      simp only at e
      subst e
      exact hbb (s.inj _ _ _ (.inl ⟨_, hga⟩) (.inl ⟨_, hgx⟩) k1 g1 (.inr hgone))
    · left
      omega
  have hdef : insG sx bytes [.slice pa sa len capa exa, .int .i64 i, .slice (some (j2, o2)) sx 1 capx exx] M = insFin sx i len new' (a', M') := by
    unfold insG
    simp only
    rw [if_pos ⟨trivial, trivial, hi0, hi1, hown, hap, (fitsB_iff hf).2⟩, hread, Option.bind_some, q1, Option.bind_some]
  have hol : old.length = len * sx ∧ (old ++ new).length = (len + 1) * sx := by
    have hgr : wget (H' ++ [some (.cells (old ++ new) false true)]) H'.length = some (.cells (old ++ new) false true) := by rw [wget_push, if_neg (by omega), if_pos rfl]
    obtain ⟨_, z2, _⟩ := VL.acc_at q2 q4 hgr
    have := (z2 rfl).2
    rw [List.length_append, e2] at this
    refine ⟨?_, by rw [List.length_append, e2]; omega⟩
    rw [Nat.add_mul] at this
    omega
  rw [hdef]
  unfold insFin
  by_cases hin : i = (len : Int)
  · rw [if_pos hin]
    have hrow : old.take (i.toNat * sx) ++ (new ++ old.drop (i.toNat * sx)) = old ++ new := by
      rw [hin, Int.toNat_natCast, List.take_of_length_le (by omega), List.drop_of_length_le (by omega), List.append_nil]
    rw [hrow] at hk
    exact ⟨_, M', ι', _, _, t, tr', rfl, q2, q3', q4, hk⟩
  · rw [if_neg hin]
    obtain ⟨k, rfl⟩ : ∃ k : Nat, i = (k : Int) := ⟨i.toNat, by omega⟩
    rw [Int.toNat_natCast] at hk ⊢
    have hkl : k < len := by omega
    have hgr : wget (H' ++ [some (.cells (old ++ new) false true)]) H'.length = some (.cells (old ++ new) false true) := by rw [wget_push, if_neg (by omega), if_pos rfl]
    obtain ⟨z1, z2, pr, sr, capr, exr, rfl, z3, z4, z5⟩ := VL.acc_at q2 q4 hgr
    rcases z5 with ⟨j, c', t', ro', sl', L, k1, k2, k3, k4, k5, k6, rfl, k8⟩ | ⟨z5, _⟩
    case inr => omega
    obtain ⟨rfl, hgo⟩ := k3 rfl
    obtain rfl := z4 (by simp)
    simp only [k2]
    have hcl := k6.length
    simp only [if_true] at k6
    have hks : k * sr ≤ len * sr := Nat.mul_le_mul_right _ (by omega)
    have hmul : (len + 1) * sr = len * sr + sr := by rw [Nat.add_mul, Nat.one_mul]
    have hsub : (len - k) * sr = len * sr - k * sr := Nat.sub_mul _ _ _
    have hc'l : c'.length = (len + 1) * sr := by rw [← hcl]; exact hol.2
    have hrow : insRow sr k len 0 (c' ++ t') new' = (c'.take (k * sr) ++ (new' ++ (c'.drop (k * sr)).take ((len - k) * sr))) ++ t' := by
      unfold insRow
      rw [Nat.zero_add, Nat.zero_add, List.take_append_of_le_length (by omega), List.drop_append_of_le_length (by omega), List.take_append_of_le_length (by rw [List.length_drop]; omega), ← hc'l, List.drop_left]
      simp only [List.append_assoc]
    have hnew1 : VLL M' (OR R ι') VI.none new new' := VLL.stepN q3 e4
    have hold : old = (old ++ new).take (len * sr) := by rw [← hol.1, List.take_left]
    have hpre : VLL M' (OR R ι') VI.none (old.take (k * sr)) (c'.take (k * sr)) := by
      have := VLL.take (k * sr) k6
      rw [List.take_append_of_le_length (by omega)] at this
      exact this
    have hpost : VLL M' (OR R ι') VI.none (old.drop (k * sr)) ((c'.drop (k * sr)).take ((len - k) * sr)) := by
      have := VLL.take ((len - k) * sr) (VLL.drop (k * sr) k6)
      rw [List.drop_append_of_le_length (by omega), List.take_append_of_le_length (by rw [List.length_drop]; omega), List.take_of_length_le (by rw [List.length_drop]; omega)] at this
      exact this
    have hall := hpre.append (hnew1.append hpost)
    have hlen2 : (old.take (k * sr) ++ (new ++ old.drop (k * sr))).length = (old ++ new).length := by
      simp only [List.length_append, List.length_take, List.length_drop]
      omega
    have hlen3 : (c'.take (k * sr) ++ (new' ++ (c'.drop (k * sr)).take ((len - k) * sr))).length = c'.length := by
      rw [← hall.length, hlen2, hcl]
    obtain ⟨r1, r2⟩ := q2.put k1 hgr (x := .cells (old.take (k * sr) ++ (new ++ old.drop (k * sr))) false true) (y := .cells ((c'.take (k * sr) ++ (new' ++ (c'.drop (k * sr)).take ((len - k) * sr))) ++ t') false sl')
      ⟨_, t', false, sl', L, rfl, fun _ => rfl, by rw [hlen2]; exact k4, by rw [List.length_append, hlen3, ← List.length_append]; exact k5, by simpa using hall, fun h => by cases h⟩
    have hput : wput (H' ++ [some (Blk.cells (old ++ new) false true)]) H'.length (some (Blk.cells (old.take (k * sr) ++ (new ++ old.drop (k * sr))) false true)) = H' ++ [some (Blk.cells (old.take (k * sr) ++ (new ++ old.drop (k * sr))) false true)] := by
      rw [wput_eq, List.set_append_right _ _ (Nat.le_refl _), Nat.sub_self]
      rfl
    rw [hput] at r1 r2
    rw [hrow]
    refine ⟨_, _, ι', _, _, t, tr', rfl, r1, ?_, VL.step q2 r2 q4, hk⟩
    have hle : H.length ≤ (H' ++ [some (Blk.cells (old ++ new) false true)]).length := q3'.next
    have := (q3'.trans r2 hle).more (t' := t) (fun x hx hm => by
      rcases List.mem_append.1 hm with hm | hm
      · exact hm
      · rw [List.mem_singleton.1 hm] at hx
        have : H.length ≤ H'.length := by
          have hH : H'.length = H.length := by
            unfold wBase at hbase
            split at hbase
            · rename_i hq; cases hq
            · rename_i b' sz' n' w' hq
              split at hbase
              case h_2 => cases hbase
              split at hbase
              · simp only [Option.some.injEq, Prod.mk.injEq] at hbase; rw [← hbase.2.2.1, wput_len]; try rfl
              · split at hbase
                case h_2 => cases hbase
                split at hbase
                case h_2 => cases hbase
                split at hbase
                · simp only [Option.some.injEq, Prod.mk.injEq] at hbase; rw [← hbase.2.2.1, wput_len, wice_len]; try rfl
                · cases hbase
              · cases hbase
            · cases hbase
          omega
        omega)
    exact this

end Go.Proofs.Ytlcjmchhnbdepaa
end

section
/- slices.Insert of one element: its code, run where all capacities are known. -/
set_option linter.all false
set_option linter.unusedSimpArgs false
namespace Go.Proofs.Ytlcjmchhnbdepaa

def insF (sz bytes : Nat) (zero : List AV) (ov rr : FuncId) : AFunc := { nargs := 3, ntmps := 95, code := (.seq (.reg [oC 6 (.slice none 1 0 0 true)]) (.seq (.reg [oV 10 0, oV 11 1, oP 12 (.slice sz (.t 10) (some (.t 11)) none none)]) (.seq (.reg [oV 13 2, oP 14 (.len false (.t 13)), oV 7 14]) (.seq (.seq (.reg [oV 15 7, oP 16 (.bin .eql (.t 15) (iC 0))]) (.cond (.t 16) (.seq (.reg [oV 17 0, oV 6 17]) .ret) .skip)) (.seq (.reg [oV 18 0, oP 19 (.len false (.t 18)), oV 8 19]) (.seq (.seq (.reg [oV 20 1, oV 21 8, oP 22 (.bin .eql (.t 20) (.t 21))]) (.cond (.t 22) (.seq (.reg [oV 23 0, oV 24 2, oN 25 (.append sz bytes (.t 23) (.t 24)), oV 6 25]) .ret) .skip)) (.seq (.seq (.reg [oV 26 8, oV 27 7, oP 28 (.bin .add (.t 26) (.t 27)), oV 29 0, oP 30 (.cap (.t 29)), oP 31 (.bin .gtr (.t 28) (.t 30))]) (.cond (.t 31) (.seq (.reg [oV 32 0, oV 33 1, oP 34 (.slice sz (.t 32) none (some (.t 33)) none), oV 35 8, oV 36 7, oP 37 (.bin .add (.t 35) (.t 36)), oV 38 1, oP 39 (.bin .sub (.t 37) (.t 38)), oN 40 (.appendZ sz bytes zero (.t 34) (.t 39)), oV 9 40]) (.seq (.reg [oV 41 9, oV 42 1, oP 43 (.slice sz (.t 41) (some (.t 42)) none none), oV 44 2, oN 45 (.copy sz (.t 43) (.t 44))]) (.seq (.dreg 0 [oD (oV 46 9) 0 0, oD (oV 47 1) 0 0, oD (oV 48 7) 0 0, oD (oP 49 (.bin .add (.t 47) (.t 48))) 0 0, oD (oP 50 (.slice sz (.t 46) (some (.t 49)) none none)) 0 0, oD (oV 51 0) 0 0, oD (oV 52 1) 0 0, oD (oP 53 (.slice sz (.t 51) (some (.t 52)) none none)) 0 0, oD (oN 54 (.copy sz (.t 50) (.t 53))) 0 0]) (.seq (.reg [oV 55 9, oV 6 55]) .ret)))) .skip)) (.seq (.reg [oV 56 0, oV 57 8, oV 58 7, oP 59 (.bin .add (.t 57) (.t 58)), oP 60 (.slice sz (.t 56) none (some (.t 59)) none), oV 0 60]) (.seq (.seq (.reg [oV 61 2, oV 62 0, oV 63 1, oV 64 7, oP 65 (.bin .add (.t 63) (.t 64)), oP 66 (.slice sz (.t 62) (some (.t 65)) none none), oN 67 (.call (.c (.func ov [])) [(.t 61), (.t 66)]), oP 68 (.un .not (.t 67))]) (.cond (.t 68) (.seq (.dreg 0 [oD (oV 69 0) 0 0, oD (oV 70 1) 0 0, oD (oV 71 7) 0 0, oD (oP 72 (.bin .add (.t 70) (.t 71))) 0 0, oD (oP 73 (.slice sz (.t 69) (some (.t 72)) none none)) 0 0, oD (oV 74 0) 0 0, oD (oV 75 1) 0 0, oD (oP 76 (.slice sz (.t 74) (some (.t 75)) none none)) 0 0, oD (oN 77 (.copy sz (.t 73) (.t 76))) 0 0]) (.seq (.reg [oV 78 0, oV 79 1, oP 80 (.slice sz (.t 78) (some (.t 79)) none none), oV 81 2, oN 82 (.copy sz (.t 80) (.t 81))]) (.seq (.reg [oV 83 0, oV 6 83]) .ret))) .skip)) (.seq (.reg [oV 84 0, oV 85 8, oP 86 (.slice sz (.t 84) (some (.t 85)) none none), oV 87 2, oN 88 (.copy sz (.t 86) (.t 87))]) (.seq (.reg [oV 89 0, oV 90 1, oP 91 (.slice sz (.t 89) (some (.t 90)) none none), oV 92 7, oN 93 (.call (.c (.func rr [])) [(.t 91), (.t 92)])]) (.seq (.reg [oV 94 0, oV 6 94]) .ret)))))))))))), results := [(.tmp 6)] }

theorem sl_lo {sz b o len cap l : Nat} {ex : Bool} (h : l ≤ len) : aSlice sz (some (b, o)) sz len cap ex [] (some (.c (.int .i64 (l : Int)))) none none = some (.slice (some (b, o + l * sz)) sz (len - l) (cap - l) ex) := by
  unfold aSlice
  rw [if_pos (.inr rfl)]
  simp only [aBoundO, aBound, AX.ev, Option.bind_some]
  rw [if_pos ⟨by omega, by omega⟩]
  simp [aShift]
theorem sl_hi {sz b o len cap l : Nat} {ex : Bool} (h : l ≤ cap) : aSlice sz (some (b, o)) sz len cap ex [] none (some (.c (.int .i64 (l : Int)))) none = some (.slice (some (b, o)) sz l cap ex) := by
  unfold aSlice
  rw [if_pos (.inr rfl)]
  simp only [aBoundO, aBound, AX.ev, Option.bind_some]
  rw [if_pos ⟨by omega, by omega⟩]
  simp [aShift]

/-- A new row is made. -/
theorem ins_new (C : ACalls) (K sz bytes : Nat) (zero : List AV) (ov rr : FuncId) (hz : zero.length = sz) (hsz : 0 < sz) (M : Heap) {b o n cap i b2 o2 cap2 : Nat} {ex2 ro sl : Bool} {c new : List AV} (hb : M.get b = some (.cells c ro sl)) (hbn : b ≠ M.next) (hb2n : b2 ≠ M.next)
    (hc : o + n * sz ≤ c.length) (hnew : M.read b2 o2 (1 * sz) = some new) (hi : i < n) (hcap : cap < n + 1) (hnc : n ≤ cap) (h1 : (n + 1) * bytes ≤ 70368744177664) (h2 : n + 1 ≤ 70368744177664) :
    bbody C K (insF sz bytes zero ov rr) [.slice (some (b, o)) sz n cap true, .int .i64 (i : Int), .slice (some (b2, o2)) sz 1 cap2 ex2] M =
      some (.slice (some (M.next, 0)) sz (n + 1) (n + 1) false, M.push (.cells ((c.drop o).take (i * sz) ++ (new ++ (c.drop (o + i * sz)).take ((n - i) * sz))) false true)) := by
  obtain ⟨N, hN⟩ : ∃ N, N = n + 1 := ⟨_, rfl⟩
  obtain ⟨I, hI⟩ : ∃ I, I = i + 1 := ⟨_, rfl⟩
  obtain ⟨D, hD⟩ : ∃ D, D = N - i := ⟨_, rfl⟩
  have w1 : IntKind.i64.wrap ((n : Int) + 1) = (N : Int) := by rw [Proofs.Ytlcjmchhnbdepaa.wrap_i64 (by omega) (by omega)]; omega
  have w2 : IntKind.i64.wrap ((i : Int) + 1) = (I : Int) := by rw [Proofs.Ytlcjmchhnbdepaa.wrap_i64 (by omega) (by omega)]; omega
  have w3 : IntKind.i64.wrap ((N : Int) - (i : Int)) = (D : Int) := by rw [Proofs.Ytlcjmchhnbdepaa.wrap_i64 (by omega) (by omega)]; omega
  have c1 : (D : Int) ≤ 70368744177664 := by omega
  have c2 : 0 < D := by omega
  have c3 : bytes * D ≤ 281474976710656 := by
    have := Nat.mul_le_mul_left bytes (show D ≤ n + 1 by omega)
    rw [Nat.mul_comm bytes (n + 1)] at this
    omega
  have hne : ¬ i = n := by omega
  have hgt : cap < N := by omega
  have hbq : ((i : Int) == (n : Int)) = false := by rw [beq_eq_false_iff_ne]; omega
  have rl : (reps D zero).length = D * sz := by rw [reps_len, hz]
  have hnl : new.length = sz := by
    unfold Heap.read at hnew
    split at hnew
    case h_2 => cases hnew
    split at hnew
    case isFalse => cases hnew
    obtain rfl := Option.some.inj hnew
    simp only [List.length_take, List.length_drop]
    omega
  have his : i * sz ≤ n * sz := Nat.mul_le_mul_right _ (by omega)
  have hpl : ((c.drop o).take (i * sz)).length = i * sz := by rw [List.length_take, List.length_drop]; omega
  have hsub : (n - i) * sz = n * sz - i * sz := Nat.sub_mul _ _ _
  have hDs : D * sz = sz + (n - i) * sz := by rw [hD, hN, show n + 1 - i = 1 + (n - i) by omega, Nat.add_mul, Nat.one_mul]
  have hIs : I * sz = i * sz + sz := by rw [hI, Nat.add_mul, Nat.one_mul]
  have hql : ((c.drop (o + i * sz)).take ((n - i) * sz)).length = (n - i) * sz := by rw [List.length_take, List.length_drop]; omega
  generalize hpre : (c.drop o).take (i * sz) = pre at *
  generalize hpost : (c.drop (o + i * sz)).take ((n - i) * sz) = post at *
  have a1 : aAppend sz bytes (.slice (some (b, o)) sz i cap true) D (reps D zero) M = some (.slice (some (M.next, 0)) sz N N false, M.push (.cells (pre ++ reps D zero) false true)) := by
    have hold : (if True ∧ i = 0 then some [] else M.read b o (i * sz)) = some pre := by
      by_cases h0 : i = 0
      · subst h0
        rw [if_pos ⟨trivial, rfl⟩, ← hpre]
        simp
      · rw [if_neg (by simp [h0])]
        simp only [Heap.read, hb]
        rw [if_pos (by omega), hpre]
    have e : i + D = N := by omega
    simp only [aAppend]
    rw [if_neg (by simp), e, if_neg (by omega), if_pos ⟨by rw [hN]; exact h1, by omega⟩]
    simp only [hold, Option.bind_some, if_true]
  have r1 : (M.push (.cells (pre ++ reps D zero) false true)).read b2 o2 (1 * sz) = some new := by
    rw [← hnew]
    simp only [Heap.read, Heap.push, if_neg hb2n]
  have k1 : aCopy sz (.slice (some (M.next, 0 + i * sz)) sz (N - i) (N - i) false) (.slice (some (b2, o2)) sz 1 cap2 ex2) (M.push (.cells (pre ++ reps D zero) false true)) = some (.int .i64 ((1 : Nat) : Int), M.push (.cells (pre ++ (new ++ (reps D zero).drop sz)) false true)) := by
    have hm : min 1 (N - i) = 1 := by omega
    simp only [aCopy, aElemSize, aSize, beq_self_eq_true, Option.bind_some, hm, aFew, if_neg (show ¬ (1 = 0) by omega), r1]
    rw [if_pos ⟨.inr trivial, trivial⟩]
    simp only [Option.bind_some, Heap.lay, Heap.push, if_true]
    rw [if_pos (.inl (by simp only [List.length_append]; omega))]
    simp only [Option.map_some, Heap.put, Option.some.injEq, Prod.mk.injEq, true_and, Heap.mk.injEq, and_true]
    funext z
    by_cases hz2 : z = M.next
    · simp only [hz2, if_true]
      congr 2
      rw [Nat.zero_add, ← hpl, List.take_left, List.append_assoc, List.drop_append, List.drop_of_length_le (by omega), List.nil_append]
      congr 3
      omega
    · simp only [if_neg hz2]
  have r2 : (M.push (.cells (pre ++ (new ++ (reps D zero).drop sz)) false true)).read b (o + i * sz) ((n - i) * sz) = some post := by
    simp only [Heap.read, Heap.push, if_neg hbn, hb]
    rw [if_pos (by omega), hpost]
  have k2 : aCopy sz (.slice (some (M.next, 0 + I * sz)) sz (N - I) (N - I) false) (.slice (some (b, o + i * sz)) sz (n - i) (cap - i) true) (M.push (.cells (pre ++ (new ++ (reps D zero).drop sz)) false true)) = some (.int .i64 ((n - i : Nat) : Int), M.push (.cells (pre ++ (new ++ post)) false true)) := by
    have hm : min (n - i) (N - I) = n - i := by omega
    simp only [aCopy, aElemSize, aSize, beq_self_eq_true, Option.bind_some, hm, aFew, if_neg (show ¬ (n - i = 0) by omega), r2]
    rw [if_pos ⟨.inr trivial, trivial⟩]
    simp only [Option.bind_some, Heap.lay, Heap.push, if_true]
    rw [if_pos (.inl (by simp only [List.length_append, List.length_drop]; omega))]
    simp only [Option.map_some, Heap.put, Option.some.injEq, Prod.mk.injEq, true_and, Heap.mk.injEq, and_true]
    funext z
    by_cases hz2 : z = M.next
    · simp only [hz2, if_true]
      congr 2
      have e1 : 0 + I * sz = (pre ++ new).length := by rw [List.length_append]; omega
      have e2 : pre ++ (new ++ (reps D zero).drop sz) = (pre ++ new) ++ (reps D zero).drop sz := by rw [List.append_assoc]
      rw [e2, e1, List.take_left, List.drop_append, List.drop_of_length_le (by omega), List.nil_append, List.drop_of_length_le (by rw [List.length_drop]; omega), List.append_nil, List.append_assoc]
    · simp only [if_neg hz2]
  have s1 := sl_lo (sz := sz) (b := b) (o := o) (cap := cap) (ex := true) (show i ≤ n by omega)
  have s2 := sl_hi (sz := sz) (b := b) (o := o) (len := n) (ex := true) (show i ≤ cap by omega)
  have s3 := sl_lo (sz := sz) (b := M.next) (o := 0) (cap := N) (ex := false) (show i ≤ N by omega)
  have s4 := sl_lo (sz := sz) (b := M.next) (o := 0) (cap := N) (ex := false) (show I ≤ N by omega)
  rw [Nat.zero_add] at s3 s4 k1 k2
  rw [← hN]
  simp [bbody, insF, start, List.replicate, List.replicate_succ, bexec_seq, bexec_reg, bops_cons, bops_nil, bdops, AOp.sub, POp.sub, NOp.sub, AX.sub, AX.subO, bexec, Proofs.Ytlcjmchhnbdepaa.look_cons, bput_some, aop, aP, aN, AX.ev, aBin, aInts, aUn, bResults, bResL, bRes, bwanted, force_eq, w1, w2, w3, c1, c2, c3, hne, hgt, hbq, a1, k1, k2, s1, s2, s3, s4]

/-- There is room: in place. -/
theorem ins_room (C : ACalls) (K sz bytes : Nat) (zero : List AV) (ov rr : FuncId) (hsz : 0 < sz) (M : Heap) {b o n cap i b2 o2 cap2 : Nat} {ex2 sl : Bool} {c new : List AV} (hb : M.get b = some (.cells c false sl)) (hbb : b2 ≠ b)
    (hc : o + n * sz ≤ c.length) (hcr : o + (n + 1) * sz ≤ c.length ∨ sl = true) (hnew : M.read b2 o2 (1 * sz) = some new) (hi : i < n) (hcap : n + 1 ≤ cap) (h2 : n + 1 ≤ 70368744177664)
    (hov : C ov [.slice (some (b2, o2)) sz 1 cap2 ex2, .slice (some (b, o + (i + 1) * sz)) sz (n - i) (cap - (i + 1)) true] M = some (.bool false, M)) :
    bbody C K (insF sz bytes zero ov rr) [.slice (some (b, o)) sz n cap true, .int .i64 (i : Int), .slice (some (b2, o2)) sz 1 cap2 ex2] M =
      some (.slice (some (b, o)) sz (n + 1) cap true, M.put b (some (.cells (insRow sz i n o c new) false sl))) := by
  obtain ⟨N, hN⟩ : ∃ N, N = n + 1 := ⟨_, rfl⟩
  obtain ⟨I, hI⟩ : ∃ I, I = i + 1 := ⟨_, rfl⟩
  have w1 : IntKind.i64.wrap ((n : Int) + 1) = (N : Int) := by rw [Proofs.Ytlcjmchhnbdepaa.wrap_i64 (by omega) (by omega)]; omega
  have w2 : IntKind.i64.wrap ((i : Int) + 1) = (I : Int) := by rw [Proofs.Ytlcjmchhnbdepaa.wrap_i64 (by omega) (by omega)]; omega
  have hne : ¬ i = n := by omega
  have hgt : ¬ cap < N := by omega
  have hbq : ((i : Int) == (n : Int)) = false := by rw [beq_eq_false_iff_ne]; omega
  have hnl : new.length = sz := by
    unfold Heap.read at hnew
    split at hnew
    case h_2 => cases hnew
    split at hnew
    case isFalse => cases hnew
    obtain rfl := Option.some.inj hnew
    simp only [List.length_take, List.length_drop]
    omega
  have his : i * sz ≤ n * sz := Nat.mul_le_mul_right _ (by omega)
  have hsub : (n - i) * sz = n * sz - i * sz := Nat.sub_mul _ _ _
  have hIs : I * sz = i * sz + sz := by rw [hI, Nat.add_mul, Nat.one_mul]
  have hNs : N * sz = n * sz + sz := by rw [hN, Nat.add_mul, Nat.one_mul]
  have hIn : I * sz ≤ n * sz := Nat.mul_le_mul_right _ (by omega)
  have hql : ((c.drop (o + i * sz)).take ((n - i) * sz)).length = (n - i) * sz := by rw [List.length_take, List.length_drop]; omega
  rw [← hN] at hcr
  have hrow : insRow sz i n o c new = c.take (o + i * sz) ++ (new ++ ((c.drop (o + i * sz)).take ((n - i) * sz) ++ c.drop (o + N * sz))) := by rw [hN]; rfl
  rw [hrow]
  generalize hpost : (c.drop (o + i * sz)).take ((n - i) * sz) = post at *
  have r2 : M.read b (o + i * sz) ((n - i) * sz) = some post := by
    simp only [Heap.read, hb]
    rw [if_pos (by omega), hpost]
  obtain ⟨c1, hc1⟩ : ∃ c1, c1 = c.take (o + I * sz) ++ post ++ c.drop (o + I * sz + post.length) := ⟨_, rfl⟩
  have hc1l : o + i * sz + sz ≤ c1.length := by rw [hc1]; simp only [List.length_append, List.length_take]; omega
  have k1 : aCopy sz (.slice (some (b, o + I * sz)) sz (N - I) (cap - I) true) (.slice (some (b, o + i * sz)) sz (N - i) (cap - i) true) M = some (.int .i64 ((n - i : Nat) : Int), M.put b (some (.cells c1 false sl))) := by
    have hm : min (N - i) (N - I) = n - i := by omega
    simp only [aCopy, aElemSize, aSize, beq_self_eq_true, Option.bind_some, hm, aFew, if_neg (show ¬ (n - i = 0) by omega), r2]
    rw [if_pos ⟨.inr trivial, trivial⟩]
    simp only [Option.bind_some, Heap.lay, hb]
    rw [if_pos (by
      rcases hcr with q | q
      · left; omega
      · right; exact ⟨q, by omega⟩)]
    simp only [Option.map_some, hc1]
  have r1 : (M.put b (some (.cells c1 false sl))).read b2 o2 (1 * sz) = some new := by
    rw [← hnew]
    simp only [Heap.read, Heap.put, if_neg hbb]
  have k2 : aCopy sz (.slice (some (b, o + i * sz)) sz (N - i) (cap - i) true) (.slice (some (b2, o2)) sz 1 cap2 ex2) (M.put b (some (.cells c1 false sl))) = some (.int .i64 ((1 : Nat) : Int), M.put b (some (.cells (c.take (o + i * sz) ++ (new ++ (post ++ c.drop (o + N * sz)))) false sl))) := by
    have hm : min 1 (N - i) = 1 := by omega
    simp only [aCopy, aElemSize, aSize, beq_self_eq_true, Option.bind_some, hm, aFew, if_neg (show ¬ (1 = 0) by omega), r1]
    rw [if_pos ⟨.inr trivial, trivial⟩]
    simp only [Option.bind_some, Heap.lay, Heap.put, if_true]
    rw [if_pos (.inl (by omega))]
    simp only [Option.map_some, Option.some.injEq, Prod.mk.injEq, true_and, Heap.mk.injEq, and_true]
    funext z
    by_cases hz2 : z = b
    · simp only [hz2, if_true]
      congr 2
      have e1 : c1.take (o + i * sz) = c.take (o + i * sz) := by
        rw [hc1, List.append_assoc, List.take_append_of_le_length (by rw [List.length_take]; omega), List.take_take, Nat.min_eq_left (by omega)]
      have e2 : c1.drop (o + i * sz + new.length) = post ++ c.drop (o + N * sz) := by
        have e3 : o + i * sz + new.length = (c.take (o + I * sz)).length := by rw [List.length_take]; omega
        rw [hc1, List.append_assoc, e3, List.drop_left]
        congr 2
        omega
      rw [e1, e2, List.append_assoc]
    · simp only [if_neg hz2]
  have s1 := sl_lo (sz := sz) (b := b) (o := o) (cap := cap) (ex := true) (show i ≤ n by omega)
  have s2 := sl_hi (sz := sz) (b := b) (o := o) (len := n) (ex := true) (show N ≤ cap by omega)
  have s3 := sl_lo (sz := sz) (b := b) (o := o) (cap := cap) (ex := true) (show i ≤ N by omega)
  have s4 := sl_lo (sz := sz) (b := b) (o := o) (cap := cap) (ex := true) (show I ≤ N by omega)
  rw [← hI, show n - i = N - I by omega] at hov
  rw [← hN]
  simp [bbody, insF, start, List.replicate, List.replicate_succ, bexec_seq, bexec_reg, bops_cons, bops_nil, bdops, AOp.sub, POp.sub, NOp.sub, AX.sub, AX.subO, bexec, Proofs.Ytlcjmchhnbdepaa.look_cons, bput_some, aop, aP, aN, aCall, AX.ev, aBin, aInts, aUn, bResults, bResL, bRes, bwanted, force_eq, w1, w2, hne, hgt, hbq, hov, k1, k2, s1, s2, s3, s4]

theorem aAppend_slice {sz bytes n : Nat} {s v : AV} {new : List AV} {M M' : Heap} (h : aAppend sz bytes s n new M = some (v, M')) : ∃ a z l c e, v = .slice a z l c e := by
  unfold aAppend at h
  split at h
  case h_2 => cases h
  rename_i a sz' len cap ex
  split at h
  · cases h
  split at h
  · cases a with
    | none =>
      simp only at h
      split at h
      · simp only [Option.some.injEq, Prod.mk.injEq] at h; exact ⟨_, _, _, _, _, h.1.symm⟩
      · cases h
    | some q =>
      simp only at h
      split at h
      · simp only [Option.some.injEq, Prod.mk.injEq] at h; exact ⟨_, _, _, _, _, h.1.symm⟩
      · obtain ⟨_, _, h⟩ := Option.map_eq_some_iff.1 h
        simp only [Prod.mk.injEq] at h
        exact ⟨_, _, _, _, _, h.1.symm⟩
  · split at h
    case isFalse => cases h
    cases a with
    | none => simp only [Option.some.injEq, Prod.mk.injEq] at h; exact ⟨_, _, _, _, _, h.1.symm⟩
    | some q =>
      obtain ⟨old, _, h⟩ := Option.bind_eq_some_iff.1 h
      split at h
      · simp only [Option.some.injEq, Prod.mk.injEq] at h; exact ⟨_, _, _, _, _, h.1.symm⟩
      · split at h
        · simp only [Option.some.injEq, Prod.mk.injEq] at h; exact ⟨_, _, _, _, _, h.1.symm⟩
        · cases h

/-- At the end: appended. -/
theorem ins_end (C : ACalls) (K sz bytes : Nat) (zero : List AV) (ov rr : FuncId) (M : Heap) {a : Option (Nat × Nat)} {sz' n cap b2 o2 cap2 : Nat} {ex ex2 : Bool} {new : List AV} (ha : ∀ q, a = some q → sz' = sz) (hnc : n ≤ cap) (hnew : M.read b2 o2 (1 * sz) = some new) :
    bbody C K (insF sz bytes zero ov rr) [.slice a sz' n cap ex, .int .i64 (n : Int), .slice (some (b2, o2)) sz 1 cap2 ex2] M = aAppend sz bytes (.slice a sz' n cap ex) 1 new M := by
  have hbq : ((n : Int) == (n : Int)) = true := by simp
  have he : aElems (.slice (some (b2, o2)) sz 1 cap2 ex2) M = some (1, new) := by
    simp only [aElems]
    rw [if_neg (by omega), hnew]
    rfl
  have hs : aElemSize (.slice (some (b2, o2)) sz 1 cap2 ex2) sz = true := by simp [aElemSize]
  have s1 : aSlice sz a sz' n cap ex [] (some (.c (.int .i64 (n : Int)))) none none = some (.slice (aShift a (n * sz)) sz (n - n) (cap - n) ex) := by
    unfold aSlice
    rw [if_pos (by
      cases a with
      | none => exact .inl rfl
      | some q => exact .inr (ha q rfl))]
    simp only [aBoundO, aBound, AX.ev, Option.bind_some]
    rw [if_pos ⟨by omega, by omega⟩]
    simp
  cases hA : aAppend sz bytes (.slice a sz' n cap ex) 1 new M with
  | none => simp [bbody, insF, start, List.replicate, List.replicate_succ, bexec_seq, bexec_reg, bops_cons, bops_nil, bdops, AOp.sub, POp.sub, NOp.sub, AX.sub, AX.subO, bexec, Proofs.Ytlcjmchhnbdepaa.look_cons, bput_some, aop, aP, aN, AX.ev, aBin, aInts, aUn, bResults, bResL, bRes, bwanted, force_eq, hbq, he, hs, s1, hA]
  | some p =>
    obtain ⟨v, M'⟩ := p
    obtain ⟨_, _, _, _, _, rfl⟩ := aAppend_slice hA
    simp [bbody, insF, start, List.replicate, List.replicate_succ, bexec_seq, bexec_reg, bops_cons, bops_nil, bdops, AOp.sub, POp.sub, NOp.sub, AX.sub, AX.subO, bexec, Proofs.Ytlcjmchhnbdepaa.look_cons, bput_some, aop, aP, aN, AX.ev, aBin, aInts, aUn, bResults, bResL, bRes, bwanted, force_eq, hbq, he, hs, s1, hA]

end Go.Proofs.Ytlcjmchhnbdepaa
end

section
/- slices.Insert of one element: what is told of it is so, whatever the capacities. -/
set_option linter.all false
set_option linter.unusedSimpArgs false
namespace Go.Proofs.Ytlcjmchhnbdepaa

/-! ### slices.overlaps: the model stands in for it -/

def ownB (M : Heap) (b : Nat) : Bool := match M.get b with
  | some (.cells _ false _) => true
  | _ => false

def ovG (args : List AV) (M : Heap) : Option (AV × Heap) :=
  match args with
  | [.slice (some (b1, _)) _ n1 _ _, .slice (some (b2, _)) _ n2 _ _] => if b1 ≠ b2 ∧ 0 < n1 ∧ 0 < n2 ∧ plainB M b1 = true ∧ ownB M b2 = true then some (.bool false, M) else none
  | _ => none

theorem ov_ext {P : Program} {ov : FuncId} {fn : Func} {tS tR e : TypeId} {size : Nat} (hf : P.funcs[ov]? = some fn) (hname : (fn.name == "runtime.NumGoroutine") = false) (hb : fn.body.isNone = true) (hn : Extern.findNext fn = none)
    (he : Extern.find fn = some (Extern.SlicesOverlaps.overlaps #[tS, tS] #[tR])) (ht : P.underlying tS = some (.slice e)) (hz : szOf P e = some size) : ExtOk P ov ovG := by
  intro args M v M' h
  unfold ovG at h
  split at h
  case h_2 => cases h
  rename_i b1 o1 sz1 n1 c1 e1 b2 o2 sz2 n2 c2 e2
  split at h
  case isFalse => cases h
  rename_i hc
  obtain ⟨h1, h2, h3, h4, h5⟩ := hc
  simp only [Option.some.injEq, Prod.mk.injEq] at h
  obtain ⟨rfl, rfl⟩ := h
  refine ⟨rfl, fun ι w vs r hv => ?_⟩
  obtain ⟨x, y, hvs⟩ : ∃ x y, vs.toList = [x, y] := by
    have := hv.length
    match hl : vs.toList, this with
    | [x, y], _ => exact ⟨x, y, rfl⟩
    | [], h => simp at h
    | [_], h => simp at h
    | _ :: _ :: _ :: _, h => simp at h
  have hvs' : vs = #[x, y] := by
    apply Array.ext'
    simpa using hvs
  subst hvs'
  simp only [VRL, VR, and_true] at hv
  obtain ⟨⟨l1, a1, k1, p1, rfl, p3, p4, p5, p6, p7, p8, p9, p10⟩, ⟨l2, a2, k2, q1, rfl, q3, q4, q5, q6, q7, q8, q9, q10⟩⟩ := hv
  refine ⟨.bool false, ?_, by simp [VR]⟩
  rw [run_callFunc_extern hf hname hb hn he]
  obtain ⟨d1, hd1⟩ : ∃ d, M.get b1 = some (.cells d false false) := by
    unfold plainB at h4
    split at h4
    · exact ⟨_, by assumption⟩
    · cases h4
  obtain ⟨d2, sl2, hd2⟩ : ∃ d sl, M.get b2 = some (.cells d false sl) := by
    unfold ownB at h5
    split at h5
    · exact ⟨_, _, by assumption⟩
    · cases h5
  obtain ⟨L1, ob1, m1, m2, m3⟩ := r.blk b1 _ hd1
  obtain ⟨L2, ob2, n1', n2', n3'⟩ := r.blk b2 _ hd2
  rw [p1] at m1
  obtain rfl := Option.some.inj m1
  rw [q1] at n1'
  obtain rfl := Option.some.inj n1'
  obtain ⟨cs1, t1, fz1, rfl, u2, u3, u4, u5, u6⟩ := m3
  obtain ⟨cs2, t2, fz2, rfl, v2, v3, v4, v5, v6⟩ := n3'
  have hap := r.apart b1 b2 _ _ _ _ hd1 hd2 p1 q1 h1 (.inl rfl)
  have hk1 : k1 ≠ 0 := by omega
  have hk2 : k2 ≠ 0 := by omega
  have e1 := p3.resolve_left hk1
  have e2 := q3.resolve_left hk2
  have hfz := (u6 rfl).2 rfl
  have hm2 : k2 * sz2 ≠ 0 := Nat.mul_ne_zero hk2 (by omega)
  rw [Lib.run_overlaps_apart w tS tR e ht size (fun w => run_sz hz w) a1 a2 n1 k1 n2 k2 (by rw [e1, e2]; exact hap) t1 t2 cs1.size cs2.size
    (by unfold World.shape?; rw [e1, m2]) (by unfold World.shape?; rw [e2, n2']) (by omega)
    (by unfold World.frozen?; rw [e1, m2]; simp [hfz]) (by unfold World.frozen?; simp only [e1, m2]; simp [hfz])]
  rfl

/-! ### slices.Insert -/

/-- The row alone. -/
def rowB (sz i n o : Nat) (c new : List AV) : List AV := (c.drop o).take (i * sz) ++ (new ++ (c.drop (o + i * sz)).take ((n - i) * sz))

section
variable {sz i n o : Nat} {c new : List AV} (hi : i < n) (hc : o + n * sz ≤ c.length) (hn : new.length = sz)
include hi hc hn

theorem rowB_len : (rowB sz i n o c new).length = (n + 1) * sz := by
  have his : i * sz ≤ n * sz := Nat.mul_le_mul_right _ (by omega)
  have hsub : (n - i) * sz = n * sz - i * sz := Nat.sub_mul _ _ _
  have hmul : (n + 1) * sz = n * sz + sz := by rw [Nat.add_mul, Nat.one_mul]
  unfold rowB
  simp only [List.length_append, List.length_take, List.length_drop]
  omega

theorem row_new : insRow sz i n 0 ((c.drop o).take (n * sz) ++ new) new = rowB sz i n o c new := by
  have his : i * sz ≤ n * sz := Nat.mul_le_mul_right _ (by omega)
  have hsub : (n - i) * sz = n * sz - i * sz := Nat.sub_mul _ _ _
  have hmul : (n + 1) * sz = n * sz + sz := by rw [Nat.add_mul, Nat.one_mul]
  have hl : ((c.drop o).take (n * sz)).length = n * sz := by rw [List.length_take, List.length_drop]; omega
  have d3 : ((c.drop o).take (n * sz) ++ new).drop ((n + 1) * sz) = [] := List.drop_of_length_le (by rw [List.length_append]; omega)
  unfold insRow rowB
  rw [Nat.zero_add, Nat.zero_add, d3, List.take_append_of_le_length (by omega), List.drop_append_of_le_length (by omega), List.take_append_of_le_length (by rw [List.length_drop]; omega), List.append_nil, List.take_take, Nat.min_eq_left his, List.drop_take, List.drop_drop, List.take_take, Nat.min_eq_left (by omega)]

theorem row_in : ((insRow sz i n o c new).drop o).take ((n + 1) * sz) = rowB sz i n o c new := by
  have his : i * sz ≤ n * sz := Nat.mul_le_mul_right _ (by omega)
  have hsub : (n - i) * sz = n * sz - i * sz := Nat.sub_mul _ _ _
  have hl := rowB_len hi hc hn
  have e : insRow sz i n o c new = c.take o ++ (rowB sz i n o c new ++ c.drop (o + (n + 1) * sz)) := by
    unfold insRow rowB
    rw [List.take_add]
    simp only [List.append_assoc]
  have ho : (c.take o).length = o := by rw [List.length_take]; omega
  rw [e, List.drop_left' ho, List.take_left' hl]
end

theorem put_put (M : Heap) (b : Nat) (x y : Option Blk) : (M.put b x).put b y = M.put b y := by
  unfold Heap.put
  congr 1
  funext i
  simp only
  split <;> rfl
theorem push_put (M : Heap) (x y : Blk) : (M.push x).put M.next (some y) = M.push y := by
  unfold Heap.put Heap.push
  congr 1
  funext i
  simp only
  split <;> rfl
theorem kill_push (M : Heap) {b : Nat} (hb : b ≠ M.next) (y : Blk) : (M.push y).put b none = (M.put b none).push y := by
  unfold Heap.put Heap.push
  congr 1
  funext i
  simp only
  by_cases h1 : i = b
  · subst h1
    rw [if_pos rfl, if_neg hb, if_pos rfl]
  · rw [if_neg h1, if_neg h1]

theorem insG_sound {P : Program} {f ov rr : FuncId} {hs : Hints} {sz bytes : Nat} {zero : List AV} (hz : zero.length = sz) (hsz : 0 < sz) (hcf : cFunc P f hs = some (insF sz bytes zero ov rr)) (hfo : f ≠ ov) (hov : ExtOk P ov ovG) : Bodied P f ∧ Sound P f (insG sz bytes) := by
  refine ⟨cFunc_bodied hcf, ?_⟩
  intro args M v M' h ι w vs r hv
  -- the machine that has its code
  obtain ⟨G, hGd⟩ : ∃ G : Sums, G = fun g => if g = ov then some ovG else none := ⟨_, rfl⟩
  obtain ⟨T, hTd⟩ : ∃ T : FuncId → Option AFunc, T = fun g => if g = f then some (insF sz bytes zero ov rr) else none := ⟨_, rfl⟩
  have hGf : G f = none := by rw [hGd]; simp [hfo]
  have hS : Sound P f (bcall G T KK 2 f) := law_sound (fun g x hg => by
    rw [hGd] at hg
    simp only at hg
    split at hg
    · rename_i e
      obtain rfl := Option.some.inj hg
      subst e
      exact .inr hov
    · cases hg) (fun g x hg => by
    rw [hTd] at hg
    simp only at hg
    split at hg
    · rename_i e
      obtain rfl := Option.some.inj hg
      subst e
      exact ⟨hs, hcf⟩
    · cases hg) KK 2 hGf
  have hrun : ∀ as M, bcall G T KK 2 f as M = bbody (bcall G T KK 1) KK (insF sz bytes zero ov rr) as M := fun as M => by
    have : T f = some (insF sz bytes zero ov rr) := by rw [hTd]; simp
    simp only [bcall, hGf, this]
  have hcov : ∀ as M, bcall G T KK 1 ov as M = ovG as M := fun as M => by
    have : G ov = some ovG := by rw [hGd]; simp
    simp only [bcall, this]
  -- what is told
  unfold insG at h
  split at h
  case h_2 => cases h
  rename_i a sz' n cap ex i b2 o2 sz2 m2 cap2 ex2
  split at h
  case isFalse => cases h
  rename_i hc
  obtain ⟨rfl, rfl, hi0, hi1, hpl, hap, hbig⟩ := hc
  obtain ⟨new, hnew, h⟩ := Option.bind_eq_some_iff.1 h
  obtain ⟨⟨v1, M1⟩, happ, h⟩ := Option.bind_eq_some_iff.1 h
  obtain ⟨k, rfl⟩ : ∃ k : Nat, i = (k : Int) := ⟨i.toNat, by omega⟩
  have hasz : ∀ q, a = some q → sz' = sz2 := fun q hq => by
    unfold aAppend at happ
    simp only at happ
    split at happ
    · cases happ
    · rename_i hh
      rcases Classical.em (sz' = sz2) with e | e
      · exact e
      · exact absurd ⟨by rw [hq]; simp, e⟩ hh
  have hv0 := hv
  obtain ⟨x, y, z, hvs⟩ : ∃ x y z, vs.toList = [x, y, z] := by
    have := hv.length
    match hl : vs.toList, this with
    | [x, y, z], _ => exact ⟨x, y, z, rfl⟩
    | [], h => simp at h
    | [_], h => simp at h
    | [_, _], h => simp at h
    | _ :: _ :: _ :: _ :: _, h => simp at h
  rw [hvs] at hv
  simp only [VRL, and_true] at hv
  obtain ⟨hv1, hv2, hv3⟩ := hv
  have hncap : n ≤ cap := by
    cases a with
    | none => simp only [VR] at hv1; omega
    | some q => obtain ⟨b, o⟩ := q; simp only [VR] at hv1; obtain ⟨_, _, _, _, _, _, _, _, e, _⟩ := hv1; exact e
  unfold insFin at h
  split at h
  · -- at the end
    rename_i hin
    simp only [Option.some.injEq, Prod.mk.injEq] at h
    obtain ⟨rfl, rfl⟩ := h
    have hkn : k = n := by omega
    subst hkn
    refine hS _ _ _ _ ?_ ι w vs r hv0
    rw [hrun, ins_end _ _ _ _ _ _ _ _ hasz hncap hnew]
    exact happ
  rename_i hin
  have hkn : k < n := by omega
  cases a with
  | none => simp only [VR] at hv1; omega
  | some q =>
  obtain ⟨b, o⟩ := q
  obtain rfl := hasz _ rfl
  have hbb : b ≠ b2 := (hap.resolve_left hin) _ rfl
  simp only [VR] at hv1
  obtain ⟨l, ad, cap', q1, rfl, q3, q4, q5, q6, q7, q8, q9, q10⟩ := hv1
  have hvE : VRL ι [.slice (some (b, o)) sz' n cap' true, .int .i64 (k : Int), .slice (some (b2, o2)) sz' 1 cap2 ex2] vs.toList := by
    rw [hvs]
    simp only [VRL, and_true]
    exact ⟨by simp only [VR]; exact ⟨l, ad, cap', q1, rfl, q3, q4, q5, by omega, Nat.le_refl _, fun _ => rfl, q9, q10⟩, hv2, hv3⟩
  have hbn : b ≠ M.next := Nat.ne_of_lt (r.lt' q1)
  have hb2n : b2 ≠ M.next := by
    obtain ⟨_, hg⟩ : ∃ d, M.get b2 = some d := by
      unfold Heap.read at hnew
      split at hnew
      · exact ⟨_, by assumption⟩
      · cases hnew
    exact Nat.ne_of_lt (r.lt hg)
  have hnl : new.length = sz' := by
    have := (r.read hnew).1
    omega
  have hbig' : n + 1 ≤ 70368744177664 := hbig
  -- what stands there
  obtain ⟨c, ro, sl, hb, hcl, hro⟩ : ∃ c ro sl, M.get b = some (.cells c ro sl) ∧ o + n * sz' ≤ c.length ∧ (n + 1 ≤ cap ∨ ex = false → ro = false) := by
    unfold aAppend at happ
    simp only at happ
    rw [if_neg (by simp)] at happ
    split at happ
    · rw [if_neg (by omega)] at happ
      obtain ⟨M2, hw, _⟩ := Option.map_eq_some_iff.1 happ
      unfold Heap.write at hw
      split at hw
      case h_2 => cases hw
      rename_i c sl hg
      split at hw
      case isFalse => cases hw
      exact ⟨c, false, sl, hg, by omega, fun _ => rfl⟩
    · split at happ
      case isFalse => cases happ
      rw [if_neg (by omega)] at happ
      obtain ⟨old, hold, happ⟩ := Option.bind_eq_some_iff.1 happ
      unfold Heap.read at hold
      split at hold
      case h_2 => cases hold
      rename_i c ro sl hg
      split at hold
      case isFalse => cases hold
      rename_i hle
      refine ⟨c, ro, sl, hg, hle, ?_⟩
      rintro (hh | hh)
      · omega
      · subst hh
        simp only [Bool.false_eq_true, if_false, hg] at happ
        split at happ
        · rename_i hh2
          simp only [Option.some.injEq, Blk.cells.injEq] at hh2
          exact hh2.2.1
        · cases happ
  have hold : cap < n + 1 → (if (ex = true ∧ n = 0) then some [] else M.read b o (n * sz')) = some ((c.drop o).take (n * sz')) := fun _ => by
    rw [if_neg (by omega)]
    simp only [Heap.read, hb]
    rw [if_pos hcl]
  have hsub := Nat.add_mul n 1 sz'
  have hrow := row_new hkn hcl hnl
  have hrl := rowB_len hkn hcl hnl
  -- its bounds
  have hbounds : cap < n + 1 → (n + 1) * bytes ≤ 70368744177664 := fun hlt => by
    unfold aAppend at happ
    simp only at happ
    rw [if_neg (by simp), if_neg (by omega)] at happ
    split at happ
    · rename_i hh; exact hh.1
    · cases happ
  rcases Nat.lt_or_ge cap' (n + 1) with hlt | hge
  · -- a new row
    have hlt' : cap < n + 1 := by omega
    have hE := hrun [.slice (some (b, o)) sz' n cap' true, .int .i64 (k : Int), .slice (some (b2, o2)) sz' 1 cap2 ex2] M
    rw [ins_new _ _ _ _ _ _ _ hz hsz M hb hbn hb2n hcl hnew hkn hlt (by omega) (hbounds hlt') hbig'] at hE
    have hres := hS _ _ _ _ hE ι w vs r hvE
    unfold aAppend at happ
    simp only at happ
    rw [if_neg (by simp), if_neg (by omega), if_pos ⟨hbounds hlt', hbig'⟩, hold hlt', Option.bind_some] at happ
    split at happ
    · simp only [Option.some.injEq, Prod.mk.injEq] at happ
      obtain ⟨rfl, rfl⟩ := happ
      simp only [Heap.push, if_true, Option.some.injEq, Prod.mk.injEq] at h
      obtain ⟨rfl, rfl⟩ := h
      refine hres.mono ?_
      rintro e w' ⟨ι', v', g1, g2, g3⟩
      refine ⟨ι', v', g1, g2, ?_⟩
      rw [Int.toNat_natCast, hrow]
      rw [show ({ get := fun i => if i = M.next then some (Blk.cells ((c.drop o).take (n * sz') ++ new) false true) else M.get i, next := M.next + 1 } : Heap) = M.push (.cells ((c.drop o).take (n * sz') ++ new) false true) from rfl, push_put]
      exact g3
    · rename_i hex
      have hro' := hro (.inr (by simpa using hex))
      subst hro'
      simp only [hb, Option.some.injEq, Prod.mk.injEq] at happ
      obtain ⟨rfl, rfl⟩ := happ
      have hnx : (M.put b none).next = M.next := rfl
      simp only [Heap.push, hnx, if_true, Option.some.injEq, Prod.mk.injEq] at h
      obtain ⟨rfl, rfl⟩ := h
      refine hres.mono ?_
      rintro e w' ⟨ι', v', g1, g2, g3⟩
      refine ⟨ι', v', g1, g2, ?_⟩
      rw [Int.toNat_natCast, hrow]
      have hk := Tr.kill g3.rel b (by have := r.lt' q1; have := g3.next; omega)
      have := g3.trans hk
      rw [kill_push M hbn] at this
      rw [show ({ get := fun i => if i = M.next then some (Blk.cells ((c.drop o).take (n * sz') ++ new) false true) else (M.put b none).get i, next := M.next + 1 } : Heap) = (M.put b none).push (.cells ((c.drop o).take (n * sz') ++ new) false true) from rfl]
      rw [← hnx, push_put]
      exact this
  · -- in place
    have hro' : ro = false := hro (by
      rcases Nat.lt_or_ge cap (n + 1) with hh | hh
      · right
        cases ex with
        | false => rfl
        | true => have := q8 rfl; omega
      · exact .inl hh)
    subst hro'
    obtain ⟨lb, ob, z1, z2, z3⟩ := r.blk b _ hb
    rw [q1] at z1
    obtain rfl := Option.some.inj z1
    have hcs := Nat.mul_le_mul_right sz' hge
    have hcr : o + (n + 1) * sz' ≤ c.length ∨ sl = true := by
      cases sl with
      | true => exact .inr rfl
      | false =>
        obtain ⟨_, _, _, _, _, _, z4, _⟩ := z3
        have := z4 rfl
        left
        omega
    have hov1 : bcall G T KK 1 ov [.slice (some (b2, o2)) sz' 1 cap2 ex2, .slice (some (b, o + (k + 1) * sz')) sz' (n - k) (cap' - (k + 1)) true] M = some (.bool false, M) := by
      rw [hcov]
      unfold ovG
      simp only
      rw [if_pos ⟨fun e => hbb e.symm, by omega, by omega, hpl, by simp [ownB, hb]⟩]
    have hE := hrun [.slice (some (b, o)) sz' n cap' true, .int .i64 (k : Int), .slice (some (b2, o2)) sz' 1 cap2 ex2] M
    rw [ins_room _ _ _ _ _ _ _ hsz M hb (fun e => hbb e.symm) hcl hcr hnew hkn hge hbig' hov1] at hE
    have hres := hS _ _ _ _ hE ι w vs r hvE
    refine hres.mono ?_
    rintro e w' ⟨ι', v', g1, g2, g3⟩
    simp only [VR] at g2
    obtain ⟨l', ad', cap2', t1, rfl, t3, t4, t5, t6, t7, t8, t9, t10⟩ := g2
    obtain rfl := t8 trivial
    unfold aAppend at happ
    simp only at happ
    rw [if_neg (by simp)] at happ
    split at happ
    · -- it was known
      rename_i hroom
      rw [if_neg (by omega)] at happ
      obtain ⟨M2, hw, happ⟩ := Option.map_eq_some_iff.1 happ
      simp only [Prod.mk.injEq] at happ
      obtain ⟨rfl, rfl⟩ := happ
      unfold Heap.write at hw
      rw [hb] at hw
      simp only at hw
      split at hw
      case isFalse => cases hw
      rename_i hle
      obtain rfl := Option.some.inj hw
      simp only [Heap.put, if_true, Option.some.injEq, Prod.mk.injEq] at h
      obtain ⟨rfl, rfl⟩ := h
      refine ⟨ι', _, g1, by simp only [VR]; exact ⟨l', ad', cap2', t1, rfl, t3, t4, t5, hroom, by omega, fun hx => q8 hx, t9, t10⟩, ?_⟩
      have his : k * sz' ≤ n * sz' := Nat.mul_le_mul_right _ (by omega)
      have hsb : (n - k) * sz' = n * sz' - k * sz' := Nat.sub_mul _ _ _
      have hrow2 : insRow sz' k n o (c.take (o + n * sz') ++ new ++ c.drop (o + n * sz' + new.length)) new = insRow sz' k n o c new := by
        have hcl2 : (c.take (o + n * sz')).length = o + n * sz' := by rw [List.length_take]; omega
        unfold insRow
        have d1 : (c.take (o + n * sz') ++ new ++ c.drop (o + n * sz' + new.length)).take (o + k * sz') = c.take (o + k * sz') := by
          rw [List.append_assoc, List.take_append_of_le_length (by omega), List.take_take, Nat.min_eq_left (by omega)]
        have d2 : ((c.take (o + n * sz') ++ new ++ c.drop (o + n * sz' + new.length)).drop (o + k * sz')).take ((n - k) * sz') = (c.drop (o + k * sz')).take ((n - k) * sz') := by
          rw [List.append_assoc, List.drop_append_of_le_length (by omega), List.take_append_of_le_length (by rw [List.length_drop]; omega), List.drop_take, List.take_take, Nat.min_eq_left (by omega)]
        have d3 : (c.take (o + n * sz') ++ new ++ c.drop (o + n * sz' + new.length)).drop (o + (n + 1) * sz') = c.drop (o + (n + 1) * sz') := by
          have e1 : o + (n + 1) * sz' = (c.take (o + n * sz') ++ new).length := by rw [List.length_append]; omega
          rw [e1, List.drop_left]
          congr 1
          rw [List.length_append]
          omega
        rw [d1, d2, d3]
      rw [Int.toNat_natCast, hrow2]
      rw [show ({ get := fun i => if i = b then some (Blk.cells (insRow sz' k n o c new) false sl) else if i = b then some (Blk.cells (c.take (o + n * sz') ++ new ++ c.drop (o + n * sz' + new.length)) false sl) else M.get i, next := M.next } : Heap) = (M.put b (some (.cells (c.take (o + n * sz') ++ new ++ c.drop (o + n * sz' + new.length)) false sl))).put b (some (.cells (insRow sz' k n o c new) false sl)) from rfl, put_put]
      exact g3
    · -- the old row's place is taken
      rename_i hroom
      have hlt' : cap < n + 1 := by omega
      rw [if_pos ⟨hbounds hlt', hbig'⟩, hold hlt', Option.bind_some] at happ
      have hex : ex = false := by
        cases ex with
        | false => rfl
        | true => have := q8 rfl; omega
      subst hex
      simp only [Bool.false_eq_true, if_false, hb, Option.some.injEq, Prod.mk.injEq] at happ
      obtain ⟨rfl, rfl⟩ := happ
      have hnx : (M.put b none).next = M.next := rfl
      simp only [Heap.push, hnx, if_true, Option.some.injEq, Prod.mk.injEq] at h
      obtain ⟨rfl, rfl⟩ := h
      have hl' : ι' b = some l := by rw [g3.agree b (r.lt' q1), q1]
      rw [hl'] at t1
      obtain rfl := Option.some.inj t1
      have hgb : (M.put b (some (.cells (insRow sz' k n o c new) false sl))).get b = some (.cells (insRow sz' k n o c new) false sl) := by simp [Heap.put]
      obtain ⟨lb', ob', y1, y2, y3⟩ := g3.rel.blk b _ hgb
      rw [hl'] at y1
      obtain rfl := Option.some.inj y1
      have y3' := y3
      obtain ⟨cs, el, fz, rfl, u2, u3, u4, u5, u6⟩ := y3
      have hnone := (g3.rel.fresh M.next (Nat.le_refl _)).2
      have hle := Inj.set_le hnone ⟨l.j, l.d + o, l.N - o⟩
      have hbr : BR (ι'.set M.next ⟨l.j, l.d + o, l.N - o⟩) (.cells (rowB sz' k n o c new) false true) ⟨l.j, l.d + o, l.N - o⟩ (.cells cs el fz) := by
        refine ⟨cs, el, fz, rfl, by simp only; omega, by simp only; omega, (fun h => by cases h), fun z x hx => ?_, fun hr => ⟨(u6 hr).1, fun h => by cases h⟩⟩
        rw [← row_in hkn hcl hnl, List.getElem?_take] at hx
        split at hx
        case isFalse => cases hx
        rw [List.getElem?_drop] at hx
        obtain ⟨vv, a1, a2, a3⟩ := u5 _ _ hx
        exact ⟨vv, by simp only; rw [Nat.add_assoc]; exact a1, a2, a3.mono hle⟩
      have hrn := Tr.rename g3.rel hgb rfl rfl hl' (l' := ⟨l.j, l.d + o, l.N - o⟩) (x' := .cells (rowB sz' k n o c new) false true) rfl ⟨rfl, fun _ _ => rfl, y2, rfl, rfl, rfl⟩ hbr
      have hall := g3.trans hrn
      rw [put_put] at hall
      refine ⟨ι'.set M.next ⟨l.j, l.d + o, l.N - o⟩, _, g1, ?_, ?_⟩
      rotate_left
      · rw [Int.toNat_natCast, hrow]
        rw [show ({ get := fun i => if i = M.next then some (Blk.cells ((c.drop o).take (n * sz') ++ new) false true) else (M.put b none).get i, next := M.next + 1 } : Heap) = (M.put b none).push (.cells ((c.drop o).take (n * sz') ++ new) false true) from rfl]
        rw [← hnx, push_put]
        exact hall
      · simp only [VR]
        refine ⟨⟨l.j, l.d + o, l.N - o⟩, ad', cap2', by simp [Inj.set, Heap.put], rfl, t3, t4, ?_, Nat.le_refl _, t6, (fun h => by cases h), by simp only; omega, t10⟩
        rcases t5 with t5 | t5
        · exact .inl t5
        · right
          simp only
          omega

end Go.Proofs.Ytlcjmchhnbdepaa
end

section
/- slices.Delete: what it comes to. -/
set_option linter.all false
set_option linter.unusedSimpArgs false
namespace Go.Proofs.Ytlcjmchhnbdepaa

def delF (sz bytes : Nat) (zero : List AV) : AFunc := { nargs := 3, ntmps := 33, code := (.seq (.reg [oC 6 (.slice none 1 0 0 true)]) (.seq (.reg [oV 8 0, oV 9 1, oV 10 2, oV 11 0, oP 12 (.len false (.t 11)), oP 13 (.slice sz (.t 8) (some (.t 9)) (some (.t 10)) (some (.t 12)))]) (.seq (.seq (.reg [oV 14 1, oV 15 2, oP 16 (.bin .eql (.t 14) (.t 15))]) (.cond (.t 16) (.seq (.reg [oV 17 0, oV 6 17]) .ret) .skip)) (.seq (.reg [oV 18 0, oP 19 (.len false (.t 18)), oV 7 19]) (.seq (.dreg 0 [oD (oV 20 0) 0 0, oD (oV 21 1) 0 0, oD (oP 22 (.slice sz (.t 20) none (some (.t 21)) none)) 0 0, oD (oV 23 0) 0 0, oD (oV 24 2) 0 0, oD (oP 25 (.slice sz (.t 23) (some (.t 24)) none none)) 0 0, oD (oN 26 (.append sz bytes (.t 22) (.t 25))) 0 0, oD (oV 0 26) 1 0]) (.seq (.reg [oV 27 0, oV 28 0, oP 29 (.len false (.t 28)), oV 30 7, oP 31 (.slice sz (.t 27) (some (.t 29)) (some (.t 30)) none), oZ (.clear sz zero (.t 31))]) (.seq (.reg [oV 32 0, oV 6 32]) .ret))))))), results := [(.tmp 6)] }

theorem sl_both {sz b o len cap l h : Nat} {ex : Bool} (h1 : l ≤ h) (h2 : h ≤ cap) : aSlice sz (some (b, o)) sz len cap ex [] (some (.c (.int .i64 (l : Int)))) (some (.c (.int .i64 (h : Int)))) none = some (.slice (some (b, o + l * sz)) sz (h - l) (cap - l) ex) := by
  unfold aSlice
  rw [if_pos (.inr rfl)]
  simp only [aBoundO, aBound, AX.ev]
  rw [if_pos ⟨by omega, by omega⟩, Option.bind_some, if_pos ⟨by omega, by omega⟩]
  simp [aShift]
theorem sl_three {sz b o len cap l h m : Nat} {ex : Bool} (h1 : l ≤ h) (h2 : h ≤ m) (h3 : m ≤ cap) : aSlice sz (some (b, o)) sz len cap ex [] (some (.c (.int .i64 (l : Int)))) (some (.c (.int .i64 (h : Int)))) (some (.c (.int .i64 (m : Int)))) = some (.slice (some (b, o + l * sz)) sz (h - l) (m - l) true) := by
  unfold aSlice
  rw [if_pos (.inr rfl)]
  simp only [aBoundO, aBound, AX.ev]
  rw [if_pos ⟨by omega, by omega⟩, Option.bind_some, Int.toNat_natCast, if_pos ⟨by omega, by omega⟩, Option.bind_some, Int.toNat_natCast, if_pos ⟨by omega, by omega⟩]
  simp [aShift]

theorem del_run (C : ACalls) (K sz bytes : Nat) (zero : List AV) (hz : zero.length = sz) (M : Heap) {b o n cap i j : Nat} {ex sl : Bool} {c : List AV} (hb : M.get b = some (.cells c false sl)) (hc : o + n * sz ≤ c.length) (hij : i < j) (hjn : j ≤ n) (hnc : n ≤ cap) :
    bbody C K (delF sz bytes zero) [.slice (some (b, o)) sz n cap ex, .int .i64 (i : Int), .int .i64 (j : Int)] M =
      some (.slice (some (b, o)) sz (n - (j - i)) cap ex, M.put b (some (.cells ((c.take (o + i * sz) ++ (c.drop (o + j * sz)).take ((n - j) * sz)) ++ (reps (j - i) zero ++ c.drop (o + n * sz))) false sl))) := by
  obtain ⟨R, hR⟩ : ∃ R, R = n - (j - i) := ⟨_, rfl⟩
  have hRe : i + (n - j) = R := by omega
  have hnR : n - R = j - i := by omega
  have hne : ¬ i = j := by omega
  have hbq : ((i : Int) == (j : Int)) = false := by rw [beq_eq_false_iff_ne]; omega
  have m1 : i * sz ≤ j * sz := Nat.mul_le_mul_right _ (by omega)
  have m2 : j * sz ≤ n * sz := Nat.mul_le_mul_right _ hjn
  have m3 : (n - j) * sz = n * sz - j * sz := Nat.sub_mul _ _ _
  have m4 : (j - i) * sz = j * sz - i * sz := Nat.sub_mul _ _ _
  have m5 : R * sz = i * sz + (n - j) * sz := by rw [← hRe, Nat.add_mul]
  have hpl : ((c.drop (o + j * sz)).take ((n - j) * sz)).length = (n - j) * sz := by rw [List.length_take, List.length_drop]; omega
  have hrl : (reps (j - i) zero).length = (j - i) * sz := by rw [reps_len, hz]
  obtain ⟨post, hpost⟩ : ∃ post, post = (c.drop (o + j * sz)).take ((n - j) * sz) := ⟨_, rfl⟩
  rw [← hpost] at hpl ⊢
  have he : aElems (.slice (some (b, o + j * sz)) sz (n - j) (cap - j) ex) M = some (n - j, post) := by
    simp only [aElems]
    by_cases h0 : n - j = 0
    · rw [if_pos h0, h0]
      have : post = [] := List.eq_nil_of_length_eq_zero (by rw [hpl, h0, Nat.zero_mul])
      rw [this]
    · rw [if_neg h0]
      simp only [Heap.read, hb]
      rw [if_pos (by omega), ← hpost]
      rfl
  have hs : aElemSize (.slice (some (b, o + j * sz)) sz (n - j) (cap - j) ex) sz = true := by simp [aElemSize]
  obtain ⟨c1, hc1⟩ : ∃ c1, c1 = c.take (o + i * sz) ++ post ++ c.drop (o + i * sz + post.length) := ⟨_, rfl⟩
  have a1 : aAppend sz bytes (.slice (some (b, o)) sz i cap ex) (n - j) post M = some (.slice (some (b, o)) sz R cap ex, M.put b (some (.cells c1 false sl))) := by
    simp only [aAppend]
    rw [if_neg (by simp), if_pos (by omega)]
    by_cases h0 : n - j = 0
    · rw [if_pos h0]
      have hp0 : post = [] := List.eq_nil_of_length_eq_zero (by rw [hpl, h0, Nat.zero_mul])
      have : M.put b (some (.cells c1 false sl)) = M := by
        rw [hc1, hp0, List.append_nil, List.length_nil, Nat.add_zero, List.take_append_drop]
        exact Heap.put_same hb
      rw [this, show R = i by omega]
    · rw [if_neg h0]
      simp only [Heap.write, hb]
      rw [if_pos (by omega), Option.map_some, hRe, hc1]
  have hc1l : c1.length = c.length := by rw [hc1]; simp only [List.length_append, List.length_take, List.length_drop]; omega
  have k1 : aClear sz zero (.slice (some (b, o + R * sz)) sz (n - R) (cap - R) ex) (M.put b (some (.cells c1 false sl))) = some (.tuple [], M.put b (some (.cells ((c.take (o + i * sz) ++ post) ++ (reps (j - i) zero ++ c.drop (o + n * sz))) false sl))) := by
    simp only [aClear]
    rw [if_pos trivial, if_neg (by omega), hnR]
    simp only [Heap.write, Heap.put, if_true]
    rw [if_pos (by omega)]
    simp only [Option.map_some, Option.some.injEq, Prod.mk.injEq, true_and, Heap.mk.injEq, and_true]
    funext z
    by_cases hz2 : z = b
    · simp only [hz2, if_true]
      congr 2
      have e1 : o + R * sz = (c.take (o + i * sz) ++ post).length := by rw [List.length_append, List.length_take]; omega
      have e2 : c1.take (o + R * sz) = c.take (o + i * sz) ++ post := by rw [hc1, e1, List.take_left]
      have e3 : c1.drop (o + R * sz + (reps (j - i) zero).length) = c.drop (o + n * sz) := by
        rw [hc1, List.drop_append, List.drop_of_length_le (by omega), List.nil_append, List.drop_drop]
        congr 1
        omega
      rw [e2, e3, List.append_assoc]
    · simp only [if_neg hz2]
  have s1 := sl_three (sz := sz) (b := b) (o := o) (len := n) (ex := ex) (show i ≤ j by omega) hjn hnc
  have s2 := sl_hi (sz := sz) (b := b) (o := o) (len := n) (ex := ex) (show i ≤ cap by omega)
  have s3 := sl_lo (sz := sz) (b := b) (o := o) (cap := cap) (ex := ex) hjn
  have s4 := sl_both (sz := sz) (b := b) (o := o) (len := R) (ex := ex) (show R ≤ n by omega) hnc
  rw [← hR]
  simp [bbody, delF, start, List.replicate, List.replicate_succ, bexec_seq, bexec_reg, bops_cons, bops_nil, bdops, AOp.sub, POp.sub, NOp.sub, AX.sub, AX.subO, bexec, Proofs.Ytlcjmchhnbdepaa.look_cons, bput_some, bput_none, aop, aP, aN, AX.ev, aBin, aInts, aUn, bResults, bResL, bRes, bwanted, force_eq, hne, hbq, he, hs, a1, k1, s1, s2, s3, s4]

theorem del_bok {A : Tab} {d : Nat} {f : FuncId} {sz bytes : Nat} {zero : List AV} (hz : zero.length = sz) (hG : A.1 f = none) (hT : A.2 f = some (delF sz bytes zero)) : BOk (wcalls A (d + 1)) f (.del sz) := by
  intro R ι H M args as dst tr k s hv h
  simp only [wBt] at h
  split at h
  case h_2 => exact h.elim
  rename_i b sz1 n i j
  match as, hv with
  | [], hv => simp [VLL] at hv
  | [_], hv => simp [VLL] at hv
  | [_, _], hv => simp [VLL] at hv
  | _ :: _ :: _ :: _ :: _, hv => simp [VLL] at hv
  | [a, ai, aj], hv =>
  simp only [VLL] at hv
  obtain ⟨ha, hi, hj, _⟩ := hv
  simp only [VL] at hi hj
  subst hi hj
  split at h
  case h_2 => exact h.elim
  rename_i hsz
  obtain rfl := Nat.eq_of_beq_eq_true hsz
  split at h
  case h_2 => exact h.elim
  rename_i c hg
  obtain ⟨_, ⟨h0, h1, h2⟩, h⟩ := need_ok h
  obtain ⟨tr', hk⟩ := ovrC_ok h
  obtain ⟨i, rfl⟩ : ∃ k : Nat, i = (k : Int) := ⟨i.toNat, by omega⟩
  obtain ⟨j, rfl⟩ : ∃ k : Nat, j = (k : Int) := ⟨j.toNat, by omega⟩
  simp only [Int.toNat_natCast] at hk
  obtain ⟨k1, k2, p, s', cap, ex, rfl, k3, k4, k5⟩ := VL.acc_at s ha hg
  rcases k5 with ⟨q, c', t, ro', sl', L, g1, g2, g3, g4, g5, g6, rfl, g7⟩ | ⟨e, _⟩
  case inr => omega
  obtain rfl := k4 (by simp)
  obtain ⟨rfl, _⟩ := g3 rfl
  simp only [if_true] at g6
  have hcn := (k2 rfl).2
  have hcl := g6.length
  have m1 : i * s' ≤ j * s' := Nat.mul_le_mul_right _ (by omega)
  have m2 : j * s' ≤ n * s' := Nat.mul_le_mul_right _ (by omega)
  have m3 : (n - j) * s' = n * s' - j * s' := Nat.sub_mul _ _ _
  have m4 : (j - i) * s' = j * s' - i * s' := Nat.sub_mul _ _ _
  have m5 : (n - (j - i)) * s' = n * s' - (j - i) * s' := Nat.sub_mul _ _ _
  have hrun : wcalls A (d + 1) f [.slice (some (q, 0)) s' n cap ex, .int .i64 (i : Int), .int .i64 (j : Int)] M = bbody (wcalls A d) KK (delF s' bytes zero) [.slice (some (q, 0)) s' n cap ex, .int .i64 (i : Int), .int .i64 (j : Int)] M := by simp only [wcalls, bcall, hG, hT]
  rw [hrun, del_run _ _ _ _ _ hz M g2 (by rw [List.length_append]; omega) (show i < j by omega) (by omega) k3]
  have hrow : ((c' ++ t).take (0 + i * s') ++ ((c' ++ t).drop (0 + j * s')).take ((n - j) * s')) ++ (reps (j - i) zero ++ (c' ++ t).drop (0 + n * s')) = (c'.take (i * s') ++ c'.drop (j * s')) ++ (reps (j - i) zero ++ t) := by
    have d1 : (c' ++ t).take (i * s') = c'.take (i * s') := List.take_append_of_le_length (by omega)
    have d2 : ((c' ++ t).drop (j * s')).take ((n - j) * s') = c'.drop (j * s') := by
      have hl : (c'.drop (j * s')).length = (n - j) * s' := by rw [List.length_drop]; omega
      rw [List.drop_append_of_le_length (by omega), List.take_left' hl]
    have d3 : (c' ++ t).drop (n * s') = t := List.drop_left' (by omega)
    rw [Nat.zero_add, Nat.zero_add, Nat.zero_add, d1, d2, d3]
  rw [hrow]
  have hrl : (reps (j - i) zero).length = (j - i) * s' := by rw [reps_len, hz]
  have hall : VLL M (OR R ι) VI.none (c.take (i * s') ++ c.drop (j * s')) (c'.take (i * s') ++ c'.drop (j * s')) := (VLL.take _ g6).append (VLL.drop _ g6)
  have hxl : (c.take (i * s') ++ c.drop (j * s')).length = (n - (j - i)) * s' := by rw [List.length_append, List.length_take, List.length_drop]; omega
  obtain ⟨r1, r2, r3⟩ := s.swap g1 hg (x := .cells (c.take (i * s') ++ c.drop (j * s')) false true) (y := .cells ((c'.take (i * s') ++ c'.drop (j * s')) ++ (reps (j - i) zero ++ t)) false sl') (d := ((c.take (i * s') ++ c.drop (j * s')).length, L))
    ⟨_, _, false, sl', L, rfl, fun _ => rfl, rfl, by simp only [List.length_append, List.length_take, List.length_drop] at g5 ⊢; omega, by simpa using hall, fun h => by cases h⟩
  refine ⟨_, _, _, _, _, [b], tr', rfl, r1, r2, ?_, hk⟩
  simp only [VL]
  refine ⟨some (q, 0), s', cap, ex, rfl, by omega, (fun h => by cases h), fun _ => rfl, (c.take (i * s') ++ c.drop (j * s')).length, L, by simp [VI.add, setAt], by rw [hxl]; omega, fun _ => ⟨trivial, hxl.symm⟩, .inl ⟨q, r3, .inl ⟨rfl, by omega⟩⟩⟩

end Go.Proofs.Ytlcjmchhnbdepaa
end
