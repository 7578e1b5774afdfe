/- The law RouteTeaches: its Lean function tells true. -/
import Derived.Test.YtlcjmchhnbdepaaL1
import Derived.Test.YtlcjmchhnbdepaaC3
import Derived.Test.YtlcjmchhnbdepaaXrRouteTeaches
set_option linter.all false
set_option linter.unusedSimpArgs false
set_option maxRecDepth 100000
namespace Go.Proofs.Ytlcjmchhnbdepaa

theorem mget_set {K V : Type} [DecidableEq K] (k k' : K) (v : V) : ∀ l : List (K × V), mGet (mSet l k v) k' = if k' = k then some v else mGet l k'
  | [] => by simp [mSet, mGet]
  | p :: r => by
    by_cases h : k = p.1
    · subst h
      simp only [mSet, if_true, mGet]
      by_cases h' : k' = p.1 <;> simp [h']
    · simp only [mSet, if_neg h, mGet, mget_set k k' v r]
      by_cases h' : k' = p.1
      · have : k' ≠ k := fun e => h (e.symm.trans h')
        simp [h', this, Ne.symm h]
      · simp [h']
/-- Whom one teaches. -/
def tl (f : Int) : List Int → List Int → List Int
  | _, [] => []
  | s, x :: r => if x = f ∨ x ∈ s then tl f (s ++ [x]) r else x :: tl f (s ++ [x]) r
theorem tl_snoc (f x : Int) : ∀ (a s : List Int), tl f s (a ++ [x]) = tl f s a ++ (if x = f ∨ x ∈ s ++ a then [] else [x])
  | [], s => by
    simp only [List.nil_append, tl, List.append_nil]
  | y :: a, s => by
    simp only [List.cons_append, tl]
    rw [tl_snoc f x a (s ++ [y]), List.append_assoc]
    split
    · rfl
    · rfl
theorem tl_take (f : Int) (l : List Int) (i : Nat) (hi : i < l.length) : tl f [] (l.take (i + 1)) = tl f [] (l.take i) ++ (if l[i] = f ∨ l[i] ∈ l.take i then [] else [l[i]]) := by
  rw [List.take_succ_eq_append_getElem hi, tl_snoc, List.nil_append]
theorem tl_len (f : Int) : ∀ (l s : List Int), (tl f s l).length ≤ l.length
  | [], _ => by simp [tl]
  | x :: l, s => by
    have := tl_len f l (s ++ [x])
    simp only [tl]
    split
    · simp only [List.length_cons]; omega
    · simp only [List.length_cons]; omega
theorem tl_pre (f : Int) (b : List Int) : ∀ (a s : List Int), ∃ c, tl f s (a ++ b) = tl f s a ++ c
  | [], s => ⟨_, by simp [tl]; rfl⟩
  | y :: a, s => by
    obtain ⟨c, h⟩ := tl_pre f b a (s ++ [y])
    refine ⟨c, ?_⟩
    simp only [List.cons_append, tl]
    rw [h]
    split
    · rfl
    · rfl
def mkM (f s e x : Int) : api_Msg := ⟨10, f, x, s, e, 0, 0, 0, false, ⟨0, 0, ⟨0, [], [], []⟩⟩, ⟨0, []⟩, [], [], ⟨0, 0, [], []⟩⟩

theorem contains_is (a : List Int) (x : Int) (h : a.length < 1000000) : slices_Contains_int_int a x = some (decide (x ∈ a)) := by
  have key : ∃ e, slices_Index_int_int_L0 a x 0 = some e ∧ ((x ∈ a ∧ ∃ i : Nat, e = .inl (i : Int)) ∨ (x ∉ a ∧ e = .inr ())) := by
    refine loopX_inv (fun s : Int => a.length - s.toNat) (fun s => ∃ i : Nat, s = (i : Int) ∧ i ≤ a.length ∧ x ∉ a.take i) _ ?_ KK 0 ⟨0, rfl, by omega, by simp⟩ (by have := KK_big; simp; omega)
    rintro s ⟨i, rfl, h1, h2⟩
    simp only [slices_Index_int_int_L0_s]
    by_cases hi : i < a.length
    · rw [dec_t (by omega), cond_true, getI_at hi, Option.bind_some]
      by_cases c : x = a[i]
      · right
        rw [beq_t c, cond_true]
        exact ⟨_, rfl, .inl ⟨by rw [c]; exact List.getElem_mem hi, i, rfl⟩⟩
      · left
        rw [beq_f c, cond_false, wrap_id (by omega) (by omega)]
        refine ⟨_, rfl, ⟨i + 1, by omega, by omega, ?_⟩, by omega⟩
        rw [List.take_succ_eq_append_getElem hi, List.mem_append, List.mem_singleton]
        exact fun k => k.elim h2 c
    · right
      rw [dec_f (by omega), cond_false]
      rw [List.take_of_length_le (by omega)] at h2
      exact ⟨_, rfl, .inr ⟨h2, rfl⟩⟩
  obtain ⟨e, e1, e2⟩ := key
  unfold slices_Contains_int_int slices_Index_int_int
  rw [e1, Option.bind_some]
  rcases e2 with ⟨m, i, rfl⟩ | ⟨m, rfl⟩
  · simp only [isL, getL, cond_true, Option.bind_some]
    rw [dec_t (by omega), dec_t m]
  · simp only [isL, cond_false, Option.bind_some]
    rw [dec_f (by omega), dec_f m]
theorem fits280 {β : Type} {n : Nat} {x : Option β} (h : n ≤ 1000) : gd (fitsB 280 n) x = x := gd_true (by unfold fitsB; simp; omega)

theorem teach_is (f s e : Int) (l : List Int) (h : l.length ≤ 12) : route_Teach f s e l = some ((tl f [] l).map (mkM f s e)) := by
  unfold route_Teach
  have key : route_Teach_L1 l f s e (0, []) = some ((tl f [] l).map (mkM f s e)) := by
    refine loop_run (fun i => ((i : Int), (tl f [] (l.take i)).map (mkM f s e))) l.length _ (fun i hi => ?_) ?_ (by omega)
    · have hl := tl_len f (l.take i) []
      rw [List.length_take] at hl
      unfold route_Teach_L1_s route_Teach_J0
      simp only
      rw [dec_t (by omega), cond_true, getI_at hi, Option.bind_some, tl_take f l i hi, wrap_id (by omega) (by omega), succ_cast]
      by_cases c : l[i] = f
      · rw [bne_f c, cond_false, Option.bind_some, cond_false, if_pos (.inl c), List.append_nil]
      · rw [bne_t c, cond_true, slI_to l i (by omega), Option.bind_some, contains_is _ _ (by rw [List.length_take]; omega), Option.bind_some, Option.bind_some]
        by_cases q : l[i] ∈ l.take i
        · rw [dec_t q, if_pos (.inr q), List.append_nil]
          rfl
        · rw [dec_f q, if_neg (fun k => k.elim c q), List.map_append]
          simp only [Bool.not_false, cond_true]
          rw [fits280 (by rw [List.length_append, List.length_map, List.length_singleton]; omega)]
          rfl
    · unfold route_Teach_L1_s
      simp only
      rw [dec_f (by omega), cond_false, List.take_length]
  rw [key, Option.bind_some]

theorem getI_mid {α : Type} (A B : List α) (x : α) : getI (A ++ x :: B) (A.length : Int) = some x := by
  rw [getI_at (by simp)]
  simp

theorem osmosislaw21_RouteTeaches_true (x0 : Int) (x1 : List Int) (x2 : Int) (x3 : Int) (o0 : okI x0) (o1 : (okL okI) x1) (o2 : okI x2) (o3 : okI x3) (hb : bk1 x0 + (bkL bk1) x1 + bk1 x2 + bk1 x3 ≤ 1048576) : osmosislaw21_RouteTeaches x0 x1 x2 x3 = some true := by
  unfold osmosislaw21_RouteTeaches
  have l1 : ∃ l, osmosislaw21_RouteTeaches_L1 x1 x0 x2 x3 (0, []) = some l ∧ l.length ≤ 12 := by
    refine loopX_inv (fun (s : Int × List Int) => 12 - s.1.toNat) (fun s => ∃ (i : Nat) (m : List Int), s = ((i : Int), m) ∧ i ≤ 12 ∧ m.length = i) _ ?_ KK _ ⟨0, [], rfl, by omega, rfl⟩ (by have := KK_big; simp only; omega)
    rintro s ⟨i, m, rfl, h1, h2⟩
    simp only [osmosislaw21_RouteTeaches_L1_s, osmosislaw21_RouteTeaches_J0]
    by_cases c : i < x1.length
    case neg =>
      right
      rw [dec_f (by omega), cond_false, Option.bind_some]
      exact ⟨_, rfl, by omega⟩
    by_cases c2 : i < 12
    case neg =>
      right
      rw [dec_t (by omega), cond_true, dec_f (by omega), cond_false, Option.bind_some]
      exact ⟨_, rfl, by omega⟩
    left
    rw [dec_t (by omega), cond_true, dec_t (by omega), cond_true, Option.bind_some]
    simp only [isL, cond_true]
    obtain ⟨y, hy, _⟩ := pick_nat x1[i] 8 (by omega) (by omega)
    have hy : osmosishand_Pick x1[i] 8 = some (y : Int) := hy
    rw [getI_at c, Option.bind_some, hy, Option.bind_some, gd_fits (by omega) (by rw [List.length_append, List.length_singleton]; omega), wrap_id (by omega) (by omega), succ_cast]
    exact ⟨_, rfl, ⟨i + 1, _, rfl, by omega, by rw [List.length_append, List.length_singleton, h2]⟩, by simp only; omega⟩
  obtain ⟨l, e1, hl⟩ := l1
  obtain ⟨f, hf, _⟩ := pick_nat x0 8 (by omega) (by omega)
  obtain ⟨s, hs, _⟩ := pick_nat x2 6 (by omega) (by omega)
  obtain ⟨e, he, _⟩ := pick_nat x3 99 (by omega) (by omega)
  have hf : osmosishand_Pick x0 8 = some (f : Int) := hf
  have hs : osmosishand_Pick x2 6 = some (s : Int) := hs
  have he : osmosishand_Pick x3 99 = some (e : Int) := he
  rw [e1, Option.bind_some, hf, Option.bind_some, hs, Option.bind_some, he, Option.bind_some, teach_is _ _ _ _ hl, Option.bind_some]
  have l2 : ∃ r, osmosislaw21_RouteTeaches_L2 l ((tl f [] l).map (mkM f s e)) f x2 x3 (0, 0, mSet ([] : List (Int × Bool)) (f : Int) (true : Bool)) = some r ∧ r = .inr (((tl f [] l).length : Nat) : Int) := by
    refine loopX_inv (fun (s : Int × Int × List (Int × Bool)) => l.length - s.2.1.toNat) (fun s => ∃ (i : Nat) (h : List (Int × Bool)), s = ((((tl f [] (l.take i)).length : Nat) : Int), (i : Int), h) ∧ i ≤ l.length ∧ ∀ x, (mGet h x).getD false = decide (x = (f : Int) ∨ x ∈ l.take i)) _ ?_ KK _ ⟨0, _, rfl, by omega, fun x => ?_⟩ (by have := KK_big; simp only; omega)
    case refine_2 =>
      rw [mget_set]
      by_cases c : x = (f : Int)
      · rw [if_pos c, dec_t (.inl c)]; rfl
      · rw [if_neg c, dec_f (fun k => k.elim c (by simp))]; rfl
    rintro _ ⟨i, h, rfl, h1, h2⟩
    simp only [osmosislaw21_RouteTeaches_L2_s]
    by_cases c : i < l.length
    case neg =>
      right
      rw [dec_f (by omega), cond_false]
      exact ⟨_, rfl, by rw [List.take_of_length_le (by omega)]⟩
    left
    have ht := tl_take f l i c
    rw [dec_t (by omega), cond_true, getI_at c, Option.bind_some, Option.bind_some, h2 l[i]]
    by_cases q : l[i] = (f : Int) ∨ l[i] ∈ l.take i
    · rw [dec_t q, cond_true, wrap_id (by omega) (by omega), succ_cast]
      rw [if_pos q, List.append_nil] at ht
      refine ⟨_, rfl, ⟨i + 1, h, by rw [ht], by omega, fun x => ?_⟩, by simp only; omega⟩
      rw [h2 x, List.take_succ_eq_append_getElem c]
      congr 1
      simp only [List.mem_append, List.mem_singleton, eq_iff_iff]
      constructor
      · rintro (k | k)
        · exact .inl k
        · exact .inr (.inl k)
      · rintro (k | k | k)
        · exact .inl k
        · exact .inr k
        · rw [k]; exact q
    · rw [dec_f q, cond_false]
      rw [if_neg q] at ht
      obtain ⟨t, hp⟩ := tl_pre f (l.drop (i + 1)) (l.take (i + 1)) []
      rw [List.take_append_drop, ht, List.append_assoc] at hp
      have hM : (tl f [] l).map (mkM f s e) = (tl f [] (l.take i)).map (mkM f s e) ++ mkM f s e l[i] :: t.map (mkM f s e) := by
        rw [hp, List.map_append]
        rfl
      have hg : getI ((tl f [] l).map (mkM f s e)) (((tl f [] (l.take i)).length : Nat) : Int) = some (mkM f s e l[i]) := by
        have := getI_mid ((tl f [] (l.take i)).map (mkM f s e)) (t.map (mkM f s e)) (mkM f s e l[i])
        rw [← hM, List.length_map] at this
        exact this
      have hlen : (tl f [] (l.take i)).length < ((tl f [] l).map (mkM f s e)).length := by
        rw [hM]
        simp
      have hll := tl_len f (l.take i) []
      rw [List.length_take] at hll
      have b1 : ((mkM f s e l[i]).To != l[i]) = false := bne_f rfl
      have b2 : ((mkM f s e l[i]).From != (f : Int)) = false := bne_f rfl
      have b3 : ((mkM f s e l[i]).Kind != 10) = false := bne_f rfl
      have b4 : ((mkM f s e l[i]).Shard != (s : Int)) = false := bne_f rfl
      have b5 : ((mkM f s e l[i]).Epoch != (e : Int)) = false := bne_f rfl
      rw [dec_f (by omega), cond_false, hg]
      simp only [Option.bind_some, b1, b2, b3, b4, b5, hs, he, cond_false]
      rw [wrap_id (by omega) (by omega), wrap_id (by omega) (by omega), succ_cast, succ_cast]
      refine ⟨_, rfl, ⟨i + 1, _, by rw [ht, List.length_append, List.length_singleton], by omega, fun x => ?_⟩, by simp only; omega⟩
      rw [mget_set, List.take_succ_eq_append_getElem c]
      by_cases k : x = l[i]
      · rw [if_pos k, dec_t (show x = (f : Int) ∨ x ∈ l.take i ++ [l[i]] from .inr (List.mem_append.2 (.inr (List.mem_singleton.2 k))))]; rfl
      · rw [if_neg k, h2 x]
        congr 1
        simp only [List.mem_append, List.mem_singleton, eq_iff_iff, k, or_false]
  obtain ⟨r, e2, rfl⟩ := l2
  rw [e2, Option.bind_some]
  simp only [isL, getR, cond_false, osmosislaw21_known, Option.bind_some, cond_true, List.length_map, beq_self_eq_true]
end Go.Proofs.Ytlcjmchhnbdepaa
