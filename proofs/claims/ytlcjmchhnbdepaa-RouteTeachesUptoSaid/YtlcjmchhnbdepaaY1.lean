/- Functions as Lean functions, part 1. -/
import Derived.Test.YtlcjmchhnbdepaaXt
import Derived.Test.YtlcjmchhnbdepaaXs
set_option linter.all false
set_option maxRecDepth 100000
namespace Go.Proofs.Ytlcjmchhnbdepaa
/- osmosis/osmosishand.Pick -/
def osmosishand_Pick (n : Int) (m : Int) : Option (Int) :=
  (remI .i64 n m).bind fun (x1 : Int) => cond (decide (x1 < 0)) (some (IntKind.i64.wrap (x1 + m))) (some x1)
def out_osmosishand_Pick (n : Int) (m : Int) (r : Int) : AV × WH := ((.int .i64 r), [])

theorem s_osmosishand_Pick (d : Nat) {n : Int} {m : Int} {r : Int} (h : osmosishand_Pick n m = some r) : Spec (wcalls atab (d + 1)) 8 [(.int .i64 n), (.int .i64 m)] [] (out_osmosishand_Pick n m r).1 (out_osmosishand_Pick n m r).2 := by
  unfold osmosishand_Pick at h
  exact spec_by nB AF8 h (.bd fun x1 q1 => .v 7 (.int .i64 x1) <| .ob (wP_rem q1 : aInts .rem .i64 n m = some (.int .i64 x1)) <| .br 9 (fun _ => Fn Fo [] none) fun _ => Fn Fo [] none)

/- slices.Index[[]int,int] -/
def st_slices_Index_int_int_L0 (a0 : List Int) (a1 : Int) (s2 : Int) : List AV × WH := ([(l_I a0), (.int .i64 a1), (.int .i64 (a0.length : Int)), (.int .i64 s2)], [])
def fin_slices_Index_int_int_L0 (a0 : List Int) (a1 : Int) : Int ⊕ Unit → Ex × Fast × WH := fun
  | .inl e => (.ret, [(4, (.int .i64 e))], [])
  | .inr e => ((.exit 0), [], [])
abbrev rx_slices_Index_int_int_L0 (a0 : List Int) (a1 : Int) := roundX [0, 1, 7, 8] (st_slices_Index_int_int_L0 a0 a1) (fin_slices_Index_int_int_L0 a0 a1)
def slices_Index_int_int_L0_s (a0 : List Int) (a1 : Int) (s2 : Int) : Option ((Int) ⊕ (Int ⊕ Unit)) :=
  cond (decide (s2 < (a0.length : Int))) ((getI a0 s2).bind fun (x3 : Int) => cond (a1 == x3) (some (.inr (.inl s2))) (some (.inl (IntKind.i64.wrap (s2 + 1))))) (some (.inr (.inr ())))
def slices_Index_int_int_L0 (a0 : List Int) (a1 : Int) (s2 : Int) : Option (Int ⊕ Unit) := loopX (slices_Index_int_int_L0_s a0 a1) KK s2
theorem b_slices_Index_int_int_L0 (d : Nat) {a0 : List Int} {a1 : Int} {s2 : Int} {r : (Int) ⊕ (Int ⊕ Unit)} (h : slices_Index_int_int_L0_s a0 a1 s2 = some r) : RunX (bexec (wcalls atab (d + 0)) KK 19 WB66_0) 0 (inL [0, 1, 7, 8] (st_slices_Index_int_int_L0 a0 a1 s2)) (rx_slices_Index_int_int_L0 a0 a1 r) := by
  unfold slices_Index_int_int_L0_s at h
  exact run_by nB WB66_0_ok h (.br 9 (fun _ => .bd fun x3 q3 => Ix R_I 14 q3 <| .br 16 (fun _ => E0 [4]) fun _ => E0 [0, 1, 7, 8]) fun _ => E0 [])
theorem s_slices_Index_int_int_L0 (d : Nat) {a0 : List Int} {a1 : Int} {s2 : Int} {r : Int ⊕ Unit} (h : slices_Index_int_int_L0 a0 a1 s2 = some r) : RunX (bloop (bexec (wcalls atab (d + 0)) KK 19 WB66_0) [0, 1, 7, 8] KK) 0 (inL [0, 1, 7, 8] (st_slices_Index_int_int_L0 a0 a1 s2)) (fin_slices_Index_int_int_L0 a0 a1 r) :=
  loop_of (st := st_slices_Index_int_int_L0 a0 a1) (fin := fin_slices_Index_int_int_L0 a0 a1) (step := slices_Index_int_int_L0_s a0 a1) (fun e => by rcases e with e | e <;> (intro h; cases h)) (fun s x h => b_slices_Index_int_int_L0 d h) KK s2 r h

def slices_Index_int_int (a0 : List Int) (a1 : Int) : Option (Int) :=
  (slices_Index_int_int_L0 a0 a1 0).bind fun (x4 : Int ⊕ Unit) => cond (isL x4) (some (getL x4)) (some (-1))
def out_slices_Index_int_int (a0 : List Int) (a1 : Int) (r : Int) : AV × WH := ((.int .i64 r), [])

theorem s_slices_Index_int_int (d : Nat) {a0 : List Int} {a1 : Int} {r : Int} (h : slices_Index_int_int a0 a1 = some r) : Spec (wcalls atab (d + 1)) 66 [(l_I a0), (.int .i64 a1)] [] (out_slices_Index_int_int a0 a1 r).1 (out_slices_Index_int_int a0 a1 r).2 := by
  unfold slices_Index_int_int at h
  exact spec_by nB AF66 h (.bd fun x4 q4 => .ite (fun hb5 => Lp [none, none, none, none] [] [] (rwr (il hb5) (s_slices_Index_int_int_L0 (d + 0) q4)) <| Fn Fo [] none) fun hb5 => Lp [none, none, none, none] [] [] (rwr (ir0 hb5) (s_slices_Index_int_int_L0 (d + 0) q4)) <| Fn Fo [] none)

/- slices.Contains[[]int,int] -/
def slices_Contains_int_int (a0 : List Int) (a1 : Int) : Option (Bool) :=
  (slices_Index_int_int a0 a1).bind fun (x1 : Int) => some (decide (x1 ≥ 0))
def out_slices_Contains_int_int (a0 : List Int) (a1 : Int) (r : Bool) : AV × WH := ((.bool r), [])

theorem s_slices_Contains_int_int (d : Nat) {a0 : List Int} {a1 : Int} {r : Bool} (h : slices_Contains_int_int a0 a1 = some r) : Spec (wcalls atab (d + 2)) 30 [(l_I a0), (.int .i64 a1)] [] (out_slices_Contains_int_int a0 a1 r).1 (out_slices_Contains_int_int a0 a1 r).2 := by
  unfold slices_Contains_int_int at h
  exact spec_by nB AF30 h (.bd fun x1 q1 => Cb0 (s_slices_Index_int_int (d + 0) q1) <| Fn Fo [] none)

/- osmosis/route.Teach -/
abbrev in_route_Teach_J0 (x12 : Int) (p_from : Int) (path : List Int) (s11 : Int × List api_Msg) (shard : Int) (epoch : Int) : Fast × WH := ([(0, (.int .i64 p_from)), (1, (.int .i64 shard)), (2, (.int .i64 epoch)), (3, (l_I path)), (9, (.acc 0 0 23 s11.2.length true)), (10, (.int .i64 s11.1)), (11, (.int .i64 x12)), (12, (l_I path)), (13, (.int .i64 (path.length : Int))), (14, (.int .i64 s11.1))], [(some (.cells (F_api_Msg s11.2) false true))])
def fin_route_Teach_J0 (x12 : Int) (p_from : Int) (path : List Int) (s11 : Int × List api_Msg) (shard : Int) (epoch : Int) : Bool → Ex × Fast × WH := fun e => (.normal, [(0, (.int .i64 p_from)), (1, (.int .i64 shard)), (2, (.int .i64 epoch)), (3, (l_I path)), (9, (.acc 0 0 23 s11.2.length true)), (11, (.int .i64 x12)), (12, (l_I path)), (13, (.int .i64 (path.length : Int))), (14, (.int .i64 s11.1)), (29, (.bool e))], [(some (.cells (F_api_Msg s11.2) false true))])
def route_Teach_J0 (x12 : Int) (p_from : Int) (path : List Int) (s11 : Int × List api_Msg) (shard : Int) (epoch : Int) : Option (Bool) :=
  cond (x12 != p_from) ((slI path 0 s11.1).bind fun (x13 : List Int) => (slices_Contains_int_int x13 x12).bind fun (x14 : Bool) => some (!x14)) (some false)
theorem s_route_Teach_J0 (d : Nat) {x12 : Int} {p_from : Int} {path : List Int} {s11 : Int × List api_Msg} {shard : Int} {epoch : Int} {r : Bool} (h : route_Teach_J0 x12 p_from path s11 shard epoch = some r) : RunX (bexec (wcalls atab (d + 2)) KK 41 WJ9_bbabklbbakba) 0 (in_route_Teach_J0 x12 p_from path s11 shard epoch) (fin_route_Teach_J0 x12 p_from path s11 shard epoch r) := by
  unfold route_Teach_J0 at h
  exact run_by nB WJ9_bbabklbbakba_ok h (.br 22 (fun _ => .bd fun x13 q13 => Si R_I 25 q13 <| .bd fun x14 q14 => Cb0 (s_slices_Contains_int_int (d + 0) q14) <| E1 [0, 1, 2, 3, 9, 11, 12, 13, 14, 29] [none, none, none, none, none, none, none, none, none, none] [] [.undef, .undef, .undef, .undef, .slice none 23 0 0 true, .undef, .undef, .undef, .undef, .undef]) fun _ => E1 [0, 1, 2, 3, 9, 11, 12, 13, 14, 29] [none, none, none, none, none, none, none, none, none, none] [] [.undef, .undef, .undef, .undef, .slice none 23 0 0 true, .undef, .undef, .undef, .undef, .undef])

def st_route_Teach_L1 (path : List Int) (p_from : Int) (shard : Int) (epoch : Int) (s11 : Int × List api_Msg) : List AV × WH := ([(.int .i64 p_from), (.int .i64 shard), (.int .i64 epoch), (l_I path), (.acc 0 0 23 s11.2.length true), (l_I path), (.int .i64 (path.length : Int)), (.int .i64 s11.1)], [(some (.cells (F_api_Msg s11.2) false true))])
def fin_route_Teach_L1 (path : List Int) (p_from : Int) (shard : Int) (epoch : Int) : (List api_Msg) → Ex × Fast × WH := fun e => ((.exit 0), [(9, (.acc 0 0 23 e.length true))], [(some (.cells (F_api_Msg e) false true))])
abbrev rx_route_Teach_L1 (path : List Int) (p_from : Int) (shard : Int) (epoch : Int) := roundX [0, 1, 2, 3, 9, 12, 13, 14] (st_route_Teach_L1 path p_from shard epoch) (fin_route_Teach_L1 path p_from shard epoch)
def route_Teach_L1_s (path : List Int) (p_from : Int) (shard : Int) (epoch : Int) (s11 : Int × List api_Msg) : Option ((Int × List api_Msg) ⊕ ((List api_Msg))) :=
  cond (decide (s11.1 < (path.length : Int))) ((getI path s11.1).bind fun (x12 : Int) => (route_Teach_J0 x12 p_from path s11 shard epoch).bind fun (x15 : Bool) => cond x15 (gd (fitsB 280 (s11.2 ++ [(⟨10, p_from, x12, shard, epoch, 0, 0, 0, false, (⟨0, 0, (⟨0, ([] : List UInt8), ([] : List UInt8), ([] : List UInt8)⟩ : api_Op)⟩ : api_Req), (⟨0, ([] : List UInt8)⟩ : api_Answer), [], [], (⟨0, 0, [], []⟩ : api_Image)⟩ : api_Msg)]).length) (some (.inl ((IntKind.i64.wrap (s11.1 + 1)), (s11.2 ++ [(⟨10, p_from, x12, shard, epoch, 0, 0, 0, false, (⟨0, 0, (⟨0, ([] : List UInt8), ([] : List UInt8), ([] : List UInt8)⟩ : api_Op)⟩ : api_Req), (⟨0, ([] : List UInt8)⟩ : api_Answer), [], [], (⟨0, 0, [], []⟩ : api_Image)⟩ : api_Msg)]))))) (some (.inl ((IntKind.i64.wrap (s11.1 + 1)), s11.2)))) (some (.inr s11.2))
def route_Teach_L1 (path : List Int) (p_from : Int) (shard : Int) (epoch : Int) (s11 : Int × List api_Msg) : Option ((List api_Msg)) := loopX (route_Teach_L1_s path p_from shard epoch) KK s11
theorem b_route_Teach_L1 (d : Nat) {path : List Int} {p_from : Int} {shard : Int} {epoch : Int} {s11 : Int × List api_Msg} {r : (Int × List api_Msg) ⊕ ((List api_Msg))} (h : route_Teach_L1_s path p_from shard epoch s11 = some r) : RunX (bexec (wcalls atab (d + 2)) KK 41 WB9_0) 0 (inL [0, 1, 2, 3, 9, 12, 13, 14] (st_route_Teach_L1 path p_from shard epoch s11)) (rx_route_Teach_L1 path p_from shard epoch r) := by
  unfold route_Teach_L1_s at h
  exact run_by nB WB9_0_ok h (.br 15 (fun _ => .bd fun x12 q12 => Ix R_I 17 q12 <| .bd fun x15 q15 => Jn [0, 1, 2, 3, 9, 10, 11, 12, 13, 14] [none, none, none, none, none, none, none, none, none, none] [] [.undef, .undef, .undef, .undef, .slice none 23 0 0 true, .undef, .undef, .undef, .undef, .undef] (s_route_Teach_J0 (d + 0) q15) <| .br 29 (fun _ => .z 35 [.agg [.undef, .undef, .undef, .undef, .undef, .undef, .undef, .undef, .undef, .undef, .undef, .undef, .undef, .undef, .undef, .undef, .undef, .slice none 1 0 0 true, .slice none 5 0 0 true, .undef, .undef, .slice none 2 0 0 true, .slice none 4 0 0 true]] <| .gd fun q16 => Ap R_api_Msg 37 q16 <| E1 [0, 1, 2, 3, 9, 12, 13, 14] [none, none, none, none, none, none, none, none] [] [.undef, .undef, .undef, .undef, .slice none 23 0 0 true, .undef, .undef, .undef]) fun _ => E1 [0, 1, 2, 3, 9, 12, 13, 14] [none, none, none, none, none, none, none, none] [] [.undef, .undef, .undef, .undef, .slice none 23 0 0 true, .undef, .undef, .undef]) fun _ => E1 [9] [none] [] [.slice none 23 0 0 true])
theorem s_route_Teach_L1 (d : Nat) {path : List Int} {p_from : Int} {shard : Int} {epoch : Int} {s11 : Int × List api_Msg} {r : (List api_Msg)} (h : route_Teach_L1 path p_from shard epoch s11 = some r) : RunX (bloop (bexec (wcalls atab (d + 2)) KK 41 WB9_0) [0, 1, 2, 3, 9, 12, 13, 14] KK) 0 (inL [0, 1, 2, 3, 9, 12, 13, 14] (st_route_Teach_L1 path p_from shard epoch s11)) (fin_route_Teach_L1 path p_from shard epoch r) :=
  loop_of (st := st_route_Teach_L1 path p_from shard epoch) (fin := fin_route_Teach_L1 path p_from shard epoch) (step := route_Teach_L1_s path p_from shard epoch) (fun e => by (intro h; cases h)) (fun s x h => b_route_Teach_L1 d h) KK s11 r h

def route_Teach (p_from : Int) (shard : Int) (epoch : Int) (path : List Int) : Option (List api_Msg) :=
  (route_Teach_L1 path p_from shard epoch (0, [])).bind fun (x17 : (List api_Msg)) => some x17
def out_route_Teach (p_from : Int) (shard : Int) (epoch : Int) (path : List Int) (r : List api_Msg) : AV × WH := ((l_api_Msg r), [])

theorem s_route_Teach (d : Nat) {p_from : Int} {shard : Int} {epoch : Int} {path : List Int} {r : List api_Msg} (h : route_Teach p_from shard epoch path = some r) : Spec (wcalls atab (d + 3)) 9 [(.int .i64 p_from), (.int .i64 shard), (.int .i64 epoch), (l_I path)] [] (out_route_Teach p_from shard epoch path r).1 (out_route_Teach p_from shard epoch path r).2 := by
  unfold route_Teach at h
  exact spec_by (wB_ok _) AF9 h (.z 8 [.slice none 23 0 0 true] <| .z 9 [.slice none 23 0 0 true] <| .bd fun x17 q17 => Lp [none, none, none, none, Tw, none, none, none] [] [.undef, .undef, .undef, .undef, .slice none 23 0 0 true, .undef, .undef, .undef] (s_route_Teach_L1 (d + 0) q17) <| Fn Fo [.slice none 23 0 0 true] none)

/- osmosis/osmosislaw21.known: run by the kernel -/
def osmosislaw21_known : Option (Bool) := some true
def out_osmosislaw21_known (r : Bool) : AV × WH := ((.bool r), [])

theorem s_osmosislaw21_known (d : Nat) {r : Bool} (h : osmosislaw21_known = some r) : Spec (wcalls atab (d + 1)) 10 [] [] (out_osmosislaw21_known r).1 (out_osmosislaw21_known r).2 := by
  obtain rfl := Option.some.inj h
  exact alone_spec (g := bcall wG0 atabT 100000 40 10) (by kernel_rfl) kG_10_run d

/- osmosis/osmosislaw21.RouteTeaches -/
abbrev in_osmosislaw21_RouteTeaches_J0 (s11 : Int × List Int) (path : List Int) (p_from : Int) (shard : Int) (epoch : Int) : Fast × WH := ([(0, (.int .i64 p_from)), (1, (l_I path)), (2, (.int .i64 shard)), (3, (.int .i64 epoch)), (9, (.acc 0 0 1 s11.2.length true)), (10, (.int .i64 s11.1))], [(some (.cells (F_I s11.2) false true))])
def fin_osmosislaw21_RouteTeaches_J0 (s11 : Int × List Int) (path : List Int) (p_from : Int) (shard : Int) (epoch : Int) : Unit ⊕ Unit → Ex × Fast × WH := fun
  | .inl e => (.normal, [(0, (.int .i64 p_from)), (1, (l_I path)), (2, (.int .i64 shard)), (3, (.int .i64 epoch)), (9, (.acc 0 0 1 s11.2.length true)), (10, (.int .i64 s11.1))], [(some (.cells (F_I s11.2) false true))])
  | .inr e => ((.exit 0), [(0, (.int .i64 p_from)), (2, (.int .i64 shard)), (3, (.int .i64 epoch)), (9, (.acc 0 0 1 s11.2.length true))], [(some (.cells (F_I s11.2) false true))])
def osmosislaw21_RouteTeaches_J0 (s11 : Int × List Int) (path : List Int) (p_from : Int) (shard : Int) (epoch : Int) : Option (Unit ⊕ Unit) :=
  cond (decide (s11.1 < (path.length : Int))) (cond (decide (s11.1 < 12)) (some (.inl ())) (some (.inr ()))) (some (.inr ()))
theorem s_osmosislaw21_RouteTeaches_J0 (d : Nat) {s11 : Int × List Int} {path : List Int} {p_from : Int} {shard : Int} {epoch : Int} {r : Unit ⊕ Unit} (h : osmosislaw21_RouteTeaches_J0 s11 path p_from shard epoch = some r) : RunX (bexec (wcalls atab (d + 0)) KK 117 WJ3_bbabkla) 0 (in_osmosislaw21_RouteTeaches_J0 s11 path p_from shard epoch) (fin_osmosislaw21_RouteTeaches_J0 s11 path p_from shard epoch r) := by
  unfold osmosislaw21_RouteTeaches_J0 at h
  exact run_by nB WJ3_bbabkla_ok h (.br 20 (fun _ => .br 23 (fun _ => E0 [0, 1, 2, 3, 9, 10]) fun _ => E0 [0, 2, 3, 9]) fun _ => E0 [0, 2, 3, 9])

def st_osmosislaw21_RouteTeaches_L1 (path : List Int) (p_from : Int) (shard : Int) (epoch : Int) (s11 : Int × List Int) : List AV × WH := ([(.int .i64 p_from), (l_I path), (.int .i64 shard), (.int .i64 epoch), (.acc 0 0 1 s11.2.length true), (.int .i64 s11.1)], [(some (.cells (F_I s11.2) false true))])
def fin_osmosislaw21_RouteTeaches_L1 (path : List Int) (p_from : Int) (shard : Int) (epoch : Int) : (List Int) → Ex × Fast × WH := fun e => ((.exit 0), [(0, (.int .i64 p_from)), (2, (.int .i64 shard)), (3, (.int .i64 epoch)), (9, (.acc 0 0 1 e.length true))], [(some (.cells (F_I e) false true))])
abbrev rx_osmosislaw21_RouteTeaches_L1 (path : List Int) (p_from : Int) (shard : Int) (epoch : Int) := roundX [0, 1, 2, 3, 9, 10] (st_osmosislaw21_RouteTeaches_L1 path p_from shard epoch) (fin_osmosislaw21_RouteTeaches_L1 path p_from shard epoch)
def osmosislaw21_RouteTeaches_L1_s (path : List Int) (p_from : Int) (shard : Int) (epoch : Int) (s11 : Int × List Int) : Option ((Int × List Int) ⊕ ((List Int))) :=
  (osmosislaw21_RouteTeaches_J0 s11 path p_from shard epoch).bind fun (x12 : Unit ⊕ Unit) => cond (isL x12) ((getI path s11.1).bind fun (x14 : Int) => (osmosishand_Pick x14 8).bind fun (x15 : Int) => gd (fitsB 8 (s11.2 ++ [x15]).length) (some (.inl ((IntKind.i64.wrap (s11.1 + 1)), (s11.2 ++ [x15]))))) (some (.inr s11.2))
def osmosislaw21_RouteTeaches_L1 (path : List Int) (p_from : Int) (shard : Int) (epoch : Int) (s11 : Int × List Int) : Option ((List Int)) := loopX (osmosislaw21_RouteTeaches_L1_s path p_from shard epoch) KK s11
theorem b_osmosislaw21_RouteTeaches_L1 (d : Nat) {path : List Int} {p_from : Int} {shard : Int} {epoch : Int} {s11 : Int × List Int} {r : (Int × List Int) ⊕ ((List Int))} (h : osmosislaw21_RouteTeaches_L1_s path p_from shard epoch s11 = some r) : RunX (bexec (wcalls atab (d + 1)) KK 117 WB3_0) 0 (inL [0, 1, 2, 3, 9, 10] (st_osmosislaw21_RouteTeaches_L1 path p_from shard epoch s11)) (rx_osmosislaw21_RouteTeaches_L1 path p_from shard epoch r) := by
  unfold osmosislaw21_RouteTeaches_L1_s at h
  exact run_by nB WB3_0_ok h (.bd fun x12 q12 => .ite (fun hb13 => Jn [0, 1, 2, 3, 9, 10] [none, none, none, none, none, none] [] [] (rwr (il hb13) (s_osmosislaw21_RouteTeaches_J0 (d + 1) q12)) <| .bd fun x14 q14 => Ix R_I 29 q14 <| .bd fun x15 q15 => Cb0 (s_osmosishand_Pick (d + 0) q15) <| .gd fun q16 => Ap R_I 33 q16 <| E0 [0, 1, 2, 3, 9, 10]) fun hb13 => Jn [0, 1, 2, 3, 9, 10] [none, none, none, none, none, none] [] [] (rwr (ir0 hb13) (s_osmosislaw21_RouteTeaches_J0 (d + 1) q12)) <| E0 [0, 2, 3, 9])
theorem s_osmosislaw21_RouteTeaches_L1 (d : Nat) {path : List Int} {p_from : Int} {shard : Int} {epoch : Int} {s11 : Int × List Int} {r : (List Int)} (h : osmosislaw21_RouteTeaches_L1 path p_from shard epoch s11 = some r) : RunX (bloop (bexec (wcalls atab (d + 1)) KK 117 WB3_0) [0, 1, 2, 3, 9, 10] KK) 0 (inL [0, 1, 2, 3, 9, 10] (st_osmosislaw21_RouteTeaches_L1 path p_from shard epoch s11)) (fin_osmosislaw21_RouteTeaches_L1 path p_from shard epoch r) :=
  loop_of (st := st_osmosislaw21_RouteTeaches_L1 path p_from shard epoch) (fin := fin_osmosislaw21_RouteTeaches_L1 path p_from shard epoch) (step := osmosislaw21_RouteTeaches_L1_s path p_from shard epoch) (fun e => by (intro h; cases h)) (fun s x h => b_osmosislaw21_RouteTeaches_L1 d h) KK s11 r h

def st_osmosislaw21_RouteTeaches_L2 (x17 : (List Int)) (x21 : List api_Msg) (x18 : Int) (shard : Int) (epoch : Int) (s31 : Int × Int × (List (Int × Bool))) : List AV × WH := ([(.int .i64 x18), (.int .i64 shard), (.int .i64 epoch), (l_api_Msg x21), (.map (some 0)), (.int .i64 s31.1), (.acc 1 0 1 x17.length true), (.int .i64 (x17.length : Int)), (.int .i64 s31.2.1)], [(some (.map (m_MI_O s31.2.2))), (some (.cells (F_I x17) true true))])
def fin_osmosislaw21_RouteTeaches_L2 (x17 : (List Int)) (x21 : List api_Msg) (x18 : Int) (shard : Int) (epoch : Int) : Unit ⊕ Int → Ex × Fast × WH := fun
  | .inl e => (.ret, [(8, (.bool false))], [])
  | .inr e => ((.exit 2), [(11, (l_api_Msg x21)), (13, (.int .i64 e))], [])
abbrev rx_osmosislaw21_RouteTeaches_L2 (x17 : (List Int)) (x21 : List api_Msg) (x18 : Int) (shard : Int) (epoch : Int) := roundX [0, 2, 3, 11, 12, 13, 46, 47, 48] (st_osmosislaw21_RouteTeaches_L2 x17 x21 x18 shard epoch) (fin_osmosislaw21_RouteTeaches_L2 x17 x21 x18 shard epoch)
def osmosislaw21_RouteTeaches_L2_s (x17 : (List Int)) (x21 : List api_Msg) (x18 : Int) (shard : Int) (epoch : Int) (s31 : Int × Int × (List (Int × Bool))) : Option ((Int × Int × (List (Int × Bool))) ⊕ (Unit ⊕ Int)) :=
  cond (decide (s31.2.1 < (x17.length : Int))) ((getI x17 s31.2.1).bind fun (x32 : Int) => (some ((mGet s31.2.2 x32).getD (false : Bool))).bind fun (x33 : Bool) => cond x33 (some (.inl (s31.1, (IntKind.i64.wrap (s31.2.1 + 1)), s31.2.2))) (cond (decide (s31.1 ≥ (x21.length : Int))) (some (.inr (.inl ()))) ((getI x21 s31.1).bind fun (x34 : api_Msg) => cond (x34.To != x32) (some (.inr (.inl ()))) ((getI x21 s31.1).bind fun (x35 : api_Msg) => cond (x35.From != x18) (some (.inr (.inl ()))) ((getI x21 s31.1).bind fun (x36 : api_Msg) => cond (x36.Kind != 10) (some (.inr (.inl ()))) ((osmosishand_Pick shard 6).bind fun (x37 : Int) => (getI x21 s31.1).bind fun (x38 : api_Msg) => cond (x38.Shard != x37) (some (.inr (.inl ()))) ((osmosishand_Pick epoch 99).bind fun (x39 : Int) => (getI x21 s31.1).bind fun (x40 : api_Msg) => cond (x40.Epoch != x39) (some (.inr (.inl ()))) (some (.inl ((IntKind.i64.wrap (s31.1 + 1)), (IntKind.i64.wrap (s31.2.1 + 1)), (mSet s31.2.2 x32 (true : Bool)))))))))))) (some (.inr (.inr s31.1)))
def osmosislaw21_RouteTeaches_L2 (x17 : (List Int)) (x21 : List api_Msg) (x18 : Int) (shard : Int) (epoch : Int) (s31 : Int × Int × (List (Int × Bool))) : Option (Unit ⊕ Int) := loopX (osmosislaw21_RouteTeaches_L2_s x17 x21 x18 shard epoch) KK s31
theorem b_osmosislaw21_RouteTeaches_L2 (d : Nat) {x17 : (List Int)} {x21 : List api_Msg} {x18 : Int} {shard : Int} {epoch : Int} {s31 : Int × Int × (List (Int × Bool))} {r : (Int × Int × (List (Int × Bool))) ⊕ (Unit ⊕ Int)} (h : osmosislaw21_RouteTeaches_L2_s x17 x21 x18 shard epoch s31 = some r) : RunX (bexec (wcalls atab (d + 1)) KK 117 WB3_1) 0 (inL [0, 2, 3, 11, 12, 13, 46, 47, 48] (st_osmosislaw21_RouteTeaches_L2 x17 x21 x18 shard epoch s31)) (rx_osmosislaw21_RouteTeaches_L2 x17 x21 x18 shard epoch r) := by
  unfold osmosislaw21_RouteTeaches_L2_s at h
  exact run_by nB WB3_1_ok h (.br 49 (fun _ => .bd fun x32 q32 => Ia R_I 50 1 q32 <| Ld R_I 51 false 1 0 q32 (.int .i64 x32) rfl <| .bd fun x33 q33 => .v 54 (.bool x33) <| .ob (mg_f keyI cv_MI_O q33 : mapAt .i false (cv_MI_O (false : Bool)) (.int .i64 x32) (m_MI_O s31.2.2) = some (.bool x33)) <| .br 54 (fun _ => E1 [0, 2, 3, 11, 12, 13, 46, 47, 48] [none, none, none, none, none, none, none, none, none] [] [.undef, .undef, .undef, .slice none 23 0 0 true, .undef, .undef, .undef, .undef, .undef]) fun _ => .mp (m_MI_O (mSet s31.2.2 x32 (true : Bool))) <| .ob (mu_ok keyI cv_MI_O _ _ _ : mapUp .i (.int .i64 x32) (cv_MI_O (true : Bool)) (m_MI_O s31.2.2) = some (m_MI_O (mSet s31.2.2 x32 (true : Bool)))) <| .br 61 (fun _ => E0 [8]) fun _ => .bd fun x34 q34 => Ix R_api_Msg 64 q34 <| .br 70 (fun _ => E0 [8]) fun _ => .bd fun x35 q35 => Ix R_api_Msg 73 q35 <| .br 79 (fun _ => E0 [8]) fun _ => .bd fun x36 q36 => Ix R_api_Msg 82 q36 <| .br 87 (fun _ => E0 [8]) fun _ => .bd fun x37 q37 => Cb0 (s_osmosishand_Pick (d + 0) q37) <| .bd fun x38 q38 => Ix R_api_Msg 90 q38 <| .br 97 (fun _ => E0 [8]) fun _ => .bd fun x39 q39 => Cb0 (s_osmosishand_Pick (d + 0) q39) <| .bd fun x40 q40 => Ix R_api_Msg 100 q40 <| .br 106 (fun _ => E0 [8]) fun _ => E1 [0, 2, 3, 11, 12, 13, 46, 47, 48] [none, none, none, none, none, none, none, none, none] [] [.undef, .undef, .undef, .slice none 23 0 0 true, .undef, .undef, .undef, .undef, .undef]) fun _ => E1 [11, 13] [none, none] [] [.slice none 23 0 0 true, .undef])
theorem s_osmosislaw21_RouteTeaches_L2 (d : Nat) {x17 : (List Int)} {x21 : List api_Msg} {x18 : Int} {shard : Int} {epoch : Int} {s31 : Int × Int × (List (Int × Bool))} {r : Unit ⊕ Int} (h : osmosislaw21_RouteTeaches_L2 x17 x21 x18 shard epoch s31 = some r) : RunX (bloop (bexec (wcalls atab (d + 1)) KK 117 WB3_1) [0, 2, 3, 11, 12, 13, 46, 47, 48] KK) 0 (inL [0, 2, 3, 11, 12, 13, 46, 47, 48] (st_osmosislaw21_RouteTeaches_L2 x17 x21 x18 shard epoch s31)) (fin_osmosislaw21_RouteTeaches_L2 x17 x21 x18 shard epoch r) :=
  loop_of (st := st_osmosislaw21_RouteTeaches_L2 x17 x21 x18 shard epoch) (fin := fin_osmosislaw21_RouteTeaches_L2 x17 x21 x18 shard epoch) (step := osmosislaw21_RouteTeaches_L2_s x17 x21 x18 shard epoch) (fun e => by rcases e with e | e <;> (intro h; cases h)) (fun s x h => b_osmosislaw21_RouteTeaches_L2 d h) KK s31 r h

def osmosislaw21_RouteTeaches (p_from : Int) (path : List Int) (shard : Int) (epoch : Int) : Option (Bool) :=
  (osmosislaw21_RouteTeaches_L1 path p_from shard epoch (0, [])).bind fun (x17 : (List Int)) => (osmosishand_Pick p_from 8).bind fun (x18 : Int) => (osmosishand_Pick shard 6).bind fun (x19 : Int) => (osmosishand_Pick epoch 99).bind fun (x20 : Int) => (route_Teach x18 x19 x20 x17).bind fun (x21 : List api_Msg) => (osmosislaw21_RouteTeaches_L2 x17 x21 x18 shard epoch (0, 0, (mSet ([] : List (Int × Bool)) x18 (true : Bool)))).bind fun (x41 : Unit ⊕ Int) => cond (isL x41) (some false) ((osmosislaw21_known).bind fun (x43 : Bool) => cond x43 (some ((getR x41) == (x21.length : Int))) (some false))
def out_osmosislaw21_RouteTeaches (p_from : Int) (path : List Int) (shard : Int) (epoch : Int) (r : Bool) : AV × WH := ((.bool r), [])

theorem s_osmosislaw21_RouteTeaches (d : Nat) {p_from : Int} {path : List Int} {shard : Int} {epoch : Int} {r : Bool} (h : osmosislaw21_RouteTeaches p_from path shard epoch = some r) : Spec (wcalls atab (d + 4)) 3 [(.int .i64 p_from), (l_I path), (.int .i64 shard), (.int .i64 epoch)] [] (out_osmosislaw21_RouteTeaches p_from path shard epoch r).1 (out_osmosislaw21_RouteTeaches p_from path shard epoch r).2 := by
  unfold osmosislaw21_RouteTeaches at h
  exact spec_by nB AF3 h (.bd fun x17 q17 => Lp [none, none, none, none, Tw, none] [] [] (s_osmosislaw21_RouteTeaches_L1 (d + 2) q17) <| .bd fun x18 q18 => Cb0 (s_osmosishand_Pick (d + 2) q18) <| .bd fun x19 q19 => Cb0 (s_osmosishand_Pick (d + 2) q19) <| .bd fun x20 q20 => Cb0 (s_osmosishand_Pick (d + 2) q20) <| .bd fun x21 q21 => Cl [] Fo [] (s_route_Teach (d + 0) q21) <| .mp (m_MI_O (mSet ([] : List (Int × Bool)) x18 (true : Bool))) <| .ob (mu_ok keyI cv_MI_O _ _ _ : mapUp .i (.int .i64 x18) (cv_MI_O (true : Bool)) (m_MI_O ([] : List (Int × Bool))) = some (m_MI_O (mSet ([] : List (Int × Bool)) x18 (true : Bool)))) <| .bd fun x41 q41 => .ite (fun hb42 => Lp [none, none, none, none, none, none, none, none, none] [] [.undef, .undef, .undef, .slice none 23 0 0 true, .undef, .undef, .undef, .undef, .undef] (rwr (il hb42) (s_osmosislaw21_RouteTeaches_L2 (d + 2) q41)) <| Fn Fo [] none) fun hb42 => Lp [none, none, none, none, none, none, none, none, none] [] [.undef, .undef, .undef, .slice none 23 0 0 true, .undef, .undef, .undef, .undef, .undef] (rwr (ir0 hb42) (s_osmosislaw21_RouteTeaches_L2 (d + 2) q41)) <| .bd fun x43 q43 => Cb0 (s_osmosislaw21_known (d + 2) q43) <| .br 111 (fun _ => Fn Fo [] none) fun _ => Fn Fo [] none)

end Go.Proofs.Ytlcjmchhnbdepaa
