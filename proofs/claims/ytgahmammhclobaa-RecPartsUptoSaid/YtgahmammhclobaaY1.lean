import Derived.Test.YtgahmammhclobaaXt
import Derived.Test.YtgahmammhclobaaXs
set_option linter.all false
set_option maxRecDepth 100000
namespace Go.Proofs.Ytgahmammhclobaa
def oH_Pick (n:Int) (m:Int):Option (Int) :=
  (remI .i64 n m).bind fun (x1:Int)=>cond (decide (x1 < 0)) (some (IntKind.i64.wrap (x1+m))) (some x1)
def out_oH_Pick (n:Int) (m:Int) (r:Int):AV × WH:=((.int .i64 r),[])
theorem s_oH_Pick (d:Nat) {n:Int} {m:Int} {r:Int} (h:oH_Pick n m=some r):Spec (wcalls atab (d+1)) 26 [(.int .i64 n),(.int .i64 m)] [] (out_oH_Pick n m r).1 (out_oH_Pick n m r).2:=by
  unfold oH_Pick at h
  exact spec_by nB AF26 h (.bd fun x1 q1=>.v 7 (.int .i64 x1) <| .ob (wP_rem q1:aInts .rem .i64 n m=some (.int .i64 x1)) <| .br 9 (fun _=>Fn Fo [] none) fun _=>Fn Fo [] none)
def oH_Key (n:Int):Option (List UInt8) :=
  (oH_Pick n 16).bind fun (x1:Int)=>(getI ([[97],[98],[99],[100],[101],[102],[103],[104],[107,97],[107,98],[107,99],[107,100],[120],[121],[122,122],[101,105,103,104,116,107,101,121]]:List (List UInt8)) x1).bind fun (x2:List UInt8)=>some x2
def out_oH_Key (n:Int) (r:List UInt8):AV × WH:=((.str r),[])
theorem s_oH_Key (d:Nat) {n:Int} {r:List UInt8} (h:oH_Key n=some r):Spec (wcalls atab (d+2)) 53 [(.int .i64 n)] [] (out_oH_Key n r).1 (out_oH_Key n r).2:=by
  unfold oH_Key at h
  exact spec_by nB AF53 h (.bd fun x1 q1=>Cb0 (s_oH_Pick (d+0) q1) <| .bd fun x2 q2=>.v 6 (.str x2) <| .ob (wP_ix R_S q2:wP (.index false 16 1 (.c (.agg [(.str [97]),(.str [98]),(.str [99]),(.str [100]),(.str [101]),(.str [102]),(.str [103]),(.str [104]),(.str ([107,97])),(.str ([107,98])),(.str ([107,99])),(.str ([107,100])),(.str [120]),(.str [121]),(.str ([122,122])),(.str ([101,105,103,104,116,107,101,121]))])) (.c (.int .i64 x1)))=some (.str x2)) <| Fn Fo [] none)
def oH_Value (n:Int):Option (List UInt8) :=
  (oH_Pick n 6).bind fun (x1:Int)=>(getI ([([]:List UInt8),[49],[50],[116,104,114,101,101],[115,105,120,116,101,101,110,32,98,121,116,101,115,32,105,116],[52]]:List (List UInt8)) x1).bind fun (x2:List UInt8)=>some x2
def out_oH_Value (n:Int) (r:List UInt8):AV × WH:=((.str r),[])
theorem s_oH_Value (d:Nat) {n:Int} {r:List UInt8} (h:oH_Value n=some r):Spec (wcalls atab (d+2)) 86 [(.int .i64 n)] [] (out_oH_Value n r).1 (out_oH_Value n r).2:=by
  unfold oH_Value at h
  exact spec_by nB AF86 h (.bd fun x1 q1=>Cb0 (s_oH_Pick (d+0) q1) <| .bd fun x2 q2=>.v 6 (.str x2) <| .ob (wP_ix R_S q2:wP (.index false 6 1 (.c (.agg [(.str ([]:List UInt8)),(.str [49]),(.str [50]),(.str ([116,104,114,101,101])),(.str ([115,105,120,116,101,101,110,32,98,121,116,101,115,32,105,116])),(.str [52])])) (.c (.int .i64 x1)))=some (.str x2)) <| Fn Fo [] none)
abbrev in_oH_Op_J0 (x1:Int) (value:Int) (old:Int) (x2:List UInt8):Fast × WH:=([(2,(.int .i64 value)),(3,(.int .i64 old)),(8,(.ptr (some (0,0)))),(9,(.ptr (some (1,0))))],[(some (.cells (e_api_Op (⟨0,([]:List UInt8),([]:List UInt8),([]:List UInt8)⟩:api_Op)) false false)),(some (.cells (e_api_Op (⟨(IntKind.i64.wrap (1+x1)),x2,([]:List UInt8),([]:List UInt8)⟩:api_Op)) false false))])
def fin_oH_Op_J0 (x1:Int) (value:Int) (old:Int) (x2:List UInt8):Bool→Ex × Fast × WH:=fun e=>(.normal,[(2,(.int .i64 value)),(3,(.int .i64 old)),(8,(.ptr (some (0,0)))),(9,(.ptr (some (1,0)))),(23,(.bool e))],[(some (.cells (e_api_Op (⟨0,([]:List UInt8),([]:List UInt8),([]:List UInt8)⟩:api_Op)) false false)),(some (.cells (e_api_Op (⟨(IntKind.i64.wrap (1+x1)),x2,([]:List UInt8),([]:List UInt8)⟩:api_Op)) false false))])
def oH_Op_J0 (x1:Int) (value:Int) (old:Int) (x2:List UInt8):Option (Bool) :=
  cond ((IntKind.i64.wrap (1+x1)) == 2) (some true) (some ((IntKind.i64.wrap (1+x1)) == 4))
theorem s_oH_Op_J0 (d:Nat) {x1:Int} {value:Int} {old:Int} {x2:List UInt8} {r:Bool} (h:oH_Op_J0 x1 value old x2=some r):RunX (bexec (wcalls atab (d+0)) KK 34 WJ45_bbaa) 0 (in_oH_Op_J0 x1 value old x2) (fin_oH_Op_J0 x1 value old x2 r):=by
  unfold oH_Op_J0 at h
  exact run_by nB WJ45_bbaa_ok h (.br 19 (fun _=>E0 [2,3,8,9,23]) fun _=>E0 [2,3,8,9,23])
abbrev in_oH_Op_J1 (x1:Int) (value:Int) (old:Int) (x2:List UInt8):Fast × WH:=([(2,(.int .i64 value)),(3,(.int .i64 old)),(8,(.ptr (some (0,0)))),(9,(.ptr (some (1,0))))],[(some (.cells (e_api_Op (⟨0,([]:List UInt8),([]:List UInt8),([]:List UInt8)⟩:api_Op)) false false)),(some (.cells (e_api_Op (⟨(IntKind.i64.wrap (1+x1)),x2,([]:List UInt8),([]:List UInt8)⟩:api_Op)) false false))])
def fin_oH_Op_J1 (x1:Int) (value:Int) (old:Int) (x2:List UInt8):api_Op→Ex × Fast × WH:=fun e=>(.normal,[(3,(.int .i64 old)),(8,(.ptr (some (0,0)))),(9,(.ptr (some (1,0))))],[(some (.cells (e_api_Op (⟨0,([]:List UInt8),([]:List UInt8),([]:List UInt8)⟩:api_Op)) false false)),(some (.cells (e_api_Op e) false false))])
def oH_Op_J1 (x1:Int) (value:Int) (old:Int) (x2:List UInt8):Option (api_Op) :=
  (oH_Op_J0 x1 value old x2).bind fun (x3:Bool)=>cond x3 ((oH_Value value).bind fun (x4:List UInt8)=>some (⟨(IntKind.i64.wrap (1+x1)),x2,x4,([]:List UInt8)⟩:api_Op)) (some (⟨(IntKind.i64.wrap (1+x1)),x2,([]:List UInt8),([]:List UInt8)⟩:api_Op))
theorem s_oH_Op_J1 (d:Nat) {x1:Int} {value:Int} {old:Int} {x2:List UInt8} {r:api_Op} (h:oH_Op_J1 x1 value old x2=some r):RunX (bexec (wcalls atab (d+2)) KK 34 WJ45_bba) 0 (in_oH_Op_J1 x1 value old x2) (fin_oH_Op_J1 x1 value old x2 r):=by
  unfold oH_Op_J1 at h
  exact run_by nB WJ45_bba_ok h (.bd fun x3 q3=>Jn [2,3,8,9] [none,none,none,none] [] [] (s_oH_Op_J0 (d+2) q3) <| .br 23 (fun _=>.bd fun x4 q4=>Cb0 (s_oH_Value (d+0) q4) <| .st none <| E0 [3,8,9]) fun _=>E0 [3,8,9])
def oH_Op (kind:Int) (key:Int) (value:Int) (old:Int):Option (api_Op) :=
  (oH_Pick kind 4).bind fun (x1:Int)=>(oH_Key key).bind fun (x2:List UInt8)=>(oH_Op_J1 x1 value old x2).bind fun (x5:api_Op)=>cond (x5.Kind == 4) ((oH_Value old).bind fun (x6:List UInt8)=>some (⟨x5.Kind,x5.Key,x5.Value,x6⟩:api_Op)) (some x5)
def out_oH_Op (kind:Int) (key:Int) (value:Int) (old:Int) (r:api_Op):AV × WH:=((.agg (e_api_Op r)),[])
theorem s_oH_Op (d:Nat) {kind:Int} {key:Int} {value:Int} {old:Int} {r:api_Op} (h:oH_Op kind key value old=some r):Spec (wcalls atab (d+3)) 45 [(.int .i64 kind),(.int .i64 key),(.int .i64 value),(.int .i64 old)] [] (out_oH_Op kind key value old r).1 (out_oH_Op kind key value old r).2:=by
  unfold oH_Op at h
  exact spec_by nB AF45 h (.bd fun x1 q1=>Cb0 (s_oH_Pick (d+1) q1) <| .bd fun x2 q2=>Cb0 (s_oH_Key (d+0) q2) <| .st none <| .bd fun x5 q5=>Jn [2,3,8,9] [none,none,none,none] [] [] (s_oH_Op_J1 (d+0) q5) <| .br 29 (fun _=>.bd fun x6 q6=>Cb0 (s_oH_Value (d+0) q6) <| .st none <| .st none <| Fn Fo [] none) fun _=>.st none <| Fn Fo [] none)
def oH_Text (p_s:List UInt8) (n:Int):Option (List UInt8) :=
  cond (decide ((p_s.length:Int) > n)) ((slI p_s 0 n).bind fun (x1:List UInt8)=>some x1) (some p_s)
def out_oH_Text (p_s:List UInt8) (n:Int) (r:List UInt8):AV × WH:=((.str r),[])
theorem s_oH_Text (d:Nat) {p_s:List UInt8} {n:Int} {r:List UInt8} (h:oH_Text p_s n=some r):Spec (wcalls atab (d+1)) 46 [(.str p_s),(.int .i64 n)] [] (out_oH_Text p_s n r).1 (out_oH_Text p_s n r).2:=by
  unfold oH_Text at h
  exact spec_by nB AF46 h (.br 8 (fun _=>.bd fun x1 q1=>.v 11 (.str x1) <| .ob (wP_slS_h q1:wP (.sliceStr (.c (.str p_s)) none (some (.c (.int .i64 n))))=some (.str x1)) <| Fn Fo [] none) fun _=>Fn Fo [] none)
abbrev in_oH_Num_J0 (x1:Int) (n:Int):Fast × WH:=([(0,(.int .i64 n)),(4,(.int .i64 x1))],[])
def fin_oH_Num_J0 (x1:Int) (n:Int):Bool→Ex × Fast × WH:=fun e=>(.normal,[(0,(.int .i64 n)),(4,(.int .i64 x1)),(5,(.bool e))],[])
def oH_Num_J0 (x1:Int) (n:Int):Option (Bool) :=
  cond (x1 == 0) (some true) (cond (x1 == 1) (some true) (some (x1 == 2)))
theorem s_oH_Num_J0 (d:Nat) {x1:Int} {n:Int} {r:Bool} (h:oH_Num_J0 x1 n=some r):RunX (bexec (wcalls atab (d+0)) KK 35 WJ47_babka) 0 (in_oH_Num_J0 x1 n) (fin_oH_Num_J0 x1 n r):=by
  unfold oH_Num_J0 at h
  exact run_by nB WJ47_babka_ok h (.br 5 (fun _=>E0 [0,4,5]) fun _=>.br 5 (fun _=>E0 [0,4,5]) fun _=>E0 [0,4,5])
def oH_Num (n:Int):Option (Int) :=
  (oH_Pick n 7).bind fun (x1:Int)=>(oH_Num_J0 x1 n).bind fun (x2:Bool)=>cond x2 ((oH_Pick (IntKind.i64.wrap (Int.tdiv n 7)) 40).bind fun (x3:Int)=>some x3) (cond (x1 == 3) ((oH_Pick (IntKind.i64.wrap (Int.tdiv n 7)) 63).bind fun (x4:Int)=>(shlI .i64 1 (IntKind.u64.wrap x4)).bind fun (x5:Int)=>(oH_Pick (IntKind.i64.wrap (Int.tdiv n 441)) 3).bind fun (x6:Int)=>some (IntKind.i64.wrap (x5 - x6))) (cond (x1 == 4) ((oH_Pick (IntKind.i64.wrap (Int.tdiv n 7)) 3).bind fun (x7:Int)=>some (IntKind.i64.wrap (4611686018427387903 - x7))) (cond (x1 == 5) ((oH_Pick (IntKind.i64.wrap (Int.tdiv n 7)) 1000).bind fun (x8:Int)=>some x8) (some n))))
def out_oH_Num (n:Int) (r:Int):AV × WH:=((.int .i64 r),[])
theorem s_oH_Num (d:Nat) {n:Int} {r:Int} (h:oH_Num n=some r):Spec (wcalls atab (d+2)) 47 [(.int .i64 n)] [] (out_oH_Num n r).1 (out_oH_Num n r).2:=by
  unfold oH_Num at h
  exact spec_by nB AF47 h (.bd fun x1 q1=>Cb0 (s_oH_Pick (d+0) q1) <| .bd fun x2 q2=>Jn [0,4] [none,none] [] [] (s_oH_Num_J0 (d+1) q2) <| .br 5 (fun _=>.bd fun x3 q3=>Cb0 (s_oH_Pick (d+0) q3) <| Fn Fo [] none) fun _=>.br 12 (fun _=>.bd fun x4 q4=>Cb0 (s_oH_Pick (d+0) q4) <| .bd fun x5 q5=>.v 18 (.int .i64 x5) <| .ob (wP_shl q5:aBin .shl (.int .i64 1) (.int .u64 (IntKind.u64.wrap x4))=some (.int .i64 x5)) <| .bd fun x6 q6=>Cb0 (s_oH_Pick (d+0) q6) <| Fn Fo [] none) fun _=>.br 23 (fun _=>.bd fun x7 q7=>Cb0 (s_oH_Pick (d+0) q7) <| Fn Fo [] none) fun _=>.br 29 (fun _=>.bd fun x8 q8=>Cb0 (s_oH_Pick (d+0) q8) <| Fn Fo [] none) fun _=>Fn Fo [] none)
def oH_Req (p_x:oH_RawOp):Option (api_Req) :=
  (oH_Pick p_x.Client 4).bind fun (x1:Int)=>(oH_Pick p_x.Seq 9).bind fun (x2:Int)=>(oH_Op p_x.Kind p_x.Key p_x.Value p_x.Old).bind fun (x3:api_Op)=>(oH_Pick p_x.Bend 16).bind fun (x4:Int)=>cond (x4 == 10) ((oH_Text p_x.Text 12).bind fun (x5:List UInt8)=>some (⟨x1,(IntKind.i64.wrap (1+x2)),(⟨x3.Kind,x5,x3.Value,x3.Old⟩:api_Op)⟩:api_Req)) (cond (x4 == 11) ((oH_Text p_x.Text 20).bind fun (x6:List UInt8)=>some (⟨x1,(IntKind.i64.wrap (1+x2)),(⟨x3.Kind,x3.Key,x6,x3.Old⟩:api_Op)⟩:api_Req)) (cond (x4 == 12) ((oH_Pick (IntKind.i64.wrap (Int.tdiv p_x.Bend 16)) 8).bind fun (x7:Int)=>some (⟨x1,(IntKind.i64.wrap (1+x2)),(⟨(IntKind.i64.wrap (x7 - 1)),x3.Key,x3.Value,x3.Old⟩:api_Op)⟩:api_Req)) (cond (x4 == 13) ((oH_Pick (IntKind.i64.wrap (Int.tdiv p_x.Bend 16)) 9).bind fun (x8:Int)=>some (⟨(IntKind.i64.wrap (x8 - 2)),(IntKind.i64.wrap (1+x2)),x3⟩:api_Req)) (cond (x4 == 14) ((oH_Num (IntKind.i64.wrap (Int.tdiv p_x.Bend 16))).bind fun (x9:Int)=>some (⟨x1,x9,x3⟩:api_Req)) (cond (x4 == 15) (some (⟨0,0,(⟨0,([]:List UInt8),([]:List UInt8),([]:List UInt8)⟩:api_Op)⟩:api_Req)) (some (⟨x1,(IntKind.i64.wrap (1+x2)),x3⟩:api_Req)))))))
def out_oH_Req (p_x:oH_RawOp) (r:api_Req):AV × WH:=((.agg (e_api_Req r)),[])
theorem s_oH_Req (d:Nat) {p_x:oH_RawOp} {r:api_Req} (h:oH_Req p_x=some r):Spec (wcalls atab (d+4)) 11 [(.agg (e_oH_RawOp p_x))] [] (out_oH_Req p_x r).1 (out_oH_Req p_x r).2:=by
  unfold oH_Req at h
  exact spec_by nB AF11 h (.bd fun x1 q1=>Cb0 (s_oH_Pick (d+2) q1) <| .bd fun x2 q2=>Cb0 (s_oH_Pick (d+2) q2) <| .bd fun x3 q3=>Cb0 (s_oH_Op (d+0) q3) <| .st none <| .bd fun x4 q4=>Cb0 (s_oH_Pick (d+2) q4) <| .br 24 (fun _=>.bd fun x5 q5=>Cb0 (s_oH_Text (d+2) q5) <| .st none <| .st none <| Fn Fo [] none) fun _=>.br 31 (fun _=>.bd fun x6 q6=>Cb0 (s_oH_Text (d+2) q6) <| .st none <| .st none <| Fn Fo [] none) fun _=>.br 38 (fun _=>.bd fun x7 q7=>Cb0 (s_oH_Pick (d+2) q7) <| .st none <| .st none <| Fn Fo [] none) fun _=>.br 47 (fun _=>.bd fun x8 q8=>Cb0 (s_oH_Pick (d+2) q8) <| .st none <| .st none <| Fn Fo [] none) fun _=>.br 55 (fun _=>.bd fun x9 q9=>Cb0 (s_oH_Num (d+1) q9) <| .st none <| .st none <| Fn Fo [] none) fun _=>.br 62 (fun _=>.st none <| .st none <| Fn Fo [] none) fun _=>.st none <| Fn Fo [] none)
abbrev in_table_Right_J0 (o:api_Op):Fast × WH:=([(1,(.ptr (some (0,0))))],[(some (.cells (e_api_Op o) false false))])
def fin_table_Right_J0 (o:api_Op):Bool→Ex × Fast × WH:=fun e=>(.normal,[(1,(.ptr (some (0,0)))),(3,(.bool e))],[(some (.cells (e_api_Op o) false false))])
def table_Right_J0 (o:api_Op):Option (Bool) :=
  cond (o.Kind == 2) (some true) (some (o.Kind == 4))
theorem s_table_Right_J0 (d:Nat) {o:api_Op} {r:Bool} (h:table_Right_J0 o=some r):RunX (bexec (wcalls atab (d+0)) KK 53 WJ54_ba) 0 (in_table_Right_J0 o) (fin_table_Right_J0 o r):=by
  unfold table_Right_J0 at h
  exact run_by nB WJ54_ba_ok h (.br 7 (fun _=>E0 [1,3]) fun _=>E0 [1,3])
abbrev in_table_Right_J1 (o:api_Op) (x1:Bool):Fast × WH:=([(1,(.ptr (some (0,0)))),(3,(.bool x1))],[(some (.cells (e_api_Op o) false false))])
def fin_table_Right_J1 (o:api_Op) (x1:Bool):Bool→Ex × Fast × WH:=fun e=>(.normal,[(1,(.ptr (some (0,0)))),(3,(.bool x1)),(12,(.bool e))],[(some (.cells (e_api_Op o) false false))])
def table_Right_J1 (o:api_Op) (x1:Bool):Option (Bool) :=
  cond (decide (o.Kind < 1)) (some true) (some (decide (o.Kind > 4)))
theorem s_table_Right_J1 (d:Nat) {o:api_Op} {x1:Bool} {r:Bool} (h:table_Right_J1 o x1=some r):RunX (bexec (wcalls atab (d+0)) KK 53 WJ54_bbakaa) 0 (in_table_Right_J1 o x1) (fin_table_Right_J1 o x1 r):=by
  unfold table_Right_J1 at h
  exact run_by nB WJ54_bbakaa_ok h (.br 16 (fun _=>E0 [1,3,12]) fun _=>E0 [1,3,12])
abbrev in_table_Right_J2 (o:api_Op) (x1:Bool):Fast × WH:=([(1,(.ptr (some (0,0)))),(3,(.bool x1))],[(some (.cells (e_api_Op o) false false))])
def fin_table_Right_J2 (o:api_Op) (x1:Bool):Bool→Ex × Fast × WH:=fun e=>(.normal,[(1,(.ptr (some (0,0)))),(3,(.bool x1)),(12,(.bool e))],[(some (.cells (e_api_Op o) false false))])
def table_Right_J2 (o:api_Op) (x1:Bool):Option (Bool) :=
  (table_Right_J1 o x1).bind fun (x2:Bool)=>cond x2 (some true) (cond (o.Key == ([]:List UInt8)) (some true) (some (decide ((o.Key.length:Int) > 8))))
theorem s_table_Right_J2 (d:Nat) {o:api_Op} {x1:Bool} {r:Bool} (h:table_Right_J2 o x1=some r):RunX (bexec (wcalls atab (d+0)) KK 53 WJ54_bbaka) 0 (in_table_Right_J2 o x1) (fin_table_Right_J2 o x1 r):=by
  unfold table_Right_J2 at h
  exact run_by nB WJ54_bbaka_ok h (.bd fun x2 q2=>Jn [1,3] [none,none] [] [] (s_table_Right_J1 (d+0) q2) <| .br 12 (fun _=>E0 [1,3,12]) fun _=>.br 12 (fun _=>E0 [1,3,12]) fun _=>E0 [1,3,12])
abbrev in_table_Right_J3 (o:api_Op) (x1:Bool):Fast × WH:=([(1,(.ptr (some (0,0)))),(3,(.bool x1))],[(some (.cells (e_api_Op o) false false))])
def fin_table_Right_J3 (o:api_Op) (x1:Bool):Unit ⊕ Unit→Ex × Fast × WH:=fun
  | .inl e=>(.ret,[(2,(.bool false))],[])
  | .inr e=>(.normal,[(1,(.ptr (some (0,0)))),(3,(.bool x1))],[(some (.cells (e_api_Op o) false false))])
def table_Right_J3 (o:api_Op) (x1:Bool):Option (Unit ⊕ Unit) :=
  (table_Right_J2 o x1).bind fun (x3:Bool)=>cond x3 (some (.inl ())) (cond (decide ((o.Value.length:Int) > 16)) (some (.inl ())) (cond (decide ((o.Old.length:Int) > 16)) (some (.inl ())) (some (.inr ()))))
theorem s_table_Right_J3 (d:Nat) {o:api_Op} {x1:Bool} {r:Unit ⊕ Unit} (h:table_Right_J3 o x1=some r):RunX (bexec (wcalls atab (d+0)) KK 53 WJ54_bba) 0 (in_table_Right_J3 o x1) (fin_table_Right_J3 o x1 r):=by
  unfold table_Right_J3 at h
  exact run_by nB WJ54_bba_ok h (.bd fun x3 q3=>Jn [1,3] [none,none] [] [] (s_table_Right_J2 (d+0) q3) <| .br 12 (fun _=>E0 [2]) fun _=>.br 28 (fun _=>E0 [2]) fun _=>.br 28 (fun _=>E0 [2]) fun _=>E0 [1,3])
def table_Right (o:api_Op):Option (Bool) :=
  (table_Right_J0 o).bind fun (x1:Bool)=>(table_Right_J3 o x1).bind fun (x4:Unit ⊕ Unit)=>cond (isL x4) (some false) (cond x1 (cond (o.Kind == 4) (some true) (some (o.Old == ([]:List UInt8)))) (cond (o.Value == ([]:List UInt8)) (cond (o.Kind == 4) (some true) (some (o.Old == ([]:List UInt8)))) (some false)))
def out_table_Right (o:api_Op) (r:Bool):AV × WH:=((.bool r),[])
theorem s_table_Right (d:Nat) {o:api_Op} {r:Bool} (h:table_Right o=some r):Spec (wcalls atab (d+1)) 54 [(.agg (e_api_Op o))] [] (out_table_Right o r).1 (out_table_Right o r).2:=by
  unfold table_Right at h
  exact spec_by nB AF54 h (.sk <| .bd fun x1 q1=>Jn [1] [none] [] [] (s_table_Right_J0 (d+0) q1) <| .bd fun x4 q4=>.ite (fun hb5=>Jn [1,3] [none,none] [] [] (rwr (il hb5) (s_table_Right_J3 (d+0) q4)) <| Fn Fo [] none) fun hb5=>Jn [1,3] [none,none] [] [] (rwr (ir0 hb5) (s_table_Right_J3 (d+0) q4)) <| .br 38 (fun _=>.br 47 (fun _=>Fn Fo [] none) fun _=>Fn Fo [] none) fun _=>.br 43 (fun _=>.br 47 (fun _=>Fn Fo [] none) fun _=>Fn Fo [] none) fun _=>Fn Fo [] none)
def codec_RightReq (p_r:api_Req):Option (Bool) :=
  cond (p_r.Client == 0 && (p_r.Seq == 0 && (p_r.Op.Kind == 0 && (p_r.Op.Key == ([]:List UInt8) && (p_r.Op.Value == ([]:List UInt8) && (p_r.Op.Old == ([]:List UInt8) && true)))))) (some true) (cond (decide (p_r.Client ≥ 0)) (cond (decide (p_r.Client < 4)) (cond (decide (p_r.Seq ≥ 1)) (cond (decide (p_r.Seq≤4611686018427387903)) ((table_Right p_r.Op).bind fun (x1:Bool)=>some x1) (some false)) (some false)) (some false)) (some false))
def out_codec_RightReq (p_r:api_Req) (r:Bool):AV × WH:=((.bool r),[])
theorem s_codec_RightReq (d:Nat) {p_r:api_Req} {r:Bool} (h:codec_RightReq p_r=some r):Spec (wcalls atab (d+2)) 18 [(.agg (e_api_Req p_r))] [] (out_codec_RightReq p_r r).1 (out_codec_RightReq p_r r).2:=by
  unfold codec_RightReq at h
  exact spec_by nB AF18 h (.br 5 (fun _=>Fn Fo [] none) fun _=>.br 9 (fun _=>.br 14 (fun _=>.br 19 (fun _=>.br 24 (fun _=>.bd fun x1 q1=>Cb0 (s_table_Right (d+0) q1) <| Fn Fo [] none) fun _=>Fn Fo [] none) fun _=>Fn Fo [] none) fun _=>Fn Fo [] none) fun _=>Fn Fo [] none)
abbrev in_nums_Put_J0 (x11:Int) (s10:Int × List UInt8) (n:List Int):Fast × WH:=([(5,(.acc 0 0 1 s10.2.length true)),(7,(.int .i64 x11)),(10,(l_I n)),(11,(.int .i64 (n.length:Int))),(12,(.int .i64 s10.1))],[(some (.cells (F_B s10.2) false true))])
def fin_nums_Put_J0 (x11:Int) (s10:Int × List UInt8) (n:List Int):Unit ⊕ Unit→Ex × Fast × WH:=fun
  | .inl e=>(.ret,[(4,(.slice none 1 0 0 true))],[])
  | .inr e=>(.normal,[(5,(.acc 0 0 1 s10.2.length true)),(7,(.int .i64 x11)),(10,(l_I n)),(11,(.int .i64 (n.length:Int))),(12,(.int .i64 s10.1))],[(some (.cells (F_B s10.2) false true))])
def nums_Put_J0 (x11:Int) (s10:Int × List UInt8) (n:List Int):Option (Unit ⊕ Unit) :=
  cond (decide (x11 < 0)) (some (.inl ())) (cond (decide (x11 > 4611686018427387903)) (some (.inl ())) (some (.inr ())))
theorem s_nums_Put_J0 (d:Nat) {x11:Int} {s10:Int × List UInt8} {n:List Int} {r:Unit ⊕ Unit} (h:nums_Put_J0 x11 s10 n=some r):RunX (bexec (wcalls atab (d+0)) KK 41 WJ49_bbabklbbakba) 0 (in_nums_Put_J0 x11 s10 n) (fin_nums_Put_J0 x11 s10 n r):=by
  unfold nums_Put_J0 at h
  exact run_by nB WJ49_bbabklbbakba_ok h (.br 18 (fun _=>E0 [4]) fun _=>.br 21 (fun _=>E0 [4]) fun _=>E0 [5,7,10,11,12])
def st_nums_Put_L1 (n:List Int) (s10:Int × List UInt8) (s15:Int × List UInt8):List AV × WH:=([(.acc 0 0 1 s15.2.length true),(.int .i64 s15.1),(l_I n),(.int .i64 (n.length:Int)),(.int .i64 s10.1)],[(some (.cells (F_B s15.2) false true))])
def fin_nums_Put_L1 (n:List Int) (s10:Int × List UInt8):(Int × List UInt8)→Ex × Fast × WH:=fun e=>((.exit 2),[(5,(.acc 0 0 1 e.2.length true)),(7,(.int .i64 e.1)),(10,(l_I n)),(11,(.int .i64 (n.length:Int))),(12,(.int .i64 s10.1))],[(some (.cells (F_B e.2) false true))])
abbrev rx_nums_Put_L1 (n:List Int) (s10:Int × List UInt8):=roundX [5,7,10,11,12] (st_nums_Put_L1 n s10) (fin_nums_Put_L1 n s10)
def nums_Put_L1_s (n:List Int) (s10:Int × List UInt8) (s15:Int × List UInt8):Option ((Int × List UInt8) ⊕ ((Int × List UInt8))) :=
  cond (decide (s15.1 > 127)) (gd (fitsB 1 (s15.2 ++ [(u8w (orI .i64 (andI .i64 s15.1 127) 128))]).length) (some (.inl ((shrV .i64 s15.1 7),(s15.2 ++ [(u8w (orI .i64 (andI .i64 s15.1 127) 128))]))))) (some (.inr (s15.1,s15.2)))
def nums_Put_L1 (n:List Int) (s10:Int × List UInt8) (s15:Int × List UInt8):Option ((Int × List UInt8)):=loopX (nums_Put_L1_s n s10) KK s15
theorem b_nums_Put_L1 (d:Nat) {n:List Int} {s10:Int × List UInt8} {s15:Int × List UInt8} {r:(Int × List UInt8) ⊕ ((Int × List UInt8))} (h:nums_Put_L1_s n s10 s15=some r):RunX (bexec (wcalls atab (d+0)) KK 41 WB49_1) 0 (inL [5,7,10,11,12] (st_nums_Put_L1 n s10 s15)) (rx_nums_Put_L1 n s10 r):=by
  unfold nums_Put_L1_s at h
  exact run_by nB WB49_1_ok h (.br 23 (fun _=>.v 28 (.int .u8 ((u8w (orI .i64 (andI .i64 s15.1 127) 128)).toNat:Int)) <| .ob (u8_w _:@Eq (Option AV) (some (.int .u8 (IntKind.u8.wrap (orI .i64 (andI .i64 s15.1 127) 128)))) (some (.int .u8 ((u8w (orI .i64 (andI .i64 s15.1 127) 128)).toNat:Int)))) <| .gd fun q16=>Ap R_B 30 q16 <| E0 [5,7,10,11,12]) fun _=>E0 [5,7,10,11,12])
theorem s_nums_Put_L1 (d:Nat) {n:List Int} {s10:Int × List UInt8} {s15:Int × List UInt8} {r:(Int × List UInt8)} (h:nums_Put_L1 n s10 s15=some r):RunX (bloop (bexec (wcalls atab (d+0)) KK 41 WB49_1) [5,7,10,11,12] KK) 0 (inL [5,7,10,11,12] (st_nums_Put_L1 n s10 s15)) (fin_nums_Put_L1 n s10 r) :=
  loop_of (st:=st_nums_Put_L1 n s10) (fin:=fin_nums_Put_L1 n s10) (step:=nums_Put_L1_s n s10) (fun e=>by (intro h; cases h)) (fun s x h=>b_nums_Put_L1 d h) KK s15 r h
def st_nums_Put_L2 (n:List Int) (s10:Int × List UInt8):List AV × WH:=([(.acc 0 0 1 s10.2.length true),(l_I n),(.int .i64 (n.length:Int)),(.int .i64 s10.1)],[(some (.cells (F_B s10.2) false true))])
def fin_nums_Put_L2 (n:List Int):Unit ⊕ (List UInt8)→Ex × Fast × WH:=fun
  | .inl e=>(.ret,[(4,(.slice none 1 0 0 true))],[])
  | .inr e=>((.exit 0),[(5,(.acc 0 0 1 e.length true))],[(some (.cells (F_B e) false true))])
abbrev rx_nums_Put_L2 (n:List Int):=roundX [5,10,11,12] (st_nums_Put_L2 n) (fin_nums_Put_L2 n)
def nums_Put_L2_s (n:List Int) (s10:Int × List UInt8):Option ((Int × List UInt8) ⊕ (Unit ⊕ (List UInt8))) :=
  cond (decide (s10.1 < (n.length:Int))) ((getI n s10.1).bind fun (x11:Int)=>(nums_Put_J0 x11 s10 n).bind fun (x12:Unit ⊕ Unit)=>cond (isL x12) (some (.inr (.inl ()))) ((nums_Put_L1 n s10 (x11,s10.2)).bind fun (x17:(Int × List UInt8))=>gd (fitsB 1 (x17.2 ++ [(u8w x17.1)]).length) (some (.inl ((IntKind.i64.wrap (s10.1+1)),(x17.2 ++ [(u8w x17.1)])))))) (some (.inr (.inr s10.2)))
def nums_Put_L2 (n:List Int) (s10:Int × List UInt8):Option (Unit ⊕ (List UInt8)):=loopX (nums_Put_L2_s n) KK s10
theorem b_nums_Put_L2 (d:Nat) {n:List Int} {s10:Int × List UInt8} {r:(Int × List UInt8) ⊕ (Unit ⊕ (List UInt8))} (h:nums_Put_L2_s n s10=some r):RunX (bexec (wcalls atab (d+0)) KK 41 WB49_0) 0 (inL [5,10,11,12] (st_nums_Put_L2 n s10)) (rx_nums_Put_L2 n r):=by
  unfold nums_Put_L2_s at h
  exact run_by nB WB49_0_ok h (.br 13 (fun _=>.bd fun x11 q11=>Ix R_I 14 q11 <| .bd fun x12 q12=>.ite (fun hb13=>Jn [5,7,10,11,12] [none,none,none,none,none] [] [] (rwr (il hb13) (s_nums_Put_J0 (d+0) q12)) <| E0 [4]) fun hb13=>Jn [5,7,10,11,12] [none,none,none,none,none] [] [] (rwr (ir0 hb13) (s_nums_Put_J0 (d+0) q12)) <| .bd fun x17 q17=>Lp [none,none,none,none,none] [] [] (s_nums_Put_L1 (d+0) q17) <| .v 35 (.int .u8 ((u8w x17.1).toNat:Int)) <| .ob (u8_w _:@Eq (Option AV) (some (.int .u8 (IntKind.u8.wrap x17.1))) (some (.int .u8 ((u8w x17.1).toNat:Int)))) <| .gd fun q18=>Ap R_B 37 q18 <| E0 [5,10,11,12]) fun _=>E0 [5])
theorem s_nums_Put_L2 (d:Nat) {n:List Int} {s10:Int × List UInt8} {r:Unit ⊕ (List UInt8)} (h:nums_Put_L2 n s10=some r):RunX (bloop (bexec (wcalls atab (d+0)) KK 41 WB49_0) [5,10,11,12] KK) 0 (inL [5,10,11,12] (st_nums_Put_L2 n s10)) (fin_nums_Put_L2 n r) :=
  loop_of (st:=st_nums_Put_L2 n) (fin:=fin_nums_Put_L2 n) (step:=nums_Put_L2_s n) (fun e=>by rcases e with e | e <;> (intro h; cases h)) (fun s x h=>b_nums_Put_L2 d h) KK s10 r h
def nums_Put (p_b:List UInt8) (n:List Int):Option (List UInt8) :=
  gd (fitsB 1 p_b.length) ((nums_Put_L2 n (0,p_b)).bind fun (x19:Unit ⊕ (List UInt8))=>cond (isL x19) (some []) (some (getR x19)))
def out_nums_Put (p_b:List UInt8) (n:List Int) (r:List UInt8):AV × WH:=((l_B r),[])
theorem s_nums_Put (d:Nat) {p_b:List UInt8} {n:List Int} {r:List UInt8} (h:nums_Put p_b n=some r):Spec (wcalls atab (d+2)) 49 [(l_B p_b),(l_I n)] [] (out_nums_Put p_b n r).1 (out_nums_Put p_b n r).2:=by
  unfold nums_Put at h
  exact spec_by (wB_ok _) AF49 h (.gd fun q1=>.ob q1 <| .bd fun x19 q19=>.ite (fun hb20=>Lp [none,none,none,none] [] [] (rwr (il hb20) (s_nums_Put_L2 (d+1) q19)) <| Fn Fo [] none) fun hb20=>Lp [none,none,none,none] [] [] (rwr (ir0 hb20) (s_nums_Put_L2 (d+1) q19)) <| Fn Fo [] none)
abbrev in_nums_Put_3_J0 (x11:Int) (s10:Int × List UInt8) (n:List Int):Fast × WH:=([(5,(.acc 0 0 1 s10.2.length true)),(7,(.int .i64 x11)),(10,(l_I n)),(11,(.int .i64 (n.length:Int))),(12,(.int .i64 s10.1))],[(some (.cells (F_B s10.2) false true))])
def fin_nums_Put_3_J0 (x11:Int) (s10:Int × List UInt8) (n:List Int):Unit ⊕ Unit→Ex × Fast × WH:=fun
  | .inl e=>(.ret,[(4,(.slice none 1 0 0 true))],[])
  | .inr e=>(.normal,[(5,(.acc 0 0 1 s10.2.length true)),(7,(.int .i64 x11)),(10,(l_I n)),(11,(.int .i64 (n.length:Int))),(12,(.int .i64 s10.1))],[(some (.cells (F_B s10.2) false true))])
def nums_Put_3_J0 (x11:Int) (s10:Int × List UInt8) (n:List Int):Option (Unit ⊕ Unit) :=
  cond (decide (x11 < 0)) (some (.inl ())) (cond (decide (x11 > 4611686018427387903)) (some (.inl ())) (some (.inr ())))
theorem s_nums_Put_3_J0 (d:Nat) {x11:Int} {s10:Int × List UInt8} {n:List Int} {r:Unit ⊕ Unit} (h:nums_Put_3_J0 x11 s10 n=some r):RunX (bexec (wcalls atab (d+0)) KK 41 WJ49_bbabklbbakba) 0 (in_nums_Put_3_J0 x11 s10 n) (fin_nums_Put_3_J0 x11 s10 n r):=by
  unfold nums_Put_3_J0 at h
  exact run_by nB WJ49_bbabklbbakba_ok h (.br 18 (fun _=>E0 [4]) fun _=>.br 21 (fun _=>E0 [4]) fun _=>E0 [5,7,10,11,12])
def st_nums_Put_3_L1 (n:List Int) (s10:Int × List UInt8) (s15:Int × List UInt8):List AV × WH:=([(.acc 0 0 1 s15.2.length true),(.int .i64 s15.1),(l_I n),(.int .i64 (n.length:Int)),(.int .i64 s10.1)],[(some (.cells (F_B s15.2) false true))])
def fin_nums_Put_3_L1 (n:List Int) (s10:Int × List UInt8):(Int × List UInt8)→Ex × Fast × WH:=fun e=>((.exit 2),[(5,(.acc 0 0 1 e.2.length true)),(7,(.int .i64 e.1)),(10,(l_I n)),(11,(.int .i64 (n.length:Int))),(12,(.int .i64 s10.1))],[(some (.cells (F_B e.2) false true))])
abbrev rx_nums_Put_3_L1 (n:List Int) (s10:Int × List UInt8):=roundX [5,7,10,11,12] (st_nums_Put_3_L1 n s10) (fin_nums_Put_3_L1 n s10)
def nums_Put_3_L1_s (n:List Int) (s10:Int × List UInt8) (s15:Int × List UInt8):Option ((Int × List UInt8) ⊕ ((Int × List UInt8))) :=
  cond (decide (s15.1 > 127)) (gd (fitsB 1 (s15.2 ++ [(u8w (orI .i64 (andI .i64 s15.1 127) 128))]).length) (some (.inl ((shrV .i64 s15.1 7),(s15.2 ++ [(u8w (orI .i64 (andI .i64 s15.1 127) 128))]))))) (some (.inr (s15.1,s15.2)))
def nums_Put_3_L1 (n:List Int) (s10:Int × List UInt8) (s15:Int × List UInt8):Option ((Int × List UInt8)):=loopX (nums_Put_3_L1_s n s10) KK s15
theorem b_nums_Put_3_L1 (d:Nat) {n:List Int} {s10:Int × List UInt8} {s15:Int × List UInt8} {r:(Int × List UInt8) ⊕ ((Int × List UInt8))} (h:nums_Put_3_L1_s n s10 s15=some r):RunX (bexec (wcalls atab (d+0)) KK 41 WB49_1) 0 (inL [5,7,10,11,12] (st_nums_Put_3_L1 n s10 s15)) (rx_nums_Put_3_L1 n s10 r):=by
  unfold nums_Put_3_L1_s at h
  exact run_by nB WB49_1_ok h (.br 23 (fun _=>.v 28 (.int .u8 ((u8w (orI .i64 (andI .i64 s15.1 127) 128)).toNat:Int)) <| .ob (u8_w _:@Eq (Option AV) (some (.int .u8 (IntKind.u8.wrap (orI .i64 (andI .i64 s15.1 127) 128)))) (some (.int .u8 ((u8w (orI .i64 (andI .i64 s15.1 127) 128)).toNat:Int)))) <| .gd fun q16=>Ap R_B 30 q16 <| E0 [5,7,10,11,12]) fun _=>E0 [5,7,10,11,12])
theorem s_nums_Put_3_L1 (d:Nat) {n:List Int} {s10:Int × List UInt8} {s15:Int × List UInt8} {r:(Int × List UInt8)} (h:nums_Put_3_L1 n s10 s15=some r):RunX (bloop (bexec (wcalls atab (d+0)) KK 41 WB49_1) [5,7,10,11,12] KK) 0 (inL [5,7,10,11,12] (st_nums_Put_3_L1 n s10 s15)) (fin_nums_Put_3_L1 n s10 r) :=
  loop_of (st:=st_nums_Put_3_L1 n s10) (fin:=fin_nums_Put_3_L1 n s10) (step:=nums_Put_3_L1_s n s10) (fun e=>by (intro h; cases h)) (fun s x h=>b_nums_Put_3_L1 d h) KK s15 r h
def st_nums_Put_3_L2 (n:List Int) (s10:Int × List UInt8):List AV × WH:=([(.acc 0 0 1 s10.2.length true),(l_I n),(.int .i64 (n.length:Int)),(.int .i64 s10.1)],[(some (.cells (F_B s10.2) false true))])
def fin_nums_Put_3_L2 (n:List Int):Unit ⊕ (List UInt8)→Ex × Fast × WH:=fun
  | .inl e=>(.ret,[(4,(.slice none 1 0 0 true))],[])
  | .inr e=>((.exit 0),[(5,(.acc 0 0 1 e.length true))],[(some (.cells (F_B e) false true))])
abbrev rx_nums_Put_3_L2 (n:List Int):=roundX [5,10,11,12] (st_nums_Put_3_L2 n) (fin_nums_Put_3_L2 n)
def nums_Put_3_L2_s (n:List Int) (s10:Int × List UInt8):Option ((Int × List UInt8) ⊕ (Unit ⊕ (List UInt8))) :=
  cond (decide (s10.1 < (n.length:Int))) ((getI n s10.1).bind fun (x11:Int)=>(nums_Put_3_J0 x11 s10 n).bind fun (x12:Unit ⊕ Unit)=>cond (isL x12) (some (.inr (.inl ()))) ((nums_Put_3_L1 n s10 (x11,s10.2)).bind fun (x17:(Int × List UInt8))=>gd (fitsB 1 (x17.2 ++ [(u8w x17.1)]).length) (some (.inl ((IntKind.i64.wrap (s10.1+1)),(x17.2 ++ [(u8w x17.1)])))))) (some (.inr (.inr s10.2)))
def nums_Put_3_L2 (n:List Int) (s10:Int × List UInt8):Option (Unit ⊕ (List UInt8)):=loopX (nums_Put_3_L2_s n) KK s10
theorem b_nums_Put_3_L2 (d:Nat) {n:List Int} {s10:Int × List UInt8} {r:(Int × List UInt8) ⊕ (Unit ⊕ (List UInt8))} (h:nums_Put_3_L2_s n s10=some r):RunX (bexec (wcalls atab (d+0)) KK 41 WB49_0) 0 (inL [5,10,11,12] (st_nums_Put_3_L2 n s10)) (rx_nums_Put_3_L2 n r):=by
  unfold nums_Put_3_L2_s at h
  exact run_by nB WB49_0_ok h (.br 13 (fun _=>.bd fun x11 q11=>Ix R_I 14 q11 <| .bd fun x12 q12=>.ite (fun hb13=>Jn [5,7,10,11,12] [none,none,none,none,none] [] [] (rwr (il hb13) (s_nums_Put_3_J0 (d+0) q12)) <| E0 [4]) fun hb13=>Jn [5,7,10,11,12] [none,none,none,none,none] [] [] (rwr (ir0 hb13) (s_nums_Put_3_J0 (d+0) q12)) <| .bd fun x17 q17=>Lp [none,none,none,none,none] [] [] (s_nums_Put_3_L1 (d+0) q17) <| .v 35 (.int .u8 ((u8w x17.1).toNat:Int)) <| .ob (u8_w _:@Eq (Option AV) (some (.int .u8 (IntKind.u8.wrap x17.1))) (some (.int .u8 ((u8w x17.1).toNat:Int)))) <| .gd fun q18=>Ap R_B 37 q18 <| E0 [5,10,11,12]) fun _=>E0 [5])
theorem s_nums_Put_3_L2 (d:Nat) {n:List Int} {s10:Int × List UInt8} {r:Unit ⊕ (List UInt8)} (h:nums_Put_3_L2 n s10=some r):RunX (bloop (bexec (wcalls atab (d+0)) KK 41 WB49_0) [5,10,11,12] KK) 0 (inL [5,10,11,12] (st_nums_Put_3_L2 n s10)) (fin_nums_Put_3_L2 n r) :=
  loop_of (st:=st_nums_Put_3_L2 n) (fin:=fin_nums_Put_3_L2 n) (step:=nums_Put_3_L2_s n) (fun e=>by rcases e with e | e <;> (intro h; cases h)) (fun s x h=>b_nums_Put_3_L2 d h) KK s10 r h
def nums_Put_3 (p_b:List UInt8) (n:List Int):Option (List UInt8) :=
  gd (fitsB 1 p_b.length) ((nums_Put_3_L2 n (0,p_b)).bind fun (x19:Unit ⊕ (List UInt8))=>cond (isL x19) (some []) (some (getR x19)))
def out_nums_Put_3 (p_b:List UInt8) (n:List Int) (r:List UInt8):AV × WH:=((.acc 0 0 1 r.length true),[(some (.cells (F_B r) false true))])
theorem s_nums_Put_3 (d:Nat) {p_b:List UInt8} {n:List Int} {r:List UInt8} (h:nums_Put_3 p_b n=some r):Spec (wcalls atab (d+2)) 49 [(l_B p_b),(l_I n)] [] (out_nums_Put_3 p_b n r).1 (out_nums_Put_3 p_b n r).2:=by
  unfold nums_Put_3 at h
  exact spec_by (wB_ok _) AF49 h (.gd fun q1=>.ob q1 <| .bd fun x19 q19=>.ite (fun hb20=>Lp [none,none,none,none] [] [] (rwr (il hb20) (s_nums_Put_3_L2 (d+1) q19)) <| .leafq (.fin (some true) [] none) _ (fun r=>@Eq AV (.acc 0 0 1 0 true) (out_nums_Put_3 p_b n r).1∧@Eq WH [(some (.cells (F_B []) false true))] (out_nums_Put_3 p_b n r).2) (by show _∧_; refine ⟨?_, ?_⟩ <;> first | rfl | (simp only [out_nums_Put_3,List.length_set,List.length_append,List.length_replicate,List.length_cons,List.length_nil,List.length_take,List.length_drop,Nat.add_zero,Nat.zero_add]; done) | simp [out_nums_Put_3])) fun hb20=>Lp [none,none,none,none] [] [] (rwr (ir0 hb20) (s_nums_Put_3_L2 (d+1) q19)) <| Fn Tw [] none)
def st_nums_Text_L0 (p_s:List (List UInt8)) (s5:Int × List UInt8):List AV × WH:=([(.acc 0 0 1 s5.2.length true),(l_S p_s),(.int .i64 (p_s.length:Int)),(.int .i64 s5.1)],[(some (.cells (F_B s5.2) false true))])
def fin_nums_Text_L0 (p_s:List (List UInt8)):(List UInt8)→Ex × Fast × WH:=fun e=>((.exit 0),[(5,(.acc 0 0 1 e.length true))],[(some (.cells (F_B e) false true))])
abbrev rx_nums_Text_L0 (p_s:List (List UInt8)):=roundX [5,10,11,12] (st_nums_Text_L0 p_s) (fin_nums_Text_L0 p_s)
def nums_Text_L0_s (p_s:List (List UInt8)) (s5:Int × List UInt8):Option ((Int × List UInt8) ⊕ ((List UInt8))) :=
  cond (decide (s5.1 < (p_s.length:Int))) ((getI p_s s5.1).bind fun (x6:List UInt8)=>(nums_Put_3 s5.2 ([(x6.length:Int)])).bind fun (x7:List UInt8)=>gd (fitsB 1 (x7 ++ x6).length) (some (.inl ((IntKind.i64.wrap (s5.1+1)),(x7 ++ x6))))) (some (.inr s5.2))
def nums_Text_L0 (p_s:List (List UInt8)) (s5:Int × List UInt8):Option ((List UInt8)):=loopX (nums_Text_L0_s p_s) KK s5
theorem b_nums_Text_L0 (d:Nat) {p_s:List (List UInt8)} {s5:Int × List UInt8} {r:(Int × List UInt8) ⊕ ((List UInt8))} (h:nums_Text_L0_s p_s s5=some r):RunX (bexec (wcalls atab (d+2)) KK 26 WB48_0) 0 (inL [5,10,11,12] (st_nums_Text_L0 p_s s5)) (rx_nums_Text_L0 p_s r):=by
  unfold nums_Text_L0_s at h
  exact run_by nB WB48_0_ok h (.br 13 (fun _=>.bd fun x6 q6=>Ix R_S 14 q6 <| .bd fun x7 q7=>Cl [] Fo [] (s_nums_Put_3 (d+0) q7) <| .gd fun q8=>Ap R_B 22 q8 <| E0 [5,10,11,12]) fun _=>E0 [5])
theorem s_nums_Text_L0 (d:Nat) {p_s:List (List UInt8)} {s5:Int × List UInt8} {r:(List UInt8)} (h:nums_Text_L0 p_s s5=some r):RunX (bloop (bexec (wcalls atab (d+2)) KK 26 WB48_0) [5,10,11,12] KK) 0 (inL [5,10,11,12] (st_nums_Text_L0 p_s s5)) (fin_nums_Text_L0 p_s r) :=
  loop_of (st:=st_nums_Text_L0 p_s) (fin:=fin_nums_Text_L0 p_s) (step:=nums_Text_L0_s p_s) (fun e=>by (intro h; cases h)) (fun s x h=>b_nums_Text_L0 d h) KK s5 r h
def nums_Text (p_b:List UInt8) (p_s:List (List UInt8)):Option (List UInt8) :=
  gd (fitsB 1 p_b.length) ((nums_Text_L0 p_s (0,p_b)).bind fun (x9:(List UInt8))=>some x9)
def out_nums_Text (p_b:List UInt8) (p_s:List (List UInt8)) (r:List UInt8):AV × WH:=((l_B r),[])
theorem s_nums_Text (d:Nat) {p_b:List UInt8} {p_s:List (List UInt8)} {r:List UInt8} (h:nums_Text p_b p_s=some r):Spec (wcalls atab (d+3)) 48 [(l_B p_b),(l_S p_s)] [] (out_nums_Text p_b p_s r).1 (out_nums_Text p_b p_s r).2:=by
  unfold nums_Text at h
  exact spec_by (wB_ok _) AF48 h (.gd fun q1=>.ob q1 <| .bd fun x9 q9=>Lp [none,none,none,none] [] [] (s_nums_Text_L0 (d+0) q9) <| Fn Fo [] none)
def codec_LayReq (p_b:List UInt8) (p_r:api_Req):Option (List UInt8) :=
  (codec_RightReq p_r).bind fun (x1:Bool)=>cond (!x1) (some []) ((nums_Put p_b ([p_r.Client,p_r.Seq,p_r.Op.Kind])).bind fun (x2:List UInt8)=>(nums_Text x2 ([p_r.Op.Key,p_r.Op.Value,p_r.Op.Old])).bind fun (x3:List UInt8)=>some x3)
def out_codec_LayReq (p_b:List UInt8) (p_r:api_Req) (r:List UInt8):AV × WH:=((l_B r),[])
theorem s_codec_LayReq (d:Nat) {p_b:List UInt8} {p_r:api_Req} {r:List UInt8} (h:codec_LayReq p_b p_r=some r):Spec (wcalls atab (d+4)) 12 [(l_B p_b),(.agg (e_api_Req p_r))] [] (out_codec_LayReq p_b p_r r).1 (out_codec_LayReq p_b p_r r).2:=by
  unfold codec_LayReq at h
  exact spec_by nB AF12 h (.bd fun x1 q1=>Cb0 (s_codec_RightReq (d+1) q1) <| .br 7 (fun _=>Fn Fo [] none) fun _=>.bd fun x2 q2=>Cl [] Fo [] (s_nums_Put (d+1) q2) <| .bd fun x3 q3=>Cl [] Fo [] (s_nums_Text (d+0) q3) <| Fn Fo [] none)
abbrev in_oR_RightOp_J0 (o:api_Op):Fast × WH:=([(1,(.ptr (some (0,0))))],[(some (.cells (e_api_Op o) false false))])
def fin_oR_RightOp_J0 (o:api_Op):Unit ⊕ Unit→Ex × Fast × WH:=fun
  | .inl e=>(.ret,[(2,(.bool false))],[])
  | .inr e=>(.normal,[(1,(.ptr (some (0,0))))],[(some (.cells (e_api_Op o) false false))])
def oR_RightOp_J0 (o:api_Op):Option (Unit ⊕ Unit) :=
  cond (decide (o.Kind < 1)) (some (.inl ())) (cond (decide (o.Kind > 4)) (some (.inl ())) (cond (decide ((o.Key.length:Int) < 1)) (some (.inl ())) (cond (decide ((o.Key.length:Int) > 8)) (some (.inl ())) (cond (decide ((o.Value.length:Int) > 16)) (some (.inl ())) (cond (decide ((o.Old.length:Int) > 16)) (some (.inl ())) (some (.inr ())))))))
theorem s_oR_RightOp_J0 (d:Nat) {o:api_Op} {r:Unit ⊕ Unit} (h:oR_RightOp_J0 o=some r):RunX (bexec (wcalls atab (d+0)) KK 58 WJ112_ba) 0 (in_oR_RightOp_J0 o) (fin_oR_RightOp_J0 o r):=by
  unfold oR_RightOp_J0 at h
  exact run_by nB WJ112_ba_ok h (.br 6 (fun _=>E0 [2]) fun _=>.br 11 (fun _=>E0 [2]) fun _=>.br 17 (fun _=>E0 [2]) fun _=>.br 23 (fun _=>E0 [2]) fun _=>.br 29 (fun _=>E0 [2]) fun _=>.br 34 (fun _=>E0 [2]) fun _=>E0 [1])
def oR_RightOp (o:api_Op):Option (Bool) :=
  (oR_RightOp_J0 o).bind fun (x1:Unit ⊕ Unit)=>cond (isL x1) (some false) (cond (o.Value == ([]:List UInt8)) (cond (o.Old == ([]:List UInt8)) (some true) (some (o.Kind == 4))) (cond (o.Kind == 2) (cond (o.Old == ([]:List UInt8)) (some true) (some (o.Kind == 4))) (cond (o.Kind == 4) (cond (o.Old == ([]:List UInt8)) (some true) (some (o.Kind == 4))) (some false))))
def out_oR_RightOp (o:api_Op) (r:Bool):AV × WH:=((.bool r),[])
theorem s_oR_RightOp (d:Nat) {o:api_Op} {r:Bool} (h:oR_RightOp o=some r):Spec (wcalls atab (d+1)) 112 [(.agg (e_api_Op o))] [] (out_oR_RightOp o r).1 (out_oR_RightOp o r).2:=by
  unfold oR_RightOp at h
  exact spec_by nB AF112 h (.sk <| .bd fun x1 q1=>.ite (fun hb2=>Jn [1] [none] [] [] (rwr (il hb2) (s_oR_RightOp_J0 (d+0) q1)) <| Fn Fo [] none) fun hb2=>Jn [1] [none] [] [] (rwr (ir0 hb2) (s_oR_RightOp_J0 (d+0) q1)) <| .br 38 (fun _=>.br 52 (fun _=>Fn Fo [] none) fun _=>Fn Fo [] none) fun _=>.br 43 (fun _=>.br 52 (fun _=>Fn Fo [] none) fun _=>Fn Fo [] none) fun _=>.br 48 (fun _=>.br 52 (fun _=>Fn Fo [] none) fun _=>Fn Fo [] none) fun _=>Fn Fo [] none)
def st_oR_Table_find_2_L0 (p_b1:List api_Pair) (key:List UInt8) (s3:Int):List AV × WH:=([(.ptr (some (0,0))),(.str key),(.int .i64 s3)],[(some (.cells [(.acc 1 0 2 p_b1.length true)] false false)),(some (.cells (F_api_Pair p_b1) false true))])
def fin_oR_Table_find_2_L0 (p_b1:List api_Pair) (key:List UInt8):(Int × Bool) ⊕ Unit→Ex × Fast × WH:=fun
  | .inl e=>(.ret,[(4,(.int .i64 e.1)),(5,(.bool e.2))],[(some (.cells [(.acc 1 0 2 p_b1.length true)] false false)),(some (.cells (F_api_Pair p_b1) false true))])
  | .inr e=>((.exit 0),[(0,(.ptr (some (0,0))))],[(some (.cells [(.acc 1 0 2 p_b1.length true)] false false)),(some (.cells (F_api_Pair p_b1) false true))])
abbrev rx_oR_Table_find_2_L0 (p_b1:List api_Pair) (key:List UInt8):=roundX [0,1,6] (st_oR_Table_find_2_L0 p_b1 key) (fin_oR_Table_find_2_L0 p_b1 key)
def oR_Table_find_2_L0_s (p_b1:List api_Pair) (key:List UInt8) (s3:Int):Option ((Int) ⊕ ((Int × Bool) ⊕ Unit)) :=
  cond (decide (s3 < (p_b1.length:Int))) ((getI p_b1 s3).bind fun (x4:api_Pair)=>cond (!(Op.bytesLess x4.Key key)) ((getI p_b1 s3).bind fun (x5:api_Pair)=>some (.inr (.inl (s3,(x5.Key == key))))) (some (.inl (IntKind.i64.wrap (s3+1))))) (some (.inr (.inr ())))
def oR_Table_find_2_L0 (p_b1:List api_Pair) (key:List UInt8) (s3:Int):Option ((Int × Bool) ⊕ Unit):=loopX (oR_Table_find_2_L0_s p_b1 key) KK s3
theorem b_oR_Table_find_2_L0 (d:Nat) {p_b1:List api_Pair} {key:List UInt8} {s3:Int} {r:(Int) ⊕ ((Int × Bool) ⊕ Unit)} (h:oR_Table_find_2_L0_s p_b1 key s3=some r):RunX (bexec (wcalls atab (d+0)) KK 42 WB113_0) 2 (inL [0,1,6] (st_oR_Table_find_2_L0 p_b1 key s3)) (rx_oR_Table_find_2_L0 p_b1 key r):=by
  unfold oR_Table_find_2_L0_s at h
  exact run_by nB WB113_0_ok h (.br 13 (fun _=>.bd fun x4 q4=>Ia R_api_Pair 21 1 q4 <| Ld R_api_Pair 23 false 1 0 q4 (.str x4.Key) rfl <| .br 25 (fun _=>.bd fun x5 q5=>Ia R_api_Pair 32 1 q5 <| Ld R_api_Pair 34 false 1 0 q5 (.str x5.Key) rfl <| E0 [4,5]) fun _=>E0 [0,1,6]) fun _=>E0 [0])
theorem s_oR_Table_find_2_L0 (d:Nat) {p_b1:List api_Pair} {key:List UInt8} {s3:Int} {r:(Int × Bool) ⊕ Unit} (h:oR_Table_find_2_L0 p_b1 key s3=some r):RunX (bloop (bexec (wcalls atab (d+0)) KK 42 WB113_0) [0,1,6] KK) 2 (inL [0,1,6] (st_oR_Table_find_2_L0 p_b1 key s3)) (fin_oR_Table_find_2_L0 p_b1 key r) :=
  loop_of (st:=st_oR_Table_find_2_L0 p_b1 key) (fin:=fin_oR_Table_find_2_L0 p_b1 key) (step:=oR_Table_find_2_L0_s p_b1 key) (fun e=>by rcases e with e | e <;> (intro h; cases h)) (fun s x h=>b_oR_Table_find_2_L0 d h) KK s3 r h
def oR_Table_find_2 (key:List UInt8) (p_b1:List api_Pair):Option (Int × Bool) :=
  (oR_Table_find_2_L0 p_b1 key 0).bind fun (x6:(Int × Bool) ⊕ Unit)=>cond (isL x6) (some ((getL x6).1,(getL x6).2)) (some ((p_b1.length:Int),false))
def out_oR_Table_find_2 (key:List UInt8) (p_b1:List api_Pair) (r:Int × Bool):AV × WH:=((.tuple [(.int .i64 r.1),(.bool r.2)]),[(some (.cells [(.acc 1 0 2 p_b1.length true)] false false)),(some (.cells (F_api_Pair p_b1) false true))])
theorem s_oR_Table_find_2 (d:Nat) {key:List UInt8} {p_b1:List api_Pair} {r:Int × Bool} (h:oR_Table_find_2 key p_b1=some r):Spec (wcalls atab (d+1)) 113 [(.ptr (some (0,0))),(.str key)] [(some (.cells [(.acc 1 0 2 p_b1.length true)] false false)),(some (.cells (F_api_Pair p_b1) false true))] (out_oR_Table_find_2 key p_b1 r).1 (out_oR_Table_find_2 key p_b1 r).2:=by
  unfold oR_Table_find_2 at h
  exact spec_by nB AF113 h (.bd fun x6 q6=>.ite (fun hb7=>Lp [none,none,none] [] [] (rwr (il hb7) (s_oR_Table_find_2_L0 (d+0) q6)) <| Fn Fo [] none) fun hb7=>Lp [none,none,none] [] [] (rwr (ir0 hb7) (s_oR_Table_find_2_L0 (d+0) q6)) <| Fn Fo [] none)
abbrev in_oR_Table_Do_2_J0 (x2:Int × Bool) (p_b1:List api_Pair) (o:api_Op):Fast × WH:=([(0,(.ptr (some (0,0)))),(3,(.ptr (some (2,0)))),(4,(.ptr (some (3,0)))),(5,(.int .i64 x2.1)),(6,(.bool x2.2))],[(some (.cells [(.acc 1 0 2 p_b1.length true)] false false)),(some (.cells (F_api_Pair p_b1) false true)),(some (.cells (e_api_Op o) false false)),(some (.cells (e_api_Answer (⟨0,([]:List UInt8)⟩:api_Answer)) false false))])
def fin_oR_Table_Do_2_J0 (x2:Int × Bool) (p_b1:List api_Pair) (o:api_Op):Unit ⊕ Unit→Ex × Fast × WH:=fun
  | .inl e=>(.ret,[(4,(.ptr (some (2,0))))],[(some (.cells [(.acc 1 0 2 p_b1.length true)] false false)),(some (.cells (F_api_Pair p_b1) false true)),(some (.cells (e_api_Answer (⟨5,([]:List UInt8)⟩:api_Answer)) false false))])
  | .inr e=>(.normal,[(0,(.ptr (some (0,0)))),(3,(.ptr (some (2,0)))),(4,(.ptr (some (3,0)))),(5,(.int .i64 x2.1)),(6,(.bool x2.2))],[(some (.cells [(.acc 1 0 2 p_b1.length true)] false false)),(some (.cells (F_api_Pair p_b1) false true)),(some (.cells (e_api_Op o) false false)),(some (.cells (e_api_Answer (⟨0,([]:List UInt8)⟩:api_Answer)) false false))])
def oR_Table_Do_2_J0 (x2:Int × Bool) (p_b1:List api_Pair) (o:api_Op):Option (Unit ⊕ Unit) :=
  cond (!x2.2) (cond (decide ((p_b1.length:Int) ≥ 8)) (some (.inl ())) (some (.inr ()))) (some (.inr ()))
theorem s_oR_Table_Do_2_J0 (d:Nat) {x2:Int × Bool} {p_b1:List api_Pair} {o:api_Op} {r:Unit ⊕ Unit} (h:oR_Table_Do_2_J0 x2 p_b1 o=some r):RunX (bexec (wcalls atab (d+0)) KK 147 WJ93_bbbabkbfbta) 2 (in_oR_Table_Do_2_J0 x2 p_b1 o) (fin_oR_Table_Do_2_J0 x2 p_b1 o r):=by
  unfold oR_Table_Do_2_J0 at h
  exact run_by nB WJ93_bbbabkbfbta_ok h (.br 40 (fun _=>.br 47 (fun _=>.st none <| E0 [4]) fun _=>E0 [0,3,4,5,6]) fun _=>E0 [0,3,4,5,6])
abbrev in_oR_Table_Do_2_J1 (x2:Int × Bool) (x6:List api_Pair) (o:api_Op) (p_b1:List api_Pair):Fast × WH:=([(0,(.ptr (some (0,0)))),(4,(.ptr (some (2,0)))),(5,(.int .i64 x2.1)),(6,(.bool x2.2)),(7,(.acc 3 0 2 (x6 ++ [(⟨o.Key,o.Value⟩:api_Pair)]).length true))],[(some (.cells [(.acc 1 0 2 p_b1.length true)] false false)),(some (.cells (F_api_Pair p_b1) false true)),(some (.cells (e_api_Answer (⟨0,([]:List UInt8)⟩:api_Answer)) false false)),(some (.cells (F_api_Pair (x6 ++ [(⟨o.Key,o.Value⟩:api_Pair)])) false true))])
def fin_oR_Table_Do_2_J1 (x2:Int × Bool) (x6:List api_Pair) (o:api_Op) (p_b1:List api_Pair):Int→Ex × Fast × WH:=fun e=>(.normal,[(0,(.ptr (some (0,0)))),(4,(.ptr (some (2,0)))),(5,(.int .i64 e)),(7,(.acc 3 0 2 (x6 ++ [(⟨o.Key,o.Value⟩:api_Pair)]).length true))],[(some (.cells [(.acc 1 0 2 p_b1.length true)] false false)),(some (.cells (F_api_Pair p_b1) false true)),(some (.cells (e_api_Answer (⟨0,([]:List UInt8)⟩:api_Answer)) false false)),(some (.cells (F_api_Pair (x6 ++ [(⟨o.Key,o.Value⟩:api_Pair)])) false true))])
def oR_Table_Do_2_J1 (x2:Int × Bool) (x6:List api_Pair) (o:api_Op) (p_b1:List api_Pair):Option (Int) :=
  cond x2.2 (some (IntKind.i64.wrap (x2.1+1))) (some x2.1)
theorem s_oR_Table_Do_2_J1 (d:Nat) {x2:Int × Bool} {x6:List api_Pair} {o:api_Op} {p_b1:List api_Pair} {r:Int} (h:oR_Table_Do_2_J1 x2 x6 o p_b1=some r):RunX (bexec (wcalls atab (d+0)) KK 147 WJ93_bbbabkbfbtbbba) 2 (in_oR_Table_Do_2_J1 x2 x6 o p_b1) (fin_oR_Table_Do_2_J1 x2 x6 o p_b1 r):=by
  unfold oR_Table_Do_2_J1 at h
  exact run_by nB WJ93_bbbabkbfbtbbba_ok h (.br 65 (fun _=>E1 [0,4,5,7] [none,none,none,none] [] [.undef,.undef,.undef,.slice none 2 0 0 true]) fun _=>E1 [0,4,5,7] [none,none,none,none] [] [.undef,.undef,.undef,.slice none 2 0 0 true])
def oR_Table_Do_2 (o:api_Op) (p_b1:List api_Pair):Option (api_Answer × List api_Pair) :=
  (oR_RightOp o).bind fun (x1:Bool)=>cond (!x1) (some ((⟨1,([]:List UInt8)⟩:api_Answer),p_b1)) ((oR_Table_find_2 o.Key p_b1).bind fun (x2:Int × Bool)=>cond (o.Kind == 1) (cond (!x2.2) (some ((⟨4,([]:List UInt8)⟩:api_Answer),p_b1)) ((getI p_b1 x2.1).bind fun (x3:api_Pair)=>some ((⟨0,x3.Value⟩:api_Answer),p_b1))) (cond (o.Kind == 2) ((oR_Table_Do_2_J0 x2 p_b1 o).bind fun (x4:Unit ⊕ Unit)=>cond (isL x4) (some ((⟨5,([]:List UInt8)⟩:api_Answer),p_b1)) ((slI p_b1 0 x2.1).bind fun (x6:List api_Pair)=>gd (fitsB 32 x6.length) (gd (fitsB 32 (x6 ++ [(⟨o.Key,o.Value⟩:api_Pair)]).length) ((oR_Table_Do_2_J1 x2 x6 o p_b1).bind fun (x9:Int)=>(slI p_b1 x9 p_b1.length).bind fun (x10:List api_Pair)=>gd (fitsB 32 ((x6 ++ [(⟨o.Key,o.Value⟩:api_Pair)]) ++ x10).length) (some ((⟨0,([]:List UInt8)⟩:api_Answer),((x6 ++ [(⟨o.Key,o.Value⟩:api_Pair)]) ++ x10))))))) (cond (o.Kind == 3) (cond (!x2.2) (some ((⟨4,([]:List UInt8)⟩:api_Answer),p_b1)) ((slI p_b1 0 x2.1).bind fun (x12:List api_Pair)=>gd (fitsB 32 x12.length) ((slI p_b1 (IntKind.i64.wrap (x2.1+1)) p_b1.length).bind fun (x14:List api_Pair)=>gd (fitsB 32 (x12 ++ x14).length) (some ((⟨0,([]:List UInt8)⟩:api_Answer),(x12 ++ x14)))))) (cond (!x2.2) (some ((⟨4,([]:List UInt8)⟩:api_Answer),p_b1)) ((getI p_b1 x2.1).bind fun (x16:api_Pair)=>cond (!(x16.Value == o.Old)) ((getI p_b1 x2.1).bind fun (x17:api_Pair)=>some ((⟨6,x17.Value⟩:api_Answer),p_b1)) (gd (fitsB 32 p_b1.length) ((getI p_b1 x2.1).bind fun (x19:api_Pair)=>some ((⟨0,([]:List UInt8)⟩:api_Answer),(p_b1.set x2.1.toNat (⟨x19.Key,o.Value⟩:api_Pair))))))))))
def out_oR_Table_Do_2 (o:api_Op) (p_b1:List api_Pair) (r:api_Answer × List api_Pair):AV × WH:=((.agg (e_api_Answer r.1)),[(some (.cells [(.acc 2 0 2 r.2.length true)] false false)),none,(some (.cells (F_api_Pair r.2) false true))])
theorem s_oR_Table_Do_2 (d:Nat) {o:api_Op} {p_b1:List api_Pair} {r:api_Answer × List api_Pair} (h:oR_Table_Do_2 o p_b1=some r):Spec (wcalls atab (d+2)) 93 [(.ptr (some (0,0))),(.agg (e_api_Op o))] [(some (.cells [(.acc 1 0 2 p_b1.length true)] false false)),(some (.cells (F_api_Pair p_b1) false true))] (out_oR_Table_Do_2 o p_b1 r).1 (out_oR_Table_Do_2 o p_b1 r).2:=by
  unfold oR_Table_Do_2 at h
  exact spec_by nB AF93 h (.bd fun x1 q1=>Cb0 (s_oR_RightOp (d+0) q1) <| .br 11 (fun _=>.st none <| Fn Fo [] Tw) fun _=>.bd fun x2 q2=>Cl0 (s_oR_Table_find_2 (d+0) q2) <| .br 22 (fun _=>.br 25 (fun _=>.st none <| Fn Fo [] Tw) fun _=>.bd fun x3 q3=>Ia R_api_Pair 32 1 q3 <| Ld R_api_Pair 34 false 1 1 q3 (.str x3.Value) rfl <| .st none <| Fn Fo [] Tw) fun _=>.br 36 (fun _=>.bd fun x4 q4=>.ite (fun hb5=>Jn [0,3,4,5,6] [none,none,none,none,none] [] [] (rwr (il hb5) (s_oR_Table_Do_2_J0 (d+1) q4)) <| Fn Fo [] Tw) fun hb5=>Jn [0,3,4,5,6] [none,none,none,none,none] [] [] (rwr (ir0 hb5) (s_oR_Table_Do_2_J0 (d+1) q4)) <| .bd fun x6 q6=>.v 55 (.acc 1 0 2 x6.length false) <| .ob (wP_slA_h R_api_Pair q6:wP (.slice 2 (.c (.acc 1 0 2 p_b1.length true)) none (some (.c (.int .i64 x2.1))) none)=some (.acc 1 0 2 x6.length false)) <| .gd fun q7=>.ap 56 x6.length (F_api_Pair x6) <| .ob (by (try rw [take_row R_api_Pair q6]); (try rw [part_row0 R_api_Pair q6]); simp:0+x6.length=x6.length) <| .ob (by (try rw [take_row R_api_Pair q6]); (try rw [part_row0 R_api_Pair q6]); first | rfl | simp [F_api_Pair]:F_api_Pair [] ++ ((F_api_Pair p_b1).drop (0)).take (x6.length * 2)=F_api_Pair x6) <| .ob q7 <| .gd fun q8=>.ap 64 (x6 ++ [(⟨o.Key,o.Value⟩:api_Pair)]).length (F_api_Pair (x6 ++ [(⟨o.Key,o.Value⟩:api_Pair)])) <| .ob (by (try rw [take_row R_api_Pair q6]); (try rw [part_row0 R_api_Pair q6]); simp:x6.length+1=(x6 ++ [(⟨o.Key,o.Value⟩:api_Pair)]).length) <| .ob (by (try rw [take_row R_api_Pair q6]); (try rw [part_row0 R_api_Pair q6]); exact (Row.app R_api_Pair _ _).symm:F_api_Pair x6 ++ F_api_Pair ([(⟨o.Key,o.Value⟩:api_Pair)])=F_api_Pair (x6 ++ [(⟨o.Key,o.Value⟩:api_Pair)])) <| .ob q8 <| .bd fun x9 q9=>Jn [0,4,5,6,7] [none,none,none,none,none] [] [.undef,.undef,.undef,.undef,.slice none 2 0 0 true] (s_oR_Table_Do_2_J1 (d+1) q9) <| .bd fun x10 q10=>.v 75 (.acc 1 (0+x9.toNat * 2) 2 x10.length false) <| .ob (by (try rw [take_row R_api_Pair q6]); (try rw [part_row0 R_api_Pair q6]); exact wP_slA_l R_api_Pair q10:wP (.slice 2 (.c (.acc 1 0 2 p_b1.length true)) (some (.c (.int .i64 x9))) none none)=some (.acc 1 (0+x9.toNat * 2) 2 x10.length false)) <| .gd fun q11=>.ap 76 ((x6 ++ [(⟨o.Key,o.Value⟩:api_Pair)]) ++ x10).length (F_api_Pair ((x6 ++ [(⟨o.Key,o.Value⟩:api_Pair)]) ++ x10)) <| .ob (by (try rw [take_row R_api_Pair q6]); (try rw [part_row0 R_api_Pair q6]); (try rw [part_row R_api_Pair q10]); exact app_len _ _:(x6 ++ [(⟨o.Key,o.Value⟩:api_Pair)]).length+x10.length=((x6 ++ [(⟨o.Key,o.Value⟩:api_Pair)]) ++ x10).length) <| .ob (by (try rw [take_row R_api_Pair q6]); (try rw [part_row0 R_api_Pair q6]); (try rw [part_row R_api_Pair q10]); exact (Row.app R_api_Pair _ _).symm:F_api_Pair (x6 ++ [(⟨o.Key,o.Value⟩:api_Pair)]) ++ ((F_api_Pair p_b1).drop (0+x9.toNat * 2)).take (x10.length * 2)=F_api_Pair ((x6 ++ [(⟨o.Key,o.Value⟩:api_Pair)]) ++ x10)) <| .ob q11 <| .st none <| .st none <| .kl [1] <| Fn Fo [] Tw) fun _=>.br 80 (fun _=>.br 83 (fun _=>.st none <| Fn Fo [] Tw) fun _=>.bd fun x12 q12=>.v 92 (.acc 1 0 2 x12.length false) <| .ob (wP_slA_h R_api_Pair q12:wP (.slice 2 (.c (.acc 1 0 2 p_b1.length true)) none (some (.c (.int .i64 x2.1))) none)=some (.acc 1 0 2 x12.length false)) <| .gd fun q13=>.ap 93 x12.length (F_api_Pair x12) <| .ob (by (try rw [take_row R_api_Pair q12]); (try rw [part_row0 R_api_Pair q12]); simp:0+x12.length=x12.length) <| .ob (by (try rw [take_row R_api_Pair q12]); (try rw [part_row0 R_api_Pair q12]); first | rfl | simp [F_api_Pair]:F_api_Pair [] ++ ((F_api_Pair p_b1).drop (0)).take (x12.length * 2)=F_api_Pair x12) <| .ob q13 <| .bd fun x14 q14=>.v 100 (.acc 1 (0+(IntKind.i64.wrap (x2.1+1)).toNat * 2) 2 x14.length false) <| .ob (by (try rw [take_row R_api_Pair q12]); (try rw [part_row0 R_api_Pair q12]); exact wP_slA_l R_api_Pair q14:wP (.slice 2 (.c (.acc 1 0 2 p_b1.length true)) (some (.c (.int .i64 (IntKind.i64.wrap (x2.1+1))))) none none)=some (.acc 1 (0+(IntKind.i64.wrap (x2.1+1)).toNat * 2) 2 x14.length false)) <| .gd fun q15=>.ap 101 (x12 ++ x14).length (F_api_Pair (x12 ++ x14)) <| .ob (by (try rw [take_row R_api_Pair q12]); (try rw [part_row0 R_api_Pair q12]); (try rw [part_row R_api_Pair q14]); exact app_len _ _:x12.length+x14.length=(x12 ++ x14).length) <| .ob (by (try rw [take_row R_api_Pair q12]); (try rw [part_row0 R_api_Pair q12]); (try rw [part_row R_api_Pair q14]); exact (Row.app R_api_Pair _ _).symm:F_api_Pair x12 ++ ((F_api_Pair p_b1).drop (0+(IntKind.i64.wrap (x2.1+1)).toNat * 2)).take (x14.length * 2)=F_api_Pair (x12 ++ x14)) <| .ob q15 <| .st none <| .st none <| .kl [1] <| Fn Fo [] Tw) fun _=>.br 105 (fun _=>.st none <| Fn Fo [] Tw) fun _=>.bd fun x16 q16=>Ia R_api_Pair 115 1 q16 <| Ld R_api_Pair 117 false 1 1 q16 (.str x16.Value) rfl <| .br 109 (fun _=>.bd fun x17 q17=>Ia R_api_Pair 126 1 q17 <| Ld R_api_Pair 128 false 1 1 q17 (.str x17.Value) rfl <| .st none <| Fn Fo [] Tw) fun _=>.gd fun q18=>Ap0 R_api_Pair 135 q18 <| .bd fun x19 q19=>Ia R_api_Pair 140 5 q19 <| .st (some (F_api_Pair (p_b1.set x2.1.toNat (⟨x19.Key,o.Value⟩:api_Pair)))) <| .ob (wr_row (o:=1) R_api_Pair q19 rfl:wrC (F_api_Pair p_b1) (0+x2.1.toNat * 2+1) [(.str o.Value)]=some (F_api_Pair (p_b1.set x2.1.toNat (⟨x19.Key,o.Value⟩:api_Pair)))) <| .st none <| .st none <| .kl [1] <| .leafq (.fin (some false) [] (some true)) _ (fun r=>@Eq AV (.agg (e_api_Answer (⟨0,([]:List UInt8)⟩:api_Answer))) (out_oR_Table_Do_2 o p_b1 r).1∧@Eq WH [(some (.cells [(.acc 2 0 2 p_b1.length true)] false false)),none,(some (.cells (F_api_Pair (p_b1.set x2.1.toNat (⟨x19.Key,o.Value⟩:api_Pair))) false true))] (out_oR_Table_Do_2 o p_b1 r).2) (by show _∧_; (try rw [show AV.list 2 p_b1.length (F_api_Pair (p_b1.set x2.1.toNat (⟨x19.Key,o.Value⟩:api_Pair))) false=l_api_Pair (p_b1.set x2.1.toNat (⟨x19.Key,o.Value⟩:api_Pair)) from by simp only [l_api_Pair,List.length_set]]); refine ⟨?_, ?_⟩ <;> first | rfl | (simp only [out_oR_Table_Do_2,List.length_set,List.length_append,List.length_replicate,List.length_cons,List.length_nil,List.length_take,List.length_drop,Nat.add_zero,Nat.zero_add]; done) | simp [out_oR_Table_Do_2]))
def st_oR_TableOf_L0 (l:List api_Pair) (s7:Int × List api_Pair):List AV × WH:=([(l_api_Pair l),(.ptr (some (0,0))),(.ptr (some (1,0))),(.int .i64 s7.1)],[(some (.cells [(.acc 2 0 2 0 true)] false false)),(some (.cells [(.acc 3 0 2 s7.2.length true)] false false)),(some (.cells (F_api_Pair []) false true)),(some (.cells (F_api_Pair s7.2) false true))])
def fin_oR_TableOf_L0 (l:List api_Pair):(List api_Pair)→Ex × Fast × WH:=fun e=>((.exit 0),[(2,(.ptr (some (0,0)))),(3,(.ptr (some (1,0))))],[(some (.cells [(.acc 2 0 2 0 true)] false false)),(some (.cells [(.acc 3 0 2 e.length true)] false false)),(some (.cells (F_api_Pair []) false true)),(some (.cells (F_api_Pair e) false true))])
abbrev rx_oR_TableOf_L0 (l:List api_Pair):=roundX [0,2,3,4] (st_oR_TableOf_L0 l) (fin_oR_TableOf_L0 l)
def oR_TableOf_L0_s (l:List api_Pair) (s7:Int × List api_Pair):Option ((Int × List api_Pair) ⊕ ((List api_Pair))) :=
  cond (decide (s7.1 < (l.length:Int))) ((getI l s7.1).bind fun (x8:api_Pair)=>(getI l s7.1).bind fun (x9:api_Pair)=>(oR_Table_Do_2 (⟨2,x8.Key,x9.Value,([]:List UInt8)⟩:api_Op) s7.2).bind fun (x10:api_Answer × List api_Pair)=>some (.inl ((IntKind.i64.wrap (s7.1+1)),x10.2))) (some (.inr s7.2))
def oR_TableOf_L0 (l:List api_Pair) (s7:Int × List api_Pair):Option ((List api_Pair)):=loopX (oR_TableOf_L0_s l) KK s7
theorem b_oR_TableOf_L0 (d:Nat) {l:List api_Pair} {s7:Int × List api_Pair} {r:(Int × List api_Pair) ⊕ ((List api_Pair))} (h:oR_TableOf_L0_s l s7=some r):RunX (bexec (wcalls atab (d+2)) KK 25 WB89_0) 0 (inL [0,2,3,4] (st_oR_TableOf_L0 l s7)) (rx_oR_TableOf_L0 l r):=by
  unfold oR_TableOf_L0_s at h
  exact run_by nB WB89_0_ok h (.br 9 (fun _=>.bd fun x8 q8=>Ix R_api_Pair 14 q8 <| .bd fun x9 q9=>Ix R_api_Pair 19 q9 <| .bd fun x10 q10=>Cl0 (s_oR_Table_Do_2 (d+0) q10) <| E1 [0,2,3,4] [none,none,none,none] [] [.slice none 2 0 0 true,.undef,.undef,.undef]) fun _=>E0 [2,3])
theorem s_oR_TableOf_L0 (d:Nat) {l:List api_Pair} {s7:Int × List api_Pair} {r:(List api_Pair)} (h:oR_TableOf_L0 l s7=some r):RunX (bloop (bexec (wcalls atab (d+2)) KK 25 WB89_0) [0,2,3,4] KK) 0 (inL [0,2,3,4] (st_oR_TableOf_L0 l s7)) (fin_oR_TableOf_L0 l r) :=
  loop_of (st:=st_oR_TableOf_L0 l) (fin:=fin_oR_TableOf_L0 l) (step:=oR_TableOf_L0_s l) (fun e=>by (intro h; cases h)) (fun s x h=>b_oR_TableOf_L0 d h) KK s7 r h
def oR_TableOf (l:List api_Pair):Option (oR_Table) :=
  (oR_TableOf_L0 l (0,[])).bind fun (x11:(List api_Pair))=>some (⟨x11⟩:oR_Table)
def out_oR_TableOf (l:List api_Pair) (r:oR_Table):AV × WH:=((.agg (e_oR_Table r)),[])
theorem s_oR_TableOf (d:Nat) {l:List api_Pair} {r:oR_Table} (h:oR_TableOf l=some r):Spec (wcalls atab (d+3)) 89 [(l_api_Pair l)] [] (out_oR_TableOf l r).1 (out_oR_TableOf l r).2:=by
  unfold oR_TableOf at h
  exact spec_by nB AF89 h (.z 2 [.slice none 2 0 0 true] <| .z 5 [.agg [.slice none 2 0 0 true]] <| .z 3 [.slice none 2 0 0 true] <| .st none <| .bd fun x11 q11=>Lp [none,none,none,none] [Tw,Tw,Tw,Tw] [.slice none 2 0 0 true,.undef,.undef,.undef] (s_oR_TableOf_L0 (d+0) q11) <| .st none <| Fn Fo [.agg [.slice none 2 0 0 true]] none)
def st_oR_Sessions_Last_2_L0 (p_b1:List api_Sess) (client:Int) (s3:Int):List AV × WH:=([(.ptr (some (0,0))),(.int .i64 client),(.ptr (some (2,0))),(.int .i64 s3)],[(some (.cells [(.acc 1 0 4 p_b1.length true)] false false)),(some (.cells (F_api_Sess p_b1) false true)),(some (.cells (e_api_Sess (⟨0,0,(⟨0,([]:List UInt8)⟩:api_Answer)⟩:api_Sess)) false false))])
def fin_oR_Sessions_Last_2_L0 (p_b1:List api_Sess) (client:Int):api_Sess ⊕ Unit→Ex × Fast × WH:=fun
  | .inl e=>(.ret,[(4,(.ptr (some (2,0)))),(5,(.bool true))],[(some (.cells [(.acc 1 0 4 p_b1.length true)] false false)),(some (.cells (F_api_Sess p_b1) false true)),(some (.cells (e_api_Sess e) false false))])
  | .inr e=>((.exit 0),[(4,(.ptr (some (2,0))))],[(some (.cells [(.acc 1 0 4 p_b1.length true)] false false)),(some (.cells (F_api_Sess p_b1) false true)),(some (.cells (e_api_Sess (⟨0,0,(⟨0,([]:List UInt8)⟩:api_Answer)⟩:api_Sess)) false false))])
abbrev rx_oR_Sessions_Last_2_L0 (p_b1:List api_Sess) (client:Int):=roundX [0,1,4,6] (st_oR_Sessions_Last_2_L0 p_b1 client) (fin_oR_Sessions_Last_2_L0 p_b1 client)
def oR_Sessions_Last_2_L0_s (p_b1:List api_Sess) (client:Int) (s3:Int):Option ((Int) ⊕ (api_Sess ⊕ Unit)) :=
  cond (decide (s3 < (p_b1.length:Int))) ((getI p_b1 s3).bind fun (x4:api_Sess)=>cond (x4.Client == client) ((getI p_b1 s3).bind fun (x5:api_Sess)=>some (.inr (.inl x5))) (some (.inl (IntKind.i64.wrap (s3+1))))) (some (.inr (.inr ())))
def oR_Sessions_Last_2_L0 (p_b1:List api_Sess) (client:Int) (s3:Int):Option (api_Sess ⊕ Unit):=loopX (oR_Sessions_Last_2_L0_s p_b1 client) KK s3
theorem b_oR_Sessions_Last_2_L0 (d:Nat) {p_b1:List api_Sess} {client:Int} {s3:Int} {r:(Int) ⊕ (api_Sess ⊕ Unit)} (h:oR_Sessions_Last_2_L0_s p_b1 client s3=some r):RunX (bexec (wcalls atab (d+0)) KK 34 WB92_0) 2 (inL [0,1,4,6] (st_oR_Sessions_Last_2_L0 p_b1 client s3)) (rx_oR_Sessions_Last_2_L0 p_b1 client r):=by
  unfold oR_Sessions_Last_2_L0_s at h
  exact run_by nB WB92_0_ok h (.br 13 (fun _=>.bd fun x4 q4=>Ia R_api_Sess 21 1 q4 <| Ld R_api_Sess 23 false 1 0 q4 (.int .i64 x4.Client) rfl <| .br 25 (fun _=>.bd fun x5 q5=>Ia R_api_Sess 31 1 q5 <| Ld R_api_Sess 32 true 4 0 q5 (.agg (e_api_Sess x5)) rfl <| .st none <| E0 [4,5]) fun _=>E0 [0,1,4,6]) fun _=>E0 [4])
theorem s_oR_Sessions_Last_2_L0 (d:Nat) {p_b1:List api_Sess} {client:Int} {s3:Int} {r:api_Sess ⊕ Unit} (h:oR_Sessions_Last_2_L0 p_b1 client s3=some r):RunX (bloop (bexec (wcalls atab (d+0)) KK 34 WB92_0) [0,1,4,6] KK) 2 (inL [0,1,4,6] (st_oR_Sessions_Last_2_L0 p_b1 client s3)) (fin_oR_Sessions_Last_2_L0 p_b1 client r) :=
  loop_of (st:=st_oR_Sessions_Last_2_L0 p_b1 client) (fin:=fin_oR_Sessions_Last_2_L0 p_b1 client) (step:=oR_Sessions_Last_2_L0_s p_b1 client) (fun e=>by rcases e with e | e <;> (intro h; cases h)) (fun s x h=>b_oR_Sessions_Last_2_L0 d h) KK s3 r h
def oR_Sessions_Last_2 (client:Int) (p_b1:List api_Sess):Option (api_Sess × Bool) :=
  (oR_Sessions_Last_2_L0 p_b1 client 0).bind fun (x6:api_Sess ⊕ Unit)=>cond (isL x6) (some ((getL x6),true)) (some ((⟨0,0,(⟨0,([]:List UInt8)⟩:api_Answer)⟩:api_Sess),false))
def out_oR_Sessions_Last_2 (client:Int) (p_b1:List api_Sess) (r:api_Sess × Bool):AV × WH:=((.tuple [(.agg (e_api_Sess r.1)),(.bool r.2)]),[(some (.cells [(.acc 1 0 4 p_b1.length true)] false false)),(some (.cells (F_api_Sess p_b1) false true))])
theorem s_oR_Sessions_Last_2 (d:Nat) {client:Int} {p_b1:List api_Sess} {r:api_Sess × Bool} (h:oR_Sessions_Last_2 client p_b1=some r):Spec (wcalls atab (d+1)) 92 [(.ptr (some (0,0))),(.int .i64 client)] [(some (.cells [(.acc 1 0 4 p_b1.length true)] false false)),(some (.cells (F_api_Sess p_b1) false true))] (out_oR_Sessions_Last_2 client p_b1 r).1 (out_oR_Sessions_Last_2 client p_b1 r).2:=by
  unfold oR_Sessions_Last_2 at h
  exact spec_by nB AF92 h (.bd fun x6 q6=>.ite (fun hb7=>Lp [none,none,none,none] [] [] (rwr (il hb7) (s_oR_Sessions_Last_2_L0 (d+0) q6)) <| Fn Fo [] none) fun hb7=>Lp [none,none,none,none] [] [] (rwr (ir0 hb7) (s_oR_Sessions_Last_2_L0 (d+0) q6)) <| .st none <| Fn Fo [] none)
abbrev in_oR_Sessions_Note_2_J0 (p_x:api_Sess) (x1:api_Sess × Bool) (p_b1:List api_Sess):Fast × WH:=([(0,(.ptr (some (0,0)))),(3,(.ptr (some (2,0)))),(5,(.ptr (some (3,0))))],[(some (.cells [(.acc 1 0 4 p_b1.length true)] false false)),(some (.cells (F_api_Sess p_b1) false true)),(some (.cells (e_api_Sess p_x) false false)),(some (.cells (e_api_Sess x1.1) false false))])
def fin_oR_Sessions_Note_2_J0 (p_x:api_Sess) (x1:api_Sess × Bool) (p_b1:List api_Sess):Unit ⊕ Unit→Ex × Fast × WH:=fun
  | .inl e=>(.ret,[(4,(.bool false))],[(some (.cells [(.acc 1 0 4 p_b1.length true)] false false)),(some (.cells (F_api_Sess p_b1) false true))])
  | .inr e=>(.normal,[(0,(.ptr (some (0,0)))),(3,(.ptr (some (2,0))))],[(some (.cells [(.acc 1 0 4 p_b1.length true)] false false)),(some (.cells (F_api_Sess p_b1) false true)),(some (.cells (e_api_Sess p_x) false false))])
def oR_Sessions_Note_2_J0 (p_x:api_Sess) (x1:api_Sess × Bool) (p_b1:List api_Sess):Option (Unit ⊕ Unit) :=
  cond (decide (p_x.Client < 0)) (some (.inl ())) (cond (decide (p_x.Client ≥ 4)) (some (.inl ())) (cond (decide (p_x.Seq < 1)) (some (.inl ())) (cond (decide (p_x.Seq≤x1.1.Seq)) (some (.inl ())) (some (.inr ())))))
theorem s_oR_Sessions_Note_2_J0 (d:Nat) {p_x:api_Sess} {x1:api_Sess × Bool} {p_b1:List api_Sess} {r:Unit ⊕ Unit} (h:oR_Sessions_Note_2_J0 p_x x1 p_b1=some r):RunX (bexec (wcalls atab (d+0)) KK 96 WJ94_bba) 2 (in_oR_Sessions_Note_2_J0 p_x x1 p_b1) (fin_oR_Sessions_Note_2_J0 p_x x1 p_b1 r):=by
  unfold oR_Sessions_Note_2_J0 at h
  exact run_by nB WJ94_bba_ok h (.br 20 (fun _=>E0 [4]) fun _=>.br 25 (fun _=>E0 [4]) fun _=>.br 30 (fun _=>E0 [4]) fun _=>.br 36 (fun _=>E0 [4]) fun _=>E0 [0,3])
abbrev in_oR_Sessions_Note_2_J1 (s18:Bool × Int × List api_Sess) (p_b1:List api_Sess) (p_x:api_Sess):Fast × WH:=([(0,(.ptr (some (0,0)))),(3,(.ptr (some (2,0)))),(7,(.acc 3 0 4 s18.2.2.length true)),(8,(.bool s18.1)),(9,(.int .i64 s18.2.1))],[(some (.cells [(.acc 1 0 4 p_b1.length true)] false false)),(some (.cells (F_api_Sess p_b1) false true)),(some (.cells (e_api_Sess p_x) false false)),(some (.cells (F_api_Sess s18.2.2) false true))])
def fin_oR_Sessions_Note_2_J1 (s18:Bool × Int × List api_Sess) (p_b1:List api_Sess) (p_x:api_Sess):Bool→Ex × Fast × WH:=fun e=>(.normal,[(0,(.ptr (some (0,0)))),(3,(.ptr (some (2,0)))),(7,(.acc 3 0 4 s18.2.2.length true)),(8,(.bool s18.1)),(9,(.int .i64 s18.2.1)),(60,(.bool e))],[(some (.cells [(.acc 1 0 4 p_b1.length true)] false false)),(some (.cells (F_api_Sess p_b1) false true)),(some (.cells (e_api_Sess p_x) false false)),(some (.cells (F_api_Sess s18.2.2) false true))])
def oR_Sessions_Note_2_J1 (s18:Bool × Int × List api_Sess) (p_b1:List api_Sess) (p_x:api_Sess):Option (Bool) :=
  cond (!s18.1) ((getI p_b1 s18.2.1).bind fun (x19:api_Sess)=>some (decide (x19.Client ≥ p_x.Client))) (some false)
theorem s_oR_Sessions_Note_2_J1 (d:Nat) {s18:Bool × Int × List api_Sess} {p_b1:List api_Sess} {p_x:api_Sess} {r:Bool} (h:oR_Sessions_Note_2_J1 s18 p_b1 p_x=some r):RunX (bexec (wcalls atab (d+0)) KK 96 WJ94_bbbbbabklbakaa) 2 (in_oR_Sessions_Note_2_J1 s18 p_b1 p_x) (fin_oR_Sessions_Note_2_J1 s18 p_b1 p_x r):=by
  unfold oR_Sessions_Note_2_J1 at h
  exact run_by nB WJ94_bbbbbabklbakaa_ok h (.br 48 (fun _=>.bd fun x19 q19=>Ia R_api_Sess 54 1 q19 <| Ld R_api_Sess 56 false 1 0 q19 (.int .i64 x19.Client) rfl <| E1 [0,3,7,8,9,60] [none,none,none,none,none,none] [] [.undef,.undef,.slice none 4 0 0 true,.undef,.undef,.undef]) fun _=>E1 [0,3,7,8,9,60] [none,none,none,none,none,none] [] [.undef,.undef,.slice none 4 0 0 true,.undef,.undef,.undef])
abbrev in_oR_Sessions_Note_2_J2 (s18:Bool × Int × List api_Sess) (p_b1:List api_Sess) (p_x:api_Sess):Fast × WH:=([(0,(.ptr (some (0,0)))),(3,(.ptr (some (2,0)))),(7,(.acc 3 0 4 s18.2.2.length true)),(8,(.bool s18.1)),(9,(.int .i64 s18.2.1))],[(some (.cells [(.acc 1 0 4 p_b1.length true)] false false)),(some (.cells (F_api_Sess p_b1) false true)),(some (.cells (e_api_Sess p_x) false false)),(some (.cells (F_api_Sess s18.2.2) false true))])
def fin_oR_Sessions_Note_2_J2 (s18:Bool × Int × List api_Sess) (p_b1:List api_Sess) (p_x:api_Sess):(Bool × List api_Sess)→Ex × Fast × WH:=fun e=>(.normal,[(0,(.ptr (some (0,0)))),(3,(.ptr (some (2,0)))),(7,(.acc 3 0 4 e.2.length true)),(8,(.bool e.1)),(9,(.int .i64 s18.2.1))],[(some (.cells [(.acc 1 0 4 p_b1.length true)] false false)),(some (.cells (F_api_Sess p_b1) false true)),(some (.cells (e_api_Sess p_x) false false)),(some (.cells (F_api_Sess e.2) false true))])
def oR_Sessions_Note_2_J2 (s18:Bool × Int × List api_Sess) (p_b1:List api_Sess) (p_x:api_Sess):Option ((Bool × List api_Sess)) :=
  (oR_Sessions_Note_2_J1 s18 p_b1 p_x).bind fun (x20:Bool)=>cond x20 (gd (fitsB 40 (s18.2.2 ++ [p_x]).length) (some (true,(s18.2.2 ++ [p_x])))) (some (s18.1,s18.2.2))
theorem s_oR_Sessions_Note_2_J2 (d:Nat) {s18:Bool × Int × List api_Sess} {p_b1:List api_Sess} {p_x:api_Sess} {r:(Bool × List api_Sess)} (h:oR_Sessions_Note_2_J2 s18 p_b1 p_x=some r):RunX (bexec (wcalls atab (d+0)) KK 96 WJ94_bbbbbabklbaka) 2 (in_oR_Sessions_Note_2_J2 s18 p_b1 p_x) (fin_oR_Sessions_Note_2_J2 s18 p_b1 p_x r):=by
  unfold oR_Sessions_Note_2_J2 at h
  exact run_by nB WJ94_bbbbbabklbaka_ok h (.bd fun x20 q20=>Jn [0,3,7,8,9] [none,none,none,none,none] [] [.undef,.undef,.slice none 4 0 0 true,.undef,.undef] (s_oR_Sessions_Note_2_J1 (d+0) q20) <| .br 60 (fun _=>.gd fun q21=>Ap R_api_Sess 64 q21 <| E1 [0,3,7,8,9] [none,none,none,none,none] [] [.undef,.undef,.slice none 4 0 0 true,.undef,.undef]) fun _=>E1 [0,3,7,8,9] [none,none,none,none,none] [] [.undef,.undef,.slice none 4 0 0 true,.undef,.undef])
def st_oR_Sessions_Note_2_L3 (p_b1:List api_Sess) (p_x:api_Sess) (s18:Bool × Int × List api_Sess):List AV × WH:=([(.ptr (some (0,0))),(.ptr (some (2,0))),(.acc 3 0 4 s18.2.2.length true),(.bool s18.1),(.int .i64 s18.2.1)],[(some (.cells [(.acc 1 0 4 p_b1.length true)] false false)),(some (.cells (F_api_Sess p_b1) false true)),(some (.cells (e_api_Sess p_x) false false)),(some (.cells (F_api_Sess s18.2.2) false true))])
def fin_oR_Sessions_Note_2_L3 (p_b1:List api_Sess) (p_x:api_Sess):(Bool × List api_Sess)→Ex × Fast × WH:=fun e=>((.exit 0),[(0,(.ptr (some (0,0)))),(3,(.ptr (some (2,0)))),(7,(.acc 3 0 4 e.2.length true)),(8,(.bool e.1))],[(some (.cells [(.acc 1 0 4 p_b1.length true)] false false)),(some (.cells (F_api_Sess p_b1) false true)),(some (.cells (e_api_Sess p_x) false false)),(some (.cells (F_api_Sess e.2) false true))])
abbrev rx_oR_Sessions_Note_2_L3 (p_b1:List api_Sess) (p_x:api_Sess):=roundX [0,3,7,8,9] (st_oR_Sessions_Note_2_L3 p_b1 p_x) (fin_oR_Sessions_Note_2_L3 p_b1 p_x)
def oR_Sessions_Note_2_L3_s (p_b1:List api_Sess) (p_x:api_Sess) (s18:Bool × Int × List api_Sess):Option ((Bool × Int × List api_Sess) ⊕ ((Bool × List api_Sess))) :=
  cond (decide (s18.2.1 < (p_b1.length:Int))) ((oR_Sessions_Note_2_J2 s18 p_b1 p_x).bind fun (x22:(Bool × List api_Sess))=>(getI p_b1 s18.2.1).bind fun (x23:api_Sess)=>cond (x23.Client != p_x.Client) ((getI p_b1 s18.2.1).bind fun (x24:api_Sess)=>gd (fitsB 40 (x22.2 ++ [x24]).length) (some (.inl (x22.1,(IntKind.i64.wrap (s18.2.1+1)),(x22.2 ++ [x24]))))) (some (.inl (x22.1,(IntKind.i64.wrap (s18.2.1+1)),x22.2)))) (some (.inr (s18.1,s18.2.2)))
def oR_Sessions_Note_2_L3 (p_b1:List api_Sess) (p_x:api_Sess) (s18:Bool × Int × List api_Sess):Option ((Bool × List api_Sess)):=loopX (oR_Sessions_Note_2_L3_s p_b1 p_x) KK s18
theorem b_oR_Sessions_Note_2_L3 (d:Nat) {p_b1:List api_Sess} {p_x:api_Sess} {s18:Bool × Int × List api_Sess} {r:(Bool × Int × List api_Sess) ⊕ ((Bool × List api_Sess))} (h:oR_Sessions_Note_2_L3_s p_b1 p_x s18=some r):RunX (bexec (wcalls atab (d+0)) KK 96 WB94_0) 2 (inL [0,3,7,8,9] (st_oR_Sessions_Note_2_L3 p_b1 p_x s18)) (rx_oR_Sessions_Note_2_L3 p_b1 p_x r):=by
  unfold oR_Sessions_Note_2_L3_s at h
  exact run_by nB WB94_0_ok h (.br 43 (fun _=>.sk <| .bd fun x22 q22=>Jn [0,3,7,8,9] [none,none,none,none,none] [] [.undef,.undef,.slice none 4 0 0 true,.undef,.undef] (s_oR_Sessions_Note_2_J2 (d+0) q22) <| .bd fun x23 q23=>Ia R_api_Sess 70 1 q23 <| Ld R_api_Sess 72 false 1 0 q23 (.int .i64 x23.Client) rfl <| .br 75 (fun _=>.bd fun x24 q24=>Ia R_api_Sess 82 1 q24 <| Ld R_api_Sess 83 true 4 0 q24 (.agg (e_api_Sess x24)) rfl <| .gd fun q25=>Ap R_api_Sess 85 q25 <| E1 [0,3,7,8,9] [none,none,none,none,none] [] [.undef,.undef,.slice none 4 0 0 true,.undef,.undef]) fun _=>E1 [0,3,7,8,9] [none,none,none,none,none] [] [.undef,.undef,.slice none 4 0 0 true,.undef,.undef]) fun _=>E1 [0,3,7,8] [none,none,none,none] [] [.undef,.undef,.slice none 4 0 0 true,.undef])
theorem s_oR_Sessions_Note_2_L3 (d:Nat) {p_b1:List api_Sess} {p_x:api_Sess} {s18:Bool × Int × List api_Sess} {r:(Bool × List api_Sess)} (h:oR_Sessions_Note_2_L3 p_b1 p_x s18=some r):RunX (bloop (bexec (wcalls atab (d+0)) KK 96 WB94_0) [0,3,7,8,9] KK) 2 (inL [0,3,7,8,9] (st_oR_Sessions_Note_2_L3 p_b1 p_x s18)) (fin_oR_Sessions_Note_2_L3 p_b1 p_x r) :=
  loop_of (st:=st_oR_Sessions_Note_2_L3 p_b1 p_x) (fin:=fin_oR_Sessions_Note_2_L3 p_b1 p_x) (step:=oR_Sessions_Note_2_L3_s p_b1 p_x) (fun e=>by (intro h; cases h)) (fun s x h=>b_oR_Sessions_Note_2_L3 d h) KK s18 r h
abbrev in_oR_Sessions_Note_2_J4 (x26:(Bool × List api_Sess)) (p_x:api_Sess) (p_b1:List api_Sess):Fast × WH:=([(0,(.ptr (some (0,0)))),(3,(.ptr (some (2,0)))),(7,(.acc 3 0 4 x26.2.length true)),(8,(.bool x26.1))],[(some (.cells [(.acc 1 0 4 p_b1.length true)] false false)),(some (.cells (F_api_Sess p_b1) false true)),(some (.cells (e_api_Sess p_x) false false)),(some (.cells (F_api_Sess x26.2) false true))])
def fin_oR_Sessions_Note_2_J4 (x26:(Bool × List api_Sess)) (p_x:api_Sess) (p_b1:List api_Sess):(List api_Sess)→Ex × Fast × WH:=fun e=>(.normal,[(0,(.ptr (some (0,0)))),(7,(.acc 2 0 4 e.length true))],[(some (.cells [(.acc 1 0 4 p_b1.length true)] false false)),(some (.cells (F_api_Sess p_b1) false true)),(some (.cells (F_api_Sess e) false true))])
def oR_Sessions_Note_2_J4 (x26:(Bool × List api_Sess)) (p_x:api_Sess) (p_b1:List api_Sess):Option ((List api_Sess)) :=
  cond (!x26.1) (gd (fitsB 40 (x26.2 ++ [p_x]).length) (some (x26.2 ++ [p_x]))) (some x26.2)
theorem s_oR_Sessions_Note_2_J4 (d:Nat) {x26:(Bool × List api_Sess)} {p_x:api_Sess} {p_b1:List api_Sess} {r:(List api_Sess)} (h:oR_Sessions_Note_2_J4 x26 p_x p_b1=some r):RunX (bexec (wcalls atab (d+0)) KK 96 WJ94_bbbbbba) 2 (in_oR_Sessions_Note_2_J4 x26 p_x p_b1) (fin_oR_Sessions_Note_2_J4 x26 p_x p_b1 r):=by
  unfold oR_Sessions_Note_2_J4 at h
  exact run_by nB WJ94_bbbbbba_ok h (.br 87 (fun _=>.gd fun q27=>Ap R_api_Sess 91 q27 <| E1 [0,7] [none,none] [] [.undef,.slice none 4 0 0 true]) fun _=>E1 [0,7] [none,none] [] [.undef,.slice none 4 0 0 true])
def oR_Sessions_Note_2 (p_x:api_Sess) (p_b1:List api_Sess):Option (Bool × List api_Sess) :=
  (oR_Sessions_Last_2 p_x.Client p_b1).bind fun (x1:api_Sess × Bool)=>(oR_Sessions_Note_2_J0 p_x x1 p_b1).bind fun (x2:Unit ⊕ Unit)=>cond (isL x2) (some (false,p_b1)) ((oR_Sessions_Note_2_L3 p_b1 p_x (false,0,[])).bind fun (x26:(Bool × List api_Sess))=>(oR_Sessions_Note_2_J4 x26 p_x p_b1).bind fun (x28:(List api_Sess))=>some (true,x28))
def out_oR_Sessions_Note_2 (p_x:api_Sess) (p_b1:List api_Sess) (r:Bool × List api_Sess):AV × WH:=((.bool r.1),[(some (.cells [(.acc 2 0 4 r.2.length true)] false false)),none,(some (.cells (F_api_Sess r.2) false true))])
theorem s_oR_Sessions_Note_2 (d:Nat) {p_x:api_Sess} {p_b1:List api_Sess} {r:Bool × List api_Sess} (h:oR_Sessions_Note_2 p_x p_b1=some r):Spec (wcalls atab (d+2)) 94 [(.ptr (some (0,0))),(.agg (e_api_Sess p_x))] [(some (.cells [(.acc 1 0 4 p_b1.length true)] false false)),(some (.cells (F_api_Sess p_b1) false true))] (out_oR_Sessions_Note_2 p_x p_b1 r).1 (out_oR_Sessions_Note_2 p_x p_b1 r).2:=by
  unfold oR_Sessions_Note_2 at h
  exact spec_by nB AF94 h (.bd fun x1 q1=>Cl0 (s_oR_Sessions_Last_2 (d+0) q1) <| .st none <| .bd fun x2 q2=>.ite (fun hb3=>Jn [0,3,5] [none,none,none] [] [] (rwr (il hb3) (s_oR_Sessions_Note_2_J0 (d+1) q2)) <| Fn Fo [] Tw) fun hb3=>Jn [0,3,5] [none,none,none] [] [] (rwr (ir0 hb3) (s_oR_Sessions_Note_2_J0 (d+1) q2)) <| .z 7 [.slice none 4 0 0 true] <| .bd fun x26 q26=>Lp [none,none,Tw,none,none] [] [.undef,.undef,.slice none 4 0 0 true,.undef,.undef] (s_oR_Sessions_Note_2_L3 (d+1) q26) <| .bd fun x28 q28=>Jn [0,3,7,8] [none,none,none,none] [] [.undef,.undef,.slice none 4 0 0 true,.undef] (s_oR_Sessions_Note_2_J4 (d+1) q28) <| .st none <| .kl [1] <| Fn Fo [] Tw)
def st_oR_SessionsOf_L0 (l:List api_Sess) (s5:Int × List api_Sess):List AV × WH:=([(l_api_Sess l),(.ptr (some (0,0))),(.ptr (some (1,0))),(.int .i64 s5.1)],[(some (.cells [(.acc 2 0 4 0 true)] false false)),(some (.cells [(.acc 3 0 4 s5.2.length true)] false false)),(some (.cells (F_api_Sess []) false true)),(some (.cells (F_api_Sess s5.2) false true))])
def fin_oR_SessionsOf_L0 (l:List api_Sess):(List api_Sess)→Ex × Fast × WH:=fun e=>((.exit 0),[(2,(.ptr (some (0,0)))),(3,(.ptr (some (1,0))))],[(some (.cells [(.acc 2 0 4 0 true)] false false)),(some (.cells [(.acc 3 0 4 e.length true)] false false)),(some (.cells (F_api_Sess []) false true)),(some (.cells (F_api_Sess e) false true))])
abbrev rx_oR_SessionsOf_L0 (l:List api_Sess):=roundX [0,2,3,4] (st_oR_SessionsOf_L0 l) (fin_oR_SessionsOf_L0 l)
def oR_SessionsOf_L0_s (l:List api_Sess) (s5:Int × List api_Sess):Option ((Int × List api_Sess) ⊕ ((List api_Sess))) :=
  cond (decide (s5.1 < (l.length:Int))) ((getI l s5.1).bind fun (x6:api_Sess)=>(oR_Sessions_Note_2 x6 s5.2).bind fun (x7:Bool × List api_Sess)=>some (.inl ((IntKind.i64.wrap (s5.1+1)),x7.2))) (some (.inr s5.2))
def oR_SessionsOf_L0 (l:List api_Sess) (s5:Int × List api_Sess):Option ((List api_Sess)):=loopX (oR_SessionsOf_L0_s l) KK s5
theorem b_oR_SessionsOf_L0 (d:Nat) {l:List api_Sess} {s5:Int × List api_Sess} {r:(Int × List api_Sess) ⊕ ((List api_Sess))} (h:oR_SessionsOf_L0_s l s5=some r):RunX (bexec (wcalls atab (d+2)) KK 18 WB90_0) 0 (inL [0,2,3,4] (st_oR_SessionsOf_L0 l s5)) (rx_oR_SessionsOf_L0 l r):=by
  unfold oR_SessionsOf_L0_s at h
  exact run_by nB WB90_0_ok h (.br 9 (fun _=>.bd fun x6 q6=>Ix R_api_Sess 14 q6 <| .bd fun x7 q7=>Cl0 (s_oR_Sessions_Note_2 (d+0) q7) <| E1 [0,2,3,4] [none,none,none,none] [] [.slice none 4 0 0 true,.undef,.undef,.undef]) fun _=>E0 [2,3])
theorem s_oR_SessionsOf_L0 (d:Nat) {l:List api_Sess} {s5:Int × List api_Sess} {r:(List api_Sess)} (h:oR_SessionsOf_L0 l s5=some r):RunX (bloop (bexec (wcalls atab (d+2)) KK 18 WB90_0) [0,2,3,4] KK) 0 (inL [0,2,3,4] (st_oR_SessionsOf_L0 l s5)) (fin_oR_SessionsOf_L0 l r) :=
  loop_of (st:=st_oR_SessionsOf_L0 l) (fin:=fin_oR_SessionsOf_L0 l) (step:=oR_SessionsOf_L0_s l) (fun e=>by (intro h; cases h)) (fun s x h=>b_oR_SessionsOf_L0 d h) KK s5 r h
def oR_SessionsOf (l:List api_Sess):Option (oR_Sessions) :=
  (oR_SessionsOf_L0 l (0,[])).bind fun (x8:(List api_Sess))=>some (⟨x8⟩:oR_Sessions)
def out_oR_SessionsOf (l:List api_Sess) (r:oR_Sessions):AV × WH:=((.agg (e_oR_Sessions r)),[])
theorem s_oR_SessionsOf (d:Nat) {l:List api_Sess} {r:oR_Sessions} (h:oR_SessionsOf l=some r):Spec (wcalls atab (d+3)) 90 [(l_api_Sess l)] [] (out_oR_SessionsOf l r).1 (out_oR_SessionsOf l r).2:=by
  unfold oR_SessionsOf at h
  exact spec_by nB AF90 h (.z 2 [.slice none 4 0 0 true] <| .z 5 [.agg [.slice none 4 0 0 true]] <| .z 3 [.slice none 4 0 0 true] <| .st none <| .bd fun x8 q8=>Lp [none,none,none,none] [Tw,Tw,Tw,Tw] [.slice none 4 0 0 true,.undef,.undef,.undef] (s_oR_SessionsOf_L0 (d+0) q8) <| .st none <| Fn Fo [.agg [.slice none 4 0 0 true]] none)
def oR_ShardFrom (p_x:api_Image):Option (oR_Shard) :=
  (oR_TableOf p_x.Pairs).bind fun (x1:oR_Table)=>(oR_SessionsOf p_x.Sess).bind fun (x2:oR_Sessions)=>some (⟨x1,x2,p_x.Shard,p_x.Epoch⟩:oR_Shard)
def out_oR_ShardFrom (p_x:api_Image) (r:oR_Shard):AV × WH:=((.ptr (some (0,0))),[(some (.cells (e_oR_Shard r) false false))])
theorem s_oR_ShardFrom (d:Nat) {p_x:api_Image} {r:oR_Shard} (h:oR_ShardFrom p_x=some r):Spec (wcalls atab (d+4)) 50 [(.agg (e_api_Image p_x))] [] (out_oR_ShardFrom p_x r).1 (out_oR_ShardFrom p_x r).2:=by
  unfold oR_ShardFrom at h
  exact spec_by nB AF50 h (.bd fun x1 q1=>Cl [] Fo [.slice none 2 0 0 true] (s_oR_TableOf (d+0) q1) <| .er <| .ob (rfl:@Eq (Option AV) (some (l_api_Sess p_x.Sess)) (some (l_api_Sess p_x.Sess))) <| .bd fun x2 q2=>Cl [] Fo [.slice none 4 0 0 true] (s_oR_SessionsOf (d+0) q2) <| Fn Fo [] none)
def oR_RightReq (p_r:api_Req):Option (Bool) :=
  cond (decide (p_r.Client ≥ 0)) (cond (decide (p_r.Client < 4)) (cond (decide (p_r.Seq ≥ 1)) (cond (decide (p_r.Seq≤4611686018427387903)) ((oR_RightOp p_r.Op).bind fun (x1:Bool)=>some x1) (some false)) (some false)) (some false)) (some false)
def out_oR_RightReq (p_r:api_Req) (r:Bool):AV × WH:=((.bool r),[])
theorem s_oR_RightReq (d:Nat) {p_r:api_Req} {r:Bool} (h:oR_RightReq p_r=some r):Spec (wcalls atab (d+2)) 91 [(.agg (e_api_Req p_r))] [] (out_oR_RightReq p_r r).1 (out_oR_RightReq p_r r).2:=by
  unfold oR_RightReq at h
  exact spec_by nB AF91 h (.br 6 (fun _=>.br 11 (fun _=>.br 16 (fun _=>.br 21 (fun _=>.bd fun x1 q1=>Cb0 (s_oR_RightOp (d+0) q1) <| Fn Fo [] none) fun _=>Fn Fo [] none) fun _=>Fn Fo [] none) fun _=>Fn Fo [] none) fun _=>Fn Fo [] none)
def st_oR_Sessions_Last_3_L0 (p_s:oR_Shard) (client:Int) (s3:Int):List AV × WH:=([(.ptr (some (0,1))),(.int .i64 client),(.ptr (some (1,0))),(.int .i64 s3)],[(some (.cells (e_oR_Shard p_s) false false)),(some (.cells (e_api_Sess (⟨0,0,(⟨0,([]:List UInt8)⟩:api_Answer)⟩:api_Sess)) false false))])
def fin_oR_Sessions_Last_3_L0 (p_s:oR_Shard) (client:Int):api_Sess ⊕ Unit→Ex × Fast × WH:=fun
  | .inl e=>(.ret,[(4,(.ptr (some (1,0)))),(5,(.bool true))],[(some (.cells (e_oR_Shard p_s) false false)),(some (.cells (e_api_Sess e) false false))])
  | .inr e=>((.exit 0),[(4,(.ptr (some (1,0))))],[(some (.cells (e_oR_Shard p_s) false false)),(some (.cells (e_api_Sess (⟨0,0,(⟨0,([]:List UInt8)⟩:api_Answer)⟩:api_Sess)) false false))])
abbrev rx_oR_Sessions_Last_3_L0 (p_s:oR_Shard) (client:Int):=roundX [0,1,4,6] (st_oR_Sessions_Last_3_L0 p_s client) (fin_oR_Sessions_Last_3_L0 p_s client)
def oR_Sessions_Last_3_L0_s (p_s:oR_Shard) (client:Int) (s3:Int):Option ((Int) ⊕ (api_Sess ⊕ Unit)) :=
  cond (decide (s3 < (p_s.S_.L.length:Int))) ((getI p_s.S_.L s3).bind fun (x4:api_Sess)=>cond (x4.Client == client) ((getI p_s.S_.L s3).bind fun (x5:api_Sess)=>some (.inr (.inl x5))) (some (.inl (IntKind.i64.wrap (s3+1))))) (some (.inr (.inr ())))
def oR_Sessions_Last_3_L0 (p_s:oR_Shard) (client:Int) (s3:Int):Option (api_Sess ⊕ Unit):=loopX (oR_Sessions_Last_3_L0_s p_s client) KK s3
theorem b_oR_Sessions_Last_3_L0 (d:Nat) {p_s:oR_Shard} {client:Int} {s3:Int} {r:(Int) ⊕ (api_Sess ⊕ Unit)} (h:oR_Sessions_Last_3_L0_s p_s client s3=some r):RunX (bexec (wcalls atab (d+0)) KK 34 WB92_0) 1 (inL [0,1,4,6] (st_oR_Sessions_Last_3_L0 p_s client s3)) (rx_oR_Sessions_Last_3_L0 p_s client r):=by
  unfold oR_Sessions_Last_3_L0_s at h
  exact run_by nB WB92_0_ok h (.br 13 (fun _=>.bd fun x4 q4=>Ix R_api_Sess 21 q4 <| .br 25 (fun _=>.bd fun x5 q5=>Ix R_api_Sess 31 q5 <| .st none <| E0 [4,5]) fun _=>E0 [0,1,4,6]) fun _=>E0 [4])
theorem s_oR_Sessions_Last_3_L0 (d:Nat) {p_s:oR_Shard} {client:Int} {s3:Int} {r:api_Sess ⊕ Unit} (h:oR_Sessions_Last_3_L0 p_s client s3=some r):RunX (bloop (bexec (wcalls atab (d+0)) KK 34 WB92_0) [0,1,4,6] KK) 1 (inL [0,1,4,6] (st_oR_Sessions_Last_3_L0 p_s client s3)) (fin_oR_Sessions_Last_3_L0 p_s client r) :=
  loop_of (st:=st_oR_Sessions_Last_3_L0 p_s client) (fin:=fin_oR_Sessions_Last_3_L0 p_s client) (step:=oR_Sessions_Last_3_L0_s p_s client) (fun e=>by rcases e with e | e <;> (intro h; cases h)) (fun s x h=>b_oR_Sessions_Last_3_L0 d h) KK s3 r h
def oR_Sessions_Last_3 (client:Int) (p_s:oR_Shard):Option (api_Sess × Bool) :=
  (oR_Sessions_Last_3_L0 p_s client 0).bind fun (x6:api_Sess ⊕ Unit)=>cond (isL x6) (some ((getL x6),true)) (some ((⟨0,0,(⟨0,([]:List UInt8)⟩:api_Answer)⟩:api_Sess),false))
def out_oR_Sessions_Last_3 (client:Int) (p_s:oR_Shard) (r:api_Sess × Bool):AV × WH:=((.tuple [(.agg (e_api_Sess r.1)),(.bool r.2)]),[(some (.cells (e_oR_Shard p_s) false false))])
theorem s_oR_Sessions_Last_3 (d:Nat) {client:Int} {p_s:oR_Shard} {r:api_Sess × Bool} (h:oR_Sessions_Last_3 client p_s=some r):Spec (wcalls atab (d+1)) 92 [(.ptr (some (0,1))),(.int .i64 client)] [(some (.cells (e_oR_Shard p_s) false false))] (out_oR_Sessions_Last_3 client p_s r).1 (out_oR_Sessions_Last_3 client p_s r).2:=by
  unfold oR_Sessions_Last_3 at h
  exact spec_by nB AF92 h (.bd fun x6 q6=>.ite (fun hb7=>Lp [none,none,none,none] [] [] (rwr (il hb7) (s_oR_Sessions_Last_3_L0 (d+0) q6)) <| Fn Fo [] none) fun hb7=>Lp [none,none,none,none] [] [] (rwr (ir0 hb7) (s_oR_Sessions_Last_3_L0 (d+0) q6)) <| .st none <| Fn Fo [] none)
def st_oR_Table_find_3_L0 (t:oR_Shard) (key:List UInt8) (s3:Int):List AV × WH:=([(.ptr (some (0,0))),(.str key),(.int .i64 s3)],[(some (.cells (e_oR_Shard t) false false))])
def fin_oR_Table_find_3_L0 (t:oR_Shard) (key:List UInt8):(Int × Bool) ⊕ Unit→Ex × Fast × WH:=fun
  | .inl e=>(.ret,[(4,(.int .i64 e.1)),(5,(.bool e.2))],[(some (.cells (e_oR_Shard t) false false))])
  | .inr e=>((.exit 0),[(0,(.ptr (some (0,0))))],[(some (.cells (e_oR_Shard t) false false))])
abbrev rx_oR_Table_find_3_L0 (t:oR_Shard) (key:List UInt8):=roundX [0,1,6] (st_oR_Table_find_3_L0 t key) (fin_oR_Table_find_3_L0 t key)
def oR_Table_find_3_L0_s (t:oR_Shard) (key:List UInt8) (s3:Int):Option ((Int) ⊕ ((Int × Bool) ⊕ Unit)) :=
  cond (decide (s3 < (t.T.L.length:Int))) ((getI t.T.L s3).bind fun (x4:api_Pair)=>cond (!(Op.bytesLess x4.Key key)) ((getI t.T.L s3).bind fun (x5:api_Pair)=>some (.inr (.inl (s3,(x5.Key == key))))) (some (.inl (IntKind.i64.wrap (s3+1))))) (some (.inr (.inr ())))
def oR_Table_find_3_L0 (t:oR_Shard) (key:List UInt8) (s3:Int):Option ((Int × Bool) ⊕ Unit):=loopX (oR_Table_find_3_L0_s t key) KK s3
theorem b_oR_Table_find_3_L0 (d:Nat) {t:oR_Shard} {key:List UInt8} {s3:Int} {r:(Int) ⊕ ((Int × Bool) ⊕ Unit)} (h:oR_Table_find_3_L0_s t key s3=some r):RunX (bexec (wcalls atab (d+0)) KK 42 WB113_0) 1 (inL [0,1,6] (st_oR_Table_find_3_L0 t key s3)) (rx_oR_Table_find_3_L0 t key r):=by
  unfold oR_Table_find_3_L0_s at h
  exact run_by nB WB113_0_ok h (.br 13 (fun _=>.bd fun x4 q4=>Ix R_api_Pair 21 q4 <| .br 25 (fun _=>.bd fun x5 q5=>Ix R_api_Pair 32 q5 <| E0 [4,5]) fun _=>E0 [0,1,6]) fun _=>E0 [0])
theorem s_oR_Table_find_3_L0 (d:Nat) {t:oR_Shard} {key:List UInt8} {s3:Int} {r:(Int × Bool) ⊕ Unit} (h:oR_Table_find_3_L0 t key s3=some r):RunX (bloop (bexec (wcalls atab (d+0)) KK 42 WB113_0) [0,1,6] KK) 1 (inL [0,1,6] (st_oR_Table_find_3_L0 t key s3)) (fin_oR_Table_find_3_L0 t key r) :=
  loop_of (st:=st_oR_Table_find_3_L0 t key) (fin:=fin_oR_Table_find_3_L0 t key) (step:=oR_Table_find_3_L0_s t key) (fun e=>by rcases e with e | e <;> (intro h; cases h)) (fun s x h=>b_oR_Table_find_3_L0 d h) KK s3 r h
def oR_Table_find_3 (key:List UInt8) (t:oR_Shard):Option (Int × Bool) :=
  (oR_Table_find_3_L0 t key 0).bind fun (x6:(Int × Bool) ⊕ Unit)=>cond (isL x6) (some ((getL x6).1,(getL x6).2)) (some ((t.T.L.length:Int),false))
def out_oR_Table_find_3 (key:List UInt8) (t:oR_Shard) (r:Int × Bool):AV × WH:=((.tuple [(.int .i64 r.1),(.bool r.2)]),[(some (.cells (e_oR_Shard t) false false))])
theorem s_oR_Table_find_3 (d:Nat) {key:List UInt8} {t:oR_Shard} {r:Int × Bool} (h:oR_Table_find_3 key t=some r):Spec (wcalls atab (d+1)) 113 [(.ptr (some (0,0))),(.str key)] [(some (.cells (e_oR_Shard t) false false))] (out_oR_Table_find_3 key t r).1 (out_oR_Table_find_3 key t r).2:=by
  unfold oR_Table_find_3 at h
  exact spec_by nB AF113 h (.bd fun x6 q6=>.ite (fun hb7=>Lp [none,none,none] [] [] (rwr (il hb7) (s_oR_Table_find_3_L0 (d+0) q6)) <| Fn Fo [] none) fun hb7=>Lp [none,none,none] [] [] (rwr (ir0 hb7) (s_oR_Table_find_3_L0 (d+0) q6)) <| Fn Fo [] none)
end Go.Proofs.Ytgahmammhclobaa
