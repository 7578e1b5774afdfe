import Derived.Test.YtachollgbplikaaXt
import Derived.Test.YtachollgbplikaaXs
import Derived.Test.YtachollgbplikaaY1
set_option linter.all false
set_option maxRecDepth 100000
namespace Go.Proofs.Ytachollgbplikaa
def st_oR_TableOf_L0 (l:List api_Pair) (s7:Int × List api_Pair):List AV × WH:=([(l_api_Pair l),(.ptr (some (0,0))),(.ptr (some (1,0))),(.int .i64 s7.1)],[(some (.cells [(.acc 2 0 2 0 true)] false false)),(some (.cells [(.acc 3 0 2 s7.2.length true)] false false)),(some (.cells (F_api_Pair []) false true)),(some (.cells (F_api_Pair s7.2) false true))])
def fin_oR_TableOf_L0 (l:List api_Pair):(List api_Pair)→Ex × Fast × WH:=fun e=>((.exit 0),[(2,(.ptr (some (0,0)))),(3,(.ptr (some (1,0))))],[(some (.cells [(.acc 2 0 2 0 true)] false false)),(some (.cells [(.acc 3 0 2 e.length true)] false false)),(some (.cells (F_api_Pair []) false true)),(some (.cells (F_api_Pair e) false true))])
abbrev rx_oR_TableOf_L0 (l:List api_Pair):=roundX [0,2,3,4] (st_oR_TableOf_L0 l) (fin_oR_TableOf_L0 l)
def oR_TableOf_L0_s (l:List api_Pair) (s7:Int × List api_Pair):Option ((Int × List api_Pair) ⊕ ((List api_Pair))) :=
  cond (decide (s7.1 < (l.length:Int))) ((getI l s7.1).bind fun (x8:api_Pair)=>(getI l s7.1).bind fun (x9:api_Pair)=>(oR_Table_Do_2 (⟨2,x8.Key,x9.Value,([]:List UInt8)⟩:api_Op) s7.2).bind fun (x10:api_Answer × List api_Pair)=>some (.inl ((IntKind.i64.wrap (s7.1+1)),x10.2))) (some (.inr s7.2))
def oR_TableOf_L0 (l:List api_Pair) (s7:Int × List api_Pair):Option ((List api_Pair)):=loopX (oR_TableOf_L0_s l) KK s7
theorem b_oR_TableOf_L0 (d:Nat) {l:List api_Pair} {s7:Int × List api_Pair} {r:(Int × List api_Pair) ⊕ ((List api_Pair))} (h:oR_TableOf_L0_s l s7=some r):RunX (bexec (wcalls atab (d+2)) KK 25 WB60_0) 0 (inL [0,2,3,4] (st_oR_TableOf_L0 l s7)) (rx_oR_TableOf_L0 l r):=by
  obtain ⟨x8,hx8⟩:=wx (getI l s7.1)
  obtain ⟨x9,hx9⟩:=wx (getI l s7.1)
  obtain ⟨x10,hx10⟩:=wx (oR_Table_Do_2 (⟨2,x8.Key,x9.Value,([]:List UInt8)⟩:api_Op) s7.2)
  have e:∀ C:ACalls,wCode C (fun _=>none) KK 25 0 WB60_0 (inL [0,2,3,4] (st_oR_TableOf_L0 l s7)).1 (inL [0,2,3,4] (st_oR_TableOf_L0 l s7)).2 (.br 9 (.v 14 (.elem ((e_api_Pair x8) ++ F_api_Pair (l.drop (s7.1.toNat+1)))) (.v 19 (.elem ((e_api_Pair x9) ++ F_api_Pair (l.drop (s7.1.toNat+1)))) (.call [] none [] (.agg (e_api_Answer x10.1)) [(some (.cells [(.acc 2 0 2 x10.2.length true)] false false)),none,(some (.cells (F_api_Pair x10.2) false true))] (.en [0,2,3,4] [none,none,none,none] [] [.slice none 2 0 0 true,.undef,.undef,.undef])))) (.en [2,3] [none,none] [] [])) (rx_oR_TableOf_L0 l r)=(((decide (s7.1 < (l.length:Int)))=true→(wP (.idxSlice 2 (.c (l_api_Pair l)) (.c (.int .i64 s7.1)))=some (.elem ((e_api_Pair x8) ++ F_api_Pair (l.drop (s7.1.toNat+1))))∧(wP (.idxSlice 2 (.c (l_api_Pair l)) (.c (.int .i64 s7.1)))=some (.elem ((e_api_Pair x9) ++ F_api_Pair (l.drop (s7.1.toNat+1))))∧(Spec C 62 [(.ptr (some (0,0))),(.agg (e_api_Op (⟨2,x8.Key,x9.Value,([]:List UInt8)⟩:api_Op)))] [(some (.cells [(.acc 1 0 2 s7.2.length true)] false false)),(some (.cells (F_api_Pair s7.2) false true))] (.agg (e_api_Answer x10.1)) [(some (.cells [(.acc 2 0 2 x10.2.length true)] false false)),none,(some (.cells (F_api_Pair x10.2) false true))]∧(2≤3∧lfe (rx_oR_TableOf_L0 l) (.inl ((IntKind.i64.wrap (s7.1+1)),x10.2)) r)))))∧((decide (s7.1 < (l.length:Int)))=false→lfe (rx_oR_TableOf_L0 l) (.inr s7.2) r)):=fun C=>by kernel_rfl
  refine runS_of (fun _ _ h=>by cases h) WB60_0_ok (Nat.le_of_ble_eq_true rfl) ((e _).mpr ?_)
  unfold oR_TableOf_L0_s at h
  refine ⟨fun hb=>?_,fun hb=>?_⟩
  · have h:=cond_t hb h
    obtain ⟨q8,h⟩:=bget hx8 h
    refine ⟨wP_idx R_api_Pair q8, ?_⟩
    obtain ⟨q9,h⟩:=bget hx9 h
    refine ⟨wP_idx R_api_Pair q9, ?_⟩
    obtain ⟨q10,h⟩:=bget hx10 h
    refine ⟨s_oR_Table_Do_2 (d+0) q10, ?_⟩
    refine ⟨by decide, ?_⟩
    exact lfe_of h
  · have h:=cond_f hb h
    exact lfe_of h
theorem s_oR_TableOf_L0 (d:Nat) {l:List api_Pair} {s7:Int × List api_Pair} {r:(List api_Pair)} (h:oR_TableOf_L0 l s7=some r):RunX (bloop (bexec (wcalls atab (d+2)) KK 25 WB60_0) [0,2,3,4] KK) 0 (inL [0,2,3,4] (st_oR_TableOf_L0 l s7)) (fin_oR_TableOf_L0 l r) :=
  loop_of (st:=st_oR_TableOf_L0 l) (fin:=fin_oR_TableOf_L0 l) (step:=oR_TableOf_L0_s l) (fun e=>by (intro h; cases h)) (fun s x h=>b_oR_TableOf_L0 d h) KK s7 r h
def oR_TableOf (l:List api_Pair):Option (oR_Table) :=
  (oR_TableOf_L0 l (0,[])).bind fun (x11:(List api_Pair))=>some (⟨x11⟩:oR_Table)
def out_oR_TableOf (l:List api_Pair) (r:oR_Table):AV × WH:=((.agg (e_oR_Table r)),[])
theorem s_oR_TableOf (d:Nat) {l:List api_Pair} {r:oR_Table} (h:oR_TableOf l=some r):Spec (wcalls atab (d+3)) 60 [(l_api_Pair l)] [] (out_oR_TableOf l r).1 (out_oR_TableOf l r).2:=by
  obtain ⟨x11,hx11⟩:=wx (oR_TableOf_L0 l (0,[]))
  have e:∀ C:ACalls,wBody C (fun _=>none) KK WF60 [(l_api_Pair l)] [] (.z 2 [.slice none 2 0 0 true] (.z 5 [.agg [.slice none 2 0 0 true]] (.z 3 [.slice none 2 0 0 true] (.st none (.lp [none,none,none,none] [(some true),(some true),(some true),(some true)] [.slice none 2 0 0 true,.undef,.undef,.undef] (.exit 0) [(2,(.ptr (some (0,0)))),(3,(.ptr (some (1,0))))] [(some (.cells [(.acc 2 0 2 0 true)] false false)),(some (.cells [(.acc 3 0 2 x11.length true)] false false)),(some (.cells (F_api_Pair []) false true)),(some (.cells (F_api_Pair x11) false true))] (.st none (.fin (some false) [.agg [.slice none 2 0 0 true]] none))))))) (out_oR_TableOf l r).1 (out_oR_TableOf l r).2=(1=1∧1≤25∧(RunS (bloop (bexec C KK 25 WB60_0) [0,2,3,4] KK) 0 [(0,(l_api_Pair l)),(2,(.ptr (some (0,0)))),(3,(.ptr (some (1,0)))),(4,(.int .i64 0))] [(some (.cells [(.acc 2 0 2 0 true)] false false)),(some (.cells [(.acc 3 0 2 0 true)] false false)),(some (.cells (F_api_Pair []) false true)),(some (.cells (F_api_Pair []) false true))] (.exit 0) [(2,(.ptr (some (0,0)))),(3,(.ptr (some (1,0))))] [(some (.cells [(.acc 2 0 2 0 true)] false false)),(some (.cells [(.acc 3 0 2 x11.length true)] false false)),(some (.cells (F_api_Pair []) false true)),(some (.cells (F_api_Pair x11) false true))]∧lff (out_oR_TableOf l) (⟨x11⟩:oR_Table) r)):=fun C=>by kernel_rfl
  refine spec_of (fun _ _ h=>by cases h) rfl atab_60 WF60_ok ((e _).mpr ⟨rfl,by decide, ?_⟩)
  unfold oR_TableOf at h
  obtain ⟨q11,h⟩:=bget hx11 h
  refine ⟨s_oR_TableOf_L0 (d+0) q11, ?_⟩
  exact lff_of h
abbrev in_oH_Op_J0 (x1:Int) (value:Int) (old:Int) (x2:List UInt8):Fast × WH:=([(2,(.int .i64 value)),(3,(.int .i64 old)),(8,(.ptr (some (0,0)))),(9,(.ptr (some (1,0))))],[(some (.cells (e_api_Op (⟨0,([]:List UInt8),([]:List UInt8),([]:List UInt8)⟩:api_Op)) false false)),(some (.cells (e_api_Op (⟨(IntKind.i64.wrap (1+x1)),x2,([]:List UInt8),([]:List UInt8)⟩:api_Op)) false false))])
def fin_oH_Op_J0 (x1:Int) (value:Int) (old:Int) (x2:List UInt8):Bool→Ex × Fast × WH:=fun e=>(.normal,[(2,(.int .i64 value)),(3,(.int .i64 old)),(8,(.ptr (some (0,0)))),(9,(.ptr (some (1,0)))),(23,(.bool e))],[(some (.cells (e_api_Op (⟨0,([]:List UInt8),([]:List UInt8),([]:List UInt8)⟩:api_Op)) false false)),(some (.cells (e_api_Op (⟨(IntKind.i64.wrap (1+x1)),x2,([]:List UInt8),([]:List UInt8)⟩:api_Op)) false false))])
def oH_Op_J0 (x1:Int) (value:Int) (old:Int) (x2:List UInt8):Option (Bool) :=
  cond ((IntKind.i64.wrap (1+x1)) == 2) (some true) (some ((IntKind.i64.wrap (1+x1)) == 4))
theorem s_oH_Op_J0 (d:Nat) {x1:Int} {value:Int} {old:Int} {x2:List UInt8} {r:Bool} (h:oH_Op_J0 x1 value old x2=some r):RunX (bexec (wcalls atab (d+0)) KK 34 WJ51_bbaa) 0 (in_oH_Op_J0 x1 value old x2) (fin_oH_Op_J0 x1 value old x2 r):=by
  have e:∀ C:ACalls,wCode C (fun _=>none) KK 34 0 WJ51_bbaa (in_oH_Op_J0 x1 value old x2).1 (in_oH_Op_J0 x1 value old x2).2 (.br 19 (.en [2,3,8,9,23] [none,none,none,none,none] [] []) (.en [2,3,8,9,23] [none,none,none,none,none] [] [])) (fin_oH_Op_J0 x1 value old x2 r)=((((IntKind.i64.wrap (1+x1)) == 2)=true→lfe (fin_oH_Op_J0 x1 value old x2) true r)∧(((IntKind.i64.wrap (1+x1)) == 2)=false→lfe (fin_oH_Op_J0 x1 value old x2) ((IntKind.i64.wrap (1+x1)) == 4) r)):=fun C=>by kernel_rfl
  refine runS_of (fun _ _ h=>by cases h) WJ51_bbaa_ok (Nat.le_of_ble_eq_true rfl) ((e _).mpr ?_)
  unfold oH_Op_J0 at h
  refine ⟨fun hb=>?_,fun hb=>?_⟩
  · have h:=cond_t hb h
    exact lfe_of h
  · have h:=cond_f hb h
    exact lfe_of h
abbrev in_oH_Op_J1 (x1:Int) (value:Int) (old:Int) (x2:List UInt8):Fast × WH:=([(2,(.int .i64 value)),(3,(.int .i64 old)),(8,(.ptr (some (0,0)))),(9,(.ptr (some (1,0))))],[(some (.cells (e_api_Op (⟨0,([]:List UInt8),([]:List UInt8),([]:List UInt8)⟩:api_Op)) false false)),(some (.cells (e_api_Op (⟨(IntKind.i64.wrap (1+x1)),x2,([]:List UInt8),([]:List UInt8)⟩:api_Op)) false false))])
def fin_oH_Op_J1 (x1:Int) (value:Int) (old:Int) (x2:List UInt8):api_Op→Ex × Fast × WH:=fun e=>(.normal,[(3,(.int .i64 old)),(8,(.ptr (some (0,0)))),(9,(.ptr (some (1,0))))],[(some (.cells (e_api_Op (⟨0,([]:List UInt8),([]:List UInt8),([]:List UInt8)⟩:api_Op)) false false)),(some (.cells (e_api_Op e) false false))])
def oH_Op_J1 (x1:Int) (value:Int) (old:Int) (x2:List UInt8):Option (api_Op) :=
  (oH_Op_J0 x1 value old x2).bind fun (x3:Bool)=>cond x3 ((oH_Value value).bind fun (x4:List UInt8)=>some (⟨(IntKind.i64.wrap (1+x1)),x2,x4,([]:List UInt8)⟩:api_Op)) (some (⟨(IntKind.i64.wrap (1+x1)),x2,([]:List UInt8),([]:List UInt8)⟩:api_Op))
theorem s_oH_Op_J1 (d:Nat) {x1:Int} {value:Int} {old:Int} {x2:List UInt8} {r:api_Op} (h:oH_Op_J1 x1 value old x2=some r):RunX (bexec (wcalls atab (d+2)) KK 34 WJ51_bba) 0 (in_oH_Op_J1 x1 value old x2) (fin_oH_Op_J1 x1 value old x2 r):=by
  obtain ⟨x3,hx3⟩:=wx (oH_Op_J0 x1 value old x2)
  obtain ⟨x4,hx4⟩:=wx (oH_Value value)
  have e:∀ C:ACalls,wCode C (fun _=>none) KK 34 0 WJ51_bba (in_oH_Op_J1 x1 value old x2).1 (in_oH_Op_J1 x1 value old x2).2 (.jn [2,3,8,9] [none,none,none,none] [] [] .normal [(2,(.int .i64 value)),(3,(.int .i64 old)),(8,(.ptr (some (0,0)))),(9,(.ptr (some (1,0)))),(23,(.bool x3))] [(some (.cells (e_api_Op (⟨0,([]:List UInt8),([]:List UInt8),([]:List UInt8)⟩:api_Op)) false false)),(some (.cells (e_api_Op (⟨(IntKind.i64.wrap (1+x1)),x2,([]:List UInt8),([]:List UInt8)⟩:api_Op)) false false))] (.br 23 (.cb [] [] (.str x4) (.st none (.en [3,8,9] [none,none,none] [] []))) (.en [3,8,9] [none,none,none] [] []))) (fin_oH_Op_J1 x1 value old x2 r)=(RunS (bexec C KK 34 WJ51_bbaa) 0 [(2,(.int .i64 value)),(3,(.int .i64 old)),(8,(.ptr (some (0,0)))),(9,(.ptr (some (1,0))))] [(some (.cells (e_api_Op (⟨0,([]:List UInt8),([]:List UInt8),([]:List UInt8)⟩:api_Op)) false false)),(some (.cells (e_api_Op (⟨(IntKind.i64.wrap (1+x1)),x2,([]:List UInt8),([]:List UInt8)⟩:api_Op)) false false))] .normal [(2,(.int .i64 value)),(3,(.int .i64 old)),(8,(.ptr (some (0,0)))),(9,(.ptr (some (1,0)))),(23,(.bool x3))] [(some (.cells (e_api_Op (⟨0,([]:List UInt8),([]:List UInt8),([]:List UInt8)⟩:api_Op)) false false)),(some (.cells (e_api_Op (⟨(IntKind.i64.wrap (1+x1)),x2,([]:List UInt8),([]:List UInt8)⟩:api_Op)) false false))]∧((x3=true→(Spec C 59 [(.int .i64 value)] [] (.str x4) []∧lfe (fin_oH_Op_J1 x1 value old x2) (⟨(IntKind.i64.wrap (1+x1)),x2,x4,([]:List UInt8)⟩:api_Op) r))∧(x3=false→lfe (fin_oH_Op_J1 x1 value old x2) (⟨(IntKind.i64.wrap (1+x1)),x2,([]:List UInt8),([]:List UInt8)⟩:api_Op) r))):=fun C=>by kernel_rfl
  refine runS_of (fun _ _ h=>by cases h) WJ51_bba_ok (Nat.le_of_ble_eq_true rfl) ((e _).mpr ?_)
  unfold oH_Op_J1 at h
  obtain ⟨q3,h⟩:=bget hx3 h
  refine ⟨s_oH_Op_J0 (d+2) q3, ?_⟩
  refine ⟨fun hb=>?_,fun hb=>?_⟩
  · have h:=cond_t hb h
    obtain ⟨q4,h⟩:=bget hx4 h
    refine ⟨s_oH_Value (d+0) q4, ?_⟩
    exact lfe_of h
  · have h:=cond_f hb h
    exact lfe_of h
def oH_Op (kind:Int) (key:Int) (value:Int) (old:Int):Option (api_Op) :=
  (oH_Pick kind 4).bind fun (x1:Int)=>(oH_Key key).bind fun (x2:List UInt8)=>(oH_Op_J1 x1 value old x2).bind fun (x5:api_Op)=>cond (x5.Kind == 4) ((oH_Value old).bind fun (x6:List UInt8)=>some (⟨x5.Kind,x5.Key,x5.Value,x6⟩:api_Op)) (some x5)
def out_oH_Op (kind:Int) (key:Int) (value:Int) (old:Int) (r:api_Op):AV × WH:=((.agg (e_api_Op r)),[])
theorem s_oH_Op (d:Nat) {kind:Int} {key:Int} {value:Int} {old:Int} {r:api_Op} (h:oH_Op kind key value old=some r):Spec (wcalls atab (d+3)) 51 [(.int .i64 kind),(.int .i64 key),(.int .i64 value),(.int .i64 old)] [] (out_oH_Op kind key value old r).1 (out_oH_Op kind key value old r).2:=by
  obtain ⟨x1,hx1⟩:=wx (oH_Pick kind 4)
  obtain ⟨x2,hx2⟩:=wx (oH_Key key)
  obtain ⟨x5,hx5⟩:=wx (oH_Op_J1 x1 value old x2)
  obtain ⟨x6,hx6⟩:=wx (oH_Value old)
  have e:∀ C:ACalls,wBody C (fun _=>none) KK WF51 [(.int .i64 kind),(.int .i64 key),(.int .i64 value),(.int .i64 old)] [] (.cb [] [] (.int .i64 x1) (.cb [] [] (.str x2) (.st none (.jn [2,3,8,9] [none,none,none,none] [] [] .normal [(3,(.int .i64 old)),(8,(.ptr (some (0,0)))),(9,(.ptr (some (1,0))))] [(some (.cells (e_api_Op (⟨0,([]:List UInt8),([]:List UInt8),([]:List UInt8)⟩:api_Op)) false false)),(some (.cells (e_api_Op x5) false false))] (.br 29 (.cb [] [] (.str x6) (.st none (.st none (.fin (some false) [] none)))) (.st none (.fin (some false) [] none))))))) (out_oH_Op kind key value old r).1 (out_oH_Op kind key value old r).2=(4=4∧4≤34∧(Spec C 28 [(.int .i64 kind),(.int .i64 4)] [] (.int .i64 x1) []∧(Spec C 58 [(.int .i64 key)] [] (.str x2) []∧(RunS (bexec C KK 34 WJ51_bba) 0 [(2,(.int .i64 value)),(3,(.int .i64 old)),(8,(.ptr (some (0,0)))),(9,(.ptr (some (1,0))))] [(some (.cells (e_api_Op (⟨0,([]:List UInt8),([]:List UInt8),([]:List UInt8)⟩:api_Op)) false false)),(some (.cells (e_api_Op (⟨(IntKind.i64.wrap (1+x1)),x2,([]:List UInt8),([]:List UInt8)⟩:api_Op)) false false))] .normal [(3,(.int .i64 old)),(8,(.ptr (some (0,0)))),(9,(.ptr (some (1,0))))] [(some (.cells (e_api_Op (⟨0,([]:List UInt8),([]:List UInt8),([]:List UInt8)⟩:api_Op)) false false)),(some (.cells (e_api_Op x5) false false))]∧(((x5.Kind == 4)=true→(Spec C 59 [(.int .i64 old)] [] (.str x6) []∧lff (out_oH_Op kind key value old) (⟨x5.Kind,x5.Key,x5.Value,x6⟩:api_Op) r))∧((x5.Kind == 4)=false→lff (out_oH_Op kind key value old) x5 r)))))):=fun C=>by kernel_rfl
  refine spec_of (fun _ _ h=>by cases h) rfl atab_51 WF51_ok ((e _).mpr ⟨rfl,by decide, ?_⟩)
  unfold oH_Op at h
  obtain ⟨q1,h⟩:=bget hx1 h
  refine ⟨s_oH_Pick (d+1) q1, ?_⟩
  obtain ⟨q2,h⟩:=bget hx2 h
  refine ⟨s_oH_Key (d+0) q2, ?_⟩
  obtain ⟨q5,h⟩:=bget hx5 h
  refine ⟨s_oH_Op_J1 (d+0) q5, ?_⟩
  refine ⟨fun hb=>?_,fun hb=>?_⟩
  · have h:=cond_t hb h
    obtain ⟨q6,h⟩:=bget hx6 h
    refine ⟨s_oH_Value (d+0) q6, ?_⟩
    exact lff_of h
  · have h:=cond_f hb h
    exact lff_of h
def oH_Text (p_s:List UInt8) (n:Int):Option (List UInt8) :=
  cond (decide ((p_s.length:Int) > n)) ((slI p_s 0 n).bind fun (x1:List UInt8)=>some x1) (some p_s)
def out_oH_Text (p_s:List UInt8) (n:Int) (r:List UInt8):AV × WH:=((.str r),[])
theorem s_oH_Text (d:Nat) {p_s:List UInt8} {n:Int} {r:List UInt8} (h:oH_Text p_s n=some r):Spec (wcalls atab (d+1)) 102 [(.str p_s),(.int .i64 n)] [] (out_oH_Text p_s n r).1 (out_oH_Text p_s n r).2:=by
  obtain ⟨x1,hx1⟩:=wx (slI p_s 0 n)
  have e:∀ C:ACalls,wBody C (fun _=>none) KK WF102 [(.str p_s),(.int .i64 n)] [] (.br 8 (.v 11 (.str x1) (.fin (some false) [] none)) (.fin (some false) [] none)) (out_oH_Text p_s n r).1 (out_oH_Text p_s n r).2=(2=2∧2≤13∧(((decide ((p_s.length:Int) > n))=true→(wP (.sliceStr (.c (.str p_s)) none (some (.c (.int .i64 n))))=some (.str x1)∧lff (out_oH_Text p_s n) x1 r))∧((decide ((p_s.length:Int) > n))=false→lff (out_oH_Text p_s n) p_s r))):=fun C=>by kernel_rfl
  refine spec_of (fun _ _ h=>by cases h) rfl atab_102 WF102_ok ((e _).mpr ⟨rfl,by decide, ?_⟩)
  unfold oH_Text at h
  refine ⟨fun hb=>?_,fun hb=>?_⟩
  · have h:=cond_t hb h
    obtain ⟨q1,h⟩:=bget hx1 h
    refine ⟨wP_slS_h q1, ?_⟩
    exact lff_of h
  · have h:=cond_f hb h
    exact lff_of h
abbrev in_oH_Num_J0 (x1:Int) (n:Int):Fast × WH:=([(0,(.int .i64 n)),(4,(.int .i64 x1))],[])
def fin_oH_Num_J0 (x1:Int) (n:Int):Bool→Ex × Fast × WH:=fun e=>(.normal,[(0,(.int .i64 n)),(4,(.int .i64 x1)),(5,(.bool e))],[])
def oH_Num_J0 (x1:Int) (n:Int):Option (Bool) :=
  cond (x1 == 0) (some true) (cond (x1 == 1) (some true) (some (x1 == 2)))
theorem s_oH_Num_J0 (d:Nat) {x1:Int} {n:Int} {r:Bool} (h:oH_Num_J0 x1 n=some r):RunX (bexec (wcalls atab (d+0)) KK 35 WJ103_babka) 0 (in_oH_Num_J0 x1 n) (fin_oH_Num_J0 x1 n r):=by
  have e:∀ C:ACalls,wCode C (fun _=>none) KK 35 0 WJ103_babka (in_oH_Num_J0 x1 n).1 (in_oH_Num_J0 x1 n).2 (.br 5 (.en [0,4,5] [none,none,none] [] []) (.br 5 (.en [0,4,5] [none,none,none] [] []) (.en [0,4,5] [none,none,none] [] []))) (fin_oH_Num_J0 x1 n r)=(((x1 == 0)=true→lfe (fin_oH_Num_J0 x1 n) true r)∧((x1 == 0)=false→(((x1 == 1)=true→lfe (fin_oH_Num_J0 x1 n) true r)∧((x1 == 1)=false→lfe (fin_oH_Num_J0 x1 n) (x1 == 2) r)))):=fun C=>by kernel_rfl
  refine runS_of (fun _ _ h=>by cases h) WJ103_babka_ok (Nat.le_of_ble_eq_true rfl) ((e _).mpr ?_)
  unfold oH_Num_J0 at h
  refine ⟨fun hb=>?_,fun hb=>?_⟩
  · have h:=cond_t hb h
    exact lfe_of h
  · have h:=cond_f hb h
    refine ⟨fun hb=>?_,fun hb=>?_⟩
    · have h:=cond_t hb h
      exact lfe_of h
    · have h:=cond_f hb h
      exact lfe_of h
def oH_Num (n:Int):Option (Int) :=
  (oH_Pick n 7).bind fun (x1:Int)=>(oH_Num_J0 x1 n).bind fun (x2:Bool)=>cond x2 ((oH_Pick (IntKind.i64.wrap (Int.tdiv n 7)) 40).bind fun (x3:Int)=>some x3) (cond (x1 == 3) ((oH_Pick (IntKind.i64.wrap (Int.tdiv n 7)) 63).bind fun (x4:Int)=>(shlI .i64 1 (IntKind.u64.wrap x4)).bind fun (x5:Int)=>(oH_Pick (IntKind.i64.wrap (Int.tdiv n 441)) 3).bind fun (x6:Int)=>some (IntKind.i64.wrap (x5 - x6))) (cond (x1 == 4) ((oH_Pick (IntKind.i64.wrap (Int.tdiv n 7)) 3).bind fun (x7:Int)=>some (IntKind.i64.wrap (4611686018427387903 - x7))) (cond (x1 == 5) ((oH_Pick (IntKind.i64.wrap (Int.tdiv n 7)) 1000).bind fun (x8:Int)=>some x8) (some n))))
def out_oH_Num (n:Int) (r:Int):AV × WH:=((.int .i64 r),[])
theorem s_oH_Num (d:Nat) {n:Int} {r:Int} (h:oH_Num n=some r):Spec (wcalls atab (d+2)) 103 [(.int .i64 n)] [] (out_oH_Num n r).1 (out_oH_Num n r).2:=by
  obtain ⟨x1,hx1⟩:=wx (oH_Pick n 7)
  obtain ⟨x2,hx2⟩:=wx (oH_Num_J0 x1 n)
  obtain ⟨x3,hx3⟩:=wx (oH_Pick (IntKind.i64.wrap (Int.tdiv n 7)) 40)
  obtain ⟨x4,hx4⟩:=wx (oH_Pick (IntKind.i64.wrap (Int.tdiv n 7)) 63)
  obtain ⟨x5,hx5⟩:=wx (shlI .i64 1 (IntKind.u64.wrap x4))
  obtain ⟨x6,hx6⟩:=wx (oH_Pick (IntKind.i64.wrap (Int.tdiv n 441)) 3)
  obtain ⟨x7,hx7⟩:=wx (oH_Pick (IntKind.i64.wrap (Int.tdiv n 7)) 3)
  obtain ⟨x8,hx8⟩:=wx (oH_Pick (IntKind.i64.wrap (Int.tdiv n 7)) 1000)
  have e:∀ C:ACalls,wBody C (fun _=>none) KK WF103 [(.int .i64 n)] [] (.cb [] [] (.int .i64 x1) (.jn [0,4] [none,none] [] [] .normal [(0,(.int .i64 n)),(4,(.int .i64 x1)),(5,(.bool x2))] [] (.br 5 (.cb [] [] (.int .i64 x3) (.fin (some false) [] none)) (.br 12 (.cb [] [] (.int .i64 x4) (.v 18 (.int .i64 x5) (.cb [] [] (.int .i64 x6) (.fin (some false) [] none)))) (.br 23 (.cb [] [] (.int .i64 x7) (.fin (some false) [] none)) (.br 29 (.cb [] [] (.int .i64 x8) (.fin (some false) [] none)) (.fin (some false) [] none))))))) (out_oH_Num n r).1 (out_oH_Num n r).2=(1=1∧1≤35∧(Spec C 28 [(.int .i64 n),(.int .i64 7)] [] (.int .i64 x1) []∧(RunS (bexec C KK 35 WJ103_babka) 0 [(0,(.int .i64 n)),(4,(.int .i64 x1))] [] .normal [(0,(.int .i64 n)),(4,(.int .i64 x1)),(5,(.bool x2))] []∧((x2=true→(Spec C 28 [(.int .i64 (IntKind.i64.wrap (Int.tdiv n 7))),(.int .i64 40)] [] (.int .i64 x3) []∧lff (out_oH_Num n) x3 r))∧(x2=false→(((x1 == 3)=true→(Spec C 28 [(.int .i64 (IntKind.i64.wrap (Int.tdiv n 7))),(.int .i64 63)] [] (.int .i64 x4) []∧(aBin .shl (.int .i64 1) (.int .u64 (IntKind.u64.wrap x4))=some (.int .i64 x5)∧(Spec C 28 [(.int .i64 (IntKind.i64.wrap (Int.tdiv n 441))),(.int .i64 3)] [] (.int .i64 x6) []∧lff (out_oH_Num n) (IntKind.i64.wrap (x5 - x6)) r))))∧((x1 == 3)=false→(((x1 == 4)=true→(Spec C 28 [(.int .i64 (IntKind.i64.wrap (Int.tdiv n 7))),(.int .i64 3)] [] (.int .i64 x7) []∧lff (out_oH_Num n) (IntKind.i64.wrap (4611686018427387903 - x7)) r))∧((x1 == 4)=false→(((x1 == 5)=true→(Spec C 28 [(.int .i64 (IntKind.i64.wrap (Int.tdiv n 7))),(.int .i64 1000)] [] (.int .i64 x8) []∧lff (out_oH_Num n) x8 r))∧((x1 == 5)=false→lff (out_oH_Num n) n r))))))))))):=fun C=>by kernel_rfl
  refine spec_of (fun _ _ h=>by cases h) rfl atab_103 WF103_ok ((e _).mpr ⟨rfl,by decide, ?_⟩)
  unfold oH_Num at h
  obtain ⟨q1,h⟩:=bget hx1 h
  refine ⟨s_oH_Pick (d+0) q1, ?_⟩
  obtain ⟨q2,h⟩:=bget hx2 h
  refine ⟨s_oH_Num_J0 (d+1) q2, ?_⟩
  refine ⟨fun hb=>?_,fun hb=>?_⟩
  · have h:=cond_t hb h
    obtain ⟨q3,h⟩:=bget hx3 h
    refine ⟨s_oH_Pick (d+0) q3, ?_⟩
    exact lff_of h
  · have h:=cond_f hb h
    refine ⟨fun hb=>?_,fun hb=>?_⟩
    · have h:=cond_t hb h
      obtain ⟨q4,h⟩:=bget hx4 h
      refine ⟨s_oH_Pick (d+0) q4, ?_⟩
      obtain ⟨q5,h⟩:=bget hx5 h
      refine ⟨wP_shl q5, ?_⟩
      obtain ⟨q6,h⟩:=bget hx6 h
      refine ⟨s_oH_Pick (d+0) q6, ?_⟩
      exact lff_of h
    · have h:=cond_f hb h
      refine ⟨fun hb=>?_,fun hb=>?_⟩
      · have h:=cond_t hb h
        obtain ⟨q7,h⟩:=bget hx7 h
        refine ⟨s_oH_Pick (d+0) q7, ?_⟩
        exact lff_of h
      · have h:=cond_f hb h
        refine ⟨fun hb=>?_,fun hb=>?_⟩
        · have h:=cond_t hb h
          obtain ⟨q8,h⟩:=bget hx8 h
          refine ⟨s_oH_Pick (d+0) q8, ?_⟩
          exact lff_of h
        · have h:=cond_f hb h
          exact lff_of h
def oH_Req (p_x:oH_RawOp):Option (api_Req) :=
  (oH_Pick p_x.Client 4).bind fun (x1:Int)=>(oH_Pick p_x.Seq 9).bind fun (x2:Int)=>(oH_Op p_x.Kind p_x.Key p_x.Value p_x.Old).bind fun (x3:api_Op)=>(oH_Pick p_x.Bend 16).bind fun (x4:Int)=>cond (x4 == 10) ((oH_Text p_x.Text 12).bind fun (x5:List UInt8)=>some (⟨x1,(IntKind.i64.wrap (1+x2)),(⟨x3.Kind,x5,x3.Value,x3.Old⟩:api_Op)⟩:api_Req)) (cond (x4 == 11) ((oH_Text p_x.Text 20).bind fun (x6:List UInt8)=>some (⟨x1,(IntKind.i64.wrap (1+x2)),(⟨x3.Kind,x3.Key,x6,x3.Old⟩:api_Op)⟩:api_Req)) (cond (x4 == 12) ((oH_Pick (IntKind.i64.wrap (Int.tdiv p_x.Bend 16)) 8).bind fun (x7:Int)=>some (⟨x1,(IntKind.i64.wrap (1+x2)),(⟨(IntKind.i64.wrap (x7 - 1)),x3.Key,x3.Value,x3.Old⟩:api_Op)⟩:api_Req)) (cond (x4 == 13) ((oH_Pick (IntKind.i64.wrap (Int.tdiv p_x.Bend 16)) 9).bind fun (x8:Int)=>some (⟨(IntKind.i64.wrap (x8 - 2)),(IntKind.i64.wrap (1+x2)),x3⟩:api_Req)) (cond (x4 == 14) ((oH_Num (IntKind.i64.wrap (Int.tdiv p_x.Bend 16))).bind fun (x9:Int)=>some (⟨x1,x9,x3⟩:api_Req)) (cond (x4 == 15) (some (⟨0,0,(⟨0,([]:List UInt8),([]:List UInt8),([]:List UInt8)⟩:api_Op)⟩:api_Req)) (some (⟨x1,(IntKind.i64.wrap (1+x2)),x3⟩:api_Req)))))))
def out_oH_Req (p_x:oH_RawOp) (r:api_Req):AV × WH:=((.agg (e_api_Req r)),[])
theorem s_oH_Req (d:Nat) {p_x:oH_RawOp} {r:api_Req} (h:oH_Req p_x=some r):Spec (wcalls atab (d+4)) 61 [(.agg (e_oH_RawOp p_x))] [] (out_oH_Req p_x r).1 (out_oH_Req p_x r).2:=by
  obtain ⟨x1,hx1⟩:=wx (oH_Pick p_x.Client 4)
  obtain ⟨x2,hx2⟩:=wx (oH_Pick p_x.Seq 9)
  obtain ⟨x3,hx3⟩:=wx (oH_Op p_x.Kind p_x.Key p_x.Value p_x.Old)
  obtain ⟨x4,hx4⟩:=wx (oH_Pick p_x.Bend 16)
  obtain ⟨x5,hx5⟩:=wx (oH_Text p_x.Text 12)
  obtain ⟨x6,hx6⟩:=wx (oH_Text p_x.Text 20)
  obtain ⟨x7,hx7⟩:=wx (oH_Pick (IntKind.i64.wrap (Int.tdiv p_x.Bend 16)) 8)
  obtain ⟨x8,hx8⟩:=wx (oH_Pick (IntKind.i64.wrap (Int.tdiv p_x.Bend 16)) 9)
  obtain ⟨x9,hx9⟩:=wx (oH_Num (IntKind.i64.wrap (Int.tdiv p_x.Bend 16)))
  have e:∀ C:ACalls,wBody C (fun _=>none) KK WF61 [(.agg (e_oH_RawOp p_x))] [] (.cb [] [] (.int .i64 x1) (.cb [] [] (.int .i64 x2) (.cb [] [] (.agg (e_api_Op x3)) (.st none (.cb [] [] (.int .i64 x4) (.br 24 (.cb [] [] (.str x5) (.st none (.st none (.fin (some false) [] none)))) (.br 31 (.cb [] [] (.str x6) (.st none (.st none (.fin (some false) [] none)))) (.br 38 (.cb [] [] (.int .i64 x7) (.st none (.st none (.fin (some false) [] none)))) (.br 47 (.cb [] [] (.int .i64 x8) (.st none (.st none (.fin (some false) [] none)))) (.br 55 (.cb [] [] (.int .i64 x9) (.st none (.st none (.fin (some false) [] none)))) (.br 62 (.st none (.st none (.fin (some false) [] none))) (.st none (.fin (some false) [] none))))))))))))) (out_oH_Req p_x r).1 (out_oH_Req p_x r).2=(1=1∧1≤66∧(Spec C 28 [(.int .i64 p_x.Client),(.int .i64 4)] [] (.int .i64 x1) []∧(Spec C 28 [(.int .i64 p_x.Seq),(.int .i64 9)] [] (.int .i64 x2) []∧(Spec C 51 [(.int .i64 p_x.Kind),(.int .i64 p_x.Key),(.int .i64 p_x.Value),(.int .i64 p_x.Old)] [] (.agg (e_api_Op x3)) []∧(Spec C 28 [(.int .i64 p_x.Bend),(.int .i64 16)] [] (.int .i64 x4) []∧(((x4 == 10)=true→(Spec C 102 [(.str p_x.Text),(.int .i64 12)] [] (.str x5) []∧lff (out_oH_Req p_x) (⟨x1,(IntKind.i64.wrap (1+x2)),(⟨x3.Kind,x5,x3.Value,x3.Old⟩:api_Op)⟩:api_Req) r))∧((x4 == 10)=false→(((x4 == 11)=true→(Spec C 102 [(.str p_x.Text),(.int .i64 20)] [] (.str x6) []∧lff (out_oH_Req p_x) (⟨x1,(IntKind.i64.wrap (1+x2)),(⟨x3.Kind,x3.Key,x6,x3.Old⟩:api_Op)⟩:api_Req) r))∧((x4 == 11)=false→(((x4 == 12)=true→(Spec C 28 [(.int .i64 (IntKind.i64.wrap (Int.tdiv p_x.Bend 16))),(.int .i64 8)] [] (.int .i64 x7) []∧lff (out_oH_Req p_x) (⟨x1,(IntKind.i64.wrap (1+x2)),(⟨(IntKind.i64.wrap (x7 - 1)),x3.Key,x3.Value,x3.Old⟩:api_Op)⟩:api_Req) r))∧((x4 == 12)=false→(((x4 == 13)=true→(Spec C 28 [(.int .i64 (IntKind.i64.wrap (Int.tdiv p_x.Bend 16))),(.int .i64 9)] [] (.int .i64 x8) []∧lff (out_oH_Req p_x) (⟨(IntKind.i64.wrap (x8 - 2)),(IntKind.i64.wrap (1+x2)),x3⟩:api_Req) r))∧((x4 == 13)=false→(((x4 == 14)=true→(Spec C 103 [(.int .i64 (IntKind.i64.wrap (Int.tdiv p_x.Bend 16)))] [] (.int .i64 x9) []∧lff (out_oH_Req p_x) (⟨x1,x9,x3⟩:api_Req) r))∧((x4 == 14)=false→(((x4 == 15)=true→lff (out_oH_Req p_x) (⟨0,0,(⟨0,([]:List UInt8),([]:List UInt8),([]:List UInt8)⟩:api_Op)⟩:api_Req) r)∧((x4 == 15)=false→lff (out_oH_Req p_x) (⟨x1,(IntKind.i64.wrap (1+x2)),x3⟩:api_Req) r))))))))))))))))):=fun C=>by kernel_rfl
  refine spec_of (fun _ _ h=>by cases h) rfl atab_61 WF61_ok ((e _).mpr ⟨rfl,by decide, ?_⟩)
  unfold oH_Req at h
  obtain ⟨q1,h⟩:=bget hx1 h
  refine ⟨s_oH_Pick (d+2) q1, ?_⟩
  obtain ⟨q2,h⟩:=bget hx2 h
  refine ⟨s_oH_Pick (d+2) q2, ?_⟩
  obtain ⟨q3,h⟩:=bget hx3 h
  refine ⟨s_oH_Op (d+0) q3, ?_⟩
  obtain ⟨q4,h⟩:=bget hx4 h
  refine ⟨s_oH_Pick (d+2) q4, ?_⟩
  refine ⟨fun hb=>?_,fun hb=>?_⟩
  · have h:=cond_t hb h
    obtain ⟨q5,h⟩:=bget hx5 h
    refine ⟨s_oH_Text (d+2) q5, ?_⟩
    exact lff_of h
  · have h:=cond_f hb h
    refine ⟨fun hb=>?_,fun hb=>?_⟩
    · have h:=cond_t hb h
      obtain ⟨q6,h⟩:=bget hx6 h
      refine ⟨s_oH_Text (d+2) q6, ?_⟩
      exact lff_of h
    · have h:=cond_f hb h
      refine ⟨fun hb=>?_,fun hb=>?_⟩
      · have h:=cond_t hb h
        obtain ⟨q7,h⟩:=bget hx7 h
        refine ⟨s_oH_Pick (d+2) q7, ?_⟩
        exact lff_of h
      · have h:=cond_f hb h
        refine ⟨fun hb=>?_,fun hb=>?_⟩
        · have h:=cond_t hb h
          obtain ⟨q8,h⟩:=bget hx8 h
          refine ⟨s_oH_Pick (d+2) q8, ?_⟩
          exact lff_of h
        · have h:=cond_f hb h
          refine ⟨fun hb=>?_,fun hb=>?_⟩
          · have h:=cond_t hb h
            obtain ⟨q9,h⟩:=bget hx9 h
            refine ⟨s_oH_Num (d+1) q9, ?_⟩
            exact lff_of h
          · have h:=cond_f hb h
            refine ⟨fun hb=>?_,fun hb=>?_⟩
            · have h:=cond_t hb h
              exact lff_of h
            · have h:=cond_f hb h
              exact lff_of h
abbrev in_session_Sessions_Note_J0 (p_x:api_Sess) (p_s:session_Sessions):Fast × WH:=([(0,(.ptr (some (0,0)))),(3,(.ptr (some (1,0))))],[(some (.cells (e_session_Sessions p_s) false false)),(some (.cells (e_api_Sess p_x) false false))])
def fin_session_Sessions_Note_J0 (p_x:api_Sess) (p_s:session_Sessions):Unit ⊕ Unit→Ex × Fast × WH:=fun
  | .inl e=>(.ret,[(4,(.bool false))],[(some (.cells (e_session_Sessions p_s) false false))])
  | .inr e=>(.normal,[(0,(.ptr (some (0,0)))),(3,(.ptr (some (1,0))))],[(some (.cells (e_session_Sessions p_s) false false)),(some (.cells (e_api_Sess p_x) false false))])
def session_Sessions_Note_J0 (p_x:api_Sess) (p_s:session_Sessions):Option (Unit ⊕ Unit) :=
  cond (decide (p_x.Client < 0)) (some (.inl ())) (cond (decide (p_x.Client ≥ 4)) (some (.inl ())) (cond (decide (p_x.Seq < 1)) (some (.inl ())) ((getI (p_s.l.toL) p_x.Client).bind fun (x1:api_Sess)=>cond (decide (p_x.Seq≤x1.Seq)) (some (.inl ())) (some (.inr ())))))
theorem s_session_Sessions_Note_J0 (d:Nat) {p_x:api_Sess} {p_s:session_Sessions} {r:Unit ⊕ Unit} (h:session_Sessions_Note_J0 p_x p_s=some r):RunX (bexec (wcalls atab (d+0)) KK 38 WJ106_ba) 1 (in_session_Sessions_Note_J0 p_x p_s) (fin_session_Sessions_Note_J0 p_x p_s r):=by
  obtain ⟨x1,hx1⟩:=wx (getI (p_s.l.toL) p_x.Client)
  have e:∀ C:ACalls,wCode C (fun _=>none) KK 38 1 WJ106_ba (in_session_Sessions_Note_J0 p_x p_s).1 (in_session_Sessions_Note_J0 p_x p_s).2 (.br 8 (.en [4] [none] [] []) (.br 13 (.en [4] [none] [] []) (.br 18 (.en [4] [none] [] []) (.v 26 (.ptr (some (0,0+p_x.Client.toNat * 4))) (.v 28 (.int .i64 x1.Seq) (.br 30 (.en [4] [none] [] []) (.en [0,3] [none,none] [] []))))))) (fin_session_Sessions_Note_J0 p_x p_s r)=(((decide (p_x.Client < 0))=true→lfe (fin_session_Sessions_Note_J0 p_x p_s) (.inl ()) r)∧((decide (p_x.Client < 0))=false→(((decide (p_x.Client ≥ 4))=true→lfe (fin_session_Sessions_Note_J0 p_x p_s) (.inl ()) r)∧((decide (p_x.Client ≥ 4))=false→(((decide (p_x.Seq < 1))=true→lfe (fin_session_Sessions_Note_J0 p_x p_s) (.inl ()) r)∧((decide (p_x.Seq < 1))=false→(wP (.idxArr 4 4 (.c (.ptr (some (0,0)))) (.c (.int .i64 p_x.Client)))=some (.ptr (some (0,0+p_x.Client.toNat * 4)))∧(cPart false (0+p_x.Client.toNat * 4+1) 1 (e_session_Sessions p_s)=some (.int .i64 x1.Seq)∧(((decide (p_x.Seq≤x1.Seq))=true→lfe (fin_session_Sessions_Note_J0 p_x p_s) (.inl ()) r)∧((decide (p_x.Seq≤x1.Seq))=false→lfe (fin_session_Sessions_Note_J0 p_x p_s) (.inr ()) r)))))))))):=fun C=>by kernel_rfl
  refine runS_of (fun _ _ h=>by cases h) WJ106_ba_ok (Nat.le_of_ble_eq_true rfl) ((e _).mpr ?_)
  unfold session_Sessions_Note_J0 at h
  refine ⟨fun hb=>?_,fun hb=>?_⟩
  · have h:=cond_t hb h
    exact lfe_of h
  · have h:=cond_f hb h
    refine ⟨fun hb=>?_,fun hb=>?_⟩
    · have h:=cond_t hb h
      exact lfe_of h
    · have h:=cond_f hb h
      refine ⟨fun hb=>?_,fun hb=>?_⟩
      · have h:=cond_t hb h
        exact lfe_of h
      · have h:=cond_f hb h
        obtain ⟨q1,h⟩:=bget hx1 h
        refine ⟨wP_arr q1 rfl, ?_⟩
        refine ⟨cP_arr (p:=0) (o:=1) R_api_Sess q1 rfl rfl, ?_⟩
        refine ⟨fun hb=>?_,fun hb=>?_⟩
        · have h:=cond_t hb h
          exact lfe_of h
        · have h:=cond_f hb h
          exact lfe_of h
def session_Sessions_Note (p_x:api_Sess) (p_s:session_Sessions):Option (Bool × session_Sessions) :=
  (session_Sessions_Note_J0 p_x p_s).bind fun (x2:Unit ⊕ Unit)=>cond (isL x2) (some (false,p_s)) ((getI (p_s.l.toL) p_x.Client).bind fun (x4:api_Sess)=>some (true,(⟨(p_s.l.set p_x.Client p_x)⟩:session_Sessions)))
def out_session_Sessions_Note (p_x:api_Sess) (p_s:session_Sessions) (r:Bool × session_Sessions):AV × WH:=((.bool r.1),[(some (.cells (e_session_Sessions r.2) false false))])
theorem s_session_Sessions_Note (d:Nat) {p_x:api_Sess} {p_s:session_Sessions} {r:Bool × session_Sessions} (h:session_Sessions_Note p_x p_s=some r):Spec (wcalls atab (d+1)) 106 [(.ptr (some (0,0))),(.agg (e_api_Sess p_x))] [(some (.cells (e_session_Sessions p_s) false false))] (out_session_Sessions_Note p_x p_s r).1 (out_session_Sessions_Note p_x p_s r).2:=by
  obtain ⟨x2,hx2⟩:=wx (session_Sessions_Note_J0 p_x p_s)
  obtain ⟨x4,hx4⟩:=wx (getI (p_s.l.toL) p_x.Client)
  have e:∀ C:ACalls,wBody C (fun _=>none) KK WF106 [(.ptr (some (0,0))),(.agg (e_api_Sess p_x))] [(some (.cells (e_session_Sessions p_s) false false))] (.sk (.ite (isL x2) (.jn [0,3] [none,none] [] [] .ret [(4,(.bool false))] [(some (.cells (e_session_Sessions p_s) false false))] (.fin (some false) [] none)) (.jn [0,3] [none,none] [] [] .normal [(0,(.ptr (some (0,0)))),(3,(.ptr (some (1,0))))] [(some (.cells (e_session_Sessions p_s) false false)),(some (.cells (e_api_Sess p_x) false false))] (.v 37 (.ptr (some (0,0+p_x.Client.toNat * 4))) (.st (some (e_session_Sessions (⟨(p_s.l.set p_x.Client p_x)⟩:session_Sessions))) (.fin (some false) [] none)))))) (out_session_Sessions_Note p_x p_s r).1 (out_session_Sessions_Note p_x p_s r).2=(2=2∧2≤38∧(((isL x2)=true→(RunS (bexec C KK 38 WJ106_ba) 1 [(0,(.ptr (some (0,0)))),(3,(.ptr (some (1,0))))] [(some (.cells (e_session_Sessions p_s) false false)),(some (.cells (e_api_Sess p_x) false false))] .ret [(4,(.bool false))] [(some (.cells (e_session_Sessions p_s) false false))]∧lff (out_session_Sessions_Note p_x p_s) (false,p_s) r))∧((isL x2)=false→(RunS (bexec C KK 38 WJ106_ba) 1 [(0,(.ptr (some (0,0)))),(3,(.ptr (some (1,0))))] [(some (.cells (e_session_Sessions p_s) false false)),(some (.cells (e_api_Sess p_x) false false))] .normal [(0,(.ptr (some (0,0)))),(3,(.ptr (some (1,0))))] [(some (.cells (e_session_Sessions p_s) false false)),(some (.cells (e_api_Sess p_x) false false))]∧(wP (.idxArr 4 4 (.c (.ptr (some (0,0)))) (.c (.int .i64 p_x.Client)))=some (.ptr (some (0,0+p_x.Client.toNat * 4)))∧(wrC (e_session_Sessions p_s) (0+p_x.Client.toNat * 4) [(.int .i64 p_x.Client),(.int .i64 p_x.Seq),(.int .i64 p_x.Answer.Why),(.str p_x.Answer.Value)]=some (e_session_Sessions (⟨(p_s.l.set p_x.Client p_x)⟩:session_Sessions))∧lff (out_session_Sessions_Note p_x p_s) (true,(⟨(p_s.l.set p_x.Client p_x)⟩:session_Sessions)) r)))))):=fun C=>by kernel_rfl
  refine spec_of (fun _ _ h=>by cases h) rfl atab_106 WF106_ok ((e _).mpr ⟨rfl,by decide, ?_⟩)
  unfold session_Sessions_Note at h
  obtain ⟨q2,h⟩:=bget hx2 h
  refine ⟨fun hb3=>?_,fun hb3=>?_⟩
  · have h:=cond_t hb3 h
    refine ⟨by have h:=s_session_Sessions_Note_J0 (d+0) q2; rw [isL_t hb3] at h; exact h, ?_⟩
    exact lff_of h
  · have h:=cond_f hb3 h
    refine ⟨by have h:=s_session_Sessions_Note_J0 (d+0) q2; rw [isL_f hb3] at h; exact h, ?_⟩
    obtain ⟨q4,h⟩:=bget hx4 h
    refine ⟨wP_arr q4 rfl, ?_⟩
    refine ⟨wr_arr (p:=0) (o:=0) R_api_Sess q4 (A4.toL_set _ q4) rfl (Nat.le_of_ble_eq_true rfl) rfl rfl, ?_⟩
    exact lff_of h
def st_session_OfAll_L0 (l:List api_Sess) (s3:Int × session_Sessions):List AV × WH:=([(.ptr (some (0,0))),(.ptr (some (1,0))),(l_api_Sess l),(.int .i64 (l.length:Int)),(.int .i64 s3.1)],[(some (.cells (e_session_Sessions (⟨(⟨(⟨0,0,(⟨0,([]:List UInt8)⟩:api_Answer)⟩:api_Sess),(⟨0,0,(⟨0,([]:List UInt8)⟩:api_Answer)⟩:api_Sess),(⟨0,0,(⟨0,([]:List UInt8)⟩:api_Answer)⟩:api_Sess),(⟨0,0,(⟨0,([]:List UInt8)⟩:api_Answer)⟩:api_Sess)⟩:A4 api_Sess)⟩:session_Sessions)) false false)),(some (.cells (e_session_Sessions s3.2) false false))])
def fin_session_OfAll_L0 (l:List api_Sess):session_Sessions→Ex × Fast × WH:=fun e=>((.exit 0),[(2,(.ptr (some (0,0)))),(3,(.ptr (some (1,0))))],[(some (.cells (e_session_Sessions (⟨(⟨(⟨0,0,(⟨0,([]:List UInt8)⟩:api_Answer)⟩:api_Sess),(⟨0,0,(⟨0,([]:List UInt8)⟩:api_Answer)⟩:api_Sess),(⟨0,0,(⟨0,([]:List UInt8)⟩:api_Answer)⟩:api_Sess),(⟨0,0,(⟨0,([]:List UInt8)⟩:api_Answer)⟩:api_Sess)⟩:A4 api_Sess)⟩:session_Sessions)) false false)),(some (.cells (e_session_Sessions e) false false))])
abbrev rx_session_OfAll_L0 (l:List api_Sess):=roundX [2,3,6,7,8] (st_session_OfAll_L0 l) (fin_session_OfAll_L0 l)
def session_OfAll_L0_s (l:List api_Sess) (s3:Int × session_Sessions):Option ((Int × session_Sessions) ⊕ (session_Sessions)) :=
  cond (decide (s3.1 < (l.length:Int))) ((getI l s3.1).bind fun (x4:api_Sess)=>(session_Sessions_Note x4 s3.2).bind fun (x5:Bool × session_Sessions)=>some (.inl ((IntKind.i64.wrap (s3.1+1)),x5.2))) (some (.inr s3.2))
def session_OfAll_L0 (l:List api_Sess) (s3:Int × session_Sessions):Option (session_Sessions):=loopX (session_OfAll_L0_s l) KK s3
theorem b_session_OfAll_L0 (d:Nat) {l:List api_Sess} {s3:Int × session_Sessions} {r:(Int × session_Sessions) ⊕ (session_Sessions)} (h:session_OfAll_L0_s l s3=some r):RunX (bexec (wcalls atab (d+1)) KK 16 WB105_0) 0 (inL [2,3,6,7,8] (st_session_OfAll_L0 l s3)) (rx_session_OfAll_L0 l r):=by
  obtain ⟨x4,hx4⟩:=wx (getI l s3.1)
  obtain ⟨x5,hx5⟩:=wx (session_Sessions_Note x4 s3.2)
  have e:∀ C:ACalls,wCode C (fun _=>none) KK 16 0 WB105_0 (inL [2,3,6,7,8] (st_session_OfAll_L0 l s3)).1 (inL [2,3,6,7,8] (st_session_OfAll_L0 l s3)).2 (.br 9 (.v 10 (.elem ((e_api_Sess x4) ++ F_api_Sess (l.drop (s3.1.toNat+1)))) (.st none (.call [] (some false) [] (.bool x5.1) [(some (.cells (e_session_Sessions x5.2) false false))] (.en [2,3,6,7,8] [none,none,none,none,none] [] [.undef,.undef,.slice none 4 0 0 true,.undef,.undef])))) (.en [2,3] [none,none] [] [])) (rx_session_OfAll_L0 l r)=(((decide (s3.1 < (l.length:Int)))=true→(wP (.idxSlice 4 (.c (l_api_Sess l)) (.c (.int .i64 s3.1)))=some (.elem ((e_api_Sess x4) ++ F_api_Sess (l.drop (s3.1.toNat+1))))∧(Spec C 106 [(.ptr (some (0,0))),(.agg (e_api_Sess x4))] [(some (.cells (e_session_Sessions s3.2) false false))] (.bool x5.1) [(some (.cells (e_session_Sessions x5.2) false false))]∧(1≤1∧lfe (rx_session_OfAll_L0 l) (.inl ((IntKind.i64.wrap (s3.1+1)),x5.2)) r))))∧((decide (s3.1 < (l.length:Int)))=false→lfe (rx_session_OfAll_L0 l) (.inr s3.2) r)):=fun C=>by kernel_rfl
  refine runS_of (fun _ _ h=>by cases h) WB105_0_ok (Nat.le_of_ble_eq_true rfl) ((e _).mpr ?_)
  unfold session_OfAll_L0_s at h
  refine ⟨fun hb=>?_,fun hb=>?_⟩
  · have h:=cond_t hb h
    obtain ⟨q4,h⟩:=bget hx4 h
    refine ⟨wP_idx R_api_Sess q4, ?_⟩
    obtain ⟨q5,h⟩:=bget hx5 h
    refine ⟨s_session_Sessions_Note (d+0) q5, ?_⟩
    refine ⟨by decide, ?_⟩
    exact lfe_of h
  · have h:=cond_f hb h
    exact lfe_of h
theorem s_session_OfAll_L0 (d:Nat) {l:List api_Sess} {s3:Int × session_Sessions} {r:session_Sessions} (h:session_OfAll_L0 l s3=some r):RunX (bloop (bexec (wcalls atab (d+1)) KK 16 WB105_0) [2,3,6,7,8] KK) 0 (inL [2,3,6,7,8] (st_session_OfAll_L0 l s3)) (fin_session_OfAll_L0 l r) :=
  loop_of (st:=st_session_OfAll_L0 l) (fin:=fin_session_OfAll_L0 l) (step:=session_OfAll_L0_s l) (fun e=>by (intro h; cases h)) (fun s x h=>b_session_OfAll_L0 d h) KK s3 r h
def session_OfAll (l:List api_Sess):Option (session_Sessions) :=
  (session_OfAll_L0 l (0,(⟨(⟨(⟨0,0,(⟨0,([]:List UInt8)⟩:api_Answer)⟩:api_Sess),(⟨0,0,(⟨0,([]:List UInt8)⟩:api_Answer)⟩:api_Sess),(⟨0,0,(⟨0,([]:List UInt8)⟩:api_Answer)⟩:api_Sess),(⟨0,0,(⟨0,([]:List UInt8)⟩:api_Answer)⟩:api_Sess)⟩:A4 api_Sess)⟩:session_Sessions))).bind fun (x6:session_Sessions)=>some x6
def out_session_OfAll (l:List api_Sess) (r:session_Sessions):AV × WH:=((.agg (e_session_Sessions r)),[])
theorem s_session_OfAll (d:Nat) {l:List api_Sess} {r:session_Sessions} (h:session_OfAll l=some r):Spec (wcalls atab (d+2)) 105 [(l_api_Sess l)] [] (out_session_OfAll l r).1 (out_session_OfAll l r).2:=by
  obtain ⟨x6,hx6⟩:=wx (session_OfAll_L0 l (0,(⟨(⟨(⟨0,0,(⟨0,([]:List UInt8)⟩:api_Answer)⟩:api_Sess),(⟨0,0,(⟨0,([]:List UInt8)⟩:api_Answer)⟩:api_Sess),(⟨0,0,(⟨0,([]:List UInt8)⟩:api_Answer)⟩:api_Sess),(⟨0,0,(⟨0,([]:List UInt8)⟩:api_Answer)⟩:api_Sess)⟩:A4 api_Sess)⟩:session_Sessions)))
  have e:∀ C:ACalls,wBody C (fun _=>none) KK WF105 [(l_api_Sess l)] [] (.lp [none,none,none,none,none] [] [.undef,.undef,.slice none 4 0 0 true,.undef,.undef] (.exit 0) [(2,(.ptr (some (0,0)))),(3,(.ptr (some (1,0))))] [(some (.cells (e_session_Sessions (⟨(⟨(⟨0,0,(⟨0,([]:List UInt8)⟩:api_Answer)⟩:api_Sess),(⟨0,0,(⟨0,([]:List UInt8)⟩:api_Answer)⟩:api_Sess),(⟨0,0,(⟨0,([]:List UInt8)⟩:api_Answer)⟩:api_Sess),(⟨0,0,(⟨0,([]:List UInt8)⟩:api_Answer)⟩:api_Sess)⟩:A4 api_Sess)⟩:session_Sessions)) false false)),(some (.cells (e_session_Sessions x6) false false))] (.st none (.fin (some false) [] none))) (out_session_OfAll l r).1 (out_session_OfAll l r).2=(1=1∧1≤16∧(RunS (bloop (bexec C KK 16 WB105_0) [2,3,6,7,8] KK) 0 [(2,(.ptr (some (0,0)))),(3,(.ptr (some (1,0)))),(6,(l_api_Sess l)),(7,(.int .i64 (l.length:Int))),(8,(.int .i64 0))] [(some (.cells (e_session_Sessions (⟨(⟨(⟨0,0,(⟨0,([]:List UInt8)⟩:api_Answer)⟩:api_Sess),(⟨0,0,(⟨0,([]:List UInt8)⟩:api_Answer)⟩:api_Sess),(⟨0,0,(⟨0,([]:List UInt8)⟩:api_Answer)⟩:api_Sess),(⟨0,0,(⟨0,([]:List UInt8)⟩:api_Answer)⟩:api_Sess)⟩:A4 api_Sess)⟩:session_Sessions)) false false)),(some (.cells (e_session_Sessions (⟨(⟨(⟨0,0,(⟨0,([]:List UInt8)⟩:api_Answer)⟩:api_Sess),(⟨0,0,(⟨0,([]:List UInt8)⟩:api_Answer)⟩:api_Sess),(⟨0,0,(⟨0,([]:List UInt8)⟩:api_Answer)⟩:api_Sess),(⟨0,0,(⟨0,([]:List UInt8)⟩:api_Answer)⟩:api_Sess)⟩:A4 api_Sess)⟩:session_Sessions)) false false))] (.exit 0) [(2,(.ptr (some (0,0)))),(3,(.ptr (some (1,0))))] [(some (.cells (e_session_Sessions (⟨(⟨(⟨0,0,(⟨0,([]:List UInt8)⟩:api_Answer)⟩:api_Sess),(⟨0,0,(⟨0,([]:List UInt8)⟩:api_Answer)⟩:api_Sess),(⟨0,0,(⟨0,([]:List UInt8)⟩:api_Answer)⟩:api_Sess),(⟨0,0,(⟨0,([]:List UInt8)⟩:api_Answer)⟩:api_Sess)⟩:A4 api_Sess)⟩:session_Sessions)) false false)),(some (.cells (e_session_Sessions x6) false false))]∧lff (out_session_OfAll l) x6 r)):=fun C=>by kernel_rfl
  refine spec_of (fun _ _ h=>by cases h) rfl atab_105 WF105_ok ((e _).mpr ⟨rfl,by decide, ?_⟩)
  unfold session_OfAll at h
  obtain ⟨q6,h⟩:=bget hx6 h
  refine ⟨s_session_OfAll_L0 (d+0) q6, ?_⟩
  exact lff_of h
def shard_Of (p_x:api_Image):Option (shard_Shard) :=
  (table_Of p_x.Pairs).bind fun (x1:table_Table)=>(session_OfAll p_x.Sess).bind fun (x2:session_Sessions)=>some (⟨x1,x2,p_x.Shard,p_x.Epoch⟩:shard_Shard)
def out_shard_Of (p_x:api_Image) (r:shard_Shard):AV × WH:=((.agg (e_shard_Shard r)),[])
theorem s_shard_Of (d:Nat) {p_x:api_Image} {r:shard_Shard} (h:shard_Of p_x=some r):Spec (wcalls atab (d+8)) 65 [(.agg (e_api_Image p_x))] [] (out_shard_Of p_x r).1 (out_shard_Of p_x r).2:=by
  obtain ⟨x1,hx1⟩:=wx (table_Of p_x.Pairs)
  obtain ⟨x2,hx2⟩:=wx (session_OfAll p_x.Sess)
  have e:∀ C:ACalls,wBody C (fun _=>none) KK WF65 [(.agg (e_api_Image p_x))] [] (.z 2 [.slice none 2 0 0 true,.undef,.undef,.undef,.undef,.undef,.undef,.undef,.undef,.undef,.undef,.undef,.undef,.undef,.undef,.undef,.undef,.undef,.undef] (.call [] (some false) [.slice none 2 0 0 true] (.agg (e_table_Table x1)) [] (.cb [] [.slice none 4 0 0 true] (.agg (e_session_Sessions x2)) (.st none (.fin (some false) [.agg [.slice none 2 0 0 true,.undef,.undef,.undef,.undef,.undef,.undef,.undef,.undef,.undef,.undef,.undef,.undef,.undef,.undef,.undef,.undef,.undef,.undef]] none))))) (out_shard_Of p_x r).1 (out_shard_Of p_x r).2=(1=1∧1≤14∧(Spec C 56 [(l_api_Pair p_x.Pairs)] [] (.agg (e_table_Table x1)) []∧(0≤0∧(Spec C 105 [(l_api_Sess p_x.Sess)] [] (.agg (e_session_Sessions x2)) []∧lff (out_shard_Of p_x) (⟨x1,x2,p_x.Shard,p_x.Epoch⟩:shard_Shard) r)))):=fun C=>by kernel_rfl
  refine spec_of (fun _ _ h=>by cases h) rfl atab_65 WF65_ok ((e _).mpr ⟨rfl,by decide, ?_⟩)
  unfold shard_Of at h
  obtain ⟨q1,h⟩:=bget hx1 h
  refine ⟨s_table_Of (d+0) q1, ?_⟩
  refine ⟨by decide, ?_⟩
  obtain ⟨q2,h⟩:=bget hx2 h
  refine ⟨s_session_OfAll (d+5) q2, ?_⟩
  exact lff_of h
abbrev in_session_Sessions_Last_J0 (client:Int) (p_s:shard_Shard):Fast × WH:=([(0,(.ptr (some (0,1)))),(1,(.int .i64 client)),(4,(.ptr (some (1,0))))],[(some (.cells (e_shard_Shard p_s) false false)),(some (.cells (e_api_Sess (⟨0,0,(⟨0,([]:List UInt8)⟩:api_Answer)⟩:api_Sess)) false false))])
def fin_session_Sessions_Last_J0 (client:Int) (p_s:shard_Shard):Unit ⊕ Unit→Ex × Fast × WH:=fun
  | .inl e=>(.ret,[(4,(.ptr (some (1,0)))),(5,(.bool false))],[(some (.cells (e_shard_Shard p_s) false false)),(some (.cells (e_api_Sess (⟨0,0,(⟨0,([]:List UInt8)⟩:api_Answer)⟩:api_Sess)) false false))])
  | .inr e=>(.normal,[(0,(.ptr (some (0,1)))),(1,(.int .i64 client)),(4,(.ptr (some (1,0))))],[(some (.cells (e_shard_Shard p_s) false false)),(some (.cells (e_api_Sess (⟨0,0,(⟨0,([]:List UInt8)⟩:api_Answer)⟩:api_Sess)) false false))])
def session_Sessions_Last_J0 (client:Int) (p_s:shard_Shard):Option (Unit ⊕ Unit) :=
  cond (decide (client < 0)) (some (.inl ())) (cond (decide (client ≥ 4)) (some (.inl ())) ((getI (p_s.Sessions.l.toL) client).bind fun (x1:api_Sess)=>cond (x1.Seq == 0) (some (.inl ())) (some (.inr ()))))
theorem s_session_Sessions_Last_J0 (d:Nat) {client:Int} {p_s:shard_Shard} {r:Unit ⊕ Unit} (h:session_Sessions_Last_J0 client p_s=some r):RunX (bexec (wcalls atab (d+0)) KK 29 WJ72_ba) 1 (in_session_Sessions_Last_J0 client p_s) (fin_session_Sessions_Last_J0 client p_s r):=by
  obtain ⟨x1,hx1⟩:=wx (getI (p_s.Sessions.l.toL) client)
  have e:∀ C:ACalls,wCode C (fun _=>none) KK 29 1 WJ72_ba (in_session_Sessions_Last_J0 client p_s).1 (in_session_Sessions_Last_J0 client p_s).2 (.br 8 (.st none (.en [4,5] [none,none] [] [])) (.br 12 (.st none (.en [4,5] [none,none] [] [])) (.v 17 (.ptr (some (0,1+client.toNat * 4))) (.v 19 (.int .i64 x1.Seq) (.br 21 (.st none (.en [4,5] [none,none] [] [])) (.en [0,1,4] [none,none,none] [] [])))))) (fin_session_Sessions_Last_J0 client p_s r)=(((decide (client < 0))=true→lfe (fin_session_Sessions_Last_J0 client p_s) (.inl ()) r)∧((decide (client < 0))=false→(((decide (client ≥ 4))=true→lfe (fin_session_Sessions_Last_J0 client p_s) (.inl ()) r)∧((decide (client ≥ 4))=false→(wP (.idxArr 4 4 (.c (.ptr (some (0,1)))) (.c (.int .i64 client)))=some (.ptr (some (0,1+client.toNat * 4)))∧(cPart false (1+client.toNat * 4+1) 1 (e_shard_Shard p_s)=some (.int .i64 x1.Seq)∧(((x1.Seq == 0)=true→lfe (fin_session_Sessions_Last_J0 client p_s) (.inl ()) r)∧((x1.Seq == 0)=false→lfe (fin_session_Sessions_Last_J0 client p_s) (.inr ()) r)))))))):=fun C=>by kernel_rfl
  refine runS_of (fun _ _ h=>by cases h) WJ72_ba_ok (Nat.le_of_ble_eq_true rfl) ((e _).mpr ?_)
  unfold session_Sessions_Last_J0 at h
  refine ⟨fun hb=>?_,fun hb=>?_⟩
  · have h:=cond_t hb h
    exact lfe_of h
  · have h:=cond_f hb h
    refine ⟨fun hb=>?_,fun hb=>?_⟩
    · have h:=cond_t hb h
      exact lfe_of h
    · have h:=cond_f hb h
      obtain ⟨q1,h⟩:=bget hx1 h
      refine ⟨wP_arr q1 rfl, ?_⟩
      refine ⟨cP_arr (p:=1) (o:=1) R_api_Sess q1 rfl rfl, ?_⟩
      refine ⟨fun hb=>?_,fun hb=>?_⟩
      · have h:=cond_t hb h
        exact lfe_of h
      · have h:=cond_f hb h
        exact lfe_of h
def session_Sessions_Last (client:Int) (p_s:shard_Shard):Option (api_Sess × Bool) :=
  (session_Sessions_Last_J0 client p_s).bind fun (x2:Unit ⊕ Unit)=>cond (isL x2) (some ((⟨0,0,(⟨0,([]:List UInt8)⟩:api_Answer)⟩:api_Sess),false)) ((getI (p_s.Sessions.l.toL) client).bind fun (x4:api_Sess)=>some (x4,true))
def out_session_Sessions_Last (client:Int) (p_s:shard_Shard) (r:api_Sess × Bool):AV × WH:=((.tuple [(.agg (e_api_Sess r.1)),(.bool r.2)]),[(some (.cells (e_shard_Shard p_s) false false))])
theorem s_session_Sessions_Last (d:Nat) {client:Int} {p_s:shard_Shard} {r:api_Sess × Bool} (h:session_Sessions_Last client p_s=some r):Spec (wcalls atab (d+1)) 72 [(.ptr (some (0,1))),(.int .i64 client)] [(some (.cells (e_shard_Shard p_s) false false))] (out_session_Sessions_Last client p_s r).1 (out_session_Sessions_Last client p_s r).2:=by
  obtain ⟨x2,hx2⟩:=wx (session_Sessions_Last_J0 client p_s)
  obtain ⟨x4,hx4⟩:=wx (getI (p_s.Sessions.l.toL) client)
  have e:∀ C:ACalls,wBody C (fun _=>none) KK WF72 [(.ptr (some (0,1))),(.int .i64 client)] [(some (.cells (e_shard_Shard p_s) false false))] (.sk (.ite (isL x2) (.jn [0,1,4] [none,none,none] [] [] .ret [(4,(.ptr (some (1,0)))),(5,(.bool false))] [(some (.cells (e_shard_Shard p_s) false false)),(some (.cells (e_api_Sess (⟨0,0,(⟨0,([]:List UInt8)⟩:api_Answer)⟩:api_Sess)) false false))] (.fin (some false) [] none)) (.jn [0,1,4] [none,none,none] [] [] .normal [(0,(.ptr (some (0,1)))),(1,(.int .i64 client)),(4,(.ptr (some (1,0))))] [(some (.cells (e_shard_Shard p_s) false false)),(some (.cells (e_api_Sess (⟨0,0,(⟨0,([]:List UInt8)⟩:api_Answer)⟩:api_Sess)) false false))] (.v 27 (.ptr (some (0,1+client.toNat * 4))) (.v 28 (.agg (e_api_Sess x4)) (.st none (.fin (some false) [] none))))))) (out_session_Sessions_Last client p_s r).1 (out_session_Sessions_Last client p_s r).2=(2=2∧2≤29∧(((isL x2)=true→(RunS (bexec C KK 29 WJ72_ba) 1 [(0,(.ptr (some (0,1)))),(1,(.int .i64 client)),(4,(.ptr (some (1,0))))] [(some (.cells (e_shard_Shard p_s) false false)),(some (.cells (e_api_Sess (⟨0,0,(⟨0,([]:List UInt8)⟩:api_Answer)⟩:api_Sess)) false false))] .ret [(4,(.ptr (some (1,0)))),(5,(.bool false))] [(some (.cells (e_shard_Shard p_s) false false)),(some (.cells (e_api_Sess (⟨0,0,(⟨0,([]:List UInt8)⟩:api_Answer)⟩:api_Sess)) false false))]∧lff (out_session_Sessions_Last client p_s) ((⟨0,0,(⟨0,([]:List UInt8)⟩:api_Answer)⟩:api_Sess),false) r))∧((isL x2)=false→(RunS (bexec C KK 29 WJ72_ba) 1 [(0,(.ptr (some (0,1)))),(1,(.int .i64 client)),(4,(.ptr (some (1,0))))] [(some (.cells (e_shard_Shard p_s) false false)),(some (.cells (e_api_Sess (⟨0,0,(⟨0,([]:List UInt8)⟩:api_Answer)⟩:api_Sess)) false false))] .normal [(0,(.ptr (some (0,1)))),(1,(.int .i64 client)),(4,(.ptr (some (1,0))))] [(some (.cells (e_shard_Shard p_s) false false)),(some (.cells (e_api_Sess (⟨0,0,(⟨0,([]:List UInt8)⟩:api_Answer)⟩:api_Sess)) false false))]∧(wP (.idxArr 4 4 (.c (.ptr (some (0,1)))) (.c (.int .i64 client)))=some (.ptr (some (0,1+client.toNat * 4)))∧(cPart true (1+client.toNat * 4) 4 (e_shard_Shard p_s)=some (.agg (e_api_Sess x4))∧lff (out_session_Sessions_Last client p_s) (x4,true) r)))))):=fun C=>by kernel_rfl
  refine spec_of (fun _ _ h=>by cases h) rfl atab_72 WF72_ok ((e _).mpr ⟨rfl,by decide, ?_⟩)
  unfold session_Sessions_Last at h
  obtain ⟨q2,h⟩:=bget hx2 h
  refine ⟨fun hb3=>?_,fun hb3=>?_⟩
  · have h:=cond_t hb3 h
    refine ⟨by have h:=s_session_Sessions_Last_J0 (d+0) q2; rw [isL_t hb3] at h; exact h, ?_⟩
    exact lff_of h
  · have h:=cond_f hb3 h
    refine ⟨by have h:=s_session_Sessions_Last_J0 (d+0) q2; rw [isL_f hb3] at h; exact h, ?_⟩
    obtain ⟨q4,h⟩:=bget hx4 h
    refine ⟨wP_arr q4 rfl, ?_⟩
    refine ⟨cP_arr (p:=1) (o:=0) R_api_Sess q4 rfl rfl, ?_⟩
    exact lff_of h
def table_Table_find_4 (key:List UInt8) (t:shard_Shard):Option (Int × Bool) :=
  (slices_BinarySearchFunc_api_Pair_api_Pair_string t.Table.l key).bind fun (x1:Int × Bool)=>some (x1.1,x1.2)
def out_table_Table_find_4 (key:List UInt8) (t:shard_Shard) (r:Int × Bool):AV × WH:=((.tuple [(.int .i64 r.1),(.bool r.2)]),[(some (.cells (e_shard_Shard t) false false))])
theorem s_table_Table_find_4 (d:Nat) {key:List UInt8} {t:shard_Shard} {r:Int × Bool} (h:table_Table_find_4 key t=some r):Spec (wcalls atab (d+5)) 96 [(.ptr (some (0,0))),(.str key)] [(some (.cells (e_shard_Shard t) false false))] (out_table_Table_find_4 key t r).1 (out_table_Table_find_4 key t r).2:=by
  obtain ⟨x1,hx1⟩:=wx (slices_BinarySearchFunc_api_Pair_api_Pair_string t.Table.l key)
  have e:∀ C:ACalls,wBody C (fun _=>none) KK WF96 [(.ptr (some (0,0))),(.str key)] [(some (.cells (e_shard_Shard t) false false))] (.cb [] [.slice none 2 0 0 true] (.tuple [(.int .i64 x1.1),(.bool x1.2)]) (.fin (some false) [] none)) (out_table_Table_find_4 key t r).1 (out_table_Table_find_4 key t r).2=(2=2∧2≤14∧(Spec C 126 [(l_api_Pair t.Table.l),(.str key),(.func 127 [])] [] (.tuple [(.int .i64 x1.1),(.bool x1.2)]) []∧lff (out_table_Table_find_4 key t) (x1.1,x1.2) r)):=fun C=>by kernel_rfl
  refine spec_of (fun _ _ h=>by cases h) rfl atab_96 WF96_ok ((e _).mpr ⟨rfl,by decide, ?_⟩)
  unfold table_Table_find_4 at h
  obtain ⟨q1,h⟩:=bget hx1 h
  refine ⟨s_slices_BinarySearchFunc_api_Pair_api_Pair_string (d+0) q1, ?_⟩
  exact lff_of h
def table_Table_set_4 (k:Int) (value:List UInt8) (t:shard_Shard):Option (Int × Int × Int × List UInt8 × Int × Int × Int × List UInt8 × Int × Int × Int × List UInt8 × Int × Int × Int × List UInt8 × Int × Int × List api_Pair) :=
  gd (fitsB 32 t.Table.l.length) ((getI t.Table.l k).bind fun (x2:api_Pair)=>some (t.Sessions.l.a0.Client,t.Sessions.l.a0.Seq,t.Sessions.l.a0.Answer.Why,t.Sessions.l.a0.Answer.Value,t.Sessions.l.a1.Client,t.Sessions.l.a1.Seq,t.Sessions.l.a1.Answer.Why,t.Sessions.l.a1.Answer.Value,t.Sessions.l.a2.Client,t.Sessions.l.a2.Seq,t.Sessions.l.a2.Answer.Why,t.Sessions.l.a2.Answer.Value,t.Sessions.l.a3.Client,t.Sessions.l.a3.Seq,t.Sessions.l.a3.Answer.Why,t.Sessions.l.a3.Answer.Value,t.ID,t.Epoch,(t.Table.l.set k.toNat (⟨x2.Key,value⟩:api_Pair))))
def out_table_Table_set_4 (k:Int) (value:List UInt8) (t:shard_Shard) (r:Int × Int × Int × List UInt8 × Int × Int × Int × List UInt8 × Int × Int × Int × List UInt8 × Int × Int × Int × List UInt8 × Int × Int × List api_Pair):AV × WH:=((.tuple []),[(some (.cells [(.acc 1 0 2 r.2.2.2.2.2.2.2.2.2.2.2.2.2.2.2.2.2.2.length true),(.int .i64 r.1),(.int .i64 r.2.1),(.int .i64 r.2.2.1),(.str r.2.2.2.1),(.int .i64 r.2.2.2.2.1),(.int .i64 r.2.2.2.2.2.1),(.int .i64 r.2.2.2.2.2.2.1),(.str r.2.2.2.2.2.2.2.1),(.int .i64 r.2.2.2.2.2.2.2.2.1),(.int .i64 r.2.2.2.2.2.2.2.2.2.1),(.int .i64 r.2.2.2.2.2.2.2.2.2.2.1),(.str r.2.2.2.2.2.2.2.2.2.2.2.1),(.int .i64 r.2.2.2.2.2.2.2.2.2.2.2.2.1),(.int .i64 r.2.2.2.2.2.2.2.2.2.2.2.2.2.1),(.int .i64 r.2.2.2.2.2.2.2.2.2.2.2.2.2.2.1),(.str r.2.2.2.2.2.2.2.2.2.2.2.2.2.2.2.1),(.int .i64 r.2.2.2.2.2.2.2.2.2.2.2.2.2.2.2.2.1),(.int .i64 r.2.2.2.2.2.2.2.2.2.2.2.2.2.2.2.2.2.1)] false false)),(some (.cells (F_api_Pair r.2.2.2.2.2.2.2.2.2.2.2.2.2.2.2.2.2.2) false true))])
theorem s_table_Table_set_4 (d:Nat) {k:Int} {value:List UInt8} {t:shard_Shard} {r:Int × Int × Int × List UInt8 × Int × Int × Int × List UInt8 × Int × Int × Int × List UInt8 × Int × Int × Int × List UInt8 × Int × Int × List api_Pair} (h:table_Table_set_4 k value t=some r):Spec (wcalls atab (d+2)) 129 [(.ptr (some (0,0))),(.int .i64 k),(.str value)] [(some (.cells (e_shard_Shard t) false false))] (out_table_Table_set_4 k value t r).1 (out_table_Table_set_4 k value t r).2:=by
  obtain ⟨x2,hx2⟩:=wx (getI t.Table.l k)
  have e:∀ C:ACalls,wBody C wB KK WF129 [(.ptr (some (0,0))),(.int .i64 k),(.str value)] [(some (.cells (e_shard_Shard t) false false))] (.st none (.v 20 (.ptr (some (1,0+k.toNat * 2))) (.st (some (F_api_Pair (t.Table.l.set k.toNat (⟨x2.Key,value⟩:api_Pair)))) (.fin (some false) [] none)))) (out_table_Table_set_4 k value t r).1 (out_table_Table_set_4 k value t r).2=(3=3∧3≤22∧(fitsB 32 t.Table.l.length=true∧(wP (.idxSlice 2 (.c (.acc 1 0 2 t.Table.l.length true)) (.c (.int .i64 k)))=some (.ptr (some (1,0+k.toNat * 2)))∧(wrC (F_api_Pair t.Table.l) (0+k.toNat * 2+1) [(.str value)]=some (F_api_Pair (t.Table.l.set k.toNat (⟨x2.Key,value⟩:api_Pair)))∧(@Eq AV (.tuple []) (out_table_Table_set_4 k value t r).1∧@Eq WH [(some (.cells [(.acc 1 0 2 t.Table.l.length true),(.int .i64 t.Sessions.l.a0.Client),(.int .i64 t.Sessions.l.a0.Seq),(.int .i64 t.Sessions.l.a0.Answer.Why),(.str t.Sessions.l.a0.Answer.Value),(.int .i64 t.Sessions.l.a1.Client),(.int .i64 t.Sessions.l.a1.Seq),(.int .i64 t.Sessions.l.a1.Answer.Why),(.str t.Sessions.l.a1.Answer.Value),(.int .i64 t.Sessions.l.a2.Client),(.int .i64 t.Sessions.l.a2.Seq),(.int .i64 t.Sessions.l.a2.Answer.Why),(.str t.Sessions.l.a2.Answer.Value),(.int .i64 t.Sessions.l.a3.Client),(.int .i64 t.Sessions.l.a3.Seq),(.int .i64 t.Sessions.l.a3.Answer.Why),(.str t.Sessions.l.a3.Answer.Value),(.int .i64 t.ID),(.int .i64 t.Epoch)] false false)),(some (.cells (F_api_Pair (t.Table.l.set k.toNat (⟨x2.Key,value⟩:api_Pair))) false true))] (out_table_Table_set_4 k value t r).2))))):=fun C=>by kernel_rfl
  refine spec_of (wB_ok _) rfl atab_129 WF129_ok ((e _).mpr ⟨rfl,by decide, ?_⟩)
  unfold table_Table_set_4 at h
  obtain ⟨q1,h⟩:=gd_some h
  refine ⟨q1, ?_⟩
  obtain ⟨q2,h⟩:=bget hx2 h
  refine ⟨wP_idxA R_api_Pair q2, ?_⟩
  refine ⟨wr_row (o:=1) R_api_Pair q2 rfl, ?_⟩
  try rw [show AV.list 2 t.Table.l.length (F_api_Pair (t.Table.l.set k.toNat (⟨x2.Key,value⟩:api_Pair))) false=l_api_Pair (t.Table.l.set k.toNat (⟨x2.Key,value⟩:api_Pair)) from by simp only [l_api_Pair,List.length_set]]
  obtain rfl:=Option.some.inj h
  refine ⟨?_, ?_⟩ <;> first | rfl | (simp only [out_table_Table_set_4,List.length_set,List.length_append,List.length_replicate,List.length_cons,List.length_nil,List.length_take,List.length_drop,Nat.add_zero,Nat.zero_add]; done) | simp [out_table_Table_set_4]
def table_Table_put_4 (o:api_Op) (k:Int) (had:Bool) (t:shard_Shard):Option (api_Answer × shard_Shard) :=
  cond had ((table_Table_set_4 k o.Value t).bind fun (x1:Int × Int × Int × List UInt8 × Int × Int × Int × List UInt8 × Int × Int × Int × List UInt8 × Int × Int × Int × List UInt8 × Int × Int × List api_Pair)=>some ((⟨0,([]:List UInt8)⟩:api_Answer),(⟨(⟨x1.2.2.2.2.2.2.2.2.2.2.2.2.2.2.2.2.2.2⟩:table_Table),(⟨(⟨(⟨x1.1,x1.2.1,(⟨x1.2.2.1,x1.2.2.2.1⟩:api_Answer)⟩:api_Sess),(⟨x1.2.2.2.2.1,x1.2.2.2.2.2.1,(⟨x1.2.2.2.2.2.2.1,x1.2.2.2.2.2.2.2.1⟩:api_Answer)⟩:api_Sess),(⟨x1.2.2.2.2.2.2.2.2.1,x1.2.2.2.2.2.2.2.2.2.1,(⟨x1.2.2.2.2.2.2.2.2.2.2.1,x1.2.2.2.2.2.2.2.2.2.2.2.1⟩:api_Answer)⟩:api_Sess),(⟨x1.2.2.2.2.2.2.2.2.2.2.2.2.1,x1.2.2.2.2.2.2.2.2.2.2.2.2.2.1,(⟨x1.2.2.2.2.2.2.2.2.2.2.2.2.2.2.1,x1.2.2.2.2.2.2.2.2.2.2.2.2.2.2.2.1⟩:api_Answer)⟩:api_Sess)⟩:A4 api_Sess)⟩:session_Sessions),x1.2.2.2.2.2.2.2.2.2.2.2.2.2.2.2.2.1,x1.2.2.2.2.2.2.2.2.2.2.2.2.2.2.2.2.2.1⟩:shard_Shard))) (cond ((t.Table.l.length:Int) == 8) (some ((⟨5,([]:List UInt8)⟩:api_Answer),t)) (gd (fitsB 32 t.Table.l.length) (gd (insB 32 k t.Table.l.length) (some ((⟨0,([]:List UInt8)⟩:api_Answer),(⟨(⟨(insL t.Table.l k (⟨o.Key,o.Value⟩:api_Pair))⟩:table_Table),t.Sessions,t.ID,t.Epoch⟩:shard_Shard))))))
def out_table_Table_put_4 (o:api_Op) (k:Int) (had:Bool) (t:shard_Shard) (r:api_Answer × shard_Shard):AV × WH:=((.agg (e_api_Answer r.1)),[(some (.cells (e_shard_Shard r.2) false false))])
theorem s_table_Table_put_4 (d:Nat) {o:api_Op} {k:Int} {had:Bool} {t:shard_Shard} {r:api_Answer × shard_Shard} (h:table_Table_put_4 o k had t=some r):Spec (wcalls atab (d+3)) 97 [(.ptr (some (0,0))),(.agg (e_api_Op o)),(.int .i64 k),(.bool had)] [(some (.cells (e_shard_Shard t) false false))] (out_table_Table_put_4 o k had t r).1 (out_table_Table_put_4 o k had t r).2:=by
  obtain ⟨x1,hx1⟩:=wx (table_Table_set_4 k o.Value t)
  have e:∀ C:ACalls,wBody C wB KK WF97 [(.ptr (some (0,0))),(.agg (e_api_Op o)),(.int .i64 k),(.bool had)] [(some (.cells (e_shard_Shard t) false false))] (.br 25 (.call [] (some false) [] (.tuple []) [(some (.cells [(.acc 1 0 2 x1.2.2.2.2.2.2.2.2.2.2.2.2.2.2.2.2.2.2.length true),(.int .i64 x1.1),(.int .i64 x1.2.1),(.int .i64 x1.2.2.1),(.str x1.2.2.2.1),(.int .i64 x1.2.2.2.2.1),(.int .i64 x1.2.2.2.2.2.1),(.int .i64 x1.2.2.2.2.2.2.1),(.str x1.2.2.2.2.2.2.2.1),(.int .i64 x1.2.2.2.2.2.2.2.2.1),(.int .i64 x1.2.2.2.2.2.2.2.2.2.1),(.int .i64 x1.2.2.2.2.2.2.2.2.2.2.1),(.str x1.2.2.2.2.2.2.2.2.2.2.2.1),(.int .i64 x1.2.2.2.2.2.2.2.2.2.2.2.2.1),(.int .i64 x1.2.2.2.2.2.2.2.2.2.2.2.2.2.1),(.int .i64 x1.2.2.2.2.2.2.2.2.2.2.2.2.2.2.1),(.str x1.2.2.2.2.2.2.2.2.2.2.2.2.2.2.2.1),(.int .i64 x1.2.2.2.2.2.2.2.2.2.2.2.2.2.2.2.2.1),(.int .i64 x1.2.2.2.2.2.2.2.2.2.2.2.2.2.2.2.2.2.1)] false false)),(some (.cells (F_api_Pair x1.2.2.2.2.2.2.2.2.2.2.2.2.2.2.2.2.2.2) false true))] (.st none (.fin (some false) [] (some false)))) (.br 32 (.st none (.fin (some false) [] (some false))) (.ap 22 (insL t.Table.l k (⟨o.Key,o.Value⟩:api_Pair)).length (F_api_Pair (insL t.Table.l k (⟨o.Key,o.Value⟩:api_Pair))) (.st none (.st none (.fin (some false) [] (some false))))))) (out_table_Table_put_4 o k had t r).1 (out_table_Table_put_4 o k had t r).2=(4=4∧4≤41∧((had=true→(Spec C 129 [(.ptr (some (0,0))),(.int .i64 k),(.str o.Value)] [(some (.cells (e_shard_Shard t) false false))] (.tuple []) [(some (.cells [(.acc 1 0 2 x1.2.2.2.2.2.2.2.2.2.2.2.2.2.2.2.2.2.2.length true),(.int .i64 x1.1),(.int .i64 x1.2.1),(.int .i64 x1.2.2.1),(.str x1.2.2.2.1),(.int .i64 x1.2.2.2.2.1),(.int .i64 x1.2.2.2.2.2.1),(.int .i64 x1.2.2.2.2.2.2.1),(.str x1.2.2.2.2.2.2.2.1),(.int .i64 x1.2.2.2.2.2.2.2.2.1),(.int .i64 x1.2.2.2.2.2.2.2.2.2.1),(.int .i64 x1.2.2.2.2.2.2.2.2.2.2.1),(.str x1.2.2.2.2.2.2.2.2.2.2.2.1),(.int .i64 x1.2.2.2.2.2.2.2.2.2.2.2.2.1),(.int .i64 x1.2.2.2.2.2.2.2.2.2.2.2.2.2.1),(.int .i64 x1.2.2.2.2.2.2.2.2.2.2.2.2.2.2.1),(.str x1.2.2.2.2.2.2.2.2.2.2.2.2.2.2.2.1),(.int .i64 x1.2.2.2.2.2.2.2.2.2.2.2.2.2.2.2.2.1),(.int .i64 x1.2.2.2.2.2.2.2.2.2.2.2.2.2.2.2.2.2.1)] false false)),(some (.cells (F_api_Pair x1.2.2.2.2.2.2.2.2.2.2.2.2.2.2.2.2.2.2) false true))]∧(1≤2∧lff (out_table_Table_put_4 o k had t) ((⟨0,([]:List UInt8)⟩:api_Answer),(⟨(⟨x1.2.2.2.2.2.2.2.2.2.2.2.2.2.2.2.2.2.2⟩:table_Table),(⟨(⟨(⟨x1.1,x1.2.1,(⟨x1.2.2.1,x1.2.2.2.1⟩:api_Answer)⟩:api_Sess),(⟨x1.2.2.2.2.1,x1.2.2.2.2.2.1,(⟨x1.2.2.2.2.2.2.1,x1.2.2.2.2.2.2.2.1⟩:api_Answer)⟩:api_Sess),(⟨x1.2.2.2.2.2.2.2.2.1,x1.2.2.2.2.2.2.2.2.2.1,(⟨x1.2.2.2.2.2.2.2.2.2.2.1,x1.2.2.2.2.2.2.2.2.2.2.2.1⟩:api_Answer)⟩:api_Sess),(⟨x1.2.2.2.2.2.2.2.2.2.2.2.2.1,x1.2.2.2.2.2.2.2.2.2.2.2.2.2.1,(⟨x1.2.2.2.2.2.2.2.2.2.2.2.2.2.2.1,x1.2.2.2.2.2.2.2.2.2.2.2.2.2.2.2.1⟩:api_Answer)⟩:api_Sess)⟩:A4 api_Sess)⟩:session_Sessions),x1.2.2.2.2.2.2.2.2.2.2.2.2.2.2.2.2.1,x1.2.2.2.2.2.2.2.2.2.2.2.2.2.2.2.2.2.1⟩:shard_Shard)) r)))∧(had=false→((((t.Table.l.length:Int) == 8)=true→lff (out_table_Table_put_4 o k had t) ((⟨5,([]:List UInt8)⟩:api_Answer),t) r)∧(((t.Table.l.length:Int) == 8)=false→(fitsB 32 t.Table.l.length=true∧((0≤k∧k≤((t.Table.l.length:Nat):Int))∧(t.Table.l.length+1=(insL t.Table.l k (⟨o.Key,o.Value⟩:api_Pair)).length∧((F_api_Pair t.Table.l).take (k.toNat * 2) ++ ([(.str o.Key),(.str o.Value)] ++ (F_api_Pair t.Table.l).drop (k.toNat * 2))=F_api_Pair (insL t.Table.l k (⟨o.Key,o.Value⟩:api_Pair))∧(fitsB 32 (insL t.Table.l k (⟨o.Key,o.Value⟩:api_Pair)).length=true∧lff (out_table_Table_put_4 o k had t) ((⟨0,([]:List UInt8)⟩:api_Answer),(⟨(⟨(insL t.Table.l k (⟨o.Key,o.Value⟩:api_Pair))⟩:table_Table),t.Sessions,t.ID,t.Epoch⟩:shard_Shard)) r)))))))))):=fun C=>by kernel_rfl
  refine spec_of (wB_ok _) rfl atab_97 WF97_ok ((e _).mpr ⟨rfl,by decide, ?_⟩)
  unfold table_Table_put_4 at h
  refine ⟨fun hb=>?_,fun hb=>?_⟩
  · have h:=cond_t hb h
    obtain ⟨q1,h⟩:=bget hx1 h
    refine ⟨s_table_Table_set_4 (d+0) q1, ?_⟩
    refine ⟨by decide, ?_⟩
    exact lff_of h
  · have h:=cond_f hb h
    refine ⟨fun hb=>?_,fun hb=>?_⟩
    · have h:=cond_t hb h
      exact lff_of h
    · have h:=cond_f hb h
      obtain ⟨q2,h⟩:=gd_some h
      refine ⟨q2, ?_⟩
      obtain ⟨q3,h⟩:=gd_some h
      refine ⟨insB_1 q3, ?_⟩
      refine ⟨insB_2 (l:=t.Table.l) q3, ?_⟩
      refine ⟨ins_row R_api_Pair rfl, ?_⟩
      refine ⟨insB_3 (l:=t.Table.l) q3, ?_⟩
      exact lff_of h
def table_Table_cas_4 (o:api_Op) (k:Int) (t:shard_Shard):Option (api_Answer × shard_Shard) :=
  (getI t.Table.l k).bind fun (x1:api_Pair)=>cond (!(x1.Value == o.Old)) (some ((⟨6,x1.Value⟩:api_Answer),t)) ((table_Table_set_4 k o.Value t).bind fun (x2:Int × Int × Int × List UInt8 × Int × Int × Int × List UInt8 × Int × Int × Int × List UInt8 × Int × Int × Int × List UInt8 × Int × Int × List api_Pair)=>some ((⟨0,([]:List UInt8)⟩:api_Answer),(⟨(⟨x2.2.2.2.2.2.2.2.2.2.2.2.2.2.2.2.2.2.2⟩:table_Table),(⟨(⟨(⟨x2.1,x2.2.1,(⟨x2.2.2.1,x2.2.2.2.1⟩:api_Answer)⟩:api_Sess),(⟨x2.2.2.2.2.1,x2.2.2.2.2.2.1,(⟨x2.2.2.2.2.2.2.1,x2.2.2.2.2.2.2.2.1⟩:api_Answer)⟩:api_Sess),(⟨x2.2.2.2.2.2.2.2.2.1,x2.2.2.2.2.2.2.2.2.2.1,(⟨x2.2.2.2.2.2.2.2.2.2.2.1,x2.2.2.2.2.2.2.2.2.2.2.2.1⟩:api_Answer)⟩:api_Sess),(⟨x2.2.2.2.2.2.2.2.2.2.2.2.2.1,x2.2.2.2.2.2.2.2.2.2.2.2.2.2.1,(⟨x2.2.2.2.2.2.2.2.2.2.2.2.2.2.2.1,x2.2.2.2.2.2.2.2.2.2.2.2.2.2.2.2.1⟩:api_Answer)⟩:api_Sess)⟩:A4 api_Sess)⟩:session_Sessions),x2.2.2.2.2.2.2.2.2.2.2.2.2.2.2.2.2.1,x2.2.2.2.2.2.2.2.2.2.2.2.2.2.2.2.2.2.1⟩:shard_Shard)))
def out_table_Table_cas_4 (o:api_Op) (k:Int) (t:shard_Shard) (r:api_Answer × shard_Shard):AV × WH:=((.agg (e_api_Answer r.1)),[(some (.cells (e_shard_Shard r.2) false false))])
theorem s_table_Table_cas_4 (d:Nat) {o:api_Op} {k:Int} {t:shard_Shard} {r:api_Answer × shard_Shard} (h:table_Table_cas_4 o k t=some r):Spec (wcalls atab (d+3)) 98 [(.ptr (some (0,0))),(.agg (e_api_Op o)),(.int .i64 k)] [(some (.cells (e_shard_Shard t) false false))] (out_table_Table_cas_4 o k t r).1 (out_table_Table_cas_4 o k t r).2:=by
  obtain ⟨x1,hx1⟩:=wx (getI t.Table.l k)
  obtain ⟨x2,hx2⟩:=wx (table_Table_set_4 k o.Value t)
  have e:∀ C:ACalls,wBody C (fun _=>none) KK WF98 [(.ptr (some (0,0))),(.agg (e_api_Op o)),(.int .i64 k)] [(some (.cells (e_shard_Shard t) false false))] (.v 13 (.elem ((e_api_Pair x1) ++ F_api_Pair (t.Table.l.drop (k.toNat+1)))) (.br 19 (.st none (.fin (some false) [] (some false))) (.call [] (some false) [] (.tuple []) [(some (.cells [(.acc 1 0 2 x2.2.2.2.2.2.2.2.2.2.2.2.2.2.2.2.2.2.2.length true),(.int .i64 x2.1),(.int .i64 x2.2.1),(.int .i64 x2.2.2.1),(.str x2.2.2.2.1),(.int .i64 x2.2.2.2.2.1),(.int .i64 x2.2.2.2.2.2.1),(.int .i64 x2.2.2.2.2.2.2.1),(.str x2.2.2.2.2.2.2.2.1),(.int .i64 x2.2.2.2.2.2.2.2.2.1),(.int .i64 x2.2.2.2.2.2.2.2.2.2.1),(.int .i64 x2.2.2.2.2.2.2.2.2.2.2.1),(.str x2.2.2.2.2.2.2.2.2.2.2.2.1),(.int .i64 x2.2.2.2.2.2.2.2.2.2.2.2.2.1),(.int .i64 x2.2.2.2.2.2.2.2.2.2.2.2.2.2.1),(.int .i64 x2.2.2.2.2.2.2.2.2.2.2.2.2.2.2.1),(.str x2.2.2.2.2.2.2.2.2.2.2.2.2.2.2.2.1),(.int .i64 x2.2.2.2.2.2.2.2.2.2.2.2.2.2.2.2.2.1),(.int .i64 x2.2.2.2.2.2.2.2.2.2.2.2.2.2.2.2.2.2.1)] false false)),(some (.cells (F_api_Pair x2.2.2.2.2.2.2.2.2.2.2.2.2.2.2.2.2.2.2) false true))] (.st none (.fin (some false) [] (some false)))))) (out_table_Table_cas_4 o k t r).1 (out_table_Table_cas_4 o k t r).2=(3=3∧3≤28∧(wP (.idxSlice 2 (.c (l_api_Pair t.Table.l)) (.c (.int .i64 k)))=some (.elem ((e_api_Pair x1) ++ F_api_Pair (t.Table.l.drop (k.toNat+1))))∧(((!(x1.Value == o.Old))=true→lff (out_table_Table_cas_4 o k t) ((⟨6,x1.Value⟩:api_Answer),t) r)∧((!(x1.Value == o.Old))=false→(Spec C 129 [(.ptr (some (0,0))),(.int .i64 k),(.str o.Value)] [(some (.cells (e_shard_Shard t) false false))] (.tuple []) [(some (.cells [(.acc 1 0 2 x2.2.2.2.2.2.2.2.2.2.2.2.2.2.2.2.2.2.2.length true),(.int .i64 x2.1),(.int .i64 x2.2.1),(.int .i64 x2.2.2.1),(.str x2.2.2.2.1),(.int .i64 x2.2.2.2.2.1),(.int .i64 x2.2.2.2.2.2.1),(.int .i64 x2.2.2.2.2.2.2.1),(.str x2.2.2.2.2.2.2.2.1),(.int .i64 x2.2.2.2.2.2.2.2.2.1),(.int .i64 x2.2.2.2.2.2.2.2.2.2.1),(.int .i64 x2.2.2.2.2.2.2.2.2.2.2.1),(.str x2.2.2.2.2.2.2.2.2.2.2.2.1),(.int .i64 x2.2.2.2.2.2.2.2.2.2.2.2.2.1),(.int .i64 x2.2.2.2.2.2.2.2.2.2.2.2.2.2.1),(.int .i64 x2.2.2.2.2.2.2.2.2.2.2.2.2.2.2.1),(.str x2.2.2.2.2.2.2.2.2.2.2.2.2.2.2.2.1),(.int .i64 x2.2.2.2.2.2.2.2.2.2.2.2.2.2.2.2.2.1),(.int .i64 x2.2.2.2.2.2.2.2.2.2.2.2.2.2.2.2.2.2.1)] false false)),(some (.cells (F_api_Pair x2.2.2.2.2.2.2.2.2.2.2.2.2.2.2.2.2.2.2) false true))]∧(1≤2∧lff (out_table_Table_cas_4 o k t) ((⟨0,([]:List UInt8)⟩:api_Answer),(⟨(⟨x2.2.2.2.2.2.2.2.2.2.2.2.2.2.2.2.2.2.2⟩:table_Table),(⟨(⟨(⟨x2.1,x2.2.1,(⟨x2.2.2.1,x2.2.2.2.1⟩:api_Answer)⟩:api_Sess),(⟨x2.2.2.2.2.1,x2.2.2.2.2.2.1,(⟨x2.2.2.2.2.2.2.1,x2.2.2.2.2.2.2.2.1⟩:api_Answer)⟩:api_Sess),(⟨x2.2.2.2.2.2.2.2.2.1,x2.2.2.2.2.2.2.2.2.2.1,(⟨x2.2.2.2.2.2.2.2.2.2.2.1,x2.2.2.2.2.2.2.2.2.2.2.2.1⟩:api_Answer)⟩:api_Sess),(⟨x2.2.2.2.2.2.2.2.2.2.2.2.2.1,x2.2.2.2.2.2.2.2.2.2.2.2.2.2.1,(⟨x2.2.2.2.2.2.2.2.2.2.2.2.2.2.2.1,x2.2.2.2.2.2.2.2.2.2.2.2.2.2.2.2.1⟩:api_Answer)⟩:api_Sess)⟩:A4 api_Sess)⟩:session_Sessions),x2.2.2.2.2.2.2.2.2.2.2.2.2.2.2.2.2.1,x2.2.2.2.2.2.2.2.2.2.2.2.2.2.2.2.2.2.1⟩:shard_Shard)) r)))))):=fun C=>by kernel_rfl
  refine spec_of (fun _ _ h=>by cases h) rfl atab_98 WF98_ok ((e _).mpr ⟨rfl,by decide, ?_⟩)
  unfold table_Table_cas_4 at h
  obtain ⟨q1,h⟩:=bget hx1 h
  refine ⟨wP_idx R_api_Pair q1, ?_⟩
  refine ⟨fun hb=>?_,fun hb=>?_⟩
  · have h:=cond_t hb h
    exact lff_of h
  · have h:=cond_f hb h
    obtain ⟨q2,h⟩:=bget hx2 h
    refine ⟨s_table_Table_set_4 (d+0) q2, ?_⟩
    refine ⟨by decide, ?_⟩
    exact lff_of h
def table_Table_Do_4 (o:api_Op) (t:shard_Shard):Option (api_Answer × shard_Shard) :=
  (table_Right o).bind fun (x1:Bool)=>cond (!x1) (some ((⟨1,([]:List UInt8)⟩:api_Answer),t)) ((table_Table_find_4 o.Key t).bind fun (x2:Int × Bool)=>cond (o.Kind == 2) ((table_Table_put_4 o x2.1 x2.2 t).bind fun (x3:api_Answer × shard_Shard)=>some (x3.1,x3.2)) (cond (!x2.2) (some ((⟨4,([]:List UInt8)⟩:api_Answer),t)) (cond (o.Kind == 1) ((getI t.Table.l x2.1).bind fun (x4:api_Pair)=>some ((⟨0,x4.Value⟩:api_Answer),t)) (cond (o.Kind == 4) ((table_Table_cas_4 o x2.1 t).bind fun (x5:api_Answer × shard_Shard)=>some (x5.1,x5.2)) (gd (fitsB 32 t.Table.l.length) (gd (delB x2.1 (IntKind.i64.wrap (x2.1+1)) t.Table.l.length) (some ((⟨0,([]:List UInt8)⟩:api_Answer),(⟨(⟨(delL t.Table.l x2.1 (IntKind.i64.wrap (x2.1+1)))⟩:table_Table),t.Sessions,t.ID,t.Epoch⟩:shard_Shard)))))))))
def out_table_Table_Do_4 (o:api_Op) (t:shard_Shard) (r:api_Answer × shard_Shard):AV × WH:=((.agg (e_api_Answer r.1)),[(some (.cells (e_shard_Shard r.2) false false))])
theorem s_table_Table_Do_4 (d:Nat) {o:api_Op} {t:shard_Shard} {r:api_Answer × shard_Shard} (h:table_Table_Do_4 o t=some r):Spec (wcalls atab (d+6)) 52 [(.ptr (some (0,0))),(.agg (e_api_Op o))] [(some (.cells (e_shard_Shard t) false false))] (out_table_Table_Do_4 o t r).1 (out_table_Table_Do_4 o t r).2:=by
  obtain ⟨x1,hx1⟩:=wx (table_Right o)
  obtain ⟨x2,hx2⟩:=wx (table_Table_find_4 o.Key t)
  obtain ⟨x3,hx3⟩:=wx (table_Table_put_4 o x2.1 x2.2 t)
  obtain ⟨x4,hx4⟩:=wx (getI t.Table.l x2.1)
  obtain ⟨x5,hx5⟩:=wx (table_Table_cas_4 o x2.1 t)
  have e:∀ C:ACalls,wBody C wB KK WF52 [(.ptr (some (0,0))),(.agg (e_api_Op o))] [(some (.cells (e_shard_Shard t) false false))] (.cb [] [] (.bool x1) (.br 9 (.st none (.fin (some false) [] (some false))) (.call [] (some false) [] (.tuple [(.int .i64 x2.1),(.bool x2.2)]) [(some (.cells (e_shard_Shard t) false false))] (.br 18 (.call [] (some false) [] (.agg (e_api_Answer x3.1)) [(some (.cells (e_shard_Shard x3.2) false false))] (.st none (.fin (some false) [] (some false)))) (.br 27 (.st none (.fin (some false) [] (some false))) (.br 31 (.v 40 (.elem ((e_api_Pair x4) ++ F_api_Pair (t.Table.l.drop (x2.1.toNat+1)))) (.st none (.fin (some false) [] (some false)))) (.br 44 (.call [] (some false) [] (.agg (e_api_Answer x5.1)) [(some (.cells (e_shard_Shard x5.2) false false))] (.st none (.fin (some false) [] (some false)))) (.ap 61 (delL t.Table.l x2.1 (IntKind.i64.wrap (x2.1+1))).length (F_api_Pair (delL t.Table.l x2.1 (IntKind.i64.wrap (x2.1+1)))) (.st none (.st none (.fin (some false) [] (some false)))))))))))) (out_table_Table_Do_4 o t r).1 (out_table_Table_Do_4 o t r).2=(2=2∧2≤65∧(Spec C 57 [(.agg (e_api_Op o))] [] (.bool x1) []∧(((!x1)=true→lff (out_table_Table_Do_4 o t) ((⟨1,([]:List UInt8)⟩:api_Answer),t) r)∧((!x1)=false→(Spec C 96 [(.ptr (some (0,0))),(.str o.Key)] [(some (.cells (e_shard_Shard t) false false))] (.tuple [(.int .i64 x2.1),(.bool x2.2)]) [(some (.cells (e_shard_Shard t) false false))]∧(1≤1∧(((o.Kind == 2)=true→(Spec C 97 [(.ptr (some (0,0))),(.agg (e_api_Op o)),(.int .i64 x2.1),(.bool x2.2)] [(some (.cells (e_shard_Shard t) false false))] (.agg (e_api_Answer x3.1)) [(some (.cells (e_shard_Shard x3.2) false false))]∧(1≤1∧lff (out_table_Table_Do_4 o t) (x3.1,x3.2) r)))∧((o.Kind == 2)=false→(((!x2.2)=true→lff (out_table_Table_Do_4 o t) ((⟨4,([]:List UInt8)⟩:api_Answer),t) r)∧((!x2.2)=false→(((o.Kind == 1)=true→(wP (.idxSlice 2 (.c (l_api_Pair t.Table.l)) (.c (.int .i64 x2.1)))=some (.elem ((e_api_Pair x4) ++ F_api_Pair (t.Table.l.drop (x2.1.toNat+1))))∧lff (out_table_Table_Do_4 o t) ((⟨0,x4.Value⟩:api_Answer),t) r))∧((o.Kind == 1)=false→(((o.Kind == 4)=true→(Spec C 98 [(.ptr (some (0,0))),(.agg (e_api_Op o)),(.int .i64 x2.1)] [(some (.cells (e_shard_Shard t) false false))] (.agg (e_api_Answer x5.1)) [(some (.cells (e_shard_Shard x5.2) false false))]∧(1≤1∧lff (out_table_Table_Do_4 o t) (x5.1,x5.2) r)))∧((o.Kind == 4)=false→(fitsB 32 t.Table.l.length=true∧((0≤x2.1∧x2.1 < (IntKind.i64.wrap (x2.1+1))∧(IntKind.i64.wrap (x2.1+1))≤((t.Table.l.length:Nat):Int))∧(t.Table.l.length - ((IntKind.i64.wrap (x2.1+1)).toNat - x2.1.toNat)=(delL t.Table.l x2.1 (IntKind.i64.wrap (x2.1+1))).length∧((F_api_Pair t.Table.l).take (x2.1.toNat * 2) ++ (F_api_Pair t.Table.l).drop ((IntKind.i64.wrap (x2.1+1)).toNat * 2)=F_api_Pair (delL t.Table.l x2.1 (IntKind.i64.wrap (x2.1+1)))∧lff (out_table_Table_Do_4 o t) ((⟨0,([]:List UInt8)⟩:api_Answer),(⟨(⟨(delL t.Table.l x2.1 (IntKind.i64.wrap (x2.1+1)))⟩:table_Table),t.Sessions,t.ID,t.Epoch⟩:shard_Shard)) r)))))))))))))))))):=fun C=>by kernel_rfl
  refine spec_of (wB_ok _) rfl atab_52 WF52_ok ((e _).mpr ⟨rfl,by decide, ?_⟩)
  unfold table_Table_Do_4 at h
  obtain ⟨q1,h⟩:=bget hx1 h
  refine ⟨s_table_Right (d+4) q1, ?_⟩
  refine ⟨fun hb=>?_,fun hb=>?_⟩
  · have h:=cond_t hb h
    exact lff_of h
  · have h:=cond_f hb h
    obtain ⟨q2,h⟩:=bget hx2 h
    refine ⟨s_table_Table_find_4 (d+0) q2, ?_⟩
    refine ⟨by decide, ?_⟩
    refine ⟨fun hb=>?_,fun hb=>?_⟩
    · have h:=cond_t hb h
      obtain ⟨q3,h⟩:=bget hx3 h
      refine ⟨s_table_Table_put_4 (d+2) q3, ?_⟩
      refine ⟨by decide, ?_⟩
      exact lff_of h
    · have h:=cond_f hb h
      refine ⟨fun hb=>?_,fun hb=>?_⟩
      · have h:=cond_t hb h
        exact lff_of h
      · have h:=cond_f hb h
        refine ⟨fun hb=>?_,fun hb=>?_⟩
        · have h:=cond_t hb h
          obtain ⟨q4,h⟩:=bget hx4 h
          refine ⟨wP_idx R_api_Pair q4, ?_⟩
          exact lff_of h
        · have h:=cond_f hb h
          refine ⟨fun hb=>?_,fun hb=>?_⟩
          · have h:=cond_t hb h
            obtain ⟨q5,h⟩:=bget hx5 h
            refine ⟨s_table_Table_cas_4 (d+2) q5, ?_⟩
            refine ⟨by decide, ?_⟩
            exact lff_of h
          · have h:=cond_f hb h
            obtain ⟨q6,h⟩:=gd_some h
            refine ⟨q6, ?_⟩
            obtain ⟨q7,h⟩:=gd_some h
            refine ⟨delB_1 q7, ?_⟩
            refine ⟨delB_2 (l:=t.Table.l) q7, ?_⟩
            refine ⟨del_row R_api_Pair, ?_⟩
            exact lff_of h
abbrev in_session_Sessions_Note_2_J0 (p_x:api_Sess) (p_s:shard_Shard):Fast × WH:=([(0,(.ptr (some (0,1)))),(3,(.ptr (some (1,0))))],[(some (.cells (e_shard_Shard p_s) false false)),(some (.cells (e_api_Sess p_x) false false))])
def fin_session_Sessions_Note_2_J0 (p_x:api_Sess) (p_s:shard_Shard):Unit ⊕ Unit→Ex × Fast × WH:=fun
  | .inl e=>(.ret,[(4,(.bool false))],[(some (.cells (e_shard_Shard p_s) false false))])
  | .inr e=>(.normal,[(0,(.ptr (some (0,1)))),(3,(.ptr (some (1,0))))],[(some (.cells (e_shard_Shard p_s) false false)),(some (.cells (e_api_Sess p_x) false false))])
def session_Sessions_Note_2_J0 (p_x:api_Sess) (p_s:shard_Shard):Option (Unit ⊕ Unit) :=
  cond (decide (p_x.Client < 0)) (some (.inl ())) (cond (decide (p_x.Client ≥ 4)) (some (.inl ())) (cond (decide (p_x.Seq < 1)) (some (.inl ())) ((getI (p_s.Sessions.l.toL) p_x.Client).bind fun (x1:api_Sess)=>cond (decide (p_x.Seq≤x1.Seq)) (some (.inl ())) (some (.inr ())))))
theorem s_session_Sessions_Note_2_J0 (d:Nat) {p_x:api_Sess} {p_s:shard_Shard} {r:Unit ⊕ Unit} (h:session_Sessions_Note_2_J0 p_x p_s=some r):RunX (bexec (wcalls atab (d+0)) KK 38 WJ106_ba) 1 (in_session_Sessions_Note_2_J0 p_x p_s) (fin_session_Sessions_Note_2_J0 p_x p_s r):=by
  obtain ⟨x1,hx1⟩:=wx (getI (p_s.Sessions.l.toL) p_x.Client)
  have e:∀ C:ACalls,wCode C (fun _=>none) KK 38 1 WJ106_ba (in_session_Sessions_Note_2_J0 p_x p_s).1 (in_session_Sessions_Note_2_J0 p_x p_s).2 (.br 8 (.en [4] [none] [] []) (.br 13 (.en [4] [none] [] []) (.br 18 (.en [4] [none] [] []) (.v 26 (.ptr (some (0,1+p_x.Client.toNat * 4))) (.v 28 (.int .i64 x1.Seq) (.br 30 (.en [4] [none] [] []) (.en [0,3] [none,none] [] []))))))) (fin_session_Sessions_Note_2_J0 p_x p_s r)=(((decide (p_x.Client < 0))=true→lfe (fin_session_Sessions_Note_2_J0 p_x p_s) (.inl ()) r)∧((decide (p_x.Client < 0))=false→(((decide (p_x.Client ≥ 4))=true→lfe (fin_session_Sessions_Note_2_J0 p_x p_s) (.inl ()) r)∧((decide (p_x.Client ≥ 4))=false→(((decide (p_x.Seq < 1))=true→lfe (fin_session_Sessions_Note_2_J0 p_x p_s) (.inl ()) r)∧((decide (p_x.Seq < 1))=false→(wP (.idxArr 4 4 (.c (.ptr (some (0,1)))) (.c (.int .i64 p_x.Client)))=some (.ptr (some (0,1+p_x.Client.toNat * 4)))∧(cPart false (1+p_x.Client.toNat * 4+1) 1 (e_shard_Shard p_s)=some (.int .i64 x1.Seq)∧(((decide (p_x.Seq≤x1.Seq))=true→lfe (fin_session_Sessions_Note_2_J0 p_x p_s) (.inl ()) r)∧((decide (p_x.Seq≤x1.Seq))=false→lfe (fin_session_Sessions_Note_2_J0 p_x p_s) (.inr ()) r)))))))))):=fun C=>by kernel_rfl
  refine runS_of (fun _ _ h=>by cases h) WJ106_ba_ok (Nat.le_of_ble_eq_true rfl) ((e _).mpr ?_)
  unfold session_Sessions_Note_2_J0 at h
  refine ⟨fun hb=>?_,fun hb=>?_⟩
  · have h:=cond_t hb h
    exact lfe_of h
  · have h:=cond_f hb h
    refine ⟨fun hb=>?_,fun hb=>?_⟩
    · have h:=cond_t hb h
      exact lfe_of h
    · have h:=cond_f hb h
      refine ⟨fun hb=>?_,fun hb=>?_⟩
      · have h:=cond_t hb h
        exact lfe_of h
      · have h:=cond_f hb h
        obtain ⟨q1,h⟩:=bget hx1 h
        refine ⟨wP_arr q1 rfl, ?_⟩
        refine ⟨cP_arr (p:=1) (o:=1) R_api_Sess q1 rfl rfl, ?_⟩
        refine ⟨fun hb=>?_,fun hb=>?_⟩
        · have h:=cond_t hb h
          exact lfe_of h
        · have h:=cond_f hb h
          exact lfe_of h
def session_Sessions_Note_2 (p_x:api_Sess) (p_s:shard_Shard):Option (Bool × shard_Shard) :=
  (session_Sessions_Note_2_J0 p_x p_s).bind fun (x2:Unit ⊕ Unit)=>cond (isL x2) (some (false,p_s)) ((getI (p_s.Sessions.l.toL) p_x.Client).bind fun (x4:api_Sess)=>some (true,(⟨p_s.Table,(⟨(p_s.Sessions.l.set p_x.Client p_x)⟩:session_Sessions),p_s.ID,p_s.Epoch⟩:shard_Shard)))
def out_session_Sessions_Note_2 (p_x:api_Sess) (p_s:shard_Shard) (r:Bool × shard_Shard):AV × WH:=((.bool r.1),[(some (.cells (e_shard_Shard r.2) false false))])
theorem s_session_Sessions_Note_2 (d:Nat) {p_x:api_Sess} {p_s:shard_Shard} {r:Bool × shard_Shard} (h:session_Sessions_Note_2 p_x p_s=some r):Spec (wcalls atab (d+1)) 106 [(.ptr (some (0,1))),(.agg (e_api_Sess p_x))] [(some (.cells (e_shard_Shard p_s) false false))] (out_session_Sessions_Note_2 p_x p_s r).1 (out_session_Sessions_Note_2 p_x p_s r).2:=by
  obtain ⟨x2,hx2⟩:=wx (session_Sessions_Note_2_J0 p_x p_s)
  obtain ⟨x4,hx4⟩:=wx (getI (p_s.Sessions.l.toL) p_x.Client)
  have e:∀ C:ACalls,wBody C (fun _=>none) KK WF106 [(.ptr (some (0,1))),(.agg (e_api_Sess p_x))] [(some (.cells (e_shard_Shard p_s) false false))] (.sk (.ite (isL x2) (.jn [0,3] [none,none] [] [] .ret [(4,(.bool false))] [(some (.cells (e_shard_Shard p_s) false false))] (.fin (some false) [] none)) (.jn [0,3] [none,none] [] [] .normal [(0,(.ptr (some (0,1)))),(3,(.ptr (some (1,0))))] [(some (.cells (e_shard_Shard p_s) false false)),(some (.cells (e_api_Sess p_x) false false))] (.v 37 (.ptr (some (0,1+p_x.Client.toNat * 4))) (.st (some (e_shard_Shard (⟨p_s.Table,(⟨(p_s.Sessions.l.set p_x.Client p_x)⟩:session_Sessions),p_s.ID,p_s.Epoch⟩:shard_Shard))) (.fin (some false) [] none)))))) (out_session_Sessions_Note_2 p_x p_s r).1 (out_session_Sessions_Note_2 p_x p_s r).2=(2=2∧2≤38∧(((isL x2)=true→(RunS (bexec C KK 38 WJ106_ba) 1 [(0,(.ptr (some (0,1)))),(3,(.ptr (some (1,0))))] [(some (.cells (e_shard_Shard p_s) false false)),(some (.cells (e_api_Sess p_x) false false))] .ret [(4,(.bool false))] [(some (.cells (e_shard_Shard p_s) false false))]∧lff (out_session_Sessions_Note_2 p_x p_s) (false,p_s) r))∧((isL x2)=false→(RunS (bexec C KK 38 WJ106_ba) 1 [(0,(.ptr (some (0,1)))),(3,(.ptr (some (1,0))))] [(some (.cells (e_shard_Shard p_s) false false)),(some (.cells (e_api_Sess p_x) false false))] .normal [(0,(.ptr (some (0,1)))),(3,(.ptr (some (1,0))))] [(some (.cells (e_shard_Shard p_s) false false)),(some (.cells (e_api_Sess p_x) false false))]∧(wP (.idxArr 4 4 (.c (.ptr (some (0,1)))) (.c (.int .i64 p_x.Client)))=some (.ptr (some (0,1+p_x.Client.toNat * 4)))∧(wrC (e_shard_Shard p_s) (1+p_x.Client.toNat * 4) [(.int .i64 p_x.Client),(.int .i64 p_x.Seq),(.int .i64 p_x.Answer.Why),(.str p_x.Answer.Value)]=some (e_shard_Shard (⟨p_s.Table,(⟨(p_s.Sessions.l.set p_x.Client p_x)⟩:session_Sessions),p_s.ID,p_s.Epoch⟩:shard_Shard))∧lff (out_session_Sessions_Note_2 p_x p_s) (true,(⟨p_s.Table,(⟨(p_s.Sessions.l.set p_x.Client p_x)⟩:session_Sessions),p_s.ID,p_s.Epoch⟩:shard_Shard)) r)))))):=fun C=>by kernel_rfl
  refine spec_of (fun _ _ h=>by cases h) rfl atab_106 WF106_ok ((e _).mpr ⟨rfl,by decide, ?_⟩)
  unfold session_Sessions_Note_2 at h
  obtain ⟨q2,h⟩:=bget hx2 h
  refine ⟨fun hb3=>?_,fun hb3=>?_⟩
  · have h:=cond_t hb3 h
    refine ⟨by have h:=s_session_Sessions_Note_2_J0 (d+0) q2; rw [isL_t hb3] at h; exact h, ?_⟩
    exact lff_of h
  · have h:=cond_f hb3 h
    refine ⟨by have h:=s_session_Sessions_Note_2_J0 (d+0) q2; rw [isL_f hb3] at h; exact h, ?_⟩
    obtain ⟨q4,h⟩:=bget hx4 h
    refine ⟨wP_arr q4 rfl, ?_⟩
    refine ⟨wr_arr (p:=1) (o:=0) R_api_Sess q4 (A4.toL_set _ q4) rfl (Nat.le_of_ble_eq_true rfl) rfl rfl, ?_⟩
    exact lff_of h
abbrev in_shard_Shard_Ask_J0 (p_r:api_Req) (p_s:shard_Shard):Fast × WH:=([(0,(.ptr (some (0,0)))),(3,(.ptr (some (1,0)))),(4,(.ptr (some (2,0))))],[(some (.cells (e_shard_Shard p_s) false false)),(some (.cells (e_api_Req p_r) false false)),(some (.cells (e_api_Answer (⟨0,([]:List UInt8)⟩:api_Answer)) false false))])
def fin_shard_Shard_Ask_J0 (p_r:api_Req) (p_s:shard_Shard):Unit ⊕ Unit→Ex × Fast × WH:=fun
  | .inl e=>(.ret,[(4,(.ptr (some (1,0)))),(5,(.bool false))],[(some (.cells (e_shard_Shard p_s) false false)),(some (.cells (e_api_Answer (⟨1,([]:List UInt8)⟩:api_Answer)) false false))])
  | .inr e=>(.normal,[(0,(.ptr (some (0,0)))),(3,(.ptr (some (1,0)))),(4,(.ptr (some (2,0))))],[(some (.cells (e_shard_Shard p_s) false false)),(some (.cells (e_api_Req p_r) false false)),(some (.cells (e_api_Answer (⟨0,([]:List UInt8)⟩:api_Answer)) false false))])
def shard_Shard_Ask_J0 (p_r:api_Req) (p_s:shard_Shard):Option (Unit ⊕ Unit) :=
  cond (decide (p_r.Client < 0)) (some (.inl ())) (cond (decide (p_r.Client ≥ 4)) (some (.inl ())) (cond (decide (p_r.Seq < 1)) (some (.inl ())) (cond (decide (p_r.Seq > 4611686018427387903)) (some (.inl ())) ((table_Right p_r.Op).bind fun (x1:Bool)=>cond (!x1) (some (.inl ())) (some (.inr ()))))))
theorem s_shard_Shard_Ask_J0 (d:Nat) {p_r:api_Req} {p_s:shard_Shard} {r:Unit ⊕ Unit} (h:shard_Shard_Ask_J0 p_r p_s=some r):RunX (bexec (wcalls atab (d+1)) KK 74 WJ66_ba) 1 (in_shard_Shard_Ask_J0 p_r p_s) (fin_shard_Shard_Ask_J0 p_r p_s r):=by
  obtain ⟨x1,hx1⟩:=wx (table_Right p_r.Op)
  have e:∀ C:ACalls,wCode C (fun _=>none) KK 74 1 WJ66_ba (in_shard_Shard_Ask_J0 p_r p_s).1 (in_shard_Shard_Ask_J0 p_r p_s).2 (.br 11 (.st none (.en [4,5] [none,none] [] [])) (.br 16 (.st none (.en [4,5] [none,none] [] [])) (.br 21 (.st none (.en [4,5] [none,none] [] [])) (.br 26 (.st none (.en [4,5] [none,none] [] [])) (.cb [] [] (.bool x1) (.br 31 (.st none (.en [4,5] [none,none] [] [])) (.en [0,3,4] [none,none,none] [] []))))))) (fin_shard_Shard_Ask_J0 p_r p_s r)=(((decide (p_r.Client < 0))=true→lfe (fin_shard_Shard_Ask_J0 p_r p_s) (.inl ()) r)∧((decide (p_r.Client < 0))=false→(((decide (p_r.Client ≥ 4))=true→lfe (fin_shard_Shard_Ask_J0 p_r p_s) (.inl ()) r)∧((decide (p_r.Client ≥ 4))=false→(((decide (p_r.Seq < 1))=true→lfe (fin_shard_Shard_Ask_J0 p_r p_s) (.inl ()) r)∧((decide (p_r.Seq < 1))=false→(((decide (p_r.Seq > 4611686018427387903))=true→lfe (fin_shard_Shard_Ask_J0 p_r p_s) (.inl ()) r)∧((decide (p_r.Seq > 4611686018427387903))=false→(Spec C 57 [(.agg (e_api_Op p_r.Op))] [] (.bool x1) []∧(((!x1)=true→lfe (fin_shard_Shard_Ask_J0 p_r p_s) (.inl ()) r)∧((!x1)=false→lfe (fin_shard_Shard_Ask_J0 p_r p_s) (.inr ()) r))))))))))):=fun C=>by kernel_rfl
  refine runS_of (fun _ _ h=>by cases h) WJ66_ba_ok (Nat.le_of_ble_eq_true rfl) ((e _).mpr ?_)
  unfold shard_Shard_Ask_J0 at h
  refine ⟨fun hb=>?_,fun hb=>?_⟩
  · have h:=cond_t hb h
    exact lfe_of h
  · have h:=cond_f hb h
    refine ⟨fun hb=>?_,fun hb=>?_⟩
    · have h:=cond_t hb h
      exact lfe_of h
    · have h:=cond_f hb h
      refine ⟨fun hb=>?_,fun hb=>?_⟩
      · have h:=cond_t hb h
        exact lfe_of h
      · have h:=cond_f hb h
        refine ⟨fun hb=>?_,fun hb=>?_⟩
        · have h:=cond_t hb h
          exact lfe_of h
        · have h:=cond_f hb h
          obtain ⟨q1,h⟩:=bget hx1 h
          refine ⟨s_table_Right (d+0) q1, ?_⟩
          refine ⟨fun hb=>?_,fun hb=>?_⟩
          · have h:=cond_t hb h
            exact lfe_of h
          · have h:=cond_f hb h
            exact lfe_of h
def shard_Shard_Ask (p_r:api_Req) (p_s:shard_Shard):Option (api_Answer × Bool × shard_Shard) :=
  (shard_Shard_Ask_J0 p_r p_s).bind fun (x2:Unit ⊕ Unit)=>cond (isL x2) (some ((⟨1,([]:List UInt8)⟩:api_Answer),false,p_s)) ((session_Sessions_Last p_r.Client p_s).bind fun (x4:api_Sess × Bool)=>cond (p_r.Seq == x4.1.Seq) (some (x4.1.Answer,false,p_s)) (cond (decide (p_r.Seq < x4.1.Seq)) (some ((⟨9,([]:List UInt8)⟩:api_Answer),false,p_s)) ((table_Table_Do_4 p_r.Op p_s).bind fun (x5:api_Answer × shard_Shard)=>(session_Sessions_Note_2 (⟨p_r.Client,p_r.Seq,x5.1⟩:api_Sess) x5.2).bind fun (x6:Bool × shard_Shard)=>some (x5.1,true,x6.2))))
def out_shard_Shard_Ask (p_r:api_Req) (p_s:shard_Shard) (r:api_Answer × Bool × shard_Shard):AV × WH:=((.tuple [(.agg (e_api_Answer r.1)),(.bool r.2.1)]),[(some (.cells (e_shard_Shard r.2.2) false false))])
theorem s_shard_Shard_Ask (d:Nat) {p_r:api_Req} {p_s:shard_Shard} {r:api_Answer × Bool × shard_Shard} (h:shard_Shard_Ask p_r p_s=some r):Spec (wcalls atab (d+7)) 66 [(.ptr (some (0,0))),(.agg (e_api_Req p_r))] [(some (.cells (e_shard_Shard p_s) false false))] (out_shard_Shard_Ask p_r p_s r).1 (out_shard_Shard_Ask p_r p_s r).2:=by
  obtain ⟨x2,hx2⟩:=wx (shard_Shard_Ask_J0 p_r p_s)
  obtain ⟨x4,hx4⟩:=wx (session_Sessions_Last p_r.Client p_s)
  obtain ⟨x5,hx5⟩:=wx (table_Table_Do_4 p_r.Op p_s)
  obtain ⟨x6,hx6⟩:=wx (session_Sessions_Note_2 (⟨p_r.Client,p_r.Seq,x5.1⟩:api_Sess) x5.2)
  have e:∀ C:ACalls,wBody C (fun _=>none) KK WF66 [(.ptr (some (0,0))),(.agg (e_api_Req p_r))] [(some (.cells (e_shard_Shard p_s) false false))] (.sk (.ite (isL x2) (.jn [0,3,4] [none,none,none] [] [] .ret [(4,(.ptr (some (1,0)))),(5,(.bool false))] [(some (.cells (e_shard_Shard p_s) false false)),(some (.cells (e_api_Answer (⟨1,([]:List UInt8)⟩:api_Answer)) false false))] (.fin (some false) [] none)) (.jn [0,3,4] [none,none,none] [] [] .normal [(0,(.ptr (some (0,0)))),(3,(.ptr (some (1,0)))),(4,(.ptr (some (2,0))))] [(some (.cells (e_shard_Shard p_s) false false)),(some (.cells (e_api_Req p_r) false false)),(some (.cells (e_api_Answer (⟨0,([]:List UInt8)⟩:api_Answer)) false false))] (.call [] (some false) [] (.tuple [(.agg (e_api_Sess x4.1)),(.bool x4.2)]) [(some (.cells (e_shard_Shard p_s) false false))] (.st none (.br 42 (.st none (.fin (some false) [] none)) (.br 50 (.st none (.fin (some false) [] none)) (.call [] (some false) [] (.agg (e_api_Answer x5.1)) [(some (.cells (e_shard_Shard x5.2) false false))] (.st none (.call [] (some false) [] (.bool x6.1) [(some (.cells (e_shard_Shard x6.2) false false))] (.st none (.fin (some false) [] none)))))))))))) (out_shard_Shard_Ask p_r p_s r).1 (out_shard_Shard_Ask p_r p_s r).2=(2=2∧2≤74∧(((isL x2)=true→(RunS (bexec C KK 74 WJ66_ba) 1 [(0,(.ptr (some (0,0)))),(3,(.ptr (some (1,0)))),(4,(.ptr (some (2,0))))] [(some (.cells (e_shard_Shard p_s) false false)),(some (.cells (e_api_Req p_r) false false)),(some (.cells (e_api_Answer (⟨0,([]:List UInt8)⟩:api_Answer)) false false))] .ret [(4,(.ptr (some (1,0)))),(5,(.bool false))] [(some (.cells (e_shard_Shard p_s) false false)),(some (.cells (e_api_Answer (⟨1,([]:List UInt8)⟩:api_Answer)) false false))]∧lff (out_shard_Shard_Ask p_r p_s) ((⟨1,([]:List UInt8)⟩:api_Answer),false,p_s) r))∧((isL x2)=false→(RunS (bexec C KK 74 WJ66_ba) 1 [(0,(.ptr (some (0,0)))),(3,(.ptr (some (1,0)))),(4,(.ptr (some (2,0))))] [(some (.cells (e_shard_Shard p_s) false false)),(some (.cells (e_api_Req p_r) false false)),(some (.cells (e_api_Answer (⟨0,([]:List UInt8)⟩:api_Answer)) false false))] .normal [(0,(.ptr (some (0,0)))),(3,(.ptr (some (1,0)))),(4,(.ptr (some (2,0))))] [(some (.cells (e_shard_Shard p_s) false false)),(some (.cells (e_api_Req p_r) false false)),(some (.cells (e_api_Answer (⟨0,([]:List UInt8)⟩:api_Answer)) false false))]∧(Spec C 72 [(.ptr (some (0,1))),(.int .i64 p_r.Client)] [(some (.cells (e_shard_Shard p_s) false false))] (.tuple [(.agg (e_api_Sess x4.1)),(.bool x4.2)]) [(some (.cells (e_shard_Shard p_s) false false))]∧(1≤1∧(((p_r.Seq == x4.1.Seq)=true→lff (out_shard_Shard_Ask p_r p_s) (x4.1.Answer,false,p_s) r)∧((p_r.Seq == x4.1.Seq)=false→(((decide (p_r.Seq < x4.1.Seq))=true→lff (out_shard_Shard_Ask p_r p_s) ((⟨9,([]:List UInt8)⟩:api_Answer),false,p_s) r)∧((decide (p_r.Seq < x4.1.Seq))=false→(Spec C 52 [(.ptr (some (0,0))),(.agg (e_api_Op p_r.Op))] [(some (.cells (e_shard_Shard p_s) false false))] (.agg (e_api_Answer x5.1)) [(some (.cells (e_shard_Shard x5.2) false false))]∧(1≤1∧(Spec C 106 [(.ptr (some (0,1))),(.agg (e_api_Sess (⟨p_r.Client,p_r.Seq,x5.1⟩:api_Sess)))] [(some (.cells (e_shard_Shard x5.2) false false))] (.bool x6.1) [(some (.cells (e_shard_Shard x6.2) false false))]∧(1≤1∧lff (out_shard_Shard_Ask p_r p_s) (x5.1,true,x6.2) r)))))))))))))):=fun C=>by kernel_rfl
  refine spec_of (fun _ _ h=>by cases h) rfl atab_66 WF66_ok ((e _).mpr ⟨rfl,by decide, ?_⟩)
  unfold shard_Shard_Ask at h
  obtain ⟨q2,h⟩:=bget hx2 h
  refine ⟨fun hb3=>?_,fun hb3=>?_⟩
  · have h:=cond_t hb3 h
    refine ⟨by have h:=s_shard_Shard_Ask_J0 (d+5) q2; rw [isL_t hb3] at h; exact h, ?_⟩
    exact lff_of h
  · have h:=cond_f hb3 h
    refine ⟨by have h:=s_shard_Shard_Ask_J0 (d+5) q2; rw [isL_f hb3] at h; exact h, ?_⟩
    obtain ⟨q4,h⟩:=bget hx4 h
    refine ⟨s_session_Sessions_Last (d+5) q4, ?_⟩
    refine ⟨by decide, ?_⟩
    refine ⟨fun hb=>?_,fun hb=>?_⟩
    · have h:=cond_t hb h
      exact lff_of h
    · have h:=cond_f hb h
      refine ⟨fun hb=>?_,fun hb=>?_⟩
      · have h:=cond_t hb h
        exact lff_of h
      · have h:=cond_f hb h
        obtain ⟨q5,h⟩:=bget hx5 h
        refine ⟨s_table_Table_Do_4 (d+0) q5, ?_⟩
        refine ⟨by decide, ?_⟩
        obtain ⟨q6,h⟩:=bget hx6 h
        refine ⟨s_session_Sessions_Note_2 (d+5) q6, ?_⟩
        refine ⟨by decide, ?_⟩
        exact lff_of h
def table_Table_Pairs_3 (t:shard_Shard):Option (List api_Pair) :=
  gd (fitsB 32 t.Table.l.length) (some t.Table.l)
def out_table_Table_Pairs_3 (t:shard_Shard) (r:List api_Pair):AV × WH:=((l_api_Pair r),[(some (.cells (e_shard_Shard t) false false))])
theorem s_table_Table_Pairs_3 (d:Nat) {t:shard_Shard} {r:List api_Pair} (h:table_Table_Pairs_3 t=some r):Spec (wcalls atab (d+2)) 54 [(.ptr (some (0,0)))] [(some (.cells (e_shard_Shard t) false false))] (out_table_Table_Pairs_3 t r).1 (out_table_Table_Pairs_3 t r).2:=by
  have e:∀ C:ACalls,wBody C wB KK WF54 [(.ptr (some (0,0)))] [(some (.cells (e_shard_Shard t) false false))] (.z 2 [.slice none 2 0 0 true] (.fin (some false) [.slice none 2 0 0 true] none)) (out_table_Table_Pairs_3 t r).1 (out_table_Table_Pairs_3 t r).2=(1=1∧1≤9∧(fitsB 32 t.Table.l.length=true∧lff (out_table_Table_Pairs_3 t) t.Table.l r)):=fun C=>by kernel_rfl
  refine spec_of (wB_ok _) rfl atab_54 WF54_ok ((e _).mpr ⟨rfl,by decide, ?_⟩)
  unfold table_Table_Pairs_3 at h
  obtain ⟨q1,h⟩:=gd_some h
  refine ⟨q1, ?_⟩
  exact lff_of h
end Go.Proofs.Ytachollgbplikaa
