import Derived.Test.YtachollgbplikaaXt
import Derived.Test.YtachollgbplikaaXs
set_option linter.all false
set_option maxRecDepth 100000
namespace Go.Proofs.Ytachollgbplikaa
def oH_Pick (n:Int) (m:Int):Option (Int) :=
  (remI .i64 n m).bind fun (x1:Int)=>cond (decide (x1 < 0)) (some (IntKind.i64.wrap (x1+m))) (some x1)
def out_oH_Pick (n:Int) (m:Int) (r:Int):AV × WH:=((.int .i64 r),[])
theorem s_oH_Pick (d:Nat) {n:Int} {m:Int} {r:Int} (h:oH_Pick n m=some r):Spec (wcalls atab (d+1)) 28 [(.int .i64 n),(.int .i64 m)] [] (out_oH_Pick n m r).1 (out_oH_Pick n m r).2:=by
  obtain ⟨x1,hx1⟩:=wx (remI .i64 n m)
  have e:∀ C:ACalls,wBody C (fun _=>none) KK WF28 [(.int .i64 n),(.int .i64 m)] [] (.v 7 (.int .i64 x1) (.br 9 (.fin (some false) [] none) (.fin (some false) [] none))) (out_oH_Pick n m r).1 (out_oH_Pick n m r).2=(2=2∧2≤14∧(aInts .rem .i64 n m=some (.int .i64 x1)∧(((decide (x1 < 0))=true→lff (out_oH_Pick n m) (IntKind.i64.wrap (x1+m)) r)∧((decide (x1 < 0))=false→lff (out_oH_Pick n m) x1 r)))):=fun C=>by kernel_rfl
  refine spec_of (fun _ _ h=>by cases h) rfl atab_28 WF28_ok ((e _).mpr ⟨rfl,by decide, ?_⟩)
  unfold oH_Pick at h
  obtain ⟨q1,h⟩:=bget hx1 h
  refine ⟨wP_rem q1, ?_⟩
  refine ⟨fun hb=>?_,fun hb=>?_⟩
  · have h:=cond_t hb h
    exact lff_of h
  · have h:=cond_f hb h
    exact lff_of h
abbrev in_table_Right_J0 (o:api_Op):Fast × WH:=([(1,(.ptr (some (0,0))))],[(some (.cells (e_api_Op o) false false))])
def fin_table_Right_J0 (o:api_Op):Bool→Ex × Fast × WH:=fun e=>(.normal,[(1,(.ptr (some (0,0)))),(3,(.bool e))],[(some (.cells (e_api_Op o) false false))])
def table_Right_J0 (o:api_Op):Option (Bool) :=
  cond (o.Kind == 2) (some true) (some (o.Kind == 4))
theorem s_table_Right_J0 (d:Nat) {o:api_Op} {r:Bool} (h:table_Right_J0 o=some r):RunX (bexec (wcalls atab (d+0)) KK 53 WJ57_ba) 0 (in_table_Right_J0 o) (fin_table_Right_J0 o r):=by
  have e:∀ C:ACalls,wCode C (fun _=>none) KK 53 0 WJ57_ba (in_table_Right_J0 o).1 (in_table_Right_J0 o).2 (.br 7 (.en [1,3] [none,none] [] []) (.en [1,3] [none,none] [] [])) (fin_table_Right_J0 o r)=(((o.Kind == 2)=true→lfe (fin_table_Right_J0 o) true r)∧((o.Kind == 2)=false→lfe (fin_table_Right_J0 o) (o.Kind == 4) r)):=fun C=>by kernel_rfl
  refine runS_of (fun _ _ h=>by cases h) WJ57_ba_ok (Nat.le_of_ble_eq_true rfl) ((e _).mpr ?_)
  unfold table_Right_J0 at h
  refine ⟨fun hb=>?_,fun hb=>?_⟩
  · have h:=cond_t hb h
    exact lfe_of h
  · have h:=cond_f hb h
    exact lfe_of h
abbrev in_table_Right_J1 (o:api_Op) (x1:Bool):Fast × WH:=([(1,(.ptr (some (0,0)))),(3,(.bool x1))],[(some (.cells (e_api_Op o) false false))])
def fin_table_Right_J1 (o:api_Op) (x1:Bool):Bool→Ex × Fast × WH:=fun e=>(.normal,[(1,(.ptr (some (0,0)))),(3,(.bool x1)),(12,(.bool e))],[(some (.cells (e_api_Op o) false false))])
def table_Right_J1 (o:api_Op) (x1:Bool):Option (Bool) :=
  cond (decide (o.Kind < 1)) (some true) (some (decide (o.Kind > 4)))
theorem s_table_Right_J1 (d:Nat) {o:api_Op} {x1:Bool} {r:Bool} (h:table_Right_J1 o x1=some r):RunX (bexec (wcalls atab (d+0)) KK 53 WJ57_bbakaa) 0 (in_table_Right_J1 o x1) (fin_table_Right_J1 o x1 r):=by
  have e:∀ C:ACalls,wCode C (fun _=>none) KK 53 0 WJ57_bbakaa (in_table_Right_J1 o x1).1 (in_table_Right_J1 o x1).2 (.br 16 (.en [1,3,12] [none,none,none] [] []) (.en [1,3,12] [none,none,none] [] [])) (fin_table_Right_J1 o x1 r)=(((decide (o.Kind < 1))=true→lfe (fin_table_Right_J1 o x1) true r)∧((decide (o.Kind < 1))=false→lfe (fin_table_Right_J1 o x1) (decide (o.Kind > 4)) r)):=fun C=>by kernel_rfl
  refine runS_of (fun _ _ h=>by cases h) WJ57_bbakaa_ok (Nat.le_of_ble_eq_true rfl) ((e _).mpr ?_)
  unfold table_Right_J1 at h
  refine ⟨fun hb=>?_,fun hb=>?_⟩
  · have h:=cond_t hb h
    exact lfe_of h
  · have h:=cond_f hb h
    exact lfe_of h
abbrev in_table_Right_J2 (o:api_Op) (x1:Bool):Fast × WH:=([(1,(.ptr (some (0,0)))),(3,(.bool x1))],[(some (.cells (e_api_Op o) false false))])
def fin_table_Right_J2 (o:api_Op) (x1:Bool):Bool→Ex × Fast × WH:=fun e=>(.normal,[(1,(.ptr (some (0,0)))),(3,(.bool x1)),(12,(.bool e))],[(some (.cells (e_api_Op o) false false))])
def table_Right_J2 (o:api_Op) (x1:Bool):Option (Bool) :=
  (table_Right_J1 o x1).bind fun (x2:Bool)=>cond x2 (some true) (cond (o.Key == ([]:List UInt8)) (some true) (some (decide ((o.Key.length:Int) > 8))))
theorem s_table_Right_J2 (d:Nat) {o:api_Op} {x1:Bool} {r:Bool} (h:table_Right_J2 o x1=some r):RunX (bexec (wcalls atab (d+0)) KK 53 WJ57_bbaka) 0 (in_table_Right_J2 o x1) (fin_table_Right_J2 o x1 r):=by
  obtain ⟨x2,hx2⟩:=wx (table_Right_J1 o x1)
  have e:∀ C:ACalls,wCode C (fun _=>none) KK 53 0 WJ57_bbaka (in_table_Right_J2 o x1).1 (in_table_Right_J2 o x1).2 (.jn [1,3] [none,none] [] [] .normal [(1,(.ptr (some (0,0)))),(3,(.bool x1)),(12,(.bool x2))] [(some (.cells (e_api_Op o) false false))] (.br 12 (.en [1,3,12] [none,none,none] [] []) (.br 12 (.en [1,3,12] [none,none,none] [] []) (.en [1,3,12] [none,none,none] [] [])))) (fin_table_Right_J2 o x1 r)=(RunS (bexec C KK 53 WJ57_bbakaa) 0 [(1,(.ptr (some (0,0)))),(3,(.bool x1))] [(some (.cells (e_api_Op o) false false))] .normal [(1,(.ptr (some (0,0)))),(3,(.bool x1)),(12,(.bool x2))] [(some (.cells (e_api_Op o) false false))]∧((x2=true→lfe (fin_table_Right_J2 o x1) true r)∧(x2=false→(((o.Key == ([]:List UInt8))=true→lfe (fin_table_Right_J2 o x1) true r)∧((o.Key == ([]:List UInt8))=false→lfe (fin_table_Right_J2 o x1) (decide ((o.Key.length:Int) > 8)) r))))):=fun C=>by kernel_rfl
  refine runS_of (fun _ _ h=>by cases h) WJ57_bbaka_ok (Nat.le_of_ble_eq_true rfl) ((e _).mpr ?_)
  unfold table_Right_J2 at h
  obtain ⟨q2,h⟩:=bget hx2 h
  refine ⟨s_table_Right_J1 (d+0) q2, ?_⟩
  refine ⟨fun hb=>?_,fun hb=>?_⟩
  · have h:=cond_t hb h
    exact lfe_of h
  · have h:=cond_f hb h
    refine ⟨fun hb=>?_,fun hb=>?_⟩
    · have h:=cond_t hb h
      exact lfe_of h
    · have h:=cond_f hb h
      exact lfe_of h
abbrev in_table_Right_J3 (o:api_Op) (x1:Bool):Fast × WH:=([(1,(.ptr (some (0,0)))),(3,(.bool x1))],[(some (.cells (e_api_Op o) false false))])
def fin_table_Right_J3 (o:api_Op) (x1:Bool):Unit ⊕ Unit→Ex × Fast × WH:=fun
  | .inl e=>(.ret,[(2,(.bool false))],[])
  | .inr e=>(.normal,[(1,(.ptr (some (0,0)))),(3,(.bool x1))],[(some (.cells (e_api_Op o) false false))])
def table_Right_J3 (o:api_Op) (x1:Bool):Option (Unit ⊕ Unit) :=
  (table_Right_J2 o x1).bind fun (x3:Bool)=>cond x3 (some (.inl ())) (cond (decide ((o.Value.length:Int) > 16)) (some (.inl ())) (cond (decide ((o.Old.length:Int) > 16)) (some (.inl ())) (some (.inr ()))))
theorem s_table_Right_J3 (d:Nat) {o:api_Op} {x1:Bool} {r:Unit ⊕ Unit} (h:table_Right_J3 o x1=some r):RunX (bexec (wcalls atab (d+0)) KK 53 WJ57_bba) 0 (in_table_Right_J3 o x1) (fin_table_Right_J3 o x1 r):=by
  obtain ⟨x3,hx3⟩:=wx (table_Right_J2 o x1)
  have e:∀ C:ACalls,wCode C (fun _=>none) KK 53 0 WJ57_bba (in_table_Right_J3 o x1).1 (in_table_Right_J3 o x1).2 (.jn [1,3] [none,none] [] [] .normal [(1,(.ptr (some (0,0)))),(3,(.bool x1)),(12,(.bool x3))] [(some (.cells (e_api_Op o) false false))] (.br 12 (.en [2] [none] [] []) (.br 28 (.en [2] [none] [] []) (.br 28 (.en [2] [none] [] []) (.en [1,3] [none,none] [] []))))) (fin_table_Right_J3 o x1 r)=(RunS (bexec C KK 53 WJ57_bbaka) 0 [(1,(.ptr (some (0,0)))),(3,(.bool x1))] [(some (.cells (e_api_Op o) false false))] .normal [(1,(.ptr (some (0,0)))),(3,(.bool x1)),(12,(.bool x3))] [(some (.cells (e_api_Op o) false false))]∧((x3=true→lfe (fin_table_Right_J3 o x1) (.inl ()) r)∧(x3=false→(((decide ((o.Value.length:Int) > 16))=true→lfe (fin_table_Right_J3 o x1) (.inl ()) r)∧((decide ((o.Value.length:Int) > 16))=false→(((decide ((o.Old.length:Int) > 16))=true→lfe (fin_table_Right_J3 o x1) (.inl ()) r)∧((decide ((o.Old.length:Int) > 16))=false→lfe (fin_table_Right_J3 o x1) (.inr ()) r))))))):=fun C=>by kernel_rfl
  refine runS_of (fun _ _ h=>by cases h) WJ57_bba_ok (Nat.le_of_ble_eq_true rfl) ((e _).mpr ?_)
  unfold table_Right_J3 at h
  obtain ⟨q3,h⟩:=bget hx3 h
  refine ⟨s_table_Right_J2 (d+0) q3, ?_⟩
  refine ⟨fun hb=>?_,fun hb=>?_⟩
  · have h:=cond_t hb h
    exact lfe_of h
  · have h:=cond_f hb h
    refine ⟨fun hb=>?_,fun hb=>?_⟩
    · have h:=cond_t hb h
      exact lfe_of h
    · have h:=cond_f hb h
      refine ⟨fun hb=>?_,fun hb=>?_⟩
      · have h:=cond_t hb h
        exact lfe_of h
      · have h:=cond_f hb h
        exact lfe_of h
def table_Right (o:api_Op):Option (Bool) :=
  (table_Right_J0 o).bind fun (x1:Bool)=>(table_Right_J3 o x1).bind fun (x4:Unit ⊕ Unit)=>cond (isL x4) (some false) (cond x1 (cond (o.Kind == 4) (some true) (some (o.Old == ([]:List UInt8)))) (cond (o.Value == ([]:List UInt8)) (cond (o.Kind == 4) (some true) (some (o.Old == ([]:List UInt8)))) (some false)))
def out_table_Right (o:api_Op) (r:Bool):AV × WH:=((.bool r),[])
theorem s_table_Right (d:Nat) {o:api_Op} {r:Bool} (h:table_Right o=some r):Spec (wcalls atab (d+1)) 57 [(.agg (e_api_Op o))] [] (out_table_Right o r).1 (out_table_Right o r).2:=by
  obtain ⟨x1,hx1⟩:=wx (table_Right_J0 o)
  obtain ⟨x4,hx4⟩:=wx (table_Right_J3 o x1)
  have e:∀ C:ACalls,wBody C (fun _=>none) KK WF57 [(.agg (e_api_Op o))] [] (.sk (.jn [1] [none] [] [] .normal [(1,(.ptr (some (0,0)))),(3,(.bool x1))] [(some (.cells (e_api_Op o) false false))] (.ite (isL x4) (.jn [1,3] [none,none] [] [] .ret [(2,(.bool false))] [] (.fin (some false) [] none)) (.jn [1,3] [none,none] [] [] .normal [(1,(.ptr (some (0,0)))),(3,(.bool x1))] [(some (.cells (e_api_Op o) false false))] (.br 38 (.br 47 (.fin (some false) [] none) (.fin (some false) [] none)) (.br 43 (.br 47 (.fin (some false) [] none) (.fin (some false) [] none)) (.fin (some false) [] none))))))) (out_table_Right o r).1 (out_table_Right o r).2=(1=1∧1≤53∧(RunS (bexec C KK 53 WJ57_ba) 0 [(1,(.ptr (some (0,0))))] [(some (.cells (e_api_Op o) false false))] .normal [(1,(.ptr (some (0,0)))),(3,(.bool x1))] [(some (.cells (e_api_Op o) false false))]∧(((isL x4)=true→(RunS (bexec C KK 53 WJ57_bba) 0 [(1,(.ptr (some (0,0)))),(3,(.bool x1))] [(some (.cells (e_api_Op o) false false))] .ret [(2,(.bool false))] []∧lff (out_table_Right o) false r))∧((isL x4)=false→(RunS (bexec C KK 53 WJ57_bba) 0 [(1,(.ptr (some (0,0)))),(3,(.bool x1))] [(some (.cells (e_api_Op o) false false))] .normal [(1,(.ptr (some (0,0)))),(3,(.bool x1))] [(some (.cells (e_api_Op o) false false))]∧((x1=true→(((o.Kind == 4)=true→lff (out_table_Right o) true r)∧((o.Kind == 4)=false→lff (out_table_Right o) (o.Old == ([]:List UInt8)) r)))∧(x1=false→(((o.Value == ([]:List UInt8))=true→(((o.Kind == 4)=true→lff (out_table_Right o) true r)∧((o.Kind == 4)=false→lff (out_table_Right o) (o.Old == ([]:List UInt8)) r)))∧((o.Value == ([]:List UInt8))=false→lff (out_table_Right o) false r))))))))):=fun C=>by kernel_rfl
  refine spec_of (fun _ _ h=>by cases h) rfl atab_57 WF57_ok ((e _).mpr ⟨rfl,by decide, ?_⟩)
  unfold table_Right at h
  obtain ⟨q1,h⟩:=bget hx1 h
  refine ⟨s_table_Right_J0 (d+0) q1, ?_⟩
  obtain ⟨q4,h⟩:=bget hx4 h
  refine ⟨fun hb5=>?_,fun hb5=>?_⟩
  · have h:=cond_t hb5 h
    refine ⟨by have h:=s_table_Right_J3 (d+0) q4; rw [isL_t hb5] at h; exact h, ?_⟩
    exact lff_of h
  · have h:=cond_f hb5 h
    refine ⟨by have h:=s_table_Right_J3 (d+0) q4; rw [isL_f hb5] at h; exact h, ?_⟩
    refine ⟨fun hb=>?_,fun hb=>?_⟩
    · have h:=cond_t hb h
      refine ⟨fun hb=>?_,fun hb=>?_⟩
      · have h:=cond_t hb h
        exact lff_of h
      · have h:=cond_f hb h
        exact lff_of h
    · have h:=cond_f hb h
      refine ⟨fun hb=>?_,fun hb=>?_⟩
      · have h:=cond_t hb h
        refine ⟨fun hb=>?_,fun hb=>?_⟩
        · have h:=cond_t hb h
          exact lff_of h
        · have h:=cond_f hb h
          exact lff_of h
      · have h:=cond_f hb h
        exact lff_of h
def cmp_isNaN_string (a0:List UInt8):Option (Bool) :=
  some (!(a0 == a0))
def out_cmp_isNaN_string (a0:List UInt8) (r:Bool):AV × WH:=((.bool r),[])
theorem s_cmp_isNaN_string (d:Nat) {a0:List UInt8} {r:Bool} (h:cmp_isNaN_string a0=some r):Spec (wcalls atab (d+1)) 136 [(.str a0)] [] (out_cmp_isNaN_string a0 r).1 (out_cmp_isNaN_string a0 r).2:=by
  have e:∀ C:ACalls,wBody C (fun _=>none) KK WF136 [(.str a0)] [] (.fin (some false) [] none) (out_cmp_isNaN_string a0 r).1 (out_cmp_isNaN_string a0 r).2=(1=1∧1≤6∧lff (out_cmp_isNaN_string a0) (!(a0 == a0)) r):=fun C=>by kernel_rfl
  refine spec_of (fun _ _ h=>by cases h) rfl atab_136 WF136_ok ((e _).mpr ⟨rfl,by decide, ?_⟩)
  unfold cmp_isNaN_string at h
  exact lff_of h
def cmp_Compare_string (a0:List UInt8) (a1:List UInt8):Option (Int) :=
  (cmp_isNaN_string a0).bind fun (x1:Bool)=>(cmp_isNaN_string a1).bind fun (x2:Bool)=>cond x1 (cond x2 (some 0) (some (-1))) (cond x2 (some 1) (cond (Op.bytesLess a0 a1) (some (-1)) (cond (!(Op.bytesLess a0 a1 || a0 == a1)) (some 1) (some 0))))
def out_cmp_Compare_string (a0:List UInt8) (a1:List UInt8) (r:Int):AV × WH:=((.int .i64 r),[])
theorem s_cmp_Compare_string (d:Nat) {a0:List UInt8} {a1:List UInt8} {r:Int} (h:cmp_Compare_string a0 a1=some r):Spec (wcalls atab (d+2)) 128 [(.str a0),(.str a1)] [] (out_cmp_Compare_string a0 a1 r).1 (out_cmp_Compare_string a0 a1 r).2:=by
  obtain ⟨x1,hx1⟩:=wx (cmp_isNaN_string a0)
  obtain ⟨x2,hx2⟩:=wx (cmp_isNaN_string a1)
  have e:∀ C:ACalls,wBody C (fun _=>none) KK WF128 [(.str a0),(.str a1)] [] (.cb [] [] (.bool x1) (.cb [] [] (.bool x2) (.br 11 (.br 12 (.fin (some false) [] none) (.fin (some false) [] none)) (.br 13 (.fin (some false) [] none) (.br 16 (.fin (some false) [] none) (.br 19 (.fin (some false) [] none) (.fin (some false) [] none))))))) (out_cmp_Compare_string a0 a1 r).1 (out_cmp_Compare_string a0 a1 r).2=(2=2∧2≤20∧(Spec C 136 [(.str a0)] [] (.bool x1) []∧(Spec C 136 [(.str a1)] [] (.bool x2) []∧((x1=true→((x2=true→lff (out_cmp_Compare_string a0 a1) 0 r)∧(x2=false→lff (out_cmp_Compare_string a0 a1) (-1) r)))∧(x1=false→((x2=true→lff (out_cmp_Compare_string a0 a1) 1 r)∧(x2=false→(((Op.bytesLess a0 a1)=true→lff (out_cmp_Compare_string a0 a1) (-1) r)∧((Op.bytesLess a0 a1)=false→(((!(Op.bytesLess a0 a1 || a0 == a1))=true→lff (out_cmp_Compare_string a0 a1) 1 r)∧((!(Op.bytesLess a0 a1 || a0 == a1))=false→lff (out_cmp_Compare_string a0 a1) 0 r))))))))))):=fun C=>by kernel_rfl
  refine spec_of (fun _ _ h=>by cases h) rfl atab_128 WF128_ok ((e _).mpr ⟨rfl,by decide, ?_⟩)
  unfold cmp_Compare_string at h
  obtain ⟨q1,h⟩:=bget hx1 h
  refine ⟨s_cmp_isNaN_string (d+0) q1, ?_⟩
  obtain ⟨q2,h⟩:=bget hx2 h
  refine ⟨s_cmp_isNaN_string (d+0) q2, ?_⟩
  refine ⟨fun hb=>?_,fun hb=>?_⟩
  · have h:=cond_t hb h
    refine ⟨fun hb=>?_,fun hb=>?_⟩
    · have h:=cond_t hb h
      exact lff_of h
    · have h:=cond_f hb h
      exact lff_of h
  · have h:=cond_f hb h
    refine ⟨fun hb=>?_,fun hb=>?_⟩
    · have h:=cond_t hb h
      exact lff_of h
    · have h:=cond_f hb h
      refine ⟨fun hb=>?_,fun hb=>?_⟩
      · have h:=cond_t hb h
        exact lff_of h
      · have h:=cond_f hb h
        refine ⟨fun hb=>?_,fun hb=>?_⟩
        · have h:=cond_t hb h
          exact lff_of h
        · have h:=cond_f hb h
          exact lff_of h
def table_Table_find_1 (p:api_Pair) (key:List UInt8):Option (Int) :=
  (cmp_Compare_string p.Key key).bind fun (x1:Int)=>some x1
def out_table_Table_find_1 (p:api_Pair) (key:List UInt8) (r:Int):AV × WH:=((.int .i64 r),[])
theorem s_table_Table_find_1 (d:Nat) {p:api_Pair} {key:List UInt8} {r:Int} (h:table_Table_find_1 p key=some r):Spec (wcalls atab (d+3)) 127 [(.agg (e_api_Pair p)),(.str key)] [] (out_table_Table_find_1 p key r).1 (out_table_Table_find_1 p key r).2:=by
  obtain ⟨x1,hx1⟩:=wx (cmp_Compare_string p.Key key)
  have e:∀ C:ACalls,wBody C (fun _=>none) KK WF127 [(.agg (e_api_Pair p)),(.str key)] [] (.cb [] [] (.int .i64 x1) (.fin (some false) [] none)) (out_table_Table_find_1 p key r).1 (out_table_Table_find_1 p key r).2=(2=2∧2≤9∧(Spec C 128 [(.str p.Key),(.str key)] [] (.int .i64 x1) []∧lff (out_table_Table_find_1 p key) x1 r)):=fun C=>by kernel_rfl
  refine spec_of (fun _ _ h=>by cases h) rfl atab_127 WF127_ok ((e _).mpr ⟨rfl,by decide, ?_⟩)
  unfold table_Table_find_1 at h
  obtain ⟨q1,h⟩:=bget hx1 h
  refine ⟨s_cmp_Compare_string (d+0) q1, ?_⟩
  exact lff_of h
def st_slices_BinarySearchFunc_api_Pair_api_Pair_string_L0 (a0:List api_Pair) (a1:List UInt8) (s3:Int × Int):List AV × WH:=([(l_api_Pair a0),(.str a1),(.func 127 []),(.int .i64 (a0.length:Int)),(.int .i64 s3.1),(.int .i64 s3.2)],[])
def fin_slices_BinarySearchFunc_api_Pair_api_Pair_string_L0 (a0:List api_Pair) (a1:List UInt8):Int→Ex × Fast × WH:=fun e=>((.exit 0),[(0,(l_api_Pair a0)),(1,(.str a1)),(2,(.func 127 [])),(8,(.int .i64 (a0.length:Int))),(9,(.int .i64 e))],[])
abbrev rx_slices_BinarySearchFunc_api_Pair_api_Pair_string_L0 (a0:List api_Pair) (a1:List UInt8):=roundX [0,1,2,8,9,10] (st_slices_BinarySearchFunc_api_Pair_api_Pair_string_L0 a0 a1) (fin_slices_BinarySearchFunc_api_Pair_api_Pair_string_L0 a0 a1)
def slices_BinarySearchFunc_api_Pair_api_Pair_string_L0_s (a0:List api_Pair) (a1:List UInt8) (s3:Int × Int):Option ((Int × Int) ⊕ (Int)) :=
  cond (decide (s3.1 < s3.2)) ((getI a0 (IntKind.i64.wrap (shrV .u64 (IntKind.u64.wrap (IntKind.i64.wrap (s3.1+s3.2))) 1))).bind fun (x4:api_Pair)=>(table_Table_find_1 x4 a1).bind fun (x5:Int)=>cond (decide (x5 < 0)) (some (.inl ((IntKind.i64.wrap ((IntKind.i64.wrap (shrV .u64 (IntKind.u64.wrap (IntKind.i64.wrap (s3.1+s3.2))) 1))+1)),s3.2))) (some (.inl (s3.1,(IntKind.i64.wrap (shrV .u64 (IntKind.u64.wrap (IntKind.i64.wrap (s3.1+s3.2))) 1)))))) (some (.inr s3.1))
def slices_BinarySearchFunc_api_Pair_api_Pair_string_L0 (a0:List api_Pair) (a1:List UInt8) (s3:Int × Int):Option (Int):=loopX (slices_BinarySearchFunc_api_Pair_api_Pair_string_L0_s a0 a1) KK s3
theorem b_slices_BinarySearchFunc_api_Pair_api_Pair_string_L0 (d:Nat) {a0:List api_Pair} {a1:List UInt8} {s3:Int × Int} {r:(Int × Int) ⊕ (Int)} (h:slices_BinarySearchFunc_api_Pair_api_Pair_string_L0_s a0 a1 s3=some r):RunX (bexec (wcalls atab (d+3)) KK 49 WB126_0) 0 (inL [0,1,2,8,9,10] (st_slices_BinarySearchFunc_api_Pair_api_Pair_string_L0 a0 a1 s3)) (rx_slices_BinarySearchFunc_api_Pair_api_Pair_string_L0 a0 a1 r):=by
  obtain ⟨x4,hx4⟩:=wx (getI a0 (IntKind.i64.wrap (shrV .u64 (IntKind.u64.wrap (IntKind.i64.wrap (s3.1+s3.2))) 1)))
  obtain ⟨x5,hx5⟩:=wx (table_Table_find_1 x4 a1)
  have e:∀ C:ACalls,wCode C (fun _=>none) KK 49 0 WB126_0 (inL [0,1,2,8,9,10] (st_slices_BinarySearchFunc_api_Pair_api_Pair_string_L0 a0 a1 s3)).1 (inL [0,1,2,8,9,10] (st_slices_BinarySearchFunc_api_Pair_api_Pair_string_L0 a0 a1 s3)).2 (.br 17 (.v 27 (.elem ((e_api_Pair x4) ++ F_api_Pair (a0.drop ((IntKind.i64.wrap (shrV .u64 (IntKind.u64.wrap (IntKind.i64.wrap (s3.1+s3.2))) 1)).toNat+1)))) (.cb [] [] (.int .i64 x5) (.br 31 (.en [0,1,2,8,9,10] [none,none,none,none,none,none] [] [.slice none 2 0 0 true,.undef,.undef,.undef,.undef,.undef]) (.en [0,1,2,8,9,10] [none,none,none,none,none,none] [] [.slice none 2 0 0 true,.undef,.undef,.undef,.undef,.undef])))) (.en [0,1,2,8,9] [none,none,none,none,none] [] [.slice none 2 0 0 true,.undef,.undef,.undef,.undef])) (rx_slices_BinarySearchFunc_api_Pair_api_Pair_string_L0 a0 a1 r)=(((decide (s3.1 < s3.2))=true→(wP (.idxSlice 2 (.c (l_api_Pair a0)) (.c (.int .i64 (IntKind.i64.wrap (shrV .u64 (IntKind.u64.wrap (IntKind.i64.wrap (s3.1+s3.2))) 1)))))=some (.elem ((e_api_Pair x4) ++ F_api_Pair (a0.drop ((IntKind.i64.wrap (shrV .u64 (IntKind.u64.wrap (IntKind.i64.wrap (s3.1+s3.2))) 1)).toNat+1))))∧(Spec C 127 [(.agg (e_api_Pair x4)),(.str a1)] [] (.int .i64 x5) []∧(((decide (x5 < 0))=true→lfe (rx_slices_BinarySearchFunc_api_Pair_api_Pair_string_L0 a0 a1) (.inl ((IntKind.i64.wrap ((IntKind.i64.wrap (shrV .u64 (IntKind.u64.wrap (IntKind.i64.wrap (s3.1+s3.2))) 1))+1)),s3.2)) r)∧((decide (x5 < 0))=false→lfe (rx_slices_BinarySearchFunc_api_Pair_api_Pair_string_L0 a0 a1) (.inl (s3.1,(IntKind.i64.wrap (shrV .u64 (IntKind.u64.wrap (IntKind.i64.wrap (s3.1+s3.2))) 1)))) r)))))∧((decide (s3.1 < s3.2))=false→lfe (rx_slices_BinarySearchFunc_api_Pair_api_Pair_string_L0 a0 a1) (.inr s3.1) r)):=fun C=>by kernel_rfl
  refine runS_of (fun _ _ h=>by cases h) WB126_0_ok (Nat.le_of_ble_eq_true rfl) ((e _).mpr ?_)
  unfold slices_BinarySearchFunc_api_Pair_api_Pair_string_L0_s at h
  refine ⟨fun hb=>?_,fun hb=>?_⟩
  · have h:=cond_t hb h
    obtain ⟨q4,h⟩:=bget hx4 h
    refine ⟨wP_idx R_api_Pair q4, ?_⟩
    obtain ⟨q5,h⟩:=bget hx5 h
    refine ⟨s_table_Table_find_1 (d+0) q5, ?_⟩
    refine ⟨fun hb=>?_,fun hb=>?_⟩
    · have h:=cond_t hb h
      exact lfe_of h
    · have h:=cond_f hb h
      exact lfe_of h
  · have h:=cond_f hb h
    exact lfe_of h
theorem s_slices_BinarySearchFunc_api_Pair_api_Pair_string_L0 (d:Nat) {a0:List api_Pair} {a1:List UInt8} {s3:Int × Int} {r:Int} (h:slices_BinarySearchFunc_api_Pair_api_Pair_string_L0 a0 a1 s3=some r):RunX (bloop (bexec (wcalls atab (d+3)) KK 49 WB126_0) [0,1,2,8,9,10] KK) 0 (inL [0,1,2,8,9,10] (st_slices_BinarySearchFunc_api_Pair_api_Pair_string_L0 a0 a1 s3)) (fin_slices_BinarySearchFunc_api_Pair_api_Pair_string_L0 a0 a1 r) :=
  loop_of (st:=st_slices_BinarySearchFunc_api_Pair_api_Pair_string_L0 a0 a1) (fin:=fin_slices_BinarySearchFunc_api_Pair_api_Pair_string_L0 a0 a1) (step:=slices_BinarySearchFunc_api_Pair_api_Pair_string_L0_s a0 a1) (fun e=>by (intro h; cases h)) (fun s x h=>b_slices_BinarySearchFunc_api_Pair_api_Pair_string_L0 d h) KK s3 r h
def slices_BinarySearchFunc_api_Pair_api_Pair_string (a0:List api_Pair) (a1:List UInt8):Option (Int × Bool) :=
  (slices_BinarySearchFunc_api_Pair_api_Pair_string_L0 a0 a1 (0,(a0.length:Int))).bind fun (x6:Int)=>cond (decide (x6 < (a0.length:Int))) ((getI a0 x6).bind fun (x7:api_Pair)=>(table_Table_find_1 x7 a1).bind fun (x8:Int)=>some (x6,(x8 == 0))) (some (x6,false))
def out_slices_BinarySearchFunc_api_Pair_api_Pair_string (a0:List api_Pair) (a1:List UInt8) (r:Int × Bool):AV × WH:=((.tuple [(.int .i64 r.1),(.bool r.2)]),[])
theorem s_slices_BinarySearchFunc_api_Pair_api_Pair_string (d:Nat) {a0:List api_Pair} {a1:List UInt8} {r:Int × Bool} (h:slices_BinarySearchFunc_api_Pair_api_Pair_string a0 a1=some r):Spec (wcalls atab (d+4)) 126 [(l_api_Pair a0),(.str a1),(.func 127 [])] [] (out_slices_BinarySearchFunc_api_Pair_api_Pair_string a0 a1 r).1 (out_slices_BinarySearchFunc_api_Pair_api_Pair_string a0 a1 r).2:=by
  obtain ⟨x6,hx6⟩:=wx (slices_BinarySearchFunc_api_Pair_api_Pair_string_L0 a0 a1 (0,(a0.length:Int)))
  obtain ⟨x7,hx7⟩:=wx (getI a0 x6)
  obtain ⟨x8,hx8⟩:=wx (table_Table_find_1 x7 a1)
  have e:∀ C:ACalls,wBody C (fun _=>none) KK WF126 [(l_api_Pair a0),(.str a1),(.func 127 [])] [] (.lp [none,none,none,none,none,none] [] [.slice none 2 0 0 true,.undef,.undef,.undef,.undef,.undef] (.exit 0) [(0,(l_api_Pair a0)),(1,(.str a1)),(2,(.func 127 [])),(8,(.int .i64 (a0.length:Int))),(9,(.int .i64 x6))] [] (.br 39 (.v 43 (.elem ((e_api_Pair x7) ++ F_api_Pair (a0.drop (x6.toNat+1)))) (.cb [] [] (.int .i64 x8) (.fin (some false) [] none))) (.fin (some false) [] none))) (out_slices_BinarySearchFunc_api_Pair_api_Pair_string a0 a1 r).1 (out_slices_BinarySearchFunc_api_Pair_api_Pair_string a0 a1 r).2=(3=3∧3≤49∧(RunS (bloop (bexec C KK 49 WB126_0) [0,1,2,8,9,10] KK) 0 [(0,(l_api_Pair a0)),(1,(.str a1)),(2,(.func 127 [])),(8,(.int .i64 (a0.length:Int))),(9,(.int .i64 0)),(10,(.int .i64 (a0.length:Int)))] [] (.exit 0) [(0,(l_api_Pair a0)),(1,(.str a1)),(2,(.func 127 [])),(8,(.int .i64 (a0.length:Int))),(9,(.int .i64 x6))] []∧(((decide (x6 < (a0.length:Int)))=true→(wP (.idxSlice 2 (.c (l_api_Pair a0)) (.c (.int .i64 x6)))=some (.elem ((e_api_Pair x7) ++ F_api_Pair (a0.drop (x6.toNat+1))))∧(Spec C 127 [(.agg (e_api_Pair x7)),(.str a1)] [] (.int .i64 x8) []∧lff (out_slices_BinarySearchFunc_api_Pair_api_Pair_string a0 a1) (x6,(x8 == 0)) r)))∧((decide (x6 < (a0.length:Int)))=false→lff (out_slices_BinarySearchFunc_api_Pair_api_Pair_string a0 a1) (x6,false) r)))):=fun C=>by kernel_rfl
  refine spec_of (fun _ _ h=>by cases h) rfl atab_126 WF126_ok ((e _).mpr ⟨rfl,by decide, ?_⟩)
  unfold slices_BinarySearchFunc_api_Pair_api_Pair_string at h
  obtain ⟨q6,h⟩:=bget hx6 h
  refine ⟨s_slices_BinarySearchFunc_api_Pair_api_Pair_string_L0 (d+0) q6, ?_⟩
  refine ⟨fun hb=>?_,fun hb=>?_⟩
  · have h:=cond_t hb h
    obtain ⟨q7,h⟩:=bget hx7 h
    refine ⟨wP_idx R_api_Pair q7, ?_⟩
    obtain ⟨q8,h⟩:=bget hx8 h
    refine ⟨s_table_Table_find_1 (d+0) q8, ?_⟩
    exact lff_of h
  · have h:=cond_f hb h
    exact lff_of h
def table_Table_set_2 (k:Int) (value:List UInt8) (p_b1:List api_Pair):Option (List api_Pair) :=
  gd (fitsB 32 p_b1.length) ((getI p_b1 k).bind fun (x2:api_Pair)=>some (p_b1.set k.toNat (⟨x2.Key,value⟩:api_Pair)))
def out_table_Table_set_2 (k:Int) (value:List UInt8) (p_b1:List api_Pair) (r:List api_Pair):AV × WH:=((.tuple []),[(some (.cells [(.acc 2 0 2 r.length true)] false false)),(some (.cells (F_api_Pair p_b1) false true)),(some (.cells (F_api_Pair r) false true))])
theorem s_table_Table_set_2 (d:Nat) {k:Int} {value:List UInt8} {p_b1:List api_Pair} {r:List api_Pair} (h:table_Table_set_2 k value p_b1=some r):Spec (wcalls atab (d+2)) 129 [(.ptr (some (0,0))),(.int .i64 k),(.str value)] [(some (.cells [(.acc 1 0 2 p_b1.length true)] false false)),(some (.cells (F_api_Pair p_b1) false true))] (out_table_Table_set_2 k value p_b1 r).1 (out_table_Table_set_2 k value p_b1 r).2:=by
  obtain ⟨x2,hx2⟩:=wx (getI p_b1 k)
  have e:∀ C:ACalls,wBody C wB KK WF129 [(.ptr (some (0,0))),(.int .i64 k),(.str value)] [(some (.cells [(.acc 1 0 2 p_b1.length true)] false false)),(some (.cells (F_api_Pair p_b1) false true))] (.st none (.v 20 (.ptr (some (2,0+k.toNat * 2))) (.st (some (F_api_Pair (p_b1.set k.toNat (⟨x2.Key,value⟩:api_Pair)))) (.fin (some false) [] none)))) (out_table_Table_set_2 k value p_b1 r).1 (out_table_Table_set_2 k value p_b1 r).2=(3=3∧3≤22∧(fitsB 32 p_b1.length=true∧(wP (.idxSlice 2 (.c (.acc 2 0 2 p_b1.length true)) (.c (.int .i64 k)))=some (.ptr (some (2,0+k.toNat * 2)))∧(wrC (F_api_Pair p_b1) (0+k.toNat * 2+1) [(.str value)]=some (F_api_Pair (p_b1.set k.toNat (⟨x2.Key,value⟩:api_Pair)))∧(@Eq AV (.tuple []) (out_table_Table_set_2 k value p_b1 r).1∧@Eq WH [(some (.cells [(.acc 2 0 2 p_b1.length true)] false false)),(some (.cells (F_api_Pair p_b1) false true)),(some (.cells (F_api_Pair (p_b1.set k.toNat (⟨x2.Key,value⟩:api_Pair))) false true))] (out_table_Table_set_2 k value p_b1 r).2))))):=fun C=>by kernel_rfl
  refine spec_of (wB_ok _) rfl atab_129 WF129_ok ((e _).mpr ⟨rfl,by decide, ?_⟩)
  unfold table_Table_set_2 at h
  obtain ⟨q1,h⟩:=gd_some h
  refine ⟨q1, ?_⟩
  obtain ⟨q2,h⟩:=bget hx2 h
  refine ⟨wP_idxA R_api_Pair q2, ?_⟩
  refine ⟨wr_row (o:=1) R_api_Pair q2 rfl, ?_⟩
  try rw [show AV.list 2 p_b1.length (F_api_Pair (p_b1.set k.toNat (⟨x2.Key,value⟩:api_Pair))) false=l_api_Pair (p_b1.set k.toNat (⟨x2.Key,value⟩:api_Pair)) from by simp only [l_api_Pair,List.length_set]]
  obtain rfl:=Option.some.inj h
  refine ⟨?_, ?_⟩ <;> first | rfl | (simp only [out_table_Table_set_2,List.length_set,List.length_append,List.length_replicate,List.length_cons,List.length_nil,List.length_take,List.length_drop,Nat.add_zero,Nat.zero_add]; done) | simp [out_table_Table_set_2]
def table_Table_cas_2 (o:api_Op) (k:Int) (p_b1:List api_Pair):Option (api_Answer × List api_Pair) :=
  (getI p_b1 k).bind fun (x1:api_Pair)=>cond (!(x1.Value == o.Old)) (some ((⟨6,x1.Value⟩:api_Answer),p_b1)) ((table_Table_set_2 k o.Value p_b1).bind fun (x2:List api_Pair)=>some ((⟨0,([]:List UInt8)⟩:api_Answer),x2))
def out_table_Table_cas_2 (o:api_Op) (k:Int) (p_b1:List api_Pair) (r:api_Answer × List api_Pair):AV × WH:=((.agg (e_api_Answer r.1)),[(some (.cells [(.acc 2 0 2 r.2.length true)] false false)),none,(some (.cells (F_api_Pair r.2) false true))])
theorem s_table_Table_cas_2 (d:Nat) {o:api_Op} {k:Int} {p_b1:List api_Pair} {r:api_Answer × List api_Pair} (h:table_Table_cas_2 o k p_b1=some r):Spec (wcalls atab (d+3)) 98 [(.ptr (some (0,0))),(.agg (e_api_Op o)),(.int .i64 k)] [(some (.cells [(.acc 1 0 2 p_b1.length true)] false false)),(some (.cells (F_api_Pair p_b1) false true))] (out_table_Table_cas_2 o k p_b1 r).1 (out_table_Table_cas_2 o k p_b1 r).2:=by
  obtain ⟨x1,hx1⟩:=wx (getI p_b1 k)
  obtain ⟨x2,hx2⟩:=wx (table_Table_set_2 k o.Value p_b1)
  have e:∀ C:ACalls,wBody C (fun _=>none) KK WF98 [(.ptr (some (0,0))),(.agg (e_api_Op o)),(.int .i64 k)] [(some (.cells [(.acc 1 0 2 p_b1.length true)] false false)),(some (.cells (F_api_Pair p_b1) false true))] (.v 13 (.ptr (some (1,0+k.toNat * 2))) (.v 15 (.str x1.Value) (.br 19 (.st none (.fin (some false) [] (some true))) (.call [] none [] (.tuple []) [(some (.cells [(.acc 2 0 2 x2.length true)] false false)),(some (.cells (F_api_Pair p_b1) false true)),(some (.cells (F_api_Pair x2) false true))] (.st none (.kl [1] (.fin (some false) [] (some true)))))))) (out_table_Table_cas_2 o k p_b1 r).1 (out_table_Table_cas_2 o k p_b1 r).2=(3=3∧3≤28∧(wP (.idxSlice 2 (.c (.acc 1 0 2 p_b1.length true)) (.c (.int .i64 k)))=some (.ptr (some (1,0+k.toNat * 2)))∧(cPart false (0+k.toNat * 2+1) 1 (F_api_Pair p_b1)=some (.str x1.Value)∧(((!(x1.Value == o.Old))=true→lff (out_table_Table_cas_2 o k p_b1) ((⟨6,x1.Value⟩:api_Answer),p_b1) r)∧((!(x1.Value == o.Old))=false→(Spec C 129 [(.ptr (some (0,0))),(.int .i64 k),(.str o.Value)] [(some (.cells [(.acc 1 0 2 p_b1.length true)] false false)),(some (.cells (F_api_Pair p_b1) false true))] (.tuple []) [(some (.cells [(.acc 2 0 2 x2.length true)] false false)),(some (.cells (F_api_Pair p_b1) false true)),(some (.cells (F_api_Pair x2) false true))]∧(2≤3∧lff (out_table_Table_cas_2 o k p_b1) ((⟨0,([]:List UInt8)⟩:api_Answer),x2) r))))))):=fun C=>by kernel_rfl
  refine spec_of (fun _ _ h=>by cases h) rfl atab_98 WF98_ok ((e _).mpr ⟨rfl,by decide, ?_⟩)
  unfold table_Table_cas_2 at h
  obtain ⟨q1,h⟩:=bget hx1 h
  refine ⟨wP_idxA R_api_Pair q1, ?_⟩
  refine ⟨cP_row (o:=1) R_api_Pair q1 rfl, ?_⟩
  refine ⟨fun hb=>?_,fun hb=>?_⟩
  · have h:=cond_t hb h
    exact lff_of h
  · have h:=cond_f hb h
    obtain ⟨q2,h⟩:=bget hx2 h
    refine ⟨s_table_Table_set_2 (d+0) q2, ?_⟩
    refine ⟨by decide, ?_⟩
    exact lff_of h
def table_Table_find_2 (key:List UInt8) (p_b1:List api_Pair):Option (Int × Bool) :=
  (slices_BinarySearchFunc_api_Pair_api_Pair_string p_b1 key).bind fun (x1:Int × Bool)=>some (x1.1,x1.2)
def out_table_Table_find_2 (key:List UInt8) (p_b1:List api_Pair) (r:Int × Bool):AV × WH:=((.tuple [(.int .i64 r.1),(.bool r.2)]),[(some (.cells [(.acc 1 0 2 p_b1.length true)] false false)),(some (.cells (F_api_Pair p_b1) false true))])
theorem s_table_Table_find_2 (d:Nat) {key:List UInt8} {p_b1:List api_Pair} {r:Int × Bool} (h:table_Table_find_2 key p_b1=some r):Spec (wcalls atab (d+5)) 96 [(.ptr (some (0,0))),(.str key)] [(some (.cells [(.acc 1 0 2 p_b1.length true)] false false)),(some (.cells (F_api_Pair p_b1) false true))] (out_table_Table_find_2 key p_b1 r).1 (out_table_Table_find_2 key p_b1 r).2:=by
  obtain ⟨x1,hx1⟩:=wx (slices_BinarySearchFunc_api_Pair_api_Pair_string p_b1 key)
  have e:∀ C:ACalls,wBody C (fun _=>none) KK WF96 [(.ptr (some (0,0))),(.str key)] [(some (.cells [(.acc 1 0 2 p_b1.length true)] false false)),(some (.cells (F_api_Pair p_b1) false true))] (.cb [] [.slice none 2 0 0 true] (.tuple [(.int .i64 x1.1),(.bool x1.2)]) (.fin (some false) [] none)) (out_table_Table_find_2 key p_b1 r).1 (out_table_Table_find_2 key p_b1 r).2=(2=2∧2≤14∧(Spec C 126 [(l_api_Pair p_b1),(.str key),(.func 127 [])] [] (.tuple [(.int .i64 x1.1),(.bool x1.2)]) []∧lff (out_table_Table_find_2 key p_b1) (x1.1,x1.2) r)):=fun C=>by kernel_rfl
  refine spec_of (fun _ _ h=>by cases h) rfl atab_96 WF96_ok ((e _).mpr ⟨rfl,by decide, ?_⟩)
  unfold table_Table_find_2 at h
  obtain ⟨q1,h⟩:=bget hx1 h
  refine ⟨s_slices_BinarySearchFunc_api_Pair_api_Pair_string (d+0) q1, ?_⟩
  exact lff_of h
def table_Table_put_2 (o:api_Op) (k:Int) (had:Bool) (p_b1:List api_Pair):Option (api_Answer × List api_Pair) :=
  cond had ((table_Table_set_2 k o.Value p_b1).bind fun (x1:List api_Pair)=>some ((⟨0,([]:List UInt8)⟩:api_Answer),x1)) (cond ((p_b1.length:Int) == 8) (some ((⟨5,([]:List UInt8)⟩:api_Answer),p_b1)) (gd (fitsB 32 p_b1.length) (gd (insB 32 k p_b1.length) (some ((⟨0,([]:List UInt8)⟩:api_Answer),(insL p_b1 k (⟨o.Key,o.Value⟩:api_Pair)))))))
def out_table_Table_put_2 (o:api_Op) (k:Int) (had:Bool) (p_b1:List api_Pair) (r:api_Answer × List api_Pair):AV × WH:=((.agg (e_api_Answer r.1)),[(some (.cells [(.acc 2 0 2 r.2.length true)] false false)),none,(some (.cells (F_api_Pair r.2) false true))])
theorem s_table_Table_put_2 (d:Nat) {o:api_Op} {k:Int} {had:Bool} {p_b1:List api_Pair} {r:api_Answer × List api_Pair} (h:table_Table_put_2 o k had p_b1=some r):Spec (wcalls atab (d+3)) 97 [(.ptr (some (0,0))),(.agg (e_api_Op o)),(.int .i64 k),(.bool had)] [(some (.cells [(.acc 1 0 2 p_b1.length true)] false false)),(some (.cells (F_api_Pair p_b1) false true))] (out_table_Table_put_2 o k had p_b1 r).1 (out_table_Table_put_2 o k had p_b1 r).2:=by
  obtain ⟨x1,hx1⟩:=wx (table_Table_set_2 k o.Value p_b1)
  have e:∀ C:ACalls,wBody C wB KK WF97 [(.ptr (some (0,0))),(.agg (e_api_Op o)),(.int .i64 k),(.bool had)] [(some (.cells [(.acc 1 0 2 p_b1.length true)] false false)),(some (.cells (F_api_Pair p_b1) false true))] (.br 25 (.call [] none [] (.tuple []) [(some (.cells [(.acc 2 0 2 x1.length true)] false false)),(some (.cells (F_api_Pair p_b1) false true)),(some (.cells (F_api_Pair x1) false true))] (.st none (.kl [1] (.fin (some false) [] (some true))))) (.br 32 (.st none (.fin (some false) [] (some true))) (.ap 22 (insL p_b1 k (⟨o.Key,o.Value⟩:api_Pair)).length (F_api_Pair (insL p_b1 k (⟨o.Key,o.Value⟩:api_Pair))) (.st none (.st none (.kl [1] (.fin (some false) [] (some true)))))))) (out_table_Table_put_2 o k had p_b1 r).1 (out_table_Table_put_2 o k had p_b1 r).2=(4=4∧4≤41∧((had=true→(Spec C 129 [(.ptr (some (0,0))),(.int .i64 k),(.str o.Value)] [(some (.cells [(.acc 1 0 2 p_b1.length true)] false false)),(some (.cells (F_api_Pair p_b1) false true))] (.tuple []) [(some (.cells [(.acc 2 0 2 x1.length true)] false false)),(some (.cells (F_api_Pair p_b1) false true)),(some (.cells (F_api_Pair x1) false true))]∧(2≤3∧lff (out_table_Table_put_2 o k had p_b1) ((⟨0,([]:List UInt8)⟩:api_Answer),x1) r)))∧(had=false→((((p_b1.length:Int) == 8)=true→lff (out_table_Table_put_2 o k had p_b1) ((⟨5,([]:List UInt8)⟩:api_Answer),p_b1) r)∧(((p_b1.length:Int) == 8)=false→(fitsB 32 p_b1.length=true∧((0≤k∧k≤((p_b1.length:Nat):Int))∧(p_b1.length+1=(insL p_b1 k (⟨o.Key,o.Value⟩:api_Pair)).length∧((F_api_Pair p_b1).take (k.toNat * 2) ++ ([(.str o.Key),(.str o.Value)] ++ (F_api_Pair p_b1).drop (k.toNat * 2))=F_api_Pair (insL p_b1 k (⟨o.Key,o.Value⟩:api_Pair))∧(fitsB 32 (insL p_b1 k (⟨o.Key,o.Value⟩:api_Pair)).length=true∧lff (out_table_Table_put_2 o k had p_b1) ((⟨0,([]:List UInt8)⟩:api_Answer),(insL p_b1 k (⟨o.Key,o.Value⟩:api_Pair))) r)))))))))):=fun C=>by kernel_rfl
  refine spec_of (wB_ok _) rfl atab_97 WF97_ok ((e _).mpr ⟨rfl,by decide, ?_⟩)
  unfold table_Table_put_2 at h
  refine ⟨fun hb=>?_,fun hb=>?_⟩
  · have h:=cond_t hb h
    obtain ⟨q1,h⟩:=bget hx1 h
    refine ⟨s_table_Table_set_2 (d+0) q1, ?_⟩
    refine ⟨by decide, ?_⟩
    exact lff_of h
  · have h:=cond_f hb h
    refine ⟨fun hb=>?_,fun hb=>?_⟩
    · have h:=cond_t hb h
      exact lff_of h
    · have h:=cond_f hb h
      obtain ⟨q2,h⟩:=gd_some h
      refine ⟨q2, ?_⟩
      obtain ⟨q3,h⟩:=gd_some h
      refine ⟨insB_1 q3, ?_⟩
      refine ⟨insB_2 (l:=p_b1) q3, ?_⟩
      refine ⟨ins_row R_api_Pair rfl, ?_⟩
      refine ⟨insB_3 (l:=p_b1) q3, ?_⟩
      exact lff_of h
def table_Table_Do_2 (o:api_Op) (p_b1:List api_Pair):Option (api_Answer × List api_Pair) :=
  (table_Right o).bind fun (x1:Bool)=>cond (!x1) (some ((⟨1,([]:List UInt8)⟩:api_Answer),p_b1)) ((table_Table_find_2 o.Key p_b1).bind fun (x2:Int × Bool)=>cond (o.Kind == 2) ((table_Table_put_2 o x2.1 x2.2 p_b1).bind fun (x3:api_Answer × List api_Pair)=>some (x3.1,x3.2)) (cond (!x2.2) (some ((⟨4,([]:List UInt8)⟩:api_Answer),p_b1)) (cond (o.Kind == 1) ((getI p_b1 x2.1).bind fun (x4:api_Pair)=>some ((⟨0,x4.Value⟩:api_Answer),p_b1)) (cond (o.Kind == 4) ((table_Table_cas_2 o x2.1 p_b1).bind fun (x5:api_Answer × List api_Pair)=>some (x5.1,x5.2)) (gd (fitsB 32 p_b1.length) (gd (delB x2.1 (IntKind.i64.wrap (x2.1+1)) p_b1.length) (some ((⟨0,([]:List UInt8)⟩:api_Answer),(delL p_b1 x2.1 (IntKind.i64.wrap (x2.1+1)))))))))))
def out_table_Table_Do_2 (o:api_Op) (p_b1:List api_Pair) (r:api_Answer × List api_Pair):AV × WH:=((.agg (e_api_Answer r.1)),[(some (.cells [(.acc 2 0 2 r.2.length true)] false false)),none,(some (.cells (F_api_Pair r.2) false true))])
theorem s_table_Table_Do_2 (d:Nat) {o:api_Op} {p_b1:List api_Pair} {r:api_Answer × List api_Pair} (h:table_Table_Do_2 o p_b1=some r):Spec (wcalls atab (d+6)) 52 [(.ptr (some (0,0))),(.agg (e_api_Op o))] [(some (.cells [(.acc 1 0 2 p_b1.length true)] false false)),(some (.cells (F_api_Pair p_b1) false true))] (out_table_Table_Do_2 o p_b1 r).1 (out_table_Table_Do_2 o p_b1 r).2:=by
  obtain ⟨x1,hx1⟩:=wx (table_Right o)
  obtain ⟨x2,hx2⟩:=wx (table_Table_find_2 o.Key p_b1)
  obtain ⟨x3,hx3⟩:=wx (table_Table_put_2 o x2.1 x2.2 p_b1)
  obtain ⟨x4,hx4⟩:=wx (getI p_b1 x2.1)
  obtain ⟨x5,hx5⟩:=wx (table_Table_cas_2 o x2.1 p_b1)
  have e:∀ C:ACalls,wBody C wB KK WF52 [(.ptr (some (0,0))),(.agg (e_api_Op o))] [(some (.cells [(.acc 1 0 2 p_b1.length true)] false false)),(some (.cells (F_api_Pair p_b1) false true))] (.cb [] [] (.bool x1) (.br 9 (.st none (.fin (some false) [] (some true))) (.call [] none [] (.tuple [(.int .i64 x2.1),(.bool x2.2)]) [(some (.cells [(.acc 1 0 2 p_b1.length true)] false false)),(some (.cells (F_api_Pair p_b1) false true))] (.br 18 (.call [] none [] (.agg (e_api_Answer x3.1)) [(some (.cells [(.acc 2 0 2 x3.2.length true)] false false)),none,(some (.cells (F_api_Pair x3.2) false true))] (.st none (.fin (some false) [] (some true)))) (.br 27 (.st none (.fin (some false) [] (some true))) (.br 31 (.v 40 (.ptr (some (1,0+x2.1.toNat * 2))) (.v 42 (.str x4.Value) (.st none (.fin (some false) [] (some true))))) (.br 44 (.call [] none [] (.agg (e_api_Answer x5.1)) [(some (.cells [(.acc 2 0 2 x5.2.length true)] false false)),none,(some (.cells (F_api_Pair x5.2) false true))] (.st none (.fin (some false) [] (some true)))) (.ap 61 (delL p_b1 x2.1 (IntKind.i64.wrap (x2.1+1))).length (F_api_Pair (delL p_b1 x2.1 (IntKind.i64.wrap (x2.1+1)))) (.st none (.st none (.kl [1] (.fin (some false) [] (some true))))))))))))) (out_table_Table_Do_2 o p_b1 r).1 (out_table_Table_Do_2 o p_b1 r).2=(2=2∧2≤65∧(Spec C 57 [(.agg (e_api_Op o))] [] (.bool x1) []∧(((!x1)=true→lff (out_table_Table_Do_2 o p_b1) ((⟨1,([]:List UInt8)⟩:api_Answer),p_b1) r)∧((!x1)=false→(Spec C 96 [(.ptr (some (0,0))),(.str o.Key)] [(some (.cells [(.acc 1 0 2 p_b1.length true)] false false)),(some (.cells (F_api_Pair p_b1) false true))] (.tuple [(.int .i64 x2.1),(.bool x2.2)]) [(some (.cells [(.acc 1 0 2 p_b1.length true)] false false)),(some (.cells (F_api_Pair p_b1) false true))]∧(2≤2∧(((o.Kind == 2)=true→(Spec C 97 [(.ptr (some (0,0))),(.agg (e_api_Op o)),(.int .i64 x2.1),(.bool x2.2)] [(some (.cells [(.acc 1 0 2 p_b1.length true)] false false)),(some (.cells (F_api_Pair p_b1) false true))] (.agg (e_api_Answer x3.1)) [(some (.cells [(.acc 2 0 2 x3.2.length true)] false false)),none,(some (.cells (F_api_Pair x3.2) false true))]∧(2≤3∧lff (out_table_Table_Do_2 o p_b1) (x3.1,x3.2) r)))∧((o.Kind == 2)=false→(((!x2.2)=true→lff (out_table_Table_Do_2 o p_b1) ((⟨4,([]:List UInt8)⟩:api_Answer),p_b1) r)∧((!x2.2)=false→(((o.Kind == 1)=true→(wP (.idxSlice 2 (.c (.acc 1 0 2 p_b1.length true)) (.c (.int .i64 x2.1)))=some (.ptr (some (1,0+x2.1.toNat * 2)))∧(cPart false (0+x2.1.toNat * 2+1) 1 (F_api_Pair p_b1)=some (.str x4.Value)∧lff (out_table_Table_Do_2 o p_b1) ((⟨0,x4.Value⟩:api_Answer),p_b1) r)))∧((o.Kind == 1)=false→(((o.Kind == 4)=true→(Spec C 98 [(.ptr (some (0,0))),(.agg (e_api_Op o)),(.int .i64 x2.1)] [(some (.cells [(.acc 1 0 2 p_b1.length true)] false false)),(some (.cells (F_api_Pair p_b1) false true))] (.agg (e_api_Answer x5.1)) [(some (.cells [(.acc 2 0 2 x5.2.length true)] false false)),none,(some (.cells (F_api_Pair x5.2) false true))]∧(2≤3∧lff (out_table_Table_Do_2 o p_b1) (x5.1,x5.2) r)))∧((o.Kind == 4)=false→(fitsB 32 p_b1.length=true∧((0≤x2.1∧x2.1 < (IntKind.i64.wrap (x2.1+1))∧(IntKind.i64.wrap (x2.1+1))≤((p_b1.length:Nat):Int))∧(p_b1.length - ((IntKind.i64.wrap (x2.1+1)).toNat - x2.1.toNat)=(delL p_b1 x2.1 (IntKind.i64.wrap (x2.1+1))).length∧((F_api_Pair p_b1).take (x2.1.toNat * 2) ++ (F_api_Pair p_b1).drop ((IntKind.i64.wrap (x2.1+1)).toNat * 2)=F_api_Pair (delL p_b1 x2.1 (IntKind.i64.wrap (x2.1+1)))∧lff (out_table_Table_Do_2 o p_b1) ((⟨0,([]:List UInt8)⟩:api_Answer),(delL p_b1 x2.1 (IntKind.i64.wrap (x2.1+1)))) r)))))))))))))))))):=fun C=>by kernel_rfl
  refine spec_of (wB_ok _) rfl atab_52 WF52_ok ((e _).mpr ⟨rfl,by decide, ?_⟩)
  unfold table_Table_Do_2 at h
  obtain ⟨q1,h⟩:=bget hx1 h
  refine ⟨s_table_Right (d+4) q1, ?_⟩
  refine ⟨fun hb=>?_,fun hb=>?_⟩
  · have h:=cond_t hb h
    exact lff_of h
  · have h:=cond_f hb h
    obtain ⟨q2,h⟩:=bget hx2 h
    refine ⟨s_table_Table_find_2 (d+0) q2, ?_⟩
    refine ⟨by decide, ?_⟩
    refine ⟨fun hb=>?_,fun hb=>?_⟩
    · have h:=cond_t hb h
      obtain ⟨q3,h⟩:=bget hx3 h
      refine ⟨s_table_Table_put_2 (d+2) q3, ?_⟩
      refine ⟨by decide, ?_⟩
      exact lff_of h
    · have h:=cond_f hb h
      refine ⟨fun hb=>?_,fun hb=>?_⟩
      · have h:=cond_t hb h
        exact lff_of h
      · have h:=cond_f hb h
        refine ⟨fun hb=>?_,fun hb=>?_⟩
        · have h:=cond_t hb h
          obtain ⟨q4,h⟩:=bget hx4 h
          refine ⟨wP_idxA R_api_Pair q4, ?_⟩
          refine ⟨cP_row (o:=1) R_api_Pair q4 rfl, ?_⟩
          exact lff_of h
        · have h:=cond_f hb h
          refine ⟨fun hb=>?_,fun hb=>?_⟩
          · have h:=cond_t hb h
            obtain ⟨q5,h⟩:=bget hx5 h
            refine ⟨s_table_Table_cas_2 (d+2) q5, ?_⟩
            refine ⟨by decide, ?_⟩
            exact lff_of h
          · have h:=cond_f hb h
            obtain ⟨q6,h⟩:=gd_some h
            refine ⟨q6, ?_⟩
            obtain ⟨q7,h⟩:=gd_some h
            refine ⟨delB_1 q7, ?_⟩
            refine ⟨delB_2 (l:=p_b1) q7, ?_⟩
            refine ⟨del_row R_api_Pair, ?_⟩
            exact lff_of h
def st_table_Of_L0 (p:List api_Pair) (s5:Int × List api_Pair):List AV × WH:=([(.ptr (some (0,0))),(.ptr (some (1,0))),(l_api_Pair p),(.int .i64 (p.length:Int)),(.int .i64 s5.1)],[(some (.cells [(.acc 2 0 2 0 true)] false false)),(some (.cells [(.acc 3 0 2 s5.2.length true)] false false)),(some (.cells (F_api_Pair []) false true)),(some (.cells (F_api_Pair s5.2) false true))])
def fin_table_Of_L0 (p:List api_Pair):(List api_Pair)→Ex × Fast × WH:=fun e=>((.exit 0),[(2,(.ptr (some (0,0)))),(3,(.ptr (some (1,0))))],[(some (.cells [(.acc 2 0 2 0 true)] false false)),(some (.cells [(.acc 3 0 2 e.length true)] false false)),(some (.cells (F_api_Pair []) false true)),(some (.cells (F_api_Pair e) false true))])
abbrev rx_table_Of_L0 (p:List api_Pair):=roundX [2,3,6,7,8] (st_table_Of_L0 p) (fin_table_Of_L0 p)
def table_Of_L0_s (p:List api_Pair) (s5:Int × List api_Pair):Option ((Int × List api_Pair) ⊕ ((List api_Pair))) :=
  cond (decide (s5.1 < (p.length:Int))) ((getI p s5.1).bind fun (x6:api_Pair)=>(table_Table_Do_2 (⟨2,x6.Key,x6.Value,([]:List UInt8)⟩:api_Op) s5.2).bind fun (x7:api_Answer × List api_Pair)=>some (.inl ((IntKind.i64.wrap (s5.1+1)),x7.2))) (some (.inr s5.2))
def table_Of_L0 (p:List api_Pair) (s5:Int × List api_Pair):Option ((List api_Pair)):=loopX (table_Of_L0_s p) KK s5
theorem b_table_Of_L0 (d:Nat) {p:List api_Pair} {s5:Int × List api_Pair} {r:(Int × List api_Pair) ⊕ ((List api_Pair))} (h:table_Of_L0_s p s5=some r):RunX (bexec (wcalls atab (d+6)) KK 20 WB56_0) 0 (inL [2,3,6,7,8] (st_table_Of_L0 p s5)) (rx_table_Of_L0 p r):=by
  obtain ⟨x6,hx6⟩:=wx (getI p s5.1)
  obtain ⟨x7,hx7⟩:=wx (table_Table_Do_2 (⟨2,x6.Key,x6.Value,([]:List UInt8)⟩:api_Op) s5.2)
  have e:∀ C:ACalls,wCode C (fun _=>none) KK 20 0 WB56_0 (inL [2,3,6,7,8] (st_table_Of_L0 p s5)).1 (inL [2,3,6,7,8] (st_table_Of_L0 p s5)).2 (.br 9 (.v 10 (.elem ((e_api_Pair x6) ++ F_api_Pair (p.drop (s5.1.toNat+1)))) (.st none (.call [] none [] (.agg (e_api_Answer x7.1)) [(some (.cells [(.acc 2 0 2 x7.2.length true)] false false)),none,(some (.cells (F_api_Pair x7.2) false true))] (.en [2,3,6,7,8] [none,none,none,none,none] [] [.undef,.undef,.slice none 2 0 0 true,.undef,.undef])))) (.en [2,3] [none,none] [] [])) (rx_table_Of_L0 p r)=(((decide (s5.1 < (p.length:Int)))=true→(wP (.idxSlice 2 (.c (l_api_Pair p)) (.c (.int .i64 s5.1)))=some (.elem ((e_api_Pair x6) ++ F_api_Pair (p.drop (s5.1.toNat+1))))∧(Spec C 52 [(.ptr (some (0,0))),(.agg (e_api_Op (⟨2,x6.Key,x6.Value,([]:List UInt8)⟩:api_Op)))] [(some (.cells [(.acc 1 0 2 s5.2.length true)] false false)),(some (.cells (F_api_Pair s5.2) false true))] (.agg (e_api_Answer x7.1)) [(some (.cells [(.acc 2 0 2 x7.2.length true)] false false)),none,(some (.cells (F_api_Pair x7.2) false true))]∧(2≤3∧lfe (rx_table_Of_L0 p) (.inl ((IntKind.i64.wrap (s5.1+1)),x7.2)) r))))∧((decide (s5.1 < (p.length:Int)))=false→lfe (rx_table_Of_L0 p) (.inr s5.2) r)):=fun C=>by kernel_rfl
  refine runS_of (fun _ _ h=>by cases h) WB56_0_ok (Nat.le_of_ble_eq_true rfl) ((e _).mpr ?_)
  unfold table_Of_L0_s at h
  refine ⟨fun hb=>?_,fun hb=>?_⟩
  · have h:=cond_t hb h
    obtain ⟨q6,h⟩:=bget hx6 h
    refine ⟨wP_idx R_api_Pair q6, ?_⟩
    obtain ⟨q7,h⟩:=bget hx7 h
    refine ⟨s_table_Table_Do_2 (d+0) q7, ?_⟩
    refine ⟨by decide, ?_⟩
    exact lfe_of h
  · have h:=cond_f hb h
    exact lfe_of h
theorem s_table_Of_L0 (d:Nat) {p:List api_Pair} {s5:Int × List api_Pair} {r:(List api_Pair)} (h:table_Of_L0 p s5=some r):RunX (bloop (bexec (wcalls atab (d+6)) KK 20 WB56_0) [2,3,6,7,8] KK) 0 (inL [2,3,6,7,8] (st_table_Of_L0 p s5)) (fin_table_Of_L0 p r) :=
  loop_of (st:=st_table_Of_L0 p) (fin:=fin_table_Of_L0 p) (step:=table_Of_L0_s p) (fun e=>by (intro h; cases h)) (fun s x h=>b_table_Of_L0 d h) KK s5 r h
def table_Of (p:List api_Pair):Option (table_Table) :=
  (table_Of_L0 p (0,[])).bind fun (x8:(List api_Pair))=>some (⟨x8⟩:table_Table)
def out_table_Of (p:List api_Pair) (r:table_Table):AV × WH:=((.agg (e_table_Table r)),[])
theorem s_table_Of (d:Nat) {p:List api_Pair} {r:table_Table} (h:table_Of p=some r):Spec (wcalls atab (d+7)) 56 [(l_api_Pair p)] [] (out_table_Of p r).1 (out_table_Of p r).2:=by
  obtain ⟨x8,hx8⟩:=wx (table_Of_L0 p (0,[]))
  have e:∀ C:ACalls,wBody C (fun _=>none) KK WF56 [(l_api_Pair p)] [] (.z 2 [.slice none 2 0 0 true] (.z 3 [.slice none 2 0 0 true] (.lp [none,none,none,none,none] [(some true),(some true),(some true),(some true)] [.undef,.undef,.slice none 2 0 0 true,.undef,.undef] (.exit 0) [(2,(.ptr (some (0,0)))),(3,(.ptr (some (1,0))))] [(some (.cells [(.acc 2 0 2 0 true)] false false)),(some (.cells [(.acc 3 0 2 x8.length true)] false false)),(some (.cells (F_api_Pair []) false true)),(some (.cells (F_api_Pair x8) false true))] (.st none (.fin (some false) [.agg [.slice none 2 0 0 true]] none))))) (out_table_Of p r).1 (out_table_Of p r).2=(1=1∧1≤20∧(RunS (bloop (bexec C KK 20 WB56_0) [2,3,6,7,8] KK) 0 [(2,(.ptr (some (0,0)))),(3,(.ptr (some (1,0)))),(6,(l_api_Pair p)),(7,(.int .i64 (p.length:Int))),(8,(.int .i64 0))] [(some (.cells [(.acc 2 0 2 0 true)] false false)),(some (.cells [(.acc 3 0 2 0 true)] false false)),(some (.cells (F_api_Pair []) false true)),(some (.cells (F_api_Pair []) false true))] (.exit 0) [(2,(.ptr (some (0,0)))),(3,(.ptr (some (1,0))))] [(some (.cells [(.acc 2 0 2 0 true)] false false)),(some (.cells [(.acc 3 0 2 x8.length true)] false false)),(some (.cells (F_api_Pair []) false true)),(some (.cells (F_api_Pair x8) false true))]∧lff (out_table_Of p) (⟨x8⟩:table_Table) r)):=fun C=>by kernel_rfl
  refine spec_of (fun _ _ h=>by cases h) rfl atab_56 WF56_ok ((e _).mpr ⟨rfl,by decide, ?_⟩)
  unfold table_Of at h
  obtain ⟨q8,h⟩:=bget hx8 h
  refine ⟨s_table_Of_L0 (d+0) q8, ?_⟩
  exact lff_of h
def oH_Key (n:Int):Option (List UInt8) :=
  (oH_Pick n 16).bind fun (x1:Int)=>(getI ([[97],[98],[99],[100],[101],[102],[103],[104],[107,97],[107,98],[107,99],[107,100],[120],[121],[122,122],[101,105,103,104,116,107,101,121]]:List (List UInt8)) x1).bind fun (x2:List UInt8)=>some x2
def out_oH_Key (n:Int) (r:List UInt8):AV × WH:=((.str r),[])
theorem s_oH_Key (d:Nat) {n:Int} {r:List UInt8} (h:oH_Key n=some r):Spec (wcalls atab (d+2)) 58 [(.int .i64 n)] [] (out_oH_Key n r).1 (out_oH_Key n r).2:=by
  obtain ⟨x1,hx1⟩:=wx (oH_Pick n 16)
  obtain ⟨x2,hx2⟩:=wx (getI ([[97],[98],[99],[100],[101],[102],[103],[104],[107,97],[107,98],[107,99],[107,100],[120],[121],[122,122],[101,105,103,104,116,107,101,121]]:List (List UInt8)) x1)
  have e:∀ C:ACalls,wBody C (fun _=>none) KK WF58 [(.int .i64 n)] [] (.cb [] [] (.int .i64 x1) (.v 6 (.str x2) (.fin (some false) [] none))) (out_oH_Key n r).1 (out_oH_Key n r).2=(1=1∧1≤7∧(Spec C 28 [(.int .i64 n),(.int .i64 16)] [] (.int .i64 x1) []∧(wP (.index false 16 1 (.c (.agg [(.str [97]),(.str [98]),(.str [99]),(.str [100]),(.str [101]),(.str [102]),(.str [103]),(.str [104]),(.str ([107,97])),(.str ([107,98])),(.str ([107,99])),(.str ([107,100])),(.str [120]),(.str [121]),(.str ([122,122])),(.str ([101,105,103,104,116,107,101,121]))])) (.c (.int .i64 x1)))=some (.str x2)∧lff (out_oH_Key n) x2 r))):=fun C=>by kernel_rfl
  refine spec_of (fun _ _ h=>by cases h) rfl atab_58 WF58_ok ((e _).mpr ⟨rfl,by decide, ?_⟩)
  unfold oH_Key at h
  obtain ⟨q1,h⟩:=bget hx1 h
  refine ⟨s_oH_Pick (d+0) q1, ?_⟩
  obtain ⟨q2,h⟩:=bget hx2 h
  refine ⟨wP_ix R_S q2, ?_⟩
  exact lff_of h
def oH_Value (n:Int):Option (List UInt8) :=
  (oH_Pick n 6).bind fun (x1:Int)=>(getI ([([]:List UInt8),[49],[50],[116,104,114,101,101],[115,105,120,116,101,101,110,32,98,121,116,101,115,32,105,116],[52]]:List (List UInt8)) x1).bind fun (x2:List UInt8)=>some x2
def out_oH_Value (n:Int) (r:List UInt8):AV × WH:=((.str r),[])
theorem s_oH_Value (d:Nat) {n:Int} {r:List UInt8} (h:oH_Value n=some r):Spec (wcalls atab (d+2)) 59 [(.int .i64 n)] [] (out_oH_Value n r).1 (out_oH_Value n r).2:=by
  obtain ⟨x1,hx1⟩:=wx (oH_Pick n 6)
  obtain ⟨x2,hx2⟩:=wx (getI ([([]:List UInt8),[49],[50],[116,104,114,101,101],[115,105,120,116,101,101,110,32,98,121,116,101,115,32,105,116],[52]]:List (List UInt8)) x1)
  have e:∀ C:ACalls,wBody C (fun _=>none) KK WF59 [(.int .i64 n)] [] (.cb [] [] (.int .i64 x1) (.v 6 (.str x2) (.fin (some false) [] none))) (out_oH_Value n r).1 (out_oH_Value n r).2=(1=1∧1≤7∧(Spec C 28 [(.int .i64 n),(.int .i64 6)] [] (.int .i64 x1) []∧(wP (.index false 6 1 (.c (.agg [(.str ([]:List UInt8)),(.str [49]),(.str [50]),(.str ([116,104,114,101,101])),(.str ([115,105,120,116,101,101,110,32,98,121,116,101,115,32,105,116])),(.str [52])])) (.c (.int .i64 x1)))=some (.str x2)∧lff (out_oH_Value n) x2 r))):=fun C=>by kernel_rfl
  refine spec_of (fun _ _ h=>by cases h) rfl atab_59 WF59_ok ((e _).mpr ⟨rfl,by decide, ?_⟩)
  unfold oH_Value at h
  obtain ⟨q1,h⟩:=bget hx1 h
  refine ⟨s_oH_Pick (d+0) q1, ?_⟩
  obtain ⟨q2,h⟩:=bget hx2 h
  refine ⟨wP_ix R_S q2, ?_⟩
  exact lff_of h
abbrev in_oR_RightOp_J0 (o:api_Op):Fast × WH:=([(1,(.ptr (some (0,0))))],[(some (.cells (e_api_Op o) false false))])
def fin_oR_RightOp_J0 (o:api_Op):Unit ⊕ Unit→Ex × Fast × WH:=fun
  | .inl e=>(.ret,[(2,(.bool false))],[])
  | .inr e=>(.normal,[(1,(.ptr (some (0,0))))],[(some (.cells (e_api_Op o) false false))])
def oR_RightOp_J0 (o:api_Op):Option (Unit ⊕ Unit) :=
  cond (decide (o.Kind < 1)) (some (.inl ())) (cond (decide (o.Kind > 4)) (some (.inl ())) (cond (decide ((o.Key.length:Int) < 1)) (some (.inl ())) (cond (decide ((o.Key.length:Int) > 8)) (some (.inl ())) (cond (decide ((o.Value.length:Int) > 16)) (some (.inl ())) (cond (decide ((o.Old.length:Int) > 16)) (some (.inl ())) (some (.inr ())))))))
theorem s_oR_RightOp_J0 (d:Nat) {o:api_Op} {r:Unit ⊕ Unit} (h:oR_RightOp_J0 o=some r):RunX (bexec (wcalls atab (d+0)) KK 58 WJ63_ba) 0 (in_oR_RightOp_J0 o) (fin_oR_RightOp_J0 o r):=by
  have e:∀ C:ACalls,wCode C (fun _=>none) KK 58 0 WJ63_ba (in_oR_RightOp_J0 o).1 (in_oR_RightOp_J0 o).2 (.br 6 (.en [2] [none] [] []) (.br 11 (.en [2] [none] [] []) (.br 17 (.en [2] [none] [] []) (.br 23 (.en [2] [none] [] []) (.br 29 (.en [2] [none] [] []) (.br 34 (.en [2] [none] [] []) (.en [1] [none] [] []))))))) (fin_oR_RightOp_J0 o r)=(((decide (o.Kind < 1))=true→lfe (fin_oR_RightOp_J0 o) (.inl ()) r)∧((decide (o.Kind < 1))=false→(((decide (o.Kind > 4))=true→lfe (fin_oR_RightOp_J0 o) (.inl ()) r)∧((decide (o.Kind > 4))=false→(((decide ((o.Key.length:Int) < 1))=true→lfe (fin_oR_RightOp_J0 o) (.inl ()) r)∧((decide ((o.Key.length:Int) < 1))=false→(((decide ((o.Key.length:Int) > 8))=true→lfe (fin_oR_RightOp_J0 o) (.inl ()) r)∧((decide ((o.Key.length:Int) > 8))=false→(((decide ((o.Value.length:Int) > 16))=true→lfe (fin_oR_RightOp_J0 o) (.inl ()) r)∧((decide ((o.Value.length:Int) > 16))=false→(((decide ((o.Old.length:Int) > 16))=true→lfe (fin_oR_RightOp_J0 o) (.inl ()) r)∧((decide ((o.Old.length:Int) > 16))=false→lfe (fin_oR_RightOp_J0 o) (.inr ()) r)))))))))))):=fun C=>by kernel_rfl
  refine runS_of (fun _ _ h=>by cases h) WJ63_ba_ok (Nat.le_of_ble_eq_true rfl) ((e _).mpr ?_)
  unfold oR_RightOp_J0 at h
  refine ⟨fun hb=>?_,fun hb=>?_⟩
  · have h:=cond_t hb h
    exact lfe_of h
  · have h:=cond_f hb h
    refine ⟨fun hb=>?_,fun hb=>?_⟩
    · have h:=cond_t hb h
      exact lfe_of h
    · have h:=cond_f hb h
      refine ⟨fun hb=>?_,fun hb=>?_⟩
      · have h:=cond_t hb h
        exact lfe_of h
      · have h:=cond_f hb h
        refine ⟨fun hb=>?_,fun hb=>?_⟩
        · have h:=cond_t hb h
          exact lfe_of h
        · have h:=cond_f hb h
          refine ⟨fun hb=>?_,fun hb=>?_⟩
          · have h:=cond_t hb h
            exact lfe_of h
          · have h:=cond_f hb h
            refine ⟨fun hb=>?_,fun hb=>?_⟩
            · have h:=cond_t hb h
              exact lfe_of h
            · have h:=cond_f hb h
              exact lfe_of h
def oR_RightOp (o:api_Op):Option (Bool) :=
  (oR_RightOp_J0 o).bind fun (x1:Unit ⊕ Unit)=>cond (isL x1) (some false) (cond (o.Value == ([]:List UInt8)) (cond (o.Old == ([]:List UInt8)) (some true) (some (o.Kind == 4))) (cond (o.Kind == 2) (cond (o.Old == ([]:List UInt8)) (some true) (some (o.Kind == 4))) (cond (o.Kind == 4) (cond (o.Old == ([]:List UInt8)) (some true) (some (o.Kind == 4))) (some false))))
def out_oR_RightOp (o:api_Op) (r:Bool):AV × WH:=((.bool r),[])
theorem s_oR_RightOp (d:Nat) {o:api_Op} {r:Bool} (h:oR_RightOp o=some r):Spec (wcalls atab (d+1)) 63 [(.agg (e_api_Op o))] [] (out_oR_RightOp o r).1 (out_oR_RightOp o r).2:=by
  obtain ⟨x1,hx1⟩:=wx (oR_RightOp_J0 o)
  have e:∀ C:ACalls,wBody C (fun _=>none) KK WF63 [(.agg (e_api_Op o))] [] (.sk (.ite (isL x1) (.jn [1] [none] [] [] .ret [(2,(.bool false))] [] (.fin (some false) [] none)) (.jn [1] [none] [] [] .normal [(1,(.ptr (some (0,0))))] [(some (.cells (e_api_Op o) false false))] (.br 38 (.br 52 (.fin (some false) [] none) (.fin (some false) [] none)) (.br 43 (.br 52 (.fin (some false) [] none) (.fin (some false) [] none)) (.br 48 (.br 52 (.fin (some false) [] none) (.fin (some false) [] none)) (.fin (some false) [] none))))))) (out_oR_RightOp o r).1 (out_oR_RightOp o r).2=(1=1∧1≤58∧(((isL x1)=true→(RunS (bexec C KK 58 WJ63_ba) 0 [(1,(.ptr (some (0,0))))] [(some (.cells (e_api_Op o) false false))] .ret [(2,(.bool false))] []∧lff (out_oR_RightOp o) false r))∧((isL x1)=false→(RunS (bexec C KK 58 WJ63_ba) 0 [(1,(.ptr (some (0,0))))] [(some (.cells (e_api_Op o) false false))] .normal [(1,(.ptr (some (0,0))))] [(some (.cells (e_api_Op o) false false))]∧(((o.Value == ([]:List UInt8))=true→(((o.Old == ([]:List UInt8))=true→lff (out_oR_RightOp o) true r)∧((o.Old == ([]:List UInt8))=false→lff (out_oR_RightOp o) (o.Kind == 4) r)))∧((o.Value == ([]:List UInt8))=false→(((o.Kind == 2)=true→(((o.Old == ([]:List UInt8))=true→lff (out_oR_RightOp o) true r)∧((o.Old == ([]:List UInt8))=false→lff (out_oR_RightOp o) (o.Kind == 4) r)))∧((o.Kind == 2)=false→(((o.Kind == 4)=true→(((o.Old == ([]:List UInt8))=true→lff (out_oR_RightOp o) true r)∧((o.Old == ([]:List UInt8))=false→lff (out_oR_RightOp o) (o.Kind == 4) r)))∧((o.Kind == 4)=false→lff (out_oR_RightOp o) false r)))))))))):=fun C=>by kernel_rfl
  refine spec_of (fun _ _ h=>by cases h) rfl atab_63 WF63_ok ((e _).mpr ⟨rfl,by decide, ?_⟩)
  unfold oR_RightOp at h
  obtain ⟨q1,h⟩:=bget hx1 h
  refine ⟨fun hb2=>?_,fun hb2=>?_⟩
  · have h:=cond_t hb2 h
    refine ⟨by have h:=s_oR_RightOp_J0 (d+0) q1; rw [isL_t hb2] at h; exact h, ?_⟩
    exact lff_of h
  · have h:=cond_f hb2 h
    refine ⟨by have h:=s_oR_RightOp_J0 (d+0) q1; rw [isL_f hb2] at h; exact h, ?_⟩
    refine ⟨fun hb=>?_,fun hb=>?_⟩
    · have h:=cond_t hb h
      refine ⟨fun hb=>?_,fun hb=>?_⟩
      · have h:=cond_t hb h
        exact lff_of h
      · have h:=cond_f hb h
        exact lff_of h
    · have h:=cond_f hb h
      refine ⟨fun hb=>?_,fun hb=>?_⟩
      · have h:=cond_t hb h
        refine ⟨fun hb=>?_,fun hb=>?_⟩
        · have h:=cond_t hb h
          exact lff_of h
        · have h:=cond_f hb h
          exact lff_of h
      · have h:=cond_f hb h
        refine ⟨fun hb=>?_,fun hb=>?_⟩
        · have h:=cond_t hb h
          refine ⟨fun hb=>?_,fun hb=>?_⟩
          · have h:=cond_t hb h
            exact lff_of h
          · have h:=cond_f hb h
            exact lff_of h
        · have h:=cond_f hb h
          exact lff_of h
def st_oR_Table_find_2_L0 (p_b1:List api_Pair) (key:List UInt8) (s3:Int):List AV × WH:=([(.ptr (some (0,0))),(.str key),(.int .i64 s3)],[(some (.cells [(.acc 1 0 2 p_b1.length true)] false false)),(some (.cells (F_api_Pair p_b1) false true))])
def fin_oR_Table_find_2_L0 (p_b1:List api_Pair) (key:List UInt8):(Int × Bool) ⊕ Unit→Ex × Fast × WH:=fun
  | .inl e=>(.ret,[(4,(.int .i64 e.1)),(5,(.bool e.2))],[(some (.cells [(.acc 1 0 2 p_b1.length true)] false false)),(some (.cells (F_api_Pair p_b1) false true))])
  | .inr e=>((.exit 0),[(0,(.ptr (some (0,0))))],[(some (.cells [(.acc 1 0 2 p_b1.length true)] false false)),(some (.cells (F_api_Pair p_b1) false true))])
abbrev rx_oR_Table_find_2_L0 (p_b1:List api_Pair) (key:List UInt8):=roundX [0,1,6] (st_oR_Table_find_2_L0 p_b1 key) (fin_oR_Table_find_2_L0 p_b1 key)
def oR_Table_find_2_L0_s (p_b1:List api_Pair) (key:List UInt8) (s3:Int):Option ((Int) ⊕ ((Int × Bool) ⊕ Unit)) :=
  cond (decide (s3 < (p_b1.length:Int))) ((getI p_b1 s3).bind fun (x4:api_Pair)=>cond (!(Op.bytesLess x4.Key key)) ((getI p_b1 s3).bind fun (x5:api_Pair)=>some (.inr (.inl (s3,(x5.Key == key))))) (some (.inl (IntKind.i64.wrap (s3+1))))) (some (.inr (.inr ())))
def oR_Table_find_2_L0 (p_b1:List api_Pair) (key:List UInt8) (s3:Int):Option ((Int × Bool) ⊕ Unit):=loopX (oR_Table_find_2_L0_s p_b1 key) KK s3
theorem b_oR_Table_find_2_L0 (d:Nat) {p_b1:List api_Pair} {key:List UInt8} {s3:Int} {r:(Int) ⊕ ((Int × Bool) ⊕ Unit)} (h:oR_Table_find_2_L0_s p_b1 key s3=some r):RunX (bexec (wcalls atab (d+0)) KK 42 WB104_0) 2 (inL [0,1,6] (st_oR_Table_find_2_L0 p_b1 key s3)) (rx_oR_Table_find_2_L0 p_b1 key r):=by
  obtain ⟨x4,hx4⟩:=wx (getI p_b1 s3)
  obtain ⟨x5,hx5⟩:=wx (getI p_b1 s3)
  have e:∀ C:ACalls,wCode C (fun _=>none) KK 42 2 WB104_0 (inL [0,1,6] (st_oR_Table_find_2_L0 p_b1 key s3)).1 (inL [0,1,6] (st_oR_Table_find_2_L0 p_b1 key s3)).2 (.br 13 (.v 21 (.ptr (some (1,0+s3.toNat * 2))) (.v 23 (.str x4.Key) (.br 25 (.v 32 (.ptr (some (1,0+s3.toNat * 2))) (.v 34 (.str x5.Key) (.en [4,5] [none,none] [] []))) (.en [0,1,6] [none,none,none] [] [])))) (.en [0] [none] [] [])) (rx_oR_Table_find_2_L0 p_b1 key r)=(((decide (s3 < (p_b1.length:Int)))=true→(wP (.idxSlice 2 (.c (.acc 1 0 2 p_b1.length true)) (.c (.int .i64 s3)))=some (.ptr (some (1,0+s3.toNat * 2)))∧(cPart false (0+s3.toNat * 2) 1 (F_api_Pair p_b1)=some (.str x4.Key)∧(((!(Op.bytesLess x4.Key key))=true→(wP (.idxSlice 2 (.c (.acc 1 0 2 p_b1.length true)) (.c (.int .i64 s3)))=some (.ptr (some (1,0+s3.toNat * 2)))∧(cPart false (0+s3.toNat * 2) 1 (F_api_Pair p_b1)=some (.str x5.Key)∧lfe (rx_oR_Table_find_2_L0 p_b1 key) (.inr (.inl (s3,(x5.Key == key)))) r)))∧((!(Op.bytesLess x4.Key key))=false→lfe (rx_oR_Table_find_2_L0 p_b1 key) (.inl (IntKind.i64.wrap (s3+1))) r)))))∧((decide (s3 < (p_b1.length:Int)))=false→lfe (rx_oR_Table_find_2_L0 p_b1 key) (.inr (.inr ())) r)):=fun C=>by kernel_rfl
  refine runS_of (fun _ _ h=>by cases h) WB104_0_ok (Nat.le_of_ble_eq_true rfl) ((e _).mpr ?_)
  unfold oR_Table_find_2_L0_s at h
  refine ⟨fun hb=>?_,fun hb=>?_⟩
  · have h:=cond_t hb h
    obtain ⟨q4,h⟩:=bget hx4 h
    refine ⟨wP_idxA R_api_Pair q4, ?_⟩
    refine ⟨cP_row (o:=0) R_api_Pair q4 rfl, ?_⟩
    refine ⟨fun hb=>?_,fun hb=>?_⟩
    · have h:=cond_t hb h
      obtain ⟨q5,h⟩:=bget hx5 h
      refine ⟨wP_idxA R_api_Pair q5, ?_⟩
      refine ⟨cP_row (o:=0) R_api_Pair q5 rfl, ?_⟩
      exact lfe_of h
    · have h:=cond_f hb h
      exact lfe_of h
  · have h:=cond_f hb h
    exact lfe_of h
theorem s_oR_Table_find_2_L0 (d:Nat) {p_b1:List api_Pair} {key:List UInt8} {s3:Int} {r:(Int × Bool) ⊕ Unit} (h:oR_Table_find_2_L0 p_b1 key s3=some r):RunX (bloop (bexec (wcalls atab (d+0)) KK 42 WB104_0) [0,1,6] KK) 2 (inL [0,1,6] (st_oR_Table_find_2_L0 p_b1 key s3)) (fin_oR_Table_find_2_L0 p_b1 key r) :=
  loop_of (st:=st_oR_Table_find_2_L0 p_b1 key) (fin:=fin_oR_Table_find_2_L0 p_b1 key) (step:=oR_Table_find_2_L0_s p_b1 key) (fun e=>by rcases e with e | e <;> (intro h; cases h)) (fun s x h=>b_oR_Table_find_2_L0 d h) KK s3 r h
def oR_Table_find_2 (key:List UInt8) (p_b1:List api_Pair):Option (Int × Bool) :=
  (oR_Table_find_2_L0 p_b1 key 0).bind fun (x6:(Int × Bool) ⊕ Unit)=>cond (isL x6) (some ((getL x6).1,(getL x6).2)) (some ((p_b1.length:Int),false))
def out_oR_Table_find_2 (key:List UInt8) (p_b1:List api_Pair) (r:Int × Bool):AV × WH:=((.tuple [(.int .i64 r.1),(.bool r.2)]),[(some (.cells [(.acc 1 0 2 p_b1.length true)] false false)),(some (.cells (F_api_Pair p_b1) false true))])
theorem s_oR_Table_find_2 (d:Nat) {key:List UInt8} {p_b1:List api_Pair} {r:Int × Bool} (h:oR_Table_find_2 key p_b1=some r):Spec (wcalls atab (d+1)) 104 [(.ptr (some (0,0))),(.str key)] [(some (.cells [(.acc 1 0 2 p_b1.length true)] false false)),(some (.cells (F_api_Pair p_b1) false true))] (out_oR_Table_find_2 key p_b1 r).1 (out_oR_Table_find_2 key p_b1 r).2:=by
  obtain ⟨x6,hx6⟩:=wx (oR_Table_find_2_L0 p_b1 key 0)
  have e:∀ C:ACalls,wBody C (fun _=>none) KK WF104 [(.ptr (some (0,0))),(.str key)] [(some (.cells [(.acc 1 0 2 p_b1.length true)] false false)),(some (.cells (F_api_Pair p_b1) false true))] (.ite (isL x6) (.lp [none,none,none] [] [] .ret [(4,(.int .i64 (getL x6).1)),(5,(.bool (getL x6).2))] [(some (.cells [(.acc 1 0 2 p_b1.length true)] false false)),(some (.cells (F_api_Pair p_b1) false true))] (.fin (some false) [] none)) (.lp [none,none,none] [] [] (.exit 0) [(0,(.ptr (some (0,0))))] [(some (.cells [(.acc 1 0 2 p_b1.length true)] false false)),(some (.cells (F_api_Pair p_b1) false true))] (.fin (some false) [] none))) (out_oR_Table_find_2 key p_b1 r).1 (out_oR_Table_find_2 key p_b1 r).2=(2=2∧2≤42∧(((isL x6)=true→(RunS (bloop (bexec C KK 42 WB104_0) [0,1,6] KK) 2 [(0,(.ptr (some (0,0)))),(1,(.str key)),(6,(.int .i64 0))] [(some (.cells [(.acc 1 0 2 p_b1.length true)] false false)),(some (.cells (F_api_Pair p_b1) false true))] .ret [(4,(.int .i64 (getL x6).1)),(5,(.bool (getL x6).2))] [(some (.cells [(.acc 1 0 2 p_b1.length true)] false false)),(some (.cells (F_api_Pair p_b1) false true))]∧lff (out_oR_Table_find_2 key p_b1) ((getL x6).1,(getL x6).2) r))∧((isL x6)=false→(RunS (bloop (bexec C KK 42 WB104_0) [0,1,6] KK) 2 [(0,(.ptr (some (0,0)))),(1,(.str key)),(6,(.int .i64 0))] [(some (.cells [(.acc 1 0 2 p_b1.length true)] false false)),(some (.cells (F_api_Pair p_b1) false true))] (.exit 0) [(0,(.ptr (some (0,0))))] [(some (.cells [(.acc 1 0 2 p_b1.length true)] false false)),(some (.cells (F_api_Pair p_b1) false true))]∧lff (out_oR_Table_find_2 key p_b1) ((p_b1.length:Int),false) r)))):=fun C=>by kernel_rfl
  refine spec_of (fun _ _ h=>by cases h) rfl atab_104 WF104_ok ((e _).mpr ⟨rfl,by decide, ?_⟩)
  unfold oR_Table_find_2 at h
  obtain ⟨q6,h⟩:=bget hx6 h
  refine ⟨fun hb7=>?_,fun hb7=>?_⟩
  · have h:=cond_t hb7 h
    refine ⟨by have h:=s_oR_Table_find_2_L0 (d+0) q6; rw [isL_t hb7] at h; exact h, ?_⟩
    exact lff_of h
  · have h:=cond_f hb7 h
    refine ⟨by have h:=s_oR_Table_find_2_L0 (d+0) q6; rw [isL_f hb7] at h; exact h, ?_⟩
    exact lff_of h
abbrev in_oR_Table_Do_2_J0 (x2:Int × Bool) (p_b1:List api_Pair) (o:api_Op):Fast × WH:=([(0,(.ptr (some (0,0)))),(3,(.ptr (some (2,0)))),(4,(.ptr (some (3,0)))),(5,(.int .i64 x2.1)),(6,(.bool x2.2))],[(some (.cells [(.acc 1 0 2 p_b1.length true)] false false)),(some (.cells (F_api_Pair p_b1) false true)),(some (.cells (e_api_Op o) false false)),(some (.cells (e_api_Answer (⟨0,([]:List UInt8)⟩:api_Answer)) false false))])
def fin_oR_Table_Do_2_J0 (x2:Int × Bool) (p_b1:List api_Pair) (o:api_Op):Unit ⊕ Unit→Ex × Fast × WH:=fun
  | .inl e=>(.ret,[(4,(.ptr (some (2,0))))],[(some (.cells [(.acc 1 0 2 p_b1.length true)] false false)),(some (.cells (F_api_Pair p_b1) false true)),(some (.cells (e_api_Answer (⟨5,([]:List UInt8)⟩:api_Answer)) false false))])
  | .inr e=>(.normal,[(0,(.ptr (some (0,0)))),(3,(.ptr (some (2,0)))),(4,(.ptr (some (3,0)))),(5,(.int .i64 x2.1)),(6,(.bool x2.2))],[(some (.cells [(.acc 1 0 2 p_b1.length true)] false false)),(some (.cells (F_api_Pair p_b1) false true)),(some (.cells (e_api_Op o) false false)),(some (.cells (e_api_Answer (⟨0,([]:List UInt8)⟩:api_Answer)) false false))])
def oR_Table_Do_2_J0 (x2:Int × Bool) (p_b1:List api_Pair) (o:api_Op):Option (Unit ⊕ Unit) :=
  cond (!x2.2) (cond (decide ((p_b1.length:Int) ≥ 8)) (some (.inl ())) (some (.inr ()))) (some (.inr ()))
theorem s_oR_Table_Do_2_J0 (d:Nat) {x2:Int × Bool} {p_b1:List api_Pair} {o:api_Op} {r:Unit ⊕ Unit} (h:oR_Table_Do_2_J0 x2 p_b1 o=some r):RunX (bexec (wcalls atab (d+0)) KK 147 WJ62_bbbabkbfbta) 2 (in_oR_Table_Do_2_J0 x2 p_b1 o) (fin_oR_Table_Do_2_J0 x2 p_b1 o r):=by
  have e:∀ C:ACalls,wCode C (fun _=>none) KK 147 2 WJ62_bbbabkbfbta (in_oR_Table_Do_2_J0 x2 p_b1 o).1 (in_oR_Table_Do_2_J0 x2 p_b1 o).2 (.br 40 (.br 47 (.st none (.en [4] [none] [] [])) (.en [0,3,4,5,6] [none,none,none,none,none] [] [])) (.en [0,3,4,5,6] [none,none,none,none,none] [] [])) (fin_oR_Table_Do_2_J0 x2 p_b1 o r)=(((!x2.2)=true→(((decide ((p_b1.length:Int) ≥ 8))=true→lfe (fin_oR_Table_Do_2_J0 x2 p_b1 o) (.inl ()) r)∧((decide ((p_b1.length:Int) ≥ 8))=false→lfe (fin_oR_Table_Do_2_J0 x2 p_b1 o) (.inr ()) r)))∧((!x2.2)=false→lfe (fin_oR_Table_Do_2_J0 x2 p_b1 o) (.inr ()) r)):=fun C=>by kernel_rfl
  refine runS_of (fun _ _ h=>by cases h) WJ62_bbbabkbfbta_ok (Nat.le_of_ble_eq_true rfl) ((e _).mpr ?_)
  unfold oR_Table_Do_2_J0 at h
  refine ⟨fun hb=>?_,fun hb=>?_⟩
  · have h:=cond_t hb h
    refine ⟨fun hb=>?_,fun hb=>?_⟩
    · have h:=cond_t hb h
      exact lfe_of h
    · have h:=cond_f hb h
      exact lfe_of h
  · have h:=cond_f hb h
    exact lfe_of h
abbrev in_oR_Table_Do_2_J1 (x2:Int × Bool) (x6:List api_Pair) (o:api_Op) (p_b1:List api_Pair):Fast × WH:=([(0,(.ptr (some (0,0)))),(4,(.ptr (some (2,0)))),(5,(.int .i64 x2.1)),(6,(.bool x2.2)),(7,(.acc 3 0 2 (x6 ++ [(⟨o.Key,o.Value⟩:api_Pair)]).length true))],[(some (.cells [(.acc 1 0 2 p_b1.length true)] false false)),(some (.cells (F_api_Pair p_b1) false true)),(some (.cells (e_api_Answer (⟨0,([]:List UInt8)⟩:api_Answer)) false false)),(some (.cells (F_api_Pair (x6 ++ [(⟨o.Key,o.Value⟩:api_Pair)])) false true))])
def fin_oR_Table_Do_2_J1 (x2:Int × Bool) (x6:List api_Pair) (o:api_Op) (p_b1:List api_Pair):Int→Ex × Fast × WH:=fun e=>(.normal,[(0,(.ptr (some (0,0)))),(4,(.ptr (some (2,0)))),(5,(.int .i64 e)),(7,(.acc 3 0 2 (x6 ++ [(⟨o.Key,o.Value⟩:api_Pair)]).length true))],[(some (.cells [(.acc 1 0 2 p_b1.length true)] false false)),(some (.cells (F_api_Pair p_b1) false true)),(some (.cells (e_api_Answer (⟨0,([]:List UInt8)⟩:api_Answer)) false false)),(some (.cells (F_api_Pair (x6 ++ [(⟨o.Key,o.Value⟩:api_Pair)])) false true))])
def oR_Table_Do_2_J1 (x2:Int × Bool) (x6:List api_Pair) (o:api_Op) (p_b1:List api_Pair):Option (Int) :=
  cond x2.2 (some (IntKind.i64.wrap (x2.1+1))) (some x2.1)
theorem s_oR_Table_Do_2_J1 (d:Nat) {x2:Int × Bool} {x6:List api_Pair} {o:api_Op} {p_b1:List api_Pair} {r:Int} (h:oR_Table_Do_2_J1 x2 x6 o p_b1=some r):RunX (bexec (wcalls atab (d+0)) KK 147 WJ62_bbbabkbfbtbbba) 2 (in_oR_Table_Do_2_J1 x2 x6 o p_b1) (fin_oR_Table_Do_2_J1 x2 x6 o p_b1 r):=by
  have e:∀ C:ACalls,wCode C (fun _=>none) KK 147 2 WJ62_bbbabkbfbtbbba (in_oR_Table_Do_2_J1 x2 x6 o p_b1).1 (in_oR_Table_Do_2_J1 x2 x6 o p_b1).2 (.br 65 (.en [0,4,5,7] [none,none,none,none] [] [.undef,.undef,.undef,.slice none 2 0 0 true]) (.en [0,4,5,7] [none,none,none,none] [] [.undef,.undef,.undef,.slice none 2 0 0 true])) (fin_oR_Table_Do_2_J1 x2 x6 o p_b1 r)=((x2.2=true→lfe (fin_oR_Table_Do_2_J1 x2 x6 o p_b1) (IntKind.i64.wrap (x2.1+1)) r)∧(x2.2=false→lfe (fin_oR_Table_Do_2_J1 x2 x6 o p_b1) x2.1 r)):=fun C=>by kernel_rfl
  refine runS_of (fun _ _ h=>by cases h) WJ62_bbbabkbfbtbbba_ok (Nat.le_of_ble_eq_true rfl) ((e _).mpr ?_)
  unfold oR_Table_Do_2_J1 at h
  refine ⟨fun hb=>?_,fun hb=>?_⟩
  · have h:=cond_t hb h
    exact lfe_of h
  · have h:=cond_f hb h
    exact lfe_of h
def oR_Table_Do_2 (o:api_Op) (p_b1:List api_Pair):Option (api_Answer × List api_Pair) :=
  (oR_RightOp o).bind fun (x1:Bool)=>cond (!x1) (some ((⟨1,([]:List UInt8)⟩:api_Answer),p_b1)) ((oR_Table_find_2 o.Key p_b1).bind fun (x2:Int × Bool)=>cond (o.Kind == 1) (cond (!x2.2) (some ((⟨4,([]:List UInt8)⟩:api_Answer),p_b1)) ((getI p_b1 x2.1).bind fun (x3:api_Pair)=>some ((⟨0,x3.Value⟩:api_Answer),p_b1))) (cond (o.Kind == 2) ((oR_Table_Do_2_J0 x2 p_b1 o).bind fun (x4:Unit ⊕ Unit)=>cond (isL x4) (some ((⟨5,([]:List UInt8)⟩:api_Answer),p_b1)) ((slI p_b1 0 x2.1).bind fun (x6:List api_Pair)=>gd (fitsB 32 x6.length) (gd (fitsB 32 (x6 ++ [(⟨o.Key,o.Value⟩:api_Pair)]).length) ((oR_Table_Do_2_J1 x2 x6 o p_b1).bind fun (x9:Int)=>(slI p_b1 x9 p_b1.length).bind fun (x10:List api_Pair)=>gd (fitsB 32 ((x6 ++ [(⟨o.Key,o.Value⟩:api_Pair)]) ++ x10).length) (some ((⟨0,([]:List UInt8)⟩:api_Answer),((x6 ++ [(⟨o.Key,o.Value⟩:api_Pair)]) ++ x10))))))) (cond (o.Kind == 3) (cond (!x2.2) (some ((⟨4,([]:List UInt8)⟩:api_Answer),p_b1)) ((slI p_b1 0 x2.1).bind fun (x12:List api_Pair)=>gd (fitsB 32 x12.length) ((slI p_b1 (IntKind.i64.wrap (x2.1+1)) p_b1.length).bind fun (x14:List api_Pair)=>gd (fitsB 32 (x12 ++ x14).length) (some ((⟨0,([]:List UInt8)⟩:api_Answer),(x12 ++ x14)))))) (cond (!x2.2) (some ((⟨4,([]:List UInt8)⟩:api_Answer),p_b1)) ((getI p_b1 x2.1).bind fun (x16:api_Pair)=>cond (!(x16.Value == o.Old)) ((getI p_b1 x2.1).bind fun (x17:api_Pair)=>some ((⟨6,x17.Value⟩:api_Answer),p_b1)) (gd (fitsB 32 p_b1.length) ((getI p_b1 x2.1).bind fun (x19:api_Pair)=>some ((⟨0,([]:List UInt8)⟩:api_Answer),(p_b1.set x2.1.toNat (⟨x19.Key,o.Value⟩:api_Pair))))))))))
def out_oR_Table_Do_2 (o:api_Op) (p_b1:List api_Pair) (r:api_Answer × List api_Pair):AV × WH:=((.agg (e_api_Answer r.1)),[(some (.cells [(.acc 2 0 2 r.2.length true)] false false)),none,(some (.cells (F_api_Pair r.2) false true))])
theorem s_oR_Table_Do_2 (d:Nat) {o:api_Op} {p_b1:List api_Pair} {r:api_Answer × List api_Pair} (h:oR_Table_Do_2 o p_b1=some r):Spec (wcalls atab (d+2)) 62 [(.ptr (some (0,0))),(.agg (e_api_Op o))] [(some (.cells [(.acc 1 0 2 p_b1.length true)] false false)),(some (.cells (F_api_Pair p_b1) false true))] (out_oR_Table_Do_2 o p_b1 r).1 (out_oR_Table_Do_2 o p_b1 r).2:=by
  obtain ⟨x1,hx1⟩:=wx (oR_RightOp o)
  obtain ⟨x2,hx2⟩:=wx (oR_Table_find_2 o.Key p_b1)
  obtain ⟨x3,hx3⟩:=wx (getI p_b1 x2.1)
  obtain ⟨x4,hx4⟩:=wx (oR_Table_Do_2_J0 x2 p_b1 o)
  obtain ⟨x6,hx6⟩:=wx (slI p_b1 0 x2.1)
  obtain ⟨x9,hx9⟩:=wx (oR_Table_Do_2_J1 x2 x6 o p_b1)
  obtain ⟨x10,hx10⟩:=wx (slI p_b1 x9 p_b1.length)
  obtain ⟨x12,hx12⟩:=wx (slI p_b1 0 x2.1)
  obtain ⟨x14,hx14⟩:=wx (slI p_b1 (IntKind.i64.wrap (x2.1+1)) p_b1.length)
  obtain ⟨x16,hx16⟩:=wx (getI p_b1 x2.1)
  obtain ⟨x17,hx17⟩:=wx (getI p_b1 x2.1)
  obtain ⟨x19,hx19⟩:=wx (getI p_b1 x2.1)
  have e:∀ C:ACalls,wBody C (fun _=>none) KK WF62 [(.ptr (some (0,0))),(.agg (e_api_Op o))] [(some (.cells [(.acc 1 0 2 p_b1.length true)] false false)),(some (.cells (F_api_Pair p_b1) false true))] (.cb [] [] (.bool x1) (.br 11 (.st none (.fin (some false) [] (some true))) (.call [] none [] (.tuple [(.int .i64 x2.1),(.bool x2.2)]) [(some (.cells [(.acc 1 0 2 p_b1.length true)] false false)),(some (.cells (F_api_Pair p_b1) false true))] (.br 22 (.br 25 (.st none (.fin (some false) [] (some true))) (.v 32 (.ptr (some (1,0+x2.1.toNat * 2))) (.v 34 (.str x3.Value) (.st none (.fin (some false) [] (some true)))))) (.br 36 (.ite (isL x4) (.jn [0,3,4,5,6] [none,none,none,none,none] [] [] .ret [(4,(.ptr (some (2,0))))] [(some (.cells [(.acc 1 0 2 p_b1.length true)] false false)),(some (.cells (F_api_Pair p_b1) false true)),(some (.cells (e_api_Answer (⟨5,([]:List UInt8)⟩:api_Answer)) false false))] (.fin (some false) [] (some true))) (.jn [0,3,4,5,6] [none,none,none,none,none] [] [] .normal [(0,(.ptr (some (0,0)))),(3,(.ptr (some (2,0)))),(4,(.ptr (some (3,0)))),(5,(.int .i64 x2.1)),(6,(.bool x2.2))] [(some (.cells [(.acc 1 0 2 p_b1.length true)] false false)),(some (.cells (F_api_Pair p_b1) false true)),(some (.cells (e_api_Op o) false false)),(some (.cells (e_api_Answer (⟨0,([]:List UInt8)⟩:api_Answer)) false false))] (.v 55 (.acc 1 0 2 x6.length false) (.ap 56 x6.length (F_api_Pair x6) (.ap 64 (x6 ++ [(⟨o.Key,o.Value⟩:api_Pair)]).length (F_api_Pair (x6 ++ [(⟨o.Key,o.Value⟩:api_Pair)])) (.jn [0,4,5,6,7] [none,none,none,none,none] [] [.undef,.undef,.undef,.undef,.slice none 2 0 0 true] .normal [(0,(.ptr (some (0,0)))),(4,(.ptr (some (2,0)))),(5,(.int .i64 x9)),(7,(.acc 3 0 2 (x6 ++ [(⟨o.Key,o.Value⟩:api_Pair)]).length true))] [(some (.cells [(.acc 1 0 2 p_b1.length true)] false false)),(some (.cells (F_api_Pair p_b1) false true)),(some (.cells (e_api_Answer (⟨0,([]:List UInt8)⟩:api_Answer)) false false)),(some (.cells (F_api_Pair (x6 ++ [(⟨o.Key,o.Value⟩:api_Pair)])) false true))] (.v 75 (.acc 1 (0+x9.toNat * 2) 2 x10.length false) (.ap 76 ((x6 ++ [(⟨o.Key,o.Value⟩:api_Pair)]) ++ x10).length (F_api_Pair ((x6 ++ [(⟨o.Key,o.Value⟩:api_Pair)]) ++ x10)) (.st none (.st none (.kl [1] (.fin (some false) [] (some true))))))))))))) (.br 80 (.br 83 (.st none (.fin (some false) [] (some true))) (.v 92 (.acc 1 0 2 x12.length false) (.ap 93 x12.length (F_api_Pair x12) (.v 100 (.acc 1 (0+(IntKind.i64.wrap (x2.1+1)).toNat * 2) 2 x14.length false) (.ap 101 (x12 ++ x14).length (F_api_Pair (x12 ++ x14)) (.st none (.st none (.kl [1] (.fin (some false) [] (some true)))))))))) (.br 105 (.st none (.fin (some false) [] (some true))) (.v 115 (.ptr (some (1,0+x2.1.toNat * 2))) (.v 117 (.str x16.Value) (.br 109 (.v 126 (.ptr (some (1,0+x2.1.toNat * 2))) (.v 128 (.str x17.Value) (.st none (.fin (some false) [] (some true))))) (.ap 135 p_b1.length (F_api_Pair p_b1) (.v 140 (.ptr (some (5,0+x2.1.toNat * 2))) (.st (some (F_api_Pair (p_b1.set x2.1.toNat (⟨x19.Key,o.Value⟩:api_Pair)))) (.st none (.st none (.kl [1] (.fin (some false) [] (some true)))))))))))))))))) (out_oR_Table_Do_2 o p_b1 r).1 (out_oR_Table_Do_2 o p_b1 r).2=(2=2∧2≤147∧(Spec C 63 [(.agg (e_api_Op o))] [] (.bool x1) []∧(((!x1)=true→lff (out_oR_Table_Do_2 o p_b1) ((⟨1,([]:List UInt8)⟩:api_Answer),p_b1) r)∧((!x1)=false→(Spec C 104 [(.ptr (some (0,0))),(.str o.Key)] [(some (.cells [(.acc 1 0 2 p_b1.length true)] false false)),(some (.cells (F_api_Pair p_b1) false true))] (.tuple [(.int .i64 x2.1),(.bool x2.2)]) [(some (.cells [(.acc 1 0 2 p_b1.length true)] false false)),(some (.cells (F_api_Pair p_b1) false true))]∧(2≤2∧(((o.Kind == 1)=true→(((!x2.2)=true→lff (out_oR_Table_Do_2 o p_b1) ((⟨4,([]:List UInt8)⟩:api_Answer),p_b1) r)∧((!x2.2)=false→(wP (.idxSlice 2 (.c (.acc 1 0 2 p_b1.length true)) (.c (.int .i64 x2.1)))=some (.ptr (some (1,0+x2.1.toNat * 2)))∧(cPart false (0+x2.1.toNat * 2+1) 1 (F_api_Pair p_b1)=some (.str x3.Value)∧lff (out_oR_Table_Do_2 o p_b1) ((⟨0,x3.Value⟩:api_Answer),p_b1) r)))))∧((o.Kind == 1)=false→(((o.Kind == 2)=true→(((isL x4)=true→(RunS (bexec C KK 147 WJ62_bbbabkbfbta) 2 [(0,(.ptr (some (0,0)))),(3,(.ptr (some (2,0)))),(4,(.ptr (some (3,0)))),(5,(.int .i64 x2.1)),(6,(.bool x2.2))] [(some (.cells [(.acc 1 0 2 p_b1.length true)] false false)),(some (.cells (F_api_Pair p_b1) false true)),(some (.cells (e_api_Op o) false false)),(some (.cells (e_api_Answer (⟨0,([]:List UInt8)⟩:api_Answer)) false false))] .ret [(4,(.ptr (some (2,0))))] [(some (.cells [(.acc 1 0 2 p_b1.length true)] false false)),(some (.cells (F_api_Pair p_b1) false true)),(some (.cells (e_api_Answer (⟨5,([]:List UInt8)⟩:api_Answer)) false false))]∧lff (out_oR_Table_Do_2 o p_b1) ((⟨5,([]:List UInt8)⟩:api_Answer),p_b1) r))∧((isL x4)=false→(RunS (bexec C KK 147 WJ62_bbbabkbfbta) 2 [(0,(.ptr (some (0,0)))),(3,(.ptr (some (2,0)))),(4,(.ptr (some (3,0)))),(5,(.int .i64 x2.1)),(6,(.bool x2.2))] [(some (.cells [(.acc 1 0 2 p_b1.length true)] false false)),(some (.cells (F_api_Pair p_b1) false true)),(some (.cells (e_api_Op o) false false)),(some (.cells (e_api_Answer (⟨0,([]:List UInt8)⟩:api_Answer)) false false))] .normal [(0,(.ptr (some (0,0)))),(3,(.ptr (some (2,0)))),(4,(.ptr (some (3,0)))),(5,(.int .i64 x2.1)),(6,(.bool x2.2))] [(some (.cells [(.acc 1 0 2 p_b1.length true)] false false)),(some (.cells (F_api_Pair p_b1) false true)),(some (.cells (e_api_Op o) false false)),(some (.cells (e_api_Answer (⟨0,([]:List UInt8)⟩:api_Answer)) false false))]∧(wP (.slice 2 (.c (.acc 1 0 2 p_b1.length true)) none (some (.c (.int .i64 x2.1))) none)=some (.acc 1 0 2 x6.length false)∧(0+x6.length=x6.length∧(F_api_Pair [] ++ ((F_api_Pair p_b1).drop (0)).take (x6.length * 2)=F_api_Pair x6∧(fitsB 32 x6.length=true∧(x6.length+1=(x6 ++ [(⟨o.Key,o.Value⟩:api_Pair)]).length∧(F_api_Pair x6 ++ F_api_Pair ([(⟨o.Key,o.Value⟩:api_Pair)])=F_api_Pair (x6 ++ [(⟨o.Key,o.Value⟩:api_Pair)])∧(fitsB 32 (x6 ++ [(⟨o.Key,o.Value⟩:api_Pair)]).length=true∧(RunS (bexec C KK 147 WJ62_bbbabkbfbtbbba) 2 [(0,(.ptr (some (0,0)))),(4,(.ptr (some (2,0)))),(5,(.int .i64 x2.1)),(6,(.bool x2.2)),(7,(.acc 3 0 2 (x6 ++ [(⟨o.Key,o.Value⟩:api_Pair)]).length true))] [(some (.cells [(.acc 1 0 2 p_b1.length true)] false false)),(some (.cells (F_api_Pair p_b1) false true)),(some (.cells (e_api_Answer (⟨0,([]:List UInt8)⟩:api_Answer)) false false)),(some (.cells (F_api_Pair (x6 ++ [(⟨o.Key,o.Value⟩:api_Pair)])) false true))] .normal [(0,(.ptr (some (0,0)))),(4,(.ptr (some (2,0)))),(5,(.int .i64 x9)),(7,(.acc 3 0 2 (x6 ++ [(⟨o.Key,o.Value⟩:api_Pair)]).length true))] [(some (.cells [(.acc 1 0 2 p_b1.length true)] false false)),(some (.cells (F_api_Pair p_b1) false true)),(some (.cells (e_api_Answer (⟨0,([]:List UInt8)⟩:api_Answer)) false false)),(some (.cells (F_api_Pair (x6 ++ [(⟨o.Key,o.Value⟩:api_Pair)])) false true))]∧(wP (.slice 2 (.c (.acc 1 0 2 p_b1.length true)) (some (.c (.int .i64 x9))) none none)=some (.acc 1 (0+x9.toNat * 2) 2 x10.length false)∧((x6 ++ [(⟨o.Key,o.Value⟩:api_Pair)]).length+x10.length=((x6 ++ [(⟨o.Key,o.Value⟩:api_Pair)]) ++ x10).length∧(F_api_Pair (x6 ++ [(⟨o.Key,o.Value⟩:api_Pair)]) ++ ((F_api_Pair p_b1).drop (0+x9.toNat * 2)).take (x10.length * 2)=F_api_Pair ((x6 ++ [(⟨o.Key,o.Value⟩:api_Pair)]) ++ x10)∧(fitsB 32 ((x6 ++ [(⟨o.Key,o.Value⟩:api_Pair)]) ++ x10).length=true∧lff (out_oR_Table_Do_2 o p_b1) ((⟨0,([]:List UInt8)⟩:api_Answer),((x6 ++ [(⟨o.Key,o.Value⟩:api_Pair)]) ++ x10)) r))))))))))))))))∧((o.Kind == 2)=false→(((o.Kind == 3)=true→(((!x2.2)=true→lff (out_oR_Table_Do_2 o p_b1) ((⟨4,([]:List UInt8)⟩:api_Answer),p_b1) r)∧((!x2.2)=false→(wP (.slice 2 (.c (.acc 1 0 2 p_b1.length true)) none (some (.c (.int .i64 x2.1))) none)=some (.acc 1 0 2 x12.length false)∧(0+x12.length=x12.length∧(F_api_Pair [] ++ ((F_api_Pair p_b1).drop (0)).take (x12.length * 2)=F_api_Pair x12∧(fitsB 32 x12.length=true∧(wP (.slice 2 (.c (.acc 1 0 2 p_b1.length true)) (some (.c (.int .i64 (IntKind.i64.wrap (x2.1+1))))) none none)=some (.acc 1 (0+(IntKind.i64.wrap (x2.1+1)).toNat * 2) 2 x14.length false)∧(x12.length+x14.length=(x12 ++ x14).length∧(F_api_Pair x12 ++ ((F_api_Pair p_b1).drop (0+(IntKind.i64.wrap (x2.1+1)).toNat * 2)).take (x14.length * 2)=F_api_Pair (x12 ++ x14)∧(fitsB 32 (x12 ++ x14).length=true∧lff (out_oR_Table_Do_2 o p_b1) ((⟨0,([]:List UInt8)⟩:api_Answer),(x12 ++ x14)) r)))))))))))∧((o.Kind == 3)=false→(((!x2.2)=true→lff (out_oR_Table_Do_2 o p_b1) ((⟨4,([]:List UInt8)⟩:api_Answer),p_b1) r)∧((!x2.2)=false→(wP (.idxSlice 2 (.c (.acc 1 0 2 p_b1.length true)) (.c (.int .i64 x2.1)))=some (.ptr (some (1,0+x2.1.toNat * 2)))∧(cPart false (0+x2.1.toNat * 2+1) 1 (F_api_Pair p_b1)=some (.str x16.Value)∧(((!(x16.Value == o.Old))=true→(wP (.idxSlice 2 (.c (.acc 1 0 2 p_b1.length true)) (.c (.int .i64 x2.1)))=some (.ptr (some (1,0+x2.1.toNat * 2)))∧(cPart false (0+x2.1.toNat * 2+1) 1 (F_api_Pair p_b1)=some (.str x17.Value)∧lff (out_oR_Table_Do_2 o p_b1) ((⟨6,x17.Value⟩:api_Answer),p_b1) r)))∧((!(x16.Value == o.Old))=false→(0+p_b1.length=p_b1.length∧(F_api_Pair [] ++ F_api_Pair p_b1=F_api_Pair p_b1∧(fitsB 32 p_b1.length=true∧(wP (.idxSlice 2 (.c (.acc 5 0 2 p_b1.length true)) (.c (.int .i64 x2.1)))=some (.ptr (some (5,0+x2.1.toNat * 2)))∧(wrC (F_api_Pair p_b1) (0+x2.1.toNat * 2+1) [(.str o.Value)]=some (F_api_Pair (p_b1.set x2.1.toNat (⟨x19.Key,o.Value⟩:api_Pair)))∧(@Eq AV (.agg (e_api_Answer (⟨0,([]:List UInt8)⟩:api_Answer))) (out_oR_Table_Do_2 o p_b1 r).1∧@Eq WH [(some (.cells [(.acc 2 0 2 p_b1.length true)] false false)),none,(some (.cells (F_api_Pair (p_b1.set x2.1.toNat (⟨x19.Key,o.Value⟩:api_Pair))) false true))] (out_oR_Table_Do_2 o p_b1 r).2)))))))))))))))))))))))):=fun C=>by kernel_rfl
  refine spec_of (fun _ _ h=>by cases h) rfl atab_62 WF62_ok ((e _).mpr ⟨rfl,by decide, ?_⟩)
  unfold oR_Table_Do_2 at h
  obtain ⟨q1,h⟩:=bget hx1 h
  refine ⟨s_oR_RightOp (d+0) q1, ?_⟩
  refine ⟨fun hb=>?_,fun hb=>?_⟩
  · have h:=cond_t hb h
    exact lff_of h
  · have h:=cond_f hb h
    obtain ⟨q2,h⟩:=bget hx2 h
    refine ⟨s_oR_Table_find_2 (d+0) q2, ?_⟩
    refine ⟨by decide, ?_⟩
    refine ⟨fun hb=>?_,fun hb=>?_⟩
    · have h:=cond_t hb h
      refine ⟨fun hb=>?_,fun hb=>?_⟩
      · have h:=cond_t hb h
        exact lff_of h
      · have h:=cond_f hb h
        obtain ⟨q3,h⟩:=bget hx3 h
        refine ⟨wP_idxA R_api_Pair q3, ?_⟩
        refine ⟨cP_row (o:=1) R_api_Pair q3 rfl, ?_⟩
        exact lff_of h
    · have h:=cond_f hb h
      refine ⟨fun hb=>?_,fun hb=>?_⟩
      · have h:=cond_t hb h
        obtain ⟨q4,h⟩:=bget hx4 h
        refine ⟨fun hb5=>?_,fun hb5=>?_⟩
        · have h:=cond_t hb5 h
          refine ⟨by have h:=s_oR_Table_Do_2_J0 (d+1) q4; rw [isL_t hb5] at h; exact h, ?_⟩
          exact lff_of h
        · have h:=cond_f hb5 h
          refine ⟨by have h:=s_oR_Table_Do_2_J0 (d+1) q4; rw [isL_f hb5] at h; exact h, ?_⟩
          obtain ⟨q6,h⟩:=bget hx6 h
          refine ⟨wP_slA_h R_api_Pair q6, ?_⟩
          try rw [take_row R_api_Pair q6]
          try rw [part_row0 R_api_Pair q6]
          obtain ⟨q7,h⟩:=gd_some h
          refine ⟨by simp, ?_⟩
          refine ⟨by first | rfl | simp [F_api_Pair], ?_⟩
          refine ⟨q7, ?_⟩
          obtain ⟨q8,h⟩:=gd_some h
          refine ⟨by simp, ?_⟩
          refine ⟨(Row.app R_api_Pair _ _).symm, ?_⟩
          refine ⟨q8, ?_⟩
          obtain ⟨q9,h⟩:=bget hx9 h
          refine ⟨s_oR_Table_Do_2_J1 (d+1) q9, ?_⟩
          obtain ⟨q10,h⟩:=bget hx10 h
          refine ⟨wP_slA_l R_api_Pair q10, ?_⟩
          try rw [part_row R_api_Pair q10]
          obtain ⟨q11,h⟩:=gd_some h
          refine ⟨app_len _ _, ?_⟩
          refine ⟨(Row.app R_api_Pair _ _).symm, ?_⟩
          refine ⟨q11, ?_⟩
          exact lff_of h
      · have h:=cond_f hb h
        refine ⟨fun hb=>?_,fun hb=>?_⟩
        · have h:=cond_t hb h
          refine ⟨fun hb=>?_,fun hb=>?_⟩
          · have h:=cond_t hb h
            exact lff_of h
          · have h:=cond_f hb h
            obtain ⟨q12,h⟩:=bget hx12 h
            refine ⟨wP_slA_h R_api_Pair q12, ?_⟩
            try rw [take_row R_api_Pair q12]
            try rw [part_row0 R_api_Pair q12]
            obtain ⟨q13,h⟩:=gd_some h
            refine ⟨by simp, ?_⟩
            refine ⟨by first | rfl | simp [F_api_Pair], ?_⟩
            refine ⟨q13, ?_⟩
            obtain ⟨q14,h⟩:=bget hx14 h
            refine ⟨wP_slA_l R_api_Pair q14, ?_⟩
            try rw [part_row R_api_Pair q14]
            obtain ⟨q15,h⟩:=gd_some h
            refine ⟨app_len _ _, ?_⟩
            refine ⟨(Row.app R_api_Pair _ _).symm, ?_⟩
            refine ⟨q15, ?_⟩
            exact lff_of h
        · have h:=cond_f hb h
          refine ⟨fun hb=>?_,fun hb=>?_⟩
          · have h:=cond_t hb h
            exact lff_of h
          · have h:=cond_f hb h
            obtain ⟨q16,h⟩:=bget hx16 h
            refine ⟨wP_idxA R_api_Pair q16, ?_⟩
            refine ⟨cP_row (o:=1) R_api_Pair q16 rfl, ?_⟩
            refine ⟨fun hb=>?_,fun hb=>?_⟩
            · have h:=cond_t hb h
              obtain ⟨q17,h⟩:=bget hx17 h
              refine ⟨wP_idxA R_api_Pair q17, ?_⟩
              refine ⟨cP_row (o:=1) R_api_Pair q17 rfl, ?_⟩
              exact lff_of h
            · have h:=cond_f hb h
              obtain ⟨q18,h⟩:=gd_some h
              refine ⟨by simp, ?_⟩
              refine ⟨by first | rfl | simp [F_api_Pair], ?_⟩
              refine ⟨q18, ?_⟩
              obtain ⟨q19,h⟩:=bget hx19 h
              refine ⟨wP_idxA R_api_Pair q19, ?_⟩
              refine ⟨wr_row (o:=1) R_api_Pair q19 rfl, ?_⟩
              try rw [show AV.list 2 p_b1.length (F_api_Pair (p_b1.set x2.1.toNat (⟨x19.Key,o.Value⟩:api_Pair))) false=l_api_Pair (p_b1.set x2.1.toNat (⟨x19.Key,o.Value⟩:api_Pair)) from by simp only [l_api_Pair,List.length_set]]
              obtain rfl:=Option.some.inj h
              refine ⟨?_, ?_⟩ <;> first | rfl | (simp only [out_oR_Table_Do_2,List.length_set,List.length_append,List.length_replicate,List.length_cons,List.length_nil,List.length_take,List.length_drop,Nat.add_zero,Nat.zero_add]; done) | simp [out_oR_Table_Do_2]
end Go.Proofs.Ytachollgbplikaa
