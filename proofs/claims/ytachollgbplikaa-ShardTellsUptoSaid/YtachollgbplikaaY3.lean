import Derived.Test.YtachollgbplikaaXt
import Derived.Test.YtachollgbplikaaXs
import Derived.Test.YtachollgbplikaaY2
set_option linter.all false
set_option maxRecDepth 100000
namespace Go.Proofs.Ytachollgbplikaa
abbrev in_shard_Right_J0 (p_x:api_Image):Fast × WH:=([(1,(.ptr (some (0,0))))],[(some (.cells (e_api_Image p_x) false false))])
def fin_shard_Right_J0 (p_x:api_Image):Unit ⊕ Unit→Ex × Fast × WH:=fun
  | .inl e=>(.ret,[(2,(.bool false))],[])
  | .inr e=>(.normal,[(1,(.ptr (some (0,0))))],[(some (.cells (e_api_Image p_x) false false))])
def shard_Right_J0 (p_x:api_Image):Option (Unit ⊕ Unit) :=
  cond (decide (p_x.Shard < 0)) (some (.inl ())) (cond (decide (p_x.Shard ≥ 6)) (some (.inl ())) (cond (decide (p_x.Epoch < 1)) (some (.inl ())) (cond (decide (p_x.Epoch > 1099511627776)) (some (.inl ())) (some (.inr ())))))
theorem s_shard_Right_J0 (d:Nat) {p_x:api_Image} {r:Unit ⊕ Unit} (h:shard_Right_J0 p_x=some r):RunX (bexec (wcalls atab (d+0)) KK 44 WJ73_ba) 0 (in_shard_Right_J0 p_x) (fin_shard_Right_J0 p_x r):=by
  have e:∀ C:ACalls,wCode C (fun _=>none) KK 44 0 WJ73_ba (in_shard_Right_J0 p_x).1 (in_shard_Right_J0 p_x).2 (.br 8 (.en [2] [none] [] []) (.br 13 (.en [2] [none] [] []) (.br 18 (.en [2] [none] [] []) (.br 22 (.en [2] [none] [] []) (.en [1] [none] [] []))))) (fin_shard_Right_J0 p_x r)=(((decide (p_x.Shard < 0))=true→lfe (fin_shard_Right_J0 p_x) (.inl ()) r)∧((decide (p_x.Shard < 0))=false→(((decide (p_x.Shard ≥ 6))=true→lfe (fin_shard_Right_J0 p_x) (.inl ()) r)∧((decide (p_x.Shard ≥ 6))=false→(((decide (p_x.Epoch < 1))=true→lfe (fin_shard_Right_J0 p_x) (.inl ()) r)∧((decide (p_x.Epoch < 1))=false→(((decide (p_x.Epoch > 1099511627776))=true→lfe (fin_shard_Right_J0 p_x) (.inl ()) r)∧((decide (p_x.Epoch > 1099511627776))=false→lfe (fin_shard_Right_J0 p_x) (.inr ()) r)))))))):=fun C=>by kernel_rfl
  refine runS_of (fun _ _ h=>by cases h) WJ73_ba_ok (Nat.le_of_ble_eq_true rfl) ((e _).mpr ?_)
  unfold shard_Right_J0 at h
  refine ⟨fun hb=>?_,fun hb=>?_⟩
  · have h:=cond_t hb h
    exact lfe_of h
  · have h:=cond_f hb h
    refine ⟨fun hb=>?_,fun hb=>?_⟩
    · have h:=cond_t hb h
      exact lfe_of h
    · have h:=cond_f hb h
      refine ⟨fun hb=>?_,fun hb=>?_⟩
      · have h:=cond_t hb h
        exact lfe_of h
      · have h:=cond_f hb h
        refine ⟨fun hb=>?_,fun hb=>?_⟩
        · have h:=cond_t hb h
          exact lfe_of h
        · have h:=cond_f hb h
          exact lfe_of h
abbrev in_shard_Right_J1 (x3:shard_Shard) (p_x:api_Image):Fast × WH:=([(1,(.ptr (some (0,0)))),(3,(.ptr (some (1,0))))],[(some (.cells (e_api_Image p_x) false false)),(some (.cells (e_shard_Shard x3) false false))])
def fin_shard_Right_J1 (x3:shard_Shard) (p_x:api_Image):Bool→Ex × Fast × WH:=fun e=>(.normal,[(1,(.ptr (some (0,0)))),(4,(.bool e))],[(some (.cells (e_api_Image p_x) false false))])
def shard_Right_J1 (x3:shard_Shard) (p_x:api_Image):Option (Bool) :=
  (table_Table_Pairs x3).bind fun (x4:List api_Pair)=>(slices_Equal_api_Pair_api_Pair x4 p_x.Pairs).bind fun (x5:Bool)=>cond x5 ((session_Sessions_All x3).bind fun (x6:List api_Sess)=>(slices_Equal_api_Sess_api_Sess x6 p_x.Sess).bind fun (x7:Bool)=>some x7) (some false)
theorem s_shard_Right_J1 (d:Nat) {x3:shard_Shard} {p_x:api_Image} {r:Bool} (h:shard_Right_J1 x3 p_x=some r):RunX (bexec (wcalls atab (d+2)) KK 44 WJ73_bbba) 0 (in_shard_Right_J1 x3 p_x) (fin_shard_Right_J1 x3 p_x r):=by
  obtain ⟨x4,hx4⟩:=wx (table_Table_Pairs x3)
  obtain ⟨x5,hx5⟩:=wx (slices_Equal_api_Pair_api_Pair x4 p_x.Pairs)
  obtain ⟨x6,hx6⟩:=wx (session_Sessions_All x3)
  obtain ⟨x7,hx7⟩:=wx (slices_Equal_api_Sess_api_Sess x6 p_x.Sess)
  have e:∀ C:ACalls,wCode C (fun _=>none) KK 44 0 WJ73_bbba (in_shard_Right_J1 x3 p_x).1 (in_shard_Right_J1 x3 p_x).2 (.call [] (some false) [] (l_api_Pair x4) [(some (.cells (e_shard_Shard x3) false false))] (.cb [] [.slice none 2 0 0 true,.slice none 2 0 0 true] (.bool x5) (.br 30 (.call [] (some false) [] (l_api_Sess x6) [(some (.cells (e_shard_Shard x3) false false))] (.cb [] [.slice none 4 0 0 true,.slice none 4 0 0 true] (.bool x7) (.en [1,4] [none,none] [] []))) (.en [1,4] [none,none] [] [])))) (fin_shard_Right_J1 x3 p_x r)=(Spec C 54 [(.ptr (some (0,0)))] [(some (.cells (e_shard_Shard x3) false false))] (l_api_Pair x4) [(some (.cells (e_shard_Shard x3) false false))]∧(1≤1∧(Spec C 108 [(l_api_Pair x4),(l_api_Pair p_x.Pairs)] [] (.bool x5) []∧((x5=true→(Spec C 107 [(.ptr (some (0,1)))] [(some (.cells (e_shard_Shard x3) false false))] (l_api_Sess x6) [(some (.cells (e_shard_Shard x3) false false))]∧(1≤1∧(Spec C 109 [(l_api_Sess x6),(l_api_Sess p_x.Sess)] [] (.bool x7) []∧lfe (fin_shard_Right_J1 x3 p_x) x7 r))))∧(x5=false→lfe (fin_shard_Right_J1 x3 p_x) false r))))):=fun C=>by kernel_rfl
  refine runS_of (fun _ _ h=>by cases h) WJ73_bbba_ok (Nat.le_of_ble_eq_true rfl) ((e _).mpr ?_)
  unfold shard_Right_J1 at h
  obtain ⟨q4,h⟩:=bget hx4 h
  refine ⟨s_table_Table_Pairs (d+0) q4, ?_⟩
  refine ⟨by decide, ?_⟩
  obtain ⟨q5,h⟩:=bget hx5 h
  refine ⟨s_slices_Equal_api_Pair_api_Pair (d+1) q5, ?_⟩
  refine ⟨fun hb=>?_,fun hb=>?_⟩
  · have h:=cond_t hb h
    obtain ⟨q6,h⟩:=bget hx6 h
    refine ⟨s_session_Sessions_All (d+0) q6, ?_⟩
    refine ⟨by decide, ?_⟩
    obtain ⟨q7,h⟩:=bget hx7 h
    refine ⟨s_slices_Equal_api_Sess_api_Sess (d+1) q7, ?_⟩
    exact lfe_of h
  · have h:=cond_f hb h
    exact lfe_of h
def shard_Right (p_x:api_Image):Option (Bool) :=
  (shard_Right_J0 p_x).bind fun (x1:Unit ⊕ Unit)=>cond (isL x1) (some false) ((shard_Of p_x).bind fun (x3:shard_Shard)=>(shard_Right_J1 x3 p_x).bind fun (x8:Bool)=>cond x8 ((slices_ContainsFunc_api_Sess_api_Sess p_x.Sess).bind fun (x9:Bool)=>some (!x9)) (some false))
def out_shard_Right (p_x:api_Image) (r:Bool):AV × WH:=((.bool r),[])
theorem s_shard_Right (d:Nat) {p_x:api_Image} {r:Bool} (h:shard_Right p_x=some r):Spec (wcalls atab (d+9)) 73 [(.agg (e_api_Image p_x))] [] (out_shard_Right p_x r).1 (out_shard_Right p_x r).2:=by
  obtain ⟨x1,hx1⟩:=wx (shard_Right_J0 p_x)
  obtain ⟨x3,hx3⟩:=wx (shard_Of p_x)
  obtain ⟨x8,hx8⟩:=wx (shard_Right_J1 x3 p_x)
  obtain ⟨x9,hx9⟩:=wx (slices_ContainsFunc_api_Sess_api_Sess p_x.Sess)
  have e:∀ C:ACalls,wBody C (fun _=>none) KK WF73 [(.agg (e_api_Image p_x))] [] (.sk (.ite (isL x1) (.jn [1] [none] [] [] .ret [(2,(.bool false))] [] (.fin (some false) [] none)) (.jn [1] [none] [] [] .normal [(1,(.ptr (some (0,0))))] [(some (.cells (e_api_Image p_x) false false))] (.call [] (some false) [.agg [.undef,.undef,.slice none 2 0 0 true,.slice none 4 0 0 true]] (.agg (e_shard_Shard x3)) [] (.z 3 [.slice none 2 0 0 true,.undef,.undef,.undef,.undef,.undef,.undef,.undef,.undef,.undef,.undef,.undef,.undef,.undef,.undef,.undef,.undef,.undef,.undef] (.st none (.jn [1,3] [none,none] [] [] .normal [(1,(.ptr (some (0,0)))),(4,(.bool x8))] [(some (.cells (e_api_Image p_x) false false))] (.br 38 (.cb [] [.slice none 4 0 0 true] (.bool x9) (.fin (some false) [] none)) (.fin (some false) [] none))))))))) (out_shard_Right p_x r).1 (out_shard_Right p_x r).2=(1=1∧1≤44∧(((isL x1)=true→(RunS (bexec C KK 44 WJ73_ba) 0 [(1,(.ptr (some (0,0))))] [(some (.cells (e_api_Image p_x) false false))] .ret [(2,(.bool false))] []∧lff (out_shard_Right p_x) false r))∧((isL x1)=false→(RunS (bexec C KK 44 WJ73_ba) 0 [(1,(.ptr (some (0,0))))] [(some (.cells (e_api_Image p_x) false false))] .normal [(1,(.ptr (some (0,0))))] [(some (.cells (e_api_Image p_x) false false))]∧(Spec C 65 [(.agg (e_api_Image p_x))] [] (.agg (e_shard_Shard x3)) []∧(0≤0∧(RunS (bexec C KK 44 WJ73_bbba) 0 [(1,(.ptr (some (0,0)))),(3,(.ptr (some (1,0))))] [(some (.cells (e_api_Image p_x) false false)),(some (.cells (e_shard_Shard x3) false false))] .normal [(1,(.ptr (some (0,0)))),(4,(.bool x8))] [(some (.cells (e_api_Image p_x) false false))]∧((x8=true→(Spec C 110 [(l_api_Sess p_x.Sess),(.func 111 [])] [] (.bool x9) []∧lff (out_shard_Right p_x) (!x9) r))∧(x8=false→lff (out_shard_Right p_x) false r))))))))):=fun C=>by kernel_rfl
  refine spec_of (fun _ _ h=>by cases h) rfl atab_73 WF73_ok ((e _).mpr ⟨rfl,by decide, ?_⟩)
  unfold shard_Right at h
  obtain ⟨q1,h⟩:=bget hx1 h
  refine ⟨fun hb2=>?_,fun hb2=>?_⟩
  · have h:=cond_t hb2 h
    refine ⟨by have h:=s_shard_Right_J0 (d+8) q1; rw [isL_t hb2] at h; exact h, ?_⟩
    exact lff_of h
  · have h:=cond_f hb2 h
    refine ⟨by have h:=s_shard_Right_J0 (d+8) q1; rw [isL_f hb2] at h; exact h, ?_⟩
    obtain ⟨q3,h⟩:=bget hx3 h
    refine ⟨s_shard_Of (d+0) q3, ?_⟩
    refine ⟨by decide, ?_⟩
    obtain ⟨q8,h⟩:=bget hx8 h
    refine ⟨s_shard_Right_J1 (d+6) q8, ?_⟩
    refine ⟨fun hb=>?_,fun hb=>?_⟩
    · have h:=cond_t hb h
      obtain ⟨q9,h⟩:=bget hx9 h
      refine ⟨s_slices_ContainsFunc_api_Sess_api_Sess (d+4) q9, ?_⟩
      exact lff_of h
    · have h:=cond_f hb h
      exact lff_of h
abbrev in_oR_RightOp_J0 (o:api_Op):Fast × WH:=([(1,(.ptr (some (0,0))))],[(some (.cells (e_api_Op o) false false))])
def fin_oR_RightOp_J0 (o:api_Op):Unit ⊕ Unit→Ex × Fast × WH:=fun
  | .inl e=>(.ret,[(2,(.bool false))],[])
  | .inr e=>(.normal,[(1,(.ptr (some (0,0))))],[(some (.cells (e_api_Op o) false false))])
def oR_RightOp_J0 (o:api_Op):Option (Unit ⊕ Unit) :=
  cond (decide (o.Kind < 1)) (some (.inl ())) (cond (decide (o.Kind > 4)) (some (.inl ())) (cond (decide ((o.Key.length:Int) < 1)) (some (.inl ())) (cond (decide ((o.Key.length:Int) > 8)) (some (.inl ())) (cond (decide ((o.Value.length:Int) > 16)) (some (.inl ())) (cond (decide ((o.Old.length:Int) > 16)) (some (.inl ())) (some (.inr ())))))))
theorem s_oR_RightOp_J0 (d:Nat) {o:api_Op} {r:Unit ⊕ Unit} (h:oR_RightOp_J0 o=some r):RunX (bexec (wcalls atab (d+0)) KK 58 WJ63_ba) 0 (in_oR_RightOp_J0 o) (fin_oR_RightOp_J0 o r):=by
  have e:∀ C:ACalls,wCode C (fun _=>none) KK 58 0 WJ63_ba (in_oR_RightOp_J0 o).1 (in_oR_RightOp_J0 o).2 (.br 6 (.en [2] [none] [] []) (.br 11 (.en [2] [none] [] []) (.br 17 (.en [2] [none] [] []) (.br 23 (.en [2] [none] [] []) (.br 29 (.en [2] [none] [] []) (.br 34 (.en [2] [none] [] []) (.en [1] [none] [] []))))))) (fin_oR_RightOp_J0 o r)=(((decide (o.Kind < 1))=true→lfe (fin_oR_RightOp_J0 o) (.inl ()) r)∧((decide (o.Kind < 1))=false→(((decide (o.Kind > 4))=true→lfe (fin_oR_RightOp_J0 o) (.inl ()) r)∧((decide (o.Kind > 4))=false→(((decide ((o.Key.length:Int) < 1))=true→lfe (fin_oR_RightOp_J0 o) (.inl ()) r)∧((decide ((o.Key.length:Int) < 1))=false→(((decide ((o.Key.length:Int) > 8))=true→lfe (fin_oR_RightOp_J0 o) (.inl ()) r)∧((decide ((o.Key.length:Int) > 8))=false→(((decide ((o.Value.length:Int) > 16))=true→lfe (fin_oR_RightOp_J0 o) (.inl ()) r)∧((decide ((o.Value.length:Int) > 16))=false→(((decide ((o.Old.length:Int) > 16))=true→lfe (fin_oR_RightOp_J0 o) (.inl ()) r)∧((decide ((o.Old.length:Int) > 16))=false→lfe (fin_oR_RightOp_J0 o) (.inr ()) r)))))))))))):=fun C=>by kernel_rfl
  refine runS_of (fun _ _ h=>by cases h) WJ63_ba_ok (Nat.le_of_ble_eq_true rfl) ((e _).mpr ?_)
  unfold oR_RightOp_J0 at h
  refine ⟨fun hb=>?_,fun hb=>?_⟩
  · have h:=cond_t hb h
    exact lfe_of h
  · have h:=cond_f hb h
    refine ⟨fun hb=>?_,fun hb=>?_⟩
    · have h:=cond_t hb h
      exact lfe_of h
    · have h:=cond_f hb h
      refine ⟨fun hb=>?_,fun hb=>?_⟩
      · have h:=cond_t hb h
        exact lfe_of h
      · have h:=cond_f hb h
        refine ⟨fun hb=>?_,fun hb=>?_⟩
        · have h:=cond_t hb h
          exact lfe_of h
        · have h:=cond_f hb h
          refine ⟨fun hb=>?_,fun hb=>?_⟩
          · have h:=cond_t hb h
            exact lfe_of h
          · have h:=cond_f hb h
            refine ⟨fun hb=>?_,fun hb=>?_⟩
            · have h:=cond_t hb h
              exact lfe_of h
            · have h:=cond_f hb h
              exact lfe_of h
def oR_RightOp (o:api_Op):Option (Bool) :=
  (oR_RightOp_J0 o).bind fun (x1:Unit ⊕ Unit)=>cond (isL x1) (some false) (cond (o.Value == ([]:List UInt8)) (cond (o.Old == ([]:List UInt8)) (some true) (some (o.Kind == 4))) (cond (o.Kind == 2) (cond (o.Old == ([]:List UInt8)) (some true) (some (o.Kind == 4))) (cond (o.Kind == 4) (cond (o.Old == ([]:List UInt8)) (some true) (some (o.Kind == 4))) (some false))))
def out_oR_RightOp (o:api_Op) (r:Bool):AV × WH:=((.bool r),[])
theorem s_oR_RightOp (d:Nat) {o:api_Op} {r:Bool} (h:oR_RightOp o=some r):Spec (wcalls atab (d+1)) 63 [(.agg (e_api_Op o))] [] (out_oR_RightOp o r).1 (out_oR_RightOp o r).2:=by
  obtain ⟨x1,hx1⟩:=wx (oR_RightOp_J0 o)
  have e:∀ C:ACalls,wBody C (fun _=>none) KK WF63 [(.agg (e_api_Op o))] [] (.sk (.ite (isL x1) (.jn [1] [none] [] [] .ret [(2,(.bool false))] [] (.fin (some false) [] none)) (.jn [1] [none] [] [] .normal [(1,(.ptr (some (0,0))))] [(some (.cells (e_api_Op o) false false))] (.br 38 (.br 52 (.fin (some false) [] none) (.fin (some false) [] none)) (.br 43 (.br 52 (.fin (some false) [] none) (.fin (some false) [] none)) (.br 48 (.br 52 (.fin (some false) [] none) (.fin (some false) [] none)) (.fin (some false) [] none))))))) (out_oR_RightOp o r).1 (out_oR_RightOp o r).2=(1=1∧1≤58∧(((isL x1)=true→(RunS (bexec C KK 58 WJ63_ba) 0 [(1,(.ptr (some (0,0))))] [(some (.cells (e_api_Op o) false false))] .ret [(2,(.bool false))] []∧lff (out_oR_RightOp o) false r))∧((isL x1)=false→(RunS (bexec C KK 58 WJ63_ba) 0 [(1,(.ptr (some (0,0))))] [(some (.cells (e_api_Op o) false false))] .normal [(1,(.ptr (some (0,0))))] [(some (.cells (e_api_Op o) false false))]∧(((o.Value == ([]:List UInt8))=true→(((o.Old == ([]:List UInt8))=true→lff (out_oR_RightOp o) true r)∧((o.Old == ([]:List UInt8))=false→lff (out_oR_RightOp o) (o.Kind == 4) r)))∧((o.Value == ([]:List UInt8))=false→(((o.Kind == 2)=true→(((o.Old == ([]:List UInt8))=true→lff (out_oR_RightOp o) true r)∧((o.Old == ([]:List UInt8))=false→lff (out_oR_RightOp o) (o.Kind == 4) r)))∧((o.Kind == 2)=false→(((o.Kind == 4)=true→(((o.Old == ([]:List UInt8))=true→lff (out_oR_RightOp o) true r)∧((o.Old == ([]:List UInt8))=false→lff (out_oR_RightOp o) (o.Kind == 4) r)))∧((o.Kind == 4)=false→lff (out_oR_RightOp o) false r)))))))))):=fun C=>by kernel_rfl
  refine spec_of (fun _ _ h=>by cases h) rfl atab_63 WF63_ok ((e _).mpr ⟨rfl,by decide, ?_⟩)
  unfold oR_RightOp at h
  obtain ⟨q1,h⟩:=bget hx1 h
  refine ⟨fun hb2=>?_,fun hb2=>?_⟩
  · have h:=cond_t hb2 h
    refine ⟨by have h:=s_oR_RightOp_J0 (d+0) q1; rw [isL_t hb2] at h; exact h, ?_⟩
    exact lff_of h
  · have h:=cond_f hb2 h
    refine ⟨by have h:=s_oR_RightOp_J0 (d+0) q1; rw [isL_f hb2] at h; exact h, ?_⟩
    refine ⟨fun hb=>?_,fun hb=>?_⟩
    · have h:=cond_t hb h
      refine ⟨fun hb=>?_,fun hb=>?_⟩
      · have h:=cond_t hb h
        exact lff_of h
      · have h:=cond_f hb h
        exact lff_of h
    · have h:=cond_f hb h
      refine ⟨fun hb=>?_,fun hb=>?_⟩
      · have h:=cond_t hb h
        refine ⟨fun hb=>?_,fun hb=>?_⟩
        · have h:=cond_t hb h
          exact lff_of h
        · have h:=cond_f hb h
          exact lff_of h
      · have h:=cond_f hb h
        refine ⟨fun hb=>?_,fun hb=>?_⟩
        · have h:=cond_t hb h
          refine ⟨fun hb=>?_,fun hb=>?_⟩
          · have h:=cond_t hb h
            exact lff_of h
          · have h:=cond_f hb h
            exact lff_of h
        · have h:=cond_f hb h
          exact lff_of h
def st_oR_Table_find_2_L0 (p_b1:List api_Pair) (key:List UInt8) (s3:Int):List AV × WH:=([(.ptr (some (0,0))),(.str key),(.int .i64 s3)],[(some (.cells [(.acc 1 0 2 p_b1.length true)] false false)),(some (.cells (F_api_Pair p_b1) false true))])
def fin_oR_Table_find_2_L0 (p_b1:List api_Pair) (key:List UInt8):(Int × Bool) ⊕ Unit→Ex × Fast × WH:=fun
  | .inl e=>(.ret,[(4,(.int .i64 e.1)),(5,(.bool e.2))],[(some (.cells [(.acc 1 0 2 p_b1.length true)] false false)),(some (.cells (F_api_Pair p_b1) false true))])
  | .inr e=>((.exit 0),[(0,(.ptr (some (0,0))))],[(some (.cells [(.acc 1 0 2 p_b1.length true)] false false)),(some (.cells (F_api_Pair p_b1) false true))])
abbrev rx_oR_Table_find_2_L0 (p_b1:List api_Pair) (key:List UInt8):=roundX [0,1,6] (st_oR_Table_find_2_L0 p_b1 key) (fin_oR_Table_find_2_L0 p_b1 key)
def oR_Table_find_2_L0_s (p_b1:List api_Pair) (key:List UInt8) (s3:Int):Option ((Int) ⊕ ((Int × Bool) ⊕ Unit)) :=
  cond (decide (s3 < (p_b1.length:Int))) ((getI p_b1 s3).bind fun (x4:api_Pair)=>cond (!(Op.bytesLess x4.Key key)) ((getI p_b1 s3).bind fun (x5:api_Pair)=>some (.inr (.inl (s3,(x5.Key == key))))) (some (.inl (IntKind.i64.wrap (s3+1))))) (some (.inr (.inr ())))
def oR_Table_find_2_L0 (p_b1:List api_Pair) (key:List UInt8) (s3:Int):Option ((Int × Bool) ⊕ Unit):=loopX (oR_Table_find_2_L0_s p_b1 key) KK s3
theorem b_oR_Table_find_2_L0 (d:Nat) {p_b1:List api_Pair} {key:List UInt8} {s3:Int} {r:(Int) ⊕ ((Int × Bool) ⊕ Unit)} (h:oR_Table_find_2_L0_s p_b1 key s3=some r):RunX (bexec (wcalls atab (d+0)) KK 42 WB104_0) 2 (inL [0,1,6] (st_oR_Table_find_2_L0 p_b1 key s3)) (rx_oR_Table_find_2_L0 p_b1 key r):=by
  obtain ⟨x4,hx4⟩:=wx (getI p_b1 s3)
  obtain ⟨x5,hx5⟩:=wx (getI p_b1 s3)
  have e:∀ C:ACalls,wCode C (fun _=>none) KK 42 2 WB104_0 (inL [0,1,6] (st_oR_Table_find_2_L0 p_b1 key s3)).1 (inL [0,1,6] (st_oR_Table_find_2_L0 p_b1 key s3)).2 (.br 13 (.v 21 (.ptr (some (1,0+s3.toNat * 2))) (.v 23 (.str x4.Key) (.br 25 (.v 32 (.ptr (some (1,0+s3.toNat * 2))) (.v 34 (.str x5.Key) (.en [4,5] [none,none] [] []))) (.en [0,1,6] [none,none,none] [] [])))) (.en [0] [none] [] [])) (rx_oR_Table_find_2_L0 p_b1 key r)=(((decide (s3 < (p_b1.length:Int)))=true→(wP (.idxSlice 2 (.c (.acc 1 0 2 p_b1.length true)) (.c (.int .i64 s3)))=some (.ptr (some (1,0+s3.toNat * 2)))∧(cPart false (0+s3.toNat * 2) 1 (F_api_Pair p_b1)=some (.str x4.Key)∧(((!(Op.bytesLess x4.Key key))=true→(wP (.idxSlice 2 (.c (.acc 1 0 2 p_b1.length true)) (.c (.int .i64 s3)))=some (.ptr (some (1,0+s3.toNat * 2)))∧(cPart false (0+s3.toNat * 2) 1 (F_api_Pair p_b1)=some (.str x5.Key)∧lfe (rx_oR_Table_find_2_L0 p_b1 key) (.inr (.inl (s3,(x5.Key == key)))) r)))∧((!(Op.bytesLess x4.Key key))=false→lfe (rx_oR_Table_find_2_L0 p_b1 key) (.inl (IntKind.i64.wrap (s3+1))) r)))))∧((decide (s3 < (p_b1.length:Int)))=false→lfe (rx_oR_Table_find_2_L0 p_b1 key) (.inr (.inr ())) r)):=fun C=>by kernel_rfl
  refine runS_of (fun _ _ h=>by cases h) WB104_0_ok (Nat.le_of_ble_eq_true rfl) ((e _).mpr ?_)
  unfold oR_Table_find_2_L0_s at h
  refine ⟨fun hb=>?_,fun hb=>?_⟩
  · have h:=cond_t hb h
    obtain ⟨q4,h⟩:=bget hx4 h
    refine ⟨wP_idxA R_api_Pair q4, ?_⟩
    refine ⟨cP_row (o:=0) R_api_Pair q4 rfl, ?_⟩
    refine ⟨fun hb=>?_,fun hb=>?_⟩
    · have h:=cond_t hb h
      obtain ⟨q5,h⟩:=bget hx5 h
      refine ⟨wP_idxA R_api_Pair q5, ?_⟩
      refine ⟨cP_row (o:=0) R_api_Pair q5 rfl, ?_⟩
      exact lfe_of h
    · have h:=cond_f hb h
      exact lfe_of h
  · have h:=cond_f hb h
    exact lfe_of h
theorem s_oR_Table_find_2_L0 (d:Nat) {p_b1:List api_Pair} {key:List UInt8} {s3:Int} {r:(Int × Bool) ⊕ Unit} (h:oR_Table_find_2_L0 p_b1 key s3=some r):RunX (bloop (bexec (wcalls atab (d+0)) KK 42 WB104_0) [0,1,6] KK) 2 (inL [0,1,6] (st_oR_Table_find_2_L0 p_b1 key s3)) (fin_oR_Table_find_2_L0 p_b1 key r) :=
  loop_of (st:=st_oR_Table_find_2_L0 p_b1 key) (fin:=fin_oR_Table_find_2_L0 p_b1 key) (step:=oR_Table_find_2_L0_s p_b1 key) (fun e=>by rcases e with e | e <;> (intro h; cases h)) (fun s x h=>b_oR_Table_find_2_L0 d h) KK s3 r h
def oR_Table_find_2 (key:List UInt8) (p_b1:List api_Pair):Option (Int × Bool) :=
  (oR_Table_find_2_L0 p_b1 key 0).bind fun (x6:(Int × Bool) ⊕ Unit)=>cond (isL x6) (some ((getL x6).1,(getL x6).2)) (some ((p_b1.length:Int),false))
def out_oR_Table_find_2 (key:List UInt8) (p_b1:List api_Pair) (r:Int × Bool):AV × WH:=((.tuple [(.int .i64 r.1),(.bool r.2)]),[(some (.cells [(.acc 1 0 2 p_b1.length true)] false false)),(some (.cells (F_api_Pair p_b1) false true))])
theorem s_oR_Table_find_2 (d:Nat) {key:List UInt8} {p_b1:List api_Pair} {r:Int × Bool} (h:oR_Table_find_2 key p_b1=some r):Spec (wcalls atab (d+1)) 104 [(.ptr (some (0,0))),(.str key)] [(some (.cells [(.acc 1 0 2 p_b1.length true)] false false)),(some (.cells (F_api_Pair p_b1) false true))] (out_oR_Table_find_2 key p_b1 r).1 (out_oR_Table_find_2 key p_b1 r).2:=by
  obtain ⟨x6,hx6⟩:=wx (oR_Table_find_2_L0 p_b1 key 0)
  have e:∀ C:ACalls,wBody C (fun _=>none) KK WF104 [(.ptr (some (0,0))),(.str key)] [(some (.cells [(.acc 1 0 2 p_b1.length true)] false false)),(some (.cells (F_api_Pair p_b1) false true))] (.ite (isL x6) (.lp [none,none,none] [] [] .ret [(4,(.int .i64 (getL x6).1)),(5,(.bool (getL x6).2))] [(some (.cells [(.acc 1 0 2 p_b1.length true)] false false)),(some (.cells (F_api_Pair p_b1) false true))] (.fin (some false) [] none)) (.lp [none,none,none] [] [] (.exit 0) [(0,(.ptr (some (0,0))))] [(some (.cells [(.acc 1 0 2 p_b1.length true)] false false)),(some (.cells (F_api_Pair p_b1) false true))] (.fin (some false) [] none))) (out_oR_Table_find_2 key p_b1 r).1 (out_oR_Table_find_2 key p_b1 r).2=(2=2∧2≤42∧(((isL x6)=true→(RunS (bloop (bexec C KK 42 WB104_0) [0,1,6] KK) 2 [(0,(.ptr (some (0,0)))),(1,(.str key)),(6,(.int .i64 0))] [(some (.cells [(.acc 1 0 2 p_b1.length true)] false false)),(some (.cells (F_api_Pair p_b1) false true))] .ret [(4,(.int .i64 (getL x6).1)),(5,(.bool (getL x6).2))] [(some (.cells [(.acc 1 0 2 p_b1.length true)] false false)),(some (.cells (F_api_Pair p_b1) false true))]∧lff (out_oR_Table_find_2 key p_b1) ((getL x6).1,(getL x6).2) r))∧((isL x6)=false→(RunS (bloop (bexec C KK 42 WB104_0) [0,1,6] KK) 2 [(0,(.ptr (some (0,0)))),(1,(.str key)),(6,(.int .i64 0))] [(some (.cells [(.acc 1 0 2 p_b1.length true)] false false)),(some (.cells (F_api_Pair p_b1) false true))] (.exit 0) [(0,(.ptr (some (0,0))))] [(some (.cells [(.acc 1 0 2 p_b1.length true)] false false)),(some (.cells (F_api_Pair p_b1) false true))]∧lff (out_oR_Table_find_2 key p_b1) ((p_b1.length:Int),false) r)))):=fun C=>by kernel_rfl
  refine spec_of (fun _ _ h=>by cases h) rfl atab_104 WF104_ok ((e _).mpr ⟨rfl,by decide, ?_⟩)
  unfold oR_Table_find_2 at h
  obtain ⟨q6,h⟩:=bget hx6 h
  refine ⟨fun hb7=>?_,fun hb7=>?_⟩
  · have h:=cond_t hb7 h
    refine ⟨by have h:=s_oR_Table_find_2_L0 (d+0) q6; rw [isL_t hb7] at h; exact h, ?_⟩
    exact lff_of h
  · have h:=cond_f hb7 h
    refine ⟨by have h:=s_oR_Table_find_2_L0 (d+0) q6; rw [isL_f hb7] at h; exact h, ?_⟩
    exact lff_of h
abbrev in_oR_Table_Do_2_J0 (x2:Int × Bool) (p_b1:List api_Pair) (o:api_Op):Fast × WH:=([(0,(.ptr (some (0,0)))),(3,(.ptr (some (2,0)))),(4,(.ptr (some (3,0)))),(5,(.int .i64 x2.1)),(6,(.bool x2.2))],[(some (.cells [(.acc 1 0 2 p_b1.length true)] false false)),(some (.cells (F_api_Pair p_b1) false true)),(some (.cells (e_api_Op o) false false)),(some (.cells (e_api_Answer (⟨0,([]:List UInt8)⟩:api_Answer)) false false))])
def fin_oR_Table_Do_2_J0 (x2:Int × Bool) (p_b1:List api_Pair) (o:api_Op):Unit ⊕ Unit→Ex × Fast × WH:=fun
  | .inl e=>(.ret,[(4,(.ptr (some (2,0))))],[(some (.cells [(.acc 1 0 2 p_b1.length true)] false false)),(some (.cells (F_api_Pair p_b1) false true)),(some (.cells (e_api_Answer (⟨5,([]:List UInt8)⟩:api_Answer)) false false))])
  | .inr e=>(.normal,[(0,(.ptr (some (0,0)))),(3,(.ptr (some (2,0)))),(4,(.ptr (some (3,0)))),(5,(.int .i64 x2.1)),(6,(.bool x2.2))],[(some (.cells [(.acc 1 0 2 p_b1.length true)] false false)),(some (.cells (F_api_Pair p_b1) false true)),(some (.cells (e_api_Op o) false false)),(some (.cells (e_api_Answer (⟨0,([]:List UInt8)⟩:api_Answer)) false false))])
def oR_Table_Do_2_J0 (x2:Int × Bool) (p_b1:List api_Pair) (o:api_Op):Option (Unit ⊕ Unit) :=
  cond (!x2.2) (cond (decide ((p_b1.length:Int) ≥ 8)) (some (.inl ())) (some (.inr ()))) (some (.inr ()))
theorem s_oR_Table_Do_2_J0 (d:Nat) {x2:Int × Bool} {p_b1:List api_Pair} {o:api_Op} {r:Unit ⊕ Unit} (h:oR_Table_Do_2_J0 x2 p_b1 o=some r):RunX (bexec (wcalls atab (d+0)) KK 147 WJ62_bbbabkbfbta) 2 (in_oR_Table_Do_2_J0 x2 p_b1 o) (fin_oR_Table_Do_2_J0 x2 p_b1 o r):=by
  have e:∀ C:ACalls,wCode C (fun _=>none) KK 147 2 WJ62_bbbabkbfbta (in_oR_Table_Do_2_J0 x2 p_b1 o).1 (in_oR_Table_Do_2_J0 x2 p_b1 o).2 (.br 40 (.br 47 (.st none (.en [4] [none] [] [])) (.en [0,3,4,5,6] [none,none,none,none,none] [] [])) (.en [0,3,4,5,6] [none,none,none,none,none] [] [])) (fin_oR_Table_Do_2_J0 x2 p_b1 o r)=(((!x2.2)=true→(((decide ((p_b1.length:Int) ≥ 8))=true→lfe (fin_oR_Table_Do_2_J0 x2 p_b1 o) (.inl ()) r)∧((decide ((p_b1.length:Int) ≥ 8))=false→lfe (fin_oR_Table_Do_2_J0 x2 p_b1 o) (.inr ()) r)))∧((!x2.2)=false→lfe (fin_oR_Table_Do_2_J0 x2 p_b1 o) (.inr ()) r)):=fun C=>by kernel_rfl
  refine runS_of (fun _ _ h=>by cases h) WJ62_bbbabkbfbta_ok (Nat.le_of_ble_eq_true rfl) ((e _).mpr ?_)
  unfold oR_Table_Do_2_J0 at h
  refine ⟨fun hb=>?_,fun hb=>?_⟩
  · have h:=cond_t hb h
    refine ⟨fun hb=>?_,fun hb=>?_⟩
    · have h:=cond_t hb h
      exact lfe_of h
    · have h:=cond_f hb h
      exact lfe_of h
  · have h:=cond_f hb h
    exact lfe_of h
abbrev in_oR_Table_Do_2_J1 (x2:Int × Bool) (x6:List api_Pair) (o:api_Op) (p_b1:List api_Pair):Fast × WH:=([(0,(.ptr (some (0,0)))),(4,(.ptr (some (2,0)))),(5,(.int .i64 x2.1)),(6,(.bool x2.2)),(7,(.acc 3 0 2 (x6 ++ [(⟨o.Key,o.Value⟩:api_Pair)]).length true))],[(some (.cells [(.acc 1 0 2 p_b1.length true)] false false)),(some (.cells (F_api_Pair p_b1) false true)),(some (.cells (e_api_Answer (⟨0,([]:List UInt8)⟩:api_Answer)) false false)),(some (.cells (F_api_Pair (x6 ++ [(⟨o.Key,o.Value⟩:api_Pair)])) false true))])
def fin_oR_Table_Do_2_J1 (x2:Int × Bool) (x6:List api_Pair) (o:api_Op) (p_b1:List api_Pair):Int→Ex × Fast × WH:=fun e=>(.normal,[(0,(.ptr (some (0,0)))),(4,(.ptr (some (2,0)))),(5,(.int .i64 e)),(7,(.acc 3 0 2 (x6 ++ [(⟨o.Key,o.Value⟩:api_Pair)]).length true))],[(some (.cells [(.acc 1 0 2 p_b1.length true)] false false)),(some (.cells (F_api_Pair p_b1) false true)),(some (.cells (e_api_Answer (⟨0,([]:List UInt8)⟩:api_Answer)) false false)),(some (.cells (F_api_Pair (x6 ++ [(⟨o.Key,o.Value⟩:api_Pair)])) false true))])
def oR_Table_Do_2_J1 (x2:Int × Bool) (x6:List api_Pair) (o:api_Op) (p_b1:List api_Pair):Option (Int) :=
  cond x2.2 (some (IntKind.i64.wrap (x2.1+1))) (some x2.1)
theorem s_oR_Table_Do_2_J1 (d:Nat) {x2:Int × Bool} {x6:List api_Pair} {o:api_Op} {p_b1:List api_Pair} {r:Int} (h:oR_Table_Do_2_J1 x2 x6 o p_b1=some r):RunX (bexec (wcalls atab (d+0)) KK 147 WJ62_bbbabkbfbtbbba) 2 (in_oR_Table_Do_2_J1 x2 x6 o p_b1) (fin_oR_Table_Do_2_J1 x2 x6 o p_b1 r):=by
  have e:∀ C:ACalls,wCode C (fun _=>none) KK 147 2 WJ62_bbbabkbfbtbbba (in_oR_Table_Do_2_J1 x2 x6 o p_b1).1 (in_oR_Table_Do_2_J1 x2 x6 o p_b1).2 (.br 65 (.en [0,4,5,7] [none,none,none,none] [] [.undef,.undef,.undef,.slice none 2 0 0 true]) (.en [0,4,5,7] [none,none,none,none] [] [.undef,.undef,.undef,.slice none 2 0 0 true])) (fin_oR_Table_Do_2_J1 x2 x6 o p_b1 r)=((x2.2=true→lfe (fin_oR_Table_Do_2_J1 x2 x6 o p_b1) (IntKind.i64.wrap (x2.1+1)) r)∧(x2.2=false→lfe (fin_oR_Table_Do_2_J1 x2 x6 o p_b1) x2.1 r)):=fun C=>by kernel_rfl
  refine runS_of (fun _ _ h=>by cases h) WJ62_bbbabkbfbtbbba_ok (Nat.le_of_ble_eq_true rfl) ((e _).mpr ?_)
  unfold oR_Table_Do_2_J1 at h
  refine ⟨fun hb=>?_,fun hb=>?_⟩
  · have h:=cond_t hb h
    exact lfe_of h
  · have h:=cond_f hb h
    exact lfe_of h
def oR_Table_Do_2 (o:api_Op) (p_b1:List api_Pair):Option (api_Answer × List api_Pair) :=
  (oR_RightOp o).bind fun (x1:Bool)=>cond (!x1) (some ((⟨1,([]:List UInt8)⟩:api_Answer),p_b1)) ((oR_Table_find_2 o.Key p_b1).bind fun (x2:Int × Bool)=>cond (o.Kind == 1) (cond (!x2.2) (some ((⟨4,([]:List UInt8)⟩:api_Answer),p_b1)) ((getI p_b1 x2.1).bind fun (x3:api_Pair)=>some ((⟨0,x3.Value⟩:api_Answer),p_b1))) (cond (o.Kind == 2) ((oR_Table_Do_2_J0 x2 p_b1 o).bind fun (x4:Unit ⊕ Unit)=>cond (isL x4) (some ((⟨5,([]:List UInt8)⟩:api_Answer),p_b1)) ((slI p_b1 0 x2.1).bind fun (x6:List api_Pair)=>gd (fitsB 32 x6.length) (gd (fitsB 32 (x6 ++ [(⟨o.Key,o.Value⟩:api_Pair)]).length) ((oR_Table_Do_2_J1 x2 x6 o p_b1).bind fun (x9:Int)=>(slI p_b1 x9 p_b1.length).bind fun (x10:List api_Pair)=>gd (fitsB 32 ((x6 ++ [(⟨o.Key,o.Value⟩:api_Pair)]) ++ x10).length) (some ((⟨0,([]:List UInt8)⟩:api_Answer),((x6 ++ [(⟨o.Key,o.Value⟩:api_Pair)]) ++ x10))))))) (cond (o.Kind == 3) (cond (!x2.2) (some ((⟨4,([]:List UInt8)⟩:api_Answer),p_b1)) ((slI p_b1 0 x2.1).bind fun (x12:List api_Pair)=>gd (fitsB 32 x12.length) ((slI p_b1 (IntKind.i64.wrap (x2.1+1)) p_b1.length).bind fun (x14:List api_Pair)=>gd (fitsB 32 (x12 ++ x14).length) (some ((⟨0,([]:List UInt8)⟩:api_Answer),(x12 ++ x14)))))) (cond (!x2.2) (some ((⟨4,([]:List UInt8)⟩:api_Answer),p_b1)) ((getI p_b1 x2.1).bind fun (x16:api_Pair)=>cond (!(x16.Value == o.Old)) ((getI p_b1 x2.1).bind fun (x17:api_Pair)=>some ((⟨6,x17.Value⟩:api_Answer),p_b1)) (gd (fitsB 32 p_b1.length) ((getI p_b1 x2.1).bind fun (x19:api_Pair)=>some ((⟨0,([]:List UInt8)⟩:api_Answer),(p_b1.set x2.1.toNat (⟨x19.Key,o.Value⟩:api_Pair))))))))))
def out_oR_Table_Do_2 (o:api_Op) (p_b1:List api_Pair) (r:api_Answer × List api_Pair):AV × WH:=((.agg (e_api_Answer r.1)),[(some (.cells [(.acc 2 0 2 r.2.length true)] false false)),none,(some (.cells (F_api_Pair r.2) false true))])
theorem s_oR_Table_Do_2 (d:Nat) {o:api_Op} {p_b1:List api_Pair} {r:api_Answer × List api_Pair} (h:oR_Table_Do_2 o p_b1=some r):Spec (wcalls atab (d+2)) 62 [(.ptr (some (0,0))),(.agg (e_api_Op o))] [(some (.cells [(.acc 1 0 2 p_b1.length true)] false false)),(some (.cells (F_api_Pair p_b1) false true))] (out_oR_Table_Do_2 o p_b1 r).1 (out_oR_Table_Do_2 o p_b1 r).2:=by
  obtain ⟨x1,hx1⟩:=wx (oR_RightOp o)
  obtain ⟨x2,hx2⟩:=wx (oR_Table_find_2 o.Key p_b1)
  obtain ⟨x3,hx3⟩:=wx (getI p_b1 x2.1)
  obtain ⟨x4,hx4⟩:=wx (oR_Table_Do_2_J0 x2 p_b1 o)
  obtain ⟨x6,hx6⟩:=wx (slI p_b1 0 x2.1)
  obtain ⟨x9,hx9⟩:=wx (oR_Table_Do_2_J1 x2 x6 o p_b1)
  obtain ⟨x10,hx10⟩:=wx (slI p_b1 x9 p_b1.length)
  obtain ⟨x12,hx12⟩:=wx (slI p_b1 0 x2.1)
  obtain ⟨x14,hx14⟩:=wx (slI p_b1 (IntKind.i64.wrap (x2.1+1)) p_b1.length)
  obtain ⟨x16,hx16⟩:=wx (getI p_b1 x2.1)
  obtain ⟨x17,hx17⟩:=wx (getI p_b1 x2.1)
  obtain ⟨x19,hx19⟩:=wx (getI p_b1 x2.1)
  have e:∀ C:ACalls,wBody C (fun _=>none) KK WF62 [(.ptr (some (0,0))),(.agg (e_api_Op o))] [(some (.cells [(.acc 1 0 2 p_b1.length true)] false false)),(some (.cells (F_api_Pair p_b1) false true))] (.cb [] [] (.bool x1) (.br 11 (.st none (.fin (some false) [] (some true))) (.call [] none [] (.tuple [(.int .i64 x2.1),(.bool x2.2)]) [(some (.cells [(.acc 1 0 2 p_b1.length true)] false false)),(some (.cells (F_api_Pair p_b1) false true))] (.br 22 (.br 25 (.st none (.fin (some false) [] (some true))) (.v 32 (.ptr (some (1,0+x2.1.toNat * 2))) (.v 34 (.str x3.Value) (.st none (.fin (some false) [] (some true)))))) (.br 36 (.ite (isL x4) (.jn [0,3,4,5,6] [none,none,none,none,none] [] [] .ret [(4,(.ptr (some (2,0))))] [(some (.cells [(.acc 1 0 2 p_b1.length true)] false false)),(some (.cells (F_api_Pair p_b1) false true)),(some (.cells (e_api_Answer (⟨5,([]:List UInt8)⟩:api_Answer)) false false))] (.fin (some false) [] (some true))) (.jn [0,3,4,5,6] [none,none,none,none,none] [] [] .normal [(0,(.ptr (some (0,0)))),(3,(.ptr (some (2,0)))),(4,(.ptr (some (3,0)))),(5,(.int .i64 x2.1)),(6,(.bool x2.2))] [(some (.cells [(.acc 1 0 2 p_b1.length true)] false false)),(some (.cells (F_api_Pair p_b1) false true)),(some (.cells (e_api_Op o) false false)),(some (.cells (e_api_Answer (⟨0,([]:List UInt8)⟩:api_Answer)) false false))] (.v 55 (.acc 1 0 2 x6.length false) (.ap 56 x6.length (F_api_Pair x6) (.ap 64 (x6 ++ [(⟨o.Key,o.Value⟩:api_Pair)]).length (F_api_Pair (x6 ++ [(⟨o.Key,o.Value⟩:api_Pair)])) (.jn [0,4,5,6,7] [none,none,none,none,none] [] [.undef,.undef,.undef,.undef,.slice none 2 0 0 true] .normal [(0,(.ptr (some (0,0)))),(4,(.ptr (some (2,0)))),(5,(.int .i64 x9)),(7,(.acc 3 0 2 (x6 ++ [(⟨o.Key,o.Value⟩:api_Pair)]).length true))] [(some (.cells [(.acc 1 0 2 p_b1.length true)] false false)),(some (.cells (F_api_Pair p_b1) false true)),(some (.cells (e_api_Answer (⟨0,([]:List UInt8)⟩:api_Answer)) false false)),(some (.cells (F_api_Pair (x6 ++ [(⟨o.Key,o.Value⟩:api_Pair)])) false true))] (.v 75 (.acc 1 (0+x9.toNat * 2) 2 x10.length false) (.ap 76 ((x6 ++ [(⟨o.Key,o.Value⟩:api_Pair)]) ++ x10).length (F_api_Pair ((x6 ++ [(⟨o.Key,o.Value⟩:api_Pair)]) ++ x10)) (.st none (.st none (.kl [1] (.fin (some false) [] (some true))))))))))))) (.br 80 (.br 83 (.st none (.fin (some false) [] (some true))) (.v 92 (.acc 1 0 2 x12.length false) (.ap 93 x12.length (F_api_Pair x12) (.v 100 (.acc 1 (0+(IntKind.i64.wrap (x2.1+1)).toNat * 2) 2 x14.length false) (.ap 101 (x12 ++ x14).length (F_api_Pair (x12 ++ x14)) (.st none (.st none (.kl [1] (.fin (some false) [] (some true)))))))))) (.br 105 (.st none (.fin (some false) [] (some true))) (.v 115 (.ptr (some (1,0+x2.1.toNat * 2))) (.v 117 (.str x16.Value) (.br 109 (.v 126 (.ptr (some (1,0+x2.1.toNat * 2))) (.v 128 (.str x17.Value) (.st none (.fin (some false) [] (some true))))) (.ap 135 p_b1.length (F_api_Pair p_b1) (.v 140 (.ptr (some (5,0+x2.1.toNat * 2))) (.st (some (F_api_Pair (p_b1.set x2.1.toNat (⟨x19.Key,o.Value⟩:api_Pair)))) (.st none (.st none (.kl [1] (.fin (some false) [] (some true)))))))))))))))))) (out_oR_Table_Do_2 o p_b1 r).1 (out_oR_Table_Do_2 o p_b1 r).2=(2=2∧2≤147∧(Spec C 63 [(.agg (e_api_Op o))] [] (.bool x1) []∧(((!x1)=true→lff (out_oR_Table_Do_2 o p_b1) ((⟨1,([]:List UInt8)⟩:api_Answer),p_b1) r)∧((!x1)=false→(Spec C 104 [(.ptr (some (0,0))),(.str o.Key)] [(some (.cells [(.acc 1 0 2 p_b1.length true)] false false)),(some (.cells (F_api_Pair p_b1) false true))] (.tuple [(.int .i64 x2.1),(.bool x2.2)]) [(some (.cells [(.acc 1 0 2 p_b1.length true)] false false)),(some (.cells (F_api_Pair p_b1) false true))]∧(2≤2∧(((o.Kind == 1)=true→(((!x2.2)=true→lff (out_oR_Table_Do_2 o p_b1) ((⟨4,([]:List UInt8)⟩:api_Answer),p_b1) r)∧((!x2.2)=false→(wP (.idxSlice 2 (.c (.acc 1 0 2 p_b1.length true)) (.c (.int .i64 x2.1)))=some (.ptr (some (1,0+x2.1.toNat * 2)))∧(cPart false (0+x2.1.toNat * 2+1) 1 (F_api_Pair p_b1)=some (.str x3.Value)∧lff (out_oR_Table_Do_2 o p_b1) ((⟨0,x3.Value⟩:api_Answer),p_b1) r)))))∧((o.Kind == 1)=false→(((o.Kind == 2)=true→(((isL x4)=true→(RunS (bexec C KK 147 WJ62_bbbabkbfbta) 2 [(0,(.ptr (some (0,0)))),(3,(.ptr (some (2,0)))),(4,(.ptr (some (3,0)))),(5,(.int .i64 x2.1)),(6,(.bool x2.2))] [(some (.cells [(.acc 1 0 2 p_b1.length true)] false false)),(some (.cells (F_api_Pair p_b1) false true)),(some (.cells (e_api_Op o) false false)),(some (.cells (e_api_Answer (⟨0,([]:List UInt8)⟩:api_Answer)) false false))] .ret [(4,(.ptr (some (2,0))))] [(some (.cells [(.acc 1 0 2 p_b1.length true)] false false)),(some (.cells (F_api_Pair p_b1) false true)),(some (.cells (e_api_Answer (⟨5,([]:List UInt8)⟩:api_Answer)) false false))]∧lff (out_oR_Table_Do_2 o p_b1) ((⟨5,([]:List UInt8)⟩:api_Answer),p_b1) r))∧((isL x4)=false→(RunS (bexec C KK 147 WJ62_bbbabkbfbta) 2 [(0,(.ptr (some (0,0)))),(3,(.ptr (some (2,0)))),(4,(.ptr (some (3,0)))),(5,(.int .i64 x2.1)),(6,(.bool x2.2))] [(some (.cells [(.acc 1 0 2 p_b1.length true)] false false)),(some (.cells (F_api_Pair p_b1) false true)),(some (.cells (e_api_Op o) false false)),(some (.cells (e_api_Answer (⟨0,([]:List UInt8)⟩:api_Answer)) false false))] .normal [(0,(.ptr (some (0,0)))),(3,(.ptr (some (2,0)))),(4,(.ptr (some (3,0)))),(5,(.int .i64 x2.1)),(6,(.bool x2.2))] [(some (.cells [(.acc 1 0 2 p_b1.length true)] false false)),(some (.cells (F_api_Pair p_b1) false true)),(some (.cells (e_api_Op o) false false)),(some (.cells (e_api_Answer (⟨0,([]:List UInt8)⟩:api_Answer)) false false))]∧(wP (.slice 2 (.c (.acc 1 0 2 p_b1.length true)) none (some (.c (.int .i64 x2.1))) none)=some (.acc 1 0 2 x6.length false)∧(0+x6.length=x6.length∧(F_api_Pair [] ++ ((F_api_Pair p_b1).drop (0)).take (x6.length * 2)=F_api_Pair x6∧(fitsB 32 x6.length=true∧(x6.length+1=(x6 ++ [(⟨o.Key,o.Value⟩:api_Pair)]).length∧(F_api_Pair x6 ++ F_api_Pair ([(⟨o.Key,o.Value⟩:api_Pair)])=F_api_Pair (x6 ++ [(⟨o.Key,o.Value⟩:api_Pair)])∧(fitsB 32 (x6 ++ [(⟨o.Key,o.Value⟩:api_Pair)]).length=true∧(RunS (bexec C KK 147 WJ62_bbbabkbfbtbbba) 2 [(0,(.ptr (some (0,0)))),(4,(.ptr (some (2,0)))),(5,(.int .i64 x2.1)),(6,(.bool x2.2)),(7,(.acc 3 0 2 (x6 ++ [(⟨o.Key,o.Value⟩:api_Pair)]).length true))] [(some (.cells [(.acc 1 0 2 p_b1.length true)] false false)),(some (.cells (F_api_Pair p_b1) false true)),(some (.cells (e_api_Answer (⟨0,([]:List UInt8)⟩:api_Answer)) false false)),(some (.cells (F_api_Pair (x6 ++ [(⟨o.Key,o.Value⟩:api_Pair)])) false true))] .normal [(0,(.ptr (some (0,0)))),(4,(.ptr (some (2,0)))),(5,(.int .i64 x9)),(7,(.acc 3 0 2 (x6 ++ [(⟨o.Key,o.Value⟩:api_Pair)]).length true))] [(some (.cells [(.acc 1 0 2 p_b1.length true)] false false)),(some (.cells (F_api_Pair p_b1) false true)),(some (.cells (e_api_Answer (⟨0,([]:List UInt8)⟩:api_Answer)) false false)),(some (.cells (F_api_Pair (x6 ++ [(⟨o.Key,o.Value⟩:api_Pair)])) false true))]∧(wP (.slice 2 (.c (.acc 1 0 2 p_b1.length true)) (some (.c (.int .i64 x9))) none none)=some (.acc 1 (0+x9.toNat * 2) 2 x10.length false)∧((x6 ++ [(⟨o.Key,o.Value⟩:api_Pair)]).length+x10.length=((x6 ++ [(⟨o.Key,o.Value⟩:api_Pair)]) ++ x10).length∧(F_api_Pair (x6 ++ [(⟨o.Key,o.Value⟩:api_Pair)]) ++ ((F_api_Pair p_b1).drop (0+x9.toNat * 2)).take (x10.length * 2)=F_api_Pair ((x6 ++ [(⟨o.Key,o.Value⟩:api_Pair)]) ++ x10)∧(fitsB 32 ((x6 ++ [(⟨o.Key,o.Value⟩:api_Pair)]) ++ x10).length=true∧lff (out_oR_Table_Do_2 o p_b1) ((⟨0,([]:List UInt8)⟩:api_Answer),((x6 ++ [(⟨o.Key,o.Value⟩:api_Pair)]) ++ x10)) r))))))))))))))))∧((o.Kind == 2)=false→(((o.Kind == 3)=true→(((!x2.2)=true→lff (out_oR_Table_Do_2 o p_b1) ((⟨4,([]:List UInt8)⟩:api_Answer),p_b1) r)∧((!x2.2)=false→(wP (.slice 2 (.c (.acc 1 0 2 p_b1.length true)) none (some (.c (.int .i64 x2.1))) none)=some (.acc 1 0 2 x12.length false)∧(0+x12.length=x12.length∧(F_api_Pair [] ++ ((F_api_Pair p_b1).drop (0)).take (x12.length * 2)=F_api_Pair x12∧(fitsB 32 x12.length=true∧(wP (.slice 2 (.c (.acc 1 0 2 p_b1.length true)) (some (.c (.int .i64 (IntKind.i64.wrap (x2.1+1))))) none none)=some (.acc 1 (0+(IntKind.i64.wrap (x2.1+1)).toNat * 2) 2 x14.length false)∧(x12.length+x14.length=(x12 ++ x14).length∧(F_api_Pair x12 ++ ((F_api_Pair p_b1).drop (0+(IntKind.i64.wrap (x2.1+1)).toNat * 2)).take (x14.length * 2)=F_api_Pair (x12 ++ x14)∧(fitsB 32 (x12 ++ x14).length=true∧lff (out_oR_Table_Do_2 o p_b1) ((⟨0,([]:List UInt8)⟩:api_Answer),(x12 ++ x14)) r)))))))))))∧((o.Kind == 3)=false→(((!x2.2)=true→lff (out_oR_Table_Do_2 o p_b1) ((⟨4,([]:List UInt8)⟩:api_Answer),p_b1) r)∧((!x2.2)=false→(wP (.idxSlice 2 (.c (.acc 1 0 2 p_b1.length true)) (.c (.int .i64 x2.1)))=some (.ptr (some (1,0+x2.1.toNat * 2)))∧(cPart false (0+x2.1.toNat * 2+1) 1 (F_api_Pair p_b1)=some (.str x16.Value)∧(((!(x16.Value == o.Old))=true→(wP (.idxSlice 2 (.c (.acc 1 0 2 p_b1.length true)) (.c (.int .i64 x2.1)))=some (.ptr (some (1,0+x2.1.toNat * 2)))∧(cPart false (0+x2.1.toNat * 2+1) 1 (F_api_Pair p_b1)=some (.str x17.Value)∧lff (out_oR_Table_Do_2 o p_b1) ((⟨6,x17.Value⟩:api_Answer),p_b1) r)))∧((!(x16.Value == o.Old))=false→(0+p_b1.length=p_b1.length∧(F_api_Pair [] ++ F_api_Pair p_b1=F_api_Pair p_b1∧(fitsB 32 p_b1.length=true∧(wP (.idxSlice 2 (.c (.acc 5 0 2 p_b1.length true)) (.c (.int .i64 x2.1)))=some (.ptr (some (5,0+x2.1.toNat * 2)))∧(wrC (F_api_Pair p_b1) (0+x2.1.toNat * 2+1) [(.str o.Value)]=some (F_api_Pair (p_b1.set x2.1.toNat (⟨x19.Key,o.Value⟩:api_Pair)))∧(@Eq AV (.agg (e_api_Answer (⟨0,([]:List UInt8)⟩:api_Answer))) (out_oR_Table_Do_2 o p_b1 r).1∧@Eq WH [(some (.cells [(.acc 2 0 2 p_b1.length true)] false false)),none,(some (.cells (F_api_Pair (p_b1.set x2.1.toNat (⟨x19.Key,o.Value⟩:api_Pair))) false true))] (out_oR_Table_Do_2 o p_b1 r).2)))))))))))))))))))))))):=fun C=>by kernel_rfl
  refine spec_of (fun _ _ h=>by cases h) rfl atab_62 WF62_ok ((e _).mpr ⟨rfl,by decide, ?_⟩)
  unfold oR_Table_Do_2 at h
  obtain ⟨q1,h⟩:=bget hx1 h
  refine ⟨s_oR_RightOp (d+0) q1, ?_⟩
  refine ⟨fun hb=>?_,fun hb=>?_⟩
  · have h:=cond_t hb h
    exact lff_of h
  · have h:=cond_f hb h
    obtain ⟨q2,h⟩:=bget hx2 h
    refine ⟨s_oR_Table_find_2 (d+0) q2, ?_⟩
    refine ⟨by decide, ?_⟩
    refine ⟨fun hb=>?_,fun hb=>?_⟩
    · have h:=cond_t hb h
      refine ⟨fun hb=>?_,fun hb=>?_⟩
      · have h:=cond_t hb h
        exact lff_of h
      · have h:=cond_f hb h
        obtain ⟨q3,h⟩:=bget hx3 h
        refine ⟨wP_idxA R_api_Pair q3, ?_⟩
        refine ⟨cP_row (o:=1) R_api_Pair q3 rfl, ?_⟩
        exact lff_of h
    · have h:=cond_f hb h
      refine ⟨fun hb=>?_,fun hb=>?_⟩
      · have h:=cond_t hb h
        obtain ⟨q4,h⟩:=bget hx4 h
        refine ⟨fun hb5=>?_,fun hb5=>?_⟩
        · have h:=cond_t hb5 h
          refine ⟨by have h:=s_oR_Table_Do_2_J0 (d+1) q4; rw [isL_t hb5] at h; exact h, ?_⟩
          exact lff_of h
        · have h:=cond_f hb5 h
          refine ⟨by have h:=s_oR_Table_Do_2_J0 (d+1) q4; rw [isL_f hb5] at h; exact h, ?_⟩
          obtain ⟨q6,h⟩:=bget hx6 h
          refine ⟨wP_slA_h R_api_Pair q6, ?_⟩
          try rw [take_row R_api_Pair q6]
          try rw [part_row0 R_api_Pair q6]
          obtain ⟨q7,h⟩:=gd_some h
          refine ⟨by simp, ?_⟩
          refine ⟨by first | rfl | simp [F_api_Pair], ?_⟩
          refine ⟨q7, ?_⟩
          obtain ⟨q8,h⟩:=gd_some h
          refine ⟨by simp, ?_⟩
          refine ⟨(Row.app R_api_Pair _ _).symm, ?_⟩
          refine ⟨q8, ?_⟩
          obtain ⟨q9,h⟩:=bget hx9 h
          refine ⟨s_oR_Table_Do_2_J1 (d+1) q9, ?_⟩
          obtain ⟨q10,h⟩:=bget hx10 h
          refine ⟨wP_slA_l R_api_Pair q10, ?_⟩
          try rw [part_row R_api_Pair q10]
          obtain ⟨q11,h⟩:=gd_some h
          refine ⟨app_len _ _, ?_⟩
          refine ⟨(Row.app R_api_Pair _ _).symm, ?_⟩
          refine ⟨q11, ?_⟩
          exact lff_of h
      · have h:=cond_f hb h
        refine ⟨fun hb=>?_,fun hb=>?_⟩
        · have h:=cond_t hb h
          refine ⟨fun hb=>?_,fun hb=>?_⟩
          · have h:=cond_t hb h
            exact lff_of h
          · have h:=cond_f hb h
            obtain ⟨q12,h⟩:=bget hx12 h
            refine ⟨wP_slA_h R_api_Pair q12, ?_⟩
            try rw [take_row R_api_Pair q12]
            try rw [part_row0 R_api_Pair q12]
            obtain ⟨q13,h⟩:=gd_some h
            refine ⟨by simp, ?_⟩
            refine ⟨by first | rfl | simp [F_api_Pair], ?_⟩
            refine ⟨q13, ?_⟩
            obtain ⟨q14,h⟩:=bget hx14 h
            refine ⟨wP_slA_l R_api_Pair q14, ?_⟩
            try rw [part_row R_api_Pair q14]
            obtain ⟨q15,h⟩:=gd_some h
            refine ⟨app_len _ _, ?_⟩
            refine ⟨(Row.app R_api_Pair _ _).symm, ?_⟩
            refine ⟨q15, ?_⟩
            exact lff_of h
        · have h:=cond_f hb h
          refine ⟨fun hb=>?_,fun hb=>?_⟩
          · have h:=cond_t hb h
            exact lff_of h
          · have h:=cond_f hb h
            obtain ⟨q16,h⟩:=bget hx16 h
            refine ⟨wP_idxA R_api_Pair q16, ?_⟩
            refine ⟨cP_row (o:=1) R_api_Pair q16 rfl, ?_⟩
            refine ⟨fun hb=>?_,fun hb=>?_⟩
            · have h:=cond_t hb h
              obtain ⟨q17,h⟩:=bget hx17 h
              refine ⟨wP_idxA R_api_Pair q17, ?_⟩
              refine ⟨cP_row (o:=1) R_api_Pair q17 rfl, ?_⟩
              exact lff_of h
            · have h:=cond_f hb h
              obtain ⟨q18,h⟩:=gd_some h
              refine ⟨by simp, ?_⟩
              refine ⟨by first | rfl | simp [F_api_Pair], ?_⟩
              refine ⟨q18, ?_⟩
              obtain ⟨q19,h⟩:=bget hx19 h
              refine ⟨wP_idxA R_api_Pair q19, ?_⟩
              refine ⟨wr_row (o:=1) R_api_Pair q19 rfl, ?_⟩
              try rw [show AV.list 2 p_b1.length (F_api_Pair (p_b1.set x2.1.toNat (⟨x19.Key,o.Value⟩:api_Pair))) false=l_api_Pair (p_b1.set x2.1.toNat (⟨x19.Key,o.Value⟩:api_Pair)) from by simp only [l_api_Pair,List.length_set]]
              obtain rfl:=Option.some.inj h
              refine ⟨?_, ?_⟩ <;> first | rfl | (simp only [out_oR_Table_Do_2,List.length_set,List.length_append,List.length_replicate,List.length_cons,List.length_nil,List.length_take,List.length_drop,Nat.add_zero,Nat.zero_add]; done) | simp [out_oR_Table_Do_2]
def st_oR_TableOf_L0 (l:List api_Pair) (s7:Int × List api_Pair):List AV × WH:=([(l_api_Pair l),(.ptr (some (0,0))),(.ptr (some (1,0))),(.int .i64 s7.1)],[(some (.cells [(.acc 2 0 2 0 true)] false false)),(some (.cells [(.acc 3 0 2 s7.2.length true)] false false)),(some (.cells (F_api_Pair []) false true)),(some (.cells (F_api_Pair s7.2) false true))])
def fin_oR_TableOf_L0 (l:List api_Pair):(List api_Pair)→Ex × Fast × WH:=fun e=>((.exit 0),[(2,(.ptr (some (0,0)))),(3,(.ptr (some (1,0))))],[(some (.cells [(.acc 2 0 2 0 true)] false false)),(some (.cells [(.acc 3 0 2 e.length true)] false false)),(some (.cells (F_api_Pair []) false true)),(some (.cells (F_api_Pair e) false true))])
abbrev rx_oR_TableOf_L0 (l:List api_Pair):=roundX [0,2,3,4] (st_oR_TableOf_L0 l) (fin_oR_TableOf_L0 l)
def oR_TableOf_L0_s (l:List api_Pair) (s7:Int × List api_Pair):Option ((Int × List api_Pair) ⊕ ((List api_Pair))) :=
  cond (decide (s7.1 < (l.length:Int))) ((getI l s7.1).bind fun (x8:api_Pair)=>(getI l s7.1).bind fun (x9:api_Pair)=>(oR_Table_Do_2 (⟨2,x8.Key,x9.Value,([]:List UInt8)⟩:api_Op) s7.2).bind fun (x10:api_Answer × List api_Pair)=>some (.inl ((IntKind.i64.wrap (s7.1+1)),x10.2))) (some (.inr s7.2))
def oR_TableOf_L0 (l:List api_Pair) (s7:Int × List api_Pair):Option ((List api_Pair)):=loopX (oR_TableOf_L0_s l) KK s7
theorem b_oR_TableOf_L0 (d:Nat) {l:List api_Pair} {s7:Int × List api_Pair} {r:(Int × List api_Pair) ⊕ ((List api_Pair))} (h:oR_TableOf_L0_s l s7=some r):RunX (bexec (wcalls atab (d+2)) KK 25 WB60_0) 0 (inL [0,2,3,4] (st_oR_TableOf_L0 l s7)) (rx_oR_TableOf_L0 l r):=by
  obtain ⟨x8,hx8⟩:=wx (getI l s7.1)
  obtain ⟨x9,hx9⟩:=wx (getI l s7.1)
  obtain ⟨x10,hx10⟩:=wx (oR_Table_Do_2 (⟨2,x8.Key,x9.Value,([]:List UInt8)⟩:api_Op) s7.2)
  have e:∀ C:ACalls,wCode C (fun _=>none) KK 25 0 WB60_0 (inL [0,2,3,4] (st_oR_TableOf_L0 l s7)).1 (inL [0,2,3,4] (st_oR_TableOf_L0 l s7)).2 (.br 9 (.v 14 (.elem ((e_api_Pair x8) ++ F_api_Pair (l.drop (s7.1.toNat+1)))) (.v 19 (.elem ((e_api_Pair x9) ++ F_api_Pair (l.drop (s7.1.toNat+1)))) (.call [] none [] (.agg (e_api_Answer x10.1)) [(some (.cells [(.acc 2 0 2 x10.2.length true)] false false)),none,(some (.cells (F_api_Pair x10.2) false true))] (.en [0,2,3,4] [none,none,none,none] [] [.slice none 2 0 0 true,.undef,.undef,.undef])))) (.en [2,3] [none,none] [] [])) (rx_oR_TableOf_L0 l r)=(((decide (s7.1 < (l.length:Int)))=true→(wP (.idxSlice 2 (.c (l_api_Pair l)) (.c (.int .i64 s7.1)))=some (.elem ((e_api_Pair x8) ++ F_api_Pair (l.drop (s7.1.toNat+1))))∧(wP (.idxSlice 2 (.c (l_api_Pair l)) (.c (.int .i64 s7.1)))=some (.elem ((e_api_Pair x9) ++ F_api_Pair (l.drop (s7.1.toNat+1))))∧(Spec C 62 [(.ptr (some (0,0))),(.agg (e_api_Op (⟨2,x8.Key,x9.Value,([]:List UInt8)⟩:api_Op)))] [(some (.cells [(.acc 1 0 2 s7.2.length true)] false false)),(some (.cells (F_api_Pair s7.2) false true))] (.agg (e_api_Answer x10.1)) [(some (.cells [(.acc 2 0 2 x10.2.length true)] false false)),none,(some (.cells (F_api_Pair x10.2) false true))]∧(2≤3∧lfe (rx_oR_TableOf_L0 l) (.inl ((IntKind.i64.wrap (s7.1+1)),x10.2)) r)))))∧((decide (s7.1 < (l.length:Int)))=false→lfe (rx_oR_TableOf_L0 l) (.inr s7.2) r)):=fun C=>by kernel_rfl
  refine runS_of (fun _ _ h=>by cases h) WB60_0_ok (Nat.le_of_ble_eq_true rfl) ((e _).mpr ?_)
  unfold oR_TableOf_L0_s at h
  refine ⟨fun hb=>?_,fun hb=>?_⟩
  · have h:=cond_t hb h
    obtain ⟨q8,h⟩:=bget hx8 h
    refine ⟨wP_idx R_api_Pair q8, ?_⟩
    obtain ⟨q9,h⟩:=bget hx9 h
    refine ⟨wP_idx R_api_Pair q9, ?_⟩
    obtain ⟨q10,h⟩:=bget hx10 h
    refine ⟨s_oR_Table_Do_2 (d+0) q10, ?_⟩
    refine ⟨by decide, ?_⟩
    exact lfe_of h
  · have h:=cond_f hb h
    exact lfe_of h
theorem s_oR_TableOf_L0 (d:Nat) {l:List api_Pair} {s7:Int × List api_Pair} {r:(List api_Pair)} (h:oR_TableOf_L0 l s7=some r):RunX (bloop (bexec (wcalls atab (d+2)) KK 25 WB60_0) [0,2,3,4] KK) 0 (inL [0,2,3,4] (st_oR_TableOf_L0 l s7)) (fin_oR_TableOf_L0 l r) :=
  loop_of (st:=st_oR_TableOf_L0 l) (fin:=fin_oR_TableOf_L0 l) (step:=oR_TableOf_L0_s l) (fun e=>by (intro h; cases h)) (fun s x h=>b_oR_TableOf_L0 d h) KK s7 r h
def oR_TableOf (l:List api_Pair):Option (oR_Table) :=
  (oR_TableOf_L0 l (0,[])).bind fun (x11:(List api_Pair))=>some (⟨x11⟩:oR_Table)
def out_oR_TableOf (l:List api_Pair) (r:oR_Table):AV × WH:=((.agg (e_oR_Table r)),[])
theorem s_oR_TableOf (d:Nat) {l:List api_Pair} {r:oR_Table} (h:oR_TableOf l=some r):Spec (wcalls atab (d+3)) 60 [(l_api_Pair l)] [] (out_oR_TableOf l r).1 (out_oR_TableOf l r).2:=by
  obtain ⟨x11,hx11⟩:=wx (oR_TableOf_L0 l (0,[]))
  have e:∀ C:ACalls,wBody C (fun _=>none) KK WF60 [(l_api_Pair l)] [] (.z 2 [.slice none 2 0 0 true] (.z 5 [.agg [.slice none 2 0 0 true]] (.z 3 [.slice none 2 0 0 true] (.st none (.lp [none,none,none,none] [(some true),(some true),(some true),(some true)] [.slice none 2 0 0 true,.undef,.undef,.undef] (.exit 0) [(2,(.ptr (some (0,0)))),(3,(.ptr (some (1,0))))] [(some (.cells [(.acc 2 0 2 0 true)] false false)),(some (.cells [(.acc 3 0 2 x11.length true)] false false)),(some (.cells (F_api_Pair []) false true)),(some (.cells (F_api_Pair x11) false true))] (.st none (.fin (some false) [.agg [.slice none 2 0 0 true]] none))))))) (out_oR_TableOf l r).1 (out_oR_TableOf l r).2=(1=1∧1≤25∧(RunS (bloop (bexec C KK 25 WB60_0) [0,2,3,4] KK) 0 [(0,(l_api_Pair l)),(2,(.ptr (some (0,0)))),(3,(.ptr (some (1,0)))),(4,(.int .i64 0))] [(some (.cells [(.acc 2 0 2 0 true)] false false)),(some (.cells [(.acc 3 0 2 0 true)] false false)),(some (.cells (F_api_Pair []) false true)),(some (.cells (F_api_Pair []) false true))] (.exit 0) [(2,(.ptr (some (0,0)))),(3,(.ptr (some (1,0))))] [(some (.cells [(.acc 2 0 2 0 true)] false false)),(some (.cells [(.acc 3 0 2 x11.length true)] false false)),(some (.cells (F_api_Pair []) false true)),(some (.cells (F_api_Pair x11) false true))]∧lff (out_oR_TableOf l) (⟨x11⟩:oR_Table) r)):=fun C=>by kernel_rfl
  refine spec_of (fun _ _ h=>by cases h) rfl atab_60 WF60_ok ((e _).mpr ⟨rfl,by decide, ?_⟩)
  unfold oR_TableOf at h
  obtain ⟨q11,h⟩:=bget hx11 h
  refine ⟨s_oR_TableOf_L0 (d+0) q11, ?_⟩
  exact lff_of h
def st_oR_Sessions_Last_2_L0 (p_b1:List api_Sess) (client:Int) (s3:Int):List AV × WH:=([(.ptr (some (0,0))),(.int .i64 client),(.ptr (some (2,0))),(.int .i64 s3)],[(some (.cells [(.acc 1 0 4 p_b1.length true)] false false)),(some (.cells (F_api_Sess p_b1) false true)),(some (.cells (e_api_Sess (⟨0,0,(⟨0,([]:List UInt8)⟩:api_Answer)⟩:api_Sess)) false false))])
def fin_oR_Sessions_Last_2_L0 (p_b1:List api_Sess) (client:Int):api_Sess ⊕ Unit→Ex × Fast × WH:=fun
  | .inl e=>(.ret,[(4,(.ptr (some (2,0)))),(5,(.bool true))],[(some (.cells [(.acc 1 0 4 p_b1.length true)] false false)),(some (.cells (F_api_Sess p_b1) false true)),(some (.cells (e_api_Sess e) false false))])
  | .inr e=>((.exit 0),[(4,(.ptr (some (2,0))))],[(some (.cells [(.acc 1 0 4 p_b1.length true)] false false)),(some (.cells (F_api_Sess p_b1) false true)),(some (.cells (e_api_Sess (⟨0,0,(⟨0,([]:List UInt8)⟩:api_Answer)⟩:api_Sess)) false false))])
abbrev rx_oR_Sessions_Last_2_L0 (p_b1:List api_Sess) (client:Int):=roundX [0,1,4,6] (st_oR_Sessions_Last_2_L0 p_b1 client) (fin_oR_Sessions_Last_2_L0 p_b1 client)
def oR_Sessions_Last_2_L0_s (p_b1:List api_Sess) (client:Int) (s3:Int):Option ((Int) ⊕ (api_Sess ⊕ Unit)) :=
  cond (decide (s3 < (p_b1.length:Int))) ((getI p_b1 s3).bind fun (x4:api_Sess)=>cond (x4.Client == client) ((getI p_b1 s3).bind fun (x5:api_Sess)=>some (.inr (.inl x5))) (some (.inl (IntKind.i64.wrap (s3+1))))) (some (.inr (.inr ())))
def oR_Sessions_Last_2_L0 (p_b1:List api_Sess) (client:Int) (s3:Int):Option (api_Sess ⊕ Unit):=loopX (oR_Sessions_Last_2_L0_s p_b1 client) KK s3
theorem b_oR_Sessions_Last_2_L0 (d:Nat) {p_b1:List api_Sess} {client:Int} {s3:Int} {r:(Int) ⊕ (api_Sess ⊕ Unit)} (h:oR_Sessions_Last_2_L0_s p_b1 client s3=some r):RunX (bexec (wcalls atab (d+0)) KK 34 WB115_0) 2 (inL [0,1,4,6] (st_oR_Sessions_Last_2_L0 p_b1 client s3)) (rx_oR_Sessions_Last_2_L0 p_b1 client r):=by
  obtain ⟨x4,hx4⟩:=wx (getI p_b1 s3)
  obtain ⟨x5,hx5⟩:=wx (getI p_b1 s3)
  have e:∀ C:ACalls,wCode C (fun _=>none) KK 34 2 WB115_0 (inL [0,1,4,6] (st_oR_Sessions_Last_2_L0 p_b1 client s3)).1 (inL [0,1,4,6] (st_oR_Sessions_Last_2_L0 p_b1 client s3)).2 (.br 13 (.v 21 (.ptr (some (1,0+s3.toNat * 4))) (.v 23 (.int .i64 x4.Client) (.br 25 (.v 31 (.ptr (some (1,0+s3.toNat * 4))) (.v 32 (.agg (e_api_Sess x5)) (.st none (.en [4,5] [none,none] [] [])))) (.en [0,1,4,6] [none,none,none,none] [] [])))) (.en [4] [none] [] [])) (rx_oR_Sessions_Last_2_L0 p_b1 client r)=(((decide (s3 < (p_b1.length:Int)))=true→(wP (.idxSlice 4 (.c (.acc 1 0 4 p_b1.length true)) (.c (.int .i64 s3)))=some (.ptr (some (1,0+s3.toNat * 4)))∧(cPart false (0+s3.toNat * 4) 1 (F_api_Sess p_b1)=some (.int .i64 x4.Client)∧(((x4.Client == client)=true→(wP (.idxSlice 4 (.c (.acc 1 0 4 p_b1.length true)) (.c (.int .i64 s3)))=some (.ptr (some (1,0+s3.toNat * 4)))∧(cPart true (0+s3.toNat * 4) 4 (F_api_Sess p_b1)=some (.agg (e_api_Sess x5))∧lfe (rx_oR_Sessions_Last_2_L0 p_b1 client) (.inr (.inl x5)) r)))∧((x4.Client == client)=false→lfe (rx_oR_Sessions_Last_2_L0 p_b1 client) (.inl (IntKind.i64.wrap (s3+1))) r)))))∧((decide (s3 < (p_b1.length:Int)))=false→lfe (rx_oR_Sessions_Last_2_L0 p_b1 client) (.inr (.inr ())) r)):=fun C=>by kernel_rfl
  refine runS_of (fun _ _ h=>by cases h) WB115_0_ok (Nat.le_of_ble_eq_true rfl) ((e _).mpr ?_)
  unfold oR_Sessions_Last_2_L0_s at h
  refine ⟨fun hb=>?_,fun hb=>?_⟩
  · have h:=cond_t hb h
    obtain ⟨q4,h⟩:=bget hx4 h
    refine ⟨wP_idxA R_api_Sess q4, ?_⟩
    refine ⟨cP_row (o:=0) R_api_Sess q4 rfl, ?_⟩
    refine ⟨fun hb=>?_,fun hb=>?_⟩
    · have h:=cond_t hb h
      obtain ⟨q5,h⟩:=bget hx5 h
      refine ⟨wP_idxA R_api_Sess q5, ?_⟩
      refine ⟨cP_row (o:=0) R_api_Sess q5 rfl, ?_⟩
      exact lfe_of h
    · have h:=cond_f hb h
      exact lfe_of h
  · have h:=cond_f hb h
    exact lfe_of h
theorem s_oR_Sessions_Last_2_L0 (d:Nat) {p_b1:List api_Sess} {client:Int} {s3:Int} {r:api_Sess ⊕ Unit} (h:oR_Sessions_Last_2_L0 p_b1 client s3=some r):RunX (bloop (bexec (wcalls atab (d+0)) KK 34 WB115_0) [0,1,4,6] KK) 2 (inL [0,1,4,6] (st_oR_Sessions_Last_2_L0 p_b1 client s3)) (fin_oR_Sessions_Last_2_L0 p_b1 client r) :=
  loop_of (st:=st_oR_Sessions_Last_2_L0 p_b1 client) (fin:=fin_oR_Sessions_Last_2_L0 p_b1 client) (step:=oR_Sessions_Last_2_L0_s p_b1 client) (fun e=>by rcases e with e | e <;> (intro h; cases h)) (fun s x h=>b_oR_Sessions_Last_2_L0 d h) KK s3 r h
def oR_Sessions_Last_2 (client:Int) (p_b1:List api_Sess):Option (api_Sess × Bool) :=
  (oR_Sessions_Last_2_L0 p_b1 client 0).bind fun (x6:api_Sess ⊕ Unit)=>cond (isL x6) (some ((getL x6),true)) (some ((⟨0,0,(⟨0,([]:List UInt8)⟩:api_Answer)⟩:api_Sess),false))
def out_oR_Sessions_Last_2 (client:Int) (p_b1:List api_Sess) (r:api_Sess × Bool):AV × WH:=((.tuple [(.agg (e_api_Sess r.1)),(.bool r.2)]),[(some (.cells [(.acc 1 0 4 p_b1.length true)] false false)),(some (.cells (F_api_Sess p_b1) false true))])
theorem s_oR_Sessions_Last_2 (d:Nat) {client:Int} {p_b1:List api_Sess} {r:api_Sess × Bool} (h:oR_Sessions_Last_2 client p_b1=some r):Spec (wcalls atab (d+1)) 115 [(.ptr (some (0,0))),(.int .i64 client)] [(some (.cells [(.acc 1 0 4 p_b1.length true)] false false)),(some (.cells (F_api_Sess p_b1) false true))] (out_oR_Sessions_Last_2 client p_b1 r).1 (out_oR_Sessions_Last_2 client p_b1 r).2:=by
  obtain ⟨x6,hx6⟩:=wx (oR_Sessions_Last_2_L0 p_b1 client 0)
  have e:∀ C:ACalls,wBody C (fun _=>none) KK WF115 [(.ptr (some (0,0))),(.int .i64 client)] [(some (.cells [(.acc 1 0 4 p_b1.length true)] false false)),(some (.cells (F_api_Sess p_b1) false true))] (.ite (isL x6) (.lp [none,none,none,none] [] [] .ret [(4,(.ptr (some (2,0)))),(5,(.bool true))] [(some (.cells [(.acc 1 0 4 p_b1.length true)] false false)),(some (.cells (F_api_Sess p_b1) false true)),(some (.cells (e_api_Sess (getL x6)) false false))] (.fin (some false) [] none)) (.lp [none,none,none,none] [] [] (.exit 0) [(4,(.ptr (some (2,0))))] [(some (.cells [(.acc 1 0 4 p_b1.length true)] false false)),(some (.cells (F_api_Sess p_b1) false true)),(some (.cells (e_api_Sess (⟨0,0,(⟨0,([]:List UInt8)⟩:api_Answer)⟩:api_Sess)) false false))] (.st none (.fin (some false) [] none)))) (out_oR_Sessions_Last_2 client p_b1 r).1 (out_oR_Sessions_Last_2 client p_b1 r).2=(2=2∧2≤34∧(((isL x6)=true→(RunS (bloop (bexec C KK 34 WB115_0) [0,1,4,6] KK) 2 [(0,(.ptr (some (0,0)))),(1,(.int .i64 client)),(4,(.ptr (some (2,0)))),(6,(.int .i64 0))] [(some (.cells [(.acc 1 0 4 p_b1.length true)] false false)),(some (.cells (F_api_Sess p_b1) false true)),(some (.cells (e_api_Sess (⟨0,0,(⟨0,([]:List UInt8)⟩:api_Answer)⟩:api_Sess)) false false))] .ret [(4,(.ptr (some (2,0)))),(5,(.bool true))] [(some (.cells [(.acc 1 0 4 p_b1.length true)] false false)),(some (.cells (F_api_Sess p_b1) false true)),(some (.cells (e_api_Sess (getL x6)) false false))]∧lff (out_oR_Sessions_Last_2 client p_b1) ((getL x6),true) r))∧((isL x6)=false→(RunS (bloop (bexec C KK 34 WB115_0) [0,1,4,6] KK) 2 [(0,(.ptr (some (0,0)))),(1,(.int .i64 client)),(4,(.ptr (some (2,0)))),(6,(.int .i64 0))] [(some (.cells [(.acc 1 0 4 p_b1.length true)] false false)),(some (.cells (F_api_Sess p_b1) false true)),(some (.cells (e_api_Sess (⟨0,0,(⟨0,([]:List UInt8)⟩:api_Answer)⟩:api_Sess)) false false))] (.exit 0) [(4,(.ptr (some (2,0))))] [(some (.cells [(.acc 1 0 4 p_b1.length true)] false false)),(some (.cells (F_api_Sess p_b1) false true)),(some (.cells (e_api_Sess (⟨0,0,(⟨0,([]:List UInt8)⟩:api_Answer)⟩:api_Sess)) false false))]∧lff (out_oR_Sessions_Last_2 client p_b1) ((⟨0,0,(⟨0,([]:List UInt8)⟩:api_Answer)⟩:api_Sess),false) r)))):=fun C=>by kernel_rfl
  refine spec_of (fun _ _ h=>by cases h) rfl atab_115 WF115_ok ((e _).mpr ⟨rfl,by decide, ?_⟩)
  unfold oR_Sessions_Last_2 at h
  obtain ⟨q6,h⟩:=bget hx6 h
  refine ⟨fun hb7=>?_,fun hb7=>?_⟩
  · have h:=cond_t hb7 h
    refine ⟨by have h:=s_oR_Sessions_Last_2_L0 (d+0) q6; rw [isL_t hb7] at h; exact h, ?_⟩
    exact lff_of h
  · have h:=cond_f hb7 h
    refine ⟨by have h:=s_oR_Sessions_Last_2_L0 (d+0) q6; rw [isL_f hb7] at h; exact h, ?_⟩
    exact lff_of h
abbrev in_oR_Sessions_Note_2_J0 (p_x:api_Sess) (x1:api_Sess × Bool) (p_b1:List api_Sess):Fast × WH:=([(0,(.ptr (some (0,0)))),(3,(.ptr (some (2,0)))),(5,(.ptr (some (3,0))))],[(some (.cells [(.acc 1 0 4 p_b1.length true)] false false)),(some (.cells (F_api_Sess p_b1) false true)),(some (.cells (e_api_Sess p_x) false false)),(some (.cells (e_api_Sess x1.1) false false))])
def fin_oR_Sessions_Note_2_J0 (p_x:api_Sess) (x1:api_Sess × Bool) (p_b1:List api_Sess):Unit ⊕ Unit→Ex × Fast × WH:=fun
  | .inl e=>(.ret,[(4,(.bool false))],[(some (.cells [(.acc 1 0 4 p_b1.length true)] false false)),(some (.cells (F_api_Sess p_b1) false true))])
  | .inr e=>(.normal,[(0,(.ptr (some (0,0)))),(3,(.ptr (some (2,0))))],[(some (.cells [(.acc 1 0 4 p_b1.length true)] false false)),(some (.cells (F_api_Sess p_b1) false true)),(some (.cells (e_api_Sess p_x) false false))])
def oR_Sessions_Note_2_J0 (p_x:api_Sess) (x1:api_Sess × Bool) (p_b1:List api_Sess):Option (Unit ⊕ Unit) :=
  cond (decide (p_x.Client < 0)) (some (.inl ())) (cond (decide (p_x.Client ≥ 4)) (some (.inl ())) (cond (decide (p_x.Seq < 1)) (some (.inl ())) (cond (decide (p_x.Seq≤x1.1.Seq)) (some (.inl ())) (some (.inr ())))))
theorem s_oR_Sessions_Note_2_J0 (d:Nat) {p_x:api_Sess} {x1:api_Sess × Bool} {p_b1:List api_Sess} {r:Unit ⊕ Unit} (h:oR_Sessions_Note_2_J0 p_x x1 p_b1=some r):RunX (bexec (wcalls atab (d+0)) KK 96 WJ116_bba) 2 (in_oR_Sessions_Note_2_J0 p_x x1 p_b1) (fin_oR_Sessions_Note_2_J0 p_x x1 p_b1 r):=by
  have e:∀ C:ACalls,wCode C (fun _=>none) KK 96 2 WJ116_bba (in_oR_Sessions_Note_2_J0 p_x x1 p_b1).1 (in_oR_Sessions_Note_2_J0 p_x x1 p_b1).2 (.br 20 (.en [4] [none] [] []) (.br 25 (.en [4] [none] [] []) (.br 30 (.en [4] [none] [] []) (.br 36 (.en [4] [none] [] []) (.en [0,3] [none,none] [] []))))) (fin_oR_Sessions_Note_2_J0 p_x x1 p_b1 r)=(((decide (p_x.Client < 0))=true→lfe (fin_oR_Sessions_Note_2_J0 p_x x1 p_b1) (.inl ()) r)∧((decide (p_x.Client < 0))=false→(((decide (p_x.Client ≥ 4))=true→lfe (fin_oR_Sessions_Note_2_J0 p_x x1 p_b1) (.inl ()) r)∧((decide (p_x.Client ≥ 4))=false→(((decide (p_x.Seq < 1))=true→lfe (fin_oR_Sessions_Note_2_J0 p_x x1 p_b1) (.inl ()) r)∧((decide (p_x.Seq < 1))=false→(((decide (p_x.Seq≤x1.1.Seq))=true→lfe (fin_oR_Sessions_Note_2_J0 p_x x1 p_b1) (.inl ()) r)∧((decide (p_x.Seq≤x1.1.Seq))=false→lfe (fin_oR_Sessions_Note_2_J0 p_x x1 p_b1) (.inr ()) r)))))))):=fun C=>by kernel_rfl
  refine runS_of (fun _ _ h=>by cases h) WJ116_bba_ok (Nat.le_of_ble_eq_true rfl) ((e _).mpr ?_)
  unfold oR_Sessions_Note_2_J0 at h
  refine ⟨fun hb=>?_,fun hb=>?_⟩
  · have h:=cond_t hb h
    exact lfe_of h
  · have h:=cond_f hb h
    refine ⟨fun hb=>?_,fun hb=>?_⟩
    · have h:=cond_t hb h
      exact lfe_of h
    · have h:=cond_f hb h
      refine ⟨fun hb=>?_,fun hb=>?_⟩
      · have h:=cond_t hb h
        exact lfe_of h
      · have h:=cond_f hb h
        refine ⟨fun hb=>?_,fun hb=>?_⟩
        · have h:=cond_t hb h
          exact lfe_of h
        · have h:=cond_f hb h
          exact lfe_of h
abbrev in_oR_Sessions_Note_2_J1 (s18:Bool × Int × List api_Sess) (p_b1:List api_Sess) (p_x:api_Sess):Fast × WH:=([(0,(.ptr (some (0,0)))),(3,(.ptr (some (2,0)))),(7,(.acc 3 0 4 s18.2.2.length true)),(8,(.bool s18.1)),(9,(.int .i64 s18.2.1))],[(some (.cells [(.acc 1 0 4 p_b1.length true)] false false)),(some (.cells (F_api_Sess p_b1) false true)),(some (.cells (e_api_Sess p_x) false false)),(some (.cells (F_api_Sess s18.2.2) false true))])
def fin_oR_Sessions_Note_2_J1 (s18:Bool × Int × List api_Sess) (p_b1:List api_Sess) (p_x:api_Sess):Bool→Ex × Fast × WH:=fun e=>(.normal,[(0,(.ptr (some (0,0)))),(3,(.ptr (some (2,0)))),(7,(.acc 3 0 4 s18.2.2.length true)),(8,(.bool s18.1)),(9,(.int .i64 s18.2.1)),(60,(.bool e))],[(some (.cells [(.acc 1 0 4 p_b1.length true)] false false)),(some (.cells (F_api_Sess p_b1) false true)),(some (.cells (e_api_Sess p_x) false false)),(some (.cells (F_api_Sess s18.2.2) false true))])
def oR_Sessions_Note_2_J1 (s18:Bool × Int × List api_Sess) (p_b1:List api_Sess) (p_x:api_Sess):Option (Bool) :=
  cond (!s18.1) ((getI p_b1 s18.2.1).bind fun (x19:api_Sess)=>some (decide (x19.Client ≥ p_x.Client))) (some false)
theorem s_oR_Sessions_Note_2_J1 (d:Nat) {s18:Bool × Int × List api_Sess} {p_b1:List api_Sess} {p_x:api_Sess} {r:Bool} (h:oR_Sessions_Note_2_J1 s18 p_b1 p_x=some r):RunX (bexec (wcalls atab (d+0)) KK 96 WJ116_bbbbbabklbakaa) 2 (in_oR_Sessions_Note_2_J1 s18 p_b1 p_x) (fin_oR_Sessions_Note_2_J1 s18 p_b1 p_x r):=by
  obtain ⟨x19,hx19⟩:=wx (getI p_b1 s18.2.1)
  have e:∀ C:ACalls,wCode C (fun _=>none) KK 96 2 WJ116_bbbbbabklbakaa (in_oR_Sessions_Note_2_J1 s18 p_b1 p_x).1 (in_oR_Sessions_Note_2_J1 s18 p_b1 p_x).2 (.br 48 (.v 54 (.ptr (some (1,0+s18.2.1.toNat * 4))) (.v 56 (.int .i64 x19.Client) (.en [0,3,7,8,9,60] [none,none,none,none,none,none] [] [.undef,.undef,.slice none 4 0 0 true,.undef,.undef,.undef]))) (.en [0,3,7,8,9,60] [none,none,none,none,none,none] [] [.undef,.undef,.slice none 4 0 0 true,.undef,.undef,.undef])) (fin_oR_Sessions_Note_2_J1 s18 p_b1 p_x r)=(((!s18.1)=true→(wP (.idxSlice 4 (.c (.acc 1 0 4 p_b1.length true)) (.c (.int .i64 s18.2.1)))=some (.ptr (some (1,0+s18.2.1.toNat * 4)))∧(cPart false (0+s18.2.1.toNat * 4) 1 (F_api_Sess p_b1)=some (.int .i64 x19.Client)∧lfe (fin_oR_Sessions_Note_2_J1 s18 p_b1 p_x) (decide (x19.Client ≥ p_x.Client)) r)))∧((!s18.1)=false→lfe (fin_oR_Sessions_Note_2_J1 s18 p_b1 p_x) false r)):=fun C=>by kernel_rfl
  refine runS_of (fun _ _ h=>by cases h) WJ116_bbbbbabklbakaa_ok (Nat.le_of_ble_eq_true rfl) ((e _).mpr ?_)
  unfold oR_Sessions_Note_2_J1 at h
  refine ⟨fun hb=>?_,fun hb=>?_⟩
  · have h:=cond_t hb h
    obtain ⟨q19,h⟩:=bget hx19 h
    refine ⟨wP_idxA R_api_Sess q19, ?_⟩
    refine ⟨cP_row (o:=0) R_api_Sess q19 rfl, ?_⟩
    exact lfe_of h
  · have h:=cond_f hb h
    exact lfe_of h
abbrev in_oR_Sessions_Note_2_J2 (s18:Bool × Int × List api_Sess) (p_b1:List api_Sess) (p_x:api_Sess):Fast × WH:=([(0,(.ptr (some (0,0)))),(3,(.ptr (some (2,0)))),(7,(.acc 3 0 4 s18.2.2.length true)),(8,(.bool s18.1)),(9,(.int .i64 s18.2.1))],[(some (.cells [(.acc 1 0 4 p_b1.length true)] false false)),(some (.cells (F_api_Sess p_b1) false true)),(some (.cells (e_api_Sess p_x) false false)),(some (.cells (F_api_Sess s18.2.2) false true))])
def fin_oR_Sessions_Note_2_J2 (s18:Bool × Int × List api_Sess) (p_b1:List api_Sess) (p_x:api_Sess):(Bool × List api_Sess)→Ex × Fast × WH:=fun e=>(.normal,[(0,(.ptr (some (0,0)))),(3,(.ptr (some (2,0)))),(7,(.acc 3 0 4 e.2.length true)),(8,(.bool e.1)),(9,(.int .i64 s18.2.1))],[(some (.cells [(.acc 1 0 4 p_b1.length true)] false false)),(some (.cells (F_api_Sess p_b1) false true)),(some (.cells (e_api_Sess p_x) false false)),(some (.cells (F_api_Sess e.2) false true))])
def oR_Sessions_Note_2_J2 (s18:Bool × Int × List api_Sess) (p_b1:List api_Sess) (p_x:api_Sess):Option ((Bool × List api_Sess)) :=
  (oR_Sessions_Note_2_J1 s18 p_b1 p_x).bind fun (x20:Bool)=>cond x20 (gd (fitsB 40 (s18.2.2 ++ [p_x]).length) (some (true,(s18.2.2 ++ [p_x])))) (some (s18.1,s18.2.2))
theorem s_oR_Sessions_Note_2_J2 (d:Nat) {s18:Bool × Int × List api_Sess} {p_b1:List api_Sess} {p_x:api_Sess} {r:(Bool × List api_Sess)} (h:oR_Sessions_Note_2_J2 s18 p_b1 p_x=some r):RunX (bexec (wcalls atab (d+0)) KK 96 WJ116_bbbbbabklbaka) 2 (in_oR_Sessions_Note_2_J2 s18 p_b1 p_x) (fin_oR_Sessions_Note_2_J2 s18 p_b1 p_x r):=by
  obtain ⟨x20,hx20⟩:=wx (oR_Sessions_Note_2_J1 s18 p_b1 p_x)
  have e:∀ C:ACalls,wCode C (fun _=>none) KK 96 2 WJ116_bbbbbabklbaka (in_oR_Sessions_Note_2_J2 s18 p_b1 p_x).1 (in_oR_Sessions_Note_2_J2 s18 p_b1 p_x).2 (.jn [0,3,7,8,9] [none,none,none,none,none] [] [.undef,.undef,.slice none 4 0 0 true,.undef,.undef] .normal [(0,(.ptr (some (0,0)))),(3,(.ptr (some (2,0)))),(7,(.acc 3 0 4 s18.2.2.length true)),(8,(.bool s18.1)),(9,(.int .i64 s18.2.1)),(60,(.bool x20))] [(some (.cells [(.acc 1 0 4 p_b1.length true)] false false)),(some (.cells (F_api_Sess p_b1) false true)),(some (.cells (e_api_Sess p_x) false false)),(some (.cells (F_api_Sess s18.2.2) false true))] (.br 60 (.ap 64 (s18.2.2 ++ [p_x]).length (F_api_Sess (s18.2.2 ++ [p_x])) (.en [0,3,7,8,9] [none,none,none,none,none] [] [.undef,.undef,.slice none 4 0 0 true,.undef,.undef])) (.en [0,3,7,8,9] [none,none,none,none,none] [] [.undef,.undef,.slice none 4 0 0 true,.undef,.undef]))) (fin_oR_Sessions_Note_2_J2 s18 p_b1 p_x r)=(RunS (bexec C KK 96 WJ116_bbbbbabklbakaa) 2 [(0,(.ptr (some (0,0)))),(3,(.ptr (some (2,0)))),(7,(.acc 3 0 4 s18.2.2.length true)),(8,(.bool s18.1)),(9,(.int .i64 s18.2.1))] [(some (.cells [(.acc 1 0 4 p_b1.length true)] false false)),(some (.cells (F_api_Sess p_b1) false true)),(some (.cells (e_api_Sess p_x) false false)),(some (.cells (F_api_Sess s18.2.2) false true))] .normal [(0,(.ptr (some (0,0)))),(3,(.ptr (some (2,0)))),(7,(.acc 3 0 4 s18.2.2.length true)),(8,(.bool s18.1)),(9,(.int .i64 s18.2.1)),(60,(.bool x20))] [(some (.cells [(.acc 1 0 4 p_b1.length true)] false false)),(some (.cells (F_api_Sess p_b1) false true)),(some (.cells (e_api_Sess p_x) false false)),(some (.cells (F_api_Sess s18.2.2) false true))]∧((x20=true→(s18.2.2.length+1=(s18.2.2 ++ [p_x]).length∧(F_api_Sess s18.2.2 ++ F_api_Sess [p_x]=F_api_Sess (s18.2.2 ++ [p_x])∧(fitsB 40 (s18.2.2 ++ [p_x]).length=true∧lfe (fin_oR_Sessions_Note_2_J2 s18 p_b1 p_x) (true,(s18.2.2 ++ [p_x])) r))))∧(x20=false→lfe (fin_oR_Sessions_Note_2_J2 s18 p_b1 p_x) (s18.1,s18.2.2) r))):=fun C=>by kernel_rfl
  refine runS_of (fun _ _ h=>by cases h) WJ116_bbbbbabklbaka_ok (Nat.le_of_ble_eq_true rfl) ((e _).mpr ?_)
  unfold oR_Sessions_Note_2_J2 at h
  obtain ⟨q20,h⟩:=bget hx20 h
  refine ⟨s_oR_Sessions_Note_2_J1 (d+0) q20, ?_⟩
  refine ⟨fun hb=>?_,fun hb=>?_⟩
  · have h:=cond_t hb h
    obtain ⟨q21,h⟩:=gd_some h
    refine ⟨by simp, ?_⟩
    refine ⟨(Row.app R_api_Sess _ _).symm, ?_⟩
    refine ⟨q21, ?_⟩
    exact lfe_of h
  · have h:=cond_f hb h
    exact lfe_of h
def st_oR_Sessions_Note_2_L3 (p_b1:List api_Sess) (p_x:api_Sess) (s18:Bool × Int × List api_Sess):List AV × WH:=([(.ptr (some (0,0))),(.ptr (some (2,0))),(.acc 3 0 4 s18.2.2.length true),(.bool s18.1),(.int .i64 s18.2.1)],[(some (.cells [(.acc 1 0 4 p_b1.length true)] false false)),(some (.cells (F_api_Sess p_b1) false true)),(some (.cells (e_api_Sess p_x) false false)),(some (.cells (F_api_Sess s18.2.2) false true))])
def fin_oR_Sessions_Note_2_L3 (p_b1:List api_Sess) (p_x:api_Sess):(Bool × List api_Sess)→Ex × Fast × WH:=fun e=>((.exit 0),[(0,(.ptr (some (0,0)))),(3,(.ptr (some (2,0)))),(7,(.acc 3 0 4 e.2.length true)),(8,(.bool e.1))],[(some (.cells [(.acc 1 0 4 p_b1.length true)] false false)),(some (.cells (F_api_Sess p_b1) false true)),(some (.cells (e_api_Sess p_x) false false)),(some (.cells (F_api_Sess e.2) false true))])
abbrev rx_oR_Sessions_Note_2_L3 (p_b1:List api_Sess) (p_x:api_Sess):=roundX [0,3,7,8,9] (st_oR_Sessions_Note_2_L3 p_b1 p_x) (fin_oR_Sessions_Note_2_L3 p_b1 p_x)
def oR_Sessions_Note_2_L3_s (p_b1:List api_Sess) (p_x:api_Sess) (s18:Bool × Int × List api_Sess):Option ((Bool × Int × List api_Sess) ⊕ ((Bool × List api_Sess))) :=
  cond (decide (s18.2.1 < (p_b1.length:Int))) ((oR_Sessions_Note_2_J2 s18 p_b1 p_x).bind fun (x22:(Bool × List api_Sess))=>(getI p_b1 s18.2.1).bind fun (x23:api_Sess)=>cond (x23.Client != p_x.Client) ((getI p_b1 s18.2.1).bind fun (x24:api_Sess)=>gd (fitsB 40 (x22.2 ++ [x24]).length) (some (.inl (x22.1,(IntKind.i64.wrap (s18.2.1+1)),(x22.2 ++ [x24]))))) (some (.inl (x22.1,(IntKind.i64.wrap (s18.2.1+1)),x22.2)))) (some (.inr (s18.1,s18.2.2)))
def oR_Sessions_Note_2_L3 (p_b1:List api_Sess) (p_x:api_Sess) (s18:Bool × Int × List api_Sess):Option ((Bool × List api_Sess)):=loopX (oR_Sessions_Note_2_L3_s p_b1 p_x) KK s18
theorem b_oR_Sessions_Note_2_L3 (d:Nat) {p_b1:List api_Sess} {p_x:api_Sess} {s18:Bool × Int × List api_Sess} {r:(Bool × Int × List api_Sess) ⊕ ((Bool × List api_Sess))} (h:oR_Sessions_Note_2_L3_s p_b1 p_x s18=some r):RunX (bexec (wcalls atab (d+0)) KK 96 WB116_0) 2 (inL [0,3,7,8,9] (st_oR_Sessions_Note_2_L3 p_b1 p_x s18)) (rx_oR_Sessions_Note_2_L3 p_b1 p_x r):=by
  obtain ⟨x22,hx22⟩:=wx (oR_Sessions_Note_2_J2 s18 p_b1 p_x)
  obtain ⟨x23,hx23⟩:=wx (getI p_b1 s18.2.1)
  obtain ⟨x24,hx24⟩:=wx (getI p_b1 s18.2.1)
  have e:∀ C:ACalls,wCode C (fun _=>none) KK 96 2 WB116_0 (inL [0,3,7,8,9] (st_oR_Sessions_Note_2_L3 p_b1 p_x s18)).1 (inL [0,3,7,8,9] (st_oR_Sessions_Note_2_L3 p_b1 p_x s18)).2 (.br 43 (.sk (.jn [0,3,7,8,9] [none,none,none,none,none] [] [.undef,.undef,.slice none 4 0 0 true,.undef,.undef] .normal [(0,(.ptr (some (0,0)))),(3,(.ptr (some (2,0)))),(7,(.acc 3 0 4 x22.2.length true)),(8,(.bool x22.1)),(9,(.int .i64 s18.2.1))] [(some (.cells [(.acc 1 0 4 p_b1.length true)] false false)),(some (.cells (F_api_Sess p_b1) false true)),(some (.cells (e_api_Sess p_x) false false)),(some (.cells (F_api_Sess x22.2) false true))] (.v 70 (.ptr (some (1,0+s18.2.1.toNat * 4))) (.v 72 (.int .i64 x23.Client) (.br 75 (.v 82 (.ptr (some (1,0+s18.2.1.toNat * 4))) (.v 83 (.agg (e_api_Sess x24)) (.ap 85 (x22.2 ++ [x24]).length (F_api_Sess (x22.2 ++ [x24])) (.en [0,3,7,8,9] [none,none,none,none,none] [] [.undef,.undef,.slice none 4 0 0 true,.undef,.undef])))) (.en [0,3,7,8,9] [none,none,none,none,none] [] [.undef,.undef,.slice none 4 0 0 true,.undef,.undef])))))) (.en [0,3,7,8] [none,none,none,none] [] [.undef,.undef,.slice none 4 0 0 true,.undef])) (rx_oR_Sessions_Note_2_L3 p_b1 p_x r)=(((decide (s18.2.1 < (p_b1.length:Int)))=true→(RunS (bexec C KK 96 WJ116_bbbbbabklbaka) 2 [(0,(.ptr (some (0,0)))),(3,(.ptr (some (2,0)))),(7,(.acc 3 0 4 s18.2.2.length true)),(8,(.bool s18.1)),(9,(.int .i64 s18.2.1))] [(some (.cells [(.acc 1 0 4 p_b1.length true)] false false)),(some (.cells (F_api_Sess p_b1) false true)),(some (.cells (e_api_Sess p_x) false false)),(some (.cells (F_api_Sess s18.2.2) false true))] .normal [(0,(.ptr (some (0,0)))),(3,(.ptr (some (2,0)))),(7,(.acc 3 0 4 x22.2.length true)),(8,(.bool x22.1)),(9,(.int .i64 s18.2.1))] [(some (.cells [(.acc 1 0 4 p_b1.length true)] false false)),(some (.cells (F_api_Sess p_b1) false true)),(some (.cells (e_api_Sess p_x) false false)),(some (.cells (F_api_Sess x22.2) false true))]∧(wP (.idxSlice 4 (.c (.acc 1 0 4 p_b1.length true)) (.c (.int .i64 s18.2.1)))=some (.ptr (some (1,0+s18.2.1.toNat * 4)))∧(cPart false (0+s18.2.1.toNat * 4) 1 (F_api_Sess p_b1)=some (.int .i64 x23.Client)∧(((x23.Client != p_x.Client)=true→(wP (.idxSlice 4 (.c (.acc 1 0 4 p_b1.length true)) (.c (.int .i64 s18.2.1)))=some (.ptr (some (1,0+s18.2.1.toNat * 4)))∧(cPart true (0+s18.2.1.toNat * 4) 4 (F_api_Sess p_b1)=some (.agg (e_api_Sess x24))∧(x22.2.length+1=(x22.2 ++ [x24]).length∧(F_api_Sess x22.2 ++ F_api_Sess [x24]=F_api_Sess (x22.2 ++ [x24])∧(fitsB 40 (x22.2 ++ [x24]).length=true∧lfe (rx_oR_Sessions_Note_2_L3 p_b1 p_x) (.inl (x22.1,(IntKind.i64.wrap (s18.2.1+1)),(x22.2 ++ [x24]))) r))))))∧((x23.Client != p_x.Client)=false→lfe (rx_oR_Sessions_Note_2_L3 p_b1 p_x) (.inl (x22.1,(IntKind.i64.wrap (s18.2.1+1)),x22.2)) r))))))∧((decide (s18.2.1 < (p_b1.length:Int)))=false→lfe (rx_oR_Sessions_Note_2_L3 p_b1 p_x) (.inr (s18.1,s18.2.2)) r)):=fun C=>by kernel_rfl
  refine runS_of (fun _ _ h=>by cases h) WB116_0_ok (Nat.le_of_ble_eq_true rfl) ((e _).mpr ?_)
  unfold oR_Sessions_Note_2_L3_s at h
  refine ⟨fun hb=>?_,fun hb=>?_⟩
  · have h:=cond_t hb h
    obtain ⟨q22,h⟩:=bget hx22 h
    refine ⟨s_oR_Sessions_Note_2_J2 (d+0) q22, ?_⟩
    obtain ⟨q23,h⟩:=bget hx23 h
    refine ⟨wP_idxA R_api_Sess q23, ?_⟩
    refine ⟨cP_row (o:=0) R_api_Sess q23 rfl, ?_⟩
    refine ⟨fun hb=>?_,fun hb=>?_⟩
    · have h:=cond_t hb h
      obtain ⟨q24,h⟩:=bget hx24 h
      refine ⟨wP_idxA R_api_Sess q24, ?_⟩
      refine ⟨cP_row (o:=0) R_api_Sess q24 rfl, ?_⟩
      obtain ⟨q25,h⟩:=gd_some h
      refine ⟨by simp, ?_⟩
      refine ⟨(Row.app R_api_Sess _ _).symm, ?_⟩
      refine ⟨q25, ?_⟩
      exact lfe_of h
    · have h:=cond_f hb h
      exact lfe_of h
  · have h:=cond_f hb h
    exact lfe_of h
theorem s_oR_Sessions_Note_2_L3 (d:Nat) {p_b1:List api_Sess} {p_x:api_Sess} {s18:Bool × Int × List api_Sess} {r:(Bool × List api_Sess)} (h:oR_Sessions_Note_2_L3 p_b1 p_x s18=some r):RunX (bloop (bexec (wcalls atab (d+0)) KK 96 WB116_0) [0,3,7,8,9] KK) 2 (inL [0,3,7,8,9] (st_oR_Sessions_Note_2_L3 p_b1 p_x s18)) (fin_oR_Sessions_Note_2_L3 p_b1 p_x r) :=
  loop_of (st:=st_oR_Sessions_Note_2_L3 p_b1 p_x) (fin:=fin_oR_Sessions_Note_2_L3 p_b1 p_x) (step:=oR_Sessions_Note_2_L3_s p_b1 p_x) (fun e=>by (intro h; cases h)) (fun s x h=>b_oR_Sessions_Note_2_L3 d h) KK s18 r h
abbrev in_oR_Sessions_Note_2_J4 (x26:(Bool × List api_Sess)) (p_x:api_Sess) (p_b1:List api_Sess):Fast × WH:=([(0,(.ptr (some (0,0)))),(3,(.ptr (some (2,0)))),(7,(.acc 3 0 4 x26.2.length true)),(8,(.bool x26.1))],[(some (.cells [(.acc 1 0 4 p_b1.length true)] false false)),(some (.cells (F_api_Sess p_b1) false true)),(some (.cells (e_api_Sess p_x) false false)),(some (.cells (F_api_Sess x26.2) false true))])
def fin_oR_Sessions_Note_2_J4 (x26:(Bool × List api_Sess)) (p_x:api_Sess) (p_b1:List api_Sess):(List api_Sess)→Ex × Fast × WH:=fun e=>(.normal,[(0,(.ptr (some (0,0)))),(7,(.acc 2 0 4 e.length true))],[(some (.cells [(.acc 1 0 4 p_b1.length true)] false false)),(some (.cells (F_api_Sess p_b1) false true)),(some (.cells (F_api_Sess e) false true))])
def oR_Sessions_Note_2_J4 (x26:(Bool × List api_Sess)) (p_x:api_Sess) (p_b1:List api_Sess):Option ((List api_Sess)) :=
  cond (!x26.1) (gd (fitsB 40 (x26.2 ++ [p_x]).length) (some (x26.2 ++ [p_x]))) (some x26.2)
theorem s_oR_Sessions_Note_2_J4 (d:Nat) {x26:(Bool × List api_Sess)} {p_x:api_Sess} {p_b1:List api_Sess} {r:(List api_Sess)} (h:oR_Sessions_Note_2_J4 x26 p_x p_b1=some r):RunX (bexec (wcalls atab (d+0)) KK 96 WJ116_bbbbbba) 2 (in_oR_Sessions_Note_2_J4 x26 p_x p_b1) (fin_oR_Sessions_Note_2_J4 x26 p_x p_b1 r):=by
  have e:∀ C:ACalls,wCode C (fun _=>none) KK 96 2 WJ116_bbbbbba (in_oR_Sessions_Note_2_J4 x26 p_x p_b1).1 (in_oR_Sessions_Note_2_J4 x26 p_x p_b1).2 (.br 87 (.ap 91 (x26.2 ++ [p_x]).length (F_api_Sess (x26.2 ++ [p_x])) (.en [0,7] [none,none] [] [.undef,.slice none 4 0 0 true])) (.en [0,7] [none,none] [] [.undef,.slice none 4 0 0 true])) (fin_oR_Sessions_Note_2_J4 x26 p_x p_b1 r)=(((!x26.1)=true→(x26.2.length+1=(x26.2 ++ [p_x]).length∧(F_api_Sess x26.2 ++ F_api_Sess [p_x]=F_api_Sess (x26.2 ++ [p_x])∧(fitsB 40 (x26.2 ++ [p_x]).length=true∧lfe (fin_oR_Sessions_Note_2_J4 x26 p_x p_b1) (x26.2 ++ [p_x]) r))))∧((!x26.1)=false→lfe (fin_oR_Sessions_Note_2_J4 x26 p_x p_b1) x26.2 r)):=fun C=>by kernel_rfl
  refine runS_of (fun _ _ h=>by cases h) WJ116_bbbbbba_ok (Nat.le_of_ble_eq_true rfl) ((e _).mpr ?_)
  unfold oR_Sessions_Note_2_J4 at h
  refine ⟨fun hb=>?_,fun hb=>?_⟩
  · have h:=cond_t hb h
    obtain ⟨q27,h⟩:=gd_some h
    refine ⟨by simp, ?_⟩
    refine ⟨(Row.app R_api_Sess _ _).symm, ?_⟩
    refine ⟨q27, ?_⟩
    exact lfe_of h
  · have h:=cond_f hb h
    exact lfe_of h
def oR_Sessions_Note_2 (p_x:api_Sess) (p_b1:List api_Sess):Option (Bool × List api_Sess) :=
  (oR_Sessions_Last_2 p_x.Client p_b1).bind fun (x1:api_Sess × Bool)=>(oR_Sessions_Note_2_J0 p_x x1 p_b1).bind fun (x2:Unit ⊕ Unit)=>cond (isL x2) (some (false,p_b1)) ((oR_Sessions_Note_2_L3 p_b1 p_x (false,0,[])).bind fun (x26:(Bool × List api_Sess))=>(oR_Sessions_Note_2_J4 x26 p_x p_b1).bind fun (x28:(List api_Sess))=>some (true,x28))
def out_oR_Sessions_Note_2 (p_x:api_Sess) (p_b1:List api_Sess) (r:Bool × List api_Sess):AV × WH:=((.bool r.1),[(some (.cells [(.acc 2 0 4 r.2.length true)] false false)),none,(some (.cells (F_api_Sess r.2) false true))])
theorem s_oR_Sessions_Note_2 (d:Nat) {p_x:api_Sess} {p_b1:List api_Sess} {r:Bool × List api_Sess} (h:oR_Sessions_Note_2 p_x p_b1=some r):Spec (wcalls atab (d+2)) 116 [(.ptr (some (0,0))),(.agg (e_api_Sess p_x))] [(some (.cells [(.acc 1 0 4 p_b1.length true)] false false)),(some (.cells (F_api_Sess p_b1) false true))] (out_oR_Sessions_Note_2 p_x p_b1 r).1 (out_oR_Sessions_Note_2 p_x p_b1 r).2:=by
  obtain ⟨x1,hx1⟩:=wx (oR_Sessions_Last_2 p_x.Client p_b1)
  obtain ⟨x2,hx2⟩:=wx (oR_Sessions_Note_2_J0 p_x x1 p_b1)
  obtain ⟨x26,hx26⟩:=wx (oR_Sessions_Note_2_L3 p_b1 p_x (false,0,[]))
  obtain ⟨x28,hx28⟩:=wx (oR_Sessions_Note_2_J4 x26 p_x p_b1)
  have e:∀ C:ACalls,wBody C (fun _=>none) KK WF116 [(.ptr (some (0,0))),(.agg (e_api_Sess p_x))] [(some (.cells [(.acc 1 0 4 p_b1.length true)] false false)),(some (.cells (F_api_Sess p_b1) false true))] (.call [] none [] (.tuple [(.agg (e_api_Sess x1.1)),(.bool x1.2)]) [(some (.cells [(.acc 1 0 4 p_b1.length true)] false false)),(some (.cells (F_api_Sess p_b1) false true))] (.st none (.ite (isL x2) (.jn [0,3,5] [none,none,none] [] [] .ret [(4,(.bool false))] [(some (.cells [(.acc 1 0 4 p_b1.length true)] false false)),(some (.cells (F_api_Sess p_b1) false true))] (.fin (some false) [] (some true))) (.jn [0,3,5] [none,none,none] [] [] .normal [(0,(.ptr (some (0,0)))),(3,(.ptr (some (2,0))))] [(some (.cells [(.acc 1 0 4 p_b1.length true)] false false)),(some (.cells (F_api_Sess p_b1) false true)),(some (.cells (e_api_Sess p_x) false false))] (.z 7 [.slice none 4 0 0 true] (.lp [none,none,(some true),none,none] [] [.undef,.undef,.slice none 4 0 0 true,.undef,.undef] (.exit 0) [(0,(.ptr (some (0,0)))),(3,(.ptr (some (2,0)))),(7,(.acc 3 0 4 x26.2.length true)),(8,(.bool x26.1))] [(some (.cells [(.acc 1 0 4 p_b1.length true)] false false)),(some (.cells (F_api_Sess p_b1) false true)),(some (.cells (e_api_Sess p_x) false false)),(some (.cells (F_api_Sess x26.2) false true))] (.jn [0,3,7,8] [none,none,none,none] [] [.undef,.undef,.slice none 4 0 0 true,.undef] .normal [(0,(.ptr (some (0,0)))),(7,(.acc 2 0 4 x28.length true))] [(some (.cells [(.acc 1 0 4 p_b1.length true)] false false)),(some (.cells (F_api_Sess p_b1) false true)),(some (.cells (F_api_Sess x28) false true))] (.st none (.kl [1] (.fin (some false) [] (some true))))))))))) (out_oR_Sessions_Note_2 p_x p_b1 r).1 (out_oR_Sessions_Note_2 p_x p_b1 r).2=(2=2∧2≤96∧(Spec C 115 [(.ptr (some (0,0))),(.int .i64 p_x.Client)] [(some (.cells [(.acc 1 0 4 p_b1.length true)] false false)),(some (.cells (F_api_Sess p_b1) false true))] (.tuple [(.agg (e_api_Sess x1.1)),(.bool x1.2)]) [(some (.cells [(.acc 1 0 4 p_b1.length true)] false false)),(some (.cells (F_api_Sess p_b1) false true))]∧(2≤2∧(((isL x2)=true→(RunS (bexec C KK 96 WJ116_bba) 2 [(0,(.ptr (some (0,0)))),(3,(.ptr (some (2,0)))),(5,(.ptr (some (3,0))))] [(some (.cells [(.acc 1 0 4 p_b1.length true)] false false)),(some (.cells (F_api_Sess p_b1) false true)),(some (.cells (e_api_Sess p_x) false false)),(some (.cells (e_api_Sess x1.1) false false))] .ret [(4,(.bool false))] [(some (.cells [(.acc 1 0 4 p_b1.length true)] false false)),(some (.cells (F_api_Sess p_b1) false true))]∧lff (out_oR_Sessions_Note_2 p_x p_b1) (false,p_b1) r))∧((isL x2)=false→(RunS (bexec C KK 96 WJ116_bba) 2 [(0,(.ptr (some (0,0)))),(3,(.ptr (some (2,0)))),(5,(.ptr (some (3,0))))] [(some (.cells [(.acc 1 0 4 p_b1.length true)] false false)),(some (.cells (F_api_Sess p_b1) false true)),(some (.cells (e_api_Sess p_x) false false)),(some (.cells (e_api_Sess x1.1) false false))] .normal [(0,(.ptr (some (0,0)))),(3,(.ptr (some (2,0))))] [(some (.cells [(.acc 1 0 4 p_b1.length true)] false false)),(some (.cells (F_api_Sess p_b1) false true)),(some (.cells (e_api_Sess p_x) false false))]∧(RunS (bloop (bexec C KK 96 WB116_0) [0,3,7,8,9] KK) 2 [(0,(.ptr (some (0,0)))),(3,(.ptr (some (2,0)))),(7,(.acc 3 0 4 0 true)),(8,(.bool false)),(9,(.int .i64 0))] [(some (.cells [(.acc 1 0 4 p_b1.length true)] false false)),(some (.cells (F_api_Sess p_b1) false true)),(some (.cells (e_api_Sess p_x) false false)),(some (.cells (F_api_Sess []) false true))] (.exit 0) [(0,(.ptr (some (0,0)))),(3,(.ptr (some (2,0)))),(7,(.acc 3 0 4 x26.2.length true)),(8,(.bool x26.1))] [(some (.cells [(.acc 1 0 4 p_b1.length true)] false false)),(some (.cells (F_api_Sess p_b1) false true)),(some (.cells (e_api_Sess p_x) false false)),(some (.cells (F_api_Sess x26.2) false true))]∧(RunS (bexec C KK 96 WJ116_bbbbbba) 2 [(0,(.ptr (some (0,0)))),(3,(.ptr (some (2,0)))),(7,(.acc 3 0 4 x26.2.length true)),(8,(.bool x26.1))] [(some (.cells [(.acc 1 0 4 p_b1.length true)] false false)),(some (.cells (F_api_Sess p_b1) false true)),(some (.cells (e_api_Sess p_x) false false)),(some (.cells (F_api_Sess x26.2) false true))] .normal [(0,(.ptr (some (0,0)))),(7,(.acc 2 0 4 x28.length true))] [(some (.cells [(.acc 1 0 4 p_b1.length true)] false false)),(some (.cells (F_api_Sess p_b1) false true)),(some (.cells (F_api_Sess x28) false true))]∧lff (out_oR_Sessions_Note_2 p_x p_b1) (true,x28) r)))))))):=fun C=>by kernel_rfl
  refine spec_of (fun _ _ h=>by cases h) rfl atab_116 WF116_ok ((e _).mpr ⟨rfl,by decide, ?_⟩)
  unfold oR_Sessions_Note_2 at h
  obtain ⟨q1,h⟩:=bget hx1 h
  refine ⟨s_oR_Sessions_Last_2 (d+0) q1, ?_⟩
  refine ⟨by decide, ?_⟩
  obtain ⟨q2,h⟩:=bget hx2 h
  refine ⟨fun hb3=>?_,fun hb3=>?_⟩
  · have h:=cond_t hb3 h
    refine ⟨by have h:=s_oR_Sessions_Note_2_J0 (d+1) q2; rw [isL_t hb3] at h; exact h, ?_⟩
    exact lff_of h
  · have h:=cond_f hb3 h
    refine ⟨by have h:=s_oR_Sessions_Note_2_J0 (d+1) q2; rw [isL_f hb3] at h; exact h, ?_⟩
    obtain ⟨q26,h⟩:=bget hx26 h
    refine ⟨s_oR_Sessions_Note_2_L3 (d+1) q26, ?_⟩
    obtain ⟨q28,h⟩:=bget hx28 h
    refine ⟨s_oR_Sessions_Note_2_J4 (d+1) q28, ?_⟩
    exact lff_of h
def st_oR_SessionsOf_L0 (l:List api_Sess) (s5:Int × List api_Sess):List AV × WH:=([(l_api_Sess l),(.ptr (some (0,0))),(.ptr (some (1,0))),(.int .i64 s5.1)],[(some (.cells [(.acc 2 0 4 0 true)] false false)),(some (.cells [(.acc 3 0 4 s5.2.length true)] false false)),(some (.cells (F_api_Sess []) false true)),(some (.cells (F_api_Sess s5.2) false true))])
def fin_oR_SessionsOf_L0 (l:List api_Sess):(List api_Sess)→Ex × Fast × WH:=fun e=>((.exit 0),[(2,(.ptr (some (0,0)))),(3,(.ptr (some (1,0))))],[(some (.cells [(.acc 2 0 4 0 true)] false false)),(some (.cells [(.acc 3 0 4 e.length true)] false false)),(some (.cells (F_api_Sess []) false true)),(some (.cells (F_api_Sess e) false true))])
abbrev rx_oR_SessionsOf_L0 (l:List api_Sess):=roundX [0,2,3,4] (st_oR_SessionsOf_L0 l) (fin_oR_SessionsOf_L0 l)
def oR_SessionsOf_L0_s (l:List api_Sess) (s5:Int × List api_Sess):Option ((Int × List api_Sess) ⊕ ((List api_Sess))) :=
  cond (decide (s5.1 < (l.length:Int))) ((getI l s5.1).bind fun (x6:api_Sess)=>(oR_Sessions_Note_2 x6 s5.2).bind fun (x7:Bool × List api_Sess)=>some (.inl ((IntKind.i64.wrap (s5.1+1)),x7.2))) (some (.inr s5.2))
def oR_SessionsOf_L0 (l:List api_Sess) (s5:Int × List api_Sess):Option ((List api_Sess)):=loopX (oR_SessionsOf_L0_s l) KK s5
theorem b_oR_SessionsOf_L0 (d:Nat) {l:List api_Sess} {s5:Int × List api_Sess} {r:(Int × List api_Sess) ⊕ ((List api_Sess))} (h:oR_SessionsOf_L0_s l s5=some r):RunX (bexec (wcalls atab (d+2)) KK 18 WB113_0) 0 (inL [0,2,3,4] (st_oR_SessionsOf_L0 l s5)) (rx_oR_SessionsOf_L0 l r):=by
  obtain ⟨x6,hx6⟩:=wx (getI l s5.1)
  obtain ⟨x7,hx7⟩:=wx (oR_Sessions_Note_2 x6 s5.2)
  have e:∀ C:ACalls,wCode C (fun _=>none) KK 18 0 WB113_0 (inL [0,2,3,4] (st_oR_SessionsOf_L0 l s5)).1 (inL [0,2,3,4] (st_oR_SessionsOf_L0 l s5)).2 (.br 9 (.v 14 (.elem ((e_api_Sess x6) ++ F_api_Sess (l.drop (s5.1.toNat+1)))) (.call [] none [] (.bool x7.1) [(some (.cells [(.acc 2 0 4 x7.2.length true)] false false)),none,(some (.cells (F_api_Sess x7.2) false true))] (.en [0,2,3,4] [none,none,none,none] [] [.slice none 4 0 0 true,.undef,.undef,.undef]))) (.en [2,3] [none,none] [] [])) (rx_oR_SessionsOf_L0 l r)=(((decide (s5.1 < (l.length:Int)))=true→(wP (.idxSlice 4 (.c (l_api_Sess l)) (.c (.int .i64 s5.1)))=some (.elem ((e_api_Sess x6) ++ F_api_Sess (l.drop (s5.1.toNat+1))))∧(Spec C 116 [(.ptr (some (0,0))),(.agg (e_api_Sess x6))] [(some (.cells [(.acc 1 0 4 s5.2.length true)] false false)),(some (.cells (F_api_Sess s5.2) false true))] (.bool x7.1) [(some (.cells [(.acc 2 0 4 x7.2.length true)] false false)),none,(some (.cells (F_api_Sess x7.2) false true))]∧(2≤3∧lfe (rx_oR_SessionsOf_L0 l) (.inl ((IntKind.i64.wrap (s5.1+1)),x7.2)) r))))∧((decide (s5.1 < (l.length:Int)))=false→lfe (rx_oR_SessionsOf_L0 l) (.inr s5.2) r)):=fun C=>by kernel_rfl
  refine runS_of (fun _ _ h=>by cases h) WB113_0_ok (Nat.le_of_ble_eq_true rfl) ((e _).mpr ?_)
  unfold oR_SessionsOf_L0_s at h
  refine ⟨fun hb=>?_,fun hb=>?_⟩
  · have h:=cond_t hb h
    obtain ⟨q6,h⟩:=bget hx6 h
    refine ⟨wP_idx R_api_Sess q6, ?_⟩
    obtain ⟨q7,h⟩:=bget hx7 h
    refine ⟨s_oR_Sessions_Note_2 (d+0) q7, ?_⟩
    refine ⟨by decide, ?_⟩
    exact lfe_of h
  · have h:=cond_f hb h
    exact lfe_of h
theorem s_oR_SessionsOf_L0 (d:Nat) {l:List api_Sess} {s5:Int × List api_Sess} {r:(List api_Sess)} (h:oR_SessionsOf_L0 l s5=some r):RunX (bloop (bexec (wcalls atab (d+2)) KK 18 WB113_0) [0,2,3,4] KK) 0 (inL [0,2,3,4] (st_oR_SessionsOf_L0 l s5)) (fin_oR_SessionsOf_L0 l r) :=
  loop_of (st:=st_oR_SessionsOf_L0 l) (fin:=fin_oR_SessionsOf_L0 l) (step:=oR_SessionsOf_L0_s l) (fun e=>by (intro h; cases h)) (fun s x h=>b_oR_SessionsOf_L0 d h) KK s5 r h
def oR_SessionsOf (l:List api_Sess):Option (oR_Sessions) :=
  (oR_SessionsOf_L0 l (0,[])).bind fun (x8:(List api_Sess))=>some (⟨x8⟩:oR_Sessions)
def out_oR_SessionsOf (l:List api_Sess) (r:oR_Sessions):AV × WH:=((.agg (e_oR_Sessions r)),[])
theorem s_oR_SessionsOf (d:Nat) {l:List api_Sess} {r:oR_Sessions} (h:oR_SessionsOf l=some r):Spec (wcalls atab (d+3)) 113 [(l_api_Sess l)] [] (out_oR_SessionsOf l r).1 (out_oR_SessionsOf l r).2:=by
  obtain ⟨x8,hx8⟩:=wx (oR_SessionsOf_L0 l (0,[]))
  have e:∀ C:ACalls,wBody C (fun _=>none) KK WF113 [(l_api_Sess l)] [] (.z 2 [.slice none 4 0 0 true] (.z 5 [.agg [.slice none 4 0 0 true]] (.z 3 [.slice none 4 0 0 true] (.st none (.lp [none,none,none,none] [(some true),(some true),(some true),(some true)] [.slice none 4 0 0 true,.undef,.undef,.undef] (.exit 0) [(2,(.ptr (some (0,0)))),(3,(.ptr (some (1,0))))] [(some (.cells [(.acc 2 0 4 0 true)] false false)),(some (.cells [(.acc 3 0 4 x8.length true)] false false)),(some (.cells (F_api_Sess []) false true)),(some (.cells (F_api_Sess x8) false true))] (.st none (.fin (some false) [.agg [.slice none 4 0 0 true]] none))))))) (out_oR_SessionsOf l r).1 (out_oR_SessionsOf l r).2=(1=1∧1≤18∧(RunS (bloop (bexec C KK 18 WB113_0) [0,2,3,4] KK) 0 [(0,(l_api_Sess l)),(2,(.ptr (some (0,0)))),(3,(.ptr (some (1,0)))),(4,(.int .i64 0))] [(some (.cells [(.acc 2 0 4 0 true)] false false)),(some (.cells [(.acc 3 0 4 0 true)] false false)),(some (.cells (F_api_Sess []) false true)),(some (.cells (F_api_Sess []) false true))] (.exit 0) [(2,(.ptr (some (0,0)))),(3,(.ptr (some (1,0))))] [(some (.cells [(.acc 2 0 4 0 true)] false false)),(some (.cells [(.acc 3 0 4 x8.length true)] false false)),(some (.cells (F_api_Sess []) false true)),(some (.cells (F_api_Sess x8) false true))]∧lff (out_oR_SessionsOf l) (⟨x8⟩:oR_Sessions) r)):=fun C=>by kernel_rfl
  refine spec_of (fun _ _ h=>by cases h) rfl atab_113 WF113_ok ((e _).mpr ⟨rfl,by decide, ?_⟩)
  unfold oR_SessionsOf at h
  obtain ⟨q8,h⟩:=bget hx8 h
  refine ⟨s_oR_SessionsOf_L0 (d+0) q8, ?_⟩
  exact lff_of h
def oR_ShardFrom (p_x:api_Image):Option (oR_Shard) :=
  (oR_TableOf p_x.Pairs).bind fun (x1:oR_Table)=>(oR_SessionsOf p_x.Sess).bind fun (x2:oR_Sessions)=>some (⟨x1,x2,p_x.Shard,p_x.Epoch⟩:oR_Shard)
def out_oR_ShardFrom (p_x:api_Image) (r:oR_Shard):AV × WH:=((.ptr (some (0,0))),[(some (.cells (e_oR_Shard r) false false))])
theorem s_oR_ShardFrom (d:Nat) {p_x:api_Image} {r:oR_Shard} (h:oR_ShardFrom p_x=some r):Spec (wcalls atab (d+4)) 76 [(.agg (e_api_Image p_x))] [] (out_oR_ShardFrom p_x r).1 (out_oR_ShardFrom p_x r).2:=by
  obtain ⟨x1,hx1⟩:=wx (oR_TableOf p_x.Pairs)
  obtain ⟨x2,hx2⟩:=wx (oR_SessionsOf p_x.Sess)
  have e:∀ C:ACalls,wBody C (fun _=>none) KK WF76 [(.agg (e_api_Image p_x))] [] (.call [] (some false) [.slice none 2 0 0 true] (.agg (e_oR_Table x1)) [] (.call [] (some false) [.slice none 4 0 0 true] (.agg (e_oR_Sessions x2)) [] (.fin (some false) [] none))) (out_oR_ShardFrom p_x r).1 (out_oR_ShardFrom p_x r).2=(1=1∧1≤15∧(Spec C 60 [(l_api_Pair p_x.Pairs)] [] (.agg (e_oR_Table x1)) []∧(0≤0∧(Spec C 113 [(l_api_Sess p_x.Sess)] [] (.agg (e_oR_Sessions x2)) []∧(0≤0∧lff (out_oR_ShardFrom p_x) (⟨x1,x2,p_x.Shard,p_x.Epoch⟩:oR_Shard) r))))):=fun C=>by kernel_rfl
  refine spec_of (fun _ _ h=>by cases h) rfl atab_76 WF76_ok ((e _).mpr ⟨rfl,by decide, ?_⟩)
  unfold oR_ShardFrom at h
  obtain ⟨q1,h⟩:=bget hx1 h
  refine ⟨s_oR_TableOf (d+0) q1, ?_⟩
  refine ⟨by decide, ?_⟩
  obtain ⟨q2,h⟩:=bget hx2 h
  refine ⟨s_oR_SessionsOf (d+0) q2, ?_⟩
  refine ⟨by decide, ?_⟩
  exact lff_of h
end Go.Proofs.Ytachollgbplikaa
