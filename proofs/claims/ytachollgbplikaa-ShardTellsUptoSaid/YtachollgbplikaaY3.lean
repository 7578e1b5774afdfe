import Derived.Test.YtachollgbplikaaXt
import Derived.Test.YtachollgbplikaaXs
import Derived.Test.YtachollgbplikaaY2
set_option linter.all false
set_option maxRecDepth 100000
namespace Go.Proofs.Ytachollgbplikaa
def st_session_Sessions_All_L0 (p_s:shard_Shard) (s5:Int × List api_Sess):List AV × WH:=([(.acc 1 0 4 s5.2.length true),(.agg (e_session_Sessions p_s.Sessions)),(.int .i64 s5.1)],[(some (.cells (e_shard_Shard p_s) false false)),(some (.cells (F_api_Sess s5.2) false true))])
def fin_session_Sessions_All_L0 (p_s:shard_Shard):(List api_Sess)→Ex × Fast × WH:=fun e=>((.exit 0),[(3,(.acc 1 0 4 e.length true))],[(some (.cells (e_shard_Shard p_s) false false)),(some (.cells (F_api_Sess e) false true))])
abbrev rx_session_Sessions_All_L0 (p_s:shard_Shard):=roundX [3,9,10] (st_session_Sessions_All_L0 p_s) (fin_session_Sessions_All_L0 p_s)
def session_Sessions_All_L0_s (p_s:shard_Shard) (s5:Int × List api_Sess):Option ((Int × List api_Sess) ⊕ ((List api_Sess))) :=
  cond (decide (s5.1 < 4)) ((getI ([p_s.Sessions.l.a0,p_s.Sessions.l.a1,p_s.Sessions.l.a2,p_s.Sessions.l.a3]:List api_Sess) s5.1).bind fun (x6:api_Sess)=>cond (decide (x6.Seq > 0)) (gd (fitsB 40 (s5.2 ++ [x6]).length) (some (.inl ((IntKind.i64.wrap (s5.1+1)),(s5.2 ++ [x6]))))) (some (.inl ((IntKind.i64.wrap (s5.1+1)),s5.2)))) (some (.inr s5.2))
def session_Sessions_All_L0 (p_s:shard_Shard) (s5:Int × List api_Sess):Option ((List api_Sess)):=loopX (session_Sessions_All_L0_s p_s) KK s5
theorem b_session_Sessions_All_L0 (d:Nat) {p_s:shard_Shard} {s5:Int × List api_Sess} {r:(Int × List api_Sess) ⊕ ((List api_Sess))} (h:session_Sessions_All_L0_s p_s s5=some r):RunX (bexec (wcalls atab (d+0)) KK 23 WB107_0) 1 (inL [3,9,10] (st_session_Sessions_All_L0 p_s s5)) (rx_session_Sessions_All_L0 p_s r):=by
  obtain ⟨x6,hx6⟩:=wx (getI ([p_s.Sessions.l.a0,p_s.Sessions.l.a1,p_s.Sessions.l.a2,p_s.Sessions.l.a3]:List api_Sess) s5.1)
  have e:∀ C:ACalls,wCode C (fun _=>none) KK 23 1 WB107_0 (inL [3,9,10] (st_session_Sessions_All_L0 p_s s5)).1 (inL [3,9,10] (st_session_Sessions_All_L0 p_s s5)).2 (.br 11 (.v 12 (.agg (e_api_Sess x6)) (.st none (.br 15 (.ap 19 (s5.2 ++ [x6]).length (F_api_Sess (s5.2 ++ [x6])) (.en [3,9,10] [none,none,none] [] [.slice none 4 0 0 true,.undef,.undef])) (.en [3,9,10] [none,none,none] [] [.slice none 4 0 0 true,.undef,.undef])))) (.en [3] [none] [] [.slice none 4 0 0 true])) (rx_session_Sessions_All_L0 p_s r)=(((decide (s5.1 < 4))=true→(wP (.index true 4 4 (.c (.agg (F_api_Sess ([p_s.Sessions.l.a0,p_s.Sessions.l.a1,p_s.Sessions.l.a2,p_s.Sessions.l.a3])))) (.c (.int .i64 s5.1)))=some (.agg (e_api_Sess x6))∧(((decide (x6.Seq > 0))=true→(s5.2.length+1=(s5.2 ++ [x6]).length∧(F_api_Sess s5.2 ++ F_api_Sess [x6]=F_api_Sess (s5.2 ++ [x6])∧(fitsB 40 (s5.2 ++ [x6]).length=true∧lfe (rx_session_Sessions_All_L0 p_s) (.inl ((IntKind.i64.wrap (s5.1+1)),(s5.2 ++ [x6]))) r))))∧((decide (x6.Seq > 0))=false→lfe (rx_session_Sessions_All_L0 p_s) (.inl ((IntKind.i64.wrap (s5.1+1)),s5.2)) r))))∧((decide (s5.1 < 4))=false→lfe (rx_session_Sessions_All_L0 p_s) (.inr s5.2) r)):=fun C=>by kernel_rfl
  refine runS_of (fun _ _ h=>by cases h) WB107_0_ok (Nat.le_of_ble_eq_true rfl) ((e _).mpr ?_)
  unfold session_Sessions_All_L0_s at h
  refine ⟨fun hb=>?_,fun hb=>?_⟩
  · have h:=cond_t hb h
    obtain ⟨q6,h⟩:=bget hx6 h
    refine ⟨wP_ixA R_api_Sess q6, ?_⟩
    refine ⟨fun hb=>?_,fun hb=>?_⟩
    · have h:=cond_t hb h
      obtain ⟨q7,h⟩:=gd_some h
      refine ⟨by simp, ?_⟩
      refine ⟨(Row.app R_api_Sess _ _).symm, ?_⟩
      refine ⟨q7, ?_⟩
      exact lfe_of h
    · have h:=cond_f hb h
      exact lfe_of h
  · have h:=cond_f hb h
    exact lfe_of h
theorem s_session_Sessions_All_L0 (d:Nat) {p_s:shard_Shard} {s5:Int × List api_Sess} {r:(List api_Sess)} (h:session_Sessions_All_L0 p_s s5=some r):RunX (bloop (bexec (wcalls atab (d+0)) KK 23 WB107_0) [3,9,10] KK) 1 (inL [3,9,10] (st_session_Sessions_All_L0 p_s s5)) (fin_session_Sessions_All_L0 p_s r) :=
  loop_of (st:=st_session_Sessions_All_L0 p_s) (fin:=fin_session_Sessions_All_L0 p_s) (step:=session_Sessions_All_L0_s p_s) (fun e=>by (intro h; cases h)) (fun s x h=>b_session_Sessions_All_L0 d h) KK s5 r h
def session_Sessions_All (p_s:shard_Shard):Option (List api_Sess) :=
  (session_Sessions_All_L0 p_s (0,[])).bind fun (x8:(List api_Sess))=>some x8
def out_session_Sessions_All (p_s:shard_Shard) (r:List api_Sess):AV × WH:=((l_api_Sess r),[(some (.cells (e_shard_Shard p_s) false false))])
theorem s_session_Sessions_All (d:Nat) {p_s:shard_Shard} {r:List api_Sess} (h:session_Sessions_All p_s=some r):Spec (wcalls atab (d+2)) 107 [(.ptr (some (0,1)))] [(some (.cells (e_shard_Shard p_s) false false))] (out_session_Sessions_All p_s r).1 (out_session_Sessions_All p_s r).2:=by
  obtain ⟨x8,hx8⟩:=wx (session_Sessions_All_L0 p_s (0,[]))
  have e:∀ C:ACalls,wBody C wB KK WF107 [(.ptr (some (0,1)))] [(some (.cells (e_shard_Shard p_s) false false))] (.z 2 [.slice none 4 0 0 true] (.z 3 [.slice none 4 0 0 true] (.lp [(some true),none,none] [] [.slice none 4 0 0 true,.undef,.undef] (.exit 0) [(3,(.acc 1 0 4 x8.length true))] [(some (.cells (e_shard_Shard p_s) false false)),(some (.cells (F_api_Sess x8) false true))] (.fin (some false) [.slice none 4 0 0 true] none)))) (out_session_Sessions_All p_s r).1 (out_session_Sessions_All p_s r).2=(1=1∧1≤23∧(RunS (bloop (bexec C KK 23 WB107_0) [3,9,10] KK) 1 [(3,(.acc 1 0 4 0 true)),(9,(.agg (e_session_Sessions p_s.Sessions))),(10,(.int .i64 0))] [(some (.cells (e_shard_Shard p_s) false false)),(some (.cells (F_api_Sess []) false true))] (.exit 0) [(3,(.acc 1 0 4 x8.length true))] [(some (.cells (e_shard_Shard p_s) false false)),(some (.cells (F_api_Sess x8) false true))]∧lff (out_session_Sessions_All p_s) x8 r)):=fun C=>by kernel_rfl
  refine spec_of (wB_ok _) rfl atab_107 WF107_ok ((e _).mpr ⟨rfl,by decide, ?_⟩)
  unfold session_Sessions_All at h
  obtain ⟨q8,h⟩:=bget hx8 h
  refine ⟨s_session_Sessions_All_L0 (d+1) q8, ?_⟩
  exact lff_of h
def shard_Shard_Image (p_s:shard_Shard):Option (api_Image) :=
  (table_Table_Pairs_3 p_s).bind fun (x1:List api_Pair)=>(session_Sessions_All p_s).bind fun (x2:List api_Sess)=>some (⟨p_s.ID,p_s.Epoch,x1,x2⟩:api_Image)
def out_shard_Shard_Image (p_s:shard_Shard) (r:api_Image):AV × WH:=((.agg (e_api_Image r)),[(some (.cells (e_shard_Shard p_s) false false))])
theorem s_shard_Shard_Image (d:Nat) {p_s:shard_Shard} {r:api_Image} (h:shard_Shard_Image p_s=some r):Spec (wcalls atab (d+3)) 67 [(.ptr (some (0,0)))] [(some (.cells (e_shard_Shard p_s) false false))] (out_shard_Shard_Image p_s r).1 (out_shard_Shard_Image p_s r).2:=by
  obtain ⟨x1,hx1⟩:=wx (table_Table_Pairs_3 p_s)
  obtain ⟨x2,hx2⟩:=wx (session_Sessions_All p_s)
  have e:∀ C:ACalls,wBody C (fun _=>none) KK WF67 [(.ptr (some (0,0)))] [(some (.cells (e_shard_Shard p_s) false false))] (.z 2 [.undef,.undef,.slice none 2 0 0 true,.slice none 4 0 0 true] (.call [] (some false) [] (l_api_Pair x1) [(some (.cells (e_shard_Shard p_s) false false))] (.call [] (some false) [] (l_api_Sess x2) [(some (.cells (e_shard_Shard p_s) false false))] (.v 6 (.int .i64 p_s.ID) (.v 10 (.int .i64 p_s.Epoch) (.st none (.fin (some false) [.agg [.undef,.undef,.slice none 2 0 0 true,.slice none 4 0 0 true]] none))))))) (out_shard_Shard_Image p_s r).1 (out_shard_Shard_Image p_s r).2=(1=1∧1≤20∧(Spec C 54 [(.ptr (some (0,0)))] [(some (.cells (e_shard_Shard p_s) false false))] (l_api_Pair x1) [(some (.cells (e_shard_Shard p_s) false false))]∧(1≤1∧(Spec C 107 [(.ptr (some (0,1)))] [(some (.cells (e_shard_Shard p_s) false false))] (l_api_Sess x2) [(some (.cells (e_shard_Shard p_s) false false))]∧(1≤1∧(@Eq (Option AV) (some (.int .i64 p_s.ID)) (some (.int .i64 p_s.ID))∧(@Eq (Option AV) (some (.int .i64 p_s.ID)) (some (.int .i64 p_s.ID))∧(@Eq (Option AV) (some (.int .i64 p_s.ID)) (some (.int .i64 p_s.ID))∧(@Eq (Option AV) (some (.int .i64 p_s.Epoch)) (some (.int .i64 p_s.Epoch))∧(@Eq (Option AV) (some (.int .i64 p_s.Epoch)) (some (.int .i64 p_s.Epoch))∧(@Eq (Option AV) (some (.int .i64 p_s.Epoch)) (some (.int .i64 p_s.Epoch))∧lff (out_shard_Shard_Image p_s) (⟨p_s.ID,p_s.Epoch,x1,x2⟩:api_Image) r))))))))))):=fun C=>by kernel_rfl
  refine spec_of (fun _ _ h=>by cases h) rfl atab_67 WF67_ok ((e _).mpr ⟨rfl,by decide, ?_⟩)
  unfold shard_Shard_Image at h
  obtain ⟨q1,h⟩:=bget hx1 h
  refine ⟨s_table_Table_Pairs_3 (d+0) q1, ?_⟩
  refine ⟨by decide, ?_⟩
  obtain ⟨q2,h⟩:=bget hx2 h
  refine ⟨s_session_Sessions_All (d+0) q2, ?_⟩
  refine ⟨by decide, ?_⟩
  refine ⟨rfl, ?_⟩
  refine ⟨rfl, ?_⟩
  refine ⟨rfl, ?_⟩
  refine ⟨rfl, ?_⟩
  refine ⟨rfl, ?_⟩
  refine ⟨rfl, ?_⟩
  exact lff_of h
def table_Table_Len_3 (t:shard_Shard):Option (Int) :=
  some (t.Table.l.length:Int)
def out_table_Table_Len_3 (t:shard_Shard) (r:Int):AV × WH:=((.int .i64 r),[(some (.cells (e_shard_Shard t) false false))])
theorem s_table_Table_Len_3 (d:Nat) {t:shard_Shard} {r:Int} (h:table_Table_Len_3 t=some r):Spec (wcalls atab (d+1)) 53 [(.ptr (some (0,0)))] [(some (.cells (e_shard_Shard t) false false))] (out_table_Table_Len_3 t r).1 (out_table_Table_Len_3 t r).2:=by
  have e:∀ C:ACalls,wBody C (fun _=>none) KK WF53 [(.ptr (some (0,0)))] [(some (.cells (e_shard_Shard t) false false))] (.fin (some false) [] none) (out_table_Table_Len_3 t r).1 (out_table_Table_Len_3 t r).2=(1=1∧1≤8∧lff (out_table_Table_Len_3 t) (t.Table.l.length:Int) r):=fun C=>by kernel_rfl
  refine spec_of (fun _ _ h=>by cases h) rfl atab_53 WF53_ok ((e _).mpr ⟨rfl,by decide, ?_⟩)
  unfold table_Table_Len_3 at h
  exact lff_of h
def shard_Shard_Weight (p_s:shard_Shard):Option (Int) :=
  (table_Table_Len_3 p_s).bind fun (x1:Int)=>some (IntKind.i64.wrap (x1+1))
def out_shard_Shard_Weight (p_s:shard_Shard) (r:Int):AV × WH:=((.int .i64 r),[(some (.cells (e_shard_Shard p_s) false false))])
theorem s_shard_Shard_Weight (d:Nat) {p_s:shard_Shard} {r:Int} (h:shard_Shard_Weight p_s=some r):Spec (wcalls atab (d+2)) 71 [(.ptr (some (0,0)))] [(some (.cells (e_shard_Shard p_s) false false))] (out_shard_Shard_Weight p_s r).1 (out_shard_Shard_Weight p_s r).2:=by
  obtain ⟨x1,hx1⟩:=wx (table_Table_Len_3 p_s)
  have e:∀ C:ACalls,wBody C (fun _=>none) KK WF71 [(.ptr (some (0,0)))] [(some (.cells (e_shard_Shard p_s) false false))] (.call [] (some false) [] (.int .i64 x1) [(some (.cells (e_shard_Shard p_s) false false))] (.fin (some false) [] none)) (out_shard_Shard_Weight p_s r).1 (out_shard_Shard_Weight p_s r).2=(1=1∧1≤8∧(Spec C 53 [(.ptr (some (0,0)))] [(some (.cells (e_shard_Shard p_s) false false))] (.int .i64 x1) [(some (.cells (e_shard_Shard p_s) false false))]∧(1≤1∧lff (out_shard_Shard_Weight p_s) (IntKind.i64.wrap (x1+1)) r))):=fun C=>by kernel_rfl
  refine spec_of (fun _ _ h=>by cases h) rfl atab_71 WF71_ok ((e _).mpr ⟨rfl,by decide, ?_⟩)
  unfold shard_Shard_Weight at h
  obtain ⟨q1,h⟩:=bget hx1 h
  refine ⟨s_table_Table_Len_3 (d+0) q1, ?_⟩
  refine ⟨by decide, ?_⟩
  exact lff_of h
def osmosislaw8_known :Option (Bool) :=
  (shard_Of (⟨2,3,[],[]⟩:api_Image)).bind fun (x1:shard_Shard)=>(osmosislaw8_put 0 1 [107] [118]).bind fun (x2:api_Req)=>(shard_Shard_Ask x2 x1).bind fun (x3:api_Answer × Bool × shard_Shard)=>(osmosislaw8_put 0 1 [107] ([111,116,104,101,114])).bind fun (x4:api_Req)=>(shard_Shard_Ask x4 x3.2.2).bind fun (x5:api_Answer × Bool × shard_Shard)=>cond (x3.1.Why == x5.1.Why && (x3.1.Value == x5.1.Value && true)) (cond x3.2.1 (cond (!x5.2.1) ((shard_Shard_Weight x5.2.2).bind fun (x6:Int)=>cond (x6 == 2) (cond (x5.2.2.ID == 2) (cond (x5.2.2.Epoch == 3) ((table_Table_Len_3 x5.2.2).bind fun (x7:Int)=>some (x7 == 1)) (some false)) (some false)) (some false)) (some false)) (some false)) (some false)
def out_osmosislaw8_known (r:Bool):AV × WH:=((.bool r),[])
theorem s_osmosislaw8_known (d:Nat)  {r:Bool} (h:osmosislaw8_known=some r):Spec (wcalls atab (d+9)) 69 [] [] (out_osmosislaw8_known r).1 (out_osmosislaw8_known r).2:=by
  obtain ⟨x1,hx1⟩:=wx (shard_Of (⟨2,3,[],[]⟩:api_Image))
  obtain ⟨x2,hx2⟩:=wx (osmosislaw8_put 0 1 [107] [118])
  obtain ⟨x3,hx3⟩:=wx (shard_Shard_Ask x2 x1)
  obtain ⟨x4,hx4⟩:=wx (osmosislaw8_put 0 1 [107] ([111,116,104,101,114]))
  obtain ⟨x5,hx5⟩:=wx (shard_Shard_Ask x4 x3.2.2)
  obtain ⟨x6,hx6⟩:=wx (shard_Shard_Weight x5.2.2)
  obtain ⟨x7,hx7⟩:=wx (table_Table_Len_3 x5.2.2)
  have e:∀ C:ACalls,wBody C (fun _=>none) KK WF69 [] [] (.z 6 [.agg [.undef,.undef,.slice none 2 0 0 true,.slice none 4 0 0 true]] (.call [] (some false) [.agg [.undef,.undef,.slice none 2 0 0 true,.slice none 4 0 0 true]] (.agg (e_shard_Shard x1)) [] (.z 1 [.slice none 2 0 0 true,.undef,.undef,.undef,.undef,.undef,.undef,.undef,.undef,.undef,.undef,.undef,.undef,.undef,.undef,.undef,.undef,.undef,.undef] (.st none (.cb [] [] (.agg (e_api_Req x2)) (.call [] (some false) [] (.tuple [(.agg (e_api_Answer x3.1)),(.bool x3.2.1)]) [(some (.cells (e_shard_Shard x3.2.2) false false))] (.st none (.cb [] [] (.agg (e_api_Req x4)) (.call [] (some false) [] (.tuple [(.agg (e_api_Answer x5.1)),(.bool x5.2.1)]) [(some (.cells (e_shard_Shard x5.2.2) false false))] (.st none (.br 21 (.br 24 (.br 28 (.call [] (some false) [] (.int .i64 x6) [(some (.cells (e_shard_Shard x5.2.2) false false))] (.br 32 (.br 37 (.br 42 (.call [] (some false) [] (.int .i64 x7) [(some (.cells (e_shard_Shard x5.2.2) false false))] (.fin (some false) [] none)) (.fin (some false) [] none)) (.fin (some false) [] none)) (.fin (some false) [] none))) (.fin (some false) [] none)) (.fin (some false) [] none)) (.fin (some false) [] none)))))))))))) (out_osmosislaw8_known r).1 (out_osmosislaw8_known r).2=(0=0∧0≤47∧(Spec C 65 [(.agg (e_api_Image (⟨2,3,[],[]⟩:api_Image)))] [] (.agg (e_shard_Shard x1)) []∧(0≤0∧(Spec C 70 [(.int .i64 0),(.int .i64 1),(.str [107]),(.str [118])] [] (.agg (e_api_Req x2)) []∧(Spec C 66 [(.ptr (some (0,0))),(.agg (e_api_Req x2))] [(some (.cells (e_shard_Shard x1) false false))] (.tuple [(.agg (e_api_Answer x3.1)),(.bool x3.2.1)]) [(some (.cells (e_shard_Shard x3.2.2) false false))]∧(1≤1∧(Spec C 70 [(.int .i64 0),(.int .i64 1),(.str [107]),(.str ([111,116,104,101,114]))] [] (.agg (e_api_Req x4)) []∧(Spec C 66 [(.ptr (some (0,0))),(.agg (e_api_Req x4))] [(some (.cells (e_shard_Shard x3.2.2) false false))] (.tuple [(.agg (e_api_Answer x5.1)),(.bool x5.2.1)]) [(some (.cells (e_shard_Shard x5.2.2) false false))]∧(1≤1∧(((x3.1.Why == x5.1.Why && (x3.1.Value == x5.1.Value && true))=true→((x3.2.1=true→(((!x5.2.1)=true→(Spec C 71 [(.ptr (some (0,0)))] [(some (.cells (e_shard_Shard x5.2.2) false false))] (.int .i64 x6) [(some (.cells (e_shard_Shard x5.2.2) false false))]∧(1≤1∧(((x6 == 2)=true→(((x5.2.2.ID == 2)=true→(((x5.2.2.Epoch == 3)=true→(Spec C 53 [(.ptr (some (0,0)))] [(some (.cells (e_shard_Shard x5.2.2) false false))] (.int .i64 x7) [(some (.cells (e_shard_Shard x5.2.2) false false))]∧(1≤1∧lff out_osmosislaw8_known (x7 == 1) r)))∧((x5.2.2.Epoch == 3)=false→lff out_osmosislaw8_known false r)))∧((x5.2.2.ID == 2)=false→lff out_osmosislaw8_known false r)))∧((x6 == 2)=false→lff out_osmosislaw8_known false r)))))∧((!x5.2.1)=false→lff out_osmosislaw8_known false r)))∧(x3.2.1=false→lff out_osmosislaw8_known false r)))∧((x3.1.Why == x5.1.Why && (x3.1.Value == x5.1.Value && true))=false→lff out_osmosislaw8_known false r))))))))))):=fun C=>by kernel_rfl
  refine spec_of (fun _ _ h=>by cases h) rfl atab_69 WF69_ok ((e _).mpr ⟨rfl,by decide, ?_⟩)
  unfold osmosislaw8_known at h
  obtain ⟨q1,h⟩:=bget hx1 h
  refine ⟨s_shard_Of (d+0) q1, ?_⟩
  refine ⟨by decide, ?_⟩
  obtain ⟨q2,h⟩:=bget hx2 h
  refine ⟨s_osmosislaw8_put (d+7) q2, ?_⟩
  obtain ⟨q3,h⟩:=bget hx3 h
  refine ⟨s_shard_Shard_Ask (d+1) q3, ?_⟩
  refine ⟨by decide, ?_⟩
  obtain ⟨q4,h⟩:=bget hx4 h
  refine ⟨s_osmosislaw8_put (d+7) q4, ?_⟩
  obtain ⟨q5,h⟩:=bget hx5 h
  refine ⟨s_shard_Shard_Ask (d+1) q5, ?_⟩
  refine ⟨by decide, ?_⟩
  refine ⟨fun hb=>?_,fun hb=>?_⟩
  · have h:=cond_t hb h
    refine ⟨fun hb=>?_,fun hb=>?_⟩
    · have h:=cond_t hb h
      refine ⟨fun hb=>?_,fun hb=>?_⟩
      · have h:=cond_t hb h
        obtain ⟨q6,h⟩:=bget hx6 h
        refine ⟨s_shard_Shard_Weight (d+6) q6, ?_⟩
        refine ⟨by decide, ?_⟩
        refine ⟨fun hb=>?_,fun hb=>?_⟩
        · have h:=cond_t hb h
          refine ⟨fun hb=>?_,fun hb=>?_⟩
          · have h:=cond_t hb h
            refine ⟨fun hb=>?_,fun hb=>?_⟩
            · have h:=cond_t hb h
              obtain ⟨q7,h⟩:=bget hx7 h
              refine ⟨s_table_Table_Len_3 (d+7) q7, ?_⟩
              refine ⟨by decide, ?_⟩
              exact lff_of h
            · have h:=cond_f hb h
              exact lff_of h
          · have h:=cond_f hb h
            exact lff_of h
        · have h:=cond_f hb h
          exact lff_of h
      · have h:=cond_f hb h
        exact lff_of h
    · have h:=cond_f hb h
      exact lff_of h
  · have h:=cond_f hb h
    exact lff_of h
def st_slices_Equal_api_Pair_api_Pair_L0 (a0:List api_Pair) (a1:List api_Pair) (s3:Int):List AV × WH:=([(l_api_Pair a0),(l_api_Pair a1),(.int .i64 (a0.length:Int)),(.int .i64 s3)],[])
def fin_slices_Equal_api_Pair_api_Pair_L0 (a0:List api_Pair) (a1:List api_Pair):Unit ⊕ Unit→Ex × Fast × WH:=fun
  | .inl e=>(.ret,[(4,(.bool false))],[])
  | .inr e=>((.exit 0),[],[])
abbrev rx_slices_Equal_api_Pair_api_Pair_L0 (a0:List api_Pair) (a1:List api_Pair):=roundX [0,1,12,13] (st_slices_Equal_api_Pair_api_Pair_L0 a0 a1) (fin_slices_Equal_api_Pair_api_Pair_L0 a0 a1)
def slices_Equal_api_Pair_api_Pair_L0_s (a0:List api_Pair) (a1:List api_Pair) (s3:Int):Option ((Int) ⊕ (Unit ⊕ Unit)) :=
  cond (decide (s3 < (a0.length:Int))) ((getI a0 s3).bind fun (x4:api_Pair)=>(getI a1 s3).bind fun (x5:api_Pair)=>cond (!(x4.Key == x5.Key && (x4.Value == x5.Value && true))) (some (.inr (.inl ()))) (some (.inl (IntKind.i64.wrap (s3+1))))) (some (.inr (.inr ())))
def slices_Equal_api_Pair_api_Pair_L0 (a0:List api_Pair) (a1:List api_Pair) (s3:Int):Option (Unit ⊕ Unit):=loopX (slices_Equal_api_Pair_api_Pair_L0_s a0 a1) KK s3
theorem b_slices_Equal_api_Pair_api_Pair_L0 (d:Nat) {a0:List api_Pair} {a1:List api_Pair} {s3:Int} {r:(Int) ⊕ (Unit ⊕ Unit)} (h:slices_Equal_api_Pair_api_Pair_L0_s a0 a1 s3=some r):RunX (bexec (wcalls atab (d+0)) KK 26 WB108_0) 0 (inL [0,1,12,13] (st_slices_Equal_api_Pair_api_Pair_L0 a0 a1 s3)) (rx_slices_Equal_api_Pair_api_Pair_L0 a0 a1 r):=by
  obtain ⟨x4,hx4⟩:=wx (getI a0 s3)
  obtain ⟨x5,hx5⟩:=wx (getI a1 s3)
  have e:∀ C:ACalls,wCode C (fun _=>none) KK 26 0 WB108_0 (inL [0,1,12,13] (st_slices_Equal_api_Pair_api_Pair_L0 a0 a1 s3)).1 (inL [0,1,12,13] (st_slices_Equal_api_Pair_api_Pair_L0 a0 a1 s3)).2 (.br 14 (.v 18 (.elem ((e_api_Pair x4) ++ F_api_Pair (a0.drop (s3.toNat+1)))) (.v 22 (.elem ((e_api_Pair x5) ++ F_api_Pair (a1.drop (s3.toNat+1)))) (.br 24 (.en [4] [none] [] []) (.en [0,1,12,13] [none,none,none,none] [] [.slice none 2 0 0 true,.slice none 2 0 0 true,.undef,.undef])))) (.en [] [] [] [])) (rx_slices_Equal_api_Pair_api_Pair_L0 a0 a1 r)=(((decide (s3 < (a0.length:Int)))=true→(wP (.idxSlice 2 (.c (l_api_Pair a0)) (.c (.int .i64 s3)))=some (.elem ((e_api_Pair x4) ++ F_api_Pair (a0.drop (s3.toNat+1))))∧(wP (.idxSlice 2 (.c (l_api_Pair a1)) (.c (.int .i64 s3)))=some (.elem ((e_api_Pair x5) ++ F_api_Pair (a1.drop (s3.toNat+1))))∧(((!(x4.Key == x5.Key && (x4.Value == x5.Value && true)))=true→lfe (rx_slices_Equal_api_Pair_api_Pair_L0 a0 a1) (.inr (.inl ())) r)∧((!(x4.Key == x5.Key && (x4.Value == x5.Value && true)))=false→lfe (rx_slices_Equal_api_Pair_api_Pair_L0 a0 a1) (.inl (IntKind.i64.wrap (s3+1))) r)))))∧((decide (s3 < (a0.length:Int)))=false→lfe (rx_slices_Equal_api_Pair_api_Pair_L0 a0 a1) (.inr (.inr ())) r)):=fun C=>by kernel_rfl
  refine runS_of (fun _ _ h=>by cases h) WB108_0_ok (Nat.le_of_ble_eq_true rfl) ((e _).mpr ?_)
  unfold slices_Equal_api_Pair_api_Pair_L0_s at h
  refine ⟨fun hb=>?_,fun hb=>?_⟩
  · have h:=cond_t hb h
    obtain ⟨q4,h⟩:=bget hx4 h
    refine ⟨wP_idx R_api_Pair q4, ?_⟩
    obtain ⟨q5,h⟩:=bget hx5 h
    refine ⟨wP_idx R_api_Pair q5, ?_⟩
    refine ⟨fun hb=>?_,fun hb=>?_⟩
    · have h:=cond_t hb h
      exact lfe_of h
    · have h:=cond_f hb h
      exact lfe_of h
  · have h:=cond_f hb h
    exact lfe_of h
theorem s_slices_Equal_api_Pair_api_Pair_L0 (d:Nat) {a0:List api_Pair} {a1:List api_Pair} {s3:Int} {r:Unit ⊕ Unit} (h:slices_Equal_api_Pair_api_Pair_L0 a0 a1 s3=some r):RunX (bloop (bexec (wcalls atab (d+0)) KK 26 WB108_0) [0,1,12,13] KK) 0 (inL [0,1,12,13] (st_slices_Equal_api_Pair_api_Pair_L0 a0 a1 s3)) (fin_slices_Equal_api_Pair_api_Pair_L0 a0 a1 r) :=
  loop_of (st:=st_slices_Equal_api_Pair_api_Pair_L0 a0 a1) (fin:=fin_slices_Equal_api_Pair_api_Pair_L0 a0 a1) (step:=slices_Equal_api_Pair_api_Pair_L0_s a0 a1) (fun e=>by rcases e with e | e <;> (intro h; cases h)) (fun s x h=>b_slices_Equal_api_Pair_api_Pair_L0 d h) KK s3 r h
def slices_Equal_api_Pair_api_Pair (a0:List api_Pair) (a1:List api_Pair):Option (Bool) :=
  cond ((a0.length:Int) != (a1.length:Int)) (some false) ((slices_Equal_api_Pair_api_Pair_L0 a0 a1 0).bind fun (x6:Unit ⊕ Unit)=>cond (isL x6) (some false) (some true))
def out_slices_Equal_api_Pair_api_Pair (a0:List api_Pair) (a1:List api_Pair) (r:Bool):AV × WH:=((.bool r),[])
theorem s_slices_Equal_api_Pair_api_Pair (d:Nat) {a0:List api_Pair} {a1:List api_Pair} {r:Bool} (h:slices_Equal_api_Pair_api_Pair a0 a1=some r):Spec (wcalls atab (d+1)) 108 [(l_api_Pair a0),(l_api_Pair a1)] [] (out_slices_Equal_api_Pair_api_Pair a0 a1 r).1 (out_slices_Equal_api_Pair_api_Pair a0 a1 r).2:=by
  obtain ⟨x6,hx6⟩:=wx (slices_Equal_api_Pair_api_Pair_L0 a0 a1 0)
  have e:∀ C:ACalls,wBody C (fun _=>none) KK WF108 [(l_api_Pair a0),(l_api_Pair a1)] [] (.br 10 (.fin (some false) [] none) (.ite (isL x6) (.lp [none,none,none,none] [] [.slice none 2 0 0 true,.slice none 2 0 0 true,.undef,.undef] .ret [(4,(.bool false))] [] (.fin (some false) [] none)) (.lp [none,none,none,none] [] [.slice none 2 0 0 true,.slice none 2 0 0 true,.undef,.undef] (.exit 0) [] [] (.fin (some false) [] none)))) (out_slices_Equal_api_Pair_api_Pair a0 a1 r).1 (out_slices_Equal_api_Pair_api_Pair a0 a1 r).2=(2=2∧2≤26∧((((a0.length:Int) != (a1.length:Int))=true→lff (out_slices_Equal_api_Pair_api_Pair a0 a1) false r)∧(((a0.length:Int) != (a1.length:Int))=false→(((isL x6)=true→(RunS (bloop (bexec C KK 26 WB108_0) [0,1,12,13] KK) 0 [(0,(l_api_Pair a0)),(1,(l_api_Pair a1)),(12,(.int .i64 (a0.length:Int))),(13,(.int .i64 0))] [] .ret [(4,(.bool false))] []∧lff (out_slices_Equal_api_Pair_api_Pair a0 a1) false r))∧((isL x6)=false→(RunS (bloop (bexec C KK 26 WB108_0) [0,1,12,13] KK) 0 [(0,(l_api_Pair a0)),(1,(l_api_Pair a1)),(12,(.int .i64 (a0.length:Int))),(13,(.int .i64 0))] [] (.exit 0) [] []∧lff (out_slices_Equal_api_Pair_api_Pair a0 a1) true r)))))):=fun C=>by kernel_rfl
  refine spec_of (fun _ _ h=>by cases h) rfl atab_108 WF108_ok ((e _).mpr ⟨rfl,by decide, ?_⟩)
  unfold slices_Equal_api_Pair_api_Pair at h
  refine ⟨fun hb=>?_,fun hb=>?_⟩
  · have h:=cond_t hb h
    exact lff_of h
  · have h:=cond_f hb h
    obtain ⟨q6,h⟩:=bget hx6 h
    refine ⟨fun hb7=>?_,fun hb7=>?_⟩
    · have h:=cond_t hb7 h
      refine ⟨by have h:=s_slices_Equal_api_Pair_api_Pair_L0 (d+0) q6; rw [isL_t hb7] at h; exact h, ?_⟩
      exact lff_of h
    · have h:=cond_f hb7 h
      refine ⟨by have h:=s_slices_Equal_api_Pair_api_Pair_L0 (d+0) q6; rw [isL_f hb7] at h; exact h, ?_⟩
      exact lff_of h
def st_slices_Equal_api_Sess_api_Sess_L0 (a0:List api_Sess) (a1:List api_Sess) (s3:Int):List AV × WH:=([(l_api_Sess a0),(l_api_Sess a1),(.int .i64 (a0.length:Int)),(.int .i64 s3)],[])
def fin_slices_Equal_api_Sess_api_Sess_L0 (a0:List api_Sess) (a1:List api_Sess):Unit ⊕ Unit→Ex × Fast × WH:=fun
  | .inl e=>(.ret,[(4,(.bool false))],[])
  | .inr e=>((.exit 0),[],[])
abbrev rx_slices_Equal_api_Sess_api_Sess_L0 (a0:List api_Sess) (a1:List api_Sess):=roundX [0,1,12,13] (st_slices_Equal_api_Sess_api_Sess_L0 a0 a1) (fin_slices_Equal_api_Sess_api_Sess_L0 a0 a1)
def slices_Equal_api_Sess_api_Sess_L0_s (a0:List api_Sess) (a1:List api_Sess) (s3:Int):Option ((Int) ⊕ (Unit ⊕ Unit)) :=
  cond (decide (s3 < (a0.length:Int))) ((getI a0 s3).bind fun (x4:api_Sess)=>(getI a1 s3).bind fun (x5:api_Sess)=>cond (!(x4.Client == x5.Client && (x4.Seq == x5.Seq && (x4.Answer.Why == x5.Answer.Why && (x4.Answer.Value == x5.Answer.Value && true))))) (some (.inr (.inl ()))) (some (.inl (IntKind.i64.wrap (s3+1))))) (some (.inr (.inr ())))
def slices_Equal_api_Sess_api_Sess_L0 (a0:List api_Sess) (a1:List api_Sess) (s3:Int):Option (Unit ⊕ Unit):=loopX (slices_Equal_api_Sess_api_Sess_L0_s a0 a1) KK s3
theorem b_slices_Equal_api_Sess_api_Sess_L0 (d:Nat) {a0:List api_Sess} {a1:List api_Sess} {s3:Int} {r:(Int) ⊕ (Unit ⊕ Unit)} (h:slices_Equal_api_Sess_api_Sess_L0_s a0 a1 s3=some r):RunX (bexec (wcalls atab (d+0)) KK 26 WB109_0) 0 (inL [0,1,12,13] (st_slices_Equal_api_Sess_api_Sess_L0 a0 a1 s3)) (rx_slices_Equal_api_Sess_api_Sess_L0 a0 a1 r):=by
  obtain ⟨x4,hx4⟩:=wx (getI a0 s3)
  obtain ⟨x5,hx5⟩:=wx (getI a1 s3)
  have e:∀ C:ACalls,wCode C (fun _=>none) KK 26 0 WB109_0 (inL [0,1,12,13] (st_slices_Equal_api_Sess_api_Sess_L0 a0 a1 s3)).1 (inL [0,1,12,13] (st_slices_Equal_api_Sess_api_Sess_L0 a0 a1 s3)).2 (.br 14 (.v 18 (.elem ((e_api_Sess x4) ++ F_api_Sess (a0.drop (s3.toNat+1)))) (.v 22 (.elem ((e_api_Sess x5) ++ F_api_Sess (a1.drop (s3.toNat+1)))) (.br 24 (.en [4] [none] [] []) (.en [0,1,12,13] [none,none,none,none] [] [.slice none 4 0 0 true,.slice none 4 0 0 true,.undef,.undef])))) (.en [] [] [] [])) (rx_slices_Equal_api_Sess_api_Sess_L0 a0 a1 r)=(((decide (s3 < (a0.length:Int)))=true→(wP (.idxSlice 4 (.c (l_api_Sess a0)) (.c (.int .i64 s3)))=some (.elem ((e_api_Sess x4) ++ F_api_Sess (a0.drop (s3.toNat+1))))∧(wP (.idxSlice 4 (.c (l_api_Sess a1)) (.c (.int .i64 s3)))=some (.elem ((e_api_Sess x5) ++ F_api_Sess (a1.drop (s3.toNat+1))))∧(((!(x4.Client == x5.Client && (x4.Seq == x5.Seq && (x4.Answer.Why == x5.Answer.Why && (x4.Answer.Value == x5.Answer.Value && true)))))=true→lfe (rx_slices_Equal_api_Sess_api_Sess_L0 a0 a1) (.inr (.inl ())) r)∧((!(x4.Client == x5.Client && (x4.Seq == x5.Seq && (x4.Answer.Why == x5.Answer.Why && (x4.Answer.Value == x5.Answer.Value && true)))))=false→lfe (rx_slices_Equal_api_Sess_api_Sess_L0 a0 a1) (.inl (IntKind.i64.wrap (s3+1))) r)))))∧((decide (s3 < (a0.length:Int)))=false→lfe (rx_slices_Equal_api_Sess_api_Sess_L0 a0 a1) (.inr (.inr ())) r)):=fun C=>by kernel_rfl
  refine runS_of (fun _ _ h=>by cases h) WB109_0_ok (Nat.le_of_ble_eq_true rfl) ((e _).mpr ?_)
  unfold slices_Equal_api_Sess_api_Sess_L0_s at h
  refine ⟨fun hb=>?_,fun hb=>?_⟩
  · have h:=cond_t hb h
    obtain ⟨q4,h⟩:=bget hx4 h
    refine ⟨wP_idx R_api_Sess q4, ?_⟩
    obtain ⟨q5,h⟩:=bget hx5 h
    refine ⟨wP_idx R_api_Sess q5, ?_⟩
    refine ⟨fun hb=>?_,fun hb=>?_⟩
    · have h:=cond_t hb h
      exact lfe_of h
    · have h:=cond_f hb h
      exact lfe_of h
  · have h:=cond_f hb h
    exact lfe_of h
theorem s_slices_Equal_api_Sess_api_Sess_L0 (d:Nat) {a0:List api_Sess} {a1:List api_Sess} {s3:Int} {r:Unit ⊕ Unit} (h:slices_Equal_api_Sess_api_Sess_L0 a0 a1 s3=some r):RunX (bloop (bexec (wcalls atab (d+0)) KK 26 WB109_0) [0,1,12,13] KK) 0 (inL [0,1,12,13] (st_slices_Equal_api_Sess_api_Sess_L0 a0 a1 s3)) (fin_slices_Equal_api_Sess_api_Sess_L0 a0 a1 r) :=
  loop_of (st:=st_slices_Equal_api_Sess_api_Sess_L0 a0 a1) (fin:=fin_slices_Equal_api_Sess_api_Sess_L0 a0 a1) (step:=slices_Equal_api_Sess_api_Sess_L0_s a0 a1) (fun e=>by rcases e with e | e <;> (intro h; cases h)) (fun s x h=>b_slices_Equal_api_Sess_api_Sess_L0 d h) KK s3 r h
def slices_Equal_api_Sess_api_Sess (a0:List api_Sess) (a1:List api_Sess):Option (Bool) :=
  cond ((a0.length:Int) != (a1.length:Int)) (some false) ((slices_Equal_api_Sess_api_Sess_L0 a0 a1 0).bind fun (x6:Unit ⊕ Unit)=>cond (isL x6) (some false) (some true))
def out_slices_Equal_api_Sess_api_Sess (a0:List api_Sess) (a1:List api_Sess) (r:Bool):AV × WH:=((.bool r),[])
theorem s_slices_Equal_api_Sess_api_Sess (d:Nat) {a0:List api_Sess} {a1:List api_Sess} {r:Bool} (h:slices_Equal_api_Sess_api_Sess a0 a1=some r):Spec (wcalls atab (d+1)) 109 [(l_api_Sess a0),(l_api_Sess a1)] [] (out_slices_Equal_api_Sess_api_Sess a0 a1 r).1 (out_slices_Equal_api_Sess_api_Sess a0 a1 r).2:=by
  obtain ⟨x6,hx6⟩:=wx (slices_Equal_api_Sess_api_Sess_L0 a0 a1 0)
  have e:∀ C:ACalls,wBody C (fun _=>none) KK WF109 [(l_api_Sess a0),(l_api_Sess a1)] [] (.br 10 (.fin (some false) [] none) (.ite (isL x6) (.lp [none,none,none,none] [] [.slice none 4 0 0 true,.slice none 4 0 0 true,.undef,.undef] .ret [(4,(.bool false))] [] (.fin (some false) [] none)) (.lp [none,none,none,none] [] [.slice none 4 0 0 true,.slice none 4 0 0 true,.undef,.undef] (.exit 0) [] [] (.fin (some false) [] none)))) (out_slices_Equal_api_Sess_api_Sess a0 a1 r).1 (out_slices_Equal_api_Sess_api_Sess a0 a1 r).2=(2=2∧2≤26∧((((a0.length:Int) != (a1.length:Int))=true→lff (out_slices_Equal_api_Sess_api_Sess a0 a1) false r)∧(((a0.length:Int) != (a1.length:Int))=false→(((isL x6)=true→(RunS (bloop (bexec C KK 26 WB109_0) [0,1,12,13] KK) 0 [(0,(l_api_Sess a0)),(1,(l_api_Sess a1)),(12,(.int .i64 (a0.length:Int))),(13,(.int .i64 0))] [] .ret [(4,(.bool false))] []∧lff (out_slices_Equal_api_Sess_api_Sess a0 a1) false r))∧((isL x6)=false→(RunS (bloop (bexec C KK 26 WB109_0) [0,1,12,13] KK) 0 [(0,(l_api_Sess a0)),(1,(l_api_Sess a1)),(12,(.int .i64 (a0.length:Int))),(13,(.int .i64 0))] [] (.exit 0) [] []∧lff (out_slices_Equal_api_Sess_api_Sess a0 a1) true r)))))):=fun C=>by kernel_rfl
  refine spec_of (fun _ _ h=>by cases h) rfl atab_109 WF109_ok ((e _).mpr ⟨rfl,by decide, ?_⟩)
  unfold slices_Equal_api_Sess_api_Sess at h
  refine ⟨fun hb=>?_,fun hb=>?_⟩
  · have h:=cond_t hb h
    exact lff_of h
  · have h:=cond_f hb h
    obtain ⟨q6,h⟩:=bget hx6 h
    refine ⟨fun hb7=>?_,fun hb7=>?_⟩
    · have h:=cond_t hb7 h
      refine ⟨by have h:=s_slices_Equal_api_Sess_api_Sess_L0 (d+0) q6; rw [isL_t hb7] at h; exact h, ?_⟩
      exact lff_of h
    · have h:=cond_f hb7 h
      refine ⟨by have h:=s_slices_Equal_api_Sess_api_Sess_L0 (d+0) q6; rw [isL_f hb7] at h; exact h, ?_⟩
      exact lff_of h
abbrev in_shard_answered_J0 (p_x:api_Sess):Fast × WH:=([(1,(.ptr (some (0,0)))),(5,(.int .i64 p_x.Answer.Why))],[(some (.cells (e_api_Sess p_x) false false))])
def fin_shard_answered_J0 (p_x:api_Sess):Bool→Ex × Fast × WH:=fun e=>(.normal,[(1,(.ptr (some (0,0)))),(6,(.bool e))],[(some (.cells (e_api_Sess p_x) false false))])
def shard_answered_J0 (p_x:api_Sess):Option (Bool) :=
  cond (p_x.Answer.Why == 0) (some true) (cond (p_x.Answer.Why == 4) (some true) (cond (p_x.Answer.Why == 5) (some true) (some (p_x.Answer.Why == 6))))
theorem s_shard_answered_J0 (d:Nat) {p_x:api_Sess} {r:Bool} (h:shard_answered_J0 p_x=some r):RunX (bexec (wcalls atab (d+0)) KK 21 WJ112_babka) 0 (in_shard_answered_J0 p_x) (fin_shard_answered_J0 p_x r):=by
  have e:∀ C:ACalls,wCode C (fun _=>none) KK 21 0 WJ112_babka (in_shard_answered_J0 p_x).1 (in_shard_answered_J0 p_x).2 (.br 6 (.en [1,6] [none,none] [] []) (.br 6 (.en [1,6] [none,none] [] []) (.br 6 (.en [1,6] [none,none] [] []) (.en [1,6] [none,none] [] [])))) (fin_shard_answered_J0 p_x r)=(((p_x.Answer.Why == 0)=true→lfe (fin_shard_answered_J0 p_x) true r)∧((p_x.Answer.Why == 0)=false→(((p_x.Answer.Why == 4)=true→lfe (fin_shard_answered_J0 p_x) true r)∧((p_x.Answer.Why == 4)=false→(((p_x.Answer.Why == 5)=true→lfe (fin_shard_answered_J0 p_x) true r)∧((p_x.Answer.Why == 5)=false→lfe (fin_shard_answered_J0 p_x) (p_x.Answer.Why == 6) r)))))):=fun C=>by kernel_rfl
  refine runS_of (fun _ _ h=>by cases h) WJ112_babka_ok (Nat.le_of_ble_eq_true rfl) ((e _).mpr ?_)
  unfold shard_answered_J0 at h
  refine ⟨fun hb=>?_,fun hb=>?_⟩
  · have h:=cond_t hb h
    exact lfe_of h
  · have h:=cond_f hb h
    refine ⟨fun hb=>?_,fun hb=>?_⟩
    · have h:=cond_t hb h
      exact lfe_of h
    · have h:=cond_f hb h
      refine ⟨fun hb=>?_,fun hb=>?_⟩
      · have h:=cond_t hb h
        exact lfe_of h
      · have h:=cond_f hb h
        exact lfe_of h
def shard_answered (p_x:api_Sess):Option (Bool) :=
  (shard_answered_J0 p_x).bind fun (x1:Bool)=>cond x1 (cond (decide ((p_x.Answer.Value.length:Int)≤16)) (some (decide (p_x.Seq≤4611686018427387903))) (some false)) (some false)
def out_shard_answered (p_x:api_Sess) (r:Bool):AV × WH:=((.bool r),[])
theorem s_shard_answered (d:Nat) {p_x:api_Sess} {r:Bool} (h:shard_answered p_x=some r):Spec (wcalls atab (d+1)) 112 [(.agg (e_api_Sess p_x))] [] (out_shard_answered p_x r).1 (out_shard_answered p_x r).2:=by
  obtain ⟨x1,hx1⟩:=wx (shard_answered_J0 p_x)
  have e:∀ C:ACalls,wBody C (fun _=>none) KK WF112 [(.agg (e_api_Sess p_x))] [] (.sk (.sk (.sk (.jn [1,5] [none,none] [] [] .normal [(1,(.ptr (some (0,0)))),(6,(.bool x1))] [(some (.cells (e_api_Sess p_x) false false))] (.br 6 (.br 16 (.fin (some false) [] none) (.fin (some false) [] none)) (.fin (some false) [] none)))))) (out_shard_answered p_x r).1 (out_shard_answered p_x r).2=(1=1∧1≤21∧(RunS (bexec C KK 21 WJ112_babka) 0 [(1,(.ptr (some (0,0)))),(5,(.int .i64 p_x.Answer.Why))] [(some (.cells (e_api_Sess p_x) false false))] .normal [(1,(.ptr (some (0,0)))),(6,(.bool x1))] [(some (.cells (e_api_Sess p_x) false false))]∧((x1=true→(((decide ((p_x.Answer.Value.length:Int)≤16))=true→lff (out_shard_answered p_x) (decide (p_x.Seq≤4611686018427387903)) r)∧((decide ((p_x.Answer.Value.length:Int)≤16))=false→lff (out_shard_answered p_x) false r)))∧(x1=false→lff (out_shard_answered p_x) false r)))):=fun C=>by kernel_rfl
  refine spec_of (fun _ _ h=>by cases h) rfl atab_112 WF112_ok ((e _).mpr ⟨rfl,by decide, ?_⟩)
  unfold shard_answered at h
  obtain ⟨q1,h⟩:=bget hx1 h
  refine ⟨s_shard_answered_J0 (d+0) q1, ?_⟩
  refine ⟨fun hb=>?_,fun hb=>?_⟩
  · have h:=cond_t hb h
    refine ⟨fun hb=>?_,fun hb=>?_⟩
    · have h:=cond_t hb h
      exact lff_of h
    · have h:=cond_f hb h
      exact lff_of h
  · have h:=cond_f hb h
    exact lff_of h
def shard_Right_1 (y:api_Sess):Option (Bool) :=
  (shard_answered y).bind fun (x1:Bool)=>some (!x1)
def out_shard_Right_1 (y:api_Sess) (r:Bool):AV × WH:=((.bool r),[])
theorem s_shard_Right_1 (d:Nat) {y:api_Sess} {r:Bool} (h:shard_Right_1 y=some r):Spec (wcalls atab (d+2)) 111 [(.agg (e_api_Sess y))] [] (out_shard_Right_1 y r).1 (out_shard_Right_1 y r).2:=by
  obtain ⟨x1,hx1⟩:=wx (shard_answered y)
  have e:∀ C:ACalls,wBody C (fun _=>none) KK WF111 [(.agg (e_api_Sess y))] [] (.cb [] [] (.bool x1) (.fin (some false) [] none)) (out_shard_Right_1 y r).1 (out_shard_Right_1 y r).2=(1=1∧1≤6∧(Spec C 112 [(.agg (e_api_Sess y))] [] (.bool x1) []∧lff (out_shard_Right_1 y) (!x1) r)):=fun C=>by kernel_rfl
  refine spec_of (fun _ _ h=>by cases h) rfl atab_111 WF111_ok ((e _).mpr ⟨rfl,by decide, ?_⟩)
  unfold shard_Right_1 at h
  obtain ⟨q1,h⟩:=bget hx1 h
  refine ⟨s_shard_answered (d+0) q1, ?_⟩
  exact lff_of h
def st_slices_IndexFunc_api_Sess_api_Sess_L0 (a0:List api_Sess) (s3:Int):List AV × WH:=([(l_api_Sess a0),(.func 111 []),(.int .i64 (a0.length:Int)),(.int .i64 s3)],[])
def fin_slices_IndexFunc_api_Sess_api_Sess_L0 (a0:List api_Sess):Int ⊕ Unit→Ex × Fast × WH:=fun
  | .inl e=>(.ret,[(4,(.int .i64 e))],[])
  | .inr e=>((.exit 0),[],[])
abbrev rx_slices_IndexFunc_api_Sess_api_Sess_L0 (a0:List api_Sess):=roundX [0,1,7,8] (st_slices_IndexFunc_api_Sess_api_Sess_L0 a0) (fin_slices_IndexFunc_api_Sess_api_Sess_L0 a0)
def slices_IndexFunc_api_Sess_api_Sess_L0_s (a0:List api_Sess) (s3:Int):Option ((Int) ⊕ (Int ⊕ Unit)) :=
  cond (decide (s3 < (a0.length:Int))) ((getI a0 s3).bind fun (x4:api_Sess)=>(shard_Right_1 x4).bind fun (x5:Bool)=>cond x5 (some (.inr (.inl s3))) (some (.inl (IntKind.i64.wrap (s3+1))))) (some (.inr (.inr ())))
def slices_IndexFunc_api_Sess_api_Sess_L0 (a0:List api_Sess) (s3:Int):Option (Int ⊕ Unit):=loopX (slices_IndexFunc_api_Sess_api_Sess_L0_s a0) KK s3
theorem b_slices_IndexFunc_api_Sess_api_Sess_L0 (d:Nat) {a0:List api_Sess} {s3:Int} {r:(Int) ⊕ (Int ⊕ Unit)} (h:slices_IndexFunc_api_Sess_api_Sess_L0_s a0 s3=some r):RunX (bexec (wcalls atab (d+2)) KK 19 WB132_0) 0 (inL [0,1,7,8] (st_slices_IndexFunc_api_Sess_api_Sess_L0 a0 s3)) (rx_slices_IndexFunc_api_Sess_api_Sess_L0 a0 r):=by
  obtain ⟨x4,hx4⟩:=wx (getI a0 s3)
  obtain ⟨x5,hx5⟩:=wx (shard_Right_1 x4)
  have e:∀ C:ACalls,wCode C (fun _=>none) KK 19 0 WB132_0 (inL [0,1,7,8] (st_slices_IndexFunc_api_Sess_api_Sess_L0 a0 s3)).1 (inL [0,1,7,8] (st_slices_IndexFunc_api_Sess_api_Sess_L0 a0 s3)).2 (.br 9 (.v 14 (.elem ((e_api_Sess x4) ++ F_api_Sess (a0.drop (s3.toNat+1)))) (.cb [] [] (.bool x5) (.br 16 (.en [4] [none] [] []) (.en [0,1,7,8] [none,none,none,none] [] [.slice none 4 0 0 true,.undef,.undef,.undef])))) (.en [] [] [] [])) (rx_slices_IndexFunc_api_Sess_api_Sess_L0 a0 r)=(((decide (s3 < (a0.length:Int)))=true→(wP (.idxSlice 4 (.c (l_api_Sess a0)) (.c (.int .i64 s3)))=some (.elem ((e_api_Sess x4) ++ F_api_Sess (a0.drop (s3.toNat+1))))∧(Spec C 111 [(.agg (e_api_Sess x4))] [] (.bool x5) []∧((x5=true→lfe (rx_slices_IndexFunc_api_Sess_api_Sess_L0 a0) (.inr (.inl s3)) r)∧(x5=false→lfe (rx_slices_IndexFunc_api_Sess_api_Sess_L0 a0) (.inl (IntKind.i64.wrap (s3+1))) r)))))∧((decide (s3 < (a0.length:Int)))=false→lfe (rx_slices_IndexFunc_api_Sess_api_Sess_L0 a0) (.inr (.inr ())) r)):=fun C=>by kernel_rfl
  refine runS_of (fun _ _ h=>by cases h) WB132_0_ok (Nat.le_of_ble_eq_true rfl) ((e _).mpr ?_)
  unfold slices_IndexFunc_api_Sess_api_Sess_L0_s at h
  refine ⟨fun hb=>?_,fun hb=>?_⟩
  · have h:=cond_t hb h
    obtain ⟨q4,h⟩:=bget hx4 h
    refine ⟨wP_idx R_api_Sess q4, ?_⟩
    obtain ⟨q5,h⟩:=bget hx5 h
    refine ⟨s_shard_Right_1 (d+0) q5, ?_⟩
    refine ⟨fun hb=>?_,fun hb=>?_⟩
    · have h:=cond_t hb h
      exact lfe_of h
    · have h:=cond_f hb h
      exact lfe_of h
  · have h:=cond_f hb h
    exact lfe_of h
theorem s_slices_IndexFunc_api_Sess_api_Sess_L0 (d:Nat) {a0:List api_Sess} {s3:Int} {r:Int ⊕ Unit} (h:slices_IndexFunc_api_Sess_api_Sess_L0 a0 s3=some r):RunX (bloop (bexec (wcalls atab (d+2)) KK 19 WB132_0) [0,1,7,8] KK) 0 (inL [0,1,7,8] (st_slices_IndexFunc_api_Sess_api_Sess_L0 a0 s3)) (fin_slices_IndexFunc_api_Sess_api_Sess_L0 a0 r) :=
  loop_of (st:=st_slices_IndexFunc_api_Sess_api_Sess_L0 a0) (fin:=fin_slices_IndexFunc_api_Sess_api_Sess_L0 a0) (step:=slices_IndexFunc_api_Sess_api_Sess_L0_s a0) (fun e=>by rcases e with e | e <;> (intro h; cases h)) (fun s x h=>b_slices_IndexFunc_api_Sess_api_Sess_L0 d h) KK s3 r h
def slices_IndexFunc_api_Sess_api_Sess (a0:List api_Sess):Option (Int) :=
  (slices_IndexFunc_api_Sess_api_Sess_L0 a0 0).bind fun (x6:Int ⊕ Unit)=>cond (isL x6) (some (getL x6)) (some (-1))
def out_slices_IndexFunc_api_Sess_api_Sess (a0:List api_Sess) (r:Int):AV × WH:=((.int .i64 r),[])
theorem s_slices_IndexFunc_api_Sess_api_Sess (d:Nat) {a0:List api_Sess} {r:Int} (h:slices_IndexFunc_api_Sess_api_Sess a0=some r):Spec (wcalls atab (d+3)) 132 [(l_api_Sess a0),(.func 111 [])] [] (out_slices_IndexFunc_api_Sess_api_Sess a0 r).1 (out_slices_IndexFunc_api_Sess_api_Sess a0 r).2:=by
  obtain ⟨x6,hx6⟩:=wx (slices_IndexFunc_api_Sess_api_Sess_L0 a0 0)
  have e:∀ C:ACalls,wBody C (fun _=>none) KK WF132 [(l_api_Sess a0),(.func 111 [])] [] (.ite (isL x6) (.lp [none,none,none,none] [] [.slice none 4 0 0 true,.undef,.undef,.undef] .ret [(4,(.int .i64 (getL x6)))] [] (.fin (some false) [] none)) (.lp [none,none,none,none] [] [.slice none 4 0 0 true,.undef,.undef,.undef] (.exit 0) [] [] (.fin (some false) [] none))) (out_slices_IndexFunc_api_Sess_api_Sess a0 r).1 (out_slices_IndexFunc_api_Sess_api_Sess a0 r).2=(2=2∧2≤19∧(((isL x6)=true→(RunS (bloop (bexec C KK 19 WB132_0) [0,1,7,8] KK) 0 [(0,(l_api_Sess a0)),(1,(.func 111 [])),(7,(.int .i64 (a0.length:Int))),(8,(.int .i64 0))] [] .ret [(4,(.int .i64 (getL x6)))] []∧lff (out_slices_IndexFunc_api_Sess_api_Sess a0) (getL x6) r))∧((isL x6)=false→(RunS (bloop (bexec C KK 19 WB132_0) [0,1,7,8] KK) 0 [(0,(l_api_Sess a0)),(1,(.func 111 [])),(7,(.int .i64 (a0.length:Int))),(8,(.int .i64 0))] [] (.exit 0) [] []∧lff (out_slices_IndexFunc_api_Sess_api_Sess a0) (-1) r)))):=fun C=>by kernel_rfl
  refine spec_of (fun _ _ h=>by cases h) rfl atab_132 WF132_ok ((e _).mpr ⟨rfl,by decide, ?_⟩)
  unfold slices_IndexFunc_api_Sess_api_Sess at h
  obtain ⟨q6,h⟩:=bget hx6 h
  refine ⟨fun hb7=>?_,fun hb7=>?_⟩
  · have h:=cond_t hb7 h
    refine ⟨by have h:=s_slices_IndexFunc_api_Sess_api_Sess_L0 (d+0) q6; rw [isL_t hb7] at h; exact h, ?_⟩
    exact lff_of h
  · have h:=cond_f hb7 h
    refine ⟨by have h:=s_slices_IndexFunc_api_Sess_api_Sess_L0 (d+0) q6; rw [isL_f hb7] at h; exact h, ?_⟩
    exact lff_of h
def slices_ContainsFunc_api_Sess_api_Sess (a0:List api_Sess):Option (Bool) :=
  (slices_IndexFunc_api_Sess_api_Sess a0).bind fun (x1:Int)=>some (decide (x1 ≥ 0))
def out_slices_ContainsFunc_api_Sess_api_Sess (a0:List api_Sess) (r:Bool):AV × WH:=((.bool r),[])
theorem s_slices_ContainsFunc_api_Sess_api_Sess (d:Nat) {a0:List api_Sess} {r:Bool} (h:slices_ContainsFunc_api_Sess_api_Sess a0=some r):Spec (wcalls atab (d+4)) 110 [(l_api_Sess a0),(.func 111 [])] [] (out_slices_ContainsFunc_api_Sess_api_Sess a0 r).1 (out_slices_ContainsFunc_api_Sess_api_Sess a0 r).2:=by
  obtain ⟨x1,hx1⟩:=wx (slices_IndexFunc_api_Sess_api_Sess a0)
  have e:∀ C:ACalls,wBody C (fun _=>none) KK WF110 [(l_api_Sess a0),(.func 111 [])] [] (.cb [] [.slice none 4 0 0 true] (.int .i64 x1) (.fin (some false) [] none)) (out_slices_ContainsFunc_api_Sess_api_Sess a0 r).1 (out_slices_ContainsFunc_api_Sess_api_Sess a0 r).2=(2=2∧2≤9∧(Spec C 132 [(l_api_Sess a0),(.func 111 [])] [] (.int .i64 x1) []∧lff (out_slices_ContainsFunc_api_Sess_api_Sess a0) (decide (x1 ≥ 0)) r)):=fun C=>by kernel_rfl
  refine spec_of (fun _ _ h=>by cases h) rfl atab_110 WF110_ok ((e _).mpr ⟨rfl,by decide, ?_⟩)
  unfold slices_ContainsFunc_api_Sess_api_Sess at h
  obtain ⟨q1,h⟩:=bget hx1 h
  refine ⟨s_slices_IndexFunc_api_Sess_api_Sess (d+0) q1, ?_⟩
  exact lff_of h
abbrev in_shard_Right_J0 (p_x:api_Image):Fast × WH:=([(1,(.ptr (some (0,0))))],[(some (.cells (e_api_Image p_x) false false))])
def fin_shard_Right_J0 (p_x:api_Image):Unit ⊕ Unit→Ex × Fast × WH:=fun
  | .inl e=>(.ret,[(2,(.bool false))],[])
  | .inr e=>(.normal,[(1,(.ptr (some (0,0))))],[(some (.cells (e_api_Image p_x) false false))])
def shard_Right_J0 (p_x:api_Image):Option (Unit ⊕ Unit) :=
  cond (decide (p_x.Shard < 0)) (some (.inl ())) (cond (decide (p_x.Shard ≥ 6)) (some (.inl ())) (cond (decide (p_x.Epoch < 1)) (some (.inl ())) (cond (decide (p_x.Epoch > 1099511627776)) (some (.inl ())) (some (.inr ())))))
theorem s_shard_Right_J0 (d:Nat) {p_x:api_Image} {r:Unit ⊕ Unit} (h:shard_Right_J0 p_x=some r):RunX (bexec (wcalls atab (d+0)) KK 44 WJ73_ba) 0 (in_shard_Right_J0 p_x) (fin_shard_Right_J0 p_x r):=by
  have e:∀ C:ACalls,wCode C (fun _=>none) KK 44 0 WJ73_ba (in_shard_Right_J0 p_x).1 (in_shard_Right_J0 p_x).2 (.br 8 (.en [2] [none] [] []) (.br 13 (.en [2] [none] [] []) (.br 18 (.en [2] [none] [] []) (.br 22 (.en [2] [none] [] []) (.en [1] [none] [] []))))) (fin_shard_Right_J0 p_x r)=(((decide (p_x.Shard < 0))=true→lfe (fin_shard_Right_J0 p_x) (.inl ()) r)∧((decide (p_x.Shard < 0))=false→(((decide (p_x.Shard ≥ 6))=true→lfe (fin_shard_Right_J0 p_x) (.inl ()) r)∧((decide (p_x.Shard ≥ 6))=false→(((decide (p_x.Epoch < 1))=true→lfe (fin_shard_Right_J0 p_x) (.inl ()) r)∧((decide (p_x.Epoch < 1))=false→(((decide (p_x.Epoch > 1099511627776))=true→lfe (fin_shard_Right_J0 p_x) (.inl ()) r)∧((decide (p_x.Epoch > 1099511627776))=false→lfe (fin_shard_Right_J0 p_x) (.inr ()) r)))))))):=fun C=>by kernel_rfl
  refine runS_of (fun _ _ h=>by cases h) WJ73_ba_ok (Nat.le_of_ble_eq_true rfl) ((e _).mpr ?_)
  unfold shard_Right_J0 at h
  refine ⟨fun hb=>?_,fun hb=>?_⟩
  · have h:=cond_t hb h
    exact lfe_of h
  · have h:=cond_f hb h
    refine ⟨fun hb=>?_,fun hb=>?_⟩
    · have h:=cond_t hb h
      exact lfe_of h
    · have h:=cond_f hb h
      refine ⟨fun hb=>?_,fun hb=>?_⟩
      · have h:=cond_t hb h
        exact lfe_of h
      · have h:=cond_f hb h
        refine ⟨fun hb=>?_,fun hb=>?_⟩
        · have h:=cond_t hb h
          exact lfe_of h
        · have h:=cond_f hb h
          exact lfe_of h
abbrev in_shard_Right_J1 (x3:shard_Shard) (p_x:api_Image):Fast × WH:=([(1,(.ptr (some (0,0)))),(3,(.ptr (some (1,0))))],[(some (.cells (e_api_Image p_x) false false)),(some (.cells (e_shard_Shard x3) false false))])
def fin_shard_Right_J1 (x3:shard_Shard) (p_x:api_Image):Bool→Ex × Fast × WH:=fun e=>(.normal,[(1,(.ptr (some (0,0)))),(4,(.bool e))],[(some (.cells (e_api_Image p_x) false false))])
def shard_Right_J1 (x3:shard_Shard) (p_x:api_Image):Option (Bool) :=
  (table_Table_Pairs_3 x3).bind fun (x4:List api_Pair)=>(slices_Equal_api_Pair_api_Pair x4 p_x.Pairs).bind fun (x5:Bool)=>cond x5 ((session_Sessions_All x3).bind fun (x6:List api_Sess)=>(slices_Equal_api_Sess_api_Sess x6 p_x.Sess).bind fun (x7:Bool)=>some x7) (some false)
theorem s_shard_Right_J1 (d:Nat) {x3:shard_Shard} {p_x:api_Image} {r:Bool} (h:shard_Right_J1 x3 p_x=some r):RunX (bexec (wcalls atab (d+2)) KK 44 WJ73_bbba) 0 (in_shard_Right_J1 x3 p_x) (fin_shard_Right_J1 x3 p_x r):=by
  obtain ⟨x4,hx4⟩:=wx (table_Table_Pairs_3 x3)
  obtain ⟨x5,hx5⟩:=wx (slices_Equal_api_Pair_api_Pair x4 p_x.Pairs)
  obtain ⟨x6,hx6⟩:=wx (session_Sessions_All x3)
  obtain ⟨x7,hx7⟩:=wx (slices_Equal_api_Sess_api_Sess x6 p_x.Sess)
  have e:∀ C:ACalls,wCode C (fun _=>none) KK 44 0 WJ73_bbba (in_shard_Right_J1 x3 p_x).1 (in_shard_Right_J1 x3 p_x).2 (.call [] (some false) [] (l_api_Pair x4) [(some (.cells (e_shard_Shard x3) false false))] (.cb [] [.slice none 2 0 0 true,.slice none 2 0 0 true] (.bool x5) (.br 30 (.call [] (some false) [] (l_api_Sess x6) [(some (.cells (e_shard_Shard x3) false false))] (.cb [] [.slice none 4 0 0 true,.slice none 4 0 0 true] (.bool x7) (.en [1,4] [none,none] [] []))) (.en [1,4] [none,none] [] [])))) (fin_shard_Right_J1 x3 p_x r)=(Spec C 54 [(.ptr (some (0,0)))] [(some (.cells (e_shard_Shard x3) false false))] (l_api_Pair x4) [(some (.cells (e_shard_Shard x3) false false))]∧(1≤1∧(Spec C 108 [(l_api_Pair x4),(l_api_Pair p_x.Pairs)] [] (.bool x5) []∧((x5=true→(Spec C 107 [(.ptr (some (0,1)))] [(some (.cells (e_shard_Shard x3) false false))] (l_api_Sess x6) [(some (.cells (e_shard_Shard x3) false false))]∧(1≤1∧(Spec C 109 [(l_api_Sess x6),(l_api_Sess p_x.Sess)] [] (.bool x7) []∧lfe (fin_shard_Right_J1 x3 p_x) x7 r))))∧(x5=false→lfe (fin_shard_Right_J1 x3 p_x) false r))))):=fun C=>by kernel_rfl
  refine runS_of (fun _ _ h=>by cases h) WJ73_bbba_ok (Nat.le_of_ble_eq_true rfl) ((e _).mpr ?_)
  unfold shard_Right_J1 at h
  obtain ⟨q4,h⟩:=bget hx4 h
  refine ⟨s_table_Table_Pairs_3 (d+0) q4, ?_⟩
  refine ⟨by decide, ?_⟩
  obtain ⟨q5,h⟩:=bget hx5 h
  refine ⟨s_slices_Equal_api_Pair_api_Pair (d+1) q5, ?_⟩
  refine ⟨fun hb=>?_,fun hb=>?_⟩
  · have h:=cond_t hb h
    obtain ⟨q6,h⟩:=bget hx6 h
    refine ⟨s_session_Sessions_All (d+0) q6, ?_⟩
    refine ⟨by decide, ?_⟩
    obtain ⟨q7,h⟩:=bget hx7 h
    refine ⟨s_slices_Equal_api_Sess_api_Sess (d+1) q7, ?_⟩
    exact lfe_of h
  · have h:=cond_f hb h
    exact lfe_of h
def shard_Right (p_x:api_Image):Option (Bool) :=
  (shard_Right_J0 p_x).bind fun (x1:Unit ⊕ Unit)=>cond (isL x1) (some false) ((shard_Of p_x).bind fun (x3:shard_Shard)=>(shard_Right_J1 x3 p_x).bind fun (x8:Bool)=>cond x8 ((slices_ContainsFunc_api_Sess_api_Sess p_x.Sess).bind fun (x9:Bool)=>some (!x9)) (some false))
def out_shard_Right (p_x:api_Image) (r:Bool):AV × WH:=((.bool r),[])
theorem s_shard_Right (d:Nat) {p_x:api_Image} {r:Bool} (h:shard_Right p_x=some r):Spec (wcalls atab (d+9)) 73 [(.agg (e_api_Image p_x))] [] (out_shard_Right p_x r).1 (out_shard_Right p_x r).2:=by
  obtain ⟨x1,hx1⟩:=wx (shard_Right_J0 p_x)
  obtain ⟨x3,hx3⟩:=wx (shard_Of p_x)
  obtain ⟨x8,hx8⟩:=wx (shard_Right_J1 x3 p_x)
  obtain ⟨x9,hx9⟩:=wx (slices_ContainsFunc_api_Sess_api_Sess p_x.Sess)
  have e:∀ C:ACalls,wBody C (fun _=>none) KK WF73 [(.agg (e_api_Image p_x))] [] (.sk (.ite (isL x1) (.jn [1] [none] [] [] .ret [(2,(.bool false))] [] (.fin (some false) [] none)) (.jn [1] [none] [] [] .normal [(1,(.ptr (some (0,0))))] [(some (.cells (e_api_Image p_x) false false))] (.call [] (some false) [.agg [.undef,.undef,.slice none 2 0 0 true,.slice none 4 0 0 true]] (.agg (e_shard_Shard x3)) [] (.z 3 [.slice none 2 0 0 true,.undef,.undef,.undef,.undef,.undef,.undef,.undef,.undef,.undef,.undef,.undef,.undef,.undef,.undef,.undef,.undef,.undef,.undef] (.st none (.jn [1,3] [none,none] [] [] .normal [(1,(.ptr (some (0,0)))),(4,(.bool x8))] [(some (.cells (e_api_Image p_x) false false))] (.br 38 (.cb [] [.slice none 4 0 0 true] (.bool x9) (.fin (some false) [] none)) (.fin (some false) [] none))))))))) (out_shard_Right p_x r).1 (out_shard_Right p_x r).2=(1=1∧1≤44∧(((isL x1)=true→(RunS (bexec C KK 44 WJ73_ba) 0 [(1,(.ptr (some (0,0))))] [(some (.cells (e_api_Image p_x) false false))] .ret [(2,(.bool false))] []∧lff (out_shard_Right p_x) false r))∧((isL x1)=false→(RunS (bexec C KK 44 WJ73_ba) 0 [(1,(.ptr (some (0,0))))] [(some (.cells (e_api_Image p_x) false false))] .normal [(1,(.ptr (some (0,0))))] [(some (.cells (e_api_Image p_x) false false))]∧(Spec C 65 [(.agg (e_api_Image p_x))] [] (.agg (e_shard_Shard x3)) []∧(0≤0∧(RunS (bexec C KK 44 WJ73_bbba) 0 [(1,(.ptr (some (0,0)))),(3,(.ptr (some (1,0))))] [(some (.cells (e_api_Image p_x) false false)),(some (.cells (e_shard_Shard x3) false false))] .normal [(1,(.ptr (some (0,0)))),(4,(.bool x8))] [(some (.cells (e_api_Image p_x) false false))]∧((x8=true→(Spec C 110 [(l_api_Sess p_x.Sess),(.func 111 [])] [] (.bool x9) []∧lff (out_shard_Right p_x) (!x9) r))∧(x8=false→lff (out_shard_Right p_x) false r))))))))):=fun C=>by kernel_rfl
  refine spec_of (fun _ _ h=>by cases h) rfl atab_73 WF73_ok ((e _).mpr ⟨rfl,by decide, ?_⟩)
  unfold shard_Right at h
  obtain ⟨q1,h⟩:=bget hx1 h
  refine ⟨fun hb2=>?_,fun hb2=>?_⟩
  · have h:=cond_t hb2 h
    refine ⟨by have h:=s_shard_Right_J0 (d+8) q1; rw [isL_t hb2] at h; exact h, ?_⟩
    exact lff_of h
  · have h:=cond_f hb2 h
    refine ⟨by have h:=s_shard_Right_J0 (d+8) q1; rw [isL_f hb2] at h; exact h, ?_⟩
    obtain ⟨q3,h⟩:=bget hx3 h
    refine ⟨s_shard_Of (d+0) q3, ?_⟩
    refine ⟨by decide, ?_⟩
    obtain ⟨q8,h⟩:=bget hx8 h
    refine ⟨s_shard_Right_J1 (d+6) q8, ?_⟩
    refine ⟨fun hb=>?_,fun hb=>?_⟩
    · have h:=cond_t hb h
      obtain ⟨q9,h⟩:=bget hx9 h
      refine ⟨s_slices_ContainsFunc_api_Sess_api_Sess (d+4) q9, ?_⟩
      exact lff_of h
    · have h:=cond_f hb h
      exact lff_of h
def st_oR_Sessions_Last_2_L0 (p_b1:List api_Sess) (client:Int) (s3:Int):List AV × WH:=([(.ptr (some (0,0))),(.int .i64 client),(.ptr (some (2,0))),(.int .i64 s3)],[(some (.cells [(.acc 1 0 4 p_b1.length true)] false false)),(some (.cells (F_api_Sess p_b1) false true)),(some (.cells (e_api_Sess (⟨0,0,(⟨0,([]:List UInt8)⟩:api_Answer)⟩:api_Sess)) false false))])
def fin_oR_Sessions_Last_2_L0 (p_b1:List api_Sess) (client:Int):api_Sess ⊕ Unit→Ex × Fast × WH:=fun
  | .inl e=>(.ret,[(4,(.ptr (some (2,0)))),(5,(.bool true))],[(some (.cells [(.acc 1 0 4 p_b1.length true)] false false)),(some (.cells (F_api_Sess p_b1) false true)),(some (.cells (e_api_Sess e) false false))])
  | .inr e=>((.exit 0),[(4,(.ptr (some (2,0))))],[(some (.cells [(.acc 1 0 4 p_b1.length true)] false false)),(some (.cells (F_api_Sess p_b1) false true)),(some (.cells (e_api_Sess (⟨0,0,(⟨0,([]:List UInt8)⟩:api_Answer)⟩:api_Sess)) false false))])
abbrev rx_oR_Sessions_Last_2_L0 (p_b1:List api_Sess) (client:Int):=roundX [0,1,4,6] (st_oR_Sessions_Last_2_L0 p_b1 client) (fin_oR_Sessions_Last_2_L0 p_b1 client)
def oR_Sessions_Last_2_L0_s (p_b1:List api_Sess) (client:Int) (s3:Int):Option ((Int) ⊕ (api_Sess ⊕ Unit)) :=
  cond (decide (s3 < (p_b1.length:Int))) ((getI p_b1 s3).bind fun (x4:api_Sess)=>cond (x4.Client == client) ((getI p_b1 s3).bind fun (x5:api_Sess)=>some (.inr (.inl x5))) (some (.inl (IntKind.i64.wrap (s3+1))))) (some (.inr (.inr ())))
def oR_Sessions_Last_2_L0 (p_b1:List api_Sess) (client:Int) (s3:Int):Option (api_Sess ⊕ Unit):=loopX (oR_Sessions_Last_2_L0_s p_b1 client) KK s3
theorem b_oR_Sessions_Last_2_L0 (d:Nat) {p_b1:List api_Sess} {client:Int} {s3:Int} {r:(Int) ⊕ (api_Sess ⊕ Unit)} (h:oR_Sessions_Last_2_L0_s p_b1 client s3=some r):RunX (bexec (wcalls atab (d+0)) KK 34 WB115_0) 2 (inL [0,1,4,6] (st_oR_Sessions_Last_2_L0 p_b1 client s3)) (rx_oR_Sessions_Last_2_L0 p_b1 client r):=by
  obtain ⟨x4,hx4⟩:=wx (getI p_b1 s3)
  obtain ⟨x5,hx5⟩:=wx (getI p_b1 s3)
  have e:∀ C:ACalls,wCode C (fun _=>none) KK 34 2 WB115_0 (inL [0,1,4,6] (st_oR_Sessions_Last_2_L0 p_b1 client s3)).1 (inL [0,1,4,6] (st_oR_Sessions_Last_2_L0 p_b1 client s3)).2 (.br 13 (.v 21 (.ptr (some (1,0+s3.toNat * 4))) (.v 23 (.int .i64 x4.Client) (.br 25 (.v 31 (.ptr (some (1,0+s3.toNat * 4))) (.v 32 (.agg (e_api_Sess x5)) (.st none (.en [4,5] [none,none] [] [])))) (.en [0,1,4,6] [none,none,none,none] [] [])))) (.en [4] [none] [] [])) (rx_oR_Sessions_Last_2_L0 p_b1 client r)=(((decide (s3 < (p_b1.length:Int)))=true→(wP (.idxSlice 4 (.c (.acc 1 0 4 p_b1.length true)) (.c (.int .i64 s3)))=some (.ptr (some (1,0+s3.toNat * 4)))∧(cPart false (0+s3.toNat * 4) 1 (F_api_Sess p_b1)=some (.int .i64 x4.Client)∧(((x4.Client == client)=true→(wP (.idxSlice 4 (.c (.acc 1 0 4 p_b1.length true)) (.c (.int .i64 s3)))=some (.ptr (some (1,0+s3.toNat * 4)))∧(cPart true (0+s3.toNat * 4) 4 (F_api_Sess p_b1)=some (.agg (e_api_Sess x5))∧lfe (rx_oR_Sessions_Last_2_L0 p_b1 client) (.inr (.inl x5)) r)))∧((x4.Client == client)=false→lfe (rx_oR_Sessions_Last_2_L0 p_b1 client) (.inl (IntKind.i64.wrap (s3+1))) r)))))∧((decide (s3 < (p_b1.length:Int)))=false→lfe (rx_oR_Sessions_Last_2_L0 p_b1 client) (.inr (.inr ())) r)):=fun C=>by kernel_rfl
  refine runS_of (fun _ _ h=>by cases h) WB115_0_ok (Nat.le_of_ble_eq_true rfl) ((e _).mpr ?_)
  unfold oR_Sessions_Last_2_L0_s at h
  refine ⟨fun hb=>?_,fun hb=>?_⟩
  · have h:=cond_t hb h
    obtain ⟨q4,h⟩:=bget hx4 h
    refine ⟨wP_idxA R_api_Sess q4, ?_⟩
    refine ⟨cP_row (o:=0) R_api_Sess q4 rfl, ?_⟩
    refine ⟨fun hb=>?_,fun hb=>?_⟩
    · have h:=cond_t hb h
      obtain ⟨q5,h⟩:=bget hx5 h
      refine ⟨wP_idxA R_api_Sess q5, ?_⟩
      refine ⟨cP_row (o:=0) R_api_Sess q5 rfl, ?_⟩
      exact lfe_of h
    · have h:=cond_f hb h
      exact lfe_of h
  · have h:=cond_f hb h
    exact lfe_of h
theorem s_oR_Sessions_Last_2_L0 (d:Nat) {p_b1:List api_Sess} {client:Int} {s3:Int} {r:api_Sess ⊕ Unit} (h:oR_Sessions_Last_2_L0 p_b1 client s3=some r):RunX (bloop (bexec (wcalls atab (d+0)) KK 34 WB115_0) [0,1,4,6] KK) 2 (inL [0,1,4,6] (st_oR_Sessions_Last_2_L0 p_b1 client s3)) (fin_oR_Sessions_Last_2_L0 p_b1 client r) :=
  loop_of (st:=st_oR_Sessions_Last_2_L0 p_b1 client) (fin:=fin_oR_Sessions_Last_2_L0 p_b1 client) (step:=oR_Sessions_Last_2_L0_s p_b1 client) (fun e=>by rcases e with e | e <;> (intro h; cases h)) (fun s x h=>b_oR_Sessions_Last_2_L0 d h) KK s3 r h
def oR_Sessions_Last_2 (client:Int) (p_b1:List api_Sess):Option (api_Sess × Bool) :=
  (oR_Sessions_Last_2_L0 p_b1 client 0).bind fun (x6:api_Sess ⊕ Unit)=>cond (isL x6) (some ((getL x6),true)) (some ((⟨0,0,(⟨0,([]:List UInt8)⟩:api_Answer)⟩:api_Sess),false))
def out_oR_Sessions_Last_2 (client:Int) (p_b1:List api_Sess) (r:api_Sess × Bool):AV × WH:=((.tuple [(.agg (e_api_Sess r.1)),(.bool r.2)]),[(some (.cells [(.acc 1 0 4 p_b1.length true)] false false)),(some (.cells (F_api_Sess p_b1) false true))])
theorem s_oR_Sessions_Last_2 (d:Nat) {client:Int} {p_b1:List api_Sess} {r:api_Sess × Bool} (h:oR_Sessions_Last_2 client p_b1=some r):Spec (wcalls atab (d+1)) 115 [(.ptr (some (0,0))),(.int .i64 client)] [(some (.cells [(.acc 1 0 4 p_b1.length true)] false false)),(some (.cells (F_api_Sess p_b1) false true))] (out_oR_Sessions_Last_2 client p_b1 r).1 (out_oR_Sessions_Last_2 client p_b1 r).2:=by
  obtain ⟨x6,hx6⟩:=wx (oR_Sessions_Last_2_L0 p_b1 client 0)
  have e:∀ C:ACalls,wBody C (fun _=>none) KK WF115 [(.ptr (some (0,0))),(.int .i64 client)] [(some (.cells [(.acc 1 0 4 p_b1.length true)] false false)),(some (.cells (F_api_Sess p_b1) false true))] (.ite (isL x6) (.lp [none,none,none,none] [] [] .ret [(4,(.ptr (some (2,0)))),(5,(.bool true))] [(some (.cells [(.acc 1 0 4 p_b1.length true)] false false)),(some (.cells (F_api_Sess p_b1) false true)),(some (.cells (e_api_Sess (getL x6)) false false))] (.fin (some false) [] none)) (.lp [none,none,none,none] [] [] (.exit 0) [(4,(.ptr (some (2,0))))] [(some (.cells [(.acc 1 0 4 p_b1.length true)] false false)),(some (.cells (F_api_Sess p_b1) false true)),(some (.cells (e_api_Sess (⟨0,0,(⟨0,([]:List UInt8)⟩:api_Answer)⟩:api_Sess)) false false))] (.st none (.fin (some false) [] none)))) (out_oR_Sessions_Last_2 client p_b1 r).1 (out_oR_Sessions_Last_2 client p_b1 r).2=(2=2∧2≤34∧(((isL x6)=true→(RunS (bloop (bexec C KK 34 WB115_0) [0,1,4,6] KK) 2 [(0,(.ptr (some (0,0)))),(1,(.int .i64 client)),(4,(.ptr (some (2,0)))),(6,(.int .i64 0))] [(some (.cells [(.acc 1 0 4 p_b1.length true)] false false)),(some (.cells (F_api_Sess p_b1) false true)),(some (.cells (e_api_Sess (⟨0,0,(⟨0,([]:List UInt8)⟩:api_Answer)⟩:api_Sess)) false false))] .ret [(4,(.ptr (some (2,0)))),(5,(.bool true))] [(some (.cells [(.acc 1 0 4 p_b1.length true)] false false)),(some (.cells (F_api_Sess p_b1) false true)),(some (.cells (e_api_Sess (getL x6)) false false))]∧lff (out_oR_Sessions_Last_2 client p_b1) ((getL x6),true) r))∧((isL x6)=false→(RunS (bloop (bexec C KK 34 WB115_0) [0,1,4,6] KK) 2 [(0,(.ptr (some (0,0)))),(1,(.int .i64 client)),(4,(.ptr (some (2,0)))),(6,(.int .i64 0))] [(some (.cells [(.acc 1 0 4 p_b1.length true)] false false)),(some (.cells (F_api_Sess p_b1) false true)),(some (.cells (e_api_Sess (⟨0,0,(⟨0,([]:List UInt8)⟩:api_Answer)⟩:api_Sess)) false false))] (.exit 0) [(4,(.ptr (some (2,0))))] [(some (.cells [(.acc 1 0 4 p_b1.length true)] false false)),(some (.cells (F_api_Sess p_b1) false true)),(some (.cells (e_api_Sess (⟨0,0,(⟨0,([]:List UInt8)⟩:api_Answer)⟩:api_Sess)) false false))]∧lff (out_oR_Sessions_Last_2 client p_b1) ((⟨0,0,(⟨0,([]:List UInt8)⟩:api_Answer)⟩:api_Sess),false) r)))):=fun C=>by kernel_rfl
  refine spec_of (fun _ _ h=>by cases h) rfl atab_115 WF115_ok ((e _).mpr ⟨rfl,by decide, ?_⟩)
  unfold oR_Sessions_Last_2 at h
  obtain ⟨q6,h⟩:=bget hx6 h
  refine ⟨fun hb7=>?_,fun hb7=>?_⟩
  · have h:=cond_t hb7 h
    refine ⟨by have h:=s_oR_Sessions_Last_2_L0 (d+0) q6; rw [isL_t hb7] at h; exact h, ?_⟩
    exact lff_of h
  · have h:=cond_f hb7 h
    refine ⟨by have h:=s_oR_Sessions_Last_2_L0 (d+0) q6; rw [isL_f hb7] at h; exact h, ?_⟩
    exact lff_of h
abbrev in_oR_Sessions_Note_2_J0 (p_x:api_Sess) (x1:api_Sess × Bool) (p_b1:List api_Sess):Fast × WH:=([(0,(.ptr (some (0,0)))),(3,(.ptr (some (2,0)))),(5,(.ptr (some (3,0))))],[(some (.cells [(.acc 1 0 4 p_b1.length true)] false false)),(some (.cells (F_api_Sess p_b1) false true)),(some (.cells (e_api_Sess p_x) false false)),(some (.cells (e_api_Sess x1.1) false false))])
def fin_oR_Sessions_Note_2_J0 (p_x:api_Sess) (x1:api_Sess × Bool) (p_b1:List api_Sess):Unit ⊕ Unit→Ex × Fast × WH:=fun
  | .inl e=>(.ret,[(4,(.bool false))],[(some (.cells [(.acc 1 0 4 p_b1.length true)] false false)),(some (.cells (F_api_Sess p_b1) false true))])
  | .inr e=>(.normal,[(0,(.ptr (some (0,0)))),(3,(.ptr (some (2,0))))],[(some (.cells [(.acc 1 0 4 p_b1.length true)] false false)),(some (.cells (F_api_Sess p_b1) false true)),(some (.cells (e_api_Sess p_x) false false))])
def oR_Sessions_Note_2_J0 (p_x:api_Sess) (x1:api_Sess × Bool) (p_b1:List api_Sess):Option (Unit ⊕ Unit) :=
  cond (decide (p_x.Client < 0)) (some (.inl ())) (cond (decide (p_x.Client ≥ 4)) (some (.inl ())) (cond (decide (p_x.Seq < 1)) (some (.inl ())) (cond (decide (p_x.Seq≤x1.1.Seq)) (some (.inl ())) (some (.inr ())))))
theorem s_oR_Sessions_Note_2_J0 (d:Nat) {p_x:api_Sess} {x1:api_Sess × Bool} {p_b1:List api_Sess} {r:Unit ⊕ Unit} (h:oR_Sessions_Note_2_J0 p_x x1 p_b1=some r):RunX (bexec (wcalls atab (d+0)) KK 96 WJ116_bba) 2 (in_oR_Sessions_Note_2_J0 p_x x1 p_b1) (fin_oR_Sessions_Note_2_J0 p_x x1 p_b1 r):=by
  have e:∀ C:ACalls,wCode C (fun _=>none) KK 96 2 WJ116_bba (in_oR_Sessions_Note_2_J0 p_x x1 p_b1).1 (in_oR_Sessions_Note_2_J0 p_x x1 p_b1).2 (.br 20 (.en [4] [none] [] []) (.br 25 (.en [4] [none] [] []) (.br 30 (.en [4] [none] [] []) (.br 36 (.en [4] [none] [] []) (.en [0,3] [none,none] [] []))))) (fin_oR_Sessions_Note_2_J0 p_x x1 p_b1 r)=(((decide (p_x.Client < 0))=true→lfe (fin_oR_Sessions_Note_2_J0 p_x x1 p_b1) (.inl ()) r)∧((decide (p_x.Client < 0))=false→(((decide (p_x.Client ≥ 4))=true→lfe (fin_oR_Sessions_Note_2_J0 p_x x1 p_b1) (.inl ()) r)∧((decide (p_x.Client ≥ 4))=false→(((decide (p_x.Seq < 1))=true→lfe (fin_oR_Sessions_Note_2_J0 p_x x1 p_b1) (.inl ()) r)∧((decide (p_x.Seq < 1))=false→(((decide (p_x.Seq≤x1.1.Seq))=true→lfe (fin_oR_Sessions_Note_2_J0 p_x x1 p_b1) (.inl ()) r)∧((decide (p_x.Seq≤x1.1.Seq))=false→lfe (fin_oR_Sessions_Note_2_J0 p_x x1 p_b1) (.inr ()) r)))))))):=fun C=>by kernel_rfl
  refine runS_of (fun _ _ h=>by cases h) WJ116_bba_ok (Nat.le_of_ble_eq_true rfl) ((e _).mpr ?_)
  unfold oR_Sessions_Note_2_J0 at h
  refine ⟨fun hb=>?_,fun hb=>?_⟩
  · have h:=cond_t hb h
    exact lfe_of h
  · have h:=cond_f hb h
    refine ⟨fun hb=>?_,fun hb=>?_⟩
    · have h:=cond_t hb h
      exact lfe_of h
    · have h:=cond_f hb h
      refine ⟨fun hb=>?_,fun hb=>?_⟩
      · have h:=cond_t hb h
        exact lfe_of h
      · have h:=cond_f hb h
        refine ⟨fun hb=>?_,fun hb=>?_⟩
        · have h:=cond_t hb h
          exact lfe_of h
        · have h:=cond_f hb h
          exact lfe_of h
abbrev in_oR_Sessions_Note_2_J1 (s18:Bool × Int × List api_Sess) (p_b1:List api_Sess) (p_x:api_Sess):Fast × WH:=([(0,(.ptr (some (0,0)))),(3,(.ptr (some (2,0)))),(7,(.acc 3 0 4 s18.2.2.length true)),(8,(.bool s18.1)),(9,(.int .i64 s18.2.1))],[(some (.cells [(.acc 1 0 4 p_b1.length true)] false false)),(some (.cells (F_api_Sess p_b1) false true)),(some (.cells (e_api_Sess p_x) false false)),(some (.cells (F_api_Sess s18.2.2) false true))])
def fin_oR_Sessions_Note_2_J1 (s18:Bool × Int × List api_Sess) (p_b1:List api_Sess) (p_x:api_Sess):Bool→Ex × Fast × WH:=fun e=>(.normal,[(0,(.ptr (some (0,0)))),(3,(.ptr (some (2,0)))),(7,(.acc 3 0 4 s18.2.2.length true)),(8,(.bool s18.1)),(9,(.int .i64 s18.2.1)),(60,(.bool e))],[(some (.cells [(.acc 1 0 4 p_b1.length true)] false false)),(some (.cells (F_api_Sess p_b1) false true)),(some (.cells (e_api_Sess p_x) false false)),(some (.cells (F_api_Sess s18.2.2) false true))])
def oR_Sessions_Note_2_J1 (s18:Bool × Int × List api_Sess) (p_b1:List api_Sess) (p_x:api_Sess):Option (Bool) :=
  cond (!s18.1) ((getI p_b1 s18.2.1).bind fun (x19:api_Sess)=>some (decide (x19.Client ≥ p_x.Client))) (some false)
theorem s_oR_Sessions_Note_2_J1 (d:Nat) {s18:Bool × Int × List api_Sess} {p_b1:List api_Sess} {p_x:api_Sess} {r:Bool} (h:oR_Sessions_Note_2_J1 s18 p_b1 p_x=some r):RunX (bexec (wcalls atab (d+0)) KK 96 WJ116_bbbbbabklbakaa) 2 (in_oR_Sessions_Note_2_J1 s18 p_b1 p_x) (fin_oR_Sessions_Note_2_J1 s18 p_b1 p_x r):=by
  obtain ⟨x19,hx19⟩:=wx (getI p_b1 s18.2.1)
  have e:∀ C:ACalls,wCode C (fun _=>none) KK 96 2 WJ116_bbbbbabklbakaa (in_oR_Sessions_Note_2_J1 s18 p_b1 p_x).1 (in_oR_Sessions_Note_2_J1 s18 p_b1 p_x).2 (.br 48 (.v 54 (.ptr (some (1,0+s18.2.1.toNat * 4))) (.v 56 (.int .i64 x19.Client) (.en [0,3,7,8,9,60] [none,none,none,none,none,none] [] [.undef,.undef,.slice none 4 0 0 true,.undef,.undef,.undef]))) (.en [0,3,7,8,9,60] [none,none,none,none,none,none] [] [.undef,.undef,.slice none 4 0 0 true,.undef,.undef,.undef])) (fin_oR_Sessions_Note_2_J1 s18 p_b1 p_x r)=(((!s18.1)=true→(wP (.idxSlice 4 (.c (.acc 1 0 4 p_b1.length true)) (.c (.int .i64 s18.2.1)))=some (.ptr (some (1,0+s18.2.1.toNat * 4)))∧(cPart false (0+s18.2.1.toNat * 4) 1 (F_api_Sess p_b1)=some (.int .i64 x19.Client)∧lfe (fin_oR_Sessions_Note_2_J1 s18 p_b1 p_x) (decide (x19.Client ≥ p_x.Client)) r)))∧((!s18.1)=false→lfe (fin_oR_Sessions_Note_2_J1 s18 p_b1 p_x) false r)):=fun C=>by kernel_rfl
  refine runS_of (fun _ _ h=>by cases h) WJ116_bbbbbabklbakaa_ok (Nat.le_of_ble_eq_true rfl) ((e _).mpr ?_)
  unfold oR_Sessions_Note_2_J1 at h
  refine ⟨fun hb=>?_,fun hb=>?_⟩
  · have h:=cond_t hb h
    obtain ⟨q19,h⟩:=bget hx19 h
    refine ⟨wP_idxA R_api_Sess q19, ?_⟩
    refine ⟨cP_row (o:=0) R_api_Sess q19 rfl, ?_⟩
    exact lfe_of h
  · have h:=cond_f hb h
    exact lfe_of h
abbrev in_oR_Sessions_Note_2_J2 (s18:Bool × Int × List api_Sess) (p_b1:List api_Sess) (p_x:api_Sess):Fast × WH:=([(0,(.ptr (some (0,0)))),(3,(.ptr (some (2,0)))),(7,(.acc 3 0 4 s18.2.2.length true)),(8,(.bool s18.1)),(9,(.int .i64 s18.2.1))],[(some (.cells [(.acc 1 0 4 p_b1.length true)] false false)),(some (.cells (F_api_Sess p_b1) false true)),(some (.cells (e_api_Sess p_x) false false)),(some (.cells (F_api_Sess s18.2.2) false true))])
def fin_oR_Sessions_Note_2_J2 (s18:Bool × Int × List api_Sess) (p_b1:List api_Sess) (p_x:api_Sess):(Bool × List api_Sess)→Ex × Fast × WH:=fun e=>(.normal,[(0,(.ptr (some (0,0)))),(3,(.ptr (some (2,0)))),(7,(.acc 3 0 4 e.2.length true)),(8,(.bool e.1)),(9,(.int .i64 s18.2.1))],[(some (.cells [(.acc 1 0 4 p_b1.length true)] false false)),(some (.cells (F_api_Sess p_b1) false true)),(some (.cells (e_api_Sess p_x) false false)),(some (.cells (F_api_Sess e.2) false true))])
def oR_Sessions_Note_2_J2 (s18:Bool × Int × List api_Sess) (p_b1:List api_Sess) (p_x:api_Sess):Option ((Bool × List api_Sess)) :=
  (oR_Sessions_Note_2_J1 s18 p_b1 p_x).bind fun (x20:Bool)=>cond x20 (gd (fitsB 40 (s18.2.2 ++ [p_x]).length) (some (true,(s18.2.2 ++ [p_x])))) (some (s18.1,s18.2.2))
theorem s_oR_Sessions_Note_2_J2 (d:Nat) {s18:Bool × Int × List api_Sess} {p_b1:List api_Sess} {p_x:api_Sess} {r:(Bool × List api_Sess)} (h:oR_Sessions_Note_2_J2 s18 p_b1 p_x=some r):RunX (bexec (wcalls atab (d+0)) KK 96 WJ116_bbbbbabklbaka) 2 (in_oR_Sessions_Note_2_J2 s18 p_b1 p_x) (fin_oR_Sessions_Note_2_J2 s18 p_b1 p_x r):=by
  obtain ⟨x20,hx20⟩:=wx (oR_Sessions_Note_2_J1 s18 p_b1 p_x)
  have e:∀ C:ACalls,wCode C (fun _=>none) KK 96 2 WJ116_bbbbbabklbaka (in_oR_Sessions_Note_2_J2 s18 p_b1 p_x).1 (in_oR_Sessions_Note_2_J2 s18 p_b1 p_x).2 (.jn [0,3,7,8,9] [none,none,none,none,none] [] [.undef,.undef,.slice none 4 0 0 true,.undef,.undef] .normal [(0,(.ptr (some (0,0)))),(3,(.ptr (some (2,0)))),(7,(.acc 3 0 4 s18.2.2.length true)),(8,(.bool s18.1)),(9,(.int .i64 s18.2.1)),(60,(.bool x20))] [(some (.cells [(.acc 1 0 4 p_b1.length true)] false false)),(some (.cells (F_api_Sess p_b1) false true)),(some (.cells (e_api_Sess p_x) false false)),(some (.cells (F_api_Sess s18.2.2) false true))] (.br 60 (.ap 64 (s18.2.2 ++ [p_x]).length (F_api_Sess (s18.2.2 ++ [p_x])) (.en [0,3,7,8,9] [none,none,none,none,none] [] [.undef,.undef,.slice none 4 0 0 true,.undef,.undef])) (.en [0,3,7,8,9] [none,none,none,none,none] [] [.undef,.undef,.slice none 4 0 0 true,.undef,.undef]))) (fin_oR_Sessions_Note_2_J2 s18 p_b1 p_x r)=(RunS (bexec C KK 96 WJ116_bbbbbabklbakaa) 2 [(0,(.ptr (some (0,0)))),(3,(.ptr (some (2,0)))),(7,(.acc 3 0 4 s18.2.2.length true)),(8,(.bool s18.1)),(9,(.int .i64 s18.2.1))] [(some (.cells [(.acc 1 0 4 p_b1.length true)] false false)),(some (.cells (F_api_Sess p_b1) false true)),(some (.cells (e_api_Sess p_x) false false)),(some (.cells (F_api_Sess s18.2.2) false true))] .normal [(0,(.ptr (some (0,0)))),(3,(.ptr (some (2,0)))),(7,(.acc 3 0 4 s18.2.2.length true)),(8,(.bool s18.1)),(9,(.int .i64 s18.2.1)),(60,(.bool x20))] [(some (.cells [(.acc 1 0 4 p_b1.length true)] false false)),(some (.cells (F_api_Sess p_b1) false true)),(some (.cells (e_api_Sess p_x) false false)),(some (.cells (F_api_Sess s18.2.2) false true))]∧((x20=true→(s18.2.2.length+1=(s18.2.2 ++ [p_x]).length∧(F_api_Sess s18.2.2 ++ F_api_Sess [p_x]=F_api_Sess (s18.2.2 ++ [p_x])∧(fitsB 40 (s18.2.2 ++ [p_x]).length=true∧lfe (fin_oR_Sessions_Note_2_J2 s18 p_b1 p_x) (true,(s18.2.2 ++ [p_x])) r))))∧(x20=false→lfe (fin_oR_Sessions_Note_2_J2 s18 p_b1 p_x) (s18.1,s18.2.2) r))):=fun C=>by kernel_rfl
  refine runS_of (fun _ _ h=>by cases h) WJ116_bbbbbabklbaka_ok (Nat.le_of_ble_eq_true rfl) ((e _).mpr ?_)
  unfold oR_Sessions_Note_2_J2 at h
  obtain ⟨q20,h⟩:=bget hx20 h
  refine ⟨s_oR_Sessions_Note_2_J1 (d+0) q20, ?_⟩
  refine ⟨fun hb=>?_,fun hb=>?_⟩
  · have h:=cond_t hb h
    obtain ⟨q21,h⟩:=gd_some h
    refine ⟨by simp, ?_⟩
    refine ⟨(Row.app R_api_Sess _ _).symm, ?_⟩
    refine ⟨q21, ?_⟩
    exact lfe_of h
  · have h:=cond_f hb h
    exact lfe_of h
def st_oR_Sessions_Note_2_L3 (p_b1:List api_Sess) (p_x:api_Sess) (s18:Bool × Int × List api_Sess):List AV × WH:=([(.ptr (some (0,0))),(.ptr (some (2,0))),(.acc 3 0 4 s18.2.2.length true),(.bool s18.1),(.int .i64 s18.2.1)],[(some (.cells [(.acc 1 0 4 p_b1.length true)] false false)),(some (.cells (F_api_Sess p_b1) false true)),(some (.cells (e_api_Sess p_x) false false)),(some (.cells (F_api_Sess s18.2.2) false true))])
def fin_oR_Sessions_Note_2_L3 (p_b1:List api_Sess) (p_x:api_Sess):(Bool × List api_Sess)→Ex × Fast × WH:=fun e=>((.exit 0),[(0,(.ptr (some (0,0)))),(3,(.ptr (some (2,0)))),(7,(.acc 3 0 4 e.2.length true)),(8,(.bool e.1))],[(some (.cells [(.acc 1 0 4 p_b1.length true)] false false)),(some (.cells (F_api_Sess p_b1) false true)),(some (.cells (e_api_Sess p_x) false false)),(some (.cells (F_api_Sess e.2) false true))])
abbrev rx_oR_Sessions_Note_2_L3 (p_b1:List api_Sess) (p_x:api_Sess):=roundX [0,3,7,8,9] (st_oR_Sessions_Note_2_L3 p_b1 p_x) (fin_oR_Sessions_Note_2_L3 p_b1 p_x)
def oR_Sessions_Note_2_L3_s (p_b1:List api_Sess) (p_x:api_Sess) (s18:Bool × Int × List api_Sess):Option ((Bool × Int × List api_Sess) ⊕ ((Bool × List api_Sess))) :=
  cond (decide (s18.2.1 < (p_b1.length:Int))) ((oR_Sessions_Note_2_J2 s18 p_b1 p_x).bind fun (x22:(Bool × List api_Sess))=>(getI p_b1 s18.2.1).bind fun (x23:api_Sess)=>cond (x23.Client != p_x.Client) ((getI p_b1 s18.2.1).bind fun (x24:api_Sess)=>gd (fitsB 40 (x22.2 ++ [x24]).length) (some (.inl (x22.1,(IntKind.i64.wrap (s18.2.1+1)),(x22.2 ++ [x24]))))) (some (.inl (x22.1,(IntKind.i64.wrap (s18.2.1+1)),x22.2)))) (some (.inr (s18.1,s18.2.2)))
def oR_Sessions_Note_2_L3 (p_b1:List api_Sess) (p_x:api_Sess) (s18:Bool × Int × List api_Sess):Option ((Bool × List api_Sess)):=loopX (oR_Sessions_Note_2_L3_s p_b1 p_x) KK s18
theorem b_oR_Sessions_Note_2_L3 (d:Nat) {p_b1:List api_Sess} {p_x:api_Sess} {s18:Bool × Int × List api_Sess} {r:(Bool × Int × List api_Sess) ⊕ ((Bool × List api_Sess))} (h:oR_Sessions_Note_2_L3_s p_b1 p_x s18=some r):RunX (bexec (wcalls atab (d+0)) KK 96 WB116_0) 2 (inL [0,3,7,8,9] (st_oR_Sessions_Note_2_L3 p_b1 p_x s18)) (rx_oR_Sessions_Note_2_L3 p_b1 p_x r):=by
  obtain ⟨x22,hx22⟩:=wx (oR_Sessions_Note_2_J2 s18 p_b1 p_x)
  obtain ⟨x23,hx23⟩:=wx (getI p_b1 s18.2.1)
  obtain ⟨x24,hx24⟩:=wx (getI p_b1 s18.2.1)
  have e:∀ C:ACalls,wCode C (fun _=>none) KK 96 2 WB116_0 (inL [0,3,7,8,9] (st_oR_Sessions_Note_2_L3 p_b1 p_x s18)).1 (inL [0,3,7,8,9] (st_oR_Sessions_Note_2_L3 p_b1 p_x s18)).2 (.br 43 (.sk (.jn [0,3,7,8,9] [none,none,none,none,none] [] [.undef,.undef,.slice none 4 0 0 true,.undef,.undef] .normal [(0,(.ptr (some (0,0)))),(3,(.ptr (some (2,0)))),(7,(.acc 3 0 4 x22.2.length true)),(8,(.bool x22.1)),(9,(.int .i64 s18.2.1))] [(some (.cells [(.acc 1 0 4 p_b1.length true)] false false)),(some (.cells (F_api_Sess p_b1) false true)),(some (.cells (e_api_Sess p_x) false false)),(some (.cells (F_api_Sess x22.2) false true))] (.v 70 (.ptr (some (1,0+s18.2.1.toNat * 4))) (.v 72 (.int .i64 x23.Client) (.br 75 (.v 82 (.ptr (some (1,0+s18.2.1.toNat * 4))) (.v 83 (.agg (e_api_Sess x24)) (.ap 85 (x22.2 ++ [x24]).length (F_api_Sess (x22.2 ++ [x24])) (.en [0,3,7,8,9] [none,none,none,none,none] [] [.undef,.undef,.slice none 4 0 0 true,.undef,.undef])))) (.en [0,3,7,8,9] [none,none,none,none,none] [] [.undef,.undef,.slice none 4 0 0 true,.undef,.undef])))))) (.en [0,3,7,8] [none,none,none,none] [] [.undef,.undef,.slice none 4 0 0 true,.undef])) (rx_oR_Sessions_Note_2_L3 p_b1 p_x r)=(((decide (s18.2.1 < (p_b1.length:Int)))=true→(RunS (bexec C KK 96 WJ116_bbbbbabklbaka) 2 [(0,(.ptr (some (0,0)))),(3,(.ptr (some (2,0)))),(7,(.acc 3 0 4 s18.2.2.length true)),(8,(.bool s18.1)),(9,(.int .i64 s18.2.1))] [(some (.cells [(.acc 1 0 4 p_b1.length true)] false false)),(some (.cells (F_api_Sess p_b1) false true)),(some (.cells (e_api_Sess p_x) false false)),(some (.cells (F_api_Sess s18.2.2) false true))] .normal [(0,(.ptr (some (0,0)))),(3,(.ptr (some (2,0)))),(7,(.acc 3 0 4 x22.2.length true)),(8,(.bool x22.1)),(9,(.int .i64 s18.2.1))] [(some (.cells [(.acc 1 0 4 p_b1.length true)] false false)),(some (.cells (F_api_Sess p_b1) false true)),(some (.cells (e_api_Sess p_x) false false)),(some (.cells (F_api_Sess x22.2) false true))]∧(wP (.idxSlice 4 (.c (.acc 1 0 4 p_b1.length true)) (.c (.int .i64 s18.2.1)))=some (.ptr (some (1,0+s18.2.1.toNat * 4)))∧(cPart false (0+s18.2.1.toNat * 4) 1 (F_api_Sess p_b1)=some (.int .i64 x23.Client)∧(((x23.Client != p_x.Client)=true→(wP (.idxSlice 4 (.c (.acc 1 0 4 p_b1.length true)) (.c (.int .i64 s18.2.1)))=some (.ptr (some (1,0+s18.2.1.toNat * 4)))∧(cPart true (0+s18.2.1.toNat * 4) 4 (F_api_Sess p_b1)=some (.agg (e_api_Sess x24))∧(x22.2.length+1=(x22.2 ++ [x24]).length∧(F_api_Sess x22.2 ++ F_api_Sess [x24]=F_api_Sess (x22.2 ++ [x24])∧(fitsB 40 (x22.2 ++ [x24]).length=true∧lfe (rx_oR_Sessions_Note_2_L3 p_b1 p_x) (.inl (x22.1,(IntKind.i64.wrap (s18.2.1+1)),(x22.2 ++ [x24]))) r))))))∧((x23.Client != p_x.Client)=false→lfe (rx_oR_Sessions_Note_2_L3 p_b1 p_x) (.inl (x22.1,(IntKind.i64.wrap (s18.2.1+1)),x22.2)) r))))))∧((decide (s18.2.1 < (p_b1.length:Int)))=false→lfe (rx_oR_Sessions_Note_2_L3 p_b1 p_x) (.inr (s18.1,s18.2.2)) r)):=fun C=>by kernel_rfl
  refine runS_of (fun _ _ h=>by cases h) WB116_0_ok (Nat.le_of_ble_eq_true rfl) ((e _).mpr ?_)
  unfold oR_Sessions_Note_2_L3_s at h
  refine ⟨fun hb=>?_,fun hb=>?_⟩
  · have h:=cond_t hb h
    obtain ⟨q22,h⟩:=bget hx22 h
    refine ⟨s_oR_Sessions_Note_2_J2 (d+0) q22, ?_⟩
    obtain ⟨q23,h⟩:=bget hx23 h
    refine ⟨wP_idxA R_api_Sess q23, ?_⟩
    refine ⟨cP_row (o:=0) R_api_Sess q23 rfl, ?_⟩
    refine ⟨fun hb=>?_,fun hb=>?_⟩
    · have h:=cond_t hb h
      obtain ⟨q24,h⟩:=bget hx24 h
      refine ⟨wP_idxA R_api_Sess q24, ?_⟩
      refine ⟨cP_row (o:=0) R_api_Sess q24 rfl, ?_⟩
      obtain ⟨q25,h⟩:=gd_some h
      refine ⟨by simp, ?_⟩
      refine ⟨(Row.app R_api_Sess _ _).symm, ?_⟩
      refine ⟨q25, ?_⟩
      exact lfe_of h
    · have h:=cond_f hb h
      exact lfe_of h
  · have h:=cond_f hb h
    exact lfe_of h
theorem s_oR_Sessions_Note_2_L3 (d:Nat) {p_b1:List api_Sess} {p_x:api_Sess} {s18:Bool × Int × List api_Sess} {r:(Bool × List api_Sess)} (h:oR_Sessions_Note_2_L3 p_b1 p_x s18=some r):RunX (bloop (bexec (wcalls atab (d+0)) KK 96 WB116_0) [0,3,7,8,9] KK) 2 (inL [0,3,7,8,9] (st_oR_Sessions_Note_2_L3 p_b1 p_x s18)) (fin_oR_Sessions_Note_2_L3 p_b1 p_x r) :=
  loop_of (st:=st_oR_Sessions_Note_2_L3 p_b1 p_x) (fin:=fin_oR_Sessions_Note_2_L3 p_b1 p_x) (step:=oR_Sessions_Note_2_L3_s p_b1 p_x) (fun e=>by (intro h; cases h)) (fun s x h=>b_oR_Sessions_Note_2_L3 d h) KK s18 r h
abbrev in_oR_Sessions_Note_2_J4 (x26:(Bool × List api_Sess)) (p_x:api_Sess) (p_b1:List api_Sess):Fast × WH:=([(0,(.ptr (some (0,0)))),(3,(.ptr (some (2,0)))),(7,(.acc 3 0 4 x26.2.length true)),(8,(.bool x26.1))],[(some (.cells [(.acc 1 0 4 p_b1.length true)] false false)),(some (.cells (F_api_Sess p_b1) false true)),(some (.cells (e_api_Sess p_x) false false)),(some (.cells (F_api_Sess x26.2) false true))])
def fin_oR_Sessions_Note_2_J4 (x26:(Bool × List api_Sess)) (p_x:api_Sess) (p_b1:List api_Sess):(List api_Sess)→Ex × Fast × WH:=fun e=>(.normal,[(0,(.ptr (some (0,0)))),(7,(.acc 2 0 4 e.length true))],[(some (.cells [(.acc 1 0 4 p_b1.length true)] false false)),(some (.cells (F_api_Sess p_b1) false true)),(some (.cells (F_api_Sess e) false true))])
def oR_Sessions_Note_2_J4 (x26:(Bool × List api_Sess)) (p_x:api_Sess) (p_b1:List api_Sess):Option ((List api_Sess)) :=
  cond (!x26.1) (gd (fitsB 40 (x26.2 ++ [p_x]).length) (some (x26.2 ++ [p_x]))) (some x26.2)
theorem s_oR_Sessions_Note_2_J4 (d:Nat) {x26:(Bool × List api_Sess)} {p_x:api_Sess} {p_b1:List api_Sess} {r:(List api_Sess)} (h:oR_Sessions_Note_2_J4 x26 p_x p_b1=some r):RunX (bexec (wcalls atab (d+0)) KK 96 WJ116_bbbbbba) 2 (in_oR_Sessions_Note_2_J4 x26 p_x p_b1) (fin_oR_Sessions_Note_2_J4 x26 p_x p_b1 r):=by
  have e:∀ C:ACalls,wCode C (fun _=>none) KK 96 2 WJ116_bbbbbba (in_oR_Sessions_Note_2_J4 x26 p_x p_b1).1 (in_oR_Sessions_Note_2_J4 x26 p_x p_b1).2 (.br 87 (.ap 91 (x26.2 ++ [p_x]).length (F_api_Sess (x26.2 ++ [p_x])) (.en [0,7] [none,none] [] [.undef,.slice none 4 0 0 true])) (.en [0,7] [none,none] [] [.undef,.slice none 4 0 0 true])) (fin_oR_Sessions_Note_2_J4 x26 p_x p_b1 r)=(((!x26.1)=true→(x26.2.length+1=(x26.2 ++ [p_x]).length∧(F_api_Sess x26.2 ++ F_api_Sess [p_x]=F_api_Sess (x26.2 ++ [p_x])∧(fitsB 40 (x26.2 ++ [p_x]).length=true∧lfe (fin_oR_Sessions_Note_2_J4 x26 p_x p_b1) (x26.2 ++ [p_x]) r))))∧((!x26.1)=false→lfe (fin_oR_Sessions_Note_2_J4 x26 p_x p_b1) x26.2 r)):=fun C=>by kernel_rfl
  refine runS_of (fun _ _ h=>by cases h) WJ116_bbbbbba_ok (Nat.le_of_ble_eq_true rfl) ((e _).mpr ?_)
  unfold oR_Sessions_Note_2_J4 at h
  refine ⟨fun hb=>?_,fun hb=>?_⟩
  · have h:=cond_t hb h
    obtain ⟨q27,h⟩:=gd_some h
    refine ⟨by simp, ?_⟩
    refine ⟨(Row.app R_api_Sess _ _).symm, ?_⟩
    refine ⟨q27, ?_⟩
    exact lfe_of h
  · have h:=cond_f hb h
    exact lfe_of h
def oR_Sessions_Note_2 (p_x:api_Sess) (p_b1:List api_Sess):Option (Bool × List api_Sess) :=
  (oR_Sessions_Last_2 p_x.Client p_b1).bind fun (x1:api_Sess × Bool)=>(oR_Sessions_Note_2_J0 p_x x1 p_b1).bind fun (x2:Unit ⊕ Unit)=>cond (isL x2) (some (false,p_b1)) ((oR_Sessions_Note_2_L3 p_b1 p_x (false,0,[])).bind fun (x26:(Bool × List api_Sess))=>(oR_Sessions_Note_2_J4 x26 p_x p_b1).bind fun (x28:(List api_Sess))=>some (true,x28))
def out_oR_Sessions_Note_2 (p_x:api_Sess) (p_b1:List api_Sess) (r:Bool × List api_Sess):AV × WH:=((.bool r.1),[(some (.cells [(.acc 2 0 4 r.2.length true)] false false)),none,(some (.cells (F_api_Sess r.2) false true))])
theorem s_oR_Sessions_Note_2 (d:Nat) {p_x:api_Sess} {p_b1:List api_Sess} {r:Bool × List api_Sess} (h:oR_Sessions_Note_2 p_x p_b1=some r):Spec (wcalls atab (d+2)) 116 [(.ptr (some (0,0))),(.agg (e_api_Sess p_x))] [(some (.cells [(.acc 1 0 4 p_b1.length true)] false false)),(some (.cells (F_api_Sess p_b1) false true))] (out_oR_Sessions_Note_2 p_x p_b1 r).1 (out_oR_Sessions_Note_2 p_x p_b1 r).2:=by
  obtain ⟨x1,hx1⟩:=wx (oR_Sessions_Last_2 p_x.Client p_b1)
  obtain ⟨x2,hx2⟩:=wx (oR_Sessions_Note_2_J0 p_x x1 p_b1)
  obtain ⟨x26,hx26⟩:=wx (oR_Sessions_Note_2_L3 p_b1 p_x (false,0,[]))
  obtain ⟨x28,hx28⟩:=wx (oR_Sessions_Note_2_J4 x26 p_x p_b1)
  have e:∀ C:ACalls,wBody C (fun _=>none) KK WF116 [(.ptr (some (0,0))),(.agg (e_api_Sess p_x))] [(some (.cells [(.acc 1 0 4 p_b1.length true)] false false)),(some (.cells (F_api_Sess p_b1) false true))] (.call [] none [] (.tuple [(.agg (e_api_Sess x1.1)),(.bool x1.2)]) [(some (.cells [(.acc 1 0 4 p_b1.length true)] false false)),(some (.cells (F_api_Sess p_b1) false true))] (.st none (.ite (isL x2) (.jn [0,3,5] [none,none,none] [] [] .ret [(4,(.bool false))] [(some (.cells [(.acc 1 0 4 p_b1.length true)] false false)),(some (.cells (F_api_Sess p_b1) false true))] (.fin (some false) [] (some true))) (.jn [0,3,5] [none,none,none] [] [] .normal [(0,(.ptr (some (0,0)))),(3,(.ptr (some (2,0))))] [(some (.cells [(.acc 1 0 4 p_b1.length true)] false false)),(some (.cells (F_api_Sess p_b1) false true)),(some (.cells (e_api_Sess p_x) false false))] (.z 7 [.slice none 4 0 0 true] (.lp [none,none,(some true),none,none] [] [.undef,.undef,.slice none 4 0 0 true,.undef,.undef] (.exit 0) [(0,(.ptr (some (0,0)))),(3,(.ptr (some (2,0)))),(7,(.acc 3 0 4 x26.2.length true)),(8,(.bool x26.1))] [(some (.cells [(.acc 1 0 4 p_b1.length true)] false false)),(some (.cells (F_api_Sess p_b1) false true)),(some (.cells (e_api_Sess p_x) false false)),(some (.cells (F_api_Sess x26.2) false true))] (.jn [0,3,7,8] [none,none,none,none] [] [.undef,.undef,.slice none 4 0 0 true,.undef] .normal [(0,(.ptr (some (0,0)))),(7,(.acc 2 0 4 x28.length true))] [(some (.cells [(.acc 1 0 4 p_b1.length true)] false false)),(some (.cells (F_api_Sess p_b1) false true)),(some (.cells (F_api_Sess x28) false true))] (.st none (.kl [1] (.fin (some false) [] (some true))))))))))) (out_oR_Sessions_Note_2 p_x p_b1 r).1 (out_oR_Sessions_Note_2 p_x p_b1 r).2=(2=2∧2≤96∧(Spec C 115 [(.ptr (some (0,0))),(.int .i64 p_x.Client)] [(some (.cells [(.acc 1 0 4 p_b1.length true)] false false)),(some (.cells (F_api_Sess p_b1) false true))] (.tuple [(.agg (e_api_Sess x1.1)),(.bool x1.2)]) [(some (.cells [(.acc 1 0 4 p_b1.length true)] false false)),(some (.cells (F_api_Sess p_b1) false true))]∧(2≤2∧(((isL x2)=true→(RunS (bexec C KK 96 WJ116_bba) 2 [(0,(.ptr (some (0,0)))),(3,(.ptr (some (2,0)))),(5,(.ptr (some (3,0))))] [(some (.cells [(.acc 1 0 4 p_b1.length true)] false false)),(some (.cells (F_api_Sess p_b1) false true)),(some (.cells (e_api_Sess p_x) false false)),(some (.cells (e_api_Sess x1.1) false false))] .ret [(4,(.bool false))] [(some (.cells [(.acc 1 0 4 p_b1.length true)] false false)),(some (.cells (F_api_Sess p_b1) false true))]∧lff (out_oR_Sessions_Note_2 p_x p_b1) (false,p_b1) r))∧((isL x2)=false→(RunS (bexec C KK 96 WJ116_bba) 2 [(0,(.ptr (some (0,0)))),(3,(.ptr (some (2,0)))),(5,(.ptr (some (3,0))))] [(some (.cells [(.acc 1 0 4 p_b1.length true)] false false)),(some (.cells (F_api_Sess p_b1) false true)),(some (.cells (e_api_Sess p_x) false false)),(some (.cells (e_api_Sess x1.1) false false))] .normal [(0,(.ptr (some (0,0)))),(3,(.ptr (some (2,0))))] [(some (.cells [(.acc 1 0 4 p_b1.length true)] false false)),(some (.cells (F_api_Sess p_b1) false true)),(some (.cells (e_api_Sess p_x) false false))]∧(RunS (bloop (bexec C KK 96 WB116_0) [0,3,7,8,9] KK) 2 [(0,(.ptr (some (0,0)))),(3,(.ptr (some (2,0)))),(7,(.acc 3 0 4 0 true)),(8,(.bool false)),(9,(.int .i64 0))] [(some (.cells [(.acc 1 0 4 p_b1.length true)] false false)),(some (.cells (F_api_Sess p_b1) false true)),(some (.cells (e_api_Sess p_x) false false)),(some (.cells (F_api_Sess []) false true))] (.exit 0) [(0,(.ptr (some (0,0)))),(3,(.ptr (some (2,0)))),(7,(.acc 3 0 4 x26.2.length true)),(8,(.bool x26.1))] [(some (.cells [(.acc 1 0 4 p_b1.length true)] false false)),(some (.cells (F_api_Sess p_b1) false true)),(some (.cells (e_api_Sess p_x) false false)),(some (.cells (F_api_Sess x26.2) false true))]∧(RunS (bexec C KK 96 WJ116_bbbbbba) 2 [(0,(.ptr (some (0,0)))),(3,(.ptr (some (2,0)))),(7,(.acc 3 0 4 x26.2.length true)),(8,(.bool x26.1))] [(some (.cells [(.acc 1 0 4 p_b1.length true)] false false)),(some (.cells (F_api_Sess p_b1) false true)),(some (.cells (e_api_Sess p_x) false false)),(some (.cells (F_api_Sess x26.2) false true))] .normal [(0,(.ptr (some (0,0)))),(7,(.acc 2 0 4 x28.length true))] [(some (.cells [(.acc 1 0 4 p_b1.length true)] false false)),(some (.cells (F_api_Sess p_b1) false true)),(some (.cells (F_api_Sess x28) false true))]∧lff (out_oR_Sessions_Note_2 p_x p_b1) (true,x28) r)))))))):=fun C=>by kernel_rfl
  refine spec_of (fun _ _ h=>by cases h) rfl atab_116 WF116_ok ((e _).mpr ⟨rfl,by decide, ?_⟩)
  unfold oR_Sessions_Note_2 at h
  obtain ⟨q1,h⟩:=bget hx1 h
  refine ⟨s_oR_Sessions_Last_2 (d+0) q1, ?_⟩
  refine ⟨by decide, ?_⟩
  obtain ⟨q2,h⟩:=bget hx2 h
  refine ⟨fun hb3=>?_,fun hb3=>?_⟩
  · have h:=cond_t hb3 h
    refine ⟨by have h:=s_oR_Sessions_Note_2_J0 (d+1) q2; rw [isL_t hb3] at h; exact h, ?_⟩
    exact lff_of h
  · have h:=cond_f hb3 h
    refine ⟨by have h:=s_oR_Sessions_Note_2_J0 (d+1) q2; rw [isL_f hb3] at h; exact h, ?_⟩
    obtain ⟨q26,h⟩:=bget hx26 h
    refine ⟨s_oR_Sessions_Note_2_L3 (d+1) q26, ?_⟩
    obtain ⟨q28,h⟩:=bget hx28 h
    refine ⟨s_oR_Sessions_Note_2_J4 (d+1) q28, ?_⟩
    exact lff_of h
def st_oR_SessionsOf_L0 (l:List api_Sess) (s5:Int × List api_Sess):List AV × WH:=([(l_api_Sess l),(.ptr (some (0,0))),(.ptr (some (1,0))),(.int .i64 s5.1)],[(some (.cells [(.acc 2 0 4 0 true)] false false)),(some (.cells [(.acc 3 0 4 s5.2.length true)] false false)),(some (.cells (F_api_Sess []) false true)),(some (.cells (F_api_Sess s5.2) false true))])
def fin_oR_SessionsOf_L0 (l:List api_Sess):(List api_Sess)→Ex × Fast × WH:=fun e=>((.exit 0),[(2,(.ptr (some (0,0)))),(3,(.ptr (some (1,0))))],[(some (.cells [(.acc 2 0 4 0 true)] false false)),(some (.cells [(.acc 3 0 4 e.length true)] false false)),(some (.cells (F_api_Sess []) false true)),(some (.cells (F_api_Sess e) false true))])
abbrev rx_oR_SessionsOf_L0 (l:List api_Sess):=roundX [0,2,3,4] (st_oR_SessionsOf_L0 l) (fin_oR_SessionsOf_L0 l)
def oR_SessionsOf_L0_s (l:List api_Sess) (s5:Int × List api_Sess):Option ((Int × List api_Sess) ⊕ ((List api_Sess))) :=
  cond (decide (s5.1 < (l.length:Int))) ((getI l s5.1).bind fun (x6:api_Sess)=>(oR_Sessions_Note_2 x6 s5.2).bind fun (x7:Bool × List api_Sess)=>some (.inl ((IntKind.i64.wrap (s5.1+1)),x7.2))) (some (.inr s5.2))
def oR_SessionsOf_L0 (l:List api_Sess) (s5:Int × List api_Sess):Option ((List api_Sess)):=loopX (oR_SessionsOf_L0_s l) KK s5
theorem b_oR_SessionsOf_L0 (d:Nat) {l:List api_Sess} {s5:Int × List api_Sess} {r:(Int × List api_Sess) ⊕ ((List api_Sess))} (h:oR_SessionsOf_L0_s l s5=some r):RunX (bexec (wcalls atab (d+2)) KK 18 WB113_0) 0 (inL [0,2,3,4] (st_oR_SessionsOf_L0 l s5)) (rx_oR_SessionsOf_L0 l r):=by
  obtain ⟨x6,hx6⟩:=wx (getI l s5.1)
  obtain ⟨x7,hx7⟩:=wx (oR_Sessions_Note_2 x6 s5.2)
  have e:∀ C:ACalls,wCode C (fun _=>none) KK 18 0 WB113_0 (inL [0,2,3,4] (st_oR_SessionsOf_L0 l s5)).1 (inL [0,2,3,4] (st_oR_SessionsOf_L0 l s5)).2 (.br 9 (.v 14 (.elem ((e_api_Sess x6) ++ F_api_Sess (l.drop (s5.1.toNat+1)))) (.call [] none [] (.bool x7.1) [(some (.cells [(.acc 2 0 4 x7.2.length true)] false false)),none,(some (.cells (F_api_Sess x7.2) false true))] (.en [0,2,3,4] [none,none,none,none] [] [.slice none 4 0 0 true,.undef,.undef,.undef]))) (.en [2,3] [none,none] [] [])) (rx_oR_SessionsOf_L0 l r)=(((decide (s5.1 < (l.length:Int)))=true→(wP (.idxSlice 4 (.c (l_api_Sess l)) (.c (.int .i64 s5.1)))=some (.elem ((e_api_Sess x6) ++ F_api_Sess (l.drop (s5.1.toNat+1))))∧(Spec C 116 [(.ptr (some (0,0))),(.agg (e_api_Sess x6))] [(some (.cells [(.acc 1 0 4 s5.2.length true)] false false)),(some (.cells (F_api_Sess s5.2) false true))] (.bool x7.1) [(some (.cells [(.acc 2 0 4 x7.2.length true)] false false)),none,(some (.cells (F_api_Sess x7.2) false true))]∧(2≤3∧lfe (rx_oR_SessionsOf_L0 l) (.inl ((IntKind.i64.wrap (s5.1+1)),x7.2)) r))))∧((decide (s5.1 < (l.length:Int)))=false→lfe (rx_oR_SessionsOf_L0 l) (.inr s5.2) r)):=fun C=>by kernel_rfl
  refine runS_of (fun _ _ h=>by cases h) WB113_0_ok (Nat.le_of_ble_eq_true rfl) ((e _).mpr ?_)
  unfold oR_SessionsOf_L0_s at h
  refine ⟨fun hb=>?_,fun hb=>?_⟩
  · have h:=cond_t hb h
    obtain ⟨q6,h⟩:=bget hx6 h
    refine ⟨wP_idx R_api_Sess q6, ?_⟩
    obtain ⟨q7,h⟩:=bget hx7 h
    refine ⟨s_oR_Sessions_Note_2 (d+0) q7, ?_⟩
    refine ⟨by decide, ?_⟩
    exact lfe_of h
  · have h:=cond_f hb h
    exact lfe_of h
theorem s_oR_SessionsOf_L0 (d:Nat) {l:List api_Sess} {s5:Int × List api_Sess} {r:(List api_Sess)} (h:oR_SessionsOf_L0 l s5=some r):RunX (bloop (bexec (wcalls atab (d+2)) KK 18 WB113_0) [0,2,3,4] KK) 0 (inL [0,2,3,4] (st_oR_SessionsOf_L0 l s5)) (fin_oR_SessionsOf_L0 l r) :=
  loop_of (st:=st_oR_SessionsOf_L0 l) (fin:=fin_oR_SessionsOf_L0 l) (step:=oR_SessionsOf_L0_s l) (fun e=>by (intro h; cases h)) (fun s x h=>b_oR_SessionsOf_L0 d h) KK s5 r h
def oR_SessionsOf (l:List api_Sess):Option (oR_Sessions) :=
  (oR_SessionsOf_L0 l (0,[])).bind fun (x8:(List api_Sess))=>some (⟨x8⟩:oR_Sessions)
def out_oR_SessionsOf (l:List api_Sess) (r:oR_Sessions):AV × WH:=((.agg (e_oR_Sessions r)),[])
theorem s_oR_SessionsOf (d:Nat) {l:List api_Sess} {r:oR_Sessions} (h:oR_SessionsOf l=some r):Spec (wcalls atab (d+3)) 113 [(l_api_Sess l)] [] (out_oR_SessionsOf l r).1 (out_oR_SessionsOf l r).2:=by
  obtain ⟨x8,hx8⟩:=wx (oR_SessionsOf_L0 l (0,[]))
  have e:∀ C:ACalls,wBody C (fun _=>none) KK WF113 [(l_api_Sess l)] [] (.z 2 [.slice none 4 0 0 true] (.z 5 [.agg [.slice none 4 0 0 true]] (.z 3 [.slice none 4 0 0 true] (.st none (.lp [none,none,none,none] [(some true),(some true),(some true),(some true)] [.slice none 4 0 0 true,.undef,.undef,.undef] (.exit 0) [(2,(.ptr (some (0,0)))),(3,(.ptr (some (1,0))))] [(some (.cells [(.acc 2 0 4 0 true)] false false)),(some (.cells [(.acc 3 0 4 x8.length true)] false false)),(some (.cells (F_api_Sess []) false true)),(some (.cells (F_api_Sess x8) false true))] (.st none (.fin (some false) [.agg [.slice none 4 0 0 true]] none))))))) (out_oR_SessionsOf l r).1 (out_oR_SessionsOf l r).2=(1=1∧1≤18∧(RunS (bloop (bexec C KK 18 WB113_0) [0,2,3,4] KK) 0 [(0,(l_api_Sess l)),(2,(.ptr (some (0,0)))),(3,(.ptr (some (1,0)))),(4,(.int .i64 0))] [(some (.cells [(.acc 2 0 4 0 true)] false false)),(some (.cells [(.acc 3 0 4 0 true)] false false)),(some (.cells (F_api_Sess []) false true)),(some (.cells (F_api_Sess []) false true))] (.exit 0) [(2,(.ptr (some (0,0)))),(3,(.ptr (some (1,0))))] [(some (.cells [(.acc 2 0 4 0 true)] false false)),(some (.cells [(.acc 3 0 4 x8.length true)] false false)),(some (.cells (F_api_Sess []) false true)),(some (.cells (F_api_Sess x8) false true))]∧lff (out_oR_SessionsOf l) (⟨x8⟩:oR_Sessions) r)):=fun C=>by kernel_rfl
  refine spec_of (fun _ _ h=>by cases h) rfl atab_113 WF113_ok ((e _).mpr ⟨rfl,by decide, ?_⟩)
  unfold oR_SessionsOf at h
  obtain ⟨q8,h⟩:=bget hx8 h
  refine ⟨s_oR_SessionsOf_L0 (d+0) q8, ?_⟩
  exact lff_of h
def oR_ShardFrom (p_x:api_Image):Option (oR_Shard) :=
  (oR_TableOf p_x.Pairs).bind fun (x1:oR_Table)=>(oR_SessionsOf p_x.Sess).bind fun (x2:oR_Sessions)=>some (⟨x1,x2,p_x.Shard,p_x.Epoch⟩:oR_Shard)
def out_oR_ShardFrom (p_x:api_Image) (r:oR_Shard):AV × WH:=((.ptr (some (0,0))),[(some (.cells (e_oR_Shard r) false false))])
theorem s_oR_ShardFrom (d:Nat) {p_x:api_Image} {r:oR_Shard} (h:oR_ShardFrom p_x=some r):Spec (wcalls atab (d+4)) 76 [(.agg (e_api_Image p_x))] [] (out_oR_ShardFrom p_x r).1 (out_oR_ShardFrom p_x r).2:=by
  obtain ⟨x1,hx1⟩:=wx (oR_TableOf p_x.Pairs)
  obtain ⟨x2,hx2⟩:=wx (oR_SessionsOf p_x.Sess)
  have e:∀ C:ACalls,wBody C (fun _=>none) KK WF76 [(.agg (e_api_Image p_x))] [] (.call [] (some false) [.slice none 2 0 0 true] (.agg (e_oR_Table x1)) [] (.call [] (some false) [.slice none 4 0 0 true] (.agg (e_oR_Sessions x2)) [] (.fin (some false) [] none))) (out_oR_ShardFrom p_x r).1 (out_oR_ShardFrom p_x r).2=(1=1∧1≤15∧(Spec C 60 [(l_api_Pair p_x.Pairs)] [] (.agg (e_oR_Table x1)) []∧(0≤0∧(Spec C 113 [(l_api_Sess p_x.Sess)] [] (.agg (e_oR_Sessions x2)) []∧(0≤0∧lff (out_oR_ShardFrom p_x) (⟨x1,x2,p_x.Shard,p_x.Epoch⟩:oR_Shard) r))))):=fun C=>by kernel_rfl
  refine spec_of (fun _ _ h=>by cases h) rfl atab_76 WF76_ok ((e _).mpr ⟨rfl,by decide, ?_⟩)
  unfold oR_ShardFrom at h
  obtain ⟨q1,h⟩:=bget hx1 h
  refine ⟨s_oR_TableOf (d+0) q1, ?_⟩
  refine ⟨by decide, ?_⟩
  obtain ⟨q2,h⟩:=bget hx2 h
  refine ⟨s_oR_SessionsOf (d+0) q2, ?_⟩
  refine ⟨by decide, ?_⟩
  exact lff_of h
end Go.Proofs.Ytachollgbplikaa
