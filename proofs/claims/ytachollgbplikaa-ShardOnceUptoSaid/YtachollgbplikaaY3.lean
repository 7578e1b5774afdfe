import Derived.Test.YtachollgbplikaaXt
import Derived.Test.YtachollgbplikaaXs
import Derived.Test.YtachollgbplikaaY2
set_option linter.all false
set_option maxRecDepth 100000
namespace Go.Proofs.Ytachollgbplikaa
def st_session_Sessions_All_L0 (p_s:shard_Shard) (s5:Int × List api_Sess):List AV × WH:=([(.acc 1 0 4 s5.2.length true),(.agg (e_session_Sessions p_s.Sessions)),(.int .i64 s5.1)],[(some (.cells (e_shard_Shard p_s) false false)),(some (.cells (F_api_Sess s5.2) false true))])
def fin_session_Sessions_All_L0 (p_s:shard_Shard):(List api_Sess)→Ex × Fast × WH:=fun e=>((.exit 0),[(3,(.acc 1 0 4 e.length true))],[(some (.cells (e_shard_Shard p_s) false false)),(some (.cells (F_api_Sess e) false true))])
abbrev rx_session_Sessions_All_L0 (p_s:shard_Shard):=roundX [3,9,10] (st_session_Sessions_All_L0 p_s) (fin_session_Sessions_All_L0 p_s)
def session_Sessions_All_L0_s (p_s:shard_Shard) (s5:Int × List api_Sess):Option ((Int × List api_Sess) ⊕ ((List api_Sess))) :=
  cond (decide (s5.1 < 4)) ((getI ([p_s.Sessions.l.a0,p_s.Sessions.l.a1,p_s.Sessions.l.a2,p_s.Sessions.l.a3]:List api_Sess) s5.1).bind fun (x6:api_Sess)=>cond (decide (x6.Seq > 0)) (gd (fitsB 40 (s5.2 ++ [x6]).length) (some (.inl ((IntKind.i64.wrap (s5.1+1)),(s5.2 ++ [x6]))))) (some (.inl ((IntKind.i64.wrap (s5.1+1)),s5.2)))) (some (.inr s5.2))
def session_Sessions_All_L0 (p_s:shard_Shard) (s5:Int × List api_Sess):Option ((List api_Sess)):=loopX (session_Sessions_All_L0_s p_s) KK s5
theorem b_session_Sessions_All_L0 (d:Nat) {p_s:shard_Shard} {s5:Int × List api_Sess} {r:(Int × List api_Sess) ⊕ ((List api_Sess))} (h:session_Sessions_All_L0_s p_s s5=some r):RunX (bexec (wcalls atab (d+0)) KK 23 WB107_0) 1 (inL [3,9,10] (st_session_Sessions_All_L0 p_s s5)) (rx_session_Sessions_All_L0 p_s r):=by
  obtain ⟨x6,hx6⟩:=wx (getI ([p_s.Sessions.l.a0,p_s.Sessions.l.a1,p_s.Sessions.l.a2,p_s.Sessions.l.a3]:List api_Sess) s5.1)
  have e:∀ C:ACalls,wCode C (fun _=>none) KK 23 1 WB107_0 (inL [3,9,10] (st_session_Sessions_All_L0 p_s s5)).1 (inL [3,9,10] (st_session_Sessions_All_L0 p_s s5)).2 (.br 11 (.v 12 (.agg (e_api_Sess x6)) (.st none (.br 15 (.ap 19 (s5.2 ++ [x6]).length (F_api_Sess (s5.2 ++ [x6])) (.en [3,9,10] [none,none,none] [] [.slice none 4 0 0 true,.undef,.undef])) (.en [3,9,10] [none,none,none] [] [.slice none 4 0 0 true,.undef,.undef])))) (.en [3] [none] [] [.slice none 4 0 0 true])) (rx_session_Sessions_All_L0 p_s r)=(((decide (s5.1 < 4))=true→(wP (.index true 4 4 (.c (.agg (F_api_Sess ([p_s.Sessions.l.a0,p_s.Sessions.l.a1,p_s.Sessions.l.a2,p_s.Sessions.l.a3])))) (.c (.int .i64 s5.1)))=some (.agg (e_api_Sess x6))∧(((decide (x6.Seq > 0))=true→(s5.2.length+1=(s5.2 ++ [x6]).length∧(F_api_Sess s5.2 ++ F_api_Sess [x6]=F_api_Sess (s5.2 ++ [x6])∧(fitsB 40 (s5.2 ++ [x6]).length=true∧lfe (rx_session_Sessions_All_L0 p_s) (.inl ((IntKind.i64.wrap (s5.1+1)),(s5.2 ++ [x6]))) r))))∧((decide (x6.Seq > 0))=false→lfe (rx_session_Sessions_All_L0 p_s) (.inl ((IntKind.i64.wrap (s5.1+1)),s5.2)) r))))∧((decide (s5.1 < 4))=false→lfe (rx_session_Sessions_All_L0 p_s) (.inr s5.2) r)):=fun C=>by kernel_rfl
  refine runS_of (fun _ _ h=>by cases h) WB107_0_ok (Nat.le_of_ble_eq_true rfl) ((e _).mpr ?_)
  unfold session_Sessions_All_L0_s at h
  refine ⟨fun hb=>?_,fun hb=>?_⟩
  · have h:=cond_t hb h
    obtain ⟨q6,h⟩:=bget hx6 h
    refine ⟨wP_ixA R_api_Sess q6, ?_⟩
    refine ⟨fun hb=>?_,fun hb=>?_⟩
    · have h:=cond_t hb h
      obtain ⟨q7,h⟩:=gd_some h
      refine ⟨by simp, ?_⟩
      refine ⟨(Row.app R_api_Sess _ _).symm, ?_⟩
      refine ⟨q7, ?_⟩
      exact lfe_of h
    · have h:=cond_f hb h
      exact lfe_of h
  · have h:=cond_f hb h
    exact lfe_of h
theorem s_session_Sessions_All_L0 (d:Nat) {p_s:shard_Shard} {s5:Int × List api_Sess} {r:(List api_Sess)} (h:session_Sessions_All_L0 p_s s5=some r):RunX (bloop (bexec (wcalls atab (d+0)) KK 23 WB107_0) [3,9,10] KK) 1 (inL [3,9,10] (st_session_Sessions_All_L0 p_s s5)) (fin_session_Sessions_All_L0 p_s r) :=
  loop_of (st:=st_session_Sessions_All_L0 p_s) (fin:=fin_session_Sessions_All_L0 p_s) (step:=session_Sessions_All_L0_s p_s) (fun e=>by (intro h; cases h)) (fun s x h=>b_session_Sessions_All_L0 d h) KK s5 r h
def session_Sessions_All (p_s:shard_Shard):Option (List api_Sess) :=
  (session_Sessions_All_L0 p_s (0,[])).bind fun (x8:(List api_Sess))=>some x8
def out_session_Sessions_All (p_s:shard_Shard) (r:List api_Sess):AV × WH:=((l_api_Sess r),[(some (.cells (e_shard_Shard p_s) false false))])
theorem s_session_Sessions_All (d:Nat) {p_s:shard_Shard} {r:List api_Sess} (h:session_Sessions_All p_s=some r):Spec (wcalls atab (d+2)) 107 [(.ptr (some (0,1)))] [(some (.cells (e_shard_Shard p_s) false false))] (out_session_Sessions_All p_s r).1 (out_session_Sessions_All p_s r).2:=by
  obtain ⟨x8,hx8⟩:=wx (session_Sessions_All_L0 p_s (0,[]))
  have e:∀ C:ACalls,wBody C wB KK WF107 [(.ptr (some (0,1)))] [(some (.cells (e_shard_Shard p_s) false false))] (.z 2 [.slice none 4 0 0 true] (.z 3 [.slice none 4 0 0 true] (.lp [(some true),none,none] [] [.slice none 4 0 0 true,.undef,.undef] (.exit 0) [(3,(.acc 1 0 4 x8.length true))] [(some (.cells (e_shard_Shard p_s) false false)),(some (.cells (F_api_Sess x8) false true))] (.fin (some false) [.slice none 4 0 0 true] none)))) (out_session_Sessions_All p_s r).1 (out_session_Sessions_All p_s r).2=(1=1∧1≤23∧(RunS (bloop (bexec C KK 23 WB107_0) [3,9,10] KK) 1 [(3,(.acc 1 0 4 0 true)),(9,(.agg (e_session_Sessions p_s.Sessions))),(10,(.int .i64 0))] [(some (.cells (e_shard_Shard p_s) false false)),(some (.cells (F_api_Sess []) false true))] (.exit 0) [(3,(.acc 1 0 4 x8.length true))] [(some (.cells (e_shard_Shard p_s) false false)),(some (.cells (F_api_Sess x8) false true))]∧lff (out_session_Sessions_All p_s) x8 r)):=fun C=>by kernel_rfl
  refine spec_of (wB_ok _) rfl atab_107 WF107_ok ((e _).mpr ⟨rfl,by decide, ?_⟩)
  unfold session_Sessions_All at h
  obtain ⟨q8,h⟩:=bget hx8 h
  refine ⟨s_session_Sessions_All_L0 (d+1) q8, ?_⟩
  exact lff_of h
def shard_Shard_Image (p_s:shard_Shard):Option (api_Image) :=
  (table_Table_Pairs_3 p_s).bind fun (x1:List api_Pair)=>(session_Sessions_All p_s).bind fun (x2:List api_Sess)=>some (⟨p_s.ID,p_s.Epoch,x1,x2⟩:api_Image)
def out_shard_Shard_Image (p_s:shard_Shard) (r:api_Image):AV × WH:=((.agg (e_api_Image r)),[(some (.cells (e_shard_Shard p_s) false false))])
theorem s_shard_Shard_Image (d:Nat) {p_s:shard_Shard} {r:api_Image} (h:shard_Shard_Image p_s=some r):Spec (wcalls atab (d+3)) 67 [(.ptr (some (0,0)))] [(some (.cells (e_shard_Shard p_s) false false))] (out_shard_Shard_Image p_s r).1 (out_shard_Shard_Image p_s r).2:=by
  obtain ⟨x1,hx1⟩:=wx (table_Table_Pairs_3 p_s)
  obtain ⟨x2,hx2⟩:=wx (session_Sessions_All p_s)
  have e:∀ C:ACalls,wBody C (fun _=>none) KK WF67 [(.ptr (some (0,0)))] [(some (.cells (e_shard_Shard p_s) false false))] (.z 2 [.undef,.undef,.slice none 2 0 0 true,.slice none 4 0 0 true] (.call [] (some false) [] (l_api_Pair x1) [(some (.cells (e_shard_Shard p_s) false false))] (.call [] (some false) [] (l_api_Sess x2) [(some (.cells (e_shard_Shard p_s) false false))] (.v 6 (.int .i64 p_s.ID) (.v 10 (.int .i64 p_s.Epoch) (.st none (.fin (some false) [.agg [.undef,.undef,.slice none 2 0 0 true,.slice none 4 0 0 true]] none))))))) (out_shard_Shard_Image p_s r).1 (out_shard_Shard_Image p_s r).2=(1=1∧1≤20∧(Spec C 54 [(.ptr (some (0,0)))] [(some (.cells (e_shard_Shard p_s) false false))] (l_api_Pair x1) [(some (.cells (e_shard_Shard p_s) false false))]∧(1≤1∧(Spec C 107 [(.ptr (some (0,1)))] [(some (.cells (e_shard_Shard p_s) false false))] (l_api_Sess x2) [(some (.cells (e_shard_Shard p_s) false false))]∧(1≤1∧(@Eq (Option AV) (some (.int .i64 p_s.ID)) (some (.int .i64 p_s.ID))∧(@Eq (Option AV) (some (.int .i64 p_s.ID)) (some (.int .i64 p_s.ID))∧(@Eq (Option AV) (some (.int .i64 p_s.ID)) (some (.int .i64 p_s.ID))∧(@Eq (Option AV) (some (.int .i64 p_s.Epoch)) (some (.int .i64 p_s.Epoch))∧(@Eq (Option AV) (some (.int .i64 p_s.Epoch)) (some (.int .i64 p_s.Epoch))∧(@Eq (Option AV) (some (.int .i64 p_s.Epoch)) (some (.int .i64 p_s.Epoch))∧lff (out_shard_Shard_Image p_s) (⟨p_s.ID,p_s.Epoch,x1,x2⟩:api_Image) r))))))))))):=fun C=>by kernel_rfl
  refine spec_of (fun _ _ h=>by cases h) rfl atab_67 WF67_ok ((e _).mpr ⟨rfl,by decide, ?_⟩)
  unfold shard_Shard_Image at h
  obtain ⟨q1,h⟩:=bget hx1 h
  refine ⟨s_table_Table_Pairs_3 (d+0) q1, ?_⟩
  refine ⟨by decide, ?_⟩
  obtain ⟨q2,h⟩:=bget hx2 h
  refine ⟨s_session_Sessions_All (d+0) q2, ?_⟩
  refine ⟨by decide, ?_⟩
  refine ⟨rfl, ?_⟩
  refine ⟨rfl, ?_⟩
  refine ⟨rfl, ?_⟩
  refine ⟨rfl, ?_⟩
  refine ⟨rfl, ?_⟩
  refine ⟨rfl, ?_⟩
  exact lff_of h
abbrev in_oR_SameImage_J0 (a:api_Image) (p_b:api_Image):Fast × WH:=([(2,(.ptr (some (0,0)))),(3,(.ptr (some (1,0))))],[(some (.cells (e_api_Image a) false false)),(some (.cells (e_api_Image p_b) false false))])
def fin_oR_SameImage_J0 (a:api_Image) (p_b:api_Image):Unit ⊕ Unit→Ex × Fast × WH:=fun
  | .inl e=>(.ret,[(4,(.bool false))],[])
  | .inr e=>(.normal,[(2,(.ptr (some (0,0)))),(3,(.ptr (some (1,0))))],[(some (.cells (e_api_Image a) false false)),(some (.cells (e_api_Image p_b) false false))])
def oR_SameImage_J0 (a:api_Image) (p_b:api_Image):Option (Unit ⊕ Unit) :=
  cond (a.Shard != p_b.Shard) (some (.inl ())) (cond (a.Epoch != p_b.Epoch) (some (.inl ())) (cond ((a.Pairs.length:Int) != (p_b.Pairs.length:Int)) (some (.inl ())) (cond ((a.Sess.length:Int) != (p_b.Sess.length:Int)) (some (.inl ())) (some (.inr ())))))
theorem s_oR_SameImage_J0 (d:Nat) {a:api_Image} {p_b:api_Image} {r:Unit ⊕ Unit} (h:oR_SameImage_J0 a p_b=some r):RunX (bexec (wcalls atab (d+0)) KK 73 WJ68_ba) 0 (in_oR_SameImage_J0 a p_b) (fin_oR_SameImage_J0 a p_b r):=by
  have e:∀ C:ACalls,wCode C (fun _=>none) KK 73 0 WJ68_ba (in_oR_SameImage_J0 a p_b).1 (in_oR_SameImage_J0 a p_b).2 (.br 12 (.en [4] [none] [] []) (.br 19 (.en [4] [none] [] []) (.br 28 (.en [4] [none] [] []) (.br 36 (.en [4] [none] [] []) (.en [2,3] [none,none] [] []))))) (fin_oR_SameImage_J0 a p_b r)=(((a.Shard != p_b.Shard)=true→lfe (fin_oR_SameImage_J0 a p_b) (.inl ()) r)∧((a.Shard != p_b.Shard)=false→(((a.Epoch != p_b.Epoch)=true→lfe (fin_oR_SameImage_J0 a p_b) (.inl ()) r)∧((a.Epoch != p_b.Epoch)=false→((((a.Pairs.length:Int) != (p_b.Pairs.length:Int))=true→lfe (fin_oR_SameImage_J0 a p_b) (.inl ()) r)∧(((a.Pairs.length:Int) != (p_b.Pairs.length:Int))=false→((((a.Sess.length:Int) != (p_b.Sess.length:Int))=true→lfe (fin_oR_SameImage_J0 a p_b) (.inl ()) r)∧(((a.Sess.length:Int) != (p_b.Sess.length:Int))=false→lfe (fin_oR_SameImage_J0 a p_b) (.inr ()) r)))))))):=fun C=>by kernel_rfl
  refine runS_of (fun _ _ h=>by cases h) WJ68_ba_ok (Nat.le_of_ble_eq_true rfl) ((e _).mpr ?_)
  unfold oR_SameImage_J0 at h
  refine ⟨fun hb=>?_,fun hb=>?_⟩
  · have h:=cond_t hb h
    exact lfe_of h
  · have h:=cond_f hb h
    refine ⟨fun hb=>?_,fun hb=>?_⟩
    · have h:=cond_t hb h
      exact lfe_of h
    · have h:=cond_f hb h
      refine ⟨fun hb=>?_,fun hb=>?_⟩
      · have h:=cond_t hb h
        exact lfe_of h
      · have h:=cond_f hb h
        refine ⟨fun hb=>?_,fun hb=>?_⟩
        · have h:=cond_t hb h
          exact lfe_of h
        · have h:=cond_f hb h
          exact lfe_of h
def st_oR_SameImage_L1 (a:api_Image) (p_b:api_Image) (s5:Int):List AV × WH:=([(.ptr (some (0,0))),(.ptr (some (1,0))),(.int .i64 s5)],[(some (.cells (e_api_Image a) false false)),(some (.cells (e_api_Image p_b) false false))])
def fin_oR_SameImage_L1 (a:api_Image) (p_b:api_Image):Unit ⊕ Unit→Ex × Fast × WH:=fun
  | .inl e=>(.ret,[(4,(.bool false))],[])
  | .inr e=>((.exit 0),[(2,(.ptr (some (0,0)))),(3,(.ptr (some (1,0))))],[(some (.cells (e_api_Image a) false false)),(some (.cells (e_api_Image p_b) false false))])
abbrev rx_oR_SameImage_L1 (a:api_Image) (p_b:api_Image):=roundX [2,3,5] (st_oR_SameImage_L1 a p_b) (fin_oR_SameImage_L1 a p_b)
def oR_SameImage_L1_s (a:api_Image) (p_b:api_Image) (s5:Int):Option ((Int) ⊕ (Unit ⊕ Unit)) :=
  cond (decide (s5 < (a.Pairs.length:Int))) ((getI a.Pairs s5).bind fun (x6:api_Pair)=>(getI p_b.Pairs s5).bind fun (x7:api_Pair)=>cond (!(x6.Key == x7.Key && (x6.Value == x7.Value && true))) (some (.inr (.inl ()))) (some (.inl (IntKind.i64.wrap (s5+1))))) (some (.inr (.inr ())))
def oR_SameImage_L1 (a:api_Image) (p_b:api_Image) (s5:Int):Option (Unit ⊕ Unit):=loopX (oR_SameImage_L1_s a p_b) KK s5
theorem b_oR_SameImage_L1 (d:Nat) {a:api_Image} {p_b:api_Image} {s5:Int} {r:(Int) ⊕ (Unit ⊕ Unit)} (h:oR_SameImage_L1_s a p_b s5=some r):RunX (bexec (wcalls atab (d+0)) KK 73 WB68_0) 0 (inL [2,3,5] (st_oR_SameImage_L1 a p_b s5)) (rx_oR_SameImage_L1 a p_b r):=by
  obtain ⟨x6,hx6⟩:=wx (getI a.Pairs s5)
  obtain ⟨x7,hx7⟩:=wx (getI p_b.Pairs s5)
  have e:∀ C:ACalls,wCode C (fun _=>none) KK 73 0 WB68_0 (inL [2,3,5] (st_oR_SameImage_L1 a p_b s5)).1 (inL [2,3,5] (st_oR_SameImage_L1 a p_b s5)).2 (.br 41 (.v 47 (.elem ((e_api_Pair x6) ++ F_api_Pair (a.Pairs.drop (s5.toNat+1)))) (.v 52 (.elem ((e_api_Pair x7) ++ F_api_Pair (p_b.Pairs.drop (s5.toNat+1)))) (.br 54 (.en [4] [none] [] []) (.en [2,3,5] [none,none,none] [] [])))) (.en [2,3] [none,none] [] [])) (rx_oR_SameImage_L1 a p_b r)=(((decide (s5 < (a.Pairs.length:Int)))=true→(wP (.idxSlice 2 (.c (l_api_Pair a.Pairs)) (.c (.int .i64 s5)))=some (.elem ((e_api_Pair x6) ++ F_api_Pair (a.Pairs.drop (s5.toNat+1))))∧(wP (.idxSlice 2 (.c (l_api_Pair p_b.Pairs)) (.c (.int .i64 s5)))=some (.elem ((e_api_Pair x7) ++ F_api_Pair (p_b.Pairs.drop (s5.toNat+1))))∧(((!(x6.Key == x7.Key && (x6.Value == x7.Value && true)))=true→lfe (rx_oR_SameImage_L1 a p_b) (.inr (.inl ())) r)∧((!(x6.Key == x7.Key && (x6.Value == x7.Value && true)))=false→lfe (rx_oR_SameImage_L1 a p_b) (.inl (IntKind.i64.wrap (s5+1))) r)))))∧((decide (s5 < (a.Pairs.length:Int)))=false→lfe (rx_oR_SameImage_L1 a p_b) (.inr (.inr ())) r)):=fun C=>by kernel_rfl
  refine runS_of (fun _ _ h=>by cases h) WB68_0_ok (Nat.le_of_ble_eq_true rfl) ((e _).mpr ?_)
  unfold oR_SameImage_L1_s at h
  refine ⟨fun hb=>?_,fun hb=>?_⟩
  · have h:=cond_t hb h
    obtain ⟨q6,h⟩:=bget hx6 h
    refine ⟨wP_idx R_api_Pair q6, ?_⟩
    obtain ⟨q7,h⟩:=bget hx7 h
    refine ⟨wP_idx R_api_Pair q7, ?_⟩
    refine ⟨fun hb=>?_,fun hb=>?_⟩
    · have h:=cond_t hb h
      exact lfe_of h
    · have h:=cond_f hb h
      exact lfe_of h
  · have h:=cond_f hb h
    exact lfe_of h
theorem s_oR_SameImage_L1 (d:Nat) {a:api_Image} {p_b:api_Image} {s5:Int} {r:Unit ⊕ Unit} (h:oR_SameImage_L1 a p_b s5=some r):RunX (bloop (bexec (wcalls atab (d+0)) KK 73 WB68_0) [2,3,5] KK) 0 (inL [2,3,5] (st_oR_SameImage_L1 a p_b s5)) (fin_oR_SameImage_L1 a p_b r) :=
  loop_of (st:=st_oR_SameImage_L1 a p_b) (fin:=fin_oR_SameImage_L1 a p_b) (step:=oR_SameImage_L1_s a p_b) (fun e=>by rcases e with e | e <;> (intro h; cases h)) (fun s x h=>b_oR_SameImage_L1 d h) KK s5 r h
def st_oR_SameImage_L2 (a:api_Image) (p_b:api_Image) (s12:Int):List AV × WH:=([(.ptr (some (0,0))),(.ptr (some (1,0))),(.int .i64 s12)],[(some (.cells (e_api_Image a) false false)),(some (.cells (e_api_Image p_b) false false))])
def fin_oR_SameImage_L2 (a:api_Image) (p_b:api_Image):Unit ⊕ Unit→Ex × Fast × WH:=fun
  | .inl e=>(.ret,[(4,(.bool false))],[])
  | .inr e=>((.exit 2),[],[])
abbrev rx_oR_SameImage_L2 (a:api_Image) (p_b:api_Image):=roundX [2,3,6] (st_oR_SameImage_L2 a p_b) (fin_oR_SameImage_L2 a p_b)
def oR_SameImage_L2_s (a:api_Image) (p_b:api_Image) (s12:Int):Option ((Int) ⊕ (Unit ⊕ Unit)) :=
  cond (decide (s12 < (a.Sess.length:Int))) ((getI a.Sess s12).bind fun (x13:api_Sess)=>(getI p_b.Sess s12).bind fun (x14:api_Sess)=>cond (!(x13.Client == x14.Client && (x13.Seq == x14.Seq && (x13.Answer.Why == x14.Answer.Why && (x13.Answer.Value == x14.Answer.Value && true))))) (some (.inr (.inl ()))) (some (.inl (IntKind.i64.wrap (s12+1))))) (some (.inr (.inr ())))
def oR_SameImage_L2 (a:api_Image) (p_b:api_Image) (s12:Int):Option (Unit ⊕ Unit):=loopX (oR_SameImage_L2_s a p_b) KK s12
theorem b_oR_SameImage_L2 (d:Nat) {a:api_Image} {p_b:api_Image} {s12:Int} {r:(Int) ⊕ (Unit ⊕ Unit)} (h:oR_SameImage_L2_s a p_b s12=some r):RunX (bexec (wcalls atab (d+0)) KK 73 WB68_1) 0 (inL [2,3,6] (st_oR_SameImage_L2 a p_b s12)) (rx_oR_SameImage_L2 a p_b r):=by
  obtain ⟨x13,hx13⟩:=wx (getI a.Sess s12)
  obtain ⟨x14,hx14⟩:=wx (getI p_b.Sess s12)
  have e:∀ C:ACalls,wCode C (fun _=>none) KK 73 0 WB68_1 (inL [2,3,6] (st_oR_SameImage_L2 a p_b s12)).1 (inL [2,3,6] (st_oR_SameImage_L2 a p_b s12)).2 (.br 59 (.v 65 (.elem ((e_api_Sess x13) ++ F_api_Sess (a.Sess.drop (s12.toNat+1)))) (.v 70 (.elem ((e_api_Sess x14) ++ F_api_Sess (p_b.Sess.drop (s12.toNat+1)))) (.br 72 (.en [4] [none] [] []) (.en [2,3,6] [none,none,none] [] [])))) (.en [] [] [] [])) (rx_oR_SameImage_L2 a p_b r)=(((decide (s12 < (a.Sess.length:Int)))=true→(wP (.idxSlice 4 (.c (l_api_Sess a.Sess)) (.c (.int .i64 s12)))=some (.elem ((e_api_Sess x13) ++ F_api_Sess (a.Sess.drop (s12.toNat+1))))∧(wP (.idxSlice 4 (.c (l_api_Sess p_b.Sess)) (.c (.int .i64 s12)))=some (.elem ((e_api_Sess x14) ++ F_api_Sess (p_b.Sess.drop (s12.toNat+1))))∧(((!(x13.Client == x14.Client && (x13.Seq == x14.Seq && (x13.Answer.Why == x14.Answer.Why && (x13.Answer.Value == x14.Answer.Value && true)))))=true→lfe (rx_oR_SameImage_L2 a p_b) (.inr (.inl ())) r)∧((!(x13.Client == x14.Client && (x13.Seq == x14.Seq && (x13.Answer.Why == x14.Answer.Why && (x13.Answer.Value == x14.Answer.Value && true)))))=false→lfe (rx_oR_SameImage_L2 a p_b) (.inl (IntKind.i64.wrap (s12+1))) r)))))∧((decide (s12 < (a.Sess.length:Int)))=false→lfe (rx_oR_SameImage_L2 a p_b) (.inr (.inr ())) r)):=fun C=>by kernel_rfl
  refine runS_of (fun _ _ h=>by cases h) WB68_1_ok (Nat.le_of_ble_eq_true rfl) ((e _).mpr ?_)
  unfold oR_SameImage_L2_s at h
  refine ⟨fun hb=>?_,fun hb=>?_⟩
  · have h:=cond_t hb h
    obtain ⟨q13,h⟩:=bget hx13 h
    refine ⟨wP_idx R_api_Sess q13, ?_⟩
    obtain ⟨q14,h⟩:=bget hx14 h
    refine ⟨wP_idx R_api_Sess q14, ?_⟩
    refine ⟨fun hb=>?_,fun hb=>?_⟩
    · have h:=cond_t hb h
      exact lfe_of h
    · have h:=cond_f hb h
      exact lfe_of h
  · have h:=cond_f hb h
    exact lfe_of h
theorem s_oR_SameImage_L2 (d:Nat) {a:api_Image} {p_b:api_Image} {s12:Int} {r:Unit ⊕ Unit} (h:oR_SameImage_L2 a p_b s12=some r):RunX (bloop (bexec (wcalls atab (d+0)) KK 73 WB68_1) [2,3,6] KK) 0 (inL [2,3,6] (st_oR_SameImage_L2 a p_b s12)) (fin_oR_SameImage_L2 a p_b r) :=
  loop_of (st:=st_oR_SameImage_L2 a p_b) (fin:=fin_oR_SameImage_L2 a p_b) (step:=oR_SameImage_L2_s a p_b) (fun e=>by rcases e with e | e <;> (intro h; cases h)) (fun s x h=>b_oR_SameImage_L2 d h) KK s12 r h
def oR_SameImage (a:api_Image) (p_b:api_Image):Option (Bool) :=
  (oR_SameImage_J0 a p_b).bind fun (x1:Unit ⊕ Unit)=>cond (isL x1) (some false) ((oR_SameImage_L1 a p_b 0).bind fun (x8:Unit ⊕ Unit)=>cond (isL x8) (some false) ((oR_SameImage_L2 a p_b 0).bind fun (x15:Unit ⊕ Unit)=>cond (isL x15) (some false) (some true)))
def out_oR_SameImage (a:api_Image) (p_b:api_Image) (r:Bool):AV × WH:=((.bool r),[])
theorem s_oR_SameImage (d:Nat) {a:api_Image} {p_b:api_Image} {r:Bool} (h:oR_SameImage a p_b=some r):Spec (wcalls atab (d+1)) 68 [(.agg (e_api_Image a)),(.agg (e_api_Image p_b))] [] (out_oR_SameImage a p_b r).1 (out_oR_SameImage a p_b r).2:=by
  obtain ⟨x1,hx1⟩:=wx (oR_SameImage_J0 a p_b)
  obtain ⟨x8,hx8⟩:=wx (oR_SameImage_L1 a p_b 0)
  obtain ⟨x15,hx15⟩:=wx (oR_SameImage_L2 a p_b 0)
  have e:∀ C:ACalls,wBody C (fun _=>none) KK WF68 [(.agg (e_api_Image a)),(.agg (e_api_Image p_b))] [] (.sk (.ite (isL x1) (.jn [2,3] [none,none] [] [] .ret [(4,(.bool false))] [] (.fin (some false) [] none)) (.jn [2,3] [none,none] [] [] .normal [(2,(.ptr (some (0,0)))),(3,(.ptr (some (1,0))))] [(some (.cells (e_api_Image a) false false)),(some (.cells (e_api_Image p_b) false false))] (.ite (isL x8) (.lp [none,none,none] [] [] .ret [(4,(.bool false))] [] (.fin (some false) [] none)) (.lp [none,none,none] [] [] (.exit 0) [(2,(.ptr (some (0,0)))),(3,(.ptr (some (1,0))))] [(some (.cells (e_api_Image a) false false)),(some (.cells (e_api_Image p_b) false false))] (.ite (isL x15) (.lp [none,none,none] [] [] .ret [(4,(.bool false))] [] (.fin (some false) [] none)) (.lp [none,none,none] [] [] (.exit 2) [] [] (.fin (some false) [] none)))))))) (out_oR_SameImage a p_b r).1 (out_oR_SameImage a p_b r).2=(2=2∧2≤73∧(((isL x1)=true→(RunS (bexec C KK 73 WJ68_ba) 0 [(2,(.ptr (some (0,0)))),(3,(.ptr (some (1,0))))] [(some (.cells (e_api_Image a) false false)),(some (.cells (e_api_Image p_b) false false))] .ret [(4,(.bool false))] []∧lff (out_oR_SameImage a p_b) false r))∧((isL x1)=false→(RunS (bexec C KK 73 WJ68_ba) 0 [(2,(.ptr (some (0,0)))),(3,(.ptr (some (1,0))))] [(some (.cells (e_api_Image a) false false)),(some (.cells (e_api_Image p_b) false false))] .normal [(2,(.ptr (some (0,0)))),(3,(.ptr (some (1,0))))] [(some (.cells (e_api_Image a) false false)),(some (.cells (e_api_Image p_b) false false))]∧(((isL x8)=true→(RunS (bloop (bexec C KK 73 WB68_0) [2,3,5] KK) 0 [(2,(.ptr (some (0,0)))),(3,(.ptr (some (1,0)))),(5,(.int .i64 0))] [(some (.cells (e_api_Image a) false false)),(some (.cells (e_api_Image p_b) false false))] .ret [(4,(.bool false))] []∧lff (out_oR_SameImage a p_b) false r))∧((isL x8)=false→(RunS (bloop (bexec C KK 73 WB68_0) [2,3,5] KK) 0 [(2,(.ptr (some (0,0)))),(3,(.ptr (some (1,0)))),(5,(.int .i64 0))] [(some (.cells (e_api_Image a) false false)),(some (.cells (e_api_Image p_b) false false))] (.exit 0) [(2,(.ptr (some (0,0)))),(3,(.ptr (some (1,0))))] [(some (.cells (e_api_Image a) false false)),(some (.cells (e_api_Image p_b) false false))]∧(((isL x15)=true→(RunS (bloop (bexec C KK 73 WB68_1) [2,3,6] KK) 0 [(2,(.ptr (some (0,0)))),(3,(.ptr (some (1,0)))),(6,(.int .i64 0))] [(some (.cells (e_api_Image a) false false)),(some (.cells (e_api_Image p_b) false false))] .ret [(4,(.bool false))] []∧lff (out_oR_SameImage a p_b) false r))∧((isL x15)=false→(RunS (bloop (bexec C KK 73 WB68_1) [2,3,6] KK) 0 [(2,(.ptr (some (0,0)))),(3,(.ptr (some (1,0)))),(6,(.int .i64 0))] [(some (.cells (e_api_Image a) false false)),(some (.cells (e_api_Image p_b) false false))] (.exit 2) [] []∧lff (out_oR_SameImage a p_b) true r)))))))))):=fun C=>by kernel_rfl
  refine spec_of (fun _ _ h=>by cases h) rfl atab_68 WF68_ok ((e _).mpr ⟨rfl,by decide, ?_⟩)
  unfold oR_SameImage at h
  obtain ⟨q1,h⟩:=bget hx1 h
  refine ⟨fun hb2=>?_,fun hb2=>?_⟩
  · have h:=cond_t hb2 h
    refine ⟨by have h:=s_oR_SameImage_J0 (d+0) q1; rw [isL_t hb2] at h; exact h, ?_⟩
    exact lff_of h
  · have h:=cond_f hb2 h
    refine ⟨by have h:=s_oR_SameImage_J0 (d+0) q1; rw [isL_f hb2] at h; exact h, ?_⟩
    obtain ⟨q8,h⟩:=bget hx8 h
    refine ⟨fun hb9=>?_,fun hb9=>?_⟩
    · have h:=cond_t hb9 h
      refine ⟨by have h:=s_oR_SameImage_L1 (d+0) q8; rw [isL_t hb9] at h; exact h, ?_⟩
      exact lff_of h
    · have h:=cond_f hb9 h
      refine ⟨by have h:=s_oR_SameImage_L1 (d+0) q8; rw [isL_f hb9] at h; exact h, ?_⟩
      obtain ⟨q15,h⟩:=bget hx15 h
      refine ⟨fun hb16=>?_,fun hb16=>?_⟩
      · have h:=cond_t hb16 h
        refine ⟨by have h:=s_oR_SameImage_L2 (d+0) q15; rw [isL_t hb16] at h; exact h, ?_⟩
        exact lff_of h
      · have h:=cond_f hb16 h
        refine ⟨by have h:=s_oR_SameImage_L2 (d+0) q15; rw [isL_f hb16] at h; exact h, ?_⟩
        exact lff_of h
def osmosislaw8_put (client:Int) (seq:Int) (key:List UInt8) (value:List UInt8):Option (api_Req) :=
  some (⟨client,seq,(⟨2,key,value,([]:List UInt8)⟩:api_Op)⟩:api_Req)
def out_osmosislaw8_put (client:Int) (seq:Int) (key:List UInt8) (value:List UInt8) (r:api_Req):AV × WH:=((.agg (e_api_Req r)),[])
theorem s_osmosislaw8_put (d:Nat) {client:Int} {seq:Int} {key:List UInt8} {value:List UInt8} {r:api_Req} (h:osmosislaw8_put client seq key value=some r):Spec (wcalls atab (d+1)) 70 [(.int .i64 client),(.int .i64 seq),(.str key),(.str value)] [] (out_osmosislaw8_put client seq key value r).1 (out_osmosislaw8_put client seq key value r).2:=by
  have e:∀ C:ACalls,wBody C (fun _=>none) KK WF70 [(.int .i64 client),(.int .i64 seq),(.str key),(.str value)] [] (.st none (.fin (some false) [] none)) (out_osmosislaw8_put client seq key value r).1 (out_osmosislaw8_put client seq key value r).2=(4=4∧4≤15∧lff (out_osmosislaw8_put client seq key value) (⟨client,seq,(⟨2,key,value,([]:List UInt8)⟩:api_Op)⟩:api_Req) r):=fun C=>by kernel_rfl
  refine spec_of (fun _ _ h=>by cases h) rfl atab_70 WF70_ok ((e _).mpr ⟨rfl,by decide, ?_⟩)
  unfold osmosislaw8_put at h
  exact lff_of h
def table_Table_Len_3 (t:shard_Shard):Option (Int) :=
  some (t.Table.l.length:Int)
def out_table_Table_Len_3 (t:shard_Shard) (r:Int):AV × WH:=((.int .i64 r),[(some (.cells (e_shard_Shard t) false false))])
theorem s_table_Table_Len_3 (d:Nat) {t:shard_Shard} {r:Int} (h:table_Table_Len_3 t=some r):Spec (wcalls atab (d+1)) 53 [(.ptr (some (0,0)))] [(some (.cells (e_shard_Shard t) false false))] (out_table_Table_Len_3 t r).1 (out_table_Table_Len_3 t r).2:=by
  have e:∀ C:ACalls,wBody C (fun _=>none) KK WF53 [(.ptr (some (0,0)))] [(some (.cells (e_shard_Shard t) false false))] (.fin (some false) [] none) (out_table_Table_Len_3 t r).1 (out_table_Table_Len_3 t r).2=(1=1∧1≤8∧lff (out_table_Table_Len_3 t) (t.Table.l.length:Int) r):=fun C=>by kernel_rfl
  refine spec_of (fun _ _ h=>by cases h) rfl atab_53 WF53_ok ((e _).mpr ⟨rfl,by decide, ?_⟩)
  unfold table_Table_Len_3 at h
  exact lff_of h
def shard_Shard_Weight (p_s:shard_Shard):Option (Int) :=
  (table_Table_Len_3 p_s).bind fun (x1:Int)=>some (IntKind.i64.wrap (x1+1))
def out_shard_Shard_Weight (p_s:shard_Shard) (r:Int):AV × WH:=((.int .i64 r),[(some (.cells (e_shard_Shard p_s) false false))])
theorem s_shard_Shard_Weight (d:Nat) {p_s:shard_Shard} {r:Int} (h:shard_Shard_Weight p_s=some r):Spec (wcalls atab (d+2)) 71 [(.ptr (some (0,0)))] [(some (.cells (e_shard_Shard p_s) false false))] (out_shard_Shard_Weight p_s r).1 (out_shard_Shard_Weight p_s r).2:=by
  obtain ⟨x1,hx1⟩:=wx (table_Table_Len_3 p_s)
  have e:∀ C:ACalls,wBody C (fun _=>none) KK WF71 [(.ptr (some (0,0)))] [(some (.cells (e_shard_Shard p_s) false false))] (.call [] (some false) [] (.int .i64 x1) [(some (.cells (e_shard_Shard p_s) false false))] (.fin (some false) [] none)) (out_shard_Shard_Weight p_s r).1 (out_shard_Shard_Weight p_s r).2=(1=1∧1≤8∧(Spec C 53 [(.ptr (some (0,0)))] [(some (.cells (e_shard_Shard p_s) false false))] (.int .i64 x1) [(some (.cells (e_shard_Shard p_s) false false))]∧(1≤1∧lff (out_shard_Shard_Weight p_s) (IntKind.i64.wrap (x1+1)) r))):=fun C=>by kernel_rfl
  refine spec_of (fun _ _ h=>by cases h) rfl atab_71 WF71_ok ((e _).mpr ⟨rfl,by decide, ?_⟩)
  unfold shard_Shard_Weight at h
  obtain ⟨q1,h⟩:=bget hx1 h
  refine ⟨s_table_Table_Len_3 (d+0) q1, ?_⟩
  refine ⟨by decide, ?_⟩
  exact lff_of h
def osmosislaw8_known :Option (Bool) :=
  (shard_Of (⟨2,3,[],[]⟩:api_Image)).bind fun (x1:shard_Shard)=>(osmosislaw8_put 0 1 [107] [118]).bind fun (x2:api_Req)=>(shard_Shard_Ask x2 x1).bind fun (x3:api_Answer × Bool × shard_Shard)=>(osmosislaw8_put 0 1 [107] ([111,116,104,101,114])).bind fun (x4:api_Req)=>(shard_Shard_Ask x4 x3.2.2).bind fun (x5:api_Answer × Bool × shard_Shard)=>cond (x3.1.Why == x5.1.Why && (x3.1.Value == x5.1.Value && true)) (cond x3.2.1 (cond (!x5.2.1) ((shard_Shard_Weight x5.2.2).bind fun (x6:Int)=>cond (x6 == 2) (cond (x5.2.2.ID == 2) (cond (x5.2.2.Epoch == 3) ((table_Table_Len_3 x5.2.2).bind fun (x7:Int)=>some (x7 == 1)) (some false)) (some false)) (some false)) (some false)) (some false)) (some false)
def out_osmosislaw8_known (r:Bool):AV × WH:=((.bool r),[])
theorem s_osmosislaw8_known (d:Nat)  {r:Bool} (h:osmosislaw8_known=some r):Spec (wcalls atab (d+9)) 69 [] [] (out_osmosislaw8_known r).1 (out_osmosislaw8_known r).2:=by
  obtain ⟨x1,hx1⟩:=wx (shard_Of (⟨2,3,[],[]⟩:api_Image))
  obtain ⟨x2,hx2⟩:=wx (osmosislaw8_put 0 1 [107] [118])
  obtain ⟨x3,hx3⟩:=wx (shard_Shard_Ask x2 x1)
  obtain ⟨x4,hx4⟩:=wx (osmosislaw8_put 0 1 [107] ([111,116,104,101,114]))
  obtain ⟨x5,hx5⟩:=wx (shard_Shard_Ask x4 x3.2.2)
  obtain ⟨x6,hx6⟩:=wx (shard_Shard_Weight x5.2.2)
  obtain ⟨x7,hx7⟩:=wx (table_Table_Len_3 x5.2.2)
  have e:∀ C:ACalls,wBody C (fun _=>none) KK WF69 [] [] (.z 6 [.agg [.undef,.undef,.slice none 2 0 0 true,.slice none 4 0 0 true]] (.call [] (some false) [.agg [.undef,.undef,.slice none 2 0 0 true,.slice none 4 0 0 true]] (.agg (e_shard_Shard x1)) [] (.z 1 [.slice none 2 0 0 true,.undef,.undef,.undef,.undef,.undef,.undef,.undef,.undef,.undef,.undef,.undef,.undef,.undef,.undef,.undef,.undef,.undef,.undef] (.st none (.cb [] [] (.agg (e_api_Req x2)) (.call [] (some false) [] (.tuple [(.agg (e_api_Answer x3.1)),(.bool x3.2.1)]) [(some (.cells (e_shard_Shard x3.2.2) false false))] (.st none (.cb [] [] (.agg (e_api_Req x4)) (.call [] (some false) [] (.tuple [(.agg (e_api_Answer x5.1)),(.bool x5.2.1)]) [(some (.cells (e_shard_Shard x5.2.2) false false))] (.st none (.br 21 (.br 24 (.br 28 (.call [] (some false) [] (.int .i64 x6) [(some (.cells (e_shard_Shard x5.2.2) false false))] (.br 32 (.br 37 (.br 42 (.call [] (some false) [] (.int .i64 x7) [(some (.cells (e_shard_Shard x5.2.2) false false))] (.fin (some false) [] none)) (.fin (some false) [] none)) (.fin (some false) [] none)) (.fin (some false) [] none))) (.fin (some false) [] none)) (.fin (some false) [] none)) (.fin (some false) [] none)))))))))))) (out_osmosislaw8_known r).1 (out_osmosislaw8_known r).2=(0=0∧0≤47∧(Spec C 65 [(.agg (e_api_Image (⟨2,3,[],[]⟩:api_Image)))] [] (.agg (e_shard_Shard x1)) []∧(0≤0∧(Spec C 70 [(.int .i64 0),(.int .i64 1),(.str [107]),(.str [118])] [] (.agg (e_api_Req x2)) []∧(Spec C 66 [(.ptr (some (0,0))),(.agg (e_api_Req x2))] [(some (.cells (e_shard_Shard x1) false false))] (.tuple [(.agg (e_api_Answer x3.1)),(.bool x3.2.1)]) [(some (.cells (e_shard_Shard x3.2.2) false false))]∧(1≤1∧(Spec C 70 [(.int .i64 0),(.int .i64 1),(.str [107]),(.str ([111,116,104,101,114]))] [] (.agg (e_api_Req x4)) []∧(Spec C 66 [(.ptr (some (0,0))),(.agg (e_api_Req x4))] [(some (.cells (e_shard_Shard x3.2.2) false false))] (.tuple [(.agg (e_api_Answer x5.1)),(.bool x5.2.1)]) [(some (.cells (e_shard_Shard x5.2.2) false false))]∧(1≤1∧(((x3.1.Why == x5.1.Why && (x3.1.Value == x5.1.Value && true))=true→((x3.2.1=true→(((!x5.2.1)=true→(Spec C 71 [(.ptr (some (0,0)))] [(some (.cells (e_shard_Shard x5.2.2) false false))] (.int .i64 x6) [(some (.cells (e_shard_Shard x5.2.2) false false))]∧(1≤1∧(((x6 == 2)=true→(((x5.2.2.ID == 2)=true→(((x5.2.2.Epoch == 3)=true→(Spec C 53 [(.ptr (some (0,0)))] [(some (.cells (e_shard_Shard x5.2.2) false false))] (.int .i64 x7) [(some (.cells (e_shard_Shard x5.2.2) false false))]∧(1≤1∧lff out_osmosislaw8_known (x7 == 1) r)))∧((x5.2.2.Epoch == 3)=false→lff out_osmosislaw8_known false r)))∧((x5.2.2.ID == 2)=false→lff out_osmosislaw8_known false r)))∧((x6 == 2)=false→lff out_osmosislaw8_known false r)))))∧((!x5.2.1)=false→lff out_osmosislaw8_known false r)))∧(x3.2.1=false→lff out_osmosislaw8_known false r)))∧((x3.1.Why == x5.1.Why && (x3.1.Value == x5.1.Value && true))=false→lff out_osmosislaw8_known false r))))))))))):=fun C=>by kernel_rfl
  refine spec_of (fun _ _ h=>by cases h) rfl atab_69 WF69_ok ((e _).mpr ⟨rfl,by decide, ?_⟩)
  unfold osmosislaw8_known at h
  obtain ⟨q1,h⟩:=bget hx1 h
  refine ⟨s_shard_Of (d+0) q1, ?_⟩
  refine ⟨by decide, ?_⟩
  obtain ⟨q2,h⟩:=bget hx2 h
  refine ⟨s_osmosislaw8_put (d+7) q2, ?_⟩
  obtain ⟨q3,h⟩:=bget hx3 h
  refine ⟨s_shard_Shard_Ask (d+1) q3, ?_⟩
  refine ⟨by decide, ?_⟩
  obtain ⟨q4,h⟩:=bget hx4 h
  refine ⟨s_osmosislaw8_put (d+7) q4, ?_⟩
  obtain ⟨q5,h⟩:=bget hx5 h
  refine ⟨s_shard_Shard_Ask (d+1) q5, ?_⟩
  refine ⟨by decide, ?_⟩
  refine ⟨fun hb=>?_,fun hb=>?_⟩
  · have h:=cond_t hb h
    refine ⟨fun hb=>?_,fun hb=>?_⟩
    · have h:=cond_t hb h
      refine ⟨fun hb=>?_,fun hb=>?_⟩
      · have h:=cond_t hb h
        obtain ⟨q6,h⟩:=bget hx6 h
        refine ⟨s_shard_Shard_Weight (d+6) q6, ?_⟩
        refine ⟨by decide, ?_⟩
        refine ⟨fun hb=>?_,fun hb=>?_⟩
        · have h:=cond_t hb h
          refine ⟨fun hb=>?_,fun hb=>?_⟩
          · have h:=cond_t hb h
            refine ⟨fun hb=>?_,fun hb=>?_⟩
            · have h:=cond_t hb h
              obtain ⟨q7,h⟩:=bget hx7 h
              refine ⟨s_table_Table_Len_3 (d+7) q7, ?_⟩
              refine ⟨by decide, ?_⟩
              exact lff_of h
            · have h:=cond_f hb h
              exact lff_of h
          · have h:=cond_f hb h
            exact lff_of h
        · have h:=cond_f hb h
          exact lff_of h
      · have h:=cond_f hb h
        exact lff_of h
    · have h:=cond_f hb h
      exact lff_of h
  · have h:=cond_f hb h
    exact lff_of h
abbrev in_osmosislaw8_ShardOnce_J0 (x47:api_Answer × Bool × shard_Shard) (s44:Int × shard_Shard × List api_Req × List api_Answer × A4 Int) (x46:api_Req) (again:List Int) (asks:List oH_RawOp):Fast × WH:=([(1,(l_I again)),(5,(.ptr (some (0,0)))),(6,(.acc 1 0 6 s44.2.2.1.length true)),(7,(.acc 2 0 2 s44.2.2.2.1.length true)),(8,(.ptr (some (3,0)))),(9,(.int .i64 s44.1)),(11,(.ptr (some (4,0)))),(12,(.ptr (some (5,0)))),(13,(.bool x47.2.1)),(21,(l_oH_RawOp asks)),(22,(.int .i64 (asks.length:Int))),(23,(.int .i64 s44.1))],[(some (.cells (e_shard_Shard x47.2.2) false false)),(some (.cells (F_api_Req s44.2.2.1) false true)),(some (.cells (F_api_Answer s44.2.2.2.1) false true)),(some (.cells (e_A4I s44.2.2.2.2) false false)),(some (.cells (e_api_Req x46) false false)),(some (.cells (e_api_Answer x47.1) false false))])
def fin_osmosislaw8_ShardOnce_J0 (x47:api_Answer × Bool × shard_Shard) (s44:Int × shard_Shard × List api_Req × List api_Answer × A4 Int) (x46:api_Req) (again:List Int) (asks:List oH_RawOp):(List api_Req × List api_Answer × A4 Int)→Ex × Fast × WH:=fun e=>(.normal,[(1,(l_I again)),(5,(.ptr (some (0,0)))),(6,(.acc 1 0 6 e.1.length true)),(7,(.acc 2 0 2 e.2.1.length true)),(8,(.ptr (some (3,0)))),(9,(.int .i64 s44.1)),(21,(l_oH_RawOp asks)),(22,(.int .i64 (asks.length:Int))),(23,(.int .i64 s44.1))],[(some (.cells (e_shard_Shard x47.2.2) false false)),(some (.cells (F_api_Req e.1) false true)),(some (.cells (F_api_Answer e.2.1) false true)),(some (.cells (e_A4I e.2.2) false false))])
def osmosislaw8_ShardOnce_J0 (x47:api_Answer × Bool × shard_Shard) (s44:Int × shard_Shard × List api_Req × List api_Answer × A4 Int) (x46:api_Req) (again:List Int) (asks:List oH_RawOp):Option ((List api_Req × List api_Answer × A4 Int)) :=
  cond x47.2.1 ((getI (s44.2.2.2.2.toL) x46.Client).bind fun (x49:Int)=>gd (fitsB 72 (s44.2.2.1 ++ [x46]).length) (gd (fitsB 24 (s44.2.2.2.1 ++ [x47.1]).length) (some ((s44.2.2.1 ++ [x46]),(s44.2.2.2.1 ++ [x47.1]),(s44.2.2.2.2.set x46.Client x46.Seq))))) (some (s44.2.2.1,s44.2.2.2.1,s44.2.2.2.2))
theorem s_osmosislaw8_ShardOnce_J0 (d:Nat) {x47:api_Answer × Bool × shard_Shard} {s44:Int × shard_Shard × List api_Req × List api_Answer × A4 Int} {x46:api_Req} {again:List Int} {asks:List oH_RawOp} {r:(List api_Req × List api_Answer × A4 Int)} (h:osmosislaw8_ShardOnce_J0 x47 s44 x46 again asks=some r):RunX (bexec (wcalls atab (d+0)) KK 116 WJ18_bbbbbabklbbakbbbbba) 0 (in_osmosislaw8_ShardOnce_J0 x47 s44 x46 again asks) (fin_osmosislaw8_ShardOnce_J0 x47 s44 x46 again asks r):=by
  obtain ⟨x49,hx49⟩:=wx (getI (s44.2.2.2.2.toL) x46.Client)
  have e:∀ C:ACalls,wCode C (fun _=>none) KK 116 0 WJ18_bbbbbabklbbakbbbbba (in_osmosislaw8_ShardOnce_J0 x47 s44 x46 again asks).1 (in_osmosislaw8_ShardOnce_J0 x47 s44 x46 again asks).2 (.br 45 (.v 50 (.ptr (some (3,0+x46.Client.toNat * 1))) (.st (some (e_A4I (s44.2.2.2.2.set x46.Client x46.Seq))) (.ap 54 (s44.2.2.1 ++ [x46]).length (F_api_Req (s44.2.2.1 ++ [x46])) (.ap 58 (s44.2.2.2.1 ++ [x47.1]).length (F_api_Answer (s44.2.2.2.1 ++ [x47.1])) (.en [1,5,6,7,8,9,21,22,23] [none,none,none,none,none,none,none,none,none] [] [.undef,.undef,.slice none 6 0 0 true,.slice none 2 0 0 true,.undef,.undef,.slice none 8 0 0 true,.undef,.undef]))))) (.en [1,5,6,7,8,9,21,22,23] [none,none,none,none,none,none,none,none,none] [] [.undef,.undef,.slice none 6 0 0 true,.slice none 2 0 0 true,.undef,.undef,.slice none 8 0 0 true,.undef,.undef])) (fin_osmosislaw8_ShardOnce_J0 x47 s44 x46 again asks r)=((x47.2.1=true→(wP (.idxArr 4 1 (.c (.ptr (some (3,0)))) (.c (.int .i64 x46.Client)))=some (.ptr (some (3,0+x46.Client.toNat * 1)))∧(wrC (e_A4I s44.2.2.2.2) (0+x46.Client.toNat * 1) [(.int .i64 x46.Seq)]=some (e_A4I (s44.2.2.2.2.set x46.Client x46.Seq))∧(s44.2.2.1.length+1=(s44.2.2.1 ++ [x46]).length∧(F_api_Req s44.2.2.1 ++ F_api_Req [x46]=F_api_Req (s44.2.2.1 ++ [x46])∧(fitsB 72 (s44.2.2.1 ++ [x46]).length=true∧(s44.2.2.2.1.length+1=(s44.2.2.2.1 ++ [x47.1]).length∧(F_api_Answer s44.2.2.2.1 ++ F_api_Answer [x47.1]=F_api_Answer (s44.2.2.2.1 ++ [x47.1])∧(fitsB 24 (s44.2.2.2.1 ++ [x47.1]).length=true∧lfe (fin_osmosislaw8_ShardOnce_J0 x47 s44 x46 again asks) ((s44.2.2.1 ++ [x46]),(s44.2.2.2.1 ++ [x47.1]),(s44.2.2.2.2.set x46.Client x46.Seq)) r)))))))))∧(x47.2.1=false→lfe (fin_osmosislaw8_ShardOnce_J0 x47 s44 x46 again asks) (s44.2.2.1,s44.2.2.2.1,s44.2.2.2.2) r)):=fun C=>by kernel_rfl
  refine runS_of (fun _ _ h=>by cases h) WJ18_bbbbbabklbbakbbbbba_ok (Nat.le_of_ble_eq_true rfl) ((e _).mpr ?_)
  unfold osmosislaw8_ShardOnce_J0 at h
  refine ⟨fun hb=>?_,fun hb=>?_⟩
  · have h:=cond_t hb h
    obtain ⟨q49,h⟩:=bget hx49 h
    refine ⟨wP_arr q49 rfl, ?_⟩
    refine ⟨wr_arr (p:=0) (o:=0) R_I q49 (A4.toL_set _ q49) rfl (Nat.le_of_ble_eq_true rfl) rfl rfl, ?_⟩
    obtain ⟨q50,h⟩:=gd_some h
    refine ⟨by simp, ?_⟩
    refine ⟨(Row.app R_api_Req _ _).symm, ?_⟩
    refine ⟨q50, ?_⟩
    obtain ⟨q51,h⟩:=gd_some h
    refine ⟨by simp, ?_⟩
    refine ⟨(Row.app R_api_Answer _ _).symm, ?_⟩
    refine ⟨q51, ?_⟩
    exact lfe_of h
  · have h:=cond_f hb h
    exact lfe_of h
abbrev in_osmosislaw8_ShardOnce_J1 (s44:Int × shard_Shard × List api_Req × List api_Answer × A4 Int) (again:List Int) (x52:(List api_Req × List api_Answer × A4 Int)) (asks:List oH_RawOp) (x47:api_Answer × Bool × shard_Shard):Fast × WH:=([(1,(l_I again)),(5,(.ptr (some (0,0)))),(6,(.acc 1 0 6 x52.1.length true)),(7,(.acc 2 0 2 x52.2.1.length true)),(8,(.ptr (some (3,0)))),(9,(.int .i64 s44.1)),(21,(l_oH_RawOp asks)),(22,(.int .i64 (asks.length:Int))),(23,(.int .i64 s44.1))],[(some (.cells (e_shard_Shard x47.2.2) false false)),(some (.cells (F_api_Req x52.1) false true)),(some (.cells (F_api_Answer x52.2.1) false true)),(some (.cells (e_A4I x52.2.2) false false))])
def fin_osmosislaw8_ShardOnce_J1 (s44:Int × shard_Shard × List api_Req × List api_Answer × A4 Int) (again:List Int) (x52:(List api_Req × List api_Answer × A4 Int)) (asks:List oH_RawOp) (x47:api_Answer × Bool × shard_Shard):Bool→Ex × Fast × WH:=fun e=>(.normal,[(1,(l_I again)),(5,(.ptr (some (0,0)))),(6,(.acc 1 0 6 x52.1.length true)),(7,(.acc 2 0 2 x52.2.1.length true)),(8,(.ptr (some (3,0)))),(9,(.int .i64 s44.1)),(21,(l_oH_RawOp asks)),(22,(.int .i64 (asks.length:Int))),(23,(.int .i64 s44.1)),(67,(.bool e))],[(some (.cells (e_shard_Shard x47.2.2) false false)),(some (.cells (F_api_Req x52.1) false true)),(some (.cells (F_api_Answer x52.2.1) false true)),(some (.cells (e_A4I x52.2.2) false false))])
def osmosislaw8_ShardOnce_J1 (s44:Int × shard_Shard × List api_Req × List api_Answer × A4 Int) (again:List Int) (x52:(List api_Req × List api_Answer × A4 Int)) (asks:List oH_RawOp) (x47:api_Answer × Bool × shard_Shard):Option (Bool) :=
  cond (decide (s44.1 < (again.length:Int))) (some (decide ((x52.1.length:Int) > 0))) (some false)
theorem s_osmosislaw8_ShardOnce_J1 (d:Nat) {s44:Int × shard_Shard × List api_Req × List api_Answer × A4 Int} {again:List Int} {x52:(List api_Req × List api_Answer × A4 Int)} {asks:List oH_RawOp} {x47:api_Answer × Bool × shard_Shard} {r:Bool} (h:osmosislaw8_ShardOnce_J1 s44 again x52 asks x47=some r):RunX (bexec (wcalls atab (d+0)) KK 116 WJ18_bbbbbabklbbakbbbbbba) 0 (in_osmosislaw8_ShardOnce_J1 s44 again x52 asks x47) (fin_osmosislaw8_ShardOnce_J1 s44 again x52 asks x47 r):=by
  have e:∀ C:ACalls,wCode C (fun _=>none) KK 116 0 WJ18_bbbbbabklbbakbbbbbba (in_osmosislaw8_ShardOnce_J1 s44 again x52 asks x47).1 (in_osmosislaw8_ShardOnce_J1 s44 again x52 asks x47).2 (.br 63 (.en [1,5,6,7,8,9,21,22,23,67] [none,none,none,none,none,none,none,none,none,none] [] [.undef,.undef,.slice none 6 0 0 true,.slice none 2 0 0 true,.undef,.undef,.slice none 8 0 0 true,.undef,.undef,.undef]) (.en [1,5,6,7,8,9,21,22,23,67] [none,none,none,none,none,none,none,none,none,none] [] [.undef,.undef,.slice none 6 0 0 true,.slice none 2 0 0 true,.undef,.undef,.slice none 8 0 0 true,.undef,.undef,.undef])) (fin_osmosislaw8_ShardOnce_J1 s44 again x52 asks x47 r)=(((decide (s44.1 < (again.length:Int)))=true→lfe (fin_osmosislaw8_ShardOnce_J1 s44 again x52 asks x47) (decide ((x52.1.length:Int) > 0)) r)∧((decide (s44.1 < (again.length:Int)))=false→lfe (fin_osmosislaw8_ShardOnce_J1 s44 again x52 asks x47) false r)):=fun C=>by kernel_rfl
  refine runS_of (fun _ _ h=>by cases h) WJ18_bbbbbabklbbakbbbbbba_ok (Nat.le_of_ble_eq_true rfl) ((e _).mpr ?_)
  unfold osmosislaw8_ShardOnce_J1 at h
  refine ⟨fun hb=>?_,fun hb=>?_⟩
  · have h:=cond_t hb h
    exact lfe_of h
  · have h:=cond_f hb h
    exact lfe_of h
abbrev in_osmosislaw8_ShardOnce_J2 (x52:(List api_Req × List api_Answer × A4 Int)) (x56:Int) (again:List Int) (x58:api_Answer × Bool × shard_Shard) (asks:List oH_RawOp) (s44:Int × shard_Shard × List api_Req × List api_Answer × A4 Int) (x54:api_Image):Fast × WH:=([(1,(l_I again)),(5,(.ptr (some (0,0)))),(6,(.acc 1 0 6 x52.1.length true)),(7,(.acc 2 0 2 x52.2.1.length true)),(8,(.ptr (some (3,0)))),(14,(.ptr (some (4,0)))),(15,(.int .i64 x56)),(16,(.ptr (some (5,0)))),(17,(.bool x58.2.1)),(18,(.ptr (some (6,0)))),(21,(l_oH_RawOp asks)),(22,(.int .i64 (asks.length:Int))),(23,(.int .i64 s44.1))],[(some (.cells (e_shard_Shard x58.2.2) false false)),(some (.cells (F_api_Req x52.1) false true)),(some (.cells (F_api_Answer x52.2.1) false true)),(some (.cells (e_A4I x52.2.2) false false)),(some (.cells (e_api_Image x54) false false)),(some (.cells (e_api_Answer x58.1) false false)),(some (.cells (e_api_Answer (⟨9,([]:List UInt8)⟩:api_Answer)) false false))])
def fin_osmosislaw8_ShardOnce_J2 (x52:(List api_Req × List api_Answer × A4 Int)) (x56:Int) (again:List Int) (x58:api_Answer × Bool × shard_Shard) (asks:List oH_RawOp) (s44:Int × shard_Shard × List api_Req × List api_Answer × A4 Int) (x54:api_Image):api_Answer→Ex × Fast × WH:=fun e=>(.normal,[(1,(l_I again)),(5,(.ptr (some (0,0)))),(6,(.acc 1 0 6 x52.1.length true)),(7,(.acc 2 0 2 x52.2.1.length true)),(8,(.ptr (some (3,0)))),(14,(.ptr (some (4,0)))),(16,(.ptr (some (5,0)))),(17,(.bool x58.2.1)),(18,(.ptr (some (6,0)))),(21,(l_oH_RawOp asks)),(22,(.int .i64 (asks.length:Int))),(23,(.int .i64 s44.1))],[(some (.cells (e_shard_Shard x58.2.2) false false)),(some (.cells (F_api_Req x52.1) false true)),(some (.cells (F_api_Answer x52.2.1) false true)),(some (.cells (e_A4I x52.2.2) false false)),(some (.cells (e_api_Image x54) false false)),(some (.cells (e_api_Answer x58.1) false false)),(some (.cells (e_api_Answer e) false false))])
def osmosislaw8_ShardOnce_J2 (x52:(List api_Req × List api_Answer × A4 Int)) (x56:Int) (again:List Int) (x58:api_Answer × Bool × shard_Shard) (asks:List oH_RawOp) (s44:Int × shard_Shard × List api_Req × List api_Answer × A4 Int) (x54:api_Image):Option (api_Answer) :=
  (getI x52.1 x56).bind fun (x59:api_Req)=>(getI x52.1 x56).bind fun (x60:api_Req)=>(getI (x52.2.2.toL) x60.Client).bind fun (x61:Int)=>cond (x59.Seq == x61) ((getI x52.2.1 x56).bind fun (x62:api_Answer)=>some x62) (some (⟨9,([]:List UInt8)⟩:api_Answer))
theorem s_osmosislaw8_ShardOnce_J2 (d:Nat) {x52:(List api_Req × List api_Answer × A4 Int)} {x56:Int} {again:List Int} {x58:api_Answer × Bool × shard_Shard} {asks:List oH_RawOp} {s44:Int × shard_Shard × List api_Req × List api_Answer × A4 Int} {x54:api_Image} {r:api_Answer} (h:osmosislaw8_ShardOnce_J2 x52 x56 again x58 asks s44 x54=some r):RunX (bexec (wcalls atab (d+0)) KK 116 WJ18_bbbbbabklbbakbbbbbbbtbbbba) 0 (in_osmosislaw8_ShardOnce_J2 x52 x56 again x58 asks s44 x54) (fin_osmosislaw8_ShardOnce_J2 x52 x56 again x58 asks s44 x54 r):=by
  obtain ⟨x59,hx59⟩:=wx (getI x52.1 x56)
  obtain ⟨x60,hx60⟩:=wx (getI x52.1 x56)
  obtain ⟨x61,hx61⟩:=wx (getI (x52.2.2.toL) x60.Client)
  obtain ⟨x62,hx62⟩:=wx (getI x52.2.1 x56)
  have e:∀ C:ACalls,wCode C (fun _=>none) KK 116 0 WJ18_bbbbbabklbbakbbbbbbbtbbbba (in_osmosislaw8_ShardOnce_J2 x52 x56 again x58 asks s44 x54).1 (in_osmosislaw8_ShardOnce_J2 x52 x56 again x58 asks s44 x54).2 (.v 87 (.ptr (some (1,0+x56.toNat * 6))) (.v 89 (.int .i64 x59.Seq) (.v 92 (.ptr (some (1,0+x56.toNat * 6))) (.v 94 (.int .i64 x60.Client) (.v 95 (.ptr (some (3,0+x60.Client.toNat * 1))) (.v 96 (.int .i64 x61) (.br 97 (.v 100 (.ptr (some (2,0+x56.toNat * 2))) (.v 101 (.agg (e_api_Answer x62)) (.st none (.en [1,5,6,7,8,14,16,17,18,21,22,23] [none,none,none,none,none,none,none,none,none,none,none,none] [] [.undef,.undef,.slice none 6 0 0 true,.slice none 2 0 0 true,.undef,.undef,.undef,.undef,.undef,.slice none 8 0 0 true,.undef,.undef])))) (.en [1,5,6,7,8,14,16,17,18,21,22,23] [none,none,none,none,none,none,none,none,none,none,none,none] [] [.undef,.undef,.slice none 6 0 0 true,.slice none 2 0 0 true,.undef,.undef,.undef,.undef,.undef,.slice none 8 0 0 true,.undef,.undef])))))))) (fin_osmosislaw8_ShardOnce_J2 x52 x56 again x58 asks s44 x54 r)=(wP (.idxSlice 6 (.c (.acc 1 0 6 x52.1.length true)) (.c (.int .i64 x56)))=some (.ptr (some (1,0+x56.toNat * 6)))∧(cPart false (0+x56.toNat * 6+1) 1 (F_api_Req x52.1)=some (.int .i64 x59.Seq)∧(wP (.idxSlice 6 (.c (.acc 1 0 6 x52.1.length true)) (.c (.int .i64 x56)))=some (.ptr (some (1,0+x56.toNat * 6)))∧(cPart false (0+x56.toNat * 6) 1 (F_api_Req x52.1)=some (.int .i64 x60.Client)∧(wP (.idxArr 4 1 (.c (.ptr (some (3,0)))) (.c (.int .i64 x60.Client)))=some (.ptr (some (3,0+x60.Client.toNat * 1)))∧(cPart false (0+x60.Client.toNat * 1) 1 (e_A4I x52.2.2)=some (.int .i64 x61)∧(((x59.Seq == x61)=true→(wP (.idxSlice 2 (.c (.acc 2 0 2 x52.2.1.length true)) (.c (.int .i64 x56)))=some (.ptr (some (2,0+x56.toNat * 2)))∧(cPart true (0+x56.toNat * 2) 2 (F_api_Answer x52.2.1)=some (.agg (e_api_Answer x62))∧lfe (fin_osmosislaw8_ShardOnce_J2 x52 x56 again x58 asks s44 x54) x62 r)))∧((x59.Seq == x61)=false→lfe (fin_osmosislaw8_ShardOnce_J2 x52 x56 again x58 asks s44 x54) (⟨9,([]:List UInt8)⟩:api_Answer) r)))))))):=fun C=>by kernel_rfl
  refine runS_of (fun _ _ h=>by cases h) WJ18_bbbbbabklbbakbbbbbbbtbbbba_ok (Nat.le_of_ble_eq_true rfl) ((e _).mpr ?_)
  unfold osmosislaw8_ShardOnce_J2 at h
  obtain ⟨q59,h⟩:=bget hx59 h
  refine ⟨wP_idxA R_api_Req q59, ?_⟩
  refine ⟨cP_row (o:=1) R_api_Req q59 rfl, ?_⟩
  obtain ⟨q60,h⟩:=bget hx60 h
  refine ⟨wP_idxA R_api_Req q60, ?_⟩
  refine ⟨cP_row (o:=0) R_api_Req q60 rfl, ?_⟩
  obtain ⟨q61,h⟩:=bget hx61 h
  refine ⟨wP_arr q61 rfl, ?_⟩
  refine ⟨cP_arr (p:=0) (o:=0) R_I q61 rfl rfl, ?_⟩
  refine ⟨fun hb=>?_,fun hb=>?_⟩
  · have h:=cond_t hb h
    obtain ⟨q62,h⟩:=bget hx62 h
    refine ⟨wP_idxA R_api_Answer q62, ?_⟩
    refine ⟨cP_row (o:=0) R_api_Answer q62 rfl, ?_⟩
    exact lfe_of h
  · have h:=cond_f hb h
    exact lfe_of h
def st_osmosislaw8_ShardOnce_L3 (asks:List oH_RawOp) (again:List Int) (s44:Int × shard_Shard × List api_Req × List api_Answer × A4 Int):List AV × WH:=([(l_I again),(.ptr (some (0,0))),(.acc 1 0 6 s44.2.2.1.length true),(.acc 2 0 2 s44.2.2.2.1.length true),(.ptr (some (3,0))),(l_oH_RawOp asks),(.int .i64 (asks.length:Int)),(.int .i64 s44.1)],[(some (.cells (e_shard_Shard s44.2.1) false false)),(some (.cells (F_api_Req s44.2.2.1) false true)),(some (.cells (F_api_Answer s44.2.2.2.1) false true)),(some (.cells (e_A4I s44.2.2.2.2) false false))])
def fin_osmosislaw8_ShardOnce_L3 (asks:List oH_RawOp) (again:List Int):Unit ⊕ Unit→Ex × Fast × WH:=fun
  | .inl e=>(.ret,[(4,(.bool false))],[])
  | .inr e=>((.exit 0),[],[])
abbrev rx_osmosislaw8_ShardOnce_L3 (asks:List oH_RawOp) (again:List Int):=roundX [1,5,6,7,8,21,22,23] (st_osmosislaw8_ShardOnce_L3 asks again) (fin_osmosislaw8_ShardOnce_L3 asks again)
def osmosislaw8_ShardOnce_L3_s (asks:List oH_RawOp) (again:List Int) (s44:Int × shard_Shard × List api_Req × List api_Answer × A4 Int):Option ((Int × shard_Shard × List api_Req × List api_Answer × A4 Int) ⊕ (Unit ⊕ Unit)) :=
  cond (decide (s44.1 < (asks.length:Int))) ((getI asks s44.1).bind fun (x45:oH_RawOp)=>(oH_Req (⟨x45.Kind,x45.Key,x45.Value,x45.Old,x45.Client,x45.Seq,0,x45.Text⟩:oH_RawOp)).bind fun (x46:api_Req)=>(shard_Shard_Ask x46 s44.2.1).bind fun (x47:api_Answer × Bool × shard_Shard)=>(getI (s44.2.2.2.2.toL) x46.Client).bind fun (x48:Int)=>cond (!(x47.2.1 == (decide (x46.Seq > x48)))) (some (.inr (.inl ()))) ((osmosislaw8_ShardOnce_J0 x47 s44 x46 again asks).bind fun (x52:(List api_Req × List api_Answer × A4 Int))=>(osmosislaw8_ShardOnce_J1 s44 again x52 asks x47).bind fun (x53:Bool)=>cond x53 ((shard_Shard_Image x47.2.2).bind fun (x54:api_Image)=>(getI again s44.1).bind fun (x55:Int)=>(oH_Pick x55 (x52.1.length:Int)).bind fun (x56:Int)=>(getI x52.1 x56).bind fun (x57:api_Req)=>(shard_Shard_Ask x57 x47.2.2).bind fun (x58:api_Answer × Bool × shard_Shard)=>(osmosislaw8_ShardOnce_J2 x52 x56 again x58 asks s44 x54).bind fun (x63:api_Answer)=>cond x58.2.1 (some (.inr (.inl ()))) (cond (!(x58.1.Why == x63.Why && (x58.1.Value == x63.Value && true))) (some (.inr (.inl ()))) ((shard_Shard_Image x58.2.2).bind fun (x64:api_Image)=>(oR_SameImage x64 x54).bind fun (x65:Bool)=>cond (!x65) (some (.inr (.inl ()))) (some (.inl ((IntKind.i64.wrap (s44.1+1)),x58.2.2,x52.1,x52.2.1,x52.2.2)))))) (some (.inl ((IntKind.i64.wrap (s44.1+1)),x47.2.2,x52.1,x52.2.1,x52.2.2))))) (some (.inr (.inr ())))
def osmosislaw8_ShardOnce_L3 (asks:List oH_RawOp) (again:List Int) (s44:Int × shard_Shard × List api_Req × List api_Answer × A4 Int):Option (Unit ⊕ Unit):=loopX (osmosislaw8_ShardOnce_L3_s asks again) KK s44
theorem b_osmosislaw8_ShardOnce_L3 (d:Nat) {asks:List oH_RawOp} {again:List Int} {s44:Int × shard_Shard × List api_Req × List api_Answer × A4 Int} {r:(Int × shard_Shard × List api_Req × List api_Answer × A4 Int) ⊕ (Unit ⊕ Unit)} (h:osmosislaw8_ShardOnce_L3_s asks again s44=some r):RunX (bexec (wcalls atab (d+7)) KK 116 WB18_0) 0 (inL [1,5,6,7,8,21,22,23] (st_osmosislaw8_ShardOnce_L3 asks again s44)) (rx_osmosislaw8_ShardOnce_L3 asks again r):=by
  obtain ⟨x45,hx45⟩:=wx (getI asks s44.1)
  obtain ⟨x46,hx46⟩:=wx (oH_Req (⟨x45.Kind,x45.Key,x45.Value,x45.Old,x45.Client,x45.Seq,0,x45.Text⟩:oH_RawOp))
  obtain ⟨x47,hx47⟩:=wx (shard_Shard_Ask x46 s44.2.1)
  obtain ⟨x48,hx48⟩:=wx (getI (s44.2.2.2.2.toL) x46.Client)
  obtain ⟨x52,hx52⟩:=wx (osmosislaw8_ShardOnce_J0 x47 s44 x46 again asks)
  obtain ⟨x53,hx53⟩:=wx (osmosislaw8_ShardOnce_J1 s44 again x52 asks x47)
  obtain ⟨x54,hx54⟩:=wx (shard_Shard_Image x47.2.2)
  obtain ⟨x55,hx55⟩:=wx (getI again s44.1)
  obtain ⟨x56,hx56⟩:=wx (oH_Pick x55 (x52.1.length:Int))
  obtain ⟨x57,hx57⟩:=wx (getI x52.1 x56)
  obtain ⟨x58,hx58⟩:=wx (shard_Shard_Ask x57 x47.2.2)
  obtain ⟨x63,hx63⟩:=wx (osmosislaw8_ShardOnce_J2 x52 x56 again x58 asks s44 x54)
  obtain ⟨x64,hx64⟩:=wx (shard_Shard_Image x58.2.2)
  obtain ⟨x65,hx65⟩:=wx (oR_SameImage x64 x54)
  have e:∀ C:ACalls,wCode C (fun _=>none) KK 116 0 WB18_0 (inL [1,5,6,7,8,21,22,23] (st_osmosislaw8_ShardOnce_L3 asks again s44)).1 (inL [1,5,6,7,8,21,22,23] (st_osmosislaw8_ShardOnce_L3 asks again s44)).2 (.br 24 (.v 26 (.elem ((e_oH_RawOp x45) ++ F_oH_RawOp (asks.drop (s44.1.toNat+1)))) (.st none (.st none (.cb [] [] (.agg (e_api_Req x46)) (.st none (.call [] (some false) [] (.tuple [(.agg (e_api_Answer x47.1)),(.bool x47.2.1)]) [(some (.cells (e_shard_Shard x47.2.2) false false))] (.st none (.v 41 (.ptr (some (3,0+x46.Client.toNat * 1))) (.v 42 (.int .i64 x48) (.br 44 (.en [4] [none] [] []) (.jn [1,5,6,7,8,9,11,12,13,21,22,23] [none,none,none,none,none,none,none,none,none,none,none,none] [] [.undef,.undef,.slice none 6 0 0 true,.slice none 2 0 0 true,.undef,.undef,.undef,.undef,.undef,.slice none 8 0 0 true,.undef,.undef] .normal [(1,(l_I again)),(5,(.ptr (some (0,0)))),(6,(.acc 1 0 6 x52.1.length true)),(7,(.acc 2 0 2 x52.2.1.length true)),(8,(.ptr (some (3,0)))),(9,(.int .i64 s44.1)),(21,(l_oH_RawOp asks)),(22,(.int .i64 (asks.length:Int))),(23,(.int .i64 s44.1))] [(some (.cells (e_shard_Shard x47.2.2) false false)),(some (.cells (F_api_Req x52.1) false true)),(some (.cells (F_api_Answer x52.2.1) false true)),(some (.cells (e_A4I x52.2.2) false false))] (.jn [1,5,6,7,8,9,21,22,23] [none,none,none,none,none,none,none,none,none] [] [.undef,.undef,.slice none 6 0 0 true,.slice none 2 0 0 true,.undef,.undef,.slice none 8 0 0 true,.undef,.undef] .normal [(1,(l_I again)),(5,(.ptr (some (0,0)))),(6,(.acc 1 0 6 x52.1.length true)),(7,(.acc 2 0 2 x52.2.1.length true)),(8,(.ptr (some (3,0)))),(9,(.int .i64 s44.1)),(21,(l_oH_RawOp asks)),(22,(.int .i64 (asks.length:Int))),(23,(.int .i64 s44.1)),(67,(.bool x53))] [(some (.cells (e_shard_Shard x47.2.2) false false)),(some (.cells (F_api_Req x52.1) false true)),(some (.cells (F_api_Answer x52.2.1) false true)),(some (.cells (e_A4I x52.2.2) false false))] (.br 67 (.call [] (some false) [] (.agg (e_api_Image x54)) [(some (.cells (e_shard_Shard x47.2.2) false false))] (.z 14 [.undef,.undef,.slice none 2 0 0 true,.slice none 4 0 0 true] (.st none (.v 71 (.elem ([(.int .i64 x55)] ++ F_I (again.drop (s44.1.toNat+1)))) (.cb [] [] (.int .i64 x56) (.v 79 (.ptr (some (1,0+x56.toNat * 6))) (.v 80 (.agg (e_api_Req x57)) (.call [] (some false) [] (.tuple [(.agg (e_api_Answer x58.1)),(.bool x58.2.1)]) [(some (.cells (e_shard_Shard x58.2.2) false false))] (.st none (.st none (.jn [1,5,6,7,8,14,15,16,17,18,21,22,23] [none,none,none,none,none,none,none,none,none,none,none,none,none] [] [.undef,.undef,.slice none 6 0 0 true,.slice none 2 0 0 true,.undef,.undef,.undef,.undef,.undef,.undef,.slice none 8 0 0 true,.undef,.undef] .normal [(1,(l_I again)),(5,(.ptr (some (0,0)))),(6,(.acc 1 0 6 x52.1.length true)),(7,(.acc 2 0 2 x52.2.1.length true)),(8,(.ptr (some (3,0)))),(14,(.ptr (some (4,0)))),(16,(.ptr (some (5,0)))),(17,(.bool x58.2.1)),(18,(.ptr (some (6,0)))),(21,(l_oH_RawOp asks)),(22,(.int .i64 (asks.length:Int))),(23,(.int .i64 s44.1))] [(some (.cells (e_shard_Shard x58.2.2) false false)),(some (.cells (F_api_Req x52.1) false true)),(some (.cells (F_api_Answer x52.2.1) false true)),(some (.cells (e_A4I x52.2.2) false false)),(some (.cells (e_api_Image x54) false false)),(some (.cells (e_api_Answer x58.1) false false)),(some (.cells (e_api_Answer x63) false false))] (.br 103 (.en [4] [none] [] []) (.br 108 (.en [4] [none] [] []) (.call [] (some false) [] (.agg (e_api_Image x64)) [(some (.cells (e_shard_Shard x58.2.2) false false))] (.cb [] [.agg [.undef,.undef,.slice none 2 0 0 true,.slice none 4 0 0 true],.agg [.undef,.undef,.slice none 2 0 0 true,.slice none 4 0 0 true]] (.bool x65) (.br 113 (.en [4] [none] [] []) (.en [1,5,6,7,8,21,22,23] [none,none,none,none,none,none,none,none] [] [.undef,.undef,.slice none 6 0 0 true,.slice none 2 0 0 true,.undef,.slice none 8 0 0 true,.undef,.undef]))))))))))))))))) (.en [1,5,6,7,8,21,22,23] [none,none,none,none,none,none,none,none] [] [.undef,.undef,.slice none 6 0 0 true,.slice none 2 0 0 true,.undef,.slice none 8 0 0 true,.undef,.undef])))))))))))))) (.en [] [] [] [])) (rx_osmosislaw8_ShardOnce_L3 asks again r)=(((decide (s44.1 < (asks.length:Int)))=true→(wP (.idxSlice 8 (.c (l_oH_RawOp asks)) (.c (.int .i64 s44.1)))=some (.elem ((e_oH_RawOp x45) ++ F_oH_RawOp (asks.drop (s44.1.toNat+1))))∧(Spec C 61 [(.agg (e_oH_RawOp (⟨x45.Kind,x45.Key,x45.Value,x45.Old,x45.Client,x45.Seq,0,x45.Text⟩:oH_RawOp)))] [] (.agg (e_api_Req x46)) []∧(Spec C 66 [(.ptr (some (0,0))),(.agg (e_api_Req x46))] [(some (.cells (e_shard_Shard s44.2.1) false false))] (.tuple [(.agg (e_api_Answer x47.1)),(.bool x47.2.1)]) [(some (.cells (e_shard_Shard x47.2.2) false false))]∧(1≤1∧(wP (.idxArr 4 1 (.c (.ptr (some (3,0)))) (.c (.int .i64 x46.Client)))=some (.ptr (some (3,0+x46.Client.toNat * 1)))∧(cPart false (0+x46.Client.toNat * 1) 1 (e_A4I s44.2.2.2.2)=some (.int .i64 x48)∧(((!(x47.2.1 == (decide (x46.Seq > x48))))=true→lfe (rx_osmosislaw8_ShardOnce_L3 asks again) (.inr (.inl ())) r)∧((!(x47.2.1 == (decide (x46.Seq > x48))))=false→(RunS (bexec C KK 116 WJ18_bbbbbabklbbakbbbbba) 0 [(1,(l_I again)),(5,(.ptr (some (0,0)))),(6,(.acc 1 0 6 s44.2.2.1.length true)),(7,(.acc 2 0 2 s44.2.2.2.1.length true)),(8,(.ptr (some (3,0)))),(9,(.int .i64 s44.1)),(11,(.ptr (some (4,0)))),(12,(.ptr (some (5,0)))),(13,(.bool x47.2.1)),(21,(l_oH_RawOp asks)),(22,(.int .i64 (asks.length:Int))),(23,(.int .i64 s44.1))] [(some (.cells (e_shard_Shard x47.2.2) false false)),(some (.cells (F_api_Req s44.2.2.1) false true)),(some (.cells (F_api_Answer s44.2.2.2.1) false true)),(some (.cells (e_A4I s44.2.2.2.2) false false)),(some (.cells (e_api_Req x46) false false)),(some (.cells (e_api_Answer x47.1) false false))] .normal [(1,(l_I again)),(5,(.ptr (some (0,0)))),(6,(.acc 1 0 6 x52.1.length true)),(7,(.acc 2 0 2 x52.2.1.length true)),(8,(.ptr (some (3,0)))),(9,(.int .i64 s44.1)),(21,(l_oH_RawOp asks)),(22,(.int .i64 (asks.length:Int))),(23,(.int .i64 s44.1))] [(some (.cells (e_shard_Shard x47.2.2) false false)),(some (.cells (F_api_Req x52.1) false true)),(some (.cells (F_api_Answer x52.2.1) false true)),(some (.cells (e_A4I x52.2.2) false false))]∧(RunS (bexec C KK 116 WJ18_bbbbbabklbbakbbbbbba) 0 [(1,(l_I again)),(5,(.ptr (some (0,0)))),(6,(.acc 1 0 6 x52.1.length true)),(7,(.acc 2 0 2 x52.2.1.length true)),(8,(.ptr (some (3,0)))),(9,(.int .i64 s44.1)),(21,(l_oH_RawOp asks)),(22,(.int .i64 (asks.length:Int))),(23,(.int .i64 s44.1))] [(some (.cells (e_shard_Shard x47.2.2) false false)),(some (.cells (F_api_Req x52.1) false true)),(some (.cells (F_api_Answer x52.2.1) false true)),(some (.cells (e_A4I x52.2.2) false false))] .normal [(1,(l_I again)),(5,(.ptr (some (0,0)))),(6,(.acc 1 0 6 x52.1.length true)),(7,(.acc 2 0 2 x52.2.1.length true)),(8,(.ptr (some (3,0)))),(9,(.int .i64 s44.1)),(21,(l_oH_RawOp asks)),(22,(.int .i64 (asks.length:Int))),(23,(.int .i64 s44.1)),(67,(.bool x53))] [(some (.cells (e_shard_Shard x47.2.2) false false)),(some (.cells (F_api_Req x52.1) false true)),(some (.cells (F_api_Answer x52.2.1) false true)),(some (.cells (e_A4I x52.2.2) false false))]∧((x53=true→(Spec C 67 [(.ptr (some (0,0)))] [(some (.cells (e_shard_Shard x47.2.2) false false))] (.agg (e_api_Image x54)) [(some (.cells (e_shard_Shard x47.2.2) false false))]∧(1≤1∧(wP (.idxSlice 1 (.c (l_I again)) (.c (.int .i64 s44.1)))=some (.elem ([(.int .i64 x55)] ++ F_I (again.drop (s44.1.toNat+1))))∧(Spec C 28 [(.int .i64 x55),(.int .i64 (x52.1.length:Int))] [] (.int .i64 x56) []∧(wP (.idxSlice 6 (.c (.acc 1 0 6 x52.1.length true)) (.c (.int .i64 x56)))=some (.ptr (some (1,0+x56.toNat * 6)))∧(cPart true (0+x56.toNat * 6) 6 (F_api_Req x52.1)=some (.agg (e_api_Req x57))∧(Spec C 66 [(.ptr (some (0,0))),(.agg (e_api_Req x57))] [(some (.cells (e_shard_Shard x47.2.2) false false))] (.tuple [(.agg (e_api_Answer x58.1)),(.bool x58.2.1)]) [(some (.cells (e_shard_Shard x58.2.2) false false))]∧(1≤1∧(RunS (bexec C KK 116 WJ18_bbbbbabklbbakbbbbbbbtbbbba) 0 [(1,(l_I again)),(5,(.ptr (some (0,0)))),(6,(.acc 1 0 6 x52.1.length true)),(7,(.acc 2 0 2 x52.2.1.length true)),(8,(.ptr (some (3,0)))),(14,(.ptr (some (4,0)))),(15,(.int .i64 x56)),(16,(.ptr (some (5,0)))),(17,(.bool x58.2.1)),(18,(.ptr (some (6,0)))),(21,(l_oH_RawOp asks)),(22,(.int .i64 (asks.length:Int))),(23,(.int .i64 s44.1))] [(some (.cells (e_shard_Shard x58.2.2) false false)),(some (.cells (F_api_Req x52.1) false true)),(some (.cells (F_api_Answer x52.2.1) false true)),(some (.cells (e_A4I x52.2.2) false false)),(some (.cells (e_api_Image x54) false false)),(some (.cells (e_api_Answer x58.1) false false)),(some (.cells (e_api_Answer (⟨9,([]:List UInt8)⟩:api_Answer)) false false))] .normal [(1,(l_I again)),(5,(.ptr (some (0,0)))),(6,(.acc 1 0 6 x52.1.length true)),(7,(.acc 2 0 2 x52.2.1.length true)),(8,(.ptr (some (3,0)))),(14,(.ptr (some (4,0)))),(16,(.ptr (some (5,0)))),(17,(.bool x58.2.1)),(18,(.ptr (some (6,0)))),(21,(l_oH_RawOp asks)),(22,(.int .i64 (asks.length:Int))),(23,(.int .i64 s44.1))] [(some (.cells (e_shard_Shard x58.2.2) false false)),(some (.cells (F_api_Req x52.1) false true)),(some (.cells (F_api_Answer x52.2.1) false true)),(some (.cells (e_A4I x52.2.2) false false)),(some (.cells (e_api_Image x54) false false)),(some (.cells (e_api_Answer x58.1) false false)),(some (.cells (e_api_Answer x63) false false))]∧((x58.2.1=true→lfe (rx_osmosislaw8_ShardOnce_L3 asks again) (.inr (.inl ())) r)∧(x58.2.1=false→(((!(x58.1.Why == x63.Why && (x58.1.Value == x63.Value && true)))=true→lfe (rx_osmosislaw8_ShardOnce_L3 asks again) (.inr (.inl ())) r)∧((!(x58.1.Why == x63.Why && (x58.1.Value == x63.Value && true)))=false→(Spec C 67 [(.ptr (some (0,0)))] [(some (.cells (e_shard_Shard x58.2.2) false false))] (.agg (e_api_Image x64)) [(some (.cells (e_shard_Shard x58.2.2) false false))]∧(1≤1∧(Spec C 68 [(.agg (e_api_Image x64)),(.agg (e_api_Image x54))] [] (.bool x65) []∧(((!x65)=true→lfe (rx_osmosislaw8_ShardOnce_L3 asks again) (.inr (.inl ())) r)∧((!x65)=false→lfe (rx_osmosislaw8_ShardOnce_L3 asks again) (.inl ((IntKind.i64.wrap (s44.1+1)),x58.2.2,x52.1,x52.2.1,x52.2.2)) r)))))))))))))))))))∧(x53=false→lfe (rx_osmosislaw8_ShardOnce_L3 asks again) (.inl ((IntKind.i64.wrap (s44.1+1)),x47.2.2,x52.1,x52.2.1,x52.2.2)) r)))))))))))))∧((decide (s44.1 < (asks.length:Int)))=false→lfe (rx_osmosislaw8_ShardOnce_L3 asks again) (.inr (.inr ())) r)):=fun C=>by kernel_rfl
  refine runS_of (fun _ _ h=>by cases h) WB18_0_ok (Nat.le_of_ble_eq_true rfl) ((e _).mpr ?_)
  unfold osmosislaw8_ShardOnce_L3_s at h
  refine ⟨fun hb=>?_,fun hb=>?_⟩
  · have h:=cond_t hb h
    obtain ⟨q45,h⟩:=bget hx45 h
    refine ⟨wP_idx R_oH_RawOp q45, ?_⟩
    obtain ⟨q46,h⟩:=bget hx46 h
    refine ⟨s_oH_Req (d+3) q46, ?_⟩
    obtain ⟨q47,h⟩:=bget hx47 h
    refine ⟨s_shard_Shard_Ask (d+0) q47, ?_⟩
    refine ⟨by decide, ?_⟩
    obtain ⟨q48,h⟩:=bget hx48 h
    refine ⟨wP_arr q48 rfl, ?_⟩
    refine ⟨cP_arr (p:=0) (o:=0) R_I q48 rfl rfl, ?_⟩
    refine ⟨fun hb=>?_,fun hb=>?_⟩
    · have h:=cond_t hb h
      exact lfe_of h
    · have h:=cond_f hb h
      obtain ⟨q52,h⟩:=bget hx52 h
      refine ⟨s_osmosislaw8_ShardOnce_J0 (d+7) q52, ?_⟩
      obtain ⟨q53,h⟩:=bget hx53 h
      refine ⟨s_osmosislaw8_ShardOnce_J1 (d+7) q53, ?_⟩
      refine ⟨fun hb=>?_,fun hb=>?_⟩
      · have h:=cond_t hb h
        obtain ⟨q54,h⟩:=bget hx54 h
        refine ⟨s_shard_Shard_Image (d+4) q54, ?_⟩
        refine ⟨by decide, ?_⟩
        obtain ⟨q55,h⟩:=bget hx55 h
        refine ⟨wP_idx R_I q55, ?_⟩
        obtain ⟨q56,h⟩:=bget hx56 h
        refine ⟨s_oH_Pick (d+6) q56, ?_⟩
        obtain ⟨q57,h⟩:=bget hx57 h
        refine ⟨wP_idxA R_api_Req q57, ?_⟩
        refine ⟨cP_row (o:=0) R_api_Req q57 rfl, ?_⟩
        obtain ⟨q58,h⟩:=bget hx58 h
        refine ⟨s_shard_Shard_Ask (d+0) q58, ?_⟩
        refine ⟨by decide, ?_⟩
        obtain ⟨q63,h⟩:=bget hx63 h
        refine ⟨s_osmosislaw8_ShardOnce_J2 (d+7) q63, ?_⟩
        refine ⟨fun hb=>?_,fun hb=>?_⟩
        · have h:=cond_t hb h
          exact lfe_of h
        · have h:=cond_f hb h
          refine ⟨fun hb=>?_,fun hb=>?_⟩
          · have h:=cond_t hb h
            exact lfe_of h
          · have h:=cond_f hb h
            obtain ⟨q64,h⟩:=bget hx64 h
            refine ⟨s_shard_Shard_Image (d+4) q64, ?_⟩
            refine ⟨by decide, ?_⟩
            obtain ⟨q65,h⟩:=bget hx65 h
            refine ⟨s_oR_SameImage (d+6) q65, ?_⟩
            refine ⟨fun hb=>?_,fun hb=>?_⟩
            · have h:=cond_t hb h
              exact lfe_of h
            · have h:=cond_f hb h
              exact lfe_of h
      · have h:=cond_f hb h
        exact lfe_of h
  · have h:=cond_f hb h
    exact lfe_of h
theorem s_osmosislaw8_ShardOnce_L3 (d:Nat) {asks:List oH_RawOp} {again:List Int} {s44:Int × shard_Shard × List api_Req × List api_Answer × A4 Int} {r:Unit ⊕ Unit} (h:osmosislaw8_ShardOnce_L3 asks again s44=some r):RunX (bloop (bexec (wcalls atab (d+7)) KK 116 WB18_0) [1,5,6,7,8,21,22,23] KK) 0 (inL [1,5,6,7,8,21,22,23] (st_osmosislaw8_ShardOnce_L3 asks again s44)) (fin_osmosislaw8_ShardOnce_L3 asks again r) :=
  loop_of (st:=st_osmosislaw8_ShardOnce_L3 asks again) (fin:=fin_osmosislaw8_ShardOnce_L3 asks again) (step:=osmosislaw8_ShardOnce_L3_s asks again) (fun e=>by rcases e with e | e <;> (intro h; cases h)) (fun s x h=>b_osmosislaw8_ShardOnce_L3 d h) KK s44 r h
def osmosislaw8_ShardOnce (asks:List oH_RawOp) (again:List Int):Option (Bool) :=
  (shard_Of (⟨0,1,[],[]⟩:api_Image)).bind fun (x1:shard_Shard)=>(osmosislaw8_ShardOnce_L3 asks again (0,x1,[],[],(⟨0,0,0,0⟩:A4 Int))).bind fun (x66:Unit ⊕ Unit)=>cond (isL x66) (some false) ((osmosislaw8_known).bind fun (x68:Bool)=>some x68)
def out_osmosislaw8_ShardOnce (asks:List oH_RawOp) (again:List Int) (r:Bool):AV × WH:=((.bool r),[])
theorem s_osmosislaw8_ShardOnce (d:Nat) {asks:List oH_RawOp} {again:List Int} {r:Bool} (h:osmosislaw8_ShardOnce asks again=some r):Spec (wcalls atab (d+10)) 18 [(l_oH_RawOp asks),(l_I again)] [] (out_osmosislaw8_ShardOnce asks again r).1 (out_osmosislaw8_ShardOnce asks again r).2:=by
  obtain ⟨x1,hx1⟩:=wx (shard_Of (⟨0,1,[],[]⟩:api_Image))
  obtain ⟨x66,hx66⟩:=wx (osmosislaw8_ShardOnce_L3 asks again (0,x1,[],[],(⟨0,0,0,0⟩:A4 Int)))
  obtain ⟨x68,hx68⟩:=wx (osmosislaw8_known)
  have e:∀ C:ACalls,wBody C (fun _=>none) KK WF18 [(l_oH_RawOp asks),(l_I again)] [] (.z 19 [.agg [.undef,.undef,.slice none 2 0 0 true,.slice none 4 0 0 true]] (.call [] (some false) [.agg [.undef,.undef,.slice none 2 0 0 true,.slice none 4 0 0 true]] (.agg (e_shard_Shard x1)) [] (.z 5 [.slice none 2 0 0 true,.undef,.undef,.undef,.undef,.undef,.undef,.undef,.undef,.undef,.undef,.undef,.undef,.undef,.undef,.undef,.undef,.undef,.undef] (.st none (.z 6 [.slice none 6 0 0 true] (.z 7 [.slice none 2 0 0 true] (.ite (isL x66) (.lp [none,none,(some true),(some true),none,none,none,none] [] [.undef,.undef,.slice none 6 0 0 true,.slice none 2 0 0 true,.undef,.slice none 8 0 0 true,.undef,.undef] .ret [(4,(.bool false))] [] (.fin (some false) [] none)) (.lp [none,none,(some true),(some true),none,none,none,none] [] [.undef,.undef,.slice none 6 0 0 true,.slice none 2 0 0 true,.undef,.slice none 8 0 0 true,.undef,.undef] (.exit 0) [] [] (.cb [] [] (.bool x68) (.fin (some false) [] none)))))))))) (out_osmosislaw8_ShardOnce asks again r).1 (out_osmosislaw8_ShardOnce asks again r).2=(2=2∧2≤116∧(Spec C 65 [(.agg (e_api_Image (⟨0,1,[],[]⟩:api_Image)))] [] (.agg (e_shard_Shard x1)) []∧(0≤0∧(((isL x66)=true→(RunS (bloop (bexec C KK 116 WB18_0) [1,5,6,7,8,21,22,23] KK) 0 [(1,(l_I again)),(5,(.ptr (some (0,0)))),(6,(.acc 1 0 6 0 true)),(7,(.acc 2 0 2 0 true)),(8,(.ptr (some (3,0)))),(21,(l_oH_RawOp asks)),(22,(.int .i64 (asks.length:Int))),(23,(.int .i64 0))] [(some (.cells (e_shard_Shard x1) false false)),(some (.cells (F_api_Req []) false true)),(some (.cells (F_api_Answer []) false true)),(some (.cells (e_A4I (⟨0,0,0,0⟩:A4 Int)) false false))] .ret [(4,(.bool false))] []∧lff (out_osmosislaw8_ShardOnce asks again) false r))∧((isL x66)=false→(RunS (bloop (bexec C KK 116 WB18_0) [1,5,6,7,8,21,22,23] KK) 0 [(1,(l_I again)),(5,(.ptr (some (0,0)))),(6,(.acc 1 0 6 0 true)),(7,(.acc 2 0 2 0 true)),(8,(.ptr (some (3,0)))),(21,(l_oH_RawOp asks)),(22,(.int .i64 (asks.length:Int))),(23,(.int .i64 0))] [(some (.cells (e_shard_Shard x1) false false)),(some (.cells (F_api_Req []) false true)),(some (.cells (F_api_Answer []) false true)),(some (.cells (e_A4I (⟨0,0,0,0⟩:A4 Int)) false false))] (.exit 0) [] []∧(Spec C 69 [] [] (.bool x68) []∧lff (out_osmosislaw8_ShardOnce asks again) x68 r))))))):=fun C=>by kernel_rfl
  refine spec_of (fun _ _ h=>by cases h) rfl atab_18 WF18_ok ((e _).mpr ⟨rfl,by decide, ?_⟩)
  unfold osmosislaw8_ShardOnce at h
  obtain ⟨q1,h⟩:=bget hx1 h
  refine ⟨s_shard_Of (d+1) q1, ?_⟩
  refine ⟨by decide, ?_⟩
  obtain ⟨q66,h⟩:=bget hx66 h
  refine ⟨fun hb67=>?_,fun hb67=>?_⟩
  · have h:=cond_t hb67 h
    refine ⟨by have h:=s_osmosislaw8_ShardOnce_L3 (d+2) q66; rw [isL_t hb67] at h; exact h, ?_⟩
    exact lff_of h
  · have h:=cond_f hb67 h
    refine ⟨by have h:=s_osmosislaw8_ShardOnce_L3 (d+2) q66; rw [isL_f hb67] at h; exact h, ?_⟩
    obtain ⟨q68,h⟩:=bget hx68 h
    refine ⟨s_osmosislaw8_known (d+0) q68, ?_⟩
    exact lff_of h
def st_slices_Equal_api_Pair_api_Pair_L0 (a0:List api_Pair) (a1:List api_Pair) (s3:Int):List AV × WH:=([(l_api_Pair a0),(l_api_Pair a1),(.int .i64 (a0.length:Int)),(.int .i64 s3)],[])
def fin_slices_Equal_api_Pair_api_Pair_L0 (a0:List api_Pair) (a1:List api_Pair):Unit ⊕ Unit→Ex × Fast × WH:=fun
  | .inl e=>(.ret,[(4,(.bool false))],[])
  | .inr e=>((.exit 0),[],[])
abbrev rx_slices_Equal_api_Pair_api_Pair_L0 (a0:List api_Pair) (a1:List api_Pair):=roundX [0,1,12,13] (st_slices_Equal_api_Pair_api_Pair_L0 a0 a1) (fin_slices_Equal_api_Pair_api_Pair_L0 a0 a1)
def slices_Equal_api_Pair_api_Pair_L0_s (a0:List api_Pair) (a1:List api_Pair) (s3:Int):Option ((Int) ⊕ (Unit ⊕ Unit)) :=
  cond (decide (s3 < (a0.length:Int))) ((getI a0 s3).bind fun (x4:api_Pair)=>(getI a1 s3).bind fun (x5:api_Pair)=>cond (!(x4.Key == x5.Key && (x4.Value == x5.Value && true))) (some (.inr (.inl ()))) (some (.inl (IntKind.i64.wrap (s3+1))))) (some (.inr (.inr ())))
def slices_Equal_api_Pair_api_Pair_L0 (a0:List api_Pair) (a1:List api_Pair) (s3:Int):Option (Unit ⊕ Unit):=loopX (slices_Equal_api_Pair_api_Pair_L0_s a0 a1) KK s3
theorem b_slices_Equal_api_Pair_api_Pair_L0 (d:Nat) {a0:List api_Pair} {a1:List api_Pair} {s3:Int} {r:(Int) ⊕ (Unit ⊕ Unit)} (h:slices_Equal_api_Pair_api_Pair_L0_s a0 a1 s3=some r):RunX (bexec (wcalls atab (d+0)) KK 26 WB108_0) 0 (inL [0,1,12,13] (st_slices_Equal_api_Pair_api_Pair_L0 a0 a1 s3)) (rx_slices_Equal_api_Pair_api_Pair_L0 a0 a1 r):=by
  obtain ⟨x4,hx4⟩:=wx (getI a0 s3)
  obtain ⟨x5,hx5⟩:=wx (getI a1 s3)
  have e:∀ C:ACalls,wCode C (fun _=>none) KK 26 0 WB108_0 (inL [0,1,12,13] (st_slices_Equal_api_Pair_api_Pair_L0 a0 a1 s3)).1 (inL [0,1,12,13] (st_slices_Equal_api_Pair_api_Pair_L0 a0 a1 s3)).2 (.br 14 (.v 18 (.elem ((e_api_Pair x4) ++ F_api_Pair (a0.drop (s3.toNat+1)))) (.v 22 (.elem ((e_api_Pair x5) ++ F_api_Pair (a1.drop (s3.toNat+1)))) (.br 24 (.en [4] [none] [] []) (.en [0,1,12,13] [none,none,none,none] [] [.slice none 2 0 0 true,.slice none 2 0 0 true,.undef,.undef])))) (.en [] [] [] [])) (rx_slices_Equal_api_Pair_api_Pair_L0 a0 a1 r)=(((decide (s3 < (a0.length:Int)))=true→(wP (.idxSlice 2 (.c (l_api_Pair a0)) (.c (.int .i64 s3)))=some (.elem ((e_api_Pair x4) ++ F_api_Pair (a0.drop (s3.toNat+1))))∧(wP (.idxSlice 2 (.c (l_api_Pair a1)) (.c (.int .i64 s3)))=some (.elem ((e_api_Pair x5) ++ F_api_Pair (a1.drop (s3.toNat+1))))∧(((!(x4.Key == x5.Key && (x4.Value == x5.Value && true)))=true→lfe (rx_slices_Equal_api_Pair_api_Pair_L0 a0 a1) (.inr (.inl ())) r)∧((!(x4.Key == x5.Key && (x4.Value == x5.Value && true)))=false→lfe (rx_slices_Equal_api_Pair_api_Pair_L0 a0 a1) (.inl (IntKind.i64.wrap (s3+1))) r)))))∧((decide (s3 < (a0.length:Int)))=false→lfe (rx_slices_Equal_api_Pair_api_Pair_L0 a0 a1) (.inr (.inr ())) r)):=fun C=>by kernel_rfl
  refine runS_of (fun _ _ h=>by cases h) WB108_0_ok (Nat.le_of_ble_eq_true rfl) ((e _).mpr ?_)
  unfold slices_Equal_api_Pair_api_Pair_L0_s at h
  refine ⟨fun hb=>?_,fun hb=>?_⟩
  · have h:=cond_t hb h
    obtain ⟨q4,h⟩:=bget hx4 h
    refine ⟨wP_idx R_api_Pair q4, ?_⟩
    obtain ⟨q5,h⟩:=bget hx5 h
    refine ⟨wP_idx R_api_Pair q5, ?_⟩
    refine ⟨fun hb=>?_,fun hb=>?_⟩
    · have h:=cond_t hb h
      exact lfe_of h
    · have h:=cond_f hb h
      exact lfe_of h
  · have h:=cond_f hb h
    exact lfe_of h
theorem s_slices_Equal_api_Pair_api_Pair_L0 (d:Nat) {a0:List api_Pair} {a1:List api_Pair} {s3:Int} {r:Unit ⊕ Unit} (h:slices_Equal_api_Pair_api_Pair_L0 a0 a1 s3=some r):RunX (bloop (bexec (wcalls atab (d+0)) KK 26 WB108_0) [0,1,12,13] KK) 0 (inL [0,1,12,13] (st_slices_Equal_api_Pair_api_Pair_L0 a0 a1 s3)) (fin_slices_Equal_api_Pair_api_Pair_L0 a0 a1 r) :=
  loop_of (st:=st_slices_Equal_api_Pair_api_Pair_L0 a0 a1) (fin:=fin_slices_Equal_api_Pair_api_Pair_L0 a0 a1) (step:=slices_Equal_api_Pair_api_Pair_L0_s a0 a1) (fun e=>by rcases e with e | e <;> (intro h; cases h)) (fun s x h=>b_slices_Equal_api_Pair_api_Pair_L0 d h) KK s3 r h
def slices_Equal_api_Pair_api_Pair (a0:List api_Pair) (a1:List api_Pair):Option (Bool) :=
  cond ((a0.length:Int) != (a1.length:Int)) (some false) ((slices_Equal_api_Pair_api_Pair_L0 a0 a1 0).bind fun (x6:Unit ⊕ Unit)=>cond (isL x6) (some false) (some true))
def out_slices_Equal_api_Pair_api_Pair (a0:List api_Pair) (a1:List api_Pair) (r:Bool):AV × WH:=((.bool r),[])
theorem s_slices_Equal_api_Pair_api_Pair (d:Nat) {a0:List api_Pair} {a1:List api_Pair} {r:Bool} (h:slices_Equal_api_Pair_api_Pair a0 a1=some r):Spec (wcalls atab (d+1)) 108 [(l_api_Pair a0),(l_api_Pair a1)] [] (out_slices_Equal_api_Pair_api_Pair a0 a1 r).1 (out_slices_Equal_api_Pair_api_Pair a0 a1 r).2:=by
  obtain ⟨x6,hx6⟩:=wx (slices_Equal_api_Pair_api_Pair_L0 a0 a1 0)
  have e:∀ C:ACalls,wBody C (fun _=>none) KK WF108 [(l_api_Pair a0),(l_api_Pair a1)] [] (.br 10 (.fin (some false) [] none) (.ite (isL x6) (.lp [none,none,none,none] [] [.slice none 2 0 0 true,.slice none 2 0 0 true,.undef,.undef] .ret [(4,(.bool false))] [] (.fin (some false) [] none)) (.lp [none,none,none,none] [] [.slice none 2 0 0 true,.slice none 2 0 0 true,.undef,.undef] (.exit 0) [] [] (.fin (some false) [] none)))) (out_slices_Equal_api_Pair_api_Pair a0 a1 r).1 (out_slices_Equal_api_Pair_api_Pair a0 a1 r).2=(2=2∧2≤26∧((((a0.length:Int) != (a1.length:Int))=true→lff (out_slices_Equal_api_Pair_api_Pair a0 a1) false r)∧(((a0.length:Int) != (a1.length:Int))=false→(((isL x6)=true→(RunS (bloop (bexec C KK 26 WB108_0) [0,1,12,13] KK) 0 [(0,(l_api_Pair a0)),(1,(l_api_Pair a1)),(12,(.int .i64 (a0.length:Int))),(13,(.int .i64 0))] [] .ret [(4,(.bool false))] []∧lff (out_slices_Equal_api_Pair_api_Pair a0 a1) false r))∧((isL x6)=false→(RunS (bloop (bexec C KK 26 WB108_0) [0,1,12,13] KK) 0 [(0,(l_api_Pair a0)),(1,(l_api_Pair a1)),(12,(.int .i64 (a0.length:Int))),(13,(.int .i64 0))] [] (.exit 0) [] []∧lff (out_slices_Equal_api_Pair_api_Pair a0 a1) true r)))))):=fun C=>by kernel_rfl
  refine spec_of (fun _ _ h=>by cases h) rfl atab_108 WF108_ok ((e _).mpr ⟨rfl,by decide, ?_⟩)
  unfold slices_Equal_api_Pair_api_Pair at h
  refine ⟨fun hb=>?_,fun hb=>?_⟩
  · have h:=cond_t hb h
    exact lff_of h
  · have h:=cond_f hb h
    obtain ⟨q6,h⟩:=bget hx6 h
    refine ⟨fun hb7=>?_,fun hb7=>?_⟩
    · have h:=cond_t hb7 h
      refine ⟨by have h:=s_slices_Equal_api_Pair_api_Pair_L0 (d+0) q6; rw [isL_t hb7] at h; exact h, ?_⟩
      exact lff_of h
    · have h:=cond_f hb7 h
      refine ⟨by have h:=s_slices_Equal_api_Pair_api_Pair_L0 (d+0) q6; rw [isL_f hb7] at h; exact h, ?_⟩
      exact lff_of h
def st_slices_Equal_api_Sess_api_Sess_L0 (a0:List api_Sess) (a1:List api_Sess) (s3:Int):List AV × WH:=([(l_api_Sess a0),(l_api_Sess a1),(.int .i64 (a0.length:Int)),(.int .i64 s3)],[])
def fin_slices_Equal_api_Sess_api_Sess_L0 (a0:List api_Sess) (a1:List api_Sess):Unit ⊕ Unit→Ex × Fast × WH:=fun
  | .inl e=>(.ret,[(4,(.bool false))],[])
  | .inr e=>((.exit 0),[],[])
abbrev rx_slices_Equal_api_Sess_api_Sess_L0 (a0:List api_Sess) (a1:List api_Sess):=roundX [0,1,12,13] (st_slices_Equal_api_Sess_api_Sess_L0 a0 a1) (fin_slices_Equal_api_Sess_api_Sess_L0 a0 a1)
def slices_Equal_api_Sess_api_Sess_L0_s (a0:List api_Sess) (a1:List api_Sess) (s3:Int):Option ((Int) ⊕ (Unit ⊕ Unit)) :=
  cond (decide (s3 < (a0.length:Int))) ((getI a0 s3).bind fun (x4:api_Sess)=>(getI a1 s3).bind fun (x5:api_Sess)=>cond (!(x4.Client == x5.Client && (x4.Seq == x5.Seq && (x4.Answer.Why == x5.Answer.Why && (x4.Answer.Value == x5.Answer.Value && true))))) (some (.inr (.inl ()))) (some (.inl (IntKind.i64.wrap (s3+1))))) (some (.inr (.inr ())))
def slices_Equal_api_Sess_api_Sess_L0 (a0:List api_Sess) (a1:List api_Sess) (s3:Int):Option (Unit ⊕ Unit):=loopX (slices_Equal_api_Sess_api_Sess_L0_s a0 a1) KK s3
theorem b_slices_Equal_api_Sess_api_Sess_L0 (d:Nat) {a0:List api_Sess} {a1:List api_Sess} {s3:Int} {r:(Int) ⊕ (Unit ⊕ Unit)} (h:slices_Equal_api_Sess_api_Sess_L0_s a0 a1 s3=some r):RunX (bexec (wcalls atab (d+0)) KK 26 WB109_0) 0 (inL [0,1,12,13] (st_slices_Equal_api_Sess_api_Sess_L0 a0 a1 s3)) (rx_slices_Equal_api_Sess_api_Sess_L0 a0 a1 r):=by
  obtain ⟨x4,hx4⟩:=wx (getI a0 s3)
  obtain ⟨x5,hx5⟩:=wx (getI a1 s3)
  have e:∀ C:ACalls,wCode C (fun _=>none) KK 26 0 WB109_0 (inL [0,1,12,13] (st_slices_Equal_api_Sess_api_Sess_L0 a0 a1 s3)).1 (inL [0,1,12,13] (st_slices_Equal_api_Sess_api_Sess_L0 a0 a1 s3)).2 (.br 14 (.v 18 (.elem ((e_api_Sess x4) ++ F_api_Sess (a0.drop (s3.toNat+1)))) (.v 22 (.elem ((e_api_Sess x5) ++ F_api_Sess (a1.drop (s3.toNat+1)))) (.br 24 (.en [4] [none] [] []) (.en [0,1,12,13] [none,none,none,none] [] [.slice none 4 0 0 true,.slice none 4 0 0 true,.undef,.undef])))) (.en [] [] [] [])) (rx_slices_Equal_api_Sess_api_Sess_L0 a0 a1 r)=(((decide (s3 < (a0.length:Int)))=true→(wP (.idxSlice 4 (.c (l_api_Sess a0)) (.c (.int .i64 s3)))=some (.elem ((e_api_Sess x4) ++ F_api_Sess (a0.drop (s3.toNat+1))))∧(wP (.idxSlice 4 (.c (l_api_Sess a1)) (.c (.int .i64 s3)))=some (.elem ((e_api_Sess x5) ++ F_api_Sess (a1.drop (s3.toNat+1))))∧(((!(x4.Client == x5.Client && (x4.Seq == x5.Seq && (x4.Answer.Why == x5.Answer.Why && (x4.Answer.Value == x5.Answer.Value && true)))))=true→lfe (rx_slices_Equal_api_Sess_api_Sess_L0 a0 a1) (.inr (.inl ())) r)∧((!(x4.Client == x5.Client && (x4.Seq == x5.Seq && (x4.Answer.Why == x5.Answer.Why && (x4.Answer.Value == x5.Answer.Value && true)))))=false→lfe (rx_slices_Equal_api_Sess_api_Sess_L0 a0 a1) (.inl (IntKind.i64.wrap (s3+1))) r)))))∧((decide (s3 < (a0.length:Int)))=false→lfe (rx_slices_Equal_api_Sess_api_Sess_L0 a0 a1) (.inr (.inr ())) r)):=fun C=>by kernel_rfl
  refine runS_of (fun _ _ h=>by cases h) WB109_0_ok (Nat.le_of_ble_eq_true rfl) ((e _).mpr ?_)
  unfold slices_Equal_api_Sess_api_Sess_L0_s at h
  refine ⟨fun hb=>?_,fun hb=>?_⟩
  · have h:=cond_t hb h
    obtain ⟨q4,h⟩:=bget hx4 h
    refine ⟨wP_idx R_api_Sess q4, ?_⟩
    obtain ⟨q5,h⟩:=bget hx5 h
    refine ⟨wP_idx R_api_Sess q5, ?_⟩
    refine ⟨fun hb=>?_,fun hb=>?_⟩
    · have h:=cond_t hb h
      exact lfe_of h
    · have h:=cond_f hb h
      exact lfe_of h
  · have h:=cond_f hb h
    exact lfe_of h
theorem s_slices_Equal_api_Sess_api_Sess_L0 (d:Nat) {a0:List api_Sess} {a1:List api_Sess} {s3:Int} {r:Unit ⊕ Unit} (h:slices_Equal_api_Sess_api_Sess_L0 a0 a1 s3=some r):RunX (bloop (bexec (wcalls atab (d+0)) KK 26 WB109_0) [0,1,12,13] KK) 0 (inL [0,1,12,13] (st_slices_Equal_api_Sess_api_Sess_L0 a0 a1 s3)) (fin_slices_Equal_api_Sess_api_Sess_L0 a0 a1 r) :=
  loop_of (st:=st_slices_Equal_api_Sess_api_Sess_L0 a0 a1) (fin:=fin_slices_Equal_api_Sess_api_Sess_L0 a0 a1) (step:=slices_Equal_api_Sess_api_Sess_L0_s a0 a1) (fun e=>by rcases e with e | e <;> (intro h; cases h)) (fun s x h=>b_slices_Equal_api_Sess_api_Sess_L0 d h) KK s3 r h
def slices_Equal_api_Sess_api_Sess (a0:List api_Sess) (a1:List api_Sess):Option (Bool) :=
  cond ((a0.length:Int) != (a1.length:Int)) (some false) ((slices_Equal_api_Sess_api_Sess_L0 a0 a1 0).bind fun (x6:Unit ⊕ Unit)=>cond (isL x6) (some false) (some true))
def out_slices_Equal_api_Sess_api_Sess (a0:List api_Sess) (a1:List api_Sess) (r:Bool):AV × WH:=((.bool r),[])
theorem s_slices_Equal_api_Sess_api_Sess (d:Nat) {a0:List api_Sess} {a1:List api_Sess} {r:Bool} (h:slices_Equal_api_Sess_api_Sess a0 a1=some r):Spec (wcalls atab (d+1)) 109 [(l_api_Sess a0),(l_api_Sess a1)] [] (out_slices_Equal_api_Sess_api_Sess a0 a1 r).1 (out_slices_Equal_api_Sess_api_Sess a0 a1 r).2:=by
  obtain ⟨x6,hx6⟩:=wx (slices_Equal_api_Sess_api_Sess_L0 a0 a1 0)
  have e:∀ C:ACalls,wBody C (fun _=>none) KK WF109 [(l_api_Sess a0),(l_api_Sess a1)] [] (.br 10 (.fin (some false) [] none) (.ite (isL x6) (.lp [none,none,none,none] [] [.slice none 4 0 0 true,.slice none 4 0 0 true,.undef,.undef] .ret [(4,(.bool false))] [] (.fin (some false) [] none)) (.lp [none,none,none,none] [] [.slice none 4 0 0 true,.slice none 4 0 0 true,.undef,.undef] (.exit 0) [] [] (.fin (some false) [] none)))) (out_slices_Equal_api_Sess_api_Sess a0 a1 r).1 (out_slices_Equal_api_Sess_api_Sess a0 a1 r).2=(2=2∧2≤26∧((((a0.length:Int) != (a1.length:Int))=true→lff (out_slices_Equal_api_Sess_api_Sess a0 a1) false r)∧(((a0.length:Int) != (a1.length:Int))=false→(((isL x6)=true→(RunS (bloop (bexec C KK 26 WB109_0) [0,1,12,13] KK) 0 [(0,(l_api_Sess a0)),(1,(l_api_Sess a1)),(12,(.int .i64 (a0.length:Int))),(13,(.int .i64 0))] [] .ret [(4,(.bool false))] []∧lff (out_slices_Equal_api_Sess_api_Sess a0 a1) false r))∧((isL x6)=false→(RunS (bloop (bexec C KK 26 WB109_0) [0,1,12,13] KK) 0 [(0,(l_api_Sess a0)),(1,(l_api_Sess a1)),(12,(.int .i64 (a0.length:Int))),(13,(.int .i64 0))] [] (.exit 0) [] []∧lff (out_slices_Equal_api_Sess_api_Sess a0 a1) true r)))))):=fun C=>by kernel_rfl
  refine spec_of (fun _ _ h=>by cases h) rfl atab_109 WF109_ok ((e _).mpr ⟨rfl,by decide, ?_⟩)
  unfold slices_Equal_api_Sess_api_Sess at h
  refine ⟨fun hb=>?_,fun hb=>?_⟩
  · have h:=cond_t hb h
    exact lff_of h
  · have h:=cond_f hb h
    obtain ⟨q6,h⟩:=bget hx6 h
    refine ⟨fun hb7=>?_,fun hb7=>?_⟩
    · have h:=cond_t hb7 h
      refine ⟨by have h:=s_slices_Equal_api_Sess_api_Sess_L0 (d+0) q6; rw [isL_t hb7] at h; exact h, ?_⟩
      exact lff_of h
    · have h:=cond_f hb7 h
      refine ⟨by have h:=s_slices_Equal_api_Sess_api_Sess_L0 (d+0) q6; rw [isL_f hb7] at h; exact h, ?_⟩
      exact lff_of h
def st_oR_Sessions_Last_2_L0 (p_b1:List api_Sess) (client:Int) (s3:Int):List AV × WH:=([(.ptr (some (0,0))),(.int .i64 client),(.ptr (some (2,0))),(.int .i64 s3)],[(some (.cells [(.acc 1 0 4 p_b1.length true)] false false)),(some (.cells (F_api_Sess p_b1) false true)),(some (.cells (e_api_Sess (⟨0,0,(⟨0,([]:List UInt8)⟩:api_Answer)⟩:api_Sess)) false false))])
def fin_oR_Sessions_Last_2_L0 (p_b1:List api_Sess) (client:Int):api_Sess ⊕ Unit→Ex × Fast × WH:=fun
  | .inl e=>(.ret,[(4,(.ptr (some (2,0)))),(5,(.bool true))],[(some (.cells [(.acc 1 0 4 p_b1.length true)] false false)),(some (.cells (F_api_Sess p_b1) false true)),(some (.cells (e_api_Sess e) false false))])
  | .inr e=>((.exit 0),[(4,(.ptr (some (2,0))))],[(some (.cells [(.acc 1 0 4 p_b1.length true)] false false)),(some (.cells (F_api_Sess p_b1) false true)),(some (.cells (e_api_Sess (⟨0,0,(⟨0,([]:List UInt8)⟩:api_Answer)⟩:api_Sess)) false false))])
abbrev rx_oR_Sessions_Last_2_L0 (p_b1:List api_Sess) (client:Int):=roundX [0,1,4,6] (st_oR_Sessions_Last_2_L0 p_b1 client) (fin_oR_Sessions_Last_2_L0 p_b1 client)
def oR_Sessions_Last_2_L0_s (p_b1:List api_Sess) (client:Int) (s3:Int):Option ((Int) ⊕ (api_Sess ⊕ Unit)) :=
  cond (decide (s3 < (p_b1.length:Int))) ((getI p_b1 s3).bind fun (x4:api_Sess)=>cond (x4.Client == client) ((getI p_b1 s3).bind fun (x5:api_Sess)=>some (.inr (.inl x5))) (some (.inl (IntKind.i64.wrap (s3+1))))) (some (.inr (.inr ())))
def oR_Sessions_Last_2_L0 (p_b1:List api_Sess) (client:Int) (s3:Int):Option (api_Sess ⊕ Unit):=loopX (oR_Sessions_Last_2_L0_s p_b1 client) KK s3
theorem b_oR_Sessions_Last_2_L0 (d:Nat) {p_b1:List api_Sess} {client:Int} {s3:Int} {r:(Int) ⊕ (api_Sess ⊕ Unit)} (h:oR_Sessions_Last_2_L0_s p_b1 client s3=some r):RunX (bexec (wcalls atab (d+0)) KK 34 WB115_0) 2 (inL [0,1,4,6] (st_oR_Sessions_Last_2_L0 p_b1 client s3)) (rx_oR_Sessions_Last_2_L0 p_b1 client r):=by
  obtain ⟨x4,hx4⟩:=wx (getI p_b1 s3)
  obtain ⟨x5,hx5⟩:=wx (getI p_b1 s3)
  have e:∀ C:ACalls,wCode C (fun _=>none) KK 34 2 WB115_0 (inL [0,1,4,6] (st_oR_Sessions_Last_2_L0 p_b1 client s3)).1 (inL [0,1,4,6] (st_oR_Sessions_Last_2_L0 p_b1 client s3)).2 (.br 13 (.v 21 (.ptr (some (1,0+s3.toNat * 4))) (.v 23 (.int .i64 x4.Client) (.br 25 (.v 31 (.ptr (some (1,0+s3.toNat * 4))) (.v 32 (.agg (e_api_Sess x5)) (.st none (.en [4,5] [none,none] [] [])))) (.en [0,1,4,6] [none,none,none,none] [] [])))) (.en [4] [none] [] [])) (rx_oR_Sessions_Last_2_L0 p_b1 client r)=(((decide (s3 < (p_b1.length:Int)))=true→(wP (.idxSlice 4 (.c (.acc 1 0 4 p_b1.length true)) (.c (.int .i64 s3)))=some (.ptr (some (1,0+s3.toNat * 4)))∧(cPart false (0+s3.toNat * 4) 1 (F_api_Sess p_b1)=some (.int .i64 x4.Client)∧(((x4.Client == client)=true→(wP (.idxSlice 4 (.c (.acc 1 0 4 p_b1.length true)) (.c (.int .i64 s3)))=some (.ptr (some (1,0+s3.toNat * 4)))∧(cPart true (0+s3.toNat * 4) 4 (F_api_Sess p_b1)=some (.agg (e_api_Sess x5))∧lfe (rx_oR_Sessions_Last_2_L0 p_b1 client) (.inr (.inl x5)) r)))∧((x4.Client == client)=false→lfe (rx_oR_Sessions_Last_2_L0 p_b1 client) (.inl (IntKind.i64.wrap (s3+1))) r)))))∧((decide (s3 < (p_b1.length:Int)))=false→lfe (rx_oR_Sessions_Last_2_L0 p_b1 client) (.inr (.inr ())) r)):=fun C=>by kernel_rfl
  refine runS_of (fun _ _ h=>by cases h) WB115_0_ok (Nat.le_of_ble_eq_true rfl) ((e _).mpr ?_)
  unfold oR_Sessions_Last_2_L0_s at h
  refine ⟨fun hb=>?_,fun hb=>?_⟩
  · have h:=cond_t hb h
    obtain ⟨q4,h⟩:=bget hx4 h
    refine ⟨wP_idxA R_api_Sess q4, ?_⟩
    refine ⟨cP_row (o:=0) R_api_Sess q4 rfl, ?_⟩
    refine ⟨fun hb=>?_,fun hb=>?_⟩
    · have h:=cond_t hb h
      obtain ⟨q5,h⟩:=bget hx5 h
      refine ⟨wP_idxA R_api_Sess q5, ?_⟩
      refine ⟨cP_row (o:=0) R_api_Sess q5 rfl, ?_⟩
      exact lfe_of h
    · have h:=cond_f hb h
      exact lfe_of h
  · have h:=cond_f hb h
    exact lfe_of h
theorem s_oR_Sessions_Last_2_L0 (d:Nat) {p_b1:List api_Sess} {client:Int} {s3:Int} {r:api_Sess ⊕ Unit} (h:oR_Sessions_Last_2_L0 p_b1 client s3=some r):RunX (bloop (bexec (wcalls atab (d+0)) KK 34 WB115_0) [0,1,4,6] KK) 2 (inL [0,1,4,6] (st_oR_Sessions_Last_2_L0 p_b1 client s3)) (fin_oR_Sessions_Last_2_L0 p_b1 client r) :=
  loop_of (st:=st_oR_Sessions_Last_2_L0 p_b1 client) (fin:=fin_oR_Sessions_Last_2_L0 p_b1 client) (step:=oR_Sessions_Last_2_L0_s p_b1 client) (fun e=>by rcases e with e | e <;> (intro h; cases h)) (fun s x h=>b_oR_Sessions_Last_2_L0 d h) KK s3 r h
def oR_Sessions_Last_2 (client:Int) (p_b1:List api_Sess):Option (api_Sess × Bool) :=
  (oR_Sessions_Last_2_L0 p_b1 client 0).bind fun (x6:api_Sess ⊕ Unit)=>cond (isL x6) (some ((getL x6),true)) (some ((⟨0,0,(⟨0,([]:List UInt8)⟩:api_Answer)⟩:api_Sess),false))
def out_oR_Sessions_Last_2 (client:Int) (p_b1:List api_Sess) (r:api_Sess × Bool):AV × WH:=((.tuple [(.agg (e_api_Sess r.1)),(.bool r.2)]),[(some (.cells [(.acc 1 0 4 p_b1.length true)] false false)),(some (.cells (F_api_Sess p_b1) false true))])
theorem s_oR_Sessions_Last_2 (d:Nat) {client:Int} {p_b1:List api_Sess} {r:api_Sess × Bool} (h:oR_Sessions_Last_2 client p_b1=some r):Spec (wcalls atab (d+1)) 115 [(.ptr (some (0,0))),(.int .i64 client)] [(some (.cells [(.acc 1 0 4 p_b1.length true)] false false)),(some (.cells (F_api_Sess p_b1) false true))] (out_oR_Sessions_Last_2 client p_b1 r).1 (out_oR_Sessions_Last_2 client p_b1 r).2:=by
  obtain ⟨x6,hx6⟩:=wx (oR_Sessions_Last_2_L0 p_b1 client 0)
  have e:∀ C:ACalls,wBody C (fun _=>none) KK WF115 [(.ptr (some (0,0))),(.int .i64 client)] [(some (.cells [(.acc 1 0 4 p_b1.length true)] false false)),(some (.cells (F_api_Sess p_b1) false true))] (.ite (isL x6) (.lp [none,none,none,none] [] [] .ret [(4,(.ptr (some (2,0)))),(5,(.bool true))] [(some (.cells [(.acc 1 0 4 p_b1.length true)] false false)),(some (.cells (F_api_Sess p_b1) false true)),(some (.cells (e_api_Sess (getL x6)) false false))] (.fin (some false) [] none)) (.lp [none,none,none,none] [] [] (.exit 0) [(4,(.ptr (some (2,0))))] [(some (.cells [(.acc 1 0 4 p_b1.length true)] false false)),(some (.cells (F_api_Sess p_b1) false true)),(some (.cells (e_api_Sess (⟨0,0,(⟨0,([]:List UInt8)⟩:api_Answer)⟩:api_Sess)) false false))] (.st none (.fin (some false) [] none)))) (out_oR_Sessions_Last_2 client p_b1 r).1 (out_oR_Sessions_Last_2 client p_b1 r).2=(2=2∧2≤34∧(((isL x6)=true→(RunS (bloop (bexec C KK 34 WB115_0) [0,1,4,6] KK) 2 [(0,(.ptr (some (0,0)))),(1,(.int .i64 client)),(4,(.ptr (some (2,0)))),(6,(.int .i64 0))] [(some (.cells [(.acc 1 0 4 p_b1.length true)] false false)),(some (.cells (F_api_Sess p_b1) false true)),(some (.cells (e_api_Sess (⟨0,0,(⟨0,([]:List UInt8)⟩:api_Answer)⟩:api_Sess)) false false))] .ret [(4,(.ptr (some (2,0)))),(5,(.bool true))] [(some (.cells [(.acc 1 0 4 p_b1.length true)] false false)),(some (.cells (F_api_Sess p_b1) false true)),(some (.cells (e_api_Sess (getL x6)) false false))]∧lff (out_oR_Sessions_Last_2 client p_b1) ((getL x6),true) r))∧((isL x6)=false→(RunS (bloop (bexec C KK 34 WB115_0) [0,1,4,6] KK) 2 [(0,(.ptr (some (0,0)))),(1,(.int .i64 client)),(4,(.ptr (some (2,0)))),(6,(.int .i64 0))] [(some (.cells [(.acc 1 0 4 p_b1.length true)] false false)),(some (.cells (F_api_Sess p_b1) false true)),(some (.cells (e_api_Sess (⟨0,0,(⟨0,([]:List UInt8)⟩:api_Answer)⟩:api_Sess)) false false))] (.exit 0) [(4,(.ptr (some (2,0))))] [(some (.cells [(.acc 1 0 4 p_b1.length true)] false false)),(some (.cells (F_api_Sess p_b1) false true)),(some (.cells (e_api_Sess (⟨0,0,(⟨0,([]:List UInt8)⟩:api_Answer)⟩:api_Sess)) false false))]∧lff (out_oR_Sessions_Last_2 client p_b1) ((⟨0,0,(⟨0,([]:List UInt8)⟩:api_Answer)⟩:api_Sess),false) r)))):=fun C=>by kernel_rfl
  refine spec_of (fun _ _ h=>by cases h) rfl atab_115 WF115_ok ((e _).mpr ⟨rfl,by decide, ?_⟩)
  unfold oR_Sessions_Last_2 at h
  obtain ⟨q6,h⟩:=bget hx6 h
  refine ⟨fun hb7=>?_,fun hb7=>?_⟩
  · have h:=cond_t hb7 h
    refine ⟨by have h:=s_oR_Sessions_Last_2_L0 (d+0) q6; rw [isL_t hb7] at h; exact h, ?_⟩
    exact lff_of h
  · have h:=cond_f hb7 h
    refine ⟨by have h:=s_oR_Sessions_Last_2_L0 (d+0) q6; rw [isL_f hb7] at h; exact h, ?_⟩
    exact lff_of h
end Go.Proofs.Ytachollgbplikaa
