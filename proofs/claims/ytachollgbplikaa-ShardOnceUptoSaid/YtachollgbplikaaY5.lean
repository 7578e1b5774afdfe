import Derived.Test.YtachollgbplikaaXt
import Derived.Test.YtachollgbplikaaXs
import Derived.Test.YtachollgbplikaaY4
set_option linter.all false
set_option maxRecDepth 100000
namespace Go.Proofs.Ytachollgbplikaa
abbrev in_oR_Sessions_Note_3_J0 (p_x:api_Sess) (x1:api_Sess × Bool) (p_s:oR_Shard):Fast × WH:=([(0,(.ptr (some (0,1)))),(3,(.ptr (some (1,0)))),(5,(.ptr (some (2,0))))],[(some (.cells (e_oR_Shard p_s) false false)),(some (.cells (e_api_Sess p_x) false false)),(some (.cells (e_api_Sess x1.1) false false))])
def fin_oR_Sessions_Note_3_J0 (p_x:api_Sess) (x1:api_Sess × Bool) (p_s:oR_Shard):Unit ⊕ Unit→Ex × Fast × WH:=fun
  | .inl e=>(.ret,[(4,(.bool false))],[(some (.cells (e_oR_Shard p_s) false false))])
  | .inr e=>(.normal,[(0,(.ptr (some (0,1)))),(3,(.ptr (some (1,0))))],[(some (.cells (e_oR_Shard p_s) false false)),(some (.cells (e_api_Sess p_x) false false))])
def oR_Sessions_Note_3_J0 (p_x:api_Sess) (x1:api_Sess × Bool) (p_s:oR_Shard):Option (Unit ⊕ Unit) :=
  cond (decide (p_x.Client < 0)) (some (.inl ())) (cond (decide (p_x.Client ≥ 4)) (some (.inl ())) (cond (decide (p_x.Seq < 1)) (some (.inl ())) (cond (decide (p_x.Seq≤x1.1.Seq)) (some (.inl ())) (some (.inr ())))))
theorem s_oR_Sessions_Note_3_J0 (d:Nat) {p_x:api_Sess} {x1:api_Sess × Bool} {p_s:oR_Shard} {r:Unit ⊕ Unit} (h:oR_Sessions_Note_3_J0 p_x x1 p_s=some r):RunX (bexec (wcalls atab (d+0)) KK 96 WJ116_bba) 1 (in_oR_Sessions_Note_3_J0 p_x x1 p_s) (fin_oR_Sessions_Note_3_J0 p_x x1 p_s r):=by
  have e:∀ C:ACalls,wCode C (fun _=>none) KK 96 1 WJ116_bba (in_oR_Sessions_Note_3_J0 p_x x1 p_s).1 (in_oR_Sessions_Note_3_J0 p_x x1 p_s).2 (.br 20 (.en [4] [none] [] []) (.br 25 (.en [4] [none] [] []) (.br 30 (.en [4] [none] [] []) (.br 36 (.en [4] [none] [] []) (.en [0,3] [none,none] [] []))))) (fin_oR_Sessions_Note_3_J0 p_x x1 p_s r)=(((decide (p_x.Client < 0))=true→lfe (fin_oR_Sessions_Note_3_J0 p_x x1 p_s) (.inl ()) r)∧((decide (p_x.Client < 0))=false→(((decide (p_x.Client ≥ 4))=true→lfe (fin_oR_Sessions_Note_3_J0 p_x x1 p_s) (.inl ()) r)∧((decide (p_x.Client ≥ 4))=false→(((decide (p_x.Seq < 1))=true→lfe (fin_oR_Sessions_Note_3_J0 p_x x1 p_s) (.inl ()) r)∧((decide (p_x.Seq < 1))=false→(((decide (p_x.Seq≤x1.1.Seq))=true→lfe (fin_oR_Sessions_Note_3_J0 p_x x1 p_s) (.inl ()) r)∧((decide (p_x.Seq≤x1.1.Seq))=false→lfe (fin_oR_Sessions_Note_3_J0 p_x x1 p_s) (.inr ()) r)))))))):=fun C=>by kernel_rfl
  refine runS_of (fun _ _ h=>by cases h) WJ116_bba_ok (Nat.le_of_ble_eq_true rfl) ((e _).mpr ?_)
  unfold oR_Sessions_Note_3_J0 at h
  refine ⟨fun hb=>?_,fun hb=>?_⟩
  · have h:=cond_t hb h
    exact lfe_of h
  · have h:=cond_f hb h
    refine ⟨fun hb=>?_,fun hb=>?_⟩
    · have h:=cond_t hb h
      exact lfe_of h
    · have h:=cond_f hb h
      refine ⟨fun hb=>?_,fun hb=>?_⟩
      · have h:=cond_t hb h
        exact lfe_of h
      · have h:=cond_f hb h
        refine ⟨fun hb=>?_,fun hb=>?_⟩
        · have h:=cond_t hb h
          exact lfe_of h
        · have h:=cond_f hb h
          exact lfe_of h
abbrev in_oR_Sessions_Note_3_J1 (s18:Bool × Int × List api_Sess) (p_s:oR_Shard) (p_x:api_Sess):Fast × WH:=([(0,(.ptr (some (0,1)))),(3,(.ptr (some (1,0)))),(7,(.acc 2 0 4 s18.2.2.length true)),(8,(.bool s18.1)),(9,(.int .i64 s18.2.1))],[(some (.cells (e_oR_Shard p_s) false false)),(some (.cells (e_api_Sess p_x) false false)),(some (.cells (F_api_Sess s18.2.2) false true))])
def fin_oR_Sessions_Note_3_J1 (s18:Bool × Int × List api_Sess) (p_s:oR_Shard) (p_x:api_Sess):Bool→Ex × Fast × WH:=fun e=>(.normal,[(0,(.ptr (some (0,1)))),(3,(.ptr (some (1,0)))),(7,(.acc 2 0 4 s18.2.2.length true)),(8,(.bool s18.1)),(9,(.int .i64 s18.2.1)),(60,(.bool e))],[(some (.cells (e_oR_Shard p_s) false false)),(some (.cells (e_api_Sess p_x) false false)),(some (.cells (F_api_Sess s18.2.2) false true))])
def oR_Sessions_Note_3_J1 (s18:Bool × Int × List api_Sess) (p_s:oR_Shard) (p_x:api_Sess):Option (Bool) :=
  cond (!s18.1) ((getI p_s.S_.L s18.2.1).bind fun (x19:api_Sess)=>some (decide (x19.Client ≥ p_x.Client))) (some false)
theorem s_oR_Sessions_Note_3_J1 (d:Nat) {s18:Bool × Int × List api_Sess} {p_s:oR_Shard} {p_x:api_Sess} {r:Bool} (h:oR_Sessions_Note_3_J1 s18 p_s p_x=some r):RunX (bexec (wcalls atab (d+0)) KK 96 WJ116_bbbbbabklbakaa) 1 (in_oR_Sessions_Note_3_J1 s18 p_s p_x) (fin_oR_Sessions_Note_3_J1 s18 p_s p_x r):=by
  obtain ⟨x19,hx19⟩:=wx (getI p_s.S_.L s18.2.1)
  have e:∀ C:ACalls,wCode C (fun _=>none) KK 96 1 WJ116_bbbbbabklbakaa (in_oR_Sessions_Note_3_J1 s18 p_s p_x).1 (in_oR_Sessions_Note_3_J1 s18 p_s p_x).2 (.br 48 (.v 54 (.elem ((e_api_Sess x19) ++ F_api_Sess (p_s.S_.L.drop (s18.2.1.toNat+1)))) (.en [0,3,7,8,9,60] [none,none,none,none,none,none] [] [.undef,.undef,.slice none 4 0 0 true,.undef,.undef,.undef])) (.en [0,3,7,8,9,60] [none,none,none,none,none,none] [] [.undef,.undef,.slice none 4 0 0 true,.undef,.undef,.undef])) (fin_oR_Sessions_Note_3_J1 s18 p_s p_x r)=(((!s18.1)=true→(wP (.idxSlice 4 (.c (l_api_Sess p_s.S_.L)) (.c (.int .i64 s18.2.1)))=some (.elem ((e_api_Sess x19) ++ F_api_Sess (p_s.S_.L.drop (s18.2.1.toNat+1))))∧lfe (fin_oR_Sessions_Note_3_J1 s18 p_s p_x) (decide (x19.Client ≥ p_x.Client)) r))∧((!s18.1)=false→lfe (fin_oR_Sessions_Note_3_J1 s18 p_s p_x) false r)):=fun C=>by kernel_rfl
  refine runS_of (fun _ _ h=>by cases h) WJ116_bbbbbabklbakaa_ok (Nat.le_of_ble_eq_true rfl) ((e _).mpr ?_)
  unfold oR_Sessions_Note_3_J1 at h
  refine ⟨fun hb=>?_,fun hb=>?_⟩
  · have h:=cond_t hb h
    obtain ⟨q19,h⟩:=bget hx19 h
    refine ⟨wP_idx R_api_Sess q19, ?_⟩
    exact lfe_of h
  · have h:=cond_f hb h
    exact lfe_of h
abbrev in_oR_Sessions_Note_3_J2 (s18:Bool × Int × List api_Sess) (p_s:oR_Shard) (p_x:api_Sess):Fast × WH:=([(0,(.ptr (some (0,1)))),(3,(.ptr (some (1,0)))),(7,(.acc 2 0 4 s18.2.2.length true)),(8,(.bool s18.1)),(9,(.int .i64 s18.2.1))],[(some (.cells (e_oR_Shard p_s) false false)),(some (.cells (e_api_Sess p_x) false false)),(some (.cells (F_api_Sess s18.2.2) false true))])
def fin_oR_Sessions_Note_3_J2 (s18:Bool × Int × List api_Sess) (p_s:oR_Shard) (p_x:api_Sess):(Bool × List api_Sess)→Ex × Fast × WH:=fun e=>(.normal,[(0,(.ptr (some (0,1)))),(3,(.ptr (some (1,0)))),(7,(.acc 2 0 4 e.2.length true)),(8,(.bool e.1)),(9,(.int .i64 s18.2.1))],[(some (.cells (e_oR_Shard p_s) false false)),(some (.cells (e_api_Sess p_x) false false)),(some (.cells (F_api_Sess e.2) false true))])
def oR_Sessions_Note_3_J2 (s18:Bool × Int × List api_Sess) (p_s:oR_Shard) (p_x:api_Sess):Option ((Bool × List api_Sess)) :=
  (oR_Sessions_Note_3_J1 s18 p_s p_x).bind fun (x20:Bool)=>cond x20 (gd (fitsB 40 (s18.2.2 ++ [p_x]).length) (some (true,(s18.2.2 ++ [p_x])))) (some (s18.1,s18.2.2))
theorem s_oR_Sessions_Note_3_J2 (d:Nat) {s18:Bool × Int × List api_Sess} {p_s:oR_Shard} {p_x:api_Sess} {r:(Bool × List api_Sess)} (h:oR_Sessions_Note_3_J2 s18 p_s p_x=some r):RunX (bexec (wcalls atab (d+0)) KK 96 WJ116_bbbbbabklbaka) 1 (in_oR_Sessions_Note_3_J2 s18 p_s p_x) (fin_oR_Sessions_Note_3_J2 s18 p_s p_x r):=by
  obtain ⟨x20,hx20⟩:=wx (oR_Sessions_Note_3_J1 s18 p_s p_x)
  have e:∀ C:ACalls,wCode C (fun _=>none) KK 96 1 WJ116_bbbbbabklbaka (in_oR_Sessions_Note_3_J2 s18 p_s p_x).1 (in_oR_Sessions_Note_3_J2 s18 p_s p_x).2 (.jn [0,3,7,8,9] [none,none,none,none,none] [] [.undef,.undef,.slice none 4 0 0 true,.undef,.undef] .normal [(0,(.ptr (some (0,1)))),(3,(.ptr (some (1,0)))),(7,(.acc 2 0 4 s18.2.2.length true)),(8,(.bool s18.1)),(9,(.int .i64 s18.2.1)),(60,(.bool x20))] [(some (.cells (e_oR_Shard p_s) false false)),(some (.cells (e_api_Sess p_x) false false)),(some (.cells (F_api_Sess s18.2.2) false true))] (.br 60 (.ap 64 (s18.2.2 ++ [p_x]).length (F_api_Sess (s18.2.2 ++ [p_x])) (.en [0,3,7,8,9] [none,none,none,none,none] [] [.undef,.undef,.slice none 4 0 0 true,.undef,.undef])) (.en [0,3,7,8,9] [none,none,none,none,none] [] [.undef,.undef,.slice none 4 0 0 true,.undef,.undef]))) (fin_oR_Sessions_Note_3_J2 s18 p_s p_x r)=(RunS (bexec C KK 96 WJ116_bbbbbabklbakaa) 1 [(0,(.ptr (some (0,1)))),(3,(.ptr (some (1,0)))),(7,(.acc 2 0 4 s18.2.2.length true)),(8,(.bool s18.1)),(9,(.int .i64 s18.2.1))] [(some (.cells (e_oR_Shard p_s) false false)),(some (.cells (e_api_Sess p_x) false false)),(some (.cells (F_api_Sess s18.2.2) false true))] .normal [(0,(.ptr (some (0,1)))),(3,(.ptr (some (1,0)))),(7,(.acc 2 0 4 s18.2.2.length true)),(8,(.bool s18.1)),(9,(.int .i64 s18.2.1)),(60,(.bool x20))] [(some (.cells (e_oR_Shard p_s) false false)),(some (.cells (e_api_Sess p_x) false false)),(some (.cells (F_api_Sess s18.2.2) false true))]∧((x20=true→(s18.2.2.length+1=(s18.2.2 ++ [p_x]).length∧(F_api_Sess s18.2.2 ++ F_api_Sess [p_x]=F_api_Sess (s18.2.2 ++ [p_x])∧(fitsB 40 (s18.2.2 ++ [p_x]).length=true∧lfe (fin_oR_Sessions_Note_3_J2 s18 p_s p_x) (true,(s18.2.2 ++ [p_x])) r))))∧(x20=false→lfe (fin_oR_Sessions_Note_3_J2 s18 p_s p_x) (s18.1,s18.2.2) r))):=fun C=>by kernel_rfl
  refine runS_of (fun _ _ h=>by cases h) WJ116_bbbbbabklbaka_ok (Nat.le_of_ble_eq_true rfl) ((e _).mpr ?_)
  unfold oR_Sessions_Note_3_J2 at h
  obtain ⟨q20,h⟩:=bget hx20 h
  refine ⟨s_oR_Sessions_Note_3_J1 (d+0) q20, ?_⟩
  refine ⟨fun hb=>?_,fun hb=>?_⟩
  · have h:=cond_t hb h
    obtain ⟨q21,h⟩:=gd_some h
    refine ⟨by simp, ?_⟩
    refine ⟨(Row.app R_api_Sess _ _).symm, ?_⟩
    refine ⟨q21, ?_⟩
    exact lfe_of h
  · have h:=cond_f hb h
    exact lfe_of h
def st_oR_Sessions_Note_3_L3 (p_s:oR_Shard) (p_x:api_Sess) (s18:Bool × Int × List api_Sess):List AV × WH:=([(.ptr (some (0,1))),(.ptr (some (1,0))),(.acc 2 0 4 s18.2.2.length true),(.bool s18.1),(.int .i64 s18.2.1)],[(some (.cells (e_oR_Shard p_s) false false)),(some (.cells (e_api_Sess p_x) false false)),(some (.cells (F_api_Sess s18.2.2) false true))])
def fin_oR_Sessions_Note_3_L3 (p_s:oR_Shard) (p_x:api_Sess):(Bool × List api_Sess)→Ex × Fast × WH:=fun e=>((.exit 0),[(0,(.ptr (some (0,1)))),(3,(.ptr (some (1,0)))),(7,(.acc 2 0 4 e.2.length true)),(8,(.bool e.1))],[(some (.cells (e_oR_Shard p_s) false false)),(some (.cells (e_api_Sess p_x) false false)),(some (.cells (F_api_Sess e.2) false true))])
abbrev rx_oR_Sessions_Note_3_L3 (p_s:oR_Shard) (p_x:api_Sess):=roundX [0,3,7,8,9] (st_oR_Sessions_Note_3_L3 p_s p_x) (fin_oR_Sessions_Note_3_L3 p_s p_x)
def oR_Sessions_Note_3_L3_s (p_s:oR_Shard) (p_x:api_Sess) (s18:Bool × Int × List api_Sess):Option ((Bool × Int × List api_Sess) ⊕ ((Bool × List api_Sess))) :=
  cond (decide (s18.2.1 < (p_s.S_.L.length:Int))) ((oR_Sessions_Note_3_J2 s18 p_s p_x).bind fun (x22:(Bool × List api_Sess))=>(getI p_s.S_.L s18.2.1).bind fun (x23:api_Sess)=>cond (x23.Client != p_x.Client) ((getI p_s.S_.L s18.2.1).bind fun (x24:api_Sess)=>gd (fitsB 40 (x22.2 ++ [x24]).length) (some (.inl (x22.1,(IntKind.i64.wrap (s18.2.1+1)),(x22.2 ++ [x24]))))) (some (.inl (x22.1,(IntKind.i64.wrap (s18.2.1+1)),x22.2)))) (some (.inr (s18.1,s18.2.2)))
def oR_Sessions_Note_3_L3 (p_s:oR_Shard) (p_x:api_Sess) (s18:Bool × Int × List api_Sess):Option ((Bool × List api_Sess)):=loopX (oR_Sessions_Note_3_L3_s p_s p_x) KK s18
theorem b_oR_Sessions_Note_3_L3 (d:Nat) {p_s:oR_Shard} {p_x:api_Sess} {s18:Bool × Int × List api_Sess} {r:(Bool × Int × List api_Sess) ⊕ ((Bool × List api_Sess))} (h:oR_Sessions_Note_3_L3_s p_s p_x s18=some r):RunX (bexec (wcalls atab (d+0)) KK 96 WB116_0) 1 (inL [0,3,7,8,9] (st_oR_Sessions_Note_3_L3 p_s p_x s18)) (rx_oR_Sessions_Note_3_L3 p_s p_x r):=by
  obtain ⟨x22,hx22⟩:=wx (oR_Sessions_Note_3_J2 s18 p_s p_x)
  obtain ⟨x23,hx23⟩:=wx (getI p_s.S_.L s18.2.1)
  obtain ⟨x24,hx24⟩:=wx (getI p_s.S_.L s18.2.1)
  have e:∀ C:ACalls,wCode C (fun _=>none) KK 96 1 WB116_0 (inL [0,3,7,8,9] (st_oR_Sessions_Note_3_L3 p_s p_x s18)).1 (inL [0,3,7,8,9] (st_oR_Sessions_Note_3_L3 p_s p_x s18)).2 (.br 43 (.sk (.jn [0,3,7,8,9] [none,none,none,none,none] [] [.undef,.undef,.slice none 4 0 0 true,.undef,.undef] .normal [(0,(.ptr (some (0,1)))),(3,(.ptr (some (1,0)))),(7,(.acc 2 0 4 x22.2.length true)),(8,(.bool x22.1)),(9,(.int .i64 s18.2.1))] [(some (.cells (e_oR_Shard p_s) false false)),(some (.cells (e_api_Sess p_x) false false)),(some (.cells (F_api_Sess x22.2) false true))] (.v 70 (.elem ((e_api_Sess x23) ++ F_api_Sess (p_s.S_.L.drop (s18.2.1.toNat+1)))) (.br 75 (.v 82 (.elem ((e_api_Sess x24) ++ F_api_Sess (p_s.S_.L.drop (s18.2.1.toNat+1)))) (.ap 85 (x22.2 ++ [x24]).length (F_api_Sess (x22.2 ++ [x24])) (.en [0,3,7,8,9] [none,none,none,none,none] [] [.undef,.undef,.slice none 4 0 0 true,.undef,.undef]))) (.en [0,3,7,8,9] [none,none,none,none,none] [] [.undef,.undef,.slice none 4 0 0 true,.undef,.undef]))))) (.en [0,3,7,8] [none,none,none,none] [] [.undef,.undef,.slice none 4 0 0 true,.undef])) (rx_oR_Sessions_Note_3_L3 p_s p_x r)=(((decide (s18.2.1 < (p_s.S_.L.length:Int)))=true→(RunS (bexec C KK 96 WJ116_bbbbbabklbaka) 1 [(0,(.ptr (some (0,1)))),(3,(.ptr (some (1,0)))),(7,(.acc 2 0 4 s18.2.2.length true)),(8,(.bool s18.1)),(9,(.int .i64 s18.2.1))] [(some (.cells (e_oR_Shard p_s) false false)),(some (.cells (e_api_Sess p_x) false false)),(some (.cells (F_api_Sess s18.2.2) false true))] .normal [(0,(.ptr (some (0,1)))),(3,(.ptr (some (1,0)))),(7,(.acc 2 0 4 x22.2.length true)),(8,(.bool x22.1)),(9,(.int .i64 s18.2.1))] [(some (.cells (e_oR_Shard p_s) false false)),(some (.cells (e_api_Sess p_x) false false)),(some (.cells (F_api_Sess x22.2) false true))]∧(wP (.idxSlice 4 (.c (l_api_Sess p_s.S_.L)) (.c (.int .i64 s18.2.1)))=some (.elem ((e_api_Sess x23) ++ F_api_Sess (p_s.S_.L.drop (s18.2.1.toNat+1))))∧(((x23.Client != p_x.Client)=true→(wP (.idxSlice 4 (.c (l_api_Sess p_s.S_.L)) (.c (.int .i64 s18.2.1)))=some (.elem ((e_api_Sess x24) ++ F_api_Sess (p_s.S_.L.drop (s18.2.1.toNat+1))))∧(x22.2.length+1=(x22.2 ++ [x24]).length∧(F_api_Sess x22.2 ++ F_api_Sess [x24]=F_api_Sess (x22.2 ++ [x24])∧(fitsB 40 (x22.2 ++ [x24]).length=true∧lfe (rx_oR_Sessions_Note_3_L3 p_s p_x) (.inl (x22.1,(IntKind.i64.wrap (s18.2.1+1)),(x22.2 ++ [x24]))) r)))))∧((x23.Client != p_x.Client)=false→lfe (rx_oR_Sessions_Note_3_L3 p_s p_x) (.inl (x22.1,(IntKind.i64.wrap (s18.2.1+1)),x22.2)) r)))))∧((decide (s18.2.1 < (p_s.S_.L.length:Int)))=false→lfe (rx_oR_Sessions_Note_3_L3 p_s p_x) (.inr (s18.1,s18.2.2)) r)):=fun C=>by kernel_rfl
  refine runS_of (fun _ _ h=>by cases h) WB116_0_ok (Nat.le_of_ble_eq_true rfl) ((e _).mpr ?_)
  unfold oR_Sessions_Note_3_L3_s at h
  refine ⟨fun hb=>?_,fun hb=>?_⟩
  · have h:=cond_t hb h
    obtain ⟨q22,h⟩:=bget hx22 h
    refine ⟨s_oR_Sessions_Note_3_J2 (d+0) q22, ?_⟩
    obtain ⟨q23,h⟩:=bget hx23 h
    refine ⟨wP_idx R_api_Sess q23, ?_⟩
    refine ⟨fun hb=>?_,fun hb=>?_⟩
    · have h:=cond_t hb h
      obtain ⟨q24,h⟩:=bget hx24 h
      refine ⟨wP_idx R_api_Sess q24, ?_⟩
      obtain ⟨q25,h⟩:=gd_some h
      refine ⟨by simp, ?_⟩
      refine ⟨(Row.app R_api_Sess _ _).symm, ?_⟩
      refine ⟨q25, ?_⟩
      exact lfe_of h
    · have h:=cond_f hb h
      exact lfe_of h
  · have h:=cond_f hb h
    exact lfe_of h
theorem s_oR_Sessions_Note_3_L3 (d:Nat) {p_s:oR_Shard} {p_x:api_Sess} {s18:Bool × Int × List api_Sess} {r:(Bool × List api_Sess)} (h:oR_Sessions_Note_3_L3 p_s p_x s18=some r):RunX (bloop (bexec (wcalls atab (d+0)) KK 96 WB116_0) [0,3,7,8,9] KK) 1 (inL [0,3,7,8,9] (st_oR_Sessions_Note_3_L3 p_s p_x s18)) (fin_oR_Sessions_Note_3_L3 p_s p_x r) :=
  loop_of (st:=st_oR_Sessions_Note_3_L3 p_s p_x) (fin:=fin_oR_Sessions_Note_3_L3 p_s p_x) (step:=oR_Sessions_Note_3_L3_s p_s p_x) (fun e=>by (intro h; cases h)) (fun s x h=>b_oR_Sessions_Note_3_L3 d h) KK s18 r h
abbrev in_oR_Sessions_Note_3_J4 (x26:(Bool × List api_Sess)) (p_x:api_Sess) (p_s:oR_Shard):Fast × WH:=([(0,(.ptr (some (0,1)))),(3,(.ptr (some (1,0)))),(7,(.acc 2 0 4 x26.2.length true)),(8,(.bool x26.1))],[(some (.cells (e_oR_Shard p_s) false false)),(some (.cells (e_api_Sess p_x) false false)),(some (.cells (F_api_Sess x26.2) false true))])
def fin_oR_Sessions_Note_3_J4 (x26:(Bool × List api_Sess)) (p_x:api_Sess) (p_s:oR_Shard):(List api_Sess)→Ex × Fast × WH:=fun e=>(.normal,[(0,(.ptr (some (0,1)))),(7,(.acc 1 0 4 e.length true))],[(some (.cells (e_oR_Shard p_s) false false)),(some (.cells (F_api_Sess e) false true))])
def oR_Sessions_Note_3_J4 (x26:(Bool × List api_Sess)) (p_x:api_Sess) (p_s:oR_Shard):Option ((List api_Sess)) :=
  cond (!x26.1) (gd (fitsB 40 (x26.2 ++ [p_x]).length) (some (x26.2 ++ [p_x]))) (some x26.2)
theorem s_oR_Sessions_Note_3_J4 (d:Nat) {x26:(Bool × List api_Sess)} {p_x:api_Sess} {p_s:oR_Shard} {r:(List api_Sess)} (h:oR_Sessions_Note_3_J4 x26 p_x p_s=some r):RunX (bexec (wcalls atab (d+0)) KK 96 WJ116_bbbbbba) 1 (in_oR_Sessions_Note_3_J4 x26 p_x p_s) (fin_oR_Sessions_Note_3_J4 x26 p_x p_s r):=by
  have e:∀ C:ACalls,wCode C (fun _=>none) KK 96 1 WJ116_bbbbbba (in_oR_Sessions_Note_3_J4 x26 p_x p_s).1 (in_oR_Sessions_Note_3_J4 x26 p_x p_s).2 (.br 87 (.ap 91 (x26.2 ++ [p_x]).length (F_api_Sess (x26.2 ++ [p_x])) (.en [0,7] [none,none] [] [.undef,.slice none 4 0 0 true])) (.en [0,7] [none,none] [] [.undef,.slice none 4 0 0 true])) (fin_oR_Sessions_Note_3_J4 x26 p_x p_s r)=(((!x26.1)=true→(x26.2.length+1=(x26.2 ++ [p_x]).length∧(F_api_Sess x26.2 ++ F_api_Sess [p_x]=F_api_Sess (x26.2 ++ [p_x])∧(fitsB 40 (x26.2 ++ [p_x]).length=true∧lfe (fin_oR_Sessions_Note_3_J4 x26 p_x p_s) (x26.2 ++ [p_x]) r))))∧((!x26.1)=false→lfe (fin_oR_Sessions_Note_3_J4 x26 p_x p_s) x26.2 r)):=fun C=>by kernel_rfl
  refine runS_of (fun _ _ h=>by cases h) WJ116_bbbbbba_ok (Nat.le_of_ble_eq_true rfl) ((e _).mpr ?_)
  unfold oR_Sessions_Note_3_J4 at h
  refine ⟨fun hb=>?_,fun hb=>?_⟩
  · have h:=cond_t hb h
    obtain ⟨q27,h⟩:=gd_some h
    refine ⟨by simp, ?_⟩
    refine ⟨(Row.app R_api_Sess _ _).symm, ?_⟩
    refine ⟨q27, ?_⟩
    exact lfe_of h
  · have h:=cond_f hb h
    exact lfe_of h
def oR_Sessions_Note_3 (p_x:api_Sess) (p_s:oR_Shard):Option (Bool × oR_Shard) :=
  (oR_Sessions_Last_3 p_x.Client p_s).bind fun (x1:api_Sess × Bool)=>(oR_Sessions_Note_3_J0 p_x x1 p_s).bind fun (x2:Unit ⊕ Unit)=>cond (isL x2) (some (false,p_s)) ((oR_Sessions_Note_3_L3 p_s p_x (false,0,[])).bind fun (x26:(Bool × List api_Sess))=>(oR_Sessions_Note_3_J4 x26 p_x p_s).bind fun (x28:(List api_Sess))=>some (true,(⟨p_s.T,(⟨x28⟩:oR_Sessions),p_s.ID,p_s.Epoch⟩:oR_Shard)))
def out_oR_Sessions_Note_3 (p_x:api_Sess) (p_s:oR_Shard) (r:Bool × oR_Shard):AV × WH:=((.bool r.1),[(some (.cells (e_oR_Shard r.2) false false))])
theorem s_oR_Sessions_Note_3 (d:Nat) {p_x:api_Sess} {p_s:oR_Shard} {r:Bool × oR_Shard} (h:oR_Sessions_Note_3 p_x p_s=some r):Spec (wcalls atab (d+2)) 116 [(.ptr (some (0,1))),(.agg (e_api_Sess p_x))] [(some (.cells (e_oR_Shard p_s) false false))] (out_oR_Sessions_Note_3 p_x p_s r).1 (out_oR_Sessions_Note_3 p_x p_s r).2:=by
  obtain ⟨x1,hx1⟩:=wx (oR_Sessions_Last_3 p_x.Client p_s)
  obtain ⟨x2,hx2⟩:=wx (oR_Sessions_Note_3_J0 p_x x1 p_s)
  obtain ⟨x26,hx26⟩:=wx (oR_Sessions_Note_3_L3 p_s p_x (false,0,[]))
  obtain ⟨x28,hx28⟩:=wx (oR_Sessions_Note_3_J4 x26 p_x p_s)
  have e:∀ C:ACalls,wBody C (fun _=>none) KK WF116 [(.ptr (some (0,1))),(.agg (e_api_Sess p_x))] [(some (.cells (e_oR_Shard p_s) false false))] (.call [] (some false) [] (.tuple [(.agg (e_api_Sess x1.1)),(.bool x1.2)]) [(some (.cells (e_oR_Shard p_s) false false))] (.st none (.ite (isL x2) (.jn [0,3,5] [none,none,none] [] [] .ret [(4,(.bool false))] [(some (.cells (e_oR_Shard p_s) false false))] (.fin (some false) [] (some false))) (.jn [0,3,5] [none,none,none] [] [] .normal [(0,(.ptr (some (0,1)))),(3,(.ptr (some (1,0))))] [(some (.cells (e_oR_Shard p_s) false false)),(some (.cells (e_api_Sess p_x) false false))] (.z 7 [.slice none 4 0 0 true] (.lp [none,none,(some true),none,none] [] [.undef,.undef,.slice none 4 0 0 true,.undef,.undef] (.exit 0) [(0,(.ptr (some (0,1)))),(3,(.ptr (some (1,0)))),(7,(.acc 2 0 4 x26.2.length true)),(8,(.bool x26.1))] [(some (.cells (e_oR_Shard p_s) false false)),(some (.cells (e_api_Sess p_x) false false)),(some (.cells (F_api_Sess x26.2) false true))] (.jn [0,3,7,8] [none,none,none,none] [] [.undef,.undef,.slice none 4 0 0 true,.undef] .normal [(0,(.ptr (some (0,1)))),(7,(.acc 1 0 4 x28.length true))] [(some (.cells (e_oR_Shard p_s) false false)),(some (.cells (F_api_Sess x28) false true))] (.st none (.fin (some false) [] (some false)))))))))) (out_oR_Sessions_Note_3 p_x p_s r).1 (out_oR_Sessions_Note_3 p_x p_s r).2=(2=2∧2≤96∧(Spec C 115 [(.ptr (some (0,1))),(.int .i64 p_x.Client)] [(some (.cells (e_oR_Shard p_s) false false))] (.tuple [(.agg (e_api_Sess x1.1)),(.bool x1.2)]) [(some (.cells (e_oR_Shard p_s) false false))]∧(1≤1∧(((isL x2)=true→(RunS (bexec C KK 96 WJ116_bba) 1 [(0,(.ptr (some (0,1)))),(3,(.ptr (some (1,0)))),(5,(.ptr (some (2,0))))] [(some (.cells (e_oR_Shard p_s) false false)),(some (.cells (e_api_Sess p_x) false false)),(some (.cells (e_api_Sess x1.1) false false))] .ret [(4,(.bool false))] [(some (.cells (e_oR_Shard p_s) false false))]∧lff (out_oR_Sessions_Note_3 p_x p_s) (false,p_s) r))∧((isL x2)=false→(RunS (bexec C KK 96 WJ116_bba) 1 [(0,(.ptr (some (0,1)))),(3,(.ptr (some (1,0)))),(5,(.ptr (some (2,0))))] [(some (.cells (e_oR_Shard p_s) false false)),(some (.cells (e_api_Sess p_x) false false)),(some (.cells (e_api_Sess x1.1) false false))] .normal [(0,(.ptr (some (0,1)))),(3,(.ptr (some (1,0))))] [(some (.cells (e_oR_Shard p_s) false false)),(some (.cells (e_api_Sess p_x) false false))]∧(RunS (bloop (bexec C KK 96 WB116_0) [0,3,7,8,9] KK) 1 [(0,(.ptr (some (0,1)))),(3,(.ptr (some (1,0)))),(7,(.acc 2 0 4 0 true)),(8,(.bool false)),(9,(.int .i64 0))] [(some (.cells (e_oR_Shard p_s) false false)),(some (.cells (e_api_Sess p_x) false false)),(some (.cells (F_api_Sess []) false true))] (.exit 0) [(0,(.ptr (some (0,1)))),(3,(.ptr (some (1,0)))),(7,(.acc 2 0 4 x26.2.length true)),(8,(.bool x26.1))] [(some (.cells (e_oR_Shard p_s) false false)),(some (.cells (e_api_Sess p_x) false false)),(some (.cells (F_api_Sess x26.2) false true))]∧(RunS (bexec C KK 96 WJ116_bbbbbba) 1 [(0,(.ptr (some (0,1)))),(3,(.ptr (some (1,0)))),(7,(.acc 2 0 4 x26.2.length true)),(8,(.bool x26.1))] [(some (.cells (e_oR_Shard p_s) false false)),(some (.cells (e_api_Sess p_x) false false)),(some (.cells (F_api_Sess x26.2) false true))] .normal [(0,(.ptr (some (0,1)))),(7,(.acc 1 0 4 x28.length true))] [(some (.cells (e_oR_Shard p_s) false false)),(some (.cells (F_api_Sess x28) false true))]∧lff (out_oR_Sessions_Note_3 p_x p_s) (true,(⟨p_s.T,(⟨x28⟩:oR_Sessions),p_s.ID,p_s.Epoch⟩:oR_Shard)) r)))))))):=fun C=>by kernel_rfl
  refine spec_of (fun _ _ h=>by cases h) rfl atab_116 WF116_ok ((e _).mpr ⟨rfl,by decide, ?_⟩)
  unfold oR_Sessions_Note_3 at h
  obtain ⟨q1,h⟩:=bget hx1 h
  refine ⟨s_oR_Sessions_Last_3 (d+0) q1, ?_⟩
  refine ⟨by decide, ?_⟩
  obtain ⟨q2,h⟩:=bget hx2 h
  refine ⟨fun hb3=>?_,fun hb3=>?_⟩
  · have h:=cond_t hb3 h
    refine ⟨by have h:=s_oR_Sessions_Note_3_J0 (d+1) q2; rw [isL_t hb3] at h; exact h, ?_⟩
    exact lff_of h
  · have h:=cond_f hb3 h
    refine ⟨by have h:=s_oR_Sessions_Note_3_J0 (d+1) q2; rw [isL_f hb3] at h; exact h, ?_⟩
    obtain ⟨q26,h⟩:=bget hx26 h
    refine ⟨s_oR_Sessions_Note_3_L3 (d+1) q26, ?_⟩
    obtain ⟨q28,h⟩:=bget hx28 h
    refine ⟨s_oR_Sessions_Note_3_J4 (d+1) q28, ?_⟩
    exact lff_of h
def oR_Shard_Ask (p_r:api_Req) (p_s:oR_Shard):Option (api_Answer × Bool × oR_Shard) :=
  (oR_RightReq p_r).bind fun (x1:Bool)=>cond (!x1) (some ((⟨1,([]:List UInt8)⟩:api_Answer),false,p_s)) ((oR_Sessions_Last_3 p_r.Client p_s).bind fun (x2:api_Sess × Bool)=>cond (p_r.Seq == x2.1.Seq) (some (x2.1.Answer,false,p_s)) (cond (decide (p_r.Seq < x2.1.Seq)) (some ((⟨9,([]:List UInt8)⟩:api_Answer),false,p_s)) ((oR_Table_Do_4 p_r.Op p_s).bind fun (x3:api_Answer × oR_Shard)=>(oR_Sessions_Note_3 (⟨p_r.Client,p_r.Seq,x3.1⟩:api_Sess) x3.2).bind fun (x4:Bool × oR_Shard)=>some (x3.1,true,x4.2))))
def out_oR_Shard_Ask (p_r:api_Req) (p_s:oR_Shard) (r:api_Answer × Bool × oR_Shard):AV × WH:=((.tuple [(.agg (e_api_Answer r.1)),(.bool r.2.1)]),[(some (.cells (e_oR_Shard r.2.2) false false))])
theorem s_oR_Shard_Ask (d:Nat) {p_r:api_Req} {p_s:oR_Shard} {r:api_Answer × Bool × oR_Shard} (h:oR_Shard_Ask p_r p_s=some r):Spec (wcalls atab (d+3)) 77 [(.ptr (some (0,0))),(.agg (e_api_Req p_r))] [(some (.cells (e_oR_Shard p_s) false false))] (out_oR_Shard_Ask p_r p_s r).1 (out_oR_Shard_Ask p_r p_s r).2:=by
  obtain ⟨x1,hx1⟩:=wx (oR_RightReq p_r)
  obtain ⟨x2,hx2⟩:=wx (oR_Sessions_Last_3 p_r.Client p_s)
  obtain ⟨x3,hx3⟩:=wx (oR_Table_Do_4 p_r.Op p_s)
  obtain ⟨x4,hx4⟩:=wx (oR_Sessions_Note_3 (⟨p_r.Client,p_r.Seq,x3.1⟩:api_Sess) x3.2)
  have e:∀ C:ACalls,wBody C (fun _=>none) KK WF77 [(.ptr (some (0,0))),(.agg (e_api_Req p_r))] [(some (.cells (e_oR_Shard p_s) false false))] (.cb [] [] (.bool x1) (.br 11 (.st none (.fin (some false) [] none)) (.call [] (some false) [] (.tuple [(.agg (e_api_Sess x2.1)),(.bool x2.2)]) [(some (.cells (e_oR_Shard p_s) false false))] (.st none (.br 22 (.st none (.fin (some false) [] none)) (.br 30 (.st none (.fin (some false) [] none)) (.call [] (some false) [] (.agg (e_api_Answer x3.1)) [(some (.cells (e_oR_Shard x3.2) false false))] (.st none (.call [] (some false) [] (.bool x4.1) [(some (.cells (e_oR_Shard x4.2) false false))] (.st none (.fin (some false) [] none))))))))))) (out_oR_Shard_Ask p_r p_s r).1 (out_oR_Shard_Ask p_r p_s r).2=(2=2∧2≤54∧(Spec C 114 [(.agg (e_api_Req p_r))] [] (.bool x1) []∧(((!x1)=true→lff (out_oR_Shard_Ask p_r p_s) ((⟨1,([]:List UInt8)⟩:api_Answer),false,p_s) r)∧((!x1)=false→(Spec C 115 [(.ptr (some (0,1))),(.int .i64 p_r.Client)] [(some (.cells (e_oR_Shard p_s) false false))] (.tuple [(.agg (e_api_Sess x2.1)),(.bool x2.2)]) [(some (.cells (e_oR_Shard p_s) false false))]∧(1≤1∧(((p_r.Seq == x2.1.Seq)=true→lff (out_oR_Shard_Ask p_r p_s) (x2.1.Answer,false,p_s) r)∧((p_r.Seq == x2.1.Seq)=false→(((decide (p_r.Seq < x2.1.Seq))=true→lff (out_oR_Shard_Ask p_r p_s) ((⟨9,([]:List UInt8)⟩:api_Answer),false,p_s) r)∧((decide (p_r.Seq < x2.1.Seq))=false→(Spec C 62 [(.ptr (some (0,0))),(.agg (e_api_Op p_r.Op))] [(some (.cells (e_oR_Shard p_s) false false))] (.agg (e_api_Answer x3.1)) [(some (.cells (e_oR_Shard x3.2) false false))]∧(1≤1∧(Spec C 116 [(.ptr (some (0,1))),(.agg (e_api_Sess (⟨p_r.Client,p_r.Seq,x3.1⟩:api_Sess)))] [(some (.cells (e_oR_Shard x3.2) false false))] (.bool x4.1) [(some (.cells (e_oR_Shard x4.2) false false))]∧(1≤1∧lff (out_oR_Shard_Ask p_r p_s) (x3.1,true,x4.2) r)))))))))))))):=fun C=>by kernel_rfl
  refine spec_of (fun _ _ h=>by cases h) rfl atab_77 WF77_ok ((e _).mpr ⟨rfl,by decide, ?_⟩)
  unfold oR_Shard_Ask at h
  obtain ⟨q1,h⟩:=bget hx1 h
  refine ⟨s_oR_RightReq (d+0) q1, ?_⟩
  refine ⟨fun hb=>?_,fun hb=>?_⟩
  · have h:=cond_t hb h
    exact lff_of h
  · have h:=cond_f hb h
    obtain ⟨q2,h⟩:=bget hx2 h
    refine ⟨s_oR_Sessions_Last_3 (d+1) q2, ?_⟩
    refine ⟨by decide, ?_⟩
    refine ⟨fun hb=>?_,fun hb=>?_⟩
    · have h:=cond_t hb h
      exact lff_of h
    · have h:=cond_f hb h
      refine ⟨fun hb=>?_,fun hb=>?_⟩
      · have h:=cond_t hb h
        exact lff_of h
      · have h:=cond_f hb h
        obtain ⟨q3,h⟩:=bget hx3 h
        refine ⟨s_oR_Table_Do_4 (d+0) q3, ?_⟩
        refine ⟨by decide, ?_⟩
        obtain ⟨q4,h⟩:=bget hx4 h
        refine ⟨s_oR_Sessions_Note_3 (d+0) q4, ?_⟩
        refine ⟨by decide, ?_⟩
        exact lff_of h
def oR_Shard_Image (p_s:oR_Shard):Option (api_Image) :=
  gd (fitsB 32 p_s.T.L.length) (gd (fitsB 40 p_s.S_.L.length) (some (⟨p_s.ID,p_s.Epoch,p_s.T.L,p_s.S_.L⟩:api_Image)))
def out_oR_Shard_Image (p_s:oR_Shard) (r:api_Image):AV × WH:=((.agg (e_api_Image r)),[(some (.cells (e_oR_Shard p_s) false false))])
theorem s_oR_Shard_Image (d:Nat) {p_s:oR_Shard} {r:api_Image} (h:oR_Shard_Image p_s=some r):Spec (wcalls atab (d+1)) 79 [(.ptr (some (0,0)))] [(some (.cells (e_oR_Shard p_s) false false))] (out_oR_Shard_Image p_s r).1 (out_oR_Shard_Image p_s r).2:=by
  have e:∀ C:ACalls,wBody C (fun _=>none) KK WF79 [(.ptr (some (0,0)))] [(some (.cells (e_oR_Shard p_s) false false))] (.z 2 [.undef,.undef,.slice none 2 0 0 true,.slice none 4 0 0 true] (.ap 17 p_s.T.L.length (F_api_Pair p_s.T.L) (.ap 24 p_s.S_.L.length (F_api_Sess p_s.S_.L) (.st none (.fin (some false) [.agg [.undef,.undef,.slice none 2 0 0 true,.slice none 4 0 0 true]] none))))) (out_oR_Shard_Image p_s r).1 (out_oR_Shard_Image p_s r).2=(1=1∧1≤26∧(0+p_s.T.L.length=p_s.T.L.length∧(F_api_Pair [] ++ F_api_Pair p_s.T.L=F_api_Pair p_s.T.L∧(fitsB 32 p_s.T.L.length=true∧(0+p_s.S_.L.length=p_s.S_.L.length∧(F_api_Sess [] ++ F_api_Sess p_s.S_.L=F_api_Sess p_s.S_.L∧(fitsB 40 p_s.S_.L.length=true∧lff (out_oR_Shard_Image p_s) (⟨p_s.ID,p_s.Epoch,p_s.T.L,p_s.S_.L⟩:api_Image) r))))))):=fun C=>by kernel_rfl
  refine spec_of (fun _ _ h=>by cases h) rfl atab_79 WF79_ok ((e _).mpr ⟨rfl,by decide, ?_⟩)
  unfold oR_Shard_Image at h
  obtain ⟨q1,h⟩:=gd_some h
  refine ⟨by simp, ?_⟩
  refine ⟨by first | rfl | simp [F_api_Pair], ?_⟩
  refine ⟨q1, ?_⟩
  obtain ⟨q2,h⟩:=gd_some h
  refine ⟨by simp, ?_⟩
  refine ⟨by first | rfl | simp [F_api_Sess], ?_⟩
  refine ⟨q2, ?_⟩
  exact lff_of h
def oR_Shard_Image_2 (p_s:oR_Shard):Option (Int × Int × List api_Pair × List api_Sess) :=
  gd (fitsB 32 p_s.T.L.length) (gd (fitsB 40 p_s.S_.L.length) (some (p_s.ID,p_s.Epoch,p_s.T.L,p_s.S_.L)))
def out_oR_Shard_Image_2 (p_s:oR_Shard) (r:Int × Int × List api_Pair × List api_Sess):AV × WH:=((.agg [(.int .i64 r.1),(.int .i64 r.2.1),(.acc 1 0 2 r.2.2.1.length true),(.acc 2 0 4 r.2.2.2.length true)]),[(some (.cells (e_oR_Shard p_s) false false)),(some (.cells (F_api_Pair r.2.2.1) false true)),(some (.cells (F_api_Sess r.2.2.2) false true))])
theorem s_oR_Shard_Image_2 (d:Nat) {p_s:oR_Shard} {r:Int × Int × List api_Pair × List api_Sess} (h:oR_Shard_Image_2 p_s=some r):Spec (wcalls atab (d+1)) 79 [(.ptr (some (0,0)))] [(some (.cells (e_oR_Shard p_s) false false))] (out_oR_Shard_Image_2 p_s r).1 (out_oR_Shard_Image_2 p_s r).2:=by
  have e:∀ C:ACalls,wBody C (fun _=>none) KK WF79 [(.ptr (some (0,0)))] [(some (.cells (e_oR_Shard p_s) false false))] (.z 2 [.undef,.undef,.slice none 2 0 0 true,.slice none 4 0 0 true] (.ap 17 p_s.T.L.length (F_api_Pair p_s.T.L) (.ap 24 p_s.S_.L.length (F_api_Sess p_s.S_.L) (.st none (.fin none [.agg [.undef,.undef,.slice none 2 0 0 true,.slice none 4 0 0 true]] none))))) (out_oR_Shard_Image_2 p_s r).1 (out_oR_Shard_Image_2 p_s r).2=(1=1∧1≤26∧(0+p_s.T.L.length=p_s.T.L.length∧(F_api_Pair [] ++ F_api_Pair p_s.T.L=F_api_Pair p_s.T.L∧(fitsB 32 p_s.T.L.length=true∧(0+p_s.S_.L.length=p_s.S_.L.length∧(F_api_Sess [] ++ F_api_Sess p_s.S_.L=F_api_Sess p_s.S_.L∧(fitsB 40 p_s.S_.L.length=true∧lff (out_oR_Shard_Image_2 p_s) (p_s.ID,p_s.Epoch,p_s.T.L,p_s.S_.L) r))))))):=fun C=>by kernel_rfl
  refine spec_of (fun _ _ h=>by cases h) rfl atab_79 WF79_ok ((e _).mpr ⟨rfl,by decide, ?_⟩)
  unfold oR_Shard_Image_2 at h
  obtain ⟨q1,h⟩:=gd_some h
  refine ⟨by simp, ?_⟩
  refine ⟨by first | rfl | simp [F_api_Pair], ?_⟩
  refine ⟨q1, ?_⟩
  obtain ⟨q2,h⟩:=gd_some h
  refine ⟨by simp, ?_⟩
  refine ⟨by first | rfl | simp [F_api_Sess], ?_⟩
  refine ⟨q2, ?_⟩
  exact lff_of h
end Go.Proofs.Ytachollgbplikaa
