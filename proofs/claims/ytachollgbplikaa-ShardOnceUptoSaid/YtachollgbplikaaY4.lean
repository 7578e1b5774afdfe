import Derived.Test.YtachollgbplikaaXt
import Derived.Test.YtachollgbplikaaXs
import Derived.Test.YtachollgbplikaaY3
set_option linter.all false
set_option maxRecDepth 100000
namespace Go.Proofs.Ytachollgbplikaa
abbrev in_oR_Sessions_Note_2_J0 (p_x:api_Sess) (x1:api_Sess × Bool) (p_b1:List api_Sess):Fast × WH:=([(0,(.ptr (some (0,0)))),(3,(.ptr (some (2,0)))),(5,(.ptr (some (3,0))))],[(some (.cells [(.acc 1 0 4 p_b1.length true)] false false)),(some (.cells (F_api_Sess p_b1) false true)),(some (.cells (e_api_Sess p_x) false false)),(some (.cells (e_api_Sess x1.1) false false))])
def fin_oR_Sessions_Note_2_J0 (p_x:api_Sess) (x1:api_Sess × Bool) (p_b1:List api_Sess):Unit ⊕ Unit→Ex × Fast × WH:=fun
  | .inl e=>(.ret,[(4,(.bool false))],[(some (.cells [(.acc 1 0 4 p_b1.length true)] false false)),(some (.cells (F_api_Sess p_b1) false true))])
  | .inr e=>(.normal,[(0,(.ptr (some (0,0)))),(3,(.ptr (some (2,0))))],[(some (.cells [(.acc 1 0 4 p_b1.length true)] false false)),(some (.cells (F_api_Sess p_b1) false true)),(some (.cells (e_api_Sess p_x) false false))])
def oR_Sessions_Note_2_J0 (p_x:api_Sess) (x1:api_Sess × Bool) (p_b1:List api_Sess):Option (Unit ⊕ Unit) :=
  cond (decide (p_x.Client < 0)) (some (.inl ())) (cond (decide (p_x.Client ≥ 4)) (some (.inl ())) (cond (decide (p_x.Seq < 1)) (some (.inl ())) (cond (decide (p_x.Seq≤x1.1.Seq)) (some (.inl ())) (some (.inr ())))))
theorem s_oR_Sessions_Note_2_J0 (d:Nat) {p_x:api_Sess} {x1:api_Sess × Bool} {p_b1:List api_Sess} {r:Unit ⊕ Unit} (h:oR_Sessions_Note_2_J0 p_x x1 p_b1=some r):RunX (bexec (wcalls atab (d+0)) KK 96 WJ116_bba) 2 (in_oR_Sessions_Note_2_J0 p_x x1 p_b1) (fin_oR_Sessions_Note_2_J0 p_x x1 p_b1 r):=by
  have e:∀ C:ACalls,wCode C (fun _=>none) KK 96 2 WJ116_bba (in_oR_Sessions_Note_2_J0 p_x x1 p_b1).1 (in_oR_Sessions_Note_2_J0 p_x x1 p_b1).2 (.br 20 (.en [4] [none] [] []) (.br 25 (.en [4] [none] [] []) (.br 30 (.en [4] [none] [] []) (.br 36 (.en [4] [none] [] []) (.en [0,3] [none,none] [] []))))) (fin_oR_Sessions_Note_2_J0 p_x x1 p_b1 r)=(((decide (p_x.Client < 0))=true→lfe (fin_oR_Sessions_Note_2_J0 p_x x1 p_b1) (.inl ()) r)∧((decide (p_x.Client < 0))=false→(((decide (p_x.Client ≥ 4))=true→lfe (fin_oR_Sessions_Note_2_J0 p_x x1 p_b1) (.inl ()) r)∧((decide (p_x.Client ≥ 4))=false→(((decide (p_x.Seq < 1))=true→lfe (fin_oR_Sessions_Note_2_J0 p_x x1 p_b1) (.inl ()) r)∧((decide (p_x.Seq < 1))=false→(((decide (p_x.Seq≤x1.1.Seq))=true→lfe (fin_oR_Sessions_Note_2_J0 p_x x1 p_b1) (.inl ()) r)∧((decide (p_x.Seq≤x1.1.Seq))=false→lfe (fin_oR_Sessions_Note_2_J0 p_x x1 p_b1) (.inr ()) r)))))))):=fun C=>by kernel_rfl
  refine runS_of (fun _ _ h=>by cases h) WJ116_bba_ok (Nat.le_of_ble_eq_true rfl) ((e _).mpr ?_)
  unfold oR_Sessions_Note_2_J0 at h
  refine ⟨fun hb=>?_,fun hb=>?_⟩
  · have h:=cond_t hb h
    exact lfe_of h
  · have h:=cond_f hb h
    refine ⟨fun hb=>?_,fun hb=>?_⟩
    · have h:=cond_t hb h
      exact lfe_of h
    · have h:=cond_f hb h
      refine ⟨fun hb=>?_,fun hb=>?_⟩
      · have h:=cond_t hb h
        exact lfe_of h
      · have h:=cond_f hb h
        refine ⟨fun hb=>?_,fun hb=>?_⟩
        · have h:=cond_t hb h
          exact lfe_of h
        · have h:=cond_f hb h
          exact lfe_of h
abbrev in_oR_Sessions_Note_2_J1 (s18:Bool × Int × List api_Sess) (p_b1:List api_Sess) (p_x:api_Sess):Fast × WH:=([(0,(.ptr (some (0,0)))),(3,(.ptr (some (2,0)))),(7,(.acc 3 0 4 s18.2.2.length true)),(8,(.bool s18.1)),(9,(.int .i64 s18.2.1))],[(some (.cells [(.acc 1 0 4 p_b1.length true)] false false)),(some (.cells (F_api_Sess p_b1) false true)),(some (.cells (e_api_Sess p_x) false false)),(some (.cells (F_api_Sess s18.2.2) false true))])
def fin_oR_Sessions_Note_2_J1 (s18:Bool × Int × List api_Sess) (p_b1:List api_Sess) (p_x:api_Sess):Bool→Ex × Fast × WH:=fun e=>(.normal,[(0,(.ptr (some (0,0)))),(3,(.ptr (some (2,0)))),(7,(.acc 3 0 4 s18.2.2.length true)),(8,(.bool s18.1)),(9,(.int .i64 s18.2.1)),(60,(.bool e))],[(some (.cells [(.acc 1 0 4 p_b1.length true)] false false)),(some (.cells (F_api_Sess p_b1) false true)),(some (.cells (e_api_Sess p_x) false false)),(some (.cells (F_api_Sess s18.2.2) false true))])
def oR_Sessions_Note_2_J1 (s18:Bool × Int × List api_Sess) (p_b1:List api_Sess) (p_x:api_Sess):Option (Bool) :=
  cond (!s18.1) ((getI p_b1 s18.2.1).bind fun (x19:api_Sess)=>some (decide (x19.Client ≥ p_x.Client))) (some false)
theorem s_oR_Sessions_Note_2_J1 (d:Nat) {s18:Bool × Int × List api_Sess} {p_b1:List api_Sess} {p_x:api_Sess} {r:Bool} (h:oR_Sessions_Note_2_J1 s18 p_b1 p_x=some r):RunX (bexec (wcalls atab (d+0)) KK 96 WJ116_bbbbbabklbakaa) 2 (in_oR_Sessions_Note_2_J1 s18 p_b1 p_x) (fin_oR_Sessions_Note_2_J1 s18 p_b1 p_x r):=by
  obtain ⟨x19,hx19⟩:=wx (getI p_b1 s18.2.1)
  have e:∀ C:ACalls,wCode C (fun _=>none) KK 96 2 WJ116_bbbbbabklbakaa (in_oR_Sessions_Note_2_J1 s18 p_b1 p_x).1 (in_oR_Sessions_Note_2_J1 s18 p_b1 p_x).2 (.br 48 (.v 54 (.ptr (some (1,0+s18.2.1.toNat * 4))) (.v 56 (.int .i64 x19.Client) (.en [0,3,7,8,9,60] [none,none,none,none,none,none] [] [.undef,.undef,.slice none 4 0 0 true,.undef,.undef,.undef]))) (.en [0,3,7,8,9,60] [none,none,none,none,none,none] [] [.undef,.undef,.slice none 4 0 0 true,.undef,.undef,.undef])) (fin_oR_Sessions_Note_2_J1 s18 p_b1 p_x r)=(((!s18.1)=true→(wP (.idxSlice 4 (.c (.acc 1 0 4 p_b1.length true)) (.c (.int .i64 s18.2.1)))=some (.ptr (some (1,0+s18.2.1.toNat * 4)))∧(cPart false (0+s18.2.1.toNat * 4) 1 (F_api_Sess p_b1)=some (.int .i64 x19.Client)∧lfe (fin_oR_Sessions_Note_2_J1 s18 p_b1 p_x) (decide (x19.Client ≥ p_x.Client)) r)))∧((!s18.1)=false→lfe (fin_oR_Sessions_Note_2_J1 s18 p_b1 p_x) false r)):=fun C=>by kernel_rfl
  refine runS_of (fun _ _ h=>by cases h) WJ116_bbbbbabklbakaa_ok (Nat.le_of_ble_eq_true rfl) ((e _).mpr ?_)
  unfold oR_Sessions_Note_2_J1 at h
  refine ⟨fun hb=>?_,fun hb=>?_⟩
  · have h:=cond_t hb h
    obtain ⟨q19,h⟩:=bget hx19 h
    refine ⟨wP_idxA R_api_Sess q19, ?_⟩
    refine ⟨cP_row (o:=0) R_api_Sess q19 rfl, ?_⟩
    exact lfe_of h
  · have h:=cond_f hb h
    exact lfe_of h
abbrev in_oR_Sessions_Note_2_J2 (s18:Bool × Int × List api_Sess) (p_b1:List api_Sess) (p_x:api_Sess):Fast × WH:=([(0,(.ptr (some (0,0)))),(3,(.ptr (some (2,0)))),(7,(.acc 3 0 4 s18.2.2.length true)),(8,(.bool s18.1)),(9,(.int .i64 s18.2.1))],[(some (.cells [(.acc 1 0 4 p_b1.length true)] false false)),(some (.cells (F_api_Sess p_b1) false true)),(some (.cells (e_api_Sess p_x) false false)),(some (.cells (F_api_Sess s18.2.2) false true))])
def fin_oR_Sessions_Note_2_J2 (s18:Bool × Int × List api_Sess) (p_b1:List api_Sess) (p_x:api_Sess):(Bool × List api_Sess)→Ex × Fast × WH:=fun e=>(.normal,[(0,(.ptr (some (0,0)))),(3,(.ptr (some (2,0)))),(7,(.acc 3 0 4 e.2.length true)),(8,(.bool e.1)),(9,(.int .i64 s18.2.1))],[(some (.cells [(.acc 1 0 4 p_b1.length true)] false false)),(some (.cells (F_api_Sess p_b1) false true)),(some (.cells (e_api_Sess p_x) false false)),(some (.cells (F_api_Sess e.2) false true))])
def oR_Sessions_Note_2_J2 (s18:Bool × Int × List api_Sess) (p_b1:List api_Sess) (p_x:api_Sess):Option ((Bool × List api_Sess)) :=
  (oR_Sessions_Note_2_J1 s18 p_b1 p_x).bind fun (x20:Bool)=>cond x20 (gd (fitsB 40 (s18.2.2 ++ [p_x]).length) (some (true,(s18.2.2 ++ [p_x])))) (some (s18.1,s18.2.2))
theorem s_oR_Sessions_Note_2_J2 (d:Nat) {s18:Bool × Int × List api_Sess} {p_b1:List api_Sess} {p_x:api_Sess} {r:(Bool × List api_Sess)} (h:oR_Sessions_Note_2_J2 s18 p_b1 p_x=some r):RunX (bexec (wcalls atab (d+0)) KK 96 WJ116_bbbbbabklbaka) 2 (in_oR_Sessions_Note_2_J2 s18 p_b1 p_x) (fin_oR_Sessions_Note_2_J2 s18 p_b1 p_x r):=by
  obtain ⟨x20,hx20⟩:=wx (oR_Sessions_Note_2_J1 s18 p_b1 p_x)
  have e:∀ C:ACalls,wCode C (fun _=>none) KK 96 2 WJ116_bbbbbabklbaka (in_oR_Sessions_Note_2_J2 s18 p_b1 p_x).1 (in_oR_Sessions_Note_2_J2 s18 p_b1 p_x).2 (.jn [0,3,7,8,9] [none,none,none,none,none] [] [.undef,.undef,.slice none 4 0 0 true,.undef,.undef] .normal [(0,(.ptr (some (0,0)))),(3,(.ptr (some (2,0)))),(7,(.acc 3 0 4 s18.2.2.length true)),(8,(.bool s18.1)),(9,(.int .i64 s18.2.1)),(60,(.bool x20))] [(some (.cells [(.acc 1 0 4 p_b1.length true)] false false)),(some (.cells (F_api_Sess p_b1) false true)),(some (.cells (e_api_Sess p_x) false false)),(some (.cells (F_api_Sess s18.2.2) false true))] (.br 60 (.ap 64 (s18.2.2 ++ [p_x]).length (F_api_Sess (s18.2.2 ++ [p_x])) (.en [0,3,7,8,9] [none,none,none,none,none] [] [.undef,.undef,.slice none 4 0 0 true,.undef,.undef])) (.en [0,3,7,8,9] [none,none,none,none,none] [] [.undef,.undef,.slice none 4 0 0 true,.undef,.undef]))) (fin_oR_Sessions_Note_2_J2 s18 p_b1 p_x r)=(RunS (bexec C KK 96 WJ116_bbbbbabklbakaa) 2 [(0,(.ptr (some (0,0)))),(3,(.ptr (some (2,0)))),(7,(.acc 3 0 4 s18.2.2.length true)),(8,(.bool s18.1)),(9,(.int .i64 s18.2.1))] [(some (.cells [(.acc 1 0 4 p_b1.length true)] false false)),(some (.cells (F_api_Sess p_b1) false true)),(some (.cells (e_api_Sess p_x) false false)),(some (.cells (F_api_Sess s18.2.2) false true))] .normal [(0,(.ptr (some (0,0)))),(3,(.ptr (some (2,0)))),(7,(.acc 3 0 4 s18.2.2.length true)),(8,(.bool s18.1)),(9,(.int .i64 s18.2.1)),(60,(.bool x20))] [(some (.cells [(.acc 1 0 4 p_b1.length true)] false false)),(some (.cells (F_api_Sess p_b1) false true)),(some (.cells (e_api_Sess p_x) false false)),(some (.cells (F_api_Sess s18.2.2) false true))]∧((x20=true→(s18.2.2.length+1=(s18.2.2 ++ [p_x]).length∧(F_api_Sess s18.2.2 ++ F_api_Sess [p_x]=F_api_Sess (s18.2.2 ++ [p_x])∧(fitsB 40 (s18.2.2 ++ [p_x]).length=true∧lfe (fin_oR_Sessions_Note_2_J2 s18 p_b1 p_x) (true,(s18.2.2 ++ [p_x])) r))))∧(x20=false→lfe (fin_oR_Sessions_Note_2_J2 s18 p_b1 p_x) (s18.1,s18.2.2) r))):=fun C=>by kernel_rfl
  refine runS_of (fun _ _ h=>by cases h) WJ116_bbbbbabklbaka_ok (Nat.le_of_ble_eq_true rfl) ((e _).mpr ?_)
  unfold oR_Sessions_Note_2_J2 at h
  obtain ⟨q20,h⟩:=bget hx20 h
  refine ⟨s_oR_Sessions_Note_2_J1 (d+0) q20, ?_⟩
  refine ⟨fun hb=>?_,fun hb=>?_⟩
  · have h:=cond_t hb h
    obtain ⟨q21,h⟩:=gd_some h
    refine ⟨by simp, ?_⟩
    refine ⟨(Row.app R_api_Sess _ _).symm, ?_⟩
    refine ⟨q21, ?_⟩
    exact lfe_of h
  · have h:=cond_f hb h
    exact lfe_of h
def st_oR_Sessions_Note_2_L3 (p_b1:List api_Sess) (p_x:api_Sess) (s18:Bool × Int × List api_Sess):List AV × WH:=([(.ptr (some (0,0))),(.ptr (some (2,0))),(.acc 3 0 4 s18.2.2.length true),(.bool s18.1),(.int .i64 s18.2.1)],[(some (.cells [(.acc 1 0 4 p_b1.length true)] false false)),(some (.cells (F_api_Sess p_b1) false true)),(some (.cells (e_api_Sess p_x) false false)),(some (.cells (F_api_Sess s18.2.2) false true))])
def fin_oR_Sessions_Note_2_L3 (p_b1:List api_Sess) (p_x:api_Sess):(Bool × List api_Sess)→Ex × Fast × WH:=fun e=>((.exit 0),[(0,(.ptr (some (0,0)))),(3,(.ptr (some (2,0)))),(7,(.acc 3 0 4 e.2.length true)),(8,(.bool e.1))],[(some (.cells [(.acc 1 0 4 p_b1.length true)] false false)),(some (.cells (F_api_Sess p_b1) false true)),(some (.cells (e_api_Sess p_x) false false)),(some (.cells (F_api_Sess e.2) false true))])
abbrev rx_oR_Sessions_Note_2_L3 (p_b1:List api_Sess) (p_x:api_Sess):=roundX [0,3,7,8,9] (st_oR_Sessions_Note_2_L3 p_b1 p_x) (fin_oR_Sessions_Note_2_L3 p_b1 p_x)
def oR_Sessions_Note_2_L3_s (p_b1:List api_Sess) (p_x:api_Sess) (s18:Bool × Int × List api_Sess):Option ((Bool × Int × List api_Sess) ⊕ ((Bool × List api_Sess))) :=
  cond (decide (s18.2.1 < (p_b1.length:Int))) ((oR_Sessions_Note_2_J2 s18 p_b1 p_x).bind fun (x22:(Bool × List api_Sess))=>(getI p_b1 s18.2.1).bind fun (x23:api_Sess)=>cond (x23.Client != p_x.Client) ((getI p_b1 s18.2.1).bind fun (x24:api_Sess)=>gd (fitsB 40 (x22.2 ++ [x24]).length) (some (.inl (x22.1,(IntKind.i64.wrap (s18.2.1+1)),(x22.2 ++ [x24]))))) (some (.inl (x22.1,(IntKind.i64.wrap (s18.2.1+1)),x22.2)))) (some (.inr (s18.1,s18.2.2)))
def oR_Sessions_Note_2_L3 (p_b1:List api_Sess) (p_x:api_Sess) (s18:Bool × Int × List api_Sess):Option ((Bool × List api_Sess)):=loopX (oR_Sessions_Note_2_L3_s p_b1 p_x) KK s18
theorem b_oR_Sessions_Note_2_L3 (d:Nat) {p_b1:List api_Sess} {p_x:api_Sess} {s18:Bool × Int × List api_Sess} {r:(Bool × Int × List api_Sess) ⊕ ((Bool × List api_Sess))} (h:oR_Sessions_Note_2_L3_s p_b1 p_x s18=some r):RunX (bexec (wcalls atab (d+0)) KK 96 WB116_0) 2 (inL [0,3,7,8,9] (st_oR_Sessions_Note_2_L3 p_b1 p_x s18)) (rx_oR_Sessions_Note_2_L3 p_b1 p_x r):=by
  obtain ⟨x22,hx22⟩:=wx (oR_Sessions_Note_2_J2 s18 p_b1 p_x)
  obtain ⟨x23,hx23⟩:=wx (getI p_b1 s18.2.1)
  obtain ⟨x24,hx24⟩:=wx (getI p_b1 s18.2.1)
  have e:∀ C:ACalls,wCode C (fun _=>none) KK 96 2 WB116_0 (inL [0,3,7,8,9] (st_oR_Sessions_Note_2_L3 p_b1 p_x s18)).1 (inL [0,3,7,8,9] (st_oR_Sessions_Note_2_L3 p_b1 p_x s18)).2 (.br 43 (.sk (.jn [0,3,7,8,9] [none,none,none,none,none] [] [.undef,.undef,.slice none 4 0 0 true,.undef,.undef] .normal [(0,(.ptr (some (0,0)))),(3,(.ptr (some (2,0)))),(7,(.acc 3 0 4 x22.2.length true)),(8,(.bool x22.1)),(9,(.int .i64 s18.2.1))] [(some (.cells [(.acc 1 0 4 p_b1.length true)] false false)),(some (.cells (F_api_Sess p_b1) false true)),(some (.cells (e_api_Sess p_x) false false)),(some (.cells (F_api_Sess x22.2) false true))] (.v 70 (.ptr (some (1,0+s18.2.1.toNat * 4))) (.v 72 (.int .i64 x23.Client) (.br 75 (.v 82 (.ptr (some (1,0+s18.2.1.toNat * 4))) (.v 83 (.agg (e_api_Sess x24)) (.ap 85 (x22.2 ++ [x24]).length (F_api_Sess (x22.2 ++ [x24])) (.en [0,3,7,8,9] [none,none,none,none,none] [] [.undef,.undef,.slice none 4 0 0 true,.undef,.undef])))) (.en [0,3,7,8,9] [none,none,none,none,none] [] [.undef,.undef,.slice none 4 0 0 true,.undef,.undef])))))) (.en [0,3,7,8] [none,none,none,none] [] [.undef,.undef,.slice none 4 0 0 true,.undef])) (rx_oR_Sessions_Note_2_L3 p_b1 p_x r)=(((decide (s18.2.1 < (p_b1.length:Int)))=true→(RunS (bexec C KK 96 WJ116_bbbbbabklbaka) 2 [(0,(.ptr (some (0,0)))),(3,(.ptr (some (2,0)))),(7,(.acc 3 0 4 s18.2.2.length true)),(8,(.bool s18.1)),(9,(.int .i64 s18.2.1))] [(some (.cells [(.acc 1 0 4 p_b1.length true)] false false)),(some (.cells (F_api_Sess p_b1) false true)),(some (.cells (e_api_Sess p_x) false false)),(some (.cells (F_api_Sess s18.2.2) false true))] .normal [(0,(.ptr (some (0,0)))),(3,(.ptr (some (2,0)))),(7,(.acc 3 0 4 x22.2.length true)),(8,(.bool x22.1)),(9,(.int .i64 s18.2.1))] [(some (.cells [(.acc 1 0 4 p_b1.length true)] false false)),(some (.cells (F_api_Sess p_b1) false true)),(some (.cells (e_api_Sess p_x) false false)),(some (.cells (F_api_Sess x22.2) false true))]∧(wP (.idxSlice 4 (.c (.acc 1 0 4 p_b1.length true)) (.c (.int .i64 s18.2.1)))=some (.ptr (some (1,0+s18.2.1.toNat * 4)))∧(cPart false (0+s18.2.1.toNat * 4) 1 (F_api_Sess p_b1)=some (.int .i64 x23.Client)∧(((x23.Client != p_x.Client)=true→(wP (.idxSlice 4 (.c (.acc 1 0 4 p_b1.length true)) (.c (.int .i64 s18.2.1)))=some (.ptr (some (1,0+s18.2.1.toNat * 4)))∧(cPart true (0+s18.2.1.toNat * 4) 4 (F_api_Sess p_b1)=some (.agg (e_api_Sess x24))∧(x22.2.length+1=(x22.2 ++ [x24]).length∧(F_api_Sess x22.2 ++ F_api_Sess [x24]=F_api_Sess (x22.2 ++ [x24])∧(fitsB 40 (x22.2 ++ [x24]).length=true∧lfe (rx_oR_Sessions_Note_2_L3 p_b1 p_x) (.inl (x22.1,(IntKind.i64.wrap (s18.2.1+1)),(x22.2 ++ [x24]))) r))))))∧((x23.Client != p_x.Client)=false→lfe (rx_oR_Sessions_Note_2_L3 p_b1 p_x) (.inl (x22.1,(IntKind.i64.wrap (s18.2.1+1)),x22.2)) r))))))∧((decide (s18.2.1 < (p_b1.length:Int)))=false→lfe (rx_oR_Sessions_Note_2_L3 p_b1 p_x) (.inr (s18.1,s18.2.2)) r)):=fun C=>by kernel_rfl
  refine runS_of (fun _ _ h=>by cases h) WB116_0_ok (Nat.le_of_ble_eq_true rfl) ((e _).mpr ?_)
  unfold oR_Sessions_Note_2_L3_s at h
  refine ⟨fun hb=>?_,fun hb=>?_⟩
  · have h:=cond_t hb h
    obtain ⟨q22,h⟩:=bget hx22 h
    refine ⟨s_oR_Sessions_Note_2_J2 (d+0) q22, ?_⟩
    obtain ⟨q23,h⟩:=bget hx23 h
    refine ⟨wP_idxA R_api_Sess q23, ?_⟩
    refine ⟨cP_row (o:=0) R_api_Sess q23 rfl, ?_⟩
    refine ⟨fun hb=>?_,fun hb=>?_⟩
    · have h:=cond_t hb h
      obtain ⟨q24,h⟩:=bget hx24 h
      refine ⟨wP_idxA R_api_Sess q24, ?_⟩
      refine ⟨cP_row (o:=0) R_api_Sess q24 rfl, ?_⟩
      obtain ⟨q25,h⟩:=gd_some h
      refine ⟨by simp, ?_⟩
      refine ⟨(Row.app R_api_Sess _ _).symm, ?_⟩
      refine ⟨q25, ?_⟩
      exact lfe_of h
    · have h:=cond_f hb h
      exact lfe_of h
  · have h:=cond_f hb h
    exact lfe_of h
theorem s_oR_Sessions_Note_2_L3 (d:Nat) {p_b1:List api_Sess} {p_x:api_Sess} {s18:Bool × Int × List api_Sess} {r:(Bool × List api_Sess)} (h:oR_Sessions_Note_2_L3 p_b1 p_x s18=some r):RunX (bloop (bexec (wcalls atab (d+0)) KK 96 WB116_0) [0,3,7,8,9] KK) 2 (inL [0,3,7,8,9] (st_oR_Sessions_Note_2_L3 p_b1 p_x s18)) (fin_oR_Sessions_Note_2_L3 p_b1 p_x r) :=
  loop_of (st:=st_oR_Sessions_Note_2_L3 p_b1 p_x) (fin:=fin_oR_Sessions_Note_2_L3 p_b1 p_x) (step:=oR_Sessions_Note_2_L3_s p_b1 p_x) (fun e=>by (intro h; cases h)) (fun s x h=>b_oR_Sessions_Note_2_L3 d h) KK s18 r h
abbrev in_oR_Sessions_Note_2_J4 (x26:(Bool × List api_Sess)) (p_x:api_Sess) (p_b1:List api_Sess):Fast × WH:=([(0,(.ptr (some (0,0)))),(3,(.ptr (some (2,0)))),(7,(.acc 3 0 4 x26.2.length true)),(8,(.bool x26.1))],[(some (.cells [(.acc 1 0 4 p_b1.length true)] false false)),(some (.cells (F_api_Sess p_b1) false true)),(some (.cells (e_api_Sess p_x) false false)),(some (.cells (F_api_Sess x26.2) false true))])
def fin_oR_Sessions_Note_2_J4 (x26:(Bool × List api_Sess)) (p_x:api_Sess) (p_b1:List api_Sess):(List api_Sess)→Ex × Fast × WH:=fun e=>(.normal,[(0,(.ptr (some (0,0)))),(7,(.acc 2 0 4 e.length true))],[(some (.cells [(.acc 1 0 4 p_b1.length true)] false false)),(some (.cells (F_api_Sess p_b1) false true)),(some (.cells (F_api_Sess e) false true))])
def oR_Sessions_Note_2_J4 (x26:(Bool × List api_Sess)) (p_x:api_Sess) (p_b1:List api_Sess):Option ((List api_Sess)) :=
  cond (!x26.1) (gd (fitsB 40 (x26.2 ++ [p_x]).length) (some (x26.2 ++ [p_x]))) (some x26.2)
theorem s_oR_Sessions_Note_2_J4 (d:Nat) {x26:(Bool × List api_Sess)} {p_x:api_Sess} {p_b1:List api_Sess} {r:(List api_Sess)} (h:oR_Sessions_Note_2_J4 x26 p_x p_b1=some r):RunX (bexec (wcalls atab (d+0)) KK 96 WJ116_bbbbbba) 2 (in_oR_Sessions_Note_2_J4 x26 p_x p_b1) (fin_oR_Sessions_Note_2_J4 x26 p_x p_b1 r):=by
  have e:∀ C:ACalls,wCode C (fun _=>none) KK 96 2 WJ116_bbbbbba (in_oR_Sessions_Note_2_J4 x26 p_x p_b1).1 (in_oR_Sessions_Note_2_J4 x26 p_x p_b1).2 (.br 87 (.ap 91 (x26.2 ++ [p_x]).length (F_api_Sess (x26.2 ++ [p_x])) (.en [0,7] [none,none] [] [.undef,.slice none 4 0 0 true])) (.en [0,7] [none,none] [] [.undef,.slice none 4 0 0 true])) (fin_oR_Sessions_Note_2_J4 x26 p_x p_b1 r)=(((!x26.1)=true→(x26.2.length+1=(x26.2 ++ [p_x]).length∧(F_api_Sess x26.2 ++ F_api_Sess [p_x]=F_api_Sess (x26.2 ++ [p_x])∧(fitsB 40 (x26.2 ++ [p_x]).length=true∧lfe (fin_oR_Sessions_Note_2_J4 x26 p_x p_b1) (x26.2 ++ [p_x]) r))))∧((!x26.1)=false→lfe (fin_oR_Sessions_Note_2_J4 x26 p_x p_b1) x26.2 r)):=fun C=>by kernel_rfl
  refine runS_of (fun _ _ h=>by cases h) WJ116_bbbbbba_ok (Nat.le_of_ble_eq_true rfl) ((e _).mpr ?_)
  unfold oR_Sessions_Note_2_J4 at h
  refine ⟨fun hb=>?_,fun hb=>?_⟩
  · have h:=cond_t hb h
    obtain ⟨q27,h⟩:=gd_some h
    refine ⟨by simp, ?_⟩
    refine ⟨(Row.app R_api_Sess _ _).symm, ?_⟩
    refine ⟨q27, ?_⟩
    exact lfe_of h
  · have h:=cond_f hb h
    exact lfe_of h
def oR_Sessions_Note_2 (p_x:api_Sess) (p_b1:List api_Sess):Option (Bool × List api_Sess) :=
  (oR_Sessions_Last_2 p_x.Client p_b1).bind fun (x1:api_Sess × Bool)=>(oR_Sessions_Note_2_J0 p_x x1 p_b1).bind fun (x2:Unit ⊕ Unit)=>cond (isL x2) (some (false,p_b1)) ((oR_Sessions_Note_2_L3 p_b1 p_x (false,0,[])).bind fun (x26:(Bool × List api_Sess))=>(oR_Sessions_Note_2_J4 x26 p_x p_b1).bind fun (x28:(List api_Sess))=>some (true,x28))
def out_oR_Sessions_Note_2 (p_x:api_Sess) (p_b1:List api_Sess) (r:Bool × List api_Sess):AV × WH:=((.bool r.1),[(some (.cells [(.acc 2 0 4 r.2.length true)] false false)),none,(some (.cells (F_api_Sess r.2) false true))])
theorem s_oR_Sessions_Note_2 (d:Nat) {p_x:api_Sess} {p_b1:List api_Sess} {r:Bool × List api_Sess} (h:oR_Sessions_Note_2 p_x p_b1=some r):Spec (wcalls atab (d+2)) 116 [(.ptr (some (0,0))),(.agg (e_api_Sess p_x))] [(some (.cells [(.acc 1 0 4 p_b1.length true)] false false)),(some (.cells (F_api_Sess p_b1) false true))] (out_oR_Sessions_Note_2 p_x p_b1 r).1 (out_oR_Sessions_Note_2 p_x p_b1 r).2:=by
  obtain ⟨x1,hx1⟩:=wx (oR_Sessions_Last_2 p_x.Client p_b1)
  obtain ⟨x2,hx2⟩:=wx (oR_Sessions_Note_2_J0 p_x x1 p_b1)
  obtain ⟨x26,hx26⟩:=wx (oR_Sessions_Note_2_L3 p_b1 p_x (false,0,[]))
  obtain ⟨x28,hx28⟩:=wx (oR_Sessions_Note_2_J4 x26 p_x p_b1)
  have e:∀ C:ACalls,wBody C (fun _=>none) KK WF116 [(.ptr (some (0,0))),(.agg (e_api_Sess p_x))] [(some (.cells [(.acc 1 0 4 p_b1.length true)] false false)),(some (.cells (F_api_Sess p_b1) false true))] (.call [] none [] (.tuple [(.agg (e_api_Sess x1.1)),(.bool x1.2)]) [(some (.cells [(.acc 1 0 4 p_b1.length true)] false false)),(some (.cells (F_api_Sess p_b1) false true))] (.st none (.ite (isL x2) (.jn [0,3,5] [none,none,none] [] [] .ret [(4,(.bool false))] [(some (.cells [(.acc 1 0 4 p_b1.length true)] false false)),(some (.cells (F_api_Sess p_b1) false true))] (.fin (some false) [] (some true))) (.jn [0,3,5] [none,none,none] [] [] .normal [(0,(.ptr (some (0,0)))),(3,(.ptr (some (2,0))))] [(some (.cells [(.acc 1 0 4 p_b1.length true)] false false)),(some (.cells (F_api_Sess p_b1) false true)),(some (.cells (e_api_Sess p_x) false false))] (.z 7 [.slice none 4 0 0 true] (.lp [none,none,(some true),none,none] [] [.undef,.undef,.slice none 4 0 0 true,.undef,.undef] (.exit 0) [(0,(.ptr (some (0,0)))),(3,(.ptr (some (2,0)))),(7,(.acc 3 0 4 x26.2.length true)),(8,(.bool x26.1))] [(some (.cells [(.acc 1 0 4 p_b1.length true)] false false)),(some (.cells (F_api_Sess p_b1) false true)),(some (.cells (e_api_Sess p_x) false false)),(some (.cells (F_api_Sess x26.2) false true))] (.jn [0,3,7,8] [none,none,none,none] [] [.undef,.undef,.slice none 4 0 0 true,.undef] .normal [(0,(.ptr (some (0,0)))),(7,(.acc 2 0 4 x28.length true))] [(some (.cells [(.acc 1 0 4 p_b1.length true)] false false)),(some (.cells (F_api_Sess p_b1) false true)),(some (.cells (F_api_Sess x28) false true))] (.st none (.kl [1] (.fin (some false) [] (some true))))))))))) (out_oR_Sessions_Note_2 p_x p_b1 r).1 (out_oR_Sessions_Note_2 p_x p_b1 r).2=(2=2∧2≤96∧(Spec C 115 [(.ptr (some (0,0))),(.int .i64 p_x.Client)] [(some (.cells [(.acc 1 0 4 p_b1.length true)] false false)),(some (.cells (F_api_Sess p_b1) false true))] (.tuple [(.agg (e_api_Sess x1.1)),(.bool x1.2)]) [(some (.cells [(.acc 1 0 4 p_b1.length true)] false false)),(some (.cells (F_api_Sess p_b1) false true))]∧(2≤2∧(((isL x2)=true→(RunS (bexec C KK 96 WJ116_bba) 2 [(0,(.ptr (some (0,0)))),(3,(.ptr (some (2,0)))),(5,(.ptr (some (3,0))))] [(some (.cells [(.acc 1 0 4 p_b1.length true)] false false)),(some (.cells (F_api_Sess p_b1) false true)),(some (.cells (e_api_Sess p_x) false false)),(some (.cells (e_api_Sess x1.1) false false))] .ret [(4,(.bool false))] [(some (.cells [(.acc 1 0 4 p_b1.length true)] false false)),(some (.cells (F_api_Sess p_b1) false true))]∧lff (out_oR_Sessions_Note_2 p_x p_b1) (false,p_b1) r))∧((isL x2)=false→(RunS (bexec C KK 96 WJ116_bba) 2 [(0,(.ptr (some (0,0)))),(3,(.ptr (some (2,0)))),(5,(.ptr (some (3,0))))] [(some (.cells [(.acc 1 0 4 p_b1.length true)] false false)),(some (.cells (F_api_Sess p_b1) false true)),(some (.cells (e_api_Sess p_x) false false)),(some (.cells (e_api_Sess x1.1) false false))] .normal [(0,(.ptr (some (0,0)))),(3,(.ptr (some (2,0))))] [(some (.cells [(.acc 1 0 4 p_b1.length true)] false false)),(some (.cells (F_api_Sess p_b1) false true)),(some (.cells (e_api_Sess p_x) false false))]∧(RunS (bloop (bexec C KK 96 WB116_0) [0,3,7,8,9] KK) 2 [(0,(.ptr (some (0,0)))),(3,(.ptr (some (2,0)))),(7,(.acc 3 0 4 0 true)),(8,(.bool false)),(9,(.int .i64 0))] [(some (.cells [(.acc 1 0 4 p_b1.length true)] false false)),(some (.cells (F_api_Sess p_b1) false true)),(some (.cells (e_api_Sess p_x) false false)),(some (.cells (F_api_Sess []) false true))] (.exit 0) [(0,(.ptr (some (0,0)))),(3,(.ptr (some (2,0)))),(7,(.acc 3 0 4 x26.2.length true)),(8,(.bool x26.1))] [(some (.cells [(.acc 1 0 4 p_b1.length true)] false false)),(some (.cells (F_api_Sess p_b1) false true)),(some (.cells (e_api_Sess p_x) false false)),(some (.cells (F_api_Sess x26.2) false true))]∧(RunS (bexec C KK 96 WJ116_bbbbbba) 2 [(0,(.ptr (some (0,0)))),(3,(.ptr (some (2,0)))),(7,(.acc 3 0 4 x26.2.length true)),(8,(.bool x26.1))] [(some (.cells [(.acc 1 0 4 p_b1.length true)] false false)),(some (.cells (F_api_Sess p_b1) false true)),(some (.cells (e_api_Sess p_x) false false)),(some (.cells (F_api_Sess x26.2) false true))] .normal [(0,(.ptr (some (0,0)))),(7,(.acc 2 0 4 x28.length true))] [(some (.cells [(.acc 1 0 4 p_b1.length true)] false false)),(some (.cells (F_api_Sess p_b1) false true)),(some (.cells (F_api_Sess x28) false true))]∧lff (out_oR_Sessions_Note_2 p_x p_b1) (true,x28) r)))))))):=fun C=>by kernel_rfl
  refine spec_of (fun _ _ h=>by cases h) rfl atab_116 WF116_ok ((e _).mpr ⟨rfl,by decide, ?_⟩)
  unfold oR_Sessions_Note_2 at h
  obtain ⟨q1,h⟩:=bget hx1 h
  refine ⟨s_oR_Sessions_Last_2 (d+0) q1, ?_⟩
  refine ⟨by decide, ?_⟩
  obtain ⟨q2,h⟩:=bget hx2 h
  refine ⟨fun hb3=>?_,fun hb3=>?_⟩
  · have h:=cond_t hb3 h
    refine ⟨by have h:=s_oR_Sessions_Note_2_J0 (d+1) q2; rw [isL_t hb3] at h; exact h, ?_⟩
    exact lff_of h
  · have h:=cond_f hb3 h
    refine ⟨by have h:=s_oR_Sessions_Note_2_J0 (d+1) q2; rw [isL_f hb3] at h; exact h, ?_⟩
    obtain ⟨q26,h⟩:=bget hx26 h
    refine ⟨s_oR_Sessions_Note_2_L3 (d+1) q26, ?_⟩
    obtain ⟨q28,h⟩:=bget hx28 h
    refine ⟨s_oR_Sessions_Note_2_J4 (d+1) q28, ?_⟩
    exact lff_of h
def st_oR_SessionsOf_L0 (l:List api_Sess) (s5:Int × List api_Sess):List AV × WH:=([(l_api_Sess l),(.ptr (some (0,0))),(.ptr (some (1,0))),(.int .i64 s5.1)],[(some (.cells [(.acc 2 0 4 0 true)] false false)),(some (.cells [(.acc 3 0 4 s5.2.length true)] false false)),(some (.cells (F_api_Sess []) false true)),(some (.cells (F_api_Sess s5.2) false true))])
def fin_oR_SessionsOf_L0 (l:List api_Sess):(List api_Sess)→Ex × Fast × WH:=fun e=>((.exit 0),[(2,(.ptr (some (0,0)))),(3,(.ptr (some (1,0))))],[(some (.cells [(.acc 2 0 4 0 true)] false false)),(some (.cells [(.acc 3 0 4 e.length true)] false false)),(some (.cells (F_api_Sess []) false true)),(some (.cells (F_api_Sess e) false true))])
abbrev rx_oR_SessionsOf_L0 (l:List api_Sess):=roundX [0,2,3,4] (st_oR_SessionsOf_L0 l) (fin_oR_SessionsOf_L0 l)
def oR_SessionsOf_L0_s (l:List api_Sess) (s5:Int × List api_Sess):Option ((Int × List api_Sess) ⊕ ((List api_Sess))) :=
  cond (decide (s5.1 < (l.length:Int))) ((getI l s5.1).bind fun (x6:api_Sess)=>(oR_Sessions_Note_2 x6 s5.2).bind fun (x7:Bool × List api_Sess)=>some (.inl ((IntKind.i64.wrap (s5.1+1)),x7.2))) (some (.inr s5.2))
def oR_SessionsOf_L0 (l:List api_Sess) (s5:Int × List api_Sess):Option ((List api_Sess)):=loopX (oR_SessionsOf_L0_s l) KK s5
theorem b_oR_SessionsOf_L0 (d:Nat) {l:List api_Sess} {s5:Int × List api_Sess} {r:(Int × List api_Sess) ⊕ ((List api_Sess))} (h:oR_SessionsOf_L0_s l s5=some r):RunX (bexec (wcalls atab (d+2)) KK 18 WB113_0) 0 (inL [0,2,3,4] (st_oR_SessionsOf_L0 l s5)) (rx_oR_SessionsOf_L0 l r):=by
  obtain ⟨x6,hx6⟩:=wx (getI l s5.1)
  obtain ⟨x7,hx7⟩:=wx (oR_Sessions_Note_2 x6 s5.2)
  have e:∀ C:ACalls,wCode C (fun _=>none) KK 18 0 WB113_0 (inL [0,2,3,4] (st_oR_SessionsOf_L0 l s5)).1 (inL [0,2,3,4] (st_oR_SessionsOf_L0 l s5)).2 (.br 9 (.v 14 (.elem ((e_api_Sess x6) ++ F_api_Sess (l.drop (s5.1.toNat+1)))) (.call [] none [] (.bool x7.1) [(some (.cells [(.acc 2 0 4 x7.2.length true)] false false)),none,(some (.cells (F_api_Sess x7.2) false true))] (.en [0,2,3,4] [none,none,none,none] [] [.slice none 4 0 0 true,.undef,.undef,.undef]))) (.en [2,3] [none,none] [] [])) (rx_oR_SessionsOf_L0 l r)=(((decide (s5.1 < (l.length:Int)))=true→(wP (.idxSlice 4 (.c (l_api_Sess l)) (.c (.int .i64 s5.1)))=some (.elem ((e_api_Sess x6) ++ F_api_Sess (l.drop (s5.1.toNat+1))))∧(Spec C 116 [(.ptr (some (0,0))),(.agg (e_api_Sess x6))] [(some (.cells [(.acc 1 0 4 s5.2.length true)] false false)),(some (.cells (F_api_Sess s5.2) false true))] (.bool x7.1) [(some (.cells [(.acc 2 0 4 x7.2.length true)] false false)),none,(some (.cells (F_api_Sess x7.2) false true))]∧(2≤3∧lfe (rx_oR_SessionsOf_L0 l) (.inl ((IntKind.i64.wrap (s5.1+1)),x7.2)) r))))∧((decide (s5.1 < (l.length:Int)))=false→lfe (rx_oR_SessionsOf_L0 l) (.inr s5.2) r)):=fun C=>by kernel_rfl
  refine runS_of (fun _ _ h=>by cases h) WB113_0_ok (Nat.le_of_ble_eq_true rfl) ((e _).mpr ?_)
  unfold oR_SessionsOf_L0_s at h
  refine ⟨fun hb=>?_,fun hb=>?_⟩
  · have h:=cond_t hb h
    obtain ⟨q6,h⟩:=bget hx6 h
    refine ⟨wP_idx R_api_Sess q6, ?_⟩
    obtain ⟨q7,h⟩:=bget hx7 h
    refine ⟨s_oR_Sessions_Note_2 (d+0) q7, ?_⟩
    refine ⟨by decide, ?_⟩
    exact lfe_of h
  · have h:=cond_f hb h
    exact lfe_of h
theorem s_oR_SessionsOf_L0 (d:Nat) {l:List api_Sess} {s5:Int × List api_Sess} {r:(List api_Sess)} (h:oR_SessionsOf_L0 l s5=some r):RunX (bloop (bexec (wcalls atab (d+2)) KK 18 WB113_0) [0,2,3,4] KK) 0 (inL [0,2,3,4] (st_oR_SessionsOf_L0 l s5)) (fin_oR_SessionsOf_L0 l r) :=
  loop_of (st:=st_oR_SessionsOf_L0 l) (fin:=fin_oR_SessionsOf_L0 l) (step:=oR_SessionsOf_L0_s l) (fun e=>by (intro h; cases h)) (fun s x h=>b_oR_SessionsOf_L0 d h) KK s5 r h
def oR_SessionsOf (l:List api_Sess):Option (oR_Sessions) :=
  (oR_SessionsOf_L0 l (0,[])).bind fun (x8:(List api_Sess))=>some (⟨x8⟩:oR_Sessions)
def out_oR_SessionsOf (l:List api_Sess) (r:oR_Sessions):AV × WH:=((.agg (e_oR_Sessions r)),[])
theorem s_oR_SessionsOf (d:Nat) {l:List api_Sess} {r:oR_Sessions} (h:oR_SessionsOf l=some r):Spec (wcalls atab (d+3)) 113 [(l_api_Sess l)] [] (out_oR_SessionsOf l r).1 (out_oR_SessionsOf l r).2:=by
  obtain ⟨x8,hx8⟩:=wx (oR_SessionsOf_L0 l (0,[]))
  have e:∀ C:ACalls,wBody C (fun _=>none) KK WF113 [(l_api_Sess l)] [] (.z 2 [.slice none 4 0 0 true] (.z 5 [.agg [.slice none 4 0 0 true]] (.z 3 [.slice none 4 0 0 true] (.st none (.lp [none,none,none,none] [(some true),(some true),(some true),(some true)] [.slice none 4 0 0 true,.undef,.undef,.undef] (.exit 0) [(2,(.ptr (some (0,0)))),(3,(.ptr (some (1,0))))] [(some (.cells [(.acc 2 0 4 0 true)] false false)),(some (.cells [(.acc 3 0 4 x8.length true)] false false)),(some (.cells (F_api_Sess []) false true)),(some (.cells (F_api_Sess x8) false true))] (.st none (.fin (some false) [.agg [.slice none 4 0 0 true]] none))))))) (out_oR_SessionsOf l r).1 (out_oR_SessionsOf l r).2=(1=1∧1≤18∧(RunS (bloop (bexec C KK 18 WB113_0) [0,2,3,4] KK) 0 [(0,(l_api_Sess l)),(2,(.ptr (some (0,0)))),(3,(.ptr (some (1,0)))),(4,(.int .i64 0))] [(some (.cells [(.acc 2 0 4 0 true)] false false)),(some (.cells [(.acc 3 0 4 0 true)] false false)),(some (.cells (F_api_Sess []) false true)),(some (.cells (F_api_Sess []) false true))] (.exit 0) [(2,(.ptr (some (0,0)))),(3,(.ptr (some (1,0))))] [(some (.cells [(.acc 2 0 4 0 true)] false false)),(some (.cells [(.acc 3 0 4 x8.length true)] false false)),(some (.cells (F_api_Sess []) false true)),(some (.cells (F_api_Sess x8) false true))]∧lff (out_oR_SessionsOf l) (⟨x8⟩:oR_Sessions) r)):=fun C=>by kernel_rfl
  refine spec_of (fun _ _ h=>by cases h) rfl atab_113 WF113_ok ((e _).mpr ⟨rfl,by decide, ?_⟩)
  unfold oR_SessionsOf at h
  obtain ⟨q8,h⟩:=bget hx8 h
  refine ⟨s_oR_SessionsOf_L0 (d+0) q8, ?_⟩
  exact lff_of h
def oR_ShardFrom (p_x:api_Image):Option (oR_Shard) :=
  (oR_TableOf p_x.Pairs).bind fun (x1:oR_Table)=>(oR_SessionsOf p_x.Sess).bind fun (x2:oR_Sessions)=>some (⟨x1,x2,p_x.Shard,p_x.Epoch⟩:oR_Shard)
def out_oR_ShardFrom (p_x:api_Image) (r:oR_Shard):AV × WH:=((.ptr (some (0,0))),[(some (.cells (e_oR_Shard r) false false))])
theorem s_oR_ShardFrom (d:Nat) {p_x:api_Image} {r:oR_Shard} (h:oR_ShardFrom p_x=some r):Spec (wcalls atab (d+4)) 76 [(.agg (e_api_Image p_x))] [] (out_oR_ShardFrom p_x r).1 (out_oR_ShardFrom p_x r).2:=by
  obtain ⟨x1,hx1⟩:=wx (oR_TableOf p_x.Pairs)
  obtain ⟨x2,hx2⟩:=wx (oR_SessionsOf p_x.Sess)
  have e:∀ C:ACalls,wBody C (fun _=>none) KK WF76 [(.agg (e_api_Image p_x))] [] (.call [] (some false) [.slice none 2 0 0 true] (.agg (e_oR_Table x1)) [] (.call [] (some false) [.slice none 4 0 0 true] (.agg (e_oR_Sessions x2)) [] (.fin (some false) [] none))) (out_oR_ShardFrom p_x r).1 (out_oR_ShardFrom p_x r).2=(1=1∧1≤15∧(Spec C 60 [(l_api_Pair p_x.Pairs)] [] (.agg (e_oR_Table x1)) []∧(0≤0∧(Spec C 113 [(l_api_Sess p_x.Sess)] [] (.agg (e_oR_Sessions x2)) []∧(0≤0∧lff (out_oR_ShardFrom p_x) (⟨x1,x2,p_x.Shard,p_x.Epoch⟩:oR_Shard) r))))):=fun C=>by kernel_rfl
  refine spec_of (fun _ _ h=>by cases h) rfl atab_76 WF76_ok ((e _).mpr ⟨rfl,by decide, ?_⟩)
  unfold oR_ShardFrom at h
  obtain ⟨q1,h⟩:=bget hx1 h
  refine ⟨s_oR_TableOf (d+0) q1, ?_⟩
  refine ⟨by decide, ?_⟩
  obtain ⟨q2,h⟩:=bget hx2 h
  refine ⟨s_oR_SessionsOf (d+0) q2, ?_⟩
  refine ⟨by decide, ?_⟩
  exact lff_of h
def oR_RightReq (p_r:api_Req):Option (Bool) :=
  cond (decide (p_r.Client ≥ 0)) (cond (decide (p_r.Client < 4)) (cond (decide (p_r.Seq ≥ 1)) (cond (decide (p_r.Seq≤4611686018427387903)) ((oR_RightOp p_r.Op).bind fun (x1:Bool)=>some x1) (some false)) (some false)) (some false)) (some false)
def out_oR_RightReq (p_r:api_Req) (r:Bool):AV × WH:=((.bool r),[])
theorem s_oR_RightReq (d:Nat) {p_r:api_Req} {r:Bool} (h:oR_RightReq p_r=some r):Spec (wcalls atab (d+2)) 114 [(.agg (e_api_Req p_r))] [] (out_oR_RightReq p_r r).1 (out_oR_RightReq p_r r).2:=by
  obtain ⟨x1,hx1⟩:=wx (oR_RightOp p_r.Op)
  have e:∀ C:ACalls,wBody C (fun _=>none) KK WF114 [(.agg (e_api_Req p_r))] [] (.br 6 (.br 11 (.br 16 (.br 21 (.cb [] [] (.bool x1) (.fin (some false) [] none)) (.fin (some false) [] none)) (.fin (some false) [] none)) (.fin (some false) [] none)) (.fin (some false) [] none)) (out_oR_RightReq p_r r).1 (out_oR_RightReq p_r r).2=(1=1∧1≤26∧(((decide (p_r.Client ≥ 0))=true→(((decide (p_r.Client < 4))=true→(((decide (p_r.Seq ≥ 1))=true→(((decide (p_r.Seq≤4611686018427387903))=true→(Spec C 63 [(.agg (e_api_Op p_r.Op))] [] (.bool x1) []∧lff (out_oR_RightReq p_r) x1 r))∧((decide (p_r.Seq≤4611686018427387903))=false→lff (out_oR_RightReq p_r) false r)))∧((decide (p_r.Seq ≥ 1))=false→lff (out_oR_RightReq p_r) false r)))∧((decide (p_r.Client < 4))=false→lff (out_oR_RightReq p_r) false r)))∧((decide (p_r.Client ≥ 0))=false→lff (out_oR_RightReq p_r) false r))):=fun C=>by kernel_rfl
  refine spec_of (fun _ _ h=>by cases h) rfl atab_114 WF114_ok ((e _).mpr ⟨rfl,by decide, ?_⟩)
  unfold oR_RightReq at h
  refine ⟨fun hb=>?_,fun hb=>?_⟩
  · have h:=cond_t hb h
    refine ⟨fun hb=>?_,fun hb=>?_⟩
    · have h:=cond_t hb h
      refine ⟨fun hb=>?_,fun hb=>?_⟩
      · have h:=cond_t hb h
        refine ⟨fun hb=>?_,fun hb=>?_⟩
        · have h:=cond_t hb h
          obtain ⟨q1,h⟩:=bget hx1 h
          refine ⟨s_oR_RightOp (d+0) q1, ?_⟩
          exact lff_of h
        · have h:=cond_f hb h
          exact lff_of h
      · have h:=cond_f hb h
        exact lff_of h
    · have h:=cond_f hb h
      exact lff_of h
  · have h:=cond_f hb h
    exact lff_of h
def st_oR_Sessions_Last_3_L0 (p_s:oR_Shard) (client:Int) (s3:Int):List AV × WH:=([(.ptr (some (0,1))),(.int .i64 client),(.ptr (some (1,0))),(.int .i64 s3)],[(some (.cells (e_oR_Shard p_s) false false)),(some (.cells (e_api_Sess (⟨0,0,(⟨0,([]:List UInt8)⟩:api_Answer)⟩:api_Sess)) false false))])
def fin_oR_Sessions_Last_3_L0 (p_s:oR_Shard) (client:Int):api_Sess ⊕ Unit→Ex × Fast × WH:=fun
  | .inl e=>(.ret,[(4,(.ptr (some (1,0)))),(5,(.bool true))],[(some (.cells (e_oR_Shard p_s) false false)),(some (.cells (e_api_Sess e) false false))])
  | .inr e=>((.exit 0),[(4,(.ptr (some (1,0))))],[(some (.cells (e_oR_Shard p_s) false false)),(some (.cells (e_api_Sess (⟨0,0,(⟨0,([]:List UInt8)⟩:api_Answer)⟩:api_Sess)) false false))])
abbrev rx_oR_Sessions_Last_3_L0 (p_s:oR_Shard) (client:Int):=roundX [0,1,4,6] (st_oR_Sessions_Last_3_L0 p_s client) (fin_oR_Sessions_Last_3_L0 p_s client)
def oR_Sessions_Last_3_L0_s (p_s:oR_Shard) (client:Int) (s3:Int):Option ((Int) ⊕ (api_Sess ⊕ Unit)) :=
  cond (decide (s3 < (p_s.S_.L.length:Int))) ((getI p_s.S_.L s3).bind fun (x4:api_Sess)=>cond (x4.Client == client) ((getI p_s.S_.L s3).bind fun (x5:api_Sess)=>some (.inr (.inl x5))) (some (.inl (IntKind.i64.wrap (s3+1))))) (some (.inr (.inr ())))
def oR_Sessions_Last_3_L0 (p_s:oR_Shard) (client:Int) (s3:Int):Option (api_Sess ⊕ Unit):=loopX (oR_Sessions_Last_3_L0_s p_s client) KK s3
theorem b_oR_Sessions_Last_3_L0 (d:Nat) {p_s:oR_Shard} {client:Int} {s3:Int} {r:(Int) ⊕ (api_Sess ⊕ Unit)} (h:oR_Sessions_Last_3_L0_s p_s client s3=some r):RunX (bexec (wcalls atab (d+0)) KK 34 WB115_0) 1 (inL [0,1,4,6] (st_oR_Sessions_Last_3_L0 p_s client s3)) (rx_oR_Sessions_Last_3_L0 p_s client r):=by
  obtain ⟨x4,hx4⟩:=wx (getI p_s.S_.L s3)
  obtain ⟨x5,hx5⟩:=wx (getI p_s.S_.L s3)
  have e:∀ C:ACalls,wCode C (fun _=>none) KK 34 1 WB115_0 (inL [0,1,4,6] (st_oR_Sessions_Last_3_L0 p_s client s3)).1 (inL [0,1,4,6] (st_oR_Sessions_Last_3_L0 p_s client s3)).2 (.br 13 (.v 21 (.elem ((e_api_Sess x4) ++ F_api_Sess (p_s.S_.L.drop (s3.toNat+1)))) (.br 25 (.v 31 (.elem ((e_api_Sess x5) ++ F_api_Sess (p_s.S_.L.drop (s3.toNat+1)))) (.st none (.en [4,5] [none,none] [] []))) (.en [0,1,4,6] [none,none,none,none] [] []))) (.en [4] [none] [] [])) (rx_oR_Sessions_Last_3_L0 p_s client r)=(((decide (s3 < (p_s.S_.L.length:Int)))=true→(wP (.idxSlice 4 (.c (l_api_Sess p_s.S_.L)) (.c (.int .i64 s3)))=some (.elem ((e_api_Sess x4) ++ F_api_Sess (p_s.S_.L.drop (s3.toNat+1))))∧(((x4.Client == client)=true→(wP (.idxSlice 4 (.c (l_api_Sess p_s.S_.L)) (.c (.int .i64 s3)))=some (.elem ((e_api_Sess x5) ++ F_api_Sess (p_s.S_.L.drop (s3.toNat+1))))∧lfe (rx_oR_Sessions_Last_3_L0 p_s client) (.inr (.inl x5)) r))∧((x4.Client == client)=false→lfe (rx_oR_Sessions_Last_3_L0 p_s client) (.inl (IntKind.i64.wrap (s3+1))) r))))∧((decide (s3 < (p_s.S_.L.length:Int)))=false→lfe (rx_oR_Sessions_Last_3_L0 p_s client) (.inr (.inr ())) r)):=fun C=>by kernel_rfl
  refine runS_of (fun _ _ h=>by cases h) WB115_0_ok (Nat.le_of_ble_eq_true rfl) ((e _).mpr ?_)
  unfold oR_Sessions_Last_3_L0_s at h
  refine ⟨fun hb=>?_,fun hb=>?_⟩
  · have h:=cond_t hb h
    obtain ⟨q4,h⟩:=bget hx4 h
    refine ⟨wP_idx R_api_Sess q4, ?_⟩
    refine ⟨fun hb=>?_,fun hb=>?_⟩
    · have h:=cond_t hb h
      obtain ⟨q5,h⟩:=bget hx5 h
      refine ⟨wP_idx R_api_Sess q5, ?_⟩
      exact lfe_of h
    · have h:=cond_f hb h
      exact lfe_of h
  · have h:=cond_f hb h
    exact lfe_of h
theorem s_oR_Sessions_Last_3_L0 (d:Nat) {p_s:oR_Shard} {client:Int} {s3:Int} {r:api_Sess ⊕ Unit} (h:oR_Sessions_Last_3_L0 p_s client s3=some r):RunX (bloop (bexec (wcalls atab (d+0)) KK 34 WB115_0) [0,1,4,6] KK) 1 (inL [0,1,4,6] (st_oR_Sessions_Last_3_L0 p_s client s3)) (fin_oR_Sessions_Last_3_L0 p_s client r) :=
  loop_of (st:=st_oR_Sessions_Last_3_L0 p_s client) (fin:=fin_oR_Sessions_Last_3_L0 p_s client) (step:=oR_Sessions_Last_3_L0_s p_s client) (fun e=>by rcases e with e | e <;> (intro h; cases h)) (fun s x h=>b_oR_Sessions_Last_3_L0 d h) KK s3 r h
def oR_Sessions_Last_3 (client:Int) (p_s:oR_Shard):Option (api_Sess × Bool) :=
  (oR_Sessions_Last_3_L0 p_s client 0).bind fun (x6:api_Sess ⊕ Unit)=>cond (isL x6) (some ((getL x6),true)) (some ((⟨0,0,(⟨0,([]:List UInt8)⟩:api_Answer)⟩:api_Sess),false))
def out_oR_Sessions_Last_3 (client:Int) (p_s:oR_Shard) (r:api_Sess × Bool):AV × WH:=((.tuple [(.agg (e_api_Sess r.1)),(.bool r.2)]),[(some (.cells (e_oR_Shard p_s) false false))])
theorem s_oR_Sessions_Last_3 (d:Nat) {client:Int} {p_s:oR_Shard} {r:api_Sess × Bool} (h:oR_Sessions_Last_3 client p_s=some r):Spec (wcalls atab (d+1)) 115 [(.ptr (some (0,1))),(.int .i64 client)] [(some (.cells (e_oR_Shard p_s) false false))] (out_oR_Sessions_Last_3 client p_s r).1 (out_oR_Sessions_Last_3 client p_s r).2:=by
  obtain ⟨x6,hx6⟩:=wx (oR_Sessions_Last_3_L0 p_s client 0)
  have e:∀ C:ACalls,wBody C (fun _=>none) KK WF115 [(.ptr (some (0,1))),(.int .i64 client)] [(some (.cells (e_oR_Shard p_s) false false))] (.ite (isL x6) (.lp [none,none,none,none] [] [] .ret [(4,(.ptr (some (1,0)))),(5,(.bool true))] [(some (.cells (e_oR_Shard p_s) false false)),(some (.cells (e_api_Sess (getL x6)) false false))] (.fin (some false) [] none)) (.lp [none,none,none,none] [] [] (.exit 0) [(4,(.ptr (some (1,0))))] [(some (.cells (e_oR_Shard p_s) false false)),(some (.cells (e_api_Sess (⟨0,0,(⟨0,([]:List UInt8)⟩:api_Answer)⟩:api_Sess)) false false))] (.st none (.fin (some false) [] none)))) (out_oR_Sessions_Last_3 client p_s r).1 (out_oR_Sessions_Last_3 client p_s r).2=(2=2∧2≤34∧(((isL x6)=true→(RunS (bloop (bexec C KK 34 WB115_0) [0,1,4,6] KK) 1 [(0,(.ptr (some (0,1)))),(1,(.int .i64 client)),(4,(.ptr (some (1,0)))),(6,(.int .i64 0))] [(some (.cells (e_oR_Shard p_s) false false)),(some (.cells (e_api_Sess (⟨0,0,(⟨0,([]:List UInt8)⟩:api_Answer)⟩:api_Sess)) false false))] .ret [(4,(.ptr (some (1,0)))),(5,(.bool true))] [(some (.cells (e_oR_Shard p_s) false false)),(some (.cells (e_api_Sess (getL x6)) false false))]∧lff (out_oR_Sessions_Last_3 client p_s) ((getL x6),true) r))∧((isL x6)=false→(RunS (bloop (bexec C KK 34 WB115_0) [0,1,4,6] KK) 1 [(0,(.ptr (some (0,1)))),(1,(.int .i64 client)),(4,(.ptr (some (1,0)))),(6,(.int .i64 0))] [(some (.cells (e_oR_Shard p_s) false false)),(some (.cells (e_api_Sess (⟨0,0,(⟨0,([]:List UInt8)⟩:api_Answer)⟩:api_Sess)) false false))] (.exit 0) [(4,(.ptr (some (1,0))))] [(some (.cells (e_oR_Shard p_s) false false)),(some (.cells (e_api_Sess (⟨0,0,(⟨0,([]:List UInt8)⟩:api_Answer)⟩:api_Sess)) false false))]∧lff (out_oR_Sessions_Last_3 client p_s) ((⟨0,0,(⟨0,([]:List UInt8)⟩:api_Answer)⟩:api_Sess),false) r)))):=fun C=>by kernel_rfl
  refine spec_of (fun _ _ h=>by cases h) rfl atab_115 WF115_ok ((e _).mpr ⟨rfl,by decide, ?_⟩)
  unfold oR_Sessions_Last_3 at h
  obtain ⟨q6,h⟩:=bget hx6 h
  refine ⟨fun hb7=>?_,fun hb7=>?_⟩
  · have h:=cond_t hb7 h
    refine ⟨by have h:=s_oR_Sessions_Last_3_L0 (d+0) q6; rw [isL_t hb7] at h; exact h, ?_⟩
    exact lff_of h
  · have h:=cond_f hb7 h
    refine ⟨by have h:=s_oR_Sessions_Last_3_L0 (d+0) q6; rw [isL_f hb7] at h; exact h, ?_⟩
    exact lff_of h
def st_oR_Table_find_4_L0 (t:oR_Shard) (key:List UInt8) (s3:Int):List AV × WH:=([(.ptr (some (0,0))),(.str key),(.int .i64 s3)],[(some (.cells (e_oR_Shard t) false false))])
def fin_oR_Table_find_4_L0 (t:oR_Shard) (key:List UInt8):(Int × Bool) ⊕ Unit→Ex × Fast × WH:=fun
  | .inl e=>(.ret,[(4,(.int .i64 e.1)),(5,(.bool e.2))],[(some (.cells (e_oR_Shard t) false false))])
  | .inr e=>((.exit 0),[(0,(.ptr (some (0,0))))],[(some (.cells (e_oR_Shard t) false false))])
abbrev rx_oR_Table_find_4_L0 (t:oR_Shard) (key:List UInt8):=roundX [0,1,6] (st_oR_Table_find_4_L0 t key) (fin_oR_Table_find_4_L0 t key)
def oR_Table_find_4_L0_s (t:oR_Shard) (key:List UInt8) (s3:Int):Option ((Int) ⊕ ((Int × Bool) ⊕ Unit)) :=
  cond (decide (s3 < (t.T.L.length:Int))) ((getI t.T.L s3).bind fun (x4:api_Pair)=>cond (!(Op.bytesLess x4.Key key)) ((getI t.T.L s3).bind fun (x5:api_Pair)=>some (.inr (.inl (s3,(x5.Key == key))))) (some (.inl (IntKind.i64.wrap (s3+1))))) (some (.inr (.inr ())))
def oR_Table_find_4_L0 (t:oR_Shard) (key:List UInt8) (s3:Int):Option ((Int × Bool) ⊕ Unit):=loopX (oR_Table_find_4_L0_s t key) KK s3
theorem b_oR_Table_find_4_L0 (d:Nat) {t:oR_Shard} {key:List UInt8} {s3:Int} {r:(Int) ⊕ ((Int × Bool) ⊕ Unit)} (h:oR_Table_find_4_L0_s t key s3=some r):RunX (bexec (wcalls atab (d+0)) KK 42 WB104_0) 1 (inL [0,1,6] (st_oR_Table_find_4_L0 t key s3)) (rx_oR_Table_find_4_L0 t key r):=by
  obtain ⟨x4,hx4⟩:=wx (getI t.T.L s3)
  obtain ⟨x5,hx5⟩:=wx (getI t.T.L s3)
  have e:∀ C:ACalls,wCode C (fun _=>none) KK 42 1 WB104_0 (inL [0,1,6] (st_oR_Table_find_4_L0 t key s3)).1 (inL [0,1,6] (st_oR_Table_find_4_L0 t key s3)).2 (.br 13 (.v 21 (.elem ((e_api_Pair x4) ++ F_api_Pair (t.T.L.drop (s3.toNat+1)))) (.br 25 (.v 32 (.elem ((e_api_Pair x5) ++ F_api_Pair (t.T.L.drop (s3.toNat+1)))) (.en [4,5] [none,none] [] [])) (.en [0,1,6] [none,none,none] [] []))) (.en [0] [none] [] [])) (rx_oR_Table_find_4_L0 t key r)=(((decide (s3 < (t.T.L.length:Int)))=true→(wP (.idxSlice 2 (.c (l_api_Pair t.T.L)) (.c (.int .i64 s3)))=some (.elem ((e_api_Pair x4) ++ F_api_Pair (t.T.L.drop (s3.toNat+1))))∧(((!(Op.bytesLess x4.Key key))=true→(wP (.idxSlice 2 (.c (l_api_Pair t.T.L)) (.c (.int .i64 s3)))=some (.elem ((e_api_Pair x5) ++ F_api_Pair (t.T.L.drop (s3.toNat+1))))∧lfe (rx_oR_Table_find_4_L0 t key) (.inr (.inl (s3,(x5.Key == key)))) r))∧((!(Op.bytesLess x4.Key key))=false→lfe (rx_oR_Table_find_4_L0 t key) (.inl (IntKind.i64.wrap (s3+1))) r))))∧((decide (s3 < (t.T.L.length:Int)))=false→lfe (rx_oR_Table_find_4_L0 t key) (.inr (.inr ())) r)):=fun C=>by kernel_rfl
  refine runS_of (fun _ _ h=>by cases h) WB104_0_ok (Nat.le_of_ble_eq_true rfl) ((e _).mpr ?_)
  unfold oR_Table_find_4_L0_s at h
  refine ⟨fun hb=>?_,fun hb=>?_⟩
  · have h:=cond_t hb h
    obtain ⟨q4,h⟩:=bget hx4 h
    refine ⟨wP_idx R_api_Pair q4, ?_⟩
    refine ⟨fun hb=>?_,fun hb=>?_⟩
    · have h:=cond_t hb h
      obtain ⟨q5,h⟩:=bget hx5 h
      refine ⟨wP_idx R_api_Pair q5, ?_⟩
      exact lfe_of h
    · have h:=cond_f hb h
      exact lfe_of h
  · have h:=cond_f hb h
    exact lfe_of h
theorem s_oR_Table_find_4_L0 (d:Nat) {t:oR_Shard} {key:List UInt8} {s3:Int} {r:(Int × Bool) ⊕ Unit} (h:oR_Table_find_4_L0 t key s3=some r):RunX (bloop (bexec (wcalls atab (d+0)) KK 42 WB104_0) [0,1,6] KK) 1 (inL [0,1,6] (st_oR_Table_find_4_L0 t key s3)) (fin_oR_Table_find_4_L0 t key r) :=
  loop_of (st:=st_oR_Table_find_4_L0 t key) (fin:=fin_oR_Table_find_4_L0 t key) (step:=oR_Table_find_4_L0_s t key) (fun e=>by rcases e with e | e <;> (intro h; cases h)) (fun s x h=>b_oR_Table_find_4_L0 d h) KK s3 r h
def oR_Table_find_4 (key:List UInt8) (t:oR_Shard):Option (Int × Bool) :=
  (oR_Table_find_4_L0 t key 0).bind fun (x6:(Int × Bool) ⊕ Unit)=>cond (isL x6) (some ((getL x6).1,(getL x6).2)) (some ((t.T.L.length:Int),false))
def out_oR_Table_find_4 (key:List UInt8) (t:oR_Shard) (r:Int × Bool):AV × WH:=((.tuple [(.int .i64 r.1),(.bool r.2)]),[(some (.cells (e_oR_Shard t) false false))])
theorem s_oR_Table_find_4 (d:Nat) {key:List UInt8} {t:oR_Shard} {r:Int × Bool} (h:oR_Table_find_4 key t=some r):Spec (wcalls atab (d+1)) 104 [(.ptr (some (0,0))),(.str key)] [(some (.cells (e_oR_Shard t) false false))] (out_oR_Table_find_4 key t r).1 (out_oR_Table_find_4 key t r).2:=by
  obtain ⟨x6,hx6⟩:=wx (oR_Table_find_4_L0 t key 0)
  have e:∀ C:ACalls,wBody C (fun _=>none) KK WF104 [(.ptr (some (0,0))),(.str key)] [(some (.cells (e_oR_Shard t) false false))] (.ite (isL x6) (.lp [none,none,none] [] [] .ret [(4,(.int .i64 (getL x6).1)),(5,(.bool (getL x6).2))] [(some (.cells (e_oR_Shard t) false false))] (.fin (some false) [] none)) (.lp [none,none,none] [] [] (.exit 0) [(0,(.ptr (some (0,0))))] [(some (.cells (e_oR_Shard t) false false))] (.fin (some false) [] none))) (out_oR_Table_find_4 key t r).1 (out_oR_Table_find_4 key t r).2=(2=2∧2≤42∧(((isL x6)=true→(RunS (bloop (bexec C KK 42 WB104_0) [0,1,6] KK) 1 [(0,(.ptr (some (0,0)))),(1,(.str key)),(6,(.int .i64 0))] [(some (.cells (e_oR_Shard t) false false))] .ret [(4,(.int .i64 (getL x6).1)),(5,(.bool (getL x6).2))] [(some (.cells (e_oR_Shard t) false false))]∧lff (out_oR_Table_find_4 key t) ((getL x6).1,(getL x6).2) r))∧((isL x6)=false→(RunS (bloop (bexec C KK 42 WB104_0) [0,1,6] KK) 1 [(0,(.ptr (some (0,0)))),(1,(.str key)),(6,(.int .i64 0))] [(some (.cells (e_oR_Shard t) false false))] (.exit 0) [(0,(.ptr (some (0,0))))] [(some (.cells (e_oR_Shard t) false false))]∧lff (out_oR_Table_find_4 key t) ((t.T.L.length:Int),false) r)))):=fun C=>by kernel_rfl
  refine spec_of (fun _ _ h=>by cases h) rfl atab_104 WF104_ok ((e _).mpr ⟨rfl,by decide, ?_⟩)
  unfold oR_Table_find_4 at h
  obtain ⟨q6,h⟩:=bget hx6 h
  refine ⟨fun hb7=>?_,fun hb7=>?_⟩
  · have h:=cond_t hb7 h
    refine ⟨by have h:=s_oR_Table_find_4_L0 (d+0) q6; rw [isL_t hb7] at h; exact h, ?_⟩
    exact lff_of h
  · have h:=cond_f hb7 h
    refine ⟨by have h:=s_oR_Table_find_4_L0 (d+0) q6; rw [isL_f hb7] at h; exact h, ?_⟩
    exact lff_of h
abbrev in_oR_Table_Do_4_J0 (x2:Int × Bool) (t:oR_Shard) (o:api_Op):Fast × WH:=([(0,(.ptr (some (0,0)))),(3,(.ptr (some (1,0)))),(4,(.ptr (some (2,0)))),(5,(.int .i64 x2.1)),(6,(.bool x2.2))],[(some (.cells (e_oR_Shard t) false false)),(some (.cells (e_api_Op o) false false)),(some (.cells (e_api_Answer (⟨0,([]:List UInt8)⟩:api_Answer)) false false))])
def fin_oR_Table_Do_4_J0 (x2:Int × Bool) (t:oR_Shard) (o:api_Op):Unit ⊕ Unit→Ex × Fast × WH:=fun
  | .inl e=>(.ret,[(4,(.ptr (some (1,0))))],[(some (.cells (e_oR_Shard t) false false)),(some (.cells (e_api_Answer (⟨5,([]:List UInt8)⟩:api_Answer)) false false))])
  | .inr e=>(.normal,[(0,(.ptr (some (0,0)))),(3,(.ptr (some (1,0)))),(4,(.ptr (some (2,0)))),(5,(.int .i64 x2.1)),(6,(.bool x2.2))],[(some (.cells (e_oR_Shard t) false false)),(some (.cells (e_api_Op o) false false)),(some (.cells (e_api_Answer (⟨0,([]:List UInt8)⟩:api_Answer)) false false))])
def oR_Table_Do_4_J0 (x2:Int × Bool) (t:oR_Shard) (o:api_Op):Option (Unit ⊕ Unit) :=
  cond (!x2.2) (cond (decide ((t.T.L.length:Int) ≥ 8)) (some (.inl ())) (some (.inr ()))) (some (.inr ()))
theorem s_oR_Table_Do_4_J0 (d:Nat) {x2:Int × Bool} {t:oR_Shard} {o:api_Op} {r:Unit ⊕ Unit} (h:oR_Table_Do_4_J0 x2 t o=some r):RunX (bexec (wcalls atab (d+0)) KK 147 WJ62_bbbabkbfbta) 1 (in_oR_Table_Do_4_J0 x2 t o) (fin_oR_Table_Do_4_J0 x2 t o r):=by
  have e:∀ C:ACalls,wCode C (fun _=>none) KK 147 1 WJ62_bbbabkbfbta (in_oR_Table_Do_4_J0 x2 t o).1 (in_oR_Table_Do_4_J0 x2 t o).2 (.br 40 (.br 47 (.st none (.en [4] [none] [] [])) (.en [0,3,4,5,6] [none,none,none,none,none] [] [])) (.en [0,3,4,5,6] [none,none,none,none,none] [] [])) (fin_oR_Table_Do_4_J0 x2 t o r)=(((!x2.2)=true→(((decide ((t.T.L.length:Int) ≥ 8))=true→lfe (fin_oR_Table_Do_4_J0 x2 t o) (.inl ()) r)∧((decide ((t.T.L.length:Int) ≥ 8))=false→lfe (fin_oR_Table_Do_4_J0 x2 t o) (.inr ()) r)))∧((!x2.2)=false→lfe (fin_oR_Table_Do_4_J0 x2 t o) (.inr ()) r)):=fun C=>by kernel_rfl
  refine runS_of (fun _ _ h=>by cases h) WJ62_bbbabkbfbta_ok (Nat.le_of_ble_eq_true rfl) ((e _).mpr ?_)
  unfold oR_Table_Do_4_J0 at h
  refine ⟨fun hb=>?_,fun hb=>?_⟩
  · have h:=cond_t hb h
    refine ⟨fun hb=>?_,fun hb=>?_⟩
    · have h:=cond_t hb h
      exact lfe_of h
    · have h:=cond_f hb h
      exact lfe_of h
  · have h:=cond_f hb h
    exact lfe_of h
abbrev in_oR_Table_Do_4_J1 (x2:Int × Bool) (x6:List api_Pair) (o:api_Op) (t:oR_Shard):Fast × WH:=([(0,(.ptr (some (0,0)))),(4,(.ptr (some (1,0)))),(5,(.int .i64 x2.1)),(6,(.bool x2.2)),(7,(.acc 2 0 2 (x6 ++ [(⟨o.Key,o.Value⟩:api_Pair)]).length true))],[(some (.cells (e_oR_Shard t) false false)),(some (.cells (e_api_Answer (⟨0,([]:List UInt8)⟩:api_Answer)) false false)),(some (.cells (F_api_Pair (x6 ++ [(⟨o.Key,o.Value⟩:api_Pair)])) false true))])
def fin_oR_Table_Do_4_J1 (x2:Int × Bool) (x6:List api_Pair) (o:api_Op) (t:oR_Shard):Int→Ex × Fast × WH:=fun e=>(.normal,[(0,(.ptr (some (0,0)))),(4,(.ptr (some (1,0)))),(5,(.int .i64 e)),(7,(.acc 2 0 2 (x6 ++ [(⟨o.Key,o.Value⟩:api_Pair)]).length true))],[(some (.cells (e_oR_Shard t) false false)),(some (.cells (e_api_Answer (⟨0,([]:List UInt8)⟩:api_Answer)) false false)),(some (.cells (F_api_Pair (x6 ++ [(⟨o.Key,o.Value⟩:api_Pair)])) false true))])
def oR_Table_Do_4_J1 (x2:Int × Bool) (x6:List api_Pair) (o:api_Op) (t:oR_Shard):Option (Int) :=
  cond x2.2 (some (IntKind.i64.wrap (x2.1+1))) (some x2.1)
theorem s_oR_Table_Do_4_J1 (d:Nat) {x2:Int × Bool} {x6:List api_Pair} {o:api_Op} {t:oR_Shard} {r:Int} (h:oR_Table_Do_4_J1 x2 x6 o t=some r):RunX (bexec (wcalls atab (d+0)) KK 147 WJ62_bbbabkbfbtbbba) 1 (in_oR_Table_Do_4_J1 x2 x6 o t) (fin_oR_Table_Do_4_J1 x2 x6 o t r):=by
  have e:∀ C:ACalls,wCode C (fun _=>none) KK 147 1 WJ62_bbbabkbfbtbbba (in_oR_Table_Do_4_J1 x2 x6 o t).1 (in_oR_Table_Do_4_J1 x2 x6 o t).2 (.br 65 (.en [0,4,5,7] [none,none,none,none] [] [.undef,.undef,.undef,.slice none 2 0 0 true]) (.en [0,4,5,7] [none,none,none,none] [] [.undef,.undef,.undef,.slice none 2 0 0 true])) (fin_oR_Table_Do_4_J1 x2 x6 o t r)=((x2.2=true→lfe (fin_oR_Table_Do_4_J1 x2 x6 o t) (IntKind.i64.wrap (x2.1+1)) r)∧(x2.2=false→lfe (fin_oR_Table_Do_4_J1 x2 x6 o t) x2.1 r)):=fun C=>by kernel_rfl
  refine runS_of (fun _ _ h=>by cases h) WJ62_bbbabkbfbtbbba_ok (Nat.le_of_ble_eq_true rfl) ((e _).mpr ?_)
  unfold oR_Table_Do_4_J1 at h
  refine ⟨fun hb=>?_,fun hb=>?_⟩
  · have h:=cond_t hb h
    exact lfe_of h
  · have h:=cond_f hb h
    exact lfe_of h
def oR_Table_Do_4 (o:api_Op) (t:oR_Shard):Option (api_Answer × oR_Shard) :=
  (oR_RightOp o).bind fun (x1:Bool)=>cond (!x1) (some ((⟨1,([]:List UInt8)⟩:api_Answer),t)) ((oR_Table_find_4 o.Key t).bind fun (x2:Int × Bool)=>cond (o.Kind == 1) (cond (!x2.2) (some ((⟨4,([]:List UInt8)⟩:api_Answer),t)) ((getI t.T.L x2.1).bind fun (x3:api_Pair)=>some ((⟨0,x3.Value⟩:api_Answer),t))) (cond (o.Kind == 2) ((oR_Table_Do_4_J0 x2 t o).bind fun (x4:Unit ⊕ Unit)=>cond (isL x4) (some ((⟨5,([]:List UInt8)⟩:api_Answer),t)) ((slI t.T.L 0 x2.1).bind fun (x6:List api_Pair)=>gd (fitsB 32 x6.length) (gd (fitsB 32 (x6 ++ [(⟨o.Key,o.Value⟩:api_Pair)]).length) ((oR_Table_Do_4_J1 x2 x6 o t).bind fun (x9:Int)=>(slI t.T.L x9 t.T.L.length).bind fun (x10:List api_Pair)=>gd (fitsB 32 ((x6 ++ [(⟨o.Key,o.Value⟩:api_Pair)]) ++ x10).length) (some ((⟨0,([]:List UInt8)⟩:api_Answer),(⟨(⟨((x6 ++ [(⟨o.Key,o.Value⟩:api_Pair)]) ++ x10)⟩:oR_Table),t.S_,t.ID,t.Epoch⟩:oR_Shard))))))) (cond (o.Kind == 3) (cond (!x2.2) (some ((⟨4,([]:List UInt8)⟩:api_Answer),t)) ((slI t.T.L 0 x2.1).bind fun (x12:List api_Pair)=>gd (fitsB 32 x12.length) ((slI t.T.L (IntKind.i64.wrap (x2.1+1)) t.T.L.length).bind fun (x14:List api_Pair)=>gd (fitsB 32 (x12 ++ x14).length) (some ((⟨0,([]:List UInt8)⟩:api_Answer),(⟨(⟨(x12 ++ x14)⟩:oR_Table),t.S_,t.ID,t.Epoch⟩:oR_Shard)))))) (cond (!x2.2) (some ((⟨4,([]:List UInt8)⟩:api_Answer),t)) ((getI t.T.L x2.1).bind fun (x16:api_Pair)=>cond (!(x16.Value == o.Old)) ((getI t.T.L x2.1).bind fun (x17:api_Pair)=>some ((⟨6,x17.Value⟩:api_Answer),t)) (gd (fitsB 32 t.T.L.length) ((getI t.T.L x2.1).bind fun (x19:api_Pair)=>some ((⟨0,([]:List UInt8)⟩:api_Answer),(⟨(⟨(t.T.L.set x2.1.toNat (⟨x19.Key,o.Value⟩:api_Pair))⟩:oR_Table),t.S_,t.ID,t.Epoch⟩:oR_Shard)))))))))
def out_oR_Table_Do_4 (o:api_Op) (t:oR_Shard) (r:api_Answer × oR_Shard):AV × WH:=((.agg (e_api_Answer r.1)),[(some (.cells (e_oR_Shard r.2) false false))])
theorem s_oR_Table_Do_4 (d:Nat) {o:api_Op} {t:oR_Shard} {r:api_Answer × oR_Shard} (h:oR_Table_Do_4 o t=some r):Spec (wcalls atab (d+2)) 62 [(.ptr (some (0,0))),(.agg (e_api_Op o))] [(some (.cells (e_oR_Shard t) false false))] (out_oR_Table_Do_4 o t r).1 (out_oR_Table_Do_4 o t r).2:=by
  obtain ⟨x1,hx1⟩:=wx (oR_RightOp o)
  obtain ⟨x2,hx2⟩:=wx (oR_Table_find_4 o.Key t)
  obtain ⟨x3,hx3⟩:=wx (getI t.T.L x2.1)
  obtain ⟨x4,hx4⟩:=wx (oR_Table_Do_4_J0 x2 t o)
  obtain ⟨x6,hx6⟩:=wx (slI t.T.L 0 x2.1)
  obtain ⟨x9,hx9⟩:=wx (oR_Table_Do_4_J1 x2 x6 o t)
  obtain ⟨x10,hx10⟩:=wx (slI t.T.L x9 t.T.L.length)
  obtain ⟨x12,hx12⟩:=wx (slI t.T.L 0 x2.1)
  obtain ⟨x14,hx14⟩:=wx (slI t.T.L (IntKind.i64.wrap (x2.1+1)) t.T.L.length)
  obtain ⟨x16,hx16⟩:=wx (getI t.T.L x2.1)
  obtain ⟨x17,hx17⟩:=wx (getI t.T.L x2.1)
  obtain ⟨x19,hx19⟩:=wx (getI t.T.L x2.1)
  have e:∀ C:ACalls,wBody C (fun _=>none) KK WF62 [(.ptr (some (0,0))),(.agg (e_api_Op o))] [(some (.cells (e_oR_Shard t) false false))] (.cb [] [] (.bool x1) (.br 11 (.st none (.fin (some false) [] (some false))) (.call [] (some false) [] (.tuple [(.int .i64 x2.1),(.bool x2.2)]) [(some (.cells (e_oR_Shard t) false false))] (.br 22 (.br 25 (.st none (.fin (some false) [] (some false))) (.v 32 (.elem ((e_api_Pair x3) ++ F_api_Pair (t.T.L.drop (x2.1.toNat+1)))) (.st none (.fin (some false) [] (some false))))) (.br 36 (.ite (isL x4) (.jn [0,3,4,5,6] [none,none,none,none,none] [] [] .ret [(4,(.ptr (some (1,0))))] [(some (.cells (e_oR_Shard t) false false)),(some (.cells (e_api_Answer (⟨5,([]:List UInt8)⟩:api_Answer)) false false))] (.fin (some false) [] (some false))) (.jn [0,3,4,5,6] [none,none,none,none,none] [] [] .normal [(0,(.ptr (some (0,0)))),(3,(.ptr (some (1,0)))),(4,(.ptr (some (2,0)))),(5,(.int .i64 x2.1)),(6,(.bool x2.2))] [(some (.cells (e_oR_Shard t) false false)),(some (.cells (e_api_Op o) false false)),(some (.cells (e_api_Answer (⟨0,([]:List UInt8)⟩:api_Answer)) false false))] (.v 55 (l_api_Pair x6) (.ap 56 x6.length (F_api_Pair x6) (.ap 64 (x6 ++ [(⟨o.Key,o.Value⟩:api_Pair)]).length (F_api_Pair (x6 ++ [(⟨o.Key,o.Value⟩:api_Pair)])) (.jn [0,4,5,6,7] [none,none,none,none,none] [] [.undef,.undef,.undef,.undef,.slice none 2 0 0 true] .normal [(0,(.ptr (some (0,0)))),(4,(.ptr (some (1,0)))),(5,(.int .i64 x9)),(7,(.acc 2 0 2 (x6 ++ [(⟨o.Key,o.Value⟩:api_Pair)]).length true))] [(some (.cells (e_oR_Shard t) false false)),(some (.cells (e_api_Answer (⟨0,([]:List UInt8)⟩:api_Answer)) false false)),(some (.cells (F_api_Pair (x6 ++ [(⟨o.Key,o.Value⟩:api_Pair)])) false true))] (.v 75 (l_api_Pair x10) (.ap 76 ((x6 ++ [(⟨o.Key,o.Value⟩:api_Pair)]) ++ x10).length (F_api_Pair ((x6 ++ [(⟨o.Key,o.Value⟩:api_Pair)]) ++ x10)) (.st none (.st none (.fin (some false) [] (some false)))))))))))) (.br 80 (.br 83 (.st none (.fin (some false) [] (some false))) (.v 92 (l_api_Pair x12) (.ap 93 x12.length (F_api_Pair x12) (.v 100 (l_api_Pair x14) (.ap 101 (x12 ++ x14).length (F_api_Pair (x12 ++ x14)) (.st none (.st none (.fin (some false) [] (some false))))))))) (.br 105 (.st none (.fin (some false) [] (some false))) (.v 115 (.elem ((e_api_Pair x16) ++ F_api_Pair (t.T.L.drop (x2.1.toNat+1)))) (.br 109 (.v 126 (.elem ((e_api_Pair x17) ++ F_api_Pair (t.T.L.drop (x2.1.toNat+1)))) (.st none (.fin (some false) [] (some false)))) (.ap 135 t.T.L.length (F_api_Pair t.T.L) (.v 140 (.ptr (some (4,0+x2.1.toNat * 2))) (.st (some (F_api_Pair (t.T.L.set x2.1.toNat (⟨x19.Key,o.Value⟩:api_Pair)))) (.st none (.st none (.fin (some false) [] (some false)))))))))))))))) (out_oR_Table_Do_4 o t r).1 (out_oR_Table_Do_4 o t r).2=(2=2∧2≤147∧(Spec C 63 [(.agg (e_api_Op o))] [] (.bool x1) []∧(((!x1)=true→lff (out_oR_Table_Do_4 o t) ((⟨1,([]:List UInt8)⟩:api_Answer),t) r)∧((!x1)=false→(Spec C 104 [(.ptr (some (0,0))),(.str o.Key)] [(some (.cells (e_oR_Shard t) false false))] (.tuple [(.int .i64 x2.1),(.bool x2.2)]) [(some (.cells (e_oR_Shard t) false false))]∧(1≤1∧(((o.Kind == 1)=true→(((!x2.2)=true→lff (out_oR_Table_Do_4 o t) ((⟨4,([]:List UInt8)⟩:api_Answer),t) r)∧((!x2.2)=false→(wP (.idxSlice 2 (.c (l_api_Pair t.T.L)) (.c (.int .i64 x2.1)))=some (.elem ((e_api_Pair x3) ++ F_api_Pair (t.T.L.drop (x2.1.toNat+1))))∧lff (out_oR_Table_Do_4 o t) ((⟨0,x3.Value⟩:api_Answer),t) r))))∧((o.Kind == 1)=false→(((o.Kind == 2)=true→(((isL x4)=true→(RunS (bexec C KK 147 WJ62_bbbabkbfbta) 1 [(0,(.ptr (some (0,0)))),(3,(.ptr (some (1,0)))),(4,(.ptr (some (2,0)))),(5,(.int .i64 x2.1)),(6,(.bool x2.2))] [(some (.cells (e_oR_Shard t) false false)),(some (.cells (e_api_Op o) false false)),(some (.cells (e_api_Answer (⟨0,([]:List UInt8)⟩:api_Answer)) false false))] .ret [(4,(.ptr (some (1,0))))] [(some (.cells (e_oR_Shard t) false false)),(some (.cells (e_api_Answer (⟨5,([]:List UInt8)⟩:api_Answer)) false false))]∧lff (out_oR_Table_Do_4 o t) ((⟨5,([]:List UInt8)⟩:api_Answer),t) r))∧((isL x4)=false→(RunS (bexec C KK 147 WJ62_bbbabkbfbta) 1 [(0,(.ptr (some (0,0)))),(3,(.ptr (some (1,0)))),(4,(.ptr (some (2,0)))),(5,(.int .i64 x2.1)),(6,(.bool x2.2))] [(some (.cells (e_oR_Shard t) false false)),(some (.cells (e_api_Op o) false false)),(some (.cells (e_api_Answer (⟨0,([]:List UInt8)⟩:api_Answer)) false false))] .normal [(0,(.ptr (some (0,0)))),(3,(.ptr (some (1,0)))),(4,(.ptr (some (2,0)))),(5,(.int .i64 x2.1)),(6,(.bool x2.2))] [(some (.cells (e_oR_Shard t) false false)),(some (.cells (e_api_Op o) false false)),(some (.cells (e_api_Answer (⟨0,([]:List UInt8)⟩:api_Answer)) false false))]∧(wP (.slice 2 (.c (l_api_Pair t.T.L)) none (some (.c (.int .i64 x2.1))) none)=some (l_api_Pair x6)∧(0+x6.length=x6.length∧(F_api_Pair [] ++ F_api_Pair x6=F_api_Pair x6∧(fitsB 32 x6.length=true∧(x6.length+1=(x6 ++ [(⟨o.Key,o.Value⟩:api_Pair)]).length∧(F_api_Pair x6 ++ F_api_Pair ([(⟨o.Key,o.Value⟩:api_Pair)])=F_api_Pair (x6 ++ [(⟨o.Key,o.Value⟩:api_Pair)])∧(fitsB 32 (x6 ++ [(⟨o.Key,o.Value⟩:api_Pair)]).length=true∧(RunS (bexec C KK 147 WJ62_bbbabkbfbtbbba) 1 [(0,(.ptr (some (0,0)))),(4,(.ptr (some (1,0)))),(5,(.int .i64 x2.1)),(6,(.bool x2.2)),(7,(.acc 2 0 2 (x6 ++ [(⟨o.Key,o.Value⟩:api_Pair)]).length true))] [(some (.cells (e_oR_Shard t) false false)),(some (.cells (e_api_Answer (⟨0,([]:List UInt8)⟩:api_Answer)) false false)),(some (.cells (F_api_Pair (x6 ++ [(⟨o.Key,o.Value⟩:api_Pair)])) false true))] .normal [(0,(.ptr (some (0,0)))),(4,(.ptr (some (1,0)))),(5,(.int .i64 x9)),(7,(.acc 2 0 2 (x6 ++ [(⟨o.Key,o.Value⟩:api_Pair)]).length true))] [(some (.cells (e_oR_Shard t) false false)),(some (.cells (e_api_Answer (⟨0,([]:List UInt8)⟩:api_Answer)) false false)),(some (.cells (F_api_Pair (x6 ++ [(⟨o.Key,o.Value⟩:api_Pair)])) false true))]∧(wP (.slice 2 (.c (l_api_Pair t.T.L)) (some (.c (.int .i64 x9))) none none)=some (l_api_Pair x10)∧((x6 ++ [(⟨o.Key,o.Value⟩:api_Pair)]).length+x10.length=((x6 ++ [(⟨o.Key,o.Value⟩:api_Pair)]) ++ x10).length∧(F_api_Pair (x6 ++ [(⟨o.Key,o.Value⟩:api_Pair)]) ++ F_api_Pair x10=F_api_Pair ((x6 ++ [(⟨o.Key,o.Value⟩:api_Pair)]) ++ x10)∧(fitsB 32 ((x6 ++ [(⟨o.Key,o.Value⟩:api_Pair)]) ++ x10).length=true∧lff (out_oR_Table_Do_4 o t) ((⟨0,([]:List UInt8)⟩:api_Answer),(⟨(⟨((x6 ++ [(⟨o.Key,o.Value⟩:api_Pair)]) ++ x10)⟩:oR_Table),t.S_,t.ID,t.Epoch⟩:oR_Shard)) r))))))))))))))))∧((o.Kind == 2)=false→(((o.Kind == 3)=true→(((!x2.2)=true→lff (out_oR_Table_Do_4 o t) ((⟨4,([]:List UInt8)⟩:api_Answer),t) r)∧((!x2.2)=false→(wP (.slice 2 (.c (l_api_Pair t.T.L)) none (some (.c (.int .i64 x2.1))) none)=some (l_api_Pair x12)∧(0+x12.length=x12.length∧(F_api_Pair [] ++ F_api_Pair x12=F_api_Pair x12∧(fitsB 32 x12.length=true∧(wP (.slice 2 (.c (l_api_Pair t.T.L)) (some (.c (.int .i64 (IntKind.i64.wrap (x2.1+1))))) none none)=some (l_api_Pair x14)∧(x12.length+x14.length=(x12 ++ x14).length∧(F_api_Pair x12 ++ F_api_Pair x14=F_api_Pair (x12 ++ x14)∧(fitsB 32 (x12 ++ x14).length=true∧lff (out_oR_Table_Do_4 o t) ((⟨0,([]:List UInt8)⟩:api_Answer),(⟨(⟨(x12 ++ x14)⟩:oR_Table),t.S_,t.ID,t.Epoch⟩:oR_Shard)) r)))))))))))∧((o.Kind == 3)=false→(((!x2.2)=true→lff (out_oR_Table_Do_4 o t) ((⟨4,([]:List UInt8)⟩:api_Answer),t) r)∧((!x2.2)=false→(wP (.idxSlice 2 (.c (l_api_Pair t.T.L)) (.c (.int .i64 x2.1)))=some (.elem ((e_api_Pair x16) ++ F_api_Pair (t.T.L.drop (x2.1.toNat+1))))∧(((!(x16.Value == o.Old))=true→(wP (.idxSlice 2 (.c (l_api_Pair t.T.L)) (.c (.int .i64 x2.1)))=some (.elem ((e_api_Pair x17) ++ F_api_Pair (t.T.L.drop (x2.1.toNat+1))))∧lff (out_oR_Table_Do_4 o t) ((⟨6,x17.Value⟩:api_Answer),t) r))∧((!(x16.Value == o.Old))=false→(0+t.T.L.length=t.T.L.length∧(F_api_Pair [] ++ F_api_Pair t.T.L=F_api_Pair t.T.L∧(fitsB 32 t.T.L.length=true∧(wP (.idxSlice 2 (.c (.acc 4 0 2 t.T.L.length true)) (.c (.int .i64 x2.1)))=some (.ptr (some (4,0+x2.1.toNat * 2)))∧(wrC (F_api_Pair t.T.L) (0+x2.1.toNat * 2+1) [(.str o.Value)]=some (F_api_Pair (t.T.L.set x2.1.toNat (⟨x19.Key,o.Value⟩:api_Pair)))∧(@Eq AV (.agg (e_api_Answer (⟨0,([]:List UInt8)⟩:api_Answer))) (out_oR_Table_Do_4 o t r).1∧@Eq WH [(some (.cells [(.list 2 t.T.L.length (F_api_Pair (t.T.L.set x2.1.toNat (⟨x19.Key,o.Value⟩:api_Pair))) false),(l_api_Sess t.S_.L),(.int .i64 t.ID),(.int .i64 t.Epoch)] false false))] (out_oR_Table_Do_4 o t r).2))))))))))))))))))))))):=fun C=>by kernel_rfl
  refine spec_of (fun _ _ h=>by cases h) rfl atab_62 WF62_ok ((e _).mpr ⟨rfl,by decide, ?_⟩)
  unfold oR_Table_Do_4 at h
  obtain ⟨q1,h⟩:=bget hx1 h
  refine ⟨s_oR_RightOp (d+0) q1, ?_⟩
  refine ⟨fun hb=>?_,fun hb=>?_⟩
  · have h:=cond_t hb h
    exact lff_of h
  · have h:=cond_f hb h
    obtain ⟨q2,h⟩:=bget hx2 h
    refine ⟨s_oR_Table_find_4 (d+0) q2, ?_⟩
    refine ⟨by decide, ?_⟩
    refine ⟨fun hb=>?_,fun hb=>?_⟩
    · have h:=cond_t hb h
      refine ⟨fun hb=>?_,fun hb=>?_⟩
      · have h:=cond_t hb h
        exact lff_of h
      · have h:=cond_f hb h
        obtain ⟨q3,h⟩:=bget hx3 h
        refine ⟨wP_idx R_api_Pair q3, ?_⟩
        exact lff_of h
    · have h:=cond_f hb h
      refine ⟨fun hb=>?_,fun hb=>?_⟩
      · have h:=cond_t hb h
        obtain ⟨q4,h⟩:=bget hx4 h
        refine ⟨fun hb5=>?_,fun hb5=>?_⟩
        · have h:=cond_t hb5 h
          refine ⟨by have h:=s_oR_Table_Do_4_J0 (d+1) q4; rw [isL_t hb5] at h; exact h, ?_⟩
          exact lff_of h
        · have h:=cond_f hb5 h
          refine ⟨by have h:=s_oR_Table_Do_4_J0 (d+1) q4; rw [isL_f hb5] at h; exact h, ?_⟩
          obtain ⟨q6,h⟩:=bget hx6 h
          refine ⟨wP_sl_h R_api_Pair q6, ?_⟩
          obtain ⟨q7,h⟩:=gd_some h
          refine ⟨by simp, ?_⟩
          refine ⟨by first | rfl | simp [F_api_Pair], ?_⟩
          refine ⟨q7, ?_⟩
          obtain ⟨q8,h⟩:=gd_some h
          refine ⟨by simp, ?_⟩
          refine ⟨(Row.app R_api_Pair _ _).symm, ?_⟩
          refine ⟨q8, ?_⟩
          obtain ⟨q9,h⟩:=bget hx9 h
          refine ⟨s_oR_Table_Do_4_J1 (d+1) q9, ?_⟩
          obtain ⟨q10,h⟩:=bget hx10 h
          refine ⟨wP_sl_l R_api_Pair q10, ?_⟩
          obtain ⟨q11,h⟩:=gd_some h
          refine ⟨app_len _ _, ?_⟩
          refine ⟨(Row.app R_api_Pair _ _).symm, ?_⟩
          refine ⟨q11, ?_⟩
          exact lff_of h
      · have h:=cond_f hb h
        refine ⟨fun hb=>?_,fun hb=>?_⟩
        · have h:=cond_t hb h
          refine ⟨fun hb=>?_,fun hb=>?_⟩
          · have h:=cond_t hb h
            exact lff_of h
          · have h:=cond_f hb h
            obtain ⟨q12,h⟩:=bget hx12 h
            refine ⟨wP_sl_h R_api_Pair q12, ?_⟩
            obtain ⟨q13,h⟩:=gd_some h
            refine ⟨by simp, ?_⟩
            refine ⟨by first | rfl | simp [F_api_Pair], ?_⟩
            refine ⟨q13, ?_⟩
            obtain ⟨q14,h⟩:=bget hx14 h
            refine ⟨wP_sl_l R_api_Pair q14, ?_⟩
            obtain ⟨q15,h⟩:=gd_some h
            refine ⟨app_len _ _, ?_⟩
            refine ⟨(Row.app R_api_Pair _ _).symm, ?_⟩
            refine ⟨q15, ?_⟩
            exact lff_of h
        · have h:=cond_f hb h
          refine ⟨fun hb=>?_,fun hb=>?_⟩
          · have h:=cond_t hb h
            exact lff_of h
          · have h:=cond_f hb h
            obtain ⟨q16,h⟩:=bget hx16 h
            refine ⟨wP_idx R_api_Pair q16, ?_⟩
            refine ⟨fun hb=>?_,fun hb=>?_⟩
            · have h:=cond_t hb h
              obtain ⟨q17,h⟩:=bget hx17 h
              refine ⟨wP_idx R_api_Pair q17, ?_⟩
              exact lff_of h
            · have h:=cond_f hb h
              obtain ⟨q18,h⟩:=gd_some h
              refine ⟨by simp, ?_⟩
              refine ⟨by first | rfl | simp [F_api_Pair], ?_⟩
              refine ⟨q18, ?_⟩
              obtain ⟨q19,h⟩:=bget hx19 h
              refine ⟨wP_idxA R_api_Pair q19, ?_⟩
              refine ⟨wr_row (o:=1) R_api_Pair q19 rfl, ?_⟩
              try rw [show AV.list 2 t.T.L.length (F_api_Pair (t.T.L.set x2.1.toNat (⟨x19.Key,o.Value⟩:api_Pair))) false=l_api_Pair (t.T.L.set x2.1.toNat (⟨x19.Key,o.Value⟩:api_Pair)) from by simp only [l_api_Pair,List.length_set]]
              obtain rfl:=Option.some.inj h
              refine ⟨?_, ?_⟩ <;> first | rfl | (simp only [out_oR_Table_Do_4,List.length_set,List.length_append,List.length_replicate,List.length_cons,List.length_nil,List.length_take,List.length_drop,Nat.add_zero,Nat.zero_add]; done) | simp [out_oR_Table_Do_4]
end Go.Proofs.Ytachollgbplikaa
