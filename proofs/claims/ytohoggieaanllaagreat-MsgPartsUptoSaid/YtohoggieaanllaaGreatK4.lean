import Derived.Test.YtohoggieaanllaaGreatK3
set_option linter.all false
set_option linter.unusedSimpArgs false
namespace Go.Proofs.YtohoggieaanllaaGreat
theorem Lays.then {α β:Type} {p:Pr α} {x:α} {e:List UInt8} {q:α→Pr β} {y:β} (h:Lays p x e) (g:∀ r,q x r=.inr (y,r)):Lays (qE p q) y e:=h.last g
def mkQ (n:List Int) (s:List (List UInt8)):aX:=⟨n.getD 0 0,n.getD 1 0,⟨n.getD 2 0,s.getD 0 [],s.getD 1 [],s.getD 2 []⟩⟩
def ani:Pr aX:=qE (OZ Jy 3) λn=>qE (OZ P5 3) λs=>XG Aa (mkQ n s)
theorem ahO {r:aX} (h:Aa r=true):Lays ani r (ZQ r):=by
 obtain ⟨h1,h2,h3,h4,h5,h6⟩:=F7 h
 have a:=Lays.rep (p:=Jy) (enc:=eN) [r.Client,r.Seq,r.Op.Kind] (λx hx=>by
  simp only [List.mem_cons,List.not_mem_nil,or_false] at hx
  rcases hx with rfl | rfl | rfl<;>exact KX.lays (by assumption))
 have b:=Lays.rep (p:=P5) (enc:=eT) [r.Op.Key,r.Op.Value,r.Op.Old] (λx hx=>by
  simp only [List.mem_cons,List.not_mem_nil,or_false] at hx
  rcases hx with rfl | rfl | rfl<;>exact abD.lays (by unfold okS;omega))
 exact a.seq (b.last λs=>by
  show XG Aa r s=_
  unfold XG
  rw [if_pos h])
def anj:aA:=⟨0,[]⟩
def alZ:Pr aA:=qE Jy λn=>qE P5 λs=>XG tQ ⟨n,s⟩
theorem ZU {a:aA} (h:tQ a=true):Lays alZ a (XL a):=by
 obtain ⟨h1,h2⟩:=F8 h
 exact (KX.lays h1).seq ((abD.lays (show okS a.Value by unfold okS;omega)).last λs=>by
  show XG tQ a s=_
  unfold XG
  rw [if_pos h])
def ahP:Pr au:=qE (OZ P5 2) λs b=>.inr (⟨s.getD 0 [],s.getD 1 []⟩,b)
def ahQ:Pr ak:=qE (OZ Jy 2) λn=>qE alZ λa b=>.inr (⟨n.getD 0 0,n.getD 1 0,a⟩,b)
def adQ (m:Int):Pr Int:=qE Jy λn b=>if n≤m then .inr (n,b) else .inl 2
def ank:Pr aD:=qE (OZ Jy 2) λn=>qE (adQ 8) λc=>qE (OZ ahP c.toNat) λps=>qE (adQ 4) λd=>qE (OZ ahQ d.toNat) λss=>XG Ab ⟨n.getD 0 0,n.getD 1 0,ps,ss⟩
theorem adR {p:au} (h:p.Key.length≤8∧p.Value.length≤16):Lays ahP p (yj p):=by
 have b:=Lays.rep (p:=P5) (enc:=eT) [p.Key,p.Value] (λx hx=>by
  simp only [List.mem_cons,List.not_mem_nil,or_false] at hx
  rcases hx with rfl | rfl<;>exact abD.lays (by unfold okS;omega))
 have:=b.last (q:=λs b=>.inr (⟨s.getD 0 [],s.getD 1 []⟩,b)) (y:=p) λs=>rfl
 simp only [List.flatMap_cons,List.flatMap_nil,List.append_nil] at this
 exact this
theorem adS {s:ak} (h:vO s.Client∧vO s.Seq∧tQ s.Answer=true):Lays ahQ s (zI s):=by
 have a:=Lays.rep (p:=Jy) (enc:=eN) [s.Client,s.Seq] (λx hx=>by
  simp only [List.mem_cons,List.not_mem_nil,or_false] at hx
  rcases hx with rfl | rfl
  ·exact KX.lays h.1
  ·exact KX.lays h.2.1)
 exact a.seq ((ZU h.2.2).last λ_=>rfl)
theorem JD {m:Int} {n:Nat} (h:(n:Int)≤m) (h2:n≤4611686018427387903):Lays (adQ m) (n:Int) (eN (n:Int)) :=
 (KX.lays (show vO (n:Int) by unfold vO;omega)).last λ_=>by rw [if_pos h]
theorem ahR {x:aD} (h:Ab x=true):Lays ank x (adP x):=by
 obtain ⟨h1,h2,h3,h4,h5,h6⟩:=F9 h
 have a:=Lays.rep (p:=Jy) (enc:=eN) [x.fB,x.Epoch] (λz hz=>by
  simp only [List.mem_cons,List.not_mem_nil,or_false] at hz
  rcases hz with rfl | rfl
  ·exact KX.lays h1
  ·exact KX.lays h2)
 have b:=Lays.rep (p:=ahP) (enc:=yj) x.Pairs λp hp=>adR (h5 p hp)
 have c:=Lays.rep (p:=ahQ) (enc:=zI) x.gB λs hs=>adS (h6 s hs)
 exact a.seq ((JD (by omega) (by omega)).seq (b.seq ((JD (by omega) (by omega)).seq (c.last λs=>by
  show XG Ab x s=_
  unfold XG
  rw [if_pos h]))))
end Go.Proofs.YtohoggieaanllaaGreat
