import Derived.Test.YtohoggieaanllaaGreatL4
set_option linter.all false
set_option linter.unusedSimpArgs false
namespace Go.Proofs.YtohoggieaanllaaGreat
abbrev Pr (α:Type):=List UInt8→Int⊕(α×List UInt8)
structure Fmt {α:Type} (enc:α→List UInt8) (p:Pr α) (ok:α→Prop):Prop where
 back:∀ x,ok x→∀ r,p (enc x++r)=.inr (x,r)
 cut:∀ x,ok x→∀ k,k < (enc x).length→p ((enc x).take k)=.inl 3
theorem Fmt.inj {α:Type} {enc:α→List UInt8} {p:Pr α} {ok:α→Prop} (h:Fmt enc p ok) {x y:α} (hx:ok x) (hy:ok y) {r s:List UInt8} (e:enc x++r=enc y++s):x=y∧r=s:=by
 have h1:=h.back x hx r
 rw [e,h.back y hy s] at h1
 have:=Prod.mk.inj (Sum.inr.inj h1)
 exact ⟨this.1.symm,this.2.symm⟩
def Shr {α:Type} (p:Pr α):Prop:=∀ b x r,p b=.inr (x,r)→r.length≤b.length
def Err {α:Type} (p:Pr α):Prop:=∀ b e,p b=.inl e→e=2∨e=3
def jZ:Pr Int:=λb=>match qg b with
 | (v,k,e)=>if e=0 then .inr (v,b.drop k.toNat) else .inl e
def uz (x:Int):Prop:=0≤x∧x≤4611686018427387903
instance (x:Int):Decidable (uz x):=by unfold uz;infer_instance
def eN (x:Int):List UInt8:=qx x.toNat
theorem Q8:Fmt eN jZ uz:=by
 constructor
 ·intro x hx r
  unfold jZ eN
  rw [Ro x.toNat (by unfold uz at hx;omega) r]
  simp only [if_true,Int.toNat_natCast,List.drop_left]
  rw [Int.toNat_of_nonneg hx.1]
 ·intro x hx k hk
  unfold jZ
  have:=Zb x.toNat k hk []
  rw [List.append_nil] at this
  unfold eN
  rw [this]
  rfl
theorem uo:Shr jZ:=by
 intro b x r h
 unfold jZ at h
 rcases oW b with e | e | ⟨v,k,e,_⟩<;>rw [e] at h<;>simp at h
 obtain ⟨_,rfl⟩:=h
 simp
theorem pX:Err jZ:=by
 intro b x h
 unfold jZ at h
 rcases oW b with e | e | ⟨v,k,e,_⟩<;>rw [e] at h<;>simp at h
 ·exact .inr h.symm
 ·exact .inl h.symm
theorem aqg {b r:List UInt8} {x:Int} (h:jZ b=.inr (x,r)):uz x:=by
 unfold jZ at h
 rcases oW b with e | e | ⟨v,k,e,h1,_⟩<;>rw [e] at h<;>simp at h
 obtain ⟨rfl,_⟩:=h
 exact ⟨by omega,by omega⟩
def yA:Pr (List UInt8):=λb=>match qg b with
 | (v,k,e)=>if e=0 then (if v.toNat≤b.length - k.toNat then .inr ((b.drop k.toNat).take v.toNat,b.drop (k.toNat+v.toNat)) else .inl 3) else .inl e
def okS (s:List UInt8):Prop:=s.length≤4611686018427387903
def eT (s:List UInt8):List UInt8:=qx s.length++s
theorem ajp:Fmt eT yA okS:=by
 constructor
 ·intro s hs r
  unfold yA eT
  rw [List.append_assoc,Ro s.length hs (s++r)]
  simp only [if_true,Int.toNat_natCast,List.drop_left]
  rw [if_pos (by simp)]
  rw [← List.drop_drop,List.drop_left,List.take_left,List.drop_left]
 ·intro s hs k hk
  unfold yA eT at *
  by_cases c:k < (qx s.length).length
  ·rw [Zb s.length k c s]
   rfl
  ·have e:(qx s.length++s).take k=qx s.length++s.take (k - (qx s.length).length):=by
    rw [List.take_append,List.take_of_length_le (by omega)]
   rw [e,Ro s.length hs]
   simp only [if_true,Int.toNat_natCast]
   rw [List.length_append] at hk
   rw [if_neg]
   simp only [List.length_append,List.length_take]
   omega
theorem UC:Shr yA:=by
 intro b x r h
 unfold yA at h
 rcases oW b with e | e | ⟨v,k,e,_⟩<;>rw [e] at h<;>simp at h
 split at h
 ·obtain ⟨_,rfl⟩:=Prod.mk.inj (Sum.inr.inj h)
  simp
 ·cases h
theorem Gu:Err yA:=by
 intro b x h
 unfold yA at h
 rcases oW b with e | e | ⟨v,k,e,_⟩<;>rw [e] at h<;>simp at h
 ·exact .inr h.symm
 ·exact .inl h.symm
 ·split at h
  ·cases h
  ·exact .inr (Sum.inl.inj h).symm
section
variable {α β:Type} {enc:α→List UInt8} {p:Pr α} {ok:α→Prop}
def fP (p:Pr α) (q:α→Pr β):Pr β:=λb=>match p b with
 | .inl e=>.inl e
 | .inr (x,r)=>q x r
theorem vG {q:α→Pr β} {b:List UInt8} {e:Int} (h:p b=.inl e):fP p q b=.inl e:=by unfold fP;rw [h]
theorem tK {q:α→Pr β} {b r:List UInt8} {x:α} (h:p b=.inr (x,r)):fP p q b=q x r:=by unfold fP;rw [h]
theorem wZ {q:α→Pr β} (hp:Shr p) (hq:∀ x,Shr (q x)):Shr (fP p q):=by
 intro b x r h
 unfold fP at h
 split at h
 ·cases h
 ·rename_i y s e
  have:=hp _ _ _ e
  have:=hq _ _ _ _ h
  omega
theorem iM {q:α→Pr β} (hp:Err p) (hq:∀ x,Err (q x)):Err (fP p q):=by
 intro b x h
 unfold fP at h
 split at h
 ·rename_i e' e
  rw [← Sum.inl.inj h]
  exact hp _ _ e
 ·exact hq _ _ _ h
def Lays (p:Pr α) (x:α) (e:List UInt8):Prop:=(∀ r,p (e++r)=.inr (x,r))∧∀ k,k < e.length→p (e.take k)=.inl 3
theorem Fmt.lays (h:Fmt enc p ok) {x:α} (hx:ok x):Lays p x (enc x):=⟨h.back x hx,h.cut x hx⟩
theorem Lays.nil (x:α):Lays (λb=>.inr (x,b)) x []:=⟨λ_=>rfl,λk h=>by simp at h⟩
theorem Lays.seq {q:α→Pr β} {x:α} {y:β} {e f:List UInt8} (h:Lays p x e) (g:Lays (q x) y f):Lays (fP p q) y (e++f):=by
 refine ⟨λr=>?_,λk hk=>?_⟩
 ·rw [List.append_assoc,tK (h.1 (f++r)),g.1]
 ·by_cases c:k < e.length
  ·rw [List.take_append_of_le_length (by omega)]
   exact vG (h.2 k c)
  ·rw [List.take_append,List.take_of_length_le (by omega),tK (h.1 _)]
   exact g.2 _ (by rw [List.length_append] at hk;omega)
theorem Lays.last {q:α→Pr β} {x:α} {y:β} {e:List UInt8} (h:Lays p x e) (g:∀ r,q x r=.inr (y,r)):Lays (fP p q) y e:=by
 refine ⟨λr=>?_,λk hk=>vG (h.2 k hk)⟩
 rw [tK (h.1 r),g]
theorem Lays.inj {x y:α} {e f r s:List UInt8} (h:Lays p x e) (g:Lays p y f) (q:e++r=f++s):x=y∧r=s:=by
 have h1:=h.1 r
 rw [q,g.1 s] at h1
 have:=Prod.mk.inj (Sum.inr.inj h1)
 exact ⟨this.1.symm,this.2.symm⟩
def gP (p:Pr α):Nat→Pr (List α)
 | 0=>λb=>.inr ([],b)
 | n+1=>fP p λx=>fP (gP p n) λl b=>.inr (x::l,b)
theorem sw (hp:Shr p):∀ n,Shr (gP p n)
 | 0=>λb x r h=>by
  simp only [gP,Sum.inr.injEq,Prod.mk.injEq] at h
  rw [h.2]
  exact Nat.le_refl _
 | n+1=>wZ hp λx=>wZ (sw hp n) λl b y r h=>by
  simp only [Sum.inr.injEq,Prod.mk.injEq] at h
  rw [h.2]
  exact Nat.le_refl _
theorem iR (hp:Err p):∀ n,Err (gP p n)
 | 0=>λb e h=>by simp [gP] at h
 | n+1=>iM hp λx=>iM (iR hp n) λl b e h=>by simp at h
theorem yO:∀ {n:Nat} {b r:List UInt8} {l:List α},gP p n b=.inr (l,r)→l.length=n
 | 0,b,r,l,h=>by
  simp only [gP,Sum.inr.injEq,Prod.mk.injEq] at h
  rw [← h.1]
  rfl
 | n+1,b,r,l,h=>by
  simp only [gP,fP] at h
  split at h
  ·cases h
  ·split at h
   ·cases h
   ·rename_i e
    simp only [Sum.inr.injEq,Prod.mk.injEq] at h
    rw [← h.1,List.length_cons,yO e]
theorem Lays.rep (l:List α) (h:∀ x∈l,Lays p x (enc x)):Lays (gP p l.length) l (l.flatMap enc):=by
 induction l with
 | nil=>exact .nil []
 | cons x l ih =>
  rw [List.flatMap_cons]
  exact (h x (by simp)).seq ((ih λy hy=>h y (by simp [hy])).last λr=>rfl)
def M7 (c:α→Bool) (x:α):Pr α:=λb=>if c x then .inr (x,b) else .inl 2
theorem akn (c:α→Bool) (x:α):Shr (M7 c x):=by
 intro b y r h
 unfold M7 at h
 split at h
 ·simp only [Sum.inr.injEq,Prod.mk.injEq] at h
  rw [h.2]
  exact Nat.le_refl _
 ·cases h
theorem aeO (c:α→Bool) (x:α):Err (M7 c x):=by
 intro b e h
 unfold M7 at h
 split at h
 ·cases h
 ·exact .inl (Sum.inl.inj h).symm
theorem ag6 {S E:Type} (n:Nat) (hn:n < 1000000000000) (f:S→Option (S⊕E)) (st:Nat→List UInt8→List α→S) (err:List UInt8→Int→E) (done:List UInt8→List α→E) (m:Nat) (hp:Shr p)
  (h1:∀ (i:Nat) (b:List UInt8) (acc:List α),i < n→b.length≤m→acc.length=i→f (st i b acc)=match p b with
   | .inl e=>some (.inr (err b e))
   | .inr (x,r)=>some (.inl (st (i+1) r (acc++[x]))))
  (h2:∀ (b:List UInt8) (acc:List α),acc.length=n→f (st n b acc)=some (.inr (done b acc))) :
  ∀ (j:Nat) (k:Nat) (b:List UInt8) (acc:List α),j≤n→b.length≤m→acc.length=n - j→j < k→∃ c,bT f k (st (n - j) b acc)=some (match gP p j b with
   | .inl e=>err c e
   | .inr (l,r)=>done r (acc++l))
 | 0,k,b,acc,_,_,ha,hk=>by
  obtain ⟨k,rfl⟩:∃ i,k=i+1:=⟨k - 1,by omega⟩
  refine ⟨b, ?_⟩
  simp only [bT,Nat.sub_zero,h2 b acc ha,gP,List.append_nil]
 | j+1,k,b,acc,hj,hb,ha,hk=>by
  obtain ⟨k,rfl⟩:∃ i,k=i+1:=⟨k - 1,by omega⟩
  have e:=h1 (n - (j+1)) b acc (by omega) hb ha
  simp only [bT,e]
  cases hx:p b with
  | inl er =>
   refine ⟨b, ?_⟩
   simp only [gP,fP,hx]
  | inr y =>
   obtain ⟨x,r⟩:=y
   have hs:=hp _ _ _ hx
   obtain ⟨c,ih⟩:=ag6 n hn f st err done m hp h1 h2 j k r (acc++[x]) (by omega) (by omega) (by simp;omega) (by omega)
   refine ⟨c, ?_⟩
   simp only
   rw [show n - (j+1)+1=n - j by omega,ih]
   simp only [gP,fP,hx]
   cases gP p j r with
   | inl e=>rfl
   | inr y=>simp
end
end Go.Proofs.YtohoggieaanllaaGreat
