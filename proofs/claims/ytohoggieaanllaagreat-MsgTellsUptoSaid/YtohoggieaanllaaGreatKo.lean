import Derived.Test.YtohoggieaanllaaGreatKn
import Derived.Test.YtohoggieaanllaaGreatXrMsgTells
set_option linter.all false
set_option linter.unusedSimpArgs false
set_option maxRecDepth 100000
namespace Go.Proofs.YtohoggieaanllaaGreat
theorem auE:tZ=some true:=by decide +kernel
theorem auF (b:List UInt8) (h:b.length < 1000000000):Pk b 4000=some (b.take 4000):=by
 unfold Pk
 by_cases c:4000 < b.length
 ·rw [bf (by omega),cond_true,show (4000:Int)=((4000:Nat):Int) from rfl,VZ b 4000 (by omega),Option.bind_some,l5 (by simp;omega)]
 ·rw [aT (by omega),cond_false,l5 (by omega),List.take_of_length_le (by omega)]
theorem amj (w:List UInt8) (hw:w.length < 1000000) (t:Int) (v:UInt8) (c:Int) (raw:List UInt8):∃ w',jC w t raw v c=some w'∧w'.length=w.length:=by
 unfold jC lX
 by_cases hl:w.length > 0
 ·rw [bf (by omega),cond_true,Option.bind_some]
  cases (Int.tmod t 3==0)
  ·exact ⟨w,rfl,rfl⟩
  ·obtain ⟨k,k1,k2⟩:=BZ (IntKind.i64.wrap (Int.tdiv t 3)) w.length hl (by omega)
   rw [cond_true,k1,Option.bind_some,dP k2,Option.bind_some,Option.bind_some]
   exact ⟨_,rfl,by rw [List.length_set]⟩
 ·rw [aT (by omega)]
  exact ⟨w,rfl,rfl⟩
theorem aqM (w:List UInt8) (hw:w.length < 1000000) (c:Int) (raw:List UInt8):∃ w',jD c w raw=some w'∧w'.length≤w.length:=by
 unfold jD
 cases (Int.tmod c 3==0)
 ·exact ⟨w,rfl,Nat.le_refl _⟩
 ·rw [cond_true,bM (x:=(w.length:Int)+1) (by omega) (by omega),show (w.length:Int)+1=((w.length+1:Nat):Int) by omega]
  obtain ⟨k,k1,k2⟩:=BZ (IntKind.i64.wrap (Int.tdiv c 3)) (w.length+1) (by omega) (by omega)
  rw [k1,Option.bind_some,VZ w k (by omega)]
  exact ⟨_,rfl,by rw [List.length_take];omega⟩
theorem abE (x:bA):∃ t,DY x 5=some t∧Gn x 5=some (unM t)∧EM (unM t)∧(unM t).Path.length≤11:=by
 obtain ⟨m,hm,sm,_,lp,_⟩:=amd x
 have h:=axT x 5
 rw [hm] at h
 cases h2:DY x 5 with
 | none=>rw [h2] at h;cases h
 | some t =>
  rw [h2] at h
  have e:unM t=m:=Option.some.inj h
  subst e
  exact ⟨t,rfl,hm,sm,lp⟩
theorem auG (kQ:Int) (a:bA) (x2:_) (raw:List UInt8) (w:UInt8) (c:Int) (x1:aM):∃ t,jA kQ a x2 raw w c x1=some t:=by
 unfold jA
 cases (Int.tmod kQ 5==0)
 ·exact ⟨_,rfl⟩
 ·obtain ⟨t,h1,_,_,h3⟩:=abE a
  have h3:(t.2.2.2.2.2.2.2.2.2.2.2.2.2.2.2.2.2.2.2.1).length≤11:=h3
  rw [cond_true,h1,Option.bind_some,jH (by unfold dx;simp;omega)]
  exact ⟨_,rfl⟩
theorem ax1 (x:aM) (sx:EM x) (t:_) (a:bA) (ha:Gn a 5=some x) (raw:List UInt8) (kQ:Int) (w:UInt8) (c:Int):jB x (if sD x then abx x else []) t a raw kQ w c=some (.inr ()):=by
 have e:jB x (if sD x then abx x else []) t a raw kQ w c=(xD x).bind λ(x7:Bool)=>(qJ x).bind λ(x8:Bool)=>cond (!(x7==x8)) (some (.inl ())) ((LZ x).bind λ(x9:List UInt8)=>cond (!(x9==(if sD x then abx x else []))) (some (.inl ())) ((BG x (unM t)).bind λ(x10:Bool)=>(zM x (unM t)).bind λ(bY:Bool)=>cond (!(x10==bY)) (some (.inl ())) ((Gn a 5).bind λ(dD:aM)=>(BG x dD).bind λ(qE:Bool)=>cond (!qE) (some (.inl ())) (some (.inr ()))))):=rfl
 rw [e,Xf x sx,Tf x sx,auv x sx,ha]
 obtain ⟨v1,h1,i1⟩:=au9 x (unM t) sx
 obtain ⟨v2,h2,i2⟩:=axS x (unM t) sx
 obtain ⟨v3,h3,i3⟩:=au9 x x sx
 obtain rfl:v1=v2:=by
  rw [Bool.eq_iff_iff,i1,i2]
 have h3':v3=true:=i3.2 rfl
 rw [h1,h2]
 simp only [Option.bind_some]
 rw [h3,h3']
 simp
theorem ah3 (b:List UInt8):EM (XZ b).1:=by
 have z:EM akS:=⟨by decide,by decide,by decide,by decide⟩
 unfold XZ
 cases hp:Vo b with
 | inl er=>exact z
 | inr y =>
  obtain ⟨x,s⟩:=y
  simp only
  split
  ·exact abA _ _ _ hp
  ·exact z
theorem Hu (x0 x1:bA) (x2:List UInt8) (x3:Int) (x4:UInt8) (x5:Int) (o0:LB x0) (o1:LB x1) (o2:(okL okT) x2) (o3:X9 x3) (o4:okT x4) (o5:X9 x5) (hb:Fb x0+Fb x1+(bkL bk1) x2+bk1 x3+bk1 x4+bk1 x5≤1048576):pR x0 x1 x2 x3 x4 x5=some true:=by
 have l2:x2.length≤1048576:=by have:=arz (bk:=bk1 (α:=UInt8)) (λx=>by unfold bk1;omega) x2;omega
 obtain ⟨t,_,hx,sx,_⟩:=abE x0
 obtain ⟨u,hu,_,_,_⟩:=abE x1
 generalize unM t=x at *
 obtain ⟨y,hy⟩:=auG x3 x0 u x2 x4 x5 x
 unfold pR
 rw [hx,Option.bind_some,hu,Option.bind_some,hy,Option.bind_some,aqI x sx,Option.bind_some,ax1 x sx y x0 hx,Option.bind_some]
 simp only [jO,cond_false]
 have lz:(if sD x then abx x else []).length≤2000:=by
  split
  ·rename_i h;exact aby h
  ·simp
 generalize (if sD x then abx x else [])=z at *
 rw [auF z (by omega),Option.bind_some]
 obtain ⟨t1,h1,n1⟩:=amj (z.take 4000) (by rw [List.length_take];omega) x3 x4 x5 x2
 rw [List.length_take] at n1
 obtain ⟨t2,h2,n2⟩:=aqM t1 (by omega) x5 x2
 rw [h1,Option.bind_some,h2,Option.bind_some]
 have step:∀ i:Nat,i < 2→gu t2 x2 (i:Int)=some (.inl ((i+1:Nat):Int)):=by
  intro i hi
  have hz:∃ u,bV [t2,x2] (i:Int)=some u∧u.length < 1000000000∧u.length < 500000000:=by
   rw [dP (by simpa using hi)]
   refine ⟨_,rfl, ?_⟩
   have:i=0∨i=1:=by omega
   rcases this with rfl | rfl
   ·show t2.length < _∧t2.length < _;omega
   ·show x2.length < _∧x2.length < _;omega
  obtain ⟨u,u1,u2,u3⟩:=hz
  obtain ⟨v,v1,v2⟩:=axS (XZ u).1 (XZ u).1 (ah3 u)
  have v3:v=true:=v2.2 rfl
  unfold gu
  rw [bf (by omega),cond_true,u1,Option.bind_some,aqD u u3,Option.bind_some,ami u u3,Option.bind_some,gX rfl,cond_false,v1,Option.bind_some,v3,bM (by omega) (by omega),dA]
  rfl
 have loop:lY t2 x2 0=some (.inr ()):=by
  unfold lY
  refine ng (λi=>(i:Int)) 2 _ step ?_ (by omega)
  unfold gu
  rfl
 rw [loop,auE]
 rfl
end Go.Proofs.YtohoggieaanllaaGreat
