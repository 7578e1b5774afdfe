import Derived.Test.YtohoggieaanllaaGreatJ5
set_option linter.all false
set_option linter.unusedSimpArgs false
namespace Go.Proofs.YtohoggieaanllaaGreat
theorem mW {S E:Type} {step:S→Option (S⊕E)} (μ:S→Nat) (Inv:S→Prop) (Post:E→Prop)
  (h:∀ s,Inv s→(∃ s',step s=some (.inl s')∧Inv s'∧μ s' < μ s)∨∃ e,step s=some (.inr e)∧Post e) :
  ∀ (k:Nat) (s:S),Inv s→μ s < k→∃ e,bT step k s=some e∧Post e
 | 0,_,_,hk=>by omega
 | k+1,s,hi,hk=>by
  rcases h s hi with ⟨s',e1,e2,e3⟩ | ⟨e,e1,e2⟩
  ·obtain ⟨e,q1,q2⟩:=mW μ Inv Post h k s' e2 (by omega)
   exact ⟨e,by simp only [bT,e1];exact q1,q2⟩
  ·exact ⟨e,by simp only [bT,e1],e2⟩
theorem aj7 {S E:Type} {step:S→Option (S⊕E)} (st:Nat→S) (n:Nat) (e:E) (h:∀ i,i < n→step (st i)=some (.inl (st (i+1)))) (he:step (st n)=some (.inr e)) :
  ∀ (k j:Nat),j≤n→n - j < k→bT step k (st j)=some e
 | 0,_,_,hk=>by omega
 | k+1,j,hj,hk=>by
  rcases Nat.lt_or_ge j n with q | q
  ·simp only [bT,h j q]
   exact aj7 st n e h he k (j+1) (by omega) (by omega)
  ·obtain rfl:j=n:=by omega
   simp only [bT,he]
theorem qK {S E:Type} {step:S→Option (S⊕E)} (st:Nat→S) (n:Nat) (e:E) (h:∀ i,i < n→step (st i)=some (.inl (st (i+1)))) (he:step (st n)=some (.inr e)) (hn:n < 1000000000000) :
  bT step KK (st 0)=some e :=
 aj7 st n e h he KK 0 (by omega) (Nat.lt_of_lt_of_le (by omega) (by decide:1000000000000≤KK))
theorem bU {x:Int} (h1:-9223372036854775808≤x) (h2:x < 9223372036854775808):IntKind.i64.wrap x=x:=by
 simp only [IntKind.wrap,IntKind.signed,IntKind.bits]
 simp
 omega
theorem anh {x:Int} (h1:0≤x) (h2:x < 18446744073709551616):IntKind.u64.wrap x=x:=by
 simp only [IntKind.wrap,IntKind.signed,IntKind.bits]
 simp
 omega
theorem afN (x:Int):0≤IntKind.u64.wrap x∧IntKind.u64.wrap x < 18446744073709551616:=by
 simp only [IntKind.wrap,IntKind.signed,IntKind.bits]
 simp
 omega
theorem afO {α:Type} (L:List α) (i:Nat):bO L (i:Int)=L[i]?:=by
 unfold bO
 rw [if_pos (by omega)]
 simp
theorem dI {α:Type} {L:List α} {i:Nat} (h:i < L.length):bO L (i:Int)=some L[i]:=by
 rw [afO,List.getElem?_eq_getElem h]
theorem adV {α:Type} (L:List α) (a b:Nat) (h1:a≤b) (h2:b≤L.length):LQ L (a:Int) (b:Int)=some ((L.drop a).take (b - a)):=by
 unfold LQ
 rw [if_pos ⟨by omega,by omega,by omega⟩]
 simp
theorem uK {α:Type} (L:List α) (a:Nat) (h:a≤L.length):LQ L (a:Int) (L.length:Int)=some (L.drop a):=by
 rw [adV L a L.length h (Nat.le_refl _),List.take_of_length_le (by simp)]
theorem adW {α:Type} (L:List α) (b:Nat) (h:b≤L.length):LQ L 0 (b:Int)=some (L.take b):=by
 have:=adV L 0 b (by omega) h
 simpa using this
theorem jK {β:Type} {b:Bool} {x:Option β} (h:b=true):gd b x=x:=by subst h;rfl
theorem rO:1000000000000 < KK:=by decide
theorem adX {k n:Nat} (hk:k≤32) (h:n < 1000000000000):dh k n=true:=by
 unfold dh
 refine decide_eq_true ⟨?_,by omega⟩
 have:=Nat.mul_le_mul_left n hk
 omega
theorem arx {β:Type} {k n:Nat} {x:Option β} (hk:k≤32) (h:n < 1000000000000):gd (dh k n) x=x:=jK (adX hk h)
theorem CX {β:Type} {n:Nat} {x:Option β} (h:n < 1000000000000):gd (dh 1 n) x=x:=jK (adX (by omega) h)
theorem ak0 {β:Type} {n:Nat} {x:Option β} (h:n < 1000000000000):gd (dh 24 n) x=x:=jK (adX (by omega) h)
theorem aZ {p:Prop} [Decidable p] (h:p):decide p=true:=decide_eq_true h
theorem aV {p:Prop} [Decidable p] (h:¬ p):decide p=false:=decide_eq_false h
theorem Nw {a b:Int} (h:a=b):(a==b)=true:=by simpa using h
theorem Hu {a b:Int} (h:a≠b):(a==b)=false:=by simpa using h
theorem qZ {a b:Int} (h:a≠b):(a != b)=true:=by simpa using h
theorem gL {a b:Int} (h:a=b):(a != b)=false:=by simpa using h
theorem aj8 {α:Type} [BEq α] [LawfulBEq α] [DecidableEq α] (a b:α):(a==b)=decide (a=b):=by
 rw [Bool.eq_iff_iff]
 simp
theorem cO (i:Nat):(i:Int)+1=((i+1:Nat):Int):=by omega
end Go.Proofs.YtohoggieaanllaaGreat
