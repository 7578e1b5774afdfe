import Derived.Test.YtohoggieaanllaaGreatL1
set_option linter.all false
set_option linter.unusedSimpArgs false
namespace Go.Proofs.YtohoggieaanllaaGreat
def nu (n:Nat):List UInt8:=if n < 128 then [UInt8.ofNat n] else UInt8.ofNat (n % 128+128)::nu (n / 128)
theorem uX {n:Nat} (h:n < 128):nu n=[UInt8.ofNat n]:=by rw [nu,if_pos h]
theorem Er {n:Nat} (h:¬ n < 128):nu n=UInt8.ofNat (n % 128+128)::nu (n / 128):=by rw [nu,if_neg h]
theorem RX {n:Nat} (h:n < 256):(UInt8.ofNat n).toNat=n:=by
 rw [UInt8.toNat_ofNat',Nat.mod_eq_of_lt (by omega)]
theorem ML (n:Nat):0 < (nu n).length:=by
 rw [nu]
 split<;>simp
theorem ae6 (j:Nat):∀ x:Nat,x < 128 ^ (j+1)→(nu x).length≤j+1:=by
 induction j with
 | zero=>intro x h;rw [uX (by simpa using h)];simp
 | succ j ih =>
  intro x h
  by_cases c:x < 128
  ·rw [uX c];simp
  ·rw [Er c]
   have:=ih (x / 128) (by
    rw [Nat.div_lt_iff_lt_mul (by omega)]
    rw [Nat.pow_succ] at h
    exact h)
   simp only [List.length_cons]
   omega
theorem H_ {x:Nat} (h:x≤4611686018427387903):(nu x).length≤9:=ae6 8 x (by
 have:(128:Nat) ^ (8+1)=9223372036854775808:=by decide
 omega)
def uY:List UInt8→Option Nat
 | []=>none
 | c::r=>if c.toNat < 128 then some 0 else (uY r).map (·+1)
theorem Py:∀ {b:List UInt8} {i:Nat} (h:uY b=some i),(∀ j (h1:j < i) (h2:j < b.length),¬ (b[j]).toNat < 128)∧∃ h':i < b.length,(b[i]).toNat < 128
 | [],i,h=>by simp [uY] at h
 | c::r,i,h=>by
  simp only [uY] at h
  split at h
  ·rename_i hc
   obtain rfl:=Option.some.inj h
   exact ⟨λj h1=>by omega,by simp,by simpa using hc⟩
  ·rename_i hc
   cases he:uY r with
   | none=>rw [he] at h;cases h
   | some k =>
    rw [he] at h
    obtain ⟨q1,q2,q3⟩:=Py he
    simp only [Option.map_some,Option.some.injEq] at h
    subst h
    refine ⟨λj h1 h2=>?_,by simp;omega,by simpa using q3⟩
    cases j with
    | zero=>simpa using hc
    | succ j=>simpa using q1 j (by omega) (by simpa using h2)
theorem Ib:∀ {b:List UInt8},uY b=none↔∀ c∈b,¬ c.toNat < 128
 | []=>by simp [uY]
 | c::r=>by
  simp only [uY]
  by_cases hc:c.toNat < 128
  ·rw [if_pos hc]
   simp only [List.mem_cons,forall_eq_or_imp,hc,not_true,false_and,iff_false]
   intro e;cases e
  ·rw [if_neg hc]
   simp only [List.mem_cons,forall_eq_or_imp,hc,not_false_eq_true,true_and,Option.map_eq_none_iff]
   exact Ib
theorem Ol {b:List UInt8} {n:Nat} (h:∀ i,uY b=some i→n≤i):uY (b.take n)=none:=by
 rw [Ib]
 intro c hc
 obtain ⟨j,hj,rfl⟩:=List.mem_iff_getElem.1 hc
 rw [List.length_take] at hj
 rw [List.getElem_take]
 cases he:uY b with
 | none=>exact Ib.1 he _ (List.getElem_mem _)
 | some i=>exact (Py he).1 j (by have:=h i he;omega) (by omega)
def valOf:List UInt8→Nat
 | []=>0
 | c::r=>c.toNat % 128+128 * valOf r
theorem ade (n:Nat):valOf (nu n)=n:=by
 induction n using Nat.strongRecOn with
 | _ n ih =>
  by_cases h:n < 128
  ·rw [uX h]
   simp only [valOf,RX (show n < 256 by omega)]
   omega
  ·rw [Er h]
   simp only [valOf,ih (n / 128) (by omega),RX (show n % 128+128 < 256 by omega)]
   omega
theorem RY (n:Nat) (r:List UInt8):uY (nu n++r)=some ((nu n).length - 1):=by
 induction n using Nat.strongRecOn with
 | _ n ih =>
  by_cases h:n < 128
  ·rw [uX h]
   simp only [List.cons_append,uY,RX (show n < 256 by omega),if_pos h]
   rfl
  ·have:=ML (n / 128)
   rw [Er h]
   simp only [List.cons_append,uY,ih (n / 128) (by omega),RX (show n % 128+128 < 256 by omega)]
   rw [if_neg (by omega)]
   simp only [Option.map_some,List.length_cons,Option.some.injEq]
   omega
theorem adf (n:Nat) (h:¬ n < 128):(nu n)[(nu n).length - 1]?≠some 0:=by
 induction n using Nat.strongRecOn with
 | _ n ih =>
  rw [Er h]
  have hp:=ML (n / 128)
  have e:(UInt8.ofNat (n % 128+128)::nu (n / 128)).length - 1=((nu (n / 128)).length - 1)+1:=by simp;omega
  rw [e,List.getElem?_cons_succ]
  by_cases c:n / 128 < 128
  ·rw [uX c]
   intro q
   replace q:UInt8.ofNat (n / 128)=0:=Option.some.inj q
   have:(UInt8.ofNat (n / 128)).toNat=0:=by rw [q];rfl
   rw [RX (by omega)] at this
   omega
  ·exact ih _ (by omega) c
def aaI (b:List UInt8) (i:Nat):Int×Int×Int :=
 if 9≤i∨(0 < i∧b[i]?=some 0) then (0,0,2) else if 4611686018427387903 < valOf (b.take (i+1)) then (0,0,2) else (((valOf (b.take (i+1)):Nat):Int),((i+1:Nat):Int),0)
def Om (b:List UInt8):Int×Int×Int :=
 match uY b with
 | none=>(0,0,3)
 | some i=>aaI b i
theorem Lc (n:Nat) (hn:n≤4611686018427387903) (r:List UInt8):Om (nu n++r)=((n:Int),((nu n).length:Int),0):=by
 have hp:=ML n
 have h9:=H_ hn
 unfold Om
 rw [RY]
 show aaI _ _=_
 unfold aaI
 have e:(nu n).length - 1+1=(nu n).length:=by omega
 have h0:¬ (9≤(nu n).length - 1∨(0 < (nu n).length - 1∧(nu n++r)[(nu n).length - 1]?=some 0)):=by
  rintro (h | ⟨h1,h2⟩)
  ·omega
  ·have h3:¬ n < 128:=λc=>by rw [uX c] at h1;simp at h1
   rw [List.getElem?_append_left (by omega)] at h2
   exact adf n h3 h2
 rw [if_neg h0,e,List.take_left,ade,if_neg (by omega)]
theorem RZ (n k:Nat) (hk:k < (nu n).length) (r:List UInt8):Om ((nu n++r).take k)=(0,0,3):=by
 unfold Om
 rw [Ol λi hi=>by
  rw [RY] at hi
  obtain rfl:=Option.some.inj hi
  omega]
end Go.Proofs.YtohoggieaanllaaGreat
