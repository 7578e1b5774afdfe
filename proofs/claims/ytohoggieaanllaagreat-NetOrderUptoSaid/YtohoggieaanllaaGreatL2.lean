import Derived.Test.YtohoggieaanllaaGreatL1
set_option linter.all false
set_option linter.unusedSimpArgs false
namespace Go.Proofs.YtohoggieaanllaaGreat
def qx (n:Nat):List UInt8:=if n < 128 then [UInt8.ofNat n] else UInt8.ofNat (n % 128+128)::qx (n / 128)
theorem yU {n:Nat} (h:n < 128):qx n=[UInt8.ofNat n]:=by rw [qx,if_pos h]
theorem JF {n:Nat} (h:¬ n < 128):qx n=UInt8.ofNat (n % 128+128)::qx (n / 128):=by rw [qx,if_neg h]
theorem Y_ {n:Nat} (h:n < 256):(UInt8.ofNat n).toNat=n:=by
 rw [UInt8.toNat_ofNat',Nat.mod_eq_of_lt (by omega)]
theorem Ti (n:Nat):0 < (qx n).length:=by
 rw [qx]
 split<;>simp
theorem ani (j:Nat):∀ x:Nat,x < 128 ^ (j+1)→(qx x).length≤j+1:=by
 induction j with
 | zero=>intro x h;rw [yU (by simpa using h)];simp
 | succ j ih =>
  intro x h
  by_cases c:x < 128
  ·rw [yU c];simp
  ·rw [JF c]
   have:=ih (x / 128) (by
    rw [Nat.div_lt_iff_lt_mul (by omega)]
    rw [Nat.pow_succ] at h
    exact h)
   simp only [List.length_cons]
   omega
theorem Ny {x:Nat} (h:x≤4611686018427387903):(qx x).length≤9:=ani 8 x (by
 have:(128:Nat) ^ (8+1)=9223372036854775808:=by decide
 omega)
def jm:List UInt8→Option Nat
 | []=>none
 | c::r=>if c.toNat < 128 then some 0 else (jm r).map (·+1)
theorem WI (b:List UInt8):∀ i,i≤b.length→(∀ j (h:j < i) (h':j < b.length),¬ (b[j]).toNat < 128)→jm b=(jm (b.drop i)).map (·+i):=by
 induction b with
 | nil=>intro i h _;simp [jm]
 | cons c r ih =>
  intro i h hs
  cases i with
  | zero=>simp
  | succ i =>
   have h0:=hs 0 (by omega) (by simp)
   simp only [List.getElem_cons_zero] at h0
   simp only [jm,if_neg h0,List.drop_succ_cons]
   rw [ih i (by simpa using h) (λj h1 h2=>by
    have:=hs (j+1) (by omega) (by simp;omega)
    simpa using this),Option.map_map]
   congr 1
theorem PI:∀ {b:List UInt8} {i:Nat},jm b=some i→i < b.length
 | [],i,h=>by simp [jm] at h
 | c::r,i,h=>by
  simp only [jm] at h
  split at h
  ·obtain rfl:=Option.some.inj h
   simp
  ·cases he:jm r with
   | none=>rw [he] at h;cases h
   | some k =>
    rw [he] at h
    have:=PI he
    simp only [Option.map_some,Option.some.injEq] at h
    simp only [List.length_cons]
    omega
theorem WJ:∀ {b:List UInt8} {i:Nat} (h:jm b=some i),(∀ j (h1:j < i) (h2:j < b.length),¬ (b[j]).toNat < 128)∧∃ h':i < b.length,(b[i]).toNat < 128
 | [],i,h=>by simp [jm] at h
 | c::r,i,h=>by
  simp only [jm] at h
  split at h
  ·rename_i hc
   obtain rfl:=Option.some.inj h
   exact ⟨λj h1=>by omega,by simp,by simpa using hc⟩
  ·rename_i hc
   cases he:jm r with
   | none=>rw [he] at h;cases h
   | some k =>
    rw [he] at h
    obtain ⟨q1,q2,q3⟩:=WJ he
    simp only [Option.map_some,Option.some.injEq] at h
    subst h
    refine ⟨λj h1 h2=>?_,by simp;omega,by simpa using q3⟩
    cases j with
    | zero=>simpa using hc
    | succ j=>simpa using q1 j (by omega) (by simpa using h2)
theorem Nz:∀ {b:List UInt8},jm b=none↔∀ c∈b,¬ c.toNat < 128
 | []=>by simp [jm]
 | c::r=>by
  simp only [jm]
  by_cases hc:c.toNat < 128
  ·rw [if_pos hc]
   simp only [List.mem_cons,forall_eq_or_imp,hc,not_true,false_and,iff_false]
   intro e;cases e
  ·rw [if_neg hc]
   simp only [List.mem_cons,forall_eq_or_imp,hc,not_false_eq_true,true_and,Option.map_eq_none_iff]
   exact Nz
theorem Vf {b:List UInt8} {n:Nat} (h:∀ i,jm b=some i→n≤i):jm (b.take n)=none:=by
 rw [Nz]
 intro c hc
 obtain ⟨j,hj,rfl⟩:=List.mem_iff_getElem.1 hc
 rw [List.length_take] at hj
 rw [List.getElem_take]
 cases he:jm b with
 | none=>exact Nz.1 he _ (List.getElem_mem _)
 | some i=>exact (WJ he).1 j (by have:=h i he;omega) (by omega)
def valOf:List UInt8→Nat
 | []=>0
 | c::r=>c.toNat % 128+128 * valOf r
theorem afP:∀ l:List UInt8,valOf l < 128 ^ l.length
 | []=>by simp [valOf]
 | c::r=>by
  have:=afP r
  simp only [valOf,List.length_cons,Nat.pow_succ]
  omega
theorem ak1 (n:Nat):valOf (qx n)=n:=by
 induction n using Nat.strongRecOn with
 | _ n ih =>
  by_cases h:n < 128
  ·rw [yU h]
   simp only [valOf,Y_ (show n < 256 by omega)]
   omega
  ·rw [JF h]
   simp only [valOf,ih (n / 128) (by omega),Y_ (show n % 128+128 < 256 by omega)]
   omega
theorem Za (n:Nat) (r:List UInt8):jm (qx n++r)=some ((qx n).length - 1):=by
 induction n using Nat.strongRecOn with
 | _ n ih =>
  by_cases h:n < 128
  ·rw [yU h]
   simp only [List.cons_append,jm,Y_ (show n < 256 by omega),if_pos h]
   rfl
  ·have:=Ti (n / 128)
   rw [JF h]
   simp only [List.cons_append,jm,ih (n / 128) (by omega),Y_ (show n % 128+128 < 256 by omega)]
   rw [if_neg (by omega)]
   simp only [Option.map_some,List.length_cons,Option.some.injEq]
   omega
theorem ak2 (n:Nat) (h:¬ n < 128):(qx n)[(qx n).length - 1]?≠some 0:=by
 induction n using Nat.strongRecOn with
 | _ n ih =>
  rw [JF h]
  have hp:=Ti (n / 128)
  have e:(UInt8.ofNat (n % 128+128)::qx (n / 128)).length - 1=((qx (n / 128)).length - 1)+1:=by simp;omega
  rw [e,List.getElem?_cons_succ]
  by_cases c:n / 128 < 128
  ·rw [yU c]
   intro q
   replace q:UInt8.ofNat (n / 128)=0:=Option.some.inj q
   have:(UInt8.ofNat (n / 128)).toNat=0:=by rw [q];rfl
   rw [Y_ (by omega)] at this
   omega
  ·exact ih _ (by omega) c
def FC (b:List UInt8) (i:Nat):Int×Int×Int :=
 if 9≤i∨(0 < i∧b[i]?=some 0) then (0,0,2) else if 4611686018427387903 < valOf (b.take (i+1)) then (0,0,2) else (((valOf (b.take (i+1)):Nat):Int),((i+1:Nat):Int),0)
def qg (b:List UInt8):Int×Int×Int :=
 match jm b with
 | none=>(0,0,3)
 | some i=>FC b i
def ah6 (b:List UInt8):Int×List UInt8×Int :=
 match qg b with
 | (v,k,e)=>if e=0 then (v,b.drop k.toNat,0) else (0,[],e)
theorem ak3 (b:List UInt8):0≤(qg b).2.1∧(qg b).2.1≤(b.length:Int):=by
 unfold qg
 cases he:jm b with
 | none=>simp
 | some i =>
  have:=PI he
  show 0≤(FC b i).2.1∧(FC b i).2.1≤(b.length:Int)
  unfold FC
  split
  ·simp
  ·split
   ·simp
   ·simp only
    omega
theorem oW (b:List UInt8):qg b=(0,0,3)∨qg b=(0,0,2)∨∃ v k:Nat,qg b=((v:Int),(k:Int),0)∧v≤4611686018427387903∧1≤k∧k≤9∧k≤b.length:=by
 unfold qg
 cases he:jm b with
 | none=>exact .inl rfl
 | some i =>
  right
  have:=PI he
  show FC b i=_∨∃ v k:Nat,FC b i=_∧_
  unfold FC
  split
  ·exact .inl rfl
  ·rename_i h1
   split
   ·exact .inl rfl
   ·rename_i h2
    exact .inr ⟨_,i+1,rfl,by omega,by omega,by
     rcases Nat.lt_or_ge i 9 with q | q
     ·omega
     ·exact absurd (.inl q) h1,by omega⟩
theorem Ro (n:Nat) (hn:n≤4611686018427387903) (r:List UInt8):qg (qx n++r)=((n:Int),((qx n).length:Int),0):=by
 have hp:=Ti n
 have h9:=Ny hn
 unfold qg
 rw [Za]
 show FC _ _=_
 unfold FC
 have e:(qx n).length - 1+1=(qx n).length:=by omega
 have h0:¬ (9≤(qx n).length - 1∨(0 < (qx n).length - 1∧(qx n++r)[(qx n).length - 1]?=some 0)):=by
  rintro (h | ⟨h1,h2⟩)
  ·omega
  ·have h3:¬ n < 128:=λc=>by rw [yU c] at h1;simp at h1
   rw [List.getElem?_append_left (by omega)] at h2
   exact ak2 n h3 h2
 rw [if_neg h0,e,List.take_left,ak1,if_neg (by omega)]
theorem Zb (n k:Nat) (hk:k < (qx n).length) (r:List UInt8):qg ((qx n++r).take k)=(0,0,3):=by
 unfold qg
 rw [Vf λi hi=>by
  rw [Za] at hi
  obtain rfl:=Option.some.inj hi
  omega]
end Go.Proofs.YtohoggieaanllaaGreat
