import Derived.Test.YtohoggieaanllaaGreatL1
set_option linter.all false
set_option linter.unusedSimpArgs false
namespace Go.Proofs.YtohoggieaanllaaGreat
def Es (n:Nat):List UInt8:=if n < 128 then [UInt8.ofNat n] else UInt8.ofNat (n % 128+128)::Es (n / 128)
theorem LC {n:Nat} (h:n < 128):Es n=[UInt8.ofNat n]:=by rw [Es,if_pos h]
theorem TV {n:Nat} (h:¬ n < 128):Es n=UInt8.ofNat (n % 128+128)::Es (n / 128):=by rw [Es,if_neg h]
theorem agq (n:Nat):0 < (Es n).length:=by
 rw [Es]
 split<;>simp
theorem anr (j:Nat):∀ x:Nat,x < 128 ^ (j+1)→(Es x).length≤j+1:=by
 induction j with
 | zero=>intro x h;rw [LC (by simpa using h)];simp
 | succ j ih =>
  intro x h
  by_cases c:x < 128
  ·rw [LC c];simp
  ·rw [TV c]
   have:=ih (x / 128) (by
    rw [Nat.div_lt_iff_lt_mul (by omega)]
    rw [Nat.pow_succ] at h
    exact h)
   simp only [List.length_cons]
   omega
theorem Oc {x:Nat} (h:x≤4611686018427387903):(Es x).length≤9:=anr 8 x (by
 have:(128:Nat) ^ (8+1)=9223372036854775808:=by decide
 omega)
def jw:List UInt8→Option Nat
 | []=>none
 | c::r=>if c.toNat < 128 then some 0 else (jw r).map (·+1)
theorem DJ (b:List UInt8):∀ i,i≤b.length→(∀ j (h:j < i) (h':j < b.length),¬ (b[j]).toNat < 128)→jw b=(jw (b.drop i)).map (·+i):=by
 induction b with
 | nil=>intro i h _;simp [jw]
 | cons c r ih =>
  intro i h hs
  cases i with
  | zero=>simp
  | succ i =>
   have h0:=hs 0 (by omega) (by simp)
   simp only [List.getElem_cons_zero] at h0
   simp only [jw,if_neg h0,List.drop_succ_cons]
   rw [ih i (by simpa using h) (λj h1 h2=>by
    have:=hs (j+1) (by omega) (by simp;omega)
    simpa using this),Option.map_map]
   congr 1
theorem Qi:∀ {b:List UInt8} {i:Nat},jw b=some i→i < b.length
 | [],i,h=>by simp [jw] at h
 | c::r,i,h=>by
  simp only [jw] at h
  split at h
  ·obtain rfl:=Option.some.inj h
   simp
  ·cases he:jw r with
   | none=>rw [he] at h;cases h
   | some k =>
    rw [he] at h
    have:=Qi he
    simp only [Option.map_some,Option.some.injEq] at h
    simp only [List.length_cons]
    omega
theorem Xy:∀ {b:List UInt8} {i:Nat} (h:jw b=some i),(∀ j (h1:j < i) (h2:j < b.length),¬ (b[j]).toNat < 128)∧∃ h':i < b.length,(b[i]).toNat < 128
 | [],i,h=>by simp [jw] at h
 | c::r,i,h=>by
  simp only [jw] at h
  split at h
  ·rename_i hc
   obtain rfl:=Option.some.inj h
   exact ⟨λj h1=>by omega,by simp,by simpa using hc⟩
  ·rename_i hc
   cases he:jw r with
   | none=>rw [he] at h;cases h
   | some k =>
    rw [he] at h
    obtain ⟨q1,q2,q3⟩:=Xy he
    simp only [Option.map_some,Option.some.injEq] at h
    subst h
    refine ⟨λj h1 h2=>?_,by simp;omega,by simpa using q3⟩
    cases j with
    | zero=>simpa using hc
    | succ j=>simpa using q1 j (by omega) (by simpa using h2)
def valOf:List UInt8→Nat
 | []=>0
 | c::r=>c.toNat % 128+128 * valOf r
theorem TW:∀ l:List UInt8,valOf l < 128 ^ l.length
 | []=>by simp [valOf]
 | c::r=>by
  have:=TW r
  simp only [valOf,List.length_cons,Nat.pow_succ]
  omega
theorem V3:∀ l m:List UInt8,valOf (l++m)=valOf l+128 ^ l.length * valOf m
 | [],m=>by simp [valOf]
 | c::r,m=>by
  have:=V3 r m
  simp only [List.cons_append,valOf,this,List.length_cons,Nat.pow_succ]
  rw [Nat.mul_add,Nat.add_assoc,← Nat.mul_assoc,Nat.mul_comm (128 ^ r.length) 128]
def zB (b:List UInt8) (i:Nat):Int×Int×Int :=
 if 9≤i∨(0 < i∧b[i]?=some 0) then (0,0,2) else if 4611686018427387903 < valOf (b.take (i+1)) then (0,0,2) else (((valOf (b.take (i+1)):Nat):Int),((i+1:Nat):Int),0)
def nE (b:List UInt8):Int×Int×Int :=
 match jw b with
 | none=>(0,0,3)
 | some i=>zB b i
def Gb (b:List UInt8):Int×List UInt8×Int :=
 match nE b with
 | (v,k,e)=>if e=0 then (v,b.drop k.toNat,0) else (0,[],e)
theorem alk (b:List UInt8):0≤(nE b).2.1∧(nE b).2.1≤(b.length:Int):=by
 unfold nE
 cases he:jw b with
 | none=>simp
 | some i =>
  have:=Qi he
  show 0≤(zB b i).2.1∧(zB b i).2.1≤(b.length:Int)
  unfold zB
  split
  ·simp
  ·split
   ·simp
   ·simp only
    omega
theorem lI (b:List UInt8):nE b=(0,0,3)∨nE b=(0,0,2)∨∃ v k:Nat,nE b=((v:Int),(k:Int),0)∧v≤4611686018427387903∧1≤k∧k≤9∧k≤b.length:=by
 unfold nE
 cases he:jw b with
 | none=>exact .inl rfl
 | some i =>
  right
  have:=Qi he
  show zB b i=_∨∃ v k:Nat,zB b i=_∧_
  unfold zB
  split
  ·exact .inl rfl
  ·rename_i h1
   split
   ·exact .inl rfl
   ·rename_i h2
    exact .inr ⟨_,i+1,rfl,by omega,by omega,by
     rcases Nat.lt_or_ge i 9 with q | q
     ·omega
     ·exact absurd (.inl q) h1,by omega⟩
end Go.Proofs.YtohoggieaanllaaGreat
