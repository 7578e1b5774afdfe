import Derived.Test.YtgahmammhclobaaGreatL1
set_option linter.all false
set_option linter.unusedSimpArgs false
namespace Go.Proofs.YtgahmammhclobaaGreat
def encN (n:Nat):List UInt8:=if n < 128 then [UInt8.ofNat n] else UInt8.ofNat (n % 128+128) :: encN (n / 128)
theorem encN_small {n:Nat} (h:n < 128):encN n=[UInt8.ofNat n]:=by rw [encN,if_pos h]
theorem encN_big {n:Nat} (h:¬ n < 128):encN n=UInt8.ofNat (n % 128+128) :: encN (n / 128):=by rw [encN,if_neg h]
theorem encN_pos (n:Nat):0 < (encN n).length:=by
 rw [encN]
 split <;> simp
theorem encN_len (j:Nat):∀ x:Nat,x < 128 ^ (j+1)→(encN x).length≤j+1:=by
 induction j with
 | zero=>intro x h; rw [encN_small (by simpa using h)]; simp
 | succ j ih =>
  intro x h
  by_cases c:x < 128
  ·rw [encN_small c]; simp
  ·rw [encN_big c]
   have:=ih (x / 128) (by
    rw [Nat.div_lt_iff_lt_mul (by omega)]
    rw [Nat.pow_succ] at h
    exact h)
   simp only [List.length_cons]
   omega
theorem encN_le9 {x:Nat} (h:x≤4611686018427387903):(encN x).length≤9:=encN_len 8 x (by
 have:(128:Nat) ^ (8+1)=9223372036854775808:=by decide
 omega)
def endsAt:List UInt8→Option Nat
 | []=>none
 | c :: r=>if c.toNat < 128 then some 0 else (endsAt r).map (·+1)
theorem endsAt_drop (b:List UInt8):∀ i,i≤b.length→(∀ j (h:j < i) (h':j < b.length),¬ (b[j]).toNat < 128)→endsAt b=(endsAt (b.drop i)).map (·+i):=by
 induction b with
 | nil=>intro i h _; simp [endsAt]
 | cons c r ih =>
  intro i h hs
  cases i with
  | zero=>simp
  | succ i =>
   have h0:=hs 0 (by omega) (by simp)
   simp only [List.getElem_cons_zero] at h0
   simp only [endsAt,if_neg h0,List.drop_succ_cons]
   rw [ih i (by simpa using h) (fun j h1 h2=>by
    have:=hs (j+1) (by omega) (by simp; omega)
    simpa using this),Option.map_map]
   congr 1
theorem endsAt_lt:∀ {b:List UInt8} {i:Nat},endsAt b=some i→i < b.length
 | [],i,h=>by simp [endsAt] at h
 | c :: r,i,h=>by
  simp only [endsAt] at h
  split at h
  ·obtain rfl:=Option.some.inj h
   simp
  ·cases he:endsAt r with
   | none=>rw [he] at h; cases h
   | some k =>
    rw [he] at h
    have:=endsAt_lt he
    simp only [Option.map_some,Option.some.injEq] at h
    simp only [List.length_cons]
    omega
theorem endsAt_spec:∀ {b:List UInt8} {i:Nat} (h:endsAt b=some i),(∀ j (h1:j < i) (h2:j < b.length),¬ (b[j]).toNat < 128)∧∃ h':i < b.length,(b[i]).toNat < 128
 | [],i,h=>by simp [endsAt] at h
 | c :: r,i,h=>by
  simp only [endsAt] at h
  split at h
  ·rename_i hc
   obtain rfl:=Option.some.inj h
   exact ⟨fun j h1=>by omega,by simp,by simpa using hc⟩
  ·rename_i hc
   cases he:endsAt r with
   | none=>rw [he] at h; cases h
   | some k =>
    rw [he] at h
    obtain ⟨q1,q2,q3⟩:=endsAt_spec he
    simp only [Option.map_some,Option.some.injEq] at h
    subst h
    refine ⟨fun j h1 h2=>?_,by simp; omega,by simpa using q3⟩
    cases j with
    | zero=>simpa using hc
    | succ j=>simpa using q1 j (by omega) (by simpa using h2)
def valOf:List UInt8→Nat
 | []=>0
 | c :: r=>c.toNat % 128+128 * valOf r
theorem valOf_lt:∀ l:List UInt8,valOf l < 128 ^ l.length
 | []=>by simp [valOf]
 | c :: r=>by
  have:=valOf_lt r
  simp only [valOf,List.length_cons,Nat.pow_succ]
  omega
theorem valOf_app:∀ l m:List UInt8,valOf (l ++ m)=valOf l+128 ^ l.length * valOf m
 | [],m=>by simp [valOf]
 | c :: r,m=>by
  have:=valOf_app r m
  simp only [List.cons_append,valOf,this,List.length_cons,Nat.pow_succ]
  rw [Nat.mul_add,Nat.add_assoc,← Nat.mul_assoc,Nat.mul_comm (128 ^ r.length) 128]
def takeAt (b:List UInt8) (i:Nat):Int × Int × Int :=
 if 9≤i∨(0 < i∧b[i]?=some 0) then (0,0,2) else if 4611686018427387903 < valOf (b.take (i+1)) then (0,0,2) else (((valOf (b.take (i+1)):Nat):Int),((i+1:Nat):Int),0)
def takeOf (b:List UInt8):Int × Int × Int :=
 match endsAt b with
 | none=>(0,0,3)
 | some i=>takeAt b i
def TakeOf (b:List UInt8):Int × List UInt8 × Int :=
 match takeOf b with
 | (v,k,e)=>if e=0 then (v,b.drop k.toNat,0) else (0,[],e)
theorem takeOf_le (b:List UInt8):0≤(takeOf b).2.1∧(takeOf b).2.1≤(b.length:Int):=by
 unfold takeOf
 cases he:endsAt b with
 | none=>simp
 | some i =>
  have:=endsAt_lt he
  show 0≤(takeAt b i).2.1∧(takeAt b i).2.1≤(b.length:Int)
  unfold takeAt
  split
  ·simp
  ·split
   ·simp
   ·simp only
    omega
theorem takeOf_cases (b:List UInt8):takeOf b=(0,0,3)∨takeOf b=(0,0,2)∨∃ v k:Nat,takeOf b=((v:Int),(k:Int),0)∧v≤4611686018427387903∧1≤k∧k≤9∧k≤b.length:=by
 unfold takeOf
 cases he:endsAt b with
 | none=>exact .inl rfl
 | some i =>
  right
  have:=endsAt_lt he
  show takeAt b i=_∨∃ v k:Nat,takeAt b i=_∧_
  unfold takeAt
  split
  ·exact .inl rfl
  ·rename_i h1
   split
   ·exact .inl rfl
   ·rename_i h2
    exact .inr ⟨_,i+1,rfl,by omega,by omega,by
     rcases Nat.lt_or_ge i 9 with q | q
     ·omega
     ·exact absurd (.inl q) h1,by omega⟩
end Go.Proofs.YtgahmammhclobaaGreat
