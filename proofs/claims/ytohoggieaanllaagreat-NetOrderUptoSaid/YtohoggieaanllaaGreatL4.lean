import Derived.Test.YtohoggieaanllaaGreatL3
set_option linter.all false
set_option linter.unusedSimpArgs false
namespace Go.Proofs.YtohoggieaanllaaGreat
theorem aj9 {n:Nat} (h:n < 256):Em (n:Int)=UInt8.ofNat n:=by
 unfold Em
 have:IntKind.u8.wrap (n:Int)=n:=by
  simp only [IntKind.wrap,IntKind.signed,IntKind.bits]
  simp
  omega
 rw [this]
 simp
theorem anj {x:Nat} (h:x < 9223372036854775808):EA .i64 (x:Int) 127=((x % 128:Nat):Int):=by
 have e:(BitVec.ofInt 64 (x:Int) &&& BitVec.ofInt 64 127).toNat=x % 128:=by
  rw [BitVec.toNat_and,BitVec.toNat_ofInt,BitVec.toNat_ofInt]
  have h1:((x:Int) % ((2 ^ 64:Nat):Int)).toNat=x:=by omega
  have h2:((127:Int) % ((2 ^ 64:Nat):Int)).toNat=2 ^ 7 - 1:=by decide
  rw [h1,h2,Nat.and_two_pow_sub_one_eq_mod]
 show IntKind.i64.wrap (((BitVec.ofInt 64 (x:Int) &&& BitVec.ofInt 64 127).toNat:Nat):Int)=_
 rw [e,bU (by omega) (by omega)]
theorem arz {m:Nat} (h:m < 128):orI .i64 (m:Int) 128=((m+128:Nat):Int):=by
 have e:(BitVec.ofInt 64 (m:Int) ||| BitVec.ofInt 64 128).toNat=m+128:=by
  rw [BitVec.toNat_or,BitVec.toNat_ofInt,BitVec.toNat_ofInt]
  have h1:((m:Int) % ((2 ^ 64:Nat):Int)).toNat=m:=by omega
  have h2:((128:Int) % ((2 ^ 64:Nat):Int)).toNat=2 ^ 7 * 1:=by decide
  rw [h1,h2,Nat.or_comm,← Nat.two_pow_add_eq_or_of_lt (by omega)]
  omega
 show IntKind.i64.wrap (((BitVec.ofInt 64 (m:Int) ||| BitVec.ofInt 64 128).toNat:Nat):Int)=_
 rw [e,bU (by omega) (by omega)]
theorem axO (x:Nat):aa6 .i64 (x:Int) 7=((x / 128:Nat):Int):=by
 unfold aa6
 have:(2:Int) ^ (min (7:Int).toNat (IntKind.bits .i64))=128:=by decide
 rw [this,Int.fdiv_eq_ediv_of_nonneg _ (by omega)]
 omega
theorem ank {x:Nat} (h:x < 9223372036854775808):Em (orI .i64 (EA .i64 (x:Int) 127) 128)=UInt8.ofNat (x % 128+128):=by
 rw [anj h,arz (by omega),aj9 (by omega)]
theorem anl:∀ n:Fin 256,((((Em (EA .u8 ((UInt8.ofNat n.val).toNat:Int) 128)).toNat:Int)==0)=decide (n.val < 128)):=by decide +kernel
theorem ak4 (c:UInt8):(((Em (EA .u8 (c.toNat:Int) 128)).toNat:Int)==0)=decide (c.toNat < 128):=by
 have:=anl ⟨c.toNat,c.toNat_lt⟩
 simpa only [UInt8.ofNat_toNat] using this
theorem arA:∀ n:Fin 256,(Em (EA .u8 ((UInt8.ofNat n.val).toNat:Int) 127)).toNat=n.val % 128:=by decide +kernel
theorem anm (c:UInt8):(Em (EA .u8 (c.toNat:Int) 127)).toNat=c.toNat % 128:=by
 have:=arA ⟨c.toNat,c.toNat_lt⟩
 simpa only [UInt8.ofNat_toNat] using this
theorem avG (v m:Nat) (hv:v < 72057594037927936) (hm:m < 128):orI .i64 (aro .i64 (v:Int) 7) (m:Int)=((m+128 * v:Nat):Int):=by
 have e1:aro .i64 (v:Int) 7=((128 * v:Nat):Int):=by
  have:(v:Int) * 2 ^ (min (7:Int).toNat (IntKind.bits .i64))=((128 * v:Nat):Int):=by
   have:min (7:Int).toNat (IntKind.bits .i64)=7:=by decide
   rw [this]
   omega
  unfold aro
  rw [this,bU (by omega) (by omega)]
 have e2:(BitVec.ofInt 64 ((128 * v:Nat):Int) ||| BitVec.ofInt 64 (m:Int)).toNat=m+128 * v:=by
  rw [BitVec.toNat_or,BitVec.toNat_ofInt,BitVec.toNat_ofInt]
  have h1:(((128 * v:Nat):Int) % ((2 ^ 64:Nat):Int)).toNat=128 * v:=by omega
  have h2:((m:Int) % ((2 ^ 64:Nat):Int)).toNat=m:=by omega
  rw [h1,h2,show 128 * v=2 ^ 7 * v from rfl,← Nat.two_pow_add_eq_or_of_lt (by omega),Nat.add_comm]
 rw [e1]
 show IntKind.i64.wrap (((BitVec.ofInt 64 ((128 * v:Nat):Int) ||| BitVec.ofInt 64 (m:Int)).toNat:Nat):Int)=_
 rw [e2,bU (by omega) (by omega)]
def Tj (x:Int):Bool:=decide (0≤x∧x≤4611686018427387903)
def encI (l:List Int):List UInt8:=l.flatMap λx=>qx x.toNat
def Zc (b:List UInt8) (l:List Int):List UInt8:=if l.all Tj then b++encI l else []
theorem ak5 (l:List Int) (x:Int):encI (l++[x])=encI l++qx x.toNat:=by simp [encI]
theorem ak6 (b:List UInt8) {n:Nat} (h:n≤4611686018427387903):Zc b [(n:Int)]=b++qx n:=by
 unfold Zc
 rw [if_pos (by simp [Tj];omega)]
 simp [encI]
theorem akb:∀ (l:List Int),(∀ x∈l,Tj x=true)→(encI l).length≤9 * l.length
 | [],_=>by simp [encI]
 | x::l,h=>by
  have h1:=akb l λy hy=>h y (by simp [hy])
  have h2:=h x (by simp)
  simp only [Tj,decide_eq_true_eq] at h2
  have h3:=Ny (x:=x.toNat) (by omega)
  simp only [encI,List.flatMap_cons,List.length_append,List.length_cons] at h1 ⊢
  omega
theorem ano {p:Int→Bool} (l:List Int) {i:Nat} (h:i < l.length) (h1:p l[i]=false):l.all p=false:=by
 rw [List.all_eq_false]
 exact ⟨l[i],List.getElem_mem _,by simp [h1]⟩
theorem ak7 (x:Nat) (h:¬ x < 128) (s:List UInt8):s++qx x=(s++[UInt8.ofNat (x % 128+128)])++qx (x / 128):=by
 rw [JF h]
 simp
end Go.Proofs.YtohoggieaanllaaGreat
