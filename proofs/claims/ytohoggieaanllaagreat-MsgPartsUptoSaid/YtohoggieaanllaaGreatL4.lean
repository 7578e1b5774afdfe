import Derived.Test.YtohoggieaanllaaGreatL3
set_option linter.all false
set_option linter.unusedSimpArgs false
namespace Go.Proofs.YtohoggieaanllaaGreat
theorem acy {n:Nat} (h:n < 256):L6 (n:Int)=UInt8.ofNat n:=by
 unfold L6
 have:IntKind.u8.wrap (n:Int)=n:=by
  simp only [IntKind.wrap,IntKind.signed,IntKind.bits]
  simp
  omega
 rw [this]
 simp
theorem ae7 {x:Nat} (h:x < 9223372036854775808):Eo .i64 (x:Int) 127=((x % 128:Nat):Int):=by
 have e:(BitVec.ofInt 64 (x:Int) &&& BitVec.ofInt 64 127).toNat=x % 128:=by
  rw [BitVec.toNat_and,BitVec.toNat_ofInt,BitVec.toNat_ofInt]
  have h1:((x:Int) % ((2 ^ 64:Nat):Int)).toNat=x:=by omega
  have h2:((127:Int) % ((2 ^ 64:Nat):Int)).toNat=2 ^ 7 - 1:=by decide
  rw [h1,h2,Nat.and_two_pow_sub_one_eq_mod]
 show IntKind.i64.wrap (((BitVec.ofInt 64 (x:Int) &&& BitVec.ofInt 64 127).toNat:Nat):Int)=_
 rw [e,fG (by omega) (by omega)]
theorem aiI {m:Nat} (h:m < 128):orI .i64 (m:Int) 128=((m+128:Nat):Int):=by
 have e:(BitVec.ofInt 64 (m:Int) ||| BitVec.ofInt 64 128).toNat=m+128:=by
  rw [BitVec.toNat_or,BitVec.toNat_ofInt,BitVec.toNat_ofInt]
  have h1:((m:Int) % ((2 ^ 64:Nat):Int)).toNat=m:=by omega
  have h2:((128:Int) % ((2 ^ 64:Nat):Int)).toNat=2 ^ 7 * 1:=by decide
  rw [h1,h2,Nat.or_comm,← Nat.two_pow_add_eq_or_of_lt (by omega)]
  omega
 show IntKind.i64.wrap (((BitVec.ofInt 64 (m:Int) ||| BitVec.ofInt 64 128).toNat:Nat):Int)=_
 rw [e,fG (by omega) (by omega)]
theorem anF (x:Nat):Uf .i64 (x:Int) 7=((x / 128:Nat):Int):=by
 unfold Uf
 have:(2:Int) ^ (min (7:Int).toNat (IntKind.bits .i64))=128:=by decide
 rw [this,Int.fdiv_eq_ediv_of_nonneg _ (by omega)]
 omega
theorem ae8 {x:Nat} (h:x < 9223372036854775808):L6 (orI .i64 (Eo .i64 (x:Int) 127) 128)=UInt8.ofNat (x % 128+128):=by
 rw [ae7 h,aiI (by omega),acy (by omega)]
def Uj (x:Int):Bool:=decide (0≤x∧x≤4611686018427387903)
def encI (l:List Int):List UInt8:=l.flatMap λx=>nu x.toNat
def R3 (b:List UInt8) (l:List Int):List UInt8:=if l.all Uj then b++encI l else []
theorem adg (l:List Int) (x:Int):encI (l++[x])=encI l++nu x.toNat:=by simp [encI]
theorem adh (b:List UInt8) {n:Nat} (h:n≤4611686018427387903):R3 b [(n:Int)]=b++nu n:=by
 unfold R3
 rw [if_pos (by simp [Uj];omega)]
 simp [encI]
theorem acz:∀ (l:List Int),(∀ x∈l,Uj x=true)→(encI l).length≤9 * l.length
 | [],_=>by simp [encI]
 | x::l,h=>by
  have h1:=acz l λy hy=>h y (by simp [hy])
  have h2:=h x (by simp)
  simp only [Uj,decide_eq_true_eq] at h2
  have h3:=H_ (x:=x.toNat) (by omega)
  simp only [encI,List.flatMap_cons,List.length_append,List.length_cons] at h1 ⊢
  omega
theorem ae9 {p:Int→Bool} (l:List Int) {i:Nat} (h:i < l.length) (h1:p l[i]=false):l.all p=false:=by
 rw [List.all_eq_false]
 exact ⟨l[i],List.getElem_mem _,by simp [h1]⟩
theorem adi (x:Nat) (h:¬ x < 128) (s:List UInt8):s++nu x=(s++[UInt8.ofNat (x % 128+128)])++nu (x / 128):=by
 rw [Er h]
 simp
end Go.Proofs.YtohoggieaanllaaGreat
