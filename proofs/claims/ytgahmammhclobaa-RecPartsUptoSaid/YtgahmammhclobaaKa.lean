import Derived.Test.YtgahmammhclobaaK8
import Derived.Test.YtgahmammhclobaaG4
import Derived.Test.YtgahmammhclobaaXrRecParts
set_option linter.all false
set_option linter.unusedSimpArgs false
set_option maxRecDepth 100000
namespace Go.Proofs.Ytgahmammhclobaa
theorem known11:osmosislaw11_known=some true:=by decide +kernel
theorem pow_all:∀ c:Fin 63,∀ d:Fin 3,IntKind.i64.wrap (IntKind.i64.wrap (1 * 2 ^ (min (IntKind.u64.wrap (c.val:Int)).toNat IntKind.i64.bits)) - (d.val:Int))≠1073741825:=by decide +kernel
theorem wrap_sub1 {v:Int} (h:-9223372036854775808≤v∧v < 9223372036854775808) (hv:v≠1073741825):IntKind.i64.wrap (v - 1)≠1073741824:=by
  intro e
  simp only [IntKind.wrap,IntKind.signed,IntKind.bits] at e
  simp at e
  omega
theorem num_not (n:Int) (hn:-9223372036854775808≤n∧n < 9223372036854775808):∃ v,oH_Num n=some v∧IntKind.i64.wrap (v - 1)≠1073741824:=by
  obtain ⟨a,ha,ha2⟩:=pick_nat n 7 (by omega) (by omega)
  obtain ⟨b,hb,hb2⟩:=pick_nat (IntKind.i64.wrap (Int.tdiv n 7)) 40 (by omega) (by omega)
  obtain ⟨c,hc,hc2⟩:=pick_nat (IntKind.i64.wrap (Int.tdiv n 7)) 63 (by omega) (by omega)
  obtain ⟨d,hd,hd2⟩:=pick_nat (IntKind.i64.wrap (Int.tdiv n 441)) 3 (by omega) (by omega)
  obtain ⟨e,he,he2⟩:=pick_nat (IntKind.i64.wrap (Int.tdiv n 7)) 3 (by omega) (by omega)
  obtain ⟨f,hf,hf2⟩:=pick_nat (IntKind.i64.wrap (Int.tdiv n 7)) 1000 (by omega) (by omega)
  have ha':n=1073741825→a=2:=fun h=>by
    subst h
    have h7:oH_Pick 1073741825 7=some 2:=by decide +kernel
    have ha:oH_Pick 1073741825 7=some (a:Int):=ha
    rw [h7] at ha
    have:=Option.some.inj ha
    omega
  have ha:oH_Pick n 7=some (a:Int):=ha
  have hb:oH_Pick (IntKind.i64.wrap (Int.tdiv n 7)) 40=some (b:Int):=hb
  have hc:oH_Pick (IntKind.i64.wrap (Int.tdiv n 7)) 63=some (c:Int):=hc
  have hd:oH_Pick (IntKind.i64.wrap (Int.tdiv n 441)) 3=some (d:Int):=hd
  have he:oH_Pick (IntKind.i64.wrap (Int.tdiv n 7)) 3=some (e:Int):=he
  have hf:oH_Pick (IntKind.i64.wrap (Int.tdiv n 7)) 1000=some (f:Int):=hf
  have hs:shlI .i64 1 (IntKind.u64.wrap (c:Int))=some (IntKind.i64.wrap (1 * 2 ^ (min (IntKind.u64.wrap (c:Int)).toNat IntKind.i64.bits))):=by
    unfold shlI
    rw [if_neg (by have:=wrapU_range (c:Int); omega)]
  unfold oH_Num oH_Num_J0
  simp only [ha,hb,hc,hd,he,hf,hs,Option.bind_some]
  simp only [lbeq_eq (α:=Int)]
  by_cases q0:(a:Int)=0
  · rw [dec_t q0]
    exact ⟨_,rfl,wrap_sub1 (by omega) (by omega)⟩
  rw [dec_f q0]
  by_cases q1:(a:Int)=1
  · rw [dec_t q1]
    exact ⟨_,rfl,wrap_sub1 (by omega) (by omega)⟩
  rw [dec_f q1]
  by_cases q2:(a:Int)=2
  · rw [dec_t q2]
    exact ⟨_,rfl,wrap_sub1 (by omega) (by omega)⟩
  rw [dec_f q2]
  simp only [cond_false,Option.bind_some]
  by_cases q3:(a:Int)=3
  · rw [dec_t q3]
    exact ⟨_,rfl,wrap_sub1 (wrap_range _) (pow_all ⟨c,hc2⟩ ⟨d,hd2⟩)⟩
  rw [dec_f q3]
  simp only [cond_false]
  by_cases q4:(a:Int)=4
  · rw [dec_t q4]
    refine ⟨_,rfl,wrap_sub1 (wrap_range _) ?_⟩
    rw [wrap_id (by omega) (by omega)]
    omega
  rw [dec_f q4]
  simp only [cond_false]
  by_cases q5:(a:Int)=5
  · rw [dec_t q5]
    exact ⟨_,rfl,wrap_sub1 (by omega) (by omega)⟩
  rw [dec_f q5]
  exact ⟨_,rfl,wrap_sub1 hn (fun h=>by have:=ha' h; omega)⟩
theorem image_not (k epoch:Int) (l:List oH_RawOp) (bend:Int):∃ x,oH_Image k epoch l bend=some x∧x.Epoch≠1073741824:=by
  obtain ⟨x1,h1⟩:=pick_any k 6 (by omega) (by omega)
  obtain ⟨x2,h2,h2'⟩:=pick_nat epoch 6 (by omega) (by omega)
  have k6:((6:Nat):Int)=6:=rfl
  rw [k6] at h1 h2
  have hz:OkI ⟨⟨[]⟩,zeroS,x1,1+(x2:Int)⟩:=⟨⟨ok0,⟨.inl rfl,.inl rfl,.inl rfl,.inl rfl⟩⟩,(fun p hp=>by simp at hp),fun y hy=>by simp [allOf,zeroS,A4.toL,noneS] at hy⟩
  have f6:=from0 x1 (1+(x2:Int))
  unfold oH_Image
  rw [h1,Option.bind_some,h2,Option.bind_some,wrap_id (by omega) (by omega),f6,Option.bind_some]
  have loop:∃ e,oH_Image_L1 l bend (0,refOf ⟨⟨[]⟩,zeroS,x1,1+(x2:Int)⟩)=some e∧∃ s,OkI s∧s.Epoch=1+(x2:Int)∧e=refOf s:=by
    refine loopX_inv (fun (s:Int × oR_Shard)=>12 - s.1.toNat) (fun s=>∃ (i:Nat) (t:shard_Shard),s=((i:Int),refOf t)∧i≤12∧OkI t∧t.Epoch=1+(x2:Int)) _ ?_ KK _ ⟨0,_,rfl,by omega,hz,rfl⟩ (by have:=KK_big; simp only; omega)
    rintro s ⟨i,t,rfl,g1,g2,g3⟩
    simp only [oH_Image_L1_s,oH_Image_J0]
    by_cases c:i < l.length
    case neg =>
      right
      rw [dec_f (by omega),cond_false]
      exact ⟨_,rfl,t,g2,g3,rfl⟩
    by_cases c2:i < 12
    case neg =>
      right
      rw [dec_t (by omega),cond_true,dec_f (by omega),cond_false]
      exact ⟨_,rfl,t,g2,g3,rfl⟩
    left
    rw [dec_t (by omega),cond_true,dec_t (by omega),cond_true,Option.bind_some]
    simp only [isL,cond_true]
    obtain ⟨y,hy⟩:=pick_any l[i].Kind 3 (by omega) (by omega)
    have hy:oH_Pick l[i].Kind 3=some y:=hy
    rw [getI_at c,Option.bind_some,hy,Option.bind_some]
    obtain ⟨r,hr⟩:=req_some ⟨(IntKind.i64.wrap (1+y)),l[i].Key,l[i].Value,l[i].Old,l[i].Client,l[i].Seq,0,l[i].Text⟩
    rw [hr,Option.bind_some]
    obtain ⟨a,b,t',t2,t1,_,t4⟩:=ask_ref r t g2
    rw [t2,Option.bind_some,wrap_id (by omega) (by omega),succ_cast]
    exact ⟨_,rfl,⟨i+1,t',rfl,by omega,t1,by rw [t4,g3]⟩,by simp only; omega⟩
  obtain ⟨e,e1,s,hs,hE,rfl⟩:=loop
  have hT:(refOf s).T.L.length≤8:=hs.1.1.2
  have hS:(refOf s).S_.L.length≤4:=all_len s.Sessions
  rw [e1,Option.bind_some,rimage2_plain _ (by omega) (by omega),Option.bind_some]
  clear e1
  have hE:(refOf s).Epoch=1+(x2:Int):=hE
  generalize (refOf s).Epoch=E at *
  generalize (refOf s).T.L=L at *
  generalize (refOf s).S_.L=S at *
  obtain ⟨x3,h3⟩:=pick_any bend 14 (by omega) (by omega)
  obtain ⟨x4,h4,h4'⟩:=num_not (IntKind.i64.wrap (Int.tdiv bend 14)) (wrap_range _)
  obtain ⟨x5,h5⟩:=key_some (IntKind.i64.wrap (Int.tdiv bend 14))
  obtain ⟨x6,h6⟩:=pick_any (IntKind.i64.wrap (Int.tdiv bend 14)) 14 (by omega) (by omega)
  have k14:((14:Nat):Int)=14:=rfl
  rw [k14] at h3 h6
  rw [h3,Option.bind_some,h4,h5,h6]
  simp only [Option.bind_some]
  cases (x3 == 8)
  case true=>exact ⟨_,rfl,by simp only; omega⟩
  cases (x3 == 9)
  case true=>exact ⟨_,rfl,h4'⟩
  simp only [cond_false]
  cases (x3 == 10)
  case true =>
    rw [cond_true,gd32 (by rw [List.length_append]; simp only [List.length_singleton]; omega)]
    exact ⟨_,rfl,by simp only; omega⟩
  simp only [cond_false]
  cases (x3 == 11)
  case true =>
    rw [cond_true]
    by_cases c:S.length > 0
    · rw [dec_t (by omega),cond_true,show (0:Int)=((0:Nat):Int) from rfl,getI_at c,Option.bind_some]
      exact ⟨_,rfl,by simp only; omega⟩
    · rw [dec_f (by omega)]
      exact ⟨_,rfl,by simp only; omega⟩
  simp only [cond_false]
  cases (x3 == 12)
  case true =>
    rw [cond_true]
    by_cases c:L.length > 1
    · rw [dec_t (by omega),cond_true,show (0:Int)=((0:Nat):Int) from rfl,show (1:Int)=((1:Nat):Int) from rfl,getI_at (show 0 < L.length by omega),Option.bind_some,getI_at c,Option.bind_some,Option.bind_some,getI_at (by rw [List.length_set]; omega),Option.bind_some]
      exact ⟨_,rfl,by simp only; omega⟩
    · rw [dec_f (by omega)]
      exact ⟨_,rfl,by simp only; omega⟩
  simp only [cond_false]
  cases (x3 == 13)
  · exact ⟨_,rfl,by simp only; omega⟩
  · exact ⟨_,rfl,by simp⟩
def other:List UInt8:=[111,116,104,101,114]
theorem keys_not:∀ k:Fin 16,oH_Key (k.val:Int)≠some other:=by decide +kernel
theorem key_not (n:Int):∃ v,oH_Key n=some v∧v≠other:=by
  obtain ⟨k,hk,hk2⟩:=pick_nat n 16 (by omega) (by omega)
  have hk:oH_Pick n 16=some (k:Int):=hk
  have e1:oH_Key n=oH_Key (k:Int):=by
    unfold oH_Key
    rw [hk,pk16 ⟨k,hk2⟩]
  obtain ⟨v,hv⟩:=key_some n
  refine ⟨v,hv,fun e=>?_⟩
  subst e
  rw [e1] at hv
  exact keys_not ⟨k,hk2⟩ hv
theorem op_not (a b c d:Int):∃ o,oH_Op a b c d=some o∧o.Key≠other:=by
  obtain ⟨x1,h1⟩:=pick_any a 4 (by omega) (by omega)
  obtain ⟨x2,h2,h2'⟩:=key_not b
  obtain ⟨x4,h4⟩:=value_some c
  obtain ⟨x6,h6⟩:=value_some d
  have k4:((4:Nat):Int)=4:=rfl
  rw [k4] at h1
  unfold oH_Op
  rw [h1,Option.bind_some,h2,Option.bind_some]
  unfold oH_Op_J1 oH_Op_J0
  rw [h4,h6]
  simp only [Option.bind_some]
  cases (IntKind.i64.wrap (1+x1) == 2) <;> cases q:(IntKind.i64.wrap (1+x1) == 4) <;> simp [q,h2']
theorem req_not (x:oH_RawOp):∃ r,oH_Req x=some r∧(r.Seq≤9∨r.Op.Key≠other):=by
  obtain ⟨x1,h1⟩:=pick_any x.Client 4 (by omega) (by omega)
  obtain ⟨x2,h2,h2'⟩:=pick_nat x.Seq 9 (by omega) (by omega)
  obtain ⟨x3,h3,h3'⟩:=op_not x.Kind x.Key x.Value x.Old
  obtain ⟨x4,h4⟩:=pick_any x.Bend 16 (by omega) (by omega)
  obtain ⟨x5,h5⟩:=text_some x.Text 12
  obtain ⟨x6,h6⟩:=text_some x.Text 20
  obtain ⟨x7,h7⟩:=pick_any (IntKind.i64.wrap (Int.tdiv x.Bend 16)) 8 (by omega) (by omega)
  obtain ⟨x8,h8⟩:=pick_any (IntKind.i64.wrap (Int.tdiv x.Bend 16)) 9 (by omega) (by omega)
  obtain ⟨x9,h9⟩:=num_some (IntKind.i64.wrap (Int.tdiv x.Bend 16))
  have k4:((4:Nat):Int)=4:=rfl
  have k8:((8:Nat):Int)=8:=rfl
  have k9:((9:Nat):Int)=9:=rfl
  have k12:((12:Nat):Int)=12:=rfl
  have k16:((16:Nat):Int)=16:=rfl
  have k20:((20:Nat):Int)=20:=rfl
  rw [k4] at h1; rw [k9] at h2 h8; rw [k16] at h4; rw [k12] at h5; rw [k20] at h6; rw [k8] at h7
  have hs:IntKind.i64.wrap (1+(x2:Int))≤9:=by rw [wrap_id (by omega) (by omega)]; omega
  unfold oH_Req
  rw [h1,Option.bind_some,h2,Option.bind_some,h3,Option.bind_some,h4,Option.bind_some,h5,h6,h7,h8,h9]
  cases (x4 == 10) <;> cases (x4 == 11) <;> cases (x4 == 12) <;> cases (x4 == 13) <;> cases (x4 == 14) <;> cases (x4 == 15) <;> first | exact ⟨_,rfl,.inl hs⟩ | exact ⟨_,rfl,.inr h3'⟩ | exact ⟨_,rfl,.inl (by simp)⟩
abbrev Tup:=Int × Int × Int × Int × Int × Int × Int × Int × List UInt8 × List UInt8 × List UInt8 × Int × Int × List api_Pair × List api_Sess
def tupR (r:api_Rec):Tup:=(r.Kind,r.Shard,r.Epoch,r.Host,r.N,r.Req.Client,r.Req.Seq,r.Req.Op.Kind,r.Req.Op.Key,r.Req.Op.Value,r.Req.Op.Old,r.Image.Shard,r.Image.Epoch,r.Image.Pairs,r.Image.Sess)
def tupI (x:api_Image):Int × Int × List api_Pair × List api_Sess:=(x.Shard,x.Epoch,x.Pairs,x.Sess)
theorem map_cond {α β:Type} (f:α→β) (b:Bool) (x y:Option α):(cond b x y).map f=cond b (x.map f) (y.map f):=by cases b <;> rfl
theorem map_gd {α β:Type} (f:α→β) (b:Bool) (x:Option α):(gd b x).map f=gd b (x.map f):=by cases b <;> rfl
theorem bind_map' {α β γ:Type} (x:Option α) (f:α→Option β) (g:β→γ):(x.bind f).map g=x.bind fun y=>(f y).map g:=by cases x <;> rfl
theorem image2_map (k e:Int) (l:List oH_RawOp) (b:Int):oH_Image_2 k e l b=(oH_Image k e l b).map tupI:=by
  have hL:oH_Image_2_L1=oH_Image_L1:=rfl
  unfold oH_Image oH_Image_2
  rw [hL]
  simp only [bind_map',map_cond,map_gd,Option.map_some]
  rfl
theorem rec2_map (a:oH_RawRec) (h:Int):oH_Rec_2 a h=(oH_Rec a h).map tupR:=by
  have hJ:oH_Rec_2_J1=oH_Rec_J1:=rfl
  have hb:∀ (x:Option api_Image) (f:Int × Int × List api_Pair × List api_Sess→Option Tup),(x.map tupI).bind f=x.bind fun y=>f (tupI y):=fun x f=>by cases x <;> rfl
  unfold oH_Rec oH_Rec_2
  rw [hJ]
  simp only [bind_map',map_cond,map_gd,Option.map_some,image2_map,hb]
  rfl
theorem rec_not (a:oH_RawRec):∃ x,oH_Rec a 5=some x∧small x.Image∧x.Image.Epoch≠1073741824∧(x.Req.Seq≤9∨x.Req.Op.Key≠other):=by
  obtain ⟨x1,h1⟩:=pick_any a.Kind 6 (by omega) (by omega)
  obtain ⟨x2,h2⟩:=pick_any a.Shard 6 (by omega) (by omega)
  obtain ⟨x3,h3⟩:=pick_any a.Bend 14 (by omega) (by omega)
  obtain ⟨x4,h4⟩:=pick_any a.Kind 10 (by omega) (by omega)
  obtain ⟨x5,h5⟩:=num_some a.N
  obtain ⟨x6,h6⟩:=num_some a.Shard
  obtain ⟨x7,h7,h7'⟩:=req_not a.Op
  obtain ⟨x8,h8,i1,i2⟩:=image_some x2 a.Epoch a.Ops (IntKind.i64.wrap (Int.tdiv a.Bend 14))
  obtain ⟨x8',h8',i3⟩:=image_not x2 a.Epoch a.Ops (IntKind.i64.wrap (Int.tdiv a.Bend 14))
  rw [h8] at h8'
  obtain rfl:=Option.some.inj h8'
  have h1:oH_Pick a.Kind 6=some x1:=h1
  have h2:oH_Pick a.Shard 6=some x2:=h2
  have h3:oH_Pick a.Bend 14=some x3:=h3
  have h4:oH_Pick a.Kind 10=some x4:=h4
  obtain ⟨t,ht,t1,t2,t3,t4⟩:∃ t,oH_Rec_J1 x1 a x2 5=some t∧t.2.2.2.2.2.2.2.2.2.2.2.2.1.length < 1000000∧t.2.2.2.2.2.2.2.2.2.2.2.2.2.length < 1000000∧t.2.2.2.2.2.2.2.2.2.2.2.1≠1073741824∧(t.2.2.2.2.2.1≤9∨t.2.2.2.2.2.2.2.1≠other):=by
    obtain ⟨y1,h1⟩:=pick_any a.N 9 (by omega) (by omega)
    obtain ⟨y2,h2⟩:=pick_any a.N 2 (by omega) (by omega)
    obtain ⟨y3,h3⟩:=pick_any a.Epoch 6 (by omega) (by omega)
    obtain ⟨y4,h4⟩:=pick_any a.Host 5 (by omega) (by omega)
    obtain ⟨q,hq,hq'⟩:=req_not ⟨a.Op.Kind,a.Op.Key,a.Op.Value,a.Op.Old,a.Op.Client,a.Op.Seq,0,a.Op.Text⟩
    obtain ⟨i,hi,i1,i2⟩:=image_some x2 a.Epoch a.Ops 0
    obtain ⟨i',hi',i3⟩:=image_not x2 a.Epoch a.Ops 0
    rw [hi] at hi'
    obtain rfl:=Option.some.inj hi'
    have hi2:oH_Image_2 x2 a.Epoch a.Ops 0=some (tupI i):=by rw [image2_map,hi]; rfl
    have h1:oH_Pick a.N 9=some y1:=h1
    have h2:oH_Pick a.N 2=some y2:=h2
    have h3:oH_Pick a.Epoch 6=some y3:=h3
    have h4:oH_Pick a.Host 5=some y4:=h4
    unfold oH_Rec_J1 oH_Rec_J0
    simp only [h1,h2,h3,h4,hq,hi2,Option.bind_some]
    cases (IntKind.i64.wrap (1+x1) == 1)
    case true=>exact ⟨_,rfl,by simp,by simp,by simp,.inl (by simp)⟩
    cases (IntKind.i64.wrap (1+x1) == 2)
    case true=>exact ⟨_,rfl,by simp,by simp,by simp,.inl (by simp)⟩
    cases (IntKind.i64.wrap (1+x1) == 3)
    case true=>exact ⟨_,rfl,by simp,by simp,by simp,hq'⟩
    cases (IntKind.i64.wrap (1+x1) == 4)
    case true=>exact ⟨_,rfl,by simp,by simp,by simp,.inl (by simp)⟩
    cases (IntKind.i64.wrap (1+x1) == 6)
    case true=>exact ⟨_,rfl,by simp,by simp,by simp,.inl (by simp)⟩
    cases (IntKind.i64.wrap (1+x1) == 5)
    case true=>exact ⟨_,rfl,show i.Pairs.length < 1000000 by omega,show i.Sess.length < 1000000 by omega,i3,.inl (by simp)⟩
    exact ⟨_,rfl,by simp,by simp,by simp,.inl (by simp)⟩
  unfold oH_Rec
  simp only [h1,h2,h3,h4,h5,h6,h7,h8,ht,Option.bind_some]
  have s8:small x8:=⟨by omega,by omega⟩
  cases (x3 == 9)
  case true=>exact ⟨_,rfl,⟨t1,t2⟩,t3,t4⟩
  cases (x3 == 10)
  case true=>exact ⟨_,rfl,⟨t1,t2⟩,t3,t4⟩
  cases (x3 == 11)
  case true=>exact ⟨_,rfl,⟨t1,t2⟩,t3,t4⟩
  cases (x3 == 12)
  case true=>exact ⟨_,rfl,⟨t1,t2⟩,t3,h7'⟩
  cases (x3 == 13)
  case true=>exact ⟨_,rfl,s8,i3,t4⟩
  exact ⟨_,rfl,⟨t1,t2⟩,t3,t4⟩
def modR (k:Nat) (x:api_Rec):api_Rec:=match k with
  | 0=>{ x with Kind:=IntKind.i64.wrap (1+(Int.tmod x.Kind 6)) }
  | 1=>{ x with Shard:=IntKind.i64.wrap (x.Shard+1) }
  | 2=>{ x with Epoch:=IntKind.i64.wrap (x.Epoch+1) }
  | 3=>{ x with Host:=IntKind.i64.wrap (x.Host+1) }
  | 4=>{ x with N:=IntKind.i64.wrap (x.N+1) }
  | 5=>{ x with Req:=⟨3,77,⟨1,other,[],[]⟩⟩ }
  | _=>{ x with Image:=⟨5,1073741824,[],[]⟩ }
theorem mod_plain (w:Int) (x r:api_Rec):∃ k:Nat,k < 7∧osmosislaw11_RecParts_J0 w (tupR x) r=some (tupR (modR k x)):=by
  obtain ⟨k,hk,hk2⟩:=pick_nat w 7 (by omega) (by omega)
  have hk:oH_Pick w 7=some (k:Int):=hk
  refine ⟨k,hk2, ?_⟩
  unfold osmosislaw11_RecParts_J0
  rw [hk,Option.bind_some]
  have:k=0∨k=1∨k=2∨k=3∨k=4∨k=5∨k=6:=by omega
  rcases this with rfl | rfl | rfl | rfl | rfl | rfl | rfl <;> rfl
theorem mod_not (k:Nat) (x:api_Rec) (hr:rightC x=true) (h1:x.Image.Epoch≠1073741824) (h2:x.Req.Seq≤9∨x.Req.Op.Key≠other):x≠modR k x:=by
  have hc:=of_decide_eq_true hr
  have ok:=hc.2.2.1
  have o1:=ok x.Shard (by simp [headR])
  have o2:=ok x.Epoch (by simp [headR])
  have o3:=ok x.Host (by simp [headR])
  have o4:=ok x.N (by simp [headR])
  unfold okN at o1 o2 o3 o4
  intro e
  unfold modR at e
  split at e
  · have e:=congrArg (·.Kind) e
    simp only at e
    have k1:=hc.1
    have k2:=hc.2.1
    have:x.Kind=1∨x.Kind=2∨x.Kind=3∨x.Kind=4∨x.Kind=5∨x.Kind=6:=by omega
    rcases this with h | h | h | h | h | h <;> rw [h] at e <;> revert e <;> decide +kernel
  · have e:=congrArg (·.Shard) e
    simp only at e
    rw [wrap_id (by omega) (by omega)] at e
    omega
  · have e:=congrArg (·.Epoch) e
    simp only at e
    rw [wrap_id (by omega) (by omega)] at e
    omega
  · have e:=congrArg (·.Host) e
    simp only at e
    rw [wrap_id (by omega) (by omega)] at e
    omega
  · have e:=congrArg (·.N) e
    simp only at e
    rw [wrap_id (by omega) (by omega)] at e
    omega
  · have e:=congrArg (·.Req) e
    simp only at e
    rw [e] at h2
    simp at h2
  · have e:=congrArg (·.Image) e
    simp only at e
    rw [e] at h1
    exact h1 rfl
theorem mod_small (k:Nat) (x:api_Rec) (h:small x.Image):small (modR k x).Image:=by
  unfold modR
  split <;> first | exact h | exact ⟨by simp,by simp⟩
theorem osmosislaw11_RecParts_true (x0:oH_RawRec) (x1:Int) (o0:ok_oH_RawRec x0) (o1:okI x1) (hb:bk_oH_RawRec x0+bk1 x1≤1048576):osmosislaw11_RecParts x0 x1=some true:=by
  obtain ⟨x,hx,sx,g1,g2⟩:=rec_not x0
  have hx2:oH_Rec_2 x0 5=some (tupR x):=by rw [rec2_map,hx]; rfl
  obtain ⟨k,hk,hj⟩:=mod_plain x1 x x
  have sy:=mod_small k x sx
  unfold osmosislaw11_RecParts
  rw [hx,Option.bind_some,hx2,Option.bind_some,hj,Option.bind_some,right_rec x sx,Option.bind_some]
  cases rx:rightC x
  case false =>
    simp only [Bool.not_false,cond_true]
    rw [known11,Option.bind_some,cond_true,lay_rec x sx,rx]
    rfl
  have hne:=mod_not k x rx g1 g2
  simp only [Bool.not_true,cond_false]
  generalize hy:modR k x=y at *
  show (rec_Right y).bind (fun x8=>cond (!x8) (osmosislaw11_known.bind fun x9=>cond x9 ((rec_Lay y).bind fun x10=>cond ((x10.length:Int) == 0) ((rec_Same x y).bind fun x11=>some (!x11)) (some false)) (some false)) (osmosislaw11_known.bind fun x12=>cond x12 ((rec_Lay x).bind fun x13=>(rec_Lay y).bind fun x14=>cond (!(x13 == x14)) ((rec_Same x y).bind fun x15=>some (!x15)) (some false)) (some false)))=some true
  rw [right_rec y sy,Option.bind_some,known11,lay_rec x sx,lay_rec y sy,Same_plain x y sx,rx]
  simp only [Option.bind_some,cond_true,if_true]
  have hd:decide (x=y)=false:=dec_f hne
  rw [hd]
  cases ry:rightC y
  · rfl
  · simp only [Bool.not_true,cond_false,if_true]
    have:(eRec x == eRec y)=false:=by
      rw [beq_eq_false_iff_ne]
      exact fun e=>hne ((rec_lays rx).inj (rec_lays ry) (r:=[]) (s:=[]) (by simpa using e)).1
    rw [this]
    rfl
end Go.Proofs.Ytgahmammhclobaa
