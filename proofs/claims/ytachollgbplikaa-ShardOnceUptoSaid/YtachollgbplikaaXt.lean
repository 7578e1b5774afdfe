import Derived.Test.YtachollgbplikaaJ5
import Derived.Test.YtachollgbplikaaJ6
import Derived.Test.YtachollgbplikaaX1
set_option linter.all false
set_option maxRecDepth 100000
namespace Go.Proofs.Ytachollgbplikaa
def lookN {α:Type}:List (Nat × α)→Nat→Option α
  | [],_=>none
  | p :: r,n=>match Nat.beq p.1 n with
    | true=>some p.2
    | false=>lookN r n
theorem lookN_mem {α:Type}:∀ {l:List (Nat × α)} {n:Nat} {x:α},lookN l n=some x→(n,x) ∈ l
  | [],n,x,h=>by cases h
  | p :: r,n,x,h=>by
    simp only [lookN] at h
    split at h
    · rename_i e
      obtain rfl:=Option.some.inj h
      rw [← Nat.eq_of_beq_eq_true e]
      exact List.mem_cons_self
    · exact List.mem_cons_of_mem _ (lookN_mem h)
def atabL:List (Nat × AFunc):=[(18,WF18),(28,WF28),(51,WF51),(52,WF52),(53,WF53),(54,WF54),(56,WF56),(57,WF57),(58,WF58),(59,WF59),(60,WF60),(61,WF61),(62,WF62),(63,WF63),(65,WF65),(66,WF66),(67,WF67),(68,WF68),(69,WF69),(70,WF70),(71,WF71),(72,WF72),(76,WF76),(77,WF77),(79,WF79),(96,WF96),(97,WF97),(98,WF98),(99,WF99),(100,WF100),(101,WF101),(102,WF102),(103,WF103),(104,WF104),(105,WF105),(106,WF106),(107,WF107),(108,WF108),(109,WF109),(113,WF113),(114,WF114),(115,WF115),(116,WF116),(126,WF126),(127,WF127),(128,WF128),(129,WF129),(130,WF130),(131,WF131),(136,WF136),(138,WF138),(141,WF141),(142,WF142)]
def atabT:FuncId→Option AFunc:=lookN atabL
theorem ov_137:ExtOk Try.prog 137 ovG:=ov_ext (fn:=Try.f137) (tS:=64) (tR:=4) (e:=80) (size:=2) Try.func137 rfl rfl (by kernel_rfl) (by kernel_rfl) Try.underlying64 (by kernel_rfl)
def wGL:List (Nat × (List AV→Heap→Option (AV × Heap))):=[(130,insG 2 32)]
def wG:Sums:=lookN wGL
theorem wG_all:∀ p ∈ wGL,(Bodied Try.prog p.1∧Sound Try.prog p.1 p.2)∨ExtOk Try.prog p.1 p.2 :=
  List.forall_mem_cons.2 ⟨.inl (insG_sound (hs:=[]) (zero:=[(.str []),(.str [])]) rfl (by decide) (show cFunc Try.prog 130 []=some (insF 2 32 [(.str []),(.str [])] 137 138) by kernel_rfl) (by decide) ov_137),(fun _ h=>by cases h)⟩
theorem wG_ok:∀ f g,wG f=some g→(Bodied Try.prog f∧Sound Try.prog f g)∨ExtOk Try.prog f g:=fun f g h=>wG_all (f,g) (lookN_mem h)
def atab:Tab:=(wG,atabT)
theorem atab_all:∀ p ∈ atabL,∃ h,cFunc Try.prog p.1 h=some p.2 :=
  List.forall_mem_cons.2 ⟨⟨_,WF18_is⟩,List.forall_mem_cons.2 ⟨⟨_,WF28_is⟩,List.forall_mem_cons.2 ⟨⟨_,WF51_is⟩,List.forall_mem_cons.2 ⟨⟨_,WF52_is⟩,List.forall_mem_cons.2 ⟨⟨_,WF53_is⟩,List.forall_mem_cons.2 ⟨⟨_,WF54_is⟩,List.forall_mem_cons.2 ⟨⟨_,WF56_is⟩,List.forall_mem_cons.2 ⟨⟨_,WF57_is⟩,List.forall_mem_cons.2 ⟨⟨_,WF58_is⟩,List.forall_mem_cons.2 ⟨⟨_,WF59_is⟩,List.forall_mem_cons.2 ⟨⟨_,WF60_is⟩,List.forall_mem_cons.2 ⟨⟨_,WF61_is⟩,List.forall_mem_cons.2 ⟨⟨_,WF62_is⟩,List.forall_mem_cons.2 ⟨⟨_,WF63_is⟩,List.forall_mem_cons.2 ⟨⟨_,WF65_is⟩,List.forall_mem_cons.2 ⟨⟨_,WF66_is⟩,List.forall_mem_cons.2 ⟨⟨_,WF67_is⟩,List.forall_mem_cons.2 ⟨⟨_,WF68_is⟩,List.forall_mem_cons.2 ⟨⟨_,WF69_is⟩,List.forall_mem_cons.2 ⟨⟨_,WF70_is⟩,List.forall_mem_cons.2 ⟨⟨_,WF71_is⟩,List.forall_mem_cons.2 ⟨⟨_,WF72_is⟩,List.forall_mem_cons.2 ⟨⟨_,WF76_is⟩,List.forall_mem_cons.2 ⟨⟨_,WF77_is⟩,List.forall_mem_cons.2 ⟨⟨_,WF79_is⟩,List.forall_mem_cons.2 ⟨⟨_,WF96_is⟩,List.forall_mem_cons.2 ⟨⟨_,WF97_is⟩,List.forall_mem_cons.2 ⟨⟨_,WF98_is⟩,List.forall_mem_cons.2 ⟨⟨_,WF99_is⟩,List.forall_mem_cons.2 ⟨⟨_,WF100_is⟩,List.forall_mem_cons.2 ⟨⟨_,WF101_is⟩,List.forall_mem_cons.2 ⟨⟨_,WF102_is⟩,List.forall_mem_cons.2 ⟨⟨_,WF103_is⟩,List.forall_mem_cons.2 ⟨⟨_,WF104_is⟩,List.forall_mem_cons.2 ⟨⟨_,WF105_is⟩,List.forall_mem_cons.2 ⟨⟨_,WF106_is⟩,List.forall_mem_cons.2 ⟨⟨_,WF107_is⟩,List.forall_mem_cons.2 ⟨⟨_,WF108_is⟩,List.forall_mem_cons.2 ⟨⟨_,WF109_is⟩,List.forall_mem_cons.2 ⟨⟨_,WF113_is⟩,List.forall_mem_cons.2 ⟨⟨_,WF114_is⟩,List.forall_mem_cons.2 ⟨⟨_,WF115_is⟩,List.forall_mem_cons.2 ⟨⟨_,WF116_is⟩,List.forall_mem_cons.2 ⟨⟨_,WF126_is⟩,List.forall_mem_cons.2 ⟨⟨_,WF127_is⟩,List.forall_mem_cons.2 ⟨⟨_,WF128_is⟩,List.forall_mem_cons.2 ⟨⟨_,WF129_is⟩,List.forall_mem_cons.2 ⟨⟨_,WF130_is⟩,List.forall_mem_cons.2 ⟨⟨_,WF131_is⟩,List.forall_mem_cons.2 ⟨⟨_,WF136_is⟩,List.forall_mem_cons.2 ⟨⟨_,WF138_is⟩,List.forall_mem_cons.2 ⟨⟨_,WF141_is⟩,List.forall_mem_cons.2 ⟨⟨_,WF142_is⟩,(fun _ h=>by cases h)⟩⟩⟩⟩⟩⟩⟩⟩⟩⟩⟩⟩⟩⟩⟩⟩⟩⟩⟩⟩⟩⟩⟩⟩⟩⟩⟩⟩⟩⟩⟩⟩⟩⟩⟩⟩⟩⟩⟩⟩⟩⟩⟩⟩⟩⟩⟩⟩⟩⟩⟩⟩⟩
theorem atab_is {f:FuncId} {x:AFunc} (h:atabT f=some x):∃ hs,cFunc Try.prog f hs=some x:=atab_all (f,x) (lookN_mem h)
theorem atab_18:atab.2 18=some WF18:=by kernel_rfl
theorem atab_28:atab.2 28=some WF28:=by kernel_rfl
theorem atab_51:atab.2 51=some WF51:=by kernel_rfl
theorem atab_52:atab.2 52=some WF52:=by kernel_rfl
theorem atab_53:atab.2 53=some WF53:=by kernel_rfl
theorem atab_54:atab.2 54=some WF54:=by kernel_rfl
theorem atab_56:atab.2 56=some WF56:=by kernel_rfl
theorem atab_57:atab.2 57=some WF57:=by kernel_rfl
theorem atab_58:atab.2 58=some WF58:=by kernel_rfl
theorem atab_59:atab.2 59=some WF59:=by kernel_rfl
theorem atab_60:atab.2 60=some WF60:=by kernel_rfl
theorem atab_61:atab.2 61=some WF61:=by kernel_rfl
theorem atab_62:atab.2 62=some WF62:=by kernel_rfl
theorem atab_63:atab.2 63=some WF63:=by kernel_rfl
theorem atab_65:atab.2 65=some WF65:=by kernel_rfl
theorem atab_66:atab.2 66=some WF66:=by kernel_rfl
theorem atab_67:atab.2 67=some WF67:=by kernel_rfl
theorem atab_68:atab.2 68=some WF68:=by kernel_rfl
theorem atab_69:atab.2 69=some WF69:=by kernel_rfl
theorem atab_70:atab.2 70=some WF70:=by kernel_rfl
theorem atab_71:atab.2 71=some WF71:=by kernel_rfl
theorem atab_72:atab.2 72=some WF72:=by kernel_rfl
theorem atab_76:atab.2 76=some WF76:=by kernel_rfl
theorem atab_77:atab.2 77=some WF77:=by kernel_rfl
theorem atab_79:atab.2 79=some WF79:=by kernel_rfl
theorem atab_96:atab.2 96=some WF96:=by kernel_rfl
theorem atab_97:atab.2 97=some WF97:=by kernel_rfl
theorem atab_98:atab.2 98=some WF98:=by kernel_rfl
theorem atab_99:atab.2 99=some WF99:=by kernel_rfl
theorem atab_100:atab.2 100=some WF100:=by kernel_rfl
theorem atab_101:atab.2 101=some WF101:=by kernel_rfl
theorem atab_102:atab.2 102=some WF102:=by kernel_rfl
theorem atab_103:atab.2 103=some WF103:=by kernel_rfl
theorem atab_104:atab.2 104=some WF104:=by kernel_rfl
theorem atab_105:atab.2 105=some WF105:=by kernel_rfl
theorem atab_106:atab.2 106=some WF106:=by kernel_rfl
theorem atab_107:atab.2 107=some WF107:=by kernel_rfl
theorem atab_108:atab.2 108=some WF108:=by kernel_rfl
theorem atab_109:atab.2 109=some WF109:=by kernel_rfl
theorem atab_113:atab.2 113=some WF113:=by kernel_rfl
theorem atab_114:atab.2 114=some WF114:=by kernel_rfl
theorem atab_115:atab.2 115=some WF115:=by kernel_rfl
theorem atab_116:atab.2 116=some WF116:=by kernel_rfl
theorem atab_126:atab.2 126=some WF126:=by kernel_rfl
theorem atab_127:atab.2 127=some WF127:=by kernel_rfl
theorem atab_128:atab.2 128=some WF128:=by kernel_rfl
theorem atab_129:atab.2 129=some WF129:=by kernel_rfl
theorem atab_130:atab.2 130=some WF130:=by kernel_rfl
theorem atab_131:atab.2 131=some WF131:=by kernel_rfl
theorem atab_136:atab.2 136=some WF136:=by kernel_rfl
theorem atab_138:atab.2 138=some WF138:=by kernel_rfl
theorem atab_141:atab.2 141=some WF141:=by kernel_rfl
theorem atab_142:atab.2 142=some WF142:=by kernel_rfl
def wBL:List (Nat × Bt):=[(99,.del 2),(100,.clone 2 32),(101,.clip 2),(130,.ins 2 32),(131,.clip 4)]
def wB:FuncId→Option Bt:=lookN wBL
theorem wB_all (d:Nat):∀ p ∈ wBL,BOk (wcalls atab (d+1)) p.1 p.2 :=
  List.forall_mem_cons.2 ⟨del_bok (bytes:=32) (zero:=[(.str []),(.str [])]) rfl rfl (show atab.2 99=some (delF 2 32 [(.str []),(.str [])]) by kernel_rfl),List.forall_mem_cons.2 ⟨clone_bok (zero:=[(.str []),(.str [])]) rfl (show atab.2 100=some (cloneF 2 32 [(.str []),(.str [])]) by kernel_rfl),List.forall_mem_cons.2 ⟨clip_bok rfl (show atab.2 101=some (clipF 2) by kernel_rfl),List.forall_mem_cons.2 ⟨ins_bok rfl,List.forall_mem_cons.2 ⟨clip_bok rfl (show atab.2 131=some (clipF 4) by kernel_rfl),(fun _ h=>by cases h)⟩⟩⟩⟩⟩
theorem wB_ok (d:Nat):∀ f b,wB f=some b→BOk (wcalls atab (d+1)) f b:=fun f b h=>wB_all d (f,b) (lookN_mem h)
end Go.Proofs.Ytachollgbplikaa
