import Derived.Test.YtgahmammhclobaaJ5
import Derived.Test.YtgahmammhclobaaJ6
import Derived.Test.YtgahmammhclobaaX1
set_option linter.all false
set_option maxRecDepth 100000
namespace Go.Proofs.Ytgahmammhclobaa
def lookN {α:Type}:List (Nat × α)→Nat→Option α
  | [],_=>none
  | p :: r,n=>match Nat.beq p.1 n with
    | true=>some p.2
    | false=>lookN r n
theorem lookN_mem {α:Type}:∀ {l:List (Nat × α)} {n:Nat} {x:α},lookN l n=some x→(n,x) ∈ l
  | [],n,x,h=>by cases h
  | p :: r,n,x,h=>by
    simp only [lookN] at h
    split at h
    · rename_i e
      obtain rfl:=Option.some.inj h
      rw [← Nat.eq_of_beq_eq_true e]
      exact List.mem_cons_self
    · exact List.mem_cons_of_mem _ (lookN_mem h)
noncomputable def atabL:List (Nat × AFunc):=[(8,WF8),(11,WF11),(12,WF12),(13,WF13),(14,WF14),(16,WF16),(18,WF18),(19,WF19),(20,WF20),(21,WF21),(22,WF22),(23,WF23),(24,WF24),(26,WF26),(27,WF27),(28,WF28),(29,WF29),(30,WF30),(31,WF31),(32,WF32),(33,WF33),(45,WF45),(46,WF46),(47,WF47),(48,WF48),(49,WF49),(50,WF50),(51,WF51),(52,WF52),(53,WF53),(54,WF54),(55,WF55),(56,WF56),(57,WF57),(58,WF58),(59,WF59),(60,WF60),(61,WF61),(62,WF62),(63,WF63),(64,WF64),(65,WF65),(66,WF66),(67,WF67),(68,WF68),(69,WF69),(70,WF70),(71,WF71),(72,WF72),(86,WF86),(87,WF87),(88,WF88),(89,WF89),(90,WF90),(91,WF91),(92,WF92),(93,WF93),(94,WF94),(95,WF95),(96,WF96),(97,WF97),(98,WF98),(99,WF99),(100,WF100),(101,WF101),(102,WF102),(103,WF103),(104,WF104),(105,WF105),(106,WF106),(112,WF112),(113,WF113),(114,WF114),(115,WF115),(116,WF116),(117,WF117),(118,WF118),(119,WF119),(120,WF120),(121,WF121),(122,WF122),(123,WF123),(124,WF124),(125,WF125),(126,WF126),(127,WF127),(128,WF128),(129,WF129),(130,WF130),(131,WF131),(133,WF133),(134,WF134),(135,WF135)]
noncomputable def atabT:FuncId→Option AFunc:=lookN atabL
theorem ov_132:ExtOk Try.prog 132 ovG:=ov_ext (fn:=Try.f132) (tS:=32) (tR:=4) (e:=51) (size:=2) Try.func132 rfl rfl (by kernel_rfl) (by kernel_rfl) Try.underlying32 (by kernel_rfl)
def wGL:List (Nat × (List AV→Heap→Option (AV × Heap))):=[(130,insG 2 32)]
def wG:Sums:=lookN wGL
theorem wG_all:∀ p ∈ wGL,(Bodied Try.prog p.1∧Sound Try.prog p.1 p.2)∨ExtOk Try.prog p.1 p.2 :=
  List.forall_mem_cons.2 ⟨.inl (insG_sound (hs:=[]) (zero:=[(.str []),(.str [])]) rfl (by decide) (show cFunc Try.prog 130 []=some (insF 2 32 [(.str []),(.str [])] 132 133) by kernel_rfl) (by decide) ov_132),(fun _ h=>by cases h)⟩
theorem wG_ok:∀ f g,wG f=some g→(Bodied Try.prog f∧Sound Try.prog f g)∨ExtOk Try.prog f g:=fun f g h=>wG_all (f,g) (lookN_mem h)
noncomputable def atab:Tab:=(wG,atabT)
theorem atab_all:∀ p ∈ atabL,∃ h,cFunc Try.prog p.1 h=some p.2 :=
  List.forall_mem_cons.2 ⟨⟨_,WF8_is⟩,List.forall_mem_cons.2 ⟨⟨_,WF11_is⟩,List.forall_mem_cons.2 ⟨⟨_,WF12_is⟩,List.forall_mem_cons.2 ⟨⟨_,WF13_is⟩,List.forall_mem_cons.2 ⟨⟨_,WF14_is⟩,List.forall_mem_cons.2 ⟨⟨_,WF16_is⟩,List.forall_mem_cons.2 ⟨⟨_,WF18_is⟩,List.forall_mem_cons.2 ⟨⟨_,WF19_is⟩,List.forall_mem_cons.2 ⟨⟨_,WF20_is⟩,List.forall_mem_cons.2 ⟨⟨_,WF21_is⟩,List.forall_mem_cons.2 ⟨⟨_,WF22_is⟩,List.forall_mem_cons.2 ⟨⟨_,WF23_is⟩,List.forall_mem_cons.2 ⟨⟨_,WF24_is⟩,List.forall_mem_cons.2 ⟨⟨_,WF26_is⟩,List.forall_mem_cons.2 ⟨⟨_,WF27_is⟩,List.forall_mem_cons.2 ⟨⟨_,WF28_is⟩,List.forall_mem_cons.2 ⟨⟨_,WF29_is⟩,List.forall_mem_cons.2 ⟨⟨_,WF30_is⟩,List.forall_mem_cons.2 ⟨⟨_,WF31_is⟩,List.forall_mem_cons.2 ⟨⟨_,WF32_is⟩,List.forall_mem_cons.2 ⟨⟨_,WF33_is⟩,List.forall_mem_cons.2 ⟨⟨_,WF45_is⟩,List.forall_mem_cons.2 ⟨⟨_,WF46_is⟩,List.forall_mem_cons.2 ⟨⟨_,WF47_is⟩,List.forall_mem_cons.2 ⟨⟨_,WF48_is⟩,List.forall_mem_cons.2 ⟨⟨_,WF49_is⟩,List.forall_mem_cons.2 ⟨⟨_,WF50_is⟩,List.forall_mem_cons.2 ⟨⟨_,WF51_is⟩,List.forall_mem_cons.2 ⟨⟨_,WF52_is⟩,List.forall_mem_cons.2 ⟨⟨_,WF53_is⟩,List.forall_mem_cons.2 ⟨⟨_,WF54_is⟩,List.forall_mem_cons.2 ⟨⟨_,WF55_is⟩,List.forall_mem_cons.2 ⟨⟨_,WF56_is⟩,List.forall_mem_cons.2 ⟨⟨_,WF57_is⟩,List.forall_mem_cons.2 ⟨⟨_,WF58_is⟩,List.forall_mem_cons.2 ⟨⟨_,WF59_is⟩,List.forall_mem_cons.2 ⟨⟨_,WF60_is⟩,List.forall_mem_cons.2 ⟨⟨_,WF61_is⟩,List.forall_mem_cons.2 ⟨⟨_,WF62_is⟩,List.forall_mem_cons.2 ⟨⟨_,WF63_is⟩,List.forall_mem_cons.2 ⟨⟨_,WF64_is⟩,List.forall_mem_cons.2 ⟨⟨_,WF65_is⟩,List.forall_mem_cons.2 ⟨⟨_,WF66_is⟩,List.forall_mem_cons.2 ⟨⟨_,WF67_is⟩,List.forall_mem_cons.2 ⟨⟨_,WF68_is⟩,List.forall_mem_cons.2 ⟨⟨_,WF69_is⟩,List.forall_mem_cons.2 ⟨⟨_,WF70_is⟩,List.forall_mem_cons.2 ⟨⟨_,WF71_is⟩,List.forall_mem_cons.2 ⟨⟨_,WF72_is⟩,List.forall_mem_cons.2 ⟨⟨_,WF86_is⟩,List.forall_mem_cons.2 ⟨⟨_,WF87_is⟩,List.forall_mem_cons.2 ⟨⟨_,WF88_is⟩,List.forall_mem_cons.2 ⟨⟨_,WF89_is⟩,List.forall_mem_cons.2 ⟨⟨_,WF90_is⟩,List.forall_mem_cons.2 ⟨⟨_,WF91_is⟩,List.forall_mem_cons.2 ⟨⟨_,WF92_is⟩,List.forall_mem_cons.2 ⟨⟨_,WF93_is⟩,List.forall_mem_cons.2 ⟨⟨_,WF94_is⟩,List.forall_mem_cons.2 ⟨⟨_,WF95_is⟩,List.forall_mem_cons.2 ⟨⟨_,WF96_is⟩,List.forall_mem_cons.2 ⟨⟨_,WF97_is⟩,List.forall_mem_cons.2 ⟨⟨_,WF98_is⟩,List.forall_mem_cons.2 ⟨⟨_,WF99_is⟩,List.forall_mem_cons.2 ⟨⟨_,WF100_is⟩,List.forall_mem_cons.2 ⟨⟨_,WF101_is⟩,List.forall_mem_cons.2 ⟨⟨_,WF102_is⟩,List.forall_mem_cons.2 ⟨⟨_,WF103_is⟩,List.forall_mem_cons.2 ⟨⟨_,WF104_is⟩,List.forall_mem_cons.2 ⟨⟨_,WF105_is⟩,List.forall_mem_cons.2 ⟨⟨_,WF106_is⟩,List.forall_mem_cons.2 ⟨⟨_,WF112_is⟩,List.forall_mem_cons.2 ⟨⟨_,WF113_is⟩,List.forall_mem_cons.2 ⟨⟨_,WF114_is⟩,List.forall_mem_cons.2 ⟨⟨_,WF115_is⟩,List.forall_mem_cons.2 ⟨⟨_,WF116_is⟩,List.forall_mem_cons.2 ⟨⟨_,WF117_is⟩,List.forall_mem_cons.2 ⟨⟨_,WF118_is⟩,List.forall_mem_cons.2 ⟨⟨_,WF119_is⟩,List.forall_mem_cons.2 ⟨⟨_,WF120_is⟩,List.forall_mem_cons.2 ⟨⟨_,WF121_is⟩,List.forall_mem_cons.2 ⟨⟨_,WF122_is⟩,List.forall_mem_cons.2 ⟨⟨_,WF123_is⟩,List.forall_mem_cons.2 ⟨⟨_,WF124_is⟩,List.forall_mem_cons.2 ⟨⟨_,WF125_is⟩,List.forall_mem_cons.2 ⟨⟨_,WF126_is⟩,List.forall_mem_cons.2 ⟨⟨_,WF127_is⟩,List.forall_mem_cons.2 ⟨⟨_,WF128_is⟩,List.forall_mem_cons.2 ⟨⟨_,WF129_is⟩,List.forall_mem_cons.2 ⟨⟨_,WF130_is⟩,List.forall_mem_cons.2 ⟨⟨_,WF131_is⟩,List.forall_mem_cons.2 ⟨⟨_,WF133_is⟩,List.forall_mem_cons.2 ⟨⟨_,WF134_is⟩,List.forall_mem_cons.2 ⟨⟨_,WF135_is⟩,(fun _ h=>by cases h)⟩⟩⟩⟩⟩⟩⟩⟩⟩⟩⟩⟩⟩⟩⟩⟩⟩⟩⟩⟩⟩⟩⟩⟩⟩⟩⟩⟩⟩⟩⟩⟩⟩⟩⟩⟩⟩⟩⟩⟩⟩⟩⟩⟩⟩⟩⟩⟩⟩⟩⟩⟩⟩⟩⟩⟩⟩⟩⟩⟩⟩⟩⟩⟩⟩⟩⟩⟩⟩⟩⟩⟩⟩⟩⟩⟩⟩⟩⟩⟩⟩⟩⟩⟩⟩⟩⟩⟩⟩⟩⟩⟩⟩
theorem atab_is {f:FuncId} {x:AFunc} (h:atabT f=some x):∃ hs,cFunc Try.prog f hs=some x:=atab_all (f,x) (lookN_mem h)
theorem AF8:atab.1 8=none∧atab.2 8=some WF8∧WF8.code.okc=true:=sp_ rfl (by kernel_rfl) WF8_ok
theorem AF11:atab.1 11=none∧atab.2 11=some WF11∧WF11.code.okc=true:=sp_ rfl (by kernel_rfl) WF11_ok
theorem AF12:atab.1 12=none∧atab.2 12=some WF12∧WF12.code.okc=true:=sp_ rfl (by kernel_rfl) WF12_ok
theorem AF13:atab.1 13=none∧atab.2 13=some WF13∧WF13.code.okc=true:=sp_ rfl (by kernel_rfl) WF13_ok
theorem AF14:atab.1 14=none∧atab.2 14=some WF14∧WF14.code.okc=true:=sp_ rfl (by kernel_rfl) WF14_ok
theorem AF16:atab.1 16=none∧atab.2 16=some WF16∧WF16.code.okc=true:=sp_ rfl (by kernel_rfl) WF16_ok
theorem AF18:atab.1 18=none∧atab.2 18=some WF18∧WF18.code.okc=true:=sp_ rfl (by kernel_rfl) WF18_ok
theorem AF19:atab.1 19=none∧atab.2 19=some WF19∧WF19.code.okc=true:=sp_ rfl (by kernel_rfl) WF19_ok
theorem AF20:atab.1 20=none∧atab.2 20=some WF20∧WF20.code.okc=true:=sp_ rfl (by kernel_rfl) WF20_ok
theorem AF21:atab.1 21=none∧atab.2 21=some WF21∧WF21.code.okc=true:=sp_ rfl (by kernel_rfl) WF21_ok
theorem AF22:atab.1 22=none∧atab.2 22=some WF22∧WF22.code.okc=true:=sp_ rfl (by kernel_rfl) WF22_ok
theorem AF23:atab.1 23=none∧atab.2 23=some WF23∧WF23.code.okc=true:=sp_ rfl (by kernel_rfl) WF23_ok
theorem AF24:atab.1 24=none∧atab.2 24=some WF24∧WF24.code.okc=true:=sp_ rfl (by kernel_rfl) WF24_ok
theorem AF26:atab.1 26=none∧atab.2 26=some WF26∧WF26.code.okc=true:=sp_ rfl (by kernel_rfl) WF26_ok
theorem AF27:atab.1 27=none∧atab.2 27=some WF27∧WF27.code.okc=true:=sp_ rfl (by kernel_rfl) WF27_ok
theorem AF28:atab.1 28=none∧atab.2 28=some WF28∧WF28.code.okc=true:=sp_ rfl (by kernel_rfl) WF28_ok
theorem AF29:atab.1 29=none∧atab.2 29=some WF29∧WF29.code.okc=true:=sp_ rfl (by kernel_rfl) WF29_ok
theorem AF30:atab.1 30=none∧atab.2 30=some WF30∧WF30.code.okc=true:=sp_ rfl (by kernel_rfl) WF30_ok
theorem AF31:atab.1 31=none∧atab.2 31=some WF31∧WF31.code.okc=true:=sp_ rfl (by kernel_rfl) WF31_ok
theorem AF32:atab.1 32=none∧atab.2 32=some WF32∧WF32.code.okc=true:=sp_ rfl (by kernel_rfl) WF32_ok
theorem AF33:atab.1 33=none∧atab.2 33=some WF33∧WF33.code.okc=true:=sp_ rfl (by kernel_rfl) WF33_ok
theorem AF45:atab.1 45=none∧atab.2 45=some WF45∧WF45.code.okc=true:=sp_ rfl (by kernel_rfl) WF45_ok
theorem AF46:atab.1 46=none∧atab.2 46=some WF46∧WF46.code.okc=true:=sp_ rfl (by kernel_rfl) WF46_ok
theorem AF47:atab.1 47=none∧atab.2 47=some WF47∧WF47.code.okc=true:=sp_ rfl (by kernel_rfl) WF47_ok
theorem AF48:atab.1 48=none∧atab.2 48=some WF48∧WF48.code.okc=true:=sp_ rfl (by kernel_rfl) WF48_ok
theorem AF49:atab.1 49=none∧atab.2 49=some WF49∧WF49.code.okc=true:=sp_ rfl (by kernel_rfl) WF49_ok
theorem AF50:atab.1 50=none∧atab.2 50=some WF50∧WF50.code.okc=true:=sp_ rfl (by kernel_rfl) WF50_ok
theorem AF51:atab.1 51=none∧atab.2 51=some WF51∧WF51.code.okc=true:=sp_ rfl (by kernel_rfl) WF51_ok
theorem AF52:atab.1 52=none∧atab.2 52=some WF52∧WF52.code.okc=true:=sp_ rfl (by kernel_rfl) WF52_ok
theorem AF53:atab.1 53=none∧atab.2 53=some WF53∧WF53.code.okc=true:=sp_ rfl (by kernel_rfl) WF53_ok
theorem AF54:atab.1 54=none∧atab.2 54=some WF54∧WF54.code.okc=true:=sp_ rfl (by kernel_rfl) WF54_ok
theorem AF55:atab.1 55=none∧atab.2 55=some WF55∧WF55.code.okc=true:=sp_ rfl (by kernel_rfl) WF55_ok
theorem AF56:atab.1 56=none∧atab.2 56=some WF56∧WF56.code.okc=true:=sp_ rfl (by kernel_rfl) WF56_ok
theorem AF57:atab.1 57=none∧atab.2 57=some WF57∧WF57.code.okc=true:=sp_ rfl (by kernel_rfl) WF57_ok
theorem AF58:atab.1 58=none∧atab.2 58=some WF58∧WF58.code.okc=true:=sp_ rfl (by kernel_rfl) WF58_ok
theorem AF59:atab.1 59=none∧atab.2 59=some WF59∧WF59.code.okc=true:=sp_ rfl (by kernel_rfl) WF59_ok
theorem AF60:atab.1 60=none∧atab.2 60=some WF60∧WF60.code.okc=true:=sp_ rfl (by kernel_rfl) WF60_ok
theorem AF61:atab.1 61=none∧atab.2 61=some WF61∧WF61.code.okc=true:=sp_ rfl (by kernel_rfl) WF61_ok
theorem AF62:atab.1 62=none∧atab.2 62=some WF62∧WF62.code.okc=true:=sp_ rfl (by kernel_rfl) WF62_ok
theorem AF63:atab.1 63=none∧atab.2 63=some WF63∧WF63.code.okc=true:=sp_ rfl (by kernel_rfl) WF63_ok
theorem AF64:atab.1 64=none∧atab.2 64=some WF64∧WF64.code.okc=true:=sp_ rfl (by kernel_rfl) WF64_ok
theorem AF65:atab.1 65=none∧atab.2 65=some WF65∧WF65.code.okc=true:=sp_ rfl (by kernel_rfl) WF65_ok
theorem AF66:atab.1 66=none∧atab.2 66=some WF66∧WF66.code.okc=true:=sp_ rfl (by kernel_rfl) WF66_ok
theorem AF67:atab.1 67=none∧atab.2 67=some WF67∧WF67.code.okc=true:=sp_ rfl (by kernel_rfl) WF67_ok
theorem AF68:atab.1 68=none∧atab.2 68=some WF68∧WF68.code.okc=true:=sp_ rfl (by kernel_rfl) WF68_ok
theorem AF69:atab.1 69=none∧atab.2 69=some WF69∧WF69.code.okc=true:=sp_ rfl (by kernel_rfl) WF69_ok
theorem AF70:atab.1 70=none∧atab.2 70=some WF70∧WF70.code.okc=true:=sp_ rfl (by kernel_rfl) WF70_ok
theorem AF71:atab.1 71=none∧atab.2 71=some WF71∧WF71.code.okc=true:=sp_ rfl (by kernel_rfl) WF71_ok
theorem AF72:atab.1 72=none∧atab.2 72=some WF72∧WF72.code.okc=true:=sp_ rfl (by kernel_rfl) WF72_ok
theorem AF86:atab.1 86=none∧atab.2 86=some WF86∧WF86.code.okc=true:=sp_ rfl (by kernel_rfl) WF86_ok
theorem AF87:atab.1 87=none∧atab.2 87=some WF87∧WF87.code.okc=true:=sp_ rfl (by kernel_rfl) WF87_ok
theorem AF88:atab.1 88=none∧atab.2 88=some WF88∧WF88.code.okc=true:=sp_ rfl (by kernel_rfl) WF88_ok
theorem AF89:atab.1 89=none∧atab.2 89=some WF89∧WF89.code.okc=true:=sp_ rfl (by kernel_rfl) WF89_ok
theorem AF90:atab.1 90=none∧atab.2 90=some WF90∧WF90.code.okc=true:=sp_ rfl (by kernel_rfl) WF90_ok
theorem AF91:atab.1 91=none∧atab.2 91=some WF91∧WF91.code.okc=true:=sp_ rfl (by kernel_rfl) WF91_ok
theorem AF92:atab.1 92=none∧atab.2 92=some WF92∧WF92.code.okc=true:=sp_ rfl (by kernel_rfl) WF92_ok
theorem AF93:atab.1 93=none∧atab.2 93=some WF93∧WF93.code.okc=true:=sp_ rfl (by kernel_rfl) WF93_ok
theorem AF94:atab.1 94=none∧atab.2 94=some WF94∧WF94.code.okc=true:=sp_ rfl (by kernel_rfl) WF94_ok
theorem AF95:atab.1 95=none∧atab.2 95=some WF95∧WF95.code.okc=true:=sp_ rfl (by kernel_rfl) WF95_ok
theorem AF96:atab.1 96=none∧atab.2 96=some WF96∧WF96.code.okc=true:=sp_ rfl (by kernel_rfl) WF96_ok
theorem AF97:atab.1 97=none∧atab.2 97=some WF97∧WF97.code.okc=true:=sp_ rfl (by kernel_rfl) WF97_ok
theorem AF98:atab.1 98=none∧atab.2 98=some WF98∧WF98.code.okc=true:=sp_ rfl (by kernel_rfl) WF98_ok
theorem AF99:atab.1 99=none∧atab.2 99=some WF99∧WF99.code.okc=true:=sp_ rfl (by kernel_rfl) WF99_ok
theorem AF100:atab.1 100=none∧atab.2 100=some WF100∧WF100.code.okc=true:=sp_ rfl (by kernel_rfl) WF100_ok
theorem AF101:atab.1 101=none∧atab.2 101=some WF101∧WF101.code.okc=true:=sp_ rfl (by kernel_rfl) WF101_ok
theorem AF102:atab.1 102=none∧atab.2 102=some WF102∧WF102.code.okc=true:=sp_ rfl (by kernel_rfl) WF102_ok
theorem AF103:atab.1 103=none∧atab.2 103=some WF103∧WF103.code.okc=true:=sp_ rfl (by kernel_rfl) WF103_ok
theorem AF104:atab.1 104=none∧atab.2 104=some WF104∧WF104.code.okc=true:=sp_ rfl (by kernel_rfl) WF104_ok
theorem AF105:atab.1 105=none∧atab.2 105=some WF105∧WF105.code.okc=true:=sp_ rfl (by kernel_rfl) WF105_ok
theorem AF106:atab.1 106=none∧atab.2 106=some WF106∧WF106.code.okc=true:=sp_ rfl (by kernel_rfl) WF106_ok
theorem AF112:atab.1 112=none∧atab.2 112=some WF112∧WF112.code.okc=true:=sp_ rfl (by kernel_rfl) WF112_ok
theorem AF113:atab.1 113=none∧atab.2 113=some WF113∧WF113.code.okc=true:=sp_ rfl (by kernel_rfl) WF113_ok
theorem AF114:atab.1 114=none∧atab.2 114=some WF114∧WF114.code.okc=true:=sp_ rfl (by kernel_rfl) WF114_ok
theorem AF115:atab.1 115=none∧atab.2 115=some WF115∧WF115.code.okc=true:=sp_ rfl (by kernel_rfl) WF115_ok
theorem AF116:atab.1 116=none∧atab.2 116=some WF116∧WF116.code.okc=true:=sp_ rfl (by kernel_rfl) WF116_ok
theorem AF117:atab.1 117=none∧atab.2 117=some WF117∧WF117.code.okc=true:=sp_ rfl (by kernel_rfl) WF117_ok
theorem AF118:atab.1 118=none∧atab.2 118=some WF118∧WF118.code.okc=true:=sp_ rfl (by kernel_rfl) WF118_ok
theorem AF119:atab.1 119=none∧atab.2 119=some WF119∧WF119.code.okc=true:=sp_ rfl (by kernel_rfl) WF119_ok
theorem AF120:atab.1 120=none∧atab.2 120=some WF120∧WF120.code.okc=true:=sp_ rfl (by kernel_rfl) WF120_ok
theorem AF121:atab.1 121=none∧atab.2 121=some WF121∧WF121.code.okc=true:=sp_ rfl (by kernel_rfl) WF121_ok
theorem AF122:atab.1 122=none∧atab.2 122=some WF122∧WF122.code.okc=true:=sp_ rfl (by kernel_rfl) WF122_ok
theorem AF123:atab.1 123=none∧atab.2 123=some WF123∧WF123.code.okc=true:=sp_ rfl (by kernel_rfl) WF123_ok
theorem AF124:atab.1 124=none∧atab.2 124=some WF124∧WF124.code.okc=true:=sp_ rfl (by kernel_rfl) WF124_ok
theorem AF125:atab.1 125=none∧atab.2 125=some WF125∧WF125.code.okc=true:=sp_ rfl (by kernel_rfl) WF125_ok
theorem AF126:atab.1 126=none∧atab.2 126=some WF126∧WF126.code.okc=true:=sp_ rfl (by kernel_rfl) WF126_ok
theorem AF127:atab.1 127=none∧atab.2 127=some WF127∧WF127.code.okc=true:=sp_ rfl (by kernel_rfl) WF127_ok
theorem AF128:atab.1 128=none∧atab.2 128=some WF128∧WF128.code.okc=true:=sp_ rfl (by kernel_rfl) WF128_ok
theorem AF129:atab.1 129=none∧atab.2 129=some WF129∧WF129.code.okc=true:=sp_ rfl (by kernel_rfl) WF129_ok
theorem AF131:atab.1 131=none∧atab.2 131=some WF131∧WF131.code.okc=true:=sp_ rfl (by kernel_rfl) WF131_ok
theorem AF133:atab.1 133=none∧atab.2 133=some WF133∧WF133.code.okc=true:=sp_ rfl (by kernel_rfl) WF133_ok
theorem AF134:atab.1 134=none∧atab.2 134=some WF134∧WF134.code.okc=true:=sp_ rfl (by kernel_rfl) WF134_ok
theorem AF135:atab.1 135=none∧atab.2 135=some WF135∧WF135.code.okc=true:=sp_ rfl (by kernel_rfl) WF135_ok
def wBL:List (Nat × Bt):=[(63,.clip 2),(64,.clip 4),(87,.clone 1 1),(88,.clip 1),(104,.clip 1),(116,.clone 2 32),(125,.del 2),(130,.ins 2 32)]
def wB:FuncId→Option Bt:=lookN wBL
theorem wB_all (d:Nat):∀ p ∈ wBL,BOk (wcalls atab (d+1)) p.1 p.2 :=
  List.forall_mem_cons.2 ⟨clip_bok rfl (show atab.2 63=some (clipF 2) by kernel_rfl),List.forall_mem_cons.2 ⟨clip_bok rfl (show atab.2 64=some (clipF 4) by kernel_rfl),List.forall_mem_cons.2 ⟨clone_bok (zero:=[(.int .u8 0)]) rfl (show atab.2 87=some (cloneF 1 1 [(.int .u8 0)]) by kernel_rfl),List.forall_mem_cons.2 ⟨clip_bok rfl (show atab.2 88=some (clipF 1) by kernel_rfl),List.forall_mem_cons.2 ⟨clip_bok rfl (show atab.2 104=some (clipF 1) by kernel_rfl),List.forall_mem_cons.2 ⟨clone_bok (zero:=[(.str []),(.str [])]) rfl (show atab.2 116=some (cloneF 2 32 [(.str []),(.str [])]) by kernel_rfl),List.forall_mem_cons.2 ⟨del_bok (bytes:=32) (zero:=[(.str []),(.str [])]) rfl rfl (show atab.2 125=some (delF 2 32 [(.str []),(.str [])]) by kernel_rfl),List.forall_mem_cons.2 ⟨ins_bok rfl,(fun _ h=>by cases h)⟩⟩⟩⟩⟩⟩⟩⟩
theorem wB_ok (d:Nat):∀ f b,wB f=some b→BOk (wcalls atab (d+1)) f b:=fun f b h=>wB_all d (f,b) (lookN_mem h)
end Go.Proofs.Ytgahmammhclobaa
