import Derived.Test.YtgahmammhclobaaGreatJ5
import Derived.Test.YtgahmammhclobaaGreatJ6
import Derived.Test.YtgahmammhclobaaGreatX1
set_option linter.all false
set_option maxRecDepth 100000
namespace Go.Proofs.YtgahmammhclobaaGreat
def lookN {α:Type}:List (Nat × α)→Nat→Option α
 | [],_=>none
 | p :: r,n=>match Nat.beq p.1 n with
  | true=>some p.2
  | false=>lookN r n
theorem lookN_mem {α:Type}:∀ {l:List (Nat × α)} {n:Nat} {x:α},lookN l n=some x→(n,x) ∈ l
 | [],n,x,h=>by cases h
 | p :: r,n,x,h=>by
  simp only [lookN] at h
  split at h
  ·rename_i e
   obtain rfl:=Option.some.inj h
   rw [← Nat.eq_of_beq_eq_true e]
   exact List.mem_cons_self
  ·exact List.mem_cons_of_mem _ (lookN_mem h)
noncomputable def atabL:List (Nat × AFunc):=[(6,WF6),(11,WF11),(12,WF12),(13,WF13),(14,WF14),(18,WF18),(19,WF19),(20,WF20),(21,WF21),(22,WF22),(23,WF23),(25,WF25),(27,WF27),(29,WF29),(31,WF31),(33,WF33),(34,WF34),(39,WF39),(41,WF41),(42,WF42),(43,WF43),(44,WF44),(47,WF47),(49,WF49),(51,WF51),(52,WF52),(53,WF53),(54,WF54),(56,WF56),(69,WF69),(70,WF70),(71,WF71),(72,WF72),(73,WF73),(74,WF74),(75,WF75),(78,WF78),(79,WF79),(80,WF80),(81,WF81),(82,WF82),(83,WF83),(84,WF84),(89,WF89),(90,WF90),(91,WF91),(92,WF92),(94,WF94),(95,WF95),(96,WF96),(97,WF97),(98,WF98),(99,WF99),(100,WF100),(101,WF101),(102,WF102),(103,WF103),(104,WF104),(106,WF106),(107,WF107),(109,WF109),(110,WF110),(111,WF111),(112,WF112),(113,WF113),(114,WF114),(115,WF115),(116,WF116),(117,WF117),(118,WF118),(124,WF124),(125,WF125),(126,WF126),(127,WF127),(128,WF128),(129,WF129),(130,WF130),(131,WF131),(132,WF132),(133,WF133),(134,WF134),(135,WF135),(136,WF136),(137,WF137),(138,WF138),(139,WF139),(142,WF142),(143,WF143),(144,WF144),(145,WF145),(146,WF146),(147,WF147),(148,WF148),(149,WF149),(150,WF150),(151,WF151),(152,WF152),(153,WF153),(154,WF154),(155,WF155),(156,WF156),(158,WF158),(159,WF159),(160,WF160),(161,WF161),(162,WF162),(163,WF163),(164,WF164),(165,WF165),(166,WF166),(167,WF167),(168,WF168),(169,WF169),(170,WF170),(171,WF171),(172,WF172),(174,WF174),(175,WF175),(176,WF176)]
noncomputable def atabT:FuncId→Option AFunc:=lookN atabL
theorem ov_173:ExtOk Tryz.prog 173 ovG:=ov_ext (fn:=Tryz.f173) (tS:=36) (tR:=4) (e:=126) (size:=2) Tryz.func173 rfl rfl (by kernel_rfl) (by kernel_rfl) Tryz.underlying36 (by kernel_rfl)
def wGL:List (Nat × (List AV→Heap→Option (AV × Heap))):=[(171,insG 2 32)]
def wG:Sums:=lookN wGL
theorem wG_all:∀ p ∈ wGL,(Bodied Tryz.prog p.1∧Sound Tryz.prog p.1 p.2)∨ExtOk Tryz.prog p.1 p.2 :=
 List.forall_mem_cons.2 ⟨.inl (insG_sound (hs:=[]) (zero:=[(.str []),(.str [])]) rfl (by decide) (show cFunc Tryz.prog 171 []=some (insF 2 32 [(.str []),(.str [])] 173 174) by kernel_rfl) (by decide) ov_173),(fun _ h=>by cases h)⟩
theorem wG_ok:∀ f g,wG f=some g→(Bodied Tryz.prog f∧Sound Tryz.prog f g)∨ExtOk Tryz.prog f g:=fun f g h=>wG_all (f,g) (lookN_mem h)
noncomputable def atab:Tab:=(wG,atabT)
theorem atab_all:∀ p ∈ atabL,∃ h,cFunc Tryz.prog p.1 h=some p.2 :=
 List.forall_mem_cons.2 ⟨⟨_,WF6_is⟩,List.forall_mem_cons.2 ⟨⟨_,WF11_is⟩,List.forall_mem_cons.2 ⟨⟨_,WF12_is⟩,List.forall_mem_cons.2 ⟨⟨_,WF13_is⟩,List.forall_mem_cons.2 ⟨⟨_,WF14_is⟩,List.forall_mem_cons.2 ⟨⟨_,WF18_is⟩,List.forall_mem_cons.2 ⟨⟨_,WF19_is⟩,List.forall_mem_cons.2 ⟨⟨_,WF20_is⟩,List.forall_mem_cons.2 ⟨⟨_,WF21_is⟩,List.forall_mem_cons.2 ⟨⟨_,WF22_is⟩,List.forall_mem_cons.2 ⟨⟨_,WF23_is⟩,List.forall_mem_cons.2 ⟨⟨_,WF25_is⟩,List.forall_mem_cons.2 ⟨⟨_,WF27_is⟩,List.forall_mem_cons.2 ⟨⟨_,WF29_is⟩,List.forall_mem_cons.2 ⟨⟨_,WF31_is⟩,List.forall_mem_cons.2 ⟨⟨_,WF33_is⟩,List.forall_mem_cons.2 ⟨⟨_,WF34_is⟩,List.forall_mem_cons.2 ⟨⟨_,WF39_is⟩,List.forall_mem_cons.2 ⟨⟨_,WF41_is⟩,List.forall_mem_cons.2 ⟨⟨_,WF42_is⟩,List.forall_mem_cons.2 ⟨⟨_,WF43_is⟩,List.forall_mem_cons.2 ⟨⟨_,WF44_is⟩,List.forall_mem_cons.2 ⟨⟨_,WF47_is⟩,List.forall_mem_cons.2 ⟨⟨_,WF49_is⟩,List.forall_mem_cons.2 ⟨⟨_,WF51_is⟩,List.forall_mem_cons.2 ⟨⟨_,WF52_is⟩,List.forall_mem_cons.2 ⟨⟨_,WF53_is⟩,List.forall_mem_cons.2 ⟨⟨_,WF54_is⟩,List.forall_mem_cons.2 ⟨⟨_,WF56_is⟩,List.forall_mem_cons.2 ⟨⟨_,WF69_is⟩,List.forall_mem_cons.2 ⟨⟨_,WF70_is⟩,List.forall_mem_cons.2 ⟨⟨_,WF71_is⟩,List.forall_mem_cons.2 ⟨⟨_,WF72_is⟩,List.forall_mem_cons.2 ⟨⟨_,WF73_is⟩,List.forall_mem_cons.2 ⟨⟨_,WF74_is⟩,List.forall_mem_cons.2 ⟨⟨_,WF75_is⟩,List.forall_mem_cons.2 ⟨⟨_,WF78_is⟩,List.forall_mem_cons.2 ⟨⟨_,WF79_is⟩,List.forall_mem_cons.2 ⟨⟨_,WF80_is⟩,List.forall_mem_cons.2 ⟨⟨_,WF81_is⟩,List.forall_mem_cons.2 ⟨⟨_,WF82_is⟩,List.forall_mem_cons.2 ⟨⟨_,WF83_is⟩,List.forall_mem_cons.2 ⟨⟨_,WF84_is⟩,List.forall_mem_cons.2 ⟨⟨_,WF89_is⟩,List.forall_mem_cons.2 ⟨⟨_,WF90_is⟩,List.forall_mem_cons.2 ⟨⟨_,WF91_is⟩,List.forall_mem_cons.2 ⟨⟨_,WF92_is⟩,List.forall_mem_cons.2 ⟨⟨_,WF94_is⟩,List.forall_mem_cons.2 ⟨⟨_,WF95_is⟩,List.forall_mem_cons.2 ⟨⟨_,WF96_is⟩,List.forall_mem_cons.2 ⟨⟨_,WF97_is⟩,List.forall_mem_cons.2 ⟨⟨_,WF98_is⟩,List.forall_mem_cons.2 ⟨⟨_,WF99_is⟩,List.forall_mem_cons.2 ⟨⟨_,WF100_is⟩,List.forall_mem_cons.2 ⟨⟨_,WF101_is⟩,List.forall_mem_cons.2 ⟨⟨_,WF102_is⟩,List.forall_mem_cons.2 ⟨⟨_,WF103_is⟩,List.forall_mem_cons.2 ⟨⟨_,WF104_is⟩,List.forall_mem_cons.2 ⟨⟨_,WF106_is⟩,List.forall_mem_cons.2 ⟨⟨_,WF107_is⟩,List.forall_mem_cons.2 ⟨⟨_,WF109_is⟩,List.forall_mem_cons.2 ⟨⟨_,WF110_is⟩,List.forall_mem_cons.2 ⟨⟨_,WF111_is⟩,List.forall_mem_cons.2 ⟨⟨_,WF112_is⟩,List.forall_mem_cons.2 ⟨⟨_,WF113_is⟩,List.forall_mem_cons.2 ⟨⟨_,WF114_is⟩,List.forall_mem_cons.2 ⟨⟨_,WF115_is⟩,List.forall_mem_cons.2 ⟨⟨_,WF116_is⟩,List.forall_mem_cons.2 ⟨⟨_,WF117_is⟩,List.forall_mem_cons.2 ⟨⟨_,WF118_is⟩,List.forall_mem_cons.2 ⟨⟨_,WF124_is⟩,List.forall_mem_cons.2 ⟨⟨_,WF125_is⟩,List.forall_mem_cons.2 ⟨⟨_,WF126_is⟩,List.forall_mem_cons.2 ⟨⟨_,WF127_is⟩,List.forall_mem_cons.2 ⟨⟨_,WF128_is⟩,List.forall_mem_cons.2 ⟨⟨_,WF129_is⟩,List.forall_mem_cons.2 ⟨⟨_,WF130_is⟩,List.forall_mem_cons.2 ⟨⟨_,WF131_is⟩,List.forall_mem_cons.2 ⟨⟨_,WF132_is⟩,List.forall_mem_cons.2 ⟨⟨_,WF133_is⟩,List.forall_mem_cons.2 ⟨⟨_,WF134_is⟩,List.forall_mem_cons.2 ⟨⟨_,WF135_is⟩,List.forall_mem_cons.2 ⟨⟨_,WF136_is⟩,List.forall_mem_cons.2 ⟨⟨_,WF137_is⟩,List.forall_mem_cons.2 ⟨⟨_,WF138_is⟩,List.forall_mem_cons.2 ⟨⟨_,WF139_is⟩,List.forall_mem_cons.2 ⟨⟨_,WF142_is⟩,List.forall_mem_cons.2 ⟨⟨_,WF143_is⟩,List.forall_mem_cons.2 ⟨⟨_,WF144_is⟩,List.forall_mem_cons.2 ⟨⟨_,WF145_is⟩,List.forall_mem_cons.2 ⟨⟨_,WF146_is⟩,List.forall_mem_cons.2 ⟨⟨_,WF147_is⟩,List.forall_mem_cons.2 ⟨⟨_,WF148_is⟩,List.forall_mem_cons.2 ⟨⟨_,WF149_is⟩,List.forall_mem_cons.2 ⟨⟨_,WF150_is⟩,List.forall_mem_cons.2 ⟨⟨_,WF151_is⟩,List.forall_mem_cons.2 ⟨⟨_,WF152_is⟩,List.forall_mem_cons.2 ⟨⟨_,WF153_is⟩,List.forall_mem_cons.2 ⟨⟨_,WF154_is⟩,List.forall_mem_cons.2 ⟨⟨_,WF155_is⟩,List.forall_mem_cons.2 ⟨⟨_,WF156_is⟩,List.forall_mem_cons.2 ⟨⟨_,WF158_is⟩,List.forall_mem_cons.2 ⟨⟨_,WF159_is⟩,List.forall_mem_cons.2 ⟨⟨_,WF160_is⟩,List.forall_mem_cons.2 ⟨⟨_,WF161_is⟩,List.forall_mem_cons.2 ⟨⟨_,WF162_is⟩,List.forall_mem_cons.2 ⟨⟨_,WF163_is⟩,List.forall_mem_cons.2 ⟨⟨_,WF164_is⟩,List.forall_mem_cons.2 ⟨⟨_,WF165_is⟩,List.forall_mem_cons.2 ⟨⟨_,WF166_is⟩,List.forall_mem_cons.2 ⟨⟨_,WF167_is⟩,List.forall_mem_cons.2 ⟨⟨_,WF168_is⟩,List.forall_mem_cons.2 ⟨⟨_,WF169_is⟩,List.forall_mem_cons.2 ⟨⟨_,WF170_is⟩,List.forall_mem_cons.2 ⟨⟨_,WF171_is⟩,List.forall_mem_cons.2 ⟨⟨_,WF172_is⟩,List.forall_mem_cons.2 ⟨⟨_,WF174_is⟩,List.forall_mem_cons.2 ⟨⟨_,WF175_is⟩,List.forall_mem_cons.2 ⟨⟨_,WF176_is⟩,(fun _ h=>by cases h)⟩⟩⟩⟩⟩⟩⟩⟩⟩⟩⟩⟩⟩⟩⟩⟩⟩⟩⟩⟩⟩⟩⟩⟩⟩⟩⟩⟩⟩⟩⟩⟩⟩⟩⟩⟩⟩⟩⟩⟩⟩⟩⟩⟩⟩⟩⟩⟩⟩⟩⟩⟩⟩⟩⟩⟩⟩⟩⟩⟩⟩⟩⟩⟩⟩⟩⟩⟩⟩⟩⟩⟩⟩⟩⟩⟩⟩⟩⟩⟩⟩⟩⟩⟩⟩⟩⟩⟩⟩⟩⟩⟩⟩⟩⟩⟩⟩⟩⟩⟩⟩⟩⟩⟩⟩⟩⟩⟩⟩⟩⟩⟩⟩⟩⟩⟩⟩⟩⟩
theorem atab_is {f:FuncId} {x:AFunc} (h:atabT f=some x):∃ hs,cFunc Tryz.prog f hs=some x:=atab_all (f,x) (lookN_mem h)
theorem AF6:atab.1 6=none∧atab.2 6=some WF6∧WF6.code.okc=true:=sp_ rfl (by kernel_rfl) WF6_ok
theorem AF11:atab.1 11=none∧atab.2 11=some WF11∧WF11.code.okc=true:=sp_ rfl (by kernel_rfl) WF11_ok
theorem AF12:atab.1 12=none∧atab.2 12=some WF12∧WF12.code.okc=true:=sp_ rfl (by kernel_rfl) WF12_ok
theorem AF13:atab.1 13=none∧atab.2 13=some WF13∧WF13.code.okc=true:=sp_ rfl (by kernel_rfl) WF13_ok
theorem AF14:atab.1 14=none∧atab.2 14=some WF14∧WF14.code.okc=true:=sp_ rfl (by kernel_rfl) WF14_ok
theorem AF18:atab.1 18=none∧atab.2 18=some WF18∧WF18.code.okc=true:=sp_ rfl (by kernel_rfl) WF18_ok
theorem AF19:atab.1 19=none∧atab.2 19=some WF19∧WF19.code.okc=true:=sp_ rfl (by kernel_rfl) WF19_ok
theorem AF20:atab.1 20=none∧atab.2 20=some WF20∧WF20.code.okc=true:=sp_ rfl (by kernel_rfl) WF20_ok
theorem AF21:atab.1 21=none∧atab.2 21=some WF21∧WF21.code.okc=true:=sp_ rfl (by kernel_rfl) WF21_ok
theorem AF22:atab.1 22=none∧atab.2 22=some WF22∧WF22.code.okc=true:=sp_ rfl (by kernel_rfl) WF22_ok
theorem AF23:atab.1 23=none∧atab.2 23=some WF23∧WF23.code.okc=true:=sp_ rfl (by kernel_rfl) WF23_ok
theorem AF25:atab.1 25=none∧atab.2 25=some WF25∧WF25.code.okc=true:=sp_ rfl (by kernel_rfl) WF25_ok
theorem AF27:atab.1 27=none∧atab.2 27=some WF27∧WF27.code.okc=true:=sp_ rfl (by kernel_rfl) WF27_ok
theorem AF29:atab.1 29=none∧atab.2 29=some WF29∧WF29.code.okc=true:=sp_ rfl (by kernel_rfl) WF29_ok
theorem AF31:atab.1 31=none∧atab.2 31=some WF31∧WF31.code.okc=true:=sp_ rfl (by kernel_rfl) WF31_ok
theorem AF33:atab.1 33=none∧atab.2 33=some WF33∧WF33.code.okc=true:=sp_ rfl (by kernel_rfl) WF33_ok
theorem AF34:atab.1 34=none∧atab.2 34=some WF34∧WF34.code.okc=true:=sp_ rfl (by kernel_rfl) WF34_ok
theorem AF39:atab.1 39=none∧atab.2 39=some WF39∧WF39.code.okc=true:=sp_ rfl (by kernel_rfl) WF39_ok
theorem AF41:atab.1 41=none∧atab.2 41=some WF41∧WF41.code.okc=true:=sp_ rfl (by kernel_rfl) WF41_ok
theorem AF42:atab.1 42=none∧atab.2 42=some WF42∧WF42.code.okc=true:=sp_ rfl (by kernel_rfl) WF42_ok
theorem AF43:atab.1 43=none∧atab.2 43=some WF43∧WF43.code.okc=true:=sp_ rfl (by kernel_rfl) WF43_ok
theorem AF44:atab.1 44=none∧atab.2 44=some WF44∧WF44.code.okc=true:=sp_ rfl (by kernel_rfl) WF44_ok
theorem AF47:atab.1 47=none∧atab.2 47=some WF47∧WF47.code.okc=true:=sp_ rfl (by kernel_rfl) WF47_ok
theorem AF49:atab.1 49=none∧atab.2 49=some WF49∧WF49.code.okc=true:=sp_ rfl (by kernel_rfl) WF49_ok
theorem AF51:atab.1 51=none∧atab.2 51=some WF51∧WF51.code.okc=true:=sp_ rfl (by kernel_rfl) WF51_ok
theorem AF52:atab.1 52=none∧atab.2 52=some WF52∧WF52.code.okc=true:=sp_ rfl (by kernel_rfl) WF52_ok
theorem AF53:atab.1 53=none∧atab.2 53=some WF53∧WF53.code.okc=true:=sp_ rfl (by kernel_rfl) WF53_ok
theorem AF54:atab.1 54=none∧atab.2 54=some WF54∧WF54.code.okc=true:=sp_ rfl (by kernel_rfl) WF54_ok
theorem AF56:atab.1 56=none∧atab.2 56=some WF56∧WF56.code.okc=true:=sp_ rfl (by kernel_rfl) WF56_ok
theorem AF69:atab.1 69=none∧atab.2 69=some WF69∧WF69.code.okc=true:=sp_ rfl (by kernel_rfl) WF69_ok
theorem AF70:atab.1 70=none∧atab.2 70=some WF70∧WF70.code.okc=true:=sp_ rfl (by kernel_rfl) WF70_ok
theorem AF71:atab.1 71=none∧atab.2 71=some WF71∧WF71.code.okc=true:=sp_ rfl (by kernel_rfl) WF71_ok
theorem AF72:atab.1 72=none∧atab.2 72=some WF72∧WF72.code.okc=true:=sp_ rfl (by kernel_rfl) WF72_ok
theorem AF73:atab.1 73=none∧atab.2 73=some WF73∧WF73.code.okc=true:=sp_ rfl (by kernel_rfl) WF73_ok
theorem AF74:atab.1 74=none∧atab.2 74=some WF74∧WF74.code.okc=true:=sp_ rfl (by kernel_rfl) WF74_ok
theorem AF75:atab.1 75=none∧atab.2 75=some WF75∧WF75.code.okc=true:=sp_ rfl (by kernel_rfl) WF75_ok
theorem AF78:atab.1 78=none∧atab.2 78=some WF78∧WF78.code.okc=true:=sp_ rfl (by kernel_rfl) WF78_ok
theorem AF79:atab.1 79=none∧atab.2 79=some WF79∧WF79.code.okc=true:=sp_ rfl (by kernel_rfl) WF79_ok
theorem AF80:atab.1 80=none∧atab.2 80=some WF80∧WF80.code.okc=true:=sp_ rfl (by kernel_rfl) WF80_ok
theorem AF81:atab.1 81=none∧atab.2 81=some WF81∧WF81.code.okc=true:=sp_ rfl (by kernel_rfl) WF81_ok
theorem AF82:atab.1 82=none∧atab.2 82=some WF82∧WF82.code.okc=true:=sp_ rfl (by kernel_rfl) WF82_ok
theorem AF83:atab.1 83=none∧atab.2 83=some WF83∧WF83.code.okc=true:=sp_ rfl (by kernel_rfl) WF83_ok
theorem AF84:atab.1 84=none∧atab.2 84=some WF84∧WF84.code.okc=true:=sp_ rfl (by kernel_rfl) WF84_ok
theorem AF89:atab.1 89=none∧atab.2 89=some WF89∧WF89.code.okc=true:=sp_ rfl (by kernel_rfl) WF89_ok
theorem AF90:atab.1 90=none∧atab.2 90=some WF90∧WF90.code.okc=true:=sp_ rfl (by kernel_rfl) WF90_ok
theorem AF91:atab.1 91=none∧atab.2 91=some WF91∧WF91.code.okc=true:=sp_ rfl (by kernel_rfl) WF91_ok
theorem AF92:atab.1 92=none∧atab.2 92=some WF92∧WF92.code.okc=true:=sp_ rfl (by kernel_rfl) WF92_ok
theorem AF94:atab.1 94=none∧atab.2 94=some WF94∧WF94.code.okc=true:=sp_ rfl (by kernel_rfl) WF94_ok
theorem AF95:atab.1 95=none∧atab.2 95=some WF95∧WF95.code.okc=true:=sp_ rfl (by kernel_rfl) WF95_ok
theorem AF96:atab.1 96=none∧atab.2 96=some WF96∧WF96.code.okc=true:=sp_ rfl (by kernel_rfl) WF96_ok
theorem AF97:atab.1 97=none∧atab.2 97=some WF97∧WF97.code.okc=true:=sp_ rfl (by kernel_rfl) WF97_ok
theorem AF98:atab.1 98=none∧atab.2 98=some WF98∧WF98.code.okc=true:=sp_ rfl (by kernel_rfl) WF98_ok
theorem AF99:atab.1 99=none∧atab.2 99=some WF99∧WF99.code.okc=true:=sp_ rfl (by kernel_rfl) WF99_ok
theorem AF100:atab.1 100=none∧atab.2 100=some WF100∧WF100.code.okc=true:=sp_ rfl (by kernel_rfl) WF100_ok
theorem AF101:atab.1 101=none∧atab.2 101=some WF101∧WF101.code.okc=true:=sp_ rfl (by kernel_rfl) WF101_ok
theorem AF102:atab.1 102=none∧atab.2 102=some WF102∧WF102.code.okc=true:=sp_ rfl (by kernel_rfl) WF102_ok
theorem AF103:atab.1 103=none∧atab.2 103=some WF103∧WF103.code.okc=true:=sp_ rfl (by kernel_rfl) WF103_ok
theorem AF104:atab.1 104=none∧atab.2 104=some WF104∧WF104.code.okc=true:=sp_ rfl (by kernel_rfl) WF104_ok
theorem AF106:atab.1 106=none∧atab.2 106=some WF106∧WF106.code.okc=true:=sp_ rfl (by kernel_rfl) WF106_ok
theorem AF107:atab.1 107=none∧atab.2 107=some WF107∧WF107.code.okc=true:=sp_ rfl (by kernel_rfl) WF107_ok
theorem AF109:atab.1 109=none∧atab.2 109=some WF109∧WF109.code.okc=true:=sp_ rfl (by kernel_rfl) WF109_ok
theorem AF110:atab.1 110=none∧atab.2 110=some WF110∧WF110.code.okc=true:=sp_ rfl (by kernel_rfl) WF110_ok
theorem AF111:atab.1 111=none∧atab.2 111=some WF111∧WF111.code.okc=true:=sp_ rfl (by kernel_rfl) WF111_ok
theorem AF112:atab.1 112=none∧atab.2 112=some WF112∧WF112.code.okc=true:=sp_ rfl (by kernel_rfl) WF112_ok
theorem AF113:atab.1 113=none∧atab.2 113=some WF113∧WF113.code.okc=true:=sp_ rfl (by kernel_rfl) WF113_ok
theorem AF114:atab.1 114=none∧atab.2 114=some WF114∧WF114.code.okc=true:=sp_ rfl (by kernel_rfl) WF114_ok
theorem AF115:atab.1 115=none∧atab.2 115=some WF115∧WF115.code.okc=true:=sp_ rfl (by kernel_rfl) WF115_ok
theorem AF116:atab.1 116=none∧atab.2 116=some WF116∧WF116.code.okc=true:=sp_ rfl (by kernel_rfl) WF116_ok
theorem AF117:atab.1 117=none∧atab.2 117=some WF117∧WF117.code.okc=true:=sp_ rfl (by kernel_rfl) WF117_ok
theorem AF118:atab.1 118=none∧atab.2 118=some WF118∧WF118.code.okc=true:=sp_ rfl (by kernel_rfl) WF118_ok
theorem AF124:atab.1 124=none∧atab.2 124=some WF124∧WF124.code.okc=true:=sp_ rfl (by kernel_rfl) WF124_ok
theorem AF125:atab.1 125=none∧atab.2 125=some WF125∧WF125.code.okc=true:=sp_ rfl (by kernel_rfl) WF125_ok
theorem AF126:atab.1 126=none∧atab.2 126=some WF126∧WF126.code.okc=true:=sp_ rfl (by kernel_rfl) WF126_ok
theorem AF127:atab.1 127=none∧atab.2 127=some WF127∧WF127.code.okc=true:=sp_ rfl (by kernel_rfl) WF127_ok
theorem AF128:atab.1 128=none∧atab.2 128=some WF128∧WF128.code.okc=true:=sp_ rfl (by kernel_rfl) WF128_ok
theorem AF129:atab.1 129=none∧atab.2 129=some WF129∧WF129.code.okc=true:=sp_ rfl (by kernel_rfl) WF129_ok
theorem AF130:atab.1 130=none∧atab.2 130=some WF130∧WF130.code.okc=true:=sp_ rfl (by kernel_rfl) WF130_ok
theorem AF131:atab.1 131=none∧atab.2 131=some WF131∧WF131.code.okc=true:=sp_ rfl (by kernel_rfl) WF131_ok
theorem AF132:atab.1 132=none∧atab.2 132=some WF132∧WF132.code.okc=true:=sp_ rfl (by kernel_rfl) WF132_ok
theorem AF133:atab.1 133=none∧atab.2 133=some WF133∧WF133.code.okc=true:=sp_ rfl (by kernel_rfl) WF133_ok
theorem AF134:atab.1 134=none∧atab.2 134=some WF134∧WF134.code.okc=true:=sp_ rfl (by kernel_rfl) WF134_ok
theorem AF135:atab.1 135=none∧atab.2 135=some WF135∧WF135.code.okc=true:=sp_ rfl (by kernel_rfl) WF135_ok
theorem AF136:atab.1 136=none∧atab.2 136=some WF136∧WF136.code.okc=true:=sp_ rfl (by kernel_rfl) WF136_ok
theorem AF137:atab.1 137=none∧atab.2 137=some WF137∧WF137.code.okc=true:=sp_ rfl (by kernel_rfl) WF137_ok
theorem AF138:atab.1 138=none∧atab.2 138=some WF138∧WF138.code.okc=true:=sp_ rfl (by kernel_rfl) WF138_ok
theorem AF139:atab.1 139=none∧atab.2 139=some WF139∧WF139.code.okc=true:=sp_ rfl (by kernel_rfl) WF139_ok
theorem AF142:atab.1 142=none∧atab.2 142=some WF142∧WF142.code.okc=true:=sp_ rfl (by kernel_rfl) WF142_ok
theorem AF143:atab.1 143=none∧atab.2 143=some WF143∧WF143.code.okc=true:=sp_ rfl (by kernel_rfl) WF143_ok
theorem AF144:atab.1 144=none∧atab.2 144=some WF144∧WF144.code.okc=true:=sp_ rfl (by kernel_rfl) WF144_ok
theorem AF145:atab.1 145=none∧atab.2 145=some WF145∧WF145.code.okc=true:=sp_ rfl (by kernel_rfl) WF145_ok
theorem AF146:atab.1 146=none∧atab.2 146=some WF146∧WF146.code.okc=true:=sp_ rfl (by kernel_rfl) WF146_ok
theorem AF147:atab.1 147=none∧atab.2 147=some WF147∧WF147.code.okc=true:=sp_ rfl (by kernel_rfl) WF147_ok
theorem AF148:atab.1 148=none∧atab.2 148=some WF148∧WF148.code.okc=true:=sp_ rfl (by kernel_rfl) WF148_ok
theorem AF149:atab.1 149=none∧atab.2 149=some WF149∧WF149.code.okc=true:=sp_ rfl (by kernel_rfl) WF149_ok
theorem AF150:atab.1 150=none∧atab.2 150=some WF150∧WF150.code.okc=true:=sp_ rfl (by kernel_rfl) WF150_ok
theorem AF151:atab.1 151=none∧atab.2 151=some WF151∧WF151.code.okc=true:=sp_ rfl (by kernel_rfl) WF151_ok
theorem AF152:atab.1 152=none∧atab.2 152=some WF152∧WF152.code.okc=true:=sp_ rfl (by kernel_rfl) WF152_ok
theorem AF153:atab.1 153=none∧atab.2 153=some WF153∧WF153.code.okc=true:=sp_ rfl (by kernel_rfl) WF153_ok
theorem AF154:atab.1 154=none∧atab.2 154=some WF154∧WF154.code.okc=true:=sp_ rfl (by kernel_rfl) WF154_ok
theorem AF155:atab.1 155=none∧atab.2 155=some WF155∧WF155.code.okc=true:=sp_ rfl (by kernel_rfl) WF155_ok
theorem AF156:atab.1 156=none∧atab.2 156=some WF156∧WF156.code.okc=true:=sp_ rfl (by kernel_rfl) WF156_ok
theorem AF158:atab.1 158=none∧atab.2 158=some WF158∧WF158.code.okc=true:=sp_ rfl (by kernel_rfl) WF158_ok
theorem AF159:atab.1 159=none∧atab.2 159=some WF159∧WF159.code.okc=true:=sp_ rfl (by kernel_rfl) WF159_ok
theorem AF160:atab.1 160=none∧atab.2 160=some WF160∧WF160.code.okc=true:=sp_ rfl (by kernel_rfl) WF160_ok
theorem AF161:atab.1 161=none∧atab.2 161=some WF161∧WF161.code.okc=true:=sp_ rfl (by kernel_rfl) WF161_ok
theorem AF162:atab.1 162=none∧atab.2 162=some WF162∧WF162.code.okc=true:=sp_ rfl (by kernel_rfl) WF162_ok
theorem AF163:atab.1 163=none∧atab.2 163=some WF163∧WF163.code.okc=true:=sp_ rfl (by kernel_rfl) WF163_ok
theorem AF164:atab.1 164=none∧atab.2 164=some WF164∧WF164.code.okc=true:=sp_ rfl (by kernel_rfl) WF164_ok
theorem AF165:atab.1 165=none∧atab.2 165=some WF165∧WF165.code.okc=true:=sp_ rfl (by kernel_rfl) WF165_ok
theorem AF166:atab.1 166=none∧atab.2 166=some WF166∧WF166.code.okc=true:=sp_ rfl (by kernel_rfl) WF166_ok
theorem AF167:atab.1 167=none∧atab.2 167=some WF167∧WF167.code.okc=true:=sp_ rfl (by kernel_rfl) WF167_ok
theorem AF168:atab.1 168=none∧atab.2 168=some WF168∧WF168.code.okc=true:=sp_ rfl (by kernel_rfl) WF168_ok
theorem AF169:atab.1 169=none∧atab.2 169=some WF169∧WF169.code.okc=true:=sp_ rfl (by kernel_rfl) WF169_ok
theorem AF170:atab.1 170=none∧atab.2 170=some WF170∧WF170.code.okc=true:=sp_ rfl (by kernel_rfl) WF170_ok
theorem AF172:atab.1 172=none∧atab.2 172=some WF172∧WF172.code.okc=true:=sp_ rfl (by kernel_rfl) WF172_ok
theorem AF174:atab.1 174=none∧atab.2 174=some WF174∧WF174.code.okc=true:=sp_ rfl (by kernel_rfl) WF174_ok
theorem AF175:atab.1 175=none∧atab.2 175=some WF175∧WF175.code.okc=true:=sp_ rfl (by kernel_rfl) WF175_ok
theorem AF176:atab.1 176=none∧atab.2 176=some WF176∧WF176.code.okc=true:=sp_ rfl (by kernel_rfl) WF176_ok
def wBL:List (Nat × Bt):=[(98,.clip 2),(99,.clip 4),(129,.clone 1 1),(130,.clip 1),(143,.clip 1),(151,.clip 5),(155,.clone 2 32),(166,.del 2),(171,.ins 2 32)]
def wB:FuncId→Option Bt:=lookN wBL
theorem wB_all (d:Nat):∀ p ∈ wBL,BOk (wcalls atab (d+1)) p.1 p.2 :=
 List.forall_mem_cons.2 ⟨clip_bok rfl (show atab.2 98=some (clipF 2) by kernel_rfl),List.forall_mem_cons.2 ⟨clip_bok rfl (show atab.2 99=some (clipF 4) by kernel_rfl),List.forall_mem_cons.2 ⟨clone_bok (zero:=[(.int .u8 0)]) rfl (show atab.2 129=some (cloneF 1 1 [(.int .u8 0)]) by kernel_rfl),List.forall_mem_cons.2 ⟨clip_bok rfl (show atab.2 130=some (clipF 1) by kernel_rfl),List.forall_mem_cons.2 ⟨clip_bok rfl (show atab.2 143=some (clipF 1) by kernel_rfl),List.forall_mem_cons.2 ⟨clip_bok rfl (show atab.2 151=some (clipF 5) by kernel_rfl),List.forall_mem_cons.2 ⟨clone_bok (zero:=[(.str []),(.str [])]) rfl (show atab.2 155=some (cloneF 2 32 [(.str []),(.str [])]) by kernel_rfl),List.forall_mem_cons.2 ⟨del_bok (bytes:=32) (zero:=[(.str []),(.str [])]) rfl rfl (show atab.2 166=some (delF 2 32 [(.str []),(.str [])]) by kernel_rfl),List.forall_mem_cons.2 ⟨ins_bok rfl,(fun _ h=>by cases h)⟩⟩⟩⟩⟩⟩⟩⟩⟩
theorem wB_ok (d:Nat):∀ f b,wB f=some b→BOk (wcalls atab (d+1)) f b:=fun f b h=>wB_all d (f,b) (lookN_mem h)
end Go.Proofs.YtgahmammhclobaaGreat
