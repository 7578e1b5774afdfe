import Derived.Test.YtohoggieaanllaaGreatJ5
import Derived.Test.YtohoggieaanllaaGreatJ6
import Derived.Test.YtohoggieaanllaaGreatX1
set_option linter.all false
set_option maxRecDepth 100000
namespace Go.Proofs.YtohoggieaanllaaGreat
def adJ {α:Type}:List (Nat×α)→Nat→Option α
 | [],_=>none
 | p::r,n=>match Nat.beq p.1 n with
  | true=>some p.2
  | false=>adJ r n
theorem Qj {α:Type}:∀ {l:List (Nat×α)} {n:Nat} {x:α},adJ l n=some x→(n,x)∈l
 | [],n,x,h=>by cases h
 | p::r,n,x,h=>by
  simp only [adJ] at h
  split at h
  ·rename_i e
   obtain rfl:=Option.some.inj h
   rw [← Nat.eq_of_beq_eq_true e]
   exact List.mem_cons_self
  ·exact List.mem_cons_of_mem _ (Qj h)
noncomputable def au1:List (Nat×bF):=[(3,WF3),(8,WF8),(9,WF9),(10,agx),(11,aeE),(12,als),(13,anG),(14,aiM),(15,anH),(16,anI),(17,aiP),(18,Z7),(19,anJ),(32,anK),(33,aiS),(34,anL),(35,anM),(36,aiT),(37,alz),(38,aiU),(39,anN),(40,anO),(41,anP),(42,aiV),(43,anQ),(44,anR),(45,anS),(46,anT),(47,anU),(48,anV),(49,anW),(50,anX),(51,anY),(52,anZ),(53,an0),(54,an1),(55,agA),(56,an2),(57,an3),(58,an4),(59,aiY),(60,alE),(61,alG),(62,an5),(63,alI),(64,agB),(65,agC),(66,an6),(67,an7),(68,an8),(69,an9),(70,alN),(71,aeG),(76,aoa),(77,aja),(78,aob),(79,aoc),(80,aod),(81,aoe),(82,aof),(83,aog),(84,aoh),(85,alQ),(86,alS),(87,alU),(88,aeI),(89,aoi),(90,ajf),(91,aoj),(92,aeK),(93,aok),(94,aol),(95,alY),(96,al0),(97,al2),(98,aom),(99,aon),(100,agJ),(101,agK),(102,agL),(103,agM),(104,agN),(105,Ua),(106,Uc),(107,agO),(108,agP),(109,agQ),(110,adt),(111,adu),(112,adv),(113,adw),(114,aal),(115,Rc),(116,agT),(117,agU),(118,adx),(119,agV),(120,agW),(121,ady),(122,adz),(123,adA),(124,agY),(125,agZ),(126,ag0),(127,ag1),(128,ag2),(129,ag3),(130,ag4),(131,ag5),(132,adB),(133,ag6),(134,adC),(135,adD),(136,adE),(137,ag7),(138,adF),(139,XE),(140,ag8),(141,ag9),(142,adG),(143,adH),(144,ahc),(145,ahd),(146,ahe),(147,ahf),(148,ahg),(149,adI),(150,ahh),(151,ahj),(152,ahk),(153,au0),(154,ahl),(156,ahm),(157,ahn),(158,aho)]
noncomputable def aqi:FuncId→Option bF:=adJ au1
theorem avK:Xk Tryz.prog 155 ovG:=avC (fn:=Tryz.f155) (tS:=38) (tR:=4) (e:=127) (size:=2) Tryz.func155 rfl rfl (by kernel_rfl) (by kernel_rfl) Tryz.underlying38 (by kernel_rfl)
def wGL:List (Nat×(List AV→Heap→Option (AV×Heap))):=[(153,aiF 2 32)]
def wG:aeh:=adJ wGL
theorem avL:∀ p∈wGL,(RJ Tryz.prog p.1∧Sound Tryz.prog p.1 p.2)∨Xk Tryz.prog p.1 p.2 :=
 List.forall_mem_cons.2 ⟨.inl (aiG (hs:=[]) (zero:=[(.str []),(.str [])]) rfl (by decide) (show aR Tryz.prog 153 []=some (X_ 2 32 [(.str []),(.str [])] 155 156) by kernel_rfl) (by decide) avK),(λ_ h=>by cases h)⟩
theorem awX:∀ f g,wG f=some g→(RJ Tryz.prog f∧Sound Tryz.prog f g)∨Xk Tryz.prog f g:=λf g h=>avL (f,g) (Qj h)
noncomputable def aH:Tab:=(wG,aqi)
theorem aqj:∀ p∈au1,∃ h,aR Tryz.prog p.1 h=some p.2 :=
 List.forall_mem_cons.2 ⟨⟨_,avE⟩,List.forall_mem_cons.2 ⟨⟨_,avG⟩,List.forall_mem_cons.2 ⟨⟨_,avI⟩,List.forall_mem_cons.2 ⟨⟨_,arL⟩,List.forall_mem_cons.2 ⟨⟨_,arN⟩,List.forall_mem_cons.2 ⟨⟨_,arP⟩,List.forall_mem_cons.2 ⟨⟨_,arR⟩,List.forall_mem_cons.2 ⟨⟨_,arT⟩,List.forall_mem_cons.2 ⟨⟨_,arV⟩,List.forall_mem_cons.2 ⟨⟨_,arX⟩,List.forall_mem_cons.2 ⟨⟨_,arZ⟩,List.forall_mem_cons.2 ⟨⟨_,ar1⟩,List.forall_mem_cons.2 ⟨⟨_,ar3⟩,List.forall_mem_cons.2 ⟨⟨_,ar5⟩,List.forall_mem_cons.2 ⟨⟨_,ar7⟩,List.forall_mem_cons.2 ⟨⟨_,ar9⟩,List.forall_mem_cons.2 ⟨⟨_,asb⟩,List.forall_mem_cons.2 ⟨⟨_,ase⟩,List.forall_mem_cons.2 ⟨⟨_,asg⟩,List.forall_mem_cons.2 ⟨⟨_,asi⟩,List.forall_mem_cons.2 ⟨⟨_,asl⟩,List.forall_mem_cons.2 ⟨⟨_,aso⟩,List.forall_mem_cons.2 ⟨⟨_,asr⟩,List.forall_mem_cons.2 ⟨⟨_,asv⟩,List.forall_mem_cons.2 ⟨⟨_,asx⟩,List.forall_mem_cons.2 ⟨⟨_,asz⟩,List.forall_mem_cons.2 ⟨⟨_,asB⟩,List.forall_mem_cons.2 ⟨⟨_,asD⟩,List.forall_mem_cons.2 ⟨⟨_,asF⟩,List.forall_mem_cons.2 ⟨⟨_,asH⟩,List.forall_mem_cons.2 ⟨⟨_,asJ⟩,List.forall_mem_cons.2 ⟨⟨_,asL⟩,List.forall_mem_cons.2 ⟨⟨_,asN⟩,List.forall_mem_cons.2 ⟨⟨_,asP⟩,List.forall_mem_cons.2 ⟨⟨_,asR⟩,List.forall_mem_cons.2 ⟨⟨_,asT⟩,List.forall_mem_cons.2 ⟨⟨_,asV⟩,List.forall_mem_cons.2 ⟨⟨_,asX⟩,List.forall_mem_cons.2 ⟨⟨_,asZ⟩,List.forall_mem_cons.2 ⟨⟨_,as1⟩,List.forall_mem_cons.2 ⟨⟨_,as3⟩,List.forall_mem_cons.2 ⟨⟨_,as5⟩,List.forall_mem_cons.2 ⟨⟨_,as7⟩,List.forall_mem_cons.2 ⟨⟨_,as9⟩,List.forall_mem_cons.2 ⟨⟨_,atb⟩,List.forall_mem_cons.2 ⟨⟨_,atd⟩,List.forall_mem_cons.2 ⟨⟨_,atf⟩,List.forall_mem_cons.2 ⟨⟨_,ath⟩,List.forall_mem_cons.2 ⟨⟨_,atj⟩,List.forall_mem_cons.2 ⟨⟨_,atm⟩,List.forall_mem_cons.2 ⟨⟨_,ato⟩,List.forall_mem_cons.2 ⟨⟨_,atq⟩,List.forall_mem_cons.2 ⟨⟨_,att⟩,List.forall_mem_cons.2 ⟨⟨_,atv⟩,List.forall_mem_cons.2 ⟨⟨_,atx⟩,List.forall_mem_cons.2 ⟨⟨_,atz⟩,List.forall_mem_cons.2 ⟨⟨_,atB⟩,List.forall_mem_cons.2 ⟨⟨_,atD⟩,List.forall_mem_cons.2 ⟨⟨_,atF⟩,List.forall_mem_cons.2 ⟨⟨_,atH⟩,List.forall_mem_cons.2 ⟨⟨_,atK⟩,List.forall_mem_cons.2 ⟨⟨_,atM⟩,List.forall_mem_cons.2 ⟨⟨_,atO⟩,List.forall_mem_cons.2 ⟨⟨_,atQ⟩,List.forall_mem_cons.2 ⟨⟨_,atT⟩,List.forall_mem_cons.2 ⟨⟨_,atV⟩,List.forall_mem_cons.2 ⟨⟨_,atX⟩,List.forall_mem_cons.2 ⟨⟨_,atZ⟩,List.forall_mem_cons.2 ⟨⟨_,at1⟩,List.forall_mem_cons.2 ⟨⟨_,at6⟩,List.forall_mem_cons.2 ⟨⟨_,aua⟩,List.forall_mem_cons.2 ⟨⟨_,auc⟩,List.forall_mem_cons.2 ⟨⟨_,aue⟩,List.forall_mem_cons.2 ⟨⟨_,aug⟩,List.forall_mem_cons.2 ⟨⟨_,aui⟩,List.forall_mem_cons.2 ⟨⟨_,auk⟩,List.forall_mem_cons.2 ⟨⟨_,aum⟩,List.forall_mem_cons.2 ⟨⟨_,aoo⟩,List.forall_mem_cons.2 ⟨⟨_,aor⟩,List.forall_mem_cons.2 ⟨⟨_,aot⟩,List.forall_mem_cons.2 ⟨⟨_,aov⟩,List.forall_mem_cons.2 ⟨⟨_,aox⟩,List.forall_mem_cons.2 ⟨⟨_,aoz⟩,List.forall_mem_cons.2 ⟨⟨_,aoB⟩,List.forall_mem_cons.2 ⟨⟨_,aoD⟩,List.forall_mem_cons.2 ⟨⟨_,aoF⟩,List.forall_mem_cons.2 ⟨⟨_,aoH⟩,List.forall_mem_cons.2 ⟨⟨_,aoJ⟩,List.forall_mem_cons.2 ⟨⟨_,aoL⟩,List.forall_mem_cons.2 ⟨⟨_,aoN⟩,List.forall_mem_cons.2 ⟨⟨_,aoP⟩,List.forall_mem_cons.2 ⟨⟨_,aoR⟩,List.forall_mem_cons.2 ⟨⟨_,aoT⟩,List.forall_mem_cons.2 ⟨⟨_,aoV⟩,List.forall_mem_cons.2 ⟨⟨_,aoX⟩,List.forall_mem_cons.2 ⟨⟨_,aoZ⟩,List.forall_mem_cons.2 ⟨⟨_,ao1⟩,List.forall_mem_cons.2 ⟨⟨_,ao3⟩,List.forall_mem_cons.2 ⟨⟨_,ao5⟩,List.forall_mem_cons.2 ⟨⟨_,ao7⟩,List.forall_mem_cons.2 ⟨⟨_,ao9⟩,List.forall_mem_cons.2 ⟨⟨_,apb⟩,List.forall_mem_cons.2 ⟨⟨_,apd⟩,List.forall_mem_cons.2 ⟨⟨_,apf⟩,List.forall_mem_cons.2 ⟨⟨_,aph⟩,List.forall_mem_cons.2 ⟨⟨_,apk⟩,List.forall_mem_cons.2 ⟨⟨_,apm⟩,List.forall_mem_cons.2 ⟨⟨_,apo⟩,List.forall_mem_cons.2 ⟨⟨_,apr⟩,List.forall_mem_cons.2 ⟨⟨_,apt⟩,List.forall_mem_cons.2 ⟨⟨_,apv⟩,List.forall_mem_cons.2 ⟨⟨_,apx⟩,List.forall_mem_cons.2 ⟨⟨_,apz⟩,List.forall_mem_cons.2 ⟨⟨_,apB⟩,List.forall_mem_cons.2 ⟨⟨_,apD⟩,List.forall_mem_cons.2 ⟨⟨_,apF⟩,List.forall_mem_cons.2 ⟨⟨_,apH⟩,List.forall_mem_cons.2 ⟨⟨_,apJ⟩,List.forall_mem_cons.2 ⟨⟨_,apL⟩,List.forall_mem_cons.2 ⟨⟨_,apN⟩,List.forall_mem_cons.2 ⟨⟨_,apP⟩,List.forall_mem_cons.2 ⟨⟨_,apR⟩,List.forall_mem_cons.2 ⟨⟨_,apT⟩,List.forall_mem_cons.2 ⟨⟨_,apV⟩,List.forall_mem_cons.2 ⟨⟨_,apX⟩,List.forall_mem_cons.2 ⟨⟨_,apZ⟩,List.forall_mem_cons.2 ⟨⟨_,ap1⟩,List.forall_mem_cons.2 ⟨⟨_,ap3⟩,List.forall_mem_cons.2 ⟨⟨_,ap5⟩,List.forall_mem_cons.2 ⟨⟨_,ap7⟩,List.forall_mem_cons.2 ⟨⟨_,ap9⟩,List.forall_mem_cons.2 ⟨⟨_,aqa⟩,List.forall_mem_cons.2 ⟨⟨_,aqc⟩,List.forall_mem_cons.2 ⟨⟨_,aqe⟩,List.forall_mem_cons.2 ⟨⟨_,aqg⟩,(λ_ h=>by cases h)⟩⟩⟩⟩⟩⟩⟩⟩⟩⟩⟩⟩⟩⟩⟩⟩⟩⟩⟩⟩⟩⟩⟩⟩⟩⟩⟩⟩⟩⟩⟩⟩⟩⟩⟩⟩⟩⟩⟩⟩⟩⟩⟩⟩⟩⟩⟩⟩⟩⟩⟩⟩⟩⟩⟩⟩⟩⟩⟩⟩⟩⟩⟩⟩⟩⟩⟩⟩⟩⟩⟩⟩⟩⟩⟩⟩⟩⟩⟩⟩⟩⟩⟩⟩⟩⟩⟩⟩⟩⟩⟩⟩⟩⟩⟩⟩⟩⟩⟩⟩⟩⟩⟩⟩⟩⟩⟩⟩⟩⟩⟩⟩⟩⟩⟩⟩⟩⟩⟩⟩⟩⟩⟩⟩⟩⟩⟩⟩⟩⟩⟩⟩⟩⟩⟩
theorem auo {f:FuncId} {x:bF} (h:aqi f=some x):∃ hs,aR Tryz.prog f hs=some x:=aqj (f,x) (Qj h)
theorem AF3:aH.1 3=none∧aH.2 3=some WF3∧WF3.code.bD=true:=jh rfl (by kernel_rfl) avF
theorem AF8:aH.1 8=none∧aH.2 8=some WF8∧WF8.code.bD=true:=jh rfl (by kernel_rfl) avH
theorem AF9:aH.1 9=none∧aH.2 9=some WF9∧WF9.code.bD=true:=jh rfl (by kernel_rfl) avJ
theorem ayq:aH.1 10=none∧aH.2 10=some agx∧agx.code.bD=true:=jh rfl (by kernel_rfl) arM
theorem ayr:aH.1 11=none∧aH.2 11=some aeE∧aeE.code.bD=true:=jh rfl (by kernel_rfl) arO
theorem ays:aH.1 12=none∧aH.2 12=some als∧als.code.bD=true:=jh rfl (by kernel_rfl) arQ
theorem ayt:aH.1 13=none∧aH.2 13=some anG∧anG.code.bD=true:=jh rfl (by kernel_rfl) arS
theorem ayu:aH.1 14=none∧aH.2 14=some aiM∧aiM.code.bD=true:=jh rfl (by kernel_rfl) arU
theorem ayv:aH.1 15=none∧aH.2 15=some anH∧anH.code.bD=true:=jh rfl (by kernel_rfl) arW
theorem ayw:aH.1 16=none∧aH.2 16=some anI∧anI.code.bD=true:=jh rfl (by kernel_rfl) arY
theorem ayx:aH.1 17=none∧aH.2 17=some aiP∧aiP.code.bD=true:=jh rfl (by kernel_rfl) ar0
theorem ayy:aH.1 18=none∧aH.2 18=some Z7∧Z7.code.bD=true:=jh rfl (by kernel_rfl) ar2
theorem ayz:aH.1 19=none∧aH.2 19=some anJ∧anJ.code.bD=true:=jh rfl (by kernel_rfl) ar4
theorem ayA:aH.1 32=none∧aH.2 32=some anK∧anK.code.bD=true:=jh rfl (by kernel_rfl) ar6
theorem awY:aH.1 33=none∧aH.2 33=some aiS∧aiS.code.bD=true:=jh rfl (by kernel_rfl) ar8
theorem ayB:aH.1 34=none∧aH.2 34=some anL∧anL.code.bD=true:=jh rfl (by kernel_rfl) asa
theorem ayC:aH.1 35=none∧aH.2 35=some anM∧anM.code.bD=true:=jh rfl (by kernel_rfl) asc
theorem awZ:aH.1 36=none∧aH.2 36=some aiT∧aiT.code.bD=true:=jh rfl (by kernel_rfl) asf
theorem ayD:aH.1 37=none∧aH.2 37=some alz∧alz.code.bD=true:=jh rfl (by kernel_rfl) ash
theorem aw0:aH.1 38=none∧aH.2 38=some aiU∧aiU.code.bD=true:=jh rfl (by kernel_rfl) asj
theorem ayE:aH.1 39=none∧aH.2 39=some anN∧anN.code.bD=true:=jh rfl (by kernel_rfl) asn
theorem ayF:aH.1 40=none∧aH.2 40=some anO∧anO.code.bD=true:=jh rfl (by kernel_rfl) asq
theorem ayG:aH.1 41=none∧aH.2 41=some anP∧anP.code.bD=true:=jh rfl (by kernel_rfl) asu
theorem ayH:aH.1 42=none∧aH.2 42=some aiV∧aiV.code.bD=true:=jh rfl (by kernel_rfl) asw
theorem ayI:aH.1 43=none∧aH.2 43=some anQ∧anQ.code.bD=true:=jh rfl (by kernel_rfl) asy
theorem ayJ:aH.1 44=none∧aH.2 44=some anR∧anR.code.bD=true:=jh rfl (by kernel_rfl) asA
theorem ayK:aH.1 45=none∧aH.2 45=some anS∧anS.code.bD=true:=jh rfl (by kernel_rfl) asC
theorem ayL:aH.1 46=none∧aH.2 46=some anT∧anT.code.bD=true:=jh rfl (by kernel_rfl) asE
theorem ayM:aH.1 47=none∧aH.2 47=some anU∧anU.code.bD=true:=jh rfl (by kernel_rfl) asG
theorem ayN:aH.1 48=none∧aH.2 48=some anV∧anV.code.bD=true:=jh rfl (by kernel_rfl) asI
theorem ayO:aH.1 49=none∧aH.2 49=some anW∧anW.code.bD=true:=jh rfl (by kernel_rfl) asK
theorem ayP:aH.1 50=none∧aH.2 50=some anX∧anX.code.bD=true:=jh rfl (by kernel_rfl) asM
theorem ayQ:aH.1 51=none∧aH.2 51=some anY∧anY.code.bD=true:=jh rfl (by kernel_rfl) asO
theorem ayR:aH.1 52=none∧aH.2 52=some anZ∧anZ.code.bD=true:=jh rfl (by kernel_rfl) asQ
theorem ayS:aH.1 53=none∧aH.2 53=some an0∧an0.code.bD=true:=jh rfl (by kernel_rfl) asS
theorem ayT:aH.1 54=none∧aH.2 54=some an1∧an1.code.bD=true:=jh rfl (by kernel_rfl) asU
theorem aw1:aH.1 55=none∧aH.2 55=some agA∧agA.code.bD=true:=jh rfl (by kernel_rfl) asW
theorem ayU:aH.1 56=none∧aH.2 56=some an2∧an2.code.bD=true:=jh rfl (by kernel_rfl) asY
theorem ayV:aH.1 57=none∧aH.2 57=some an3∧an3.code.bD=true:=jh rfl (by kernel_rfl) as0
theorem ayW:aH.1 58=none∧aH.2 58=some an4∧an4.code.bD=true:=jh rfl (by kernel_rfl) as2
theorem ayX:aH.1 59=none∧aH.2 59=some aiY∧aiY.code.bD=true:=jh rfl (by kernel_rfl) as4
theorem ayY:aH.1 60=none∧aH.2 60=some alE∧alE.code.bD=true:=jh rfl (by kernel_rfl) as6
theorem ayZ:aH.1 61=none∧aH.2 61=some alG∧alG.code.bD=true:=jh rfl (by kernel_rfl) as8
theorem ay0:aH.1 62=none∧aH.2 62=some an5∧an5.code.bD=true:=jh rfl (by kernel_rfl) ata
theorem ay1:aH.1 63=none∧aH.2 63=some alI∧alI.code.bD=true:=jh rfl (by kernel_rfl) atc
theorem ay2:aH.1 64=none∧aH.2 64=some agB∧agB.code.bD=true:=jh rfl (by kernel_rfl) ate
theorem ay3:aH.1 65=none∧aH.2 65=some agC∧agC.code.bD=true:=jh rfl (by kernel_rfl) atg
theorem ay4:aH.1 66=none∧aH.2 66=some an6∧an6.code.bD=true:=jh rfl (by kernel_rfl) ati
theorem ay5:aH.1 67=none∧aH.2 67=some an7∧an7.code.bD=true:=jh rfl (by kernel_rfl) atl
theorem ay6:aH.1 68=none∧aH.2 68=some an8∧an8.code.bD=true:=jh rfl (by kernel_rfl) atn
theorem ay7:aH.1 69=none∧aH.2 69=some an9∧an9.code.bD=true:=jh rfl (by kernel_rfl) atp
theorem ay8:aH.1 70=none∧aH.2 70=some alN∧alN.code.bD=true:=jh rfl (by kernel_rfl) atr
theorem ay9:aH.1 71=none∧aH.2 71=some aeG∧aeG.code.bD=true:=jh rfl (by kernel_rfl) atu
theorem aza:aH.1 76=none∧aH.2 76=some aoa∧aoa.code.bD=true:=jh rfl (by kernel_rfl) atw
theorem azb:aH.1 77=none∧aH.2 77=some aja∧aja.code.bD=true:=jh rfl (by kernel_rfl) aty
theorem azc:aH.1 78=none∧aH.2 78=some aob∧aob.code.bD=true:=jh rfl (by kernel_rfl) atA
theorem azd:aH.1 79=none∧aH.2 79=some aoc∧aoc.code.bD=true:=jh rfl (by kernel_rfl) atC
theorem aze:aH.1 80=none∧aH.2 80=some aod∧aod.code.bD=true:=jh rfl (by kernel_rfl) atE
theorem azf:aH.1 81=none∧aH.2 81=some aoe∧aoe.code.bD=true:=jh rfl (by kernel_rfl) atG
theorem azg:aH.1 82=none∧aH.2 82=some aof∧aof.code.bD=true:=jh rfl (by kernel_rfl) atJ
theorem aw2:aH.1 83=none∧aH.2 83=some aog∧aog.code.bD=true:=jh rfl (by kernel_rfl) atL
theorem azh:aH.1 84=none∧aH.2 84=some aoh∧aoh.code.bD=true:=jh rfl (by kernel_rfl) atN
theorem azi:aH.1 85=none∧aH.2 85=some alQ∧alQ.code.bD=true:=jh rfl (by kernel_rfl) atP
theorem azj:aH.1 86=none∧aH.2 86=some alS∧alS.code.bD=true:=jh rfl (by kernel_rfl) atS
theorem azk:aH.1 87=none∧aH.2 87=some alU∧alU.code.bD=true:=jh rfl (by kernel_rfl) atU
theorem azl:aH.1 88=none∧aH.2 88=some aeI∧aeI.code.bD=true:=jh rfl (by kernel_rfl) atW
theorem azm:aH.1 89=none∧aH.2 89=some aoi∧aoi.code.bD=true:=jh rfl (by kernel_rfl) atY
theorem azn:aH.1 90=none∧aH.2 90=some ajf∧ajf.code.bD=true:=jh rfl (by kernel_rfl) at0
theorem azo:aH.1 91=none∧aH.2 91=some aoj∧aoj.code.bD=true:=jh rfl (by kernel_rfl) at5
theorem azp:aH.1 92=none∧aH.2 92=some aeK∧aeK.code.bD=true:=jh rfl (by kernel_rfl) at7
theorem azP:aH.1 93=none∧aH.2 93=some aok∧aok.code.bD=true:=jh rfl (by kernel_rfl) aub
theorem azQ:aH.1 94=none∧aH.2 94=some aol∧aol.code.bD=true:=jh rfl (by kernel_rfl) aud
theorem azq:aH.1 95=none∧aH.2 95=some alY∧alY.code.bD=true:=jh rfl (by kernel_rfl) auf
theorem azr:aH.1 96=none∧aH.2 96=some al0∧al0.code.bD=true:=jh rfl (by kernel_rfl) auh
theorem azs:aH.1 97=none∧aH.2 97=some al2∧al2.code.bD=true:=jh rfl (by kernel_rfl) auj
theorem azt:aH.1 98=none∧aH.2 98=some aom∧aom.code.bD=true:=jh rfl (by kernel_rfl) aul
theorem azu:aH.1 99=none∧aH.2 99=some aon∧aon.code.bD=true:=jh rfl (by kernel_rfl) aun
theorem aw3:aH.1 100=none∧aH.2 100=some agJ∧agJ.code.bD=true:=jh rfl (by kernel_rfl) aoq
theorem aw4:aH.1 101=none∧aH.2 101=some agK∧agK.code.bD=true:=jh rfl (by kernel_rfl) aos
theorem azA:aH.1 102=none∧aH.2 102=some agL∧agL.code.bD=true:=jh rfl (by kernel_rfl) aou
theorem aw5:aH.1 103=none∧aH.2 103=some agM∧agM.code.bD=true:=jh rfl (by kernel_rfl) aow
theorem azB:aH.1 104=none∧aH.2 104=some agN∧agN.code.bD=true:=jh rfl (by kernel_rfl) aoy
theorem aw6:aH.1 105=none∧aH.2 105=some Ua∧Ua.code.bD=true:=jh rfl (by kernel_rfl) aoA
theorem aw7:aH.1 106=none∧aH.2 106=some Uc∧Uc.code.bD=true:=jh rfl (by kernel_rfl) aoC
theorem aw8:aH.1 107=none∧aH.2 107=some agO∧agO.code.bD=true:=jh rfl (by kernel_rfl) aoE
theorem aw9:aH.1 108=none∧aH.2 108=some agP∧agP.code.bD=true:=jh rfl (by kernel_rfl) aoG
theorem axa:aH.1 109=none∧aH.2 109=some agQ∧agQ.code.bD=true:=jh rfl (by kernel_rfl) aoI
theorem axb:aH.1 110=none∧aH.2 110=some adt∧adt.code.bD=true:=jh rfl (by kernel_rfl) aoK
theorem axc:aH.1 111=none∧aH.2 111=some adu∧adu.code.bD=true:=jh rfl (by kernel_rfl) aoM
theorem axd:aH.1 112=none∧aH.2 112=some adv∧adv.code.bD=true:=jh rfl (by kernel_rfl) aoO
theorem au2:aH.1 113=none∧aH.2 113=some adw∧adw.code.bD=true:=jh rfl (by kernel_rfl) aoQ
theorem au3:aH.1 114=none∧aH.2 114=some aal∧aal.code.bD=true:=jh rfl (by kernel_rfl) aoS
theorem au4:aH.1 115=none∧aH.2 115=some Rc∧Rc.code.bD=true:=jh rfl (by kernel_rfl) aoU
theorem axe:aH.1 116=none∧aH.2 116=some agT∧agT.code.bD=true:=jh rfl (by kernel_rfl) aoW
theorem axf:aH.1 117=none∧aH.2 117=some agU∧agU.code.bD=true:=jh rfl (by kernel_rfl) aoY
theorem axg:aH.1 118=none∧aH.2 118=some adx∧adx.code.bD=true:=jh rfl (by kernel_rfl) ao0
theorem axh:aH.1 119=none∧aH.2 119=some agV∧agV.code.bD=true:=jh rfl (by kernel_rfl) ao2
theorem axi:aH.1 120=none∧aH.2 120=some agW∧agW.code.bD=true:=jh rfl (by kernel_rfl) ao4
theorem axj:aH.1 121=none∧aH.2 121=some ady∧ady.code.bD=true:=jh rfl (by kernel_rfl) ao6
theorem axk:aH.1 122=none∧aH.2 122=some adz∧adz.code.bD=true:=jh rfl (by kernel_rfl) ao8
theorem axl:aH.1 123=none∧aH.2 123=some adA∧adA.code.bD=true:=jh rfl (by kernel_rfl) apa
theorem axn:aH.1 124=none∧aH.2 124=some agY∧agY.code.bD=true:=jh rfl (by kernel_rfl) apc
theorem axo:aH.1 125=none∧aH.2 125=some agZ∧agZ.code.bD=true:=jh rfl (by kernel_rfl) ape
theorem axp:aH.1 126=none∧aH.2 126=some ag0∧ag0.code.bD=true:=jh rfl (by kernel_rfl) apg
theorem axq:aH.1 127=none∧aH.2 127=some ag1∧ag1.code.bD=true:=jh rfl (by kernel_rfl) apj
theorem axr:aH.1 128=none∧aH.2 128=some ag2∧ag2.code.bD=true:=jh rfl (by kernel_rfl) apl
theorem axt:aH.1 129=none∧aH.2 129=some ag3∧ag3.code.bD=true:=jh rfl (by kernel_rfl) apn
theorem azC:aH.1 130=none∧aH.2 130=some ag4∧ag4.code.bD=true:=jh rfl (by kernel_rfl) apq
theorem azD:aH.1 131=none∧aH.2 131=some ag5∧ag5.code.bD=true:=jh rfl (by kernel_rfl) aps
theorem axu:aH.1 132=none∧aH.2 132=some adB∧adB.code.bD=true:=jh rfl (by kernel_rfl) apu
theorem axv:aH.1 133=none∧aH.2 133=some ag6∧ag6.code.bD=true:=jh rfl (by kernel_rfl) apw
theorem au5:aH.1 134=none∧aH.2 134=some adC∧adC.code.bD=true:=jh rfl (by kernel_rfl) apy
theorem axw:aH.1 135=none∧aH.2 135=some adD∧adD.code.bD=true:=jh rfl (by kernel_rfl) apA
theorem axx:aH.1 136=none∧aH.2 136=some adE∧adE.code.bD=true:=jh rfl (by kernel_rfl) apC
theorem azE:aH.1 137=none∧aH.2 137=some ag7∧ag7.code.bD=true:=jh rfl (by kernel_rfl) apE
theorem axy:aH.1 138=none∧aH.2 138=some adF∧adF.code.bD=true:=jh rfl (by kernel_rfl) apG
theorem axz:aH.1 139=none∧aH.2 139=some XE∧XE.code.bD=true:=jh rfl (by kernel_rfl) apI
theorem axA:aH.1 140=none∧aH.2 140=some ag8∧ag8.code.bD=true:=jh rfl (by kernel_rfl) apK
theorem axB:aH.1 141=none∧aH.2 141=some ag9∧ag9.code.bD=true:=jh rfl (by kernel_rfl) apM
theorem axC:aH.1 142=none∧aH.2 142=some adG∧adG.code.bD=true:=jh rfl (by kernel_rfl) apO
theorem axD:aH.1 143=none∧aH.2 143=some adH∧adH.code.bD=true:=jh rfl (by kernel_rfl) apQ
theorem axE:aH.1 144=none∧aH.2 144=some ahc∧ahc.code.bD=true:=jh rfl (by kernel_rfl) apS
theorem axF:aH.1 145=none∧aH.2 145=some ahd∧ahd.code.bD=true:=jh rfl (by kernel_rfl) apU
theorem axG:aH.1 146=none∧aH.2 146=some ahe∧ahe.code.bD=true:=jh rfl (by kernel_rfl) apW
theorem axH:aH.1 147=none∧aH.2 147=some ahf∧ahf.code.bD=true:=jh rfl (by kernel_rfl) apY
theorem azF:aH.1 148=none∧aH.2 148=some ahg∧ahg.code.bD=true:=jh rfl (by kernel_rfl) ap0
theorem axI:aH.1 149=none∧aH.2 149=some adI∧adI.code.bD=true:=jh rfl (by kernel_rfl) ap2
theorem axJ:aH.1 150=none∧aH.2 150=some ahh∧ahh.code.bD=true:=jh rfl (by kernel_rfl) ap4
theorem axK:aH.1 151=none∧aH.2 151=some ahj∧ahj.code.bD=true:=jh rfl (by kernel_rfl) ap6
theorem axL:aH.1 152=none∧aH.2 152=some ahk∧ahk.code.bD=true:=jh rfl (by kernel_rfl) ap8
theorem axM:aH.1 154=none∧aH.2 154=some ahl∧ahl.code.bD=true:=jh rfl (by kernel_rfl) aqb
theorem azG:aH.1 156=none∧aH.2 156=some ahm∧ahm.code.bD=true:=jh rfl (by kernel_rfl) aqd
theorem azH:aH.1 157=none∧aH.2 157=some ahn∧ahn.code.bD=true:=jh rfl (by kernel_rfl) aqf
theorem azI:aH.1 158=none∧aH.2 158=some aho∧aho.code.bD=true:=jh rfl (by kernel_rfl) aqh
def wBL:List (Nat×Bt):=[(93,.clone 1 1),(94,.clip 1),(102,.clip 1),(104,.clip 5),(130,.clip 2),(131,.clip 4),(137,.clone 2 32),(148,.del 2),(153,.ins 2 32)]
def wB:FuncId→Option Bt:=adJ wBL
theorem avM (d:Nat):∀ p∈wBL,BOk (aF aH (d+1)) p.1 p.2 :=
 List.forall_mem_cons.2 ⟨adb (zero:=[(.int .u8 0)]) rfl (show aH.2 93=some (Ls 1 1 [(.int .u8 0)]) by kernel_rfl),List.forall_mem_cons.2 ⟨N9 rfl (show aH.2 94=some (TQ 1) by kernel_rfl),List.forall_mem_cons.2 ⟨N9 rfl (show aH.2 102=some (TQ 1) by kernel_rfl),List.forall_mem_cons.2 ⟨N9 rfl (show aH.2 104=some (TQ 5) by kernel_rfl),List.forall_mem_cons.2 ⟨N9 rfl (show aH.2 130=some (TQ 2) by kernel_rfl),List.forall_mem_cons.2 ⟨N9 rfl (show aH.2 131=some (TQ 4) by kernel_rfl),List.forall_mem_cons.2 ⟨adb (zero:=[(.str []),(.str [])]) rfl (show aH.2 137=some (Ls 2 32 [(.str []),(.str [])]) by kernel_rfl),List.forall_mem_cons.2 ⟨arK (bytes:=32) (zero:=[(.str []),(.str [])]) rfl rfl (show aH.2 148=some (anA 2 32 [(.str []),(.str [])]) by kernel_rfl),List.forall_mem_cons.2 ⟨arE rfl,(λ_ h=>by cases h)⟩⟩⟩⟩⟩⟩⟩⟩⟩
theorem MK (d:Nat):∀ f b,wB f=some b→BOk (aF aH (d+1)) f b:=λf b h=>avM d (f,b) (Qj h)
end Go.Proofs.YtohoggieaanllaaGreat
