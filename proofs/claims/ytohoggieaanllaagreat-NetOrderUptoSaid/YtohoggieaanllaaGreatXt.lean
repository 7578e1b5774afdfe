import Derived.Test.YtohoggieaanllaaGreatJ5
import Derived.Test.YtohoggieaanllaaGreatJ6
import Derived.Test.YtohoggieaanllaaGreatX1
set_option linter.all false
set_option maxRecDepth 100000
namespace Go.Proofs.YtohoggieaanllaaGreat
def ac6 {α:Type}:List (Nat×α)→Nat→Option α
 | [],_=>none
 | p::r,n=>match Nat.beq p.1 n with
  | true=>some p.2
  | false=>ac6 r n
theorem PK {α:Type}:∀ {l:List (Nat×α)} {n:Nat} {x:α},ac6 l n=some x→(n,x)∈l
 | [],n,x,h=>by cases h
 | p::r,n,x,h=>by
  simp only [ac6] at h
  split at h
  ·rename_i e
   obtain rfl:=Option.some.inj h
   rw [← Nat.eq_of_beq_eq_true e]
   exact List.mem_cons_self
  ·exact List.mem_cons_of_mem _ (PK h)
noncomputable def au7:List (Nat×bC):=[(5,WF5),(8,WF8),(10,afT),(11,ad1),(12,ald),(13,anx),(14,aif),(16,anz),(17,aik),(20,ail),(21,alg),(22,anA),(23,anB),(24,anC),(25,alh),(27,alj),(32,anD),(33,aiq),(34,anE),(35,anF),(36,air),(37,alk),(38,ais),(40,anG),(41,anH),(42,ait),(43,anI),(44,anJ),(45,anK),(46,anL),(47,anM),(48,anN),(49,anO),(50,anP),(51,anQ),(52,anR),(53,anS),(54,anT),(55,afW),(56,anU),(57,anV),(58,anW),(59,aiw),(60,alr),(61,alu),(62,anX),(63,alx),(64,afX),(65,afY),(66,anY),(68,anZ),(69,an0),(70,alC),(71,ad3),(72,an1),(73,an2),(74,an3),(76,an4),(77,aiI),(78,an5),(79,an6),(80,an7),(81,an8),(82,an9),(83,aoa),(84,aob),(85,alF),(86,alH),(87,alJ),(88,ad5),(89,aoc),(90,aiN),(91,aod),(92,ad7),(93,aoe),(94,aof),(95,alN),(96,alP),(97,alR),(98,aog),(99,aoh),(100,af6),(101,af7),(102,af8),(103,af9),(104,aga),(105,Tp),(106,Tt),(107,agb),(108,agc),(109,agd),(110,acQ),(111,acR),(112,acS),(113,acT),(114,ZA),(115,QC),(116,agi),(117,agj),(118,acU),(119,agk),(120,agl),(121,acV),(122,acW),(123,acX),(124,agm),(125,agn),(126,agp),(127,agq),(128,agr),(129,ags),(130,agt),(131,agu),(132,acY),(133,agv),(134,acZ),(135,ac0),(136,ac1),(137,agw),(138,ac2),(139,WS),(140,agx),(141,agy),(142,ac3),(143,ac4),(144,agB),(145,agC),(146,agD),(147,agE),(148,agF),(149,ac5),(150,agG),(151,agH),(152,agI),(153,au6),(154,agJ),(156,agK),(157,agL),(158,agM)]
noncomputable def aqc:FuncId→Option bC:=ac6 au7
theorem avO:Wq Tryz.prog 155 ovG:=avI (fn:=Tryz.f155) (tS:=38) (tR:=4) (e:=127) (size:=2) Tryz.func155 rfl rfl (by kernel_rfl) (by kernel_rfl) Tryz.underlying38 (by kernel_rfl)
def wGL:List (Nat×(List AV→Heap→Option (AV×Heap))):=[(153,ah7 2 32)]
def wG:adF:=ac6 wGL
theorem avP:∀ p∈wGL,(Rb Tryz.prog p.1∧Sound Tryz.prog p.1 p.2)∨Wq Tryz.prog p.1 p.2 :=
 List.forall_mem_cons.2 ⟨.inl (ah8 (hs:=[]) (zero:=[(.str []),(.str [])]) rfl (by decide) (show aR Tryz.prog 153 []=some (Xu 2 32 [(.str []),(.str [])] 155 156) by kernel_rfl) (by decide) avO),(λ_ h=>by cases h)⟩
theorem awE:∀ f g,wG f=some g→(Rb Tryz.prog f∧Sound Tryz.prog f g)∨Wq Tryz.prog f g:=λf g h=>avP (f,g) (PK h)
noncomputable def aH:Tab:=(wG,aqc)
theorem aqd:∀ p∈au7,∃ h,aR Tryz.prog p.1 h=some p.2 :=
 List.forall_mem_cons.2 ⟨⟨_,avK⟩,List.forall_mem_cons.2 ⟨⟨_,avM⟩,List.forall_mem_cons.2 ⟨⟨_,arH⟩,List.forall_mem_cons.2 ⟨⟨_,arJ⟩,List.forall_mem_cons.2 ⟨⟨_,arL⟩,List.forall_mem_cons.2 ⟨⟨_,arN⟩,List.forall_mem_cons.2 ⟨⟨_,arP⟩,List.forall_mem_cons.2 ⟨⟨_,arR⟩,List.forall_mem_cons.2 ⟨⟨_,arT⟩,List.forall_mem_cons.2 ⟨⟨_,arV⟩,List.forall_mem_cons.2 ⟨⟨_,arX⟩,List.forall_mem_cons.2 ⟨⟨_,arZ⟩,List.forall_mem_cons.2 ⟨⟨_,ar1⟩,List.forall_mem_cons.2 ⟨⟨_,ar3⟩,List.forall_mem_cons.2 ⟨⟨_,ar5⟩,List.forall_mem_cons.2 ⟨⟨_,ar7⟩,List.forall_mem_cons.2 ⟨⟨_,ar9⟩,List.forall_mem_cons.2 ⟨⟨_,asb⟩,List.forall_mem_cons.2 ⟨⟨_,ase⟩,List.forall_mem_cons.2 ⟨⟨_,asg⟩,List.forall_mem_cons.2 ⟨⟨_,asi⟩,List.forall_mem_cons.2 ⟨⟨_,asl⟩,List.forall_mem_cons.2 ⟨⟨_,aso⟩,List.forall_mem_cons.2 ⟨⟨_,asr⟩,List.forall_mem_cons.2 ⟨⟨_,asv⟩,List.forall_mem_cons.2 ⟨⟨_,asx⟩,List.forall_mem_cons.2 ⟨⟨_,asz⟩,List.forall_mem_cons.2 ⟨⟨_,asB⟩,List.forall_mem_cons.2 ⟨⟨_,asD⟩,List.forall_mem_cons.2 ⟨⟨_,asF⟩,List.forall_mem_cons.2 ⟨⟨_,asH⟩,List.forall_mem_cons.2 ⟨⟨_,asJ⟩,List.forall_mem_cons.2 ⟨⟨_,asL⟩,List.forall_mem_cons.2 ⟨⟨_,asN⟩,List.forall_mem_cons.2 ⟨⟨_,asP⟩,List.forall_mem_cons.2 ⟨⟨_,asR⟩,List.forall_mem_cons.2 ⟨⟨_,asT⟩,List.forall_mem_cons.2 ⟨⟨_,asV⟩,List.forall_mem_cons.2 ⟨⟨_,asX⟩,List.forall_mem_cons.2 ⟨⟨_,asZ⟩,List.forall_mem_cons.2 ⟨⟨_,as1⟩,List.forall_mem_cons.2 ⟨⟨_,as3⟩,List.forall_mem_cons.2 ⟨⟨_,as5⟩,List.forall_mem_cons.2 ⟨⟨_,as7⟩,List.forall_mem_cons.2 ⟨⟨_,as9⟩,List.forall_mem_cons.2 ⟨⟨_,atb⟩,List.forall_mem_cons.2 ⟨⟨_,atd⟩,List.forall_mem_cons.2 ⟨⟨_,atf⟩,List.forall_mem_cons.2 ⟨⟨_,ath⟩,List.forall_mem_cons.2 ⟨⟨_,atj⟩,List.forall_mem_cons.2 ⟨⟨_,atm⟩,List.forall_mem_cons.2 ⟨⟨_,ato⟩,List.forall_mem_cons.2 ⟨⟨_,atq⟩,List.forall_mem_cons.2 ⟨⟨_,att⟩,List.forall_mem_cons.2 ⟨⟨_,atv⟩,List.forall_mem_cons.2 ⟨⟨_,atx⟩,List.forall_mem_cons.2 ⟨⟨_,atz⟩,List.forall_mem_cons.2 ⟨⟨_,atB⟩,List.forall_mem_cons.2 ⟨⟨_,atD⟩,List.forall_mem_cons.2 ⟨⟨_,atF⟩,List.forall_mem_cons.2 ⟨⟨_,atH⟩,List.forall_mem_cons.2 ⟨⟨_,atK⟩,List.forall_mem_cons.2 ⟨⟨_,atM⟩,List.forall_mem_cons.2 ⟨⟨_,atO⟩,List.forall_mem_cons.2 ⟨⟨_,atQ⟩,List.forall_mem_cons.2 ⟨⟨_,atT⟩,List.forall_mem_cons.2 ⟨⟨_,atV⟩,List.forall_mem_cons.2 ⟨⟨_,atX⟩,List.forall_mem_cons.2 ⟨⟨_,atZ⟩,List.forall_mem_cons.2 ⟨⟨_,at1⟩,List.forall_mem_cons.2 ⟨⟨_,at6⟩,List.forall_mem_cons.2 ⟨⟨_,aua⟩,List.forall_mem_cons.2 ⟨⟨_,auc⟩,List.forall_mem_cons.2 ⟨⟨_,aue⟩,List.forall_mem_cons.2 ⟨⟨_,aug⟩,List.forall_mem_cons.2 ⟨⟨_,aui⟩,List.forall_mem_cons.2 ⟨⟨_,auk⟩,List.forall_mem_cons.2 ⟨⟨_,aum⟩,List.forall_mem_cons.2 ⟨⟨_,auo⟩,List.forall_mem_cons.2 ⟨⟨_,auq⟩,List.forall_mem_cons.2 ⟨⟨_,aus⟩,List.forall_mem_cons.2 ⟨⟨_,aoi⟩,List.forall_mem_cons.2 ⟨⟨_,aok⟩,List.forall_mem_cons.2 ⟨⟨_,aom⟩,List.forall_mem_cons.2 ⟨⟨_,aoo⟩,List.forall_mem_cons.2 ⟨⟨_,aor⟩,List.forall_mem_cons.2 ⟨⟨_,aot⟩,List.forall_mem_cons.2 ⟨⟨_,aov⟩,List.forall_mem_cons.2 ⟨⟨_,aox⟩,List.forall_mem_cons.2 ⟨⟨_,aoz⟩,List.forall_mem_cons.2 ⟨⟨_,aoB⟩,List.forall_mem_cons.2 ⟨⟨_,aoD⟩,List.forall_mem_cons.2 ⟨⟨_,aoF⟩,List.forall_mem_cons.2 ⟨⟨_,aoH⟩,List.forall_mem_cons.2 ⟨⟨_,aoJ⟩,List.forall_mem_cons.2 ⟨⟨_,aoL⟩,List.forall_mem_cons.2 ⟨⟨_,aoN⟩,List.forall_mem_cons.2 ⟨⟨_,aoP⟩,List.forall_mem_cons.2 ⟨⟨_,aoR⟩,List.forall_mem_cons.2 ⟨⟨_,aoT⟩,List.forall_mem_cons.2 ⟨⟨_,aoV⟩,List.forall_mem_cons.2 ⟨⟨_,aoX⟩,List.forall_mem_cons.2 ⟨⟨_,aoZ⟩,List.forall_mem_cons.2 ⟨⟨_,ao1⟩,List.forall_mem_cons.2 ⟨⟨_,ao3⟩,List.forall_mem_cons.2 ⟨⟨_,ao5⟩,List.forall_mem_cons.2 ⟨⟨_,ao7⟩,List.forall_mem_cons.2 ⟨⟨_,ao9⟩,List.forall_mem_cons.2 ⟨⟨_,apb⟩,List.forall_mem_cons.2 ⟨⟨_,apd⟩,List.forall_mem_cons.2 ⟨⟨_,apf⟩,List.forall_mem_cons.2 ⟨⟨_,aph⟩,List.forall_mem_cons.2 ⟨⟨_,apk⟩,List.forall_mem_cons.2 ⟨⟨_,apm⟩,List.forall_mem_cons.2 ⟨⟨_,apo⟩,List.forall_mem_cons.2 ⟨⟨_,apr⟩,List.forall_mem_cons.2 ⟨⟨_,apt⟩,List.forall_mem_cons.2 ⟨⟨_,apv⟩,List.forall_mem_cons.2 ⟨⟨_,apx⟩,List.forall_mem_cons.2 ⟨⟨_,apz⟩,List.forall_mem_cons.2 ⟨⟨_,apB⟩,List.forall_mem_cons.2 ⟨⟨_,apD⟩,List.forall_mem_cons.2 ⟨⟨_,apF⟩,List.forall_mem_cons.2 ⟨⟨_,apH⟩,List.forall_mem_cons.2 ⟨⟨_,apJ⟩,List.forall_mem_cons.2 ⟨⟨_,apL⟩,List.forall_mem_cons.2 ⟨⟨_,apN⟩,List.forall_mem_cons.2 ⟨⟨_,apP⟩,List.forall_mem_cons.2 ⟨⟨_,apR⟩,List.forall_mem_cons.2 ⟨⟨_,apT⟩,List.forall_mem_cons.2 ⟨⟨_,apV⟩,List.forall_mem_cons.2 ⟨⟨_,apX⟩,List.forall_mem_cons.2 ⟨⟨_,apZ⟩,List.forall_mem_cons.2 ⟨⟨_,ap1⟩,List.forall_mem_cons.2 ⟨⟨_,ap3⟩,List.forall_mem_cons.2 ⟨⟨_,ap4⟩,List.forall_mem_cons.2 ⟨⟨_,ap6⟩,List.forall_mem_cons.2 ⟨⟨_,ap8⟩,List.forall_mem_cons.2 ⟨⟨_,aqa⟩,(λ_ h=>by cases h)⟩⟩⟩⟩⟩⟩⟩⟩⟩⟩⟩⟩⟩⟩⟩⟩⟩⟩⟩⟩⟩⟩⟩⟩⟩⟩⟩⟩⟩⟩⟩⟩⟩⟩⟩⟩⟩⟩⟩⟩⟩⟩⟩⟩⟩⟩⟩⟩⟩⟩⟩⟩⟩⟩⟩⟩⟩⟩⟩⟩⟩⟩⟩⟩⟩⟩⟩⟩⟩⟩⟩⟩⟩⟩⟩⟩⟩⟩⟩⟩⟩⟩⟩⟩⟩⟩⟩⟩⟩⟩⟩⟩⟩⟩⟩⟩⟩⟩⟩⟩⟩⟩⟩⟩⟩⟩⟩⟩⟩⟩⟩⟩⟩⟩⟩⟩⟩⟩⟩⟩⟩⟩⟩⟩⟩⟩⟩⟩⟩⟩⟩⟩⟩⟩⟩⟩⟩⟩⟩
theorem auu {f:FuncId} {x:bC} (h:aqc f=some x):∃ hs,aR Tryz.prog f hs=some x:=aqd (f,x) (PK h)
theorem AF5:aH.1 5=none∧aH.2 5=some WF5∧WF5.code.bB=true:=iN rfl (by kernel_rfl) avL
theorem AF8:aH.1 8=none∧aH.2 8=some WF8∧WF8.code.bB=true:=iN rfl (by kernel_rfl) avN
theorem axW:aH.1 10=none∧aH.2 10=some afT∧afT.code.bB=true:=iN rfl (by kernel_rfl) arI
theorem axX:aH.1 11=none∧aH.2 11=some ad1∧ad1.code.bB=true:=iN rfl (by kernel_rfl) arK
theorem axY:aH.1 12=none∧aH.2 12=some ald∧ald.code.bB=true:=iN rfl (by kernel_rfl) arM
theorem axZ:aH.1 13=none∧aH.2 13=some anx∧anx.code.bB=true:=iN rfl (by kernel_rfl) arO
theorem ax0:aH.1 14=none∧aH.2 14=some aif∧aif.code.bB=true:=iN rfl (by kernel_rfl) arQ
theorem ax1:aH.1 16=none∧aH.2 16=some anz∧anz.code.bB=true:=iN rfl (by kernel_rfl) arS
theorem ax2:aH.1 17=none∧aH.2 17=some aik∧aik.code.bB=true:=iN rfl (by kernel_rfl) arU
theorem awF:aH.1 20=none∧aH.2 20=some ail∧ail.code.bB=true:=iN rfl (by kernel_rfl) arW
theorem ax3:aH.1 21=none∧aH.2 21=some alg∧alg.code.bB=true:=iN rfl (by kernel_rfl) arY
theorem ax4:aH.1 22=none∧aH.2 22=some anA∧anA.code.bB=true:=iN rfl (by kernel_rfl) ar0
theorem ax5:aH.1 23=none∧aH.2 23=some anB∧anB.code.bB=true:=iN rfl (by kernel_rfl) ar2
theorem ax6:aH.1 24=none∧aH.2 24=some anC∧anC.code.bB=true:=iN rfl (by kernel_rfl) ar4
theorem ax7:aH.1 25=none∧aH.2 25=some alh∧alh.code.bB=true:=iN rfl (by kernel_rfl) ar6
theorem ax8:aH.1 27=none∧aH.2 27=some alj∧alj.code.bB=true:=iN rfl (by kernel_rfl) ar8
theorem ax9:aH.1 32=none∧aH.2 32=some anD∧anD.code.bB=true:=iN rfl (by kernel_rfl) asa
theorem awG:aH.1 33=none∧aH.2 33=some aiq∧aiq.code.bB=true:=iN rfl (by kernel_rfl) asc
theorem aya:aH.1 34=none∧aH.2 34=some anE∧anE.code.bB=true:=iN rfl (by kernel_rfl) asf
theorem ayb:aH.1 35=none∧aH.2 35=some anF∧anF.code.bB=true:=iN rfl (by kernel_rfl) ash
theorem awH:aH.1 36=none∧aH.2 36=some air∧air.code.bB=true:=iN rfl (by kernel_rfl) asj
theorem ayc:aH.1 37=none∧aH.2 37=some alk∧alk.code.bB=true:=iN rfl (by kernel_rfl) asn
theorem awI:aH.1 38=none∧aH.2 38=some ais∧ais.code.bB=true:=iN rfl (by kernel_rfl) asq
theorem ayd:aH.1 40=none∧aH.2 40=some anG∧anG.code.bB=true:=iN rfl (by kernel_rfl) asu
theorem aye:aH.1 41=none∧aH.2 41=some anH∧anH.code.bB=true:=iN rfl (by kernel_rfl) asw
theorem ayf:aH.1 42=none∧aH.2 42=some ait∧ait.code.bB=true:=iN rfl (by kernel_rfl) asy
theorem ayg:aH.1 43=none∧aH.2 43=some anI∧anI.code.bB=true:=iN rfl (by kernel_rfl) asA
theorem ayh:aH.1 44=none∧aH.2 44=some anJ∧anJ.code.bB=true:=iN rfl (by kernel_rfl) asC
theorem ayi:aH.1 45=none∧aH.2 45=some anK∧anK.code.bB=true:=iN rfl (by kernel_rfl) asE
theorem ayj:aH.1 46=none∧aH.2 46=some anL∧anL.code.bB=true:=iN rfl (by kernel_rfl) asG
theorem ayk:aH.1 47=none∧aH.2 47=some anM∧anM.code.bB=true:=iN rfl (by kernel_rfl) asI
theorem ayl:aH.1 48=none∧aH.2 48=some anN∧anN.code.bB=true:=iN rfl (by kernel_rfl) asK
theorem aym:aH.1 49=none∧aH.2 49=some anO∧anO.code.bB=true:=iN rfl (by kernel_rfl) asM
theorem ayn:aH.1 50=none∧aH.2 50=some anP∧anP.code.bB=true:=iN rfl (by kernel_rfl) asO
theorem ayo:aH.1 51=none∧aH.2 51=some anQ∧anQ.code.bB=true:=iN rfl (by kernel_rfl) asQ
theorem ayp:aH.1 52=none∧aH.2 52=some anR∧anR.code.bB=true:=iN rfl (by kernel_rfl) asS
theorem ayq:aH.1 53=none∧aH.2 53=some anS∧anS.code.bB=true:=iN rfl (by kernel_rfl) asU
theorem ayr:aH.1 54=none∧aH.2 54=some anT∧anT.code.bB=true:=iN rfl (by kernel_rfl) asW
theorem awJ:aH.1 55=none∧aH.2 55=some afW∧afW.code.bB=true:=iN rfl (by kernel_rfl) asY
theorem ays:aH.1 56=none∧aH.2 56=some anU∧anU.code.bB=true:=iN rfl (by kernel_rfl) as0
theorem ayt:aH.1 57=none∧aH.2 57=some anV∧anV.code.bB=true:=iN rfl (by kernel_rfl) as2
theorem ayu:aH.1 58=none∧aH.2 58=some anW∧anW.code.bB=true:=iN rfl (by kernel_rfl) as4
theorem ayv:aH.1 59=none∧aH.2 59=some aiw∧aiw.code.bB=true:=iN rfl (by kernel_rfl) as6
theorem ayw:aH.1 60=none∧aH.2 60=some alr∧alr.code.bB=true:=iN rfl (by kernel_rfl) as8
theorem ayx:aH.1 61=none∧aH.2 61=some alu∧alu.code.bB=true:=iN rfl (by kernel_rfl) ata
theorem ayy:aH.1 62=none∧aH.2 62=some anX∧anX.code.bB=true:=iN rfl (by kernel_rfl) atc
theorem ayz:aH.1 63=none∧aH.2 63=some alx∧alx.code.bB=true:=iN rfl (by kernel_rfl) ate
theorem ayA:aH.1 64=none∧aH.2 64=some afX∧afX.code.bB=true:=iN rfl (by kernel_rfl) atg
theorem ayB:aH.1 65=none∧aH.2 65=some afY∧afY.code.bB=true:=iN rfl (by kernel_rfl) ati
theorem ayC:aH.1 66=none∧aH.2 66=some anY∧anY.code.bB=true:=iN rfl (by kernel_rfl) atl
theorem ayD:aH.1 68=none∧aH.2 68=some anZ∧anZ.code.bB=true:=iN rfl (by kernel_rfl) atn
theorem ayE:aH.1 69=none∧aH.2 69=some an0∧an0.code.bB=true:=iN rfl (by kernel_rfl) atp
theorem ayF:aH.1 70=none∧aH.2 70=some alC∧alC.code.bB=true:=iN rfl (by kernel_rfl) atr
theorem ayG:aH.1 71=none∧aH.2 71=some ad3∧ad3.code.bB=true:=iN rfl (by kernel_rfl) atu
theorem ayH:aH.1 72=none∧aH.2 72=some an1∧an1.code.bB=true:=iN rfl (by kernel_rfl) atw
theorem azo:aH.1 73=none∧aH.2 73=some an2∧an2.code.bB=true:=iN rfl (by kernel_rfl) aty
theorem azp:aH.1 74=none∧aH.2 74=some an3∧an3.code.bB=true:=iN rfl (by kernel_rfl) atA
theorem ayI:aH.1 76=none∧aH.2 76=some an4∧an4.code.bB=true:=iN rfl (by kernel_rfl) atC
theorem ayJ:aH.1 77=none∧aH.2 77=some aiI∧aiI.code.bB=true:=iN rfl (by kernel_rfl) atE
theorem ayK:aH.1 78=none∧aH.2 78=some an5∧an5.code.bB=true:=iN rfl (by kernel_rfl) atG
theorem ayL:aH.1 79=none∧aH.2 79=some an6∧an6.code.bB=true:=iN rfl (by kernel_rfl) atJ
theorem ayM:aH.1 80=none∧aH.2 80=some an7∧an7.code.bB=true:=iN rfl (by kernel_rfl) atL
theorem ayN:aH.1 81=none∧aH.2 81=some an8∧an8.code.bB=true:=iN rfl (by kernel_rfl) atN
theorem ayO:aH.1 82=none∧aH.2 82=some an9∧an9.code.bB=true:=iN rfl (by kernel_rfl) atP
theorem awK:aH.1 83=none∧aH.2 83=some aoa∧aoa.code.bB=true:=iN rfl (by kernel_rfl) atS
theorem ayP:aH.1 84=none∧aH.2 84=some aob∧aob.code.bB=true:=iN rfl (by kernel_rfl) atU
theorem ayQ:aH.1 85=none∧aH.2 85=some alF∧alF.code.bB=true:=iN rfl (by kernel_rfl) atW
theorem ayR:aH.1 86=none∧aH.2 86=some alH∧alH.code.bB=true:=iN rfl (by kernel_rfl) atY
theorem ayS:aH.1 87=none∧aH.2 87=some alJ∧alJ.code.bB=true:=iN rfl (by kernel_rfl) at0
theorem ayT:aH.1 88=none∧aH.2 88=some ad5∧ad5.code.bB=true:=iN rfl (by kernel_rfl) at5
theorem ayU:aH.1 89=none∧aH.2 89=some aoc∧aoc.code.bB=true:=iN rfl (by kernel_rfl) at7
theorem ayV:aH.1 90=none∧aH.2 90=some aiN∧aiN.code.bB=true:=iN rfl (by kernel_rfl) aub
theorem ayW:aH.1 91=none∧aH.2 91=some aod∧aod.code.bB=true:=iN rfl (by kernel_rfl) aud
theorem ayX:aH.1 92=none∧aH.2 92=some ad7∧ad7.code.bB=true:=iN rfl (by kernel_rfl) auf
theorem azq:aH.1 93=none∧aH.2 93=some aoe∧aoe.code.bB=true:=iN rfl (by kernel_rfl) auh
theorem azr:aH.1 94=none∧aH.2 94=some aof∧aof.code.bB=true:=iN rfl (by kernel_rfl) auj
theorem ayY:aH.1 95=none∧aH.2 95=some alN∧alN.code.bB=true:=iN rfl (by kernel_rfl) aul
theorem ayZ:aH.1 96=none∧aH.2 96=some alP∧alP.code.bB=true:=iN rfl (by kernel_rfl) aun
theorem ay0:aH.1 97=none∧aH.2 97=some alR∧alR.code.bB=true:=iN rfl (by kernel_rfl) aup
theorem ay1:aH.1 98=none∧aH.2 98=some aog∧aog.code.bB=true:=iN rfl (by kernel_rfl) aur
theorem ay2:aH.1 99=none∧aH.2 99=some aoh∧aoh.code.bB=true:=iN rfl (by kernel_rfl) aut
theorem awL:aH.1 100=none∧aH.2 100=some af6∧af6.code.bB=true:=iN rfl (by kernel_rfl) aoj
theorem awM:aH.1 101=none∧aH.2 101=some af7∧af7.code.bB=true:=iN rfl (by kernel_rfl) aol
theorem ay9:aH.1 102=none∧aH.2 102=some af8∧af8.code.bB=true:=iN rfl (by kernel_rfl) aon
theorem awN:aH.1 103=none∧aH.2 103=some af9∧af9.code.bB=true:=iN rfl (by kernel_rfl) aoq
theorem aza:aH.1 104=none∧aH.2 104=some aga∧aga.code.bB=true:=iN rfl (by kernel_rfl) aos
theorem awO:aH.1 105=none∧aH.2 105=some Tp∧Tp.code.bB=true:=iN rfl (by kernel_rfl) aou
theorem awP:aH.1 106=none∧aH.2 106=some Tt∧Tt.code.bB=true:=iN rfl (by kernel_rfl) aow
theorem awQ:aH.1 107=none∧aH.2 107=some agb∧agb.code.bB=true:=iN rfl (by kernel_rfl) aoy
theorem awR:aH.1 108=none∧aH.2 108=some agc∧agc.code.bB=true:=iN rfl (by kernel_rfl) aoA
theorem awS:aH.1 109=none∧aH.2 109=some agd∧agd.code.bB=true:=iN rfl (by kernel_rfl) aoC
theorem awT:aH.1 110=none∧aH.2 110=some acQ∧acQ.code.bB=true:=iN rfl (by kernel_rfl) aoE
theorem awU:aH.1 111=none∧aH.2 111=some acR∧acR.code.bB=true:=iN rfl (by kernel_rfl) aoG
theorem awV:aH.1 112=none∧aH.2 112=some acS∧acS.code.bB=true:=iN rfl (by kernel_rfl) aoI
theorem au8:aH.1 113=none∧aH.2 113=some acT∧acT.code.bB=true:=iN rfl (by kernel_rfl) aoK
theorem au9:aH.1 114=none∧aH.2 114=some ZA∧ZA.code.bB=true:=iN rfl (by kernel_rfl) aoM
theorem ava:aH.1 115=none∧aH.2 115=some QC∧QC.code.bB=true:=iN rfl (by kernel_rfl) aoO
theorem awW:aH.1 116=none∧aH.2 116=some agi∧agi.code.bB=true:=iN rfl (by kernel_rfl) aoQ
theorem awX:aH.1 117=none∧aH.2 117=some agj∧agj.code.bB=true:=iN rfl (by kernel_rfl) aoS
theorem awY:aH.1 118=none∧aH.2 118=some acU∧acU.code.bB=true:=iN rfl (by kernel_rfl) aoU
theorem awZ:aH.1 119=none∧aH.2 119=some agk∧agk.code.bB=true:=iN rfl (by kernel_rfl) aoW
theorem aw0:aH.1 120=none∧aH.2 120=some agl∧agl.code.bB=true:=iN rfl (by kernel_rfl) aoY
theorem aw1:aH.1 121=none∧aH.2 121=some acV∧acV.code.bB=true:=iN rfl (by kernel_rfl) ao0
theorem aw2:aH.1 122=none∧aH.2 122=some acW∧acW.code.bB=true:=iN rfl (by kernel_rfl) ao2
theorem aw3:aH.1 123=none∧aH.2 123=some acX∧acX.code.bB=true:=iN rfl (by kernel_rfl) ao4
theorem aw4:aH.1 124=none∧aH.2 124=some agm∧agm.code.bB=true:=iN rfl (by kernel_rfl) ao6
theorem aw5:aH.1 125=none∧aH.2 125=some agn∧agn.code.bB=true:=iN rfl (by kernel_rfl) ao8
theorem aw6:aH.1 126=none∧aH.2 126=some agp∧agp.code.bB=true:=iN rfl (by kernel_rfl) apa
theorem aw7:aH.1 127=none∧aH.2 127=some agq∧agq.code.bB=true:=iN rfl (by kernel_rfl) apc
theorem aw8:aH.1 128=none∧aH.2 128=some agr∧agr.code.bB=true:=iN rfl (by kernel_rfl) ape
theorem aw9:aH.1 129=none∧aH.2 129=some ags∧ags.code.bB=true:=iN rfl (by kernel_rfl) apg
theorem azb:aH.1 130=none∧aH.2 130=some agt∧agt.code.bB=true:=iN rfl (by kernel_rfl) apj
theorem azc:aH.1 131=none∧aH.2 131=some agu∧agu.code.bB=true:=iN rfl (by kernel_rfl) apl
theorem axa:aH.1 132=none∧aH.2 132=some acY∧acY.code.bB=true:=iN rfl (by kernel_rfl) apn
theorem axb:aH.1 133=none∧aH.2 133=some agv∧agv.code.bB=true:=iN rfl (by kernel_rfl) apq
theorem avb:aH.1 134=none∧aH.2 134=some acZ∧acZ.code.bB=true:=iN rfl (by kernel_rfl) aps
theorem axc:aH.1 135=none∧aH.2 135=some ac0∧ac0.code.bB=true:=iN rfl (by kernel_rfl) apu
theorem axd:aH.1 136=none∧aH.2 136=some ac1∧ac1.code.bB=true:=iN rfl (by kernel_rfl) apw
theorem azd:aH.1 137=none∧aH.2 137=some agw∧agw.code.bB=true:=iN rfl (by kernel_rfl) apy
theorem axe:aH.1 138=none∧aH.2 138=some ac2∧ac2.code.bB=true:=iN rfl (by kernel_rfl) apA
theorem axf:aH.1 139=none∧aH.2 139=some WS∧WS.code.bB=true:=iN rfl (by kernel_rfl) apC
theorem axg:aH.1 140=none∧aH.2 140=some agx∧agx.code.bB=true:=iN rfl (by kernel_rfl) apE
theorem axh:aH.1 141=none∧aH.2 141=some agy∧agy.code.bB=true:=iN rfl (by kernel_rfl) apG
theorem axi:aH.1 142=none∧aH.2 142=some ac3∧ac3.code.bB=true:=iN rfl (by kernel_rfl) apI
theorem axj:aH.1 143=none∧aH.2 143=some ac4∧ac4.code.bB=true:=iN rfl (by kernel_rfl) apK
theorem axk:aH.1 144=none∧aH.2 144=some agB∧agB.code.bB=true:=iN rfl (by kernel_rfl) apM
theorem axl:aH.1 145=none∧aH.2 145=some agC∧agC.code.bB=true:=iN rfl (by kernel_rfl) apO
theorem axn:aH.1 146=none∧aH.2 146=some agD∧agD.code.bB=true:=iN rfl (by kernel_rfl) apQ
theorem axo:aH.1 147=none∧aH.2 147=some agE∧agE.code.bB=true:=iN rfl (by kernel_rfl) apS
theorem aze:aH.1 148=none∧aH.2 148=some agF∧agF.code.bB=true:=iN rfl (by kernel_rfl) apU
theorem axp:aH.1 149=none∧aH.2 149=some ac5∧ac5.code.bB=true:=iN rfl (by kernel_rfl) apW
theorem axq:aH.1 150=none∧aH.2 150=some agG∧agG.code.bB=true:=iN rfl (by kernel_rfl) apY
theorem axr:aH.1 151=none∧aH.2 151=some agH∧agH.code.bB=true:=iN rfl (by kernel_rfl) ap0
theorem axt:aH.1 152=none∧aH.2 152=some agI∧agI.code.bB=true:=iN rfl (by kernel_rfl) ap2
theorem axu:aH.1 154=none∧aH.2 154=some agJ∧agJ.code.bB=true:=iN rfl (by kernel_rfl) ap5
theorem azf:aH.1 156=none∧aH.2 156=some agK∧agK.code.bB=true:=iN rfl (by kernel_rfl) ap7
theorem azg:aH.1 157=none∧aH.2 157=some agL∧agL.code.bB=true:=iN rfl (by kernel_rfl) ap9
theorem azh:aH.1 158=none∧aH.2 158=some agM∧agM.code.bB=true:=iN rfl (by kernel_rfl) aqb
def wBL:List (Nat×Bt):=[(73,.del 1),(74,.clip 23),(93,.clone 1 1),(94,.clip 1),(102,.clip 1),(104,.clip 5),(130,.clip 2),(131,.clip 4),(137,.clone 2 32),(148,.del 2),(153,.ins 2 32)]
def wB:FuncId→Option Bt:=ac6 wBL
theorem avQ (d:Nat):∀ p∈wBL,BOk (aB aH (d+1)) p.1 p.2 :=
 List.forall_mem_cons.2 ⟨akd (bytes:=24) (zero:=[(.slice none 1 0 0 true)]) rfl rfl (show aH.2 73=some (ak9 1 24 [(.slice none 1 0 0 true)]) by kernel_rfl),List.forall_mem_cons.2 ⟨JC rfl (show aH.2 74=some (Qx 23) by kernel_rfl),List.forall_mem_cons.2 ⟨acD (zero:=[(.int .u8 0)]) rfl (show aH.2 93=some (KQ 1 1 [(.int .u8 0)]) by kernel_rfl),List.forall_mem_cons.2 ⟨JC rfl (show aH.2 94=some (Qx 1) by kernel_rfl),List.forall_mem_cons.2 ⟨JC rfl (show aH.2 102=some (Qx 1) by kernel_rfl),List.forall_mem_cons.2 ⟨JC rfl (show aH.2 104=some (Qx 5) by kernel_rfl),List.forall_mem_cons.2 ⟨JC rfl (show aH.2 130=some (Qx 2) by kernel_rfl),List.forall_mem_cons.2 ⟨JC rfl (show aH.2 131=some (Qx 4) by kernel_rfl),List.forall_mem_cons.2 ⟨acD (zero:=[(.str []),(.str [])]) rfl (show aH.2 137=some (KQ 2 32 [(.str []),(.str [])]) by kernel_rfl),List.forall_mem_cons.2 ⟨akd (bytes:=32) (zero:=[(.str []),(.str [])]) rfl rfl (show aH.2 148=some (ak9 2 32 [(.str []),(.str [])]) by kernel_rfl),List.forall_mem_cons.2 ⟨arB rfl,(λ_ h=>by cases h)⟩⟩⟩⟩⟩⟩⟩⟩⟩⟩⟩
theorem Hz (d:Nat):∀ f b,wB f=some b→BOk (aB aH (d+1)) f b:=λf b h=>avQ d (f,b) (PK h)
end Go.Proofs.YtohoggieaanllaaGreat
