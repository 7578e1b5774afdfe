import Derived.Test.YtohoggieaanllaaGreatJ5
import Derived.Test.YtohoggieaanllaaGreatJ6
import Derived.Test.YtohoggieaanllaaGreatX1
set_option linter.all false
set_option maxRecDepth 100000
namespace Go.Proofs.YtohoggieaanllaaGreat
def V3 {α:Type}:List (Nat×α)→Nat→Option α
 | [],_=>none
 | p::r,n=>match Nat.beq p.1 n with
  | true=>some p.2
  | false=>V3 r n
theorem JN {α:Type}:∀ {l:List (Nat×α)} {n:Nat} {x:α},V3 l n=some x→(n,x)∈l
 | [],n,x,h=>by cases h
 | p::r,n,x,h=>by
  simp only [V3] at h
  split at h
  ·rename_i e
   obtain rfl:=Option.some.inj h
   rw [← Nat.eq_of_beq_eq_true e]
   exact List.mem_cons_self
  ·exact List.mem_cons_of_mem _ (JN h)
noncomputable def ak6:List (Nat×bC):=[(4,WF4),(8,WF8),(10,YJ),(12,adk),(13,afe),(14,aaM),(16,aff),(17,aaP),(19,afg),(32,afh),(33,aaQ),(34,afi),(35,afj),(36,aaR),(37,ado),(43,afk),(44,afl),(45,afm),(46,afn),(47,afo),(48,afp),(49,afq),(50,afr),(51,afs),(55,YM),(56,aft),(57,afu),(58,afv),(59,aaS),(60,adr),(61,adt),(62,afw),(63,adv),(64,YN),(65,YO),(76,afx),(77,aa2),(78,afy),(79,afz),(80,afA),(81,afB),(82,afC),(83,afD),(84,afE),(86,adA),(87,adC),(88,Xb),(89,afF),(90,aa6),(93,afG),(94,afH),(95,adE),(96,adG),(97,adI),(98,afI),(99,afJ),(100,YT),(101,YU),(102,YV),(103,YW),(104,YX),(105,MN),(109,YZ),(110,VF),(111,VG),(112,VH),(113,VJ),(114,Sw),(115,Kz),(116,Y2),(117,Y3),(118,VK),(119,Y4),(120,Y5),(121,VN),(122,VO),(123,VP),(124,Y6),(125,Y7),(126,Y8),(127,Y9),(128,Y_),(129,Za),(130,Zb),(131,Zc),(134,VQ),(135,VT),(136,VU),(137,Zd),(138,VW),(139,PL),(140,Ze),(141,Zf),(142,VX),(143,VY),(144,Zi),(145,Zj),(146,Zk),(147,Zl),(148,Zm),(149,VZ),(150,Zn),(151,Zo),(152,Zp),(153,ak5),(154,Zq),(156,Zr),(157,Zt),(158,Zu)]
noncomputable def ahx:FuncId→Option bC:=V3 ak6
theorem alR:Ph Tryz.prog 155 ovG:=alL (fn:=Tryz.f155) (tS:=38) (tR:=4) (e:=127) (size:=2) Tryz.func155 rfl rfl (by kernel_rfl) (by kernel_rfl) Tryz.underlying38 (by kernel_rfl)
def wGL:List (Nat×(List AV→Heap→Option (AV×Heap))):=[(153,aaJ 2 32)]
def wG:WA:=V3 wGL
theorem alS:∀ p∈wGL,(KZ Tryz.prog p.1∧Sound Tryz.prog p.1 p.2)∨Ph Tryz.prog p.1 p.2 :=
 List.forall_mem_cons.2 ⟨.inl (aaK (hs:=[]) (zero:=[(.str []),(.str [])]) rfl (by decide) (show aS Tryz.prog 153 []=some (Qh 2 32 [(.str []),(.str [])] 155 156) by kernel_rfl) (by decide) alR),(λ_ h=>by cases h)⟩
theorem amt:∀ f g,wG f=some g→(KZ Tryz.prog f∧Sound Tryz.prog f g)∨Ph Tryz.prog f g:=λf g h=>alS (f,g) (JN h)
noncomputable def aH:Tab:=(wG,ahx)
theorem ahy:∀ p∈ak6,∃ h,aS Tryz.prog p.1 h=some p.2 :=
 List.forall_mem_cons.2 ⟨⟨_,alN⟩,List.forall_mem_cons.2 ⟨⟨_,alP⟩,List.forall_mem_cons.2 ⟨⟨_,aiQ⟩,List.forall_mem_cons.2 ⟨⟨_,aiS⟩,List.forall_mem_cons.2 ⟨⟨_,aiU⟩,List.forall_mem_cons.2 ⟨⟨_,aiW⟩,List.forall_mem_cons.2 ⟨⟨_,aiY⟩,List.forall_mem_cons.2 ⟨⟨_,ai0⟩,List.forall_mem_cons.2 ⟨⟨_,ai2⟩,List.forall_mem_cons.2 ⟨⟨_,ai4⟩,List.forall_mem_cons.2 ⟨⟨_,ai6⟩,List.forall_mem_cons.2 ⟨⟨_,ai8⟩,List.forall_mem_cons.2 ⟨⟨_,aja⟩,List.forall_mem_cons.2 ⟨⟨_,ajc⟩,List.forall_mem_cons.2 ⟨⟨_,aje⟩,List.forall_mem_cons.2 ⟨⟨_,ajg⟩,List.forall_mem_cons.2 ⟨⟨_,aji⟩,List.forall_mem_cons.2 ⟨⟨_,ajk⟩,List.forall_mem_cons.2 ⟨⟨_,ajm⟩,List.forall_mem_cons.2 ⟨⟨_,ajo⟩,List.forall_mem_cons.2 ⟨⟨_,ajq⟩,List.forall_mem_cons.2 ⟨⟨_,ajs⟩,List.forall_mem_cons.2 ⟨⟨_,aju⟩,List.forall_mem_cons.2 ⟨⟨_,ajw⟩,List.forall_mem_cons.2 ⟨⟨_,ajy⟩,List.forall_mem_cons.2 ⟨⟨_,ajA⟩,List.forall_mem_cons.2 ⟨⟨_,ajC⟩,List.forall_mem_cons.2 ⟨⟨_,ajE⟩,List.forall_mem_cons.2 ⟨⟨_,ajG⟩,List.forall_mem_cons.2 ⟨⟨_,ajI⟩,List.forall_mem_cons.2 ⟨⟨_,ajK⟩,List.forall_mem_cons.2 ⟨⟨_,ajM⟩,List.forall_mem_cons.2 ⟨⟨_,ajO⟩,List.forall_mem_cons.2 ⟨⟨_,ajQ⟩,List.forall_mem_cons.2 ⟨⟨_,ajS⟩,List.forall_mem_cons.2 ⟨⟨_,ajU⟩,List.forall_mem_cons.2 ⟨⟨_,ajW⟩,List.forall_mem_cons.2 ⟨⟨_,ajY⟩,List.forall_mem_cons.2 ⟨⟨_,aj0⟩,List.forall_mem_cons.2 ⟨⟨_,aj2⟩,List.forall_mem_cons.2 ⟨⟨_,aj4⟩,List.forall_mem_cons.2 ⟨⟨_,aj6⟩,List.forall_mem_cons.2 ⟨⟨_,aj8⟩,List.forall_mem_cons.2 ⟨⟨_,akb⟩,List.forall_mem_cons.2 ⟨⟨_,akd⟩,List.forall_mem_cons.2 ⟨⟨_,akf⟩,List.forall_mem_cons.2 ⟨⟨_,akh⟩,List.forall_mem_cons.2 ⟨⟨_,akj⟩,List.forall_mem_cons.2 ⟨⟨_,akl⟩,List.forall_mem_cons.2 ⟨⟨_,akn⟩,List.forall_mem_cons.2 ⟨⟨_,akp⟩,List.forall_mem_cons.2 ⟨⟨_,akr⟩,List.forall_mem_cons.2 ⟨⟨_,akt⟩,List.forall_mem_cons.2 ⟨⟨_,akv⟩,List.forall_mem_cons.2 ⟨⟨_,akx⟩,List.forall_mem_cons.2 ⟨⟨_,akz⟩,List.forall_mem_cons.2 ⟨⟨_,afK⟩,List.forall_mem_cons.2 ⟨⟨_,afM⟩,List.forall_mem_cons.2 ⟨⟨_,afO⟩,List.forall_mem_cons.2 ⟨⟨_,afQ⟩,List.forall_mem_cons.2 ⟨⟨_,afS⟩,List.forall_mem_cons.2 ⟨⟨_,afU⟩,List.forall_mem_cons.2 ⟨⟨_,afW⟩,List.forall_mem_cons.2 ⟨⟨_,afY⟩,List.forall_mem_cons.2 ⟨⟨_,af0⟩,List.forall_mem_cons.2 ⟨⟨_,af3⟩,List.forall_mem_cons.2 ⟨⟨_,af5⟩,List.forall_mem_cons.2 ⟨⟨_,af7⟩,List.forall_mem_cons.2 ⟨⟨_,af9⟩,List.forall_mem_cons.2 ⟨⟨_,agb⟩,List.forall_mem_cons.2 ⟨⟨_,agd⟩,List.forall_mem_cons.2 ⟨⟨_,agh⟩,List.forall_mem_cons.2 ⟨⟨_,agj⟩,List.forall_mem_cons.2 ⟨⟨_,agl⟩,List.forall_mem_cons.2 ⟨⟨_,agn⟩,List.forall_mem_cons.2 ⟨⟨_,agq⟩,List.forall_mem_cons.2 ⟨⟨_,ags⟩,List.forall_mem_cons.2 ⟨⟨_,agu⟩,List.forall_mem_cons.2 ⟨⟨_,agw⟩,List.forall_mem_cons.2 ⟨⟨_,agy⟩,List.forall_mem_cons.2 ⟨⟨_,agA⟩,List.forall_mem_cons.2 ⟨⟨_,agC⟩,List.forall_mem_cons.2 ⟨⟨_,agE⟩,List.forall_mem_cons.2 ⟨⟨_,agG⟩,List.forall_mem_cons.2 ⟨⟨_,agI⟩,List.forall_mem_cons.2 ⟨⟨_,agK⟩,List.forall_mem_cons.2 ⟨⟨_,agM⟩,List.forall_mem_cons.2 ⟨⟨_,agO⟩,List.forall_mem_cons.2 ⟨⟨_,agQ⟩,List.forall_mem_cons.2 ⟨⟨_,agS⟩,List.forall_mem_cons.2 ⟨⟨_,agU⟩,List.forall_mem_cons.2 ⟨⟨_,agW⟩,List.forall_mem_cons.2 ⟨⟨_,agZ⟩,List.forall_mem_cons.2 ⟨⟨_,ag1⟩,List.forall_mem_cons.2 ⟨⟨_,ag3⟩,List.forall_mem_cons.2 ⟨⟨_,ag5⟩,List.forall_mem_cons.2 ⟨⟨_,ag7⟩,List.forall_mem_cons.2 ⟨⟨_,ag9⟩,List.forall_mem_cons.2 ⟨⟨_,ahb⟩,List.forall_mem_cons.2 ⟨⟨_,ahd⟩,List.forall_mem_cons.2 ⟨⟨_,ahf⟩,List.forall_mem_cons.2 ⟨⟨_,ahh⟩,List.forall_mem_cons.2 ⟨⟨_,ahk⟩,List.forall_mem_cons.2 ⟨⟨_,ahm⟩,List.forall_mem_cons.2 ⟨⟨_,aho⟩,List.forall_mem_cons.2 ⟨⟨_,ahp⟩,List.forall_mem_cons.2 ⟨⟨_,ahr⟩,List.forall_mem_cons.2 ⟨⟨_,aht⟩,List.forall_mem_cons.2 ⟨⟨_,ahv⟩,(λ_ h=>by cases h)⟩⟩⟩⟩⟩⟩⟩⟩⟩⟩⟩⟩⟩⟩⟩⟩⟩⟩⟩⟩⟩⟩⟩⟩⟩⟩⟩⟩⟩⟩⟩⟩⟩⟩⟩⟩⟩⟩⟩⟩⟩⟩⟩⟩⟩⟩⟩⟩⟩⟩⟩⟩⟩⟩⟩⟩⟩⟩⟩⟩⟩⟩⟩⟩⟩⟩⟩⟩⟩⟩⟩⟩⟩⟩⟩⟩⟩⟩⟩⟩⟩⟩⟩⟩⟩⟩⟩⟩⟩⟩⟩⟩⟩⟩⟩⟩⟩⟩⟩⟩⟩⟩⟩⟩⟩⟩⟩⟩⟩
theorem akB {f:FuncId} {x:bC} (h:ahx f=some x):∃ hs,aS Tryz.prog f hs=some x:=ahy (f,x) (JN h)
theorem AF4:aH.1 4=none∧aH.2 4=some WF4∧WF4.code.bB=true:=jI rfl (by kernel_rfl) alO
theorem AF8:aH.1 8=none∧aH.2 8=some WF8∧WF8.code.bB=true:=jI rfl (by kernel_rfl) alQ
theorem anN:aH.1 10=none∧aH.2 10=some YJ∧YJ.code.bB=true:=jI rfl (by kernel_rfl) aiR
theorem anO:aH.1 12=none∧aH.2 12=some adk∧adk.code.bB=true:=jI rfl (by kernel_rfl) aiT
theorem anP:aH.1 13=none∧aH.2 13=some afe∧afe.code.bB=true:=jI rfl (by kernel_rfl) aiV
theorem anQ:aH.1 14=none∧aH.2 14=some aaM∧aaM.code.bB=true:=jI rfl (by kernel_rfl) aiX
theorem anR:aH.1 16=none∧aH.2 16=some aff∧aff.code.bB=true:=jI rfl (by kernel_rfl) aiZ
theorem anS:aH.1 17=none∧aH.2 17=some aaP∧aaP.code.bB=true:=jI rfl (by kernel_rfl) ai1
theorem anT:aH.1 19=none∧aH.2 19=some afg∧afg.code.bB=true:=jI rfl (by kernel_rfl) ai3
theorem anU:aH.1 32=none∧aH.2 32=some afh∧afh.code.bB=true:=jI rfl (by kernel_rfl) ai5
theorem amu:aH.1 33=none∧aH.2 33=some aaQ∧aaQ.code.bB=true:=jI rfl (by kernel_rfl) ai7
theorem anV:aH.1 34=none∧aH.2 34=some afi∧afi.code.bB=true:=jI rfl (by kernel_rfl) ai9
theorem anW:aH.1 35=none∧aH.2 35=some afj∧afj.code.bB=true:=jI rfl (by kernel_rfl) ajb
theorem amv:aH.1 36=none∧aH.2 36=some aaR∧aaR.code.bB=true:=jI rfl (by kernel_rfl) ajd
theorem anX:aH.1 37=none∧aH.2 37=some ado∧ado.code.bB=true:=jI rfl (by kernel_rfl) ajf
theorem anY:aH.1 43=none∧aH.2 43=some afk∧afk.code.bB=true:=jI rfl (by kernel_rfl) ajh
theorem anZ:aH.1 44=none∧aH.2 44=some afl∧afl.code.bB=true:=jI rfl (by kernel_rfl) ajj
theorem an0:aH.1 45=none∧aH.2 45=some afm∧afm.code.bB=true:=jI rfl (by kernel_rfl) ajl
theorem an1:aH.1 46=none∧aH.2 46=some afn∧afn.code.bB=true:=jI rfl (by kernel_rfl) ajn
theorem an2:aH.1 47=none∧aH.2 47=some afo∧afo.code.bB=true:=jI rfl (by kernel_rfl) ajp
theorem an3:aH.1 48=none∧aH.2 48=some afp∧afp.code.bB=true:=jI rfl (by kernel_rfl) ajr
theorem an4:aH.1 49=none∧aH.2 49=some afq∧afq.code.bB=true:=jI rfl (by kernel_rfl) ajt
theorem an5:aH.1 50=none∧aH.2 50=some afr∧afr.code.bB=true:=jI rfl (by kernel_rfl) ajv
theorem an6:aH.1 51=none∧aH.2 51=some afs∧afs.code.bB=true:=jI rfl (by kernel_rfl) ajx
theorem amw:aH.1 55=none∧aH.2 55=some YM∧YM.code.bB=true:=jI rfl (by kernel_rfl) ajz
theorem an7:aH.1 56=none∧aH.2 56=some aft∧aft.code.bB=true:=jI rfl (by kernel_rfl) ajB
theorem an8:aH.1 57=none∧aH.2 57=some afu∧afu.code.bB=true:=jI rfl (by kernel_rfl) ajD
theorem an9:aH.1 58=none∧aH.2 58=some afv∧afv.code.bB=true:=jI rfl (by kernel_rfl) ajF
theorem aoa:aH.1 59=none∧aH.2 59=some aaS∧aaS.code.bB=true:=jI rfl (by kernel_rfl) ajH
theorem aob:aH.1 60=none∧aH.2 60=some adr∧adr.code.bB=true:=jI rfl (by kernel_rfl) ajJ
theorem aoc:aH.1 61=none∧aH.2 61=some adt∧adt.code.bB=true:=jI rfl (by kernel_rfl) ajL
theorem aod:aH.1 62=none∧aH.2 62=some afw∧afw.code.bB=true:=jI rfl (by kernel_rfl) ajN
theorem aoe:aH.1 63=none∧aH.2 63=some adv∧adv.code.bB=true:=jI rfl (by kernel_rfl) ajP
theorem aof:aH.1 64=none∧aH.2 64=some YN∧YN.code.bB=true:=jI rfl (by kernel_rfl) ajR
theorem aog:aH.1 65=none∧aH.2 65=some YO∧YO.code.bB=true:=jI rfl (by kernel_rfl) ajT
theorem aoh:aH.1 76=none∧aH.2 76=some afx∧afx.code.bB=true:=jI rfl (by kernel_rfl) ajV
theorem aoi:aH.1 77=none∧aH.2 77=some aa2∧aa2.code.bB=true:=jI rfl (by kernel_rfl) ajX
theorem aoj:aH.1 78=none∧aH.2 78=some afy∧afy.code.bB=true:=jI rfl (by kernel_rfl) ajZ
theorem aok:aH.1 79=none∧aH.2 79=some afz∧afz.code.bB=true:=jI rfl (by kernel_rfl) aj1
theorem aol:aH.1 80=none∧aH.2 80=some afA∧afA.code.bB=true:=jI rfl (by kernel_rfl) aj3
theorem aom:aH.1 81=none∧aH.2 81=some afB∧afB.code.bB=true:=jI rfl (by kernel_rfl) aj5
theorem aon:aH.1 82=none∧aH.2 82=some afC∧afC.code.bB=true:=jI rfl (by kernel_rfl) aj7
theorem amy:aH.1 83=none∧aH.2 83=some afD∧afD.code.bB=true:=jI rfl (by kernel_rfl) aj9
theorem aoo:aH.1 84=none∧aH.2 84=some afE∧afE.code.bB=true:=jI rfl (by kernel_rfl) akc
theorem aoq:aH.1 86=none∧aH.2 86=some adA∧adA.code.bB=true:=jI rfl (by kernel_rfl) ake
theorem aor:aH.1 87=none∧aH.2 87=some adC∧adC.code.bB=true:=jI rfl (by kernel_rfl) akg
theorem aos:aH.1 88=none∧aH.2 88=some Xb∧Xb.code.bB=true:=jI rfl (by kernel_rfl) aki
theorem aot:aH.1 89=none∧aH.2 89=some afF∧afF.code.bB=true:=jI rfl (by kernel_rfl) akk
theorem aou:aH.1 90=none∧aH.2 90=some aa6∧aa6.code.bB=true:=jI rfl (by kernel_rfl) akm
theorem aoZ:aH.1 93=none∧aH.2 93=some afG∧afG.code.bB=true:=jI rfl (by kernel_rfl) ako
theorem ao0:aH.1 94=none∧aH.2 94=some afH∧afH.code.bB=true:=jI rfl (by kernel_rfl) akq
theorem aov:aH.1 95=none∧aH.2 95=some adE∧adE.code.bB=true:=jI rfl (by kernel_rfl) aks
theorem aow:aH.1 96=none∧aH.2 96=some adG∧adG.code.bB=true:=jI rfl (by kernel_rfl) aku
theorem aox:aH.1 97=none∧aH.2 97=some adI∧adI.code.bB=true:=jI rfl (by kernel_rfl) akw
theorem aoy:aH.1 98=none∧aH.2 98=some afI∧afI.code.bB=true:=jI rfl (by kernel_rfl) aky
theorem aoz:aH.1 99=none∧aH.2 99=some afJ∧afJ.code.bB=true:=jI rfl (by kernel_rfl) akA
theorem amA:aH.1 100=none∧aH.2 100=some YT∧YT.code.bB=true:=jI rfl (by kernel_rfl) afL
theorem amB:aH.1 101=none∧aH.2 101=some YU∧YU.code.bB=true:=jI rfl (by kernel_rfl) afN
theorem aoK:aH.1 102=none∧aH.2 102=some YV∧YV.code.bB=true:=jI rfl (by kernel_rfl) afP
theorem amC:aH.1 103=none∧aH.2 103=some YW∧YW.code.bB=true:=jI rfl (by kernel_rfl) afR
theorem aoL:aH.1 104=none∧aH.2 104=some YX∧YX.code.bB=true:=jI rfl (by kernel_rfl) afT
theorem amD:aH.1 105=none∧aH.2 105=some MN∧MN.code.bB=true:=jI rfl (by kernel_rfl) afV
theorem amE:aH.1 109=none∧aH.2 109=some YZ∧YZ.code.bB=true:=jI rfl (by kernel_rfl) afX
theorem amF:aH.1 110=none∧aH.2 110=some VF∧VF.code.bB=true:=jI rfl (by kernel_rfl) afZ
theorem amG:aH.1 111=none∧aH.2 111=some VG∧VG.code.bB=true:=jI rfl (by kernel_rfl) af2
theorem amH:aH.1 112=none∧aH.2 112=some VH∧VH.code.bB=true:=jI rfl (by kernel_rfl) af4
theorem ak7:aH.1 113=none∧aH.2 113=some VJ∧VJ.code.bB=true:=jI rfl (by kernel_rfl) af6
theorem ak8:aH.1 114=none∧aH.2 114=some Sw∧Sw.code.bB=true:=jI rfl (by kernel_rfl) af8
theorem ak9:aH.1 115=none∧aH.2 115=some Kz∧Kz.code.bB=true:=jI rfl (by kernel_rfl) aga
theorem amI:aH.1 116=none∧aH.2 116=some Y2∧Y2.code.bB=true:=jI rfl (by kernel_rfl) agc
theorem amJ:aH.1 117=none∧aH.2 117=some Y3∧Y3.code.bB=true:=jI rfl (by kernel_rfl) agf
theorem amK:aH.1 118=none∧aH.2 118=some VK∧VK.code.bB=true:=jI rfl (by kernel_rfl) agi
theorem amL:aH.1 119=none∧aH.2 119=some Y4∧Y4.code.bB=true:=jI rfl (by kernel_rfl) agk
theorem amM:aH.1 120=none∧aH.2 120=some Y5∧Y5.code.bB=true:=jI rfl (by kernel_rfl) agm
theorem amN:aH.1 121=none∧aH.2 121=some VN∧VN.code.bB=true:=jI rfl (by kernel_rfl) agp
theorem amO:aH.1 122=none∧aH.2 122=some VO∧VO.code.bB=true:=jI rfl (by kernel_rfl) agr
theorem amP:aH.1 123=none∧aH.2 123=some VP∧VP.code.bB=true:=jI rfl (by kernel_rfl) agt
theorem amQ:aH.1 124=none∧aH.2 124=some Y6∧Y6.code.bB=true:=jI rfl (by kernel_rfl) agv
theorem amR:aH.1 125=none∧aH.2 125=some Y7∧Y7.code.bB=true:=jI rfl (by kernel_rfl) agx
theorem amS:aH.1 126=none∧aH.2 126=some Y8∧Y8.code.bB=true:=jI rfl (by kernel_rfl) agz
theorem amT:aH.1 127=none∧aH.2 127=some Y9∧Y9.code.bB=true:=jI rfl (by kernel_rfl) agB
theorem amU:aH.1 128=none∧aH.2 128=some Y_∧Y_.code.bB=true:=jI rfl (by kernel_rfl) agD
theorem amV:aH.1 129=none∧aH.2 129=some Za∧Za.code.bB=true:=jI rfl (by kernel_rfl) agF
theorem aoM:aH.1 130=none∧aH.2 130=some Zb∧Zb.code.bB=true:=jI rfl (by kernel_rfl) agH
theorem aoN:aH.1 131=none∧aH.2 131=some Zc∧Zc.code.bB=true:=jI rfl (by kernel_rfl) agJ
theorem ala:aH.1 134=none∧aH.2 134=some VQ∧VQ.code.bB=true:=jI rfl (by kernel_rfl) agL
theorem amW:aH.1 135=none∧aH.2 135=some VT∧VT.code.bB=true:=jI rfl (by kernel_rfl) agN
theorem amX:aH.1 136=none∧aH.2 136=some VU∧VU.code.bB=true:=jI rfl (by kernel_rfl) agP
theorem aoO:aH.1 137=none∧aH.2 137=some Zd∧Zd.code.bB=true:=jI rfl (by kernel_rfl) agR
theorem amY:aH.1 138=none∧aH.2 138=some VW∧VW.code.bB=true:=jI rfl (by kernel_rfl) agT
theorem amZ:aH.1 139=none∧aH.2 139=some PL∧PL.code.bB=true:=jI rfl (by kernel_rfl) agV
theorem am0:aH.1 140=none∧aH.2 140=some Ze∧Ze.code.bB=true:=jI rfl (by kernel_rfl) agY
theorem am1:aH.1 141=none∧aH.2 141=some Zf∧Zf.code.bB=true:=jI rfl (by kernel_rfl) ag0
theorem am2:aH.1 142=none∧aH.2 142=some VX∧VX.code.bB=true:=jI rfl (by kernel_rfl) ag2
theorem am3:aH.1 143=none∧aH.2 143=some VY∧VY.code.bB=true:=jI rfl (by kernel_rfl) ag4
theorem am4:aH.1 144=none∧aH.2 144=some Zi∧Zi.code.bB=true:=jI rfl (by kernel_rfl) ag6
theorem am5:aH.1 145=none∧aH.2 145=some Zj∧Zj.code.bB=true:=jI rfl (by kernel_rfl) ag8
theorem am6:aH.1 146=none∧aH.2 146=some Zk∧Zk.code.bB=true:=jI rfl (by kernel_rfl) aha
theorem am7:aH.1 147=none∧aH.2 147=some Zl∧Zl.code.bB=true:=jI rfl (by kernel_rfl) ahc
theorem aoP:aH.1 148=none∧aH.2 148=some Zm∧Zm.code.bB=true:=jI rfl (by kernel_rfl) ahe
theorem am8:aH.1 149=none∧aH.2 149=some VZ∧VZ.code.bB=true:=jI rfl (by kernel_rfl) ahg
theorem am9:aH.1 150=none∧aH.2 150=some Zn∧Zn.code.bB=true:=jI rfl (by kernel_rfl) ahj
theorem ana:aH.1 151=none∧aH.2 151=some Zo∧Zo.code.bB=true:=jI rfl (by kernel_rfl) ahl
theorem anb:aH.1 152=none∧aH.2 152=some Zp∧Zp.code.bB=true:=jI rfl (by kernel_rfl) ahn
theorem ane:aH.1 154=none∧aH.2 154=some Zq∧Zq.code.bB=true:=jI rfl (by kernel_rfl) ahq
theorem aoQ:aH.1 156=none∧aH.2 156=some Zr∧Zr.code.bB=true:=jI rfl (by kernel_rfl) ahs
theorem aoR:aH.1 157=none∧aH.2 157=some Zt∧Zt.code.bB=true:=jI rfl (by kernel_rfl) ahu
theorem aoS:aH.1 158=none∧aH.2 158=some Zu∧Zu.code.bB=true:=jI rfl (by kernel_rfl) ahw
def wBL:List (Nat×Bt):=[(93,.clone 1 1),(94,.clip 1),(102,.clip 1),(104,.clip 5),(130,.clip 2),(131,.clip 4),(137,.clone 2 32),(148,.del 2),(153,.ins 2 32)]
def wB:FuncId→Option Bt:=V3 wBL
theorem alT (d:Nat):∀ p∈wBL,Z6 (aG aH (d+1)) p.1 p.2 :=
 List.forall_mem_cons.2 ⟨Vt (zero:=[(.int .u8 0)]) rfl (show aH.2 93=some (FC 1 1 [(.int .u8 0)]) by kernel_rfl),List.forall_mem_cons.2 ⟨HZ rfl (show aH.2 94=some (MG 1) by kernel_rfl),List.forall_mem_cons.2 ⟨HZ rfl (show aH.2 102=some (MG 1) by kernel_rfl),List.forall_mem_cons.2 ⟨HZ rfl (show aH.2 104=some (MG 5) by kernel_rfl),List.forall_mem_cons.2 ⟨HZ rfl (show aH.2 130=some (MG 2) by kernel_rfl),List.forall_mem_cons.2 ⟨HZ rfl (show aH.2 131=some (MG 4) by kernel_rfl),List.forall_mem_cons.2 ⟨Vt (zero:=[(.str []),(.str [])]) rfl (show aH.2 137=some (FC 2 32 [(.str []),(.str [])]) by kernel_rfl),List.forall_mem_cons.2 ⟨aiP (bytes:=32) (zero:=[(.str []),(.str [])]) rfl rfl (show aH.2 148=some (afc 2 32 [(.str []),(.str [])]) by kernel_rfl),List.forall_mem_cons.2 ⟨aiJ rfl,(λ_ h=>by cases h)⟩⟩⟩⟩⟩⟩⟩⟩⟩
theorem Gj (d:Nat):∀ f b,wB f=some b→Z6 (aG aH (d+1)) f b:=λf b h=>alT d (f,b) (JN h)
end Go.Proofs.YtohoggieaanllaaGreat
