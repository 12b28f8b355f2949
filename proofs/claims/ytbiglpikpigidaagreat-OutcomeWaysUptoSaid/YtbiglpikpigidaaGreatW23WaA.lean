/- The types of OutcomeWays and facts on them. -/
import Derived.Test.YtbiglpikpigidaaGreatL3
import Derived.Test.YtbiglpikpigidaaGreatProg
set_option linter.unusedVariables false
set_option linter.unusedSimpArgs false
set_option maxRecDepth 100000
set_option maxHeartbeats 4000000
namespace Go.Sw
open Option renaming some→AC
open Bool renaming false→AD,true→AE
open List renaming length→AI
open Go renaming Value→AL,Oper→AM
open List(map)
open Int(toNat)
open Go.IntKind(i64 u64 u8)
open Go.Proofs Tryz
abbrev eI:Int->AA A:=Ys .i64
abbrev EB:=@runUnderlying73
abbrev EC:=@sizeOf3
abbrev ED:=@runUnderlying51
abbrev EE:=@runUnderlying34
abbrev EF:=@isAgg3
abbrev EG:=@sizeOf77
abbrev EH:=@sizeOf120
abbrev EI:=@runUnderlying37
abbrev EJ:=@runUnderlying91
abbrev EK:=@zeroValue83
abbrev EL:=@runUnderlying24
abbrev EM:=@underlying137
abbrev EN:=@runUnderlying268
abbrev EO:=@sizeOf41
abbrev EP:=@sizeOf73
abbrev EQ:=@runUnderlying44
abbrev ES:=@runUnderlying36
abbrev ET:=@runUnderlying42
abbrev EU:=@runUnderlying443
abbrev EV:=@zeroValue3
abbrev EW:=@sizeOf66
abbrev EX:=@runUnderlying279
abbrev EY:=@sizeOf98
abbrev EZ:=@runUnderlying201
abbrev E0:=@underlying414
abbrev E3:=@runUnderlying230
abbrev E4:=@runUnderlying3
abbrev E5:=@runUnderlying120
abbrev E6:=@sizeOf209
abbrev E7:=@zeroValue4
abbrev E8:=@runUnderlying131
abbrev E9:=@runUnderlying447
abbrev Ga:=@sizeOf5
abbrev Gb:=@runUnderlying23
abbrev Gd:=@sizeOf139
abbrev Ge:=@sizeOf83
abbrev Gf:=@sizeOf50
abbrev Gg:=@isAgg77
abbrev Gh:=@runUnderlying9
abbrev Gi:=@runUnderlying5
abbrev Gj:=@sizeOf200
abbrev Gk:=@runUnderlying395
abbrev Gm:=@runUnderlying270
abbrev Gn:=@runUnderlying305
abbrev Gp:=@underlying9
abbrev Gq:=@isAgg73
abbrev Gr:=@runUnderlying83
abbrev Gs:=@zeroValue145
abbrev Gu:=@underlying3
abbrev Gv:=@underlying292
abbrev Gw:=@underlying133
abbrev Gy:=@runUnderlying139
abbrev Gz:=@runUnderlying132
abbrev GA:=@runUnderlying142
abbrev GB:=@runUnderlying102
abbrev GC:=@runUnderlying174
abbrev GD:=@runUnderlying425
abbrev GE:=@isAgg200
abbrev GF:=@sizeOf4
abbrev GG:=@runUnderlying64
abbrev GH:=@runUnderlying29
abbrev GI:=@runUnderlying55
abbrev GJ:=@runUnderlying77
abbrev GK:=@runUnderlying98
abbrev GL:=@isAgg41
abbrev GM:=@isAgg128
abbrev GN:=@sizeOf221
abbrev GO:=@sizeOf110
abbrev GQ:=@sizeOf128
abbrev GR:=@runUnderlying209
abbrev GS:=@sizeOf75
abbrev GT:=@runUnderlying272
abbrev GU:=@runUnderlying223
abbrev GV:=@runUnderlying50
abbrev GW:=@runUnderlying41
abbrev GX:=@sizeOf114
abbrev GY:=@runUnderlying4
abbrev GZ:=@sizeOf257
abbrev G1:=@sizeOf145
abbrev G2:=@sizeOf104
abbrev G3:=@sizeOf100
abbrev G4:=@underlying29
abbrev G5:=@sizeOf447
abbrev G6:=@zeroValue443
abbrev G7:=@sizeOf284
theorem DD:prog.follows .mixedOrders=true:=by rfl
structure AQ where
  A8:Int
  A6:Int
  A5:Int
  Ak:Int
  BC:Int
  deriving DecidableEq
def AQ.c(x:AQ):AA Go.Sw.A:=[I x.A8,I x.A6,I x.A5,I x.Ak,I x.BC]
structure Al where
  Ao:List UInt8
  AX:Int
  deriving DecidableEq
def Al.c(x:Al):AA Go.Sw.A:=[.str x.Ao,I x.AX]
structure Cp where
  BA:Int
  To:Int
  Bl:Int
  Bq:Int
  deriving DecidableEq
def Cp.c(x:Cp):AA Go.Sw.A:=[I x.BA,I x.To,I x.Bl,I x.Bq]
structure CG where
  Al:Int
  As:Int
  Ad:List CG
mutual
def CG.enc:CG->AA A
  |⟨x0,x1,x2⟩=>[I x0,I x1,.q 3 (CG.encs x2)]
def CG.encs:AA CG->AA (AA A)
  |[]=>[]
  |x::l=>CG.enc x::CG.encs l
end
theorem ur(l:AA CG):CG.encs l=map CG.enc l:=by induction l with|nil=>simp[CG.encs]|cons x l h=>simp[CG.encs,h]
def CG.c(x:CG):AA Go.Sw.A:=[I x.Al,I x.As,.q 3 (map CG.enc x.Ad)]
theorem QM(x:CG):CG.enc x=CG.c x:=by cases x;simp[CG.enc,CG.c,ur]
structure CO where
  Al:Int
  B8:Int
  Bt:Int
  deriving DecidableEq
def CO.c(x:CO):AA Go.Sw.A:=[I x.Al,I x.B8,I x.Bt]
structure AN where
  Ao:List UInt8
  Ae:List CG
  BI:Int
  Aq:List CO
  Am:Int
def AN.c(x:AN):AA Go.Sw.A:=[.str x.Ao,.q 3 (map CG.enc x.Ae),I x.BI,.q 3 (map CO.c x.Aq),I x.Am]
structure A2 where
  Ao:List UInt8
  B9:Int
  deriving DecidableEq
def A2.c(x:A2):AA Go.Sw.A:=[.str x.Ao,I x.B9]
structure AZ where
  Ao:List UInt8
  BW:Int
  As:Int
  A':Bool
  deriving DecidableEq
def AZ.c(x:AZ):AA Go.Sw.A:=[.str x.Ao,I x.BW,I x.As,.b x.A']
structure AW where
  Ao:List UInt8
  BA:Int
  To:Int
  deriving DecidableEq
def AW.c(x:AW):AA Go.Sw.A:=[.str x.Ao,I x.BA,I x.To]
structure CQ where
  AN:Int
  AW:Int
  B0:Int
  BO:Int
  deriving DecidableEq
def CQ.c(x:CQ):AA Go.Sw.A:=[I x.AN,I x.AW,I x.B0,I x.BO]
structure AS where
  AX:Int
  Bw:Int
  N:Int
  Ad:List AS
mutual
def AS.enc:AS->AA A
  |⟨x0,x1,x2,x3⟩=>[I x0,I x1,I x2,.q 4 (AS.encs x3)]
def AS.encs:AA AS->AA (AA A)
  |[]=>[]
  |x::l=>AS.enc x::AS.encs l
end
theorem uz(l:AA AS):AS.encs l=map AS.enc l:=by induction l with|nil=>simp[AS.encs]|cons x l h=>simp[AS.encs,h]
def AS.c(x:AS):AA Go.Sw.A:=[I x.AX,I x.Bw,I x.N,.q 4 (map AS.enc x.Ad)]
theorem Ji(x:AS):AS.enc x=AS.c x:=by cases x;simp[AS.enc,AS.c,uz]
structure AY where
  AX:Int
  By:Int
  AS:AS
  BY:List AY
  Bf:List AY
mutual
def AY.enc:AY->AA A
  |⟨x0,x1,x2,x3,x4⟩=>[I x0,I x1,I x2.AX,I x2.Bw,I x2.N,.q 4 (map AS.enc x2.Ad),.q 8 (AY.encs x3),.q 8 (AY.encs x4)]
def AY.encs:AA AY->AA (AA A)
  |[]=>[]
  |x::l=>AY.enc x::AY.encs l
end
theorem uv(l:AA AY):AY.encs l=map AY.enc l:=by induction l with|nil=>simp[AY.encs]|cons x l h=>simp[AY.encs,h]
def AY.c(x:AY):AA Go.Sw.A:=[I x.AX,I x.By,I x.AS.AX,I x.AS.Bw,I x.AS.N,.q 4 (map AS.enc x.AS.Ad),.q 8 (map AY.enc x.BY),.q 8 (map AY.enc x.Bf)]
theorem Yt(x:AY):AY.enc x=AY.c x:=by cases x;simp[AY.enc,AY.c,uv]
structure CA where
  Ao:List UInt8
  Ar:List Al
  Az:List Cp
  AP:List AN
  A0:List A2
  Ab:List AZ
  AV:List AW
  Ay:List CQ
  BN:List AY
  AQ:AQ
  Bj:Int
  Av:Int
def CA.c(x:CA):AA Go.Sw.A:=[.str x.Ao,.q 2 (map Al.c x.Ar),.q 4 (map Cp.c x.Az),.q 5 (map AN.c x.AP),.q 2 (map A2.c x.A0),.q 4 (map AZ.c x.Ab),.q 3 (map AW.c x.AV),.q 4 (map CQ.c x.Ay),.q 8 (map AY.enc x.BN),I x.AQ.A8,I x.AQ.A6,I x.AQ.A5,I x.AQ.Ak,I x.AQ.BC,I x.Bj,I x.Av]
structure AO where
  BT:Int
  AN:Int
  A2:Int
  BM:Int
  B5:Int
  BB:Int
  Bk:Int
  B4:Int
  deriving DecidableEq
def AO.c(x:AO):AA Go.Sw.A:=[I x.BT,I x.AN,I x.A2,I x.BM,I x.B5,I x.BB,I x.Bk,I x.B4]
structure A4 where
  Al:Int
  Ag:Int
  BB:Int
  BD:Int
  deriving DecidableEq
def A4.c(x:A4):AA Go.Sw.A:=[I x.Al,I x.Ag,I x.BB,I x.BD]
structure Aa where
  Al:Int
  Ag:Int
  BD:Int
  True:Int
  B6:Int
  deriving DecidableEq
def Aa.c(x:Aa):AA Go.Sw.A:=[I x.Al,I x.Ag,I x.BD,I x.True,I x.B6]
structure An where
  Bs:Int
  Be:Int
  Ba:Int
  Br:Int
  Bc:Int
  BZ:Int
  Bl:Int
  Bq:Int
  deriving DecidableEq
def An.c(x:An):AA Go.Sw.A:=[I x.Bs,I x.Be,I x.Ba,I x.Br,I x.Bc,I x.BZ,I x.Bl,I x.Bq]
structure Ac where
  BT:Int
  AT:Int
  Lo:Int
  Hi:Int
  deriving DecidableEq
def Ac.c(x:Ac):AA Go.Sw.A:=[I x.BT,I x.AT,I x.Lo,I x.Hi]
structure Ap where
  Al:Int
  Ag:Int
  Lo:Int
  Hi:Int
  deriving DecidableEq
def Ap.c(x:Ap):AA Go.Sw.A:=[I x.Al,I x.Ag,I x.Lo,I x.Hi]
structure Bb where
  A:Int
  B:Int
  deriving DecidableEq
def Bb.c(x:Bb):AA Go.Sw.A:=[I x.A,I x.B]
structure Aj where
  BK:Int
  BT:Int
  AZ:Int
  AT:Int
  deriving DecidableEq
def Aj.c(x:Aj):AA Go.Sw.A:=[I x.BK,I x.BT,I x.AZ,I x.AT]
structure Au where
  BK:Int
  By:Int
  Bj:Int
  B2:Int
  deriving DecidableEq
def Au.c(x:Au):AA Go.Sw.A:=[I x.BK,I x.By,I x.Bj,I x.B2]
structure Af where
  BK:Int
  BU:Int
  AX:Int
  BT:Int
  AT:Int
  BO:Int
  deriving DecidableEq
def Af.c(x:Af):AA Go.Sw.A:=[I x.BK,I x.BU,I x.AX,I x.BT,I x.AT,I x.BO]
structure BE where
  BK:Int
  Bg:Bool
  deriving DecidableEq
def BE.c(x:BE):AA Go.Sw.A:=[I x.BK,.b x.Bg]
structure Ly where
  BF:Int
  No:Int
  deriving DecidableEq
def Ly.c(x:Ly):AA Go.Sw.A:=[I x.BF,I x.No]
structure CH where
  BF:Int
  No:Int
  At:Int
  AX:Int
  AO:AO
  A4:A4
  Aa:Aa
  An:An
  Ac:Ac
  Ap:Ap
  Bb:Bb
  Aj:Aj
  Au:Au
  Af:Af
  BE:BE
  Bo:Ly
  deriving DecidableEq
def CH.c(x:CH):AA Go.Sw.A:=[I x.BF,I x.No,I x.At,I x.AX,I x.AO.BT,I x.AO.AN,I x.AO.A2,I x.AO.BM,I x.AO.B5,I x.AO.BB,I x.AO.Bk,I x.AO.B4,I x.A4.Al,I x.A4.Ag,I x.A4.BB,I x.A4.BD,I x.Aa.Al,I x.Aa.Ag,I x.Aa.BD,I x.Aa.True,I x.Aa.B6,I x.An.Bs,I x.An.Be,I x.An.Ba,I x.An.Br,I x.An.Bc,I x.An.BZ,I x.An.Bl,I x.An.Bq,I x.Ac.BT,I x.Ac.AT,I x.Ac.Lo,I x.Ac.Hi,I x.Ap.Al,I x.Ap.Ag,I x.Ap.Lo,I x.Ap.Hi,I x.Bb.A,I x.Bb.B,I x.Aj.BK,I x.Aj.BT,I x.Aj.AZ,I x.Aj.AT,I x.Au.BK,I x.Au.By,I x.Au.Bj,I x.Au.B2,I x.Af.BK,I x.Af.BU,I x.Af.AX,I x.Af.BT,I x.Af.AT,I x.Af.BO,I x.BE.BK,.b x.BE.Bg,I x.Bo.BF,I x.Bo.No]
structure CB where
  A':Bool
  A_:Int
  Lo:Int
  Hi:Int
  deriving DecidableEq
def CB.c(x:CB):AA Go.Sw.A:=[.b x.A',I x.A_,I x.Lo,I x.Hi]
abbrev Uz:CB:={A':=AD,A_:=0,Lo:=0,Hi:=0}
structure CE where
  AT:Int
  BW:Int
  As:Int
  A':Bool
  deriving DecidableEq
def CE.c(x:CE):AA Go.Sw.A:=[I x.AT,I x.BW,I x.As,.b x.A']
abbrev UA:CG:={Al:=0,As:=0,Ad:=[]}
abbrev Uu:AN:={Ao:=[],Ae:=[],BI:=0,Aq:=[],Am:=0}
abbrev Us:AS:={AX:=0,Bw:=0,N:=0,Ad:=[]}
abbrev UI:AY:={AX:=0,By:=0,AS:=Us,BY:=[],Bf:=[]}
abbrev Uw:AQ:={A8:=0,A6:=0,A5:=0,Ak:=0,BC:=0}
abbrev Ut:CA:={Ao:=[],Ar:=[],Az:=[],AP:=[],A0:=[],Ab:=[],AV:=[],Ay:=[],BN:=[],AQ:=Uw,Bj:=0,Av:=0}
structure CC where
  Al:Int
  Ag:Int
  BJ:Int
  deriving DecidableEq
def CC.c(x:CC):AA Go.Sw.A:=[I x.Al,I x.Ag,I x.BJ]
structure CD where
  AR:List CC
  BP:List (List Int)
  deriving DecidableEq
def CD.c(x:CD):AA Go.Sw.A:=[.q 3 (map CC.c x.AR),.q 1 (map (Qu 1 eI) x.BP)]
structure CL where
  Al:Int
  Ag:Int
  BB:Int
  BQ:Int
  A7:Int
  deriving DecidableEq
def CL.c(x:CL):AA Go.Sw.A:=[I x.Al,I x.Ag,I x.BB,I x.BQ,I x.A7]
structure Ui where
  A3:CA
  Bh:CD
  Ai:AO
  Bu:List CL
  Bp:List Ac
  Bi:List CE
  BV:Int
  Aw:Int
def Ui.c(x:Ui):AA Go.Sw.A:=[.str x.A3.Ao,.q 2 (map Al.c x.A3.Ar),.q 4 (map Cp.c x.A3.Az),.q 5 (map AN.c x.A3.AP),.q 2 (map A2.c x.A3.A0),.q 4 (map AZ.c x.A3.Ab),.q 3 (map AW.c x.A3.AV),.q 4 (map CQ.c x.A3.Ay),.q 8 (map AY.enc x.A3.BN),I x.A3.AQ.A8,I x.A3.AQ.A6,I x.A3.AQ.A5,I x.A3.AQ.Ak,I x.A3.AQ.BC,I x.A3.Bj,I x.A3.Av,.q 3 (map CC.c x.Bh.AR),.q 1 (map (Qu 1 eI) x.Bh.BP),I x.Ai.BT,I x.Ai.AN,I x.Ai.A2,I x.Ai.BM,I x.Ai.B5,I x.Ai.BB,I x.Ai.Bk,I x.Ai.B4,.q 5 (map CL.c x.Bu),.q 4 (map Ac.c x.Bp),.q 4 (map CE.c x.Bi),I x.BV,I x.Aw]
abbrev UH:AO:={BT:=0,AN:=0,A2:=0,BM:=0,B5:=0,BB:=0,Bk:=0,B4:=0}
abbrev FO:Ui:={A3:=Ut,Bh:={AR:=[],BP:=[]:CD},Ai:=UH,Bu:=[],Bp:=[],Bi:=[],BV:=0,Aw:=0}
structure Ul where
  BX:Int
  to_:Int
  deriving DecidableEq
def Ul.c(x:Ul):AA Go.Sw.A:=[I x.BX,I x.to_]
structure Up where
  B3:Int
  Bz:Int
  B':Int
  deriving DecidableEq
def Up.c(x:Up):AA Go.Sw.A:=[I x.B3,I x.Bz,I x.B']
structure Uq where
  AY:AY
def Uq.c(x:Uq):AA Go.Sw.A:=[I x.AY.AX,I x.AY.By,I x.AY.AS.AX,I x.AY.AS.Bw,I x.AY.AS.N,.q 4 (map AS.enc x.AY.AS.Ad),.q 8 (map AY.enc x.AY.BY),.q 8 (map AY.enc x.AY.Bf)]
structure Uj where
  AS:AS
def Uj.c(x:Uj):AA Go.Sw.A:=[I x.AS.AX,I x.AS.Bw,I x.AS.N,.q 4 (map AS.enc x.AS.Ad)]
inductive Um where
  |ctyping_step (x:Uq)
  |ctyping_cond (x:Uj)
def Um.val:Um->A
  |.ctyping_step x=>.iface 425 (.a (Uq.c x))
  |.ctyping_cond x=>.iface 443 (.a (Uj.c x))
def Um.enc(x:Um):AA A:=[x.val]
def Um.elim{R:Type}(e:Um)(f0:Uq->AB R)(f1:Uj->AB R):AB R:=match e with
  |.ctyping_step x=>f0 x
  |.ctyping_cond x=>f1 x
theorem Um.data(x:Um):YL x.val=true:=by cases x<;>rfl
theorem JM(e:Um):(∃x,e=.ctyping_step x)\/(∃x,e=.ctyping_cond x):=by cases e<;>simp
theorem Jy{R:Type}{e:Um}{x:Uq}{f0:Uq->AB R}{f1:Uj->AB R}{r:R}(hE:e=.ctyping_step x)(h:Um.elim e f0 f1=AC r):f0 x=AC r:=by subst hE;exact h
theorem Jw{R:Type}{e:Um}{x:Uj}{f0:Uq->AB R}{f1:Uj->AB R}{r:R}(hE:e=.ctyping_cond x)(h:Um.elim e f0 f1=AC r):f1 x=AC r:=by subst hE;exact h
structure Uk where
  BG:Int
  BH:Int
  deriving DecidableEq
def Uk.c(x:Uk):AA Go.Sw.A:=[I x.BG,I x.BH]
structure Ua where
  mat:Int
  BS:Int
  deriving DecidableEq
def Ua.c(x:Ua):AA Go.Sw.A:=[I x.mat,I x.BS]
structure CJ where
  Lo:Int
  Hi:Int
  deriving DecidableEq
def CJ.c(x:CJ):AA Go.Sw.A:=[I x.Lo,I x.Hi]
structure Ue where
  Ah:Int
  A9:CJ
  deriving DecidableEq
def Ue.c(x:Ue):AA Go.Sw.A:=[I x.Ah,I x.A9.Lo,I x.A9.Hi]
structure Ub where
  BX:Int
  to_:Int
  deriving DecidableEq
def Ub.c(x:Ub):AA Go.Sw.A:=[I x.BX,I x.to_]
structure Ud where
  B7:Int
  mat:Int
  BS:Int
  deriving DecidableEq
def Ud.c(x:Ud):AA Go.Sw.A:=[I x.B7,I x.mat,I x.BS]
structure Uf where
  mat:Int
  BS:Int
  deriving DecidableEq
def Uf.c(x:Uf):AA Go.Sw.A:=[I x.mat,I x.BS]
structure Uh where
  Bm:Int
  Bv:Ue
  row:Int
  deriving DecidableEq
def Uh.c(x:Uh):AA Go.Sw.A:=[I x.Bm,I x.Bv.Ah,I x.Bv.A9.Lo,I x.Bv.A9.Hi,I x.row]
abbrev DV:Uh:={Bm:=0,Bv:={Ah:=0,A9:={Lo:=0,Hi:=0:CJ}:Ue},row:=0}
structure CU where
  BL:List Int
  A7:Int
  deriving DecidableEq
def CU.c(x:CU):AA Go.Sw.A:=[.q 1 (map eI x.BL),I x.A7]
abbrev Uy:Ac:={BT:=0,AT:=0,Lo:=0,Hi:=0}
abbrev UB:CE:={AT:=0,BW:=0,As:=0,A':=AD}
structure Edge where
  BA:Int
  To:Int
  W:Int
  deriving DecidableEq
def Edge.c(x:Edge):AA Go.Sw.A:=[I x.BA,I x.To,I x.W]
abbrev UD:A4:={Al:=0,Ag:=0,BB:=0,BD:=0}
abbrev Ur:Aa:={Al:=0,Ag:=0,BD:=0,True:=0,B6:=0}
abbrev UJ:An:={Bs:=0,Be:=0,Ba:=0,Br:=0,Bc:=0,BZ:=0,Bl:=0,Bq:=0}
abbrev UG:Ap:={Al:=0,Ag:=0,Lo:=0,Hi:=0}
abbrev UE:Aj:={BK:=0,BT:=0,AZ:=0,AT:=0}
abbrev UC:Au:={BK:=0,By:=0,Bj:=0,B2:=0}
abbrev UF:Af:={BK:=0,BU:=0,AX:=0,BT:=0,AT:=0,BO:=0}
abbrev Uv:CH:={BF:=0,No:=0,At:=0,AX:=0,AO:=UH,A4:=UD,Aa:=Ur,An:=UJ,Ac:=Uy,Ap:=UG,Bb:={A:=0,B:=0:Bb},Aj:=UE,Au:=UC,Af:=UF,BE:={BK:=0,Bg:=AD:BE},Bo:={BF:=0,No:=0:Ly}}
structure AL where
  AX:Int
  N:Int
  S:List UInt8
  L:List AL
mutual
def Value.enc:AL->AA A
  |⟨x0,x1,x2,x3⟩=>[I x0,I x1,.str x2,.q 4 (Value.encs x3)]
def Value.encs:AA AL->AA (AA A)
  |[]=>[]
  |x::l=>Value.enc x::Value.encs l
end
theorem Qgs(l:AA AL):Value.encs l=map Value.enc l:=by induction l with|nil=>simp[Value.encs]|cons x l h=>simp[Value.encs,h]
def Value.c(x:AL):AA Go.Sw.A:=[I x.AX,I x.N,.str x.S,.q 4 (map Value.enc x.L)]
theorem nB(x:AL):Value.enc x=Value.c x:=by cases x;simp[Value.enc,Value.c,Qgs]
abbrev UK:AL:={AX:=0,N:=0,S:=[],L:=[]}
structure Cm where
  Ax:Int
  Bn:List Edge
  deriving DecidableEq
def Cm.c(x:Cm):AA Go.Sw.A:=[I x.Ax,.q 3 (map Edge.c x.Bn)]
structure CV where
  K:CD
  S:AO
  BL:List CL
  B_:List Ac
  P:List CE
  deriving DecidableEq
def CV.c(x:CV):AA Go.Sw.A:=[.q 3 (map CC.c x.K.AR),.q 1 (map (Qu 1 eI) x.K.BP),I x.S.BT,I x.S.AN,I x.S.A2,I x.S.BM,I x.S.B5,I x.S.BB,I x.S.Bk,I x.S.B4,.q 5 (map CL.c x.BL),.q 4 (map Ac.c x.B_),.q 4 (map CE.c x.P)]
abbrev Ca:CV:={K:={AR:=[],BP:=[]:CD},S:=UH,BL:=[],B_:=[],P:=[]}
instance Jm:ElemTy prog 51 77 4:=⟨ED,EG,⟨_,zeroValue77,rfl⟩,⟨_,typeInfo77,by decide⟩⟩
instance cI:ElemTy prog 63 252 3:=⟨runUnderlying63,sizeOf252,⟨_,zeroValue252,rfl⟩,⟨_,typeInfo252,by decide⟩⟩
instance cH:ElemTy prog 64 245 3:=⟨GG,sizeOf245,⟨_,zeroValue245,rfl⟩,⟨_,typeInfo245,by decide⟩⟩
instance cL:ElemTy prog 22 214 2:=⟨runUnderlying22,sizeOf214,⟨_,zeroValue214,rfl⟩,⟨_,typeInfo214,by decide⟩⟩
instance cK:ElemTy prog 23 221 4:=⟨Gb,GN,⟨_,zeroValue221,rfl⟩,⟨_,typeInfo221,by decide⟩⟩
instance cJ:ElemTy prog 24 66 5:=⟨EL,EW,⟨_,zeroValue66,rfl⟩,⟨_,typeInfo66,by decide⟩⟩
instance od:ElemTy prog 25 68 2:=⟨runUnderlying25,sizeOf68,⟨_,zeroValue68,rfl⟩,⟨_,typeInfo68,by decide⟩⟩
instance oc:ElemTy prog 29 257 8:=⟨GH,GZ,⟨_,zeroValue257,rfl⟩,⟨_,typeInfo257,by decide⟩⟩
instance QG:ElemTy prog 73 3 1:=⟨EB,EC,⟨_,EV,rfl⟩,⟨_,typeInfo3,by decide⟩⟩
instance pF:ElemTy prog 37 73 1:=⟨EI,EP,⟨_,zeroValue73,rfl⟩,⟨_,typeInfo73,by decide⟩⟩
theorem lU:Qs prog 50 2 2 1:=FA GV rfl EC
instance Nz:ElemTy prog 279 5 1:=⟨EX,Ga,⟨_,zeroValue5,rfl⟩,⟨_,typeInfo5,by decide⟩⟩
theorem L7:JI prog 9 A.str:=JI.str Gp
theorem pg:prog.underlying 294=AC (.struct (prog.fieldsOf 294)):=by kernel_rfl
theorem _v:prog.stoodInHeld 294=false:=by kernel_rfl
theorem dt:JI prog 294 (λx=>A.a (Ul.c x)):=by
  refine JI.struct pg Zf (λx y h=>?_) (λw em x=>?_) (λw x y=>?_) (λx=>?_)
  · cases x;cases y
    simpa[Ya,YZ,Ul.c]using h
  · simp only[Ya,YZ,Ul.c]
    rw[show(10000:Nat)=9998+1+1 from rfl];generalize(9998:Nat)=d;simp[Instr.checkKey,runUnderlying294,E4,Result.andThen,EC,EF,part]
  · have u3:=Gu
    have a3:=EF;have z3:=EC;simp only[Ya,YZ,Ul.c,Op.equal,Op.maxDepth];rw[show(10000:Nat)=9999+1 from Z,run_equalIn_agg w 9999 294 _ _ pg _v];simp only[Program.fieldsOf,underlying294]
    go_simp
    cases x;cases y;simp
    repeat' split
    all_goals simp_all
  · simp[Ya,YZ,Ul.c,Instr.sameBits]
theorem pR:prog.underlying 392=AC (.struct (prog.fieldsOf 392)):=by kernel_rfl
theorem _x:prog.stoodInHeld 392=false:=by kernel_rfl
theorem Qqw:JI prog 392 (λx=>A.a (Up.c x)):=by
  refine JI.struct pR Zf (λx y h=>?_) (λw em x=>?_) (λw x y=>?_) (λx=>?_)
  · cases x;cases y
    simpa[Ya,YZ,Up.c]using h
  · simp only[Ya,YZ,Up.c]
    rw[show(10000:Nat)=9998+1+1 from rfl];generalize(9998:Nat)=d;simp[Instr.checkKey,runUnderlying392,E4,Result.andThen,EC,EF,part]
  · have u3:=Gu
    have a3:=EF;have z3:=EC;simp only[Ya,YZ,Up.c,Op.equal,Op.maxDepth];rw[show(10000:Nat)=9999+1 from Z,run_equalIn_agg w 9999 392 _ _ pR _x];simp only[Program.fieldsOf,underlying392]
    go_simp
    cases x;cases y;simp
    repeat' split
    all_goals simp_all
  · simp[Ya,YZ,Up.c,Instr.sameBits]
instance dc:ElemTy prog 395 422 1:=⟨Gk,sizeOf422,⟨_,zeroValue422,rfl⟩,⟨_,typeInfo422,by decide⟩⟩
theorem YN:JI prog 3 I:=JI.int Gu
theorem sh:Qs prog 209 0 0 1:=FA GR rfl EC
theorem si:Qs prog 209 1 1 1:=FA GR rfl EC
theorem QoE:Qs prog 209 2 2 1:=FA GR rfl EC
theorem QqK:Qs prog 41 1 1 1:=FA GW rfl EC
theorem _L:Ss prog 136 [(0,16),(16,2),(18,1),(19,1),(20,1),(21,1),(22,1),(23,1),(24,1)]:=⟨_,runUnderlying136,(Ef sizeOf33 (Ef sizeOf39 (Ef EP (Ef sizeOf131 (Ef sizeOf42 (Ef sizeOf132 (Ef sizeOf133 (Ef sizeOf134 (Ef EC PL.nil)))))))))⟩
theorem ph:prog.underlying 358=AC (.struct (prog.fieldsOf 358)):=by kernel_rfl
theorem _w:prog.stoodInHeld 358=false:=by kernel_rfl
theorem Qqx:JI prog 358 (λx=>A.a (Ub.c x)):=by
  refine JI.struct ph Zf (λx y h=>?_) (λw em x=>?_) (λw x y=>?_) (λx=>?_)
  · cases x;cases y
    simpa[Ya,YZ,Ub.c]using h
  · simp only[Ya,YZ,Ub.c]
    rw[show(10000:Nat)=9998+1+1 from rfl];generalize(9998:Nat)=d;simp[Instr.checkKey,runUnderlying358,E4,Result.andThen,EC,EF,part]
  · have u3:=Gu
    have a3:=EF;have z3:=EC;simp only[Ya,YZ,Ub.c,Op.equal,Op.maxDepth];rw[show(10000:Nat)=9999+1 from Z,run_equalIn_agg w 9999 358 _ _ ph _w];simp only[Program.fieldsOf,underlying358]
    go_simp
    cases x;cases y;simp
    repeat' split
    all_goals simp_all
  · simp[Ya,YZ,Ub.c,Instr.sameBits]
inductive CT where
  |c0 (x:Int)
  |c1 (x:Unit)
  |c2 (x:List Int)
  |c3 (x:(List Int)×(List (Ub×Cp)))
theorem QoG:Qs prog 139 0 0 1:=FA Gy rfl EC
theorem QoF:Qs prog 139 1 1 1:=FA Gy rfl EC
theorem sd:Qs prog 139 2 2 1:=FA Gy rfl EC
theorem sf:Qs prog 139 4 4 1:=FA Gy rfl EC
theorem _J:prog.stoodInHeld 211=false:=by kernel_rfl
theorem Yi(h:Nat):I3 prog 3 (h+1) 1 AD (λl=>∃x:Int,l=[Value.int .i64 x]):=I3.int Gu EF EC h
theorem QqZ:W6 prog 211 Uf.c:=by
  refine iK (QS underlying211 _J isAgg211 sizeOf211 (Cs.c Yi (Cs.c Yi (Cs.nil 1 _)))) Z (λx=>⟨[_],_,Z,⟨_,Z⟩,[_],_,Z,⟨_,Z⟩,Z⟩) Zf (λx y h=>?_) (by kernel_rfl);obtain⟨_,_⟩:=x;obtain⟨_,_⟩:=y;simpa[Ya,YZ,Uf.c,and_assoc]using h
theorem Qlj:Qs prog 83 0 0 1:=FA Gr rfl EC
theorem QqF:Qs prog 83 1 1 1:=FA Gr rfl EC
instance pj:ElemTy prog 132 145 3:=⟨Gz,G1,⟨_,Gs,rfl⟩,⟨_,typeInfo145,by decide⟩⟩
instance pi:ElemTy prog 131 83 2:=⟨E8,Ge,⟨_,EK,rfl⟩,⟨_,typeInfo83,by decide⟩⟩
inductive CK where
  |c0 (x:Int)
  |c1 (x:(List Int)×(List CJ)×(List Ue)×(List (Int×Ue))×Int)
instance M?:ElemTy prog 142 4 1:=⟨GA,GF,⟨_,E7,rfl⟩,⟨_,typeInfo4,by decide⟩⟩
instance pH:ElemTy prog 55 75 2:=⟨GI,GS,⟨_,zeroValue75,rfl⟩,⟨_,typeInfo75,by decide⟩⟩
def match_task.tc(x0:CA)(x1:CD)(x2:AA Int)(x3:AA CJ)(x4:AA CL)(x5:AA Ue)(x6:A)(x7:A)(x8:Int):AA Go.Sw.A:=[.str x0.Ao,.q 2 (map Al.c x0.Ar),.q 4 (map Cp.c x0.Az),.q 5 (map AN.c x0.AP),.q 2 (map A2.c x0.A0),.q 4 (map AZ.c x0.Ab),.q 3 (map AW.c x0.AV),.q 4 (map CQ.c x0.Ay),.q 8 (map AY.enc x0.BN),I x0.AQ.A8,I x0.AQ.A6,I x0.AQ.A5,I x0.AQ.Ak,I x0.AQ.BC,I x0.Bj,I x0.Av,.q 3 (map CC.c x1.AR),.q 1 (map (Qu 1 eI) x1.BP),.q 1 (map eI x2),.q 2 (map CJ.c x3),.q 5 (map CL.c x4),.q 3 (map Ue.c x5),x6,x7,I x8]
theorem QqJ:Qs prog 50 0 0 1:=FA GV rfl EC
theorem QqI:Qs prog 50 3 3 1:=FA GV rfl GF
theorem QqH:Qs prog 77 0 0 1:=FA GJ rfl GF
theorem QqG:Qs prog 77 2 2 1:=FA GJ rfl EC
theorem dr:Qs prog 77 3 3 1:=FA GJ rfl EC
theorem qM:Qs prog 77 1 1 1:=FA GJ rfl EC
theorem aW:prog.stoodInHeld 77=false:=by kernel_rfl
theorem cM(h:Nat):I3 prog 4 (h+1) 1 AD (λl=>∃x:Bool,l=[Value.bool x]):=I3.bool underlying4 isAgg4 GF h
theorem po:W6 prog 77 CB.c:=by
  refine iK (QS underlying77 aW Gg EG (Cs.c cM (Cs.c Yi (Cs.c Yi (Cs.c Yi (Cs.nil 1 _)))))) Z (λx=>⟨[_],_,Z,⟨_,Z⟩,[_],_,Z,⟨_,Z⟩,[_],_,Z,⟨_,Z⟩,[_],_,Z,⟨_,Z⟩,Z⟩) Zf (λx y h=>?_) (by kernel_rfl);obtain⟨_,_,_,_⟩:=x;obtain⟨_,_,_,_⟩:=y;simpa[Ya,YZ,CB.c,and_assoc]using h
instance pG:ElemTy prog 43 104 4:=⟨runUnderlying43,G2,⟨_,zeroValue104,rfl⟩,⟨_,typeInfo104,by decide⟩⟩
instance L4:ElemTy prog 44 50 4:=⟨EQ,Gf,⟨_,zeroValue50,rfl⟩,⟨_,typeInfo50,by decide⟩⟩
theorem aU:prog.stoodInHeld 83=false:=by kernel_rfl
theorem O?:W6 prog 83 CJ.c:=by
  refine iK (QS underlying83 aU isAgg83 Ge (Cs.c Yi (Cs.c Yi (Cs.nil 1 _)))) Z (λx=>⟨[_],_,Z,⟨_,Z⟩,[_],_,Z,⟨_,Z⟩,Z⟩) Zf (λx y h=>?_) (by kernel_rfl);obtain⟨_,_⟩:=x;obtain⟨_,_⟩:=y;simpa[Ya,YZ,CJ.c,and_assoc]using h
instance Jz:ElemTy prog 230 9 1:=⟨E3,sizeOf9,⟨_,zeroValue9,rfl⟩,⟨_,typeInfo9,by decide⟩⟩
instance N?:ElemTy prog 253 255 4:=⟨runUnderlying253,sizeOf255,⟨_,zeroValue255,rfl⟩,⟨_,typeInfo255,by decide⟩⟩
instance ZX:ElemTy prog 34 120 57:=⟨EE,EH,⟨_,zeroValue120,rfl⟩,⟨_,typeInfo120,by decide⟩⟩
theorem S7:Qs prog 120 3 3 1:=FA E5 rfl EC
theorem QoH:Qs prog 120 4 4 8:=FA E5 rfl EO
theorem lT:Qs prog 41 0 0 1:=FA GW rfl EC
theorem mV:Qs prog 41 5 5 1:=FA GW rfl EC
theorem mN:Qs prog 120 5 12 4:=FA E5 rfl EY
theorem lV:Qs prog 98 0 0 1:=FA GK rfl EC
theorem lW:Qs prog 98 1 1 1:=FA GK rfl EC
theorem qN:Qs prog 98 2 2 1:=FA GK rfl EC
theorem h_:Qs prog 98 3 3 1:=FA GK rfl EC
theorem iO:Qs prog 120 6 16 5:=FA E5 rfl G3
theorem QoP:Qs prog 100 0 0 1:=FA runUnderlying100 rfl EC
theorem QoO:Qs prog 100 1 1 1:=FA runUnderlying100 rfl EC
theorem d5:Qs prog 120 7 21 8:=FA E5 rfl sizeOf102
theorem QoN:Qs prog 102 0 0 1:=FA GB rfl EC
theorem QoL:Qs prog 102 3 3 1:=FA GB rfl EC
theorem QoM:Qs prog 102 1 1 1:=FA GB rfl EC
theorem QoK:Qs prog 102 4 4 1:=FA GB rfl EC
theorem sb:Qs prog 120 8 29 4:=FA E5 rfl G2
theorem QoJ:Qs prog 104 0 0 1:=FA runUnderlying104 rfl EC
theorem sa:Qs prog 110 0 0 1:=FA runUnderlying110 rfl EC
theorem Qmv:Qs prog 120 13 47 6:=FA E5 rfl GX
theorem QoI:Qs prog 114 0 0 1:=FA runUnderlying114 rfl EC
theorem _I:prog.stoodInHeld 120=false:=by kernel_rfl
theorem _H:prog.stoodInHeld 118=false:=by kernel_rfl
theorem G?:prog.stoodInHeld 116=false:=by kernel_rfl
theorem F?:prog.stoodInHeld 114=false:=by kernel_rfl
theorem E?:prog.stoodInHeld 112=false:=by kernel_rfl
theorem D?:prog.stoodInHeld 110=false:=by kernel_rfl
theorem C?:prog.stoodInHeld 108=false:=by kernel_rfl
theorem B?:prog.stoodInHeld 106=false:=by kernel_rfl
theorem A?:prog.stoodInHeld 104=false:=by kernel_rfl
theorem _z:prog.stoodInHeld 102=false:=by kernel_rfl
theorem _y:prog.stoodInHeld 100=false:=by kernel_rfl
theorem aT:prog.stoodInHeld 98=false:=by kernel_rfl
theorem aX:prog.stoodInHeld 41=false:=by kernel_rfl
theorem qH:W6 prog 120 CH.c:=by
  refine iK (QS underlying120 _I isAgg120 EH (Cs.c Yi (Cs.c Yi (Cs.c Yi (Cs.c Yi (Cs.cons Z (by decide) (QS underlying41 aX GL EO (Cs.c Yi (Cs.c Yi (Cs.c Yi (Cs.c Yi (Cs.c Yi (Cs.c Yi (Cs.c Yi (Cs.c Yi (Cs.nil 1 _)))))))))) (λe=>Bool.noConfusion e) (Cs.cons Z (by decide) (QS underlying98 aT isAgg98 EY (Cs.c Yi (Cs.c Yi (Cs.c Yi (Cs.c Yi (Cs.nil 1 _)))))) (λe=>Bool.noConfusion e) (Cs.cons Z (by decide) (QS underlying100 _y isAgg100 G3 (Cs.c Yi (Cs.c Yi (Cs.c Yi (Cs.c Yi (Cs.c Yi (Cs.nil 1 _))))))) (λe=>Bool.noConfusion e) (Cs.cons Z (by decide) (QS underlying102 _z isAgg102 sizeOf102 (Cs.c Yi (Cs.c Yi (Cs.c Yi (Cs.c Yi (Cs.c Yi (Cs.c Yi (Cs.c Yi (Cs.c Yi (Cs.nil 1 _)))))))))) (λe=>Bool.noConfusion e) (Cs.cons Z (by decide) (QS underlying104 A? isAgg104 G2 (Cs.c Yi (Cs.c Yi (Cs.c Yi (Cs.c Yi (Cs.nil 1 _)))))) (λe=>Bool.noConfusion e) (Cs.cons Z (by decide) (QS underlying106 B? isAgg106 sizeOf106 (Cs.c Yi (Cs.c Yi (Cs.c Yi (Cs.c Yi (Cs.nil 1 _)))))) (λe=>Bool.noConfusion e) (Cs.cons Z (by decide) (QS underlying108 C? isAgg108 sizeOf108 (Cs.c Yi (Cs.c Yi (Cs.nil 1 _)))) (λe=>Bool.noConfusion e) (Cs.cons Z (by decide) (QS underlying110 D? isAgg110 GO (Cs.c Yi (Cs.c Yi (Cs.c Yi (Cs.c Yi (Cs.nil 1 _)))))) (λe=>Bool.noConfusion e) (Cs.cons Z (by decide) (QS underlying112 E? isAgg112 sizeOf112 (Cs.c Yi (Cs.c Yi (Cs.c Yi (Cs.c Yi (Cs.nil 1 _)))))) (λe=>Bool.noConfusion e) (Cs.cons Z (by decide) (QS underlying114 F? isAgg114 GX (Cs.c Yi (Cs.c Yi (Cs.c Yi (Cs.c Yi (Cs.c Yi (Cs.c Yi (Cs.nil 1 _)))))))) (λe=>Bool.noConfusion e) (Cs.cons Z (by decide) (QS underlying116 G? isAgg116 sizeOf116 (Cs.c Yi (Cs.c cM (Cs.nil 1 _)))) (λe=>Bool.noConfusion e) (Cs.cons Z (by decide) (QS underlying118 _H isAgg118 sizeOf118 (Cs.c Yi (Cs.c Yi (Cs.nil 1 _)))) (λe=>Bool.noConfusion e) (Cs.nil 2 _)))))))))))))))))) Z (λx=>⟨[_],_,Z,⟨_,Z⟩,[_],_,Z,⟨_,Z⟩,[_],_,Z,⟨_,Z⟩,[_],_,Z,⟨_,Z⟩,[_,_,_,_,_,_,_,_],_,Z,⟨[_],_,Z,⟨_,Z⟩,[_],_,Z,⟨_,Z⟩,[_],_,Z,⟨_,Z⟩,[_],_,Z,⟨_,Z⟩,[_],_,Z,⟨_,Z⟩,[_],_,Z,⟨_,Z⟩,[_],_,Z,⟨_,Z⟩,[_],_,Z,⟨_,Z⟩,Z⟩,[_,_,_,_],_,Z,⟨[_],_,Z,⟨_,Z⟩,[_],_,Z,⟨_,Z⟩,[_],_,Z,⟨_,Z⟩,[_],_,Z,⟨_,Z⟩,Z⟩,[_,_,_,_,_],_,Z,⟨[_],_,Z,⟨_,Z⟩,[_],_,Z,⟨_,Z⟩,[_],_,Z,⟨_,Z⟩,[_],_,Z,⟨_,Z⟩,[_],_,Z,⟨_,Z⟩,Z⟩,[_,_,_,_,_,_,_,_],_,Z,⟨[_],_,Z,⟨_,Z⟩,[_],_,Z,⟨_,Z⟩,[_],_,Z,⟨_,Z⟩,[_],_,Z,⟨_,Z⟩,[_],_,Z,⟨_,Z⟩,[_],_,Z,⟨_,Z⟩,[_],_,Z,⟨_,Z⟩,[_],_,Z,⟨_,Z⟩,Z⟩,[_,_,_,_],_,Z,⟨[_],_,Z,⟨_,Z⟩,[_],_,Z,⟨_,Z⟩,[_],_,Z,⟨_,Z⟩,[_],_,Z,⟨_,Z⟩,Z⟩,[_,_,_,_],_,Z,⟨[_],_,Z,⟨_,Z⟩,[_],_,Z,⟨_,Z⟩,[_],_,Z,⟨_,Z⟩,[_],_,Z,⟨_,Z⟩,Z⟩,[_,_],_,Z,⟨[_],_,Z,⟨_,Z⟩,[_],_,Z,⟨_,Z⟩,Z⟩,[_,_,_,_],_,Z,⟨[_],_,Z,⟨_,Z⟩,[_],_,Z,⟨_,Z⟩,[_],_,Z,⟨_,Z⟩,[_],_,Z,⟨_,Z⟩,Z⟩,[_,_,_,_],_,Z,⟨[_],_,Z,⟨_,Z⟩,[_],_,Z,⟨_,Z⟩,[_],_,Z,⟨_,Z⟩,[_],_,Z,⟨_,Z⟩,Z⟩,[_,_,_,_,_,_],_,Z,⟨[_],_,Z,⟨_,Z⟩,[_],_,Z,⟨_,Z⟩,[_],_,Z,⟨_,Z⟩,[_],_,Z,⟨_,Z⟩,[_],_,Z,⟨_,Z⟩,[_],_,Z,⟨_,Z⟩,Z⟩,[_,_],_,Z,⟨[_],_,Z,⟨_,Z⟩,[_],_,Z,⟨_,Z⟩,Z⟩,[_,_],_,Z,⟨[_],_,Z,⟨_,Z⟩,[_],_,Z,⟨_,Z⟩,Z⟩,Z⟩) Zf (λx y h=>?_) (by kernel_rfl);obtain⟨_,_,_,_,⟨_,_,_,_,_,_,_,_⟩,⟨_,_,_,_⟩,⟨_,_,_,_,_⟩,⟨_,_,_,_,_,_,_,_⟩,⟨_,_,_,_⟩,⟨_,_,_,_⟩,⟨_,_⟩,⟨_,_,_,_⟩,⟨_,_,_,_⟩,⟨_,_,_,_,_,_⟩,⟨_,_⟩,⟨_,_⟩⟩:=x;obtain⟨_,_,_,_,⟨_,_,_,_,_,_,_,_⟩,⟨_,_,_,_⟩,⟨_,_,_,_,_⟩,⟨_,_,_,_,_,_,_,_⟩,⟨_,_,_,_⟩,⟨_,_,_,_⟩,⟨_,_⟩,⟨_,_,_,_⟩,⟨_,_,_,_⟩,⟨_,_,_,_,_,_⟩,⟨_,_⟩,⟨_,_⟩⟩:=y;simpa[Ya,YZ,CH.c,AO.c,A4.c,Aa.c,An.c,Ac.c,Ap.c,Bb.c,Aj.c,Au.c,Af.c,BE.c,Ly.c,and_assoc]using h
theorem _N:Ss prog 351 [(0,1),(1,1),(2,1),(3,1)]:=⟨_,runUnderlying351,(Ef EC (Ef EC (Ef sizeOf9 (Ef sizeOf349 PL.nil))))⟩
instance pn:ElemTy prog 349 351 4:=⟨runUnderlying349,sizeOf351,⟨_,zeroValue351,rfl⟩,⟨_,typeInfo351,by decide⟩⟩
instance gL:ElemTy prog 36 209 3:=⟨ES,E6,⟨_,zeroValue209,rfl⟩,⟨_,typeInfo209,by decide⟩⟩
theorem _M:Ss prog 176 [(0,1),(1,1)]:=⟨_,runUnderlying176,(Ef EC (Ef sizeOf174 PL.nil))⟩
instance Zd:ElemTy prog 174 260 3:=⟨GC,sizeOf260,⟨_,zeroValue260,rfl⟩,⟨_,typeInfo260,by decide⟩⟩
instance ZY:ElemTy prog 91 41 8:=⟨EJ,EO,⟨_,zeroValue41,rfl⟩,⟨_,typeInfo41,by decide⟩⟩
instance ZW:ElemTy prog 42 139 5:=⟨ET,Gd,⟨_,zeroValue139,rfl⟩,⟨_,typeInfo139,by decide⟩⟩
instance gm:ElemTy prog 268 98 4:=⟨EN,EY,⟨_,zeroValue98,rfl⟩,⟨_,typeInfo98,by decide⟩⟩
instance kn:ElemTy prog 270 110 4:=⟨Gm,GO,⟨_,zeroValue110,rfl⟩,⟨_,typeInfo110,by decide⟩⟩
instance ko:ElemTy prog 272 114 6:=⟨GT,GX,⟨_,zeroValue114,rfl⟩,⟨_,typeInfo114,by decide⟩⟩
theorem QL{n:Nat}:RB prog n 3 Int (λx=>[A.int .i64 x]) (Qq .i64):=RB.int Gu
def jB:Si:={fld:=[(66,3,3),(123,6,29),(50,2,2),(252,2,2),(33,1,1),(33,2,2),(33,3,3),(33,4,4),(33,5,5),(33,6,6),(33,7,7),(66,1,1),(214,0,0),(66,0,0),(68,0,0),(232,0,0),(234,0,0),(33,0,0),(214,1,1),(221,0,0),(221,1,1),(221,2,2),(221,3,3),(252,1,1),(252,0,0),(245,0,0),(245,1,1),(245,2,2),(66,2,2),(66,4,4),(68,1,1),(232,3,3),(232,1,1),(232,2,2),(234,1,1),(234,2,2),(239,0,0),(239,1,1),(239,2,2),(239,3,3),(33,9,9),(31,0,0),(31,1,1),(31,2,2),(31,3,3),(31,4,4),(33,10,14),(33,11,15),(443,0,0),(255,0,0),(255,1,1),(255,2,2),(255,3,3),(425,0,0),(257,3,6),(257,4,7),(418,0,0),(257,2,2),(418,1,1),(257,0,0),(257,1,1),(33,8,8),(331,0,0),(331,1,1),(209,0,0),(209,1,1),(39,0,0),(39,1,1),(209,2,2),(104,2,2),(104,3,3),(104,1,1),(284,0,0),(284,1,1),(300,0,0),(300,1,1),(300,2,2),(139,0,0),(139,1,1),(139,2,2),(139,3,3),(139,4,4),(83,0,0),(83,1,1),(136,2,18),(41,1,1),(41,2,2),(136,5,21),(136,6,22),(136,8,24),(136,7,23),(136,3,19),(136,4,20),(145,0,0),(145,1,1),(136,1,16),(147,2,4),(136,0,0),(147,0,0),(147,1,1),(75,0,0),(75,1,1),(123,0,0),(123,2,18),(123,7,30),(50,0,0),(50,1,1),(123,5,28),(123,1,16),(123,3,26),(123,4,27),(41,3,3),(77,0,0),(77,2,2),(77,3,3),(77,1,1),(41,0,0),(41,4,4),(41,5,5),(41,6,6),(41,7,7),(102,0,0),(102,3,3),(102,1,1),(102,4,4),(102,2,2),(102,5,5),(102,6,6),(102,7,7),(114,0,0),(114,1,1),(114,2,2),(114,3,3),(114,4,4),(114,5,5),(120,3,3),(120,4,4),(120,5,12),(98,0,0),(98,1,1),(98,2,2),(98,3,3),(120,6,16),(100,0,0),(100,1,1),(100,2,2),(100,3,3),(100,4,4),(120,7,21),(120,8,29),(104,0,0),(120,9,33),(106,0,0),(106,1,1),(106,2,2),(106,3,3),(120,10,37),(108,0,0),(108,1,1),(120,11,39),(110,0,0),(110,1,1),(110,2,2),(110,3,3),(120,12,43),(112,0,0),(112,1,1),(112,2,2),(112,3,3),(120,13,47),(120,14,53),(116,0,0),(120,15,55),(118,0,0),(118,1,1),(120,0,0),(120,1,1),(120,2,2),(116,1,1),(351,3,3),(351,0,0),(351,2,2),(351,1,1),(176,1,1),(176,0,0),(260,0,0),(260,1,1),(260,2,2),(46,3,11),(46,1,2),(46,4,12),(46,2,10),(46,0,0)],agg:=[(66,AE,5),(64,AD,1),(33,AE,16),(39,AE,2),(41,AE,8),(123,AE,31),(50,AE,4),(3,AD,1),(252,AE,3),(63,AD,1),(22,AD,1),(23,AD,1),(24,AD,1),(25,AD,1),(26,AD,1),(27,AD,1),(28,AD,1),(5,AD,1),(9,AD,1),(214,AE,2),(68,AE,2),(232,AE,4),(234,AE,3),(380,AD,1),(222,AD,1),(221,AE,4),(294,AE,2),(372,AD,1),(375,AD,1),(245,AE,3),(297,AD,1),(385,AD,1),(4,AD,1),(377,AD,1),(388,AD,1),(378,AD,1),(239,AE,4),(392,AE,3),(31,AE,5),(257,AE,8),(253,AD,1),(29,AD,1),(255,AE,4),(425,AE,8),(443,AE,4),(422,AD,1),(137,AD,1),(292,AD,1),(36,AD,1),(37,AD,1),(209,AE,3),(73,AD,1),(104,AE,4),(411,AD,1),(284,AE,2),(282,AD,1),(139,AE,5),(83,AE,2),(128,AD,1),(132,AD,1),(133,AD,1),(134,AD,1),(131,AD,1),(147,AE,5),(145,AE,3),(42,AD,1),(55,AD,1),(140,AD,1),(143,AD,1),(142,AD,1),(77,AE,4),(44,AD,1),(52,AD,1),(75,AE,2),(43,AD,1),(200,AD,1),(51,AD,1),(102,AE,8),(114,AE,6),(120,AE,57),(98,AE,4),(100,AE,5),(106,AE,4),(108,AE,2),(110,AE,4),(112,AE,4),(116,AE,2),(118,AE,2),(351,AE,4),(349,AD,1),(176,AE,2),(174,AD,1),(260,AE,3),(46,AE,13)],zer:=[(252,[I 0,I 0,.q 3 (map CG.enc [])],[(0,1),(1,1),(2,1)]),(66,[.str [],.q 3 (map CG.enc []),I 0,.q 3 (map CO.c []),I 0],[(0,1),(1,1),(2,1),(3,1),(4,1)]),(245,[I 0,I 0,I 0],[(0,1),(1,1),(2,1)]),(214,[.str [],I 0],[(0,1),(1,1)]),(221,[I 0,I 0,I 0,I 0],[(0,1),(1,1),(2,1),(3,1)]),(68,[.str [],I 0],[(0,1),(1,1)]),(257,[I 0,I 0,I 0,I 0,I 0,.q 4 (map AS.enc []),.q 8 (map AY.enc []),.q 8 (map AY.enc [])],[(0,1),(1,1),(2,4),(6,1),(7,1)]),(33,[.str [],.q 2 (map Al.c []),.q 4 (map Cp.c []),.q 5 (map AN.c []),.q 2 (map A2.c []),.q 4 (map AZ.c []),.q 3 (map AW.c []),.q 4 (map CQ.c []),.q 8 (map AY.enc []),I 0,I 0,I 0,I 0,I 0,I 0,I 0],[(0,1),(1,1),(2,1),(3,1),(4,1),(5,1),(6,1),(7,1),(8,1),(9,5),(14,1),(15,1)]),(39,[.q 3 (map CC.c []),.q 1 (map (Qu 1 eI) [])],[(0,1),(1,1)]),(123,[.str [],.q 2 (map Al.c []),.q 4 (map Cp.c []),.q 5 (map AN.c []),.q 2 (map A2.c []),.q 4 (map AZ.c []),.q 3 (map AW.c []),.q 4 (map CQ.c []),.q 8 (map AY.enc []),I 0,I 0,I 0,I 0,I 0,I 0,I 0,.q 3 (map CC.c []),.q 1 (map (Qu 1 eI) []),I 0,I 0,I 0,I 0,I 0,I 0,I 0,I 0,.q 5 (map CL.c []),.q 4 (map Ac.c []),.q 4 (map CE.c []),I 0,I 0],[(0,16),(16,2),(18,8),(26,1),(27,1),(28,1),(29,1),(30,1)]),(294,[I 0,I 0],[(0,1),(1,1)]),(392,[I 0,I 0,I 0],[(0,1),(1,1),(2,1)]),(425,[I 0,I 0,I 0,I 0,I 0,.q 4 (map AS.enc []),.q 8 (map AY.enc []),.q 8 (map AY.enc [])],[(0,8)]),(443,[I 0,I 0,I 0,.q 4 (map AS.enc [])],[(0,4)]),(418,[I 0,I 0],[(0,1),(1,1)]),(331,[I 0,I 0],[(0,1),(1,1)]),(358,[I 0,I 0],[(0,1),(1,1)]),(300,[I 0,I 0,I 0],[(0,1),(1,1),(2,1)]),(211,[I 0,I 0],[(0,1),(1,1)]),(83,[I 0,I 0],[(0,1),(1,1)]),(209,[I 0,I 0,I 0],[(0,1),(1,1),(2,1)]),(145,[I 0,I 0,I 0],[(0,1),(1,2)]),(147,[I 0,I 0,I 0,I 0,I 0],[(0,1),(1,3),(4,1)]),(75,[.q 1 (map eI []),I 0],[(0,1),(1,1)]),(77,[.b AD,I 0,I 0,I 0],[(0,1),(1,1),(2,1),(3,1)]),(41,[I 0,I 0,I 0,I 0,I 0,I 0,I 0,I 0],[(0,1),(1,1),(2,1),(3,1),(4,1),(5,1),(6,1),(7,1)]),(104,[I 0,I 0,I 0,I 0],[(0,1),(1,1),(2,1),(3,1)]),(50,[I 0,I 0,I 0,.b AD],[(0,1),(1,1),(2,1),(3,1)]),(120,[I 0,I 0,I 0,I 0,I 0,I 0,I 0,I 0,I 0,I 0,I 0,I 0,I 0,I 0,I 0,I 0,I 0,I 0,I 0,I 0,I 0,I 0,I 0,I 0,I 0,I 0,I 0,I 0,I 0,I 0,I 0,I 0,I 0,I 0,I 0,I 0,I 0,I 0,I 0,I 0,I 0,I 0,I 0,I 0,I 0,I 0,I 0,I 0,I 0,I 0,I 0,I 0,I 0,I 0,.b AD,I 0,I 0],[(0,1),(1,1),(2,1),(3,1),(4,8),(12,4),(16,5),(21,8),(29,4),(33,4),(37,2),(39,4),(43,4),(47,6),(53,2),(55,2)]),(351,[I 0,I 0,.str [],.q 4 (map Value.enc [])],[(0,1),(1,1),(2,1),(3,1)]),(176,[I 0,.q 3 (map Edge.c [])],[(0,1),(1,1)]),(260,[I 0,I 0,I 0],[(0,1),(1,1),(2,1)]),(139,[I 0,I 0,I 0,I 0,I 0],[(0,1),(1,1),(2,1),(3,1),(4,1)]),(114,[I 0,I 0,I 0,I 0,I 0,I 0],[(0,1),(1,1),(2,1),(3,1),(4,1),(5,1)]),(110,[I 0,I 0,I 0,I 0],[(0,1),(1,1),(2,1),(3,1)]),(46,[.q 3 (map CC.c []),.q 1 (map (Qu 1 eI) []),I 0,I 0,I 0,I 0,I 0,I 0,I 0,I 0,.q 5 (map CL.c []),.n,.q 4 (map CE.c [])],[(0,2),(2,8),(10,1),(11,1),(12,1)])]}
def oJ:AA (Nat×AA (Nat×Nat)):=[(31,[(0,1),(1,1),(2,1),(3,1),(4,1)]),(33,[(0,1),(1,1),(2,1),(3,1),(4,1),(5,1),(6,1),(7,1),(8,1),(9,5),(14,1),(15,1)]),(39,[(0,1),(1,1)]),(41,[(0,1),(1,1),(2,1),(3,1),(4,1),(5,1),(6,1),(7,1)]),(46,[(0,2),(2,8),(10,1),(11,1),(12,1)]),(50,[(0,1),(1,1),(2,1),(3,1)]),(66,[(0,1),(1,1),(2,1),(3,1),(4,1)]),(68,[(0,1),(1,1)]),(75,[(0,1),(1,1)]),(77,[(0,1),(1,1),(2,1),(3,1)]),(83,[(0,1),(1,1)]),(98,[(0,1),(1,1),(2,1),(3,1)]),(100,[(0,1),(1,1),(2,1),(3,1),(4,1)]),(102,[(0,1),(1,1),(2,1),(3,1),(4,1),(5,1),(6,1),(7,1)]),(104,[(0,1),(1,1),(2,1),(3,1)]),(106,[(0,1),(1,1),(2,1),(3,1)]),(108,[(0,1),(1,1)]),(110,[(0,1),(1,1),(2,1),(3,1)]),(112,[(0,1),(1,1),(2,1),(3,1)]),(114,[(0,1),(1,1),(2,1),(3,1),(4,1),(5,1)]),(116,[(0,1),(1,1)]),(118,[(0,1),(1,1)]),(120,[(0,1),(1,1),(2,1),(3,1),(4,8),(12,4),(16,5),(21,8),(29,4),(33,4),(37,2),(39,4),(43,4),(47,6),(53,2),(55,2)]),(123,[(0,16),(16,2),(18,8),(26,1),(27,1),(28,1),(29,1),(30,1)]),(136,[(0,16),(16,2),(18,1),(19,1),(20,1),(21,1),(22,1),(23,1),(24,1)]),(139,[(0,1),(1,1),(2,1),(3,1),(4,1)]),(145,[(0,1),(1,2)]),(147,[(0,1),(1,3),(4,1)]),(176,[(0,1),(1,1)]),(209,[(0,1),(1,1),(2,1)]),(211,[(0,1),(1,1)]),(214,[(0,1),(1,1)]),(221,[(0,1),(1,1),(2,1),(3,1)]),(232,[(0,1),(1,1),(2,1),(3,1)]),(234,[(0,1),(1,1),(2,1)]),(239,[(0,1),(1,1),(2,1),(3,1)]),(245,[(0,1),(1,1),(2,1)]),(252,[(0,1),(1,1),(2,1)]),(255,[(0,1),(1,1),(2,1),(3,1)]),(257,[(0,1),(1,1),(2,4),(6,1),(7,1)]),(260,[(0,1),(1,1),(2,1)]),(284,[(0,1),(1,1)]),(294,[(0,1),(1,1)]),(300,[(0,1),(1,1),(2,1)]),(331,[(0,1),(1,1)]),(351,[(0,1),(1,1),(2,1),(3,1)]),(358,[(0,1),(1,1)]),(392,[(0,1),(1,1),(2,1)]),(418,[(0,1),(1,1)]),(425,[(0,8)]),(443,[(0,4)])]
def F8:Fr:={ty:=jB,al:=[(33,(.a [.str [],.q 2 (map Al.c []),.q 4 (map Cp.c []),.q 5 (map AN.c []),.q 2 (map A2.c []),.q 4 (map AZ.c []),.q 3 (map AW.c []),.q 4 (map CQ.c []),.q 8 (map AY.enc []),I 0,I 0,I 0,I 0,I 0,I 0,I 0])),(66,(.a [.str [],.q 3 (map CG.enc []),I 0,.q 3 (map CO.c []),I 0])),(39,(.a [.q 3 (map CC.c []),.q 1 (map (Qu 1 eI) [])])),(123,(.a [.str [],.q 2 (map Al.c []),.q 4 (map Cp.c []),.q 5 (map AN.c []),.q 2 (map A2.c []),.q 4 (map AZ.c []),.q 3 (map AW.c []),.q 4 (map CQ.c []),.q 8 (map AY.enc []),I 0,I 0,I 0,I 0,I 0,I 0,I 0,.q 3 (map CC.c []),.q 1 (map (Qu 1 eI) []),I 0,I 0,I 0,I 0,I 0,I 0,I 0,I 0,.q 5 (map CL.c []),.q 4 (map Ac.c []),.q 4 (map CE.c []),I 0,I 0])),(50,(.a [I 0,I 0,I 0,.b AD])),(252,(.a [I 0,I 0,.q 3 (map CG.enc [])])),(214,(.a [.str [],I 0])),(68,(.a [.str [],I 0])),(232,(.a [.str [],I 0,I 0,.b AD])),(234,(.a [.str [],I 0,I 0])),(294,(.a [I 0,I 0])),(221,(.a [I 0,I 0,I 0,I 0])),(392,(.a [I 0,I 0,I 0])),(239,(.a [I 0,I 0,I 0,I 0])),(3,(I 0)),(372,.nilf),(375,.nilf),(31,(.a [I 0,I 0,I 0,I 0,I 0])),(257,(.a [I 0,I 0,I 0,I 0,I 0,.q 4 (map AS.enc []),.q 8 (map AY.enc []),.q 8 (map AY.enc [])])),(255,(.a [I 0,I 0,I 0,.q 4 (map AS.enc [])])),(425,(.a [I 0,I 0,I 0,I 0,I 0,.q 4 (map AS.enc []),.q 8 (map AY.enc []),.q 8 (map AY.enc [])])),(443,(.a [I 0,I 0,I 0,.q 4 (map AS.enc [])])),(137,.nilm),(292,.nilm),(209,(.a [I 0,I 0,I 0])),(73,.n),(411,.nilf),(284,(.a [.q 1 (map eI []),.nilm])),(139,(.a [I 0,I 0,I 0,I 0,I 0])),(83,(.a [I 0,I 0])),(128,.nilp),(104,(.a [I 0,I 0,I 0,I 0])),(147,(.a [I 0,I 0,I 0,I 0,I 0])),(145,(.a [I 0,I 0,I 0])),(55,.n),(140,.nilf),(142,.n),(143,.nilf),(77,(.a [.b AD,I 0,I 0,I 0])),(52,(I 0)),(245,(.a [I 0,I 0,I 0])),(200,.nilf),(51,.n),(75,(.a [.q 1 (map eI []),I 0])),(120,(.a [I 0,I 0,I 0,I 0,I 0,I 0,I 0,I 0,I 0,I 0,I 0,I 0,I 0,I 0,I 0,I 0,I 0,I 0,I 0,I 0,I 0,I 0,I 0,I 0,I 0,I 0,I 0,I 0,I 0,I 0,I 0,I 0,I 0,I 0,I 0,I 0,I 0,I 0,I 0,I 0,I 0,I 0,I 0,I 0,I 0,I 0,I 0,I 0,I 0,I 0,I 0,I 0,I 0,I 0,.b AD,I 0,I 0])),(41,(.a [I 0,I 0,I 0,I 0,I 0,I 0,I 0,I 0])),(98,(.a [I 0,I 0,I 0,I 0])),(100,(.a [I 0,I 0,I 0,I 0,I 0])),(102,(.a [I 0,I 0,I 0,I 0,I 0,I 0,I 0,I 0])),(106,(.a [I 0,I 0,I 0,I 0])),(110,(.a [I 0,I 0,I 0,I 0])),(112,(.a [I 0,I 0,I 0,I 0])),(114,(.a [I 0,I 0,I 0,I 0,I 0,I 0])),(351,(.a [I 0,I 0,.str [],.q 4 (map Value.enc [])])),(176,(.a [I 0,.q 3 (map Edge.c [])])),(260,(.a [I 0,I 0,I 0])),(46,(.a [.q 3 (map CC.c []),.q 1 (map (Qu 1 eI) []),I 0,I 0,I 0,I 0,I 0,I 0,I 0,I 0,.q 5 (map CL.c []),.q 4 (map Ac.c []),.q 4 (map CE.c [])]))],sl:=[279,395,73,55,51,34,36,174,91,268,42,270,272,44]}
def Il:Nk:={sl:=[(44,50,4),(63,252,3),(22,214,2),(23,221,4),(24,66,5),(25,68,2),(26,232,4),(27,234,3),(28,239,4),(64,245,3),(279,5,1),(73,3,1),(29,257,8),(253,255,4),(395,422,1),(36,209,3),(37,73,1),(43,104,4),(42,139,5),(132,145,3),(51,77,4),(230,9,1),(349,351,4),(34,120,57),(174,260,3),(91,41,8)],fn:=[222,312,282,225,223,227,229,231,233,224,226,228,230,232,283,194,121,235,244,289,316,288,240,291,98,290,247,236,234,285,314,284,237,287,315,286,239,238,259,303,258,249,293,317,292,241,295,318,294,252,297,319,296,242,299,320,298,255,243,245,246,158,248,250,251,253,254,257,330,321,300,327,301,328,323,322,256,260,261,160,159,154,155,156,157,117,60,59,193,122,119,120,89,88,161,87,278,167,100,218,219,162,163,93,262,164,165,99,63,90,91,92,94,97,101,95,102,40,41,38,45,37,83,53,221,306,272,192,42,118,168,148,146,85,65,147,150,152,149,84,52,115,56,51,55,54,61,31,9,32,33,34,15,64,22,12,18,19,66,67,182,110,181,68,179,105,106,107,108,180,109,268,183,111,112,113,114,46,47,48,49,50,123,195,124,70,69,141,211,209,208,206,207,213,212,205,210,214,139,140,142,307,308,309,310,276,275,79,217,216,215,144,80,125,196,198,14,29,131,197,73,126,129,130,71,72,74,199,200,132,75,201,274,273,202,133,203,204,134,135,137,26,76,77,78,138,23,81,24,25,10,62,6,7,8,17]}
theorem o7:kL prog oJ F8 Il=kR prog oJ F8 Il:=by kernel_rfl
theorem It:Iu prog F8:=.ofK o7 (by kernel_rfl)
theorem Rc:LS prog Il:=.ofK o7 (K? (by kernel_rfl))
section
variable {h0 N m n d id t et k f:Nat} {all:Array AM} {o:AM} {l r r' ll:AA AM} {ds:AA Nat} {env env' env0:Env} {H H' H1 X:Qc} {Q:Qy} {α:Type} {e:α->AA A} {L:AA α} {kk:IntKind} {i:Int} {v:α} {K:AA AM->Env->Qc->Prop} {xs xs':AA A} {args argsc:AA A} {Hc:Qc} {Hs Hs':AA Qc} {bs:AA Nat} {cat:NE} {k':AA Kf} {c':Cf} {hB hE:Nat} {x:A}
theorem U{l':AA AM}(n:Nat)(h:NS F8 h0 N all n l env H=AC (l',env',H'))(k:WO prog h0 N all l' env' H' Q):WO prog h0 N all l env H Q:=AU It n h k
theorem G0{c:Code}(n:Nat)(h:KQ F8 h0 N n (.code c) [] env H=AC (c',k',env',H'))(g:Hd prog h0 N c' k' env' H' Q):TC prog h0 N c env H Q:=d6 It n h g
theorem Gc{k:AA Kf}{c:Code}(n:Nat)(h:KQ F8 h0 N n (.code c) k env H=AC (c',k',env',H'))(g:Hd prog h0 N c' k' env' H' Q):TC prog h0 N c env H (kq prog h0 N k Q):=d6 It n h g
theorem Go{k:AA Kf}(n:Nat)(h:KQ F8 h0 N n (.ops all l) k env H=AC (c',k',env',H'))(g:Hd prog h0 N c' k' env' H' Q):WO prog h0 N all l env H (kq prog h0 N k Q):=d6 It n h g
theorem Gx{k:AA Kf}{x:LZ}(n:Nat)(h:KQ F8 h0 N n (.out x) k env H=AC (c',k',env',H'))(g:Hd prog h0 N c' k' env' H' Q):kq prog h0 N k Q x env H:=d6 It n h g
theorem Cg{β:Type}{E':β->Env}{Hb:β->Qc}{k:AA Kf}{c c2:Code}(b:β)(sel keep:AA Nat)(nE:β->Env)(nH:β->AA (Nat×CW))(hc:∀b,LP sel keep (nE b) (nH b) env H=AC (E' b,Hb b))(h:TC prog h0 N c env H (Ke h0 b E' Hb (kq prog h0 N (.seq c2::k) Q)))(g:TC prog h0 N c2 (E' b) (Hb b) (kq prog h0 N k Q)):TC prog h0 N c env H (kq prog h0 N (.seq c2::k) Q):=Ct b sel keep nE nH hc h λ_ _ e=>Gx 1 rfl (Ee e g)
theorem D4{S B:Type}{b:CF S B}{E':S->Env}{Hb:S->Qc}{k:AA Kf}{c c2:Code}(sel keep:AA Nat)(nE:S->Env)(nH:S->AA (Nat×CW))(hc:∀s,LP sel keep (nE s) (nH s) env H=AC (E' s,Hb s))(h:TC prog h0 N c env H (L3 h0 b E' Hb (kq prog h0 N (.seq c2::k) Q)))(g:∀s,b=.k s->TC prog h0 N c2 (E' s) (Hb s) (kq prog h0 N k Q)):TC prog h0 N c env H (kq prog h0 N (.seq c2::k) Q):=FX sel keep nE nH hc h λs _ _ q e=>Gx 1 rfl (Ee e (g s q))
theorem c5{S B S':Type}{b x:CF S B}{d:CF S' (CF S B)}{E':S->Env}{Hb:S->Qc}{s:S}(hb:∀b',d=.d b'->b'=b)(h:AC (CF.d x)=AC d)(e:x=.k s)(hl:Le h0 env H (E' s) (Hb s)):L3 h0 b E' Hb Q .normal env H:=KR ((Oj hb h).symm.trans e) hl
theorem DX{β S':Type}{b x:β}{d:CF S' β}{E':β->Env}{Hb:β->Qc}(hb:∀b',d=.d b'->b'=b)(h:AC (CF.d x)=AC d)(hl:Le h0 env H (E' x) (Hb x)):Ke h0 b E' Hb Q .normal env H:=by
  cases Oj hb h;exact hl
theorem Gl{β:Type}{e b:β}{E':β->Env}{Hb:β->Qc}{k:AA Kf}(n:Nat)(hm:KQ F8 h0 N n (.ops all l) k env H=AC (.out .normal,[],env',H'))(h:AC e=AC b)(π:AA Nat)(hpre:π.take h0=List.range h0:=by rfl)(hH:π.map (λp=>H'[p]?)=((Hb e).map (Q1 (Ci π (AI H')))).map some:=by rfl)(hπ:π.Nodup:=by decide)(hE:IO (Ci π (AI H')) env' (E' e):=by(repeat' (first|exact trivial|refine⟨rfl,?_⟩))):WO prog h0 N all l env H (kq prog h0 N k (Ke h0 b E' Hb Q)):=Go n hm (Cl h π hpre hH hπ hE)
theorem Gt{β:Type}{e r:β}{w:β->A}{Hb:β->Qc}{fn:Func}{k:AA Kf}(n:Nat)(hm:KQ F8 h0 N n (.ops all l) k env H=AC (.out .ret,[],env',H'))(h:AC e=AC r)(a:Nat)(π:AA Nat)(hr:fn.results= #[.tmp a]:=by rfl)(hpre:π.take h0=List.range h0:=by rfl)(hH:π.map (λp=>H'[p]?)=((Hb e).map (Q1 (Ci π (AI H')))).map some:=by rfl)(hπ:π.Nodup:=by decide)(hE:IO (Ci π (AI H')) env' [(a,w e)]:=by exact⟨rfl,trivial⟩):WO prog h0 N all l env H (kq prog h0 N k (Jc prog h0 fn (RQ w Hb r))):=Go n hm (Rt h a π hr hpre hH hπ hE)
theorem Gcl{β:Type}{e b:β}{E':β->Env}{Hb:β->Qc}{k:AA Kf}{c:Code}(n:Nat)(hm:KQ F8 h0 N n (.code c) k env H=AC (.out .normal,[],env',H'))(h:AC e=AC b)(π:AA Nat)(hpre:π.take h0=List.range h0:=by rfl)(hH:π.map (λp=>H'[p]?)=((Hb e).map (Q1 (Ci π (AI H')))).map some:=by rfl)(hπ:π.Nodup:=by decide)(hE:IO (Ci π (AI H')) env' (E' e):=by(repeat' (first|exact trivial|refine⟨rfl,?_⟩))):TC prog h0 N c env H (kq prog h0 N k (Ke h0 b E' Hb Q)):=Gc n hm (Cl h π hpre hH hπ hE)
theorem L'{β:Type}{e r:β}{w:β->A}{Hb:β->Qc}{fn:Func}{k:AA Kf}{c:Code}(n:Nat)(hm:KQ F8 h0 N n (.code c) k env H=AC (.out .ret,[],env',H'))(h:AC e=AC r)(a:Nat)(π:AA Nat)(hr:fn.results= #[.tmp a]:=by rfl)(hpre:π.take h0=List.range h0:=by rfl)(hH:π.map (λp=>H'[p]?)=((Hb e).map (Q1 (Ci π (AI H')))).map some:=by rfl)(hπ:π.Nodup:=by decide)(hE:IO (Ci π (AI H')) env' [(a,w e)]:=by exact⟨rfl,trivial⟩):TC prog h0 N c env H (kq prog h0 N k (Jc prog h0 fn (RQ w Hb r))):=Gc n hm (Rt h a π hr hpre hH hπ hE)
theorem Fg{k:AA Kf}{e1:Env}(n:Nat)(h:gD env H=AC (e1,H1))(hm:KQ F8 h0 N n (.ops all l) k e1 H1=AC (c',k',env',H'))(g:Hd prog h0 N c' k' env' H' Q):WO prog h0 N all l env H (kq prog h0 N k Q):=FE h (Go n hm g)
@[reducible] def Ks{β:Type}(F:AB β)(f:FuncId)(args:AA A)(H:Qc)(w:β->A):Prop:=Kp prog F f args H w λ_=>H
@[reducible] def Kq{β:Type}(F:AB β)(f:FuncId)(args:AA A)(H:Qc)(w:β->A)(H1:β->Qc):Prop:=Kp prog F f args H w H1
theorem Kg{β:Type}{F:AB β}{f:FuncId}{fn:Func}{c:Code}{w:β->A}{H1:β->Qc}(n:Nat)(hf:prog.funcs[f]?=AC fn)(hb:fn.body=AC c)(hN:fn.ntmps=N)(hA:Nat.ble (AI args) N=AE)(h:KQ F8 (AI H) N n (.code c) [] (Kh 0 args) H=AC (c',k',env',H'))(g:∀r,F=AC r->Hd prog (AI H) N c' k' env' H' (Jc prog (AI H) fn (RQ w H1 r))):Kp prog F f args H w H1:=Kp.b hf hb hN hA λr e=>G0 n h (g r e)
theorem D(n:Nat)(h:dV F8 N m l ds env H n (AI xs) r xs=AC (r',xs'))(k:DS prog N m l ds env H K r' xs'):DS prog N m l ds env H K r xs:=mA It n _ rfl h k
theorem Iz(h:CI L i=AC v)(q:SD o env=AC (d,t,k,L.map e,kk,i))(g:WO prog h0 N all l (up env d (.rp (e v))) H Q)(ht:H8 Il.sl t=AC (et,k):=by rfl)(hg:Yg all o env=AC true:=by rfl)(hN:Nat.blt d N=true:=by rfl):WO prog h0 N all (o::l) env H Q:=vM Rc h q g ht hg hN
theorem FU{cs:AA A}(h:CI L i=AC v)(he:e v=cs)(q:SD o env=AC (d,t,k,L.map e,kk,i))(g:WO prog h0 N all l (up env d (.rp cs)) H Q)(ht:H8 Il.sl t=AC (et,k):=by rfl)(hg:Yg all o env=AC true:=by rfl)(hN:Nat.blt d N=true:=by rfl):WO prog h0 N all (o::l) env H Q:=Ize Rc h he q g ht hg hN
theorem Lm{k':Nat}(q:R9 o env=AC (d,t,.mk (.q k (L.map e))))(g:WO prog h0 N all l (up env d (I (AI L))) H Q)(ht:H8 Il.sl t=AC (et,k'):=by rfl)(hg:Yg all o env=AC true:=by rfl)(hN:Nat.blt d N=true:=by rfl):WO prog h0 N all (o::l) env H Q:=Lmz Rc q g ht hg hN
theorem Lg{k:AA Kf}{i k1:Nat}(n:Nat)(q:R9 o env=AC (d,t,.mk (.q i (L.map e))))(hm:KQ F8 h0 N n (.ops all l) k (up env d (I (AI L))) H=AC (c',k',env',H'))(g:Hd prog h0 N c' k' env' H' Q)(ht:H8 Il.sl t=AC (et,k1):=by rfl)(hg:Yg all o env=AC true:=by rfl)(hN:Nat.blt d N=true:=by rfl):WO prog h0 N all (o::l) env H (kq prog h0 N k Q):=Lm q (Go n hm g) ht hg hN
theorem Cz{β γ:Type}{F:AB β}{F':β->AB γ}{r:γ}{w:β->A}(π:AA Nat)(h:F.bind F'=AC r)(hC:∀v,F=AC v->C prog f argsc Hc (RQ w (λ_=>Hc) v))(hop:KO Il o env=AC (d,f,args))(g:∀v,F=AC v->F' v=AC r->WO prog h0 N all l (up env d (w v)) H Q)(hv:∀v,RT (w v)=AC (.mk (w v)):=by exact λ_=>rfl)(hargs:args=JJ (Ci π (AI H)) argsc:=by rfl)(hH:π.map (λp=>H[p]?)=(Hc.map (Q1 (Ci π (AI H)))).map some:=by rfl)(hπ:π.Nodup:=by decide)(hg:Yg all o env=AC true:=by rfl)(hN:Nat.blt d N=true:=by rfl)(hh:Nat.ble h0 (AI H)=true:=by rfl):WO prog h0 N all (o::l) env H Q:=Czz Rc π h hC hop g hv hargs hH hπ hg hN hh
theorem Cb{β γ:Type}{F:AB β}{F':β->AB γ}{r:γ}{w:β->A}(h:F.bind F'=AC r)(hC:∀v,F=AC v->C prog f argsc [] (RQ w Ze v))(hop:KO Il o env=AC (d,f,args))(hL:Dw H args argsc)(g:∀v,F=AC v->F' v=AC r->WO prog h0 N all l (up env d (w v)) H Q)(hv:∀v,Yv (w v)=true:=by exact λ_=>rfl)(hg:Yg all o env=AC true:=by rfl)(hN:Nat.blt d N=true:=by rfl):WO prog h0 N all (o::l) env H Q:=Cbz Rc h hC hop hL g hv hg hN
theorem Dz{β γ:Type}{F:AB β}{F':β->AB γ}{r:γ}{w:β->A}(π:AA Nat)(h:F.bind F'=AC r)(hC:∀v,F=AC v->C prog f argsc Hc (RQ w (λ_=>Hc) v))(hop:KO Il o (Q7 (Qi o) 0 ds xs env)=AC (d,f,args))(g:∀v,F=AC v->F' v=AC r->DS prog N m ll ds env H K l (xs++[w v]))(hv:∀v,RT (w v)=AC (.mk (w v)):=by exact λ_=>rfl)(hargs:args=JJ (Ci π (AI H)) argsc:=by rfl)(hH:π.map (λp=>H[p]?)=(Hc.map (Q1 (Ci π (AI H)))).map some:=by rfl)(hπ:π.Nodup:=by decide)(hg:Yg ll.toArray o (Q7 (Qi o) 0 ds xs env)=AC true:=by rfl)(hN:Nat.blt d N=true:=by rfl)(hx:Nat.blt (AI xs) m=true:=by rfl):DS prog N m ll ds env H K (o::l) xs:=DzZ Rc π h hC hop g hv hargs hH hπ hg hN hx
theorem DP(m:Nat)(hc:Go.Sw.draw0 l m N (I4 m 0 l)=AE)(h:DS prog N m l (I4 m 0 l) env H (λr e H=>WO prog h0 N l.toArray r e H Q) l [])(h0B:Nat.ble h0 (AI H)=true:=by rfl):TC prog h0 N (.region id l.toArray AE) env H Q:=QpM (k:=[]) m DD hc h0B h
theorem Da{cat:AA Nat}(n:Nat)(h:dU F8 N m cat l ds env H n (AI xs) r xs=AC (r',xs'))(k:DA prog N m cat l ds env H K r' xs'):DA prog N m cat l ds env H K r xs:=l_ It n _ rfl h k
theorem Db{cat:AA Nat}(n:Nat)(h:Sp F8 N cat l ds env H1 n (AI xs) r xs=AC (r',xs'))(k:DB prog N m cat l ds env H H1 K r' xs'):DB prog N m cat l ds env H H1 K r xs:=eK It n _ rfl h k
theorem Dk(k:Nat){B:AA (Nat×AB CW)}(h:Sq F8 N m cat l ds env n B.isEmpty k (AI xs) (AI Hs) Hs X r xs=AC (Hs',r',xs'))(g:DK prog N m bs cat l ds env n K B Hs' X r' xs'):DK prog N m bs cat l ds env n K B Hs X r xs:=eM It (λh=>List.isEmpty_iff.1 h) k _ _ rfl rfl h g
theorem W7{B:AA (Nat×AB CW)}{lo hi:Nat}(h:ZK F8 o (Q7 (Qi o) 0 ds xs env) x (hi+1-lo) (X::Hs))(k:DK prog N m bs cat l ds env n K B Hs X r (xs++[x]))(hc:YJ cat (AI xs)=AC (0,lo,hi):=by rfl)(hd:o.dst=AC d:=by rfl)(hcH:Nat.beq hi (AI Hs)=true:=by rfl)(hg:Yg ⟨l⟩ o (Q7 (Qi o) 0 ds xs env)=AC true:=by rfl)(hN:Nat.blt d N=true:=by rfl)(hle:Nat.ble lo hi=true:=by rfl):DK prog N m bs cat l ds env n K B Hs X (o::r) xs:=DK.vs It h k hc hd hcH hg hN hle
theorem HY(m:Nat)(bs:AA Nat)(cat:NE)(hc:HR l m N (I4 m 0 l) (oY cat) (oP bs cat) (f_ bs) (P_ cat)=AE)(h:DK prog N m bs cat l (I4 m 0 l) env (AI H) (λr e H=>WO prog h0 N l.toArray r e H Q) [] [] H l [])(hcl:Nat.beq (AI cat) m=true:=by rfl)(h0B:Nat.ble h0 (AI H)=true:=by rfl):TC prog h0 N (.region id l.toArray AE) env H Q:=QpN m bs cat DD hc hcl h0B h
theorem KG{B:AA (Nat×AB CW)}{lo hi b:Nat}(h:ZK F8 o (Q7 (Qi o) 0 ds xs env) x (AI Hs+1-lo) (X::Hs))(k:DK prog N m bs cat l ds env n K ((b,X[b]?)::B) Hs X r (xs++[x]))(hc:YJ cat (AI xs)=AC (0,lo,hi):=by rfl)(hl:ga o (Q7 (Qi o) 0 ds xs env)=AC b:=by rfl)(hd:o.dst=AC d:=by rfl)(hlo:Nat.ble lo (AI Hs)=true:=by rfl)(hhi:Nat.ble hi (AI bs)=true:=by rfl)(hg:Yg ⟨l⟩ o (Q7 (Qi o) 0 ds xs env)=AC true:=by rfl)(hN:Nat.blt d N=true:=by rfl):DK prog N m bs cat l ds env n K B Hs X (o::r) xs:=R? It hl h k hc hd hlo hhi hg hN
theorem NI(m b:Nat)(cat:AA Nat)(hc:HR l m N (I4 m 0 l) (oZ cat) (oQ b cat) [[],[b]] (P' cat)=AE)(h:DA prog N m cat l (I4 m 0 l) env H (λr e H=>WO prog h0 N l.toArray r e H Q) l [])(hcl:Nat.beq (AI cat) m=true:=by rfl)(h0B:Nat.ble h0 (AI H)=true:=by rfl):TC prog h0 N (.region id l.toArray AE) env H Q:=QpO m b cat DD hc hcl h0B h
theorem Cd{β γ:Type}{F:AB β}{F':β->AB γ}{r:γ}{w:β->A}{Hr:β->Qc}(π:AA Nat)(h:F.bind F'=AC r)(hC:∀v,F=AC v->C prog f argsc Hc (RQ w Hr v))(hop:KO Il o env=AC (d,f,args))(g:∀v,F=AC v->F' v=AC r->WO prog h0 N all l (up env d (Y0 (Ci π (AI H)) (w v))) (Yc H π ((Hr v).map (Q1 (Ci π (AI H))))) Q)(hargs:args=JJ (Ci π (AI H)) argsc:=by rfl)(hH:π.map (λp=>H[p]?)=(Hc.map (Q1 (Ci π (AI H)))).map some:=by rfl)(hπ:π.Nodup:=by decide)(hg:Yg all o env=AC true:=by rfl)(hN:Nat.blt d N=true:=by rfl)(hh:Nat.ble h0 (AI H)=true:=by rfl):WO prog h0 N all (o::l) env H Q:=Cdz Rc π h hC hop g hargs hH hπ hg hN hh
theorem v0{i:Nat}(hx:xs[i]?=AC x)(h:gY jB N l ds xs env0 H i=AC x):Jn prog N l ds xs env0 hB hE i H H:=vQ It.ty hx h
theorem ov{i c:Nat}(k:Oq prog N l ds xs env0 H (i+1) c)(hx:xs[i]?=AC x:=by rfl)(h:gY jB N l ds xs env0 H i=AC x:=by rfl):Oq prog N l ds xs env0 H i (c+1):=.c (vQ It.ty hx h) k
end
theorem Z0{T:Type}{X:FW T}{st:HQ T}{h0 N:Nat}{c:Code}{c':Cf}{k':AA Kf}{env env':Env}{H H':Qc}{Q:YR T}(n:Nat)(h:ZN F8 h0 N n (.code c) [] env H=AC (c',k',env',H'))(g:S_ X prog h0 N c' k' env' H' st Q):Cy X prog h0 N c env H st Q:=iF It n h g
theorem iu{T:Type}{X:FW T}{st:HQ T}{h0 N:Nat}{k:AA Kf}{all:Array AM}{l:AA AM}{c':Cf}{k':AA Kf}{env env':Env}{H H':Qc}{Q:YR T}(n:Nat)(h:ZN F8 h0 N n (.ops all l) k env H=AC (c',k',env',H'))(g:S_ X prog h0 N c' k' env' H' st Q):FS X prog h0 N all l env H st (NY X prog h0 N k Q):=iF It n h g
theorem Hu{T:Type}{X:FW T}{st:HQ T}{h0 N:Nat}{k:AA Kf}{x:LZ}{c':Cf}{k':AA Kf}{env env':Env}{H H':Qc}{Q:YR T}(n:Nat)(h:ZN F8 h0 N n (.out x) k env H=AC (c',k',env',H'))(g:S_ X prog h0 N c' k' env' H' st Q):NY X prog h0 N k Q x env H st:=iF It n h g
def D6:Go.Shelf.Ren:=⟨λ|144=>313|143=>326|219=>329|217=>331|225=>332|224=>333|267=>334|266=>335|314=>336|n=>n,λ|9=>9|4=>4|3=>3|5=>5|46=>223|146=>303|51=>302|n=>n,λ|1=>0|n=>n⟩
theorem QdL:Go.Proofs.Lays.n144 prog D6:=by
  constructor<;>first|kernel_rfl|(intro;kernel_rfl)|exact gl (by kernel_rfl) (by kernel_rfl)
def FF:Go.Shelf.Ren:=⟨λ|21=>220|27=>279|28=>280|35=>311|39=>324|n=>n,λ|22=>73|3=>3|4=>4|0=>0|n=>n,λ|n=>n⟩
theorem QeG:Go.Proofs.Lays2.n21 prog FF:=by
  constructor<;>first|kernel_rfl|(intro;kernel_rfl)|exact gl (by kernel_rfl) (by kernel_rfl)
def Fj:Go.Shelf.Ren:=⟨λ|6=>43|15=>104|14=>103|28=>177|29=>178|20=>169|21=>170|22=>171|23=>172|24=>173|25=>174|26=>175|27=>176|46=>263|47=>264|48=>265|49=>266|50=>267|57=>304|n=>n,λ|22=>55|24=>75|25=>154|3=>3|39=>223|0=>0|53=>302|55=>305|4=>4|46=>311|45=>310|50=>315|5=>5|9=>9|66=>397|70=>401|76=>427|77=>240|n=>n,λ|n=>n⟩
theorem Qhz:Go.Proofs.SlLaysF0.n6 prog Fj:=by
  constructor<;>first|kernel_rfl|(intro;kernel_rfl)|exact gl (by kernel_rfl) (by kernel_rfl)
def Fi:Go.Shelf.Ren:=⟨λ|6=>57|15=>104|14=>116|28=>177|29=>178|20=>184|21=>185|22=>186|23=>187|24=>188|25=>189|26=>190|27=>191|46=>269|47=>264|48=>265|49=>270|50=>271|57=>305|n=>n,λ|22=>51|24=>77|25=>164|3=>3|39=>223|0=>0|53=>302|55=>305|4=>4|46=>311|45=>310|50=>315|5=>5|9=>9|66=>397|70=>401|76=>427|77=>240|n=>n,λ|n=>n⟩
theorem Qhy:Go.Proofs.SlLaysF0.n6 prog Fi:=by
  constructor<;>first|kernel_rfl|(intro;kernel_rfl)|exact gl (by kernel_rfl) (by kernel_rfl)
end Go.Sw
