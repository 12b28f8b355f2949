/- The types of OutcomeGun and facts on them. -/
import Derived.Test.YtbiglpikpigidaaGreatL3
import Derived.Test.YtbiglpikpigidaaGreatProg
set_option linter.unusedVariables false
set_option linter.unusedSimpArgs false
set_option maxRecDepth 100000
set_option maxHeartbeats 4000000
namespace Go.Sw
open Option renaming some→AC
open Bool renaming false→AD,true→AE
open List renaming length→AI
open Go renaming Value→AL,Oper→AM
open List(map)
open Int(toNat)
open Go.IntKind(i64 u64 u8)
open Go.Proofs Tryz
abbrev eI:Int->AA A:=Yq .i64
abbrev EB:=@runUnderlying73
abbrev EC:=@sizeOf3
abbrev ED:=@runUnderlying34
abbrev EE:=@isAgg3
abbrev EF:=@sizeOf120
abbrev EG:=@runUnderlying37
abbrev EH:=@runUnderlying91
abbrev EI:=@zeroValue83
abbrev EJ:=@runUnderlying24
abbrev EK:=@underlying137
abbrev EL:=@runUnderlying268
abbrev EM:=@runUnderlying51
abbrev EN:=@sizeOf41
abbrev EO:=@sizeOf73
abbrev EP:=@sizeOf77
abbrev EQ:=@runUnderlying44
abbrev ES:=@runUnderlying36
abbrev ET:=@runUnderlying42
abbrev EU:=@runUnderlying443
abbrev EV:=@zeroValue3
abbrev EW:=@sizeOf66
abbrev EX:=@runUnderlying279
abbrev EY:=@sizeOf98
abbrev EZ:=@runUnderlying201
abbrev E0:=@underlying414
abbrev E3:=@runUnderlying230
abbrev E4:=@runUnderlying3
abbrev E5:=@runUnderlying120
abbrev E6:=@sizeOf209
abbrev E7:=@zeroValue4
abbrev E8:=@runUnderlying131
abbrev E9:=@runUnderlying447
abbrev Ga:=@sizeOf5
abbrev Gb:=@runUnderlying23
abbrev Gd:=@sizeOf139
abbrev Ge:=@sizeOf83
abbrev Gf:=@sizeOf50
abbrev Gg:=@isAgg77
abbrev Gh:=@runUnderlying9
abbrev Gi:=@runUnderlying5
abbrev Gj:=@sizeOf200
abbrev Gk:=@runUnderlying395
abbrev Gm:=@runUnderlying270
abbrev Gn:=@runUnderlying305
abbrev Gp:=@underlying9
abbrev Gq:=@isAgg73
abbrev Gr:=@runUnderlying83
abbrev Gs:=@zeroValue145
abbrev Gu:=@underlying3
abbrev Gv:=@underlying292
abbrev Gw:=@underlying133
abbrev Gy:=@runUnderlying139
abbrev Gz:=@runUnderlying132
abbrev GA:=@runUnderlying142
abbrev GB:=@runUnderlying102
abbrev GC:=@runUnderlying174
abbrev GD:=@runUnderlying425
abbrev GE:=@isAgg200
abbrev GF:=@runUnderlying64
abbrev GG:=@runUnderlying25
abbrev GH:=@runUnderlying29
abbrev GI:=@runUnderlying98
abbrev GJ:=@sizeOf4
abbrev GK:=@isAgg41
abbrev GL:=@isAgg128
abbrev GM:=@sizeOf221
abbrev GN:=@sizeOf110
abbrev GO:=@sizeOf128
abbrev GQ:=@runUnderlying209
abbrev GR:=@runUnderlying272
abbrev GS:=@runUnderlying223
abbrev GT:=@runUnderlying50
abbrev GU:=@runUnderlying41
abbrev GV:=@runUnderlying55
abbrev GW:=@sizeOf114
abbrev GX:=@sizeOf257
abbrev GY:=@sizeOf145
abbrev GZ:=@sizeOf104
abbrev G1:=@sizeOf100
abbrev G2:=@underlying29
abbrev G3:=@sizeOf447
abbrev G4:=@zeroValue443
abbrev G5:=@sizeOf284
theorem DF:prog.follows .mixedOrders=true:=by rfl
structure AQ where
  A_:Int
  A7:Int
  A6:Int
  Ak:Int
  BC:Int
  deriving DecidableEq
def AQ.c(x:AQ):AA Go.Sw.A:=[I x.A_,I x.A7,I x.A6,I x.Ak,I x.BC]
structure Al where
  An:List UInt8
  AX:Int
  deriving DecidableEq
def Al.c(x:Al):AA Go.Sw.A:=[.str x.An,I x.AX]
structure Cr where
  BA:Int
  To:Int
  Bo:Int
  Br:Int
  deriving DecidableEq
def Cr.c(x:Cr):AA Go.Sw.A:=[I x.BA,I x.To,I x.Bo,I x.Br]
structure CH where
  Al:Int
  Ax:Int
  Ac:List CH
mutual
def CH.enc:CH->AA A
  |⟨x0,x1,x2⟩=>[I x0,I x1,.q 3 (CH.encs x2)]
def CH.encs:AA CH->AA (AA A)
  |[]=>[]
  |x::l=>CH.enc x::CH.encs l
end
theorem uh(l:AA CH):CH.encs l=map CH.enc l:=by induction l with|nil=>simp[CH.encs]|cons x l h=>simp[CH.encs,h]
def CH.c(x:CH):AA Go.Sw.A:=[I x.Al,I x.Ax,.q 3 (map CH.enc x.Ac)]
theorem QN(x:CH):CH.enc x=CH.c x:=by cases x;simp[CH.enc,CH.c,uh]
structure CO where
  Al:Int
  B_:Int
  Bu:Int
  deriving DecidableEq
def CO.c(x:CO):AA Go.Sw.A:=[I x.Al,I x.B_,I x.Bu]
structure AN where
  An:List UInt8
  Af:List CH
  A9:Int
  Aq:List CO
  Am:Int
def AN.c(x:AN):AA Go.Sw.A:=[.str x.An,.q 3 (map CH.enc x.Af),I x.A9,.q 3 (map CO.c x.Aq),I x.Am]
structure Aw where
  An:List UInt8
  Bv:Int
  deriving DecidableEq
def Aw.c(x:Aw):AA Go.Sw.A:=[.str x.An,I x.Bv]
structure AZ where
  An:List UInt8
  BX:Int
  Ax:Int
  BM:Bool
  deriving DecidableEq
def AZ.c(x:AZ):AA Go.Sw.A:=[.str x.An,I x.BX,I x.Ax,.b x.BM]
structure AW where
  An:List UInt8
  BA:Int
  To:Int
  deriving DecidableEq
def AW.c(x:AW):AA Go.Sw.A:=[.str x.An,I x.BA,I x.To]
structure CQ where
  AN:Int
  AW:Int
  B3:Int
  BO:Int
  deriving DecidableEq
def CQ.c(x:CQ):AA Go.Sw.A:=[I x.AN,I x.AW,I x.B3,I x.BO]
structure AR where
  AX:Int
  B0:Int
  N:Int
  Ac:List AR
mutual
def AR.enc:AR->AA A
  |⟨x0,x1,x2,x3⟩=>[I x0,I x1,I x2,.q 4 (AR.encs x3)]
def AR.encs:AA AR->AA (AA A)
  |[]=>[]
  |x::l=>AR.enc x::AR.encs l
end
theorem ua(l:AA AR):AR.encs l=map AR.enc l:=by induction l with|nil=>simp[AR.encs]|cons x l h=>simp[AR.encs,h]
def AR.c(x:AR):AA Go.Sw.A:=[I x.AX,I x.B0,I x.N,.q 4 (map AR.enc x.Ac)]
theorem Jj(x:AR):AR.enc x=AR.c x:=by cases x;simp[AR.enc,AR.c,ua]
structure AY where
  AX:Int
  By:Int
  AR:AR
  Ba:List AY
  Bh:List AY
mutual
def AY.enc:AY->AA A
  |⟨x0,x1,x2,x3,x4⟩=>[I x0,I x1,I x2.AX,I x2.B0,I x2.N,.q 4 (map AR.enc x2.Ac),.q 8 (AY.encs x3),.q 8 (AY.encs x4)]
def AY.encs:AA AY->AA (AA A)
  |[]=>[]
  |x::l=>AY.enc x::AY.encs l
end
theorem uk(l:AA AY):AY.encs l=map AY.enc l:=by induction l with|nil=>simp[AY.encs]|cons x l h=>simp[AY.encs,h]
def AY.c(x:AY):AA Go.Sw.A:=[I x.AX,I x.By,I x.AR.AX,I x.AR.B0,I x.AR.N,.q 4 (map AR.enc x.AR.Ac),.q 8 (map AY.enc x.Ba),.q 8 (map AY.enc x.Bh)]
theorem Yr(x:AY):AY.enc x=AY.c x:=by cases x;simp[AY.enc,AY.c,uk]
structure CB where
  An:List UInt8
  Av:List Al
  A4:List Cr
  AO:List AN
  Ap:List Aw
  Ab:List AZ
  AV:List AW
  A3:List CQ
  BN:List AY
  AQ:AQ
  Bk:Int
  Az:Int
def CB.c(x:CB):AA Go.Sw.A:=[.str x.An,.q 2 (map Al.c x.Av),.q 4 (map Cr.c x.A4),.q 5 (map AN.c x.AO),.q 2 (map Aw.c x.Ap),.q 4 (map AZ.c x.Ab),.q 3 (map AW.c x.AV),.q 4 (map CQ.c x.A3),.q 8 (map AY.enc x.BN),I x.AQ.A_,I x.AQ.A7,I x.AQ.A6,I x.AQ.Ak,I x.AQ.BC,I x.Bk,I x.Az]
structure AP where
  BU:Int
  AN:Int
  Aw:Int
  BK:Int
  B7:Int
  BB:Int
  Bl:Int
  B6:Int
  deriving DecidableEq
def AP.c(x:AP):AA Go.Sw.A:=[I x.BU,I x.AN,I x.Aw,I x.BK,I x.B7,I x.BB,I x.Bl,I x.B6]
structure A5 where
  Al:Int
  Ah:Int
  BB:Int
  BD:Int
  deriving DecidableEq
def A5.c(x:A5):AA Go.Sw.A:=[I x.Al,I x.Ah,I x.BB,I x.BD]
structure Aa where
  Al:Int
  Ah:Int
  BD:Int
  True:Int
  B8:Int
  deriving DecidableEq
def Aa.c(x:Aa):AA Go.Sw.A:=[I x.Al,I x.Ah,I x.BD,I x.True,I x.B8]
structure Ao where
  Bt:Int
  Bg:Int
  Bc:Int
  Bs:Int
  Bf:Int
  Bb:Int
  Bo:Int
  Br:Int
  deriving DecidableEq
def Ao.c(x:Ao):AA Go.Sw.A:=[I x.Bt,I x.Bg,I x.Bc,I x.Bs,I x.Bf,I x.Bb,I x.Bo,I x.Br]
structure Ae where
  BU:Int
  AT:Int
  Lo:Int
  Hi:Int
  deriving DecidableEq
def Ae.c(x:Ae):AA Go.Sw.A:=[I x.BU,I x.AT,I x.Lo,I x.Hi]
structure Au where
  Al:Int
  Ah:Int
  Lo:Int
  Hi:Int
  deriving DecidableEq
def Au.c(x:Au):AA Go.Sw.A:=[I x.Al,I x.Ah,I x.Lo,I x.Hi]
structure Be where
  A:Int
  B:Int
  deriving DecidableEq
def Be.c(x:Be):AA Go.Sw.A:=[I x.A,I x.B]
structure Aj where
  BJ:Int
  BU:Int
  AZ:Int
  AT:Int
  deriving DecidableEq
def Aj.c(x:Aj):AA Go.Sw.A:=[I x.BJ,I x.BU,I x.AZ,I x.AT]
structure Ay where
  BJ:Int
  By:Int
  Bk:Int
  B4:Int
  deriving DecidableEq
def Ay.c(x:Ay):AA Go.Sw.A:=[I x.BJ,I x.By,I x.Bk,I x.B4]
structure Ag where
  BJ:Int
  BW:Int
  AX:Int
  BU:Int
  AT:Int
  BO:Int
  deriving DecidableEq
def Ag.c(x:Ag):AA Go.Sw.A:=[I x.BJ,I x.BW,I x.AX,I x.BU,I x.AT,I x.BO]
structure BE where
  BJ:Int
  Bi:Bool
  deriving DecidableEq
def BE.c(x:BE):AA Go.Sw.A:=[I x.BJ,.b x.Bi]
structure L0 where
  BF:Int
  No:Int
  deriving DecidableEq
def L0.c(x:L0):AA Go.Sw.A:=[I x.BF,I x.No]
structure CI where
  BF:Int
  No:Int
  At:Int
  AX:Int
  AP:AP
  A5:A5
  Aa:Aa
  Ao:Ao
  Ae:Ae
  Au:Au
  Be:Be
  Aj:Aj
  Ay:Ay
  Ag:Ag
  BE:BE
  Bq:L0
  deriving DecidableEq
def CI.c(x:CI):AA Go.Sw.A:=[I x.BF,I x.No,I x.At,I x.AX,I x.AP.BU,I x.AP.AN,I x.AP.Aw,I x.AP.BK,I x.AP.B7,I x.AP.BB,I x.AP.Bl,I x.AP.B6,I x.A5.Al,I x.A5.Ah,I x.A5.BB,I x.A5.BD,I x.Aa.Al,I x.Aa.Ah,I x.Aa.BD,I x.Aa.True,I x.Aa.B8,I x.Ao.Bt,I x.Ao.Bg,I x.Ao.Bc,I x.Ao.Bs,I x.Ao.Bf,I x.Ao.Bb,I x.Ao.Bo,I x.Ao.Br,I x.Ae.BU,I x.Ae.AT,I x.Ae.Lo,I x.Ae.Hi,I x.Au.Al,I x.Au.Ah,I x.Au.Lo,I x.Au.Hi,I x.Be.A,I x.Be.B,I x.Aj.BJ,I x.Aj.BU,I x.Aj.AZ,I x.Aj.AT,I x.Ay.BJ,I x.Ay.By,I x.Ay.Bk,I x.Ay.B4,I x.Ag.BJ,I x.Ag.BW,I x.Ag.AX,I x.Ag.BU,I x.Ag.AT,I x.Ag.BO,I x.BE.BJ,.b x.BE.Bi,I x.Bq.BF,I x.Bq.No]
structure CC where
  BM:Bool
  BS:Int
  Lo:Int
  Hi:Int
  deriving DecidableEq
def CC.c(x:CC):AA Go.Sw.A:=[.b x.BM,I x.BS,I x.Lo,I x.Hi]
abbrev Uz:CC:={BM:=AD,BS:=0,Lo:=0,Hi:=0}
structure CF where
  AT:Int
  BX:Int
  Ax:Int
  BM:Bool
  deriving DecidableEq
def CF.c(x:CF):AA Go.Sw.A:=[I x.AT,I x.BX,I x.Ax,.b x.BM]
abbrev UA:CH:={Al:=0,Ax:=0,Ac:=[]}
abbrev Uu:AN:={An:=[],Af:=[],A9:=0,Aq:=[],Am:=0}
abbrev Us:AR:={AX:=0,B0:=0,N:=0,Ac:=[]}
abbrev UI:AY:={AX:=0,By:=0,AR:=Us,Ba:=[],Bh:=[]}
abbrev Uw:AQ:={A_:=0,A7:=0,A6:=0,Ak:=0,BC:=0}
abbrev Ut:CB:={An:=[],Av:=[],A4:=[],AO:=[],Ap:=[],Ab:=[],AV:=[],A3:=[],BN:=[],AQ:=Uw,Bk:=0,Az:=0}
structure CD where
  Al:Int
  Ah:Int
  BI:Int
  deriving DecidableEq
def CD.c(x:CD):AA Go.Sw.A:=[I x.Al,I x.Ah,I x.BI]
structure CE where
  AS:List CD
  BP:List (List Int)
  deriving DecidableEq
def CE.c(x:CE):AA Go.Sw.A:=[.q 3 (map CD.c x.AS),.q 1 (map (Qu 1 eI) x.BP)]
structure CN where
  Al:Int
  Ah:Int
  BB:Int
  BQ:Int
  A8:Int
  deriving DecidableEq
def CN.c(x:CN):AA Go.Sw.A:=[I x.Al,I x.Ah,I x.BB,I x.BQ,I x.A8]
structure Ui where
  Ar:CB
  Bj:CE
  Ad:AP
  Bw:List CN
  Bm:List Ae
  BY:List CF
  BV:Int
  As:Int
def Ui.c(x:Ui):AA Go.Sw.A:=[.str x.Ar.An,.q 2 (map Al.c x.Ar.Av),.q 4 (map Cr.c x.Ar.A4),.q 5 (map AN.c x.Ar.AO),.q 2 (map Aw.c x.Ar.Ap),.q 4 (map AZ.c x.Ar.Ab),.q 3 (map AW.c x.Ar.AV),.q 4 (map CQ.c x.Ar.A3),.q 8 (map AY.enc x.Ar.BN),I x.Ar.AQ.A_,I x.Ar.AQ.A7,I x.Ar.AQ.A6,I x.Ar.AQ.Ak,I x.Ar.AQ.BC,I x.Ar.Bk,I x.Ar.Az,.q 3 (map CD.c x.Bj.AS),.q 1 (map (Qu 1 eI) x.Bj.BP),I x.Ad.BU,I x.Ad.AN,I x.Ad.Aw,I x.Ad.BK,I x.Ad.B7,I x.Ad.BB,I x.Ad.Bl,I x.Ad.B6,.q 5 (map CN.c x.Bw),.q 4 (map Ae.c x.Bm),.q 4 (map CF.c x.BY),I x.BV,I x.As]
abbrev UH:AP:={BU:=0,AN:=0,Aw:=0,BK:=0,B7:=0,BB:=0,Bl:=0,B6:=0}
abbrev FO:Ui:={Ar:=Ut,Bj:={AS:=[],BP:=[]:CE},Ad:=UH,Bw:=[],Bm:=[],BY:=[],BV:=0,As:=0}
structure Ul where
  BZ:Int
  to_:Int
  deriving DecidableEq
def Ul.c(x:Ul):AA Go.Sw.A:=[I x.BZ,I x.to_]
structure Up where
  B5:Int
  B2:Int
  CA:Int
  deriving DecidableEq
def Up.c(x:Up):AA Go.Sw.A:=[I x.B5,I x.B2,I x.CA]
structure Uq where
  AY:AY
def Uq.c(x:Uq):AA Go.Sw.A:=[I x.AY.AX,I x.AY.By,I x.AY.AR.AX,I x.AY.AR.B0,I x.AY.AR.N,.q 4 (map AR.enc x.AY.AR.Ac),.q 8 (map AY.enc x.AY.Ba),.q 8 (map AY.enc x.AY.Bh)]
structure Uj where
  AR:AR
def Uj.c(x:Uj):AA Go.Sw.A:=[I x.AR.AX,I x.AR.B0,I x.AR.N,.q 4 (map AR.enc x.AR.Ac)]
inductive Um where
  |ctyping_step (x:Uq)
  |ctyping_cond (x:Uj)
def Um.val:Um->A
  |.ctyping_step x=>.iface 425 (.a (Uq.c x))
  |.ctyping_cond x=>.iface 443 (.a (Uj.c x))
def Um.enc(x:Um):AA A:=[x.val]
def Um.elim{R:Type}(e:Um)(f0:Uq->AB R)(f1:Uj->AB R):AB R:=match e with
  |.ctyping_step x=>f0 x
  |.ctyping_cond x=>f1 x
theorem Um.data(x:Um):YJ x.val=true:=by cases x<;>rfl
theorem JK(e:Um):(∃x,e=.ctyping_step x)\/(∃x,e=.ctyping_cond x):=by cases e<;>simp
theorem Jw{R:Type}{e:Um}{x:Uq}{f0:Uq->AB R}{f1:Uj->AB R}{r:R}(hE:e=.ctyping_step x)(h:Um.elim e f0 f1=AC r):f0 x=AC r:=by subst hE;exact h
theorem Ju{R:Type}{e:Um}{x:Uj}{f0:Uq->AB R}{f1:Uj->AB R}{r:R}(hE:e=.ctyping_cond x)(h:Um.elim e f0 f1=AC r):f1 x=AC r:=by subst hE;exact h
structure Uk where
  BG:Int
  BH:Int
  deriving DecidableEq
def Uk.c(x:Uk):AA Go.Sw.A:=[I x.BG,I x.BH]
structure Ua where
  mat:Int
  BT:Int
  deriving DecidableEq
def Ua.c(x:Ua):AA Go.Sw.A:=[I x.mat,I x.BT]
structure CK where
  Lo:Int
  Hi:Int
  deriving DecidableEq
def CK.c(x:CK):AA Go.Sw.A:=[I x.Lo,I x.Hi]
structure Ue where
  Ai:Int
  A':CK
  deriving DecidableEq
def Ue.c(x:Ue):AA Go.Sw.A:=[I x.Ai,I x.A'.Lo,I x.A'.Hi]
structure Ub where
  BZ:Int
  to_:Int
  deriving DecidableEq
def Ub.c(x:Ub):AA Go.Sw.A:=[I x.BZ,I x.to_]
structure Ud where
  B9:Int
  mat:Int
  BT:Int
  deriving DecidableEq
def Ud.c(x:Ud):AA Go.Sw.A:=[I x.B9,I x.mat,I x.BT]
structure Uf where
  mat:Int
  BT:Int
  deriving DecidableEq
def Uf.c(x:Uf):AA Go.Sw.A:=[I x.mat,I x.BT]
structure Uh where
  Bn:Int
  Bz:Ue
  row:Int
  deriving DecidableEq
def Uh.c(x:Uh):AA Go.Sw.A:=[I x.Bn,I x.Bz.Ai,I x.Bz.A'.Lo,I x.Bz.A'.Hi,I x.row]
abbrev DT:Uh:={Bn:=0,Bz:={Ai:=0,A':={Lo:=0,Hi:=0:CK}:Ue},row:=0}
structure CX where
  BL:List Int
  A8:Int
  deriving DecidableEq
def CX.c(x:CX):AA Go.Sw.A:=[.q 1 (map eI x.BL),I x.A8]
abbrev Uy:Ae:={BU:=0,AT:=0,Lo:=0,Hi:=0}
abbrev UB:CF:={AT:=0,BX:=0,Ax:=0,BM:=AD}
structure Edge where
  BA:Int
  To:Int
  W:Int
  deriving DecidableEq
def Edge.c(x:Edge):AA Go.Sw.A:=[I x.BA,I x.To,I x.W]
abbrev UD:A5:={Al:=0,Ah:=0,BB:=0,BD:=0}
abbrev Ur:Aa:={Al:=0,Ah:=0,BD:=0,True:=0,B8:=0}
abbrev UJ:Ao:={Bt:=0,Bg:=0,Bc:=0,Bs:=0,Bf:=0,Bb:=0,Bo:=0,Br:=0}
abbrev UG:Au:={Al:=0,Ah:=0,Lo:=0,Hi:=0}
abbrev UE:Aj:={BJ:=0,BU:=0,AZ:=0,AT:=0}
abbrev UC:Ay:={BJ:=0,By:=0,Bk:=0,B4:=0}
abbrev UF:Ag:={BJ:=0,BW:=0,AX:=0,BU:=0,AT:=0,BO:=0}
abbrev Uv:CI:={BF:=0,No:=0,At:=0,AX:=0,AP:=UH,A5:=UD,Aa:=Ur,Ao:=UJ,Ae:=Uy,Au:=UG,Be:={A:=0,B:=0:Be},Aj:=UE,Ay:=UC,Ag:=UF,BE:={BJ:=0,Bi:=AD:BE},Bq:={BF:=0,No:=0:L0}}
structure AL where
  AX:Int
  N:Int
  S:List UInt8
  L:List AL
mutual
def Value.enc:AL->AA A
  |⟨x0,x1,x2,x3⟩=>[I x0,I x1,.str x2,.q 4 (Value.encs x3)]
def Value.encs:AA AL->AA (AA A)
  |[]=>[]
  |x::l=>Value.enc x::Value.encs l
end
theorem Qgq(l:AA AL):Value.encs l=map Value.enc l:=by induction l with|nil=>simp[Value.encs]|cons x l h=>simp[Value.encs,h]
def Value.c(x:AL):AA Go.Sw.A:=[I x.AX,I x.N,.str x.S,.q 4 (map Value.enc x.L)]
theorem mv(x:AL):Value.enc x=Value.c x:=by cases x;simp[Value.enc,Value.c,Qgq]
abbrev UK:AL:={AX:=0,N:=0,S:=[],L:=[]}
structure Co where
  A0:Int
  Bp:List Edge
  deriving DecidableEq
def Co.c(x:Co):AA Go.Sw.A:=[I x.A0,.q 3 (map Edge.c x.Bp)]
structure CV where
  K:CE
  S:AP
  BL:List CN
  B':List Ae
  P:List CF
  deriving DecidableEq
def CV.c(x:CV):AA Go.Sw.A:=[.q 3 (map CD.c x.K.AS),.q 1 (map (Qu 1 eI) x.K.BP),I x.S.BU,I x.S.AN,I x.S.Aw,I x.S.BK,I x.S.B7,I x.S.BB,I x.S.Bl,I x.S.B6,.q 5 (map CN.c x.BL),.q 4 (map Ae.c x.B'),.q 4 (map CF.c x.P)]
abbrev Cc:CV:={K:={AS:=[],BP:=[]:CE},S:=UH,BL:=[],B':=[],P:=[]}
instance Jf:ElemTy prog 51 77 4:=⟨EM,EP,⟨_,zeroValue77,rfl⟩,⟨_,typeInfo77,by decide⟩⟩
instance cF:ElemTy prog 63 252 3:=⟨runUnderlying63,sizeOf252,⟨_,zeroValue252,rfl⟩,⟨_,typeInfo252,by decide⟩⟩
instance cC:ElemTy prog 64 245 3:=⟨GF,sizeOf245,⟨_,zeroValue245,rfl⟩,⟨_,typeInfo245,by decide⟩⟩
instance cI:ElemTy prog 22 214 2:=⟨runUnderlying22,sizeOf214,⟨_,zeroValue214,rfl⟩,⟨_,typeInfo214,by decide⟩⟩
instance cH:ElemTy prog 23 221 4:=⟨Gb,GM,⟨_,zeroValue221,rfl⟩,⟨_,typeInfo221,by decide⟩⟩
instance cG:ElemTy prog 24 66 5:=⟨EJ,EW,⟨_,zeroValue66,rfl⟩,⟨_,typeInfo66,by decide⟩⟩
instance o9:ElemTy prog 25 68 2:=⟨GG,sizeOf68,⟨_,zeroValue68,rfl⟩,⟨_,typeInfo68,by decide⟩⟩
instance oQ:ElemTy prog 29 257 8:=⟨GH,GX,⟨_,zeroValue257,rfl⟩,⟨_,typeInfo257,by decide⟩⟩
instance QF:ElemTy prog 73 3 1:=⟨EB,EC,⟨_,EV,rfl⟩,⟨_,typeInfo3,by decide⟩⟩
instance oX:ElemTy prog 37 73 1:=⟨EG,EO,⟨_,zeroValue73,rfl⟩,⟨_,typeInfo73,by decide⟩⟩
theorem lD:Qs prog 50 2 2 1:=FA GT rfl EC
instance N9:ElemTy prog 279 5 1:=⟨EX,Ga,⟨_,zeroValue5,rfl⟩,⟨_,typeInfo5,by decide⟩⟩
theorem L_:JF prog 9 A.str:=JF.str Gp
theorem pH:prog.underlying 294=AC (.struct (prog.fieldsOf 294)):=by kernel_rfl
theorem H?:prog.stoodInHeld 294=false:=by kernel_rfl
theorem dp:JF prog 294 (λx=>A.a (Ul.c x)):=by
  refine JF.struct pH Zf (λx y h=>?_) (λw em x=>?_) (λw x y=>?_) (λx=>?_)
  · cases x;cases y
    simpa[Q5,YZ,Ul.c]using h
  · simp only[Q5,YZ,Ul.c]
    rw[show(10000:Nat)=9998+1+1 from rfl];generalize(9998:Nat)=d;simp[Instr.checkKey,runUnderlying294,E4,Result.andThen,EC,EE,part]
  · have u3:=Gu
    have a3:=EE;have z3:=EC;simp only[Q5,YZ,Ul.c,Op.equal,Op.maxDepth];rw[show(10000:Nat)=9999+1 from Z,run_equalIn_agg w 9999 294 _ _ pH H?];simp only[Program.fieldsOf,underlying294]
    go_simp
    cases x;cases y;simp
    repeat' split
    all_goals simp_all
  · simp[Q5,YZ,Ul.c,Instr.sameBits]
theorem QqA:Qs prog 68 1 1 1:=FA runUnderlying68 rfl EC
theorem pJ:prog.underlying 392=AC (.struct (prog.fieldsOf 392)):=by kernel_rfl
theorem J?:prog.stoodInHeld 392=false:=by kernel_rfl
theorem Qqp:JF prog 392 (λx=>A.a (Up.c x)):=by
  refine JF.struct pJ Zf (λx y h=>?_) (λw em x=>?_) (λw x y=>?_) (λx=>?_)
  · cases x;cases y
    simpa[Q5,YZ,Up.c]using h
  · simp only[Q5,YZ,Up.c]
    rw[show(10000:Nat)=9998+1+1 from rfl];generalize(9998:Nat)=d;simp[Instr.checkKey,runUnderlying392,E4,Result.andThen,EC,EE,part]
  · have u3:=Gu
    have a3:=EE;have z3:=EC;simp only[Q5,YZ,Up.c,Op.equal,Op.maxDepth];rw[show(10000:Nat)=9999+1 from Z,run_equalIn_agg w 9999 392 _ _ pJ J?];simp only[Program.fieldsOf,underlying392]
    go_simp
    cases x;cases y;simp
    repeat' split
    all_goals simp_all
  · simp[Q5,YZ,Up.c,Instr.sameBits]
instance dV:ElemTy prog 395 422 1:=⟨Gk,sizeOf422,⟨_,zeroValue422,rfl⟩,⟨_,typeInfo422,by decide⟩⟩
theorem YM:JF prog 3 I:=JF.int Gu
theorem sR:Qs prog 209 0 0 1:=FA GQ rfl EC
theorem rY:Qs prog 209 1 1 1:=FA GQ rfl EC
theorem Qot:Qs prog 209 2 2 1:=FA GQ rfl EC
theorem QqD:Qs prog 41 1 1 1:=FA GU rfl EC
theorem _a:S2 prog 136 [(0,16),(16,2),(18,1),(19,1),(20,1),(21,1),(22,1),(23,1),(24,1)]:=⟨_,runUnderlying136,(Ef sizeOf33 (Ef sizeOf39 (Ef EO (Ef sizeOf131 (Ef sizeOf42 (Ef sizeOf132 (Ef sizeOf133 (Ef sizeOf134 (Ef EC PL.nil)))))))))⟩
theorem pI:prog.underlying 358=AC (.struct (prog.fieldsOf 358)):=by kernel_rfl
theorem I?:prog.stoodInHeld 358=false:=by kernel_rfl
theorem Qqq:JF prog 358 (λx=>A.a (Ub.c x)):=by
  refine JF.struct pI Zf (λx y h=>?_) (λw em x=>?_) (λw x y=>?_) (λx=>?_)
  · cases x;cases y
    simpa[Q5,YZ,Ub.c]using h
  · simp only[Q5,YZ,Ub.c]
    rw[show(10000:Nat)=9998+1+1 from rfl];generalize(9998:Nat)=d;simp[Instr.checkKey,runUnderlying358,E4,Result.andThen,EC,EE,part]
  · have u3:=Gu
    have a3:=EE;have z3:=EC;simp only[Q5,YZ,Ub.c,Op.equal,Op.maxDepth];rw[show(10000:Nat)=9999+1 from Z,run_equalIn_agg w 9999 358 _ _ pI I?];simp only[Program.fieldsOf,underlying358]
    go_simp
    cases x;cases y;simp
    repeat' split
    all_goals simp_all
  · simp[Q5,YZ,Ub.c,Instr.sameBits]
inductive CS where
  |c0 (x:Int)
  |c1 (x:Unit)
  |c2 (x:List Int)
  |c3 (x:(List Int)×(List (Ub×Cr)))
theorem Qov:Qs prog 139 0 0 1:=FA Gy rfl EC
theorem Qou:Qs prog 139 1 1 1:=FA Gy rfl EC
theorem sM:Qs prog 139 2 2 1:=FA Gy rfl EC
theorem sQ:Qs prog 139 4 4 1:=FA Gy rfl EC
theorem _V:prog.stoodInHeld 211=false:=by kernel_rfl
theorem Yg(h:Nat):I_ prog 3 (h+1) 1 AD (λl=>∃x:Int,l=[Value.int .i64 x]):=I_.int Gu EE EC h
theorem QqS:W8 prog 211 Uf.c:=by
  refine gn (QR underlying211 _V isAgg211 sizeOf211 (Cv.c Yg (Cv.c Yg (Cv.nil 1 _)))) Z (λx=>⟨[_],_,Z,⟨_,Z⟩,[_],_,Z,⟨_,Z⟩,Z⟩) Zf (λx y h=>?_) (by kernel_rfl);obtain⟨_,_⟩:=x;obtain⟨_,_⟩:=y;simpa[Q5,YZ,Uf.c,and_assoc]using h
theorem Qld:Qs prog 83 0 0 1:=FA Gr rfl EC
theorem Qqy:Qs prog 83 1 1 1:=FA Gr rfl EC
instance pQ:ElemTy prog 132 145 3:=⟨Gz,GY,⟨_,Gs,rfl⟩,⟨_,typeInfo145,by decide⟩⟩
instance pP:ElemTy prog 131 83 2:=⟨E8,Ge,⟨_,EI,rfl⟩,⟨_,typeInfo83,by decide⟩⟩
inductive CM where
  |c0 (x:Int)
  |c1 (x:(List Int)×(List CK)×(List Ue)×(List (Int×Ue))×Int)
instance X?:ElemTy prog 142 4 1:=⟨GA,GJ,⟨_,E7,rfl⟩,⟨_,typeInfo4,by decide⟩⟩
instance oZ:ElemTy prog 55 75 2:=⟨GV,sizeOf75,⟨_,zeroValue75,rfl⟩,⟨_,typeInfo75,by decide⟩⟩
def match_task.tc(x0:CB)(x1:CE)(x2:AA Int)(x3:AA CK)(x4:AA CN)(x5:AA Ue)(x6:A)(x7:A)(x8:Int):AA Go.Sw.A:=[.str x0.An,.q 2 (map Al.c x0.Av),.q 4 (map Cr.c x0.A4),.q 5 (map AN.c x0.AO),.q 2 (map Aw.c x0.Ap),.q 4 (map AZ.c x0.Ab),.q 3 (map AW.c x0.AV),.q 4 (map CQ.c x0.A3),.q 8 (map AY.enc x0.BN),I x0.AQ.A_,I x0.AQ.A7,I x0.AQ.A6,I x0.AQ.Ak,I x0.AQ.BC,I x0.Bk,I x0.Az,.q 3 (map CD.c x1.AS),.q 1 (map (Qu 1 eI) x1.BP),.q 1 (map eI x2),.q 2 (map CK.c x3),.q 5 (map CN.c x4),.q 3 (map Ue.c x5),x6,x7,I x8]
theorem QqC:Qs prog 50 0 0 1:=FA GT rfl EC
theorem QqB:Qs prog 50 3 3 1:=FA GT rfl GJ
theorem g7:Qs prog 77 3 3 1:=FA runUnderlying77 rfl EC
theorem Qqz:Qs prog 77 1 1 1:=FA runUnderlying77 rfl EC
theorem aU:prog.stoodInHeld 77=false:=by kernel_rfl
theorem cJ(h:Nat):I_ prog 4 (h+1) 1 AD (λl=>∃x:Bool,l=[Value.bool x]):=I_.bool underlying4 isAgg4 GJ h
theorem pS:W8 prog 77 CC.c:=by
  refine gn (QR underlying77 aU Gg EP (Cv.c cJ (Cv.c Yg (Cv.c Yg (Cv.c Yg (Cv.nil 1 _)))))) Z (λx=>⟨[_],_,Z,⟨_,Z⟩,[_],_,Z,⟨_,Z⟩,[_],_,Z,⟨_,Z⟩,[_],_,Z,⟨_,Z⟩,Z⟩) Zf (λx y h=>?_) (by kernel_rfl);obtain⟨_,_,_,_⟩:=x;obtain⟨_,_,_,_⟩:=y;simpa[Q5,YZ,CC.c,and_assoc]using h
instance oY:ElemTy prog 43 104 4:=⟨runUnderlying43,GZ,⟨_,zeroValue104,rfl⟩,⟨_,typeInfo104,by decide⟩⟩
instance L6:ElemTy prog 44 50 4:=⟨EQ,Gf,⟨_,zeroValue50,rfl⟩,⟨_,typeInfo50,by decide⟩⟩
theorem aT:prog.stoodInHeld 83=false:=by kernel_rfl
theorem Z?:W8 prog 83 CK.c:=by
  refine gn (QR underlying83 aT isAgg83 Ge (Cv.c Yg (Cv.c Yg (Cv.nil 1 _)))) Z (λx=>⟨[_],_,Z,⟨_,Z⟩,[_],_,Z,⟨_,Z⟩,Z⟩) Zf (λx y h=>?_) (by kernel_rfl);obtain⟨_,_⟩:=x;obtain⟨_,_⟩:=y;simpa[Q5,YZ,CK.c,and_assoc]using h
instance Jy:ElemTy prog 230 9 1:=⟨E3,sizeOf9,⟨_,zeroValue9,rfl⟩,⟨_,typeInfo9,by decide⟩⟩
instance Y?:ElemTy prog 253 255 4:=⟨runUnderlying253,sizeOf255,⟨_,zeroValue255,rfl⟩,⟨_,typeInfo255,by decide⟩⟩
instance ZX:ElemTy prog 34 120 57:=⟨ED,EF,⟨_,zeroValue120,rfl⟩,⟨_,typeInfo120,by decide⟩⟩
theorem TF:Qs prog 120 3 3 1:=FA E5 rfl EC
theorem Qow:Qs prog 120 4 4 8:=FA E5 rfl EN
theorem lC:Qs prog 41 0 0 1:=FA GU rfl EC
theorem mG:Qs prog 41 5 5 1:=FA GU rfl EC
theorem l_:Qs prog 120 5 12 4:=FA E5 rfl EY
theorem lE:Qs prog 98 0 0 1:=FA GI rfl EC
theorem lF:Qs prog 98 1 1 1:=FA GI rfl EC
theorem qG:Qs prog 98 2 2 1:=FA GI rfl EC
theorem g_:Qs prog 98 3 3 1:=FA GI rfl EC
theorem iG:Qs prog 120 6 16 5:=FA E5 rfl G1
theorem QoE:Qs prog 100 0 0 1:=FA runUnderlying100 rfl EC
theorem QoD:Qs prog 100 1 1 1:=FA runUnderlying100 rfl EC
theorem d7:Qs prog 120 7 21 8:=FA E5 rfl sizeOf102
theorem QoC:Qs prog 102 0 0 1:=FA GB rfl EC
theorem QoA:Qs prog 102 3 3 1:=FA GB rfl EC
theorem QoB:Qs prog 102 1 1 1:=FA GB rfl EC
theorem Qoz:Qs prog 102 4 4 1:=FA GB rfl EC
theorem sL:Qs prog 120 8 29 4:=FA E5 rfl GZ
theorem Qoy:Qs prog 104 0 0 1:=FA runUnderlying104 rfl EC
theorem sK:Qs prog 110 0 0 1:=FA runUnderlying110 rfl EC
theorem Qmn:Qs prog 120 13 47 6:=FA E5 rfl GW
theorem Qox:Qs prog 114 0 0 1:=FA runUnderlying114 rfl EC
theorem U?:prog.stoodInHeld 120=false:=by kernel_rfl
theorem T?:prog.stoodInHeld 118=false:=by kernel_rfl
theorem S?:prog.stoodInHeld 116=false:=by kernel_rfl
theorem R?:prog.stoodInHeld 114=false:=by kernel_rfl
theorem Q?:prog.stoodInHeld 112=false:=by kernel_rfl
theorem P?:prog.stoodInHeld 110=false:=by kernel_rfl
theorem O?:prog.stoodInHeld 108=false:=by kernel_rfl
theorem N?:prog.stoodInHeld 106=false:=by kernel_rfl
theorem M?:prog.stoodInHeld 104=false:=by kernel_rfl
theorem L?:prog.stoodInHeld 102=false:=by kernel_rfl
theorem K?:prog.stoodInHeld 100=false:=by kernel_rfl
theorem aS:prog.stoodInHeld 98=false:=by kernel_rfl
theorem aW:prog.stoodInHeld 41=false:=by kernel_rfl
theorem qB:W8 prog 120 CI.c:=by
  refine gn (QR underlying120 U? isAgg120 EF (Cv.c Yg (Cv.c Yg (Cv.c Yg (Cv.c Yg (Cv.cons Z (by decide) (QR underlying41 aW GK EN (Cv.c Yg (Cv.c Yg (Cv.c Yg (Cv.c Yg (Cv.c Yg (Cv.c Yg (Cv.c Yg (Cv.c Yg (Cv.nil 1 _)))))))))) (λe=>Bool.noConfusion e) (Cv.cons Z (by decide) (QR underlying98 aS isAgg98 EY (Cv.c Yg (Cv.c Yg (Cv.c Yg (Cv.c Yg (Cv.nil 1 _)))))) (λe=>Bool.noConfusion e) (Cv.cons Z (by decide) (QR underlying100 K? isAgg100 G1 (Cv.c Yg (Cv.c Yg (Cv.c Yg (Cv.c Yg (Cv.c Yg (Cv.nil 1 _))))))) (λe=>Bool.noConfusion e) (Cv.cons Z (by decide) (QR underlying102 L? isAgg102 sizeOf102 (Cv.c Yg (Cv.c Yg (Cv.c Yg (Cv.c Yg (Cv.c Yg (Cv.c Yg (Cv.c Yg (Cv.c Yg (Cv.nil 1 _)))))))))) (λe=>Bool.noConfusion e) (Cv.cons Z (by decide) (QR underlying104 M? isAgg104 GZ (Cv.c Yg (Cv.c Yg (Cv.c Yg (Cv.c Yg (Cv.nil 1 _)))))) (λe=>Bool.noConfusion e) (Cv.cons Z (by decide) (QR underlying106 N? isAgg106 sizeOf106 (Cv.c Yg (Cv.c Yg (Cv.c Yg (Cv.c Yg (Cv.nil 1 _)))))) (λe=>Bool.noConfusion e) (Cv.cons Z (by decide) (QR underlying108 O? isAgg108 sizeOf108 (Cv.c Yg (Cv.c Yg (Cv.nil 1 _)))) (λe=>Bool.noConfusion e) (Cv.cons Z (by decide) (QR underlying110 P? isAgg110 GN (Cv.c Yg (Cv.c Yg (Cv.c Yg (Cv.c Yg (Cv.nil 1 _)))))) (λe=>Bool.noConfusion e) (Cv.cons Z (by decide) (QR underlying112 Q? isAgg112 sizeOf112 (Cv.c Yg (Cv.c Yg (Cv.c Yg (Cv.c Yg (Cv.nil 1 _)))))) (λe=>Bool.noConfusion e) (Cv.cons Z (by decide) (QR underlying114 R? isAgg114 GW (Cv.c Yg (Cv.c Yg (Cv.c Yg (Cv.c Yg (Cv.c Yg (Cv.c Yg (Cv.nil 1 _)))))))) (λe=>Bool.noConfusion e) (Cv.cons Z (by decide) (QR underlying116 S? isAgg116 sizeOf116 (Cv.c Yg (Cv.c cJ (Cv.nil 1 _)))) (λe=>Bool.noConfusion e) (Cv.cons Z (by decide) (QR underlying118 T? isAgg118 sizeOf118 (Cv.c Yg (Cv.c Yg (Cv.nil 1 _)))) (λe=>Bool.noConfusion e) (Cv.nil 2 _)))))))))))))))))) Z (λx=>⟨[_],_,Z,⟨_,Z⟩,[_],_,Z,⟨_,Z⟩,[_],_,Z,⟨_,Z⟩,[_],_,Z,⟨_,Z⟩,[_,_,_,_,_,_,_,_],_,Z,⟨[_],_,Z,⟨_,Z⟩,[_],_,Z,⟨_,Z⟩,[_],_,Z,⟨_,Z⟩,[_],_,Z,⟨_,Z⟩,[_],_,Z,⟨_,Z⟩,[_],_,Z,⟨_,Z⟩,[_],_,Z,⟨_,Z⟩,[_],_,Z,⟨_,Z⟩,Z⟩,[_,_,_,_],_,Z,⟨[_],_,Z,⟨_,Z⟩,[_],_,Z,⟨_,Z⟩,[_],_,Z,⟨_,Z⟩,[_],_,Z,⟨_,Z⟩,Z⟩,[_,_,_,_,_],_,Z,⟨[_],_,Z,⟨_,Z⟩,[_],_,Z,⟨_,Z⟩,[_],_,Z,⟨_,Z⟩,[_],_,Z,⟨_,Z⟩,[_],_,Z,⟨_,Z⟩,Z⟩,[_,_,_,_,_,_,_,_],_,Z,⟨[_],_,Z,⟨_,Z⟩,[_],_,Z,⟨_,Z⟩,[_],_,Z,⟨_,Z⟩,[_],_,Z,⟨_,Z⟩,[_],_,Z,⟨_,Z⟩,[_],_,Z,⟨_,Z⟩,[_],_,Z,⟨_,Z⟩,[_],_,Z,⟨_,Z⟩,Z⟩,[_,_,_,_],_,Z,⟨[_],_,Z,⟨_,Z⟩,[_],_,Z,⟨_,Z⟩,[_],_,Z,⟨_,Z⟩,[_],_,Z,⟨_,Z⟩,Z⟩,[_,_,_,_],_,Z,⟨[_],_,Z,⟨_,Z⟩,[_],_,Z,⟨_,Z⟩,[_],_,Z,⟨_,Z⟩,[_],_,Z,⟨_,Z⟩,Z⟩,[_,_],_,Z,⟨[_],_,Z,⟨_,Z⟩,[_],_,Z,⟨_,Z⟩,Z⟩,[_,_,_,_],_,Z,⟨[_],_,Z,⟨_,Z⟩,[_],_,Z,⟨_,Z⟩,[_],_,Z,⟨_,Z⟩,[_],_,Z,⟨_,Z⟩,Z⟩,[_,_,_,_],_,Z,⟨[_],_,Z,⟨_,Z⟩,[_],_,Z,⟨_,Z⟩,[_],_,Z,⟨_,Z⟩,[_],_,Z,⟨_,Z⟩,Z⟩,[_,_,_,_,_,_],_,Z,⟨[_],_,Z,⟨_,Z⟩,[_],_,Z,⟨_,Z⟩,[_],_,Z,⟨_,Z⟩,[_],_,Z,⟨_,Z⟩,[_],_,Z,⟨_,Z⟩,[_],_,Z,⟨_,Z⟩,Z⟩,[_,_],_,Z,⟨[_],_,Z,⟨_,Z⟩,[_],_,Z,⟨_,Z⟩,Z⟩,[_,_],_,Z,⟨[_],_,Z,⟨_,Z⟩,[_],_,Z,⟨_,Z⟩,Z⟩,Z⟩) Zf (λx y h=>?_) (by kernel_rfl);obtain⟨_,_,_,_,⟨_,_,_,_,_,_,_,_⟩,⟨_,_,_,_⟩,⟨_,_,_,_,_⟩,⟨_,_,_,_,_,_,_,_⟩,⟨_,_,_,_⟩,⟨_,_,_,_⟩,⟨_,_⟩,⟨_,_,_,_⟩,⟨_,_,_,_⟩,⟨_,_,_,_,_,_⟩,⟨_,_⟩,⟨_,_⟩⟩:=x;obtain⟨_,_,_,_,⟨_,_,_,_,_,_,_,_⟩,⟨_,_,_,_⟩,⟨_,_,_,_,_⟩,⟨_,_,_,_,_,_,_,_⟩,⟨_,_,_,_⟩,⟨_,_,_,_⟩,⟨_,_⟩,⟨_,_,_,_⟩,⟨_,_,_,_⟩,⟨_,_,_,_,_,_⟩,⟨_,_⟩,⟨_,_⟩⟩:=y;simpa[Q5,YZ,CI.c,AP.c,A5.c,Aa.c,Ao.c,Ae.c,Au.c,Be.c,Aj.c,Ay.c,Ag.c,BE.c,L0.c,and_assoc]using h
theorem _c:S2 prog 351 [(0,1),(1,1),(2,1),(3,1)]:=⟨_,runUnderlying351,(Ef EC (Ef EC (Ef sizeOf9 (Ef sizeOf349 PL.nil))))⟩
instance pR:ElemTy prog 349 351 4:=⟨runUnderlying349,sizeOf351,⟨_,zeroValue351,rfl⟩,⟨_,typeInfo351,by decide⟩⟩
instance gG:ElemTy prog 36 209 3:=⟨ES,E6,⟨_,zeroValue209,rfl⟩,⟨_,typeInfo209,by decide⟩⟩
theorem _b:S2 prog 176 [(0,1),(1,1)]:=⟨_,runUnderlying176,(Ef EC (Ef sizeOf174 PL.nil))⟩
instance Zd:ElemTy prog 174 260 3:=⟨GC,sizeOf260,⟨_,zeroValue260,rfl⟩,⟨_,typeInfo260,by decide⟩⟩
instance ZY:ElemTy prog 91 41 8:=⟨EH,EN,⟨_,zeroValue41,rfl⟩,⟨_,typeInfo41,by decide⟩⟩
instance ZW:ElemTy prog 42 139 5:=⟨ET,Gd,⟨_,zeroValue139,rfl⟩,⟨_,typeInfo139,by decide⟩⟩
instance ge:ElemTy prog 268 98 4:=⟨EL,EY,⟨_,zeroValue98,rfl⟩,⟨_,typeInfo98,by decide⟩⟩
instance kW:ElemTy prog 270 110 4:=⟨Gm,GN,⟨_,zeroValue110,rfl⟩,⟨_,typeInfo110,by decide⟩⟩
instance kX:ElemTy prog 272 114 6:=⟨GR,GW,⟨_,zeroValue114,rfl⟩,⟨_,typeInfo114,by decide⟩⟩
theorem QM{n:Nat}:RB prog n 3 Int (λx=>[A.int .i64 x]) (Qq .i64):=RB.int Gu
def iz:Sn:={fld:=[(66,3,3),(123,6,29),(50,2,2),(252,2,2),(33,1,1),(33,2,2),(33,3,3),(33,4,4),(33,5,5),(33,6,6),(33,7,7),(66,1,1),(214,0,0),(66,0,0),(68,0,0),(232,0,0),(234,0,0),(33,0,0),(214,1,1),(221,0,0),(221,1,1),(221,2,2),(221,3,3),(252,1,1),(252,0,0),(245,0,0),(245,1,1),(245,2,2),(66,2,2),(66,4,4),(68,1,1),(232,3,3),(232,1,1),(232,2,2),(234,1,1),(234,2,2),(239,0,0),(239,1,1),(239,2,2),(239,3,3),(33,9,9),(31,0,0),(31,1,1),(31,2,2),(31,3,3),(31,4,4),(33,10,14),(33,11,15),(443,0,0),(255,0,0),(255,1,1),(255,2,2),(255,3,3),(425,0,0),(257,3,6),(257,4,7),(418,0,0),(257,2,2),(418,1,1),(257,0,0),(257,1,1),(33,8,8),(331,0,0),(331,1,1),(209,0,0),(209,1,1),(39,0,0),(39,1,1),(209,2,2),(104,2,2),(104,3,3),(104,1,1),(284,0,0),(284,1,1),(300,0,0),(300,1,1),(300,2,2),(139,0,0),(139,1,1),(139,2,2),(139,3,3),(139,4,4),(83,0,0),(83,1,1),(136,2,18),(41,1,1),(41,2,2),(136,5,21),(136,6,22),(136,8,24),(136,7,23),(136,3,19),(136,4,20),(145,0,0),(145,1,1),(136,1,16),(147,2,4),(136,0,0),(147,0,0),(147,1,1),(75,0,0),(75,1,1),(123,0,0),(123,2,18),(123,7,30),(50,0,0),(50,1,1),(123,5,28),(123,1,16),(123,3,26),(123,4,27),(41,3,3),(77,0,0),(77,2,2),(77,3,3),(77,1,1),(41,0,0),(41,4,4),(41,5,5),(41,6,6),(41,7,7),(102,0,0),(102,3,3),(102,1,1),(102,4,4),(102,2,2),(102,5,5),(102,6,6),(102,7,7),(114,0,0),(114,1,1),(114,2,2),(114,3,3),(114,4,4),(114,5,5),(120,3,3),(120,4,4),(120,5,12),(98,0,0),(98,1,1),(98,2,2),(98,3,3),(120,6,16),(100,0,0),(100,1,1),(100,2,2),(100,3,3),(100,4,4),(120,7,21),(120,8,29),(104,0,0),(120,9,33),(106,0,0),(106,1,1),(106,2,2),(106,3,3),(120,10,37),(108,0,0),(108,1,1),(120,11,39),(110,0,0),(110,1,1),(110,2,2),(110,3,3),(120,12,43),(112,0,0),(112,1,1),(112,2,2),(112,3,3),(120,13,47),(120,14,53),(116,0,0),(120,15,55),(118,0,0),(118,1,1),(120,0,0),(120,1,1),(120,2,2),(116,1,1),(351,3,3),(351,0,0),(351,2,2),(351,1,1),(176,1,1),(176,0,0),(260,0,0),(260,1,1),(260,2,2),(46,3,11),(46,1,2),(46,4,12),(46,2,10),(46,0,0)],agg:=[(66,AE,5),(64,AD,1),(33,AE,16),(39,AE,2),(41,AE,8),(123,AE,31),(50,AE,4),(3,AD,1),(252,AE,3),(63,AD,1),(22,AD,1),(23,AD,1),(24,AD,1),(25,AD,1),(26,AD,1),(27,AD,1),(28,AD,1),(5,AD,1),(9,AD,1),(214,AE,2),(68,AE,2),(232,AE,4),(234,AE,3),(380,AD,1),(222,AD,1),(221,AE,4),(294,AE,2),(372,AD,1),(375,AD,1),(245,AE,3),(297,AD,1),(385,AD,1),(4,AD,1),(377,AD,1),(388,AD,1),(378,AD,1),(239,AE,4),(392,AE,3),(31,AE,5),(257,AE,8),(253,AD,1),(29,AD,1),(255,AE,4),(425,AE,8),(443,AE,4),(422,AD,1),(137,AD,1),(292,AD,1),(36,AD,1),(37,AD,1),(209,AE,3),(73,AD,1),(104,AE,4),(411,AD,1),(284,AE,2),(282,AD,1),(139,AE,5),(83,AE,2),(128,AD,1),(132,AD,1),(133,AD,1),(134,AD,1),(131,AD,1),(147,AE,5),(145,AE,3),(42,AD,1),(55,AD,1),(140,AD,1),(143,AD,1),(142,AD,1),(77,AE,4),(44,AD,1),(52,AD,1),(75,AE,2),(43,AD,1),(200,AD,1),(51,AD,1),(102,AE,8),(114,AE,6),(120,AE,57),(98,AE,4),(100,AE,5),(106,AE,4),(108,AE,2),(110,AE,4),(112,AE,4),(116,AE,2),(118,AE,2),(351,AE,4),(349,AD,1),(176,AE,2),(174,AD,1),(260,AE,3),(46,AE,13)],zer:=[(252,[I 0,I 0,.q 3 (map CH.enc [])],[(0,1),(1,1),(2,1)]),(66,[.str [],.q 3 (map CH.enc []),I 0,.q 3 (map CO.c []),I 0],[(0,1),(1,1),(2,1),(3,1),(4,1)]),(245,[I 0,I 0,I 0],[(0,1),(1,1),(2,1)]),(214,[.str [],I 0],[(0,1),(1,1)]),(221,[I 0,I 0,I 0,I 0],[(0,1),(1,1),(2,1),(3,1)]),(68,[.str [],I 0],[(0,1),(1,1)]),(257,[I 0,I 0,I 0,I 0,I 0,.q 4 (map AR.enc []),.q 8 (map AY.enc []),.q 8 (map AY.enc [])],[(0,1),(1,1),(2,4),(6,1),(7,1)]),(33,[.str [],.q 2 (map Al.c []),.q 4 (map Cr.c []),.q 5 (map AN.c []),.q 2 (map Aw.c []),.q 4 (map AZ.c []),.q 3 (map AW.c []),.q 4 (map CQ.c []),.q 8 (map AY.enc []),I 0,I 0,I 0,I 0,I 0,I 0,I 0],[(0,1),(1,1),(2,1),(3,1),(4,1),(5,1),(6,1),(7,1),(8,1),(9,5),(14,1),(15,1)]),(39,[.q 3 (map CD.c []),.q 1 (map (Qu 1 eI) [])],[(0,1),(1,1)]),(123,[.str [],.q 2 (map Al.c []),.q 4 (map Cr.c []),.q 5 (map AN.c []),.q 2 (map Aw.c []),.q 4 (map AZ.c []),.q 3 (map AW.c []),.q 4 (map CQ.c []),.q 8 (map AY.enc []),I 0,I 0,I 0,I 0,I 0,I 0,I 0,.q 3 (map CD.c []),.q 1 (map (Qu 1 eI) []),I 0,I 0,I 0,I 0,I 0,I 0,I 0,I 0,.q 5 (map CN.c []),.q 4 (map Ae.c []),.q 4 (map CF.c []),I 0,I 0],[(0,16),(16,2),(18,8),(26,1),(27,1),(28,1),(29,1),(30,1)]),(294,[I 0,I 0],[(0,1),(1,1)]),(392,[I 0,I 0,I 0],[(0,1),(1,1),(2,1)]),(425,[I 0,I 0,I 0,I 0,I 0,.q 4 (map AR.enc []),.q 8 (map AY.enc []),.q 8 (map AY.enc [])],[(0,8)]),(443,[I 0,I 0,I 0,.q 4 (map AR.enc [])],[(0,4)]),(418,[I 0,I 0],[(0,1),(1,1)]),(331,[I 0,I 0],[(0,1),(1,1)]),(358,[I 0,I 0],[(0,1),(1,1)]),(300,[I 0,I 0,I 0],[(0,1),(1,1),(2,1)]),(211,[I 0,I 0],[(0,1),(1,1)]),(83,[I 0,I 0],[(0,1),(1,1)]),(209,[I 0,I 0,I 0],[(0,1),(1,1),(2,1)]),(145,[I 0,I 0,I 0],[(0,1),(1,2)]),(147,[I 0,I 0,I 0,I 0,I 0],[(0,1),(1,3),(4,1)]),(75,[.q 1 (map eI []),I 0],[(0,1),(1,1)]),(77,[.b AD,I 0,I 0,I 0],[(0,1),(1,1),(2,1),(3,1)]),(41,[I 0,I 0,I 0,I 0,I 0,I 0,I 0,I 0],[(0,1),(1,1),(2,1),(3,1),(4,1),(5,1),(6,1),(7,1)]),(104,[I 0,I 0,I 0,I 0],[(0,1),(1,1),(2,1),(3,1)]),(50,[I 0,I 0,I 0,.b AD],[(0,1),(1,1),(2,1),(3,1)]),(120,[I 0,I 0,I 0,I 0,I 0,I 0,I 0,I 0,I 0,I 0,I 0,I 0,I 0,I 0,I 0,I 0,I 0,I 0,I 0,I 0,I 0,I 0,I 0,I 0,I 0,I 0,I 0,I 0,I 0,I 0,I 0,I 0,I 0,I 0,I 0,I 0,I 0,I 0,I 0,I 0,I 0,I 0,I 0,I 0,I 0,I 0,I 0,I 0,I 0,I 0,I 0,I 0,I 0,I 0,.b AD,I 0,I 0],[(0,1),(1,1),(2,1),(3,1),(4,8),(12,4),(16,5),(21,8),(29,4),(33,4),(37,2),(39,4),(43,4),(47,6),(53,2),(55,2)]),(351,[I 0,I 0,.str [],.q 4 (map Value.enc [])],[(0,1),(1,1),(2,1),(3,1)]),(176,[I 0,.q 3 (map Edge.c [])],[(0,1),(1,1)]),(260,[I 0,I 0,I 0],[(0,1),(1,1),(2,1)]),(139,[I 0,I 0,I 0,I 0,I 0],[(0,1),(1,1),(2,1),(3,1),(4,1)]),(114,[I 0,I 0,I 0,I 0,I 0,I 0],[(0,1),(1,1),(2,1),(3,1),(4,1),(5,1)]),(110,[I 0,I 0,I 0,I 0],[(0,1),(1,1),(2,1),(3,1)]),(46,[.q 3 (map CD.c []),.q 1 (map (Qu 1 eI) []),I 0,I 0,I 0,I 0,I 0,I 0,I 0,I 0,.q 5 (map CN.c []),.n,.q 4 (map CF.c [])],[(0,2),(2,8),(10,1),(11,1),(12,1)])]}
def nv:AA (Nat×AA (Nat×Nat)):=[(31,[(0,1),(1,1),(2,1),(3,1),(4,1)]),(33,[(0,1),(1,1),(2,1),(3,1),(4,1),(5,1),(6,1),(7,1),(8,1),(9,5),(14,1),(15,1)]),(39,[(0,1),(1,1)]),(41,[(0,1),(1,1),(2,1),(3,1),(4,1),(5,1),(6,1),(7,1)]),(46,[(0,2),(2,8),(10,1),(11,1),(12,1)]),(50,[(0,1),(1,1),(2,1),(3,1)]),(66,[(0,1),(1,1),(2,1),(3,1),(4,1)]),(68,[(0,1),(1,1)]),(75,[(0,1),(1,1)]),(77,[(0,1),(1,1),(2,1),(3,1)]),(83,[(0,1),(1,1)]),(98,[(0,1),(1,1),(2,1),(3,1)]),(100,[(0,1),(1,1),(2,1),(3,1),(4,1)]),(102,[(0,1),(1,1),(2,1),(3,1),(4,1),(5,1),(6,1),(7,1)]),(104,[(0,1),(1,1),(2,1),(3,1)]),(106,[(0,1),(1,1),(2,1),(3,1)]),(108,[(0,1),(1,1)]),(110,[(0,1),(1,1),(2,1),(3,1)]),(112,[(0,1),(1,1),(2,1),(3,1)]),(114,[(0,1),(1,1),(2,1),(3,1),(4,1),(5,1)]),(116,[(0,1),(1,1)]),(118,[(0,1),(1,1)]),(120,[(0,1),(1,1),(2,1),(3,1),(4,8),(12,4),(16,5),(21,8),(29,4),(33,4),(37,2),(39,4),(43,4),(47,6),(53,2),(55,2)]),(123,[(0,16),(16,2),(18,8),(26,1),(27,1),(28,1),(29,1),(30,1)]),(136,[(0,16),(16,2),(18,1),(19,1),(20,1),(21,1),(22,1),(23,1),(24,1)]),(139,[(0,1),(1,1),(2,1),(3,1),(4,1)]),(145,[(0,1),(1,2)]),(147,[(0,1),(1,3),(4,1)]),(176,[(0,1),(1,1)]),(209,[(0,1),(1,1),(2,1)]),(211,[(0,1),(1,1)]),(214,[(0,1),(1,1)]),(221,[(0,1),(1,1),(2,1),(3,1)]),(232,[(0,1),(1,1),(2,1),(3,1)]),(234,[(0,1),(1,1),(2,1)]),(239,[(0,1),(1,1),(2,1),(3,1)]),(245,[(0,1),(1,1),(2,1)]),(252,[(0,1),(1,1),(2,1)]),(255,[(0,1),(1,1),(2,1),(3,1)]),(257,[(0,1),(1,1),(2,4),(6,1),(7,1)]),(260,[(0,1),(1,1),(2,1)]),(284,[(0,1),(1,1)]),(294,[(0,1),(1,1)]),(300,[(0,1),(1,1),(2,1)]),(331,[(0,1),(1,1)]),(351,[(0,1),(1,1),(2,1),(3,1)]),(358,[(0,1),(1,1)]),(392,[(0,1),(1,1),(2,1)]),(418,[(0,1),(1,1)]),(425,[(0,8)]),(443,[(0,4)])]
def G8:Fr:={ty:=iz,al:=[(33,(.a [.str [],.q 2 (map Al.c []),.q 4 (map Cr.c []),.q 5 (map AN.c []),.q 2 (map Aw.c []),.q 4 (map AZ.c []),.q 3 (map AW.c []),.q 4 (map CQ.c []),.q 8 (map AY.enc []),I 0,I 0,I 0,I 0,I 0,I 0,I 0])),(66,(.a [.str [],.q 3 (map CH.enc []),I 0,.q 3 (map CO.c []),I 0])),(39,(.a [.q 3 (map CD.c []),.q 1 (map (Qu 1 eI) [])])),(123,(.a [.str [],.q 2 (map Al.c []),.q 4 (map Cr.c []),.q 5 (map AN.c []),.q 2 (map Aw.c []),.q 4 (map AZ.c []),.q 3 (map AW.c []),.q 4 (map CQ.c []),.q 8 (map AY.enc []),I 0,I 0,I 0,I 0,I 0,I 0,I 0,.q 3 (map CD.c []),.q 1 (map (Qu 1 eI) []),I 0,I 0,I 0,I 0,I 0,I 0,I 0,I 0,.q 5 (map CN.c []),.q 4 (map Ae.c []),.q 4 (map CF.c []),I 0,I 0])),(50,(.a [I 0,I 0,I 0,.b AD])),(252,(.a [I 0,I 0,.q 3 (map CH.enc [])])),(214,(.a [.str [],I 0])),(68,(.a [.str [],I 0])),(232,(.a [.str [],I 0,I 0,.b AD])),(234,(.a [.str [],I 0,I 0])),(294,(.a [I 0,I 0])),(221,(.a [I 0,I 0,I 0,I 0])),(392,(.a [I 0,I 0,I 0])),(239,(.a [I 0,I 0,I 0,I 0])),(3,(I 0)),(372,.nilf),(375,.nilf),(31,(.a [I 0,I 0,I 0,I 0,I 0])),(257,(.a [I 0,I 0,I 0,I 0,I 0,.q 4 (map AR.enc []),.q 8 (map AY.enc []),.q 8 (map AY.enc [])])),(255,(.a [I 0,I 0,I 0,.q 4 (map AR.enc [])])),(425,(.a [I 0,I 0,I 0,I 0,I 0,.q 4 (map AR.enc []),.q 8 (map AY.enc []),.q 8 (map AY.enc [])])),(443,(.a [I 0,I 0,I 0,.q 4 (map AR.enc [])])),(137,.nilm),(292,.nilm),(209,(.a [I 0,I 0,I 0])),(73,.n),(411,.nilf),(284,(.a [.q 1 (map eI []),.nilm])),(139,(.a [I 0,I 0,I 0,I 0,I 0])),(83,(.a [I 0,I 0])),(128,.nilp),(104,(.a [I 0,I 0,I 0,I 0])),(147,(.a [I 0,I 0,I 0,I 0,I 0])),(145,(.a [I 0,I 0,I 0])),(55,.n),(140,.nilf),(142,.n),(143,.nilf),(77,(.a [.b AD,I 0,I 0,I 0])),(52,(I 0)),(245,(.a [I 0,I 0,I 0])),(200,.nilf),(51,.n),(75,(.a [.q 1 (map eI []),I 0])),(120,(.a [I 0,I 0,I 0,I 0,I 0,I 0,I 0,I 0,I 0,I 0,I 0,I 0,I 0,I 0,I 0,I 0,I 0,I 0,I 0,I 0,I 0,I 0,I 0,I 0,I 0,I 0,I 0,I 0,I 0,I 0,I 0,I 0,I 0,I 0,I 0,I 0,I 0,I 0,I 0,I 0,I 0,I 0,I 0,I 0,I 0,I 0,I 0,I 0,I 0,I 0,I 0,I 0,I 0,I 0,.b AD,I 0,I 0])),(41,(.a [I 0,I 0,I 0,I 0,I 0,I 0,I 0,I 0])),(98,(.a [I 0,I 0,I 0,I 0])),(100,(.a [I 0,I 0,I 0,I 0,I 0])),(102,(.a [I 0,I 0,I 0,I 0,I 0,I 0,I 0,I 0])),(106,(.a [I 0,I 0,I 0,I 0])),(110,(.a [I 0,I 0,I 0,I 0])),(112,(.a [I 0,I 0,I 0,I 0])),(114,(.a [I 0,I 0,I 0,I 0,I 0,I 0])),(351,(.a [I 0,I 0,.str [],.q 4 (map Value.enc [])])),(176,(.a [I 0,.q 3 (map Edge.c [])])),(260,(.a [I 0,I 0,I 0])),(46,(.a [.q 3 (map CD.c []),.q 1 (map (Qu 1 eI) []),I 0,I 0,I 0,I 0,I 0,I 0,I 0,I 0,.q 5 (map CN.c []),.q 4 (map Ae.c []),.q 4 (map CF.c [])]))],sl:=[279,395,73,55,51,34,36,174,91,268,42,270,272,44]}
def Iv:Nq:={sl:=[(44,50,4),(63,252,3),(22,214,2),(23,221,4),(24,66,5),(25,68,2),(26,232,4),(27,234,3),(28,239,4),(64,245,3),(279,5,1),(73,3,1),(29,257,8),(253,255,4),(395,422,1),(36,209,3),(37,73,1),(43,104,4),(42,139,5),(132,145,3),(51,77,4),(230,9,1),(349,351,4),(34,120,57),(174,260,3),(91,41,8)],fn:=[222,312,282,225,223,227,229,231,233,224,226,228,230,232,283,194,121,235,244,289,316,288,240,291,98,290,247,236,234,285,314,284,237,287,315,286,239,238,259,303,258,249,293,317,292,241,295,318,294,252,297,319,296,242,299,320,298,255,243,245,246,158,248,250,251,253,254,257,330,321,300,327,301,328,323,322,256,260,261,160,159,154,155,156,157,117,60,59,193,122,119,120,89,88,161,87,278,167,100,218,219,162,163,93,262,164,165,99,63,90,91,92,94,97,101,95,102,40,41,38,45,37,83,53,221,306,272,192,42,118,168,148,146,85,65,147,150,152,149,84,52,115,56,51,55,54,61,31,9,32,33,34,15,64,22,12,18,19,66,67,182,110,181,68,179,105,106,107,108,180,109,268,183,111,112,113,114,46,47,48,49,50,123,195,124,70,69,141,211,209,208,206,207,213,212,205,210,214,139,140,142,307,308,309,310,276,275,79,217,216,215,144,80,125,196,198,14,29,131,197,73,126,129,130,71,72,74,199,200,132,75,201,274,273,202,133,203,204,134,135,137,26,76,77,78,138,23,81,24,25,10,6,7,8,13]}
theorem ow:kL prog nv G8 Iv=kR prog nv G8 Iv:=by kernel_rfl
theorem I3:I4 prog G8:=.ofK ow (by kernel_rfl)
theorem Ri:LX prog Iv:=.ofK ow (V? (by kernel_rfl))
section
variable {h0 N m n d id t et k f:Nat} {all:Array AM} {o:AM} {l r r' ll:AA AM} {ds:AA Nat} {env env' env0:Env} {H H' H1 X:Qc} {Q:Qy} {α:Type} {e:α->AA A} {L:AA α} {kk:IntKind} {i:Int} {v:α} {K:AA AM->Env->Qc->Prop} {xs xs':AA A} {args argsc:AA A} {Hc:Qc} {Hs Hs':AA Qc} {bs:AA Nat} {cat:NI} {k':AA Kf} {c':Cf} {hB hE:Nat} {x:A}
theorem U{l':AA AM}(n:Nat)(h:NY G8 h0 N all n l env H=AC (l',env',H'))(k:WO prog h0 N all l' env' H' Q):WO prog h0 N all l env H Q:=AU I3 n h k
theorem G0{c:Code}(n:Nat)(h:Kd G8 h0 N n (.code c) [] env H=AC (c',k',env',H'))(g:Hd prog h0 N c' k' env' H' Q):TC prog h0 N c env H Q:=du I3 n h g
theorem Gc{k:AA Kf}{c:Code}(n:Nat)(h:Kd G8 h0 N n (.code c) k env H=AC (c',k',env',H'))(g:Hd prog h0 N c' k' env' H' Q):TC prog h0 N c env H (kq prog h0 N k Q):=du I3 n h g
theorem Go{k:AA Kf}(n:Nat)(h:Kd G8 h0 N n (.ops all l) k env H=AC (c',k',env',H'))(g:Hd prog h0 N c' k' env' H' Q):WO prog h0 N all l env H (kq prog h0 N k Q):=du I3 n h g
theorem Gx{k:AA Kf}{x:Lf}(n:Nat)(h:Kd G8 h0 N n (.out x) k env H=AC (c',k',env',H'))(g:Hd prog h0 N c' k' env' H' Q):kq prog h0 N k Q x env H:=du I3 n h g
theorem Cg{β:Type}{E':β->Env}{Hb:β->Qc}{k:AA Kf}{c c2:Code}(b:β)(sel keep:AA Nat)(nE:β->Env)(nH:β->AA (Nat×CU))(hc:∀b,LV sel keep (nE b) (nH b) env H=AC (E' b,Hb b))(h:TC prog h0 N c env H (Kt h0 b E' Hb (kq prog h0 N (.seq c2::k) Q)))(g:TC prog h0 N c2 (E' b) (Hb b) (kq prog h0 N k Q)):TC prog h0 N c env H (kq prog h0 N (.seq c2::k) Q):=Ct b sel keep nE nH hc h λ_ _ e=>Gx 1 rfl (Ee e g)
theorem E_{S B:Type}{b:CG S B}{E':S->Env}{Hb:S->Qc}{k:AA Kf}{c c2:Code}(sel keep:AA Nat)(nE:S->Env)(nH:S->AA (Nat×CU))(hc:∀s,LV sel keep (nE s) (nH s) env H=AC (E' s,Hb s))(h:TC prog h0 N c env H (L5 h0 b E' Hb (kq prog h0 N (.seq c2::k) Q)))(g:∀s,b=.k s->TC prog h0 N c2 (E' s) (Hb s) (kq prog h0 N k Q)):TC prog h0 N c env H (kq prog h0 N (.seq c2::k) Q):=Fe sel keep nE nH hc h λs _ _ q e=>Gx 1 rfl (Ee e (g s q))
theorem oT{S B S':Type}{b x:CG S B}{d:CG S' (CG S B)}{E':S->Env}{Hb:S->Qc}{s:S}(hb:∀b',d=.d b'->b'=b)(h:AC (CG.d x)=AC d)(e:x=.k s)(hl:Le h0 env H (E' s) (Hb s)):L5 h0 b E' Hb Q .normal env H:=Ki ((Oj hb h).symm.trans e) hl
theorem DW{β S':Type}{b x:β}{d:CG S' β}{E':β->Env}{Hb:β->Qc}(hb:∀b',d=.d b'->b'=b)(h:AC (CG.d x)=AC d)(hl:Le h0 env H (E' x) (Hb x)):Kt h0 b E' Hb Q .normal env H:=by
  cases Oj hb h;exact hl
theorem Gl{β:Type}{e b:β}{E':β->Env}{Hb:β->Qc}{k:AA Kf}(n:Nat)(hm:Kd G8 h0 N n (.ops all l) k env H=AC (.out .normal,[],env',H'))(h:AC e=AC b)(π:AA Nat)(hpre:π.take h0=List.range h0:=by rfl)(hH:π.map (λp=>H'[p]?)=((Hb e).map (QX (Cj π (AI H')))).map some:=by rfl)(hπ:π.Nodup:=by decide)(hE:IZ (Cj π (AI H')) env' (E' e):=by(repeat' (first|exact trivial|refine⟨rfl,?_⟩))):WO prog h0 N all l env H (kq prog h0 N k (Kt h0 b E' Hb Q)):=Go n hm (Cl h π hpre hH hπ hE)
theorem Gt{β:Type}{e r:β}{w:β->A}{Hb:β->Qc}{fn:Func}{k:AA Kf}(n:Nat)(hm:Kd G8 h0 N n (.ops all l) k env H=AC (.out .ret,[],env',H'))(h:AC e=AC r)(a:Nat)(π:AA Nat)(hr:fn.results= #[.tmp a]:=by rfl)(hpre:π.take h0=List.range h0:=by rfl)(hH:π.map (λp=>H'[p]?)=((Hb e).map (QX (Cj π (AI H')))).map some:=by rfl)(hπ:π.Nodup:=by decide)(hE:IZ (Cj π (AI H')) env' [(a,w e)]:=by exact⟨rfl,trivial⟩):WO prog h0 N all l env H (kq prog h0 N k (Jc prog h0 fn (RQ w Hb r))):=Go n hm (Rt h a π hr hpre hH hπ hE)
theorem m7{β:Type}{e b:β}{E':β->Env}{Hb:β->Qc}{k:AA Kf}{c:Code}(n:Nat)(hm:Kd G8 h0 N n (.code c) k env H=AC (.out .normal,[],env',H'))(h:AC e=AC b)(π:AA Nat)(hpre:π.take h0=List.range h0:=by rfl)(hH:π.map (λp=>H'[p]?)=((Hb e).map (QX (Cj π (AI H')))).map some:=by rfl)(hπ:π.Nodup:=by decide)(hE:IZ (Cj π (AI H')) env' (E' e):=by(repeat' (first|exact trivial|refine⟨rfl,?_⟩))):TC prog h0 N c env H (kq prog h0 N k (Kt h0 b E' Hb Q)):=Gc n hm (Cl h π hpre hH hπ hE)
theorem TJ{β:Type}{e r:β}{w:β->A}{Hb:β->Qc}{fn:Func}{k:AA Kf}{c:Code}(n:Nat)(hm:Kd G8 h0 N n (.code c) k env H=AC (.out .ret,[],env',H'))(h:AC e=AC r)(a:Nat)(π:AA Nat)(hr:fn.results= #[.tmp a]:=by rfl)(hpre:π.take h0=List.range h0:=by rfl)(hH:π.map (λp=>H'[p]?)=((Hb e).map (QX (Cj π (AI H')))).map some:=by rfl)(hπ:π.Nodup:=by decide)(hE:IZ (Cj π (AI H')) env' [(a,w e)]:=by exact⟨rfl,trivial⟩):TC prog h0 N c env H (kq prog h0 N k (Jc prog h0 fn (RQ w Hb r))):=Gc n hm (Rt h a π hr hpre hH hπ hE)
theorem Fg{k:AA Kf}{e1:Env}(n:Nat)(h:fy env H=AC (e1,H1))(hm:Kd G8 h0 N n (.ops all l) k e1 H1=AC (c',k',env',H'))(g:Hd prog h0 N c' k' env' H' Q):WO prog h0 N all l env H (kq prog h0 N k Q):=FE h (Go n hm g)
@[reducible] def Ks{β:Type}(F:AB β)(f:FuncId)(args:AA A)(H:Qc)(w:β->A):Prop:=Kp prog F f args H w λ_=>H
@[reducible] def Kq{β:Type}(F:AB β)(f:FuncId)(args:AA A)(H:Qc)(w:β->A)(H1:β->Qc):Prop:=Kp prog F f args H w H1
theorem Kg{β:Type}{F:AB β}{f:FuncId}{fn:Func}{c:Code}{w:β->A}{H1:β->Qc}(n:Nat)(hf:prog.funcs[f]?=AC fn)(hb:fn.body=AC c)(hN:fn.ntmps=N)(hA:Nat.ble (AI args) N=AE)(h:Kd G8 (AI H) N n (.code c) [] (Kv 0 args) H=AC (c',k',env',H'))(g:∀r,F=AC r->Hd prog (AI H) N c' k' env' H' (Jc prog (AI H) fn (RQ w H1 r))):Kp prog F f args H w H1:=Kp.b hf hb hN hA λr e=>G0 n h (g r e)
theorem D(n:Nat)(h:dL G8 N m l ds env H n (AI xs) r xs=AC (r',xs'))(k:DS prog N m l ds env H K r' xs'):DS prog N m l ds env H K r xs:=li I3 n _ rfl h k
theorem Iz(h:CJ L i=AC v)(q:SI o env=AC (d,t,k,L.map e,kk,i))(g:WO prog h0 N all l (up env d (.rp (e v))) H Q)(ht:IG Iv.sl t=AC (et,k):=by rfl)(hg:Ye all o env=AC true:=by rfl)(hN:Nat.blt d N=true:=by rfl):WO prog h0 N all (o::l) env H Q:=vJ Ri h q g ht hg hN
theorem FW{cs:AA A}(h:CJ L i=AC v)(he:e v=cs)(q:SI o env=AC (d,t,k,L.map e,kk,i))(g:WO prog h0 N all l (up env d (.rp cs)) H Q)(ht:IG Iv.sl t=AC (et,k):=by rfl)(hg:Ye all o env=AC true:=by rfl)(hN:Nat.blt d N=true:=by rfl):WO prog h0 N all (o::l) env H Q:=Ize Ri h he q g ht hg hN
theorem Lm{k':Nat}(q:SD o env=AC (d,t,.mk (.q k (L.map e))))(g:WO prog h0 N all l (up env d (I (AI L))) H Q)(ht:IG Iv.sl t=AC (et,k'):=by rfl)(hg:Ye all o env=AC true:=by rfl)(hN:Nat.blt d N=true:=by rfl):WO prog h0 N all (o::l) env H Q:=Lmz Ri q g ht hg hN
theorem Lg{k:AA Kf}{i k1:Nat}(n:Nat)(q:SD o env=AC (d,t,.mk (.q i (L.map e))))(hm:Kd G8 h0 N n (.ops all l) k (up env d (I (AI L))) H=AC (c',k',env',H'))(g:Hd prog h0 N c' k' env' H' Q)(ht:IG Iv.sl t=AC (et,k1):=by rfl)(hg:Ye all o env=AC true:=by rfl)(hN:Nat.blt d N=true:=by rfl):WO prog h0 N all (o::l) env H (kq prog h0 N k Q):=Lm q (Go n hm g) ht hg hN
theorem Cz{β γ:Type}{F:AB β}{F':β->AB γ}{r:γ}{w:β->A}(π:AA Nat)(h:F.bind F'=AC r)(hC:∀v,F=AC v->C prog f argsc Hc (RQ w (λ_=>Hc) v))(hop:Ka Iv o env=AC (d,f,args))(g:∀v,F=AC v->F' v=AC r->WO prog h0 N all l (up env d (w v)) H Q)(hv:∀v,Rc (w v)=AC (.mk (w v)):=by exact λ_=>rfl)(hargs:args=JH (Cj π (AI H)) argsc:=by rfl)(hH:π.map (λp=>H[p]?)=(Hc.map (QX (Cj π (AI H)))).map some:=by rfl)(hπ:π.Nodup:=by decide)(hg:Ye all o env=AC true:=by rfl)(hN:Nat.blt d N=true:=by rfl)(hh:Nat.ble h0 (AI H)=true:=by rfl):WO prog h0 N all (o::l) env H Q:=Czz Ri π h hC hop g hv hargs hH hπ hg hN hh
theorem Cb{β γ:Type}{F:AB β}{F':β->AB γ}{r:γ}{w:β->A}(h:F.bind F'=AC r)(hC:∀v,F=AC v->C prog f argsc [] (RQ w Ze v))(hop:Ka Iv o env=AC (d,f,args))(hL:Dv H args argsc)(g:∀v,F=AC v->F' v=AC r->WO prog h0 N all l (up env d (w v)) H Q)(hv:∀v,Yt (w v)=true:=by exact λ_=>rfl)(hg:Ye all o env=AC true:=by rfl)(hN:Nat.blt d N=true:=by rfl):WO prog h0 N all (o::l) env H Q:=Cbz Ri h hC hop hL g hv hg hN
theorem Dz{β γ:Type}{F:AB β}{F':β->AB γ}{r:γ}{w:β->A}(π:AA Nat)(h:F.bind F'=AC r)(hC:∀v,F=AC v->C prog f argsc Hc (RQ w (λ_=>Hc) v))(hop:Ka Iv o (Q4 (Qi o) 0 ds xs env)=AC (d,f,args))(g:∀v,F=AC v->F' v=AC r->DS prog N m ll ds env H K l (xs++[w v]))(hv:∀v,Rc (w v)=AC (.mk (w v)):=by exact λ_=>rfl)(hargs:args=JH (Cj π (AI H)) argsc:=by rfl)(hH:π.map (λp=>H[p]?)=(Hc.map (QX (Cj π (AI H)))).map some:=by rfl)(hπ:π.Nodup:=by decide)(hg:Ye ll.toArray o (Q4 (Qi o) 0 ds xs env)=AC true:=by rfl)(hN:Nat.blt d N=true:=by rfl)(hx:Nat.blt (AI xs) m=true:=by rfl):DS prog N m ll ds env H K (o::l) xs:=DzZ Ri π h hC hop g hv hargs hH hπ hg hN hx
theorem DU(m:Nat)(hc:Go.Sw.draw0 l m N (I' m 0 l)=AE)(h:DS prog N m l (I' m 0 l) env H (λr e H=>WO prog h0 N l.toArray r e H Q) l [])(h0B:Nat.ble h0 (AI H)=true:=by rfl):TC prog h0 N (.region id l.toArray AE) env H Q:=QpD (k:=[]) m DF hc h0B h
theorem Da{cat:AA Nat}(n:Nat)(h:dP G8 N m cat l ds env H n (AI xs) r xs=AC (r',xs'))(k:DA prog N m cat l ds env H K r' xs'):DA prog N m cat l ds env H K r xs:=lh I3 n _ rfl h k
theorem Db{cat:AA Nat}(n:Nat)(h:Sy G8 N cat l ds env H1 n (AI xs) r xs=AC (r',xs'))(k:DB prog N m cat l ds env H H1 K r' xs'):DB prog N m cat l ds env H H1 K r xs:=d9 I3 n _ rfl h k
theorem Dk(k:Nat){B:AA (Nat×AB CU)}(h:Sz G8 N m cat l ds env n B.isEmpty k (AI xs) (AI Hs) Hs X r xs=AC (Hs',r',xs'))(g:DK prog N m bs cat l ds env n K B Hs' X r' xs'):DK prog N m bs cat l ds env n K B Hs X r xs:=d_ I3 (λh=>List.isEmpty_iff.1 h) k _ _ rfl rfl h g
theorem W9{B:AA (Nat×AB CU)}{lo hi:Nat}(h:ZH G8 o (Q4 (Qi o) 0 ds xs env) x (hi+1-lo) (X::Hs))(k:DK prog N m bs cat l ds env n K B Hs X r (xs++[x]))(hc:YH cat (AI xs)=AC (0,lo,hi):=by rfl)(hd:o.dst=AC d:=by rfl)(hcH:Nat.beq hi (AI Hs)=true:=by rfl)(hg:Ye ⟨l⟩ o (Q4 (Qi o) 0 ds xs env)=AC true:=by rfl)(hN:Nat.blt d N=true:=by rfl)(hle:Nat.ble lo hi=true:=by rfl):DK prog N m bs cat l ds env n K B Hs X (o::r) xs:=DK.vs I3 h k hc hd hcH hg hN hle
theorem Hn(m:Nat)(bs:AA Nat)(cat:NI)(hc:HW l m N (I' m 0 l) (oM cat) (n9 bs cat) (ft bs) (RI cat)=AE)(h:DK prog N m bs cat l (I' m 0 l) env (AI H) (λr e H=>WO prog h0 N l.toArray r e H Q) [] [] H l [])(hcl:Nat.beq (AI cat) m=true:=by rfl)(h0B:Nat.ble h0 (AI H)=true:=by rfl):TC prog h0 N (.region id l.toArray AE) env H Q:=QpE m bs cat DF hc hcl h0B h
theorem KR{B:AA (Nat×AB CU)}{lo hi b:Nat}(h:ZH G8 o (Q4 (Qi o) 0 ds xs env) x (AI Hs+1-lo) (X::Hs))(k:DK prog N m bs cat l ds env n K ((b,X[b]?)::B) Hs X r (xs++[x]))(hc:YH cat (AI xs)=AC (0,lo,hi):=by rfl)(hl:gS o (Q4 (Qi o) 0 ds xs env)=AC b:=by rfl)(hd:o.dst=AC d:=by rfl)(hlo:Nat.ble lo (AI Hs)=true:=by rfl)(hhi:Nat.ble hi (AI bs)=true:=by rfl)(hg:Ye ⟨l⟩ o (Q4 (Qi o) 0 ds xs env)=AC true:=by rfl)(hN:Nat.blt d N=true:=by rfl):DK prog N m bs cat l ds env n K B Hs X (o::r) xs:=g? I3 hl h k hc hd hlo hhi hg hN
theorem P7(m b:Nat)(cat:AA Nat)(hc:HW l m N (I' m 0 l) (oN cat) (n_ b cat) [[],[b]] (RK cat)=AE)(h:DA prog N m cat l (I' m 0 l) env H (λr e H=>WO prog h0 N l.toArray r e H Q) l [])(hcl:Nat.beq (AI cat) m=true:=by rfl)(h0B:Nat.ble h0 (AI H)=true:=by rfl):TC prog h0 N (.region id l.toArray AE) env H Q:=QpF m b cat DF hc hcl h0B h
theorem Cd{β γ:Type}{F:AB β}{F':β->AB γ}{r:γ}{w:β->A}{Hr:β->Qc}(π:AA Nat)(h:F.bind F'=AC r)(hC:∀v,F=AC v->C prog f argsc Hc (RQ w Hr v))(hop:Ka Iv o env=AC (d,f,args))(g:∀v,F=AC v->F' v=AC r->WO prog h0 N all l (up env d (Y0 (Cj π (AI H)) (w v))) (Q9 H π ((Hr v).map (QX (Cj π (AI H))))) Q)(hargs:args=JH (Cj π (AI H)) argsc:=by rfl)(hH:π.map (λp=>H[p]?)=(Hc.map (QX (Cj π (AI H)))).map some:=by rfl)(hπ:π.Nodup:=by decide)(hg:Ye all o env=AC true:=by rfl)(hN:Nat.blt d N=true:=by rfl)(hh:Nat.ble h0 (AI H)=true:=by rfl):WO prog h0 N all (o::l) env H Q:=Cdz Ri π h hC hop g hargs hH hπ hg hN hh
theorem v0{i:Nat}(hx:xs[i]?=AC x)(h:gO iz N l ds xs env0 H i=AC x):Jm prog N l ds xs env0 hB hE i H H:=vQ I3.ty hx h
theorem ov{i c:Nat}(k:Oq prog N l ds xs env0 H (i+1) c)(hx:xs[i]?=AC x:=by rfl)(h:gO iz N l ds xs env0 H i=AC x:=by rfl):Oq prog N l ds xs env0 H i (c+1):=.c (vQ I3.ty hx h) k
end
theorem Zy{T:Type}{X:FX T}{st:HV T}{h0 N:Nat}{c:Code}{c':Cf}{k':AA Kf}{env env':Env}{H H':Qc}{Q:YQ T}(n:Nat)(h:ZK G8 h0 N n (.code c) [] env H=AC (c',k',env',H'))(g:TI X prog h0 N c' k' env' H' st Q):Cy X prog h0 N c env H st Q:=iA I3 n h g
theorem ij{T:Type}{X:FX T}{st:HV T}{h0 N:Nat}{k:AA Kf}{all:Array AM}{l:AA AM}{c':Cf}{k':AA Kf}{env env':Env}{H H':Qc}{Q:YQ T}(n:Nat)(h:ZK G8 h0 N n (.ops all l) k env H=AC (c',k',env',H'))(g:TI X prog h0 N c' k' env' H' st Q):FT X prog h0 N all l env H st (Nf X prog h0 N k Q):=iA I3 n h g
theorem H6{T:Type}{X:FX T}{st:HV T}{h0 N:Nat}{k:AA Kf}{x:Lf}{c':Cf}{k':AA Kf}{env env':Env}{H H':Qc}{Q:YQ T}(n:Nat)(h:ZK G8 h0 N n (.out x) k env H=AC (c',k',env',H'))(g:TI X prog h0 N c' k' env' H' st Q):Nf X prog h0 N k Q x env H st:=iA I3 n h g
def D4:Go.Shelf.Ren:=⟨λ|144=>313|143=>326|219=>329|217=>331|225=>332|224=>333|267=>334|266=>335|314=>336|n=>n,λ|9=>9|4=>4|3=>3|5=>5|46=>223|146=>303|51=>302|n=>n,λ|1=>0|n=>n⟩
theorem QdG:Go.Proofs.Lays.n144 prog D4:=by
  constructor<;>first|kernel_rfl|(intro;kernel_rfl)|exact gd (by kernel_rfl) (by kernel_rfl)
def FF:Go.Shelf.Ren:=⟨λ|21=>220|27=>279|28=>280|35=>311|39=>324|n=>n,λ|22=>73|3=>3|4=>4|0=>0|n=>n,λ|n=>n⟩
theorem Qey:Go.Proofs.Lays2.n21 prog FF:=by
  constructor<;>first|kernel_rfl|(intro;kernel_rfl)|exact gd (by kernel_rfl) (by kernel_rfl)
def Fl:Go.Shelf.Ren:=⟨λ|6=>43|15=>104|14=>103|28=>177|29=>178|20=>169|21=>170|22=>171|23=>172|24=>173|25=>174|26=>175|27=>176|46=>263|47=>264|48=>265|49=>266|50=>267|57=>304|n=>n,λ|22=>55|24=>75|25=>154|3=>3|39=>223|0=>0|53=>302|55=>305|4=>4|46=>311|45=>310|50=>315|5=>5|9=>9|66=>397|70=>401|76=>427|77=>240|n=>n,λ|n=>n⟩
theorem QhA:Go.Proofs.SlLaysF0.n6 prog Fl:=by
  constructor<;>first|kernel_rfl|(intro;kernel_rfl)|exact gd (by kernel_rfl) (by kernel_rfl)
def Fk:Go.Shelf.Ren:=⟨λ|6=>57|15=>104|14=>116|28=>177|29=>178|20=>184|21=>185|22=>186|23=>187|24=>188|25=>189|26=>190|27=>191|46=>269|47=>264|48=>265|49=>270|50=>271|57=>305|n=>n,λ|22=>51|24=>77|25=>164|3=>3|39=>223|0=>0|53=>302|55=>305|4=>4|46=>311|45=>310|50=>315|5=>5|9=>9|66=>397|70=>401|76=>427|77=>240|n=>n,λ|n=>n⟩
theorem Qhz:Go.Proofs.SlLaysF0.n6 prog Fk:=by
  constructor<;>first|kernel_rfl|(intro;kernel_rfl)|exact gd (by kernel_rfl) (by kernel_rfl)
end Go.Sw
