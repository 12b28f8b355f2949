/- The types of OutcomeRemoved and facts on them. -/
import Derived.Test.YtgamokchjocjaaaGreatL3
import Derived.Test.YtgamokchjocjaaaGreatProg
set_option linter.unusedVariables false
set_option linter.unusedSimpArgs false
set_option maxRecDepth 100000
set_option maxHeartbeats 4000000
namespace Go.Sw
open Option renaming some→AC
open Bool renaming false→AD,true→AE
open List renaming length→AI
open Go renaming Value→AL,Oper→AM
open List(map)
open Int(toNat)
open Go.IntKind(i64 u64 u8)
open Go.Proofs Tryz
abbrev EC:=@runUnderlying114
abbrev ED:=@sizeOf3
abbrev EE:=@runUnderlying34
abbrev EF:=@isAgg3
abbrev EG:=@sizeOf107
abbrev EH:=@runUnderlying37
abbrev EI:=@runUnderlying78
abbrev EJ:=@zeroValue67
abbrev EK:=@runUnderlying24
abbrev EL:=@underlying127
abbrev EM:=@runUnderlying262
abbrev EN:=@runUnderlying51
abbrev EO:=@sizeOf114
abbrev EP:=@sizeOf41
abbrev EQ:=@runUnderlying44
abbrev ES:=@sizeOf62
abbrev ET:=@runUnderlying36
abbrev EU:=@sizeOf160
abbrev EV:=@runUnderlying42
abbrev EW:=@runUnderlying438
abbrev EX:=@zeroValue3
abbrev EY:=@runUnderlying273
abbrev EZ:=@sizeOf85
abbrev E0:=@runUnderlying194
abbrev E3:=@underlying408
abbrev E4:=@runUnderlying240
abbrev E5:=@runUnderlying3
abbrev E6:=@runUnderlying107
abbrev E7:=@sizeOf202
abbrev E8:=@zeroValue4
abbrev E9:=@runUnderlying121
abbrev Ga:=@runUnderlying442
abbrev Gb:=@sizeOf5
abbrev Gd:=@runUnderlying23
abbrev Ge:=@sizeOf129
abbrev Gf:=@sizeOf67
abbrev Gg:=@sizeOf50
abbrev Gh:=@isAgg114
abbrev Gi:=@isAgg62
abbrev Gj:=@runUnderlying9
abbrev Gk:=@runUnderlying5
abbrev Gm:=@sizeOf193
abbrev Gn:=@runUnderlying388
abbrev Gp:=@runUnderlying264
abbrev Gq:=@runUnderlying299
abbrev Gr:=@underlying9
abbrev Gs:=@runUnderlying67
abbrev Gu:=@zeroValue135
abbrev Gv:=@underlying3
abbrev Gw:=@underlying286
abbrev Gy:=@underlying123
abbrev Gz:=@runUnderlying158
abbrev GA:=@runUnderlying129
abbrev GB:=@runUnderlying122
abbrev GC:=@runUnderlying132
abbrev GD:=@runUnderlying167
abbrev GE:=@runUnderlying419
abbrev GF:=@isAgg193
abbrev GG:=@runUnderlying29
abbrev GH:=@runUnderlying85
abbrev GI:=@runUnderlying89
abbrev GJ:=@sizeOf4
abbrev GK:=@isAgg41
abbrev GL:=@isAgg118
abbrev GM:=@sizeOf214
abbrev GN:=@sizeOf118
abbrev GO:=@runUnderlying202
abbrev GQ:=@sizeOf97
abbrev GR:=@runUnderlying266
abbrev GS:=@runUnderlying216
abbrev GT:=@runUnderlying50
abbrev GU:=@runUnderlying41
abbrev GV:=@runUnderlying55
abbrev GW:=@sizeOf101
abbrev GX:=@sizeOf233
abbrev GY:=@sizeOf135
abbrev GZ:=@sizeOf116
abbrev G1:=@underlying29
abbrev G2:=@sizeOf442
abbrev G3:=@zeroValue438
abbrev G4:=@sizeOf278
theorem C':prog.follows .mixedOrders=true:=by rfl
structure AQ where
  A8:Int
  A7:Int
  A6:Int
  Al:Int
  BG:Int
  deriving DecidableEq
def AQ.c(x:AQ):AA Go.Sw.A:=[I x.A8,I x.A7,I x.A6,I x.Al,I x.BG]
structure Am where
  Ap:List UInt8
  AY:Int
  deriving DecidableEq
def Am.c(x:Am):AA Go.Sw.A:=[.str x.Ap,I x.AY]
structure Co where
  A':Int
  To:Int
  Bp:Int
  Bq:Int
  deriving DecidableEq
def Co.c(x:Co):AA Go.Sw.A:=[I x.A',I x.To,I x.Bp,I x.Bq]
structure CH where
  Am:Int
  As:Int
  Ac:List CH
mutual
def CH.enc:CH->AA A
  |⟨x0,x1,x2⟩=>[I x0,I x1,.q 3 (CH.encs x2)]
def CH.encs:AA CH->AA (AA A)
  |[]=>[]
  |x::l=>CH.enc x::CH.encs l
end
theorem tH(l:AA CH):CH.encs l=map CH.enc l:=by induction l with|nil=>simp[CH.encs]|cons x l h=>simp[CH.encs,h]
def CH.c(x:CH):AA Go.Sw.A:=[I x.Am,I x.As,.q 3 (map CH.enc x.Ac)]
theorem QL(x:CH):CH.enc x=CH.c x:=by cases x;simp[CH.enc,CH.c,tH]
structure CO where
  Am:Int
  B9:Int
  Bu:Int
  deriving DecidableEq
def CO.c(x:CO):AA Go.Sw.A:=[I x.Am,I x.B9,I x.Bu]
structure AN where
  Ap:List UInt8
  Ad:List CH
  BH:Int
  Ar:List CO
  Ak:Int
def AN.c(x:AN):AA Go.Sw.A:=[.str x.Ap,.q 3 (map CH.enc x.Ad),I x.BH,.q 3 (map CO.c x.Ar),I x.Ak]
structure A3 where
  Ap:List UInt8
  B_:Int
  deriving DecidableEq
def A3.c(x:A3):AA Go.Sw.A:=[.str x.Ap,I x.B_]
structure AZ where
  Ap:List UInt8
  Bb:Int
  As:Int
  BQ:Bool
  deriving DecidableEq
def AZ.c(x:AZ):AA Go.Sw.A:=[.str x.Ap,I x.Bb,I x.As,.b x.BQ]
structure AW where
  Ap:List UInt8
  A':Int
  To:Int
  deriving DecidableEq
def AW.c(x:AW):AA Go.Sw.A:=[.str x.Ap,I x.A',I x.To]
structure CS where
  AN:Int
  AW:Int
  Bz:Int
  BP:Int
  deriving DecidableEq
def CS.c(x:CS):AA Go.Sw.A:=[I x.AN,I x.AW,I x.Bz,I x.BP]
structure AR where
  AY:Int
  Bw:Int
  N:Int
  Ac:List AR
mutual
def AR.enc:AR->AA A
  |⟨x0,x1,x2,x3⟩=>[I x0,I x1,I x2,.q 4 (AR.encs x3)]
def AR.encs:AA AR->AA (AA A)
  |[]=>[]
  |x::l=>AR.enc x::AR.encs l
end
theorem tA(l:AA AR):AR.encs l=map AR.enc l:=by induction l with|nil=>simp[AR.encs]|cons x l h=>simp[AR.encs,h]
def AR.c(x:AR):AA Go.Sw.A:=[I x.AY,I x.Bw,I x.N,.q 4 (map AR.enc x.Ac)]
theorem Jf(x:AR):AR.enc x=AR.c x:=by cases x;simp[AR.enc,AR.c,tA]
structure AX where
  AY:Int
  By:Int
  AR:AR
  BX:List AX
  Be:List AX
mutual
def AX.enc:AX->AA A
  |⟨x0,x1,x2,x3,x4⟩=>[I x0,I x1,I x2.AY,I x2.Bw,I x2.N,.q 4 (map AR.enc x2.Ac),.q 8 (AX.encs x3),.q 8 (AX.encs x4)]
def AX.encs:AA AX->AA (AA A)
  |[]=>[]
  |x::l=>AX.enc x::AX.encs l
end
theorem tK(l:AA AX):AX.encs l=map AX.enc l:=by induction l with|nil=>simp[AX.encs]|cons x l h=>simp[AX.encs,h]
def AX.c(x:AX):AA Go.Sw.A:=[I x.AY,I x.By,I x.AR.AY,I x.AR.Bw,I x.AR.N,.q 4 (map AR.enc x.AR.Ac),.q 8 (map AX.enc x.BX),.q 8 (map AX.enc x.Be)]
theorem Yq(x:AX):AX.enc x=AX.c x:=by cases x;simp[AX.enc,AX.c,tK]
structure CB where
  Ap:List UInt8
  Au:List Am
  Az:List Co
  AO:List AN
  A0:List A3
  Ab:List AZ
  AV:List AW
  Ay:List CS
  BL:List AX
  AQ:AQ
  Bk:Int
  Aw:Int
def CB.c(x:CB):AA Go.Sw.A:=[.str x.Ap,.q 2 (map Am.c x.Au),.q 4 (map Co.c x.Az),.q 5 (map AN.c x.AO),.q 2 (map A3.c x.A0),.q 4 (map AZ.c x.Ab),.q 3 (map AW.c x.AV),.q 4 (map CS.c x.Ay),.q 8 (map AX.enc x.BL),I x.AQ.A8,I x.AQ.A7,I x.AQ.A6,I x.AQ.Al,I x.AQ.BG,I x.Bk,I x.Aw]
structure AP where
  BT:Int
  AN:Int
  A3:Int
  BM:Int
  B4:Int
  BA:Int
  Bl:Int
  B5:Int
  deriving DecidableEq
def AP.c(x:AP):AA Go.Sw.A:=[I x.BT,I x.AN,I x.A3,I x.BM,I x.B4,I x.BA,I x.Bl,I x.B5]
structure A5 where
  Am:Int
  Ag:Int
  BA:Int
  BB:Int
  deriving DecidableEq
def A5.c(x:A5):AA Go.Sw.A:=[I x.Am,I x.Ag,I x.BA,I x.BB]
structure Aa where
  Am:Int
  Ag:Int
  BB:Int
  True:Int
  B7:Int
  deriving DecidableEq
def Aa.c(x:Aa):AA Go.Sw.A:=[I x.Am,I x.Ag,I x.BB,I x.True,I x.B7]
structure An where
  Bs:Int
  Bg:Int
  BZ:Int
  Br:Int
  Bf:Int
  BY:Int
  Bp:Int
  Bq:Int
  deriving DecidableEq
def An.c(x:An):AA Go.Sw.A:=[I x.Bs,I x.Bg,I x.BZ,I x.Br,I x.Bf,I x.BY,I x.Bp,I x.Bq]
structure Ae where
  BT:Int
  AT:Int
  Lo:Int
  Hi:Int
  deriving DecidableEq
def Ae.c(x:Ae):AA Go.Sw.A:=[I x.BT,I x.AT,I x.Lo,I x.Hi]
structure Aq where
  Am:Int
  Ag:Int
  Lo:Int
  Hi:Int
  deriving DecidableEq
def Aq.c(x:Aq):AA Go.Sw.A:=[I x.Am,I x.Ag,I x.Lo,I x.Hi]
structure Bc where
  A:Int
  B:Int
  deriving DecidableEq
def Bc.c(x:Bc):AA Go.Sw.A:=[I x.A,I x.B]
structure Ai where
  BI:Int
  BT:Int
  AZ:Int
  AT:Int
  deriving DecidableEq
def Ai.c(x:Ai):AA Go.Sw.A:=[I x.BI,I x.BT,I x.AZ,I x.AT]
structure Av where
  BI:Int
  By:Int
  Bk:Int
  B2:Int
  deriving DecidableEq
def Av.c(x:Av):AA Go.Sw.A:=[I x.BI,I x.By,I x.Bk,I x.B2]
structure Af where
  BI:Int
  BU:Int
  AY:Int
  BT:Int
  AT:Int
  BP:Int
  deriving DecidableEq
def Af.c(x:Af):AA Go.Sw.A:=[I x.BI,I x.BU,I x.AY,I x.BT,I x.AT,I x.BP]
structure BC where
  BI:Int
  Bi:Bool
  deriving DecidableEq
def BC.c(x:BC):AA Go.Sw.A:=[I x.BI,.b x.Bi]
structure LL where
  BD:Int
  No:Int
  deriving DecidableEq
def LL.c(x:LL):AA Go.Sw.A:=[I x.BD,I x.No]
structure CI where
  BD:Int
  No:Int
  At:Int
  AY:Int
  AP:AP
  A5:A5
  Aa:Aa
  An:An
  Ae:Ae
  Aq:Aq
  Bc:Bc
  Ai:Ai
  Av:Av
  Af:Af
  BC:BC
  Bo:LL
  deriving DecidableEq
def CI.c(x:CI):AA Go.Sw.A:=[I x.BD,I x.No,I x.At,I x.AY,I x.AP.BT,I x.AP.AN,I x.AP.A3,I x.AP.BM,I x.AP.B4,I x.AP.BA,I x.AP.Bl,I x.AP.B5,I x.A5.Am,I x.A5.Ag,I x.A5.BA,I x.A5.BB,I x.Aa.Am,I x.Aa.Ag,I x.Aa.BB,I x.Aa.True,I x.Aa.B7,I x.An.Bs,I x.An.Bg,I x.An.BZ,I x.An.Br,I x.An.Bf,I x.An.BY,I x.An.Bp,I x.An.Bq,I x.Ae.BT,I x.Ae.AT,I x.Ae.Lo,I x.Ae.Hi,I x.Aq.Am,I x.Aq.Ag,I x.Aq.Lo,I x.Aq.Hi,I x.Bc.A,I x.Bc.B,I x.Ai.BI,I x.Ai.BT,I x.Ai.AZ,I x.Ai.AT,I x.Av.BI,I x.Av.By,I x.Av.Bk,I x.Av.B2,I x.Af.BI,I x.Af.BU,I x.Af.AY,I x.Af.BT,I x.Af.AT,I x.Af.BP,I x.BC.BI,.b x.BC.Bi,I x.Bo.BD,I x.Bo.No]
structure CD where
  BQ:Bool
  Bh:Int
  Lo:Int
  Hi:Int
  deriving DecidableEq
def CD.c(x:CD):AA Go.Sw.A:=[.b x.BQ,I x.Bh,I x.Lo,I x.Hi]
abbrev Uz:CD:={BQ:=AD,Bh:=0,Lo:=0,Hi:=0}
structure CF where
  AT:Int
  Bb:Int
  As:Int
  BQ:Bool
  deriving DecidableEq
def CF.c(x:CF):AA Go.Sw.A:=[I x.AT,I x.Bb,I x.As,.b x.BQ]
abbrev UA:CH:={Am:=0,As:=0,Ac:=[]}
abbrev Uu:AN:={Ap:=[],Ad:=[],BH:=0,Ar:=[],Ak:=0}
abbrev Us:AR:={AY:=0,Bw:=0,N:=0,Ac:=[]}
abbrev UI:AX:={AY:=0,By:=0,AR:=Us,BX:=[],Be:=[]}
abbrev Uw:AQ:={A8:=0,A7:=0,A6:=0,Al:=0,BG:=0}
abbrev Ut:CB:={Ap:=[],Au:=[],Az:=[],AO:=[],A0:=[],Ab:=[],AV:=[],Ay:=[],BL:=[],AQ:=Uw,Bk:=0,Aw:=0}
structure CC where
  Am:Int
  Ag:Int
  BK:Int
  deriving DecidableEq
def CC.c(x:CC):AA Go.Sw.A:=[I x.Am,I x.Ag,I x.BK]
structure CE where
  AS:List CC
  BN:List (List Int)
  deriving DecidableEq
def CE.c(x:CE):AA Go.Sw.A:=[.q 3 (map CC.c x.AS),.q 1 (map (Qx 1 (Qe .i64)) x.BN)]
structure CN where
  Am:Int
  Ag:Int
  BA:Int
  BO:Int
  A9:Int
  deriving DecidableEq
def CN.c(x:CN):AA Go.Sw.A:=[I x.Am,I x.Ag,I x.BA,I x.BO,I x.A9]
structure Ui where
  A4:CB
  Bj:CE
  Aj:AP
  B6:List CN
  Bt:List Ae
  BV:List CF
  Ba:Int
  Ao:Int
def Ui.c(x:Ui):AA Go.Sw.A:=[.str x.A4.Ap,.q 2 (map Am.c x.A4.Au),.q 4 (map Co.c x.A4.Az),.q 5 (map AN.c x.A4.AO),.q 2 (map A3.c x.A4.A0),.q 4 (map AZ.c x.A4.Ab),.q 3 (map AW.c x.A4.AV),.q 4 (map CS.c x.A4.Ay),.q 8 (map AX.enc x.A4.BL),I x.A4.AQ.A8,I x.A4.AQ.A7,I x.A4.AQ.A6,I x.A4.AQ.Al,I x.A4.AQ.BG,I x.A4.Bk,I x.A4.Aw,.q 3 (map CC.c x.Bj.AS),.q 1 (map (Qx 1 (Qe .i64)) x.Bj.BN),I x.Aj.BT,I x.Aj.AN,I x.Aj.A3,I x.Aj.BM,I x.Aj.B4,I x.Aj.BA,I x.Aj.Bl,I x.Aj.B5,.q 5 (map CN.c x.B6),.q 4 (map Ae.c x.Bt),.q 4 (map CF.c x.BV),I x.Ba,I x.Ao]
abbrev UH:AP:={BT:=0,AN:=0,A3:=0,BM:=0,B4:=0,BA:=0,Bl:=0,B5:=0}
abbrev E_:Ui:={A4:=Ut,Bj:={AS:=[],BN:=[]:CE},Aj:=UH,B6:=[],Bt:=[],BV:=[],Ba:=0,Ao:=0}
structure Ul where
  BW:Int
  to_:Int
  deriving DecidableEq
def Ul.c(x:Ul):AA Go.Sw.A:=[I x.BW,I x.to_]
structure Up where
  B0:Int
  B3:Int
  CA:Int
  deriving DecidableEq
def Up.c(x:Up):AA Go.Sw.A:=[I x.B0,I x.B3,I x.CA]
structure Uq where
  AX:AX
def Uq.c(x:Uq):AA Go.Sw.A:=[I x.AX.AY,I x.AX.By,I x.AX.AR.AY,I x.AX.AR.Bw,I x.AX.AR.N,.q 4 (map AR.enc x.AX.AR.Ac),.q 8 (map AX.enc x.AX.BX),.q 8 (map AX.enc x.AX.Be)]
structure Uj where
  AR:AR
def Uj.c(x:Uj):AA Go.Sw.A:=[I x.AR.AY,I x.AR.Bw,I x.AR.N,.q 4 (map AR.enc x.AR.Ac)]
inductive Um where
  |ctyping_step (x:Uq)
  |ctyping_cond (x:Uj)
def Um.val:Um->A
  |.ctyping_step x=>.iface 419 (.a (Uq.c x))
  |.ctyping_cond x=>.iface 438 (.a (Uj.c x))
def Um.enc(x:Um):AA A:=[x.val]
def Um.elim{R:Type}(e:Um)(f0:Uq->AB R)(f1:Uj->AB R):AB R:=match e with
  |.ctyping_step x=>f0 x
  |.ctyping_cond x=>f1 x
theorem Um.data(x:Um):YJ x.val=true:=by cases x<;>rfl
theorem JF(e:Um):(∃x,e=.ctyping_step x)\/(∃x,e=.ctyping_cond x):=by cases e<;>simp
theorem Jq{R:Type}{e:Um}{x:Uq}{f0:Uq->AB R}{f1:Uj->AB R}{r:R}(hE:e=.ctyping_step x)(h:Um.elim e f0 f1=AC r):f0 x=AC r:=by subst hE;exact h
theorem Jp{R:Type}{e:Um}{x:Uj}{f0:Uq->AB R}{f1:Uj->AB R}{r:R}(hE:e=.ctyping_cond x)(h:Um.elim e f0 f1=AC r):f1 x=AC r:=by subst hE;exact h
structure Uk where
  BE:Int
  BF:Int
  deriving DecidableEq
def Uk.c(x:Uk):AA Go.Sw.A:=[I x.BE,I x.BF]
structure Ua where
  mat:Int
  BS:Int
  deriving DecidableEq
def Ua.c(x:Ua):AA Go.Sw.A:=[I x.mat,I x.BS]
structure CK where
  Lo:Int
  Hi:Int
  deriving DecidableEq
def CK.c(x:CK):AA Go.Sw.A:=[I x.Lo,I x.Hi]
structure Ue where
  Ah:Int
  A_:CK
  deriving DecidableEq
def Ue.c(x:Ue):AA Go.Sw.A:=[I x.Ah,I x.A_.Lo,I x.A_.Hi]
structure Ub where
  BW:Int
  to_:Int
  deriving DecidableEq
def Ub.c(x:Ub):AA Go.Sw.A:=[I x.BW,I x.to_]
structure Ud where
  B8:Int
  mat:Int
  BS:Int
  deriving DecidableEq
def Ud.c(x:Ud):AA Go.Sw.A:=[I x.B8,I x.mat,I x.BS]
structure Uf where
  mat:Int
  BS:Int
  deriving DecidableEq
def Uf.c(x:Uf):AA Go.Sw.A:=[I x.mat,I x.BS]
structure Uh where
  Bm:Int
  Bv:Ue
  row:Int
  deriving DecidableEq
def Uh.c(x:Uh):AA Go.Sw.A:=[I x.Bm,I x.Bv.Ah,I x.Bv.A_.Lo,I x.Bv.A_.Hi,I x.row]
abbrev DQ:Uh:={Bm:=0,Bv:={Ah:=0,A_:={Lo:=0,Hi:=0:CK}:Ue},row:=0}
structure CX where
  BJ:List Int
  A9:Int
  deriving DecidableEq
def CX.c(x:CX):AA Go.Sw.A:=[.q 1 (map (Qe .i64) x.BJ),I x.A9]
abbrev Uy:Ae:={BT:=0,AT:=0,Lo:=0,Hi:=0}
abbrev UB:CF:={AT:=0,Bb:=0,As:=0,BQ:=AD}
structure Edge where
  A':Int
  To:Int
  W:Int
  deriving DecidableEq
def Edge.c(x:Edge):AA Go.Sw.A:=[I x.A',I x.To,I x.W]
abbrev UD:A5:={Am:=0,Ag:=0,BA:=0,BB:=0}
abbrev Ur:Aa:={Am:=0,Ag:=0,BB:=0,True:=0,B7:=0}
abbrev UJ:An:={Bs:=0,Bg:=0,BZ:=0,Br:=0,Bf:=0,BY:=0,Bp:=0,Bq:=0}
abbrev UG:Aq:={Am:=0,Ag:=0,Lo:=0,Hi:=0}
abbrev UE:Ai:={BI:=0,BT:=0,AZ:=0,AT:=0}
abbrev UC:Av:={BI:=0,By:=0,Bk:=0,B2:=0}
abbrev UF:Af:={BI:=0,BU:=0,AY:=0,BT:=0,AT:=0,BP:=0}
abbrev Uv:CI:={BD:=0,No:=0,At:=0,AY:=0,AP:=UH,A5:=UD,Aa:=Ur,An:=UJ,Ae:=Uy,Aq:=UG,Bc:={A:=0,B:=0:Bc},Ai:=UE,Av:=UC,Af:=UF,BC:={BI:=0,Bi:=AD:BC},Bo:={BD:=0,No:=0:LL}}
structure AL where
  AY:Int
  N:Int
  S:List UInt8
  L:List AL
mutual
def Value.enc:AL->AA A
  |⟨x0,x1,x2,x3⟩=>[I x0,I x1,.str x2,.q 4 (Value.encs x3)]
def Value.encs:AA AL->AA (AA A)
  |[]=>[]
  |x::l=>Value.enc x::Value.encs l
end
theorem Qgd(l:AA AL):Value.encs l=map Value.enc l:=by induction l with|nil=>simp[Value.encs]|cons x l h=>simp[Value.encs,h]
def Value.c(x:AL):AA Go.Sw.A:=[I x.AY,I x.N,.str x.S,.q 4 (map Value.enc x.L)]
theorem mE(x:AL):Value.enc x=Value.c x:=by cases x;simp[Value.enc,Value.c,Qgd]
abbrev UK:AL:={AY:=0,N:=0,S:=[],L:=[]}
structure Cm where
  Ax:Int
  Bn:List Edge
  deriving DecidableEq
def Cm.c(x:Cm):AA Go.Sw.A:=[I x.Ax,.q 3 (map Edge.c x.Bn)]
structure CV where
  K:CE
  S:AP
  BJ:List CN
  B':List Ae
  P:List CF
  deriving DecidableEq
def CV.c(x:CV):AA Go.Sw.A:=[.q 3 (map CC.c x.K.AS),.q 1 (map (Qx 1 (Qe .i64)) x.K.BN),I x.S.BT,I x.S.AN,I x.S.A3,I x.S.BM,I x.S.B4,I x.S.BA,I x.S.Bl,I x.S.B5,.q 5 (map CN.c x.BJ),.q 4 (map Ae.c x.B'),.q 4 (map CF.c x.P)]
abbrev Cc:CV:={K:={AS:=[],BN:=[]:CE},S:=UH,BJ:=[],B':=[],P:=[]}
instance Jj:ElemTy prog 51 62 4:=⟨EN,ES,⟨_,zeroValue62,rfl⟩,⟨_,typeInfo62,by decide⟩⟩
instance z_:ElemTy prog 157 224 3:=⟨runUnderlying157,sizeOf224,⟨_,zeroValue224,rfl⟩,⟨_,typeInfo224,by decide⟩⟩
instance _A:ElemTy prog 158 226 3:=⟨Gz,sizeOf226,⟨_,zeroValue226,rfl⟩,⟨_,typeInfo226,by decide⟩⟩
instance bQ:ElemTy prog 22 207 2:=⟨runUnderlying22,sizeOf207,⟨_,zeroValue207,rfl⟩,⟨_,typeInfo207,by decide⟩⟩
instance bP:ElemTy prog 23 214 4:=⟨Gd,GM,⟨_,zeroValue214,rfl⟩,⟨_,typeInfo214,by decide⟩⟩
instance bO:ElemTy prog 24 160 5:=⟨EK,EU,⟨_,zeroValue160,rfl⟩,⟨_,typeInfo160,by decide⟩⟩
instance nU:ElemTy prog 25 228 2:=⟨runUnderlying25,sizeOf228,⟨_,zeroValue228,rfl⟩,⟨_,typeInfo228,by decide⟩⟩
instance nT:ElemTy prog 29 233 8:=⟨GG,GX,⟨_,zeroValue233,rfl⟩,⟨_,typeInfo233,by decide⟩⟩
instance Qu:ElemTy prog 114 3 1:=⟨EC,ED,⟨_,EX,rfl⟩,⟨_,typeInfo3,by decide⟩⟩
instance np:ElemTy prog 37 114 1:=⟨EH,EO,⟨_,zeroValue114,rfl⟩,⟨_,typeInfo114,by decide⟩⟩
theorem kA:Qw prog 50 2 2 1:=FA GT rfl ED
instance NW:ElemTy prog 273 5 1:=⟨EY,Gb,⟨_,zeroValue5,rfl⟩,⟨_,typeInfo5,by decide⟩⟩
theorem LU:JA prog 9 A.str:=JA.str Gr
theorem oS:prog.underlying 288=AC (.struct (prog.fieldsOf 288)):=by kernel_rfl
theorem zh:prog.stoodInHeld 288=false:=by kernel_rfl
theorem dJ:JA prog 288 (λx=>A.a (Ul.c x)):=by
  refine JA.struct oS Zf (λx y h=>?_) (λw em x=>?_) (λw x y=>?_) (λx=>?_)
  · cases x;cases y
    simpa[Q5,YX,Ul.c]using h
  · simp only[Q5,YX,Ul.c]
    rw[show(10000:Nat)=9998+1+1 from rfl];generalize(9998:Nat)=d;simp[Instr.checkKey,runUnderlying288,E5,Result.andThen,ED,EF,part]
  · have u3:=Gv
    have a3:=EF;have z3:=ED;simp only[Q5,YX,Ul.c,Op.equal,Op.maxDepth];rw[show(10000:Nat)=9999+1 from Z,run_equalIn_agg w 9999 288 _ _ oS zh];simp only[Program.fieldsOf,underlying288]
    go_simp
    cases x;cases y;simp
    repeat' split
    all_goals simp_all
  · simp[Q5,YX,Ul.c,Instr.sameBits]
theorem oU:prog.underlying 385=AC (.struct (prog.fieldsOf 385)):=by kernel_rfl
theorem zj:prog.stoodInHeld 385=false:=by kernel_rfl
theorem r?:JA prog 385 (λx=>A.a (Up.c x)):=by
  refine JA.struct oU Zf (λx y h=>?_) (λw em x=>?_) (λw x y=>?_) (λx=>?_)
  · cases x;cases y
    simpa[Q5,YX,Up.c]using h
  · simp only[Q5,YX,Up.c]
    rw[show(10000:Nat)=9998+1+1 from rfl];generalize(9998:Nat)=d;simp[Instr.checkKey,runUnderlying385,E5,Result.andThen,ED,EF,part]
  · have u3:=Gv
    have a3:=EF;have z3:=ED;simp only[Q5,YX,Up.c,Op.equal,Op.maxDepth];rw[show(10000:Nat)=9999+1 from Z,run_equalIn_agg w 9999 385 _ _ oU zj];simp only[Program.fieldsOf,underlying385]
    go_simp
    cases x;cases y;simp
    repeat' split
    all_goals simp_all
  · simp[Q5,YX,Up.c,Instr.sameBits]
instance c_:ElemTy prog 388 416 1:=⟨Gn,sizeOf416,⟨_,zeroValue416,rfl⟩,⟨_,typeInfo416,by decide⟩⟩
theorem YM:JA prog 3 (λx=>A.int .i64 x):=JA.int Gv
theorem qN:Qw prog 202 0 0 1:=FA GO rfl ED
theorem qO:Qw prog 202 1 1 1:=FA GO rfl ED
theorem Qn1:Qw prog 202 2 2 1:=FA GO rfl ED
theorem X?:Qw prog 41 1 1 1:=FA GU rfl ED
theorem zu:SQ prog 126 [(0,16),(16,2),(18,1),(19,1),(20,1),(21,1),(22,1),(23,1),(24,1)]:=⟨_,runUnderlying126,(Eg sizeOf33 (Eg sizeOf39 (Eg EO (Eg sizeOf121 (Eg sizeOf42 (Eg sizeOf122 (Eg sizeOf123 (Eg sizeOf124 (Eg ED PL.nil)))))))))⟩
theorem oT:prog.underlying 350=AC (.struct (prog.fieldsOf 350)):=by kernel_rfl
theorem zi:prog.stoodInHeld 350=false:=by kernel_rfl
theorem q?:JA prog 350 (λx=>A.a (Ub.c x)):=by
  refine JA.struct oT Zf (λx y h=>?_) (λw em x=>?_) (λw x y=>?_) (λx=>?_)
  · cases x;cases y
    simpa[Q5,YX,Ub.c]using h
  · simp only[Q5,YX,Ub.c]
    rw[show(10000:Nat)=9998+1+1 from rfl];generalize(9998:Nat)=d;simp[Instr.checkKey,runUnderlying350,E5,Result.andThen,ED,EF,part]
  · have u3:=Gv
    have a3:=EF;have z3:=ED;simp only[Q5,YX,Ub.c,Op.equal,Op.maxDepth];rw[show(10000:Nat)=9999+1 from Z,run_equalIn_agg w 9999 350 _ _ oT zi];simp only[Program.fieldsOf,underlying350]
    go_simp
    cases x;cases y;simp
    repeat' split
    all_goals simp_all
  · simp[Q5,YX,Ub.c,Instr.sameBits]
inductive CT where
  |c0 (x:Int)
  |c1 (x:Unit)
  |c2 (x:List Int)
  |c3 (x:(List Int)×(List (Ub×Co)))
theorem Qn3:Qw prog 129 0 0 1:=FA GA rfl ED
theorem Qn2:Qw prog 129 1 1 1:=FA GA rfl ED
theorem qL:Qw prog 129 2 2 1:=FA GA rfl ED
theorem qM:Qw prog 129 4 4 1:=FA GA rfl ED
theorem zp:prog.stoodInHeld 204=false:=by kernel_rfl
theorem Ye(h:Nat):Ii prog 3 (h+1) 1 AD (λl=>∃x:Int,l=[Value.int .i64 x]):=Ii.int Gv EF ED h
theorem _b:We prog 204 Uf.c:=by
  refine gL (QQ underlying204 zp isAgg204 sizeOf204 (Cs.c Ye (Cs.c Ye (Cs.nil 1 _)))) Z (λx=>⟨[_],_,Z,⟨_,Z⟩,[_],_,Z,⟨_,Z⟩,Z⟩) Zf (λx y h=>?_) (by kernel_rfl);obtain⟨_,_⟩:=x;obtain⟨_,_⟩:=y;simpa[Q5,YX,Uf.c,and_assoc]using h
theorem QkU:Qw prog 67 0 0 1:=FA Gs rfl ED
theorem b?:Qw prog 67 1 1 1:=FA Gs rfl ED
instance oD:ElemTy prog 122 135 3:=⟨GB,GY,⟨_,Gu,rfl⟩,⟨_,typeInfo135,by decide⟩⟩
instance oC:ElemTy prog 121 67 2:=⟨E9,Gf,⟨_,EJ,rfl⟩,⟨_,typeInfo67,by decide⟩⟩
inductive CM where
  |c0 (x:Int)
  |c1 (x:(List Int)×(List CK)×(List Ue)×(List (Int×Ue))×Int)
instance z9:ElemTy prog 132 4 1:=⟨GC,GJ,⟨_,E8,rfl⟩,⟨_,typeInfo4,by decide⟩⟩
instance nr:ElemTy prog 55 116 2:=⟨GV,GZ,⟨_,zeroValue116,rfl⟩,⟨_,typeInfo116,by decide⟩⟩
def match_task.tc(x0:CB)(x1:CE)(x2:AA Int)(x3:AA CK)(x4:AA CN)(x5:AA Ue)(x6:A)(x7:A)(x8:Int):AA Go.Sw.A:=[.str x0.Ap,.q 2 (map Am.c x0.Au),.q 4 (map Co.c x0.Az),.q 5 (map AN.c x0.AO),.q 2 (map A3.c x0.A0),.q 4 (map AZ.c x0.Ab),.q 3 (map AW.c x0.AV),.q 4 (map CS.c x0.Ay),.q 8 (map AX.enc x0.BL),I x0.AQ.A8,I x0.AQ.A7,I x0.AQ.A6,I x0.AQ.Al,I x0.AQ.BG,I x0.Bk,I x0.Aw,.q 3 (map CC.c x1.AS),.q 1 (map (Qx 1 (Qe .i64)) x1.BN),.q 1 (map (Qe .i64) x2),.q 2 (map CK.c x3),.q 5 (map CN.c x4),.q 3 (map Ue.c x5),x6,x7,I x8]
theorem Y?:Qw prog 50 0 0 1:=FA GT rfl ED
theorem Z?:Qw prog 50 3 3 1:=FA GT rfl GJ
theorem gV:Qw prog 62 3 3 1:=FA runUnderlying62 rfl ED
theorem a?:Qw prog 62 1 1 1:=FA runUnderlying62 rfl ED
theorem aA:prog.stoodInHeld 62=false:=by kernel_rfl
theorem bR(h:Nat):Ii prog 4 (h+1) 1 AD (λl=>∃x:Bool,l=[Value.bool x]):=Ii.bool underlying4 isAgg4 GJ h
theorem oF:We prog 62 CD.c:=by
  refine gL (QQ underlying62 aA Gi ES (Cs.c bR (Cs.c Ye (Cs.c Ye (Cs.c Ye (Cs.nil 1 _)))))) Z (λx=>⟨[_],_,Z,⟨_,Z⟩,[_],_,Z,⟨_,Z⟩,[_],_,Z,⟨_,Z⟩,[_],_,Z,⟨_,Z⟩,Z⟩) Zf (λx y h=>?_) (by kernel_rfl);obtain⟨_,_,_,_⟩:=x;obtain⟨_,_,_,_⟩:=y;simpa[Q5,YX,CD.c,and_assoc]using h
instance nq:ElemTy prog 43 91 4:=⟨runUnderlying43,sizeOf91,⟨_,zeroValue91,rfl⟩,⟨_,typeInfo91,by decide⟩⟩
instance Ik:ElemTy prog 44 50 4:=⟨EQ,Gg,⟨_,zeroValue50,rfl⟩,⟨_,typeInfo50,by decide⟩⟩
theorem Z':prog.stoodInHeld 67=false:=by kernel_rfl
theorem _C:We prog 67 CK.c:=by
  refine gL (QQ underlying67 Z' isAgg67 Gf (Cs.c Ye (Cs.c Ye (Cs.nil 1 _)))) Z (λx=>⟨[_],_,Z,⟨_,Z⟩,[_],_,Z,⟨_,Z⟩,Z⟩) Zf (λx y h=>?_) (by kernel_rfl);obtain⟨_,_⟩:=x;obtain⟨_,_⟩:=y;simpa[Q5,YX,CK.c,and_assoc]using h
instance Jr:ElemTy prog 240 9 1:=⟨E4,sizeOf9,⟨_,zeroValue9,rfl⟩,⟨_,typeInfo9,by decide⟩⟩
instance _B:ElemTy prog 229 231 4:=⟨runUnderlying229,sizeOf231,⟨_,zeroValue231,rfl⟩,⟨_,typeInfo231,by decide⟩⟩
instance W5:ElemTy prog 34 107 57:=⟨EE,EG,⟨_,zeroValue107,rfl⟩,⟨_,typeInfo107,by decide⟩⟩
theorem Sf:Qw prog 107 3 3 1:=FA E6 rfl ED
theorem Qn4:Qw prog 107 4 4 8:=FA E6 rfl EP
theorem j_:Qw prog 41 0 0 1:=FA GU rfl ED
theorem lN:Qw prog 41 5 5 1:=FA GU rfl ED
theorem kh:Qw prog 107 5 12 4:=FA E6 rfl EZ
theorem kB:Qw prog 85 0 0 1:=FA GH rfl ED
theorem kC:Qw prog 85 1 1 1:=FA GH rfl ED
theorem pG:Qw prog 85 2 2 1:=FA GH rfl ED
theorem gW:Qw prog 85 3 3 1:=FA GH rfl ED
theorem gi:Qw prog 107 6 16 5:=FA E6 rfl sizeOf87
theorem c?:Qw prog 87 0 0 1:=FA runUnderlying87 rfl ED
theorem d?:Qw prog 87 1 1 1:=FA runUnderlying87 rfl ED
theorem dH:Qw prog 107 7 21 8:=FA E6 rfl sizeOf89
theorem e?:Qw prog 89 0 0 1:=FA GI rfl ED
theorem g?:Qw prog 89 3 3 1:=FA GI rfl ED
theorem f?:Qw prog 89 1 1 1:=FA GI rfl ED
theorem h?:Qw prog 89 4 4 1:=FA GI rfl ED
theorem qK:Qw prog 107 8 29 4:=FA E6 rfl sizeOf91
theorem i?:Qw prog 91 0 0 1:=FA runUnderlying91 rfl ED
theorem pH:Qw prog 97 0 0 1:=FA runUnderlying97 rfl ED
theorem Ql4:Qw prog 107 13 47 6:=FA E6 rfl GW
theorem Qn5:Qw prog 101 0 0 1:=FA runUnderlying101 rfl ED
theorem zo:prog.stoodInHeld 107=false:=by kernel_rfl
theorem zn:prog.stoodInHeld 105=false:=by kernel_rfl
theorem zm:prog.stoodInHeld 103=false:=by kernel_rfl
theorem zk:prog.stoodInHeld 101=false:=by kernel_rfl
theorem Z3:prog.stoodInHeld 99=false:=by kernel_rfl
theorem Z4:prog.stoodInHeld 97=false:=by kernel_rfl
theorem Z5:prog.stoodInHeld 95=false:=by kernel_rfl
theorem Z6:prog.stoodInHeld 93=false:=by kernel_rfl
theorem Z7:prog.stoodInHeld 91=false:=by kernel_rfl
theorem Z8:prog.stoodInHeld 89=false:=by kernel_rfl
theorem Z9:prog.stoodInHeld 87=false:=by kernel_rfl
theorem Z_:prog.stoodInHeld 85=false:=by kernel_rfl
theorem aB:prog.stoodInHeld 41=false:=by kernel_rfl
theorem pB:We prog 107 CI.c:=by
  refine gL (QQ underlying107 zo isAgg107 EG (Cs.c Ye (Cs.c Ye (Cs.c Ye (Cs.c Ye (Cs.cons Z (by decide) (QQ underlying41 aB GK EP (Cs.c Ye (Cs.c Ye (Cs.c Ye (Cs.c Ye (Cs.c Ye (Cs.c Ye (Cs.c Ye (Cs.c Ye (Cs.nil 1 _)))))))))) (λe=>Bool.noConfusion e) (Cs.cons Z (by decide) (QQ underlying85 Z_ isAgg85 EZ (Cs.c Ye (Cs.c Ye (Cs.c Ye (Cs.c Ye (Cs.nil 1 _)))))) (λe=>Bool.noConfusion e) (Cs.cons Z (by decide) (QQ underlying87 Z9 isAgg87 sizeOf87 (Cs.c Ye (Cs.c Ye (Cs.c Ye (Cs.c Ye (Cs.c Ye (Cs.nil 1 _))))))) (λe=>Bool.noConfusion e) (Cs.cons Z (by decide) (QQ underlying89 Z8 isAgg89 sizeOf89 (Cs.c Ye (Cs.c Ye (Cs.c Ye (Cs.c Ye (Cs.c Ye (Cs.c Ye (Cs.c Ye (Cs.c Ye (Cs.nil 1 _)))))))))) (λe=>Bool.noConfusion e) (Cs.cons Z (by decide) (QQ underlying91 Z7 isAgg91 sizeOf91 (Cs.c Ye (Cs.c Ye (Cs.c Ye (Cs.c Ye (Cs.nil 1 _)))))) (λe=>Bool.noConfusion e) (Cs.cons Z (by decide) (QQ underlying93 Z6 isAgg93 sizeOf93 (Cs.c Ye (Cs.c Ye (Cs.c Ye (Cs.c Ye (Cs.nil 1 _)))))) (λe=>Bool.noConfusion e) (Cs.cons Z (by decide) (QQ underlying95 Z5 isAgg95 sizeOf95 (Cs.c Ye (Cs.c Ye (Cs.nil 1 _)))) (λe=>Bool.noConfusion e) (Cs.cons Z (by decide) (QQ underlying97 Z4 isAgg97 GQ (Cs.c Ye (Cs.c Ye (Cs.c Ye (Cs.c Ye (Cs.nil 1 _)))))) (λe=>Bool.noConfusion e) (Cs.cons Z (by decide) (QQ underlying99 Z3 isAgg99 sizeOf99 (Cs.c Ye (Cs.c Ye (Cs.c Ye (Cs.c Ye (Cs.nil 1 _)))))) (λe=>Bool.noConfusion e) (Cs.cons Z (by decide) (QQ underlying101 zk isAgg101 GW (Cs.c Ye (Cs.c Ye (Cs.c Ye (Cs.c Ye (Cs.c Ye (Cs.c Ye (Cs.nil 1 _)))))))) (λe=>Bool.noConfusion e) (Cs.cons Z (by decide) (QQ underlying103 zm isAgg103 sizeOf103 (Cs.c Ye (Cs.c bR (Cs.nil 1 _)))) (λe=>Bool.noConfusion e) (Cs.cons Z (by decide) (QQ underlying105 zn isAgg105 sizeOf105 (Cs.c Ye (Cs.c Ye (Cs.nil 1 _)))) (λe=>Bool.noConfusion e) (Cs.nil 2 _)))))))))))))))))) Z (λx=>⟨[_],_,Z,⟨_,Z⟩,[_],_,Z,⟨_,Z⟩,[_],_,Z,⟨_,Z⟩,[_],_,Z,⟨_,Z⟩,[_,_,_,_,_,_,_,_],_,Z,⟨[_],_,Z,⟨_,Z⟩,[_],_,Z,⟨_,Z⟩,[_],_,Z,⟨_,Z⟩,[_],_,Z,⟨_,Z⟩,[_],_,Z,⟨_,Z⟩,[_],_,Z,⟨_,Z⟩,[_],_,Z,⟨_,Z⟩,[_],_,Z,⟨_,Z⟩,Z⟩,[_,_,_,_],_,Z,⟨[_],_,Z,⟨_,Z⟩,[_],_,Z,⟨_,Z⟩,[_],_,Z,⟨_,Z⟩,[_],_,Z,⟨_,Z⟩,Z⟩,[_,_,_,_,_],_,Z,⟨[_],_,Z,⟨_,Z⟩,[_],_,Z,⟨_,Z⟩,[_],_,Z,⟨_,Z⟩,[_],_,Z,⟨_,Z⟩,[_],_,Z,⟨_,Z⟩,Z⟩,[_,_,_,_,_,_,_,_],_,Z,⟨[_],_,Z,⟨_,Z⟩,[_],_,Z,⟨_,Z⟩,[_],_,Z,⟨_,Z⟩,[_],_,Z,⟨_,Z⟩,[_],_,Z,⟨_,Z⟩,[_],_,Z,⟨_,Z⟩,[_],_,Z,⟨_,Z⟩,[_],_,Z,⟨_,Z⟩,Z⟩,[_,_,_,_],_,Z,⟨[_],_,Z,⟨_,Z⟩,[_],_,Z,⟨_,Z⟩,[_],_,Z,⟨_,Z⟩,[_],_,Z,⟨_,Z⟩,Z⟩,[_,_,_,_],_,Z,⟨[_],_,Z,⟨_,Z⟩,[_],_,Z,⟨_,Z⟩,[_],_,Z,⟨_,Z⟩,[_],_,Z,⟨_,Z⟩,Z⟩,[_,_],_,Z,⟨[_],_,Z,⟨_,Z⟩,[_],_,Z,⟨_,Z⟩,Z⟩,[_,_,_,_],_,Z,⟨[_],_,Z,⟨_,Z⟩,[_],_,Z,⟨_,Z⟩,[_],_,Z,⟨_,Z⟩,[_],_,Z,⟨_,Z⟩,Z⟩,[_,_,_,_],_,Z,⟨[_],_,Z,⟨_,Z⟩,[_],_,Z,⟨_,Z⟩,[_],_,Z,⟨_,Z⟩,[_],_,Z,⟨_,Z⟩,Z⟩,[_,_,_,_,_,_],_,Z,⟨[_],_,Z,⟨_,Z⟩,[_],_,Z,⟨_,Z⟩,[_],_,Z,⟨_,Z⟩,[_],_,Z,⟨_,Z⟩,[_],_,Z,⟨_,Z⟩,[_],_,Z,⟨_,Z⟩,Z⟩,[_,_],_,Z,⟨[_],_,Z,⟨_,Z⟩,[_],_,Z,⟨_,Z⟩,Z⟩,[_,_],_,Z,⟨[_],_,Z,⟨_,Z⟩,[_],_,Z,⟨_,Z⟩,Z⟩,Z⟩) Zf (λx y h=>?_) (by kernel_rfl);obtain⟨_,_,_,_,⟨_,_,_,_,_,_,_,_⟩,⟨_,_,_,_⟩,⟨_,_,_,_,_⟩,⟨_,_,_,_,_,_,_,_⟩,⟨_,_,_,_⟩,⟨_,_,_,_⟩,⟨_,_⟩,⟨_,_,_,_⟩,⟨_,_,_,_⟩,⟨_,_,_,_,_,_⟩,⟨_,_⟩,⟨_,_⟩⟩:=x;obtain⟨_,_,_,_,⟨_,_,_,_,_,_,_,_⟩,⟨_,_,_,_⟩,⟨_,_,_,_,_⟩,⟨_,_,_,_,_,_,_,_⟩,⟨_,_,_,_⟩,⟨_,_,_,_⟩,⟨_,_⟩,⟨_,_,_,_⟩,⟨_,_,_,_⟩,⟨_,_,_,_,_,_⟩,⟨_,_⟩,⟨_,_⟩⟩:=y;simpa[Q5,YX,CI.c,AP.c,A5.c,Aa.c,An.c,Ae.c,Aq.c,Bc.c,Ai.c,Av.c,Af.c,BC.c,LL.c,and_assoc]using h
theorem zx:SQ prog 343 [(0,1),(1,1),(2,1),(3,1)]:=⟨_,runUnderlying343,(Eg ED (Eg ED (Eg sizeOf9 (Eg sizeOf341 PL.nil))))⟩
instance oE:ElemTy prog 341 343 4:=⟨runUnderlying341,sizeOf343,⟨_,zeroValue343,rfl⟩,⟨_,typeInfo343,by decide⟩⟩
instance fy:ElemTy prog 36 202 3:=⟨ET,E7,⟨_,zeroValue202,rfl⟩,⟨_,typeInfo202,by decide⟩⟩
theorem zw:SQ prog 169 [(0,1),(1,1)]:=⟨_,runUnderlying169,(Eg ED (Eg sizeOf167 PL.nil))⟩
instance X_:ElemTy prog 167 254 3:=⟨GD,sizeOf254,⟨_,zeroValue254,rfl⟩,⟨_,typeInfo254,by decide⟩⟩
instance W6:ElemTy prog 78 41 8:=⟨EI,EP,⟨_,zeroValue41,rfl⟩,⟨_,typeInfo41,by decide⟩⟩
instance W2:ElemTy prog 42 129 5:=⟨EV,Ge,⟨_,zeroValue129,rfl⟩,⟨_,typeInfo129,by decide⟩⟩
instance gI:ElemTy prog 262 85 4:=⟨EM,EZ,⟨_,zeroValue85,rfl⟩,⟨_,typeInfo85,by decide⟩⟩
instance ju:ElemTy prog 264 97 4:=⟨Gp,GQ,⟨_,zeroValue97,rfl⟩,⟨_,typeInfo97,by decide⟩⟩
instance jv:ElemTy prog 266 101 6:=⟨GR,GW,⟨_,zeroValue101,rfl⟩,⟨_,typeInfo101,by decide⟩⟩
theorem QK{n:Nat}:RB prog n 3 Int (λx=>[A.int .i64 x]) (Qs .i64):=RB.int Gv
def iR:SF:={fld:=[(160,3,3),(110,6,29),(50,2,2),(224,2,2),(33,1,1),(33,2,2),(33,3,3),(33,4,4),(33,5,5),(33,6,6),(33,7,7),(160,1,1),(207,0,0),(160,0,0),(228,0,0),(242,0,0),(244,0,0),(33,0,0),(207,1,1),(214,0,0),(214,1,1),(214,2,2),(214,3,3),(224,1,1),(224,0,0),(226,0,0),(226,1,1),(226,2,2),(160,2,2),(160,4,4),(228,1,1),(242,3,3),(242,1,1),(242,2,2),(244,1,1),(244,2,2),(249,0,0),(249,1,1),(249,2,2),(249,3,3),(33,9,9),(31,0,0),(31,1,1),(31,2,2),(31,3,3),(31,4,4),(33,10,14),(33,11,15),(438,0,0),(231,0,0),(231,1,1),(231,2,2),(231,3,3),(419,0,0),(233,3,6),(233,4,7),(412,0,0),(233,2,2),(412,1,1),(233,0,0),(233,1,1),(33,8,8),(314,0,0),(314,1,1),(202,0,0),(202,1,1),(39,0,0),(39,1,1),(202,2,2),(91,2,2),(91,3,3),(91,1,1),(278,0,0),(278,1,1),(294,0,0),(294,1,1),(294,2,2),(129,0,0),(129,1,1),(129,2,2),(129,3,3),(129,4,4),(67,0,0),(67,1,1),(126,2,18),(41,1,1),(41,2,2),(126,5,21),(126,6,22),(126,8,24),(126,7,23),(126,3,19),(126,4,20),(135,0,0),(135,1,1),(126,1,16),(137,2,4),(126,0,0),(137,0,0),(137,1,1),(116,0,0),(116,1,1),(110,0,0),(110,2,18),(110,7,30),(50,0,0),(50,1,1),(110,5,28),(110,1,16),(110,3,26),(110,4,27),(41,3,3),(62,0,0),(62,2,2),(62,3,3),(62,1,1),(41,0,0),(41,4,4),(41,5,5),(41,6,6),(41,7,7),(89,0,0),(89,3,3),(89,1,1),(89,4,4),(89,2,2),(89,5,5),(89,6,6),(89,7,7),(101,0,0),(101,1,1),(101,2,2),(101,3,3),(101,4,4),(101,5,5),(107,3,3),(107,4,4),(107,5,12),(85,0,0),(85,1,1),(85,2,2),(85,3,3),(107,6,16),(87,0,0),(87,1,1),(87,2,2),(87,3,3),(87,4,4),(107,7,21),(107,8,29),(91,0,0),(107,9,33),(93,0,0),(93,1,1),(93,2,2),(93,3,3),(107,10,37),(95,0,0),(95,1,1),(107,11,39),(97,0,0),(97,1,1),(97,2,2),(97,3,3),(107,12,43),(99,0,0),(99,1,1),(99,2,2),(99,3,3),(107,13,47),(107,14,53),(103,0,0),(107,15,55),(105,0,0),(105,1,1),(107,0,0),(107,1,1),(107,2,2),(103,1,1),(343,3,3),(343,0,0),(343,2,2),(343,1,1),(169,1,1),(169,0,0),(254,0,0),(254,1,1),(254,2,2),(46,3,11),(46,1,2),(46,4,12),(46,2,10),(46,0,0)],agg:=[(160,AE,5),(158,AD,1),(33,AE,16),(39,AE,2),(41,AE,8),(110,AE,31),(50,AE,4),(3,AD,1),(224,AE,3),(157,AD,1),(22,AD,1),(23,AD,1),(24,AD,1),(25,AD,1),(26,AD,1),(27,AD,1),(28,AD,1),(5,AD,1),(9,AD,1),(207,AE,2),(228,AE,2),(242,AE,4),(244,AE,3),(373,AD,1),(215,AD,1),(214,AE,4),(288,AE,2),(365,AD,1),(368,AD,1),(226,AE,3),(291,AD,1),(378,AD,1),(4,AD,1),(370,AD,1),(381,AD,1),(371,AD,1),(249,AE,4),(385,AE,3),(31,AE,5),(233,AE,8),(229,AD,1),(29,AD,1),(231,AE,4),(419,AE,8),(438,AE,4),(416,AD,1),(127,AD,1),(286,AD,1),(36,AD,1),(37,AD,1),(202,AE,3),(114,AD,1),(91,AE,4),(403,AD,1),(278,AE,2),(276,AD,1),(129,AE,5),(67,AE,2),(118,AD,1),(122,AD,1),(123,AD,1),(124,AD,1),(121,AD,1),(137,AE,5),(135,AE,3),(42,AD,1),(55,AD,1),(130,AD,1),(133,AD,1),(132,AD,1),(62,AE,4),(44,AD,1),(52,AD,1),(116,AE,2),(43,AD,1),(193,AD,1),(51,AD,1),(89,AE,8),(101,AE,6),(107,AE,57),(85,AE,4),(87,AE,5),(93,AE,4),(95,AE,2),(97,AE,4),(99,AE,4),(103,AE,2),(105,AE,2),(343,AE,4),(341,AD,1),(169,AE,2),(167,AD,1),(254,AE,3),(46,AE,13)],zer:=[(224,[I 0,I 0,.q 3 (map CH.enc [])],[(0,1),(1,1),(2,1)]),(160,[.str [],.q 3 (map CH.enc []),I 0,.q 3 (map CO.c []),I 0],[(0,1),(1,1),(2,1),(3,1),(4,1)]),(226,[I 0,I 0,I 0],[(0,1),(1,1),(2,1)]),(207,[.str [],I 0],[(0,1),(1,1)]),(214,[I 0,I 0,I 0,I 0],[(0,1),(1,1),(2,1),(3,1)]),(228,[.str [],I 0],[(0,1),(1,1)]),(233,[I 0,I 0,I 0,I 0,I 0,.q 4 (map AR.enc []),.q 8 (map AX.enc []),.q 8 (map AX.enc [])],[(0,1),(1,1),(2,4),(6,1),(7,1)]),(33,[.str [],.q 2 (map Am.c []),.q 4 (map Co.c []),.q 5 (map AN.c []),.q 2 (map A3.c []),.q 4 (map AZ.c []),.q 3 (map AW.c []),.q 4 (map CS.c []),.q 8 (map AX.enc []),I 0,I 0,I 0,I 0,I 0,I 0,I 0],[(0,1),(1,1),(2,1),(3,1),(4,1),(5,1),(6,1),(7,1),(8,1),(9,5),(14,1),(15,1)]),(39,[.q 3 (map CC.c []),.q 1 (map (Qx 1 (Qe .i64)) [])],[(0,1),(1,1)]),(110,[.str [],.q 2 (map Am.c []),.q 4 (map Co.c []),.q 5 (map AN.c []),.q 2 (map A3.c []),.q 4 (map AZ.c []),.q 3 (map AW.c []),.q 4 (map CS.c []),.q 8 (map AX.enc []),I 0,I 0,I 0,I 0,I 0,I 0,I 0,.q 3 (map CC.c []),.q 1 (map (Qx 1 (Qe .i64)) []),I 0,I 0,I 0,I 0,I 0,I 0,I 0,I 0,.q 5 (map CN.c []),.q 4 (map Ae.c []),.q 4 (map CF.c []),I 0,I 0],[(0,16),(16,2),(18,8),(26,1),(27,1),(28,1),(29,1),(30,1)]),(288,[I 0,I 0],[(0,1),(1,1)]),(385,[I 0,I 0,I 0],[(0,1),(1,1),(2,1)]),(419,[I 0,I 0,I 0,I 0,I 0,.q 4 (map AR.enc []),.q 8 (map AX.enc []),.q 8 (map AX.enc [])],[(0,8)]),(438,[I 0,I 0,I 0,.q 4 (map AR.enc [])],[(0,4)]),(412,[I 0,I 0],[(0,1),(1,1)]),(314,[I 0,I 0],[(0,1),(1,1)]),(350,[I 0,I 0],[(0,1),(1,1)]),(294,[I 0,I 0,I 0],[(0,1),(1,1),(2,1)]),(204,[I 0,I 0],[(0,1),(1,1)]),(67,[I 0,I 0],[(0,1),(1,1)]),(202,[I 0,I 0,I 0],[(0,1),(1,1),(2,1)]),(135,[I 0,I 0,I 0],[(0,1),(1,2)]),(137,[I 0,I 0,I 0,I 0,I 0],[(0,1),(1,3),(4,1)]),(116,[.q 1 (map (Qe .i64) []),I 0],[(0,1),(1,1)]),(62,[.b AD,I 0,I 0,I 0],[(0,1),(1,1),(2,1),(3,1)]),(41,[I 0,I 0,I 0,I 0,I 0,I 0,I 0,I 0],[(0,1),(1,1),(2,1),(3,1),(4,1),(5,1),(6,1),(7,1)]),(91,[I 0,I 0,I 0,I 0],[(0,1),(1,1),(2,1),(3,1)]),(50,[I 0,I 0,I 0,.b AD],[(0,1),(1,1),(2,1),(3,1)]),(107,[I 0,I 0,I 0,I 0,I 0,I 0,I 0,I 0,I 0,I 0,I 0,I 0,I 0,I 0,I 0,I 0,I 0,I 0,I 0,I 0,I 0,I 0,I 0,I 0,I 0,I 0,I 0,I 0,I 0,I 0,I 0,I 0,I 0,I 0,I 0,I 0,I 0,I 0,I 0,I 0,I 0,I 0,I 0,I 0,I 0,I 0,I 0,I 0,I 0,I 0,I 0,I 0,I 0,I 0,.b AD,I 0,I 0],[(0,1),(1,1),(2,1),(3,1),(4,8),(12,4),(16,5),(21,8),(29,4),(33,4),(37,2),(39,4),(43,4),(47,6),(53,2),(55,2)]),(343,[I 0,I 0,.str [],.q 4 (map Value.enc [])],[(0,1),(1,1),(2,1),(3,1)]),(169,[I 0,.q 3 (map Edge.c [])],[(0,1),(1,1)]),(254,[I 0,I 0,I 0],[(0,1),(1,1),(2,1)]),(129,[I 0,I 0,I 0,I 0,I 0],[(0,1),(1,1),(2,1),(3,1),(4,1)]),(101,[I 0,I 0,I 0,I 0,I 0,I 0],[(0,1),(1,1),(2,1),(3,1),(4,1),(5,1)]),(97,[I 0,I 0,I 0,I 0],[(0,1),(1,1),(2,1),(3,1)]),(46,[.q 3 (map CC.c []),.q 1 (map (Qx 1 (Qe .i64)) []),I 0,I 0,I 0,I 0,I 0,I 0,I 0,I 0,.q 5 (map CN.c []),.n,.q 4 (map CF.c [])],[(0,2),(2,8),(10,1),(11,1),(12,1)])]}
def m_:AA (Nat×AA (Nat×Nat)):=[(31,[(0,1),(1,1),(2,1),(3,1),(4,1)]),(33,[(0,1),(1,1),(2,1),(3,1),(4,1),(5,1),(6,1),(7,1),(8,1),(9,5),(14,1),(15,1)]),(39,[(0,1),(1,1)]),(41,[(0,1),(1,1),(2,1),(3,1),(4,1),(5,1),(6,1),(7,1)]),(46,[(0,2),(2,8),(10,1),(11,1),(12,1)]),(50,[(0,1),(1,1),(2,1),(3,1)]),(62,[(0,1),(1,1),(2,1),(3,1)]),(67,[(0,1),(1,1)]),(85,[(0,1),(1,1),(2,1),(3,1)]),(87,[(0,1),(1,1),(2,1),(3,1),(4,1)]),(89,[(0,1),(1,1),(2,1),(3,1),(4,1),(5,1),(6,1),(7,1)]),(91,[(0,1),(1,1),(2,1),(3,1)]),(93,[(0,1),(1,1),(2,1),(3,1)]),(95,[(0,1),(1,1)]),(97,[(0,1),(1,1),(2,1),(3,1)]),(99,[(0,1),(1,1),(2,1),(3,1)]),(101,[(0,1),(1,1),(2,1),(3,1),(4,1),(5,1)]),(103,[(0,1),(1,1)]),(105,[(0,1),(1,1)]),(107,[(0,1),(1,1),(2,1),(3,1),(4,8),(12,4),(16,5),(21,8),(29,4),(33,4),(37,2),(39,4),(43,4),(47,6),(53,2),(55,2)]),(110,[(0,16),(16,2),(18,8),(26,1),(27,1),(28,1),(29,1),(30,1)]),(116,[(0,1),(1,1)]),(126,[(0,16),(16,2),(18,1),(19,1),(20,1),(21,1),(22,1),(23,1),(24,1)]),(129,[(0,1),(1,1),(2,1),(3,1),(4,1)]),(135,[(0,1),(1,2)]),(137,[(0,1),(1,3),(4,1)]),(160,[(0,1),(1,1),(2,1),(3,1),(4,1)]),(169,[(0,1),(1,1)]),(202,[(0,1),(1,1),(2,1)]),(204,[(0,1),(1,1)]),(207,[(0,1),(1,1)]),(214,[(0,1),(1,1),(2,1),(3,1)]),(224,[(0,1),(1,1),(2,1)]),(226,[(0,1),(1,1),(2,1)]),(228,[(0,1),(1,1)]),(231,[(0,1),(1,1),(2,1),(3,1)]),(233,[(0,1),(1,1),(2,4),(6,1),(7,1)]),(242,[(0,1),(1,1),(2,1),(3,1)]),(244,[(0,1),(1,1),(2,1)]),(249,[(0,1),(1,1),(2,1),(3,1)]),(254,[(0,1),(1,1),(2,1)]),(278,[(0,1),(1,1)]),(288,[(0,1),(1,1)]),(294,[(0,1),(1,1),(2,1)]),(314,[(0,1),(1,1)]),(343,[(0,1),(1,1),(2,1),(3,1)]),(350,[(0,1),(1,1)]),(385,[(0,1),(1,1),(2,1)]),(412,[(0,1),(1,1)]),(419,[(0,8)]),(438,[(0,4)])]
def Fw:Fa:={ty:=iR,al:=[(33,(.a [.str [],.q 2 (map Am.c []),.q 4 (map Co.c []),.q 5 (map AN.c []),.q 2 (map A3.c []),.q 4 (map AZ.c []),.q 3 (map AW.c []),.q 4 (map CS.c []),.q 8 (map AX.enc []),I 0,I 0,I 0,I 0,I 0,I 0,I 0])),(160,(.a [.str [],.q 3 (map CH.enc []),I 0,.q 3 (map CO.c []),I 0])),(39,(.a [.q 3 (map CC.c []),.q 1 (map (Qx 1 (Qe .i64)) [])])),(110,(.a [.str [],.q 2 (map Am.c []),.q 4 (map Co.c []),.q 5 (map AN.c []),.q 2 (map A3.c []),.q 4 (map AZ.c []),.q 3 (map AW.c []),.q 4 (map CS.c []),.q 8 (map AX.enc []),I 0,I 0,I 0,I 0,I 0,I 0,I 0,.q 3 (map CC.c []),.q 1 (map (Qx 1 (Qe .i64)) []),I 0,I 0,I 0,I 0,I 0,I 0,I 0,I 0,.q 5 (map CN.c []),.q 4 (map Ae.c []),.q 4 (map CF.c []),I 0,I 0])),(50,(.a [I 0,I 0,I 0,.b AD])),(224,(.a [I 0,I 0,.q 3 (map CH.enc [])])),(207,(.a [.str [],I 0])),(228,(.a [.str [],I 0])),(242,(.a [.str [],I 0,I 0,.b AD])),(244,(.a [.str [],I 0,I 0])),(288,(.a [I 0,I 0])),(214,(.a [I 0,I 0,I 0,I 0])),(385,(.a [I 0,I 0,I 0])),(249,(.a [I 0,I 0,I 0,I 0])),(3,(I 0)),(365,.nilf),(368,.nilf),(31,(.a [I 0,I 0,I 0,I 0,I 0])),(233,(.a [I 0,I 0,I 0,I 0,I 0,.q 4 (map AR.enc []),.q 8 (map AX.enc []),.q 8 (map AX.enc [])])),(231,(.a [I 0,I 0,I 0,.q 4 (map AR.enc [])])),(419,(.a [I 0,I 0,I 0,I 0,I 0,.q 4 (map AR.enc []),.q 8 (map AX.enc []),.q 8 (map AX.enc [])])),(438,(.a [I 0,I 0,I 0,.q 4 (map AR.enc [])])),(127,.nilm),(286,.nilm),(202,(.a [I 0,I 0,I 0])),(114,.n),(403,.nilf),(278,(.a [.q 1 (map (Qe .i64) []),.nilm])),(129,(.a [I 0,I 0,I 0,I 0,I 0])),(67,(.a [I 0,I 0])),(118,.nilp),(91,(.a [I 0,I 0,I 0,I 0])),(137,(.a [I 0,I 0,I 0,I 0,I 0])),(135,(.a [I 0,I 0,I 0])),(55,.n),(130,.nilf),(132,.n),(133,.nilf),(62,(.a [.b AD,I 0,I 0,I 0])),(52,(I 0)),(226,(.a [I 0,I 0,I 0])),(193,.nilf),(51,.n),(116,(.a [.q 1 (map (Qe .i64) []),I 0])),(107,(.a [I 0,I 0,I 0,I 0,I 0,I 0,I 0,I 0,I 0,I 0,I 0,I 0,I 0,I 0,I 0,I 0,I 0,I 0,I 0,I 0,I 0,I 0,I 0,I 0,I 0,I 0,I 0,I 0,I 0,I 0,I 0,I 0,I 0,I 0,I 0,I 0,I 0,I 0,I 0,I 0,I 0,I 0,I 0,I 0,I 0,I 0,I 0,I 0,I 0,I 0,I 0,I 0,I 0,I 0,.b AD,I 0,I 0])),(41,(.a [I 0,I 0,I 0,I 0,I 0,I 0,I 0,I 0])),(85,(.a [I 0,I 0,I 0,I 0])),(87,(.a [I 0,I 0,I 0,I 0,I 0])),(89,(.a [I 0,I 0,I 0,I 0,I 0,I 0,I 0,I 0])),(93,(.a [I 0,I 0,I 0,I 0])),(97,(.a [I 0,I 0,I 0,I 0])),(99,(.a [I 0,I 0,I 0,I 0])),(101,(.a [I 0,I 0,I 0,I 0,I 0,I 0])),(343,(.a [I 0,I 0,.str [],.q 4 (map Value.enc [])])),(169,(.a [I 0,.q 3 (map Edge.c [])])),(254,(.a [I 0,I 0,I 0])),(46,(.a [.q 3 (map CC.c []),.q 1 (map (Qx 1 (Qe .i64)) []),I 0,I 0,I 0,I 0,I 0,I 0,I 0,I 0,.q 5 (map CN.c []),.q 4 (map Ae.c []),.q 4 (map CF.c [])]))],sl:=[273,388,114,55,51,34,36,167,78,262,42,264,266,44]}
def IO:NH:={sl:=[(44,50,4),(157,224,3),(22,207,2),(23,214,4),(24,160,5),(25,228,2),(26,242,4),(27,244,3),(28,249,4),(158,226,3),(273,5,1),(114,3,1),(29,233,8),(229,231,4),(388,416,1),(36,202,3),(37,114,1),(43,91,4),(42,129,5),(122,135,3),(51,62,4),(240,9,1),(341,343,4),(34,107,57),(167,254,3),(78,41,8),(55,116,2)],fn:=[215,305,275,218,216,220,222,224,226,217,219,221,223,225,276,173,101,228,237,282,309,281,233,284,92,283,240,229,227,278,307,277,230,280,308,279,232,231,252,296,251,242,286,310,285,234,288,311,287,245,290,312,289,235,292,313,291,248,236,238,239,151,241,243,244,246,247,250,324,314,293,321,294,322,316,315,249,253,254,153,152,147,148,149,150,105,53,52,172,102,99,100,83,82,154,81,270,160,94,210,211,155,156,87,255,157,158,93,43,84,85,86,88,91,95,89,96,35,36,33,40,32,77,44,213,318,304,274,37,214,161,141,139,79,42,140,143,145,142,78,46,103,49,45,48,47,54,26,7,27,28,29,16,41,14,10,15,11,55,56,183,106,182,57,184,107,108,109,110,185,111,264,186,112,113,114,115,58,59,60,61,62,116,187,117,64,63,134,203,201,200,198,199,205,204,197,202,206,132,133,135,299,300,301,302,268,267,73,209,208,207,137,74,118,188,190,18,24,124,189,67,119,122,123,65,66,68,191,192,125,69,193,266,265,194,126,195,196,127,128,130,21,70,71,72,131,17,75,19,20,8,4,5,6,9]}
theorem nf:kL prog m_ Fw IO=kR prog m_ Fw IO:=by kernel_rfl
theorem IW:IV prog Fw:=.ofK nf (by kernel_rfl)
theorem P_:Kx prog IO:=.ofK nf (zy (by kernel_rfl))
section
variable {h0 N m n d id t et k f:Nat} {all:Array AM} {o:AM} {l r r' ll:AA AM} {ds:AA Nat} {env env' env0:Env} {H H' H1 X:Qd} {Q:Qz} {α:Type} {e:α->AA A} {L:AA α} {kk:IntKind} {i:Int} {v:α} {K:AA AM->Env->Qd->Prop} {xs xs':AA A} {args argsc:AA A} {Hc:Qd} {Hs Hs':AA Qd} {bs:AA Nat} {cat:Mm} {k':AA Kf} {c':Cf} {hB hE:Nat} {x:A}
theorem U{l':AA AM}(n:Nat)(h:My Fw h0 N all n l env H=AC (l',env',H'))(k:WO prog h0 N all l' env' H' Q):WO prog h0 N all l env H Q:=AU IW n h k
theorem G0{c:Code}(n:Nat)(h:J3 Fw h0 N n (.code c) [] env H=AC (c',k',env',H'))(g:Hd prog h0 N c' k' env' H' Q):TC prog h0 N c env H Q:=dM IW n h g
theorem Gc{k:AA Kf}{c:Code}(n:Nat)(h:J3 Fw h0 N n (.code c) k env H=AC (c',k',env',H'))(g:Hd prog h0 N c' k' env' H' Q):TC prog h0 N c env H (kq prog h0 N k Q):=dM IW n h g
theorem Go{k:AA Kf}(n:Nat)(h:J3 Fw h0 N n (.ops all l) k env H=AC (c',k',env',H'))(g:Hd prog h0 N c' k' env' H' Q):WO prog h0 N all l env H (kq prog h0 N k Q):=dM IW n h g
theorem Gx{k:AA Kf}{x:K7}(n:Nat)(h:J3 Fw h0 N n (.out x) k env H=AC (c',k',env',H'))(g:Hd prog h0 N c' k' env' H' Q):kq prog h0 N k Q x env H:=dM IW n h g
theorem Cg{β:Type}{E':β->Env}{Hb:β->Qd}{k:AA Kf}{c c2:Code}(b:β)(sel keep:AA Nat)(nE:β->Env)(nH:β->AA (Nat×CW))(hc:∀b,Kw sel keep (nE b) (nH b) env H=AC (E' b,Hb b))(h:TC prog h0 N c env H (KI h0 b E' Hb (kq prog h0 N (.seq c2::k) Q)))(g:TC prog h0 N c2 (E' b) (Hb b) (kq prog h0 N k Q)):TC prog h0 N c env H (kq prog h0 N (.seq c2::k) Q):=Ct b sel keep nE nH hc h λ_ _ e=>Gx 1 rfl (Ef e g)
theorem D5{S B:Type}{b:CG S B}{E':S->Env}{Hb:S->Qd}{k:AA Kf}{c c2:Code}(sel keep:AA Nat)(nE:S->Env)(nH:S->AA (Nat×CW))(hc:∀s,Kw sel keep (nE s) (nH s) env H=AC (E' s,Hb s))(h:TC prog h0 N c env H (LQ h0 b E' Hb (kq prog h0 N (.seq c2::k) Q)))(g:∀s,b=.k s->TC prog h0 N c2 (E' s) (Hb s) (kq prog h0 N k Q)):TC prog h0 N c env H (kq prog h0 N (.seq c2::k) Q):=FT sel keep nE nH hc h λs _ _ q e=>Gx 1 rfl (Ef e (g s q))
theorem nX{S B S':Type}{b x:CG S B}{d:CG S' (CG S B)}{E':S->Env}{Hb:S->Qd}{s:S}(hb:∀b',d=.d b'->b'=b)(h:AC (CG.d x)=AC d)(e:x=.k s)(hl:Le h0 env H (E' s) (Hb s)):LQ h0 b E' Hb Q .normal env H:=J7 ((Oj hb h).symm.trans e) hl
theorem DU{β S':Type}{b x:β}{d:CG S' β}{E':β->Env}{Hb:β->Qd}(hb:∀b',d=.d b'->b'=b)(h:AC (CG.d x)=AC d)(hl:Le h0 env H (E' x) (Hb x)):KI h0 b E' Hb Q .normal env H:=by
  cases Oj hb h;exact hl
theorem Gl{β:Type}{e b:β}{E':β->Env}{Hb:β->Qd}{k:AA Kf}(n:Nat)(hm:J3 Fw h0 N n (.ops all l) k env H=AC (.out .normal,[],env',H'))(h:AC e=AC b)(π:AA Nat)(hpre:π.take h0=List.range h0:=by rfl)(hH:π.map (λp=>H'[p]?)=((Hb e).map (QW (Ci π (AI H')))).map some:=by rfl)(hπ:π.Nodup:=by decide)(hE:Hw (Ci π (AI H')) env' (E' e):=by(repeat' (first|exact trivial|refine⟨rfl,?_⟩))):WO prog h0 N all l env H (kq prog h0 N k (KI h0 b E' Hb Q)):=Go n hm (Cl h π hpre hH hπ hE)
theorem Gt{β:Type}{e r:β}{w:β->A}{Hb:β->Qd}{fn:Func}{k:AA Kf}(n:Nat)(hm:J3 Fw h0 N n (.ops all l) k env H=AC (.out .ret,[],env',H'))(h:AC e=AC r)(a:Nat)(π:AA Nat)(hr:fn.results= #[.tmp a]:=by rfl)(hpre:π.take h0=List.range h0:=by rfl)(hH:π.map (λp=>H'[p]?)=((Hb e).map (QW (Ci π (AI H')))).map some:=by rfl)(hπ:π.Nodup:=by decide)(hE:Hw (Ci π (AI H')) env' [(a,w e)]:=by exact⟨rfl,trivial⟩):WO prog h0 N all l env H (kq prog h0 N k (Ja prog h0 fn (RQ w Hb r))):=Go n hm (Rt h a π hr hpre hH hπ hE)
theorem Gcl{β:Type}{e b:β}{E':β->Env}{Hb:β->Qd}{k:AA Kf}{c:Code}(n:Nat)(hm:J3 Fw h0 N n (.code c) k env H=AC (.out .normal,[],env',H'))(h:AC e=AC b)(π:AA Nat)(hpre:π.take h0=List.range h0:=by rfl)(hH:π.map (λp=>H'[p]?)=((Hb e).map (QW (Ci π (AI H')))).map some:=by rfl)(hπ:π.Nodup:=by decide)(hE:Hw (Ci π (AI H')) env' (E' e):=by(repeat' (first|exact trivial|refine⟨rfl,?_⟩))):TC prog h0 N c env H (kq prog h0 N k (KI h0 b E' Hb Q)):=Gc n hm (Cl h π hpre hH hπ hE)
theorem tp{β:Type}{e r:β}{w:β->A}{Hb:β->Qd}{fn:Func}{k:AA Kf}{c:Code}(n:Nat)(hm:J3 Fw h0 N n (.code c) k env H=AC (.out .ret,[],env',H'))(h:AC e=AC r)(a:Nat)(π:AA Nat)(hr:fn.results= #[.tmp a]:=by rfl)(hpre:π.take h0=List.range h0:=by rfl)(hH:π.map (λp=>H'[p]?)=((Hb e).map (QW (Ci π (AI H')))).map some:=by rfl)(hπ:π.Nodup:=by decide)(hE:Hw (Ci π (AI H')) env' [(a,w e)]:=by exact⟨rfl,trivial⟩):TC prog h0 N c env H (kq prog h0 N k (Ja prog h0 fn (RQ w Hb r))):=Gc n hm (Rt h a π hr hpre hH hπ hE)
theorem Fg{k:AA Kf}{e1:Env}(n:Nat)(h:fR env H=AC (e1,H1))(hm:J3 Fw h0 N n (.ops all l) k e1 H1=AC (c',k',env',H'))(g:Hd prog h0 N c' k' env' H' Q):WO prog h0 N all l env H (kq prog h0 N k Q):=FE h (Go n hm g)
@[reducible] def Ks{β:Type}(F:AB β)(f:FuncId)(args:AA A)(H:Qd)(w:β->A):Prop:=Kp prog F f args H w λ_=>H
@[reducible] def Kq{β:Type}(F:AB β)(f:FuncId)(args:AA A)(H:Qd)(w:β->A)(H1:β->Qd):Prop:=Kp prog F f args H w H1
theorem Kg{β:Type}{F:AB β}{f:FuncId}{fn:Func}{c:Code}{w:β->A}{H1:β->Qd}(n:Nat)(hf:prog.funcs[f]?=AC fn)(hb:fn.body=AC c)(hN:fn.ntmps=N)(hA:Nat.ble (AI args) N=AE)(h:J3 Fw (AI H) N n (.code c) [] (KJ 0 args) H=AC (c',k',env',H'))(g:∀r,F=AC r->Hd prog (AI H) N c' k' env' H' (Ja prog (AI H) fn (RQ w H1 r))):Kp prog F f args H w H1:=Kp.b hf hb hN hA λr e=>G0 n h (g r e)
theorem D(n:Nat)(h:cX Fw N m l ds env H n (AI xs) r xs=AC (r',xs'))(k:DS prog N m l ds env H K r' xs'):DS prog N m l ds env H K r xs:=lO IW n _ rfl h k
theorem Iz(h:CJ L i=AC v)(q:Rl o env=AC (d,t,k,L.map e,kk,i))(g:WO prog h0 N all l (up env d (.rp (e v))) H Q)(ht:Hh IO.sl t=AC (et,k):=by rfl)(hg:Yc all o env=AC true:=by rfl)(hN:Nat.blt d N=true:=by rfl):WO prog h0 N all (o::l) env H Q:=tn P_ h q g ht hg hN
theorem FJ{cs:AA A}(h:CJ L i=AC v)(he:e v=cs)(q:Rl o env=AC (d,t,k,L.map e,kk,i))(g:WO prog h0 N all l (up env d (.rp cs)) H Q)(ht:Hh IO.sl t=AC (et,k):=by rfl)(hg:Yc all o env=AC true:=by rfl)(hN:Nat.blt d N=true:=by rfl):WO prog h0 N all (o::l) env H Q:=Ize P_ h he q g ht hg hN
theorem Lm{k':Nat}(q:Ri o env=AC (d,t,.mk (.q k (L.map e))))(g:WO prog h0 N all l (up env d (I (AI L))) H Q)(ht:Hh IO.sl t=AC (et,k'):=by rfl)(hg:Yc all o env=AC true:=by rfl)(hN:Nat.blt d N=true:=by rfl):WO prog h0 N all (o::l) env H Q:=Lmz P_ q g ht hg hN
theorem Lg{k:AA Kf}{i k1:Nat}(n:Nat)(q:Ri o env=AC (d,t,.mk (.q i (L.map e))))(hm:J3 Fw h0 N n (.ops all l) k (up env d (I (AI L))) H=AC (c',k',env',H'))(g:Hd prog h0 N c' k' env' H' Q)(ht:Hh IO.sl t=AC (et,k1):=by rfl)(hg:Yc all o env=AC true:=by rfl)(hN:Nat.blt d N=true:=by rfl):WO prog h0 N all (o::l) env H (kq prog h0 N k Q):=Lm q (Go n hm g) ht hg hN
theorem Cz{β γ:Type}{F:AB β}{F':β->AB γ}{r:γ}{w:β->A}(π:AA Nat)(h:F.bind F'=AC r)(hC:∀v,F=AC v->C prog f argsc Hc (RQ w (λ_=>Hc) v))(hop:J1 IO o env=AC (d,f,args))(g:∀v,F=AC v->F' v=AC r->WO prog h0 N all l (up env d (w v)) H Q)(hv:∀v,P4 (w v)=AC (.mk (w v)):=by exact λ_=>rfl)(hargs:args=JB (Ci π (AI H)) argsc:=by rfl)(hH:π.map (λp=>H[p]?)=(Hc.map (QW (Ci π (AI H)))).map some:=by rfl)(hπ:π.Nodup:=by decide)(hg:Yc all o env=AC true:=by rfl)(hN:Nat.blt d N=true:=by rfl)(hh:Nat.ble h0 (AI H)=true:=by rfl):WO prog h0 N all (o::l) env H Q:=Czz P_ π h hC hop g hv hargs hH hπ hg hN hh
theorem Cb{β γ:Type}{F:AB β}{F':β->AB γ}{r:γ}{w:β->A}(h:F.bind F'=AC r)(hC:∀v,F=AC v->C prog f argsc [] (RQ w Ze v))(hop:J1 IO o env=AC (d,f,args))(hL:Dn H args argsc)(g:∀v,F=AC v->F' v=AC r->WO prog h0 N all l (up env d (w v)) H Q)(hv:∀v,Ys (w v)=true:=by exact λ_=>rfl)(hg:Yc all o env=AC true:=by rfl)(hN:Nat.blt d N=true:=by rfl):WO prog h0 N all (o::l) env H Q:=Cbz P_ h hC hop hL g hv hg hN
theorem Dz{β γ:Type}{F:AB β}{F':β->AB γ}{r:γ}{w:β->A}(π:AA Nat)(h:F.bind F'=AC r)(hC:∀v,F=AC v->C prog f argsc Hc (RQ w (λ_=>Hc) v))(hop:J1 IO o (Q3 (Qj o) 0 ds xs env)=AC (d,f,args))(g:∀v,F=AC v->F' v=AC r->DS prog N m ll ds env H K l (xs++[w v]))(hv:∀v,P4 (w v)=AC (.mk (w v)):=by exact λ_=>rfl)(hargs:args=JB (Ci π (AI H)) argsc:=by rfl)(hH:π.map (λp=>H[p]?)=(Hc.map (QW (Ci π (AI H)))).map some:=by rfl)(hπ:π.Nodup:=by decide)(hg:Yc ll.toArray o (Q3 (Qj o) 0 ds xs env)=AC true:=by rfl)(hN:Nat.blt d N=true:=by rfl)(hx:Nat.blt (AI xs) m=true:=by rfl):DS prog N m ll ds env H K (o::l) xs:=DzZ P_ π h hC hop g hv hargs hH hπ hg hN hx
theorem DR(m:Nat)(hc:Go.Sw.draw0 l m N (Ij m 0 l)=AE)(h:DS prog N m l (Ij m 0 l) env H (λr e H=>WO prog h0 N l.toArray r e H Q) l [])(h0B:Nat.ble h0 (AI H)=true:=by rfl):TC prog h0 N (.region id l.toArray AE) env H Q:=Qo1 (k:=[]) m C' hc h0B h
theorem Da{cat:AA Nat}(n:Nat)(h:cW Fw N m cat l ds env H n (AI xs) r xs=AC (r',xs'))(k:DA prog N m cat l ds env H K r' xs'):DA prog N m cat l ds env H K r xs:=kv IW n _ rfl h k
theorem Db{cat:AA Nat}(n:Nat)(h:SN Fw N cat l ds env H1 n (AI xs) r xs=AC (r',xs'))(k:DB prog N m cat l ds env H H1 K r' xs'):DB prog N m cat l ds env H H1 K r xs:=dT IW n _ rfl h k
theorem Dk(k:Nat){B:AA (Nat×AB CW)}(h:SP Fw N m cat l ds env n B.isEmpty k (AI xs) (AI Hs) Hs X r xs=AC (Hs',r',xs'))(g:DK prog N m bs cat l ds env n K B Hs' X r' xs'):DK prog N m bs cat l ds env n K B Hs X r xs:=dU IW (λh=>List.isEmpty_iff.1 h) k _ _ rfl rfl h g
theorem Wf{B:AA (Nat×AB CW)}{lo hi:Nat}(h:Wo Fw o (Q3 (Qj o) 0 ds xs env) x (hi+1-lo) (X::Hs))(k:DK prog N m bs cat l ds env n K B Hs X r (xs++[x]))(hc:YH cat (AI xs)=AC (0,lo,hi):=by rfl)(hd:o.dst=AC d:=by rfl)(hcH:Nat.beq hi (AI Hs)=true:=by rfl)(hg:Yc ⟨l⟩ o (Q3 (Qj o) 0 ds xs env)=AC true:=by rfl)(hN:Nat.blt d N=true:=by rfl)(hle:Nat.ble lo hi=true:=by rfl):DK prog N m bs cat l ds env n K B Hs X (o::r) xs:=DK.vs IW h k hc hd hcH hg hN hle
theorem HF(m:Nat)(bs:AA Nat)(cat:Mm)(hc:HA l m N (Ij m 0 l) (nP cat) (nF bs cat) (fM bs) (Pm cat)=AE)(h:DK prog N m bs cat l (Ij m 0 l) env (AI H) (λr e H=>WO prog h0 N l.toArray r e H Q) [] [] H l [])(hcl:Nat.beq (AI cat) m=true:=by rfl)(h0B:Nat.ble h0 (AI H)=true:=by rfl):TC prog h0 N (.region id l.toArray AE) env H Q:=Qo2 m bs cat C' hc hcl h0B h
theorem JR{B:AA (Nat×AB CW)}{lo hi b:Nat}(h:Wo Fw o (Q3 (Qj o) 0 ds xs env) x (AI Hs+1-lo) (X::Hs))(k:DK prog N m bs cat l ds env n K ((b,X[b]?)::B) Hs X r (xs++[x]))(hc:YH cat (AI xs)=AC (0,lo,hi):=by rfl)(hl:ft o (Q3 (Qj o) 0 ds xs env)=AC b:=by rfl)(hd:o.dst=AC d:=by rfl)(hlo:Nat.ble lo (AI Hs)=true:=by rfl)(hhi:Nat.ble hi (AI bs)=true:=by rfl)(hg:Yc ⟨l⟩ o (Q3 (Qj o) 0 ds xs env)=AC true:=by rfl)(hN:Nat.blt d N=true:=by rfl):DK prog N m bs cat l ds env n K B Hs X (o::r) xs:=_H IW hl h k hc hd hlo hhi hg hN
theorem PZ(m b:Nat)(cat:AA Nat)(hc:HA l m N (Ij m 0 l) (nQ cat) (nI b cat) [[],[b]] (Pn cat)=AE)(h:DA prog N m cat l (Ij m 0 l) env H (λr e H=>WO prog h0 N l.toArray r e H Q) l [])(hcl:Nat.beq (AI cat) m=true:=by rfl)(h0B:Nat.ble h0 (AI H)=true:=by rfl):TC prog h0 N (.region id l.toArray AE) env H Q:=Qo3 m b cat C' hc hcl h0B h
theorem Cd{β γ:Type}{F:AB β}{F':β->AB γ}{r:γ}{w:β->A}{Hr:β->Qd}(π:AA Nat)(h:F.bind F'=AC r)(hC:∀v,F=AC v->C prog f argsc Hc (RQ w Hr v))(hop:J1 IO o env=AC (d,f,args))(g:∀v,F=AC v->F' v=AC r->WO prog h0 N all l (up env d (YY (Ci π (AI H)) (w v))) (Q8 H π ((Hr v).map (QW (Ci π (AI H))))) Q)(hargs:args=JB (Ci π (AI H)) argsc:=by rfl)(hH:π.map (λp=>H[p]?)=(Hc.map (QW (Ci π (AI H)))).map some:=by rfl)(hπ:π.Nodup:=by decide)(hg:Yc all o env=AC true:=by rfl)(hN:Nat.blt d N=true:=by rfl)(hh:Nat.ble h0 (AI H)=true:=by rfl):WO prog h0 N all (o::l) env H Q:=Cdz P_ π h hC hop g hargs hH hπ hg hN hh
theorem v0{i:Nat}(hx:xs[i]?=AC x)(h:fh iR N l ds xs env0 H i=AC x):Jk prog N l ds xs env0 hB hE i H H:=vQ IW.ty hx h
theorem ov{i c:Nat}(k:Oq prog N l ds xs env0 H (i+1) c)(hx:xs[i]?=AC x:=by rfl)(h:fh iR N l ds xs env0 H i=AC x:=by rfl):Oq prog N l ds xs env0 H i (c+1):=.c (vQ IW.ty hx h) k
end
theorem ZQ{T:Type}{X:FM T}{st:G' T}{h0 N:Nat}{c:Code}{c':Cf}{k':AA Kf}{env env':Env}{H H':Qd}{Q:YP T}(n:Nat)(h:Wt Fw h0 N n (.code c) [] env H=AC (c',k',env',H'))(g:Si X prog h0 N c' k' env' H' st Q):Cw X prog h0 N c env H st Q:=gc IW n h g
theorem iE{T:Type}{X:FM T}{st:G' T}{h0 N:Nat}{k:AA Kf}{all:Array AM}{l:AA AM}{c':Cf}{k':AA Kf}{env env':Env}{H H':Qd}{Q:YP T}(n:Nat)(h:Wt Fw h0 N n (.ops all l) k env H=AC (c',k',env',H'))(g:Si X prog h0 N c' k' env' H' st Q):FH X prog h0 N all l env H st (M7 X prog h0 N k Q):=gc IW n h g
theorem HQ{T:Type}{X:FM T}{st:G' T}{h0 N:Nat}{k:AA Kf}{x:K7}{c':Cf}{k':AA Kf}{env env':Env}{H H':Qd}{Q:YP T}(n:Nat)(h:Wt Fw h0 N n (.out x) k env H=AC (c',k',env',H'))(g:Si X prog h0 N c' k' env' H' st Q):M7 X prog h0 N k Q x env H st:=gc IW n h g
def Dx:Go.Shelf.Ren:=⟨λ|144=>306|143=>320|219=>323|217=>325|225=>326|224=>327|267=>328|266=>329|314=>330|n=>n,λ|9=>9|4=>4|3=>3|5=>5|46=>216|146=>297|51=>296|n=>n,λ|1=>0|n=>n⟩
theorem QdF:Go.Proofs.Lays.n144 prog Dx:=by
  constructor<;>first|kernel_rfl|(intro;kernel_rfl)|exact gH (by kernel_rfl) (by kernel_rfl)
def D7:Go.Shelf.Ren:=⟨λ|21=>212|27=>271|28=>272|35=>303|39=>317|n=>n,λ|22=>114|3=>3|4=>4|0=>0|n=>n,λ|n=>n⟩
theorem Qez:Go.Proofs.Lays2.n21 prog D7:=by
  constructor<;>first|kernel_rfl|(intro;kernel_rfl)|exact gH (by kernel_rfl) (by kernel_rfl)
def FX:Go.Shelf.Ren:=⟨λ|6=>38|15=>98|14=>97|28=>170|29=>171|20=>162|21=>163|22=>164|23=>165|24=>166|25=>167|26=>168|27=>169|46=>256|47=>257|48=>258|49=>259|50=>260|57=>297|n=>n,λ|22=>55|24=>116|25=>144|3=>3|39=>216|0=>0|53=>296|55=>299|4=>4|46=>305|45=>304|50=>309|5=>5|9=>9|66=>390|70=>394|76=>421|77=>238|n=>n,λ|n=>n⟩
theorem Qhk:Go.Proofs.SlLaysF0.n6 prog FX:=by
  constructor<;>first|kernel_rfl|(intro;kernel_rfl)|exact gH (by kernel_rfl) (by kernel_rfl)
def FW:Go.Shelf.Ren:=⟨λ|6=>50|15=>98|14=>104|28=>170|29=>171|20=>174|21=>175|22=>176|23=>177|24=>178|25=>179|26=>180|27=>181|46=>261|47=>257|48=>258|49=>262|50=>263|57=>298|n=>n,λ|22=>51|24=>62|25=>155|3=>3|39=>216|0=>0|53=>296|55=>299|4=>4|46=>305|45=>304|50=>309|5=>5|9=>9|66=>390|70=>394|76=>421|77=>238|n=>n,λ|n=>n⟩
theorem Qhj:Go.Proofs.SlLaysF0.n6 prog FW:=by
  constructor<;>first|kernel_rfl|(intro;kernel_rfl)|exact gH (by kernel_rfl) (by kernel_rfl)
end Go.Sw
