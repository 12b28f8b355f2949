/- The types of OutcomePenalty and facts on them. -/
import Derived.Test.YtbiglpikpigidaaGreatL3
import Derived.Test.YtbiglpikpigidaaGreatProg
set_option linter.unusedVariables false
set_option linter.unusedSimpArgs false
set_option maxRecDepth 100000
set_option maxHeartbeats 4000000
namespace Go.Sw
open Option renaming some→AC
open Bool renaming false→AD,true→AE
open List renaming length→AI
open Go renaming Value→AL,Oper→AM
open List(map)
open Int(toNat)
open Go.IntKind(i64 u64 u8)
open Go.Proofs Tryz
abbrev eI:Int->AA A:=Yp .i64
abbrev EB:=@runUnderlying73
abbrev EC:=@sizeOf3
abbrev ED:=@runUnderlying34
abbrev EE:=@isAgg3
abbrev EF:=@sizeOf120
abbrev EG:=@runUnderlying37
abbrev EH:=@runUnderlying91
abbrev EI:=@zeroValue83
abbrev EJ:=@runUnderlying24
abbrev EK:=@underlying137
abbrev EL:=@runUnderlying268
abbrev EM:=@runUnderlying51
abbrev EN:=@sizeOf41
abbrev EO:=@runUnderlying44
abbrev EP:=@sizeOf73
abbrev EQ:=@sizeOf77
abbrev ES:=@runUnderlying36
abbrev ET:=@runUnderlying42
abbrev EU:=@runUnderlying443
abbrev EV:=@zeroValue3
abbrev EW:=@sizeOf66
abbrev EX:=@runUnderlying279
abbrev EY:=@sizeOf98
abbrev EZ:=@runUnderlying201
abbrev E0:=@underlying414
abbrev E3:=@runUnderlying230
abbrev E4:=@runUnderlying3
abbrev E5:=@runUnderlying120
abbrev E6:=@sizeOf209
abbrev E7:=@zeroValue4
abbrev E8:=@runUnderlying131
abbrev E9:=@runUnderlying447
abbrev Ga:=@sizeOf5
abbrev Gb:=@runUnderlying23
abbrev Gd:=@sizeOf139
abbrev Ge:=@sizeOf83
abbrev Gf:=@sizeOf50
abbrev Gg:=@isAgg77
abbrev Gh:=@runUnderlying9
abbrev Gi:=@runUnderlying5
abbrev Gj:=@sizeOf200
abbrev Gk:=@runUnderlying395
abbrev Gm:=@runUnderlying270
abbrev Gn:=@runUnderlying305
abbrev Gp:=@underlying9
abbrev Gq:=@isAgg73
abbrev Gr:=@runUnderlying83
abbrev Gs:=@zeroValue145
abbrev Gu:=@underlying3
abbrev Gv:=@underlying292
abbrev Gw:=@underlying133
abbrev Gy:=@runUnderlying139
abbrev Gz:=@runUnderlying132
abbrev GA:=@runUnderlying142
abbrev GB:=@runUnderlying102
abbrev GC:=@runUnderlying174
abbrev GD:=@runUnderlying425
abbrev GE:=@isAgg200
abbrev GF:=@runUnderlying64
abbrev GG:=@runUnderlying29
abbrev GH:=@runUnderlying98
abbrev GI:=@sizeOf4
abbrev GJ:=@isAgg41
abbrev GK:=@isAgg128
abbrev GL:=@sizeOf221
abbrev GM:=@sizeOf110
abbrev GN:=@sizeOf128
abbrev GO:=@runUnderlying209
abbrev GQ:=@runUnderlying272
abbrev GR:=@runUnderlying223
abbrev GS:=@runUnderlying50
abbrev GT:=@runUnderlying41
abbrev GU:=@runUnderlying55
abbrev GV:=@sizeOf114
abbrev GW:=@sizeOf257
abbrev GX:=@sizeOf145
abbrev GY:=@sizeOf104
abbrev GZ:=@sizeOf100
abbrev G1:=@underlying29
abbrev G2:=@sizeOf447
abbrev G3:=@zeroValue443
abbrev G4:=@sizeOf284
theorem DD:prog.follows .mixedOrders=true:=by rfl
structure AQ where
  A9:Int
  A8:Int
  A6:Int
  Am:Int
  BF:Int
  deriving DecidableEq
def AQ.c(x:AQ):AA Go.Sw.A:=[I x.A9,I x.A8,I x.A6,I x.Am,I x.BF]
structure Al where
  Ap:List UInt8
  AW:Int
  deriving DecidableEq
def Al.c(x:Al):AA Go.Sw.A:=[.str x.Ap,I x.AW]
structure Cr where
  BA:Int
  To:Int
  Bn:Int
  Br:Int
  deriving DecidableEq
def Cr.c(x:Cr):AA Go.Sw.A:=[I x.BA,I x.To,I x.Bn,I x.Br]
structure CH where
  Al:Int
  As:Int
  Ac:List CH
mutual
def CH.enc:CH->AA A
  |⟨x0,x1,x2⟩=>[I x0,I x1,.q 3 (CH.encs x2)]
def CH.encs:AA CH->AA (AA A)
  |[]=>[]
  |x::l=>CH.enc x::CH.encs l
end
theorem ud(l:AA CH):CH.encs l=map CH.enc l:=by induction l with|nil=>simp[CH.encs]|cons x l h=>simp[CH.encs,h]
def CH.c(x:CH):AA Go.Sw.A:=[I x.Al,I x.As,.q 3 (map CH.enc x.Ac)]
theorem QO(x:CH):CH.enc x=CH.c x:=by cases x;simp[CH.enc,CH.c,ud]
structure CO where
  Al:Int
  B9:Int
  Bu:Int
  deriving DecidableEq
def CO.c(x:CO):AA Go.Sw.A:=[I x.Al,I x.B9,I x.Bu]
structure AN where
  Ap:List UInt8
  Ad:List CH
  A':Int
  Ar:List CO
  An:Int
def AN.c(x:AN):AA Go.Sw.A:=[.str x.Ap,.q 3 (map CH.enc x.Ad),I x.A',.q 3 (map CO.c x.Ar),I x.An]
structure A3 where
  Ap:List UInt8
  B_:Int
  deriving DecidableEq
def A3.c(x:A3):AA Go.Sw.A:=[.str x.Ap,I x.B_]
structure AZ where
  Ap:List UInt8
  BU:Int
  As:Int
  BM:Bool
  deriving DecidableEq
def AZ.c(x:AZ):AA Go.Sw.A:=[.str x.Ap,I x.BU,I x.As,.b x.BM]
structure AX where
  Ap:List UInt8
  BA:Int
  To:Int
  deriving DecidableEq
def AX.c(x:AX):AA Go.Sw.A:=[.str x.Ap,I x.BA,I x.To]
structure CQ where
  AN:Int
  AX:Int
  B2:Int
  BO:Int
  deriving DecidableEq
def CQ.c(x:CQ):AA Go.Sw.A:=[I x.AN,I x.AX,I x.B2,I x.BO]
structure AR where
  AW:Int
  Bz:Int
  N:Int
  Ac:List AR
mutual
def AR.enc:AR->AA A
  |⟨x0,x1,x2,x3⟩=>[I x0,I x1,I x2,.q 4 (AR.encs x3)]
def AR.encs:AA AR->AA (AA A)
  |[]=>[]
  |x::l=>AR.enc x::AR.encs l
end
theorem uW(l:AA AR):AR.encs l=map AR.enc l:=by induction l with|nil=>simp[AR.encs]|cons x l h=>simp[AR.encs,h]
def AR.c(x:AR):AA Go.Sw.A:=[I x.AW,I x.Bz,I x.N,.q 4 (map AR.enc x.Ac)]
theorem Ji(x:AR):AR.enc x=AR.c x:=by cases x;simp[AR.enc,AR.c,uW]
structure AY where
  AW:Int
  By:Int
  AR:AR
  Ba:List AY
  Bh:List AY
mutual
def AY.enc:AY->AA A
  |⟨x0,x1,x2,x3,x4⟩=>[I x0,I x1,I x2.AW,I x2.Bz,I x2.N,.q 4 (map AR.enc x2.Ac),.q 8 (AY.encs x3),.q 8 (AY.encs x4)]
def AY.encs:AA AY->AA (AA A)
  |[]=>[]
  |x::l=>AY.enc x::AY.encs l
end
theorem uh(l:AA AY):AY.encs l=map AY.enc l:=by induction l with|nil=>simp[AY.encs]|cons x l h=>simp[AY.encs,h]
def AY.c(x:AY):AA Go.Sw.A:=[I x.AW,I x.By,I x.AR.AW,I x.AR.Bz,I x.AR.N,.q 4 (map AR.enc x.AR.Ac),.q 8 (map AY.enc x.Ba),.q 8 (map AY.enc x.Bh)]
theorem Yq(x:AY):AY.enc x=AY.c x:=by cases x;simp[AY.enc,AY.c,uh]
structure CB where
  Ap:List UInt8
  Au:List Al
  Az:List Cr
  AO:List AN
  A4:List A3
  Ab:List AZ
  AV:List AX
  Ay:List CQ
  BN:List AY
  AQ:AQ
  Bk:Int
  Aw:Int
def CB.c(x:CB):AA Go.Sw.A:=[.str x.Ap,.q 2 (map Al.c x.Au),.q 4 (map Cr.c x.Az),.q 5 (map AN.c x.AO),.q 2 (map A3.c x.A4),.q 4 (map AZ.c x.Ab),.q 3 (map AX.c x.AV),.q 4 (map CQ.c x.Ay),.q 8 (map AY.enc x.BN),I x.AQ.A9,I x.AQ.A8,I x.AQ.A6,I x.AQ.Am,I x.AQ.BF,I x.Bk,I x.Aw]
structure AP where
  BW:Int
  AN:Int
  A3:Int
  BK:Int
  B6:Int
  BB:Int
  Bl:Int
  B5:Int
  deriving DecidableEq
def AP.c(x:AP):AA Go.Sw.A:=[I x.BW,I x.AN,I x.A3,I x.BK,I x.B6,I x.BB,I x.Bl,I x.B5]
structure A5 where
  Al:Int
  Ah:Int
  BB:Int
  BC:Int
  deriving DecidableEq
def A5.c(x:A5):AA Go.Sw.A:=[I x.Al,I x.Ah,I x.BB,I x.BC]
structure Aa where
  Al:Int
  Ah:Int
  BC:Int
  True:Int
  B7:Int
  deriving DecidableEq
def Aa.c(x:Aa):AA Go.Sw.A:=[I x.Al,I x.Ah,I x.BC,I x.True,I x.B7]
structure Ao where
  Bt:Int
  Bg:Int
  Bc:Int
  Bs:Int
  Bf:Int
  Bb:Int
  Bn:Int
  Br:Int
  deriving DecidableEq
def Ao.c(x:Ao):AA Go.Sw.A:=[I x.Bt,I x.Bg,I x.Bc,I x.Bs,I x.Bf,I x.Bb,I x.Bn,I x.Br]
structure Ae where
  BW:Int
  AT:Int
  Lo:Int
  Hi:Int
  deriving DecidableEq
def Ae.c(x:Ae):AA Go.Sw.A:=[I x.BW,I x.AT,I x.Lo,I x.Hi]
structure Aq where
  Al:Int
  Ah:Int
  Lo:Int
  Hi:Int
  deriving DecidableEq
def Aq.c(x:Aq):AA Go.Sw.A:=[I x.Al,I x.Ah,I x.Lo,I x.Hi]
structure Be where
  A:Int
  B:Int
  deriving DecidableEq
def Be.c(x:Be):AA Go.Sw.A:=[I x.A,I x.B]
structure Ak where
  BJ:Int
  BW:Int
  AZ:Int
  AT:Int
  deriving DecidableEq
def Ak.c(x:Ak):AA Go.Sw.A:=[I x.BJ,I x.BW,I x.AZ,I x.AT]
structure Av where
  BJ:Int
  By:Int
  Bk:Int
  B3:Int
  deriving DecidableEq
def Av.c(x:Av):AA Go.Sw.A:=[I x.BJ,I x.By,I x.Bk,I x.B3]
structure Af where
  BJ:Int
  BX:Int
  AW:Int
  BW:Int
  AT:Int
  BO:Int
  deriving DecidableEq
def Af.c(x:Af):AA Go.Sw.A:=[I x.BJ,I x.BX,I x.AW,I x.BW,I x.AT,I x.BO]
structure BD where
  BJ:Int
  Bi:Bool
  deriving DecidableEq
def BD.c(x:BD):AA Go.Sw.A:=[I x.BJ,.b x.Bi]
structure Lq where
  BE:Int
  No:Int
  deriving DecidableEq
def Lq.c(x:Lq):AA Go.Sw.A:=[I x.BE,I x.No]
structure CI where
  BE:Int
  No:Int
  At:Int
  AW:Int
  AP:AP
  A5:A5
  Aa:Aa
  Ao:Ao
  Ae:Ae
  Aq:Aq
  Be:Be
  Ak:Ak
  Av:Av
  Af:Af
  BD:BD
  Bp:Lq
  deriving DecidableEq
def CI.c(x:CI):AA Go.Sw.A:=[I x.BE,I x.No,I x.At,I x.AW,I x.AP.BW,I x.AP.AN,I x.AP.A3,I x.AP.BK,I x.AP.B6,I x.AP.BB,I x.AP.Bl,I x.AP.B5,I x.A5.Al,I x.A5.Ah,I x.A5.BB,I x.A5.BC,I x.Aa.Al,I x.Aa.Ah,I x.Aa.BC,I x.Aa.True,I x.Aa.B7,I x.Ao.Bt,I x.Ao.Bg,I x.Ao.Bc,I x.Ao.Bs,I x.Ao.Bf,I x.Ao.Bb,I x.Ao.Bn,I x.Ao.Br,I x.Ae.BW,I x.Ae.AT,I x.Ae.Lo,I x.Ae.Hi,I x.Aq.Al,I x.Aq.Ah,I x.Aq.Lo,I x.Aq.Hi,I x.Be.A,I x.Be.B,I x.Ak.BJ,I x.Ak.BW,I x.Ak.AZ,I x.Ak.AT,I x.Av.BJ,I x.Av.By,I x.Av.Bk,I x.Av.B3,I x.Af.BJ,I x.Af.BX,I x.Af.AW,I x.Af.BW,I x.Af.AT,I x.Af.BO,I x.BD.BJ,.b x.BD.Bi,I x.Bp.BE,I x.Bp.No]
structure CC where
  BM:Bool
  BS:Int
  Lo:Int
  Hi:Int
  deriving DecidableEq
def CC.c(x:CC):AA Go.Sw.A:=[.b x.BM,I x.BS,I x.Lo,I x.Hi]
abbrev Uz:CC:={BM:=AD,BS:=0,Lo:=0,Hi:=0}
structure CF where
  AT:Int
  BU:Int
  As:Int
  BM:Bool
  deriving DecidableEq
def CF.c(x:CF):AA Go.Sw.A:=[I x.AT,I x.BU,I x.As,.b x.BM]
abbrev UA:CH:={Al:=0,As:=0,Ac:=[]}
abbrev Uu:AN:={Ap:=[],Ad:=[],A':=0,Ar:=[],An:=0}
abbrev Us:AR:={AW:=0,Bz:=0,N:=0,Ac:=[]}
abbrev UI:AY:={AW:=0,By:=0,AR:=Us,Ba:=[],Bh:=[]}
abbrev Uw:AQ:={A9:=0,A8:=0,A6:=0,Am:=0,BF:=0}
abbrev Ut:CB:={Ap:=[],Au:=[],Az:=[],AO:=[],A4:=[],Ab:=[],AV:=[],Ay:=[],BN:=[],AQ:=Uw,Bk:=0,Aw:=0}
structure CD where
  Al:Int
  Ah:Int
  BI:Int
  deriving DecidableEq
def CD.c(x:CD):AA Go.Sw.A:=[I x.Al,I x.Ah,I x.BI]
structure CE where
  AS:List CD
  BQ:List (List Int)
  deriving DecidableEq
def CE.c(x:CE):AA Go.Sw.A:=[.q 3 (map CD.c x.AS),.q 1 (map (Qu 1 eI) x.BQ)]
structure CM where
  Al:Int
  Ah:Int
  BB:Int
  BT:Int
  A7:Int
  deriving DecidableEq
def CM.c(x:CM):AA Go.Sw.A:=[I x.Al,I x.Ah,I x.BB,I x.BT,I x.A7]
structure Ui where
  A0:CB
  Bj:CE
  Ag:AP
  Bv:List CM
  Bq:List Ae
  BP:List CF
  BY:Int
  Aj:Int
def Ui.c(x:Ui):AA Go.Sw.A:=[.str x.A0.Ap,.q 2 (map Al.c x.A0.Au),.q 4 (map Cr.c x.A0.Az),.q 5 (map AN.c x.A0.AO),.q 2 (map A3.c x.A0.A4),.q 4 (map AZ.c x.A0.Ab),.q 3 (map AX.c x.A0.AV),.q 4 (map CQ.c x.A0.Ay),.q 8 (map AY.enc x.A0.BN),I x.A0.AQ.A9,I x.A0.AQ.A8,I x.A0.AQ.A6,I x.A0.AQ.Am,I x.A0.AQ.BF,I x.A0.Bk,I x.A0.Aw,.q 3 (map CD.c x.Bj.AS),.q 1 (map (Qu 1 eI) x.Bj.BQ),I x.Ag.BW,I x.Ag.AN,I x.Ag.A3,I x.Ag.BK,I x.Ag.B6,I x.Ag.BB,I x.Ag.Bl,I x.Ag.B5,.q 5 (map CM.c x.Bv),.q 4 (map Ae.c x.Bq),.q 4 (map CF.c x.BP),I x.BY,I x.Aj]
abbrev UH:AP:={BW:=0,AN:=0,A3:=0,BK:=0,B6:=0,BB:=0,Bl:=0,B5:=0}
abbrev FJ:Ui:={A0:=Ut,Bj:={AS:=[],BQ:=[]:CE},Ag:=UH,Bv:=[],Bq:=[],BP:=[],BY:=0,Aj:=0}
structure Ul where
  BZ:Int
  to_:Int
  deriving DecidableEq
def Ul.c(x:Ul):AA Go.Sw.A:=[I x.BZ,I x.to_]
structure Up where
  B4:Int
  B0:Int
  CA:Int
  deriving DecidableEq
def Up.c(x:Up):AA Go.Sw.A:=[I x.B4,I x.B0,I x.CA]
structure Uq where
  AY:AY
def Uq.c(x:Uq):AA Go.Sw.A:=[I x.AY.AW,I x.AY.By,I x.AY.AR.AW,I x.AY.AR.Bz,I x.AY.AR.N,.q 4 (map AR.enc x.AY.AR.Ac),.q 8 (map AY.enc x.AY.Ba),.q 8 (map AY.enc x.AY.Bh)]
structure Uj where
  AR:AR
def Uj.c(x:Uj):AA Go.Sw.A:=[I x.AR.AW,I x.AR.Bz,I x.AR.N,.q 4 (map AR.enc x.AR.Ac)]
inductive Um where
  |ctyping_step (x:Uq)
  |ctyping_cond (x:Uj)
def Um.val:Um->A
  |.ctyping_step x=>.iface 425 (.a (Uq.c x))
  |.ctyping_cond x=>.iface 443 (.a (Uj.c x))
def Um.enc(x:Um):AA A:=[x.val]
def Um.elim{R:Type}(e:Um)(f0:Uq->AB R)(f1:Uj->AB R):AB R:=match e with
  |.ctyping_step x=>f0 x
  |.ctyping_cond x=>f1 x
theorem Um.data(x:Um):YK x.val=true:=by cases x<;>rfl
theorem JJ(e:Um):(∃x,e=.ctyping_step x)\/(∃x,e=.ctyping_cond x):=by cases e<;>simp
theorem Jw{R:Type}{e:Um}{x:Uq}{f0:Uq->AB R}{f1:Uj->AB R}{r:R}(hE:e=.ctyping_step x)(h:Um.elim e f0 f1=AC r):f0 x=AC r:=by subst hE;exact h
theorem Ju{R:Type}{e:Um}{x:Uj}{f0:Uq->AB R}{f1:Uj->AB R}{r:R}(hE:e=.ctyping_cond x)(h:Um.elim e f0 f1=AC r):f1 x=AC r:=by subst hE;exact h
structure Uk where
  BG:Int
  BH:Int
  deriving DecidableEq
def Uk.c(x:Uk):AA Go.Sw.A:=[I x.BG,I x.BH]
structure Ua where
  mat:Int
  BV:Int
  deriving DecidableEq
def Ua.c(x:Ua):AA Go.Sw.A:=[I x.mat,I x.BV]
structure CK where
  Lo:Int
  Hi:Int
  deriving DecidableEq
def CK.c(x:CK):AA Go.Sw.A:=[I x.Lo,I x.Hi]
structure Ue where
  Ai:Int
  A_:CK
  deriving DecidableEq
def Ue.c(x:Ue):AA Go.Sw.A:=[I x.Ai,I x.A_.Lo,I x.A_.Hi]
structure Ub where
  BZ:Int
  to_:Int
  deriving DecidableEq
def Ub.c(x:Ub):AA Go.Sw.A:=[I x.BZ,I x.to_]
structure Ud where
  B8:Int
  mat:Int
  BV:Int
  deriving DecidableEq
def Ud.c(x:Ud):AA Go.Sw.A:=[I x.B8,I x.mat,I x.BV]
structure Uf where
  mat:Int
  BV:Int
  deriving DecidableEq
def Uf.c(x:Uf):AA Go.Sw.A:=[I x.mat,I x.BV]
structure Uh where
  Bm:Int
  Bw:Ue
  row:Int
  deriving DecidableEq
def Uh.c(x:Uh):AA Go.Sw.A:=[I x.Bm,I x.Bw.Ai,I x.Bw.A_.Lo,I x.Bw.A_.Hi,I x.row]
abbrev DR:Uh:={Bm:=0,Bw:={Ai:=0,A_:={Lo:=0,Hi:=0:CK}:Ue},row:=0}
structure CW where
  BL:List Int
  A7:Int
  deriving DecidableEq
def CW.c(x:CW):AA Go.Sw.A:=[.q 1 (map eI x.BL),I x.A7]
abbrev Uy:Ae:={BW:=0,AT:=0,Lo:=0,Hi:=0}
abbrev UB:CF:={AT:=0,BU:=0,As:=0,BM:=AD}
structure Edge where
  BA:Int
  To:Int
  W:Int
  deriving DecidableEq
def Edge.c(x:Edge):AA Go.Sw.A:=[I x.BA,I x.To,I x.W]
abbrev UD:A5:={Al:=0,Ah:=0,BB:=0,BC:=0}
abbrev Ur:Aa:={Al:=0,Ah:=0,BC:=0,True:=0,B7:=0}
abbrev UJ:Ao:={Bt:=0,Bg:=0,Bc:=0,Bs:=0,Bf:=0,Bb:=0,Bn:=0,Br:=0}
abbrev UG:Aq:={Al:=0,Ah:=0,Lo:=0,Hi:=0}
abbrev UE:Ak:={BJ:=0,BW:=0,AZ:=0,AT:=0}
abbrev UC:Av:={BJ:=0,By:=0,Bk:=0,B3:=0}
abbrev UF:Af:={BJ:=0,BX:=0,AW:=0,BW:=0,AT:=0,BO:=0}
abbrev Uv:CI:={BE:=0,No:=0,At:=0,AW:=0,AP:=UH,A5:=UD,Aa:=Ur,Ao:=UJ,Ae:=Uy,Aq:=UG,Be:={A:=0,B:=0:Be},Ak:=UE,Av:=UC,Af:=UF,BD:={BJ:=0,Bi:=AD:BD},Bp:={BE:=0,No:=0:Lq}}
structure AL where
  AW:Int
  N:Int
  S:List UInt8
  L:List AL
mutual
def Value.enc:AL->AA A
  |⟨x0,x1,x2,x3⟩=>[I x0,I x1,.str x2,.q 4 (Value.encs x3)]
def Value.encs:AA AL->AA (AA A)
  |[]=>[]
  |x::l=>Value.enc x::Value.encs l
end
theorem Qgp(l:AA AL):Value.encs l=map Value.enc l:=by induction l with|nil=>simp[Value.encs]|cons x l h=>simp[Value.encs,h]
def Value.c(x:AL):AA Go.Sw.A:=[I x.AW,I x.N,.str x.S,.q 4 (map Value.enc x.L)]
theorem my(x:AL):Value.enc x=Value.c x:=by cases x;simp[Value.enc,Value.c,Qgp]
abbrev UK:AL:={AW:=0,N:=0,S:=[],L:=[]}
structure Co where
  Ax:Int
  Bo:List Edge
  deriving DecidableEq
def Co.c(x:Co):AA Go.Sw.A:=[I x.Ax,.q 3 (map Edge.c x.Bo)]
structure CU where
  K:CE
  S:AP
  BL:List CM
  B':List Ae
  P:List CF
  deriving DecidableEq
def CU.c(x:CU):AA Go.Sw.A:=[.q 3 (map CD.c x.K.AS),.q 1 (map (Qu 1 eI) x.K.BQ),I x.S.BW,I x.S.AN,I x.S.A3,I x.S.BK,I x.S.B6,I x.S.BB,I x.S.Bl,I x.S.B5,.q 5 (map CM.c x.BL),.q 4 (map Ae.c x.B'),.q 4 (map CF.c x.P)]
abbrev Cc:CU:={K:={AS:=[],BQ:=[]:CE},S:=UH,BL:=[],B':=[],P:=[]}
instance Je:ElemTy prog 51 77 4:=⟨EM,EQ,⟨_,zeroValue77,rfl⟩,⟨_,typeInfo77,by decide⟩⟩
instance cH:ElemTy prog 63 252 3:=⟨runUnderlying63,sizeOf252,⟨_,zeroValue252,rfl⟩,⟨_,typeInfo252,by decide⟩⟩
instance cG:ElemTy prog 64 245 3:=⟨GF,sizeOf245,⟨_,zeroValue245,rfl⟩,⟨_,typeInfo245,by decide⟩⟩
instance cL:ElemTy prog 22 214 2:=⟨runUnderlying22,sizeOf214,⟨_,zeroValue214,rfl⟩,⟨_,typeInfo214,by decide⟩⟩
instance cJ:ElemTy prog 23 221 4:=⟨Gb,GL,⟨_,zeroValue221,rfl⟩,⟨_,typeInfo221,by decide⟩⟩
instance cI:ElemTy prog 24 66 5:=⟨EJ,EW,⟨_,zeroValue66,rfl⟩,⟨_,typeInfo66,by decide⟩⟩
instance oS:ElemTy prog 25 68 2:=⟨runUnderlying25,sizeOf68,⟨_,zeroValue68,rfl⟩,⟨_,typeInfo68,by decide⟩⟩
instance oR:ElemTy prog 29 257 8:=⟨GG,GW,⟨_,zeroValue257,rfl⟩,⟨_,typeInfo257,by decide⟩⟩
instance QF:ElemTy prog 73 3 1:=⟨EB,EC,⟨_,EV,rfl⟩,⟨_,typeInfo3,by decide⟩⟩
instance og:ElemTy prog 37 73 1:=⟨EG,EP,⟨_,zeroValue73,rfl⟩,⟨_,typeInfo73,by decide⟩⟩
theorem lI:Qt prog 50 2 2 1:=FA GS rfl EC
instance Nx:ElemTy prog 279 5 1:=⟨EX,Ga,⟨_,zeroValue5,rfl⟩,⟨_,typeInfo5,by decide⟩⟩
theorem L1:JF prog 9 A.str:=JF.str Gp
theorem pG:prog.underlying 294=AC (.struct (prog.fieldsOf 294)):=by kernel_rfl
theorem _y:prog.stoodInHeld 294=false:=by kernel_rfl
theorem dh:JF prog 294 (λx=>A.a (Ul.c x)):=by
  refine JF.struct pG Zf (λx y h=>?_) (λw em x=>?_) (λw x y=>?_) (λx=>?_)
  · cases x;cases y
    simpa[Q6,YY,Ul.c]using h
  · simp only[Q6,YY,Ul.c]
    rw[show(10000:Nat)=9998+1+1 from rfl];generalize(9998:Nat)=d;simp[Instr.checkKey,runUnderlying294,E4,Result.andThen,EC,EE,part]
  · have u3:=Gu
    have a3:=EE;have z3:=EC;simp only[Q6,YY,Ul.c,Op.equal,Op.maxDepth];rw[show(10000:Nat)=9999+1 from Z,run_equalIn_agg w 9999 294 _ _ pG _y];simp only[Program.fieldsOf,underlying294]
    go_simp
    cases x;cases y;simp
    repeat' split
    all_goals simp_all
  · simp[Q6,YY,Ul.c,Instr.sameBits]
theorem pI:prog.underlying 392=AC (.struct (prog.fieldsOf 392)):=by kernel_rfl
theorem A?:prog.stoodInHeld 392=false:=by kernel_rfl
theorem Qql:JF prog 392 (λx=>A.a (Up.c x)):=by
  refine JF.struct pI Zf (λx y h=>?_) (λw em x=>?_) (λw x y=>?_) (λx=>?_)
  · cases x;cases y
    simpa[Q6,YY,Up.c]using h
  · simp only[Q6,YY,Up.c]
    rw[show(10000:Nat)=9998+1+1 from rfl];generalize(9998:Nat)=d;simp[Instr.checkKey,runUnderlying392,E4,Result.andThen,EC,EE,part]
  · have u3:=Gu
    have a3:=EE;have z3:=EC;simp only[Q6,YY,Up.c,Op.equal,Op.maxDepth];rw[show(10000:Nat)=9999+1 from Z,run_equalIn_agg w 9999 392 _ _ pI A?];simp only[Program.fieldsOf,underlying392]
    go_simp
    cases x;cases y;simp
    repeat' split
    all_goals simp_all
  · simp[Q6,YY,Up.c,Instr.sameBits]
instance dY:ElemTy prog 395 422 1:=⟨Gk,sizeOf422,⟨_,zeroValue422,rfl⟩,⟨_,typeInfo422,by decide⟩⟩
theorem YN:JF prog 3 I:=JF.int Gu
theorem sQ:Qt prog 209 0 0 1:=FA GO rfl EC
theorem rW:Qt prog 209 1 1 1:=FA GO rfl EC
theorem Qoo:Qt prog 209 2 2 1:=FA GO rfl EC
theorem x?:Qt prog 41 1 1 1:=FA GT rfl EC
theorem _S:Sr prog 136 [(0,16),(16,2),(18,1),(19,1),(20,1),(21,1),(22,1),(23,1),(24,1)]:=⟨_,runUnderlying136,(Ef sizeOf33 (Ef sizeOf39 (Ef EP (Ef sizeOf131 (Ef sizeOf42 (Ef sizeOf132 (Ef sizeOf133 (Ef sizeOf134 (Ef EC PL.nil)))))))))⟩
theorem pH:prog.underlying 358=AC (.struct (prog.fieldsOf 358)):=by kernel_rfl
theorem _z:prog.stoodInHeld 358=false:=by kernel_rfl
theorem Qqm:JF prog 358 (λx=>A.a (Ub.c x)):=by
  refine JF.struct pH Zf (λx y h=>?_) (λw em x=>?_) (λw x y=>?_) (λx=>?_)
  · cases x;cases y
    simpa[Q6,YY,Ub.c]using h
  · simp only[Q6,YY,Ub.c]
    rw[show(10000:Nat)=9998+1+1 from rfl];generalize(9998:Nat)=d;simp[Instr.checkKey,runUnderlying358,E4,Result.andThen,EC,EE,part]
  · have u3:=Gu
    have a3:=EE;have z3:=EC;simp only[Q6,YY,Ub.c,Op.equal,Op.maxDepth];rw[show(10000:Nat)=9999+1 from Z,run_equalIn_agg w 9999 358 _ _ pH _z];simp only[Program.fieldsOf,underlying358]
    go_simp
    cases x;cases y;simp
    repeat' split
    all_goals simp_all
  · simp[Q6,YY,Ub.c,Instr.sameBits]
inductive CS where
  |c0 (x:Int)
  |c1 (x:Unit)
  |c2 (x:List Int)
  |c3 (x:(List Int)×(List (Ub×Cr)))
theorem Qoq:Qt prog 139 0 0 1:=FA Gy rfl EC
theorem Qop:Qt prog 139 1 1 1:=FA Gy rfl EC
theorem sL:Qt prog 139 2 2 1:=FA Gy rfl EC
theorem sM:Qt prog 139 4 4 1:=FA Gy rfl EC
theorem _M:prog.stoodInHeld 211=false:=by kernel_rfl
theorem Yf(h:Nat):I3 prog 3 (h+1) 1 AD (λl=>∃x:Int,l=[Value.int .i64 x]):=I3.int Gu EE EC h
theorem QqN:W7 prog 211 Uf.c:=by
  refine gv (QR underlying211 _M isAgg211 sizeOf211 (Cv.c Yf (Cv.c Yf (Cv.nil 1 _)))) Z (λx=>⟨[_],_,Z,⟨_,Z⟩,[_],_,Z,⟨_,Z⟩,Z⟩) Zf (λx y h=>?_) (by kernel_rfl);obtain⟨_,_⟩:=x;obtain⟨_,_⟩:=y;simpa[Q6,YY,Uf.c,and_assoc]using h
theorem Qlb:Qt prog 83 0 0 1:=FA Gr rfl EC
theorem Qqu:Qt prog 83 1 1 1:=FA Gr rfl EC
instance pN:ElemTy prog 132 145 3:=⟨Gz,GX,⟨_,Gs,rfl⟩,⟨_,typeInfo145,by decide⟩⟩
instance pM:ElemTy prog 131 83 2:=⟨E8,Ge,⟨_,EI,rfl⟩,⟨_,typeInfo83,by decide⟩⟩
inductive CL where
  |c0 (x:Int)
  |c1 (x:(List Int)×(List CK)×(List Ue)×(List (Int×Ue))×Int)
instance _e:ElemTy prog 142 4 1:=⟨GA,GI,⟨_,E7,rfl⟩,⟨_,typeInfo4,by decide⟩⟩
instance oi:ElemTy prog 55 75 2:=⟨GU,sizeOf75,⟨_,zeroValue75,rfl⟩,⟨_,typeInfo75,by decide⟩⟩
def match_task.tc(x0:CB)(x1:CE)(x2:AA Int)(x3:AA CK)(x4:AA CM)(x5:AA Ue)(x6:A)(x7:A)(x8:Int):AA Go.Sw.A:=[.str x0.Ap,.q 2 (map Al.c x0.Au),.q 4 (map Cr.c x0.Az),.q 5 (map AN.c x0.AO),.q 2 (map A3.c x0.A4),.q 4 (map AZ.c x0.Ab),.q 3 (map AX.c x0.AV),.q 4 (map CQ.c x0.Ay),.q 8 (map AY.enc x0.BN),I x0.AQ.A9,I x0.AQ.A8,I x0.AQ.A6,I x0.AQ.Am,I x0.AQ.BF,I x0.Bk,I x0.Aw,.q 3 (map CD.c x1.AS),.q 1 (map (Qu 1 eI) x1.BQ),.q 1 (map eI x2),.q 2 (map CK.c x3),.q 5 (map CM.c x4),.q 3 (map Ue.c x5),x6,x7,I x8]
theorem y?:Qt prog 50 0 0 1:=FA GS rfl EC
theorem z?:Qt prog 50 3 3 1:=FA GS rfl GI
theorem h_:Qt prog 77 3 3 1:=FA runUnderlying77 rfl EC
theorem Qqv:Qt prog 77 1 1 1:=FA runUnderlying77 rfl EC
theorem aT:prog.stoodInHeld 77=false:=by kernel_rfl
theorem cM(h:Nat):I3 prog 4 (h+1) 1 AD (λl=>∃x:Bool,l=[Value.bool x]):=I3.bool underlying4 isAgg4 GI h
theorem pP:W7 prog 77 CC.c:=by
  refine gv (QR underlying77 aT Gg EQ (Cv.c cM (Cv.c Yf (Cv.c Yf (Cv.c Yf (Cv.nil 1 _)))))) Z (λx=>⟨[_],_,Z,⟨_,Z⟩,[_],_,Z,⟨_,Z⟩,[_],_,Z,⟨_,Z⟩,[_],_,Z,⟨_,Z⟩,Z⟩) Zf (λx y h=>?_) (by kernel_rfl);obtain⟨_,_,_,_⟩:=x;obtain⟨_,_,_,_⟩:=y;simpa[Q6,YY,CC.c,and_assoc]using h
instance oh:ElemTy prog 43 104 4:=⟨runUnderlying43,GY,⟨_,zeroValue104,rfl⟩,⟨_,typeInfo104,by decide⟩⟩
instance I5:ElemTy prog 44 50 4:=⟨EO,Gf,⟨_,zeroValue50,rfl⟩,⟨_,typeInfo50,by decide⟩⟩
theorem aS:prog.stoodInHeld 83=false:=by kernel_rfl
theorem _g:W7 prog 83 CK.c:=by
  refine gv (QR underlying83 aS isAgg83 Ge (Cv.c Yf (Cv.c Yf (Cv.nil 1 _)))) Z (λx=>⟨[_],_,Z,⟨_,Z⟩,[_],_,Z,⟨_,Z⟩,Z⟩) Zf (λx y h=>?_) (by kernel_rfl);obtain⟨_,_⟩:=x;obtain⟨_,_⟩:=y;simpa[Q6,YY,CK.c,and_assoc]using h
instance Jy:ElemTy prog 230 9 1:=⟨E3,sizeOf9,⟨_,zeroValue9,rfl⟩,⟨_,typeInfo9,by decide⟩⟩
instance _f:ElemTy prog 253 255 4:=⟨runUnderlying253,sizeOf255,⟨_,zeroValue255,rfl⟩,⟨_,typeInfo255,by decide⟩⟩
instance ZV:ElemTy prog 34 120 57:=⟨ED,EF,⟨_,zeroValue120,rfl⟩,⟨_,typeInfo120,by decide⟩⟩
theorem S7:Qt prog 120 3 3 1:=FA E5 rfl EC
theorem Qor:Qt prog 120 4 4 8:=FA E5 rfl EN
theorem lH:Qt prog 41 0 0 1:=FA GT rfl EC
theorem mK:Qt prog 41 5 5 1:=FA GT rfl EC
theorem mE:Qt prog 120 5 12 4:=FA E5 rfl EY
theorem lJ:Qt prog 98 0 0 1:=FA GH rfl EC
theorem lK:Qt prog 98 1 1 1:=FA GH rfl EC
theorem qG:Qt prog 98 2 2 1:=FA GH rfl EC
theorem iA:Qt prog 98 3 3 1:=FA GH rfl EC
theorem iK:Qt prog 120 6 16 5:=FA E5 rfl GZ
theorem Qoz:Qt prog 100 0 0 1:=FA runUnderlying100 rfl EC
theorem Qoy:Qt prog 100 1 1 1:=FA runUnderlying100 rfl EC
theorem dt:Qt prog 120 7 21 8:=FA E5 rfl sizeOf102
theorem Qox:Qt prog 102 0 0 1:=FA GB rfl EC
theorem Qov:Qt prog 102 3 3 1:=FA GB rfl EC
theorem Qow:Qt prog 102 1 1 1:=FA GB rfl EC
theorem Qou:Qt prog 102 4 4 1:=FA GB rfl EC
theorem sK:Qt prog 120 8 29 4:=FA E5 rfl GY
theorem Qot:Qt prog 104 0 0 1:=FA runUnderlying104 rfl EC
theorem sJ:Qt prog 110 0 0 1:=FA runUnderlying110 rfl EC
theorem Qml:Qt prog 120 13 47 6:=FA E5 rfl GV
theorem Qos:Qt prog 114 0 0 1:=FA runUnderlying114 rfl EC
theorem _L:prog.stoodInHeld 120=false:=by kernel_rfl
theorem _K:prog.stoodInHeld 118=false:=by kernel_rfl
theorem _J:prog.stoodInHeld 116=false:=by kernel_rfl
theorem _I:prog.stoodInHeld 114=false:=by kernel_rfl
theorem _H:prog.stoodInHeld 112=false:=by kernel_rfl
theorem _G:prog.stoodInHeld 110=false:=by kernel_rfl
theorem _F:prog.stoodInHeld 108=false:=by kernel_rfl
theorem _E:prog.stoodInHeld 106=false:=by kernel_rfl
theorem _D:prog.stoodInHeld 104=false:=by kernel_rfl
theorem C?:prog.stoodInHeld 102=false:=by kernel_rfl
theorem B?:prog.stoodInHeld 100=false:=by kernel_rfl
theorem aR:prog.stoodInHeld 98=false:=by kernel_rfl
theorem aU:prog.stoodInHeld 41=false:=by kernel_rfl
theorem qB:W7 prog 120 CI.c:=by
  refine gv (QR underlying120 _L isAgg120 EF (Cv.c Yf (Cv.c Yf (Cv.c Yf (Cv.c Yf (Cv.cons Z (by decide) (QR underlying41 aU GJ EN (Cv.c Yf (Cv.c Yf (Cv.c Yf (Cv.c Yf (Cv.c Yf (Cv.c Yf (Cv.c Yf (Cv.c Yf (Cv.nil 1 _)))))))))) (λe=>Bool.noConfusion e) (Cv.cons Z (by decide) (QR underlying98 aR isAgg98 EY (Cv.c Yf (Cv.c Yf (Cv.c Yf (Cv.c Yf (Cv.nil 1 _)))))) (λe=>Bool.noConfusion e) (Cv.cons Z (by decide) (QR underlying100 B? isAgg100 GZ (Cv.c Yf (Cv.c Yf (Cv.c Yf (Cv.c Yf (Cv.c Yf (Cv.nil 1 _))))))) (λe=>Bool.noConfusion e) (Cv.cons Z (by decide) (QR underlying102 C? isAgg102 sizeOf102 (Cv.c Yf (Cv.c Yf (Cv.c Yf (Cv.c Yf (Cv.c Yf (Cv.c Yf (Cv.c Yf (Cv.c Yf (Cv.nil 1 _)))))))))) (λe=>Bool.noConfusion e) (Cv.cons Z (by decide) (QR underlying104 _D isAgg104 GY (Cv.c Yf (Cv.c Yf (Cv.c Yf (Cv.c Yf (Cv.nil 1 _)))))) (λe=>Bool.noConfusion e) (Cv.cons Z (by decide) (QR underlying106 _E isAgg106 sizeOf106 (Cv.c Yf (Cv.c Yf (Cv.c Yf (Cv.c Yf (Cv.nil 1 _)))))) (λe=>Bool.noConfusion e) (Cv.cons Z (by decide) (QR underlying108 _F isAgg108 sizeOf108 (Cv.c Yf (Cv.c Yf (Cv.nil 1 _)))) (λe=>Bool.noConfusion e) (Cv.cons Z (by decide) (QR underlying110 _G isAgg110 GM (Cv.c Yf (Cv.c Yf (Cv.c Yf (Cv.c Yf (Cv.nil 1 _)))))) (λe=>Bool.noConfusion e) (Cv.cons Z (by decide) (QR underlying112 _H isAgg112 sizeOf112 (Cv.c Yf (Cv.c Yf (Cv.c Yf (Cv.c Yf (Cv.nil 1 _)))))) (λe=>Bool.noConfusion e) (Cv.cons Z (by decide) (QR underlying114 _I isAgg114 GV (Cv.c Yf (Cv.c Yf (Cv.c Yf (Cv.c Yf (Cv.c Yf (Cv.c Yf (Cv.nil 1 _)))))))) (λe=>Bool.noConfusion e) (Cv.cons Z (by decide) (QR underlying116 _J isAgg116 sizeOf116 (Cv.c Yf (Cv.c cM (Cv.nil 1 _)))) (λe=>Bool.noConfusion e) (Cv.cons Z (by decide) (QR underlying118 _K isAgg118 sizeOf118 (Cv.c Yf (Cv.c Yf (Cv.nil 1 _)))) (λe=>Bool.noConfusion e) (Cv.nil 2 _)))))))))))))))))) Z (λx=>⟨[_],_,Z,⟨_,Z⟩,[_],_,Z,⟨_,Z⟩,[_],_,Z,⟨_,Z⟩,[_],_,Z,⟨_,Z⟩,[_,_,_,_,_,_,_,_],_,Z,⟨[_],_,Z,⟨_,Z⟩,[_],_,Z,⟨_,Z⟩,[_],_,Z,⟨_,Z⟩,[_],_,Z,⟨_,Z⟩,[_],_,Z,⟨_,Z⟩,[_],_,Z,⟨_,Z⟩,[_],_,Z,⟨_,Z⟩,[_],_,Z,⟨_,Z⟩,Z⟩,[_,_,_,_],_,Z,⟨[_],_,Z,⟨_,Z⟩,[_],_,Z,⟨_,Z⟩,[_],_,Z,⟨_,Z⟩,[_],_,Z,⟨_,Z⟩,Z⟩,[_,_,_,_,_],_,Z,⟨[_],_,Z,⟨_,Z⟩,[_],_,Z,⟨_,Z⟩,[_],_,Z,⟨_,Z⟩,[_],_,Z,⟨_,Z⟩,[_],_,Z,⟨_,Z⟩,Z⟩,[_,_,_,_,_,_,_,_],_,Z,⟨[_],_,Z,⟨_,Z⟩,[_],_,Z,⟨_,Z⟩,[_],_,Z,⟨_,Z⟩,[_],_,Z,⟨_,Z⟩,[_],_,Z,⟨_,Z⟩,[_],_,Z,⟨_,Z⟩,[_],_,Z,⟨_,Z⟩,[_],_,Z,⟨_,Z⟩,Z⟩,[_,_,_,_],_,Z,⟨[_],_,Z,⟨_,Z⟩,[_],_,Z,⟨_,Z⟩,[_],_,Z,⟨_,Z⟩,[_],_,Z,⟨_,Z⟩,Z⟩,[_,_,_,_],_,Z,⟨[_],_,Z,⟨_,Z⟩,[_],_,Z,⟨_,Z⟩,[_],_,Z,⟨_,Z⟩,[_],_,Z,⟨_,Z⟩,Z⟩,[_,_],_,Z,⟨[_],_,Z,⟨_,Z⟩,[_],_,Z,⟨_,Z⟩,Z⟩,[_,_,_,_],_,Z,⟨[_],_,Z,⟨_,Z⟩,[_],_,Z,⟨_,Z⟩,[_],_,Z,⟨_,Z⟩,[_],_,Z,⟨_,Z⟩,Z⟩,[_,_,_,_],_,Z,⟨[_],_,Z,⟨_,Z⟩,[_],_,Z,⟨_,Z⟩,[_],_,Z,⟨_,Z⟩,[_],_,Z,⟨_,Z⟩,Z⟩,[_,_,_,_,_,_],_,Z,⟨[_],_,Z,⟨_,Z⟩,[_],_,Z,⟨_,Z⟩,[_],_,Z,⟨_,Z⟩,[_],_,Z,⟨_,Z⟩,[_],_,Z,⟨_,Z⟩,[_],_,Z,⟨_,Z⟩,Z⟩,[_,_],_,Z,⟨[_],_,Z,⟨_,Z⟩,[_],_,Z,⟨_,Z⟩,Z⟩,[_,_],_,Z,⟨[_],_,Z,⟨_,Z⟩,[_],_,Z,⟨_,Z⟩,Z⟩,Z⟩) Zf (λx y h=>?_) (by kernel_rfl);obtain⟨_,_,_,_,⟨_,_,_,_,_,_,_,_⟩,⟨_,_,_,_⟩,⟨_,_,_,_,_⟩,⟨_,_,_,_,_,_,_,_⟩,⟨_,_,_,_⟩,⟨_,_,_,_⟩,⟨_,_⟩,⟨_,_,_,_⟩,⟨_,_,_,_⟩,⟨_,_,_,_,_,_⟩,⟨_,_⟩,⟨_,_⟩⟩:=x;obtain⟨_,_,_,_,⟨_,_,_,_,_,_,_,_⟩,⟨_,_,_,_⟩,⟨_,_,_,_,_⟩,⟨_,_,_,_,_,_,_,_⟩,⟨_,_,_,_⟩,⟨_,_,_,_⟩,⟨_,_⟩,⟨_,_,_,_⟩,⟨_,_,_,_⟩,⟨_,_,_,_,_,_⟩,⟨_,_⟩,⟨_,_⟩⟩:=y;simpa[Q6,YY,CI.c,AP.c,A5.c,Aa.c,Ao.c,Ae.c,Aq.c,Be.c,Ak.c,Av.c,Af.c,BD.c,Lq.c,and_assoc]using h
theorem _U:Sr prog 351 [(0,1),(1,1),(2,1),(3,1)]:=⟨_,runUnderlying351,(Ef EC (Ef EC (Ef sizeOf9 (Ef sizeOf349 PL.nil))))⟩
instance pO:ElemTy prog 349 351 4:=⟨runUnderlying349,sizeOf351,⟨_,zeroValue351,rfl⟩,⟨_,typeInfo351,by decide⟩⟩
instance gL:ElemTy prog 36 209 3:=⟨ES,E6,⟨_,zeroValue209,rfl⟩,⟨_,typeInfo209,by decide⟩⟩
theorem _T:Sr prog 176 [(0,1),(1,1)]:=⟨_,runUnderlying176,(Ef EC (Ef sizeOf174 PL.nil))⟩
instance Zc:ElemTy prog 174 260 3:=⟨GC,sizeOf260,⟨_,zeroValue260,rfl⟩,⟨_,typeInfo260,by decide⟩⟩
instance ZW:ElemTy prog 91 41 8:=⟨EH,EN,⟨_,zeroValue41,rfl⟩,⟨_,typeInfo41,by decide⟩⟩
instance ZU:ElemTy prog 42 139 5:=⟨ET,Gd,⟨_,zeroValue139,rfl⟩,⟨_,typeInfo139,by decide⟩⟩
instance gj:ElemTy prog 268 98 4:=⟨EL,EY,⟨_,zeroValue98,rfl⟩,⟨_,typeInfo98,by decide⟩⟩
instance kl:ElemTy prog 270 110 4:=⟨Gm,GM,⟨_,zeroValue110,rfl⟩,⟨_,typeInfo110,by decide⟩⟩
instance km:ElemTy prog 272 114 6:=⟨GQ,GV,⟨_,zeroValue114,rfl⟩,⟨_,typeInfo114,by decide⟩⟩
theorem QM{n:Nat}:RB prog n 3 Int (λx=>[A.int .i64 x]) (Qq .i64):=RB.int Gu
def i8:Sg:={fld:=[(66,3,3),(123,6,29),(50,2,2),(252,2,2),(33,1,1),(33,2,2),(33,3,3),(33,4,4),(33,5,5),(33,6,6),(33,7,7),(66,1,1),(214,0,0),(66,0,0),(68,0,0),(232,0,0),(234,0,0),(33,0,0),(214,1,1),(221,0,0),(221,1,1),(221,2,2),(221,3,3),(252,1,1),(252,0,0),(245,0,0),(245,1,1),(245,2,2),(66,2,2),(66,4,4),(68,1,1),(232,3,3),(232,1,1),(232,2,2),(234,1,1),(234,2,2),(239,0,0),(239,1,1),(239,2,2),(239,3,3),(33,9,9),(31,0,0),(31,1,1),(31,2,2),(31,3,3),(31,4,4),(33,10,14),(33,11,15),(443,0,0),(255,0,0),(255,1,1),(255,2,2),(255,3,3),(425,0,0),(257,3,6),(257,4,7),(418,0,0),(257,2,2),(418,1,1),(257,0,0),(257,1,1),(33,8,8),(331,0,0),(331,1,1),(209,0,0),(209,1,1),(39,0,0),(39,1,1),(209,2,2),(104,2,2),(104,3,3),(104,1,1),(284,0,0),(284,1,1),(300,0,0),(300,1,1),(300,2,2),(139,0,0),(139,1,1),(139,2,2),(139,3,3),(139,4,4),(83,0,0),(83,1,1),(136,2,18),(41,1,1),(41,2,2),(136,5,21),(136,6,22),(136,8,24),(136,7,23),(136,3,19),(136,4,20),(145,0,0),(145,1,1),(136,1,16),(147,2,4),(136,0,0),(147,0,0),(147,1,1),(75,0,0),(75,1,1),(123,0,0),(123,2,18),(123,7,30),(50,0,0),(50,1,1),(123,5,28),(123,1,16),(123,3,26),(123,4,27),(41,3,3),(77,0,0),(77,2,2),(77,3,3),(77,1,1),(41,0,0),(41,4,4),(41,5,5),(41,6,6),(41,7,7),(102,0,0),(102,3,3),(102,1,1),(102,4,4),(102,2,2),(102,5,5),(102,6,6),(102,7,7),(114,0,0),(114,1,1),(114,2,2),(114,3,3),(114,4,4),(114,5,5),(120,3,3),(120,4,4),(120,5,12),(98,0,0),(98,1,1),(98,2,2),(98,3,3),(120,6,16),(100,0,0),(100,1,1),(100,2,2),(100,3,3),(100,4,4),(120,7,21),(120,8,29),(104,0,0),(120,9,33),(106,0,0),(106,1,1),(106,2,2),(106,3,3),(120,10,37),(108,0,0),(108,1,1),(120,11,39),(110,0,0),(110,1,1),(110,2,2),(110,3,3),(120,12,43),(112,0,0),(112,1,1),(112,2,2),(112,3,3),(120,13,47),(120,14,53),(116,0,0),(120,15,55),(118,0,0),(118,1,1),(120,0,0),(120,1,1),(120,2,2),(116,1,1),(351,3,3),(351,0,0),(351,2,2),(351,1,1),(176,1,1),(176,0,0),(260,0,0),(260,1,1),(260,2,2),(46,3,11),(46,1,2),(46,4,12),(46,2,10),(46,0,0)],agg:=[(66,AE,5),(64,AD,1),(33,AE,16),(39,AE,2),(41,AE,8),(123,AE,31),(50,AE,4),(3,AD,1),(252,AE,3),(63,AD,1),(22,AD,1),(23,AD,1),(24,AD,1),(25,AD,1),(26,AD,1),(27,AD,1),(28,AD,1),(5,AD,1),(9,AD,1),(214,AE,2),(68,AE,2),(232,AE,4),(234,AE,3),(380,AD,1),(222,AD,1),(221,AE,4),(294,AE,2),(372,AD,1),(375,AD,1),(245,AE,3),(297,AD,1),(385,AD,1),(4,AD,1),(377,AD,1),(388,AD,1),(378,AD,1),(239,AE,4),(392,AE,3),(31,AE,5),(257,AE,8),(253,AD,1),(29,AD,1),(255,AE,4),(425,AE,8),(443,AE,4),(422,AD,1),(137,AD,1),(292,AD,1),(36,AD,1),(37,AD,1),(209,AE,3),(73,AD,1),(104,AE,4),(411,AD,1),(284,AE,2),(282,AD,1),(139,AE,5),(83,AE,2),(128,AD,1),(132,AD,1),(133,AD,1),(134,AD,1),(131,AD,1),(147,AE,5),(145,AE,3),(42,AD,1),(55,AD,1),(140,AD,1),(143,AD,1),(142,AD,1),(77,AE,4),(44,AD,1),(52,AD,1),(75,AE,2),(43,AD,1),(200,AD,1),(51,AD,1),(102,AE,8),(114,AE,6),(120,AE,57),(98,AE,4),(100,AE,5),(106,AE,4),(108,AE,2),(110,AE,4),(112,AE,4),(116,AE,2),(118,AE,2),(351,AE,4),(349,AD,1),(176,AE,2),(174,AD,1),(260,AE,3),(46,AE,13)],zer:=[(252,[I 0,I 0,.q 3 (map CH.enc [])],[(0,1),(1,1),(2,1)]),(66,[.str [],.q 3 (map CH.enc []),I 0,.q 3 (map CO.c []),I 0],[(0,1),(1,1),(2,1),(3,1),(4,1)]),(245,[I 0,I 0,I 0],[(0,1),(1,1),(2,1)]),(214,[.str [],I 0],[(0,1),(1,1)]),(221,[I 0,I 0,I 0,I 0],[(0,1),(1,1),(2,1),(3,1)]),(68,[.str [],I 0],[(0,1),(1,1)]),(257,[I 0,I 0,I 0,I 0,I 0,.q 4 (map AR.enc []),.q 8 (map AY.enc []),.q 8 (map AY.enc [])],[(0,1),(1,1),(2,4),(6,1),(7,1)]),(33,[.str [],.q 2 (map Al.c []),.q 4 (map Cr.c []),.q 5 (map AN.c []),.q 2 (map A3.c []),.q 4 (map AZ.c []),.q 3 (map AX.c []),.q 4 (map CQ.c []),.q 8 (map AY.enc []),I 0,I 0,I 0,I 0,I 0,I 0,I 0],[(0,1),(1,1),(2,1),(3,1),(4,1),(5,1),(6,1),(7,1),(8,1),(9,5),(14,1),(15,1)]),(39,[.q 3 (map CD.c []),.q 1 (map (Qu 1 eI) [])],[(0,1),(1,1)]),(123,[.str [],.q 2 (map Al.c []),.q 4 (map Cr.c []),.q 5 (map AN.c []),.q 2 (map A3.c []),.q 4 (map AZ.c []),.q 3 (map AX.c []),.q 4 (map CQ.c []),.q 8 (map AY.enc []),I 0,I 0,I 0,I 0,I 0,I 0,I 0,.q 3 (map CD.c []),.q 1 (map (Qu 1 eI) []),I 0,I 0,I 0,I 0,I 0,I 0,I 0,I 0,.q 5 (map CM.c []),.q 4 (map Ae.c []),.q 4 (map CF.c []),I 0,I 0],[(0,16),(16,2),(18,8),(26,1),(27,1),(28,1),(29,1),(30,1)]),(294,[I 0,I 0],[(0,1),(1,1)]),(392,[I 0,I 0,I 0],[(0,1),(1,1),(2,1)]),(425,[I 0,I 0,I 0,I 0,I 0,.q 4 (map AR.enc []),.q 8 (map AY.enc []),.q 8 (map AY.enc [])],[(0,8)]),(443,[I 0,I 0,I 0,.q 4 (map AR.enc [])],[(0,4)]),(418,[I 0,I 0],[(0,1),(1,1)]),(331,[I 0,I 0],[(0,1),(1,1)]),(358,[I 0,I 0],[(0,1),(1,1)]),(300,[I 0,I 0,I 0],[(0,1),(1,1),(2,1)]),(211,[I 0,I 0],[(0,1),(1,1)]),(83,[I 0,I 0],[(0,1),(1,1)]),(209,[I 0,I 0,I 0],[(0,1),(1,1),(2,1)]),(145,[I 0,I 0,I 0],[(0,1),(1,2)]),(147,[I 0,I 0,I 0,I 0,I 0],[(0,1),(1,3),(4,1)]),(75,[.q 1 (map eI []),I 0],[(0,1),(1,1)]),(77,[.b AD,I 0,I 0,I 0],[(0,1),(1,1),(2,1),(3,1)]),(41,[I 0,I 0,I 0,I 0,I 0,I 0,I 0,I 0],[(0,1),(1,1),(2,1),(3,1),(4,1),(5,1),(6,1),(7,1)]),(104,[I 0,I 0,I 0,I 0],[(0,1),(1,1),(2,1),(3,1)]),(50,[I 0,I 0,I 0,.b AD],[(0,1),(1,1),(2,1),(3,1)]),(120,[I 0,I 0,I 0,I 0,I 0,I 0,I 0,I 0,I 0,I 0,I 0,I 0,I 0,I 0,I 0,I 0,I 0,I 0,I 0,I 0,I 0,I 0,I 0,I 0,I 0,I 0,I 0,I 0,I 0,I 0,I 0,I 0,I 0,I 0,I 0,I 0,I 0,I 0,I 0,I 0,I 0,I 0,I 0,I 0,I 0,I 0,I 0,I 0,I 0,I 0,I 0,I 0,I 0,I 0,.b AD,I 0,I 0],[(0,1),(1,1),(2,1),(3,1),(4,8),(12,4),(16,5),(21,8),(29,4),(33,4),(37,2),(39,4),(43,4),(47,6),(53,2),(55,2)]),(351,[I 0,I 0,.str [],.q 4 (map Value.enc [])],[(0,1),(1,1),(2,1),(3,1)]),(176,[I 0,.q 3 (map Edge.c [])],[(0,1),(1,1)]),(260,[I 0,I 0,I 0],[(0,1),(1,1),(2,1)]),(139,[I 0,I 0,I 0,I 0,I 0],[(0,1),(1,1),(2,1),(3,1),(4,1)]),(114,[I 0,I 0,I 0,I 0,I 0,I 0],[(0,1),(1,1),(2,1),(3,1),(4,1),(5,1)]),(110,[I 0,I 0,I 0,I 0],[(0,1),(1,1),(2,1),(3,1)]),(46,[.q 3 (map CD.c []),.q 1 (map (Qu 1 eI) []),I 0,I 0,I 0,I 0,I 0,I 0,I 0,I 0,.q 5 (map CM.c []),.n,.q 4 (map CF.c [])],[(0,2),(2,8),(10,1),(11,1),(12,1)])]}
def n8:AA (Nat×AA (Nat×Nat)):=[(31,[(0,1),(1,1),(2,1),(3,1),(4,1)]),(33,[(0,1),(1,1),(2,1),(3,1),(4,1),(5,1),(6,1),(7,1),(8,1),(9,5),(14,1),(15,1)]),(39,[(0,1),(1,1)]),(41,[(0,1),(1,1),(2,1),(3,1),(4,1),(5,1),(6,1),(7,1)]),(46,[(0,2),(2,8),(10,1),(11,1),(12,1)]),(50,[(0,1),(1,1),(2,1),(3,1)]),(66,[(0,1),(1,1),(2,1),(3,1),(4,1)]),(68,[(0,1),(1,1)]),(75,[(0,1),(1,1)]),(77,[(0,1),(1,1),(2,1),(3,1)]),(83,[(0,1),(1,1)]),(98,[(0,1),(1,1),(2,1),(3,1)]),(100,[(0,1),(1,1),(2,1),(3,1),(4,1)]),(102,[(0,1),(1,1),(2,1),(3,1),(4,1),(5,1),(6,1),(7,1)]),(104,[(0,1),(1,1),(2,1),(3,1)]),(106,[(0,1),(1,1),(2,1),(3,1)]),(108,[(0,1),(1,1)]),(110,[(0,1),(1,1),(2,1),(3,1)]),(112,[(0,1),(1,1),(2,1),(3,1)]),(114,[(0,1),(1,1),(2,1),(3,1),(4,1),(5,1)]),(116,[(0,1),(1,1)]),(118,[(0,1),(1,1)]),(120,[(0,1),(1,1),(2,1),(3,1),(4,8),(12,4),(16,5),(21,8),(29,4),(33,4),(37,2),(39,4),(43,4),(47,6),(53,2),(55,2)]),(123,[(0,16),(16,2),(18,8),(26,1),(27,1),(28,1),(29,1),(30,1)]),(136,[(0,16),(16,2),(18,1),(19,1),(20,1),(21,1),(22,1),(23,1),(24,1)]),(139,[(0,1),(1,1),(2,1),(3,1),(4,1)]),(145,[(0,1),(1,2)]),(147,[(0,1),(1,3),(4,1)]),(176,[(0,1),(1,1)]),(209,[(0,1),(1,1),(2,1)]),(211,[(0,1),(1,1)]),(214,[(0,1),(1,1)]),(221,[(0,1),(1,1),(2,1),(3,1)]),(232,[(0,1),(1,1),(2,1),(3,1)]),(234,[(0,1),(1,1),(2,1)]),(239,[(0,1),(1,1),(2,1),(3,1)]),(245,[(0,1),(1,1),(2,1)]),(252,[(0,1),(1,1),(2,1)]),(255,[(0,1),(1,1),(2,1),(3,1)]),(257,[(0,1),(1,1),(2,4),(6,1),(7,1)]),(260,[(0,1),(1,1),(2,1)]),(284,[(0,1),(1,1)]),(294,[(0,1),(1,1)]),(300,[(0,1),(1,1),(2,1)]),(331,[(0,1),(1,1)]),(351,[(0,1),(1,1),(2,1),(3,1)]),(358,[(0,1),(1,1)]),(392,[(0,1),(1,1),(2,1)]),(418,[(0,1),(1,1)]),(425,[(0,8)]),(443,[(0,4)])]
def F6:Fl:={ty:=i8,al:=[(33,(.a [.str [],.q 2 (map Al.c []),.q 4 (map Cr.c []),.q 5 (map AN.c []),.q 2 (map A3.c []),.q 4 (map AZ.c []),.q 3 (map AX.c []),.q 4 (map CQ.c []),.q 8 (map AY.enc []),I 0,I 0,I 0,I 0,I 0,I 0,I 0])),(66,(.a [.str [],.q 3 (map CH.enc []),I 0,.q 3 (map CO.c []),I 0])),(39,(.a [.q 3 (map CD.c []),.q 1 (map (Qu 1 eI) [])])),(123,(.a [.str [],.q 2 (map Al.c []),.q 4 (map Cr.c []),.q 5 (map AN.c []),.q 2 (map A3.c []),.q 4 (map AZ.c []),.q 3 (map AX.c []),.q 4 (map CQ.c []),.q 8 (map AY.enc []),I 0,I 0,I 0,I 0,I 0,I 0,I 0,.q 3 (map CD.c []),.q 1 (map (Qu 1 eI) []),I 0,I 0,I 0,I 0,I 0,I 0,I 0,I 0,.q 5 (map CM.c []),.q 4 (map Ae.c []),.q 4 (map CF.c []),I 0,I 0])),(50,(.a [I 0,I 0,I 0,.b AD])),(252,(.a [I 0,I 0,.q 3 (map CH.enc [])])),(214,(.a [.str [],I 0])),(68,(.a [.str [],I 0])),(232,(.a [.str [],I 0,I 0,.b AD])),(234,(.a [.str [],I 0,I 0])),(294,(.a [I 0,I 0])),(221,(.a [I 0,I 0,I 0,I 0])),(392,(.a [I 0,I 0,I 0])),(239,(.a [I 0,I 0,I 0,I 0])),(3,(I 0)),(372,.nilf),(375,.nilf),(31,(.a [I 0,I 0,I 0,I 0,I 0])),(257,(.a [I 0,I 0,I 0,I 0,I 0,.q 4 (map AR.enc []),.q 8 (map AY.enc []),.q 8 (map AY.enc [])])),(255,(.a [I 0,I 0,I 0,.q 4 (map AR.enc [])])),(425,(.a [I 0,I 0,I 0,I 0,I 0,.q 4 (map AR.enc []),.q 8 (map AY.enc []),.q 8 (map AY.enc [])])),(443,(.a [I 0,I 0,I 0,.q 4 (map AR.enc [])])),(137,.nilm),(292,.nilm),(209,(.a [I 0,I 0,I 0])),(73,.n),(411,.nilf),(284,(.a [.q 1 (map eI []),.nilm])),(139,(.a [I 0,I 0,I 0,I 0,I 0])),(83,(.a [I 0,I 0])),(128,.nilp),(104,(.a [I 0,I 0,I 0,I 0])),(147,(.a [I 0,I 0,I 0,I 0,I 0])),(145,(.a [I 0,I 0,I 0])),(55,.n),(140,.nilf),(142,.n),(143,.nilf),(77,(.a [.b AD,I 0,I 0,I 0])),(52,(I 0)),(245,(.a [I 0,I 0,I 0])),(200,.nilf),(51,.n),(75,(.a [.q 1 (map eI []),I 0])),(120,(.a [I 0,I 0,I 0,I 0,I 0,I 0,I 0,I 0,I 0,I 0,I 0,I 0,I 0,I 0,I 0,I 0,I 0,I 0,I 0,I 0,I 0,I 0,I 0,I 0,I 0,I 0,I 0,I 0,I 0,I 0,I 0,I 0,I 0,I 0,I 0,I 0,I 0,I 0,I 0,I 0,I 0,I 0,I 0,I 0,I 0,I 0,I 0,I 0,I 0,I 0,I 0,I 0,I 0,I 0,.b AD,I 0,I 0])),(41,(.a [I 0,I 0,I 0,I 0,I 0,I 0,I 0,I 0])),(98,(.a [I 0,I 0,I 0,I 0])),(100,(.a [I 0,I 0,I 0,I 0,I 0])),(102,(.a [I 0,I 0,I 0,I 0,I 0,I 0,I 0,I 0])),(106,(.a [I 0,I 0,I 0,I 0])),(110,(.a [I 0,I 0,I 0,I 0])),(112,(.a [I 0,I 0,I 0,I 0])),(114,(.a [I 0,I 0,I 0,I 0,I 0,I 0])),(351,(.a [I 0,I 0,.str [],.q 4 (map Value.enc [])])),(176,(.a [I 0,.q 3 (map Edge.c [])])),(260,(.a [I 0,I 0,I 0])),(46,(.a [.q 3 (map CD.c []),.q 1 (map (Qu 1 eI) []),I 0,I 0,I 0,I 0,I 0,I 0,I 0,I 0,.q 5 (map CM.c []),.q 4 (map Ae.c []),.q 4 (map CF.c [])]))],sl:=[279,395,73,55,51,34,36,174,91,268,42,270,272,44]}
def Im:Nh:={sl:=[(44,50,4),(63,252,3),(22,214,2),(23,221,4),(24,66,5),(25,68,2),(26,232,4),(27,234,3),(28,239,4),(64,245,3),(279,5,1),(73,3,1),(29,257,8),(253,255,4),(395,422,1),(36,209,3),(37,73,1),(43,104,4),(42,139,5),(132,145,3),(51,77,4),(230,9,1),(349,351,4),(34,120,57),(174,260,3),(91,41,8),(55,75,2)],fn:=[222,312,282,225,223,227,229,231,233,224,226,228,230,232,283,194,121,235,244,289,316,288,240,291,98,290,247,236,234,285,314,284,237,287,315,286,239,238,259,303,258,249,293,317,292,241,295,318,294,252,297,319,296,242,299,320,298,255,243,245,246,158,248,250,251,253,254,257,330,321,300,327,301,328,323,322,256,260,261,160,159,154,155,156,157,117,60,59,193,122,119,120,89,88,161,87,278,167,100,218,219,162,163,93,262,164,165,99,63,90,91,92,94,97,101,95,102,40,41,38,45,37,83,53,221,306,272,192,42,118,168,148,146,85,65,147,150,152,149,84,52,115,56,51,55,54,61,31,9,32,33,34,15,64,22,12,18,19,66,67,182,110,181,68,179,105,106,107,108,180,109,268,183,111,112,113,114,46,47,48,49,50,123,195,124,70,69,141,211,209,208,206,207,213,212,205,210,214,139,140,142,307,308,309,310,276,275,79,217,216,215,144,80,125,196,198,14,29,131,197,73,126,129,130,71,72,74,199,200,132,75,201,274,273,202,133,203,204,134,135,137,26,76,77,78,138,23,81,24,25,10,6,7,8,11,13]}
theorem o7:kL prog n8 F6 Im=kR prog n8 F6 Im:=by kernel_rfl
theorem Iv:Iu prog F6:=.ofK o7 (by kernel_rfl)
theorem Rd:LP prog Im:=.ofK o7 (K? (by kernel_rfl))
section
variable {h0 N m n d id t et k f:Nat} {all:Array AM} {o:AM} {l r r' ll:AA AM} {ds:AA Nat} {env env' env0:Env} {H H' H1 X:Qc} {Q:Qx} {α:Type} {e:α->AA A} {L:AA α} {kk:IntKind} {i:Int} {v:α} {K:AA AM->Env->Qc->Prop} {xs xs':AA A} {args argsc:AA A} {Hc:Qc} {Hs Hs':AA Qc} {bs:AA Nat} {cat:M_} {k':AA Kf} {c':Cf} {hB hE:Nat} {x:A}
theorem U{l':AA AM}(n:Nat)(h:NP F6 h0 N all n l env H=AC (l',env',H'))(k:WO prog h0 N all l' env' H' Q):WO prog h0 N all l env H Q:=AU Iv n h k
theorem G0{c:Code}(n:Nat)(h:KS F6 h0 N n (.code c) [] env H=AC (c',k',env',H'))(g:Hd prog h0 N c' k' env' H' Q):TC prog h0 N c env H Q:=dy Iv n h g
theorem Gc{k:AA Kf}{c:Code}(n:Nat)(h:KS F6 h0 N n (.code c) k env H=AC (c',k',env',H'))(g:Hd prog h0 N c' k' env' H' Q):TC prog h0 N c env H (kq prog h0 N k Q):=dy Iv n h g
theorem Go{k:AA Kf}(n:Nat)(h:KS F6 h0 N n (.ops all l) k env H=AC (c',k',env',H'))(g:Hd prog h0 N c' k' env' H' Q):WO prog h0 N all l env H (kq prog h0 N k Q):=dy Iv n h g
theorem Gx{k:AA Kf}{x:LV}(n:Nat)(h:KS F6 h0 N n (.out x) k env H=AC (c',k',env',H'))(g:Hd prog h0 N c' k' env' H' Q):kq prog h0 N k Q x env H:=dy Iv n h g
theorem Cg{β:Type}{E':β->Env}{Hb:β->Qc}{k:AA Kf}{c c2:Code}(b:β)(sel keep:AA Nat)(nE:β->Env)(nH:β->AA (Nat×CV))(hc:∀b,LO sel keep (nE b) (nH b) env H=AC (E' b,Hb b))(h:TC prog h0 N c env H (Ki h0 b E' Hb (kq prog h0 N (.seq c2::k) Q)))(g:TC prog h0 N c2 (E' b) (Hb b) (kq prog h0 N k Q)):TC prog h0 N c env H (kq prog h0 N (.seq c2::k) Q):=Ct b sel keep nE nH hc h λ_ _ e=>Gx 1 rfl (Ee e g)
theorem D_{S B:Type}{b:CG S B}{E':S->Env}{Hb:S->Qc}{k:AA Kf}{c c2:Code}(sel keep:AA Nat)(nE:S->Env)(nH:S->AA (Nat×CV))(hc:∀s,LO sel keep (nE s) (nH s) env H=AC (E' s,Hb s))(h:TC prog h0 N c env H (Ly h0 b E' Hb (kq prog h0 N (.seq c2::k) Q)))(g:∀s,b=.k s->TC prog h0 N c2 (E' s) (Hb s) (kq prog h0 N k Q)):TC prog h0 N c env H (kq prog h0 N (.seq c2::k) Q):=Fb sel keep nE nH hc h λs _ _ q e=>Gx 1 rfl (Ee e (g s q))
theorem oV{S B S':Type}{b x:CG S B}{d:CG S' (CG S B)}{E':S->Env}{Hb:S->Qc}{s:S}(hb:∀b',d=.d b'->b'=b)(h:AC (CG.d x)=AC d)(e:x=.k s)(hl:Le h0 env H (E' s) (Hb s)):Ly h0 b E' Hb Q .normal env H:=KW ((Oj hb h).symm.trans e) hl
theorem DV{β S':Type}{b x:β}{d:CG S' β}{E':β->Env}{Hb:β->Qc}(hb:∀b',d=.d b'->b'=b)(h:AC (CG.d x)=AC d)(hl:Le h0 env H (E' x) (Hb x)):Ki h0 b E' Hb Q .normal env H:=by
  cases Oj hb h;exact hl
theorem Gl{β:Type}{e b:β}{E':β->Env}{Hb:β->Qc}{k:AA Kf}(n:Nat)(hm:KS F6 h0 N n (.ops all l) k env H=AC (.out .normal,[],env',H'))(h:AC e=AC b)(π:AA Nat)(hpre:π.take h0=List.range h0:=by rfl)(hH:π.map (λp=>H'[p]?)=((Hb e).map (QX (Cj π (AI H')))).map some:=by rfl)(hπ:π.Nodup:=by decide)(hE:IP (Cj π (AI H')) env' (E' e):=by(repeat' (first|exact trivial|refine⟨rfl,?_⟩))):WO prog h0 N all l env H (kq prog h0 N k (Ki h0 b E' Hb Q)):=Go n hm (Cl h π hpre hH hπ hE)
theorem Gt{β:Type}{e r:β}{w:β->A}{Hb:β->Qc}{fn:Func}{k:AA Kf}(n:Nat)(hm:KS F6 h0 N n (.ops all l) k env H=AC (.out .ret,[],env',H'))(h:AC e=AC r)(a:Nat)(π:AA Nat)(hr:fn.results= #[.tmp a]:=by rfl)(hpre:π.take h0=List.range h0:=by rfl)(hH:π.map (λp=>H'[p]?)=((Hb e).map (QX (Cj π (AI H')))).map some:=by rfl)(hπ:π.Nodup:=by decide)(hE:IP (Cj π (AI H')) env' [(a,w e)]:=by exact⟨rfl,trivial⟩):WO prog h0 N all l env H (kq prog h0 N k (Jb prog h0 fn (RQ w Hb r))):=Go n hm (Rt h a π hr hpre hH hπ hE)
theorem nA{β:Type}{e b:β}{E':β->Env}{Hb:β->Qc}{k:AA Kf}{c:Code}(n:Nat)(hm:KS F6 h0 N n (.code c) k env H=AC (.out .normal,[],env',H'))(h:AC e=AC b)(π:AA Nat)(hpre:π.take h0=List.range h0:=by rfl)(hH:π.map (λp=>H'[p]?)=((Hb e).map (QX (Cj π (AI H')))).map some:=by rfl)(hπ:π.Nodup:=by decide)(hE:IP (Cj π (AI H')) env' (E' e):=by(repeat' (first|exact trivial|refine⟨rfl,?_⟩))):TC prog h0 N c env H (kq prog h0 N k (Ki h0 b E' Hb Q)):=Gc n hm (Cl h π hpre hH hπ hE)
theorem TA{β:Type}{e r:β}{w:β->A}{Hb:β->Qc}{fn:Func}{k:AA Kf}{c:Code}(n:Nat)(hm:KS F6 h0 N n (.code c) k env H=AC (.out .ret,[],env',H'))(h:AC e=AC r)(a:Nat)(π:AA Nat)(hr:fn.results= #[.tmp a]:=by rfl)(hpre:π.take h0=List.range h0:=by rfl)(hH:π.map (λp=>H'[p]?)=((Hb e).map (QX (Cj π (AI H')))).map some:=by rfl)(hπ:π.Nodup:=by decide)(hE:IP (Cj π (AI H')) env' [(a,w e)]:=by exact⟨rfl,trivial⟩):TC prog h0 N c env H (kq prog h0 N k (Jb prog h0 fn (RQ w Hb r))):=Gc n hm (Rt h a π hr hpre hH hπ hE)
theorem Fg{k:AA Kf}{e1:Env}(n:Nat)(h:f9 env H=AC (e1,H1))(hm:KS F6 h0 N n (.ops all l) k e1 H1=AC (c',k',env',H'))(g:Hd prog h0 N c' k' env' H' Q):WO prog h0 N all l env H (kq prog h0 N k Q):=FE h (Go n hm g)
@[reducible] def Ks{β:Type}(F:AB β)(f:FuncId)(args:AA A)(H:Qc)(w:β->A):Prop:=Kp prog F f args H w λ_=>H
@[reducible] def Kq{β:Type}(F:AB β)(f:FuncId)(args:AA A)(H:Qc)(w:β->A)(H1:β->Qc):Prop:=Kp prog F f args H w H1
theorem Kg{β:Type}{F:AB β}{f:FuncId}{fn:Func}{c:Code}{w:β->A}{H1:β->Qc}(n:Nat)(hf:prog.funcs[f]?=AC fn)(hb:fn.body=AC c)(hN:fn.ntmps=N)(hA:Nat.ble (AI args) N=AE)(h:KS F6 (AI H) N n (.code c) [] (Kj 0 args) H=AC (c',k',env',H'))(g:∀r,F=AC r->Hd prog (AI H) N c' k' env' H' (Jb prog (AI H) fn (RQ w H1 r))):Kp prog F f args H w H1:=Kp.b hf hb hN hA λr e=>G0 n h (g r e)
theorem D(n:Nat)(h:dO F6 N m l ds env H n (AI xs) r xs=AC (r',xs'))(k:DS prog N m l ds env H K r' xs'):DS prog N m l ds env H K r xs:=lu Iv n _ rfl h k
theorem Iz(h:CJ L i=AC v)(q:SB o env=AC (d,t,k,L.map e,kk,i))(g:WO prog h0 N all l (up env d (.rp (e v))) H Q)(ht:H8 Im.sl t=AC (et,k):=by rfl)(hg:Yd all o env=AC true:=by rfl)(hN:Nat.blt d N=true:=by rfl):WO prog h0 N all (o::l) env H Q:=vF Rd h q g ht hg hN
theorem FU{cs:AA A}(h:CJ L i=AC v)(he:e v=cs)(q:SB o env=AC (d,t,k,L.map e,kk,i))(g:WO prog h0 N all l (up env d (.rp cs)) H Q)(ht:H8 Im.sl t=AC (et,k):=by rfl)(hg:Yd all o env=AC true:=by rfl)(hN:Nat.blt d N=true:=by rfl):WO prog h0 N all (o::l) env H Q:=Ize Rd h he q g ht hg hN
theorem Lm{k':Nat}(q:R9 o env=AC (d,t,.mk (.q k (L.map e))))(g:WO prog h0 N all l (up env d (I (AI L))) H Q)(ht:H8 Im.sl t=AC (et,k'):=by rfl)(hg:Yd all o env=AC true:=by rfl)(hN:Nat.blt d N=true:=by rfl):WO prog h0 N all (o::l) env H Q:=Lmz Rd q g ht hg hN
theorem Lg{k:AA Kf}{i k1:Nat}(n:Nat)(q:R9 o env=AC (d,t,.mk (.q i (L.map e))))(hm:KS F6 h0 N n (.ops all l) k (up env d (I (AI L))) H=AC (c',k',env',H'))(g:Hd prog h0 N c' k' env' H' Q)(ht:H8 Im.sl t=AC (et,k1):=by rfl)(hg:Yd all o env=AC true:=by rfl)(hN:Nat.blt d N=true:=by rfl):WO prog h0 N all (o::l) env H (kq prog h0 N k Q):=Lm q (Go n hm g) ht hg hN
theorem Cz{β γ:Type}{F:AB β}{F':β->AB γ}{r:γ}{w:β->A}(π:AA Nat)(h:F.bind F'=AC r)(hC:∀v,F=AC v->C prog f argsc Hc (RQ w (λ_=>Hc) v))(hop:KQ Im o env=AC (d,f,args))(g:∀v,F=AC v->F' v=AC r->WO prog h0 N all l (up env d (w v)) H Q)(hv:∀v,RV (w v)=AC (.mk (w v)):=by exact λ_=>rfl)(hargs:args=JG (Cj π (AI H)) argsc:=by rfl)(hH:π.map (λp=>H[p]?)=(Hc.map (QX (Cj π (AI H)))).map some:=by rfl)(hπ:π.Nodup:=by decide)(hg:Yd all o env=AC true:=by rfl)(hN:Nat.blt d N=true:=by rfl)(hh:Nat.ble h0 (AI H)=true:=by rfl):WO prog h0 N all (o::l) env H Q:=Czz Rd π h hC hop g hv hargs hH hπ hg hN hh
theorem Cb{β γ:Type}{F:AB β}{F':β->AB γ}{r:γ}{w:β->A}(h:F.bind F'=AC r)(hC:∀v,F=AC v->C prog f argsc [] (RQ w Ze v))(hop:KQ Im o env=AC (d,f,args))(hL:Dt H args argsc)(g:∀v,F=AC v->F' v=AC r->WO prog h0 N all l (up env d (w v)) H Q)(hv:∀v,Ys (w v)=true:=by exact λ_=>rfl)(hg:Yd all o env=AC true:=by rfl)(hN:Nat.blt d N=true:=by rfl):WO prog h0 N all (o::l) env H Q:=Cbz Rd h hC hop hL g hv hg hN
theorem Dz{β γ:Type}{F:AB β}{F':β->AB γ}{r:γ}{w:β->A}(π:AA Nat)(h:F.bind F'=AC r)(hC:∀v,F=AC v->C prog f argsc Hc (RQ w (λ_=>Hc) v))(hop:KQ Im o (Q4 (Qi o) 0 ds xs env)=AC (d,f,args))(g:∀v,F=AC v->F' v=AC r->DS prog N m ll ds env H K l (xs++[w v]))(hv:∀v,RV (w v)=AC (.mk (w v)):=by exact λ_=>rfl)(hargs:args=JG (Cj π (AI H)) argsc:=by rfl)(hH:π.map (λp=>H[p]?)=(Hc.map (QX (Cj π (AI H)))).map some:=by rfl)(hπ:π.Nodup:=by decide)(hg:Yd ll.toArray o (Q4 (Qi o) 0 ds xs env)=AC true:=by rfl)(hN:Nat.blt d N=true:=by rfl)(hx:Nat.blt (AI xs) m=true:=by rfl):DS prog N m ll ds env H K (o::l) xs:=DzZ Rd π h hC hop g hv hargs hH hπ hg hN hx
theorem DT(m:Nat)(hc:Go.Sw.draw0 l m N (I4 m 0 l)=AE)(h:DS prog N m l (I4 m 0 l) env H (λr e H=>WO prog h0 N l.toArray r e H Q) l [])(h0B:Nat.ble h0 (AI H)=true:=by rfl):TC prog h0 N (.region id l.toArray AE) env H Q:=Qpy (k:=[]) m DD hc h0B h
theorem Da{cat:AA Nat}(n:Nat)(h:dS F6 N m cat l ds env H n (AI xs) r xs=AC (r',xs'))(k:DA prog N m cat l ds env H K r' xs'):DA prog N m cat l ds env H K r xs:=lq Iv n _ rfl h k
theorem Db{cat:AA Nat}(n:Nat)(h:So F6 N cat l ds env H1 n (AI xs) r xs=AC (r',xs'))(k:DB prog N m cat l ds env H H1 K r' xs'):DB prog N m cat l ds env H H1 K r xs:=eA Iv n _ rfl h k
theorem Dk(k:Nat){B:AA (Nat×AB CV)}(h:Sp F6 N m cat l ds env n B.isEmpty k (AI xs) (AI Hs) Hs X r xs=AC (Hs',r',xs'))(g:DK prog N m bs cat l ds env n K B Hs' X r' xs'):DK prog N m bs cat l ds env n K B Hs X r xs:=eB Iv (λh=>List.isEmpty_iff.1 h) k _ _ rfl rfl h g
theorem W8{B:AA (Nat×AB CV)}{lo hi:Nat}(h:ZF F6 o (Q4 (Qi o) 0 ds xs env) x (hi+1-lo) (X::Hs))(k:DK prog N m bs cat l ds env n K B Hs X r (xs++[x]))(hc:YI cat (AI xs)=AC (0,lo,hi):=by rfl)(hd:o.dst=AC d:=by rfl)(hcH:Nat.beq hi (AI Hs)=true:=by rfl)(hg:Yd ⟨l⟩ o (Q4 (Qi o) 0 ds xs env)=AC true:=by rfl)(hN:Nat.blt d N=true:=by rfl)(hle:Nat.ble lo hi=true:=by rfl):DK prog N m bs cat l ds env n K B Hs X (o::r) xs:=DK.vs Iv h k hc hd hcH hg hN hle
theorem HT(m:Nat)(bs:AA Nat)(cat:M_)(hc:HN l m N (I4 m 0 l) (oN cat) (oD bs cat) (fw bs) (Q_ cat)=AE)(h:DK prog N m bs cat l (I4 m 0 l) env (AI H) (λr e H=>WO prog h0 N l.toArray r e H Q) [] [] H l [])(hcl:Nat.beq (AI cat) m=true:=by rfl)(h0B:Nat.ble h0 (AI H)=true:=by rfl):TC prog h0 N (.region id l.toArray AE) env H Q:=Qpz m bs cat DD hc hcl h0B h
theorem KI{B:AA (Nat×AB CV)}{lo hi b:Nat}(h:ZF F6 o (Q4 (Qi o) 0 ds xs env) x (AI Hs+1-lo) (X::Hs))(k:DK prog N m bs cat l ds env n K ((b,X[b]?)::B) Hs X r (xs++[x]))(hc:YI cat (AI xs)=AC (0,lo,hi):=by rfl)(hl:gM o (Q4 (Qi o) 0 ds xs env)=AC b:=by rfl)(hd:o.dst=AC d:=by rfl)(hlo:Nat.ble lo (AI Hs)=true:=by rfl)(hhi:Nat.ble hi (AI bs)=true:=by rfl)(hg:Yd ⟨l⟩ o (Q4 (Qi o) 0 ds xs env)=AC true:=by rfl)(hN:Nat.blt d N=true:=by rfl):DK prog N m bs cat l ds env n K B Hs X (o::r) xs:=Qq9 Iv hl h k hc hd hlo hhi hg hN
theorem P0(m b:Nat)(cat:AA Nat)(hc:HN l m N (I4 m 0 l) (oO cat) (oE b cat) [[],[b]] (RA cat)=AE)(h:DA prog N m cat l (I4 m 0 l) env H (λr e H=>WO prog h0 N l.toArray r e H Q) l [])(hcl:Nat.beq (AI cat) m=true:=by rfl)(h0B:Nat.ble h0 (AI H)=true:=by rfl):TC prog h0 N (.region id l.toArray AE) env H Q:=QpA m b cat DD hc hcl h0B h
theorem Cd{β γ:Type}{F:AB β}{F':β->AB γ}{r:γ}{w:β->A}{Hr:β->Qc}(π:AA Nat)(h:F.bind F'=AC r)(hC:∀v,F=AC v->C prog f argsc Hc (RQ w Hr v))(hop:KQ Im o env=AC (d,f,args))(g:∀v,F=AC v->F' v=AC r->WO prog h0 N all l (up env d (YZ (Cj π (AI H)) (w v))) (Q9 H π ((Hr v).map (QX (Cj π (AI H))))) Q)(hargs:args=JG (Cj π (AI H)) argsc:=by rfl)(hH:π.map (λp=>H[p]?)=(Hc.map (QX (Cj π (AI H)))).map some:=by rfl)(hπ:π.Nodup:=by decide)(hg:Yd all o env=AC true:=by rfl)(hN:Nat.blt d N=true:=by rfl)(hh:Nat.ble h0 (AI H)=true:=by rfl):WO prog h0 N all (o::l) env H Q:=Cdz Rd π h hC hop g hargs hH hπ hg hN hh
theorem v0{i:Nat}(hx:xs[i]?=AC x)(h:gR i8 N l ds xs env0 H i=AC x):Jl prog N l ds xs env0 hB hE i H H:=vQ Iv.ty hx h
theorem ov{i c:Nat}(k:Oq prog N l ds xs env0 H (i+1) c)(hx:xs[i]?=AC x:=by rfl)(h:gR i8 N l ds xs env0 H i=AC x:=by rfl):Oq prog N l ds xs env0 H i (c+1):=.c (vQ Iv.ty hx h) k
end
theorem Zx{T:Type}{X:FW T}{st:HM T}{h0 N:Nat}{c:Code}{c':Cf}{k':AA Kf}{env env':Env}{H H':Qc}{Q:YQ T}(n:Nat)(h:ZI F6 h0 N n (.code c) [] env H=AC (c',k',env',H'))(g:S_ X prog h0 N c' k' env' H' st Q):C0 X prog h0 N c env H st Q:=iF Iv n h g
theorem ip{T:Type}{X:FW T}{st:HM T}{h0 N:Nat}{k:AA Kf}{all:Array AM}{l:AA AM}{c':Cf}{k':AA Kf}{env env':Env}{H H':Qc}{Q:YQ T}(n:Nat)(h:ZI F6 h0 N n (.ops all l) k env H=AC (c',k',env',H'))(g:S_ X prog h0 N c' k' env' H' st Q):FS X prog h0 N all l env H st (NX X prog h0 N k Q):=iF Iv n h g
theorem Hn{T:Type}{X:FW T}{st:HM T}{h0 N:Nat}{k:AA Kf}{x:LV}{c':Cf}{k':AA Kf}{env env':Env}{H H':Qc}{Q:YQ T}(n:Nat)(h:ZI F6 h0 N n (.out x) k env H=AC (c',k',env',H'))(g:S_ X prog h0 N c' k' env' H' st Q):NX X prog h0 N k Q x env H st:=iF Iv n h g
def D3:Go.Shelf.Ren:=⟨λ|144=>313|143=>326|219=>329|217=>331|225=>332|224=>333|267=>334|266=>335|314=>336|n=>n,λ|9=>9|4=>4|3=>3|5=>5|46=>223|146=>303|51=>302|n=>n,λ|1=>0|n=>n⟩
theorem QdG:Go.Proofs.Lays.n144 prog D3:=by
  constructor<;>first|kernel_rfl|(intro;kernel_rfl)|exact gi (by kernel_rfl) (by kernel_rfl)
def FC:Go.Shelf.Ren:=⟨λ|21=>220|27=>279|28=>280|35=>311|39=>324|n=>n,λ|22=>73|3=>3|4=>4|0=>0|n=>n,λ|n=>n⟩
theorem QeA:Go.Proofs.Lays2.n21 prog FC:=by
  constructor<;>first|kernel_rfl|(intro;kernel_rfl)|exact gi (by kernel_rfl) (by kernel_rfl)
def Fh:Go.Shelf.Ren:=⟨λ|6=>43|15=>104|14=>103|28=>177|29=>178|20=>169|21=>170|22=>171|23=>172|24=>173|25=>174|26=>175|27=>176|46=>263|47=>264|48=>265|49=>266|50=>267|57=>304|n=>n,λ|22=>55|24=>75|25=>154|3=>3|39=>223|0=>0|53=>302|55=>305|4=>4|46=>311|45=>310|50=>315|5=>5|9=>9|66=>397|70=>401|76=>427|77=>240|n=>n,λ|n=>n⟩
theorem Qhz:Go.Proofs.SlLaysF0.n6 prog Fh:=by
  constructor<;>first|kernel_rfl|(intro;kernel_rfl)|exact gi (by kernel_rfl) (by kernel_rfl)
def Ff:Go.Shelf.Ren:=⟨λ|6=>57|15=>104|14=>116|28=>177|29=>178|20=>184|21=>185|22=>186|23=>187|24=>188|25=>189|26=>190|27=>191|46=>269|47=>264|48=>265|49=>270|50=>271|57=>305|n=>n,λ|22=>51|24=>77|25=>164|3=>3|39=>223|0=>0|53=>302|55=>305|4=>4|46=>311|45=>310|50=>315|5=>5|9=>9|66=>397|70=>401|76=>427|77=>240|n=>n,λ|n=>n⟩
theorem Qhy:Go.Proofs.SlLaysF0.n6 prog Ff:=by
  constructor<;>first|kernel_rfl|(intro;kernel_rfl)|exact gi (by kernel_rfl) (by kernel_rfl)
end Go.Sw
